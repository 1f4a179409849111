/- InverseTwice holds where what -/
import Derived.Test.YtpkfpbpbkabkdaaGreatLawTwice
set_option linter.unusedVariables false
namespace Go.Proofs.YtpkfpbpbkabkdaaGreat.inverseTwice
open Go.Vs Go.ChangeShapes Go.WideShapes Go.ChangeAt Go.RowKit
set_option maxRecDepth 100000 in
theorem Xx(H:Type)(ec:TypeId×Value→H)(W:World)(base:Nat)(args:Array Value)(ds gs:List (DataW H))(before:List MemPlace) (yx:∀(j:Nat) t v,Tryz.f12.params[j]? = some t→args[j]? = some v→Value.okWide Tryz.prog W .any base t v) (hW:DataW.Whole ec Tryz.prog Tryz.f12.params.toList Rows.inverseTwiceSpec.vars false W args.toList ds gs before) (hk:Rows.uptoSmall H (ds++gs)=true) :
  Calls Tryz.prog 12 args W fun e W'=>∃v,e=.returned v∧Rows.inverseTwiceSpec.post ec Tryz.prog Tryz.f12 false true false false W args v W':=by
 have hW':=hW;obtain⟨p,q,hA0,hV,rfl,hfz,Cq⟩:=hW;have hA:DataW.TrodAll ec Tryz.prog W 0 (fun _=>true) true Tryz.f12.params.toList args.toList ds p:=hA0;rw[Tryz.params12]at hA yx;obtain⟨v0,v1,d0,d1,p0,p1,rfl,rfl,rfl,h0,h1⟩:=trodAll_two hA;obtain⟨rfl,rfl⟩:=trodVars_none hV;obtain⟨x0,r0,w0,b0⟩:=LF (d:=12) (k:=mr) (by kernel_rfl) (yx 0 _ v0 rfl rfl) h0;obtain⟨x1,r1,w1,b1⟩:=LF (d:=12) (k:=He) (by kernel_rfl) (yx 1 _ v1 rfl rfl) h1;have hb:cF (mr) x0+cF (He) x1≤1048576:=by have h:=of_decide_eq_true hk;simp only[List.append_nil,Rows.uptoBulkAll]at h;omega
 have hc:=acL (by kernel_rfl) (ac1 x0 x1 w0 w1 hb);have hr:ax (Old W) MS iq W (GW xX (x0,x1,())) [v0,v1]:=by show ax (Old W) MS iq W [cJ (mr) x0,cJ (He) x1] [v0,v1];simp only[ax];exact⟨v0,[v1],rfl,r0,v1,[],rfl,r1,rfl⟩
 refine(RT (ks:=[.val (mr),.val (He)]) (x:=(x0,x1,())) hc hr).mono fun e W' ⟨he,hs⟩=>⟨_,he,?_⟩;exact VH kids full (by decide +kernel) rfl (by kernel_rfl) rfl rfl hW' hs
set_option maxRecDepth 100000 in
theorem lifted(os:Os)(started:os.Started)(H:Type)(ec:TypeId×Value→H)(F:Stop.Interp) :
  ReturnsInHanded {} Tryz.checked os 12 .any ((Rows.OpenSpec.upto Rows.inverseTwiceSpec).pre6 ec Tryz.prog Tryz.f12 Rows.inverseTwiceUptoRow.domain false) (((Rows.OpenSpec.upto Rows.inverseTwiceSpec).at F).post ec Tryz.prog Tryz.f12 false true false false):=by
 refine returnsInHanded_of_cond (C:=Tryz.checked) (s:=Rows.OpenSpec.upto Rows.inverseTwiceSpec) (k:=Rows.uptoSmall) rfl own started (by kernel_rfl) Tryz.func12 (OpenSpec.witness (enc:=ec) (C:=Tryz.checked) (s:=Rows.OpenSpec.upto Rows.inverseTwiceSpec) (k:=Rows.uptoSmall) rfl false ⟨#[],#[.agg #[.slice none 0 0,.slice none 0 0,.slice none 0 0],.agg #[.slice none 0 0]],[]⟩ 8 (by kernel_rfl) (by kernel_rfl) (by kernel_rfl) (x:=([.agg [.agg [.nil,.nil],.nil],.agg [.nil]],[],[])) (by kernel_rfl) rfl (by kernel_rfl)) ?_;intro W base args ds gs before yx hW _ hk _;exact Xx H ec W base args ds gs before yx hW hk
theorem JX:(Rows.inverseTwiceUptoRow.inPlace==Tryz.pinned.checked.prog.inPlace 12)=true∧(Rows.inverseTwiceUptoRow.unfollowed==Tryz.pinned.checked.prog.unfollowed 12)=true∧(Rows.inverseTwiceUptoRow.recurses==Tryz.pinned.checked.prog.recurses 12)=true∧(Rows.inverseTwiceUptoRow.named==Tryz.pinned.checked.prog.varsNamed 12)=true :=⟨by kernel_rfl,by kernel_rfl,by kernel_rfl,by kernel_rfl⟩
theorem Xy:laidOutB Tryz.pinned.checked.prog=true∧mapsRowed Tryz.pinned.checked.prog=true:=⟨by kernel_rfl,by kernel_rfl⟩
theorem JY:(Rows.inverseTwiceUptoRow.lifted==Tryz.pinned.checked.prog.liftsFinal)=true∧Tryz.pinned.checked.prog.stopsHeard=true∧Tryz.pinned.checked.prog.mayEnter=true∧(Tryz.pinned.checked.prog.make==some Rows.inverseTwiceUptoRow.make)=true :=⟨by kernel_rfl,by kernel_rfl,by kernel_rfl,by kernel_rfl⟩
theorem told:joinedFacts Tryz.pinned.checked.prog 12 Tryz.f12 (Rows.OpenSpec.upto Rows.inverseTwiceSpec).bare Rows.inverseTwiceUptoRow=true:=by unfold joinedFacts;rw[JX.1,JX.2.1,JX.2.2.1,JX.2.2.2,Xy.1,Xy.2,JY.1,JY.2.1,JY.2.2.1,JY.2.2.2];kernel_rfl
theorem fe:Rows.inverseTwiceUptoRow.holds Tryz.pinned (Rows.OpenSpec.upto Rows.inverseTwiceSpec) :=OpenClaim.holds_of_cond 12 Tryz.f12 rfl rfl rfl rfl rfl rfl rfl ⟨rfl,rfl,rfl,rfl,rfl⟩ rfl rfl rfl rfl rfl (by kernel_rfl) Tryz.func12 told (of_decide_eq_true (by kernel_rfl)) (by unfold Func.isWrapper;first|(rw[if_pos (by decide +kernel)];kernel_rfl)|(rw[if_neg (by decide +kernel)];exact⟨rfl,rfl⟩)) (fun os started H enc _ F=>lifted os started H enc F)
theorem proved:Rows.InverseTwiceUptoSaid :=fe
end Go.Proofs.YtpkfpbpbkabkdaaGreat.inverseTwice
