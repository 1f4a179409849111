/- InverseBack holds where what -/
import Derived.Test.YtpkfpbpbkabkdaaGreatLawBack
set_option linter.unusedVariables false
namespace Go.Proofs.YtpkfpbpbkabkdaaGreat.inverseBack
open Go.Vs Go.ChangeShapes Go.WideShapes Go.ChangeAt Go.RowKit
set_option maxRecDepth 100000 in
theorem Xo(H:Type)(ec:TypeId×Value→H)(W:World)(base:Nat)(args:Array Value)(ds gs:List (DataW H))(before:List MemPlace) (yq:∀(j:Nat) t v,Tryz.f11.params[j]? = some t→args[j]? = some v→Value.okWide Tryz.prog W .any base t v) (hW:DataW.Whole ec Tryz.prog Tryz.f11.params.toList Rows.inverseBackSpec.vars false W args.toList ds gs before) (hk:Rows.uptoSmall H (ds++gs)=true) :
  Calls Tryz.prog 11 args W fun e W'=>∃v,e=.returned v∧Rows.inverseBackSpec.post ec Tryz.prog Tryz.f11 false true false false W args v W':=by
 have hW':=hW;obtain⟨p,q,hA0,hV,rfl,hfz,Ck⟩:=hW;have hA:DataW.TrodAll ec Tryz.prog W 0 (fun _=>true) true Tryz.f11.params.toList args.toList ds p:=hA0;rw[Tryz.params11]at hA yq;obtain⟨v0,v1,d0,d1,p0,p1,rfl,rfl,rfl,h0,h1⟩:=trodAll_two hA;obtain⟨rfl,rfl⟩:=trodVars_none hV;obtain⟨x0,r0,w0,b0⟩:=LA (d:=12) (k:=mF) (by kernel_rfl) (yq 0 _ v0 rfl rfl) h0;obtain⟨x1,r1,w1,b1⟩:=LA (d:=12) (k:=G5) (by kernel_rfl) (yq 1 _ v1 rfl rfl) h1;have hb:cF (mF) x0+cF (G5) x1≤1048576:=by have h:=of_decide_eq_true hk;simp only[List.append_nil,Rows.uptoBulkAll]at h;omega
 have hc:=acE (by kernel_rfl) (acU x0 x1 w0 w1 hb);have hr:aw (Old W) MN iq W (GM Hd (x0,x1,())) [v0,v1]:=by show aw (Old W) MN iq W [cJ (mF) x0,cJ (G5) x1] [v0,v1];simp only[aw];exact⟨v0,[v1],rfl,r0,v1,[],rfl,r1,rfl⟩
 refine(RF (ks:=[.val (mF),.val (G5)]) (x:=(x0,x1,())) hc hr).mono fun e W' ⟨he,hs⟩=>⟨_,he,?_⟩;exact Vx kids full (by decide +kernel) rfl (by kernel_rfl) rfl rfl hW' hs
set_option maxRecDepth 100000 in
theorem lifted(os:Os)(started:os.Started)(H:Type)(ec:TypeId×Value→H)(F:Stop.Interp) :
  ReturnsInHanded {} Tryz.checked os 11 .any ((Rows.OpenSpec.upto Rows.inverseBackSpec).pre6 ec Tryz.prog Tryz.f11 Rows.inverseBackUptoRow.domain false) (((Rows.OpenSpec.upto Rows.inverseBackSpec).at F).post ec Tryz.prog Tryz.f11 false true false false):=by
 refine returnsInHanded_of_cond (C:=Tryz.checked) (s:=Rows.OpenSpec.upto Rows.inverseBackSpec) (k:=Rows.uptoSmall) rfl own started (by kernel_rfl) Tryz.func11 (OpenSpec.witness (enc:=ec) (C:=Tryz.checked) (s:=Rows.OpenSpec.upto Rows.inverseBackSpec) (k:=Rows.uptoSmall) rfl false ⟨#[],#[.agg #[.slice none 0 0,.slice none 0 0,.slice none 0 0],.agg #[.slice none 0 0]],[]⟩ 8 (by kernel_rfl) (by kernel_rfl) (by kernel_rfl) (x:=([.agg [.agg [.nil,.nil],.nil],.agg [.nil]],[],[])) (by kernel_rfl) rfl (by kernel_rfl)) ?_;intro W base args ds gs before yq hW _ hk _;exact Xo H ec W base args ds gs before yq hW hk
theorem JR:(Rows.inverseBackUptoRow.inPlace==Tryz.pinned.checked.prog.inPlace 11)=true∧(Rows.inverseBackUptoRow.unfollowed==Tryz.pinned.checked.prog.unfollowed 11)=true∧(Rows.inverseBackUptoRow.recurses==Tryz.pinned.checked.prog.recurses 11)=true∧(Rows.inverseBackUptoRow.named==Tryz.pinned.checked.prog.varsNamed 11)=true :=⟨by kernel_rfl,by kernel_rfl,by kernel_rfl,by kernel_rfl⟩
theorem Xp:laidOutB Tryz.pinned.checked.prog=true∧mapsRowed Tryz.pinned.checked.prog=true:=⟨by kernel_rfl,by kernel_rfl⟩
theorem JS:(Rows.inverseBackUptoRow.lifted==Tryz.pinned.checked.prog.liftsFinal)=true∧Tryz.pinned.checked.prog.stopsHeard=true∧Tryz.pinned.checked.prog.mayEnter=true∧(Tryz.pinned.checked.prog.make==some Rows.inverseBackUptoRow.make)=true :=⟨by kernel_rfl,by kernel_rfl,by kernel_rfl,by kernel_rfl⟩
theorem told:joinedFacts Tryz.pinned.checked.prog 11 Tryz.f11 (Rows.OpenSpec.upto Rows.inverseBackSpec).bare Rows.inverseBackUptoRow=true:=by unfold joinedFacts;rw[JR.1,JR.2.1,JR.2.2.1,JR.2.2.2,Xp.1,Xp.2,JS.1,JS.2.1,JS.2.2.1,JS.2.2.2];kernel_rfl
theorem fe:Rows.inverseBackUptoRow.holds Tryz.pinned (Rows.OpenSpec.upto Rows.inverseBackSpec) :=OpenClaim.holds_of_cond 11 Tryz.f11 rfl rfl rfl rfl rfl rfl rfl ⟨rfl,rfl,rfl,rfl,rfl⟩ rfl rfl rfl rfl rfl (by kernel_rfl) Tryz.func11 told (of_decide_eq_true (by kernel_rfl)) (by unfold Func.isWrapper;first|(rw[if_pos (by decide +kernel)];kernel_rfl)|(rw[if_neg (by decide +kernel)];exact⟨rfl,rfl⟩)) (fun os started H enc _ F=>lifted os started H enc F)
theorem proved:Rows.InverseBackUptoSaid :=fe
end Go.Proofs.YtpkfpbpbkabkdaaGreat.inverseBack
