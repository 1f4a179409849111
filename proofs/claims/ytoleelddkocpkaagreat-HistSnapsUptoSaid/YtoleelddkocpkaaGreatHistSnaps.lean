/- HistSnaps holds where what it -/
import Derived.Test.YtoleelddkocpkaaGreatLawSnaps
set_option linter.unusedVariables false
set_option linter.unusedSimpArgs false
namespace Go.Proofs.YtoleelddkocpkaaGreat.histSnaps
open Go.Vs Go.ChangeShapes Go.WideShapes Go.ChangeAt Go.RowKit
set_option maxRecDepth 100000 in
theorem YB(H:Type)(ec:TypeId×Value→H)(W:World)(base:Nat)(args:Array Value)(ds gs:List (DataW H))(before:List MemPlace) (uj:∀(j:Nat) t v,Tryz.f6.params[j]? = some t→args[j]? = some v→Value.okWide Tryz.prog W .any base t v) (hW:DataW.Whole ec Tryz.prog Tryz.f6.params.toList Rows.histSnapsSpec.vars false W args.toList ds gs before) (hk:Rows.uptoSmall H (ds++gs)=true) :
  Calls Tryz.prog 6 args W fun e W'=>∃v,e=.returned v∧Rows.histSnapsSpec.post ec Tryz.prog Tryz.f6 false true false false W args v W':=by
 have hW':=hW;obtain⟨p,q,hA0,hV,rfl,hfz,GL⟩:=hW;have hA:DataW.TrodAll ec Tryz.prog W 0 (fun _=>true) true Tryz.f6.params.toList args.toList ds p:=hA0;rw[Tryz.params6]at hA uj;obtain⟨v0,v1,v2,d0,d1,d2,p0,p1,p2,rfl,rfl,rfl,h0,h1,h2⟩:=trodAll_three hA;obtain⟨rfl,rfl⟩:=trodVars_none hV;obtain⟨x0,r0,w0,b0⟩:=Fi (d:=12) (k:=.int .i64) (by kernel_rfl) (uj 0 _ v0 rfl rfl) h0;obtain⟨x1,r1,w1,b1⟩:=Fi (d:=12) (k:=pO) (by kernel_rfl) (uj 1 _ v1 rfl rfl) h1;obtain⟨x2,r2,w2,b2⟩:=Fi (d:=12) (k:=.sl (.int .u8)) (by kernel_rfl) (uj 2 _ v2 rfl rfl) h2;have hb:cf (.int .i64) x0+cf (pO) x1+cf (.sl (.int .u8)) x2≤1048576:=by have h:=of_decide_eq_true hk;simp only[List.append_nil,Rows.uptoBulkAll]at h;omega
 have hc:=aed (by kernel_rfl) (aez x0 x1 x2 w0 w1 w2 hb);have hr:az (Old W) NI iA W (HJ Ii (x0,x1,x2,())) [v0,v1,v2]:=by show az (Old W) NI iA W [cp (.int .i64) x0,cp (pO) x1,cp (.sl (.int .u8)) x2] [v0,v1,v2];simp only[az];exact⟨v0,[v1,v2],rfl,r0,v1,[v2],rfl,r1,v2,[],rfl,r2,rfl⟩
 refine(S6 (ks:=[.val (.int .i64),.val (pO),.val (.sl (.int .u8))]) (x:=(x0,x1,x2,())) hc hr).mono fun e W' ⟨he,hs⟩=>⟨_,he,?_⟩;exact WB kids full (by decide +kernel) rfl (by kernel_rfl) rfl rfl hW' hs
set_option maxRecDepth 100000 in
theorem lifted(os:Os)(started:os.Started)(H:Type)(ec:TypeId×Value→H)(F:Stop.Interp) :
  ReturnsInHanded {} Tryz.checked os 6 .any ((Rows.OpenSpec.upto Rows.histSnapsSpec).pre6 ec Tryz.prog Tryz.f6 Rows.histSnapsUptoRow.domain false) (((Rows.OpenSpec.upto Rows.histSnapsSpec).at F).post ec Tryz.prog Tryz.f6 false true false false):=by
 refine returnsInHanded_of_cond (C:=Tryz.checked) (s:=Rows.OpenSpec.upto Rows.histSnapsSpec) (k:=Rows.uptoSmall) rfl own started (by kernel_rfl) Tryz.func6 (OpenSpec.witness (enc:=ec) (C:=Tryz.checked) (s:=Rows.OpenSpec.upto Rows.histSnapsSpec) (k:=Rows.uptoSmall) rfl false ⟨#[],#[.int .i64 0,.agg #[.slice none 0 0,.slice none 0 0,.slice none 0 0],.slice none 0 0],[]⟩ 8 (by kernel_rfl) (by kernel_rfl) (by kernel_rfl) (x:=([.lit (.int .i64 0),.agg [.agg [.nil,.nil],.nil],.nil],[],[])) (by kernel_rfl) rfl (by kernel_rfl)) ?_;intro W base args ds gs before uj hW _ hk _;exact YB H ec W base args ds gs before uj hW hk
theorem KE:(Rows.histSnapsUptoRow.inPlace==Tryz.pinned.checked.prog.inPlace 6)=true∧(Rows.histSnapsUptoRow.unfollowed==Tryz.pinned.checked.prog.unfollowed 6)=true∧(Rows.histSnapsUptoRow.recurses==Tryz.pinned.checked.prog.recurses 6)=true∧(Rows.histSnapsUptoRow.named==Tryz.pinned.checked.prog.varsNamed 6)=true :=⟨by kernel_rfl,by kernel_rfl,by kernel_rfl,by kernel_rfl⟩
theorem YC:laidOutB Tryz.pinned.checked.prog=true∧mapsRowed Tryz.pinned.checked.prog=true:=⟨by kernel_rfl,by kernel_rfl⟩
theorem KF:(Rows.histSnapsUptoRow.lifted==Tryz.pinned.checked.prog.liftsFinal)=true∧Tryz.pinned.checked.prog.stopsHeard=true∧Tryz.pinned.checked.prog.mayEnter=true∧(Tryz.pinned.checked.prog.make==some Rows.histSnapsUptoRow.make)=true :=⟨by kernel_rfl,by kernel_rfl,by kernel_rfl,by kernel_rfl⟩
theorem told:joinedFacts Tryz.pinned.checked.prog 6 Tryz.f6 (Rows.OpenSpec.upto Rows.histSnapsSpec).bare Rows.histSnapsUptoRow=true:=by unfold joinedFacts;rw[KE.1,KE.2.1,KE.2.2.1,KE.2.2.2,YC.1,YC.2,KF.1,KF.2.1,KF.2.2.1,KF.2.2.2];kernel_rfl
theorem aot:Rows.histSnapsUptoRow.holds Tryz.pinned (Rows.OpenSpec.upto Rows.histSnapsSpec) :=OpenClaim.holds_of_cond 6 Tryz.f6 rfl rfl rfl rfl rfl rfl rfl ⟨rfl,rfl,rfl,rfl,rfl⟩ rfl rfl rfl rfl rfl (by kernel_rfl) Tryz.func6 told (of_decide_eq_true (by kernel_rfl)) (by unfold Func.isWrapper;first|(rw[if_pos (by decide +kernel)];kernel_rfl)|(rw[if_neg (by decide +kernel)];exact⟨rfl,rfl⟩)) (fun os started H enc _ F=>lifted os started H enc F)
theorem proved:Rows.HistSnapsUptoSaid :=aot
end Go.Proofs.YtoleelddkocpkaaGreat.histSnaps
