/- FoldParts holds where what it -/
import Derived.Test.YtpkfpbpbkabkdaaGreatLawParts
set_option linter.unusedVariables false
namespace Go.Proofs.YtpkfpbpbkabkdaaGreat.foldParts
open Go.Vs Go.ChangeShapes Go.WideShapes Go.ChangeAt Go.RowKit
set_option maxRecDepth 100000 in
theorem Tu(H:Type)(ec:TypeId×Value→H)(W:World)(base:Nat)(args:Array Value)(ds gs:List (DataW H))(before:List MemPlace) (wg:∀(j:Nat) t v,Tryz.f14.params[j]? = some t→args[j]? = some v→Value.okWide Tryz.prog W .any base t v) (hW:DataW.Whole ec Tryz.prog Tryz.f14.params.toList Rows.foldPartsSpec.vars false W args.toList ds gs before) (hk:Rows.uptoSmall H (ds++gs)=true) :
  Calls Tryz.prog 14 args W fun e W'=>∃v,e=.returned v∧Rows.foldPartsSpec.post ec Tryz.prog Tryz.f14 false true false false W args v W':=by
 have hW':=hW;obtain⟨p,q,hA0,hV,rfl,hfz,zQ⟩:=hW;have hA:DataW.TrodAll ec Tryz.prog W 0 (fun _=>true) true Tryz.f14.params.toList args.toList ds p:=hA0;rw[Tryz.params14]at hA wg;obtain⟨v0,v1,d0,d1,p0,p1,rfl,rfl,rfl,h0,h1⟩:=trodAll_two hA;obtain⟨rfl,rfl⟩:=trodVars_none hV;obtain⟨x0,r0,w0,b0⟩:=Ix (d:=12) (k:=.sl rv) (by kernel_rfl) (wg 0 _ v0 rfl rfl) h0;obtain⟨x1,r1,w1,b1⟩:=Ix (d:=12) (k:=.int .i64) (by kernel_rfl) (wg 1 _ v1 rfl rfl) h1;have hb:eV (.sl rv) x0+eV (.int .i64) x1≤1048576:=by have h:=of_decide_eq_true hk;simp only[List.append_nil,Rows.uptoBulkAll]at h;omega
 have hc:=YV (by kernel_rfl) (Y4 x0 x1 w0 w1 hb);have hr:an (Old W) JI gm W (Ec vK (x0,x1,())) [v0,v1]:=by show an (Old W) JI gm W [b5 (.sl rv) x0,b5 (.int .i64) x1] [v0,v1];simp only[an];exact⟨v0,[v1],rfl,r0,v1,[],rfl,r1,rfl⟩
 refine(Om (ks:=[.val (.sl rv),.val (.int .i64)]) (x:=(x0,x1,())) hc hr).mono fun e W' ⟨he,hs⟩=>⟨_,he,?_⟩;exact Rz kids full (by decide +kernel) rfl (by kernel_rfl) rfl rfl hW' hs
set_option maxRecDepth 100000 in
theorem lifted(os:Os)(started:os.Started)(H:Type)(ec:TypeId×Value→H)(F:Stop.Interp) :
  ReturnsInHanded {} Tryz.checked os 14 .any ((Rows.OpenSpec.upto Rows.foldPartsSpec).pre6 ec Tryz.prog Tryz.f14 Rows.foldPartsUptoRow.domain false) (((Rows.OpenSpec.upto Rows.foldPartsSpec).at F).post ec Tryz.prog Tryz.f14 false true false false):=by
 refine returnsInHanded_of_cond (C:=Tryz.checked) (s:=Rows.OpenSpec.upto Rows.foldPartsSpec) (k:=Rows.uptoSmall) rfl own started (by kernel_rfl) Tryz.func14 (OpenSpec.witness (enc:=ec) (C:=Tryz.checked) (s:=Rows.OpenSpec.upto Rows.foldPartsSpec) (k:=Rows.uptoSmall) rfl false ⟨#[],#[.slice none 0 0,.int .i64 0],[]⟩ 8 (by kernel_rfl) (by kernel_rfl) (by kernel_rfl) (x:=([.nil,.lit (.int .i64 0)],[],[])) (by kernel_rfl) rfl (by kernel_rfl)) ?_;intro W base args ds gs before wg hW _ hk _;exact Tu H ec W base args ds gs before wg hW hk
theorem GI:(Rows.foldPartsUptoRow.inPlace==Tryz.pinned.checked.prog.inPlace 14)=true∧(Rows.foldPartsUptoRow.unfollowed==Tryz.pinned.checked.prog.unfollowed 14)=true∧(Rows.foldPartsUptoRow.recurses==Tryz.pinned.checked.prog.recurses 14)=true∧(Rows.foldPartsUptoRow.named==Tryz.pinned.checked.prog.varsNamed 14)=true :=⟨by kernel_rfl,by kernel_rfl,by kernel_rfl,by kernel_rfl⟩
theorem Tv:laidOutB Tryz.pinned.checked.prog=true∧mapsRowed Tryz.pinned.checked.prog=true:=⟨by kernel_rfl,by kernel_rfl⟩
theorem GJ:(Rows.foldPartsUptoRow.lifted==Tryz.pinned.checked.prog.liftsFinal)=true∧Tryz.pinned.checked.prog.stopsHeard=true∧Tryz.pinned.checked.prog.mayEnter=true∧(Tryz.pinned.checked.prog.make==some Rows.foldPartsUptoRow.make)=true :=⟨by kernel_rfl,by kernel_rfl,by kernel_rfl,by kernel_rfl⟩
theorem told:joinedFacts Tryz.pinned.checked.prog 14 Tryz.f14 (Rows.OpenSpec.upto Rows.foldPartsSpec).bare Rows.foldPartsUptoRow=true:=by unfold joinedFacts;rw[GI.1,GI.2.1,GI.2.2.1,GI.2.2.2,Tv.1,Tv.2,GJ.1,GJ.2.1,GJ.2.2.1,GJ.2.2.2];kernel_rfl
theorem ahW:Rows.foldPartsUptoRow.holds Tryz.pinned (Rows.OpenSpec.upto Rows.foldPartsSpec) :=OpenClaim.holds_of_cond 14 Tryz.f14 rfl rfl rfl rfl rfl rfl rfl ⟨rfl,rfl,rfl,rfl,rfl⟩ rfl rfl rfl rfl rfl (by kernel_rfl) Tryz.func14 told (of_decide_eq_true (by kernel_rfl)) (by unfold Func.isWrapper;first|(rw[if_pos (by decide +kernel)];kernel_rfl)|(rw[if_neg (by decide +kernel)];exact⟨rfl,rfl⟩)) (fun os started H enc _ F=>lifted os started H enc F)
theorem proved:Rows.FoldPartsUptoSaid :=ahW
end Go.Proofs.YtpkfpbpbkabkdaaGreat.foldParts
