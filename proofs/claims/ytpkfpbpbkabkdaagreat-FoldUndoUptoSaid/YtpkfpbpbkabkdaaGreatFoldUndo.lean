/- FoldUndo holds where what it -/
import Derived.Test.YtpkfpbpbkabkdaaGreatLawUndo
set_option linter.unusedVariables false
namespace Go.Proofs.YtpkfpbpbkabkdaaGreat.foldUndo
open Go.Vs Go.ChangeShapes Go.WideShapes Go.ChangeAt Go.RowKit
set_option maxRecDepth 100000 in
theorem X0(H:Type)(ec:TypeId×Value→H)(W:World)(base:Nat)(args:Array Value)(ds gs:List (DataW H))(before:List MemPlace) (yN:∀(j:Nat) t v,Tryz.f13.params[j]? = some t→args[j]? = some v→Value.okWide Tryz.prog W .any base t v) (hW:DataW.Whole ec Tryz.prog Tryz.f13.params.toList Rows.foldUndoSpec.vars false W args.toList ds gs before) (hk:Rows.uptoSmall H (ds++gs)=true) :
  Calls Tryz.prog 13 args W fun e W'=>∃v,e=.returned v∧Rows.foldUndoSpec.post ec Tryz.prog Tryz.f13 false true false false W args v W':=by
 have hW':=hW;obtain⟨p,q,hA0,hV,rfl,hfz,Cs⟩:=hW;have hA:DataW.TrodAll ec Tryz.prog W 0 (fun _=>true) true Tryz.f13.params.toList args.toList ds p:=hA0;rw[Tryz.params13]at hA yN;obtain⟨v0,v1,d0,d1,p0,p1,rfl,rfl,rfl,h0,h1⟩:=trodAll_two hA;obtain⟨rfl,rfl⟩:=trodVars_none hV;obtain⟨x0,r0,w0,b0⟩:=LY (d:=12) (k:=.sl mI) (by kernel_rfl) (yN 0 _ v0 rfl rfl) h0;obtain⟨x1,r1,w1,b1⟩:=LY (d:=12) (k:=.sl mI) (by kernel_rfl) (yN 1 _ v1 rfl rfl) h1;have hb:gx (.sl mI) x0+gx (.sl mI) x1≤1048576:=by have h:=of_decide_eq_true hk;simp only[List.append_nil,Rows.uptoBulkAll]at h;omega
 have hc:=adh (by kernel_rfl) (adw x0 x1 w0 w1 hb);have hr:ax (Old W) Nb iy W (G8 Hy (x0,x1,())) [v0,v1]:=by show ax (Old W) Nb iy W [cM (.sl mI) x0,cM (.sl mI) x1] [v0,v1];simp only[ax];exact⟨v0,[v1],rfl,r0,v1,[],rfl,r1,rfl⟩
 refine(Sw (ks:=[.val (.sl mI),.val (.sl mI)]) (x:=(x0,x1,())) hc hr).mono fun e W' ⟨he,hs⟩=>⟨_,he,?_⟩;exact Wj kids full (by decide +kernel) rfl (by kernel_rfl) rfl rfl hW' hs
set_option maxRecDepth 100000 in
theorem lifted(os:Os)(started:os.Started)(H:Type)(ec:TypeId×Value→H)(F:Stop.Interp) :
  ReturnsInHanded {} Tryz.checked os 13 .any ((Rows.OpenSpec.upto Rows.foldUndoSpec).pre6 ec Tryz.prog Tryz.f13 Rows.foldUndoUptoRow.domain false) (((Rows.OpenSpec.upto Rows.foldUndoSpec).at F).post ec Tryz.prog Tryz.f13 false true false false):=by
 refine returnsInHanded_of_cond (C:=Tryz.checked) (s:=Rows.OpenSpec.upto Rows.foldUndoSpec) (k:=Rows.uptoSmall) rfl own started (by kernel_rfl) Tryz.func13 (OpenSpec.witness (enc:=ec) (C:=Tryz.checked) (s:=Rows.OpenSpec.upto Rows.foldUndoSpec) (k:=Rows.uptoSmall) rfl false ⟨#[],#[.slice none 0 0,.slice none 0 0],[]⟩ 8 (by kernel_rfl) (by kernel_rfl) (by kernel_rfl) (x:=([.nil,.nil],[],[])) (by kernel_rfl) rfl (by kernel_rfl)) ?_;intro W base args ds gs before yN hW _ hk _;exact X0 H ec W base args ds gs before yN hW hk
theorem J8:(Rows.foldUndoUptoRow.inPlace==Tryz.pinned.checked.prog.inPlace 13)=true∧(Rows.foldUndoUptoRow.unfollowed==Tryz.pinned.checked.prog.unfollowed 13)=true∧(Rows.foldUndoUptoRow.recurses==Tryz.pinned.checked.prog.recurses 13)=true∧(Rows.foldUndoUptoRow.named==Tryz.pinned.checked.prog.varsNamed 13)=true :=⟨by kernel_rfl,by kernel_rfl,by kernel_rfl,by kernel_rfl⟩
theorem X1:laidOutB Tryz.pinned.checked.prog=true∧mapsRowed Tryz.pinned.checked.prog=true:=⟨by kernel_rfl,by kernel_rfl⟩
theorem J9:(Rows.foldUndoUptoRow.lifted==Tryz.pinned.checked.prog.liftsFinal)=true∧Tryz.pinned.checked.prog.stopsHeard=true∧Tryz.pinned.checked.prog.mayEnter=true∧(Tryz.pinned.checked.prog.make==some Rows.foldUndoUptoRow.make)=true :=⟨by kernel_rfl,by kernel_rfl,by kernel_rfl,by kernel_rfl⟩
theorem told:joinedFacts Tryz.pinned.checked.prog 13 Tryz.f13 (Rows.OpenSpec.upto Rows.foldUndoSpec).bare Rows.foldUndoUptoRow=true:=by unfold joinedFacts;rw[J8.1,J8.2.1,J8.2.2.1,J8.2.2.2,X1.1,X1.2,J9.1,J9.2.1,J9.2.2.1,J9.2.2.2];kernel_rfl
theorem fj:Rows.foldUndoUptoRow.holds Tryz.pinned (Rows.OpenSpec.upto Rows.foldUndoSpec) :=OpenClaim.holds_of_cond 13 Tryz.f13 rfl rfl rfl rfl rfl rfl rfl ⟨rfl,rfl,rfl,rfl,rfl⟩ rfl rfl rfl rfl rfl (by kernel_rfl) Tryz.func13 told (of_decide_eq_true (by kernel_rfl)) (by unfold Func.isWrapper;first|(rw[if_pos (by decide +kernel)];kernel_rfl)|(rw[if_neg (by decide +kernel)];exact⟨rfl,rfl⟩)) (fun os started H enc _ F=>lifted os started H enc F)
theorem proved:Rows.FoldUndoUptoSaid :=fj
end Go.Proofs.YtpkfpbpbkabkdaaGreat.foldUndo
