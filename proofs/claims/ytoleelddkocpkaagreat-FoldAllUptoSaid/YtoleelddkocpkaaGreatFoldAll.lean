/- FoldAll holds where what it -/
import Derived.Test.YtoleelddkocpkaaGreatLawAll
set_option linter.unusedVariables false
set_option linter.unusedSimpArgs false
namespace Go.Proofs.YtoleelddkocpkaaGreat.foldAll
open Go.Vs Go.ChangeShapes Go.WideShapes Go.ChangeAt Go.RowKit
set_option maxRecDepth 100000 in
theorem Xo(H:Type)(ec:TypeId×Value→H)(W:World)(base:Nat)(args:Array Value)(ds gs:List (DataW H))(before:List MemPlace) (zu:∀(j:Nat) t v,Tryz.f4.params[j]? = some t→args[j]? = some v→Value.okWide Tryz.prog W .any base t v) (hW:DataW.Whole ec Tryz.prog Tryz.f4.params.toList Rows.foldAllSpec.vars false W args.toList ds gs before) (hk:Rows.uptoSmall H (ds++gs)=true) :
  Calls Tryz.prog 4 args W fun e W'=>∃v,e=.returned v∧Rows.foldAllSpec.post ec Tryz.prog Tryz.f4 false true false false W args v W':=by
 have hW':=hW;obtain⟨p,q,hA0,hV,rfl,hfz,Fe⟩:=hW;have hA:DataW.TrodAll ec Tryz.prog W 0 (fun _=>true) true Tryz.f4.params.toList args.toList ds p:=hA0;rw[Tryz.params4]at hA zu;obtain⟨v0,d0,rfl,rfl,h0⟩:=trodAll_one hA;obtain⟨rfl,rfl⟩:=trodVars_none hV;obtain⟨x0,r0,w0,b0⟩:=Vl (d:=12) (k:=.sl oD) (by kernel_rfl) (zu 0 _ v0 rfl rfl) h0;have hb:gr (.sl oD) x0≤1048576:=by have h:=of_decide_eq_true hk;simp only[List.append_nil,Rows.uptoBulkAll]at h;omega
 have hc:=acI (by kernel_rfl) (acR x0 w0 hb);have hr:ax (Old W) Mf gK W (Gn xj (x0,())) [v0]:=by show ax (Old W) Mf gK W [cj (.sl oD) x0] [v0];simp only[ax];exact⟨v0,[],rfl,r0,rfl⟩
 refine(Ru (ks:=[.val (.sl oD)]) (x:=(x0,())) hc hr).mono fun e W' ⟨he,hs⟩=>⟨_,he,?_⟩;exact Vm kids full (by decide +kernel) rfl (by kernel_rfl) rfl rfl hW' hs
set_option maxRecDepth 100000 in
theorem lifted(os:Os)(started:os.Started)(H:Type)(ec:TypeId×Value→H)(F:Stop.Interp) :
  ReturnsInHanded {} Tryz.checked os 4 .any ((Rows.OpenSpec.upto Rows.foldAllSpec).pre6 ec Tryz.prog Tryz.f4 Rows.foldAllUptoRow.domain false) (((Rows.OpenSpec.upto Rows.foldAllSpec).at F).post ec Tryz.prog Tryz.f4 false true false false):=by
 refine returnsInHanded_of_cond (C:=Tryz.checked) (s:=Rows.OpenSpec.upto Rows.foldAllSpec) (k:=Rows.uptoSmall) rfl own started (by kernel_rfl) Tryz.func4 (OpenSpec.witness (enc:=ec) (C:=Tryz.checked) (s:=Rows.OpenSpec.upto Rows.foldAllSpec) (k:=Rows.uptoSmall) rfl false ⟨#[],#[.slice none 0 0],[]⟩ 8 (by kernel_rfl) (by kernel_rfl) (by kernel_rfl) (x:=([.nil],[],[])) (by kernel_rfl) rfl (by kernel_rfl)) ?_;intro W base args ds gs before zu hW _ hk _;exact Xo H ec W base args ds gs before zu hW hk
theorem Jp:(Rows.foldAllUptoRow.inPlace==Tryz.pinned.checked.prog.inPlace 4)=true∧(Rows.foldAllUptoRow.unfollowed==Tryz.pinned.checked.prog.unfollowed 4)=true∧(Rows.foldAllUptoRow.recurses==Tryz.pinned.checked.prog.recurses 4)=true∧(Rows.foldAllUptoRow.named==Tryz.pinned.checked.prog.varsNamed 4)=true :=⟨by kernel_rfl,by kernel_rfl,by kernel_rfl,by kernel_rfl⟩
theorem Xp:laidOutB Tryz.pinned.checked.prog=true∧mapsRowed Tryz.pinned.checked.prog=true:=⟨by kernel_rfl,by kernel_rfl⟩
theorem Jq:(Rows.foldAllUptoRow.lifted==Tryz.pinned.checked.prog.liftsFinal)=true∧Tryz.pinned.checked.prog.stopsHeard=true∧Tryz.pinned.checked.prog.mayEnter=true∧(Tryz.pinned.checked.prog.make==some Rows.foldAllUptoRow.make)=true :=⟨by kernel_rfl,by kernel_rfl,by kernel_rfl,by kernel_rfl⟩
theorem told:joinedFacts Tryz.pinned.checked.prog 4 Tryz.f4 (Rows.OpenSpec.upto Rows.foldAllSpec).bare Rows.foldAllUptoRow=true:=by unfold joinedFacts;rw[Jp.1,Jp.2.1,Jp.2.2.1,Jp.2.2.2,Xp.1,Xp.2,Jq.1,Jq.2.1,Jq.2.2.1,Jq.2.2.2];kernel_rfl
theorem anv:Rows.foldAllUptoRow.holds Tryz.pinned (Rows.OpenSpec.upto Rows.foldAllSpec) :=OpenClaim.holds_of_cond 4 Tryz.f4 rfl rfl rfl rfl rfl rfl rfl ⟨rfl,rfl,rfl,rfl,rfl⟩ rfl rfl rfl rfl rfl (by kernel_rfl) Tryz.func4 told (of_decide_eq_true (by kernel_rfl)) (by unfold Func.isWrapper;first|(rw[if_pos (by decide +kernel)];kernel_rfl)|(rw[if_neg (by decide +kernel)];exact⟨rfl,rfl⟩)) (fun os started H enc _ F=>lifted os started H enc F)
theorem proved:Rows.FoldAllUptoSaid :=anv
end Go.Proofs.YtoleelddkocpkaaGreat.foldAll
