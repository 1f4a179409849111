/- FoldBytes holds where what it -/
import Derived.Test.YtoleelddkocpkaaGreatLawBytes
set_option linter.unusedVariables false
set_option linter.unusedSimpArgs false
namespace Go.Proofs.YtoleelddkocpkaaGreat.foldBytes
open Go.Vs Go.ChangeShapes Go.WideShapes Go.ChangeAt Go.RowKit
set_option maxRecDepth 100000 in
theorem Wa(H:Type)(ec:TypeId×Value→H)(W:World)(base:Nat)(args:Array Value)(ds gs:List (DataW H))(before:List MemPlace) (w9:∀(j:Nat) t v,Tryz.f5.params[j]? = some t→args[j]? = some v→Value.okWide Tryz.prog W .any base t v) (hW:DataW.Whole ec Tryz.prog Tryz.f5.params.toList Rows.foldBytesSpec.vars false W args.toList ds gs before) (hk:Rows.uptoSmall H (ds++gs)=true) :
  Calls Tryz.prog 5 args W fun e W'=>∃v,e=.returned v∧Rows.foldBytesSpec.post ec Tryz.prog Tryz.f5 false true false false W args v W':=by
 have hW':=hW;obtain⟨p,q,hA0,hV,rfl,hfz,Et⟩:=hW;have hA:DataW.TrodAll ec Tryz.prog W 0 (fun _=>true) true Tryz.f5.params.toList args.toList ds p:=hA0;rw[Tryz.params5]at hA w9;obtain⟨v0,v1,d0,d1,p0,p1,rfl,rfl,rfl,h0,h1⟩:=trodAll_two hA;obtain⟨rfl,rfl⟩:=trodVars_none hV;obtain⟨x0,r0,w0,b0⟩:=Kn (d:=12) (k:=.sl oP) (by kernel_rfl) (w9 0 _ v0 rfl rfl) h0;obtain⟨x1,r1,w1,b1⟩:=Kn (d:=12) (k:=.sl oP) (by kernel_rfl) (w9 1 _ v1 rfl rfl) h1;have hb:fh (.sl oP) x0+fh (.sl oP) x1≤1048576:=by have h:=of_decide_eq_true hk;simp only[List.append_nil,Rows.uptoBulkAll]at h;omega
 have hc:=abE (by kernel_rfl) (abL x0 x1 w0 w1 hb);have hr:ar (Old W) Lq gE W (Fz F6 (x0,x1,())) [v0,v1]:=by show ar (Old W) Lq gE W [b7 (.sl oP) x0,b7 (.sl oP) x1] [v0,v1];simp only[ar];exact⟨v0,[v1],rfl,r0,v1,[],rfl,r1,rfl⟩
 refine(Qq (ks:=[.val (.sl oP),.val (.sl oP)]) (x:=(x0,x1,())) hc hr).mono fun e W' ⟨he,hs⟩=>⟨_,he,?_⟩;exact Uk kids full (by decide +kernel) rfl (by kernel_rfl) rfl rfl hW' hs
set_option maxRecDepth 100000 in
theorem lifted(os:Os)(started:os.Started)(H:Type)(ec:TypeId×Value→H)(F:Stop.Interp) :
  ReturnsInHanded {} Tryz.checked os 5 .any ((Rows.OpenSpec.upto Rows.foldBytesSpec).pre6 ec Tryz.prog Tryz.f5 Rows.foldBytesUptoRow.domain false) (((Rows.OpenSpec.upto Rows.foldBytesSpec).at F).post ec Tryz.prog Tryz.f5 false true false false):=by
 refine returnsInHanded_of_cond (C:=Tryz.checked) (s:=Rows.OpenSpec.upto Rows.foldBytesSpec) (k:=Rows.uptoSmall) rfl own started (by kernel_rfl) Tryz.func5 (OpenSpec.witness (enc:=ec) (C:=Tryz.checked) (s:=Rows.OpenSpec.upto Rows.foldBytesSpec) (k:=Rows.uptoSmall) rfl false ⟨#[],#[.slice none 0 0,.slice none 0 0],[]⟩ 8 (by kernel_rfl) (by kernel_rfl) (by kernel_rfl) (x:=([.nil,.nil],[],[])) (by kernel_rfl) rfl (by kernel_rfl)) ?_;intro W base args ds gs before w9 hW _ hk _;exact Wa H ec W base args ds gs before w9 hW hk
theorem Ir:(Rows.foldBytesUptoRow.inPlace==Tryz.pinned.checked.prog.inPlace 5)=true∧(Rows.foldBytesUptoRow.unfollowed==Tryz.pinned.checked.prog.unfollowed 5)=true∧(Rows.foldBytesUptoRow.recurses==Tryz.pinned.checked.prog.recurses 5)=true∧(Rows.foldBytesUptoRow.named==Tryz.pinned.checked.prog.varsNamed 5)=true :=⟨by kernel_rfl,by kernel_rfl,by kernel_rfl,by kernel_rfl⟩
theorem Wb:laidOutB Tryz.pinned.checked.prog=true∧mapsRowed Tryz.pinned.checked.prog=true:=⟨by kernel_rfl,by kernel_rfl⟩
theorem Is:(Rows.foldBytesUptoRow.lifted==Tryz.pinned.checked.prog.liftsFinal)=true∧Tryz.pinned.checked.prog.stopsHeard=true∧Tryz.pinned.checked.prog.mayEnter=true∧(Tryz.pinned.checked.prog.make==some Rows.foldBytesUptoRow.make)=true :=⟨by kernel_rfl,by kernel_rfl,by kernel_rfl,by kernel_rfl⟩
theorem told:joinedFacts Tryz.pinned.checked.prog 5 Tryz.f5 (Rows.OpenSpec.upto Rows.foldBytesSpec).bare Rows.foldBytesUptoRow=true:=by unfold joinedFacts;rw[Ir.1,Ir.2.1,Ir.2.2.1,Ir.2.2.2,Wb.1,Wb.2,Is.1,Is.2.1,Is.2.2.1,Is.2.2.2];kernel_rfl
theorem alT:Rows.foldBytesUptoRow.holds Tryz.pinned (Rows.OpenSpec.upto Rows.foldBytesSpec) :=OpenClaim.holds_of_cond 5 Tryz.f5 rfl rfl rfl rfl rfl rfl rfl ⟨rfl,rfl,rfl,rfl,rfl⟩ rfl rfl rfl rfl rfl (by kernel_rfl) Tryz.func5 told (of_decide_eq_true (by kernel_rfl)) (by unfold Func.isWrapper;first|(rw[if_pos (by decide +kernel)];kernel_rfl)|(rw[if_neg (by decide +kernel)];exact⟨rfl,rfl⟩)) (fun os started H enc _ F=>lifted os started H enc F)
theorem proved:Rows.FoldBytesUptoSaid :=alT
end Go.Proofs.YtoleelddkocpkaaGreat.foldBytes
