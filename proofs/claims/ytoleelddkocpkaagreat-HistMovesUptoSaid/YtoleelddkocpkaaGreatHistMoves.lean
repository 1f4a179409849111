/- HistMoves holds where what it -/
import Derived.Test.YtoleelddkocpkaaGreatLawMoves
set_option linter.unusedVariables false
set_option linter.unusedSimpArgs false
namespace Go.Proofs.YtoleelddkocpkaaGreat.histMoves
open Go.Vs Go.ChangeShapes Go.WideShapes Go.ChangeAt Go.RowKit
set_option maxRecDepth 100000 in
theorem Xl(H:Type)(ec:TypeId×Value→H)(W:World)(base:Nat)(args:Array Value)(ds gs:List (DataW H))(before:List MemPlace) (xR:∀(j:Nat) t v,Tryz.f8.params[j]? = some t→args[j]? = some v→Value.okWide Tryz.prog W .any base t v) (hW:DataW.Whole ec Tryz.prog Tryz.f8.params.toList Rows.histMovesSpec.vars false W args.toList ds gs before) (hk:Rows.uptoSmall H (ds++gs)=true) :
  Calls Tryz.prog 8 args W fun e W'=>∃v,e=.returned v∧Rows.histMovesSpec.post ec Tryz.prog Tryz.f8 false true false false W args v W':=by
 have hW':=hW;obtain⟨p,q,hA0,hV,rfl,hfz,E9⟩:=hW;have hA:DataW.TrodAll ec Tryz.prog W 0 (fun _=>true) true Tryz.f8.params.toList args.toList ds p:=hA0;rw[Tryz.params8]at hA xR;obtain⟨v0,v1,d0,d1,p0,p1,rfl,rfl,rfl,h0,h1⟩:=trodAll_two hA;obtain⟨rfl,rfl⟩:=trodVars_none hV;obtain⟨x0,r0,w0,b0⟩:=K6 (d:=12) (k:=.sl qN) (by kernel_rfl) (xR 0 _ v0 rfl rfl) h0;obtain⟨x1,r1,w1,b1⟩:=K6 (d:=12) (k:=.int .i64) (by kernel_rfl) (xR 1 _ v1 rfl rfl) h1;have hb:fE (.sl qN) x0+fE (.int .i64) x1≤1048576:=by have h:=of_decide_eq_true hk;simp only[List.append_nil,Rows.uptoBulkAll]at h;omega
 have hc:=acR (by kernel_rfl) (ac6 x0 x1 w0 w1 hb);have hr:au (Old W) Mk gT W (Gk xp (x0,x1,())) [v0,v1]:=by show au (Old W) Mk gT W [cc (.sl qN) x0,cc (.int .i64) x1] [v0,v1];simp only[au];exact⟨v0,[v1],rfl,r0,v1,[],rfl,r1,rfl⟩
 refine(Rx (ks:=[.val (.sl qN),.val (.int .i64)]) (x:=(x0,x1,())) hc hr).mono fun e W' ⟨he,hs⟩=>⟨_,he,?_⟩;exact Vn kids full (by decide +kernel) rfl (by kernel_rfl) rfl rfl hW' hs
set_option maxRecDepth 100000 in
theorem lifted(os:Os)(started:os.Started)(H:Type)(ec:TypeId×Value→H)(F:Stop.Interp) :
  ReturnsInHanded {} Tryz.checked os 8 .any ((Rows.OpenSpec.upto Rows.histMovesSpec).pre6 ec Tryz.prog Tryz.f8 Rows.histMovesUptoRow.domain false) (((Rows.OpenSpec.upto Rows.histMovesSpec).at F).post ec Tryz.prog Tryz.f8 false true false false):=by
 refine returnsInHanded_of_cond (C:=Tryz.checked) (s:=Rows.OpenSpec.upto Rows.histMovesSpec) (k:=Rows.uptoSmall) rfl own started (by kernel_rfl) Tryz.func8 (OpenSpec.witness (enc:=ec) (C:=Tryz.checked) (s:=Rows.OpenSpec.upto Rows.histMovesSpec) (k:=Rows.uptoSmall) rfl false ⟨#[],#[.slice none 0 0,.int .i64 0],[]⟩ 8 (by kernel_rfl) (by kernel_rfl) (by kernel_rfl) (x:=([.nil,.lit (.int .i64 0)],[],[])) (by kernel_rfl) rfl (by kernel_rfl)) ?_;intro W base args ds gs before xR hW _ hk _;exact Xl H ec W base args ds gs before xR hW hk
theorem Jf:(Rows.histMovesUptoRow.inPlace==Tryz.pinned.checked.prog.inPlace 8)=true∧(Rows.histMovesUptoRow.unfollowed==Tryz.pinned.checked.prog.unfollowed 8)=true∧(Rows.histMovesUptoRow.recurses==Tryz.pinned.checked.prog.recurses 8)=true∧(Rows.histMovesUptoRow.named==Tryz.pinned.checked.prog.varsNamed 8)=true :=⟨by kernel_rfl,by kernel_rfl,by kernel_rfl,by kernel_rfl⟩
theorem Xm:laidOutB Tryz.pinned.checked.prog=true∧mapsRowed Tryz.pinned.checked.prog=true:=⟨by kernel_rfl,by kernel_rfl⟩
theorem Jg:(Rows.histMovesUptoRow.lifted==Tryz.pinned.checked.prog.liftsFinal)=true∧Tryz.pinned.checked.prog.stopsHeard=true∧Tryz.pinned.checked.prog.mayEnter=true∧(Tryz.pinned.checked.prog.make==some Rows.histMovesUptoRow.make)=true :=⟨by kernel_rfl,by kernel_rfl,by kernel_rfl,by kernel_rfl⟩
theorem told:joinedFacts Tryz.pinned.checked.prog 8 Tryz.f8 (Rows.OpenSpec.upto Rows.histMovesSpec).bare Rows.histMovesUptoRow=true:=by unfold joinedFacts;rw[Jf.1,Jf.2.1,Jf.2.2.1,Jf.2.2.2,Xm.1,Xm.2,Jg.1,Jg.2.1,Jg.2.2.1,Jg.2.2.2];kernel_rfl
theorem anK:Rows.histMovesUptoRow.holds Tryz.pinned (Rows.OpenSpec.upto Rows.histMovesSpec) :=OpenClaim.holds_of_cond 8 Tryz.f8 rfl rfl rfl rfl rfl rfl rfl ⟨rfl,rfl,rfl,rfl,rfl⟩ rfl rfl rfl rfl rfl (by kernel_rfl) Tryz.func8 told (of_decide_eq_true (by kernel_rfl)) (by unfold Func.isWrapper;first|(rw[if_pos (by decide +kernel)];kernel_rfl)|(rw[if_neg (by decide +kernel)];exact⟨rfl,rfl⟩)) (fun os started H enc _ F=>lifted os started H enc F)
theorem proved:Rows.HistMovesUptoSaid :=anK
end Go.Proofs.YtoleelddkocpkaaGreat.histMoves
