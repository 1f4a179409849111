/- HistPlays holds where what it -/
import Derived.Test.YtpkfpbpbkabkdaaGreatLawPlays
set_option linter.unusedVariables false
namespace Go.Proofs.YtpkfpbpbkabkdaaGreat.histPlays
open Go.Vs Go.ChangeShapes Go.WideShapes Go.ChangeAt Go.RowKit
set_option maxRecDepth 100000 in
theorem Sr(H:Type)(ec:TypeId×Value→H)(W:World)(base:Nat)(args:Array Value)(ds gs:List (DataW H))(before:List MemPlace) (ve:∀(j:Nat) t v,Tryz.f7.params[j]? = some t→args[j]? = some v→Value.okWide Tryz.prog W .any base t v) (hW:DataW.Whole ec Tryz.prog Tryz.f7.params.toList Rows.histPlaysSpec.vars false W args.toList ds gs before) (hk:Rows.uptoSmall H (ds++gs)=true) :
  Calls Tryz.prog 7 args W fun e W'=>∃v,e=.returned v∧Rows.histPlaysSpec.post ec Tryz.prog Tryz.f7 false true false false W args v W':=by
 have hW':=hW;obtain⟨p,q,hA0,hV,rfl,hfz,FI⟩:=hW;have hA:DataW.TrodAll ec Tryz.prog W 0 (fun _=>true) true Tryz.f7.params.toList args.toList ds p:=hA0;rw[Tryz.params7]at hA ve;obtain⟨v0,v1,d0,d1,p0,p1,rfl,rfl,rfl,h0,h1⟩:=trodAll_two hA;obtain⟨rfl,rfl⟩:=trodVars_none hV;obtain⟨x0,r0,w0,b0⟩:=HE (d:=12) (k:=.sl SD) (by kernel_rfl) (ve 0 _ v0 rfl rfl) h0;obtain⟨x1,r1,w1,b1⟩:=HE (d:=12) (k:=.int .i64) (by kernel_rfl) (ve 1 _ v1 rfl rfl) h1;have hb:eP (.sl SD) x0+eP (.int .i64) x1≤1048576:=by have h:=of_decide_eq_true hk;simp only[List.append_nil,Rows.uptoBulkAll]at h;omega
 have hc:=X7 (by kernel_rfl) (Yd x0 x1 w0 w1 hb);have hr:ak (Old W) IS fR W (C9 uN (x0,x1,())) [v0,v1]:=by show ak (Old W) IS fR W [cc (.sl SD) x0,cc (.int .i64) x1] [v0,v1];simp only[ak];exact⟨v0,[v1],rfl,r0,v1,[],rfl,r1,rfl⟩
 refine(Nc (ks:=[.val (.sl SD),.val (.int .i64)]) (x:=(x0,x1,())) hc hr).mono fun e W' ⟨he,hs⟩=>⟨_,he,?_⟩;exact QS kids full (by decide +kernel) rfl (by kernel_rfl) rfl rfl hW' hs
set_option maxRecDepth 100000 in
theorem lifted(os:Os)(started:os.Started)(H:Type)(ec:TypeId×Value→H)(F:Stop.Interp) :
  ReturnsInHanded {} Tryz.checked os 7 .any ((Rows.OpenSpec.upto Rows.histPlaysSpec).pre6 ec Tryz.prog Tryz.f7 Rows.histPlaysUptoRow.domain false) (((Rows.OpenSpec.upto Rows.histPlaysSpec).at F).post ec Tryz.prog Tryz.f7 false true false false):=by
 refine returnsInHanded_of_cond (C:=Tryz.checked) (s:=Rows.OpenSpec.upto Rows.histPlaysSpec) (k:=Rows.uptoSmall) rfl own started (by kernel_rfl) Tryz.func7 (OpenSpec.witness (enc:=ec) (C:=Tryz.checked) (s:=Rows.OpenSpec.upto Rows.histPlaysSpec) (k:=Rows.uptoSmall) rfl false ⟨#[],#[.slice none 0 0,.int .i64 0],[]⟩ 8 (by kernel_rfl) (by kernel_rfl) (by kernel_rfl) (x:=([.nil,.lit (.int .i64 0)],[],[])) (by kernel_rfl) rfl (by kernel_rfl)) ?_;intro W base args ds gs before ve hW _ hk _;exact Sr H ec W base args ds gs before ve hW hk
theorem FF:(Rows.histPlaysUptoRow.inPlace==Tryz.pinned.checked.prog.inPlace 7)=true∧(Rows.histPlaysUptoRow.unfollowed==Tryz.pinned.checked.prog.unfollowed 7)=true∧(Rows.histPlaysUptoRow.recurses==Tryz.pinned.checked.prog.recurses 7)=true∧(Rows.histPlaysUptoRow.named==Tryz.pinned.checked.prog.varsNamed 7)=true :=⟨by kernel_rfl,by kernel_rfl,by kernel_rfl,by kernel_rfl⟩
theorem Ss:laidOutB Tryz.pinned.checked.prog=true∧mapsRowed Tryz.pinned.checked.prog=true:=⟨by kernel_rfl,by kernel_rfl⟩
theorem FG:(Rows.histPlaysUptoRow.lifted==Tryz.pinned.checked.prog.liftsFinal)=true∧Tryz.pinned.checked.prog.stopsHeard=true∧Tryz.pinned.checked.prog.mayEnter=true∧(Tryz.pinned.checked.prog.make==some Rows.histPlaysUptoRow.make)=true :=⟨by kernel_rfl,by kernel_rfl,by kernel_rfl,by kernel_rfl⟩
theorem told:joinedFacts Tryz.pinned.checked.prog 7 Tryz.f7 (Rows.OpenSpec.upto Rows.histPlaysSpec).bare Rows.histPlaysUptoRow=true:=by unfold joinedFacts;rw[FF.1,FF.2.1,FF.2.2.1,FF.2.2.2,Ss.1,Ss.2,FG.1,FG.2.1,FG.2.2.1,FG.2.2.2];kernel_rfl
theorem aiE:Rows.histPlaysUptoRow.holds Tryz.pinned (Rows.OpenSpec.upto Rows.histPlaysSpec) :=OpenClaim.holds_of_cond 7 Tryz.f7 rfl rfl rfl rfl rfl rfl rfl ⟨rfl,rfl,rfl,rfl,rfl⟩ rfl rfl rfl rfl rfl (by kernel_rfl) Tryz.func7 told (of_decide_eq_true (by kernel_rfl)) (by unfold Func.isWrapper;first|(rw[if_pos (by decide +kernel)];kernel_rfl)|(rw[if_neg (by decide +kernel)];exact⟨rfl,rfl⟩)) (fun os started H enc _ F=>lifted os started H enc F)
theorem proved:Rows.HistPlaysUptoSaid :=aiE
end Go.Proofs.YtpkfpbpbkabkdaaGreat.histPlays
