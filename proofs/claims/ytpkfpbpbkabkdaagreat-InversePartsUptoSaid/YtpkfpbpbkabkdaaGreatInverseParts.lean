/- InverseParts holds where what it reads is of bulk at most 1048576: it answers true, and the input reads as it did. -/
import Derived.Test.YtpkfpbpbkabkdaaGreatTop
import Derived.Test.YtpkfpbpbkabkdaaGreatLawParts
set_option linter.unusedVariables false
namespace Go.Proofs.YtpkfpbpbkabkdaaGreat.inverseParts
open Go.Vs Go.ChangeShapes Go.WideShapes Go.ChangeAt Go.RowKit
set_option maxRecDepth 100000 in
theorem Tv(H:Type)(ec:TypeId×Value→H)(W:World)(base:Nat)(args:Array Value)(ds gs:List (DataW H))(before:List MemPlace)
  (vG:∀(j:Nat) t v,Tryz.f9.params[j]? = some t→args[j]? = some v→Value.okWide Tryz.prog W .any base t v)
  (hW:DataW.Whole ec Tryz.prog Tryz.f9.params.toList Rows.inversePartsSpec.vars false W args.toList ds gs before) (hk:Rows.uptoSmall H (ds++gs)=true) :
  Calls Tryz.prog 9 args W fun e W'=>∃v,e=.returned v∧Rows.inversePartsSpec.post ec Tryz.prog Tryz.f9 false true false false W args v W':=by
 have hW':=hW
 obtain⟨p,q,hA0,hV,rfl,hfz,DM⟩:=hW
 have hA:DataW.TrodAll ec Tryz.prog W 0 (fun _=>true) true Tryz.f9.params.toList args.toList ds p:=hA0
 rw[Tryz.params9]at hA vG
 obtain⟨v0,v1,d0,d1,p0,p1,rfl,rfl,rfl,h0,h1⟩:=trodAll_two hA
 obtain⟨rfl,rfl⟩:=trodVars_none hV
 obtain⟨x0,r0,w0,b0⟩:=H8 (d:=12) (k:=mA) (by kernel_rfl) (vG 0 _ v0 rfl rfl) h0
 obtain⟨x1,r1,w1,b1⟩:=H8 (d:=12) (k:=Da) (by kernel_rfl) (vG 1 _ v1 rfl rfl) h1
 have hb:b6 (mA) x0+b6 (Da) x1≤1048576:=by
  have h:=of_decide_eq_true hk
  simp only[List.append_nil,Rows.uptoBulkAll]at h
  omega
 have hc:=YM (by kernel_rfl) (YR x0 x1 w0 w1 hb)
 have hr:an (Old W) Jm gi W (DJ vl (x0,x1,())) [v0,v1]:=by
  show an (Old W) Jm gi W [cj (mA) x0,cj (Da) x1] [v0,v1]
  simp only[an]
  exact⟨v0,[v1],rfl,r0,v1,[],rfl,r1,rfl⟩
 refine(NP (ks:=[.val (mA),.val (Da)]) (x:=(x0,x1,())) hc hr).mono fun e W' ⟨he,hs⟩=>⟨_,he,?_⟩
 exact RH kids full (by decide +kernel) rfl (by kernel_rfl) rfl rfl hW' hs
set_option maxRecDepth 100000 in
theorem lifted(os:Os)(started:os.Started)(H:Type)(ec:TypeId×Value→H)(F:Stop.Interp) :
  ReturnsInHanded {} Tryz.checked os 9 .any ((Rows.OpenSpec.upto Rows.inversePartsSpec).pre6 ec Tryz.prog Tryz.f9 Rows.inversePartsUptoRow.domain false) (((Rows.OpenSpec.upto Rows.inversePartsSpec).at F).post ec Tryz.prog Tryz.f9 false true false false):=by
 refine returnsInHanded_of_cond (C:=Tryz.checked) (s:=Rows.OpenSpec.upto Rows.inversePartsSpec) (k:=Rows.uptoSmall) rfl own started (by kernel_rfl) Tryz.func9
  (OpenSpec.witness (enc:=ec) (C:=Tryz.checked) (s:=Rows.OpenSpec.upto Rows.inversePartsSpec) (k:=Rows.uptoSmall) rfl false ⟨#[],#[.agg #[.slice none 0 0,.slice none 0 0,.slice none 0 0],.agg #[.slice none 0 0]],[]⟩ 8 (by kernel_rfl) (by kernel_rfl) (by kernel_rfl)
   (x:=([.agg [.agg [.nil,.nil],.nil],.agg [.nil]],[],[])) (by kernel_rfl) rfl (by kernel_rfl)) ?_
 intro W base args ds gs before vG hW _ hk _
 exact Tv H ec W base args ds gs before vG hW hk
theorem Gf:(Rows.inversePartsUptoRow.inPlace==Tryz.pinned.checked.prog.inPlace 9)=true∧(Rows.inversePartsUptoRow.unfollowed==Tryz.pinned.checked.prog.unfollowed 9)=true∧(Rows.inversePartsUptoRow.recurses==Tryz.pinned.checked.prog.recurses 9)=true∧(Rows.inversePartsUptoRow.named==Tryz.pinned.checked.prog.varsNamed 9)=true :=
 ⟨by kernel_rfl,by kernel_rfl,by kernel_rfl,by kernel_rfl⟩
theorem Tw:laidOutB Tryz.pinned.checked.prog=true∧mapsRowed Tryz.pinned.checked.prog=true:=⟨by kernel_rfl,by kernel_rfl⟩
theorem Gg:(Rows.inversePartsUptoRow.lifted==Tryz.pinned.checked.prog.liftsFinal)=true∧Tryz.pinned.checked.prog.stopsHeard=true∧Tryz.pinned.checked.prog.mayEnter=true∧(Tryz.pinned.checked.prog.make==some Rows.inversePartsUptoRow.make)=true :=
 ⟨by kernel_rfl,by kernel_rfl,by kernel_rfl,by kernel_rfl⟩
theorem told:joinedFacts Tryz.pinned.checked.prog 9 Tryz.f9 (Rows.OpenSpec.upto Rows.inversePartsSpec).bare Rows.inversePartsUptoRow=true:=by
 unfold joinedFacts
 rw[Gf.1,Gf.2.1,Gf.2.2.1,Gf.2.2.2,Tw.1,Tw.2,Gg.1,Gg.2.1,Gg.2.2.1,Gg.2.2.2]
 kernel_rfl
theorem eP:Rows.inversePartsUptoRow.holds Tryz.pinned (Rows.OpenSpec.upto Rows.inversePartsSpec) :=
 OpenClaim.holds_of_cond 9 Tryz.f9 rfl rfl rfl rfl rfl rfl rfl ⟨rfl,rfl,rfl,rfl,rfl⟩ rfl rfl rfl rfl rfl (by kernel_rfl) Tryz.func9 told
  (of_decide_eq_true (by kernel_rfl)) (by unfold Func.isWrapper;first|(rw[if_pos (by decide +kernel)];kernel_rfl)|(rw[if_neg (by decide +kernel)];exact⟨rfl,rfl⟩))
  (fun os started H enc _ F=>lifted os started H enc F)
theorem proved:Rows.InversePartsUptoSaid :=
 eP
end Go.Proofs.YtpkfpbpbkabkdaaGreat.inverseParts
