/- What the program computes at edges and rings, written plainly. -/
import Derived.Test.YtpldhjjpeldkaaaGreatPlaces
set_option linter.unusedVariables false
set_option linter.unusedSimpArgs false
namespace Go.Vs
open Go.Proofs
variable {G:(f:FuncId)→(g:aL)→Option (g.A→Option g.B)}
theorem get_at{s:ByteArray}{i:Nat}{c:UInt8}(h:s.data.toList[i]? = some c):s.get! i=c:=by
 have hi:i<s.data.size:=by have:=(List.getElem?_eq_some_iff.1 h).1;simpa using this
 have h2:=(List.getElem?_eq_some_iff.1 h).2
 show s.data[i]! = c
 rw [getElem!_pos s.data i hi,←h2];simp
theorem Mt{s:ByteArray}{i:Nat}(h:(s.get! i).toNat<128):Utf8.decode s i=((s.get! i).toNat,1):=by
 unfold Utf8.decode
 simp only [Nat.add_zero]
 rw [if_pos h]
theorem Mu{s:ByteArray}{i:Nat}(h:¬(s.get! i).toNat<128):128≤(Utf8.decode s i).1:=by
 unfold Utf8.decode
 simp only [Nat.add_zero]
 rw [if_neg h]
 repeat' split
 all_goals first | (simp_all only [Bool.and_eq_true,decide_eq_true_eq];omega) | decide | omega
theorem aeX(hG:G 88 vR=none)(s:ByteArray)(hs:s.size≤100000000):∀(n i:Nat),i+n=s.size →
  LX G 88 vR Tryz.f88 wb (aX Tryz.prog 88 0) ((s,()),((),((s,i),())))=some ((((s.data.toList.drop i).all ke&&decide (s.size≤16),()),()):(Bool×Unit)×Unit):=by
 have hl:s.data.toList.length=s.size:=by simp
 intro n
 induction n with
 | zero =>
  intro i hi
  refine aw (j:=0) (by kernel_rfl) ((Pg _ _ _).trans ?_)
  refine ag (decide_eq_false (show ¬(i<s.size) by omega)) ?_
  refine congrArg (fun b:Bool=>some ((b,()),())) ?_
  rw [List.drop_eq_nil_of_le (by omega),List.all_nil,Bool.true_and,Bool.eq_iff_iff];simp;omega
 | succ n ih =>
  intro i hi
  have aE:i<s.data.toList.length:=by omega
  have hx:s.data.toList[i]? = some s.data.toList[i]:=List.getElem?_eq_getElem aE
  generalize s.data.toList[i]=c at hx
  have hd:s.data.toList.drop i=c::s.data.toList.drop (i+1):=by
   rw [List.drop_eq_getElem_cons aE];rw [List.getElem?_eq_getElem aE] at hx;cases hx;rfl
  have hg:=get_at hx
  refine aw (j:=0) (by kernel_rfl) ((Pg _ _ _).trans ?_)
  refine af (decide_eq_true (show i<s.size by omega)) ?_
  show cond (decide (n3 s i<32)) _ (cond (decide (n3 s i > 126)) _ (LX G 88 vR Tryz.f88 wb (aX Tryz.prog 88 0) ((s,()),((),((s,i+zd s i),())))))=_
  rw [hd,List.all_cons]
  by_cases h1:c.toNat<128
  ·have hr:Utf8.decode s i=(c.toNat,1):=by rw [Mt (by rw [hg];exact h1),hg]
   have Xg:n3 s i=(c.toNat:Int):=by unfold n3;rw [hr]
   have H5:zd s i=1:=by unfold zd;rw [hr]
   rw [Xg,H5]
   by_cases h2:c.toNat<32
   ·refine af (decide_eq_true (by omega)) ?_
    have:ke c=false:=by unfold ke;simp;omega
    rw [this];rfl
   refine ag (decide_eq_false (by omega)) ?_
   by_cases h3:126<c.toNat
   ·refine af (decide_eq_true (by omega)) ?_
    have:ke c=false:=by unfold ke;simp;omega
    rw [this];rfl
   refine ag (decide_eq_false (by omega)) ?_
   have:ke c=true:=by unfold ke;simp;omega
   rw [this,Bool.true_and]
   exact ih (i+1) (by omega)
  ·have h2:=Mu (s:=s) (i:=i) (by rw [hg];exact h1)
   have Xg:128≤n3 s i:=by unfold n3;omega
   refine ag (decide_eq_false (by omega)) (af (decide_eq_true (by omega)) ?_)
   have:ke c=false:=by unfold ke;simp;omega
   rw [this];rfl
theorem aeY(hG:G 88 vR=none)(s:ByteArray)(hs:s.size≤100000000):FX G 88 vR ((s,()),())=some ((oQ s,()),()):=by
 refine aC (fn:=Tryz.f88) hG (by kernel_rfl) (by kernel_rfl) ((aec _ _ _).trans ?_)
 have:=aeX hG s hs s.size 0 (by omega)
 rw [List.drop_zero] at this
 exact this
theorem aeZ(hG:G 89 Gr=none)(n:Int):FX G 89 Gr ((n,()),())=some ((nI n,()),()):=by
 refine aC (fn:=Tryz.f89) hG (by kernel_rfl) (by kernel_rfl) ((aed _ _ _).trans ?_)
 show (cond (decide (n≥-1099511627776)) (some ((decide (n≤1099511627776),()),())) (some ((false,()),())):Option ((Bool×Unit)×Unit))=some ((nI n,()),())
 unfold nI
 by_cases h1 : -1099511627776≤n<;>simp [h1]
def PR(n:Int):Prop := -9223372036854775808≤n∧n<9223372036854775808
theorem PS(x:BitVec 64):IntKind.wrap .i64 ((x.toNat:Nat):Int)=x.toInt:=by
 unfold IntKind.wrap
 simp only [IntKind.bits,IntKind.signed]
 have h:=x.isLt
 have h2:=BitVec.toInt_eq_toNat_cond x
 rw [h2]
 simp
 split<;>split<;>omega
theorem ofInt_toInt{n:Int}(h:PR n):(BitVec.ofInt 64 n).toInt=n:=by
 unfold PR at h
 rw [BitVec.toInt_ofInt]
 exact Int.bmod_eq_of_le (by omega) (by omega)
theorem Sz{n:Int}(h:PR n):(eI .andNot .i64 n 3==(0:Int))=decide (0≤n∧n≤3):=by
 have e:eI .andNot .i64 n 3=(BitVec.ofInt 64 n &&& ~~~(BitVec.ofInt 64 3)).toInt:=by unfold eI;exact PS _
 rw [e,Bool.eq_iff_iff]
 simp only [beq_iff_eq,decide_eq_true_eq]
 generalize hx:BitVec.ofInt 64 n=x
 have hn:=ofInt_toInt h
 rw [hx] at hn
 have h1:(x &&& ~~~(BitVec.ofInt 64 3)).toInt=0↔(x &&& ~~~(BitVec.ofInt 64 3))=0#64:=by
  constructor
  ·intro h;exact BitVec.eq_of_toInt_eq (by rw [h];rfl)
  ·intro h;rw [h];rfl
 rw [h1,←hn]
 constructor
 ·intro h
  have h2:x=x &&& 3#64:=by
   have h3:x=(x &&& ~~~(BitVec.ofInt 64 3)) ||| (x &&& 3#64):=by
    ext i hi
    simp only [BitVec.getElem_or,BitVec.getElem_and,BitVec.getElem_not]
    have:(BitVec.ofInt 64 3)=3#64:=rfl
    rw [this]
    cases x[i]<;>cases (3#64)[i]<;>rfl
   rw [h] at h3
   simpa using h3
  have h4:x.toNat≤3:=by
   rw [h2,BitVec.toNat_and]
   exact Nat.and_le_right
  rw [BitVec.toInt_eq_toNat_cond]
  split<;>omega
 ·intro h
  have h4:x.toNat≤3:=by
   rw [BitVec.toInt_eq_toNat_cond] at h
   have:=x.isLt
   split at h<;>omega
  have h5:x=0#64∨x=1#64∨x=2#64∨x=3#64:=by
   have:x.toNat=0∨x.toNat=1∨x.toNat=2∨x.toNat=3:=by omega
   rcases this with h | h | h | h
   ·exact .inl (BitVec.eq_of_toNat_eq (by rw [h];rfl))
   ·exact .inr (.inl (BitVec.eq_of_toNat_eq (by rw [h];rfl)))
   ·exact .inr (.inr (.inl (BitVec.eq_of_toNat_eq (by rw [h];rfl))))
   ·exact .inr (.inr (.inr (BitVec.eq_of_toNat_eq (by rw [h];rfl))))
  rcases h5 with rfl | rfl | rfl | rfl<;>decide
theorem SA{n:Int}(h:PR n):(eI .andNot .i64 n 1==(0:Int))=decide (n=0∨n=1):=by
 have e:eI .andNot .i64 n 1=(BitVec.ofInt 64 n &&& ~~~(BitVec.ofInt 64 1)).toInt:=by unfold eI;exact PS _
 rw [e,Bool.eq_iff_iff]
 simp only [beq_iff_eq,decide_eq_true_eq]
 generalize hx:BitVec.ofInt 64 n=x
 have hn:=ofInt_toInt h
 rw [hx] at hn
 have h1:(x &&& ~~~(BitVec.ofInt 64 1)).toInt=0↔(x &&& ~~~(BitVec.ofInt 64 1))=0#64:=by
  constructor
  ·intro h;exact BitVec.eq_of_toInt_eq (by rw [h];rfl)
  ·intro h;rw [h];rfl
 rw [h1,←hn]
 constructor
 ·intro h
  have h2:x=x &&& 1#64:=by
   have h3:x=(x &&& ~~~(BitVec.ofInt 64 1)) ||| (x &&& 1#64):=by
    ext i hi
    simp only [BitVec.getElem_or,BitVec.getElem_and,BitVec.getElem_not]
    have:(BitVec.ofInt 64 1)=1#64:=rfl
    rw [this]
    cases x[i]<;>cases (1#64)[i]<;>rfl
   rw [h] at h3
   simpa using h3
  have h4:x.toNat≤1:=by
   rw [h2,BitVec.toNat_and]
   exact Nat.and_le_right
  rw [BitVec.toInt_eq_toNat_cond]
  split<;>omega
 ·intro h
  have h4:x.toNat≤1:=by
   rw [BitVec.toInt_eq_toNat_cond] at h
   have:=x.isLt
   split at h<;>omega
  have h5:x=0#64∨x=1#64:=by
   have:x.toNat=0∨x.toNat=1:=by omega
   rcases this with h | h
   ·exact .inl (BitVec.eq_of_toNat_eq (by rw [h];rfl))
   ·exact .inr (BitVec.eq_of_toNat_eq (by rw [h];rfl))
  rcases h5 with rfl | rfl<;>decide
theorem ZO(hG:HG G)(d:ae)(h:PR d.2):FX G 106 Gu ((d,()),())=some ((VB d,()),()):=by
 refine aC (fn:=Tryz.f106) (hG _ _ rfl) (by kernel_rfl) (by kernel_rfl) ((Yw _ _ _).trans ?_)
 refine aa (Hd (hG _ _ rfl) d.1) ?_
 unfold VB
 cases cK d.1
 ·rfl
 ·exact af rfl (congrArg (fun b:Bool=>some ((b,()),())) (SA h))
theorem ZP(hG:HG G)(c:vf)(h:PR c.2.2):FX G 87 Cs ((c,()),())=some ((G7 c,()),()):=by
 refine aC (fn:=Tryz.f87) (hG _ _ rfl) (by kernel_rfl) (by kernel_rfl) ((aeb _ _ _).trans ?_)
 refine aa (Hd (hG _ _ rfl) c.1) ?_
 unfold G7
 cases cK c.1
 ·rfl
 refine af rfl ?_
 have hb:(((c.2.1.1==(0:Int))&&(c.2.1.2==(0:Int)))&&(c.2.2==(0:Int)))=decide (c.2=zD):=uN c.2 zD
 by_cases hz:c.2=zD
 ·refine af (hb.trans (decide_eq_true hz)) ?_
  rw [decide_eq_true hz,Bool.or_true];rfl
 ·refine ag (hb.trans (decide_eq_false hz)) ?_
  refine aa (ZO hG c.2 h) ?_
  rw [decide_eq_false hz,Bool.or_false];rfl
structure Fit(o:bW):Prop where
 a:PR (oA o).2.2
 b:PR (oB o).2.2
 n:PR (oN o)
 t:EU o
def Bj(o:bW):bW :=
 if o.1=6 then (o.1,(bB o,(zI,(bP o,(zC,(zC,(false,(e0,0))))))))
 else if o.1=3 then (o.1,(bB o,(zI,(zI,(oA o,(oB o,(false,(e0,0))))))))
 else if o.1=5 then (o.1,(bB o,(fG o,(bP o,(zC,(zC,(false,(e0,oN o))))))))
 else if o.1=7 then (o.1,(bB o,(zI,(zI,(zC,(zC,(wx o,(uR o,0))))))))
 else if o.1=8 then (o.1,(bB o,(zI,(zI,(zC,(zC,(wx o,(e0,oN o))))))))
 else (o.1,(bB o,(zI,(zI,(zC,(zC,(false,(e0,0))))))))
def EX(o:bW):Int :=
 if o.1=6 then (if cK (bB o)=true∧cK (bP o)=true then 0 else 1)
 else if o.1=3 then (if cK (bB o)=true∧G7 (oA o)=true∧G7 (oB o)=true then 0 else 1)
 else if o.1=5 then (if cK (bB o)=true∧cK (fG o)=true∧cK (bP o)=true∧0≤oN o∧oN o≤3 then 0 else 1)
 else if o.1=7 then (if cK (bB o)=true then (if oQ (uR o)=true then 0 else 4) else 1)
 else if o.1=8 then (if cK (bB o)=true∧nI (oN o)=true then 0 else 1)
 else if o.1=1∨o.1=2∨o.1=4 then (if cK (bB o)=true then 0 else 1)
 else 1
theorem Fk{o:bW}{k:Int}(h:o.1=k):(o.1==k)=true:=by simp [h]
theorem xS{o:bW}{k:Int}(h:¬o.1=k):(o.1==k)=false:=by simp [h]
theorem ae0(hG:HG G)(o:bW)(hf:Fit o):FX G 65 Gp ((o,()),())=some ((Bj o,(EX o,())),()):=by
 refine aC (fn:=Tryz.f65) (hG _ _ rfl) (by kernel_rfl) (by kernel_rfl) ((Vk _ _ _).trans ?_)
 refine aa (Hd (hG _ _ rfl) (bB o)) ?_
 unfold Bj EX
 by_cases h1:o.1=1
 ·refine af (Fk h1) (af (Fk h1) ?_)
  rw [if_neg (by omega),if_neg (by omega),if_neg (by omega),if_neg (by omega),if_neg (by omega),if_neg (by omega),if_neg (by omega),if_neg (by omega),if_neg (by omega),if_neg (by omega),if_pos (by omega)]
  cases cK (bB o)<;>rfl
 refine ag (xS h1) ?_
 by_cases h2:o.1=2
 ·refine af (Fk h2) (af (Fk h2) ?_)
  rw [if_neg (by omega),if_neg (by omega),if_neg (by omega),if_neg (by omega),if_neg (by omega),if_neg (by omega),if_neg (by omega),if_neg (by omega),if_neg (by omega),if_neg (by omega),if_pos (by omega)]
  cases cK (bB o)<;>rfl
 refine ag (xS h2) ?_
 by_cases h4:o.1=4
 ·refine af (Fk h4) ?_
  rw [if_neg (by omega),if_neg (by omega),if_neg (by omega),if_neg (by omega),if_neg (by omega),if_neg (by omega),if_neg (by omega),if_neg (by omega),if_neg (by omega),if_neg (by omega),if_pos (by omega)]
  cases cK (bB o)<;>rfl
 refine ag (xS h4) ?_
 by_cases h6:o.1=6
 ·refine af (Fk h6) ?_
  rw [if_pos h6,if_pos h6]
  cases cK (bB o)
  ·rfl
  refine af rfl (aa (Hd (hG _ _ rfl) (bP o)) ?_)
  cases cK (bP o)<;>rfl
 refine ag (xS h6) ?_
 rw [if_neg h6,if_neg h6]
 by_cases h3:o.1=3
 ·refine af (Fk h3) ?_
  rw [if_pos h3,if_pos h3]
  cases cK (bB o)
  ·rfl
  refine af rfl (aa (ZP hG (oA o) hf.a) ?_)
  cases G7 (oA o)
  ·rfl
  refine af rfl (aa (ZP hG (oB o) hf.b) ?_)
  cases G7 (oB o)<;>rfl
 refine ag (xS h3) ?_
 rw [if_neg h3,if_neg h3]
 by_cases h5:o.1=5
 ·refine af (Fk h5) ?_
  rw [if_pos h5,if_pos h5]
  cases cK (bB o)
  ·rfl
  refine af rfl (aa (Hd (hG _ _ rfl) (fG o)) ?_)
  cases cK (fG o)
  ·rfl
  refine af rfl (aa (Hd (hG _ _ rfl) (bP o)) ?_)
  cases cK (bP o)
  ·rfl
  refine af rfl (aJ (Sz hf.n) ?_)
  by_cases h:0≤oN o∧oN o≤3
  ·rw [decide_eq_true h,if_pos ⟨rfl,rfl,rfl,h⟩];rfl
  ·rw [decide_eq_false h,if_neg (fun k=>h k.2.2.2)];rfl
 refine ag (xS h5) ?_
 rw [if_neg h5,if_neg h5]
 by_cases h7:o.1=7
 ·refine af (Fk h7) ?_
  rw [if_pos h7,if_pos h7]
  refine aa (aeY (hG _ _ rfl) (uR o) hf.t) ?_
  cases oQ (uR o)<;>cases cK (bB o)<;>rfl
 refine ag (xS h7) ?_
 rw [if_neg h7,if_neg h7]
 by_cases h8:o.1=8
 ·refine af (Fk h8) ?_
  rw [if_pos h8,if_pos h8]
  cases cK (bB o)
  ·rfl
  refine af rfl (aa (aeZ (hG _ _ rfl) (oN o)) ?_)
  cases nI (oN o)<;>rfl
 refine ag (xS h8) ?_
 rw [if_neg h8,if_neg h8,if_neg (by omega)];rfl
theorem Mv(o:bW)(h1:1≤o.1)(h8:o.1≤8):Cx (Bj o) o=Cx (G8 o) ZJ:=by
 rw [Bool.eq_iff_iff,Bg,Bg]
 obtain ⟨k,i,n,m,⟨a1,a2⟩,⟨b1,b2⟩,f,t,q⟩:=o
 simp only at h1 h8
 unfold Bj G8 ZJ
 have:k=1∨k=2∨k=3∨k=4∨k=5∨k=6∨k=7∨k=8:=by omega
 rcases this with rfl | rfl | rfl | rfl | rfl | rfl | rfl | rfl<;>simp only [Int.reduceEq,if_true,if_false]<;>constructor<;>intro h<;>simp only [zC,Prod.mk.injEq,true_and,and_true] at h ⊢<;>grind
theorem ae1(hG:HG G)(o:bW)(hf:Fit o):FX G 43 Cp ((o,()),())=some ((dd o,()),()):=by
 refine aC (fn:=Tryz.f43) (hG _ _ rfl) (by kernel_rfl) (by kernel_rfl) ((Yn _ _ _).trans ?_)
 refine aa (ae0 hG o hf) ?_
 refine aJ (b:=Cx (Bj o) o) rfl ?_
 unfold dd
 by_cases h1:o.1<1
 ·rw [if_pos h1]
  have:EX o=1:=by unfold EX;rw [if_neg (by omega),if_neg (by omega),if_neg (by omega),if_neg (by omega),if_neg (by omega),if_neg (by omega)]
  rw [this];cases Cx (Bj o) o<;>rfl
 rw [if_neg h1]
 by_cases h8:8<o.1
 ·rw [if_pos h8]
  have:EX o=1:=by unfold EX;rw [if_neg (by omega),if_neg (by omega),if_neg (by omega),if_neg (by omega),if_neg (by omega),if_neg (by omega)]
  rw [this];cases Cx (Bj o) o<;>rfl
 rw [if_neg h8,Mv o (by omega) (by omega)]
 have hk:o.1=1∨o.1=2∨o.1=3∨o.1=4∨o.1=5∨o.1=6∨o.1=7∨o.1=8:=by omega
 by_cases hm:cK (bB o)=true
 case neg =>
  have hb:EX o=1:=by
   unfold EX
   rcases hk with h | h | h | h | h | h | h | h<;>simp [h,hm]
  rw [if_pos (by simpa using hm),hb];cases Cx (G8 o) ZJ<;>rfl
 rw [if_neg (by simp [hm])]
 cases Cx (G8 o) ZJ
 ·rw [if_pos rfl];rfl
 rw [if_neg (by simp)]
 refine ag rfl ?_
 refine congrArg (fun n:Int=>some ((n,()),())) ?_
 unfold EX
 rcases hk with h | h | h | h | h | h | h | h<;>simp [h,hm]
theorem ae2(hG:HG G)(l:List bW)(hl:l.length≤1073741824)(hf:∀o∈l,Fit o):FX G 58 Ez ((l,()),())=some ((kF l,()),()):=by
 refine aC (fn:=Tryz.f58) (hG _ _ rfl) (by kernel_rfl) (by kernel_rfl) ((Yp _ _ _).trans ?_)
 unfold kF
 by_cases h0:l.length=0
 ·refine af (show (((l.length:Nat):Int)==0)=true by simp [h0]) ?_
  rw [if_neg (by omega)];rfl
 refine ag (show (((l.length:Nat):Int)==0)=false by rw [beq_eq_false_iff_ne];omega) ?_
 by_cases h6:6<l.length
 ·refine af (decide_eq_true (show ((l.length:Nat):Int) > 6 by omega)) ?_
  rw [if_neg (by omega)];rfl
 refine ag (decide_eq_false (show ¬((l.length:Nat):Int) > 6 by omega)) ?_
 rw [if_pos (by omega)]
 have loop:∀(n i:Nat),i+n=l.length→LX G 58 Ez Tryz.f58 AX (aX Tryz.prog 58 0) ((l,(((l.length:Nat):Int),((i:Int),()))),((),()))=some ((nJ (l.drop i),()),()):=by
  intro n
  induction n with
  | zero =>
   intro i hi
   refine aw (j:=0) (by kernel_rfl) ((EE _ _ _).trans ?_)
   refine ag (decide_eq_false (show ¬((i:Int)<((l.length:Nat):Int)) by omega)) ?_
   rw [List.drop_eq_nil_of_le (by omega)];rfl
  | succ n ih =>
   intro i hi
   have aE:i<l.length:=by omega
   refine aw (j:=0) (by kernel_rfl) ((EE _ _ _).trans ?_)
   refine af (ba aE) (aa (aD (List.getElem?_eq_getElem aE)) ?_)
   refine aa (ae1 hG l[i] (hf _ (List.getElem_mem aE))) ?_
   rw [List.drop_eq_getElem_cons aE,nJ]
   by_cases hz:dd l[i]=0
   ·rw [if_neg (by simp [hz])]
    refine ag (show (dd l[i] != 0)=false by simp [hz]) ?_
    rw [aO aE hl]
    exact ih (i+1) (by omega)
   ·rw [if_pos hz]
    exact af (show (dd l[i] != 0)=true by simp [hz]) rfl
 have:=loop l.length 0 (by omega)
 rw [List.drop_zero] at this
 exact this
end Go.Vs
namespace Go.Vs
open Go.Proofs
variable {G:(f:FuncId)→(g:aL)→Option (g.A→Option g.B)}
theorem T8(hG:HG G)(v:au)(x:ID):FX G 138 C8 ((v,x,()),())=some ((qy v.1 x,()),()):=by
 refine aC (fn:=Tryz.f138) (hG _ _ rfl) (by kernel_rfl) (by kernel_rfl) ((YT _ _ _).trans ?_)
 exact aa (PM hG v.1 x) rfl
def b4(l:List au)(x:ID):Nat:=l.countP fun v=>eV v.1 x
def c9(l:List au):Prop:=l.Pairwise fun a b=>eV a.1 b.1=true
theorem EY(l:List au)(x:ID):b4 l x≤l.length:=List.countP_le_length
theorem rq{l:List au}{x:ID}(h:∀v∈l,eV v.1 x=false):b4 l x=0:=by
 unfold b4;rw [List.countP_eq_zero];intro v hv;simp [h v hv]
theorem wC{x:ID}:∀{l:List au},c9 l→∀(k:Nat) (v:au),l[k]? = some v→(eV v.1 x=true↔k<b4 l x)
 | [],_,k,v,h=>by simp at h
 | w::r,hs,k,v,h=>by
  have hw:∀{u:au},u∈r→eV w.1 u.1=true:=fun {u} hu=>List.rel_of_pairwise_cons hs hu
  have hr:c9 r:=hs.of_cons
  by_cases aE:eV w.1 x=true
  ·have e:b4 (w::r) x=b4 r x+1:=by unfold b4;rw [List.countP_cons_of_pos (by simpa using aE)]
   cases k with
   | zero=>simp at h;subst h;simp [aE,e]
   | succ k=>have:=wC (x:=x) hr k v (by simpa using h);rw [this,e];omega
  ·have hn:∀u∈w::r,eV u.1 x=false:=fun u hu=>by
    rcases List.mem_cons.1 hu with rfl | hu
    ·simpa using aE
    ·rw [Bool.eq_false_iff];intro h2;exact aE (gk (hw hu) h2)
   rw [rq hn,hn v (List.mem_of_getElem? h)]
   simp
theorem PT(hG:HG G)(l:List au)(x:ID)(hs:c9 l)(hl:l.length≤50000000):∀(n i j:Nat),j - i≤n→i≤b4 l x→b4 l x≤j→j≤l.length →
  LX G 139137 iX Tryz.f137 ij (aX Tryz.prog 137 0) ((l,(((l.length:Nat):Int),((i:Int),((j:Int),())))),(((x,()),()),()))=some (((((b4 l x:Nat):Int),(decide ((l[b4 l x]?).map (·.1)=some x),())):Int×(Bool×Unit)),()):=by
 have sN:=EY l x
 have fin:∀(i j:Nat),¬(i<j)→i≤b4 l x→b4 l x≤j→LX G 139137 iX Tryz.f137 ij (aX Tryz.prog 137 0) ((l,(((l.length:Nat):Int),((i:Int),((j:Int),())))),(((x,()),()),()))=some (((((b4 l x:Nat):Int),(decide ((l[b4 l x]?).map (·.1)=some x),())):Int×(Bool×Unit)),()):=fun i j yu h1 h2=>by
  have hi:i=b4 l x:=by omega
  subst hi
  refine aw (j:=0) (by kernel_rfl) ((A4 _ _ _).trans ?_)
  refine ag (decide_eq_false (show ¬(((b4 l x:Nat):Int)<(j:Int)) by omega)) ?_
  by_cases hc:b4 l x<l.length
  ·have hx:l[b4 l x]? = some l[b4 l x]:=List.getElem?_eq_getElem hc
   refine af (ba hc) ?_
   refine aa (aD hx) ?_
   refine aa (T8 hG l[b4 l x] x) ?_
   refine congrArg (fun b:Bool=>some ((((b4 l x:Nat):Int),(b,())),())) ?_
   rw [hx]
   unfold qy
   by_cases he:l[b4 l x].1=x
   ·simp [he]
   ·simp [he];split<;>simp
  ·refine ag (decide_eq_false (show ¬(((b4 l x:Nat):Int)<((l.length:Nat):Int)) by omega)) ?_
   refine congrArg (fun b:Bool=>some ((((b4 l x:Nat):Int),(b,())),())) ?_
   rw [List.getElem?_eq_none (by omega)];simp
 intro n
 induction n with
 | zero=>intro i j yu h1 h2 h3;exact fin i j (by omega) h1 h2
 | succ n ih =>
  intro i j yu h1 h2 h3
  by_cases aE:i<j
  case neg=>exact fin i j aE h1 h2
  refine aw (j:=0) (by kernel_rfl) ((A4 _ _ _).trans ?_)
  refine af (decide_eq_true (show ((i:Int)<(j:Int)) by omega)) ?_
  refine ag rfl ?_
  have hm:=Jl (i:=i) (j:=j) (by omega) (by omega)
  have hh:(i+j) / 2<l.length:=by omega
  have hx:l[(i+j) / 2]? = some l[(i+j) / 2]:=List.getElem?_eq_getElem hh
  have ns:=wC (x:=x) hs ((i+j) / 2) _ hx
  refine aa (show bh l (IntKind.wrap .i64 (kA .u64 (IntKind.wrap .u64 (IntKind.wrap .i64 ((i:Int)+(j:Int)))) (1:Int)))=some l[(i+j) / 2] by rw [hm];exact aD hx) ?_
  refine aa (T8 hG l[(i+j) / 2] x) ?_
  by_cases ho:eV l[(i+j) / 2].1 x=true
  ·refine af (decide_eq_true ((rl _ _).2 ho)) ?_
   have hc:=ns.1 ho
   have hw:IntKind.wrap .i64 (IntKind.wrap .i64 (kA .u64 (IntKind.wrap .u64 (IntKind.wrap .i64 ((i:Int)+(j:Int)))) (1:Int))+1)=(((i+j) / 2+1:Nat):Int):=by
    rw [hm];exact aO hh (by omega)
   have:=ih ((i+j) / 2+1) j (by omega) (by omega) h2 h3
   rw [←hw] at this
   exact this
  ·refine ag (decide_eq_false (fun h=>ho ((rl _ _).1 h))) ?_
   have hc:¬(i+j) / 2<b4 l x:=fun h=>ho (ns.2 h)
   have:=ih i ((i+j) / 2) (by omega) h1 (by omega) (by omega)
   rw [←hm] at this
   exact this
theorem PU(hG:HG G)(l:List au)(x:ID)(hs:c9 l)(hl:l.length≤50000000) :
  FX G 139137 iX ((l,x,()),())=some (((((b4 l x:Nat):Int),(decide ((l[b4 l x]?).map (·.1)=some x),())):Int×(Bool×Unit)),()):=by
 refine aC (fn:=Tryz.f137) (hG _ _ rfl) (by kernel_rfl) (by kernel_rfl) ((Pj _ _ _).trans ?_)
 exact PT hG l x hs hl l.length 0 l.length (by omega) (by omega) (EY l x) (Nat.le_refl _)
theorem nM(hG:HG G)(w:aG)(x:ID)(hs:c9 w.2.1)(hl:w.2.1.length≤50000000) :
  FX G 115 ml ((x,()),(w,()))=some (((((b4 w.2.1 x:Nat):Int),(decide ((w.2.1[b4 w.2.1 x]?).map (·.1)=some x),())):Int×(Bool×Unit)),(w,())):=by
 refine aC (fn:=Tryz.f115) (hG _ _ rfl) (by kernel_rfl) (by kernel_rfl) ((YC _ _ _).trans ?_)
 exact aa (PU hG w.2.1 x hs hl) rfl
theorem wD{x:ID}:∀{l:List au},c9 l→aU l x=(l[b4 l x]?).filter fun v=>decide (v.1=x)
 | [],_=>rfl
 | w::r,hs=>by
  have hw:∀{u:au},u∈r→eV w.1 u.1=true:=fun {u} hu=>List.rel_of_pairwise_cons hs hu
  have hr:c9 r:=hs.of_cons
  by_cases aE:eV w.1 x=true
  ·have e:b4 (w::r) x=b4 r x+1:=by unfold b4;rw [List.countP_cons_of_pos (by simpa using aE)]
   have bc:¬w.1=x:=fun e=>by rw [e,b7] at aE;cases aE
   rw [e]
   simp only [aU,List.find?_cons,bc,decide_false,List.getElem?_cons_succ]
   exact wD hr
  ·have hn:∀u∈w::r,eV u.1 x=false:=fun u hu=>by
    rcases List.mem_cons.1 hu with rfl | hu
    ·simpa using aE
    ·rw [Bool.eq_false_iff];intro h2;exact aE (gk (hw hu) h2)
   rw [rq hn]
   by_cases he:w.1=x
   ·simp [aU,List.find?_cons,he,Option.filter]
   ·have El:eV x w.1=true:=kO (by simpa using aE) he
    have:aU r x=none:=by
     unfold aU;rw [List.find?_eq_none];intro u hu h2
     have h3:u.1=x:=by simpa using h2
     have h4:=hw hu
     rw [h3] at h4
     have:=kN h4
     rw [El] at this;cases this
    rw [show aU (w::r) x=aU r x by simp only [aU,List.find?_cons,he,decide_false],this]
    simp [he,Option.filter]
theorem da{l:List au}{x:ID}(hs:c9 l):decide ((l[b4 l x]?).map (·.1)=some x)=(aU l x).isSome:=by
 rw [wD hs]
 cases h:l[b4 l x]? with
 | none=>simp
 | some v=>by_cases he:v.1=x<;>simp [he,Option.filter]
theorem Hf(v:au):∀{l:List au},c9 l→aU l v.1=none→fb v l=l.take (b4 l v.1)++(v::l.drop (b4 l v.1))
 | [],_,_=>rfl
 | w::r,hs,hf=>by
  have hw:∀{u:au},u∈r→eV w.1 u.1=true:=fun {u} hu=>List.rel_of_pairwise_cons hs hu
  have hr:c9 r:=hs.of_cons
  have bc:¬w.1=v.1:=fun e=>by simp [aU,e] at hf
  have B2:aU r v.1=none:=by simpa [aU,List.find?_cons,bc] using hf
  by_cases aE:eV w.1 v.1=true
  ·have e:b4 (w::r) v.1=b4 r v.1+1:=by unfold b4;rw [List.countP_cons_of_pos (by simpa using aE)]
   have TD:eV v.1 w.1=false:=kN aE
   rw [e,fb,if_neg (by simp [TD]),Hf v hr B2]
   rfl
  ·have hn:∀u∈w::r,eV u.1 v.1=false:=fun u hu=>by
    rcases List.mem_cons.1 hu with rfl | hu
    ·simpa using aE
    ·rw [Bool.eq_false_iff];intro h2;exact aE (gk (hw hu) h2)
   have El:eV v.1 w.1=true:=kO (by simpa using aE) bc
   rw [rq hn,fb,if_pos El];rfl
theorem wE{x:ID}:∀{l:List au},c9 l→(aU l x).isSome=true→dS l x=l.take (b4 l x)++l.drop (b4 l x+1)
 | [],_,hf=>by simp [aU] at hf
 | w::r,hs,hf=>by
  have hw:∀{u:au},u∈r→eV w.1 u.1=true:=fun {u} hu=>List.rel_of_pairwise_cons hs hu
  have hr:c9 r:=hs.of_cons
  by_cases he:w.1=x
  ·have hn:∀u∈w::r,eV u.1 x=false:=fun u hu=>by
    rcases List.mem_cons.1 hu with rfl | hu
    ·rw [he,b7]
    ·rw [←he];exact kN (hw hu)
   have eg:dS r x=r:=by
    unfold dS;rw [List.filter_eq_self];intro u hu
    have h4:=hw hu
    simp;intro e2;rw [he,e2,b7] at h4;cases h4
   rw [rq hn]
   unfold dS
   rw [List.filter_cons_of_neg (by simp [he])]
   exact eg
  ·have B2:(aU r x).isSome=true:=by simpa [aU,List.find?_cons,he] using hf
   have aE:eV w.1 x=true:=by
    obtain ⟨u,hu⟩:=Option.isSome_iff_exists.1 B2
    have h1:=List.mem_of_find?_eq_some hu
    have h2:u.1=x:=by simpa using List.find?_some hu
    rw [←h2];exact hw h1
   have e:b4 (w::r) x=b4 r x+1:=by unfold b4;rw [List.countP_cons_of_pos (by simpa using aE)]
   rw [e]
   have:=wE hr B2
   simp [dS,List.filter_cons,he] at this ⊢
   exact this
theorem wF(v:au):∀{l:List au},c9 l→aU l v.1=none→c9 (fb v l)
 | [],_,_=>List.pairwise_singleton _ _
 | w::r,hs,hf=>by
  have hw:∀{u:au},u∈r→eV w.1 u.1=true:=fun {u} hu=>List.rel_of_pairwise_cons hs hu
  have hr:c9 r:=hs.of_cons
  have bc:¬w.1=v.1:=fun e=>by simp [aU,e] at hf
  have B2:aU r v.1=none:=by simpa [aU,List.find?_cons,bc] using hf
  unfold fb
  split
  ·rename_i h
   refine List.Pairwise.cons (fun u hu => ?_) hs
   rcases List.mem_cons.1 hu with rfl | hu
   ·exact h
   ·exact gk h (hw hu)
  ·rename_i h
   have aE:eV w.1 v.1=true:=kO (by simpa using h) (fun e=>bc e.symm)
   refine List.Pairwise.cons (fun u hu => ?_) (wF v hr B2)
   rcases uU.1 hu with rfl | hu
   ·exact aE
   ·exact hw hu
theorem tp{l:List au}{x:ID}(hs:c9 l):c9 (dS l x):=hs.filter _
theorem c4{l:List aj}{x:ID}{v:aj}(hs:bT l)(h:aQ l x=some v):l[bz l x]? = some v:=by
 have kf:=rp (x:=x) hs
 rw [h] at kf
 cases hg:l[bz l x]? with
 | none=>rw [hg] at kf;simp [Option.filter] at kf
 | some u =>
  rw [hg] at kf
  simp only [Option.filter] at kf
  split at kf
  ·exact kf.symm
  ·cases kf
theorem gR{l:List aj}{x:ID}{v:aj}(h:aQ l x=some v):v.1=x:=by simpa using List.find?_some h
theorem eE{l:List aj}{x:ID}{v:aj}(h:aQ l x=some v):v∈l:=List.mem_of_find?_eq_some h
theorem jI{l:List aj}{x:ID}{k:Nat}{u:aj}(hs:bT l)(hk:l[k]? = some u)(hu:u.1=x):k=bz l x:=by
 have h1:¬k<bz l x:=fun h=>by
  have:=(wA hs k u hk).2 h
  rw [hu,b7] at this;cases this
 have hf:(aQ l x).isSome=true:=by
  unfold aQ;rw [List.find?_isSome];exact ⟨u,List.mem_of_getElem? hk,by simp [hu]⟩
 obtain ⟨v,hv⟩:=Option.isSome_iff_exists.1 hf
 have hg:=c4 hs hv
 by_cases h2:bz l x<k
 ·obtain ⟨h3,h4⟩:=List.getElem?_eq_some_iff.1 hg
  obtain ⟨h5,h6⟩:=List.getElem?_eq_some_iff.1 hk
  have:=List.pairwise_iff_getElem.1 hs _ _ h3 h5 h2
  rw [h4,h6,gR hv,hu,b7] at this;cases this
 ·omega
theorem Hg{l:List aj}{x:ID}{v:aj}(hs:bT l)(h:aQ l x=some v)(g f:aj→aj)(h1:∀w,w.1=x→g w=f w)(h2:∀w,w.1≠x→g w=w):l.map g=l.set (bz l x) (f v):=by
 have hg:=c4 hs h
 apply List.ext_getElem?
 intro k
 rw [List.getElem?_map,List.getElem?_set]
 by_cases hk:bz l x=k
 ·subst hk
  rw [if_pos rfl,if_pos (List.getElem?_eq_some_iff.1 hg).1,hg]
  simp [h1 v (gR h)]
 ·rw [if_neg hk]
  cases hu:l[k]? with
  | none=>rfl
  | some u =>
   have:u.1≠x:=fun e=>hk (jI hs hu e).symm
   simp [h2 u this]
theorem lI{l:List au}{x:ID}{v:au}(hs:c9 l)(h:aU l x=some v):l[b4 l x]? = some v:=by
 have kf:=wD (x:=x) hs
 rw [h] at kf
 cases hg:l[b4 l x]? with
 | none=>rw [hg] at kf;simp [Option.filter] at kf
 | some u =>
  rw [hg] at kf
  simp only [Option.filter] at kf
  split at kf
  ·exact kf.symm
  ·cases kf
theorem qD{l:List au}{x:ID}{v:au}(h:aU l x=some v):v.1=x:=by simpa using List.find?_some h
theorem Dm{l:List au}{x:ID}{v:au}(h:aU l x=some v):v∈l:=List.mem_of_find?_eq_some h
theorem Mw{l:List au}{x:ID}{k:Nat}{u:au}(hs:c9 l)(hk:l[k]? = some u)(hu:u.1=x):k=b4 l x:=by
 have h1:¬k<b4 l x:=fun h=>by
  have:=(wC hs k u hk).2 h
  rw [hu,b7] at this;cases this
 have hf:(aU l x).isSome=true:=by
  unfold aU;rw [List.find?_isSome];exact ⟨u,List.mem_of_getElem? hk,by simp [hu]⟩
 obtain ⟨v,hv⟩:=Option.isSome_iff_exists.1 hf
 have hg:=lI hs hv
 by_cases h2:b4 l x<k
 ·obtain ⟨h3,h4⟩:=List.getElem?_eq_some_iff.1 hg
  obtain ⟨h5,h6⟩:=List.getElem?_eq_some_iff.1 hk
  have:=List.pairwise_iff_getElem.1 hs _ _ h3 h5 h2
  rw [h4,h6,qD hv,hu,b7] at this;cases this
 ·omega
theorem PV{l:List au}{x:ID}{v:au}(hs:c9 l)(h:aU l x=some v)(g f:au→au)(h1:∀w,w.1=x→g w=f w)(h2:∀w,w.1≠x→g w=w):l.map g=l.set (b4 l x) (f v):=by
 have hg:=lI hs h
 apply List.ext_getElem?
 intro k
 rw [List.getElem?_map,List.getElem?_set]
 by_cases hk:b4 l x=k
 ·subst hk
  rw [if_pos rfl,if_pos (List.getElem?_eq_some_iff.1 hg).1,hg]
  simp [h1 v (qD h)]
 ·rw [if_neg hk]
  cases hu:l[k]? with
  | none=>rfl
  | some u =>
   have:u.1≠x:=fun e=>hk (Mw hs hu e).symm
   simp [h2 u this]
theorem c9.map{l:List au}(h:c9 l){f:au→au}(hf:∀v,(f v).1=v.1):c9 (l.map f):=by
 unfold c9 at h ⊢
 rw [List.pairwise_map]
 exact h.imp fun {a b} nW=>by rw [hf,hf];exact nW
end Go.Vs
namespace Go.Vs
open Go.Proofs
variable {G:(f:FuncId)→(g:aL)→Option (g.A→Option g.B)}
theorem sB{α R:Type}{o:Option α}{a r:Option R}{f:α→Option R}{p:α}(h:o=some p)(k:f p=r):pW o a f=r:=by subst h;exact k
theorem KP{α R:Type}{o:Option α}{a r:Option R}{f:α→Option R}(h:o=none)(k:a=r):pW o a f=r:=by subst h;exact k
def sD(w:aG)(x:ID):Int×aG :=
 if (aU w.2.1 x).isSome=true then (12,w) else if 40≤w.2.1.length then (3,w) else (0,(w.1,(fb (x,(e0,0)) w.2.1,w.2.2)))
theorem T9(hG:HG G)(w:aG)(x:ID)(hs:c9 w.2.1)(hl:w.2.1.length≤50000000):FX G 110 xG ((x,()),(w,()))=some (((sD w x).1,()),((sD w x).2,())):=by
 refine aC (fn:=Tryz.f110) (hG _ _ rfl) (by kernel_rfl) (by kernel_rfl) ((Yy _ _ _).trans ?_)
 refine aa (nM hG w x hs hl) ?_
 unfold sD
 cases hf:(aU w.2.1 x).isSome
 ·rw [if_neg (by simp)]
  refine ag ((da hs).trans hf) ?_
  by_cases h2:40≤w.2.1.length
  ·rw [if_pos h2]
   exact af (decide_eq_true (show ((w.2.1.length:Nat):Int)≥40 by omega)) rfl
  ·rw [if_neg h2]
   refine ag (decide_eq_false (show ¬((w.2.1.length:Nat):Int)≥40 by omega)) ?_
   have hc:=EY w.2.1 x
   have lN:pX w.2.1 ((b4 w.2.1 x:Nat):Int) [((x,(e0,0)):au)]=true:=by
    unfold pX
    rw [decide_eq_true (show (0:Int)≤((b4 w.2.1 x:Nat):Int) by omega),decide_eq_true (show ((b4 w.2.1 x:Nat):Int)≤((w.2.1.length:Nat):Int) by omega)]
    rw [fits (by simp;omega)];rfl
   refine af lN ?_
   have e:fL w.2.1 ((b4 w.2.1 x:Nat):Int) [((x,(e0,0)):au)]=fb (x,(e0,0)) w.2.1:=by
    rw [Hf (x,(e0,0)) hs (by simpa using hf)]
    unfold fL;simp
   exact congrArg (fun l:List au=>some (((0:Int),()),((w.1,(l,w.2.2)),()))) e
 ·rw [if_pos rfl]
  exact af ((da hs).trans hf) rfl
def Bk(w:aG)(o:bW):Option (Fin 2×Nat) :=
 if wx o=true then (if (aU w.2.1 (bB o)).isSome=true then some (⟨1,by decide⟩,b4 w.2.1 (bB o)) else none)
 else (if (aQ w.1 (bB o)).isSome=true then some (⟨0,by decide⟩,bz w.1 (bB o)) else none)
theorem ZQ(hG:HG G)(w:aG)(o:bW)(hv:bT w.1)(he:c9 w.2.1)(Ni:w.1.length≤50000000)(hle:w.2.1.length≤50000000) :
  FX G 124 Gy ((o,()),(w,()))=some ((Bk w o,(Bk w o,())),(w,())):=by
 refine aC (fn:=Tryz.f124) (hG _ _ rfl) (by kernel_rfl) (by kernel_rfl) ((YK _ _ _).trans ?_)
 unfold Bk
 by_cases ho:wx o=true
 ·rw [if_pos ho]
  refine af ho ?_
  refine aa (nM hG w (bB o) he hle) ?_
  cases hf:aU w.2.1 (bB o) with
  | none =>
   refine ag ((da he).trans (by rw [hf];rfl)) ?_
   rfl
  | some e =>
   refine af ((da he).trans (by rw [hf];rfl)) ?_
   have aE:=(List.getElem?_eq_some_iff.1 (lI he hf)).1
   refine af (dM (jf _) (ba aE)) ?_
   exact af (dM (jf _) (ba aE)) rfl
 ·rw [if_neg ho]
  refine ag (by simpa using ho) ?_
  refine aa (pC hG w (bB o) hv Ni) ?_
  cases hf:aQ w.1 (bB o) with
  | none =>
   refine ag ((fj hv).trans (by rw [hf];rfl)) ?_
   rfl
  | some e =>
   refine af ((fj hv).trans (by rw [hf];rfl)) ?_
   have aE:=(List.getElem?_eq_some_iff.1 (c4 hv hf)).1
   refine af (dM (jf _) (ba aE)) ?_
   exact af (dM (jf _) (ba aE)) rfl
def tu(w:aG)(o:bW):Int×aG :=
 if wx o=true then (if (aU w.2.1 (bB o)).isSome=true then (0,(w.1,(w.2.1.map (qB o),w.2.2))) else (13,w))
 else (if (aQ w.1 (bB o)).isSome=true then (0,(w.1.map (lW o),w.2)) else (13,w))
theorem ae3(hG:HG G)(w:aG)(o:bW)(hv:bT w.1)(he:c9 w.2.1)(Ni:w.1.length≤50000000)(hle:w.2.1.length≤50000000) :
  FX G 96 OG ((o,()),(w,()))=some (((tu w o).1,()),((tu w o).2,())):=by
 refine aC (fn:=Tryz.f96) (hG _ _ rfl) (by kernel_rfl) (by kernel_rfl) ((aeg _ _ _).trans ?_)
 refine aa (ZQ hG w o hv he Ni hle) ?_
 by_cases ho:wx o=true
 ·cases hf:aU w.2.1 (bB o) with
  | none =>
   have e1:Bk w o=none:=by unfold Bk;rw [if_pos ho,hf];rfl
   have e2:tu w o=(13,w):=by unfold tu;rw [if_pos ho,hf];rfl
   rw [e2]
   exact KP e1 (KP e1 rfl)
  | some e =>
   have e1:Bk w o=some (⟨1,by decide⟩,b4 w.2.1 (bB o)):=by unfold Bk;rw [if_pos ho,hf];rfl
   have hm:∀f:au→au,(∀u,u.1=bB o→qB o u=f u)→w.2.1.map (qB o)=w.2.1.set (b4 w.2.1 (bB o)) (f e):=fun f hf1 =>
    PV he hf (qB o) f hf1 (fun u hu=>by unfold qB;rw [if_neg (fun k=>hu k.2)])
   have e2:tu w o=(0,(w.1,(w.2.1.map (qB o),w.2.2))):=by unfold tu;rw [if_pos ho,hf];rfl
   rw [e2]
   refine sB e1 (ag rfl (af rfl (sB e1 (ag rfl (af rfl ?_)))))
   by_cases h7:o.1=7
   ·refine af (Fk h7) (aa (lI he hf) ?_)
    have:=hm (fun u=>(u.1,(uR o,u.2.2))) (fun u hu=>by unfold qB;rw [if_pos ⟨ho,hu⟩,if_pos h7])
    exact congrArg (fun l:List au=>some (((0:Int),()),((w.1,(l,w.2.2)),()))) this.symm
   ·refine ag (xS h7) (aa (lI he hf) ?_)
    have:=hm (fun u=>(u.1,(u.2.1,oN o))) (fun u hu=>by unfold qB;rw [if_pos ⟨ho,hu⟩,if_neg h7])
    exact congrArg (fun l:List au=>some (((0:Int),()),((w.1,(l,w.2.2)),()))) this.symm
 ·have mL:wx o=false:=by simpa using ho
  cases hf:aQ w.1 (bB o) with
  | none =>
   have e1:Bk w o=none:=by unfold Bk;rw [if_neg ho,hf];rfl
   have e2:tu w o=(13,w):=by unfold tu;rw [if_neg ho,hf];rfl
   rw [e2]
   exact KP e1 (KP e1 rfl)
  | some e =>
   have e1:Bk w o=some (⟨0,by decide⟩,bz w.1 (bB o)):=by unfold Bk;rw [if_neg ho,hf];rfl
   have hm:∀f:aj→aj,(∀u,u.1=bB o→lW o u=f u)→w.1.map (lW o)=w.1.set (bz w.1 (bB o)) (f e):=fun f hf1 =>
    Hg hv hf (lW o) f hf1 (fun u hu=>by unfold lW;rw [if_neg (fun k=>hu k.2)])
   have e2:tu w o=(0,(w.1.map (lW o),w.2)):=by unfold tu;rw [if_neg ho,hf];rfl
   rw [e2]
   refine sB e1 (af rfl (sB e1 (af rfl ?_)))
   by_cases h7:o.1=7
   ·refine af (Fk h7) (aa (c4 hv hf) ?_)
    have:=hm (fun u=>(u.1,(u.2.1,(uR o,u.2.2.2)))) (fun u hu=>by unfold lW;rw [if_pos ⟨mL,hu⟩,if_pos h7])
    exact congrArg (fun l:List aj=>some (((0:Int),()),((l,w.2),()))) this.symm
   ·refine ag (xS h7) (aa (c4 hv hf) ?_)
    have:=hm (fun u=>(u.1,(u.2.1,(u.2.2.1,oN o)))) (fun u hu=>by unfold lW;rw [if_pos ⟨mL,hu⟩,if_neg h7])
    exact congrArg (fun l:List aj=>some (((0:Int),()),((l,w.2),()))) this.symm
end Go.Vs
namespace Go.Vs
open Go.Proofs
variable {G:(f:FuncId)→(g:aL)→Option (g.A→Option g.B)}
theorem Ua(hG:HG G)(a b:ae):FX G 142 Da ((a,b,()),())=some ((lU a b,()),()):=by
 refine aC (fn:=Tryz.f142) (hG _ _ rfl) (by kernel_rfl) (by kernel_rfl) ((YW _ _ _).trans ?_)
 refine aa (PM hG a.1 b.1) ?_
 refine aa (PL hG a.2 b.2) ?_
 refine aa (T5 (hG _ _ rfl) (qy a.1 b.1) (Jk a.2 b.2)) ?_
 refine congrArg (fun n:Int=>some ((n,()),())) ?_
 obtain ⟨a1,a2⟩:=a
 obtain ⟨b1,b2⟩:=b
 unfold lU qy Jk kd
 simp only [Prod.mk.injEq]
 by_cases h:a1=b1
 ·subst h
  simp only [if_true,b7,Bool.false_or,true_and,decide_true,Bool.true_and]
  by_cases h1:a2<b2
  ·have:¬a2=b2:=by omega
   simp [h1,this]
  ·by_cases h2:a2 > b2
   ·have:¬a2=b2:=by omega
    simp [h1,h2,this]
   ·have:a2=b2:=by omega
    simp [this]
 ·simp only [h,if_false,false_and,decide_false,Bool.false_and,Bool.or_false]
  cases eV a1 b1<;>simp
theorem ZR(hG:G 134 lx=none)(row:List ae)(d:ae)(hl:row.length≤1073741824):∀(n i:Nat),i+n=row.length →
  LX G 134 lx Tryz.f134 uB (aX Tryz.prog 134 0) ((row,(((row.length:Nat):Int),((i:Int),()))),(((d,()),()),()))=some ((idx d (row.drop i) i,()),()):=by
 intro n
 induction n with
 | zero =>
  intro i hi
  refine aw (j:=0) (by kernel_rfl) ((Ko _ _ _).trans ?_)
  refine ag (decide_eq_false (show ¬((i:Int)<((row.length:Nat):Int)) by omega)) ?_
  rw [List.drop_eq_nil_of_le (by omega)];rfl
 | succ n ih =>
  intro i hi
  have aE:i<row.length:=by omega
  refine aw (j:=0) (by kernel_rfl) ((Ko _ _ _).trans ?_)
  refine af (ba aE) (aa (aD (List.getElem?_eq_getElem aE)) ?_)
  rw [List.drop_eq_getElem_cons aE,idx]
  by_cases he:row[i]=d
  ·rw [if_pos he]
   exact af ((uN d row[i]).trans (decide_eq_true he.symm)) rfl
  ·rw [if_neg he]
   refine ag ((uN d row[i]).trans (decide_eq_false fun h=>he h.symm)) ?_
   rw [aO aE hl]
   exact ih (i+1) (by omega)
theorem Bl(hG:G 134 lx=none)(row:List ae)(d:ae)(hl:row.length≤1073741824):FX G 134 lx ((row,d,()),())=some ((idx d row 0,()),()):=by
 refine aC (fn:=Tryz.f134) hG (by kernel_rfl) (by kernel_rfl) ((YQ _ _ _).trans ?_)
 have:=ZR hG row d hl row.length 0 (by omega)
 rw [List.drop_zero] at this
 exact this
theorem Dn(hG:HG G)(row:List ae)(d:ae)(hl:row.length≤1073741824):FX G 133 uq ((row,d,()),())=some ((decide (d∈row),()),()):=by
 refine aC (fn:=Tryz.f133) (hG _ _ rfl) (by kernel_rfl) (by kernel_rfl) ((YP _ _ _).trans ?_)
 refine aa (Bl (hG _ _ rfl) row d hl) ?_
 refine congrArg (fun b:Bool=>some ((b,()),())) ?_
 rw [Bool.eq_iff_iff]
 simp only [decide_eq_true_eq]
 have:=mu (d:=d) (row:=row)
 constructor
 ·intro h;exact Classical.byContradiction fun k=>by have:=this.2 k;omega
 ·intro h
  have h2:¬idx d row 0<0:=fun k=>this.1 k h
  omega
theorem dB(a:ae):kd a a=false:=by unfold kd;simp [b7]
theorem fk{a b c:ae}(h:kd a b=true)(k:kd b c=true):kd a c=true:=by
 obtain ⟨⟨a1,a2⟩,a3⟩:=a;obtain ⟨⟨b1,b2⟩,b3⟩:=b;obtain ⟨⟨c1,c2⟩,c3⟩:=c
 simp [kd,eV] at *;omega
theorem wG{a b:ae}(h:kd a b=false)(k:a≠b):kd b a=true:=by
 obtain ⟨⟨a1,a2⟩,a3⟩:=a;obtain ⟨⟨b1,b2⟩,b3⟩:=b
 simp [kd,eV] at *;omega
theorem EZ{a b c:ae}(h:kd a b=true)(k:kd c b=false):kd a c=true:=by
 obtain ⟨⟨a1,a2⟩,a3⟩:=a;obtain ⟨⟨b1,b2⟩,b3⟩:=b;obtain ⟨⟨c1,c2⟩,c3⟩:=c
 simp [kd,eV] at *;omega
theorem rr(a b:ae):lU a b<0↔kd a b=true:=by
 unfold lU
 by_cases h:a=b
 ·subst h;simp [dB]
 ·rw [if_neg h];cases kd a b<;>simp
theorem oR{row:List ae}{k:Nat}(hk:k<row.length):row.getD k zD=row[k]:=by simp [List.getD,hk]
theorem wH(row:List ae):∀(r:List ae) (i k:Nat),row.drop i=r→k<row.length→k≤i→(∀j,j<i→(hj:j<row.length)→kd row[j] (row.getD k zD)=false)→(∀j,j<k→(hj:j<row.length)→kd (row.getD k zD) row[j]=true) →
  (∀j,(hj:j<row.length)→kd row[j] (row.getD (eF row r i k) zD)=false)∧(∀j,j<eF row r i k→(hj:j<row.length)→kd (row.getD (eF row r i k) zD) row[j]=true)
 | [],i,k,hr,hk,hki,h1,h2=>by
  have hi:row.length≤i:=by
   have:=congrArg List.length hr;simp at this;omega
  exact ⟨fun j hj=>h1 j (by omega) hj,h2⟩
 | x::r,i,k,hr,hk,hki,h1,h2=>by
  have hi:i<row.length:=by
   have:=congrArg List.length hr;simp at this;omega
  have hx:row[i]=x:=by
   have:=List.drop_eq_getElem_cons hi;rw [hr] at this;injection this with a b;exact a.symm
  have qR:row.drop (i+1)=r:=by
   have:=List.drop_eq_getElem_cons hi;rw [hr] at this;injection this with a b;exact b.symm
  unfold eF
  split
  ·rename_i aE
   rw [rr] at aE
   refine wH row r (i+1) i qR hi (by omega) (fun j hj HY => ?_) (fun j hj HY => ?_)
   ·rw [oR hi,hx]
    rcases Nat.lt_succ_iff_lt_or_eq.1 hj with hj | rfl
    ·cases hc:kd row[j] x with
     | false=>rfl
     | true=>have:=fk hc aE;rw [h1 j hj HY] at this;cases this
    ·rw [hx,dB]
   ·rw [oR hi,hx]
    exact EZ aE (h1 j (by omega) HY)
  ·rename_i aE
   rw [rr] at aE
   refine wH row r (i+1) k qR hk (by omega) (fun j hj HY => ?_) h2
   rcases Nat.lt_succ_iff_lt_or_eq.1 hj with hj | rfl
   ·exact h1 j hj HY
   ·rw [hx];simpa using aE
theorem tw{row:List ae}(h:0<row.length):(∀j,(hj:j<row.length)→kd row[j] (row.getD (eF row row 0 0) zD)=false)∧(∀j,j<eF row row 0 0→(hj:j<row.length)→kd (row.getD (eF row row 0 0) zD) row[j]=true) :=
 wH row row 0 0 rfl h (Nat.le_refl _) (fun j hj=>by omega) (fun j hj=>by omega)
theorem Jn{d:ae}:∀{row:List ae} {k:Nat} {i:Int},row[k]? = some d→(∀j,j<k→row[j]?≠some d)→idx d row i=i+k
 | [],k,i,h,_=>by simp at h
 | e::r,0,i,h,_=>by
  simp at h;subst h;rw [idx,if_pos rfl];simp
 | e::r,k+1,i,h,hn=>by
  have h0:=hn 0 (by omega)
  rw [idx,if_neg (fun e=>h0 (by simp [e]))]
  rw [Jn (k:=k) (by simpa using h) (fun j hj=>by have:=hn (j+1) (by omega);simpa using this)]
  simp;omega
theorem PW{row:List ae}(h:0<row.length):idx (row.getD (eF row row 0 0) zD) row 0=((eF row row 0 0:Nat):Int):=by
 have hm:=mw row row 0 0 h (by omega)
 have:=Jn (d:=row.getD (eF row row 0 0) zD) (row:=row) (k:=eF row row 0 0) (i:=0) (by rw [oR hm];exact List.getElem?_eq_getElem hm) (fun j hj he=>by
  obtain ⟨h1,h2⟩:=List.getElem?_eq_some_iff.1 he
  have:=(tw h).2 j hj h1
  rw [h2,dB] at this;cases this)
 omega
theorem PX(hG:HG G)(row:List ae)(h:0<row.length)(hl:row.length≤100000000):FX G 143141 j8 ((row,()),())=some ((row.getD (eF row row 0 0) zD,()),()):=by
 refine aC (fn:=Tryz.f141) (hG _ _ rfl) (by kernel_rfl) (by kernel_rfl) ((Pk _ _ _).trans ?_)
 refine ag (decide_eq_false (show ¬((row.length:Nat):Int)<1 by omega)) ?_
 refine aa (aD (i:=0) (List.getElem?_eq_getElem h)) ?_
 have loop:∀(n i k:Nat),i+n=row.length→k<row.length→LX G 143141 j8 Tryz.f141 jF (aX Tryz.prog 141 0) ((row,((i:Int),())),(((zD,()),(((row.getD k zD),()),())),()))=some ((row.getD (eF row (row.drop i) i k) zD,()),()):=by
  intro n
  induction n with
  | zero =>
   intro i k hi hk
   refine aw (j:=0) (by kernel_rfl) ((A5 _ _ _).trans ?_)
   refine ag (decide_eq_false (show ¬((i:Int)<((row.length:Nat):Int)) by omega)) ?_
   rw [List.drop_eq_nil_of_le (by omega)];rfl
  | succ n ih =>
   intro i k hi hk
   have aE:i<row.length:=by omega
   have hx:row[i]? = some row[i]:=List.getElem?_eq_getElem aE
   refine aw (j:=0) (by kernel_rfl) ((A5 _ _ _).trans ?_)
   refine af (ba aE) (aa (aD hx) ?_)
   refine aa (Ua hG row[i] (row.getD k zD)) ?_
   rw [List.drop_eq_getElem_cons aE,eF]
   by_cases ho:lU row[i] (row.getD k zD)<0
   ·rw [if_pos ho]
    refine af (decide_eq_true ho) (aa (aD hx) ?_)
    have:=ih (i+1) i (by omega) aE
    rw [←aO aE (by omega),oR aE] at this
    exact this
   ·rw [if_neg ho]
    refine ag (decide_eq_false ho) ?_
    have:=ih (i+1) k (by omega) hk
    rw [←aO aE (by omega)] at this
    exact this
 have h1:=loop (row.length - 1) 1 0 (by omega) h
 have h2:eF row row 0 0=eF row (row.drop 1) 1 0:=by
  cases row with
  | nil=>simp at h
  | cons x r =>
   rw [List.drop_one,List.tail_cons]
   conv=>lhs;rw [eF]
   rw [if_neg]
   show ¬lU x x<0
   unfold lU;simp
 rw [h2]
 have h3:row.getD 0 zD=row[0]:=oR h
 rw [h3] at h1
 exact h1
def total(ls:List (List ae)):Nat:=(ls.map List.length).sum
theorem Bm(a:List ae)(r:List (List ae)):total (a::r)=a.length+total r:=by unfold total;rw [List.map_cons,List.sum_cons]
theorem Ub(hG:HG G)(ls:List (List ae))(hn:ls.length≤1000)(hl:total ls≤500000000):FX G 143 nE ((ls,()),())=some ((ls.flatten,()),()):=by
 refine aC (fn:=Tryz.f143) (hG _ _ rfl) (by kernel_rfl) (by kernel_rfl) ((YX _ _ _).trans ?_)
 have ZS:∀(n i:Nat) (out:List ae),i+n=ls.length→out.length+total (ls.drop i)≤500000000→LX G 143 nE Tryz.f143 uD (aX Tryz.prog 143 1) ((ls,(((ls.length:Nat):Int),((i:Int),()))),((),(out,())))=some ((out++(ls.drop i).flatten,()),()):=by
  intro n
  induction n with
  | zero =>
   intro i out hi ho
   refine aw (j:=1) (by kernel_rfl) ((Kq _ _ _).trans ?_)
   refine ag (decide_eq_false (show ¬((i:Int)<((ls.length:Nat):Int)) by omega)) ?_
   rw [List.drop_eq_nil_of_le (by omega),List.flatten_nil,List.append_nil];rfl
  | succ n ih =>
   intro i out hi ho
   have aE:i<ls.length:=by omega
   rw [List.drop_eq_getElem_cons aE] at ho ⊢
   have mL:out.length+(ls[i].length+total (ls.drop (i+1)))≤500000000:=by
    have:total (ls[i]::ls.drop (i+1))=ls[i].length+total (ls.drop (i+1)):=Bm _ _
    omega
   refine aw (j:=1) (by kernel_rfl) ((Kq _ _ _).trans ?_)
   refine af (ba aE) (aa (aD (List.getElem?_eq_getElem aE)) ?_)
   refine af (fits (show out.length+ls[i].length≤1073741824 by omega)) ?_
   have:=ih (i+1) (out++ls[i]) (by omega) (by rw [List.length_append];omega)
   rw [List.flatten_cons,←List.append_assoc]
   rw [←aO aE (by omega)] at this
   exact this
 have ZT:∀(n i m:Nat),i+n=ls.length→m+total (ls.drop i)=total ls→LX G 143 nE Tryz.f143 uC (aX Tryz.prog 143 0) ((ls,((m:Int),(ls,(((ls.length:Nat):Int),((i:Int),()))))),((),()))=some ((ls.flatten,()),()):=by
  intro n
  induction n with
  | zero =>
   intro i m hi hm
   refine aw (j:=0) (by kernel_rfl) ((Kp _ _ _).trans ?_)
   refine ag (decide_eq_false (show ¬((i:Int)<((ls.length:Nat):Int)) by omega)) ?_
   have hg:zi (m:Int)=true:=by
    unfold zi
    rw [decide_eq_true (show (0:Int)≤(m:Int) by omega)]
    rw [decide_eq_true (show (m:Int)≤fm by unfold fm;omega)];rfl
   refine af hg ?_
   have:=ZS ls.length 0 [] (by omega) (by rw [List.drop_zero];simpa using hl)
   rw [List.drop_zero,List.nil_append] at this
   exact this
  | succ n ih =>
   intro i m hi hm
   have aE:i<ls.length:=by omega
   have RH:m+ls[i].length+total (ls.drop (i+1))=total ls:=by
    rw [List.drop_eq_getElem_cons aE] at hm
    have:total (ls[i]::ls.drop (i+1))=ls[i].length+total (ls.drop (i+1)):=Bm _ _
    omega
   refine aw (j:=0) (by kernel_rfl) ((Kp _ _ _).trans ?_)
   refine af (ba aE) (aa (aD (List.getElem?_eq_getElem aE)) ?_)
   have hw:IntKind.wrap .i64 ((m:Int)+((ls[i].length:Nat):Int))=((m+ls[i].length:Nat):Int):=by rw [wrap_small (by omega) (by omega)];rfl
   refine ag (decide_eq_false (show ¬IntKind.wrap .i64 ((m:Int)+((ls[i].length:Nat):Int))<0 by rw [hw];omega)) ?_
   have:=ih (i+1) (m+ls[i].length) (by omega) RH
   rw [←aO aE (by omega),←hw] at this
   exact this
 exact ZT ls.length 0 0 (by omega) (by rw [List.drop_zero];omega)
theorem yS{α:Type}(xs:List α){k:Nat}(hk:k≤xs.length):cut xs (k:Int) ((xs.length:Nat):Int)=xs.drop k:=by
 unfold cut;rw [Int.toNat_natCast,Int.toNat_natCast,List.take_of_length_le (Nat.le_refl _)]
theorem ru{α:Type}(xs:List α)(k:Nat):cut xs 0 (k:Int)=xs.take k:=by
 unfold cut;rw [Int.toNat_natCast];rfl
theorem E0{n k:Nat}(h:k≤n):aT n (k:Int) ((n:Nat):Int)=true:=by unfold aT;simp;omega
theorem uW{n k:Nat}(h:k≤n):aT n 0 (k:Int)=true:=by unfold aT;simp;omega
theorem Dp(hG:HG G)(row:List ae)(hl:row.length≤100000000):FX G 123 qq ((row,()),())=some ((b5 row,()),()):=by
 refine aC (fn:=Tryz.f123) (hG _ _ rfl) (by kernel_rfl) (by kernel_rfl) ((YJ _ _ _).trans ?_)
 by_cases h0:row.length=0
 ·refine af (show (((row.length:Nat):Int)==0)=true by simp [h0]) ?_
  have:row=[]:=by simpa using h0
  subst this;rfl
 refine ag (show (((row.length:Nat):Int)==0)=false by rw [beq_eq_false_iff_ne];omega) ?_
 have hp:0<row.length:=by omega
 have hm:=mw row row 0 0 hp (by omega)
 refine aa (PX hG row hp hl) ?_
 refine aa (Bl (hG _ _ rfl) row (row.getD (eF row row 0 0) zD) (by omega)) ?_
 rw [PW hp]
 refine af (E0 (n:=row.length) (k:=eF row row 0 0) (by omega)) (af (uW (n:=row.length) (k:=eF row row 0 0) (by omega)) ?_)
 have key:∀a b:List ae,a=row.drop (eF row row 0 0)→b=row.take (eF row row 0 0)→((FX G 143 nE (([a,b],()),())).bind fun (y3:(((List ae)×Unit)×Unit))=>some (y3.1,()))=some ((b5 row,()),()):=by
  intro a b ha hb
  subst ha hb
  refine aa (Ub hG [row.drop (eF row row 0 0),row.take (eF row row 0 0)] (by simp) (by unfold total;simp;omega)) ?_
  unfold b5 B4
  simp only [List.flatten_cons,List.flatten_nil,List.append_nil]
 exact key _ _ (yS row (by omega)) (ru row _)
theorem PY(hG:HG G)(ls:List (List ae))(hn:ls.length≤1000)(hl:total ls≤100000000):FX G 135 nD ((ls,()),())=some ((b5 ls.flatten,()),()):=by
 refine aC (fn:=Tryz.f135) (hG _ _ rfl) (by kernel_rfl) (by kernel_rfl) ((YR _ _ _).trans ?_)
 refine aa (Ub hG ls hn (by omega)) ?_
 have hlen:ls.flatten.length=total ls:=by unfold total;exact List.length_flatten
 exact aa (Dp hG ls.flatten (by omega)) rfl
theorem PZ(hG:HG G)(row:List ae)(after d:ae)(hl:row.length≤50000000):FX G 113 Ax ((row,after,d,()),())=some ((pN row after d,()),()):=by
  refine aC (fn:=Tryz.f113) (hG _ _ rfl) (by kernel_rfl) (by kernel_rfl) ((YA _ _ _).trans ?_)
  refine aa (Dn hG row d (by omega)) ?_
  unfold pN
  by_cases hd:d∈row
  · rw [if_pos hd]
    exact af (decide_eq_true hd) (aa (Dp hG row (by omega)) rfl)
  rw [if_neg hd]
  refine ag (decide_eq_false hd) ?_
  refine aa (Bl (hG _ _ rfl) row after (by omega)) ?_
  have hr:idx after row 0<((row.length:Nat):Int)∨row.length=0∧idx after row 0 = -1:=by
    rcases rk after row 0 (by omega) with ⟨h,_⟩ | ⟨k,h,hk,_⟩
    · by_cases h0:row.length=0
      · exact .inr ⟨h0,h⟩
      · exact .inl (by omega)
    · have:=(List.getElem?_eq_some_iff.1 hk).1
      exact .inl (by omega)
  have hm:max (idx after row 0) (0:Int)=max 0 (idx after row 0):=by omega
  have hw:IntKind.wrap .i64 (max (idx after row 0) (0:Int)+1)=(((max 0 (idx after row 0)).toNat+1:Nat):Int):=by
    rw [wrap_small (by omega) (by omega)];omega
  obtain ⟨k,hk,mW,Nj⟩:∃k:Nat,min (IntKind.wrap .i64 (max (idx after row 0) (0:Int)+1)) ((row.length:Nat):Int)=(k:Int)∧k≤row.length∧row.take k++(d::row.drop k)=row.take ((max 0 (idx after row 0)).toNat+1)++(d::row.drop ((max 0 (idx after row 0)).toNat+1)):=by
    rw [hw]
    by_cases h0:row.length=0
    · have:row=[]:=by simpa using h0
      subst this
      exact ⟨0,by simp;omega,by simp,by simp⟩
    · exact ⟨(max 0 (idx after row 0)).toNat+1,by omega,by omega,rfl⟩
  have vg:(min (IntKind.wrap .i64 ((max (idx after row 0) (0:Int):Int)+(1:Int))) (((List.length row):Nat):Int):Int)=(k:Int):=hk
  show cond (aT (List.length row) (0:Int) (min (IntKind.wrap .i64 ((max (idx after row 0) (0:Int):Int)+(1:Int))) (((List.length row):Nat):Int):Int))
    (cond (aT (List.length row) (min (IntKind.wrap .i64 ((max (idx after row 0) (0:Int):Int)+(1:Int))) (((List.length row):Nat):Int):Int) (((List.length row):Nat):Int))
     ((FX G 135 nD ((((cut row (0:Int) (min (IntKind.wrap .i64 ((max (idx after row 0) (0:Int):Int)+(1:Int))) (((List.length row):Nat):Int):Int))::([d]::((cut row (min (IntKind.wrap .i64 ((max (idx after row 0) (0:Int):Int)+(1:Int))) (((List.length row):Nat):Int):Int) (((List.length row):Nat):Int))::([]:List (List ae))))),()),())).bind fun (y4:(((List ae)×Unit)×Unit)) =>
     some (y4.1,()))
     (none))
    (none)=_
  rw [vg]
  refine af (uW mW) (af (E0 mW) ?_)
  have key:∀a b R:List ae,a=row.take k→b=row.drop k→R=b5 (row.take k++(d::row.drop k))→((FX G 135 nD (([a,[d],b],()),())).bind fun (y3:(((List ae)×Unit)×Unit))=>some (y3.1,()))=some ((R,()),()):=by
    intro a b R ha hb hR
    subst ha hb hR
    refine aa (PY hG [row.take k,[d],row.drop k] (by simp) (by unfold total;simp;omega)) ?_
    refine congrArg (fun l:List ae=>some ((l,()),())) ?_
    simp
  exact key _ _ _ (ru row k) (yS row mW) (by rw [Nj])
theorem wI{row:List ae}{d:ae}{k:Nat}(hn:row.Nodup)(hk:row[k]? = some d):row.filter (fun e=>decide (e≠d))=row.take k++row.drop (k+1):=by
 obtain ⟨h1,h2⟩:=List.getElem?_eq_some_iff.1 hk
 conv=>lhs;rw [←List.take_append_drop k row,List.drop_eq_getElem_cons h1,h2]
 have Ij:(row.take k++(d::row.drop (k+1))).Nodup:=by
  rw [←h2,←List.drop_eq_getElem_cons h1,List.take_append_drop];exact hn
 have h3:=List.nodup_append.1 Ij
 have h4:=List.nodup_cons.1 h3.2.1
 rw [List.filter_append,List.filter_cons_of_neg (by simp)]
 congr 1
 ·rw [List.filter_eq_self];intro a ha
  have:=h3.2.2 a ha d (by simp)
  simpa using this
 ·rw [List.filter_eq_self];intro a ha
  have:a≠d:=fun e=>h4.1 (e▸ha)
  simpa using this
theorem Uc(hG:HG G)(row:List ae)(d:ae)(hn:row.Nodup)(hl:row.length≤50000000):FX G 119 Gx ((row,d,()),())=some ((iJ row d,()),()):=by
 refine aC (fn:=Tryz.f119) (hG _ _ rfl) (by kernel_rfl) (by kernel_rfl) ((YG _ _ _).trans ?_)
 refine aa (Bl (hG _ _ rfl) row d (by omega)) ?_
 unfold iJ
 by_cases hd:d∈row
 ·obtain ⟨k,h1,h2,h3⟩:=eZ hd
  have aE:=(List.getElem?_eq_some_iff.1 h2).1
  rw [wI hn h2]
  show cond (decide (idx d row 0<0)) _ (cond (aT row.length 0 (idx d row 0)) (cond (aT row.length (IntKind.wrap .i64 (idx d row 0+1)) ((row.length:Nat):Int)) ((FX G 135 nD (([cut row 0 (idx d row 0),cut row (IntKind.wrap .i64 (idx d row 0+1)) ((row.length:Nat):Int)],()),())).bind fun (y3:(((List ae)×Unit)×Unit))=>some (y3.1,())) none) none)=_
  rw [h1,aO aE (by omega)]
  refine ag (decide_eq_false (by omega)) (af (uW (by omega)) (af (E0 (by omega)) ?_))
  have key:∀a b:List ae,a=row.take k→b=row.drop (k+1)→((FX G 135 nD (([a,b],()),())).bind fun (y3:(((List ae)×Unit)×Unit))=>some (y3.1,()))=some ((b5 (row.take k++row.drop (k+1)),()),()):=by
   intro a b ha hb
   subst ha hb
   refine aa (PY hG [row.take k,row.drop (k+1)] (by simp) (by unfold total;simp;omega)) ?_
   refine congrArg (fun l:List ae=>some ((l,()),())) ?_
   simp
  exact key _ _ (ru row k) (yS row (by omega))
 ·have h1:=mu.2 hd
  refine af (decide_eq_true h1) (aa (Dp hG row (by omega)) ?_)
  refine congrArg (fun l:List ae=>some ((l,()),())) ?_
  congr 1
  symm
  rw [List.filter_eq_self];intro a ha
  have:a≠d:=fun e=>hd (e▸ha)
  simpa using this
theorem Ud(hG:HG G)(row:List ae)(dr d:ae)(hl:row.length≤50000000):FX G 121 ss ((row,dr,d,()),())=some ((fT row dr d,()),()):=by
 refine aC (fn:=Tryz.f121) (hG _ _ rfl) (by kernel_rfl) (by kernel_rfl) ((YH _ _ _).trans ?_)
 refine aa (Bl (hG _ _ rfl) row dr (by omega)) ?_
 unfold fT
 by_cases ho:dr∈row
 ·obtain ⟨k,h1,h2,h3⟩:=eZ ho
  have aE:=(List.getElem?_eq_some_iff.1 h2).1
  refine ag (decide_eq_false (show ¬idx dr row 0<0 by omega)) ?_
  refine aa (Dn hG row d (by omega)) ?_
  by_cases hd:d∈row
  ·rw [if_neg (fun h=>h.2 hd)]
   exact af (decide_eq_true hd) (aa (Dp hG row (by omega)) rfl)
  rw [if_pos ⟨ho,hd⟩]
  refine ag (decide_eq_false hd) ?_
  show cond (aT row.length 0 (idx dr row 0)) (cond (aT row.length (IntKind.wrap .i64 (idx dr row 0+1)) ((row.length:Nat):Int)) ((FX G 135 nD (([cut row 0 (idx dr row 0),[d],cut row (IntKind.wrap .i64 (idx dr row 0+1)) ((row.length:Nat):Int)],()),())).bind fun (y3:(((List ae)×Unit)×Unit))=>some (y3.1,())) none) none=_
  rw [h1,aO aE (by omega)]
  refine af (uW (by omega)) (af (E0 (by omega)) ?_)
  have key:∀a b R:List ae,a=row.take k→b=row.drop (k+1)→R=b5 (row.set ((k:Int)).toNat d)→((FX G 135 nD (([a,[d],b],()),())).bind fun (y3:(((List ae)×Unit)×Unit))=>some (y3.1,()))=some ((R,()),()):=by
   intro a b R ha hb hR
   subst ha hb hR
   refine aa (PY hG [row.take k,[d],row.drop (k+1)] (by simp) (by unfold total;simp;omega)) ?_
   refine congrArg (fun l:List ae=>some ((l,()),())) ?_
   rw [Int.toNat_natCast,List.set_eq_take_append_cons_drop,if_pos aE];simp
  exact key _ _ _ (ru row k) (yS row (by omega)) rfl
 ·have h1:=mu.2 ho
  rw [if_neg (fun h=>ho h.1)]
  exact af (decide_eq_true h1) (aa (Dp hG row (by omega)) rfl)
theorem ZU(hG:HG G)(row:List ae)(d:ae)(hl:row.length≤100000000):FX G 140 C9 ((row,d,()),())=some (KI (fa row d (row.length - 1)),()):=by
 refine aC (fn:=Tryz.f140) (hG _ _ rfl) (by kernel_rfl) (by kernel_rfl) ((YV _ _ _).trans ?_)
 have key:FX G 157 AE ((row,(d,((IntKind.wrap .i64 (((row.length:Nat):Int) - 1)),()))),())=some (KI (fa row d (row.length - 1)),()):=by
  refine aC (fn:=Tryz.f157) (hG _ _ rfl) (by kernel_rfl) (by kernel_rfl) ((TW _ _ _).trans ?_)
  refine aa (Bl (hG _ _ rfl) row d (by omega)) ?_
  unfold fa
  by_cases hd:d∈row
  ·rw [if_pos hd]
   obtain ⟨k,h1,h2,h3⟩:=eZ hd
   have aE:=(List.getElem?_eq_some_iff.1 h2).1
   refine ag (decide_eq_false (show ¬idx d row 0<0 by omega)) ?_
   refine ag (Jg hd) ?_
   have hw:IntKind.wrap .i64 (((row.length:Nat):Int) - 1)=((row.length - 1:Nat):Int):=by rw [wrap_small (by omega) (by omega)];omega
   have I8:IntKind.wrap .i64 (idx d row 0+IntKind.wrap .i64 (((row.length:Nat):Int) - 1))=((k+(row.length - 1):Nat):Int):=by
    rw [hw,h1,wrap_small (by omega) (by omega)];rfl
   have VR:(k+(row.length - 1)) % row.length<row.length:=Nat.mod_lt _ (by omega)
   have hx:=List.getElem?_eq_getElem VR
   refine aa (show bh row (Int.tmod (IntKind.wrap .i64 (idx d row 0+IntKind.wrap .i64 (((row.length:Nat):Int) - 1))) ((row.length:Nat):Int))=some row[(k+(row.length - 1)) % row.length] by rw [I8,uP];exact aD hx) ?_
   rw [h1,Int.toNat_natCast,hx];rfl
  ·rw [if_neg hd]
   exact af (decide_eq_true (mu.2 hd)) rfl
 refine aa key ?_
 rfl
end Go.Vs
