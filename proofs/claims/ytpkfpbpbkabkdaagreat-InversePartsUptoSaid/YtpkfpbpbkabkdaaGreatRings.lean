/- What the program computes at edges and rings, written plainly. -/
import Derived.Test.YtpkfpbpbkabkdaaGreatPlaces
set_option linter.unusedVariables false
set_option linter.unusedSimpArgs false
namespace Go.Vs
open Go.Proofs
variable {G:(f:FuncId)→(g:aN)→Option (g.A→Option g.B)}
theorem get_at{s:ByteArray}{i:Nat}{c:UInt8}(h:s.data.toList[i]? = some c):s.get! i=c:=by
 have hi:i<s.data.size:=by have:=(List.getElem?_eq_some_iff.1 h).1;simpa using this
 have h2:=(List.getElem?_eq_some_iff.1 h).2
 show s.data[i]! = c
 rw[getElem!_pos s.data i hi,←h2];simp
theorem NT{s:ByteArray}{i:Nat}(h:(s.get! i).toNat<128):Utf8.decode s i=((s.get! i).toNat,1):=by
 unfold Utf8.decode
 simp only[Nat.add_zero]
 rw[if_pos h]
theorem NU{s:ByteArray}{i:Nat}(h:¬(s.get! i).toNat<128):128≤(Utf8.decode s i).1:=by
 unfold Utf8.decode
 simp only[Nat.add_zero]
 rw[if_neg h]
 repeat' split
 all_goals first|(simp_all only[Bool.and_eq_true,decide_eq_true_eq];omega)|decide|omega
theorem ag7(hG:G 161 wS=none)(s:ByteArray)(hs:s.size≤100000000):∀(n i:Nat),i+n=s.size →
  LX G 161 wS Tryz.f161 w7 (aM Tryz.prog 161 0) ((s,()),((),((s,i),())))=some ((((s.data.toList.drop i).all kC&&decide (s.size≤16),()),()):(Bool×Unit)×Unit):=by
 have hl:s.data.toList.length=s.size:=by simp
 intro n
 induction n with
 |zero =>
  intro i hi
  refine ao (j:=0) (by kernel_rfl) ((Rg _ _ _).trans ?_)
  refine ag (decide_eq_false (show ¬(i<s.size) by omega)) ?_
  refine congrArg (fun b:Bool=>some ((b,()),())) ?_
  rw[List.drop_eq_nil_of_le (by omega),List.all_nil,Bool.true_and,Bool.eq_iff_iff];simp;omega
 |succ n ih =>
  intro i hi
  have aF:i<s.data.toList.length:=by omega
  have hx:s.data.toList[i]? = some s.data.toList[i]:=List.getElem?_eq_getElem aF
  generalize s.data.toList[i]=c at hx
  have hd:s.data.toList.drop i=c::s.data.toList.drop (i+1):=by
   rw[List.drop_eq_getElem_cons aF];rw[List.getElem?_eq_getElem aF]at hx;cases hx;rfl
  have hg:=get_at hx
  refine ao (j:=0) (by kernel_rfl) ((Rg _ _ _).trans ?_)
  refine af (decide_eq_true (show i<s.size by omega)) ?_
  show cond (decide (oW s i<32)) _ (cond (decide (oW s i>126)) _ (LX G 161 wS Tryz.f161 w7 (aM Tryz.prog 161 0) ((s,()),((),((s,i+Af s i),())))))=_
  rw[hd,List.all_cons]
  by_cases h1:c.toNat<128
  ·have hr:Utf8.decode s i=(c.toNat,1):=by rw[NT (by rw[hg];exact h1),hg]
   have hr1:oW s i=(c.toNat:Int):=by unfold oW;rw[hr]
   have VV:Af s i=1:=by unfold Af;rw[hr]
   rw[hr1,VV]
   by_cases h2:c.toNat<32
   ·refine af (decide_eq_true (by omega)) ?_
    have:kC c=false:=by unfold kC;simp;omega
    rw[this];rfl
   refine ag (decide_eq_false (by omega)) ?_
   by_cases h3:126<c.toNat
   ·refine af (decide_eq_true (by omega)) ?_
    have:kC c=false:=by unfold kC;simp;omega
    rw[this];rfl
   refine ag (decide_eq_false (by omega)) ?_
   have:kC c=true:=by unfold kC;simp;omega
   rw[this,Bool.true_and]
   exact ih (i+1) (by omega)
  ·have h2:=NU (s:=s) (i:=i) (by rw[hg];exact h1)
   have hr1:128≤oW s i:=by unfold oW;omega
   refine ag (decide_eq_false (by omega)) (af (decide_eq_true (by omega)) ?_)
   have:kC c=false:=by unfold kC;simp;omega
   rw[this];rfl
theorem ag9(hG:G 161 wS=none)(s:ByteArray)(hs:s.size≤100000000):FX G 161 wS ((s,()),())=some ((mG s,()),()):=by
 refine aw (fn:=Tryz.f161) hG (by kernel_rfl) (by kernel_rfl) ((agc _ _ _).trans ?_)
 have:=ag7 hG s hs s.size 0 (by omega)
 rw[List.drop_zero]at this
 exact this
theorem aha(hG:G 162 Hu=none)(n:Int):FX G 162 Hu ((n,()),())=some ((kD n,()),()):=by
 refine aw (fn:=Tryz.f162) hG (by kernel_rfl) (by kernel_rfl) ((agd _ _ _).trans ?_)
 show(cond (decide (n≥-1099511627776)) (some ((decide (n≤1099511627776),()),())) (some ((false,()),())):Option ((Bool×Unit)×Unit))=some ((kD n,()),())
 unfold kD
 by_cases h1 : -1099511627776≤n<;>simp[h1]
def NV(n:Int):Prop := -9223372036854775808≤n∧n<9223372036854775808
theorem RU(x:BitVec 64):IntKind.wrap .i64 ((x.toNat:Nat):Int)=x.toInt:=by
 unfold IntKind.wrap
 simp only[IntKind.bits,IntKind.signed]
 have h:=x.isLt
 have h2:=BitVec.toInt_eq_toNat_cond x
 rw[h2]
 simp
 split<;>split<;>omega
theorem ofInt_toInt{n:Int}(h:NV n):(BitVec.ofInt 64 n).toInt=n:=by
 unfold NV at h
 rw[BitVec.toInt_ofInt]
 exact Int.bmod_eq_of_le (by omega) (by omega)
theorem UR{n:Int}(h:NV n):(cU .andNot .i64 n 3==(0:Int))=decide (0≤n∧n≤3):=by
 have e:cU .andNot .i64 n 3=(BitVec.ofInt 64 n &&& ~~~(BitVec.ofInt 64 3)).toInt:=by unfold cU;exact RU _
 rw[e,Bool.eq_iff_iff]
 simp only[beq_iff_eq,decide_eq_true_eq]
 generalize hx:BitVec.ofInt 64 n=x
 have hn:=ofInt_toInt h
 rw[hx]at hn
 have h1:(x &&& ~~~(BitVec.ofInt 64 3)).toInt=0↔(x &&& ~~~(BitVec.ofInt 64 3))=0#64:=by
  constructor
  ·intro h;exact BitVec.eq_of_toInt_eq (by rw[h];rfl)
  ·intro h;rw[h];rfl
 rw[h1,←hn]
 constructor
 ·intro h
  have h2:x=x &&& 3#64:=by
   have h3:x=(x &&& ~~~(BitVec.ofInt 64 3)) ||| (x &&& 3#64):=by
    ext i hi
    simp only[BitVec.getElem_or,BitVec.getElem_and,BitVec.getElem_not]
    have:(BitVec.ofInt 64 3)=3#64:=rfl
    rw[this]
    cases x[i]<;>cases (3#64)[i]<;>rfl
   rw[h]at h3
   simpa using h3
  have h4:x.toNat≤3:=by
   rw[h2,BitVec.toNat_and]
   exact Nat.and_le_right
  rw[BitVec.toInt_eq_toNat_cond]
  split<;>omega
 ·intro h
  have h4:x.toNat≤3:=by
   rw[BitVec.toInt_eq_toNat_cond]at h
   have:=x.isLt
   split at h<;>omega
  have h5:x=0#64∨x=1#64∨x=2#64∨x=3#64:=by
   have:x.toNat=0∨x.toNat=1∨x.toNat=2∨x.toNat=3:=by omega
   rcases this with h|h|h|h
   ·exact .inl (BitVec.eq_of_toNat_eq (by rw[h];rfl))
   ·exact .inr (.inl (BitVec.eq_of_toNat_eq (by rw[h];rfl)))
   ·exact .inr (.inr (.inl (BitVec.eq_of_toNat_eq (by rw[h];rfl))))
   ·exact .inr (.inr (.inr (BitVec.eq_of_toNat_eq (by rw[h];rfl))))
  rcases h5 with rfl|rfl|rfl|rfl<;>decide
theorem US{n:Int}(h:NV n):(cU .andNot .i64 n 1==(0:Int))=decide (n=0∨n=1):=by
 have e:cU .andNot .i64 n 1=(BitVec.ofInt 64 n &&& ~~~(BitVec.ofInt 64 1)).toInt:=by unfold cU;exact RU _
 rw[e,Bool.eq_iff_iff]
 simp only[beq_iff_eq,decide_eq_true_eq]
 generalize hx:BitVec.ofInt 64 n=x
 have hn:=ofInt_toInt h
 rw[hx]at hn
 have h1:(x &&& ~~~(BitVec.ofInt 64 1)).toInt=0↔(x &&& ~~~(BitVec.ofInt 64 1))=0#64:=by
  constructor
  ·intro h;exact BitVec.eq_of_toInt_eq (by rw[h];rfl)
  ·intro h;rw[h];rfl
 rw[h1,←hn]
 constructor
 ·intro h
  have h2:x=x &&& 1#64:=by
   have h3:x=(x &&& ~~~(BitVec.ofInt 64 1)) ||| (x &&& 1#64):=by
    ext i hi
    simp only[BitVec.getElem_or,BitVec.getElem_and,BitVec.getElem_not]
    have:(BitVec.ofInt 64 1)=1#64:=rfl
    rw[this]
    cases x[i]<;>cases (1#64)[i]<;>rfl
   rw[h]at h3
   simpa using h3
  have h4:x.toNat≤1:=by
   rw[h2,BitVec.toNat_and]
   exact Nat.and_le_right
  rw[BitVec.toInt_eq_toNat_cond]
  split<;>omega
 ·intro h
  have h4:x.toNat≤1:=by
   rw[BitVec.toInt_eq_toNat_cond]at h
   have:=x.isLt
   split at h<;>omega
  have h5:x=0#64∨x=1#64:=by
   have:x.toNat=0∨x.toNat=1:=by omega
   rcases this with h|h
   ·exact .inl (BitVec.eq_of_toNat_eq (by rw[h];rfl))
   ·exact .inr (BitVec.eq_of_toNat_eq (by rw[h];rfl))
  rcases h5 with rfl|rfl<;>decide
theorem ab3(hG:HG G)(d:ae)(h:NV d.2):FX G 190 HA ((d,()),())=some ((Ia d,()),()):=by
 refine aw (fn:=Tryz.f190) (hG _ _ rfl) (by kernel_rfl) (by kernel_rfl) ((aaq _ _ _).trans ?_)
 refine aa (NS (hG _ _ rfl) d.1) ?_
 unfold Ia
 cases b4 d.1
 ·rfl
 ·exact af rfl (congrArg (fun b:Bool=>some ((b,()),())) (US h))
theorem ab4(hG:HG G)(c:nF)(h:NV c.2.2):FX G 160 Df ((c,()),())=some ((rv c,()),()):=by
 refine aw (fn:=Tryz.f160) (hG _ _ rfl) (by kernel_rfl) (by kernel_rfl) ((agb _ _ _).trans ?_)
 refine aa (NS (hG _ _ rfl) c.1) ?_
 unfold rv
 cases b4 c.1
 ·rfl
 refine af rfl ?_
 have hb:(((c.2.1.1==(0:Int))&&(c.2.1.2==(0:Int)))&&(c.2.2==(0:Int)))=decide (c.2=zD):=kA c.2 zD
 by_cases hz:c.2=zD
 ·refine af (hb.trans (decide_eq_true hz)) ?_
  rw[decide_eq_true hz,Bool.or_true];rfl
 ·refine ag (hb.trans (decide_eq_false hz)) ?_
  refine aa (ab3 hG c.2 h) ?_
  rw[decide_eq_false hz,Bool.or_false];rfl
structure Fit(o:aZ):Prop where
 a:NV (oA o).2.2
 b:NV (oB o).2.2
 n:NV (oN o)
 t:xh o
def B9(o:aZ):aZ :=
 if o.1=6 then(o.1,(aK o,(zI,(av o,(zC,(zC,(false,(e0,0))))))))
 else if o.1=3 then(o.1,(aK o,(zI,(zI,(oA o,(oB o,(false,(e0,0))))))))
 else if o.1=5 then(o.1,(aK o,(dM o,(av o,(zC,(zC,(false,(e0,oN o))))))))
 else if o.1=7 then(o.1,(aK o,(zI,(zI,(zC,(zC,(gx o,(kV o,0))))))))
 else if o.1=8 then(o.1,(aK o,(zI,(zI,(zC,(zC,(gx o,(e0,oN o))))))))
 else(o.1,(aK o,(zI,(zI,(zC,(zC,(false,(e0,0))))))))
def FQ(o:aZ):Int :=
 if o.1=6 then(if b4 (aK o)=true∧b4 (av o)=true then 0 else 1)
 else if o.1=3 then(if b4 (aK o)=true∧rv (oA o)=true∧rv (oB o)=true then 0 else 1)
 else if o.1=5 then(if b4 (aK o)=true∧b4 (dM o)=true∧b4 (av o)=true∧0≤oN o∧oN o≤3 then 0 else 1)
 else if o.1=7 then(if b4 (aK o)=true then(if mG (kV o)=true then 0 else 4) else 1)
 else if o.1=8 then(if b4 (aK o)=true∧kD (oN o)=true then 0 else 1)
 else if o.1=1∨o.1=2∨o.1=4 then(if b4 (aK o)=true then 0 else 1)
 else 1
theorem Gk{o:aZ}{k:Int}(h:o.1=k):(o.1==k)=true:=by simp[h]
theorem yO{o:aZ}{k:Int}(h:¬o.1=k):(o.1==k)=false:=by simp[h]
theorem ahb(hG:HG G)(o:aZ)(hf:Fit o):FX G 132 Ql ((o,()),())=some ((B9 o,(FQ o,())),()):=by
 refine aw (fn:=Tryz.f132) (hG _ _ rfl) (by kernel_rfl) (by kernel_rfl) ((afO _ _ _).trans ?_)
 refine aa (NS (hG _ _ rfl) (aK o)) ?_
 unfold B9 FQ
 by_cases h1:o.1=1
 ·refine af (Gk h1) (af (Gk h1) ?_)
  rw[if_neg (by omega),if_neg (by omega),if_neg (by omega),if_neg (by omega),if_neg (by omega),if_neg (by omega),if_neg (by omega),if_neg (by omega),if_neg (by omega),if_neg (by omega),if_pos (by omega)]
  cases b4 (aK o)<;>rfl
 refine ag (yO h1) ?_
 by_cases h2:o.1=2
 ·refine af (Gk h2) (af (Gk h2) ?_)
  rw[if_neg (by omega),if_neg (by omega),if_neg (by omega),if_neg (by omega),if_neg (by omega),if_neg (by omega),if_neg (by omega),if_neg (by omega),if_neg (by omega),if_neg (by omega),if_pos (by omega)]
  cases b4 (aK o)<;>rfl
 refine ag (yO h2) ?_
 by_cases h4:o.1=4
 ·refine af (Gk h4) ?_
  rw[if_neg (by omega),if_neg (by omega),if_neg (by omega),if_neg (by omega),if_neg (by omega),if_neg (by omega),if_neg (by omega),if_neg (by omega),if_neg (by omega),if_neg (by omega),if_pos (by omega)]
  cases b4 (aK o)<;>rfl
 refine ag (yO h4) ?_
 by_cases h6:o.1=6
 ·refine af (Gk h6) ?_
  rw[if_pos h6,if_pos h6]
  cases b4 (aK o)
  ·rfl
  refine af rfl (aa (NS (hG _ _ rfl) (av o)) ?_)
  cases b4 (av o)<;>rfl
 refine ag (yO h6) ?_
 rw[if_neg h6,if_neg h6]
 by_cases h3:o.1=3
 ·refine af (Gk h3) ?_
  rw[if_pos h3,if_pos h3]
  cases b4 (aK o)
  ·rfl
  refine af rfl (aa (ab4 hG (oA o) hf.a) ?_)
  cases rv (oA o)
  ·rfl
  refine af rfl (aa (ab4 hG (oB o) hf.b) ?_)
  cases rv (oB o)<;>rfl
 refine ag (yO h3) ?_
 rw[if_neg h3,if_neg h3]
 by_cases h5:o.1=5
 ·refine af (Gk h5) ?_
  rw[if_pos h5,if_pos h5]
  cases b4 (aK o)
  ·rfl
  refine af rfl (aa (NS (hG _ _ rfl) (dM o)) ?_)
  cases b4 (dM o)
  ·rfl
  refine af rfl (aa (NS (hG _ _ rfl) (av o)) ?_)
  cases b4 (av o)
  ·rfl
  refine af rfl (aQ (UR hf.n) ?_)
  by_cases h:0≤oN o∧oN o≤3
  ·rw[decide_eq_true h,if_pos ⟨rfl,rfl,rfl,h⟩];rfl
  ·rw[decide_eq_false h,if_neg (fun k=>h k.2.2.2)];rfl
 refine ag (yO h5) ?_
 rw[if_neg h5,if_neg h5]
 by_cases h7:o.1=7
 ·refine af (Gk h7) ?_
  rw[if_pos h7,if_pos h7]
  refine aa (ag9 (hG _ _ rfl) (kV o) hf.t) ?_
  cases mG (kV o)<;>cases b4 (aK o)<;>rfl
 refine ag (yO h7) ?_
 rw[if_neg h7,if_neg h7]
 by_cases h8:o.1=8
 ·refine af (Gk h8) ?_
  rw[if_pos h8,if_pos h8]
  cases b4 (aK o)
  ·rfl
  refine af rfl (aa (aha (hG _ _ rfl) (oN o)) ?_)
  cases kD (oN o)<;>rfl
 refine ag (yO h8) ?_
 rw[if_neg h8,if_neg h8,if_neg (by omega)];rfl
theorem NW(o:aZ)(h1:1≤o.1)(h8:o.1≤8):pV (B9 o) o=pV (jH o) Jp:=by
 rw[Bool.eq_iff_iff,ia,ia]
 obtain⟨k,i,n,m,⟨a1,a2⟩,⟨b1,b2⟩,f,t,q⟩:=o
 simp only at h1 h8
 unfold B9 jH Jp
 have:k=1∨k=2∨k=3∨k=4∨k=5∨k=6∨k=7∨k=8:=by omega
 rcases this with rfl|rfl|rfl|rfl|rfl|rfl|rfl|rfl<;>simp only[Int.reduceEq,if_true,if_false]<;>constructor<;>intro h<;>simp only[zC,Prod.mk.injEq,true_and,and_true]at h ⊢<;>grind
theorem X5(hG:HG G)(o:aZ)(hf:Fit o):FX G 104 Kd ((o,()),())=some ((bz o,()),()):=by
 refine aw (fn:=Tryz.f104) (hG _ _ rfl) (by kernel_rfl) (by kernel_rfl) ((afu _ _ _).trans ?_)
 refine aa (ahb hG o hf) ?_
 refine aQ (b:=pV (B9 o) o) rfl ?_
 unfold bz
 by_cases h1:o.1<1
 ·rw[if_pos h1]
  have:FQ o=1:=by unfold FQ;rw[if_neg (by omega),if_neg (by omega),if_neg (by omega),if_neg (by omega),if_neg (by omega),if_neg (by omega)]
  rw[this];cases pV (B9 o) o<;>rfl
 rw[if_neg h1]
 by_cases h8:8<o.1
 ·rw[if_pos h8]
  have:FQ o=1:=by unfold FQ;rw[if_neg (by omega),if_neg (by omega),if_neg (by omega),if_neg (by omega),if_neg (by omega),if_neg (by omega)]
  rw[this];cases pV (B9 o) o<;>rfl
 rw[if_neg h8,NW o (by omega) (by omega)]
 have hk:o.1=1∨o.1=2∨o.1=3∨o.1=4∨o.1=5∨o.1=6∨o.1=7∨o.1=8:=by omega
 by_cases hm:b4 (aK o)=true
 case neg =>
  have hb:FQ o=1:=by
   unfold FQ
   rcases hk with h|h|h|h|h|h|h|h<;>simp[h,hm]
  rw[if_pos (by simpa using hm),hb];cases pV (jH o) Jp<;>rfl
 rw[if_neg (by simp[hm])]
 cases pV (jH o) Jp
 ·rw[if_pos rfl];rfl
 rw[if_neg (by simp)]
 refine ag rfl ?_
 refine congrArg (fun n:Int=>some ((n,()),())) ?_
 unfold FQ
 rcases hk with h|h|h|h|h|h|h|h<;>simp[h,hm]
theorem ahc(hG:HG G)(l:List aZ)(hl:l.length≤1073741824)(hf:∀o∈l,Fit o):FX G 66 Hr ((l,()),())=some ((eu l,()),()):=by
 refine aw (fn:=Tryz.f66) (hG _ _ rfl) (by kernel_rfl) (by kernel_rfl) ((afH _ _ _).trans ?_)
 unfold eu
 by_cases h0:l.length=0
 ·refine af (show(((l.length:Nat):Int)==0)=true by simp[h0]) ?_
  rw[if_neg (by omega)];rfl
 refine ag (show(((l.length:Nat):Int)==0)=false by rw[beq_eq_false_iff_ne];omega) ?_
 by_cases h6:6<l.length
 ·refine af (decide_eq_true (show((l.length:Nat):Int)>6 by omega)) ?_
  rw[if_neg (by omega)];rfl
 refine ag (decide_eq_false (show ¬((l.length:Nat):Int)>6 by omega)) ?_
 rw[if_pos (by omega)]
 have loop:∀(n i:Nat),i+n=l.length→LX G 66 Hr Tryz.f66 BL (aM Tryz.prog 66 0) ((l,(((l.length:Nat):Int),((i:Int),()))),((),()))=some ((kE (l.drop i),()),()):=by
  intro n
  induction n with
  |zero =>
   intro i hi
   refine ao (j:=0) (by kernel_rfl) ((QP _ _ _).trans ?_)
   refine ag (decide_eq_false (show ¬((i:Int)<((l.length:Nat):Int)) by omega)) ?_
   rw[List.drop_eq_nil_of_le (by omega)];rfl
  |succ n ih =>
   intro i hi
   have aF:i<l.length:=by omega
   refine ao (j:=0) (by kernel_rfl) ((QP _ _ _).trans ?_)
   refine af (aX aF) (aa (ax (List.getElem?_eq_getElem aF)) ?_)
   refine aa (X5 hG l[i] (hf _ (List.getElem_mem aF))) ?_
   rw[List.drop_eq_getElem_cons aF,kE]
   by_cases hz:bz l[i]=0
   ·rw[if_neg (by simp[hz])]
    refine ag (show(bz l[i] != 0)=false by simp[hz]) ?_
    rw[wI,aE aF hl]
    exact ih (i+1) (by omega)
   ·rw[if_pos hz]
    exact af (show(bz l[i] != 0)=true by simp[hz]) rfl
 have:=loop l.length 0 (by omega)
 rw[List.drop_zero]at this
 exact this
end Go.Vs
namespace Go.Vs
open Go.Proofs
variable {G:(f:FuncId)→(g:aN)→Option (g.A→Option g.B)}
theorem Wy(hG:HG G)(v:ai)(x:ID):FX G 214 D2 ((v,x,()),())=some ((pS v.1 x,()),()):=by
 refine aw (fn:=Tryz.f214) (hG _ _ rfl) (by kernel_rfl) (by kernel_rfl) ((aaN _ _ _).trans ?_)
 exact aa (RP hG v.1 x) rfl
def b5(l:List ai)(x:ID):Nat:=l.countP fun v=>fb v.1 x
def dk(l:List ai):Prop:=l.Pairwise fun a b=>fb a.1 b.1=true
theorem FR(l:List ai)(x:ID):b5 l x≤l.length:=List.countP_le_length
theorem sy{l:List ai}{x:ID}(h:∀v∈l,fb v.1 x=false):b5 l x=0:=by
 unfold b5;rw[List.countP_eq_zero];intro v hv;simp[h v hv]
theorem xm{x:ID}:∀{l:List ai},dk l→∀(k:Nat) (v:ai),l[k]? = some v→(fb v.1 x=true↔k<b5 l x)
 |[],_,k,v,h=>by simp at h
 |w::r,hs,k,v,h=>by
  have hw:∀{u:ai},u∈r→fb w.1 u.1=true:=fun {u} hu=>List.rel_of_pairwise_cons hs hu
  have hr:dk r:=hs.of_cons
  by_cases aF:fb w.1 x=true
  ·have e:b5 (w::r) x=b5 r x+1:=by unfold b5;rw[List.countP_cons_of_pos (by simpa using aF)]
   cases k with
   |zero=>simp at h;subst h;simp[aF,e]
   |succ k=>have:=xm (x:=x) hr k v (by simpa using h);rw[this,e];omega
  ·have hn:∀u∈w::r,fb u.1 x=false:=fun u hu=>by
    rcases List.mem_cons.1 hu with rfl|hu
    ·simpa using aF
    ·rw[Bool.eq_false_iff];intro h2;exact aF (gM (hw hu) h2)
   rw[sy hn,hn v (List.mem_of_getElem? h)]
   simp
theorem RV(hG:HG G)(l:List ai)(x:ID)(hs:dk l)(hl:l.length≤50000000):∀(n i j:Nat),j-i≤n→i≤b5 l x→b5 l x≤j→j≤l.length →
  LX G 215213 ju Tryz.f213 iD (aM Tryz.prog 213 0) ((l,(((l.length:Nat):Int),((i:Int),((j:Int),())))),(((x,()),()),()))=some (((((b5 l x:Nat):Int),(decide ((l[b5 l x]?).map (·.1)=some x),())):Int×(Bool×Unit)),()):=by
 have tG:=FR l x
 have fin:∀(i j:Nat),¬(i<j)→i≤b5 l x→b5 l x≤j→LX G 215213 ju Tryz.f213 iD (aM Tryz.prog 213 0) ((l,(((l.length:Nat):Int),((i:Int),((j:Int),())))),(((x,()),()),()))=some (((((b5 l x:Nat):Int),(decide ((l[b5 l x]?).map (·.1)=some x),())):Int×(Bool×Unit)),()):=fun i j zq h1 h2=>by
  have hi:i=b5 l x:=by omega
  subst hi
  refine ao (j:=0) (by kernel_rfl) ((BS _ _ _).trans ?_)
  refine ag (decide_eq_false (show ¬(((b5 l x:Nat):Int)<(j:Int)) by omega)) ?_
  by_cases hc:b5 l x<l.length
  ·have hx:l[b5 l x]? = some l[b5 l x]:=List.getElem?_eq_getElem hc
   refine af (aX hc) ?_
   refine aa (ax hx) ?_
   refine aa (Wy hG l[b5 l x] x) ?_
   refine congrArg (fun b:Bool=>some ((((b5 l x:Nat):Int),(b,())),())) ?_
   rw[hx]
   unfold pS
   by_cases he:l[b5 l x].1=x
   ·simp[he]
   ·simp[he];split<;>simp
  ·refine ag (decide_eq_false (show ¬(((b5 l x:Nat):Int)<((l.length:Nat):Int)) by omega)) ?_
   refine congrArg (fun b:Bool=>some ((((b5 l x:Nat):Int),(b,())),())) ?_
   rw[List.getElem?_eq_none (by omega)];simp
 intro n
 induction n with
 |zero=>intro i j zq h1 h2 h3;exact fin i j (by omega) h1 h2
 |succ n ih =>
  intro i j zq h1 h2 h3
  by_cases aF:i<j
  case neg=>exact fin i j aF h1 h2
  refine ao (j:=0) (by kernel_rfl) ((BS _ _ _).trans ?_)
  refine af (decide_eq_true (show((i:Int)<(j:Int)) by omega)) ?_
  refine ag rfl ?_
  have hm:=Kw (i:=i) (j:=j) (by omega) (by omega)
  have hh:(i+j) / 2<l.length:=by omega
  have hx:l[(i+j) / 2]? = some l[(i+j) / 2]:=List.getElem?_eq_getElem hh
  have oi:=xm (x:=x) hs ((i+j) / 2) _ hx
  refine aa (show aY l (IntKind.wrap .i64 (kY .u64 (IntKind.wrap .u64 (IntKind.wrap .i64 ((i:Int)+(j:Int)))) (1:Int)))=some l[(i+j) / 2] by rw[hm];exact ax hx) ?_
  refine aa (Wy hG l[(i+j) / 2] x) ?_
  by_cases ho:fb l[(i+j) / 2].1 x=true
  ·refine af (decide_eq_true ((kb _ _).2 ho)) ?_
   have hc:=oi.1 ho
   have hw:IntKind.wrap .i64 (IntKind.wrap .i64 (kY .u64 (IntKind.wrap .u64 (IntKind.wrap .i64 ((i:Int)+(j:Int)))) (1:Int))+1)=(((i+j) / 2+1:Nat):Int):=by
    rw[hm];exact aE hh (by omega)
   have:=ih ((i+j) / 2+1) j (by omega) (by omega) h2 h3
   rw[←hw]at this
   exact this
  ·refine ag (decide_eq_false (fun h=>ho ((kb _ _).1 h))) ?_
   have hc:¬(i+j) / 2<b5 l x:=fun h=>ho (oi.2 h)
   have:=ih i ((i+j) / 2) (by omega) h1 (by omega) (by omega)
   rw[←hm]at this
   exact this
theorem RW(hG:HG G)(l:List ai)(x:ID)(hs:dk l)(hl:l.length≤50000000) :
  FX G 215213 ju ((l,x,()),())=some (((((b5 l x:Nat):Int),(decide ((l[b5 l x]?).map (·.1)=some x),())):Int×(Bool×Unit)),()):=by
 refine aw (fn:=Tryz.f213) (hG _ _ rfl) (by kernel_rfl) (by kernel_rfl) ((Rk _ _ _).trans ?_)
 exact RV hG l x hs hl l.length 0 l.length (by omega) (by omega) (FR l x) (Nat.le_refl _)
theorem oJ(hG:HG G)(w:aV)(x:ID)(hs:dk w.2.1)(hl:w.2.1.length≤50000000) :
  FX G 182 mU ((x,()),(w,()))=some (((((b5 w.2.1 x:Nat):Int),(decide ((w.2.1[b5 w.2.1 x]?).map (·.1)=some x),())):Int×(Bool×Unit)),(w,())):=by
 refine aw (fn:=Tryz.f182) (hG _ _ rfl) (by kernel_rfl) (by kernel_rfl) ((aaw _ _ _).trans ?_)
 exact aa (RW hG w.2.1 x hs hl) rfl
theorem xn{x:ID}:∀{l:List ai},dk l→aT l x=(l[b5 l x]?).filter fun v=>decide (v.1=x)
 |[],_=>rfl
 |w::r,hs=>by
  have hw:∀{u:ai},u∈r→fb w.1 u.1=true:=fun {u} hu=>List.rel_of_pairwise_cons hs hu
  have hr:dk r:=hs.of_cons
  by_cases aF:fb w.1 x=true
  ·have e:b5 (w::r) x=b5 r x+1:=by unfold b5;rw[List.countP_cons_of_pos (by simpa using aF)]
   have br:¬w.1=x:=fun e=>by rw[e,cd]at aF;cases aF
   rw[e]
   simp only[aT,List.find?_cons,br,decide_false,List.getElem?_cons_succ]
   exact xn hr
  ·have hn:∀u∈w::r,fb u.1 x=false:=fun u hu=>by
    rcases List.mem_cons.1 hu with rfl|hu
    ·simpa using aF
    ·rw[Bool.eq_false_iff];intro h2;exact aF (gM (hw hu) h2)
   rw[sy hn]
   by_cases he:w.1=x
   ·simp[aT,List.find?_cons,he,Option.filter]
   ·have Jo:fb x w.1=true:=lz (by simpa using aF) he
    have:aT r x=none:=by
     unfold aT;rw[List.find?_eq_none];intro u hu h2
     have h3:u.1=x:=by simpa using h2
     have h4:=hw hu
     rw[h3]at h4
     have:=ly h4
     rw[Jo]at this;cases this
    rw[show aT (w::r) x=aT r x by simp only[aT,List.find?_cons,he,decide_false],this]
    simp[he,Option.filter]
theorem dn{l:List ai}{x:ID}(hs:dk l):decide ((l[b5 l x]?).map (·.1)=some x)=(aT l x).isSome:=by
 rw[xn hs]
 cases h:l[b5 l x]? with
 |none=>simp
 |some v=>by_cases he:v.1=x<;>simp[he,Option.filter]
theorem Il(v:ai):∀{l:List ai},dk l→aT l v.1=none→dw v l=l.take (b5 l v.1)++(v::l.drop (b5 l v.1))
 |[],_,_=>rfl
 |w::r,hs,hf=>by
  have hw:∀{u:ai},u∈r→fb w.1 u.1=true:=fun {u} hu=>List.rel_of_pairwise_cons hs hu
  have hr:dk r:=hs.of_cons
  have br:¬w.1=v.1:=fun e=>by simp[aT,e]at hf
  have DW:aT r v.1=none:=by simpa[aT,List.find?_cons,br] using hf
  by_cases aF:fb w.1 v.1=true
  ·have e:b5 (w::r) v.1=b5 r v.1+1:=by unfold b5;rw[List.countP_cons_of_pos (by simpa using aF)]
   have VQ:fb v.1 w.1=false:=ly aF
   rw[e,dw,if_neg (by simp[VQ]),Il v hr DW]
   rfl
  ·have hn:∀u∈w::r,fb u.1 v.1=false:=fun u hu=>by
    rcases List.mem_cons.1 hu with rfl|hu
    ·simpa using aF
    ·rw[Bool.eq_false_iff];intro h2;exact aF (gM (hw hu) h2)
   have Jo:fb v.1 w.1=true:=lz (by simpa using aF) br
   rw[sy hn,dw,if_pos Jo];rfl
theorem xp{x:ID}:∀{l:List ai},dk l→(aT l x).isSome=true→c6 l x=l.take (b5 l x)++l.drop (b5 l x+1)
 |[],_,hf=>by simp[aT]at hf
 |w::r,hs,hf=>by
  have hw:∀{u:ai},u∈r→fb w.1 u.1=true:=fun {u} hu=>List.rel_of_pairwise_cons hs hu
  have hr:dk r:=hs.of_cons
  by_cases he:w.1=x
  ·have hn:∀u∈w::r,fb u.1 x=false:=fun u hu=>by
    rcases List.mem_cons.1 hu with rfl|hu
    ·rw[he,cd]
    ·rw[←he];exact ly (hw hu)
   have eW:c6 r x=r:=by
    unfold c6;rw[List.filter_eq_self];intro u hu
    have h4:=hw hu
    simp;intro e2;rw[he,e2,cd]at h4;cases h4
   rw[sy hn]
   unfold c6
   rw[List.filter_cons_of_neg (by simp[he])]
   exact eW
  ·have DW:(aT r x).isSome=true:=by simpa[aT,List.find?_cons,he] using hf
   have aF:fb w.1 x=true:=by
    obtain⟨u,hu⟩:=Option.isSome_iff_exists.1 DW
    have h1:=List.mem_of_find?_eq_some hu
    have h2:u.1=x:=by simpa using List.find?_some hu
    rw[←h2];exact hw h1
   have e:b5 (w::r) x=b5 r x+1:=by unfold b5;rw[List.countP_cons_of_pos (by simpa using aF)]
   rw[e]
   have:=xp hr DW
   simp[c6,List.filter_cons,he]at this ⊢
   exact this
theorem xq(v:ai):∀{l:List ai},dk l→aT l v.1=none→dk (dw v l)
 |[],_,_=>List.pairwise_singleton _ _
 |w::r,hs,hf=>by
  have hw:∀{u:ai},u∈r→fb w.1 u.1=true:=fun {u} hu=>List.rel_of_pairwise_cons hs hu
  have hr:dk r:=hs.of_cons
  have br:¬w.1=v.1:=fun e=>by simp[aT,e]at hf
  have DW:aT r v.1=none:=by simpa[aT,List.find?_cons,br] using hf
  unfold dw
  split
  ·rename_i h
   refine List.Pairwise.cons (fun u hu=>?_) hs
   rcases List.mem_cons.1 hu with rfl|hu
   ·exact h
   ·exact gM h (hw hu)
  ·rename_i h
   have aF:fb w.1 v.1=true:=lz (by simpa using h) (fun e=>br e.symm)
   refine List.Pairwise.cons (fun u hu=>?_) (xq v hr DW)
   rcases oF.1 hu with rfl|hu
   ·exact aF
   ·exact hw hu
theorem uf{l:List ai}{x:ID}(hs:dk l):dk (c6 l x):=hs.filter _
theorem dg{l:List ah}{x:ID}{v:ah}(hs:bY l)(h:ba l x=some v):l[bG l x]? = some v:=by
 have kG:=sx (x:=x) hs
 rw[h]at kG
 cases hg:l[bG l x]? with
 |none=>rw[hg]at kG;simp[Option.filter]at kG
 |some u =>
  rw[hg]at kG
  simp only[Option.filter]at kG
  split at kG
  ·exact kG.symm
  ·cases kG
theorem kH{l:List ah}{x:ID}{v:ah}(h:ba l x=some v):v.1=x:=by simpa using List.find?_some h
theorem gN{l:List ah}{x:ID}{v:ah}(h:ba l x=some v):v∈l:=List.mem_of_find?_eq_some h
theorem jX{l:List ah}{x:ID}{k:Nat}{u:ah}(hs:bY l)(hk:l[k]? = some u)(hu:u.1=x):k=bG l x:=by
 have h1:¬k<bG l x:=fun h=>by
  have:=(xk hs k u hk).2 h
  rw[hu,cd]at this;cases this
 have hf:(ba l x).isSome=true:=by
  unfold ba;rw[List.find?_isSome];exact⟨u,List.mem_of_getElem? hk,by simp[hu]⟩
 obtain⟨v,hv⟩:=Option.isSome_iff_exists.1 hf
 have hg:=dg hs hv
 by_cases h2:bG l x<k
 ·obtain⟨h3,h4⟩:=List.getElem?_eq_some_iff.1 hg
  obtain⟨h5,h6⟩:=List.getElem?_eq_some_iff.1 hk
  have:=List.pairwise_iff_getElem.1 hs _ _ h3 h5 h2
  rw[h4,h6,kH hv,hu,cd]at this;cases this
 ·omega
theorem Im{l:List ah}{x:ID}{v:ah}(hs:bY l)(h:ba l x=some v)(g f:ah→ah)(h1:∀w,w.1=x→g w=f w)(h2:∀w,w.1≠x→g w=w):l.map g=l.set (bG l x) (f v):=by
 have hg:=dg hs h
 apply List.ext_getElem?
 intro k
 rw[List.getElem?_map,List.getElem?_set]
 by_cases hk:bG l x=k
 ·subst hk
  rw[if_pos rfl,if_pos (List.getElem?_eq_some_iff.1 hg).1,hg]
  simp[h1 v (kH h)]
 ·rw[if_neg hk]
  cases hu:l[k]? with
  |none=>rfl
  |some u =>
   have:u.1≠x:=fun e=>hk (jX hs hu e).symm
   simp[h2 u this]
theorem mo{l:List ai}{x:ID}{v:ai}(hs:dk l)(h:aT l x=some v):l[b5 l x]? = some v:=by
 have kG:=xn (x:=x) hs
 rw[h]at kG
 cases hg:l[b5 l x]? with
 |none=>rw[hg]at kG;simp[Option.filter]at kG
 |some u =>
  rw[hg]at kG
  simp only[Option.filter]at kG
  split at kG
  ·exact kG.symm
  ·cases kG
theorem rz{l:List ai}{x:ID}{v:ai}(h:aT l x=some v):v.1=x:=by simpa using List.find?_some h
theorem Ed{l:List ai}{x:ID}{v:ai}(h:aT l x=some v):v∈l:=List.mem_of_find?_eq_some h
theorem NX{l:List ai}{x:ID}{k:Nat}{u:ai}(hs:dk l)(hk:l[k]? = some u)(hu:u.1=x):k=b5 l x:=by
 have h1:¬k<b5 l x:=fun h=>by
  have:=(xm hs k u hk).2 h
  rw[hu,cd]at this;cases this
 have hf:(aT l x).isSome=true:=by
  unfold aT;rw[List.find?_isSome];exact⟨u,List.mem_of_getElem? hk,by simp[hu]⟩
 obtain⟨v,hv⟩:=Option.isSome_iff_exists.1 hf
 have hg:=mo hs hv
 by_cases h2:b5 l x<k
 ·obtain⟨h3,h4⟩:=List.getElem?_eq_some_iff.1 hg
  obtain⟨h5,h6⟩:=List.getElem?_eq_some_iff.1 hk
  have:=List.pairwise_iff_getElem.1 hs _ _ h3 h5 h2
  rw[h4,h6,rz hv,hu,cd]at this;cases this
 ·omega
theorem RX{l:List ai}{x:ID}{v:ai}(hs:dk l)(h:aT l x=some v)(g f:ai→ai)(h1:∀w,w.1=x→g w=f w)(h2:∀w,w.1≠x→g w=w):l.map g=l.set (b5 l x) (f v):=by
 have hg:=mo hs h
 apply List.ext_getElem?
 intro k
 rw[List.getElem?_map,List.getElem?_set]
 by_cases hk:b5 l x=k
 ·subst hk
  rw[if_pos rfl,if_pos (List.getElem?_eq_some_iff.1 hg).1,hg]
  simp[h1 v (rz h)]
 ·rw[if_neg hk]
  cases hu:l[k]? with
  |none=>rfl
  |some u =>
   have:u.1≠x:=fun e=>hk (NX hs hu e).symm
   simp[h2 u this]
theorem dk.map{l:List ai}(h:dk l){f:ai→ai}(hf:∀v,(f v).1=v.1):dk (l.map f):=by
 unfold dk at h ⊢
 rw[List.pairwise_map]
 exact h.imp fun {a b} nO=>by rw[hf,hf];exact nO
end Go.Vs
namespace Go.Vs
open Go.Proofs
variable {G:(f:FuncId)→(g:aN)→Option (g.A→Option g.B)}
theorem tn{α R:Type}{o:Option α}{a r:Option R}{f:α→Option R}{p:α}(h:o=some p)(k:f p=r):qE o a f=r:=by subst h;exact k
theorem Ma{α R:Type}{o:Option α}{a r:Option R}{f:α→Option R}(h:o=none)(k:a=r):qE o a f=r:=by subst h;exact k
def tp(w:aV)(x:ID):Int×aV :=
 if(aT w.2.1 x).isSome=true then(12,w) else if 40≤w.2.1.length then(3,w) else(0,(w.1,(dw (x,(e0,0)) w.2.1,w.2.2)))
theorem Wz(hG:HG G)(w:aV)(x:ID)(hs:dk w.2.1)(hl:w.2.1.length≤50000000):FX G 178 yx ((x,()),(w,()))=some (((tp w x).1,()),((tp w x).2,())):=by
 refine aw (fn:=Tryz.f178) (hG _ _ rfl) (by kernel_rfl) (by kernel_rfl) ((aas _ _ _).trans ?_)
 refine aa (oJ hG w x hs hl) ?_
 unfold tp
 cases hf:(aT w.2.1 x).isSome
 ·rw[if_neg (by simp)]
  refine ag ((dn hs).trans hf) ?_
  by_cases h2:40≤w.2.1.length
  ·rw[if_pos h2]
   exact af (decide_eq_true (show((w.2.1.length:Nat):Int)≥40 by omega)) rfl
  ·rw[if_neg h2]
   refine ag (decide_eq_false (show ¬((w.2.1.length:Nat):Int)≥40 by omega)) ?_
   have hc:=FR w.2.1 x
   have mw:qF w.2.1 ((b5 w.2.1 x:Nat):Int) [((x,(e0,0)):ai)]=true:=by
    unfold qF
    rw[decide_eq_true (show(0:Int)≤((b5 w.2.1 x:Nat):Int) by omega),decide_eq_true (show((b5 w.2.1 x:Nat):Int)≤((w.2.1.length:Nat):Int) by omega)]
    rw[fits (by simp;omega)];rfl
   refine af mw ?_
   have e:fY w.2.1 ((b5 w.2.1 x:Nat):Int) [((x,(e0,0)):ai)]=dw (x,(e0,0)) w.2.1:=by
    rw[Il (x,(e0,0)) hs (by simpa using hf)]
    unfold fY;simp
   exact congrArg (fun l:List ai=>some (((0:Int),()),((w.1,(l,w.2.2)),()))) e
 ·rw[if_pos rfl]
  exact af ((dn hs).trans hf) rfl
def Ca(w:aV)(o:aZ):Option (Fin 2×Nat) :=
 if gx o=true then(if(aT w.2.1 (aK o)).isSome=true then some (⟨1,by decide⟩,b5 w.2.1 (aK o)) else none)
 else(if(ba w.1 (aK o)).isSome=true then some (⟨0,by decide⟩,bG w.1 (aK o)) else none)
theorem ab5(hG:HG G)(w:aV)(o:aZ)(hv:bY w.1)(he:dk w.2.1)(OX:w.1.length≤50000000)(hle:w.2.1.length≤50000000) :
  FX G 189 HC ((o,()),(w,()))=some ((Ca w o,(Ca w o,())),(w,())):=by
 refine aw (fn:=Tryz.f189) (hG _ _ rfl) (by kernel_rfl) (by kernel_rfl) ((aaE _ _ _).trans ?_)
 unfold Ca
 by_cases ho:gx o=true
 ·rw[if_pos ho]
  refine af ho ?_
  refine aa (oJ hG w (aK o) he hle) ?_
  cases hf:aT w.2.1 (aK o) with
  |none =>
   refine ag ((dn he).trans (by rw[hf];rfl)) ?_
   rfl
  |some e =>
   refine af ((dn he).trans (by rw[hf];rfl)) ?_
   have aF:=(List.getElem?_eq_some_iff.1 (mo he hf)).1
   refine af (cY (fh _) (aX aF)) ?_
   exact af (cY (fh _) (aX aF)) rfl
 ·rw[if_neg ho]
  refine ag (by simpa using ho) ?_
  refine aa (qm hG w (aK o) hv OX) ?_
  cases hf:ba w.1 (aK o) with
  |none =>
   refine ag ((fN hv).trans (by rw[hf];rfl)) ?_
   rfl
  |some e =>
   refine af ((fN hv).trans (by rw[hf];rfl)) ?_
   have aF:=(List.getElem?_eq_some_iff.1 (dg hv hf)).1
   refine af (cY (fh _) (aX aF)) ?_
   exact af (cY (fh _) (aX aF)) rfl
def ug(w:aV)(o:aZ):Int×aV :=
 if gx o=true then(if(aT w.2.1 (aK o)).isSome=true then(0,(w.1,(w.2.1.map (jW o),w.2.2))) else(13,w))
 else(if(ba w.1 (aK o)).isSome=true then(0,(w.1.map (jf o),w.2)) else(13,w))
theorem ahd(hG:HG G)(w:aV)(o:aZ)(hv:bY w.1)(he:dk w.2.1)(OX:w.1.length≤50000000)(hle:w.2.1.length≤50000000) :
  FX G 158 Qo ((o,()),(w,()))=some (((ug w o).1,()),((ug w o).2,())):=by
 refine aw (fn:=Tryz.f158) (hG _ _ rfl) (by kernel_rfl) (by kernel_rfl) ((agh _ _ _).trans ?_)
 refine aa (ab5 hG w o hv he OX hle) ?_
 by_cases ho:gx o=true
 ·cases hf:aT w.2.1 (aK o) with
  |none =>
   have e1:Ca w o=none:=by unfold Ca;rw[if_pos ho,hf];rfl
   have e2:ug w o=(13,w):=by unfold ug;rw[if_pos ho,hf];rfl
   rw[e2]
   exact Ma e1 (Ma e1 rfl)
  |some e =>
   have e1:Ca w o=some (⟨1,by decide⟩,b5 w.2.1 (aK o)):=by unfold Ca;rw[if_pos ho,hf];rfl
   have hm:∀f:ai→ai,(∀u,u.1=aK o→jW o u=f u)→w.2.1.map (jW o)=w.2.1.set (b5 w.2.1 (aK o)) (f e):=fun f hf1 =>
    RX he hf (jW o) f hf1 (fun u hu=>by unfold jW;rw[if_neg (fun k=>hu k.2)])
   have e2:ug w o=(0,(w.1,(w.2.1.map (jW o),w.2.2))):=by unfold ug;rw[if_pos ho,hf];rfl
   rw[e2]
   refine tn e1 (ag rfl (af rfl (tn e1 (ag rfl (af rfl ?_)))))
   by_cases h7:o.1=7
   ·refine af (Gk h7) (aa (mo he hf) ?_)
    have:=hm (fun u=>(u.1,(kV o,u.2.2))) (fun u hu=>by unfold jW;rw[if_pos ⟨ho,hu⟩,if_pos h7])
    exact congrArg (fun l:List ai=>some (((0:Int),()),((w.1,(l,w.2.2)),()))) this.symm
   ·refine ag (yO h7) (aa (mo he hf) ?_)
    have:=hm (fun u=>(u.1,(u.2.1,oN o))) (fun u hu=>by unfold jW;rw[if_pos ⟨ho,hu⟩,if_neg h7])
    exact congrArg (fun l:List ai=>some (((0:Int),()),((w.1,(l,w.2.2)),()))) this.symm
 ·have nt:gx o=false:=by simpa using ho
  cases hf:ba w.1 (aK o) with
  |none =>
   have e1:Ca w o=none:=by unfold Ca;rw[if_neg ho,hf];rfl
   have e2:ug w o=(13,w):=by unfold ug;rw[if_neg ho,hf];rfl
   rw[e2]
   exact Ma e1 (Ma e1 rfl)
  |some e =>
   have e1:Ca w o=some (⟨0,by decide⟩,bG w.1 (aK o)):=by unfold Ca;rw[if_neg ho,hf];rfl
   have hm:∀f:ah→ah,(∀u,u.1=aK o→jf o u=f u)→w.1.map (jf o)=w.1.set (bG w.1 (aK o)) (f e):=fun f hf1 =>
    Im hv hf (jf o) f hf1 (fun u hu=>by unfold jf;rw[if_neg (fun k=>hu k.2)])
   have e2:ug w o=(0,(w.1.map (jf o),w.2)):=by unfold ug;rw[if_neg ho,hf];rfl
   rw[e2]
   refine tn e1 (af rfl (tn e1 (af rfl ?_)))
   by_cases h7:o.1=7
   ·refine af (Gk h7) (aa (dg hv hf) ?_)
    have:=hm (fun u=>(u.1,(u.2.1,(kV o,u.2.2.2)))) (fun u hu=>by unfold jf;rw[if_pos ⟨nt,hu⟩,if_pos h7])
    exact congrArg (fun l:List ah=>some (((0:Int),()),((l,w.2),()))) this.symm
   ·refine ag (yO h7) (aa (dg hv hf) ?_)
    have:=hm (fun u=>(u.1,(u.2.1,(u.2.2.1,oN o)))) (fun u hu=>by unfold jf;rw[if_pos ⟨nt,hu⟩,if_neg h7])
    exact congrArg (fun l:List ah=>some (((0:Int),()),((l,w.2),()))) this.symm
end Go.Vs
namespace Go.Vs
open Go.Proofs
variable {G:(f:FuncId)→(g:aN)→Option (g.A→Option g.B)}
theorem WA(hG:HG G)(a b:ae):FX G 195 D3 ((a,b,()),())=some ((mg a b,()),()):=by
 refine aw (fn:=Tryz.f195) (hG _ _ rfl) (by kernel_rfl) (by kernel_rfl) ((aaQ _ _ _).trans ?_)
 refine aa (RP hG a.1 b.1) ?_
 refine aa (RO hG a.2 b.2) ?_
 refine aa (Ww (hG _ _ rfl) (pS a.1 b.1) (Kv a.2 b.2)) ?_
 refine congrArg (fun n:Int=>some ((n,()),())) ?_
 obtain⟨a1,a2⟩:=a
 obtain⟨b1,b2⟩:=b
 unfold mg pS Kv kB
 simp only[Prod.mk.injEq]
 by_cases h:a1=b1
 ·subst h
  simp only[if_true,cd,Bool.false_or,true_and,decide_true,Bool.true_and]
  by_cases h1:a2<b2
  ·have:¬a2=b2:=by omega
   simp[h1,this]
  ·by_cases h2:a2>b2
   ·have:¬a2=b2:=by omega
    simp[h1,h2,this]
   ·have:a2=b2:=by omega
    simp[this]
 ·simp only[h,if_false,false_and,decide_false,Bool.false_and,Bool.or_false]
  cases fb a1 b1<;>simp
theorem ab6(hG:G 168 l6=none)(row:List ae)(d:ae)(hl:row.length≤1073741824):∀(n i:Nat),i+n=row.length →
  LX G 168 l6 Tryz.f168 vp (aM Tryz.prog 168 0) ((row,(((row.length:Nat):Int),((i:Int),()))),(((d,()),()),()))=some ((idx d (row.drop i) i,()),()):=by
 intro n
 induction n with
 |zero =>
  intro i hi
  refine ao (j:=0) (by kernel_rfl) ((LF _ _ _).trans ?_)
  refine ag (decide_eq_false (show ¬((i:Int)<((row.length:Nat):Int)) by omega)) ?_
  rw[List.drop_eq_nil_of_le (by omega)];rfl
 |succ n ih =>
  intro i hi
  have aF:i<row.length:=by omega
  refine ao (j:=0) (by kernel_rfl) ((LF _ _ _).trans ?_)
  refine af (aX aF) (aa (ax (List.getElem?_eq_getElem aF)) ?_)
  rw[List.drop_eq_getElem_cons aF,idx]
  by_cases he:row[i]=d
  ·rw[if_pos he]
   exact af ((kA d row[i]).trans (decide_eq_true he.symm)) rfl
  ·rw[if_neg he]
   refine ag ((kA d row[i]).trans (decide_eq_false fun h=>he h.symm)) ?_
   rw[wI,aE aF hl]
   exact ih (i+1) (by omega)
theorem Cb(hG:G 168 l6=none)(row:List ae)(d:ae)(hl:row.length≤1073741824):FX G 168 l6 ((row,d,()),())=some ((idx d row 0,()),()):=by
 refine aw (fn:=Tryz.f168) hG (by kernel_rfl) (by kernel_rfl) ((aaK _ _ _).trans ?_)
 have:=ab6 hG row d hl row.length 0 (by omega)
 rw[List.drop_zero]at this
 exact this
theorem Ee(hG:HG G)(row:List ae)(d:ae)(hl:row.length≤1073741824):FX G 166 vg ((row,d,()),())=some ((decide (d∈row),()),()):=by
 refine aw (fn:=Tryz.f166) (hG _ _ rfl) (by kernel_rfl) (by kernel_rfl) ((aaJ _ _ _).trans ?_)
 refine aa (Cb (hG _ _ rfl) row d hl) ?_
 refine congrArg (fun b:Bool=>some ((b,()),())) ?_
 rw[Bool.eq_iff_iff]
 simp only[decide_eq_true_eq]
 have:=eT (d:=d) (row:=row)
 constructor
 ·intro h;exact Classical.byContradiction fun k=>by have:=this.2 k;omega
 ·intro h
  have h2:¬idx d row 0<0:=fun k=>this.1 k h
  omega
theorem dN(a:ae):kB a a=false:=by unfold kB;simp[cd]
theorem fO{a b c:ae}(h:kB a b=true)(k:kB b c=true):kB a c=true:=by
 obtain⟨⟨a1,a2⟩,a3⟩:=a;obtain⟨⟨b1,b2⟩,b3⟩:=b;obtain⟨⟨c1,c2⟩,c3⟩:=c
 simp[kB,fb]at *;omega
theorem xt{a b:ae}(h:kB a b=false)(k:a≠b):kB b a=true:=by
 obtain⟨⟨a1,a2⟩,a3⟩:=a;obtain⟨⟨b1,b2⟩,b3⟩:=b
 simp[kB,fb]at *;omega
theorem FU{a b c:ae}(h:kB a b=true)(k:kB c b=false):kB a c=true:=by
 obtain⟨⟨a1,a2⟩,a3⟩:=a;obtain⟨⟨b1,b2⟩,b3⟩:=b;obtain⟨⟨c1,c2⟩,c3⟩:=c
 simp[kB,fb]at *;omega
theorem sB(a b:ae):mg a b<0↔kB a b=true:=by
 unfold mg
 by_cases h:a=b
 ·subst h;simp[dN]
 ·rw[if_neg h];cases kB a b<;>simp
theorem pX{row:List ae}{k:Nat}(hk:k<row.length):row.getD k zD=row[k]:=by simp[List.getD,hk]
theorem xu(row:List ae):∀(r:List ae) (i k:Nat),row.drop i=r→k<row.length→k≤i→(∀j,j<i→(hj:j<row.length)→kB row[j] (row.getD k zD)=false)→(∀j,j<k→(hj:j<row.length)→kB (row.getD k zD) row[j]=true) →
  (∀j,(hj:j<row.length)→kB row[j] (row.getD (fG row r i k) zD)=false)∧(∀j,j<fG row r i k→(hj:j<row.length)→kB (row.getD (fG row r i k) zD) row[j]=true)
 |[],i,k,hr,hk,hki,h1,h2=>by
  have hi:row.length≤i:=by
   have:=congrArg List.length hr;simp at this;omega
  exact⟨fun j hj=>h1 j (by omega) hj,h2⟩
 |x::r,i,k,hr,hk,hki,h1,h2=>by
  have hi:i<row.length:=by
   have:=congrArg List.length hr;simp at this;omega
  have hx:row[i]=x:=by
   have:=List.drop_eq_getElem_cons hi;rw[hr]at this;injection this with a b;exact a.symm
  have rM:row.drop (i+1)=r:=by
   have:=List.drop_eq_getElem_cons hi;rw[hr]at this;injection this with a b;exact b.symm
  unfold fG
  split
  ·rename_i aF
   rw[sB]at aF
   refine xu row r (i+1) i rM hi (by omega) (fun j hj Jj=>?_) (fun j hj Jj=>?_)
   ·rw[pX hi,hx]
    rcases Nat.lt_succ_iff_lt_or_eq.1 hj with hj|rfl
    ·cases hc:kB row[j] x with
     |false=>rfl
     |true=>have:=fO hc aF;rw[h1 j hj Jj]at this;cases this
    ·rw[hx,dN]
   ·rw[pX hi,hx]
    exact FU aF (h1 j (by omega) Jj)
  ·rename_i aF
   rw[sB]at aF
   refine xu row r (i+1) k rM hk (by omega) (fun j hj Jj=>?_) h2
   rcases Nat.lt_succ_iff_lt_or_eq.1 hj with hj|rfl
   ·exact h1 j hj Jj
   ·rw[hx];simpa using aF
theorem uh{row:List ae}(h:0<row.length):(∀j,(hj:j<row.length)→kB row[j] (row.getD (fG row row 0 0) zD)=false)∧(∀j,j<fG row row 0 0→(hj:j<row.length)→kB (row.getD (fG row row 0 0) zD) row[j]=true) :=
 xu row row 0 0 rfl h (Nat.le_refl _) (fun j hj=>by omega) (fun j hj=>by omega)
theorem Kx{d:ae}:∀{row:List ae} {k:Nat} {i:Int},row[k]? = some d→(∀j,j<k→row[j]?≠some d)→idx d row i=i+k
 |[],k,i,h,_=>by simp at h
 |e::r,0,i,h,_=>by
  simp at h;subst h;rw[idx,if_pos rfl];simp
 |e::r,k+1,i,h,hn=>by
  have h0:=hn 0 (by omega)
  rw[idx,if_neg (fun e=>h0 (by simp[e]))]
  rw[Kx (k:=k) (by simpa using h) (fun j hj=>by have:=hn (j+1) (by omega);simpa using this)]
  simp;omega
theorem RY{row:List ae}(h:0<row.length):idx (row.getD (fG row row 0 0) zD) row 0=((fG row row 0 0:Nat):Int):=by
 have hm:=pT row row 0 0 h (by omega)
 have:=Kx (d:=row.getD (fG row row 0 0) zD) (row:=row) (k:=fG row row 0 0) (i:=0) (by rw[pX hm];exact List.getElem?_eq_getElem hm) (fun j hj he=>by
  obtain⟨h1,h2⟩:=List.getElem?_eq_some_iff.1 he
  have:=(uh h).2 j hj h1
  rw[h2,dN]at this;cases this)
 omega
theorem RZ(hG:HG G)(row:List ae)(h:0<row.length)(hl:row.length≤100000000):FX G 196194 kt ((row,()),())=some ((row.getD (fG row row 0 0) zD,()),()):=by
 refine aw (fn:=Tryz.f194) (hG _ _ rfl) (by kernel_rfl) (by kernel_rfl) ((Rl _ _ _).trans ?_)
 refine ag (decide_eq_false (show ¬((row.length:Nat):Int)<1 by omega)) ?_
 refine aa (ax (i:=0) (List.getElem?_eq_getElem h)) ?_
 have loop:∀(n i k:Nat),i+n=row.length→k<row.length→LX G 196194 kt Tryz.f194 jT (aM Tryz.prog 194 0) ((row,((i:Int),())),(((zD,()),(((row.getD k zD),()),())),()))=some ((row.getD (fG row (row.drop i) i k) zD,()),()):=by
  intro n
  induction n with
  |zero =>
   intro i k hi hk
   refine ao (j:=0) (by kernel_rfl) ((BT _ _ _).trans ?_)
   refine ag (decide_eq_false (show ¬((i:Int)<((row.length:Nat):Int)) by omega)) ?_
   rw[List.drop_eq_nil_of_le (by omega)];rfl
  |succ n ih =>
   intro i k hi hk
   have aF:i<row.length:=by omega
   have hx:row[i]? = some row[i]:=List.getElem?_eq_getElem aF
   refine ao (j:=0) (by kernel_rfl) ((BT _ _ _).trans ?_)
   refine af (aX aF) (aa (ax hx) ?_)
   refine aa (WA hG row[i] (row.getD k zD)) ?_
   rw[List.drop_eq_getElem_cons aF,fG]
   by_cases ho:mg row[i] (row.getD k zD)<0
   ·rw[if_pos ho]
    refine af (decide_eq_true ho) (aa (ax hx) ?_)
    have:=ih (i+1) i (by omega) aF
    rw[←aE aF (by omega),pX aF]at this
    exact this
   ·rw[if_neg ho]
    refine ag (decide_eq_false ho) ?_
    have:=ih (i+1) k (by omega) hk
    rw[←aE aF (by omega)]at this
    exact this
 have h1:=loop (row.length-1) 1 0 (by omega) h
 have h2:fG row row 0 0=fG row (row.drop 1) 1 0:=by
  cases row with
  |nil=>simp at h
  |cons x r =>
   rw[List.drop_one,List.tail_cons]
   conv=>lhs;rw[fG]
   rw[if_neg]
   show ¬mg x x<0
   unfold mg;simp
 rw[h2]
 have h3:row.getD 0 zD=row[0]:=pX h
 rw[h3]at h1
 exact h1
def total(ls:List (List ae)):Nat:=(ls.map List.length).sum
theorem Cc(a:List ae)(r:List (List ae)):total (a::r)=a.length+total r:=by unfold total;rw[List.map_cons,List.sum_cons]
theorem WB(hG:HG G)(ls:List (List ae))(hn:ls.length≤1000)(hl:total ls≤500000000):FX G 196 ox ((ls,()),())=some ((ls.flatten,()),()):=by
 refine aw (fn:=Tryz.f196) (hG _ _ rfl) (by kernel_rfl) (by kernel_rfl) ((aaR _ _ _).trans ?_)
 have ab7:∀(n i:Nat) (out:List ae),i+n=ls.length→out.length+total (ls.drop i)≤500000000→LX G 196 ox Tryz.f196 vt (aM Tryz.prog 196 1) ((ls,(((ls.length:Nat):Int),((i:Int),()))),((),(out,())))=some ((out++(ls.drop i).flatten,()),()):=by
  intro n
  induction n with
  |zero =>
   intro i out hi ho
   refine ao (j:=1) (by kernel_rfl) ((LH _ _ _).trans ?_)
   refine ag (decide_eq_false (show ¬((i:Int)<((ls.length:Nat):Int)) by omega)) ?_
   rw[List.drop_eq_nil_of_le (by omega),List.flatten_nil,List.append_nil];rfl
  |succ n ih =>
   intro i out hi ho
   have aF:i<ls.length:=by omega
   rw[List.drop_eq_getElem_cons aF]at ho ⊢
   have nt:out.length+(ls[i].length+total (ls.drop (i+1)))≤500000000:=by
    have:total (ls[i]::ls.drop (i+1))=ls[i].length+total (ls.drop (i+1)):=Cc _ _
    omega
   refine ao (j:=1) (by kernel_rfl) ((LH _ _ _).trans ?_)
   refine af (aX aF) (aa (ax (List.getElem?_eq_getElem aF)) ?_)
   refine af (fits (show out.length+ls[i].length≤1073741824 by omega)) ?_
   have:=ih (i+1) (out++ls[i]) (by omega) (by rw[List.length_append];omega)
   rw[List.flatten_cons,←List.append_assoc]
   rw[←aE aF (by omega)]at this
   exact this
 have ab8:∀(n i m:Nat),i+n=ls.length→m+total (ls.drop i)=total ls→LX G 196 ox Tryz.f196 vq (aM Tryz.prog 196 0) ((ls,((m:Int),(ls,(((ls.length:Nat):Int),((i:Int),()))))),((),()))=some ((ls.flatten,()),()):=by
  intro n
  induction n with
  |zero =>
   intro i m hi hm
   refine ao (j:=0) (by kernel_rfl) ((LG _ _ _).trans ?_)
   refine ag (decide_eq_false (show ¬((i:Int)<((ls.length:Nat):Int)) by omega)) ?_
   have hg:qG (m:Int)=true:=by
    unfold qG
    rw[decide_eq_true (show(0:Int)≤(m:Int) by omega)]
    rw[decide_eq_true (show(m:Int)≤fi by unfold fi;omega)];rfl
   refine af hg ?_
   have:=ab7 ls.length 0 [] (by omega) (by rw[List.drop_zero];simpa using hl)
   rw[List.drop_zero,List.nil_append]at this
   exact this
  |succ n ih =>
   intro i m hi hm
   have aF:i<ls.length:=by omega
   have T9:m+ls[i].length+total (ls.drop (i+1))=total ls:=by
    rw[List.drop_eq_getElem_cons aF]at hm
    have:total (ls[i]::ls.drop (i+1))=ls[i].length+total (ls.drop (i+1)):=Cc _ _
    omega
   refine ao (j:=0) (by kernel_rfl) ((LG _ _ _).trans ?_)
   refine af (aX aF) (aa (ax (List.getElem?_eq_getElem aF)) ?_)
   have hw:IntKind.wrap .i64 ((m:Int)+((ls[i].length:Nat):Int))=((m+ls[i].length:Nat):Int):=by rw[wrap_small (by omega) (by omega)];rfl
   refine ag (decide_eq_false (show ¬IntKind.wrap .i64 ((m:Int)+((ls[i].length:Nat):Int))<0 by rw[hw];omega)) ?_
   have:=ih (i+1) (m+ls[i].length) (by omega) T9
   rw[←aE aF (by omega),←hw]at this
   exact this
 exact ab8 ls.length 0 0 (by omega) (by rw[List.drop_zero];omega)
theorem zY{α:Type}(xs:List α){k:Nat}(hk:k≤xs.length):cut xs (k:Int) ((xs.length:Nat):Int)=xs.drop k:=by
 unfold cut;rw[Int.toNat_natCast,Int.toNat_natCast,List.take_of_length_le (Nat.le_refl _)]
theorem sD{α:Type}(xs:List α)(k:Nat):cut xs 0 (k:Int)=xs.take k:=by
 unfold cut;rw[Int.toNat_natCast];rfl
theorem FV{n k:Nat}(h:k≤n):bj n (k:Int) ((n:Nat):Int)=true:=by unfold bj;simp;omega
theorem vN{n k:Nat}(h:k≤n):bj n 0 (k:Int)=true:=by unfold bj;simp;omega
theorem Ef(hG:HG G)(row:List ae)(hl:row.length≤100000000):FX G 169 rh ((row,()),())=some ((cw row,()),()):=by
 refine aw (fn:=Tryz.f169) (hG _ _ rfl) (by kernel_rfl) (by kernel_rfl) ((aaD _ _ _).trans ?_)
 by_cases h0:row.length=0
 ·refine af (show(((row.length:Nat):Int)==0)=true by simp[h0]) ?_
  have:row=[]:=by simpa using h0
  subst this;rfl
 refine ag (show(((row.length:Nat):Int)==0)=false by rw[beq_eq_false_iff_ne];omega) ?_
 have hp:0<row.length:=by omega
 have hm:=pT row row 0 0 hp (by omega)
 refine aa (RZ hG row hp hl) ?_
 refine aa (Cb (hG _ _ rfl) row (row.getD (fG row row 0 0) zD) (by omega)) ?_
 rw[RY hp]
 refine af (FV (n:=row.length) (k:=fG row row 0 0) (by omega)) (af (vN (n:=row.length) (k:=fG row row 0 0) (by omega)) ?_)
 have key:∀a b:List ae,a=row.drop (fG row row 0 0)→b=row.take (fG row row 0 0)→((FX G 196 ox (([a,b],()),())).bind fun(y3:(((List ae)×Unit)×Unit))=>some (y3.1,()))=some ((cw row,()),()):=by
  intro a b ha hb
  subst ha hb
  refine aa (WB hG [row.drop (fG row row 0 0),row.take (fG row row 0 0)] (by simp) (by unfold total;simp;omega)) ?_
  unfold cw CT
  simp only[List.flatten_cons,List.flatten_nil,List.append_nil]
 exact key _ _ (zY row (by omega)) (sD row _)
theorem R1(hG:HG G)(ls:List (List ae))(hn:ls.length≤1000)(hl:total ls≤100000000):FX G 170 ow ((ls,()),())=some ((cw ls.flatten,()),()):=by
 refine aw (fn:=Tryz.f170) (hG _ _ rfl) (by kernel_rfl) (by kernel_rfl) ((aaL _ _ _).trans ?_)
 refine aa (WB hG ls hn (by omega)) ?_
 have hlen:ls.flatten.length=total ls:=by unfold total;exact List.length_flatten
 exact aa (Ef hG ls.flatten (by omega)) rfl
theorem R4(hG:HG G)(row:List ae)(after d:ae)(hl:row.length≤50000000):FX G 181 Bj ((row,after,d,()),())=some ((mh row after d,()),()):=by
  refine aw (fn:=Tryz.f181) (hG _ _ rfl) (by kernel_rfl) (by kernel_rfl) ((aau _ _ _).trans ?_)
  refine aa (Ee hG row d (by omega)) ?_
  unfold mh
  by_cases hd:d∈row
  · rw[if_pos hd]
    exact af (decide_eq_true hd) (aa (Ef hG row (by omega)) rfl)
  rw[if_neg hd]
  refine ag (decide_eq_false hd) ?_
  refine aa (Cb (hG _ _ rfl) row after (by omega)) ?_
  have hr:idx after row 0<((row.length:Nat):Int)∨row.length=0∧idx after row 0 = -1:=by
    rcases oD after row 0 (by omega) with⟨h,_⟩|⟨k,h,hk,_⟩
    · by_cases h0:row.length=0
      · exact .inr ⟨h0,h⟩
      · exact .inl (by omega)
    · have:=(List.getElem?_eq_some_iff.1 hk).1
      exact .inl (by omega)
  have hm:max (idx after row 0) (0:Int)=max 0 (idx after row 0):=by omega
  have hw:IntKind.wrap .i64 (max (idx after row 0) (0:Int)+1)=(((max 0 (idx after row 0)).toNat+1:Nat):Int):=by
    rw[wrap_small (by omega) (by omega)];omega
  obtain⟨k,hk,oT,OY⟩:∃k:Nat,min (IntKind.wrap .i64 (max (idx after row 0) (0:Int)+1)) ((row.length:Nat):Int)=(k:Int)∧k≤row.length∧row.take k++(d::row.drop k)=row.take ((max 0 (idx after row 0)).toNat+1)++(d::row.drop ((max 0 (idx after row 0)).toNat+1)):=by
    rw[hw]
    by_cases h0:row.length=0
    · have:row=[]:=by simpa using h0
      subst this
      exact⟨0,by simp;omega,by simp,by simp⟩
    · exact⟨(max 0 (idx after row 0)).toNat+1,by omega,by omega,rfl⟩
  have wc:(min (IntKind.wrap .i64 ((max (idx after row 0) (0:Int):Int)+(1:Int))) (((List.length row):Nat):Int):Int)=(k:Int):=hk
  show cond (bj (List.length row) (0:Int) (min (IntKind.wrap .i64 ((max (idx after row 0) (0:Int):Int)+(1:Int))) (((List.length row):Nat):Int):Int))
    (cond (bj (List.length row) (min (IntKind.wrap .i64 ((max (idx after row 0) (0:Int):Int)+(1:Int))) (((List.length row):Nat):Int):Int) (((List.length row):Nat):Int))
     ((FX G 170 ow ((((cut row (0:Int) (min (IntKind.wrap .i64 ((max (idx after row 0) (0:Int):Int)+(1:Int))) (((List.length row):Nat):Int):Int))::([d]::((cut row (min (IntKind.wrap .i64 ((max (idx after row 0) (0:Int):Int)+(1:Int))) (((List.length row):Nat):Int):Int) (((List.length row):Nat):Int))::([]:List (List ae))))),()),())).bind fun(y4:(((List ae)×Unit)×Unit)) =>
     some (y4.1,()))
     (none))
    (none)=_
  rw[wc]
  refine af (vN oT) (af (FV oT) ?_)
  have key:∀a b R:List ae,a=row.take k→b=row.drop k→R=cw (row.take k++(d::row.drop k))→((FX G 170 ow (([a,[d],b],()),())).bind fun(y3:(((List ae)×Unit)×Unit))=>some (y3.1,()))=some ((R,()),()):=by
    intro a b R ha hb hR
    subst ha hb hR
    refine aa (R1 hG [row.take k,[d],row.drop k] (by simp) (by unfold total;simp;omega)) ?_
    refine congrArg (fun l:List ae=>some ((l,()),())) ?_
    simp
  exact key _ _ _ (sD row k) (zY row oT) (by rw[OY])
theorem xw{row:List ae}{d:ae}{k:Nat}(hn:row.Nodup)(hk:row[k]? = some d):row.filter (fun e=>decide (e≠d))=row.take k++row.drop (k+1):=by
 obtain⟨h1,h2⟩:=List.getElem?_eq_some_iff.1 hk
 conv=>lhs;rw[←List.take_append_drop k row,List.drop_eq_getElem_cons h1,h2]
 have JD:(row.take k++(d::row.drop (k+1))).Nodup:=by
  rw[←h2,←List.drop_eq_getElem_cons h1,List.take_append_drop];exact hn
 have h3:=List.nodup_append.1 JD
 have h4:=List.nodup_cons.1 h3.2.1
 rw[List.filter_append,List.filter_cons_of_neg (by simp)]
 congr 1
 ·rw[List.filter_eq_self];intro a ha
  have:=h3.2.2 a ha d (by simp)
  simpa using this
 ·rw[List.filter_eq_self];intro a ha
  have:a≠d:=fun e=>h4.1 (e▸ha)
  simpa using this
theorem R5(hG:HG G)(row:List ae)(d:ae)(hn:row.Nodup)(hl:row.length≤50000000):FX G 141 Bn ((row,d,()),())=some ((cC row d,()),()):=by
 refine aw (fn:=Tryz.f141) (hG _ _ rfl) (by kernel_rfl) (by kernel_rfl) ((aaA _ _ _).trans ?_)
 refine aa (Cb (hG _ _ rfl) row d (by omega)) ?_
 unfold cC
 by_cases hd:d∈row
 ·obtain⟨k,h1,h2,h3⟩:=fF hd
  have aF:=(List.getElem?_eq_some_iff.1 h2).1
  rw[xw hn h2]
  show cond (decide (idx d row 0<0)) _ (cond (bj row.length 0 (idx d row 0)) (cond (bj row.length (IntKind.wrap .i64 (idx d row 0+1)) ((row.length:Nat):Int)) ((FX G 170 ow (([cut row 0 (idx d row 0),cut row (IntKind.wrap .i64 (idx d row 0+1)) ((row.length:Nat):Int)],()),())).bind fun(y3:(((List ae)×Unit)×Unit))=>some (y3.1,())) none) none)=_
  rw[h1,aE aF (by omega)]
  refine ag (decide_eq_false (by omega)) (af (vN (by omega)) (af (FV (by omega)) ?_))
  have key:∀a b:List ae,a=row.take k→b=row.drop (k+1)→((FX G 170 ow (([a,b],()),())).bind fun(y3:(((List ae)×Unit)×Unit))=>some (y3.1,()))=some ((cw (row.take k++row.drop (k+1)),()),()):=by
   intro a b ha hb
   subst ha hb
   refine aa (R1 hG [row.take k,row.drop (k+1)] (by simp) (by unfold total;simp;omega)) ?_
   refine congrArg (fun l:List ae=>some ((l,()),())) ?_
   simp
  exact key _ _ (sD row k) (zY row (by omega))
 ·have h1:=eT.2 hd
  refine af (decide_eq_true h1) (aa (Ef hG row (by omega)) ?_)
  refine congrArg (fun l:List ae=>some ((l,()),())) ?_
  congr 1
  symm
  rw[List.filter_eq_self];intro a ha
  have:a≠d:=fun e=>hd (e▸ha)
  simpa using this
theorem WC(hG:HG G)(row:List ae)(cT d:ae)(hl:row.length≤50000000):FX G 187 tf ((row,cT,d,()),())=some ((jF row cT d,()),()):=by
 refine aw (fn:=Tryz.f187) (hG _ _ rfl) (by kernel_rfl) (by kernel_rfl) ((aaB _ _ _).trans ?_)
 refine aa (Cb (hG _ _ rfl) row cT (by omega)) ?_
 unfold jF
 by_cases ho:cT∈row
 ·obtain⟨k,h1,h2,h3⟩:=fF ho
  have aF:=(List.getElem?_eq_some_iff.1 h2).1
  refine ag (decide_eq_false (show ¬idx cT row 0<0 by omega)) ?_
  refine aa (Ee hG row d (by omega)) ?_
  by_cases hd:d∈row
  ·rw[if_neg (fun h=>h.2 hd)]
   exact af (decide_eq_true hd) (aa (Ef hG row (by omega)) rfl)
  rw[if_pos ⟨ho,hd⟩]
  refine ag (decide_eq_false hd) ?_
  show cond (bj row.length 0 (idx cT row 0)) (cond (bj row.length (IntKind.wrap .i64 (idx cT row 0+1)) ((row.length:Nat):Int)) ((FX G 170 ow (([cut row 0 (idx cT row 0),[d],cut row (IntKind.wrap .i64 (idx cT row 0+1)) ((row.length:Nat):Int)],()),())).bind fun(y3:(((List ae)×Unit)×Unit))=>some (y3.1,())) none) none=_
  rw[h1,aE aF (by omega)]
  refine af (vN (by omega)) (af (FV (by omega)) ?_)
  have key:∀a b R:List ae,a=row.take k→b=row.drop (k+1)→R=cw (row.set ((k:Int)).toNat d)→((FX G 170 ow (([a,[d],b],()),())).bind fun(y3:(((List ae)×Unit)×Unit))=>some (y3.1,()))=some ((R,()),()):=by
   intro a b R ha hb hR
   subst ha hb hR
   refine aa (R1 hG [row.take k,[d],row.drop (k+1)] (by simp) (by unfold total;simp;omega)) ?_
   refine congrArg (fun l:List ae=>some ((l,()),())) ?_
   rw[Int.toNat_natCast,List.set_eq_take_append_cons_drop,if_pos aF];simp
  exact key _ _ _ (sD row k) (zY row (by omega)) rfl
 ·have h1:=eT.2 ho
  rw[if_neg (fun h=>ho h.1)]
  exact af (decide_eq_true h1) (aa (Ef hG row (by omega)) rfl)
theorem WD(hG:HG G)(row:List ae)(d:ae)(hl:row.length≤100000000):FX G 140 Bp ((row,d,()),())=some (yI (cz row d (row.length-1)),()):=by
 refine aw (fn:=Tryz.f140) (hG _ _ rfl) (by kernel_rfl) (by kernel_rfl) ((aaP _ _ _).trans ?_)
 have key:FX G 167 Br ((row,(d,((IntKind.wrap .i64 (((row.length:Nat):Int)-1)),()))),())=some (yI (cz row d (row.length-1)),()):=by
  refine aw (fn:=Tryz.f167) (hG _ _ rfl) (by kernel_rfl) (by kernel_rfl) ((Wl _ _ _).trans ?_)
  refine aa (Cb (hG _ _ rfl) row d (by omega)) ?_
  unfold cz
  by_cases hd:d∈row
  ·rw[if_pos hd]
   obtain⟨k,h1,h2,h3⟩:=fF hd
   have aF:=(List.getElem?_eq_some_iff.1 h2).1
   refine ag (decide_eq_false (show ¬idx d row 0<0 by omega)) ?_
   refine ag (FH hd) ?_
   have hw:IntKind.wrap .i64 (((row.length:Nat):Int)-1)=((row.length-1:Nat):Int):=by rw[wrap_small (by omega) (by omega)];omega
   have Uu:IntKind.wrap .i64 (idx d row 0+IntKind.wrap .i64 (((row.length:Nat):Int)-1))=((k+(row.length-1):Nat):Int):=by
    rw[hw,h1,wrap_small (by omega) (by omega)];rfl
   have xj:(k+(row.length-1))%row.length<row.length:=Nat.mod_lt _ (by omega)
   have hx:=List.getElem?_eq_getElem xj
   refine aa (show aY row (Int.tmod (IntKind.wrap .i64 (idx d row 0+IntKind.wrap .i64 (((row.length:Nat):Int)-1))) ((row.length:Nat):Int))=some row[(k+(row.length-1))%row.length] by rw[Uu,rp];exact ax hx) ?_
   rw[h1,Int.toNat_natCast,hx];rfl
  ·rw[if_neg hd]
   exact af (decide_eq_true (eT.2 hd)) rfl
 refine aa key ?_
 rfl
end Go.Vs
