/- What the program computes at edges and rings, written plainly. -/
import Derived.Test.YtpldhjjpeldkaaaGreatPlaces
set_option linter.unusedVariables false
set_option linter.unusedSimpArgs false
namespace Go.Vs
open Go.Proofs
variable {G:(f:FuncId)→(g:aJ)→Option (g.A→Option g.B)}
theorem get_at{s:ByteArray}{i:Nat}{c:UInt8}(h:s.data.toList[i]? = some c):s.get! i=c:=by
 have hi:i<s.data.size:=by have:=(List.getElem?_eq_some_iff.1 h).1;simpa using this
 have h2:=(List.getElem?_eq_some_iff.1 h).2
 show s.data[i]! = c
 rw [getElem!_pos s.data i hi,←h2];simp
theorem Lx{s:ByteArray}{i:Nat}(h:(s.get! i).toNat<128):Utf8.decode s i=((s.get! i).toNat,1):=by
 unfold Utf8.decode
 simp only [Nat.add_zero]
 rw [if_pos h]
theorem Ly{s:ByteArray}{i:Nat}(h:¬(s.get! i).toNat<128):128≤(Utf8.decode s i).1:=by
 unfold Utf8.decode
 simp only [Nat.add_zero]
 rw [if_neg h]
 repeat' split
 all_goals first | (simp_all only [Bool.and_eq_true,decide_eq_true_eq];omega) | decide | omega
theorem adX(hG:G 88 vj=none)(s:ByteArray)(hs:s.size≤100000000):∀(n i:Nat),i+n=s.size →
  LX G 88 vj Tryz.f88 vu (aP Tryz.prog 88 0) ((s,()),((),((s,i),())))=some ((((s.data.toList.drop i).all j4&&decide (s.size≤16),()),()):(Bool×Unit)×Unit):=by
 have hl:s.data.toList.length=s.size:=by simp
 intro n
 induction n with
 | zero =>
  intro i hi
  refine au (j:=0) (by kernel_rfl) ((On _ _ _).trans ?_)
  refine ag (decide_eq_false (show ¬(i<s.size) by omega)) ?_
  refine congrArg (fun b:Bool=>some ((b,()),())) ?_
  rw [List.drop_eq_nil_of_le (by omega),List.all_nil,Bool.true_and,Bool.eq_iff_iff];simp;omega
 | succ n ih =>
  intro i hi
  have aH:i<s.data.toList.length:=by omega
  have hx:s.data.toList[i]? = some s.data.toList[i]:=List.getElem?_eq_getElem aH
  generalize s.data.toList[i]=c at hx
  have hd:s.data.toList.drop i=c::s.data.toList.drop (i+1):=by
   rw [List.drop_eq_getElem_cons aH];rw [List.getElem?_eq_getElem aH] at hx;cases hx;rfl
  have hg:=get_at hx
  refine au (j:=0) (by kernel_rfl) ((On _ _ _).trans ?_)
  refine ae (decide_eq_true (show i<s.size by omega)) ?_
  show cond (decide (nH s i<32)) _ (cond (decide (nH s i > 126)) _ (LX G 88 vj Tryz.f88 vu (aP Tryz.prog 88 0) ((s,()),((),((s,i+yj s i),())))))=_
  rw [hd,List.all_cons]
  by_cases h1:c.toNat<128
  ·have hr:Utf8.decode s i=(c.toNat,1):=by rw [Lx (by rw [hg];exact h1),hg]
   have hr1:nH s i=(c.toNat:Int):=by unfold nH;rw [hr]
   have T0:yj s i=1:=by unfold yj;rw [hr]
   rw [hr1,T0]
   by_cases h2:c.toNat<32
   ·refine ae (decide_eq_true (by omega)) ?_
    have:j4 c=false:=by unfold j4;simp;omega
    rw [this];rfl
   refine ag (decide_eq_false (by omega)) ?_
   by_cases h3:126<c.toNat
   ·refine ae (decide_eq_true (by omega)) ?_
    have:j4 c=false:=by unfold j4;simp;omega
    rw [this];rfl
   refine ag (decide_eq_false (by omega)) ?_
   have:j4 c=true:=by unfold j4;simp;omega
   rw [this,Bool.true_and]
   exact ih (i+1) (by omega)
  ·have h2:=Ly (s:=s) (i:=i) (by rw [hg];exact h1)
   have hr1:128≤nH s i:=by unfold nH;omega
   refine ag (decide_eq_false (by omega)) (ae (decide_eq_true (by omega)) ?_)
   have:j4 c=false:=by unfold j4;simp;omega
   rw [this];rfl
theorem adZ(hG:G 88 vj=none)(s:ByteArray)(hs:s.size≤100000000):FX G 88 vj ((s,()),())=some ((BU s,()),()):=by
 refine ar (fn:=Tryz.f88) hG (by kernel_rfl) (by kernel_rfl) ((acV _ _ _).trans ?_)
 have:=adX hG s hs s.size 0 (by omega)
 rw [List.drop_zero] at this
 exact this
theorem ad0(hG:G 89 FE=none)(n:Int):FX G 89 FE ((n,()),())=some ((uq n,()),()):=by
 refine ar (fn:=Tryz.f89) hG (by kernel_rfl) (by kernel_rfl) ((acW _ _ _).trans ?_)
 show (cond (decide (n≥-1099511627776)) (some ((decide (n≤1099511627776),()),())) (some ((false,()),())):Option ((Bool×Unit)×Unit))=some ((uq n,()),())
 unfold uq
 by_cases h1 : -1099511627776≤n<;>simp [h1]
def O4(n:Int):Prop := -9223372036854775808≤n∧n<9223372036854775808
theorem O5(x:BitVec 64):IntKind.wrap .i64 ((x.toNat:Nat):Int)=x.toInt:=by
 unfold IntKind.wrap
 simp only [IntKind.bits,IntKind.signed]
 have h:=x.isLt
 have h2:=BitVec.toInt_eq_toNat_cond x
 rw [h2]
 simp
 split<;>split<;>omega
theorem ofInt_toInt{n:Int}(h:O4 n):(BitVec.ofInt 64 n).toInt=n:=by
 unfold O4 at h
 rw [BitVec.toInt_ofInt]
 exact Int.bmod_eq_of_le (by omega) (by omega)
theorem Rz{n:Int}(h:O4 n):(eg .andNot .i64 n 3==(0:Int))=decide (0≤n∧n≤3):=by
 have e:eg .andNot .i64 n 3=(BitVec.ofInt 64 n &&& ~~~(BitVec.ofInt 64 3)).toInt:=by unfold eg;exact O5 _
 rw [e,Bool.eq_iff_iff]
 simp only [beq_iff_eq,decide_eq_true_eq]
 generalize hx:BitVec.ofInt 64 n=x
 have hn:=ofInt_toInt h
 rw [hx] at hn
 have h1:(x &&& ~~~(BitVec.ofInt 64 3)).toInt=0↔(x &&& ~~~(BitVec.ofInt 64 3))=0#64:=by
  constructor
  ·intro h;exact BitVec.eq_of_toInt_eq (by rw [h];rfl)
  ·intro h;rw [h];rfl
 rw [h1,←hn]
 constructor
 ·intro h
  have h2:x=x &&& 3#64:=by
   have h3:x=(x &&& ~~~(BitVec.ofInt 64 3)) ||| (x &&& 3#64):=by
    ext i hi
    simp only [BitVec.getElem_or,BitVec.getElem_and,BitVec.getElem_not]
    have:(BitVec.ofInt 64 3)=3#64:=rfl
    rw [this]
    cases x[i]<;>cases (3#64)[i]<;>rfl
   rw [h] at h3
   simpa using h3
  have h4:x.toNat≤3:=by
   rw [h2,BitVec.toNat_and]
   exact Nat.and_le_right
  rw [BitVec.toInt_eq_toNat_cond]
  split<;>omega
 ·intro h
  have h4:x.toNat≤3:=by
   rw [BitVec.toInt_eq_toNat_cond] at h
   have:=x.isLt
   split at h<;>omega
  have h5:x=0#64∨x=1#64∨x=2#64∨x=3#64:=by
   have:x.toNat=0∨x.toNat=1∨x.toNat=2∨x.toNat=3:=by omega
   rcases this with h | h | h | h
   ·exact .inl (BitVec.eq_of_toNat_eq (by rw [h];rfl))
   ·exact .inr (.inl (BitVec.eq_of_toNat_eq (by rw [h];rfl)))
   ·exact .inr (.inr (.inl (BitVec.eq_of_toNat_eq (by rw [h];rfl))))
   ·exact .inr (.inr (.inr (BitVec.eq_of_toNat_eq (by rw [h];rfl))))
  rcases h5 with rfl | rfl | rfl | rfl<;>decide
theorem RA{n:Int}(h:O4 n):(eg .andNot .i64 n 1==(0:Int))=decide (n=0∨n=1):=by
 have e:eg .andNot .i64 n 1=(BitVec.ofInt 64 n &&& ~~~(BitVec.ofInt 64 1)).toInt:=by unfold eg;exact O5 _
 rw [e,Bool.eq_iff_iff]
 simp only [beq_iff_eq,decide_eq_true_eq]
 generalize hx:BitVec.ofInt 64 n=x
 have hn:=ofInt_toInt h
 rw [hx] at hn
 have h1:(x &&& ~~~(BitVec.ofInt 64 1)).toInt=0↔(x &&& ~~~(BitVec.ofInt 64 1))=0#64:=by
  constructor
  ·intro h;exact BitVec.eq_of_toInt_eq (by rw [h];rfl)
  ·intro h;rw [h];rfl
 rw [h1,←hn]
 constructor
 ·intro h
  have h2:x=x &&& 1#64:=by
   have h3:x=(x &&& ~~~(BitVec.ofInt 64 1)) ||| (x &&& 1#64):=by
    ext i hi
    simp only [BitVec.getElem_or,BitVec.getElem_and,BitVec.getElem_not]
    have:(BitVec.ofInt 64 1)=1#64:=rfl
    rw [this]
    cases x[i]<;>cases (1#64)[i]<;>rfl
   rw [h] at h3
   simpa using h3
  have h4:x.toNat≤1:=by
   rw [h2,BitVec.toNat_and]
   exact Nat.and_le_right
  rw [BitVec.toInt_eq_toNat_cond]
  split<;>omega
 ·intro h
  have h4:x.toNat≤1:=by
   rw [BitVec.toInt_eq_toNat_cond] at h
   have:=x.isLt
   split at h<;>omega
  have h5:x=0#64∨x=1#64:=by
   have:x.toNat=0∨x.toNat=1:=by omega
   rcases this with h | h
   ·exact .inl (BitVec.eq_of_toNat_eq (by rw [h];rfl))
   ·exact .inr (BitVec.eq_of_toNat_eq (by rw [h];rfl))
  rcases h5 with rfl | rfl<;>decide
theorem YL(hG:HG G)(d:ab)(h:O4 d.2):FX G 106 FJ ((d,()),())=some ((Iz d,()),()):=by
 refine ar (fn:=Tryz.f106) (hG _ _ rfl) (by kernel_rfl) (by kernel_rfl) ((Xh _ _ _).trans ?_)
 refine aa (Gx (hG _ _ rfl) d.1) ?_
 unfold Iz
 cases cT d.1
 ·rfl
 ·exact ae rfl (congrArg (fun b:Bool=>some ((b,()),())) (RA h))
theorem YM(hG:HG G)(c:oU)(h:O4 c.2.2):FX G 87 BN ((c,()),())=some ((xk c,()),()):=by
 refine ar (fn:=Tryz.f87) (hG _ _ rfl) (by kernel_rfl) (by kernel_rfl) ((acU _ _ _).trans ?_)
 refine aa (Gx (hG _ _ rfl) c.1) ?_
 unfold xk
 cases cT c.1
 ·rfl
 refine ae rfl ?_
 have hb:(((c.2.1.1==(0:Int))&&(c.2.1.2==(0:Int)))&&(c.2.2==(0:Int)))=decide (c.2=zD):=kh c.2 zD
 by_cases hz:c.2=zD
 ·refine ae (hb.trans (decide_eq_true hz)) ?_
  rw [decide_eq_true hz,Bool.or_true];rfl
 ·refine ag (hb.trans (decide_eq_false hz)) ?_
  refine aa (YL hG c.2 h) ?_
  rw [decide_eq_false hz,Bool.or_false];rfl
structure Fit(o:bB):Prop where
 a:O4 (oA o).2.2
 b:O4 (oB o).2.2
 n:O4 (oN o)
 t:mC o
def AB(o:bB):bB :=
 if o.1=6 then (o.1,(aS o,(zI,(aU o,(zC,(zC,(false,(e0,0))))))))
 else if o.1=3 then (o.1,(aS o,(zI,(zI,(oA o,(oB o,(false,(e0,0))))))))
 else if o.1=5 then (o.1,(aS o,(ed o,(aU o,(zC,(zC,(false,(e0,oN o))))))))
 else if o.1=7 then (o.1,(aS o,(zI,(zI,(zC,(zC,(mD o,(nj o,0))))))))
 else if o.1=8 then (o.1,(aS o,(zI,(zI,(zC,(zC,(mD o,(e0,oN o))))))))
 else (o.1,(aS o,(zI,(zI,(zC,(zC,(false,(e0,0))))))))
def Eg(o:bB):Int :=
 if o.1=6 then (if cT (aS o)=true∧cT (aU o)=true then 0 else 1)
 else if o.1=3 then (if cT (aS o)=true∧xk (oA o)=true∧xk (oB o)=true then 0 else 1)
 else if o.1=5 then (if cT (aS o)=true∧cT (ed o)=true∧cT (aU o)=true∧0≤oN o∧oN o≤3 then 0 else 1)
 else if o.1=7 then (if cT (aS o)=true then (if BU (nj o)=true then 0 else 4) else 1)
 else if o.1=8 then (if cT (aS o)=true∧uq (oN o)=true then 0 else 1)
 else if o.1=1∨o.1=2∨o.1=4 then (if cT (aS o)=true then 0 else 1)
 else 1
theorem EA{o:bB}{k:Int}(h:o.1=k):(o.1==k)=true:=by simp [h]
theorem wX{o:bB}{k:Int}(h:¬o.1=k):(o.1==k)=false:=by simp [h]
theorem ad1(hG:HG G)(o:bB)(hf:Fit o):FX G 65 FA ((o,()),())=some ((AB o,(Eg o,())),()):=by
 refine ar (fn:=Tryz.f65) (hG _ _ rfl) (by kernel_rfl) (by kernel_rfl) ((Uh _ _ _).trans ?_)
 refine aa (Gx (hG _ _ rfl) (aS o)) ?_
 unfold AB Eg
 by_cases h1:o.1=1
 ·refine ae (EA h1) (ae (EA h1) ?_)
  rw [if_neg (by omega),if_neg (by omega),if_neg (by omega),if_neg (by omega),if_neg (by omega),if_neg (by omega),if_neg (by omega),if_neg (by omega),if_neg (by omega),if_neg (by omega),if_pos (by omega)]
  cases cT (aS o)<;>rfl
 refine ag (wX h1) ?_
 by_cases h2:o.1=2
 ·refine ae (EA h2) (ae (EA h2) ?_)
  rw [if_neg (by omega),if_neg (by omega),if_neg (by omega),if_neg (by omega),if_neg (by omega),if_neg (by omega),if_neg (by omega),if_neg (by omega),if_neg (by omega),if_neg (by omega),if_pos (by omega)]
  cases cT (aS o)<;>rfl
 refine ag (wX h2) ?_
 by_cases h4:o.1=4
 ·refine ae (EA h4) ?_
  rw [if_neg (by omega),if_neg (by omega),if_neg (by omega),if_neg (by omega),if_neg (by omega),if_neg (by omega),if_neg (by omega),if_neg (by omega),if_neg (by omega),if_neg (by omega),if_pos (by omega)]
  cases cT (aS o)<;>rfl
 refine ag (wX h4) ?_
 by_cases h6:o.1=6
 ·refine ae (EA h6) ?_
  rw [if_pos h6,if_pos h6]
  cases cT (aS o)
  ·rfl
  refine ae rfl (aa (Gx (hG _ _ rfl) (aU o)) ?_)
  cases cT (aU o)<;>rfl
 refine ag (wX h6) ?_
 rw [if_neg h6,if_neg h6]
 by_cases h3:o.1=3
 ·refine ae (EA h3) ?_
  rw [if_pos h3,if_pos h3]
  cases cT (aS o)
  ·rfl
  refine ae rfl (aa (YM hG (oA o) hf.a) ?_)
  cases xk (oA o)
  ·rfl
  refine ae rfl (aa (YM hG (oB o) hf.b) ?_)
  cases xk (oB o)<;>rfl
 refine ag (wX h3) ?_
 rw [if_neg h3,if_neg h3]
 by_cases h5:o.1=5
 ·refine ae (EA h5) ?_
  rw [if_pos h5,if_pos h5]
  cases cT (aS o)
  ·rfl
  refine ae rfl (aa (Gx (hG _ _ rfl) (ed o)) ?_)
  cases cT (ed o)
  ·rfl
  refine ae rfl (aa (Gx (hG _ _ rfl) (aU o)) ?_)
  cases cT (aU o)
  ·rfl
  refine ae rfl (aY (Rz hf.n) ?_)
  by_cases h:0≤oN o∧oN o≤3
  ·rw [decide_eq_true h,if_pos ⟨rfl,rfl,rfl,h⟩];rfl
  ·rw [decide_eq_false h,if_neg (fun k=>h k.2.2.2)];rfl
 refine ag (wX h5) ?_
 rw [if_neg h5,if_neg h5]
 by_cases h7:o.1=7
 ·refine ae (EA h7) ?_
  rw [if_pos h7,if_pos h7]
  refine aa (adZ (hG _ _ rfl) (nj o) hf.t) ?_
  cases BU (nj o)<;>cases cT (aS o)<;>rfl
 refine ag (wX h7) ?_
 rw [if_neg h7,if_neg h7]
 by_cases h8:o.1=8
 ·refine ae (EA h8) ?_
  rw [if_pos h8,if_pos h8]
  cases cT (aS o)
  ·rfl
  refine ae rfl (aa (ad0 (hG _ _ rfl) (oN o)) ?_)
  cases uq (oN o)<;>rfl
 refine ag (wX h8) ?_
 rw [if_neg h8,if_neg h8,if_neg (by omega)];rfl
theorem LA(o:bB)(h1:1≤o.1)(h8:o.1≤8):xl (AB o) o=xl (uu o) UB:=by
 rw [Bool.eq_iff_iff,Az,Az]
 obtain ⟨k,i,n,m,⟨a1,a2⟩,⟨b1,b2⟩,f,t,q⟩:=o
 simp only at h1 h8
 unfold AB uu UB
 have:k=1∨k=2∨k=3∨k=4∨k=5∨k=6∨k=7∨k=8:=by omega
 rcases this with rfl | rfl | rfl | rfl | rfl | rfl | rfl | rfl<;>simp only [Int.reduceEq,if_true,if_false]<;>constructor<;>intro h<;>simp only [zC,Prod.mk.injEq,true_and,and_true] at h ⊢<;>grind
theorem ad2(hG:HG G)(o:bB)(hf:Fit o):FX G 43 BJ ((o,()),())=some ((cx o,()),()):=by
 refine ar (fn:=Tryz.f43) (hG _ _ rfl) (by kernel_rfl) (by kernel_rfl) ((WX _ _ _).trans ?_)
 refine aa (ad1 hG o hf) ?_
 refine aY (b:=xl (AB o) o) rfl ?_
 unfold cx
 by_cases h1:o.1<1
 ·rw [if_pos h1]
  have:Eg o=1:=by unfold Eg;rw [if_neg (by omega),if_neg (by omega),if_neg (by omega),if_neg (by omega),if_neg (by omega),if_neg (by omega)]
  rw [this];cases xl (AB o) o<;>rfl
 rw [if_neg h1]
 by_cases h8:8<o.1
 ·rw [if_pos h8]
  have:Eg o=1:=by unfold Eg;rw [if_neg (by omega),if_neg (by omega),if_neg (by omega),if_neg (by omega),if_neg (by omega),if_neg (by omega)]
  rw [this];cases xl (AB o) o<;>rfl
 rw [if_neg h8,LA o (by omega) (by omega)]
 have hk:o.1=1∨o.1=2∨o.1=3∨o.1=4∨o.1=5∨o.1=6∨o.1=7∨o.1=8:=by omega
 by_cases hm:cT (aS o)=true
 case neg =>
  have hb:Eg o=1:=by
   unfold Eg
   rcases hk with h | h | h | h | h | h | h | h<;>simp [h,hm]
  rw [if_pos (by simpa using hm),hb];cases xl (uu o) UB<;>rfl
 rw [if_neg (by simp [hm])]
 cases xl (uu o) UB
 ·rw [if_pos rfl];rfl
 rw [if_neg (by simp)]
 refine ag rfl ?_
 refine congrArg (fun n:Int=>some ((n,()),())) ?_
 unfold Eg
 rcases hk with h | h | h | h | h | h | h | h<;>simp [h,hm]
theorem ad3(hG:HG G)(l:List bB)(hl:l.length≤1073741824)(hf:∀o∈l,Fit o):FX G 58 DR ((l,()),())=some ((fq l,()),()):=by
 refine ar (fn:=Tryz.f58) (hG _ _ rfl) (by kernel_rfl) (by kernel_rfl) ((WZ _ _ _).trans ?_)
 unfold fq
 by_cases h0:l.length=0
 ·refine ae (show (((l.length:Nat):Int)==0)=true by simp [h0]) ?_
  rw [if_neg (by omega)];rfl
 refine ag (show (((l.length:Nat):Int)==0)=false by rw [beq_eq_false_iff_ne];omega) ?_
 by_cases h6:6<l.length
 ·refine ae (decide_eq_true (show ((l.length:Nat):Int) > 6 by omega)) ?_
  rw [if_neg (by omega)];rfl
 refine ag (decide_eq_false (show ¬((l.length:Nat):Int) > 6 by omega)) ?_
 rw [if_pos (by omega)]
 have loop:∀(n i:Nat),i+n=l.length→LX G 58 DR Tryz.f58 Af (aP Tryz.prog 58 0) ((l,(((l.length:Nat):Int),((i:Int),()))),((),()))=some ((j5 (l.drop i),()),()):=by
  intro n
  induction n with
  | zero =>
   intro i hi
   refine au (j:=0) (by kernel_rfl) ((DW _ _ _).trans ?_)
   refine ag (decide_eq_false (show ¬((i:Int)<((l.length:Nat):Int)) by omega)) ?_
   rw [List.drop_eq_nil_of_le (by omega)];rfl
  | succ n ih =>
   intro i hi
   have aH:i<l.length:=by omega
   refine au (j:=0) (by kernel_rfl) ((DW _ _ _).trans ?_)
   refine ae (aX aH) (aa (aK (List.getElem?_eq_getElem aH)) ?_)
   refine aa (ad2 hG l[i] (hf _ (List.getElem_mem aH))) ?_
   rw [List.drop_eq_getElem_cons aH,j5]
   by_cases hz:cx l[i]=0
   ·rw [if_neg (by simp [hz])]
    refine ag (show (cx l[i] != 0)=false by simp [hz]) ?_
    rw [aI aH hl]
    exact ih (i+1) (by omega)
   ·rw [if_pos hz]
    exact ae (show (cx l[i] != 0)=true by simp [hz]) rfl
 have:=loop l.length 0 (by omega)
 rw [List.drop_zero] at this
 exact this
end Go.Vs
namespace Go.Vs
open Go.Proofs
variable {G:(f:FuncId)→(g:aJ)→Option (g.A→Option g.B)}
theorem S7(hG:HG G)(v:af)(x:ID):FX G 138 Cw ((v,x,()),())=some ((qc v.1 x,()),()):=by
 refine ar (fn:=Tryz.f138) (hG _ _ rfl) (by kernel_rfl) (by kernel_rfl) ((XF _ _ _).trans ?_)
 exact aa (OZ hG v.1 x) rfl
def bX(l:List af)(x:ID):Nat:=l.countP fun v=>fw v.1 x
def c6(l:List af):Prop:=l.Pairwise fun a b=>fw a.1 b.1=true
theorem Eh(l:List af)(x:ID):bX l x≤l.length:=List.countP_le_length
theorem qU{l:List af}{x:ID}(h:∀v∈l,fw v.1 x=false):bX l x=0:=by
 unfold bX;rw [List.countP_eq_zero];intro v hv;simp [h v hv]
theorem vI{x:ID}:∀{l:List af},c6 l→∀(k:Nat) (v:af),l[k]? = some v→(fw v.1 x=true↔k<bX l x)
 | [],_,k,v,h=>by simp at h
 | w::r,hs,k,v,h=>by
  have hw:∀{u:af},u∈r→fw w.1 u.1=true:=fun {u} hu=>List.rel_of_pairwise_cons hs hu
  have hr:c6 r:=hs.of_cons
  by_cases aH:fw w.1 x=true
  ·have e:bX (w::r) x=bX r x+1:=by unfold bX;rw [List.countP_cons_of_pos (by simpa using aH)]
   cases k with
   | zero=>simp at h;subst h;simp [aH,e]
   | succ k=>have:=vI (x:=x) hr k v (by simpa using h);rw [this,e];omega
  ·have hn:∀u∈w::r,fw u.1 x=false:=fun u hu=>by
    rcases List.mem_cons.1 hu with rfl | hu
    ·simpa using aH
    ·rw [Bool.eq_false_iff];intro h2;exact aH (iv (hw hu) h2)
   rw [qU hn,hn v (List.mem_of_getElem? h)]
   simp
theorem O6(hG:HG G)(l:List af)(x:ID)(hs:c6 l)(hl:l.length≤50000000):∀(n i j:Nat),j - i≤n→i≤bX l x→bX l x≤j→j≤l.length →
  LX G 139137 iP Tryz.f137 g9 (aP Tryz.prog 137 0) ((l,(((l.length:Nat):Int),((i:Int),((j:Int),())))),(((x,()),()),()))=some (((((bX l x:Nat):Int),(decide ((l[bX l x]?).map (·.1)=some x),())):Int×(Bool×Unit)),()):=by
 have ta:=Eh l x
 have fin:∀(i j:Nat),¬(i<j)→i≤bX l x→bX l x≤j→LX G 139137 iP Tryz.f137 g9 (aP Tryz.prog 137 0) ((l,(((l.length:Nat):Int),((i:Int),((j:Int),())))),(((x,()),()),()))=some (((((bX l x:Nat):Int),(decide ((l[bX l x]?).map (·.1)=some x),())):Int×(Bool×Unit)),()):=fun i j yK h1 h2=>by
  have hi:i=bX l x:=by omega
  subst hi
  refine au (j:=0) (by kernel_rfl) ((Al _ _ _).trans ?_)
  refine ag (decide_eq_false (show ¬(((bX l x:Nat):Int)<(j:Int)) by omega)) ?_
  by_cases hc:bX l x<l.length
  ·have hx:l[bX l x]? = some l[bX l x]:=List.getElem?_eq_getElem hc
   refine ae (aX hc) ?_
   refine aa (aK hx) ?_
   refine aa (S7 hG l[bX l x] x) ?_
   refine congrArg (fun b:Bool=>some ((((bX l x:Nat):Int),(b,())),())) ?_
   rw [hx]
   unfold qc
   by_cases he:l[bX l x].1=x
   ·simp [he]
   ·simp [he];split<;>simp
  ·refine ag (decide_eq_false (show ¬(((bX l x:Nat):Int)<((l.length:Nat):Int)) by omega)) ?_
   refine congrArg (fun b:Bool=>some ((((bX l x:Nat):Int),(b,())),())) ?_
   rw [List.getElem?_eq_none (by omega)];simp
 intro n
 induction n with
 | zero=>intro i j yK h1 h2 h3;exact fin i j (by omega) h1 h2
 | succ n ih =>
  intro i j yK h1 h2 h3
  by_cases aH:i<j
  case neg=>exact fin i j aH h1 h2
  refine au (j:=0) (by kernel_rfl) ((Al _ _ _).trans ?_)
  refine ae (decide_eq_true (show ((i:Int)<(j:Int)) by omega)) ?_
  refine ag rfl ?_
  have hm:=IE (i:=i) (j:=j) (by omega) (by omega)
  have hh:(i+j) / 2<l.length:=by omega
  have hx:l[(i+j) / 2]? = some l[(i+j) / 2]:=List.getElem?_eq_getElem hh
  have mX:=vI (x:=x) hs ((i+j) / 2) _ hx
  refine aa (show aV l (IntKind.wrap .i64 (ku .u64 (IntKind.wrap .u64 (IntKind.wrap .i64 ((i:Int)+(j:Int)))) (1:Int)))=some l[(i+j) / 2] by rw [hm];exact aK hx) ?_
  refine aa (S7 hG l[(i+j) / 2] x) ?_
  by_cases ho:fw l[(i+j) / 2].1 x=true
  ·refine ae (decide_eq_true ((mb _ _).2 ho)) ?_
   have hc:=mX.1 ho
   have hw:IntKind.wrap .i64 (IntKind.wrap .i64 (ku .u64 (IntKind.wrap .u64 (IntKind.wrap .i64 ((i:Int)+(j:Int)))) (1:Int))+1)=(((i+j) / 2+1:Nat):Int):=by
    rw [hm];exact aI hh (by omega)
   have:=ih ((i+j) / 2+1) j (by omega) (by omega) h2 h3
   rw [←hw] at this
   exact this
  ·refine ag (decide_eq_false (fun h=>ho ((mb _ _).1 h))) ?_
   have hc:¬(i+j) / 2<bX l x:=fun h=>ho (mX.2 h)
   have:=ih i ((i+j) / 2) (by omega) h1 (by omega) (by omega)
   rw [←hm] at this
   exact this
theorem O7(hG:HG G)(l:List af)(x:ID)(hs:c6 l)(hl:l.length≤50000000) :
  FX G 139137 iP ((l,x,()),())=some (((((bX l x:Nat):Int),(decide ((l[bX l x]?).map (·.1)=some x),())):Int×(Bool×Unit)),()):=by
 refine ar (fn:=Tryz.f137) (hG _ _ rfl) (by kernel_rfl) (by kernel_rfl) ((Ou _ _ _).trans ?_)
 exact O6 hG l x hs hl l.length 0 l.length (by omega) (by omega) (Eh l x) (Nat.le_refl _)
theorem np(hG:HG G)(w:aC)(x:ID)(hs:c6 w.2.1)(hl:w.2.1.length≤50000000) :
  FX G 115 l6 ((x,()),(w,()))=some (((((bX w.2.1 x:Nat):Int),(decide ((w.2.1[bX w.2.1 x]?).map (·.1)=some x),())):Int×(Bool×Unit)),(w,())):=by
 refine ar (fn:=Tryz.f115) (hG _ _ rfl) (by kernel_rfl) (by kernel_rfl) ((Xo _ _ _).trans ?_)
 exact aa (O7 hG w.2.1 x hs hl) rfl
theorem vJ{x:ID}:∀{l:List af},c6 l→bf l x=(l[bX l x]?).filter fun v=>decide (v.1=x)
 | [],_=>rfl
 | w::r,hs=>by
  have hw:∀{u:af},u∈r→fw w.1 u.1=true:=fun {u} hu=>List.rel_of_pairwise_cons hs hu
  have hr:c6 r:=hs.of_cons
  by_cases aH:fw w.1 x=true
  ·have e:bX (w::r) x=bX r x+1:=by unfold bX;rw [List.countP_cons_of_pos (by simpa using aH)]
   have bj:¬w.1=x:=fun e=>by rw [e,b4] at aH;cases aH
   rw [e]
   simp only [bf,List.find?_cons,bj,decide_false,List.getElem?_cons_succ]
   exact vJ hr
  ·have hn:∀u∈w::r,fw u.1 x=false:=fun u hu=>by
    rcases List.mem_cons.1 hu with rfl | hu
    ·simpa using aH
    ·rw [Bool.eq_false_iff];intro h2;exact aH (iv (hw hu) h2)
   rw [qU hn]
   by_cases he:w.1=x
   ·simp [bf,List.find?_cons,he,Option.filter]
   ·have Ht:fw x w.1=true:=kM (by simpa using aH) he
    have:bf r x=none:=by
     unfold bf;rw [List.find?_eq_none];intro u hu h2
     have h3:u.1=x:=by simpa using h2
     have h4:=hw hu
     rw [h3] at h4
     have:=kL h4
     rw [Ht] at this;cases this
    rw [show bf (w::r) x=bf r x by simp only [bf,List.find?_cons,he,decide_false],this]
    simp [he,Option.filter]
theorem c4{l:List af}{x:ID}(hs:c6 l):decide ((l[bX l x]?).map (·.1)=some x)=(bf l x).isSome:=by
 rw [vJ hs]
 cases h:l[bX l x]? with
 | none=>simp
 | some v=>by_cases he:v.1=x<;>simp [he,Option.filter]
theorem Gz(v:af):∀{l:List af},c6 l→bf l v.1=none→dm v l=l.take (bX l v.1)++(v::l.drop (bX l v.1))
 | [],_,_=>rfl
 | w::r,hs,hf=>by
  have hw:∀{u:af},u∈r→fw w.1 u.1=true:=fun {u} hu=>List.rel_of_pairwise_cons hs hu
  have hr:c6 r:=hs.of_cons
  have bj:¬w.1=v.1:=fun e=>by simp [bf,e] at hf
  have Cq:bf r v.1=none:=by simpa [bf,List.find?_cons,bj] using hf
  by_cases aH:fw w.1 v.1=true
  ·have e:bX (w::r) v.1=bX r v.1+1:=by unfold bX;rw [List.countP_cons_of_pos (by simpa using aH)]
   have Ss:fw v.1 w.1=false:=kL aH
   rw [e,dm,if_neg (by simp [Ss]),Gz v hr Cq]
   rfl
  ·have hn:∀u∈w::r,fw u.1 v.1=false:=fun u hu=>by
    rcases List.mem_cons.1 hu with rfl | hu
    ·simpa using aH
    ·rw [Bool.eq_false_iff];intro h2;exact aH (iv (hw hu) h2)
   have Ht:fw v.1 w.1=true:=kM (by simpa using aH) bj
   rw [qU hn,dm,if_pos Ht];rfl
theorem vK{x:ID}:∀{l:List af},c6 l→(bf l x).isSome=true→cM l x=l.take (bX l x)++l.drop (bX l x+1)
 | [],_,hf=>by simp [bf] at hf
 | w::r,hs,hf=>by
  have hw:∀{u:af},u∈r→fw w.1 u.1=true:=fun {u} hu=>List.rel_of_pairwise_cons hs hu
  have hr:c6 r:=hs.of_cons
  by_cases he:w.1=x
  ·have hn:∀u∈w::r,fw u.1 x=false:=fun u hu=>by
    rcases List.mem_cons.1 hu with rfl | hu
    ·rw [he,b4]
    ·rw [←he];exact kL (hw hu)
   have eQ:cM r x=r:=by
    unfold cM;rw [List.filter_eq_self];intro u hu
    have h4:=hw hu
    simp;intro e2;rw [he,e2,b4] at h4;cases h4
   rw [qU hn]
   unfold cM
   rw [List.filter_cons_of_neg (by simp [he])]
   exact eQ
  ·have Cq:(bf r x).isSome=true:=by simpa [bf,List.find?_cons,he] using hf
   have aH:fw w.1 x=true:=by
    obtain ⟨u,hu⟩:=Option.isSome_iff_exists.1 Cq
    have h1:=List.mem_of_find?_eq_some hu
    have h2:u.1=x:=by simpa using List.find?_some hu
    rw [←h2];exact hw h1
   have e:bX (w::r) x=bX r x+1:=by unfold bX;rw [List.countP_cons_of_pos (by simpa using aH)]
   rw [e]
   have:=vK hr Cq
   simp [cM,List.filter_cons,he] at this ⊢
   exact this
theorem vL(v:af):∀{l:List af},c6 l→bf l v.1=none→c6 (dm v l)
 | [],_,_=>List.pairwise_singleton _ _
 | w::r,hs,hf=>by
  have hw:∀{u:af},u∈r→fw w.1 u.1=true:=fun {u} hu=>List.rel_of_pairwise_cons hs hu
  have hr:c6 r:=hs.of_cons
  have bj:¬w.1=v.1:=fun e=>by simp [bf,e] at hf
  have Cq:bf r v.1=none:=by simpa [bf,List.find?_cons,bj] using hf
  unfold dm
  split
  ·rename_i h
   refine List.Pairwise.cons (fun u hu => ?_) hs
   rcases List.mem_cons.1 hu with rfl | hu
   ·exact h
   ·exact iv h (hw hu)
  ·rename_i h
   have aH:fw w.1 v.1=true:=kM (by simpa using h) (fun e=>bj e.symm)
   refine List.Pairwise.cons (fun u hu => ?_) (vL v hr Cq)
   rcases ux.1 hu with rfl | hu
   ·exact aH
   ·exact hw hu
theorem sR{l:List af}{x:ID}(hs:c6 l):c6 (cM l x):=hs.filter _
theorem cX{l:List ah}{x:ID}{v:ah}(hs:bW l)(h:aR l x=some v):l[bC l x]? = some v:=by
 have j6:=qT (x:=x) hs
 rw [h] at j6
 cases hg:l[bC l x]? with
 | none=>rw [hg] at j6;simp [Option.filter] at j6
 | some u =>
  rw [hg] at j6
  simp only [Option.filter] at j6
  split at j6
  ·exact j6.symm
  ·cases j6
theorem j7{l:List ah}{x:ID}{v:ah}(h:aR l x=some v):v.1=x:=by simpa using List.find?_some h
theorem fW{l:List ah}{x:ID}{v:ah}(h:aR l x=some v):v∈l:=List.mem_of_find?_eq_some h
theorem jy{l:List ah}{x:ID}{k:Nat}{u:ah}(hs:bW l)(hk:l[k]? = some u)(hu:u.1=x):k=bC l x:=by
 have h1:¬k<bC l x:=fun h=>by
  have:=(vG hs k u hk).2 h
  rw [hu,b4] at this;cases this
 have hf:(aR l x).isSome=true:=by
  unfold aR;rw [List.find?_isSome];exact ⟨u,List.mem_of_getElem? hk,by simp [hu]⟩
 obtain ⟨v,hv⟩:=Option.isSome_iff_exists.1 hf
 have hg:=cX hs hv
 by_cases h2:bC l x<k
 ·obtain ⟨h3,h4⟩:=List.getElem?_eq_some_iff.1 hg
  obtain ⟨h5,h6⟩:=List.getElem?_eq_some_iff.1 hk
  have:=List.pairwise_iff_getElem.1 hs _ _ h3 h5 h2
  rw [h4,h6,j7 hv,hu,b4] at this;cases this
 ·omega
theorem GA{l:List ah}{x:ID}{v:ah}(hs:bW l)(h:aR l x=some v)(g f:ah→ah)(h1:∀w,w.1=x→g w=f w)(h2:∀w,w.1≠x→g w=w):l.map g=l.set (bC l x) (f v):=by
 have hg:=cX hs h
 apply List.ext_getElem?
 intro k
 rw [List.getElem?_map,List.getElem?_set]
 by_cases hk:bC l x=k
 ·subst hk
  rw [if_pos rfl,if_pos (List.getElem?_eq_some_iff.1 hg).1,hg]
  simp [h1 v (j7 h)]
 ·rw [if_neg hk]
  cases hu:l[k]? with
  | none=>rfl
  | some u =>
   have:u.1≠x:=fun e=>hk (jy hs hu e).symm
   simp [h2 u this]
theorem lD{l:List af}{x:ID}{v:af}(hs:c6 l)(h:bf l x=some v):l[bX l x]? = some v:=by
 have j6:=vJ (x:=x) hs
 rw [h] at j6
 cases hg:l[bX l x]? with
 | none=>rw [hg] at j6;simp [Option.filter] at j6
 | some u =>
  rw [hg] at j6
  simp only [Option.filter] at j6
  split at j6
  ·exact j6.symm
  ·cases j6
theorem uy{l:List af}{x:ID}{v:af}(h:bf l x=some v):v.1=x:=by simpa using List.find?_some h
theorem LB{l:List af}{x:ID}{v:af}(h:bf l x=some v):v∈l:=List.mem_of_find?_eq_some h
theorem LC{l:List af}{x:ID}{k:Nat}{u:af}(hs:c6 l)(hk:l[k]? = some u)(hu:u.1=x):k=bX l x:=by
 have h1:¬k<bX l x:=fun h=>by
  have:=(vI hs k u hk).2 h
  rw [hu,b4] at this;cases this
 have hf:(bf l x).isSome=true:=by
  unfold bf;rw [List.find?_isSome];exact ⟨u,List.mem_of_getElem? hk,by simp [hu]⟩
 obtain ⟨v,hv⟩:=Option.isSome_iff_exists.1 hf
 have hg:=lD hs hv
 by_cases h2:bX l x<k
 ·obtain ⟨h3,h4⟩:=List.getElem?_eq_some_iff.1 hg
  obtain ⟨h5,h6⟩:=List.getElem?_eq_some_iff.1 hk
  have:=List.pairwise_iff_getElem.1 hs _ _ h3 h5 h2
  rw [h4,h6,uy hv,hu,b4] at this;cases this
 ·omega
theorem O8{l:List af}{x:ID}{v:af}(hs:c6 l)(h:bf l x=some v)(g f:af→af)(h1:∀w,w.1=x→g w=f w)(h2:∀w,w.1≠x→g w=w):l.map g=l.set (bX l x) (f v):=by
 have hg:=lD hs h
 apply List.ext_getElem?
 intro k
 rw [List.getElem?_map,List.getElem?_set]
 by_cases hk:bX l x=k
 ·subst hk
  rw [if_pos rfl,if_pos (List.getElem?_eq_some_iff.1 hg).1,hg]
  simp [h1 v (uy h)]
 ·rw [if_neg hk]
  cases hu:l[k]? with
  | none=>rfl
  | some u =>
   have:u.1≠x:=fun e=>hk (LC hs hu e).symm
   simp [h2 u this]
theorem c6.map{l:List af}(h:c6 l){f:af→af}(hf:∀v,(f v).1=v.1):c6 (l.map f):=by
 unfold c6 at h ⊢
 rw [List.pairwise_map]
 exact h.imp fun {a b} Bm=>by rw [hf,hf];exact Bm
end Go.Vs
namespace Go.Vs
open Go.Proofs
variable {G:(f:FuncId)→(g:aJ)→Option (g.A→Option g.B)}
theorem rT{α R:Type}{o:Option α}{a r:Option R}{f:α→Option R}{p:α}(h:o=some p)(k:f p=r):pf o a f=r:=by subst h;exact k
theorem J2{α R:Type}{o:Option α}{a r:Option R}{f:α→Option R}(h:o=none)(k:a=r):pf o a f=r:=by subst h;exact k
def rU(w:aC)(x:ID):Int×aC :=
 if (bf w.2.1 x).isSome=true then (12,w) else if 40≤w.2.1.length then (3,w) else (0,(w.1,(dm (x,(e0,0)) w.2.1,w.2.2)))
theorem S8(hG:HG G)(w:aC)(x:ID)(hs:c6 w.2.1)(hl:w.2.1.length≤50000000):FX G 110 wM ((x,()),(w,()))=some (((rU w x).1,()),((rU w x).2,())):=by
 refine ar (fn:=Tryz.f110) (hG _ _ rfl) (by kernel_rfl) (by kernel_rfl) ((Xk _ _ _).trans ?_)
 refine aa (np hG w x hs hl) ?_
 unfold rU
 cases hf:(bf w.2.1 x).isSome
 ·rw [if_neg (by simp)]
  refine ag ((c4 hs).trans hf) ?_
  by_cases h2:40≤w.2.1.length
  ·rw [if_pos h2]
   exact ae (decide_eq_true (show ((w.2.1.length:Nat):Int)≥40 by omega)) rfl
  ·rw [if_neg h2]
   refine ag (decide_eq_false (show ¬((w.2.1.length:Nat):Int)≥40 by omega)) ?_
   have hc:=Eh w.2.1 x
   have lG:pj w.2.1 ((bX w.2.1 x:Nat):Int) [((x,(e0,0)):af)]=true:=by
    unfold pj
    rw [decide_eq_true (show (0:Int)≤((bX w.2.1 x:Nat):Int) by omega),decide_eq_true (show ((bX w.2.1 x:Nat):Int)≤((w.2.1.length:Nat):Int) by omega)]
    rw [fits (by simp;omega)];rfl
   refine ae lG ?_
   have e:fD w.2.1 ((bX w.2.1 x:Nat):Int) [((x,(e0,0)):af)]=dm (x,(e0,0)) w.2.1:=by
    rw [Gz (x,(e0,0)) hs (by simpa using hf)]
    unfold fD;simp
   exact congrArg (fun l:List af=>some (((0:Int),()),((w.1,(l,w.2.2)),()))) e
 ·rw [if_pos rfl]
  exact ae ((c4 hs).trans hf) rfl
def AD(w:aC)(o:bB):Option (Fin 2×Nat) :=
 if mD o=true then (if (bf w.2.1 (aS o)).isSome=true then some (⟨1,by decide⟩,bX w.2.1 (aS o)) else none)
 else (if (aR w.1 (aS o)).isSome=true then some (⟨0,by decide⟩,bC w.1 (aS o)) else none)
theorem YN(hG:HG G)(w:aC)(o:bB)(hv:bW w.1)(he:c6 w.2.1)(Ta:w.1.length≤50000000)(hle:w.2.1.length≤50000000) :
  FX G 124 FM ((o,()),(w,()))=some ((AD w o,(AD w o,())),(w,())):=by
 refine ar (fn:=Tryz.f124) (hG _ _ rfl) (by kernel_rfl) (by kernel_rfl) ((Xw _ _ _).trans ?_)
 unfold AD
 by_cases ho:mD o=true
 ·rw [if_pos ho]
  refine ae ho ?_
  refine aa (np hG w (aS o) he hle) ?_
  cases hf:bf w.2.1 (aS o) with
  | none =>
   refine ag ((c4 he).trans (by rw [hf];rfl)) ?_
   rfl
  | some e =>
   refine ae ((c4 he).trans (by rw [hf];rfl)) ?_
   have aH:=(List.getElem?_eq_some_iff.1 (lD he hf)).1
   refine ae (dv (eC _) (aX aH)) ?_
   exact ae (dv (eC _) (aX aH)) rfl
 ·rw [if_neg ho]
  refine ag (by simpa using ho) ?_
  refine aa (oQ hG w (aS o) hv Ta) ?_
  cases hf:aR w.1 (aS o) with
  | none =>
   refine ag ((fa hv).trans (by rw [hf];rfl)) ?_
   rfl
  | some e =>
   refine ae ((fa hv).trans (by rw [hf];rfl)) ?_
   have aH:=(List.getElem?_eq_some_iff.1 (cX hv hf)).1
   refine ae (dv (eC _) (aX aH)) ?_
   exact ae (dv (eC _) (aX aH)) rfl
def sS(w:aC)(o:bB):Int×aC :=
 if mD o=true then (if (bf w.2.1 (aS o)).isSome=true then (0,(w.1,(w.2.1.map (jx o),w.2.2))) else (13,w))
 else (if (aR w.1 (aS o)).isSome=true then (0,(w.1.map (iB o),w.2)) else (13,w))
theorem ad4(hG:HG G)(w:aC)(o:bB)(hv:bW w.1)(he:c6 w.2.1)(Ta:w.1.length≤50000000)(hle:w.2.1.length≤50000000) :
  FX G 96 NK ((o,()),(w,()))=some (((sS w o).1,()),((sS w o).2,())):=by
 refine ar (fn:=Tryz.f96) (hG _ _ rfl) (by kernel_rfl) (by kernel_rfl) ((acZ _ _ _).trans ?_)
 refine aa (YN hG w o hv he Ta hle) ?_
 by_cases ho:mD o=true
 ·cases hf:bf w.2.1 (aS o) with
  | none =>
   have e1:AD w o=none:=by unfold AD;rw [if_pos ho,hf];rfl
   have e2:sS w o=(13,w):=by unfold sS;rw [if_pos ho,hf];rfl
   rw [e2]
   exact J2 e1 (J2 e1 rfl)
  | some e =>
   have e1:AD w o=some (⟨1,by decide⟩,bX w.2.1 (aS o)):=by unfold AD;rw [if_pos ho,hf];rfl
   have hm:∀f:af→af,(∀u,u.1=aS o→jx o u=f u)→w.2.1.map (jx o)=w.2.1.set (bX w.2.1 (aS o)) (f e):=fun f hf1 =>
    O8 he hf (jx o) f hf1 (fun u hu=>by unfold jx;rw [if_neg (fun k=>hu k.2)])
   have e2:sS w o=(0,(w.1,(w.2.1.map (jx o),w.2.2))):=by unfold sS;rw [if_pos ho,hf];rfl
   rw [e2]
   refine rT e1 (ag rfl (ae rfl (rT e1 (ag rfl (ae rfl ?_)))))
   by_cases h7:o.1=7
   ·refine ae (EA h7) (aa (lD he hf) ?_)
    have:=hm (fun u=>(u.1,(nj o,u.2.2))) (fun u hu=>by unfold jx;rw [if_pos ⟨ho,hu⟩,if_pos h7])
    exact congrArg (fun l:List af=>some (((0:Int),()),((w.1,(l,w.2.2)),()))) this.symm
   ·refine ag (wX h7) (aa (lD he hf) ?_)
    have:=hm (fun u=>(u.1,(u.2.1,oN o))) (fun u hu=>by unfold jx;rw [if_pos ⟨ho,hu⟩,if_neg h7])
    exact congrArg (fun l:List af=>some (((0:Int),()),((w.1,(l,w.2.2)),()))) this.symm
 ·have mu:mD o=false:=by simpa using ho
  cases hf:aR w.1 (aS o) with
  | none =>
   have e1:AD w o=none:=by unfold AD;rw [if_neg ho,hf];rfl
   have e2:sS w o=(13,w):=by unfold sS;rw [if_neg ho,hf];rfl
   rw [e2]
   exact J2 e1 (J2 e1 rfl)
  | some e =>
   have e1:AD w o=some (⟨0,by decide⟩,bC w.1 (aS o)):=by unfold AD;rw [if_neg ho,hf];rfl
   have hm:∀f:ah→ah,(∀u,u.1=aS o→iB o u=f u)→w.1.map (iB o)=w.1.set (bC w.1 (aS o)) (f e):=fun f hf1 =>
    GA hv hf (iB o) f hf1 (fun u hu=>by unfold iB;rw [if_neg (fun k=>hu k.2)])
   have e2:sS w o=(0,(w.1.map (iB o),w.2)):=by unfold sS;rw [if_neg ho,hf];rfl
   rw [e2]
   refine rT e1 (ae rfl (rT e1 (ae rfl ?_)))
   by_cases h7:o.1=7
   ·refine ae (EA h7) (aa (cX hv hf) ?_)
    have:=hm (fun u=>(u.1,(u.2.1,(nj o,u.2.2.2)))) (fun u hu=>by unfold iB;rw [if_pos ⟨mu,hu⟩,if_pos h7])
    exact congrArg (fun l:List ah=>some (((0:Int),()),((l,w.2),()))) this.symm
   ·refine ag (wX h7) (aa (cX hv hf) ?_)
    have:=hm (fun u=>(u.1,(u.2.1,(u.2.2.1,oN o)))) (fun u hu=>by unfold iB;rw [if_pos ⟨mu,hu⟩,if_neg h7])
    exact congrArg (fun l:List ah=>some (((0:Int),()),((l,w.2),()))) this.symm
end Go.Vs
namespace Go.Vs
open Go.Proofs
variable {G:(f:FuncId)→(g:aJ)→Option (g.A→Option g.B)}
theorem Tb(hG:HG G)(a b:ab):FX G 142 Cz ((a,b,()),())=some ((mA a b,()),()):=by
 refine ar (fn:=Tryz.f142) (hG _ _ rfl) (by kernel_rfl) (by kernel_rfl) ((XI _ _ _).trans ?_)
 refine aa (OZ hG a.1 b.1) ?_
 refine aa (OY hG a.2 b.2) ?_
 refine aa (S4 (hG _ _ rfl) (qc a.1 b.1) (IC a.2 b.2)) ?_
 refine congrArg (fun n:Int=>some ((n,()),())) ?_
 obtain ⟨a1,a2⟩:=a
 obtain ⟨b1,b2⟩:=b
 unfold mA qc IC kq
 simp only [Prod.mk.injEq]
 by_cases h:a1=b1
 ·subst h
  simp only [if_true,b4,Bool.false_or,true_and,decide_true,Bool.true_and]
  by_cases h1:a2<b2
  ·have:¬a2=b2:=by omega
   simp [h1,this]
  ·by_cases h2:a2 > b2
   ·have:¬a2=b2:=by omega
    simp [h1,h2,this]
   ·have:a2=b2:=by omega
    simp [this]
 ·simp only [h,if_false,false_and,decide_false,Bool.false_and,Bool.or_false]
  cases fw a1 b1<;>simp
theorem YO(hG:G 134 lr=none)(row:List ab)(d:ab)(hl:row.length≤1073741824):∀(n i:Nat),i+n=row.length →
  LX G 134 lr Tryz.f134 tZ (aP Tryz.prog 134 0) ((row,(((row.length:Nat):Int),((i:Int),()))),(((d,()),()),()))=some ((idx d (row.drop i) i,()),()):=by
 intro n
 induction n with
 | zero =>
  intro i hi
  refine au (j:=0) (by kernel_rfl) ((JD _ _ _).trans ?_)
  refine ag (decide_eq_false (show ¬((i:Int)<((row.length:Nat):Int)) by omega)) ?_
  rw [List.drop_eq_nil_of_le (by omega)];rfl
 | succ n ih =>
  intro i hi
  have aH:i<row.length:=by omega
  refine au (j:=0) (by kernel_rfl) ((JD _ _ _).trans ?_)
  refine ae (aX aH) (aa (aK (List.getElem?_eq_getElem aH)) ?_)
  rw [List.drop_eq_getElem_cons aH,idx]
  by_cases he:row[i]=d
  ·rw [if_pos he]
   exact ae ((kh d row[i]).trans (decide_eq_true he.symm)) rfl
  ·rw [if_neg he]
   refine ag ((kh d row[i]).trans (decide_eq_false fun h=>he h.symm)) ?_
   rw [aI aH hl]
   exact ih (i+1) (by omega)
theorem AE(hG:G 134 lr=none)(row:List ab)(d:ab)(hl:row.length≤1073741824):FX G 134 lr ((row,d,()),())=some ((idx d row 0,()),()):=by
 refine ar (fn:=Tryz.f134) hG (by kernel_rfl) (by kernel_rfl) ((XC _ _ _).trans ?_)
 have:=YO hG row d hl row.length 0 (by omega)
 rw [List.drop_zero] at this
 exact this
theorem CI(hG:HG G)(row:List ab)(d:ab)(hl:row.length≤1073741824):FX G 133 tS ((row,d,()),())=some ((decide (d∈row),()),()):=by
 refine ar (fn:=Tryz.f133) (hG _ _ rfl) (by kernel_rfl) (by kernel_rfl) ((XB _ _ _).trans ?_)
 refine aa (AE (hG _ _ rfl) row d hl) ?_
 refine congrArg (fun b:Bool=>some ((b,()),())) ?_
 rw [Bool.eq_iff_iff]
 simp only [decide_eq_true_eq]
 have:=dU (d:=d) (row:=row)
 constructor
 ·intro h;exact Classical.byContradiction fun k=>by have:=this.2 k;omega
 ·intro h
  have h2:¬idx d row 0<0:=fun k=>this.1 k h
  omega
theorem dw(a:ab):kq a a=false:=by unfold kq;simp [b4]
theorem fX{a b c:ab}(h:kq a b=true)(k:kq b c=true):kq a c=true:=by
 obtain ⟨⟨a1,a2⟩,a3⟩:=a;obtain ⟨⟨b1,b2⟩,b3⟩:=b;obtain ⟨⟨c1,c2⟩,c3⟩:=c
 simp [kq,fw] at *;omega
theorem vM{a b:ab}(h:kq a b=false)(k:a≠b):kq b a=true:=by
 obtain ⟨⟨a1,a2⟩,a3⟩:=a;obtain ⟨⟨b1,b2⟩,b3⟩:=b
 simp [kq,fw] at *;omega
theorem Ei{a b c:ab}(h:kq a b=true)(k:kq c b=false):kq a c=true:=by
 obtain ⟨⟨a1,a2⟩,a3⟩:=a;obtain ⟨⟨b1,b2⟩,b3⟩:=b;obtain ⟨⟨c1,c2⟩,c3⟩:=c
 simp [kq,fw] at *;omega
theorem xV(a b:ab):mA a b<0↔kq a b=true:=by
 unfold mA
 by_cases h:a=b
 ·subst h;simp [dw]
 ·rw [if_neg h];cases kq a b<;>simp
theorem ow{row:List ab}{k:Nat}(hk:k<row.length):row.getD k zD=row[k]:=by simp [List.getD,hk]
theorem vN(row:List ab):∀(r:List ab) (i k:Nat),row.drop i=r→k<row.length→k≤i→(∀j,j<i→(hj:j<row.length)→kq row[j] (row.getD k zD)=false)→(∀j,j<k→(hj:j<row.length)→kq (row.getD k zD) row[j]=true) →
  (∀j,(hj:j<row.length)→kq row[j] (row.getD (eU row r i k) zD)=false)∧(∀j,j<eU row r i k→(hj:j<row.length)→kq (row.getD (eU row r i k) zD) row[j]=true)
 | [],i,k,hr,hk,hki,h1,h2=>by
  have hi:row.length≤i:=by
   have:=congrArg List.length hr;simp at this;omega
  exact ⟨fun j hj=>h1 j (by omega) hj,h2⟩
 | x::r,i,k,hr,hk,hki,h1,h2=>by
  have hi:i<row.length:=by
   have:=congrArg List.length hr;simp at this;omega
  have hx:row[i]=x:=by
   have:=List.drop_eq_getElem_cons hi;rw [hr] at this;injection this with a b;exact a.symm
  have qy:row.drop (i+1)=r:=by
   have:=List.drop_eq_getElem_cons hi;rw [hr] at this;injection this with a b;exact b.symm
  unfold eU
  split
  ·rename_i aH
   rw [xV] at aH
   refine vN row r (i+1) i qy hi (by omega) (fun j hj Hm => ?_) (fun j hj Hm => ?_)
   ·rw [ow hi,hx]
    rcases Nat.lt_succ_iff_lt_or_eq.1 hj with hj | rfl
    ·cases hc:kq row[j] x with
     | false=>rfl
     | true=>have:=fX hc aH;rw [h1 j hj Hm] at this;cases this
    ·rw [hx,dw]
   ·rw [ow hi,hx]
    exact Ei aH (h1 j (by omega) Hm)
  ·rename_i aH
   rw [xV] at aH
   refine vN row r (i+1) k qy hk (by omega) (fun j hj Hm => ?_) h2
   rcases Nat.lt_succ_iff_lt_or_eq.1 hj with hj | rfl
   ·exact h1 j hj Hm
   ·rw [hx];simpa using aH
theorem sV{row:List ab}(h:0<row.length):(∀j,(hj:j<row.length)→kq row[j] (row.getD (eU row row 0 0) zD)=false)∧(∀j,j<eU row row 0 0→(hj:j<row.length)→kq (row.getD (eU row row 0 0) zD) row[j]=true) :=
 vN row row 0 0 rfl h (Nat.le_refl _) (fun j hj=>by omega) (fun j hj=>by omega)
theorem IF{d:ab}:∀{row:List ab} {k:Nat} {i:Int},row[k]? = some d→(∀j,j<k→row[j]?≠some d)→idx d row i=i+k
 | [],k,i,h,_=>by simp at h
 | e::r,0,i,h,_=>by
  simp at h;subst h;rw [idx,if_pos rfl];simp
 | e::r,k+1,i,h,hn=>by
  have h0:=hn 0 (by omega)
  rw [idx,if_neg (fun e=>h0 (by simp [e]))]
  rw [IF (k:=k) (by simpa using h) (fun j hj=>by have:=hn (j+1) (by omega);simpa using this)]
  simp;omega
theorem O9{row:List ab}(h:0<row.length):idx (row.getD (eU row row 0 0) zD) row 0=((eU row row 0 0:Nat):Int):=by
 have hm:=ot row row 0 0 h (by omega)
 have:=IF (d:=row.getD (eU row row 0 0) zD) (row:=row) (k:=eU row row 0 0) (i:=0) (by rw [ow hm];exact List.getElem?_eq_getElem hm) (fun j hj he=>by
  obtain ⟨h1,h2⟩:=List.getElem?_eq_some_iff.1 he
  have:=(sV h).2 j hj h1
  rw [h2,dw] at this;cases this)
 omega
theorem Pb(hG:HG G)(row:List ab)(h:0<row.length)(hl:row.length≤100000000):FX G 143141 jX ((row,()),())=some ((row.getD (eU row row 0 0) zD,()),()):=by
 refine ar (fn:=Tryz.f141) (hG _ _ rfl) (by kernel_rfl) (by kernel_rfl) ((Ov _ _ _).trans ?_)
 refine ag (decide_eq_false (show ¬((row.length:Nat):Int)<1 by omega)) ?_
 refine aa (aK (i:=0) (List.getElem?_eq_getElem h)) ?_
 have loop:∀(n i k:Nat),i+n=row.length→k<row.length→LX G 143141 jX Tryz.f141 ju (aP Tryz.prog 141 0) ((row,((i:Int),())),(((zD,()),(((row.getD k zD),()),())),()))=some ((row.getD (eU row (row.drop i) i k) zD,()),()):=by
  intro n
  induction n with
  | zero =>
   intro i k hi hk
   refine au (j:=0) (by kernel_rfl) ((Am _ _ _).trans ?_)
   refine ag (decide_eq_false (show ¬((i:Int)<((row.length:Nat):Int)) by omega)) ?_
   rw [List.drop_eq_nil_of_le (by omega)];rfl
  | succ n ih =>
   intro i k hi hk
   have aH:i<row.length:=by omega
   have hx:row[i]? = some row[i]:=List.getElem?_eq_getElem aH
   refine au (j:=0) (by kernel_rfl) ((Am _ _ _).trans ?_)
   refine ae (aX aH) (aa (aK hx) ?_)
   refine aa (Tb hG row[i] (row.getD k zD)) ?_
   rw [List.drop_eq_getElem_cons aH,eU]
   by_cases ho:mA row[i] (row.getD k zD)<0
   ·rw [if_pos ho]
    refine ae (decide_eq_true ho) (aa (aK hx) ?_)
    have:=ih (i+1) i (by omega) aH
    rw [←aI aH (by omega),ow aH] at this
    exact this
   ·rw [if_neg ho]
    refine ag (decide_eq_false ho) ?_
    have:=ih (i+1) k (by omega) hk
    rw [←aI aH (by omega)] at this
    exact this
 have h1:=loop (row.length - 1) 1 0 (by omega) h
 have h2:eU row row 0 0=eU row (row.drop 1) 1 0:=by
  cases row with
  | nil=>simp at h
  | cons x r =>
   rw [List.drop_one,List.tail_cons]
   conv=>lhs;rw [eU]
   rw [if_neg]
   show ¬mA x x<0
   unfold mA;simp
 rw [h2]
 have h3:row.getD 0 zD=row[0]:=ow h
 rw [h3] at h1
 exact h1
def total(ls:List (List ab)):Nat:=(ls.map List.length).sum
theorem AF(a:List ab)(r:List (List ab)):total (a::r)=a.length+total r:=by unfold total;rw [List.map_cons,List.sum_cons]
theorem Td(hG:HG G)(ls:List (List ab))(hn:ls.length≤1000)(hl:total ls≤500000000):FX G 143 m8 ((ls,()),())=some ((ls.flatten,()),()):=by
 refine ar (fn:=Tryz.f143) (hG _ _ rfl) (by kernel_rfl) (by kernel_rfl) ((XJ _ _ _).trans ?_)
 have YP:∀(n i:Nat) (out:List ab),i+n=ls.length→out.length+total (ls.drop i)≤500000000→LX G 143 m8 Tryz.f143 ub (aP Tryz.prog 143 1) ((ls,(((ls.length:Nat):Int),((i:Int),()))),((),(out,())))=some ((out++(ls.drop i).flatten,()),()):=by
  intro n
  induction n with
  | zero =>
   intro i out hi ho
   refine au (j:=1) (by kernel_rfl) ((JF _ _ _).trans ?_)
   refine ag (decide_eq_false (show ¬((i:Int)<((ls.length:Nat):Int)) by omega)) ?_
   rw [List.drop_eq_nil_of_le (by omega),List.flatten_nil,List.append_nil];rfl
  | succ n ih =>
   intro i out hi ho
   have aH:i<ls.length:=by omega
   rw [List.drop_eq_getElem_cons aH] at ho ⊢
   have mu:out.length+(ls[i].length+total (ls.drop (i+1)))≤500000000:=by
    have:total (ls[i]::ls.drop (i+1))=ls[i].length+total (ls.drop (i+1)):=AF _ _
    omega
   refine au (j:=1) (by kernel_rfl) ((JF _ _ _).trans ?_)
   refine ae (aX aH) (aa (aK (List.getElem?_eq_getElem aH)) ?_)
   refine ae (fits (show out.length+ls[i].length≤1073741824 by omega)) ?_
   have:=ih (i+1) (out++ls[i]) (by omega) (by rw [List.length_append];omega)
   rw [List.flatten_cons,←List.append_assoc]
   rw [←aI aH (by omega)] at this
   exact this
 have YQ:∀(n i m:Nat),i+n=ls.length→m+total (ls.drop i)=total ls→LX G 143 m8 Tryz.f143 ua (aP Tryz.prog 143 0) ((ls,((m:Int),(ls,(((ls.length:Nat):Int),((i:Int),()))))),((),()))=some ((ls.flatten,()),()):=by
  intro n
  induction n with
  | zero =>
   intro i m hi hm
   refine au (j:=0) (by kernel_rfl) ((JE _ _ _).trans ?_)
   refine ag (decide_eq_false (show ¬((i:Int)<((ls.length:Nat):Int)) by omega)) ?_
   have hg:yn (m:Int)=true:=by
    unfold yn
    rw [decide_eq_true (show (0:Int)≤(m:Int) by omega)]
    rw [decide_eq_true (show (m:Int)≤fb by unfold fb;omega)];rfl
   refine ae hg ?_
   have:=YP ls.length 0 [] (by omega) (by rw [List.drop_zero];simpa using hl)
   rw [List.drop_zero,List.nil_append] at this
   exact this
  | succ n ih =>
   intro i m hi hm
   have aH:i<ls.length:=by omega
   have QL:m+ls[i].length+total (ls.drop (i+1))=total ls:=by
    rw [List.drop_eq_getElem_cons aH] at hm
    have:total (ls[i]::ls.drop (i+1))=ls[i].length+total (ls.drop (i+1)):=AF _ _
    omega
   refine au (j:=0) (by kernel_rfl) ((JE _ _ _).trans ?_)
   refine ae (aX aH) (aa (aK (List.getElem?_eq_getElem aH)) ?_)
   have hw:IntKind.wrap .i64 ((m:Int)+((ls[i].length:Nat):Int))=((m+ls[i].length:Nat):Int):=by rw [wrap_small (by omega) (by omega)];rfl
   refine ag (decide_eq_false (show ¬IntKind.wrap .i64 ((m:Int)+((ls[i].length:Nat):Int))<0 by rw [hw];omega)) ?_
   have:=ih (i+1) (m+ls[i].length) (by omega) QL
   rw [←aI aH (by omega),←hw] at this
   exact this
 exact YQ ls.length 0 0 (by omega) (by rw [List.drop_zero];omega)
theorem xW{α:Type}(xs:List α){k:Nat}(hk:k≤xs.length):cut xs (k:Int) ((xs.length:Nat):Int)=xs.drop k:=by
 unfold cut;rw [Int.toNat_natCast,Int.toNat_natCast,List.take_of_length_le (Nat.le_refl _)]
theorem qV{α:Type}(xs:List α)(k:Nat):cut xs 0 (k:Int)=xs.take k:=by
 unfold cut;rw [Int.toNat_natCast];rfl
theorem Ej{n k:Nat}(h:k≤n):aW n (k:Int) ((n:Nat):Int)=true:=by unfold aW;simp;omega
theorem uz{n k:Nat}(h:k≤n):aW n 0 (k:Int)=true:=by unfold aW;simp;omega
theorem CJ(hG:HG G)(row:List ab)(hl:row.length≤100000000):FX G 123 pX ((row,()),())=some ((cG row,()),()):=by
 refine ar (fn:=Tryz.f123) (hG _ _ rfl) (by kernel_rfl) (by kernel_rfl) ((Xv _ _ _).trans ?_)
 by_cases h0:row.length=0
 ·refine ae (show (((row.length:Nat):Int)==0)=true by simp [h0]) ?_
  have:row=[]:=by simpa using h0
  subst this;rfl
 refine ag (show (((row.length:Nat):Int)==0)=false by rw [beq_eq_false_iff_ne];omega) ?_
 have hp:0<row.length:=by omega
 have hm:=ot row row 0 0 hp (by omega)
 refine aa (Pb hG row hp hl) ?_
 refine aa (AE (hG _ _ rfl) row (row.getD (eU row row 0 0) zD) (by omega)) ?_
 rw [O9 hp]
 refine ae (Ej (n:=row.length) (k:=eU row row 0 0) (by omega)) (ae (uz (n:=row.length) (k:=eU row row 0 0) (by omega)) ?_)
 have key:∀a b:List ab,a=row.drop (eU row row 0 0)→b=row.take (eU row row 0 0)→((FX G 143 m8 (([a,b],()),())).bind fun (y3:(((List ab)×Unit)×Unit))=>some (y3.1,()))=some ((cG row,()),()):=by
  intro a b ha hb
  subst ha hb
  refine aa (Td hG [row.drop (eU row row 0 0),row.take (eU row row 0 0)] (by simp) (by unfold total;simp;omega)) ?_
  unfold cG Bo
  simp only [List.flatten_cons,List.flatten_nil,List.append_nil]
 exact key _ _ (xW row (by omega)) (qV row _)
theorem Pc(hG:HG G)(ls:List (List ab))(hn:ls.length≤1000)(hl:total ls≤100000000):FX G 135 m6 ((ls,()),())=some ((cG ls.flatten,()),()):=by
 refine ar (fn:=Tryz.f135) (hG _ _ rfl) (by kernel_rfl) (by kernel_rfl) ((XD _ _ _).trans ?_)
 refine aa (Td hG ls hn (by omega)) ?_
 have hlen:ls.flatten.length=total ls:=by unfold total;exact List.length_flatten
 exact aa (CJ hG ls.flatten (by omega)) rfl
theorem Pd(hG:HG G)(row:List ab)(after d:ab)(hl:row.length≤50000000):FX G 113 zH ((row,after,d,()),())=some ((lz row after d,()),()):=by
  refine ar (fn:=Tryz.f113) (hG _ _ rfl) (by kernel_rfl) (by kernel_rfl) ((Xm _ _ _).trans ?_)
  refine aa (CI hG row d (by omega)) ?_
  unfold lz
  by_cases hd:d∈row
  · rw [if_pos hd]
    exact ae (decide_eq_true hd) (aa (CJ hG row (by omega)) rfl)
  rw [if_neg hd]
  refine ag (decide_eq_false hd) ?_
  refine aa (AE (hG _ _ rfl) row after (by omega)) ?_
  have hr:idx after row 0<((row.length:Nat):Int)∨row.length=0∧idx after row 0 = -1:=by
    rcases ng after row 0 (by omega) with ⟨h,_⟩ | ⟨k,h,hk,_⟩
    · by_cases h0:row.length=0
      · exact .inr ⟨h0,h⟩
      · exact .inl (by omega)
    · have:=(List.getElem?_eq_some_iff.1 hk).1
      exact .inl (by omega)
  have hm:max (idx after row 0) (0:Int)=max 0 (idx after row 0):=by omega
  have hw:IntKind.wrap .i64 (max (idx after row 0) (0:Int)+1)=(((max 0 (idx after row 0)).toNat+1:Nat):Int):=by
    rw [wrap_small (by omega) (by omega)];omega
  obtain ⟨k,hk,nE,Mm⟩:∃k:Nat,min (IntKind.wrap .i64 (max (idx after row 0) (0:Int)+1)) ((row.length:Nat):Int)=(k:Int)∧k≤row.length∧row.take k++(d::row.drop k)=row.take ((max 0 (idx after row 0)).toNat+1)++(d::row.drop ((max 0 (idx after row 0)).toNat+1)):=by
    rw [hw]
    by_cases h0:row.length=0
    · have:row=[]:=by simpa using h0
      subst this
      exact ⟨0,by simp;omega,by simp,by simp⟩
    · exact ⟨(max 0 (idx after row 0)).toNat+1,by omega,by omega,rfl⟩
  have uJ:(min (IntKind.wrap .i64 ((max (idx after row 0) (0:Int):Int)+(1:Int))) (((List.length row):Nat):Int):Int)=(k:Int):=hk
  show cond (aW (List.length row) (0:Int) (min (IntKind.wrap .i64 ((max (idx after row 0) (0:Int):Int)+(1:Int))) (((List.length row):Nat):Int):Int))
    (cond (aW (List.length row) (min (IntKind.wrap .i64 ((max (idx after row 0) (0:Int):Int)+(1:Int))) (((List.length row):Nat):Int):Int) (((List.length row):Nat):Int))
     ((FX G 135 m6 ((((cut row (0:Int) (min (IntKind.wrap .i64 ((max (idx after row 0) (0:Int):Int)+(1:Int))) (((List.length row):Nat):Int):Int))::([d]::((cut row (min (IntKind.wrap .i64 ((max (idx after row 0) (0:Int):Int)+(1:Int))) (((List.length row):Nat):Int):Int) (((List.length row):Nat):Int))::([]:List (List ab))))),()),())).bind fun (y4:(((List ab)×Unit)×Unit)) =>
     some (y4.1,()))
     (none))
    (none)=_
  rw [uJ]
  refine ae (uz nE) (ae (Ej nE) ?_)
  have key:∀a b R:List ab,a=row.take k→b=row.drop k→R=cG (row.take k++(d::row.drop k))→((FX G 135 m6 (([a,[d],b],()),())).bind fun (y3:(((List ab)×Unit)×Unit))=>some (y3.1,()))=some ((R,()),()):=by
    intro a b R ha hb hR
    subst ha hb hR
    refine aa (Pc hG [row.take k,[d],row.drop k] (by simp) (by unfold total;simp;omega)) ?_
    refine congrArg (fun l:List ab=>some ((l,()),())) ?_
    simp
  exact key _ _ _ (qV row k) (xW row nE) (by rw [Mm])
theorem vO{row:List ab}{d:ab}{k:Nat}(hn:row.Nodup)(hk:row[k]? = some d):row.filter (fun e=>decide (e≠d))=row.take k++row.drop (k+1):=by
 obtain ⟨h1,h2⟩:=List.getElem?_eq_some_iff.1 hk
 conv=>lhs;rw [←List.take_append_drop k row,List.drop_eq_getElem_cons h1,h2]
 have HH:(row.take k++(d::row.drop (k+1))).Nodup:=by
  rw [←h2,←List.drop_eq_getElem_cons h1,List.take_append_drop];exact hn
 have h3:=List.nodup_append.1 HH
 have h4:=List.nodup_cons.1 h3.2.1
 rw [List.filter_append,List.filter_cons_of_neg (by simp)]
 congr 1
 ·rw [List.filter_eq_self];intro a ha
  have:=h3.2.2 a ha d (by simp)
  simpa using this
 ·rw [List.filter_eq_self];intro a ha
  have:a≠d:=fun e=>h4.1 (e▸ha)
  simpa using this
theorem Te(hG:HG G)(row:List ab)(d:ab)(hn:row.Nodup)(hl:row.length≤50000000):FX G 119 FL ((row,d,()),())=some ((gH row d,()),()):=by
 refine ar (fn:=Tryz.f119) (hG _ _ rfl) (by kernel_rfl) (by kernel_rfl) ((Xs _ _ _).trans ?_)
 refine aa (AE (hG _ _ rfl) row d (by omega)) ?_
 unfold gH
 by_cases hd:d∈row
 ·obtain ⟨k,h1,h2,h3⟩:=eT hd
  have aH:=(List.getElem?_eq_some_iff.1 h2).1
  rw [vO hn h2]
  show cond (decide (idx d row 0<0)) _ (cond (aW row.length 0 (idx d row 0)) (cond (aW row.length (IntKind.wrap .i64 (idx d row 0+1)) ((row.length:Nat):Int)) ((FX G 135 m6 (([cut row 0 (idx d row 0),cut row (IntKind.wrap .i64 (idx d row 0+1)) ((row.length:Nat):Int)],()),())).bind fun (y3:(((List ab)×Unit)×Unit))=>some (y3.1,())) none) none)=_
  rw [h1,aI aH (by omega)]
  refine ag (decide_eq_false (by omega)) (ae (uz (by omega)) (ae (Ej (by omega)) ?_))
  have key:∀a b:List ab,a=row.take k→b=row.drop (k+1)→((FX G 135 m6 (([a,b],()),())).bind fun (y3:(((List ab)×Unit)×Unit))=>some (y3.1,()))=some ((cG (row.take k++row.drop (k+1)),()),()):=by
   intro a b ha hb
   subst ha hb
   refine aa (Pc hG [row.take k,row.drop (k+1)] (by simp) (by unfold total;simp;omega)) ?_
   refine congrArg (fun l:List ab=>some ((l,()),())) ?_
   simp
  exact key _ _ (qV row k) (xW row (by omega))
 ·have h1:=dU.2 hd
  refine ae (decide_eq_true h1) (aa (CJ hG row (by omega)) ?_)
  refine congrArg (fun l:List ab=>some ((l,()),())) ?_
  congr 1
  symm
  rw [List.filter_eq_self];intro a ha
  have:a≠d:=fun e=>hd (e▸ha)
  simpa using this
theorem Tf(hG:HG G)(row:List ab)(cE d:ab)(hl:row.length≤50000000):FX G 121 rN ((row,cE,d,()),())=some ((je row cE d,()),()):=by
 refine ar (fn:=Tryz.f121) (hG _ _ rfl) (by kernel_rfl) (by kernel_rfl) ((Xt _ _ _).trans ?_)
 refine aa (AE (hG _ _ rfl) row cE (by omega)) ?_
 unfold je
 by_cases ho:cE∈row
 ·obtain ⟨k,h1,h2,h3⟩:=eT ho
  have aH:=(List.getElem?_eq_some_iff.1 h2).1
  refine ag (decide_eq_false (show ¬idx cE row 0<0 by omega)) ?_
  refine aa (CI hG row d (by omega)) ?_
  by_cases hd:d∈row
  ·rw [if_neg (fun h=>h.2 hd)]
   exact ae (decide_eq_true hd) (aa (CJ hG row (by omega)) rfl)
  rw [if_pos ⟨ho,hd⟩]
  refine ag (decide_eq_false hd) ?_
  show cond (aW row.length 0 (idx cE row 0)) (cond (aW row.length (IntKind.wrap .i64 (idx cE row 0+1)) ((row.length:Nat):Int)) ((FX G 135 m6 (([cut row 0 (idx cE row 0),[d],cut row (IntKind.wrap .i64 (idx cE row 0+1)) ((row.length:Nat):Int)],()),())).bind fun (y3:(((List ab)×Unit)×Unit))=>some (y3.1,())) none) none=_
  rw [h1,aI aH (by omega)]
  refine ae (uz (by omega)) (ae (Ej (by omega)) ?_)
  have key:∀a b R:List ab,a=row.take k→b=row.drop (k+1)→R=cG (row.set ((k:Int)).toNat d)→((FX G 135 m6 (([a,[d],b],()),())).bind fun (y3:(((List ab)×Unit)×Unit))=>some (y3.1,()))=some ((R,()),()):=by
   intro a b R ha hb hR
   subst ha hb hR
   refine aa (Pc hG [row.take k,[d],row.drop (k+1)] (by simp) (by unfold total;simp;omega)) ?_
   refine congrArg (fun l:List ab=>some ((l,()),())) ?_
   rw [Int.toNat_natCast,List.set_eq_take_append_cons_drop,if_pos aH];simp
  exact key _ _ _ (qV row k) (xW row (by omega)) rfl
 ·have h1:=dU.2 ho
  rw [if_neg (fun h=>ho h.1)]
  exact ae (decide_eq_true h1) (aa (CJ hG row (by omega)) rfl)
theorem YR(hG:HG G)(row:List ab)(d:ab)(hl:row.length≤100000000):FX G 140 Cx ((row,d,()),())=some (Gk (du row d (row.length - 1)),()):=by
 refine ar (fn:=Tryz.f140) (hG _ _ rfl) (by kernel_rfl) (by kernel_rfl) ((XH _ _ _).trans ?_)
 have key:FX G 157 zO ((row,(d,((IntKind.wrap .i64 (((row.length:Nat):Int) - 1)),()))),())=some (Gk (du row d (row.length - 1)),()):=by
  refine ar (fn:=Tryz.f157) (hG _ _ rfl) (by kernel_rfl) (by kernel_rfl) ((SP _ _ _).trans ?_)
  refine aa (AE (hG _ _ rfl) row d (by omega)) ?_
  unfold du
  by_cases hd:d∈row
  ·rw [if_pos hd]
   obtain ⟨k,h1,h2,h3⟩:=eT hd
   have aH:=(List.getElem?_eq_some_iff.1 h2).1
   refine ag (decide_eq_false (show ¬idx d row 0<0 by omega)) ?_
   refine ag (D8 hd) ?_
   have hw:IntKind.wrap .i64 (((row.length:Nat):Int) - 1)=((row.length - 1:Nat):Int):=by rw [wrap_small (by omega) (by omega)];omega
   have Q9:IntKind.wrap .i64 (idx d row 0+IntKind.wrap .i64 (((row.length:Nat):Int) - 1))=((k+(row.length - 1):Nat):Int):=by
    rw [hw,h1,wrap_small (by omega) (by omega)];rfl
   have vF:(k+(row.length - 1)) % row.length<row.length:=Nat.mod_lt _ (by omega)
   have hx:=List.getElem?_eq_getElem vF
   refine aa (show aV row (Int.tmod (IntKind.wrap .i64 (idx d row 0+IntKind.wrap .i64 (((row.length:Nat):Int) - 1))) ((row.length:Nat):Int))=some row[(k+(row.length - 1)) % row.length] by rw [Q9,qd];exact aK hx) ?_
   rw [h1,Int.toNat_natCast,hx];rfl
  ·rw [if_neg hd]
   exact ae (decide_eq_true (dU.2 hd)) rfl
 refine aa key ?_
 rfl
end Go.Vs
