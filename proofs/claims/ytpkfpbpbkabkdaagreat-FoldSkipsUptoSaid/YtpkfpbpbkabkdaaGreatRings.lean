/- What the program computes at edges and rings, written plainly. -/
import Derived.Test.YtpkfpbpbkabkdaaGreatPlaces
set_option linter.unusedVariables false
set_option linter.unusedSimpArgs false
namespace Go.Vs
open Go.Proofs
variable {G:(f:FuncId)→(g:aL)→Option (g.A→Option g.B)}
theorem get_at{s:ByteArray}{i:Nat}{c:UInt8}(h:s.data.toList[i]? = some c):s.get! i=c:=by
 have hi:i<s.data.size:=by have:=(List.getElem?_eq_some_iff.1 h).1;simpa using this
 have h2:=(List.getElem?_eq_some_iff.1 h).2
 show s.data[i]! = c
 rw[getElem!_pos s.data i hi,←h2];simp
theorem J6{s:ByteArray}{i:Nat}(h:(s.get! i).toNat<128):Utf8.decode s i=((s.get! i).toNat,1):=by
 unfold Utf8.decode
 simp only[Nat.add_zero]
 rw[if_pos h]
theorem J7{s:ByteArray}{i:Nat}(h:¬(s.get! i).toNat<128):128≤(Utf8.decode s i).1:=by
 unfold Utf8.decode
 simp only[Nat.add_zero]
 rw[if_neg h]
 repeat' split
 all_goals first|(simp_all only[Bool.and_eq_true,decide_eq_true_eq];omega)|decide|omega
theorem ZF(hG:G 161 uL=none)(s:ByteArray)(hs:s.size≤100000000):∀(n i:Nat),i+n=s.size →
  LX G 161 uL Tryz.f161 uM (bA Tryz.prog 161 0) ((s,()),((),((s,i),())))=some ((((s.data.toList.drop i).all rz&&decide (s.size≤16),()),()):(Bool×Unit)×Unit):=by
 have hl:s.data.toList.length=s.size:=by simp
 intro n
 induction n with
 |zero =>
  intro i hi
  refine aK (j:=0) (by kernel_rfl) ((Mf _ _ _).trans ?_)
  refine af (decide_eq_false (show ¬(i<s.size) by omega)) ?_
  refine congrArg (fun b:Bool=>some ((b,()),())) ?_
  rw[List.drop_eq_nil_of_le (by omega),List.all_nil,Bool.true_and,Bool.eq_iff_iff];simp;omega
 |succ n ih =>
  intro i hi
  have aE:i<s.data.toList.length:=by omega
  have hx:s.data.toList[i]? = some s.data.toList[i]:=List.getElem?_eq_getElem aE
  generalize s.data.toList[i]=c at hx
  have hd:s.data.toList.drop i=c::s.data.toList.drop (i+1):=by
   rw[List.drop_eq_getElem_cons aE];rw[List.getElem?_eq_getElem aE]at hx;cases hx;rfl
  have hg:=get_at hx
  refine aK (j:=0) (by kernel_rfl) ((Mf _ _ _).trans ?_)
  refine ae (decide_eq_true (show i<s.size by omega)) ?_
  show cond (decide (nj s i<32)) _ (cond (decide (nj s i>126)) _ (LX G 161 uL Tryz.f161 uM (bA Tryz.prog 161 0) ((s,()),((),((s,i+xi s i),())))))=_
  rw[hd,List.all_cons]
  by_cases h1:c.toNat<128
  ·have hr:Utf8.decode s i=(c.toNat,1):=by rw[J6 (by rw[hg];exact h1),hg]
   have ZG:nj s i=(c.toNat:Int):=by unfold nj;rw[hr]
   have RE:xi s i=1:=by unfold xi;rw[hr]
   rw[ZG,RE]
   by_cases h2:c.toNat<32
   ·refine ae (decide_eq_true (by omega)) ?_
    have:rz c=false:=by unfold rz;simp;omega
    rw[this];rfl
   refine af (decide_eq_false (by omega)) ?_
   by_cases h3:126<c.toNat
   ·refine ae (decide_eq_true (by omega)) ?_
    have:rz c=false:=by unfold rz;simp;omega
    rw[this];rfl
   refine af (decide_eq_false (by omega)) ?_
   have:rz c=true:=by unfold rz;simp;omega
   rw[this,Bool.true_and]
   exact ih (i+1) (by omega)
  ·have h2:=J7 (s:=s) (i:=i) (by rw[hg];exact h1)
   have ZG:128≤nj s i:=by unfold nj;omega
   refine af (decide_eq_false (by omega)) (ae (decide_eq_true (by omega)) ?_)
   have:rz c=false:=by unfold rz;simp;omega
   rw[this];rfl
theorem ZH(hG:G 161 uL=none)(s:ByteArray)(hs:s.size≤100000000):FX G 161 uL ((s,()),())=some ((EL s,()),()):=by
 refine aJ (fn:=Tryz.f161) hG (by kernel_rfl) (by kernel_rfl) ((Y9 _ _ _).trans ?_)
 have:=ZF hG s hs s.size 0 (by omega)
 rw[List.drop_zero]at this
 exact this
theorem ZI(hG:G 162 D7=none)(n:Int):FX G 162 D7 ((n,()),())=some ((AF n,()),()):=by
 refine aJ (fn:=Tryz.f162) hG (by kernel_rfl) (by kernel_rfl) ((Za _ _ _).trans ?_)
 show(cond (decide (n≥-1099511627776)) (some ((decide (n≤1099511627776),()),())) (some ((false,()),())):Option ((Bool×Unit)×Unit))=some ((AF n,()),())
 unfold AF
 by_cases h1 : -1099511627776≤n<;>simp[h1]
def J8(n:Int):Prop := -9223372036854775808≤n∧n<9223372036854775808
theorem MR(x:BitVec 64):IntKind.wrap .i64 ((x.toNat:Nat):Int)=x.toInt:=by
 unfold IntKind.wrap
 simp only[IntKind.bits,IntKind.signed]
 have h:=x.isLt
 have h2:=BitVec.toInt_eq_toNat_cond x
 rw[h2]
 simp
 split<;>split<;>omega
theorem ofInt_toInt{n:Int}(h:J8 n):(BitVec.ofInt 64 n).toInt=n:=by
 unfold J8 at h
 rw[BitVec.toInt_ofInt]
 exact Int.bmod_eq_of_le (by omega) (by omega)
theorem Pu{n:Int}(h:J8 n):(dN .andNot .i64 n 3==(0:Int))=decide (0≤n∧n≤3):=by
 have e:dN .andNot .i64 n 3=(BitVec.ofInt 64 n &&& ~~~(BitVec.ofInt 64 3)).toInt:=by unfold dN;exact MR _
 rw[e,Bool.eq_iff_iff]
 simp only[beq_iff_eq,decide_eq_true_eq]
 generalize hx:BitVec.ofInt 64 n=x
 have hn:=ofInt_toInt h
 rw[hx]at hn
 have h1:(x &&& ~~~(BitVec.ofInt 64 3)).toInt=0↔(x &&& ~~~(BitVec.ofInt 64 3))=0#64:=by
  constructor
  ·intro h;exact BitVec.eq_of_toInt_eq (by rw[h];rfl)
  ·intro h;rw[h];rfl
 rw[h1,←hn]
 constructor
 ·intro h
  have h2:x=x &&& 3#64:=by
   have h3:x=(x &&& ~~~(BitVec.ofInt 64 3)) ||| (x &&& 3#64):=by
    ext i hi
    simp only[BitVec.getElem_or,BitVec.getElem_and,BitVec.getElem_not]
    have:(BitVec.ofInt 64 3)=3#64:=rfl
    rw[this]
    cases x[i]<;>cases (3#64)[i]<;>rfl
   rw[h]at h3
   simpa using h3
  have h4:x.toNat≤3:=by
   rw[h2,BitVec.toNat_and]
   exact Nat.and_le_right
  rw[BitVec.toInt_eq_toNat_cond]
  split<;>omega
 ·intro h
  have h4:x.toNat≤3:=by
   rw[BitVec.toInt_eq_toNat_cond]at h
   have:=x.isLt
   split at h<;>omega
  have h5:x=0#64∨x=1#64∨x=2#64∨x=3#64:=by
   have:x.toNat=0∨x.toNat=1∨x.toNat=2∨x.toNat=3:=by omega
   rcases this with h|h|h|h
   ·exact .inl (BitVec.eq_of_toNat_eq (by rw[h];rfl))
   ·exact .inr (.inl (BitVec.eq_of_toNat_eq (by rw[h];rfl)))
   ·exact .inr (.inr (.inl (BitVec.eq_of_toNat_eq (by rw[h];rfl))))
   ·exact .inr (.inr (.inr (BitVec.eq_of_toNat_eq (by rw[h];rfl))))
  rcases h5 with rfl|rfl|rfl|rfl<;>decide
theorem Pv{n:Int}(h:J8 n):(dN .andNot .i64 n 1==(0:Int))=decide (n=0∨n=1):=by
 have e:dN .andNot .i64 n 1=(BitVec.ofInt 64 n &&& ~~~(BitVec.ofInt 64 1)).toInt:=by unfold dN;exact MR _
 rw[e,Bool.eq_iff_iff]
 simp only[beq_iff_eq,decide_eq_true_eq]
 generalize hx:BitVec.ofInt 64 n=x
 have hn:=ofInt_toInt h
 rw[hx]at hn
 have h1:(x &&& ~~~(BitVec.ofInt 64 1)).toInt=0↔(x &&& ~~~(BitVec.ofInt 64 1))=0#64:=by
  constructor
  ·intro h;exact BitVec.eq_of_toInt_eq (by rw[h];rfl)
  ·intro h;rw[h];rfl
 rw[h1,←hn]
 constructor
 ·intro h
  have h2:x=x &&& 1#64:=by
   have h3:x=(x &&& ~~~(BitVec.ofInt 64 1)) ||| (x &&& 1#64):=by
    ext i hi
    simp only[BitVec.getElem_or,BitVec.getElem_and,BitVec.getElem_not]
    have:(BitVec.ofInt 64 1)=1#64:=rfl
    rw[this]
    cases x[i]<;>cases (1#64)[i]<;>rfl
   rw[h]at h3
   simpa using h3
  have h4:x.toNat≤1:=by
   rw[h2,BitVec.toNat_and]
   exact Nat.and_le_right
  rw[BitVec.toInt_eq_toNat_cond]
  split<;>omega
 ·intro h
  have h4:x.toNat≤1:=by
   rw[BitVec.toInt_eq_toNat_cond]at h
   have:=x.isLt
   split at h<;>omega
  have h5:x=0#64∨x=1#64:=by
   have:x.toNat=0∨x.toNat=1:=by omega
   rcases this with h|h
   ·exact .inl (BitVec.eq_of_toNat_eq (by rw[h];rfl))
   ·exact .inr (BitVec.eq_of_toNat_eq (by rw[h];rfl))
  rcases h5 with rfl|rfl<;>decide
theorem VN(hG:HG G)(d:ab)(h:J8 d.2):FX G 190 D9 ((d,()),())=some ((RZ d,()),()):=by
 refine aJ (fn:=Tryz.f190) (hG _ _ rfl) (by kernel_rfl) (by kernel_rfl) ((Ur _ _ _).trans ?_)
 refine aa (J5 (hG _ _ rfl) d.1) ?_
 unfold RZ
 cases dH d.1
 ·rfl
 ·exact ae rfl (congrArg (fun b:Bool=>some ((b,()),())) (Pv h))
theorem VO(hG:HG G)(c:tq)(h:J8 c.2.2):FX G 160 AB ((c,()),())=some ((EM c,()),()):=by
 refine aJ (fn:=Tryz.f160) (hG _ _ rfl) (by kernel_rfl) (by kernel_rfl) ((Y8 _ _ _).trans ?_)
 refine aa (J5 (hG _ _ rfl) c.1) ?_
 unfold EM
 cases dH c.1
 ·rfl
 refine ae rfl ?_
 have hb:(((c.2.1.1==(0:Int))&&(c.2.1.2==(0:Int)))&&(c.2.2==(0:Int)))=decide (c.2=zD):=EI c.2 zD
 by_cases hz:c.2=zD
 ·refine ae (hb.trans (decide_eq_true hz)) ?_
  rw[decide_eq_true hz,Bool.or_true];rfl
 ·refine af (hb.trans (decide_eq_false hz)) ?_
  refine aa (VN hG c.2 h) ?_
  rw[decide_eq_false hz,Bool.or_false];rfl
structure Fit(o:aO):Prop where
 a:J8 (oA o).2.2
 b:J8 (oB o).2.2
 n:J8 (oN o)
 t:GY o
def zg(o:aO):aO :=
 if o.1=6 then(o.1,(ba o,(zI,(bz o,(zC,(zC,(false,(e0,0))))))))
 else if o.1=3 then(o.1,(ba o,(zI,(zI,(oA o,(oB o,(false,(e0,0))))))))
 else if o.1=5 then(o.1,(ba o,(eT o,(bz o,(zC,(zC,(false,(e0,oN o))))))))
 else if o.1=7 then(o.1,(ba o,(zI,(zI,(zC,(zC,(uW o,(tO o,0))))))))
 else if o.1=8 then(o.1,(ba o,(zI,(zI,(zC,(zC,(uW o,(e0,oN o))))))))
 else(o.1,(ba o,(zI,(zI,(zC,(zC,(false,(e0,0))))))))
def CU(o:aO):Int :=
 if o.1=6 then(if dH (ba o)=true∧dH (bz o)=true then 0 else 1)
 else if o.1=3 then(if dH (ba o)=true∧EM (oA o)=true∧EM (oB o)=true then 0 else 1)
 else if o.1=5 then(if dH (ba o)=true∧dH (eT o)=true∧dH (bz o)=true∧0≤oN o∧oN o≤3 then 0 else 1)
 else if o.1=7 then(if dH (ba o)=true then(if EL (tO o)=true then 0 else 4) else 1)
 else if o.1=8 then(if dH (ba o)=true∧AF (oN o)=true then 0 else 1)
 else if o.1=1∨o.1=2∨o.1=4 then(if dH (ba o)=true then 0 else 1)
 else 1
theorem De{o:aO}{k:Int}(h:o.1=k):(o.1==k)=true:=by simp[h]
theorem vZ{o:aO}{k:Int}(h:¬o.1=k):(o.1==k)=false:=by simp[h]
theorem ZJ(hG:HG G)(o:aO)(hf:Fit o):FX G 132 L8 ((o,()),())=some ((zg o,(CU o,())),()):=by
 refine aJ (fn:=Tryz.f132) (hG _ _ rfl) (by kernel_rfl) (by kernel_rfl) ((Y3 _ _ _).trans ?_)
 refine aa (J5 (hG _ _ rfl) (ba o)) ?_
 unfold zg CU
 by_cases h1:o.1=1
 ·refine ae (De h1) (ae (De h1) ?_)
  rw[if_neg (by omega),if_neg (by omega),if_neg (by omega),if_neg (by omega),if_neg (by omega),if_neg (by omega),if_neg (by omega),if_neg (by omega),if_neg (by omega),if_neg (by omega),if_pos (by omega)]
  cases dH (ba o)<;>rfl
 refine af (vZ h1) ?_
 by_cases h2:o.1=2
 ·refine ae (De h2) (ae (De h2) ?_)
  rw[if_neg (by omega),if_neg (by omega),if_neg (by omega),if_neg (by omega),if_neg (by omega),if_neg (by omega),if_neg (by omega),if_neg (by omega),if_neg (by omega),if_neg (by omega),if_pos (by omega)]
  cases dH (ba o)<;>rfl
 refine af (vZ h2) ?_
 by_cases h4:o.1=4
 ·refine ae (De h4) ?_
  rw[if_neg (by omega),if_neg (by omega),if_neg (by omega),if_neg (by omega),if_neg (by omega),if_neg (by omega),if_neg (by omega),if_neg (by omega),if_neg (by omega),if_neg (by omega),if_pos (by omega)]
  cases dH (ba o)<;>rfl
 refine af (vZ h4) ?_
 by_cases h6:o.1=6
 ·refine ae (De h6) ?_
  rw[if_pos h6,if_pos h6]
  cases dH (ba o)
  ·rfl
  refine ae rfl (aa (J5 (hG _ _ rfl) (bz o)) ?_)
  cases dH (bz o)<;>rfl
 refine af (vZ h6) ?_
 rw[if_neg h6,if_neg h6]
 by_cases h3:o.1=3
 ·refine ae (De h3) ?_
  rw[if_pos h3,if_pos h3]
  cases dH (ba o)
  ·rfl
  refine ae rfl (aa (VO hG (oA o) hf.a) ?_)
  cases EM (oA o)
  ·rfl
  refine ae rfl (aa (VO hG (oB o) hf.b) ?_)
  cases EM (oB o)<;>rfl
 refine af (vZ h3) ?_
 rw[if_neg h3,if_neg h3]
 by_cases h5:o.1=5
 ·refine ae (De h5) ?_
  rw[if_pos h5,if_pos h5]
  cases dH (ba o)
  ·rfl
  refine ae rfl (aa (J5 (hG _ _ rfl) (eT o)) ?_)
  cases dH (eT o)
  ·rfl
  refine ae rfl (aa (J5 (hG _ _ rfl) (bz o)) ?_)
  cases dH (bz o)
  ·rfl
  refine ae rfl (aU (Pu hf.n) ?_)
  by_cases h:0≤oN o∧oN o≤3
  ·rw[decide_eq_true h,if_pos ⟨rfl,rfl,rfl,h⟩];rfl
  ·rw[decide_eq_false h,if_neg (fun k=>h k.2.2.2)];rfl
 refine af (vZ h5) ?_
 rw[if_neg h5,if_neg h5]
 by_cases h7:o.1=7
 ·refine ae (De h7) ?_
  rw[if_pos h7,if_pos h7]
  refine aa (ZH (hG _ _ rfl) (tO o) hf.t) ?_
  cases EL (tO o)<;>cases dH (ba o)<;>rfl
 refine af (vZ h7) ?_
 rw[if_neg h7,if_neg h7]
 by_cases h8:o.1=8
 ·refine ae (De h8) ?_
  rw[if_pos h8,if_pos h8]
  cases dH (ba o)
  ·rfl
  refine ae rfl (aa (ZI (hG _ _ rfl) (oN o)) ?_)
  cases AF (oN o)<;>rfl
 refine af (vZ h8) ?_
 rw[if_neg h8,if_neg h8,if_neg (by omega)];rfl
theorem J9(o:aO)(h1:1≤o.1)(h8:o.1≤8):AG (zg o) o=AG (EN o) VI:=by
 rw[Bool.eq_iff_iff,EO,EO]
 obtain⟨k,i,n,m,⟨a1,a2⟩,⟨b1,b2⟩,f,t,q⟩:=o
 simp only at h1 h8
 unfold zg EN VI
 have:k=1∨k=2∨k=3∨k=4∨k=5∨k=6∨k=7∨k=8:=by omega
 rcases this with rfl|rfl|rfl|rfl|rfl|rfl|rfl|rfl<;>simp only[Int.reduceEq,if_true,if_false]<;>constructor<;>intro h<;>simp only[zC,Prod.mk.injEq,true_and,and_true]at h ⊢<;>grind
theorem ZK(hG:HG G)(o:aO)(hf:Fit o):FX G 104 L7 ((o,()),())=some ((cO o,()),()):=by
 refine aJ (fn:=Tryz.f104) (hG _ _ rfl) (by kernel_rfl) (by kernel_rfl) ((YY _ _ _).trans ?_)
 refine aa (ZJ hG o hf) ?_
 refine aU (b:=AG (zg o) o) rfl ?_
 unfold cO
 by_cases h1:o.1<1
 ·rw[if_pos h1]
  have:CU o=1:=by unfold CU;rw[if_neg (by omega),if_neg (by omega),if_neg (by omega),if_neg (by omega),if_neg (by omega),if_neg (by omega)]
  rw[this];cases AG (zg o) o<;>rfl
 rw[if_neg h1]
 by_cases h8:8<o.1
 ·rw[if_pos h8]
  have:CU o=1:=by unfold CU;rw[if_neg (by omega),if_neg (by omega),if_neg (by omega),if_neg (by omega),if_neg (by omega),if_neg (by omega)]
  rw[this];cases AG (zg o) o<;>rfl
 rw[if_neg h8,J9 o (by omega) (by omega)]
 have hk:o.1=1∨o.1=2∨o.1=3∨o.1=4∨o.1=5∨o.1=6∨o.1=7∨o.1=8:=by omega
 by_cases hm:dH (ba o)=true
 case neg =>
  have hb:CU o=1:=by
   unfold CU
   rcases hk with h|h|h|h|h|h|h|h<;>simp[h,hm]
  rw[if_pos (by simpa using hm),hb];cases AG (EN o) VI<;>rfl
 rw[if_neg (by simp[hm])]
 cases AG (EN o) VI
 ·rw[if_pos rfl];rfl
 rw[if_neg (by simp)]
 refine af rfl ?_
 refine congrArg (fun n:Int=>some ((n,()),())) ?_
 unfold CU
 rcases hk with h|h|h|h|h|h|h|h<;>simp[h,hm]
theorem ZL(hG:HG G)(l:List aO)(hl:l.length≤1073741824)(hf:∀o∈l,Fit o):FX G 66 D5 ((l,()),())=some ((iD l,()),()):=by
 refine aJ (fn:=Tryz.f66) (hG _ _ rfl) (by kernel_rfl) (by kernel_rfl) ((Y0 _ _ _).trans ?_)
 unfold iD
 by_cases h0:l.length=0
 ·refine ae (show(((l.length:Nat):Int)==0)=true by simp[h0]) ?_
  rw[if_neg (by omega)];rfl
 refine af (show(((l.length:Nat):Int)==0)=false by rw[beq_eq_false_iff_ne];omega) ?_
 by_cases h6:6<l.length
 ·refine ae (decide_eq_true (show((l.length:Nat):Int)>6 by omega)) ?_
  rw[if_neg (by omega)];rfl
 refine af (decide_eq_false (show ¬((l.length:Nat):Int)>6 by omega)) ?_
 rw[if_pos (by omega)]
 have loop:∀(n i:Nat),i+n=l.length→LX G 66 D5 Tryz.f66 yL (bA Tryz.prog 66 0) ((l,(((l.length:Nat):Int),((i:Int),()))),((),()))=some ((mP (l.drop i),()),()):=by
  intro n
  induction n with
  |zero =>
   intro i hi
   refine aK (j:=0) (by kernel_rfl) ((Md _ _ _).trans ?_)
   refine af (decide_eq_false (show ¬((i:Int)<((l.length:Nat):Int)) by omega)) ?_
   rw[List.drop_eq_nil_of_le (by omega)];rfl
  |succ n ih =>
   intro i hi
   have aE:i<l.length:=by omega
   refine aK (j:=0) (by kernel_rfl) ((Md _ _ _).trans ?_)
   refine ae (bG aE) (aa (bN (List.getElem?_eq_getElem aE)) ?_)
   refine aa (ZK hG l[i] (hf _ (List.getElem_mem aE))) ?_
   rw[List.drop_eq_getElem_cons aE,mP]
   by_cases hz:cO l[i]=0
   ·rw[if_neg (by simp[hz])]
    refine af (show(cO l[i] != 0)=false by simp[hz]) ?_
    rw[aP aE hl]
    exact ih (i+1) (by omega)
   ·rw[if_pos hz]
    exact ae (show(cO l[i] != 0)=true by simp[hz]) rfl
 have:=loop l.length 0 (by omega)
 rw[List.drop_zero]at this
 exact this
end Go.Vs
namespace Go.Vs
open Go.Proofs
variable {G:(f:FuncId)→(g:aL)→Option (g.A→Option g.B)}
theorem QO(hG:HG G)(v:an)(x:ID):FX G 214 Bm ((v,x,()),())=some ((AE v.1 x,()),()):=by
 refine aJ (fn:=Tryz.f214) (hG _ _ rfl) (by kernel_rfl) (by kernel_rfl) ((UO _ _ _).trans ?_)
 exact aa (MN hG v.1 x) rfl
def bP(l:List an)(x:ID):Nat:=l.countP fun v=>fQ v.1 x
def cT(l:List an):Prop:=l.Pairwise fun a b=>fQ a.1 b.1=true
theorem CV(l:List an)(x:ID):bP l x≤l.length:=List.countP_le_length
theorem qC{l:List an}{x:ID}(h:∀v∈l,fQ v.1 x=false):bP l x=0:=by
 unfold bP;rw[List.countP_eq_zero];intro v hv;simp[h v hv]
theorem uZ{x:ID}:∀{l:List an},cT l→∀(k:Nat) (v:an),l[k]? = some v→(fQ v.1 x=true↔k<bP l x)
 |[],_,k,v,h=>by simp at h
 |w::r,hs,k,v,h=>by
  have hw:∀{u:an},u∈r→fQ w.1 u.1=true:=fun {u} hu=>List.rel_of_pairwise_cons hs hu
  have hr:cT r:=hs.of_cons
  by_cases aE:fQ w.1 x=true
  ·have e:bP (w::r) x=bP r x+1:=by unfold bP;rw[List.countP_cons_of_pos (by simpa using aE)]
   cases k with
   |zero=>simp at h;subst h;simp[aE,e]
   |succ k=>have:=uZ (x:=x) hr k v (by simpa using h);rw[this,e];omega
  ·have hn:∀u∈w::r,fQ u.1 x=false:=fun u hu=>by
    rcases List.mem_cons.1 hu with rfl|hu
    ·simpa using aE
    ·rw[Bool.eq_false_iff];intro h2;exact aE (gZ (hw hu) h2)
   rw[qC hn,hn v (List.mem_of_getElem? h)]
   simp
theorem MS(hG:HG G)(l:List an)(x:ID)(hs:cT l)(hl:l.length≤50000000):∀(n i j:Nat),j-i≤n→i≤bP l x→bP l x≤j→j≤l.length →
  LX G 215213 iw Tryz.f213 gI (bA Tryz.prog 213 0) ((l,(((l.length:Nat):Int),((i:Int),((j:Int),())))),(((x,()),()),()))=some (((((bP l x:Nat):Int),(decide ((l[bP l x]?).map (·.1)=some x),())):Int×(Bool×Unit)),()):=by
 have sG:=CV l x
 have fin:∀(i j:Nat),¬(i<j)→i≤bP l x→bP l x≤j→LX G 215213 iw Tryz.f213 gI (bA Tryz.prog 213 0) ((l,(((l.length:Nat):Int),((i:Int),((j:Int),())))),(((x,()),()),()))=some (((((bP l x:Nat):Int),(decide ((l[bP l x]?).map (·.1)=some x),())):Int×(Bool×Unit)),()):=fun i j xL h1 h2=>by
  have hi:i=bP l x:=by omega
  subst hi
  refine aK (j:=0) (by kernel_rfl) ((yO _ _ _).trans ?_)
  refine af (decide_eq_false (show ¬(((bP l x:Nat):Int)<(j:Int)) by omega)) ?_
  by_cases hc:bP l x<l.length
  ·have hx:l[bP l x]? = some l[bP l x]:=List.getElem?_eq_getElem hc
   refine ae (bG hc) ?_
   refine aa (bN hx) ?_
   refine aa (QO hG l[bP l x] x) ?_
   refine congrArg (fun b:Bool=>some ((((bP l x:Nat):Int),(b,())),())) ?_
   rw[hx]
   unfold AE
   by_cases he:l[bP l x].1=x
   ·simp[he]
   ·simp[he];split<;>simp
  ·refine af (decide_eq_false (show ¬(((bP l x:Nat):Int)<((l.length:Nat):Int)) by omega)) ?_
   refine congrArg (fun b:Bool=>some ((((bP l x:Nat):Int),(b,())),())) ?_
   rw[List.getElem?_eq_none (by omega)];simp
 intro n
 induction n with
 |zero=>intro i j xL h1 h2 h3;exact fin i j (by omega) h1 h2
 |succ n ih =>
  intro i j xL h1 h2 h3
  by_cases aE:i<j
  case neg=>exact fin i j aE h1 h2
  refine aK (j:=0) (by kernel_rfl) ((yO _ _ _).trans ?_)
  refine ae (decide_eq_true (show((i:Int)<(j:Int)) by omega)) ?_
  refine af rfl ?_
  have hm:=G3 (i:=i) (j:=j) (by omega) (by omega)
  have hh:(i+j) / 2<l.length:=by omega
  have hx:l[(i+j) / 2]? = some l[(i+j) / 2]:=List.getElem?_eq_getElem hh
  have mH:=uZ (x:=x) hs ((i+j) / 2) _ hx
  refine aa (show cQ l (IntKind.wrap .i64 (j8 .u64 (IntKind.wrap .u64 (IntKind.wrap .i64 ((i:Int)+(j:Int)))) (1:Int)))=some l[(i+j) / 2] by rw[hm];exact bN hx) ?_
  refine aa (QO hG l[(i+j) / 2] x) ?_
  by_cases ho:fQ l[(i+j) / 2].1 x=true
  ·refine ae (decide_eq_true ((wY _ _).2 ho)) ?_
   have hc:=mH.1 ho
   have hw:IntKind.wrap .i64 (IntKind.wrap .i64 (j8 .u64 (IntKind.wrap .u64 (IntKind.wrap .i64 ((i:Int)+(j:Int)))) (1:Int))+1)=(((i+j) / 2+1:Nat):Int):=by
    rw[hm];exact aP hh (by omega)
   have:=ih ((i+j) / 2+1) j (by omega) (by omega) h2 h3
   rw[←hw]at this
   exact this
  ·refine af (decide_eq_false (fun h=>ho ((wY _ _).1 h))) ?_
   have hc:¬(i+j) / 2<bP l x:=fun h=>ho (mH.2 h)
   have:=ih i ((i+j) / 2) (by omega) h1 (by omega) (by omega)
   rw[←hm]at this
   exact this
theorem MT(hG:HG G)(l:List an)(x:ID)(hs:cT l)(hl:l.length≤50000000) :
  FX G 215213 iw ((l,x,()),())=some (((((bP l x:Nat):Int),(decide ((l[bP l x]?).map (·.1)=some x),())):Int×(Bool×Unit)),()):=by
 refine aJ (fn:=Tryz.f213) (hG _ _ rfl) (by kernel_rfl) (by kernel_rfl) ((Mh _ _ _).trans ?_)
 exact MS hG l x hs hl l.length 0 l.length (by omega) (by omega) (CV l x) (Nat.le_refl _)
theorem mU(hG:HG G)(w:az)(x:ID)(hs:cT w.2.1)(hl:w.2.1.length≤50000000) :
  FX G 182 lM ((x,()),(w,()))=some (((((bP w.2.1 x:Nat):Int),(decide ((w.2.1[bP w.2.1 x]?).map (·.1)=some x),())):Int×(Bool×Unit)),(w,())):=by
 refine aJ (fn:=Tryz.f182) (hG _ _ rfl) (by kernel_rfl) (by kernel_rfl) ((Ux _ _ _).trans ?_)
 exact aa (MT hG w.2.1 x hs hl) rfl
theorem u4{x:ID}:∀{l:List an},cT l→aQ l x=(l[bP l x]?).filter fun v=>decide (v.1=x)
 |[],_=>rfl
 |w::r,hs=>by
  have hw:∀{u:an},u∈r→fQ w.1 u.1=true:=fun {u} hu=>List.rel_of_pairwise_cons hs hu
  have hr:cT r:=hs.of_cons
  by_cases aE:fQ w.1 x=true
  ·have e:bP (w::r) x=bP r x+1:=by unfold bP;rw[List.countP_cons_of_pos (by simpa using aE)]
   have aV:¬w.1=x:=fun e=>by rw[e,bS]at aE;cases aE
   rw[e]
   simp only[aQ,List.find?_cons,aV,decide_false,List.getElem?_cons_succ]
   exact u4 hr
  ·have hn:∀u∈w::r,fQ u.1 x=false:=fun u hu=>by
    rcases List.mem_cons.1 hu with rfl|hu
    ·simpa using aE
    ·rw[Bool.eq_false_iff];intro h2;exact aE (gZ (hw hu) h2)
   rw[qC hn]
   by_cases he:w.1=x
   ·simp[aQ,List.find?_cons,he,Option.filter]
   ·have FM:fQ x w.1=true:=km (by simpa using aE) he
    have:aQ r x=none:=by
     unfold aQ;rw[List.find?_eq_none];intro u hu h2
     have h3:u.1=x:=by simpa using h2
     have h4:=hw hu
     rw[h3]at h4
     have:=kl h4
     rw[FM]at this;cases this
    rw[show aQ (w::r) x=aQ r x by simp only[aQ,List.find?_cons,he,decide_false],this]
    simp[he,Option.filter]
theorem cP{l:List an}{x:ID}(hs:cT l):decide ((l[bP l x]?).map (·.1)=some x)=(aQ l x).isSome:=by
 rw[u4 hs]
 cases h:l[bP l x]? with
 |none=>simp
 |some v=>by_cases he:v.1=x<;>simp[he,Option.filter]
theorem ET(v:an):∀{l:List an},cT l→aQ l v.1=none→eR v l=l.take (bP l v.1)++(v::l.drop (bP l v.1))
 |[],_,_=>rfl
 |w::r,hs,hf=>by
  have hw:∀{u:an},u∈r→fQ w.1 u.1=true:=fun {u} hu=>List.rel_of_pairwise_cons hs hu
  have hr:cT r:=hs.of_cons
  have aV:¬w.1=v.1:=fun e=>by simp[aQ,e]at hf
  have Bf:aQ r v.1=none:=by simpa[aQ,List.find?_cons,aV] using hf
  by_cases aE:fQ w.1 v.1=true
  ·have e:bP (w::r) v.1=bP r v.1+1:=by unfold bP;rw[List.countP_cons_of_pos (by simpa using aE)]
   have Qn:fQ v.1 w.1=false:=kl aE
   rw[e,eR,if_neg (by simp[Qn]),ET v hr Bf]
   rfl
  ·have hn:∀u∈w::r,fQ u.1 v.1=false:=fun u hu=>by
    rcases List.mem_cons.1 hu with rfl|hu
    ·simpa using aE
    ·rw[Bool.eq_false_iff];intro h2;exact aE (gZ (hw hu) h2)
   have FM:fQ v.1 w.1=true:=km (by simpa using aE) aV
   rw[qC hn,eR,if_pos FM];rfl
theorem u5{x:ID}:∀{l:List an},cT l→(aQ l x).isSome=true→dG l x=l.take (bP l x)++l.drop (bP l x+1)
 |[],_,hf=>by simp[aQ]at hf
 |w::r,hs,hf=>by
  have hw:∀{u:an},u∈r→fQ w.1 u.1=true:=fun {u} hu=>List.rel_of_pairwise_cons hs hu
  have hr:cT r:=hs.of_cons
  by_cases he:w.1=x
  ·have hn:∀u∈w::r,fQ u.1 x=false:=fun u hu=>by
    rcases List.mem_cons.1 hu with rfl|hu
    ·rw[he,bS]
    ·rw[←he];exact kl (hw hu)
   have eg:dG r x=r:=by
    unfold dG;rw[List.filter_eq_self];intro u hu
    have h4:=hw hu
    simp;intro e2;rw[he,e2,bS]at h4;cases h4
   rw[qC hn]
   unfold dG
   rw[List.filter_cons_of_neg (by simp[he])]
   exact eg
  ·have Bf:(aQ r x).isSome=true:=by simpa[aQ,List.find?_cons,he] using hf
   have aE:fQ w.1 x=true:=by
    obtain⟨u,hu⟩:=Option.isSome_iff_exists.1 Bf
    have h1:=List.mem_of_find?_eq_some hu
    have h2:u.1=x:=by simpa using List.find?_some hu
    rw[←h2];exact hw h1
   have e:bP (w::r) x=bP r x+1:=by unfold bP;rw[List.countP_cons_of_pos (by simpa using aE)]
   rw[e]
   have:=u5 hr Bf
   simp[dG,List.filter_cons,he]at this ⊢
   exact this
theorem u6(v:an):∀{l:List an},cT l→aQ l v.1=none→cT (eR v l)
 |[],_,_=>List.pairwise_singleton _ _
 |w::r,hs,hf=>by
  have hw:∀{u:an},u∈r→fQ w.1 u.1=true:=fun {u} hu=>List.rel_of_pairwise_cons hs hu
  have hr:cT r:=hs.of_cons
  have aV:¬w.1=v.1:=fun e=>by simp[aQ,e]at hf
  have Bf:aQ r v.1=none:=by simpa[aQ,List.find?_cons,aV] using hf
  unfold eR
  split
  ·rename_i h
   refine List.Pairwise.cons (fun u hu=>?_) hs
   rcases List.mem_cons.1 hu with rfl|hu
   ·exact h
   ·exact gZ h (hw hu)
  ·rename_i h
   have aE:fQ w.1 v.1=true:=km (by simpa using h) (fun e=>aV e.symm)
   refine List.Pairwise.cons (fun u hu=>?_) (u6 v hr Bf)
   rcases mQ.1 hu with rfl|hu
   ·exact aE
   ·exact hw hu
theorem ss{l:List an}{x:ID}(hs:cT l):cT (dG l x):=hs.filter _
theorem cM{l:List aj}{x:ID}{v:aj}(hs:bQ l)(h:aN l x=some v):l[bh l x]? = some v:=by
 have jR:=qB (x:=x) hs
 rw[h]at jR
 cases hg:l[bh l x]? with
 |none=>rw[hg]at jR;simp[Option.filter]at jR
 |some u =>
  rw[hg]at jR
  simp only[Option.filter]at jR
  split at jR
  ·exact jR.symm
  ·cases jR
theorem jS{l:List aj}{x:ID}{v:aj}(h:aN l x=some v):v.1=x:=by simpa using List.find?_some h
theorem fH{l:List aj}{x:ID}{v:aj}(h:aN l x=some v):v∈l:=List.mem_of_find?_eq_some h
theorem jk{l:List aj}{x:ID}{k:Nat}{u:aj}(hs:bQ l)(hk:l[k]? = some u)(hu:u.1=x):k=bh l x:=by
 have h1:¬k<bh l x:=fun h=>by
  have:=(uX hs k u hk).2 h
  rw[hu,bS]at this;cases this
 have hf:(aN l x).isSome=true:=by
  unfold aN;rw[List.find?_isSome];exact⟨u,List.mem_of_getElem? hk,by simp[hu]⟩
 obtain⟨v,hv⟩:=Option.isSome_iff_exists.1 hf
 have hg:=cM hs hv
 by_cases h2:bh l x<k
 ·obtain⟨h3,h4⟩:=List.getElem?_eq_some_iff.1 hg
  obtain⟨h5,h6⟩:=List.getElem?_eq_some_iff.1 hk
  have:=List.pairwise_iff_getElem.1 hs _ _ h3 h5 h2
  rw[h4,h6,jS hv,hu,bS]at this;cases this
 ·omega
theorem EU{l:List aj}{x:ID}{v:aj}(hs:bQ l)(h:aN l x=some v)(g f:aj→aj)(h1:∀w,w.1=x→g w=f w)(h2:∀w,w.1≠x→g w=w):l.map g=l.set (bh l x) (f v):=by
 have hg:=cM hs h
 apply List.ext_getElem?
 intro k
 rw[List.getElem?_map,List.getElem?_set]
 by_cases hk:bh l x=k
 ·subst hk
  rw[if_pos rfl,if_pos (List.getElem?_eq_some_iff.1 hg).1,hg]
  simp[h1 v (jS h)]
 ·rw[if_neg hk]
  cases hu:l[k]? with
  |none=>rfl
  |some u =>
   have:u.1≠x:=fun e=>hk (jk hs hu e).symm
   simp[h2 u this]
theorem lh{l:List an}{x:ID}{v:an}(hs:cT l)(h:aQ l x=some v):l[bP l x]? = some v:=by
 have jR:=u4 (x:=x) hs
 rw[h]at jR
 cases hg:l[bP l x]? with
 |none=>rw[hg]at jR;simp[Option.filter]at jR
 |some u =>
  rw[hg]at jR
  simp only[Option.filter]at jR
  split at jR
  ·exact jR.symm
  ·cases jR
theorem tP{l:List an}{x:ID}{v:an}(h:aQ l x=some v):v.1=x:=by simpa using List.find?_some h
theorem Ka{l:List an}{x:ID}{v:an}(h:aQ l x=some v):v∈l:=List.mem_of_find?_eq_some h
theorem Kb{l:List an}{x:ID}{k:Nat}{u:an}(hs:cT l)(hk:l[k]? = some u)(hu:u.1=x):k=bP l x:=by
 have h1:¬k<bP l x:=fun h=>by
  have:=(uZ hs k u hk).2 h
  rw[hu,bS]at this;cases this
 have hf:(aQ l x).isSome=true:=by
  unfold aQ;rw[List.find?_isSome];exact⟨u,List.mem_of_getElem? hk,by simp[hu]⟩
 obtain⟨v,hv⟩:=Option.isSome_iff_exists.1 hf
 have hg:=lh hs hv
 by_cases h2:bP l x<k
 ·obtain⟨h3,h4⟩:=List.getElem?_eq_some_iff.1 hg
  obtain⟨h5,h6⟩:=List.getElem?_eq_some_iff.1 hk
  have:=List.pairwise_iff_getElem.1 hs _ _ h3 h5 h2
  rw[h4,h6,tP hv,hu,bS]at this;cases this
 ·omega
theorem MU{l:List an}{x:ID}{v:an}(hs:cT l)(h:aQ l x=some v)(g f:an→an)(h1:∀w,w.1=x→g w=f w)(h2:∀w,w.1≠x→g w=w):l.map g=l.set (bP l x) (f v):=by
 have hg:=lh hs h
 apply List.ext_getElem?
 intro k
 rw[List.getElem?_map,List.getElem?_set]
 by_cases hk:bP l x=k
 ·subst hk
  rw[if_pos rfl,if_pos (List.getElem?_eq_some_iff.1 hg).1,hg]
  simp[h1 v (tP h)]
 ·rw[if_neg hk]
  cases hu:l[k]? with
  |none=>rfl
  |some u =>
   have:u.1≠x:=fun e=>hk (Kb hs hu e).symm
   simp[h2 u this]
theorem cT.map{l:List an}(h:cT l){f:an→an}(hf:∀v,(f v).1=v.1):cT (l.map f):=by
 unfold cT at h ⊢
 rw[List.pairwise_map]
 exact h.imp fun {a b} Ah=>by rw[hf,hf];exact Ah
end Go.Vs
namespace Go.Vs
open Go.Proofs
variable {G:(f:FuncId)→(g:aL)→Option (g.A→Option g.B)}
theorem rC{α R:Type}{o:Option α}{a r:Option R}{f:α→Option R}{p:α}(h:o=some p)(k:f p=r):oV o a f=r:=by subst h;exact k
theorem IE{α R:Type}{o:Option α}{a r:Option R}{f:α→Option R}(h:o=none)(k:a=r):oV o a f=r:=by subst h;exact k
def rD(w:az)(x:ID):Int×az :=
 if(aQ w.2.1 x).isSome=true then(12,w) else if 40≤w.2.1.length then(3,w) else(0,(w.1,(eR (x,(e0,0)) w.2.1,w.2.2)))
theorem QP(hG:HG G)(w:az)(x:ID)(hs:cT w.2.1)(hl:w.2.1.length≤50000000):FX G 178 vS ((x,()),(w,()))=some (((rD w x).1,()),((rD w x).2,())):=by
 refine aJ (fn:=Tryz.f178) (hG _ _ rfl) (by kernel_rfl) (by kernel_rfl) ((Ut _ _ _).trans ?_)
 refine aa (mU hG w x hs hl) ?_
 unfold rD
 cases hf:(aQ w.2.1 x).isSome
 ·rw[if_neg (by simp)]
  refine af ((cP hs).trans hf) ?_
  by_cases h2:40≤w.2.1.length
  ·rw[if_pos h2]
   exact ae (decide_eq_true (show((w.2.1.length:Nat):Int)≥40 by omega)) rfl
  ·rw[if_neg h2]
   refine af (decide_eq_false (show ¬((w.2.1.length:Nat):Int)≥40 by omega)) ?_
   have hc:=CV w.2.1 x
   have ll:oW w.2.1 ((bP w.2.1 x:Nat):Int) [((x,(e0,0)):an)]=true:=by
    unfold oW
    rw[decide_eq_true (show(0:Int)≤((bP w.2.1 x:Nat):Int) by omega),decide_eq_true (show((bP w.2.1 x:Nat):Int)≤((w.2.1.length:Nat):Int) by omega)]
    rw[fits (by simp;omega)];rfl
   refine ae ll ?_
   have e:fb w.2.1 ((bP w.2.1 x:Nat):Int) [((x,(e0,0)):an)]=eR (x,(e0,0)) w.2.1:=by
    rw[ET (x,(e0,0)) hs (by simpa using hf)]
    unfold fb;simp
   exact congrArg (fun l:List an=>some (((0:Int),()),((w.1,(l,w.2.2)),()))) e
 ·rw[if_pos rfl]
  exact ae ((cP hs).trans hf) rfl
def zh(w:az)(o:aO):Option (Fin 2×Nat) :=
 if uW o=true then(if(aQ w.2.1 (ba o)).isSome=true then some (⟨1,by decide⟩,bP w.2.1 (ba o)) else none)
 else(if(aN w.1 (ba o)).isSome=true then some (⟨0,by decide⟩,bh w.1 (ba o)) else none)
theorem VP(hG:HG G)(w:az)(o:aO)(hv:bQ w.1)(he:cT w.2.1)(QQ:w.1.length≤50000000)(hle:w.2.1.length≤50000000) :
  FX G 189 Ec ((o,()),(w,()))=some ((zh w o,(zh w o,())),(w,())):=by
 refine aJ (fn:=Tryz.f189) (hG _ _ rfl) (by kernel_rfl) (by kernel_rfl) ((UF _ _ _).trans ?_)
 unfold zh
 by_cases ho:uW o=true
 ·rw[if_pos ho]
  refine ae ho ?_
  refine aa (mU hG w (ba o) he hle) ?_
  cases hf:aQ w.2.1 (ba o) with
  |none =>
   refine af ((cP he).trans (by rw[hf];rfl)) ?_
   rfl
  |some e =>
   refine ae ((cP he).trans (by rw[hf];rfl)) ?_
   have aE:=(List.getElem?_eq_some_iff.1 (lh he hf)).1
   refine ae (dD (jP _) (bG aE)) ?_
   exact ae (dD (jP _) (bG aE)) rfl
 ·rw[if_neg ho]
  refine af (by simpa using ho) ?_
  refine aa (oF hG w (ba o) hv QQ) ?_
  cases hf:aN w.1 (ba o) with
  |none =>
   refine af ((eJ hv).trans (by rw[hf];rfl)) ?_
   rfl
  |some e =>
   refine ae ((eJ hv).trans (by rw[hf];rfl)) ?_
   have aE:=(List.getElem?_eq_some_iff.1 (cM hv hf)).1
   refine ae (dD (jP _) (bG aE)) ?_
   exact ae (dD (jP _) (bG aE)) rfl
def su(w:az)(o:aO):Int×az :=
 if uW o=true then(if(aQ w.2.1 (ba o)).isSome=true then(0,(w.1,(w.2.1.map (sq o),w.2.2))) else(13,w))
 else(if(aN w.1 (ba o)).isSome=true then(0,(w.1.map (nY o),w.2)) else(13,w))
theorem ZM(hG:HG G)(w:az)(o:aO)(hv:bQ w.1)(he:cT w.2.1)(QQ:w.1.length≤50000000)(hle:w.2.1.length≤50000000) :
  FX G 158 Ma ((o,()),(w,()))=some (((su w o).1,()),((su w o).2,())):=by
 refine aJ (fn:=Tryz.f158) (hG _ _ rfl) (by kernel_rfl) (by kernel_rfl) ((Ze _ _ _).trans ?_)
 refine aa (VP hG w o hv he QQ hle) ?_
 by_cases ho:uW o=true
 ·cases hf:aQ w.2.1 (ba o) with
  |none =>
   have e1:zh w o=none:=by unfold zh;rw[if_pos ho,hf];rfl
   have e2:su w o=(13,w):=by unfold su;rw[if_pos ho,hf];rfl
   rw[e2]
   exact IE e1 (IE e1 rfl)
  |some e =>
   have e1:zh w o=some (⟨1,by decide⟩,bP w.2.1 (ba o)):=by unfold zh;rw[if_pos ho,hf];rfl
   have hm:∀f:an→an,(∀u,u.1=ba o→sq o u=f u)→w.2.1.map (sq o)=w.2.1.set (bP w.2.1 (ba o)) (f e):=fun f XH =>
    MU he hf (sq o) f XH (fun u hu=>by unfold sq;rw[if_neg (fun k=>hu k.2)])
   have e2:su w o=(0,(w.1,(w.2.1.map (sq o),w.2.2))):=by unfold su;rw[if_pos ho,hf];rfl
   rw[e2]
   refine rC e1 (af rfl (ae rfl (rC e1 (af rfl (ae rfl ?_)))))
   by_cases h7:o.1=7
   ·refine ae (De h7) (aa (lh he hf) ?_)
    have:=hm (fun u=>(u.1,(tO o,u.2.2))) (fun u hu=>by unfold sq;rw[if_pos ⟨ho,hu⟩,if_pos h7])
    exact congrArg (fun l:List an=>some (((0:Int),()),((w.1,(l,w.2.2)),()))) this.symm
   ·refine af (vZ h7) (aa (lh he hf) ?_)
    have:=hm (fun u=>(u.1,(u.2.1,oN o))) (fun u hu=>by unfold sq;rw[if_pos ⟨ho,hu⟩,if_neg h7])
    exact congrArg (fun l:List an=>some (((0:Int),()),((w.1,(l,w.2.2)),()))) this.symm
 ·have ma:uW o=false:=by simpa using ho
  cases hf:aN w.1 (ba o) with
  |none =>
   have e1:zh w o=none:=by unfold zh;rw[if_neg ho,hf];rfl
   have e2:su w o=(13,w):=by unfold su;rw[if_neg ho,hf];rfl
   rw[e2]
   exact IE e1 (IE e1 rfl)
  |some e =>
   have e1:zh w o=some (⟨0,by decide⟩,bh w.1 (ba o)):=by unfold zh;rw[if_neg ho,hf];rfl
   have hm:∀f:aj→aj,(∀u,u.1=ba o→nY o u=f u)→w.1.map (nY o)=w.1.set (bh w.1 (ba o)) (f e):=fun f XH =>
    EU hv hf (nY o) f XH (fun u hu=>by unfold nY;rw[if_neg (fun k=>hu k.2)])
   have e2:su w o=(0,(w.1.map (nY o),w.2)):=by unfold su;rw[if_neg ho,hf];rfl
   rw[e2]
   refine rC e1 (ae rfl (rC e1 (ae rfl ?_)))
   by_cases h7:o.1=7
   ·refine ae (De h7) (aa (cM hv hf) ?_)
    have:=hm (fun u=>(u.1,(u.2.1,(tO o,u.2.2.2)))) (fun u hu=>by unfold nY;rw[if_pos ⟨ma,hu⟩,if_pos h7])
    exact congrArg (fun l:List aj=>some (((0:Int),()),((l,w.2),()))) this.symm
   ·refine af (vZ h7) (aa (cM hv hf) ?_)
    have:=hm (fun u=>(u.1,(u.2.1,(u.2.2.1,oN o)))) (fun u hu=>by unfold nY;rw[if_pos ⟨ma,hu⟩,if_neg h7])
    exact congrArg (fun l:List aj=>some (((0:Int),()),((l,w.2),()))) this.symm
end Go.Vs
namespace Go.Vs
open Go.Proofs
variable {G:(f:FuncId)→(g:aL)→Option (g.A→Option g.B)}
theorem QR(hG:HG G)(a b:ab):FX G 195 Bo ((a,b,()),())=some ((qS a b,()),()):=by
 refine aJ (fn:=Tryz.f195) (hG _ _ rfl) (by kernel_rfl) (by kernel_rfl) ((UR _ _ _).trans ?_)
 refine aa (MN hG a.1 b.1) ?_
 refine aa (MM hG a.2 b.2) ?_
 refine aa (QM (hG _ _ rfl) (AE a.1 b.1) (G2 a.2 b.2)) ?_
 refine congrArg (fun n:Int=>some ((n,()),())) ?_
 obtain⟨a1,a2⟩:=a
 obtain⟨b1,b2⟩:=b
 unfold qS AE G2 ke
 simp only[Prod.mk.injEq]
 by_cases h:a1=b1
 ·subst h
  simp only[if_true,bS,Bool.false_or,true_and,decide_true,Bool.true_and]
  by_cases h1:a2<b2
  ·have:¬a2=b2:=by omega
   simp[h1,this]
  ·by_cases h2:a2>b2
   ·have:¬a2=b2:=by omega
    simp[h1,h2,this]
   ·have:a2=b2:=by omega
    simp[this]
 ·simp only[h,if_false,false_and,decide_false,Bool.false_and,Bool.or_false]
  cases fQ a1 b1<;>simp
theorem VQ(hG:G 168 kS=none)(row:List ab)(d:ab)(hl:row.length≤1073741824):∀(n i:Nat),i+n=row.length →
  LX G 168 kS Tryz.f168 tD (bA Tryz.prog 168 0) ((row,(((row.length:Nat):Int),((i:Int),()))),(((d,()),()),()))=some ((idx d (row.drop i) i,()),()):=by
 intro n
 induction n with
 |zero =>
  intro i hi
  refine aK (j:=0) (by kernel_rfl) ((H8 _ _ _).trans ?_)
  refine af (decide_eq_false (show ¬((i:Int)<((row.length:Nat):Int)) by omega)) ?_
  rw[List.drop_eq_nil_of_le (by omega)];rfl
 |succ n ih =>
  intro i hi
  have aE:i<row.length:=by omega
  refine aK (j:=0) (by kernel_rfl) ((H8 _ _ _).trans ?_)
  refine ae (bG aE) (aa (bN (List.getElem?_eq_getElem aE)) ?_)
  rw[List.drop_eq_getElem_cons aE,idx]
  by_cases he:row[i]=d
  ·rw[if_pos he]
   exact ae ((EI d row[i]).trans (decide_eq_true he.symm)) rfl
  ·rw[if_neg he]
   refine af ((EI d row[i]).trans (decide_eq_false fun h=>he h.symm)) ?_
   rw[aP aE hl]
   exact ih (i+1) (by omega)
theorem zi(hG:G 168 kS=none)(row:List ab)(d:ab)(hl:row.length≤1073741824):FX G 168 kS ((row,d,()),())=some ((idx d row 0,()),()):=by
 refine aJ (fn:=Tryz.f168) hG (by kernel_rfl) (by kernel_rfl) ((UL _ _ _).trans ?_)
 have:=VQ hG row d hl row.length 0 (by omega)
 rw[List.drop_zero]at this
 exact this
theorem By(hG:HG G)(row:List ab)(d:ab)(hl:row.length≤1073741824):FX G 166 tu ((row,d,()),())=some ((decide (d∈row),()),()):=by
 refine aJ (fn:=Tryz.f166) (hG _ _ rfl) (by kernel_rfl) (by kernel_rfl) ((UK _ _ _).trans ?_)
 refine aa (zi (hG _ _ rfl) row d hl) ?_
 refine congrArg (fun b:Bool=>some ((b,()),())) ?_
 rw[Bool.eq_iff_iff]
 simp only[decide_eq_true_eq]
 have:=tN (d:=d) (row:=row)
 constructor
 ·intro h;exact Classical.byContradiction fun k=>by have:=this.2 k;omega
 ·intro h
  have h2:¬idx d row 0<0:=fun k=>this.1 k h
  omega
theorem dk(a:ab):ke a a=false:=by unfold ke;simp[bS]
theorem fJ{a b c:ab}(h:ke a b=true)(k:ke b c=true):ke a c=true:=by
 obtain⟨⟨a1,a2⟩,a3⟩:=a;obtain⟨⟨b1,b2⟩,b3⟩:=b;obtain⟨⟨c1,c2⟩,c3⟩:=c
 simp[ke,fQ]at *;omega
theorem u7{a b:ab}(h:ke a b=false)(k:a≠b):ke b a=true:=by
 obtain⟨⟨a1,a2⟩,a3⟩:=a;obtain⟨⟨b1,b2⟩,b3⟩:=b
 simp[ke,fQ]at *;omega
theorem CW{a b c:ab}(h:ke a b=true)(k:ke c b=false):ke a c=true:=by
 obtain⟨⟨a1,a2⟩,a3⟩:=a;obtain⟨⟨b1,b2⟩,b3⟩:=b;obtain⟨⟨c1,c2⟩,c3⟩:=c
 simp[ke,fQ]at *;omega
theorem w4(a b:ab):qS a b<0↔ke a b=true:=by
 unfold qS
 by_cases h:a=b
 ·subst h;simp[dk]
 ·rw[if_neg h];cases ke a b<;>simp
theorem oa{row:List ab}{k:Nat}(hk:k<row.length):row.getD k zD=row[k]:=by simp[List.getD,hk]
theorem u9(row:List ab):∀(r:List ab) (i k:Nat),row.drop i=r→k<row.length→k≤i→(∀j,j<i→(hj:j<row.length)→ke row[j] (row.getD k zD)=false)→(∀j,j<k→(hj:j<row.length)→ke (row.getD k zD) row[j]=true) →
  (∀j,(hj:j<row.length)→ke row[j] (row.getD (fm row r i k) zD)=false)∧(∀j,j<fm row r i k→(hj:j<row.length)→ke (row.getD (fm row r i k) zD) row[j]=true)
 |[],i,k,hr,hk,XG,h1,h2=>by
  have hi:row.length≤i:=by
   have:=congrArg List.length hr;simp at this;omega
  exact⟨fun j hj=>h1 j (by omega) hj,h2⟩
 |x::r,i,k,hr,hk,XG,h1,h2=>by
  have hi:i<row.length:=by
   have:=congrArg List.length hr;simp at this;omega
  have hx:row[i]=x:=by
   have:=List.drop_eq_getElem_cons hi;rw[hr]at this;injection this with a b;exact a.symm
  have qf:row.drop (i+1)=r:=by
   have:=List.drop_eq_getElem_cons hi;rw[hr]at this;injection this with a b;exact b.symm
  unfold fm
  split
  ·rename_i aE
   rw[w4]at aE
   refine u9 row r (i+1) i qf hi (by omega) (fun j hj FH=>?_) (fun j hj FH=>?_)
   ·rw[oa hi,hx]
    rcases Nat.lt_succ_iff_lt_or_eq.1 hj with hj|rfl
    ·cases hc:ke row[j] x with
     |false=>rfl
     |true=>have:=fJ hc aE;rw[h1 j hj FH]at this;cases this
    ·rw[hx,dk]
   ·rw[oa hi,hx]
    exact CW aE (h1 j (by omega) FH)
  ·rename_i aE
   rw[w4]at aE
   refine u9 row r (i+1) k qf hk (by omega) (fun j hj FH=>?_) h2
   rcases Nat.lt_succ_iff_lt_or_eq.1 hj with hj|rfl
   ·exact h1 j hj FH
   ·rw[hx];simpa using aE
theorem sw{row:List ab}(h:0<row.length):(∀j,(hj:j<row.length)→ke row[j] (row.getD (fm row row 0 0) zD)=false)∧(∀j,j<fm row row 0 0→(hj:j<row.length)→ke (row.getD (fm row row 0 0) zD) row[j]=true) :=
 u9 row row 0 0 rfl h (Nat.le_refl _) (fun j hj=>by omega) (fun j hj=>by omega)
theorem G5{d:ab}:∀{row:List ab} {k:Nat} {i:Int},row[k]? = some d→(∀j,j<k→row[j]?≠some d)→idx d row i=i+k
 |[],k,i,h,_=>by simp at h
 |e::r,0,i,h,_=>by
  simp at h;subst h;rw[idx,if_pos rfl];simp
 |e::r,k+1,i,h,hn=>by
  have h0:=hn 0 (by omega)
  rw[idx,if_neg (fun e=>h0 (by simp[e]))]
  rw[G5 (k:=k) (by simpa using h) (fun j hj=>by have:=hn (j+1) (by omega);simpa using this)]
  simp;omega
theorem MV{row:List ab}(h:0<row.length):idx (row.getD (fm row row 0 0) zD) row 0=((fm row row 0 0:Nat):Int):=by
 have hm:=nW row row 0 0 h (by omega)
 have:=G5 (d:=row.getD (fm row row 0 0) zD) (row:=row) (k:=fm row row 0 0) (i:=0) (by rw[oa hm];exact List.getElem?_eq_getElem hm) (fun j hj he=>by
  obtain⟨h1,h2⟩:=List.getElem?_eq_some_iff.1 he
  have:=(sw h).2 j hj h1
  rw[h2,dk]at this;cases this)
 omega
theorem MW(hG:HG G)(row:List ab)(h:0<row.length)(hl:row.length≤100000000):FX G 196194 jJ ((row,()),())=some ((row.getD (fm row row 0 0) zD,()),()):=by
 refine aJ (fn:=Tryz.f194) (hG _ _ rfl) (by kernel_rfl) (by kernel_rfl) ((Mi _ _ _).trans ?_)
 refine af (decide_eq_false (show ¬((row.length:Nat):Int)<1 by omega)) ?_
 refine aa (bN (i:=0) (List.getElem?_eq_getElem h)) ?_
 have loop:∀(n i k:Nat),i+n=row.length→k<row.length→LX G 196194 jJ Tryz.f194 je (bA Tryz.prog 194 0) ((row,((i:Int),())),(((zD,()),(((row.getD k zD),()),())),()))=some ((row.getD (fm row (row.drop i) i k) zD,()),()):=by
  intro n
  induction n with
  |zero =>
   intro i k hi hk
   refine aK (j:=0) (by kernel_rfl) ((yP _ _ _).trans ?_)
   refine af (decide_eq_false (show ¬((i:Int)<((row.length:Nat):Int)) by omega)) ?_
   rw[List.drop_eq_nil_of_le (by omega)];rfl
  |succ n ih =>
   intro i k hi hk
   have aE:i<row.length:=by omega
   have hx:row[i]? = some row[i]:=List.getElem?_eq_getElem aE
   refine aK (j:=0) (by kernel_rfl) ((yP _ _ _).trans ?_)
   refine ae (bG aE) (aa (bN hx) ?_)
   refine aa (QR hG row[i] (row.getD k zD)) ?_
   rw[List.drop_eq_getElem_cons aE,fm]
   by_cases ho:qS row[i] (row.getD k zD)<0
   ·rw[if_pos ho]
    refine ae (decide_eq_true ho) (aa (bN hx) ?_)
    have:=ih (i+1) i (by omega) aE
    rw[←aP aE (by omega),oa aE]at this
    exact this
   ·rw[if_neg ho]
    refine af (decide_eq_false ho) ?_
    have:=ih (i+1) k (by omega) hk
    rw[←aP aE (by omega)]at this
    exact this
 have h1:=loop (row.length-1) 1 0 (by omega) h
 have h2:fm row row 0 0=fm row (row.drop 1) 1 0:=by
  cases row with
  |nil=>simp at h
  |cons x r =>
   rw[List.drop_one,List.tail_cons]
   conv=>lhs;rw[fm]
   rw[if_neg]
   show ¬qS x x<0
   unfold qS;simp
 rw[h2]
 have h3:row.getD 0 zD=row[0]:=oa h
 rw[h3]at h1
 exact h1
def total(ls:List (List ab)):Nat:=(ls.map List.length).sum
theorem zj(a:List ab)(r:List (List ab)):total (a::r)=a.length+total r:=by unfold total;rw[List.map_cons,List.sum_cons]
theorem QS(hG:HG G)(ls:List (List ab))(hn:ls.length≤1000)(hl:total ls≤500000000):FX G 196 mM ((ls,()),())=some ((ls.flatten,()),()):=by
 refine aJ (fn:=Tryz.f196) (hG _ _ rfl) (by kernel_rfl) (by kernel_rfl) ((US _ _ _).trans ?_)
 have VR:∀(n i:Nat) (out:List ab),i+n=ls.length→out.length+total (ls.drop i)≤500000000→LX G 196 mM Tryz.f196 tF (bA Tryz.prog 196 1) ((ls,(((ls.length:Nat):Int),((i:Int),()))),((),(out,())))=some ((out++(ls.drop i).flatten,()),()):=by
  intro n
  induction n with
  |zero =>
   intro i out hi ho
   refine aK (j:=1) (by kernel_rfl) ((Ia _ _ _).trans ?_)
   refine af (decide_eq_false (show ¬((i:Int)<((ls.length:Nat):Int)) by omega)) ?_
   rw[List.drop_eq_nil_of_le (by omega),List.flatten_nil,List.append_nil];rfl
  |succ n ih =>
   intro i out hi ho
   have aE:i<ls.length:=by omega
   rw[List.drop_eq_getElem_cons aE]at ho ⊢
   have ma:out.length+(ls[i].length+total (ls.drop (i+1)))≤500000000:=by
    have:total (ls[i]::ls.drop (i+1))=ls[i].length+total (ls.drop (i+1)):=zj _ _
    omega
   refine aK (j:=1) (by kernel_rfl) ((Ia _ _ _).trans ?_)
   refine ae (bG aE) (aa (bN (List.getElem?_eq_getElem aE)) ?_)
   refine ae (fits (show out.length+ls[i].length≤1073741824 by omega)) ?_
   have:=ih (i+1) (out++ls[i]) (by omega) (by rw[List.length_append];omega)
   rw[List.flatten_cons,←List.append_assoc]
   rw[←aP aE (by omega)]at this
   exact this
 have VS:∀(n i m:Nat),i+n=ls.length→m+total (ls.drop i)=total ls→LX G 196 mM Tryz.f196 tE (bA Tryz.prog 196 0) ((ls,((m:Int),(ls,(((ls.length:Nat):Int),((i:Int),()))))),((),()))=some ((ls.flatten,()),()):=by
  intro n
  induction n with
  |zero =>
   intro i m hi hm
   refine aK (j:=0) (by kernel_rfl) ((H9 _ _ _).trans ?_)
   refine af (decide_eq_false (show ¬((i:Int)<((ls.length:Nat):Int)) by omega)) ?_
   have hg:xm (m:Int)=true:=by
    unfold xm
    rw[decide_eq_true (show(0:Int)≤(m:Int) by omega)]
    rw[decide_eq_true (show(m:Int)≤eL by unfold eL;omega)];rfl
   refine ae hg ?_
   have:=VR ls.length 0 [] (by omega) (by rw[List.drop_zero];simpa using hl)
   rw[List.drop_zero,List.nil_append]at this
   exact this
  |succ n ih =>
   intro i m hi hm
   have aE:i<ls.length:=by omega
   have OL:m+ls[i].length+total (ls.drop (i+1))=total ls:=by
    rw[List.drop_eq_getElem_cons aE]at hm
    have:total (ls[i]::ls.drop (i+1))=ls[i].length+total (ls.drop (i+1)):=zj _ _
    omega
   refine aK (j:=0) (by kernel_rfl) ((H9 _ _ _).trans ?_)
   refine ae (bG aE) (aa (bN (List.getElem?_eq_getElem aE)) ?_)
   have hw:IntKind.wrap .i64 ((m:Int)+((ls[i].length:Nat):Int))=((m+ls[i].length:Nat):Int):=by rw[wrap_small (by omega) (by omega)];rfl
   refine af (decide_eq_false (show ¬IntKind.wrap .i64 ((m:Int)+((ls[i].length:Nat):Int))<0 by rw[hw];omega)) ?_
   have:=ih (i+1) (m+ls[i].length) (by omega) OL
   rw[←aP aE (by omega),←hw]at this
   exact this
 exact VS ls.length 0 0 (by omega) (by rw[List.drop_zero];omega)
theorem w5{α:Type}(xs:List α){k:Nat}(hk:k≤xs.length):cut xs (k:Int) ((xs.length:Nat):Int)=xs.drop k:=by
 unfold cut;rw[Int.toNat_natCast,Int.toNat_natCast,List.take_of_length_le (Nat.le_refl _)]
theorem qD{α:Type}(xs:List α)(k:Nat):cut xs 0 (k:Int)=xs.take k:=by
 unfold cut;rw[Int.toNat_natCast];rfl
theorem CX{n k:Nat}(h:k≤n):aR n (k:Int) ((n:Nat):Int)=true:=by unfold aR;simp;omega
theorem tQ{n k:Nat}(h:k≤n):aR n 0 (k:Int)=true:=by unfold aR;simp;omega
theorem Bz(hG:HG G)(row:List ab)(hl:row.length≤100000000):FX G 169 pM ((row,()),())=some ((cK row,()),()):=by
 refine aJ (fn:=Tryz.f169) (hG _ _ rfl) (by kernel_rfl) (by kernel_rfl) ((UE _ _ _).trans ?_)
 by_cases h0:row.length=0
 ·refine ae (show(((row.length:Nat):Int)==0)=true by simp[h0]) ?_
  have:row=[]:=by simpa using h0
  subst this;rfl
 refine af (show(((row.length:Nat):Int)==0)=false by rw[beq_eq_false_iff_ne];omega) ?_
 have hp:0<row.length:=by omega
 have hm:=nW row row 0 0 hp (by omega)
 refine aa (MW hG row hp hl) ?_
 refine aa (zi (hG _ _ rfl) row (row.getD (fm row row 0 0) zD) (by omega)) ?_
 rw[MV hp]
 refine ae (CX (n:=row.length) (k:=fm row row 0 0) (by omega)) (ae (tQ (n:=row.length) (k:=fm row row 0 0) (by omega)) ?_)
 have key:∀a b:List ab,a=row.drop (fm row row 0 0)→b=row.take (fm row row 0 0)→((FX G 196 mM (([a,b],()),())).bind fun(y3:(((List ab)×Unit)×Unit))=>some (y3.1,()))=some ((cK row,()),()):=by
  intro a b ha hb
  subst ha hb
  refine aa (QS hG [row.drop (fm row row 0 0),row.take (fm row row 0 0)] (by simp) (by unfold total;simp;omega)) ?_
  unfold cK CQ
  simp only[List.flatten_cons,List.flatten_nil,List.append_nil]
 exact key _ _ (w5 row (by omega)) (qD row _)
theorem MX(hG:HG G)(ls:List (List ab))(hn:ls.length≤1000)(hl:total ls≤100000000):FX G 170 mL ((ls,()),())=some ((cK ls.flatten,()),()):=by
 refine aJ (fn:=Tryz.f170) (hG _ _ rfl) (by kernel_rfl) (by kernel_rfl) ((UM _ _ _).trans ?_)
 refine aa (QS hG ls hn (by omega)) ?_
 have hlen:ls.flatten.length=total ls:=by unfold total;exact List.length_flatten
 exact aa (Bz hG ls.flatten (by omega)) rfl
theorem MY(hG:HG G)(row:List ab)(after d:ab)(hl:row.length≤50000000):FX G 181 yz ((row,after,d,()),())=some ((oL row after d,()),()):=by
  refine aJ (fn:=Tryz.f181) (hG _ _ rfl) (by kernel_rfl) (by kernel_rfl) ((Uv _ _ _).trans ?_)
  refine aa (By hG row d (by omega)) ?_
  unfold oL
  by_cases hd:d∈row
  · rw[if_pos hd]
    exact ae (decide_eq_true hd) (aa (Bz hG row (by omega)) rfl)
  rw[if_neg hd]
  refine af (decide_eq_false hd) ?_
  refine aa (zi (hG _ _ rfl) row after (by omega)) ?_
  have hr:idx after row 0<((row.length:Nat):Int)∨row.length=0∧idx after row 0 = -1:=by
    rcases qz after row 0 (by omega) with⟨h,_⟩|⟨k,h,hk,_⟩
    · by_cases h0:row.length=0
      · exact .inr ⟨h0,h⟩
      · exact .inl (by omega)
    · have:=(List.getElem?_eq_some_iff.1 hk).1
      exact .inl (by omega)
  have hm:max (idx after row 0) (0:Int)=max 0 (idx after row 0):=by omega
  have hw:IntKind.wrap .i64 (max (idx after row 0) (0:Int)+1)=(((max 0 (idx after row 0)).toNat+1:Nat):Int):=by
    rw[wrap_small (by omega) (by omega)];omega
  obtain⟨k,hk,nc,KU⟩:∃k:Nat,min (IntKind.wrap .i64 (max (idx after row 0) (0:Int)+1)) ((row.length:Nat):Int)=(k:Int)∧k≤row.length∧row.take k++(d::row.drop k)=row.take ((max 0 (idx after row 0)).toNat+1)++(d::row.drop ((max 0 (idx after row 0)).toNat+1)):=by
    rw[hw]
    by_cases h0:row.length=0
    · have:row=[]:=by simpa using h0
      subst this
      exact⟨0,by simp;omega,by simp,by simp⟩
    · exact⟨(max 0 (idx after row 0)).toNat+1,by omega,by omega,rfl⟩
  have wq:(min (IntKind.wrap .i64 ((max (idx after row 0) (0:Int):Int)+(1:Int))) (((List.length row):Nat):Int):Int)=(k:Int):=hk
  show cond (aR (List.length row) (0:Int) (min (IntKind.wrap .i64 ((max (idx after row 0) (0:Int):Int)+(1:Int))) (((List.length row):Nat):Int):Int))
    (cond (aR (List.length row) (min (IntKind.wrap .i64 ((max (idx after row 0) (0:Int):Int)+(1:Int))) (((List.length row):Nat):Int):Int) (((List.length row):Nat):Int))
     ((FX G 170 mL ((((cut row (0:Int) (min (IntKind.wrap .i64 ((max (idx after row 0) (0:Int):Int)+(1:Int))) (((List.length row):Nat):Int):Int))::([d]::((cut row (min (IntKind.wrap .i64 ((max (idx after row 0) (0:Int):Int)+(1:Int))) (((List.length row):Nat):Int):Int) (((List.length row):Nat):Int))::([]:List (List ab))))),()),())).bind fun(y4:(((List ab)×Unit)×Unit)) =>
     some (y4.1,()))
     (none))
    (none)=_
  rw[wq]
  refine ae (tQ nc) (ae (CX nc) ?_)
  have key:∀a b R:List ab,a=row.take k→b=row.drop k→R=cK (row.take k++(d::row.drop k))→((FX G 170 mL (([a,[d],b],()),())).bind fun(y3:(((List ab)×Unit)×Unit))=>some (y3.1,()))=some ((R,()),()):=by
    intro a b R ha hb hR
    subst ha hb hR
    refine aa (MX hG [row.take k,[d],row.drop k] (by simp) (by unfold total;simp;omega)) ?_
    refine congrArg (fun l:List ab=>some ((l,()),())) ?_
    simp
  exact key _ _ _ (qD row k) (w5 row nc) (by rw[KU])
theorem vc{row:List ab}{d:ab}{k:Nat}(hn:row.Nodup)(hk:row[k]? = some d):row.filter (fun e=>decide (e≠d))=row.take k++row.drop (k+1):=by
 obtain⟨h1,h2⟩:=List.getElem?_eq_some_iff.1 hk
 conv=>lhs;rw[←List.take_append_drop k row,List.drop_eq_getElem_cons h1,h2]
 have F4:(row.take k++(d::row.drop (k+1))).Nodup:=by
  rw[←h2,←List.drop_eq_getElem_cons h1,List.take_append_drop];exact hn
 have h3:=List.nodup_append.1 F4
 have h4:=List.nodup_cons.1 h3.2.1
 rw[List.filter_append,List.filter_cons_of_neg (by simp)]
 congr 1
 ·rw[List.filter_eq_self];intro a ha
  have:=h3.2.2 a ha d (by simp)
  simpa using this
 ·rw[List.filter_eq_self];intro a ha
  have:a≠d:=fun e=>h4.1 (e▸ha)
  simpa using this
theorem QT(hG:HG G)(row:List ab)(d:ab)(hn:row.Nodup)(hl:row.length≤50000000):FX G 141 Eb ((row,d,()),())=some ((hY row d,()),()):=by
 refine aJ (fn:=Tryz.f141) (hG _ _ rfl) (by kernel_rfl) (by kernel_rfl) ((UB _ _ _).trans ?_)
 refine aa (zi (hG _ _ rfl) row d (by omega)) ?_
 unfold hY
 by_cases hd:d∈row
 ·obtain⟨k,h1,h2,h3⟩:=kZ hd
  have aE:=(List.getElem?_eq_some_iff.1 h2).1
  rw[vc hn h2]
  show cond (decide (idx d row 0<0)) _ (cond (aR row.length 0 (idx d row 0)) (cond (aR row.length (IntKind.wrap .i64 (idx d row 0+1)) ((row.length:Nat):Int)) ((FX G 170 mL (([cut row 0 (idx d row 0),cut row (IntKind.wrap .i64 (idx d row 0+1)) ((row.length:Nat):Int)],()),())).bind fun(y3:(((List ab)×Unit)×Unit))=>some (y3.1,())) none) none)=_
  rw[h1,aP aE (by omega)]
  refine af (decide_eq_false (by omega)) (ae (tQ (by omega)) (ae (CX (by omega)) ?_))
  have key:∀a b:List ab,a=row.take k→b=row.drop (k+1)→((FX G 170 mL (([a,b],()),())).bind fun(y3:(((List ab)×Unit)×Unit))=>some (y3.1,()))=some ((cK (row.take k++row.drop (k+1)),()),()):=by
   intro a b ha hb
   subst ha hb
   refine aa (MX hG [row.take k,row.drop (k+1)] (by simp) (by unfold total;simp;omega)) ?_
   refine congrArg (fun l:List ab=>some ((l,()),())) ?_
   simp
  exact key _ _ (qD row k) (w5 row (by omega))
 ·have h1:=tN.2 hd
  refine ae (decide_eq_true h1) (aa (Bz hG row (by omega)) ?_)
  refine congrArg (fun l:List ab=>some ((l,()),())) ?_
  congr 1
  symm
  rw[List.filter_eq_self];intro a ha
  have:a≠d:=fun e=>hd (e▸ha)
  simpa using this
theorem QU(hG:HG G)(row:List ab)(c8 d:ab)(hl:row.length≤50000000):FX G 187 rp ((row,c8,d,()),())=some ((k0 row c8 d,()),()):=by
 refine aJ (fn:=Tryz.f187) (hG _ _ rfl) (by kernel_rfl) (by kernel_rfl) ((UC _ _ _).trans ?_)
 refine aa (zi (hG _ _ rfl) row c8 (by omega)) ?_
 unfold k0
 by_cases ho:c8∈row
 ·obtain⟨k,h1,h2,h3⟩:=kZ ho
  have aE:=(List.getElem?_eq_some_iff.1 h2).1
  refine af (decide_eq_false (show ¬idx c8 row 0<0 by omega)) ?_
  refine aa (By hG row d (by omega)) ?_
  by_cases hd:d∈row
  ·rw[if_neg (fun h=>h.2 hd)]
   exact ae (decide_eq_true hd) (aa (Bz hG row (by omega)) rfl)
  rw[if_pos ⟨ho,hd⟩]
  refine af (decide_eq_false hd) ?_
  show cond (aR row.length 0 (idx c8 row 0)) (cond (aR row.length (IntKind.wrap .i64 (idx c8 row 0+1)) ((row.length:Nat):Int)) ((FX G 170 mL (([cut row 0 (idx c8 row 0),[d],cut row (IntKind.wrap .i64 (idx c8 row 0+1)) ((row.length:Nat):Int)],()),())).bind fun(y3:(((List ab)×Unit)×Unit))=>some (y3.1,())) none) none=_
  rw[h1,aP aE (by omega)]
  refine ae (tQ (by omega)) (ae (CX (by omega)) ?_)
  have key:∀a b R:List ab,a=row.take k→b=row.drop (k+1)→R=cK (row.set ((k:Int)).toNat d)→((FX G 170 mL (([a,[d],b],()),())).bind fun(y3:(((List ab)×Unit)×Unit))=>some (y3.1,()))=some ((R,()),()):=by
   intro a b R ha hb hR
   subst ha hb hR
   refine aa (MX hG [row.take k,[d],row.drop (k+1)] (by simp) (by unfold total;simp;omega)) ?_
   refine congrArg (fun l:List ab=>some ((l,()),())) ?_
   rw[Int.toNat_natCast,List.set_eq_take_append_cons_drop,if_pos aE];simp
  exact key _ _ _ (qD row k) (w5 row (by omega)) rfl
 ·have h1:=tN.2 ho
  rw[if_neg (fun h=>ho h.1)]
  exact ae (decide_eq_true h1) (aa (Bz hG row (by omega)) rfl)
theorem VT(hG:HG G)(row:List ab)(d:ab)(hl:row.length≤100000000):FX G 140 Bn ((row,d,()),())=some (Oj (iB row d (row.length-1)),()):=by
 refine aJ (fn:=Tryz.f140) (hG _ _ rfl) (by kernel_rfl) (by kernel_rfl) ((UQ _ _ _).trans ?_)
 have key:FX G 167 yH ((row,(d,((IntKind.wrap .i64 (((row.length:Nat):Int)-1)),()))),())=some (Oj (iB row d (row.length-1)),()):=by
  refine aJ (fn:=Tryz.f167) (hG _ _ rfl) (by kernel_rfl) (by kernel_rfl) ((QE _ _ _).trans ?_)
  refine aa (zi (hG _ _ rfl) row d (by omega)) ?_
  unfold iB
  by_cases hd:d∈row
  ·rw[if_pos hd]
   obtain⟨k,h1,h2,h3⟩:=kZ hd
   have aE:=(List.getElem?_eq_some_iff.1 h2).1
   refine af (decide_eq_false (show ¬idx d row 0<0 by omega)) ?_
   refine af (MJ hd) ?_
   have hw:IntKind.wrap .i64 (((row.length:Nat):Int)-1)=((row.length-1:Nat):Int):=by rw[wrap_small (by omega) (by omega)];omega
   have O4:IntKind.wrap .i64 (idx d row 0+IntKind.wrap .i64 (((row.length:Nat):Int)-1))=((k+(row.length-1):Nat):Int):=by
    rw[hw,h1,wrap_small (by omega) (by omega)];rfl
   have R6:(k+(row.length-1))%row.length<row.length:=Nat.mod_lt _ (by omega)
   have hx:=List.getElem?_eq_getElem R6
   refine aa (show cQ row (Int.tmod (IntKind.wrap .i64 (idx d row 0+IntKind.wrap .i64 (((row.length:Nat):Int)-1))) ((row.length:Nat):Int))=some row[(k+(row.length-1))%row.length] by rw[O4,EJ];exact bN hx) ?_
   rw[h1,Int.toNat_natCast,hx];rfl
  ·rw[if_neg hd]
   exact ae (decide_eq_true (tN.2 hd)) rfl
 refine aa key ?_
 rfl
end Go.Vs
