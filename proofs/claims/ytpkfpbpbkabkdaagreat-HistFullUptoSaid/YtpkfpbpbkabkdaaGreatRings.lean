/- What the program computes at edges and rings, written plainly. -/
import Derived.Test.YtpkfpbpbkabkdaaGreatPlaces
set_option linter.unusedVariables false
set_option linter.unusedSimpArgs false
namespace Go.Vs
open Go.Proofs
variable {G:(f:FuncId)→(g:aK)→Option (g.A→Option g.B)}
theorem get_at{s:ByteArray}{i:Nat}{c:UInt8}(h:s.data.toList[i]? = some c):s.get! i=c:=by
 have hi:i<s.data.size:=by have:=(List.getElem?_eq_some_iff.1 h).1;simpa using this
 have h2:=(List.getElem?_eq_some_iff.1 h).2
 show s.data[i]! = c
 rw[getElem!_pos s.data i hi,←h2];simp
theorem Ke{s:ByteArray}{i:Nat}(h:(s.get! i).toNat<128):Utf8.decode s i=((s.get! i).toNat,1):=by
 unfold Utf8.decode
 simp only[Nat.add_zero]
 rw[if_pos h]
theorem Kf{s:ByteArray}{i:Nat}(h:¬(s.get! i).toNat<128):128≤(Utf8.decode s i).1:=by
 unfold Utf8.decode
 simp only[Nat.add_zero]
 rw[if_neg h]
 repeat' split
 all_goals first|(simp_all only[Bool.and_eq_true,decide_eq_true_eq];omega)|decide|omega
theorem ZR(hG:G 161 uO=none)(s:ByteArray)(hs:s.size≤100000000):∀(n i:Nat),i+n=s.size →
  LX G 161 uO Tryz.f161 uP (bY Tryz.prog 161 0) ((s,()),((),((s,i),())))=some ((((s.data.toList.drop i).all rz&&decide (s.size≤16),()),()):(Bool×Unit)×Unit):=by
 have hl:s.data.toList.length=s.size:=by simp
 intro n
 induction n with
 |zero =>
  intro i hi
  refine aQ (j:=0) (by kernel_rfl) ((Mk _ _ _).trans ?_)
  refine af (decide_eq_false (show ¬(i<s.size) by omega)) ?_
  refine congrArg (fun b:Bool=>some ((b,()),())) ?_
  rw[List.drop_eq_nil_of_le (by omega),List.all_nil,Bool.true_and,Bool.eq_iff_iff];simp;omega
 |succ n ih =>
  intro i hi
  have aG:i<s.data.toList.length:=by omega
  have hx:s.data.toList[i]? = some s.data.toList[i]:=List.getElem?_eq_getElem aG
  generalize s.data.toList[i]=c at hx
  have hd:s.data.toList.drop i=c::s.data.toList.drop (i+1):=by
   rw[List.drop_eq_getElem_cons aG];rw[List.getElem?_eq_getElem aG]at hx;cases hx;rfl
  have hg:=get_at hx
  refine aQ (j:=0) (by kernel_rfl) ((Mk _ _ _).trans ?_)
  refine ae (decide_eq_true (show i<s.size by omega)) ?_
  show cond (decide (nj s i<32)) _ (cond (decide (nj s i>126)) _ (LX G 161 uO Tryz.f161 uP (bY Tryz.prog 161 0) ((s,()),((),((s,i+xl s i),())))))=_
  rw[hd,List.all_cons]
  by_cases h1:c.toNat<128
  ·have hr:Utf8.decode s i=(c.toNat,1):=by rw[Ke (by rw[hg];exact h1),hg]
   have ZS:nj s i=(c.toNat:Int):=by unfold nj;rw[hr]
   have RR:xl s i=1:=by unfold xl;rw[hr]
   rw[ZS,RR]
   by_cases h2:c.toNat<32
   ·refine ae (decide_eq_true (by omega)) ?_
    have:rz c=false:=by unfold rz;simp;omega
    rw[this];rfl
   refine af (decide_eq_false (by omega)) ?_
   by_cases h3:126<c.toNat
   ·refine ae (decide_eq_true (by omega)) ?_
    have:rz c=false:=by unfold rz;simp;omega
    rw[this];rfl
   refine af (decide_eq_false (by omega)) ?_
   have:rz c=true:=by unfold rz;simp;omega
   rw[this,Bool.true_and]
   exact ih (i+1) (by omega)
  ·have h2:=Kf (s:=s) (i:=i) (by rw[hg];exact h1)
   have ZS:128≤nj s i:=by unfold nj;omega
   refine af (decide_eq_false (by omega)) (ae (decide_eq_true (by omega)) ?_)
   have:rz c=false:=by unfold rz;simp;omega
   rw[this];rfl
theorem ZT(hG:G 161 uO=none)(s:ByteArray)(hs:s.size≤100000000):FX G 161 uO ((s,()),())=some ((EV s,()),()):=by
 refine aI (fn:=Tryz.f161) hG (by kernel_rfl) (by kernel_rfl) ((Zm _ _ _).trans ?_)
 have:=ZR hG s hs s.size 0 (by omega)
 rw[List.drop_zero]at this
 exact this
theorem ZU(hG:G 162 Ef=none)(n:Int):FX G 162 Ef ((n,()),())=some ((AJ n,()),()):=by
 refine aI (fn:=Tryz.f162) hG (by kernel_rfl) (by kernel_rfl) ((Zn _ _ _).trans ?_)
 show(cond (decide (n≥-1099511627776)) (some ((decide (n≤1099511627776),()),())) (some ((false,()),())):Option ((Bool×Unit)×Unit))=some ((AJ n,()),())
 unfold AJ
 by_cases h1 : -1099511627776≤n<;>simp[h1]
def IH(n:Int):Prop := -9223372036854775808≤n∧n<9223372036854775808
theorem He(x:BitVec 64):IntKind.wrap .i64 ((x.toNat:Nat):Int)=x.toInt:=by
 unfold IntKind.wrap
 simp only[IntKind.bits,IntKind.signed]
 have h:=x.isLt
 have h2:=BitVec.toInt_eq_toNat_cond x
 rw[h2]
 simp
 split<;>split<;>omega
theorem ofInt_toInt{n:Int}(h:IH n):(BitVec.ofInt 64 n).toInt=n:=by
 unfold IH at h
 rw[BitVec.toInt_ofInt]
 exact Int.bmod_eq_of_le (by omega) (by omega)
theorem PB{n:Int}(h:IH n):(cP .andNot .i64 n 3==(0:Int))=decide (0≤n∧n≤3):=by
 have e:cP .andNot .i64 n 3=(BitVec.ofInt 64 n &&& ~~~(BitVec.ofInt 64 3)).toInt:=by unfold cP;exact He _
 rw[e,Bool.eq_iff_iff]
 simp only[beq_iff_eq,decide_eq_true_eq]
 generalize hx:BitVec.ofInt 64 n=x
 have hn:=ofInt_toInt h
 rw[hx]at hn
 have h1:(x &&& ~~~(BitVec.ofInt 64 3)).toInt=0↔(x &&& ~~~(BitVec.ofInt 64 3))=0#64:=by
  constructor
  ·intro h;exact BitVec.eq_of_toInt_eq (by rw[h];rfl)
  ·intro h;rw[h];rfl
 rw[h1,←hn]
 constructor
 ·intro h
  have h2:x=x &&& 3#64:=by
   have h3:x=(x &&& ~~~(BitVec.ofInt 64 3)) ||| (x &&& 3#64):=by
    ext i hi
    simp only[BitVec.getElem_or,BitVec.getElem_and,BitVec.getElem_not]
    have:(BitVec.ofInt 64 3)=3#64:=rfl
    rw[this]
    cases x[i]<;>cases (3#64)[i]<;>rfl
   rw[h]at h3
   simpa using h3
  have h4:x.toNat≤3:=by
   rw[h2,BitVec.toNat_and]
   exact Nat.and_le_right
  rw[BitVec.toInt_eq_toNat_cond]
  split<;>omega
 ·intro h
  have h4:x.toNat≤3:=by
   rw[BitVec.toInt_eq_toNat_cond]at h
   have:=x.isLt
   split at h<;>omega
  have h5:x=0#64∨x=1#64∨x=2#64∨x=3#64:=by
   have:x.toNat=0∨x.toNat=1∨x.toNat=2∨x.toNat=3:=by omega
   rcases this with h|h|h|h
   ·exact .inl (BitVec.eq_of_toNat_eq (by rw[h];rfl))
   ·exact .inr (.inl (BitVec.eq_of_toNat_eq (by rw[h];rfl)))
   ·exact .inr (.inr (.inl (BitVec.eq_of_toNat_eq (by rw[h];rfl))))
   ·exact .inr (.inr (.inr (BitVec.eq_of_toNat_eq (by rw[h];rfl))))
  rcases h5 with rfl|rfl|rfl|rfl<;>decide
theorem PC{n:Int}(h:IH n):(cP .andNot .i64 n 1==(0:Int))=decide (n=0∨n=1):=by
 have e:cP .andNot .i64 n 1=(BitVec.ofInt 64 n &&& ~~~(BitVec.ofInt 64 1)).toInt:=by unfold cP;exact He _
 rw[e,Bool.eq_iff_iff]
 simp only[beq_iff_eq,decide_eq_true_eq]
 generalize hx:BitVec.ofInt 64 n=x
 have hn:=ofInt_toInt h
 rw[hx]at hn
 have h1:(x &&& ~~~(BitVec.ofInt 64 1)).toInt=0↔(x &&& ~~~(BitVec.ofInt 64 1))=0#64:=by
  constructor
  ·intro h;exact BitVec.eq_of_toInt_eq (by rw[h];rfl)
  ·intro h;rw[h];rfl
 rw[h1,←hn]
 constructor
 ·intro h
  have h2:x=x &&& 1#64:=by
   have h3:x=(x &&& ~~~(BitVec.ofInt 64 1)) ||| (x &&& 1#64):=by
    ext i hi
    simp only[BitVec.getElem_or,BitVec.getElem_and,BitVec.getElem_not]
    have:(BitVec.ofInt 64 1)=1#64:=rfl
    rw[this]
    cases x[i]<;>cases (1#64)[i]<;>rfl
   rw[h]at h3
   simpa using h3
  have h4:x.toNat≤1:=by
   rw[h2,BitVec.toNat_and]
   exact Nat.and_le_right
  rw[BitVec.toInt_eq_toNat_cond]
  split<;>omega
 ·intro h
  have h4:x.toNat≤1:=by
   rw[BitVec.toInt_eq_toNat_cond]at h
   have:=x.isLt
   split at h<;>omega
  have h5:x=0#64∨x=1#64:=by
   have:x.toNat=0∨x.toNat=1:=by omega
   rcases this with h|h
   ·exact .inl (BitVec.eq_of_toNat_eq (by rw[h];rfl))
   ·exact .inr (BitVec.eq_of_toNat_eq (by rw[h];rfl))
  rcases h5 with rfl|rfl<;>decide
theorem V8(hG:HG G)(d:ab)(h:IH d.2):FX G 190 Eh ((d,()),())=some ((Sh d,()),()):=by
 refine aI (fn:=Tryz.f190) (hG _ _ rfl) (by kernel_rfl) (by kernel_rfl) ((UF _ _ _).trans ?_)
 refine aa (Kd (hG _ _ rfl) d.1) ?_
 unfold Sh
 cases dF d.1
 ·rfl
 ·exact ae rfl (congrArg (fun b:Bool=>some ((b,()),())) (PC h))
theorem V9(hG:HG G)(c:tn)(h:IH c.2.2):FX G 160 AG ((c,()),())=some ((EW c,()),()):=by
 refine aI (fn:=Tryz.f160) (hG _ _ rfl) (by kernel_rfl) (by kernel_rfl) ((Zl _ _ _).trans ?_)
 refine aa (Kd (hG _ _ rfl) c.1) ?_
 unfold EW
 cases dF c.1
 ·rfl
 refine ae rfl ?_
 have hb:(((c.2.1.1==(0:Int))&&(c.2.1.2==(0:Int)))&&(c.2.2==(0:Int)))=decide (c.2=zD):=ES c.2 zD
 by_cases hz:c.2=zD
 ·refine ae (hb.trans (decide_eq_true hz)) ?_
  rw[decide_eq_true hz,Bool.or_true];rfl
 ·refine af (hb.trans (decide_eq_false hz)) ?_
  refine aa (V8 hG c.2 h) ?_
  rw[decide_eq_false hz,Bool.or_false];rfl
structure Fit(o:bh):Prop where
 a:IH (oA o).2.2
 b:IH (oB o).2.2
 n:IH (oN o)
 t:Sj o
def zk(o:bh):bh :=
 if o.1=6 then(o.1,(bc o,(zI,(bE o,(zC,(zC,(false,(e0,0))))))))
 else if o.1=3 then(o.1,(bc o,(zI,(zI,(oA o,(oB o,(false,(e0,0))))))))
 else if o.1=5 then(o.1,(bc o,(fC o,(bE o,(zC,(zC,(false,(e0,oN o))))))))
 else if o.1=7 then(o.1,(bc o,(zI,(zI,(zC,(zC,(uZ o,(tN o,0))))))))
 else if o.1=8 then(o.1,(bc o,(zI,(zI,(zC,(zC,(uZ o,(e0,oN o))))))))
 else(o.1,(bc o,(zI,(zI,(zC,(zC,(false,(e0,0))))))))
def CX(o:bh):Int :=
 if o.1=6 then(if dF (bc o)=true∧dF (bE o)=true then 0 else 1)
 else if o.1=3 then(if dF (bc o)=true∧EW (oA o)=true∧EW (oB o)=true then 0 else 1)
 else if o.1=5 then(if dF (bc o)=true∧dF (fC o)=true∧dF (bE o)=true∧0≤oN o∧oN o≤3 then 0 else 1)
 else if o.1=7 then(if dF (bc o)=true then(if EV (tN o)=true then 0 else 4) else 1)
 else if o.1=8 then(if dF (bc o)=true∧AJ (oN o)=true then 0 else 1)
 else if o.1=1∨o.1=2∨o.1=4 then(if dF (bc o)=true then 0 else 1)
 else 1
theorem Dk{o:bh}{k:Int}(h:o.1=k):(o.1==k)=true:=by simp[h]
theorem we{o:bh}{k:Int}(h:¬o.1=k):(o.1==k)=false:=by simp[h]
theorem ZV(hG:HG G)(o:bh)(hf:Fit o):FX G 132 Md ((o,()),())=some ((zk o,(CX o,())),()):=by
 refine aI (fn:=Tryz.f132) (hG _ _ rfl) (by kernel_rfl) (by kernel_rfl) ((Zg _ _ _).trans ?_)
 refine aa (Kd (hG _ _ rfl) (bc o)) ?_
 unfold zk CX
 by_cases h1:o.1=1
 ·refine ae (Dk h1) (ae (Dk h1) ?_)
  rw[if_neg (by omega),if_neg (by omega),if_neg (by omega),if_neg (by omega),if_neg (by omega),if_neg (by omega),if_neg (by omega),if_neg (by omega),if_neg (by omega),if_neg (by omega),if_pos (by omega)]
  cases dF (bc o)<;>rfl
 refine af (we h1) ?_
 by_cases h2:o.1=2
 ·refine ae (Dk h2) (ae (Dk h2) ?_)
  rw[if_neg (by omega),if_neg (by omega),if_neg (by omega),if_neg (by omega),if_neg (by omega),if_neg (by omega),if_neg (by omega),if_neg (by omega),if_neg (by omega),if_neg (by omega),if_pos (by omega)]
  cases dF (bc o)<;>rfl
 refine af (we h2) ?_
 by_cases h4:o.1=4
 ·refine ae (Dk h4) ?_
  rw[if_neg (by omega),if_neg (by omega),if_neg (by omega),if_neg (by omega),if_neg (by omega),if_neg (by omega),if_neg (by omega),if_neg (by omega),if_neg (by omega),if_neg (by omega),if_pos (by omega)]
  cases dF (bc o)<;>rfl
 refine af (we h4) ?_
 by_cases h6:o.1=6
 ·refine ae (Dk h6) ?_
  rw[if_pos h6,if_pos h6]
  cases dF (bc o)
  ·rfl
  refine ae rfl (aa (Kd (hG _ _ rfl) (bE o)) ?_)
  cases dF (bE o)<;>rfl
 refine af (we h6) ?_
 rw[if_neg h6,if_neg h6]
 by_cases h3:o.1=3
 ·refine ae (Dk h3) ?_
  rw[if_pos h3,if_pos h3]
  cases dF (bc o)
  ·rfl
  refine ae rfl (aa (V9 hG (oA o) hf.a) ?_)
  cases EW (oA o)
  ·rfl
  refine ae rfl (aa (V9 hG (oB o) hf.b) ?_)
  cases EW (oB o)<;>rfl
 refine af (we h3) ?_
 rw[if_neg h3,if_neg h3]
 by_cases h5:o.1=5
 ·refine ae (Dk h5) ?_
  rw[if_pos h5,if_pos h5]
  cases dF (bc o)
  ·rfl
  refine ae rfl (aa (Kd (hG _ _ rfl) (fC o)) ?_)
  cases dF (fC o)
  ·rfl
  refine ae rfl (aa (Kd (hG _ _ rfl) (bE o)) ?_)
  cases dF (bE o)
  ·rfl
  refine ae rfl (aT (PB hf.n) ?_)
  by_cases h:0≤oN o∧oN o≤3
  ·rw[decide_eq_true h,if_pos ⟨rfl,rfl,rfl,h⟩];rfl
  ·rw[decide_eq_false h,if_neg (fun k=>h k.2.2.2)];rfl
 refine af (we h5) ?_
 rw[if_neg h5,if_neg h5]
 by_cases h7:o.1=7
 ·refine ae (Dk h7) ?_
  rw[if_pos h7,if_pos h7]
  refine aa (ZT (hG _ _ rfl) (tN o) hf.t) ?_
  cases EV (tN o)<;>cases dF (bc o)<;>rfl
 refine af (we h7) ?_
 rw[if_neg h7,if_neg h7]
 by_cases h8:o.1=8
 ·refine ae (Dk h8) ?_
  rw[if_pos h8,if_pos h8]
  cases dF (bc o)
  ·rfl
  refine ae rfl (aa (ZU (hG _ _ rfl) (oN o)) ?_)
  cases AJ (oN o)<;>rfl
 refine af (we h8) ?_
 rw[if_neg h8,if_neg h8,if_neg (by omega)];rfl
theorem Kg(o:bh)(h1:1≤o.1)(h8:o.1≤8):zg (zk o) o=zg (BB o) TH:=by
 rw[Bool.eq_iff_iff,zh,zh]
 obtain⟨k,i,n,m,⟨a1,a2⟩,⟨b1,b2⟩,f,t,q⟩:=o
 simp only at h1 h8
 unfold zk BB TH
 have:k=1∨k=2∨k=3∨k=4∨k=5∨k=6∨k=7∨k=8:=by omega
 rcases this with rfl|rfl|rfl|rfl|rfl|rfl|rfl|rfl<;>simp only[Int.reduceEq,if_true,if_false]<;>constructor<;>intro h<;>simp only[zC,Prod.mk.injEq,true_and,and_true]at h ⊢<;>grind
theorem ZW(hG:HG G)(o:bh)(hf:Fit o):FX G 104 Mc ((o,()),())=some ((cz o,()),()):=by
 refine aI (fn:=Tryz.f104) (hG _ _ rfl) (by kernel_rfl) (by kernel_rfl) ((Y9 _ _ _).trans ?_)
 refine aa (ZV hG o hf) ?_
 refine aT (b:=zg (zk o) o) rfl ?_
 unfold cz
 by_cases h1:o.1<1
 ·rw[if_pos h1]
  have:CX o=1:=by unfold CX;rw[if_neg (by omega),if_neg (by omega),if_neg (by omega),if_neg (by omega),if_neg (by omega),if_neg (by omega)]
  rw[this];cases zg (zk o) o<;>rfl
 rw[if_neg h1]
 by_cases h8:8<o.1
 ·rw[if_pos h8]
  have:CX o=1:=by unfold CX;rw[if_neg (by omega),if_neg (by omega),if_neg (by omega),if_neg (by omega),if_neg (by omega),if_neg (by omega)]
  rw[this];cases zg (zk o) o<;>rfl
 rw[if_neg h8,Kg o (by omega) (by omega)]
 have hk:o.1=1∨o.1=2∨o.1=3∨o.1=4∨o.1=5∨o.1=6∨o.1=7∨o.1=8:=by omega
 by_cases hm:dF (bc o)=true
 case neg =>
  have hb:CX o=1:=by
   unfold CX
   rcases hk with h|h|h|h|h|h|h|h<;>simp[h,hm]
  rw[if_pos (by simpa using hm),hb];cases zg (BB o) TH<;>rfl
 rw[if_neg (by simp[hm])]
 cases zg (BB o) TH
 ·rw[if_pos rfl];rfl
 rw[if_neg (by simp)]
 refine af rfl ?_
 refine congrArg (fun n:Int=>some ((n,()),())) ?_
 unfold CX
 rcases hk with h|h|h|h|h|h|h|h<;>simp[h,hm]
theorem Wa(hG:HG G)(l:List bh)(hl:l.length≤1073741824)(hf:∀o∈l,Fit o):FX G 66 CG ((l,()),())=some ((du l,()),()):=by
 refine aI (fn:=Tryz.f66) (hG _ _ rfl) (by kernel_rfl) (by kernel_rfl) ((Zb _ _ _).trans ?_)
 unfold du
 by_cases h0:l.length=0
 ·refine ae (show(((l.length:Nat):Int)==0)=true by simp[h0]) ?_
  rw[if_neg (by omega)];rfl
 refine af (show(((l.length:Nat):Int)==0)=false by rw[beq_eq_false_iff_ne];omega) ?_
 by_cases h6:6<l.length
 ·refine ae (decide_eq_true (show((l.length:Nat):Int)>6 by omega)) ?_
  rw[if_neg (by omega)];rfl
 refine af (decide_eq_false (show ¬((l.length:Nat):Int)>6 by omega)) ?_
 rw[if_pos (by omega)]
 have loop:∀(n i:Nat),i+n=l.length→LX G 66 CG Tryz.f66 yO (bY Tryz.prog 66 0) ((l,(((l.length:Nat):Int),((i:Int),()))),((),()))=some ((jO (l.drop i),()),()):=by
  intro n
  induction n with
  |zero =>
   intro i hi
   refine aQ (j:=0) (by kernel_rfl) ((Mi _ _ _).trans ?_)
   refine af (decide_eq_false (show ¬((i:Int)<((l.length:Nat):Int)) by omega)) ?_
   rw[List.drop_eq_nil_of_le (by omega)];rfl
  |succ n ih =>
   intro i hi
   have aG:i<l.length:=by omega
   refine aQ (j:=0) (by kernel_rfl) ((Mi _ _ _).trans ?_)
   refine ae (cg aG) (aa (bZ (List.getElem?_eq_getElem aG)) ?_)
   refine aa (ZW hG l[i] (hf _ (List.getElem_mem aG))) ?_
   rw[List.drop_eq_getElem_cons aG,jO]
   by_cases hz:cz l[i]=0
   ·rw[if_neg (by simp[hz])]
    refine af (show(cz l[i] != 0)=false by simp[hz]) ?_
    rw[bz aG hl]
    exact ih (i+1) (by omega)
   ·rw[if_pos hz]
    exact ae (show(cz l[i] != 0)=true by simp[hz]) rfl
 have:=loop l.length 0 (by omega)
 rw[List.drop_zero]at this
 exact this
end Go.Vs
namespace Go.Vs
open Go.Proofs
variable {G:(f:FuncId)→(g:aK)→Option (g.A→Option g.B)}
theorem QY(hG:HG G)(v:aq)(x:ID):FX G 214 Bo ((v,x,()),())=some ((AI v.1 x,()),()):=by
 refine aI (fn:=Tryz.f214) (hG _ _ rfl) (by kernel_rfl) (by kernel_rfl) ((U6 _ _ _).trans ?_)
 exact aa (MO hG v.1 x) rfl
def bN(l:List aq)(x:ID):Nat:=l.countP fun v=>fU v.1 x
def cV(l:List aq):Prop:=l.Pairwise fun a b=>fU a.1 b.1=true
theorem CY(l:List aq)(x:ID):bN l x≤l.length:=List.countP_le_length
theorem qC{l:List aq}{x:ID}(h:∀v∈l,fU v.1 x=false):bN l x=0:=by
 unfold bN;rw[List.countP_eq_zero];intro v hv;simp[h v hv]
theorem u6{x:ID}:∀{l:List aq},cV l→∀(k:Nat) (v:aq),l[k]? = some v→(fU v.1 x=true↔k<bN l x)
 |[],_,k,v,h=>by simp at h
 |w::r,hs,k,v,h=>by
  have hw:∀{u:aq},u∈r→fU w.1 u.1=true:=fun {u} hu=>List.rel_of_pairwise_cons hs hu
  have hr:cV r:=hs.of_cons
  by_cases aG:fU w.1 x=true
  ·have e:bN (w::r) x=bN r x+1:=by unfold bN;rw[List.countP_cons_of_pos (by simpa using aG)]
   cases k with
   |zero=>simp at h;subst h;simp[aG,e]
   |succ k=>have:=u6 (x:=x) hr k v (by simpa using h);rw[this,e];omega
  ·have hn:∀u∈w::r,fU u.1 x=false:=fun u hu=>by
    rcases List.mem_cons.1 hu with rfl|hu
    ·simpa using aG
    ·rw[Bool.eq_false_iff];intro h2;exact aG (gY (hw hu) h2)
   rw[qC hn,hn v (List.mem_of_getElem? h)]
   simp
theorem MS(hG:HG G)(l:List aq)(x:ID)(hs:cV l)(hl:l.length≤50000000):∀(n i j:Nat),j-i≤n→i≤bN l x→bN l x≤j→j≤l.length →
  LX G 215213 iz Tryz.f213 gL (bY Tryz.prog 213 0) ((l,(((l.length:Nat):Int),((i:Int),((j:Int),())))),(((x,()),()),()))=some (((((bN l x:Nat):Int),(decide ((l[bN l x]?).map (·.1)=some x),())):Int×(Bool×Unit)),()):=by
 have rM:=CY l x
 have fin:∀(i j:Nat),¬(i<j)→i≤bN l x→bN l x≤j→LX G 215213 iz Tryz.f213 gL (bY Tryz.prog 213 0) ((l,(((l.length:Nat):Int),((i:Int),((j:Int),())))),(((x,()),()),()))=some (((((bN l x:Nat):Int),(decide ((l[bN l x]?).map (·.1)=some x),())):Int×(Bool×Unit)),()):=fun i j xQ h1 h2=>by
  have hi:i=bN l x:=by omega
  subst hi
  refine aQ (j:=0) (by kernel_rfl) ((yR _ _ _).trans ?_)
  refine af (decide_eq_false (show ¬(((bN l x:Nat):Int)<(j:Int)) by omega)) ?_
  by_cases hc:bN l x<l.length
  ·have hx:l[bN l x]? = some l[bN l x]:=List.getElem?_eq_getElem hc
   refine ae (cg hc) ?_
   refine aa (bZ hx) ?_
   refine aa (QY hG l[bN l x] x) ?_
   refine congrArg (fun b:Bool=>some ((((bN l x:Nat):Int),(b,())),())) ?_
   rw[hx]
   unfold AI
   by_cases he:l[bN l x].1=x
   ·simp[he]
   ·simp[he];split<;>simp
  ·refine af (decide_eq_false (show ¬(((bN l x:Nat):Int)<((l.length:Nat):Int)) by omega)) ?_
   refine congrArg (fun b:Bool=>some ((((bN l x:Nat):Int),(b,())),())) ?_
   rw[List.getElem?_eq_none (by omega)];simp
 intro n
 induction n with
 |zero=>intro i j xQ h1 h2 h3;exact fin i j (by omega) h1 h2
 |succ n ih =>
  intro i j xQ h1 h2 h3
  by_cases aG:i<j
  case neg=>exact fin i j aG h1 h2
  refine aQ (j:=0) (by kernel_rfl) ((yR _ _ _).trans ?_)
  refine ae (decide_eq_true (show((i:Int)<(j:Int)) by omega)) ?_
  refine af rfl ?_
  have hm:=Hd (i:=i) (j:=j) (by omega) (by omega)
  have hh:(i+j) / 2<l.length:=by omega
  have hx:l[(i+j) / 2]? = some l[(i+j) / 2]:=List.getElem?_eq_getElem hh
  have mH:=u6 (x:=x) hs ((i+j) / 2) _ hx
  refine aa (show dw l (IntKind.wrap .i64 (kc .u64 (IntKind.wrap .u64 (IntKind.wrap .i64 ((i:Int)+(j:Int)))) (1:Int)))=some l[(i+j) / 2] by rw[hm];exact bZ hx) ?_
  refine aa (QY hG l[(i+j) / 2] x) ?_
  by_cases ho:fU l[(i+j) / 2].1 x=true
  ·refine ae (decide_eq_true ((w6 _ _).2 ho)) ?_
   have hc:=mH.1 ho
   have hw:IntKind.wrap .i64 (IntKind.wrap .i64 (kc .u64 (IntKind.wrap .u64 (IntKind.wrap .i64 ((i:Int)+(j:Int)))) (1:Int))+1)=(((i+j) / 2+1:Nat):Int):=by
    rw[hm];exact bz hh (by omega)
   have:=ih ((i+j) / 2+1) j (by omega) (by omega) h2 h3
   rw[←hw]at this
   exact this
  ·refine af (decide_eq_false (fun h=>ho ((w6 _ _).1 h))) ?_
   have hc:¬(i+j) / 2<bN l x:=fun h=>ho (mH.2 h)
   have:=ih i ((i+j) / 2) (by omega) h1 (by omega) (by omega)
   rw[←hm]at this
   exact this
theorem MT(hG:HG G)(l:List aq)(x:ID)(hs:cV l)(hl:l.length≤50000000) :
  FX G 215213 iz ((l,x,()),())=some (((((bN l x:Nat):Int),(decide ((l[bN l x]?).map (·.1)=some x),())):Int×(Bool×Unit)),()):=by
 refine aI (fn:=Tryz.f213) (hG _ _ rfl) (by kernel_rfl) (by kernel_rfl) ((Mm _ _ _).trans ?_)
 exact MS hG l x hs hl l.length 0 l.length (by omega) (by omega) (CY l x) (Nat.le_refl _)
theorem mT(hG:HG G)(w:aB)(x:ID)(hs:cV w.2.1)(hl:w.2.1.length≤50000000) :
  FX G 182 lM ((x,()),(w,()))=some (((((bN w.2.1 x:Nat):Int),(decide ((w.2.1[bN w.2.1 x]?).map (·.1)=some x),())):Int×(Bool×Unit)),(w,())):=by
 refine aI (fn:=Tryz.f182) (hG _ _ rfl) (by kernel_rfl) (by kernel_rfl) ((UL _ _ _).trans ?_)
 exact aa (MT hG w.2.1 x hs hl) rfl
theorem u7{x:ID}:∀{l:List aq},cV l→aO l x=(l[bN l x]?).filter fun v=>decide (v.1=x)
 |[],_=>rfl
 |w::r,hs=>by
  have hw:∀{u:aq},u∈r→fU w.1 u.1=true:=fun {u} hu=>List.rel_of_pairwise_cons hs hu
  have hr:cV r:=hs.of_cons
  by_cases aG:fU w.1 x=true
  ·have e:bN (w::r) x=bN r x+1:=by unfold bN;rw[List.countP_cons_of_pos (by simpa using aG)]
   have aU:¬w.1=x:=fun e=>by rw[e,bQ]at aG;cases aG
   rw[e]
   simp only[aO,List.find?_cons,aU,decide_false,List.getElem?_cons_succ]
   exact u7 hr
  ·have hn:∀u∈w::r,fU u.1 x=false:=fun u hu=>by
    rcases List.mem_cons.1 hu with rfl|hu
    ·simpa using aG
    ·rw[Bool.eq_false_iff];intro h2;exact aG (gY (hw hu) h2)
   rw[qC hn]
   by_cases he:w.1=x
   ·simp[aO,List.find?_cons,he,Option.filter]
   ·have CA:fU x w.1=true:=ky (by simpa using aG) he
    have:aO r x=none:=by
     unfold aO;rw[List.find?_eq_none];intro u hu h2
     have h3:u.1=x:=by simpa using h2
     have h4:=hw hu
     rw[h3]at h4
     have:=kx h4
     rw[CA]at this;cases this
    rw[show aO (w::r) x=aO r x by simp only[aO,List.find?_cons,he,decide_false],this]
    simp[he,Option.filter]
theorem cS{l:List aq}{x:ID}(hs:cV l):decide ((l[bN l x]?).map (·.1)=some x)=(aO l x).isSome:=by
 rw[u7 hs]
 cases h:l[bN l x]? with
 |none=>simp
 |some v=>by_cases he:v.1=x<;>simp[he,Option.filter]
theorem E0(v:aq):∀{l:List aq},cV l→aO l v.1=none→eU v l=l.take (bN l v.1)++(v::l.drop (bN l v.1))
 |[],_,_=>rfl
 |w::r,hs,hf=>by
  have hw:∀{u:aq},u∈r→fU w.1 u.1=true:=fun {u} hu=>List.rel_of_pairwise_cons hs hu
  have hr:cV r:=hs.of_cons
  have aU:¬w.1=v.1:=fun e=>by simp[aO,e]at hf
  have Bi:aO r v.1=none:=by simpa[aO,List.find?_cons,aU] using hf
  by_cases aG:fU w.1 v.1=true
  ·have e:bN (w::r) v.1=bN r v.1+1:=by unfold bN;rw[List.countP_cons_of_pos (by simpa using aG)]
   have Qv:fU v.1 w.1=false:=kx aG
   rw[e,eU,if_neg (by simp[Qv]),E0 v hr Bi]
   rfl
  ·have hn:∀u∈w::r,fU u.1 v.1=false:=fun u hu=>by
    rcases List.mem_cons.1 hu with rfl|hu
    ·simpa using aG
    ·rw[Bool.eq_false_iff];intro h2;exact aG (gY (hw hu) h2)
   have CA:fU v.1 w.1=true:=ky (by simpa using aG) aU
   rw[qC hn,eU,if_pos CA];rfl
theorem u9{x:ID}:∀{l:List aq},cV l→(aO l x).isSome=true→dK l x=l.take (bN l x)++l.drop (bN l x+1)
 |[],_,hf=>by simp[aO]at hf
 |w::r,hs,hf=>by
  have hw:∀{u:aq},u∈r→fU w.1 u.1=true:=fun {u} hu=>List.rel_of_pairwise_cons hs hu
  have hr:cV r:=hs.of_cons
  by_cases he:w.1=x
  ·have hn:∀u∈w::r,fU u.1 x=false:=fun u hu=>by
    rcases List.mem_cons.1 hu with rfl|hu
    ·rw[he,bQ]
    ·rw[←he];exact kx (hw hu)
   have eu:dK r x=r:=by
    unfold dK;rw[List.filter_eq_self];intro u hu
    have h4:=hw hu
    simp;intro e2;rw[he,e2,bQ]at h4;cases h4
   rw[qC hn]
   unfold dK
   rw[List.filter_cons_of_neg (by simp[he])]
   exact eu
  ·have Bi:(aO r x).isSome=true:=by simpa[aO,List.find?_cons,he] using hf
   have aG:fU w.1 x=true:=by
    obtain⟨u,hu⟩:=Option.isSome_iff_exists.1 Bi
    have h1:=List.mem_of_find?_eq_some hu
    have h2:u.1=x:=by simpa using List.find?_some hu
    rw[←h2];exact hw h1
   have e:bN (w::r) x=bN r x+1:=by unfold bN;rw[List.countP_cons_of_pos (by simpa using aG)]
   rw[e]
   have:=u9 hr Bi
   simp[dK,List.filter_cons,he]at this ⊢
   exact this
theorem vc(v:aq):∀{l:List aq},cV l→aO l v.1=none→cV (eU v l)
 |[],_,_=>List.pairwise_singleton _ _
 |w::r,hs,hf=>by
  have hw:∀{u:aq},u∈r→fU w.1 u.1=true:=fun {u} hu=>List.rel_of_pairwise_cons hs hu
  have hr:cV r:=hs.of_cons
  have aU:¬w.1=v.1:=fun e=>by simp[aO,e]at hf
  have Bi:aO r v.1=none:=by simpa[aO,List.find?_cons,aU] using hf
  unfold eU
  split
  ·rename_i h
   refine List.Pairwise.cons (fun u hu=>?_) hs
   rcases List.mem_cons.1 hu with rfl|hu
   ·exact h
   ·exact gY h (hw hu)
  ·rename_i h
   have aG:fU w.1 v.1=true:=ky (by simpa using h) (fun e=>aU e.symm)
   refine List.Pairwise.cons (fun u hu=>?_) (vc v hr Bi)
   rcases mP.1 hu with rfl|hu
   ·exact aG
   ·exact hw hu
theorem sq{l:List aq}{x:ID}(hs:cV l):cV (dK l x):=hs.filter _
theorem cO{l:List ah}{x:ID}{v:ah}(hs:bM l)(h:aM l x=some v):l[bj l x]? = some v:=by
 have jQ:=qB (x:=x) hs
 rw[h]at jQ
 cases hg:l[bj l x]? with
 |none=>rw[hg]at jQ;simp[Option.filter]at jQ
 |some u =>
  rw[hg]at jQ
  simp only[Option.filter]at jQ
  split at jQ
  ·exact jQ.symm
  ·cases jQ
theorem jR{l:List ah}{x:ID}{v:ah}(h:aM l x=some v):v.1=x:=by simpa using List.find?_some h
theorem fM{l:List ah}{x:ID}{v:ah}(h:aM l x=some v):v∈l:=List.mem_of_find?_eq_some h
theorem jk{l:List ah}{x:ID}{k:Nat}{u:ah}(hs:bM l)(hk:l[k]? = some u)(hu:u.1=x):k=bj l x:=by
 have h1:¬k<bj l x:=fun h=>by
  have:=(u4 hs k u hk).2 h
  rw[hu,bQ]at this;cases this
 have hf:(aM l x).isSome=true:=by
  unfold aM;rw[List.find?_isSome];exact⟨u,List.mem_of_getElem? hk,by simp[hu]⟩
 obtain⟨v,hv⟩:=Option.isSome_iff_exists.1 hf
 have hg:=cO hs hv
 by_cases h2:bj l x<k
 ·obtain⟨h3,h4⟩:=List.getElem?_eq_some_iff.1 hg
  obtain⟨h5,h6⟩:=List.getElem?_eq_some_iff.1 hk
  have:=List.pairwise_iff_getElem.1 hs _ _ h3 h5 h2
  rw[h4,h6,jR hv,hu,bQ]at this;cases this
 ·omega
theorem E1{l:List ah}{x:ID}{v:ah}(hs:bM l)(h:aM l x=some v)(g f:ah→ah)(h1:∀w,w.1=x→g w=f w)(h2:∀w,w.1≠x→g w=w):l.map g=l.set (bj l x) (f v):=by
 have hg:=cO hs h
 apply List.ext_getElem?
 intro k
 rw[List.getElem?_map,List.getElem?_set]
 by_cases hk:bj l x=k
 ·subst hk
  rw[if_pos rfl,if_pos (List.getElem?_eq_some_iff.1 hg).1,hg]
  simp[h1 v (jR h)]
 ·rw[if_neg hk]
  cases hu:l[k]? with
  |none=>rfl
  |some u =>
   have:u.1≠x:=fun e=>hk (jk hs hu e).symm
   simp[h2 u this]
theorem lk{l:List aq}{x:ID}{v:aq}(hs:cV l)(h:aO l x=some v):l[bN l x]? = some v:=by
 have jQ:=u7 (x:=x) hs
 rw[h]at jQ
 cases hg:l[bN l x]? with
 |none=>rw[hg]at jQ;simp[Option.filter]at jQ
 |some u =>
  rw[hg]at jQ
  simp only[Option.filter]at jQ
  split at jQ
  ·exact jQ.symm
  ·cases jQ
theorem tO{l:List aq}{x:ID}{v:aq}(h:aO l x=some v):v.1=x:=by simpa using List.find?_some h
theorem Kh{l:List aq}{x:ID}{v:aq}(h:aO l x=some v):v∈l:=List.mem_of_find?_eq_some h
theorem Ki{l:List aq}{x:ID}{k:Nat}{u:aq}(hs:cV l)(hk:l[k]? = some u)(hu:u.1=x):k=bN l x:=by
 have h1:¬k<bN l x:=fun h=>by
  have:=(u6 hs k u hk).2 h
  rw[hu,bQ]at this;cases this
 have hf:(aO l x).isSome=true:=by
  unfold aO;rw[List.find?_isSome];exact⟨u,List.mem_of_getElem? hk,by simp[hu]⟩
 obtain⟨v,hv⟩:=Option.isSome_iff_exists.1 hf
 have hg:=lk hs hv
 by_cases h2:bN l x<k
 ·obtain⟨h3,h4⟩:=List.getElem?_eq_some_iff.1 hg
  obtain⟨h5,h6⟩:=List.getElem?_eq_some_iff.1 hk
  have:=List.pairwise_iff_getElem.1 hs _ _ h3 h5 h2
  rw[h4,h6,tO hv,hu,bQ]at this;cases this
 ·omega
theorem MU{l:List aq}{x:ID}{v:aq}(hs:cV l)(h:aO l x=some v)(g f:aq→aq)(h1:∀w,w.1=x→g w=f w)(h2:∀w,w.1≠x→g w=w):l.map g=l.set (bN l x) (f v):=by
 have hg:=lk hs h
 apply List.ext_getElem?
 intro k
 rw[List.getElem?_map,List.getElem?_set]
 by_cases hk:bN l x=k
 ·subst hk
  rw[if_pos rfl,if_pos (List.getElem?_eq_some_iff.1 hg).1,hg]
  simp[h1 v (tO h)]
 ·rw[if_neg hk]
  cases hu:l[k]? with
  |none=>rfl
  |some u =>
   have:u.1≠x:=fun e=>hk (Ki hs hu e).symm
   simp[h2 u this]
theorem cV.map{l:List aq}(h:cV l){f:aq→aq}(hf:∀v,(f v).1=v.1):cV (l.map f):=by
 unfold cV at h ⊢
 rw[List.pairwise_map]
 exact h.imp fun {a b} Ai=>by rw[hf,hf];exact Ai
end Go.Vs
namespace Go.Vs
open Go.Proofs
variable {G:(f:FuncId)→(g:aK)→Option (g.A→Option g.B)}
theorem rC{α R:Type}{o:Option α}{a r:Option R}{f:α→Option R}{p:α}(h:o=some p)(k:f p=r):oT o a f=r:=by subst h;exact k
theorem II{α R:Type}{o:Option α}{a r:Option R}{f:α→Option R}(h:o=none)(k:a=r):oT o a f=r:=by subst h;exact k
def rD(w:aB)(x:ID):Int×aB :=
 if(aO w.2.1 x).isSome=true then(12,w) else if 40≤w.2.1.length then(3,w) else(0,(w.1,(eU (x,(e0,0)) w.2.1,w.2.2)))
theorem QZ(hG:HG G)(w:aB)(x:ID)(hs:cV w.2.1)(hl:w.2.1.length≤50000000):FX G 178 vX ((x,()),(w,()))=some (((rD w x).1,()),((rD w x).2,())):=by
 refine aI (fn:=Tryz.f178) (hG _ _ rfl) (by kernel_rfl) (by kernel_rfl) ((UH _ _ _).trans ?_)
 refine aa (mT hG w x hs hl) ?_
 unfold rD
 cases hf:(aO w.2.1 x).isSome
 ·rw[if_neg (by simp)]
  refine af ((cS hs).trans hf) ?_
  by_cases h2:40≤w.2.1.length
  ·rw[if_pos h2]
   exact ae (decide_eq_true (show((w.2.1.length:Nat):Int)≥40 by omega)) rfl
  ·rw[if_neg h2]
   refine af (decide_eq_false (show ¬((w.2.1.length:Nat):Int)≥40 by omega)) ?_
   have hc:=CY w.2.1 x
   have lq:oU w.2.1 ((bN w.2.1 x:Nat):Int) [((x,(e0,0)):aq)]=true:=by
    unfold oU
    rw[decide_eq_true (show(0:Int)≤((bN w.2.1 x:Nat):Int) by omega),decide_eq_true (show((bN w.2.1 x:Nat):Int)≤((w.2.1.length:Nat):Int) by omega)]
    rw[fits (by simp;omega)];rfl
   refine ae lq ?_
   have e:fh w.2.1 ((bN w.2.1 x:Nat):Int) [((x,(e0,0)):aq)]=eU (x,(e0,0)) w.2.1:=by
    rw[E0 (x,(e0,0)) hs (by simpa using hf)]
    unfold fh;simp
   exact congrArg (fun l:List aq=>some (((0:Int),()),((w.1,(l,w.2.2)),()))) e
 ·rw[if_pos rfl]
  exact ae ((cS hs).trans hf) rfl
def zm(w:aB)(o:bh):Option (Fin 2×Nat) :=
 if uZ o=true then(if(aO w.2.1 (bc o)).isSome=true then some (⟨1,by decide⟩,bN w.2.1 (bc o)) else none)
 else(if(aM w.1 (bc o)).isSome=true then some (⟨0,by decide⟩,bj w.1 (bc o)) else none)
theorem Wb(hG:HG G)(w:aB)(o:bh)(hv:bM w.1)(he:cV w.2.1)(Q0:w.1.length≤50000000)(hle:w.2.1.length≤50000000) :
  FX G 189 Ek ((o,()),(w,()))=some ((zm w o,(zm w o,())),(w,())):=by
 refine aI (fn:=Tryz.f189) (hG _ _ rfl) (by kernel_rfl) (by kernel_rfl) ((UT _ _ _).trans ?_)
 unfold zm
 by_cases ho:uZ o=true
 ·rw[if_pos ho]
  refine ae ho ?_
  refine aa (mT hG w (bc o) he hle) ?_
  cases hf:aO w.2.1 (bc o) with
  |none =>
   refine af ((cS he).trans (by rw[hf];rfl)) ?_
   rfl
  |some e =>
   refine ae ((cS he).trans (by rw[hf];rfl)) ?_
   have aG:=(List.getElem?_eq_some_iff.1 (lk he hf)).1
   refine ae (eV (jN _) (cg aG)) ?_
   exact ae (eV (jN _) (cg aG)) rfl
 ·rw[if_neg ho]
  refine af (by simpa using ho) ?_
  refine aa (oC hG w (bc o) hv Q0) ?_
  cases hf:aM w.1 (bc o) with
  |none =>
   refine af ((eO hv).trans (by rw[hf];rfl)) ?_
   rfl
  |some e =>
   refine ae ((eO hv).trans (by rw[hf];rfl)) ?_
   have aG:=(List.getElem?_eq_some_iff.1 (cO hv hf)).1
   refine ae (eV (jN _) (cg aG)) ?_
   exact ae (eV (jN _) (cg aG)) rfl
def sr(w:aB)(o:bh):Int×aB :=
 if uZ o=true then(if(aO w.2.1 (bc o)).isSome=true then(0,(w.1,(w.2.1.map (sj o),w.2.2))) else(13,w))
 else(if(aM w.1 (bc o)).isSome=true then(0,(w.1.map (nW o),w.2)) else(13,w))
theorem ZX(hG:HG G)(w:aB)(o:bh)(hv:bM w.1)(he:cV w.2.1)(Q0:w.1.length≤50000000)(hle:w.2.1.length≤50000000) :
  FX G 158 Mf ((o,()),(w,()))=some (((sr w o).1,()),((sr w o).2,())):=by
 refine aI (fn:=Tryz.f158) (hG _ _ rfl) (by kernel_rfl) (by kernel_rfl) ((Zq _ _ _).trans ?_)
 refine aa (Wb hG w o hv he Q0 hle) ?_
 by_cases ho:uZ o=true
 ·cases hf:aO w.2.1 (bc o) with
  |none =>
   have e1:zm w o=none:=by unfold zm;rw[if_pos ho,hf];rfl
   have e2:sr w o=(13,w):=by unfold sr;rw[if_pos ho,hf];rfl
   rw[e2]
   exact II e1 (II e1 rfl)
  |some e =>
   have e1:zm w o=some (⟨1,by decide⟩,bN w.2.1 (bc o)):=by unfold zm;rw[if_pos ho,hf];rfl
   have hm:∀f:aq→aq,(∀u,u.1=bc o→sj o u=f u)→w.2.1.map (sj o)=w.2.1.set (bN w.2.1 (bc o)) (f e):=fun f XU =>
    MU he hf (sj o) f XU (fun u hu=>by unfold sj;rw[if_neg (fun k=>hu k.2)])
   have e2:sr w o=(0,(w.1,(w.2.1.map (sj o),w.2.2))):=by unfold sr;rw[if_pos ho,hf];rfl
   rw[e2]
   refine rC e1 (af rfl (ae rfl (rC e1 (af rfl (ae rfl ?_)))))
   by_cases h7:o.1=7
   ·refine ae (Dk h7) (aa (lk he hf) ?_)
    have:=hm (fun u=>(u.1,(tN o,u.2.2))) (fun u hu=>by unfold sj;rw[if_pos ⟨ho,hu⟩,if_pos h7])
    exact congrArg (fun l:List aq=>some (((0:Int),()),((w.1,(l,w.2.2)),()))) this.symm
   ·refine af (we h7) (aa (lk he hf) ?_)
    have:=hm (fun u=>(u.1,(u.2.1,oN o))) (fun u hu=>by unfold sj;rw[if_pos ⟨ho,hu⟩,if_neg h7])
    exact congrArg (fun l:List aq=>some (((0:Int),()),((w.1,(l,w.2.2)),()))) this.symm
 ·have ma:uZ o=false:=by simpa using ho
  cases hf:aM w.1 (bc o) with
  |none =>
   have e1:zm w o=none:=by unfold zm;rw[if_neg ho,hf];rfl
   have e2:sr w o=(13,w):=by unfold sr;rw[if_neg ho,hf];rfl
   rw[e2]
   exact II e1 (II e1 rfl)
  |some e =>
   have e1:zm w o=some (⟨0,by decide⟩,bj w.1 (bc o)):=by unfold zm;rw[if_neg ho,hf];rfl
   have hm:∀f:ah→ah,(∀u,u.1=bc o→nW o u=f u)→w.1.map (nW o)=w.1.set (bj w.1 (bc o)) (f e):=fun f XU =>
    E1 hv hf (nW o) f XU (fun u hu=>by unfold nW;rw[if_neg (fun k=>hu k.2)])
   have e2:sr w o=(0,(w.1.map (nW o),w.2)):=by unfold sr;rw[if_neg ho,hf];rfl
   rw[e2]
   refine rC e1 (ae rfl (rC e1 (ae rfl ?_)))
   by_cases h7:o.1=7
   ·refine ae (Dk h7) (aa (cO hv hf) ?_)
    have:=hm (fun u=>(u.1,(u.2.1,(tN o,u.2.2.2)))) (fun u hu=>by unfold nW;rw[if_pos ⟨ma,hu⟩,if_pos h7])
    exact congrArg (fun l:List ah=>some (((0:Int),()),((l,w.2),()))) this.symm
   ·refine af (we h7) (aa (cO hv hf) ?_)
    have:=hm (fun u=>(u.1,(u.2.1,(u.2.2.1,oN o)))) (fun u hu=>by unfold nW;rw[if_pos ⟨ma,hu⟩,if_neg h7])
    exact congrArg (fun l:List ah=>some (((0:Int),()),((l,w.2),()))) this.symm
end Go.Vs
namespace Go.Vs
open Go.Proofs
variable {G:(f:FuncId)→(g:aK)→Option (g.A→Option g.B)}
theorem Q1(hG:HG G)(a b:ab):FX G 195 Bq ((a,b,()),())=some ((qT a b,()),()):=by
 refine aI (fn:=Tryz.f195) (hG _ _ rfl) (by kernel_rfl) (by kernel_rfl) ((U9 _ _ _).trans ?_)
 refine aa (MO hG a.1 b.1) ?_
 refine aa (MN hG a.2 b.2) ?_
 refine aa (QW (hG _ _ rfl) (AI a.1 b.1) (Hc a.2 b.2)) ?_
 refine congrArg (fun n:Int=>some ((n,()),())) ?_
 obtain⟨a1,a2⟩:=a
 obtain⟨b1,b2⟩:=b
 unfold qT AI Hc kj
 simp only[Prod.mk.injEq]
 by_cases h:a1=b1
 ·subst h
  simp only[if_true,bQ,Bool.false_or,true_and,decide_true,Bool.true_and]
  by_cases h1:a2<b2
  ·have:¬a2=b2:=by omega
   simp[h1,this]
  ·by_cases h2:a2>b2
   ·have:¬a2=b2:=by omega
    simp[h1,h2,this]
   ·have:a2=b2:=by omega
    simp[this]
 ·simp only[h,if_false,false_and,decide_false,Bool.false_and,Bool.or_false]
  cases fU a1 b1<;>simp
theorem Wc(hG:G 168 kW=none)(row:List ab)(d:ab)(hl:row.length≤1073741824):∀(n i:Nat),i+n=row.length →
  LX G 168 kW Tryz.f168 tB (bY Tryz.prog 168 0) ((row,(((row.length:Nat):Int),((i:Int),()))),(((d,()),()),()))=some ((idx d (row.drop i) i,()),()):=by
 intro n
 induction n with
 |zero =>
  intro i hi
  refine aQ (j:=0) (by kernel_rfl) ((Ii _ _ _).trans ?_)
  refine af (decide_eq_false (show ¬((i:Int)<((row.length:Nat):Int)) by omega)) ?_
  rw[List.drop_eq_nil_of_le (by omega)];rfl
 |succ n ih =>
  intro i hi
  have aG:i<row.length:=by omega
  refine aQ (j:=0) (by kernel_rfl) ((Ii _ _ _).trans ?_)
  refine ae (cg aG) (aa (bZ (List.getElem?_eq_getElem aG)) ?_)
  rw[List.drop_eq_getElem_cons aG,idx]
  by_cases he:row[i]=d
  ·rw[if_pos he]
   exact ae ((ES d row[i]).trans (decide_eq_true he.symm)) rfl
  ·rw[if_neg he]
   refine af ((ES d row[i]).trans (decide_eq_false fun h=>he h.symm)) ?_
   rw[bz aG hl]
   exact ih (i+1) (by omega)
theorem zn(hG:G 168 kW=none)(row:List ab)(d:ab)(hl:row.length≤1073741824):FX G 168 kW ((row,d,()),())=some ((idx d row 0,()),()):=by
 refine aI (fn:=Tryz.f168) hG (by kernel_rfl) (by kernel_rfl) ((U3 _ _ _).trans ?_)
 have:=Wc hG row d hl row.length 0 (by omega)
 rw[List.drop_zero]at this
 exact this
theorem BD(hG:HG G)(row:List ab)(d:ab)(hl:row.length≤1073741824):FX G 166 tp ((row,d,()),())=some ((decide (d∈row),()),()):=by
 refine aI (fn:=Tryz.f166) (hG _ _ rfl) (by kernel_rfl) (by kernel_rfl) ((UZ _ _ _).trans ?_)
 refine aa (zn (hG _ _ rfl) row d hl) ?_
 refine congrArg (fun b:Bool=>some ((b,()),())) ?_
 rw[Bool.eq_iff_iff]
 simp only[decide_eq_true_eq]
 have:=tM (d:=d) (row:=row)
 constructor
 ·intro h;exact Classical.byContradiction fun k=>by have:=this.2 k;omega
 ·intro h
  have h2:¬idx d row 0<0:=fun k=>this.1 k h
  omega
theorem dn(a:ab):kj a a=false:=by unfold kj;simp[bQ]
theorem fN{a b c:ab}(h:kj a b=true)(k:kj b c=true):kj a c=true:=by
 obtain⟨⟨a1,a2⟩,a3⟩:=a;obtain⟨⟨b1,b2⟩,b3⟩:=b;obtain⟨⟨c1,c2⟩,c3⟩:=c
 simp[kj,fU]at *;omega
theorem vd{a b:ab}(h:kj a b=false)(k:a≠b):kj b a=true:=by
 obtain⟨⟨a1,a2⟩,a3⟩:=a;obtain⟨⟨b1,b2⟩,b3⟩:=b
 simp[kj,fU]at *;omega
theorem CZ{a b c:ab}(h:kj a b=true)(k:kj c b=false):kj a c=true:=by
 obtain⟨⟨a1,a2⟩,a3⟩:=a;obtain⟨⟨b1,b2⟩,b3⟩:=b;obtain⟨⟨c1,c2⟩,c3⟩:=c
 simp[kj,fU]at *;omega
theorem w8(a b:ab):qT a b<0↔kj a b=true:=by
 unfold qT
 by_cases h:a=b
 ·subst h;simp[dn]
 ·rw[if_neg h];cases kj a b<;>simp
theorem n6{row:List ab}{k:Nat}(hk:k<row.length):row.getD k zD=row[k]:=by simp[List.getD,hk]
theorem ve(row:List ab):∀(r:List ab) (i k:Nat),row.drop i=r→k<row.length→k≤i→(∀j,j<i→(hj:j<row.length)→kj row[j] (row.getD k zD)=false)→(∀j,j<k→(hj:j<row.length)→kj (row.getD k zD) row[j]=true) →
  (∀j,(hj:j<row.length)→kj row[j] (row.getD (fz row r i k) zD)=false)∧(∀j,j<fz row r i k→(hj:j<row.length)→kj (row.getD (fz row r i k) zD) row[j]=true)
 |[],i,k,hr,hk,XT,h1,h2=>by
  have hi:row.length≤i:=by
   have:=congrArg List.length hr;simp at this;omega
  exact⟨fun j hj=>h1 j (by omega) hj,h2⟩
 |x::r,i,k,hr,hk,XT,h1,h2=>by
  have hi:i<row.length:=by
   have:=congrArg List.length hr;simp at this;omega
  have hx:row[i]=x:=by
   have:=List.drop_eq_getElem_cons hi;rw[hr]at this;injection this with a b;exact a.symm
  have qc:row.drop (i+1)=r:=by
   have:=List.drop_eq_getElem_cons hi;rw[hr]at this;injection this with a b;exact b.symm
  unfold fz
  split
  ·rename_i aG
   rw[w8]at aG
   refine ve row r (i+1) i qc hi (by omega) (fun j hj FQ=>?_) (fun j hj FQ=>?_)
   ·rw[n6 hi,hx]
    rcases Nat.lt_succ_iff_lt_or_eq.1 hj with hj|rfl
    ·cases hc:kj row[j] x with
     |false=>rfl
     |true=>have:=fN hc aG;rw[h1 j hj FQ]at this;cases this
    ·rw[hx,dn]
   ·rw[n6 hi,hx]
    exact CZ aG (h1 j (by omega) FQ)
  ·rename_i aG
   rw[w8]at aG
   refine ve row r (i+1) k qc hk (by omega) (fun j hj FQ=>?_) h2
   rcases Nat.lt_succ_iff_lt_or_eq.1 hj with hj|rfl
   ·exact h1 j hj FQ
   ·rw[hx];simpa using aG
theorem ss{row:List ab}(h:0<row.length):(∀j,(hj:j<row.length)→kj row[j] (row.getD (fz row row 0 0) zD)=false)∧(∀j,j<fz row row 0 0→(hj:j<row.length)→kj (row.getD (fz row row 0 0) zD) row[j]=true) :=
 ve row row 0 0 rfl h (Nat.le_refl _) (fun j hj=>by omega) (fun j hj=>by omega)
theorem Hf{d:ab}:∀{row:List ab} {k:Nat} {i:Int},row[k]? = some d→(∀j,j<k→row[j]?≠some d)→idx d row i=i+k
 |[],k,i,h,_=>by simp at h
 |e::r,0,i,h,_=>by
  simp at h;subst h;rw[idx,if_pos rfl];simp
 |e::r,k+1,i,h,hn=>by
  have h0:=hn 0 (by omega)
  rw[idx,if_neg (fun e=>h0 (by simp[e]))]
  rw[Hf (k:=k) (by simpa using h) (fun j hj=>by have:=hn (j+1) (by omega);simpa using this)]
  simp;omega
theorem MV{row:List ab}(h:0<row.length):idx (row.getD (fz row row 0 0) zD) row 0=((fz row row 0 0:Nat):Int):=by
 have hm:=nT row row 0 0 h (by omega)
 have:=Hf (d:=row.getD (fz row row 0 0) zD) (row:=row) (k:=fz row row 0 0) (i:=0) (by rw[n6 hm];exact List.getElem?_eq_getElem hm) (fun j hj he=>by
  obtain⟨h1,h2⟩:=List.getElem?_eq_some_iff.1 he
  have:=(ss h).2 j hj h1
  rw[h2,dn]at this;cases this)
 omega
theorem MW(hG:HG G)(row:List ab)(h:0<row.length)(hl:row.length≤100000000):FX G 196194 jI ((row,()),())=some ((row.getD (fz row row 0 0) zD,()),()):=by
 refine aI (fn:=Tryz.f194) (hG _ _ rfl) (by kernel_rfl) (by kernel_rfl) ((Mn _ _ _).trans ?_)
 refine af (decide_eq_false (show ¬((row.length:Nat):Int)<1 by omega)) ?_
 refine aa (bZ (i:=0) (List.getElem?_eq_getElem h)) ?_
 have loop:∀(n i k:Nat),i+n=row.length→k<row.length→LX G 196194 jI Tryz.f194 jf (bY Tryz.prog 194 0) ((row,((i:Int),())),(((zD,()),(((row.getD k zD),()),())),()))=some ((row.getD (fz row (row.drop i) i k) zD,()),()):=by
  intro n
  induction n with
  |zero =>
   intro i k hi hk
   refine aQ (j:=0) (by kernel_rfl) ((yS _ _ _).trans ?_)
   refine af (decide_eq_false (show ¬((i:Int)<((row.length:Nat):Int)) by omega)) ?_
   rw[List.drop_eq_nil_of_le (by omega)];rfl
  |succ n ih =>
   intro i k hi hk
   have aG:i<row.length:=by omega
   have hx:row[i]? = some row[i]:=List.getElem?_eq_getElem aG
   refine aQ (j:=0) (by kernel_rfl) ((yS _ _ _).trans ?_)
   refine ae (cg aG) (aa (bZ hx) ?_)
   refine aa (Q1 hG row[i] (row.getD k zD)) ?_
   rw[List.drop_eq_getElem_cons aG,fz]
   by_cases ho:qT row[i] (row.getD k zD)<0
   ·rw[if_pos ho]
    refine ae (decide_eq_true ho) (aa (bZ hx) ?_)
    have:=ih (i+1) i (by omega) aG
    rw[←bz aG (by omega),n6 aG]at this
    exact this
   ·rw[if_neg ho]
    refine af (decide_eq_false ho) ?_
    have:=ih (i+1) k (by omega) hk
    rw[←bz aG (by omega)]at this
    exact this
 have h1:=loop (row.length-1) 1 0 (by omega) h
 have h2:fz row row 0 0=fz row (row.drop 1) 1 0:=by
  cases row with
  |nil=>simp at h
  |cons x r =>
   rw[List.drop_one,List.tail_cons]
   conv=>lhs;rw[fz]
   rw[if_neg]
   show ¬qT x x<0
   unfold qT;simp
 rw[h2]
 have h3:row.getD 0 zD=row[0]:=n6 h
 rw[h3]at h1
 exact h1
def total(ls:List (List ab)):Nat:=(ls.map List.length).sum
theorem zo(a:List ab)(r:List (List ab)):total (a::r)=a.length+total r:=by unfold total;rw[List.map_cons,List.sum_cons]
theorem Q2(hG:HG G)(ls:List (List ab))(hn:ls.length≤1000)(hl:total ls≤500000000):FX G 196 mM ((ls,()),())=some ((ls.flatten,()),()):=by
 refine aI (fn:=Tryz.f196) (hG _ _ rfl) (by kernel_rfl) (by kernel_rfl) ((Va _ _ _).trans ?_)
 have We:∀(n i:Nat) (out:List ab),i+n=ls.length→out.length+total (ls.drop i)≤500000000→LX G 196 mM Tryz.f196 tD (bY Tryz.prog 196 1) ((ls,(((ls.length:Nat):Int),((i:Int),()))),((),(out,())))=some ((out++(ls.drop i).flatten,()),()):=by
  intro n
  induction n with
  |zero =>
   intro i out hi ho
   refine aQ (j:=1) (by kernel_rfl) ((Ik _ _ _).trans ?_)
   refine af (decide_eq_false (show ¬((i:Int)<((ls.length:Nat):Int)) by omega)) ?_
   rw[List.drop_eq_nil_of_le (by omega),List.flatten_nil,List.append_nil];rfl
  |succ n ih =>
   intro i out hi ho
   have aG:i<ls.length:=by omega
   rw[List.drop_eq_getElem_cons aG]at ho ⊢
   have ma:out.length+(ls[i].length+total (ls.drop (i+1)))≤500000000:=by
    have:total (ls[i]::ls.drop (i+1))=ls[i].length+total (ls.drop (i+1)):=zo _ _
    omega
   refine aQ (j:=1) (by kernel_rfl) ((Ik _ _ _).trans ?_)
   refine ae (cg aG) (aa (bZ (List.getElem?_eq_getElem aG)) ?_)
   refine ae (fits (show out.length+ls[i].length≤1073741824 by omega)) ?_
   have:=ih (i+1) (out++ls[i]) (by omega) (by rw[List.length_append];omega)
   rw[List.flatten_cons,←List.append_assoc]
   rw[←bz aG (by omega)]at this
   exact this
 have Wg:∀(n i m:Nat),i+n=ls.length→m+total (ls.drop i)=total ls→LX G 196 mM Tryz.f196 tC (bY Tryz.prog 196 0) ((ls,((m:Int),(ls,(((ls.length:Nat):Int),((i:Int),()))))),((),()))=some ((ls.flatten,()),()):=by
  intro n
  induction n with
  |zero =>
   intro i m hi hm
   refine aQ (j:=0) (by kernel_rfl) ((Ij _ _ _).trans ?_)
   refine af (decide_eq_false (show ¬((i:Int)<((ls.length:Nat):Int)) by omega)) ?_
   have hg:xq (m:Int)=true:=by
    unfold xq
    rw[decide_eq_true (show(0:Int)≤(m:Int) by omega)]
    rw[decide_eq_true (show(m:Int)≤eP by unfold eP;omega)];rfl
   refine ae hg ?_
   have:=We ls.length 0 [] (by omega) (by rw[List.drop_zero];simpa using hl)
   rw[List.drop_zero,List.nil_append]at this
   exact this
  |succ n ih =>
   intro i m hi hm
   have aG:i<ls.length:=by omega
   have OP:m+ls[i].length+total (ls.drop (i+1))=total ls:=by
    rw[List.drop_eq_getElem_cons aG]at hm
    have:total (ls[i]::ls.drop (i+1))=ls[i].length+total (ls.drop (i+1)):=zo _ _
    omega
   refine aQ (j:=0) (by kernel_rfl) ((Ij _ _ _).trans ?_)
   refine ae (cg aG) (aa (bZ (List.getElem?_eq_getElem aG)) ?_)
   have hw:IntKind.wrap .i64 ((m:Int)+((ls[i].length:Nat):Int))=((m+ls[i].length:Nat):Int):=by rw[wrap_small (by omega) (by omega)];rfl
   refine af (decide_eq_false (show ¬IntKind.wrap .i64 ((m:Int)+((ls[i].length:Nat):Int))<0 by rw[hw];omega)) ?_
   have:=ih (i+1) (m+ls[i].length) (by omega) OP
   rw[←bz aG (by omega),←hw]at this
   exact this
 exact Wg ls.length 0 0 (by omega) (by rw[List.drop_zero];omega)
theorem w9{α:Type}(xs:List α){k:Nat}(hk:k≤xs.length):cut xs (k:Int) ((xs.length:Nat):Int)=xs.drop k:=by
 unfold cut;rw[Int.toNat_natCast,Int.toNat_natCast,List.take_of_length_le (Nat.le_refl _)]
theorem qD{α:Type}(xs:List α)(k:Nat):cut xs 0 (k:Int)=xs.take k:=by
 unfold cut;rw[Int.toNat_natCast];rfl
theorem C0{n k:Nat}(h:k≤n):aN n (k:Int) ((n:Nat):Int)=true:=by unfold aN;simp;omega
theorem tP{n k:Nat}(h:k≤n):aN n 0 (k:Int)=true:=by unfold aN;simp;omega
theorem BE(hG:HG G)(row:List ab)(hl:row.length≤100000000):FX G 169 pJ ((row,()),())=some ((cM row,()),()):=by
 refine aI (fn:=Tryz.f169) (hG _ _ rfl) (by kernel_rfl) (by kernel_rfl) ((US _ _ _).trans ?_)
 by_cases h0:row.length=0
 ·refine ae (show(((row.length:Nat):Int)==0)=true by simp[h0]) ?_
  have:row=[]:=by simpa using h0
  subst this;rfl
 refine af (show(((row.length:Nat):Int)==0)=false by rw[beq_eq_false_iff_ne];omega) ?_
 have hp:0<row.length:=by omega
 have hm:=nT row row 0 0 hp (by omega)
 refine aa (MW hG row hp hl) ?_
 refine aa (zn (hG _ _ rfl) row (row.getD (fz row row 0 0) zD) (by omega)) ?_
 rw[MV hp]
 refine ae (C0 (n:=row.length) (k:=fz row row 0 0) (by omega)) (ae (tP (n:=row.length) (k:=fz row row 0 0) (by omega)) ?_)
 have key:∀a b:List ab,a=row.drop (fz row row 0 0)→b=row.take (fz row row 0 0)→((FX G 196 mM (([a,b],()),())).bind fun(y3:(((List ab)×Unit)×Unit))=>some (y3.1,()))=some ((cM row,()),()):=by
  intro a b ha hb
  subst ha hb
  refine aa (Q2 hG [row.drop (fz row row 0 0),row.take (fz row row 0 0)] (by simp) (by unfold total;simp;omega)) ?_
  unfold cM CT
  simp only[List.flatten_cons,List.flatten_nil,List.append_nil]
 exact key _ _ (w9 row (by omega)) (qD row _)
theorem MX(hG:HG G)(ls:List (List ab))(hn:ls.length≤1000)(hl:total ls≤100000000):FX G 170 mL ((ls,()),())=some ((cM ls.flatten,()),()):=by
 refine aI (fn:=Tryz.f170) (hG _ _ rfl) (by kernel_rfl) (by kernel_rfl) ((U4 _ _ _).trans ?_)
 refine aa (Q2 hG ls hn (by omega)) ?_
 have hlen:ls.flatten.length=total ls:=by unfold total;exact List.length_flatten
 exact aa (BE hG ls.flatten (by omega)) rfl
theorem MY(hG:HG G)(row:List ab)(after d:ab)(hl:row.length≤50000000):FX G 181 yF ((row,after,d,()),())=some ((oI row after d,()),()):=by
  refine aI (fn:=Tryz.f181) (hG _ _ rfl) (by kernel_rfl) (by kernel_rfl) ((UJ _ _ _).trans ?_)
  refine aa (BD hG row d (by omega)) ?_
  unfold oI
  by_cases hd:d∈row
  · rw[if_pos hd]
    exact ae (decide_eq_true hd) (aa (BE hG row (by omega)) rfl)
  rw[if_neg hd]
  refine af (decide_eq_false hd) ?_
  refine aa (zn (hG _ _ rfl) row after (by omega)) ?_
  have hr:idx after row 0<((row.length:Nat):Int)∨row.length=0∧idx after row 0 = -1:=by
    rcases qz after row 0 (by omega) with⟨h,_⟩|⟨k,h,hk,_⟩
    · by_cases h0:row.length=0
      · exact .inr ⟨h0,h⟩
      · exact .inl (by omega)
    · have:=(List.getElem?_eq_some_iff.1 hk).1
      exact .inl (by omega)
  have hm:max (idx after row 0) (0:Int)=max 0 (idx after row 0):=by omega
  have hw:IntKind.wrap .i64 (max (idx after row 0) (0:Int)+1)=(((max 0 (idx after row 0)).toNat+1:Nat):Int):=by
    rw[wrap_small (by omega) (by omega)];omega
  obtain⟨k,hk,nc,KX⟩:∃k:Nat,min (IntKind.wrap .i64 (max (idx after row 0) (0:Int)+1)) ((row.length:Nat):Int)=(k:Int)∧k≤row.length∧row.take k++(d::row.drop k)=row.take ((max 0 (idx after row 0)).toNat+1)++(d::row.drop ((max 0 (idx after row 0)).toNat+1)):=by
    rw[hw]
    by_cases h0:row.length=0
    · have:row=[]:=by simpa using h0
      subst this
      exact⟨0,by simp;omega,by simp,by simp⟩
    · exact⟨(max 0 (idx after row 0)).toNat+1,by omega,by omega,rfl⟩
  have wA:(min (IntKind.wrap .i64 ((max (idx after row 0) (0:Int):Int)+(1:Int))) (((List.length row):Nat):Int):Int)=(k:Int):=hk
  show cond (aN (List.length row) (0:Int) (min (IntKind.wrap .i64 ((max (idx after row 0) (0:Int):Int)+(1:Int))) (((List.length row):Nat):Int):Int))
    (cond (aN (List.length row) (min (IntKind.wrap .i64 ((max (idx after row 0) (0:Int):Int)+(1:Int))) (((List.length row):Nat):Int):Int) (((List.length row):Nat):Int))
     ((FX G 170 mL ((((cut row (0:Int) (min (IntKind.wrap .i64 ((max (idx after row 0) (0:Int):Int)+(1:Int))) (((List.length row):Nat):Int):Int))::([d]::((cut row (min (IntKind.wrap .i64 ((max (idx after row 0) (0:Int):Int)+(1:Int))) (((List.length row):Nat):Int):Int) (((List.length row):Nat):Int))::([]:List (List ab))))),()),())).bind fun(y4:(((List ab)×Unit)×Unit)) =>
     some (y4.1,()))
     (none))
    (none)=_
  rw[wA]
  refine ae (tP nc) (ae (C0 nc) ?_)
  have key:∀a b R:List ab,a=row.take k→b=row.drop k→R=cM (row.take k++(d::row.drop k))→((FX G 170 mL (([a,[d],b],()),())).bind fun(y3:(((List ab)×Unit)×Unit))=>some (y3.1,()))=some ((R,()),()):=by
    intro a b R ha hb hR
    subst ha hb hR
    refine aa (MX hG [row.take k,[d],row.drop k] (by simp) (by unfold total;simp;omega)) ?_
    refine congrArg (fun l:List ab=>some ((l,()),())) ?_
    simp
  exact key _ _ _ (qD row k) (w9 row nc) (by rw[KX])
theorem vf{row:List ab}{d:ab}{k:Nat}(hn:row.Nodup)(hk:row[k]? = some d):row.filter (fun e=>decide (e≠d))=row.take k++row.drop (k+1):=by
 obtain⟨h1,h2⟩:=List.getElem?_eq_some_iff.1 hk
 conv=>lhs;rw[←List.take_append_drop k row,List.drop_eq_getElem_cons h1,h2]
 have Gd:(row.take k++(d::row.drop (k+1))).Nodup:=by
  rw[←h2,←List.drop_eq_getElem_cons h1,List.take_append_drop];exact hn
 have h3:=List.nodup_append.1 Gd
 have h4:=List.nodup_cons.1 h3.2.1
 rw[List.filter_append,List.filter_cons_of_neg (by simp)]
 congr 1
 ·rw[List.filter_eq_self];intro a ha
  have:=h3.2.2 a ha d (by simp)
  simpa using this
 ·rw[List.filter_eq_self];intro a ha
  have:a≠d:=fun e=>h4.1 (e▸ha)
  simpa using this
theorem Q3(hG:HG G)(row:List ab)(d:ab)(hn:row.Nodup)(hl:row.length≤50000000):FX G 141 Ej ((row,d,()),())=some ((hY row d,()),()):=by
 refine aI (fn:=Tryz.f141) (hG _ _ rfl) (by kernel_rfl) (by kernel_rfl) ((UP _ _ _).trans ?_)
 refine aa (zn (hG _ _ rfl) row d (by omega)) ?_
 unfold hY
 by_cases hd:d∈row
 ·obtain⟨k,h1,h2,h3⟩:=k9 hd
  have aG:=(List.getElem?_eq_some_iff.1 h2).1
  rw[vf hn h2]
  show cond (decide (idx d row 0<0)) _ (cond (aN row.length 0 (idx d row 0)) (cond (aN row.length (IntKind.wrap .i64 (idx d row 0+1)) ((row.length:Nat):Int)) ((FX G 170 mL (([cut row 0 (idx d row 0),cut row (IntKind.wrap .i64 (idx d row 0+1)) ((row.length:Nat):Int)],()),())).bind fun(y3:(((List ab)×Unit)×Unit))=>some (y3.1,())) none) none)=_
  rw[h1,bz aG (by omega)]
  refine af (decide_eq_false (by omega)) (ae (tP (by omega)) (ae (C0 (by omega)) ?_))
  have key:∀a b:List ab,a=row.take k→b=row.drop (k+1)→((FX G 170 mL (([a,b],()),())).bind fun(y3:(((List ab)×Unit)×Unit))=>some (y3.1,()))=some ((cM (row.take k++row.drop (k+1)),()),()):=by
   intro a b ha hb
   subst ha hb
   refine aa (MX hG [row.take k,row.drop (k+1)] (by simp) (by unfold total;simp;omega)) ?_
   refine congrArg (fun l:List ab=>some ((l,()),())) ?_
   simp
  exact key _ _ (qD row k) (w9 row (by omega))
 ·have h1:=tM.2 hd
  refine ae (decide_eq_true h1) (aa (BE hG row (by omega)) ?_)
  refine congrArg (fun l:List ab=>some ((l,()),())) ?_
  congr 1
  symm
  rw[List.filter_eq_self];intro a ha
  have:a≠d:=fun e=>hd (e▸ha)
  simpa using this
theorem Q4(hG:HG G)(row:List ab)(da d:ab)(hl:row.length≤50000000):FX G 187 rp ((row,da,d,()),())=some ((la row da d,()),()):=by
 refine aI (fn:=Tryz.f187) (hG _ _ rfl) (by kernel_rfl) (by kernel_rfl) ((UQ _ _ _).trans ?_)
 refine aa (zn (hG _ _ rfl) row da (by omega)) ?_
 unfold la
 by_cases ho:da∈row
 ·obtain⟨k,h1,h2,h3⟩:=k9 ho
  have aG:=(List.getElem?_eq_some_iff.1 h2).1
  refine af (decide_eq_false (show ¬idx da row 0<0 by omega)) ?_
  refine aa (BD hG row d (by omega)) ?_
  by_cases hd:d∈row
  ·rw[if_neg (fun h=>h.2 hd)]
   exact ae (decide_eq_true hd) (aa (BE hG row (by omega)) rfl)
  rw[if_pos ⟨ho,hd⟩]
  refine af (decide_eq_false hd) ?_
  show cond (aN row.length 0 (idx da row 0)) (cond (aN row.length (IntKind.wrap .i64 (idx da row 0+1)) ((row.length:Nat):Int)) ((FX G 170 mL (([cut row 0 (idx da row 0),[d],cut row (IntKind.wrap .i64 (idx da row 0+1)) ((row.length:Nat):Int)],()),())).bind fun(y3:(((List ab)×Unit)×Unit))=>some (y3.1,())) none) none=_
  rw[h1,bz aG (by omega)]
  refine ae (tP (by omega)) (ae (C0 (by omega)) ?_)
  have key:∀a b R:List ab,a=row.take k→b=row.drop (k+1)→R=cM (row.set ((k:Int)).toNat d)→((FX G 170 mL (([a,[d],b],()),())).bind fun(y3:(((List ab)×Unit)×Unit))=>some (y3.1,()))=some ((R,()),()):=by
   intro a b R ha hb hR
   subst ha hb hR
   refine aa (MX hG [row.take k,[d],row.drop (k+1)] (by simp) (by unfold total;simp;omega)) ?_
   refine congrArg (fun l:List ab=>some ((l,()),())) ?_
   rw[Int.toNat_natCast,List.set_eq_take_append_cons_drop,if_pos aG];simp
  exact key _ _ _ (qD row k) (w9 row (by omega)) rfl
 ·have h1:=tM.2 ho
  rw[if_neg (fun h=>ho h.1)]
  exact ae (decide_eq_true h1) (aa (BE hG row (by omega)) rfl)
theorem Wh(hG:HG G)(row:List ab)(d:ab)(hl:row.length≤100000000):FX G 140 Bp ((row,d,()),())=some (Ol (iD row d (row.length-1)),()):=by
 refine aI (fn:=Tryz.f140) (hG _ _ rfl) (by kernel_rfl) (by kernel_rfl) ((U8 _ _ _).trans ?_)
 have key:FX G 167 yL ((row,(d,((IntKind.wrap .i64 (((row.length:Nat):Int)-1)),()))),())=some (Ol (iD row d (row.length-1)),()):=by
  refine aI (fn:=Tryz.f167) (hG _ _ rfl) (by kernel_rfl) (by kernel_rfl) ((QN _ _ _).trans ?_)
  refine aa (zn (hG _ _ rfl) row d (by omega)) ?_
  unfold iD
  by_cases hd:d∈row
  ·rw[if_pos hd]
   obtain⟨k,h1,h2,h3⟩:=k9 hd
   have aG:=(List.getElem?_eq_some_iff.1 h2).1
   refine af (decide_eq_false (show ¬idx d row 0<0 by omega)) ?_
   refine af (MK hd) ?_
   have hw:IntKind.wrap .i64 (((row.length:Nat):Int)-1)=((row.length-1:Nat):Int):=by rw[wrap_small (by omega) (by omega)];omega
   have Pb:IntKind.wrap .i64 (idx d row 0+IntKind.wrap .i64 (((row.length:Nat):Int)-1))=((k+(row.length-1):Nat):Int):=by
    rw[hw,h1,wrap_small (by omega) (by omega)];rfl
   have Sp:(k+(row.length-1))%row.length<row.length:=Nat.mod_lt _ (by omega)
   have hx:=List.getElem?_eq_getElem Sp
   refine aa (show dw row (Int.tmod (IntKind.wrap .i64 (idx d row 0+IntKind.wrap .i64 (((row.length:Nat):Int)-1))) ((row.length:Nat):Int))=some row[(k+(row.length-1))%row.length] by rw[Pb,ET];exact bZ hx) ?_
   rw[h1,Int.toNat_natCast,hx];rfl
  ·rw[if_neg hd]
   exact ae (decide_eq_true (tM.2 hd)) rfl
 refine aa key ?_
 rfl
end Go.Vs
