/- What the program computes at edges and rings, written plainly. -/
import Derived.Test.YtpldhjjpeldkaaaGreatPlaces
set_option linter.unusedVariables false
set_option linter.unusedSimpArgs false
namespace Go.Vs
open Go.Proofs
variable {G:(f:FuncId)→(g:aL)→Option (g.A→Option g.B)}
theorem get_at{s:ByteArray}{i:Nat}{c:UInt8}(h:s.data.toList[i]? = some c):s.get! i=c:=by
 have hi:i<s.data.size:=by have:=(List.getElem?_eq_some_iff.1 h).1;simpa using this
 have h2:=(List.getElem?_eq_some_iff.1 h).2
 show s.data[i]! = c
 rw [getElem!_pos s.data i hi,←h2];simp
theorem LZ{s:ByteArray}{i:Nat}(h:(s.get! i).toNat<128):Utf8.decode s i=((s.get! i).toNat,1):=by
 unfold Utf8.decode
 simp only [Nat.add_zero]
 rw [if_pos h]
theorem L0{s:ByteArray}{i:Nat}(h:¬(s.get! i).toNat<128):128≤(Utf8.decode s i).1:=by
 unfold Utf8.decode
 simp only [Nat.add_zero]
 rw [if_neg h]
 repeat' split
 all_goals first | (simp_all only [Bool.and_eq_true,decide_eq_true_eq];omega) | decide | omega
theorem aet(hG:G 88 vF=none)(s:ByteArray)(hs:s.size≤100000000):∀(n i:Nat),i+n=s.size →
  LX G 88 vF Tryz.f88 vR (aM Tryz.prog 88 0) ((s,()),((),((s,i),())))=some ((((s.data.toList.drop i).all j8&&decide (s.size≤16),()),()):(Bool×Unit)×Unit):=by
 have hl:s.data.toList.length=s.size:=by simp
 intro n
 induction n with
 | zero =>
  intro i hi
  refine ar (j:=0) (by kernel_rfl) ((O3 _ _ _).trans ?_)
  refine ag (decide_eq_false (show ¬(i<s.size) by omega)) ?_
  refine congrArg (fun b:Bool=>some ((b,()),())) ?_
  rw [List.drop_eq_nil_of_le (by omega),List.all_nil,Bool.true_and,Bool.eq_iff_iff];simp;omega
 | succ n ih =>
  intro i hi
  have aJ:i<s.data.toList.length:=by omega
  have hx:s.data.toList[i]? = some s.data.toList[i]:=List.getElem?_eq_getElem aJ
  generalize s.data.toList[i]=c at hx
  have hd:s.data.toList.drop i=c::s.data.toList.drop (i+1):=by
   rw [List.drop_eq_getElem_cons aJ];rw [List.getElem?_eq_getElem aJ] at hx;cases hx;rfl
  have hg:=get_at hx
  refine ar (j:=0) (by kernel_rfl) ((O3 _ _ _).trans ?_)
  refine af (decide_eq_true (show i<s.size by omega)) ?_
  show cond (decide (nM s i<32)) _ (cond (decide (nM s i > 126)) _ (LX G 88 vF Tryz.f88 vR (aM Tryz.prog 88 0) ((s,()),((),((s,i+yN s i),())))))=_
  rw [hd,List.all_cons]
  by_cases h1:c.toNat<128
  ·have hr:Utf8.decode s i=(c.toNat,1):=by rw [LZ (by rw [hg];exact h1),hg]
   have hr1:nM s i=(c.toNat:Int):=by unfold nM;rw [hr]
   have UA:yN s i=1:=by unfold yN;rw [hr]
   rw [hr1,UA]
   by_cases h2:c.toNat<32
   ·refine af (decide_eq_true (by omega)) ?_
    have:j8 c=false:=by unfold j8;simp;omega
    rw [this];rfl
   refine ag (decide_eq_false (by omega)) ?_
   by_cases h3:126<c.toNat
   ·refine af (decide_eq_true (by omega)) ?_
    have:j8 c=false:=by unfold j8;simp;omega
    rw [this];rfl
   refine ag (decide_eq_false (by omega)) ?_
   have:j8 c=true:=by unfold j8;simp;omega
   rw [this,Bool.true_and]
   exact ih (i+1) (by omega)
  ·have h2:=L0 (s:=s) (i:=i) (by rw [hg];exact h1)
   have hr1:128≤nM s i:=by unfold nM;omega
   refine ag (decide_eq_false (by omega)) (af (decide_eq_true (by omega)) ?_)
   have:j8 c=false:=by unfold j8;simp;omega
   rw [this];rfl
theorem aev(hG:G 88 vF=none)(s:ByteArray)(hs:s.size≤100000000):FX G 88 vF ((s,()),())=some ((qp s,()),()):=by
 refine aw (fn:=Tryz.f88) hG (by kernel_rfl) (by kernel_rfl) ((adz _ _ _).trans ?_)
 have:=aet hG s hs s.size 0 (by omega)
 rw [List.drop_zero] at this
 exact this
theorem aew(hG:G 89 F6=none)(n:Int):FX G 89 F6 ((n,()),())=some ((mG n,()),()):=by
 refine aw (fn:=Tryz.f89) hG (by kernel_rfl) (by kernel_rfl) ((adA _ _ _).trans ?_)
 show (cond (decide (n≥-1099511627776)) (some ((decide (n≤1099511627776),()),())) (some ((false,()),())):Option ((Bool×Unit)×Unit))=some ((mG n,()),())
 unfold mG
 by_cases h1 : -1099511627776≤n<;>simp [h1]
def PL(n:Int):Prop := -9223372036854775808≤n∧n<9223372036854775808
theorem PM(x:BitVec 64):IntKind.wrap .i64 ((x.toNat:Nat):Int)=x.toInt:=by
 unfold IntKind.wrap
 simp only [IntKind.bits,IntKind.signed]
 have h:=x.isLt
 have h2:=BitVec.toInt_eq_toNat_cond x
 rw [h2]
 simp
 split<;>split<;>omega
theorem ofInt_toInt{n:Int}(h:PL n):(BitVec.ofInt 64 n).toInt=n:=by
 unfold PL at h
 rw [BitVec.toInt_ofInt]
 exact Int.bmod_eq_of_le (by omega) (by omega)
theorem Se{n:Int}(h:PL n):(eF .andNot .i64 n 3==(0:Int))=decide (0≤n∧n≤3):=by
 have e:eF .andNot .i64 n 3=(BitVec.ofInt 64 n &&& ~~~(BitVec.ofInt 64 3)).toInt:=by unfold eF;exact PM _
 rw [e,Bool.eq_iff_iff]
 simp only [beq_iff_eq,decide_eq_true_eq]
 generalize hx:BitVec.ofInt 64 n=x
 have hn:=ofInt_toInt h
 rw [hx] at hn
 have h1:(x &&& ~~~(BitVec.ofInt 64 3)).toInt=0↔(x &&& ~~~(BitVec.ofInt 64 3))=0#64:=by
  constructor
  ·intro h;exact BitVec.eq_of_toInt_eq (by rw [h];rfl)
  ·intro h;rw [h];rfl
 rw [h1,←hn]
 constructor
 ·intro h
  have h2:x=x &&& 3#64:=by
   have h3:x=(x &&& ~~~(BitVec.ofInt 64 3)) ||| (x &&& 3#64):=by
    ext i hi
    simp only [BitVec.getElem_or,BitVec.getElem_and,BitVec.getElem_not]
    have:(BitVec.ofInt 64 3)=3#64:=rfl
    rw [this]
    cases x[i]<;>cases (3#64)[i]<;>rfl
   rw [h] at h3
   simpa using h3
  have h4:x.toNat≤3:=by
   rw [h2,BitVec.toNat_and]
   exact Nat.and_le_right
  rw [BitVec.toInt_eq_toNat_cond]
  split<;>omega
 ·intro h
  have h4:x.toNat≤3:=by
   rw [BitVec.toInt_eq_toNat_cond] at h
   have:=x.isLt
   split at h<;>omega
  have h5:x=0#64∨x=1#64∨x=2#64∨x=3#64:=by
   have:x.toNat=0∨x.toNat=1∨x.toNat=2∨x.toNat=3:=by omega
   rcases this with h | h | h | h
   ·exact .inl (BitVec.eq_of_toNat_eq (by rw [h];rfl))
   ·exact .inr (.inl (BitVec.eq_of_toNat_eq (by rw [h];rfl)))
   ·exact .inr (.inr (.inl (BitVec.eq_of_toNat_eq (by rw [h];rfl))))
   ·exact .inr (.inr (.inr (BitVec.eq_of_toNat_eq (by rw [h];rfl))))
  rcases h5 with rfl | rfl | rfl | rfl<;>decide
theorem Sf{n:Int}(h:PL n):(eF .andNot .i64 n 1==(0:Int))=decide (n=0∨n=1):=by
 have e:eF .andNot .i64 n 1=(BitVec.ofInt 64 n &&& ~~~(BitVec.ofInt 64 1)).toInt:=by unfold eF;exact PM _
 rw [e,Bool.eq_iff_iff]
 simp only [beq_iff_eq,decide_eq_true_eq]
 generalize hx:BitVec.ofInt 64 n=x
 have hn:=ofInt_toInt h
 rw [hx] at hn
 have h1:(x &&& ~~~(BitVec.ofInt 64 1)).toInt=0↔(x &&& ~~~(BitVec.ofInt 64 1))=0#64:=by
  constructor
  ·intro h;exact BitVec.eq_of_toInt_eq (by rw [h];rfl)
  ·intro h;rw [h];rfl
 rw [h1,←hn]
 constructor
 ·intro h
  have h2:x=x &&& 1#64:=by
   have h3:x=(x &&& ~~~(BitVec.ofInt 64 1)) ||| (x &&& 1#64):=by
    ext i hi
    simp only [BitVec.getElem_or,BitVec.getElem_and,BitVec.getElem_not]
    have:(BitVec.ofInt 64 1)=1#64:=rfl
    rw [this]
    cases x[i]<;>cases (1#64)[i]<;>rfl
   rw [h] at h3
   simpa using h3
  have h4:x.toNat≤1:=by
   rw [h2,BitVec.toNat_and]
   exact Nat.and_le_right
  rw [BitVec.toInt_eq_toNat_cond]
  split<;>omega
 ·intro h
  have h4:x.toNat≤1:=by
   rw [BitVec.toInt_eq_toNat_cond] at h
   have:=x.isLt
   split at h<;>omega
  have h5:x=0#64∨x=1#64:=by
   have:x.toNat=0∨x.toNat=1:=by omega
   rcases this with h | h
   ·exact .inl (BitVec.eq_of_toNat_eq (by rw [h];rfl))
   ·exact .inr (BitVec.eq_of_toNat_eq (by rw [h];rfl))
  rcases h5 with rfl | rfl<;>decide
theorem Ze(hG:HG G)(d:ae)(h:PL d.2):FX G 106 Gb ((d,()),())=some ((I2 d,()),()):=by
 refine aw (fn:=Tryz.f106) (hG _ _ rfl) (by kernel_rfl) (by kernel_rfl) ((XN _ _ _).trans ?_)
 refine aa (GX (hG _ _ rfl) d.1) ?_
 unfold I2
 cases cz d.1
 ·rfl
 ·exact af rfl (congrArg (fun b:Bool=>some ((b,()),())) (Sf h))
theorem Zg(hG:HG G)(c:o8)(h:PL c.2.2):FX G 87 B8 ((c,()),())=some ((xO c,()),()):=by
 refine aw (fn:=Tryz.f87) (hG _ _ rfl) (by kernel_rfl) (by kernel_rfl) ((ady _ _ _).trans ?_)
 refine aa (GX (hG _ _ rfl) c.1) ?_
 unfold xO
 cases cz c.1
 ·rfl
 refine af rfl ?_
 have hb:(((c.2.1.1==(0:Int))&&(c.2.1.2==(0:Int)))&&(c.2.2==(0:Int)))=decide (c.2=zD):=j6 c.2 zD
 by_cases hz:c.2=zD
 ·refine af (hb.trans (decide_eq_true hz)) ?_
  rw [decide_eq_true hz,Bool.or_true];rfl
 ·refine ag (hb.trans (decide_eq_false hz)) ?_
  refine aa (Ze hG c.2 h) ?_
  rw [decide_eq_false hz,Bool.or_false];rfl
structure Fit(o:bY):Prop where
 a:PL (oA o).2.2
 b:PL (oB o).2.2
 n:PL (oN o)
 t:EC o
def AY(o:bY):bY :=
 if o.1=6 then (o.1,(aY o,(zI,(ba o,(zC,(zC,(false,(e0,0))))))))
 else if o.1=3 then (o.1,(aY o,(zI,(zI,(oA o,(oB o,(false,(e0,0))))))))
 else if o.1=5 then (o.1,(aY o,(eE o,(ba o,(zC,(zC,(false,(e0,oN o))))))))
 else if o.1=7 then (o.1,(aY o,(zI,(zI,(zC,(zC,(mH o,(ns o,0))))))))
 else if o.1=8 then (o.1,(aY o,(zI,(zI,(zC,(zC,(mH o,(e0,oN o))))))))
 else (o.1,(aY o,(zI,(zI,(zC,(zC,(false,(e0,0))))))))
def EH(o:bY):Int :=
 if o.1=6 then (if cz (aY o)=true∧cz (ba o)=true then 0 else 1)
 else if o.1=3 then (if cz (aY o)=true∧xO (oA o)=true∧xO (oB o)=true then 0 else 1)
 else if o.1=5 then (if cz (aY o)=true∧cz (eE o)=true∧cz (ba o)=true∧0≤oN o∧oN o≤3 then 0 else 1)
 else if o.1=7 then (if cz (aY o)=true then (if qp (ns o)=true then 0 else 4) else 1)
 else if o.1=8 then (if cz (aY o)=true∧mG (oN o)=true then 0 else 1)
 else if o.1=1∨o.1=2∨o.1=4 then (if cz (aY o)=true then 0 else 1)
 else 1
theorem E1{o:bY}{k:Int}(h:o.1=k):(o.1==k)=true:=by simp [h]
theorem xp{o:bY}{k:Int}(h:¬o.1=k):(o.1==k)=false:=by simp [h]
theorem aex(hG:HG G)(o:bY)(hf:Fit o):FX G 65 F3 ((o,()),())=some ((AY o,(EH o,())),()):=by
 refine aw (fn:=Tryz.f65) (hG _ _ rfl) (by kernel_rfl) (by kernel_rfl) ((UL _ _ _).trans ?_)
 refine aa (GX (hG _ _ rfl) (aY o)) ?_
 unfold AY EH
 by_cases h1:o.1=1
 ·refine af (E1 h1) (af (E1 h1) ?_)
  rw [if_neg (by omega),if_neg (by omega),if_neg (by omega),if_neg (by omega),if_neg (by omega),if_neg (by omega),if_neg (by omega),if_neg (by omega),if_neg (by omega),if_neg (by omega),if_pos (by omega)]
  cases cz (aY o)<;>rfl
 refine ag (xp h1) ?_
 by_cases h2:o.1=2
 ·refine af (E1 h2) (af (E1 h2) ?_)
  rw [if_neg (by omega),if_neg (by omega),if_neg (by omega),if_neg (by omega),if_neg (by omega),if_neg (by omega),if_neg (by omega),if_neg (by omega),if_neg (by omega),if_neg (by omega),if_pos (by omega)]
  cases cz (aY o)<;>rfl
 refine ag (xp h2) ?_
 by_cases h4:o.1=4
 ·refine af (E1 h4) ?_
  rw [if_neg (by omega),if_neg (by omega),if_neg (by omega),if_neg (by omega),if_neg (by omega),if_neg (by omega),if_neg (by omega),if_neg (by omega),if_neg (by omega),if_neg (by omega),if_pos (by omega)]
  cases cz (aY o)<;>rfl
 refine ag (xp h4) ?_
 by_cases h6:o.1=6
 ·refine af (E1 h6) ?_
  rw [if_pos h6,if_pos h6]
  cases cz (aY o)
  ·rfl
  refine af rfl (aa (GX (hG _ _ rfl) (ba o)) ?_)
  cases cz (ba o)<;>rfl
 refine ag (xp h6) ?_
 rw [if_neg h6,if_neg h6]
 by_cases h3:o.1=3
 ·refine af (E1 h3) ?_
  rw [if_pos h3,if_pos h3]
  cases cz (aY o)
  ·rfl
  refine af rfl (aa (Zg hG (oA o) hf.a) ?_)
  cases xO (oA o)
  ·rfl
  refine af rfl (aa (Zg hG (oB o) hf.b) ?_)
  cases xO (oB o)<;>rfl
 refine ag (xp h3) ?_
 rw [if_neg h3,if_neg h3]
 by_cases h5:o.1=5
 ·refine af (E1 h5) ?_
  rw [if_pos h5,if_pos h5]
  cases cz (aY o)
  ·rfl
  refine af rfl (aa (GX (hG _ _ rfl) (eE o)) ?_)
  cases cz (eE o)
  ·rfl
  refine af rfl (aa (GX (hG _ _ rfl) (ba o)) ?_)
  cases cz (ba o)
  ·rfl
  refine af rfl (aN (Se hf.n) ?_)
  by_cases h:0≤oN o∧oN o≤3
  ·rw [decide_eq_true h,if_pos ⟨rfl,rfl,rfl,h⟩];rfl
  ·rw [decide_eq_false h,if_neg (fun k=>h k.2.2.2)];rfl
 refine ag (xp h5) ?_
 rw [if_neg h5,if_neg h5]
 by_cases h7:o.1=7
 ·refine af (E1 h7) ?_
  rw [if_pos h7,if_pos h7]
  refine aa (aev (hG _ _ rfl) (ns o) hf.t) ?_
  cases qp (ns o)<;>cases cz (aY o)<;>rfl
 refine ag (xp h7) ?_
 rw [if_neg h7,if_neg h7]
 by_cases h8:o.1=8
 ·refine af (E1 h8) ?_
  rw [if_pos h8,if_pos h8]
  cases cz (aY o)
  ·rfl
  refine af rfl (aa (aew (hG _ _ rfl) (oN o)) ?_)
  cases mG (oN o)<;>rfl
 refine ag (xp h8) ?_
 rw [if_neg h8,if_neg h8,if_neg (by omega)];rfl
theorem L3(o:bY)(h1:1≤o.1)(h8:o.1≤8):xQ (AY o) o=xQ (uN o) Vb:=by
 rw [Bool.eq_iff_iff,AW,AW]
 obtain ⟨k,i,n,m,⟨a1,a2⟩,⟨b1,b2⟩,f,t,q⟩:=o
 simp only at h1 h8
 unfold AY uN Vb
 have:k=1∨k=2∨k=3∨k=4∨k=5∨k=6∨k=7∨k=8:=by omega
 rcases this with rfl | rfl | rfl | rfl | rfl | rfl | rfl | rfl<;>simp only [Int.reduceEq,if_true,if_false]<;>constructor<;>intro h<;>simp only [zC,Prod.mk.injEq,true_and,and_true] at h ⊢<;>grind
theorem Zh(hG:HG G)(o:bY)(hf:Fit o):FX G 43 B6 ((o,()),())=some ((dG o,()),()):=by
 refine aw (fn:=Tryz.f43) (hG _ _ rfl) (by kernel_rfl) (by kernel_rfl) ((XC _ _ _).trans ?_)
 refine aa (aex hG o hf) ?_
 refine aN (b:=xQ (AY o) o) rfl ?_
 unfold dG
 by_cases h1:o.1<1
 ·rw [if_pos h1]
  have:EH o=1:=by unfold EH;rw [if_neg (by omega),if_neg (by omega),if_neg (by omega),if_neg (by omega),if_neg (by omega),if_neg (by omega)]
  rw [this];cases xQ (AY o) o<;>rfl
 rw [if_neg h1]
 by_cases h8:8<o.1
 ·rw [if_pos h8]
  have:EH o=1:=by unfold EH;rw [if_neg (by omega),if_neg (by omega),if_neg (by omega),if_neg (by omega),if_neg (by omega),if_neg (by omega)]
  rw [this];cases xQ (AY o) o<;>rfl
 rw [if_neg h8,L3 o (by omega) (by omega)]
 have hk:o.1=1∨o.1=2∨o.1=3∨o.1=4∨o.1=5∨o.1=6∨o.1=7∨o.1=8:=by omega
 by_cases hm:cz (aY o)=true
 case neg =>
  have hb:EH o=1:=by
   unfold EH
   rcases hk with h | h | h | h | h | h | h | h<;>simp [h,hm]
  rw [if_pos (by simpa using hm),hb];cases xQ (uN o) Vb<;>rfl
 rw [if_neg (by simp [hm])]
 cases xQ (uN o) Vb
 ·rw [if_pos rfl];rfl
 rw [if_neg (by simp)]
 refine ag rfl ?_
 refine congrArg (fun n:Int=>some ((n,()),())) ?_
 unfold EH
 rcases hk with h | h | h | h | h | h | h | h<;>simp [h,hm]
end Go.Vs
namespace Go.Vs
open Go.Proofs
variable {G:(f:FuncId)→(g:aL)→Option (g.A→Option g.B)}
theorem TO(hG:HG G)(v:ah)(x:ID):FX G 138 CR ((v,x,()),())=some ((oD v.1 x,()),()):=by
 refine aw (fn:=Tryz.f138) (hG _ _ rfl) (by kernel_rfl) (by kernel_rfl) ((Ya _ _ _).trans ?_)
 exact aa (PF hG v.1 x) rfl
def bZ(l:List ah)(x:ID):Nat:=l.countP fun v=>eU v.1 x
def c5(l:List ah):Prop:=l.Pairwise fun a b=>eU a.1 b.1=true
theorem EI(l:List ah)(x:ID):bZ l x≤l.length:=List.countP_le_length
theorem rh{l:List ah}{x:ID}(h:∀v∈l,eU v.1 x=false):bZ l x=0:=by
 unfold bZ;rw [List.countP_eq_zero];intro v hv;simp [h v hv]
theorem wc{x:ID}:∀{l:List ah},c5 l→∀(k:Nat) (v:ah),l[k]? = some v→(eU v.1 x=true↔k<bZ l x)
 | [],_,k,v,h=>by simp at h
 | w::r,hs,k,v,h=>by
  have hw:∀{u:ah},u∈r→eU w.1 u.1=true:=fun {u} hu=>List.rel_of_pairwise_cons hs hu
  have hr:c5 r:=hs.of_cons
  by_cases aJ:eU w.1 x=true
  ·have e:bZ (w::r) x=bZ r x+1:=by unfold bZ;rw [List.countP_cons_of_pos (by simpa using aJ)]
   cases k with
   | zero=>simp at h;subst h;simp [aJ,e]
   | succ k=>have:=wc (x:=x) hr k v (by simpa using h);rw [this,e];omega
  ·have hn:∀u∈w::r,eU u.1 x=false:=fun u hu=>by
    rcases List.mem_cons.1 hu with rfl | hu
    ·simpa using aJ
    ·rw [Bool.eq_false_iff];intro h2;exact aJ (fX (hw hu) h2)
   rw [rh hn,hn v (List.mem_of_getElem? h)]
   simp
theorem PN(hG:HG G)(l:List ah)(x:ID)(hs:c5 l)(hl:l.length≤50000000):∀(n i j:Nat),j - i≤n→i≤bZ l x→bZ l x≤j→j≤l.length →
  LX G 139137 iR Tryz.f137 hY (aM Tryz.prog 137 0) ((l,(((l.length:Nat):Int),((i:Int),((j:Int),())))),(((x,()),()),()))=some (((((bZ l x:Nat):Int),(decide ((l[bZ l x]?).map (·.1)=some x),())):Int×(Bool×Unit)),()):=by
 have sG:=EI l x
 have fin:∀(i j:Nat),¬(i<j)→i≤bZ l x→bZ l x≤j→LX G 139137 iR Tryz.f137 hY (aM Tryz.prog 137 0) ((l,(((l.length:Nat):Int),((i:Int),((j:Int),())))),(((x,()),()),()))=some (((((bZ l x:Nat):Int),(decide ((l[bZ l x]?).map (·.1)=some x),())):Int×(Bool×Unit)),()):=fun i j xW h1 h2=>by
  have hi:i=bZ l x:=by omega
  subst hi
  refine ar (j:=0) (by kernel_rfl) ((AI _ _ _).trans ?_)
  refine ag (decide_eq_false (show ¬(((bZ l x:Nat):Int)<(j:Int)) by omega)) ?_
  by_cases hc:bZ l x<l.length
  ·have hx:l[bZ l x]? = some l[bZ l x]:=List.getElem?_eq_getElem hc
   refine af (aT hc) ?_
   refine aa (az hx) ?_
   refine aa (TO hG l[bZ l x] x) ?_
   refine congrArg (fun b:Bool=>some ((((bZ l x:Nat):Int),(b,())),())) ?_
   rw [hx]
   unfold oD
   by_cases he:l[bZ l x].1=x
   ·simp [he]
   ·simp [he];split<;>simp
  ·refine ag (decide_eq_false (show ¬(((bZ l x:Nat):Int)<((l.length:Nat):Int)) by omega)) ?_
   refine congrArg (fun b:Bool=>some ((((bZ l x:Nat):Int),(b,())),())) ?_
   rw [List.getElem?_eq_none (by omega)];simp
 intro n
 induction n with
 | zero=>intro i j xW h1 h2 h3;exact fin i j (by omega) h1 h2
 | succ n ih =>
  intro i j xW h1 h2 h3
  by_cases aJ:i<j
  case neg=>exact fin i j aJ h1 h2
  refine ar (j:=0) (by kernel_rfl) ((AI _ _ _).trans ?_)
  refine af (decide_eq_true (show ((i:Int)<(j:Int)) by omega)) ?_
  refine ag rfl ?_
  have hm:=I6 (i:=i) (j:=j) (by omega) (by omega)
  have hh:(i+j) / 2<l.length:=by omega
  have hx:l[(i+j) / 2]? = some l[(i+j) / 2]:=List.getElem?_eq_getElem hh
  have m6:=wc (x:=x) hs ((i+j) / 2) _ hx
  refine aa (show aS l (IntKind.wrap .i64 (kx .u64 (IntKind.wrap .u64 (IntKind.wrap .i64 ((i:Int)+(j:Int)))) (1:Int)))=some l[(i+j) / 2] by rw [hm];exact az hx) ?_
  refine aa (TO hG l[(i+j) / 2] x) ?_
  by_cases ho:eU l[(i+j) / 2].1 x=true
  ·refine af (decide_eq_true ((jL _ _).2 ho)) ?_
   have hc:=m6.1 ho
   have hw:IntKind.wrap .i64 (IntKind.wrap .i64 (kx .u64 (IntKind.wrap .u64 (IntKind.wrap .i64 ((i:Int)+(j:Int)))) (1:Int))+1)=(((i+j) / 2+1:Nat):Int):=by
    rw [hm];exact aH hh (by omega)
   have:=ih ((i+j) / 2+1) j (by omega) (by omega) h2 h3
   rw [←hw] at this
   exact this
  ·refine ag (decide_eq_false (fun h=>ho ((jL _ _).1 h))) ?_
   have hc:¬(i+j) / 2<bZ l x:=fun h=>ho (m6.2 h)
   have:=ih i ((i+j) / 2) (by omega) h1 (by omega) (by omega)
   rw [←hm] at this
   exact this
theorem PO(hG:HG G)(l:List ah)(x:ID)(hs:c5 l)(hl:l.length≤50000000) :
  FX G 139137 iR ((l,x,()),())=some (((((bZ l x:Nat):Int),(decide ((l[bZ l x]?).map (·.1)=some x),())):Int×(Bool×Unit)),()):=by
 refine aw (fn:=Tryz.f137) (hG _ _ rfl) (by kernel_rfl) (by kernel_rfl) ((O7 _ _ _).trans ?_)
 exact PN hG l x hs hl l.length 0 l.length (by omega) (by omega) (EI l x) (Nat.le_refl _)
theorem nw(hG:HG G)(w:aE)(x:ID)(hs:c5 w.2.1)(hl:w.2.1.length≤50000000) :
  FX G 115 l8 ((x,()),(w,()))=some (((((bZ w.2.1 x:Nat):Int),(decide ((w.2.1[bZ w.2.1 x]?).map (·.1)=some x),())):Int×(Bool×Unit)),(w,())):=by
 refine aw (fn:=Tryz.f115) (hG _ _ rfl) (by kernel_rfl) (by kernel_rfl) ((XT _ _ _).trans ?_)
 exact aa (PO hG w.2.1 x hs hl) rfl
theorem we{x:ID}:∀{l:List ah},c5 l→aW l x=(l[bZ l x]?).filter fun v=>decide (v.1=x)
 | [],_=>rfl
 | w::r,hs=>by
  have hw:∀{u:ah},u∈r→eU w.1 u.1=true:=fun {u} hu=>List.rel_of_pairwise_cons hs hu
  have hr:c5 r:=hs.of_cons
  by_cases aJ:eU w.1 x=true
  ·have e:bZ (w::r) x=bZ r x+1:=by unfold bZ;rw [List.countP_cons_of_pos (by simpa using aJ)]
   have bj:¬w.1=x:=fun e=>by rw [e,b5] at aJ;cases aJ
   rw [e]
   simp only [aW,List.find?_cons,bj,decide_false,List.getElem?_cons_succ]
   exact we hr
  ·have hn:∀u∈w::r,eU u.1 x=false:=fun u hu=>by
    rcases List.mem_cons.1 hu with rfl | hu
    ·simpa using aJ
    ·rw [Bool.eq_false_iff];intro h2;exact aJ (fX (hw hu) h2)
   rw [rh hn]
   by_cases he:w.1=x
   ·simp [aW,List.find?_cons,he,Option.filter]
   ·have HR:eU x w.1=true:=kN (by simpa using aJ) he
    have:aW r x=none:=by
     unfold aW;rw [List.find?_eq_none];intro u hu h2
     have h3:u.1=x:=by simpa using h2
     have h4:=hw hu
     rw [h3] at h4
     have:=kM h4
     rw [HR] at this;cases this
    rw [show aW (w::r) x=aW r x by simp only [aW,List.find?_cons,he,decide_false],this]
    simp [he,Option.filter]
theorem c7{l:List ah}{x:ID}(hs:c5 l):decide ((l[bZ l x]?).map (·.1)=some x)=(aW l x).isSome:=by
 rw [we hs]
 cases h:l[bZ l x]? with
 | none=>simp
 | some v=>by_cases he:v.1=x<;>simp [he,Option.filter]
theorem GZ(v:ah):∀{l:List ah},c5 l→aW l v.1=none→dn v l=l.take (bZ l v.1)++(v::l.drop (bZ l v.1))
 | [],_,_=>rfl
 | w::r,hs,hf=>by
  have hw:∀{u:ah},u∈r→eU w.1 u.1=true:=fun {u} hu=>List.rel_of_pairwise_cons hs hu
  have hr:c5 r:=hs.of_cons
  have bj:¬w.1=v.1:=fun e=>by simp [aW,e] at hf
  have CL:aW r v.1=none:=by simpa [aW,List.find?_cons,bj] using hf
  by_cases aJ:eU w.1 v.1=true
  ·have e:bZ (w::r) v.1=bZ r v.1+1:=by unfold bZ;rw [List.countP_cons_of_pos (by simpa using aJ)]
   have QX:eU v.1 w.1=false:=kM aJ
   rw [e,dn,if_neg (by simp [QX]),GZ v hr CL]
   rfl
  ·have hn:∀u∈w::r,eU u.1 v.1=false:=fun u hu=>by
    rcases List.mem_cons.1 hu with rfl | hu
    ·simpa using aJ
    ·rw [Bool.eq_false_iff];intro h2;exact aJ (fX (hw hu) h2)
   have HR:eU v.1 w.1=true:=kN (by simpa using aJ) bj
   rw [rh hn,dn,if_pos HR];rfl
theorem wg{x:ID}:∀{l:List ah},c5 l→(aW l x).isSome=true→cP l x=l.take (bZ l x)++l.drop (bZ l x+1)
 | [],_,hf=>by simp [aW] at hf
 | w::r,hs,hf=>by
  have hw:∀{u:ah},u∈r→eU w.1 u.1=true:=fun {u} hu=>List.rel_of_pairwise_cons hs hu
  have hr:c5 r:=hs.of_cons
  by_cases he:w.1=x
  ·have hn:∀u∈w::r,eU u.1 x=false:=fun u hu=>by
    rcases List.mem_cons.1 hu with rfl | hu
    ·rw [he,b5]
    ·rw [←he];exact kM (hw hu)
   have eg:cP r x=r:=by
    unfold cP;rw [List.filter_eq_self];intro u hu
    have h4:=hw hu
    simp;intro e2;rw [he,e2,b5] at h4;cases h4
   rw [rh hn]
   unfold cP
   rw [List.filter_cons_of_neg (by simp [he])]
   exact eg
  ·have CL:(aW r x).isSome=true:=by simpa [aW,List.find?_cons,he] using hf
   have aJ:eU w.1 x=true:=by
    obtain ⟨u,hu⟩:=Option.isSome_iff_exists.1 CL
    have h1:=List.mem_of_find?_eq_some hu
    have h2:u.1=x:=by simpa using List.find?_some hu
    rw [←h2];exact hw h1
   have e:bZ (w::r) x=bZ r x+1:=by unfold bZ;rw [List.countP_cons_of_pos (by simpa using aJ)]
   rw [e]
   have:=wg hr CL
   simp [cP,List.filter_cons,he] at this ⊢
   exact this
theorem wh(v:ah):∀{l:List ah},c5 l→aW l v.1=none→c5 (dn v l)
 | [],_,_=>List.pairwise_singleton _ _
 | w::r,hs,hf=>by
  have hw:∀{u:ah},u∈r→eU w.1 u.1=true:=fun {u} hu=>List.rel_of_pairwise_cons hs hu
  have hr:c5 r:=hs.of_cons
  have bj:¬w.1=v.1:=fun e=>by simp [aW,e] at hf
  have CL:aW r v.1=none:=by simpa [aW,List.find?_cons,bj] using hf
  unfold dn
  split
  ·rename_i h
   refine List.Pairwise.cons (fun u hu => ?_) hs
   rcases List.mem_cons.1 hu with rfl | hu
   ·exact h
   ·exact fX h (hw hu)
  ·rename_i h
   have aJ:eU w.1 v.1=true:=kN (by simpa using h) (fun e=>bj e.symm)
   refine List.Pairwise.cons (fun u hu => ?_) (wh v hr CL)
   rcases uO.1 hu with rfl | hu
   ·exact aJ
   ·exact hw hu
theorem tf{l:List ah}{x:ID}(hs:c5 l):c5 (cP l x):=hs.filter _
theorem c4{l:List ai}{x:ID}{v:ai}(hs:bV l)(h:aV l x=some v):l[bD l x]? = some v:=by
 have j9:=rf (x:=x) hs
 rw [h] at j9
 cases hg:l[bD l x]? with
 | none=>rw [hg] at j9;simp [Option.filter] at j9
 | some u =>
  rw [hg] at j9
  simp only [Option.filter] at j9
  split at j9
  ·exact j9.symm
  ·cases j9
theorem kb{l:List ai}{x:ID}{v:ai}(h:aV l x=some v):v.1=x:=by simpa using List.find?_some h
theorem fY{l:List ai}{x:ID}{v:ai}(h:aV l x=some v):v∈l:=List.mem_of_find?_eq_some h
theorem jA{l:List ai}{x:ID}{k:Nat}{u:ai}(hs:bV l)(hk:l[k]? = some u)(hu:u.1=x):k=bD l x:=by
 have h1:¬k<bD l x:=fun h=>by
  have:=(wa hs k u hk).2 h
  rw [hu,b5] at this;cases this
 have hf:(aV l x).isSome=true:=by
  unfold aV;rw [List.find?_isSome];exact ⟨u,List.mem_of_getElem? hk,by simp [hu]⟩
 obtain ⟨v,hv⟩:=Option.isSome_iff_exists.1 hf
 have hg:=c4 hs hv
 by_cases h2:bD l x<k
 ·obtain ⟨h3,h4⟩:=List.getElem?_eq_some_iff.1 hg
  obtain ⟨h5,h6⟩:=List.getElem?_eq_some_iff.1 hk
  have:=List.pairwise_iff_getElem.1 hs _ _ h3 h5 h2
  rw [h4,h6,kb hv,hu,b5] at this;cases this
 ·omega
theorem G1{l:List ai}{x:ID}{v:ai}(hs:bV l)(h:aV l x=some v)(g f:ai→ai)(h1:∀w,w.1=x→g w=f w)(h2:∀w,w.1≠x→g w=w):l.map g=l.set (bD l x) (f v):=by
 have hg:=c4 hs h
 apply List.ext_getElem?
 intro k
 rw [List.getElem?_map,List.getElem?_set]
 by_cases hk:bD l x=k
 ·subst hk
  rw [if_pos rfl,if_pos (List.getElem?_eq_some_iff.1 hg).1,hg]
  simp [h1 v (kb h)]
 ·rw [if_neg hk]
  cases hu:l[k]? with
  | none=>rfl
  | some u =>
   have:u.1≠x:=fun e=>hk (jA hs hu e).symm
   simp [h2 u this]
theorem lF{l:List ah}{x:ID}{v:ah}(hs:c5 l)(h:aW l x=some v):l[bZ l x]? = some v:=by
 have j9:=we (x:=x) hs
 rw [h] at j9
 cases hg:l[bZ l x]? with
 | none=>rw [hg] at j9;simp [Option.filter] at j9
 | some u =>
  rw [hg] at j9
  simp only [Option.filter] at j9
  split at j9
  ·exact j9.symm
  ·cases j9
theorem qv{l:List ah}{x:ID}{v:ah}(h:aW l x=some v):v.1=x:=by simpa using List.find?_some h
theorem C2{l:List ah}{x:ID}{v:ah}(h:aW l x=some v):v∈l:=List.mem_of_find?_eq_some h
theorem L4{l:List ah}{x:ID}{k:Nat}{u:ah}(hs:c5 l)(hk:l[k]? = some u)(hu:u.1=x):k=bZ l x:=by
 have h1:¬k<bZ l x:=fun h=>by
  have:=(wc hs k u hk).2 h
  rw [hu,b5] at this;cases this
 have hf:(aW l x).isSome=true:=by
  unfold aW;rw [List.find?_isSome];exact ⟨u,List.mem_of_getElem? hk,by simp [hu]⟩
 obtain ⟨v,hv⟩:=Option.isSome_iff_exists.1 hf
 have hg:=lF hs hv
 by_cases h2:bZ l x<k
 ·obtain ⟨h3,h4⟩:=List.getElem?_eq_some_iff.1 hg
  obtain ⟨h5,h6⟩:=List.getElem?_eq_some_iff.1 hk
  have:=List.pairwise_iff_getElem.1 hs _ _ h3 h5 h2
  rw [h4,h6,qv hv,hu,b5] at this;cases this
 ·omega
theorem PQ{l:List ah}{x:ID}{v:ah}(hs:c5 l)(h:aW l x=some v)(g f:ah→ah)(h1:∀w,w.1=x→g w=f w)(h2:∀w,w.1≠x→g w=w):l.map g=l.set (bZ l x) (f v):=by
 have hg:=lF hs h
 apply List.ext_getElem?
 intro k
 rw [List.getElem?_map,List.getElem?_set]
 by_cases hk:bZ l x=k
 ·subst hk
  rw [if_pos rfl,if_pos (List.getElem?_eq_some_iff.1 hg).1,hg]
  simp [h1 v (qv h)]
 ·rw [if_neg hk]
  cases hu:l[k]? with
  | none=>rfl
  | some u =>
   have:u.1≠x:=fun e=>hk (L4 hs hu e).symm
   simp [h2 u this]
theorem c5.map{l:List ah}(h:c5 l){f:ah→ah}(hf:∀v,(f v).1=v.1):c5 (l.map f):=by
 unfold c5 at h ⊢
 rw [List.pairwise_map]
 exact h.imp fun {a b} r9=>by rw [hf,hf];exact r9
end Go.Vs
namespace Go.Vs
open Go.Proofs
variable {G:(f:FuncId)→(g:aL)→Option (g.A→Option g.B)}
theorem so{α R:Type}{o:Option α}{a r:Option R}{f:α→Option R}{p:α}(h:o=some p)(k:f p=r):pH o a f=r:=by subst h;exact k
theorem Ku{α R:Type}{o:Option α}{a r:Option R}{f:α→Option R}(h:o=none)(k:a=r):pH o a f=r:=by subst h;exact k
def sq(w:aE)(x:ID):Int×aE :=
 if (aW w.2.1 x).isSome=true then (12,w) else if 40≤w.2.1.length then (3,w) else (0,(w.1,(dn (x,(e0,0)) w.2.1,w.2.2)))
theorem TP(hG:HG G)(w:aE)(x:ID)(hs:c5 w.2.1)(hl:w.2.1.length≤50000000):FX G 110 xd ((x,()),(w,()))=some (((sq w x).1,()),((sq w x).2,())):=by
 refine aw (fn:=Tryz.f110) (hG _ _ rfl) (by kernel_rfl) (by kernel_rfl) ((XP _ _ _).trans ?_)
 refine aa (nw hG w x hs hl) ?_
 unfold sq
 cases hf:(aW w.2.1 x).isSome
 ·rw [if_neg (by simp)]
  refine ag ((c7 hs).trans hf) ?_
  by_cases h2:40≤w.2.1.length
  ·rw [if_pos h2]
   exact af (decide_eq_true (show ((w.2.1.length:Nat):Int)≥40 by omega)) rfl
  ·rw [if_neg h2]
   refine ag (decide_eq_false (show ¬((w.2.1.length:Nat):Int)≥40 by omega)) ?_
   have hc:=EI w.2.1 x
   have lI:pI w.2.1 ((bZ w.2.1 x:Nat):Int) [((x,(e0,0)):ah)]=true:=by
    unfold pI
    rw [decide_eq_true (show (0:Int)≤((bZ w.2.1 x:Nat):Int) by omega),decide_eq_true (show ((bZ w.2.1 x:Nat):Int)≤((w.2.1.length:Nat):Int) by omega)]
    rw [fits (by simp;omega)];rfl
   refine af lI ?_
   have e:fE w.2.1 ((bZ w.2.1 x:Nat):Int) [((x,(e0,0)):ah)]=dn (x,(e0,0)) w.2.1:=by
    rw [GZ (x,(e0,0)) hs (by simpa using hf)]
    unfold fE;simp
   exact congrArg (fun l:List ah=>some (((0:Int),()),((w.1,(l,w.2.2)),()))) e
 ·rw [if_pos rfl]
  exact af ((c7 hs).trans hf) rfl
def AZ(w:aE)(o:bY):Option (Fin 2×Nat) :=
 if mH o=true then (if (aW w.2.1 (aY o)).isSome=true then some (⟨1,by decide⟩,bZ w.2.1 (aY o)) else none)
 else (if (aV w.1 (aY o)).isSome=true then some (⟨0,by decide⟩,bD w.1 (aY o)) else none)
theorem Zi(hG:HG G)(w:aE)(o:bY)(hv:bV w.1)(he:c5 w.2.1)(MK:w.1.length≤50000000)(hle:w.2.1.length≤50000000) :
  FX G 124 Ge ((o,()),(w,()))=some ((AZ w o,(AZ w o,())),(w,())):=by
 refine aw (fn:=Tryz.f124) (hG _ _ rfl) (by kernel_rfl) (by kernel_rfl) ((X1 _ _ _).trans ?_)
 unfold AZ
 by_cases ho:mH o=true
 ·rw [if_pos ho]
  refine af ho ?_
  refine aa (nw hG w (aY o) he hle) ?_
  cases hf:aW w.2.1 (aY o) with
  | none =>
   refine ag ((c7 he).trans (by rw [hf];rfl)) ?_
   rfl
  | some e =>
   refine af ((c7 he).trans (by rw [hf];rfl)) ?_
   have aJ:=(List.getElem?_eq_some_iff.1 (lF he hf)).1
   refine af (dx (eL _) (aT aJ)) ?_
   exact af (dx (eL _) (aT aJ)) rfl
 ·rw [if_neg ho]
  refine ag (by simpa using ho) ?_
  refine aa (oZ hG w (aY o) hv MK) ?_
  cases hf:aV w.1 (aY o) with
  | none =>
   refine ag ((fh hv).trans (by rw [hf];rfl)) ?_
   rfl
  | some e =>
   refine af ((fh hv).trans (by rw [hf];rfl)) ?_
   have aJ:=(List.getElem?_eq_some_iff.1 (c4 hv hf)).1
   refine af (dx (eL _) (aT aJ)) ?_
   exact af (dx (eL _) (aT aJ)) rfl
def tg(w:aE)(o:bY):Int×aE :=
 if mH o=true then (if (aW w.2.1 (aY o)).isSome=true then (0,(w.1,(w.2.1.map (jz o),w.2.2))) else (13,w))
 else (if (aV w.1 (aY o)).isSome=true then (0,(w.1.map (iD o),w.2)) else (13,w))
theorem aey(hG:HG G)(w:aE)(o:bY)(hv:bV w.1)(he:c5 w.2.1)(MK:w.1.length≤50000000)(hle:w.2.1.length≤50000000) :
  FX G 96 Oc ((o,()),(w,()))=some (((tg w o).1,()),((tg w o).2,())):=by
 refine aw (fn:=Tryz.f96) (hG _ _ rfl) (by kernel_rfl) (by kernel_rfl) ((adD _ _ _).trans ?_)
 refine aa (Zi hG w o hv he MK hle) ?_
 by_cases ho:mH o=true
 ·cases hf:aW w.2.1 (aY o) with
  | none =>
   have e1:AZ w o=none:=by unfold AZ;rw [if_pos ho,hf];rfl
   have e2:tg w o=(13,w):=by unfold tg;rw [if_pos ho,hf];rfl
   rw [e2]
   exact Ku e1 (Ku e1 rfl)
  | some e =>
   have e1:AZ w o=some (⟨1,by decide⟩,bZ w.2.1 (aY o)):=by unfold AZ;rw [if_pos ho,hf];rfl
   have hm:∀f:ah→ah,(∀u,u.1=aY o→jz o u=f u)→w.2.1.map (jz o)=w.2.1.set (bZ w.2.1 (aY o)) (f e):=fun f hf1 =>
    PQ he hf (jz o) f hf1 (fun u hu=>by unfold jz;rw [if_neg (fun k=>hu k.2)])
   have e2:tg w o=(0,(w.1,(w.2.1.map (jz o),w.2.2))):=by unfold tg;rw [if_pos ho,hf];rfl
   rw [e2]
   refine so e1 (ag rfl (af rfl (so e1 (ag rfl (af rfl ?_)))))
   by_cases h7:o.1=7
   ·refine af (E1 h7) (aa (lF he hf) ?_)
    have:=hm (fun u=>(u.1,(ns o,u.2.2))) (fun u hu=>by unfold jz;rw [if_pos ⟨ho,hu⟩,if_pos h7])
    exact congrArg (fun l:List ah=>some (((0:Int),()),((w.1,(l,w.2.2)),()))) this.symm
   ·refine ag (xp h7) (aa (lF he hf) ?_)
    have:=hm (fun u=>(u.1,(u.2.1,oN o))) (fun u hu=>by unfold jz;rw [if_pos ⟨ho,hu⟩,if_neg h7])
    exact congrArg (fun l:List ah=>some (((0:Int),()),((w.1,(l,w.2.2)),()))) this.symm
 ·have my:mH o=false:=by simpa using ho
  cases hf:aV w.1 (aY o) with
  | none =>
   have e1:AZ w o=none:=by unfold AZ;rw [if_neg ho,hf];rfl
   have e2:tg w o=(13,w):=by unfold tg;rw [if_neg ho,hf];rfl
   rw [e2]
   exact Ku e1 (Ku e1 rfl)
  | some e =>
   have e1:AZ w o=some (⟨0,by decide⟩,bD w.1 (aY o)):=by unfold AZ;rw [if_neg ho,hf];rfl
   have hm:∀f:ai→ai,(∀u,u.1=aY o→iD o u=f u)→w.1.map (iD o)=w.1.set (bD w.1 (aY o)) (f e):=fun f hf1 =>
    G1 hv hf (iD o) f hf1 (fun u hu=>by unfold iD;rw [if_neg (fun k=>hu k.2)])
   have e2:tg w o=(0,(w.1.map (iD o),w.2)):=by unfold tg;rw [if_neg ho,hf];rfl
   rw [e2]
   refine so e1 (af rfl (so e1 (af rfl ?_)))
   by_cases h7:o.1=7
   ·refine af (E1 h7) (aa (c4 hv hf) ?_)
    have:=hm (fun u=>(u.1,(u.2.1,(ns o,u.2.2.2)))) (fun u hu=>by unfold iD;rw [if_pos ⟨my,hu⟩,if_pos h7])
    exact congrArg (fun l:List ai=>some (((0:Int),()),((l,w.2),()))) this.symm
   ·refine ag (xp h7) (aa (c4 hv hf) ?_)
    have:=hm (fun u=>(u.1,(u.2.1,(u.2.2.1,oN o)))) (fun u hu=>by unfold iD;rw [if_pos ⟨my,hu⟩,if_neg h7])
    exact congrArg (fun l:List ai=>some (((0:Int),()),((l,w.2),()))) this.symm
end Go.Vs
namespace Go.Vs
open Go.Proofs
variable {G:(f:FuncId)→(g:aL)→Option (g.A→Option g.B)}
theorem TQ(hG:HG G)(a b:ae):FX G 142 CT ((a,b,()),())=some ((lA a b,()),()):=by
 refine aw (fn:=Tryz.f142) (hG _ _ rfl) (by kernel_rfl) (by kernel_rfl) ((Yd _ _ _).trans ?_)
 refine aa (PF hG a.1 b.1) ?_
 refine aa (PE hG a.2 b.2) ?_
 refine aa (TL (hG _ _ rfl) (oD a.1 b.1) (I5 a.2 b.2)) ?_
 refine congrArg (fun n:Int=>some ((n,()),())) ?_
 obtain ⟨a1,a2⟩:=a
 obtain ⟨b1,b2⟩:=b
 unfold lA oD I5 j7
 simp only [Prod.mk.injEq]
 by_cases h:a1=b1
 ·subst h
  simp only [if_true,b5,Bool.false_or,true_and,decide_true,Bool.true_and]
  by_cases h1:a2<b2
  ·have:¬a2=b2:=by omega
   simp [h1,this]
  ·by_cases h2:a2 > b2
   ·have:¬a2=b2:=by omega
    simp [h1,h2,this]
   ·have:a2=b2:=by omega
    simp [this]
 ·simp only [h,if_false,false_and,decide_false,Bool.false_and,Bool.or_false]
  cases eU a1 b1<;>simp
theorem Zj(hG:G 134 lu=none)(row:List ae)(d:ae)(hl:row.length≤1073741824):∀(n i:Nat),i+n=row.length →
  LX G 134 lu Tryz.f134 ux (aM Tryz.prog 134 0) ((row,(((row.length:Nat):Int),((i:Int),()))),(((d,()),()),()))=some ((idx d (row.drop i) i,()),()):=by
 intro n
 induction n with
 | zero =>
  intro i hi
  refine ar (j:=0) (by kernel_rfl) ((J5 _ _ _).trans ?_)
  refine ag (decide_eq_false (show ¬((i:Int)<((row.length:Nat):Int)) by omega)) ?_
  rw [List.drop_eq_nil_of_le (by omega)];rfl
 | succ n ih =>
  intro i hi
  have aJ:i<row.length:=by omega
  refine ar (j:=0) (by kernel_rfl) ((J5 _ _ _).trans ?_)
  refine af (aT aJ) (aa (az (List.getElem?_eq_getElem aJ)) ?_)
  rw [List.drop_eq_getElem_cons aJ,idx]
  by_cases he:row[i]=d
  ·rw [if_pos he]
   exact af ((j6 d row[i]).trans (decide_eq_true he.symm)) rfl
  ·rw [if_neg he]
   refine ag ((j6 d row[i]).trans (decide_eq_false fun h=>he h.symm)) ?_
   rw [aH aJ hl]
   exact ih (i+1) (by omega)
theorem A1(hG:G 134 lu=none)(row:List ae)(d:ae)(hl:row.length≤1073741824):FX G 134 lu ((row,d,()),())=some ((idx d row 0,()),()):=by
 refine aw (fn:=Tryz.f134) hG (by kernel_rfl) (by kernel_rfl) ((X7 _ _ _).trans ?_)
 have:=Zj hG row d hl row.length 0 (by omega)
 rw [List.drop_zero] at this
 exact this
theorem C3(hG:HG G)(row:List ae)(d:ae)(hl:row.length≤1073741824):FX G 133 ui ((row,d,()),())=some ((decide (d∈row),()),()):=by
 refine aw (fn:=Tryz.f133) (hG _ _ rfl) (by kernel_rfl) (by kernel_rfl) ((X6 _ _ _).trans ?_)
 refine aa (A1 (hG _ _ rfl) row d hl) ?_
 refine congrArg (fun b:Bool=>some ((b,()),())) ?_
 rw [Bool.eq_iff_iff]
 simp only [decide_eq_true_eq]
 have:=dY (d:=d) (row:=row)
 constructor
 ·intro h;exact Classical.byContradiction fun k=>by have:=this.2 k;omega
 ·intro h
  have h2:¬idx d row 0<0:=fun k=>this.1 k h
  omega
theorem dy(a:ae):j7 a a=false:=by unfold j7;simp [b5]
theorem fi{a b c:ae}(h:j7 a b=true)(k:j7 b c=true):j7 a c=true:=by
 obtain ⟨⟨a1,a2⟩,a3⟩:=a;obtain ⟨⟨b1,b2⟩,b3⟩:=b;obtain ⟨⟨c1,c2⟩,c3⟩:=c
 simp [j7,eU] at *;omega
theorem wi{a b:ae}(h:j7 a b=false)(k:a≠b):j7 b a=true:=by
 obtain ⟨⟨a1,a2⟩,a3⟩:=a;obtain ⟨⟨b1,b2⟩,b3⟩:=b
 simp [j7,eU] at *;omega
theorem EJ{a b c:ae}(h:j7 a b=true)(k:j7 c b=false):j7 a c=true:=by
 obtain ⟨⟨a1,a2⟩,a3⟩:=a;obtain ⟨⟨b1,b2⟩,b3⟩:=b;obtain ⟨⟨c1,c2⟩,c3⟩:=c
 simp [j7,eU] at *;omega
theorem ri(a b:ae):lA a b<0↔j7 a b=true:=by
 unfold lA
 by_cases h:a=b
 ·subst h;simp [dy]
 ·rw [if_neg h];cases j7 a b<;>simp
theorem oI{row:List ae}{k:Nat}(hk:k<row.length):row.getD k zD=row[k]:=by simp [List.getD,hk]
theorem wj(row:List ae):∀(r:List ae) (i k:Nat),row.drop i=r→k<row.length→k≤i→(∀j,j<i→(hj:j<row.length)→j7 row[j] (row.getD k zD)=false)→(∀j,j<k→(hj:j<row.length)→j7 (row.getD k zD) row[j]=true) →
  (∀j,(hj:j<row.length)→j7 row[j] (row.getD (eZ row r i k) zD)=false)∧(∀j,j<eZ row r i k→(hj:j<row.length)→j7 (row.getD (eZ row r i k) zD) row[j]=true)
 | [],i,k,hr,hk,hki,h1,h2=>by
  have hi:row.length≤i:=by
   have:=congrArg List.length hr;simp at this;omega
  exact ⟨fun j hj=>h1 j (by omega) hj,h2⟩
 | x::r,i,k,hr,hk,hki,h1,h2=>by
  have hi:i<row.length:=by
   have:=congrArg List.length hr;simp at this;omega
  have hx:row[i]=x:=by
   have:=List.drop_eq_getElem_cons hi;rw [hr] at this;injection this with a b;exact a.symm
  have qI:row.drop (i+1)=r:=by
   have:=List.drop_eq_getElem_cons hi;rw [hr] at this;injection this with a b;exact b.symm
  unfold eZ
  split
  ·rename_i aJ
   rw [ri] at aJ
   refine wj row r (i+1) i qI hi (by omega) (fun j hj HM => ?_) (fun j hj HM => ?_)
   ·rw [oI hi,hx]
    rcases Nat.lt_succ_iff_lt_or_eq.1 hj with hj | rfl
    ·cases hc:j7 row[j] x with
     | false=>rfl
     | true=>have:=fi hc aJ;rw [h1 j hj HM] at this;cases this
    ·rw [hx,dy]
   ·rw [oI hi,hx]
    exact EJ aJ (h1 j (by omega) HM)
  ·rename_i aJ
   rw [ri] at aJ
   refine wj row r (i+1) k qI hk (by omega) (fun j hj HM => ?_) h2
   rcases Nat.lt_succ_iff_lt_or_eq.1 hj with hj | rfl
   ·exact h1 j hj HM
   ·rw [hx];simpa using aJ
theorem th{row:List ae}(h:0<row.length):(∀j,(hj:j<row.length)→j7 row[j] (row.getD (eZ row row 0 0) zD)=false)∧(∀j,j<eZ row row 0 0→(hj:j<row.length)→j7 (row.getD (eZ row row 0 0) zD) row[j]=true) :=
 wj row row 0 0 rfl h (Nat.le_refl _) (fun j hj=>by omega) (fun j hj=>by omega)
theorem I7{d:ae}:∀{row:List ae} {k:Nat} {i:Int},row[k]? = some d→(∀j,j<k→row[j]?≠some d)→idx d row i=i+k
 | [],k,i,h,_=>by simp at h
 | e::r,0,i,h,_=>by
  simp at h;subst h;rw [idx,if_pos rfl];simp
 | e::r,k+1,i,h,hn=>by
  have h0:=hn 0 (by omega)
  rw [idx,if_neg (fun e=>h0 (by simp [e]))]
  rw [I7 (k:=k) (by simpa using h) (fun j hj=>by have:=hn (j+1) (by omega);simpa using this)]
  simp;omega
theorem PR{row:List ae}(h:0<row.length):idx (row.getD (eZ row row 0 0) zD) row 0=((eZ row row 0 0:Nat):Int):=by
 have hm:=oE row row 0 0 h (by omega)
 have:=I7 (d:=row.getD (eZ row row 0 0) zD) (row:=row) (k:=eZ row row 0 0) (i:=0) (by rw [oI hm];exact List.getElem?_eq_getElem hm) (fun j hj he=>by
  obtain ⟨h1,h2⟩:=List.getElem?_eq_some_iff.1 he
  have:=(th h).2 j hj h1
  rw [h2,dy] at this;cases this)
 omega
theorem PS(hG:HG G)(row:List ae)(h:0<row.length)(hl:row.length≤100000000):FX G 143141 jZ ((row,()),())=some ((row.getD (eZ row row 0 0) zD,()),()):=by
 refine aw (fn:=Tryz.f141) (hG _ _ rfl) (by kernel_rfl) (by kernel_rfl) ((O8 _ _ _).trans ?_)
 refine ag (decide_eq_false (show ¬((row.length:Nat):Int)<1 by omega)) ?_
 refine aa (az (i:=0) (List.getElem?_eq_getElem h)) ?_
 have loop:∀(n i k:Nat),i+n=row.length→k<row.length→LX G 143141 jZ Tryz.f141 jw (aM Tryz.prog 141 0) ((row,((i:Int),())),(((zD,()),(((row.getD k zD),()),())),()))=some ((row.getD (eZ row (row.drop i) i k) zD,()),()):=by
  intro n
  induction n with
  | zero =>
   intro i k hi hk
   refine ar (j:=0) (by kernel_rfl) ((AJ _ _ _).trans ?_)
   refine ag (decide_eq_false (show ¬((i:Int)<((row.length:Nat):Int)) by omega)) ?_
   rw [List.drop_eq_nil_of_le (by omega)];rfl
  | succ n ih =>
   intro i k hi hk
   have aJ:i<row.length:=by omega
   have hx:row[i]? = some row[i]:=List.getElem?_eq_getElem aJ
   refine ar (j:=0) (by kernel_rfl) ((AJ _ _ _).trans ?_)
   refine af (aT aJ) (aa (az hx) ?_)
   refine aa (TQ hG row[i] (row.getD k zD)) ?_
   rw [List.drop_eq_getElem_cons aJ,eZ]
   by_cases ho:lA row[i] (row.getD k zD)<0
   ·rw [if_pos ho]
    refine af (decide_eq_true ho) (aa (az hx) ?_)
    have:=ih (i+1) i (by omega) aJ
    rw [←aH aJ (by omega),oI aJ] at this
    exact this
   ·rw [if_neg ho]
    refine ag (decide_eq_false ho) ?_
    have:=ih (i+1) k (by omega) hk
    rw [←aH aJ (by omega)] at this
    exact this
 have h1:=loop (row.length - 1) 1 0 (by omega) h
 have h2:eZ row row 0 0=eZ row (row.drop 1) 1 0:=by
  cases row with
  | nil=>simp at h
  | cons x r =>
   rw [List.drop_one,List.tail_cons]
   conv=>lhs;rw [eZ]
   rw [if_neg]
   show ¬lA x x<0
   unfold lA;simp
 rw [h2]
 have h3:row.getD 0 zD=row[0]:=oI h
 rw [h3] at h1
 exact h1
def total(ls:List (List ae)):Nat:=(ls.map List.length).sum
theorem A2(a:List ae)(r:List (List ae)):total (a::r)=a.length+total r:=by unfold total;rw [List.map_cons,List.sum_cons]
theorem TR(hG:HG G)(ls:List (List ae))(hn:ls.length≤1000)(hl:total ls≤500000000):FX G 143 nk ((ls,()),())=some ((ls.flatten,()),()):=by
 refine aw (fn:=Tryz.f143) (hG _ _ rfl) (by kernel_rfl) (by kernel_rfl) ((Ye _ _ _).trans ?_)
 have Zk:∀(n i:Nat) (out:List ae),i+n=ls.length→out.length+total (ls.drop i)≤500000000→LX G 143 nk Tryz.f143 uz (aM Tryz.prog 143 1) ((ls,(((ls.length:Nat):Int),((i:Int),()))),((),(out,())))=some ((out++(ls.drop i).flatten,()),()):=by
  intro n
  induction n with
  | zero =>
   intro i out hi ho
   refine ar (j:=1) (by kernel_rfl) ((J7 _ _ _).trans ?_)
   refine ag (decide_eq_false (show ¬((i:Int)<((ls.length:Nat):Int)) by omega)) ?_
   rw [List.drop_eq_nil_of_le (by omega),List.flatten_nil,List.append_nil];rfl
  | succ n ih =>
   intro i out hi ho
   have aJ:i<ls.length:=by omega
   rw [List.drop_eq_getElem_cons aJ] at ho ⊢
   have my:out.length+(ls[i].length+total (ls.drop (i+1)))≤500000000:=by
    have:total (ls[i]::ls.drop (i+1))=ls[i].length+total (ls.drop (i+1)):=A2 _ _
    omega
   refine ar (j:=1) (by kernel_rfl) ((J7 _ _ _).trans ?_)
   refine af (aT aJ) (aa (az (List.getElem?_eq_getElem aJ)) ?_)
   refine af (fits (show out.length+ls[i].length≤1073741824 by omega)) ?_
   have:=ih (i+1) (out++ls[i]) (by omega) (by rw [List.length_append];omega)
   rw [List.flatten_cons,←List.append_assoc]
   rw [←aH aJ (by omega)] at this
   exact this
 have Zl:∀(n i m:Nat),i+n=ls.length→m+total (ls.drop i)=total ls→LX G 143 nk Tryz.f143 uy (aM Tryz.prog 143 0) ((ls,((m:Int),(ls,(((ls.length:Nat):Int),((i:Int),()))))),((),()))=some ((ls.flatten,()),()):=by
  intro n
  induction n with
  | zero =>
   intro i m hi hm
   refine ar (j:=0) (by kernel_rfl) ((J6 _ _ _).trans ?_)
   refine ag (decide_eq_false (show ¬((i:Int)<((ls.length:Nat):Int)) by omega)) ?_
   have hg:yR (m:Int)=true:=by
    unfold yR
    rw [decide_eq_true (show (0:Int)≤(m:Int) by omega)]
    rw [decide_eq_true (show (m:Int)≤fj by unfold fj;omega)];rfl
   refine af hg ?_
   have:=Zk ls.length 0 [] (by omega) (by rw [List.drop_zero];simpa using hl)
   rw [List.drop_zero,List.nil_append] at this
   exact this
  | succ n ih =>
   intro i m hi hm
   have aJ:i<ls.length:=by omega
   have Ru:m+ls[i].length+total (ls.drop (i+1))=total ls:=by
    rw [List.drop_eq_getElem_cons aJ] at hm
    have:total (ls[i]::ls.drop (i+1))=ls[i].length+total (ls.drop (i+1)):=A2 _ _
    omega
   refine ar (j:=0) (by kernel_rfl) ((J6 _ _ _).trans ?_)
   refine af (aT aJ) (aa (az (List.getElem?_eq_getElem aJ)) ?_)
   have hw:IntKind.wrap .i64 ((m:Int)+((ls[i].length:Nat):Int))=((m+ls[i].length:Nat):Int):=by rw [wrap_small (by omega) (by omega)];rfl
   refine ag (decide_eq_false (show ¬IntKind.wrap .i64 ((m:Int)+((ls[i].length:Nat):Int))<0 by rw [hw];omega)) ?_
   have:=ih (i+1) (m+ls[i].length) (by omega) Ru
   rw [←aH aJ (by omega),←hw] at this
   exact this
 exact Zl ls.length 0 0 (by omega) (by rw [List.drop_zero];omega)
theorem yy{α:Type}(xs:List α){k:Nat}(hk:k≤xs.length):cut xs (k:Int) ((xs.length:Nat):Int)=xs.drop k:=by
 unfold cut;rw [Int.toNat_natCast,Int.toNat_natCast,List.take_of_length_le (Nat.le_refl _)]
theorem rj{α:Type}(xs:List α)(k:Nat):cut xs 0 (k:Int)=xs.take k:=by
 unfold cut;rw [Int.toNat_natCast];rfl
theorem EK{n k:Nat}(h:k≤n):aX n (k:Int) ((n:Nat):Int)=true:=by unfold aX;simp;omega
theorem uP{n k:Nat}(h:k≤n):aX n 0 (k:Int)=true:=by unfold aX;simp;omega
theorem C4(hG:HG G)(row:List ae)(hl:row.length≤100000000):FX G 123 qe ((row,()),())=some ((cp row,()),()):=by
 refine aw (fn:=Tryz.f123) (hG _ _ rfl) (by kernel_rfl) (by kernel_rfl) ((X0 _ _ _).trans ?_)
 by_cases h0:row.length=0
 ·refine af (show (((row.length:Nat):Int)==0)=true by simp [h0]) ?_
  have:row=[]:=by simpa using h0
  subst this;rfl
 refine ag (show (((row.length:Nat):Int)==0)=false by rw [beq_eq_false_iff_ne];omega) ?_
 have hp:0<row.length:=by omega
 have hm:=oE row row 0 0 hp (by omega)
 refine aa (PS hG row hp hl) ?_
 refine aa (A1 (hG _ _ rfl) row (row.getD (eZ row row 0 0) zD) (by omega)) ?_
 rw [PR hp]
 refine af (EK (n:=row.length) (k:=eZ row row 0 0) (by omega)) (af (uP (n:=row.length) (k:=eZ row row 0 0) (by omega)) ?_)
 have key:∀a b:List ae,a=row.drop (eZ row row 0 0)→b=row.take (eZ row row 0 0)→((FX G 143 nk (([a,b],()),())).bind fun (y3:(((List ae)×Unit)×Unit))=>some (y3.1,()))=some ((cp row,()),()):=by
  intro a b ha hb
  subst ha hb
  refine aa (TR hG [row.drop (eZ row row 0 0),row.take (eZ row row 0 0)] (by simp) (by unfold total;simp;omega)) ?_
  unfold cp BL
  simp only [List.flatten_cons,List.flatten_nil,List.append_nil]
 exact key _ _ (yy row (by omega)) (rj row _)
theorem PT(hG:HG G)(ls:List (List ae))(hn:ls.length≤1000)(hl:total ls≤100000000):FX G 135 nj ((ls,()),())=some ((cp ls.flatten,()),()):=by
 refine aw (fn:=Tryz.f135) (hG _ _ rfl) (by kernel_rfl) (by kernel_rfl) ((X8 _ _ _).trans ?_)
 refine aa (TR hG ls hn (by omega)) ?_
 have hlen:ls.flatten.length=total ls:=by unfold total;exact List.length_flatten
 exact aa (C4 hG ls.flatten (by omega)) rfl
theorem PU(hG:HG G)(row:List ae)(after d:ae)(hl:row.length≤50000000):FX G 113 Ad ((row,after,d,()),())=some ((lB row after d,()),()):=by
  refine aw (fn:=Tryz.f113) (hG _ _ rfl) (by kernel_rfl) (by kernel_rfl) ((XR _ _ _).trans ?_)
  refine aa (C3 hG row d (by omega)) ?_
  unfold lB
  by_cases hd:d∈row
  · rw [if_pos hd]
    exact af (decide_eq_true hd) (aa (C4 hG row (by omega)) rfl)
  rw [if_neg hd]
  refine ag (decide_eq_false hd) ?_
  refine aa (A1 (hG _ _ rfl) row after (by omega)) ?_
  have hr:idx after row 0<((row.length:Nat):Int)∨row.length=0∧idx after row 0 = -1:=by
    rcases np after row 0 (by omega) with ⟨h,_⟩ | ⟨k,h,hk,_⟩
    · by_cases h0:row.length=0
      · exact .inr ⟨h0,h⟩
      · exact .inl (by omega)
    · have:=(List.getElem?_eq_some_iff.1 hk).1
      exact .inl (by omega)
  have hm:max (idx after row 0) (0:Int)=max 0 (idx after row 0):=by omega
  have hw:IntKind.wrap .i64 (max (idx after row 0) (0:Int)+1)=(((max 0 (idx after row 0)).toNat+1:Nat):Int):=by
    rw [wrap_small (by omega) (by omega)];omega
  obtain ⟨k,hk,nK,ML⟩:∃k:Nat,min (IntKind.wrap .i64 (max (idx after row 0) (0:Int)+1)) ((row.length:Nat):Int)=(k:Int)∧k≤row.length∧row.take k++(d::row.drop k)=row.take ((max 0 (idx after row 0)).toNat+1)++(d::row.drop ((max 0 (idx after row 0)).toNat+1)):=by
    rw [hw]
    by_cases h0:row.length=0
    · have:row=[]:=by simpa using h0
      subst this
      exact ⟨0,by simp;omega,by simp,by simp⟩
    · exact ⟨(max 0 (idx after row 0)).toNat+1,by omega,by omega,rfl⟩
  have uZ:(min (IntKind.wrap .i64 ((max (idx after row 0) (0:Int):Int)+(1:Int))) (((List.length row):Nat):Int):Int)=(k:Int):=hk
  show cond (aX (List.length row) (0:Int) (min (IntKind.wrap .i64 ((max (idx after row 0) (0:Int):Int)+(1:Int))) (((List.length row):Nat):Int):Int))
    (cond (aX (List.length row) (min (IntKind.wrap .i64 ((max (idx after row 0) (0:Int):Int)+(1:Int))) (((List.length row):Nat):Int):Int) (((List.length row):Nat):Int))
     ((FX G 135 nj ((((cut row (0:Int) (min (IntKind.wrap .i64 ((max (idx after row 0) (0:Int):Int)+(1:Int))) (((List.length row):Nat):Int):Int))::([d]::((cut row (min (IntKind.wrap .i64 ((max (idx after row 0) (0:Int):Int)+(1:Int))) (((List.length row):Nat):Int):Int) (((List.length row):Nat):Int))::([]:List (List ae))))),()),())).bind fun (y4:(((List ae)×Unit)×Unit)) =>
     some (y4.1,()))
     (none))
    (none)=_
  rw [uZ]
  refine af (uP nK) (af (EK nK) ?_)
  have key:∀a b R:List ae,a=row.take k→b=row.drop k→R=cp (row.take k++(d::row.drop k))→((FX G 135 nj (([a,[d],b],()),())).bind fun (y3:(((List ae)×Unit)×Unit))=>some (y3.1,()))=some ((R,()),()):=by
    intro a b R ha hb hR
    subst ha hb hR
    refine aa (PT hG [row.take k,[d],row.drop k] (by simp) (by unfold total;simp;omega)) ?_
    refine congrArg (fun l:List ae=>some ((l,()),())) ?_
    simp
  exact key _ _ _ (rj row k) (yy row nK) (by rw [ML])
theorem wm{row:List ae}{d:ae}{k:Nat}(hn:row.Nodup)(hk:row[k]? = some d):row.filter (fun e=>decide (e≠d))=row.take k++row.drop (k+1):=by
 obtain ⟨h1,h2⟩:=List.getElem?_eq_some_iff.1 hk
 conv=>lhs;rw [←List.take_append_drop k row,List.drop_eq_getElem_cons h1,h2]
 have H6:(row.take k++(d::row.drop (k+1))).Nodup:=by
  rw [←h2,←List.drop_eq_getElem_cons h1,List.take_append_drop];exact hn
 have h3:=List.nodup_append.1 H6
 have h4:=List.nodup_cons.1 h3.2.1
 rw [List.filter_append,List.filter_cons_of_neg (by simp)]
 congr 1
 ·rw [List.filter_eq_self];intro a ha
  have:=h3.2.2 a ha d (by simp)
  simpa using this
 ·rw [List.filter_eq_self];intro a ha
  have:a≠d:=fun e=>h4.1 (e▸ha)
  simpa using this
theorem TS(hG:HG G)(row:List ae)(d:ae)(hn:row.Nodup)(hl:row.length≤50000000):FX G 119 Gd ((row,d,()),())=some ((gM row d,()),()):=by
 refine aw (fn:=Tryz.f119) (hG _ _ rfl) (by kernel_rfl) (by kernel_rfl) ((XX _ _ _).trans ?_)
 refine aa (A1 (hG _ _ rfl) row d (by omega)) ?_
 unfold gM
 by_cases hd:d∈row
 ·obtain ⟨k,h1,h2,h3⟩:=eY hd
  have aJ:=(List.getElem?_eq_some_iff.1 h2).1
  rw [wm hn h2]
  show cond (decide (idx d row 0<0)) _ (cond (aX row.length 0 (idx d row 0)) (cond (aX row.length (IntKind.wrap .i64 (idx d row 0+1)) ((row.length:Nat):Int)) ((FX G 135 nj (([cut row 0 (idx d row 0),cut row (IntKind.wrap .i64 (idx d row 0+1)) ((row.length:Nat):Int)],()),())).bind fun (y3:(((List ae)×Unit)×Unit))=>some (y3.1,())) none) none)=_
  rw [h1,aH aJ (by omega)]
  refine ag (decide_eq_false (by omega)) (af (uP (by omega)) (af (EK (by omega)) ?_))
  have key:∀a b:List ae,a=row.take k→b=row.drop (k+1)→((FX G 135 nj (([a,b],()),())).bind fun (y3:(((List ae)×Unit)×Unit))=>some (y3.1,()))=some ((cp (row.take k++row.drop (k+1)),()),()):=by
   intro a b ha hb
   subst ha hb
   refine aa (PT hG [row.take k,row.drop (k+1)] (by simp) (by unfold total;simp;omega)) ?_
   refine congrArg (fun l:List ae=>some ((l,()),())) ?_
   simp
  exact key _ _ (rj row k) (yy row (by omega))
 ·have h1:=dY.2 hd
  refine af (decide_eq_true h1) (aa (C4 hG row (by omega)) ?_)
  refine congrArg (fun l:List ae=>some ((l,()),())) ?_
  congr 1
  symm
  rw [List.filter_eq_self];intro a ha
  have:a≠d:=fun e=>hd (e▸ha)
  simpa using this
theorem TT(hG:HG G)(row:List ae)(cH d:ae)(hl:row.length≤50000000):FX G 121 rZ ((row,cH,d,()),())=some ((jg row cH d,()),()):=by
 refine aw (fn:=Tryz.f121) (hG _ _ rfl) (by kernel_rfl) (by kernel_rfl) ((XY _ _ _).trans ?_)
 refine aa (A1 (hG _ _ rfl) row cH (by omega)) ?_
 unfold jg
 by_cases ho:cH∈row
 ·obtain ⟨k,h1,h2,h3⟩:=eY ho
  have aJ:=(List.getElem?_eq_some_iff.1 h2).1
  refine ag (decide_eq_false (show ¬idx cH row 0<0 by omega)) ?_
  refine aa (C3 hG row d (by omega)) ?_
  by_cases hd:d∈row
  ·rw [if_neg (fun h=>h.2 hd)]
   exact af (decide_eq_true hd) (aa (C4 hG row (by omega)) rfl)
  rw [if_pos ⟨ho,hd⟩]
  refine ag (decide_eq_false hd) ?_
  show cond (aX row.length 0 (idx cH row 0)) (cond (aX row.length (IntKind.wrap .i64 (idx cH row 0+1)) ((row.length:Nat):Int)) ((FX G 135 nj (([cut row 0 (idx cH row 0),[d],cut row (IntKind.wrap .i64 (idx cH row 0+1)) ((row.length:Nat):Int)],()),())).bind fun (y3:(((List ae)×Unit)×Unit))=>some (y3.1,())) none) none=_
  rw [h1,aH aJ (by omega)]
  refine af (uP (by omega)) (af (EK (by omega)) ?_)
  have key:∀a b R:List ae,a=row.take k→b=row.drop (k+1)→R=cp (row.set ((k:Int)).toNat d)→((FX G 135 nj (([a,[d],b],()),())).bind fun (y3:(((List ae)×Unit)×Unit))=>some (y3.1,()))=some ((R,()),()):=by
   intro a b R ha hb hR
   subst ha hb hR
   refine aa (PT hG [row.take k,[d],row.drop (k+1)] (by simp) (by unfold total;simp;omega)) ?_
   refine congrArg (fun l:List ae=>some ((l,()),())) ?_
   rw [Int.toNat_natCast,List.set_eq_take_append_cons_drop,if_pos aJ];simp
  exact key _ _ _ (rj row k) (yy row (by omega)) rfl
 ·have h1:=dY.2 ho
  rw [if_neg (fun h=>ho h.1)]
  exact af (decide_eq_true h1) (aa (C4 hG row (by omega)) rfl)
theorem Zm(hG:HG G)(row:List ae)(d:ae)(hl:row.length≤100000000):FX G 140 CS ((row,d,()),())=some (GI (dw row d (row.length - 1)),()):=by
 refine aw (fn:=Tryz.f140) (hG _ _ rfl) (by kernel_rfl) (by kernel_rfl) ((Yc _ _ _).trans ?_)
 have key:FX G 157 Aj ((row,(d,((IntKind.wrap .i64 (((row.length:Nat):Int) - 1)),()))),())=some (GI (dw row d (row.length - 1)),()):=by
  refine aw (fn:=Tryz.f157) (hG _ _ rfl) (by kernel_rfl) (by kernel_rfl) ((Tz _ _ _).trans ?_)
  refine aa (A1 (hG _ _ rfl) row d (by omega)) ?_
  unfold dw
  by_cases hd:d∈row
  ·rw [if_pos hd]
   obtain ⟨k,h1,h2,h3⟩:=eY hd
   have aJ:=(List.getElem?_eq_some_iff.1 h2).1
   refine ag (decide_eq_false (show ¬idx d row 0<0 by omega)) ?_
   refine ag (Ex hd) ?_
   have hw:IntKind.wrap .i64 (((row.length:Nat):Int) - 1)=((row.length - 1:Nat):Int):=by rw [wrap_small (by omega) (by omega)];omega
   have RR:IntKind.wrap .i64 (idx d row 0+IntKind.wrap .i64 (((row.length:Nat):Int) - 1))=((k+(row.length - 1):Nat):Int):=by
    rw [hw,h1,wrap_small (by omega) (by omega)];rfl
   have v5:(k+(row.length - 1)) % row.length<row.length:=Nat.mod_lt _ (by omega)
   have hx:=List.getElem?_eq_getElem v5
   refine aa (show aS row (Int.tmod (IntKind.wrap .i64 (idx d row 0+IntKind.wrap .i64 (((row.length:Nat):Int) - 1))) ((row.length:Nat):Int))=some row[(k+(row.length - 1)) % row.length] by rw [RR,ql];exact az hx) ?_
   rw [h1,Int.toNat_natCast,hx];rfl
  ·rw [if_neg hd]
   exact af (decide_eq_true (dY.2 hd)) rfl
 refine aa key ?_
 rfl
end Go.Vs
