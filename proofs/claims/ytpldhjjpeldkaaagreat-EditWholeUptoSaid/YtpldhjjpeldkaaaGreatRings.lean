/- What the program computes at edges and rings, written plainly. -/
import Derived.Test.YtpldhjjpeldkaaaGreatPlaces
set_option linter.unusedVariables false
set_option linter.unusedSimpArgs false
namespace Go.Vs
open Go.Proofs
variable {G:(f:FuncId)→(g:aJ)→Option (g.A→Option g.B)}
theorem get_at{s:ByteArray}{i:Nat}{c:UInt8}(h:s.data.toList[i]? = some c):s.get! i=c:=by
 have hi:i<s.data.size:=by have:=(List.getElem?_eq_some_iff.1 h).1;simpa using this
 have h2:=(List.getElem?_eq_some_iff.1 h).2
 show s.data[i]! = c
 rw [getElem!_pos s.data i hi,←h2];simp
theorem LL{s:ByteArray}{i:Nat}(h:(s.get! i).toNat<128):Utf8.decode s i=((s.get! i).toNat,1):=by
 unfold Utf8.decode
 simp only [Nat.add_zero]
 rw [if_pos h]
theorem LM{s:ByteArray}{i:Nat}(h:¬(s.get! i).toNat<128):128≤(Utf8.decode s i).1:=by
 unfold Utf8.decode
 simp only [Nat.add_zero]
 rw [if_neg h]
 repeat' split
 all_goals first | (simp_all only [Bool.and_eq_true,decide_eq_true_eq];omega) | decide | omega
theorem ad6(hG:G 88 vp=none)(s:ByteArray)(hs:s.size≤100000000):∀(n i:Nat),i+n=s.size →
  LX G 88 vp Tryz.f88 vA (aP Tryz.prog 88 0) ((s,()),((),((s,i),())))=some ((((s.data.toList.drop i).all j6&&decide (s.size≤16),()),()):(Bool×Unit)×Unit):=by
 have hl:s.data.toList.length=s.size:=by simp
 intro n
 induction n with
 | zero =>
  intro i hi
  refine ar (j:=0) (by kernel_rfl) ((OE _ _ _).trans ?_)
  refine ag (decide_eq_false (show ¬(i<s.size) by omega)) ?_
  refine congrArg (fun b:Bool=>some ((b,()),())) ?_
  rw [List.drop_eq_nil_of_le (by omega),List.all_nil,Bool.true_and,Bool.eq_iff_iff];simp;omega
 | succ n ih =>
  intro i hi
  have aG:i<s.data.toList.length:=by omega
  have hx:s.data.toList[i]? = some s.data.toList[i]:=List.getElem?_eq_getElem aG
  generalize s.data.toList[i]=c at hx
  have hd:s.data.toList.drop i=c::s.data.toList.drop (i+1):=by
   rw [List.drop_eq_getElem_cons aG];rw [List.getElem?_eq_getElem aG] at hx;cases hx;rfl
  have hg:=get_at hx
  refine ar (j:=0) (by kernel_rfl) ((OE _ _ _).trans ?_)
  refine ae (decide_eq_true (show i<s.size by omega)) ?_
  show cond (decide (nK s i<32)) _ (cond (decide (nK s i > 126)) _ (LX G 88 vp Tryz.f88 vA (aP Tryz.prog 88 0) ((s,()),((),((s,i+yn s i),())))))=_
  rw [hd,List.all_cons]
  by_cases h1:c.toNat<128
  ·have hr:Utf8.decode s i=(c.toNat,1):=by rw [LL (by rw [hg];exact h1),hg]
   have hr1:nK s i=(c.toNat:Int):=by unfold nK;rw [hr]
   have T8:yn s i=1:=by unfold yn;rw [hr]
   rw [hr1,T8]
   by_cases h2:c.toNat<32
   ·refine ae (decide_eq_true (by omega)) ?_
    have:j6 c=false:=by unfold j6;simp;omega
    rw [this];rfl
   refine ag (decide_eq_false (by omega)) ?_
   by_cases h3:126<c.toNat
   ·refine ae (decide_eq_true (by omega)) ?_
    have:j6 c=false:=by unfold j6;simp;omega
    rw [this];rfl
   refine ag (decide_eq_false (by omega)) ?_
   have:j6 c=true:=by unfold j6;simp;omega
   rw [this,Bool.true_and]
   exact ih (i+1) (by omega)
  ·have h2:=LM (s:=s) (i:=i) (by rw [hg];exact h1)
   have hr1:128≤nK s i:=by unfold nK;omega
   refine ag (decide_eq_false (by omega)) (ae (decide_eq_true (by omega)) ?_)
   have:j6 c=false:=by unfold j6;simp;omega
   rw [this];rfl
theorem ad8(hG:G 88 vp=none)(s:ByteArray)(hs:s.size≤100000000):FX G 88 vp ((s,()),())=some ((B2 s,()),()):=by
 refine au (fn:=Tryz.f88) hG (by kernel_rfl) (by kernel_rfl) ((ac5 _ _ _).trans ?_)
 have:=ad6 hG s hs s.size 0 (by omega)
 rw [List.drop_zero] at this
 exact this
theorem ad9(hG:G 89 FU=none)(n:Int):FX G 89 FU ((n,()),())=some ((uz n,()),()):=by
 refine au (fn:=Tryz.f89) hG (by kernel_rfl) (by kernel_rfl) ((ac6 _ _ _).trans ?_)
 show (cond (decide (n≥-1099511627776)) (some ((decide (n≤1099511627776),()),())) (some ((false,()),())):Option ((Bool×Unit)×Unit))=some ((uz n,()),())
 unfold uz
 by_cases h1 : -1099511627776≤n<;>simp [h1]
def Pg(n:Int):Prop := -9223372036854775808≤n∧n<9223372036854775808
theorem Ph(x:BitVec 64):IntKind.wrap .i64 ((x.toNat:Nat):Int)=x.toInt:=by
 unfold IntKind.wrap
 simp only [IntKind.bits,IntKind.signed]
 have h:=x.isLt
 have h2:=BitVec.toInt_eq_toNat_cond x
 rw [h2]
 simp
 split<;>split<;>omega
theorem ofInt_toInt{n:Int}(h:Pg n):(BitVec.ofInt 64 n).toInt=n:=by
 unfold Pg at h
 rw [BitVec.toInt_ofInt]
 exact Int.bmod_eq_of_le (by omega) (by omega)
theorem RJ{n:Int}(h:Pg n):(eC .andNot .i64 n 3==(0:Int))=decide (0≤n∧n≤3):=by
 have e:eC .andNot .i64 n 3=(BitVec.ofInt 64 n &&& ~~~(BitVec.ofInt 64 3)).toInt:=by unfold eC;exact Ph _
 rw [e,Bool.eq_iff_iff]
 simp only [beq_iff_eq,decide_eq_true_eq]
 generalize hx:BitVec.ofInt 64 n=x
 have hn:=ofInt_toInt h
 rw [hx] at hn
 have h1:(x &&& ~~~(BitVec.ofInt 64 3)).toInt=0↔(x &&& ~~~(BitVec.ofInt 64 3))=0#64:=by
  constructor
  ·intro h;exact BitVec.eq_of_toInt_eq (by rw [h];rfl)
  ·intro h;rw [h];rfl
 rw [h1,←hn]
 constructor
 ·intro h
  have h2:x=x &&& 3#64:=by
   have h3:x=(x &&& ~~~(BitVec.ofInt 64 3)) ||| (x &&& 3#64):=by
    ext i hi
    simp only [BitVec.getElem_or,BitVec.getElem_and,BitVec.getElem_not]
    have:(BitVec.ofInt 64 3)=3#64:=rfl
    rw [this]
    cases x[i]<;>cases (3#64)[i]<;>rfl
   rw [h] at h3
   simpa using h3
  have h4:x.toNat≤3:=by
   rw [h2,BitVec.toNat_and]
   exact Nat.and_le_right
  rw [BitVec.toInt_eq_toNat_cond]
  split<;>omega
 ·intro h
  have h4:x.toNat≤3:=by
   rw [BitVec.toInt_eq_toNat_cond] at h
   have:=x.isLt
   split at h<;>omega
  have h5:x=0#64∨x=1#64∨x=2#64∨x=3#64:=by
   have:x.toNat=0∨x.toNat=1∨x.toNat=2∨x.toNat=3:=by omega
   rcases this with h | h | h | h
   ·exact .inl (BitVec.eq_of_toNat_eq (by rw [h];rfl))
   ·exact .inr (.inl (BitVec.eq_of_toNat_eq (by rw [h];rfl)))
   ·exact .inr (.inr (.inl (BitVec.eq_of_toNat_eq (by rw [h];rfl))))
   ·exact .inr (.inr (.inr (BitVec.eq_of_toNat_eq (by rw [h];rfl))))
  rcases h5 with rfl | rfl | rfl | rfl<;>decide
theorem RL{n:Int}(h:Pg n):(eC .andNot .i64 n 1==(0:Int))=decide (n=0∨n=1):=by
 have e:eC .andNot .i64 n 1=(BitVec.ofInt 64 n &&& ~~~(BitVec.ofInt 64 1)).toInt:=by unfold eC;exact Ph _
 rw [e,Bool.eq_iff_iff]
 simp only [beq_iff_eq,decide_eq_true_eq]
 generalize hx:BitVec.ofInt 64 n=x
 have hn:=ofInt_toInt h
 rw [hx] at hn
 have h1:(x &&& ~~~(BitVec.ofInt 64 1)).toInt=0↔(x &&& ~~~(BitVec.ofInt 64 1))=0#64:=by
  constructor
  ·intro h;exact BitVec.eq_of_toInt_eq (by rw [h];rfl)
  ·intro h;rw [h];rfl
 rw [h1,←hn]
 constructor
 ·intro h
  have h2:x=x &&& 1#64:=by
   have h3:x=(x &&& ~~~(BitVec.ofInt 64 1)) ||| (x &&& 1#64):=by
    ext i hi
    simp only [BitVec.getElem_or,BitVec.getElem_and,BitVec.getElem_not]
    have:(BitVec.ofInt 64 1)=1#64:=rfl
    rw [this]
    cases x[i]<;>cases (1#64)[i]<;>rfl
   rw [h] at h3
   simpa using h3
  have h4:x.toNat≤1:=by
   rw [h2,BitVec.toNat_and]
   exact Nat.and_le_right
  rw [BitVec.toInt_eq_toNat_cond]
  split<;>omega
 ·intro h
  have h4:x.toNat≤1:=by
   rw [BitVec.toInt_eq_toNat_cond] at h
   have:=x.isLt
   split at h<;>omega
  have h5:x=0#64∨x=1#64:=by
   have:x.toNat=0∨x.toNat=1:=by omega
   rcases this with h | h
   ·exact .inl (BitVec.eq_of_toNat_eq (by rw [h];rfl))
   ·exact .inr (BitVec.eq_of_toNat_eq (by rw [h];rfl))
  rcases h5 with rfl | rfl<;>decide
theorem YW(hG:HG G)(d:ab)(h:Pg d.2):FX G 106 F3 ((d,()),())=some ((IP d,()),()):=by
 refine au (fn:=Tryz.f106) (hG _ _ rfl) (by kernel_rfl) (by kernel_rfl) ((Xt _ _ _).trans ?_)
 refine aa (GM (hG _ _ rfl) d.1) ?_
 unfold IP
 cases cU d.1
 ·rfl
 ·exact ae rfl (congrArg (fun b:Bool=>some ((b,()),())) (RL h))
theorem YX(hG:HG G)(c:oX)(h:Pg c.2.2):FX G 87 BT ((c,()),())=some ((xn c,()),()):=by
 refine au (fn:=Tryz.f87) (hG _ _ rfl) (by kernel_rfl) (by kernel_rfl) ((ac4 _ _ _).trans ?_)
 refine aa (GM (hG _ _ rfl) c.1) ?_
 unfold xn
 cases cU c.1
 ·rfl
 refine ae rfl ?_
 have hb:(((c.2.1.1==(0:Int))&&(c.2.1.2==(0:Int)))&&(c.2.2==(0:Int)))=decide (c.2=zD):=kj c.2 zD
 by_cases hz:c.2=zD
 ·refine ae (hb.trans (decide_eq_true hz)) ?_
  rw [decide_eq_true hz,Bool.or_true];rfl
 ·refine ag (hb.trans (decide_eq_false hz)) ?_
  refine aa (YW hG c.2 h) ?_
  rw [decide_eq_false hz,Bool.or_false];rfl
structure Fit(o:bw):Prop where
 a:Pg (oA o).2.2
 b:Pg (oB o).2.2
 n:Pg (oN o)
 t:iV o
def AI(o:bw):bw :=
 if o.1=6 then (o.1,(aS o,(zI,(aV o,(zC,(zC,(false,(e0,0))))))))
 else if o.1=3 then (o.1,(aS o,(zI,(zI,(oA o,(oB o,(false,(e0,0))))))))
 else if o.1=5 then (o.1,(aS o,(eu o,(aV o,(zC,(zC,(false,(e0,oN o))))))))
 else if o.1=7 then (o.1,(aS o,(zI,(zI,(zC,(zC,(mF o,(np o,0))))))))
 else if o.1=8 then (o.1,(aS o,(zI,(zI,(zC,(zC,(mF o,(e0,oN o))))))))
 else (o.1,(aS o,(zI,(zI,(zC,(zC,(false,(e0,0))))))))
def Et(o:bw):Int :=
 if o.1=6 then (if cU (aS o)=true∧cU (aV o)=true then 0 else 1)
 else if o.1=3 then (if cU (aS o)=true∧xn (oA o)=true∧xn (oB o)=true then 0 else 1)
 else if o.1=5 then (if cU (aS o)=true∧cU (eu o)=true∧cU (aV o)=true∧0≤oN o∧oN o≤3 then 0 else 1)
 else if o.1=7 then (if cU (aS o)=true then (if B2 (np o)=true then 0 else 4) else 1)
 else if o.1=8 then (if cU (aS o)=true∧uz (oN o)=true then 0 else 1)
 else if o.1=1∨o.1=2∨o.1=4 then (if cU (aS o)=true then 0 else 1)
 else 1
theorem EM{o:bw}{k:Int}(h:o.1=k):(o.1==k)=true:=by simp [h]
theorem w4{o:bw}{k:Int}(h:¬o.1=k):(o.1==k)=false:=by simp [h]
theorem aea(hG:HG G)(o:bw)(hf:Fit o):FX G 65 FO ((o,()),())=some ((AI o,(Et o,())),()):=by
 refine au (fn:=Tryz.f65) (hG _ _ rfl) (by kernel_rfl) (by kernel_rfl) ((Up _ _ _).trans ?_)
 refine aa (GM (hG _ _ rfl) (aS o)) ?_
 unfold AI Et
 by_cases h1:o.1=1
 ·refine ae (EM h1) (ae (EM h1) ?_)
  rw [if_neg (by omega),if_neg (by omega),if_neg (by omega),if_neg (by omega),if_neg (by omega),if_neg (by omega),if_neg (by omega),if_neg (by omega),if_neg (by omega),if_neg (by omega),if_pos (by omega)]
  cases cU (aS o)<;>rfl
 refine ag (w4 h1) ?_
 by_cases h2:o.1=2
 ·refine ae (EM h2) (ae (EM h2) ?_)
  rw [if_neg (by omega),if_neg (by omega),if_neg (by omega),if_neg (by omega),if_neg (by omega),if_neg (by omega),if_neg (by omega),if_neg (by omega),if_neg (by omega),if_neg (by omega),if_pos (by omega)]
  cases cU (aS o)<;>rfl
 refine ag (w4 h2) ?_
 by_cases h4:o.1=4
 ·refine ae (EM h4) ?_
  rw [if_neg (by omega),if_neg (by omega),if_neg (by omega),if_neg (by omega),if_neg (by omega),if_neg (by omega),if_neg (by omega),if_neg (by omega),if_neg (by omega),if_neg (by omega),if_pos (by omega)]
  cases cU (aS o)<;>rfl
 refine ag (w4 h4) ?_
 by_cases h6:o.1=6
 ·refine ae (EM h6) ?_
  rw [if_pos h6,if_pos h6]
  cases cU (aS o)
  ·rfl
  refine ae rfl (aa (GM (hG _ _ rfl) (aV o)) ?_)
  cases cU (aV o)<;>rfl
 refine ag (w4 h6) ?_
 rw [if_neg h6,if_neg h6]
 by_cases h3:o.1=3
 ·refine ae (EM h3) ?_
  rw [if_pos h3,if_pos h3]
  cases cU (aS o)
  ·rfl
  refine ae rfl (aa (YX hG (oA o) hf.a) ?_)
  cases xn (oA o)
  ·rfl
  refine ae rfl (aa (YX hG (oB o) hf.b) ?_)
  cases xn (oB o)<;>rfl
 refine ag (w4 h3) ?_
 rw [if_neg h3,if_neg h3]
 by_cases h5:o.1=5
 ·refine ae (EM h5) ?_
  rw [if_pos h5,if_pos h5]
  cases cU (aS o)
  ·rfl
  refine ae rfl (aa (GM (hG _ _ rfl) (eu o)) ?_)
  cases cU (eu o)
  ·rfl
  refine ae rfl (aa (GM (hG _ _ rfl) (aV o)) ?_)
  cases cU (aV o)
  ·rfl
  refine ae rfl (aX (RJ hf.n) ?_)
  by_cases h:0≤oN o∧oN o≤3
  ·rw [decide_eq_true h,if_pos ⟨rfl,rfl,rfl,h⟩];rfl
  ·rw [decide_eq_false h,if_neg (fun k=>h k.2.2.2)];rfl
 refine ag (w4 h5) ?_
 rw [if_neg h5,if_neg h5]
 by_cases h7:o.1=7
 ·refine ae (EM h7) ?_
  rw [if_pos h7,if_pos h7]
  refine aa (ad8 (hG _ _ rfl) (np o) hf.t) ?_
  cases B2 (np o)<;>cases cU (aS o)<;>rfl
 refine ag (w4 h7) ?_
 rw [if_neg h7,if_neg h7]
 by_cases h8:o.1=8
 ·refine ae (EM h8) ?_
  rw [if_pos h8,if_pos h8]
  cases cU (aS o)
  ·rfl
  refine ae rfl (aa (ad9 (hG _ _ rfl) (oN o)) ?_)
  cases uz (oN o)<;>rfl
 refine ag (w4 h8) ?_
 rw [if_neg h8,if_neg h8,if_neg (by omega)];rfl
theorem LN(o:bw)(h1:1≤o.1)(h8:o.1≤8):xp (AI o) o=xp (uA o) UJ:=by
 rw [Bool.eq_iff_iff,AH,AH]
 obtain ⟨k,i,n,m,⟨a1,a2⟩,⟨b1,b2⟩,f,t,q⟩:=o
 simp only at h1 h8
 unfold AI uA UJ
 have:k=1∨k=2∨k=3∨k=4∨k=5∨k=6∨k=7∨k=8:=by omega
 rcases this with rfl | rfl | rfl | rfl | rfl | rfl | rfl | rfl<;>simp only [Int.reduceEq,if_true,if_false]<;>constructor<;>intro h<;>simp only [zC,Prod.mk.injEq,true_and,and_true] at h ⊢<;>grind
theorem US(hG:HG G)(o:bw)(hf:Fit o):FX G 43 BQ ((o,()),())=some ((cp o,()),()):=by
 refine au (fn:=Tryz.f43) (hG _ _ rfl) (by kernel_rfl) (by kernel_rfl) ((Xg _ _ _).trans ?_)
 refine aa (aea hG o hf) ?_
 refine aX (b:=xp (AI o) o) rfl ?_
 unfold cp
 by_cases h1:o.1<1
 ·rw [if_pos h1]
  have:Et o=1:=by unfold Et;rw [if_neg (by omega),if_neg (by omega),if_neg (by omega),if_neg (by omega),if_neg (by omega),if_neg (by omega)]
  rw [this];cases xp (AI o) o<;>rfl
 rw [if_neg h1]
 by_cases h8:8<o.1
 ·rw [if_pos h8]
  have:Et o=1:=by unfold Et;rw [if_neg (by omega),if_neg (by omega),if_neg (by omega),if_neg (by omega),if_neg (by omega),if_neg (by omega)]
  rw [this];cases xp (AI o) o<;>rfl
 rw [if_neg h8,LN o (by omega) (by omega)]
 have hk:o.1=1∨o.1=2∨o.1=3∨o.1=4∨o.1=5∨o.1=6∨o.1=7∨o.1=8:=by omega
 by_cases hm:cU (aS o)=true
 case neg =>
  have hb:Et o=1:=by
   unfold Et
   rcases hk with h | h | h | h | h | h | h | h<;>simp [h,hm]
  rw [if_pos (by simpa using hm),hb];cases xp (uA o) UJ<;>rfl
 rw [if_neg (by simp [hm])]
 cases xp (uA o) UJ
 ·rw [if_pos rfl];rfl
 rw [if_neg (by simp)]
 refine ag rfl ?_
 refine congrArg (fun n:Int=>some ((n,()),())) ?_
 unfold Et
 rcases hk with h | h | h | h | h | h | h | h<;>simp [h,hm]
theorem aeb(hG:HG G)(l:List bw)(hl:l.length≤1073741824)(hf:∀o∈l,Fit o):FX G 58 D2 ((l,()),())=some ((de l,()),()):=by
 refine au (fn:=Tryz.f58) (hG _ _ rfl) (by kernel_rfl) (by kernel_rfl) ((Xi _ _ _).trans ?_)
 unfold de
 by_cases h0:l.length=0
 ·refine ae (show (((l.length:Nat):Int)==0)=true by simp [h0]) ?_
  rw [if_neg (by omega)];rfl
 refine ag (show (((l.length:Nat):Int)==0)=false by rw [beq_eq_false_iff_ne];omega) ?_
 by_cases h6:6<l.length
 ·refine ae (decide_eq_true (show ((l.length:Nat):Int) > 6 by omega)) ?_
  rw [if_neg (by omega)];rfl
 refine ag (decide_eq_false (show ¬((l.length:Nat):Int) > 6 by omega)) ?_
 rw [if_pos (by omega)]
 have loop:∀(n i:Nat),i+n=l.length→LX G 58 D2 Tryz.f58 Am (aP Tryz.prog 58 0) ((l,(((l.length:Nat):Int),((i:Int),()))),((),()))=some ((j7 (l.drop i),()),()):=by
  intro n
  induction n with
  | zero =>
   intro i hi
   refine ar (j:=0) (by kernel_rfl) ((D8 _ _ _).trans ?_)
   refine ag (decide_eq_false (show ¬((i:Int)<((l.length:Nat):Int)) by omega)) ?_
   rw [List.drop_eq_nil_of_le (by omega)];rfl
  | succ n ih =>
   intro i hi
   have aG:i<l.length:=by omega
   refine ar (j:=0) (by kernel_rfl) ((D8 _ _ _).trans ?_)
   refine ae (aT aG) (aa (aK (List.getElem?_eq_getElem aG)) ?_)
   refine aa (US hG l[i] (hf _ (List.getElem_mem aG))) ?_
   rw [List.drop_eq_getElem_cons aG,j7]
   by_cases hz:cp l[i]=0
   ·rw [if_neg (by simp [hz])]
    refine ag (show (cp l[i] != 0)=false by simp [hz]) ?_
    rw [aI aG hl]
    exact ih (i+1) (by omega)
   ·rw [if_pos hz]
    exact ae (show (cp l[i] != 0)=true by simp [hz]) rfl
 have:=loop l.length 0 (by omega)
 rw [List.drop_zero] at this
 exact this
end Go.Vs
namespace Go.Vs
open Go.Proofs
variable {G:(f:FuncId)→(g:aJ)→Option (g.A→Option g.B)}
theorem Ti(hG:HG G)(v:af)(x:ID):FX G 138 CD ((v,x,()),())=some ((qf v.1 x,()),()):=by
 refine au (fn:=Tryz.f138) (hG _ _ rfl) (by kernel_rfl) (by kernel_rfl) ((XQ _ _ _).trans ?_)
 exact aa (Pc hG v.1 x) rfl
def bY(l:List af)(x:ID):Nat:=l.countP fun v=>fz v.1 x
def c7(l:List af):Prop:=l.Pairwise fun a b=>fz a.1 b.1=true
theorem Eu(l:List af)(x:ID):bY l x≤l.length:=List.countP_le_length
theorem qZ{l:List af}{x:ID}(h:∀v∈l,fz v.1 x=false):bY l x=0:=by
 unfold bY;rw [List.countP_eq_zero];intro v hv;simp [h v hv]
theorem vL{x:ID}:∀{l:List af},c7 l→∀(k:Nat) (v:af),l[k]? = some v→(fz v.1 x=true↔k<bY l x)
 | [],_,k,v,h=>by simp at h
 | w::r,hs,k,v,h=>by
  have hw:∀{u:af},u∈r→fz w.1 u.1=true:=fun {u} hu=>List.rel_of_pairwise_cons hs hu
  have hr:c7 r:=hs.of_cons
  by_cases aG:fz w.1 x=true
  ·have e:bY (w::r) x=bY r x+1:=by unfold bY;rw [List.countP_cons_of_pos (by simpa using aG)]
   cases k with
   | zero=>simp at h;subst h;simp [aG,e]
   | succ k=>have:=vL (x:=x) hr k v (by simpa using h);rw [this,e];omega
  ·have hn:∀u∈w::r,fz u.1 x=false:=fun u hu=>by
    rcases List.mem_cons.1 hu with rfl | hu
    ·simpa using aG
    ·rw [Bool.eq_false_iff];intro h2;exact aG (iv (hw hu) h2)
   rw [qZ hn,hn v (List.mem_of_getElem? h)]
   simp
theorem Pj(hG:HG G)(l:List af)(x:ID)(hs:c7 l)(hl:l.length≤50000000):∀(n i j:Nat),j - i≤n→i≤bY l x→bY l x≤j→j≤l.length →
  LX G 139137 iP Tryz.f137 hM (aP Tryz.prog 137 0) ((l,(((l.length:Nat):Int),((i:Int),((j:Int),())))),(((x,()),()),()))=some (((((bY l x:Nat):Int),(decide ((l[bY l x]?).map (·.1)=some x),())):Int×(Bool×Unit)),()):=by
 have te:=Eu l x
 have fin:∀(i j:Nat),¬(i<j)→i≤bY l x→bY l x≤j→LX G 139137 iP Tryz.f137 hM (aP Tryz.prog 137 0) ((l,(((l.length:Nat):Int),((i:Int),((j:Int),())))),(((x,()),()),()))=some (((((bY l x:Nat):Int),(decide ((l[bY l x]?).map (·.1)=some x),())):Int×(Bool×Unit)),()):=fun i j yP h1 h2=>by
  have hi:i=bY l x:=by omega
  subst hi
  refine ar (j:=0) (by kernel_rfl) ((Au _ _ _).trans ?_)
  refine ag (decide_eq_false (show ¬(((bY l x:Nat):Int)<(j:Int)) by omega)) ?_
  by_cases hc:bY l x<l.length
  ·have hx:l[bY l x]? = some l[bY l x]:=List.getElem?_eq_getElem hc
   refine ae (aT hc) ?_
   refine aa (aK hx) ?_
   refine aa (Ti hG l[bY l x] x) ?_
   refine congrArg (fun b:Bool=>some ((((bY l x:Nat):Int),(b,())),())) ?_
   rw [hx]
   unfold qf
   by_cases he:l[bY l x].1=x
   ·simp [he]
   ·simp [he];split<;>simp
  ·refine ag (decide_eq_false (show ¬(((bY l x:Nat):Int)<((l.length:Nat):Int)) by omega)) ?_
   refine congrArg (fun b:Bool=>some ((((bY l x:Nat):Int),(b,())),())) ?_
   rw [List.getElem?_eq_none (by omega)];simp
 intro n
 induction n with
 | zero=>intro i j yP h1 h2 h3;exact fin i j (by omega) h1 h2
 | succ n ih =>
  intro i j yP h1 h2 h3
  by_cases aG:i<j
  case neg=>exact fin i j aG h1 h2
  refine ar (j:=0) (by kernel_rfl) ((Au _ _ _).trans ?_)
  refine ae (decide_eq_true (show ((i:Int)<(j:Int)) by omega)) ?_
  refine ag rfl ?_
  have hm:=IU (i:=i) (j:=j) (by omega) (by omega)
  have hh:(i+j) / 2<l.length:=by omega
  have hx:l[(i+j) / 2]? = some l[(i+j) / 2]:=List.getElem?_eq_getElem hh
  have mZ:=vL (x:=x) hs ((i+j) / 2) _ hx
  refine aa (show aZ l (IntKind.wrap .i64 (kz .u64 (IntKind.wrap .u64 (IntKind.wrap .i64 ((i:Int)+(j:Int)))) (1:Int)))=some l[(i+j) / 2] by rw [hm];exact aK hx) ?_
  refine aa (Ti hG l[(i+j) / 2] x) ?_
  by_cases ho:fz l[(i+j) / 2].1 x=true
  ·refine ae (decide_eq_true ((mg _ _).2 ho)) ?_
   have hc:=mZ.1 ho
   have hw:IntKind.wrap .i64 (IntKind.wrap .i64 (kz .u64 (IntKind.wrap .u64 (IntKind.wrap .i64 ((i:Int)+(j:Int)))) (1:Int))+1)=(((i+j) / 2+1:Nat):Int):=by
    rw [hm];exact aI hh (by omega)
   have:=ih ((i+j) / 2+1) j (by omega) (by omega) h2 h3
   rw [←hw] at this
   exact this
  ·refine ag (decide_eq_false (fun h=>ho ((mg _ _).1 h))) ?_
   have hc:¬(i+j) / 2<bY l x:=fun h=>ho (mZ.2 h)
   have:=ih i ((i+j) / 2) (by omega) h1 (by omega) (by omega)
   rw [←hm] at this
   exact this
theorem Pk(hG:HG G)(l:List af)(x:ID)(hs:c7 l)(hl:l.length≤50000000) :
  FX G 139137 iP ((l,x,()),())=some (((((bY l x:Nat):Int),(decide ((l[bY l x]?).map (·.1)=some x),())):Int×(Bool×Unit)),()):=by
 refine au (fn:=Tryz.f137) (hG _ _ rfl) (by kernel_rfl) (by kernel_rfl) ((OI _ _ _).trans ?_)
 exact Pj hG l x hs hl l.length 0 l.length (by omega) (by omega) (Eu l x) (Nat.le_refl _)
theorem ns(hG:HG G)(w:aC)(x:ID)(hs:c7 w.2.1)(hl:w.2.1.length≤50000000) :
  FX G 115 ma ((x,()),(w,()))=some (((((bY w.2.1 x:Nat):Int),(decide ((w.2.1[bY w.2.1 x]?).map (·.1)=some x),())):Int×(Bool×Unit)),(w,())):=by
 refine au (fn:=Tryz.f115) (hG _ _ rfl) (by kernel_rfl) (by kernel_rfl) ((Xz _ _ _).trans ?_)
 exact aa (Pk hG w.2.1 x hs hl) rfl
theorem vM{x:ID}:∀{l:List af},c7 l→bf l x=(l[bY l x]?).filter fun v=>decide (v.1=x)
 | [],_=>rfl
 | w::r,hs=>by
  have hw:∀{u:af},u∈r→fz w.1 u.1=true:=fun {u} hu=>List.rel_of_pairwise_cons hs hu
  have hr:c7 r:=hs.of_cons
  by_cases aG:fz w.1 x=true
  ·have e:bY (w::r) x=bY r x+1:=by unfold bY;rw [List.countP_cons_of_pos (by simpa using aG)]
   have bh:¬w.1=x:=fun e=>by rw [e,b5] at aG;cases aG
   rw [e]
   simp only [bf,List.find?_cons,bh,decide_false,List.getElem?_cons_succ]
   exact vM hr
  ·have hn:∀u∈w::r,fz u.1 x=false:=fun u hu=>by
    rcases List.mem_cons.1 hu with rfl | hu
    ·simpa using aG
    ·rw [Bool.eq_false_iff];intro h2;exact aG (iv (hw hu) h2)
   rw [qZ hn]
   by_cases he:w.1=x
   ·simp [bf,List.find?_cons,he,Option.filter]
   ·have HK:fz x w.1=true:=kP (by simpa using aG) he
    have:bf r x=none:=by
     unfold bf;rw [List.find?_eq_none];intro u hu h2
     have h3:u.1=x:=by simpa using h2
     have h4:=hw hu
     rw [h3] at h4
     have:=kO h4
     rw [HK] at this;cases this
    rw [show bf (w::r) x=bf r x by simp only [bf,List.find?_cons,he,decide_false],this]
    simp [he,Option.filter]
theorem c5{l:List af}{x:ID}(hs:c7 l):decide ((l[bY l x]?).map (·.1)=some x)=(bf l x).isSome:=by
 rw [vM hs]
 cases h:l[bY l x]? with
 | none=>simp
 | some v=>by_cases he:v.1=x<;>simp [he,Option.filter]
theorem GO(v:af):∀{l:List af},c7 l→bf l v.1=none→dp v l=l.take (bY l v.1)++(v::l.drop (bY l v.1))
 | [],_,_=>rfl
 | w::r,hs,hf=>by
  have hw:∀{u:af},u∈r→fz w.1 u.1=true:=fun {u} hu=>List.rel_of_pairwise_cons hs hu
  have hr:c7 r:=hs.of_cons
  have bh:¬w.1=v.1:=fun e=>by simp [bf,e] at hf
  have Cw:bf r v.1=none:=by simpa [bf,List.find?_cons,bh] using hf
  by_cases aG:fz w.1 v.1=true
  ·have e:bY (w::r) v.1=bY r v.1+1:=by unfold bY;rw [List.countP_cons_of_pos (by simpa using aG)]
   have SD:fz v.1 w.1=false:=kO aG
   rw [e,dp,if_neg (by simp [SD]),GO v hr Cw]
   rfl
  ·have hn:∀u∈w::r,fz u.1 v.1=false:=fun u hu=>by
    rcases List.mem_cons.1 hu with rfl | hu
    ·simpa using aG
    ·rw [Bool.eq_false_iff];intro h2;exact aG (iv (hw hu) h2)
   have HK:fz v.1 w.1=true:=kP (by simpa using aG) bh
   rw [qZ hn,dp,if_pos HK];rfl
theorem vN{x:ID}:∀{l:List af},c7 l→(bf l x).isSome=true→cO l x=l.take (bY l x)++l.drop (bY l x+1)
 | [],_,hf=>by simp [bf] at hf
 | w::r,hs,hf=>by
  have hw:∀{u:af},u∈r→fz w.1 u.1=true:=fun {u} hu=>List.rel_of_pairwise_cons hs hu
  have hr:c7 r:=hs.of_cons
  by_cases he:w.1=x
  ·have hn:∀u∈w::r,fz u.1 x=false:=fun u hu=>by
    rcases List.mem_cons.1 hu with rfl | hu
    ·rw [he,b5]
    ·rw [←he];exact kO (hw hu)
   have eU:cO r x=r:=by
    unfold cO;rw [List.filter_eq_self];intro u hu
    have h4:=hw hu
    simp;intro e2;rw [he,e2,b5] at h4;cases h4
   rw [qZ hn]
   unfold cO
   rw [List.filter_cons_of_neg (by simp [he])]
   exact eU
  ·have Cw:(bf r x).isSome=true:=by simpa [bf,List.find?_cons,he] using hf
   have aG:fz w.1 x=true:=by
    obtain ⟨u,hu⟩:=Option.isSome_iff_exists.1 Cw
    have h1:=List.mem_of_find?_eq_some hu
    have h2:u.1=x:=by simpa using List.find?_some hu
    rw [←h2];exact hw h1
   have e:bY (w::r) x=bY r x+1:=by unfold bY;rw [List.countP_cons_of_pos (by simpa using aG)]
   rw [e]
   have:=vN hr Cw
   simp [cO,List.filter_cons,he] at this ⊢
   exact this
theorem vO(v:af):∀{l:List af},c7 l→bf l v.1=none→c7 (dp v l)
 | [],_,_=>List.pairwise_singleton _ _
 | w::r,hs,hf=>by
  have hw:∀{u:af},u∈r→fz w.1 u.1=true:=fun {u} hu=>List.rel_of_pairwise_cons hs hu
  have hr:c7 r:=hs.of_cons
  have bh:¬w.1=v.1:=fun e=>by simp [bf,e] at hf
  have Cw:bf r v.1=none:=by simpa [bf,List.find?_cons,bh] using hf
  unfold dp
  split
  ·rename_i h
   refine List.Pairwise.cons (fun u hu => ?_) hs
   rcases List.mem_cons.1 hu with rfl | hu
   ·exact h
   ·exact iv h (hw hu)
  ·rename_i h
   have aG:fz w.1 v.1=true:=kP (by simpa using h) (fun e=>bh e.symm)
   refine List.Pairwise.cons (fun u hu => ?_) (vO v hr Cw)
   rcases uB.1 hu with rfl | hu
   ·exact aG
   ·exact hw hu
theorem sX{l:List af}{x:ID}(hs:c7 l):c7 (cO l x):=hs.filter _
theorem cZ{l:List ah}{x:ID}{v:ah}(hs:bW l)(h:aR l x=some v):l[bC l x]? = some v:=by
 have j8:=qY (x:=x) hs
 rw [h] at j8
 cases hg:l[bC l x]? with
 | none=>rw [hg] at j8;simp [Option.filter] at j8
 | some u =>
  rw [hg] at j8
  simp only [Option.filter] at j8
  split at j8
  ·exact j8.symm
  ·cases j8
theorem j9{l:List ah}{x:ID}{v:ah}(h:aR l x=some v):v.1=x:=by simpa using List.find?_some h
theorem fW{l:List ah}{x:ID}{v:ah}(h:aR l x=some v):v∈l:=List.mem_of_find?_eq_some h
theorem jA{l:List ah}{x:ID}{k:Nat}{u:ah}(hs:bW l)(hk:l[k]? = some u)(hu:u.1=x):k=bC l x:=by
 have h1:¬k<bC l x:=fun h=>by
  have:=(vJ hs k u hk).2 h
  rw [hu,b5] at this;cases this
 have hf:(aR l x).isSome=true:=by
  unfold aR;rw [List.find?_isSome];exact ⟨u,List.mem_of_getElem? hk,by simp [hu]⟩
 obtain ⟨v,hv⟩:=Option.isSome_iff_exists.1 hf
 have hg:=cZ hs hv
 by_cases h2:bC l x<k
 ·obtain ⟨h3,h4⟩:=List.getElem?_eq_some_iff.1 hg
  obtain ⟨h5,h6⟩:=List.getElem?_eq_some_iff.1 hk
  have:=List.pairwise_iff_getElem.1 hs _ _ h3 h5 h2
  rw [h4,h6,j9 hv,hu,b5] at this;cases this
 ·omega
theorem GQ{l:List ah}{x:ID}{v:ah}(hs:bW l)(h:aR l x=some v)(g f:ah→ah)(h1:∀w,w.1=x→g w=f w)(h2:∀w,w.1≠x→g w=w):l.map g=l.set (bC l x) (f v):=by
 have hg:=cZ hs h
 apply List.ext_getElem?
 intro k
 rw [List.getElem?_map,List.getElem?_set]
 by_cases hk:bC l x=k
 ·subst hk
  rw [if_pos rfl,if_pos (List.getElem?_eq_some_iff.1 hg).1,hg]
  simp [h1 v (j9 h)]
 ·rw [if_neg hk]
  cases hu:l[k]? with
  | none=>rfl
  | some u =>
   have:u.1≠x:=fun e=>hk (jA hs hu e).symm
   simp [h2 u this]
theorem lG{l:List af}{x:ID}{v:af}(hs:c7 l)(h:bf l x=some v):l[bY l x]? = some v:=by
 have j8:=vM (x:=x) hs
 rw [h] at j8
 cases hg:l[bY l x]? with
 | none=>rw [hg] at j8;simp [Option.filter] at j8
 | some u =>
  rw [hg] at j8
  simp only [Option.filter] at j8
  split at j8
  ·exact j8.symm
  ·cases j8
theorem uC{l:List af}{x:ID}{v:af}(h:bf l x=some v):v.1=x:=by simpa using List.find?_some h
theorem LO{l:List af}{x:ID}{v:af}(h:bf l x=some v):v∈l:=List.mem_of_find?_eq_some h
theorem LP{l:List af}{x:ID}{k:Nat}{u:af}(hs:c7 l)(hk:l[k]? = some u)(hu:u.1=x):k=bY l x:=by
 have h1:¬k<bY l x:=fun h=>by
  have:=(vL hs k u hk).2 h
  rw [hu,b5] at this;cases this
 have hf:(bf l x).isSome=true:=by
  unfold bf;rw [List.find?_isSome];exact ⟨u,List.mem_of_getElem? hk,by simp [hu]⟩
 obtain ⟨v,hv⟩:=Option.isSome_iff_exists.1 hf
 have hg:=lG hs hv
 by_cases h2:bY l x<k
 ·obtain ⟨h3,h4⟩:=List.getElem?_eq_some_iff.1 hg
  obtain ⟨h5,h6⟩:=List.getElem?_eq_some_iff.1 hk
  have:=List.pairwise_iff_getElem.1 hs _ _ h3 h5 h2
  rw [h4,h6,uC hv,hu,b5] at this;cases this
 ·omega
theorem Pn{l:List af}{x:ID}{v:af}(hs:c7 l)(h:bf l x=some v)(g f:af→af)(h1:∀w,w.1=x→g w=f w)(h2:∀w,w.1≠x→g w=w):l.map g=l.set (bY l x) (f v):=by
 have hg:=lG hs h
 apply List.ext_getElem?
 intro k
 rw [List.getElem?_map,List.getElem?_set]
 by_cases hk:bY l x=k
 ·subst hk
  rw [if_pos rfl,if_pos (List.getElem?_eq_some_iff.1 hg).1,hg]
  simp [h1 v (uC h)]
 ·rw [if_neg hk]
  cases hu:l[k]? with
  | none=>rfl
  | some u =>
   have:u.1≠x:=fun e=>hk (LP hs hu e).symm
   simp [h2 u this]
theorem c7.map{l:List af}(h:c7 l){f:af→af}(hf:∀v,(f v).1=v.1):c7 (l.map f):=by
 unfold c7 at h ⊢
 rw [List.pairwise_map]
 exact h.imp fun {a b} Br=>by rw [hf,hf];exact Br
end Go.Vs
namespace Go.Vs
open Go.Proofs
variable {G:(f:FuncId)→(g:aJ)→Option (g.A→Option g.B)}
theorem rZ{α R:Type}{o:Option α}{a r:Option R}{f:α→Option R}{p:α}(h:o=some p)(k:f p=r):po o a f=r:=by subst h;exact k
theorem Kh{α R:Type}{o:Option α}{a r:Option R}{f:α→Option R}(h:o=none)(k:a=r):po o a f=r:=by subst h;exact k
def r8(w:aC)(x:ID):Int×aC :=
 if (bf w.2.1 x).isSome=true then (12,w) else if 40≤w.2.1.length then (3,w) else (0,(w.1,(dp (x,(e0,0)) w.2.1,w.2.2)))
theorem Tj(hG:HG G)(w:aC)(x:ID)(hs:c7 w.2.1)(hl:w.2.1.length≤50000000):FX G 110 wP ((x,()),(w,()))=some (((r8 w x).1,()),((r8 w x).2,())):=by
 refine au (fn:=Tryz.f110) (hG _ _ rfl) (by kernel_rfl) (by kernel_rfl) ((Xv _ _ _).trans ?_)
 refine aa (ns hG w x hs hl) ?_
 unfold r8
 cases hf:(bf w.2.1 x).isSome
 ·rw [if_neg (by simp)]
  refine ag ((c5 hs).trans hf) ?_
  by_cases h2:40≤w.2.1.length
  ·rw [if_pos h2]
   exact ae (decide_eq_true (show ((w.2.1.length:Nat):Int)≥40 by omega)) rfl
  ·rw [if_neg h2]
   refine ag (decide_eq_false (show ¬((w.2.1.length:Nat):Int)≥40 by omega)) ?_
   have hc:=Eu w.2.1 x
   have lJ:pq w.2.1 ((bY w.2.1 x:Nat):Int) [((x,(e0,0)):af)]=true:=by
    unfold pq
    rw [decide_eq_true (show (0:Int)≤((bY w.2.1 x:Nat):Int) by omega),decide_eq_true (show ((bY w.2.1 x:Nat):Int)≤((w.2.1.length:Nat):Int) by omega)]
    rw [fits (by simp;omega)];rfl
   refine ae lJ ?_
   have e:fE w.2.1 ((bY w.2.1 x:Nat):Int) [((x,(e0,0)):af)]=dp (x,(e0,0)) w.2.1:=by
    rw [GO (x,(e0,0)) hs (by simpa using hf)]
    unfold fE;simp
   exact congrArg (fun l:List af=>some (((0:Int),()),((w.1,(l,w.2.2)),()))) e
 ·rw [if_pos rfl]
  exact ae ((c5 hs).trans hf) rfl
def AJ(w:aC)(o:bw):Option (Fin 2×Nat) :=
 if mF o=true then (if (bf w.2.1 (aS o)).isSome=true then some (⟨1,by decide⟩,bY w.2.1 (aS o)) else none)
 else (if (aR w.1 (aS o)).isSome=true then some (⟨0,by decide⟩,bC w.1 (aS o)) else none)
theorem YY(hG:HG G)(w:aC)(o:bw)(hv:bW w.1)(he:c7 w.2.1)(Tk:w.1.length≤50000000)(hle:w.2.1.length≤50000000) :
  FX G 124 F6 ((o,()),(w,()))=some ((AJ w o,(AJ w o,())),(w,())):=by
 refine au (fn:=Tryz.f124) (hG _ _ rfl) (by kernel_rfl) (by kernel_rfl) ((XH _ _ _).trans ?_)
 unfold AJ
 by_cases ho:mF o=true
 ·rw [if_pos ho]
  refine ae ho ?_
  refine aa (ns hG w (aS o) he hle) ?_
  cases hf:bf w.2.1 (aS o) with
  | none =>
   refine ag ((c5 he).trans (by rw [hf];rfl)) ?_
   rfl
  | some e =>
   refine ae ((c5 he).trans (by rw [hf];rfl)) ?_
   have aG:=(List.getElem?_eq_some_iff.1 (lG he hf)).1
   refine ae (dx (eI _) (aT aG)) ?_
   exact ae (dx (eI _) (aT aG)) rfl
 ·rw [if_neg ho]
  refine ag (by simpa using ho) ?_
  refine aa (oT hG w (aS o) hv Tk) ?_
  cases hf:aR w.1 (aS o) with
  | none =>
   refine ag ((fg hv).trans (by rw [hf];rfl)) ?_
   rfl
  | some e =>
   refine ae ((fg hv).trans (by rw [hf];rfl)) ?_
   have aG:=(List.getElem?_eq_some_iff.1 (cZ hv hf)).1
   refine ae (dx (eI _) (aT aG)) ?_
   exact ae (dx (eI _) (aT aG)) rfl
def sY(w:aC)(o:bw):Int×aC :=
 if mF o=true then (if (bf w.2.1 (aS o)).isSome=true then (0,(w.1,(w.2.1.map (jz o),w.2.2))) else (13,w))
 else (if (aR w.1 (aS o)).isSome=true then (0,(w.1.map (iB o),w.2)) else (13,w))
theorem aec(hG:HG G)(w:aC)(o:bw)(hv:bW w.1)(he:c7 w.2.1)(Tk:w.1.length≤50000000)(hle:w.2.1.length≤50000000) :
  FX G 96 NW ((o,()),(w,()))=some (((sY w o).1,()),((sY w o).2,())):=by
 refine au (fn:=Tryz.f96) (hG _ _ rfl) (by kernel_rfl) (by kernel_rfl) ((ac9 _ _ _).trans ?_)
 refine aa (YY hG w o hv he Tk hle) ?_
 by_cases ho:mF o=true
 ·cases hf:bf w.2.1 (aS o) with
  | none =>
   have e1:AJ w o=none:=by unfold AJ;rw [if_pos ho,hf];rfl
   have e2:sY w o=(13,w):=by unfold sY;rw [if_pos ho,hf];rfl
   rw [e2]
   exact Kh e1 (Kh e1 rfl)
  | some e =>
   have e1:AJ w o=some (⟨1,by decide⟩,bY w.2.1 (aS o)):=by unfold AJ;rw [if_pos ho,hf];rfl
   have hm:∀f:af→af,(∀u,u.1=aS o→jz o u=f u)→w.2.1.map (jz o)=w.2.1.set (bY w.2.1 (aS o)) (f e):=fun f hf1 =>
    Pn he hf (jz o) f hf1 (fun u hu=>by unfold jz;rw [if_neg (fun k=>hu k.2)])
   have e2:sY w o=(0,(w.1,(w.2.1.map (jz o),w.2.2))):=by unfold sY;rw [if_pos ho,hf];rfl
   rw [e2]
   refine rZ e1 (ag rfl (ae rfl (rZ e1 (ag rfl (ae rfl ?_)))))
   by_cases h7:o.1=7
   ·refine ae (EM h7) (aa (lG he hf) ?_)
    have:=hm (fun u=>(u.1,(np o,u.2.2))) (fun u hu=>by unfold jz;rw [if_pos ⟨ho,hu⟩,if_pos h7])
    exact congrArg (fun l:List af=>some (((0:Int),()),((w.1,(l,w.2.2)),()))) this.symm
   ·refine ag (w4 h7) (aa (lG he hf) ?_)
    have:=hm (fun u=>(u.1,(u.2.1,oN o))) (fun u hu=>by unfold jz;rw [if_pos ⟨ho,hu⟩,if_neg h7])
    exact congrArg (fun l:List af=>some (((0:Int),()),((w.1,(l,w.2.2)),()))) this.symm
 ·have my:mF o=false:=by simpa using ho
  cases hf:aR w.1 (aS o) with
  | none =>
   have e1:AJ w o=none:=by unfold AJ;rw [if_neg ho,hf];rfl
   have e2:sY w o=(13,w):=by unfold sY;rw [if_neg ho,hf];rfl
   rw [e2]
   exact Kh e1 (Kh e1 rfl)
  | some e =>
   have e1:AJ w o=some (⟨0,by decide⟩,bC w.1 (aS o)):=by unfold AJ;rw [if_neg ho,hf];rfl
   have hm:∀f:ah→ah,(∀u,u.1=aS o→iB o u=f u)→w.1.map (iB o)=w.1.set (bC w.1 (aS o)) (f e):=fun f hf1 =>
    GQ hv hf (iB o) f hf1 (fun u hu=>by unfold iB;rw [if_neg (fun k=>hu k.2)])
   have e2:sY w o=(0,(w.1.map (iB o),w.2)):=by unfold sY;rw [if_neg ho,hf];rfl
   rw [e2]
   refine rZ e1 (ae rfl (rZ e1 (ae rfl ?_)))
   by_cases h7:o.1=7
   ·refine ae (EM h7) (aa (cZ hv hf) ?_)
    have:=hm (fun u=>(u.1,(u.2.1,(np o,u.2.2.2)))) (fun u hu=>by unfold iB;rw [if_pos ⟨my,hu⟩,if_pos h7])
    exact congrArg (fun l:List ah=>some (((0:Int),()),((l,w.2),()))) this.symm
   ·refine ag (w4 h7) (aa (cZ hv hf) ?_)
    have:=hm (fun u=>(u.1,(u.2.1,(u.2.2.1,oN o)))) (fun u hu=>by unfold iB;rw [if_pos ⟨my,hu⟩,if_neg h7])
    exact congrArg (fun l:List ah=>some (((0:Int),()),((l,w.2),()))) this.symm
end Go.Vs
namespace Go.Vs
open Go.Proofs
variable {G:(f:FuncId)→(g:aJ)→Option (g.A→Option g.B)}
theorem Tl(hG:HG G)(a b:ab):FX G 142 CF ((a,b,()),())=some ((mD a b,()),()):=by
 refine au (fn:=Tryz.f142) (hG _ _ rfl) (by kernel_rfl) (by kernel_rfl) ((XT _ _ _).trans ?_)
 refine aa (Pc hG a.1 b.1) ?_
 refine aa (Pb hG a.2 b.2) ?_
 refine aa (Tf (hG _ _ rfl) (qf a.1 b.1) (IT a.2 b.2)) ?_
 refine congrArg (fun n:Int=>some ((n,()),())) ?_
 obtain ⟨a1,a2⟩:=a
 obtain ⟨b1,b2⟩:=b
 unfold mD qf IT ku
 simp only [Prod.mk.injEq]
 by_cases h:a1=b1
 ·subst h
  simp only [if_true,b5,Bool.false_or,true_and,decide_true,Bool.true_and]
  by_cases h1:a2<b2
  ·have:¬a2=b2:=by omega
   simp [h1,this]
  ·by_cases h2:a2 > b2
   ·have:¬a2=b2:=by omega
    simp [h1,h2,this]
   ·have:a2=b2:=by omega
    simp [this]
 ·simp only [h,if_false,false_and,decide_false,Bool.false_and,Bool.or_false]
  cases fz a1 b1<;>simp
theorem YZ(hG:G 134 ly=none)(row:List ab)(d:ab)(hl:row.length≤1073741824):∀(n i:Nat),i+n=row.length →
  LX G 134 ly Tryz.f134 uc (aP Tryz.prog 134 0) ((row,(((row.length:Nat):Int),((i:Int),()))),(((d,()),()),()))=some ((idx d (row.drop i) i,()),()):=by
 intro n
 induction n with
 | zero =>
  intro i hi
  refine ar (j:=0) (by kernel_rfl) ((JU _ _ _).trans ?_)
  refine ag (decide_eq_false (show ¬((i:Int)<((row.length:Nat):Int)) by omega)) ?_
  rw [List.drop_eq_nil_of_le (by omega)];rfl
 | succ n ih =>
  intro i hi
  have aG:i<row.length:=by omega
  refine ar (j:=0) (by kernel_rfl) ((JU _ _ _).trans ?_)
  refine ae (aT aG) (aa (aK (List.getElem?_eq_getElem aG)) ?_)
  rw [List.drop_eq_getElem_cons aG,idx]
  by_cases he:row[i]=d
  ·rw [if_pos he]
   exact ae ((kj d row[i]).trans (decide_eq_true he.symm)) rfl
  ·rw [if_neg he]
   refine ag ((kj d row[i]).trans (decide_eq_false fun h=>he h.symm)) ?_
   rw [aI aG hl]
   exact ih (i+1) (by omega)
theorem AK(hG:G 134 ly=none)(row:List ab)(d:ab)(hl:row.length≤1073741824):FX G 134 ly ((row,d,()),())=some ((idx d row 0,()),()):=by
 refine au (fn:=Tryz.f134) hG (by kernel_rfl) (by kernel_rfl) ((XN _ _ _).trans ?_)
 have:=YZ hG row d hl row.length 0 (by omega)
 rw [List.drop_zero] at this
 exact this
theorem CR(hG:HG G)(row:List ab)(d:ab)(hl:row.length≤1073741824):FX G 133 tV ((row,d,()),())=some ((decide (d∈row),()),()):=by
 refine au (fn:=Tryz.f133) (hG _ _ rfl) (by kernel_rfl) (by kernel_rfl) ((XM _ _ _).trans ?_)
 refine aa (AK (hG _ _ rfl) row d hl) ?_
 refine congrArg (fun b:Bool=>some ((b,()),())) ?_
 rw [Bool.eq_iff_iff]
 simp only [decide_eq_true_eq]
 have:=dX (d:=d) (row:=row)
 constructor
 ·intro h;exact Classical.byContradiction fun k=>by have:=this.2 k;omega
 ·intro h
  have h2:¬idx d row 0<0:=fun k=>this.1 k h
  omega
theorem dy(a:ab):ku a a=false:=by unfold ku;simp [b5]
theorem fX{a b c:ab}(h:ku a b=true)(k:ku b c=true):ku a c=true:=by
 obtain ⟨⟨a1,a2⟩,a3⟩:=a;obtain ⟨⟨b1,b2⟩,b3⟩:=b;obtain ⟨⟨c1,c2⟩,c3⟩:=c
 simp [ku,fz] at *;omega
theorem vP{a b:ab}(h:ku a b=false)(k:a≠b):ku b a=true:=by
 obtain ⟨⟨a1,a2⟩,a3⟩:=a;obtain ⟨⟨b1,b2⟩,b3⟩:=b
 simp [ku,fz] at *;omega
theorem Ev{a b c:ab}(h:ku a b=true)(k:ku c b=false):ku a c=true:=by
 obtain ⟨⟨a1,a2⟩,a3⟩:=a;obtain ⟨⟨b1,b2⟩,b3⟩:=b;obtain ⟨⟨c1,c2⟩,c3⟩:=c
 simp [ku,fz] at *;omega
theorem xZ(a b:ab):mD a b<0↔ku a b=true:=by
 unfold mD
 by_cases h:a=b
 ·subst h;simp [dy]
 ·rw [if_neg h];cases ku a b<;>simp
theorem oy{row:List ab}{k:Nat}(hk:k<row.length):row.getD k zD=row[k]:=by simp [List.getD,hk]
theorem vQ(row:List ab):∀(r:List ab) (i k:Nat),row.drop i=r→k<row.length→k≤i→(∀j,j<i→(hj:j<row.length)→ku row[j] (row.getD k zD)=false)→(∀j,j<k→(hj:j<row.length)→ku (row.getD k zD) row[j]=true) →
  (∀j,(hj:j<row.length)→ku row[j] (row.getD (eX row r i k) zD)=false)∧(∀j,j<eX row r i k→(hj:j<row.length)→ku (row.getD (eX row r i k) zD) row[j]=true)
 | [],i,k,hr,hk,hki,h1,h2=>by
  have hi:row.length≤i:=by
   have:=congrArg List.length hr;simp at this;omega
  exact ⟨fun j hj=>h1 j (by omega) hj,h2⟩
 | x::r,i,k,hr,hk,hki,h1,h2=>by
  have hi:i<row.length:=by
   have:=congrArg List.length hr;simp at this;omega
  have hx:row[i]=x:=by
   have:=List.drop_eq_getElem_cons hi;rw [hr] at this;injection this with a b;exact a.symm
  have qD:row.drop (i+1)=r:=by
   have:=List.drop_eq_getElem_cons hi;rw [hr] at this;injection this with a b;exact b.symm
  unfold eX
  split
  ·rename_i aG
   rw [xZ] at aG
   refine vQ row r (i+1) i qD hi (by omega) (fun j hj HE => ?_) (fun j hj HE => ?_)
   ·rw [oy hi,hx]
    rcases Nat.lt_succ_iff_lt_or_eq.1 hj with hj | rfl
    ·cases hc:ku row[j] x with
     | false=>rfl
     | true=>have:=fX hc aG;rw [h1 j hj HE] at this;cases this
    ·rw [hx,dy]
   ·rw [oy hi,hx]
    exact Ev aG (h1 j (by omega) HE)
  ·rename_i aG
   rw [xZ] at aG
   refine vQ row r (i+1) k qD hk (by omega) (fun j hj HE => ?_) h2
   rcases Nat.lt_succ_iff_lt_or_eq.1 hj with hj | rfl
   ·exact h1 j hj HE
   ·rw [hx];simpa using aG
theorem sZ{row:List ab}(h:0<row.length):(∀j,(hj:j<row.length)→ku row[j] (row.getD (eX row row 0 0) zD)=false)∧(∀j,j<eX row row 0 0→(hj:j<row.length)→ku (row.getD (eX row row 0 0) zD) row[j]=true) :=
 vQ row row 0 0 rfl h (Nat.le_refl _) (fun j hj=>by omega) (fun j hj=>by omega)
theorem IV{d:ab}:∀{row:List ab} {k:Nat} {i:Int},row[k]? = some d→(∀j,j<k→row[j]?≠some d)→idx d row i=i+k
 | [],k,i,h,_=>by simp at h
 | e::r,0,i,h,_=>by
  simp at h;subst h;rw [idx,if_pos rfl];simp
 | e::r,k+1,i,h,hn=>by
  have h0:=hn 0 (by omega)
  rw [idx,if_neg (fun e=>h0 (by simp [e]))]
  rw [IV (k:=k) (by simpa using h) (fun j hj=>by have:=hn (j+1) (by omega);simpa using this)]
  simp;omega
theorem Po{row:List ab}(h:0<row.length):idx (row.getD (eX row row 0 0) zD) row 0=((eX row row 0 0:Nat):Int):=by
 have hm:=ov row row 0 0 h (by omega)
 have:=IV (d:=row.getD (eX row row 0 0) zD) (row:=row) (k:=eX row row 0 0) (i:=0) (by rw [oy hm];exact List.getElem?_eq_getElem hm) (fun j hj he=>by
  obtain ⟨h1,h2⟩:=List.getElem?_eq_some_iff.1 he
  have:=(sZ h).2 j hj h1
  rw [h2,dy] at this;cases this)
 omega
theorem Pp(hG:HG G)(row:List ab)(h:0<row.length)(hl:row.length≤100000000):FX G 143141 jZ ((row,()),())=some ((row.getD (eX row row 0 0) zD,()),()):=by
 refine au (fn:=Tryz.f141) (hG _ _ rfl) (by kernel_rfl) (by kernel_rfl) ((OJ _ _ _).trans ?_)
 refine ag (decide_eq_false (show ¬((row.length:Nat):Int)<1 by omega)) ?_
 refine aa (aK (i:=0) (List.getElem?_eq_getElem h)) ?_
 have loop:∀(n i k:Nat),i+n=row.length→k<row.length→LX G 143141 jZ Tryz.f141 jw (aP Tryz.prog 141 0) ((row,((i:Int),())),(((zD,()),(((row.getD k zD),()),())),()))=some ((row.getD (eX row (row.drop i) i k) zD,()),()):=by
  intro n
  induction n with
  | zero =>
   intro i k hi hk
   refine ar (j:=0) (by kernel_rfl) ((Av _ _ _).trans ?_)
   refine ag (decide_eq_false (show ¬((i:Int)<((row.length:Nat):Int)) by omega)) ?_
   rw [List.drop_eq_nil_of_le (by omega)];rfl
  | succ n ih =>
   intro i k hi hk
   have aG:i<row.length:=by omega
   have hx:row[i]? = some row[i]:=List.getElem?_eq_getElem aG
   refine ar (j:=0) (by kernel_rfl) ((Av _ _ _).trans ?_)
   refine ae (aT aG) (aa (aK hx) ?_)
   refine aa (Tl hG row[i] (row.getD k zD)) ?_
   rw [List.drop_eq_getElem_cons aG,eX]
   by_cases ho:mD row[i] (row.getD k zD)<0
   ·rw [if_pos ho]
    refine ae (decide_eq_true ho) (aa (aK hx) ?_)
    have:=ih (i+1) i (by omega) aG
    rw [←aI aG (by omega),oy aG] at this
    exact this
   ·rw [if_neg ho]
    refine ag (decide_eq_false ho) ?_
    have:=ih (i+1) k (by omega) hk
    rw [←aI aG (by omega)] at this
    exact this
 have h1:=loop (row.length - 1) 1 0 (by omega) h
 have h2:eX row row 0 0=eX row (row.drop 1) 1 0:=by
  cases row with
  | nil=>simp at h
  | cons x r =>
   rw [List.drop_one,List.tail_cons]
   conv=>lhs;rw [eX]
   rw [if_neg]
   show ¬mD x x<0
   unfold mD;simp
 rw [h2]
 have h3:row.getD 0 zD=row[0]:=oy h
 rw [h3] at h1
 exact h1
def total(ls:List (List ab)):Nat:=(ls.map List.length).sum
theorem AL(a:List ab)(r:List (List ab)):total (a::r)=a.length+total r:=by unfold total;rw [List.map_cons,List.sum_cons]
theorem Tn(hG:HG G)(ls:List (List ab))(hn:ls.length≤1000)(hl:total ls≤500000000):FX G 143 nh ((ls,()),())=some ((ls.flatten,()),()):=by
 refine au (fn:=Tryz.f143) (hG _ _ rfl) (by kernel_rfl) (by kernel_rfl) ((XU _ _ _).trans ?_)
 have Y0:∀(n i:Nat) (out:List ab),i+n=ls.length→out.length+total (ls.drop i)≤500000000→LX G 143 nh Tryz.f143 ue (aP Tryz.prog 143 1) ((ls,(((ls.length:Nat):Int),((i:Int),()))),((),(out,())))=some ((out++(ls.drop i).flatten,()),()):=by
  intro n
  induction n with
  | zero =>
   intro i out hi ho
   refine ar (j:=1) (by kernel_rfl) ((JW _ _ _).trans ?_)
   refine ag (decide_eq_false (show ¬((i:Int)<((ls.length:Nat):Int)) by omega)) ?_
   rw [List.drop_eq_nil_of_le (by omega),List.flatten_nil,List.append_nil];rfl
  | succ n ih =>
   intro i out hi ho
   have aG:i<ls.length:=by omega
   rw [List.drop_eq_getElem_cons aG] at ho ⊢
   have my:out.length+(ls[i].length+total (ls.drop (i+1)))≤500000000:=by
    have:total (ls[i]::ls.drop (i+1))=ls[i].length+total (ls.drop (i+1)):=AL _ _
    omega
   refine ar (j:=1) (by kernel_rfl) ((JW _ _ _).trans ?_)
   refine ae (aT aG) (aa (aK (List.getElem?_eq_getElem aG)) ?_)
   refine ae (fits (show out.length+ls[i].length≤1073741824 by omega)) ?_
   have:=ih (i+1) (out++ls[i]) (by omega) (by rw [List.length_append];omega)
   rw [List.flatten_cons,←List.append_assoc]
   rw [←aI aG (by omega)] at this
   exact this
 have Y1:∀(n i m:Nat),i+n=ls.length→m+total (ls.drop i)=total ls→LX G 143 nh Tryz.f143 ud (aP Tryz.prog 143 0) ((ls,((m:Int),(ls,(((ls.length:Nat):Int),((i:Int),()))))),((),()))=some ((ls.flatten,()),()):=by
  intro n
  induction n with
  | zero =>
   intro i m hi hm
   refine ar (j:=0) (by kernel_rfl) ((JV _ _ _).trans ?_)
   refine ag (decide_eq_false (show ¬((i:Int)<((ls.length:Nat):Int)) by omega)) ?_
   have hg:yu (m:Int)=true:=by
    unfold yu
    rw [decide_eq_true (show (0:Int)≤(m:Int) by omega)]
    rw [decide_eq_true (show (m:Int)≤fh by unfold fh;omega)];rfl
   refine ae hg ?_
   have:=Y0 ls.length 0 [] (by omega) (by rw [List.drop_zero];simpa using hl)
   rw [List.drop_zero,List.nil_append] at this
   exact this
  | succ n ih =>
   intro i m hi hm
   have aG:i<ls.length:=by omega
   have QX:m+ls[i].length+total (ls.drop (i+1))=total ls:=by
    rw [List.drop_eq_getElem_cons aG] at hm
    have:total (ls[i]::ls.drop (i+1))=ls[i].length+total (ls.drop (i+1)):=AL _ _
    omega
   refine ar (j:=0) (by kernel_rfl) ((JV _ _ _).trans ?_)
   refine ae (aT aG) (aa (aK (List.getElem?_eq_getElem aG)) ?_)
   have hw:IntKind.wrap .i64 ((m:Int)+((ls[i].length:Nat):Int))=((m+ls[i].length:Nat):Int):=by rw [wrap_small (by omega) (by omega)];rfl
   refine ag (decide_eq_false (show ¬IntKind.wrap .i64 ((m:Int)+((ls[i].length:Nat):Int))<0 by rw [hw];omega)) ?_
   have:=ih (i+1) (m+ls[i].length) (by omega) QX
   rw [←aI aG (by omega),←hw] at this
   exact this
 exact Y1 ls.length 0 0 (by omega) (by rw [List.drop_zero];omega)
theorem ya{α:Type}(xs:List α){k:Nat}(hk:k≤xs.length):cut xs (k:Int) ((xs.length:Nat):Int)=xs.drop k:=by
 unfold cut;rw [Int.toNat_natCast,Int.toNat_natCast,List.take_of_length_le (Nat.le_refl _)]
theorem q6{α:Type}(xs:List α)(k:Nat):cut xs 0 (k:Int)=xs.take k:=by
 unfold cut;rw [Int.toNat_natCast];rfl
theorem Ew{n k:Nat}(h:k≤n):aW n (k:Int) ((n:Nat):Int)=true:=by unfold aW;simp;omega
theorem uD{n k:Nat}(h:k≤n):aW n 0 (k:Int)=true:=by unfold aW;simp;omega
theorem CS(hG:HG G)(row:List ab)(hl:row.length≤100000000):FX G 123 p6 ((row,()),())=some ((cH row,()),()):=by
 refine au (fn:=Tryz.f123) (hG _ _ rfl) (by kernel_rfl) (by kernel_rfl) ((XG _ _ _).trans ?_)
 by_cases h0:row.length=0
 ·refine ae (show (((row.length:Nat):Int)==0)=true by simp [h0]) ?_
  have:row=[]:=by simpa using h0
  subst this;rfl
 refine ag (show (((row.length:Nat):Int)==0)=false by rw [beq_eq_false_iff_ne];omega) ?_
 have hp:0<row.length:=by omega
 have hm:=ov row row 0 0 hp (by omega)
 refine aa (Pp hG row hp hl) ?_
 refine aa (AK (hG _ _ rfl) row (row.getD (eX row row 0 0) zD) (by omega)) ?_
 rw [Po hp]
 refine ae (Ew (n:=row.length) (k:=eX row row 0 0) (by omega)) (ae (uD (n:=row.length) (k:=eX row row 0 0) (by omega)) ?_)
 have key:∀a b:List ab,a=row.drop (eX row row 0 0)→b=row.take (eX row row 0 0)→((FX G 143 nh (([a,b],()),())).bind fun (y3:(((List ab)×Unit)×Unit))=>some (y3.1,()))=some ((cH row,()),()):=by
  intro a b ha hb
  subst ha hb
  refine aa (Tn hG [row.drop (eX row row 0 0),row.take (eX row row 0 0)] (by simp) (by unfold total;simp;omega)) ?_
  unfold cH Bv
  simp only [List.flatten_cons,List.flatten_nil,List.append_nil]
 exact key _ _ (ya row (by omega)) (q6 row _)
theorem Pq(hG:HG G)(ls:List (List ab))(hn:ls.length≤1000)(hl:total ls≤100000000):FX G 135 ng ((ls,()),())=some ((cH ls.flatten,()),()):=by
 refine au (fn:=Tryz.f135) (hG _ _ rfl) (by kernel_rfl) (by kernel_rfl) ((XO _ _ _).trans ?_)
 refine aa (Tn hG ls hn (by omega)) ?_
 have hlen:ls.flatten.length=total ls:=by unfold total;exact List.length_flatten
 exact aa (CS hG ls.flatten (by omega)) rfl
theorem Pr(hG:HG G)(row:List ab)(after d:ab)(hl:row.length≤50000000):FX G 113 zN ((row,after,d,()),())=some ((lC row after d,()),()):=by
  refine au (fn:=Tryz.f113) (hG _ _ rfl) (by kernel_rfl) (by kernel_rfl) ((Xx _ _ _).trans ?_)
  refine aa (CR hG row d (by omega)) ?_
  unfold lC
  by_cases hd:d∈row
  · rw [if_pos hd]
    exact ae (decide_eq_true hd) (aa (CS hG row (by omega)) rfl)
  rw [if_neg hd]
  refine ag (decide_eq_false hd) ?_
  refine aa (AK (hG _ _ rfl) row after (by omega)) ?_
  have hr:idx after row 0<((row.length:Nat):Int)∨row.length=0∧idx after row 0 = -1:=by
    rcases nj after row 0 (by omega) with ⟨h,_⟩ | ⟨k,h,hk,_⟩
    · by_cases h0:row.length=0
      · exact .inr ⟨h0,h⟩
      · exact .inl (by omega)
    · have:=(List.getElem?_eq_some_iff.1 hk).1
      exact .inl (by omega)
  have hm:max (idx after row 0) (0:Int)=max 0 (idx after row 0):=by omega
  have hw:IntKind.wrap .i64 (max (idx after row 0) (0:Int)+1)=(((max 0 (idx after row 0)).toNat+1:Nat):Int):=by
    rw [wrap_small (by omega) (by omega)];omega
  obtain ⟨k,hk,nH,My⟩:∃k:Nat,min (IntKind.wrap .i64 (max (idx after row 0) (0:Int)+1)) ((row.length:Nat):Int)=(k:Int)∧k≤row.length∧row.take k++(d::row.drop k)=row.take ((max 0 (idx after row 0)).toNat+1)++(d::row.drop ((max 0 (idx after row 0)).toNat+1)):=by
    rw [hw]
    by_cases h0:row.length=0
    · have:row=[]:=by simpa using h0
      subst this
      exact ⟨0,by simp;omega,by simp,by simp⟩
    · exact ⟨(max 0 (idx after row 0)).toNat+1,by omega,by omega,rfl⟩
  have uO:(min (IntKind.wrap .i64 ((max (idx after row 0) (0:Int):Int)+(1:Int))) (((List.length row):Nat):Int):Int)=(k:Int):=hk
  show cond (aW (List.length row) (0:Int) (min (IntKind.wrap .i64 ((max (idx after row 0) (0:Int):Int)+(1:Int))) (((List.length row):Nat):Int):Int))
    (cond (aW (List.length row) (min (IntKind.wrap .i64 ((max (idx after row 0) (0:Int):Int)+(1:Int))) (((List.length row):Nat):Int):Int) (((List.length row):Nat):Int))
     ((FX G 135 ng ((((cut row (0:Int) (min (IntKind.wrap .i64 ((max (idx after row 0) (0:Int):Int)+(1:Int))) (((List.length row):Nat):Int):Int))::([d]::((cut row (min (IntKind.wrap .i64 ((max (idx after row 0) (0:Int):Int)+(1:Int))) (((List.length row):Nat):Int):Int) (((List.length row):Nat):Int))::([]:List (List ab))))),()),())).bind fun (y4:(((List ab)×Unit)×Unit)) =>
     some (y4.1,()))
     (none))
    (none)=_
  rw [uO]
  refine ae (uD nH) (ae (Ew nH) ?_)
  have key:∀a b R:List ab,a=row.take k→b=row.drop k→R=cH (row.take k++(d::row.drop k))→((FX G 135 ng (([a,[d],b],()),())).bind fun (y3:(((List ab)×Unit)×Unit))=>some (y3.1,()))=some ((R,()),()):=by
    intro a b R ha hb hR
    subst ha hb hR
    refine aa (Pq hG [row.take k,[d],row.drop k] (by simp) (by unfold total;simp;omega)) ?_
    refine congrArg (fun l:List ab=>some ((l,()),())) ?_
    simp
  exact key _ _ _ (q6 row k) (ya row nH) (by rw [My])
theorem vR{row:List ab}{d:ab}{k:Nat}(hn:row.Nodup)(hk:row[k]? = some d):row.filter (fun e=>decide (e≠d))=row.take k++row.drop (k+1):=by
 obtain ⟨h1,h2⟩:=List.getElem?_eq_some_iff.1 hk
 conv=>lhs;rw [←List.take_append_drop k row,List.drop_eq_getElem_cons h1,h2]
 have HX:(row.take k++(d::row.drop (k+1))).Nodup:=by
  rw [←h2,←List.drop_eq_getElem_cons h1,List.take_append_drop];exact hn
 have h3:=List.nodup_append.1 HX
 have h4:=List.nodup_cons.1 h3.2.1
 rw [List.filter_append,List.filter_cons_of_neg (by simp)]
 congr 1
 ·rw [List.filter_eq_self];intro a ha
  have:=h3.2.2 a ha d (by simp)
  simpa using this
 ·rw [List.filter_eq_self];intro a ha
  have:a≠d:=fun e=>h4.1 (e▸ha)
  simpa using this
theorem Tp(hG:HG G)(row:List ab)(d:ab)(hn:row.Nodup)(hl:row.length≤50000000):FX G 119 F5 ((row,d,()),())=some ((gG row d,()),()):=by
 refine au (fn:=Tryz.f119) (hG _ _ rfl) (by kernel_rfl) (by kernel_rfl) ((XD _ _ _).trans ?_)
 refine aa (AK (hG _ _ rfl) row d (by omega)) ?_
 unfold gG
 by_cases hd:d∈row
 ·obtain ⟨k,h1,h2,h3⟩:=eW hd
  have aG:=(List.getElem?_eq_some_iff.1 h2).1
  rw [vR hn h2]
  show cond (decide (idx d row 0<0)) _ (cond (aW row.length 0 (idx d row 0)) (cond (aW row.length (IntKind.wrap .i64 (idx d row 0+1)) ((row.length:Nat):Int)) ((FX G 135 ng (([cut row 0 (idx d row 0),cut row (IntKind.wrap .i64 (idx d row 0+1)) ((row.length:Nat):Int)],()),())).bind fun (y3:(((List ab)×Unit)×Unit))=>some (y3.1,())) none) none)=_
  rw [h1,aI aG (by omega)]
  refine ag (decide_eq_false (by omega)) (ae (uD (by omega)) (ae (Ew (by omega)) ?_))
  have key:∀a b:List ab,a=row.take k→b=row.drop (k+1)→((FX G 135 ng (([a,b],()),())).bind fun (y3:(((List ab)×Unit)×Unit))=>some (y3.1,()))=some ((cH (row.take k++row.drop (k+1)),()),()):=by
   intro a b ha hb
   subst ha hb
   refine aa (Pq hG [row.take k,row.drop (k+1)] (by simp) (by unfold total;simp;omega)) ?_
   refine congrArg (fun l:List ab=>some ((l,()),())) ?_
   simp
  exact key _ _ (q6 row k) (ya row (by omega))
 ·have h1:=dX.2 hd
  refine ae (decide_eq_true h1) (aa (CS hG row (by omega)) ?_)
  refine congrArg (fun l:List ab=>some ((l,()),())) ?_
  congr 1
  symm
  rw [List.filter_eq_self];intro a ha
  have:a≠d:=fun e=>hd (e▸ha)
  simpa using this
theorem Tq(hG:HG G)(row:List ab)(cF d:ab)(hl:row.length≤50000000):FX G 121 rS ((row,cF,d,()),())=some ((jg row cF d,()),()):=by
 refine au (fn:=Tryz.f121) (hG _ _ rfl) (by kernel_rfl) (by kernel_rfl) ((XE _ _ _).trans ?_)
 refine aa (AK (hG _ _ rfl) row cF (by omega)) ?_
 unfold jg
 by_cases ho:cF∈row
 ·obtain ⟨k,h1,h2,h3⟩:=eW ho
  have aG:=(List.getElem?_eq_some_iff.1 h2).1
  refine ag (decide_eq_false (show ¬idx cF row 0<0 by omega)) ?_
  refine aa (CR hG row d (by omega)) ?_
  by_cases hd:d∈row
  ·rw [if_neg (fun h=>h.2 hd)]
   exact ae (decide_eq_true hd) (aa (CS hG row (by omega)) rfl)
  rw [if_pos ⟨ho,hd⟩]
  refine ag (decide_eq_false hd) ?_
  show cond (aW row.length 0 (idx cF row 0)) (cond (aW row.length (IntKind.wrap .i64 (idx cF row 0+1)) ((row.length:Nat):Int)) ((FX G 135 ng (([cut row 0 (idx cF row 0),[d],cut row (IntKind.wrap .i64 (idx cF row 0+1)) ((row.length:Nat):Int)],()),())).bind fun (y3:(((List ab)×Unit)×Unit))=>some (y3.1,())) none) none=_
  rw [h1,aI aG (by omega)]
  refine ae (uD (by omega)) (ae (Ew (by omega)) ?_)
  have key:∀a b R:List ab,a=row.take k→b=row.drop (k+1)→R=cH (row.set ((k:Int)).toNat d)→((FX G 135 ng (([a,[d],b],()),())).bind fun (y3:(((List ab)×Unit)×Unit))=>some (y3.1,()))=some ((R,()),()):=by
   intro a b R ha hb hR
   subst ha hb hR
   refine aa (Pq hG [row.take k,[d],row.drop (k+1)] (by simp) (by unfold total;simp;omega)) ?_
   refine congrArg (fun l:List ab=>some ((l,()),())) ?_
   rw [Int.toNat_natCast,List.set_eq_take_append_cons_drop,if_pos aG];simp
  exact key _ _ _ (q6 row k) (ya row (by omega)) rfl
 ·have h1:=dX.2 ho
  rw [if_neg (fun h=>ho h.1)]
  exact ae (decide_eq_true h1) (aa (CS hG row (by omega)) rfl)
theorem Y2(hG:HG G)(row:List ab)(d:ab)(hl:row.length≤100000000):FX G 140 CE ((row,d,()),())=some (GA (dw row d (row.length - 1)),()):=by
 refine au (fn:=Tryz.f140) (hG _ _ rfl) (by kernel_rfl) (by kernel_rfl) ((XS _ _ _).trans ?_)
 have key:FX G 157 zU ((row,(d,((IntKind.wrap .i64 (((row.length:Nat):Int) - 1)),()))),())=some (GA (dw row d (row.length - 1)),()):=by
  refine au (fn:=Tryz.f157) (hG _ _ rfl) (by kernel_rfl) (by kernel_rfl) ((SZ _ _ _).trans ?_)
  refine aa (AK (hG _ _ rfl) row d (by omega)) ?_
  unfold dw
  by_cases hd:d∈row
  ·rw [if_pos hd]
   obtain ⟨k,h1,h2,h3⟩:=eW hd
   have aG:=(List.getElem?_eq_some_iff.1 h2).1
   refine ag (decide_eq_false (show ¬idx d row 0<0 by omega)) ?_
   refine ag (Ej hd) ?_
   have hw:IntKind.wrap .i64 (((row.length:Nat):Int) - 1)=((row.length - 1:Nat):Int):=by rw [wrap_small (by omega) (by omega)];omega
   have Rk:IntKind.wrap .i64 (idx d row 0+IntKind.wrap .i64 (((row.length:Nat):Int) - 1))=((k+(row.length - 1):Nat):Int):=by
    rw [hw,h1,wrap_small (by omega) (by omega)];rfl
   have ry:(k+(row.length - 1)) % row.length<row.length:=Nat.mod_lt _ (by omega)
   have hx:=List.getElem?_eq_getElem ry
   refine aa (show aZ row (Int.tmod (IntKind.wrap .i64 (idx d row 0+IntKind.wrap .i64 (((row.length:Nat):Int) - 1))) ((row.length:Nat):Int))=some row[(k+(row.length - 1)) % row.length] by rw [Rk,qg];exact aK hx) ?_
   rw [h1,Int.toNat_natCast,hx];rfl
  ·rw [if_neg hd]
   exact ae (decide_eq_true (dX.2 hd)) rfl
 refine aa key ?_
 rfl
end Go.Vs
