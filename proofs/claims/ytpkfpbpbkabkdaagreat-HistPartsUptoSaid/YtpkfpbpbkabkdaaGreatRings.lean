/- What the program computes at edges and rings, written plainly. -/
import Derived.Test.YtpkfpbpbkabkdaaGreatPlaces
set_option linter.unusedVariables false
set_option linter.unusedSimpArgs false
namespace Go.Vs
open Go.Proofs
variable {G:(f:FuncId)→(g:aJ)→Option (g.A→Option g.B)}
theorem get_at{s:ByteArray}{i:Nat}{c:UInt8}(h:s.data.toList[i]? = some c):s.get! i=c:=by
 have hi:i<s.data.size:=by have:=(List.getElem?_eq_some_iff.1 h).1;simpa using this
 have h2:=(List.getElem?_eq_some_iff.1 h).2
 show s.data[i]! = c
 rw[getElem!_pos s.data i hi,←h2];simp
theorem MO{s:ByteArray}{i:Nat}(h:(s.get! i).toNat<128):Utf8.decode s i=((s.get! i).toNat,1):=by
 unfold Utf8.decode
 simp only[Nat.add_zero]
 rw[if_pos h]
theorem MP{s:ByteArray}{i:Nat}(h:¬(s.get! i).toNat<128):128≤(Utf8.decode s i).1:=by
 unfold Utf8.decode
 simp only[Nat.add_zero]
 rw[if_neg h]
 repeat' split
 all_goals first|(simp_all only[Bool.and_eq_true,decide_eq_true_eq];omega)|decide|omega
theorem afS(hG:G 161 vY=none)(s:ByteArray)(hs:s.size≤100000000):∀(n i:Nat),i+n=s.size →
  LX G 161 vY Tryz.f161 we (aN Tryz.prog 161 0) ((s,()),((),((s,i),())))=some ((((s.data.toList.drop i).all kj&&decide (s.size≤16),()),()):(Bool×Unit)×Unit):=by
 have hl:s.data.toList.length=s.size:=by simp
 intro n
 induction n with
 |zero =>
  intro i hi
  refine ar (j:=0) (by kernel_rfl) ((PW _ _ _).trans ?_)
  refine af (decide_eq_false (show ¬(i<s.size) by omega)) ?_
  refine congrArg (fun b:Bool=>some ((b,()),())) ?_
  rw[List.drop_eq_nil_of_le (by omega),List.all_nil,Bool.true_and,Bool.eq_iff_iff];simp;omega
 |succ n ih =>
  intro i hi
  have aF:i<s.data.toList.length:=by omega
  have hx:s.data.toList[i]? = some s.data.toList[i]:=List.getElem?_eq_getElem aF
  generalize s.data.toList[i]=c at hx
  have hd:s.data.toList.drop i=c::s.data.toList.drop (i+1):=by
   rw[List.drop_eq_getElem_cons aF];rw[List.getElem?_eq_getElem aF]at hx;cases hx;rfl
  have hg:=get_at hx
  refine ar (j:=0) (by kernel_rfl) ((PW _ _ _).trans ?_)
  refine ae (decide_eq_true (show i<s.size by omega)) ?_
  show cond (decide (od s i<32)) _ (cond (decide (od s i>126)) _ (LX G 161 vY Tryz.f161 we (aN Tryz.prog 161 0) ((s,()),((),((s,i+yW s i),())))))=_
  rw[hd,List.all_cons]
  by_cases h1:c.toNat<128
  ·have hr:Utf8.decode s i=(c.toNat,1):=by rw[MO (by rw[hg];exact h1),hg]
   have hr1:od s i=(c.toNat:Int):=by unfold od;rw[hr]
   have V6:yW s i=1:=by unfold yW;rw[hr]
   rw[hr1,V6]
   by_cases h2:c.toNat<32
   ·refine ae (decide_eq_true (by omega)) ?_
    have:kj c=false:=by unfold kj;simp;omega
    rw[this];rfl
   refine af (decide_eq_false (by omega)) ?_
   by_cases h3:126<c.toNat
   ·refine ae (decide_eq_true (by omega)) ?_
    have:kj c=false:=by unfold kj;simp;omega
    rw[this];rfl
   refine af (decide_eq_false (by omega)) ?_
   have:kj c=true:=by unfold kj;simp;omega
   rw[this,Bool.true_and]
   exact ih (i+1) (by omega)
  ·have h2:=MP (s:=s) (i:=i) (by rw[hg];exact h1)
   have hr1:128≤od s i:=by unfold od;omega
   refine af (decide_eq_false (by omega)) (ae (decide_eq_true (by omega)) ?_)
   have:kj c=false:=by unfold kj;simp;omega
   rw[this];rfl
theorem afU(hG:G 161 vY=none)(s:ByteArray)(hs:s.size≤100000000):FX G 161 vY ((s,()),())=some ((yd s,()),()):=by
 refine au (fn:=Tryz.f161) hG (by kernel_rfl) (by kernel_rfl) ((aeT _ _ _).trans ?_)
 have:=afS hG s hs s.size 0 (by omega)
 rw[List.drop_zero]at this
 exact this
theorem afV(hG:G 162 GF=none)(n:Int):FX G 162 GF ((n,()),())=some ((rW n,()),()):=by
 refine au (fn:=Tryz.f162) hG (by kernel_rfl) (by kernel_rfl) ((aeU _ _ _).trans ?_)
 show(cond (decide (n≥-1099511627776)) (some ((decide (n≤1099511627776),()),())) (some ((false,()),())):Option ((Bool×Unit)×Unit))=some ((rW n,()),())
 unfold rW
 by_cases h1 : -1099511627776≤n<;>simp[h1]
def JK(n:Int):Prop := -9223372036854775808≤n∧n<9223372036854775808
theorem Qw(x:BitVec 64):IntKind.wrap .i64 ((x.toNat:Nat):Int)=x.toInt:=by
 unfold IntKind.wrap
 simp only[IntKind.bits,IntKind.signed]
 have h:=x.isLt
 have h2:=BitVec.toInt_eq_toNat_cond x
 rw[h2]
 simp
 split<;>split<;>omega
theorem ofInt_toInt{n:Int}(h:JK n):(BitVec.ofInt 64 n).toInt=n:=by
 unfold JK at h
 rw[BitVec.toInt_ofInt]
 exact Int.bmod_eq_of_le (by omega) (by omega)
theorem Tx{n:Int}(h:JK n):(eP .andNot .i64 n 3==(0:Int))=decide (0≤n∧n≤3):=by
 have e:eP .andNot .i64 n 3=(BitVec.ofInt 64 n &&& ~~~(BitVec.ofInt 64 3)).toInt:=by unfold eP;exact Qw _
 rw[e,Bool.eq_iff_iff]
 simp only[beq_iff_eq,decide_eq_true_eq]
 generalize hx:BitVec.ofInt 64 n=x
 have hn:=ofInt_toInt h
 rw[hx]at hn
 have h1:(x &&& ~~~(BitVec.ofInt 64 3)).toInt=0↔(x &&& ~~~(BitVec.ofInt 64 3))=0#64:=by
  constructor
  ·intro h;exact BitVec.eq_of_toInt_eq (by rw[h];rfl)
  ·intro h;rw[h];rfl
 rw[h1,←hn]
 constructor
 ·intro h
  have h2:x=x &&& 3#64:=by
   have h3:x=(x &&& ~~~(BitVec.ofInt 64 3)) ||| (x &&& 3#64):=by
    ext i hi
    simp only[BitVec.getElem_or,BitVec.getElem_and,BitVec.getElem_not]
    have:(BitVec.ofInt 64 3)=3#64:=rfl
    rw[this]
    cases x[i]<;>cases (3#64)[i]<;>rfl
   rw[h]at h3
   simpa using h3
  have h4:x.toNat≤3:=by
   rw[h2,BitVec.toNat_and]
   exact Nat.and_le_right
  rw[BitVec.toInt_eq_toNat_cond]
  split<;>omega
 ·intro h
  have h4:x.toNat≤3:=by
   rw[BitVec.toInt_eq_toNat_cond]at h
   have:=x.isLt
   split at h<;>omega
  have h5:x=0#64∨x=1#64∨x=2#64∨x=3#64:=by
   have:x.toNat=0∨x.toNat=1∨x.toNat=2∨x.toNat=3:=by omega
   rcases this with h|h|h|h
   ·exact .inl (BitVec.eq_of_toNat_eq (by rw[h];rfl))
   ·exact .inr (.inl (BitVec.eq_of_toNat_eq (by rw[h];rfl)))
   ·exact .inr (.inr (.inl (BitVec.eq_of_toNat_eq (by rw[h];rfl))))
   ·exact .inr (.inr (.inr (BitVec.eq_of_toNat_eq (by rw[h];rfl))))
  rcases h5 with rfl|rfl|rfl|rfl<;>decide
theorem Ty{n:Int}(h:JK n):(eP .andNot .i64 n 1==(0:Int))=decide (n=0∨n=1):=by
 have e:eP .andNot .i64 n 1=(BitVec.ofInt 64 n &&& ~~~(BitVec.ofInt 64 1)).toInt:=by unfold eP;exact Qw _
 rw[e,Bool.eq_iff_iff]
 simp only[beq_iff_eq,decide_eq_true_eq]
 generalize hx:BitVec.ofInt 64 n=x
 have hn:=ofInt_toInt h
 rw[hx]at hn
 have h1:(x &&& ~~~(BitVec.ofInt 64 1)).toInt=0↔(x &&& ~~~(BitVec.ofInt 64 1))=0#64:=by
  constructor
  ·intro h;exact BitVec.eq_of_toInt_eq (by rw[h];rfl)
  ·intro h;rw[h];rfl
 rw[h1,←hn]
 constructor
 ·intro h
  have h2:x=x &&& 1#64:=by
   have h3:x=(x &&& ~~~(BitVec.ofInt 64 1)) ||| (x &&& 1#64):=by
    ext i hi
    simp only[BitVec.getElem_or,BitVec.getElem_and,BitVec.getElem_not]
    have:(BitVec.ofInt 64 1)=1#64:=rfl
    rw[this]
    cases x[i]<;>cases (1#64)[i]<;>rfl
   rw[h]at h3
   simpa using h3
  have h4:x.toNat≤1:=by
   rw[h2,BitVec.toNat_and]
   exact Nat.and_le_right
  rw[BitVec.toInt_eq_toNat_cond]
  split<;>omega
 ·intro h
  have h4:x.toNat≤1:=by
   rw[BitVec.toInt_eq_toNat_cond]at h
   have:=x.isLt
   split at h<;>omega
  have h5:x=0#64∨x=1#64:=by
   have:x.toNat=0∨x.toNat=1:=by omega
   rcases this with h|h
   ·exact .inl (BitVec.eq_of_toNat_eq (by rw[h];rfl))
   ·exact .inr (BitVec.eq_of_toNat_eq (by rw[h];rfl))
  rcases h5 with rfl|rfl<;>decide
theorem aaO(hG:HG G)(d:ab)(h:JK d.2):FX G 190 GK ((d,()),())=some ((JE d,()),()):=by
 refine au (fn:=Tryz.f190) (hG _ _ rfl) (by kernel_rfl) (by kernel_rfl) ((YV _ _ _).trans ?_)
 refine aa (MN (hG _ _ rfl) d.1) ?_
 unfold JE
 cases cY d.1
 ·rfl
 ·exact ae rfl (congrArg (fun b:Bool=>some ((b,()),())) (Ty h))
theorem aaP(hG:HG G)(c:pn)(h:JK c.2.2):FX G 160 Ct ((c,()),())=some ((ye c,()),()):=by
 refine au (fn:=Tryz.f160) (hG _ _ rfl) (by kernel_rfl) (by kernel_rfl) ((aeS _ _ _).trans ?_)
 refine aa (MN (hG _ _ rfl) c.1) ?_
 unfold ye
 cases cY c.1
 ·rfl
 refine ae rfl ?_
 have hb:(((c.2.1.1==(0:Int))&&(c.2.1.2==(0:Int)))&&(c.2.2==(0:Int)))=decide (c.2=zD):=kD c.2 zD
 by_cases hz:c.2=zD
 ·refine ae (hb.trans (decide_eq_true hz)) ?_
  rw[decide_eq_true hz,Bool.or_true];rfl
 ·refine af (hb.trans (decide_eq_false hz)) ?_
  refine aa (aaO hG c.2 h) ?_
  rw[decide_eq_false hz,Bool.or_false];rfl
structure Fit(o:ba):Prop where
 a:JK (oA o).2.2
 b:JK (oB o).2.2
 n:JK (oN o)
 t:tw o
def Bj(o:ba):ba :=
 if o.1=6 then(o.1,(aV o,(zI,(aZ o,(zC,(zC,(false,(e0,0))))))))
 else if o.1=3 then(o.1,(aV o,(zI,(zI,(oA o,(oB o,(false,(e0,0))))))))
 else if o.1=5 then(o.1,(aV o,(eO o,(aZ o,(zC,(zC,(false,(e0,oN o))))))))
 else if o.1=7 then(o.1,(aV o,(zI,(zI,(zC,(zC,(mY o,(nM o,0))))))))
 else if o.1=8 then(o.1,(aV o,(zI,(zI,(zC,(zC,(mY o,(e0,oN o))))))))
 else(o.1,(aV o,(zI,(zI,(zC,(zC,(false,(e0,0))))))))
def E3(o:ba):Int :=
 if o.1=6 then(if cY (aV o)=true∧cY (aZ o)=true then 0 else 1)
 else if o.1=3 then(if cY (aV o)=true∧ye (oA o)=true∧ye (oB o)=true then 0 else 1)
 else if o.1=5 then(if cY (aV o)=true∧cY (eO o)=true∧cY (aZ o)=true∧0≤oN o∧oN o≤3 then 0 else 1)
 else if o.1=7 then(if cY (aV o)=true then(if yd (nM o)=true then 0 else 4) else 1)
 else if o.1=8 then(if cY (aV o)=true∧rW (oN o)=true then 0 else 1)
 else if o.1=1∨o.1=2∨o.1=4 then(if cY (aV o)=true then 0 else 1)
 else 1
theorem Fu{o:ba}{k:Int}(h:o.1=k):(o.1==k)=true:=by simp[h]
theorem xJ{o:ba}{k:Int}(h:¬o.1=k):(o.1==k)=false:=by simp[h]
theorem afW(hG:HG G)(o:ba)(hf:Fit o):FX G 132 O9 ((o,()),())=some ((Bj o,(E3 o,())),()):=by
 refine au (fn:=Tryz.f132) (hG _ _ rfl) (by kernel_rfl) (by kernel_rfl) ((aeA _ _ _).trans ?_)
 refine aa (MN (hG _ _ rfl) (aV o)) ?_
 unfold Bj E3
 by_cases h1:o.1=1
 ·refine ae (Fu h1) (ae (Fu h1) ?_)
  rw[if_neg (by omega),if_neg (by omega),if_neg (by omega),if_neg (by omega),if_neg (by omega),if_neg (by omega),if_neg (by omega),if_neg (by omega),if_neg (by omega),if_neg (by omega),if_pos (by omega)]
  cases cY (aV o)<;>rfl
 refine af (xJ h1) ?_
 by_cases h2:o.1=2
 ·refine ae (Fu h2) (ae (Fu h2) ?_)
  rw[if_neg (by omega),if_neg (by omega),if_neg (by omega),if_neg (by omega),if_neg (by omega),if_neg (by omega),if_neg (by omega),if_neg (by omega),if_neg (by omega),if_neg (by omega),if_pos (by omega)]
  cases cY (aV o)<;>rfl
 refine af (xJ h2) ?_
 by_cases h4:o.1=4
 ·refine ae (Fu h4) ?_
  rw[if_neg (by omega),if_neg (by omega),if_neg (by omega),if_neg (by omega),if_neg (by omega),if_neg (by omega),if_neg (by omega),if_neg (by omega),if_neg (by omega),if_neg (by omega),if_pos (by omega)]
  cases cY (aV o)<;>rfl
 refine af (xJ h4) ?_
 by_cases h6:o.1=6
 ·refine ae (Fu h6) ?_
  rw[if_pos h6,if_pos h6]
  cases cY (aV o)
  ·rfl
  refine ae rfl (aa (MN (hG _ _ rfl) (aZ o)) ?_)
  cases cY (aZ o)<;>rfl
 refine af (xJ h6) ?_
 rw[if_neg h6,if_neg h6]
 by_cases h3:o.1=3
 ·refine ae (Fu h3) ?_
  rw[if_pos h3,if_pos h3]
  cases cY (aV o)
  ·rfl
  refine ae rfl (aa (aaP hG (oA o) hf.a) ?_)
  cases ye (oA o)
  ·rfl
  refine ae rfl (aa (aaP hG (oB o) hf.b) ?_)
  cases ye (oB o)<;>rfl
 refine af (xJ h3) ?_
 rw[if_neg h3,if_neg h3]
 by_cases h5:o.1=5
 ·refine ae (Fu h5) ?_
  rw[if_pos h5,if_pos h5]
  cases cY (aV o)
  ·rfl
  refine ae rfl (aa (MN (hG _ _ rfl) (eO o)) ?_)
  cases cY (eO o)
  ·rfl
  refine ae rfl (aa (MN (hG _ _ rfl) (aZ o)) ?_)
  cases cY (aZ o)
  ·rfl
  refine ae rfl (bj (Tx hf.n) ?_)
  by_cases h:0≤oN o∧oN o≤3
  ·rw[decide_eq_true h,if_pos ⟨rfl,rfl,rfl,h⟩];rfl
  ·rw[decide_eq_false h,if_neg (fun k=>h k.2.2.2)];rfl
 refine af (xJ h5) ?_
 rw[if_neg h5,if_neg h5]
 by_cases h7:o.1=7
 ·refine ae (Fu h7) ?_
  rw[if_pos h7,if_pos h7]
  refine aa (afU (hG _ _ rfl) (nM o) hf.t) ?_
  cases yd (nM o)<;>cases cY (aV o)<;>rfl
 refine af (xJ h7) ?_
 rw[if_neg h7,if_neg h7]
 by_cases h8:o.1=8
 ·refine ae (Fu h8) ?_
  rw[if_pos h8,if_pos h8]
  cases cY (aV o)
  ·rfl
  refine ae rfl (aa (afV (hG _ _ rfl) (oN o)) ?_)
  cases rW (oN o)<;>rfl
 refine af (xJ h8) ?_
 rw[if_neg h8,if_neg h8,if_neg (by omega)];rfl
theorem MQ(o:ba)(h1:1≤o.1)(h8:o.1≤8):u6 (Bj o) o=u6 (sJ o) UU:=by
 rw[Bool.eq_iff_iff,u7,u7]
 obtain⟨k,i,n,m,⟨a1,a2⟩,⟨b1,b2⟩,f,t,q⟩:=o
 simp only at h1 h8
 unfold Bj sJ UU
 have:k=1∨k=2∨k=3∨k=4∨k=5∨k=6∨k=7∨k=8:=by omega
 rcases this with rfl|rfl|rfl|rfl|rfl|rfl|rfl|rfl<;>simp only[Int.reduceEq,if_true,if_false]<;>constructor<;>intro h<;>simp only[zC,Prod.mk.injEq,true_and,and_true]at h ⊢<;>grind
theorem afX(hG:HG G)(o:ba)(hf:Fit o):FX G 104 O5 ((o,()),())=some ((cf o,()),()):=by
 refine au (fn:=Tryz.f104) (hG _ _ rfl) (by kernel_rfl) (by kernel_rfl) ((aef _ _ _).trans ?_)
 refine aa (afW hG o hf) ?_
 refine bj (b:=u6 (Bj o) o) rfl ?_
 unfold cf
 by_cases h1:o.1<1
 ·rw[if_pos h1]
  have:E3 o=1:=by unfold E3;rw[if_neg (by omega),if_neg (by omega),if_neg (by omega),if_neg (by omega),if_neg (by omega),if_neg (by omega)]
  rw[this];cases u6 (Bj o) o<;>rfl
 rw[if_neg h1]
 by_cases h8:8<o.1
 ·rw[if_pos h8]
  have:E3 o=1:=by unfold E3;rw[if_neg (by omega),if_neg (by omega),if_neg (by omega),if_neg (by omega),if_neg (by omega),if_neg (by omega)]
  rw[this];cases u6 (Bj o) o<;>rfl
 rw[if_neg h8,MQ o (by omega) (by omega)]
 have hk:o.1=1∨o.1=2∨o.1=3∨o.1=4∨o.1=5∨o.1=6∨o.1=7∨o.1=8:=by omega
 by_cases hm:cY (aV o)=true
 case neg =>
  have hb:E3 o=1:=by
   unfold E3
   rcases hk with h|h|h|h|h|h|h|h<;>simp[h,hm]
  rw[if_pos (by simpa using hm),hb];cases u6 (sJ o) UU<;>rfl
 rw[if_neg (by simp[hm])]
 cases u6 (sJ o) UU
 ·rw[if_pos rfl];rfl
 rw[if_neg (by simp)]
 refine af rfl ?_
 refine congrArg (fun n:Int=>some ((n,()),())) ?_
 unfold E3
 rcases hk with h|h|h|h|h|h|h|h<;>simp[h,hm]
theorem aaQ(hG:HG G)(l:List ba)(hl:l.length≤1073741824)(hf:∀o∈l,Fit o):FX G 66 EA ((l,()),())=some ((ck l,()),()):=by
 refine au (fn:=Tryz.f66) (hG _ _ rfl) (by kernel_rfl) (by kernel_rfl) ((aeu _ _ _).trans ?_)
 unfold ck
 by_cases h0:l.length=0
 ·refine ae (show(((l.length:Nat):Int)==0)=true by simp[h0]) ?_
  rw[if_neg (by omega)];rfl
 refine af (show(((l.length:Nat):Int)==0)=false by rw[beq_eq_false_iff_ne];omega) ?_
 by_cases h6:6<l.length
 ·refine ae (decide_eq_true (show((l.length:Nat):Int)>6 by omega)) ?_
  rw[if_neg (by omega)];rfl
 refine af (decide_eq_false (show ¬((l.length:Nat):Int)>6 by omega)) ?_
 rw[if_pos (by omega)]
 have loop:∀(n i:Nat),i+n=l.length→LX G 66 EA Tryz.f66 AU (aN Tryz.prog 66 0) ((l,(((l.length:Nat):Int),((i:Int),()))),((),()))=some ((gS (l.drop i),()),()):=by
  intro n
  induction n with
  |zero =>
   intro i hi
   refine ar (j:=0) (by kernel_rfl) ((PN _ _ _).trans ?_)
   refine af (decide_eq_false (show ¬((i:Int)<((l.length:Nat):Int)) by omega)) ?_
   rw[List.drop_eq_nil_of_le (by omega)];rfl
  |succ n ih =>
   intro i hi
   have aF:i<l.length:=by omega
   refine ar (j:=0) (by kernel_rfl) ((PN _ _ _).trans ?_)
   refine ae (aW aF) (aa (aI (List.getElem?_eq_getElem aF)) ?_)
   refine aa (afX hG l[i] (hf _ (List.getElem_mem aF))) ?_
   rw[List.drop_eq_getElem_cons aF,gS]
   by_cases hz:cf l[i]=0
   ·rw[if_neg (by simp[hz])]
    refine af (show(cf l[i] != 0)=false by simp[hz]) ?_
    rw[wI,aG aF hl]
    exact ih (i+1) (by omega)
   ·rw[if_pos hz]
    exact ae (show(cf l[i] != 0)=true by simp[hz]) rfl
 have:=loop l.length 0 (by omega)
 rw[List.drop_zero]at this
 exact this
end Go.Vs
namespace Go.Vs
open Go.Proofs
variable {G:(f:FuncId)→(g:aJ)→Option (g.A→Option g.B)}
theorem UZ(hG:HG G)(v:ah)(x:ID):FX G 214 Dd ((v,x,()),())=some ((qD v.1 x,()),()):=by
 refine au (fn:=Tryz.f214) (hG _ _ rfl) (by kernel_rfl) (by kernel_rfl) ((Zk _ _ _).trans ?_)
 exact aa (Qs hG v.1 x) rfl
def bY(l:List ah)(x:ID):Nat:=l.countP fun v=>fK v.1 x
def dg(l:List ah):Prop:=l.Pairwise fun a b=>fK a.1 b.1=true
theorem E4(l:List ah)(x:ID):bY l x≤l.length:=List.countP_le_length
theorem rF{l:List ah}{x:ID}(h:∀v∈l,fK v.1 x=false):bY l x=0:=by
 unfold bY;rw[List.countP_eq_zero];intro v hv;simp[h v hv]
theorem wA{x:ID}:∀{l:List ah},dg l→∀(k:Nat) (v:ah),l[k]? = some v→(fK v.1 x=true↔k<bY l x)
 |[],_,k,v,h=>by simp at h
 |w::r,hs,k,v,h=>by
  have hw:∀{u:ah},u∈r→fK w.1 u.1=true:=fun {u} hu=>List.rel_of_pairwise_cons hs hu
  have hr:dg r:=hs.of_cons
  by_cases aF:fK w.1 x=true
  ·have e:bY (w::r) x=bY r x+1:=by unfold bY;rw[List.countP_cons_of_pos (by simpa using aF)]
   cases k with
   |zero=>simp at h;subst h;simp[aF,e]
   |succ k=>have:=wA (x:=x) hr k v (by simpa using h);rw[this,e];omega
  ·have hn:∀u∈w::r,fK u.1 x=false:=fun u hu=>by
    rcases List.mem_cons.1 hu with rfl|hu
    ·simpa using aF
    ·rw[Bool.eq_false_iff];intro h2;exact aF (iA (hw hu) h2)
   rw[rF hn,hn v (List.mem_of_getElem? h)]
   simp
theorem Qx(hG:HG G)(l:List ah)(x:ID)(hs:dg l)(hl:l.length≤50000000):∀(n i j:Nat),j-i≤n→i≤bY l x→bY l x≤j→j≤l.length →
  LX G 215213 iZ Tryz.f213 ib (aN Tryz.prog 213 0) ((l,(((l.length:Nat):Int),((i:Int),((j:Int),())))),(((x,()),()),()))=some (((((bY l x:Nat):Int),(decide ((l[bY l x]?).map (·.1)=some x),())):Int×(Bool×Unit)),()):=by
 have tI:=E4 l x
 have fin:∀(i j:Nat),¬(i<j)→i≤bY l x→bY l x≤j→LX G 215213 iZ Tryz.f213 ib (aN Tryz.prog 213 0) ((l,(((l.length:Nat):Int),((i:Int),((j:Int),())))),(((x,()),()),()))=some (((((bY l x:Nat):Int),(decide ((l[bY l x]?).map (·.1)=some x),())):Int×(Bool×Unit)),()):=fun i j zy h1 h2=>by
  have hi:i=bY l x:=by omega
  subst hi
  refine ar (j:=0) (by kernel_rfl) ((A2 _ _ _).trans ?_)
  refine af (decide_eq_false (show ¬(((bY l x:Nat):Int)<(j:Int)) by omega)) ?_
  by_cases hc:bY l x<l.length
  ·have hx:l[bY l x]? = some l[bY l x]:=List.getElem?_eq_getElem hc
   refine ae (aW hc) ?_
   refine aa (aI hx) ?_
   refine aa (UZ hG l[bY l x] x) ?_
   refine congrArg (fun b:Bool=>some ((((bY l x:Nat):Int),(b,())),())) ?_
   rw[hx]
   unfold qD
   by_cases he:l[bY l x].1=x
   ·simp[he]
   ·simp[he];split<;>simp
  ·refine af (decide_eq_false (show ¬(((bY l x:Nat):Int)<((l.length:Nat):Int)) by omega)) ?_
   refine congrArg (fun b:Bool=>some ((((bY l x:Nat):Int),(b,())),())) ?_
   rw[List.getElem?_eq_none (by omega)];simp
 intro n
 induction n with
 |zero=>intro i j zy h1 h2 h3;exact fin i j (by omega) h1 h2
 |succ n ih =>
  intro i j zy h1 h2 h3
  by_cases aF:i<j
  case neg=>exact fin i j aF h1 h2
  refine ar (j:=0) (by kernel_rfl) ((A2 _ _ _).trans ?_)
  refine ae (decide_eq_true (show((i:Int)<(j:Int)) by omega)) ?_
  refine af rfl ?_
  have hm:=JI (i:=i) (j:=j) (by omega) (by omega)
  have hh:(i+j) / 2<l.length:=by omega
  have hx:l[(i+j) / 2]? = some l[(i+j) / 2]:=List.getElem?_eq_getElem hh
  have nC:=wA (x:=x) hs ((i+j) / 2) _ hx
  refine aa (show aX l (IntKind.wrap .i64 (kO .u64 (IntKind.wrap .u64 (IntKind.wrap .i64 ((i:Int)+(j:Int)))) (1:Int)))=some l[(i+j) / 2] by rw[hm];exact aI hx) ?_
  refine aa (UZ hG l[(i+j) / 2] x) ?_
  by_cases ho:fK l[(i+j) / 2].1 x=true
  ·refine ae (decide_eq_true ((mC _ _).2 ho)) ?_
   have hc:=nC.1 ho
   have hw:IntKind.wrap .i64 (IntKind.wrap .i64 (kO .u64 (IntKind.wrap .u64 (IntKind.wrap .i64 ((i:Int)+(j:Int)))) (1:Int))+1)=(((i+j) / 2+1:Nat):Int):=by
    rw[hm];exact aG hh (by omega)
   have:=ih ((i+j) / 2+1) j (by omega) (by omega) h2 h3
   rw[←hw]at this
   exact this
  ·refine af (decide_eq_false (fun h=>ho ((mC _ _).1 h))) ?_
   have hc:¬(i+j) / 2<bY l x:=fun h=>ho (nC.2 h)
   have:=ih i ((i+j) / 2) (by omega) h1 (by omega) (by omega)
   rw[←hm]at this
   exact this
theorem Qy(hG:HG G)(l:List ah)(x:ID)(hs:dg l)(hl:l.length≤50000000) :
  FX G 215213 iZ ((l,x,()),())=some (((((bY l x:Nat):Int),(decide ((l[bY l x]?).map (·.1)=some x),())):Int×(Bool×Unit)),()):=by
 refine au (fn:=Tryz.f213) (hG _ _ rfl) (by kernel_rfl) (by kernel_rfl) ((P0 _ _ _).trans ?_)
 exact Qx hG l x hs hl l.length 0 l.length (by omega) (by omega) (E4 l x) (Nat.le_refl _)
theorem nQ(hG:HG G)(w:aQ)(x:ID)(hs:dg w.2.1)(hl:w.2.1.length≤50000000) :
  FX G 182 my ((x,()),(w,()))=some (((((bY w.2.1 x:Nat):Int),(decide ((w.2.1[bY w.2.1 x]?).map (·.1)=some x),())):Int×(Bool×Unit)),(w,())):=by
 refine au (fn:=Tryz.f182) (hG _ _ rfl) (by kernel_rfl) (by kernel_rfl) ((Y1 _ _ _).trans ?_)
 exact aa (Qy hG w.2.1 x hs hl) rfl
theorem wB{x:ID}:∀{l:List ah},dg l→aU l x=(l[bY l x]?).filter fun v=>decide (v.1=x)
 |[],_=>rfl
 |w::r,hs=>by
  have hw:∀{u:ah},u∈r→fK w.1 u.1=true:=fun {u} hu=>List.rel_of_pairwise_cons hs hu
  have hr:dg r:=hs.of_cons
  by_cases aF:fK w.1 x=true
  ·have e:bY (w::r) x=bY r x+1:=by unfold bY;rw[List.countP_cons_of_pos (by simpa using aF)]
   have bq:¬w.1=x:=fun e=>by rw[e,b5]at aF;cases aF
   rw[e]
   simp only[aU,List.find?_cons,bq,decide_false,List.getElem?_cons_succ]
   exact wB hr
  ·have hn:∀u∈w::r,fK u.1 x=false:=fun u hu=>by
    rcases List.mem_cons.1 hu with rfl|hu
    ·simpa using aF
    ·rw[Bool.eq_false_iff];intro h2;exact aF (iA (hw hu) h2)
   rw[rF hn]
   by_cases he:w.1=x
   ·simp[aU,List.find?_cons,he,Option.filter]
   ·have IA:fK x w.1=true:=lj (by simpa using aF) he
    have:aU r x=none:=by
     unfold aU;rw[List.find?_eq_none];intro u hu h2
     have h3:u.1=x:=by simpa using h2
     have h4:=hw hu
     rw[h3]at h4
     have:=lh h4
     rw[IA]at this;cases this
    rw[show aU (w::r) x=aU r x by simp only[aU,List.find?_cons,he,decide_false],this]
    simp[he,Option.filter]
theorem da{l:List ah}{x:ID}(hs:dg l):decide ((l[bY l x]?).map (·.1)=some x)=(aU l x).isSome:=by
 rw[wB hs]
 cases h:l[bY l x]? with
 |none=>simp
 |some v=>by_cases he:v.1=x<;>simp[he,Option.filter]
theorem HB(v:ah):∀{l:List ah},dg l→aU l v.1=none→dp v l=l.take (bY l v.1)++(v::l.drop (bY l v.1))
 |[],_,_=>rfl
 |w::r,hs,hf=>by
  have hw:∀{u:ah},u∈r→fK w.1 u.1=true:=fun {u} hu=>List.rel_of_pairwise_cons hs hu
  have hr:dg r:=hs.of_cons
  have bq:¬w.1=v.1:=fun e=>by simp[aU,e]at hf
  have C6:aU r v.1=none:=by simpa[aU,List.find?_cons,bq] using hf
  by_cases aF:fK w.1 v.1=true
  ·have e:bY (w::r) v.1=bY r v.1+1:=by unfold bY;rw[List.countP_cons_of_pos (by simpa using aF)]
   have Ur:fK v.1 w.1=false:=lh aF
   rw[e,dp,if_neg (by simp[Ur]),HB v hr C6]
   rfl
  ·have hn:∀u∈w::r,fK u.1 v.1=false:=fun u hu=>by
    rcases List.mem_cons.1 hu with rfl|hu
    ·simpa using aF
    ·rw[Bool.eq_false_iff];intro h2;exact aF (iA (hw hu) h2)
   have IA:fK v.1 w.1=true:=lj (by simpa using aF) bq
   rw[rF hn,dp,if_pos IA];rfl
theorem wC{x:ID}:∀{l:List ah},dg l→(aU l x).isSome=true→cT l x=l.take (bY l x)++l.drop (bY l x+1)
 |[],_,hf=>by simp[aU]at hf
 |w::r,hs,hf=>by
  have hw:∀{u:ah},u∈r→fK w.1 u.1=true:=fun {u} hu=>List.rel_of_pairwise_cons hs hu
  have hr:dg r:=hs.of_cons
  by_cases he:w.1=x
  ·have hn:∀u∈w::r,fK u.1 x=false:=fun u hu=>by
    rcases List.mem_cons.1 hu with rfl|hu
    ·rw[he,b5]
    ·rw[←he];exact lh (hw hu)
   have fg:cT r x=r:=by
    unfold cT;rw[List.filter_eq_self];intro u hu
    have h4:=hw hu
    simp;intro e2;rw[he,e2,b5]at h4;cases h4
   rw[rF hn]
   unfold cT
   rw[List.filter_cons_of_neg (by simp[he])]
   exact fg
  ·have C6:(aU r x).isSome=true:=by simpa[aU,List.find?_cons,he] using hf
   have aF:fK w.1 x=true:=by
    obtain⟨u,hu⟩:=Option.isSome_iff_exists.1 C6
    have h1:=List.mem_of_find?_eq_some hu
    have h2:u.1=x:=by simpa using List.find?_some hu
    rw[←h2];exact hw h1
   have e:bY (w::r) x=bY r x+1:=by unfold bY;rw[List.countP_cons_of_pos (by simpa using aF)]
   rw[e]
   have:=wC hr C6
   simp[cT,List.filter_cons,he]at this ⊢
   exact this
theorem wD(v:ah):∀{l:List ah},dg l→aU l v.1=none→dg (dp v l)
 |[],_,_=>List.pairwise_singleton _ _
 |w::r,hs,hf=>by
  have hw:∀{u:ah},u∈r→fK w.1 u.1=true:=fun {u} hu=>List.rel_of_pairwise_cons hs hu
  have hr:dg r:=hs.of_cons
  have bq:¬w.1=v.1:=fun e=>by simp[aU,e]at hf
  have C6:aU r v.1=none:=by simpa[aU,List.find?_cons,bq] using hf
  unfold dp
  split
  ·rename_i h
   refine List.Pairwise.cons (fun u hu=>?_) hs
   rcases List.mem_cons.1 hu with rfl|hu
   ·exact h
   ·exact iA h (hw hu)
  ·rename_i h
   have aF:fK w.1 v.1=true:=lj (by simpa using h) (fun e=>bq e.symm)
   refine List.Pairwise.cons (fun u hu=>?_) (wD v hr C6)
   rcases nN.1 hu with rfl|hu
   ·exact aF
   ·exact hw hu
theorem tx{l:List ah}{x:ID}(hs:dg l):dg (cT l x):=hs.filter _
theorem c8{l:List ag}{x:ID}{v:ag}(hs:bX l)(h:aR l x=some v):l[bD l x]? = some v:=by
 have km:=rE (x:=x) hs
 rw[h]at km
 cases hg:l[bD l x]? with
 |none=>rw[hg]at km;simp[Option.filter]at km
 |some u =>
  rw[hg]at km
  simp only[Option.filter]at km
  split at km
  ·exact km.symm
  ·cases km
theorem kq{l:List ag}{x:ID}{v:ag}(h:aR l x=some v):v.1=x:=by simpa using List.find?_some h
theorem gm{l:List ag}{x:ID}{v:ag}(h:aR l x=some v):v∈l:=List.mem_of_find?_eq_some h
theorem jL{l:List ag}{x:ID}{k:Nat}{u:ag}(hs:bX l)(hk:l[k]? = some u)(hu:u.1=x):k=bD l x:=by
 have h1:¬k<bD l x:=fun h=>by
  have:=(wy hs k u hk).2 h
  rw[hu,b5]at this;cases this
 have hf:(aR l x).isSome=true:=by
  unfold aR;rw[List.find?_isSome];exact⟨u,List.mem_of_getElem? hk,by simp[hu]⟩
 obtain⟨v,hv⟩:=Option.isSome_iff_exists.1 hf
 have hg:=c8 hs hv
 by_cases h2:bD l x<k
 ·obtain⟨h3,h4⟩:=List.getElem?_eq_some_iff.1 hg
  obtain⟨h5,h6⟩:=List.getElem?_eq_some_iff.1 hk
  have:=List.pairwise_iff_getElem.1 hs _ _ h3 h5 h2
  rw[h4,h6,kq hv,hu,b5]at this;cases this
 ·omega
theorem HC{l:List ag}{x:ID}{v:ag}(hs:bX l)(h:aR l x=some v)(g f:ag→ag)(h1:∀w,w.1=x→g w=f w)(h2:∀w,w.1≠x→g w=w):l.map g=l.set (bD l x) (f v):=by
 have hg:=c8 hs h
 apply List.ext_getElem?
 intro k
 rw[List.getElem?_map,List.getElem?_set]
 by_cases hk:bD l x=k
 ·subst hk
  rw[if_pos rfl,if_pos (List.getElem?_eq_some_iff.1 hg).1,hg]
  simp[h1 v (kq h)]
 ·rw[if_neg hk]
  cases hu:l[k]? with
  |none=>rfl
  |some u =>
   have:u.1≠x:=fun e=>hk (jL hs hu e).symm
   simp[h2 u this]
theorem lY{l:List ah}{x:ID}{v:ah}(hs:dg l)(h:aU l x=some v):l[bY l x]? = some v:=by
 have km:=wB (x:=x) hs
 rw[h]at km
 cases hg:l[bY l x]? with
 |none=>rw[hg]at km;simp[Option.filter]at km
 |some u =>
  rw[hg]at km
  simp only[Option.filter]at km
  split at km
  ·exact km.symm
  ·cases km
theorem u9{l:List ah}{x:ID}{v:ah}(h:aU l x=some v):v.1=x:=by simpa using List.find?_some h
theorem MR{l:List ah}{x:ID}{v:ah}(h:aU l x=some v):v∈l:=List.mem_of_find?_eq_some h
theorem MS{l:List ah}{x:ID}{k:Nat}{u:ah}(hs:dg l)(hk:l[k]? = some u)(hu:u.1=x):k=bY l x:=by
 have h1:¬k<bY l x:=fun h=>by
  have:=(wA hs k u hk).2 h
  rw[hu,b5]at this;cases this
 have hf:(aU l x).isSome=true:=by
  unfold aU;rw[List.find?_isSome];exact⟨u,List.mem_of_getElem? hk,by simp[hu]⟩
 obtain⟨v,hv⟩:=Option.isSome_iff_exists.1 hf
 have hg:=lY hs hv
 by_cases h2:bY l x<k
 ·obtain⟨h3,h4⟩:=List.getElem?_eq_some_iff.1 hg
  obtain⟨h5,h6⟩:=List.getElem?_eq_some_iff.1 hk
  have:=List.pairwise_iff_getElem.1 hs _ _ h3 h5 h2
  rw[h4,h6,u9 hv,hu,b5]at this;cases this
 ·omega
theorem Qz{l:List ah}{x:ID}{v:ah}(hs:dg l)(h:aU l x=some v)(g f:ah→ah)(h1:∀w,w.1=x→g w=f w)(h2:∀w,w.1≠x→g w=w):l.map g=l.set (bY l x) (f v):=by
 have hg:=lY hs h
 apply List.ext_getElem?
 intro k
 rw[List.getElem?_map,List.getElem?_set]
 by_cases hk:bY l x=k
 ·subst hk
  rw[if_pos rfl,if_pos (List.getElem?_eq_some_iff.1 hg).1,hg]
  simp[h1 v (u9 h)]
 ·rw[if_neg hk]
  cases hu:l[k]? with
  |none=>rfl
  |some u =>
   have:u.1≠x:=fun e=>hk (MS hs hu e).symm
   simp[h2 u this]
theorem dg.map{l:List ah}(h:dg l){f:ah→ah}(hf:∀v,(f v).1=v.1):dg (l.map f):=by
 unfold dg at h ⊢
 rw[List.pairwise_map]
 exact h.imp fun {a b} B6=>by rw[hf,hf];exact B6
end Go.Vs
namespace Go.Vs
open Go.Proofs
variable {G:(f:FuncId)→(g:aJ)→Option (g.A→Option g.B)}
theorem sK{α R:Type}{o:Option α}{a r:Option R}{f:α→Option R}{p:α}(h:o=some p)(k:f p=r):pW o a f=r:=by subst h;exact k
theorem La{α R:Type}{o:Option α}{a r:Option R}{f:α→Option R}(h:o=none)(k:a=r):pW o a f=r:=by subst h;exact k
def sL(w:aQ)(x:ID):Int×aQ :=
 if(aU w.2.1 x).isSome=true then(12,w) else if 40≤w.2.1.length then(3,w) else(0,(w.1,(dp (x,(e0,0)) w.2.1,w.2.2)))
theorem U3(hG:HG G)(w:aQ)(x:ID)(hs:dg w.2.1)(hl:w.2.1.length≤50000000):FX G 178 xu ((x,()),(w,()))=some (((sL w x).1,()),((sL w x).2,())):=by
 refine au (fn:=Tryz.f178) (hG _ _ rfl) (by kernel_rfl) (by kernel_rfl) ((YX _ _ _).trans ?_)
 refine aa (nQ hG w x hs hl) ?_
 unfold sL
 cases hf:(aU w.2.1 x).isSome
 ·rw[if_neg (by simp)]
  refine af ((da hs).trans hf) ?_
  by_cases h2:40≤w.2.1.length
  ·rw[if_pos h2]
   exact ae (decide_eq_true (show((w.2.1.length:Nat):Int)≥40 by omega)) rfl
  ·rw[if_neg h2]
   refine af (decide_eq_false (show ¬((w.2.1.length:Nat):Int)≥40 by omega)) ?_
   have hc:=E4 w.2.1 x
   have kI:pX w.2.1 ((bY w.2.1 x:Nat):Int) [((x,(e0,0)):ah)]=true:=by
    unfold pX
    rw[decide_eq_true (show(0:Int)≤((bY w.2.1 x:Nat):Int) by omega),decide_eq_true (show((bY w.2.1 x:Nat):Int)≤((w.2.1.length:Nat):Int) by omega)]
    rw[fits (by simp;omega)];rfl
   refine ae kI ?_
   have e:fN w.2.1 ((bY w.2.1 x:Nat):Int) [((x,(e0,0)):ah)]=dp (x,(e0,0)) w.2.1:=by
    rw[HB (x,(e0,0)) hs (by simpa using hf)]
    unfold fN;simp
   exact congrArg (fun l:List ah=>some (((0:Int),()),((w.1,(l,w.2.2)),()))) e
 ·rw[if_pos rfl]
  exact ae ((da hs).trans hf) rfl
def Bk(w:aQ)(o:ba):Option (Fin 2×Nat) :=
 if mY o=true then(if(aU w.2.1 (aV o)).isSome=true then some (⟨1,by decide⟩,bY w.2.1 (aV o)) else none)
 else(if(aR w.1 (aV o)).isSome=true then some (⟨0,by decide⟩,bD w.1 (aV o)) else none)
theorem aaR(hG:HG G)(w:aQ)(o:ba)(hv:bX w.1)(he:dg w.2.1)(U4:w.1.length≤50000000)(hle:w.2.1.length≤50000000) :
  FX G 189 GN ((o,()),(w,()))=some ((Bk w o,(Bk w o,())),(w,())):=by
 refine au (fn:=Tryz.f189) (hG _ _ rfl) (by kernel_rfl) (by kernel_rfl) ((Y9 _ _ _).trans ?_)
 unfold Bk
 by_cases ho:mY o=true
 ·rw[if_pos ho]
  refine ae ho ?_
  refine aa (nQ hG w (aV o) he hle) ?_
  cases hf:aU w.2.1 (aV o) with
  |none =>
   refine af ((da he).trans (by rw[hf];rfl)) ?_
   rfl
  |some e =>
   refine ae ((da he).trans (by rw[hf];rfl)) ?_
   have aF:=(List.getElem?_eq_some_iff.1 (lY he hf)).1
   refine ae (dq (eT _) (aW aF)) ?_
   exact ae (dq (eT _) (aW aF)) rfl
 ·rw[if_neg ho]
  refine af (by simpa using ho) ?_
  refine aa (pC hG w (aV o) hv U4) ?_
  cases hf:aR w.1 (aV o) with
  |none =>
   refine af ((fz hv).trans (by rw[hf];rfl)) ?_
   rfl
  |some e =>
   refine ae ((fz hv).trans (by rw[hf];rfl)) ?_
   have aF:=(List.getElem?_eq_some_iff.1 (c8 hv hf)).1
   refine ae (dq (eT _) (aW aF)) ?_
   exact ae (dq (eT _) (aW aF)) rfl
def tz(w:aQ)(o:ba):Int×aQ :=
 if mY o=true then(if(aU w.2.1 (aV o)).isSome=true then(0,(w.1,(w.2.1.map (jK o),w.2.2))) else(13,w))
 else(if(aR w.1 (aV o)).isSome=true then(0,(w.1.map (iH o),w.2)) else(13,w))
theorem afY(hG:HG G)(w:aQ)(o:ba)(hv:bX w.1)(he:dg w.2.1)(U4:w.1.length≤50000000)(hle:w.2.1.length≤50000000) :
  FX G 158 Pd ((o,()),(w,()))=some (((tz w o).1,()),((tz w o).2,())):=by
 refine au (fn:=Tryz.f158) (hG _ _ rfl) (by kernel_rfl) (by kernel_rfl) ((aeX _ _ _).trans ?_)
 refine aa (aaR hG w o hv he U4 hle) ?_
 by_cases ho:mY o=true
 ·cases hf:aU w.2.1 (aV o) with
  |none =>
   have e1:Bk w o=none:=by unfold Bk;rw[if_pos ho,hf];rfl
   have e2:tz w o=(13,w):=by unfold tz;rw[if_pos ho,hf];rfl
   rw[e2]
   exact La e1 (La e1 rfl)
  |some e =>
   have e1:Bk w o=some (⟨1,by decide⟩,bY w.2.1 (aV o)):=by unfold Bk;rw[if_pos ho,hf];rfl
   have hm:∀f:ah→ah,(∀u,u.1=aV o→jK o u=f u)→w.2.1.map (jK o)=w.2.1.set (bY w.2.1 (aV o)) (f e):=fun f hf1 =>
    Qz he hf (jK o) f hf1 (fun u hu=>by unfold jK;rw[if_neg (fun k=>hu k.2)])
   have e2:tz w o=(0,(w.1,(w.2.1.map (jK o),w.2.2))):=by unfold tz;rw[if_pos ho,hf];rfl
   rw[e2]
   refine sK e1 (af rfl (ae rfl (sK e1 (af rfl (ae rfl ?_)))))
   by_cases h7:o.1=7
   ·refine ae (Fu h7) (aa (lY he hf) ?_)
    have:=hm (fun u=>(u.1,(nM o,u.2.2))) (fun u hu=>by unfold jK;rw[if_pos ⟨ho,hu⟩,if_pos h7])
    exact congrArg (fun l:List ah=>some (((0:Int),()),((w.1,(l,w.2.2)),()))) this.symm
   ·refine af (xJ h7) (aa (lY he hf) ?_)
    have:=hm (fun u=>(u.1,(u.2.1,oN o))) (fun u hu=>by unfold jK;rw[if_pos ⟨ho,hu⟩,if_neg h7])
    exact congrArg (fun l:List ah=>some (((0:Int),()),((w.1,(l,w.2.2)),()))) this.symm
 ·have mQ:mY o=false:=by simpa using ho
  cases hf:aR w.1 (aV o) with
  |none =>
   have e1:Bk w o=none:=by unfold Bk;rw[if_neg ho,hf];rfl
   have e2:tz w o=(13,w):=by unfold tz;rw[if_neg ho,hf];rfl
   rw[e2]
   exact La e1 (La e1 rfl)
  |some e =>
   have e1:Bk w o=some (⟨0,by decide⟩,bD w.1 (aV o)):=by unfold Bk;rw[if_neg ho,hf];rfl
   have hm:∀f:ag→ag,(∀u,u.1=aV o→iH o u=f u)→w.1.map (iH o)=w.1.set (bD w.1 (aV o)) (f e):=fun f hf1 =>
    HC hv hf (iH o) f hf1 (fun u hu=>by unfold iH;rw[if_neg (fun k=>hu k.2)])
   have e2:tz w o=(0,(w.1.map (iH o),w.2)):=by unfold tz;rw[if_neg ho,hf];rfl
   rw[e2]
   refine sK e1 (ae rfl (sK e1 (ae rfl ?_)))
   by_cases h7:o.1=7
   ·refine ae (Fu h7) (aa (c8 hv hf) ?_)
    have:=hm (fun u=>(u.1,(u.2.1,(nM o,u.2.2.2)))) (fun u hu=>by unfold iH;rw[if_pos ⟨mQ,hu⟩,if_pos h7])
    exact congrArg (fun l:List ag=>some (((0:Int),()),((l,w.2),()))) this.symm
   ·refine af (xJ h7) (aa (c8 hv hf) ?_)
    have:=hm (fun u=>(u.1,(u.2.1,(u.2.2.1,oN o)))) (fun u hu=>by unfold iH;rw[if_pos ⟨mQ,hu⟩,if_neg h7])
    exact congrArg (fun l:List ag=>some (((0:Int),()),((l,w.2),()))) this.symm
end Go.Vs
namespace Go.Vs
open Go.Proofs
variable {G:(f:FuncId)→(g:aJ)→Option (g.A→Option g.B)}
theorem U5(hG:HG G)(a b:ab):FX G 195 Df ((a,b,()),())=some ((mW a b,()),()):=by
 refine au (fn:=Tryz.f195) (hG _ _ rfl) (by kernel_rfl) (by kernel_rfl) ((Zn _ _ _).trans ?_)
 refine aa (Qs hG a.1 b.1) ?_
 refine aa (Qr hG a.2 b.2) ?_
 refine aa (UX (hG _ _ rfl) (qD a.1 b.1) (JH a.2 b.2)) ?_
 refine congrArg (fun n:Int=>some ((n,()),())) ?_
 obtain⟨a1,a2⟩:=a
 obtain⟨b1,b2⟩:=b
 unfold mW qD JH kK
 simp only[Prod.mk.injEq]
 by_cases h:a1=b1
 ·subst h
  simp only[if_true,b5,Bool.false_or,true_and,decide_true,Bool.true_and]
  by_cases h1:a2<b2
  ·have:¬a2=b2:=by omega
   simp[h1,this]
  ·by_cases h2:a2>b2
   ·have:¬a2=b2:=by omega
    simp[h1,h2,this]
   ·have:a2=b2:=by omega
    simp[this]
 ·simp only[h,if_false,false_and,decide_false,Bool.false_and,Bool.or_false]
  cases fK a1 b1<;>simp
theorem aaS(hG:G 168 lO=none)(row:List ab)(d:ab)(hl:row.length≤1073741824):∀(n i:Nat),i+n=row.length →
  LX G 168 lO Tryz.f168 uL (aN Tryz.prog 168 0) ((row,(((row.length:Nat):Int),((i:Int),()))),(((d,()),()),()))=some ((idx d (row.drop i) i,()),()):=by
 intro n
 induction n with
 |zero =>
  intro i hi
  refine ar (j:=0) (by kernel_rfl) ((KJ _ _ _).trans ?_)
  refine af (decide_eq_false (show ¬((i:Int)<((row.length:Nat):Int)) by omega)) ?_
  rw[List.drop_eq_nil_of_le (by omega)];rfl
 |succ n ih =>
  intro i hi
  have aF:i<row.length:=by omega
  refine ar (j:=0) (by kernel_rfl) ((KJ _ _ _).trans ?_)
  refine ae (aW aF) (aa (aI (List.getElem?_eq_getElem aF)) ?_)
  rw[List.drop_eq_getElem_cons aF,idx]
  by_cases he:row[i]=d
  ·rw[if_pos he]
   exact ae ((kD d row[i]).trans (decide_eq_true he.symm)) rfl
  ·rw[if_neg he]
   refine af ((kD d row[i]).trans (decide_eq_false fun h=>he h.symm)) ?_
   rw[wI,aG aF hl]
   exact ih (i+1) (by omega)
theorem Bl(hG:G 168 lO=none)(row:List ab)(d:ab)(hl:row.length≤1073741824):FX G 168 lO ((row,d,()),())=some ((idx d row 0,()),()):=by
 refine au (fn:=Tryz.f168) hG (by kernel_rfl) (by kernel_rfl) ((Zh _ _ _).trans ?_)
 have:=aaS hG row d hl row.length 0 (by omega)
 rw[List.drop_zero]at this
 exact this
theorem Dy(hG:HG G)(row:List ab)(d:ab)(hl:row.length≤1073741824):FX G 166 uC ((row,d,()),())=some ((decide (d∈row),()),()):=by
 refine au (fn:=Tryz.f166) (hG _ _ rfl) (by kernel_rfl) (by kernel_rfl) ((Zg _ _ _).trans ?_)
 refine aa (Bl (hG _ _ rfl) row d hl) ?_
 refine congrArg (fun b:Bool=>some ((b,()),())) ?_
 rw[Bool.eq_iff_iff]
 simp only[decide_eq_true_eq]
 have:=ep (d:=d) (row:=row)
 constructor
 ·intro h;exact Classical.byContradiction fun k=>by have:=this.2 k;omega
 ·intro h
  have h2:¬idx d row 0<0:=fun k=>this.1 k h
  omega
theorem dG(a:ab):kK a a=false:=by unfold kK;simp[b5]
theorem gq{a b c:ab}(h:kK a b=true)(k:kK b c=true):kK a c=true:=by
 obtain⟨⟨a1,a2⟩,a3⟩:=a;obtain⟨⟨b1,b2⟩,b3⟩:=b;obtain⟨⟨c1,c2⟩,c3⟩:=c
 simp[kK,fK]at *;omega
theorem wE{a b:ab}(h:kK a b=false)(k:a≠b):kK b a=true:=by
 obtain⟨⟨a1,a2⟩,a3⟩:=a;obtain⟨⟨b1,b2⟩,b3⟩:=b
 simp[kK,fK]at *;omega
theorem E5{a b c:ab}(h:kK a b=true)(k:kK c b=false):kK a c=true:=by
 obtain⟨⟨a1,a2⟩,a3⟩:=a;obtain⟨⟨b1,b2⟩,b3⟩:=b;obtain⟨⟨c1,c2⟩,c3⟩:=c
 simp[kK,fK]at *;omega
theorem yL(a b:ab):mW a b<0↔kK a b=true:=by
 unfold mW
 by_cases h:a=b
 ·subst h;simp[dG]
 ·rw[if_neg h];cases kK a b<;>simp
theorem oV{row:List ab}{k:Nat}(hk:k<row.length):row.getD k zD=row[k]:=by simp[List.getD,hk]
theorem wF(row:List ab):∀(r:List ab) (i k:Nat),row.drop i=r→k<row.length→k≤i→(∀j,j<i→(hj:j<row.length)→kK row[j] (row.getD k zD)=false)→(∀j,j<k→(hj:j<row.length)→kK (row.getD k zD) row[j]=true) →
  (∀j,(hj:j<row.length)→kK row[j] (row.getD (fj row r i k) zD)=false)∧(∀j,j<fj row r i k→(hj:j<row.length)→kK (row.getD (fj row r i k) zD) row[j]=true)
 |[],i,k,hr,hk,hki,h1,h2=>by
  have hi:row.length≤i:=by
   have:=congrArg List.length hr;simp at this;omega
  exact⟨fun j hj=>h1 j (by omega) hj,h2⟩
 |x::r,i,k,hr,hk,hki,h1,h2=>by
  have hi:i<row.length:=by
   have:=congrArg List.length hr;simp at this;omega
  have hx:row[i]=x:=by
   have:=List.drop_eq_getElem_cons hi;rw[hr]at this;injection this with a b;exact a.symm
  have qV:row.drop (i+1)=r:=by
   have:=List.drop_eq_getElem_cons hi;rw[hr]at this;injection this with a b;exact b.symm
  unfold fj
  split
  ·rename_i aF
   rw[yL]at aF
   refine wF row r (i+1) i qV hi (by omega) (fun j hj It=>?_) (fun j hj It=>?_)
   ·rw[oV hi,hx]
    rcases Nat.lt_succ_iff_lt_or_eq.1 hj with hj|rfl
    ·cases hc:kK row[j] x with
     |false=>rfl
     |true=>have:=gq hc aF;rw[h1 j hj It]at this;cases this
    ·rw[hx,dG]
   ·rw[oV hi,hx]
    exact E5 aF (h1 j (by omega) It)
  ·rename_i aF
   rw[yL]at aF
   refine wF row r (i+1) k qV hk (by omega) (fun j hj It=>?_) h2
   rcases Nat.lt_succ_iff_lt_or_eq.1 hj with hj|rfl
   ·exact h1 j hj It
   ·rw[hx];simpa using aF
theorem tB{row:List ab}(h:0<row.length):(∀j,(hj:j<row.length)→kK row[j] (row.getD (fj row row 0 0) zD)=false)∧(∀j,j<fj row row 0 0→(hj:j<row.length)→kK (row.getD (fj row row 0 0) zD) row[j]=true) :=
 wF row row 0 0 rfl h (Nat.le_refl _) (fun j hj=>by omega) (fun j hj=>by omega)
theorem JM{d:ab}:∀{row:List ab} {k:Nat} {i:Int},row[k]? = some d→(∀j,j<k→row[j]?≠some d)→idx d row i=i+k
 |[],k,i,h,_=>by simp at h
 |e::r,0,i,h,_=>by
  simp at h;subst h;rw[idx,if_pos rfl];simp
 |e::r,k+1,i,h,hn=>by
  have h0:=hn 0 (by omega)
  rw[idx,if_neg (fun e=>h0 (by simp[e]))]
  rw[JM (k:=k) (by simpa using h) (fun j hj=>by have:=hn (j+1) (by omega);simpa using this)]
  simp;omega
theorem QA{row:List ab}(h:0<row.length):idx (row.getD (fj row row 0 0) zD) row 0=((fj row row 0 0:Nat):Int):=by
 have hm:=oS row row 0 0 h (by omega)
 have:=JM (d:=row.getD (fj row row 0 0) zD) (row:=row) (k:=fj row row 0 0) (i:=0) (by rw[oV hm];exact List.getElem?_eq_getElem hm) (fun j hj he=>by
  obtain⟨h1,h2⟩:=List.getElem?_eq_some_iff.1 he
  have:=(tB h).2 j hj h1
  rw[h2,dG]at this;cases this)
 omega
theorem QB(hG:HG G)(row:List ab)(h:0<row.length)(hl:row.length≤100000000):FX G 196194 ke ((row,()),())=some ((row.getD (fj row row 0 0) zD,()),()):=by
 refine au (fn:=Tryz.f194) (hG _ _ rfl) (by kernel_rfl) (by kernel_rfl) ((P1 _ _ _).trans ?_)
 refine af (decide_eq_false (show ¬((row.length:Nat):Int)<1 by omega)) ?_
 refine aa (aI (i:=0) (List.getElem?_eq_getElem h)) ?_
 have loop:∀(n i k:Nat),i+n=row.length→k<row.length→LX G 196194 ke Tryz.f194 jH (aN Tryz.prog 194 0) ((row,((i:Int),())),(((zD,()),(((row.getD k zD),()),())),()))=some ((row.getD (fj row (row.drop i) i k) zD,()),()):=by
  intro n
  induction n with
  |zero =>
   intro i k hi hk
   refine ar (j:=0) (by kernel_rfl) ((A3 _ _ _).trans ?_)
   refine af (decide_eq_false (show ¬((i:Int)<((row.length:Nat):Int)) by omega)) ?_
   rw[List.drop_eq_nil_of_le (by omega)];rfl
  |succ n ih =>
   intro i k hi hk
   have aF:i<row.length:=by omega
   have hx:row[i]? = some row[i]:=List.getElem?_eq_getElem aF
   refine ar (j:=0) (by kernel_rfl) ((A3 _ _ _).trans ?_)
   refine ae (aW aF) (aa (aI hx) ?_)
   refine aa (U5 hG row[i] (row.getD k zD)) ?_
   rw[List.drop_eq_getElem_cons aF,fj]
   by_cases ho:mW row[i] (row.getD k zD)<0
   ·rw[if_pos ho]
    refine ae (decide_eq_true ho) (aa (aI hx) ?_)
    have:=ih (i+1) i (by omega) aF
    rw[←aG aF (by omega),oV aF]at this
    exact this
   ·rw[if_neg ho]
    refine af (decide_eq_false ho) ?_
    have:=ih (i+1) k (by omega) hk
    rw[←aG aF (by omega)]at this
    exact this
 have h1:=loop (row.length-1) 1 0 (by omega) h
 have h2:fj row row 0 0=fj row (row.drop 1) 1 0:=by
  cases row with
  |nil=>simp at h
  |cons x r =>
   rw[List.drop_one,List.tail_cons]
   conv=>lhs;rw[fj]
   rw[if_neg]
   show ¬mW x x<0
   unfold mW;simp
 rw[h2]
 have h3:row.getD 0 zD=row[0]:=oV h
 rw[h3]at h1
 exact h1
def total(ls:List (List ab)):Nat:=(ls.map List.length).sum
theorem Bm(a:List ab)(r:List (List ab)):total (a::r)=a.length+total r:=by unfold total;rw[List.map_cons,List.sum_cons]
theorem U6(hG:HG G)(ls:List (List ab))(hn:ls.length≤1000)(hl:total ls≤500000000):FX G 196 nH ((ls,()),())=some ((ls.flatten,()),()):=by
 refine au (fn:=Tryz.f196) (hG _ _ rfl) (by kernel_rfl) (by kernel_rfl) ((Zo _ _ _).trans ?_)
 have aaT:∀(n i:Nat) (out:List ab),i+n=ls.length→out.length+total (ls.drop i)≤500000000→LX G 196 nH Tryz.f196 uN (aN Tryz.prog 196 1) ((ls,(((ls.length:Nat):Int),((i:Int),()))),((),(out,())))=some ((out++(ls.drop i).flatten,()),()):=by
  intro n
  induction n with
  |zero =>
   intro i out hi ho
   refine ar (j:=1) (by kernel_rfl) ((KM _ _ _).trans ?_)
   refine af (decide_eq_false (show ¬((i:Int)<((ls.length:Nat):Int)) by omega)) ?_
   rw[List.drop_eq_nil_of_le (by omega),List.flatten_nil,List.append_nil];rfl
  |succ n ih =>
   intro i out hi ho
   have aF:i<ls.length:=by omega
   rw[List.drop_eq_getElem_cons aF]at ho ⊢
   have mQ:out.length+(ls[i].length+total (ls.drop (i+1)))≤500000000:=by
    have:total (ls[i]::ls.drop (i+1))=ls[i].length+total (ls.drop (i+1)):=Bm _ _
    omega
   refine ar (j:=1) (by kernel_rfl) ((KM _ _ _).trans ?_)
   refine ae (aW aF) (aa (aI (List.getElem?_eq_getElem aF)) ?_)
   refine ae (fits (show out.length+ls[i].length≤1073741824 by omega)) ?_
   have:=ih (i+1) (out++ls[i]) (by omega) (by rw[List.length_append];omega)
   rw[List.flatten_cons,←List.append_assoc]
   rw[←aG aF (by omega)]at this
   exact this
 have aaU:∀(n i m:Nat),i+n=ls.length→m+total (ls.drop i)=total ls→LX G 196 nH Tryz.f196 uM (aN Tryz.prog 196 0) ((ls,((m:Int),(ls,(((ls.length:Nat):Int),((i:Int),()))))),((),()))=some ((ls.flatten,()),()):=by
  intro n
  induction n with
  |zero =>
   intro i m hi hm
   refine ar (j:=0) (by kernel_rfl) ((KK _ _ _).trans ?_)
   refine af (decide_eq_false (show ¬((i:Int)<((ls.length:Nat):Int)) by omega)) ?_
   have hg:y0 (m:Int)=true:=by
    unfold y0
    rw[decide_eq_true (show(0:Int)≤(m:Int) by omega)]
    rw[decide_eq_true (show(m:Int)≤fB by unfold fB;omega)];rfl
   refine ae hg ?_
   have:=aaT ls.length 0 [] (by omega) (by rw[List.drop_zero];simpa using hl)
   rw[List.drop_zero,List.nil_append]at this
   exact this
  |succ n ih =>
   intro i m hi hm
   have aF:i<ls.length:=by omega
   have SB:m+ls[i].length+total (ls.drop (i+1))=total ls:=by
    rw[List.drop_eq_getElem_cons aF]at hm
    have:total (ls[i]::ls.drop (i+1))=ls[i].length+total (ls.drop (i+1)):=Bm _ _
    omega
   refine ar (j:=0) (by kernel_rfl) ((KK _ _ _).trans ?_)
   refine ae (aW aF) (aa (aI (List.getElem?_eq_getElem aF)) ?_)
   have hw:IntKind.wrap .i64 ((m:Int)+((ls[i].length:Nat):Int))=((m+ls[i].length:Nat):Int):=by rw[wrap_small (by omega) (by omega)];rfl
   refine af (decide_eq_false (show ¬IntKind.wrap .i64 ((m:Int)+((ls[i].length:Nat):Int))<0 by rw[hw];omega)) ?_
   have:=ih (i+1) (m+ls[i].length) (by omega) SB
   rw[←aG aF (by omega),←hw]at this
   exact this
 exact aaU ls.length 0 0 (by omega) (by rw[List.drop_zero];omega)
theorem yM{α:Type}(xs:List α){k:Nat}(hk:k≤xs.length):cut xs (k:Int) ((xs.length:Nat):Int)=xs.drop k:=by
 unfold cut;rw[Int.toNat_natCast,Int.toNat_natCast,List.take_of_length_le (Nat.le_refl _)]
theorem rG{α:Type}(xs:List α)(k:Nat):cut xs 0 (k:Int)=xs.take k:=by
 unfold cut;rw[Int.toNat_natCast];rfl
theorem E6{n k:Nat}(h:k≤n):aK n (k:Int) ((n:Nat):Int)=true:=by unfold aK;simp;omega
theorem vc{n k:Nat}(h:k≤n):aK n 0 (k:Int)=true:=by unfold aK;simp;omega
theorem Dz(hG:HG G)(row:List ab)(hl:row.length≤100000000):FX G 169 qw ((row,()),())=some ((cI row,()),()):=by
 refine au (fn:=Tryz.f169) (hG _ _ rfl) (by kernel_rfl) (by kernel_rfl) ((Y8 _ _ _).trans ?_)
 by_cases h0:row.length=0
 ·refine ae (show(((row.length:Nat):Int)==0)=true by simp[h0]) ?_
  have:row=[]:=by simpa using h0
  subst this;rfl
 refine af (show(((row.length:Nat):Int)==0)=false by rw[beq_eq_false_iff_ne];omega) ?_
 have hp:0<row.length:=by omega
 have hm:=oS row row 0 0 hp (by omega)
 refine aa (QB hG row hp hl) ?_
 refine aa (Bl (hG _ _ rfl) row (row.getD (fj row row 0 0) zD) (by omega)) ?_
 rw[QA hp]
 refine ae (E6 (n:=row.length) (k:=fj row row 0 0) (by omega)) (ae (vc (n:=row.length) (k:=fj row row 0 0) (by omega)) ?_)
 have key:∀a b:List ab,a=row.drop (fj row row 0 0)→b=row.take (fj row row 0 0)→((FX G 196 nH (([a,b],()),())).bind fun(y3:(((List ab)×Unit)×Unit))=>some (y3.1,()))=some ((cI row,()),()):=by
  intro a b ha hb
  subst ha hb
  refine aa (U6 hG [row.drop (fj row row 0 0),row.take (fj row row 0 0)] (by simp) (by unfold total;simp;omega)) ?_
  unfold cI B8
  simp only[List.flatten_cons,List.flatten_nil,List.append_nil]
 exact key _ _ (yM row (by omega)) (rG row _)
theorem QC(hG:HG G)(ls:List (List ab))(hn:ls.length≤1000)(hl:total ls≤100000000):FX G 170 nG ((ls,()),())=some ((cI ls.flatten,()),()):=by
 refine au (fn:=Tryz.f170) (hG _ _ rfl) (by kernel_rfl) (by kernel_rfl) ((Zi _ _ _).trans ?_)
 refine aa (U6 hG ls hn (by omega)) ?_
 have hlen:ls.flatten.length=total ls:=by unfold total;exact List.length_flatten
 exact aa (Dz hG ls.flatten (by omega)) rfl
theorem QD(hG:HG G)(row:List ab)(after d:ab)(hl:row.length≤50000000):FX G 181 Ap ((row,after,d,()),())=some ((lT row after d,()),()):=by
  refine au (fn:=Tryz.f181) (hG _ _ rfl) (by kernel_rfl) (by kernel_rfl) ((YZ _ _ _).trans ?_)
  refine aa (Dy hG row d (by omega)) ?_
  unfold lT
  by_cases hd:d∈row
  · rw[if_pos hd]
    exact ae (decide_eq_true hd) (aa (Dz hG row (by omega)) rfl)
  rw[if_neg hd]
  refine af (decide_eq_false hd) ?_
  refine aa (Bl (hG _ _ rfl) row after (by omega)) ?_
  have hr:idx after row 0<((row.length:Nat):Int)∨row.length=0∧idx after row 0 = -1:=by
    rcases nJ after row 0 (by omega) with⟨h,_⟩|⟨k,h,hk,_⟩
    · by_cases h0:row.length=0
      · exact .inr ⟨h0,h⟩
      · exact .inl (by omega)
    · have:=(List.getElem?_eq_some_iff.1 hk).1
      exact .inl (by omega)
  have hm:max (idx after row 0) (0:Int)=max 0 (idx after row 0):=by omega
  have hw:IntKind.wrap .i64 (max (idx after row 0) (0:Int)+1)=(((max 0 (idx after row 0)).toNat+1:Nat):Int):=by
    rw[wrap_small (by omega) (by omega)];omega
  obtain⟨k,hk,n6,NA⟩:∃k:Nat,min (IntKind.wrap .i64 (max (idx after row 0) (0:Int)+1)) ((row.length:Nat):Int)=(k:Int)∧k≤row.length∧row.take k++(d::row.drop k)=row.take ((max 0 (idx after row 0)).toNat+1)++(d::row.drop ((max 0 (idx after row 0)).toNat+1)):=by
    rw[hw]
    by_cases h0:row.length=0
    · have:row=[]:=by simpa using h0
      subst this
      exact⟨0,by simp;omega,by simp,by simp⟩
    · exact⟨(max 0 (idx after row 0)).toNat+1,by omega,by omega,rfl⟩
  have vv:(min (IntKind.wrap .i64 ((max (idx after row 0) (0:Int):Int)+(1:Int))) (((List.length row):Nat):Int):Int)=(k:Int):=hk
  show cond (aK (List.length row) (0:Int) (min (IntKind.wrap .i64 ((max (idx after row 0) (0:Int):Int)+(1:Int))) (((List.length row):Nat):Int):Int))
    (cond (aK (List.length row) (min (IntKind.wrap .i64 ((max (idx after row 0) (0:Int):Int)+(1:Int))) (((List.length row):Nat):Int):Int) (((List.length row):Nat):Int))
     ((FX G 170 nG ((((cut row (0:Int) (min (IntKind.wrap .i64 ((max (idx after row 0) (0:Int):Int)+(1:Int))) (((List.length row):Nat):Int):Int))::([d]::((cut row (min (IntKind.wrap .i64 ((max (idx after row 0) (0:Int):Int)+(1:Int))) (((List.length row):Nat):Int):Int) (((List.length row):Nat):Int))::([]:List (List ab))))),()),())).bind fun(y4:(((List ab)×Unit)×Unit)) =>
     some (y4.1,()))
     (none))
    (none)=_
  rw[vv]
  refine ae (vc n6) (ae (E6 n6) ?_)
  have key:∀a b R:List ab,a=row.take k→b=row.drop k→R=cI (row.take k++(d::row.drop k))→((FX G 170 nG (([a,[d],b],()),())).bind fun(y3:(((List ab)×Unit)×Unit))=>some (y3.1,()))=some ((R,()),()):=by
    intro a b R ha hb hR
    subst ha hb hR
    refine aa (QC hG [row.take k,[d],row.drop k] (by simp) (by unfold total;simp;omega)) ?_
    refine congrArg (fun l:List ab=>some ((l,()),())) ?_
    simp
  exact key _ _ _ (rG row k) (yM row n6) (by rw[NA])
theorem wG{row:List ab}{d:ab}{k:Nat}(hn:row.Nodup)(hk:row[k]? = some d):row.filter (fun e=>decide (e≠d))=row.take k++row.drop (k+1):=by
 obtain⟨h1,h2⟩:=List.getElem?_eq_some_iff.1 hk
 conv=>lhs;rw[←List.take_append_drop k row,List.drop_eq_getElem_cons h1,h2]
 have IN:(row.take k++(d::row.drop (k+1))).Nodup:=by
  rw[←h2,←List.drop_eq_getElem_cons h1,List.take_append_drop];exact hn
 have h3:=List.nodup_append.1 IN
 have h4:=List.nodup_cons.1 h3.2.1
 rw[List.filter_append,List.filter_cons_of_neg (by simp)]
 congr 1
 ·rw[List.filter_eq_self];intro a ha
  have:=h3.2.2 a ha d (by simp)
  simpa using this
 ·rw[List.filter_eq_self];intro a ha
  have:a≠d:=fun e=>h4.1 (e▸ha)
  simpa using this
theorem U7(hG:HG G)(row:List ab)(d:ab)(hn:row.Nodup)(hl:row.length≤50000000):FX G 141 GM ((row,d,()),())=some ((gR row d,()),()):=by
 refine au (fn:=Tryz.f141) (hG _ _ rfl) (by kernel_rfl) (by kernel_rfl) ((Y5 _ _ _).trans ?_)
 refine aa (Bl (hG _ _ rfl) row d (by omega)) ?_
 unfold gR
 by_cases hd:d∈row
 ·obtain⟨k,h1,h2,h3⟩:=fi hd
  have aF:=(List.getElem?_eq_some_iff.1 h2).1
  rw[wG hn h2]
  show cond (decide (idx d row 0<0)) _ (cond (aK row.length 0 (idx d row 0)) (cond (aK row.length (IntKind.wrap .i64 (idx d row 0+1)) ((row.length:Nat):Int)) ((FX G 170 nG (([cut row 0 (idx d row 0),cut row (IntKind.wrap .i64 (idx d row 0+1)) ((row.length:Nat):Int)],()),())).bind fun(y3:(((List ab)×Unit)×Unit))=>some (y3.1,())) none) none)=_
  rw[h1,aG aF (by omega)]
  refine af (decide_eq_false (by omega)) (ae (vc (by omega)) (ae (E6 (by omega)) ?_))
  have key:∀a b:List ab,a=row.take k→b=row.drop (k+1)→((FX G 170 nG (([a,b],()),())).bind fun(y3:(((List ab)×Unit)×Unit))=>some (y3.1,()))=some ((cI (row.take k++row.drop (k+1)),()),()):=by
   intro a b ha hb
   subst ha hb
   refine aa (QC hG [row.take k,row.drop (k+1)] (by simp) (by unfold total;simp;omega)) ?_
   refine congrArg (fun l:List ab=>some ((l,()),())) ?_
   simp
  exact key _ _ (rG row k) (yM row (by omega))
 ·have h1:=ep.2 hd
  refine ae (decide_eq_true h1) (aa (Dz hG row (by omega)) ?_)
  refine congrArg (fun l:List ab=>some ((l,()),())) ?_
  congr 1
  symm
  rw[List.filter_eq_self];intro a ha
  have:a≠d:=fun e=>hd (e▸ha)
  simpa using this
theorem U8(hG:HG G)(row:List ab)(cK d:ab)(hl:row.length≤50000000):FX G 187 sD ((row,cK,d,()),())=some ((js row cK d,()),()):=by
 refine au (fn:=Tryz.f187) (hG _ _ rfl) (by kernel_rfl) (by kernel_rfl) ((Y6 _ _ _).trans ?_)
 refine aa (Bl (hG _ _ rfl) row cK (by omega)) ?_
 unfold js
 by_cases ho:cK∈row
 ·obtain⟨k,h1,h2,h3⟩:=fi ho
  have aF:=(List.getElem?_eq_some_iff.1 h2).1
  refine af (decide_eq_false (show ¬idx cK row 0<0 by omega)) ?_
  refine aa (Dy hG row d (by omega)) ?_
  by_cases hd:d∈row
  ·rw[if_neg (fun h=>h.2 hd)]
   exact ae (decide_eq_true hd) (aa (Dz hG row (by omega)) rfl)
  rw[if_pos ⟨ho,hd⟩]
  refine af (decide_eq_false hd) ?_
  show cond (aK row.length 0 (idx cK row 0)) (cond (aK row.length (IntKind.wrap .i64 (idx cK row 0+1)) ((row.length:Nat):Int)) ((FX G 170 nG (([cut row 0 (idx cK row 0),[d],cut row (IntKind.wrap .i64 (idx cK row 0+1)) ((row.length:Nat):Int)],()),())).bind fun(y3:(((List ab)×Unit)×Unit))=>some (y3.1,())) none) none=_
  rw[h1,aG aF (by omega)]
  refine ae (vc (by omega)) (ae (E6 (by omega)) ?_)
  have key:∀a b R:List ab,a=row.take k→b=row.drop (k+1)→R=cI (row.set ((k:Int)).toNat d)→((FX G 170 nG (([a,[d],b],()),())).bind fun(y3:(((List ab)×Unit)×Unit))=>some (y3.1,()))=some ((R,()),()):=by
   intro a b R ha hb hR
   subst ha hb hR
   refine aa (QC hG [row.take k,[d],row.drop (k+1)] (by simp) (by unfold total;simp;omega)) ?_
   refine congrArg (fun l:List ab=>some ((l,()),())) ?_
   rw[Int.toNat_natCast,List.set_eq_take_append_cons_drop,if_pos aF];simp
  exact key _ _ _ (rG row k) (yM row (by omega)) rfl
 ·have h1:=ep.2 ho
  rw[if_neg (fun h=>ho h.1)]
  exact ae (decide_eq_true h1) (aa (Dz hG row (by omega)) rfl)
theorem aaV(hG:HG G)(row:List ab)(d:ab)(hl:row.length≤100000000):FX G 140 De ((row,d,()),())=some (Ho (dF row d (row.length-1)),()):=by
 refine au (fn:=Tryz.f140) (hG _ _ rfl) (by kernel_rfl) (by kernel_rfl) ((Zm _ _ _).trans ?_)
 have key:FX G 167 Aw ((row,(d,((IntKind.wrap .i64 (((row.length:Nat):Int)-1)),()))),())=some (Ho (dF row d (row.length-1)),()):=by
  refine au (fn:=Tryz.f167) (hG _ _ rfl) (by kernel_rfl) (by kernel_rfl) ((UL _ _ _).trans ?_)
  refine aa (Bl (hG _ _ rfl) row d (by omega)) ?_
  unfold dF
  by_cases hd:d∈row
  ·rw[if_pos hd]
   obtain⟨k,h1,h2,h3⟩:=fi hd
   have aF:=(List.getElem?_eq_some_iff.1 h2).1
   refine af (decide_eq_false (show ¬idx d row 0<0 by omega)) ?_
   refine af (ET hd) ?_
   have hw:IntKind.wrap .i64 (((row.length:Nat):Int)-1)=((row.length-1:Nat):Int):=by rw[wrap_small (by omega) (by omega)];omega
   have Ny:IntKind.wrap .i64 (idx d row 0+IntKind.wrap .i64 (((row.length:Nat):Int)-1))=((k+(row.length-1):Nat):Int):=by
    rw[hw,h1,wrap_small (by omega) (by omega)];rfl
   have wx:(k+(row.length-1))%row.length<row.length:=Nat.mod_lt _ (by omega)
   have hx:=List.getElem?_eq_getElem wx
   refine aa (show aX row (Int.tmod (IntKind.wrap .i64 (idx d row 0+IntKind.wrap .i64 (((row.length:Nat):Int)-1))) ((row.length:Nat):Int))=some row[(k+(row.length-1))%row.length] by rw[Ny,qE];exact aI hx) ?_
   rw[h1,Int.toNat_natCast,hx];rfl
  ·rw[if_neg hd]
   exact ae (decide_eq_true (ep.2 hd)) rfl
 refine aa key ?_
 rfl
end Go.Vs
