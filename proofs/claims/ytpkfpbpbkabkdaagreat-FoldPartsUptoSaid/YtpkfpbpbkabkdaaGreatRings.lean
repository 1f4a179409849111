/- What the program computes at -/
import Derived.Test.YtpkfpbpbkabkdaaGreatPlaces
set_option linter.unusedVariables false
set_option linter.unusedSimpArgs false
namespace Go.Vs
open Go.Proofs
variable {G:(f:FuncId)→(g:aO)→Option (g.A→Option g.B)}
theorem get_at{s:ByteArray}{i:Nat}{c:UInt8}(h:s.data.toList[i]? = some c):s.get! i=c:=by
 have hi:i<s.data.size:=by have:=(abr.1 h).1;simpa using this
 have h2:=(abr.1 h).2;show s.data[i]! = c;rw[getElem!_pos s.data i hi,←h2];simp
theorem Ou{s:ByteArray}{i:Nat}(h:(s.get! i).toNat<128):Utf8.decode s i=((s.get! i).toNat,1):=by unfold Utf8.decode;simp only[Nat.add_zero];rw[if_pos h]
theorem Ov{s:ByteArray}{i:Nat}(h:¬(s.get! i).toNat<128):128≤(Utf8.decode s i).1:=by
 unfold Utf8.decode;simp only[Nat.add_zero];rw[if_neg h]
 repeat' split
 all_goals first|(simp_all only[Bool.and_eq_true,decide_eq_true_eq];omega)|decide|omega
theorem agj(hG:G 161 vF=none)(s:ByteArray)(hs:s.size≤100000000):∀(n i:Nat),i+n=s.size → LX G 161 vF Tryz.f161 xk (aZ Tryz.prog 161 0) ((s,()),((),((s,i),())))=some ((((s.data.toList.drop i).all tR&&decide (s.size≤16),()),()):(Bool×Unit)×Unit):=by
 have hl:s.data.toList.length=s.size:=by simp
 intro n
 induction n with
 |zero =>intro i hi;refine aC QX ?_;refine af (decide_eq_false (show ¬(i<s.size) by omega)) ?_;refine congrArg (fun b:Bool=>some ((b,()),())) ?_;rw[List.drop_eq_nil_of_le (by omega),List.all_nil,Bool.true_and,Bool.eq_iff_iff];simp;omega
 |succ n ih =>
  intro i hi;have aF:i<s.data.toList.length:=by omega
  have hx:s.data.toList[i]? = some s.data.toList[i]:=abv aF;generalize s.data.toList[i]=c at hx;have hd:s.data.toList.drop i=c::s.data.toList.drop (i+1):=by rw[List.drop_eq_getElem_cons aF];rw[List.getElem?_eq_getElem aF]at hx;cases hx;rfl
  have hg:=get_at hx;refine aC QX ?_;refine ae (decide_eq_true (show i<s.size by omega)) ?_;show cond (decide (pe s i<32)) _ (cond (decide (pe s i>126)) _ (LX G 161 vF Tryz.f161 xk (aZ Tryz.prog 161 0) ((s,()),((),((s,i+Ar s i),())))))=_;rw[hd,List.all_cons];by_cases h1:c.toNat<128
  ·have hr:Utf8.decode s i=(c.toNat,1):=by rw[Ou (by rw[hg];exact h1),hg]
   have Zk:pe s i=(c.toNat:Int):=by unfold pe;rw[hr]
   have JJ:Ar s i=1:=by unfold Ar;rw[hr]
   rw[Zk,JJ];by_cases h2:c.toNat<32
   ·refine ae (decide_eq_true (by omega)) ?_;have:tR c=false:=by unfold tR;simp;omega
    rw[this];rfl
   refine af (decide_eq_false (by omega)) ?_;by_cases h3:126<c.toNat
   ·refine ae (decide_eq_true (by omega)) ?_;have:tR c=false:=by unfold tR;simp;omega
    rw[this];rfl
   refine af (decide_eq_false (by omega)) ?_;have:tR c=true:=by unfold tR;simp;omega
   rw[this,Bool.true_and];exact ih (i+1) (by omega)
  ·have h2:=Ov (s:=s) (i:=i) (by rw[hg];exact h1);have Zk:128≤pe s i:=by unfold pe;omega
   refine af (decide_eq_false (by omega)) (ae (decide_eq_true (by omega)) ?_);have:tR c=false:=by unfold tR;simp;omega
   rw[this];rfl
theorem abO(hG:G 161 vF=none)(s:ByteArray)(hs:s.size≤100000000):FX G 161 vF ((s,()),())=some ((lB s,()),()):=by refine aA hG afI ?_;have:=agj hG s hs s.size 0 (by omega);rw[List.drop_zero]at this;exact this
theorem abP(hG:G 162 FQ=none)(n:Int):FX G 162 FQ ((n,()),())=some ((mG n,()),()):=by refine aA hG afJ ?_;show(cond (decide (n≥-1099511627776)) (some ((decide (n≤1099511627776),()),())) (some ((false,()),())):Option ((Bool×Unit)×Unit))=some ((mG n,()),());unfold mG;by_cases h1 : -1099511627776≤n<;>simp[h1]
def Ow(n:Int):Prop := -9223372036854775808≤n∧n<9223372036854775808
theorem RG(x:BitVec 64):IntKind.wrap .i64 ((x.toNat:Nat):Int)=x.toInt:=by
 unfold IntKind.wrap;simp only[IntKind.bits,IntKind.signed];have h:=x.isLt;have h2:=BitVec.toInt_eq_toNat_cond x;rw[h2];simp
 split<;>split<;>omega
theorem ofInt_toInt{n:Int}(h:Ow n):(BitVec.ofInt 64 n).toInt=n:=by unfold Ow at h;rw[BitVec.toInt_ofInt];exact Int.bmod_eq_of_le (by omega) (by omega)
theorem UY{n:Int}(h:Ow n):(eT .andNot .i64 n 3==(0:Int))=decide (0≤n∧n≤3):=by
 have e:eT .andNot .i64 n 3=(BitVec.ofInt 64 n &&& ~~~(BitVec.ofInt 64 3)).toInt:=by unfold eT;exact RG _
 rw[e,Bool.eq_iff_iff];simp only[beq_iff_eq,decide_eq_true_eq];generalize hx:BitVec.ofInt 64 n=x;have hn:=ofInt_toInt h;rw[hx]at hn;have h1:(x &&& ~~~(BitVec.ofInt 64 3)).toInt=0↔(x &&& ~~~(BitVec.ofInt 64 3))=0#64:=by
  constructor
  ·intro h;exact BitVec.eq_of_toInt_eq (by rw[h];rfl)
  ·intro h;rw[h];rfl
 rw[h1,←hn];constructor
 ·intro h;have h2:x=x &&& 3#64:=by
   have h3:x=(x &&& ~~~(BitVec.ofInt 64 3)) ||| (x &&& 3#64):=by
    ext i hi;simp only[BitVec.getElem_or,BitVec.getElem_and,BitVec.getElem_not];have:(BitVec.ofInt 64 3)=3#64:=rfl;rw[this]
    cases x[i]<;>cases (3#64)[i]<;>rfl
   rw[h]at h3;simpa using h3
  have h4:x.toNat≤3:=by rw[h2,BitVec.toNat_and];exact Nat.and_le_right
  rw[BitVec.toInt_eq_toNat_cond]
  split<;>omega
 ·intro h;have h4:x.toNat≤3:=by
   rw[BitVec.toInt_eq_toNat_cond]at h;have:=x.isLt
   split at h<;>omega
  have h5:x=0#64∨x=1#64∨x=2#64∨x=3#64:=by
   have:x.toNat=0∨x.toNat=1∨x.toNat=2∨x.toNat=3:=by omega
   rcases this with h|h|h|h
   ·exact .inl (BitVec.eq_of_toNat_eq (by rw[h];rfl))
   ·exact .inr (.inl (BitVec.eq_of_toNat_eq (by rw[h];rfl)))
   ·exact .inr (.inr (.inl (BitVec.eq_of_toNat_eq (by rw[h];rfl))))
   ·exact .inr (.inr (.inr (BitVec.eq_of_toNat_eq (by rw[h];rfl))))
  rcases h5 with rfl|rfl|rfl|rfl<;>decide
theorem UZ{n:Int}(h:Ow n):(eT .andNot .i64 n 1==(0:Int))=decide (n=0∨n=1):=by
 have e:eT .andNot .i64 n 1=(BitVec.ofInt 64 n &&& ~~~(BitVec.ofInt 64 1)).toInt:=by unfold eT;exact RG _
 rw[e,Bool.eq_iff_iff];simp only[beq_iff_eq,decide_eq_true_eq];generalize hx:BitVec.ofInt 64 n=x;have hn:=ofInt_toInt h;rw[hx]at hn;have h1:(x &&& ~~~(BitVec.ofInt 64 1)).toInt=0↔(x &&& ~~~(BitVec.ofInt 64 1))=0#64:=by
  constructor
  ·intro h;exact BitVec.eq_of_toInt_eq (by rw[h];rfl)
  ·intro h;rw[h];rfl
 rw[h1,←hn];constructor
 ·intro h;have h2:x=x &&& 1#64:=by
   have h3:x=(x &&& ~~~(BitVec.ofInt 64 1)) ||| (x &&& 1#64):=by
    ext i hi;simp only[BitVec.getElem_or,BitVec.getElem_and,BitVec.getElem_not];have:(BitVec.ofInt 64 1)=1#64:=rfl;rw[this]
    cases x[i]<;>cases (1#64)[i]<;>rfl
   rw[h]at h3;simpa using h3
  have h4:x.toNat≤1:=by rw[h2,BitVec.toNat_and];exact Nat.and_le_right
  rw[BitVec.toInt_eq_toNat_cond]
  split<;>omega
 ·intro h;have h4:x.toNat≤1:=by
   rw[BitVec.toInt_eq_toNat_cond]at h;have:=x.isLt
   split at h<;>omega
  have h5:x=0#64∨x=1#64:=by
   have:x.toNat=0∨x.toNat=1:=by omega
   rcases this with h|h
   ·exact .inl (BitVec.eq_of_toNat_eq (by rw[h];rfl))
   ·exact .inr (BitVec.eq_of_toNat_eq (by rw[h];rfl))
  rcases h5 with rfl|rfl<;>decide
theorem abQ(hG:HG G)(d:ab)(h:Ow d.2):FX G 190 HU ((d,()),())=some ((X6 d,()),()):=by
 refine aA (hG _ _ rfl) aav ?_;refine aa (KU (hG _ _ rfl) d.1) ?_;unfold X6
 cases dL d.1
 ·rfl
 ·exact ae rfl (congrArg (fun b:Bool=>some ((b,()),())) (UZ h))
theorem abR(hG:HG G)(c:uP)(h:Ow c.2.2):FX G 160 Dp ((c,()),())=some ((IB c,()),()):=by
 refine aA (hG _ _ rfl) afH ?_;refine aa (KU (hG _ _ rfl) c.1) ?_;unfold IB
 cases dL c.1
 ·rfl
 refine ae rfl ?_;have hb:(((c.2.1.1==(0:Int))&&(c.2.1.2==(0:Int)))&&(c.2.2==(0:Int)))=decide (c.2=zD):=Dq c.2 zD;by_cases hz:c.2=zD
 ·refine ae (hb.trans (decide_eq_true hz)) ?_;rw[decide_eq_true hz,Bool.or_true];rfl
 ·refine af (hb.trans (decide_eq_false hz)) ?_;refine aa (abQ hG c.2 h) ?_;rw[decide_eq_false hz,Bool.or_false];rfl
structure Fit(o:aY):Prop where
 a:Ow (oA o).2.2
 b:Ow (oB o).2.2
 n:Ow (oN o)
 t:KS o
def Ch(o:aY):aY :=if o.1=6 then(o.1,(bu o,(zI,(bM o,(zC,(zC,(false,(e0,0))))))))
 else if o.1=3 then(o.1,(bu o,(zI,(zI,(oA o,(oB o,(false,(e0,0))))))))
 else if o.1=5 then(o.1,(bu o,(fQ o,(bM o,(zC,(zC,(false,(e0,oN o))))))))
 else if o.1=7 then(o.1,(bu o,(zI,(zI,(zC,(zC,(xx o,(wm o,0))))))))
 else if o.1=8 then(o.1,(bu o,(zI,(zI,(zC,(zC,(xx o,(e0,oN o))))))))
 else(o.1,(bu o,(zI,(zI,(zC,(zC,(false,(e0,0))))))))
def Gh(o:aY):Int :=if o.1=6 then(if dL (bu o)=true∧dL (bM o)=true then 0 else 1)
 else if o.1=3 then(if dL (bu o)=true∧IB (oA o)=true∧IB (oB o)=true then 0 else 1)
 else if o.1=5 then(if dL (bu o)=true∧dL (fQ o)=true∧dL (bM o)=true∧0≤oN o∧oN o≤3 then 0 else 1)
 else if o.1=7 then(if dL (bu o)=true then(if lB (wm o)=true then 0 else 4) else 1)
 else if o.1=8 then(if dL (bu o)=true∧mG (oN o)=true then 0 else 1)
 else if o.1=1∨o.1=2∨o.1=4 then(if dL (bu o)=true then 0 else 1)
 else 1
theorem GN{o:aY}{k:Int}(h:o.1=k):(o.1==k)=true:=by simp[h]
theorem yW{o:aY}{k:Int}(h:¬o.1=k):(o.1==k)=false:=by simp[h]
theorem agk(hG:HG G)(o:aY)(hf:Fit o):FX G 132 QJ ((o,()),())=some ((Ch o,(Gh o,())),()):=by
 refine aA (hG _ _ rfl) afA ?_;refine aa (KU (hG _ _ rfl) (bu o)) ?_;unfold Ch Gh;by_cases h1:o.1=1
 ·refine ae (GN h1) (ae (GN h1) ?_);rw[if_neg (by omega),if_neg (by omega),if_neg (by omega),if_neg (by omega),if_neg (by omega),if_neg (by omega),if_neg (by omega),if_neg (by omega),if_neg (by omega),if_neg (by omega),if_pos (by omega)]
  cases dL (bu o)<;>rfl
 refine af (yW h1) ?_;by_cases h2:o.1=2
 ·refine ae (GN h2) (ae (GN h2) ?_);rw[if_neg (by omega),if_neg (by omega),if_neg (by omega),if_neg (by omega),if_neg (by omega),if_neg (by omega),if_neg (by omega),if_neg (by omega),if_neg (by omega),if_neg (by omega),if_pos (by omega)]
  cases dL (bu o)<;>rfl
 refine af (yW h2) ?_;by_cases h4:o.1=4
 ·refine ae (GN h4) ?_;rw[if_neg (by omega),if_neg (by omega),if_neg (by omega),if_neg (by omega),if_neg (by omega),if_neg (by omega),if_neg (by omega),if_neg (by omega),if_neg (by omega),if_neg (by omega),if_pos (by omega)]
  cases dL (bu o)<;>rfl
 refine af (yW h4) ?_;by_cases h6:o.1=6
 ·refine ae (GN h6) ?_;rw[if_pos h6,if_pos h6]
  cases dL (bu o)
  ·rfl
  refine ae rfl (aa (KU (hG _ _ rfl) (bM o)) ?_)
  cases dL (bM o)<;>rfl
 refine af (yW h6) ?_;rw[if_neg h6,if_neg h6];by_cases h3:o.1=3
 ·refine ae (GN h3) ?_;rw[if_pos h3,if_pos h3]
  cases dL (bu o)
  ·rfl
  refine ae rfl (aa (abR hG (oA o) hf.a) ?_)
  cases IB (oA o)
  ·rfl
  refine ae rfl (aa (abR hG (oB o) hf.b) ?_)
  cases IB (oB o)<;>rfl
 refine af (yW h3) ?_;rw[if_neg h3,if_neg h3];by_cases h5:o.1=5
 ·refine ae (GN h5) ?_;rw[if_pos h5,if_pos h5]
  cases dL (bu o)
  ·rfl
  refine ae rfl (aa (KU (hG _ _ rfl) (fQ o)) ?_)
  cases dL (fQ o)
  ·rfl
  refine ae rfl (aa (KU (hG _ _ rfl) (bM o)) ?_)
  cases dL (bM o)
  ·rfl
  refine ae rfl (bc (UY hf.n) ?_);by_cases h:0≤oN o∧oN o≤3
  ·rw[decide_eq_true h,if_pos ⟨rfl,rfl,rfl,h⟩];rfl
  ·rw[decide_eq_false h,if_neg (fun k=>h k.2.2.2)];rfl
 refine af (yW h5) ?_;rw[if_neg h5,if_neg h5];by_cases h7:o.1=7
 ·refine ae (GN h7) ?_;rw[if_pos h7,if_pos h7];refine aa (abO (hG _ _ rfl) (wm o) hf.t) ?_
  cases lB (wm o)<;>cases dL (bu o)<;>rfl
 refine af (yW h7) ?_;rw[if_neg h7,if_neg h7];by_cases h8:o.1=8
 ·refine ae (GN h8) ?_;rw[if_pos h8,if_pos h8]
  cases dL (bu o)
  ·rfl
  refine ae rfl (aa (abP (hG _ _ rfl) (oN o)) ?_)
  cases mG (oN o)<;>rfl
 refine af (yW h8) ?_;rw[if_neg h8,if_neg h8,if_neg (by omega)];rfl
theorem Ox(o:aY)(h1:1≤o.1)(h8:o.1≤8):Dt (Ch o) o=Dt (IC o) zOp:=by
 rw[Bool.eq_iff_iff,IE,IE];obtain⟨k,i,n,m,⟨a1,a2⟩,⟨b1,b2⟩,f,t,q⟩:=o;simp only at h1 h8;unfold Ch IC zOp;have:k=1∨k=2∨k=3∨k=4∨k=5∨k=6∨k=7∨k=8:=by omega
 rcases this with rfl|rfl|rfl|rfl|rfl|rfl|rfl|rfl<;>simp only[Int.reduceEq,if_true,if_false]<;>constructor<;>intro h<;>simp only[zC,Prod.mk.injEq,true_and,and_true]at h ⊢<;>grind
theorem agl(hG:HG G)(o:aY)(hf:Fit o):FX G 104 QI ((o,()),())=some ((cX o,()),()):=by
 refine aA (hG _ _ rfl) aft ?_;refine aa (agk hG o hf) ?_;refine bc (b:=Dt (Ch o) o) rfl ?_;unfold cX;by_cases h1:o.1<1
 ·rw[if_pos h1];have:Gh o=1:=by unfold Gh;rw[if_neg (by omega),if_neg (by omega),if_neg (by omega),if_neg (by omega),if_neg (by omega),if_neg (by omega)]
  rw[this];cases Dt (Ch o) o<;>rfl
 rw[if_neg h1];by_cases h8:8<o.1
 ·rw[if_pos h8];have:Gh o=1:=by unfold Gh;rw[if_neg (by omega),if_neg (by omega),if_neg (by omega),if_neg (by omega),if_neg (by omega),if_neg (by omega)]
  rw[this];cases Dt (Ch o) o<;>rfl
 rw[if_neg h8,Ox o (by omega) (by omega)];have hk:o.1=1∨o.1=2∨o.1=3∨o.1=4∨o.1=5∨o.1=6∨o.1=7∨o.1=8:=by omega
 by_cases hm:dL (bu o)=true
 case neg =>
  have hb:Gh o=1:=by unfold Gh;rcases hk with h|h|h|h|h|h|h|h<;>simp[h,hm]
  rw[if_pos (by simpa using hm),hb];cases Dt (IC o) zOp<;>rfl
 rw[if_neg (by simp[hm])]
 cases Dt (IC o) zOp
 ·rw[if_pos rfl];rfl
 rw[if_neg (by simp)];refine af rfl ?_;refine congrArg (fun n:Int=>some ((n,()),())) ?_;unfold Gh;rcases hk with h|h|h|h|h|h|h|h<;>simp[h,hm]
theorem agm(hG:HG G)(l:List aY)(hl:l.length≤1073741824)(hf:∀o∈l,Fit o):FX G 66 HR ((l,()),())=some ((gK l,()),()):=by
 refine aA (hG _ _ rfl) afx ?_;unfold gK;by_cases h0:l.length=0
 ·refine ae (show(((l.length:Nat):Int)==0)=true by simp[h0]) ?_;rw[if_neg (by omega)];rfl
 refine af (show(((l.length:Nat):Int)==0)=false by rw[beq_eq_false_iff_ne];omega) ?_;by_cases h6:6<l.length
 ·refine ae (decide_eq_true (show((l.length:Nat):Int)>6 by omega)) ?_;rw[if_neg (by omega)];rfl
 refine af (decide_eq_false (show ¬((l.length:Nat):Int)>6 by omega)) ?_;rw[if_pos (by omega)];have loop:∀(n i:Nat),i+n=l.length→LX G 66 HR Tryz.f66 BR (aZ Tryz.prog 66 0) ((l,(((l.length:Nat):Int),((i:Int),()))),((),()))=some ((oM (l.drop i),()),()):=by
  intro n
  induction n with
  |zero =>intro i hi;refine aC QV ?_;refine af (decide_eq_false (show ¬((i:Int)<((l.length:Nat):Int)) by omega)) ?_;rw[List.drop_eq_nil_of_le (by omega)];rfl
  |succ n ih =>
   intro i hi;have aF:i<l.length:=by omega
   refine aC QV ?_;refine ae (bg aF) (aa (aR (abv aF)) ?_);refine aa (agl hG l[i] (hf _ (acC aF))) ?_;rw[List.drop_eq_getElem_cons aF,oM];by_cases hz:cX l[i]=0
   ·rw[if_neg (by simp[hz])];refine af (show(cX l[i] != 0)=false by simp[hz]) ?_;rw[wI,aK aF hl];exact ih (i+1) (by omega)
   ·rw[if_pos hz];exact ae (show(cX l[i] != 0)=true by simp[hz]) rfl
 have:=loop l.length 0 (by omega);rw[List.drop_zero]at this;exact this
theorem WG(hG:HG G)(v:aq)(x:ID):FX G 214 Eu ((v,x,()),())=some ((Cd v.1 x,()),()):=by refine aA (hG _ _ rfl) aaS ?_;exact aa (Mt hG v.1 x) rfl
def bZ(l:List aq)(x:ID):Nat:=l.countP fun v=>gI v.1 x
def dd(l:List aq):Prop:=l.Pairwise fun a b=>gI a.1 b.1=true
theorem Gi(l:List aq)(x:ID):bZ l x≤l.length:=adV
theorem sS{l:List aq}{x:ID}(h:∀v∈l,gI v.1 x=false):bZ l x=0:=by unfold bZ;rw[List.countP_eq_zero];intro v hv;simp[h v hv]
theorem xD{x:ID}:∀{l:List aq},dd l→∀(k:Nat) (v:aq),l[k]? = some v→(gI v.1 x=true↔k<bZ l x)
 |[],_,k,v,h=>by simp at h
 |w::r,hs,k,v,h=>by
  have hw:∀{u:aq},u∈r→gI w.1 u.1=true:=fun {u} hu=>acD hs hu;have hr:dd r:=hs.of_cons;by_cases aF:gI w.1 x=true
  ·have e:bZ (w::r) x=bZ r x+1:=by unfold bZ;rw[List.countP_cons_of_pos (by simpa using aF)]
   cases k with
   |zero=>simp at h;subst h;simp[aF,e]
   |succ k=>have:=xD (x:=x) hr k v (by simpa using h);rw[this,e];omega
  ·have hn:∀u∈w::r,gI u.1 x=false:=fun u hu=>by
    rcases abw.1 hu with rfl|hu
    ·simpa using aF
    ·rw[Bool.eq_false_iff];intro h2;exact aF (je (hw hu) h2)
   rw[sS hn,hn v (List.mem_of_getElem? h)];simp
theorem RH(hG:HG G)(l:List aq)(x:ID)(hs:dd l)(hl:l.length≤50000000):∀(n i j:Nat),j-i≤n→i≤bZ l x→bZ l x≤j→j≤l.length → LX G 215213 jz Tryz.f213 iP (aZ Tryz.prog 213 0) ((l,(((l.length:Nat):Int),((i:Int),((j:Int),())))),(((x,()),()),()))=some (((((bZ l x:Nat):Int),(decide ((l[bZ l x]?).map (·.1)=some x),())):Int×(Bool×Unit)),()):=by
 have rh:=Gi l x;have fin:∀(i j:Nat),¬(i<j)→i≤bZ l x→bZ l x≤j→LX G 215213 jz Tryz.f213 iP (aZ Tryz.prog 213 0) ((l,(((l.length:Nat):Int),((i:Int),((j:Int),())))),(((x,()),()),()))=some (((((bZ l x:Nat):Int),(decide ((l[bZ l x]?).map (·.1)=some x),())):Int×(Bool×Unit)),()):=fun i j AT h1 h2=>by
  have hi:i=bZ l x:=by omega
  subst hi;refine aC BU ?_;refine af (decide_eq_false (show ¬(((bZ l x:Nat):Int)<(j:Int)) by omega)) ?_;by_cases hc:bZ l x<l.length
  ·have hx:l[bZ l x]? = some l[bZ l x]:=abv hc;refine ae (bg hc) ?_;refine aa (aR hx) ?_;refine aa (WG hG l[bZ l x] x) ?_;refine congrArg (fun b:Bool=>some ((((bZ l x:Nat):Int),(b,())),())) ?_;rw[hx];unfold Cd;by_cases he:l[bZ l x].1=x
   ·simp[he]
   ·simp[he];split<;>simp
  ·refine af (decide_eq_false (show ¬(((bZ l x:Nat):Int)<((l.length:Nat):Int)) by omega)) ?_;refine congrArg (fun b:Bool=>some ((((bZ l x:Nat):Int),(b,())),())) ?_;rw[List.getElem?_eq_none (by omega)];simp
 intro n
 induction n with
 |zero=>intro i j AT h1 h2 h3;exact fin i j (by omega) h1 h2
 |succ n ih =>
  intro i j AT h1 h2 h3;by_cases aF:i<j
  case neg=>exact fin i j aF h1 h2
  refine aC BU ?_;refine ae (decide_eq_true (show((i:Int)<(j:Int)) by omega)) ?_;refine af rfl ?_;have hm:=KW (i:=i) (j:=j) (by omega) (by omega);have hh:(i+j) / 2<l.length:=by omega
  have hx:l[(i+j) / 2]? = some l[(i+j) / 2]:=abv hh;have oz:=xD (x:=x) hs ((i+j) / 2) _ hx;refine aa (show bU l (IntKind.wrap .i64 (gQ .u64 (IntKind.wrap .u64 (IntKind.wrap .i64 ((i:Int)+(j:Int)))) (1:Int)))=some l[(i+j) / 2] by rw[hm];exact aR hx) ?_;refine aa (WG hG l[(i+j) / 2] x) ?_;by_cases ho:gI l[(i+j) / 2].1 x=true
  ·refine ae (decide_eq_true ((wj _ _).2 ho)) ?_;have hc:=oz.1 ho;have hw:IntKind.wrap .i64 (IntKind.wrap .i64 (gQ .u64 (IntKind.wrap .u64 (IntKind.wrap .i64 ((i:Int)+(j:Int)))) (1:Int))+1)=(((i+j) / 2+1:Nat):Int):=by rw[hm];exact aK hh (by omega)
   have:=ih ((i+j) / 2+1) j (by omega) (by omega) h2 h3;rw[←hw]at this;exact this
  ·refine af (decide_eq_false (fun h=>ho ((wj _ _).1 h))) ?_;have hc:¬(i+j) / 2<bZ l x:=fun h=>ho (oz.2 h);have:=ih i ((i+j) / 2) (by omega) h1 (by omega) (by omega);rw[←hm]at this;exact this
theorem RI(hG:HG G)(l:List aq)(x:ID)(hs:dd l)(hl:l.length≤50000000) :
  FX G 215213 jz ((l,x,()),())=some (((((bZ l x:Nat):Int),(decide ((l[bZ l x]?).map (·.1)=some x),())):Int×(Bool×Unit)),()):=by
 refine aA (hG _ _ rfl) QZ ?_;exact RH hG l x hs hl l.length 0 l.length (by omega) (by omega) (Gi l x) (acn _)
theorem oT(hG:HG G)(w:aQ)(x:ID)(hs:dd w.2.1)(hl:w.2.1.length≤50000000) :
  FX G 182 nr ((x,()),(w,()))=some (((((bZ w.2.1 x:Nat):Int),(decide ((w.2.1[bZ w.2.1 x]?).map (·.1)=some x),())):Int×(Bool×Unit)),(w,())):=by
 refine aA (hG _ _ rfl) aaB ?_;exact aa (RI hG w.2.1 x hs hl) rfl
theorem xF{x:ID}:∀{l:List aq},dd l→aV l x=(l[bZ l x]?).filter fun v=>decide (v.1=x)
 |[],_=>rfl
 |w::r,hs=>by
  have hw:∀{u:aq},u∈r→gI w.1 u.1=true:=fun {u} hu=>acD hs hu;have hr:dd r:=hs.of_cons;by_cases aF:gI w.1 x=true
  ·have e:bZ (w::r) x=bZ r x+1:=by unfold bZ;rw[List.countP_cons_of_pos (by simpa using aF)]
   have aW:¬w.1=x:=fun e=>by rw[e,bV]at aF;cases aF
   rw[e];simp only[aV,List.find?_cons,aW,decide_false,List.getElem?_cons_succ];exact xF hr
  ·have hn:∀u∈w::r,gI u.1 x=false:=fun u hu=>by
    rcases abw.1 hu with rfl|hu
    ·simpa using aF
    ·rw[Bool.eq_false_iff];intro h2;exact aF (je (hw hu) h2)
   rw[sS hn];by_cases he:w.1=x
   ·simp[aV,List.find?_cons,he,Option.filter]
   ·have JK:gI x w.1=true:=lL (by simpa using aF) he;have:aV r x=none:=by
     unfold aV;rw[List.find?_eq_none];intro u hu h2;have h3:u.1=x:=by simpa using h2
     have h4:=hw hu;rw[h3]at h4;have:=lK h4;rw[JK]at this;cases this
    rw[show aV (w::r) x=aV r x by simp only[aV,List.find?_cons,he,decide_false],this];simp[he,Option.filter]
theorem c8{l:List aq}{x:ID}(hs:dd l):decide ((l[bZ l x]?).map (·.1)=some x)=(aV l x).isSome:=by
 rw[xF hs]
 cases h:l[bZ l x]? with
 |none=>simp
 |some v=>by_cases he:v.1=x<;>simp[he,Option.filter]
theorem II(v:aq):∀{l:List aq},dd l→aV l v.1=none→fg v l=l.take (bZ l v.1)++(v::l.drop (bZ l v.1))
 |[],_,_=>rfl
 |w::r,hs,hf=>by
  have hw:∀{u:aq},u∈r→gI w.1 u.1=true:=fun {u} hu=>acD hs hu;have hr:dd r:=hs.of_cons;have aW:¬w.1=v.1:=fun e=>by simp[aV,e]at hf
  have Bq:aV r v.1=none:=by simpa[aV,List.find?_cons,aW] using hf
  by_cases aF:gI w.1 v.1=true
  ·have e:bZ (w::r) v.1=bZ r v.1+1:=by unfold bZ;rw[List.countP_cons_of_pos (by simpa using aF)]
   have TB:gI v.1 w.1=false:=lK aF;rw[e,fg,if_neg (by simp[TB]),II v hr Bq];rfl
  ·have hn:∀u∈w::r,gI u.1 v.1=false:=fun u hu=>by
    rcases abw.1 hu with rfl|hu
    ·simpa using aF
    ·rw[Bool.eq_false_iff];intro h2;exact aF (je (hw hu) h2)
   have JK:gI v.1 w.1=true:=lL (by simpa using aF) aW;rw[sS hn,fg,if_pos JK];rfl
theorem xG{x:ID}:∀{l:List aq},dd l→(aV l x).isSome=true→dX l x=l.take (bZ l x)++l.drop (bZ l x+1)
 |[],_,hf=>by simp[aV]at hf
 |w::r,hs,hf=>by
  have hw:∀{u:aq},u∈r→gI w.1 u.1=true:=fun {u} hu=>acD hs hu;have hr:dd r:=hs.of_cons;by_cases he:w.1=x
  ·have hn:∀u∈w::r,gI u.1 x=false:=fun u hu=>by
    rcases abw.1 hu with rfl|hu
    ·rw[he,bV]
    ·rw[←he];exact lK (hw hu)
   have fq:dX r x=r:=by unfold dX;rw[List.filter_eq_self];intro u hu;have h4:=hw hu;simp;intro e2;rw[he,e2,bV]at h4;cases h4
   rw[sS hn];unfold dX;rw[List.filter_cons_of_neg (by simp[he])];exact fq
  ·have Bq:(aV r x).isSome=true:=by simpa[aV,List.find?_cons,he] using hf
   have aF:gI w.1 x=true:=by
    obtain⟨u,hu⟩:=acv.1 Bq;have h1:=adj hu;have h2:u.1=x:=by simpa using adP hu
    rw[←h2];exact hw h1
   have e:bZ (w::r) x=bZ r x+1:=by unfold bZ;rw[List.countP_cons_of_pos (by simpa using aF)]
   rw[e];have:=xG hr Bq;simp[dX,List.filter_cons,he]at this ⊢;exact this
theorem xH(v:aq):∀{l:List aq},dd l→aV l v.1=none→dd (fg v l)
 |[],_,_=>List.pairwise_singleton _ _
 |w::r,hs,hf=>by
  have hw:∀{u:aq},u∈r→gI w.1 u.1=true:=fun {u} hu=>acD hs hu;have hr:dd r:=hs.of_cons;have aW:¬w.1=v.1:=fun e=>by simp[aV,e]at hf
  have Bq:aV r v.1=none:=by simpa[aV,List.find?_cons,aW] using hf
  unfold fg
  split
  ·rename_i h;refine List.Pairwise.cons (fun u hu=>?_) hs;rcases abw.1 hu with rfl|hu
   ·exact h
   ·exact je h (hw hu)
  ·rename_i h;have aF:gI w.1 v.1=true:=lL (by simpa using h) (fun e=>aW e.symm);refine List.Pairwise.cons (fun u hu=>?_) (xH v hr Bq);rcases oO.1 hu with rfl|hu
   ·exact aF
   ·exact hw hu
theorem uF{l:List aq}{x:ID}(hs:dd l):dd (dX l x):=hs.filter _
theorem cZ{l:List ai}{x:ID}{v:ai}(hs:bY l)(h:aL l x=some v):l[bB l x]? = some v:=by
 have kU:=sR (x:=x) hs;rw[h]at kU
 cases hg:l[bB l x]? with
 |none=>rw[hg]at kU;simp[Option.filter]at kU
 |some u =>
  rw[hg]at kU;simp only[Option.filter]at kU
  split at kU
  ·exact kU.symm
  ·cases kU
theorem iz{l:List ai}{x:ID}{v:ai}(h:aL l x=some v):v.1=x:=by simpa using adP h
theorem eO{l:List ai}{x:ID}{v:ai}(h:aL l x=some v):v∈l:=adj h
theorem j6{l:List ai}{x:ID}{k:Nat}{u:ai}(hs:bY l)(hk:l[k]? = some u)(hu:u.1=x):k=bB l x:=by
 have h1:¬k<bB l x:=fun h=>by have:=(xz hs k u hk).2 h;rw[hu,bV]at this;cases this
 have hf:(aL l x).isSome=true:=by unfold aL;rw[List.find?_isSome];exact⟨u,acy hk,by simp[hu]⟩
 obtain⟨v,hv⟩:=acv.1 hf;have hg:=cZ hs hv;by_cases h2:bB l x<k
 ·obtain⟨h3,h4⟩:=abr.1 hg;obtain⟨h5,h6⟩:=abr.1 hk;have:=ad1.1 hs _ _ h3 h5 h2;rw[h4,h6,iz hv,hu,bV]at this;cases this
 ·omega
theorem IJ{l:List ai}{x:ID}{v:ai}(hs:bY l)(h:aL l x=some v)(g f:ai→ai)(h1:∀w,w.1=x→g w=f w)(h2:∀w,w.1≠x→g w=w):l.map g=l.set (bB l x) (f v):=by
 have hg:=cZ hs h;apply adQ;intro k;rw[List.getElem?_map,List.getElem?_set];by_cases hk:bB l x=k
 ·subst hk;rw[if_pos rfl,if_pos (List.getElem?_eq_some_iff.1 hg).1,hg];simp[h1 v (iz h)]
 ·rw[if_neg hk]
  cases hu:l[k]? with
  |none=>rfl
  |some u =>have:u.1≠x:=fun e=>hk (j6 hs hu e).symm;simp[h2 u this]
theorem mJ{l:List aq}{x:ID}{v:aq}(hs:dd l)(h:aV l x=some v):l[bZ l x]? = some v:=by
 have kU:=xF (x:=x) hs;rw[h]at kU
 cases hg:l[bZ l x]? with
 |none=>rw[hg]at kU;simp[Option.filter]at kU
 |some u =>
  rw[hg]at kU;simp only[Option.filter]at kU
  split at kU
  ·exact kU.symm
  ·cases kU
theorem wo{l:List aq}{x:ID}{v:aq}(h:aV l x=some v):v.1=x:=by simpa using adP h
theorem Oy{l:List aq}{x:ID}{v:aq}(h:aV l x=some v):v∈l:=adj h
theorem Oz{l:List aq}{x:ID}{k:Nat}{u:aq}(hs:dd l)(hk:l[k]? = some u)(hu:u.1=x):k=bZ l x:=by
 have h1:¬k<bZ l x:=fun h=>by have:=(xD hs k u hk).2 h;rw[hu,bV]at this;cases this
 have hf:(aV l x).isSome=true:=by unfold aV;rw[List.find?_isSome];exact⟨u,acy hk,by simp[hu]⟩
 obtain⟨v,hv⟩:=acv.1 hf;have hg:=mJ hs hv;by_cases h2:bZ l x<k
 ·obtain⟨h3,h4⟩:=abr.1 hg;obtain⟨h5,h6⟩:=abr.1 hk;have:=ad1.1 hs _ _ h3 h5 h2;rw[h4,h6,wo hv,hu,bV]at this;cases this
 ·omega
theorem RJ{l:List aq}{x:ID}{v:aq}(hs:dd l)(h:aV l x=some v)(g f:aq→aq)(h1:∀w,w.1=x→g w=f w)(h2:∀w,w.1≠x→g w=w):l.map g=l.set (bZ l x) (f v):=by
 have hg:=mJ hs h;apply adQ;intro k;rw[List.getElem?_map,List.getElem?_set];by_cases hk:bZ l x=k
 ·subst hk;rw[if_pos rfl,if_pos (List.getElem?_eq_some_iff.1 hg).1,hg];simp[h1 v (wo h)]
 ·rw[if_neg hk]
  cases hu:l[k]? with
  |none=>rfl
  |some u =>have:u.1≠x:=fun e=>hk (Oz hs hu e).symm;simp[h2 u this]
theorem dd.map{l:List aq}(h:dd l){f:aq→aq}(hf:∀v,(f v).1=v.1):dd (l.map f):=by unfold dd at h ⊢;rw[List.pairwise_map];exact h.imp fun {a b} yS=>by rw[hf,hf];exact yS
theorem tS{α R:Type}{o:Option α}{a r:Option R}{f:α→Option R}{p:α}(h:o=some p)(k:f p=r):qV o a f=r:=by subst h;exact k
theorem Mv{α R:Type}{o:Option α}{a r:Option R}{f:α→Option R}(h:o=none)(k:a=r):qV o a f=r:=by subst h;exact k
def tT(w:aQ)(x:ID):Int×aQ :=if(aV w.2.1 x).isSome=true then(12,w) else if 40≤w.2.1.length then(3,w) else(0,(w.1,(fg (x,(e0,0)) w.2.1,w.2.2)))
theorem WH(hG:HG G)(w:aQ)(x:ID)(hs:dd w.2.1)(hl:w.2.1.length≤50000000):FX G 178 yK ((x,()),(w,()))=some (((tT w x).1,()),((tT w x).2,())):=by
 refine aA (hG _ _ rfl) aax ?_;refine aa (oT hG w x hs hl) ?_;unfold tT
 cases hf:(aV w.2.1 x).isSome
 ·rw[if_neg (by simp)];refine af ((c8 hs).trans hf) ?_;by_cases h2:40≤w.2.1.length
  ·rw[if_pos h2];exact ae (decide_eq_true (show((w.2.1.length:Nat):Int)≥40 by omega)) rfl
  ·rw[if_neg h2];refine af (decide_eq_false (show ¬((w.2.1.length:Nat):Int)≥40 by omega)) ?_;have hc:=Gi w.2.1 x;have ki:qW w.2.1 ((bZ w.2.1 x:Nat):Int) [((x,(e0,0)):aq)]=true:=by unfold qW;rw[decide_eq_true (show(0:Int)≤((bZ w.2.1 x:Nat):Int) by omega),decide_eq_true (show((bZ w.2.1 x:Nat):Int)≤((w.2.1.length:Nat):Int) by omega)];rw[fits (by simp;omega)];rfl
   refine ae ki ?_;have e:fZ w.2.1 ((bZ w.2.1 x:Nat):Int) [((x,(e0,0)):aq)]=fg (x,(e0,0)) w.2.1:=by rw[II (x,(e0,0)) hs (by simpa using hf)];unfold fZ;simp
   exact congrArg (fun l:List aq=>some (((0:Int),()),((w.1,(l,w.2.2)),()))) e
 ·rw[if_pos rfl];exact ae ((c8 hs).trans hf) rfl
def Ci(w:aQ)(o:aY):Option (Fin 2×Nat) :=if xx o=true then(if(aV w.2.1 (bu o)).isSome=true then some (⟨1,by decide⟩,bZ w.2.1 (bu o)) else none)
 else(if(aL w.1 (bu o)).isSome=true then some (⟨0,by decide⟩,bB w.1 (bu o)) else none)
theorem abS(hG:HG G)(w:aQ)(o:aY)(hv:bY w.1)(he:dd w.2.1)(WI:w.1.length≤50000000)(hle:w.2.1.length≤50000000) :
  FX G 189 HX ((o,()),(w,()))=some ((Ci w o,(Ci w o,())),(w,())):=by
 refine aA (hG _ _ rfl) aaJ ?_;unfold Ci;by_cases ho:xx o=true
 ·rw[if_pos ho];refine ae ho ?_;refine aa (oT hG w (bu o) he hle) ?_
  cases hf:aV w.2.1 (bu o) with
  |none =>refine af ((c8 he).trans (by rw[hf];rfl)) ?_;rfl
  |some e =>refine ae ((c8 he).trans (by rw[hf];rfl)) ?_;have aF:=(abr.1 (mJ he hf)).1;refine ae (cY (kS _) (bg aF)) ?_;exact ae (cY (kS _) (bg aF)) rfl
 ·rw[if_neg ho];refine af (by simpa using ho) ?_;refine aa (qz hG w (bu o) hv WI) ?_
  cases hf:aL w.1 (bu o) with
  |none =>refine af ((fK hv).trans (by rw[hf];rfl)) ?_;rfl
  |some e =>refine ae ((fK hv).trans (by rw[hf];rfl)) ?_;have aF:=(abr.1 (cZ hv hf)).1;refine ae (cY (kS _) (bg aF)) ?_;exact ae (cY (kS _) (bg aF)) rfl
def uG(w:aQ)(o:aY):Int×aQ :=if xx o=true then(if(aV w.2.1 (bu o)).isSome=true then(0,(w.1,(w.2.1.map (rG o),w.2.2))) else(13,w))
 else(if(aL w.1 (bu o)).isSome=true then(0,(w.1.map (mU o),w.2)) else(13,w))
theorem agn(hG:HG G)(w:aQ)(o:aY)(hv:bY w.1)(he:dd w.2.1)(WI:w.1.length≤50000000)(hle:w.2.1.length≤50000000) :
  FX G 158 QL ((o,()),(w,()))=some (((uG w o).1,()),((uG w o).2,())):=by
 refine aA (hG _ _ rfl) afM ?_;refine aa (abS hG w o hv he WI hle) ?_;by_cases ho:xx o=true
 ·cases hf:aV w.2.1 (bu o) with
  |none =>
   have e1:Ci w o=none:=by unfold Ci;rw[if_pos ho,hf];rfl
   have e2:uG w o=(13,w):=by unfold uG;rw[if_pos ho,hf];rfl
   rw[e2];exact Mv e1 (Mv e1 rfl)
  |some e =>
   have e1:Ci w o=some (⟨1,by decide⟩,bZ w.2.1 (bu o)):=by unfold Ci;rw[if_pos ho,hf];rfl
   have hm:∀f:aq→aq,(∀u,u.1=bu o→rG o u=f u)→w.2.1.map (rG o)=w.2.1.set (bZ w.2.1 (bu o)) (f e):=fun f hf1 =>RJ he hf (rG o) f hf1 (fun u hu=>by unfold rG;rw[if_neg (fun k=>hu k.2)]);have e2:uG w o=(0,(w.1,(w.2.1.map (rG o),w.2.2))):=by unfold uG;rw[if_pos ho,hf];rfl
   rw[e2];refine tS e1 (af rfl (ae rfl (tS e1 (af rfl (ae rfl ?_)))));by_cases h7:o.1=7
   ·refine ae (GN h7) (aa (mJ he hf) ?_);have:=hm (fun u=>(u.1,(wm o,u.2.2))) (fun u hu=>by unfold rG;rw[if_pos ⟨ho,hu⟩,if_pos h7]);exact congrArg (fun l:List aq=>some (((0:Int),()),((w.1,(l,w.2.2)),()))) this.symm
   ·refine af (yW h7) (aa (mJ he hf) ?_);have:=hm (fun u=>(u.1,(u.2.1,oN o))) (fun u hu=>by unfold rG;rw[if_pos ⟨ho,hu⟩,if_neg h7]);exact congrArg (fun l:List aq=>some (((0:Int),()),((w.1,(l,w.2.2)),()))) this.symm
 ·have nL:xx o=false:=by simpa using ho
  cases hf:aL w.1 (bu o) with
  |none =>
   have e1:Ci w o=none:=by unfold Ci;rw[if_neg ho,hf];rfl
   have e2:uG w o=(13,w):=by unfold uG;rw[if_neg ho,hf];rfl
   rw[e2];exact Mv e1 (Mv e1 rfl)
  |some e =>
   have e1:Ci w o=some (⟨0,by decide⟩,bB w.1 (bu o)):=by unfold Ci;rw[if_neg ho,hf];rfl
   have hm:∀f:ai→ai,(∀u,u.1=bu o→mU o u=f u)→w.1.map (mU o)=w.1.set (bB w.1 (bu o)) (f e):=fun f hf1 =>IJ hv hf (mU o) f hf1 (fun u hu=>by unfold mU;rw[if_neg (fun k=>hu k.2)]);have e2:uG w o=(0,(w.1.map (mU o),w.2)):=by unfold uG;rw[if_neg ho,hf];rfl
   rw[e2];refine tS e1 (ae rfl (tS e1 (ae rfl ?_)));by_cases h7:o.1=7
   ·refine ae (GN h7) (aa (cZ hv hf) ?_);have:=hm (fun u=>(u.1,(u.2.1,(wm o,u.2.2.2)))) (fun u hu=>by unfold mU;rw[if_pos ⟨nL,hu⟩,if_pos h7]);exact congrArg (fun l:List ai=>some (((0:Int),()),((l,w.2),()))) this.symm
   ·refine af (yW h7) (aa (cZ hv hf) ?_);have:=hm (fun u=>(u.1,(u.2.1,(u.2.2.1,oN o)))) (fun u hu=>by unfold mU;rw[if_pos ⟨nL,hu⟩,if_neg h7]);exact congrArg (fun l:List ai=>some (((0:Int),()),((l,w.2),()))) this.symm
theorem WJ(hG:HG G)(a b:ab):FX G 195 Ew ((a,b,()),())=some ((tn a b,()),()):=by
 refine aA (hG _ _ rfl) aaV ?_;refine aa (Mt hG a.1 b.1) ?_;refine aa (RC hG a.2 b.2) ?_;refine aa (WD (hG _ _ rfl) (Cd a.1 b.1) (KV a.2 b.2)) ?_;refine congrArg (fun n:Int=>some ((n,()),())) ?_;obtain⟨a1,a2⟩:=a;obtain⟨b1,b2⟩:=b;unfold tn Cd KV lA;simp only[Prod.mk.injEq];by_cases h:a1=b1
 ·subst h;simp only[if_true,bV,Bool.false_or,true_and,decide_true,Bool.true_and];by_cases h1:a2<b2
  ·have:¬a2=b2:=by omega
   simp[h1,this]
  ·by_cases h2:a2>b2
   ·have:¬a2=b2:=by omega
    simp[h1,h2,this]
   ·have:a2=b2:=by omega
    simp[this]
 ·simp only[h,if_false,false_and,decide_false,Bool.false_and,Bool.or_false]
  cases gI a1 b1<;>simp
theorem abT(hG:G 168 mr=none)(row:List ab)(d:ab)(hl:row.length≤1073741824):∀(n i:Nat),i+n=row.length → LX G 168 mr Tryz.f168 vP (aZ Tryz.prog 168 0) ((row,(((row.length:Nat):Int),((i:Int),()))),(((d,()),()),()))=some ((idx d (row.drop i) i,()),()):=by
 intro n
 induction n with
 |zero =>intro i hi;refine aC L5 ?_;refine af (decide_eq_false (show ¬((i:Int)<((row.length:Nat):Int)) by omega)) ?_;rw[List.drop_eq_nil_of_le (by omega)];rfl
 |succ n ih =>
  intro i hi;have aF:i<row.length:=by omega
  refine aC L5 ?_;refine ae (bg aF) (aa (aR (abv aF)) ?_);rw[List.drop_eq_getElem_cons aF,idx];by_cases he:row[i]=d
  ·rw[if_pos he];exact ae ((Dq d row[i]).trans (decide_eq_true he.symm)) rfl
  ·rw[if_neg he];refine af ((Dq d row[i]).trans (decide_eq_false fun h=>he h.symm)) ?_;rw[wI,aK aF hl];exact ih (i+1) (by omega)
theorem Cj(hG:G 168 mr=none)(row:List ab)(d:ab)(hl:row.length≤1073741824):FX G 168 mr ((row,d,()),())=some ((idx d row 0,()),()):=by refine aA hG aaP ?_;have:=abT hG row d hl row.length 0 (by omega);rw[List.drop_zero]at this;exact this
theorem EJ(hG:HG G)(row:List ab)(d:ab)(hl:row.length≤1073741824):FX G 166 vG ((row,d,()),())=some ((decide (d∈row),()),()):=by
 refine aA (hG _ _ rfl) aaO ?_;refine aa (Cj (hG _ _ rfl) row d hl) ?_;refine congrArg (fun b:Bool=>some ((b,()),())) ?_;rw[Bool.eq_iff_iff];simp only[decide_eq_true_eq];have:=wh (d:=d) (row:=row);constructor
 ·intro h;exact Classical.byContradiction fun k=>by have:=this.2 k;omega
 ·intro h;have h2:¬idx d row 0<0:=fun k=>this.1 k h;omega
theorem dF(a:ab):lA a a=false:=by unfold lA;simp[bV]
theorem gL{a b c:ab}(h:lA a b=true)(k:lA b c=true):lA a c=true:=by obtain⟨⟨a1,a2⟩,a3⟩:=a;obtain⟨⟨b1,b2⟩,b3⟩:=b;obtain⟨⟨c1,c2⟩,c3⟩:=c;simp[lA,gI]at *;omega
theorem xI{a b:ab}(h:lA a b=false)(k:a≠b):lA b a=true:=by obtain⟨⟨a1,a2⟩,a3⟩:=a;obtain⟨⟨b1,b2⟩,b3⟩:=b;simp[lA,gI]at *;omega
theorem Gj{a b c:ab}(h:lA a b=true)(k:lA c b=false):lA a c=true:=by obtain⟨⟨a1,a2⟩,a3⟩:=a;obtain⟨⟨b1,b2⟩,b3⟩:=b;obtain⟨⟨c1,c2⟩,c3⟩:=c;simp[lA,gI]at *;omega
theorem Af(a b:ab):tn a b<0↔lA a b=true:=by
 unfold tn;by_cases h:a=b
 ·subst h;simp[dF]
 ·rw[if_neg h];cases lA a b<;>simp
theorem p6{row:List ab}{k:Nat}(hk:k<row.length):row.getD k zD=row[k]:=by simp[List.getD,hk]
theorem xJ(row:List ab):∀(r:List ab) (i k:Nat),row.drop i=r→k<row.length→k≤i→(∀j,j<i→(hj:j<row.length)→lA row[j] (row.getD k zD)=false)→(∀j,j<k→(hj:j<row.length)→lA (row.getD k zD) row[j]=true) →(∀j,(hj:j<row.length)→lA row[j] (row.getD (fP row r i k) zD)=false)∧(∀j,j<fP row r i k→(hj:j<row.length)→lA (row.getD (fP row r i k) zD) row[j]=true)
 |[],i,k,hr,hk,hki,h1,h2=>by
  have hi:row.length≤i:=by have:=congrArg List.length hr;simp at this;omega
  exact⟨fun j hj=>h1 j (by omega) hj,h2⟩
 |x::r,i,k,hr,hk,hki,h1,h2=>by
  have hi:i<row.length:=by have:=congrArg List.length hr;simp at this;omega
  have hx:row[i]=x:=by have:=aee hi;rw[hr]at this;injection this with a b;exact a.symm
  have r8:row.drop (i+1)=r:=by have:=aee hi;rw[hr]at this;injection this with a b;exact b.symm
  unfold fP
  split
  ·rename_i aF;rw[Af]at aF;refine xJ row r (i+1) i r8 hi (by omega) (fun j hj JE=>?_) (fun j hj JE=>?_)
   ·rw[p6 hi,hx];rcases Nat.lt_succ_iff_lt_or_eq.1 hj with hj|rfl
    ·cases hc:lA row[j] x with
     |false=>rfl
     |true=>have:=gL hc aF;rw[h1 j hj JE]at this;cases this
    ·rw[hx,dF]
   ·rw[p6 hi,hx];exact Gj aF (h1 j (by omega) JE)
  ·rename_i aF;rw[Af]at aF;refine xJ row r (i+1) k r8 hk (by omega) (fun j hj JE=>?_) h2;rcases Nat.lt_succ_iff_lt_or_eq.1 hj with hj|rfl
   ·exact h1 j hj JE
   ·rw[hx];simpa using aF
theorem uH{row:List ab}(h:0<row.length):(∀j,(hj:j<row.length)→lA row[j] (row.getD (fP row row 0 0) zD)=false)∧(∀j,j<fP row row 0 0→(hj:j<row.length)→lA (row.getD (fP row row 0 0) zD) row[j]=true) :=xJ row row 0 0 rfl h (acn _) (fun j hj=>by omega) (fun j hj=>by omega)
theorem KZ{d:ab}:∀{row:List ab} {k:Nat} {i:Int},row[k]? = some d→(∀j,j<k→row[j]?≠some d)→idx d row i=i+k
 |[],k,i,h,_=>by simp at h
 |e::r,0,i,h,_=>by simp at h;subst h;rw[idx,if_pos rfl];simp
 |e::r,k+1,i,h,hn=>by have h0:=hn 0 (by omega);rw[idx,if_neg (fun e=>h0 (by simp[e]))];rw[KZ (k:=k) (by simpa using h) (fun j hj=>by have:=hn (j+1) (by omega);simpa using this)];simp;omega
theorem RL{row:List ab}(h:0<row.length):idx (row.getD (fP row row 0 0) zD) row 0=((fP row row 0 0:Nat):Int):=by have hm:=nt row row 0 0 h (by omega);have:=KZ (d:=row.getD (fP row row 0 0) zD) (row:=row) (k:=fP row row 0 0) (i:=0) (by rw[p6 hm];exact abv hm) (fun j hj he=>by obtain⟨h1,h2⟩:=abr.1 he;have:=(uH h).2 j hj h1;rw[h2,dF]at this;cases this);omega
theorem RM(hG:HG G)(row:List ab)(h:0<row.length)(hl:row.length≤100000000):FX G 196194 kH ((row,()),())=some ((row.getD (fP row row 0 0) zD,()),()):=by
 refine aA (hG _ _ rfl) Ra ?_;refine af (decide_eq_false (show ¬((row.length:Nat):Int)<1 by omega)) ?_;refine aa (aR (i:=0) (abv h)) ?_;have loop:∀(n i k:Nat),i+n=row.length→k<row.length→LX G 196194 kH Tryz.f194 j0 (aZ Tryz.prog 194 0) ((row,((i:Int),())),(((zD,()),(((row.getD k zD),()),())),()))=some ((row.getD (fP row (row.drop i) i k) zD,()),()):=by
  intro n
  induction n with
  |zero =>intro i k hi hk;refine aC BV ?_;refine af (decide_eq_false (show ¬((i:Int)<((row.length:Nat):Int)) by omega)) ?_;rw[List.drop_eq_nil_of_le (by omega)];rfl
  |succ n ih =>
   intro i k hi hk;have aF:i<row.length:=by omega
   have hx:row[i]? = some row[i]:=abv aF;refine aC BV ?_;refine ae (bg aF) (aa (aR hx) ?_);refine aa (WJ hG row[i] (row.getD k zD)) ?_;rw[List.drop_eq_getElem_cons aF,fP];by_cases ho:tn row[i] (row.getD k zD)<0
   ·rw[if_pos ho];refine ae (decide_eq_true ho) (aa (aR hx) ?_);have:=ih (i+1) i (by omega) aF;rw[←aK aF (by omega),p6 aF]at this;exact this
   ·rw[if_neg ho];refine af (decide_eq_false ho) ?_;have:=ih (i+1) k (by omega) hk;rw[←aK aF (by omega)]at this;exact this
 have h1:=loop (row.length-1) 1 0 (by omega) h;have h2:fP row row 0 0=fP row (row.drop 1) 1 0:=by
  cases row with
  |nil=>simp at h
  |cons x r =>
   rw[List.drop_one,List.tail_cons]
   conv=>lhs;rw[fP]
   rw[if_neg];show ¬tn x x<0;unfold tn;simp
 rw[h2];have h3:row.getD 0 zD=row[0]:=p6 h;rw[h3]at h1;exact h1
def total(ls:List (List ab)):Nat:=(ls.map List.length).sum
theorem Ck(a:List ab)(r:List (List ab)):total (a::r)=a.length+total r:=by unfold total;rw[List.map_cons,List.sum_cons]
theorem WK(hG:HG G)(ls:List (List ab))(hn:ls.length≤1000)(hl:total ls≤500000000):FX G 196 oH ((ls,()),())=some ((ls.flatten,()),()):=by
 refine aA (hG _ _ rfl) aaW ?_;have abU:∀(n i:Nat) (out:List ab),i+n=ls.length→out.length+total (ls.drop i)≤500000000→LX G 196 oH Tryz.f196 vR (aZ Tryz.prog 196 1) ((ls,(((ls.length:Nat):Int),((i:Int),()))),((),(out,())))=some ((out++(ls.drop i).flatten,()),()):=by
  intro n
  induction n with
  |zero =>intro i out hi ho;refine aC L7 ?_;refine af (decide_eq_false (show ¬((i:Int)<((ls.length:Nat):Int)) by omega)) ?_;rw[List.drop_eq_nil_of_le (by omega),List.flatten_nil,List.append_nil];rfl
  |succ n ih =>
   intro i out hi ho;have aF:i<ls.length:=by omega
   rw[List.drop_eq_getElem_cons aF]at ho ⊢;have nL:out.length+(ls[i].length+total (ls.drop (i+1)))≤500000000:=by have:total (ls[i]::ls.drop (i+1))=ls[i].length+total (ls.drop (i+1)):=Ck _ _;omega
   refine aC L7 ?_;refine ae (bg aF) (aa (aR (abv aF)) ?_);refine ae (fits (show out.length+ls[i].length≤1073741824 by omega)) ?_;have:=ih (i+1) (out++ls[i]) (by omega) (by rw[List.length_append];omega);rw[List.flatten_cons,←List.append_assoc];rw[←aK aF (by omega)]at this;exact this
 have abV:∀(n i m:Nat),i+n=ls.length→m+total (ls.drop i)=total ls→LX G 196 oH Tryz.f196 vQ (aZ Tryz.prog 196 0) ((ls,((m:Int),(ls,(((ls.length:Nat):Int),((i:Int),()))))),((),()))=some ((ls.flatten,()),()):=by
  intro n
  induction n with
  |zero =>
   intro i m hi hm;refine aC L6 ?_;refine af (decide_eq_false (show ¬((i:Int)<((ls.length:Nat):Int)) by omega)) ?_;have hg:Ax (m:Int)=true:=by unfold Ax;rw[decide_eq_true (show(0:Int)≤(m:Int) by omega)];rw[decide_eq_true (show(m:Int)≤eE by unfold eE;omega)];rfl
   refine ae hg ?_;have:=abU ls.length 0 [] (by omega) (by rw[List.drop_zero];simpa using hl);rw[List.drop_zero,List.nil_append]at this;exact this
  |succ n ih =>
   intro i m hi hm;have aF:i<ls.length:=by omega
   have Ui:m+ls[i].length+total (ls.drop (i+1))=total ls:=by rw[List.drop_eq_getElem_cons aF]at hm;have:total (ls[i]::ls.drop (i+1))=ls[i].length+total (ls.drop (i+1)):=Ck _ _;omega
   refine aC L6 ?_;refine ae (bg aF) (aa (aR (abv aF)) ?_);have hw:IntKind.wrap .i64 ((m:Int)+((ls[i].length:Nat):Int))=((m+ls[i].length:Nat):Int):=by rw[wrap_small (by omega) (by omega)];rfl
   refine af (decide_eq_false (show ¬IntKind.wrap .i64 ((m:Int)+((ls[i].length:Nat):Int))<0 by rw[hw];omega)) ?_;have:=ih (i+1) (m+ls[i].length) (by omega) Ui;rw[←aK aF (by omega),←hw]at this;exact this
 exact abV ls.length 0 0 (by omega) (by rw[List.drop_zero];omega)
theorem Ag{α:Type}(xs:List α){k:Nat}(hk:k≤xs.length):cut xs (k:Int) ((xs.length:Nat):Int)=xs.drop k:=by unfold cut;rw[Int.toNat_natCast,Int.toNat_natCast,List.take_of_length_le (Nat.le_refl _)]
theorem sV{α:Type}(xs:List α)(k:Nat):cut xs 0 (k:Int)=xs.take k:=by unfold cut;rw[Int.toNat_natCast];rfl
theorem Gk{n k:Nat}(h:k≤n):aH n (k:Int) ((n:Nat):Int)=true:=by unfold aH;simp;omega
theorem wq{n k:Nat}(h:k≤n):aH n 0 (k:Int)=true:=by unfold aH;simp;omega
theorem Cl(hG:HG G)(row:List ab)(hl:row.length≤100000000):FX G 169 qv ((row,()),())=some ((cq row,()),()):=by
 refine aA (hG _ _ rfl) aaI ?_;by_cases h0:row.length=0
 ·refine ae (show(((row.length:Nat):Int)==0)=true by simp[h0]) ?_;have:row=[]:=by simpa using h0
  subst this;rfl
 refine af (show(((row.length:Nat):Int)==0)=false by rw[beq_eq_false_iff_ne];omega) ?_;have hp:0<row.length:=by omega
 have hm:=nt row row 0 0 hp (by omega);refine aa (RM hG row hp hl) ?_;refine aa (Cj (hG _ _ rfl) row (row.getD (fP row row 0 0) zD) (by omega)) ?_;rw[RL hp];refine ae (Gk (n:=row.length) (k:=fP row row 0 0) (by omega)) (ae (wq (n:=row.length) (k:=fP row row 0 0) (by omega)) ?_);have key:∀a b:List ab,a=row.drop (fP row row 0 0)→b=row.take (fP row row 0 0)→((FX G 196 oH (([a,b],()),())).bind fun(y3:(((List ab)×Unit)×Unit))=>some (y3.1,()))=some ((cq row,()),()):=by intro a b ha hb;subst ha hb;refine aa (WK hG [row.drop (fP row row 0 0),row.take (fP row row 0 0)] (by simp) (by unfold total;simp;omega)) ?_;unfold cq Gb;simp only[List.flatten_cons,List.flatten_nil,List.append_nil]
 exact key _ _ (Ag row (by omega)) (sV row _)
theorem RN(hG:HG G)(ls:List (List ab))(hn:ls.length≤1000)(hl:total ls≤100000000):FX G 170 oG ((ls,()),())=some ((cq ls.flatten,()),()):=by
 refine aA (hG _ _ rfl) aaQ ?_;refine aa (WK hG ls hn (by omega)) ?_;have hlen:ls.flatten.length=total ls:=by unfold total;exact List.length_flatten
 exact aa (Cl hG ls.flatten (by omega)) rfl
theorem RO(hG:HG G)(row:List ab)(after d:ab)(hl:row.length≤50000000):FX G 181 BC ((row,after,d,()),())=some ((qK row after d,()),()):=by
  refine aA (hG _ _ rfl) aaz ?_;refine aa (EJ hG row d (by omega)) ?_;unfold qK;by_cases hd:d∈row
  · rw[if_pos hd]
    exact ae (decide_eq_true hd) (aa (Cl hG row (by omega)) rfl)
  rw[if_neg hd];refine af (decide_eq_false hd) ?_;refine aa (Cj (hG _ _ rfl) row after (by omega)) ?_;have hr:idx after row 0<((row.length:Nat):Int)∨row.length=0∧idx after row 0 = -1:=by
    rcases sP after row 0 (by omega) with⟨h,_⟩|⟨k,h,hk,_⟩
    · by_cases h0:row.length=0
      · exact .inr ⟨h0,h⟩
      · exact .inl (by omega)
    · have:=(abr.1 hk).1
      exact .inl (by omega)
  have hm:max (idx after row 0) (0:Int)=max 0 (idx after row 0):=by omega
  have hw:IntKind.wrap .i64 (max (idx after row 0) (0:Int)+1)=(((max 0 (idx after row 0)).toNat+1:Nat):Int):=by rw[wrap_small (by omega) (by omega)];omega
  obtain⟨k,hk,mY,Py⟩:∃k:Nat,min (IntKind.wrap .i64 (max (idx after row 0) (0:Int)+1)) ((row.length:Nat):Int)=(k:Int)∧k≤row.length∧row.take k++(d::row.drop k)=row.take ((max 0 (idx after row 0)).toNat+1)++(d::row.drop ((max 0 (idx after row 0)).toNat+1)):=by
    rw[hw];by_cases h0:row.length=0
    · have:row=[]:=by simpa using h0
      subst this;exact⟨0,by simp;omega,by simp,by simp⟩
    · exact⟨(max 0 (idx after row 0)).toNat+1,by omega,by omega,rfl⟩
  have wK:(min (IntKind.wrap .i64 ((max (idx after row 0) (0:Int):Int)+(1:Int))) (((List.length row):Nat):Int):Int)=(k:Int):=hk;show cond (aH (List.length row) (0:Int) (min (IntKind.wrap .i64 ((max (idx after row 0) (0:Int):Int)+(1:Int))) (((List.length row):Nat):Int):Int)) (cond (aH (List.length row) (min (IntKind.wrap .i64 ((max (idx after row 0) (0:Int):Int)+(1:Int))) (((List.length row):Nat):Int):Int) (((List.length row):Nat):Int)) ((FX G 170 oG ((((cut row (0:Int) (min (IntKind.wrap .i64 ((max (idx after row 0) (0:Int):Int)+(1:Int))) (((List.length row):Nat):Int):Int))::([d]::((cut row (min (IntKind.wrap .i64 ((max (idx after row 0) (0:Int):Int)+(1:Int))) (((List.length row):Nat):Int):Int) (((List.length row):Nat):Int))::([]:List (List ab))))),()),())).bind fun(y4:(((List ab)×Unit)×Unit)) =>some (y4.1,())) (none)) (none)=_;rw[wK];refine ae (wq mY) (ae (Gk mY) ?_);have key:∀a b R:List ab,a=row.take k→b=row.drop k→R=cq (row.take k++(d::row.drop k))→((FX G 170 oG (([a,[d],b],()),())).bind fun(y3:(((List ab)×Unit)×Unit))=>some (y3.1,()))=some ((R,()),()):=by intro a b R ha hb hR;subst ha hb hR;refine aa (RN hG [row.take k,[d],row.drop k] (by simp) (by unfold total;simp;omega)) ?_;refine congrArg (fun l:List ab=>some ((l,()),())) ?_;simp
  exact key _ _ _ (sV row k) (Ag row mY) (by rw[Py])
theorem xK{row:List ab}{d:ab}{k:Nat}(hn:row.Nodup)(hk:row[k]? = some d):row.filter (fun e=>decide (e≠d))=row.take k++row.drop (k+1):=by
 obtain⟨h1,h2⟩:=abr.1 hk
 conv=>lhs;rw[←List.take_append_drop k row,List.drop_eq_getElem_cons h1,h2]
 have JY:(row.take k++(d::row.drop (k+1))).Nodup:=by rw[←h2,←List.drop_eq_getElem_cons h1,List.take_append_drop];exact hn
 have h3:=adK.1 JY;have h4:=ab6.1 h3.2.1;rw[List.filter_append,List.filter_cons_of_neg (by simp)];congr 1
 ·rw[List.filter_eq_self];intro a ha;have:=h3.2.2 a ha d (by simp);simpa using this
 ·rw[List.filter_eq_self];intro a ha;have:a≠d:=fun e=>h4.1 (e▸ha);simpa using this
theorem WL(hG:HG G)(row:List ab)(d:ab)(hn:row.Nodup)(hl:row.length≤50000000):FX G 141 HW ((row,d,()),())=some ((jl row d,()),()):=by
 refine aA (hG _ _ rfl) aaF ?_;refine aa (Cj (hG _ _ rfl) row d (by omega)) ?_;unfold jl;by_cases hd:d∈row
 ·obtain⟨k,h1,h2,h3⟩:=jE hd;have aF:=(abr.1 h2).1;rw[xK hn h2];show cond (decide (idx d row 0<0)) _ (cond (aH row.length 0 (idx d row 0)) (cond (aH row.length (IntKind.wrap .i64 (idx d row 0+1)) ((row.length:Nat):Int)) ((FX G 170 oG (([cut row 0 (idx d row 0),cut row (IntKind.wrap .i64 (idx d row 0+1)) ((row.length:Nat):Int)],()),())).bind fun(y3:(((List ab)×Unit)×Unit))=>some (y3.1,())) none) none)=_;rw[h1,aK aF (by omega)];refine af (decide_eq_false (by omega)) (ae (wq (by omega)) (ae (Gk (by omega)) ?_));have key:∀a b:List ab,a=row.take k→b=row.drop (k+1)→((FX G 170 oG (([a,b],()),())).bind fun(y3:(((List ab)×Unit)×Unit))=>some (y3.1,()))=some ((cq (row.take k++row.drop (k+1)),()),()):=by intro a b ha hb;subst ha hb;refine aa (RN hG [row.take k,row.drop (k+1)] (by simp) (by unfold total;simp;omega)) ?_;refine congrArg (fun l:List ab=>some ((l,()),())) ?_;simp
  exact key _ _ (sV row k) (Ag row (by omega))
 ·have h1:=wh.2 hd;refine ae (decide_eq_true h1) (aa (Cl hG row (by omega)) ?_);refine congrArg (fun l:List ab=>some ((l,()),())) ?_;congr 1
  symm
  rw[List.filter_eq_self];intro a ha;have:a≠d:=fun e=>hd (e▸ha);simpa using this
theorem WM(hG:HG G)(row:List ab)(cQ d:ab)(hl:row.length≤50000000):FX G 187 tM ((row,cQ,d,()),())=some ((gx row cQ d,()),()):=by
 refine aA (hG _ _ rfl) aaG ?_;refine aa (Cj (hG _ _ rfl) row cQ (by omega)) ?_;unfold gx;by_cases ho:cQ∈row
 ·obtain⟨k,h1,h2,h3⟩:=jE ho;have aF:=(abr.1 h2).1;refine af (decide_eq_false (show ¬idx cQ row 0<0 by omega)) ?_;refine aa (EJ hG row d (by omega)) ?_;by_cases hd:d∈row
  ·rw[if_neg (fun h=>h.2 hd)];exact ae (decide_eq_true hd) (aa (Cl hG row (by omega)) rfl)
  rw[if_pos ⟨ho,hd⟩];refine af (decide_eq_false hd) ?_;show cond (aH row.length 0 (idx cQ row 0)) (cond (aH row.length (IntKind.wrap .i64 (idx cQ row 0+1)) ((row.length:Nat):Int)) ((FX G 170 oG (([cut row 0 (idx cQ row 0),[d],cut row (IntKind.wrap .i64 (idx cQ row 0+1)) ((row.length:Nat):Int)],()),())).bind fun(y3:(((List ab)×Unit)×Unit))=>some (y3.1,())) none) none=_;rw[h1,aK aF (by omega)];refine ae (wq (by omega)) (ae (Gk (by omega)) ?_);have key:∀a b R:List ab,a=row.take k→b=row.drop (k+1)→R=cq (row.set ((k:Int)).toNat d)→((FX G 170 oG (([a,[d],b],()),())).bind fun(y3:(((List ab)×Unit)×Unit))=>some (y3.1,()))=some ((R,()),()):=by intro a b R ha hb hR;subst ha hb hR;refine aa (RN hG [row.take k,[d],row.drop (k+1)] (by simp) (by unfold total;simp;omega)) ?_;refine congrArg (fun l:List ab=>some ((l,()),())) ?_;rw[Int.toNat_natCast,List.set_eq_take_append_cons_drop,if_pos aF];simp
  exact key _ _ _ (sV row k) (Ag row (by omega)) rfl
 ·have h1:=wh.2 ho;rw[if_neg (fun h=>ho h.1)];exact ae (decide_eq_true h1) (aa (Cl hG row (by omega)) rfl)
theorem abW(hG:HG G)(row:List ab)(d:ab)(hl:row.length≤100000000):FX G 140 Ev ((row,d,()),())=some (TN (jc row d (row.length-1)),()):=by
 refine aA (hG _ _ rfl) aaU ?_;have key:FX G 167 BH ((row,(d,((IntKind.wrap .i64 (((row.length:Nat):Int)-1)),()))),())=some (TN (jc row d (row.length-1)),()):=by
  refine aA (hG _ _ rfl) Wv ?_;refine aa (Cj (hG _ _ rfl) row d (by omega)) ?_;unfold jc;by_cases hd:d∈row
  ·rw[if_pos hd];obtain⟨k,h1,h2,h3⟩:=jE hd;have aF:=(abr.1 h2).1;refine af (decide_eq_false (show ¬idx d row 0<0 by omega)) ?_;refine af (RA hd) ?_;have hw:IntKind.wrap .i64 (((row.length:Nat):Int)-1)=((row.length-1:Nat):Int):=by rw[wrap_small (by omega) (by omega)];omega
   have KH:IntKind.wrap .i64 (idx d row 0+IntKind.wrap .i64 (((row.length:Nat):Int)-1))=((k+(row.length-1):Nat):Int):=by rw[hw,h1,wrap_small (by omega) (by omega)];rfl
   have Yb:(k+(row.length-1))%row.length<row.length:=Nat.mod_lt _ (by omega);have hx:=abv Yb;refine aa (show bU row (Int.tmod (IntKind.wrap .i64 (idx d row 0+IntKind.wrap .i64 (((row.length:Nat):Int)-1))) ((row.length:Nat):Int))=some row[(k+(row.length-1))%row.length] by rw[KH,IA];exact aR hx) ?_;rw[h1,Int.toNat_natCast,hx];rfl
  ·rw[if_neg hd];exact ae (decide_eq_true (wh.2 hd)) rfl
 refine aa key ?_;rfl
end Go.Vs
