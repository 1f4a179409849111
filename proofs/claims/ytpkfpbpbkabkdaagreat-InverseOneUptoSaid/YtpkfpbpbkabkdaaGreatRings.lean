/- What the program computes at -/
import Derived.Test.YtpkfpbpbkabkdaaGreatPlaces
set_option linter.unusedVariables false
set_option linter.unusedSimpArgs false
namespace Go.Vs
open Go.Proofs
variable {G:(f:FuncId)→(g:aS)→Option (g.A→Option g.B)}
theorem get_at{s:ByteArray}{i:Nat}{c:UInt8}(h:s.data.toList[i]? = some c):s.get! i=c:=by
 have hi:i<s.data.size:=by have:=(aci.1 h).1;simpa using this
 have h2:=(aci.1 h).2;show s.data[i]! = c;rw[getElem!_pos s.data i hi,←h2];simp
theorem OJ{s:ByteArray}{i:Nat}(h:(s.get! i).toNat<128):Utf8.decode s i=((s.get! i).toNat,1):=by unfold Utf8.decode;simp only[Nat.add_zero];rw[if_pos h]
theorem OL{s:ByteArray}{i:Nat}(h:¬(s.get! i).toNat<128):128≤(Utf8.decode s i).1:=by
 unfold Utf8.decode;simp only[Nat.add_zero];rw[if_neg h]
 repeat' split
 all_goals first|(simp_all only[Bool.and_eq_true,decide_eq_true_eq];omega)|decide|omega
theorem aib(hG:G 161 xe=none)(s:ByteArray)(hs:s.size≤100000000):∀(n i:Nat),i+n=s.size → LX G 161 xe Tryz.f161 xq (aO Tryz.prog 161 0) ((s,()),((),((s,i),())))=some ((((s.data.toList.drop i).all kG&&decide (s.size≤16),()),()):(Bool×Unit)×Unit):=by
 have hl:s.data.toList.length=s.size:=by simp
 intro n
 induction n with
 |zero =>intro i hi;refine ao R1 ?_;refine ag (decide_eq_false (show ¬(i<s.size) by omega)) ?_;refine congrArg (fun b:Bool=>some ((b,()),())) ?_;rw[List.drop_eq_nil_of_le (by omega),List.all_nil,Bool.true_and,Bool.eq_iff_iff];simp;omega
 |succ n ih =>
  intro i hi;have aF:i<s.data.toList.length:=by omega
  have hx:s.data.toList[i]? = some s.data.toList[i]:=aaY aF;generalize s.data.toList[i]=c at hx;have hd:s.data.toList.drop i=c::s.data.toList.drop (i+1):=by rw[List.drop_eq_getElem_cons aF];rw[List.getElem?_eq_getElem aF]at hx;cases hx;rfl
  have hg:=get_at hx;refine ao R1 ?_;refine af (decide_eq_true (show i<s.size by omega)) ?_;show cond (decide (o6 s i<32)) _ (cond (decide (o6 s i>126)) _ (LX G 161 xe Tryz.f161 xq (aO Tryz.prog 161 0) ((s,()),((),((s,i+AB s i),())))))=_;rw[hd,List.all_cons];by_cases h1:c.toNat<128
  ·have hr:Utf8.decode s i=(c.toNat,1):=by rw[OJ (by rw[hg];exact h1),hg]
   have hr1:o6 s i=(c.toNat:Int):=by unfold o6;rw[hr]
   have WM:AB s i=1:=by unfold AB;rw[hr]
   rw[hr1,WM];by_cases h2:c.toNat<32
   ·refine af (decide_eq_true (by omega)) ?_;have:kG c=false:=by unfold kG;simp;omega
    rw[this];rfl
   refine ag (decide_eq_false (by omega)) ?_;by_cases h3:126<c.toNat
   ·refine af (decide_eq_true (by omega)) ?_;have:kG c=false:=by unfold kG;simp;omega
    rw[this];rfl
   refine ag (decide_eq_false (by omega)) ?_;have:kG c=true:=by unfold kG;simp;omega
   rw[this,Bool.true_and];exact ih (i+1) (by omega)
  ·have h2:=OL (s:=s) (i:=i) (by rw[hg];exact h1);have hr1:128≤o6 s i:=by unfold o6;omega
   refine ag (decide_eq_false (by omega)) (af (decide_eq_true (by omega)) ?_);have:kG c=false:=by unfold kG;simp;omega
   rw[this];rfl
theorem aid(hG:G 161 xe=none)(s:ByteArray)(hs:s.size≤100000000):FX G 161 xe ((s,()),())=some ((mN s,()),()):=by refine az hG ahb ?_;have:=aib hG s hs s.size 0 (by omega);rw[List.drop_zero]at this;exact this
theorem aie(hG:G 162 Ic=none)(n:Int):FX G 162 Ic ((n,()),())=some ((kH n,()),()):=by refine az hG ahc ?_;show(cond (decide (n≥-1099511627776)) (some ((decide (n≤1099511627776),()),())) (some ((false,()),())):Option ((Bool×Unit)×Unit))=some ((kH n,()),());unfold kH;by_cases h1 : -1099511627776≤n<;>simp[h1]
def OM(n:Int):Prop := -9223372036854775808≤n∧n<9223372036854775808
theorem SJ(x:BitVec 64):IntKind.wrap .i64 ((x.toNat:Nat):Int)=x.toInt:=by
 unfold IntKind.wrap;simp only[IntKind.bits,IntKind.signed];have h:=x.isLt;have h2:=BitVec.toInt_eq_toNat_cond x;rw[h2];simp
 split<;>split<;>omega
theorem ofInt_toInt{n:Int}(h:OM n):(BitVec.ofInt 64 n).toInt=n:=by unfold OM at h;rw[BitVec.toInt_ofInt];exact Int.bmod_eq_of_le (by omega) (by omega)
theorem VC{n:Int}(h:OM n):(cX .andNot .i64 n 3==(0:Int))=decide (0≤n∧n≤3):=by
 have e:cX .andNot .i64 n 3=(BitVec.ofInt 64 n &&& ~~~(BitVec.ofInt 64 3)).toInt:=by unfold cX;exact SJ _
 rw[e,Bool.eq_iff_iff];simp only[beq_iff_eq,decide_eq_true_eq];generalize hx:BitVec.ofInt 64 n=x;have hn:=ofInt_toInt h;rw[hx]at hn;have h1:(x &&& ~~~(BitVec.ofInt 64 3)).toInt=0↔(x &&& ~~~(BitVec.ofInt 64 3))=0#64:=by
  constructor
  ·intro h;exact BitVec.eq_of_toInt_eq (by rw[h];rfl)
  ·intro h;rw[h];rfl
 rw[h1,←hn];constructor
 ·intro h;have h2:x=x &&& 3#64:=by
   have h3:x=(x &&& ~~~(BitVec.ofInt 64 3)) ||| (x &&& 3#64):=by
    ext i hi;simp only[BitVec.getElem_or,BitVec.getElem_and,BitVec.getElem_not];have:(BitVec.ofInt 64 3)=3#64:=rfl;rw[this]
    cases x[i]<;>cases (3#64)[i]<;>rfl
   rw[h]at h3;simpa using h3
  have h4:x.toNat≤3:=by rw[h2,BitVec.toNat_and];exact Nat.and_le_right
  rw[BitVec.toInt_eq_toNat_cond]
  split<;>omega
 ·intro h;have h4:x.toNat≤3:=by
   rw[BitVec.toInt_eq_toNat_cond]at h;have:=x.isLt
   split at h<;>omega
  have h5:x=0#64∨x=1#64∨x=2#64∨x=3#64:=by
   have:x.toNat=0∨x.toNat=1∨x.toNat=2∨x.toNat=3:=by omega
   rcases this with h|h|h|h
   ·exact .inl (BitVec.eq_of_toNat_eq (by rw[h];rfl))
   ·exact .inr (.inl (BitVec.eq_of_toNat_eq (by rw[h];rfl)))
   ·exact .inr (.inr (.inl (BitVec.eq_of_toNat_eq (by rw[h];rfl))))
   ·exact .inr (.inr (.inr (BitVec.eq_of_toNat_eq (by rw[h];rfl))))
  rcases h5 with rfl|rfl|rfl|rfl<;>decide
theorem VD{n:Int}(h:OM n):(cX .andNot .i64 n 1==(0:Int))=decide (n=0∨n=1):=by
 have e:cX .andNot .i64 n 1=(BitVec.ofInt 64 n &&& ~~~(BitVec.ofInt 64 1)).toInt:=by unfold cX;exact SJ _
 rw[e,Bool.eq_iff_iff];simp only[beq_iff_eq,decide_eq_true_eq];generalize hx:BitVec.ofInt 64 n=x;have hn:=ofInt_toInt h;rw[hx]at hn;have h1:(x &&& ~~~(BitVec.ofInt 64 1)).toInt=0↔(x &&& ~~~(BitVec.ofInt 64 1))=0#64:=by
  constructor
  ·intro h;exact BitVec.eq_of_toInt_eq (by rw[h];rfl)
  ·intro h;rw[h];rfl
 rw[h1,←hn];constructor
 ·intro h;have h2:x=x &&& 1#64:=by
   have h3:x=(x &&& ~~~(BitVec.ofInt 64 1)) ||| (x &&& 1#64):=by
    ext i hi;simp only[BitVec.getElem_or,BitVec.getElem_and,BitVec.getElem_not];have:(BitVec.ofInt 64 1)=1#64:=rfl;rw[this]
    cases x[i]<;>cases (1#64)[i]<;>rfl
   rw[h]at h3;simpa using h3
  have h4:x.toNat≤1:=by rw[h2,BitVec.toNat_and];exact Nat.and_le_right
  rw[BitVec.toInt_eq_toNat_cond]
  split<;>omega
 ·intro h;have h4:x.toNat≤1:=by
   rw[BitVec.toInt_eq_toNat_cond]at h;have:=x.isLt
   split at h<;>omega
  have h5:x=0#64∨x=1#64:=by
   have:x.toNat=0∨x.toNat=1:=by omega
   rcases this with h|h
   ·exact .inl (BitVec.eq_of_toNat_eq (by rw[h];rfl))
   ·exact .inr (BitVec.eq_of_toNat_eq (by rw[h];rfl))
  rcases h5 with rfl|rfl<;>decide
theorem acW(hG:HG G)(d:ae)(h:OM d.2):FX G 190 Ij ((d,()),())=some ((IS d,()),()):=by
 refine az (hG _ _ rfl) aa9 ?_;refine aa (OH (hG _ _ rfl) d.1) ?_;unfold IS
 cases cd d.1
 ·rfl
 ·exact af rfl (congrArg (fun b:Bool=>some ((b,()),())) (VD h))
theorem acX(hG:HG G)(c:ng)(h:OM c.2.2):FX G 160 DL ((c,()),())=some ((rC c,()),()):=by
 refine az (hG _ _ rfl) aha ?_;refine aa (OH (hG _ _ rfl) c.1) ?_;unfold rC
 cases cd c.1
 ·rfl
 refine af rfl ?_;have hb:(((c.2.1.1==(0:Int))&&(c.2.1.2==(0:Int)))&&(c.2.2==(0:Int)))=decide (c.2=zD):=jE c.2 zD;by_cases hz:c.2=zD
 ·refine af (hb.trans (decide_eq_true hz)) ?_;rw[decide_eq_true hz,Bool.or_true];rfl
 ·refine ag (hb.trans (decide_eq_false hz)) ?_;refine aa (acW hG c.2 h) ?_;rw[decide_eq_false hz,Bool.or_false];rfl
structure Fit(o:aR):Prop where
 a:OM (oA o).2.2
 b:OM (oB o).2.2
 n:OM (oN o)
 t:ux o
def CB(o:aR):aR :=if o.1=6 then(o.1,(aH o,(zI,(an o,(zC,(zC,(false,(e0,0))))))))
 else if o.1=3 then(o.1,(aH o,(zI,(zI,(oA o,(oB o,(false,(e0,0))))))))
 else if o.1=5 then(o.1,(aH o,(dQ o,(an o,(zC,(zC,(false,(e0,oN o))))))))
 else if o.1=7 then(o.1,(aH o,(zI,(zI,(zC,(zC,(fE o,(k0 o,0))))))))
 else if o.1=8 then(o.1,(aH o,(zI,(zI,(zC,(zC,(fE o,(e0,oN o))))))))
 else(o.1,(aH o,(zI,(zI,(zC,(zC,(false,(e0,0))))))))
def Gz(o:aR):Int :=if o.1=6 then(if cd (aH o)=true∧cd (an o)=true then 0 else 1)
 else if o.1=3 then(if cd (aH o)=true∧rC (oA o)=true∧rC (oB o)=true then 0 else 1)
 else if o.1=5 then(if cd (aH o)=true∧cd (dQ o)=true∧cd (an o)=true∧0≤oN o∧oN o≤3 then 0 else 1)
 else if o.1=7 then(if cd (aH o)=true then(if mN (k0 o)=true then 0 else 4) else 1)
 else if o.1=8 then(if cd (aH o)=true∧kH (oN o)=true then 0 else 1)
 else if o.1=1∨o.1=2∨o.1=4 then(if cd (aH o)=true then 0 else 1)
 else 1
theorem G3{o:aR}{k:Int}(h:o.1=k):(o.1==k)=true:=by simp[h]
theorem zi{o:aR}{k:Int}(h:¬o.1=k):(o.1==k)=false:=by simp[h]
theorem aif(hG:HG G)(o:aR)(hf:Fit o):FX G 132 Ra ((o,()),())=some ((CB o,(Gz o,())),()):=by
 refine az (hG _ _ rfl) agN ?_;refine aa (OH (hG _ _ rfl) (aH o)) ?_;unfold CB Gz;by_cases h1:o.1=1
 ·refine af (G3 h1) (af (G3 h1) ?_);rw[if_neg (by omega),if_neg (by omega),if_neg (by omega),if_neg (by omega),if_neg (by omega),if_neg (by omega),if_neg (by omega),if_neg (by omega),if_neg (by omega),if_neg (by omega),if_pos (by omega)]
  cases cd (aH o)<;>rfl
 refine ag (zi h1) ?_;by_cases h2:o.1=2
 ·refine af (G3 h2) (af (G3 h2) ?_);rw[if_neg (by omega),if_neg (by omega),if_neg (by omega),if_neg (by omega),if_neg (by omega),if_neg (by omega),if_neg (by omega),if_neg (by omega),if_neg (by omega),if_neg (by omega),if_pos (by omega)]
  cases cd (aH o)<;>rfl
 refine ag (zi h2) ?_;by_cases h4:o.1=4
 ·refine af (G3 h4) ?_;rw[if_neg (by omega),if_neg (by omega),if_neg (by omega),if_neg (by omega),if_neg (by omega),if_neg (by omega),if_neg (by omega),if_neg (by omega),if_neg (by omega),if_neg (by omega),if_pos (by omega)]
  cases cd (aH o)<;>rfl
 refine ag (zi h4) ?_;by_cases h6:o.1=6
 ·refine af (G3 h6) ?_;rw[if_pos h6,if_pos h6]
  cases cd (aH o)
  ·rfl
  refine af rfl (aa (OH (hG _ _ rfl) (an o)) ?_)
  cases cd (an o)<;>rfl
 refine ag (zi h6) ?_;rw[if_neg h6,if_neg h6];by_cases h3:o.1=3
 ·refine af (G3 h3) ?_;rw[if_pos h3,if_pos h3]
  cases cd (aH o)
  ·rfl
  refine af rfl (aa (acX hG (oA o) hf.a) ?_)
  cases rC (oA o)
  ·rfl
  refine af rfl (aa (acX hG (oB o) hf.b) ?_)
  cases rC (oB o)<;>rfl
 refine ag (zi h3) ?_;rw[if_neg h3,if_neg h3];by_cases h5:o.1=5
 ·refine af (G3 h5) ?_;rw[if_pos h5,if_pos h5]
  cases cd (aH o)
  ·rfl
  refine af rfl (aa (OH (hG _ _ rfl) (dQ o)) ?_)
  cases cd (dQ o)
  ·rfl
  refine af rfl (aa (OH (hG _ _ rfl) (an o)) ?_)
  cases cd (an o)
  ·rfl
  refine af rfl (aV (VC hf.n) ?_);by_cases h:0≤oN o∧oN o≤3
  ·rw[decide_eq_true h,if_pos ⟨rfl,rfl,rfl,h⟩];rfl
  ·rw[decide_eq_false h,if_neg (fun k=>h k.2.2.2)];rfl
 refine ag (zi h5) ?_;rw[if_neg h5,if_neg h5];by_cases h7:o.1=7
 ·refine af (G3 h7) ?_;rw[if_pos h7,if_pos h7];refine aa (aid (hG _ _ rfl) (k0 o) hf.t) ?_
  cases mN (k0 o)<;>cases cd (aH o)<;>rfl
 refine ag (zi h7) ?_;rw[if_neg h7,if_neg h7];by_cases h8:o.1=8
 ·refine af (G3 h8) ?_;rw[if_pos h8,if_pos h8]
  cases cd (aH o)
  ·rfl
  refine af rfl (aa (aie (hG _ _ rfl) (oN o)) ?_)
  cases kH (oN o)<;>rfl
 refine ag (zi h8) ?_;rw[if_neg h8,if_neg h8,if_neg (by omega)];rfl
theorem ON(o:aR)(h1:1≤o.1)(h8:o.1≤8):p6 (CB o) o=p6 (jK o) J3:=by
 rw[Bool.eq_iff_iff,ig,ig];obtain⟨k,i,n,m,⟨a1,a2⟩,⟨b1,b2⟩,f,t,q⟩:=o;simp only at h1 h8;unfold CB jK J3;have:k=1∨k=2∨k=3∨k=4∨k=5∨k=6∨k=7∨k=8:=by omega
 rcases this with rfl|rfl|rfl|rfl|rfl|rfl|rfl|rfl<;>simp only[Int.reduceEq,if_true,if_false]<;>constructor<;>intro h<;>simp only[zC,Prod.mk.injEq,true_and,and_true]at h ⊢<;>grind
theorem YO(hG:HG G)(o:aR)(hf:Fit o):FX G 104 KO ((o,()),())=some ((bB o,()),()):=by
 refine az (hG _ _ rfl) ags ?_;refine aa (aif hG o hf) ?_;refine aV (b:=p6 (CB o) o) rfl ?_;unfold bB;by_cases h1:o.1<1
 ·rw[if_pos h1];have:Gz o=1:=by unfold Gz;rw[if_neg (by omega),if_neg (by omega),if_neg (by omega),if_neg (by omega),if_neg (by omega),if_neg (by omega)]
  rw[this];cases p6 (CB o) o<;>rfl
 rw[if_neg h1];by_cases h8:8<o.1
 ·rw[if_pos h8];have:Gz o=1:=by unfold Gz;rw[if_neg (by omega),if_neg (by omega),if_neg (by omega),if_neg (by omega),if_neg (by omega),if_neg (by omega)]
  rw[this];cases p6 (CB o) o<;>rfl
 rw[if_neg h8,ON o (by omega) (by omega)];have hk:o.1=1∨o.1=2∨o.1=3∨o.1=4∨o.1=5∨o.1=6∨o.1=7∨o.1=8:=by omega
 by_cases hm:cd (aH o)=true
 case neg =>
  have hb:Gz o=1:=by unfold Gz;rcases hk with h|h|h|h|h|h|h|h<;>simp[h,hm]
  rw[if_pos (by simpa using hm),hb];cases p6 (jK o) J3<;>rfl
 rw[if_neg (by simp[hm])]
 cases p6 (jK o) J3
 ·rw[if_pos rfl];rfl
 rw[if_neg (by simp)];refine ag rfl ?_;refine congrArg (fun n:Int=>some ((n,()),())) ?_;unfold Gz;rcases hk with h|h|h|h|h|h|h|h<;>simp[h,hm]
theorem aih(hG:HG G)(l:List aR)(hl:l.length≤1073741824)(hf:∀o∈l,Fit o):FX G 66 H9 ((l,()),())=some ((eE l,()),()):=by
 refine az (hG _ _ rfl) agG ?_;unfold eE;by_cases h0:l.length=0
 ·refine af (show(((l.length:Nat):Int)==0)=true by simp[h0]) ?_;rw[if_neg (by omega)];rfl
 refine ag (show(((l.length:Nat):Int)==0)=false by rw[beq_eq_false_iff_ne];omega) ?_;by_cases h6:6<l.length
 ·refine af (decide_eq_true (show((l.length:Nat):Int)>6 by omega)) ?_;rw[if_neg (by omega)];rfl
 refine ag (decide_eq_false (show ¬((l.length:Nat):Int)>6 by omega)) ?_;rw[if_pos (by omega)];have loop:∀(n i:Nat),i+n=l.length→LX G 66 H9 Tryz.f66 Cc (aO Tryz.prog 66 0) ((l,(((l.length:Nat):Int),((i:Int),()))),((),()))=some ((kI (l.drop i),()),()):=by
  intro n
  induction n with
  |zero =>intro i hi;refine ao RI ?_;refine ag (decide_eq_false (show ¬((i:Int)<((l.length:Nat):Int)) by omega)) ?_;rw[List.drop_eq_nil_of_le (by omega)];rfl
  |succ n ih =>
   intro i hi;have aF:i<l.length:=by omega
   refine ao RI ?_;refine af (aY aF) (aa (aA (aaY aF)) ?_);refine aa (YO hG l[i] (hf _ (adv aF))) ?_;rw[List.drop_eq_getElem_cons aF,kI];by_cases hz:bB l[i]=0
   ·rw[if_neg (by simp[hz])];refine ag (show(bB l[i] != 0)=false by simp[hz]) ?_;rw[wI,aD aF hl];exact ih (i+1) (by omega)
   ·rw[if_pos hz];exact af (show(bB l[i] != 0)=true by simp[hz]) rfl
 have:=loop l.length 0 (by omega);rw[List.drop_zero]at this;exact this
theorem Xq(hG:HG G)(v:ai)(x:ID):FX G 214 Et ((v,x,()),())=some ((pY v.1 x,()),()):=by refine az (hG _ _ rfl) abx ?_;exact aa (SC hG v.1 x) rfl
def cf(l:List ai)(x:ID):Nat:=l.countP fun v=>fg v.1 x
def dr(l:List ai):Prop:=l.Pairwise fun a b=>fg a.1 b.1=true
theorem GA(l:List ai)(x:ID):cf l x≤l.length:=aeL
theorem sG{l:List ai}{x:ID}(h:∀v∈l,fg v.1 x=false):cf l x=0:=by unfold cf;rw[List.countP_eq_zero];intro v hv;simp[h v hv]
theorem xI{x:ID}:∀{l:List ai},dr l→∀(k:Nat) (v:ai),l[k]? = some v→(fg v.1 x=true↔k<cf l x)
 |[],_,k,v,h=>by simp at h
 |w::r,hs,k,v,h=>by
  have hw:∀{u:ai},u∈r→fg w.1 u.1=true:=fun {u} hu=>adF hs hu;have hr:dr r:=hs.of_cons;by_cases aF:fg w.1 x=true
  ·have e:cf (w::r) x=cf r x+1:=by unfold cf;rw[List.countP_cons_of_pos (by simpa using aF)]
   cases k with
   |zero=>simp at h;subst h;simp[aF,e]
   |succ k=>have:=xI (x:=x) hr k v (by simpa using h);rw[this,e];omega
  ·have hn:∀u∈w::r,fg u.1 x=false:=fun u hu=>by
    rcases acp.1 hu with rfl|hu
    ·simpa using aF
    ·rw[Bool.eq_false_iff];intro h2;exact aF (gO (hw hu) h2)
   rw[sG hn,hn v (List.mem_of_getElem? h)];simp
theorem SK(hG:HG G)(l:List ai)(x:ID)(hs:dr l)(hl:l.length≤50000000):∀(n i j:Nat),j-i≤n→i≤cf l x→cf l x≤j→j≤l.length → LX G 215213 ju Tryz.f213 iG (aO Tryz.prog 213 0) ((l,(((l.length:Nat):Int),((i:Int),((j:Int),())))),(((x,()),()),()))=some (((((cf l x:Nat):Int),(decide ((l[cf l x]?).map (·.1)=some x),())):Int×(Bool×Unit)),()):=by
 have tM:=GA l x;have fin:∀(i j:Nat),¬(i<j)→i≤cf l x→cf l x≤j→LX G 215213 ju Tryz.f213 iG (aO Tryz.prog 213 0) ((l,(((l.length:Nat):Int),((i:Int),((j:Int),())))),(((x,()),()),()))=some (((((cf l x:Nat):Int),(decide ((l[cf l x]?).map (·.1)=some x),())):Int×(Bool×Unit)),()):=fun i j zQ h1 h2=>by
  have hi:i=cf l x:=by omega
  subst hi;refine ao Cj ?_;refine ag (decide_eq_false (show ¬(((cf l x:Nat):Int)<(j:Int)) by omega)) ?_;by_cases hc:cf l x<l.length
  ·have hx:l[cf l x]? = some l[cf l x]:=aaY hc;refine af (aY hc) ?_;refine aa (aA hx) ?_;refine aa (Xq hG l[cf l x] x) ?_;refine congrArg (fun b:Bool=>some ((((cf l x:Nat):Int),(b,())),())) ?_;rw[hx];unfold pY;by_cases he:l[cf l x].1=x
   ·simp[he]
   ·simp[he];split<;>simp
  ·refine ag (decide_eq_false (show ¬(((cf l x:Nat):Int)<((l.length:Nat):Int)) by omega)) ?_;refine congrArg (fun b:Bool=>some ((((cf l x:Nat):Int),(b,())),())) ?_;rw[List.getElem?_eq_none (by omega)];simp
 intro n
 induction n with
 |zero=>intro i j zQ h1 h2 h3;exact fin i j (by omega) h1 h2
 |succ n ih =>
  intro i j zQ h1 h2 h3;by_cases aF:i<j
  case neg=>exact fin i j aF h1 h2
  refine ao Cj ?_;refine af (decide_eq_true (show((i:Int)<(j:Int)) by omega)) ?_;refine ag rfl ?_;have hm:=Lb (i:=i) (j:=j) (by omega) (by omega);have hh:(i+j) / 2<l.length:=by omega
  have hx:l[(i+j) / 2]? = some l[(i+j) / 2]:=aaY hh;have ow:=xI (x:=x) hs ((i+j) / 2) _ hx;refine aa (show aT l (IntKind.wrap .i64 (lf .u64 (IntKind.wrap .u64 (IntKind.wrap .i64 ((i:Int)+(j:Int)))) (1:Int)))=some l[(i+j) / 2] by rw[hm];exact aA hx) ?_;refine aa (Xq hG l[(i+j) / 2] x) ?_;by_cases ho:fg l[(i+j) / 2].1 x=true
  ·refine af (decide_eq_true ((kg _ _).2 ho)) ?_;have hc:=ow.1 ho;have hw:IntKind.wrap .i64 (IntKind.wrap .i64 (lf .u64 (IntKind.wrap .u64 (IntKind.wrap .i64 ((i:Int)+(j:Int)))) (1:Int))+1)=(((i+j) / 2+1:Nat):Int):=by rw[hm];exact aD hh (by omega)
   have:=ih ((i+j) / 2+1) j (by omega) (by omega) h2 h3;rw[←hw]at this;exact this
  ·refine ag (decide_eq_false (fun h=>ho ((kg _ _).1 h))) ?_;have hc:¬(i+j) / 2<cf l x:=fun h=>ho (ow.2 h);have:=ih i ((i+j) / 2) (by omega) h1 (by omega) (by omega);rw[←hm]at this;exact this
theorem SL(hG:HG G)(l:List ai)(x:ID)(hs:dr l)(hl:l.length≤50000000) :
  FX G 215213 ju ((l,x,()),())=some (((((cf l x:Nat):Int),(decide ((l[cf l x]?).map (·.1)=some x),())):Int×(Bool×Unit)),()):=by
 refine az (hG _ _ rfl) R7 ?_;exact SK hG l x hs hl l.length 0 l.length (by omega) (by omega) (GA l x) (adj _)
theorem oQ(hG:HG G)(w:ba)(x:ID)(hs:dr w.2.1)(hl:w.2.1.length≤50000000) :
  FX G 182 nh ((x,()),(w,()))=some (((((cf w.2.1 x:Nat):Int),(decide ((w.2.1[cf w.2.1 x]?).map (·.1)=some x),())):Int×(Bool×Unit)),(w,())):=by
 refine az (hG _ _ rfl) abf ?_;exact aa (SL hG w.2.1 x hs hl) rfl
theorem xJ{x:ID}:∀{l:List ai},dr l→aX l x=(l[cf l x]?).filter fun v=>decide (v.1=x)
 |[],_=>rfl
 |w::r,hs=>by
  have hw:∀{u:ai},u∈r→fg w.1 u.1=true:=fun {u} hu=>adF hs hu;have hr:dr r:=hs.of_cons;by_cases aF:fg w.1 x=true
  ·have e:cf (w::r) x=cf r x+1:=by unfold cf;rw[List.countP_cons_of_pos (by simpa using aF)]
   have bw:¬w.1=x:=fun e=>by rw[e,ck]at aF;cases aF
   rw[e];simp only[aX,List.find?_cons,bw,decide_false,List.getElem?_cons_succ];exact xJ hr
  ·have hn:∀u∈w::r,fg u.1 x=false:=fun u hu=>by
    rcases acp.1 hu with rfl|hu
    ·simpa using aF
    ·rw[Bool.eq_false_iff];intro h2;exact aF (gO (hw hu) h2)
   rw[sG hn];by_cases he:w.1=x
   ·simp[aX,List.find?_cons,he,Option.filter]
   ·have J1:fg x w.1=true:=lD (by simpa using aF) he;have:aX r x=none:=by
     unfold aX;rw[List.find?_eq_none];intro u hu h2;have h3:u.1=x:=by simpa using h2
     have h4:=hw hu;rw[h3]at h4;have:=lC h4;rw[J1]at this;cases this
    rw[show aX (w::r) x=aX r x by simp only[aX,List.find?_cons,he,decide_false],this];simp[he,Option.filter]
theorem du{l:List ai}{x:ID}(hs:dr l):decide ((l[cf l x]?).map (·.1)=some x)=(aX l x).isSome:=by
 rw[xJ hs]
 cases h:l[cf l x]? with
 |none=>simp
 |some v=>by_cases he:v.1=x<;>simp[he,Option.filter]
theorem I0(v:ai):∀{l:List ai},dr l→aX l v.1=none→dA v l=l.take (cf l v.1)++(v::l.drop (cf l v.1))
 |[],_,_=>rfl
 |w::r,hs,hf=>by
  have hw:∀{u:ai},u∈r→fg w.1 u.1=true:=fun {u} hu=>adF hs hu;have hr:dr r:=hs.of_cons;have bw:¬w.1=v.1:=fun e=>by simp[aX,e]at hf
  have Em:aX r v.1=none:=by simpa[aX,List.find?_cons,bw] using hf
  by_cases aF:fg w.1 v.1=true
  ·have e:cf (w::r) v.1=cf r v.1+1:=by unfold cf;rw[List.countP_cons_of_pos (by simpa using aF)]
   have WG:fg v.1 w.1=false:=lC aF;rw[e,dA,if_neg (by simp[WG]),I0 v hr Em];rfl
  ·have hn:∀u∈w::r,fg u.1 v.1=false:=fun u hu=>by
    rcases acp.1 hu with rfl|hu
    ·simpa using aF
    ·rw[Bool.eq_false_iff];intro h2;exact aF (gO (hw hu) h2)
   have J1:fg v.1 w.1=true:=lD (by simpa using aF) bw;rw[sG hn,dA,if_pos J1];rfl
theorem xK{x:ID}:∀{l:List ai},dr l→(aX l x).isSome=true→db l x=l.take (cf l x)++l.drop (cf l x+1)
 |[],_,hf=>by simp[aX]at hf
 |w::r,hs,hf=>by
  have hw:∀{u:ai},u∈r→fg w.1 u.1=true:=fun {u} hu=>adF hs hu;have hr:dr r:=hs.of_cons;by_cases he:w.1=x
  ·have hn:∀u∈w::r,fg u.1 x=false:=fun u hu=>by
    rcases acp.1 hu with rfl|hu
    ·rw[he,ck]
    ·rw[←he];exact lC (hw hu)
   have eY:db r x=r:=by unfold db;rw[List.filter_eq_self];intro u hu;have h4:=hw hu;simp;intro e2;rw[he,e2,ck]at h4;cases h4
   rw[sG hn];unfold db;rw[List.filter_cons_of_neg (by simp[he])];exact eY
  ·have Em:(aX r x).isSome=true:=by simpa[aX,List.find?_cons,he] using hf
   have aF:fg w.1 x=true:=by
    obtain⟨u,hu⟩:=adq.1 Em;have h1:=ady hu;have h2:u.1=x:=by simpa using aeE hu
    rw[←h2];exact hw h1
   have e:cf (w::r) x=cf r x+1:=by unfold cf;rw[List.countP_cons_of_pos (by simpa using aF)]
   rw[e];have:=xK hr Em;simp[db,List.filter_cons,he]at this ⊢;exact this
theorem xL(v:ai):∀{l:List ai},dr l→aX l v.1=none→dr (dA v l)
 |[],_,_=>List.pairwise_singleton _ _
 |w::r,hs,hf=>by
  have hw:∀{u:ai},u∈r→fg w.1 u.1=true:=fun {u} hu=>adF hs hu;have hr:dr r:=hs.of_cons;have bw:¬w.1=v.1:=fun e=>by simp[aX,e]at hf
  have Em:aX r v.1=none:=by simpa[aX,List.find?_cons,bw] using hf
  unfold dA
  split
  ·rename_i h;refine List.Pairwise.cons (fun u hu=>?_) hs;rcases acp.1 hu with rfl|hu
   ·exact h
   ·exact gO h (hw hu)
  ·rename_i h;have aF:fg w.1 v.1=true:=lD (by simpa using h) (fun e=>bw e.symm);refine List.Pairwise.cons (fun u hu=>?_) (xL v hr Em);rcases oL.1 hu with rfl|hu
   ·exact aF
   ·exact hw hu
theorem uy{l:List ai}{x:ID}(hs:dr l):dr (db l x):=hs.filter _
theorem dn{l:List ah}{x:ID}{v:ah}(hs:b8 l)(h:bg l x=some v):l[bJ l x]? = some v:=by
 have kK:=sF (x:=x) hs;rw[h]at kK
 cases hg:l[bJ l x]? with
 |none=>rw[hg]at kK;simp[Option.filter]at kK
 |some u =>
  rw[hg]at kK;simp only[Option.filter]at kK
  split at kK
  ·exact kK.symm
  ·cases kK
theorem kL{l:List ah}{x:ID}{v:ah}(h:bg l x=some v):v.1=x:=by simpa using aeE h
theorem gP{l:List ah}{x:ID}{v:ah}(h:bg l x=some v):v∈l:=ady h
theorem jZ{l:List ah}{x:ID}{k:Nat}{u:ah}(hs:b8 l)(hk:l[k]? = some u)(hu:u.1=x):k=bJ l x:=by
 have h1:¬k<bJ l x:=fun h=>by have:=(xG hs k u hk).2 h;rw[hu,ck]at this;cases this
 have hf:(bg l x).isSome=true:=by unfold bg;rw[List.find?_isSome];exact⟨u,adh hk,by simp[hu]⟩
 obtain⟨v,hv⟩:=adq.1 hf;have hg:=dn hs hv;by_cases h2:bJ l x<k
 ·obtain⟨h3,h4⟩:=aci.1 hg;obtain⟨h5,h6⟩:=aci.1 hk;have:=aeR.1 hs _ _ h3 h5 h2;rw[h4,h6,kL hv,hu,ck]at this;cases this
 ·omega
theorem I2{l:List ah}{x:ID}{v:ah}(hs:b8 l)(h:bg l x=some v)(g f:ah→ah)(h1:∀w,w.1=x→g w=f w)(h2:∀w,w.1≠x→g w=w):l.map g=l.set (bJ l x) (f v):=by
 have hg:=dn hs h;apply aeN;intro k;rw[List.getElem?_map,List.getElem?_set];by_cases hk:bJ l x=k
 ·subst hk;rw[if_pos rfl,if_pos (List.getElem?_eq_some_iff.1 hg).1,hg];simp[h1 v (kL h)]
 ·rw[if_neg hk]
  cases hu:l[k]? with
  |none=>rfl
  |some u =>have:u.1≠x:=fun e=>hk (jZ hs hu e).symm;simp[h2 u this]
theorem mz{l:List ai}{x:ID}{v:ai}(hs:dr l)(h:aX l x=some v):l[cf l x]? = some v:=by
 have kK:=xJ (x:=x) hs;rw[h]at kK
 cases hg:l[cf l x]? with
 |none=>rw[hg]at kK;simp[Option.filter]at kK
 |some u =>
  rw[hg]at kK;simp only[Option.filter]at kK
  split at kK
  ·exact kK.symm
  ·cases kK
theorem rF{l:List ai}{x:ID}{v:ai}(h:aX l x=some v):v.1=x:=by simpa using aeE h
theorem EJ{l:List ai}{x:ID}{v:ai}(h:aX l x=some v):v∈l:=ady h
theorem OO{l:List ai}{x:ID}{k:Nat}{u:ai}(hs:dr l)(hk:l[k]? = some u)(hu:u.1=x):k=cf l x:=by
 have h1:¬k<cf l x:=fun h=>by have:=(xI hs k u hk).2 h;rw[hu,ck]at this;cases this
 have hf:(aX l x).isSome=true:=by unfold aX;rw[List.find?_isSome];exact⟨u,adh hk,by simp[hu]⟩
 obtain⟨v,hv⟩:=adq.1 hf;have hg:=mz hs hv;by_cases h2:cf l x<k
 ·obtain⟨h3,h4⟩:=aci.1 hg;obtain⟨h5,h6⟩:=aci.1 hk;have:=aeR.1 hs _ _ h3 h5 h2;rw[h4,h6,rF hv,hu,ck]at this;cases this
 ·omega
theorem SM{l:List ai}{x:ID}{v:ai}(hs:dr l)(h:aX l x=some v)(g f:ai→ai)(h1:∀w,w.1=x→g w=f w)(h2:∀w,w.1≠x→g w=w):l.map g=l.set (cf l x) (f v):=by
 have hg:=mz hs h;apply aeN;intro k;rw[List.getElem?_map,List.getElem?_set];by_cases hk:cf l x=k
 ·subst hk;rw[if_pos rfl,if_pos (List.getElem?_eq_some_iff.1 hg).1,hg];simp[h1 v (rF h)]
 ·rw[if_neg hk]
  cases hu:l[k]? with
  |none=>rfl
  |some u =>have:u.1≠x:=fun e=>hk (OO hs hu e).symm;simp[h2 u this]
theorem dr.map{l:List ai}(h:dr l){f:ai→ai}(hf:∀v,(f v).1=v.1):dr (l.map f):=by unfold dr at h ⊢;rw[List.pairwise_map];exact h.imp fun {a b} mH=>by rw[hf,hf];exact mH
theorem tz{α R:Type}{o:Option α}{a r:Option R}{f:α→Option R}{p:α}(h:o=some p)(k:f p=r):qH o a f=r:=by subst h;exact k
theorem MP{α R:Type}{o:Option α}{a r:Option R}{f:α→Option R}(h:o=none)(k:a=r):qH o a f=r:=by subst h;exact k
def tB(w:ba)(x:ID):Int×ba :=if(aX w.2.1 x).isSome=true then(12,w) else if 40≤w.2.1.length then(3,w) else(0,(w.1,(dA (x,(e0,0)) w.2.1,w.2.2)))
theorem Xr(hG:HG G)(w:ba)(x:ID)(hs:dr w.2.1)(hl:w.2.1.length≤50000000):FX G 178 yS ((x,()),(w,()))=some (((tB w x).1,()),((tB w x).2,())):=by
 refine az (hG _ _ rfl) abb ?_;refine aa (oQ hG w x hs hl) ?_;unfold tB
 cases hf:(aX w.2.1 x).isSome
 ·rw[if_neg (by simp)];refine ag ((du hs).trans hf) ?_;by_cases h2:40≤w.2.1.length
  ·rw[if_pos h2];exact af (decide_eq_true (show((w.2.1.length:Nat):Int)≥40 by omega)) rfl
  ·rw[if_neg h2];refine ag (decide_eq_false (show ¬((w.2.1.length:Nat):Int)≥40 by omega)) ?_;have hc:=GA w.2.1 x;have mF:qI w.2.1 ((cf w.2.1 x:Nat):Int) [((x,(e0,0)):ai)]=true:=by unfold qI;rw[decide_eq_true (show(0:Int)≤((cf w.2.1 x:Nat):Int) by omega),decide_eq_true (show((cf w.2.1 x:Nat):Int)≤((w.2.1.length:Nat):Int) by omega)];rw[fits (by simp;omega)];rfl
   refine af mF ?_;have e:gj w.2.1 ((cf w.2.1 x:Nat):Int) [((x,(e0,0)):ai)]=dA (x,(e0,0)) w.2.1:=by rw[I0 (x,(e0,0)) hs (by simpa using hf)];unfold gj;simp
   exact congrArg (fun l:List ai=>some (((0:Int),()),((w.1,(l,w.2.2)),()))) e
 ·rw[if_pos rfl];exact af ((du hs).trans hf) rfl
def CC(w:ba)(o:aR):Option (Fin 2×Nat) :=if fE o=true then(if(aX w.2.1 (aH o)).isSome=true then some (⟨1,by decide⟩,cf w.2.1 (aH o)) else none)
 else(if(bg w.1 (aH o)).isSome=true then some (⟨0,by decide⟩,bJ w.1 (aH o)) else none)
theorem acY(hG:HG G)(w:ba)(o:aR)(hv:b8 w.1)(he:dr w.2.1)(PJ:w.1.length≤50000000)(hle:w.2.1.length≤50000000) :
  FX G 189 Il ((o,()),(w,()))=some ((CC w o,(CC w o,())),(w,())):=by
 refine az (hG _ _ rfl) abn ?_;unfold CC;by_cases ho:fE o=true
 ·rw[if_pos ho];refine af ho ?_;refine aa (oQ hG w (aH o) he hle) ?_
  cases hf:aX w.2.1 (aH o) with
  |none =>refine ag ((du he).trans (by rw[hf];rfl)) ?_;rfl
  |some e =>refine af ((du he).trans (by rw[hf];rfl)) ?_;have aF:=(aci.1 (mz he hf)).1;refine af (c8 (fi _) (aY aF)) ?_;exact af (c8 (fi _) (aY aF)) rfl
 ·rw[if_neg ho];refine ag (by simpa using ho) ?_;refine aa (qu hG w (aH o) hv PJ) ?_
  cases hf:bg w.1 (aH o) with
  |none =>refine ag ((fR hv).trans (by rw[hf];rfl)) ?_;rfl
  |some e =>refine af ((fR hv).trans (by rw[hf];rfl)) ?_;have aF:=(aci.1 (dn hv hf)).1;refine af (c8 (fi _) (aY aF)) ?_;exact af (c8 (fi _) (aY aF)) rfl
def uz(w:ba)(o:aR):Int×ba :=if fE o=true then(if(aX w.2.1 (aH o)).isSome=true then(0,(w.1,(w.2.1.map (jY o),w.2.2))) else(13,w))
 else(if(bg w.1 (aH o)).isSome=true then(0,(w.1.map (je o),w.2)) else(13,w))
theorem aii(hG:HG G)(w:ba)(o:aR)(hv:b8 w.1)(he:dr w.2.1)(PJ:w.1.length≤50000000)(hle:w.2.1.length≤50000000) :
  FX G 158 Rd ((o,()),(w,()))=some (((uz w o).1,()),((uz w o).2,())):=by
 refine az (hG _ _ rfl) ahf ?_;refine aa (acY hG w o hv he PJ hle) ?_;by_cases ho:fE o=true
 ·cases hf:aX w.2.1 (aH o) with
  |none =>
   have e1:CC w o=none:=by unfold CC;rw[if_pos ho,hf];rfl
   have e2:uz w o=(13,w):=by unfold uz;rw[if_pos ho,hf];rfl
   rw[e2];exact MP e1 (MP e1 rfl)
  |some e =>
   have e1:CC w o=some (⟨1,by decide⟩,cf w.2.1 (aH o)):=by unfold CC;rw[if_pos ho,hf];rfl
   have hm:∀f:ai→ai,(∀u,u.1=aH o→jY o u=f u)→w.2.1.map (jY o)=w.2.1.set (cf w.2.1 (aH o)) (f e):=fun f hf1 =>SM he hf (jY o) f hf1 (fun u hu=>by unfold jY;rw[if_neg (fun k=>hu k.2)]);have e2:uz w o=(0,(w.1,(w.2.1.map (jY o),w.2.2))):=by unfold uz;rw[if_pos ho,hf];rfl
   rw[e2];refine tz e1 (ag rfl (af rfl (tz e1 (ag rfl (af rfl ?_)))));by_cases h7:o.1=7
   ·refine af (G3 h7) (aa (mz he hf) ?_);have:=hm (fun u=>(u.1,(k0 o,u.2.2))) (fun u hu=>by unfold jY;rw[if_pos ⟨ho,hu⟩,if_pos h7]);exact congrArg (fun l:List ai=>some (((0:Int),()),((w.1,(l,w.2.2)),()))) this.symm
   ·refine ag (zi h7) (aa (mz he hf) ?_);have:=hm (fun u=>(u.1,(u.2.1,oN o))) (fun u hu=>by unfold jY;rw[if_pos ⟨ho,hu⟩,if_neg h7]);exact congrArg (fun l:List ai=>some (((0:Int),()),((w.1,(l,w.2.2)),()))) this.symm
 ·have nJ:fE o=false:=by simpa using ho
  cases hf:bg w.1 (aH o) with
  |none =>
   have e1:CC w o=none:=by unfold CC;rw[if_neg ho,hf];rfl
   have e2:uz w o=(13,w):=by unfold uz;rw[if_neg ho,hf];rfl
   rw[e2];exact MP e1 (MP e1 rfl)
  |some e =>
   have e1:CC w o=some (⟨0,by decide⟩,bJ w.1 (aH o)):=by unfold CC;rw[if_neg ho,hf];rfl
   have hm:∀f:ah→ah,(∀u,u.1=aH o→je o u=f u)→w.1.map (je o)=w.1.set (bJ w.1 (aH o)) (f e):=fun f hf1 =>I2 hv hf (je o) f hf1 (fun u hu=>by unfold je;rw[if_neg (fun k=>hu k.2)]);have e2:uz w o=(0,(w.1.map (je o),w.2)):=by unfold uz;rw[if_neg ho,hf];rfl
   rw[e2];refine tz e1 (af rfl (tz e1 (af rfl ?_)));by_cases h7:o.1=7
   ·refine af (G3 h7) (aa (dn hv hf) ?_);have:=hm (fun u=>(u.1,(u.2.1,(k0 o,u.2.2.2)))) (fun u hu=>by unfold je;rw[if_pos ⟨nJ,hu⟩,if_pos h7]);exact congrArg (fun l:List ah=>some (((0:Int),()),((l,w.2),()))) this.symm
   ·refine ag (zi h7) (aa (dn hv hf) ?_);have:=hm (fun u=>(u.1,(u.2.1,(u.2.2.1,oN o)))) (fun u hu=>by unfold je;rw[if_pos ⟨nJ,hu⟩,if_neg h7]);exact congrArg (fun l:List ah=>some (((0:Int),()),((l,w.2),()))) this.symm
theorem Xs(hG:HG G)(a b:ae):FX G 195 Eu ((a,b,()),())=some ((mo a b,()),()):=by
 refine az (hG _ _ rfl) abA ?_;refine aa (SC hG a.1 b.1) ?_;refine aa (SB hG a.2 b.2) ?_;refine aa (Xo (hG _ _ rfl) (pY a.1 b.1) (La a.2 b.2)) ?_;refine congrArg (fun n:Int=>some ((n,()),())) ?_;obtain⟨a1,a2⟩:=a;obtain⟨b1,b2⟩:=b;unfold mo pY La kF;simp only[Prod.mk.injEq];by_cases h:a1=b1
 ·subst h;simp only[if_true,ck,Bool.false_or,true_and,decide_true,Bool.true_and];by_cases h1:a2<b2
  ·have:¬a2=b2:=by omega
   simp[h1,this]
  ·by_cases h2:a2>b2
   ·have:¬a2=b2:=by omega
    simp[h1,h2,this]
   ·have:a2=b2:=by omega
    simp[this]
 ·simp only[h,if_false,false_and,decide_false,Bool.false_and,Bool.or_false]
  cases fg a1 b1<;>simp
theorem acZ(hG:G 168 mf=none)(row:List ae)(d:ae)(hl:row.length≤1073741824):∀(n i:Nat),i+n=row.length → LX G 168 mf Tryz.f168 vD (aO Tryz.prog 168 0) ((row,(((row.length:Nat):Int),((i:Int),()))),(((d,()),()),()))=some ((idx d (row.drop i) i,()),()):=by
 intro n
 induction n with
 |zero =>intro i hi;refine ao Mm ?_;refine ag (decide_eq_false (show ¬((i:Int)<((row.length:Nat):Int)) by omega)) ?_;rw[List.drop_eq_nil_of_le (by omega)];rfl
 |succ n ih =>
  intro i hi;have aF:i<row.length:=by omega
  refine ao Mm ?_;refine af (aY aF) (aa (aA (aaY aF)) ?_);rw[List.drop_eq_getElem_cons aF,idx];by_cases he:row[i]=d
  ·rw[if_pos he];exact af ((jE d row[i]).trans (decide_eq_true he.symm)) rfl
  ·rw[if_neg he];refine ag ((jE d row[i]).trans (decide_eq_false fun h=>he h.symm)) ?_;rw[wI,aD aF hl];exact ih (i+1) (by omega)
theorem CD(hG:G 168 mf=none)(row:List ae)(d:ae)(hl:row.length≤1073741824):FX G 168 mf ((row,d,()),())=some ((idx d row 0,()),()):=by refine az hG abu ?_;have:=acZ hG row d hl row.length 0 (by omega);rw[List.drop_zero]at this;exact this
theorem EK(hG:HG G)(row:List ae)(d:ae)(hl:row.length≤1073741824):FX G 166 vv ((row,d,()),())=some ((decide (d∈row),()),()):=by
 refine az (hG _ _ rfl) abt ?_;refine aa (CD (hG _ _ rfl) row d hl) ?_;refine congrArg (fun b:Bool=>some ((b,()),())) ?_;rw[Bool.eq_iff_iff];simp only[decide_eq_true_eq];have:=eU (d:=d) (row:=row);constructor
 ·intro h;exact Classical.byContradiction fun k=>by have:=this.2 k;omega
 ·intro h;have h2:¬idx d row 0<0:=fun k=>this.1 k h;omega
theorem dR(a:ae):kF a a=false:=by unfold kF;simp[ck]
theorem fS{a b c:ae}(h:kF a b=true)(k:kF b c=true):kF a c=true:=by obtain⟨⟨a1,a2⟩,a3⟩:=a;obtain⟨⟨b1,b2⟩,b3⟩:=b;obtain⟨⟨c1,c2⟩,c3⟩:=c;simp[kF,fg]at *;omega
theorem xM{a b:ae}(h:kF a b=false)(k:a≠b):kF b a=true:=by obtain⟨⟨a1,a2⟩,a3⟩:=a;obtain⟨⟨b1,b2⟩,b3⟩:=b;simp[kF,fg]at *;omega
theorem GB{a b c:ae}(h:kF a b=true)(k:kF c b=false):kF a c=true:=by obtain⟨⟨a1,a2⟩,a3⟩:=a;obtain⟨⟨b1,b2⟩,b3⟩:=b;obtain⟨⟨c1,c2⟩,c3⟩:=c;simp[kF,fg]at *;omega
theorem sH(a b:ae):mo a b<0↔kF a b=true:=by
 unfold mo;by_cases h:a=b
 ·subst h;simp[dR]
 ·rw[if_neg h];cases kF a b<;>simp
theorem qb{row:List ae}{k:Nat}(hk:k<row.length):row.getD k zD=row[k]:=by simp[List.getD,hk]
theorem xN(row:List ae):∀(r:List ae) (i k:Nat),row.drop i=r→k<row.length→k≤i→(∀j,j<i→(hj:j<row.length)→kF row[j] (row.getD k zD)=false)→(∀j,j<k→(hj:j<row.length)→kF (row.getD k zD) row[j]=true) →(∀j,(hj:j<row.length)→kF row[j] (row.getD (fL row r i k) zD)=false)∧(∀j,j<fL row r i k→(hj:j<row.length)→kF (row.getD (fL row r i k) zD) row[j]=true)
 |[],i,k,hr,hk,hki,h1,h2=>by
  have hi:row.length≤i:=by have:=congrArg List.length hr;simp at this;omega
  exact⟨fun j hj=>h1 j (by omega) hj,h2⟩
 |x::r,i,k,hr,hk,hki,h1,h2=>by
  have hi:i<row.length:=by have:=congrArg List.length hr;simp at this;omega
  have hx:row[i]=x:=by have:=aev hi;rw[hr]at this;injection this with a b;exact a.symm
  have rR:row.drop (i+1)=r:=by have:=aev hi;rw[hr]at this;injection this with a b;exact b.symm
  unfold fL
  split
  ·rename_i aF;rw[sH]at aF;refine xN row r (i+1) i rR hi (by omega) (fun j hj JW=>?_) (fun j hj JW=>?_)
   ·rw[qb hi,hx];rcases Nat.lt_succ_iff_lt_or_eq.1 hj with hj|rfl
    ·cases hc:kF row[j] x with
     |false=>rfl
     |true=>have:=fS hc aF;rw[h1 j hj JW]at this;cases this
    ·rw[hx,dR]
   ·rw[qb hi,hx];exact GB aF (h1 j (by omega) JW)
  ·rename_i aF;rw[sH]at aF;refine xN row r (i+1) k rR hk (by omega) (fun j hj JW=>?_) h2;rcases Nat.lt_succ_iff_lt_or_eq.1 hj with hj|rfl
   ·exact h1 j hj JW
   ·rw[hx];simpa using aF
theorem uA{row:List ae}(h:0<row.length):(∀j,(hj:j<row.length)→kF row[j] (row.getD (fL row row 0 0) zD)=false)∧(∀j,j<fL row row 0 0→(hj:j<row.length)→kF (row.getD (fL row row 0 0) zD) row[j]=true) :=xN row row 0 0 rfl h (adj _) (fun j hj=>by omega) (fun j hj=>by omega)
theorem Lc{d:ae}:∀{row:List ae} {k:Nat} {i:Int},row[k]? = some d→(∀j,j<k→row[j]?≠some d)→idx d row i=i+k
 |[],k,i,h,_=>by simp at h
 |e::r,0,i,h,_=>by simp at h;subst h;rw[idx,if_pos rfl];simp
 |e::r,k+1,i,h,hn=>by have h0:=hn 0 (by omega);rw[idx,if_neg (fun e=>h0 (by simp[e]))];rw[Lc (k:=k) (by simpa using h) (fun j hj=>by have:=hn (j+1) (by omega);simpa using this)];simp;omega
theorem SO{row:List ae}(h:0<row.length):idx (row.getD (fL row row 0 0) zD) row 0=((fL row row 0 0:Nat):Int):=by have hm:=pZ row row 0 0 h (by omega);have:=Lc (d:=row.getD (fL row row 0 0) zD) (row:=row) (k:=fL row row 0 0) (i:=0) (by rw[qb hm];exact aaY hm) (fun j hj he=>by obtain⟨h1,h2⟩:=aci.1 he;have:=(uA h).2 j hj h1;rw[h2,dR]at this;cases this);omega
theorem SP(hG:HG G)(row:List ae)(h:0<row.length)(hl:row.length≤100000000):FX G 196194 kA ((row,()),())=some ((row.getD (fL row row 0 0) zD,()),()):=by
 refine az (hG _ _ rfl) R8 ?_;refine ag (decide_eq_false (show ¬((row.length:Nat):Int)<1 by omega)) ?_;refine aa (aA (i:=0) (aaY h)) ?_;have loop:∀(n i k:Nat),i+n=row.length→k<row.length→LX G 196194 kA Tryz.f194 jV (aO Tryz.prog 194 0) ((row,((i:Int),())),(((zD,()),(((row.getD k zD),()),())),()))=some ((row.getD (fL row (row.drop i) i k) zD,()),()):=by
  intro n
  induction n with
  |zero =>intro i k hi hk;refine ao Ck ?_;refine ag (decide_eq_false (show ¬((i:Int)<((row.length:Nat):Int)) by omega)) ?_;rw[List.drop_eq_nil_of_le (by omega)];rfl
  |succ n ih =>
   intro i k hi hk;have aF:i<row.length:=by omega
   have hx:row[i]? = some row[i]:=aaY aF;refine ao Ck ?_;refine af (aY aF) (aa (aA hx) ?_);refine aa (Xs hG row[i] (row.getD k zD)) ?_;rw[List.drop_eq_getElem_cons aF,fL];by_cases ho:mo row[i] (row.getD k zD)<0
   ·rw[if_pos ho];refine af (decide_eq_true ho) (aa (aA hx) ?_);have:=ih (i+1) i (by omega) aF;rw[←aD aF (by omega),qb aF]at this;exact this
   ·rw[if_neg ho];refine ag (decide_eq_false ho) ?_;have:=ih (i+1) k (by omega) hk;rw[←aD aF (by omega)]at this;exact this
 have h1:=loop (row.length-1) 1 0 (by omega) h;have h2:fL row row 0 0=fL row (row.drop 1) 1 0:=by
  cases row with
  |nil=>simp at h
  |cons x r =>
   rw[List.drop_one,List.tail_cons]
   conv=>lhs;rw[fL]
   rw[if_neg];show ¬mo x x<0;unfold mo;simp
 rw[h2];have h3:row.getD 0 zD=row[0]:=qb h;rw[h3]at h1;exact h1
def total(ls:List (List ae)):Nat:=(ls.map List.length).sum
theorem CE(a:List ae)(r:List (List ae)):total (a::r)=a.length+total r:=by unfold total;rw[List.map_cons,List.sum_cons]
theorem Xt(hG:HG G)(ls:List (List ae))(hn:ls.length≤1000)(hl:total ls≤500000000):FX G 196 oF ((ls,()),())=some ((ls.flatten,()),()):=by
 refine az (hG _ _ rfl) abB ?_;have ac0:∀(n i:Nat) (out:List ae),i+n=ls.length→out.length+total (ls.drop i)≤500000000→LX G 196 oF Tryz.f196 vF (aO Tryz.prog 196 1) ((ls,(((ls.length:Nat):Int),((i:Int),()))),((),(out,())))=some ((out++(ls.drop i).flatten,()),()):=by
  intro n
  induction n with
  |zero =>intro i out hi ho;refine ao Mo ?_;refine ag (decide_eq_false (show ¬((i:Int)<((ls.length:Nat):Int)) by omega)) ?_;rw[List.drop_eq_nil_of_le (by omega),List.flatten_nil,List.append_nil];rfl
  |succ n ih =>
   intro i out hi ho;have aF:i<ls.length:=by omega
   rw[List.drop_eq_getElem_cons aF]at ho ⊢;have nJ:out.length+(ls[i].length+total (ls.drop (i+1)))≤500000000:=by have:total (ls[i]::ls.drop (i+1))=ls[i].length+total (ls.drop (i+1)):=CE _ _;omega
   refine ao Mo ?_;refine af (aY aF) (aa (aA (aaY aF)) ?_);refine af (fits (show out.length+ls[i].length≤1073741824 by omega)) ?_;have:=ih (i+1) (out++ls[i]) (by omega) (by rw[List.length_append];omega);rw[List.flatten_cons,←List.append_assoc];rw[←aD aF (by omega)]at this;exact this
 have ac1:∀(n i m:Nat),i+n=ls.length→m+total (ls.drop i)=total ls→LX G 196 oF Tryz.f196 vE (aO Tryz.prog 196 0) ((ls,((m:Int),(ls,(((ls.length:Nat):Int),((i:Int),()))))),((),()))=some ((ls.flatten,()),()):=by
  intro n
  induction n with
  |zero =>
   intro i m hi hm;refine ao Mn ?_;refine ag (decide_eq_false (show ¬((i:Int)<((ls.length:Nat):Int)) by omega)) ?_;have hg:qJ (m:Int)=true:=by unfold qJ;rw[decide_eq_true (show(0:Int)≤(m:Int) by omega)];rw[decide_eq_true (show(m:Int)≤fj by unfold fj;omega)];rfl
   refine af hg ?_;have:=ac0 ls.length 0 [] (by omega) (by rw[List.drop_zero];simpa using hl);rw[List.drop_zero,List.nil_append]at this;exact this
  |succ n ih =>
   intro i m hi hm;have aF:i<ls.length:=by omega
   have UO:m+ls[i].length+total (ls.drop (i+1))=total ls:=by rw[List.drop_eq_getElem_cons aF]at hm;have:total (ls[i]::ls.drop (i+1))=ls[i].length+total (ls.drop (i+1)):=CE _ _;omega
   refine ao Mn ?_;refine af (aY aF) (aa (aA (aaY aF)) ?_);have hw:IntKind.wrap .i64 ((m:Int)+((ls[i].length:Nat):Int))=((m+ls[i].length:Nat):Int):=by rw[wrap_small (by omega) (by omega)];rfl
   refine ag (decide_eq_false (show ¬IntKind.wrap .i64 ((m:Int)+((ls[i].length:Nat):Int))<0 by rw[hw];omega)) ?_;have:=ih (i+1) (m+ls[i].length) (by omega) UO;rw[←aD aF (by omega),←hw]at this;exact this
 exact ac1 ls.length 0 0 (by omega) (by rw[List.drop_zero];omega)
theorem Aq{α:Type}(xs:List α){k:Nat}(hk:k≤xs.length):cut xs (k:Int) ((xs.length:Nat):Int)=xs.drop k:=by unfold cut;rw[Int.toNat_natCast,Int.toNat_natCast,List.take_of_length_le (Nat.le_refl _)]
theorem sI{α:Type}(xs:List α)(k:Nat):cut xs 0 (k:Int)=xs.take k:=by unfold cut;rw[Int.toNat_natCast];rfl
theorem GC{n k:Nat}(h:k≤n):bp n (k:Int) ((n:Nat):Int)=true:=by unfold bp;simp;omega
theorem wa{n k:Nat}(h:k≤n):bp n 0 (k:Int)=true:=by unfold bp;simp;omega
theorem EL(hG:HG G)(row:List ae)(hl:row.length≤100000000):FX G 169 rk ((row,()),())=some ((cw row,()),()):=by
 refine az (hG _ _ rfl) abm ?_;by_cases h0:row.length=0
 ·refine af (show(((row.length:Nat):Int)==0)=true by simp[h0]) ?_;have:row=[]:=by simpa using h0
  subst this;rfl
 refine ag (show(((row.length:Nat):Int)==0)=false by rw[beq_eq_false_iff_ne];omega) ?_;have hp:0<row.length:=by omega
 have hm:=pZ row row 0 0 hp (by omega);refine aa (SP hG row hp hl) ?_;refine aa (CD (hG _ _ rfl) row (row.getD (fL row row 0 0) zD) (by omega)) ?_;rw[SO hp];refine af (GC (n:=row.length) (k:=fL row row 0 0) (by omega)) (af (wa (n:=row.length) (k:=fL row row 0 0) (by omega)) ?_);have key:∀a b:List ae,a=row.drop (fL row row 0 0)→b=row.take (fL row row 0 0)→((FX G 196 oF (([a,b],()),())).bind fun(y3:(((List ae)×Unit)×Unit))=>some (y3.1,()))=some ((cw row,()),()):=by intro a b ha hb;subst ha hb;refine aa (Xt hG [row.drop (fL row row 0 0),row.take (fL row row 0 0)] (by simp) (by unfold total;simp;omega)) ?_;unfold cw Dp;simp only[List.flatten_cons,List.flatten_nil,List.append_nil]
 exact key _ _ (Aq row (by omega)) (sI row _)
theorem SQ(hG:HG G)(ls:List (List ae))(hn:ls.length≤1000)(hl:total ls≤100000000):FX G 170 oE ((ls,()),())=some ((cw ls.flatten,()),()):=by
 refine az (hG _ _ rfl) abv ?_;refine aa (Xt hG ls hn (by omega)) ?_;have hlen:ls.flatten.length=total ls:=by unfold total;exact List.length_flatten
 exact aa (EL hG ls.flatten (by omega)) rfl
theorem SR(hG:HG G)(row:List ae)(after d:ae)(hl:row.length≤50000000):FX G 181 BG ((row,after,d,()),())=some ((mq row after d,()),()):=by
  refine az (hG _ _ rfl) abd ?_;refine aa (EK hG row d (by omega)) ?_;unfold mq;by_cases hd:d∈row
  · rw[if_pos hd]
    exact af (decide_eq_true hd) (aa (EL hG row (by omega)) rfl)
  rw[if_neg hd];refine ag (decide_eq_false hd) ?_;refine aa (CD (hG _ _ rfl) row after (by omega)) ?_;have hr:idx after row 0<((row.length:Nat):Int)∨row.length=0∧idx after row 0 = -1:=by
    rcases oJ after row 0 (by omega) with⟨h,_⟩|⟨k,h,hk,_⟩
    · by_cases h0:row.length=0
      · exact .inr ⟨h0,h⟩
      · exact .inl (by omega)
    · have:=(aci.1 hk).1
      exact .inl (by omega)
  have hm:max (idx after row 0) (0:Int)=max 0 (idx after row 0):=by omega
  have hw:IntKind.wrap .i64 (max (idx after row 0) (0:Int)+1)=(((max 0 (idx after row 0)).toNat+1:Nat):Int):=by rw[wrap_small (by omega) (by omega)];omega
  obtain⟨k,hk,oZ,PL⟩:∃k:Nat,min (IntKind.wrap .i64 (max (idx after row 0) (0:Int)+1)) ((row.length:Nat):Int)=(k:Int)∧k≤row.length∧row.take k++(d::row.drop k)=row.take ((max 0 (idx after row 0)).toNat+1)++(d::row.drop ((max 0 (idx after row 0)).toNat+1)):=by
    rw[hw];by_cases h0:row.length=0
    · have:row=[]:=by simpa using h0
      subst this;exact⟨0,by simp;omega,by simp,by simp⟩
    · exact⟨(max 0 (idx after row 0)).toNat+1,by omega,by omega,rfl⟩
  have wE:(min (IntKind.wrap .i64 ((max (idx after row 0) (0:Int):Int)+(1:Int))) (((List.length row):Nat):Int):Int)=(k:Int):=hk;show cond (bp (List.length row) (0:Int) (min (IntKind.wrap .i64 ((max (idx after row 0) (0:Int):Int)+(1:Int))) (((List.length row):Nat):Int):Int)) (cond (bp (List.length row) (min (IntKind.wrap .i64 ((max (idx after row 0) (0:Int):Int)+(1:Int))) (((List.length row):Nat):Int):Int) (((List.length row):Nat):Int)) ((FX G 170 oE ((((cut row (0:Int) (min (IntKind.wrap .i64 ((max (idx after row 0) (0:Int):Int)+(1:Int))) (((List.length row):Nat):Int):Int))::([d]::((cut row (min (IntKind.wrap .i64 ((max (idx after row 0) (0:Int):Int)+(1:Int))) (((List.length row):Nat):Int):Int) (((List.length row):Nat):Int))::([]:List (List ae))))),()),())).bind fun(y4:(((List ae)×Unit)×Unit)) =>some (y4.1,())) (none)) (none)=_;rw[wE];refine af (wa oZ) (af (GC oZ) ?_);have key:∀a b R:List ae,a=row.take k→b=row.drop k→R=cw (row.take k++(d::row.drop k))→((FX G 170 oE (([a,[d],b],()),())).bind fun(y3:(((List ae)×Unit)×Unit))=>some (y3.1,()))=some ((R,()),()):=by intro a b R ha hb hR;subst ha hb hR;refine aa (SQ hG [row.take k,[d],row.drop k] (by simp) (by unfold total;simp;omega)) ?_;refine congrArg (fun l:List ae=>some ((l,()),())) ?_;simp
  exact key _ _ _ (sI row k) (Aq row oZ) (by rw[PL])
theorem xO{row:List ae}{d:ae}{k:Nat}(hn:row.Nodup)(hk:row[k]? = some d):row.filter (fun e=>decide (e≠d))=row.take k++row.drop (k+1):=by
 obtain⟨h1,h2⟩:=aci.1 hk
 conv=>lhs;rw[←List.take_append_drop k row,List.drop_eq_getElem_cons h1,h2]
 have Kf:(row.take k++(d::row.drop (k+1))).Nodup:=by rw[←h2,←List.drop_eq_getElem_cons h1,List.take_append_drop];exact hn
 have h3:=aeA.1 Kf;have h4:=adi.1 h3.2.1;rw[List.filter_append,List.filter_cons_of_neg (by simp)];congr 1
 ·rw[List.filter_eq_self];intro a ha;have:=h3.2.2 a ha d (by simp);simpa using this
 ·rw[List.filter_eq_self];intro a ha;have:a≠d:=fun e=>h4.1 (e▸ha);simpa using this
theorem SS(hG:HG G)(row:List ae)(d:ae)(hn:row.Nodup)(hl:row.length≤50000000):FX G 141 BL ((row,d,()),())=some ((cx row d,()),()):=by
 refine az (hG _ _ rfl) abj ?_;refine aa (CD (hG _ _ rfl) row d (by omega)) ?_;unfold cx;by_cases hd:d∈row
 ·obtain⟨k,h1,h2,h3⟩:=fK hd;have aF:=(aci.1 h2).1;rw[xO hn h2];show cond (decide (idx d row 0<0)) _ (cond (bp row.length 0 (idx d row 0)) (cond (bp row.length (IntKind.wrap .i64 (idx d row 0+1)) ((row.length:Nat):Int)) ((FX G 170 oE (([cut row 0 (idx d row 0),cut row (IntKind.wrap .i64 (idx d row 0+1)) ((row.length:Nat):Int)],()),())).bind fun(y3:(((List ae)×Unit)×Unit))=>some (y3.1,())) none) none)=_;rw[h1,aD aF (by omega)];refine ag (decide_eq_false (by omega)) (af (wa (by omega)) (af (GC (by omega)) ?_));have key:∀a b:List ae,a=row.take k→b=row.drop (k+1)→((FX G 170 oE (([a,b],()),())).bind fun(y3:(((List ae)×Unit)×Unit))=>some (y3.1,()))=some ((cw (row.take k++row.drop (k+1)),()),()):=by intro a b ha hb;subst ha hb;refine aa (SQ hG [row.take k,row.drop (k+1)] (by simp) (by unfold total;simp;omega)) ?_;refine congrArg (fun l:List ae=>some ((l,()),())) ?_;simp
  exact key _ _ (sI row k) (Aq row (by omega))
 ·have h1:=eU.2 hd;refine af (decide_eq_true h1) (aa (EL hG row (by omega)) ?_);refine congrArg (fun l:List ae=>some ((l,()),())) ?_;congr 1
  symm
  rw[List.filter_eq_self];intro a ha;have:a≠d:=fun e=>hd (e▸ha);simpa using this
theorem Xu(hG:HG G)(row:List ae)(cV d:ae)(hl:row.length≤50000000):FX G 187 tn ((row,cV,d,()),())=some ((jI row cV d,()),()):=by
 refine az (hG _ _ rfl) abk ?_;refine aa (CD (hG _ _ rfl) row cV (by omega)) ?_;unfold jI;by_cases ho:cV∈row
 ·obtain⟨k,h1,h2,h3⟩:=fK ho;have aF:=(aci.1 h2).1;refine ag (decide_eq_false (show ¬idx cV row 0<0 by omega)) ?_;refine aa (EK hG row d (by omega)) ?_;by_cases hd:d∈row
  ·rw[if_neg (fun h=>h.2 hd)];exact af (decide_eq_true hd) (aa (EL hG row (by omega)) rfl)
  rw[if_pos ⟨ho,hd⟩];refine ag (decide_eq_false hd) ?_;show cond (bp row.length 0 (idx cV row 0)) (cond (bp row.length (IntKind.wrap .i64 (idx cV row 0+1)) ((row.length:Nat):Int)) ((FX G 170 oE (([cut row 0 (idx cV row 0),[d],cut row (IntKind.wrap .i64 (idx cV row 0+1)) ((row.length:Nat):Int)],()),())).bind fun(y3:(((List ae)×Unit)×Unit))=>some (y3.1,())) none) none=_;rw[h1,aD aF (by omega)];refine af (wa (by omega)) (af (GC (by omega)) ?_);have key:∀a b R:List ae,a=row.take k→b=row.drop (k+1)→R=cw (row.set ((k:Int)).toNat d)→((FX G 170 oE (([a,[d],b],()),())).bind fun(y3:(((List ae)×Unit)×Unit))=>some (y3.1,()))=some ((R,()),()):=by intro a b R ha hb hR;subst ha hb hR;refine aa (SQ hG [row.take k,[d],row.drop (k+1)] (by simp) (by unfold total;simp;omega)) ?_;refine congrArg (fun l:List ae=>some ((l,()),())) ?_;rw[Int.toNat_natCast,List.set_eq_take_append_cons_drop,if_pos aF];simp
  exact key _ _ _ (sI row k) (Aq row (by omega)) rfl
 ·have h1:=eU.2 ho;rw[if_neg (fun h=>ho h.1)];exact af (decide_eq_true h1) (aa (EL hG row (by omega)) rfl)
theorem Xv(hG:HG G)(row:List ae)(d:ae)(hl:row.length≤100000000):FX G 140 BN ((row,d,()),())=some (wF (cC row d (row.length-1)),()):=by
 refine az (hG _ _ rfl) abz ?_;have key:FX G 167 BP ((row,(d,((IntKind.wrap .i64 (((row.length:Nat):Int)-1)),()))),())=some (wF (cC row d (row.length-1)),()):=by
  refine az (hG _ _ rfl) Xb ?_;refine aa (CD (hG _ _ rfl) row d (by omega)) ?_;unfold cC;by_cases hd:d∈row
  ·rw[if_pos hd];obtain⟨k,h1,h2,h3⟩:=fK hd;have aF:=(aci.1 h2).1;refine ag (decide_eq_false (show ¬idx d row 0<0 by omega)) ?_;refine ag (Gl hd) ?_;have hw:IntKind.wrap .i64 (((row.length:Nat):Int)-1)=((row.length-1:Nat):Int):=by rw[wrap_small (by omega) (by omega)];omega
   have Ve:IntKind.wrap .i64 (idx d row 0+IntKind.wrap .i64 (((row.length:Nat):Int)-1))=((k+(row.length-1):Nat):Int):=by rw[hw,h1,wrap_small (by omega) (by omega)];rfl
   have xF:(k+(row.length-1))%row.length<row.length:=aeV _ (by omega);have hx:=aaY xF;refine aa (show aT row (Int.tmod (IntKind.wrap .i64 (idx d row 0+IntKind.wrap .i64 (((row.length:Nat):Int)-1))) ((row.length:Nat):Int))=some row[(k+(row.length-1))%row.length] by rw[Ve,ru];exact aA hx) ?_;rw[h1,Int.toNat_natCast,hx];rfl
  ·rw[if_neg hd];exact af (decide_eq_true (eU.2 hd)) rfl
 refine aa key ?_;rfl
end Go.Vs
