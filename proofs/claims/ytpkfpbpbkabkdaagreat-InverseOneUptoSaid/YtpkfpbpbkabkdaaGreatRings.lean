/- What the program computes at -/
import Derived.Test.YtpkfpbpbkabkdaaGreatPlaces
set_option linter.unusedVariables false
set_option linter.unusedSimpArgs false
namespace Go.Vs
open Go.Proofs
variable {G:(f:FuncId)→(g:aS)→Option (g.A→Option g.B)}
theorem get_at{s:ByteArray}{i:Nat}{c:UInt8}(h:s.data.toList[i]? = some c):s.get! i=c:=by
 have hi:i<s.data.size:=by have:=(aaW.1 h).1;simpa using this
 have h2:=(aaW.1 h).2;show s.data[i]! = c;rw[getElem!_pos s.data i hi,←h2];simp
theorem ON{s:ByteArray}{i:Nat}(h:(s.get! i).toNat<128):Utf8.decode s i=((s.get! i).toNat,1):=by unfold Utf8.decode;simp only[Nat.add_zero];rw[if_pos h]
theorem OO{s:ByteArray}{i:Nat}(h:¬(s.get! i).toNat<128):128≤(Utf8.decode s i).1:=by
 unfold Utf8.decode;simp only[Nat.add_zero];rw[if_neg h]
 repeat' split
 all_goals first|(simp_all only[Bool.and_eq_true,decide_eq_true_eq];omega)|decide|omega
theorem aih(hG:G 161 xi=none)(s:ByteArray)(hs:s.size≤100000000):∀(n i:Nat),i+n=s.size → LX G 161 xi Tryz.f161 xx (aO Tryz.prog 161 0) ((s,()),((),((s,i),())))=some ((((s.data.toList.drop i).all kH&&decide (s.size≤16),()),()):(Bool×Unit)×Unit):=by
 have hl:s.data.toList.length=s.size:=by simp
 intro n
 induction n with
 |zero =>intro i hi;refine ao R8 ?_;refine ag (decide_eq_false (show ¬(i<s.size) by omega)) ?_;refine congrArg (fun b:Bool=>some ((b,()),())) ?_;rw[List.drop_eq_nil_of_le (by omega),List.all_nil,Bool.true_and,Bool.eq_iff_iff];simp;omega
 |succ n ih =>
  intro i hi;have aF:i<s.data.toList.length:=by omega
  have hx:s.data.toList[i]? = some s.data.toList[i]:=aaV aF;generalize s.data.toList[i]=c at hx;have hd:s.data.toList.drop i=c::s.data.toList.drop (i+1):=by rw[List.drop_eq_getElem_cons aF];rw[List.getElem?_eq_getElem aF]at hx;cases hx;rfl
  have hg:=get_at hx;refine ao R8 ?_;refine af (decide_eq_true (show i<s.size by omega)) ?_;show cond (decide (o9 s i<32)) _ (cond (decide (o9 s i>126)) _ (LX G 161 xi Tryz.f161 xx (aO Tryz.prog 161 0) ((s,()),((),((s,i+AH s i),())))))=_;rw[hd,List.all_cons];by_cases h1:c.toNat<128
  ·have hr:Utf8.decode s i=(c.toNat,1):=by rw[ON (by rw[hg];exact h1),hg]
   have hr1:o9 s i=(c.toNat:Int):=by unfold o9;rw[hr]
   have WR:AH s i=1:=by unfold AH;rw[hr]
   rw[hr1,WR];by_cases h2:c.toNat<32
   ·refine af (decide_eq_true (by omega)) ?_;have:kH c=false:=by unfold kH;simp;omega
    rw[this];rfl
   refine ag (decide_eq_false (by omega)) ?_;by_cases h3:126<c.toNat
   ·refine af (decide_eq_true (by omega)) ?_;have:kH c=false:=by unfold kH;simp;omega
    rw[this];rfl
   refine ag (decide_eq_false (by omega)) ?_;have:kH c=true:=by unfold kH;simp;omega
   rw[this,Bool.true_and];exact ih (i+1) (by omega)
  ·have h2:=OO (s:=s) (i:=i) (by rw[hg];exact h1);have hr1:128≤o9 s i:=by unfold o9;omega
   refine ag (decide_eq_false (by omega)) (af (decide_eq_true (by omega)) ?_);have:kH c=false:=by unfold kH;simp;omega
   rw[this];rfl
theorem aij(hG:G 161 xi=none)(s:ByteArray)(hs:s.size≤100000000):FX G 161 xi ((s,()),())=some ((mP s,()),()):=by refine az hG ahg ?_;have:=aih hG s hs s.size 0 (by omega);rw[List.drop_zero]at this;exact this
theorem aik(hG:G 162 Ii=none)(n:Int):FX G 162 Ii ((n,()),())=some ((kI n,()),()):=by refine az hG ahh ?_;show(cond (decide (n≥-1099511627776)) (some ((decide (n≤1099511627776),()),())) (some ((false,()),())):Option ((Bool×Unit)×Unit))=some ((kI n,()),());unfold kI;by_cases h1 : -1099511627776≤n<;>simp[h1]
def OP(n:Int):Prop := -9223372036854775808≤n∧n<9223372036854775808
theorem SP(x:BitVec 64):IntKind.wrap .i64 ((x.toNat:Nat):Int)=x.toInt:=by
 unfold IntKind.wrap;simp only[IntKind.bits,IntKind.signed];have h:=x.isLt;have h2:=BitVec.toInt_eq_toNat_cond x;rw[h2];simp
 split<;>split<;>omega
theorem ofInt_toInt{n:Int}(h:OP n):(BitVec.ofInt 64 n).toInt=n:=by unfold OP at h;rw[BitVec.toInt_ofInt];exact Int.bmod_eq_of_le (by omega) (by omega)
theorem VH{n:Int}(h:OP n):(cY .andNot .i64 n 3==(0:Int))=decide (0≤n∧n≤3):=by
 have e:cY .andNot .i64 n 3=(BitVec.ofInt 64 n &&& ~~~(BitVec.ofInt 64 3)).toInt:=by unfold cY;exact SP _
 rw[e,Bool.eq_iff_iff];simp only[beq_iff_eq,decide_eq_true_eq];generalize hx:BitVec.ofInt 64 n=x;have hn:=ofInt_toInt h;rw[hx]at hn;have h1:(x &&& ~~~(BitVec.ofInt 64 3)).toInt=0↔(x &&& ~~~(BitVec.ofInt 64 3))=0#64:=by
  constructor
  ·intro h;exact BitVec.eq_of_toInt_eq (by rw[h];rfl)
  ·intro h;rw[h];rfl
 rw[h1,←hn];constructor
 ·intro h;have h2:x=x &&& 3#64:=by
   have h3:x=(x &&& ~~~(BitVec.ofInt 64 3)) ||| (x &&& 3#64):=by
    ext i hi;simp only[BitVec.getElem_or,BitVec.getElem_and,BitVec.getElem_not];have:(BitVec.ofInt 64 3)=3#64:=rfl;rw[this]
    cases x[i]<;>cases (3#64)[i]<;>rfl
   rw[h]at h3;simpa using h3
  have h4:x.toNat≤3:=by rw[h2,BitVec.toNat_and];exact Nat.and_le_right
  rw[BitVec.toInt_eq_toNat_cond]
  split<;>omega
 ·intro h;have h4:x.toNat≤3:=by
   rw[BitVec.toInt_eq_toNat_cond]at h;have:=x.isLt
   split at h<;>omega
  have h5:x=0#64∨x=1#64∨x=2#64∨x=3#64:=by
   have:x.toNat=0∨x.toNat=1∨x.toNat=2∨x.toNat=3:=by omega
   rcases this with h|h|h|h
   ·exact .inl (BitVec.eq_of_toNat_eq (by rw[h];rfl))
   ·exact .inr (.inl (BitVec.eq_of_toNat_eq (by rw[h];rfl)))
   ·exact .inr (.inr (.inl (BitVec.eq_of_toNat_eq (by rw[h];rfl))))
   ·exact .inr (.inr (.inr (BitVec.eq_of_toNat_eq (by rw[h];rfl))))
  rcases h5 with rfl|rfl|rfl|rfl<;>decide
theorem VI{n:Int}(h:OP n):(cY .andNot .i64 n 1==(0:Int))=decide (n=0∨n=1):=by
 have e:cY .andNot .i64 n 1=(BitVec.ofInt 64 n &&& ~~~(BitVec.ofInt 64 1)).toInt:=by unfold cY;exact SP _
 rw[e,Bool.eq_iff_iff];simp only[beq_iff_eq,decide_eq_true_eq];generalize hx:BitVec.ofInt 64 n=x;have hn:=ofInt_toInt h;rw[hx]at hn;have h1:(x &&& ~~~(BitVec.ofInt 64 1)).toInt=0↔(x &&& ~~~(BitVec.ofInt 64 1))=0#64:=by
  constructor
  ·intro h;exact BitVec.eq_of_toInt_eq (by rw[h];rfl)
  ·intro h;rw[h];rfl
 rw[h1,←hn];constructor
 ·intro h;have h2:x=x &&& 1#64:=by
   have h3:x=(x &&& ~~~(BitVec.ofInt 64 1)) ||| (x &&& 1#64):=by
    ext i hi;simp only[BitVec.getElem_or,BitVec.getElem_and,BitVec.getElem_not];have:(BitVec.ofInt 64 1)=1#64:=rfl;rw[this]
    cases x[i]<;>cases (1#64)[i]<;>rfl
   rw[h]at h3;simpa using h3
  have h4:x.toNat≤1:=by rw[h2,BitVec.toNat_and];exact Nat.and_le_right
  rw[BitVec.toInt_eq_toNat_cond]
  split<;>omega
 ·intro h;have h4:x.toNat≤1:=by
   rw[BitVec.toInt_eq_toNat_cond]at h;have:=x.isLt
   split at h<;>omega
  have h5:x=0#64∨x=1#64:=by
   have:x.toNat=0∨x.toNat=1:=by omega
   rcases this with h|h
   ·exact .inl (BitVec.eq_of_toNat_eq (by rw[h];rfl))
   ·exact .inr (BitVec.eq_of_toNat_eq (by rw[h];rfl))
  rcases h5 with rfl|rfl<;>decide
theorem ac1(hG:HG G)(d:ae)(h:OP d.2):FX G 190 Io ((d,()),())=some ((IW d,()),()):=by
 refine az (hG _ _ rfl) abe ?_;refine aa (OM (hG _ _ rfl) d.1) ?_;unfold IW
 cases cf d.1
 ·rfl
 ·exact af rfl (congrArg (fun b:Bool=>some ((b,()),())) (VI h))
theorem ac2(hG:HG G)(c:ni)(h:OP c.2.2):FX G 160 DS ((c,()),())=some ((rF c,()),()):=by
 refine az (hG _ _ rfl) ahf ?_;refine aa (OM (hG _ _ rfl) c.1) ?_;unfold rF
 cases cf c.1
 ·rfl
 refine af rfl ?_;have hb:(((c.2.1.1==(0:Int))&&(c.2.1.2==(0:Int)))&&(c.2.2==(0:Int)))=decide (c.2=zD):=jF c.2 zD;by_cases hz:c.2=zD
 ·refine af (hb.trans (decide_eq_true hz)) ?_;rw[decide_eq_true hz,Bool.or_true];rfl
 ·refine ag (hb.trans (decide_eq_false hz)) ?_;refine aa (ac1 hG c.2 h) ?_;rw[decide_eq_false hz,Bool.or_false];rfl
structure Fit(o:aR):Prop where
 a:OP (oA o).2.2
 b:OP (oB o).2.2
 n:OP (oN o)
 t:uB o
def CH(o:aR):aR :=if o.1=6 then(o.1,(aH o,(zI,(an o,(zC,(zC,(false,(e0,0))))))))
 else if o.1=3 then(o.1,(aH o,(zI,(zI,(oA o,(oB o,(false,(e0,0))))))))
 else if o.1=5 then(o.1,(aH o,(dR o,(an o,(zC,(zC,(false,(e0,oN o))))))))
 else if o.1=7 then(o.1,(aH o,(zI,(zI,(zC,(zC,(fF o,(k9 o,0))))))))
 else if o.1=8 then(o.1,(aH o,(zI,(zI,(zC,(zC,(fF o,(e0,oN o))))))))
 else(o.1,(aH o,(zI,(zI,(zC,(zC,(false,(e0,0))))))))
def GD(o:aR):Int :=if o.1=6 then(if cf (aH o)=true∧cf (an o)=true then 0 else 1)
 else if o.1=3 then(if cf (aH o)=true∧rF (oA o)=true∧rF (oB o)=true then 0 else 1)
 else if o.1=5 then(if cf (aH o)=true∧cf (dR o)=true∧cf (an o)=true∧0≤oN o∧oN o≤3 then 0 else 1)
 else if o.1=7 then(if cf (aH o)=true then(if mP (k9 o)=true then 0 else 4) else 1)
 else if o.1=8 then(if cf (aH o)=true∧kI (oN o)=true then 0 else 1)
 else if o.1=1∨o.1=2∨o.1=4 then(if cf (aH o)=true then 0 else 1)
 else 1
theorem G7{o:aR}{k:Int}(h:o.1=k):(o.1==k)=true:=by simp[h]
theorem zn{o:aR}{k:Int}(h:¬o.1=k):(o.1==k)=false:=by simp[h]
theorem ail(hG:HG G)(o:aR)(hf:Fit o):FX G 132 Re ((o,()),())=some ((CH o,(GD o,())),()):=by
 refine az (hG _ _ rfl) agS ?_;refine aa (OM (hG _ _ rfl) (aH o)) ?_;unfold CH GD;by_cases h1:o.1=1
 ·refine af (G7 h1) (af (G7 h1) ?_);rw[if_neg (by omega),if_neg (by omega),if_neg (by omega),if_neg (by omega),if_neg (by omega),if_neg (by omega),if_neg (by omega),if_neg (by omega),if_neg (by omega),if_neg (by omega),if_pos (by omega)]
  cases cf (aH o)<;>rfl
 refine ag (zn h1) ?_;by_cases h2:o.1=2
 ·refine af (G7 h2) (af (G7 h2) ?_);rw[if_neg (by omega),if_neg (by omega),if_neg (by omega),if_neg (by omega),if_neg (by omega),if_neg (by omega),if_neg (by omega),if_neg (by omega),if_neg (by omega),if_neg (by omega),if_pos (by omega)]
  cases cf (aH o)<;>rfl
 refine ag (zn h2) ?_;by_cases h4:o.1=4
 ·refine af (G7 h4) ?_;rw[if_neg (by omega),if_neg (by omega),if_neg (by omega),if_neg (by omega),if_neg (by omega),if_neg (by omega),if_neg (by omega),if_neg (by omega),if_neg (by omega),if_neg (by omega),if_pos (by omega)]
  cases cf (aH o)<;>rfl
 refine ag (zn h4) ?_;by_cases h6:o.1=6
 ·refine af (G7 h6) ?_;rw[if_pos h6,if_pos h6]
  cases cf (aH o)
  ·rfl
  refine af rfl (aa (OM (hG _ _ rfl) (an o)) ?_)
  cases cf (an o)<;>rfl
 refine ag (zn h6) ?_;rw[if_neg h6,if_neg h6];by_cases h3:o.1=3
 ·refine af (G7 h3) ?_;rw[if_pos h3,if_pos h3]
  cases cf (aH o)
  ·rfl
  refine af rfl (aa (ac2 hG (oA o) hf.a) ?_)
  cases rF (oA o)
  ·rfl
  refine af rfl (aa (ac2 hG (oB o) hf.b) ?_)
  cases rF (oB o)<;>rfl
 refine ag (zn h3) ?_;rw[if_neg h3,if_neg h3];by_cases h5:o.1=5
 ·refine af (G7 h5) ?_;rw[if_pos h5,if_pos h5]
  cases cf (aH o)
  ·rfl
  refine af rfl (aa (OM (hG _ _ rfl) (dR o)) ?_)
  cases cf (dR o)
  ·rfl
  refine af rfl (aa (OM (hG _ _ rfl) (an o)) ?_)
  cases cf (an o)
  ·rfl
  refine af rfl (aV (VH hf.n) ?_);by_cases h:0≤oN o∧oN o≤3
  ·rw[decide_eq_true h,if_pos ⟨rfl,rfl,rfl,h⟩];rfl
  ·rw[decide_eq_false h,if_neg (fun k=>h k.2.2.2)];rfl
 refine ag (zn h5) ?_;rw[if_neg h5,if_neg h5];by_cases h7:o.1=7
 ·refine af (G7 h7) ?_;rw[if_pos h7,if_pos h7];refine aa (aij (hG _ _ rfl) (k9 o) hf.t) ?_
  cases mP (k9 o)<;>cases cf (aH o)<;>rfl
 refine ag (zn h7) ?_;rw[if_neg h7,if_neg h7];by_cases h8:o.1=8
 ·refine af (G7 h8) ?_;rw[if_pos h8,if_pos h8]
  cases cf (aH o)
  ·rfl
  refine af rfl (aa (aik (hG _ _ rfl) (oN o)) ?_)
  cases kI (oN o)<;>rfl
 refine ag (zn h8) ?_;rw[if_neg h8,if_neg h8,if_neg (by omega)];rfl
theorem OQ(o:aR)(h1:1≤o.1)(h8:o.1≤8):qa (CH o) o=qa (jL o) J7:=by
 rw[Bool.eq_iff_iff,im,im];obtain⟨k,i,n,m,⟨a1,a2⟩,⟨b1,b2⟩,f,t,q⟩:=o;simp only at h1 h8;unfold CH jL J7;have:k=1∨k=2∨k=3∨k=4∨k=5∨k=6∨k=7∨k=8:=by omega
 rcases this with rfl|rfl|rfl|rfl|rfl|rfl|rfl|rfl<;>simp only[Int.reduceEq,if_true,if_false]<;>constructor<;>intro h<;>simp only[zC,Prod.mk.injEq,true_and,and_true]at h ⊢<;>grind
theorem YS(hG:HG G)(o:aR)(hf:Fit o):FX G 104 KR ((o,()),())=some ((bB o,()),()):=by
 refine az (hG _ _ rfl) agx ?_;refine aa (ail hG o hf) ?_;refine aV (b:=qa (CH o) o) rfl ?_;unfold bB;by_cases h1:o.1<1
 ·rw[if_pos h1];have:GD o=1:=by unfold GD;rw[if_neg (by omega),if_neg (by omega),if_neg (by omega),if_neg (by omega),if_neg (by omega),if_neg (by omega)]
  rw[this];cases qa (CH o) o<;>rfl
 rw[if_neg h1];by_cases h8:8<o.1
 ·rw[if_pos h8];have:GD o=1:=by unfold GD;rw[if_neg (by omega),if_neg (by omega),if_neg (by omega),if_neg (by omega),if_neg (by omega),if_neg (by omega)]
  rw[this];cases qa (CH o) o<;>rfl
 rw[if_neg h8,OQ o (by omega) (by omega)];have hk:o.1=1∨o.1=2∨o.1=3∨o.1=4∨o.1=5∨o.1=6∨o.1=7∨o.1=8:=by omega
 by_cases hm:cf (aH o)=true
 case neg =>
  have hb:GD o=1:=by unfold GD;rcases hk with h|h|h|h|h|h|h|h<;>simp[h,hm]
  rw[if_pos (by simpa using hm),hb];cases qa (jL o) J7<;>rfl
 rw[if_neg (by simp[hm])]
 cases qa (jL o) J7
 ·rw[if_pos rfl];rfl
 rw[if_neg (by simp)];refine ag rfl ?_;refine congrArg (fun n:Int=>some ((n,()),())) ?_;unfold GD;rcases hk with h|h|h|h|h|h|h|h<;>simp[h,hm]
theorem aim(hG:HG G)(l:List aR)(hl:l.length≤1073741824)(hf:∀o∈l,Fit o):FX G 66 Ie ((l,()),())=some ((eF l,()),()):=by
 refine az (hG _ _ rfl) agL ?_;unfold eF;by_cases h0:l.length=0
 ·refine af (show(((l.length:Nat):Int)==0)=true by simp[h0]) ?_;rw[if_neg (by omega)];rfl
 refine ag (show(((l.length:Nat):Int)==0)=false by rw[beq_eq_false_iff_ne];omega) ?_;by_cases h6:6<l.length
 ·refine af (decide_eq_true (show((l.length:Nat):Int)>6 by omega)) ?_;rw[if_neg (by omega)];rfl
 refine ag (decide_eq_false (show ¬((l.length:Nat):Int)>6 by omega)) ?_;rw[if_pos (by omega)];have loop:∀(n i:Nat),i+n=l.length→LX G 66 Ie Tryz.f66 Ci (aO Tryz.prog 66 0) ((l,(((l.length:Nat):Int),((i:Int),()))),((),()))=some ((kJ (l.drop i),()),()):=by
  intro n
  induction n with
  |zero =>intro i hi;refine ao RO ?_;refine ag (decide_eq_false (show ¬((i:Int)<((l.length:Nat):Int)) by omega)) ?_;rw[List.drop_eq_nil_of_le (by omega)];rfl
  |succ n ih =>
   intro i hi;have aF:i<l.length:=by omega
   refine ao RO ?_;refine af (aY aF) (aa (aA (aaV aF)) ?_);refine aa (YS hG l[i] (hf _ (adg aF))) ?_;rw[List.drop_eq_getElem_cons aF,kJ];by_cases hz:bB l[i]=0
   ·rw[if_neg (by simp[hz])];refine ag (show(bB l[i] != 0)=false by simp[hz]) ?_;rw[wI,aD aF hl];exact ih (i+1) (by omega)
   ·rw[if_pos hz];exact af (show(bB l[i] != 0)=true by simp[hz]) rfl
 have:=loop l.length 0 (by omega);rw[List.drop_zero]at this;exact this
theorem Xu(hG:HG G)(v:ai)(x:ID):FX G 214 Ex ((v,x,()),())=some ((p4 v.1 x,()),()):=by refine az (hG _ _ rfl) abC ?_;exact aa (SJ hG v.1 x) rfl
def cg(l:List ai)(x:ID):Nat:=l.countP fun v=>fh v.1 x
def dt(l:List ai):Prop:=l.Pairwise fun a b=>fh a.1 b.1=true
theorem GF(l:List ai)(x:ID):cg l x≤l.length:=aeM
theorem sL{l:List ai}{x:ID}(h:∀v∈l,fh v.1 x=false):cg l x=0:=by unfold cg;rw[List.countP_eq_zero];intro v hv;simp[h v hv]
theorem xM{x:ID}:∀{l:List ai},dt l→∀(k:Nat) (v:ai),l[k]? = some v→(fh v.1 x=true↔k<cg l x)
 |[],_,k,v,h=>by simp at h
 |w::r,hs,k,v,h=>by
  have hw:∀{u:ai},u∈r→fh w.1 u.1=true:=fun {u} hu=>adF hs hu;have hr:dt r:=hs.of_cons;by_cases aF:fh w.1 x=true
  ·have e:cg (w::r) x=cg r x+1:=by unfold cg;rw[List.countP_cons_of_pos (by simpa using aF)]
   cases k with
   |zero=>simp at h;subst h;simp[aF,e]
   |succ k=>have:=xM (x:=x) hr k v (by simpa using h);rw[this,e];omega
  ·have hn:∀u∈w::r,fh u.1 x=false:=fun u hu=>by
    rcases aa1.1 hu with rfl|hu
    ·simpa using aF
    ·rw[Bool.eq_false_iff];intro h2;exact aF (gP (hw hu) h2)
   rw[sL hn,hn v (List.mem_of_getElem? h)];simp
theorem SQ(hG:HG G)(l:List ai)(x:ID)(hs:dt l)(hl:l.length≤50000000):∀(n i j:Nat),j-i≤n→i≤cg l x→cg l x≤j→j≤l.length → LX G 215213 jw Tryz.f213 iJ (aO Tryz.prog 213 0) ((l,(((l.length:Nat):Int),((i:Int),((j:Int),())))),(((x,()),()),()))=some (((((cg l x:Nat):Int),(decide ((l[cg l x]?).map (·.1)=some x),())):Int×(Bool×Unit)),()):=by
 have rY:=GF l x;have fin:∀(i j:Nat),¬(i<j)→i≤cg l x→cg l x≤j→LX G 215213 jw Tryz.f213 iJ (aO Tryz.prog 213 0) ((l,(((l.length:Nat):Int),((i:Int),((j:Int),())))),(((x,()),()),()))=some (((((cg l x:Nat):Int),(decide ((l[cg l x]?).map (·.1)=some x),())):Int×(Bool×Unit)),()):=fun i j zY h1 h2=>by
  have hi:i=cg l x:=by omega
  subst hi;refine ao Cp ?_;refine ag (decide_eq_false (show ¬(((cg l x:Nat):Int)<(j:Int)) by omega)) ?_;by_cases hc:cg l x<l.length
  ·have hx:l[cg l x]? = some l[cg l x]:=aaV hc;refine af (aY hc) ?_;refine aa (aA hx) ?_;refine aa (Xu hG l[cg l x] x) ?_;refine congrArg (fun b:Bool=>some ((((cg l x:Nat):Int),(b,())),())) ?_;rw[hx];unfold p4;by_cases he:l[cg l x].1=x
   ·simp[he]
   ·simp[he];split<;>simp
  ·refine ag (decide_eq_false (show ¬(((cg l x:Nat):Int)<((l.length:Nat):Int)) by omega)) ?_;refine congrArg (fun b:Bool=>some ((((cg l x:Nat):Int),(b,())),())) ?_;rw[List.getElem?_eq_none (by omega)];simp
 intro n
 induction n with
 |zero=>intro i j zY h1 h2 h3;exact fin i j (by omega) h1 h2
 |succ n ih =>
  intro i j zY h1 h2 h3;by_cases aF:i<j
  case neg=>exact fin i j aF h1 h2
  refine ao Cp ?_;refine af (decide_eq_true (show((i:Int)<(j:Int)) by omega)) ?_;refine ag rfl ?_;have hm:=Le (i:=i) (j:=j) (by omega) (by omega);have hh:(i+j) / 2<l.length:=by omega
  have hx:l[(i+j) / 2]? = some l[(i+j) / 2]:=aaV hh;have oy:=xM (x:=x) hs ((i+j) / 2) _ hx;refine aa (show aT l (IntKind.wrap .i64 (lg .u64 (IntKind.wrap .u64 (IntKind.wrap .i64 ((i:Int)+(j:Int)))) (1:Int)))=some l[(i+j) / 2] by rw[hm];exact aA hx) ?_;refine aa (Xu hG l[(i+j) / 2] x) ?_;by_cases ho:fh l[(i+j) / 2].1 x=true
  ·refine af (decide_eq_true ((kh _ _).2 ho)) ?_;have hc:=oy.1 ho;have hw:IntKind.wrap .i64 (IntKind.wrap .i64 (lg .u64 (IntKind.wrap .u64 (IntKind.wrap .i64 ((i:Int)+(j:Int)))) (1:Int))+1)=(((i+j) / 2+1:Nat):Int):=by rw[hm];exact aD hh (by omega)
   have:=ih ((i+j) / 2+1) j (by omega) (by omega) h2 h3;rw[←hw]at this;exact this
  ·refine ag (decide_eq_false (fun h=>ho ((kh _ _).1 h))) ?_;have hc:¬(i+j) / 2<cg l x:=fun h=>ho (oy.2 h);have:=ih i ((i+j) / 2) (by omega) h1 (by omega) (by omega);rw[←hm]at this;exact this
theorem SR(hG:HG G)(l:List ai)(x:ID)(hs:dt l)(hl:l.length≤50000000) :
  FX G 215213 jw ((l,x,()),())=some (((((cg l x:Nat):Int),(decide ((l[cg l x]?).map (·.1)=some x),())):Int×(Bool×Unit)),()):=by
 refine az (hG _ _ rfl) Sc ?_;exact SQ hG l x hs hl l.length 0 l.length (by omega) (by omega) (GF l x) (ada _)
theorem oS(hG:HG G)(w:ba)(x:ID)(hs:dt w.2.1)(hl:w.2.1.length≤50000000) :
  FX G 182 nj ((x,()),(w,()))=some (((((cg w.2.1 x:Nat):Int),(decide ((w.2.1[cg w.2.1 x]?).map (·.1)=some x),())):Int×(Bool×Unit)),(w,())):=by
 refine az (hG _ _ rfl) abk ?_;exact aa (SR hG w.2.1 x hs hl) rfl
theorem xN{x:ID}:∀{l:List ai},dt l→aX l x=(l[cg l x]?).filter fun v=>decide (v.1=x)
 |[],_=>rfl
 |w::r,hs=>by
  have hw:∀{u:ai},u∈r→fh w.1 u.1=true:=fun {u} hu=>adF hs hu;have hr:dt r:=hs.of_cons;by_cases aF:fh w.1 x=true
  ·have e:cg (w::r) x=cg r x+1:=by unfold cg;rw[List.countP_cons_of_pos (by simpa using aF)]
   have bw:¬w.1=x:=fun e=>by rw[e,cm]at aF;cases aF
   rw[e];simp only[aX,List.find?_cons,bw,decide_false,List.getElem?_cons_succ];exact xN hr
  ·have hn:∀u∈w::r,fh u.1 x=false:=fun u hu=>by
    rcases aa1.1 hu with rfl|hu
    ·simpa using aF
    ·rw[Bool.eq_false_iff];intro h2;exact aF (gP (hw hu) h2)
   rw[sL hn];by_cases he:w.1=x
   ·simp[aX,List.find?_cons,he,Option.filter]
   ·have J5:fh x w.1=true:=lE (by simpa using aF) he;have:aX r x=none:=by
     unfold aX;rw[List.find?_eq_none];intro u hu h2;have h3:u.1=x:=by simpa using h2
     have h4:=hw hu;rw[h3]at h4;have:=lD h4;rw[J5]at this;cases this
    rw[show aX (w::r) x=aX r x by simp only[aX,List.find?_cons,he,decide_false],this];simp[he,Option.filter]
theorem dv{l:List ai}{x:ID}(hs:dt l):decide ((l[cg l x]?).map (·.1)=some x)=(aX l x).isSome:=by
 rw[xN hs]
 cases h:l[cg l x]? with
 |none=>simp
 |some v=>by_cases he:v.1=x<;>simp[he,Option.filter]
theorem I5(v:ai):∀{l:List ai},dt l→aX l v.1=none→dC v l=l.take (cg l v.1)++(v::l.drop (cg l v.1))
 |[],_,_=>rfl
 |w::r,hs,hf=>by
  have hw:∀{u:ai},u∈r→fh w.1 u.1=true:=fun {u} hu=>adF hs hu;have hr:dt r:=hs.of_cons;have bw:¬w.1=v.1:=fun e=>by simp[aX,e]at hf
  have DL:aX r v.1=none:=by simpa[aX,List.find?_cons,bw] using hf
  by_cases aF:fh w.1 v.1=true
  ·have e:cg (w::r) v.1=cg r v.1+1:=by unfold cg;rw[List.countP_cons_of_pos (by simpa using aF)]
   have WK:fh v.1 w.1=false:=lD aF;rw[e,dC,if_neg (by simp[WK]),I5 v hr DL];rfl
  ·have hn:∀u∈w::r,fh u.1 v.1=false:=fun u hu=>by
    rcases aa1.1 hu with rfl|hu
    ·simpa using aF
    ·rw[Bool.eq_false_iff];intro h2;exact aF (gP (hw hu) h2)
   have J5:fh v.1 w.1=true:=lE (by simpa using aF) bw;rw[sL hn,dC,if_pos J5];rfl
theorem xO{x:ID}:∀{l:List ai},dt l→(aX l x).isSome=true→dd l x=l.take (cg l x)++l.drop (cg l x+1)
 |[],_,hf=>by simp[aX]at hf
 |w::r,hs,hf=>by
  have hw:∀{u:ai},u∈r→fh w.1 u.1=true:=fun {u} hu=>adF hs hu;have hr:dt r:=hs.of_cons;by_cases he:w.1=x
  ·have hn:∀u∈w::r,fh u.1 x=false:=fun u hu=>by
    rcases aa1.1 hu with rfl|hu
    ·rw[he,cm]
    ·rw[←he];exact lD (hw hu)
   have eZ:dd r x=r:=by unfold dd;rw[List.filter_eq_self];intro u hu;have h4:=hw hu;simp;intro e2;rw[he,e2,cm]at h4;cases h4
   rw[sL hn];unfold dd;rw[List.filter_cons_of_neg (by simp[he])];exact eZ
  ·have DL:(aX r x).isSome=true:=by simpa[aX,List.find?_cons,he] using hf
   have aF:fh w.1 x=true:=by
    obtain⟨u,hu⟩:=adf.1 DL;have h1:=ado hu;have h2:u.1=x:=by simpa using aeF hu
    rw[←h2];exact hw h1
   have e:cg (w::r) x=cg r x+1:=by unfold cg;rw[List.countP_cons_of_pos (by simpa using aF)]
   rw[e];have:=xO hr DL;simp[dd,List.filter_cons,he]at this ⊢;exact this
theorem xQ(v:ai):∀{l:List ai},dt l→aX l v.1=none→dt (dC v l)
 |[],_,_=>List.pairwise_singleton _ _
 |w::r,hs,hf=>by
  have hw:∀{u:ai},u∈r→fh w.1 u.1=true:=fun {u} hu=>adF hs hu;have hr:dt r:=hs.of_cons;have bw:¬w.1=v.1:=fun e=>by simp[aX,e]at hf
  have DL:aX r v.1=none:=by simpa[aX,List.find?_cons,bw] using hf
  unfold dC
  split
  ·rename_i h;refine List.Pairwise.cons (fun u hu=>?_) hs;rcases aa1.1 hu with rfl|hu
   ·exact h
   ·exact gP h (hw hu)
  ·rename_i h;have aF:fh w.1 v.1=true:=lE (by simpa using h) (fun e=>bw e.symm);refine List.Pairwise.cons (fun u hu=>?_) (xQ v hr DL);rcases oO.1 hu with rfl|hu
   ·exact aF
   ·exact hw hu
theorem uC{l:List ai}{x:ID}(hs:dt l):dt (dd l x):=hs.filter _
theorem dp{l:List ah}{x:ID}{v:ah}(hs:cc l)(h:bg l x=some v):l[bJ l x]? = some v:=by
 have kL:=sK (x:=x) hs;rw[h]at kL
 cases hg:l[bJ l x]? with
 |none=>rw[hg]at kL;simp[Option.filter]at kL
 |some u =>
  rw[hg]at kL;simp only[Option.filter]at kL
  split at kL
  ·exact kL.symm
  ·cases kL
theorem kM{l:List ah}{x:ID}{v:ah}(h:bg l x=some v):v.1=x:=by simpa using aeF h
theorem gQ{l:List ah}{x:ID}{v:ah}(h:bg l x=some v):v∈l:=ado h
theorem j0{l:List ah}{x:ID}{k:Nat}{u:ah}(hs:cc l)(hk:l[k]? = some u)(hu:u.1=x):k=bJ l x:=by
 have h1:¬k<bJ l x:=fun h=>by have:=(xK hs k u hk).2 h;rw[hu,cm]at this;cases this
 have hf:(bg l x).isSome=true:=by unfold bg;rw[List.find?_isSome];exact⟨u,ac7 hk,by simp[hu]⟩
 obtain⟨v,hv⟩:=adf.1 hf;have hg:=dp hs hv;by_cases h2:bJ l x<k
 ·obtain⟨h3,h4⟩:=aaW.1 hg;obtain⟨h5,h6⟩:=aaW.1 hk;have:=aeS.1 hs _ _ h3 h5 h2;rw[h4,h6,kM hv,hu,cm]at this;cases this
 ·omega
theorem I6{l:List ah}{x:ID}{v:ah}(hs:cc l)(h:bg l x=some v)(g f:ah→ah)(h1:∀w,w.1=x→g w=f w)(h2:∀w,w.1≠x→g w=w):l.map g=l.set (bJ l x) (f v):=by
 have hg:=dp hs h;apply aeO;intro k;rw[List.getElem?_map,List.getElem?_set];by_cases hk:bJ l x=k
 ·subst hk;rw[if_pos rfl,if_pos (List.getElem?_eq_some_iff.1 hg).1,hg];simp[h1 v (kM h)]
 ·rw[if_neg hk]
  cases hu:l[k]? with
  |none=>rfl
  |some u =>have:u.1≠x:=fun e=>hk (j0 hs hu e).symm;simp[h2 u this]
theorem mC{l:List ai}{x:ID}{v:ai}(hs:dt l)(h:aX l x=some v):l[cg l x]? = some v:=by
 have kL:=xN (x:=x) hs;rw[h]at kL
 cases hg:l[cg l x]? with
 |none=>rw[hg]at kL;simp[Option.filter]at kL
 |some u =>
  rw[hg]at kL;simp only[Option.filter]at kL
  split at kL
  ·exact kL.symm
  ·cases kL
theorem rI{l:List ai}{x:ID}{v:ai}(h:aX l x=some v):v.1=x:=by simpa using aeF h
theorem EN{l:List ai}{x:ID}{v:ai}(h:aX l x=some v):v∈l:=ado h
theorem OR{l:List ai}{x:ID}{k:Nat}{u:ai}(hs:dt l)(hk:l[k]? = some u)(hu:u.1=x):k=cg l x:=by
 have h1:¬k<cg l x:=fun h=>by have:=(xM hs k u hk).2 h;rw[hu,cm]at this;cases this
 have hf:(aX l x).isSome=true:=by unfold aX;rw[List.find?_isSome];exact⟨u,ac7 hk,by simp[hu]⟩
 obtain⟨v,hv⟩:=adf.1 hf;have hg:=mC hs hv;by_cases h2:cg l x<k
 ·obtain⟨h3,h4⟩:=aaW.1 hg;obtain⟨h5,h6⟩:=aaW.1 hk;have:=aeS.1 hs _ _ h3 h5 h2;rw[h4,h6,rI hv,hu,cm]at this;cases this
 ·omega
theorem SS{l:List ai}{x:ID}{v:ai}(hs:dt l)(h:aX l x=some v)(g f:ai→ai)(h1:∀w,w.1=x→g w=f w)(h2:∀w,w.1≠x→g w=w):l.map g=l.set (cg l x) (f v):=by
 have hg:=mC hs h;apply aeO;intro k;rw[List.getElem?_map,List.getElem?_set];by_cases hk:cg l x=k
 ·subst hk;rw[if_pos rfl,if_pos (List.getElem?_eq_some_iff.1 hg).1,hg];simp[h1 v (rI h)]
 ·rw[if_neg hk]
  cases hu:l[k]? with
  |none=>rfl
  |some u =>have:u.1≠x:=fun e=>hk (OR hs hu e).symm;simp[h2 u this]
theorem dt.map{l:List ai}(h:dt l){f:ai→ai}(hf:∀v,(f v).1=v.1):dt (l.map f):=by unfold dt at h ⊢;rw[List.pairwise_map];exact h.imp fun {a b} mJ=>by rw[hf,hf];exact mJ
theorem tF{α R:Type}{o:Option α}{a r:Option R}{f:α→Option R}{p:α}(h:o=some p)(k:f p=r):qK o a f=r:=by subst h;exact k
theorem MR{α R:Type}{o:Option α}{a r:Option R}{f:α→Option R}(h:o=none)(k:a=r):qK o a f=r:=by subst h;exact k
def tG(w:ba)(x:ID):Int×ba :=if(aX w.2.1 x).isSome=true then(12,w) else if 40≤w.2.1.length then(3,w) else(0,(w.1,(dC (x,(e0,0)) w.2.1,w.2.2)))
theorem Xv(hG:HG G)(w:ba)(x:ID)(hs:dt w.2.1)(hl:w.2.1.length≤50000000):FX G 178 yW ((x,()),(w,()))=some (((tG w x).1,()),((tG w x).2,())):=by
 refine az (hG _ _ rfl) abg ?_;refine aa (oS hG w x hs hl) ?_;unfold tG
 cases hf:(aX w.2.1 x).isSome
 ·rw[if_neg (by simp)];refine ag ((dv hs).trans hf) ?_;by_cases h2:40≤w.2.1.length
  ·rw[if_pos h2];exact af (decide_eq_true (show((w.2.1.length:Nat):Int)≥40 by omega)) rfl
  ·rw[if_neg h2];refine ag (decide_eq_false (show ¬((w.2.1.length:Nat):Int)≥40 by omega)) ?_;have hc:=GF w.2.1 x;have lT:qL w.2.1 ((cg w.2.1 x:Nat):Int) [((x,(e0,0)):ai)]=true:=by unfold qL;rw[decide_eq_true (show(0:Int)≤((cg w.2.1 x:Nat):Int) by omega),decide_eq_true (show((cg w.2.1 x:Nat):Int)≤((w.2.1.length:Nat):Int) by omega)];rw[fits (by simp;omega)];rfl
   refine af lT ?_;have e:gk w.2.1 ((cg w.2.1 x:Nat):Int) [((x,(e0,0)):ai)]=dC (x,(e0,0)) w.2.1:=by rw[I5 (x,(e0,0)) hs (by simpa using hf)];unfold gk;simp
   exact congrArg (fun l:List ai=>some (((0:Int),()),((w.1,(l,w.2.2)),()))) e
 ·rw[if_pos rfl];exact af ((dv hs).trans hf) rfl
def CI(w:ba)(o:aR):Option (Fin 2×Nat) :=if fF o=true then(if(aX w.2.1 (aH o)).isSome=true then some (⟨1,by decide⟩,cg w.2.1 (aH o)) else none)
 else(if(bg w.1 (aH o)).isSome=true then some (⟨0,by decide⟩,bJ w.1 (aH o)) else none)
theorem ac3(hG:HG G)(w:ba)(o:aR)(hv:cc w.1)(he:dt w.2.1)(PO:w.1.length≤50000000)(hle:w.2.1.length≤50000000) :
  FX G 189 Iq ((o,()),(w,()))=some ((CI w o,(CI w o,())),(w,())):=by
 refine az (hG _ _ rfl) abt ?_;unfold CI;by_cases ho:fF o=true
 ·rw[if_pos ho];refine af ho ?_;refine aa (oS hG w (aH o) he hle) ?_
  cases hf:aX w.2.1 (aH o) with
  |none =>refine ag ((dv he).trans (by rw[hf];rfl)) ?_;rfl
  |some e =>refine af ((dv he).trans (by rw[hf];rfl)) ?_;have aF:=(aaW.1 (mC he hf)).1;refine af (c9 (fj _) (aY aF)) ?_;exact af (c9 (fj _) (aY aF)) rfl
 ·rw[if_neg ho];refine ag (by simpa using ho) ?_;refine aa (qx hG w (aH o) hv PO) ?_
  cases hf:bg w.1 (aH o) with
  |none =>refine ag ((fS hv).trans (by rw[hf];rfl)) ?_;rfl
  |some e =>refine af ((fS hv).trans (by rw[hf];rfl)) ?_;have aF:=(aaW.1 (dp hv hf)).1;refine af (c9 (fj _) (aY aF)) ?_;exact af (c9 (fj _) (aY aF)) rfl
def uD(w:ba)(o:aR):Int×ba :=if fF o=true then(if(aX w.2.1 (aH o)).isSome=true then(0,(w.1,(w.2.1.map (jZ o),w.2.2))) else(13,w))
 else(if(bg w.1 (aH o)).isSome=true then(0,(w.1.map (jh o),w.2)) else(13,w))
theorem ain(hG:HG G)(w:ba)(o:aR)(hv:cc w.1)(he:dt w.2.1)(PO:w.1.length≤50000000)(hle:w.2.1.length≤50000000) :
  FX G 158 Rh ((o,()),(w,()))=some (((uD w o).1,()),((uD w o).2,())):=by
 refine az (hG _ _ rfl) ahk ?_;refine aa (ac3 hG w o hv he PO hle) ?_;by_cases ho:fF o=true
 ·cases hf:aX w.2.1 (aH o) with
  |none =>
   have e1:CI w o=none:=by unfold CI;rw[if_pos ho,hf];rfl
   have e2:uD w o=(13,w):=by unfold uD;rw[if_pos ho,hf];rfl
   rw[e2];exact MR e1 (MR e1 rfl)
  |some e =>
   have e1:CI w o=some (⟨1,by decide⟩,cg w.2.1 (aH o)):=by unfold CI;rw[if_pos ho,hf];rfl
   have hm:∀f:ai→ai,(∀u,u.1=aH o→jZ o u=f u)→w.2.1.map (jZ o)=w.2.1.set (cg w.2.1 (aH o)) (f e):=fun f hf1 =>SS he hf (jZ o) f hf1 (fun u hu=>by unfold jZ;rw[if_neg (fun k=>hu k.2)]);have e2:uD w o=(0,(w.1,(w.2.1.map (jZ o),w.2.2))):=by unfold uD;rw[if_pos ho,hf];rfl
   rw[e2];refine tF e1 (ag rfl (af rfl (tF e1 (ag rfl (af rfl ?_)))));by_cases h7:o.1=7
   ·refine af (G7 h7) (aa (mC he hf) ?_);have:=hm (fun u=>(u.1,(k9 o,u.2.2))) (fun u hu=>by unfold jZ;rw[if_pos ⟨ho,hu⟩,if_pos h7]);exact congrArg (fun l:List ai=>some (((0:Int),()),((w.1,(l,w.2.2)),()))) this.symm
   ·refine ag (zn h7) (aa (mC he hf) ?_);have:=hm (fun u=>(u.1,(u.2.1,oN o))) (fun u hu=>by unfold jZ;rw[if_pos ⟨ho,hu⟩,if_neg h7]);exact congrArg (fun l:List ai=>some (((0:Int),()),((w.1,(l,w.2.2)),()))) this.symm
 ·have nK:fF o=false:=by simpa using ho
  cases hf:bg w.1 (aH o) with
  |none =>
   have e1:CI w o=none:=by unfold CI;rw[if_neg ho,hf];rfl
   have e2:uD w o=(13,w):=by unfold uD;rw[if_neg ho,hf];rfl
   rw[e2];exact MR e1 (MR e1 rfl)
  |some e =>
   have e1:CI w o=some (⟨0,by decide⟩,bJ w.1 (aH o)):=by unfold CI;rw[if_neg ho,hf];rfl
   have hm:∀f:ah→ah,(∀u,u.1=aH o→jh o u=f u)→w.1.map (jh o)=w.1.set (bJ w.1 (aH o)) (f e):=fun f hf1 =>I6 hv hf (jh o) f hf1 (fun u hu=>by unfold jh;rw[if_neg (fun k=>hu k.2)]);have e2:uD w o=(0,(w.1.map (jh o),w.2)):=by unfold uD;rw[if_neg ho,hf];rfl
   rw[e2];refine tF e1 (af rfl (tF e1 (af rfl ?_)));by_cases h7:o.1=7
   ·refine af (G7 h7) (aa (dp hv hf) ?_);have:=hm (fun u=>(u.1,(u.2.1,(k9 o,u.2.2.2)))) (fun u hu=>by unfold jh;rw[if_pos ⟨nK,hu⟩,if_pos h7]);exact congrArg (fun l:List ah=>some (((0:Int),()),((l,w.2),()))) this.symm
   ·refine ag (zn h7) (aa (dp hv hf) ?_);have:=hm (fun u=>(u.1,(u.2.1,(u.2.2.1,oN o)))) (fun u hu=>by unfold jh;rw[if_pos ⟨nK,hu⟩,if_neg h7]);exact congrArg (fun l:List ah=>some (((0:Int),()),((l,w.2),()))) this.symm
theorem Xw(hG:HG G)(a b:ae):FX G 195 Ey ((a,b,()),())=some ((mu a b,()),()):=by
 refine az (hG _ _ rfl) abF ?_;refine aa (SJ hG a.1 b.1) ?_;refine aa (SI hG a.2 b.2) ?_;refine aa (Xs (hG _ _ rfl) (p4 a.1 b.1) (Ld a.2 b.2)) ?_;refine congrArg (fun n:Int=>some ((n,()),())) ?_;obtain⟨a1,a2⟩:=a;obtain⟨b1,b2⟩:=b;unfold mu p4 Ld kG;simp only[Prod.mk.injEq];by_cases h:a1=b1
 ·subst h;simp only[if_true,cm,Bool.false_or,true_and,decide_true,Bool.true_and];by_cases h1:a2<b2
  ·have:¬a2=b2:=by omega
   simp[h1,this]
  ·by_cases h2:a2>b2
   ·have:¬a2=b2:=by omega
    simp[h1,h2,this]
   ·have:a2=b2:=by omega
    simp[this]
 ·simp only[h,if_false,false_and,decide_false,Bool.false_and,Bool.or_false]
  cases fh a1 b1<;>simp
theorem ac4(hG:G 168 mi=none)(row:List ae)(d:ae)(hl:row.length≤1073741824):∀(n i:Nat),i+n=row.length → LX G 168 mi Tryz.f168 vF (aO Tryz.prog 168 0) ((row,(((row.length:Nat):Int),((i:Int),()))),(((d,()),()),()))=some ((idx d (row.drop i) i,()),()):=by
 intro n
 induction n with
 |zero =>intro i hi;refine ao Mo ?_;refine ag (decide_eq_false (show ¬((i:Int)<((row.length:Nat):Int)) by omega)) ?_;rw[List.drop_eq_nil_of_le (by omega)];rfl
 |succ n ih =>
  intro i hi;have aF:i<row.length:=by omega
  refine ao Mo ?_;refine af (aY aF) (aa (aA (aaV aF)) ?_);rw[List.drop_eq_getElem_cons aF,idx];by_cases he:row[i]=d
  ·rw[if_pos he];exact af ((jF d row[i]).trans (decide_eq_true he.symm)) rfl
  ·rw[if_neg he];refine ag ((jF d row[i]).trans (decide_eq_false fun h=>he h.symm)) ?_;rw[wI,aD aF hl];exact ih (i+1) (by omega)
theorem CJ(hG:G 168 mi=none)(row:List ae)(d:ae)(hl:row.length≤1073741824):FX G 168 mi ((row,d,()),())=some ((idx d row 0,()),()):=by refine az hG abz ?_;have:=ac4 hG row d hl row.length 0 (by omega);rw[List.drop_zero]at this;exact this
theorem EO(hG:HG G)(row:List ae)(d:ae)(hl:row.length≤1073741824):FX G 166 vx ((row,d,()),())=some ((decide (d∈row),()),()):=by
 refine az (hG _ _ rfl) aby ?_;refine aa (CJ (hG _ _ rfl) row d hl) ?_;refine congrArg (fun b:Bool=>some ((b,()),())) ?_;rw[Bool.eq_iff_iff];simp only[decide_eq_true_eq];have:=eV (d:=d) (row:=row);constructor
 ·intro h;exact Classical.byContradiction fun k=>by have:=this.2 k;omega
 ·intro h;have h2:¬idx d row 0<0:=fun k=>this.1 k h;omega
theorem dS(a:ae):kG a a=false:=by unfold kG;simp[cm]
theorem fT{a b c:ae}(h:kG a b=true)(k:kG b c=true):kG a c=true:=by obtain⟨⟨a1,a2⟩,a3⟩:=a;obtain⟨⟨b1,b2⟩,b3⟩:=b;obtain⟨⟨c1,c2⟩,c3⟩:=c;simp[kG,fh]at *;omega
theorem xR{a b:ae}(h:kG a b=false)(k:a≠b):kG b a=true:=by obtain⟨⟨a1,a2⟩,a3⟩:=a;obtain⟨⟨b1,b2⟩,b3⟩:=b;simp[kG,fh]at *;omega
theorem GG{a b c:ae}(h:kG a b=true)(k:kG c b=false):kG a c=true:=by obtain⟨⟨a1,a2⟩,a3⟩:=a;obtain⟨⟨b1,b2⟩,b3⟩:=b;obtain⟨⟨c1,c2⟩,c3⟩:=c;simp[kG,fh]at *;omega
theorem sM(a b:ae):mu a b<0↔kG a b=true:=by
 unfold mu;by_cases h:a=b
 ·subst h;simp[dS]
 ·rw[if_neg h];cases kG a b<;>simp
theorem qd{row:List ae}{k:Nat}(hk:k<row.length):row.getD k zD=row[k]:=by simp[List.getD,hk]
theorem xS(row:List ae):∀(r:List ae) (i k:Nat),row.drop i=r→k<row.length→k≤i→(∀j,j<i→(hj:j<row.length)→kG row[j] (row.getD k zD)=false)→(∀j,j<k→(hj:j<row.length)→kG (row.getD k zD) row[j]=true) →(∀j,(hj:j<row.length)→kG row[j] (row.getD (fM row r i k) zD)=false)∧(∀j,j<fM row r i k→(hj:j<row.length)→kG (row.getD (fM row r i k) zD) row[j]=true)
 |[],i,k,hr,hk,hki,h1,h2=>by
  have hi:row.length≤i:=by have:=congrArg List.length hr;simp at this;omega
  exact⟨fun j hj=>h1 j (by omega) hj,h2⟩
 |x::r,i,k,hr,hk,hki,h1,h2=>by
  have hi:i<row.length:=by have:=congrArg List.length hr;simp at this;omega
  have hx:row[i]=x:=by have:=adK hi;rw[hr]at this;injection this with a b;exact a.symm
  have rW:row.drop (i+1)=r:=by have:=adK hi;rw[hr]at this;injection this with a b;exact b.symm
  unfold fM
  split
  ·rename_i aF;rw[sM]at aF;refine xS row r (i+1) i rW hi (by omega) (fun j hj J0=>?_) (fun j hj J0=>?_)
   ·rw[qd hi,hx];rcases Nat.lt_succ_iff_lt_or_eq.1 hj with hj|rfl
    ·cases hc:kG row[j] x with
     |false=>rfl
     |true=>have:=fT hc aF;rw[h1 j hj J0]at this;cases this
    ·rw[hx,dS]
   ·rw[qd hi,hx];exact GG aF (h1 j (by omega) J0)
  ·rename_i aF;rw[sM]at aF;refine xS row r (i+1) k rW hk (by omega) (fun j hj J0=>?_) h2;rcases Nat.lt_succ_iff_lt_or_eq.1 hj with hj|rfl
   ·exact h1 j hj J0
   ·rw[hx];simpa using aF
theorem uE{row:List ae}(h:0<row.length):(∀j,(hj:j<row.length)→kG row[j] (row.getD (fM row row 0 0) zD)=false)∧(∀j,j<fM row row 0 0→(hj:j<row.length)→kG (row.getD (fM row row 0 0) zD) row[j]=true) :=xS row row 0 0 rfl h (ada _) (fun j hj=>by omega) (fun j hj=>by omega)
theorem Lf{d:ae}:∀{row:List ae} {k:Nat} {i:Int},row[k]? = some d→(∀j,j<k→row[j]?≠some d)→idx d row i=i+k
 |[],k,i,h,_=>by simp at h
 |e::r,0,i,h,_=>by simp at h;subst h;rw[idx,if_pos rfl];simp
 |e::r,k+1,i,h,hn=>by have h0:=hn 0 (by omega);rw[idx,if_neg (fun e=>h0 (by simp[e]))];rw[Lf (k:=k) (by simpa using h) (fun j hj=>by have:=hn (j+1) (by omega);simpa using this)];simp;omega
theorem SU{row:List ae}(h:0<row.length):idx (row.getD (fM row row 0 0) zD) row 0=((fM row row 0 0:Nat):Int):=by have hm:=p6 row row 0 0 h (by omega);have:=Lf (d:=row.getD (fM row row 0 0) zD) (row:=row) (k:=fM row row 0 0) (i:=0) (by rw[qd hm];exact aaV hm) (fun j hj he=>by obtain⟨h1,h2⟩:=aaW.1 he;have:=(uE h).2 j hj h1;rw[h2,dS]at this;cases this);omega
theorem SV(hG:HG G)(row:List ae)(h:0<row.length)(hl:row.length≤100000000):FX G 196194 kB ((row,()),())=some ((row.getD (fM row row 0 0) zD,()),()):=by
 refine az (hG _ _ rfl) Sd ?_;refine ag (decide_eq_false (show ¬((row.length:Nat):Int)<1 by omega)) ?_;refine aa (aA (i:=0) (aaV h)) ?_;have loop:∀(n i k:Nat),i+n=row.length→k<row.length→LX G 196194 kB Tryz.f194 jW (aO Tryz.prog 194 0) ((row,((i:Int),())),(((zD,()),(((row.getD k zD),()),())),()))=some ((row.getD (fM row (row.drop i) i k) zD,()),()):=by
  intro n
  induction n with
  |zero =>intro i k hi hk;refine ao Cq ?_;refine ag (decide_eq_false (show ¬((i:Int)<((row.length:Nat):Int)) by omega)) ?_;rw[List.drop_eq_nil_of_le (by omega)];rfl
  |succ n ih =>
   intro i k hi hk;have aF:i<row.length:=by omega
   have hx:row[i]? = some row[i]:=aaV aF;refine ao Cq ?_;refine af (aY aF) (aa (aA hx) ?_);refine aa (Xw hG row[i] (row.getD k zD)) ?_;rw[List.drop_eq_getElem_cons aF,fM];by_cases ho:mu row[i] (row.getD k zD)<0
   ·rw[if_pos ho];refine af (decide_eq_true ho) (aa (aA hx) ?_);have:=ih (i+1) i (by omega) aF;rw[←aD aF (by omega),qd aF]at this;exact this
   ·rw[if_neg ho];refine ag (decide_eq_false ho) ?_;have:=ih (i+1) k (by omega) hk;rw[←aD aF (by omega)]at this;exact this
 have h1:=loop (row.length-1) 1 0 (by omega) h;have h2:fM row row 0 0=fM row (row.drop 1) 1 0:=by
  cases row with
  |nil=>simp at h
  |cons x r =>
   rw[List.drop_one,List.tail_cons]
   conv=>lhs;rw[fM]
   rw[if_neg];show ¬mu x x<0;unfold mu;simp
 rw[h2];have h3:row.getD 0 zD=row[0]:=qd h;rw[h3]at h1;exact h1
def total(ls:List (List ae)):Nat:=(ls.map List.length).sum
theorem CL(a:List ae)(r:List (List ae)):total (a::r)=a.length+total r:=by unfold total;rw[List.map_cons,List.sum_cons]
theorem Xx(hG:HG G)(ls:List (List ae))(hn:ls.length≤1000)(hl:total ls≤500000000):FX G 196 oH ((ls,()),())=some ((ls.flatten,()),()):=by
 refine az (hG _ _ rfl) abG ?_;have ac5:∀(n i:Nat) (out:List ae),i+n=ls.length→out.length+total (ls.drop i)≤500000000→LX G 196 oH Tryz.f196 vH (aO Tryz.prog 196 1) ((ls,(((ls.length:Nat):Int),((i:Int),()))),((),(out,())))=some ((out++(ls.drop i).flatten,()),()):=by
  intro n
  induction n with
  |zero =>intro i out hi ho;refine ao Mq ?_;refine ag (decide_eq_false (show ¬((i:Int)<((ls.length:Nat):Int)) by omega)) ?_;rw[List.drop_eq_nil_of_le (by omega),List.flatten_nil,List.append_nil];rfl
  |succ n ih =>
   intro i out hi ho;have aF:i<ls.length:=by omega
   rw[List.drop_eq_getElem_cons aF]at ho ⊢;have nK:out.length+(ls[i].length+total (ls.drop (i+1)))≤500000000:=by have:total (ls[i]::ls.drop (i+1))=ls[i].length+total (ls.drop (i+1)):=CL _ _;omega
   refine ao Mq ?_;refine af (aY aF) (aa (aA (aaV aF)) ?_);refine af (fits (show out.length+ls[i].length≤1073741824 by omega)) ?_;have:=ih (i+1) (out++ls[i]) (by omega) (by rw[List.length_append];omega);rw[List.flatten_cons,←List.append_assoc];rw[←aD aF (by omega)]at this;exact this
 have ac6:∀(n i m:Nat),i+n=ls.length→m+total (ls.drop i)=total ls→LX G 196 oH Tryz.f196 vG (aO Tryz.prog 196 0) ((ls,((m:Int),(ls,(((ls.length:Nat):Int),((i:Int),()))))),((),()))=some ((ls.flatten,()),()):=by
  intro n
  induction n with
  |zero =>
   intro i m hi hm;refine ao Mp ?_;refine ag (decide_eq_false (show ¬((i:Int)<((ls.length:Nat):Int)) by omega)) ?_;have hg:qM (m:Int)=true:=by unfold qM;rw[decide_eq_true (show(0:Int)≤(m:Int) by omega)];rw[decide_eq_true (show(m:Int)≤fk by unfold fk;omega)];rfl
   refine af hg ?_;have:=ac5 ls.length 0 [] (by omega) (by rw[List.drop_zero];simpa using hl);rw[List.drop_zero,List.nil_append]at this;exact this
  |succ n ih =>
   intro i m hi hm;have aF:i<ls.length:=by omega
   have US:m+ls[i].length+total (ls.drop (i+1))=total ls:=by rw[List.drop_eq_getElem_cons aF]at hm;have:total (ls[i]::ls.drop (i+1))=ls[i].length+total (ls.drop (i+1)):=CL _ _;omega
   refine ao Mp ?_;refine af (aY aF) (aa (aA (aaV aF)) ?_);have hw:IntKind.wrap .i64 ((m:Int)+((ls[i].length:Nat):Int))=((m+ls[i].length:Nat):Int):=by rw[wrap_small (by omega) (by omega)];rfl
   refine ag (decide_eq_false (show ¬IntKind.wrap .i64 ((m:Int)+((ls[i].length:Nat):Int))<0 by rw[hw];omega)) ?_;have:=ih (i+1) (m+ls[i].length) (by omega) US;rw[←aD aF (by omega),←hw]at this;exact this
 exact ac6 ls.length 0 0 (by omega) (by rw[List.drop_zero];omega)
theorem Aw{α:Type}(xs:List α){k:Nat}(hk:k≤xs.length):cut xs (k:Int) ((xs.length:Nat):Int)=xs.drop k:=by unfold cut;rw[Int.toNat_natCast,Int.toNat_natCast,List.take_of_length_le (Nat.le_refl _)]
theorem sN{α:Type}(xs:List α)(k:Nat):cut xs 0 (k:Int)=xs.take k:=by unfold cut;rw[Int.toNat_natCast];rfl
theorem GH{n k:Nat}(h:k≤n):bp n (k:Int) ((n:Nat):Int)=true:=by unfold bp;simp;omega
theorem wc{n k:Nat}(h:k≤n):bp n 0 (k:Int)=true:=by unfold bp;simp;omega
theorem EP(hG:HG G)(row:List ae)(hl:row.length≤100000000):FX G 169 rp ((row,()),())=some ((cx row,()),()):=by
 refine az (hG _ _ rfl) abr ?_;by_cases h0:row.length=0
 ·refine af (show(((row.length:Nat):Int)==0)=true by simp[h0]) ?_;have:row=[]:=by simpa using h0
  subst this;rfl
 refine ag (show(((row.length:Nat):Int)==0)=false by rw[beq_eq_false_iff_ne];omega) ?_;have hp:0<row.length:=by omega
 have hm:=p6 row row 0 0 hp (by omega);refine aa (SV hG row hp hl) ?_;refine aa (CJ (hG _ _ rfl) row (row.getD (fM row row 0 0) zD) (by omega)) ?_;rw[SU hp];refine af (GH (n:=row.length) (k:=fM row row 0 0) (by omega)) (af (wc (n:=row.length) (k:=fM row row 0 0) (by omega)) ?_);have key:∀a b:List ae,a=row.drop (fM row row 0 0)→b=row.take (fM row row 0 0)→((FX G 196 oH (([a,b],()),())).bind fun(y3:(((List ae)×Unit)×Unit))=>some (y3.1,()))=some ((cx row,()),()):=by intro a b ha hb;subst ha hb;refine aa (Xx hG [row.drop (fM row row 0 0),row.take (fM row row 0 0)] (by simp) (by unfold total;simp;omega)) ?_;unfold cx Dy;simp only[List.flatten_cons,List.flatten_nil,List.append_nil]
 exact key _ _ (Aw row (by omega)) (sN row _)
theorem SW(hG:HG G)(ls:List (List ae))(hn:ls.length≤1000)(hl:total ls≤100000000):FX G 170 oG ((ls,()),())=some ((cx ls.flatten,()),()):=by
 refine az (hG _ _ rfl) abA ?_;refine aa (Xx hG ls hn (by omega)) ?_;have hlen:ls.flatten.length=total ls:=by unfold total;exact List.length_flatten
 exact aa (EP hG ls.flatten (by omega)) rfl
theorem SX(hG:HG G)(row:List ae)(after d:ae)(hl:row.length≤50000000):FX G 181 BN ((row,after,d,()),())=some ((mw row after d,()),()):=by
  refine az (hG _ _ rfl) abi ?_;refine aa (EO hG row d (by omega)) ?_;unfold mw;by_cases hd:d∈row
  · rw[if_pos hd]
    exact af (decide_eq_true hd) (aa (EP hG row (by omega)) rfl)
  rw[if_neg hd];refine ag (decide_eq_false hd) ?_;refine aa (CJ (hG _ _ rfl) row after (by omega)) ?_;have hr:idx after row 0<((row.length:Nat):Int)∨row.length=0∧idx after row 0 = -1:=by
    rcases oL after row 0 (by omega) with⟨h,_⟩|⟨k,h,hk,_⟩
    · by_cases h0:row.length=0
      · exact .inr ⟨h0,h⟩
      · exact .inl (by omega)
    · have:=(aaW.1 hk).1
      exact .inl (by omega)
  have hm:max (idx after row 0) (0:Int)=max 0 (idx after row 0):=by omega
  have hw:IntKind.wrap .i64 (max (idx after row 0) (0:Int)+1)=(((max 0 (idx after row 0)).toNat+1:Nat):Int):=by rw[wrap_small (by omega) (by omega)];omega
  obtain⟨k,hk,o5,PQ⟩:∃k:Nat,min (IntKind.wrap .i64 (max (idx after row 0) (0:Int)+1)) ((row.length:Nat):Int)=(k:Int)∧k≤row.length∧row.take k++(d::row.drop k)=row.take ((max 0 (idx after row 0)).toNat+1)++(d::row.drop ((max 0 (idx after row 0)).toNat+1)):=by
    rw[hw];by_cases h0:row.length=0
    · have:row=[]:=by simpa using h0
      subst this;exact⟨0,by simp;omega,by simp,by simp⟩
    · exact⟨(max 0 (idx after row 0)).toNat+1,by omega,by omega,rfl⟩
  have wG:(min (IntKind.wrap .i64 ((max (idx after row 0) (0:Int):Int)+(1:Int))) (((List.length row):Nat):Int):Int)=(k:Int):=hk;show cond (bp (List.length row) (0:Int) (min (IntKind.wrap .i64 ((max (idx after row 0) (0:Int):Int)+(1:Int))) (((List.length row):Nat):Int):Int)) (cond (bp (List.length row) (min (IntKind.wrap .i64 ((max (idx after row 0) (0:Int):Int)+(1:Int))) (((List.length row):Nat):Int):Int) (((List.length row):Nat):Int)) ((FX G 170 oG ((((cut row (0:Int) (min (IntKind.wrap .i64 ((max (idx after row 0) (0:Int):Int)+(1:Int))) (((List.length row):Nat):Int):Int))::([d]::((cut row (min (IntKind.wrap .i64 ((max (idx after row 0) (0:Int):Int)+(1:Int))) (((List.length row):Nat):Int):Int) (((List.length row):Nat):Int))::([]:List (List ae))))),()),())).bind fun(y4:(((List ae)×Unit)×Unit)) =>some (y4.1,())) (none)) (none)=_;rw[wG];refine af (wc o5) (af (GH o5) ?_);have key:∀a b R:List ae,a=row.take k→b=row.drop k→R=cx (row.take k++(d::row.drop k))→((FX G 170 oG (([a,[d],b],()),())).bind fun(y3:(((List ae)×Unit)×Unit))=>some (y3.1,()))=some ((R,()),()):=by intro a b R ha hb hR;subst ha hb hR;refine aa (SW hG [row.take k,[d],row.drop k] (by simp) (by unfold total;simp;omega)) ?_;refine congrArg (fun l:List ae=>some ((l,()),())) ?_;simp
  exact key _ _ _ (sN row k) (Aw row o5) (by rw[PQ])
theorem xT{row:List ae}{d:ae}{k:Nat}(hn:row.Nodup)(hk:row[k]? = some d):row.filter (fun e=>decide (e≠d))=row.take k++row.drop (k+1):=by
 obtain⟨h1,h2⟩:=aaW.1 hk
 conv=>lhs;rw[←List.take_append_drop k row,List.drop_eq_getElem_cons h1,h2]
 have Kj:(row.take k++(d::row.drop (k+1))).Nodup:=by rw[←h2,←List.drop_eq_getElem_cons h1,List.take_append_drop];exact hn
 have h3:=aeB.1 Kj;have h4:=ac9.1 h3.2.1;rw[List.filter_append,List.filter_cons_of_neg (by simp)];congr 1
 ·rw[List.filter_eq_self];intro a ha;have:=h3.2.2 a ha d (by simp);simpa using this
 ·rw[List.filter_eq_self];intro a ha;have:a≠d:=fun e=>h4.1 (e▸ha);simpa using this
theorem SY(hG:HG G)(row:List ae)(d:ae)(hn:row.Nodup)(hl:row.length≤50000000):FX G 141 BR ((row,d,()),())=some ((cy row d,()),()):=by
 refine az (hG _ _ rfl) abo ?_;refine aa (CJ (hG _ _ rfl) row d (by omega)) ?_;unfold cy;by_cases hd:d∈row
 ·obtain⟨k,h1,h2,h3⟩:=fL hd;have aF:=(aaW.1 h2).1;rw[xT hn h2];show cond (decide (idx d row 0<0)) _ (cond (bp row.length 0 (idx d row 0)) (cond (bp row.length (IntKind.wrap .i64 (idx d row 0+1)) ((row.length:Nat):Int)) ((FX G 170 oG (([cut row 0 (idx d row 0),cut row (IntKind.wrap .i64 (idx d row 0+1)) ((row.length:Nat):Int)],()),())).bind fun(y3:(((List ae)×Unit)×Unit))=>some (y3.1,())) none) none)=_;rw[h1,aD aF (by omega)];refine ag (decide_eq_false (by omega)) (af (wc (by omega)) (af (GH (by omega)) ?_));have key:∀a b:List ae,a=row.take k→b=row.drop (k+1)→((FX G 170 oG (([a,b],()),())).bind fun(y3:(((List ae)×Unit)×Unit))=>some (y3.1,()))=some ((cx (row.take k++row.drop (k+1)),()),()):=by intro a b ha hb;subst ha hb;refine aa (SW hG [row.take k,row.drop (k+1)] (by simp) (by unfold total;simp;omega)) ?_;refine congrArg (fun l:List ae=>some ((l,()),())) ?_;simp
  exact key _ _ (sN row k) (Aw row (by omega))
 ·have h1:=eV.2 hd;refine af (decide_eq_true h1) (aa (EP hG row (by omega)) ?_);refine congrArg (fun l:List ae=>some ((l,()),())) ?_;congr 1
  symm
  rw[List.filter_eq_self];intro a ha;have:a≠d:=fun e=>hd (e▸ha);simpa using this
theorem Xy(hG:HG G)(row:List ae)(cW d:ae)(hl:row.length≤50000000):FX G 187 tx ((row,cW,d,()),())=some ((jJ row cW d,()),()):=by
 refine az (hG _ _ rfl) abp ?_;refine aa (CJ (hG _ _ rfl) row cW (by omega)) ?_;unfold jJ;by_cases ho:cW∈row
 ·obtain⟨k,h1,h2,h3⟩:=fL ho;have aF:=(aaW.1 h2).1;refine ag (decide_eq_false (show ¬idx cW row 0<0 by omega)) ?_;refine aa (EO hG row d (by omega)) ?_;by_cases hd:d∈row
  ·rw[if_neg (fun h=>h.2 hd)];exact af (decide_eq_true hd) (aa (EP hG row (by omega)) rfl)
  rw[if_pos ⟨ho,hd⟩];refine ag (decide_eq_false hd) ?_;show cond (bp row.length 0 (idx cW row 0)) (cond (bp row.length (IntKind.wrap .i64 (idx cW row 0+1)) ((row.length:Nat):Int)) ((FX G 170 oG (([cut row 0 (idx cW row 0),[d],cut row (IntKind.wrap .i64 (idx cW row 0+1)) ((row.length:Nat):Int)],()),())).bind fun(y3:(((List ae)×Unit)×Unit))=>some (y3.1,())) none) none=_;rw[h1,aD aF (by omega)];refine af (wc (by omega)) (af (GH (by omega)) ?_);have key:∀a b R:List ae,a=row.take k→b=row.drop (k+1)→R=cx (row.set ((k:Int)).toNat d)→((FX G 170 oG (([a,[d],b],()),())).bind fun(y3:(((List ae)×Unit)×Unit))=>some (y3.1,()))=some ((R,()),()):=by intro a b R ha hb hR;subst ha hb hR;refine aa (SW hG [row.take k,[d],row.drop (k+1)] (by simp) (by unfold total;simp;omega)) ?_;refine congrArg (fun l:List ae=>some ((l,()),())) ?_;rw[Int.toNat_natCast,List.set_eq_take_append_cons_drop,if_pos aF];simp
  exact key _ _ _ (sN row k) (Aw row (by omega)) rfl
 ·have h1:=eV.2 ho;rw[if_neg (fun h=>ho h.1)];exact af (decide_eq_true h1) (aa (EP hG row (by omega)) rfl)
theorem Xz(hG:HG G)(row:List ae)(d:ae)(hl:row.length≤100000000):FX G 140 BT ((row,d,()),())=some (wH (cE row d (row.length-1)),()):=by
 refine az (hG _ _ rfl) abE ?_;have key:FX G 167 BV ((row,(d,((IntKind.wrap .i64 (((row.length:Nat):Int)-1)),()))),())=some (wH (cE row d (row.length-1)),()):=by
  refine az (hG _ _ rfl) Xf ?_;refine aa (CJ (hG _ _ rfl) row d (by omega)) ?_;unfold cE;by_cases hd:d∈row
  ·rw[if_pos hd];obtain⟨k,h1,h2,h3⟩:=fL hd;have aF:=(aaW.1 h2).1;refine ag (decide_eq_false (show ¬idx d row 0<0 by omega)) ?_;refine ag (Gq hd) ?_;have hw:IntKind.wrap .i64 (((row.length:Nat):Int)-1)=((row.length-1:Nat):Int):=by rw[wrap_small (by omega) (by omega)];omega
   have Vi:IntKind.wrap .i64 (idx d row 0+IntKind.wrap .i64 (((row.length:Nat):Int)-1))=((k+(row.length-1):Nat):Int):=by rw[hw,h1,wrap_small (by omega) (by omega)];rfl
   have xJ:(k+(row.length-1))%row.length<row.length:=aeW _ (by omega);have hx:=aaV xJ;refine aa (show aT row (Int.tmod (IntKind.wrap .i64 (idx d row 0+IntKind.wrap .i64 (((row.length:Nat):Int)-1))) ((row.length:Nat):Int))=some row[(k+(row.length-1))%row.length] by rw[Vi,rB];exact aA hx) ?_;rw[h1,Int.toNat_natCast,hx];rfl
  ·rw[if_neg hd];exact af (decide_eq_true (eV.2 hd)) rfl
 refine aa key ?_;rfl
end Go.Vs
