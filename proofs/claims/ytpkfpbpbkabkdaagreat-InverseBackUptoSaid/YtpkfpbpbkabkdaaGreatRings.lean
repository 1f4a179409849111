/- What the program computes at -/
import Derived.Test.YtpkfpbpbkabkdaaGreatPlaces
set_option linter.unusedVariables false
set_option linter.unusedSimpArgs false
namespace Go.Vs
open Go.Proofs
variable {G:(f:FuncId)→(g:aX)→Option (g.A→Option g.B)}
theorem get_at{s:ByteArray}{i:Nat}{c:UInt8}(h:s.data.toList[i]? = some c):s.get! i=c:=by
 have hi:i<s.data.size:=by have:=(aa9.1 h).1;simpa using this
 have h2:=(aa9.1 h).2;show s.data[i]! = c;rw[getElem!_pos s.data i hi,←h2];simp
theorem RM{s:ByteArray}{i:Nat}(h:(s.get! i).toNat<128):Utf8.decode s i=((s.get! i).toNat,1):=by unfold Utf8.decode;simp only[Nat.add_zero];rw[if_pos h]
theorem RN{s:ByteArray}{i:Nat}(h:¬(s.get! i).toNat<128):128≤(Utf8.decode s i).1:=by
 unfold Utf8.decode;simp only[Nat.add_zero];rw[if_neg h]
 repeat' split
 all_goals first|(simp_all only[Bool.and_eq_true,decide_eq_true_eq];omega)|decide|omega
theorem aly(hG:G 161 zP=none)(s:ByteArray)(hs:s.size≤100000000):∀(n i:Nat),i+n=s.size → LX G 161 zP Tryz.f161 z8 (aS Tryz.prog 161 0) ((s,()),((),((s,i),())))=some ((((s.data.toList.drop i).all lX&&decide (s.size≤16),()),()):(Bool×Unit)×Unit):=by
 have hl:s.data.toList.length=s.size:=by simp
 intro n
 induction n with
 |zero =>intro i hi;refine ax U8 ?_;refine ag (decide_eq_false (show ¬(i<s.size) by omega)) ?_;refine congrArg (fun b:Bool=>some ((b,()),())) ?_;rw[List.drop_eq_nil_of_le (by omega),List.all_nil,Bool.true_and,Bool.eq_iff_iff];simp;omega
 |succ n ih =>
  intro i hi;have aH:i<s.data.toList.length:=by omega
  have hx:s.data.toList[i]? = some s.data.toList[i]:=abb aH;generalize s.data.toList[i]=c at hx;have hd:s.data.toList.drop i=c::s.data.toList.drop (i+1):=by rw[List.drop_eq_getElem_cons aH];rw[List.getElem?_eq_getElem aH]at hx;cases hx;rfl
  have hg:=get_at hx;refine ax U8 ?_;refine af (decide_eq_true (show i<s.size by omega)) ?_;show cond (decide (qS s i<32)) _ (cond (decide (qS s i>126)) _ (LX G 161 zP Tryz.f161 z8 (aS Tryz.prog 161 0) ((s,()),((),((s,i+CU s i),())))))=_;rw[hd,List.all_cons];by_cases h1:c.toNat<128
  ·have hr:Utf8.decode s i=(c.toNat,1):=by rw[RM (by rw[hg];exact h1),hg]
   have hr1:qS s i=(c.toNat:Int):=by unfold qS;rw[hr]
   have DK:CU s i=1:=by unfold CU;rw[hr]
   rw[hr1,DK];by_cases h2:c.toNat<32
   ·refine af (decide_eq_true (by omega)) ?_;have:lX c=false:=by unfold lX;simp;omega
    rw[this];rfl
   refine ag (decide_eq_false (by omega)) ?_;by_cases h3:126<c.toNat
   ·refine af (decide_eq_true (by omega)) ?_;have:lX c=false:=by unfold lX;simp;omega
    rw[this];rfl
   refine ag (decide_eq_false (by omega)) ?_;have:lX c=true:=by unfold lX;simp;omega
   rw[this,Bool.true_and];exact ih (i+1) (by omega)
  ·have h2:=RN (s:=s) (i:=i) (by rw[hg];exact h1);have hr1:128≤qS s i:=by unfold qS;omega
   refine ag (decide_eq_false (by omega)) (af (decide_eq_true (by omega)) ?_);have:lX c=false:=by unfold lX;simp;omega
   rw[this];rfl
theorem alz(hG:G 161 zP=none)(s:ByteArray)(hs:s.size≤100000000):FX G 161 zP ((s,()),())=some ((lY s,()),()):=by refine aB hG akw ?_;have:=aly hG s hs s.size 0 (by omega);rw[List.drop_zero]at this;exact this
theorem alA(hG:G 162 KY=none)(n:Int):FX G 162 KY ((n,()),())=some ((jZ n,()),()):=by refine aB hG akx ?_;show(cond (decide (n≥-1099511627776)) (some ((decide (n≤1099511627776),()),())) (some ((false,()),())):Option ((Bool×Unit)×Unit))=some ((jZ n,()),());unfold jZ;by_cases h1 : -1099511627776≤n<;>simp[h1]
def ER(n:Int):Prop := -9223372036854775808≤n∧n<9223372036854775808
theorem VI(x:BitVec 64):IntKind.wrap .i64 ((x.toNat:Nat):Int)=x.toInt:=by
 unfold IntKind.wrap;simp only[IntKind.bits,IntKind.signed];have h:=x.isLt;have h2:=BitVec.toInt_eq_toNat_cond x;rw[h2];simp
 split<;>split<;>omega
theorem ofInt_toInt{n:Int}(h:ER n):(BitVec.ofInt 64 n).toInt=n:=by unfold ER at h;rw[BitVec.toInt_ofInt];exact Int.bmod_eq_of_le (by omega) (by omega)
theorem YJ{n:Int}(h:ER n):(du .andNot .i64 n 3==(0:Int))=decide (0≤n∧n≤3):=by
 have e:du .andNot .i64 n 3=(BitVec.ofInt 64 n &&& ~~~(BitVec.ofInt 64 3)).toInt:=by unfold du;exact VI _
 rw[e,Bool.eq_iff_iff];simp only[beq_iff_eq,decide_eq_true_eq];generalize hx:BitVec.ofInt 64 n=x;have hn:=ofInt_toInt h;rw[hx]at hn;have h1:(x &&& ~~~(BitVec.ofInt 64 3)).toInt=0↔(x &&& ~~~(BitVec.ofInt 64 3))=0#64:=by
  constructor
  ·intro h;exact BitVec.eq_of_toInt_eq (by rw[h];rfl)
  ·intro h;rw[h];rfl
 rw[h1,←hn];constructor
 ·intro h;have h2:x=x &&& 3#64:=by
   have h3:x=(x &&& ~~~(BitVec.ofInt 64 3)) ||| (x &&& 3#64):=by
    ext i hi;simp only[BitVec.getElem_or,BitVec.getElem_and,BitVec.getElem_not];have:(BitVec.ofInt 64 3)=3#64:=rfl;rw[this]
    cases x[i]<;>cases (3#64)[i]<;>rfl
   rw[h]at h3;simpa using h3
  have h4:x.toNat≤3:=by rw[h2,BitVec.toNat_and];exact Nat.and_le_right
  rw[BitVec.toInt_eq_toNat_cond]
  split<;>omega
 ·intro h;have h4:x.toNat≤3:=by
   rw[BitVec.toInt_eq_toNat_cond]at h;have:=x.isLt
   split at h<;>omega
  have h5:x=0#64∨x=1#64∨x=2#64∨x=3#64:=by
   have:x.toNat=0∨x.toNat=1∨x.toNat=2∨x.toNat=3:=by omega
   rcases this with h|h|h|h
   ·exact .inl (BitVec.eq_of_toNat_eq (by rw[h];rfl))
   ·exact .inr (.inl (BitVec.eq_of_toNat_eq (by rw[h];rfl)))
   ·exact .inr (.inr (.inl (BitVec.eq_of_toNat_eq (by rw[h];rfl))))
   ·exact .inr (.inr (.inr (BitVec.eq_of_toNat_eq (by rw[h];rfl))))
  rcases h5 with rfl|rfl|rfl|rfl<;>decide
theorem YK{n:Int}(h:ER n):(du .andNot .i64 n 1==(0:Int))=decide (n=0∨n=1):=by
 have e:du .andNot .i64 n 1=(BitVec.ofInt 64 n &&& ~~~(BitVec.ofInt 64 1)).toInt:=by unfold du;exact VI _
 rw[e,Bool.eq_iff_iff];simp only[beq_iff_eq,decide_eq_true_eq];generalize hx:BitVec.ofInt 64 n=x;have hn:=ofInt_toInt h;rw[hx]at hn;have h1:(x &&& ~~~(BitVec.ofInt 64 1)).toInt=0↔(x &&& ~~~(BitVec.ofInt 64 1))=0#64:=by
  constructor
  ·intro h;exact BitVec.eq_of_toInt_eq (by rw[h];rfl)
  ·intro h;rw[h];rfl
 rw[h1,←hn];constructor
 ·intro h;have h2:x=x &&& 1#64:=by
   have h3:x=(x &&& ~~~(BitVec.ofInt 64 1)) ||| (x &&& 1#64):=by
    ext i hi;simp only[BitVec.getElem_or,BitVec.getElem_and,BitVec.getElem_not];have:(BitVec.ofInt 64 1)=1#64:=rfl;rw[this]
    cases x[i]<;>cases (1#64)[i]<;>rfl
   rw[h]at h3;simpa using h3
  have h4:x.toNat≤1:=by rw[h2,BitVec.toNat_and];exact Nat.and_le_right
  rw[BitVec.toInt_eq_toNat_cond]
  split<;>omega
 ·intro h;have h4:x.toNat≤1:=by
   rw[BitVec.toInt_eq_toNat_cond]at h;have:=x.isLt
   split at h<;>omega
  have h5:x=0#64∨x=1#64:=by
   have:x.toNat=0∨x.toNat=1:=by omega
   rcases this with h|h
   ·exact .inl (BitVec.eq_of_toNat_eq (by rw[h];rfl))
   ·exact .inr (BitVec.eq_of_toNat_eq (by rw[h];rfl))
  rcases h5 with rfl|rfl<;>decide
theorem afZ(hG:HG G)(d:ae)(h:ER d.2):FX G 190 K3 ((d,()),())=some ((Ja d,()),()):=by
 refine aB (hG _ _ rfl) aen ?_;refine aa (RL (hG _ _ rfl) d.1) ?_;unfold Ja
 cases cz d.1
 ·rfl
 ·exact af rfl (congrArg (fun b:Bool=>some ((b,()),())) (YK h))
theorem af0(hG:HG G)(c:ml)(h:ER c.2.2):FX G 160 Gi ((c,()),())=some ((pO c,()),()):=by
 refine aB (hG _ _ rfl) akv ?_;refine aa (RL (hG _ _ rfl) c.1) ?_;unfold pO
 cases cz c.1
 ·rfl
 refine af rfl ?_;have hb:(((c.2.1.1==(0:Int))&&(c.2.1.2==(0:Int)))&&(c.2.2==(0:Int)))=decide (c.2=zD):=lW c.2 zD;by_cases hz:c.2=zD
 ·refine af (hb.trans (decide_eq_true hz)) ?_;rw[decide_eq_true hz,Bool.or_true];rfl
 ·refine ag (hb.trans (decide_eq_false hz)) ?_;refine aa (afZ hG c.2 h) ?_;rw[decide_eq_false hz,Bool.or_false];rfl
structure Fit(o:aW):Prop where
 a:ER (oA o).2.2
 b:ER (oB o).2.2
 n:ER (oN o)
 t:Ah o
def ES(o:aW):aW :=if o.1=6 then(o.1,(au o,(zI,(aj o,(zC,(zC,(false,(e0,0))))))))
 else if o.1=3 then(o.1,(au o,(zI,(zI,(oA o,(oB o,(false,(e0,0))))))))
 else if o.1=5 then(o.1,(au o,(b6 o,(aj o,(zC,(zC,(false,(e0,oN o))))))))
 else if o.1=7 then(o.1,(au o,(zI,(zI,(zC,(zC,(cX o,(gO o,0))))))))
 else if o.1=8 then(o.1,(au o,(zI,(zI,(zC,(zC,(cX o,(e0,oN o))))))))
 else(o.1,(au o,(zI,(zI,(zC,(zC,(false,(e0,0))))))))
def Jm(o:aW):Int :=if o.1=6 then(if cz (au o)=true∧cz (aj o)=true then 0 else 1)
 else if o.1=3 then(if cz (au o)=true∧pO (oA o)=true∧pO (oB o)=true then 0 else 1)
 else if o.1=5 then(if cz (au o)=true∧cz (b6 o)=true∧cz (aj o)=true∧0≤oN o∧oN o≤3 then 0 else 1)
 else if o.1=7 then(if cz (au o)=true then(if lY (gO o)=true then 0 else 4) else 1)
 else if o.1=8 then(if cz (au o)=true∧jZ (oN o)=true then 0 else 1)
 else if o.1=1∨o.1=2∨o.1=4 then(if cz (au o)=true then 0 else 1)
 else 1
theorem JY{o:aW}{k:Int}(h:o.1=k):(o.1==k)=true:=by simp[h]
theorem BG{o:aW}{k:Int}(h:¬o.1=k):(o.1==k)=false:=by simp[h]
theorem alB(hG:HG G)(o:aW)(hf:Fit o):FX G 132 Ug ((o,()),())=some ((ES o,(Jm o,())),()):=by
 refine aB (hG _ _ rfl) aj8 ?_;refine aa (RL (hG _ _ rfl) (au o)) ?_;unfold ES Jm;by_cases h1:o.1=1
 ·refine af (JY h1) (af (JY h1) ?_);rw[if_neg (by omega),if_neg (by omega),if_neg (by omega),if_neg (by omega),if_neg (by omega),if_neg (by omega),if_neg (by omega),if_neg (by omega),if_neg (by omega),if_neg (by omega),if_pos (by omega)]
  cases cz (au o)<;>rfl
 refine ag (BG h1) ?_;by_cases h2:o.1=2
 ·refine af (JY h2) (af (JY h2) ?_);rw[if_neg (by omega),if_neg (by omega),if_neg (by omega),if_neg (by omega),if_neg (by omega),if_neg (by omega),if_neg (by omega),if_neg (by omega),if_neg (by omega),if_neg (by omega),if_pos (by omega)]
  cases cz (au o)<;>rfl
 refine ag (BG h2) ?_;by_cases h4:o.1=4
 ·refine af (JY h4) ?_;rw[if_neg (by omega),if_neg (by omega),if_neg (by omega),if_neg (by omega),if_neg (by omega),if_neg (by omega),if_neg (by omega),if_neg (by omega),if_neg (by omega),if_neg (by omega),if_pos (by omega)]
  cases cz (au o)<;>rfl
 refine ag (BG h4) ?_;by_cases h6:o.1=6
 ·refine af (JY h6) ?_;rw[if_pos h6,if_pos h6]
  cases cz (au o)
  ·rfl
  refine af rfl (aa (RL (hG _ _ rfl) (aj o)) ?_)
  cases cz (aj o)<;>rfl
 refine ag (BG h6) ?_;rw[if_neg h6,if_neg h6];by_cases h3:o.1=3
 ·refine af (JY h3) ?_;rw[if_pos h3,if_pos h3]
  cases cz (au o)
  ·rfl
  refine af rfl (aa (af0 hG (oA o) hf.a) ?_)
  cases pO (oA o)
  ·rfl
  refine af rfl (aa (af0 hG (oB o) hf.b) ?_)
  cases pO (oB o)<;>rfl
 refine ag (BG h3) ?_;rw[if_neg h3,if_neg h3];by_cases h5:o.1=5
 ·refine af (JY h5) ?_;rw[if_pos h5,if_pos h5]
  cases cz (au o)
  ·rfl
  refine af rfl (aa (RL (hG _ _ rfl) (b6 o)) ?_)
  cases cz (b6 o)
  ·rfl
  refine af rfl (aa (RL (hG _ _ rfl) (aj o)) ?_)
  cases cz (aj o)
  ·rfl
  refine af rfl (aZ (YJ hf.n) ?_);by_cases h:0≤oN o∧oN o≤3
  ·rw[decide_eq_true h,if_pos ⟨rfl,rfl,rfl,h⟩];rfl
  ·rw[decide_eq_false h,if_neg (fun k=>h k.2.2.2)];rfl
 refine ag (BG h5) ?_;rw[if_neg h5,if_neg h5];by_cases h7:o.1=7
 ·refine af (JY h7) ?_;rw[if_pos h7,if_pos h7];refine aa (alz (hG _ _ rfl) (gO o) hf.t) ?_
  cases lY (gO o)<;>cases cz (au o)<;>rfl
 refine ag (BG h7) ?_;rw[if_neg h7,if_neg h7];by_cases h8:o.1=8
 ·refine af (JY h8) ?_;rw[if_pos h8,if_pos h8]
  cases cz (au o)
  ·rfl
  refine af rfl (aa (alA (hG _ _ rfl) (oN o)) ?_)
  cases jZ (oN o)<;>rfl
 refine ag (BG h8) ?_;rw[if_neg h8,if_neg h8,if_neg (by omega)];rfl
theorem RO(o:aW)(h1:1≤o.1)(h8:o.1≤8):sw (ES o) o=sw (km o) FP:=by
 rw[Bool.eq_iff_iff,kq,kq];obtain⟨k,i,n,m,⟨a1,a2⟩,⟨b1,b2⟩,f,t,q⟩:=o;simp only at h1 h8;unfold ES km FP;have:k=1∨k=2∨k=3∨k=4∨k=5∨k=6∨k=7∨k=8:=by omega
 rcases this with rfl|rfl|rfl|rfl|rfl|rfl|rfl|rfl<;>simp only[Int.reduceEq,if_true,if_false]<;>constructor<;>intro h<;>simp only[zC,Prod.mk.injEq,true_and,and_true]at h ⊢<;>grind
theorem abV(hG:HG G)(o:aW)(hf:Fit o):FX G 104 Ny ((o,()),())=some ((bm o,()),()):=by
 refine aB (hG _ _ rfl) ajO ?_;refine aa (alB hG o hf) ?_;refine aZ (b:=sw (ES o) o) rfl ?_;unfold bm;by_cases h1:o.1<1
 ·rw[if_pos h1];have:Jm o=1:=by unfold Jm;rw[if_neg (by omega),if_neg (by omega),if_neg (by omega),if_neg (by omega),if_neg (by omega),if_neg (by omega)]
  rw[this];cases sw (ES o) o<;>rfl
 rw[if_neg h1];by_cases h8:8<o.1
 ·rw[if_pos h8];have:Jm o=1:=by unfold Jm;rw[if_neg (by omega),if_neg (by omega),if_neg (by omega),if_neg (by omega),if_neg (by omega),if_neg (by omega)]
  rw[this];cases sw (ES o) o<;>rfl
 rw[if_neg h8,RO o (by omega) (by omega)];have hk:o.1=1∨o.1=2∨o.1=3∨o.1=4∨o.1=5∨o.1=6∨o.1=7∨o.1=8:=by omega
 by_cases hm:cz (au o)=true
 case neg =>
  have hb:Jm o=1:=by unfold Jm;rcases hk with h|h|h|h|h|h|h|h<;>simp[h,hm]
  rw[if_pos (by simpa using hm),hb];cases sw (km o) FP<;>rfl
 rw[if_neg (by simp[hm])]
 cases sw (km o) FP
 ·rw[if_pos rfl];rfl
 rw[if_neg (by simp)];refine ag rfl ?_;refine congrArg (fun n:Int=>some ((n,()),())) ?_;unfold Jm;rcases hk with h|h|h|h|h|h|h|h<;>simp[h,hm]
theorem alC(hG:HG G)(l:List aW)(hl:l.length≤1073741824)(hf:∀o∈l,Fit o):FX G 66 KV ((l,()),())=some ((fC l,()),()):=by
 refine aB (hG _ _ rfl) aj1 ?_;unfold fC;by_cases h0:l.length=0
 ·refine af (show(((l.length:Nat):Int)==0)=true by simp[h0]) ?_;rw[if_neg (by omega)];rfl
 refine ag (show(((l.length:Nat):Int)==0)=false by rw[beq_eq_false_iff_ne];omega) ?_;by_cases h6:6<l.length
 ·refine af (decide_eq_true (show((l.length:Nat):Int)>6 by omega)) ?_;rw[if_neg (by omega)];rfl
 refine ag (decide_eq_false (show ¬((l.length:Nat):Int)>6 by omega)) ?_;rw[if_pos (by omega)];have loop:∀(n i:Nat),i+n=l.length→LX G 66 KV Tryz.f66 Er (aS Tryz.prog 66 0) ((l,(((l.length:Nat):Int),((i:Int),()))),((),()))=some ((lZ (l.drop i),()),()):=by
  intro n
  induction n with
  |zero =>intro i hi;refine ax UN ?_;refine ag (decide_eq_false (show ¬((i:Int)<((l.length:Nat):Int)) by omega)) ?_;rw[List.drop_eq_nil_of_le (by omega)];rfl
  |succ n ih =>
   intro i hi;have aH:i<l.length:=by omega
   refine ax UN ?_;refine af (bg aH) (aa (aC (abb aH)) ?_);refine aa (abV hG l[i] (hf _ (acy aH))) ?_;rw[List.drop_eq_getElem_cons aH,lZ];by_cases hz:bm l[i]=0
   ·rw[if_neg (by simp[hz])];refine ag (show(bm l[i] != 0)=false by simp[hz]) ?_;rw[wI,aK aH hl];exact ih (i+1) (by omega)
   ·rw[if_pos hz];exact af (show(bm l[i] != 0)=true by simp[hz]) rfl
 have:=loop l.length 0 (by omega);rw[List.drop_zero]at this;exact this
theorem aaF(hG:HG G)(v:an)(x:ID):FX G 214 G7 ((v,x,()),())=some ((rE v.1 x,()),()):=by refine aB (hG _ _ rfl) aeK ?_;exact aa (VF hG v.1 x) rfl
def cE(l:List an)(x:ID):Nat:=l.countP fun v=>gm v.1 x
def dw(l:List an):Prop:=l.Pairwise fun a b=>gm a.1 b.1=true
theorem Jn(l:List an)(x:ID):cE l x≤l.length:=adq
theorem uK{l:List an}{x:ID}(h:∀v∈l,gm v.1 x=false):cE l x=0:=by unfold cE;rw[List.countP_eq_zero];intro v hv;simp[h v hv]
theorem Al{x:ID}:∀{l:List an},dw l→∀(k:Nat) (v:an),l[k]? = some v→(gm v.1 x=true↔k<cE l x)
 |[],_,k,v,h=>by simp at h
 |w::r,hs,k,v,h=>by
  have hw:∀{u:an},u∈r→gm w.1 u.1=true:=fun {u} hu=>acV hs hu;have hr:dw r:=hs.of_cons;by_cases aH:gm w.1 x=true
  ·have e:cE (w::r) x=cE r x+1:=by unfold cE;rw[List.countP_cons_of_pos (by simpa using aH)]
   cases k with
   |zero=>simp at h;subst h;simp[aH,e]
   |succ k=>have:=Al (x:=x) hr k v (by simpa using h);rw[this,e];omega
  ·have hn:∀u∈w::r,gm u.1 x=false:=fun u hu=>by
    rcases abi.1 hu with rfl|hu
    ·simpa using aH
    ·rw[Bool.eq_false_iff];intro h2;exact aH (iG (hw hu) h2)
   rw[uK hn,hn v (List.mem_of_getElem? h)];simp
theorem VJ(hG:HG G)(l:List an)(x:ID)(hs:dw l)(hl:l.length≤50000000):∀(n i j:Nat),j-i≤n→i≤cE l x→cE l x≤j→j≤l.length → LX G 215213 kg Tryz.f213 jH (aS Tryz.prog 213 0) ((l,(((l.length:Nat):Int),((i:Int),((j:Int),())))),(((x,()),()),()))=some (((((cE l x:Nat):Int),(decide ((l[cE l x]?).map (·.1)=some x),())):Int×(Bool×Unit)),()):=by
 have ue:=Jn l x;have fin:∀(i j:Nat),¬(i<j)→i≤cE l x→cE l x≤j→LX G 215213 kg Tryz.f213 jH (aS Tryz.prog 213 0) ((l,(((l.length:Nat):Int),((i:Int),((j:Int),())))),(((x,()),()),()))=some (((((cE l x:Nat):Int),(decide ((l[cE l x]?).map (·.1)=some x),())):Int×(Bool×Unit)),()):=fun i j Ce h1 h2=>by
  have hi:i=cE l x:=by omega
  subst hi;refine ax Ey ?_;refine ag (decide_eq_false (show ¬(((cE l x:Nat):Int)<(j:Int)) by omega)) ?_;by_cases hc:cE l x<l.length
  ·have hx:l[cE l x]? = some l[cE l x]:=abb hc;refine af (bg hc) ?_;refine aa (aC hx) ?_;refine aa (aaF hG l[cE l x] x) ?_;refine congrArg (fun b:Bool=>some ((((cE l x:Nat):Int),(b,())),())) ?_;rw[hx];unfold rE;by_cases he:l[cE l x].1=x
   ·simp[he]
   ·simp[he];split<;>simp
  ·refine ag (decide_eq_false (show ¬(((cE l x:Nat):Int)<((l.length:Nat):Int)) by omega)) ?_;refine congrArg (fun b:Bool=>some ((((cE l x:Nat):Int),(b,())),())) ?_;rw[List.getElem?_eq_none (by omega)];simp
 intro n
 induction n with
 |zero=>intro i j Ce h1 h2 h3;exact fin i j (by omega) h1 h2
 |succ n ih =>
  intro i j Ce h1 h2 h3;by_cases aH:i<j
  case neg=>exact fin i j aH h1 h2
  refine ax Ey ?_;refine af (decide_eq_true (show((i:Int)<(j:Int)) by omega)) ?_;refine ag rfl ?_;have hm:=NV (i:=i) (j:=j) (by omega) (by omega);have hh:(i+j) / 2<l.length:=by omega
  have hx:l[(i+j) / 2]? = some l[(i+j) / 2]:=abb hh;have qk:=Al (x:=x) hs ((i+j) / 2) _ hx;refine aa (show bh l (IntKind.wrap .i64 (mC .u64 (IntKind.wrap .u64 (IntKind.wrap .i64 ((i:Int)+(j:Int)))) (1:Int)))=some l[(i+j) / 2] by rw[hm];exact aC hx) ?_;refine aa (aaF hG l[(i+j) / 2] x) ?_;by_cases ho:gm l[(i+j) / 2].1 x=true
  ·refine af (decide_eq_true ((lB _ _).2 ho)) ?_;have hc:=qk.1 ho;have hw:IntKind.wrap .i64 (IntKind.wrap .i64 (mC .u64 (IntKind.wrap .u64 (IntKind.wrap .i64 ((i:Int)+(j:Int)))) (1:Int))+1)=(((i+j) / 2+1:Nat):Int):=by rw[hm];exact aK hh (by omega)
   have:=ih ((i+j) / 2+1) j (by omega) (by omega) h2 h3;rw[←hw]at this;exact this
  ·refine ag (decide_eq_false (fun h=>ho ((lB _ _).1 h))) ?_;have hc:¬(i+j) / 2<cE l x:=fun h=>ho (qk.2 h);have:=ih i ((i+j) / 2) (by omega) h1 (by omega) (by omega);rw[←hm]at this;exact this
theorem VL(hG:HG G)(l:List an)(x:ID)(hs:dw l)(hl:l.length≤50000000) :
  FX G 215213 kg ((l,x,()),())=some (((((cE l x:Nat):Int),(decide ((l[cE l x]?).map (·.1)=some x),())):Int×(Bool×Unit)),()):=by
 refine aB (hG _ _ rfl) Vc ?_;exact VJ hG l x hs hl l.length 0 l.length (by omega) (by omega) (Jn l x) (aci _)
theorem qC(hG:HG G)(w:bf)(x:ID)(hs:dw w.2.1)(hl:w.2.1.length≤50000000) :
  FX G 182 oW ((x,()),(w,()))=some (((((cE w.2.1 x:Nat):Int),(decide ((w.2.1[cE w.2.1 x]?).map (·.1)=some x),())):Int×(Bool×Unit)),(w,())):=by
 refine aB (hG _ _ rfl) aet ?_;exact aa (VL hG w.2.1 x hs hl) rfl
theorem Am{x:ID}:∀{l:List an},dw l→aL l x=(l[cE l x]?).filter fun v=>decide (v.1=x)
 |[],_=>rfl
 |w::r,hs=>by
  have hw:∀{u:an},u∈r→gm w.1 u.1=true:=fun {u} hu=>acV hs hu;have hr:dw r:=hs.of_cons;by_cases aH:gm w.1 x=true
  ·have e:cE (w::r) x=cE r x+1:=by unfold cE;rw[List.countP_cons_of_pos (by simpa using aH)]
   have bq:¬w.1=x:=fun e=>by rw[e,ct]at aH;cases aH
   rw[e];simp only[aL,List.find?_cons,bq,decide_false,List.getElem?_cons_succ];exact Am hr
  ·have hn:∀u∈w::r,gm u.1 x=false:=fun u hu=>by
    rcases abi.1 hu with rfl|hu
    ·simpa using aH
    ·rw[Bool.eq_false_iff];intro h2;exact aH (iG (hw hu) h2)
   rw[uK hn];by_cases he:w.1=x
   ·simp[aL,List.find?_cons,he,Option.filter]
   ·have MO:gm x w.1=true:=mY (by simpa using aH) he;have:aL r x=none:=by
     unfold aL;rw[List.find?_eq_none];intro u hu h2;have h3:u.1=x:=by simpa using h2
     have h4:=hw hu;rw[h3]at h4;have:=jR h4;rw[MO]at this;cases this
    rw[show aL (w::r) x=aL r x by simp only[aL,List.find?_cons,he,decide_false],this];simp[he,Option.filter]
theorem dS{l:List an}{x:ID}(hs:dw l):decide ((l[cE l x]?).map (·.1)=some x)=(aL l x).isSome:=by
 rw[Am hs]
 cases h:l[cE l x]? with
 |none=>simp
 |some v=>by_cases he:v.1=x<;>simp[he,Option.filter]
theorem LI(v:an):∀{l:List an},dw l→aL l v.1=none→bR v l=l.take (cE l v.1)++(v::l.drop (cE l v.1))
 |[],_,_=>rfl
 |w::r,hs,hf=>by
  have hw:∀{u:an},u∈r→gm w.1 u.1=true:=fun {u} hu=>acV hs hu;have hr:dw r:=hs.of_cons;have bq:¬w.1=v.1:=fun e=>by simp[aL,e]at hf
  have zL:aL r v.1=none:=by simpa[aL,List.find?_cons,bq] using hf
  by_cases aH:gm w.1 v.1=true
  ·have e:cE (w::r) v.1=cE r v.1+1:=by unfold cE;rw[List.countP_cons_of_pos (by simpa using aH)]
   have ZS:gm v.1 w.1=false:=jR aH;rw[e,bR,if_neg (by simp[ZS]),LI v hr zL];rfl
  ·have hn:∀u∈w::r,gm u.1 v.1=false:=fun u hu=>by
    rcases abi.1 hu with rfl|hu
    ·simpa using aH
    ·rw[Bool.eq_false_iff];intro h2;exact aH (iG (hw hu) h2)
   have MO:gm v.1 w.1=true:=mY (by simpa using aH) bq;rw[uK hn,bR,if_pos MO];rfl
theorem Ao{x:ID}:∀{l:List an},dw l→(aL l x).isSome=true→bF l x=l.take (cE l x)++l.drop (cE l x+1)
 |[],_,hf=>by simp[aL]at hf
 |w::r,hs,hf=>by
  have hw:∀{u:an},u∈r→gm w.1 u.1=true:=fun {u} hu=>acV hs hu;have hr:dw r:=hs.of_cons;by_cases he:w.1=x
  ·have hn:∀u∈w::r,gm u.1 x=false:=fun u hu=>by
    rcases abi.1 hu with rfl|hu
    ·rw[he,ct]
    ·rw[←he];exact jR (hw hu)
   have fX:bF r x=r:=by unfold bF;rw[List.filter_eq_self];intro u hu;have h4:=hw hu;simp;intro e2;rw[he,e2,ct]at h4;cases h4
   rw[uK hn];unfold bF;rw[List.filter_cons_of_neg (by simp[he])];exact fX
  ·have zL:(aL r x).isSome=true:=by simpa[aL,List.find?_cons,he] using hf
   have aH:gm w.1 x=true:=by
    obtain⟨u,hu⟩:=ab3.1 zL;have h1:=acG hu;have h2:u.1=x:=by simpa using adi hu
    rw[←h2];exact hw h1
   have e:cE (w::r) x=cE r x+1:=by unfold cE;rw[List.countP_cons_of_pos (by simpa using aH)]
   rw[e];have:=Ao hr zL;simp[bF,List.filter_cons,he]at this ⊢;exact this
theorem Ap(v:an):∀{l:List an},dw l→aL l v.1=none→dw (bR v l)
 |[],_,_=>List.pairwise_singleton _ _
 |w::r,hs,hf=>by
  have hw:∀{u:an},u∈r→gm w.1 u.1=true:=fun {u} hu=>acV hs hu;have hr:dw r:=hs.of_cons;have bq:¬w.1=v.1:=fun e=>by simp[aL,e]at hf
  have zL:aL r v.1=none:=by simpa[aL,List.find?_cons,bq] using hf
  unfold bR
  split
  ·rename_i h;refine List.Pairwise.cons (fun u hu=>?_) hs;rcases abi.1 hu with rfl|hu
   ·exact h
   ·exact iG h (hw hu)
  ·rename_i h;have aH:gm w.1 v.1=true:=mY (by simpa using h) (fun e=>bq e.symm);refine List.Pairwise.cons (fun u hu=>?_) (Ap v hr zL);rcases ku.1 hu with rfl|hu
   ·exact aH
   ·exact hw hu
theorem rH{l:List an}{x:ID}(hs:dw l):dw (bF l x):=hs.filter _
theorem dK{l:List ai}{x:ID}{v:ai}(hs:cd l)(h:aN l x=some v):l[bP l x]? = some v:=by
 have l9:=uJ (x:=x) hs;rw[h]at l9
 cases hg:l[bP l x]? with
 |none=>rw[hg]at l9;simp[Option.filter]at l9
 |some u =>
  rw[hg]at l9;simp only[Option.filter]at l9
  split at l9
  ·exact l9.symm
  ·cases l9
theorem gj{l:List ai}{x:ID}{v:ai}(h:aN l x=some v):v.1=x:=by simpa using adi h
theorem dr{l:List ai}{x:ID}{v:ai}(h:aN l x=some v):v∈l:=acG h
theorem kY{l:List ai}{x:ID}{k:Nat}{u:ai}(hs:cd l)(hk:l[k]? = some u)(hu:u.1=x):k=bP l x:=by
 have h1:¬k<bP l x:=fun h=>by have:=(Aj hs k u hk).2 h;rw[hu,ct]at this;cases this
 have hf:(aN l x).isSome=true:=by unfold aN;rw[List.find?_isSome];exact⟨u,acd hk,by simp[hu]⟩
 obtain⟨v,hv⟩:=ab3.1 hf;have hg:=dK hs hv;by_cases h2:bP l x<k
 ·obtain⟨h3,h4⟩:=aa9.1 hg;obtain⟨h5,h6⟩:=aa9.1 hk;have:=adv.1 hs _ _ h3 h5 h2;rw[h4,h6,gj hv,hu,ct]at this;cases this
 ·omega
theorem LJ{l:List ai}{x:ID}{v:ai}(hs:cd l)(h:aN l x=some v)(g f:ai→ai)(h1:∀w,w.1=x→g w=f w)(h2:∀w,w.1≠x→g w=w):l.map g=l.set (bP l x) (f v):=by
 have hg:=dK hs h;apply adh;intro k;rw[List.getElem?_map,List.getElem?_set];by_cases hk:bP l x=k
 ·subst hk;rw[if_pos rfl,if_pos (List.getElem?_eq_some_iff.1 hg).1,hg];simp[h1 v (gj h)]
 ·rw[if_neg hk]
  cases hu:l[k]? with
  |none=>rfl
  |some u =>have:u.1≠x:=fun e=>hk (kY hs hu e).symm;simp[h2 u this]
theorem ma{l:List an}{x:ID}{v:an}(hs:dw l)(h:aL l x=some v):l[cE l x]? = some v:=by
 have l9:=Am (x:=x) hs;rw[h]at l9
 cases hg:l[cE l x]? with
 |none=>rw[hg]at l9;simp[Option.filter]at l9
 |some u =>
  rw[hg]at l9;simp only[Option.filter]at l9
  split at l9
  ·exact l9.symm
  ·cases l9
theorem jm{l:List an}{x:ID}{v:an}(h:aL l x=some v):v.1=x:=by simpa using adi h
theorem kZ{l:List an}{x:ID}{v:an}(h:aL l x=some v):v∈l:=acG h
theorem Hm{l:List an}{x:ID}{k:Nat}{u:an}(hs:dw l)(hk:l[k]? = some u)(hu:u.1=x):k=cE l x:=by
 have h1:¬k<cE l x:=fun h=>by have:=(Al hs k u hk).2 h;rw[hu,ct]at this;cases this
 have hf:(aL l x).isSome=true:=by unfold aL;rw[List.find?_isSome];exact⟨u,acd hk,by simp[hu]⟩
 obtain⟨v,hv⟩:=ab3.1 hf;have hg:=ma hs hv;by_cases h2:cE l x<k
 ·obtain⟨h3,h4⟩:=aa9.1 hg;obtain⟨h5,h6⟩:=aa9.1 hk;have:=adv.1 hs _ _ h3 h5 h2;rw[h4,h6,jm hv,hu,ct]at this;cases this
 ·omega
theorem VM{l:List an}{x:ID}{v:an}(hs:dw l)(h:aL l x=some v)(g f:an→an)(h1:∀w,w.1=x→g w=f w)(h2:∀w,w.1≠x→g w=w):l.map g=l.set (cE l x) (f v):=by
 have hg:=ma hs h;apply adh;intro k;rw[List.getElem?_map,List.getElem?_set];by_cases hk:cE l x=k
 ·subst hk;rw[if_pos rfl,if_pos (List.getElem?_eq_some_iff.1 hg).1,hg];simp[h1 v (jm h)]
 ·rw[if_neg hk]
  cases hu:l[k]? with
  |none=>rfl
  |some u =>have:u.1≠x:=fun e=>hk (Hm hs hu e).symm;simp[h2 u this]
theorem dw.map{l:List an}(h:dw l){f:an→an}(hf:∀v,(f v).1=v.1):dw (l.map f):=by unfold dw at h ⊢;rw[List.pairwise_map];exact h.imp fun {a b} mI=>by rw[hf,hf];exact mI
theorem Aq{x:ID}{f:an→an}(hf:∀v,(f v).1=v.1):∀(l:List an),aL (l.map f) x=(aL l x).map f
 |[]=>rfl
 |w::r=>by
  unfold aL;rw[List.map_cons,List.find?_cons,List.find?_cons,hf];have:=Aq (x:=x) hf r;unfold aL at this
  cases decide (w.1=x) with
  |true=>rfl
  |false=>exact this
theorem NX{x:ID}{l:List an}(hf:aL l x=none):bF l x=l:=by unfold bF;rw[List.filter_eq_self];intro u hu;unfold aL at hf;rw[List.find?_eq_none]at hf;have:=hf u hu;simpa using this
theorem vG{α R:Type}{o:Option α}{a r:Option R}{f:α→Option R}{p:α}(h:o=some p)(k:f p=r):sL o a f=r:=by subst h;exact k
theorem PI{α R:Type}{o:Option α}{a r:Option R}{f:α→Option R}(h:o=none)(k:a=r):sL o a f=r:=by subst h;exact k
def vH(w:bf)(x:ID):Int×bf :=if(aL w.2.1 x).isSome=true then(12,w) else if 40≤w.2.1.length then(3,w) else(0,(w.1,(bR (x,(e0,0)) w.2.1,w.2.2)))
theorem aaG(hG:HG G)(w:bf)(x:ID)(hs:dw w.2.1)(hl:w.2.1.length≤50000000):FX G 178 Br ((x,()),(w,()))=some (((vH w x).1,()),((vH w x).2,())):=by
 refine aB (hG _ _ rfl) aep ?_;refine aa (qC hG w x hs hl) ?_;unfold vH
 cases hf:(aL w.2.1 x).isSome
 ·rw[if_neg (by simp)];refine ag ((dS hs).trans hf) ?_;by_cases h2:40≤w.2.1.length
  ·rw[if_pos h2];exact af (decide_eq_true (show((w.2.1.length:Nat):Int)≥40 by omega)) rfl
  ·rw[if_neg h2];refine ag (decide_eq_false (show ¬((w.2.1.length:Nat):Int)≥40 by omega)) ?_;have hc:=Jn w.2.1 x;have nD:sM w.2.1 ((cE w.2.1 x:Nat):Int) [((x,(e0,0)):an)]=true:=by unfold sM;rw[decide_eq_true (show(0:Int)≤((cE w.2.1 x:Nat):Int) by omega),decide_eq_true (show((cE w.2.1 x:Nat):Int)≤((w.2.1.length:Nat):Int) by omega)];rw[fits (by simp;omega)];rfl
   refine af nD ?_;have e:ij w.2.1 ((cE w.2.1 x:Nat):Int) [((x,(e0,0)):an)]=bR (x,(e0,0)) w.2.1:=by rw[LI (x,(e0,0)) hs (by simpa using hf)];unfold ij;simp
   exact congrArg (fun l:List an=>some (((0:Int),()),((w.1,(l,w.2.2)),()))) e
 ·rw[if_pos rfl];exact af ((dS hs).trans hf) rfl
def ET(w:bf)(o:aW):Option (Fin 2×Nat) :=if cX o=true then(if(aL w.2.1 (au o)).isSome=true then some (⟨1,by decide⟩,cE w.2.1 (au o)) else none)
 else(if(aN w.1 (au o)).isSome=true then some (⟨0,by decide⟩,bP w.1 (au o)) else none)
theorem af1(hG:HG G)(w:bf)(o:aW)(hv:cd w.1)(he:dw w.2.1)(SS:w.1.length≤50000000)(hle:w.2.1.length≤50000000) :
  FX G 189 K5 ((o,()),(w,()))=some ((ET w o,(ET w o,())),(w,())):=by
 refine aB (hG _ _ rfl) aeB ?_;unfold ET;by_cases ho:cX o=true
 ·rw[if_pos ho];refine af ho ?_;refine aa (qC hG w (au o) he hle) ?_
  cases hf:aL w.2.1 (au o) with
  |none =>refine ag ((dS he).trans (by rw[hf];rfl)) ?_;rfl
  |some e =>refine af ((dS he).trans (by rw[hf];rfl)) ?_;have aH:=(aa9.1 (ma he hf)).1;refine af (dA (gr _) (bg aH)) ?_;exact af (dA (gr _) (bg aH)) rfl
 ·rw[if_neg ho];refine ag (by simpa using ho) ?_;refine aa (si hG w (au o) hv SS) ?_
  cases hf:aN w.1 (au o) with
  |none =>refine ag ((gW hv).trans (by rw[hf];rfl)) ?_;rfl
  |some e =>refine af ((gW hv).trans (by rw[hf];rfl)) ?_;have aH:=(aa9.1 (dK hv hf)).1;refine af (dA (gr _) (bg aH)) ?_;exact af (dA (gr _) (bg aH)) rfl
def wM(w:bf)(o:aW):Int×bf :=if cX o=true then(if(aL w.2.1 (au o)).isSome=true then(0,(w.1,(w.2.1.map (gL o),w.2.2))) else(13,w))
 else(if(aN w.1 (au o)).isSome=true then(0,(w.1.map (fJ o),w.2)) else(13,w))
theorem alD(hG:HG G)(w:bf)(o:aW)(hv:cd w.1)(he:dw w.2.1)(SS:w.1.length≤50000000)(hle:w.2.1.length≤50000000) :
  FX G 158 Uj ((o,()),(w,()))=some (((wM w o).1,()),((wM w o).2,())):=by
 refine aB (hG _ _ rfl) akA ?_;refine aa (af1 hG w o hv he SS hle) ?_;by_cases ho:cX o=true
 ·cases hf:aL w.2.1 (au o) with
  |none =>
   have e1:ET w o=none:=by unfold ET;rw[if_pos ho,hf];rfl
   have e2:wM w o=(13,w):=by unfold wM;rw[if_pos ho,hf];rfl
   rw[e2];exact PI e1 (PI e1 rfl)
  |some e =>
   have e1:ET w o=some (⟨1,by decide⟩,cE w.2.1 (au o)):=by unfold ET;rw[if_pos ho,hf];rfl
   have hm:∀f:an→an,(∀u,u.1=au o→gL o u=f u)→w.2.1.map (gL o)=w.2.1.set (cE w.2.1 (au o)) (f e):=fun f hf1 =>VM he hf (gL o) f hf1 (fun u hu=>by unfold gL;rw[if_neg (fun k=>hu k.2)]);have e2:wM w o=(0,(w.1,(w.2.1.map (gL o),w.2.2))):=by unfold wM;rw[if_pos ho,hf];rfl
   rw[e2];refine vG e1 (ag rfl (af rfl (vG e1 (ag rfl (af rfl ?_)))));by_cases h7:o.1=7
   ·refine af (JY h7) (aa (ma he hf) ?_);have:=hm (fun u=>(u.1,(gO o,u.2.2))) (fun u hu=>by unfold gL;rw[if_pos ⟨ho,hu⟩,if_pos h7]);exact congrArg (fun l:List an=>some (((0:Int),()),((w.1,(l,w.2.2)),()))) this.symm
   ·refine ag (BG h7) (aa (ma he hf) ?_);have:=hm (fun u=>(u.1,(u.2.1,oN o))) (fun u hu=>by unfold gL;rw[if_pos ⟨ho,hu⟩,if_neg h7]);exact congrArg (fun l:List an=>some (((0:Int),()),((w.1,(l,w.2.2)),()))) this.symm
 ·have pz:cX o=false:=by simpa using ho
  cases hf:aN w.1 (au o) with
  |none =>
   have e1:ET w o=none:=by unfold ET;rw[if_neg ho,hf];rfl
   have e2:wM w o=(13,w):=by unfold wM;rw[if_neg ho,hf];rfl
   rw[e2];exact PI e1 (PI e1 rfl)
  |some e =>
   have e1:ET w o=some (⟨0,by decide⟩,bP w.1 (au o)):=by unfold ET;rw[if_neg ho,hf];rfl
   have hm:∀f:ai→ai,(∀u,u.1=au o→fJ o u=f u)→w.1.map (fJ o)=w.1.set (bP w.1 (au o)) (f e):=fun f hf1 =>LJ hv hf (fJ o) f hf1 (fun u hu=>by unfold fJ;rw[if_neg (fun k=>hu k.2)]);have e2:wM w o=(0,(w.1.map (fJ o),w.2)):=by unfold wM;rw[if_neg ho,hf];rfl
   rw[e2];refine vG e1 (af rfl (vG e1 (af rfl ?_)));by_cases h7:o.1=7
   ·refine af (JY h7) (aa (dK hv hf) ?_);have:=hm (fun u=>(u.1,(u.2.1,(gO o,u.2.2.2)))) (fun u hu=>by unfold fJ;rw[if_pos ⟨pz,hu⟩,if_pos h7]);exact congrArg (fun l:List ai=>some (((0:Int),()),((l,w.2),()))) this.symm
   ·refine ag (BG h7) (aa (dK hv hf) ?_);have:=hm (fun u=>(u.1,(u.2.1,(u.2.2.1,oN o)))) (fun u hu=>by unfold fJ;rw[if_pos ⟨pz,hu⟩,if_neg h7]);exact congrArg (fun l:List ai=>some (((0:Int),()),((l,w.2),()))) this.symm
theorem aaH(hG:HG G)(a b:ae):FX G 195 G8 ((a,b,()),())=some ((n8 a b,()),()):=by
 refine aB (hG _ _ rfl) aeN ?_;refine aa (VF hG a.1 b.1) ?_;refine aa (VD hG a.2 b.2) ?_;refine aa (aaD (hG _ _ rfl) (rE a.1 b.1) (NU a.2 b.2)) ?_;refine congrArg (fun n:Int=>some ((n,()),())) ?_;obtain⟨a1,a2⟩:=a;obtain⟨b1,b2⟩:=b;unfold n8 rE NU lz;simp only[Prod.mk.injEq];by_cases h:a1=b1
 ·subst h;simp only[if_true,ct,Bool.false_or,true_and,decide_true,Bool.true_and];by_cases h1:a2<b2
  ·have:¬a2=b2:=by omega
   simp[h1,this]
  ·by_cases h2:a2>b2
   ·have:¬a2=b2:=by omega
    simp[h1,h2,this]
   ·have:a2=b2:=by omega
    simp[this]
 ·simp only[h,if_false,false_and,decide_false,Bool.false_and,Bool.or_false]
  cases gm a1 b1<;>simp
theorem af2(hG:G 168 nS=none)(row:List ae)(d:ae)(hl:row.length≤1073741824):∀(n i:Nat),i+n=row.length → LX G 168 nS Tryz.f168 xX (aS Tryz.prog 168 0) ((row,(((row.length:Nat):Int),((i:Int),()))),(((d,()),()),()))=some ((idx d (row.drop i) i,()),()):=by
 intro n
 induction n with
 |zero =>intro i hi;refine ax Pf ?_;refine ag (decide_eq_false (show ¬((i:Int)<((row.length:Nat):Int)) by omega)) ?_;rw[List.drop_eq_nil_of_le (by omega)];rfl
 |succ n ih =>
  intro i hi;have aH:i<row.length:=by omega
  refine ax Pf ?_;refine af (bg aH) (aa (aC (abb aH)) ?_);rw[List.drop_eq_getElem_cons aH,idx];by_cases he:row[i]=d
  ·rw[if_pos he];exact af ((lW d row[i]).trans (decide_eq_true he.symm)) rfl
  ·rw[if_neg he];refine ag ((lW d row[i]).trans (decide_eq_false fun h=>he h.symm)) ?_;rw[wI,aK aH hl];exact ih (i+1) (by omega)
theorem EU(hG:G 168 nS=none)(row:List ae)(d:ae)(hl:row.length≤1073741824):FX G 168 nS ((row,d,()),())=some ((idx d row 0,()),()):=by refine aB hG aeH ?_;have:=af2 hG row d hl row.length 0 (by omega);rw[List.drop_zero]at this;exact this
theorem Ho(hG:HG G)(row:List ae)(d:ae)(hl:row.length≤1073741824):FX G 166 xR ((row,d,()),())=some ((decide (d∈row),()),()):=by
 refine aB (hG _ _ rfl) aeG ?_;refine aa (EU (hG _ _ rfl) row d hl) ?_;refine congrArg (fun b:Bool=>some ((b,()),())) ?_;rw[Bool.eq_iff_iff];simp only[decide_eq_true_eq];have:=fS (d:=d) (row:=row);constructor
 ·intro h;exact Classical.byContradiction fun k=>by have:=this.2 k;omega
 ·intro h;have h2:¬idx d row 0<0:=fun k=>this.1 k h;omega
theorem eV(a:ae):lz a a=false:=by unfold lz;simp[ct]
theorem gX{a b c:ae}(h:lz a b=true)(k:lz b c=true):lz a c=true:=by obtain⟨⟨a1,a2⟩,a3⟩:=a;obtain⟨⟨b1,b2⟩,b3⟩:=b;obtain⟨⟨c1,c2⟩,c3⟩:=c;simp[lz,gm]at *;omega
theorem uL{a b:ae}(h:lz a b=false)(k:a≠b):lz b a=true:=by obtain⟨⟨a1,a2⟩,a3⟩:=a;obtain⟨⟨b1,b2⟩,b3⟩:=b;simp[lz,gm]at *;omega
theorem Jo{a b c:ae}(h:lz a b=true)(k:lz c b=false):lz a c=true:=by obtain⟨⟨a1,a2⟩,a3⟩:=a;obtain⟨⟨b1,b2⟩,b3⟩:=b;obtain⟨⟨c1,c2⟩,c3⟩:=c;simp[lz,gm]at *;omega
theorem uM(a b:ae):n8 a b<0↔lz a b=true:=by
 unfold n8;by_cases h:a=b
 ·subst h;simp[eV]
 ·rw[if_neg h];cases lz a b<;>simp
theorem mO{row:List ae}{k:Nat}(hk:k<row.length):row.getD k zD=row[k]:=by simp[List.getD,hk]
theorem Ar(row:List ae):∀(r:List ae) (i k:Nat),row.drop i=r→k<row.length→k≤i→(∀j,j<i→(hj:j<row.length)→lz row[j] (row.getD k zD)=false)→(∀j,j<k→(hj:j<row.length)→lz (row.getD k zD) row[j]=true) →(∀j,(hj:j<row.length)→lz row[j] (row.getD (fP row r i k) zD)=false)∧(∀j,j<fP row r i k→(hj:j<row.length)→lz (row.getD (fP row r i k) zD) row[j]=true)
 |[],i,k,hr,hk,hki,h1,h2=>by
  have hi:row.length≤i:=by have:=congrArg List.length hr;simp at this;omega
  exact⟨fun j hj=>h1 j (by omega) hj,h2⟩
 |x::r,i,k,hr,hk,hki,h1,h2=>by
  have hi:i<row.length:=by have:=congrArg List.length hr;simp at this;omega
  have hx:row[i]=x:=by have:=ac4 hi;rw[hr]at this;injection this with a b;exact a.symm
  have uc:row.drop (i+1)=r:=by have:=ac4 hi;rw[hr]at this;injection this with a b;exact b.symm
  unfold fP
  split
  ·rename_i aH;rw[uM]at aH;refine Ar row r (i+1) i uc hi (by omega) (fun j hj MK=>?_) (fun j hj MK=>?_)
   ·rw[mO hi,hx];rcases Nat.lt_succ_iff_lt_or_eq.1 hj with hj|rfl
    ·cases hc:lz row[j] x with
     |false=>rfl
     |true=>have:=gX hc aH;rw[h1 j hj MK]at this;cases this
    ·rw[hx,eV]
   ·rw[mO hi,hx];exact Jo aH (h1 j (by omega) MK)
  ·rename_i aH;rw[uM]at aH;refine Ar row r (i+1) k uc hk (by omega) (fun j hj MK=>?_) h2;rcases Nat.lt_succ_iff_lt_or_eq.1 hj with hj|rfl
   ·exact h1 j hj MK
   ·rw[hx];simpa using aH
theorem od{row:List ae}(h:0<row.length):(∀j,(hj:j<row.length)→lz row[j] (row.getD (fP row row 0 0) zD)=false)∧(∀j,j<fP row row 0 0→(hj:j<row.length)→lz (row.getD (fP row row 0 0) zD) row[j]=true) :=Ar row row 0 0 rfl h (aci _) (fun j hj=>by omega) (fun j hj=>by omega)
theorem NY{d:ae}:∀{row:List ae} {k:Nat} {i:Int},row[k]? = some d→(∀j,j<k→row[j]?≠some d)→idx d row i=i+k
 |[],k,i,h,_=>by simp at h
 |e::r,0,i,h,_=>by simp at h;subst h;rw[idx,if_pos rfl];simp
 |e::r,k+1,i,h,hn=>by have h0:=hn 0 (by omega);rw[idx,if_neg (fun e=>h0 (by simp[e]))];rw[NY (k:=k) (by simpa using h) (fun j hj=>by have:=hn (j+1) (by omega);simpa using this)];simp;omega
theorem VN{row:List ae}(h:0<row.length):idx (row.getD (fP row row 0 0) zD) row 0=((fP row row 0 0:Nat):Int):=by have hm:=lA row row 0 0 h (by omega);have:=NY (d:=row.getD (fP row row 0 0) zD) (row:=row) (k:=fP row row 0 0) (i:=0) (by rw[mO hm];exact abb hm) (fun j hj he=>by obtain⟨h1,h2⟩:=aa9.1 he;have:=(od h).2 j hj h1;rw[h2,eV]at this;cases this);omega
theorem VO(hG:HG G)(row:List ae)(h:0<row.length)(hl:row.length≤100000000):FX G 196194 lR ((row,()),())=some ((row.getD (fP row row 0 0) zD,()),()):=by
 refine aB (hG _ _ rfl) Vd ?_;refine ag (decide_eq_false (show ¬((row.length:Nat):Int)<1 by omega)) ?_;refine aa (aC (i:=0) (abb h)) ?_;have loop:∀(n i k:Nat),i+n=row.length→k<row.length→LX G 196194 lR Tryz.f194 kU (aS Tryz.prog 194 0) ((row,((i:Int),())),(((zD,()),(((row.getD k zD),()),())),()))=some ((row.getD (fP row (row.drop i) i k) zD,()),()):=by
  intro n
  induction n with
  |zero =>intro i k hi hk;refine ax Ez ?_;refine ag (decide_eq_false (show ¬((i:Int)<((row.length:Nat):Int)) by omega)) ?_;rw[List.drop_eq_nil_of_le (by omega)];rfl
  |succ n ih =>
   intro i k hi hk;have aH:i<row.length:=by omega
   have hx:row[i]? = some row[i]:=abb aH;refine ax Ez ?_;refine af (bg aH) (aa (aC hx) ?_);refine aa (aaH hG row[i] (row.getD k zD)) ?_;rw[List.drop_eq_getElem_cons aH,fP];by_cases ho:n8 row[i] (row.getD k zD)<0
   ·rw[if_pos ho];refine af (decide_eq_true ho) (aa (aC hx) ?_);have:=ih (i+1) i (by omega) aH;rw[←aK aH (by omega),mO aH]at this;exact this
   ·rw[if_neg ho];refine ag (decide_eq_false ho) ?_;have:=ih (i+1) k (by omega) hk;rw[←aK aH (by omega)]at this;exact this
 have h1:=loop (row.length-1) 1 0 (by omega) h;have h2:fP row row 0 0=fP row (row.drop 1) 1 0:=by
  cases row with
  |nil=>simp at h
  |cons x r =>
   rw[List.drop_one,List.tail_cons]
   conv=>lhs;rw[fP]
   rw[if_neg];show ¬n8 x x<0;unfold n8;simp
 rw[h2];have h3:row.getD 0 zD=row[0]:=mO h;rw[h3]at h1;exact h1
def total(ls:List (List ae)):Nat:=(ls.map List.length).sum
theorem EV(a:List ae)(r:List (List ae)):total (a::r)=a.length+total r:=by unfold total;rw[List.map_cons,List.sum_cons]
theorem aaI(hG:HG G)(ls:List (List ae))(hn:ls.length≤1000)(hl:total ls≤500000000):FX G 196 qu ((ls,()),())=some ((ls.flatten,()),()):=by
 refine aB (hG _ _ rfl) aeO ?_;have af3:∀(n i:Nat) (out:List ae),i+n=ls.length→out.length+total (ls.drop i)≤500000000→LX G 196 qu Tryz.f196 xZ (aS Tryz.prog 196 1) ((ls,(((ls.length:Nat):Int),((i:Int),()))),((),(out,())))=some ((out++(ls.drop i).flatten,()),()):=by
  intro n
  induction n with
  |zero =>intro i out hi ho;refine ax Ph ?_;refine ag (decide_eq_false (show ¬((i:Int)<((ls.length:Nat):Int)) by omega)) ?_;rw[List.drop_eq_nil_of_le (by omega),List.flatten_nil,List.append_nil];rfl
  |succ n ih =>
   intro i out hi ho;have aH:i<ls.length:=by omega
   rw[List.drop_eq_getElem_cons aH]at ho ⊢;have pz:out.length+(ls[i].length+total (ls.drop (i+1)))≤500000000:=by have:total (ls[i]::ls.drop (i+1))=ls[i].length+total (ls.drop (i+1)):=EV _ _;omega
   refine ax Ph ?_;refine af (bg aH) (aa (aC (abb aH)) ?_);refine af (fits (show out.length+ls[i].length≤1073741824 by omega)) ?_;have:=ih (i+1) (out++ls[i]) (by omega) (by rw[List.length_append];omega);rw[List.flatten_cons,←List.append_assoc];rw[←aK aH (by omega)]at this;exact this
 have af4:∀(n i m:Nat),i+n=ls.length→m+total (ls.drop i)=total ls→LX G 196 qu Tryz.f196 xY (aS Tryz.prog 196 0) ((ls,((m:Int),(ls,(((ls.length:Nat):Int),((i:Int),()))))),((),()))=some ((ls.flatten,()),()):=by
  intro n
  induction n with
  |zero =>
   intro i m hi hm;refine ax Pg ?_;refine ag (decide_eq_false (show ¬((i:Int)<((ls.length:Nat):Int)) by omega)) ?_;have hg:sN (m:Int)=true:=by unfold sN;rw[decide_eq_true (show(0:Int)≤(m:Int) by omega)];rw[decide_eq_true (show(m:Int)≤gy by unfold gy;omega)];rfl
   refine af hg ?_;have:=af3 ls.length 0 [] (by omega) (by rw[List.drop_zero];simpa using hl);rw[List.drop_zero,List.nil_append]at this;exact this
  |succ n ih =>
   intro i m hi hm;have aH:i<ls.length:=by omega
   have X2:m+ls[i].length+total (ls.drop (i+1))=total ls:=by rw[List.drop_eq_getElem_cons aH]at hm;have:total (ls[i]::ls.drop (i+1))=ls[i].length+total (ls.drop (i+1)):=EV _ _;omega
   refine ax Pg ?_;refine af (bg aH) (aa (aC (abb aH)) ?_);have hw:IntKind.wrap .i64 ((m:Int)+((ls[i].length:Nat):Int))=((m+ls[i].length:Nat):Int):=by rw[wrap_small (by omega) (by omega)];rfl
   refine ag (decide_eq_false (show ¬IntKind.wrap .i64 ((m:Int)+((ls[i].length:Nat):Int))<0 by rw[hw];omega)) ?_;have:=ih (i+1) (m+ls[i].length) (by omega) X2;rw[←aK aH (by omega),←hw]at this;exact this
 exact af4 ls.length 0 0 (by omega) (by rw[List.drop_zero];omega)
theorem CF{α:Type}(xs:List α){k:Nat}(hk:k≤xs.length):cut xs (k:Int) ((xs.length:Nat):Int)=xs.drop k:=by unfold cut;rw[Int.toNat_natCast,Int.toNat_natCast,List.take_of_length_le (Nat.le_refl _)]
theorem uN{α:Type}(xs:List α)(k:Nat):cut xs 0 (k:Int)=xs.take k:=by unfold cut;rw[Int.toNat_natCast];rfl
theorem Jp{n k:Nat}(h:k≤n):bu n (k:Int) ((n:Nat):Int)=true:=by unfold bu;simp;omega
theorem yx{n k:Nat}(h:k≤n):bu n 0 (k:Int)=true:=by unfold bu;simp;omega
theorem Hq(hG:HG G)(row:List ae)(hl:row.length≤100000000):FX G 169 tp ((row,()),())=some ((bB row,()),()):=by
 refine aB (hG _ _ rfl) aeA ?_;by_cases h0:row.length=0
 ·refine af (show(((row.length:Nat):Int)==0)=true by simp[h0]) ?_;have:row=[]:=by simpa using h0
  subst this;rfl
 refine ag (show(((row.length:Nat):Int)==0)=false by rw[beq_eq_false_iff_ne];omega) ?_;have hp:0<row.length:=by omega
 have hm:=lA row row 0 0 hp (by omega);refine aa (VO hG row hp hl) ?_;refine aa (EU (hG _ _ rfl) row (row.getD (fP row row 0 0) zD) (by omega)) ?_;rw[VN hp];refine af (Jp (n:=row.length) (k:=fP row row 0 0) (by omega)) (af (yx (n:=row.length) (k:=fP row row 0 0) (by omega)) ?_);have key:∀a b:List ae,a=row.drop (fP row row 0 0)→b=row.take (fP row row 0 0)→((FX G 196 qu (([a,b],()),())).bind fun(y3:(((List ae)×Unit)×Unit))=>some (y3.1,()))=some ((bB row,()),()):=by intro a b ha hb;subst ha hb;refine aa (aaI hG [row.drop (fP row row 0 0),row.take (fP row row 0 0)] (by simp) (by unfold total;simp;omega)) ?_;unfold bB kD;simp only[List.flatten_cons,List.flatten_nil,List.append_nil]
 exact key _ _ (CF row (by omega)) (uN row _)
theorem VP(hG:HG G)(ls:List (List ae))(hn:ls.length≤1000)(hl:total ls≤100000000):FX G 170 qq ((ls,()),())=some ((bB ls.flatten,()),()):=by
 refine aB (hG _ _ rfl) aeI ?_;refine aa (aaI hG ls hn (by omega)) ?_;have hlen:ls.flatten.length=total ls:=by unfold total;exact List.length_flatten
 exact aa (Hq hG ls.flatten (by omega)) rfl
theorem VQ(hG:HG G)(row:List ae)(after d:ae)(hl:row.length≤50000000):FX G 181 D0 ((row,after,d,()),())=some ((gN row after d,()),()):=by
  refine aB (hG _ _ rfl) aer ?_;refine aa (Ho hG row d (by omega)) ?_;unfold gN;by_cases hd:d∈row
  · rw[if_pos hd]
    exact af (decide_eq_true hd) (aa (Hq hG row (by omega)) rfl)
  rw[if_neg hd];refine ag (decide_eq_false hd) ?_;refine aa (EU (hG _ _ rfl) row after (by omega)) ?_;have hr:idx after row 0<((row.length:Nat):Int)∨row.length=0∧idx after row 0 = -1:=by
    rcases qy after row 0 (by omega) with⟨h,_⟩|⟨k,h,hk,_⟩
    · by_cases h0:row.length=0
      · exact .inr ⟨h0,h⟩
      · exact .inl (by omega)
    · have:=(aa9.1 hk).1
      exact .inl (by omega)
  have hm:max (idx after row 0) (0:Int)=max 0 (idx after row 0):=by omega
  have hw:IntKind.wrap .i64 (max (idx after row 0) (0:Int)+1)=(((max 0 (idx after row 0)).toNat+1:Nat):Int):=by rw[wrap_small (by omega) (by omega)];omega
  obtain⟨k,hk,pH,SU⟩:∃k:Nat,min (IntKind.wrap .i64 (max (idx after row 0) (0:Int)+1)) ((row.length:Nat):Int)=(k:Int)∧k≤row.length∧row.take k++(d::row.drop k)=row.take ((max 0 (idx after row 0)).toNat+1)++(d::row.drop ((max 0 (idx after row 0)).toNat+1)):=by
    rw[hw];by_cases h0:row.length=0
    · have:row=[]:=by simpa using h0
      subst this;exact⟨0,by simp;omega,by simp,by simp⟩
    · exact⟨(max 0 (idx after row 0)).toNat+1,by omega,by omega,rfl⟩
  have yW:(min (IntKind.wrap .i64 ((max (idx after row 0) (0:Int):Int)+(1:Int))) (((List.length row):Nat):Int):Int)=(k:Int):=hk;show cond (bu (List.length row) (0:Int) (min (IntKind.wrap .i64 ((max (idx after row 0) (0:Int):Int)+(1:Int))) (((List.length row):Nat):Int):Int)) (cond (bu (List.length row) (min (IntKind.wrap .i64 ((max (idx after row 0) (0:Int):Int)+(1:Int))) (((List.length row):Nat):Int):Int) (((List.length row):Nat):Int)) ((FX G 170 qq ((((cut row (0:Int) (min (IntKind.wrap .i64 ((max (idx after row 0) (0:Int):Int)+(1:Int))) (((List.length row):Nat):Int):Int))::([d]::((cut row (min (IntKind.wrap .i64 ((max (idx after row 0) (0:Int):Int)+(1:Int))) (((List.length row):Nat):Int):Int) (((List.length row):Nat):Int))::([]:List (List ae))))),()),())).bind fun(y4:(((List ae)×Unit)×Unit)) =>some (y4.1,())) (none)) (none)=_;rw[yW];refine af (yx pH) (af (Jp pH) ?_);have key:∀a b R:List ae,a=row.take k→b=row.drop k→R=bB (row.take k++(d::row.drop k))→((FX G 170 qq (([a,[d],b],()),())).bind fun(y3:(((List ae)×Unit)×Unit))=>some (y3.1,()))=some ((R,()),()):=by intro a b R ha hb hR;subst ha hb hR;refine aa (VP hG [row.take k,[d],row.drop k] (by simp) (by unfold total;simp;omega)) ?_;refine congrArg (fun l:List ae=>some ((l,()),())) ?_;simp
  exact key _ _ _ (uN row k) (CF row pH) (by rw[SU])
theorem As{row:List ae}{d:ae}{k:Nat}(hn:row.Nodup)(hk:row[k]? = some d):row.filter (fun e=>decide (e≠d))=row.take k++row.drop (k+1):=by
 obtain⟨h1,h2⟩:=aa9.1 hk
 conv=>lhs;rw[←List.take_append_drop k row,List.drop_eq_getElem_cons h1,h2]
 have M0:(row.take k++(d::row.drop (k+1))).Nodup:=by rw[←h2,←List.drop_eq_getElem_cons h1,List.take_append_drop];exact hn
 have h3:=ac2.1 M0;have h4:=abv.1 h3.2.1;rw[List.filter_append,List.filter_cons_of_neg (by simp)];congr 1
 ·rw[List.filter_eq_self];intro a ha;have:=h3.2.2 a ha d (by simp);simpa using this
 ·rw[List.filter_eq_self];intro a ha;have:a≠d:=fun e=>h4.1 (e▸ha);simpa using this
theorem VR(hG:HG G)(row:List ae)(d:ae)(hn:row.Nodup)(hl:row.length≤50000000):FX G 141 D4 ((row,d,()),())=some ((bz row d,()),()):=by
 refine aB (hG _ _ rfl) aex ?_;refine aa (EU (hG _ _ rfl) row d (by omega)) ?_;unfold bz;by_cases hd:d∈row
 ·obtain⟨k,h1,h2,h3⟩:=eU hd;have aH:=(aa9.1 h2).1;rw[As hn h2];show cond (decide (idx d row 0<0)) _ (cond (bu row.length 0 (idx d row 0)) (cond (bu row.length (IntKind.wrap .i64 (idx d row 0+1)) ((row.length:Nat):Int)) ((FX G 170 qq (([cut row 0 (idx d row 0),cut row (IntKind.wrap .i64 (idx d row 0+1)) ((row.length:Nat):Int)],()),())).bind fun(y3:(((List ae)×Unit)×Unit))=>some (y3.1,())) none) none)=_;rw[h1,aK aH (by omega)];refine ag (decide_eq_false (by omega)) (af (yx (by omega)) (af (Jp (by omega)) ?_));have key:∀a b:List ae,a=row.take k→b=row.drop (k+1)→((FX G 170 qq (([a,b],()),())).bind fun(y3:(((List ae)×Unit)×Unit))=>some (y3.1,()))=some ((bB (row.take k++row.drop (k+1)),()),()):=by intro a b ha hb;subst ha hb;refine aa (VP hG [row.take k,row.drop (k+1)] (by simp) (by unfold total;simp;omega)) ?_;refine congrArg (fun l:List ae=>some ((l,()),())) ?_;simp
  exact key _ _ (uN row k) (CF row (by omega))
 ·have h1:=fS.2 hd;refine af (decide_eq_true h1) (aa (Hq hG row (by omega)) ?_);refine congrArg (fun l:List ae=>some ((l,()),())) ?_;congr 1
  symm
  rw[List.filter_eq_self];intro a ha;have:a≠d:=fun e=>hd (e▸ha);simpa using this
theorem aaJ(hG:HG G)(row:List ae)(dq d:ae)(hl:row.length≤50000000):FX G 187 vx ((row,dq,d,()),())=some ((dJ row dq d,()),()):=by
 refine aB (hG _ _ rfl) aey ?_;refine aa (EU (hG _ _ rfl) row dq (by omega)) ?_;unfold dJ;by_cases ho:dq∈row
 ·obtain⟨k,h1,h2,h3⟩:=eU ho;have aH:=(aa9.1 h2).1;refine ag (decide_eq_false (show ¬idx dq row 0<0 by omega)) ?_;refine aa (Ho hG row d (by omega)) ?_;by_cases hd:d∈row
  ·rw[if_neg (fun h=>h.2 hd)];exact af (decide_eq_true hd) (aa (Hq hG row (by omega)) rfl)
  rw[if_pos ⟨ho,hd⟩];refine ag (decide_eq_false hd) ?_;show cond (bu row.length 0 (idx dq row 0)) (cond (bu row.length (IntKind.wrap .i64 (idx dq row 0+1)) ((row.length:Nat):Int)) ((FX G 170 qq (([cut row 0 (idx dq row 0),[d],cut row (IntKind.wrap .i64 (idx dq row 0+1)) ((row.length:Nat):Int)],()),())).bind fun(y3:(((List ae)×Unit)×Unit))=>some (y3.1,())) none) none=_;rw[h1,aK aH (by omega)];refine af (yx (by omega)) (af (Jp (by omega)) ?_);have key:∀a b R:List ae,a=row.take k→b=row.drop (k+1)→R=bB (row.set ((k:Int)).toNat d)→((FX G 170 qq (([a,[d],b],()),())).bind fun(y3:(((List ae)×Unit)×Unit))=>some (y3.1,()))=some ((R,()),()):=by intro a b R ha hb hR;subst ha hb hR;refine aa (VP hG [row.take k,[d],row.drop (k+1)] (by simp) (by unfold total;simp;omega)) ?_;refine congrArg (fun l:List ae=>some ((l,()),())) ?_;rw[Int.toNat_natCast,List.set_eq_take_append_cons_drop,if_pos aH];simp
  exact key _ _ _ (uN row k) (CF row (by omega)) rfl
 ·have h1:=fS.2 ho;rw[if_neg (fun h=>ho h.1)];exact af (decide_eq_true h1) (aa (Hq hG row (by omega)) rfl)
theorem aaK(hG:HG G)(row:List ae)(d:ae)(hl:row.length≤100000000):FX G 140 D6 ((row,d,()),())=some (BB (cU row d (row.length-1)),()):=by
 refine aB (hG _ _ rfl) aeM ?_;have key:FX G 167 D8 ((row,(d,((IntKind.wrap .i64 (((row.length:Nat):Int)-1)),()))),())=some (BB (cU row d (row.length-1)),()):=by
  refine aB (hG _ _ rfl) aao ?_;refine aa (EU (hG _ _ rfl) row d (by omega)) ?_;unfold cU;by_cases hd:d∈row
  ·rw[if_pos hd];obtain⟨k,h1,h2,h3⟩:=eU hd;have aH:=(aa9.1 h2).1;refine ag (decide_eq_false (show ¬idx d row 0<0 by omega)) ?_;refine ag (Jd hd) ?_;have hw:IntKind.wrap .i64 (((row.length:Nat):Int)-1)=((row.length-1:Nat):Int):=by rw[wrap_small (by omega) (by omega)];omega
   have Lq:IntKind.wrap .i64 (idx d row 0+IntKind.wrap .i64 (((row.length:Nat):Int)-1))=((k+(row.length-1):Nat):Int):=by rw[hw,h1,wrap_small (by omega) (by omega)];rfl
   have Ai:(k+(row.length-1))%row.length<row.length:=adr _ (by omega);have hx:=abb Ai;refine aa (show bh row (Int.tmod (IntKind.wrap .i64 (idx d row 0+IntKind.wrap .i64 (((row.length:Nat):Int)-1))) ((row.length:Nat):Int))=some row[(k+(row.length-1))%row.length] by rw[Lq,tD];exact aC hx) ?_;rw[h1,Int.toNat_natCast,hx];rfl
  ·rw[if_neg hd];exact af (decide_eq_true (fS.2 hd)) rfl
 refine aa key ?_;rfl
end Go.Vs
