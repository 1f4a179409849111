/- What the program computes at -/
import Derived.Test.YtoleelddkocpkaaGreatPlaces
set_option linter.unusedVariables false
set_option linter.unusedSimpArgs false
namespace Go.Vs
open Go.Proofs
variable {G:(f:FuncId)→(g:aN)→Option (g.A→Option g.B)}
theorem get_at{s:ByteArray}{i:Nat}{c:UInt8}(h:s.data.toList[i]? = some c):s.get! i=c:=by
 have hi:i<s.data.size:=by grind
 have h2:=(abu.1 h).2;show s.data[i]! = c;simp_all
theorem RB{s:ByteArray}{i:Nat}(h:(s.get! i).toNat<128):Utf8.decode s i=((s.get! i).toNat,1):=by simp_all [Utf8.decode,Nat.add_zero,if_pos]
theorem RC{s:ByteArray}{i:Nat}(h:¬(s.get! i).toNat<128):128≤(Utf8.decode s i).1:=by
 unfold Utf8.decode;simp only[Nat.add_zero];rw[if_neg h]
 repeat' split
 all_goals first|(simp_all only[Bool.and_eq_true,decide_eq_true_eq];omega)|decide|omega
theorem alW(hG:G 141 xh=none)(s:ByteArray)(hs:s.size≤100000000):∀(n i:Nat),i+n=s.size → LX G 141 xh Tryz.f141 zp (aK Tryz.prog 141 0) ((s,()),((),((s,i),())))=some ((((s.data.toList.drop i).all lK&&decide (s.size≤16),()),()):(Bool×Unit)×Unit):=by
 have hl:s.data.toList.length=s.size:=by simp
 intro n
 induction n with
 |zero =>
  intro i hi;refine ar UU ?_;refine af (decide_eq_false (show ¬(i<s.size) by omega)) ?_;refine congrArg (fun b:Bool=>some ((b,()),())) ?_
  grind
 |succ n ih =>
  intro i hi;have aO:i<s.data.toList.length:=by omega
  have hx:s.data.toList[i]? = some s.data.toList[i]:=abn aO;generalize s.data.toList[i]=c at hx;have hd:s.data.toList.drop i=c::s.data.toList.drop (i+1):=by
   grind [List.drop_eq_getElem_cons,List.getElem?_eq_getElem]
  have hg:=get_at hx;refine ar UU ?_;refine ae (decide_eq_true (show i<s.size by omega)) ?_;show cond (decide (qm s i<32)) _ (cond (decide (qm s i>126)) _ (LX G 141 xh Tryz.f141 zp (aK Tryz.prog 141 0) ((s,()),((),((s,i+B8 s i),())))))=_;rw[hd,List.all_cons];by_cases h1:c.toNat<128
  ·have hr:Utf8.decode s i=(c.toNat,1):=by grind [RB]
   have hr1:qm s i=(c.toNat:Int):=by grind [qm]
   have QU:B8 s i=1:=by grind [B8]
   rw[hr1,QU];by_cases h2:c.toNat<32
   ·refine ae (decide_eq_true (by omega)) ?_;have:lK c=false:=by grind [lK]
    rw[this];rfl
   refine af (decide_eq_false (by omega)) ?_;by_cases h3:126<c.toNat
   ·refine ae (decide_eq_true (by omega)) ?_;have:lK c=false:=by grind [lK]
    rw[this];rfl
   refine af (decide_eq_false (by omega)) ?_;have:lK c=true:=by grind [lK]
   rw[this,Bool.true_and];exact ih (i+1) (by omega)
  ·have h2:=RC (s:=s) (i:=i) (by simp_all);have hr1:128≤qm s i:=by unfold qm;omega
   refine af (decide_eq_false (by omega)) (ae (decide_eq_true (by omega)) ?_);have:lK c=false:=by grind [lK]
   rw[this];rfl
theorem agb(hG:G 141 xh=none)(s:ByteArray)(hs:s.size≤100000000):FX G 141 xh ((s,()),())=some ((kI s,()),()):=by refine av hG akW ?_;have:=alW hG s hs s.size 0 (by omega);rw[List.drop_zero]at this;exact this
theorem agc(hG:G 143 Ip=none)(n:Int):FX G 143 Ip ((n,()),())=some ((jX n,()),()):=by
 refine av hG akX ?_;show(cond (decide (n≥-1099511627776)) (some ((decide (n≤1099511627776),()),())) (some ((false,()),())):Option ((Bool×Unit)×Unit))=some ((jX n,()),())
 grind [jX]
def RD(n:Int):Prop := -9223372036854775808≤n∧n<9223372036854775808
theorem Vv(x:BitVec 64):IntKind.wrap .i64 ((x.toNat:Nat):Int)=x.toInt:=by
 grind [IntKind.wrap,IntKind.bits,IntKind.signed,BitVec.toInt_eq_toNat_cond]
theorem ofInt_toInt{n:Int}(h:RD n):(BitVec.ofInt 64 n).toInt=n:=by
 grind [RD,BitVec.toInt_ofInt,Int.bmod_eq_of_le]
theorem YF{n:Int}(h:RD n):(dr .andNot .i64 n 3==(0:Int))=decide (0≤n∧n≤3):=by
 have e:dr .andNot .i64 n 3=(BitVec.ofInt 64 n &&& ~~~(BitVec.ofInt 64 3)).toInt:=by unfold dr;exact Vv _
 rw[e,Bool.eq_iff_iff];simp only[beq_iff_eq,decide_eq_true_eq];generalize hx:BitVec.ofInt 64 n=x;have hn:=ofInt_toInt h;rw[hx]at hn;have h1:(x &&& ~~~(BitVec.ofInt 64 3)).toInt=0↔(x &&& ~~~(BitVec.ofInt 64 3))=0#64:=by
  constructor
  ·intro h;exact BitVec.eq_of_toInt_eq (by rw[h];rfl)
  simp_all
 rw[h1,←hn];constructor
 ·intro h;have h2:x=x &&& 3#64:=by
   have h3:x=(x &&& ~~~(BitVec.ofInt 64 3)) ||| (x &&& 3#64):=by
    ext i hi;simp only[BitVec.getElem_or,BitVec.getElem_and,BitVec.getElem_not]
    grind
   grind
  grind [BitVec.toNat_and,Nat.and_le_right,BitVec.toInt_eq_toNat_cond]
 ·intro h;have h4:x.toNat≤3:=by rw[BitVec.toInt_eq_toNat_cond]at h;omega
  have h5:x=0#64∨x=1#64∨x=2#64∨x=3#64:=by
   have:x.toNat=0∨x.toNat=1∨x.toNat=2∨x.toNat=3:=by omega
   grind
  grind
theorem YG{n:Int}(h:RD n):(dr .andNot .i64 n 1==(0:Int))=decide (n=0∨n=1):=by
 have e:dr .andNot .i64 n 1=(BitVec.ofInt 64 n &&& ~~~(BitVec.ofInt 64 1)).toInt:=by unfold dr;exact Vv _
 rw[e,Bool.eq_iff_iff];simp only[beq_iff_eq,decide_eq_true_eq];generalize hx:BitVec.ofInt 64 n=x;have hn:=ofInt_toInt h;rw[hx]at hn;have h1:(x &&& ~~~(BitVec.ofInt 64 1)).toInt=0↔(x &&& ~~~(BitVec.ofInt 64 1))=0#64:=by
  constructor
  ·intro h;exact BitVec.eq_of_toInt_eq (by rw[h];rfl)
  simp_all
 rw[h1,←hn];constructor
 ·intro h;have h2:x=x &&& 1#64:=by
   have h3:x=(x &&& ~~~(BitVec.ofInt 64 1)) ||| (x &&& 1#64):=by
    ext i hi;simp only[BitVec.getElem_or,BitVec.getElem_and,BitVec.getElem_not]
    grind
   grind
  grind
 grind
theorem Vw(hG:HG G)(d:ab)(h:RD d.2):FX G 72 Dd ((d,()),())=some ((nq d,()),()):=by
 refine av (hG _ _ rfl) aev ?_;refine aa (Lj (hG _ _ rfl) d.1) ?_;unfold nq
 cases ck d.1
 ·rfl
 ·exact ae rfl (congrArg (fun b:Bool=>some ((b,()),())) (YG h))
theorem agd(hG:HG G)(c:rC)(h:RD c.2.2):FX G 151 Fl ((c,()),())=some ((Br c,()),()):=by
 refine av (hG _ _ rfl) akV ?_;refine aa (Lj (hG _ _ rfl) c.1) ?_;unfold Br
 cases ck c.1
 ·rfl
 refine ae rfl ?_;have hb:(((c.2.1.1==(0:Int))&&(c.2.1.2==(0:Int)))&&(c.2.2==(0:Int)))=decide (c.2=zD):=lJ c.2 zD;by_cases hz:c.2=zD
 ·refine ae (hb.trans (decide_eq_true hz)) ?_;rw[decide_eq_true hz,Bool.or_true];rfl
 ·refine af (hb.trans (decide_eq_false hz)) ?_;refine aa (Vw hG c.2 h) ?_;rw[decide_eq_false hz,Bool.or_false];rfl
structure Fit(o:bq):Prop where
 a:RD (oA o).2.2
 b:RD (oB o).2.2
 n:RD (oN o)
 t:we o
def D8(o:bq):bq :=if o.1=6 then(o.1,(ba o,(zI,(bC o,(zC,(zC,(false,(e0,0))))))))
 else if o.1=3 then(o.1,(ba o,(zI,(zI,(oA o,(oB o,(false,(e0,0))))))))
 else if o.1=5 then(o.1,(ba o,(fC o,(bC o,(zC,(zC,(false,(e0,oN o))))))))
 else if o.1=7 then(o.1,(ba o,(zI,(zI,(zC,(zC,(qX o,(pT o,0))))))))
 else if o.1=8 then(o.1,(ba o,(zI,(zI,(zC,(zC,(qX o,(e0,oN o))))))))
 else(o.1,(ba o,(zI,(zI,(zC,(zC,(false,(e0,0))))))))
def IQ(o:bq):Int :=if o.1=6 then(if ck (ba o)=true∧ck (bC o)=true then 0 else 1)
 else if o.1=3 then(if ck (ba o)=true∧Br (oA o)=true∧Br (oB o)=true then 0 else 1)
 else if o.1=5 then(if ck (ba o)=true∧ck (fC o)=true∧ck (bC o)=true∧0≤oN o∧oN o≤3 then 0 else 1)
 else if o.1=7 then(if ck (ba o)=true then(if kI (pT o)=true then 0 else 4) else 1)
 else if o.1=8 then(if ck (ba o)=true∧jX (oN o)=true then 0 else 1)
 else if o.1=1∨o.1=2∨o.1=4 then(if ck (ba o)=true then 0 else 1)
 else 1
theorem Jq{o:bq}{k:Int}(h:o.1=k):(o.1==k)=true:=by simp[h]
theorem A1{o:bq}{k:Int}(h:¬o.1=k):(o.1==k)=false:=by simp[h]
theorem alX(hG:HG G)(o:bq)(hf:Fit o):FX G 108 Uc ((o,()),())=some ((D8 o,(IQ o,())),()):=by
 refine av (hG _ _ rfl) akD ?_;refine aa (Lj (hG _ _ rfl) (ba o)) ?_;unfold D8 IQ;by_cases h1:o.1=1
 ·refine ae (Jq h1) (ae (Jq h1) ?_);rw[if_neg (by omega),if_neg (by omega),if_neg (by omega),if_neg (by omega),if_neg (by omega),if_neg (by omega),if_neg (by omega),if_neg (by omega),if_neg (by omega),if_neg (by omega),if_pos (by omega)]
  cases ck (ba o)<;>rfl
 refine af (A1 h1) ?_;by_cases h2:o.1=2
 ·refine ae (Jq h2) (ae (Jq h2) ?_);rw[if_neg (by omega),if_neg (by omega),if_neg (by omega),if_neg (by omega),if_neg (by omega),if_neg (by omega),if_neg (by omega),if_neg (by omega),if_neg (by omega),if_neg (by omega),if_pos (by omega)]
  cases ck (ba o)<;>rfl
 refine af (A1 h2) ?_;by_cases h4:o.1=4
 ·refine ae (Jq h4) ?_;rw[if_neg (by omega),if_neg (by omega),if_neg (by omega),if_neg (by omega),if_neg (by omega),if_neg (by omega),if_neg (by omega),if_neg (by omega),if_neg (by omega),if_neg (by omega),if_pos (by omega)]
  cases ck (ba o)<;>rfl
 refine af (A1 h4) ?_;by_cases h6:o.1=6
 ·refine ae (Jq h6) ?_;rw[if_pos h6,if_pos h6]
  cases ck (ba o)
  ·rfl
  refine ae rfl (aa (Lj (hG _ _ rfl) (bC o)) ?_)
  cases ck (bC o)<;>rfl
 refine af (A1 h6) ?_;rw[if_neg h6,if_neg h6];by_cases h3:o.1=3
 ·refine ae (Jq h3) ?_;rw[if_pos h3,if_pos h3]
  cases ck (ba o)
  ·rfl
  refine ae rfl (aa (agd hG (oA o) hf.a) ?_)
  cases Br (oA o)
  ·rfl
  refine ae rfl (aa (agd hG (oB o) hf.b) ?_)
  cases Br (oB o)<;>rfl
 refine af (A1 h3) ?_;rw[if_neg h3,if_neg h3];by_cases h5:o.1=5
 ·refine ae (Jq h5) ?_;rw[if_pos h5,if_pos h5]
  cases ck (ba o)
  ·rfl
  refine ae rfl (aa (Lj (hG _ _ rfl) (fC o)) ?_)
  cases ck (fC o)
  ·rfl
  refine ae rfl (aa (Lj (hG _ _ rfl) (bC o)) ?_)
  cases ck (bC o)
  ·rfl
  refine ae rfl (bw (YF hf.n) ?_);by_cases h:0≤oN o∧oN o≤3
  ·rw[decide_eq_true h,if_pos ⟨rfl,rfl,rfl,h⟩];rfl
  ·rw[decide_eq_false h,if_neg (fun k=>h k.2.2.2)];rfl
 refine af (A1 h5) ?_;rw[if_neg h5,if_neg h5];by_cases h7:o.1=7
 ·refine ae (Jq h7) ?_;rw[if_pos h7,if_pos h7];refine aa (agb (hG _ _ rfl) (pT o) hf.t) ?_
  cases kI (pT o)<;>cases ck (ba o)<;>rfl
 refine af (A1 h7) ?_;rw[if_neg h7,if_neg h7];by_cases h8:o.1=8
 ·refine ae (Jq h8) ?_;rw[if_pos h8,if_pos h8]
  cases ck (ba o)
  ·rfl
  refine ae rfl (aa (agc (hG _ _ rfl) (oN o)) ?_)
  cases jX (oN o)<;>rfl
 refine af (A1 h8) ?_;rw[if_neg h8,if_neg h8,if_neg (by omega)];rfl
theorem RE(o:bq)(h1:1≤o.1)(h8:o.1≤8):Bu (D8 o) o=Bu (xX o) zOp:=by
 rw[Bool.eq_iff_iff,Lf,Lf];obtain⟨k,i,n,m,⟨a1,a2⟩,⟨b1,b2⟩,f,t,q⟩:=o;simp only at h1 h8;unfold D8 xX zOp;have:k=1∨k=2∨k=3∨k=4∨k=5∨k=6∨k=7∨k=8:=by omega
 rcases this with rfl|rfl|rfl|rfl|rfl|rfl|rfl|rfl<;>simp only[Int.reduceEq,if_true,if_false]<;>constructor<;>intro h<;>simp only[zC,Prod.mk.injEq,true_and,and_true]at h ⊢<;>grind
theorem alY(hG:HG G)(o:bq)(hf:Fit o):FX G 82 T8 ((o,()),())=some ((cC o,()),()):=by
 refine av (hG _ _ rfl) aki ?_;refine aa (alX hG o hf) ?_;refine bw (b:=Bu (D8 o) o) rfl ?_;unfold cC;by_cases h1:o.1<1
 ·rw[if_pos h1];have:IQ o=1:=by unfold IQ;omega
  rw[this];cases Bu (D8 o) o<;>rfl
 rw[if_neg h1];by_cases h8:8<o.1
 ·rw[if_pos h8];have:IQ o=1:=by unfold IQ;omega
  rw[this];cases Bu (D8 o) o<;>rfl
 rw[if_neg h8,RE o (by omega) (by omega)];have hk:o.1=1∨o.1=2∨o.1=3∨o.1=4∨o.1=5∨o.1=6∨o.1=7∨o.1=8:=by omega
 by_cases hm:ck (ba o)=true
 case neg =>
  have hb:IQ o=1:=by simp_all [IQ]
  rw[if_pos (by simpa using hm),hb];cases Bu (xX o) zOp<;>rfl
 rw[if_neg (by simp[hm])]
 cases Bu (xX o) zOp
 ·rfl
 rw[if_neg (by simp)];refine af rfl ?_;refine congrArg (fun n:Int=>some ((n,()),())) ?_;unfold IQ
 grind
theorem age(hG:HG G)(l:List bq)(hl:l.length≤1073741824)(hf:∀o∈l,Fit o):FX G 59 Ij ((l,()),())=some ((c8 l,()),()):=by
 refine av (hG _ _ rfl) akx ?_;unfold c8;by_cases h0:l.length=0
 ·refine ae (show(((l.length:Nat):Int)==0)=true by simp[h0]) ?_;rw[if_neg (by omega)];rfl
 refine af (show(((l.length:Nat):Int)==0)=false by simp_all) ?_;by_cases h6:6<l.length
 ·refine ae (decide_eq_true (show((l.length:Nat):Int)>6 by omega)) ?_;rw[if_neg (by omega)];rfl
 refine af (decide_eq_false (show ¬((l.length:Nat):Int)>6 by omega)) ?_;rw[if_pos (by omega)];have loop:∀(n i:Nat),i+n=l.length→LX G 59 Ij Tryz.f59 DK (aK Tryz.prog 59 0) ((l,(((l.length:Nat):Int),((i:Int),()))),((),()))=some ((lL (l.drop i),()),()):=by
  intro n
  induction n with
  |zero =>intro i hi;refine ar UL ?_;refine af (decide_eq_false (show ¬((i:Int)<((l.length:Nat):Int)) by omega)) ?_;rw[List.drop_eq_nil_of_le (by omega)];rfl
  |succ n ih =>
   intro i hi;have aO:i<l.length:=by omega
   refine ar UL ?_;refine ae (aT aO) (aa (aA (abn aO)) ?_);refine aa (alY hG l[i] (hf _ (ac8 aO))) ?_;rw[List.drop_eq_getElem_cons aO,lL];by_cases hz:cC l[i]=0
   ·rw[if_neg (by simp[hz])];refine af (show(cC l[i] != 0)=false by simp[hz]) ?_;rw[wI,aD aO hl];exact ih (i+1) (by omega)
   ·rw[if_pos hz];exact ae (show(cC l[i] != 0)=true by simp[hz]) rfl
 have:=loop l.length 0 (by omega);rw[List.drop_zero]at this;exact this
theorem aax(hG:HG G)(v:ag)(x:ID):FX G 198 GF ((v,x,()),())=some ((rW v.1 x,()),()):=by refine av (hG _ _ rfl) aeS ?_;exact aa (Pg hG v.1 x) rfl
def ct(l:List ag)(x:ID):Nat:=l.countP fun v=>gL v.1 x
def dC(l:List ag):Prop:=l.Pairwise fun a b=>gL a.1 b.1=true
theorem IS(l:List ag)(x:ID):ct l x≤l.length:=adr
theorem uz{l:List ag}{x:ID}(h:∀v∈l,gL v.1 x=false):ct l x=0:=by
 grind [ct,List.countP_eq_zero]
theorem zF{x:ID}:∀{l:List ag},dC l→∀(k:Nat) (v:ag),l[k]? = some v→(gL v.1 x=true↔k<ct l x)
 |[],_,k,v,h=>by simp at h
 |w::r,hs,k,v,h=>by
  have hw:∀{u:ag},u∈r→gL w.1 u.1=true:=fun {u} hu=>acF hs hu;have hr:dC r:=hs.of_cons;by_cases aO:gL w.1 x=true
  ·have e:ct (w::r) x=ct r x+1:=by grind [ct,List.countP_cons_of_pos]
   cases k with
   |zero=>simp_all
   |succ k=>have:=zF (x:=x) hr k v (by simpa using h);simp_all
  ·have hn:∀u∈w::r,gL u.1 x=false:=fun u hu=>by
    rcases abz.1 hu with rfl|hu
    ·simp_all
    ·rw[Bool.eq_false_iff];grind [jF]
   grind [uz,List.mem_of_getElem?]
theorem Vx(hG:HG G)(l:List ag)(x:ID)(hs:dC l)(hl:l.length≤50000000):∀(n i j:Nat),j-i≤n→i≤ct l x→ct l x≤j→j≤l.length → LX G 199197 jU Tryz.f197 jt (aK Tryz.prog 197 0) ((l,(((l.length:Nat):Int),((i:Int),((j:Int),())))),(((x,()),()),()))=some (((((ct l x:Nat):Int),(decide ((l[ct l x]?).map (·.1)=some x),())):Int×(Bool×Unit)),()):=by
 have vF:=IS l x;have fin:∀(i j:Nat),¬(i<j)→i≤ct l x→ct l x≤j→LX G 199197 jU Tryz.f197 jt (aK Tryz.prog 197 0) ((l,(((l.length:Nat):Int),((i:Int),((j:Int),())))),(((x,()),()),()))=some (((((ct l x:Nat):Int),(decide ((l[ct l x]?).map (·.1)=some x),())):Int×(Bool×Unit)),()):=fun i j Gf h1 h2=>by
  have hi:i=ct l x:=by omega
  subst hi;refine ar DQ ?_;refine af (decide_eq_false (show ¬(((ct l x:Nat):Int)<(j:Int)) by omega)) ?_;by_cases hc:ct l x<l.length
  ·have hx:l[ct l x]? = some l[ct l x]:=abn hc;refine ae (aT hc) ?_;refine aa (aA hx) ?_;refine aa (aax hG l[ct l x] x) ?_;refine congrArg (fun b:Bool=>some ((((ct l x:Nat):Int),(b,())),())) ?_
   grind [rW,ct]
  ·refine af (decide_eq_false (show ¬(((ct l x:Nat):Int)<((l.length:Nat):Int)) by omega)) ?_;refine congrArg (fun b:Bool=>some ((((ct l x:Nat):Int),(b,())),())) ?_;simp_all
 intro n
 induction n with
 |zero=>grind
 |succ n ih =>
  intro i j Gf h1 h2 h3;by_cases aO:i<j
  case neg=>grind
  refine ar DQ ?_;refine ae (decide_eq_true (show((i:Int)<(j:Int)) by omega)) ?_;refine af rfl ?_;have hm:=Nr (i:=i) (j:=j) (by omega) (by omega);have hh:(i+j) / 2<l.length:=by omega
  have hx:l[(i+j) / 2]? = some l[(i+j) / 2]:=abn hh;have qL:=zF (x:=x) hs ((i+j) / 2) _ hx;refine aa (show aS l (IntKind.wrap .i64 (ir .u64 (IntKind.wrap .u64 (IntKind.wrap .i64 ((i:Int)+(j:Int)))) (1:Int)))=some l[(i+j) / 2] by rw[hm];exact aA hx) ?_;refine aa (aax hG l[(i+j) / 2] x) ?_;by_cases ho:gL l[(i+j) / 2].1 x=true
  ·refine ae (decide_eq_true ((mi _ _).2 ho)) ?_;have hc:=qL.1 ho;have hw:IntKind.wrap .i64 (IntKind.wrap .i64 (ir .u64 (IntKind.wrap .u64 (IntKind.wrap .i64 ((i:Int)+(j:Int)))) (1:Int))+1)=(((i+j) / 2+1:Nat):Int):=by rw[hm];exact aD hh (by omega)
   have:=ih ((i+j) / 2+1) j (by omega) (by omega) h2 h3;rw[←hw]at this;exact this
  ·refine af (decide_eq_false (fun h=>ho ((mi _ _).1 h))) ?_;have hc:¬(i+j) / 2<ct l x:=fun h=>ho (qL.2 h);have:=ih i ((i+j) / 2) (by omega) h1 (by omega) (by omega);rw[←hm]at this;exact this
theorem Vy(hG:HG G)(l:List ag)(x:ID)(hs:dC l)(hl:l.length≤50000000) :
  FX G 199197 jU ((l,x,()),())=some (((((ct l x:Nat):Int),(decide ((l[ct l x]?).map (·.1)=some x),())):Int×(Bool×Unit)),()):=by
 refine av (hG _ _ rfl) UZ ?_;exact Vx hG l x hs hl l.length 0 l.length (by omega) (by omega) (IS l x) (acb _)
theorem pX(hG:HG G)(w:aW)(x:ID)(hs:dC w.2.1)(hl:w.2.1.length≤50000000) :
  FX G 159 oc ((x,()),(w,()))=some (((((ct w.2.1 x:Nat):Int),(decide ((w.2.1[ct w.2.1 x]?).map (·.1)=some x),())):Int×(Bool×Unit)),(w,())):=by
 refine av (hG _ _ rfl) aeB ?_;exact aa (Vy hG w.2.1 x hs hl) rfl
theorem zG{x:ID}:∀{l:List ag},dC l→aZ l x=(l[ct l x]?).filter fun v=>decide (v.1=x)
 |[],_=>rfl
 |w::r,hs=>by
  have hw:∀{u:ag},u∈r→gL w.1 u.1=true:=fun {u} hu=>acF hs hu;have hr:dC r:=hs.of_cons;by_cases aO:gL w.1 x=true
  ·have e:ct (w::r) x=ct r x+1:=by unfold ct;rw[List.countP_cons_of_pos (by simpa using aO)]
   have bz:¬w.1=x:=fun e=>by rw[e,bZ]at aO;cases aO
   rw[e];simp only[aZ,List.find?_cons,bz,decide_false,List.getElem?_cons_succ];exact zG hr
  ·have hn:∀u∈w::r,gL u.1 x=false:=fun u hu=>by
    rcases abz.1 hu with rfl|hu
    ·simpa using aO
    ·rw[Bool.eq_false_iff];intro h2;exact aO (jF (hw hu) h2)
   rw[uz hn];by_cases he:w.1=x
   ·simp[aZ,List.find?_cons,he,Option.filter]
   ·have Ov:gL x w.1=true:=my (by simpa using aO) he;have:aZ r x=none:=by
     unfold aZ;rw[List.find?_eq_none];intro u hu h2;have h3:u.1=x:=by simpa using h2
     have h4:=hw hu;rw[h3]at h4;have:=mw h4;rw[Ov]at this;cases this
    rw[show aZ (w::r) x=aZ r x by simp only[aZ,List.find?_cons,he,decide_false],this];simp[he,Option.filter]
theorem dy{l:List ag}{x:ID}(hs:dC l):decide ((l[ct l x]?).map (·.1)=some x)=(aZ l x).isSome:=by
 grind [zG,ct,Option.filter]
theorem Ll(v:ag):∀{l:List ag},dC l→aZ l v.1=none→dH v l=l.take (ct l v.1)++(v::l.drop (ct l v.1))
 |[],_,_=>rfl
 |w::r,hs,hf=>by
  have hw:∀{u:ag},u∈r→gL w.1 u.1=true:=fun {u} hu=>acF hs hu;have hr:dC r:=hs.of_cons;have bz:¬w.1=v.1:=fun e=>by simp[aZ,e]at hf
  have C3:aZ r v.1=none:=by simpa[aZ,List.find?_cons,bz] using hf
  by_cases aO:gL w.1 v.1=true
  ·have e:ct (w::r) v.1=ct r v.1+1:=by unfold ct;rw[List.countP_cons_of_pos (by simpa using aO)]
   have Xs:gL v.1 w.1=false:=mw aO;rw[e,dH,if_neg (by simp[Xs]),Ll v hr C3];rfl
  ·have hn:∀u∈w::r,gL u.1 v.1=false:=fun u hu=>by
    rcases abz.1 hu with rfl|hu
    ·simpa using aO
    ·rw[Bool.eq_false_iff];intro h2;exact aO (jF (hw hu) h2)
   have Ov:gL v.1 w.1=true:=my (by simpa using aO) bz;rw[uz hn,dH,if_pos Ov];rfl
theorem zH{x:ID}:∀{l:List ag},dC l→(aZ l x).isSome=true→c9 l x=l.take (ct l x)++l.drop (ct l x+1)
 |[],_,hf=>by simp[aZ]at hf
 |w::r,hs,hf=>by
  have hw:∀{u:ag},u∈r→gL w.1 u.1=true:=fun {u} hu=>acF hs hu;have hr:dC r:=hs.of_cons;by_cases he:w.1=x
  ·have hn:∀u∈w::r,gL u.1 x=false:=fun u hu=>by
    rcases abz.1 hu with rfl|hu
    ·rw[he,bZ]
    ·rw[←he];exact mw (hw hu)
   have jN:c9 r x=r:=by unfold c9;rw[List.filter_eq_self];intro u hu;have h4:=hw hu;simp;intro e2;rw[he,e2,bZ]at h4;cases h4
   rw[uz hn];unfold c9;rw[List.filter_cons_of_neg (by simp[he])];exact jN
  ·have C3:(aZ r x).isSome=true:=by simpa[aZ,List.find?_cons,he] using hf
   have aO:gL w.1 x=true:=by
    obtain⟨u,hu⟩:=acn.1 C3;have h1:=ade hu;have h2:u.1=x:=by simpa using adu hu
    rw[←h2];exact hw h1
   have e:ct (w::r) x=ct r x+1:=by unfold ct;rw[List.countP_cons_of_pos (by simpa using aO)]
   rw[e];have:=zH hr C3;simp[c9,List.filter_cons,he]at this ⊢;exact this
theorem zJ(v:ag):∀{l:List ag},dC l→aZ l v.1=none→dC (dH v l)
 |[],_,_=>List.pairwise_singleton _ _
 |w::r,hs,hf=>by
  have hw:∀{u:ag},u∈r→gL w.1 u.1=true:=fun {u} hu=>acF hs hu;have hr:dC r:=hs.of_cons;have bz:¬w.1=v.1:=fun e=>by simp[aZ,e]at hf
  have C3:aZ r v.1=none:=by simpa[aZ,List.find?_cons,bz] using hf
  unfold dH
  split
  ·rename_i h;refine List.Pairwise.cons (fun u hu=>?_) hs;rcases abz.1 hu with rfl|hu
   ·exact h
   ·exact jF h (hw hu)
  ·rename_i h;have aO:gL w.1 v.1=true:=my (by simpa using h) (fun e=>bz e.symm);refine List.Pairwise.cons (fun u hu=>?_) (zJ v hr C3);rcases pU.1 hu with rfl|hu
   ·exact aO
   ·exact hw hu
theorem wh{l:List ag}{x:ID}(hs:dC l):dC (c9 l x):=hs.filter _
theorem dm{l:List ai}{x:ID}{v:ai}(hs:b7 l)(h:aR l x=some v):l[bT l x]? = some v:=by
 grind [uy,bT,Option.filter]
theorem iP{l:List ai}{x:ID}{v:ai}(h:aR l x=some v):v.1=x:=by simpa using adu h
theorem eO{l:List ai}{x:ID}{v:ai}(h:aR l x=some v):v∈l:=ade h
theorem kK{l:List ai}{x:ID}{k:Nat}{u:ai}(hs:b7 l)(hk:l[k]? = some u)(hu:u.1=x):k=bT l x:=by
 have h1:¬k<bT l x:=fun h=>by
  have:=(zz hs k u hk).2 h
  grind [bZ]
 have hf:(aR l x).isSome=true:=by
  grind [aR,List.find?_isSome,List.mem_of_getElem?]
 obtain⟨v,hv⟩:=acn.1 hf;have hg:=dm hs hv;by_cases h2:bT l x<k
 ·obtain⟨h3,h4⟩:=abu.1 hg;obtain⟨h5,h6⟩:=abu.1 hk;have:=ady.1 hs _ _ h3 h5 h2
  grind [iP,bZ]
 ·omega
theorem Lm{l:List ai}{x:ID}{v:ai}(hs:b7 l)(h:aR l x=some v)(g f:ai→ai)(h1:∀w,w.1=x→g w=f w)(h2:∀w,w.1≠x→g w=w):l.map g=l.set (bT l x) (f v):=by
 have hg:=dm hs h;apply adn;intro k;rw[List.getElem?_map,List.getElem?_set];by_cases hk:bT l x=k
 ·subst hk;rw[if_pos rfl,if_pos (List.getElem?_eq_some_iff.1 hg).1,hg]
  grind [iP]
 ·rw[if_neg hk]
  cases hu:l[k]? with
  |none=>rfl
  |some u =>
   grind [kK]
theorem nw{l:List ag}{x:ID}{v:ag}(hs:dC l)(h:aZ l x=some v):l[ct l x]? = some v:=by
 grind [zG,ct,Option.filter]
theorem xY{l:List ag}{x:ID}{v:ag}(h:aZ l x=some v):v.1=x:=by simpa using adu h
theorem RF{l:List ag}{x:ID}{v:ag}(h:aZ l x=some v):v∈l:=ade h
theorem RG{l:List ag}{x:ID}{k:Nat}{u:ag}(hs:dC l)(hk:l[k]? = some u)(hu:u.1=x):k=ct l x:=by
 have h1:¬k<ct l x:=fun h=>by
  have:=(zF hs k u hk).2 h
  grind [bZ]
 have hf:(aZ l x).isSome=true:=by
  grind [aZ,List.find?_isSome,List.mem_of_getElem?]
 obtain⟨v,hv⟩:=acn.1 hf;have hg:=nw hs hv;by_cases h2:ct l x<k
 ·obtain⟨h3,h4⟩:=abu.1 hg;obtain⟨h5,h6⟩:=abu.1 hk;have:=ady.1 hs _ _ h3 h5 h2
  grind [xY,bZ]
 ·omega
theorem Vz{l:List ag}{x:ID}{v:ag}(hs:dC l)(h:aZ l x=some v)(g f:ag→ag)(h1:∀w,w.1=x→g w=f w)(h2:∀w,w.1≠x→g w=w):l.map g=l.set (ct l x) (f v):=by
 have hg:=nw hs h;apply adn;intro k;rw[List.getElem?_map,List.getElem?_set];by_cases hk:ct l x=k
 ·subst hk;rw[if_pos rfl,if_pos (List.getElem?_eq_some_iff.1 hg).1,hg]
  grind [xY]
 ·rw[if_neg hk]
  cases hu:l[k]? with
  |none=>rfl
  |some u =>
   grind [RG]
theorem dC.map{l:List ag}(h:dC l){f:ag→ag}(hf:∀v,(f v).1=v.1):dC (l.map f):=by unfold dC at h ⊢;rw[List.pairwise_map];exact h.imp fun {a b} AW=>by rw[hf,hf];exact AW
theorem vt{α R:Type}{o:Option α}{a r:Option R}{f:α→Option R}{p:α}(h:o=some p)(k:f p=r):so o a f=r:=by subst h;exact k
theorem Pj{α R:Type}{o:Option α}{a r:Option R}{f:α→Option R}(h:o=none)(k:a=r):so o a f=r:=by subst h;exact k
def vu(w:aW)(x:ID):Int×aW :=if(aZ w.2.1 x).isSome=true then(12,w) else if 40≤w.2.1.length then(3,w) else(0,(w.1,(dH (x,(e0,0)) w.2.1,w.2.2)))
theorem aay(hG:HG G)(w:aW)(x:ID)(hs:dC w.2.1)(hl:w.2.1.length≤50000000):FX G 155 AJ ((x,()),(w,()))=some (((vu w x).1,()),((vu w x).2,())):=by
 refine av (hG _ _ rfl) aex ?_;refine aa (pX hG w x hs hl) ?_;unfold vu
 cases hf:(aZ w.2.1 x).isSome
 ·rw[if_neg (by simp)];refine af ((dy hs).trans hf) ?_;by_cases h2:40≤w.2.1.length
  ·rw[if_pos h2];exact ae (decide_eq_true (show((w.2.1.length:Nat):Int)≥40 by omega)) rfl
  ·rw[if_neg h2];refine af (decide_eq_false (show ¬((w.2.1.length:Nat):Int)≥40 by omega)) ?_;have hc:=IS w.2.1 x;have jO:sq w.2.1 ((ct w.2.1 x:Nat):Int) [((x,(e0,0)):ag)]=true:=by
    grind [sq,decide_eq_true,ct,fits]
   refine ae jO ?_;have e:jf w.2.1 ((ct w.2.1 x:Nat):Int) [((x,(e0,0)):ag)]=dH (x,(e0,0)) w.2.1:=by simp_all [Ll,e0,jf]
   exact congrArg (fun l:List ag=>some (((0:Int),()),((w.1,(l,w.2.2)),()))) e
 ·rw[if_pos rfl];exact ae ((dy hs).trans hf) rfl
def D9(w:aW)(o:bq):Option (Fin 2×Nat) :=if qX o=true then(if(aZ w.2.1 (ba o)).isSome=true then some (⟨1,by decide⟩,ct w.2.1 (ba o)) else none)
 else(if(aR w.1 (ba o)).isSome=true then some (⟨0,by decide⟩,bT w.1 (ba o)) else none)
theorem agf(hG:HG G)(w:aW)(o:bq)(hv:b7 w.1)(he:dC w.2.1)(hlv:w.1.length≤50000000)(hle:w.2.1.length≤50000000) :
  FX G 168 Ky ((o,()),(w,()))=some ((D9 w o,(D9 w o,())),(w,())):=by
 refine av (hG _ _ rfl) aeJ ?_;unfold D9;by_cases ho:qX o=true
 ·rw[if_pos ho];refine ae ho ?_;refine aa (pX hG w (ba o) he hle) ?_
  cases hf:aZ w.2.1 (ba o) with
  |none =>refine af ((dy he).trans (by rw[hf];rfl)) ?_;rfl
  |some e =>refine ae ((dy he).trans (by rw[hf];rfl)) ?_;have aO:=(abu.1 (nw he hf)).1;refine ae (cK (fG _) (aT aO)) ?_;exact ae (cK (fG _) (aT aO)) rfl
 ·rw[if_neg ho];refine af (by simpa using ho) ?_;refine aa (rH hG w (ba o) hv hlv) ?_
  cases hf:aR w.1 (ba o) with
  |none =>refine af ((gr hv).trans (by rw[hf];rfl)) ?_;rfl
  |some e =>refine ae ((gr hv).trans (by rw[hf];rfl)) ?_;have aO:=(abu.1 (dm hv hf)).1;refine ae (cK (fG _) (aT aO)) ?_;exact ae (cK (fG _) (aT aO)) rfl
def wi(w:aW)(o:bq):Int×aW :=if qX o=true then(if(aZ w.2.1 (ba o)).isSome=true then(0,(w.1,(w.2.1.map (jY o),w.2.2))) else(13,w))
 else(if(aR w.1 (ba o)).isSome=true then(0,(w.1.map (iO o),w.2)) else(13,w))
theorem alZ(hG:HG G)(w:aW)(o:bq)(hv:b7 w.1)(he:dC w.2.1)(hlv:w.1.length≤50000000)(hle:w.2.1.length≤50000000) :
  FX G 118 Uf ((o,()),(w,()))=some (((wi w o).1,()),((wi w o).2,())):=by
 refine av (hG _ _ rfl) ak0 ?_;refine aa (agf hG w o hv he hlv hle) ?_;by_cases ho:qX o=true
 ·cases hf:aZ w.2.1 (ba o) with
  |none =>
   have e1:D9 w o=none:=by simp_all [D9,if_pos]
   have e2:wi w o=(13,w):=by simp_all [wi,if_pos]
   rw[e2];exact Pj e1 (Pj e1 rfl)
  |some e =>
   have e1:D9 w o=some (⟨1,by decide⟩,ct w.2.1 (ba o)):=by simp_all [D9,if_pos]
   have hm:∀f:ag→ag,(∀u,u.1=ba o→jY o u=f u)→w.2.1.map (jY o)=w.2.1.set (ct w.2.1 (ba o)) (f e):=fun f hf1 =>Vz he hf (jY o) f hf1 (fun u hu=>by simp_all [jY,if_neg]);have e2:wi w o=(0,(w.1,(w.2.1.map (jY o),w.2.2))):=by simp_all [wi,if_pos]
   rw[e2];refine vt e1 (af rfl (ae rfl (vt e1 (af rfl (ae rfl ?_)))));by_cases h7:o.1=7
   ·refine ae (Jq h7) (aa (nw he hf) ?_);have:=hm (fun u=>(u.1,(pT o,u.2.2))) (fun u hu=>by simp_all [jY,if_pos]);exact congrArg (fun l:List ag=>some (((0:Int),()),((w.1,(l,w.2.2)),()))) this.symm
   ·refine af (A1 h7) (aa (nw he hf) ?_);have:=hm (fun u=>(u.1,(u.2.1,oN o))) (fun u hu=>by simp_all [jY,if_pos,if_neg]);exact congrArg (fun l:List ag=>some (((0:Int),()),((w.1,(l,w.2.2)),()))) this.symm
 ·have rY:qX o=false:=by simpa using ho
  cases hf:aR w.1 (ba o) with
  |none =>
   have e1:D9 w o=none:=by simp_all [D9,if_neg]
   have e2:wi w o=(13,w):=by simp_all [wi,if_neg]
   rw[e2];exact Pj e1 (Pj e1 rfl)
  |some e =>
   have e1:D9 w o=some (⟨0,by decide⟩,bT w.1 (ba o)):=by simp_all [D9,if_neg]
   have hm:∀f:ai→ai,(∀u,u.1=ba o→iO o u=f u)→w.1.map (iO o)=w.1.set (bT w.1 (ba o)) (f e):=fun f hf1 =>Lm hv hf (iO o) f hf1 (fun u hu=>by simp_all [iO,if_neg]);have e2:wi w o=(0,(w.1.map (iO o),w.2)):=by simp_all [wi,if_neg]
   rw[e2];refine vt e1 (ae rfl (vt e1 (ae rfl ?_)));by_cases h7:o.1=7
   ·refine ae (Jq h7) (aa (dm hv hf) ?_);have:=hm (fun u=>(u.1,(u.2.1,(pT o,u.2.2.2)))) (fun u hu=>by simp_all [iO,if_pos]);exact congrArg (fun l:List ai=>some (((0:Int),()),((l,w.2),()))) this.symm
   ·refine af (A1 h7) (aa (dm hv hf) ?_);have:=hm (fun u=>(u.1,(u.2.1,(u.2.2.1,oN o)))) (fun u hu=>by simp_all [iO,if_pos,if_neg]);exact congrArg (fun l:List ai=>some (((0:Int),()),((l,w.2),()))) this.symm
theorem VA(hG:HG G)(a b:ab):FX G 73 AO ((a,b,()),())=some ((nL a b,()),()):=by
 refine av (hG _ _ rfl) aeV ?_;refine aa (Pg hG a.1 b.1) ?_;refine aa (Vq hG a.2 b.2) ?_;refine aa (aav (hG _ _ rfl) (rW a.1 b.1) (Nq a.2 b.2)) ?_;refine congrArg (fun n:Int=>some ((n,()),())) ?_;obtain⟨a1,a2⟩:=a;obtain⟨b1,b2⟩:=b;unfold nL rW Nq mv;simp only[Prod.mk.injEq];by_cases h:a1=b1
 ·subst h;simp only[if_true,bZ,Bool.false_or,true_and,decide_true,Bool.true_and]
  grind
 grind
theorem agh(hG:G 195 mZ=none)(row:List ab)(d:ab)(hl:row.length≤1073741824):∀(n i:Nat),i+n=row.length → LX G 195 mZ Tryz.f195 xx (aK Tryz.prog 195 0) ((row,(((row.length:Nat):Int),((i:Int),()))),(((d,()),()),()))=some ((idx d (row.drop i) i,()),()):=by
 intro n
 induction n with
 |zero =>intro i hi;refine ar OO ?_;refine af (decide_eq_false (show ¬((i:Int)<((row.length:Nat):Int)) by omega)) ?_;rw[List.drop_eq_nil_of_le (by omega)];rfl
 |succ n ih =>
  intro i hi;have aO:i<row.length:=by omega
  refine ar OO ?_;refine ae (aT aO) (aa (aA (abn aO)) ?_);rw[List.drop_eq_getElem_cons aO,idx];by_cases he:row[i]=d
  ·rw[if_pos he];exact ae ((lJ d row[i]).trans (decide_eq_true he.symm)) rfl
  ·rw[if_neg he];refine af ((lJ d row[i]).trans (decide_eq_false fun h=>he h.symm)) ?_;rw[wI,aD aO hl];exact ih (i+1) (by omega)
theorem Ea(hG:G 195 mZ=none)(row:List ab)(d:ab)(hl:row.length≤1073741824):FX G 195 mZ ((row,d,()),())=some ((idx d row 0,()),()):=by refine av hG aeP ?_;have:=agh hG row d hl row.length 0 (by omega);rw[List.drop_zero]at this;exact this
theorem G3(hG:HG G)(row:List ab)(d:ab)(hl:row.length≤1073741824):FX G 194 xi ((row,d,()),())=some ((decide (d∈row),()),()):=by
 refine av (hG _ _ rfl) aeO ?_;refine aa (Ea (hG _ _ rfl) row d hl) ?_;refine congrArg (fun b:Bool=>some ((b,()),())) ?_;rw[Bool.eq_iff_iff];simp only[decide_eq_true_eq];have:=fh (d:=d) (row:=row)
 grind
theorem eX(a:ab):mv a a=false:=by unfold mv;simp[bZ]
theorem jG{a b c:ab}(h:mv a b=true)(k:mv b c=true):mv a c=true:=by
 grind [mv,gL]
theorem zK{a b:ab}(h:mv a b=false)(k:a≠b):mv b a=true:=by
 grind [mv,gL]
theorem IT{a b c:ab}(h:mv a b=true)(k:mv c b=false):mv a c=true:=by
 grind [mv,gL]
theorem xZ(a b:ab):nL a b<0↔mv a b=true:=by
 unfold nL;by_cases h:a=b
 ·grind [eX]
 grind
theorem qY{row:List ab}{k:Nat}(hk:k<row.length):row.getD k zD=row[k]:=by simp_all
theorem zL(row:List ab):∀(r:List ab) (i k:Nat),row.drop i=r→k<row.length→k≤i→(∀j,j<i→(hj:j<row.length)→mv row[j] (row.getD k zD)=false)→(∀j,j<k→(hj:j<row.length)→mv (row.getD k zD) row[j]=true) →(∀j,(hj:j<row.length)→mv row[j] (row.getD (fT row r i k) zD)=false)∧(∀j,j<fT row r i k→(hj:j<row.length)→mv (row.getD (fT row r i k) zD) row[j]=true)
 |[],i,k,hr,hk,hki,h1,h2=>by
  have hi:row.length≤i:=by simp_all
  exact⟨fun j hj=>h1 j (by omega) hj,h2⟩
 |x::r,i,k,hr,hk,hki,h1,h2=>by
  have hi:i<row.length:=by have:=congrArg List.length hr;grind
  have hx:row[i]=x:=by
   grind [List.drop_eq_getElem_cons]
  have tE:row.drop (i+1)=r:=by
   grind [List.drop_eq_getElem_cons]
  unfold fT
  split
  ·rename_i aO;rw[xZ]at aO;refine zL row r (i+1) i tE hi (by omega) (fun j hj ME=>?_) (fun j hj ME=>?_)
   ·rw[qY hi,hx];rcases Nat.lt_succ_iff_lt_or_eq.1 hj with hj|rfl
    ·grind [mv,jG]
    ·rw[hx,eX]
   grind [qY,IT]
  ·rename_i aO;rw[xZ]at aO;refine zL row r (i+1) k tE hk (by omega) (fun j hj ME=>?_) h2
   grind
theorem wj{row:List ab}(h:0<row.length):(∀j,(hj:j<row.length)→mv row[j] (row.getD (fT row row 0 0) zD)=false)∧(∀j,j<fT row row 0 0→(hj:j<row.length)→mv (row.getD (fT row row 0 0) zD) row[j]=true) :=zL row row 0 0 rfl h (acb _) (fun j hj=>by omega) (fun j hj=>by omega)
theorem Nt{d:ab}:∀{row:List ab} {k:Nat} {i:Int},row[k]? = some d→(∀j,j<k→row[j]?≠some d)→idx d row i=i+k
 |[],k,i,h,_=>by simp at h
 |e::r,0,i,h,_=>by simp at h;subst h;rw[idx,if_pos rfl];simp
 |e::r,k+1,i,h,hn=>by have h0:=hn 0 (by omega);rw[idx,if_neg (fun e=>h0 (by simp[e]))];rw[Nt (k:=k) (by simpa using h) (fun j hj=>by have:=hn (j+1) (by omega);simpa using this)];simp;omega
theorem VB{row:List ab}(h:0<row.length):idx (row.getD (fT row row 0 0) zD) row 0=((fT row row 0 0:Nat):Int):=by
 grind [ot,Nt,fT,zD,qY,List.getElem?_eq_getElem,List.getElem?_eq_some_iff,wj,eX]
theorem VC(hG:HG G)(row:List ab)(h:0<row.length)(hl:row.length≤100000000):FX G 74201 lz ((row,()),())=some ((row.getD (fT row row 0 0) zD,()),()):=by
 refine av (hG _ _ rfl) U3 ?_;refine af (decide_eq_false (show ¬((row.length:Nat):Int)<1 by omega)) ?_;refine aa (aA (i:=0) (abn h)) ?_;have loop:∀(n i k:Nat),i+n=row.length→k<row.length→LX G 74201 lz Tryz.f201 kE (aK Tryz.prog 201 0) ((row,((i:Int),())),(((zD,()),(((row.getD k zD),()),())),()))=some ((row.getD (fT row (row.drop i) i k) zD,()),()):=by
  intro n
  induction n with
  |zero =>intro i k hi hk;refine ar DR ?_;refine af (decide_eq_false (show ¬((i:Int)<((row.length:Nat):Int)) by omega)) ?_;rw[List.drop_eq_nil_of_le (by omega)];rfl
  |succ n ih =>
   intro i k hi hk;have aO:i<row.length:=by omega
   have hx:row[i]? = some row[i]:=abn aO;refine ar DR ?_;refine ae (aT aO) (aa (aA hx) ?_);refine aa (VA hG row[i] (row.getD k zD)) ?_;rw[List.drop_eq_getElem_cons aO,fT];by_cases ho:nL row[i] (row.getD k zD)<0
   ·rw[if_pos ho];refine ae (decide_eq_true ho) (aa (aA hx) ?_);have:=ih (i+1) i (by omega) aO;rw[←aD aO (by omega),qY aO]at this;exact this
   ·rw[if_neg ho];refine af (decide_eq_false ho) ?_;have:=ih (i+1) k (by omega) hk;rw[←aD aO (by omega)]at this;exact this
 have h1:=loop (row.length-1) 1 0 (by omega) h;have h2:fT row row 0 0=fT row (row.drop 1) 1 0:=by
  cases row with
  |nil=>simp at h
  |cons x r =>simp_all [List.drop_one,List.tail_cons,fT,if_neg,nL]
 rw[h2];have h3:row.getD 0 zD=row[0]:=qY h;rw[h3]at h1;exact h1
def total(ls:List (List ab)):Nat:=(ls.map List.length).sum
theorem Eb(a:List ab)(r:List (List ab)):total (a::r)=a.length+total r:=by rfl
theorem aaA(hG:HG G)(ls:List (List ab))(hn:ls.length≤1000)(hl:total ls≤500000000):FX G 202 pK ((ls,()),())=some ((ls.flatten,()),()):=by
 refine av (hG _ _ rfl) aeW ?_;have VD:∀(n i:Nat) (out:List ab),i+n=ls.length→out.length+total (ls.drop i)≤500000000→LX G 202 pK Tryz.f202 xz (aK Tryz.prog 202 1) ((ls,(((ls.length:Nat):Int),((i:Int),()))),((),(out,())))=some ((out++(ls.drop i).flatten,()),()):=by
  intro n
  induction n with
  |zero =>intro i out hi ho;refine ar OQ ?_;refine af (decide_eq_false (show ¬((i:Int)<((ls.length:Nat):Int)) by omega)) ?_;rw[List.drop_eq_nil_of_le (by omega),List.flatten_nil,List.append_nil];rfl
  |succ n ih =>
   intro i out hi ho;have aO:i<ls.length:=by omega
   rw[List.drop_eq_getElem_cons aO]at ho ⊢;have rY:out.length+(ls[i].length+total (ls.drop (i+1)))≤500000000:=by
    grind [total,Eb]
   refine ar OQ ?_;refine ae (aT aO) (aa (aA (abn aO)) ?_);refine ae (fits (show out.length+ls[i].length≤1073741824 by omega)) ?_;have:=ih (i+1) (out++ls[i]) (by omega) (by grind);rw[List.flatten_cons,←List.append_assoc];rw[←aD aO (by omega)]at this;exact this
 have VF:∀(n i m:Nat),i+n=ls.length→m+total (ls.drop i)=total ls→LX G 202 pK Tryz.f202 xy (aK Tryz.prog 202 0) ((ls,((m:Int),(ls,(((ls.length:Nat):Int),((i:Int),()))))),((),()))=some ((ls.flatten,()),()):=by
  intro n
  induction n with
  |zero =>
   intro i m hi hm;refine ar OP ?_;refine af (decide_eq_false (show ¬((i:Int)<((ls.length:Nat):Int)) by omega)) ?_;have hg:Ce (m:Int)=true:=by
    grind [Ce,decide_eq_true,fk]
   refine ae hg ?_;have:=VD ls.length 0 [] (by omega) (by simp_all);rw[List.drop_zero,List.nil_append]at this;exact this
  |succ n ih =>
   intro i m hi hm;have aO:i<ls.length:=by omega
   have ZE:m+ls[i].length+total (ls.drop (i+1))=total ls:=by
    rw[List.drop_eq_getElem_cons aO]at hm
    grind [total,Eb]
   refine ar OP ?_;refine ae (aT aO) (aa (aA (abn aO)) ?_);have hw:IntKind.wrap .i64 ((m:Int)+((ls[i].length:Nat):Int))=((m+ls[i].length:Nat):Int):=by rw[wrap_small (by omega) (by omega)];rfl
   refine af (decide_eq_false (show ¬IntKind.wrap .i64 ((m:Int)+((ls[i].length:Nat):Int))<0 by rw[hw];omega)) ?_;have:=ih (i+1) (m+ls[i].length) (by omega) ZE;rw[←aD aO (by omega),←hw]at this;exact this
 exact VF ls.length 0 0 (by omega) (by simp_all)
theorem BY{α:Type}(xs:List α){k:Nat}(hk:k≤xs.length):cut xs (k:Int) ((xs.length:Nat):Int)=xs.drop k:=by simp_all [cut,Int.toNat_natCast,List.take_of_length_le,Nat.le_refl]
theorem uA{α:Type}(xs:List α)(k:Nat):cut xs 0 (k:Int)=xs.take k:=by rfl
theorem IU{n k:Nat}(h:k≤n):aB n (k:Int) ((n:Nat):Int)=true:=by grind [aB]
theorem ya{n k:Nat}(h:k≤n):aB n 0 (k:Int)=true:=by grind [aB]
theorem Ec(hG:HG G)(row:List ab)(hl:row.length≤100000000):FX G 167 rE ((row,()),())=some ((cp row,()),()):=by
 refine av (hG _ _ rfl) aeI ?_;by_cases h0:row.length=0
 ·refine ae (show(((row.length:Nat):Int)==0)=true by simp[h0]) ?_;have:row=[]:=by simpa using h0
  subst this;rfl
 refine af (show(((row.length:Nat):Int)==0)=false by rw[beq_eq_false_iff_ne];omega) ?_;have hp:0<row.length:=by omega
 have hm:=ot row row 0 0 hp (by omega);refine aa (VC hG row hp hl) ?_;refine aa (Ea (hG _ _ rfl) row (row.getD (fT row row 0 0) zD) (by omega)) ?_;rw[VB hp];refine ae (IU (n:=row.length) (k:=fT row row 0 0) (by omega)) (ae (ya (n:=row.length) (k:=fT row row 0 0) (by omega)) ?_);have key:∀a b:List ab,a=row.drop (fT row row 0 0)→b=row.take (fT row row 0 0)→((FX G 202 pK (([a,b],()),())).bind fun(y3:(((List ab)×Unit)×Unit))=>some (y3.1,()))=some ((cp row,()),()):=by intro a b ha hb;subst ha hb;refine aa (aaA hG [row.drop (fT row row 0 0),row.take (fT row row 0 0)] (by simp) (by unfold total;simp;omega)) ?_;unfold cp EX;simp only[List.flatten_cons,List.flatten_nil,List.append_nil]
 exact key _ _ (BY row (by omega)) (uA row _)
theorem VG(hG:HG G)(ls:List (List ab))(hn:ls.length≤1000)(hl:total ls≤100000000):FX G 196 pJ ((ls,()),())=some ((cp ls.flatten,()),()):=by
 refine av (hG _ _ rfl) aeQ ?_;refine aa (aaA hG ls hn (by omega)) ?_;have hlen:ls.flatten.length=total ls:=by unfold total;simp_all
 exact aa (Ec hG ls.flatten (by omega)) rfl
theorem VH(hG:HG G)(row:List ab)(after d:ab)(hl:row.length≤50000000):FX G 158 Df ((row,after,d,()),())=some ((nM row after d,()),()):=by
  refine av (hG _ _ rfl) aez ?_;refine aa (G3 hG row d (by omega)) ?_;unfold nM;by_cases hd:d∈row
  · rw[if_pos hd]
    exact ae (decide_eq_true hd) (aa (Ec hG row (by omega)) rfl)
  rw[if_neg hd];refine af (decide_eq_false hd) ?_;refine aa (Ea (hG _ _ rfl) row after (by omega)) ?_;have hr:idx after row 0<((row.length:Nat):Int)∨row.length=0∧idx after row 0 = -1:=by
    grind [pP,List.getElem?_eq_some_iff]
  have hm:max (idx after row 0) (0:Int)=max 0 (idx after row 0):=by omega
  have hw:IntKind.wrap .i64 (max (idx after row 0) (0:Int)+1)=(((max 0 (idx after row 0)).toNat+1:Nat):Int):=by
    grind [wrap_small]
  obtain⟨k,hk,qh,SJ⟩:∃k:Nat,min (IntKind.wrap .i64 (max (idx after row 0) (0:Int)+1)) ((row.length:Nat):Int)=(k:Int)∧k≤row.length∧row.take k++(d::row.drop k)=row.take ((max 0 (idx after row 0)).toNat+1)++(d::row.drop ((max 0 (idx after row 0)).toNat+1)):=by
    rw[hw];by_cases h0:row.length=0
    · have:row=[]:=by simpa using h0
      subst this;exact⟨0,by simp;omega,by simp,by simp⟩
    grind
  have wa:(min (IntKind.wrap .i64 ((max (idx after row 0) (0:Int):Int)+(1:Int))) (((List.length row):Nat):Int):Int)=(k:Int):=hk;show cond (aB (List.length row) (0:Int) (min (IntKind.wrap .i64 ((max (idx after row 0) (0:Int):Int)+(1:Int))) (((List.length row):Nat):Int):Int)) (cond (aB (List.length row) (min (IntKind.wrap .i64 ((max (idx after row 0) (0:Int):Int)+(1:Int))) (((List.length row):Nat):Int):Int) (((List.length row):Nat):Int)) ((FX G 196 pJ ((((cut row (0:Int) (min (IntKind.wrap .i64 ((max (idx after row 0) (0:Int):Int)+(1:Int))) (((List.length row):Nat):Int):Int))::([d]::((cut row (min (IntKind.wrap .i64 ((max (idx after row 0) (0:Int):Int)+(1:Int))) (((List.length row):Nat):Int):Int) (((List.length row):Nat):Int))::([]:List (List ab))))),()),())).bind fun(y4:(((List ab)×Unit)×Unit)) =>some (y4.1,())) (none)) (none)=_;rw[wa];refine ae (ya qh) (ae (IU qh) ?_);have key:∀a b R:List ab,a=row.take k→b=row.drop k→R=cp (row.take k++(d::row.drop k))→((FX G 196 pJ (([a,[d],b],()),())).bind fun(y3:(((List ab)×Unit)×Unit))=>some (y3.1,()))=some ((R,()),()):=by intro a b R ha hb hR;subst ha hb hR;refine aa (VG hG [row.take k,[d],row.drop k] (by simp) (by grind [total])) ?_;simp_all
  exact key _ _ _ (uA row k) (BY row qh) (by rw[SJ])
theorem zM{row:List ab}{d:ab}{k:Nat}(hn:row.Nodup)(hk:row[k]? = some d):row.filter (fun e=>decide (e≠d))=row.take k++row.drop (k+1):=by
 obtain⟨h1,h2⟩:=abu.1 hk
 conv=>lhs;rw[←List.take_append_drop k row,List.drop_eq_getElem_cons h1,h2]
 have Qj:(row.take k++(d::row.drop (k+1))).Nodup:=by rw[←h2,←List.drop_eq_getElem_cons h1,List.take_append_drop];exact hn
 have h3:=adk.1 Qj;have h4:=abP.1 h3.2.1;rw[List.filter_append,List.filter_cons_of_neg (by simp)];congr 1
 ·rw[List.filter_eq_self];intro a ha;have:=h3.2.2 a ha d (by simp);simpa using this
 ·rw[List.filter_eq_self];intro a ha;have:a≠d:=fun e=>h4.1 (e▸ha);simpa using this
theorem aaB(hG:HG G)(row:List ab)(d:ab)(hn:row.Nodup)(hl:row.length≤50000000):FX G 163 Kx ((row,d,()),())=some ((iM row d,()),()):=by
 refine av (hG _ _ rfl) aeF ?_;refine aa (Ea (hG _ _ rfl) row d (by omega)) ?_;unfold iM;by_cases hd:d∈row
 ·obtain⟨k,h1,h2,h3⟩:=eR hd;have aO:=(abu.1 h2).1;rw[zM hn h2];show cond (decide (idx d row 0<0)) _ (cond (aB row.length 0 (idx d row 0)) (cond (aB row.length (IntKind.wrap .i64 (idx d row 0+1)) ((row.length:Nat):Int)) ((FX G 196 pJ (([cut row 0 (idx d row 0),cut row (IntKind.wrap .i64 (idx d row 0+1)) ((row.length:Nat):Int)],()),())).bind fun(y3:(((List ab)×Unit)×Unit))=>some (y3.1,())) none) none)=_;rw[h1,aD aO (by omega)];refine af (decide_eq_false (by omega)) (ae (ya (by omega)) (ae (IU (by omega)) ?_));have key:∀a b:List ab,a=row.take k→b=row.drop (k+1)→((FX G 196 pJ (([a,b],()),())).bind fun(y3:(((List ab)×Unit)×Unit))=>some (y3.1,()))=some ((cp (row.take k++row.drop (k+1)),()),()):=by intro a b ha hb;subst ha hb;refine aa (VG hG [row.take k,row.drop (k+1)] (by simp) (by grind [total])) ?_;simp_all
  exact key _ _ (uA row k) (BY row (by omega))
 ·have h1:=fh.2 hd;refine ae (decide_eq_true h1) (aa (Ec hG row (by omega)) ?_);refine congrArg (fun l:List ab=>some ((l,()),())) ?_
  grind [List.filter_eq_self]
theorem aaC(hG:HG G)(row:List ab)(cF d:ab)(hl:row.length≤50000000):FX G 165 vm ((row,cF,d,()),())=some ((fF row cF d,()),()):=by
 refine av (hG _ _ rfl) aeG ?_;refine aa (Ea (hG _ _ rfl) row cF (by omega)) ?_;unfold fF;by_cases ho:cF∈row
 ·obtain⟨k,h1,h2,h3⟩:=eR ho;have aO:=(abu.1 h2).1;refine af (decide_eq_false (show ¬idx cF row 0<0 by omega)) ?_;refine aa (G3 hG row d (by omega)) ?_;by_cases hd:d∈row
  ·rw[if_neg (fun h=>h.2 hd)];exact ae (decide_eq_true hd) (aa (Ec hG row (by omega)) rfl)
  rw[if_pos ⟨ho,hd⟩];refine af (decide_eq_false hd) ?_;show cond (aB row.length 0 (idx cF row 0)) (cond (aB row.length (IntKind.wrap .i64 (idx cF row 0+1)) ((row.length:Nat):Int)) ((FX G 196 pJ (([cut row 0 (idx cF row 0),[d],cut row (IntKind.wrap .i64 (idx cF row 0+1)) ((row.length:Nat):Int)],()),())).bind fun(y3:(((List ab)×Unit)×Unit))=>some (y3.1,())) none) none=_;rw[h1,aD aO (by omega)];refine ae (ya (by omega)) (ae (IU (by omega)) ?_);have key:∀a b R:List ab,a=row.take k→b=row.drop (k+1)→R=cp (row.set ((k:Int)).toNat d)→((FX G 196 pJ (([a,[d],b],()),())).bind fun(y3:(((List ab)×Unit)×Unit))=>some (y3.1,()))=some ((R,()),()):=by intro a b R ha hb hR;subst ha hb hR;refine aa (VG hG [row.take k,[d],row.drop (k+1)] (by simp) (by grind [total])) ?_;simp_all [congrArg,ab,Int.toNat_natCast,List.set_eq_take_append_cons_drop,if_pos]
  exact key _ _ _ (uA row k) (BY row (by omega)) rfl
 ·have h1:=fh.2 ho;rw[if_neg (fun h=>ho h.1)];exact ae (decide_eq_true h1) (aa (Ec hG row (by omega)) rfl)
theorem agi(hG:HG G)(row:List ab)(d:ab)(hl:row.length≤100000000):FX G 200 GG ((row,d,()),())=some (K9 (dB row d (row.length-1)),()):=by
 refine av (hG _ _ rfl) aeU ?_;have key:FX G 221 Dl ((row,(d,((IntKind.wrap .i64 (((row.length:Nat):Int)-1)),()))),())=some (K9 (dB row d (row.length-1)),()):=by
  refine av (hG _ _ rfl) aai ?_;refine aa (Ea (hG _ _ rfl) row d (by omega)) ?_;unfold dB;by_cases hd:d∈row
  ·rw[if_pos hd];obtain⟨k,h1,h2,h3⟩:=eR hd;have aO:=(abu.1 h2).1;refine af (decide_eq_false (show ¬idx d row 0<0 by omega)) ?_;refine af (IJ hd) ?_;have hw:IntKind.wrap .i64 (((row.length:Nat):Int)-1)=((row.length-1:Nat):Int):=by grind [wrap_small]
   have Ni:IntKind.wrap .i64 (idx d row 0+IntKind.wrap .i64 (((row.length:Nat):Int)-1))=((k+(row.length-1):Nat):Int):=by
    grind [wrap_small]
   have zy:(k+(row.length-1))%row.length<row.length:=adw _ (by omega);have hx:=abn zy;refine aa (show aS row (Int.tmod (IntKind.wrap .i64 (idx d row 0+IntKind.wrap .i64 (((row.length:Nat):Int)-1))) ((row.length:Nat):Int))=some row[(k+(row.length-1))%row.length] by rw[Ni,s5];exact aA hx) ?_;rw[h1,Int.toNat_natCast,hx];rfl
  ·rw[if_neg hd];exact ae (decide_eq_true (fh.2 hd)) rfl
 refine aa key ?_;rfl
end Go.Vs
