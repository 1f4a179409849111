/- What the program computes at -/
import Derived.Test.YtpkfpbpbkabkdaaGreatPlaces
set_option linter.unusedVariables false
set_option linter.unusedSimpArgs false
namespace Go.Vs
open Go.Proofs
variable {G:(f:FuncId)→(g:aX)→Option (g.A→Option g.B)}
theorem get_at{s:ByteArray}{i:Nat}{c:UInt8}(h:s.data.toList[i]? = some c):s.get! i=c:=by
 have hi:i<s.data.size:=by have:=(abg.1 h).1;simpa using this
 have h2:=(abg.1 h).2;show s.data[i]! = c;rw[getElem!_pos s.data i hi,←h2];simp
theorem SC{s:ByteArray}{i:Nat}(h:(s.get! i).toNat<128):Utf8.decode s i=((s.get! i).toNat,1):=by unfold Utf8.decode;simp only[Nat.add_zero];rw[if_pos h]
theorem SD{s:ByteArray}{i:Nat}(h:¬(s.get! i).toNat<128):128≤(Utf8.decode s i).1:=by
 unfold Utf8.decode;simp only[Nat.add_zero];rw[if_neg h]
 repeat' split
 all_goals first|(simp_all only[Bool.and_eq_true,decide_eq_true_eq];omega)|decide|omega
theorem amw(hG:G 161 Ac=none)(s:ByteArray)(hs:s.size≤100000000):∀(n i:Nat),i+n=s.size → LX G 161 Ac Tryz.f161 Aj (aY Tryz.prog 161 0) ((s,()),((),((s,i),())))=some ((((s.data.toList.drop i).all me&&decide (s.size≤16),()),()):(Bool×Unit)×Unit):=by
 have hl:s.data.toList.length=s.size:=by simp
 intro n
 induction n with
 |zero =>intro i hi;refine aB VI ?_;refine ah (decide_eq_false (show ¬(i<s.size) by omega)) ?_;refine congrArg (fun b:Bool=>some ((b,()),())) ?_;rw[List.drop_eq_nil_of_le (by omega),List.all_nil,Bool.true_and,Bool.eq_iff_iff];simp;omega
 |succ n ih =>
  intro i hi;have aK:i<s.data.toList.length:=by omega
  have hx:s.data.toList[i]? = some s.data.toList[i]:=aba aK;generalize s.data.toList[i]=c at hx;have hd:s.data.toList.drop i=c::s.data.toList.drop (i+1):=by rw[List.drop_eq_getElem_cons aK];rw[List.getElem?_eq_getElem aK]at hx;cases hx;rfl
  have hg:=get_at hx;refine aB VI ?_;refine ae (decide_eq_true (show i<s.size by omega)) ?_;show cond (decide (rk s i<32)) _ (cond (decide (rk s i>126)) _ (LX G 161 Ac Tryz.f161 Aj (aY Tryz.prog 161 0) ((s,()),((),((s,i+C3 s i),())))))=_;rw[hd,List.all_cons];by_cases h1:c.toNat<128
  ·have hr:Utf8.decode s i=(c.toNat,1):=by rw[SC (by rw[hg];exact h1),hg]
   have hr1:rk s i=(c.toNat:Int):=by unfold rk;rw[hr]
   have DU:C3 s i=1:=by unfold C3;rw[hr]
   rw[hr1,DU];by_cases h2:c.toNat<32
   ·refine ae (decide_eq_true (by omega)) ?_;have:me c=false:=by unfold me;simp;omega
    rw[this];rfl
   refine ah (decide_eq_false (by omega)) ?_;by_cases h3:126<c.toNat
   ·refine ae (decide_eq_true (by omega)) ?_;have:me c=false:=by unfold me;simp;omega
    rw[this];rfl
   refine ah (decide_eq_false (by omega)) ?_;have:me c=true:=by unfold me;simp;omega
   rw[this,Bool.true_and];exact ih (i+1) (by omega)
  ·have h2:=SD (s:=s) (i:=i) (by rw[hg];exact h1);have hr1:128≤rk s i:=by unfold rk;omega
   refine ah (decide_eq_false (by omega)) (ae (decide_eq_true (by omega)) ?_);have:me c=false:=by unfold me;simp;omega
   rw[this];rfl
theorem amx(hG:G 161 Ac=none)(s:ByteArray)(hs:s.size≤100000000):FX G 161 Ac ((s,()),())=some ((p4 s,()),()):=by refine aC hG alu ?_;have:=amw hG s hs s.size 0 (by omega);rw[List.drop_zero]at this;exact this
theorem amy(hG:G 162 Le=none)(n:Int):FX G 162 Le ((n,()),())=some ((mD n,()),()):=by refine aC hG alv ?_;show(cond (decide (n≥-1099511627776)) (some ((decide (n≤1099511627776),()),())) (some ((false,()),())):Option ((Bool×Unit)×Unit))=some ((mD n,()),());unfold mD;by_cases h1 : -1099511627776≤n<;>simp[h1]
def E7(n:Int):Prop := -9223372036854775808≤n∧n<9223372036854775808
theorem Ws(x:BitVec 64):IntKind.wrap .i64 ((x.toNat:Nat):Int)=x.toInt:=by
 unfold IntKind.wrap;simp only[IntKind.bits,IntKind.signed];have h:=x.isLt;have h2:=BitVec.toInt_eq_toNat_cond x;rw[h2];simp
 split<;>split<;>omega
theorem ofInt_toInt{n:Int}(h:E7 n):(BitVec.ofInt 64 n).toInt=n:=by unfold E7 at h;rw[BitVec.toInt_ofInt];exact Int.bmod_eq_of_le (by omega) (by omega)
theorem Zm{n:Int}(h:E7 n):(dx .andNot .i64 n 3==(0:Int))=decide (0≤n∧n≤3):=by
 have e:dx .andNot .i64 n 3=(BitVec.ofInt 64 n &&& ~~~(BitVec.ofInt 64 3)).toInt:=by unfold dx;exact Ws _
 rw[e,Bool.eq_iff_iff];simp only[beq_iff_eq,decide_eq_true_eq];generalize hx:BitVec.ofInt 64 n=x;have hn:=ofInt_toInt h;rw[hx]at hn;have h1:(x &&& ~~~(BitVec.ofInt 64 3)).toInt=0↔(x &&& ~~~(BitVec.ofInt 64 3))=0#64:=by
  constructor
  ·intro h;exact BitVec.eq_of_toInt_eq (by rw[h];rfl)
  ·intro h;rw[h];rfl
 rw[h1,←hn];constructor
 ·intro h;have h2:x=x &&& 3#64:=by
   have h3:x=(x &&& ~~~(BitVec.ofInt 64 3)) ||| (x &&& 3#64):=by
    ext i hi;simp only[BitVec.getElem_or,BitVec.getElem_and,BitVec.getElem_not];have:(BitVec.ofInt 64 3)=3#64:=rfl;rw[this]
    cases x[i]<;>cases (3#64)[i]<;>rfl
   rw[h]at h3;simpa using h3
  have h4:x.toNat≤3:=by rw[h2,BitVec.toNat_and];exact Nat.and_le_right
  rw[BitVec.toInt_eq_toNat_cond]
  split<;>omega
 ·intro h;have h4:x.toNat≤3:=by
   rw[BitVec.toInt_eq_toNat_cond]at h;have:=x.isLt
   split at h<;>omega
  have h5:x=0#64∨x=1#64∨x=2#64∨x=3#64:=by
   have:x.toNat=0∨x.toNat=1∨x.toNat=2∨x.toNat=3:=by omega
   rcases this with h|h|h|h
   ·exact .inl (BitVec.eq_of_toNat_eq (by rw[h];rfl))
   ·exact .inr (.inl (BitVec.eq_of_toNat_eq (by rw[h];rfl)))
   ·exact .inr (.inr (.inl (BitVec.eq_of_toNat_eq (by rw[h];rfl))))
   ·exact .inr (.inr (.inr (BitVec.eq_of_toNat_eq (by rw[h];rfl))))
  rcases h5 with rfl|rfl|rfl|rfl<;>decide
theorem Zn{n:Int}(h:E7 n):(dx .andNot .i64 n 1==(0:Int))=decide (n=0∨n=1):=by
 have e:dx .andNot .i64 n 1=(BitVec.ofInt 64 n &&& ~~~(BitVec.ofInt 64 1)).toInt:=by unfold dx;exact Ws _
 rw[e,Bool.eq_iff_iff];simp only[beq_iff_eq,decide_eq_true_eq];generalize hx:BitVec.ofInt 64 n=x;have hn:=ofInt_toInt h;rw[hx]at hn;have h1:(x &&& ~~~(BitVec.ofInt 64 1)).toInt=0↔(x &&& ~~~(BitVec.ofInt 64 1))=0#64:=by
  constructor
  ·intro h;exact BitVec.eq_of_toInt_eq (by rw[h];rfl)
  ·intro h;rw[h];rfl
 rw[h1,←hn];constructor
 ·intro h;have h2:x=x &&& 1#64:=by
   have h3:x=(x &&& ~~~(BitVec.ofInt 64 1)) ||| (x &&& 1#64):=by
    ext i hi;simp only[BitVec.getElem_or,BitVec.getElem_and,BitVec.getElem_not];have:(BitVec.ofInt 64 1)=1#64:=rfl;rw[this]
    cases x[i]<;>cases (1#64)[i]<;>rfl
   rw[h]at h3;simpa using h3
  have h4:x.toNat≤1:=by rw[h2,BitVec.toNat_and];exact Nat.and_le_right
  rw[BitVec.toInt_eq_toNat_cond]
  split<;>omega
 ·intro h;have h4:x.toNat≤1:=by
   rw[BitVec.toInt_eq_toNat_cond]at h;have:=x.isLt
   split at h<;>omega
  have h5:x=0#64∨x=1#64:=by
   have:x.toNat=0∨x.toNat=1:=by omega
   rcases this with h|h
   ·exact .inl (BitVec.eq_of_toNat_eq (by rw[h];rfl))
   ·exact .inr (BitVec.eq_of_toNat_eq (by rw[h];rfl))
  rcases h5 with rfl|rfl<;>decide
theorem agO(hG:HG G)(d:ab)(h:E7 d.2):FX G 190 Lj ((d,()),())=some ((Js d,()),()):=by
 refine aC (hG _ _ rfl) aeW ?_;refine aa (SB (hG _ _ rfl) d.1) ?_;unfold Js
 cases cY d.1
 ·rfl
 ·exact ae rfl (congrArg (fun b:Bool=>some ((b,()),())) (Zn h))
theorem agP(hG:HG G)(c:lW)(h:E7 c.2.2):FX G 160 GH ((c,()),())=some ((p6 c,()),()):=by
 refine aC (hG _ _ rfl) als ?_;refine aa (SB (hG _ _ rfl) c.1) ?_;unfold p6
 cases cY c.1
 ·rfl
 refine ae rfl ?_;have hb:(((c.2.1.1==(0:Int))&&(c.2.1.2==(0:Int)))&&(c.2.2==(0:Int)))=decide (c.2=zD):=lg c.2 zD;by_cases hz:c.2=zD
 ·refine ae (hb.trans (decide_eq_true hz)) ?_;rw[decide_eq_true hz,Bool.or_true];rfl
 ·refine ah (hb.trans (decide_eq_false hz)) ?_;refine aa (agO hG c.2 h) ?_;rw[decide_eq_false hz,Bool.or_false];rfl
structure Fit(o:aE):Prop where
 a:E7 (oA o).2.2
 b:E7 (oB o).2.2
 n:E7 (oN o)
 t:ua o
def E8(o:aE):aE :=if o.1=6 then(o.1,(ar o,(zI,(af o,(zC,(zC,(false,(e0,0))))))))
 else if o.1=3 then(o.1,(ar o,(zI,(zI,(oA o,(oB o,(false,(e0,0))))))))
 else if o.1=5 then(o.1,(ar o,(cc o,(af o,(zC,(zC,(false,(e0,oN o))))))))
 else if o.1=7 then(o.1,(ar o,(zI,(zI,(zC,(zC,(cQ o,(gR o,0))))))))
 else if o.1=8 then(o.1,(ar o,(zI,(zI,(zC,(zC,(cQ o,(e0,oN o))))))))
 else(o.1,(ar o,(zI,(zI,(zC,(zC,(false,(e0,0))))))))
def JD(o:aE):Int :=if o.1=6 then(if cY (ar o)=true∧cY (af o)=true then 0 else 1)
 else if o.1=3 then(if cY (ar o)=true∧p6 (oA o)=true∧p6 (oB o)=true then 0 else 1)
 else if o.1=5 then(if cY (ar o)=true∧cY (cc o)=true∧cY (af o)=true∧0≤oN o∧oN o≤3 then 0 else 1)
 else if o.1=7 then(if cY (ar o)=true then(if p4 (gR o)=true then 0 else 4) else 1)
 else if o.1=8 then(if cY (ar o)=true∧mD (oN o)=true then 0 else 1)
 else if o.1=1∨o.1=2∨o.1=4 then(if cY (ar o)=true then 0 else 1)
 else 1
theorem Kc{o:aE}{k:Int}(h:o.1=k):(o.1==k)=true:=by simp[h]
theorem BQ{o:aE}{k:Int}(h:¬o.1=k):(o.1==k)=false:=by simp[h]
theorem amz(hG:HG G)(o:aE)(hf:Fit o):FX G 132 UX ((o,()),())=some ((E8 o,(JD o,())),()):=by
 refine aC (hG _ _ rfl) ak7 ?_;refine aa (SB (hG _ _ rfl) (ar o)) ?_;unfold E8 JD;by_cases h1:o.1=1
 ·refine ae (Kc h1) (ae (Kc h1) ?_);rw[if_neg (by omega),if_neg (by omega),if_neg (by omega),if_neg (by omega),if_neg (by omega),if_neg (by omega),if_neg (by omega),if_neg (by omega),if_neg (by omega),if_neg (by omega),if_pos (by omega)]
  cases cY (ar o)<;>rfl
 refine ah (BQ h1) ?_;by_cases h2:o.1=2
 ·refine ae (Kc h2) (ae (Kc h2) ?_);rw[if_neg (by omega),if_neg (by omega),if_neg (by omega),if_neg (by omega),if_neg (by omega),if_neg (by omega),if_neg (by omega),if_neg (by omega),if_neg (by omega),if_neg (by omega),if_pos (by omega)]
  cases cY (ar o)<;>rfl
 refine ah (BQ h2) ?_;by_cases h4:o.1=4
 ·refine ae (Kc h4) ?_;rw[if_neg (by omega),if_neg (by omega),if_neg (by omega),if_neg (by omega),if_neg (by omega),if_neg (by omega),if_neg (by omega),if_neg (by omega),if_neg (by omega),if_neg (by omega),if_pos (by omega)]
  cases cY (ar o)<;>rfl
 refine ah (BQ h4) ?_;by_cases h6:o.1=6
 ·refine ae (Kc h6) ?_;rw[if_pos h6,if_pos h6]
  cases cY (ar o)
  ·rfl
  refine ae rfl (aa (SB (hG _ _ rfl) (af o)) ?_)
  cases cY (af o)<;>rfl
 refine ah (BQ h6) ?_;rw[if_neg h6,if_neg h6];by_cases h3:o.1=3
 ·refine ae (Kc h3) ?_;rw[if_pos h3,if_pos h3]
  cases cY (ar o)
  ·rfl
  refine ae rfl (aa (agP hG (oA o) hf.a) ?_)
  cases p6 (oA o)
  ·rfl
  refine ae rfl (aa (agP hG (oB o) hf.b) ?_)
  cases p6 (oB o)<;>rfl
 refine ah (BQ h3) ?_;rw[if_neg h3,if_neg h3];by_cases h5:o.1=5
 ·refine ae (Kc h5) ?_;rw[if_pos h5,if_pos h5]
  cases cY (ar o)
  ·rfl
  refine ae rfl (aa (SB (hG _ _ rfl) (cc o)) ?_)
  cases cY (cc o)
  ·rfl
  refine ae rfl (aa (SB (hG _ _ rfl) (af o)) ?_)
  cases cY (af o)
  ·rfl
  refine ae rfl (bB (Zm hf.n) ?_);by_cases h:0≤oN o∧oN o≤3
  ·rw[decide_eq_true h,if_pos ⟨rfl,rfl,rfl,h⟩];rfl
  ·rw[decide_eq_false h,if_neg (fun k=>h k.2.2.2)];rfl
 refine ah (BQ h5) ?_;rw[if_neg h5,if_neg h5];by_cases h7:o.1=7
 ·refine ae (Kc h7) ?_;rw[if_pos h7,if_pos h7];refine aa (amx (hG _ _ rfl) (gR o) hf.t) ?_
  cases p4 (gR o)<;>cases cY (ar o)<;>rfl
 refine ah (BQ h7) ?_;rw[if_neg h7,if_neg h7];by_cases h8:o.1=8
 ·refine ae (Kc h8) ?_;rw[if_pos h8,if_pos h8]
  cases cY (ar o)
  ·rfl
  refine ae rfl (aa (amy (hG _ _ rfl) (oN o)) ?_)
  cases mD (oN o)<;>rfl
 refine ah (BQ h8) ?_;rw[if_neg h8,if_neg h8,if_neg (by omega)];rfl
theorem SF(o:aE)(h1:1≤o.1)(h8:o.1≤8):sO (E8 o) o=sO (kC o) Ge:=by
 rw[Bool.eq_iff_iff,kD,kD];obtain⟨k,i,n,m,⟨a1,a2⟩,⟨b1,b2⟩,f,t,q⟩:=o;simp only at h1 h8;unfold E8 kC Ge;have:k=1∨k=2∨k=3∨k=4∨k=5∨k=6∨k=7∨k=8:=by omega
 rcases this with rfl|rfl|rfl|rfl|rfl|rfl|rfl|rfl<;>simp only[Int.reduceEq,if_true,if_false]<;>constructor<;>intro h<;>simp only[zC,Prod.mk.injEq,true_and,and_true]at h ⊢<;>grind
theorem acx(hG:HG G)(o:aE)(hf:Fit o):FX G 104 N1 ((o,()),())=some ((bg o,()),()):=by
 refine aC (hG _ _ rfl) akN ?_;refine aa (amz hG o hf) ?_;refine bB (b:=sO (E8 o) o) rfl ?_;unfold bg;by_cases h1:o.1<1
 ·rw[if_pos h1];have:JD o=1:=by unfold JD;rw[if_neg (by omega),if_neg (by omega),if_neg (by omega),if_neg (by omega),if_neg (by omega),if_neg (by omega)]
  rw[this];cases sO (E8 o) o<;>rfl
 rw[if_neg h1];by_cases h8:8<o.1
 ·rw[if_pos h8];have:JD o=1:=by unfold JD;rw[if_neg (by omega),if_neg (by omega),if_neg (by omega),if_neg (by omega),if_neg (by omega),if_neg (by omega)]
  rw[this];cases sO (E8 o) o<;>rfl
 rw[if_neg h8,SF o (by omega) (by omega)];have hk:o.1=1∨o.1=2∨o.1=3∨o.1=4∨o.1=5∨o.1=6∨o.1=7∨o.1=8:=by omega
 by_cases hm:cY (ar o)=true
 case neg =>
  have hb:JD o=1:=by unfold JD;rcases hk with h|h|h|h|h|h|h|h<;>simp[h,hm]
  rw[if_pos (by simpa using hm),hb];cases sO (kC o) Ge<;>rfl
 rw[if_neg (by simp[hm])]
 cases sO (kC o) Ge
 ·rw[if_pos rfl];rfl
 rw[if_neg (by simp)];refine ah rfl ?_;refine congrArg (fun n:Int=>some ((n,()),())) ?_;unfold JD;rcases hk with h|h|h|h|h|h|h|h<;>simp[h,hm]
theorem amA(hG:HG G)(l:List aE)(hl:l.length≤1073741824)(hf:∀o∈l,Fit o):FX G 66 La ((l,()),())=some ((fh l,()),()):=by
 refine aC (hG _ _ rfl) ak1 ?_;unfold fh;by_cases h0:l.length=0
 ·refine ae (show(((l.length:Nat):Int)==0)=true by simp[h0]) ?_;rw[if_neg (by omega)];rfl
 refine ah (show(((l.length:Nat):Int)==0)=false by rw[beq_eq_false_iff_ne];omega) ?_;by_cases h6:6<l.length
 ·refine ae (decide_eq_true (show((l.length:Nat):Int)>6 by omega)) ?_;rw[if_neg (by omega)];rfl
 refine ah (decide_eq_false (show ¬((l.length:Nat):Int)>6 by omega)) ?_;rw[if_pos (by omega)];have loop:∀(n i:Nat),i+n=l.length→LX G 66 La Tryz.f66 EE (aY Tryz.prog 66 0) ((l,(((l.length:Nat):Int),((i:Int),()))),((),()))=some ((mf (l.drop i),()),()):=by
  intro n
  induction n with
  |zero =>intro i hi;refine aB Vz ?_;refine ah (decide_eq_false (show ¬((i:Int)<((l.length:Nat):Int)) by omega)) ?_;rw[List.drop_eq_nil_of_le (by omega)];rfl
  |succ n ih =>
   intro i hi;have aK:i<l.length:=by omega
   refine aB Vz ?_;refine ae (bj aK) (aa (aT (aba aK)) ?_);refine aa (acx hG l[i] (hf _ (acB aK))) ?_;rw[List.drop_eq_getElem_cons aK,mf];by_cases hz:bg l[i]=0
   ·rw[if_neg (by simp[hz])];refine ah (show(bg l[i] != 0)=false by simp[hz]) ?_;rw[wI,aN aK hl];exact ih (i+1) (by omega)
   ·rw[if_pos hz];exact ae (show(bg l[i] != 0)=true by simp[hz]) rfl
 have:=loop l.length 0 (by omega);rw[List.drop_zero]at this;exact this
theorem abe(hG:HG G)(v:aj)(x:ID):FX G 214 Ht ((v,x,()),())=some ((tV v.1 x,()),()):=by refine aC (hG _ _ rfl) afj ?_;exact aa (Wo hG v.1 x) rfl
def cH(l:List aj)(x:ID):Nat:=l.countP fun v=>im v.1 x
def dA(l:List aj):Prop:=l.Pairwise fun a b=>im a.1 b.1=true
theorem JE(l:List aj)(x:ID):cH l x≤l.length:=adQ
theorem vc{l:List aj}{x:ID}(h:∀v∈l,im v.1 x=false):cH l x=0:=by unfold cH;rw[List.countP_eq_zero];intro v hv;simp[h v hv]
theorem Aw{x:ID}:∀{l:List aj},dA l→∀(k:Nat) (v:aj),l[k]? = some v→(im v.1 x=true↔k<cH l x)
 |[],_,k,v,h=>by simp at h
 |w::r,hs,k,v,h=>by
  have hw:∀{u:aj},u∈r→im w.1 u.1=true:=fun {u} hu=>acr hs hu;have hr:dA r:=hs.of_cons;by_cases aK:im w.1 x=true
  ·have e:cH (w::r) x=cH r x+1:=by unfold cH;rw[List.countP_cons_of_pos (by simpa using aK)]
   cases k with
   |zero=>simp at h;subst h;simp[aK,e]
   |succ k=>have:=Aw (x:=x) hr k v (by simpa using h);rw[this,e];omega
  ·have hn:∀u∈w::r,im u.1 x=false:=fun u hu=>by
    rcases abn.1 hu with rfl|hu
    ·simpa using aK
    ·rw[Bool.eq_false_iff];intro h2;exact aK (j0 (hw hu) h2)
   rw[vc hn,hn v (List.mem_of_getElem? h)];simp
theorem Wt(hG:HG G)(l:List aj)(x:ID)(hs:dA l)(hl:l.length≤50000000):∀(n i j:Nat),j-i≤n→i≤cH l x→cH l x≤j→j≤l.length → LX G 215213 kr Tryz.f213 jR (aY Tryz.prog 213 0) ((l,(((l.length:Nat):Int),((i:Int),((j:Int),())))),(((x,()),()),()))=some (((((cH l x:Nat):Int),(decide ((l[cH l x]?).map (·.1)=some x),())):Int×(Bool×Unit)),()):=by
 have vv:=JE l x;have fin:∀(i j:Nat),¬(i<j)→i≤cH l x→cH l x≤j→LX G 215213 kr Tryz.f213 jR (aY Tryz.prog 213 0) ((l,(((l.length:Nat):Int),((i:Int),((j:Int),())))),(((x,()),()),()))=some (((((cH l x:Nat):Int),(decide ((l[cH l x]?).map (·.1)=some x),())):Int×(Bool×Unit)),()):=fun i j Dy h1 h2=>by
  have hi:i=cH l x:=by omega
  subst hi;refine aB EK ?_;refine ah (decide_eq_false (show ¬(((cH l x:Nat):Int)<(j:Int)) by omega)) ?_;by_cases hc:cH l x<l.length
  ·have hx:l[cH l x]? = some l[cH l x]:=aba hc;refine ae (bj hc) ?_;refine aa (aT hx) ?_;refine aa (abe hG l[cH l x] x) ?_;refine congrArg (fun b:Bool=>some ((((cH l x:Nat):Int),(b,())),())) ?_;rw[hx];unfold tV;by_cases he:l[cH l x].1=x
   ·simp[he]
   ·simp[he];split<;>simp
  ·refine ah (decide_eq_false (show ¬(((cH l x:Nat):Int)<((l.length:Nat):Int)) by omega)) ?_;refine congrArg (fun b:Bool=>some ((((cH l x:Nat):Int),(b,())),())) ?_;rw[List.getElem?_eq_none (by omega)];simp
 intro n
 induction n with
 |zero=>intro i j Dy h1 h2 h3;exact fin i j (by omega) h1 h2
 |succ n ih =>
  intro i j Dy h1 h2 h3;by_cases aK:i<j
  case neg=>exact fin i j aK h1 h2
  refine aB EK ?_;refine ae (decide_eq_true (show((i:Int)<(j:Int)) by omega)) ?_;refine ah rfl ?_;have hm:=Oo (i:=i) (j:=j) (by omega) (by omega);have hh:(i+j) / 2<l.length:=by omega
  have hx:l[(i+j) / 2]? = some l[(i+j) / 2]:=aba hh;have qz:=Aw (x:=x) hs ((i+j) / 2) _ hx;refine aa (show bm l (IntKind.wrap .i64 (mM .u64 (IntKind.wrap .u64 (IntKind.wrap .i64 ((i:Int)+(j:Int)))) (1:Int)))=some l[(i+j) / 2] by rw[hm];exact aT hx) ?_;refine aa (abe hG l[(i+j) / 2] x) ?_;by_cases ho:im l[(i+j) / 2].1 x=true
  ·refine ae (decide_eq_true ((pj _ _).2 ho)) ?_;have hc:=qz.1 ho;have hw:IntKind.wrap .i64 (IntKind.wrap .i64 (mM .u64 (IntKind.wrap .u64 (IntKind.wrap .i64 ((i:Int)+(j:Int)))) (1:Int))+1)=(((i+j) / 2+1:Nat):Int):=by rw[hm];exact aN hh (by omega)
   have:=ih ((i+j) / 2+1) j (by omega) (by omega) h2 h3;rw[←hw]at this;exact this
  ·refine ah (decide_eq_false (fun h=>ho ((pj _ _).1 h))) ?_;have hc:¬(i+j) / 2<cH l x:=fun h=>ho (qz.2 h);have:=ih i ((i+j) / 2) (by omega) h1 (by omega) (by omega);rw[←hm]at this;exact this
theorem Wu(hG:HG G)(l:List aj)(x:ID)(hs:dA l)(hl:l.length≤50000000) :
  FX G 215213 kr ((l,x,()),())=some (((((cH l x:Nat):Int),(decide ((l[cH l x]?).map (·.1)=some x),())):Int×(Bool×Unit)),()):=by
 refine aC (hG _ _ rfl) VN ?_;exact Wt hG l x hs hl l.length 0 l.length (by omega) (by omega) (JE l x) (abZ _)
theorem qN(hG:HG G)(w:ba)(x:ID)(hs:dA w.2.1)(hl:w.2.1.length≤50000000) :
  FX G 182 pe ((x,()),(w,()))=some (((((cH w.2.1 x:Nat):Int),(decide ((w.2.1[cH w.2.1 x]?).map (·.1)=some x),())):Int×(Bool×Unit)),(w,())):=by
 refine aC (hG _ _ rfl) ae2 ?_;exact aa (Wu hG w.2.1 x hs hl) rfl
theorem Ax{x:ID}:∀{l:List aj},dA l→aP l x=(l[cH l x]?).filter fun v=>decide (v.1=x)
 |[],_=>rfl
 |w::r,hs=>by
  have hw:∀{u:aj},u∈r→im w.1 u.1=true:=fun {u} hu=>acr hs hu;have hr:dA r:=hs.of_cons;by_cases aK:im w.1 x=true
  ·have e:cH (w::r) x=cH r x+1:=by unfold cH;rw[List.countP_cons_of_pos (by simpa using aK)]
   have bp:¬w.1=x:=fun e=>by rw[e,cy]at aK;cases aK
   rw[e];simp only[aP,List.find?_cons,bp,decide_false,List.getElem?_cons_succ];exact Ax hr
  ·have hn:∀u∈w::r,im u.1 x=false:=fun u hu=>by
    rcases abn.1 hu with rfl|hu
    ·simpa using aK
    ·rw[Bool.eq_false_iff];intro h2;exact aK (j0 (hw hu) h2)
   rw[vc hn];by_cases he:w.1=x
   ·simp[aP,List.find?_cons,he,Option.filter]
   ·have Nc:im x w.1=true:=nk (by simpa using aK) he;have:aP r x=none:=by
     unfold aP;rw[List.find?_eq_none];intro u hu h2;have h3:u.1=x:=by simpa using h2
     have h4:=hw hu;rw[h3]at h4;have:=j4 h4;rw[Nc]at this;cases this
    rw[show aP (w::r) x=aP r x by simp only[aP,List.find?_cons,he,decide_false],this];simp[he,Option.filter]
theorem dV{l:List aj}{x:ID}(hs:dA l):decide ((l[cH l x]?).map (·.1)=some x)=(aP l x).isSome:=by
 rw[Ax hs]
 cases h:l[cH l x]? with
 |none=>simp
 |some v=>by_cases he:v.1=x<;>simp[he,Option.filter]
theorem L8(v:aj):∀{l:List aj},dA l→aP l v.1=none→bW v l=l.take (cH l v.1)++(v::l.drop (cH l v.1))
 |[],_,_=>rfl
 |w::r,hs,hf=>by
  have hw:∀{u:aj},u∈r→im w.1 u.1=true:=fun {u} hu=>acr hs hu;have hr:dA r:=hs.of_cons;have bp:¬w.1=v.1:=fun e=>by simp[aP,e]at hf
  have Aa:aP r v.1=none:=by simpa[aP,List.find?_cons,bp] using hf
  by_cases aK:im w.1 v.1=true
  ·have e:cH (w::r) v.1=cH r v.1+1:=by unfold cH;rw[List.countP_cons_of_pos (by simpa using aK)]
   have hge:im v.1 w.1=false:=j4 aK;rw[e,bW,if_neg (by simp[hge]),L8 v hr Aa];rfl
  ·have hn:∀u∈w::r,im u.1 v.1=false:=fun u hu=>by
    rcases abn.1 hu with rfl|hu
    ·simpa using aK
    ·rw[Bool.eq_false_iff];intro h2;exact aK (j0 (hw hu) h2)
   have Nc:im v.1 w.1=true:=nk (by simpa using aK) bp;rw[vc hn,bW,if_pos Nc];rfl
theorem Ay{x:ID}:∀{l:List aj},dA l→(aP l x).isSome=true→bH l x=l.take (cH l x)++l.drop (cH l x+1)
 |[],_,hf=>by simp[aP]at hf
 |w::r,hs,hf=>by
  have hw:∀{u:aj},u∈r→im w.1 u.1=true:=fun {u} hu=>acr hs hu;have hr:dA r:=hs.of_cons;by_cases he:w.1=x
  ·have hn:∀u∈w::r,im u.1 x=false:=fun u hu=>by
    rcases abn.1 hu with rfl|hu
    ·rw[he,cy]
    ·rw[←he];exact j4 (hw hu)
   have gO:bH r x=r:=by unfold bH;rw[List.filter_eq_self];intro u hu;have h4:=hw hu;simp;intro e2;rw[he,e2,cy]at h4;cases h4
   rw[vc hn];unfold bH;rw[List.filter_cons_of_neg (by simp[he])];exact gO
  ·have Aa:(aP r x).isSome=true:=by simpa[aP,List.find?_cons,he] using hf
   have aK:im w.1 x=true:=by
    obtain⟨u,hu⟩:=abM.1 Aa;have h1:=ab5 hu;have h2:u.1=x:=by simpa using adH hu
    rw[←h2];exact hw h1
   have e:cH (w::r) x=cH r x+1:=by unfold cH;rw[List.countP_cons_of_pos (by simpa using aK)]
   rw[e];have:=Ay hr Aa;simp[bH,List.filter_cons,he]at this ⊢;exact this
theorem Az(v:aj):∀{l:List aj},dA l→aP l v.1=none→dA (bW v l)
 |[],_,_=>List.pairwise_singleton _ _
 |w::r,hs,hf=>by
  have hw:∀{u:aj},u∈r→im w.1 u.1=true:=fun {u} hu=>acr hs hu;have hr:dA r:=hs.of_cons;have bp:¬w.1=v.1:=fun e=>by simp[aP,e]at hf
  have Aa:aP r v.1=none:=by simpa[aP,List.find?_cons,bp] using hf
  unfold bW
  split
  ·rename_i h;refine List.Pairwise.cons (fun u hu=>?_) hs;rcases abn.1 hu with rfl|hu
   ·exact h
   ·exact j0 h (hw hu)
  ·rename_i h;have aK:im w.1 v.1=true:=nk (by simpa using h) (fun e=>bp e.symm);refine List.Pairwise.cons (fun u hu=>?_) (Az v hr Aa);rcases kF.1 hu with rfl|hu
   ·exact aK
   ·exact hw hu
theorem rX{l:List aj}{x:ID}(hs:dA l):dA (bH l x):=hs.filter _
theorem dL{l:List ai}{x:ID}{v:ai}(hs:cq l)(h:aO l x=some v):l[bU l x]? = some v:=by
 have mi:=u9 (x:=x) hs;rw[h]at mi
 cases hg:l[bU l x]? with
 |none=>rw[hg]at mi;simp[Option.filter]at mi
 |some u =>
  rw[hg]at mi;simp only[Option.filter]at mi
  split at mi
  ·exact mi.symm
  ·cases mi
theorem gk{l:List ai}{x:ID}{v:ai}(h:aO l x=some v):v.1=x:=by simpa using adH h
theorem dw{l:List ai}{x:ID}{v:ai}(h:aO l x=some v):v∈l:=ab5 h
theorem lj{l:List ai}{x:ID}{k:Nat}{u:ai}(hs:cq l)(hk:l[k]? = some u)(hu:u.1=x):k=bU l x:=by
 have h1:¬k<bU l x:=fun h=>by have:=(Au hs k u hk).2 h;rw[hu,cy]at this;cases this
 have hf:(aO l x).isSome=true:=by unfold aO;rw[List.find?_isSome];exact⟨u,ab1 hk,by simp[hu]⟩
 obtain⟨v,hv⟩:=abM.1 hf;have hg:=dL hs hv;by_cases h2:bU l x<k
 ·obtain⟨h3,h4⟩:=abg.1 hg;obtain⟨h5,h6⟩:=abg.1 hk;have:=adV.1 hs _ _ h3 h5 h2;rw[h4,h6,gk hv,hu,cy]at this;cases this
 ·omega
theorem L9{l:List ai}{x:ID}{v:ai}(hs:cq l)(h:aO l x=some v)(g f:ai→ai)(h1:∀w,w.1=x→g w=f w)(h2:∀w,w.1≠x→g w=w):l.map g=l.set (bU l x) (f v):=by
 have hg:=dL hs h;apply adG;intro k;rw[List.getElem?_map,List.getElem?_set];by_cases hk:bU l x=k
 ·subst hk;rw[if_pos rfl,if_pos (List.getElem?_eq_some_iff.1 hg).1,hg];simp[h1 v (gk h)]
 ·rw[if_neg hk]
  cases hu:l[k]? with
  |none=>rfl
  |some u =>have:u.1≠x:=fun e=>hk (lj hs hu e).symm;simp[h2 u this]
theorem mj{l:List aj}{x:ID}{v:aj}(hs:dA l)(h:aP l x=some v):l[cH l x]? = some v:=by
 have mi:=Ax (x:=x) hs;rw[h]at mi
 cases hg:l[cH l x]? with
 |none=>rw[hg]at mi;simp[Option.filter]at mi
 |some u =>
  rw[hg]at mi;simp only[Option.filter]at mi
  split at mi
  ·exact mi.symm
  ·cases mi
theorem kG{l:List aj}{x:ID}{v:aj}(h:aP l x=some v):v.1=x:=by simpa using adH h
theorem nm{l:List aj}{x:ID}{v:aj}(h:aP l x=some v):v∈l:=ab5 h
theorem HK{l:List aj}{x:ID}{k:Nat}{u:aj}(hs:dA l)(hk:l[k]? = some u)(hu:u.1=x):k=cH l x:=by
 have h1:¬k<cH l x:=fun h=>by have:=(Aw hs k u hk).2 h;rw[hu,cy]at this;cases this
 have hf:(aP l x).isSome=true:=by unfold aP;rw[List.find?_isSome];exact⟨u,ab1 hk,by simp[hu]⟩
 obtain⟨v,hv⟩:=abM.1 hf;have hg:=mj hs hv;by_cases h2:cH l x<k
 ·obtain⟨h3,h4⟩:=abg.1 hg;obtain⟨h5,h6⟩:=abg.1 hk;have:=adV.1 hs _ _ h3 h5 h2;rw[h4,h6,kG hv,hu,cy]at this;cases this
 ·omega
theorem Wv{l:List aj}{x:ID}{v:aj}(hs:dA l)(h:aP l x=some v)(g f:aj→aj)(h1:∀w,w.1=x→g w=f w)(h2:∀w,w.1≠x→g w=w):l.map g=l.set (cH l x) (f v):=by
 have hg:=mj hs h;apply adG;intro k;rw[List.getElem?_map,List.getElem?_set];by_cases hk:cH l x=k
 ·subst hk;rw[if_pos rfl,if_pos (List.getElem?_eq_some_iff.1 hg).1,hg];simp[h1 v (kG h)]
 ·rw[if_neg hk]
  cases hu:l[k]? with
  |none=>rfl
  |some u =>have:u.1≠x:=fun e=>hk (HK hs hu e).symm;simp[h2 u this]
theorem dA.map{l:List aj}(h:dA l){f:aj→aj}(hf:∀v,(f v).1=v.1):dA (l.map f):=by unfold dA at h ⊢;rw[List.pairwise_map];exact h.imp fun {a b} rT=>by rw[hf,hf];exact rT
theorem AA{x:ID}{f:aj→aj}(hf:∀v,(f v).1=v.1):∀(l:List aj),aP (l.map f) x=(aP l x).map f
 |[]=>rfl
 |w::r=>by
  unfold aP;rw[List.map_cons,List.find?_cons,List.find?_cons,hf];have:=AA (x:=x) hf r;unfold aP at this
  cases decide (w.1=x) with
  |true=>rfl
  |false=>exact this
theorem Ot{x:ID}{l:List aj}(hf:aP l x=none):bH l x=l:=by unfold bH;rw[List.filter_eq_self];intro u hu;unfold aP at hf;rw[List.find?_eq_none]at hf;have:=hf u hu;simpa using this
theorem wh{α R:Type}{o:Option α}{a r:Option R}{f:α→Option R}{p:α}(h:o=some p)(k:f p=r):s5 o a f=r:=by subst h;exact k
theorem Qm{α R:Type}{o:Option α}{a r:Option R}{f:α→Option R}(h:o=none)(k:a=r):s5 o a f=r:=by subst h;exact k
def wi(w:ba)(x:ID):Int×ba :=if(aP w.2.1 x).isSome=true then(12,w) else if 40≤w.2.1.length then(3,w) else(0,(w.1,(bW (x,(e0,0)) w.2.1,w.2.2)))
theorem abf(hG:HG G)(w:ba)(x:ID)(hs:dA w.2.1)(hl:w.2.1.length≤50000000):FX G 178 Bz ((x,()),(w,()))=some (((wi w x).1,()),((wi w x).2,())):=by
 refine aC (hG _ _ rfl) aeY ?_;refine aa (qN hG w x hs hl) ?_;unfold wi
 cases hf:(aP w.2.1 x).isSome
 ·rw[if_neg (by simp)];refine ah ((dV hs).trans hf) ?_;by_cases h2:40≤w.2.1.length
  ·rw[if_pos h2];exact ae (decide_eq_true (show((w.2.1.length:Nat):Int)≥40 by omega)) rfl
  ·rw[if_neg h2];refine ah (decide_eq_false (show ¬((w.2.1.length:Nat):Int)≥40 by omega)) ?_;have hc:=JE w.2.1 x;have nL:s6 w.2.1 ((cH w.2.1 x:Nat):Int) [((x,(e0,0)):aj)]=true:=by unfold s6;rw[decide_eq_true (show(0:Int)≤((cH w.2.1 x:Nat):Int) by omega),decide_eq_true (show((cH w.2.1 x:Nat):Int)≤((w.2.1.length:Nat):Int) by omega)];rw[fits (by simp;omega)];rfl
   refine ae nL ?_;have e:iu w.2.1 ((cH w.2.1 x:Nat):Int) [((x,(e0,0)):aj)]=bW (x,(e0,0)) w.2.1:=by rw[L8 (x,(e0,0)) hs (by simpa using hf)];unfold iu;simp
   exact congrArg (fun l:List aj=>some (((0:Int),()),((w.1,(l,w.2.2)),()))) e
 ·rw[if_pos rfl];exact ae ((dV hs).trans hf) rfl
def E9(w:ba)(o:aE):Option (Fin 2×Nat) :=if cQ o=true then(if(aP w.2.1 (ar o)).isSome=true then some (⟨1,by decide⟩,cH w.2.1 (ar o)) else none)
 else(if(aO w.1 (ar o)).isSome=true then some (⟨0,by decide⟩,bU w.1 (ar o)) else none)
theorem agQ(hG:HG G)(w:ba)(o:aE)(hv:cq w.1)(he:dA w.2.1)(hlv:w.1.length≤50000000)(hle:w.2.1.length≤50000000) :
  FX G 189 Lm ((o,()),(w,()))=some ((E9 w o,(E9 w o,())),(w,())):=by
 refine aC (hG _ _ rfl) afa ?_;unfold E9;by_cases ho:cQ o=true
 ·rw[if_pos ho];refine ae ho ?_;refine aa (qN hG w (ar o) he hle) ?_
  cases hf:aP w.2.1 (ar o) with
  |none =>refine ah ((dV he).trans (by rw[hf];rfl)) ?_;rfl
  |some e =>refine ae ((dV he).trans (by rw[hf];rfl)) ?_;have aK:=(abg.1 (mj he hf)).1;refine ae (dU (gy _) (bj aK)) ?_;exact ae (dU (gy _) (bj aK)) rfl
 ·rw[if_neg ho];refine ah (by simpa using ho) ?_;refine aa (sI hG w (ar o) hv hlv) ?_
  cases hf:aO w.1 (ar o) with
  |none =>refine ah ((gZ hv).trans (by rw[hf];rfl)) ?_;rfl
  |some e =>refine ae ((gZ hv).trans (by rw[hf];rfl)) ?_;have aK:=(abg.1 (dL hv hf)).1;refine ae (dU (gy _) (bj aK)) ?_;exact ae (dU (gy _) (bj aK)) rfl
def xc(w:ba)(o:aE):Int×ba :=if cQ o=true then(if(aP w.2.1 (ar o)).isSome=true then(0,(w.1,(w.2.1.map (gN o),w.2.2))) else(13,w))
 else(if(aO w.1 (ar o)).isSome=true then(0,(w.1.map (fN o),w.2)) else(13,w))
theorem amB(hG:HG G)(w:ba)(o:aE)(hv:cq w.1)(he:dA w.2.1)(hlv:w.1.length≤50000000)(hle:w.2.1.length≤50000000) :
  FX G 158 U3 ((o,()),(w,()))=some (((xc w o).1,()),((xc w o).2,())):=by
 refine aC (hG _ _ rfl) aly ?_;refine aa (agQ hG w o hv he hlv hle) ?_;by_cases ho:cQ o=true
 ·cases hf:aP w.2.1 (ar o) with
  |none =>
   have e1:E9 w o=none:=by unfold E9;rw[if_pos ho,hf];rfl
   have e2:xc w o=(13,w):=by unfold xc;rw[if_pos ho,hf];rfl
   rw[e2];exact Qm e1 (Qm e1 rfl)
  |some e =>
   have e1:E9 w o=some (⟨1,by decide⟩,cH w.2.1 (ar o)):=by unfold E9;rw[if_pos ho,hf];rfl
   have hm:∀f:aj→aj,(∀u,u.1=ar o→gN o u=f u)→w.2.1.map (gN o)=w.2.1.set (cH w.2.1 (ar o)) (f e):=fun f hf1 =>Wv he hf (gN o) f hf1 (fun u hu=>by unfold gN;rw[if_neg (fun k=>hu k.2)]);have e2:xc w o=(0,(w.1,(w.2.1.map (gN o),w.2.2))):=by unfold xc;rw[if_pos ho,hf];rfl
   rw[e2];refine wh e1 (ah rfl (ae rfl (wh e1 (ah rfl (ae rfl ?_)))));by_cases h7:o.1=7
   ·refine ae (Kc h7) (aa (mj he hf) ?_);have:=hm (fun u=>(u.1,(gR o,u.2.2))) (fun u hu=>by unfold gN;rw[if_pos ⟨ho,hu⟩,if_pos h7]);exact congrArg (fun l:List aj=>some (((0:Int),()),((w.1,(l,w.2.2)),()))) this.symm
   ·refine ah (BQ h7) (aa (mj he hf) ?_);have:=hm (fun u=>(u.1,(u.2.1,oN o))) (fun u hu=>by unfold gN;rw[if_pos ⟨ho,hu⟩,if_neg h7]);exact congrArg (fun l:List aj=>some (((0:Int),()),((w.1,(l,w.2.2)),()))) this.symm
 ·have pP:cQ o=false:=by simpa using ho
  cases hf:aO w.1 (ar o) with
  |none =>
   have e1:E9 w o=none:=by unfold E9;rw[if_neg ho,hf];rfl
   have e2:xc w o=(13,w):=by unfold xc;rw[if_neg ho,hf];rfl
   rw[e2];exact Qm e1 (Qm e1 rfl)
  |some e =>
   have e1:E9 w o=some (⟨0,by decide⟩,bU w.1 (ar o)):=by unfold E9;rw[if_neg ho,hf];rfl
   have hm:∀f:ai→ai,(∀u,u.1=ar o→fN o u=f u)→w.1.map (fN o)=w.1.set (bU w.1 (ar o)) (f e):=fun f hf1 =>L9 hv hf (fN o) f hf1 (fun u hu=>by unfold fN;rw[if_neg (fun k=>hu k.2)]);have e2:xc w o=(0,(w.1.map (fN o),w.2)):=by unfold xc;rw[if_neg ho,hf];rfl
   rw[e2];refine wh e1 (ae rfl (wh e1 (ae rfl ?_)));by_cases h7:o.1=7
   ·refine ae (Kc h7) (aa (dL hv hf) ?_);have:=hm (fun u=>(u.1,(u.2.1,(gR o,u.2.2.2)))) (fun u hu=>by unfold fN;rw[if_pos ⟨pP,hu⟩,if_pos h7]);exact congrArg (fun l:List ai=>some (((0:Int),()),((l,w.2),()))) this.symm
   ·refine ah (BQ h7) (aa (dL hv hf) ?_);have:=hm (fun u=>(u.1,(u.2.1,(u.2.2.1,oN o)))) (fun u hu=>by unfold fN;rw[if_pos ⟨pP,hu⟩,if_neg h7]);exact congrArg (fun l:List ai=>some (((0:Int),()),((l,w.2),()))) this.symm
theorem abh(hG:HG G)(a b:ab):FX G 195 Hu ((a,b,()),())=some ((pW a b,()),()):=by
 refine aC (hG _ _ rfl) afm ?_;refine aa (Wo hG a.1 b.1) ?_;refine aa (Wn hG a.2 b.2) ?_;refine aa (abc (hG _ _ rfl) (tV a.1 b.1) (On a.2 b.2)) ?_;refine congrArg (fun n:Int=>some ((n,()),())) ?_;obtain⟨a1,a2⟩:=a;obtain⟨b1,b2⟩:=b;unfold pW tV On mC;simp only[Prod.mk.injEq];by_cases h:a1=b1
 ·subst h;simp only[if_true,cy,Bool.false_or,true_and,decide_true,Bool.true_and];by_cases h1:a2<b2
  ·have:¬a2=b2:=by omega
   simp[h1,this]
  ·by_cases h2:a2>b2
   ·have:¬a2=b2:=by omega
    simp[h1,h2,this]
   ·have:a2=b2:=by omega
    simp[this]
 ·simp only[h,if_false,false_and,decide_false,Bool.false_and,Bool.or_false]
  cases im a1 b1<;>simp
theorem agR(hG:G 168 oa=none)(row:List ab)(d:ab)(hl:row.length≤1073741824):∀(n i:Nat),i+n=row.length → LX G 168 oa Tryz.f168 yq (aY Tryz.prog 168 0) ((row,(((row.length:Nat):Int),((i:Int),()))),(((d,()),()),()))=some ((idx d (row.drop i) i,()),()):=by
 intro n
 induction n with
 |zero =>intro i hi;refine aB PQ ?_;refine ah (decide_eq_false (show ¬((i:Int)<((row.length:Nat):Int)) by omega)) ?_;rw[List.drop_eq_nil_of_le (by omega)];rfl
 |succ n ih =>
  intro i hi;have aK:i<row.length:=by omega
  refine aB PQ ?_;refine ae (bj aK) (aa (aT (aba aK)) ?_);rw[List.drop_eq_getElem_cons aK,idx];by_cases he:row[i]=d
  ·rw[if_pos he];exact ae ((lg d row[i]).trans (decide_eq_true he.symm)) rfl
  ·rw[if_neg he];refine ah ((lg d row[i]).trans (decide_eq_false fun h=>he h.symm)) ?_;rw[wI,aN aK hl];exact ih (i+1) (by omega)
theorem Fa(hG:G 168 oa=none)(row:List ab)(d:ab)(hl:row.length≤1073741824):FX G 168 oa ((row,d,()),())=some ((idx d row 0,()),()):=by refine aC hG afg ?_;have:=agR hG row d hl row.length 0 (by omega);rw[List.drop_zero]at this;exact this
theorem HL(hG:HG G)(row:List ab)(d:ab)(hl:row.length≤1073741824):FX G 166 yj ((row,d,()),())=some ((decide (d∈row),()),()):=by
 refine aC (hG _ _ rfl) aff ?_;refine aa (Fa (hG _ _ rfl) row d hl) ?_;refine congrArg (fun b:Bool=>some ((b,()),())) ?_;rw[Bool.eq_iff_iff];simp only[decide_eq_true_eq];have:=fV (d:=d) (row:=row);constructor
 ·intro h;exact Classical.byContradiction fun k=>by have:=this.2 k;omega
 ·intro h;have h2:¬idx d row 0<0:=fun k=>this.1 k h;omega
theorem eY(a:ab):mC a a=false:=by unfold mC;simp[cy]
theorem iP{a b c:ab}(h:mC a b=true)(k:mC b c=true):mC a c=true:=by obtain⟨⟨a1,a2⟩,a3⟩:=a;obtain⟨⟨b1,b2⟩,b3⟩:=b;obtain⟨⟨c1,c2⟩,c3⟩:=c;simp[mC,im]at *;omega
theorem vd{a b:ab}(h:mC a b=false)(k:a≠b):mC b a=true:=by obtain⟨⟨a1,a2⟩,a3⟩:=a;obtain⟨⟨b1,b2⟩,b3⟩:=b;simp[mC,im]at *;omega
theorem JF{a b c:ab}(h:mC a b=true)(k:mC c b=false):mC a c=true:=by obtain⟨⟨a1,a2⟩,a3⟩:=a;obtain⟨⟨b1,b2⟩,b3⟩:=b;obtain⟨⟨c1,c2⟩,c3⟩:=c;simp[mC,im]at *;omega
theorem CO(a b:ab):pW a b<0↔mC a b=true:=by
 unfold pW;by_cases h:a=b
 ·subst h;simp[eY]
 ·rw[if_neg h];cases mC a b<;>simp
theorem mU{row:List ab}{k:Nat}(hk:k<row.length):row.getD k zD=row[k]:=by simp[List.getD,hk]
theorem AB(row:List ab):∀(r:List ab) (i k:Nat),row.drop i=r→k<row.length→k≤i→(∀j,j<i→(hj:j<row.length)→mC row[j] (row.getD k zD)=false)→(∀j,j<k→(hj:j<row.length)→mC (row.getD k zD) row[j]=true) →(∀j,(hj:j<row.length)→mC row[j] (row.getD (fT row r i k) zD)=false)∧(∀j,j<fT row r i k→(hj:j<row.length)→mC (row.getD (fT row r i k) zD) row[j]=true)
 |[],i,k,hr,hk,hki,h1,h2=>by
  have hi:row.length≤i:=by have:=congrArg List.length hr;simp at this;omega
  exact⟨fun j hj=>h1 j (by omega) hj,h2⟩
 |x::r,i,k,hr,hk,hki,h1,h2=>by
  have hi:i<row.length:=by have:=congrArg List.length hr;simp at this;omega
  have hx:row[i]=x:=by have:=adj hi;rw[hr]at this;injection this with a b;exact a.symm
  have uE:row.drop (i+1)=r:=by have:=adj hi;rw[hr]at this;injection this with a b;exact b.symm
  unfold fT
  split
  ·rename_i aK;rw[CO]at aK;refine AB row r (i+1) i uE hi (by omega) (fun j hj M8=>?_) (fun j hj M8=>?_)
   ·rw[mU hi,hx];rcases Nat.lt_succ_iff_lt_or_eq.1 hj with hj|rfl
    ·cases hc:mC row[j] x with
     |false=>rfl
     |true=>have:=iP hc aK;rw[h1 j hj M8]at this;cases this
    ·rw[hx,eY]
   ·rw[mU hi,hx];exact JF aK (h1 j (by omega) M8)
  ·rename_i aK;rw[CO]at aK;refine AB row r (i+1) k uE hk (by omega) (fun j hj M8=>?_) h2;rcases Nat.lt_succ_iff_lt_or_eq.1 hj with hj|rfl
   ·exact h1 j hj M8
   ·rw[hx];simpa using aK
theorem oz{row:List ab}(h:0<row.length):(∀j,(hj:j<row.length)→mC row[j] (row.getD (fT row row 0 0) zD)=false)∧(∀j,j<fT row row 0 0→(hj:j<row.length)→mC (row.getD (fT row row 0 0) zD) row[j]=true) :=AB row row 0 0 rfl h (abZ _) (fun j hj=>by omega) (fun j hj=>by omega)
theorem Ou{d:ab}:∀{row:List ab} {k:Nat} {i:Int},row[k]? = some d→(∀j,j<k→row[j]?≠some d)→idx d row i=i+k
 |[],k,i,h,_=>by simp at h
 |e::r,0,i,h,_=>by simp at h;subst h;rw[idx,if_pos rfl];simp
 |e::r,k+1,i,h,hn=>by have h0:=hn 0 (by omega);rw[idx,if_neg (fun e=>h0 (by simp[e]))];rw[Ou (k:=k) (by simpa using h) (fun j hj=>by have:=hn (j+1) (by omega);simpa using this)];simp;omega
theorem Ww{row:List ab}(h:0<row.length):idx (row.getD (fT row row 0 0) zD) row 0=((fT row row 0 0:Nat):Int):=by have hm:=lH row row 0 0 h (by omega);have:=Ou (d:=row.getD (fT row row 0 0) zD) (row:=row) (k:=fT row row 0 0) (i:=0) (by rw[mU hm];exact aba hm) (fun j hj he=>by obtain⟨h1,h2⟩:=abg.1 he;have:=(oz h).2 j hj h1;rw[h2,eY]at this;cases this);omega
theorem Wx(hG:HG G)(row:List ab)(h:0<row.length)(hl:row.length≤100000000):FX G 196194 lX ((row,()),())=some ((row.getD (fT row row 0 0) zD,()),()):=by
 refine aC (hG _ _ rfl) VO ?_;refine ah (decide_eq_false (show ¬((row.length:Nat):Int)<1 by omega)) ?_;refine aa (aT (i:=0) (aba h)) ?_;have loop:∀(n i k:Nat),i+n=row.length→k<row.length→LX G 196194 lX Tryz.f194 k9 (aY Tryz.prog 194 0) ((row,((i:Int),())),(((zD,()),(((row.getD k zD),()),())),()))=some ((row.getD (fT row (row.drop i) i k) zD,()),()):=by
  intro n
  induction n with
  |zero =>intro i k hi hk;refine aB EL ?_;refine ah (decide_eq_false (show ¬((i:Int)<((row.length:Nat):Int)) by omega)) ?_;rw[List.drop_eq_nil_of_le (by omega)];rfl
  |succ n ih =>
   intro i k hi hk;have aK:i<row.length:=by omega
   have hx:row[i]? = some row[i]:=aba aK;refine aB EL ?_;refine ae (bj aK) (aa (aT hx) ?_);refine aa (abh hG row[i] (row.getD k zD)) ?_;rw[List.drop_eq_getElem_cons aK,fT];by_cases ho:pW row[i] (row.getD k zD)<0
   ·rw[if_pos ho];refine ae (decide_eq_true ho) (aa (aT hx) ?_);have:=ih (i+1) i (by omega) aK;rw[←aN aK (by omega),mU aK]at this;exact this
   ·rw[if_neg ho];refine ah (decide_eq_false ho) ?_;have:=ih (i+1) k (by omega) hk;rw[←aN aK (by omega)]at this;exact this
 have h1:=loop (row.length-1) 1 0 (by omega) h;have h2:fT row row 0 0=fT row (row.drop 1) 1 0:=by
  cases row with
  |nil=>simp at h
  |cons x r =>
   rw[List.drop_one,List.tail_cons]
   conv=>lhs;rw[fT]
   rw[if_neg];show ¬pW x x<0;unfold pW;simp
 rw[h2];have h3:row.getD 0 zD=row[0]:=mU h;rw[h3]at h1;exact h1
def total(ls:List (List ab)):Nat:=(ls.map List.length).sum
theorem Fb(a:List ab)(r:List (List ab)):total (a::r)=a.length+total r:=by unfold total;rw[List.map_cons,List.sum_cons]
theorem abi(hG:HG G)(ls:List (List ab))(hn:ls.length≤1000)(hl:total ls≤500000000):FX G 196 qF ((ls,()),())=some ((ls.flatten,()),()):=by
 refine aC (hG _ _ rfl) afn ?_;have agS:∀(n i:Nat) (out:List ab),i+n=ls.length→out.length+total (ls.drop i)≤500000000→LX G 196 qF Tryz.f196 yu (aY Tryz.prog 196 1) ((ls,(((ls.length:Nat):Int),((i:Int),()))),((),(out,())))=some ((out++(ls.drop i).flatten,()),()):=by
  intro n
  induction n with
  |zero =>intro i out hi ho;refine aB PS ?_;refine ah (decide_eq_false (show ¬((i:Int)<((ls.length:Nat):Int)) by omega)) ?_;rw[List.drop_eq_nil_of_le (by omega),List.flatten_nil,List.append_nil];rfl
  |succ n ih =>
   intro i out hi ho;have aK:i<ls.length:=by omega
   rw[List.drop_eq_getElem_cons aK]at ho ⊢;have pP:out.length+(ls[i].length+total (ls.drop (i+1)))≤500000000:=by have:total (ls[i]::ls.drop (i+1))=ls[i].length+total (ls.drop (i+1)):=Fb _ _;omega
   refine aB PS ?_;refine ae (bj aK) (aa (aT (aba aK)) ?_);refine ae (fits (show out.length+ls[i].length≤1073741824 by omega)) ?_;have:=ih (i+1) (out++ls[i]) (by omega) (by rw[List.length_append];omega);rw[List.flatten_cons,←List.append_assoc];rw[←aN aK (by omega)]at this;exact this
 have agT:∀(n i m:Nat),i+n=ls.length→m+total (ls.drop i)=total ls→LX G 196 qF Tryz.f196 yr (aY Tryz.prog 196 0) ((ls,((m:Int),(ls,(((ls.length:Nat):Int),((i:Int),()))))),((),()))=some ((ls.flatten,()),()):=by
  intro n
  induction n with
  |zero =>
   intro i m hi hm;refine aB PR ?_;refine ah (decide_eq_false (show ¬((i:Int)<((ls.length:Nat):Int)) by omega)) ?_;have hg:s8 (m:Int)=true:=by unfold s8;rw[decide_eq_true (show(0:Int)≤(m:Int) by omega)];rw[decide_eq_true (show(m:Int)≤gF by unfold gF;omega)];rfl
   refine ae hg ?_;have:=agS ls.length 0 [] (by omega) (by rw[List.drop_zero];simpa using hl);rw[List.drop_zero,List.nil_append]at this;exact this
  |succ n ih =>
   intro i m hi hm;have aK:i<ls.length:=by omega
   have YD:m+ls[i].length+total (ls.drop (i+1))=total ls:=by rw[List.drop_eq_getElem_cons aK]at hm;have:total (ls[i]::ls.drop (i+1))=ls[i].length+total (ls.drop (i+1)):=Fb _ _;omega
   refine aB PR ?_;refine ae (bj aK) (aa (aT (aba aK)) ?_);have hw:IntKind.wrap .i64 ((m:Int)+((ls[i].length:Nat):Int))=((m+ls[i].length:Nat):Int):=by rw[wrap_small (by omega) (by omega)];rfl
   refine ah (decide_eq_false (show ¬IntKind.wrap .i64 ((m:Int)+((ls[i].length:Nat):Int))<0 by rw[hw];omega)) ?_;have:=ih (i+1) (m+ls[i].length) (by omega) YD;rw[←aN aK (by omega),←hw]at this;exact this
 exact agT ls.length 0 0 (by omega) (by rw[List.drop_zero];omega)
theorem CP{α:Type}(xs:List α){k:Nat}(hk:k≤xs.length):cut xs (k:Int) ((xs.length:Nat):Int)=xs.drop k:=by unfold cut;rw[Int.toNat_natCast,Int.toNat_natCast,List.take_of_length_le (Nat.le_refl _)]
theorem ve{α:Type}(xs:List α)(k:Nat):cut xs 0 (k:Int)=xs.take k:=by unfold cut;rw[Int.toNat_natCast];rfl
theorem JG{n k:Nat}(h:k≤n):bI n (k:Int) ((n:Nat):Int)=true:=by unfold bI;simp;omega
theorem yU{n k:Nat}(h:k≤n):bI n 0 (k:Int)=true:=by unfold bI;simp;omega
theorem HM(hG:HG G)(row:List ab)(hl:row.length≤100000000):FX G 169 tJ ((row,()),())=some ((bG row,()),()):=by
 refine aC (hG _ _ rfl) ae9 ?_;by_cases h0:row.length=0
 ·refine ae (show(((row.length:Nat):Int)==0)=true by simp[h0]) ?_;have:row=[]:=by simpa using h0
  subst this;rfl
 refine ah (show(((row.length:Nat):Int)==0)=false by rw[beq_eq_false_iff_ne];omega) ?_;have hp:0<row.length:=by omega
 have hm:=lH row row 0 0 hp (by omega);refine aa (Wx hG row hp hl) ?_;refine aa (Fa (hG _ _ rfl) row (row.getD (fT row row 0 0) zD) (by omega)) ?_;rw[Ww hp];refine ae (JG (n:=row.length) (k:=fT row row 0 0) (by omega)) (ae (yU (n:=row.length) (k:=fT row row 0 0) (by omega)) ?_);have key:∀a b:List ab,a=row.drop (fT row row 0 0)→b=row.take (fT row row 0 0)→((FX G 196 qF (([a,b],()),())).bind fun(y3:(((List ab)×Unit)×Unit))=>some (y3.1,()))=some ((bG row,()),()):=by intro a b ha hb;subst ha hb;refine aa (abi hG [row.drop (fT row row 0 0),row.take (fT row row 0 0)] (by simp) (by unfold total;simp;omega)) ?_;unfold bG kK;simp only[List.flatten_cons,List.flatten_nil,List.append_nil]
 exact key _ _ (CP row (by omega)) (ve row _)
theorem Wy(hG:HG G)(ls:List (List ab))(hn:ls.length≤1000)(hl:total ls≤100000000):FX G 170 qE ((ls,()),())=some ((bG ls.flatten,()),()):=by
 refine aC (hG _ _ rfl) afh ?_;refine aa (abi hG ls hn (by omega)) ?_;have hlen:ls.flatten.length=total ls:=by unfold total;exact List.length_flatten
 exact aa (HM hG ls.flatten (by omega)) rfl
theorem Wz(hG:HG G)(row:List ab)(after d:ab)(hl:row.length≤50000000):FX G 181 Ea ((row,after,d,()),())=some ((gQ row after d,()),()):=by
  refine aC (hG _ _ rfl) ae0 ?_;refine aa (HL hG row d (by omega)) ?_;unfold gQ;by_cases hd:d∈row
  · rw[if_pos hd]
    exact ae (decide_eq_true hd) (aa (HM hG row (by omega)) rfl)
  rw[if_neg hd];refine ah (decide_eq_false hd) ?_;refine aa (Fa (hG _ _ rfl) row after (by omega)) ?_;have hr:idx after row 0<((row.length:Nat):Int)∨row.length=0∧idx after row 0 = -1:=by
    rcases qJ after row 0 (by omega) with⟨h,_⟩|⟨k,h,hk,_⟩
    · by_cases h0:row.length=0
      · exact .inr ⟨h0,h⟩
      · exact .inl (by omega)
    · have:=(abg.1 hk).1
      exact .inl (by omega)
  have hm:max (idx after row 0) (0:Int)=max 0 (idx after row 0):=by omega
  have hw:IntKind.wrap .i64 (max (idx after row 0) (0:Int)+1)=(((max 0 (idx after row 0)).toNat+1:Nat):Int):=by rw[wrap_small (by omega) (by omega)];omega
  obtain⟨k,hk,pS,TM⟩:∃k:Nat,min (IntKind.wrap .i64 (max (idx after row 0) (0:Int)+1)) ((row.length:Nat):Int)=(k:Int)∧k≤row.length∧row.take k++(d::row.drop k)=row.take ((max 0 (idx after row 0)).toNat+1)++(d::row.drop ((max 0 (idx after row 0)).toNat+1)):=by
    rw[hw];by_cases h0:row.length=0
    · have:row=[]:=by simpa using h0
      subst this;exact⟨0,by simp;omega,by simp,by simp⟩
    · exact⟨(max 0 (idx after row 0)).toNat+1,by omega,by omega,rfl⟩
  have zr:(min (IntKind.wrap .i64 ((max (idx after row 0) (0:Int):Int)+(1:Int))) (((List.length row):Nat):Int):Int)=(k:Int):=hk;show cond (bI (List.length row) (0:Int) (min (IntKind.wrap .i64 ((max (idx after row 0) (0:Int):Int)+(1:Int))) (((List.length row):Nat):Int):Int)) (cond (bI (List.length row) (min (IntKind.wrap .i64 ((max (idx after row 0) (0:Int):Int)+(1:Int))) (((List.length row):Nat):Int):Int) (((List.length row):Nat):Int)) ((FX G 170 qE ((((cut row (0:Int) (min (IntKind.wrap .i64 ((max (idx after row 0) (0:Int):Int)+(1:Int))) (((List.length row):Nat):Int):Int))::([d]::((cut row (min (IntKind.wrap .i64 ((max (idx after row 0) (0:Int):Int)+(1:Int))) (((List.length row):Nat):Int):Int) (((List.length row):Nat):Int))::([]:List (List ab))))),()),())).bind fun(y4:(((List ab)×Unit)×Unit)) =>some (y4.1,())) (none)) (none)=_;rw[zr];refine ae (yU pS) (ae (JG pS) ?_);have key:∀a b R:List ab,a=row.take k→b=row.drop k→R=bG (row.take k++(d::row.drop k))→((FX G 170 qE (([a,[d],b],()),())).bind fun(y3:(((List ab)×Unit)×Unit))=>some (y3.1,()))=some ((R,()),()):=by intro a b R ha hb hR;subst ha hb hR;refine aa (Wy hG [row.take k,[d],row.drop k] (by simp) (by unfold total;simp;omega)) ?_;refine congrArg (fun l:List ab=>some ((l,()),())) ?_;simp
  exact key _ _ _ (ve row k) (CP row pS) (by rw[TM])
theorem AD{row:List ab}{d:ab}{k:Nat}(hn:row.Nodup)(hk:row[k]? = some d):row.filter (fun e=>decide (e≠d))=row.take k++row.drop (k+1):=by
 obtain⟨h1,h2⟩:=abg.1 hk
 conv=>lhs;rw[←List.take_append_drop k row,List.drop_eq_getElem_cons h1,h2]
 have Ns:(row.take k++(d::row.drop (k+1))).Nodup:=by rw[←h2,←List.drop_eq_getElem_cons h1,List.take_append_drop];exact hn
 have h3:=acV.1 Ns;have h4:=abx.1 h3.2.1;rw[List.filter_append,List.filter_cons_of_neg (by simp)];congr 1
 ·rw[List.filter_eq_self];intro a ha;have:=h3.2.2 a ha d (by simp);simpa using this
 ·rw[List.filter_eq_self];intro a ha;have:a≠d:=fun e=>h4.1 (e▸ha);simpa using this
theorem WA(hG:HG G)(row:List ab)(d:ab)(hn:row.Nodup)(hl:row.length≤50000000):FX G 141 Ee ((row,d,()),())=some ((bw row d,()),()):=by
 refine aC (hG _ _ rfl) ae6 ?_;refine aa (Fa (hG _ _ rfl) row d (by omega)) ?_;unfold bw;by_cases hd:d∈row
 ·obtain⟨k,h1,h2,h3⟩:=eX hd;have aK:=(abg.1 h2).1;rw[AD hn h2];show cond (decide (idx d row 0<0)) _ (cond (bI row.length 0 (idx d row 0)) (cond (bI row.length (IntKind.wrap .i64 (idx d row 0+1)) ((row.length:Nat):Int)) ((FX G 170 qE (([cut row 0 (idx d row 0),cut row (IntKind.wrap .i64 (idx d row 0+1)) ((row.length:Nat):Int)],()),())).bind fun(y3:(((List ab)×Unit)×Unit))=>some (y3.1,())) none) none)=_;rw[h1,aN aK (by omega)];refine ah (decide_eq_false (by omega)) (ae (yU (by omega)) (ae (JG (by omega)) ?_));have key:∀a b:List ab,a=row.take k→b=row.drop (k+1)→((FX G 170 qE (([a,b],()),())).bind fun(y3:(((List ab)×Unit)×Unit))=>some (y3.1,()))=some ((bG (row.take k++row.drop (k+1)),()),()):=by intro a b ha hb;subst ha hb;refine aa (Wy hG [row.take k,row.drop (k+1)] (by simp) (by unfold total;simp;omega)) ?_;refine congrArg (fun l:List ab=>some ((l,()),())) ?_;simp
  exact key _ _ (ve row k) (CP row (by omega))
 ·have h1:=fV.2 hd;refine ae (decide_eq_true h1) (aa (HM hG row (by omega)) ?_);refine congrArg (fun l:List ab=>some ((l,()),())) ?_;congr 1
  symm
  rw[List.filter_eq_self];intro a ha;have:a≠d:=fun e=>hd (e▸ha);simpa using this
theorem abj(hG:HG G)(row:List ab)(dv d:ab)(hl:row.length≤50000000):FX G 187 vX ((row,dv,d,()),())=some ((dK row dv d,()),()):=by
 refine aC (hG _ _ rfl) ae7 ?_;refine aa (Fa (hG _ _ rfl) row dv (by omega)) ?_;unfold dK;by_cases ho:dv∈row
 ·obtain⟨k,h1,h2,h3⟩:=eX ho;have aK:=(abg.1 h2).1;refine ah (decide_eq_false (show ¬idx dv row 0<0 by omega)) ?_;refine aa (HL hG row d (by omega)) ?_;by_cases hd:d∈row
  ·rw[if_neg (fun h=>h.2 hd)];exact ae (decide_eq_true hd) (aa (HM hG row (by omega)) rfl)
  rw[if_pos ⟨ho,hd⟩];refine ah (decide_eq_false hd) ?_;show cond (bI row.length 0 (idx dv row 0)) (cond (bI row.length (IntKind.wrap .i64 (idx dv row 0+1)) ((row.length:Nat):Int)) ((FX G 170 qE (([cut row 0 (idx dv row 0),[d],cut row (IntKind.wrap .i64 (idx dv row 0+1)) ((row.length:Nat):Int)],()),())).bind fun(y3:(((List ab)×Unit)×Unit))=>some (y3.1,())) none) none=_;rw[h1,aN aK (by omega)];refine ae (yU (by omega)) (ae (JG (by omega)) ?_);have key:∀a b R:List ab,a=row.take k→b=row.drop (k+1)→R=bG (row.set ((k:Int)).toNat d)→((FX G 170 qE (([a,[d],b],()),())).bind fun(y3:(((List ab)×Unit)×Unit))=>some (y3.1,()))=some ((R,()),()):=by intro a b R ha hb hR;subst ha hb hR;refine aa (Wy hG [row.take k,[d],row.drop (k+1)] (by simp) (by unfold total;simp;omega)) ?_;refine congrArg (fun l:List ab=>some ((l,()),())) ?_;rw[Int.toNat_natCast,List.set_eq_take_append_cons_drop,if_pos aK];simp
  exact key _ _ _ (ve row k) (CP row (by omega)) rfl
 ·have h1:=fV.2 ho;rw[if_neg (fun h=>ho h.1)];exact ae (decide_eq_true h1) (aa (HM hG row (by omega)) rfl)
theorem abk(hG:HG G)(row:List ab)(d:ab)(hl:row.length≤100000000):FX G 140 Eg ((row,d,()),())=some (zt (cK row d (row.length-1)),()):=by
 refine aC (hG _ _ rfl) afl ?_;have key:FX G 167 Ei ((row,(d,((IntKind.wrap .i64 (((row.length:Nat):Int)-1)),()))),())=some (zt (cK row d (row.length-1)),()):=by
  refine aC (hG _ _ rfl) aaY ?_;refine aa (Fa (hG _ _ rfl) row d (by omega)) ?_;unfold cK;by_cases hd:d∈row
  ·rw[if_pos hd];obtain⟨k,h1,h2,h3⟩:=eX hd;have aK:=(abg.1 h2).1;refine ah (decide_eq_false (show ¬idx d row 0<0 by omega)) ?_;refine ah (Ju hd) ?_;have hw:IntKind.wrap .i64 (((row.length:Nat):Int)-1)=((row.length-1:Nat):Int):=by rw[wrap_small (by omega) (by omega)];omega
   have LN:IntKind.wrap .i64 (idx d row 0+IntKind.wrap .i64 (((row.length:Nat):Int)-1))=((k+(row.length-1):Nat):Int):=by rw[hw,h1,wrap_small (by omega) (by omega)];rfl
   have As:(k+(row.length-1))%row.length<row.length:=adR _ (by omega);have hx:=aba As;refine aa (show bm row (Int.tmod (IntKind.wrap .i64 (idx d row 0+IntKind.wrap .i64 (((row.length:Nat):Int)-1))) ((row.length:Nat):Int))=some row[(k+(row.length-1))%row.length] by rw[LN,tW];exact aT hx) ?_;rw[h1,Int.toNat_natCast,hx];rfl
  ·rw[if_neg hd];exact ae (decide_eq_true (fV.2 hd)) rfl
 refine aa key ?_;rfl
end Go.Vs
