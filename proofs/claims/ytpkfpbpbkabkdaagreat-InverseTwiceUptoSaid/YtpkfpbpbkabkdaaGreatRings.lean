/- What the program computes at -/
import Derived.Test.YtpkfpbpbkabkdaaGreatPlaces
set_option linter.unusedVariables false
set_option linter.unusedSimpArgs false
namespace Go.Vs
open Go.Proofs
variable {G:(f:FuncId)→(g:aX)→Option (g.A→Option g.B)}
theorem get_at{s:ByteArray}{i:Nat}{c:UInt8}(h:s.data.toList[i]? = some c):s.get! i=c:=by
 have hi:i<s.data.size:=by have:=(aa2.1 h).1;simpa using this
 have h2:=(aa2.1 h).2;show s.data[i]! = c;rw[getElem!_pos s.data i hi,←h2];simp
theorem RZ{s:ByteArray}{i:Nat}(h:(s.get! i).toNat<128):Utf8.decode s i=((s.get! i).toNat,1):=by unfold Utf8.decode;simp only[Nat.add_zero];rw[if_pos h]
theorem R1{s:ByteArray}{i:Nat}(h:¬(s.get! i).toNat<128):128≤(Utf8.decode s i).1:=by
 unfold Utf8.decode;simp only[Nat.add_zero];rw[if_neg h]
 repeat' split
 all_goals first|(simp_all only[Bool.and_eq_true,decide_eq_true_eq];omega)|decide|omega
theorem alJ(hG:G 161 zT=none)(s:ByteArray)(hs:s.size≤100000000):∀(n i:Nat),i+n=s.size → LX G 161 zT Tryz.f161 Ac (aS Tryz.prog 161 0) ((s,()),((),((s,i),())))=some ((((s.data.toList.drop i).all lX&&decide (s.size≤16),()),()):(Bool×Unit)×Unit):=by
 have hl:s.data.toList.length=s.size:=by simp
 intro n
 induction n with
 |zero =>intro i hi;refine aw Vh ?_;refine ag (decide_eq_false (show ¬(i<s.size) by omega)) ?_;refine congrArg (fun b:Bool=>some ((b,()),())) ?_;rw[List.drop_eq_nil_of_le (by omega),List.all_nil,Bool.true_and,Bool.eq_iff_iff];simp;omega
 |succ n ih =>
  intro i hi;have aG:i<s.data.toList.length:=by omega
  have hx:s.data.toList[i]? = some s.data.toList[i]:=aa4 aG;generalize s.data.toList[i]=c at hx;have hd:s.data.toList.drop i=c::s.data.toList.drop (i+1):=by rw[List.drop_eq_getElem_cons aG];rw[List.getElem?_eq_getElem aG]at hx;cases hx;rfl
  have hg:=get_at hx;refine aw Vh ?_;refine af (decide_eq_true (show i<s.size by omega)) ?_;show cond (decide (qV s i<32)) _ (cond (decide (qV s i>126)) _ (LX G 161 zT Tryz.f161 Ac (aS Tryz.prog 161 0) ((s,()),((),((s,i+C0 s i),())))))=_;rw[hd,List.all_cons];by_cases h1:c.toNat<128
  ·have hr:Utf8.decode s i=(c.toNat,1):=by rw[RZ (by rw[hg];exact h1),hg]
   have hr1:qV s i=(c.toNat:Int):=by unfold qV;rw[hr]
   have DQ:C0 s i=1:=by unfold C0;rw[hr]
   rw[hr1,DQ];by_cases h2:c.toNat<32
   ·refine af (decide_eq_true (by omega)) ?_;have:lX c=false:=by unfold lX;simp;omega
    rw[this];rfl
   refine ag (decide_eq_false (by omega)) ?_;by_cases h3:126<c.toNat
   ·refine af (decide_eq_true (by omega)) ?_;have:lX c=false:=by unfold lX;simp;omega
    rw[this];rfl
   refine ag (decide_eq_false (by omega)) ?_;have:lX c=true:=by unfold lX;simp;omega
   rw[this,Bool.true_and];exact ih (i+1) (by omega)
  ·have h2:=R1 (s:=s) (i:=i) (by rw[hg];exact h1);have hr1:128≤qV s i:=by unfold qV;omega
   refine ag (decide_eq_false (by omega)) (af (decide_eq_true (by omega)) ?_);have:lX c=false:=by unfold lX;simp;omega
   rw[this];rfl
theorem alK(hG:G 161 zT=none)(s:ByteArray)(hs:s.size≤100000000):FX G 161 zT ((s,()),())=some ((lY s,()),()):=by refine aB hG akI ?_;have:=alJ hG s hs s.size 0 (by omega);rw[List.drop_zero]at this;exact this
theorem alL(hG:G 162 K2=none)(n:Int):FX G 162 K2 ((n,()),())=some ((jZ n,()),()):=by refine aB hG akJ ?_;show(cond (decide (n≥-1099511627776)) (some ((decide (n≤1099511627776),()),())) (some ((false,()),())):Option ((Bool×Unit)×Unit))=some ((jZ n,()),());unfold jZ;by_cases h1 : -1099511627776≤n<;>simp[h1]
def EY(n:Int):Prop := -9223372036854775808≤n∧n<9223372036854775808
theorem VS(x:BitVec 64):IntKind.wrap .i64 ((x.toNat:Nat):Int)=x.toInt:=by
 unfold IntKind.wrap;simp only[IntKind.bits,IntKind.signed];have h:=x.isLt;have h2:=BitVec.toInt_eq_toNat_cond x;rw[h2];simp
 split<;>split<;>omega
theorem ofInt_toInt{n:Int}(h:EY n):(BitVec.ofInt 64 n).toInt=n:=by unfold EY at h;rw[BitVec.toInt_ofInt];exact Int.bmod_eq_of_le (by omega) (by omega)
theorem YS{n:Int}(h:EY n):(dv .andNot .i64 n 3==(0:Int))=decide (0≤n∧n≤3):=by
 have e:dv .andNot .i64 n 3=(BitVec.ofInt 64 n &&& ~~~(BitVec.ofInt 64 3)).toInt:=by unfold dv;exact VS _
 rw[e,Bool.eq_iff_iff];simp only[beq_iff_eq,decide_eq_true_eq];generalize hx:BitVec.ofInt 64 n=x;have hn:=ofInt_toInt h;rw[hx]at hn;have h1:(x &&& ~~~(BitVec.ofInt 64 3)).toInt=0↔(x &&& ~~~(BitVec.ofInt 64 3))=0#64:=by
  constructor
  ·intro h;exact BitVec.eq_of_toInt_eq (by rw[h];rfl)
  ·intro h;rw[h];rfl
 rw[h1,←hn];constructor
 ·intro h;have h2:x=x &&& 3#64:=by
   have h3:x=(x &&& ~~~(BitVec.ofInt 64 3)) ||| (x &&& 3#64):=by
    ext i hi;simp only[BitVec.getElem_or,BitVec.getElem_and,BitVec.getElem_not];have:(BitVec.ofInt 64 3)=3#64:=rfl;rw[this]
    cases x[i]<;>cases (3#64)[i]<;>rfl
   rw[h]at h3;simpa using h3
  have h4:x.toNat≤3:=by rw[h2,BitVec.toNat_and];exact Nat.and_le_right
  rw[BitVec.toInt_eq_toNat_cond]
  split<;>omega
 ·intro h;have h4:x.toNat≤3:=by
   rw[BitVec.toInt_eq_toNat_cond]at h;have:=x.isLt
   split at h<;>omega
  have h5:x=0#64∨x=1#64∨x=2#64∨x=3#64:=by
   have:x.toNat=0∨x.toNat=1∨x.toNat=2∨x.toNat=3:=by omega
   rcases this with h|h|h|h
   ·exact .inl (BitVec.eq_of_toNat_eq (by rw[h];rfl))
   ·exact .inr (.inl (BitVec.eq_of_toNat_eq (by rw[h];rfl)))
   ·exact .inr (.inr (.inl (BitVec.eq_of_toNat_eq (by rw[h];rfl))))
   ·exact .inr (.inr (.inr (BitVec.eq_of_toNat_eq (by rw[h];rfl))))
  rcases h5 with rfl|rfl|rfl|rfl<;>decide
theorem YT{n:Int}(h:EY n):(dv .andNot .i64 n 1==(0:Int))=decide (n=0∨n=1):=by
 have e:dv .andNot .i64 n 1=(BitVec.ofInt 64 n &&& ~~~(BitVec.ofInt 64 1)).toInt:=by unfold dv;exact VS _
 rw[e,Bool.eq_iff_iff];simp only[beq_iff_eq,decide_eq_true_eq];generalize hx:BitVec.ofInt 64 n=x;have hn:=ofInt_toInt h;rw[hx]at hn;have h1:(x &&& ~~~(BitVec.ofInt 64 1)).toInt=0↔(x &&& ~~~(BitVec.ofInt 64 1))=0#64:=by
  constructor
  ·intro h;exact BitVec.eq_of_toInt_eq (by rw[h];rfl)
  ·intro h;rw[h];rfl
 rw[h1,←hn];constructor
 ·intro h;have h2:x=x &&& 1#64:=by
   have h3:x=(x &&& ~~~(BitVec.ofInt 64 1)) ||| (x &&& 1#64):=by
    ext i hi;simp only[BitVec.getElem_or,BitVec.getElem_and,BitVec.getElem_not];have:(BitVec.ofInt 64 1)=1#64:=rfl;rw[this]
    cases x[i]<;>cases (1#64)[i]<;>rfl
   rw[h]at h3;simpa using h3
  have h4:x.toNat≤1:=by rw[h2,BitVec.toNat_and];exact Nat.and_le_right
  rw[BitVec.toInt_eq_toNat_cond]
  split<;>omega
 ·intro h;have h4:x.toNat≤1:=by
   rw[BitVec.toInt_eq_toNat_cond]at h;have:=x.isLt
   split at h<;>omega
  have h5:x=0#64∨x=1#64:=by
   have:x.toNat=0∨x.toNat=1:=by omega
   rcases this with h|h
   ·exact .inl (BitVec.eq_of_toNat_eq (by rw[h];rfl))
   ·exact .inr (BitVec.eq_of_toNat_eq (by rw[h];rfl))
  rcases h5 with rfl|rfl<;>decide
theorem af7(hG:HG G)(d:ae)(h:EY d.2):FX G 190 K7 ((d,()),())=some ((Je d,()),()):=by
 refine aB (hG _ _ rfl) aeu ?_;refine aa (RY (hG _ _ rfl) d.1) ?_;unfold Je
 cases cz d.1
 ·rfl
 ·exact af rfl (congrArg (fun b:Bool=>some ((b,()),())) (YT h))
theorem af8(hG:HG G)(c:ml)(h:EY c.2.2):FX G 160 Gq ((c,()),())=some ((pQ c,()),()):=by
 refine aB (hG _ _ rfl) akH ?_;refine aa (RY (hG _ _ rfl) c.1) ?_;unfold pQ
 cases cz c.1
 ·rfl
 refine af rfl ?_;have hb:(((c.2.1.1==(0:Int))&&(c.2.1.2==(0:Int)))&&(c.2.2==(0:Int)))=decide (c.2=zD):=lW c.2 zD;by_cases hz:c.2=zD
 ·refine af (hb.trans (decide_eq_true hz)) ?_;rw[decide_eq_true hz,Bool.or_true];rfl
 ·refine ag (hb.trans (decide_eq_false hz)) ?_;refine aa (af7 hG c.2 h) ?_;rw[decide_eq_false hz,Bool.or_false];rfl
structure Fit(o:aW):Prop where
 a:EY (oA o).2.2
 b:EY (oB o).2.2
 n:EY (oN o)
 t:Ak o
def EZ(o:aW):aW :=if o.1=6 then(o.1,(au o,(zI,(aj o,(zC,(zC,(false,(e0,0))))))))
 else if o.1=3 then(o.1,(au o,(zI,(zI,(oA o,(oB o,(false,(e0,0))))))))
 else if o.1=5 then(o.1,(au o,(b6 o,(aj o,(zC,(zC,(false,(e0,oN o))))))))
 else if o.1=7 then(o.1,(au o,(zI,(zI,(zC,(zC,(cW o,(gO o,0))))))))
 else if o.1=8 then(o.1,(au o,(zI,(zI,(zC,(zC,(cW o,(e0,oN o))))))))
 else(o.1,(au o,(zI,(zI,(zC,(zC,(false,(e0,0))))))))
def Jq(o:aW):Int :=if o.1=6 then(if cz (au o)=true∧cz (aj o)=true then 0 else 1)
 else if o.1=3 then(if cz (au o)=true∧pQ (oA o)=true∧pQ (oB o)=true then 0 else 1)
 else if o.1=5 then(if cz (au o)=true∧cz (b6 o)=true∧cz (aj o)=true∧0≤oN o∧oN o≤3 then 0 else 1)
 else if o.1=7 then(if cz (au o)=true then(if lY (gO o)=true then 0 else 4) else 1)
 else if o.1=8 then(if cz (au o)=true∧jZ (oN o)=true then 0 else 1)
 else if o.1=1∨o.1=2∨o.1=4 then(if cz (au o)=true then 0 else 1)
 else 1
theorem J3{o:aW}{k:Int}(h:o.1=k):(o.1==k)=true:=by simp[h]
theorem BM{o:aW}{k:Int}(h:¬o.1=k):(o.1==k)=false:=by simp[h]
theorem alM(hG:HG G)(o:aW)(hf:Fit o):FX G 132 Up ((o,()),())=some ((EZ o,(Jq o,())),()):=by
 refine aB (hG _ _ rfl) akk ?_;refine aa (RY (hG _ _ rfl) (au o)) ?_;unfold EZ Jq;by_cases h1:o.1=1
 ·refine af (J3 h1) (af (J3 h1) ?_);rw[if_neg (by omega),if_neg (by omega),if_neg (by omega),if_neg (by omega),if_neg (by omega),if_neg (by omega),if_neg (by omega),if_neg (by omega),if_neg (by omega),if_neg (by omega),if_pos (by omega)]
  cases cz (au o)<;>rfl
 refine ag (BM h1) ?_;by_cases h2:o.1=2
 ·refine af (J3 h2) (af (J3 h2) ?_);rw[if_neg (by omega),if_neg (by omega),if_neg (by omega),if_neg (by omega),if_neg (by omega),if_neg (by omega),if_neg (by omega),if_neg (by omega),if_neg (by omega),if_neg (by omega),if_pos (by omega)]
  cases cz (au o)<;>rfl
 refine ag (BM h2) ?_;by_cases h4:o.1=4
 ·refine af (J3 h4) ?_;rw[if_neg (by omega),if_neg (by omega),if_neg (by omega),if_neg (by omega),if_neg (by omega),if_neg (by omega),if_neg (by omega),if_neg (by omega),if_neg (by omega),if_neg (by omega),if_pos (by omega)]
  cases cz (au o)<;>rfl
 refine ag (BM h4) ?_;by_cases h6:o.1=6
 ·refine af (J3 h6) ?_;rw[if_pos h6,if_pos h6]
  cases cz (au o)
  ·rfl
  refine af rfl (aa (RY (hG _ _ rfl) (aj o)) ?_)
  cases cz (aj o)<;>rfl
 refine ag (BM h6) ?_;rw[if_neg h6,if_neg h6];by_cases h3:o.1=3
 ·refine af (J3 h3) ?_;rw[if_pos h3,if_pos h3]
  cases cz (au o)
  ·rfl
  refine af rfl (aa (af8 hG (oA o) hf.a) ?_)
  cases pQ (oA o)
  ·rfl
  refine af rfl (aa (af8 hG (oB o) hf.b) ?_)
  cases pQ (oB o)<;>rfl
 refine ag (BM h3) ?_;rw[if_neg h3,if_neg h3];by_cases h5:o.1=5
 ·refine af (J3 h5) ?_;rw[if_pos h5,if_pos h5]
  cases cz (au o)
  ·rfl
  refine af rfl (aa (RY (hG _ _ rfl) (b6 o)) ?_)
  cases cz (b6 o)
  ·rfl
  refine af rfl (aa (RY (hG _ _ rfl) (aj o)) ?_)
  cases cz (aj o)
  ·rfl
  refine af rfl (aZ (YS hf.n) ?_);by_cases h:0≤oN o∧oN o≤3
  ·rw[decide_eq_true h,if_pos ⟨rfl,rfl,rfl,h⟩];rfl
  ·rw[decide_eq_false h,if_neg (fun k=>h k.2.2.2)];rfl
 refine ag (BM h5) ?_;rw[if_neg h5,if_neg h5];by_cases h7:o.1=7
 ·refine af (J3 h7) ?_;rw[if_pos h7,if_pos h7];refine aa (alK (hG _ _ rfl) (gO o) hf.t) ?_
  cases lY (gO o)<;>cases cz (au o)<;>rfl
 refine ag (BM h7) ?_;rw[if_neg h7,if_neg h7];by_cases h8:o.1=8
 ·refine af (J3 h8) ?_;rw[if_pos h8,if_pos h8]
  cases cz (au o)
  ·rfl
  refine af rfl (aa (alL (hG _ _ rfl) (oN o)) ?_)
  cases jZ (oN o)<;>rfl
 refine ag (BM h8) ?_;rw[if_neg h8,if_neg h8,if_neg (by omega)];rfl
theorem R4(o:aW)(h1:1≤o.1)(h8:o.1≤8):sD (EZ o) o=sD (kr o) F2:=by
 rw[Bool.eq_iff_iff,ku,ku];obtain⟨k,i,n,m,⟨a1,a2⟩,⟨b1,b2⟩,f,t,q⟩:=o;simp only at h1 h8;unfold EZ kr F2;have:k=1∨k=2∨k=3∨k=4∨k=5∨k=6∨k=7∨k=8:=by omega
 rcases this with rfl|rfl|rfl|rfl|rfl|rfl|rfl|rfl<;>simp only[Int.reduceEq,if_true,if_false]<;>constructor<;>intro h<;>simp only[zC,Prod.mk.injEq,true_and,and_true]at h ⊢<;>grind
theorem ab2(hG:HG G)(o:aW)(hf:Fit o):FX G 104 ND ((o,()),())=some ((bm o,()),()):=by
 refine aB (hG _ _ rfl) aj0 ?_;refine aa (alM hG o hf) ?_;refine aZ (b:=sD (EZ o) o) rfl ?_;unfold bm;by_cases h1:o.1<1
 ·rw[if_pos h1];have:Jq o=1:=by unfold Jq;rw[if_neg (by omega),if_neg (by omega),if_neg (by omega),if_neg (by omega),if_neg (by omega),if_neg (by omega)]
  rw[this];cases sD (EZ o) o<;>rfl
 rw[if_neg h1];by_cases h8:8<o.1
 ·rw[if_pos h8];have:Jq o=1:=by unfold Jq;rw[if_neg (by omega),if_neg (by omega),if_neg (by omega),if_neg (by omega),if_neg (by omega),if_neg (by omega)]
  rw[this];cases sD (EZ o) o<;>rfl
 rw[if_neg h8,R4 o (by omega) (by omega)];have hk:o.1=1∨o.1=2∨o.1=3∨o.1=4∨o.1=5∨o.1=6∨o.1=7∨o.1=8:=by omega
 by_cases hm:cz (au o)=true
 case neg =>
  have hb:Jq o=1:=by unfold Jq;rcases hk with h|h|h|h|h|h|h|h<;>simp[h,hm]
  rw[if_pos (by simpa using hm),hb];cases sD (kr o) F2<;>rfl
 rw[if_neg (by simp[hm])]
 cases sD (kr o) F2
 ·rw[if_pos rfl];rfl
 rw[if_neg (by simp)];refine ag rfl ?_;refine congrArg (fun n:Int=>some ((n,()),())) ?_;unfold Jq;rcases hk with h|h|h|h|h|h|h|h<;>simp[h,hm]
theorem alN(hG:HG G)(l:List aW)(hl:l.length≤1073741824)(hf:∀o∈l,Fit o):FX G 66 KZ ((l,()),())=some ((fC l,()),()):=by
 refine aB (hG _ _ rfl) akd ?_;unfold fC;by_cases h0:l.length=0
 ·refine af (show(((l.length:Nat):Int)==0)=true by simp[h0]) ?_;rw[if_neg (by omega)];rfl
 refine ag (show(((l.length:Nat):Int)==0)=false by rw[beq_eq_false_iff_ne];omega) ?_;by_cases h6:6<l.length
 ·refine af (decide_eq_true (show((l.length:Nat):Int)>6 by omega)) ?_;rw[if_neg (by omega)];rfl
 refine ag (decide_eq_false (show ¬((l.length:Nat):Int)>6 by omega)) ?_;rw[if_pos (by omega)];have loop:∀(n i:Nat),i+n=l.length→LX G 66 KZ Tryz.f66 Ey (aS Tryz.prog 66 0) ((l,(((l.length:Nat):Int),((i:Int),()))),((),()))=some ((lZ (l.drop i),()),()):=by
  intro n
  induction n with
  |zero =>intro i hi;refine aw UX ?_;refine ag (decide_eq_false (show ¬((i:Int)<((l.length:Nat):Int)) by omega)) ?_;rw[List.drop_eq_nil_of_le (by omega)];rfl
  |succ n ih =>
   intro i hi;have aG:i<l.length:=by omega
   refine aw UX ?_;refine af (ba aG) (aa (aC (aa4 aG)) ?_);refine aa (ab2 hG l[i] (hf _ (acm aG))) ?_;rw[List.drop_eq_getElem_cons aG,lZ];by_cases hz:bm l[i]=0
   ·rw[if_neg (by simp[hz])];refine ag (show(bm l[i] != 0)=false by simp[hz]) ?_;rw[wI,aI aG hl];exact ih (i+1) (by omega)
   ·rw[if_pos hz];exact af (show(bm l[i] != 0)=true by simp[hz]) rfl
 have:=loop l.length 0 (by omega);rw[List.drop_zero]at this;exact this
theorem aaN(hG:HG G)(v:an)(x:ID):FX G 214 Hg ((v,x,()),())=some ((rH v.1 x,()),()):=by refine aB (hG _ _ rfl) aeR ?_;exact aa (VP hG v.1 x) rfl
def cE(l:List an)(x:ID):Nat:=l.countP fun v=>gm v.1 x
def dx(l:List an):Prop:=l.Pairwise fun a b=>gm a.1 b.1=true
theorem Js(l:List an)(x:ID):cE l x≤l.length:=adu
theorem uL{l:List an}{x:ID}(h:∀v∈l,gm v.1 x=false):cE l x=0:=by unfold cE;rw[List.countP_eq_zero];intro v hv;simp[h v hv]
theorem Ap{x:ID}:∀{l:List an},dx l→∀(k:Nat) (v:an),l[k]? = some v→(gm v.1 x=true↔k<cE l x)
 |[],_,k,v,h=>by simp at h
 |w::r,hs,k,v,h=>by
  have hw:∀{u:an},u∈r→gm w.1 u.1=true:=fun {u} hu=>acF hs hu;have hr:dx r:=hs.of_cons;by_cases aG:gm w.1 x=true
  ·have e:cE (w::r) x=cE r x+1:=by unfold cE;rw[List.countP_cons_of_pos (by simpa using aG)]
   cases k with
   |zero=>simp at h;subst h;simp[aG,e]
   |succ k=>have:=Ap (x:=x) hr k v (by simpa using h);rw[this,e];omega
  ·have hn:∀u∈w::r,gm u.1 x=false:=fun u hu=>by
    rcases abd.1 hu with rfl|hu
    ·simpa using aG
    ·rw[Bool.eq_false_iff];intro h2;exact aG (iG (hw hu) h2)
   rw[uL hn,hn v (List.mem_of_getElem? h)];simp
theorem VT(hG:HG G)(l:List an)(x:ID)(hs:dx l)(hl:l.length≤50000000):∀(n i j:Nat),j-i≤n→i≤cE l x→cE l x≤j→j≤l.length → LX G 215213 ki Tryz.f213 jH (aS Tryz.prog 213 0) ((l,(((l.length:Nat):Int),((i:Int),((j:Int),())))),(((x,()),()),()))=some (((((cE l x:Nat):Int),(decide ((l[cE l x]?).map (·.1)=some x),())):Int×(Bool×Unit)),()):=by
 have uf:=Js l x;have fin:∀(i j:Nat),¬(i<j)→i≤cE l x→cE l x≤j→LX G 215213 ki Tryz.f213 jH (aS Tryz.prog 213 0) ((l,(((l.length:Nat):Int),((i:Int),((j:Int),())))),(((x,()),()),()))=some (((((cE l x:Nat):Int),(decide ((l[cE l x]?).map (·.1)=some x),())):Int×(Bool×Unit)),()):=fun i j Ck h1 h2=>by
  have hi:i=cE l x:=by omega
  subst hi;refine aw EF ?_;refine ag (decide_eq_false (show ¬(((cE l x:Nat):Int)<(j:Int)) by omega)) ?_;by_cases hc:cE l x<l.length
  ·have hx:l[cE l x]? = some l[cE l x]:=aa4 hc;refine af (ba hc) ?_;refine aa (aC hx) ?_;refine aa (aaN hG l[cE l x] x) ?_;refine congrArg (fun b:Bool=>some ((((cE l x:Nat):Int),(b,())),())) ?_;rw[hx];unfold rH;by_cases he:l[cE l x].1=x
   ·simp[he]
   ·simp[he];split<;>simp
  ·refine ag (decide_eq_false (show ¬(((cE l x:Nat):Int)<((l.length:Nat):Int)) by omega)) ?_;refine congrArg (fun b:Bool=>some ((((cE l x:Nat):Int),(b,())),())) ?_;rw[List.getElem?_eq_none (by omega)];simp
 intro n
 induction n with
 |zero=>intro i j Ck h1 h2 h3;exact fin i j (by omega) h1 h2
 |succ n ih =>
  intro i j Ck h1 h2 h3;by_cases aG:i<j
  case neg=>exact fin i j aG h1 h2
  refine aw EF ?_;refine af (decide_eq_true (show((i:Int)<(j:Int)) by omega)) ?_;refine ag rfl ?_;have hm:=N1 (i:=i) (j:=j) (by omega) (by omega);have hh:(i+j) / 2<l.length:=by omega
  have hx:l[(i+j) / 2]? = some l[(i+j) / 2]:=aa4 hh;have qm:=Ap (x:=x) hs ((i+j) / 2) _ hx;refine aa (show bh l (IntKind.wrap .i64 (mD .u64 (IntKind.wrap .u64 (IntKind.wrap .i64 ((i:Int)+(j:Int)))) (1:Int)))=some l[(i+j) / 2] by rw[hm];exact aC hx) ?_;refine aa (aaN hG l[(i+j) / 2] x) ?_;by_cases ho:gm l[(i+j) / 2].1 x=true
  ·refine af (decide_eq_true ((lC _ _).2 ho)) ?_;have hc:=qm.1 ho;have hw:IntKind.wrap .i64 (IntKind.wrap .i64 (mD .u64 (IntKind.wrap .u64 (IntKind.wrap .i64 ((i:Int)+(j:Int)))) (1:Int))+1)=(((i+j) / 2+1:Nat):Int):=by rw[hm];exact aI hh (by omega)
   have:=ih ((i+j) / 2+1) j (by omega) (by omega) h2 h3;rw[←hw]at this;exact this
  ·refine ag (decide_eq_false (fun h=>ho ((lC _ _).1 h))) ?_;have hc:¬(i+j) / 2<cE l x:=fun h=>ho (qm.2 h);have:=ih i ((i+j) / 2) (by omega) h1 (by omega) (by omega);rw[←hm]at this;exact this
theorem VU(hG:HG G)(l:List an)(x:ID)(hs:dx l)(hl:l.length≤50000000) :
  FX G 215213 ki ((l,x,()),())=some (((((cE l x:Nat):Int),(decide ((l[cE l x]?).map (·.1)=some x),())):Int×(Bool×Unit)),()):=by
 refine aB (hG _ _ rfl) Vl ?_;exact VT hG l x hs hl l.length 0 l.length (by omega) (by omega) (Js l x) (ack _)
theorem qF(hG:HG G)(w:bg)(x:ID)(hs:dx w.2.1)(hl:w.2.1.length≤50000000) :
  FX G 182 oY ((x,()),(w,()))=some (((((cE w.2.1 x:Nat):Int),(decide ((w.2.1[cE w.2.1 x]?).map (·.1)=some x),())):Int×(Bool×Unit)),(w,())):=by
 refine aB (hG _ _ rfl) aeA ?_;exact aa (VU hG w.2.1 x hs hl) rfl
theorem Aq{x:ID}:∀{l:List an},dx l→aL l x=(l[cE l x]?).filter fun v=>decide (v.1=x)
 |[],_=>rfl
 |w::r,hs=>by
  have hw:∀{u:an},u∈r→gm w.1 u.1=true:=fun {u} hu=>acF hs hu;have hr:dx r:=hs.of_cons;by_cases aG:gm w.1 x=true
  ·have e:cE (w::r) x=cE r x+1:=by unfold cE;rw[List.countP_cons_of_pos (by simpa using aG)]
   have bq:¬w.1=x:=fun e=>by rw[e,cv]at aG;cases aG
   rw[e];simp only[aL,List.find?_cons,bq,decide_false,List.getElem?_cons_succ];exact Aq hr
  ·have hn:∀u∈w::r,gm u.1 x=false:=fun u hu=>by
    rcases abd.1 hu with rfl|hu
    ·simpa using aG
    ·rw[Bool.eq_false_iff];intro h2;exact aG (iG (hw hu) h2)
   rw[uL hn];by_cases he:w.1=x
   ·simp[aL,List.find?_cons,he,Option.filter]
   ·have MT:gm x w.1=true:=mZ (by simpa using aG) he;have:aL r x=none:=by
     unfold aL;rw[List.find?_eq_none];intro u hu h2;have h3:u.1=x:=by simpa using h2
     have h4:=hw hu;rw[h3]at h4;have:=jR h4;rw[MT]at this;cases this
    rw[show aL (w::r) x=aL r x by simp only[aL,List.find?_cons,he,decide_false],this];simp[he,Option.filter]
theorem dU{l:List an}{x:ID}(hs:dx l):decide ((l[cE l x]?).map (·.1)=some x)=(aL l x).isSome:=by
 rw[Aq hs]
 cases h:l[cE l x]? with
 |none=>simp
 |some v=>by_cases he:v.1=x<;>simp[he,Option.filter]
theorem LM(v:an):∀{l:List an},dx l→aL l v.1=none→bS v l=l.take (cE l v.1)++(v::l.drop (cE l v.1))
 |[],_,_=>rfl
 |w::r,hs,hf=>by
  have hw:∀{u:an},u∈r→gm w.1 u.1=true:=fun {u} hu=>acF hs hu;have hr:dx r:=hs.of_cons;have bq:¬w.1=v.1:=fun e=>by simp[aL,e]at hf
  have zO:aL r v.1=none:=by simpa[aL,List.find?_cons,bq] using hf
  by_cases aG:gm w.1 v.1=true
  ·have e:cE (w::r) v.1=cE r v.1+1:=by unfold cE;rw[List.countP_cons_of_pos (by simpa using aG)]
   have hge:gm v.1 w.1=false:=jR aG;rw[e,bS,if_neg (by simp[hge]),LM v hr zO];rfl
  ·have hn:∀u∈w::r,gm u.1 v.1=false:=fun u hu=>by
    rcases abd.1 hu with rfl|hu
    ·simpa using aG
    ·rw[Bool.eq_false_iff];intro h2;exact aG (iG (hw hu) h2)
   have MT:gm v.1 w.1=true:=mZ (by simpa using aG) bq;rw[uL hn,bS,if_pos MT];rfl
theorem Ar{x:ID}:∀{l:List an},dx l→(aL l x).isSome=true→bF l x=l.take (cE l x)++l.drop (cE l x+1)
 |[],_,hf=>by simp[aL]at hf
 |w::r,hs,hf=>by
  have hw:∀{u:an},u∈r→gm w.1 u.1=true:=fun {u} hu=>acF hs hu;have hr:dx r:=hs.of_cons;by_cases he:w.1=x
  ·have hn:∀u∈w::r,gm u.1 x=false:=fun u hu=>by
    rcases abd.1 hu with rfl|hu
    ·rw[he,cv]
    ·rw[←he];exact jR (hw hu)
   have fX:bF r x=r:=by unfold bF;rw[List.filter_eq_self];intro u hu;have h4:=hw hu;simp;intro e2;rw[he,e2,cv]at h4;cases h4
   rw[uL hn];unfold bF;rw[List.filter_cons_of_neg (by simp[he])];exact fX
  ·have zO:(aL r x).isSome=true:=by simpa[aL,List.find?_cons,he] using hf
   have aG:gm w.1 x=true:=by
    obtain⟨u,hu⟩:=abC.1 zO;have h1:=acq hu;have h2:u.1=x:=by simpa using adm hu
    rw[←h2];exact hw h1
   have e:cE (w::r) x=cE r x+1:=by unfold cE;rw[List.countP_cons_of_pos (by simpa using aG)]
   rw[e];have:=Ar hr zO;simp[bF,List.filter_cons,he]at this ⊢;exact this
theorem As(v:an):∀{l:List an},dx l→aL l v.1=none→dx (bS v l)
 |[],_,_=>List.pairwise_singleton _ _
 |w::r,hs,hf=>by
  have hw:∀{u:an},u∈r→gm w.1 u.1=true:=fun {u} hu=>acF hs hu;have hr:dx r:=hs.of_cons;have bq:¬w.1=v.1:=fun e=>by simp[aL,e]at hf
  have zO:aL r v.1=none:=by simpa[aL,List.find?_cons,bq] using hf
  unfold bS
  split
  ·rename_i h;refine List.Pairwise.cons (fun u hu=>?_) hs;rcases abd.1 hu with rfl|hu
   ·exact h
   ·exact iG h (hw hu)
  ·rename_i h;have aG:gm w.1 v.1=true:=mZ (by simpa using h) (fun e=>bq e.symm);refine List.Pairwise.cons (fun u hu=>?_) (As v hr zO);rcases ky.1 hu with rfl|hu
   ·exact aG
   ·exact hw hu
theorem rK{l:List an}{x:ID}(hs:dx l):dx (bF l x):=hs.filter _
theorem dK{l:List ai}{x:ID}{v:ai}(hs:cd l)(h:aN l x=some v):l[bQ l x]? = some v:=by
 have l9:=uK (x:=x) hs;rw[h]at l9
 cases hg:l[bQ l x]? with
 |none=>rw[hg]at l9;simp[Option.filter]at l9
 |some u =>
  rw[hg]at l9;simp only[Option.filter]at l9
  split at l9
  ·exact l9.symm
  ·cases l9
theorem gj{l:List ai}{x:ID}{v:ai}(h:aN l x=some v):v.1=x:=by simpa using adm h
theorem du{l:List ai}{x:ID}{v:ai}(h:aN l x=some v):v∈l:=acq h
theorem kZ{l:List ai}{x:ID}{k:Nat}{u:ai}(hs:cd l)(hk:l[k]? = some u)(hu:u.1=x):k=bQ l x:=by
 have h1:¬k<bQ l x:=fun h=>by have:=(Am hs k u hk).2 h;rw[hu,cv]at this;cases this
 have hf:(aN l x).isSome=true:=by unfold aN;rw[List.find?_isSome];exact⟨u,ab6 hk,by simp[hu]⟩
 obtain⟨v,hv⟩:=abC.1 hf;have hg:=dK hs hv;by_cases h2:bQ l x<k
 ·obtain⟨h3,h4⟩:=aa2.1 hg;obtain⟨h5,h6⟩:=aa2.1 hk;have:=adx.1 hs _ _ h3 h5 h2;rw[h4,h6,gj hv,hu,cv]at this;cases this
 ·omega
theorem LN{l:List ai}{x:ID}{v:ai}(hs:cd l)(h:aN l x=some v)(g f:ai→ai)(h1:∀w,w.1=x→g w=f w)(h2:∀w,w.1≠x→g w=w):l.map g=l.set (bQ l x) (f v):=by
 have hg:=dK hs h;apply adl;intro k;rw[List.getElem?_map,List.getElem?_set];by_cases hk:bQ l x=k
 ·subst hk;rw[if_pos rfl,if_pos (List.getElem?_eq_some_iff.1 hg).1,hg];simp[h1 v (gj h)]
 ·rw[if_neg hk]
  cases hu:l[k]? with
  |none=>rfl
  |some u =>have:u.1≠x:=fun e=>hk (kZ hs hu e).symm;simp[h2 u this]
theorem ma{l:List an}{x:ID}{v:an}(hs:dx l)(h:aL l x=some v):l[cE l x]? = some v:=by
 have l9:=Aq (x:=x) hs;rw[h]at l9
 cases hg:l[cE l x]? with
 |none=>rw[hg]at l9;simp[Option.filter]at l9
 |some u =>
  rw[hg]at l9;simp only[Option.filter]at l9
  split at l9
  ·exact l9.symm
  ·cases l9
theorem jm{l:List an}{x:ID}{v:an}(h:aL l x=some v):v.1=x:=by simpa using adm h
theorem k9{l:List an}{x:ID}{v:an}(h:aL l x=some v):v∈l:=acq h
theorem Hu{l:List an}{x:ID}{k:Nat}{u:an}(hs:dx l)(hk:l[k]? = some u)(hu:u.1=x):k=cE l x:=by
 have h1:¬k<cE l x:=fun h=>by have:=(Ap hs k u hk).2 h;rw[hu,cv]at this;cases this
 have hf:(aL l x).isSome=true:=by unfold aL;rw[List.find?_isSome];exact⟨u,ab6 hk,by simp[hu]⟩
 obtain⟨v,hv⟩:=abC.1 hf;have hg:=ma hs hv;by_cases h2:cE l x<k
 ·obtain⟨h3,h4⟩:=aa2.1 hg;obtain⟨h5,h6⟩:=aa2.1 hk;have:=adx.1 hs _ _ h3 h5 h2;rw[h4,h6,jm hv,hu,cv]at this;cases this
 ·omega
theorem VV{l:List an}{x:ID}{v:an}(hs:dx l)(h:aL l x=some v)(g f:an→an)(h1:∀w,w.1=x→g w=f w)(h2:∀w,w.1≠x→g w=w):l.map g=l.set (cE l x) (f v):=by
 have hg:=ma hs h;apply adl;intro k;rw[List.getElem?_map,List.getElem?_set];by_cases hk:cE l x=k
 ·subst hk;rw[if_pos rfl,if_pos (List.getElem?_eq_some_iff.1 hg).1,hg];simp[h1 v (jm h)]
 ·rw[if_neg hk]
  cases hu:l[k]? with
  |none=>rfl
  |some u =>have:u.1≠x:=fun e=>hk (Hu hs hu e).symm;simp[h2 u this]
theorem dx.map{l:List an}(h:dx l){f:an→an}(hf:∀v,(f v).1=v.1):dx (l.map f):=by unfold dx at h ⊢;rw[List.pairwise_map];exact h.imp fun {a b} mI=>by rw[hf,hf];exact mI
theorem Au{x:ID}{f:an→an}(hf:∀v,(f v).1=v.1):∀(l:List an),aL (l.map f) x=(aL l x).map f
 |[]=>rfl
 |w::r=>by
  unfold aL;rw[List.map_cons,List.find?_cons,List.find?_cons,hf];have:=Au (x:=x) hf r;unfold aL at this
  cases decide (w.1=x) with
  |true=>rfl
  |false=>exact this
theorem N3{x:ID}{l:List an}(hf:aL l x=none):bF l x=l:=by unfold bF;rw[List.filter_eq_self];intro u hu;unfold aL at hf;rw[List.find?_eq_none]at hf;have:=hf u hu;simpa using this
theorem vH{α R:Type}{o:Option α}{a r:Option R}{f:α→Option R}{p:α}(h:o=some p)(k:f p=r):sN o a f=r:=by subst h;exact k
theorem PU{α R:Type}{o:Option α}{a r:Option R}{f:α→Option R}(h:o=none)(k:a=r):sN o a f=r:=by subst h;exact k
def vI(w:bg)(x:ID):Int×bg :=if(aL w.2.1 x).isSome=true then(12,w) else if 40≤w.2.1.length then(3,w) else(0,(w.1,(bS (x,(e0,0)) w.2.1,w.2.2)))
theorem aaO(hG:HG G)(w:bg)(x:ID)(hs:dx w.2.1)(hl:w.2.1.length≤50000000):FX G 178 By ((x,()),(w,()))=some (((vI w x).1,()),((vI w x).2,())):=by
 refine aB (hG _ _ rfl) aew ?_;refine aa (qF hG w x hs hl) ?_;unfold vI
 cases hf:(aL w.2.1 x).isSome
 ·rw[if_neg (by simp)];refine ag ((dU hs).trans hf) ?_;by_cases h2:40≤w.2.1.length
  ·rw[if_pos h2];exact af (decide_eq_true (show((w.2.1.length:Nat):Int)≥40 by omega)) rfl
  ·rw[if_neg h2];refine ag (decide_eq_false (show ¬((w.2.1.length:Nat):Int)≥40 by omega)) ?_;have hc:=Js w.2.1 x;have nE:sO w.2.1 ((cE w.2.1 x:Nat):Int) [((x,(e0,0)):an)]=true:=by unfold sO;rw[decide_eq_true (show(0:Int)≤((cE w.2.1 x:Nat):Int) by omega),decide_eq_true (show((cE w.2.1 x:Nat):Int)≤((w.2.1.length:Nat):Int) by omega)];rw[fits (by simp;omega)];rfl
   refine af nE ?_;have e:ij w.2.1 ((cE w.2.1 x:Nat):Int) [((x,(e0,0)):an)]=bS (x,(e0,0)) w.2.1:=by rw[LM (x,(e0,0)) hs (by simpa using hf)];unfold ij;simp
   exact congrArg (fun l:List an=>some (((0:Int),()),((w.1,(l,w.2.2)),()))) e
 ·rw[if_pos rfl];exact af ((dU hs).trans hf) rfl
def E0(w:bg)(o:aW):Option (Fin 2×Nat) :=if cW o=true then(if(aL w.2.1 (au o)).isSome=true then some (⟨1,by decide⟩,cE w.2.1 (au o)) else none)
 else(if(aN w.1 (au o)).isSome=true then some (⟨0,by decide⟩,bQ w.1 (au o)) else none)
theorem af9(hG:HG G)(w:bg)(o:aW)(hv:cd w.1)(he:dx w.2.1)(S8:w.1.length≤50000000)(hle:w.2.1.length≤50000000) :
  FX G 189 K9 ((o,()),(w,()))=some ((E0 w o,(E0 w o,())),(w,())):=by
 refine aB (hG _ _ rfl) aeI ?_;unfold E0;by_cases ho:cW o=true
 ·rw[if_pos ho];refine af ho ?_;refine aa (qF hG w (au o) he hle) ?_
  cases hf:aL w.2.1 (au o) with
  |none =>refine ag ((dU he).trans (by rw[hf];rfl)) ?_;rfl
  |some e =>refine af ((dU he).trans (by rw[hf];rfl)) ?_;have aG:=(aa2.1 (ma he hf)).1;refine af (dp (gr _) (ba aG)) ?_;exact af (dp (gr _) (ba aG)) rfl
 ·rw[if_neg ho];refine ag (by simpa using ho) ?_;refine aa (so hG w (au o) hv S8) ?_
  cases hf:aN w.1 (au o) with
  |none =>refine ag ((gW hv).trans (by rw[hf];rfl)) ?_;rfl
  |some e =>refine af ((gW hv).trans (by rw[hf];rfl)) ?_;have aG:=(aa2.1 (dK hv hf)).1;refine af (dp (gr _) (ba aG)) ?_;exact af (dp (gr _) (ba aG)) rfl
def wO(w:bg)(o:aW):Int×bg :=if cW o=true then(if(aL w.2.1 (au o)).isSome=true then(0,(w.1,(w.2.1.map (gL o),w.2.2))) else(13,w))
 else(if(aN w.1 (au o)).isSome=true then(0,(w.1.map (fJ o),w.2)) else(13,w))
theorem alO(hG:HG G)(w:bg)(o:aW)(hv:cd w.1)(he:dx w.2.1)(S8:w.1.length≤50000000)(hle:w.2.1.length≤50000000) :
  FX G 158 Us ((o,()),(w,()))=some (((wO w o).1,()),((wO w o).2,())):=by
 refine aB (hG _ _ rfl) akM ?_;refine aa (af9 hG w o hv he S8 hle) ?_;by_cases ho:cW o=true
 ·cases hf:aL w.2.1 (au o) with
  |none =>
   have e1:E0 w o=none:=by unfold E0;rw[if_pos ho,hf];rfl
   have e2:wO w o=(13,w):=by unfold wO;rw[if_pos ho,hf];rfl
   rw[e2];exact PU e1 (PU e1 rfl)
  |some e =>
   have e1:E0 w o=some (⟨1,by decide⟩,cE w.2.1 (au o)):=by unfold E0;rw[if_pos ho,hf];rfl
   have hm:∀f:an→an,(∀u,u.1=au o→gL o u=f u)→w.2.1.map (gL o)=w.2.1.set (cE w.2.1 (au o)) (f e):=fun f hf1 =>VV he hf (gL o) f hf1 (fun u hu=>by unfold gL;rw[if_neg (fun k=>hu k.2)]);have e2:wO w o=(0,(w.1,(w.2.1.map (gL o),w.2.2))):=by unfold wO;rw[if_pos ho,hf];rfl
   rw[e2];refine vH e1 (ag rfl (af rfl (vH e1 (ag rfl (af rfl ?_)))));by_cases h7:o.1=7
   ·refine af (J3 h7) (aa (ma he hf) ?_);have:=hm (fun u=>(u.1,(gO o,u.2.2))) (fun u hu=>by unfold gL;rw[if_pos ⟨ho,hu⟩,if_pos h7]);exact congrArg (fun l:List an=>some (((0:Int),()),((w.1,(l,w.2.2)),()))) this.symm
   ·refine ag (BM h7) (aa (ma he hf) ?_);have:=hm (fun u=>(u.1,(u.2.1,oN o))) (fun u hu=>by unfold gL;rw[if_pos ⟨ho,hu⟩,if_neg h7]);exact congrArg (fun l:List an=>some (((0:Int),()),((w.1,(l,w.2.2)),()))) this.symm
 ·have pG:cW o=false:=by simpa using ho
  cases hf:aN w.1 (au o) with
  |none =>
   have e1:E0 w o=none:=by unfold E0;rw[if_neg ho,hf];rfl
   have e2:wO w o=(13,w):=by unfold wO;rw[if_neg ho,hf];rfl
   rw[e2];exact PU e1 (PU e1 rfl)
  |some e =>
   have e1:E0 w o=some (⟨0,by decide⟩,bQ w.1 (au o)):=by unfold E0;rw[if_neg ho,hf];rfl
   have hm:∀f:ai→ai,(∀u,u.1=au o→fJ o u=f u)→w.1.map (fJ o)=w.1.set (bQ w.1 (au o)) (f e):=fun f hf1 =>LN hv hf (fJ o) f hf1 (fun u hu=>by unfold fJ;rw[if_neg (fun k=>hu k.2)]);have e2:wO w o=(0,(w.1.map (fJ o),w.2)):=by unfold wO;rw[if_neg ho,hf];rfl
   rw[e2];refine vH e1 (af rfl (vH e1 (af rfl ?_)));by_cases h7:o.1=7
   ·refine af (J3 h7) (aa (dK hv hf) ?_);have:=hm (fun u=>(u.1,(u.2.1,(gO o,u.2.2.2)))) (fun u hu=>by unfold fJ;rw[if_pos ⟨pG,hu⟩,if_pos h7]);exact congrArg (fun l:List ai=>some (((0:Int),()),((l,w.2),()))) this.symm
   ·refine ag (BM h7) (aa (dK hv hf) ?_);have:=hm (fun u=>(u.1,(u.2.1,(u.2.2.1,oN o)))) (fun u hu=>by unfold fJ;rw[if_pos ⟨pG,hu⟩,if_neg h7]);exact congrArg (fun l:List ai=>some (((0:Int),()),((l,w.2),()))) this.symm
theorem aaP(hG:HG G)(a b:ae):FX G 195 Hh ((a,b,()),())=some ((oc a b,()),()):=by
 refine aB (hG _ _ rfl) aeU ?_;refine aa (VP hG a.1 b.1) ?_;refine aa (VO hG a.2 b.2) ?_;refine aa (aaL (hG _ _ rfl) (rH a.1 b.1) (N0 a.2 b.2)) ?_;refine congrArg (fun n:Int=>some ((n,()),())) ?_;obtain⟨a1,a2⟩:=a;obtain⟨b1,b2⟩:=b;unfold oc rH N0 lA;simp only[Prod.mk.injEq];by_cases h:a1=b1
 ·subst h;simp only[if_true,cv,Bool.false_or,true_and,decide_true,Bool.true_and];by_cases h1:a2<b2
  ·have:¬a2=b2:=by omega
   simp[h1,this]
  ·by_cases h2:a2>b2
   ·have:¬a2=b2:=by omega
    simp[h1,h2,this]
   ·have:a2=b2:=by omega
    simp[this]
 ·simp only[h,if_false,false_and,decide_false,Bool.false_and,Bool.or_false]
  cases gm a1 b1<;>simp
theorem aga(hG:G 168 nT=none)(row:List ae)(d:ae)(hl:row.length≤1073741824):∀(n i:Nat),i+n=row.length → LX G 168 nT Tryz.f168 yc (aS Tryz.prog 168 0) ((row,(((row.length:Nat):Int),((i:Int),()))),(((d,()),()),()))=some ((idx d (row.drop i) i,()),()):=by
 intro n
 induction n with
 |zero =>intro i hi;refine aw Pr ?_;refine ag (decide_eq_false (show ¬((i:Int)<((row.length:Nat):Int)) by omega)) ?_;rw[List.drop_eq_nil_of_le (by omega)];rfl
 |succ n ih =>
  intro i hi;have aG:i<row.length:=by omega
  refine aw Pr ?_;refine af (ba aG) (aa (aC (aa4 aG)) ?_);rw[List.drop_eq_getElem_cons aG,idx];by_cases he:row[i]=d
  ·rw[if_pos he];exact af ((lW d row[i]).trans (decide_eq_true he.symm)) rfl
  ·rw[if_neg he];refine ag ((lW d row[i]).trans (decide_eq_false fun h=>he h.symm)) ?_;rw[wI,aI aG hl];exact ih (i+1) (by omega)
theorem E1(hG:G 168 nT=none)(row:List ae)(d:ae)(hl:row.length≤1073741824):FX G 168 nT ((row,d,()),())=some ((idx d row 0,()),()):=by refine aB hG aeO ?_;have:=aga hG row d hl row.length 0 (by omega);rw[List.drop_zero]at this;exact this
theorem Hv(hG:HG G)(row:List ae)(d:ae)(hl:row.length≤1073741824):FX G 166 xU ((row,d,()),())=some ((decide (d∈row),()),()):=by
 refine aB (hG _ _ rfl) aeN ?_;refine aa (E1 (hG _ _ rfl) row d hl) ?_;refine congrArg (fun b:Bool=>some ((b,()),())) ?_;rw[Bool.eq_iff_iff];simp only[decide_eq_true_eq];have:=fS (d:=d) (row:=row);constructor
 ·intro h;exact Classical.byContradiction fun k=>by have:=this.2 k;omega
 ·intro h;have h2:¬idx d row 0<0:=fun k=>this.1 k h;omega
theorem eV(a:ae):lA a a=false:=by unfold lA;simp[cv]
theorem gX{a b c:ae}(h:lA a b=true)(k:lA b c=true):lA a c=true:=by obtain⟨⟨a1,a2⟩,a3⟩:=a;obtain⟨⟨b1,b2⟩,b3⟩:=b;obtain⟨⟨c1,c2⟩,c3⟩:=c;simp[lA,gm]at *;omega
theorem uM{a b:ae}(h:lA a b=false)(k:a≠b):lA b a=true:=by obtain⟨⟨a1,a2⟩,a3⟩:=a;obtain⟨⟨b1,b2⟩,b3⟩:=b;simp[lA,gm]at *;omega
theorem Jt{a b c:ae}(h:lA a b=true)(k:lA c b=false):lA a c=true:=by obtain⟨⟨a1,a2⟩,a3⟩:=a;obtain⟨⟨b1,b2⟩,b3⟩:=b;obtain⟨⟨c1,c2⟩,c3⟩:=c;simp[lA,gm]at *;omega
theorem uN(a b:ae):oc a b<0↔lA a b=true:=by
 unfold oc;by_cases h:a=b
 ·subst h;simp[eV]
 ·rw[if_neg h];cases lA a b<;>simp
theorem mO{row:List ae}{k:Nat}(hk:k<row.length):row.getD k zD=row[k]:=by simp[List.getD,hk]
theorem Av(row:List ae):∀(r:List ae) (i k:Nat),row.drop i=r→k<row.length→k≤i→(∀j,j<i→(hj:j<row.length)→lA row[j] (row.getD k zD)=false)→(∀j,j<k→(hj:j<row.length)→lA (row.getD k zD) row[j]=true) →(∀j,(hj:j<row.length)→lA row[j] (row.getD (fP row r i k) zD)=false)∧(∀j,j<fP row r i k→(hj:j<row.length)→lA (row.getD (fP row r i k) zD) row[j]=true)
 |[],i,k,hr,hk,hki,h1,h2=>by
  have hi:row.length≤i:=by have:=congrArg List.length hr;simp at this;omega
  exact⟨fun j hj=>h1 j (by omega) hj,h2⟩
 |x::r,i,k,hr,hk,hki,h1,h2=>by
  have hi:i<row.length:=by have:=congrArg List.length hr;simp at this;omega
  have hx:row[i]=x:=by have:=ac8 hi;rw[hr]at this;injection this with a b;exact a.symm
  have ud:row.drop (i+1)=r:=by have:=ac8 hi;rw[hr]at this;injection this with a b;exact b.symm
  unfold fP
  split
  ·rename_i aG;rw[uN]at aG;refine Av row r (i+1) i ud hi (by omega) (fun j hj MP=>?_) (fun j hj MP=>?_)
   ·rw[mO hi,hx];rcases Nat.lt_succ_iff_lt_or_eq.1 hj with hj|rfl
    ·cases hc:lA row[j] x with
     |false=>rfl
     |true=>have:=gX hc aG;rw[h1 j hj MP]at this;cases this
    ·rw[hx,eV]
   ·rw[mO hi,hx];exact Jt aG (h1 j (by omega) MP)
  ·rename_i aG;rw[uN]at aG;refine Av row r (i+1) k ud hk (by omega) (fun j hj MP=>?_) h2;rcases Nat.lt_succ_iff_lt_or_eq.1 hj with hj|rfl
   ·exact h1 j hj MP
   ·rw[hx];simpa using aG
theorem oi{row:List ae}(h:0<row.length):(∀j,(hj:j<row.length)→lA row[j] (row.getD (fP row row 0 0) zD)=false)∧(∀j,j<fP row row 0 0→(hj:j<row.length)→lA (row.getD (fP row row 0 0) zD) row[j]=true) :=Av row row 0 0 rfl h (ack _) (fun j hj=>by omega) (fun j hj=>by omega)
theorem N4{d:ae}:∀{row:List ae} {k:Nat} {i:Int},row[k]? = some d→(∀j,j<k→row[j]?≠some d)→idx d row i=i+k
 |[],k,i,h,_=>by simp at h
 |e::r,0,i,h,_=>by simp at h;subst h;rw[idx,if_pos rfl];simp
 |e::r,k+1,i,h,hn=>by have h0:=hn 0 (by omega);rw[idx,if_neg (fun e=>h0 (by simp[e]))];rw[N4 (k:=k) (by simpa using h) (fun j hj=>by have:=hn (j+1) (by omega);simpa using this)];simp;omega
theorem VW{row:List ae}(h:0<row.length):idx (row.getD (fP row row 0 0) zD) row 0=((fP row row 0 0:Nat):Int):=by have hm:=lB row row 0 0 h (by omega);have:=N4 (d:=row.getD (fP row row 0 0) zD) (row:=row) (k:=fP row row 0 0) (i:=0) (by rw[mO hm];exact aa4 hm) (fun j hj he=>by obtain⟨h1,h2⟩:=aa2.1 he;have:=(oi h).2 j hj h1;rw[h2,eV]at this;cases this);omega
theorem VX(hG:HG G)(row:List ae)(h:0<row.length)(hl:row.length≤100000000):FX G 196194 lR ((row,()),())=some ((row.getD (fP row row 0 0) zD,()),()):=by
 refine aB (hG _ _ rfl) Vm ?_;refine ag (decide_eq_false (show ¬((row.length:Nat):Int)<1 by omega)) ?_;refine aa (aC (i:=0) (aa4 h)) ?_;have loop:∀(n i k:Nat),i+n=row.length→k<row.length→LX G 196194 lR Tryz.f194 kV (aS Tryz.prog 194 0) ((row,((i:Int),())),(((zD,()),(((row.getD k zD),()),())),()))=some ((row.getD (fP row (row.drop i) i k) zD,()),()):=by
  intro n
  induction n with
  |zero =>intro i k hi hk;refine aw EG ?_;refine ag (decide_eq_false (show ¬((i:Int)<((row.length:Nat):Int)) by omega)) ?_;rw[List.drop_eq_nil_of_le (by omega)];rfl
  |succ n ih =>
   intro i k hi hk;have aG:i<row.length:=by omega
   have hx:row[i]? = some row[i]:=aa4 aG;refine aw EG ?_;refine af (ba aG) (aa (aC hx) ?_);refine aa (aaP hG row[i] (row.getD k zD)) ?_;rw[List.drop_eq_getElem_cons aG,fP];by_cases ho:oc row[i] (row.getD k zD)<0
   ·rw[if_pos ho];refine af (decide_eq_true ho) (aa (aC hx) ?_);have:=ih (i+1) i (by omega) aG;rw[←aI aG (by omega),mO aG]at this;exact this
   ·rw[if_neg ho];refine ag (decide_eq_false ho) ?_;have:=ih (i+1) k (by omega) hk;rw[←aI aG (by omega)]at this;exact this
 have h1:=loop (row.length-1) 1 0 (by omega) h;have h2:fP row row 0 0=fP row (row.drop 1) 1 0:=by
  cases row with
  |nil=>simp at h
  |cons x r =>
   rw[List.drop_one,List.tail_cons]
   conv=>lhs;rw[fP]
   rw[if_neg];show ¬oc x x<0;unfold oc;simp
 rw[h2];have h3:row.getD 0 zD=row[0]:=mO h;rw[h3]at h1;exact h1
def total(ls:List (List ae)):Nat:=(ls.map List.length).sum
theorem E2(a:List ae)(r:List (List ae)):total (a::r)=a.length+total r:=by unfold total;rw[List.map_cons,List.sum_cons]
theorem aaQ(hG:HG G)(ls:List (List ae))(hn:ls.length≤1000)(hl:total ls≤500000000):FX G 196 qw ((ls,()),())=some ((ls.flatten,()),()):=by
 refine aB (hG _ _ rfl) aeV ?_;have agb:∀(n i:Nat) (out:List ae),i+n=ls.length→out.length+total (ls.drop i)≤500000000→LX G 196 qw Tryz.f196 yf (aS Tryz.prog 196 1) ((ls,(((ls.length:Nat):Int),((i:Int),()))),((),(out,())))=some ((out++(ls.drop i).flatten,()),()):=by
  intro n
  induction n with
  |zero =>intro i out hi ho;refine aw Pu ?_;refine ag (decide_eq_false (show ¬((i:Int)<((ls.length:Nat):Int)) by omega)) ?_;rw[List.drop_eq_nil_of_le (by omega),List.flatten_nil,List.append_nil];rfl
  |succ n ih =>
   intro i out hi ho;have aG:i<ls.length:=by omega
   rw[List.drop_eq_getElem_cons aG]at ho ⊢;have pG:out.length+(ls[i].length+total (ls.drop (i+1)))≤500000000:=by have:total (ls[i]::ls.drop (i+1))=ls[i].length+total (ls.drop (i+1)):=E2 _ _;omega
   refine aw Pu ?_;refine af (ba aG) (aa (aC (aa4 aG)) ?_);refine af (fits (show out.length+ls[i].length≤1073741824 by omega)) ?_;have:=ih (i+1) (out++ls[i]) (by omega) (by rw[List.length_append];omega);rw[List.flatten_cons,←List.append_assoc];rw[←aI aG (by omega)]at this;exact this
 have agc:∀(n i m:Nat),i+n=ls.length→m+total (ls.drop i)=total ls→LX G 196 qw Tryz.f196 yd (aS Tryz.prog 196 0) ((ls,((m:Int),(ls,(((ls.length:Nat):Int),((i:Int),()))))),((),()))=some ((ls.flatten,()),()):=by
  intro n
  induction n with
  |zero =>
   intro i m hi hm;refine aw Ps ?_;refine ag (decide_eq_false (show ¬((i:Int)<((ls.length:Nat):Int)) by omega)) ?_;have hg:sP (m:Int)=true:=by unfold sP;rw[decide_eq_true (show(0:Int)≤(m:Int) by omega)];rw[decide_eq_true (show(m:Int)≤gy by unfold gy;omega)];rfl
   refine af hg ?_;have:=agb ls.length 0 [] (by omega) (by rw[List.drop_zero];simpa using hl);rw[List.drop_zero,List.nil_append]at this;exact this
  |succ n ih =>
   intro i m hi hm;have aG:i<ls.length:=by omega
   have Yb:m+ls[i].length+total (ls.drop (i+1))=total ls:=by rw[List.drop_eq_getElem_cons aG]at hm;have:total (ls[i]::ls.drop (i+1))=ls[i].length+total (ls.drop (i+1)):=E2 _ _;omega
   refine aw Ps ?_;refine af (ba aG) (aa (aC (aa4 aG)) ?_);have hw:IntKind.wrap .i64 ((m:Int)+((ls[i].length:Nat):Int))=((m+ls[i].length:Nat):Int):=by rw[wrap_small (by omega) (by omega)];rfl
   refine ag (decide_eq_false (show ¬IntKind.wrap .i64 ((m:Int)+((ls[i].length:Nat):Int))<0 by rw[hw];omega)) ?_;have:=ih (i+1) (m+ls[i].length) (by omega) Yb;rw[←aI aG (by omega),←hw]at this;exact this
 exact agc ls.length 0 0 (by omega) (by rw[List.drop_zero];omega)
theorem CM{α:Type}(xs:List α){k:Nat}(hk:k≤xs.length):cut xs (k:Int) ((xs.length:Nat):Int)=xs.drop k:=by unfold cut;rw[Int.toNat_natCast,Int.toNat_natCast,List.take_of_length_le (Nat.le_refl _)]
theorem uO{α:Type}(xs:List α)(k:Nat):cut xs 0 (k:Int)=xs.take k:=by unfold cut;rw[Int.toNat_natCast];rfl
theorem Ju{n k:Nat}(h:k≤n):bu n (k:Int) ((n:Nat):Int)=true:=by unfold bu;simp;omega
theorem yF{n k:Nat}(h:k≤n):bu n 0 (k:Int)=true:=by unfold bu;simp;omega
theorem Hw(hG:HG G)(row:List ae)(hl:row.length≤100000000):FX G 169 tx ((row,()),())=some ((bB row,()),()):=by
 refine aB (hG _ _ rfl) aeH ?_;by_cases h0:row.length=0
 ·refine af (show(((row.length:Nat):Int)==0)=true by simp[h0]) ?_;have:row=[]:=by simpa using h0
  subst this;rfl
 refine ag (show(((row.length:Nat):Int)==0)=false by rw[beq_eq_false_iff_ne];omega) ?_;have hp:0<row.length:=by omega
 have hm:=lB row row 0 0 hp (by omega);refine aa (VX hG row hp hl) ?_;refine aa (E1 (hG _ _ rfl) row (row.getD (fP row row 0 0) zD) (by omega)) ?_;rw[VW hp];refine af (Ju (n:=row.length) (k:=fP row row 0 0) (by omega)) (af (yF (n:=row.length) (k:=fP row row 0 0) (by omega)) ?_);have key:∀a b:List ae,a=row.drop (fP row row 0 0)→b=row.take (fP row row 0 0)→((FX G 196 qw (([a,b],()),())).bind fun(y3:(((List ae)×Unit)×Unit))=>some (y3.1,()))=some ((bB row,()),()):=by intro a b ha hb;subst ha hb;refine aa (aaQ hG [row.drop (fP row row 0 0),row.take (fP row row 0 0)] (by simp) (by unfold total;simp;omega)) ?_;unfold bB kF;simp only[List.flatten_cons,List.flatten_nil,List.append_nil]
 exact key _ _ (CM row (by omega)) (uO row _)
theorem VY(hG:HG G)(ls:List (List ae))(hn:ls.length≤1000)(hl:total ls≤100000000):FX G 170 qv ((ls,()),())=some ((bB ls.flatten,()),()):=by
 refine aB (hG _ _ rfl) aeP ?_;refine aa (aaQ hG ls hn (by omega)) ?_;have hlen:ls.flatten.length=total ls:=by unfold total;exact List.length_flatten
 exact aa (Hw hG ls.flatten (by omega)) rfl
theorem VZ(hG:HG G)(row:List ae)(after d:ae)(hl:row.length≤50000000):FX G 181 D6 ((row,after,d,()),())=some ((gN row after d,()),()):=by
  refine aB (hG _ _ rfl) aey ?_;refine aa (Hv hG row d (by omega)) ?_;unfold gN;by_cases hd:d∈row
  · rw[if_pos hd]
    exact af (decide_eq_true hd) (aa (Hw hG row (by omega)) rfl)
  rw[if_neg hd];refine ag (decide_eq_false hd) ?_;refine aa (E1 (hG _ _ rfl) row after (by omega)) ?_;have hr:idx after row 0<((row.length:Nat):Int)∨row.length=0∧idx after row 0 = -1:=by
    rcases qB after row 0 (by omega) with⟨h,_⟩|⟨k,h,hk,_⟩
    · by_cases h0:row.length=0
      · exact .inr ⟨h0,h⟩
      · exact .inl (by omega)
    · have:=(aa2.1 hk).1
      exact .inl (by omega)
  have hm:max (idx after row 0) (0:Int)=max 0 (idx after row 0):=by omega
  have hw:IntKind.wrap .i64 (max (idx after row 0) (0:Int)+1)=(((max 0 (idx after row 0)).toNat+1:Nat):Int):=by rw[wrap_small (by omega) (by omega)];omega
  obtain⟨k,hk,pJ,Ta⟩:∃k:Nat,min (IntKind.wrap .i64 (max (idx after row 0) (0:Int)+1)) ((row.length:Nat):Int)=(k:Int)∧k≤row.length∧row.take k++(d::row.drop k)=row.take ((max 0 (idx after row 0)).toNat+1)++(d::row.drop ((max 0 (idx after row 0)).toNat+1)):=by
    rw[hw];by_cases h0:row.length=0
    · have:row=[]:=by simpa using h0
      subst this;exact⟨0,by simp;omega,by simp,by simp⟩
    · exact⟨(max 0 (idx after row 0)).toNat+1,by omega,by omega,rfl⟩
  have yZ:(min (IntKind.wrap .i64 ((max (idx after row 0) (0:Int):Int)+(1:Int))) (((List.length row):Nat):Int):Int)=(k:Int):=hk;show cond (bu (List.length row) (0:Int) (min (IntKind.wrap .i64 ((max (idx after row 0) (0:Int):Int)+(1:Int))) (((List.length row):Nat):Int):Int)) (cond (bu (List.length row) (min (IntKind.wrap .i64 ((max (idx after row 0) (0:Int):Int)+(1:Int))) (((List.length row):Nat):Int):Int) (((List.length row):Nat):Int)) ((FX G 170 qv ((((cut row (0:Int) (min (IntKind.wrap .i64 ((max (idx after row 0) (0:Int):Int)+(1:Int))) (((List.length row):Nat):Int):Int))::([d]::((cut row (min (IntKind.wrap .i64 ((max (idx after row 0) (0:Int):Int)+(1:Int))) (((List.length row):Nat):Int):Int) (((List.length row):Nat):Int))::([]:List (List ae))))),()),())).bind fun(y4:(((List ae)×Unit)×Unit)) =>some (y4.1,())) (none)) (none)=_;rw[yZ];refine af (yF pJ) (af (Ju pJ) ?_);have key:∀a b R:List ae,a=row.take k→b=row.drop k→R=bB (row.take k++(d::row.drop k))→((FX G 170 qv (([a,[d],b],()),())).bind fun(y3:(((List ae)×Unit)×Unit))=>some (y3.1,()))=some ((R,()),()):=by intro a b R ha hb hR;subst ha hb hR;refine aa (VY hG [row.take k,[d],row.drop k] (by simp) (by unfold total;simp;omega)) ?_;refine congrArg (fun l:List ae=>some ((l,()),())) ?_;simp
  exact key _ _ _ (uO row k) (CM row pJ) (by rw[Ta])
theorem Aw{row:List ae}{d:ae}{k:Nat}(hn:row.Nodup)(hk:row[k]? = some d):row.filter (fun e=>decide (e≠d))=row.take k++row.drop (k+1):=by
 obtain⟨h1,h2⟩:=aa2.1 hk
 conv=>lhs;rw[←List.take_append_drop k row,List.drop_eq_getElem_cons h1,h2]
 have M6:(row.take k++(d::row.drop (k+1))).Nodup:=by rw[←h2,←List.drop_eq_getElem_cons h1,List.take_append_drop];exact hn
 have h3:=ac6.1 M6;have h4:=abv.1 h3.2.1;rw[List.filter_append,List.filter_cons_of_neg (by simp)];congr 1
 ·rw[List.filter_eq_self];intro a ha;have:=h3.2.2 a ha d (by simp);simpa using this
 ·rw[List.filter_eq_self];intro a ha;have:a≠d:=fun e=>h4.1 (e▸ha);simpa using this
theorem V5(hG:HG G)(row:List ae)(d:ae)(hn:row.Nodup)(hl:row.length≤50000000):FX G 141 Ea ((row,d,()),())=some ((bz row d,()),()):=by
 refine aB (hG _ _ rfl) aeE ?_;refine aa (E1 (hG _ _ rfl) row d (by omega)) ?_;unfold bz;by_cases hd:d∈row
 ·obtain⟨k,h1,h2,h3⟩:=eU hd;have aG:=(aa2.1 h2).1;rw[Aw hn h2];show cond (decide (idx d row 0<0)) _ (cond (bu row.length 0 (idx d row 0)) (cond (bu row.length (IntKind.wrap .i64 (idx d row 0+1)) ((row.length:Nat):Int)) ((FX G 170 qv (([cut row 0 (idx d row 0),cut row (IntKind.wrap .i64 (idx d row 0+1)) ((row.length:Nat):Int)],()),())).bind fun(y3:(((List ae)×Unit)×Unit))=>some (y3.1,())) none) none)=_;rw[h1,aI aG (by omega)];refine ag (decide_eq_false (by omega)) (af (yF (by omega)) (af (Ju (by omega)) ?_));have key:∀a b:List ae,a=row.take k→b=row.drop (k+1)→((FX G 170 qv (([a,b],()),())).bind fun(y3:(((List ae)×Unit)×Unit))=>some (y3.1,()))=some ((bB (row.take k++row.drop (k+1)),()),()):=by intro a b ha hb;subst ha hb;refine aa (VY hG [row.take k,row.drop (k+1)] (by simp) (by unfold total;simp;omega)) ?_;refine congrArg (fun l:List ae=>some ((l,()),())) ?_;simp
  exact key _ _ (uO row k) (CM row (by omega))
 ·have h1:=fS.2 hd;refine af (decide_eq_true h1) (aa (Hw hG row (by omega)) ?_);refine congrArg (fun l:List ae=>some ((l,()),())) ?_;congr 1
  symm
  rw[List.filter_eq_self];intro a ha;have:a≠d:=fun e=>hd (e▸ha);simpa using this
theorem aaR(hG:HG G)(row:List ae)(dr d:ae)(hl:row.length≤50000000):FX G 187 vz ((row,dr,d,()),())=some ((dJ row dr d,()),()):=by
 refine aB (hG _ _ rfl) aeF ?_;refine aa (E1 (hG _ _ rfl) row dr (by omega)) ?_;unfold dJ;by_cases ho:dr∈row
 ·obtain⟨k,h1,h2,h3⟩:=eU ho;have aG:=(aa2.1 h2).1;refine ag (decide_eq_false (show ¬idx dr row 0<0 by omega)) ?_;refine aa (Hv hG row d (by omega)) ?_;by_cases hd:d∈row
  ·rw[if_neg (fun h=>h.2 hd)];exact af (decide_eq_true hd) (aa (Hw hG row (by omega)) rfl)
  rw[if_pos ⟨ho,hd⟩];refine ag (decide_eq_false hd) ?_;show cond (bu row.length 0 (idx dr row 0)) (cond (bu row.length (IntKind.wrap .i64 (idx dr row 0+1)) ((row.length:Nat):Int)) ((FX G 170 qv (([cut row 0 (idx dr row 0),[d],cut row (IntKind.wrap .i64 (idx dr row 0+1)) ((row.length:Nat):Int)],()),())).bind fun(y3:(((List ae)×Unit)×Unit))=>some (y3.1,())) none) none=_;rw[h1,aI aG (by omega)];refine af (yF (by omega)) (af (Ju (by omega)) ?_);have key:∀a b R:List ae,a=row.take k→b=row.drop (k+1)→R=bB (row.set ((k:Int)).toNat d)→((FX G 170 qv (([a,[d],b],()),())).bind fun(y3:(((List ae)×Unit)×Unit))=>some (y3.1,()))=some ((R,()),()):=by intro a b R ha hb hR;subst ha hb hR;refine aa (VY hG [row.take k,[d],row.drop (k+1)] (by simp) (by unfold total;simp;omega)) ?_;refine congrArg (fun l:List ae=>some ((l,()),())) ?_;rw[Int.toNat_natCast,List.set_eq_take_append_cons_drop,if_pos aG];simp
  exact key _ _ _ (uO row k) (CM row (by omega)) rfl
 ·have h1:=fS.2 ho;rw[if_neg (fun h=>ho h.1)];exact af (decide_eq_true h1) (aa (Hw hG row (by omega)) rfl)
theorem aaS(hG:HG G)(row:List ae)(d:ae)(hl:row.length≤100000000):FX G 140 Ec ((row,d,()),())=some (BG (cT row d (row.length-1)),()):=by
 refine aB (hG _ _ rfl) aeT ?_;have key:FX G 167 Ee ((row,(d,((IntKind.wrap .i64 (((row.length:Nat):Int)-1)),()))),())=some (BG (cT row d (row.length-1)),()):=by
  refine aB (hG _ _ rfl) aaw ?_;refine aa (E1 (hG _ _ rfl) row d (by omega)) ?_;unfold cT;by_cases hd:d∈row
  ·rw[if_pos hd];obtain⟨k,h1,h2,h3⟩:=eU hd;have aG:=(aa2.1 h2).1;refine ag (decide_eq_false (show ¬idx d row 0<0 by omega)) ?_;refine ag (Jh hd) ?_;have hw:IntKind.wrap .i64 (((row.length:Nat):Int)-1)=((row.length-1:Nat):Int):=by rw[wrap_small (by omega) (by omega)];omega
   have Lu:IntKind.wrap .i64 (idx d row 0+IntKind.wrap .i64 (((row.length:Nat):Int)-1))=((k+(row.length-1):Nat):Int):=by rw[hw,h1,wrap_small (by omega) (by omega)];rfl
   have Al:(k+(row.length-1))%row.length<row.length:=adv _ (by omega);have hx:=aa4 Al;refine aa (show bh row (Int.tmod (IntKind.wrap .i64 (idx d row 0+IntKind.wrap .i64 (((row.length:Nat):Int)-1))) ((row.length:Nat):Int))=some row[(k+(row.length-1))%row.length] by rw[Lu,tF];exact aC hx) ?_;rw[h1,Int.toNat_natCast,hx];rfl
  ·rw[if_neg hd];exact af (decide_eq_true (fS.2 hd)) rfl
 refine aa key ?_;rfl
end Go.Vs
