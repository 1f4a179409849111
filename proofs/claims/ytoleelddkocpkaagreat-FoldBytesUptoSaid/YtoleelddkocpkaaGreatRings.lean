/- What the program computes at -/
import Derived.Test.YtoleelddkocpkaaGreatPlaces
set_option linter.unusedVariables false
set_option linter.unusedSimpArgs false
namespace Go.Vs
open Go.Proofs
variable {G:(f:FuncId)→(g:aO)→Option (g.A→Option g.B)}
theorem get_at{s:ByteArray}{i:Nat}{c:UInt8}(h:s.data.toList[i]? = some c):s.get! i=c:=by
 have hi:i<s.data.size:=by grind
 have h2:=(aby.1 h).2;show s.data[i]! = c;simp_all
theorem Qv{s:ByteArray}{i:Nat}(h:(s.get! i).toNat<128):Utf8.decode s i=((s.get! i).toNat,1):=by simp_all [Utf8.decode,Nat.add_zero,if_pos]
theorem Qw{s:ByteArray}{i:Nat}(h:¬(s.get! i).toNat<128):128≤(Utf8.decode s i).1:=by
 unfold Utf8.decode;simp only[Nat.add_zero];rw[if_neg h]
 repeat' split
 all_goals first|(simp_all only[Bool.and_eq_true,decide_eq_true_eq];omega)|decide|omega
theorem akl(hG:G 141 wC=none)(s:ByteArray)(hs:s.size≤100000000):∀(n i:Nat),i+n=s.size → LX G 141 wC Tryz.f141 yw (aM Tryz.prog 141 0) ((s,()),((),((s,i),())))=some ((((s.data.toList.drop i).all lj&&decide (s.size≤16),()),()):(Bool×Unit)×Unit):=by
 have hl:s.data.toList.length=s.size:=by simp
 intro n
 induction n with
 |zero =>
  intro i hi;refine au TT ?_;refine af (decide_eq_false (show ¬(i<s.size) by omega)) ?_;refine congrArg (fun b:Bool=>some ((b,()),())) ?_
  grind
 |succ n ih =>
  intro i hi;have aK:i<s.data.toList.length:=by omega
  have hx:s.data.toList[i]? = some s.data.toList[i]:=abk aK;generalize s.data.toList[i]=c at hx;have hd:s.data.toList.drop i=c::s.data.toList.drop (i+1):=by
   grind [List.drop_eq_getElem_cons,List.getElem?_eq_getElem]
  have hg:=get_at hx;refine au TT ?_;refine ae (decide_eq_true (show i<s.size by omega)) ?_;show cond (decide (pN s i<32)) _ (cond (decide (pN s i>126)) _ (LX G 141 wC Tryz.f141 yw (aM Tryz.prog 141 0) ((s,()),((),((s,i+Bj s i),())))))=_;rw[hd,List.all_cons];by_cases h1:c.toNat<128
  ·have hr:Utf8.decode s i=(c.toNat,1):=by grind [Qv]
   have hr1:pN s i=(c.toNat:Int):=by grind [pN]
   have PY:Bj s i=1:=by grind [Bj]
   rw[hr1,PY];by_cases h2:c.toNat<32
   ·refine ae (decide_eq_true (by omega)) ?_;have:lj c=false:=by grind [lj]
    rw[this];rfl
   refine af (decide_eq_false (by omega)) ?_;by_cases h3:126<c.toNat
   ·refine ae (decide_eq_true (by omega)) ?_;have:lj c=false:=by grind [lj]
    rw[this];rfl
   refine af (decide_eq_false (by omega)) ?_;have:lj c=true:=by grind [lj]
   rw[this,Bool.true_and];exact ih (i+1) (by omega)
  ·have h2:=Qw (s:=s) (i:=i) (by simp_all);have hr1:128≤pN s i:=by unfold pN;omega
   refine af (decide_eq_false (by omega)) (ae (decide_eq_true (by omega)) ?_);have:lj c=false:=by grind [lj]
   rw[this];rfl
theorem aeP(hG:G 141 wC=none)(s:ByteArray)(hs:s.size≤100000000):FX G 141 wC ((s,()),())=some ((kj s,()),()):=by refine aw hG ajn ?_;have:=akl hG s hs s.size 0 (by omega);rw[List.drop_zero]at this;exact this
theorem aeQ(hG:G 143 HA=none)(n:Int):FX G 143 HA ((n,()),())=some ((jJ n,()),()):=by
 refine aw hG ajo ?_;show(cond (decide (n≥-1099511627776)) (some ((decide (n≤1099511627776),()),())) (some ((false,()),())):Option ((Bool×Unit)×Unit))=some ((jJ n,()),())
 grind [jJ]
def Qx(n:Int):Prop := -9223372036854775808≤n∧n<9223372036854775808
theorem Ur(x:BitVec 64):IntKind.wrap .i64 ((x.toNat:Nat):Int)=x.toInt:=by
 grind [IntKind.wrap,IntKind.bits,IntKind.signed,BitVec.toInt_eq_toNat_cond]
theorem ofInt_toInt{n:Int}(h:Qx n):(BitVec.ofInt 64 n).toInt=n:=by
 grind [Qx,BitVec.toInt_ofInt,Int.bmod_eq_of_le]
theorem XJ{n:Int}(h:Qx n):(fe .andNot .i64 n 3==(0:Int))=decide (0≤n∧n≤3):=by
 have e:fe .andNot .i64 n 3=(BitVec.ofInt 64 n &&& ~~~(BitVec.ofInt 64 3)).toInt:=by unfold fe;exact Ur _
 rw[e,Bool.eq_iff_iff];simp only[beq_iff_eq,decide_eq_true_eq];generalize hx:BitVec.ofInt 64 n=x;have hn:=ofInt_toInt h;rw[hx]at hn;have h1:(x &&& ~~~(BitVec.ofInt 64 3)).toInt=0↔(x &&& ~~~(BitVec.ofInt 64 3))=0#64:=by
  constructor
  ·intro h;exact BitVec.eq_of_toInt_eq (by rw[h];rfl)
  simp_all
 rw[h1,←hn];constructor
 ·intro h;have h2:x=x &&& 3#64:=by
   have h3:x=(x &&& ~~~(BitVec.ofInt 64 3)) ||| (x &&& 3#64):=by
    ext i hi;simp only[BitVec.getElem_or,BitVec.getElem_and,BitVec.getElem_not]
    grind
   grind
  grind [BitVec.toNat_and,Nat.and_le_right,BitVec.toInt_eq_toNat_cond]
 ·intro h;have h4:x.toNat≤3:=by rw[BitVec.toInt_eq_toNat_cond]at h;omega
  have h5:x=0#64∨x=1#64∨x=2#64∨x=3#64:=by
   have:x.toNat=0∨x.toNat=1∨x.toNat=2∨x.toNat=3:=by omega
   grind
  grind
theorem XK{n:Int}(h:Qx n):(fe .andNot .i64 n 1==(0:Int))=decide (n=0∨n=1):=by
 have e:fe .andNot .i64 n 1=(BitVec.ofInt 64 n &&& ~~~(BitVec.ofInt 64 1)).toInt:=by unfold fe;exact Ur _
 rw[e,Bool.eq_iff_iff];simp only[beq_iff_eq,decide_eq_true_eq];generalize hx:BitVec.ofInt 64 n=x;have hn:=ofInt_toInt h;rw[hx]at hn;have h1:(x &&& ~~~(BitVec.ofInt 64 1)).toInt=0↔(x &&& ~~~(BitVec.ofInt 64 1))=0#64:=by
  constructor
  ·intro h;exact BitVec.eq_of_toInt_eq (by rw[h];rfl)
  simp_all
 rw[h1,←hn];constructor
 ·intro h;have h2:x=x &&& 1#64:=by
   have h3:x=(x &&& ~~~(BitVec.ofInt 64 1)) ||| (x &&& 1#64):=by
    ext i hi;simp only[BitVec.getElem_or,BitVec.getElem_and,BitVec.getElem_not]
    grind
   grind
  grind
 grind
theorem aeR(hG:HG G)(d:ab)(h:Qx d.2):FX G 72 JO ((d,()),())=some ((lP d,()),()):=by
 refine aw (hG _ _ rfl) ade ?_;refine aa (Mv (hG _ _ rfl) d.1) ?_;unfold lP
 cases cF d.1
 ·rfl
 ·exact ae rfl (congrArg (fun b:Bool=>some ((b,()),())) (XK h))
theorem aeS(hG:HG G)(c:qP)(h:Qx c.2.2):FX G 151 EF ((c,()),())=some ((AB c,()),()):=by
 refine aw (hG _ _ rfl) ajm ?_;refine aa (Mv (hG _ _ rfl) c.1) ?_;unfold AB
 cases cF c.1
 ·rfl
 refine ae rfl ?_;have hb:(((c.2.1.1==(0:Int))&&(c.2.1.2==(0:Int)))&&(c.2.2==(0:Int)))=decide (c.2=zD):=lO c.2 zD;by_cases hz:c.2=zD
 ·refine ae (hb.trans (decide_eq_true hz)) ?_;rw[decide_eq_true hz,Bool.or_true];rfl
 ·refine af (hb.trans (decide_eq_false hz)) ?_;refine aa (aeR hG c.2 h) ?_;rw[decide_eq_false hz,Bool.or_false];rfl
structure Fit(o:bg):Prop where
 a:Qx (oA o).2.2
 b:Qx (oB o).2.2
 n:Qx (oN o)
 t:sq o
def Di(o:bg):bg :=if o.1=6 then(o.1,(aZ o,(zI,(bB o,(zC,(zC,(false,(e0,0))))))))
 else if o.1=3 then(o.1,(aZ o,(zI,(zI,(oA o,(oB o,(false,(e0,0))))))))
 else if o.1=5 then(o.1,(aZ o,(fb o,(bB o,(zC,(zC,(false,(e0,oN o))))))))
 else if o.1=7 then(o.1,(aZ o,(zI,(zI,(zC,(zC,(qp o,(oZ o,0))))))))
 else if o.1=8 then(o.1,(aZ o,(zI,(zI,(zC,(zC,(qp o,(e0,oN o))))))))
 else(o.1,(aZ o,(zI,(zI,(zC,(zC,(false,(e0,0))))))))
def HY(o:bg):Int :=if o.1=6 then(if cF (aZ o)=true∧cF (bB o)=true then 0 else 1)
 else if o.1=3 then(if cF (aZ o)=true∧AB (oA o)=true∧AB (oB o)=true then 0 else 1)
 else if o.1=5 then(if cF (aZ o)=true∧cF (fb o)=true∧cF (bB o)=true∧0≤oN o∧oN o≤3 then 0 else 1)
 else if o.1=7 then(if cF (aZ o)=true then(if kj (oZ o)=true then 0 else 4) else 1)
 else if o.1=8 then(if cF (aZ o)=true∧jJ (oN o)=true then 0 else 1)
 else if o.1=1∨o.1=2∨o.1=4 then(if cF (aZ o)=true then 0 else 1)
 else 1
theorem IF{o:bg}{k:Int}(h:o.1=k):(o.1==k)=true:=by simp[h]
theorem Ae{o:bg}{k:Int}(h:¬o.1=k):(o.1==k)=false:=by simp[h]
theorem akm(hG:HG G)(o:bg)(hf:Fit o):FX G 108 S6 ((o,()),())=some ((Di o,(HY o,())),()):=by
 refine aw (hG _ _ rfl) ai2 ?_;refine aa (Mv (hG _ _ rfl) (aZ o)) ?_;unfold Di HY;by_cases h1:o.1=1
 ·refine ae (IF h1) (ae (IF h1) ?_);rw[if_neg (by omega),if_neg (by omega),if_neg (by omega),if_neg (by omega),if_neg (by omega),if_neg (by omega),if_neg (by omega),if_neg (by omega),if_neg (by omega),if_neg (by omega),if_pos (by omega)]
  cases cF (aZ o)<;>rfl
 refine af (Ae h1) ?_;by_cases h2:o.1=2
 ·refine ae (IF h2) (ae (IF h2) ?_);rw[if_neg (by omega),if_neg (by omega),if_neg (by omega),if_neg (by omega),if_neg (by omega),if_neg (by omega),if_neg (by omega),if_neg (by omega),if_neg (by omega),if_neg (by omega),if_pos (by omega)]
  cases cF (aZ o)<;>rfl
 refine af (Ae h2) ?_;by_cases h4:o.1=4
 ·refine ae (IF h4) ?_;rw[if_neg (by omega),if_neg (by omega),if_neg (by omega),if_neg (by omega),if_neg (by omega),if_neg (by omega),if_neg (by omega),if_neg (by omega),if_neg (by omega),if_neg (by omega),if_pos (by omega)]
  cases cF (aZ o)<;>rfl
 refine af (Ae h4) ?_;by_cases h6:o.1=6
 ·refine ae (IF h6) ?_;rw[if_pos h6,if_pos h6]
  cases cF (aZ o)
  ·rfl
  refine ae rfl (aa (Mv (hG _ _ rfl) (bB o)) ?_)
  cases cF (bB o)<;>rfl
 refine af (Ae h6) ?_;rw[if_neg h6,if_neg h6];by_cases h3:o.1=3
 ·refine ae (IF h3) ?_;rw[if_pos h3,if_pos h3]
  cases cF (aZ o)
  ·rfl
  refine ae rfl (aa (aeS hG (oA o) hf.a) ?_)
  cases AB (oA o)
  ·rfl
  refine ae rfl (aa (aeS hG (oB o) hf.b) ?_)
  cases AB (oB o)<;>rfl
 refine af (Ae h3) ?_;rw[if_neg h3,if_neg h3];by_cases h5:o.1=5
 ·refine ae (IF h5) ?_;rw[if_pos h5,if_pos h5]
  cases cF (aZ o)
  ·rfl
  refine ae rfl (aa (Mv (hG _ _ rfl) (fb o)) ?_)
  cases cF (fb o)
  ·rfl
  refine ae rfl (aa (Mv (hG _ _ rfl) (bB o)) ?_)
  cases cF (bB o)
  ·rfl
  refine ae rfl (bu (XJ hf.n) ?_);by_cases h:0≤oN o∧oN o≤3
  ·rw[decide_eq_true h,if_pos ⟨rfl,rfl,rfl,h⟩];rfl
  ·rw[decide_eq_false h,if_neg (fun k=>h k.2.2.2)];rfl
 refine af (Ae h5) ?_;rw[if_neg h5,if_neg h5];by_cases h7:o.1=7
 ·refine ae (IF h7) ?_;rw[if_pos h7,if_pos h7];refine aa (aeP (hG _ _ rfl) (oZ o) hf.t) ?_
  cases kj (oZ o)<;>cases cF (aZ o)<;>rfl
 refine af (Ae h7) ?_;rw[if_neg h7,if_neg h7];by_cases h8:o.1=8
 ·refine ae (IF h8) ?_;rw[if_pos h8,if_pos h8]
  cases cF (aZ o)
  ·rfl
  refine ae rfl (aa (aeQ (hG _ _ rfl) (oN o)) ?_)
  cases jJ (oN o)<;>rfl
 refine af (Ae h8) ?_;rw[if_neg h8,if_neg h8,if_neg (by omega)];rfl
theorem Qy(o:bg)(h1:1≤o.1)(h8:o.1≤8):AD (Di o) o=AD (xg o) zOp:=by
 rw[Bool.eq_iff_iff,Kv,Kv];obtain⟨k,i,n,m,⟨a1,a2⟩,⟨b1,b2⟩,f,t,q⟩:=o;simp only at h1 h8;unfold Di xg zOp;have:k=1∨k=2∨k=3∨k=4∨k=5∨k=6∨k=7∨k=8:=by omega
 rcases this with rfl|rfl|rfl|rfl|rfl|rfl|rfl|rfl<;>simp only[Int.reduceEq,if_true,if_false]<;>constructor<;>intro h<;>simp only[zC,Prod.mk.injEq,true_and,and_true]at h ⊢<;>grind
theorem akn(hG:HG G)(o:bg)(hf:Fit o):FX G 82 SY ((o,()),())=some ((cx o,()),()):=by
 refine aw (hG _ _ rfl) aiH ?_;refine aa (akm hG o hf) ?_;refine bu (b:=AD (Di o) o) rfl ?_;unfold cx;by_cases h1:o.1<1
 ·rw[if_pos h1];have:HY o=1:=by unfold HY;omega
  rw[this];cases AD (Di o) o<;>rfl
 rw[if_neg h1];by_cases h8:8<o.1
 ·rw[if_pos h8];have:HY o=1:=by unfold HY;omega
  rw[this];cases AD (Di o) o<;>rfl
 rw[if_neg h8,Qy o (by omega) (by omega)];have hk:o.1=1∨o.1=2∨o.1=3∨o.1=4∨o.1=5∨o.1=6∨o.1=7∨o.1=8:=by omega
 by_cases hm:cF (aZ o)=true
 case neg =>
  have hb:HY o=1:=by simp_all [HY]
  rw[if_pos (by simpa using hm),hb];cases AD (xg o) zOp<;>rfl
 rw[if_neg (by simp[hm])]
 cases AD (xg o) zOp
 ·rfl
 rw[if_neg (by simp)];refine af rfl ?_;refine congrArg (fun n:Int=>some ((n,()),())) ?_;unfold HY
 grind
theorem ako(hG:HG G)(l:List bg)(hl:l.length≤1073741824)(hf:∀o∈l,Fit o):FX G 59 JE ((l,()),())=some ((eU l,()),()):=by
 refine aw (hG _ _ rfl) aiW ?_;unfold eU;by_cases h0:l.length=0
 ·refine ae (show(((l.length:Nat):Int)==0)=true by simp[h0]) ?_;rw[if_neg (by omega)];rfl
 refine af (show(((l.length:Nat):Int)==0)=false by simp_all) ?_;by_cases h6:6<l.length
 ·refine ae (decide_eq_true (show((l.length:Nat):Int)>6 by omega)) ?_;rw[if_neg (by omega)];rfl
 refine af (decide_eq_false (show ¬((l.length:Nat):Int)>6 by omega)) ?_;rw[if_pos (by omega)];have loop:∀(n i:Nat),i+n=l.length→LX G 59 JE Tryz.f59 CT (aM Tryz.prog 59 0) ((l,(((l.length:Nat):Int),((i:Int),()))),((),()))=some ((lk (l.drop i),()),()):=by
  intro n
  induction n with
  |zero =>intro i hi;refine au TL ?_;refine af (decide_eq_false (show ¬((i:Int)<((l.length:Nat):Int)) by omega)) ?_;rw[List.drop_eq_nil_of_le (by omega)];rfl
  |succ n ih =>
   intro i hi;have aK:i<l.length:=by omega
   refine au TL ?_;refine ae (aR aK) (aa (aG (abk aK)) ?_);refine aa (akn hG l[i] (hf _ (ab4 aK))) ?_;rw[List.drop_eq_getElem_cons aK,lk];by_cases hz:cx l[i]=0
   ·rw[if_neg (by simp[hz])];refine af (show(cx l[i] != 0)=false by simp[hz]) ?_;rw[wI,aB aK hl];exact ih (i+1) (by omega)
   ·rw[if_pos hz];exact ae (show(cx l[i] != 0)=true by simp[hz]) rfl
 have:=loop l.length 0 (by omega);rw[List.drop_zero]at this;exact this
theorem Zq(hG:HG G)(v:aj)(x:ID):FX G 198 FQ ((v,x,()),())=some ((rj v.1 x,()),()):=by refine aw (hG _ _ rfl) adC ?_;exact aa (Oa hG v.1 x) rfl
def cp(l:List aj)(x:ID):Nat:=l.countP fun v=>gm v.1 x
def dq(l:List aj):Prop:=l.Pairwise fun a b=>gm a.1 b.1=true
theorem HZ(l:List aj)(x:ID):cp l x≤l.length:=acL
theorem tI{l:List aj}{x:ID}(h:∀v∈l,gm v.1 x=false):cp l x=0:=by
 grind [cp,List.countP_eq_zero]
theorem yI{x:ID}:∀{l:List aj},dq l→∀(k:Nat) (v:aj),l[k]? = some v→(gm v.1 x=true↔k<cp l x)
 |[],_,k,v,h=>by simp at h
 |w::r,hs,k,v,h=>by
  have hw:∀{u:aj},u∈r→gm w.1 u.1=true:=fun {u} hu=>ab1 hs hu;have hr:dq r:=hs.of_cons;by_cases aK:gm w.1 x=true
  ·have e:cp (w::r) x=cp r x+1:=by grind [cp,List.countP_cons_of_pos]
   cases k with
   |zero=>simp_all
   |succ k=>have:=yI (x:=x) hr k v (by simpa using h);simp_all
  ·have hn:∀u∈w::r,gm u.1 x=false:=fun u hu=>by
    rcases abM.1 hu with rfl|hu
    ·simp_all
    ·rw[Bool.eq_false_iff];grind [jq]
   grind [tI,List.mem_of_getElem?]
theorem Us(hG:HG G)(l:List aj)(x:ID)(hs:dq l)(hl:l.length≤50000000):∀(n i j:Nat),j-i≤n→i≤cp l x→cp l x≤j→j≤l.length → LX G 199197 jG Tryz.f197 jc (aM Tryz.prog 197 0) ((l,(((l.length:Nat):Int),((i:Int),((j:Int),())))),(((x,()),()),()))=some (((((cp l x:Nat):Int),(decide ((l[cp l x]?).map (·.1)=some x),())):Int×(Bool×Unit)),()):=by
 have uW:=HZ l x;have fin:∀(i j:Nat),¬(i<j)→i≤cp l x→cp l x≤j→LX G 199197 jG Tryz.f197 jc (aM Tryz.prog 197 0) ((l,(((l.length:Nat):Int),((i:Int),((j:Int),())))),(((x,()),()),()))=some (((((cp l x:Nat):Int),(decide ((l[cp l x]?).map (·.1)=some x),())):Int×(Bool×Unit)),()):=fun i j Fu h1 h2=>by
  have hi:i=cp l x:=by omega
  subst hi;refine au CZ ?_;refine af (decide_eq_false (show ¬(((cp l x:Nat):Int)<(j:Int)) by omega)) ?_;by_cases hc:cp l x<l.length
  ·have hx:l[cp l x]? = some l[cp l x]:=abk hc;refine ae (aR hc) ?_;refine aa (aG hx) ?_;refine aa (Zq hG l[cp l x] x) ?_;refine congrArg (fun b:Bool=>some ((((cp l x:Nat):Int),(b,())),())) ?_
   grind [rj,cp]
  ·refine af (decide_eq_false (show ¬(((cp l x:Nat):Int)<((l.length:Nat):Int)) by omega)) ?_;refine congrArg (fun b:Bool=>some ((((cp l x:Nat):Int),(b,())),())) ?_;simp_all
 intro n
 induction n with
 |zero=>grind
 |succ n ih =>
  intro i j Fu h1 h2 h3;by_cases aK:i<j
  case neg=>grind
  refine au CZ ?_;refine ae (decide_eq_true (show((i:Int)<(j:Int)) by omega)) ?_;refine af rfl ?_;have hm:=Mx (i:=i) (j:=j) (by omega) (by omega);have hh:(i+j) / 2<l.length:=by omega
  have hx:l[(i+j) / 2]? = some l[(i+j) / 2]:=abk hh;have qg:=yI (x:=x) hs ((i+j) / 2) _ hx;refine aa (show aW l (IntKind.wrap .i64 (g9 .u64 (IntKind.wrap .u64 (IntKind.wrap .i64 ((i:Int)+(j:Int)))) (1:Int)))=some l[(i+j) / 2] by rw[hm];exact aG hx) ?_;refine aa (Zq hG l[(i+j) / 2] x) ?_;by_cases ho:gm l[(i+j) / 2].1 x=true
  ·refine ae (decide_eq_true ((lQ _ _).2 ho)) ?_;have hc:=qg.1 ho;have hw:IntKind.wrap .i64 (IntKind.wrap .i64 (g9 .u64 (IntKind.wrap .u64 (IntKind.wrap .i64 ((i:Int)+(j:Int)))) (1:Int))+1)=(((i+j) / 2+1:Nat):Int):=by rw[hm];exact aB hh (by omega)
   have:=ih ((i+j) / 2+1) j (by omega) (by omega) h2 h3;rw[←hw]at this;exact this
  ·refine af (decide_eq_false (fun h=>ho ((lQ _ _).1 h))) ?_;have hc:¬(i+j) / 2<cp l x:=fun h=>ho (qg.2 h);have:=ih i ((i+j) / 2) (by omega) h1 (by omega) (by omega);rw[←hm]at this;exact this
theorem Ut(hG:HG G)(l:List aj)(x:ID)(hs:dq l)(hl:l.length≤50000000) :
  FX G 199197 jG ((l,x,()),())=some (((((cp l x:Nat):Int),(decide ((l[cp l x]?).map (·.1)=some x),())):Int×(Bool×Unit)),()):=by
 refine aw (hG _ _ rfl) TX ?_;exact Us hG l x hs hl l.length 0 l.length (by omega) (by omega) (HZ l x) (abX _)
theorem o8(hG:HG G)(w:aV)(x:ID)(hs:dq w.2.1)(hl:w.2.1.length≤50000000) :
  FX G 159 nG ((x,()),(w,()))=some (((((cp w.2.1 x:Nat):Int),(decide ((w.2.1[cp w.2.1 x]?).map (·.1)=some x),())):Int×(Bool×Unit)),(w,())):=by
 refine aw (hG _ _ rfl) adl ?_;exact aa (Ut hG w.2.1 x hs hl) rfl
theorem yJ{x:ID}:∀{l:List aj},dq l→aY l x=(l[cp l x]?).filter fun v=>decide (v.1=x)
 |[],_=>rfl
 |w::r,hs=>by
  have hw:∀{u:aj},u∈r→gm w.1 u.1=true:=fun {u} hu=>ab1 hs hu;have hr:dq r:=hs.of_cons;by_cases aK:gm w.1 x=true
  ·have e:cp (w::r) x=cp r x+1:=by unfold cp;rw[List.countP_cons_of_pos (by simpa using aK)]
   have bw:¬w.1=x:=fun e=>by rw[e,bY]at aK;cases aK
   rw[e];simp only[aY,List.find?_cons,bw,decide_false,List.getElem?_cons_succ];exact yJ hr
  ·have hn:∀u∈w::r,gm u.1 x=false:=fun u hu=>by
    rcases abM.1 hu with rfl|hu
    ·simpa using aK
    ·rw[Bool.eq_false_iff];intro h2;exact aK (jq (hw hu) h2)
   rw[tI hn];by_cases he:w.1=x
   ·simp[aY,List.find?_cons,he,Option.filter]
   ·have Ny:gm x w.1=true:=l6 (by simpa using aK) he;have:aY r x=none:=by
     unfold aY;rw[List.find?_eq_none];intro u hu h2;have h3:u.1=x:=by simpa using h2
     have h4:=hw hu;rw[h3]at h4;have:=lZ h4;rw[Ny]at this;cases this
    rw[show aY (w::r) x=aY r x by simp only[aY,List.find?_cons,he,decide_false],this];simp[he,Option.filter]
theorem dk{l:List aj}{x:ID}(hs:dq l):decide ((l[cp l x]?).map (·.1)=some x)=(aY l x).isSome:=by
 grind [yJ,cp,Option.filter]
theorem KA(v:aj):∀{l:List aj},dq l→aY l v.1=none→dv v l=l.take (cp l v.1)++(v::l.drop (cp l v.1))
 |[],_,_=>rfl
 |w::r,hs,hf=>by
  have hw:∀{u:aj},u∈r→gm w.1 u.1=true:=fun {u} hu=>ab1 hs hu;have hr:dq r:=hs.of_cons;have bw:¬w.1=v.1:=fun e=>by simp[aY,e]at hf
  have Ci:aY r v.1=none:=by simpa[aY,List.find?_cons,bw] using hf
  by_cases aK:gm w.1 v.1=true
  ·have e:cp (w::r) v.1=cp r v.1+1:=by unfold cp;rw[List.countP_cons_of_pos (by simpa using aK)]
   have Wl:gm v.1 w.1=false:=lZ aK;rw[e,dv,if_neg (by simp[Wl]),KA v hr Ci];rfl
  ·have hn:∀u∈w::r,gm u.1 v.1=false:=fun u hu=>by
    rcases abM.1 hu with rfl|hu
    ·simpa using aK
    ·rw[Bool.eq_false_iff];intro h2;exact aK (jq (hw hu) h2)
   have Ny:gm v.1 w.1=true:=l6 (by simpa using aK) bw;rw[tI hn,dv,if_pos Ny];rfl
theorem yK{x:ID}:∀{l:List aj},dq l→(aY l x).isSome=true→cY l x=l.take (cp l x)++l.drop (cp l x+1)
 |[],_,hf=>by simp[aY]at hf
 |w::r,hs,hf=>by
  have hw:∀{u:aj},u∈r→gm w.1 u.1=true:=fun {u} hu=>ab1 hs hu;have hr:dq r:=hs.of_cons;by_cases he:w.1=x
  ·have hn:∀u∈w::r,gm u.1 x=false:=fun u hu=>by
    rcases abM.1 hu with rfl|hu
    ·rw[he,bY]
    ·rw[←he];exact lZ (hw hu)
   have jA:cY r x=r:=by unfold cY;rw[List.filter_eq_self];intro u hu;have h4:=hw hu;simp;intro e2;rw[he,e2,bY]at h4;cases h4
   rw[tI hn];unfold cY;rw[List.filter_cons_of_neg (by simp[he])];exact jA
  ·have Ci:(aY r x).isSome=true:=by simpa[aY,List.find?_cons,he] using hf
   have aK:gm w.1 x=true:=by
    obtain⟨u,hu⟩:=abY.1 Ci;have h1:=ab8 hu;have h2:u.1=x:=by simpa using acR hu
    rw[←h2];exact hw h1
   have e:cp (w::r) x=cp r x+1:=by unfold cp;rw[List.countP_cons_of_pos (by simpa using aK)]
   rw[e];have:=yK hr Ci;simp[cY,List.filter_cons,he]at this ⊢;exact this
theorem yL(v:aj):∀{l:List aj},dq l→aY l v.1=none→dq (dv v l)
 |[],_,_=>List.pairwise_singleton _ _
 |w::r,hs,hf=>by
  have hw:∀{u:aj},u∈r→gm w.1 u.1=true:=fun {u} hu=>ab1 hs hu;have hr:dq r:=hs.of_cons;have bw:¬w.1=v.1:=fun e=>by simp[aY,e]at hf
  have Ci:aY r v.1=none:=by simpa[aY,List.find?_cons,bw] using hf
  unfold dv
  split
  ·rename_i h;refine List.Pairwise.cons (fun u hu=>?_) hs;rcases abM.1 hu with rfl|hu
   ·exact h
   ·exact jq h (hw hu)
  ·rename_i h;have aK:gm w.1 v.1=true:=l6 (by simpa using h) (fun e=>bw e.symm);refine List.Pairwise.cons (fun u hu=>?_) (yL v hr Ci);rcases o4.1 hu with rfl|hu
   ·exact aK
   ·exact hw hu
theorem vA{l:List aj}{x:ID}(hs:dq l):dq (cY l x):=hs.filter _
theorem dd{l:List ai}{x:ID}{v:ai}(hs:b6 l)(h:aQ l x=some v):l[bS l x]? = some v:=by
 grind [tH,bS,Option.filter]
theorem iC{l:List ai}{x:ID}{v:ai}(h:aQ l x=some v):v.1=x:=by simpa using acR h
theorem dX{l:List ai}{x:ID}{v:ai}(h:aQ l x=some v):v∈l:=ab8 h
theorem km{l:List ai}{x:ID}{k:Nat}{u:ai}(hs:b6 l)(hk:l[k]? = some u)(hu:u.1=x):k=bS l x:=by
 have h1:¬k<bS l x:=fun h=>by
  have:=(yG hs k u hk).2 h
  grind [bY]
 have hf:(aQ l x).isSome=true:=by
  grind [aQ,List.find?_isSome,List.mem_of_getElem?]
 obtain⟨v,hv⟩:=abY.1 hf;have hg:=dd hs hv;by_cases h2:bS l x<k
 ·obtain⟨h3,h4⟩:=aby.1 hg;obtain⟨h5,h6⟩:=aby.1 hk;have:=aed.1 hs _ _ h3 h5 h2
  grind [iC,bY]
 ·omega
theorem KB{l:List ai}{x:ID}{v:ai}(hs:b6 l)(h:aQ l x=some v)(g f:ai→ai)(h1:∀w,w.1=x→g w=f w)(h2:∀w,w.1≠x→g w=w):l.map g=l.set (bS l x) (f v):=by
 have hg:=dd hs h;apply acm;intro k;rw[List.getElem?_map,List.getElem?_set];by_cases hk:bS l x=k
 ·subst hk;rw[if_pos rfl,if_pos (List.getElem?_eq_some_iff.1 hg).1,hg]
  grind [iC]
 ·rw[if_neg hk]
  cases hu:l[k]? with
  |none=>rfl
  |some u =>
   grind [km]
theorem mS{l:List aj}{x:ID}{v:aj}(hs:dq l)(h:aY l x=some v):l[cp l x]? = some v:=by
 grind [yJ,cp,Option.filter]
theorem xh{l:List aj}{x:ID}{v:aj}(h:aY l x=some v):v.1=x:=by simpa using acR h
theorem Qz{l:List aj}{x:ID}{v:aj}(h:aY l x=some v):v∈l:=ab8 h
theorem QA{l:List aj}{x:ID}{k:Nat}{u:aj}(hs:dq l)(hk:l[k]? = some u)(hu:u.1=x):k=cp l x:=by
 have h1:¬k<cp l x:=fun h=>by
  have:=(yI hs k u hk).2 h
  grind [bY]
 have hf:(aY l x).isSome=true:=by
  grind [aY,List.find?_isSome,List.mem_of_getElem?]
 obtain⟨v,hv⟩:=abY.1 hf;have hg:=mS hs hv;by_cases h2:cp l x<k
 ·obtain⟨h3,h4⟩:=aby.1 hg;obtain⟨h5,h6⟩:=aby.1 hk;have:=aed.1 hs _ _ h3 h5 h2
  grind [xh,bY]
 ·omega
theorem Uu{l:List aj}{x:ID}{v:aj}(hs:dq l)(h:aY l x=some v)(g f:aj→aj)(h1:∀w,w.1=x→g w=f w)(h2:∀w,w.1≠x→g w=w):l.map g=l.set (cp l x) (f v):=by
 have hg:=mS hs h;apply acm;intro k;rw[List.getElem?_map,List.getElem?_set];by_cases hk:cp l x=k
 ·subst hk;rw[if_pos rfl,if_pos (List.getElem?_eq_some_iff.1 hg).1,hg]
  grind [xh]
 ·rw[if_neg hk]
  cases hu:l[k]? with
  |none=>rfl
  |some u =>
   grind [QA]
theorem dq.map{l:List aj}(h:dq l){f:aj→aj}(hf:∀v,(f v).1=v.1):dq (l.map f):=by unfold dq at h ⊢;rw[List.pairwise_map];exact h.imp fun {a b} z8=>by rw[hf,hf];exact z8
theorem uJ{α R:Type}{o:Option α}{a r:Option R}{f:α→Option R}{p:α}(h:o=some p)(k:f p=r):rz o a f=r:=by subst h;exact k
theorem Od{α R:Type}{o:Option α}{a r:Option R}{f:α→Option R}(h:o=none)(k:a=r):rz o a f=r:=by subst h;exact k
def uK(w:aV)(x:ID):Int×aV :=if(aY w.2.1 x).isSome=true then(12,w) else if 40≤w.2.1.length then(3,w) else(0,(w.1,(dv (x,(e0,0)) w.2.1,w.2.2)))
theorem Zr(hG:HG G)(w:aV)(x:ID)(hs:dq w.2.1)(hl:w.2.1.length≤50000000):FX G 155 zT ((x,()),(w,()))=some (((uK w x).1,()),((uK w x).2,())):=by
 refine aw (hG _ _ rfl) adg ?_;refine aa (o8 hG w x hs hl) ?_;unfold uK
 cases hf:(aY w.2.1 x).isSome
 ·rw[if_neg (by simp)];refine af ((dk hs).trans hf) ?_;by_cases h2:40≤w.2.1.length
  ·rw[if_pos h2];exact ae (decide_eq_true (show((w.2.1.length:Nat):Int)≥40 by omega)) rfl
  ·rw[if_neg h2];refine af (decide_eq_false (show ¬((w.2.1.length:Nat):Int)≥40 by omega)) ?_;have hc:=HZ w.2.1 x;have kG:rB w.2.1 ((cp w.2.1 x:Nat):Int) [((x,(e0,0)):aj)]=true:=by
    grind [rB,decide_eq_true,cp,fits]
   refine ae kG ?_;have e:iO w.2.1 ((cp w.2.1 x:Nat):Int) [((x,(e0,0)):aj)]=dv (x,(e0,0)) w.2.1:=by simp_all [KA,e0,iO]
   exact congrArg (fun l:List aj=>some (((0:Int),()),((w.1,(l,w.2.2)),()))) e
 ·rw[if_pos rfl];exact ae ((dk hs).trans hf) rfl
def Dk(w:aV)(o:bg):Option (Fin 2×Nat) :=if qp o=true then(if(aY w.2.1 (aZ o)).isSome=true then some (⟨1,by decide⟩,cp w.2.1 (aZ o)) else none)
 else(if(aQ w.1 (aZ o)).isSome=true then some (⟨0,by decide⟩,bS w.1 (aZ o)) else none)
theorem aeT(hG:HG G)(w:aV)(o:bg)(hv:b6 w.1)(he:dq w.2.1)(Zs:w.1.length≤50000000)(hle:w.2.1.length≤50000000) :
  FX G 168 JR ((o,()),(w,()))=some ((Dk w o,(Dk w o,())),(w,())):=by
 refine aw (hG _ _ rfl) adt ?_;unfold Dk;by_cases ho:qp o=true
 ·rw[if_pos ho];refine ae ho ?_;refine aa (o8 hG w (aZ o) he hle) ?_
  cases hf:aY w.2.1 (aZ o) with
  |none =>refine af ((dk he).trans (by rw[hf];rfl)) ?_;rfl
  |some e =>refine ae ((dk he).trans (by rw[hf];rfl)) ?_;have aK:=(aby.1 (mS he hf)).1;refine ae (cz (fj _) (aR aK)) ?_;exact ae (cz (fj _) (aR aK)) rfl
 ·rw[if_neg ho];refine af (by simpa using ho) ?_;refine aa (qU hG w (aZ o) hv Zs) ?_
  cases hf:aQ w.1 (aZ o) with
  |none =>refine af ((fU hv).trans (by rw[hf];rfl)) ?_;rfl
  |some e =>refine ae ((fU hv).trans (by rw[hf];rfl)) ?_;have aK:=(aby.1 (dd hv hf)).1;refine ae (cz (fj _) (aR aK)) ?_;exact ae (cz (fj _) (aR aK)) rfl
def vB(w:aV)(o:bg):Int×aV :=if qp o=true then(if(aY w.2.1 (aZ o)).isSome=true then(0,(w.1,(w.2.1.map (jK o),w.2.2))) else(13,w))
 else(if(aQ w.1 (aZ o)).isSome=true then(0,(w.1.map (iA o),w.2)) else(13,w))
theorem akp(hG:HG G)(w:aV)(o:bg)(hv:b6 w.1)(he:dq w.2.1)(Zs:w.1.length≤50000000)(hle:w.2.1.length≤50000000) :
  FX G 118 Ta ((o,()),(w,()))=some (((vB w o).1,()),((vB w o).2,())):=by
 refine aw (hG _ _ rfl) ajr ?_;refine aa (aeT hG w o hv he Zs hle) ?_;by_cases ho:qp o=true
 ·cases hf:aY w.2.1 (aZ o) with
  |none =>
   have e1:Dk w o=none:=by simp_all [Dk,if_pos]
   have e2:vB w o=(13,w):=by simp_all [vB,if_pos]
   rw[e2];exact Od e1 (Od e1 rfl)
  |some e =>
   have e1:Dk w o=some (⟨1,by decide⟩,cp w.2.1 (aZ o)):=by simp_all [Dk,if_pos]
   have hm:∀f:aj→aj,(∀u,u.1=aZ o→jK o u=f u)→w.2.1.map (jK o)=w.2.1.set (cp w.2.1 (aZ o)) (f e):=fun f hf1 =>Uu he hf (jK o) f hf1 (fun u hu=>by simp_all [jK,if_neg]);have e2:vB w o=(0,(w.1,(w.2.1.map (jK o),w.2.2))):=by simp_all [vB,if_pos]
   rw[e2];refine uJ e1 (af rfl (ae rfl (uJ e1 (af rfl (ae rfl ?_)))));by_cases h7:o.1=7
   ·refine ae (IF h7) (aa (mS he hf) ?_);have:=hm (fun u=>(u.1,(oZ o,u.2.2))) (fun u hu=>by simp_all [jK,if_pos]);exact congrArg (fun l:List aj=>some (((0:Int),()),((w.1,(l,w.2.2)),()))) this.symm
   ·refine af (Ae h7) (aa (mS he hf) ?_);have:=hm (fun u=>(u.1,(u.2.1,oN o))) (fun u hu=>by simp_all [jK,if_pos,if_neg]);exact congrArg (fun l:List aj=>some (((0:Int),()),((w.1,(l,w.2.2)),()))) this.symm
 ·have rl:qp o=false:=by simpa using ho
  cases hf:aQ w.1 (aZ o) with
  |none =>
   have e1:Dk w o=none:=by simp_all [Dk,if_neg]
   have e2:vB w o=(13,w):=by simp_all [vB,if_neg]
   rw[e2];exact Od e1 (Od e1 rfl)
  |some e =>
   have e1:Dk w o=some (⟨0,by decide⟩,bS w.1 (aZ o)):=by simp_all [Dk,if_neg]
   have hm:∀f:ai→ai,(∀u,u.1=aZ o→iA o u=f u)→w.1.map (iA o)=w.1.set (bS w.1 (aZ o)) (f e):=fun f hf1 =>KB hv hf (iA o) f hf1 (fun u hu=>by simp_all [iA,if_neg]);have e2:vB w o=(0,(w.1.map (iA o),w.2)):=by simp_all [vB,if_neg]
   rw[e2];refine uJ e1 (ae rfl (uJ e1 (ae rfl ?_)));by_cases h7:o.1=7
   ·refine ae (IF h7) (aa (dd hv hf) ?_);have:=hm (fun u=>(u.1,(u.2.1,(oZ o,u.2.2.2)))) (fun u hu=>by simp_all [iA,if_pos]);exact congrArg (fun l:List ai=>some (((0:Int),()),((l,w.2),()))) this.symm
   ·refine af (Ae h7) (aa (dd hv hf) ?_);have:=hm (fun u=>(u.1,(u.2.1,(u.2.2.1,oN o)))) (fun u hu=>by simp_all [iA,if_pos,if_neg]);exact congrArg (fun l:List ai=>some (((0:Int),()),((l,w.2),()))) this.symm
theorem Zt(hG:HG G)(a b:ab):FX G 73 FU ((a,b,()),())=some ((oV a b,()),()):=by
 refine aw (hG _ _ rfl) adF ?_;refine aa (Oa hG a.1 b.1) ?_;refine aa (Un hG a.2 b.2) ?_;refine aa (Zo (hG _ _ rfl) (rj a.1 b.1) (Mw a.2 b.2)) ?_;refine congrArg (fun n:Int=>some ((n,()),())) ?_;obtain⟨a1,a2⟩:=a;obtain⟨b1,b2⟩:=b;unfold oV rj Mw lY;simp only[Prod.mk.injEq];by_cases h:a1=b1
 ·subst h;simp only[if_true,bY,Bool.false_or,true_and,decide_true,Bool.true_and]
  grind
 grind
theorem aeU(hG:G 195 mF=none)(row:List ab)(d:ab)(hl:row.length≤1073741824):∀(n i:Nat),i+n=row.length → LX G 195 mF Tryz.f195 wN (aM Tryz.prog 195 0) ((row,(((row.length:Nat):Int),((i:Int),()))),(((d,()),()),()))=some ((idx d (row.drop i) i,()),()):=by
 intro n
 induction n with
 |zero =>intro i hi;refine au NL ?_;refine af (decide_eq_false (show ¬((i:Int)<((row.length:Nat):Int)) by omega)) ?_;rw[List.drop_eq_nil_of_le (by omega)];rfl
 |succ n ih =>
  intro i hi;have aK:i<row.length:=by omega
  refine au NL ?_;refine ae (aR aK) (aa (aG (abk aK)) ?_);rw[List.drop_eq_getElem_cons aK,idx];by_cases he:row[i]=d
  ·rw[if_pos he];exact ae ((lO d row[i]).trans (decide_eq_true he.symm)) rfl
  ·rw[if_neg he];refine af ((lO d row[i]).trans (decide_eq_false fun h=>he h.symm)) ?_;rw[wI,aB aK hl];exact ih (i+1) (by omega)
theorem Dl(hG:G 195 mF=none)(row:List ab)(d:ab)(hl:row.length≤1073741824):FX G 195 mF ((row,d,()),())=some ((idx d row 0,()),()):=by refine aw hG adz ?_;have:=aeU hG row d hl row.length 0 (by omega);rw[List.drop_zero]at this;exact this
theorem Ge(hG:HG G)(row:List ab)(d:ab)(hl:row.length≤1073741824):FX G 194 wD ((row,d,()),())=some ((decide (d∈row),()),()):=by
 refine aw (hG _ _ rfl) ady ?_;refine aa (Dl (hG _ _ rfl) row d hl) ?_;refine congrArg (fun b:Bool=>some ((b,()),())) ?_;rw[Bool.eq_iff_iff];simp only[decide_eq_true_eq];have:=eR (d:=d) (row:=row)
 grind
theorem eF(a:ab):lY a a=false:=by unfold lY;simp[bY]
theorem jr{a b c:ab}(h:lY a b=true)(k:lY b c=true):lY a c=true:=by
 grind [lY,gm]
theorem yM{a b:ab}(h:lY a b=false)(k:a≠b):lY b a=true:=by
 grind [lY,gm]
theorem H3{a b c:ab}(h:lY a b=true)(k:lY c b=false):lY a c=true:=by
 grind [lY,gm]
theorem A9(a b:ab):oV a b<0↔lY a b=true:=by
 unfold oV;by_cases h:a=b
 ·grind [eF]
 grind
theorem qq{row:List ab}{k:Nat}(hk:k<row.length):row.getD k zD=row[k]:=by simp_all
theorem yN(row:List ab):∀(r:List ab) (i k:Nat),row.drop i=r→k<row.length→k≤i→(∀j,j<i→(hj:j<row.length)→lY row[j] (row.getD k zD)=false)→(∀j,j<k→(hj:j<row.length)→lY (row.getD k zD) row[j]=true) →(∀j,(hj:j<row.length)→lY row[j] (row.getD (fH row r i k) zD)=false)∧(∀j,j<fH row r i k→(hj:j<row.length)→lY (row.getD (fH row r i k) zD) row[j]=true)
 |[],i,k,hr,hk,hki,h1,h2=>by
  have hi:row.length≤i:=by simp_all
  exact⟨fun j hj=>h1 j (by omega) hj,h2⟩
 |x::r,i,k,hr,hk,hki,h1,h2=>by
  have hi:i<row.length:=by have:=congrArg List.length hr;grind
  have hx:row[i]=x:=by
   grind [List.drop_eq_getElem_cons]
  have sQ:row.drop (i+1)=r:=by
   grind [List.drop_eq_getElem_cons]
  unfold fH
  split
  ·rename_i aK;rw[A9]at aK;refine yN row r (i+1) i sQ hi (by omega) (fun j hj Ps=>?_) (fun j hj Ps=>?_)
   ·rw[qq hi,hx];rcases Nat.lt_succ_iff_lt_or_eq.1 hj with hj|rfl
    ·grind [lY,jr]
    ·rw[hx,eF]
   grind [qq,H3]
  ·rename_i aK;rw[A9]at aK;refine yN row r (i+1) k sQ hk (by omega) (fun j hj Ps=>?_) h2
   grind
theorem vC{row:List ab}(h:0<row.length):(∀j,(hj:j<row.length)→lY row[j] (row.getD (fH row row 0 0) zD)=false)∧(∀j,j<fH row row 0 0→(hj:j<row.length)→lY (row.getD (fH row row 0 0) zD) row[j]=true) :=yN row row 0 0 rfl h (abX _) (fun j hj=>by omega) (fun j hj=>by omega)
theorem Mz{d:ab}:∀{row:List ab} {k:Nat} {i:Int},row[k]? = some d→(∀j,j<k→row[j]?≠some d)→idx d row i=i+k
 |[],k,i,h,_=>by simp at h
 |e::r,0,i,h,_=>by simp at h;subst h;rw[idx,if_pos rfl];simp
 |e::r,k+1,i,h,hn=>by have h0:=hn 0 (by omega);rw[idx,if_neg (fun e=>h0 (by simp[e]))];rw[Mz (k:=k) (by simpa using h) (fun j hj=>by have:=hn (j+1) (by omega);simpa using this)];simp;omega
theorem Uv{row:List ab}(h:0<row.length):idx (row.getD (fH row row 0 0) zD) row 0=((fH row row 0 0:Nat):Int):=by
 grind [nH,Mz,fH,zD,qq,List.getElem?_eq_getElem,List.getElem?_eq_some_iff,vC,eF]
theorem Uw(hG:HG G)(row:List ab)(h:0<row.length)(hl:row.length≤100000000):FX G 74201 kX ((row,()),())=some ((row.getD (fH row row 0 0) zD,()),()):=by
 refine aw (hG _ _ rfl) TY ?_;refine af (decide_eq_false (show ¬((row.length:Nat):Int)<1 by omega)) ?_;refine aa (aG (i:=0) (abk h)) ?_;have loop:∀(n i k:Nat),i+n=row.length→k<row.length→LX G 74201 kX Tryz.f201 kf (aM Tryz.prog 201 0) ((row,((i:Int),())),(((zD,()),(((row.getD k zD),()),())),()))=some ((row.getD (fH row (row.drop i) i k) zD,()),()):=by
  intro n
  induction n with
  |zero =>intro i k hi hk;refine au C0 ?_;refine af (decide_eq_false (show ¬((i:Int)<((row.length:Nat):Int)) by omega)) ?_;rw[List.drop_eq_nil_of_le (by omega)];rfl
  |succ n ih =>
   intro i k hi hk;have aK:i<row.length:=by omega
   have hx:row[i]? = some row[i]:=abk aK;refine au C0 ?_;refine ae (aR aK) (aa (aG hx) ?_);refine aa (Zt hG row[i] (row.getD k zD)) ?_;rw[List.drop_eq_getElem_cons aK,fH];by_cases ho:oV row[i] (row.getD k zD)<0
   ·rw[if_pos ho];refine ae (decide_eq_true ho) (aa (aG hx) ?_);have:=ih (i+1) i (by omega) aK;rw[←aB aK (by omega),qq aK]at this;exact this
   ·rw[if_neg ho];refine af (decide_eq_false ho) ?_;have:=ih (i+1) k (by omega) hk;rw[←aB aK (by omega)]at this;exact this
 have h1:=loop (row.length-1) 1 0 (by omega) h;have h2:fH row row 0 0=fH row (row.drop 1) 1 0:=by
  cases row with
  |nil=>simp at h
  |cons x r =>simp_all [List.drop_one,List.tail_cons,fH,if_neg,oV]
 rw[h2];have h3:row.getD 0 zD=row[0]:=qq h;rw[h3]at h1;exact h1
def total(ls:List (List ab)):Nat:=(ls.map List.length).sum
theorem Dm(a:List ab)(r:List (List ab)):total (a::r)=a.length+total r:=by rfl
theorem Zu(hG:HG G)(ls:List (List ab))(hn:ls.length≤1000)(hl:total ls≤500000000):FX G 202 oS ((ls,()),())=some ((ls.flatten,()),()):=by
 refine aw (hG _ _ rfl) adG ?_;have aeV:∀(n i:Nat) (out:List ab),i+n=ls.length→out.length+total (ls.drop i)≤500000000→LX G 202 oS Tryz.f202 wP (aM Tryz.prog 202 1) ((ls,(((ls.length:Nat):Int),((i:Int),()))),((),(out,())))=some ((out++(ls.drop i).flatten,()),()):=by
  intro n
  induction n with
  |zero =>intro i out hi ho;refine au NO ?_;refine af (decide_eq_false (show ¬((i:Int)<((ls.length:Nat):Int)) by omega)) ?_;rw[List.drop_eq_nil_of_le (by omega),List.flatten_nil,List.append_nil];rfl
  |succ n ih =>
   intro i out hi ho;have aK:i<ls.length:=by omega
   rw[List.drop_eq_getElem_cons aK]at ho ⊢;have rl:out.length+(ls[i].length+total (ls.drop (i+1)))≤500000000:=by
    grind [total,Dm]
   refine au NO ?_;refine ae (aR aK) (aa (aG (abk aK)) ?_);refine ae (fits (show out.length+ls[i].length≤1073741824 by omega)) ?_;have:=ih (i+1) (out++ls[i]) (by omega) (by grind);rw[List.flatten_cons,←List.append_assoc];rw[←aB aK (by omega)]at this;exact this
 have aeW:∀(n i m:Nat),i+n=ls.length→m+total (ls.drop i)=total ls→LX G 202 oS Tryz.f202 wO (aM Tryz.prog 202 0) ((ls,((m:Int),(ls,(((ls.length:Nat):Int),((i:Int),()))))),((),()))=some ((ls.flatten,()),()):=by
  intro n
  induction n with
  |zero =>
   intro i m hi hm;refine au NM ?_;refine af (decide_eq_false (show ¬((i:Int)<((ls.length:Nat):Int)) by omega)) ?_;have hg:Bo (m:Int)=true:=by
    grind [Bo,decide_eq_true,eW]
   refine ae hg ?_;have:=aeV ls.length 0 [] (by omega) (by simp_all);rw[List.drop_zero,List.nil_append]at this;exact this
  |succ n ih =>
   intro i m hi hm;have aK:i<ls.length:=by omega
   have YG:m+ls[i].length+total (ls.drop (i+1))=total ls:=by
    rw[List.drop_eq_getElem_cons aK]at hm
    grind [total,Dm]
   refine au NM ?_;refine ae (aR aK) (aa (aG (abk aK)) ?_);have hw:IntKind.wrap .i64 ((m:Int)+((ls[i].length:Nat):Int))=((m+ls[i].length:Nat):Int):=by rw[wrap_small (by omega) (by omega)];rfl
   refine af (decide_eq_false (show ¬IntKind.wrap .i64 ((m:Int)+((ls[i].length:Nat):Int))<0 by rw[hw];omega)) ?_;have:=ih (i+1) (m+ls[i].length) (by omega) YG;rw[←aB aK (by omega),←hw]at this;exact this
 exact aeW ls.length 0 0 (by omega) (by simp_all)
theorem Ba{α:Type}(xs:List α){k:Nat}(hk:k≤xs.length):cut xs (k:Int) ((xs.length:Nat):Int)=xs.drop k:=by simp_all [cut,Int.toNat_natCast,List.take_of_length_le,Nat.le_refl]
theorem tJ{α:Type}(xs:List α)(k:Nat):cut xs 0 (k:Int)=xs.take k:=by rfl
theorem H4{n k:Nat}(h:k≤n):bp n (k:Int) ((n:Nat):Int)=true:=by grind [bp]
theorem xi{n k:Nat}(h:k≤n):bp n 0 (k:Int)=true:=by grind [bp]
theorem Dn(hG:HG G)(row:List ab)(hl:row.length≤100000000):FX G 167 qR ((row,()),())=some ((cj row,()),()):=by
 refine aw (hG _ _ rfl) ads ?_;by_cases h0:row.length=0
 ·refine ae (show(((row.length:Nat):Int)==0)=true by simp[h0]) ?_;have:row=[]:=by simpa using h0
  subst this;rfl
 refine af (show(((row.length:Nat):Int)==0)=false by rw[beq_eq_false_iff_ne];omega) ?_;have hp:0<row.length:=by omega
 have hm:=nH row row 0 0 hp (by omega);refine aa (Uw hG row hp hl) ?_;refine aa (Dl (hG _ _ rfl) row (row.getD (fH row row 0 0) zD) (by omega)) ?_;rw[Uv hp];refine ae (H4 (n:=row.length) (k:=fH row row 0 0) (by omega)) (ae (xi (n:=row.length) (k:=fH row row 0 0) (by omega)) ?_);have key:∀a b:List ab,a=row.drop (fH row row 0 0)→b=row.take (fH row row 0 0)→((FX G 202 oS (([a,b],()),())).bind fun(y3:(((List ab)×Unit)×Unit))=>some (y3.1,()))=some ((cj row,()),()):=by intro a b ha hb;subst ha hb;refine aa (Zu hG [row.drop (fH row row 0 0),row.take (fH row row 0 0)] (by simp) (by unfold total;simp;omega)) ?_;unfold cj Eg;simp only[List.flatten_cons,List.flatten_nil,List.append_nil]
 exact key _ _ (Ba row (by omega)) (tJ row _)
theorem Ux(hG:HG G)(ls:List (List ab))(hn:ls.length≤1000)(hl:total ls≤100000000):FX G 196 oR ((ls,()),())=some ((cj ls.flatten,()),()):=by
 refine aw (hG _ _ rfl) adA ?_;refine aa (Zu hG ls hn (by omega)) ?_;have hlen:ls.flatten.length=total ls:=by unfold total;simp_all
 exact aa (Dn hG ls.flatten (by omega)) rfl
theorem Uy(hG:HG G)(row:List ab)(after d:ab)(hl:row.length≤50000000):FX G 158 Ct ((row,after,d,()),())=some ((nc row after d,()),()):=by
  refine aw (hG _ _ rfl) adi ?_;refine aa (Ge hG row d (by omega)) ?_;unfold nc;by_cases hd:d∈row
  · rw[if_pos hd]
    exact ae (decide_eq_true hd) (aa (Dn hG row (by omega)) rfl)
  rw[if_neg hd];refine af (decide_eq_false hd) ?_;refine aa (Dl (hG _ _ rfl) row after (by omega)) ?_;have hr:idx after row 0<((row.length:Nat):Int)∨row.length=0∧idx after row 0 = -1:=by
    grind [oW,List.getElem?_eq_some_iff]
  have hm:max (idx after row 0) (0:Int)=max 0 (idx after row 0):=by omega
  have hw:IntKind.wrap .i64 (max (idx after row 0) (0:Int)+1)=(((max 0 (idx after row 0)).toNat+1:Nat):Int):=by
    grind [wrap_small]
  obtain⟨k,hk,oF,RB⟩:∃k:Nat,min (IntKind.wrap .i64 (max (idx after row 0) (0:Int)+1)) ((row.length:Nat):Int)=(k:Int)∧k≤row.length∧row.take k++(d::row.drop k)=row.take ((max 0 (idx after row 0)).toNat+1)++(d::row.drop ((max 0 (idx after row 0)).toNat+1)):=by
    rw[hw];by_cases h0:row.length=0
    · have:row=[]:=by simpa using h0
      subst this;exact⟨0,by simp;omega,by simp,by simp⟩
    grind
  have vu:(min (IntKind.wrap .i64 ((max (idx after row 0) (0:Int):Int)+(1:Int))) (((List.length row):Nat):Int):Int)=(k:Int):=hk;show cond (bp (List.length row) (0:Int) (min (IntKind.wrap .i64 ((max (idx after row 0) (0:Int):Int)+(1:Int))) (((List.length row):Nat):Int):Int)) (cond (bp (List.length row) (min (IntKind.wrap .i64 ((max (idx after row 0) (0:Int):Int)+(1:Int))) (((List.length row):Nat):Int):Int) (((List.length row):Nat):Int)) ((FX G 196 oR ((((cut row (0:Int) (min (IntKind.wrap .i64 ((max (idx after row 0) (0:Int):Int)+(1:Int))) (((List.length row):Nat):Int):Int))::([d]::((cut row (min (IntKind.wrap .i64 ((max (idx after row 0) (0:Int):Int)+(1:Int))) (((List.length row):Nat):Int):Int) (((List.length row):Nat):Int))::([]:List (List ab))))),()),())).bind fun(y4:(((List ab)×Unit)×Unit)) =>some (y4.1,())) (none)) (none)=_;rw[vu];refine ae (xi oF) (ae (H4 oF) ?_);have key:∀a b R:List ab,a=row.take k→b=row.drop k→R=cj (row.take k++(d::row.drop k))→((FX G 196 oR (([a,[d],b],()),())).bind fun(y3:(((List ab)×Unit)×Unit))=>some (y3.1,()))=some ((R,()),()):=by intro a b R ha hb hR;subst ha hb hR;refine aa (Ux hG [row.take k,[d],row.drop k] (by simp) (by grind [total])) ?_;simp_all
  exact key _ _ _ (tJ row k) (Ba row oF) (by rw[RB])
theorem yO{row:List ab}{d:ab}{k:Nat}(hn:row.Nodup)(hk:row[k]? = some d):row.filter (fun e=>decide (e≠d))=row.take k++row.drop (k+1):=by
 obtain⟨h1,h2⟩:=aby.1 hk
 conv=>lhs;rw[←List.take_append_drop k row,List.drop_eq_getElem_cons h1,h2]
 have Pf:(row.take k++(d::row.drop (k+1))).Nodup:=by rw[←h2,←List.drop_eq_getElem_cons h1,List.take_append_drop];exact hn
 have h3:=acf.1 Pf;have h4:=abR.1 h3.2.1;rw[List.filter_append,List.filter_cons_of_neg (by simp)];congr 1
 ·rw[List.filter_eq_self];intro a ha;have:=h3.2.2 a ha d (by simp);simpa using this
 ·rw[List.filter_eq_self];intro a ha;have:a≠d:=fun e=>h4.1 (e▸ha);simpa using this
theorem Zv(hG:HG G)(row:List ab)(d:ab)(hn:row.Nodup)(hl:row.length≤50000000):FX G 163 JQ ((row,d,()),())=some ((iz row d,()),()):=by
 refine aw (hG _ _ rfl) adp ?_;refine aa (Dl (hG _ _ rfl) row d (by omega)) ?_;unfold iz;by_cases hd:d∈row
 ·obtain⟨k,h1,h2,h3⟩:=eg hd;have aK:=(aby.1 h2).1;rw[yO hn h2];show cond (decide (idx d row 0<0)) _ (cond (bp row.length 0 (idx d row 0)) (cond (bp row.length (IntKind.wrap .i64 (idx d row 0+1)) ((row.length:Nat):Int)) ((FX G 196 oR (([cut row 0 (idx d row 0),cut row (IntKind.wrap .i64 (idx d row 0+1)) ((row.length:Nat):Int)],()),())).bind fun(y3:(((List ab)×Unit)×Unit))=>some (y3.1,())) none) none)=_;rw[h1,aB aK (by omega)];refine af (decide_eq_false (by omega)) (ae (xi (by omega)) (ae (H4 (by omega)) ?_));have key:∀a b:List ab,a=row.take k→b=row.drop (k+1)→((FX G 196 oR (([a,b],()),())).bind fun(y3:(((List ab)×Unit)×Unit))=>some (y3.1,()))=some ((cj (row.take k++row.drop (k+1)),()),()):=by intro a b ha hb;subst ha hb;refine aa (Ux hG [row.take k,row.drop (k+1)] (by simp) (by grind [total])) ?_;simp_all
  exact key _ _ (tJ row k) (Ba row (by omega))
 ·have h1:=eR.2 hd;refine ae (decide_eq_true h1) (aa (Dn hG row (by omega)) ?_);refine congrArg (fun l:List ab=>some ((l,()),())) ?_
  grind [List.filter_eq_self]
theorem Zw(hG:HG G)(row:List ab)(cC d:ab)(hl:row.length≤50000000):FX G 165 uD ((row,cC,d,()),())=some ((fi row cC d,()),()):=by
 refine aw (hG _ _ rfl) adq ?_;refine aa (Dl (hG _ _ rfl) row cC (by omega)) ?_;unfold fi;by_cases ho:cC∈row
 ·obtain⟨k,h1,h2,h3⟩:=eg ho;have aK:=(aby.1 h2).1;refine af (decide_eq_false (show ¬idx cC row 0<0 by omega)) ?_;refine aa (Ge hG row d (by omega)) ?_;by_cases hd:d∈row
  ·rw[if_neg (fun h=>h.2 hd)];exact ae (decide_eq_true hd) (aa (Dn hG row (by omega)) rfl)
  rw[if_pos ⟨ho,hd⟩];refine af (decide_eq_false hd) ?_;show cond (bp row.length 0 (idx cC row 0)) (cond (bp row.length (IntKind.wrap .i64 (idx cC row 0+1)) ((row.length:Nat):Int)) ((FX G 196 oR (([cut row 0 (idx cC row 0),[d],cut row (IntKind.wrap .i64 (idx cC row 0+1)) ((row.length:Nat):Int)],()),())).bind fun(y3:(((List ab)×Unit)×Unit))=>some (y3.1,())) none) none=_;rw[h1,aB aK (by omega)];refine ae (xi (by omega)) (ae (H4 (by omega)) ?_);have key:∀a b R:List ab,a=row.take k→b=row.drop (k+1)→R=cj (row.set ((k:Int)).toNat d)→((FX G 196 oR (([a,[d],b],()),())).bind fun(y3:(((List ab)×Unit)×Unit))=>some (y3.1,()))=some ((R,()),()):=by intro a b R ha hb hR;subst ha hb hR;refine aa (Ux hG [row.take k,[d],row.drop (k+1)] (by simp) (by grind [total])) ?_;simp_all [congrArg,ab,Int.toNat_natCast,List.set_eq_take_append_cons_drop,if_pos]
  exact key _ _ _ (tJ row k) (Ba row (by omega)) rfl
 ·have h1:=eR.2 ho;rw[if_neg (fun h=>ho h.1)];exact ae (decide_eq_true h1) (aa (Dn hG row (by omega)) rfl)
theorem aeX(hG:HG G)(row:List ab)(d:ab)(hl:row.length≤100000000):FX G 200 FR ((row,d,()),())=some (Kp (dp row d (row.length-1)),()):=by
 refine aw (hG _ _ rfl) adE ?_;have key:FX G 221 Cz ((row,(d,((IntKind.wrap .i64 (((row.length:Nat):Int)-1)),()))),())=some (Kp (dp row d (row.length-1)),()):=by
  refine aw (hG _ _ rfl) Za ?_;refine aa (Dl (hG _ _ rfl) row d (by omega)) ?_;unfold dp;by_cases hd:d∈row
  ·rw[if_pos hd];obtain⟨k,h1,h2,h3⟩:=eg hd;have aK:=(aby.1 h2).1;refine af (decide_eq_false (show ¬idx d row 0<0 by omega)) ?_;refine af (HS hd) ?_;have hw:IntKind.wrap .i64 (((row.length:Nat):Int)-1)=((row.length-1:Nat):Int):=by grind [wrap_small]
   have Mn:IntKind.wrap .i64 (idx d row 0+IntKind.wrap .i64 (((row.length:Nat):Int)-1))=((k+(row.length-1):Nat):Int):=by
    grind [wrap_small]
   have yF:(k+(row.length-1))%row.length<row.length:=acV _ (by omega);have hx:=abk yF;refine aa (show aW row (Int.tmod (IntKind.wrap .i64 (idx d row 0+IntKind.wrap .i64 (((row.length:Nat):Int)-1))) ((row.length:Nat):Int))=some row[(k+(row.length-1))%row.length] by rw[Mn,sj];exact aG hx) ?_;rw[h1,Int.toNat_natCast,hx];rfl
  ·rw[if_neg hd];exact ae (decide_eq_true (eR.2 hd)) rfl
 refine aa key ?_;rfl
end Go.Vs
