/- What the program computes at -/
import Derived.Test.YtoleelddkocpkaaGreatPlaces
set_option linter.unusedVariables false
set_option linter.unusedSimpArgs false
namespace Go.Vs
open Go.Proofs
variable {G:(f:FuncId)→(g:aP)→Option (g.A→Option g.B)}
theorem get_at{s:ByteArray}{i:Nat}{c:UInt8}(h:s.data.toList[i]? = some c):s.get! i=c:=by
 have hi:i<s.data.size:=by grind
 have h2:=(abJ.1 h).2;show s.data[i]! = c;simp_all
theorem Rz{s:ByteArray}{i:Nat}(h:(s.get! i).toNat<128):Utf8.decode s i=((s.get! i).toNat,1):=by simp_all [Utf8.decode,Nat.add_zero,if_pos]
theorem RA{s:ByteArray}{i:Nat}(h:¬(s.get! i).toNat<128):128≤(Utf8.decode s i).1:=by
 unfold Utf8.decode;simp only[Nat.add_zero];rw[if_neg h]
 repeat' split
 all_goals first|(simp_all only[Bool.and_eq_true,decide_eq_true_eq];omega)|decide|omega
theorem alQ(hG:G 141 xc=none)(s:ByteArray)(hs:s.size≤100000000):∀(n i:Nat),i+n=s.size → LX G 141 xc Tryz.f141 zm (aF Tryz.prog 141 0) ((s,()),((),((s,i),())))=some ((((s.data.toList.drop i).all lu&&decide (s.size≤16),()),()):(Bool×Unit)×Unit):=by
 have hl:s.data.toList.length=s.size:=by simp
 intro n
 induction n with
 |zero =>
  intro i hi;refine ar UO ?_;refine ag (decide_eq_false (show ¬(i<s.size) by omega)) ?_;refine congrArg (fun b:Bool=>some ((b,()),())) ?_
  grind
 |succ n ih =>
  intro i hi;have aH:i<s.data.toList.length:=by omega
  have hx:s.data.toList[i]? = some s.data.toList[i]:=aby aH;generalize s.data.toList[i]=c at hx;have hd:s.data.toList.drop i=c::s.data.toList.drop (i+1):=by
   grind [List.drop_eq_getElem_cons,List.getElem?_eq_getElem]
  have hg:=get_at hx;refine ar UO ?_;refine af (decide_eq_true (show i<s.size by omega)) ?_;show cond (decide (p7 s i<32)) _ (cond (decide (p7 s i>126)) _ (LX G 141 xc Tryz.f141 zm (aF Tryz.prog 141 0) ((s,()),((),((s,i+B4 s i),())))))=_;rw[hd,List.all_cons];by_cases h1:c.toNat<128
  ·have hr:Utf8.decode s i=(c.toNat,1):=by grind [Rz]
   have hr1:p7 s i=(c.toNat:Int):=by grind [p7]
   have QT:B4 s i=1:=by grind [B4]
   rw[hr1,QT];by_cases h2:c.toNat<32
   ·refine af (decide_eq_true (by omega)) ?_;have:lu c=false:=by grind [lu]
    rw[this];rfl
   refine ag (decide_eq_false (by omega)) ?_;by_cases h3:126<c.toNat
   ·refine af (decide_eq_true (by omega)) ?_;have:lu c=false:=by grind [lu]
    rw[this];rfl
   refine ag (decide_eq_false (by omega)) ?_;have:lu c=true:=by grind [lu]
   rw[this,Bool.true_and];exact ih (i+1) (by omega)
  ·have h2:=RA (s:=s) (i:=i) (by simp_all);have hr1:128≤p7 s i:=by unfold p7;omega
   refine ag (decide_eq_false (by omega)) (af (decide_eq_true (by omega)) ?_);have:lu c=false:=by grind [lu]
   rw[this];rfl
theorem af0(hG:G 141 xc=none)(s:ByteArray)(hs:s.size≤100000000):FX G 141 xc ((s,()),())=some ((iM s,()),()):=by refine av hG akX ?_;have:=alQ hG s hs s.size 0 (by omega);rw[List.drop_zero]at this;exact this
theorem af1(hG:G 143 Iy=none)(n:Int):FX G 143 Iy ((n,()),())=some ((ic n,()),()):=by
 refine av hG akY ?_;show(cond (decide (n≥-1099511627776)) (some ((decide (n≤1099511627776),()),())) (some ((false,()),())):Option ((Bool×Unit)×Unit))=some ((ic n,()),())
 grind [ic]
def RB(n:Int):Prop := -9223372036854775808≤n∧n<9223372036854775808
theorem Vw(x:BitVec 64):IntKind.wrap .i64 ((x.toNat:Nat):Int)=x.toInt:=by
 grind [IntKind.wrap,IntKind.bits,IntKind.signed,BitVec.toInt_eq_toNat_cond]
theorem ofInt_toInt{n:Int}(h:RB n):(BitVec.ofInt 64 n).toInt=n:=by
 grind [RB,BitVec.toInt_ofInt,Int.bmod_eq_of_le]
theorem YH{n:Int}(h:RB n):(fj .andNot .i64 n 3==(0:Int))=decide (0≤n∧n≤3):=by
 have e:fj .andNot .i64 n 3=(BitVec.ofInt 64 n &&& ~~~(BitVec.ofInt 64 3)).toInt:=by unfold fj;exact Vw _
 rw[e,Bool.eq_iff_iff];simp only[beq_iff_eq,decide_eq_true_eq];generalize hx:BitVec.ofInt 64 n=x;have hn:=ofInt_toInt h;rw[hx]at hn;have h1:(x &&& ~~~(BitVec.ofInt 64 3)).toInt=0↔(x &&& ~~~(BitVec.ofInt 64 3))=0#64:=by
  constructor
  ·intro h;exact BitVec.eq_of_toInt_eq (by rw[h];rfl)
  simp_all
 rw[h1,←hn];constructor
 ·intro h;have h2:x=x &&& 3#64:=by
   have h3:x=(x &&& ~~~(BitVec.ofInt 64 3)) ||| (x &&& 3#64):=by
    ext i hi;simp only[BitVec.getElem_or,BitVec.getElem_and,BitVec.getElem_not]
    grind
   grind
  grind [BitVec.toNat_and,Nat.and_le_right,BitVec.toInt_eq_toNat_cond]
 ·intro h;have h4:x.toNat≤3:=by rw[BitVec.toInt_eq_toNat_cond]at h;omega
  have h5:x=0#64∨x=1#64∨x=2#64∨x=3#64:=by
   have:x.toNat=0∨x.toNat=1∨x.toNat=2∨x.toNat=3:=by omega
   grind
  grind
theorem YI{n:Int}(h:RB n):(fj .andNot .i64 n 1==(0:Int))=decide (n=0∨n=1):=by
 have e:fj .andNot .i64 n 1=(BitVec.ofInt 64 n &&& ~~~(BitVec.ofInt 64 1)).toInt:=by unfold fj;exact Vw _
 rw[e,Bool.eq_iff_iff];simp only[beq_iff_eq,decide_eq_true_eq];generalize hx:BitVec.ofInt 64 n=x;have hn:=ofInt_toInt h;rw[hx]at hn;have h1:(x &&& ~~~(BitVec.ofInt 64 1)).toInt=0↔(x &&& ~~~(BitVec.ofInt 64 1))=0#64:=by
  constructor
  ·intro h;exact BitVec.eq_of_toInt_eq (by rw[h];rfl)
  simp_all
 rw[h1,←hn];constructor
 ·intro h;have h2:x=x &&& 1#64:=by
   have h3:x=(x &&& ~~~(BitVec.ofInt 64 1)) ||| (x &&& 1#64):=by
    ext i hi;simp only[BitVec.getElem_or,BitVec.getElem_and,BitVec.getElem_not]
    grind
   grind
  grind
 grind
theorem af2(hG:HG G)(d:ae)(h:RB d.2):FX G 72 KD ((d,()),())=some ((ou d,()),()):=by
 refine av (hG _ _ rfl) aem ?_;refine aa (Ni (hG _ _ rfl) d.1) ?_;unfold ou
 cases cr d.1
 ·rfl
 ·exact af rfl (congrArg (fun b:Bool=>some ((b,()),())) (YI h))
theorem af3(hG:HG G)(c:rj)(h:RB c.2.2):FX G 151 Fs ((c,()),())=some ((Bk c,()),()):=by
 refine av (hG _ _ rfl) akW ?_;refine aa (Ni (hG _ _ rfl) c.1) ?_;unfold Bk
 cases cr c.1
 ·rfl
 refine af rfl ?_;have hb:(((c.2.1.1==(0:Int))&&(c.2.1.2==(0:Int)))&&(c.2.2==(0:Int)))=decide (c.2=zD):=lJ c.2 zD;by_cases hz:c.2=zD
 ·refine af (hb.trans (decide_eq_true hz)) ?_;rw[decide_eq_true hz,Bool.or_true];rfl
 ·refine ag (hb.trans (decide_eq_false hz)) ?_;refine aa (af2 hG c.2 h) ?_;rw[decide_eq_false hz,Bool.or_false];rfl
structure Fit(o:bj):Prop where
 a:RB (oA o).2.2
 b:RB (oB o).2.2
 n:RB (oN o)
 t:v5 o
def D7(o:bj):bj :=if o.1=6 then(o.1,(bh o,(zI,(bB o,(zC,(zC,(false,(e0,0))))))))
 else if o.1=3 then(o.1,(bh o,(zI,(zI,(oA o,(oB o,(false,(e0,0))))))))
 else if o.1=5 then(o.1,(bh o,(fi o,(bB o,(zC,(zC,(false,(e0,oN o))))))))
 else if o.1=7 then(o.1,(bh o,(zI,(zI,(zC,(zC,(qN o,(pJ o,0))))))))
 else if o.1=8 then(o.1,(bh o,(zI,(zI,(zC,(zC,(qN o,(e0,oN o))))))))
 else(o.1,(bh o,(zI,(zI,(zC,(zC,(false,(e0,0))))))))
def IZ(o:bj):Int :=if o.1=6 then(if cr (bh o)=true∧cr (bB o)=true then 0 else 1)
 else if o.1=3 then(if cr (bh o)=true∧Bk (oA o)=true∧Bk (oB o)=true then 0 else 1)
 else if o.1=5 then(if cr (bh o)=true∧cr (fi o)=true∧cr (bB o)=true∧0≤oN o∧oN o≤3 then 0 else 1)
 else if o.1=7 then(if cr (bh o)=true then(if iM (pJ o)=true then 0 else 4) else 1)
 else if o.1=8 then(if cr (bh o)=true∧ic (oN o)=true then 0 else 1)
 else if o.1=1∨o.1=2∨o.1=4 then(if cr (bh o)=true then 0 else 1)
 else 1
theorem JB{o:bj}{k:Int}(h:o.1=k):(o.1==k)=true:=by simp[h]
theorem AU{o:bj}{k:Int}(h:¬o.1=k):(o.1==k)=false:=by simp[h]
theorem alR(hG:HG G)(o:bj)(hf:Fit o):FX G 108 TY ((o,()),())=some ((D7 o,(IZ o,())),()):=by
 refine av (hG _ _ rfl) akz ?_;refine aa (Ni (hG _ _ rfl) (bh o)) ?_;unfold D7 IZ;by_cases h1:o.1=1
 ·refine af (JB h1) (af (JB h1) ?_);rw[if_neg (by omega),if_neg (by omega),if_neg (by omega),if_neg (by omega),if_neg (by omega),if_neg (by omega),if_neg (by omega),if_neg (by omega),if_neg (by omega),if_neg (by omega),if_pos (by omega)]
  cases cr (bh o)<;>rfl
 refine ag (AU h1) ?_;by_cases h2:o.1=2
 ·refine af (JB h2) (af (JB h2) ?_);rw[if_neg (by omega),if_neg (by omega),if_neg (by omega),if_neg (by omega),if_neg (by omega),if_neg (by omega),if_neg (by omega),if_neg (by omega),if_neg (by omega),if_neg (by omega),if_pos (by omega)]
  cases cr (bh o)<;>rfl
 refine ag (AU h2) ?_;by_cases h4:o.1=4
 ·refine af (JB h4) ?_;rw[if_neg (by omega),if_neg (by omega),if_neg (by omega),if_neg (by omega),if_neg (by omega),if_neg (by omega),if_neg (by omega),if_neg (by omega),if_neg (by omega),if_neg (by omega),if_pos (by omega)]
  cases cr (bh o)<;>rfl
 refine ag (AU h4) ?_;by_cases h6:o.1=6
 ·refine af (JB h6) ?_;rw[if_pos h6,if_pos h6]
  cases cr (bh o)
  ·rfl
  refine af rfl (aa (Ni (hG _ _ rfl) (bB o)) ?_)
  cases cr (bB o)<;>rfl
 refine ag (AU h6) ?_;rw[if_neg h6,if_neg h6];by_cases h3:o.1=3
 ·refine af (JB h3) ?_;rw[if_pos h3,if_pos h3]
  cases cr (bh o)
  ·rfl
  refine af rfl (aa (af3 hG (oA o) hf.a) ?_)
  cases Bk (oA o)
  ·rfl
  refine af rfl (aa (af3 hG (oB o) hf.b) ?_)
  cases Bk (oB o)<;>rfl
 refine ag (AU h3) ?_;rw[if_neg h3,if_neg h3];by_cases h5:o.1=5
 ·refine af (JB h5) ?_;rw[if_pos h5,if_pos h5]
  cases cr (bh o)
  ·rfl
  refine af rfl (aa (Ni (hG _ _ rfl) (fi o)) ?_)
  cases cr (fi o)
  ·rfl
  refine af rfl (aa (Ni (hG _ _ rfl) (bB o)) ?_)
  cases cr (bB o)
  ·rfl
  refine af rfl (aV (YH hf.n) ?_);by_cases h:0≤oN o∧oN o≤3
  ·rw[decide_eq_true h,if_pos ⟨rfl,rfl,rfl,h⟩];rfl
  ·rw[decide_eq_false h,if_neg (fun k=>h k.2.2.2)];rfl
 refine ag (AU h5) ?_;rw[if_neg h5,if_neg h5];by_cases h7:o.1=7
 ·refine af (JB h7) ?_;rw[if_pos h7,if_pos h7];refine aa (af0 (hG _ _ rfl) (pJ o) hf.t) ?_
  cases iM (pJ o)<;>cases cr (bh o)<;>rfl
 refine ag (AU h7) ?_;rw[if_neg h7,if_neg h7];by_cases h8:o.1=8
 ·refine af (JB h8) ?_;rw[if_pos h8,if_pos h8]
  cases cr (bh o)
  ·rfl
  refine af rfl (aa (af1 (hG _ _ rfl) (oN o)) ?_)
  cases ic (oN o)<;>rfl
 refine ag (AU h8) ?_;rw[if_neg h8,if_neg h8,if_neg (by omega)];rfl
theorem RC(o:bj)(h1:1≤o.1)(h8:o.1≤8):Bl (D7 o) o=Bl (xW o) zOp:=by
 rw[Bool.eq_iff_iff,Li,Li];obtain⟨k,i,n,m,⟨a1,a2⟩,⟨b1,b2⟩,f,t,q⟩:=o;simp only at h1 h8;unfold D7 xW zOp;have:k=1∨k=2∨k=3∨k=4∨k=5∨k=6∨k=7∨k=8:=by omega
 rcases this with rfl|rfl|rfl|rfl|rfl|rfl|rfl|rfl<;>simp only[Int.reduceEq,if_true,if_false]<;>constructor<;>intro h<;>simp only[zC,Prod.mk.injEq,true_and,and_true]at h ⊢<;>grind
theorem alS(hG:HG G)(o:bj)(hf:Fit o):FX G 82 TU ((o,()),())=some ((cE o,()),()):=by
 refine av (hG _ _ rfl) akd ?_;refine aa (alR hG o hf) ?_;refine aV (b:=Bl (D7 o) o) rfl ?_;unfold cE;by_cases h1:o.1<1
 ·rw[if_pos h1];have:IZ o=1:=by unfold IZ;omega
  rw[this];cases Bl (D7 o) o<;>rfl
 rw[if_neg h1];by_cases h8:8<o.1
 ·rw[if_pos h8];have:IZ o=1:=by unfold IZ;omega
  rw[this];cases Bl (D7 o) o<;>rfl
 rw[if_neg h8,RC o (by omega) (by omega)];have hk:o.1=1∨o.1=2∨o.1=3∨o.1=4∨o.1=5∨o.1=6∨o.1=7∨o.1=8:=by omega
 by_cases hm:cr (bh o)=true
 case neg =>
  have hb:IZ o=1:=by simp_all [IZ]
  rw[if_pos (by simpa using hm),hb];cases Bl (xW o) zOp<;>rfl
 rw[if_neg (by simp[hm])]
 cases Bl (xW o) zOp
 ·rfl
 rw[if_neg (by simp)];refine ag rfl ?_;refine congrArg (fun n:Int=>some ((n,()),())) ?_;unfold IZ
 grind
theorem alT(hG:HG G)(l:List bj)(hl:l.length≤1073741824)(hf:∀o∈l,Fit o):FX G 59 Kw ((l,()),())=some ((eW l,()),()):=by
 refine av (hG _ _ rfl) aks ?_;unfold eW;by_cases h0:l.length=0
 ·refine af (show(((l.length:Nat):Int)==0)=true by simp[h0]) ?_;rw[if_neg (by omega)];rfl
 refine ag (show(((l.length:Nat):Int)==0)=false by simp_all) ?_;by_cases h6:6<l.length
 ·refine af (decide_eq_true (show((l.length:Nat):Int)>6 by omega)) ?_;rw[if_neg (by omega)];rfl
 refine ag (decide_eq_false (show ¬((l.length:Nat):Int)>6 by omega)) ?_;rw[if_pos (by omega)];have loop:∀(n i:Nat),i+n=l.length→LX G 59 Kw Tryz.f59 DF (aF Tryz.prog 59 0) ((l,(((l.length:Nat):Int),((i:Int),()))),((),()))=some ((lx (l.drop i),()),()):=by
  intro n
  induction n with
  |zero =>intro i hi;refine ar Ux ?_;refine ag (decide_eq_false (show ¬((i:Int)<((l.length:Nat):Int)) by omega)) ?_;rw[List.drop_eq_nil_of_le (by omega)];rfl
  |succ n ih =>
   intro i hi;have aH:i<l.length:=by omega
   refine ar Ux ?_;refine af (aN aH) (aa (aw (aby aH)) ?_);refine aa (alS hG l[i] (hf _ (acv aH))) ?_;rw[List.drop_eq_getElem_cons aH,lx];by_cases hz:cE l[i]=0
   ·rw[if_neg (by simp[hz])];refine ag (show(cE l[i] != 0)=false by simp[hz]) ?_;rw[wI,aA aH hl];exact ih (i+1) (by omega)
   ·rw[if_pos hz];exact af (show(cE l[i] != 0)=true by simp[hz]) rfl
 have:=loop l.length 0 (by omega);rw[List.drop_zero]at this;exact this
theorem aax(hG:HG G)(v:ak)(x:ID):FX G 198 GH ((v,x,()),())=some ((rI v.1 x,()),()):=by refine av (hG _ _ rfl) aeJ ?_;exact aa (O9 hG v.1 x) rfl
def cx(l:List ak)(x:ID):Nat:=l.countP fun v=>fL v.1 x
def dp(l:List ak):Prop:=l.Pairwise fun a b=>fL a.1 b.1=true
theorem I0(l:List ak)(x:ID):cx l x≤l.length:=adk
theorem uj{l:List ak}{x:ID}(h:∀v∈l,fL v.1 x=false):cx l x=0:=by
 grind [cx,List.countP_eq_zero]
theorem zz{x:ID}:∀{l:List ak},dp l→∀(k:Nat) (v:ak),l[k]? = some v→(fL v.1 x=true↔k<cx l x)
 |[],_,k,v,h=>by simp at h
 |w::r,hs,k,v,h=>by
  have hw:∀{u:ak},u∈r→fL w.1 u.1=true:=fun {u} hu=>acZ hs hu;have hr:dp r:=hs.of_cons;by_cases aH:fL w.1 x=true
  ·have e:cx (w::r) x=cx r x+1:=by grind [cx,List.countP_cons_of_pos]
   cases k with
   |zero=>simp_all
   |succ k=>have:=zz (x:=x) hr k v (by simpa using h);simp_all
  ·have hn:∀u∈w::r,fL u.1 x=false:=fun u hu=>by
    rcases abL.1 hu with rfl|hu
    ·simp_all
    ·rw[Bool.eq_false_iff];grind [gW]
   grind [uj,List.mem_of_getElem?]
theorem Vx(hG:HG G)(l:List ak)(x:ID)(hs:dp l)(hl:l.length≤50000000):∀(n i j:Nat),j-i≤n→i≤cx l x→cx l x≤j→j≤l.length → LX G 199197 jN Tryz.f197 jo (aF Tryz.prog 197 0) ((l,(((l.length:Nat):Int),((i:Int),((j:Int),())))),(((x,()),()),()))=some (((((cx l x:Nat):Int),(decide ((l[cx l x]?).map (·.1)=some x),())):Int×(Bool×Unit)),()):=by
 have uR:=I0 l x;have fin:∀(i j:Nat),¬(i<j)→i≤cx l x→cx l x≤j→LX G 199197 jN Tryz.f197 jo (aF Tryz.prog 197 0) ((l,(((l.length:Nat):Int),((i:Int),((j:Int),())))),(((x,()),()),()))=some (((((cx l x:Nat):Int),(decide ((l[cx l x]?).map (·.1)=some x),())):Int×(Bool×Unit)),()):=fun i j E9 h1 h2=>by
  have hi:i=cx l x:=by omega
  subst hi;refine ar DM ?_;refine ag (decide_eq_false (show ¬(((cx l x:Nat):Int)<(j:Int)) by omega)) ?_;by_cases hc:cx l x<l.length
  ·have hx:l[cx l x]? = some l[cx l x]:=aby hc;refine af (aN hc) ?_;refine aa (aw hx) ?_;refine aa (aax hG l[cx l x] x) ?_;refine congrArg (fun b:Bool=>some ((((cx l x:Nat):Int),(b,())),())) ?_
   grind [rI,cx]
  ·refine ag (decide_eq_false (show ¬(((cx l x:Nat):Int)<((l.length:Nat):Int)) by omega)) ?_;refine congrArg (fun b:Bool=>some ((((cx l x:Nat):Int),(b,())),())) ?_;simp_all
 intro n
 induction n with
 |zero=>grind
 |succ n ih =>
  intro i j E9 h1 h2 h3;by_cases aH:i<j
  case neg=>grind
  refine ar DM ?_;refine af (decide_eq_true (show((i:Int)<(j:Int)) by omega)) ?_;refine ag rfl ?_;have hm:=Nk (i:=i) (j:=j) (by omega) (by omega);have hh:(i+j) / 2<l.length:=by omega
  have hx:l[(i+j) / 2]? = some l[(i+j) / 2]:=aby hh;have qy:=zz (x:=x) hs ((i+j) / 2) _ hx;refine aa (show aR l (IntKind.wrap .i64 (gy .u64 (IntKind.wrap .u64 (IntKind.wrap .i64 ((i:Int)+(j:Int)))) (1:Int)))=some l[(i+j) / 2] by rw[hm];exact aw hx) ?_;refine aa (aax hG l[(i+j) / 2] x) ?_;by_cases ho:fL l[(i+j) / 2].1 x=true
  ·refine af (decide_eq_true ((jQ _ _).2 ho)) ?_;have hc:=qy.1 ho;have hw:IntKind.wrap .i64 (IntKind.wrap .i64 (gy .u64 (IntKind.wrap .u64 (IntKind.wrap .i64 ((i:Int)+(j:Int)))) (1:Int))+1)=(((i+j) / 2+1:Nat):Int):=by rw[hm];exact aA hh (by omega)
   have:=ih ((i+j) / 2+1) j (by omega) (by omega) h2 h3;rw[←hw]at this;exact this
  ·refine ag (decide_eq_false (fun h=>ho ((jQ _ _).1 h))) ?_;have hc:¬(i+j) / 2<cx l x:=fun h=>ho (qy.2 h);have:=ih i ((i+j) / 2) (by omega) h1 (by omega) (by omega);rw[←hm]at this;exact this
theorem Vy(hG:HG G)(l:List ak)(x:ID)(hs:dp l)(hl:l.length≤50000000) :
  FX G 199197 jN ((l,x,()),())=some (((((cx l x:Nat):Int),(decide ((l[cx l x]?).map (·.1)=some x),())):Int×(Bool×Unit)),()):=by
 refine av (hG _ _ rfl) US ?_;exact Vx hG l x hs hl l.length 0 l.length (by omega) (by omega) (I0 l x) (acW _)
theorem pO(hG:HG G)(w:aW)(x:ID)(hs:dp w.2.1)(hl:w.2.1.length≤50000000) :
  FX G 159 nQ ((x,()),(w,()))=some (((((cx w.2.1 x:Nat):Int),(decide ((w.2.1[cx w.2.1 x]?).map (·.1)=some x),())):Int×(Bool×Unit)),(w,())):=by
 refine av (hG _ _ rfl) aes ?_;exact aa (Vy hG w.2.1 x hs hl) rfl
theorem zB{x:ID}:∀{l:List ak},dp l→aY l x=(l[cx l x]?).filter fun v=>decide (v.1=x)
 |[],_=>rfl
 |w::r,hs=>by
  have hw:∀{u:ak},u∈r→fL w.1 u.1=true:=fun {u} hu=>acZ hs hu;have hr:dp r:=hs.of_cons;by_cases aH:fL w.1 x=true
  ·have e:cx (w::r) x=cx r x+1:=by unfold cx;rw[List.countP_cons_of_pos (by simpa using aH)]
   have bw:¬w.1=x:=fun e=>by rw[e,b6]at aH;cases aH
   rw[e];simp only[aY,List.find?_cons,bw,decide_false,List.getElem?_cons_succ];exact zB hr
  ·have hn:∀u∈w::r,fL u.1 x=false:=fun u hu=>by
    rcases abL.1 hu with rfl|hu
    ·simpa using aH
    ·rw[Bool.eq_false_iff];intro h2;exact aH (gW (hw hu) h2)
   rw[uj hn];by_cases he:w.1=x
   ·simp[aY,List.find?_cons,he,Option.filter]
   ·have Ol:fL x w.1=true:=mh (by simpa using aH) he;have:aY r x=none:=by
     unfold aY;rw[List.find?_eq_none];intro u hu h2;have h3:u.1=x:=by simpa using h2
     have h4:=hw hu;rw[h3]at h4;have:=mg h4;rw[Ol]at this;cases this
    rw[show aY (w::r) x=aY r x by simp only[aY,List.find?_cons,he,decide_false],this];simp[he,Option.filter]
theorem dr{l:List ak}{x:ID}(hs:dp l):decide ((l[cx l x]?).map (·.1)=some x)=(aY l x).isSome:=by
 grind [zB,cx,Option.filter]
theorem Ln(v:ak):∀{l:List ak},dp l→aY l v.1=none→dB v l=l.take (cx l v.1)++(v::l.drop (cx l v.1))
 |[],_,_=>rfl
 |w::r,hs,hf=>by
  have hw:∀{u:ak},u∈r→fL w.1 u.1=true:=fun {u} hu=>acZ hs hu;have hr:dp r:=hs.of_cons;have bw:¬w.1=v.1:=fun e=>by simp[aY,e]at hf
  have C1:aY r v.1=none:=by simpa[aY,List.find?_cons,bw] using hf
  by_cases aH:fL w.1 v.1=true
  ·have e:cx (w::r) v.1=cx r v.1+1:=by unfold cx;rw[List.countP_cons_of_pos (by simpa using aH)]
   have Qt:fL v.1 w.1=false:=mg aH;rw[e,dB,if_neg (by simp[Qt]),Ln v hr C1];rfl
  ·have hn:∀u∈w::r,fL u.1 v.1=false:=fun u hu=>by
    rcases abL.1 hu with rfl|hu
    ·simpa using aH
    ·rw[Bool.eq_false_iff];intro h2;exact aH (gW (hw hu) h2)
   have Ol:fL v.1 w.1=true:=mh (by simpa using aH) bw;rw[uj hn,dB,if_pos Ol];rfl
theorem zF{x:ID}:∀{l:List ak},dp l→(aY l x).isSome=true→c6 l x=l.take (cx l x)++l.drop (cx l x+1)
 |[],_,hf=>by simp[aY]at hf
 |w::r,hs,hf=>by
  have hw:∀{u:ak},u∈r→fL w.1 u.1=true:=fun {u} hu=>acZ hs hu;have hr:dp r:=hs.of_cons;by_cases he:w.1=x
  ·have hn:∀u∈w::r,fL u.1 x=false:=fun u hu=>by
    rcases abL.1 hu with rfl|hu
    ·rw[he,b6]
    ·rw[←he];exact mg (hw hu)
   have iq:c6 r x=r:=by unfold c6;rw[List.filter_eq_self];intro u hu;have h4:=hw hu;simp;intro e2;rw[he,e2,b6]at h4;cases h4
   rw[uj hn];unfold c6;rw[List.filter_cons_of_neg (by simp[he])];exact iq
  ·have C1:(aY r x).isSome=true:=by simpa[aY,List.find?_cons,he] using hf
   have aH:fL w.1 x=true:=by
    obtain⟨u,hu⟩:=acV.1 C1;have h1:=ac4 hu;have h2:u.1=x:=by simpa using adn hu
    rw[←h2];exact hw h1
   have e:cx (w::r) x=cx r x+1:=by unfold cx;rw[List.countP_cons_of_pos (by simpa using aH)]
   rw[e];have:=zF hr C1;simp[c6,List.filter_cons,he]at this ⊢;exact this
theorem zG(v:ak):∀{l:List ak},dp l→aY l v.1=none→dp (dB v l)
 |[],_,_=>List.pairwise_singleton _ _
 |w::r,hs,hf=>by
  have hw:∀{u:ak},u∈r→fL w.1 u.1=true:=fun {u} hu=>acZ hs hu;have hr:dp r:=hs.of_cons;have bw:¬w.1=v.1:=fun e=>by simp[aY,e]at hf
  have C1:aY r v.1=none:=by simpa[aY,List.find?_cons,bw] using hf
  unfold dB
  split
  ·rename_i h;refine List.Pairwise.cons (fun u hu=>?_) hs;rcases abL.1 hu with rfl|hu
   ·exact h
   ·exact gW h (hw hu)
  ·rename_i h;have aH:fL w.1 v.1=true:=mh (by simpa using h) (fun e=>bw e.symm);refine List.Pairwise.cons (fun u hu=>?_) (zG v hr C1);rcases pK.1 hu with rfl|hu
   ·exact aH
   ·exact hw hu
theorem wb{l:List ak}{x:ID}(hs:dp l):dp (c6 l x):=hs.filter _
theorem di{l:List ai}{x:ID}{v:ai}(hs:bZ l)(h:aT l x=some v):l[bT l x]? = some v:=by
 grind [uh,bT,Option.filter]
theorem iQ{l:List ai}{x:ID}{v:ai}(h:aT l x=some v):v.1=x:=by simpa using adn h
theorem ed{l:List ai}{x:ID}{v:ai}(h:aT l x=some v):v∈l:=ac4 h
theorem kA{l:List ai}{x:ID}{k:Nat}{u:ai}(hs:bZ l)(hk:l[k]? = some u)(hu:u.1=x):k=bT l x:=by
 have h1:¬k<bT l x:=fun h=>by
  have:=(zx hs k u hk).2 h
  grind [b6]
 have hf:(aT l x).isSome=true:=by
  grind [aT,List.find?_isSome,List.mem_of_getElem?]
 obtain⟨v,hv⟩:=acV.1 hf;have hg:=di hs hv;by_cases h2:bT l x<k
 ·obtain⟨h3,h4⟩:=abJ.1 hg;obtain⟨h5,h6⟩:=abJ.1 hk;have:=adu.1 hs _ _ h3 h5 h2
  grind [iQ,b6]
 ·omega
theorem Lo{l:List ai}{x:ID}{v:ai}(hs:bZ l)(h:aT l x=some v)(g f:ai→ai)(h1:∀w,w.1=x→g w=f w)(h2:∀w,w.1≠x→g w=w):l.map g=l.set (bT l x) (f v):=by
 have hg:=di hs h;apply adf;intro k;rw[List.getElem?_map,List.getElem?_set];by_cases hk:bT l x=k
 ·subst hk;rw[if_pos rfl,if_pos (List.getElem?_eq_some_iff.1 hg).1,hg]
  grind [iQ]
 ·rw[if_neg hk]
  cases hu:l[k]? with
  |none=>rfl
  |some u =>
   grind [kA]
theorem nh{l:List ak}{x:ID}{v:ak}(hs:dp l)(h:aY l x=some v):l[cx l x]? = some v:=by
 grind [zB,cx,Option.filter]
theorem sO{l:List ak}{x:ID}{v:ak}(h:aY l x=some v):v.1=x:=by simpa using adn h
theorem G6{l:List ak}{x:ID}{v:ak}(h:aY l x=some v):v∈l:=ac4 h
theorem RD{l:List ak}{x:ID}{k:Nat}{u:ak}(hs:dp l)(hk:l[k]? = some u)(hu:u.1=x):k=cx l x:=by
 have h1:¬k<cx l x:=fun h=>by
  have:=(zz hs k u hk).2 h
  grind [b6]
 have hf:(aY l x).isSome=true:=by
  grind [aY,List.find?_isSome,List.mem_of_getElem?]
 obtain⟨v,hv⟩:=acV.1 hf;have hg:=nh hs hv;by_cases h2:cx l x<k
 ·obtain⟨h3,h4⟩:=abJ.1 hg;obtain⟨h5,h6⟩:=abJ.1 hk;have:=adu.1 hs _ _ h3 h5 h2
  grind [sO,b6]
 ·omega
theorem Vz{l:List ak}{x:ID}{v:ak}(hs:dp l)(h:aY l x=some v)(g f:ak→ak)(h1:∀w,w.1=x→g w=f w)(h2:∀w,w.1≠x→g w=w):l.map g=l.set (cx l x) (f v):=by
 have hg:=nh hs h;apply adf;intro k;rw[List.getElem?_map,List.getElem?_set];by_cases hk:cx l x=k
 ·subst hk;rw[if_pos rfl,if_pos (List.getElem?_eq_some_iff.1 hg).1,hg]
  grind [sO]
 ·rw[if_neg hk]
  cases hu:l[k]? with
  |none=>rfl
  |some u =>
   grind [RD]
theorem dp.map{l:List ak}(h:dp l){f:ak→ak}(hf:∀v,(f v).1=v.1):dp (l.map f):=by unfold dp at h ⊢;rw[List.pairwise_map];exact h.imp fun {a b} rm=>by rw[hf,hf];exact rm
theorem vl{α R:Type}{o:Option α}{a r:Option R}{f:α→Option R}{p:α}(h:o=some p)(k:f p=r):rS o a f=r:=by subst h;exact k
theorem Pc{α R:Type}{o:Option α}{a r:Option R}{f:α→Option R}(h:o=none)(k:a=r):rS o a f=r:=by subst h;exact k
def vm(w:aW)(x:ID):Int×aW :=if(aY w.2.1 x).isSome=true then(12,w) else if 40≤w.2.1.length then(3,w) else(0,(w.1,(dB (x,(e0,0)) w.2.1,w.2.2)))
theorem aay(hG:HG G)(w:aW)(x:ID)(hs:dp w.2.1)(hl:w.2.1.length≤50000000):FX G 155 AE ((x,()),(w,()))=some (((vm w x).1,()),((vm w x).2,())):=by
 refine av (hG _ _ rfl) aeo ?_;refine aa (pO hG w x hs hl) ?_;unfold vm
 cases hf:(aY w.2.1 x).isSome
 ·rw[if_neg (by simp)];refine ag ((dr hs).trans hf) ?_;by_cases h2:40≤w.2.1.length
  ·rw[if_pos h2];exact af (decide_eq_true (show((w.2.1.length:Nat):Int)≥40 by omega)) rfl
  ·rw[if_neg h2];refine ag (decide_eq_false (show ¬((w.2.1.length:Nat):Int)≥40 by omega)) ?_;have hc:=I0 w.2.1 x;have kM:rT w.2.1 ((cx w.2.1 x:Nat):Int) [((x,(e0,0)):ak)]=true:=by
    grind [rT,decide_eq_true,cx,fits]
   refine af kM ?_;have e:jc w.2.1 ((cx w.2.1 x:Nat):Int) [((x,(e0,0)):ak)]=dB (x,(e0,0)) w.2.1:=by simp_all [Ln,e0,jc]
   exact congrArg (fun l:List ak=>some (((0:Int),()),((w.1,(l,w.2.2)),()))) e
 ·rw[if_pos rfl];exact af ((dr hs).trans hf) rfl
def D8(w:aW)(o:bj):Option (Fin 2×Nat) :=if qN o=true then(if(aY w.2.1 (bh o)).isSome=true then some (⟨1,by decide⟩,cx w.2.1 (bh o)) else none)
 else(if(aT w.1 (bh o)).isSome=true then some (⟨0,by decide⟩,bT w.1 (bh o)) else none)
theorem af4(hG:HG G)(w:aW)(o:bj)(hv:bZ w.1)(he:dp w.2.1)(Sx:w.1.length≤50000000)(hle:w.2.1.length≤50000000) :
  FX G 168 KG ((o,()),(w,()))=some ((D8 w o,(D8 w o,())),(w,())):=by
 refine av (hG _ _ rfl) aeA ?_;unfold D8;by_cases ho:qN o=true
 ·rw[if_pos ho];refine af ho ?_;refine aa (pO hG w (bh o) he hle) ?_
  cases hf:aY w.2.1 (bh o) with
  |none =>refine ag ((dr he).trans (by rw[hf];rfl)) ?_;rfl
  |some e =>refine af ((dr he).trans (by rw[hf];rfl)) ?_;have aH:=(abJ.1 (nh he hf)).1;refine af (cd (fq _) (aN aH)) ?_;exact af (cd (fq _) (aN aH)) rfl
 ·rw[if_neg ho];refine ag (by simpa using ho) ?_;refine aa (rp hG w (bh o) hv Sx) ?_
  cases hf:aT w.1 (bh o) with
  |none =>refine ag ((gh hv).trans (by rw[hf];rfl)) ?_;rfl
  |some e =>refine af ((gh hv).trans (by rw[hf];rfl)) ?_;have aH:=(abJ.1 (di hv hf)).1;refine af (cd (fq _) (aN aH)) ?_;exact af (cd (fq _) (aN aH)) rfl
def wc(w:aW)(o:bj):Int×aW :=if qN o=true then(if(aY w.2.1 (bh o)).isSome=true then(0,(w.1,(w.2.1.map (jR o),w.2.2))) else(13,w))
 else(if(aT w.1 (bh o)).isSome=true then(0,(w.1.map (iO o),w.2)) else(13,w))
theorem alU(hG:HG G)(w:aW)(o:bj)(hv:bZ w.1)(he:dp w.2.1)(Sx:w.1.length≤50000000)(hle:w.2.1.length≤50000000) :
  FX G 118 T1 ((o,()),(w,()))=some (((wc w o).1,()),((wc w o).2,())):=by
 refine av (hG _ _ rfl) ak1 ?_;refine aa (af4 hG w o hv he Sx hle) ?_;by_cases ho:qN o=true
 ·cases hf:aY w.2.1 (bh o) with
  |none =>
   have e1:D8 w o=none:=by simp_all [D8,if_pos]
   have e2:wc w o=(13,w):=by simp_all [wc,if_pos]
   rw[e2];exact Pc e1 (Pc e1 rfl)
  |some e =>
   have e1:D8 w o=some (⟨1,by decide⟩,cx w.2.1 (bh o)):=by simp_all [D8,if_pos]
   have hm:∀f:ak→ak,(∀u,u.1=bh o→jR o u=f u)→w.2.1.map (jR o)=w.2.1.set (cx w.2.1 (bh o)) (f e):=fun f hf1 =>Vz he hf (jR o) f hf1 (fun u hu=>by simp_all [jR,if_neg]);have e2:wc w o=(0,(w.1,(w.2.1.map (jR o),w.2.2))):=by simp_all [wc,if_pos]
   rw[e2];refine vl e1 (ag rfl (af rfl (vl e1 (ag rfl (af rfl ?_)))));by_cases h7:o.1=7
   ·refine af (JB h7) (aa (nh he hf) ?_);have:=hm (fun u=>(u.1,(pJ o,u.2.2))) (fun u hu=>by simp_all [jR,if_pos]);exact congrArg (fun l:List ak=>some (((0:Int),()),((w.1,(l,w.2.2)),()))) this.symm
   ·refine ag (AU h7) (aa (nh he hf) ?_);have:=hm (fun u=>(u.1,(u.2.1,oN o))) (fun u hu=>by simp_all [jR,if_pos,if_neg]);exact congrArg (fun l:List ak=>some (((0:Int),()),((w.1,(l,w.2.2)),()))) this.symm
 ·have rK:qN o=false:=by simpa using ho
  cases hf:aT w.1 (bh o) with
  |none =>
   have e1:D8 w o=none:=by simp_all [D8,if_neg]
   have e2:wc w o=(13,w):=by simp_all [wc,if_neg]
   rw[e2];exact Pc e1 (Pc e1 rfl)
  |some e =>
   have e1:D8 w o=some (⟨0,by decide⟩,bT w.1 (bh o)):=by simp_all [D8,if_neg]
   have hm:∀f:ai→ai,(∀u,u.1=bh o→iO o u=f u)→w.1.map (iO o)=w.1.set (bT w.1 (bh o)) (f e):=fun f hf1 =>Lo hv hf (iO o) f hf1 (fun u hu=>by simp_all [iO,if_neg]);have e2:wc w o=(0,(w.1.map (iO o),w.2)):=by simp_all [wc,if_neg]
   rw[e2];refine vl e1 (af rfl (vl e1 (af rfl ?_)));by_cases h7:o.1=7
   ·refine af (JB h7) (aa (di hv hf) ?_);have:=hm (fun u=>(u.1,(u.2.1,(pJ o,u.2.2.2)))) (fun u hu=>by simp_all [iO,if_pos]);exact congrArg (fun l:List ai=>some (((0:Int),()),((l,w.2),()))) this.symm
   ·refine ag (AU h7) (aa (di hv hf) ?_);have:=hm (fun u=>(u.1,(u.2.1,(u.2.2.1,oN o)))) (fun u hu=>by simp_all [iO,if_pos,if_neg]);exact congrArg (fun l:List ai=>some (((0:Int),()),((l,w.2),()))) this.symm
theorem aaz(hG:HG G)(a b:ae):FX G 73 GJ ((a,b,()),())=some ((pC a b,()),()):=by
 refine av (hG _ _ rfl) aeM ?_;refine aa (O9 hG a.1 b.1) ?_;refine aa (Vr hG a.2 b.2) ?_;refine aa (aav (hG _ _ rfl) (rI a.1 b.1) (Nj a.2 b.2)) ?_;refine congrArg (fun n:Int=>some ((n,()),())) ?_;obtain⟨a1,a2⟩:=a;obtain⟨b1,b2⟩:=b;unfold pC rI Nj mf;simp only[Prod.mk.injEq];by_cases h:a1=b1
 ·subst h;simp only[if_true,b6,Bool.false_or,true_and,decide_true,Bool.true_and]
  grind
 grind
theorem af5(hG:G 195 mO=none)(row:List ae)(d:ae)(hl:row.length≤1073741824):∀(n i:Nat),i+n=row.length → LX G 195 mO Tryz.f195 xn (aF Tryz.prog 195 0) ((row,(((row.length:Nat):Int),((i:Int),()))),(((d,()),()),()))=some ((idx d (row.drop i) i,()),()):=by
 intro n
 induction n with
 |zero =>intro i hi;refine ar OH ?_;refine ag (decide_eq_false (show ¬((i:Int)<((row.length:Nat):Int)) by omega)) ?_;rw[List.drop_eq_nil_of_le (by omega)];rfl
 |succ n ih =>
  intro i hi;have aH:i<row.length:=by omega
  refine ar OH ?_;refine af (aN aH) (aa (aw (aby aH)) ?_);rw[List.drop_eq_getElem_cons aH,idx];by_cases he:row[i]=d
  ·rw[if_pos he];exact af ((lJ d row[i]).trans (decide_eq_true he.symm)) rfl
  ·rw[if_neg he];refine ag ((lJ d row[i]).trans (decide_eq_false fun h=>he h.symm)) ?_;rw[wI,aA aH hl];exact ih (i+1) (by omega)
theorem D9(hG:G 195 mO=none)(row:List ae)(d:ae)(hl:row.length≤1073741824):FX G 195 mO ((row,d,()),())=some ((idx d row 0,()),()):=by refine av hG aeG ?_;have:=af5 hG row d hl row.length 0 (by omega);rw[List.drop_zero]at this;exact this
theorem G7(hG:HG G)(row:List ae)(d:ae)(hl:row.length≤1073741824):FX G 194 xd ((row,d,()),())=some ((decide (d∈row),()),()):=by
 refine av (hG _ _ rfl) aeF ?_;refine aa (D9 (hG _ _ rfl) row d hl) ?_;refine congrArg (fun b:Bool=>some ((b,()),())) ?_;rw[Bool.eq_iff_iff];simp only[decide_eq_true_eq];have:=eU (d:=d) (row:=row)
 grind
theorem eJ(a:ae):mf a a=false:=by unfold mf;simp[b6]
theorem jA{a b c:ae}(h:mf a b=true)(k:mf b c=true):mf a c=true:=by
 grind [mf,fL]
theorem zH{a b:ae}(h:mf a b=false)(k:a≠b):mf b a=true:=by
 grind [mf,fL]
theorem I2{a b c:ae}(h:mf a b=true)(k:mf c b=false):mf a c=true:=by
 grind [mf,fL]
theorem BT(a b:ae):pC a b<0↔mf a b=true:=by
 unfold pC;by_cases h:a=b
 ·grind [eJ]
 grind
theorem qO{row:List ae}{k:Nat}(hk:k<row.length):row.getD k zD=row[k]:=by simp_all
theorem zJ(row:List ae):∀(r:List ae) (i k:Nat),row.drop i=r→k<row.length→k≤i→(∀j,j<i→(hj:j<row.length)→mf row[j] (row.getD k zD)=false)→(∀j,j<k→(hj:j<row.length)→mf (row.getD k zD) row[j]=true) →(∀j,(hj:j<row.length)→mf row[j] (row.getD (fM row r i k) zD)=false)∧(∀j,j<fM row r i k→(hj:j<row.length)→mf (row.getD (fM row r i k) zD) row[j]=true)
 |[],i,k,hr,hk,hki,h1,h2=>by
  have hi:row.length≤i:=by simp_all
  exact⟨fun j hj=>h1 j (by omega) hj,h2⟩
 |x::r,i,k,hr,hk,hki,h1,h2=>by
  have hi:i<row.length:=by have:=congrArg List.length hr;grind
  have hx:row[i]=x:=by
   grind [List.drop_eq_getElem_cons]
  have tw:row.drop (i+1)=r:=by
   grind [List.drop_eq_getElem_cons]
  unfold fM
  split
  ·rename_i aH;rw[BT]at aH;refine zJ row r (i+1) i tw hi (by omega) (fun j hj Qq=>?_) (fun j hj Qq=>?_)
   ·rw[qO hi,hx];rcases Nat.lt_succ_iff_lt_or_eq.1 hj with hj|rfl
    ·grind [mf,jA]
    ·rw[hx,eJ]
   grind [qO,I2]
  ·rename_i aH;rw[BT]at aH;refine zJ row r (i+1) k tw hk (by omega) (fun j hj Qq=>?_) h2
   grind
theorem we{row:List ae}(h:0<row.length):(∀j,(hj:j<row.length)→mf row[j] (row.getD (fM row row 0 0) zD)=false)∧(∀j,j<fM row row 0 0→(hj:j<row.length)→mf (row.getD (fM row row 0 0) zD) row[j]=true) :=zJ row row 0 0 rfl h (acW _) (fun j hj=>by omega) (fun j hj=>by omega)
theorem Nm{d:ae}:∀{row:List ae} {k:Nat} {i:Int},row[k]? = some d→(∀j,j<k→row[j]?≠some d)→idx d row i=i+k
 |[],k,i,h,_=>by simp at h
 |e::r,0,i,h,_=>by simp at h;subst h;rw[idx,if_pos rfl];simp
 |e::r,k+1,i,h,hn=>by have h0:=hn 0 (by omega);rw[idx,if_neg (fun e=>h0 (by simp[e]))];rw[Nm (k:=k) (by simpa using h) (fun j hj=>by have:=hn (j+1) (by omega);simpa using this)];simp;omega
theorem VA{row:List ae}(h:0<row.length):idx (row.getD (fM row row 0 0) zD) row 0=((fM row row 0 0:Nat):Int):=by
 grind [nS,Nm,fM,zD,qO,List.getElem?_eq_getElem,List.getElem?_eq_some_iff,we,eJ]
theorem VB(hG:HG G)(row:List ae)(h:0<row.length)(hl:row.length≤100000000):FX G 74201 lf ((row,()),())=some ((row.getD (fM row row 0 0) zD,()),()):=by
 refine av (hG _ _ rfl) UT ?_;refine ag (decide_eq_false (show ¬((row.length:Nat):Int)<1 by omega)) ?_;refine aa (aw (i:=0) (aby h)) ?_;have loop:∀(n i k:Nat),i+n=row.length→k<row.length→LX G 74201 lf Tryz.f201 kr (aF Tryz.prog 201 0) ((row,((i:Int),())),(((zD,()),(((row.getD k zD),()),())),()))=some ((row.getD (fM row (row.drop i) i k) zD,()),()):=by
  intro n
  induction n with
  |zero =>intro i k hi hk;refine ar DN ?_;refine ag (decide_eq_false (show ¬((i:Int)<((row.length:Nat):Int)) by omega)) ?_;rw[List.drop_eq_nil_of_le (by omega)];rfl
  |succ n ih =>
   intro i k hi hk;have aH:i<row.length:=by omega
   have hx:row[i]? = some row[i]:=aby aH;refine ar DN ?_;refine af (aN aH) (aa (aw hx) ?_);refine aa (aaz hG row[i] (row.getD k zD)) ?_;rw[List.drop_eq_getElem_cons aH,fM];by_cases ho:pC row[i] (row.getD k zD)<0
   ·rw[if_pos ho];refine af (decide_eq_true ho) (aa (aw hx) ?_);have:=ih (i+1) i (by omega) aH;rw[←aA aH (by omega),qO aH]at this;exact this
   ·rw[if_neg ho];refine ag (decide_eq_false ho) ?_;have:=ih (i+1) k (by omega) hk;rw[←aA aH (by omega)]at this;exact this
 have h1:=loop (row.length-1) 1 0 (by omega) h;have h2:fM row row 0 0=fM row (row.drop 1) 1 0:=by
  cases row with
  |nil=>simp at h
  |cons x r =>simp_all [List.drop_one,List.tail_cons,fM,if_neg,pC]
 rw[h2];have h3:row.getD 0 zD=row[0]:=qO h;rw[h3]at h1;exact h1
def total(ls:List (List ae)):Nat:=(ls.map List.length).sum
theorem Ea(a:List ae)(r:List (List ae)):total (a::r)=a.length+total r:=by rfl
theorem aaA(hG:HG G)(ls:List (List ae))(hn:ls.length≤1000)(hl:total ls≤500000000):FX G 202 pw ((ls,()),())=some ((ls.flatten,()),()):=by
 refine av (hG _ _ rfl) aeN ?_;have af6:∀(n i:Nat) (out:List ae),i+n=ls.length→out.length+total (ls.drop i)≤500000000→LX G 202 pw Tryz.f202 xq (aF Tryz.prog 202 1) ((ls,(((ls.length:Nat):Int),((i:Int),()))),((),(out,())))=some ((out++(ls.drop i).flatten,()),()):=by
  intro n
  induction n with
  |zero =>intro i out hi ho;refine ar OL ?_;refine ag (decide_eq_false (show ¬((i:Int)<((ls.length:Nat):Int)) by omega)) ?_;rw[List.drop_eq_nil_of_le (by omega),List.flatten_nil,List.append_nil];rfl
  |succ n ih =>
   intro i out hi ho;have aH:i<ls.length:=by omega
   rw[List.drop_eq_getElem_cons aH]at ho ⊢;have rK:out.length+(ls[i].length+total (ls.drop (i+1)))≤500000000:=by
    grind [total,Ea]
   refine ar OL ?_;refine af (aN aH) (aa (aw (aby aH)) ?_);refine af (fits (show out.length+ls[i].length≤1073741824 by omega)) ?_;have:=ih (i+1) (out++ls[i]) (by omega) (by grind);rw[List.flatten_cons,←List.append_assoc];rw[←aA aH (by omega)]at this;exact this
 have af7:∀(n i m:Nat),i+n=ls.length→m+total (ls.drop i)=total ls→LX G 202 pw Tryz.f202 xp (aF Tryz.prog 202 0) ((ls,((m:Int),(ls,(((ls.length:Nat):Int),((i:Int),()))))),((),()))=some ((ls.flatten,()),()):=by
  intro n
  induction n with
  |zero =>
   intro i m hi hm;refine ar OJ ?_;refine ag (decide_eq_false (show ¬((i:Int)<((ls.length:Nat):Int)) by omega)) ?_;have hg:B9 (m:Int)=true:=by
    grind [B9,decide_eq_true,eY]
   refine af hg ?_;have:=af6 ls.length 0 [] (by omega) (by simp_all);rw[List.drop_zero,List.nil_append]at this;exact this
  |succ n ih =>
   intro i m hi hm;have aH:i<ls.length:=by omega
   have ZF:m+ls[i].length+total (ls.drop (i+1))=total ls:=by
    rw[List.drop_eq_getElem_cons aH]at hm
    grind [total,Ea]
   refine ar OJ ?_;refine af (aN aH) (aa (aw (aby aH)) ?_);have hw:IntKind.wrap .i64 ((m:Int)+((ls[i].length:Nat):Int))=((m+ls[i].length:Nat):Int):=by rw[wrap_small (by omega) (by omega)];rfl
   refine ag (decide_eq_false (show ¬IntKind.wrap .i64 ((m:Int)+((ls[i].length:Nat):Int))<0 by rw[hw];omega)) ?_;have:=ih (i+1) (m+ls[i].length) (by omega) ZF;rw[←aA aH (by omega),←hw]at this;exact this
 exact af7 ls.length 0 0 (by omega) (by simp_all)
theorem BU{α:Type}(xs:List α){k:Nat}(hk:k≤xs.length):cut xs (k:Int) ((xs.length:Nat):Int)=xs.drop k:=by simp_all [cut,Int.toNat_natCast,List.take_of_length_le,Nat.le_refl]
theorem uk{α:Type}(xs:List α)(k:Nat):cut xs 0 (k:Int)=xs.take k:=by rfl
theorem I3{n k:Nat}(h:k≤n):bg n (k:Int) ((n:Nat):Int)=true:=by grind [bg]
theorem xX{n k:Nat}(h:k≤n):bg n 0 (k:Int)=true:=by grind [bg]
theorem Eb(hG:HG G)(row:List ae)(hl:row.length≤100000000):FX G 167 rl ((row,()),())=some ((cc row,()),()):=by
 refine av (hG _ _ rfl) aez ?_;by_cases h0:row.length=0
 ·refine af (show(((row.length:Nat):Int)==0)=true by simp[h0]) ?_;have:row=[]:=by simpa using h0
  subst this;rfl
 refine ag (show(((row.length:Nat):Int)==0)=false by rw[beq_eq_false_iff_ne];omega) ?_;have hp:0<row.length:=by omega
 have hm:=nS row row 0 0 hp (by omega);refine aa (VB hG row hp hl) ?_;refine aa (D9 (hG _ _ rfl) row (row.getD (fM row row 0 0) zD) (by omega)) ?_;rw[VA hp];refine af (I3 (n:=row.length) (k:=fM row row 0 0) (by omega)) (af (xX (n:=row.length) (k:=fM row row 0 0) (by omega)) ?_);have key:∀a b:List ae,a=row.drop (fM row row 0 0)→b=row.take (fM row row 0 0)→((FX G 202 pw (([a,b],()),())).bind fun(y3:(((List ae)×Unit)×Unit))=>some (y3.1,()))=some ((cc row,()),()):=by intro a b ha hb;subst ha hb;refine aa (aaA hG [row.drop (fM row row 0 0),row.take (fM row row 0 0)] (by simp) (by unfold total;simp;omega)) ?_;unfold cc E1;simp only[List.flatten_cons,List.flatten_nil,List.append_nil]
 exact key _ _ (BU row (by omega)) (uk row _)
theorem VC(hG:HG G)(ls:List (List ae))(hn:ls.length≤1000)(hl:total ls≤100000000):FX G 196 pn ((ls,()),())=some ((cc ls.flatten,()),()):=by
 refine av (hG _ _ rfl) aeH ?_;refine aa (aaA hG ls hn (by omega)) ?_;have hlen:ls.flatten.length=total ls:=by unfold total;simp_all
 exact aa (Eb hG ls.flatten (by omega)) rfl
theorem VD(hG:HG G)(row:List ae)(after d:ae)(hl:row.length≤50000000):FX G 158 Db ((row,after,d,()),())=some ((nu row after d,()),()):=by
  refine av (hG _ _ rfl) aeq ?_;refine aa (G7 hG row d (by omega)) ?_;unfold nu;by_cases hd:d∈row
  · rw[if_pos hd]
    exact af (decide_eq_true hd) (aa (Eb hG row (by omega)) rfl)
  rw[if_neg hd];refine ag (decide_eq_false hd) ?_;refine aa (D9 (hG _ _ rfl) row after (by omega)) ?_;have hr:idx after row 0<((row.length:Nat):Int)∨row.length=0∧idx after row 0 = -1:=by
    grind [pG,List.getElem?_eq_some_iff]
  have hm:max (idx after row 0) (0:Int)=max 0 (idx after row 0):=by omega
  have hw:IntKind.wrap .i64 (max (idx after row 0) (0:Int)+1)=(((max 0 (idx after row 0)).toNat+1:Nat):Int):=by
    grind [wrap_small]
  obtain⟨k,hk,oW,Sy⟩:∃k:Nat,min (IntKind.wrap .i64 (max (idx after row 0) (0:Int)+1)) ((row.length:Nat):Int)=(k:Int)∧k≤row.length∧row.take k++(d::row.drop k)=row.take ((max 0 (idx after row 0)).toNat+1)++(d::row.drop ((max 0 (idx after row 0)).toNat+1)):=by
    rw[hw];by_cases h0:row.length=0
    · have:row=[]:=by simpa using h0
      subst this;exact⟨0,by simp;omega,by simp,by simp⟩
    grind
  have uc:(min (IntKind.wrap .i64 ((max (idx after row 0) (0:Int):Int)+(1:Int))) (((List.length row):Nat):Int):Int)=(k:Int):=hk;show cond (bg (List.length row) (0:Int) (min (IntKind.wrap .i64 ((max (idx after row 0) (0:Int):Int)+(1:Int))) (((List.length row):Nat):Int):Int)) (cond (bg (List.length row) (min (IntKind.wrap .i64 ((max (idx after row 0) (0:Int):Int)+(1:Int))) (((List.length row):Nat):Int):Int) (((List.length row):Nat):Int)) ((FX G 196 pn ((((cut row (0:Int) (min (IntKind.wrap .i64 ((max (idx after row 0) (0:Int):Int)+(1:Int))) (((List.length row):Nat):Int):Int))::([d]::((cut row (min (IntKind.wrap .i64 ((max (idx after row 0) (0:Int):Int)+(1:Int))) (((List.length row):Nat):Int):Int) (((List.length row):Nat):Int))::([]:List (List ae))))),()),())).bind fun(y4:(((List ae)×Unit)×Unit)) =>some (y4.1,())) (none)) (none)=_;rw[uc];refine af (xX oW) (af (I3 oW) ?_);have key:∀a b R:List ae,a=row.take k→b=row.drop k→R=cc (row.take k++(d::row.drop k))→((FX G 196 pn (([a,[d],b],()),())).bind fun(y3:(((List ae)×Unit)×Unit))=>some (y3.1,()))=some ((R,()),()):=by intro a b R ha hb hR;subst ha hb hR;refine aa (VC hG [row.take k,[d],row.drop k] (by simp) (by grind [total])) ?_;simp_all
  exact key _ _ _ (uk row k) (BU row oW) (by rw[Sy])
theorem zK{row:List ae}{d:ae}{k:Nat}(hn:row.Nodup)(hk:row[k]? = some d):row.filter (fun e=>decide (e≠d))=row.take k++row.drop (k+1):=by
 obtain⟨h1,h2⟩:=abJ.1 hk
 conv=>lhs;rw[←List.take_append_drop k row,List.drop_eq_getElem_cons h1,h2]
 have Qg:(row.take k++(d::row.drop (k+1))).Nodup:=by rw[←h2,←List.drop_eq_getElem_cons h1,List.take_append_drop];exact hn
 have h3:=ada.1 Qg;have h4:=acg.1 h3.2.1;rw[List.filter_append,List.filter_cons_of_neg (by simp)];congr 1
 ·rw[List.filter_eq_self];intro a ha;have:=h3.2.2 a ha d (by simp);simpa using this
 ·rw[List.filter_eq_self];intro a ha;have:a≠d:=fun e=>h4.1 (e▸ha);simpa using this
theorem aaB(hG:HG G)(row:List ae)(d:ae)(hn:row.Nodup)(hl:row.length≤50000000):FX G 163 KF ((row,d,()),())=some ((iL row d,()),()):=by
 refine av (hG _ _ rfl) aew ?_;refine aa (D9 (hG _ _ rfl) row d (by omega)) ?_;unfold iL;by_cases hd:d∈row
 ·obtain⟨k,h1,h2,h3⟩:=eu hd;have aH:=(abJ.1 h2).1;rw[zK hn h2];show cond (decide (idx d row 0<0)) _ (cond (bg row.length 0 (idx d row 0)) (cond (bg row.length (IntKind.wrap .i64 (idx d row 0+1)) ((row.length:Nat):Int)) ((FX G 196 pn (([cut row 0 (idx d row 0),cut row (IntKind.wrap .i64 (idx d row 0+1)) ((row.length:Nat):Int)],()),())).bind fun(y3:(((List ae)×Unit)×Unit))=>some (y3.1,())) none) none)=_;rw[h1,aA aH (by omega)];refine ag (decide_eq_false (by omega)) (af (xX (by omega)) (af (I3 (by omega)) ?_));have key:∀a b:List ae,a=row.take k→b=row.drop (k+1)→((FX G 196 pn (([a,b],()),())).bind fun(y3:(((List ae)×Unit)×Unit))=>some (y3.1,()))=some ((cc (row.take k++row.drop (k+1)),()),()):=by intro a b ha hb;subst ha hb;refine aa (VC hG [row.take k,row.drop (k+1)] (by simp) (by grind [total])) ?_;simp_all
  exact key _ _ (uk row k) (BU row (by omega))
 ·have h1:=eU.2 hd;refine af (decide_eq_true h1) (aa (Eb hG row (by omega)) ?_);refine congrArg (fun l:List ae=>some ((l,()),())) ?_
  grind [List.filter_eq_self]
theorem aaC(hG:HG G)(row:List ae)(cH d:ae)(hl:row.length≤50000000):FX G 165 ve ((row,cH,d,()),())=some ((fm row cH d,()),()):=by
 refine av (hG _ _ rfl) aex ?_;refine aa (D9 (hG _ _ rfl) row cH (by omega)) ?_;unfold fm;by_cases ho:cH∈row
 ·obtain⟨k,h1,h2,h3⟩:=eu ho;have aH:=(abJ.1 h2).1;refine ag (decide_eq_false (show ¬idx cH row 0<0 by omega)) ?_;refine aa (G7 hG row d (by omega)) ?_;by_cases hd:d∈row
  ·rw[if_neg (fun h=>h.2 hd)];exact af (decide_eq_true hd) (aa (Eb hG row (by omega)) rfl)
  rw[if_pos ⟨ho,hd⟩];refine ag (decide_eq_false hd) ?_;show cond (bg row.length 0 (idx cH row 0)) (cond (bg row.length (IntKind.wrap .i64 (idx cH row 0+1)) ((row.length:Nat):Int)) ((FX G 196 pn (([cut row 0 (idx cH row 0),[d],cut row (IntKind.wrap .i64 (idx cH row 0+1)) ((row.length:Nat):Int)],()),())).bind fun(y3:(((List ae)×Unit)×Unit))=>some (y3.1,())) none) none=_;rw[h1,aA aH (by omega)];refine af (xX (by omega)) (af (I3 (by omega)) ?_);have key:∀a b R:List ae,a=row.take k→b=row.drop (k+1)→R=cc (row.set ((k:Int)).toNat d)→((FX G 196 pn (([a,[d],b],()),())).bind fun(y3:(((List ae)×Unit)×Unit))=>some (y3.1,()))=some ((R,()),()):=by intro a b R ha hb hR;subst ha hb hR;refine aa (VC hG [row.take k,[d],row.drop (k+1)] (by simp) (by grind [total])) ?_;simp_all [congrArg,ae,Int.toNat_natCast,List.set_eq_take_append_cons_drop,if_pos]
  exact key _ _ _ (uk row k) (BU row (by omega)) rfl
 ·have h1:=eU.2 ho;rw[if_neg (fun h=>ho h.1)];exact af (decide_eq_true h1) (aa (Eb hG row (by omega)) rfl)
theorem af8(hG:HG G)(row:List ae)(d:ae)(hl:row.length≤100000000):FX G 200 GI ((row,d,()),())=some (Le (dw row d (row.length-1)),()):=by
 refine av (hG _ _ rfl) aeL ?_;have key:FX G 221 Dg ((row,(d,((IntKind.wrap .i64 (((row.length:Nat):Int)-1)),()))),())=some (Le (dw row d (row.length-1)),()):=by
  refine av (hG _ _ rfl) aai ?_;refine aa (D9 (hG _ _ rfl) row d (by omega)) ?_;unfold dw;by_cases hd:d∈row
  ·rw[if_pos hd];obtain⟨k,h1,h2,h3⟩:=eu hd;have aH:=(abJ.1 h2).1;refine ag (decide_eq_false (show ¬idx d row 0<0 by omega)) ?_;refine ag (IS hd) ?_;have hw:IntKind.wrap .i64 (((row.length:Nat):Int)-1)=((row.length-1:Nat):Int):=by grind [wrap_small]
   have M9:IntKind.wrap .i64 (idx d row 0+IntKind.wrap .i64 (((row.length:Nat):Int)-1))=((k+(row.length-1):Nat):Int):=by
    grind [wrap_small]
   have zw:(k+(row.length-1))%row.length<row.length:=adp _ (by omega);have hx:=aby zw;refine aa (show aR row (Int.tmod (IntKind.wrap .i64 (idx d row 0+IntKind.wrap .i64 (((row.length:Nat):Int)-1))) ((row.length:Nat):Int))=some row[(k+(row.length-1))%row.length] by rw[M9,sL];exact aw hx) ?_;rw[h1,Int.toNat_natCast,hx];rfl
  ·rw[if_neg hd];exact af (decide_eq_true (eU.2 hd)) rfl
 refine aa key ?_;rfl
end Go.Vs
