/- What the program computes at -/
import Derived.Test.YtoleelddkocpkaaGreatPlaces
set_option linter.unusedVariables false
set_option linter.unusedSimpArgs false
namespace Go.Vs
open Go.Proofs
variable {G:(f:FuncId)→(g:aO)→Option (g.A→Option g.B)}
theorem get_at{s:ByteArray}{i:Nat}{c:UInt8}(h:s.data.toList[i]? = some c):s.get! i=c:=by
 have hi:i<s.data.size:=by grind
 have h2:=(abp.1 h).2;show s.data[i]! = c;simp_all
theorem Tb{s:ByteArray}{i:Nat}(h:(s.get! i).toNat<128):Utf8.decode s i=((s.get! i).toNat,1):=by simp_all [Utf8.decode,Nat.add_zero,if_pos]
theorem Td{s:ByteArray}{i:Nat}(h:¬(s.get! i).toNat<128):128≤(Utf8.decode s i).1:=by
 unfold Utf8.decode;simp only[Nat.add_zero];rw[if_neg h]
 repeat' split
 all_goals first|(simp_all only[Bool.and_eq_true,decide_eq_true_eq];omega)|decide|omega
theorem amB(hG:G 141 yO=none)(s:ByteArray)(hs:s.size≤100000000):∀(n i:Nat),i+n=s.size → LX G 141 yO Tryz.f141 AW (aE Tryz.prog 141 0) ((s,()),((),((s,i),())))=some ((((s.data.toList.drop i).all l6&&decide (s.size≤16),()),()):(Bool×Unit)×Unit):=by
 have hl:s.data.toList.length=s.size:=by simp
 intro n
 induction n with
 |zero =>
  intro i hi;refine ak Wa ?_;refine af (decide_eq_false (show ¬(i<s.size) by omega)) ?_;refine congrArg (fun b:Bool=>some ((b,()),())) ?_
  grind
 |succ n ih =>
  intro i hi;have aG:i<s.data.toList.length:=by omega
  have hx:s.data.toList[i]? = some s.data.toList[i]:=abf aG;generalize s.data.toList[i]=c at hx;have hd:s.data.toList.drop i=c::s.data.toList.drop (i+1):=by
   grind [List.drop_eq_getElem_cons,List.getElem?_eq_getElem]
  have hg:=get_at hx;refine ak Wa ?_;refine ae (decide_eq_true (show i<s.size by omega)) ?_;show cond (decide (rh s i<32)) _ (cond (decide (rh s i>126)) _ (LX G 141 yO Tryz.f141 AW (aE Tryz.prog 141 0) ((s,()),((),((s,i+Du s i),())))))=_;rw[hd,List.all_cons];by_cases h1:c.toNat<128
  ·have hr:Utf8.decode s i=(c.toNat,1):=by grind [Tb]
   have hr1:rh s i=(c.toNat:Int):=by grind [rh]
   have YM:Du s i=1:=by grind [Du]
   rw[hr1,YM];by_cases h2:c.toNat<32
   ·refine ae (decide_eq_true (by omega)) ?_;have:l6 c=false:=by grind [l6]
    rw[this];rfl
   refine af (decide_eq_false (by omega)) ?_;by_cases h3:126<c.toNat
   ·refine ae (decide_eq_true (by omega)) ?_;have:l6 c=false:=by grind [l6]
    rw[this];rfl
   refine af (decide_eq_false (by omega)) ?_;have:l6 c=true:=by grind [l6]
   rw[this,Bool.true_and];exact ih (i+1) (by omega)
  ·have h2:=Td (s:=s) (i:=i) (by simp_all);have hr1:128≤rh s i:=by unfold rh;omega
   refine af (decide_eq_false (by omega)) (ae (decide_eq_true (by omega)) ?_);have:l6 c=false:=by grind [l6]
   rw[this];rfl
theorem ahu(hG:G 141 yO=none)(s:ByteArray)(hs:s.size≤100000000):FX G 141 yO ((s,()),())=some ((dY s,()),()):=by refine au hG alS ?_;have:=amB hG s hs s.size 0 (by omega);rw[List.drop_zero]at this;exact this
theorem ahv(hG:G 143 JS=none)(n:Int):FX G 143 JS ((n,()),())=some ((dE n,()),()):=by
 refine au hG alT ?_;show(cond (decide (n≥-1099511627776)) (some ((decide (n≤1099511627776),()),())) (some ((false,()),())):Option ((Bool×Unit)×Unit))=some ((dE n,()),())
 grind [dE]
def oq(n:Int):Prop := -9223372036854775808≤n∧n<9223372036854775808
theorem WK(x:BitVec 64):IntKind.wrap .i64 ((x.toNat:Nat):Int)=x.toInt:=by
 grind [IntKind.wrap,IntKind.bits,IntKind.signed,BitVec.toInt_eq_toNat_cond]
theorem ofInt_toInt{n:Int}(h:oq n):(BitVec.ofInt 64 n).toInt=n:=by
 grind [oq,BitVec.toInt_ofInt,Int.bmod_eq_of_le]
theorem ZT{n:Int}(h:oq n):(dI .andNot .i64 n 3==(0:Int))=decide (0≤n∧n≤3):=by
 have e:dI .andNot .i64 n 3=(BitVec.ofInt 64 n &&& ~~~(BitVec.ofInt 64 3)).toInt:=by unfold dI;exact WK _
 rw[e,Bool.eq_iff_iff];simp only[beq_iff_eq,decide_eq_true_eq];generalize hx:BitVec.ofInt 64 n=x;have hn:=ofInt_toInt h;rw[hx]at hn;have h1:(x &&& ~~~(BitVec.ofInt 64 3)).toInt=0↔(x &&& ~~~(BitVec.ofInt 64 3))=0#64:=by
  constructor
  ·intro h;exact BitVec.eq_of_toInt_eq (by rw[h];rfl)
  simp_all
 rw[h1,←hn];constructor
 ·intro h;have h2:x=x &&& 3#64:=by
   have h3:x=(x &&& ~~~(BitVec.ofInt 64 3)) ||| (x &&& 3#64):=by
    ext i hi;simp only[BitVec.getElem_or,BitVec.getElem_and,BitVec.getElem_not]
    grind
   grind
  grind [BitVec.toNat_and,Nat.and_le_right,BitVec.toInt_eq_toNat_cond]
 ·intro h;have h4:x.toNat≤3:=by rw[BitVec.toInt_eq_toNat_cond]at h;omega
  have h5:x=0#64∨x=1#64∨x=2#64∨x=3#64:=by
   have:x.toNat=0∨x.toNat=1∨x.toNat=2∨x.toNat=3:=by omega
   grind
  grind
theorem ZU{n:Int}(h:oq n):(dI .andNot .i64 n 1==(0:Int))=decide (n=0∨n=1):=by
 have e:dI .andNot .i64 n 1=(BitVec.ofInt 64 n &&& ~~~(BitVec.ofInt 64 1)).toInt:=by unfold dI;exact WK _
 rw[e,Bool.eq_iff_iff];simp only[beq_iff_eq,decide_eq_true_eq];generalize hx:BitVec.ofInt 64 n=x;have hn:=ofInt_toInt h;rw[hx]at hn;have h1:(x &&& ~~~(BitVec.ofInt 64 1)).toInt=0↔(x &&& ~~~(BitVec.ofInt 64 1))=0#64:=by
  constructor
  ·intro h;exact BitVec.eq_of_toInt_eq (by rw[h];rfl)
  simp_all
 rw[h1,←hn];constructor
 ·intro h;have h2:x=x &&& 1#64:=by
   have h3:x=(x &&& ~~~(BitVec.ofInt 64 1)) ||| (x &&& 1#64):=by
    ext i hi;simp only[BitVec.getElem_or,BitVec.getElem_and,BitVec.getElem_not]
    grind
   grind
  grind
 grind
theorem ME(hG:HG G)(d:ag)(h:oq d.2):FX G 72 EA ((d,()),())=some ((gr d,()),()):=by
 refine au (hG _ _ rfl) afW ?_;refine aa (CH (hG _ _ rfl) d.1) ?_;unfold gr
 cases bQ d.1
 ·rfl
 ·exact ae rfl (congrArg (fun b:Bool=>some ((b,()),())) (ZU h))
theorem ahw(hG:HG G)(c:xV)(h:oq c.2.2):FX G 151 GY ((c,()),())=some ((My c,()),()):=by
 refine au (hG _ _ rfl) alR ?_;refine aa (CH (hG _ _ rfl) c.1) ?_;unfold My
 cases bQ c.1
 ·rfl
 refine ae rfl ?_;have hb:(((c.2.1.1==(0:Int))&&(c.2.1.2==(0:Int)))&&(c.2.2==(0:Int)))=decide (c.2=zD):=vY c.2 zD;by_cases hz:c.2=zD
 ·refine ae (hb.trans (decide_eq_true hz)) ?_;rw[decide_eq_true hz,Bool.or_true];rfl
 ·refine af (hb.trans (decide_eq_false hz)) ?_;refine aa (ME hG c.2 h) ?_;rw[decide_eq_false hz,Bool.or_false];rfl
structure Fit(o:bP):Prop where
 a:oq (oA o).2.2
 b:oq (oB o).2.2
 n:oq (oN o)
 t:adu o
def Fm(o:bP):bP :=if o.1=6 then(o.1,(bK o,(zI,(bY o,(zC,(zC,(false,(e0,0))))))))
 else if o.1=3 then(o.1,(bK o,(zI,(zI,(oA o,(oB o,(false,(e0,0))))))))
 else if o.1=5 then(o.1,(bK o,(iM o,(bY o,(zC,(zC,(false,(e0,oN o))))))))
 else if o.1=7 then(o.1,(bK o,(zI,(zI,(zC,(zC,(A5 o,(zw o,0))))))))
 else if o.1=8 then(o.1,(bK o,(zI,(zI,(zC,(zC,(A5 o,(e0,oN o))))))))
 else(o.1,(bK o,(zI,(zI,(zC,(zC,(false,(e0,0))))))))
def Ke(o:bP):Int :=if o.1=6 then(if bQ (bK o)=true∧bQ (bY o)=true then 0 else 1)
 else if o.1=3 then(if bQ (bK o)=true∧My (oA o)=true∧My (oB o)=true then 0 else 1)
 else if o.1=5 then(if bQ (bK o)=true∧bQ (iM o)=true∧bQ (bY o)=true∧0≤oN o∧oN o≤3 then 0 else 1)
 else if o.1=7 then(if bQ (bK o)=true then(if dY (zw o)=true then 0 else 4) else 1)
 else if o.1=8 then(if bQ (bK o)=true∧dE (oN o)=true then 0 else 1)
 else if o.1=1∨o.1=2∨o.1=4 then(if bQ (bK o)=true then 0 else 1)
 else 1
theorem KP{o:bP}{k:Int}(h:o.1=k):(o.1==k)=true:=by simp[h]
theorem Cj{o:bP}{k:Int}(h:¬o.1=k):(o.1==k)=false:=by simp[h]
theorem amC(hG:HG G)(o:bP)(hf:Fit o):FX G 108 Vn ((o,()),())=some ((Fm o,(Ke o,())),()):=by
 refine au (hG _ _ rfl) alD ?_;refine aa (CH (hG _ _ rfl) (bK o)) ?_;unfold Fm Ke;by_cases h1:o.1=1
 ·refine ae (KP h1) (ae (KP h1) ?_);rw[if_neg (by omega),if_neg (by omega),if_neg (by omega),if_neg (by omega),if_neg (by omega),if_neg (by omega),if_neg (by omega),if_neg (by omega),if_neg (by omega),if_neg (by omega),if_pos (by omega)]
  cases bQ (bK o)<;>rfl
 refine af (Cj h1) ?_;by_cases h2:o.1=2
 ·refine ae (KP h2) (ae (KP h2) ?_);rw[if_neg (by omega),if_neg (by omega),if_neg (by omega),if_neg (by omega),if_neg (by omega),if_neg (by omega),if_neg (by omega),if_neg (by omega),if_neg (by omega),if_neg (by omega),if_pos (by omega)]
  cases bQ (bK o)<;>rfl
 refine af (Cj h2) ?_;by_cases h4:o.1=4
 ·refine ae (KP h4) ?_;rw[if_neg (by omega),if_neg (by omega),if_neg (by omega),if_neg (by omega),if_neg (by omega),if_neg (by omega),if_neg (by omega),if_neg (by omega),if_neg (by omega),if_neg (by omega),if_pos (by omega)]
  cases bQ (bK o)<;>rfl
 refine af (Cj h4) ?_;by_cases h6:o.1=6
 ·refine ae (KP h6) ?_;rw[if_pos h6,if_pos h6]
  cases bQ (bK o)
  ·rfl
  refine ae rfl (aa (CH (hG _ _ rfl) (bY o)) ?_)
  cases bQ (bY o)<;>rfl
 refine af (Cj h6) ?_;rw[if_neg h6,if_neg h6];by_cases h3:o.1=3
 ·refine ae (KP h3) ?_;rw[if_pos h3,if_pos h3]
  cases bQ (bK o)
  ·rfl
  refine ae rfl (aa (ahw hG (oA o) hf.a) ?_)
  cases My (oA o)
  ·rfl
  refine ae rfl (aa (ahw hG (oB o) hf.b) ?_)
  cases My (oB o)<;>rfl
 refine af (Cj h3) ?_;rw[if_neg h3,if_neg h3];by_cases h5:o.1=5
 ·refine ae (KP h5) ?_;rw[if_pos h5,if_pos h5]
  cases bQ (bK o)
  ·rfl
  refine ae rfl (aa (CH (hG _ _ rfl) (iM o)) ?_)
  cases bQ (iM o)
  ·rfl
  refine ae rfl (aa (CH (hG _ _ rfl) (bY o)) ?_)
  cases bQ (bY o)
  ·rfl
  refine ae rfl (aW (ZT hf.n) ?_);by_cases h:0≤oN o∧oN o≤3
  ·rw[decide_eq_true h,if_pos ⟨rfl,rfl,rfl,h⟩];rfl
  ·rw[decide_eq_false h,if_neg (fun k=>h k.2.2.2)];rfl
 refine af (Cj h5) ?_;rw[if_neg h5,if_neg h5];by_cases h7:o.1=7
 ·refine ae (KP h7) ?_;rw[if_pos h7,if_pos h7];refine aa (ahu (hG _ _ rfl) (zw o) hf.t) ?_
  cases dY (zw o)<;>cases bQ (bK o)<;>rfl
 refine af (Cj h7) ?_;rw[if_neg h7,if_neg h7];by_cases h8:o.1=8
 ·refine ae (KP h8) ?_;rw[if_pos h8,if_pos h8]
  cases bQ (bK o)
  ·rfl
  refine ae rfl (aa (ahv (hG _ _ rfl) (oN o)) ?_)
  cases dE (oN o)<;>rfl
 refine af (Cj h8) ?_;rw[if_neg h8,if_neg h8,if_neg (by omega)];rfl
theorem Te(o:bP)(h1:1≤o.1)(h8:o.1≤8):G6 (Fm o) o=G6 (Mz o) zOp:=by
 rw[Bool.eq_iff_iff,MA,MA];obtain⟨k,i,n,m,⟨a1,a2⟩,⟨b1,b2⟩,f,t,q⟩:=o;simp only at h1 h8;unfold Fm Mz zOp;have:k=1∨k=2∨k=3∨k=4∨k=5∨k=6∨k=7∨k=8:=by omega
 rcases this with rfl|rfl|rfl|rfl|rfl|rfl|rfl|rfl<;>simp only[Int.reduceEq,if_true,if_false]<;>constructor<;>intro h<;>simp only[zC,Prod.mk.injEq,true_and,and_true]at h ⊢<;>grind
theorem amD(hG:HG G)(o:bP)(hf:Fit o):FX G 82 Vl ((o,()),())=some ((dV o,()),()):=by
 refine au (hG _ _ rfl) alo ?_;refine aa (amC hG o hf) ?_;refine aW (b:=G6 (Fm o) o) rfl ?_;unfold dV;by_cases h1:o.1<1
 ·rw[if_pos h1];have:Ke o=1:=by unfold Ke;omega
  rw[this];cases G6 (Fm o) o<;>rfl
 rw[if_neg h1];by_cases h8:8<o.1
 ·rw[if_pos h8];have:Ke o=1:=by unfold Ke;omega
  rw[this];cases G6 (Fm o) o<;>rfl
 rw[if_neg h8,Te o (by omega) (by omega)];have hk:o.1=1∨o.1=2∨o.1=3∨o.1=4∨o.1=5∨o.1=6∨o.1=7∨o.1=8:=by omega
 by_cases hm:bQ (bK o)=true
 case neg =>
  have hb:Ke o=1:=by simp_all [Ke]
  rw[if_pos (by simpa using hm),hb];cases G6 (Mz o) zOp<;>rfl
 rw[if_neg (by simp[hm])]
 cases G6 (Mz o) zOp
 ·rfl
 rw[if_neg (by simp)];refine af rfl ?_;refine congrArg (fun n:Int=>some ((n,()),())) ?_;unfold Ke
 grind
theorem ahx(hG:HG G)(l:List bP)(hl:l.length≤1073741824)(hf:∀o∈l,Fit o):FX G 59 JN ((l,()),())=some ((ig l,()),()):=by
 refine au (hG _ _ rfl) alw ?_;unfold ig;by_cases h0:l.length=0
 ·refine ae (show(((l.length:Nat):Int)==0)=true by simp[h0]) ?_;rw[if_neg (by omega)];rfl
 refine af (show(((l.length:Nat):Int)==0)=false by simp_all) ?_;by_cases h6:6<l.length
 ·refine ae (decide_eq_true (show((l.length:Nat):Int)>6 by omega)) ?_;rw[if_neg (by omega)];rfl
 refine af (decide_eq_false (show ¬((l.length:Nat):Int)>6 by omega)) ?_;rw[if_pos (by omega)];have loop:∀(n i:Nat),i+n=l.length→LX G 59 JN Tryz.f59 EY (aE Tryz.prog 59 0) ((l,(((l.length:Nat):Int),((i:Int),()))),((),()))=some ((qF (l.drop i),()),()):=by
  intro n
  induction n with
  |zero =>intro i hi;refine ak VQ ?_;refine af (decide_eq_false (show ¬((i:Int)<((l.length:Nat):Int)) by omega)) ?_;rw[List.drop_eq_nil_of_le (by omega)];rfl
  |succ n ih =>
   intro i hi;have aG:i<l.length:=by omega
   refine ak VQ ?_;refine ae (aJ aG) (aa (ai (abf aG)) ?_);refine aa (amD hG l[i] (hf _ (acG aG))) ?_;rw[List.drop_eq_getElem_cons aG,qF];by_cases hz:dV l[i]=0
   ·rw[if_neg (by simp[hz])];refine af (show(dV l[i] != 0)=false by simp[hz]) ?_;rw[wI,aB aG hl];exact ih (i+1) (by omega)
   ·rw[if_pos hz];exact ae (show(dV l[i] != 0)=true by simp[hz]) rfl
 have:=loop l.length 0 (by omega);rw[List.drop_zero]at this;exact this
theorem abK(hG:HG G)(v:aj)(x:ID):FX G 198 HZ ((v,x,()),())=some ((sd v.1 x,()),()):=by refine au (hG _ _ rfl) agk ?_;exact aa (Ir hG v.1 x) rfl
def cI(l:List aj)(x:ID):Nat:=l.countP fun v=>fD v.1 x
def dv(l:List aj):Prop:=l.Pairwise fun a b=>fD a.1 b.1=true
theorem Kf(l:List aj)(x:ID):cI l x≤l.length:=aew
theorem vD{l:List aj}{x:ID}(h:∀v∈l,fD v.1 x=false):cI l x=0:=by
 grind [cI,List.countP_eq_zero]
theorem A9{x:ID}:∀{l:List aj},dv l→∀(k:Nat) (v:aj),l[k]? = some v→(fD v.1 x=true↔k<cI l x)
 |[],_,k,v,h=>by simp at h
 |w::r,hs,k,v,h=>by
  have hw:∀{u:aj},u∈r→fD w.1 u.1=true:=fun {u} hu=>acS hs hu;have hr:dv r:=hs.of_cons;by_cases aG:fD w.1 x=true
  ·have e:cI (w::r) x=cI r x+1:=by grind [cI,List.countP_cons_of_pos]
   cases k with
   |zero=>simp_all
   |succ k=>have:=A9 (x:=x) hr k v (by simpa using h);simp_all
  ·have hn:∀u∈w::r,fD u.1 x=false:=fun u hu=>by
    rcases abq.1 hu with rfl|hu
    ·simp_all
    ·rw[Bool.eq_false_iff];grind [gX]
   grind [vD,List.mem_of_getElem?]
theorem WL(hG:HG G)(l:List aj)(x:ID)(hs:dv l)(hl:l.length≤50000000):∀(n i j:Nat),j-i≤n→i≤cI l x→cI l x≤j→j≤l.length → LX G 199197 ke Tryz.f197 jJ (aE Tryz.prog 197 0) ((l,(((l.length:Nat):Int),((i:Int),((j:Int),())))),(((x,()),()),()))=some (((((cI l x:Nat):Int),(decide ((l[cI l x]?).map (·.1)=some x),())):Int×(Bool×Unit)),()):=by
 have wh:=Kf l x;have fin:∀(i j:Nat),¬(i<j)→i≤cI l x→cI l x≤j→LX G 199197 ke Tryz.f197 jJ (aE Tryz.prog 197 0) ((l,(((l.length:Nat):Int),((i:Int),((j:Int),())))),(((x,()),()),()))=some (((((cI l x:Nat):Int),(decide ((l[cI l x]?).map (·.1)=some x),())):Int×(Bool×Unit)),()):=fun i j GG h1 h2=>by
  have hi:i=cI l x:=by omega
  subst hi;refine ak E4 ?_;refine af (decide_eq_false (show ¬(((cI l x:Nat):Int)<(j:Int)) by omega)) ?_;by_cases hc:cI l x<l.length
  ·have hx:l[cI l x]? = some l[cI l x]:=abf hc;refine ae (aJ hc) ?_;refine aa (ai hx) ?_;refine aa (abK hG l[cI l x] x) ?_;refine congrArg (fun b:Bool=>some ((((cI l x:Nat):Int),(b,())),())) ?_
   grind [sd,cI]
  ·refine af (decide_eq_false (show ¬(((cI l x:Nat):Int)<((l.length:Nat):Int)) by omega)) ?_;refine congrArg (fun b:Bool=>some ((((cI l x:Nat):Int),(b,())),())) ?_;simp_all
 intro n
 induction n with
 |zero=>grind
 |succ n ih =>
  intro i j GG h1 h2 h3;by_cases aG:i<j
  case neg=>grind
  refine ak E4 ?_;refine ae (decide_eq_true (show((i:Int)<(j:Int)) by omega)) ?_;refine af rfl ?_;have hm:=O6 (i:=i) (j:=j) (by omega) (by omega);have hh:(i+j) / 2<l.length:=by omega
  have hx:l[(i+j) / 2]? = some l[(i+j) / 2]:=abf hh;have rL:=A9 (x:=x) hs ((i+j) / 2) _ hx;refine aa (show aP l (IntKind.wrap .i64 (iq .u64 (IntKind.wrap .u64 (IntKind.wrap .i64 ((i:Int)+(j:Int)))) (1:Int)))=some l[(i+j) / 2] by rw[hm];exact ai hx) ?_;refine aa (abK hG l[(i+j) / 2] x) ?_;by_cases ho:fD l[(i+j) / 2].1 x=true
  ·refine ae (decide_eq_true ((mN _ _).2 ho)) ?_;have hc:=rL.1 ho;have hw:IntKind.wrap .i64 (IntKind.wrap .i64 (iq .u64 (IntKind.wrap .u64 (IntKind.wrap .i64 ((i:Int)+(j:Int)))) (1:Int))+1)=(((i+j) / 2+1:Nat):Int):=by rw[hm];exact aB hh (by omega)
   have:=ih ((i+j) / 2+1) j (by omega) (by omega) h2 h3;rw[←hw]at this;exact this
  ·refine af (decide_eq_false (fun h=>ho ((mN _ _).1 h))) ?_;have hc:¬(i+j) / 2<cI l x:=fun h=>ho (rL.2 h);have:=ih i ((i+j) / 2) (by omega) h1 (by omega) (by omega);rw[←hm]at this;exact this
theorem WM(hG:HG G)(l:List aj)(x:ID)(hs:dv l)(hl:l.length≤50000000) :
  FX G 199197 ke ((l,x,()),())=some (((((cI l x:Nat):Int),(decide ((l[cI l x]?).map (·.1)=some x),())):Int×(Bool×Unit)),()):=by
 refine au (hG _ _ rfl) Wc ?_;exact WL hG l x hs hl l.length 0 l.length (by omega) (by omega) (Kf l x) (abX _)
theorem qL(hG:HG G)(w:aV)(x:ID)(hs:dv w.2.1)(hl:w.2.1.length≤50000000) :
  FX G 159 oV ((x,()),(w,()))=some (((((cI w.2.1 x:Nat):Int),(decide ((w.2.1[cI w.2.1 x]?).map (·.1)=some x),())):Int×(Bool×Unit)),(w,())):=by
 refine au (hG _ _ rfl) af2 ?_;exact aa (WM hG w.2.1 x hs hl) rfl
theorem Ba{x:ID}:∀{l:List aj},dv l→ba l x=(l[cI l x]?).filter fun v=>decide (v.1=x)
 |[],_=>rfl
 |w::r,hs=>by
  have hw:∀{u:aj},u∈r→fD w.1 u.1=true:=fun {u} hu=>acS hs hu;have hr:dv r:=hs.of_cons;by_cases aG:fD w.1 x=true
  ·have e:cI (w::r) x=cI r x+1:=by unfold cI;rw[List.countP_cons_of_pos (by simpa using aG)]
   have bA:¬w.1=x:=fun e=>by rw[e,cm]at aG;cases aG
   rw[e];simp only[ba,List.find?_cons,bA,decide_false,List.getElem?_cons_succ];exact Ba hr
  ·have hn:∀u∈w::r,fD u.1 x=false:=fun u hu=>by
    rcases abq.1 hu with rfl|hu
    ·simpa using aG
    ·rw[Bool.eq_false_iff];intro h2;exact aG (gX (hw hu) h2)
   rw[vD hn];by_cases he:w.1=x
   ·simp[ba,List.find?_cons,he,Option.filter]
   ·have Qc:fD x w.1=true:=nc (by simpa using aG) he;have:ba r x=none:=by
     unfold ba;rw[List.find?_eq_none];intro u hu h2;have h3:u.1=x:=by simpa using h2
     have h4:=hw hu;rw[h3]at h4;have:=mZ h4;rw[Qc]at this;cases this
    rw[show ba (w::r) x=ba r x by simp only[ba,List.find?_cons,he,decide_false],this];simp[he,Option.filter]
theorem dP{l:List aj}{x:ID}(hs:dv l):decide ((l[cI l x]?).map (·.1)=some x)=(ba l x).isSome:=by
 grind [Ba,cI,Option.filter]
theorem MF(v:aj):∀{l:List aj},dv l→ba l v.1=none→ib v l=l.take (cI l v.1)++(v::l.drop (cI l v.1))
 |[],_,_=>rfl
 |w::r,hs,hf=>by
  have hw:∀{u:aj},u∈r→fD w.1 u.1=true:=fun {u} hu=>acS hs hu;have hr:dv r:=hs.of_cons;have bA:¬w.1=v.1:=fun e=>by simp[ba,e]at hf
  have GS:ba r v.1=none:=by simpa[ba,List.find?_cons,bA] using hf
  by_cases aG:fD w.1 v.1=true
  ·have e:cI (w::r) v.1=cI r v.1+1:=by unfold cI;rw[List.countP_cons_of_pos (by simpa using aG)]
   have Jl:fD v.1 w.1=false:=mZ aG;rw[e,ib,if_neg (by simp[Jl]),MF v hr GS];rfl
  ·have hn:∀u∈w::r,fD u.1 v.1=false:=fun u hu=>by
    rcases abq.1 hu with rfl|hu
    ·simpa using aG
    ·rw[Bool.eq_false_iff];intro h2;exact aG (gX (hw hu) h2)
   have Qc:fD v.1 w.1=true:=nc (by simpa using aG) bA;rw[vD hn,ib,if_pos Qc];rfl
theorem Bb{x:ID}:∀{l:List aj},dv l→(ba l x).isSome=true→fw l x=l.take (cI l x)++l.drop (cI l x+1)
 |[],_,hf=>by simp[ba]at hf
 |w::r,hs,hf=>by
  have hw:∀{u:aj},u∈r→fD w.1 u.1=true:=fun {u} hu=>acS hs hu;have hr:dv r:=hs.of_cons;by_cases he:w.1=x
  ·have hn:∀u∈w::r,fD u.1 x=false:=fun u hu=>by
    rcases abq.1 hu with rfl|hu
    ·rw[he,cm]
    ·rw[←he];exact mZ (hw hu)
   have je:fw r x=r:=by unfold fw;rw[List.filter_eq_self];intro u hu;have h4:=hw hu;simp;intro e2;rw[he,e2,cm]at h4;cases h4
   rw[vD hn];unfold fw;rw[List.filter_cons_of_neg (by simp[he])];exact je
  ·have GS:(ba r x).isSome=true:=by simpa[ba,List.find?_cons,he] using hf
   have aG:fD w.1 x=true:=by
    obtain⟨u,hu⟩:=acK.1 GS;have h1:=ado hu;have h2:u.1=x:=by simpa using aeG hu
    rw[←h2];exact hw h1
   have e:cI (w::r) x=cI r x+1:=by unfold cI;rw[List.countP_cons_of_pos (by simpa using aG)]
   rw[e];have:=Bb hr GS;simp[fw,List.filter_cons,he]at this ⊢;exact this
theorem Bc(v:aj):∀{l:List aj},dv l→ba l v.1=none→dv (ib v l)
 |[],_,_=>List.pairwise_singleton _ _
 |w::r,hs,hf=>by
  have hw:∀{u:aj},u∈r→fD w.1 u.1=true:=fun {u} hu=>acS hs hu;have hr:dv r:=hs.of_cons;have bA:¬w.1=v.1:=fun e=>by simp[ba,e]at hf
  have GS:ba r v.1=none:=by simpa[ba,List.find?_cons,bA] using hf
  unfold ib
  split
  ·rename_i h;refine List.Pairwise.cons (fun u hu=>?_) hs;rcases abq.1 hu with rfl|hu
   ·exact h
   ·exact gX h (hw hu)
  ·rename_i h;have aG:fD w.1 v.1=true:=nc (by simpa using h) (fun e=>bA e.symm);refine List.Pairwise.cons (fun u hu=>?_) (Bc v hr GS);rcases qG.1 hu with rfl|hu
   ·exact aG
   ·exact hw hu
theorem xI{l:List aj}{x:ID}(hs:dv l):dv (fw l x):=hs.filter _
theorem dF{l:List an}{x:ID}{v:an}(hs:cg l)(h:aZ l x=some v):l[bV l x]? = some v:=by
 grind [vC,bV,Option.filter]
theorem l9{l:List an}{x:ID}{v:an}(h:aZ l x=some v):v.1=x:=by simpa using aeG h
theorem gZ{l:List an}{x:ID}{v:an}(h:aZ l x=some v):v∈l:=ado h
theorem k9{l:List an}{x:ID}{k:Nat}{u:an}(hs:cg l)(hk:l[k]? = some u)(hu:u.1=x):k=bV l x:=by
 have h1:¬k<bV l x:=fun h=>by
  have:=(A7 hs k u hk).2 h
  grind [cm]
 have hf:(aZ l x).isSome=true:=by
  grind [aZ,List.find?_isSome,List.mem_of_getElem?]
 obtain⟨v,hv⟩:=acK.1 hf;have hg:=dF hs hv;by_cases h2:bV l x<k
 ·obtain⟨h3,h4⟩:=abp.1 hg;obtain⟨h5,h6⟩:=abp.1 hk;have:=adK.1 hs _ _ h3 h5 h2
  grind [l9,cm]
 ·omega
theorem MG{l:List an}{x:ID}{v:an}(hs:cg l)(h:aZ l x=some v)(g f:an→an)(h1:∀w,w.1=x→g w=f w)(h2:∀w,w.1≠x→g w=w):l.map g=l.set (bV l x) (f v):=by
 have hg:=dF hs h;apply adO;intro k;rw[List.getElem?_map,List.getElem?_set];by_cases hk:bV l x=k
 ·subst hk;rw[if_pos rfl,if_pos (List.getElem?_eq_some_iff.1 hg).1,hg]
  grind [l9]
 ·rw[if_neg hk]
  cases hu:l[k]? with
  |none=>rfl
  |some u =>
   grind [k9]
theorem ot{l:List aj}{x:ID}{v:aj}(hs:dv l)(h:ba l x=some v):l[cI l x]? = some v:=by
 grind [Ba,cI,Option.filter]
theorem qM{l:List aj}{x:ID}{v:aj}(h:ba l x=some v):v.1=x:=by simpa using aeG h
theorem Be{l:List aj}{x:ID}{v:aj}(h:ba l x=some v):v∈l:=ado h
theorem Tf{l:List aj}{x:ID}{k:Nat}{u:aj}(hs:dv l)(hk:l[k]? = some u)(hu:u.1=x):k=cI l x:=by
 have h1:¬k<cI l x:=fun h=>by
  have:=(A9 hs k u hk).2 h
  grind [cm]
 have hf:(ba l x).isSome=true:=by
  grind [ba,List.find?_isSome,List.mem_of_getElem?]
 obtain⟨v,hv⟩:=acK.1 hf;have hg:=ot hs hv;by_cases h2:cI l x<k
 ·obtain⟨h3,h4⟩:=abp.1 hg;obtain⟨h5,h6⟩:=abp.1 hk;have:=adK.1 hs _ _ h3 h5 h2
  grind [qM,cm]
 ·omega
theorem WN{l:List aj}{x:ID}{v:aj}(hs:dv l)(h:ba l x=some v)(g f:aj→aj)(h1:∀w,w.1=x→g w=f w)(h2:∀w,w.1≠x→g w=w):l.map g=l.set (cI l x) (f v):=by
 have hg:=ot hs h;apply adO;intro k;rw[List.getElem?_map,List.getElem?_set];by_cases hk:cI l x=k
 ·subst hk;rw[if_pos rfl,if_pos (List.getElem?_eq_some_iff.1 hg).1,hg]
  grind [qM]
 ·rw[if_neg hk]
  cases hu:l[k]? with
  |none=>rfl
  |some u =>
   grind [Tf]
theorem dv.map{l:List aj}(h:dv l){f:aj→aj}(hf:∀v,(f v).1=v.1):dv (l.map f):=by unfold dv at h ⊢;rw[List.pairwise_map];exact h.imp fun {a b} Fc=>by rw[hf,hf];exact Fc
theorem wK{α R:Type}{o:Option α}{a r:Option R}{f:α→Option R}{p:α}(h:o=some p)(k:f p=r):tB o a f=r:=by subst h;exact k
theorem QM{α R:Type}{o:Option α}{a r:Option R}{f:α→Option R}(h:o=none)(k:a=r):tB o a f=r:=by subst h;exact k
def wL(w:aV)(x:ID):Int×aV :=if(ba w.2.1 x).isSome=true then(12,w) else if 40≤w.2.1.length then(3,w) else(0,(w.1,(ib (x,(e0,0)) w.2.1,w.2.2)))
theorem abL(hG:HG G)(w:aV)(x:ID)(hs:dv w.2.1)(hl:w.2.1.length≤50000000):FX G 155 B3 ((x,()),(w,()))=some (((wL w x).1,()),((wL w x).2,())):=by
 refine au (hG _ _ rfl) afY ?_;refine aa (qL hG w x hs hl) ?_;unfold wL
 cases hf:(ba w.2.1 x).isSome
 ·rw[if_neg (by simp)];refine af ((dP hs).trans hf) ?_;by_cases h2:40≤w.2.1.length
  ·rw[if_pos h2];exact ae (decide_eq_true (show((w.2.1.length:Nat):Int)≥40 by omega)) rfl
  ·rw[if_neg h2];refine af (decide_eq_false (show ¬((w.2.1.length:Nat):Int)≥40 by omega)) ?_;have hc:=Kf w.2.1 x;have ly:tC w.2.1 ((cI w.2.1 x:Nat):Int) [((x,(e0,0)):aj)]=true:=by
    grind [tC,decide_eq_true,cI,fits]
   refine ae ly ?_;have e:jz w.2.1 ((cI w.2.1 x:Nat):Int) [((x,(e0,0)):aj)]=ib (x,(e0,0)) w.2.1:=by simp_all [MF,e0,jz]
   exact congrArg (fun l:List aj=>some (((0:Int),()),((w.1,(l,w.2.2)),()))) e
 ·rw[if_pos rfl];exact ae ((dP hs).trans hf) rfl
def Fp(w:aV)(o:bP):Option (Fin 2×Nat) :=if A5 o=true then(if(ba w.2.1 (bK o)).isSome=true then some (⟨1,by decide⟩,cI w.2.1 (bK o)) else none)
 else(if(aZ w.1 (bK o)).isSome=true then some (⟨0,by decide⟩,bV w.1 (bK o)) else none)
theorem ahy(hG:HG G)(w:aV)(o:bP)(hv:cg w.1)(he:dv w.2.1)(T8:w.1.length≤50000000)(hle:w.2.1.length≤50000000) :
  FX G 168 LR ((o,()),(w,()))=some ((Fp w o,(Fp w o,())),(w,())):=by
 refine au (hG _ _ rfl) aga ?_;unfold Fp;by_cases ho:A5 o=true
 ·rw[if_pos ho];refine ae ho ?_;refine aa (qL hG w (bK o) he hle) ?_
  cases hf:ba w.2.1 (bK o) with
  |none =>refine af ((dP he).trans (by rw[hf];rfl)) ?_;rfl
  |some e =>refine ae ((dP he).trans (by rw[hf];rfl)) ?_;have aG:=(abp.1 (ot he hf)).1;refine ae (dw (kl _) (aJ aG)) ?_;exact ae (dw (kl _) (aJ aG)) rfl
 ·rw[if_neg ho];refine af (by simpa using ho) ?_;refine aa (sX hG w (bK o) hv T8) ?_
  cases hf:aZ w.1 (bK o) with
  |none =>refine af ((gY hv).trans (by rw[hf];rfl)) ?_;rfl
  |some e =>refine ae ((gY hv).trans (by rw[hf];rfl)) ?_;have aG:=(abp.1 (dF hv hf)).1;refine ae (dw (kl _) (aJ aG)) ?_;exact ae (dw (kl _) (aJ aG)) rfl
def xJ(w:aV)(o:bP):Int×aV :=if A5 o=true then(if(ba w.2.1 (bK o)).isSome=true then(0,(w.1,(w.2.1.map (xH o),w.2.2))) else(13,w))
 else(if(aZ w.1 (bK o)).isSome=true then(0,(w.1.map (tg o),w.2)) else(13,w))
theorem amE(hG:HG G)(w:aV)(o:bP)(hv:cg w.1)(he:dv w.2.1)(T8:w.1.length≤50000000)(hle:w.2.1.length≤50000000) :
  FX G 118 Vq ((o,()),(w,()))=some (((xJ w o).1,()),((xJ w o).2,())):=by
 refine au (hG _ _ rfl) alW ?_;refine aa (ahy hG w o hv he T8 hle) ?_;by_cases ho:A5 o=true
 ·cases hf:ba w.2.1 (bK o) with
  |none =>
   have e1:Fp w o=none:=by simp_all [Fp,if_pos]
   have e2:xJ w o=(13,w):=by simp_all [xJ,if_pos]
   rw[e2];exact QM e1 (QM e1 rfl)
  |some e =>
   have e1:Fp w o=some (⟨1,by decide⟩,cI w.2.1 (bK o)):=by simp_all [Fp,if_pos]
   have hm:∀f:aj→aj,(∀u,u.1=bK o→xH o u=f u)→w.2.1.map (xH o)=w.2.1.set (cI w.2.1 (bK o)) (f e):=fun f hf1 =>WN he hf (xH o) f hf1 (fun u hu=>by simp_all [xH,if_neg]);have e2:xJ w o=(0,(w.1,(w.2.1.map (xH o),w.2.2))):=by simp_all [xJ,if_pos]
   rw[e2];refine wK e1 (af rfl (ae rfl (wK e1 (af rfl (ae rfl ?_)))));by_cases h7:o.1=7
   ·refine ae (KP h7) (aa (ot he hf) ?_);have:=hm (fun u=>(u.1,(zw o,u.2.2))) (fun u hu=>by simp_all [xH,if_pos]);exact congrArg (fun l:List aj=>some (((0:Int),()),((w.1,(l,w.2.2)),()))) this.symm
   ·refine af (Cj h7) (aa (ot he hf) ?_);have:=hm (fun u=>(u.1,(u.2.1,oN o))) (fun u hu=>by simp_all [xH,if_pos,if_neg]);exact congrArg (fun l:List aj=>some (((0:Int),()),((w.1,(l,w.2.2)),()))) this.symm
 ·have mC:A5 o=false:=by simpa using ho
  cases hf:aZ w.1 (bK o) with
  |none =>
   have e1:Fp w o=none:=by simp_all [Fp,if_neg]
   have e2:xJ w o=(13,w):=by simp_all [xJ,if_neg]
   rw[e2];exact QM e1 (QM e1 rfl)
  |some e =>
   have e1:Fp w o=some (⟨0,by decide⟩,bV w.1 (bK o)):=by simp_all [Fp,if_neg]
   have hm:∀f:an→an,(∀u,u.1=bK o→tg o u=f u)→w.1.map (tg o)=w.1.set (bV w.1 (bK o)) (f e):=fun f hf1 =>MG hv hf (tg o) f hf1 (fun u hu=>by simp_all [tg,if_neg]);have e2:xJ w o=(0,(w.1.map (tg o),w.2)):=by simp_all [xJ,if_neg]
   rw[e2];refine wK e1 (ae rfl (wK e1 (ae rfl ?_)));by_cases h7:o.1=7
   ·refine ae (KP h7) (aa (dF hv hf) ?_);have:=hm (fun u=>(u.1,(u.2.1,(zw o,u.2.2.2)))) (fun u hu=>by simp_all [tg,if_pos]);exact congrArg (fun l:List an=>some (((0:Int),()),((l,w.2),()))) this.symm
   ·refine af (Cj h7) (aa (dF hv hf) ?_);have:=hm (fun u=>(u.1,(u.2.1,(u.2.2.1,oN o)))) (fun u hu=>by simp_all [tg,if_pos,if_neg]);exact congrArg (fun l:List an=>some (((0:Int),()),((l,w.2),()))) this.symm
theorem Fq(hG:HG G)(a b:ag):FX G 73 B7 ((a,b,()),())=some ((kZ a b,()),()):=by
 refine au (hG _ _ rfl) agn ?_;refine aa (Ir hG a.1 b.1) ?_;refine aa (WG hG a.2 b.2) ?_;refine aa (abI (hG _ _ rfl) (sd a.1 b.1) (O5 a.2 b.2)) ?_;refine congrArg (fun n:Int=>some ((n,()),())) ?_;obtain⟨a1,a2⟩:=a;obtain⟨b1,b2⟩:=b;unfold kZ sd O5 kG;simp only[Prod.mk.injEq];by_cases h:a1=b1
 ·subst h;simp only[if_true,cm,Bool.false_or,true_and,decide_true,Bool.true_and]
  grind
 grind
theorem ahz(hG:G 195 nV=none)(row:List ag)(d:ag)(hl:row.length≤1073741824):∀(n i:Nat),i+n=row.length → LX G 195 nV Tryz.f195 yW (aE Tryz.prog 195 0) ((row,(((row.length:Nat):Int),((i:Int),()))),(((d,()),()),()))=some ((idx d (row.drop i) i,()),()):=by
 intro n
 induction n with
 |zero =>intro i hi;refine ak Qn ?_;refine af (decide_eq_false (show ¬((i:Int)<((row.length:Nat):Int)) by omega)) ?_;rw[List.drop_eq_nil_of_le (by omega)];rfl
 |succ n ih =>
  intro i hi;have aG:i<row.length:=by omega
  refine ak Qn ?_;refine ae (aJ aG) (aa (ai (abf aG)) ?_);rw[List.drop_eq_getElem_cons aG,idx];by_cases he:row[i]=d
  ·rw[if_pos he];exact ae ((vY d row[i]).trans (decide_eq_true he.symm)) rfl
  ·rw[if_neg he];refine af ((vY d row[i]).trans (decide_eq_false fun h=>he h.symm)) ?_;rw[wI,aB aG hl];exact ih (i+1) (by omega)
theorem Fs(hG:G 195 nV=none)(row:List ag)(d:ag)(hl:row.length≤1073741824):FX G 195 nV ((row,d,()),())=some ((idx d row 0,()),()):=by refine au hG agh ?_;have:=ahz hG row d hl row.length 0 (by omega);rw[List.drop_zero]at this;exact this
theorem It(hG:HG G)(row:List ag)(d:ag)(hl:row.length≤1073741824):FX G 194 yP ((row,d,()),())=some ((decide (d∈row),()),()):=by
 refine au (hG _ _ rfl) agf ?_;refine aa (Fs (hG _ _ rfl) row d hl) ?_;refine congrArg (fun b:Bool=>some ((b,()),())) ?_;rw[Bool.eq_iff_iff];simp only[decide_eq_true_eq];have:=o9 (d:=d) (row:=row)
 grind
theorem fj(a:ag):kG a a=false:=by unfold kG;simp[cm]
theorem iO{a b c:ag}(h:kG a b=true)(k:kG b c=true):kG a c=true:=by
 grind [kG,fD]
theorem Bf{a b:ag}(h:kG a b=false)(k:a≠b):kG b a=true:=by
 grind [kG,fD]
theorem Kg{a b c:ag}(h:kG a b=true)(k:kG c b=false):kG a c=true:=by
 grind [kG,fD]
theorem mP(a b:ag):kZ a b<0↔kG a b=true:=by
 unfold kZ;by_cases h:a=b
 ·grind [fj]
 grind
theorem so{row:List ag}{k:Nat}(hk:k<row.length):row.getD k zD=row[k]:=by simp_all
theorem Bg(row:List ag):∀(r:List ag) (i k:Nat),row.drop i=r→k<row.length→k≤i→(∀j,j<i→(hj:j<row.length)→kG row[j] (row.getD k zD)=false)→(∀j,j<k→(hj:j<row.length)→kG (row.getD k zD) row[j]=true) →(∀j,(hj:j<row.length)→kG row[j] (row.getD (ia row r i k) zD)=false)∧(∀j,j<ia row r i k→(hj:j<row.length)→kG (row.getD (ia row r i k) zD) row[j]=true)
 |[],i,k,hr,hk,hki,h1,h2=>by
  have hi:row.length≤i:=by simp_all
  exact⟨fun j hj=>h1 j (by omega) hj,h2⟩
 |x::r,i,k,hr,hk,hki,h1,h2=>by
  have hi:i<row.length:=by have:=congrArg List.length hr;grind
  have hx:row[i]=x:=by
   grind [List.drop_eq_getElem_cons]
  have uU:row.drop (i+1)=r:=by
   grind [List.drop_eq_getElem_cons]
  unfold ia
  split
  ·rename_i aG;rw[mP]at aG;refine Bg row r (i+1) i uU hi (by omega) (fun j hj GH=>?_) (fun j hj GH=>?_)
   ·rw[so hi,hx];rcases Nat.lt_succ_iff_lt_or_eq.1 hj with hj|rfl
    ·grind [kG,iO]
    ·rw[hx,fj]
   grind [so,Kg]
  ·rename_i aG;rw[mP]at aG;refine Bg row r (i+1) k uU hk (by omega) (fun j hj GH=>?_) h2
   grind
theorem xK{row:List ag}(h:0<row.length):(∀j,(hj:j<row.length)→kG row[j] (row.getD (ia row row 0 0) zD)=false)∧(∀j,j<ia row row 0 0→(hj:j<row.length)→kG (row.getD (ia row row 0 0) zD) row[j]=true) :=Bg row row 0 0 rfl h (abX _) (fun j hj=>by omega) (fun j hj=>by omega)
theorem O7{d:ag}:∀{row:List ag} {k:Nat} {i:Int},row[k]? = some d→(∀j,j<k→row[j]?≠some d)→idx d row i=i+k
 |[],k,i,h,_=>by simp at h
 |e::r,0,i,h,_=>by simp at h;subst h;rw[idx,if_pos rfl];simp
 |e::r,k+1,i,h,hn=>by have h0:=hn 0 (by omega);rw[idx,if_neg (fun e=>h0 (by simp[e]))];rw[O7 (k:=k) (by simpa using h) (fun j hj=>by have:=hn (j+1) (by omega);simpa using this)];simp;omega
theorem WO{row:List ag}(h:0<row.length):idx (row.getD (ia row row 0 0) zD) row 0=((ia row row 0 0:Nat):Int):=by
 grind [sf,O7,ia,zD,so,List.getElem?_eq_getElem,List.getElem?_eq_some_iff,xK,fj]
theorem WQ(hG:HG G)(row:List ag)(h:0<row.length)(hl:row.length≤100000000):FX G 74201 lS ((row,()),())=some ((row.getD (ia row row 0 0) zD,()),()):=by
 refine au (hG _ _ rfl) We ?_;refine af (decide_eq_false (show ¬((row.length:Nat):Int)<1 by omega)) ?_;refine aa (ai (i:=0) (abf h)) ?_;have loop:∀(n i k:Nat),i+n=row.length→k<row.length→LX G 74201 lS Tryz.f201 kV (aE Tryz.prog 201 0) ((row,((i:Int),())),(((zD,()),(((row.getD k zD),()),())),()))=some ((row.getD (ia row (row.drop i) i k) zD,()),()):=by
  intro n
  induction n with
  |zero =>intro i k hi hk;refine ak E5 ?_;refine af (decide_eq_false (show ¬((i:Int)<((row.length:Nat):Int)) by omega)) ?_;rw[List.drop_eq_nil_of_le (by omega)];rfl
  |succ n ih =>
   intro i k hi hk;have aG:i<row.length:=by omega
   have hx:row[i]? = some row[i]:=abf aG;refine ak E5 ?_;refine ae (aJ aG) (aa (ai hx) ?_);refine aa (Fq hG row[i] (row.getD k zD)) ?_;rw[List.drop_eq_getElem_cons aG,ia];by_cases ho:kZ row[i] (row.getD k zD)<0
   ·rw[if_pos ho];refine ae (decide_eq_true ho) (aa (ai hx) ?_);have:=ih (i+1) i (by omega) aG;rw[←aB aG (by omega),so aG]at this;exact this
   ·rw[if_neg ho];refine af (decide_eq_false ho) ?_;have:=ih (i+1) k (by omega) hk;rw[←aB aG (by omega)]at this;exact this
 have h1:=loop (row.length-1) 1 0 (by omega) h;have h2:ia row row 0 0=ia row (row.drop 1) 1 0:=by
  cases row with
  |nil=>simp at h
  |cons x r =>simp_all [List.drop_one,List.tail_cons,ia,if_neg,kZ]
 rw[h2];have h3:row.getD 0 zD=row[0]:=so h;rw[h3]at h1;exact h1
def total(ls:List (List ag)):Nat:=(ls.map List.length).sum
theorem Ft(a:List ag)(r:List (List ag)):total (a::r)=a.length+total r:=by rfl
theorem abM(hG:HG G)(ls:List (List ag))(hn:ls.length≤1000)(hl:total ls≤500000000):FX G 202 qx ((ls,()),())=some ((ls.flatten,()),()):=by
 refine au (hG _ _ rfl) ago ?_;have uu:∀(n i:Nat) (out:List ag),i+n=ls.length→out.length+total (ls.drop i)≤500000000→LX G 202 qx Tryz.f202 yZ (aE Tryz.prog 202 1) ((ls,(((ls.length:Nat):Int),((i:Int),()))),((),(out,())))=some ((out++(ls.drop i).flatten,()),()):=by
  intro n
  induction n with
  |zero =>intro i out hi ho;refine ak Qp ?_;refine af (decide_eq_false (show ¬((i:Int)<((ls.length:Nat):Int)) by omega)) ?_;rw[List.drop_eq_nil_of_le (by omega),List.flatten_nil,List.append_nil];rfl
  |succ n ih =>
   intro i out hi ho;have aG:i<ls.length:=by omega
   rw[List.drop_eq_getElem_cons aG]at ho ⊢;have mC:out.length+(ls[i].length+total (ls.drop (i+1)))≤500000000:=by
    grind [total,Ft]
   refine ak Qp ?_;refine ae (aJ aG) (aa (ai (abf aG)) ?_);refine ae (fits (show out.length+ls[i].length≤1073741824 by omega)) ?_;have:=ih (i+1) (out++ls[i]) (by omega) (by grind);rw[List.flatten_cons,←List.append_assoc];rw[←aB aG (by omega)]at this;exact this
 have ux:∀(n i m:Nat),i+n=ls.length→m+total (ls.drop i)=total ls→LX G 202 qx Tryz.f202 yY (aE Tryz.prog 202 0) ((ls,((m:Int),(ls,(((ls.length:Nat):Int),((i:Int),()))))),((),()))=some ((ls.flatten,()),()):=by
  intro n
  induction n with
  |zero =>
   intro i m hi hm;refine ak Qo ?_;refine af (decide_eq_false (show ¬((i:Int)<((ls.length:Nat):Int)) by omega)) ?_;have hg:DC (m:Int)=true:=by
    grind [DC,decide_eq_true,fH]
   refine ae hg ?_;have:=uu ls.length 0 [] (by omega) (by simp_all);rw[List.drop_zero,List.nil_append]at this;exact this
  |succ n ih =>
   intro i m hi hm;have aG:i<ls.length:=by omega
   have UC:m+ls[i].length+total (ls.drop (i+1))=total ls:=by
    rw[List.drop_eq_getElem_cons aG]at hm
    grind [total,Ft]
   refine ak Qo ?_;refine ae (aJ aG) (aa (ai (abf aG)) ?_);have hw:IntKind.wrap .i64 ((m:Int)+((ls[i].length:Nat):Int))=((m+ls[i].length:Nat):Int):=by rw[wrap_small (by omega) (by omega)];rfl
   refine af (decide_eq_false (show ¬IntKind.wrap .i64 ((m:Int)+((ls[i].length:Nat):Int))<0 by rw[hw];omega)) ?_;have:=ih (i+1) (m+ls[i].length) (by omega) UC;rw[←aB aG (by omega),←hw]at this;exact this
 exact ux ls.length 0 0 (by omega) (by simp_all)
theorem Dd{α:Type}(xs:List α){k:Nat}(hk:k≤xs.length):cut xs (k:Int) ((xs.length:Nat):Int)=xs.drop k:=by simp_all [cut,Int.toNat_natCast,List.take_of_length_le,Nat.le_refl]
theorem vE{α:Type}(xs:List α)(k:Nat):cut xs 0 (k:Int)=xs.take k:=by rfl
theorem Kh{n k:Nat}(h:k≤n):aq n (k:Int) ((n:Nat):Int)=true:=by grind [aq]
theorem zx{n k:Nat}(h:k≤n):aq n 0 (k:Int)=true:=by grind [aq]
theorem zy(hG:HG G)(row:List ag)(hl:row.length≤100000000):FX G 167 sQ ((row,()),())=some ((cZ row,()),()):=by
 refine au (hG _ _ rfl) af9 ?_;by_cases h0:row.length=0
 ·refine ae (show(((row.length:Nat):Int)==0)=true by simp[h0]) ?_;have:row=[]:=by simpa using h0
  subst this;rfl
 refine af (show(((row.length:Nat):Int)==0)=false by rw[beq_eq_false_iff_ne];omega) ?_;have hp:0<row.length:=by omega
 have hm:=sf row row 0 0 hp (by omega);refine aa (WQ hG row hp hl) ?_;refine aa (Fs (hG _ _ rfl) row (row.getD (ia row row 0 0) zD) (by omega)) ?_;rw[WO hp];refine ae (Kh (n:=row.length) (k:=ia row row 0 0) (by omega)) (ae (zx (n:=row.length) (k:=ia row row 0 0) (by omega)) ?_);have key:∀a b:List ag,a=row.drop (ia row row 0 0)→b=row.take (ia row row 0 0)→((FX G 202 qx (([a,b],()),())).bind fun(y3:(((List ag)×Unit)×Unit))=>some (y3.1,()))=some ((cZ row,()),()):=by intro a b ha hb;subst ha hb;refine aa (abM hG [row.drop (ia row row 0 0),row.take (ia row row 0 0)] (by simp) (by unfold total;simp;omega)) ?_;unfold cZ Gv;simp only[List.flatten_cons,List.flatten_nil,List.append_nil]
 exact key _ _ (Dd row (by omega)) (vE row _)
theorem WR(hG:HG G)(ls:List (List ag))(hn:ls.length≤1000)(hl:total ls≤100000000):FX G 196 qw ((ls,()),())=some ((cZ ls.flatten,()),()):=by
 refine au (hG _ _ rfl) agi ?_;refine aa (abM hG ls hn (by omega)) ?_;have hlen:ls.flatten.length=total ls:=by unfold total;simp_all
 exact aa (zy hG ls.flatten (by omega)) rfl
theorem WS(hG:HG G)(row:List ag)(after d:ag)(hl:row.length≤50000000):FX G 158 EC ((row,after,d,()),())=some ((uk row after d,()),()):=by
  refine au (hG _ _ rfl) af0 ?_;refine aa (It hG row d (by omega)) ?_;unfold uk;by_cases hd:d∈row
  · rw[if_pos hd]
    exact ae (decide_eq_true hd) (aa (zy hG row (by omega)) rfl)
  rw[if_neg hd];refine af (decide_eq_false hd) ?_;refine aa (Fs (hG _ _ rfl) row after (by omega)) ?_;have hr:idx after row 0<((row.length:Nat):Int)∨row.length=0∧idx after row 0 = -1:=by
    grind [vA,List.getElem?_eq_some_iff]
  have hm:max (idx after row 0) (0:Int)=max 0 (idx after row 0):=by omega
  have hw:IntKind.wrap .i64 (max (idx after row 0) (0:Int)+1)=(((max 0 (idx after row 0)).toNat+1:Nat):Int):=by
    grind [wrap_small]
  obtain⟨k,hk,sL,T9⟩:∃k:Nat,min (IntKind.wrap .i64 (max (idx after row 0) (0:Int)+1)) ((row.length:Nat):Int)=(k:Int)∧k≤row.length∧row.take k++(d::row.drop k)=row.take ((max 0 (idx after row 0)).toNat+1)++(d::row.drop ((max 0 (idx after row 0)).toNat+1)):=by
    rw[hw];by_cases h0:row.length=0
    · have:row=[]:=by simpa using h0
      subst this;exact⟨0,by simp;omega,by simp,by simp⟩
    grind
  have uh:(min (IntKind.wrap .i64 ((max (idx after row 0) (0:Int):Int)+(1:Int))) (((List.length row):Nat):Int):Int)=(k:Int):=hk;show cond (aq (List.length row) (0:Int) (min (IntKind.wrap .i64 ((max (idx after row 0) (0:Int):Int)+(1:Int))) (((List.length row):Nat):Int):Int)) (cond (aq (List.length row) (min (IntKind.wrap .i64 ((max (idx after row 0) (0:Int):Int)+(1:Int))) (((List.length row):Nat):Int):Int) (((List.length row):Nat):Int)) ((FX G 196 qw ((((cut row (0:Int) (min (IntKind.wrap .i64 ((max (idx after row 0) (0:Int):Int)+(1:Int))) (((List.length row):Nat):Int):Int))::([d]::((cut row (min (IntKind.wrap .i64 ((max (idx after row 0) (0:Int):Int)+(1:Int))) (((List.length row):Nat):Int):Int) (((List.length row):Nat):Int))::([]:List (List ag))))),()),())).bind fun(y4:(((List ag)×Unit)×Unit)) =>some (y4.1,())) (none)) (none)=_;rw[uh];refine ae (zx sL) (ae (Kh sL) ?_);have key:∀a b R:List ag,a=row.take k→b=row.drop k→R=cZ (row.take k++(d::row.drop k))→((FX G 196 qw (([a,[d],b],()),())).bind fun(y3:(((List ag)×Unit)×Unit))=>some (y3.1,()))=some ((R,()),()):=by intro a b R ha hb hR;subst ha hb hR;refine aa (WR hG [row.take k,[d],row.drop k] (by simp) (by grind [total])) ?_;simp_all
  exact key _ _ _ (vE row k) (Dd row sL) (by rw[T9])
theorem Bh{row:List ag}{d:ag}{k:Nat}(hn:row.Nodup)(hk:row[k]? = some d):row.filter (fun e=>decide (e≠d))=row.take k++row.drop (k+1):=by
 obtain⟨h1,h2⟩:=abp.1 hk
 conv=>lhs;rw[←List.take_append_drop k row,List.drop_eq_getElem_cons h1,h2]
 have RS:(row.take k++(d::row.drop (k+1))).Nodup:=by rw[←h2,←List.drop_eq_getElem_cons h1,List.take_append_drop];exact hn
 have h3:=adz.1 RS;have h4:=acC.1 h3.2.1;rw[List.filter_append,List.filter_cons_of_neg (by simp)];congr 1
 ·rw[List.filter_eq_self];intro a ha;have:=h3.2.2 a ha d (by simp);simpa using this
 ·rw[List.filter_eq_self];intro a ha;have:a≠d:=fun e=>h4.1 (e▸ha);simpa using this
theorem abN(hG:HG G)(row:List ag)(d:ag)(hn:row.Nodup)(hl:row.length≤50000000):FX G 163 LQ ((row,d,()),())=some ((j0 row d,()),()):=by
 refine au (hG _ _ rfl) af6 ?_;refine aa (Fs (hG _ _ rfl) row d (by omega)) ?_;unfold j0;by_cases hd:d∈row
 ·obtain⟨k,h1,h2,h3⟩:=jo hd;have aG:=(abp.1 h2).1;rw[Bh hn h2];show cond (decide (idx d row 0<0)) _ (cond (aq row.length 0 (idx d row 0)) (cond (aq row.length (IntKind.wrap .i64 (idx d row 0+1)) ((row.length:Nat):Int)) ((FX G 196 qw (([cut row 0 (idx d row 0),cut row (IntKind.wrap .i64 (idx d row 0+1)) ((row.length:Nat):Int)],()),())).bind fun(y3:(((List ag)×Unit)×Unit))=>some (y3.1,())) none) none)=_;rw[h1,aB aG (by omega)];refine af (decide_eq_false (by omega)) (ae (zx (by omega)) (ae (Kh (by omega)) ?_));have key:∀a b:List ag,a=row.take k→b=row.drop (k+1)→((FX G 196 qw (([a,b],()),())).bind fun(y3:(((List ag)×Unit)×Unit))=>some (y3.1,()))=some ((cZ (row.take k++row.drop (k+1)),()),()):=by intro a b ha hb;subst ha hb;refine aa (WR hG [row.take k,row.drop (k+1)] (by simp) (by grind [total])) ?_;simp_all
  exact key _ _ (vE row k) (Dd row (by omega))
 ·have h1:=o9.2 hd;refine ae (decide_eq_true h1) (aa (zy hG row (by omega)) ?_);refine congrArg (fun l:List ag=>some ((l,()),())) ?_
  grind [List.filter_eq_self]
theorem abO(hG:HG G)(row:List ag)(dJ d:ag)(hl:row.length≤50000000):FX G 165 wD ((row,dJ,d,()),())=some ((oc row dJ d,()),()):=by
 refine au (hG _ _ rfl) af7 ?_;refine aa (Fs (hG _ _ rfl) row dJ (by omega)) ?_;unfold oc;by_cases ho:dJ∈row
 ·obtain⟨k,h1,h2,h3⟩:=jo ho;have aG:=(abp.1 h2).1;refine af (decide_eq_false (show ¬idx dJ row 0<0 by omega)) ?_;refine aa (It hG row d (by omega)) ?_;by_cases hd:d∈row
  ·rw[if_neg (fun h=>h.2 hd)];exact ae (decide_eq_true hd) (aa (zy hG row (by omega)) rfl)
  rw[if_pos ⟨ho,hd⟩];refine af (decide_eq_false hd) ?_;show cond (aq row.length 0 (idx dJ row 0)) (cond (aq row.length (IntKind.wrap .i64 (idx dJ row 0+1)) ((row.length:Nat):Int)) ((FX G 196 qw (([cut row 0 (idx dJ row 0),[d],cut row (IntKind.wrap .i64 (idx dJ row 0+1)) ((row.length:Nat):Int)],()),())).bind fun(y3:(((List ag)×Unit)×Unit))=>some (y3.1,())) none) none=_;rw[h1,aB aG (by omega)];refine ae (zx (by omega)) (ae (Kh (by omega)) ?_);have key:∀a b R:List ag,a=row.take k→b=row.drop (k+1)→R=cZ (row.set ((k:Int)).toNat d)→((FX G 196 qw (([a,[d],b],()),())).bind fun(y3:(((List ag)×Unit)×Unit))=>some (y3.1,()))=some ((R,()),()):=by intro a b R ha hb hR;subst ha hb hR;refine aa (WR hG [row.take k,[d],row.drop (k+1)] (by simp) (by grind [total])) ?_;simp_all [congrArg,ag,Int.toNat_natCast,List.set_eq_take_append_cons_drop,if_pos]
  exact key _ _ _ (vE row k) (Dd row (by omega)) rfl
 ·have h1:=o9.2 ho;rw[if_neg (fun h=>ho h.1)];exact ae (decide_eq_true h1) (aa (zy hG row (by omega)) rfl)
theorem ahA(hG:HG G)(row:List ag)(d:ag)(hl:row.length≤100000000):FX G 200 H3 ((row,d,()),())=some (QH (fR row d (row.length-1)),()):=by
 refine au (hG _ _ rfl) agm ?_;have key:FX G 221 EH ((row,(d,((IntKind.wrap .i64 (((row.length:Nat):Int)-1)),()))),())=some (QH (fR row d (row.length-1)),()):=by
  refine au (hG _ _ rfl) abz ?_;refine aa (Fs (hG _ _ rfl) row d (by omega)) ?_;unfold fR;by_cases hd:d∈row
  ·rw[if_pos hd];obtain⟨k,h1,h2,h3⟩:=jo hd;have aG:=(abp.1 h2).1;refine af (decide_eq_false (show ¬idx d row 0<0 by omega)) ?_;refine af (O3 hd) ?_;have hw:IntKind.wrap .i64 (((row.length:Nat):Int)-1)=((row.length-1:Nat):Int):=by grind [wrap_small]
   have ZA:IntKind.wrap .i64 (idx d row 0+IntKind.wrap .i64 (((row.length:Nat):Int)-1))=((k+(row.length-1):Nat):Int):=by
    grind [wrap_small]
   have ady:(k+(row.length-1))%row.length<row.length:=aeM _ (by omega);have hx:=abf ady;refine aa (show aP row (Int.tmod (IntKind.wrap .i64 (idx d row 0+IntKind.wrap .i64 (((row.length:Nat):Int)-1))) ((row.length:Nat):Int))=some row[(k+(row.length-1))%row.length] by rw[ZA,zt];exact ai hx) ?_;rw[h1,Int.toNat_natCast,hx];rfl
  ·rw[if_neg hd];exact ae (decide_eq_true (o9.2 hd)) rfl
 refine aa key ?_;rfl
end Go.Vs
