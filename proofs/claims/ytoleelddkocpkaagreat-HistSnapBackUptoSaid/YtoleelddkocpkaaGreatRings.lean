/- What the program computes at -/
import Derived.Test.YtoleelddkocpkaaGreatPlaces
set_option linter.unusedVariables false
set_option linter.unusedSimpArgs false
namespace Go.Vs
open Go.Proofs
variable {G:(f:FuncId)→(g:aO)→Option (g.A→Option g.B)}
theorem get_at{s:ByteArray}{i:Nat}{c:UInt8}(h:s.data.toList[i]? = some c):s.get! i=c:=by
 have hi:i<s.data.size:=by grind
 have h2:=(abC.1 h).2;show s.data[i]! = c;simp_all
theorem RW{s:ByteArray}{i:Nat}(h:(s.get! i).toNat<128):Utf8.decode s i=((s.get! i).toNat,1):=by simp_all [Utf8.decode,Nat.add_zero,if_pos]
theorem RX{s:ByteArray}{i:Nat}(h:¬(s.get! i).toNat<128):128≤(Utf8.decode s i).1:=by
 unfold Utf8.decode;simp only[Nat.add_zero];rw[if_neg h]
 repeat' split
 all_goals first|(simp_all only[Bool.and_eq_true,decide_eq_true_eq];omega)|decide|omega
theorem al5(hG:G 141 xw=none)(s:ByteArray)(hs:s.size≤100000000):∀(n i:Nat),i+n=s.size → LX G 141 xw Tryz.f141 zy (aK Tryz.prog 141 0) ((s,()),((),((s,i),())))=some ((((s.data.toList.drop i).all lP&&decide (s.size≤16),()),()):(Bool×Unit)×Unit):=by
 have hl:s.data.toList.length=s.size:=by simp
 intro n
 induction n with
 |zero =>
  intro i hi;refine ar Vi ?_;refine af (decide_eq_false (show ¬(i<s.size) by omega)) ?_;refine congrArg (fun b:Bool=>some ((b,()),())) ?_
  grind
 |succ n ih =>
  intro i hi;have aN:i<s.data.toList.length:=by omega
  have hx:s.data.toList[i]? = some s.data.toList[i]:=aa8 aN;generalize s.data.toList[i]=c at hx;have hd:s.data.toList.drop i=c::s.data.toList.drop (i+1):=by
   grind [List.drop_eq_getElem_cons,List.getElem?_eq_getElem]
  have hg:=get_at hx;refine ar Vi ?_;refine ae (decide_eq_true (show i<s.size by omega)) ?_;show cond (decide (qA s i<32)) _ (cond (decide (qA s i>126)) _ (LX G 141 xw Tryz.f141 zy (aK Tryz.prog 141 0) ((s,()),((),((s,i+Ci s i),())))))=_;rw[hd,List.all_cons];by_cases h1:c.toNat<128
  ·have hr:Utf8.decode s i=(c.toNat,1):=by grind [RW]
   have hr1:qA s i=(c.toNat:Int):=by grind [qA]
   have Rn:Ci s i=1:=by grind [Ci]
   rw[hr1,Rn];by_cases h2:c.toNat<32
   ·refine ae (decide_eq_true (by omega)) ?_;have:lP c=false:=by grind [lP]
    rw[this];rfl
   refine af (decide_eq_false (by omega)) ?_;by_cases h3:126<c.toNat
   ·refine ae (decide_eq_true (by omega)) ?_;have:lP c=false:=by grind [lP]
    rw[this];rfl
   refine af (decide_eq_false (by omega)) ?_;have:lP c=true:=by grind [lP]
   rw[this,Bool.true_and];exact ih (i+1) (by omega)
  ·have h2:=RX (s:=s) (i:=i) (by simp_all);have hr1:128≤qA s i:=by unfold qA;omega
   refine af (decide_eq_false (by omega)) (ae (decide_eq_true (by omega)) ?_);have:lP c=false:=by grind [lP]
   rw[this];rfl
theorem agr(hG:G 141 xw=none)(s:ByteArray)(hs:s.size≤100000000):FX G 141 xw ((s,()),())=some ((kL s,()),()):=by refine av hG ak6 ?_;have:=al5 hG s hs s.size 0 (by omega);rw[List.drop_zero]at this;exact this
theorem ags(hG:G 143 IH=none)(n:Int):FX G 143 IH ((n,()),())=some ((jM n,()),()):=by
 refine av hG ak7 ?_;show(cond (decide (n≥-1099511627776)) (some ((decide (n≤1099511627776),()),())) (some ((false,()),())):Option ((Bool×Unit)×Unit))=some ((jM n,()),())
 grind [jM]
def RY(n:Int):Prop := -9223372036854775808≤n∧n<9223372036854775808
theorem VS(x:BitVec 64):IntKind.wrap .i64 ((x.toNat:Nat):Int)=x.toInt:=by
 grind [IntKind.wrap,IntKind.bits,IntKind.signed,BitVec.toInt_eq_toNat_cond]
theorem ofInt_toInt{n:Int}(h:RY n):(BitVec.ofInt 64 n).toInt=n:=by
 grind [RY,BitVec.toInt_ofInt,Int.bmod_eq_of_le]
theorem Y3{n:Int}(h:RY n):(cH .andNot .i64 n 3==(0:Int))=decide (0≤n∧n≤3):=by
 have e:cH .andNot .i64 n 3=(BitVec.ofInt 64 n &&& ~~~(BitVec.ofInt 64 3)).toInt:=by unfold cH;exact VS _
 rw[e,Bool.eq_iff_iff];simp only[beq_iff_eq,decide_eq_true_eq];generalize hx:BitVec.ofInt 64 n=x;have hn:=ofInt_toInt h;rw[hx]at hn;have h1:(x &&& ~~~(BitVec.ofInt 64 3)).toInt=0↔(x &&& ~~~(BitVec.ofInt 64 3))=0#64:=by
  constructor
  ·intro h;exact BitVec.eq_of_toInt_eq (by rw[h];rfl)
  simp_all
 rw[h1,←hn];constructor
 ·intro h;have h2:x=x &&& 3#64:=by
   have h3:x=(x &&& ~~~(BitVec.ofInt 64 3)) ||| (x &&& 3#64):=by
    ext i hi;simp only[BitVec.getElem_or,BitVec.getElem_and,BitVec.getElem_not]
    grind
   grind
  grind [BitVec.toNat_and,Nat.and_le_right,BitVec.toInt_eq_toNat_cond]
 ·intro h;have h4:x.toNat≤3:=by rw[BitVec.toInt_eq_toNat_cond]at h;omega
  have h5:x=0#64∨x=1#64∨x=2#64∨x=3#64:=by
   have:x.toNat=0∨x.toNat=1∨x.toNat=2∨x.toNat=3:=by omega
   grind
  grind
theorem Y4{n:Int}(h:RY n):(cH .andNot .i64 n 1==(0:Int))=decide (n=0∨n=1):=by
 have e:cH .andNot .i64 n 1=(BitVec.ofInt 64 n &&& ~~~(BitVec.ofInt 64 1)).toInt:=by unfold cH;exact VS _
 rw[e,Bool.eq_iff_iff];simp only[beq_iff_eq,decide_eq_true_eq];generalize hx:BitVec.ofInt 64 n=x;have hn:=ofInt_toInt h;rw[hx]at hn;have h1:(x &&& ~~~(BitVec.ofInt 64 1)).toInt=0↔(x &&& ~~~(BitVec.ofInt 64 1))=0#64:=by
  constructor
  ·intro h;exact BitVec.eq_of_toInt_eq (by rw[h];rfl)
  simp_all
 rw[h1,←hn];constructor
 ·intro h;have h2:x=x &&& 1#64:=by
   have h3:x=(x &&& ~~~(BitVec.ofInt 64 1)) ||| (x &&& 1#64):=by
    ext i hi;simp only[BitVec.getElem_or,BitVec.getElem_and,BitVec.getElem_not]
    grind
   grind
  grind
 grind
theorem VT(hG:HG G)(d:ab)(h:RY d.2):FX G 72 Dn ((d,()),())=some ((kK d,()),()):=by
 refine av (hG _ _ rfl) aeK ?_;refine aa (LG (hG _ _ rfl) d.1) ?_;unfold kK
 cases cd d.1
 ·rfl
 ·exact ae rfl (congrArg (fun b:Bool=>some ((b,()),())) (Y4 h))
theorem agt(hG:HG G)(c:rN)(h:RY c.2.2):FX G 151 FC ((c,()),())=some ((BB c,()),()):=by
 refine av (hG _ _ rfl) ak5 ?_;refine aa (LG (hG _ _ rfl) c.1) ?_;unfold BB
 cases cd c.1
 ·rfl
 refine ae rfl ?_;have hb:(((c.2.1.1==(0:Int))&&(c.2.1.2==(0:Int)))&&(c.2.2==(0:Int)))=decide (c.2=zD):=lO c.2 zD;by_cases hz:c.2=zD
 ·refine ae (hb.trans (decide_eq_true hz)) ?_;rw[decide_eq_true hz,Bool.or_true];rfl
 ·refine af (hb.trans (decide_eq_false hz)) ?_;refine aa (VT hG c.2 h) ?_;rw[decide_eq_false hz,Bool.or_false];rfl
structure Fit(o:br):Prop where
 a:RY (oA o).2.2
 b:RY (oB o).2.2
 n:RY (oN o)
 t:tu o
def Eg(o:br):br :=if o.1=6 then(o.1,(bf o,(zI,(bD o,(zC,(zC,(false,(e0,0))))))))
 else if o.1=3 then(o.1,(bf o,(zI,(zI,(oA o,(oB o,(false,(e0,0))))))))
 else if o.1=5 then(o.1,(bf o,(fG o,(bD o,(zC,(zC,(false,(e0,oN o))))))))
 else if o.1=7 then(o.1,(bf o,(zI,(zI,(zC,(zC,(rj o,(p6 o,0))))))))
 else if o.1=8 then(o.1,(bf o,(zI,(zI,(zC,(zC,(rj o,(e0,oN o))))))))
 else(o.1,(bf o,(zI,(zI,(zC,(zC,(false,(e0,0))))))))
def I9(o:br):Int :=if o.1=6 then(if cd (bf o)=true∧cd (bD o)=true then 0 else 1)
 else if o.1=3 then(if cd (bf o)=true∧BB (oA o)=true∧BB (oB o)=true then 0 else 1)
 else if o.1=5 then(if cd (bf o)=true∧cd (fG o)=true∧cd (bD o)=true∧0≤oN o∧oN o≤3 then 0 else 1)
 else if o.1=7 then(if cd (bf o)=true then(if kL (p6 o)=true then 0 else 4) else 1)
 else if o.1=8 then(if cd (bf o)=true∧jM (oN o)=true then 0 else 1)
 else if o.1=1∨o.1=2∨o.1=4 then(if cd (bf o)=true then 0 else 1)
 else 1
theorem JI{o:br}{k:Int}(h:o.1=k):(o.1==k)=true:=by simp[h]
theorem Ba{o:br}{k:Int}(h:¬o.1=k):(o.1==k)=false:=by simp[h]
theorem al6(hG:HG G)(o:br)(hf:Fit o):FX G 108 Ux ((o,()),())=some ((Eg o,(I9 o,())),()):=by
 refine av (hG _ _ rfl) akM ?_;refine aa (LG (hG _ _ rfl) (bf o)) ?_;unfold Eg I9;by_cases h1:o.1=1
 ·refine ae (JI h1) (ae (JI h1) ?_);rw[if_neg (by omega),if_neg (by omega),if_neg (by omega),if_neg (by omega),if_neg (by omega),if_neg (by omega),if_neg (by omega),if_neg (by omega),if_neg (by omega),if_neg (by omega),if_pos (by omega)]
  cases cd (bf o)<;>rfl
 refine af (Ba h1) ?_;by_cases h2:o.1=2
 ·refine ae (JI h2) (ae (JI h2) ?_);rw[if_neg (by omega),if_neg (by omega),if_neg (by omega),if_neg (by omega),if_neg (by omega),if_neg (by omega),if_neg (by omega),if_neg (by omega),if_neg (by omega),if_neg (by omega),if_pos (by omega)]
  cases cd (bf o)<;>rfl
 refine af (Ba h2) ?_;by_cases h4:o.1=4
 ·refine ae (JI h4) ?_;rw[if_neg (by omega),if_neg (by omega),if_neg (by omega),if_neg (by omega),if_neg (by omega),if_neg (by omega),if_neg (by omega),if_neg (by omega),if_neg (by omega),if_neg (by omega),if_pos (by omega)]
  cases cd (bf o)<;>rfl
 refine af (Ba h4) ?_;by_cases h6:o.1=6
 ·refine ae (JI h6) ?_;rw[if_pos h6,if_pos h6]
  cases cd (bf o)
  ·rfl
  refine ae rfl (aa (LG (hG _ _ rfl) (bD o)) ?_)
  cases cd (bD o)<;>rfl
 refine af (Ba h6) ?_;rw[if_neg h6,if_neg h6];by_cases h3:o.1=3
 ·refine ae (JI h3) ?_;rw[if_pos h3,if_pos h3]
  cases cd (bf o)
  ·rfl
  refine ae rfl (aa (agt hG (oA o) hf.a) ?_)
  cases BB (oA o)
  ·rfl
  refine ae rfl (aa (agt hG (oB o) hf.b) ?_)
  cases BB (oB o)<;>rfl
 refine af (Ba h3) ?_;rw[if_neg h3,if_neg h3];by_cases h5:o.1=5
 ·refine ae (JI h5) ?_;rw[if_pos h5,if_pos h5]
  cases cd (bf o)
  ·rfl
  refine ae rfl (aa (LG (hG _ _ rfl) (fG o)) ?_)
  cases cd (fG o)
  ·rfl
  refine ae rfl (aa (LG (hG _ _ rfl) (bD o)) ?_)
  cases cd (bD o)
  ·rfl
  refine ae rfl (bA (Y3 hf.n) ?_);by_cases h:0≤oN o∧oN o≤3
  ·rw[decide_eq_true h,if_pos ⟨rfl,rfl,rfl,h⟩];rfl
  ·rw[decide_eq_false h,if_neg (fun k=>h k.2.2.2)];rfl
 refine af (Ba h5) ?_;rw[if_neg h5,if_neg h5];by_cases h7:o.1=7
 ·refine ae (JI h7) ?_;rw[if_pos h7,if_pos h7];refine aa (agr (hG _ _ rfl) (p6 o) hf.t) ?_
  cases kL (p6 o)<;>cases cd (bf o)<;>rfl
 refine af (Ba h7) ?_;rw[if_neg h7,if_neg h7];by_cases h8:o.1=8
 ·refine ae (JI h8) ?_;rw[if_pos h8,if_pos h8]
  cases cd (bf o)
  ·rfl
  refine ae rfl (aa (ags (hG _ _ rfl) (oN o)) ?_)
  cases jM (oN o)<;>rfl
 refine af (Ba h8) ?_;rw[if_neg h8,if_neg h8,if_neg (by omega)];rfl
theorem RZ(o:br)(h1:1≤o.1)(h8:o.1≤8):BC (Eg o) o=BC (yg o) zOp:=by
 rw[Bool.eq_iff_iff,LB,LB];obtain⟨k,i,n,m,⟨a1,a2⟩,⟨b1,b2⟩,f,t,q⟩:=o;simp only at h1 h8;unfold Eg yg zOp;have:k=1∨k=2∨k=3∨k=4∨k=5∨k=6∨k=7∨k=8:=by omega
 rcases this with rfl|rfl|rfl|rfl|rfl|rfl|rfl|rfl<;>simp only[Int.reduceEq,if_true,if_false]<;>constructor<;>intro h<;>simp only[zC,Prod.mk.injEq,true_and,and_true]at h ⊢<;>grind
theorem al7(hG:HG G)(o:br)(hf:Fit o):FX G 82 Ut ((o,()),())=some ((cG o,()),()):=by
 refine av (hG _ _ rfl) akr ?_;refine aa (al6 hG o hf) ?_;refine bA (b:=BC (Eg o) o) rfl ?_;unfold cG;by_cases h1:o.1<1
 ·rw[if_pos h1];have:I9 o=1:=by unfold I9;omega
  rw[this];cases BC (Eg o) o<;>rfl
 rw[if_neg h1];by_cases h8:8<o.1
 ·rw[if_pos h8];have:I9 o=1:=by unfold I9;omega
  rw[this];cases BC (Eg o) o<;>rfl
 rw[if_neg h8,RZ o (by omega) (by omega)];have hk:o.1=1∨o.1=2∨o.1=3∨o.1=4∨o.1=5∨o.1=6∨o.1=7∨o.1=8:=by omega
 by_cases hm:cd (bf o)=true
 case neg =>
  have hb:I9 o=1:=by simp_all [I9]
  rw[if_pos (by simpa using hm),hb];cases BC (yg o) zOp<;>rfl
 rw[if_neg (by simp[hm])]
 cases BC (yg o) zOp
 ·rfl
 rw[if_neg (by simp)];refine af rfl ?_;refine congrArg (fun n:Int=>some ((n,()),())) ?_;unfold I9
 grind
theorem agu(hG:HG G)(l:List br)(hl:l.length≤1073741824)(hf:∀o∈l,Fit o):FX G 59 IB ((l,()),())=some ((dM l,()),()):=by
 refine av (hG _ _ rfl) akG ?_;unfold dM;by_cases h0:l.length=0
 ·refine ae (show(((l.length:Nat):Int)==0)=true by simp[h0]) ?_;rw[if_neg (by omega)];rfl
 refine af (show(((l.length:Nat):Int)==0)=false by simp_all) ?_;by_cases h6:6<l.length
 ·refine ae (decide_eq_true (show((l.length:Nat):Int)>6 by omega)) ?_;rw[if_neg (by omega)];rfl
 refine af (decide_eq_false (show ¬((l.length:Nat):Int)>6 by omega)) ?_;rw[if_pos (by omega)];have loop:∀(n i:Nat),i+n=l.length→LX G 59 IB Tryz.f59 DR (aK Tryz.prog 59 0) ((l,(((l.length:Nat):Int),((i:Int),()))),((),()))=some ((lQ (l.drop i),()),()):=by
  intro n
  induction n with
  |zero =>intro i hi;refine ar Va ?_;refine af (decide_eq_false (show ¬((i:Int)<((l.length:Nat):Int)) by omega)) ?_;rw[List.drop_eq_nil_of_le (by omega)];rfl
  |succ n ih =>
   intro i hi;have aN:i<l.length:=by omega
   refine ar Va ?_;refine ae (aT aN) (aa (aB (aa8 aN)) ?_);refine aa (al7 hG l[i] (hf _ (acV aN))) ?_;rw[List.drop_eq_getElem_cons aN,lQ];by_cases hz:cG l[i]=0
   ·rw[if_neg (by simp[hz])];refine af (show(cG l[i] != 0)=false by simp[hz]) ?_;rw[wI,aD aN hl];exact ih (i+1) (by omega)
   ·rw[if_pos hz];exact ae (show(cG l[i] != 0)=true by simp[hz]) rfl
 have:=loop l.length 0 (by omega);rw[List.drop_zero]at this;exact this
theorem aaS(hG:HG G)(v:ag)(x:ID):FX G 198 GW ((v,x,()),())=some ((sj v.1 x,()),()):=by refine av (hG _ _ rfl) ae7 ?_;exact aa (PF hG v.1 x) rfl
def cw(l:List ag)(x:ID):Nat:=l.countP fun v=>gN v.1 x
def dH(l:List ag):Prop:=l.Pairwise fun a b=>gN a.1 b.1=true
theorem Ja(l:List ag)(x:ID):cw l x≤l.length:=adD
theorem uK{l:List ag}{x:ID}(h:∀v∈l,gN v.1 x=false):cw l x=0:=by
 grind [cw,List.countP_eq_zero]
theorem zO{x:ID}:∀{l:List ag},dH l→∀(k:Nat) (v:ag),l[k]? = some v→(gN v.1 x=true↔k<cw l x)
 |[],_,k,v,h=>by simp at h
 |w::r,hs,k,v,h=>by
  have hw:∀{u:ag},u∈r→gN w.1 u.1=true:=fun {u} hu=>acM hs hu;have hr:dH r:=hs.of_cons;by_cases aN:gN w.1 x=true
  ·have e:cw (w::r) x=cw r x+1:=by grind [cw,List.countP_cons_of_pos]
   cases k with
   |zero=>simp_all
   |succ k=>have:=zO (x:=x) hr k v (by simpa using h);simp_all
  ·have hn:∀u∈w::r,gN u.1 x=false:=fun u hu=>by
    rcases abD.1 hu with rfl|hu
    ·simp_all
    ·rw[Bool.eq_false_iff];grind [jG]
   grind [uK,List.mem_of_getElem?]
theorem VU(hG:HG G)(l:List ag)(x:ID)(hs:dH l)(hl:l.length≤50000000):∀(n i j:Nat),j-i≤n→i≤cw l x→cw l x≤j→j≤l.length → LX G 199197 jW Tryz.f197 jw (aK Tryz.prog 197 0) ((l,(((l.length:Nat):Int),((i:Int),((j:Int),())))),(((x,()),()),()))=some (((((cw l x:Nat):Int),(decide ((l[cw l x]?).map (·.1)=some x),())):Int×(Bool×Unit)),()):=by
 have vR:=Ja l x;have fin:∀(i j:Nat),¬(i<j)→i≤cw l x→cw l x≤j→LX G 199197 jW Tryz.f197 jw (aK Tryz.prog 197 0) ((l,(((l.length:Nat):Int),((i:Int),((j:Int),())))),(((x,()),()),()))=some (((((cw l x:Nat):Int),(decide ((l[cw l x]?).map (·.1)=some x),())):Int×(Bool×Unit)),()):=fun i j Gv h1 h2=>by
  have hi:i=cw l x:=by omega
  subst hi;refine ar DX ?_;refine af (decide_eq_false (show ¬(((cw l x:Nat):Int)<(j:Int)) by omega)) ?_;by_cases hc:cw l x<l.length
  ·have hx:l[cw l x]? = some l[cw l x]:=aa8 hc;refine ae (aT hc) ?_;refine aa (aB hx) ?_;refine aa (aaS hG l[cw l x] x) ?_;refine congrArg (fun b:Bool=>some ((((cw l x:Nat):Int),(b,())),())) ?_
   grind [sj,cw]
  ·refine af (decide_eq_false (show ¬(((cw l x:Nat):Int)<((l.length:Nat):Int)) by omega)) ?_;refine congrArg (fun b:Bool=>some ((((cw l x:Nat):Int),(b,())),())) ?_;simp_all
 intro n
 induction n with
 |zero=>grind
 |succ n ih =>
  intro i j Gv h1 h2 h3;by_cases aN:i<j
  case neg=>grind
  refine ar DX ?_;refine ae (decide_eq_true (show((i:Int)<(j:Int)) by omega)) ?_;refine af rfl ?_;have hm:=NP (i:=i) (j:=j) (by omega) (by omega);have hh:(i+j) / 2<l.length:=by omega
  have hx:l[(i+j) / 2]? = some l[(i+j) / 2]:=aa8 hh;have qW:=zO (x:=x) hs ((i+j) / 2) _ hx;refine aa (show aU l (IntKind.wrap .i64 (iu .u64 (IntKind.wrap .u64 (IntKind.wrap .i64 ((i:Int)+(j:Int)))) (1:Int)))=some l[(i+j) / 2] by rw[hm];exact aB hx) ?_;refine aa (aaS hG l[(i+j) / 2] x) ?_;by_cases ho:gN l[(i+j) / 2].1 x=true
  ·refine ae (decide_eq_true ((mu _ _).2 ho)) ?_;have hc:=qW.1 ho;have hw:IntKind.wrap .i64 (IntKind.wrap .i64 (iu .u64 (IntKind.wrap .u64 (IntKind.wrap .i64 ((i:Int)+(j:Int)))) (1:Int))+1)=(((i+j) / 2+1:Nat):Int):=by rw[hm];exact aD hh (by omega)
   have:=ih ((i+j) / 2+1) j (by omega) (by omega) h2 h3;rw[←hw]at this;exact this
  ·refine af (decide_eq_false (fun h=>ho ((mu _ _).1 h))) ?_;have hc:¬(i+j) / 2<cw l x:=fun h=>ho (qW.2 h);have:=ih i ((i+j) / 2) (by omega) h1 (by omega) (by omega);rw[←hm]at this;exact this
theorem VV(hG:HG G)(l:List ag)(x:ID)(hs:dH l)(hl:l.length≤50000000) :
  FX G 199197 jW ((l,x,()),())=some (((((cw l x:Nat):Int),(decide ((l[cw l x]?).map (·.1)=some x),())):Int×(Bool×Unit)),()):=by
 refine av (hG _ _ rfl) Vm ?_;exact VU hG l x hs hl l.length 0 l.length (by omega) (by omega) (Ja l x) (acf _)
theorem qc(hG:HG G)(w:aX)(x:ID)(hs:dH w.2.1)(hl:w.2.1.length≤50000000) :
  FX G 159 oo ((x,()),(w,()))=some (((((cw w.2.1 x:Nat):Int),(decide ((w.2.1[cw w.2.1 x]?).map (·.1)=some x),())):Int×(Bool×Unit)),(w,())):=by
 refine av (hG _ _ rfl) aeQ ?_;exact aa (VV hG w.2.1 x hs hl) rfl
theorem zP{x:ID}:∀{l:List ag},dH l→ba l x=(l[cw l x]?).filter fun v=>decide (v.1=x)
 |[],_=>rfl
 |w::r,hs=>by
  have hw:∀{u:ag},u∈r→gN w.1 u.1=true:=fun {u} hu=>acM hs hu;have hr:dH r:=hs.of_cons;by_cases aN:gN w.1 x=true
  ·have e:cw (w::r) x=cw r x+1:=by unfold cw;rw[List.countP_cons_of_pos (by simpa using aN)]
   have bB:¬w.1=x:=fun e=>by rw[e,b5]at aN;cases aN
   rw[e];simp only[ba,List.find?_cons,bB,decide_false,List.getElem?_cons_succ];exact zP hr
  ·have hn:∀u∈w::r,gN u.1 x=false:=fun u hu=>by
    rcases abD.1 hu with rfl|hu
    ·simpa using aN
    ·rw[Bool.eq_false_iff];intro h2;exact aN (jG (hw hu) h2)
   rw[uK hn];by_cases he:w.1=x
   ·simp[ba,List.find?_cons,he,Option.filter]
   ·have OZ:gN x w.1=true:=mF (by simpa using aN) he;have:ba r x=none:=by
     unfold ba;rw[List.find?_eq_none];intro u hu h2;have h3:u.1=x:=by simpa using h2
     have h4:=hw hu;rw[h3]at h4;have:=mE h4;rw[OZ]at this;cases this
    rw[show ba (w::r) x=ba r x by simp only[ba,List.find?_cons,he,decide_false],this];simp[he,Option.filter]
theorem dC{l:List ag}{x:ID}(hs:dH l):decide ((l[cw l x]?).map (·.1)=some x)=(ba l x).isSome:=by
 grind [zP,cw,Option.filter]
theorem LI(v:ag):∀{l:List ag},dH l→ba l v.1=none→dL v l=l.take (cw l v.1)++(v::l.drop (cw l v.1))
 |[],_,_=>rfl
 |w::r,hs,hf=>by
  have hw:∀{u:ag},u∈r→gN w.1 u.1=true:=fun {u} hu=>acM hs hu;have hr:dH r:=hs.of_cons;have bB:¬w.1=v.1:=fun e=>by simp[ba,e]at hf
  have Dc:ba r v.1=none:=by simpa[ba,List.find?_cons,bB] using hf
  by_cases aN:gN w.1 v.1=true
  ·have e:cw (w::r) v.1=cw r v.1+1:=by unfold cw;rw[List.countP_cons_of_pos (by simpa using aN)]
   have XM:gN v.1 w.1=false:=mE aN;rw[e,dL,if_neg (by simp[XM]),LI v hr Dc];rfl
  ·have hn:∀u∈w::r,gN u.1 v.1=false:=fun u hu=>by
    rcases abD.1 hu with rfl|hu
    ·simpa using aN
    ·rw[Bool.eq_false_iff];intro h2;exact aN (jG (hw hu) h2)
   have OZ:gN v.1 w.1=true:=mF (by simpa using aN) bB;rw[uK hn,dL,if_pos OZ];rfl
theorem zQ{x:ID}:∀{l:List ag},dH l→(ba l x).isSome=true→dd l x=l.take (cw l x)++l.drop (cw l x+1)
 |[],_,hf=>by simp[ba]at hf
 |w::r,hs,hf=>by
  have hw:∀{u:ag},u∈r→gN w.1 u.1=true:=fun {u} hu=>acM hs hu;have hr:dH r:=hs.of_cons;by_cases he:w.1=x
  ·have hn:∀u∈w::r,gN u.1 x=false:=fun u hu=>by
    rcases abD.1 hu with rfl|hu
    ·rw[he,b5]
    ·rw[←he];exact mE (hw hu)
   have jQ:dd r x=r:=by unfold dd;rw[List.filter_eq_self];intro u hu;have h4:=hw hu;simp;intro e2;rw[he,e2,b5]at h4;cases h4
   rw[uK hn];unfold dd;rw[List.filter_cons_of_neg (by simp[he])];exact jQ
  ·have Dc:(ba r x).isSome=true:=by simpa[ba,List.find?_cons,he] using hf
   have aN:gN w.1 x=true:=by
    obtain⟨u,hu⟩:=acu.1 Dc;have h1:=adq hu;have h2:u.1=x:=by simpa using adG hu
    rw[←h2];exact hw h1
   have e:cw (w::r) x=cw r x+1:=by unfold cw;rw[List.countP_cons_of_pos (by simpa using aN)]
   rw[e];have:=zQ hr Dc;simp[dd,List.filter_cons,he]at this ⊢;exact this
theorem zR(v:ag):∀{l:List ag},dH l→ba l v.1=none→dH (dL v l)
 |[],_,_=>List.pairwise_singleton _ _
 |w::r,hs,hf=>by
  have hw:∀{u:ag},u∈r→gN w.1 u.1=true:=fun {u} hu=>acM hs hu;have hr:dH r:=hs.of_cons;have bB:¬w.1=v.1:=fun e=>by simp[ba,e]at hf
  have Dc:ba r v.1=none:=by simpa[ba,List.find?_cons,bB] using hf
  unfold dL
  split
  ·rename_i h;refine List.Pairwise.cons (fun u hu=>?_) hs;rcases abD.1 hu with rfl|hu
   ·exact h
   ·exact jG h (hw hu)
  ·rename_i h;have aN:gN w.1 v.1=true:=mF (by simpa using h) (fun e=>bB e.symm);refine List.Pairwise.cons (fun u hu=>?_) (zR v hr Dc);rcases p7.1 hu with rfl|hu
   ·exact aN
   ·exact hw hu
theorem wC{l:List ag}{x:ID}(hs:dH l):dH (dd l x):=hs.filter _
theorem dr{l:List ai}{x:ID}{v:ai}(hs:cc l)(h:aR l x=some v):l[bU l x]? = some v:=by
 grind [uJ,bU,Option.filter]
theorem iR{l:List ai}{x:ID}{v:ai}(h:aR l x=some v):v.1=x:=by simpa using adG h
theorem eQ{l:List ai}{x:ID}{v:ai}(h:aR l x=some v):v∈l:=adq h
theorem kN{l:List ai}{x:ID}{k:Nat}{u:ai}(hs:cc l)(hk:l[k]? = some u)(hu:u.1=x):k=bU l x:=by
 have h1:¬k<bU l x:=fun h=>by
  have:=(zM hs k u hk).2 h
  grind [b5]
 have hf:(aR l x).isSome=true:=by
  grind [aR,List.find?_isSome,List.mem_of_getElem?]
 obtain⟨v,hv⟩:=acu.1 hf;have hg:=dr hs hv;by_cases h2:bU l x<k
 ·obtain⟨h3,h4⟩:=abC.1 hg;obtain⟨h5,h6⟩:=abC.1 hk;have:=adL.1 hs _ _ h3 h5 h2
  grind [iR,b5]
 ·omega
theorem LJ{l:List ai}{x:ID}{v:ai}(hs:cc l)(h:aR l x=some v)(g f:ai→ai)(h1:∀w,w.1=x→g w=f w)(h2:∀w,w.1≠x→g w=w):l.map g=l.set (bU l x) (f v):=by
 have hg:=dr hs h;apply adz;intro k;rw[List.getElem?_map,List.getElem?_set];by_cases hk:bU l x=k
 ·subst hk;rw[if_pos rfl,if_pos (List.getElem?_eq_some_iff.1 hg).1,hg]
  grind [iR]
 ·rw[if_neg hk]
  cases hu:l[k]? with
  |none=>rfl
  |some u =>
   grind [kN]
theorem nG{l:List ag}{x:ID}{v:ag}(hs:dH l)(h:ba l x=some v):l[cw l x]? = some v:=by
 grind [zP,cw,Option.filter]
theorem yh{l:List ag}{x:ID}{v:ag}(h:ba l x=some v):v.1=x:=by simpa using adG h
theorem R1{l:List ag}{x:ID}{v:ag}(h:ba l x=some v):v∈l:=adq h
theorem R4{l:List ag}{x:ID}{k:Nat}{u:ag}(hs:dH l)(hk:l[k]? = some u)(hu:u.1=x):k=cw l x:=by
 have h1:¬k<cw l x:=fun h=>by
  have:=(zO hs k u hk).2 h
  grind [b5]
 have hf:(ba l x).isSome=true:=by
  grind [ba,List.find?_isSome,List.mem_of_getElem?]
 obtain⟨v,hv⟩:=acu.1 hf;have hg:=nG hs hv;by_cases h2:cw l x<k
 ·obtain⟨h3,h4⟩:=abC.1 hg;obtain⟨h5,h6⟩:=abC.1 hk;have:=adL.1 hs _ _ h3 h5 h2
  grind [yh,b5]
 ·omega
theorem VW{l:List ag}{x:ID}{v:ag}(hs:dH l)(h:ba l x=some v)(g f:ag→ag)(h1:∀w,w.1=x→g w=f w)(h2:∀w,w.1≠x→g w=w):l.map g=l.set (cw l x) (f v):=by
 have hg:=nG hs h;apply adz;intro k;rw[List.getElem?_map,List.getElem?_set];by_cases hk:cw l x=k
 ·subst hk;rw[if_pos rfl,if_pos (List.getElem?_eq_some_iff.1 hg).1,hg]
  grind [yh]
 ·rw[if_neg hk]
  cases hu:l[k]? with
  |none=>rfl
  |some u =>
   grind [R4]
theorem dH.map{l:List ag}(h:dH l){f:ag→ag}(hf:∀v,(f v).1=v.1):dH (l.map f):=by unfold dH at h ⊢;rw[List.pairwise_map];exact h.imp fun {a b} zH=>by rw[hf,hf];exact zH
theorem vG{α R:Type}{o:Option α}{a r:Option R}{f:α→Option R}{p:α}(h:o=some p)(k:f p=r):sE o a f=r:=by subst h;exact k
theorem PI{α R:Type}{o:Option α}{a r:Option R}{f:α→Option R}(h:o=none)(k:a=r):sE o a f=r:=by subst h;exact k
def vH(w:aX)(x:ID):Int×aX :=if(ba w.2.1 x).isSome=true then(12,w) else if 40≤w.2.1.length then(3,w) else(0,(w.1,(dL (x,(e0,0)) w.2.1,w.2.2)))
theorem aaT(hG:HG G)(w:aX)(x:ID)(hs:dH w.2.1)(hl:w.2.1.length≤50000000):FX G 155 AS ((x,()),(w,()))=some (((vH w x).1,()),((vH w x).2,())):=by
 refine av (hG _ _ rfl) aeM ?_;refine aa (qc hG w x hs hl) ?_;unfold vH
 cases hf:(ba w.2.1 x).isSome
 ·rw[if_neg (by simp)];refine af ((dC hs).trans hf) ?_;by_cases h2:40≤w.2.1.length
  ·rw[if_pos h2];exact ae (decide_eq_true (show((w.2.1.length:Nat):Int)≥40 by omega)) rfl
  ·rw[if_neg h2];refine af (decide_eq_false (show ¬((w.2.1.length:Nat):Int)≥40 by omega)) ?_;have hc:=Ja w.2.1 x;have kZ:sF w.2.1 ((cw w.2.1 x:Nat):Int) [((x,(e0,0)):ag)]=true:=by
    grind [sF,decide_eq_true,cw,fits]
   refine ae kZ ?_;have e:ji w.2.1 ((cw w.2.1 x:Nat):Int) [((x,(e0,0)):ag)]=dL (x,(e0,0)) w.2.1:=by simp_all [LI,e0,ji]
   exact congrArg (fun l:List ag=>some (((0:Int),()),((w.1,(l,w.2.2)),()))) e
 ·rw[if_pos rfl];exact ae ((dC hs).trans hf) rfl
def Eh(w:aX)(o:br):Option (Fin 2×Nat) :=if rj o=true then(if(ba w.2.1 (bf o)).isSome=true then some (⟨1,by decide⟩,cw w.2.1 (bf o)) else none)
 else(if(aR w.1 (bf o)).isSome=true then some (⟨0,by decide⟩,bU w.1 (bf o)) else none)
theorem agv(hG:HG G)(w:aX)(o:br)(hv:cc w.1)(he:dH w.2.1)(hlv:w.1.length≤50000000)(hle:w.2.1.length≤50000000) :
  FX G 168 KS ((o,()),(w,()))=some ((Eh w o,(Eh w o,())),(w,())):=by
 refine av (hG _ _ rfl) aeY ?_;unfold Eh;by_cases ho:rj o=true
 ·rw[if_pos ho];refine ae ho ?_;refine aa (qc hG w (bf o) he hle) ?_
  cases hf:ba w.2.1 (bf o) with
  |none =>refine af ((dC he).trans (by rw[hf];rfl)) ?_;rfl
  |some e =>refine ae ((dC he).trans (by rw[hf];rfl)) ?_;have aN:=(abC.1 (nG he hf)).1;refine ae (cP (fK _) (aT aN)) ?_;exact ae (cP (fK _) (aT aN)) rfl
 ·rw[if_neg ho];refine af (by simpa using ho) ?_;refine aa (rT hG w (bf o) hv hlv) ?_
  cases hf:aR w.1 (bf o) with
  |none =>refine af ((gD hv).trans (by rw[hf];rfl)) ?_;rfl
  |some e =>refine ae ((gD hv).trans (by rw[hf];rfl)) ?_;have aN:=(abC.1 (dr hv hf)).1;refine ae (cP (fK _) (aT aN)) ?_;exact ae (cP (fK _) (aT aN)) rfl
def wD(w:aX)(o:br):Int×aX :=if rj o=true then(if(ba w.2.1 (bf o)).isSome=true then(0,(w.1,(w.2.1.map (j4 o),w.2.2))) else(13,w))
 else(if(aR w.1 (bf o)).isSome=true then(0,(w.1.map (iQ o),w.2)) else(13,w))
theorem al8(hG:HG G)(w:aX)(o:br)(hv:cc w.1)(he:dH w.2.1)(hlv:w.1.length≤50000000)(hle:w.2.1.length≤50000000) :
  FX G 118 UA ((o,()),(w,()))=some (((wD w o).1,()),((wD w o).2,())):=by
 refine av (hG _ _ rfl) ala ?_;refine aa (agv hG w o hv he hlv hle) ?_;by_cases ho:rj o=true
 ·cases hf:ba w.2.1 (bf o) with
  |none =>
   have e1:Eh w o=none:=by simp_all [Eh,if_pos]
   have e2:wD w o=(13,w):=by simp_all [wD,if_pos]
   rw[e2];exact PI e1 (PI e1 rfl)
  |some e =>
   have e1:Eh w o=some (⟨1,by decide⟩,cw w.2.1 (bf o)):=by simp_all [Eh,if_pos]
   have hm:∀f:ag→ag,(∀u,u.1=bf o→j4 o u=f u)→w.2.1.map (j4 o)=w.2.1.set (cw w.2.1 (bf o)) (f e):=fun f hf1 =>VW he hf (j4 o) f hf1 (fun u hu=>by simp_all [j4,if_neg]);have e2:wD w o=(0,(w.1,(w.2.1.map (j4 o),w.2.2))):=by simp_all [wD,if_pos]
   rw[e2];refine vG e1 (af rfl (ae rfl (vG e1 (af rfl (ae rfl ?_)))));by_cases h7:o.1=7
   ·refine ae (JI h7) (aa (nG he hf) ?_);have:=hm (fun u=>(u.1,(p6 o,u.2.2))) (fun u hu=>by simp_all [j4,if_pos]);exact congrArg (fun l:List ag=>some (((0:Int),()),((w.1,(l,w.2.2)),()))) this.symm
   ·refine af (Ba h7) (aa (nG he hf) ?_);have:=hm (fun u=>(u.1,(u.2.1,oN o))) (fun u hu=>by simp_all [j4,if_pos,if_neg]);exact congrArg (fun l:List ag=>some (((0:Int),()),((w.1,(l,w.2.2)),()))) this.symm
 ·have sq:rj o=false:=by simpa using ho
  cases hf:aR w.1 (bf o) with
  |none =>
   have e1:Eh w o=none:=by simp_all [Eh,if_neg]
   have e2:wD w o=(13,w):=by simp_all [wD,if_neg]
   rw[e2];exact PI e1 (PI e1 rfl)
  |some e =>
   have e1:Eh w o=some (⟨0,by decide⟩,bU w.1 (bf o)):=by simp_all [Eh,if_neg]
   have hm:∀f:ai→ai,(∀u,u.1=bf o→iQ o u=f u)→w.1.map (iQ o)=w.1.set (bU w.1 (bf o)) (f e):=fun f hf1 =>LJ hv hf (iQ o) f hf1 (fun u hu=>by simp_all [iQ,if_neg]);have e2:wD w o=(0,(w.1.map (iQ o),w.2)):=by simp_all [wD,if_neg]
   rw[e2];refine vG e1 (ae rfl (vG e1 (ae rfl ?_)));by_cases h7:o.1=7
   ·refine ae (JI h7) (aa (dr hv hf) ?_);have:=hm (fun u=>(u.1,(u.2.1,(p6 o,u.2.2.2)))) (fun u hu=>by simp_all [iQ,if_pos]);exact congrArg (fun l:List ai=>some (((0:Int),()),((l,w.2),()))) this.symm
   ·refine af (Ba h7) (aa (dr hv hf) ?_);have:=hm (fun u=>(u.1,(u.2.1,(u.2.2.1,oN o)))) (fun u hu=>by simp_all [iQ,if_pos,if_neg]);exact congrArg (fun l:List ai=>some (((0:Int),()),((l,w.2),()))) this.symm
theorem VX(hG:HG G)(a b:ab):FX G 73 AX ((a,b,()),())=some ((nP a b,()),()):=by
 refine av (hG _ _ rfl) afa ?_;refine aa (PF hG a.1 b.1) ?_;refine aa (VO hG a.2 b.2) ?_;refine aa (aaQ (hG _ _ rfl) (sj a.1 b.1) (NO a.2 b.2)) ?_;refine congrArg (fun n:Int=>some ((n,()),())) ?_;obtain⟨a1,a2⟩:=a;obtain⟨b1,b2⟩:=b;unfold nP sj NO mD;simp only[Prod.mk.injEq];by_cases h:a1=b1
 ·subst h;simp only[if_true,b5,Bool.false_or,true_and,decide_true,Bool.true_and]
  grind
 grind
theorem agw(hG:G 195 nm=none)(row:List ab)(d:ab)(hl:row.length≤1073741824):∀(n i:Nat),i+n=row.length → LX G 195 nm Tryz.f195 xJ (aK Tryz.prog 195 0) ((row,(((row.length:Nat):Int),((i:Int),()))),(((d,()),()),()))=some ((idx d (row.drop i) i,()),()):=by
 intro n
 induction n with
 |zero =>intro i hi;refine ar Pf ?_;refine af (decide_eq_false (show ¬((i:Int)<((row.length:Nat):Int)) by omega)) ?_;rw[List.drop_eq_nil_of_le (by omega)];rfl
 |succ n ih =>
  intro i hi;have aN:i<row.length:=by omega
  refine ar Pf ?_;refine ae (aT aN) (aa (aB (aa8 aN)) ?_);rw[List.drop_eq_getElem_cons aN,idx];by_cases he:row[i]=d
  ·rw[if_pos he];exact ae ((lO d row[i]).trans (decide_eq_true he.symm)) rfl
  ·rw[if_neg he];refine af ((lO d row[i]).trans (decide_eq_false fun h=>he h.symm)) ?_;rw[wI,aD aN hl];exact ih (i+1) (by omega)
theorem Ei(hG:G 195 nm=none)(row:List ab)(d:ab)(hl:row.length≤1073741824):FX G 195 nm ((row,d,()),())=some ((idx d row 0,()),()):=by refine av hG ae4 ?_;have:=agw hG row d hl row.length 0 (by omega);rw[List.drop_zero]at this;exact this
theorem Hi(hG:HG G)(row:List ab)(d:ab)(hl:row.length≤1073741824):FX G 194 xx ((row,d,()),())=some ((decide (d∈row),()),()):=by
 refine av (hG _ _ rfl) ae3 ?_;refine aa (Ei (hG _ _ rfl) row d hl) ?_;refine congrArg (fun b:Bool=>some ((b,()),())) ?_;rw[Bool.eq_iff_iff];simp only[decide_eq_true_eq];have:=fq (d:=d) (row:=row)
 grind
theorem fe(a:ab):mD a a=false:=by unfold mD;simp[b5]
theorem jH{a b c:ab}(h:mD a b=true)(k:mD b c=true):mD a c=true:=by
 grind [mD,gN]
theorem zT{a b:ab}(h:mD a b=false)(k:a≠b):mD b a=true:=by
 grind [mD,gN]
theorem Jb{a b c:ab}(h:mD a b=true)(k:mD c b=false):mD a c=true:=by
 grind [mD,gN]
theorem yi(a b:ab):nP a b<0↔mD a b=true:=by
 unfold nP;by_cases h:a=b
 ·grind [fe]
 grind
theorem rk{row:List ab}{k:Nat}(hk:k<row.length):row.getD k zD=row[k]:=by simp_all
theorem zU(row:List ab):∀(r:List ab) (i k:Nat),row.drop i=r→k<row.length→k≤i→(∀j,j<i→(hj:j<row.length)→mD row[j] (row.getD k zD)=false)→(∀j,j<k→(hj:j<row.length)→mD (row.getD k zD) row[j]=true) →(∀j,(hj:j<row.length)→mD row[j] (row.getD (fW row r i k) zD)=false)∧(∀j,j<fW row r i k→(hj:j<row.length)→mD (row.getD (fW row r i k) zD) row[j]=true)
 |[],i,k,hr,hk,hki,h1,h2=>by
  have hi:row.length≤i:=by simp_all
  exact⟨fun j hj=>h1 j (by omega) hj,h2⟩
 |x::r,i,k,hr,hk,hki,h1,h2=>by
  have hi:i<row.length:=by have:=congrArg List.length hr;grind
  have hx:row[i]=x:=by
   grind [List.drop_eq_getElem_cons]
  have tQ:row.drop (i+1)=r:=by
   grind [List.drop_eq_getElem_cons]
  unfold fW
  split
  ·rename_i aN;rw[yi]at aN;refine zU row r (i+1) i tQ hi (by omega) (fun j hj M0=>?_) (fun j hj M0=>?_)
   ·rw[rk hi,hx];rcases Nat.lt_succ_iff_lt_or_eq.1 hj with hj|rfl
    ·grind [mD,jH]
    ·rw[hx,fe]
   grind [rk,Jb]
  ·rename_i aN;rw[yi]at aN;refine zU row r (i+1) k tQ hk (by omega) (fun j hj M0=>?_) h2
   grind
theorem wE{row:List ab}(h:0<row.length):(∀j,(hj:j<row.length)→mD row[j] (row.getD (fW row row 0 0) zD)=false)∧(∀j,j<fW row row 0 0→(hj:j<row.length)→mD (row.getD (fW row row 0 0) zD) row[j]=true) :=zU row row 0 0 rfl h (acf _) (fun j hj=>by omega) (fun j hj=>by omega)
theorem NR{d:ab}:∀{row:List ab} {k:Nat} {i:Int},row[k]? = some d→(∀j,j<k→row[j]?≠some d)→idx d row i=i+k
 |[],k,i,h,_=>by simp at h
 |e::r,0,i,h,_=>by simp at h;subst h;rw[idx,if_pos rfl];simp
 |e::r,k+1,i,h,hn=>by have h0:=hn 0 (by omega);rw[idx,if_neg (fun e=>h0 (by simp[e]))];rw[NR (k:=k) (by simpa using h) (fun j hj=>by have:=hn (j+1) (by omega);simpa using this)];simp;omega
theorem VY{row:List ab}(h:0<row.length):idx (row.getD (fW row row 0 0) zD) row 0=((fW row row 0 0:Nat):Int):=by
 grind [ow,NR,fW,zD,rk,List.getElem?_eq_getElem,List.getElem?_eq_some_iff,wE,fe]
theorem VZ(hG:HG G)(row:List ab)(h:0<row.length)(hl:row.length≤100000000):FX G 74201 lE ((row,()),())=some ((row.getD (fW row row 0 0) zD,()),()):=by
 refine av (hG _ _ rfl) Vn ?_;refine af (decide_eq_false (show ¬((row.length:Nat):Int)<1 by omega)) ?_;refine aa (aB (i:=0) (aa8 h)) ?_;have loop:∀(n i k:Nat),i+n=row.length→k<row.length→LX G 74201 lE Tryz.f201 kG (aK Tryz.prog 201 0) ((row,((i:Int),())),(((zD,()),(((row.getD k zD),()),())),()))=some ((row.getD (fW row (row.drop i) i k) zD,()),()):=by
  intro n
  induction n with
  |zero =>intro i k hi hk;refine ar DY ?_;refine af (decide_eq_false (show ¬((i:Int)<((row.length:Nat):Int)) by omega)) ?_;rw[List.drop_eq_nil_of_le (by omega)];rfl
  |succ n ih =>
   intro i k hi hk;have aN:i<row.length:=by omega
   have hx:row[i]? = some row[i]:=aa8 aN;refine ar DY ?_;refine ae (aT aN) (aa (aB hx) ?_);refine aa (VX hG row[i] (row.getD k zD)) ?_;rw[List.drop_eq_getElem_cons aN,fW];by_cases ho:nP row[i] (row.getD k zD)<0
   ·rw[if_pos ho];refine ae (decide_eq_true ho) (aa (aB hx) ?_);have:=ih (i+1) i (by omega) aN;rw[←aD aN (by omega),rk aN]at this;exact this
   ·rw[if_neg ho];refine af (decide_eq_false ho) ?_;have:=ih (i+1) k (by omega) hk;rw[←aD aN (by omega)]at this;exact this
 have h1:=loop (row.length-1) 1 0 (by omega) h;have h2:fW row row 0 0=fW row (row.drop 1) 1 0:=by
  cases row with
  |nil=>simp at h
  |cons x r =>simp_all [List.drop_one,List.tail_cons,fW,if_neg,nP]
 rw[h2];have h3:row.getD 0 zD=row[0]:=rk h;rw[h3]at h1;exact h1
def total(ls:List (List ab)):Nat:=(ls.map List.length).sum
theorem Ej(a:List ab)(r:List (List ab)):total (a::r)=a.length+total r:=by rfl
theorem aaV(hG:HG G)(ls:List (List ab))(hn:ls.length≤1000)(hl:total ls≤500000000):FX G 202 pS ((ls,()),())=some ((ls.flatten,()),()):=by
 refine av (hG _ _ rfl) afb ?_;have LK:∀(n i:Nat) (out:List ab),i+n=ls.length→out.length+total (ls.drop i)≤500000000→LX G 202 pS Tryz.f202 xL (aK Tryz.prog 202 1) ((ls,(((ls.length:Nat):Int),((i:Int),()))),((),(out,())))=some ((out++(ls.drop i).flatten,()),()):=by
  intro n
  induction n with
  |zero =>intro i out hi ho;refine ar Ph ?_;refine af (decide_eq_false (show ¬((i:Int)<((ls.length:Nat):Int)) by omega)) ?_;rw[List.drop_eq_nil_of_le (by omega),List.flatten_nil,List.append_nil];rfl
  |succ n ih =>
   intro i out hi ho;have aN:i<ls.length:=by omega
   rw[List.drop_eq_getElem_cons aN]at ho ⊢;have sq:out.length+(ls[i].length+total (ls.drop (i+1)))≤500000000:=by
    grind [total,Ej]
   refine ar Ph ?_;refine ae (aT aN) (aa (aB (aa8 aN)) ?_);refine ae (fits (show out.length+ls[i].length≤1073741824 by omega)) ?_;have:=ih (i+1) (out++ls[i]) (by omega) (by grind);rw[List.flatten_cons,←List.append_assoc];rw[←aD aN (by omega)]at this;exact this
 have LL:∀(n i m:Nat),i+n=ls.length→m+total (ls.drop i)=total ls→LX G 202 pS Tryz.f202 xK (aK Tryz.prog 202 0) ((ls,((m:Int),(ls,(((ls.length:Nat):Int),((i:Int),()))))),((),()))=some ((ls.flatten,()),()):=by
  intro n
  induction n with
  |zero =>
   intro i m hi hm;refine ar Pg ?_;refine af (decide_eq_false (show ¬((i:Int)<((ls.length:Nat):Int)) by omega)) ?_;have hg:Co (m:Int)=true:=by
    grind [Co,decide_eq_true,fB]
   refine ae hg ?_;have:=LK ls.length 0 [] (by omega) (by simp_all);rw[List.drop_zero,List.nil_append]at this;exact this
  |succ n ih =>
   intro i m hi hm;have aN:i<ls.length:=by omega
   have hm':m+ls[i].length+total (ls.drop (i+1))=total ls:=by
    rw[List.drop_eq_getElem_cons aN]at hm
    grind [total,Ej]
   refine ar Pg ?_;refine ae (aT aN) (aa (aB (aa8 aN)) ?_);have hw:IntKind.wrap .i64 ((m:Int)+((ls[i].length:Nat):Int))=((m+ls[i].length:Nat):Int):=by rw[wrap_small (by omega) (by omega)];rfl
   refine af (decide_eq_false (show ¬IntKind.wrap .i64 ((m:Int)+((ls[i].length:Nat):Int))<0 by rw[hw];omega)) ?_;have:=ih (i+1) (m+ls[i].length) (by omega) hm';rw[←aD aN (by omega),←hw]at this;exact this
 exact LL ls.length 0 0 (by omega) (by simp_all)
theorem B9{α:Type}(xs:List α){k:Nat}(hk:k≤xs.length):cut xs (k:Int) ((xs.length:Nat):Int)=xs.drop k:=by simp_all [cut,Int.toNat_natCast,List.take_of_length_le,Nat.le_refl]
theorem uL{α:Type}(xs:List α)(k:Nat):cut xs 0 (k:Int)=xs.take k:=by rfl
theorem Jc{n k:Nat}(h:k≤n):az n (k:Int) ((n:Nat):Int)=true:=by grind [az]
theorem yj{n k:Nat}(h:k≤n):az n 0 (k:Int)=true:=by grind [az]
theorem Ek(hG:HG G)(row:List ab)(hl:row.length≤100000000):FX G 167 rP ((row,()),())=some ((cp row,()),()):=by
 refine av (hG _ _ rfl) aeX ?_;by_cases h0:row.length=0
 ·refine ae (show(((row.length:Nat):Int)==0)=true by simp[h0]) ?_;have:row=[]:=by simpa using h0
  subst this;rfl
 refine af (show(((row.length:Nat):Int)==0)=false by rw[beq_eq_false_iff_ne];omega) ?_;have hp:0<row.length:=by omega
 have hm:=ow row row 0 0 hp (by omega);refine aa (VZ hG row hp hl) ?_;refine aa (Ei (hG _ _ rfl) row (row.getD (fW row row 0 0) zD) (by omega)) ?_;rw[VY hp];refine ae (Jc (n:=row.length) (k:=fW row row 0 0) (by omega)) (ae (yj (n:=row.length) (k:=fW row row 0 0) (by omega)) ?_);have key:∀a b:List ab,a=row.drop (fW row row 0 0)→b=row.take (fW row row 0 0)→((FX G 202 pS (([a,b],()),())).bind fun(y3:(((List ab)×Unit)×Unit))=>some (y3.1,()))=some ((cp row,()),()):=by intro a b ha hb;subst ha hb;refine aa (aaV hG [row.drop (fW row row 0 0),row.take (fW row row 0 0)] (by simp) (by unfold total;simp;omega)) ?_;unfold cp Fa;simp only[List.flatten_cons,List.flatten_nil,List.append_nil]
 exact key _ _ (B9 row (by omega)) (uL row _)
theorem V5(hG:HG G)(ls:List (List ab))(hn:ls.length≤1000)(hl:total ls≤100000000):FX G 196 pR ((ls,()),())=some ((cp ls.flatten,()),()):=by
 refine av (hG _ _ rfl) ae5 ?_;refine aa (aaV hG ls hn (by omega)) ?_;have hlen:ls.flatten.length=total ls:=by unfold total;simp_all
 exact aa (Ek hG ls.flatten (by omega)) rfl
theorem V6(hG:HG G)(row:List ab)(after d:ab)(hl:row.length≤50000000):FX G 158 Dq ((row,after,d,()),())=some ((nQ row after d,()),()):=by
  refine av (hG _ _ rfl) aeO ?_;refine aa (Hi hG row d (by omega)) ?_;unfold nQ;by_cases hd:d∈row
  · rw[if_pos hd]
    exact ae (decide_eq_true hd) (aa (Ek hG row (by omega)) rfl)
  rw[if_neg hd];refine af (decide_eq_false hd) ?_;refine aa (Ei (hG _ _ rfl) row after (by omega)) ?_;have hr:idx after row 0<((row.length:Nat):Int)∨row.length=0∧idx after row 0 = -1:=by
    grind [pX,List.getElem?_eq_some_iff]
  have hm:max (idx after row 0) (0:Int)=max 0 (idx after row 0):=by omega
  have hw:IntKind.wrap .i64 (max (idx after row 0) (0:Int)+1)=(((max 0 (idx after row 0)).toNat+1:Nat):Int):=by
    grind [wrap_small]
  obtain⟨k,hk,qu,Te⟩:∃k:Nat,min (IntKind.wrap .i64 (max (idx after row 0) (0:Int)+1)) ((row.length:Nat):Int)=(k:Int)∧k≤row.length∧row.take k++(d::row.drop k)=row.take ((max 0 (idx after row 0)).toNat+1)++(d::row.drop ((max 0 (idx after row 0)).toNat+1)):=by
    rw[hw];by_cases h0:row.length=0
    · have:row=[]:=by simpa using h0
      subst this;exact⟨0,by simp;omega,by simp,by simp⟩
    grind
  have wy:(min (IntKind.wrap .i64 ((max (idx after row 0) (0:Int):Int)+(1:Int))) (((List.length row):Nat):Int):Int)=(k:Int):=hk;show cond (az (List.length row) (0:Int) (min (IntKind.wrap .i64 ((max (idx after row 0) (0:Int):Int)+(1:Int))) (((List.length row):Nat):Int):Int)) (cond (az (List.length row) (min (IntKind.wrap .i64 ((max (idx after row 0) (0:Int):Int)+(1:Int))) (((List.length row):Nat):Int):Int) (((List.length row):Nat):Int)) ((FX G 196 pR ((((cut row (0:Int) (min (IntKind.wrap .i64 ((max (idx after row 0) (0:Int):Int)+(1:Int))) (((List.length row):Nat):Int):Int))::([d]::((cut row (min (IntKind.wrap .i64 ((max (idx after row 0) (0:Int):Int)+(1:Int))) (((List.length row):Nat):Int):Int) (((List.length row):Nat):Int))::([]:List (List ab))))),()),())).bind fun(y4:(((List ab)×Unit)×Unit)) =>some (y4.1,())) (none)) (none)=_;rw[wy];refine ae (yj qu) (ae (Jc qu) ?_);have key:∀a b R:List ab,a=row.take k→b=row.drop k→R=cp (row.take k++(d::row.drop k))→((FX G 196 pR (([a,[d],b],()),())).bind fun(y3:(((List ab)×Unit)×Unit))=>some (y3.1,()))=some ((R,()),()):=by intro a b R ha hb hR;subst ha hb hR;refine aa (V5 hG [row.take k,[d],row.drop k] (by simp) (by grind [total])) ?_;simp_all
  exact key _ _ _ (uL row k) (B9 row qu) (by rw[Te])
theorem zX{row:List ab}{d:ab}{k:Nat}(hn:row.Nodup)(hk:row[k]? = some d):row.filter (fun e=>decide (e≠d))=row.take k++row.drop (k+1):=by
 obtain⟨h1,h2⟩:=abC.1 hk
 conv=>lhs;rw[←List.take_append_drop k row,List.drop_eq_getElem_cons h1,h2]
 have QD:(row.take k++(d::row.drop (k+1))).Nodup:=by rw[←h2,←List.drop_eq_getElem_cons h1,List.take_append_drop];exact hn
 have h3:=adw.1 QD;have h4:=ab1.1 h3.2.1;rw[List.filter_append,List.filter_cons_of_neg (by simp)];congr 1
 ·rw[List.filter_eq_self];intro a ha;have:=h3.2.2 a ha d (by simp);simpa using this
 ·rw[List.filter_eq_self];intro a ha;have:a≠d:=fun e=>h4.1 (e▸ha);simpa using this
theorem aaW(hG:HG G)(row:List ab)(d:ab)(hn:row.Nodup)(hl:row.length≤50000000):FX G 163 KR ((row,d,()),())=some ((iP row d,()),()):=by
 refine av (hG _ _ rfl) aeU ?_;refine aa (Ei (hG _ _ rfl) row d (by omega)) ?_;unfold iP;by_cases hd:d∈row
 ·obtain⟨k,h1,h2,h3⟩:=eV hd;have aN:=(abC.1 h2).1;rw[zX hn h2];show cond (decide (idx d row 0<0)) _ (cond (az row.length 0 (idx d row 0)) (cond (az row.length (IntKind.wrap .i64 (idx d row 0+1)) ((row.length:Nat):Int)) ((FX G 196 pR (([cut row 0 (idx d row 0),cut row (IntKind.wrap .i64 (idx d row 0+1)) ((row.length:Nat):Int)],()),())).bind fun(y3:(((List ab)×Unit)×Unit))=>some (y3.1,())) none) none)=_;rw[h1,aD aN (by omega)];refine af (decide_eq_false (by omega)) (ae (yj (by omega)) (ae (Jc (by omega)) ?_));have key:∀a b:List ab,a=row.take k→b=row.drop (k+1)→((FX G 196 pR (([a,b],()),())).bind fun(y3:(((List ab)×Unit)×Unit))=>some (y3.1,()))=some ((cp (row.take k++row.drop (k+1)),()),()):=by intro a b ha hb;subst ha hb;refine aa (V5 hG [row.take k,row.drop (k+1)] (by simp) (by grind [total])) ?_;simp_all
  exact key _ _ (uL row k) (B9 row (by omega))
 ·have h1:=fq.2 hd;refine ae (decide_eq_true h1) (aa (Ek hG row (by omega)) ?_);refine congrArg (fun l:List ab=>some ((l,()),())) ?_
  grind [List.filter_eq_self]
theorem aaX(hG:HG G)(row:List ab)(cI d:ab)(hl:row.length≤50000000):FX G 165 vC ((row,cI,d,()),())=some ((fJ row cI d,()),()):=by
 refine av (hG _ _ rfl) aeV ?_;refine aa (Ei (hG _ _ rfl) row cI (by omega)) ?_;unfold fJ;by_cases ho:cI∈row
 ·obtain⟨k,h1,h2,h3⟩:=eV ho;have aN:=(abC.1 h2).1;refine af (decide_eq_false (show ¬idx cI row 0<0 by omega)) ?_;refine aa (Hi hG row d (by omega)) ?_;by_cases hd:d∈row
  ·rw[if_neg (fun h=>h.2 hd)];exact ae (decide_eq_true hd) (aa (Ek hG row (by omega)) rfl)
  rw[if_pos ⟨ho,hd⟩];refine af (decide_eq_false hd) ?_;show cond (az row.length 0 (idx cI row 0)) (cond (az row.length (IntKind.wrap .i64 (idx cI row 0+1)) ((row.length:Nat):Int)) ((FX G 196 pR (([cut row 0 (idx cI row 0),[d],cut row (IntKind.wrap .i64 (idx cI row 0+1)) ((row.length:Nat):Int)],()),())).bind fun(y3:(((List ab)×Unit)×Unit))=>some (y3.1,())) none) none=_;rw[h1,aD aN (by omega)];refine ae (yj (by omega)) (ae (Jc (by omega)) ?_);have key:∀a b R:List ab,a=row.take k→b=row.drop (k+1)→R=cp (row.set ((k:Int)).toNat d)→((FX G 196 pR (([a,[d],b],()),())).bind fun(y3:(((List ab)×Unit)×Unit))=>some (y3.1,()))=some ((R,()),()):=by intro a b R ha hb hR;subst ha hb hR;refine aa (V5 hG [row.take k,[d],row.drop (k+1)] (by simp) (by grind [total])) ?_;simp_all [congrArg,ab,Int.toNat_natCast,List.set_eq_take_append_cons_drop,if_pos]
  exact key _ _ _ (uL row k) (B9 row (by omega)) rfl
 ·have h1:=fq.2 ho;rw[if_neg (fun h=>ho h.1)];exact ae (decide_eq_true h1) (aa (Ek hG row (by omega)) rfl)
theorem agx(hG:HG G)(row:List ab)(d:ab)(hl:row.length≤100000000):FX G 200 GX ((row,d,()),())=some (Lu (dG row d (row.length-1)),()):=by
 refine av (hG _ _ rfl) ae9 ?_;have key:FX G 221 Dy ((row,(d,((IntKind.wrap .i64 (((row.length:Nat):Int)-1)),()))),())=some (Lu (dG row d (row.length-1)),()):=by
  refine av (hG _ _ rfl) aaF ?_;refine aa (Ei (hG _ _ rfl) row d (by omega)) ?_;unfold dG;by_cases hd:d∈row
  ·rw[if_pos hd];obtain⟨k,h1,h2,h3⟩:=eV hd;have aN:=(abC.1 h2).1;refine af (decide_eq_false (show ¬idx d row 0<0 by omega)) ?_;refine af (I3 hd) ?_;have hw:IntKind.wrap .i64 (((row.length:Nat):Int)-1)=((row.length-1:Nat):Int):=by grind [wrap_small]
   have Lh:IntKind.wrap .i64 (idx d row 0+IntKind.wrap .i64 (((row.length:Nat):Int)-1))=((k+(row.length-1):Nat):Int):=by
    grind [wrap_small]
   have zL:(k+(row.length-1))%row.length<row.length:=adJ _ (by omega);have hx:=aa8 zL;refine aa (show aU row (Int.tmod (IntKind.wrap .i64 (idx d row 0+IntKind.wrap .i64 (((row.length:Nat):Int)-1))) ((row.length:Nat):Int))=some row[(k+(row.length-1))%row.length] by rw[Lh,tn];exact aB hx) ?_;rw[h1,Int.toNat_natCast,hx];rfl
  ·rw[if_neg hd];exact ae (decide_eq_true (fq.2 hd)) rfl
 refine aa key ?_;rfl
end Go.Vs
