/- What the program computes at -/
import Derived.Test.YtpkfpbpbkabkdaaGreatPlaces
set_option linter.unusedVariables false
set_option linter.unusedSimpArgs false
namespace Go.Vs
open Go.Proofs
variable {G:(f:FuncId)→(g:aL)→Option (g.A→Option g.B)}
theorem get_at{s:ByteArray}{i:Nat}{c:UInt8}(h:s.data.toList[i]? = some c):s.get! i=c:=by
 have hi:i<s.data.size:=by have:=(ack.1 h).1;simpa using this
 have h2:=(ack.1 h).2;show s.data[i]! = c;rw[getElem!_pos s.data i hi,←h2];simp
theorem Nj{s:ByteArray}{i:Nat}(h:(s.get! i).toNat<128):Utf8.decode s i=((s.get! i).toNat,1):=by unfold Utf8.decode;simp only[Nat.add_zero];rw[if_pos h]
theorem Nk{s:ByteArray}{i:Nat}(h:¬(s.get! i).toNat<128):128≤(Utf8.decode s i).1:=by
 unfold Utf8.decode;simp only[Nat.add_zero];rw[if_neg h]
 repeat' split
 all_goals first|(simp_all only[Bool.and_eq_true,decide_eq_true_eq];omega)|decide|omega
theorem agO(hG:G 161 wi=none)(s:ByteArray)(hs:s.size≤100000000):∀(n i:Nat),i+n=s.size → LX G 161 wi Tryz.f161 wy (aN Tryz.prog 161 0) ((s,()),((),((s,i),())))=some ((((s.data.toList.drop i).all ke&&decide (s.size≤16),()),()):(Bool×Unit)×Unit):=by
 have hl:s.data.toList.length=s.size:=by simp
 intro n
 induction n with
 |zero =>intro i hi;refine au Qu ?_;refine af (decide_eq_false (show ¬(i<s.size) by omega)) ?_;refine congrArg (fun b:Bool=>some ((b,()),())) ?_;rw[List.drop_eq_nil_of_le (by omega),List.all_nil,Bool.true_and,Bool.eq_iff_iff];simp;omega
 |succ n ih =>
  intro i hi;have aF:i<s.data.toList.length:=by omega
  have hx:s.data.toList[i]? = some s.data.toList[i]:=aci aF;generalize s.data.toList[i]=c at hx;have hd:s.data.toList.drop i=c::s.data.toList.drop (i+1):=by rw[List.drop_eq_getElem_cons aF];rw[List.getElem?_eq_getElem aF]at hx;cases hx;rfl
  have hg:=get_at hx;refine au Qu ?_;refine ae (decide_eq_true (show i<s.size by omega)) ?_;show cond (decide (og s i<32)) _ (cond (decide (og s i>126)) _ (LX G 161 wi Tryz.f161 wy (aN Tryz.prog 161 0) ((s,()),((),((s,i+zt s i),())))))=_;rw[hd,List.all_cons];by_cases h1:c.toNat<128
  ·have hr:Utf8.decode s i=(c.toNat,1):=by rw[Nj (by rw[hg];exact h1),hg]
   have hr1:og s i=(c.toNat:Int):=by unfold og;rw[hr]
   have WL:zt s i=1:=by unfold zt;rw[hr]
   rw[hr1,WL];by_cases h2:c.toNat<32
   ·refine ae (decide_eq_true (by omega)) ?_;have:ke c=false:=by unfold ke;simp;omega
    rw[this];rfl
   refine af (decide_eq_false (by omega)) ?_;by_cases h3:126<c.toNat
   ·refine ae (decide_eq_true (by omega)) ?_;have:ke c=false:=by unfold ke;simp;omega
    rw[this];rfl
   refine af (decide_eq_false (by omega)) ?_;have:ke c=true:=by unfold ke;simp;omega
   rw[this,Bool.true_and];exact ih (i+1) (by omega)
  ·have h2:=Nk (s:=s) (i:=i) (by rw[hg];exact h1);have hr1:128≤og s i:=by unfold og;omega
   refine af (decide_eq_false (by omega)) (ae (decide_eq_true (by omega)) ?_);have:ke c=false:=by unfold ke;simp;omega
   rw[this];rfl
theorem agQ(hG:G 161 wi=none)(s:ByteArray)(hs:s.size≤100000000):FX G 161 wi ((s,()),())=some ((yw s,()),()):=by refine aq hG afL ?_;have:=agO hG s hs s.size 0 (by omega);rw[List.drop_zero]at this;exact this
theorem agR(hG:G 162 GZ=none)(n:Int):FX G 162 GZ ((n,()),())=some ((rZ n,()),()):=by refine aq hG afM ?_;show(cond (decide (n≥-1099511627776)) (some ((decide (n≤1099511627776),()),())) (some ((false,()),())):Option ((Bool×Unit)×Unit))=some ((rZ n,()),());unfold rZ;by_cases h1 : -1099511627776≤n<;>simp[h1]
def Nl(n:Int):Prop := -9223372036854775808≤n∧n<9223372036854775808
theorem Rb(x:BitVec 64):IntKind.wrap .i64 ((x.toNat:Nat):Int)=x.toInt:=by
 unfold IntKind.wrap;simp only[IntKind.bits,IntKind.signed];have h:=x.isLt;have h2:=BitVec.toInt_eq_toNat_cond x;rw[h2];simp
 split<;>split<;>omega
theorem ofInt_toInt{n:Int}(h:Nl n):(BitVec.ofInt 64 n).toInt=n:=by unfold Nl at h;rw[BitVec.toInt_ofInt];exact Int.bmod_eq_of_le (by omega) (by omega)
theorem T7{n:Int}(h:Nl n):(dR .andNot .i64 n 3==(0:Int))=decide (0≤n∧n≤3):=by
 have e:dR .andNot .i64 n 3=(BitVec.ofInt 64 n &&& ~~~(BitVec.ofInt 64 3)).toInt:=by unfold dR;exact Rb _
 rw[e,Bool.eq_iff_iff];simp only[beq_iff_eq,decide_eq_true_eq];generalize hx:BitVec.ofInt 64 n=x;have hn:=ofInt_toInt h;rw[hx]at hn;have h1:(x &&& ~~~(BitVec.ofInt 64 3)).toInt=0↔(x &&& ~~~(BitVec.ofInt 64 3))=0#64:=by
  constructor
  ·intro h;exact BitVec.eq_of_toInt_eq (by rw[h];rfl)
  ·intro h;rw[h];rfl
 rw[h1,←hn];constructor
 ·intro h;have h2:x=x &&& 3#64:=by
   have h3:x=(x &&& ~~~(BitVec.ofInt 64 3)) ||| (x &&& 3#64):=by
    ext i hi;simp only[BitVec.getElem_or,BitVec.getElem_and,BitVec.getElem_not];have:(BitVec.ofInt 64 3)=3#64:=rfl;rw[this]
    cases x[i]<;>cases (3#64)[i]<;>rfl
   rw[h]at h3;simpa using h3
  have h4:x.toNat≤3:=by rw[h2,BitVec.toNat_and];exact Nat.and_le_right
  rw[BitVec.toInt_eq_toNat_cond]
  split<;>omega
 ·intro h;have h4:x.toNat≤3:=by
   rw[BitVec.toInt_eq_toNat_cond]at h;have:=x.isLt
   split at h<;>omega
  have h5:x=0#64∨x=1#64∨x=2#64∨x=3#64:=by
   have:x.toNat=0∨x.toNat=1∨x.toNat=2∨x.toNat=3:=by omega
   rcases this with h|h|h|h
   ·exact .inl (BitVec.eq_of_toNat_eq (by rw[h];rfl))
   ·exact .inr (.inl (BitVec.eq_of_toNat_eq (by rw[h];rfl)))
   ·exact .inr (.inr (.inl (BitVec.eq_of_toNat_eq (by rw[h];rfl))))
   ·exact .inr (.inr (.inr (BitVec.eq_of_toNat_eq (by rw[h];rfl))))
  rcases h5 with rfl|rfl|rfl|rfl<;>decide
theorem T8{n:Int}(h:Nl n):(dR .andNot .i64 n 1==(0:Int))=decide (n=0∨n=1):=by
 have e:dR .andNot .i64 n 1=(BitVec.ofInt 64 n &&& ~~~(BitVec.ofInt 64 1)).toInt:=by unfold dR;exact Rb _
 rw[e,Bool.eq_iff_iff];simp only[beq_iff_eq,decide_eq_true_eq];generalize hx:BitVec.ofInt 64 n=x;have hn:=ofInt_toInt h;rw[hx]at hn;have h1:(x &&& ~~~(BitVec.ofInt 64 1)).toInt=0↔(x &&& ~~~(BitVec.ofInt 64 1))=0#64:=by
  constructor
  ·intro h;exact BitVec.eq_of_toInt_eq (by rw[h];rfl)
  ·intro h;rw[h];rfl
 rw[h1,←hn];constructor
 ·intro h;have h2:x=x &&& 1#64:=by
   have h3:x=(x &&& ~~~(BitVec.ofInt 64 1)) ||| (x &&& 1#64):=by
    ext i hi;simp only[BitVec.getElem_or,BitVec.getElem_and,BitVec.getElem_not];have:(BitVec.ofInt 64 1)=1#64:=rfl;rw[this]
    cases x[i]<;>cases (1#64)[i]<;>rfl
   rw[h]at h3;simpa using h3
  have h4:x.toNat≤1:=by rw[h2,BitVec.toNat_and];exact Nat.and_le_right
  rw[BitVec.toInt_eq_toNat_cond]
  split<;>omega
 ·intro h;have h4:x.toNat≤1:=by
   rw[BitVec.toInt_eq_toNat_cond]at h;have:=x.isLt
   split at h<;>omega
  have h5:x=0#64∨x=1#64:=by
   have:x.toNat=0∨x.toNat=1:=by omega
   rcases this with h|h
   ·exact .inl (BitVec.eq_of_toNat_eq (by rw[h];rfl))
   ·exact .inr (BitVec.eq_of_toNat_eq (by rw[h];rfl))
  rcases h5 with rfl|rfl<;>decide
theorem abA(hG:HG G)(d:ab)(h:Nl d.2):FX G 190 G5 ((d,()),())=some ((J2 d,()),()):=by
 refine aq (hG _ _ rfl) ZC ?_;refine aa (Ni (hG _ _ rfl) d.1) ?_;unfold J2
 cases cW d.1
 ·rfl
 ·exact ae rfl (congrArg (fun b:Bool=>some ((b,()),())) (T8 h))
theorem abB(hG:HG G)(c:pq)(h:Nl c.2.2):FX G 160 CN ((c,()),())=some ((yx c,()),()):=by
 refine aq (hG _ _ rfl) afK ?_;refine aa (Ni (hG _ _ rfl) c.1) ?_;unfold yx
 cases cW c.1
 ·rfl
 refine ae rfl ?_;have hb:(((c.2.1.1==(0:Int))&&(c.2.1.2==(0:Int)))&&(c.2.2==(0:Int)))=decide (c.2=zD):=kz c.2 zD;by_cases hz:c.2=zD
 ·refine ae (hb.trans (decide_eq_true hz)) ?_;rw[decide_eq_true hz,Bool.or_true];rfl
 ·refine af (hb.trans (decide_eq_false hz)) ?_;refine aa (abA hG c.2 h) ?_;rw[decide_eq_false hz,Bool.or_false];rfl
structure Fit(o:aY):Prop where
 a:Nl (oA o).2.2
 b:Nl (oB o).2.2
 n:Nl (oN o)
 t:tB o
def BD(o:aY):aY :=if o.1=6 then(o.1,(aW o,(zI,(ba o,(zC,(zC,(false,(e0,0))))))))
 else if o.1=3 then(o.1,(aW o,(zI,(zI,(oA o,(oB o,(false,(e0,0))))))))
 else if o.1=5 then(o.1,(aW o,(eL o,(ba o,(zC,(zC,(false,(e0,oN o))))))))
 else if o.1=7 then(o.1,(aW o,(zI,(zI,(zC,(zC,(mV o,(nO o,0))))))))
 else if o.1=8 then(o.1,(aW o,(zI,(zI,(zC,(zC,(mV o,(e0,oN o))))))))
 else(o.1,(aW o,(zI,(zI,(zC,(zC,(false,(e0,0))))))))
def Fl(o:aY):Int :=if o.1=6 then(if cW (aW o)=true∧cW (ba o)=true then 0 else 1)
 else if o.1=3 then(if cW (aW o)=true∧yx (oA o)=true∧yx (oB o)=true then 0 else 1)
 else if o.1=5 then(if cW (aW o)=true∧cW (eL o)=true∧cW (ba o)=true∧0≤oN o∧oN o≤3 then 0 else 1)
 else if o.1=7 then(if cW (aW o)=true then(if yw (nO o)=true then 0 else 4) else 1)
 else if o.1=8 then(if cW (aW o)=true∧rZ (oN o)=true then 0 else 1)
 else if o.1=1∨o.1=2∨o.1=4 then(if cW (aW o)=true then 0 else 1)
 else 1
theorem FM{o:aY}{k:Int}(h:o.1=k):(o.1==k)=true:=by simp[h]
theorem yc{o:aY}{k:Int}(h:¬o.1=k):(o.1==k)=false:=by simp[h]
theorem agS(hG:HG G)(o:aY)(hf:Fit o):FX G 132 PJ ((o,()),())=some ((BD o,(Fl o,())),()):=by
 refine aq (hG _ _ rfl) afs ?_;refine aa (Ni (hG _ _ rfl) (aW o)) ?_;unfold BD Fl;by_cases h1:o.1=1
 ·refine ae (FM h1) (ae (FM h1) ?_);rw[if_neg (by omega),if_neg (by omega),if_neg (by omega),if_neg (by omega),if_neg (by omega),if_neg (by omega),if_neg (by omega),if_neg (by omega),if_neg (by omega),if_neg (by omega),if_pos (by omega)]
  cases cW (aW o)<;>rfl
 refine af (yc h1) ?_;by_cases h2:o.1=2
 ·refine ae (FM h2) (ae (FM h2) ?_);rw[if_neg (by omega),if_neg (by omega),if_neg (by omega),if_neg (by omega),if_neg (by omega),if_neg (by omega),if_neg (by omega),if_neg (by omega),if_neg (by omega),if_neg (by omega),if_pos (by omega)]
  cases cW (aW o)<;>rfl
 refine af (yc h2) ?_;by_cases h4:o.1=4
 ·refine ae (FM h4) ?_;rw[if_neg (by omega),if_neg (by omega),if_neg (by omega),if_neg (by omega),if_neg (by omega),if_neg (by omega),if_neg (by omega),if_neg (by omega),if_neg (by omega),if_neg (by omega),if_pos (by omega)]
  cases cW (aW o)<;>rfl
 refine af (yc h4) ?_;by_cases h6:o.1=6
 ·refine ae (FM h6) ?_;rw[if_pos h6,if_pos h6]
  cases cW (aW o)
  ·rfl
  refine ae rfl (aa (Ni (hG _ _ rfl) (ba o)) ?_)
  cases cW (ba o)<;>rfl
 refine af (yc h6) ?_;rw[if_neg h6,if_neg h6];by_cases h3:o.1=3
 ·refine ae (FM h3) ?_;rw[if_pos h3,if_pos h3]
  cases cW (aW o)
  ·rfl
  refine ae rfl (aa (abB hG (oA o) hf.a) ?_)
  cases yx (oA o)
  ·rfl
  refine ae rfl (aa (abB hG (oB o) hf.b) ?_)
  cases yx (oB o)<;>rfl
 refine af (yc h3) ?_;rw[if_neg h3,if_neg h3];by_cases h5:o.1=5
 ·refine ae (FM h5) ?_;rw[if_pos h5,if_pos h5]
  cases cW (aW o)
  ·rfl
  refine ae rfl (aa (Ni (hG _ _ rfl) (eL o)) ?_)
  cases cW (eL o)
  ·rfl
  refine ae rfl (aa (Ni (hG _ _ rfl) (ba o)) ?_)
  cases cW (ba o)
  ·rfl
  refine ae rfl (bj (T7 hf.n) ?_);by_cases h:0≤oN o∧oN o≤3
  ·rw[decide_eq_true h,if_pos ⟨rfl,rfl,rfl,h⟩];rfl
  ·rw[decide_eq_false h,if_neg (fun k=>h k.2.2.2)];rfl
 refine af (yc h5) ?_;rw[if_neg h5,if_neg h5];by_cases h7:o.1=7
 ·refine ae (FM h7) ?_;rw[if_pos h7,if_pos h7];refine aa (agQ (hG _ _ rfl) (nO o) hf.t) ?_
  cases yw (nO o)<;>cases cW (aW o)<;>rfl
 refine af (yc h7) ?_;rw[if_neg h7,if_neg h7];by_cases h8:o.1=8
 ·refine ae (FM h8) ?_;rw[if_pos h8,if_pos h8]
  cases cW (aW o)
  ·rfl
  refine ae rfl (aa (agR (hG _ _ rfl) (oN o)) ?_)
  cases rZ (oN o)<;>rfl
 refine af (yc h8) ?_;rw[if_neg h8,if_neg h8,if_neg (by omega)];rfl
theorem Nm(o:aY)(h1:1≤o.1)(h8:o.1≤8):vl (BD o) o=vl (sK o) Vz:=by
 rw[Bool.eq_iff_iff,vm,vm];obtain⟨k,i,n,m,⟨a1,a2⟩,⟨b1,b2⟩,f,t,q⟩:=o;simp only at h1 h8;unfold BD sK Vz;have:k=1∨k=2∨k=3∨k=4∨k=5∨k=6∨k=7∨k=8:=by omega
 rcases this with rfl|rfl|rfl|rfl|rfl|rfl|rfl|rfl<;>simp only[Int.reduceEq,if_true,if_false]<;>constructor<;>intro h<;>simp only[zC,Prod.mk.injEq,true_and,and_true]at h ⊢<;>grind
theorem agT(hG:HG G)(o:aY)(hf:Fit o):FX G 104 PE ((o,()),())=some ((cj o,()),()):=by
 refine aq (hG _ _ rfl) ae7 ?_;refine aa (agS hG o hf) ?_;refine bj (b:=vl (BD o) o) rfl ?_;unfold cj;by_cases h1:o.1<1
 ·rw[if_pos h1];have:Fl o=1:=by unfold Fl;rw[if_neg (by omega),if_neg (by omega),if_neg (by omega),if_neg (by omega),if_neg (by omega),if_neg (by omega)]
  rw[this];cases vl (BD o) o<;>rfl
 rw[if_neg h1];by_cases h8:8<o.1
 ·rw[if_pos h8];have:Fl o=1:=by unfold Fl;rw[if_neg (by omega),if_neg (by omega),if_neg (by omega),if_neg (by omega),if_neg (by omega),if_neg (by omega)]
  rw[this];cases vl (BD o) o<;>rfl
 rw[if_neg h8,Nm o (by omega) (by omega)];have hk:o.1=1∨o.1=2∨o.1=3∨o.1=4∨o.1=5∨o.1=6∨o.1=7∨o.1=8:=by omega
 by_cases hm:cW (aW o)=true
 case neg =>
  have hb:Fl o=1:=by unfold Fl;rcases hk with h|h|h|h|h|h|h|h<;>simp[h,hm]
  rw[if_pos (by simpa using hm),hb];cases vl (sK o) Vz<;>rfl
 rw[if_neg (by simp[hm])]
 cases vl (sK o) Vz
 ·rw[if_pos rfl];rfl
 rw[if_neg (by simp)];refine af rfl ?_;refine congrArg (fun n:Int=>some ((n,()),())) ?_;unfold Fl;rcases hk with h|h|h|h|h|h|h|h<;>simp[h,hm]
theorem abC(hG:HG G)(l:List aY)(hl:l.length≤1073741824)(hf:∀o∈l,Fit o):FX G 66 ER ((l,()),())=some ((cg l,()),()):=by
 refine aq (hG _ _ rfl) afm ?_;unfold cg;by_cases h0:l.length=0
 ·refine ae (show(((l.length:Nat):Int)==0)=true by simp[h0]) ?_;rw[if_neg (by omega)];rfl
 refine af (show(((l.length:Nat):Int)==0)=false by rw[beq_eq_false_iff_ne];omega) ?_;by_cases h6:6<l.length
 ·refine ae (decide_eq_true (show((l.length:Nat):Int)>6 by omega)) ?_;rw[if_neg (by omega)];rfl
 refine af (decide_eq_false (show ¬((l.length:Nat):Int)>6 by omega)) ?_;rw[if_pos (by omega)];have loop:∀(n i:Nat),i+n=l.length→LX G 66 ER Tryz.f66 Bf (aN Tryz.prog 66 0) ((l,(((l.length:Nat):Int),((i:Int),()))),((),()))=some ((gT (l.drop i),()),()):=by
  intro n
  induction n with
  |zero =>intro i hi;refine au Ql ?_;refine af (decide_eq_false (show ¬((i:Int)<((l.length:Nat):Int)) by omega)) ?_;rw[List.drop_eq_nil_of_le (by omega)];rfl
  |succ n ih =>
   intro i hi;have aF:i<l.length:=by omega
   refine au Ql ?_;refine ae (aX aF) (aa (aJ (aci aF)) ?_);refine aa (agT hG l[i] (hf _ (adr aF))) ?_;rw[List.drop_eq_getElem_cons aF,gT];by_cases hz:cj l[i]=0
   ·rw[if_neg (by simp[hz])];refine af (show(cj l[i] != 0)=false by simp[hz]) ?_;rw[wI,aG aF hl];exact ih (i+1) (by omega)
   ·rw[if_pos hz];exact ae (show(cj l[i] != 0)=true by simp[hz]) rfl
 have:=loop l.length 0 (by omega);rw[List.drop_zero]at this;exact this
theorem VD(hG:HG G)(v:ah)(x:ID):FX G 214 Dt ((v,x,()),())=some ((qH v.1 x,()),()):=by refine aq (hG _ _ rfl) ZZ ?_;exact aa (QX hG v.1 x) rfl
def bZ(l:List ah)(x:ID):Nat:=l.countP fun v=>fL v.1 x
def dh(l:List ah):Prop:=l.Pairwise fun a b=>fL a.1 b.1=true
theorem Fm(l:List ah)(x:ID):bZ l x≤l.length:=adI
theorem rJ{l:List ah}{x:ID}(h:∀v∈l,fL v.1 x=false):bZ l x=0:=by unfold bZ;rw[List.countP_eq_zero];intro v hv;simp[h v hv]
theorem wM{x:ID}:∀{l:List ah},dh l→∀(k:Nat) (v:ah),l[k]? = some v→(fL v.1 x=true↔k<bZ l x)
 |[],_,k,v,h=>by simp at h
 |w::r,hs,k,v,h=>by
  have hw:∀{u:ah},u∈r→fL w.1 u.1=true:=fun {u} hu=>adn hs hu;have hr:dh r:=hs.of_cons;by_cases aF:fL w.1 x=true
  ·have e:bZ (w::r) x=bZ r x+1:=by unfold bZ;rw[List.countP_cons_of_pos (by simpa using aF)]
   cases k with
   |zero=>simp at h;subst h;simp[aF,e]
   |succ k=>have:=wM (x:=x) hr k v (by simpa using h);rw[this,e];omega
  ·have hn:∀u∈w::r,fL u.1 x=false:=fun u hu=>by
    rcases acn.1 hu with rfl|hu
    ·simpa using aF
    ·rw[Bool.eq_false_iff];intro h2;exact aF (iA (hw hu) h2)
   rw[rJ hn,hn v (List.mem_of_getElem? h)];simp
theorem Rc(hG:HG G)(l:List ah)(x:ID)(hs:dh l)(hl:l.length≤50000000):∀(n i j:Nat),j-i≤n→i≤bZ l x→bZ l x≤j→j≤l.length → LX G 215213 iW Tryz.f213 ig (aN Tryz.prog 213 0) ((l,(((l.length:Nat):Int),((i:Int),((j:Int),())))),(((x,()),()),()))=some (((((bZ l x:Nat):Int),(decide ((l[bZ l x]?).map (·.1)=some x),())):Int×(Bool×Unit)),()):=by
 have rU:=Fm l x;have fin:∀(i j:Nat),¬(i<j)→i≤bZ l x→bZ l x≤j→LX G 215213 iW Tryz.f213 ig (aN Tryz.prog 213 0) ((l,(((l.length:Nat):Int),((i:Int),((j:Int),())))),(((x,()),()),()))=some (((((bZ l x:Nat):Int),(decide ((l[bZ l x]?).map (·.1)=some x),())):Int×(Bool×Unit)),()):=fun i j zZ h1 h2=>by
  have hi:i=bZ l x:=by omega
  subst hi;refine au Bl ?_;refine af (decide_eq_false (show ¬(((bZ l x:Nat):Int)<(j:Int)) by omega)) ?_;by_cases hc:bZ l x<l.length
  ·have hx:l[bZ l x]? = some l[bZ l x]:=aci hc;refine ae (aX hc) ?_;refine aa (aJ hx) ?_;refine aa (VD hG l[bZ l x] x) ?_;refine congrArg (fun b:Bool=>some ((((bZ l x:Nat):Int),(b,())),())) ?_;rw[hx];unfold qH;by_cases he:l[bZ l x].1=x
   ·simp[he]
   ·simp[he];split<;>simp
  ·refine af (decide_eq_false (show ¬(((bZ l x:Nat):Int)<((l.length:Nat):Int)) by omega)) ?_;refine congrArg (fun b:Bool=>some ((((bZ l x:Nat):Int),(b,())),())) ?_;rw[List.getElem?_eq_none (by omega)];simp
 intro n
 induction n with
 |zero=>intro i j zZ h1 h2 h3;exact fin i j (by omega) h1 h2
 |succ n ih =>
  intro i j zZ h1 h2 h3;by_cases aF:i<j
  case neg=>exact fin i j aF h1 h2
  refine au Bl ?_;refine ae (decide_eq_true (show((i:Int)<(j:Int)) by omega)) ?_;refine af rfl ?_;have hm:=J6 (i:=i) (j:=j) (by omega) (by omega);have hh:(i+j) / 2<l.length:=by omega
  have hx:l[(i+j) / 2]? = some l[(i+j) / 2]:=aci hh;have nE:=wM (x:=x) hs ((i+j) / 2) _ hx;refine aa (show aT l (IntKind.wrap .i64 (kJ .u64 (IntKind.wrap .u64 (IntKind.wrap .i64 ((i:Int)+(j:Int)))) (1:Int)))=some l[(i+j) / 2] by rw[hm];exact aJ hx) ?_;refine aa (VD hG l[(i+j) / 2] x) ?_;by_cases ho:fL l[(i+j) / 2].1 x=true
  ·refine ae (decide_eq_true ((mA _ _).2 ho)) ?_;have hc:=nE.1 ho;have hw:IntKind.wrap .i64 (IntKind.wrap .i64 (kJ .u64 (IntKind.wrap .u64 (IntKind.wrap .i64 ((i:Int)+(j:Int)))) (1:Int))+1)=(((i+j) / 2+1:Nat):Int):=by rw[hm];exact aG hh (by omega)
   have:=ih ((i+j) / 2+1) j (by omega) (by omega) h2 h3;rw[←hw]at this;exact this
  ·refine af (decide_eq_false (fun h=>ho ((mA _ _).1 h))) ?_;have hc:¬(i+j) / 2<bZ l x:=fun h=>ho (nE.2 h);have:=ih i ((i+j) / 2) (by omega) h1 (by omega) (by omega);rw[←hm]at this;exact this
theorem Rd(hG:HG G)(l:List ah)(x:ID)(hs:dh l)(hl:l.length≤50000000) :
  FX G 215213 iW ((l,x,()),())=some (((((bZ l x:Nat):Int),(decide ((l[bZ l x]?).map (·.1)=some x),())):Int×(Bool×Unit)),()):=by
 refine aq (hG _ _ rfl) Qy ?_;exact Rc hG l x hs hl l.length 0 l.length (by omega) (by omega) (Fm l x) (adg _)
theorem nS(hG:HG G)(w:aQ)(x:ID)(hs:dh w.2.1)(hl:w.2.1.length≤50000000) :
  FX G 182 mw ((x,()),(w,()))=some (((((bZ w.2.1 x:Nat):Int),(decide ((w.2.1[bZ w.2.1 x]?).map (·.1)=some x),())):Int×(Bool×Unit)),(w,())):=by
 refine aq (hG _ _ rfl) ZI ?_;exact aa (Rd hG w.2.1 x hs hl) rfl
theorem wN{x:ID}:∀{l:List ah},dh l→aV l x=(l[bZ l x]?).filter fun v=>decide (v.1=x)
 |[],_=>rfl
 |w::r,hs=>by
  have hw:∀{u:ah},u∈r→fL w.1 u.1=true:=fun {u} hu=>adn hs hu;have hr:dh r:=hs.of_cons;by_cases aF:fL w.1 x=true
  ·have e:bZ (w::r) x=bZ r x+1:=by unfold bZ;rw[List.countP_cons_of_pos (by simpa using aF)]
   have bq:¬w.1=x:=fun e=>by rw[e,b7]at aF;cases aF
   rw[e];simp only[aV,List.find?_cons,bq,decide_false,List.getElem?_cons_succ];exact wN hr
  ·have hn:∀u∈w::r,fL u.1 x=false:=fun u hu=>by
    rcases acn.1 hu with rfl|hu
    ·simpa using aF
    ·rw[Bool.eq_false_iff];intro h2;exact aF (iA (hw hu) h2)
   rw[rJ hn];by_cases he:w.1=x
   ·simp[aV,List.find?_cons,he,Option.filter]
   ·have IU:fL x w.1=true:=la (by simpa using aF) he;have:aV r x=none:=by
     unfold aV;rw[List.find?_eq_none];intro u hu h2;have h3:u.1=x:=by simpa using h2
     have h4:=hw hu;rw[h3]at h4;have:=k9 h4;rw[IU]at this;cases this
    rw[show aV (w::r) x=aV r x by simp only[aV,List.find?_cons,he,decide_false],this];simp[he,Option.filter]
theorem dd{l:List ah}{x:ID}(hs:dh l):decide ((l[bZ l x]?).map (·.1)=some x)=(aV l x).isSome:=by
 rw[wN hs]
 cases h:l[bZ l x]? with
 |none=>simp
 |some v=>by_cases he:v.1=x<;>simp[he,Option.filter]
theorem HS(v:ah):∀{l:List ah},dh l→aV l v.1=none→dq v l=l.take (bZ l v.1)++(v::l.drop (bZ l v.1))
 |[],_,_=>rfl
 |w::r,hs,hf=>by
  have hw:∀{u:ah},u∈r→fL w.1 u.1=true:=fun {u} hu=>adn hs hu;have hr:dh r:=hs.of_cons;have bq:¬w.1=v.1:=fun e=>by simp[aV,e]at hf
  have CG:aV r v.1=none:=by simpa[aV,List.find?_cons,bq] using hf
  by_cases aF:fL w.1 v.1=true
  ·have e:bZ (w::r) v.1=bZ r v.1+1:=by unfold bZ;rw[List.countP_cons_of_pos (by simpa using aF)]
   have U5:fL v.1 w.1=false:=k9 aF;rw[e,dq,if_neg (by simp[U5]),HS v hr CG];rfl
  ·have hn:∀u∈w::r,fL u.1 v.1=false:=fun u hu=>by
    rcases acn.1 hu with rfl|hu
    ·simpa using aF
    ·rw[Bool.eq_false_iff];intro h2;exact aF (iA (hw hu) h2)
   have IU:fL v.1 w.1=true:=la (by simpa using aF) bq;rw[rJ hn,dq,if_pos IU];rfl
theorem wO{x:ID}:∀{l:List ah},dh l→(aV l x).isSome=true→cS l x=l.take (bZ l x)++l.drop (bZ l x+1)
 |[],_,hf=>by simp[aV]at hf
 |w::r,hs,hf=>by
  have hw:∀{u:ah},u∈r→fL w.1 u.1=true:=fun {u} hu=>adn hs hu;have hr:dh r:=hs.of_cons;by_cases he:w.1=x
  ·have hn:∀u∈w::r,fL u.1 x=false:=fun u hu=>by
    rcases acn.1 hu with rfl|hu
    ·rw[he,b7]
    ·rw[←he];exact k9 (hw hu)
   have fe:cS r x=r:=by unfold cS;rw[List.filter_eq_self];intro u hu;have h4:=hw hu;simp;intro e2;rw[he,e2,b7]at h4;cases h4
   rw[rJ hn];unfold cS;rw[List.filter_cons_of_neg (by simp[he])];exact fe
  ·have CG:(aV r x).isSome=true:=by simpa[aV,List.find?_cons,he] using hf
   have aF:fL w.1 x=true:=by
    obtain⟨u,hu⟩:=adi.1 CG;have h1:=adt hu;have h2:u.1=x:=by simpa using adC hu
    rw[←h2];exact hw h1
   have e:bZ (w::r) x=bZ r x+1:=by unfold bZ;rw[List.countP_cons_of_pos (by simpa using aF)]
   rw[e];have:=wO hr CG;simp[cS,List.filter_cons,he]at this ⊢;exact this
theorem wP(v:ah):∀{l:List ah},dh l→aV l v.1=none→dh (dq v l)
 |[],_,_=>List.pairwise_singleton _ _
 |w::r,hs,hf=>by
  have hw:∀{u:ah},u∈r→fL w.1 u.1=true:=fun {u} hu=>adn hs hu;have hr:dh r:=hs.of_cons;have bq:¬w.1=v.1:=fun e=>by simp[aV,e]at hf
  have CG:aV r v.1=none:=by simpa[aV,List.find?_cons,bq] using hf
  unfold dq
  split
  ·rename_i h;refine List.Pairwise.cons (fun u hu=>?_) hs;rcases acn.1 hu with rfl|hu
   ·exact h
   ·exact iA h (hw hu)
  ·rename_i h;have aF:fL w.1 v.1=true:=la (by simpa using h) (fun e=>bq e.symm);refine List.Pairwise.cons (fun u hu=>?_) (wP v hr CG);rcases nP.1 hu with rfl|hu
   ·exact aF
   ·exact hw hu
theorem tC{l:List ah}{x:ID}(hs:dh l):dh (cS l x):=hs.filter _
theorem cZ{l:List ag}{x:ID}{v:ag}(hs:bY l)(h:aR l x=some v):l[bD l x]? = some v:=by
 have kg:=rI (x:=x) hs;rw[h]at kg
 cases hg:l[bD l x]? with
 |none=>rw[hg]at kg;simp[Option.filter]at kg
 |some u =>
  rw[hg]at kg;simp only[Option.filter]at kg
  split at kg
  ·exact kg.symm
  ·cases kg
theorem kh{l:List ag}{x:ID}{v:ag}(h:aR l x=some v):v.1=x:=by simpa using adC h
theorem gm{l:List ag}{x:ID}{v:ag}(h:aR l x=some v):v∈l:=adt h
theorem jF{l:List ag}{x:ID}{k:Nat}{u:ag}(hs:bY l)(hk:l[k]? = some u)(hu:u.1=x):k=bD l x:=by
 have h1:¬k<bD l x:=fun h=>by have:=(wK hs k u hk).2 h;rw[hu,b7]at this;cases this
 have hf:(aR l x).isSome=true:=by unfold aR;rw[List.find?_isSome];exact⟨u,adj hk,by simp[hu]⟩
 obtain⟨v,hv⟩:=adi.1 hf;have hg:=cZ hs hv;by_cases h2:bD l x<k
 ·obtain⟨h3,h4⟩:=ack.1 hg;obtain⟨h5,h6⟩:=ack.1 hk;have:=adT.1 hs _ _ h3 h5 h2;rw[h4,h6,kh hv,hu,b7]at this;cases this
 ·omega
theorem HT{l:List ag}{x:ID}{v:ag}(hs:bY l)(h:aR l x=some v)(g f:ag→ag)(h1:∀w,w.1=x→g w=f w)(h2:∀w,w.1≠x→g w=w):l.map g=l.set (bD l x) (f v):=by
 have hg:=cZ hs h;apply adK;intro k;rw[List.getElem?_map,List.getElem?_set];by_cases hk:bD l x=k
 ·subst hk;rw[if_pos rfl,if_pos (List.getElem?_eq_some_iff.1 hg).1,hg];simp[h1 v (kh h)]
 ·rw[if_neg hk]
  cases hu:l[k]? with
  |none=>rfl
  |some u =>have:u.1≠x:=fun e=>hk (jF hs hu e).symm;simp[h2 u this]
theorem lX{l:List ah}{x:ID}{v:ah}(hs:dh l)(h:aV l x=some v):l[bZ l x]? = some v:=by
 have kg:=wN (x:=x) hs;rw[h]at kg
 cases hg:l[bZ l x]? with
 |none=>rw[hg]at kg;simp[Option.filter]at kg
 |some u =>
  rw[hg]at kg;simp only[Option.filter]at kg
  split at kg
  ·exact kg.symm
  ·cases kg
theorem vn{l:List ah}{x:ID}{v:ah}(h:aV l x=some v):v.1=x:=by simpa using adC h
theorem Nn{l:List ah}{x:ID}{v:ah}(h:aV l x=some v):v∈l:=adt h
theorem No{l:List ah}{x:ID}{k:Nat}{u:ah}(hs:dh l)(hk:l[k]? = some u)(hu:u.1=x):k=bZ l x:=by
 have h1:¬k<bZ l x:=fun h=>by have:=(wM hs k u hk).2 h;rw[hu,b7]at this;cases this
 have hf:(aV l x).isSome=true:=by unfold aV;rw[List.find?_isSome];exact⟨u,adj hk,by simp[hu]⟩
 obtain⟨v,hv⟩:=adi.1 hf;have hg:=lX hs hv;by_cases h2:bZ l x<k
 ·obtain⟨h3,h4⟩:=ack.1 hg;obtain⟨h5,h6⟩:=ack.1 hk;have:=adT.1 hs _ _ h3 h5 h2;rw[h4,h6,vn hv,hu,b7]at this;cases this
 ·omega
theorem Re{l:List ah}{x:ID}{v:ah}(hs:dh l)(h:aV l x=some v)(g f:ah→ah)(h1:∀w,w.1=x→g w=f w)(h2:∀w,w.1≠x→g w=w):l.map g=l.set (bZ l x) (f v):=by
 have hg:=lX hs h;apply adK;intro k;rw[List.getElem?_map,List.getElem?_set];by_cases hk:bZ l x=k
 ·subst hk;rw[if_pos rfl,if_pos (List.getElem?_eq_some_iff.1 hg).1,hg];simp[h1 v (vn h)]
 ·rw[if_neg hk]
  cases hu:l[k]? with
  |none=>rfl
  |some u =>have:u.1≠x:=fun e=>hk (No hs hu e).symm;simp[h2 u this]
theorem dh.map{l:List ah}(h:dh l){f:ah→ah}(hf:∀v,(f v).1=v.1):dh (l.map f):=by unfold dh at h ⊢;rw[List.pairwise_map];exact h.imp fun {a b} Cq=>by rw[hf,hf];exact Cq
theorem sL{α R:Type}{o:Option α}{a r:Option R}{f:α→Option R}{p:α}(h:o=some p)(k:f p=r):pZ o a f=r:=by subst h;exact k
theorem Lx{α R:Type}{o:Option α}{a r:Option R}{f:α→Option R}(h:o=none)(k:a=r):pZ o a f=r:=by subst h;exact k
def sM(w:aQ)(x:ID):Int×aQ :=if(aV w.2.1 x).isSome=true then(12,w) else if 40≤w.2.1.length then(3,w) else(0,(w.1,(dq (x,(e0,0)) w.2.1,w.2.2)))
theorem VF(hG:HG G)(w:aQ)(x:ID)(hs:dh w.2.1)(hl:w.2.1.length≤50000000):FX G 178 xN ((x,()),(w,()))=some (((sM w x).1,()),((sM w x).2,())):=by
 refine aq (hG _ _ rfl) ZE ?_;refine aa (nS hG w x hs hl) ?_;unfold sM
 cases hf:(aV w.2.1 x).isSome
 ·rw[if_neg (by simp)];refine af ((dd hs).trans hf) ?_;by_cases h2:40≤w.2.1.length
  ·rw[if_pos h2];exact ae (decide_eq_true (show((w.2.1.length:Nat):Int)≥40 by omega)) rfl
  ·rw[if_neg h2];refine af (decide_eq_false (show ¬((w.2.1.length:Nat):Int)≥40 by omega)) ?_;have hc:=Fm w.2.1 x;have lu:p6 w.2.1 ((bZ w.2.1 x:Nat):Int) [((x,(e0,0)):ah)]=true:=by unfold p6;rw[decide_eq_true (show(0:Int)≤((bZ w.2.1 x:Nat):Int) by omega),decide_eq_true (show((bZ w.2.1 x:Nat):Int)≤((w.2.1.length:Nat):Int) by omega)];rw[fits (by simp;omega)];rfl
   refine ae lu ?_;have e:fO w.2.1 ((bZ w.2.1 x:Nat):Int) [((x,(e0,0)):ah)]=dq (x,(e0,0)) w.2.1:=by rw[HS (x,(e0,0)) hs (by simpa using hf)];unfold fO;simp
   exact congrArg (fun l:List ah=>some (((0:Int),()),((w.1,(l,w.2.2)),()))) e
 ·rw[if_pos rfl];exact ae ((dd hs).trans hf) rfl
def BE(w:aQ)(o:aY):Option (Fin 2×Nat) :=if mV o=true then(if(aV w.2.1 (aW o)).isSome=true then some (⟨1,by decide⟩,bZ w.2.1 (aW o)) else none)
 else(if(aR w.1 (aW o)).isSome=true then some (⟨0,by decide⟩,bD w.1 (aW o)) else none)
theorem abD(hG:HG G)(w:aQ)(o:aY)(hv:bY w.1)(he:dh w.2.1)(VG:w.1.length≤50000000)(hle:w.2.1.length≤50000000) :
  FX G 189 G8 ((o,()),(w,()))=some ((BE w o,(BE w o,())),(w,())):=by
 refine aq (hG _ _ rfl) ZQ ?_;unfold BE;by_cases ho:mV o=true
 ·rw[if_pos ho];refine ae ho ?_;refine aa (nS hG w (aW o) he hle) ?_
  cases hf:aV w.2.1 (aW o) with
  |none =>refine af ((dd he).trans (by rw[hf];rfl)) ?_;rfl
  |some e =>refine ae ((dd he).trans (by rw[hf];rfl)) ?_;have aF:=(ack.1 (lX he hf)).1;refine ae (db (eQ _) (aX aF)) ?_;exact ae (db (eQ _) (aX aF)) rfl
 ·rw[if_neg ho];refine af (by simpa using ho) ?_;refine aa (pH hG w (aW o) hv VG) ?_
  cases hf:aR w.1 (aW o) with
  |none =>refine af ((fw hv).trans (by rw[hf];rfl)) ?_;rfl
  |some e =>refine ae ((fw hv).trans (by rw[hf];rfl)) ?_;have aF:=(ack.1 (cZ hv hf)).1;refine ae (db (eQ _) (aX aF)) ?_;exact ae (db (eQ _) (aX aF)) rfl
def tD(w:aQ)(o:aY):Int×aQ :=if mV o=true then(if(aV w.2.1 (aW o)).isSome=true then(0,(w.1,(w.2.1.map (jE o),w.2.2))) else(13,w))
 else(if(aR w.1 (aW o)).isSome=true then(0,(w.1.map (iH o),w.2)) else(13,w))
theorem agU(hG:HG G)(w:aQ)(o:aY)(hv:bY w.1)(he:dh w.2.1)(VG:w.1.length≤50000000)(hle:w.2.1.length≤50000000) :
  FX G 158 PN ((o,()),(w,()))=some (((tD w o).1,()),((tD w o).2,())):=by
 refine aq (hG _ _ rfl) afP ?_;refine aa (abD hG w o hv he VG hle) ?_;by_cases ho:mV o=true
 ·cases hf:aV w.2.1 (aW o) with
  |none =>
   have e1:BE w o=none:=by unfold BE;rw[if_pos ho,hf];rfl
   have e2:tD w o=(13,w):=by unfold tD;rw[if_pos ho,hf];rfl
   rw[e2];exact Lx e1 (Lx e1 rfl)
  |some e =>
   have e1:BE w o=some (⟨1,by decide⟩,bZ w.2.1 (aW o)):=by unfold BE;rw[if_pos ho,hf];rfl
   have hm:∀f:ah→ah,(∀u,u.1=aW o→jE o u=f u)→w.2.1.map (jE o)=w.2.1.set (bZ w.2.1 (aW o)) (f e):=fun f hf1 =>Re he hf (jE o) f hf1 (fun u hu=>by unfold jE;rw[if_neg (fun k=>hu k.2)]);have e2:tD w o=(0,(w.1,(w.2.1.map (jE o),w.2.2))):=by unfold tD;rw[if_pos ho,hf];rfl
   rw[e2];refine sL e1 (af rfl (ae rfl (sL e1 (af rfl (ae rfl ?_)))));by_cases h7:o.1=7
   ·refine ae (FM h7) (aa (lX he hf) ?_);have:=hm (fun u=>(u.1,(nO o,u.2.2))) (fun u hu=>by unfold jE;rw[if_pos ⟨ho,hu⟩,if_pos h7]);exact congrArg (fun l:List ah=>some (((0:Int),()),((w.1,(l,w.2.2)),()))) this.symm
   ·refine af (yc h7) (aa (lX he hf) ?_);have:=hm (fun u=>(u.1,(u.2.1,oN o))) (fun u hu=>by unfold jE;rw[if_pos ⟨ho,hu⟩,if_neg h7]);exact congrArg (fun l:List ah=>some (((0:Int),()),((w.1,(l,w.2.2)),()))) this.symm
 ·have mO:mV o=false:=by simpa using ho
  cases hf:aR w.1 (aW o) with
  |none =>
   have e1:BE w o=none:=by unfold BE;rw[if_neg ho,hf];rfl
   have e2:tD w o=(13,w):=by unfold tD;rw[if_neg ho,hf];rfl
   rw[e2];exact Lx e1 (Lx e1 rfl)
  |some e =>
   have e1:BE w o=some (⟨0,by decide⟩,bD w.1 (aW o)):=by unfold BE;rw[if_neg ho,hf];rfl
   have hm:∀f:ag→ag,(∀u,u.1=aW o→iH o u=f u)→w.1.map (iH o)=w.1.set (bD w.1 (aW o)) (f e):=fun f hf1 =>HT hv hf (iH o) f hf1 (fun u hu=>by unfold iH;rw[if_neg (fun k=>hu k.2)]);have e2:tD w o=(0,(w.1.map (iH o),w.2)):=by unfold tD;rw[if_neg ho,hf];rfl
   rw[e2];refine sL e1 (ae rfl (sL e1 (ae rfl ?_)));by_cases h7:o.1=7
   ·refine ae (FM h7) (aa (cZ hv hf) ?_);have:=hm (fun u=>(u.1,(u.2.1,(nO o,u.2.2.2)))) (fun u hu=>by unfold iH;rw[if_pos ⟨mO,hu⟩,if_pos h7]);exact congrArg (fun l:List ag=>some (((0:Int),()),((l,w.2),()))) this.symm
   ·refine af (yc h7) (aa (cZ hv hf) ?_);have:=hm (fun u=>(u.1,(u.2.1,(u.2.2.1,oN o)))) (fun u hu=>by unfold iH;rw[if_pos ⟨mO,hu⟩,if_neg h7]);exact congrArg (fun l:List ag=>some (((0:Int),()),((l,w.2),()))) this.symm
theorem VH(hG:HG G)(a b:ab):FX G 195 Dv ((a,b,()),())=some ((mT a b,()),()):=by
 refine aq (hG _ _ rfl) aac ?_;refine aa (QX hG a.1 b.1) ?_;refine aa (QW hG a.2 b.2) ?_;refine aa (VB (hG _ _ rfl) (qH a.1 b.1) (J5 a.2 b.2)) ?_;refine congrArg (fun n:Int=>some ((n,()),())) ?_;obtain⟨a1,a2⟩:=a;obtain⟨b1,b2⟩:=b;unfold mT qH J5 kF;simp only[Prod.mk.injEq];by_cases h:a1=b1
 ·subst h;simp only[if_true,b7,Bool.false_or,true_and,decide_true,Bool.true_and];by_cases h1:a2<b2
  ·have:¬a2=b2:=by omega
   simp[h1,this]
  ·by_cases h2:a2>b2
   ·have:¬a2=b2:=by omega
    simp[h1,h2,this]
   ·have:a2=b2:=by omega
    simp[this]
 ·simp only[h,if_false,false_and,decide_false,Bool.false_and,Bool.or_false]
  cases fL a1 b1<;>simp
theorem abE(hG:G 168 lM=none)(row:List ab)(d:ab)(hl:row.length≤1073741824):∀(n i:Nat),i+n=row.length → LX G 168 lM Tryz.f168 uR (aN Tryz.prog 168 0) ((row,(((row.length:Nat):Int),((i:Int),()))),(((d,()),()),()))=some ((idx d (row.drop i) i,()),()):=by
 intro n
 induction n with
 |zero =>intro i hi;refine au K5 ?_;refine af (decide_eq_false (show ¬((i:Int)<((row.length:Nat):Int)) by omega)) ?_;rw[List.drop_eq_nil_of_le (by omega)];rfl
 |succ n ih =>
  intro i hi;have aF:i<row.length:=by omega
  refine au K5 ?_;refine ae (aX aF) (aa (aJ (aci aF)) ?_);rw[List.drop_eq_getElem_cons aF,idx];by_cases he:row[i]=d
  ·rw[if_pos he];exact ae ((kz d row[i]).trans (decide_eq_true he.symm)) rfl
  ·rw[if_neg he];refine af ((kz d row[i]).trans (decide_eq_false fun h=>he h.symm)) ?_;rw[wI,aG aF hl];exact ih (i+1) (by omega)
theorem BF(hG:G 168 lM=none)(row:List ab)(d:ab)(hl:row.length≤1073741824):FX G 168 lM ((row,d,()),())=some ((idx d row 0,()),()):=by refine aq hG ZW ?_;have:=abE hG row d hl row.length 0 (by omega);rw[List.drop_zero]at this;exact this
theorem DN(hG:HG G)(row:List ab)(d:ab)(hl:row.length≤1073741824):FX G 166 uI ((row,d,()),())=some ((decide (d∈row),()),()):=by
 refine aq (hG _ _ rfl) ZV ?_;refine aa (BF (hG _ _ rfl) row d hl) ?_;refine congrArg (fun b:Bool=>some ((b,()),())) ?_;rw[Bool.eq_iff_iff];simp only[decide_eq_true_eq];have:=eg (d:=d) (row:=row);constructor
 ·intro h;exact Classical.byContradiction fun k=>by have:=this.2 k;omega
 ·intro h;have h2:¬idx d row 0<0:=fun k=>this.1 k h;omega
theorem dG(a:ab):kF a a=false:=by unfold kF;simp[b7]
theorem gq{a b c:ab}(h:kF a b=true)(k:kF b c=true):kF a c=true:=by obtain⟨⟨a1,a2⟩,a3⟩:=a;obtain⟨⟨b1,b2⟩,b3⟩:=b;obtain⟨⟨c1,c2⟩,c3⟩:=c;simp[kF,fL]at *;omega
theorem wQ{a b:ab}(h:kF a b=false)(k:a≠b):kF b a=true:=by obtain⟨⟨a1,a2⟩,a3⟩:=a;obtain⟨⟨b1,b2⟩,b3⟩:=b;simp[kF,fL]at *;omega
theorem Fp{a b c:ab}(h:kF a b=true)(k:kF c b=false):kF a c=true:=by obtain⟨⟨a1,a2⟩,a3⟩:=a;obtain⟨⟨b1,b2⟩,b3⟩:=b;obtain⟨⟨c1,c2⟩,c3⟩:=c;simp[kF,fL]at *;omega
theorem zg(a b:ab):mT a b<0↔kF a b=true:=by
 unfold mT;by_cases h:a=b
 ·subst h;simp[dG]
 ·rw[if_neg h];cases kF a b<;>simp
theorem oV{row:List ab}{k:Nat}(hk:k<row.length):row.getD k zD=row[k]:=by simp[List.getD,hk]
theorem wR(row:List ab):∀(r:List ab) (i k:Nat),row.drop i=r→k<row.length→k≤i→(∀j,j<i→(hj:j<row.length)→kF row[j] (row.getD k zD)=false)→(∀j,j<k→(hj:j<row.length)→kF (row.getD k zD) row[j]=true) →(∀j,(hj:j<row.length)→kF row[j] (row.getD (fi row r i k) zD)=false)∧(∀j,j<fi row r i k→(hj:j<row.length)→kF (row.getD (fi row r i k) zD) row[j]=true)
 |[],i,k,hr,hk,hki,h1,h2=>by
  have hi:row.length≤i:=by have:=congrArg List.length hr;simp at this;omega
  exact⟨fun j hj=>h1 j (by omega) hj,h2⟩
 |x::r,i,k,hr,hk,hki,h1,h2=>by
  have hi:i<row.length:=by have:=congrArg List.length hr;simp at this;omega
  have hx:row[i]=x:=by have:=adu hi;rw[hr]at this;injection this with a b;exact a.symm
  have q7:row.drop (i+1)=r:=by have:=adu hi;rw[hr]at this;injection this with a b;exact b.symm
  unfold fi
  split
  ·rename_i aF;rw[zg]at aF;refine wR row r (i+1) i q7 hi (by omega) (fun j hj IN=>?_) (fun j hj IN=>?_)
   ·rw[oV hi,hx];rcases Nat.lt_succ_iff_lt_or_eq.1 hj with hj|rfl
    ·cases hc:kF row[j] x with
     |false=>rfl
     |true=>have:=gq hc aF;rw[h1 j hj IN]at this;cases this
    ·rw[hx,dG]
   ·rw[oV hi,hx];exact Fp aF (h1 j (by omega) IN)
  ·rename_i aF;rw[zg]at aF;refine wR row r (i+1) k q7 hk (by omega) (fun j hj IN=>?_) h2;rcases Nat.lt_succ_iff_lt_or_eq.1 hj with hj|rfl
   ·exact h1 j hj IN
   ·rw[hx];simpa using aF
theorem tE{row:List ab}(h:0<row.length):(∀j,(hj:j<row.length)→kF row[j] (row.getD (fi row row 0 0) zD)=false)∧(∀j,j<fi row row 0 0→(hj:j<row.length)→kF (row.getD (fi row row 0 0) zD) row[j]=true) :=wR row row 0 0 rfl h (adg _) (fun j hj=>by omega) (fun j hj=>by omega)
theorem J7{d:ab}:∀{row:List ab} {k:Nat} {i:Int},row[k]? = some d→(∀j,j<k→row[j]?≠some d)→idx d row i=i+k
 |[],k,i,h,_=>by simp at h
 |e::r,0,i,h,_=>by simp at h;subst h;rw[idx,if_pos rfl];simp
 |e::r,k+1,i,h,hn=>by have h0:=hn 0 (by omega);rw[idx,if_neg (fun e=>h0 (by simp[e]))];rw[J7 (k:=k) (by simpa using h) (fun j hj=>by have:=hn (j+1) (by omega);simpa using this)];simp;omega
theorem Rf{row:List ab}(h:0<row.length):idx (row.getD (fi row row 0 0) zD) row 0=((fi row row 0 0:Nat):Int):=by have hm:=oS row row 0 0 h (by omega);have:=J7 (d:=row.getD (fi row row 0 0) zD) (row:=row) (k:=fi row row 0 0) (i:=0) (by rw[oV hm];exact aci hm) (fun j hj he=>by obtain⟨h1,h2⟩:=ack.1 he;have:=(tE h).2 j hj h1;rw[h2,dG]at this;cases this);omega
theorem Rg(hG:HG G)(row:List ab)(h:0<row.length)(hl:row.length≤100000000):FX G 196194 j8 ((row,()),())=some ((row.getD (fi row row 0 0) zD,()),()):=by
 refine aq (hG _ _ rfl) Qz ?_;refine af (decide_eq_false (show ¬((row.length:Nat):Int)<1 by omega)) ?_;refine aa (aJ (i:=0) (aci h)) ?_;have loop:∀(n i k:Nat),i+n=row.length→k<row.length→LX G 196194 j8 Tryz.f194 jB (aN Tryz.prog 194 0) ((row,((i:Int),())),(((zD,()),(((row.getD k zD),()),())),()))=some ((row.getD (fi row (row.drop i) i k) zD,()),()):=by
  intro n
  induction n with
  |zero =>intro i k hi hk;refine au Bm ?_;refine af (decide_eq_false (show ¬((i:Int)<((row.length:Nat):Int)) by omega)) ?_;rw[List.drop_eq_nil_of_le (by omega)];rfl
  |succ n ih =>
   intro i k hi hk;have aF:i<row.length:=by omega
   have hx:row[i]? = some row[i]:=aci aF;refine au Bm ?_;refine ae (aX aF) (aa (aJ hx) ?_);refine aa (VH hG row[i] (row.getD k zD)) ?_;rw[List.drop_eq_getElem_cons aF,fi];by_cases ho:mT row[i] (row.getD k zD)<0
   ·rw[if_pos ho];refine ae (decide_eq_true ho) (aa (aJ hx) ?_);have:=ih (i+1) i (by omega) aF;rw[←aG aF (by omega),oV aF]at this;exact this
   ·rw[if_neg ho];refine af (decide_eq_false ho) ?_;have:=ih (i+1) k (by omega) hk;rw[←aG aF (by omega)]at this;exact this
 have h1:=loop (row.length-1) 1 0 (by omega) h;have h2:fi row row 0 0=fi row (row.drop 1) 1 0:=by
  cases row with
  |nil=>simp at h
  |cons x r =>
   rw[List.drop_one,List.tail_cons]
   conv=>lhs;rw[fi]
   rw[if_neg];show ¬mT x x<0;unfold mT;simp
 rw[h2];have h3:row.getD 0 zD=row[0]:=oV h;rw[h3]at h1;exact h1
def total(ls:List (List ab)):Nat:=(ls.map List.length).sum
theorem BG(a:List ab)(r:List (List ab)):total (a::r)=a.length+total r:=by unfold total;rw[List.map_cons,List.sum_cons]
theorem VI(hG:HG G)(ls:List (List ab))(hn:ls.length≤1000)(hl:total ls≤500000000):FX G 196 nJ ((ls,()),())=some ((ls.flatten,()),()):=by
 refine aq (hG _ _ rfl) aad ?_;have abF:∀(n i:Nat) (out:List ab),i+n=ls.length→out.length+total (ls.drop i)≤500000000→LX G 196 nJ Tryz.f196 uT (aN Tryz.prog 196 1) ((ls,(((ls.length:Nat):Int),((i:Int),()))),((),(out,())))=some ((out++(ls.drop i).flatten,()),()):=by
  intro n
  induction n with
  |zero =>intro i out hi ho;refine au K7 ?_;refine af (decide_eq_false (show ¬((i:Int)<((ls.length:Nat):Int)) by omega)) ?_;rw[List.drop_eq_nil_of_le (by omega),List.flatten_nil,List.append_nil];rfl
  |succ n ih =>
   intro i out hi ho;have aF:i<ls.length:=by omega
   rw[List.drop_eq_getElem_cons aF]at ho ⊢;have mO:out.length+(ls[i].length+total (ls.drop (i+1)))≤500000000:=by have:total (ls[i]::ls.drop (i+1))=ls[i].length+total (ls.drop (i+1)):=BG _ _;omega
   refine au K7 ?_;refine ae (aX aF) (aa (aJ (aci aF)) ?_);refine ae (fits (show out.length+ls[i].length≤1073741824 by omega)) ?_;have:=ih (i+1) (out++ls[i]) (by omega) (by rw[List.length_append];omega);rw[List.flatten_cons,←List.append_assoc];rw[←aG aF (by omega)]at this;exact this
 have abG:∀(n i m:Nat),i+n=ls.length→m+total (ls.drop i)=total ls→LX G 196 nJ Tryz.f196 uS (aN Tryz.prog 196 0) ((ls,((m:Int),(ls,(((ls.length:Nat):Int),((i:Int),()))))),((),()))=some ((ls.flatten,()),()):=by
  intro n
  induction n with
  |zero =>
   intro i m hi hm;refine au K6 ?_;refine af (decide_eq_false (show ¬((i:Int)<((ls.length:Nat):Int)) by omega)) ?_;have hg:zy (m:Int)=true:=by unfold zy;rw[decide_eq_true (show(0:Int)≤(m:Int) by omega)];rw[decide_eq_true (show(m:Int)≤fz by unfold fz;omega)];rfl
   refine ae hg ?_;have:=abF ls.length 0 [] (by omega) (by rw[List.drop_zero];simpa using hl);rw[List.drop_zero,List.nil_append]at this;exact this
  |succ n ih =>
   intro i m hi hm;have aF:i<ls.length:=by omega
   have Tg:m+ls[i].length+total (ls.drop (i+1))=total ls:=by rw[List.drop_eq_getElem_cons aF]at hm;have:total (ls[i]::ls.drop (i+1))=ls[i].length+total (ls.drop (i+1)):=BG _ _;omega
   refine au K6 ?_;refine ae (aX aF) (aa (aJ (aci aF)) ?_);have hw:IntKind.wrap .i64 ((m:Int)+((ls[i].length:Nat):Int))=((m+ls[i].length:Nat):Int):=by rw[wrap_small (by omega) (by omega)];rfl
   refine af (decide_eq_false (show ¬IntKind.wrap .i64 ((m:Int)+((ls[i].length:Nat):Int))<0 by rw[hw];omega)) ?_;have:=ih (i+1) (m+ls[i].length) (by omega) Tg;rw[←aG aF (by omega),←hw]at this;exact this
 exact abG ls.length 0 0 (by omega) (by rw[List.drop_zero];omega)
theorem zh{α:Type}(xs:List α){k:Nat}(hk:k≤xs.length):cut xs (k:Int) ((xs.length:Nat):Int)=xs.drop k:=by unfold cut;rw[Int.toNat_natCast,Int.toNat_natCast,List.take_of_length_le (Nat.le_refl _)]
theorem rK{α:Type}(xs:List α)(k:Nat):cut xs 0 (k:Int)=xs.take k:=by unfold cut;rw[Int.toNat_natCast];rfl
theorem Fq{n k:Nat}(h:k≤n):aH n (k:Int) ((n:Nat):Int)=true:=by unfold aH;simp;omega
theorem vo{n k:Nat}(h:k≤n):aH n 0 (k:Int)=true:=by unfold aH;simp;omega
theorem DO(hG:HG G)(row:List ab)(hl:row.length≤100000000):FX G 169 qB ((row,()),())=some ((cI row,()),()):=by
 refine aq (hG _ _ rfl) ZP ?_;by_cases h0:row.length=0
 ·refine ae (show(((row.length:Nat):Int)==0)=true by simp[h0]) ?_;have:row=[]:=by simpa using h0
  subst this;rfl
 refine af (show(((row.length:Nat):Int)==0)=false by rw[beq_eq_false_iff_ne];omega) ?_;have hp:0<row.length:=by omega
 have hm:=oS row row 0 0 hp (by omega);refine aa (Rg hG row hp hl) ?_;refine aa (BF (hG _ _ rfl) row (row.getD (fi row row 0 0) zD) (by omega)) ?_;rw[Rf hp];refine ae (Fq (n:=row.length) (k:=fi row row 0 0) (by omega)) (ae (vo (n:=row.length) (k:=fi row row 0 0) (by omega)) ?_);have key:∀a b:List ab,a=row.drop (fi row row 0 0)→b=row.take (fi row row 0 0)→((FX G 196 nJ (([a,b],()),())).bind fun(y3:(((List ab)×Unit)×Unit))=>some (y3.1,()))=some ((cI row,()),()):=by intro a b ha hb;subst ha hb;refine aa (VI hG [row.drop (fi row row 0 0),row.take (fi row row 0 0)] (by simp) (by unfold total;simp;omega)) ?_;unfold cI Cr;simp only[List.flatten_cons,List.flatten_nil,List.append_nil]
 exact key _ _ (zh row (by omega)) (rK row _)
theorem Rh(hG:HG G)(ls:List (List ab))(hn:ls.length≤1000)(hl:total ls≤100000000):FX G 170 nI ((ls,()),())=some ((cI ls.flatten,()),()):=by
 refine aq (hG _ _ rfl) ZX ?_;refine aa (VI hG ls hn (by omega)) ?_;have hlen:ls.flatten.length=total ls:=by unfold total;exact List.length_flatten
 exact aa (DO hG ls.flatten (by omega)) rfl
theorem Ri(hG:HG G)(row:List ab)(after d:ab)(hl:row.length≤50000000):FX G 181 AK ((row,after,d,()),())=some ((lS row after d,()),()):=by
  refine aq (hG _ _ rfl) ZG ?_;refine aa (DN hG row d (by omega)) ?_;unfold lS;by_cases hd:d∈row
  · rw[if_pos hd]
    exact ae (decide_eq_true hd) (aa (DO hG row (by omega)) rfl)
  rw[if_neg hd];refine af (decide_eq_false hd) ?_;refine aa (BF (hG _ _ rfl) row after (by omega)) ?_;have hr:idx after row 0<((row.length:Nat):Int)∨row.length=0∧idx after row 0 = -1:=by
    rcases nL after row 0 (by omega) with⟨h,_⟩|⟨k,h,hk,_⟩
    · by_cases h0:row.length=0
      · exact .inr ⟨h0,h⟩
      · exact .inl (by omega)
    · have:=(ack.1 hk).1
      exact .inl (by omega)
  have hm:max (idx after row 0) (0:Int)=max 0 (idx after row 0):=by omega
  have hw:IntKind.wrap .i64 (max (idx after row 0) (0:Int)+1)=(((max 0 (idx after row 0)).toNat+1:Nat):Int):=by rw[wrap_small (by omega) (by omega)];omega
  obtain⟨k,hk,mY,N8⟩:∃k:Nat,min (IntKind.wrap .i64 (max (idx after row 0) (0:Int)+1)) ((row.length:Nat):Int)=(k:Int)∧k≤row.length∧row.take k++(d::row.drop k)=row.take ((max 0 (idx after row 0)).toNat+1)++(d::row.drop ((max 0 (idx after row 0)).toNat+1)):=by
    rw[hw];by_cases h0:row.length=0
    · have:row=[]:=by simpa using h0
      subst this;exact⟨0,by simp;omega,by simp,by simp⟩
    · exact⟨(max 0 (idx after row 0)).toNat+1,by omega,by omega,rfl⟩
  have vF:(min (IntKind.wrap .i64 ((max (idx after row 0) (0:Int):Int)+(1:Int))) (((List.length row):Nat):Int):Int)=(k:Int):=hk;show cond (aH (List.length row) (0:Int) (min (IntKind.wrap .i64 ((max (idx after row 0) (0:Int):Int)+(1:Int))) (((List.length row):Nat):Int):Int)) (cond (aH (List.length row) (min (IntKind.wrap .i64 ((max (idx after row 0) (0:Int):Int)+(1:Int))) (((List.length row):Nat):Int):Int) (((List.length row):Nat):Int)) ((FX G 170 nI ((((cut row (0:Int) (min (IntKind.wrap .i64 ((max (idx after row 0) (0:Int):Int)+(1:Int))) (((List.length row):Nat):Int):Int))::([d]::((cut row (min (IntKind.wrap .i64 ((max (idx after row 0) (0:Int):Int)+(1:Int))) (((List.length row):Nat):Int):Int) (((List.length row):Nat):Int))::([]:List (List ab))))),()),())).bind fun(y4:(((List ab)×Unit)×Unit)) =>some (y4.1,())) (none)) (none)=_;rw[vF];refine ae (vo mY) (ae (Fq mY) ?_);have key:∀a b R:List ab,a=row.take k→b=row.drop k→R=cI (row.take k++(d::row.drop k))→((FX G 170 nI (([a,[d],b],()),())).bind fun(y3:(((List ab)×Unit)×Unit))=>some (y3.1,()))=some ((R,()),()):=by intro a b R ha hb hR;subst ha hb hR;refine aa (Rh hG [row.take k,[d],row.drop k] (by simp) (by unfold total;simp;omega)) ?_;refine congrArg (fun l:List ab=>some ((l,()),())) ?_;simp
  exact key _ _ _ (rK row k) (zh row mY) (by rw[N8])
theorem wS{row:List ab}{d:ab}{k:Nat}(hn:row.Nodup)(hk:row[k]? = some d):row.filter (fun e=>decide (e≠d))=row.take k++row.drop (k+1):=by
 obtain⟨h1,h2⟩:=ack.1 hk
 conv=>lhs;rw[←List.take_append_drop k row,List.drop_eq_getElem_cons h1,h2]
 have I9:(row.take k++(d::row.drop (k+1))).Nodup:=by rw[←h2,←List.drop_eq_getElem_cons h1,List.take_append_drop];exact hn
 have h3:=adz.1 I9;have h4:=adf.1 h3.2.1;rw[List.filter_append,List.filter_cons_of_neg (by simp)];congr 1
 ·rw[List.filter_eq_self];intro a ha;have:=h3.2.2 a ha d (by simp);simpa using this
 ·rw[List.filter_eq_self];intro a ha;have:a≠d:=fun e=>h4.1 (e▸ha);simpa using this
theorem VJ(hG:HG G)(row:List ab)(d:ab)(hn:row.Nodup)(hl:row.length≤50000000):FX G 141 G7 ((row,d,()),())=some ((gS row d,()),()):=by
 refine aq (hG _ _ rfl) ZM ?_;refine aa (BF (hG _ _ rfl) row d (by omega)) ?_;unfold gS;by_cases hd:d∈row
 ·obtain⟨k,h1,h2,h3⟩:=fh hd;have aF:=(ack.1 h2).1;rw[wS hn h2];show cond (decide (idx d row 0<0)) _ (cond (aH row.length 0 (idx d row 0)) (cond (aH row.length (IntKind.wrap .i64 (idx d row 0+1)) ((row.length:Nat):Int)) ((FX G 170 nI (([cut row 0 (idx d row 0),cut row (IntKind.wrap .i64 (idx d row 0+1)) ((row.length:Nat):Int)],()),())).bind fun(y3:(((List ab)×Unit)×Unit))=>some (y3.1,())) none) none)=_;rw[h1,aG aF (by omega)];refine af (decide_eq_false (by omega)) (ae (vo (by omega)) (ae (Fq (by omega)) ?_));have key:∀a b:List ab,a=row.take k→b=row.drop (k+1)→((FX G 170 nI (([a,b],()),())).bind fun(y3:(((List ab)×Unit)×Unit))=>some (y3.1,()))=some ((cI (row.take k++row.drop (k+1)),()),()):=by intro a b ha hb;subst ha hb;refine aa (Rh hG [row.take k,row.drop (k+1)] (by simp) (by unfold total;simp;omega)) ?_;refine congrArg (fun l:List ab=>some ((l,()),())) ?_;simp
  exact key _ _ (rK row k) (zh row (by omega))
 ·have h1:=eg.2 hd;refine ae (decide_eq_true h1) (aa (DO hG row (by omega)) ?_);refine congrArg (fun l:List ab=>some ((l,()),())) ?_;congr 1
  symm
  rw[List.filter_eq_self];intro a ha;have:a≠d:=fun e=>hd (e▸ha);simpa using this
theorem VL(hG:HG G)(row:List ab)(cK d:ab)(hl:row.length≤50000000):FX G 187 sE ((row,cK,d,()),())=some ((jo row cK d,()),()):=by
 refine aq (hG _ _ rfl) ZN ?_;refine aa (BF (hG _ _ rfl) row cK (by omega)) ?_;unfold jo;by_cases ho:cK∈row
 ·obtain⟨k,h1,h2,h3⟩:=fh ho;have aF:=(ack.1 h2).1;refine af (decide_eq_false (show ¬idx cK row 0<0 by omega)) ?_;refine aa (DN hG row d (by omega)) ?_;by_cases hd:d∈row
  ·rw[if_neg (fun h=>h.2 hd)];exact ae (decide_eq_true hd) (aa (DO hG row (by omega)) rfl)
  rw[if_pos ⟨ho,hd⟩];refine af (decide_eq_false hd) ?_;show cond (aH row.length 0 (idx cK row 0)) (cond (aH row.length (IntKind.wrap .i64 (idx cK row 0+1)) ((row.length:Nat):Int)) ((FX G 170 nI (([cut row 0 (idx cK row 0),[d],cut row (IntKind.wrap .i64 (idx cK row 0+1)) ((row.length:Nat):Int)],()),())).bind fun(y3:(((List ab)×Unit)×Unit))=>some (y3.1,())) none) none=_;rw[h1,aG aF (by omega)];refine ae (vo (by omega)) (ae (Fq (by omega)) ?_);have key:∀a b R:List ab,a=row.take k→b=row.drop (k+1)→R=cI (row.set ((k:Int)).toNat d)→((FX G 170 nI (([a,[d],b],()),())).bind fun(y3:(((List ab)×Unit)×Unit))=>some (y3.1,()))=some ((R,()),()):=by intro a b R ha hb hR;subst ha hb hR;refine aa (Rh hG [row.take k,[d],row.drop (k+1)] (by simp) (by unfold total;simp;omega)) ?_;refine congrArg (fun l:List ab=>some ((l,()),())) ?_;rw[Int.toNat_natCast,List.set_eq_take_append_cons_drop,if_pos aF];simp
  exact key _ _ _ (rK row k) (zh row (by omega)) rfl
 ·have h1:=eg.2 ho;rw[if_neg (fun h=>ho h.1)];exact ae (decide_eq_true h1) (aa (DO hG row (by omega)) rfl)
theorem abH(hG:HG G)(row:List ab)(d:ab)(hl:row.length≤100000000):FX G 140 Du ((row,d,()),())=some (HH (dF row d (row.length-1)),()):=by
 refine aq (hG _ _ rfl) aab ?_;have key:FX G 167 AR ((row,(d,((IntKind.wrap .i64 (((row.length:Nat):Int)-1)),()))),())=some (HH (dF row d (row.length-1)),()):=by
  refine aq (hG _ _ rfl) Vp ?_;refine aa (BF (hG _ _ rfl) row d (by omega)) ?_;unfold dF;by_cases hd:d∈row
  ·rw[if_pos hd];obtain⟨k,h1,h2,h3⟩:=fh hd;have aF:=(ack.1 h2).1;refine af (decide_eq_false (show ¬idx d row 0<0 by omega)) ?_;refine af (Fa hd) ?_;have hw:IntKind.wrap .i64 (((row.length:Nat):Int)-1)=((row.length-1:Nat):Int):=by rw[wrap_small (by omega) (by omega)];omega
   have TH:IntKind.wrap .i64 (idx d row 0+IntKind.wrap .i64 (((row.length:Nat):Int)-1))=((k+(row.length-1):Nat):Int):=by rw[hw,h1,wrap_small (by omega) (by omega)];rfl
   have wJ:(k+(row.length-1))%row.length<row.length:=adU _ (by omega);have hx:=aci wJ;refine aa (show aT row (Int.tmod (IntKind.wrap .i64 (idx d row 0+IntKind.wrap .i64 (((row.length:Nat):Int)-1))) ((row.length:Nat):Int))=some row[(k+(row.length-1))%row.length] by rw[TH,qI];exact aJ hx) ?_;rw[h1,Int.toNat_natCast,hx];rfl
  ·rw[if_neg hd];exact ae (decide_eq_true (eg.2 hd)) rfl
 refine aa key ?_;rfl
end Go.Vs
