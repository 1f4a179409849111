/- What the program computes at edges and rings, written plainly. -/
import Derived.Test.YtpkfpbpbkabkdaaGreatPlaces
set_option linter.unusedVariables false
set_option linter.unusedSimpArgs false
namespace Go.Vs
open Go.Proofs
variable {G:(f:FuncId)→(g:aM)→Option (g.A→Option g.B)}
theorem get_at{s:ByteArray}{i:Nat}{c:UInt8}(h:s.data.toList[i]? = some c):s.get! i=c:=by
 have hi:i<s.data.size:=by have:=(List.getElem?_eq_some_iff.1 h).1;simpa using this
 have h2:=(List.getElem?_eq_some_iff.1 h).2
 show s.data[i]! = c
 rw[getElem!_pos s.data i hi,←h2];simp
theorem Nw{s:ByteArray}{i:Nat}(h:(s.get! i).toNat<128):Utf8.decode s i=((s.get! i).toNat,1):=by
 unfold Utf8.decode
 simp only[Nat.add_zero]
 rw[if_pos h]
theorem Nx{s:ByteArray}{i:Nat}(h:¬(s.get! i).toNat<128):128≤(Utf8.decode s i).1:=by
 unfold Utf8.decode
 simp only[Nat.add_zero]
 rw[if_neg h]
 repeat' split
 all_goals first|(simp_all only[Bool.and_eq_true,decide_eq_true_eq];omega)|decide|omega
theorem agD(hG:G 161 wR=none)(s:ByteArray)(hs:s.size≤100000000):∀(n i:Nat),i+n=s.size →
  LX G 161 wR Tryz.f161 w6 (aN Tryz.prog 161 0) ((s,()),((),((s,i),())))=some ((((s.data.toList.drop i).all kF&&decide (s.size≤16),()),()):(Bool×Unit)×Unit):=by
 have hl:s.data.toList.length=s.size:=by simp
 intro n
 induction n with
 |zero =>
  intro i hi
  refine ar (j:=0) (by kernel_rfl) ((QK _ _ _).trans ?_)
  refine ag (decide_eq_false (show ¬(i<s.size) by omega)) ?_
  refine congrArg (fun b:Bool=>some ((b,()),())) ?_
  rw[List.drop_eq_nil_of_le (by omega),List.all_nil,Bool.true_and,Bool.eq_iff_iff];simp;omega
 |succ n ih =>
  intro i hi
  have aF:i<s.data.toList.length:=by omega
  have hx:s.data.toList[i]? = some s.data.toList[i]:=List.getElem?_eq_getElem aF
  generalize s.data.toList[i]=c at hx
  have hd:s.data.toList.drop i=c::s.data.toList.drop (i+1):=by
   rw[List.drop_eq_getElem_cons aF];rw[List.getElem?_eq_getElem aF]at hx;cases hx;rfl
  have hg:=get_at hx
  refine ar (j:=0) (by kernel_rfl) ((QK _ _ _).trans ?_)
  refine af (decide_eq_true (show i<s.size by omega)) ?_
  show cond (decide (oV s i<32)) _ (cond (decide (oV s i>126)) _ (LX G 161 wR Tryz.f161 w6 (aN Tryz.prog 161 0) ((s,()),((),((s,i+z7 s i),())))))=_
  rw[hd,List.all_cons]
  by_cases h1:c.toNat<128
  ·have hr:Utf8.decode s i=(c.toNat,1):=by rw[Nw (by rw[hg];exact h1),hg]
   have hr1:oV s i=(c.toNat:Int):=by unfold oV;rw[hr]
   have VG:z7 s i=1:=by unfold z7;rw[hr]
   rw[hr1,VG]
   by_cases h2:c.toNat<32
   ·refine af (decide_eq_true (by omega)) ?_
    have:kF c=false:=by unfold kF;simp;omega
    rw[this];rfl
   refine ag (decide_eq_false (by omega)) ?_
   by_cases h3:126<c.toNat
   ·refine af (decide_eq_true (by omega)) ?_
    have:kF c=false:=by unfold kF;simp;omega
    rw[this];rfl
   refine ag (decide_eq_false (by omega)) ?_
   have:kF c=true:=by unfold kF;simp;omega
   rw[this,Bool.true_and]
   exact ih (i+1) (by omega)
  ·have h2:=Nx (s:=s) (i:=i) (by rw[hg];exact h1)
   have hr1:128≤oV s i:=by unfold oV;omega
   refine ag (decide_eq_false (by omega)) (af (decide_eq_true (by omega)) ?_)
   have:kF c=false:=by unfold kF;simp;omega
   rw[this];rfl
theorem agF(hG:G 161 wR=none)(s:ByteArray)(hs:s.size≤100000000):FX G 161 wR ((s,()),())=some ((ll s,()),()):=by
 refine ax (fn:=Tryz.f161) hG (by kernel_rfl) (by kernel_rfl) ((afJ _ _ _).trans ?_)
 have:=agD hG s hs s.size 0 (by omega)
 rw[List.drop_zero]at this
 exact this
theorem agG(hG:G 162 Hh=none)(n:Int):FX G 162 Hh ((n,()),())=some ((jF n,()),()):=by
 refine ax (fn:=Tryz.f162) hG (by kernel_rfl) (by kernel_rfl) ((afK _ _ _).trans ?_)
 show(cond (decide (n≥-1099511627776)) (some ((decide (n≤1099511627776),()),())) (some ((false,()),())):Option ((Bool×Unit)×Unit))=some ((jF n,()),())
 unfold jF
 by_cases h1 : -1099511627776≤n<;>simp[h1]
def BW(n:Int):Prop := -9223372036854775808≤n∧n<9223372036854775808
theorem Rx(x:BitVec 64):IntKind.wrap .i64 ((x.toNat:Nat):Int)=x.toInt:=by
 unfold IntKind.wrap
 simp only[IntKind.bits,IntKind.signed]
 have h:=x.isLt
 have h2:=BitVec.toInt_eq_toNat_cond x
 rw[h2]
 simp
 split<;>split<;>omega
theorem ofInt_toInt{n:Int}(h:BW n):(BitVec.ofInt 64 n).toInt=n:=by
 unfold BW at h
 rw[BitVec.toInt_ofInt]
 exact Int.bmod_eq_of_le (by omega) (by omega)
theorem UB{n:Int}(h:BW n):(cT .andNot .i64 n 3==(0:Int))=decide (0≤n∧n≤3):=by
 have e:cT .andNot .i64 n 3=(BitVec.ofInt 64 n &&& ~~~(BitVec.ofInt 64 3)).toInt:=by unfold cT;exact Rx _
 rw[e,Bool.eq_iff_iff]
 simp only[beq_iff_eq,decide_eq_true_eq]
 generalize hx:BitVec.ofInt 64 n=x
 have hn:=ofInt_toInt h
 rw[hx]at hn
 have h1:(x &&& ~~~(BitVec.ofInt 64 3)).toInt=0↔(x &&& ~~~(BitVec.ofInt 64 3))=0#64:=by
  constructor
  ·intro h;exact BitVec.eq_of_toInt_eq (by rw[h];rfl)
  ·intro h;rw[h];rfl
 rw[h1,←hn]
 constructor
 ·intro h
  have h2:x=x &&& 3#64:=by
   have h3:x=(x &&& ~~~(BitVec.ofInt 64 3)) ||| (x &&& 3#64):=by
    ext i hi
    simp only[BitVec.getElem_or,BitVec.getElem_and,BitVec.getElem_not]
    have:(BitVec.ofInt 64 3)=3#64:=rfl
    rw[this]
    cases x[i]<;>cases (3#64)[i]<;>rfl
   rw[h]at h3
   simpa using h3
  have h4:x.toNat≤3:=by
   rw[h2,BitVec.toNat_and]
   exact Nat.and_le_right
  rw[BitVec.toInt_eq_toNat_cond]
  split<;>omega
 ·intro h
  have h4:x.toNat≤3:=by
   rw[BitVec.toInt_eq_toNat_cond]at h
   have:=x.isLt
   split at h<;>omega
  have h5:x=0#64∨x=1#64∨x=2#64∨x=3#64:=by
   have:x.toNat=0∨x.toNat=1∨x.toNat=2∨x.toNat=3:=by omega
   rcases this with h|h|h|h
   ·exact .inl (BitVec.eq_of_toNat_eq (by rw[h];rfl))
   ·exact .inr (.inl (BitVec.eq_of_toNat_eq (by rw[h];rfl)))
   ·exact .inr (.inr (.inl (BitVec.eq_of_toNat_eq (by rw[h];rfl))))
   ·exact .inr (.inr (.inr (BitVec.eq_of_toNat_eq (by rw[h];rfl))))
  rcases h5 with rfl|rfl|rfl|rfl<;>decide
theorem UC{n:Int}(h:BW n):(cT .andNot .i64 n 1==(0:Int))=decide (n=0∨n=1):=by
 have e:cT .andNot .i64 n 1=(BitVec.ofInt 64 n &&& ~~~(BitVec.ofInt 64 1)).toInt:=by unfold cT;exact Rx _
 rw[e,Bool.eq_iff_iff]
 simp only[beq_iff_eq,decide_eq_true_eq]
 generalize hx:BitVec.ofInt 64 n=x
 have hn:=ofInt_toInt h
 rw[hx]at hn
 have h1:(x &&& ~~~(BitVec.ofInt 64 1)).toInt=0↔(x &&& ~~~(BitVec.ofInt 64 1))=0#64:=by
  constructor
  ·intro h;exact BitVec.eq_of_toInt_eq (by rw[h];rfl)
  ·intro h;rw[h];rfl
 rw[h1,←hn]
 constructor
 ·intro h
  have h2:x=x &&& 1#64:=by
   have h3:x=(x &&& ~~~(BitVec.ofInt 64 1)) ||| (x &&& 1#64):=by
    ext i hi
    simp only[BitVec.getElem_or,BitVec.getElem_and,BitVec.getElem_not]
    have:(BitVec.ofInt 64 1)=1#64:=rfl
    rw[this]
    cases x[i]<;>cases (1#64)[i]<;>rfl
   rw[h]at h3
   simpa using h3
  have h4:x.toNat≤1:=by
   rw[h2,BitVec.toNat_and]
   exact Nat.and_le_right
  rw[BitVec.toInt_eq_toNat_cond]
  split<;>omega
 ·intro h
  have h4:x.toNat≤1:=by
   rw[BitVec.toInt_eq_toNat_cond]at h
   have:=x.isLt
   split at h<;>omega
  have h5:x=0#64∨x=1#64:=by
   have:x.toNat=0∨x.toNat=1:=by omega
   rcases this with h|h
   ·exact .inl (BitVec.eq_of_toNat_eq (by rw[h];rfl))
   ·exact .inr (BitVec.eq_of_toNat_eq (by rw[h];rfl))
  rcases h5 with rfl|rfl<;>decide
theorem abF(hG:HG G)(d:ae)(h:BW d.2):FX G 190 Hm ((d,()),())=some ((Fx d,()),()):=by
 refine ax (fn:=Tryz.f190) (hG _ _ rfl) (by kernel_rfl) (by kernel_rfl) ((ZW _ _ _).trans ?_)
 refine aa (Nv (hG _ _ rfl) d.1) ?_
 unfold Fx
 cases b4 d.1
 ·rfl
 ·exact af rfl (congrArg (fun b:Bool=>some ((b,()),())) (UC h))
theorem abG(hG:HG G)(c:mF)(h:BW c.2.2):FX G 160 C7 ((c,()),())=some ((nI c,()),()):=by
 refine ax (fn:=Tryz.f160) (hG _ _ rfl) (by kernel_rfl) (by kernel_rfl) ((afI _ _ _).trans ?_)
 refine aa (Nv (hG _ _ rfl) c.1) ?_
 unfold nI
 cases b4 c.1
 ·rfl
 refine af rfl ?_
 have hb:(((c.2.1.1==(0:Int))&&(c.2.1.2==(0:Int)))&&(c.2.2==(0:Int)))=decide (c.2=zD):=kD c.2 zD
 by_cases hz:c.2=zD
 ·refine af (hb.trans (decide_eq_true hz)) ?_
  rw[decide_eq_true hz,Bool.or_true];rfl
 ·refine ag (hb.trans (decide_eq_false hz)) ?_
  refine aa (abF hG c.2 h) ?_
  rw[decide_eq_false hz,Bool.or_false];rfl
structure Fit(o:bj):Prop where
 a:BW (oA o).2.2
 b:BW (oB o).2.2
 n:BW (oN o)
 t:FF o
def BX(o:bj):bj :=
 if o.1=6 then(o.1,(aK o,(zI,(av o,(zC,(zC,(false,(e0,0))))))))
 else if o.1=3 then(o.1,(aK o,(zI,(zI,(oA o,(oB o,(false,(e0,0))))))))
 else if o.1=5 then(o.1,(aK o,(dM o,(av o,(zC,(zC,(false,(e0,oN o))))))))
 else if o.1=7 then(o.1,(aK o,(zI,(zI,(zC,(zC,(gD o,(kW o,0))))))))
 else if o.1=8 then(o.1,(aK o,(zI,(zI,(zC,(zC,(gD o,(e0,oN o))))))))
 else(o.1,(aK o,(zI,(zI,(zC,(zC,(false,(e0,0))))))))
def FJ(o:bj):Int :=
 if o.1=6 then(if b4 (aK o)=true∧b4 (av o)=true then 0 else 1)
 else if o.1=3 then(if b4 (aK o)=true∧nI (oA o)=true∧nI (oB o)=true then 0 else 1)
 else if o.1=5 then(if b4 (aK o)=true∧b4 (dM o)=true∧b4 (av o)=true∧0≤oN o∧oN o≤3 then 0 else 1)
 else if o.1=7 then(if b4 (aK o)=true then(if ll (kW o)=true then 0 else 4) else 1)
 else if o.1=8 then(if b4 (aK o)=true∧jF (oN o)=true then 0 else 1)
 else if o.1=1∨o.1=2∨o.1=4 then(if b4 (aK o)=true then 0 else 1)
 else 1
theorem Gc{o:bj}{k:Int}(h:o.1=k):(o.1==k)=true:=by simp[h]
theorem yK{o:bj}{k:Int}(h:¬o.1=k):(o.1==k)=false:=by simp[h]
theorem agH(hG:HG G)(o:bj)(hf:Fit o):FX G 132 P1 ((o,()),())=some ((BX o,(FJ o,())),()):=by
 refine ax (fn:=Tryz.f132) (hG _ _ rfl) (by kernel_rfl) (by kernel_rfl) ((afl _ _ _).trans ?_)
 refine aa (Nv (hG _ _ rfl) (aK o)) ?_
 unfold BX FJ
 by_cases h1:o.1=1
 ·refine af (Gc h1) (af (Gc h1) ?_)
  rw[if_neg (by omega),if_neg (by omega),if_neg (by omega),if_neg (by omega),if_neg (by omega),if_neg (by omega),if_neg (by omega),if_neg (by omega),if_neg (by omega),if_neg (by omega),if_pos (by omega)]
  cases b4 (aK o)<;>rfl
 refine ag (yK h1) ?_
 by_cases h2:o.1=2
 ·refine af (Gc h2) (af (Gc h2) ?_)
  rw[if_neg (by omega),if_neg (by omega),if_neg (by omega),if_neg (by omega),if_neg (by omega),if_neg (by omega),if_neg (by omega),if_neg (by omega),if_neg (by omega),if_neg (by omega),if_pos (by omega)]
  cases b4 (aK o)<;>rfl
 refine ag (yK h2) ?_
 by_cases h4:o.1=4
 ·refine af (Gc h4) ?_
  rw[if_neg (by omega),if_neg (by omega),if_neg (by omega),if_neg (by omega),if_neg (by omega),if_neg (by omega),if_neg (by omega),if_neg (by omega),if_neg (by omega),if_neg (by omega),if_pos (by omega)]
  cases b4 (aK o)<;>rfl
 refine ag (yK h4) ?_
 by_cases h6:o.1=6
 ·refine af (Gc h6) ?_
  rw[if_pos h6,if_pos h6]
  cases b4 (aK o)
  ·rfl
  refine af rfl (aa (Nv (hG _ _ rfl) (av o)) ?_)
  cases b4 (av o)<;>rfl
 refine ag (yK h6) ?_
 rw[if_neg h6,if_neg h6]
 by_cases h3:o.1=3
 ·refine af (Gc h3) ?_
  rw[if_pos h3,if_pos h3]
  cases b4 (aK o)
  ·rfl
  refine af rfl (aa (abG hG (oA o) hf.a) ?_)
  cases nI (oA o)
  ·rfl
  refine af rfl (aa (abG hG (oB o) hf.b) ?_)
  cases nI (oB o)<;>rfl
 refine ag (yK h3) ?_
 rw[if_neg h3,if_neg h3]
 by_cases h5:o.1=5
 ·refine af (Gc h5) ?_
  rw[if_pos h5,if_pos h5]
  cases b4 (aK o)
  ·rfl
  refine af rfl (aa (Nv (hG _ _ rfl) (dM o)) ?_)
  cases b4 (dM o)
  ·rfl
  refine af rfl (aa (Nv (hG _ _ rfl) (av o)) ?_)
  cases b4 (av o)
  ·rfl
  refine af rfl (aQ (UB hf.n) ?_)
  by_cases h:0≤oN o∧oN o≤3
  ·rw[decide_eq_true h,if_pos ⟨rfl,rfl,rfl,h⟩];rfl
  ·rw[decide_eq_false h,if_neg (fun k=>h k.2.2.2)];rfl
 refine ag (yK h5) ?_
 rw[if_neg h5,if_neg h5]
 by_cases h7:o.1=7
 ·refine af (Gc h7) ?_
  rw[if_pos h7,if_pos h7]
  refine aa (agF (hG _ _ rfl) (kW o) hf.t) ?_
  cases ll (kW o)<;>cases b4 (aK o)<;>rfl
 refine ag (yK h7) ?_
 rw[if_neg h7,if_neg h7]
 by_cases h8:o.1=8
 ·refine af (Gc h8) ?_
  rw[if_pos h8,if_pos h8]
  cases b4 (aK o)
  ·rfl
  refine af rfl (aa (agG (hG _ _ rfl) (oN o)) ?_)
  cases jF (oN o)<;>rfl
 refine ag (yK h8) ?_
 rw[if_neg h8,if_neg h8,if_neg (by omega)];rfl
theorem Ny(o:bj)(h1:1≤o.1)(h8:o.1≤8):qw (BX o) o=qw (jz o) CN:=by
 rw[Bool.eq_iff_iff,jA,jA]
 obtain⟨k,i,n,m,⟨a1,a2⟩,⟨b1,b2⟩,f,t,q⟩:=o
 simp only at h1 h8
 unfold BX jz CN
 have:k=1∨k=2∨k=3∨k=4∨k=5∨k=6∨k=7∨k=8:=by omega
 rcases this with rfl|rfl|rfl|rfl|rfl|rfl|rfl|rfl<;>simp only[Int.reduceEq,if_true,if_false]<;>constructor<;>intro h<;>simp only[zC,Prod.mk.injEq,true_and,and_true]at h ⊢<;>grind
theorem abH(hG:HG G)(o:bj)(hf:Fit o):FX G 104 M7 ((o,()),())=some ((bC o,()),()):=by
 refine ax (fn:=Tryz.f104) (hG _ _ rfl) (by kernel_rfl) (by kernel_rfl) ((ae1 _ _ _).trans ?_)
 refine aa (agH hG o hf) ?_
 refine aQ (b:=qw (BX o) o) rfl ?_
 unfold bC
 by_cases h1:o.1<1
 ·rw[if_pos h1]
  have:FJ o=1:=by unfold FJ;rw[if_neg (by omega),if_neg (by omega),if_neg (by omega),if_neg (by omega),if_neg (by omega),if_neg (by omega)]
  rw[this];cases qw (BX o) o<;>rfl
 rw[if_neg h1]
 by_cases h8:8<o.1
 ·rw[if_pos h8]
  have:FJ o=1:=by unfold FJ;rw[if_neg (by omega),if_neg (by omega),if_neg (by omega),if_neg (by omega),if_neg (by omega),if_neg (by omega)]
  rw[this];cases qw (BX o) o<;>rfl
 rw[if_neg h8,Ny o (by omega) (by omega)]
 have hk:o.1=1∨o.1=2∨o.1=3∨o.1=4∨o.1=5∨o.1=6∨o.1=7∨o.1=8:=by omega
 by_cases hm:b4 (aK o)=true
 case neg =>
  have hb:FJ o=1:=by
   unfold FJ
   rcases hk with h|h|h|h|h|h|h|h<;>simp[h,hm]
  rw[if_pos (by simpa using hm),hb];cases qw (jz o) CN<;>rfl
 rw[if_neg (by simp[hm])]
 cases qw (jz o) CN
 ·rw[if_pos rfl];rfl
 rw[if_neg (by simp)]
 refine ag rfl ?_
 refine congrArg (fun n:Int=>some ((n,()),())) ?_
 unfold FJ
 rcases hk with h|h|h|h|h|h|h|h<;>simp[h,hm]
end Go.Vs
namespace Go.Vs
open Go.Proofs
variable {G:(f:FuncId)→(g:aM)→Option (g.A→Option g.B)}
theorem Wi(hG:HG G)(v:ai)(x:ID):FX G 214 DU ((v,x,()),())=some ((pR v.1 x,()),()):=by
 refine ax (fn:=Tryz.f214) (hG _ _ rfl) (by kernel_rfl) (by kernel_rfl) ((aat _ _ _).trans ?_)
 exact aa (Rr hG v.1 x) rfl
def b5(l:List ai)(x:ID):Nat:=l.countP fun v=>fa v.1 x
def dm(l:List ai):Prop:=l.Pairwise fun a b=>fa a.1 b.1=true
theorem FK(l:List ai)(x:ID):b5 l x≤l.length:=List.countP_le_length
theorem sB{l:List ai}{x:ID}(h:∀v∈l,fa v.1 x=false):b5 l x=0:=by
 unfold b5;rw[List.countP_eq_zero];intro v hv;simp[h v hv]
theorem xk{x:ID}:∀{l:List ai},dm l→∀(k:Nat) (v:ai),l[k]? = some v→(fa v.1 x=true↔k<b5 l x)
 |[],_,k,v,h=>by simp at h
 |w::r,hs,k,v,h=>by
  have hw:∀{u:ai},u∈r→fa w.1 u.1=true:=fun {u} hu=>List.rel_of_pairwise_cons hs hu
  have hr:dm r:=hs.of_cons
  by_cases aF:fa w.1 x=true
  ·have e:b5 (w::r) x=b5 r x+1:=by unfold b5;rw[List.countP_cons_of_pos (by simpa using aF)]
   cases k with
   |zero=>simp at h;subst h;simp[aF,e]
   |succ k=>have:=xk (x:=x) hr k v (by simpa using h);rw[this,e];omega
  ·have hn:∀u∈w::r,fa u.1 x=false:=fun u hu=>by
    rcases List.mem_cons.1 hu with rfl|hu
    ·simpa using aF
    ·rw[Bool.eq_false_iff];intro h2;exact aF (gN (hw hu) h2)
   rw[sB hn,hn v (List.mem_of_getElem? h)]
   simp
theorem Ry(hG:HG G)(l:List ai)(x:ID)(hs:dm l)(hl:l.length≤50000000):∀(n i j:Nat),j-i≤n→i≤b5 l x→b5 l x≤j→j≤l.length →
  LX G 215213 ju Tryz.f213 iE (aN Tryz.prog 213 0) ((l,(((l.length:Nat):Int),((i:Int),((j:Int),())))),(((x,()),()),()))=some (((((b5 l x:Nat):Int),(decide ((l[b5 l x]?).map (·.1)=some x),())):Int×(Bool×Unit)),()):=by
 have tI:=FK l x
 have fin:∀(i j:Nat),¬(i<j)→i≤b5 l x→b5 l x≤j→LX G 215213 ju Tryz.f213 iE (aN Tryz.prog 213 0) ((l,(((l.length:Nat):Int),((i:Int),((j:Int),())))),(((x,()),()),()))=some (((((b5 l x:Nat):Int),(decide ((l[b5 l x]?).map (·.1)=some x),())):Int×(Bool×Unit)),()):=fun i j zk h1 h2=>by
  have hi:i=b5 l x:=by omega
  subst hi
  refine ar (j:=0) (by kernel_rfl) ((BF _ _ _).trans ?_)
  refine ag (decide_eq_false (show ¬(((b5 l x:Nat):Int)<(j:Int)) by omega)) ?_
  by_cases hc:b5 l x<l.length
  ·have hx:l[b5 l x]? = some l[b5 l x]:=List.getElem?_eq_getElem hc
   refine af (aZ hc) ?_
   refine aa (aB hx) ?_
   refine aa (Wi hG l[b5 l x] x) ?_
   refine congrArg (fun b:Bool=>some ((((b5 l x:Nat):Int),(b,())),())) ?_
   rw[hx]
   unfold pR
   by_cases he:l[b5 l x].1=x
   ·simp[he]
   ·simp[he];split<;>simp
  ·refine ag (decide_eq_false (show ¬(((b5 l x:Nat):Int)<((l.length:Nat):Int)) by omega)) ?_
   refine congrArg (fun b:Bool=>some ((((b5 l x:Nat):Int),(b,())),())) ?_
   rw[List.getElem?_eq_none (by omega)];simp
 intro n
 induction n with
 |zero=>intro i j zk h1 h2 h3;exact fin i j (by omega) h1 h2
 |succ n ih =>
  intro i j zk h1 h2 h3
  by_cases aF:i<j
  case neg=>exact fin i j aF h1 h2
  refine ar (j:=0) (by kernel_rfl) ((BF _ _ _).trans ?_)
  refine af (decide_eq_true (show((i:Int)<(j:Int)) by omega)) ?_
  refine ag rfl ?_
  have hm:=Ke (i:=i) (j:=j) (by omega) (by omega)
  have hh:(i+j) / 2<l.length:=by omega
  have hx:l[(i+j) / 2]? = some l[(i+j) / 2]:=List.getElem?_eq_getElem hh
  have om:=xk (x:=x) hs ((i+j) / 2) _ hx
  refine aa (show ba l (IntKind.wrap .i64 (kZ .u64 (IntKind.wrap .u64 (IntKind.wrap .i64 ((i:Int)+(j:Int)))) (1:Int)))=some l[(i+j) / 2] by rw[hm];exact aB hx) ?_
  refine aa (Wi hG l[(i+j) / 2] x) ?_
  by_cases ho:fa l[(i+j) / 2].1 x=true
  ·refine af (decide_eq_true ((ke _ _).2 ho)) ?_
   have hc:=om.1 ho
   have hw:IntKind.wrap .i64 (IntKind.wrap .i64 (kZ .u64 (IntKind.wrap .u64 (IntKind.wrap .i64 ((i:Int)+(j:Int)))) (1:Int))+1)=(((i+j) / 2+1:Nat):Int):=by
    rw[hm];exact aG hh (by omega)
   have:=ih ((i+j) / 2+1) j (by omega) (by omega) h2 h3
   rw[←hw]at this
   exact this
  ·refine ag (decide_eq_false (fun h=>ho ((ke _ _).1 h))) ?_
   have hc:¬(i+j) / 2<b5 l x:=fun h=>ho (om.2 h)
   have:=ih i ((i+j) / 2) (by omega) h1 (by omega) (by omega)
   rw[←hm]at this
   exact this
theorem Rz(hG:HG G)(l:List ai)(x:ID)(hs:dm l)(hl:l.length≤50000000) :
  FX G 215213 ju ((l,x,()),())=some (((((b5 l x:Nat):Int),(decide ((l[b5 l x]?).map (·.1)=some x),())):Int×(Bool×Unit)),()):=by
 refine ax (fn:=Tryz.f213) (hG _ _ rfl) (by kernel_rfl) (by kernel_rfl) ((QO _ _ _).trans ?_)
 exact Ry hG l x hs hl l.length 0 l.length (by omega) (by omega) (FK l x) (Nat.le_refl _)
theorem oK(hG:HG G)(w:aW)(x:ID)(hs:dm w.2.1)(hl:w.2.1.length≤50000000) :
  FX G 182 mV ((x,()),(w,()))=some (((((b5 w.2.1 x:Nat):Int),(decide ((w.2.1[b5 w.2.1 x]?).map (·.1)=some x),())):Int×(Bool×Unit)),(w,())):=by
 refine ax (fn:=Tryz.f182) (hG _ _ rfl) (by kernel_rfl) (by kernel_rfl) ((aac _ _ _).trans ?_)
 exact aa (Rz hG w.2.1 x hs hl) rfl
theorem xl{x:ID}:∀{l:List ai},dm l→aT l x=(l[b5 l x]?).filter fun v=>decide (v.1=x)
 |[],_=>rfl
 |w::r,hs=>by
  have hw:∀{u:ai},u∈r→fa w.1 u.1=true:=fun {u} hu=>List.rel_of_pairwise_cons hs hu
  have hr:dm r:=hs.of_cons
  by_cases aF:fa w.1 x=true
  ·have e:b5 (w::r) x=b5 r x+1:=by unfold b5;rw[List.countP_cons_of_pos (by simpa using aF)]
   have br:¬w.1=x:=fun e=>by rw[e,b8]at aF;cases aF
   rw[e]
   simp only[aT,List.find?_cons,br,decide_false,List.getElem?_cons_succ]
   exact xl hr
  ·have hn:∀u∈w::r,fa u.1 x=false:=fun u hu=>by
    rcases List.mem_cons.1 hu with rfl|hu
    ·simpa using aF
    ·rw[Bool.eq_false_iff];intro h2;exact aF (gN (hw hu) h2)
   rw[sB hn]
   by_cases he:w.1=x
   ·simp[aT,List.find?_cons,he,Option.filter]
   ·have I9:fa x w.1=true:=lB (by simpa using aF) he
    have:aT r x=none:=by
     unfold aT;rw[List.find?_eq_none];intro u hu h2
     have h3:u.1=x:=by simpa using h2
     have h4:=hw hu
     rw[h3]at h4
     have:=lA h4
     rw[I9]at this;cases this
    rw[show aT (w::r) x=aT r x by simp only[aT,List.find?_cons,he,decide_false],this]
    simp[he,Option.filter]
theorem dq{l:List ai}{x:ID}(hs:dm l):decide ((l[b5 l x]?).map (·.1)=some x)=(aT l x).isSome:=by
 rw[xl hs]
 cases h:l[b5 l x]? with
 |none=>simp
 |some v=>by_cases he:v.1=x<;>simp[he,Option.filter]
theorem H7(v:ai):∀{l:List ai},dm l→aT l v.1=none→dy v l=l.take (b5 l v.1)++(v::l.drop (b5 l v.1))
 |[],_,_=>rfl
 |w::r,hs,hf=>by
  have hw:∀{u:ai},u∈r→fa w.1 u.1=true:=fun {u} hu=>List.rel_of_pairwise_cons hs hu
  have hr:dm r:=hs.of_cons
  have br:¬w.1=v.1:=fun e=>by simp[aT,e]at hf
  have DO:aT r v.1=none:=by simpa[aT,List.find?_cons,br] using hf
  by_cases aF:fa w.1 v.1=true
  ·have e:b5 (w::r) v.1=b5 r v.1+1:=by unfold b5;rw[List.countP_cons_of_pos (by simpa using aF)]
   have VA:fa v.1 w.1=false:=lA aF
   rw[e,dy,if_neg (by simp[VA]),H7 v hr DO]
   rfl
  ·have hn:∀u∈w::r,fa u.1 v.1=false:=fun u hu=>by
    rcases List.mem_cons.1 hu with rfl|hu
    ·simpa using aF
    ·rw[Bool.eq_false_iff];intro h2;exact aF (gN (hw hu) h2)
   have I9:fa v.1 w.1=true:=lB (by simpa using aF) br
   rw[sB hn,dy,if_pos I9];rfl
theorem xm{x:ID}:∀{l:List ai},dm l→(aT l x).isSome=true→cZ l x=l.take (b5 l x)++l.drop (b5 l x+1)
 |[],_,hf=>by simp[aT]at hf
 |w::r,hs,hf=>by
  have hw:∀{u:ai},u∈r→fa w.1 u.1=true:=fun {u} hu=>List.rel_of_pairwise_cons hs hu
  have hr:dm r:=hs.of_cons
  by_cases he:w.1=x
  ·have hn:∀u∈w::r,fa u.1 x=false:=fun u hu=>by
    rcases List.mem_cons.1 hu with rfl|hu
    ·rw[he,b8]
    ·rw[←he];exact lA (hw hu)
   have eV:cZ r x=r:=by
    unfold cZ;rw[List.filter_eq_self];intro u hu
    have h4:=hw hu
    simp;intro e2;rw[he,e2,b8]at h4;cases h4
   rw[sB hn]
   unfold cZ
   rw[List.filter_cons_of_neg (by simp[he])]
   exact eV
  ·have DO:(aT r x).isSome=true:=by simpa[aT,List.find?_cons,he] using hf
   have aF:fa w.1 x=true:=by
    obtain⟨u,hu⟩:=Option.isSome_iff_exists.1 DO
    have h1:=List.mem_of_find?_eq_some hu
    have h2:u.1=x:=by simpa using List.find?_some hu
    rw[←h2];exact hw h1
   have e:b5 (w::r) x=b5 r x+1:=by unfold b5;rw[List.countP_cons_of_pos (by simpa using aF)]
   rw[e]
   have:=xm hr DO
   simp[cZ,List.filter_cons,he]at this ⊢
   exact this
theorem xn(v:ai):∀{l:List ai},dm l→aT l v.1=none→dm (dy v l)
 |[],_,_=>List.pairwise_singleton _ _
 |w::r,hs,hf=>by
  have hw:∀{u:ai},u∈r→fa w.1 u.1=true:=fun {u} hu=>List.rel_of_pairwise_cons hs hu
  have hr:dm r:=hs.of_cons
  have br:¬w.1=v.1:=fun e=>by simp[aT,e]at hf
  have DO:aT r v.1=none:=by simpa[aT,List.find?_cons,br] using hf
  unfold dy
  split
  ·rename_i h
   refine List.Pairwise.cons (fun u hu=>?_) hs
   rcases List.mem_cons.1 hu with rfl|hu
   ·exact h
   ·exact gN h (hw hu)
  ·rename_i h
   have aF:fa w.1 v.1=true:=lB (by simpa using h) (fun e=>br e.symm)
   refine List.Pairwise.cons (fun u hu=>?_) (xn v hr DO)
   rcases oG.1 hu with rfl|hu
   ·exact aF
   ·exact hw hu
theorem uh{l:List ai}{x:ID}(hs:dm l):dm (cZ l x):=hs.filter _
theorem di{l:List ah}{x:ID}{v:ah}(hs:bY l)(h:aX l x=some v):l[bG l x]? = some v:=by
 have kH:=sy (x:=x) hs
 rw[h]at kH
 cases hg:l[bG l x]? with
 |none=>rw[hg]at kH;simp[Option.filter]at kH
 |some u =>
  rw[hg]at kH
  simp only[Option.filter]at kH
  split at kH
  ·exact kH.symm
  ·cases kH
theorem kI{l:List ah}{x:ID}{v:ah}(h:aX l x=some v):v.1=x:=by simpa using List.find?_some h
theorem gO{l:List ah}{x:ID}{v:ah}(h:aX l x=some v):v∈l:=List.mem_of_find?_eq_some h
theorem j0{l:List ah}{x:ID}{k:Nat}{u:ah}(hs:bY l)(hk:l[k]? = some u)(hu:u.1=x):k=bG l x:=by
 have h1:¬k<bG l x:=fun h=>by
  have:=(xi hs k u hk).2 h
  rw[hu,b8]at this;cases this
 have hf:(aX l x).isSome=true:=by
  unfold aX;rw[List.find?_isSome];exact⟨u,List.mem_of_getElem? hk,by simp[hu]⟩
 obtain⟨v,hv⟩:=Option.isSome_iff_exists.1 hf
 have hg:=di hs hv
 by_cases h2:bG l x<k
 ·obtain⟨h3,h4⟩:=List.getElem?_eq_some_iff.1 hg
  obtain⟨h5,h6⟩:=List.getElem?_eq_some_iff.1 hk
  have:=List.pairwise_iff_getElem.1 hs _ _ h3 h5 h2
  rw[h4,h6,kI hv,hu,b8]at this;cases this
 ·omega
theorem H8{l:List ah}{x:ID}{v:ah}(hs:bY l)(h:aX l x=some v)(g f:ah→ah)(h1:∀w,w.1=x→g w=f w)(h2:∀w,w.1≠x→g w=w):l.map g=l.set (bG l x) (f v):=by
 have hg:=di hs h
 apply List.ext_getElem?
 intro k
 rw[List.getElem?_map,List.getElem?_set]
 by_cases hk:bG l x=k
 ·subst hk
  rw[if_pos rfl,if_pos (List.getElem?_eq_some_iff.1 hg).1,hg]
  simp[h1 v (kI h)]
 ·rw[if_neg hk]
  cases hu:l[k]? with
  |none=>rfl
  |some u =>
   have:u.1≠x:=fun e=>hk (j0 hs hu e).symm
   simp[h2 u this]
theorem mr{l:List ai}{x:ID}{v:ai}(hs:dm l)(h:aT l x=some v):l[b5 l x]? = some v:=by
 have kH:=xl (x:=x) hs
 rw[h]at kH
 cases hg:l[b5 l x]? with
 |none=>rw[hg]at kH;simp[Option.filter]at kH
 |some u =>
  rw[hg]at kH
  simp only[Option.filter]at kH
  split at kH
  ·exact kH.symm
  ·cases kH
theorem rz{l:List ai}{x:ID}{v:ai}(h:aT l x=some v):v.1=x:=by simpa using List.find?_some h
theorem D6{l:List ai}{x:ID}{v:ai}(h:aT l x=some v):v∈l:=List.mem_of_find?_eq_some h
theorem Nz{l:List ai}{x:ID}{k:Nat}{u:ai}(hs:dm l)(hk:l[k]? = some u)(hu:u.1=x):k=b5 l x:=by
 have h1:¬k<b5 l x:=fun h=>by
  have:=(xk hs k u hk).2 h
  rw[hu,b8]at this;cases this
 have hf:(aT l x).isSome=true:=by
  unfold aT;rw[List.find?_isSome];exact⟨u,List.mem_of_getElem? hk,by simp[hu]⟩
 obtain⟨v,hv⟩:=Option.isSome_iff_exists.1 hf
 have hg:=mr hs hv
 by_cases h2:b5 l x<k
 ·obtain⟨h3,h4⟩:=List.getElem?_eq_some_iff.1 hg
  obtain⟨h5,h6⟩:=List.getElem?_eq_some_iff.1 hk
  have:=List.pairwise_iff_getElem.1 hs _ _ h3 h5 h2
  rw[h4,h6,rz hv,hu,b8]at this;cases this
 ·omega
theorem RA{l:List ai}{x:ID}{v:ai}(hs:dm l)(h:aT l x=some v)(g f:ai→ai)(h1:∀w,w.1=x→g w=f w)(h2:∀w,w.1≠x→g w=w):l.map g=l.set (b5 l x) (f v):=by
 have hg:=mr hs h
 apply List.ext_getElem?
 intro k
 rw[List.getElem?_map,List.getElem?_set]
 by_cases hk:b5 l x=k
 ·subst hk
  rw[if_pos rfl,if_pos (List.getElem?_eq_some_iff.1 hg).1,hg]
  simp[h1 v (rz h)]
 ·rw[if_neg hk]
  cases hu:l[k]? with
  |none=>rfl
  |some u =>
   have:u.1≠x:=fun e=>hk (Nz hs hu e).symm
   simp[h2 u this]
theorem dm.map{l:List ai}(h:dm l){f:ai→ai}(hf:∀v,(f v).1=v.1):dm (l.map f):=by
 unfold dm at h ⊢
 rw[List.pairwise_map]
 exact h.imp fun {a b} nP=>by rw[hf,hf];exact nP
end Go.Vs
namespace Go.Vs
open Go.Proofs
variable {G:(f:FuncId)→(g:aM)→Option (g.A→Option g.B)}
theorem tq{α R:Type}{o:Option α}{a r:Option R}{f:α→Option R}{p:α}(h:o=some p)(k:f p=r):qF o a f=r:=by subst h;exact k
theorem LL{α R:Type}{o:Option α}{a r:Option R}{f:α→Option R}(h:o=none)(k:a=r):qF o a f=r:=by subst h;exact k
def tu(w:aW)(x:ID):Int×aW :=
 if(aT w.2.1 x).isSome=true then(12,w) else if 40≤w.2.1.length then(3,w) else(0,(w.1,(dy (x,(e0,0)) w.2.1,w.2.2)))
theorem Wj(hG:HG G)(w:aW)(x:ID)(hs:dm w.2.1)(hl:w.2.1.length≤50000000):FX G 178 yv ((x,()),(w,()))=some (((tu w x).1,()),((tu w x).2,())):=by
 refine ax (fn:=Tryz.f178) (hG _ _ rfl) (by kernel_rfl) (by kernel_rfl) ((ZY _ _ _).trans ?_)
 refine aa (oK hG w x hs hl) ?_
 unfold tu
 cases hf:(aT w.2.1 x).isSome
 ·rw[if_neg (by simp)]
  refine ag ((dq hs).trans hf) ?_
  by_cases h2:40≤w.2.1.length
  ·rw[if_pos h2]
   exact af (decide_eq_true (show((w.2.1.length:Nat):Int)≥40 by omega)) rfl
  ·rw[if_neg h2]
   refine ag (decide_eq_false (show ¬((w.2.1.length:Nat):Int)≥40 by omega)) ?_
   have hc:=FK w.2.1 x
   have mz:qG w.2.1 ((b5 w.2.1 x:Nat):Int) [((x,(e0,0)):ai)]=true:=by
    unfold qG
    rw[decide_eq_true (show(0:Int)≤((b5 w.2.1 x:Nat):Int) by omega),decide_eq_true (show((b5 w.2.1 x:Nat):Int)≤((w.2.1.length:Nat):Int) by omega)]
    rw[fits (by simp;omega)];rfl
   refine af mz ?_
   have e:gh w.2.1 ((b5 w.2.1 x:Nat):Int) [((x,(e0,0)):ai)]=dy (x,(e0,0)) w.2.1:=by
    rw[H7 (x,(e0,0)) hs (by simpa using hf)]
    unfold gh;simp
   exact congrArg (fun l:List ai=>some (((0:Int),()),((w.1,(l,w.2.2)),()))) e
 ·rw[if_pos rfl]
  exact af ((dq hs).trans hf) rfl
def BY(w:aW)(o:bj):Option (Fin 2×Nat) :=
 if gD o=true then(if(aT w.2.1 (aK o)).isSome=true then some (⟨1,by decide⟩,b5 w.2.1 (aK o)) else none)
 else(if(aX w.1 (aK o)).isSome=true then some (⟨0,by decide⟩,bG w.1 (aK o)) else none)
theorem abI(hG:HG G)(w:aW)(o:bj)(hv:bY w.1)(he:dm w.2.1)(Ov:w.1.length≤50000000)(hle:w.2.1.length≤50000000) :
  FX G 189 Hq ((o,()),(w,()))=some ((BY w o,(BY w o,())),(w,())):=by
 refine ax (fn:=Tryz.f189) (hG _ _ rfl) (by kernel_rfl) (by kernel_rfl) ((aak _ _ _).trans ?_)
 unfold BY
 by_cases ho:gD o=true
 ·rw[if_pos ho]
  refine af ho ?_
  refine aa (oK hG w (aK o) he hle) ?_
  cases hf:aT w.2.1 (aK o) with
  |none =>
   refine ag ((dq he).trans (by rw[hf];rfl)) ?_
   rfl
  |some e =>
   refine af ((dq he).trans (by rw[hf];rfl)) ?_
   have aF:=(List.getElem?_eq_some_iff.1 (mr he hf)).1
   refine af (cW (fg _) (aZ aF)) ?_
   exact af (cW (fg _) (aZ aF)) rfl
 ·rw[if_neg ho]
  refine ag (by simpa using ho) ?_
  refine aa (ql hG w (aK o) hv Ov) ?_
  cases hf:aX w.1 (aK o) with
  |none =>
   refine ag ((fM hv).trans (by rw[hf];rfl)) ?_
   rfl
  |some e =>
   refine af ((fM hv).trans (by rw[hf];rfl)) ?_
   have aF:=(List.getElem?_eq_some_iff.1 (di hv hf)).1
   refine af (cW (fg _) (aZ aF)) ?_
   exact af (cW (fg _) (aZ aF)) rfl
def ui(w:aW)(o:bj):Int×aW :=
 if gD o=true then(if(aT w.2.1 (aK o)).isSome=true then(0,(w.1,(w.2.1.map (jZ o),w.2.2))) else(13,w))
 else(if(aX w.1 (aK o)).isSome=true then(0,(w.1.map (jf o),w.2)) else(13,w))
theorem agI(hG:HG G)(w:aW)(o:bj)(hv:bY w.1)(he:dm w.2.1)(Ov:w.1.length≤50000000)(hle:w.2.1.length≤50000000) :
  FX G 158 P4 ((o,()),(w,()))=some (((ui w o).1,()),((ui w o).2,())):=by
 refine ax (fn:=Tryz.f158) (hG _ _ rfl) (by kernel_rfl) (by kernel_rfl) ((afN _ _ _).trans ?_)
 refine aa (abI hG w o hv he Ov hle) ?_
 by_cases ho:gD o=true
 ·cases hf:aT w.2.1 (aK o) with
  |none =>
   have e1:BY w o=none:=by unfold BY;rw[if_pos ho,hf];rfl
   have e2:ui w o=(13,w):=by unfold ui;rw[if_pos ho,hf];rfl
   rw[e2]
   exact LL e1 (LL e1 rfl)
  |some e =>
   have e1:BY w o=some (⟨1,by decide⟩,b5 w.2.1 (aK o)):=by unfold BY;rw[if_pos ho,hf];rfl
   have hm:∀f:ai→ai,(∀u,u.1=aK o→jZ o u=f u)→w.2.1.map (jZ o)=w.2.1.set (b5 w.2.1 (aK o)) (f e):=fun f hf1 =>
    RA he hf (jZ o) f hf1 (fun u hu=>by unfold jZ;rw[if_neg (fun k=>hu k.2)])
   have e2:ui w o=(0,(w.1,(w.2.1.map (jZ o),w.2.2))):=by unfold ui;rw[if_pos ho,hf];rfl
   rw[e2]
   refine tq e1 (ag rfl (af rfl (tq e1 (ag rfl (af rfl ?_)))))
   by_cases h7:o.1=7
   ·refine af (Gc h7) (aa (mr he hf) ?_)
    have:=hm (fun u=>(u.1,(kW o,u.2.2))) (fun u hu=>by unfold jZ;rw[if_pos ⟨ho,hu⟩,if_pos h7])
    exact congrArg (fun l:List ai=>some (((0:Int),()),((w.1,(l,w.2.2)),()))) this.symm
   ·refine ag (yK h7) (aa (mr he hf) ?_)
    have:=hm (fun u=>(u.1,(u.2.1,oN o))) (fun u hu=>by unfold jZ;rw[if_pos ⟨ho,hu⟩,if_neg h7])
    exact congrArg (fun l:List ai=>some (((0:Int),()),((w.1,(l,w.2.2)),()))) this.symm
 ·have nu:gD o=false:=by simpa using ho
  cases hf:aX w.1 (aK o) with
  |none =>
   have e1:BY w o=none:=by unfold BY;rw[if_neg ho,hf];rfl
   have e2:ui w o=(13,w):=by unfold ui;rw[if_neg ho,hf];rfl
   rw[e2]
   exact LL e1 (LL e1 rfl)
  |some e =>
   have e1:BY w o=some (⟨0,by decide⟩,bG w.1 (aK o)):=by unfold BY;rw[if_neg ho,hf];rfl
   have hm:∀f:ah→ah,(∀u,u.1=aK o→jf o u=f u)→w.1.map (jf o)=w.1.set (bG w.1 (aK o)) (f e):=fun f hf1 =>
    H8 hv hf (jf o) f hf1 (fun u hu=>by unfold jf;rw[if_neg (fun k=>hu k.2)])
   have e2:ui w o=(0,(w.1.map (jf o),w.2)):=by unfold ui;rw[if_neg ho,hf];rfl
   rw[e2]
   refine tq e1 (af rfl (tq e1 (af rfl ?_)))
   by_cases h7:o.1=7
   ·refine af (Gc h7) (aa (di hv hf) ?_)
    have:=hm (fun u=>(u.1,(u.2.1,(kW o,u.2.2.2)))) (fun u hu=>by unfold jf;rw[if_pos ⟨nu,hu⟩,if_pos h7])
    exact congrArg (fun l:List ah=>some (((0:Int),()),((l,w.2),()))) this.symm
   ·refine ag (yK h7) (aa (di hv hf) ?_)
    have:=hm (fun u=>(u.1,(u.2.1,(u.2.2.1,oN o)))) (fun u hu=>by unfold jf;rw[if_pos ⟨nu,hu⟩,if_neg h7])
    exact congrArg (fun l:List ah=>some (((0:Int),()),((l,w.2),()))) this.symm
end Go.Vs
namespace Go.Vs
open Go.Proofs
variable {G:(f:FuncId)→(g:aM)→Option (g.A→Option g.B)}
theorem Wl(hG:HG G)(a b:ae):FX G 195 DV ((a,b,()),())=some ((mi a b,()),()):=by
 refine ax (fn:=Tryz.f195) (hG _ _ rfl) (by kernel_rfl) (by kernel_rfl) ((aaw _ _ _).trans ?_)
 refine aa (Rr hG a.1 b.1) ?_
 refine aa (Rq hG a.2 b.2) ?_
 refine aa (Wg (hG _ _ rfl) (pR a.1 b.1) (Kd a.2 b.2)) ?_
 refine congrArg (fun n:Int=>some ((n,()),())) ?_
 obtain⟨a1,a2⟩:=a
 obtain⟨b1,b2⟩:=b
 unfold mi pR Kd kE
 simp only[Prod.mk.injEq]
 by_cases h:a1=b1
 ·subst h
  simp only[if_true,b8,Bool.false_or,true_and,decide_true,Bool.true_and]
  by_cases h1:a2<b2
  ·have:¬a2=b2:=by omega
   simp[h1,this]
  ·by_cases h2:a2>b2
   ·have:¬a2=b2:=by omega
    simp[h1,h2,this]
   ·have:a2=b2:=by omega
    simp[this]
 ·simp only[h,if_false,false_and,decide_false,Bool.false_and,Bool.or_false]
  cases fa a1 b1<;>simp
theorem abJ(hG:G 168 l9=none)(row:List ae)(d:ae)(hl:row.length≤1073741824):∀(n i:Nat),i+n=row.length →
  LX G 168 l9 Tryz.f168 vq (aN Tryz.prog 168 0) ((row,(((row.length:Nat):Int),((i:Int),()))),(((d,()),()),()))=some ((idx d (row.drop i) i,()),()):=by
 intro n
 induction n with
 |zero =>
  intro i hi
  refine ar (j:=0) (by kernel_rfl) ((Li _ _ _).trans ?_)
  refine ag (decide_eq_false (show ¬((i:Int)<((row.length:Nat):Int)) by omega)) ?_
  rw[List.drop_eq_nil_of_le (by omega)];rfl
 |succ n ih =>
  intro i hi
  have aF:i<row.length:=by omega
  refine ar (j:=0) (by kernel_rfl) ((Li _ _ _).trans ?_)
  refine af (aZ aF) (aa (aB (List.getElem?_eq_getElem aF)) ?_)
  rw[List.drop_eq_getElem_cons aF,idx]
  by_cases he:row[i]=d
  ·rw[if_pos he]
   exact af ((kD d row[i]).trans (decide_eq_true he.symm)) rfl
  ·rw[if_neg he]
   refine ag ((kD d row[i]).trans (decide_eq_false fun h=>he h.symm)) ?_
   rw[wI,aG aF hl]
   exact ih (i+1) (by omega)
theorem BZ(hG:G 168 l9=none)(row:List ae)(d:ae)(hl:row.length≤1073741824):FX G 168 l9 ((row,d,()),())=some ((idx d row 0,()),()):=by
 refine ax (fn:=Tryz.f168) hG (by kernel_rfl) (by kernel_rfl) ((aaq _ _ _).trans ?_)
 have:=abJ hG row d hl row.length 0 (by omega)
 rw[List.drop_zero]at this
 exact this
theorem D7(hG:HG G)(row:List ae)(d:ae)(hl:row.length≤1073741824):FX G 166 vh ((row,d,()),())=some ((decide (d∈row),()),()):=by
 refine ax (fn:=Tryz.f166) (hG _ _ rfl) (by kernel_rfl) (by kernel_rfl) ((aap _ _ _).trans ?_)
 refine aa (BZ (hG _ _ rfl) row d hl) ?_
 refine congrArg (fun b:Bool=>some ((b,()),())) ?_
 rw[Bool.eq_iff_iff]
 simp only[decide_eq_true_eq]
 have:=eR (d:=d) (row:=row)
 constructor
 ·intro h;exact Classical.byContradiction fun k=>by have:=this.2 k;omega
 ·intro h
  have h2:¬idx d row 0<0:=fun k=>this.1 k h
  omega
theorem dN(a:ae):kE a a=false:=by unfold kE;simp[b8]
theorem fN{a b c:ae}(h:kE a b=true)(k:kE b c=true):kE a c=true:=by
 obtain⟨⟨a1,a2⟩,a3⟩:=a;obtain⟨⟨b1,b2⟩,b3⟩:=b;obtain⟨⟨c1,c2⟩,c3⟩:=c
 simp[kE,fa]at *;omega
theorem xp{a b:ae}(h:kE a b=false)(k:a≠b):kE b a=true:=by
 obtain⟨⟨a1,a2⟩,a3⟩:=a;obtain⟨⟨b1,b2⟩,b3⟩:=b
 simp[kE,fa]at *;omega
theorem FL{a b c:ae}(h:kE a b=true)(k:kE c b=false):kE a c=true:=by
 obtain⟨⟨a1,a2⟩,a3⟩:=a;obtain⟨⟨b1,b2⟩,b3⟩:=b;obtain⟨⟨c1,c2⟩,c3⟩:=c
 simp[kE,fa]at *;omega
theorem sD(a b:ae):mi a b<0↔kE a b=true:=by
 unfold mi
 by_cases h:a=b
 ·subst h;simp[dN]
 ·rw[if_neg h];cases kE a b<;>simp
theorem pV{row:List ae}{k:Nat}(hk:k<row.length):row.getD k zD=row[k]:=by simp[List.getD,hk]
theorem xq(row:List ae):∀(r:List ae) (i k:Nat),row.drop i=r→k<row.length→k≤i→(∀j,j<i→(hj:j<row.length)→kE row[j] (row.getD k zD)=false)→(∀j,j<k→(hj:j<row.length)→kE (row.getD k zD) row[j]=true) →
  (∀j,(hj:j<row.length)→kE row[j] (row.getD (fG row r i k) zD)=false)∧(∀j,j<fG row r i k→(hj:j<row.length)→kE (row.getD (fG row r i k) zD) row[j]=true)
 |[],i,k,hr,hk,hki,h1,h2=>by
  have hi:row.length≤i:=by
   have:=congrArg List.length hr;simp at this;omega
  exact⟨fun j hj=>h1 j (by omega) hj,h2⟩
 |x::r,i,k,hr,hk,hki,h1,h2=>by
  have hi:i<row.length:=by
   have:=congrArg List.length hr;simp at this;omega
  have hx:row[i]=x:=by
   have:=List.drop_eq_getElem_cons hi;rw[hr]at this;injection this with a b;exact a.symm
  have rN:row.drop (i+1)=r:=by
   have:=List.drop_eq_getElem_cons hi;rw[hr]at this;injection this with a b;exact b.symm
  unfold fG
  split
  ·rename_i aF
   rw[sD]at aF
   refine xq row r (i+1) i rN hi (by omega) (fun j hj I4=>?_) (fun j hj I4=>?_)
   ·rw[pV hi,hx]
    rcases Nat.lt_succ_iff_lt_or_eq.1 hj with hj|rfl
    ·cases hc:kE row[j] x with
     |false=>rfl
     |true=>have:=fN hc aF;rw[h1 j hj I4]at this;cases this
    ·rw[hx,dN]
   ·rw[pV hi,hx]
    exact FL aF (h1 j (by omega) I4)
  ·rename_i aF
   rw[sD]at aF
   refine xq row r (i+1) k rN hk (by omega) (fun j hj I4=>?_) h2
   rcases Nat.lt_succ_iff_lt_or_eq.1 hj with hj|rfl
   ·exact h1 j hj I4
   ·rw[hx];simpa using aF
theorem uj{row:List ae}(h:0<row.length):(∀j,(hj:j<row.length)→kE row[j] (row.getD (fG row row 0 0) zD)=false)∧(∀j,j<fG row row 0 0→(hj:j<row.length)→kE (row.getD (fG row row 0 0) zD) row[j]=true) :=
 xq row row 0 0 rfl h (Nat.le_refl _) (fun j hj=>by omega) (fun j hj=>by omega)
theorem Kf{d:ae}:∀{row:List ae} {k:Nat} {i:Int},row[k]? = some d→(∀j,j<k→row[j]?≠some d)→idx d row i=i+k
 |[],k,i,h,_=>by simp at h
 |e::r,0,i,h,_=>by
  simp at h;subst h;rw[idx,if_pos rfl];simp
 |e::r,k+1,i,h,hn=>by
  have h0:=hn 0 (by omega)
  rw[idx,if_neg (fun e=>h0 (by simp[e]))]
  rw[Kf (k:=k) (by simpa using h) (fun j hj=>by have:=hn (j+1) (by omega);simpa using this)]
  simp;omega
theorem RB{row:List ae}(h:0<row.length):idx (row.getD (fG row row 0 0) zD) row 0=((fG row row 0 0:Nat):Int):=by
 have hm:=pS row row 0 0 h (by omega)
 have:=Kf (d:=row.getD (fG row row 0 0) zD) (row:=row) (k:=fG row row 0 0) (i:=0) (by rw[pV hm];exact List.getElem?_eq_getElem hm) (fun j hj he=>by
  obtain⟨h1,h2⟩:=List.getElem?_eq_some_iff.1 he
  have:=(uj h).2 j hj h1
  rw[h2,dN]at this;cases this)
 omega
theorem RC(hG:HG G)(row:List ae)(h:0<row.length)(hl:row.length≤100000000):FX G 196194 ky ((row,()),())=some ((row.getD (fG row row 0 0) zD,()),()):=by
 refine ax (fn:=Tryz.f194) (hG _ _ rfl) (by kernel_rfl) (by kernel_rfl) ((QP _ _ _).trans ?_)
 refine ag (decide_eq_false (show ¬((row.length:Nat):Int)<1 by omega)) ?_
 refine aa (aB (i:=0) (List.getElem?_eq_getElem h)) ?_
 have loop:∀(n i k:Nat),i+n=row.length→k<row.length→LX G 196194 ky Tryz.f194 jW (aN Tryz.prog 194 0) ((row,((i:Int),())),(((zD,()),(((row.getD k zD),()),())),()))=some ((row.getD (fG row (row.drop i) i k) zD,()),()):=by
  intro n
  induction n with
  |zero =>
   intro i k hi hk
   refine ar (j:=0) (by kernel_rfl) ((BG _ _ _).trans ?_)
   refine ag (decide_eq_false (show ¬((i:Int)<((row.length:Nat):Int)) by omega)) ?_
   rw[List.drop_eq_nil_of_le (by omega)];rfl
  |succ n ih =>
   intro i k hi hk
   have aF:i<row.length:=by omega
   have hx:row[i]? = some row[i]:=List.getElem?_eq_getElem aF
   refine ar (j:=0) (by kernel_rfl) ((BG _ _ _).trans ?_)
   refine af (aZ aF) (aa (aB hx) ?_)
   refine aa (Wl hG row[i] (row.getD k zD)) ?_
   rw[List.drop_eq_getElem_cons aF,fG]
   by_cases ho:mi row[i] (row.getD k zD)<0
   ·rw[if_pos ho]
    refine af (decide_eq_true ho) (aa (aB hx) ?_)
    have:=ih (i+1) i (by omega) aF
    rw[←aG aF (by omega),pV aF]at this
    exact this
   ·rw[if_neg ho]
    refine ag (decide_eq_false ho) ?_
    have:=ih (i+1) k (by omega) hk
    rw[←aG aF (by omega)]at this
    exact this
 have h1:=loop (row.length-1) 1 0 (by omega) h
 have h2:fG row row 0 0=fG row (row.drop 1) 1 0:=by
  cases row with
  |nil=>simp at h
  |cons x r =>
   rw[List.drop_one,List.tail_cons]
   conv=>lhs;rw[fG]
   rw[if_neg]
   show ¬mi x x<0
   unfold mi;simp
 rw[h2]
 have h3:row.getD 0 zD=row[0]:=pV h
 rw[h3]at h1
 exact h1
def total(ls:List (List ae)):Nat:=(ls.map List.length).sum
theorem B2(a:List ae)(r:List (List ae)):total (a::r)=a.length+total r:=by unfold total;rw[List.map_cons,List.sum_cons]
theorem Wm(hG:HG G)(ls:List (List ae))(hn:ls.length≤1000)(hl:total ls≤500000000):FX G 196 oy ((ls,()),())=some ((ls.flatten,()),()):=by
 refine ax (fn:=Tryz.f196) (hG _ _ rfl) (by kernel_rfl) (by kernel_rfl) ((aax _ _ _).trans ?_)
 have abK:∀(n i:Nat) (out:List ae),i+n=ls.length→out.length+total (ls.drop i)≤500000000→LX G 196 oy Tryz.f196 vu (aN Tryz.prog 196 1) ((ls,(((ls.length:Nat):Int),((i:Int),()))),((),(out,())))=some ((out++(ls.drop i).flatten,()),()):=by
  intro n
  induction n with
  |zero =>
   intro i out hi ho
   refine ar (j:=1) (by kernel_rfl) ((Lk _ _ _).trans ?_)
   refine ag (decide_eq_false (show ¬((i:Int)<((ls.length:Nat):Int)) by omega)) ?_
   rw[List.drop_eq_nil_of_le (by omega),List.flatten_nil,List.append_nil];rfl
  |succ n ih =>
   intro i out hi ho
   have aF:i<ls.length:=by omega
   rw[List.drop_eq_getElem_cons aF]at ho ⊢
   have nu:out.length+(ls[i].length+total (ls.drop (i+1)))≤500000000:=by
    have:total (ls[i]::ls.drop (i+1))=ls[i].length+total (ls.drop (i+1)):=B2 _ _
    omega
   refine ar (j:=1) (by kernel_rfl) ((Lk _ _ _).trans ?_)
   refine af (aZ aF) (aa (aB (List.getElem?_eq_getElem aF)) ?_)
   refine af (fits (show out.length+ls[i].length≤1073741824 by omega)) ?_
   have:=ih (i+1) (out++ls[i]) (by omega) (by rw[List.length_append];omega)
   rw[List.flatten_cons,←List.append_assoc]
   rw[←aG aF (by omega)]at this
   exact this
 have abL:∀(n i m:Nat),i+n=ls.length→m+total (ls.drop i)=total ls→LX G 196 oy Tryz.f196 vt (aN Tryz.prog 196 0) ((ls,((m:Int),(ls,(((ls.length:Nat):Int),((i:Int),()))))),((),()))=some ((ls.flatten,()),()):=by
  intro n
  induction n with
  |zero =>
   intro i m hi hm
   refine ar (j:=0) (by kernel_rfl) ((Lj _ _ _).trans ?_)
   refine ag (decide_eq_false (show ¬((i:Int)<((ls.length:Nat):Int)) by omega)) ?_
   have hg:qH (m:Int)=true:=by
    unfold qH
    rw[decide_eq_true (show(0:Int)≤(m:Int) by omega)]
    rw[decide_eq_true (show(m:Int)≤fh by unfold fh;omega)];rfl
   refine af hg ?_
   have:=abK ls.length 0 [] (by omega) (by rw[List.drop_zero];simpa using hl)
   rw[List.drop_zero,List.nil_append]at this
   exact this
  |succ n ih =>
   intro i m hi hm
   have aF:i<ls.length:=by omega
   have TS:m+ls[i].length+total (ls.drop (i+1))=total ls:=by
    rw[List.drop_eq_getElem_cons aF]at hm
    have:total (ls[i]::ls.drop (i+1))=ls[i].length+total (ls.drop (i+1)):=B2 _ _
    omega
   refine ar (j:=0) (by kernel_rfl) ((Lj _ _ _).trans ?_)
   refine af (aZ aF) (aa (aB (List.getElem?_eq_getElem aF)) ?_)
   have hw:IntKind.wrap .i64 ((m:Int)+((ls[i].length:Nat):Int))=((m+ls[i].length:Nat):Int):=by rw[wrap_small (by omega) (by omega)];rfl
   refine ag (decide_eq_false (show ¬IntKind.wrap .i64 ((m:Int)+((ls[i].length:Nat):Int))<0 by rw[hw];omega)) ?_
   have:=ih (i+1) (m+ls[i].length) (by omega) TS
   rw[←aG aF (by omega),←hw]at this
   exact this
 exact abL ls.length 0 0 (by omega) (by rw[List.drop_zero];omega)
theorem zO{α:Type}(xs:List α){k:Nat}(hk:k≤xs.length):cut xs (k:Int) ((xs.length:Nat):Int)=xs.drop k:=by
 unfold cut;rw[Int.toNat_natCast,Int.toNat_natCast,List.take_of_length_le (Nat.le_refl _)]
theorem sE{α:Type}(xs:List α)(k:Nat):cut xs 0 (k:Int)=xs.take k:=by
 unfold cut;rw[Int.toNat_natCast];rfl
theorem FM{n k:Nat}(h:k≤n):bq n (k:Int) ((n:Nat):Int)=true:=by unfold bq;simp;omega
theorem vM{n k:Nat}(h:k≤n):bq n 0 (k:Int)=true:=by unfold bq;simp;omega
theorem D8(hG:HG G)(row:List ae)(hl:row.length≤100000000):FX G 169 ri ((row,()),())=some ((cw row,()),()):=by
 refine ax (fn:=Tryz.f169) (hG _ _ rfl) (by kernel_rfl) (by kernel_rfl) ((aaj _ _ _).trans ?_)
 by_cases h0:row.length=0
 ·refine af (show(((row.length:Nat):Int)==0)=true by simp[h0]) ?_
  have:row=[]:=by simpa using h0
  subst this;rfl
 refine ag (show(((row.length:Nat):Int)==0)=false by rw[beq_eq_false_iff_ne];omega) ?_
 have hp:0<row.length:=by omega
 have hm:=pS row row 0 0 hp (by omega)
 refine aa (RC hG row hp hl) ?_
 refine aa (BZ (hG _ _ rfl) row (row.getD (fG row row 0 0) zD) (by omega)) ?_
 rw[RB hp]
 refine af (FM (n:=row.length) (k:=fG row row 0 0) (by omega)) (af (vM (n:=row.length) (k:=fG row row 0 0) (by omega)) ?_)
 have key:∀a b:List ae,a=row.drop (fG row row 0 0)→b=row.take (fG row row 0 0)→((FX G 196 oy (([a,b],()),())).bind fun(y3:(((List ae)×Unit)×Unit))=>some (y3.1,()))=some ((cw row,()),()):=by
  intro a b ha hb
  subst ha hb
  refine aa (Wm hG [row.drop (fG row row 0 0),row.take (fG row row 0 0)] (by simp) (by unfold total;simp;omega)) ?_
  unfold cw CM
  simp only[List.flatten_cons,List.flatten_nil,List.append_nil]
 exact key _ _ (zO row (by omega)) (sE row _)
theorem RD(hG:HG G)(ls:List (List ae))(hn:ls.length≤1000)(hl:total ls≤100000000):FX G 170 ox ((ls,()),())=some ((cw ls.flatten,()),()):=by
 refine ax (fn:=Tryz.f170) (hG _ _ rfl) (by kernel_rfl) (by kernel_rfl) ((aar _ _ _).trans ?_)
 refine aa (Wm hG ls hn (by omega)) ?_
 have hlen:ls.flatten.length=total ls:=by unfold total;exact List.length_flatten
 exact aa (D8 hG ls.flatten (by omega)) rfl
theorem RE(hG:HG G)(row:List ae)(after d:ae)(hl:row.length≤50000000):FX G 181 Bb ((row,after,d,()),())=some ((mj row after d,()),()):=by
  refine ax (fn:=Tryz.f181) (hG _ _ rfl) (by kernel_rfl) (by kernel_rfl) ((aaa _ _ _).trans ?_)
  refine aa (D7 hG row d (by omega)) ?_
  unfold mj
  by_cases hd:d∈row
  · rw[if_pos hd]
    exact af (decide_eq_true hd) (aa (D8 hG row (by omega)) rfl)
  rw[if_neg hd]
  refine ag (decide_eq_false hd) ?_
  refine aa (BZ (hG _ _ rfl) row after (by omega)) ?_
  have hr:idx after row 0<((row.length:Nat):Int)∨row.length=0∧idx after row 0 = -1:=by
    rcases oE after row 0 (by omega) with⟨h,_⟩|⟨k,h,hk,_⟩
    · by_cases h0:row.length=0
      · exact .inr ⟨h0,h⟩
      · exact .inl (by omega)
    · have:=(List.getElem?_eq_some_iff.1 hk).1
      exact .inl (by omega)
  have hm:max (idx after row 0) (0:Int)=max 0 (idx after row 0):=by omega
  have hw:IntKind.wrap .i64 (max (idx after row 0) (0:Int)+1)=(((max 0 (idx after row 0)).toNat+1:Nat):Int):=by
    rw[wrap_small (by omega) (by omega)];omega
  obtain⟨k,hk,oT,Ow⟩:∃k:Nat,min (IntKind.wrap .i64 (max (idx after row 0) (0:Int)+1)) ((row.length:Nat):Int)=(k:Int)∧k≤row.length∧row.take k++(d::row.drop k)=row.take ((max 0 (idx after row 0)).toNat+1)++(d::row.drop ((max 0 (idx after row 0)).toNat+1)):=by
    rw[hw]
    by_cases h0:row.length=0
    · have:row=[]:=by simpa using h0
      subst this
      exact⟨0,by simp;omega,by simp,by simp⟩
    · exact⟨(max 0 (idx after row 0)).toNat+1,by omega,by omega,rfl⟩
  have wb:(min (IntKind.wrap .i64 ((max (idx after row 0) (0:Int):Int)+(1:Int))) (((List.length row):Nat):Int):Int)=(k:Int):=hk
  show cond (bq (List.length row) (0:Int) (min (IntKind.wrap .i64 ((max (idx after row 0) (0:Int):Int)+(1:Int))) (((List.length row):Nat):Int):Int))
    (cond (bq (List.length row) (min (IntKind.wrap .i64 ((max (idx after row 0) (0:Int):Int)+(1:Int))) (((List.length row):Nat):Int):Int) (((List.length row):Nat):Int))
     ((FX G 170 ox ((((cut row (0:Int) (min (IntKind.wrap .i64 ((max (idx after row 0) (0:Int):Int)+(1:Int))) (((List.length row):Nat):Int):Int))::([d]::((cut row (min (IntKind.wrap .i64 ((max (idx after row 0) (0:Int):Int)+(1:Int))) (((List.length row):Nat):Int):Int) (((List.length row):Nat):Int))::([]:List (List ae))))),()),())).bind fun(y4:(((List ae)×Unit)×Unit)) =>
     some (y4.1,()))
     (none))
    (none)=_
  rw[wb]
  refine af (vM oT) (af (FM oT) ?_)
  have key:∀a b R:List ae,a=row.take k→b=row.drop k→R=cw (row.take k++(d::row.drop k))→((FX G 170 ox (([a,[d],b],()),())).bind fun(y3:(((List ae)×Unit)×Unit))=>some (y3.1,()))=some ((R,()),()):=by
    intro a b R ha hb hR
    subst ha hb hR
    refine aa (RD hG [row.take k,[d],row.drop k] (by simp) (by unfold total;simp;omega)) ?_
    refine congrArg (fun l:List ae=>some ((l,()),())) ?_
    simp
  exact key _ _ _ (sE row k) (zO row oT) (by rw[Ow])
theorem xt{row:List ae}{d:ae}{k:Nat}(hn:row.Nodup)(hk:row[k]? = some d):row.filter (fun e=>decide (e≠d))=row.take k++row.drop (k+1):=by
 obtain⟨h1,h2⟩:=List.getElem?_eq_some_iff.1 hk
 conv=>lhs;rw[←List.take_append_drop k row,List.drop_eq_getElem_cons h1,h2]
 have Jl:(row.take k++(d::row.drop (k+1))).Nodup:=by
  rw[←h2,←List.drop_eq_getElem_cons h1,List.take_append_drop];exact hn
 have h3:=List.nodup_append.1 Jl
 have h4:=List.nodup_cons.1 h3.2.1
 rw[List.filter_append,List.filter_cons_of_neg (by simp)]
 congr 1
 ·rw[List.filter_eq_self];intro a ha
  have:=h3.2.2 a ha d (by simp)
  simpa using this
 ·rw[List.filter_eq_self];intro a ha
  have:a≠d:=fun e=>h4.1 (e▸ha)
  simpa using this
theorem RF(hG:HG G)(row:List ae)(d:ae)(hn:row.Nodup)(hl:row.length≤50000000):FX G 141 Bg ((row,d,()),())=some ((cC row d,()),()):=by
 refine ax (fn:=Tryz.f141) (hG _ _ rfl) (by kernel_rfl) (by kernel_rfl) ((aag _ _ _).trans ?_)
 refine aa (BZ (hG _ _ rfl) row d (by omega)) ?_
 unfold cC
 by_cases hd:d∈row
 ·obtain⟨k,h1,h2,h3⟩:=fF hd
  have aF:=(List.getElem?_eq_some_iff.1 h2).1
  rw[xt hn h2]
  show cond (decide (idx d row 0<0)) _ (cond (bq row.length 0 (idx d row 0)) (cond (bq row.length (IntKind.wrap .i64 (idx d row 0+1)) ((row.length:Nat):Int)) ((FX G 170 ox (([cut row 0 (idx d row 0),cut row (IntKind.wrap .i64 (idx d row 0+1)) ((row.length:Nat):Int)],()),())).bind fun(y3:(((List ae)×Unit)×Unit))=>some (y3.1,())) none) none)=_
  rw[h1,aG aF (by omega)]
  refine ag (decide_eq_false (by omega)) (af (vM (by omega)) (af (FM (by omega)) ?_))
  have key:∀a b:List ae,a=row.take k→b=row.drop (k+1)→((FX G 170 ox (([a,b],()),())).bind fun(y3:(((List ae)×Unit)×Unit))=>some (y3.1,()))=some ((cw (row.take k++row.drop (k+1)),()),()):=by
   intro a b ha hb
   subst ha hb
   refine aa (RD hG [row.take k,row.drop (k+1)] (by simp) (by unfold total;simp;omega)) ?_
   refine congrArg (fun l:List ae=>some ((l,()),())) ?_
   simp
  exact key _ _ (sE row k) (zO row (by omega))
 ·have h1:=eR.2 hd
  refine af (decide_eq_true h1) (aa (D8 hG row (by omega)) ?_)
  refine congrArg (fun l:List ae=>some ((l,()),())) ?_
  congr 1
  symm
  rw[List.filter_eq_self];intro a ha
  have:a≠d:=fun e=>hd (e▸ha)
  simpa using this
theorem Wn(hG:HG G)(row:List ae)(cS d:ae)(hl:row.length≤50000000):FX G 187 th ((row,cS,d,()),())=some ((jJ row cS d,()),()):=by
 refine ax (fn:=Tryz.f187) (hG _ _ rfl) (by kernel_rfl) (by kernel_rfl) ((aah _ _ _).trans ?_)
 refine aa (BZ (hG _ _ rfl) row cS (by omega)) ?_
 unfold jJ
 by_cases ho:cS∈row
 ·obtain⟨k,h1,h2,h3⟩:=fF ho
  have aF:=(List.getElem?_eq_some_iff.1 h2).1
  refine ag (decide_eq_false (show ¬idx cS row 0<0 by omega)) ?_
  refine aa (D7 hG row d (by omega)) ?_
  by_cases hd:d∈row
  ·rw[if_neg (fun h=>h.2 hd)]
   exact af (decide_eq_true hd) (aa (D8 hG row (by omega)) rfl)
  rw[if_pos ⟨ho,hd⟩]
  refine ag (decide_eq_false hd) ?_
  show cond (bq row.length 0 (idx cS row 0)) (cond (bq row.length (IntKind.wrap .i64 (idx cS row 0+1)) ((row.length:Nat):Int)) ((FX G 170 ox (([cut row 0 (idx cS row 0),[d],cut row (IntKind.wrap .i64 (idx cS row 0+1)) ((row.length:Nat):Int)],()),())).bind fun(y3:(((List ae)×Unit)×Unit))=>some (y3.1,())) none) none=_
  rw[h1,aG aF (by omega)]
  refine af (vM (by omega)) (af (FM (by omega)) ?_)
  have key:∀a b R:List ae,a=row.take k→b=row.drop (k+1)→R=cw (row.set ((k:Int)).toNat d)→((FX G 170 ox (([a,[d],b],()),())).bind fun(y3:(((List ae)×Unit)×Unit))=>some (y3.1,()))=some ((R,()),()):=by
   intro a b R ha hb hR
   subst ha hb hR
   refine aa (RD hG [row.take k,[d],row.drop (k+1)] (by simp) (by unfold total;simp;omega)) ?_
   refine congrArg (fun l:List ae=>some ((l,()),())) ?_
   rw[Int.toNat_natCast,List.set_eq_take_append_cons_drop,if_pos aF];simp
  exact key _ _ _ (sE row k) (zO row (by omega)) rfl
 ·have h1:=eR.2 ho
  rw[if_neg (fun h=>ho h.1)]
  exact af (decide_eq_true h1) (aa (D8 hG row (by omega)) rfl)
theorem Wo(hG:HG G)(row:List ae)(d:ae)(hl:row.length≤100000000):FX G 140 Bi ((row,d,()),())=some (yE (cz row d (row.length-1)),()):=by
 refine ax (fn:=Tryz.f140) (hG _ _ rfl) (by kernel_rfl) (by kernel_rfl) ((aav _ _ _).trans ?_)
 have key:FX G 167 Bk ((row,(d,((IntKind.wrap .i64 (((row.length:Nat):Int)-1)),()))),())=some (yE (cz row d (row.length-1)),()):=by
  refine ax (fn:=Tryz.f167) (hG _ _ rfl) (by kernel_rfl) (by kernel_rfl) ((VY _ _ _).trans ?_)
  refine aa (BZ (hG _ _ rfl) row d (by omega)) ?_
  unfold cz
  by_cases hd:d∈row
  ·rw[if_pos hd]
   obtain⟨k,h1,h2,h3⟩:=fF hd
   have aF:=(List.getElem?_eq_some_iff.1 h2).1
   refine ag (decide_eq_false (show ¬idx d row 0<0 by omega)) ?_
   refine ag (Fz hd) ?_
   have hw:IntKind.wrap .i64 (((row.length:Nat):Int)-1)=((row.length-1:Nat):Int):=by rw[wrap_small (by omega) (by omega)];omega
   have Ue:IntKind.wrap .i64 (idx d row 0+IntKind.wrap .i64 (((row.length:Nat):Int)-1))=((k+(row.length-1):Nat):Int):=by
    rw[hw,h1,wrap_small (by omega) (by omega)];rfl
   have xh:(k+(row.length-1))%row.length<row.length:=Nat.mod_lt _ (by omega)
   have hx:=List.getElem?_eq_getElem xh
   refine aa (show ba row (Int.tmod (IntKind.wrap .i64 (idx d row 0+IntKind.wrap .i64 (((row.length:Nat):Int)-1))) ((row.length:Nat):Int))=some row[(k+(row.length-1))%row.length] by rw[Ue,rq];exact aB hx) ?_
   rw[h1,Int.toNat_natCast,hx];rfl
  ·rw[if_neg hd]
   exact af (decide_eq_true (eR.2 hd)) rfl
 refine aa key ?_
 rfl
end Go.Vs
