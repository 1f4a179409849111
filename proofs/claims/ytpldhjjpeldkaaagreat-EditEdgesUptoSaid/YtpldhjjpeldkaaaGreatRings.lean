/- What the program computes at edges and rings, written plainly. -/
import Derived.Test.YtpldhjjpeldkaaaGreatPlaces
set_option linter.unusedVariables false
set_option linter.unusedSimpArgs false
namespace Go.Vs
open Go.Proofs
variable {G:(f:FuncId)→(g:aL)→Option (g.A→Option g.B)}
theorem get_at{s:ByteArray}{i:Nat}{c:UInt8}(h:s.data.toList[i]? = some c):s.get! i=c:=by
 have hi:i<s.data.size:=by have:=(List.getElem?_eq_some_iff.1 h).1;simpa using this
 have h2:=(List.getElem?_eq_some_iff.1 h).2
 show s.data[i]! = c
 rw[getElem!_pos s.data i hi,←h2];simp
theorem NJ{s:ByteArray}{i:Nat}(h:(s.get! i).toNat<128):Utf8.decode s i=((s.get! i).toNat,1):=by
 unfold Utf8.decode
 simp only[Nat.add_zero]
 rw[if_pos h]
theorem NK{s:ByteArray}{i:Nat}(h:¬(s.get! i).toNat<128):128≤(Utf8.decode s i).1:=by
 unfold Utf8.decode
 simp only[Nat.add_zero]
 rw[if_neg h]
 repeat' split
 all_goals first|(simp_all only[Bool.and_eq_true,decide_eq_true_eq];omega)|decide|omega
theorem agP(hG:G 88 xi=none)(s:ByteArray)(hs:s.size≤100000000):∀(n i:Nat),i+n=s.size →
  LX G 88 xi Tryz.f88 xt (aY Tryz.prog 88 0) ((s,()),((),((s,i),())))=some ((((s.data.toList.drop i).all kW&&decide (s.size≤16),()),()):(Bool×Unit)×Unit):=by
 have hl:s.data.toList.length=s.size:=by simp
 intro n
 induction n with
 |zero =>
  intro i hi
  refine aB (j:=0) (by kernel_rfl) ((QJ _ _ _).trans ?_)
  refine aj (decide_eq_false (show ¬(i<s.size) by omega)) ?_
  refine congrArg (fun b:Bool=>some ((b,()),())) ?_
  rw[List.drop_eq_nil_of_le (by omega),List.all_nil,Bool.true_and,Bool.eq_iff_iff];simp;omega
 |succ n ih =>
  intro i hi
  have aM:i<s.data.toList.length:=by omega
  have hx:s.data.toList[i]? = some s.data.toList[i]:=List.getElem?_eq_getElem aM
  generalize s.data.toList[i]=c at hx
  have hd:s.data.toList.drop i=c::s.data.toList.drop (i+1):=by
   rw[List.drop_eq_getElem_cons aM];rw[List.getElem?_eq_getElem aM]at hx;cases hx;rfl
  have hg:=get_at hx
  refine aB (j:=0) (by kernel_rfl) ((QJ _ _ _).trans ?_)
  refine ae (decide_eq_true (show i<s.size by omega)) ?_
  show cond (decide (oZ s i<32)) _ (cond (decide (oZ s i>126)) _ (LX G 88 xi Tryz.f88 xt (aY Tryz.prog 88 0) ((s,()),((),((s,i+Aw s i),())))))=_
  rw[hd,List.all_cons]
  by_cases h1:c.toNat<128
  ·have hr:Utf8.decode s i=(c.toNat,1):=by rw[NJ (by rw[hg];exact h1),hg]
   have YH:oZ s i=(c.toNat:Int):=by unfold oZ;rw[hr]
   have C6:Aw s i=1:=by unfold Aw;rw[hr]
   rw[YH,C6]
   by_cases h2:c.toNat<32
   ·refine ae (decide_eq_true (by omega)) ?_
    have:kW c=false:=by unfold kW;simp;omega
    rw[this];rfl
   refine aj (decide_eq_false (by omega)) ?_
   by_cases h3:126<c.toNat
   ·refine ae (decide_eq_true (by omega)) ?_
    have:kW c=false:=by unfold kW;simp;omega
    rw[this];rfl
   refine aj (decide_eq_false (by omega)) ?_
   have:kW c=true:=by unfold kW;simp;omega
   rw[this,Bool.true_and]
   exact ih (i+1) (by omega)
  ·have h2:=NK (s:=s) (i:=i) (by rw[hg];exact h1)
   have YH:128≤oZ s i:=by unfold oZ;omega
   refine aj (decide_eq_false (by omega)) (ae (decide_eq_true (by omega)) ?_)
   have:kW c=false:=by unfold kW;simp;omega
   rw[this];rfl
theorem agQ(hG:G 88 xi=none)(s:ByteArray)(hs:s.size≤100000000):FX G 88 xi ((s,()),())=some ((DF s,()),()):=by
 refine aA (fn:=Tryz.f88) hG (by kernel_rfl) (by kernel_rfl) ((afP _ _ _).trans ?_)
 have:=agP hG s hs s.size 0 (by omega)
 rw[List.drop_zero]at this
 exact this
theorem agR(hG:G 89 HP=none)(n:Int):FX G 89 HP ((n,()),())=some ((wb n,()),()):=by
 refine aA (fn:=Tryz.f89) hG (by kernel_rfl) (by kernel_rfl) ((afQ _ _ _).trans ?_)
 show(cond (decide (n≥-1099511627776)) (some ((decide (n≤1099511627776),()),())) (some ((false,()),())):Option ((Bool×Unit)×Unit))=some ((wb n,()),())
 unfold wb
 by_cases h1 : -1099511627776≤n<;>simp[h1]
def NL(n:Int):Prop := -9223372036854775808≤n∧n<9223372036854775808
theorem Rn(x:BitVec 64):IntKind.wrap .i64 ((x.toNat:Nat):Int)=x.toInt:=by
 unfold IntKind.wrap
 simp only[IntKind.bits,IntKind.signed]
 have h:=x.isLt
 have h2:=BitVec.toInt_eq_toNat_cond x
 rw[h2]
 simp
 split<;>split<;>omega
theorem ofInt_toInt{n:Int}(h:NL n):(BitVec.ofInt 64 n).toInt=n:=by
 unfold NL at h
 rw[BitVec.toInt_ofInt]
 exact Int.bmod_eq_of_le (by omega) (by omega)
theorem Uj{n:Int}(h:NL n):(fz .andNot .i64 n 3==(0:Int))=decide (0≤n∧n≤3):=by
 have e:fz .andNot .i64 n 3=(BitVec.ofInt 64 n &&& ~~~(BitVec.ofInt 64 3)).toInt:=by unfold fz;exact Rn _
 rw[e,Bool.eq_iff_iff]
 simp only[beq_iff_eq,decide_eq_true_eq]
 generalize hx:BitVec.ofInt 64 n=x
 have hn:=ofInt_toInt h
 rw[hx]at hn
 have h1:(x &&& ~~~(BitVec.ofInt 64 3)).toInt=0↔(x &&& ~~~(BitVec.ofInt 64 3))=0#64:=by
  constructor
  ·intro h;exact BitVec.eq_of_toInt_eq (by rw[h];rfl)
  ·intro h;rw[h];rfl
 rw[h1,←hn]
 constructor
 ·intro h
  have h2:x=x &&& 3#64:=by
   have h3:x=(x &&& ~~~(BitVec.ofInt 64 3)) ||| (x &&& 3#64):=by
    ext i hi
    simp only[BitVec.getElem_or,BitVec.getElem_and,BitVec.getElem_not]
    have:(BitVec.ofInt 64 3)=3#64:=rfl
    rw[this]
    cases x[i]<;>cases (3#64)[i]<;>rfl
   rw[h]at h3
   simpa using h3
  have h4:x.toNat≤3:=by
   rw[h2,BitVec.toNat_and]
   exact Nat.and_le_right
  rw[BitVec.toInt_eq_toNat_cond]
  split<;>omega
 ·intro h
  have h4:x.toNat≤3:=by
   rw[BitVec.toInt_eq_toNat_cond]at h
   have:=x.isLt
   split at h<;>omega
  have h5:x=0#64∨x=1#64∨x=2#64∨x=3#64:=by
   have:x.toNat=0∨x.toNat=1∨x.toNat=2∨x.toNat=3:=by omega
   rcases this with h|h|h|h
   ·exact .inl (BitVec.eq_of_toNat_eq (by rw[h];rfl))
   ·exact .inr (.inl (BitVec.eq_of_toNat_eq (by rw[h];rfl)))
   ·exact .inr (.inr (.inl (BitVec.eq_of_toNat_eq (by rw[h];rfl))))
   ·exact .inr (.inr (.inr (BitVec.eq_of_toNat_eq (by rw[h];rfl))))
  rcases h5 with rfl|rfl|rfl|rfl<;>decide
theorem Uk{n:Int}(h:NL n):(fz .andNot .i64 n 1==(0:Int))=decide (n=0∨n=1):=by
 have e:fz .andNot .i64 n 1=(BitVec.ofInt 64 n &&& ~~~(BitVec.ofInt 64 1)).toInt:=by unfold fz;exact Rn _
 rw[e,Bool.eq_iff_iff]
 simp only[beq_iff_eq,decide_eq_true_eq]
 generalize hx:BitVec.ofInt 64 n=x
 have hn:=ofInt_toInt h
 rw[hx]at hn
 have h1:(x &&& ~~~(BitVec.ofInt 64 1)).toInt=0↔(x &&& ~~~(BitVec.ofInt 64 1))=0#64:=by
  constructor
  ·intro h;exact BitVec.eq_of_toInt_eq (by rw[h];rfl)
  ·intro h;rw[h];rfl
 rw[h1,←hn]
 constructor
 ·intro h
  have h2:x=x &&& 1#64:=by
   have h3:x=(x &&& ~~~(BitVec.ofInt 64 1)) ||| (x &&& 1#64):=by
    ext i hi
    simp only[BitVec.getElem_or,BitVec.getElem_and,BitVec.getElem_not]
    have:(BitVec.ofInt 64 1)=1#64:=rfl
    rw[this]
    cases x[i]<;>cases (1#64)[i]<;>rfl
   rw[h]at h3
   simpa using h3
  have h4:x.toNat≤1:=by
   rw[h2,BitVec.toNat_and]
   exact Nat.and_le_right
  rw[BitVec.toInt_eq_toNat_cond]
  split<;>omega
 ·intro h
  have h4:x.toNat≤1:=by
   rw[BitVec.toInt_eq_toNat_cond]at h
   have:=x.isLt
   split at h<;>omega
  have h5:x=0#64∨x=1#64:=by
   have:x.toNat=0∨x.toNat=1:=by omega
   rcases this with h|h
   ·exact .inl (BitVec.eq_of_toNat_eq (by rw[h];rfl))
   ·exact .inr (BitVec.eq_of_toNat_eq (by rw[h];rfl))
  rcases h5 with rfl|rfl<;>decide
theorem abu(hG:HG G)(d:ab)(h:NL d.2):FX G 106 HU ((d,()),())=some ((It d,()),()):=by
 refine aA (fn:=Tryz.f106) (hG _ _ rfl) (by kernel_rfl) (by kernel_rfl) ((ZS _ _ _).trans ?_)
 refine aa (IF (hG _ _ rfl) d.1) ?_
 unfold It
 cases cZ d.1
 ·rfl
 ·exact ae rfl (congrArg (fun b:Bool=>some ((b,()),())) (Uk h))
theorem abv(hG:HG G)(c:pS)(h:NL c.2.2):FX G 87 Dx ((c,()),())=some ((th c,()),()):=by
 refine aA (fn:=Tryz.f87) (hG _ _ rfl) (by kernel_rfl) (by kernel_rfl) ((afO _ _ _).trans ?_)
 refine aa (IF (hG _ _ rfl) c.1) ?_
 unfold th
 cases cZ c.1
 ·rfl
 refine ae rfl ?_
 have hb:(((c.2.1.1==(0:Int))&&(c.2.1.2==(0:Int)))&&(c.2.2==(0:Int)))=decide (c.2=zD):=ki c.2 zD
 by_cases hz:c.2=zD
 ·refine ae (hb.trans (decide_eq_true hz)) ?_
  rw[decide_eq_true hz,Bool.or_true];rfl
 ·refine aj (hb.trans (decide_eq_false hz)) ?_
  refine aa (abu hG c.2 h) ?_
  rw[decide_eq_false hz,Bool.or_false];rfl
structure Fit(o:bL):Prop where
 a:NL (oA o).2.2
 b:NL (oB o).2.2
 n:NL (oN o)
 t:uD o
def Cn(o:bL):bL :=
 if o.1=6 then(o.1,(ba o,(zI,(bh o,(zC,(zC,(false,(e0,0))))))))
 else if o.1=3 then(o.1,(ba o,(zI,(zI,(oA o,(oB o,(false,(e0,0))))))))
 else if o.1=5 then(o.1,(ba o,(fk o,(bh o,(zC,(zC,(false,(e0,oN o))))))))
 else if o.1=7 then(o.1,(ba o,(zI,(zI,(zC,(zC,(nR o,(oJ o,0))))))))
 else if o.1=8 then(o.1,(ba o,(zI,(zI,(zC,(zC,(nR o,(e0,oN o))))))))
 else(o.1,(ba o,(zI,(zI,(zC,(zC,(false,(e0,0))))))))
def F3(o:bL):Int :=
 if o.1=6 then(if cZ (ba o)=true∧cZ (bh o)=true then 0 else 1)
 else if o.1=3 then(if cZ (ba o)=true∧th (oA o)=true∧th (oB o)=true then 0 else 1)
 else if o.1=5 then(if cZ (ba o)=true∧cZ (fk o)=true∧cZ (bh o)=true∧0≤oN o∧oN o≤3 then 0 else 1)
 else if o.1=7 then(if cZ (ba o)=true then(if DF (oJ o)=true then 0 else 4) else 1)
 else if o.1=8 then(if cZ (ba o)=true∧wb (oN o)=true then 0 else 1)
 else if o.1=1∨o.1=2∨o.1=4 then(if cZ (ba o)=true then 0 else 1)
 else 1
theorem GA{o:bL}{k:Int}(h:o.1=k):(o.1==k)=true:=by simp[h]
theorem ze{o:bL}{k:Int}(h:¬o.1=k):(o.1==k)=false:=by simp[h]
theorem agS(hG:HG G)(o:bL)(hf:Fit o):FX G 65 HL ((o,()),())=some ((Cn o,(F3 o,())),()):=by
 refine aA (fn:=Tryz.f65) (hG _ _ rfl) (by kernel_rfl) (by kernel_rfl) ((Xf _ _ _).trans ?_)
 refine aa (IF (hG _ _ rfl) (ba o)) ?_
 unfold Cn F3
 by_cases h1:o.1=1
 ·refine ae (GA h1) (ae (GA h1) ?_)
  rw[if_neg (by omega),if_neg (by omega),if_neg (by omega),if_neg (by omega),if_neg (by omega),if_neg (by omega),if_neg (by omega),if_neg (by omega),if_neg (by omega),if_neg (by omega),if_pos (by omega)]
  cases cZ (ba o)<;>rfl
 refine aj (ze h1) ?_
 by_cases h2:o.1=2
 ·refine ae (GA h2) (ae (GA h2) ?_)
  rw[if_neg (by omega),if_neg (by omega),if_neg (by omega),if_neg (by omega),if_neg (by omega),if_neg (by omega),if_neg (by omega),if_neg (by omega),if_neg (by omega),if_neg (by omega),if_pos (by omega)]
  cases cZ (ba o)<;>rfl
 refine aj (ze h2) ?_
 by_cases h4:o.1=4
 ·refine ae (GA h4) ?_
  rw[if_neg (by omega),if_neg (by omega),if_neg (by omega),if_neg (by omega),if_neg (by omega),if_neg (by omega),if_neg (by omega),if_neg (by omega),if_neg (by omega),if_neg (by omega),if_pos (by omega)]
  cases cZ (ba o)<;>rfl
 refine aj (ze h4) ?_
 by_cases h6:o.1=6
 ·refine ae (GA h6) ?_
  rw[if_pos h6,if_pos h6]
  cases cZ (ba o)
  ·rfl
  refine ae rfl (aa (IF (hG _ _ rfl) (bh o)) ?_)
  cases cZ (bh o)<;>rfl
 refine aj (ze h6) ?_
 rw[if_neg h6,if_neg h6]
 by_cases h3:o.1=3
 ·refine ae (GA h3) ?_
  rw[if_pos h3,if_pos h3]
  cases cZ (ba o)
  ·rfl
  refine ae rfl (aa (abv hG (oA o) hf.a) ?_)
  cases th (oA o)
  ·rfl
  refine ae rfl (aa (abv hG (oB o) hf.b) ?_)
  cases th (oB o)<;>rfl
 refine aj (ze h3) ?_
 rw[if_neg h3,if_neg h3]
 by_cases h5:o.1=5
 ·refine ae (GA h5) ?_
  rw[if_pos h5,if_pos h5]
  cases cZ (ba o)
  ·rfl
  refine ae rfl (aa (IF (hG _ _ rfl) (fk o)) ?_)
  cases cZ (fk o)
  ·rfl
  refine ae rfl (aa (IF (hG _ _ rfl) (bh o)) ?_)
  cases cZ (bh o)
  ·rfl
  refine ae rfl (aS (Uj hf.n) ?_)
  by_cases h:0≤oN o∧oN o≤3
  ·rw[decide_eq_true h,if_pos ⟨rfl,rfl,rfl,h⟩];rfl
  ·rw[decide_eq_false h,if_neg (fun k=>h k.2.2.2)];rfl
 refine aj (ze h5) ?_
 rw[if_neg h5,if_neg h5]
 by_cases h7:o.1=7
 ·refine ae (GA h7) ?_
  rw[if_pos h7,if_pos h7]
  refine aa (agQ (hG _ _ rfl) (oJ o) hf.t) ?_
  cases DF (oJ o)<;>cases cZ (ba o)<;>rfl
 refine aj (ze h7) ?_
 rw[if_neg h7,if_neg h7]
 by_cases h8:o.1=8
 ·refine ae (GA h8) ?_
  rw[if_pos h8,if_pos h8]
  cases cZ (ba o)
  ·rfl
  refine ae rfl (aa (agR (hG _ _ rfl) (oN o)) ?_)
  cases wb (oN o)<;>rfl
 refine aj (ze h8) ?_
 rw[if_neg h8,if_neg h8,if_neg (by omega)];rfl
theorem NM(o:bL)(h1:1≤o.1)(h8:o.1≤8):wc (Cn o) o=wc (rG o) Ug:=by
 rw[Bool.eq_iff_iff,rH,rH]
 obtain⟨k,i,n,m,⟨a1,a2⟩,⟨b1,b2⟩,f,t,q⟩:=o
 simp only at h1 h8
 unfold Cn rG Ug
 have:k=1∨k=2∨k=3∨k=4∨k=5∨k=6∨k=7∨k=8:=by omega
 rcases this with rfl|rfl|rfl|rfl|rfl|rfl|rfl|rfl<;>simp only[Int.reduceEq,if_true,if_false]<;>constructor<;>intro h<;>simp only[zC,Prod.mk.injEq,true_and,and_true]at h ⊢<;>grind
theorem abw(hG:HG G)(o:bL)(hf:Fit o):FX G 43 Dv ((o,()),())=some ((c5 o,()),()):=by
 refine aA (fn:=Tryz.f43) (hG _ _ rfl) (by kernel_rfl) (by kernel_rfl) ((ZK _ _ _).trans ?_)
 refine aa (agS hG o hf) ?_
 refine aS (b:=wc (Cn o) o) rfl ?_
 unfold c5
 by_cases h1:o.1<1
 ·rw[if_pos h1]
  have:F3 o=1:=by unfold F3;rw[if_neg (by omega),if_neg (by omega),if_neg (by omega),if_neg (by omega),if_neg (by omega),if_neg (by omega)]
  rw[this];cases wc (Cn o) o<;>rfl
 rw[if_neg h1]
 by_cases h8:8<o.1
 ·rw[if_pos h8]
  have:F3 o=1:=by unfold F3;rw[if_neg (by omega),if_neg (by omega),if_neg (by omega),if_neg (by omega),if_neg (by omega),if_neg (by omega)]
  rw[this];cases wc (Cn o) o<;>rfl
 rw[if_neg h8,NM o (by omega) (by omega)]
 have hk:o.1=1∨o.1=2∨o.1=3∨o.1=4∨o.1=5∨o.1=6∨o.1=7∨o.1=8:=by omega
 by_cases hm:cZ (ba o)=true
 case neg =>
  have hb:F3 o=1:=by
   unfold F3
   rcases hk with h|h|h|h|h|h|h|h<;>simp[h,hm]
  rw[if_pos (by simpa using hm),hb];cases wc (rG o) Ug<;>rfl
 rw[if_neg (by simp[hm])]
 cases wc (rG o) Ug
 ·rw[if_pos rfl];rfl
 rw[if_neg (by simp)]
 refine aj rfl ?_
 refine congrArg (fun n:Int=>some ((n,()),())) ?_
 unfold F3
 rcases hk with h|h|h|h|h|h|h|h<;>simp[h,hm]
end Go.Vs
namespace Go.Vs
open Go.Proofs
variable {G:(f:FuncId)→(g:aL)→Option (g.A→Option g.B)}
theorem VV(hG:HG G)(v:ah)(x:ID):FX G 138 Eh ((v,x,()),())=some ((rB v.1 x,()),()):=by
 refine aA (fn:=Tryz.f138) (hG _ _ rfl) (by kernel_rfl) (by kernel_rfl) ((aap _ _ _).trans ?_)
 exact aa (Rj hG v.1 x) rfl
def cj(l:List ah)(x:ID):Nat:=l.countP fun v=>gq v.1 x
def dv(l:List ah):Prop:=l.Pairwise fun a b=>gq a.1 b.1=true
theorem F4(l:List ah)(x:ID):cj l x≤l.length:=List.countP_le_length
theorem sP{l:List ah}{x:ID}(h:∀v∈l,gq v.1 x=false):cj l x=0:=by
 unfold cj;rw[List.countP_eq_zero];intro v hv;simp[h v hv]
theorem xJ{x:ID}:∀{l:List ah},dv l→∀(k:Nat) (v:ah),l[k]? = some v→(gq v.1 x=true↔k<cj l x)
 |[],_,k,v,h=>by simp at h
 |w::r,hs,k,v,h=>by
  have hw:∀{u:ah},u∈r→gq w.1 u.1=true:=fun {u} hu=>List.rel_of_pairwise_cons hs hu
  have hr:dv r:=hs.of_cons
  by_cases aM:gq w.1 x=true
  ·have e:cj (w::r) x=cj r x+1:=by unfold cj;rw[List.countP_cons_of_pos (by simpa using aM)]
   cases k with
   |zero=>simp at h;subst h;simp[aM,e]
   |succ k=>have:=xJ (x:=x) hr k v (by simpa using h);rw[this,e];omega
  ·have hn:∀u∈w::r,gq u.1 x=false:=fun u hu=>by
    rcases List.mem_cons.1 hu with rfl|hu
    ·simpa using aM
    ·rw[Bool.eq_false_iff];intro h2;exact aM (jr (hw hu) h2)
   rw[sP hn,hn v (List.mem_of_getElem? h)]
   simp
theorem Ro(hG:HG G)(l:List ah)(x:ID)(hs:dv l)(hl:l.length≤50000000):∀(n i j:Nat),j-i≤n→i≤cj l x→cj l x≤j→j≤l.length →
  LX G 139137 jI Tryz.f137 iY (aY Tryz.prog 137 0) ((l,(((l.length:Nat):Int),((i:Int),((j:Int),())))),(((x,()),()),()))=some (((((cj l x:Nat):Int),(decide ((l[cj l x]?).map (·.1)=some x),())):Int×(Bool×Unit)),()):=by
 have uM:=F4 l x
 have fin:∀(i j:Nat),¬(i<j)→i≤cj l x→cj l x≤j→LX G 139137 jI Tryz.f137 iY (aY Tryz.prog 137 0) ((l,(((l.length:Nat):Int),((i:Int),((j:Int),())))),(((x,()),()),()))=some (((((cj l x:Nat):Int),(decide ((l[cj l x]?).map (·.1)=some x),())):Int×(Bool×Unit)),()):=fun i j AW h1 h2=>by
  have hi:i=cj l x:=by omega
  subst hi
  refine aB (j:=0) (by kernel_rfl) ((B7 _ _ _).trans ?_)
  refine aj (decide_eq_false (show ¬(((cj l x:Nat):Int)<(j:Int)) by omega)) ?_
  by_cases hc:cj l x<l.length
  ·have hx:l[cj l x]? = some l[cj l x]:=List.getElem?_eq_getElem hc
   refine ae (bm hc) ?_
   refine aa (aR hx) ?_
   refine aa (VV hG l[cj l x] x) ?_
   refine congrArg (fun b:Bool=>some ((((cj l x:Nat):Int),(b,())),())) ?_
   rw[hx]
   unfold rB
   by_cases he:l[cj l x].1=x
   ·simp[he]
   ·simp[he];split<;>simp
  ·refine aj (decide_eq_false (show ¬(((cj l x:Nat):Int)<((l.length:Nat):Int)) by omega)) ?_
   refine congrArg (fun b:Bool=>some ((((cj l x:Nat):Int),(b,())),())) ?_
   rw[List.getElem?_eq_none (by omega)];simp
 intro n
 induction n with
 |zero=>intro i j AW h1 h2 h3;exact fin i j (by omega) h1 h2
 |succ n ih =>
  intro i j AW h1 h2 h3
  by_cases aM:i<j
  case neg=>exact fin i j aM h1 h2
  refine aB (j:=0) (by kernel_rfl) ((B7 _ _ _).trans ?_)
  refine ae (decide_eq_true (show((i:Int)<(j:Int)) by omega)) ?_
  refine aj rfl ?_
  have hm:=Ku (i:=i) (j:=j) (by omega) (by omega)
  have hh:(i+j) / 2<l.length:=by omega
  have hx:l[(i+j) / 2]? = some l[(i+j) / 2]:=List.getElem?_eq_getElem hh
  have ox:=xJ (x:=x) hs ((i+j) / 2) _ hx
  refine aa (show br l (IntKind.wrap .i64 (lB .u64 (IntKind.wrap .u64 (IntKind.wrap .i64 ((i:Int)+(j:Int)))) (1:Int)))=some l[(i+j) / 2] by rw[hm];exact aR hx) ?_
  refine aa (VV hG l[(i+j) / 2] x) ?_
  by_cases ho:gq l[(i+j) / 2].1 x=true
  ·refine ae (decide_eq_true ((nr _ _).2 ho)) ?_
   have hc:=ox.1 ho
   have hw:IntKind.wrap .i64 (IntKind.wrap .i64 (lB .u64 (IntKind.wrap .u64 (IntKind.wrap .i64 ((i:Int)+(j:Int)))) (1:Int))+1)=(((i+j) / 2+1:Nat):Int):=by
    rw[hm];exact aN hh (by omega)
   have:=ih ((i+j) / 2+1) j (by omega) (by omega) h2 h3
   rw[←hw]at this
   exact this
  ·refine aj (decide_eq_false (fun h=>ho ((nr _ _).1 h))) ?_
   have hc:¬(i+j) / 2<cj l x:=fun h=>ho (ox.2 h)
   have:=ih i ((i+j) / 2) (by omega) h1 (by omega) (by omega)
   rw[←hm]at this
   exact this
theorem Rp(hG:HG G)(l:List ah)(x:ID)(hs:dv l)(hl:l.length≤50000000) :
  FX G 139137 jI ((l,x,()),())=some (((((cj l x:Nat):Int),(decide ((l[cj l x]?).map (·.1)=some x),())):Int×(Bool×Unit)),()):=by
 refine aA (fn:=Tryz.f137) (hG _ _ rfl) (by kernel_rfl) (by kernel_rfl) ((QN _ _ _).trans ?_)
 exact Ro hG l x hs hl l.length 0 l.length (by omega) (by omega) (F4 l x) (Nat.le_refl _)
theorem oO(hG:HG G)(w:aF)(x:ID)(hs:dv w.2.1)(hl:w.2.1.length≤50000000) :
  FX G 115 nj ((x,()),(w,()))=some (((((cj w.2.1 x:Nat):Int),(decide ((w.2.1[cj w.2.1 x]?).map (·.1)=some x),())):Int×(Bool×Unit)),(w,())):=by
 refine aA (fn:=Tryz.f115) (hG _ _ rfl) (by kernel_rfl) (by kernel_rfl) ((ZY _ _ _).trans ?_)
 exact aa (Rp hG w.2.1 x hs hl) rfl
theorem xK{x:ID}:∀{l:List ah},dv l→aU l x=(l[cj l x]?).filter fun v=>decide (v.1=x)
 |[],_=>rfl
 |w::r,hs=>by
  have hw:∀{u:ah},u∈r→gq w.1 u.1=true:=fun {u} hu=>List.rel_of_pairwise_cons hs hu
  have hr:dv r:=hs.of_cons
  by_cases aM:gq w.1 x=true
  ·have e:cj (w::r) x=cj r x+1:=by unfold cj;rw[List.countP_cons_of_pos (by simpa using aM)]
   have bp:¬w.1=x:=fun e=>by rw[e,cq]at aM;cases aM
   rw[e]
   simp only[aU,List.find?_cons,bp,decide_false,List.getElem?_cons_succ]
   exact xK hr
  ·have hn:∀u∈w::r,gq u.1 x=false:=fun u hu=>by
    rcases List.mem_cons.1 hu with rfl|hu
    ·simpa using aM
    ·rw[Bool.eq_false_iff];intro h2;exact aM (jr (hw hu) h2)
   rw[sP hn]
   by_cases he:w.1=x
   ·simp[aU,List.find?_cons,he,Option.filter]
   ·have z7:gq x w.1=true:=lS (by simpa using aM) he
    have:aU r x=none:=by
     unfold aU;rw[List.find?_eq_none];intro u hu h2
     have h3:u.1=x:=by simpa using h2
     have h4:=hw hu
     rw[h3]at h4
     have:=lR h4
     rw[z7]at this;cases this
    rw[show aU (w::r) x=aU r x by simp only[aU,List.find?_cons,he,decide_false],this]
    simp[he,Option.filter]
theorem dr{l:List ah}{x:ID}(hs:dv l):decide ((l[cj l x]?).map (·.1)=some x)=(aU l x).isSome:=by
 rw[xK hs]
 cases h:l[cj l x]? with
 |none=>simp
 |some v=>by_cases he:v.1=x<;>simp[he,Option.filter]
theorem IH(v:ah):∀{l:List ah},dv l→aU l v.1=none→cF v l=l.take (cj l v.1)++(v::l.drop (cj l v.1))
 |[],_,_=>rfl
 |w::r,hs,hf=>by
  have hw:∀{u:ah},u∈r→gq w.1 u.1=true:=fun {u} hu=>List.rel_of_pairwise_cons hs hu
  have hr:dv r:=hs.of_cons
  have bp:¬w.1=v.1:=fun e=>by simp[aU,e]at hf
  have z6:aU r v.1=none:=by simpa[aU,List.find?_cons,bp] using hf
  by_cases aM:gq w.1 v.1=true
  ·have e:cj (w::r) v.1=cj r v.1+1:=by unfold cj;rw[List.countP_cons_of_pos (by simpa using aM)]
   have Vk:gq v.1 w.1=false:=lR aM
   rw[e,cF,if_neg (by simp[Vk]),IH v hr z6]
   rfl
  ·have hn:∀u∈w::r,gq u.1 v.1=false:=fun u hu=>by
    rcases List.mem_cons.1 hu with rfl|hu
    ·simpa using aM
    ·rw[Bool.eq_false_iff];intro h2;exact aM (jr (hw hu) h2)
   have z7:gq v.1 w.1=true:=lS (by simpa using aM) bp
   rw[sP hn,cF,if_pos z7];rfl
theorem xL{x:ID}:∀{l:List ah},dv l→(aU l x).isSome=true→cE l x=l.take (cj l x)++l.drop (cj l x+1)
 |[],_,hf=>by simp[aU]at hf
 |w::r,hs,hf=>by
  have hw:∀{u:ah},u∈r→gq w.1 u.1=true:=fun {u} hu=>List.rel_of_pairwise_cons hs hu
  have hr:dv r:=hs.of_cons
  by_cases he:w.1=x
  ·have hn:∀u∈w::r,gq u.1 x=false:=fun u hu=>by
    rcases List.mem_cons.1 hu with rfl|hu
    ·rw[he,cq]
    ·rw[←he];exact lR (hw hu)
   have fO:cE r x=r:=by
    unfold cE;rw[List.filter_eq_self];intro u hu
    have h4:=hw hu
    simp;intro e2;rw[he,e2,cq]at h4;cases h4
   rw[sP hn]
   unfold cE
   rw[List.filter_cons_of_neg (by simp[he])]
   exact fO
  ·have z6:(aU r x).isSome=true:=by simpa[aU,List.find?_cons,he] using hf
   have aM:gq w.1 x=true:=by
    obtain⟨u,hu⟩:=Option.isSome_iff_exists.1 z6
    have h1:=List.mem_of_find?_eq_some hu
    have h2:u.1=x:=by simpa using List.find?_some hu
    rw[←h2];exact hw h1
   have e:cj (w::r) x=cj r x+1:=by unfold cj;rw[List.countP_cons_of_pos (by simpa using aM)]
   rw[e]
   have:=xL hr z6
   simp[cE,List.filter_cons,he]at this ⊢
   exact this
theorem xM(v:ah):∀{l:List ah},dv l→aU l v.1=none→dv (cF v l)
 |[],_,_=>List.pairwise_singleton _ _
 |w::r,hs,hf=>by
  have hw:∀{u:ah},u∈r→gq w.1 u.1=true:=fun {u} hu=>List.rel_of_pairwise_cons hs hu
  have hr:dv r:=hs.of_cons
  have bp:¬w.1=v.1:=fun e=>by simp[aU,e]at hf
  have z6:aU r v.1=none:=by simpa[aU,List.find?_cons,bp] using hf
  unfold cF
  split
  ·rename_i h
   refine List.Pairwise.cons (fun u hu=>?_) hs
   rcases List.mem_cons.1 hu with rfl|hu
   ·exact h
   ·exact jr h (hw hu)
  ·rename_i h
   have aM:gq w.1 v.1=true:=lS (by simpa using h) (fun e=>bp e.symm)
   refine List.Pairwise.cons (fun u hu=>?_) (xM v hr z6)
   rcases rI.1 hu with rfl|hu
   ·exact aM
   ·exact hw hu
theorem uE{l:List ah}{x:ID}(hs:dv l):dv (cE l x):=hs.filter _
theorem dp{l:List ag}{x:ID}{v:ag}(hs:cf l)(h:aQ l x=some v):l[bJ l x]? = some v:=by
 have kX:=sO (x:=x) hs
 rw[h]at kX
 cases hg:l[bJ l x]? with
 |none=>rw[hg]at kX;simp[Option.filter]at kX
 |some u =>
  rw[hg]at kX
  simp only[Option.filter]at kX
  split at kX
  ·exact kX.symm
  ·cases kX
theorem iF{l:List ag}{x:ID}{v:ag}(h:aQ l x=some v):v.1=x:=by simpa using List.find?_some h
theorem fw{l:List ag}{x:ID}{v:ag}(h:aQ l x=some v):v∈l:=List.mem_of_find?_eq_some h
theorem kl{l:List ag}{x:ID}{k:Nat}{u:ag}(hs:cf l)(hk:l[k]? = some u)(hu:u.1=x):k=bJ l x:=by
 have h1:¬k<bJ l x:=fun h=>by
  have:=(xH hs k u hk).2 h
  rw[hu,cq]at this;cases this
 have hf:(aQ l x).isSome=true:=by
  unfold aQ;rw[List.find?_isSome];exact⟨u,List.mem_of_getElem? hk,by simp[hu]⟩
 obtain⟨v,hv⟩:=Option.isSome_iff_exists.1 hf
 have hg:=dp hs hv
 by_cases h2:bJ l x<k
 ·obtain⟨h3,h4⟩:=List.getElem?_eq_some_iff.1 hg
  obtain⟨h5,h6⟩:=List.getElem?_eq_some_iff.1 hk
  have:=List.pairwise_iff_getElem.1 hs _ _ h3 h5 h2
  rw[h4,h6,iF hv,hu,cq]at this;cases this
 ·omega
theorem II{l:List ag}{x:ID}{v:ag}(hs:cf l)(h:aQ l x=some v)(g f:ag→ag)(h1:∀w,w.1=x→g w=f w)(h2:∀w,w.1≠x→g w=w):l.map g=l.set (bJ l x) (f v):=by
 have hg:=dp hs h
 apply List.ext_getElem?
 intro k
 rw[List.getElem?_map,List.getElem?_set]
 by_cases hk:bJ l x=k
 ·subst hk
  rw[if_pos rfl,if_pos (List.getElem?_eq_some_iff.1 hg).1,hg]
  simp[h1 v (iF h)]
 ·rw[if_neg hk]
  cases hu:l[k]? with
  |none=>rfl
  |some u =>
   have:u.1≠x:=fun e=>hk (kl hs hu e).symm
   simp[h2 u this]
theorem mF{l:List ah}{x:ID}{v:ah}(hs:dv l)(h:aU l x=some v):l[cj l x]? = some v:=by
 have kX:=xK (x:=x) hs
 rw[h]at kX
 cases hg:l[cj l x]? with
 |none=>rw[hg]at kX;simp[Option.filter]at kX
 |some u =>
  rw[hg]at kX
  simp only[Option.filter]at kX
  split at kX
  ·exact kX.symm
  ·cases kX
theorem wj{l:List ah}{x:ID}{v:ah}(h:aU l x=some v):v.1=x:=by simpa using List.find?_some h
theorem NO{l:List ah}{x:ID}{v:ah}(h:aU l x=some v):v∈l:=List.mem_of_find?_eq_some h
theorem NP{l:List ah}{x:ID}{k:Nat}{u:ah}(hs:dv l)(hk:l[k]? = some u)(hu:u.1=x):k=cj l x:=by
 have h1:¬k<cj l x:=fun h=>by
  have:=(xJ hs k u hk).2 h
  rw[hu,cq]at this;cases this
 have hf:(aU l x).isSome=true:=by
  unfold aU;rw[List.find?_isSome];exact⟨u,List.mem_of_getElem? hk,by simp[hu]⟩
 obtain⟨v,hv⟩:=Option.isSome_iff_exists.1 hf
 have hg:=mF hs hv
 by_cases h2:cj l x<k
 ·obtain⟨h3,h4⟩:=List.getElem?_eq_some_iff.1 hg
  obtain⟨h5,h6⟩:=List.getElem?_eq_some_iff.1 hk
  have:=List.pairwise_iff_getElem.1 hs _ _ h3 h5 h2
  rw[h4,h6,wj hv,hu,cq]at this;cases this
 ·omega
theorem Rq{l:List ah}{x:ID}{v:ah}(hs:dv l)(h:aU l x=some v)(g f:ah→ah)(h1:∀w,w.1=x→g w=f w)(h2:∀w,w.1≠x→g w=w):l.map g=l.set (cj l x) (f v):=by
 have hg:=mF hs h
 apply List.ext_getElem?
 intro k
 rw[List.getElem?_map,List.getElem?_set]
 by_cases hk:cj l x=k
 ·subst hk
  rw[if_pos rfl,if_pos (List.getElem?_eq_some_iff.1 hg).1,hg]
  simp[h1 v (wj h)]
 ·rw[if_neg hk]
  cases hu:l[k]? with
  |none=>rfl
  |some u =>
   have:u.1≠x:=fun e=>hk (NP hs hu e).symm
   simp[h2 u this]
theorem dv.map{l:List ah}(h:dv l){f:ah→ah}(hf:∀v,(f v).1=v.1):dv (l.map f):=by
 unfold dv at h ⊢
 rw[List.pairwise_map]
 exact h.imp fun {a b} yW=>by rw[hf,hf];exact yW
theorem Kw{x:ID}{l:List ah}(hf:aU l x=none):cE l x=l:=by
 unfold cE;rw[List.filter_eq_self]
 intro u hu
 unfold aU at hf
 rw[List.find?_eq_none]at hf
 have:=hf u hu
 simpa using this
end Go.Vs
namespace Go.Vs
open Go.Proofs
variable {G:(f:FuncId)→(g:aL)→Option (g.A→Option g.B)}
theorem tN{α R:Type}{o:Option α}{a r:Option R}{f:α→Option R}{p:α}(h:o=some p)(k:f p=r):qM o a f=r:=by subst h;exact k
theorem L3{α R:Type}{o:Option α}{a r:Option R}{f:α→Option R}(h:o=none)(k:a=r):qM o a f=r:=by subst h;exact k
def tO(w:aF)(x:ID):Int×aF :=
 if(aU w.2.1 x).isSome=true then(12,w) else if 40≤w.2.1.length then(3,w) else(0,(w.1,(cF (x,(e0,0)) w.2.1,w.2.2)))
theorem VW(hG:HG G)(w:aF)(x:ID)(hs:dv w.2.1)(hl:w.2.1.length≤50000000):FX G 110 yR ((x,()),(w,()))=some (((tO w x).1,()),((tO w x).2,())):=by
 refine aA (fn:=Tryz.f110) (hG _ _ rfl) (by kernel_rfl) (by kernel_rfl) ((ZU _ _ _).trans ?_)
 refine aa (oO hG w x hs hl) ?_
 unfold tO
 cases hf:(aU w.2.1 x).isSome
 ·rw[if_neg (by simp)]
  refine aj ((dr hs).trans hf) ?_
  by_cases h2:40≤w.2.1.length
  ·rw[if_pos h2]
   exact ae (decide_eq_true (show((w.2.1.length:Nat):Int)≥40 by omega)) rfl
  ·rw[if_neg h2]
   refine aj (decide_eq_false (show ¬((w.2.1.length:Nat):Int)≥40 by omega)) ?_
   have hc:=F4 w.2.1 x
   have mO:qN w.2.1 ((cj w.2.1 x:Nat):Int) [((x,(e0,0)):ah)]=true:=by
    unfold qN
    rw[decide_eq_true (show(0:Int)≤((cj w.2.1 x:Nat):Int) by omega),decide_eq_true (show((cj w.2.1 x:Nat):Int)≤((w.2.1.length:Nat):Int) by omega)]
    rw[fits (by simp;omega)];rfl
   refine ae mO ?_
   have e:gD w.2.1 ((cj w.2.1 x:Nat):Int) [((x,(e0,0)):ah)]=cF (x,(e0,0)) w.2.1:=by
    rw[IH (x,(e0,0)) hs (by simpa using hf)]
    unfold gD;simp
   exact congrArg (fun l:List ah=>some (((0:Int),()),((w.1,(l,w.2.2)),()))) e
 ·rw[if_pos rfl]
  exact ae ((dr hs).trans hf) rfl
def Co(w:aF)(o:bL):Option (Fin 2×Nat) :=
 if nR o=true then(if(aU w.2.1 (ba o)).isSome=true then some (⟨1,by decide⟩,cj w.2.1 (ba o)) else none)
 else(if(aQ w.1 (ba o)).isSome=true then some (⟨0,by decide⟩,bJ w.1 (ba o)) else none)
theorem abx(hG:HG G)(w:aF)(o:bL)(hv:cf w.1)(he:dv w.2.1)(VX:w.1.length≤50000000)(hle:w.2.1.length≤50000000) :
  FX G 124 HX ((o,()),(w,()))=some ((Co w o,(Co w o,())),(w,())):=by
 refine aA (fn:=Tryz.f124) (hG _ _ rfl) (by kernel_rfl) (by kernel_rfl) ((aag _ _ _).trans ?_)
 unfold Co
 by_cases ho:nR o=true
 ·rw[if_pos ho]
  refine ae ho ?_
  refine aa (oO hG w (ba o) he hle) ?_
  cases hf:aU w.2.1 (ba o) with
  |none =>
   refine aj ((dr he).trans (by rw[hf];rfl)) ?_
   rfl
  |some e =>
   refine ae ((dr he).trans (by rw[hf];rfl)) ?_
   have aM:=(List.getElem?_eq_some_iff.1 (mF he hf)).1
   refine ae (dq (eX _) (bm aM)) ?_
   exact ae (dq (eX _) (bm aM)) rfl
 ·rw[if_neg ho]
  refine aj (by simpa using ho) ?_
  refine aa (qw hG w (ba o) hv VX) ?_
  cases hf:aQ w.1 (ba o) with
  |none =>
   refine aj ((fU hv).trans (by rw[hf];rfl)) ?_
   rfl
  |some e =>
   refine ae ((fU hv).trans (by rw[hf];rfl)) ?_
   have aM:=(List.getElem?_eq_some_iff.1 (dp hv hf)).1
   refine ae (dq (eX _) (bm aM)) ?_
   exact ae (dq (eX _) (bm aM)) rfl
def uF(w:aF)(o:bL):Int×aF :=
 if nR o=true then(if(aU w.2.1 (ba o)).isSome=true then(0,(w.1,(w.2.1.map (jN o),w.2.2))) else(13,w))
 else(if(aQ w.1 (ba o)).isSome=true then(0,(w.1.map (il o),w.2)) else(13,w))
theorem agT(hG:HG G)(w:aF)(o:bL)(hv:cf w.1)(he:dv w.2.1)(VX:w.1.length≤50000000)(hle:w.2.1.length≤50000000) :
  FX G 96 P8 ((o,()),(w,()))=some (((uF w o).1,()),((uF w o).2,())):=by
 refine aA (fn:=Tryz.f96) (hG _ _ rfl) (by kernel_rfl) (by kernel_rfl) ((afT _ _ _).trans ?_)
 refine aa (abx hG w o hv he VX hle) ?_
 by_cases ho:nR o=true
 ·cases hf:aU w.2.1 (ba o) with
  |none =>
   have e1:Co w o=none:=by unfold Co;rw[if_pos ho,hf];rfl
   have e2:uF w o=(13,w):=by unfold uF;rw[if_pos ho,hf];rfl
   rw[e2]
   exact L3 e1 (L3 e1 rfl)
  |some e =>
   have e1:Co w o=some (⟨1,by decide⟩,cj w.2.1 (ba o)):=by unfold Co;rw[if_pos ho,hf];rfl
   have hm:∀f:ah→ah,(∀u,u.1=ba o→jN o u=f u)→w.2.1.map (jN o)=w.2.1.set (cj w.2.1 (ba o)) (f e):=fun f hf1 =>
    Rq he hf (jN o) f hf1 (fun u hu=>by unfold jN;rw[if_neg (fun k=>hu k.2)])
   have e2:uF w o=(0,(w.1,(w.2.1.map (jN o),w.2.2))):=by unfold uF;rw[if_pos ho,hf];rfl
   rw[e2]
   refine tN e1 (aj rfl (ae rfl (tN e1 (aj rfl (ae rfl ?_)))))
   by_cases h7:o.1=7
   ·refine ae (GA h7) (aa (mF he hf) ?_)
    have:=hm (fun u=>(u.1,(oJ o,u.2.2))) (fun u hu=>by unfold jN;rw[if_pos ⟨ho,hu⟩,if_pos h7])
    exact congrArg (fun l:List ah=>some (((0:Int),()),((w.1,(l,w.2.2)),()))) this.symm
   ·refine aj (ze h7) (aa (mF he hf) ?_)
    have:=hm (fun u=>(u.1,(u.2.1,oN o))) (fun u hu=>by unfold jN;rw[if_pos ⟨ho,hu⟩,if_neg h7])
    exact congrArg (fun l:List ah=>some (((0:Int),()),((w.1,(l,w.2.2)),()))) this.symm
 ·have nK:nR o=false:=by simpa using ho
  cases hf:aQ w.1 (ba o) with
  |none =>
   have e1:Co w o=none:=by unfold Co;rw[if_neg ho,hf];rfl
   have e2:uF w o=(13,w):=by unfold uF;rw[if_neg ho,hf];rfl
   rw[e2]
   exact L3 e1 (L3 e1 rfl)
  |some e =>
   have e1:Co w o=some (⟨0,by decide⟩,bJ w.1 (ba o)):=by unfold Co;rw[if_neg ho,hf];rfl
   have hm:∀f:ag→ag,(∀u,u.1=ba o→il o u=f u)→w.1.map (il o)=w.1.set (bJ w.1 (ba o)) (f e):=fun f hf1 =>
    II hv hf (il o) f hf1 (fun u hu=>by unfold il;rw[if_neg (fun k=>hu k.2)])
   have e2:uF w o=(0,(w.1.map (il o),w.2)):=by unfold uF;rw[if_neg ho,hf];rfl
   rw[e2]
   refine tN e1 (ae rfl (tN e1 (ae rfl ?_)))
   by_cases h7:o.1=7
   ·refine ae (GA h7) (aa (dp hv hf) ?_)
    have:=hm (fun u=>(u.1,(u.2.1,(oJ o,u.2.2.2)))) (fun u hu=>by unfold il;rw[if_pos ⟨nK,hu⟩,if_pos h7])
    exact congrArg (fun l:List ag=>some (((0:Int),()),((l,w.2),()))) this.symm
   ·refine aj (ze h7) (aa (dp hv hf) ?_)
    have:=hm (fun u=>(u.1,(u.2.1,(u.2.2.1,oN o)))) (fun u hu=>by unfold il;rw[if_pos ⟨nK,hu⟩,if_neg h7])
    exact congrArg (fun l:List ag=>some (((0:Int),()),((l,w.2),()))) this.symm
end Go.Vs
namespace Go.Vs
open Go.Proofs
variable {G:(f:FuncId)→(g:aL)→Option (g.A→Option g.B)}
theorem VY(hG:HG G)(a b:ab):FX G 142 Ej ((a,b,()),())=some ((nP a b,()),()):=by
 refine aA (fn:=Tryz.f142) (hG _ _ rfl) (by kernel_rfl) (by kernel_rfl) ((aas _ _ _).trans ?_)
 refine aa (Rj hG a.1 b.1) ?_
 refine aa (Ri hG a.2 b.2) ?_
 refine aa (VS (hG _ _ rfl) (rB a.1 b.1) (Kt a.2 b.2)) ?_
 refine congrArg (fun n:Int=>some ((n,()),())) ?_
 obtain⟨a1,a2⟩:=a
 obtain⟨b1,b2⟩:=b
 unfold nP rB Kt lp
 simp only[Prod.mk.injEq]
 by_cases h:a1=b1
 ·subst h
  simp only[if_true,cq,Bool.false_or,true_and,decide_true,Bool.true_and]
  by_cases h1:a2<b2
  ·have:¬a2=b2:=by omega
   simp[h1,this]
  ·by_cases h2:a2>b2
   ·have:¬a2=b2:=by omega
    simp[h1,h2,this]
   ·have:a2=b2:=by omega
    simp[this]
 ·simp only[h,if_false,false_and,decide_false,Bool.false_and,Bool.or_false]
  cases gq a1 b1<;>simp
theorem aby(hG:G 134 my=none)(row:List ab)(d:ab)(hl:row.length≤1073741824):∀(n i:Nat),i+n=row.length →
  LX G 134 my Tryz.f134 vO (aY Tryz.prog 134 0) ((row,(((row.length:Nat):Int),((i:Int),()))),(((d,()),()),()))=some ((idx d (row.drop i) i,()),()):=by
 intro n
 induction n with
 |zero =>
  intro i hi
  refine aB (j:=0) (by kernel_rfl) ((LB _ _ _).trans ?_)
  refine aj (decide_eq_false (show ¬((i:Int)<((row.length:Nat):Int)) by omega)) ?_
  rw[List.drop_eq_nil_of_le (by omega)];rfl
 |succ n ih =>
  intro i hi
  have aM:i<row.length:=by omega
  refine aB (j:=0) (by kernel_rfl) ((LB _ _ _).trans ?_)
  refine ae (bm aM) (aa (aR (List.getElem?_eq_getElem aM)) ?_)
  rw[List.drop_eq_getElem_cons aM,idx]
  by_cases he:row[i]=d
  ·rw[if_pos he]
   exact ae ((ki d row[i]).trans (decide_eq_true he.symm)) rfl
  ·rw[if_neg he]
   refine aj ((ki d row[i]).trans (decide_eq_false fun h=>he h.symm)) ?_
   rw[aN aM hl]
   exact ih (i+1) (by omega)
theorem Cp(hG:G 134 my=none)(row:List ab)(d:ab)(hl:row.length≤1073741824):FX G 134 my ((row,d,()),())=some ((idx d row 0,()),()):=by
 refine aA (fn:=Tryz.f134) hG (by kernel_rfl) (by kernel_rfl) ((aam _ _ _).trans ?_)
 have:=aby hG row d hl row.length 0 (by omega)
 rw[List.drop_zero]at this
 exact this
theorem Et(hG:HG G)(row:List ab)(d:ab)(hl:row.length≤1073741824):FX G 133 vH ((row,d,()),())=some ((decide (d∈row),()),()):=by
 refine aA (fn:=Tryz.f133) (hG _ _ rfl) (by kernel_rfl) (by kernel_rfl) ((aal _ _ _).trans ?_)
 refine aa (Cp (hG _ _ rfl) row d hl) ?_
 refine congrArg (fun b:Bool=>some ((b,()),())) ?_
 rw[Bool.eq_iff_iff]
 simp only[decide_eq_true_eq]
 have:=fb (d:=d) (row:=row)
 constructor
 ·intro h;exact Classical.byContradiction fun k=>by have:=this.2 k;omega
 ·intro h
  have h2:¬idx d row 0<0:=fun k=>this.1 k h
  omega
theorem dR(a:ab):lp a a=false:=by unfold lp;simp[cq]
theorem gY{a b c:ab}(h:lp a b=true)(k:lp b c=true):lp a c=true:=by
 obtain⟨⟨a1,a2⟩,a3⟩:=a;obtain⟨⟨b1,b2⟩,b3⟩:=b;obtain⟨⟨c1,c2⟩,c3⟩:=c
 simp[lp,gq]at *;omega
theorem sQ{a b:ab}(h:lp a b=false)(k:a≠b):lp b a=true:=by
 obtain⟨⟨a1,a2⟩,a3⟩:=a;obtain⟨⟨b1,b2⟩,b3⟩:=b
 simp[lp,gq]at *;omega
theorem F5{a b c:ab}(h:lp a b=true)(k:lp c b=false):lp a c=true:=by
 obtain⟨⟨a1,a2⟩,a3⟩:=a;obtain⟨⟨b1,b2⟩,b3⟩:=b;obtain⟨⟨c1,c2⟩,c3⟩:=c
 simp[lp,gq]at *;omega
theorem Aj(a b:ab):nP a b<0↔lp a b=true:=by
 unfold nP
 by_cases h:a=b
 ·subst h;simp[dR]
 ·rw[if_neg h];cases lp a b<;>simp
theorem lJ{row:List ab}{k:Nat}(hk:k<row.length):row.getD k zD=row[k]:=by simp[List.getD,hk]
theorem xN(row:List ab):∀(r:List ab) (i k:Nat),row.drop i=r→k<row.length→k≤i→(∀j,j<i→(hj:j<row.length)→lp row[j] (row.getD k zD)=false)→(∀j,j<k→(hj:j<row.length)→lp (row.getD k zD) row[j]=true) →
  (∀j,(hj:j<row.length)→lp row[j] (row.getD (eZ row r i k) zD)=false)∧(∀j,j<eZ row r i k→(hj:j<row.length)→lp (row.getD (eZ row r i k) zD) row[j]=true)
 |[],i,k,hr,hk,hki,h1,h2=>by
  have hi:row.length≤i:=by
   have:=congrArg List.length hr;simp at this;omega
  exact⟨fun j hj=>h1 j (by omega) hj,h2⟩
 |x::r,i,k,hr,hk,hki,h1,h2=>by
  have hi:i<row.length:=by
   have:=congrArg List.length hr;simp at this;omega
  have hx:row[i]=x:=by
   have:=List.drop_eq_getElem_cons hi;rw[hr]at this;injection this with a b;exact a.symm
  have sd:row.drop (i+1)=r:=by
   have:=List.drop_eq_getElem_cons hi;rw[hr]at this;injection this with a b;exact b.symm
  unfold eZ
  split
  ·rename_i aM
   rw[Aj]at aM
   refine xN row r (i+1) i sd hi (by omega) (fun j hj AX=>?_) (fun j hj AX=>?_)
   ·rw[lJ hi,hx]
    rcases Nat.lt_succ_iff_lt_or_eq.1 hj with hj|rfl
    ·cases hc:lp row[j] x with
     |false=>rfl
     |true=>have:=gY hc aM;rw[h1 j hj AX]at this;cases this
    ·rw[hx,dR]
   ·rw[lJ hi,hx]
    exact F5 aM (h1 j (by omega) AX)
  ·rename_i aM
   rw[Aj]at aM
   refine xN row r (i+1) k sd hk (by omega) (fun j hj AX=>?_) h2
   rcases Nat.lt_succ_iff_lt_or_eq.1 hj with hj|rfl
   ·exact h1 j hj AX
   ·rw[hx];simpa using aM
theorem mG{row:List ab}(h:0<row.length):(∀j,(hj:j<row.length)→lp row[j] (row.getD (eZ row row 0 0) zD)=false)∧(∀j,j<eZ row row 0 0→(hj:j<row.length)→lp (row.getD (eZ row row 0 0) zD) row[j]=true) :=
 xN row row 0 0 rfl h (Nat.le_refl _) (fun j hj=>by omega) (fun j hj=>by omega)
theorem Kx{d:ab}:∀{row:List ab} {k:Nat} {i:Int},row[k]? = some d→(∀j,j<k→row[j]?≠some d)→idx d row i=i+k
 |[],k,i,h,_=>by simp at h
 |e::r,0,i,h,_=>by
  simp at h;subst h;rw[idx,if_pos rfl];simp
 |e::r,k+1,i,h,hn=>by
  have h0:=hn 0 (by omega)
  rw[idx,if_neg (fun e=>h0 (by simp[e]))]
  rw[Kx (k:=k) (by simpa using h) (fun j hj=>by have:=hn (j+1) (by omega);simpa using this)]
  simp;omega
theorem Rr{row:List ab}(h:0<row.length):idx (row.getD (eZ row row 0 0) zD) row 0=((eZ row row 0 0:Nat):Int):=by
 have hm:=kC row row 0 0 h (by omega)
 have:=Kx (d:=row.getD (eZ row row 0 0) zD) (row:=row) (k:=eZ row row 0 0) (i:=0) (by rw[lJ hm];exact List.getElem?_eq_getElem hm) (fun j hj he=>by
  obtain⟨h1,h2⟩:=List.getElem?_eq_some_iff.1 he
  have:=(mG h).2 j hj h1
  rw[h2,dR]at this;cases this)
 omega
theorem Rs(hG:HG G)(row:List ab)(h:0<row.length)(hl:row.length≤100000000):FX G 143141 kR ((row,()),())=some ((row.getD (eZ row row 0 0) zD,()),()):=by
 refine aA (fn:=Tryz.f141) (hG _ _ rfl) (by kernel_rfl) (by kernel_rfl) ((QO _ _ _).trans ?_)
 refine aj (decide_eq_false (show ¬((row.length:Nat):Int)<1 by omega)) ?_
 refine aa (aR (i:=0) (List.getElem?_eq_getElem h)) ?_
 have loop:∀(n i k:Nat),i+n=row.length→k<row.length→LX G 143141 kR Tryz.f141 kf (aY Tryz.prog 141 0) ((row,((i:Int),())),(((zD,()),(((row.getD k zD),()),())),()))=some ((row.getD (eZ row (row.drop i) i k) zD,()),()):=by
  intro n
  induction n with
  |zero =>
   intro i k hi hk
   refine aB (j:=0) (by kernel_rfl) ((B8 _ _ _).trans ?_)
   refine aj (decide_eq_false (show ¬((i:Int)<((row.length:Nat):Int)) by omega)) ?_
   rw[List.drop_eq_nil_of_le (by omega)];rfl
  |succ n ih =>
   intro i k hi hk
   have aM:i<row.length:=by omega
   have hx:row[i]? = some row[i]:=List.getElem?_eq_getElem aM
   refine aB (j:=0) (by kernel_rfl) ((B8 _ _ _).trans ?_)
   refine ae (bm aM) (aa (aR hx) ?_)
   refine aa (VY hG row[i] (row.getD k zD)) ?_
   rw[List.drop_eq_getElem_cons aM,eZ]
   by_cases ho:nP row[i] (row.getD k zD)<0
   ·rw[if_pos ho]
    refine ae (decide_eq_true ho) (aa (aR hx) ?_)
    have:=ih (i+1) i (by omega) aM
    rw[←aN aM (by omega),lJ aM]at this
    exact this
   ·rw[if_neg ho]
    refine aj (decide_eq_false ho) ?_
    have:=ih (i+1) k (by omega) hk
    rw[←aN aM (by omega)]at this
    exact this
 have h1:=loop (row.length-1) 1 0 (by omega) h
 have h2:eZ row row 0 0=eZ row (row.drop 1) 1 0:=by
  cases row with
  |nil=>simp at h
  |cons x r =>
   rw[List.drop_one,List.tail_cons]
   conv=>lhs;rw[eZ]
   rw[if_neg]
   show ¬nP x x<0
   unfold nP;simp
 rw[h2]
 have h3:row.getD 0 zD=row[0]:=lJ h
 rw[h3]at h1
 exact h1
def total(ls:List (List ab)):Nat:=(ls.map List.length).sum
theorem Cq(a:List ab)(r:List (List ab)):total (a::r)=a.length+total r:=by unfold total;rw[List.map_cons,List.sum_cons]
theorem VZ(hG:HG G)(ls:List (List ab))(hn:ls.length≤1000)(hl:total ls≤500000000):FX G 143 oF ((ls,()),())=some ((ls.flatten,()),()):=by
 refine aA (fn:=Tryz.f143) (hG _ _ rfl) (by kernel_rfl) (by kernel_rfl) ((aat _ _ _).trans ?_)
 have abz:∀(n i:Nat) (out:List ab),i+n=ls.length→out.length+total (ls.drop i)≤500000000→LX G 143 oF Tryz.f143 vS (aY Tryz.prog 143 1) ((ls,(((ls.length:Nat):Int),((i:Int),()))),((),(out,())))=some ((out++(ls.drop i).flatten,()),()):=by
  intro n
  induction n with
  |zero =>
   intro i out hi ho
   refine aB (j:=1) (by kernel_rfl) ((LD _ _ _).trans ?_)
   refine aj (decide_eq_false (show ¬((i:Int)<((ls.length:Nat):Int)) by omega)) ?_
   rw[List.drop_eq_nil_of_le (by omega),List.flatten_nil,List.append_nil];rfl
  |succ n ih =>
   intro i out hi ho
   have aM:i<ls.length:=by omega
   rw[List.drop_eq_getElem_cons aM]at ho ⊢
   have nK:out.length+(ls[i].length+total (ls.drop (i+1)))≤500000000:=by
    have:total (ls[i]::ls.drop (i+1))=ls[i].length+total (ls.drop (i+1)):=Cq _ _
    omega
   refine aB (j:=1) (by kernel_rfl) ((LD _ _ _).trans ?_)
   refine ae (bm aM) (aa (aR (List.getElem?_eq_getElem aM)) ?_)
   refine ae (fits (show out.length+ls[i].length≤1073741824 by omega)) ?_
   have:=ih (i+1) (out++ls[i]) (by omega) (by rw[List.length_append];omega)
   rw[List.flatten_cons,←List.append_assoc]
   rw[←aN aM (by omega)]at this
   exact this
 have abA:∀(n i m:Nat),i+n=ls.length→m+total (ls.drop i)=total ls→LX G 143 oF Tryz.f143 vR (aY Tryz.prog 143 0) ((ls,((m:Int),(ls,(((ls.length:Nat):Int),((i:Int),()))))),((),()))=some ((ls.flatten,()),()):=by
  intro n
  induction n with
  |zero =>
   intro i m hi hm
   refine aB (j:=0) (by kernel_rfl) ((LC _ _ _).trans ?_)
   refine aj (decide_eq_false (show ¬((i:Int)<((ls.length:Nat):Int)) by omega)) ?_
   have hg:AA (m:Int)=true:=by
    unfold AA
    rw[decide_eq_true (show(0:Int)≤(m:Int) by omega)]
    rw[decide_eq_true (show(m:Int)≤fV by unfold fV;omega)];rfl
   refine ae hg ?_
   have:=abz ls.length 0 [] (by omega) (by rw[List.drop_zero];simpa using hl)
   rw[List.drop_zero,List.nil_append]at this
   exact this
  |succ n ih =>
   intro i m hi hm
   have aM:i<ls.length:=by omega
   have Tx:m+ls[i].length+total (ls.drop (i+1))=total ls:=by
    rw[List.drop_eq_getElem_cons aM]at hm
    have:total (ls[i]::ls.drop (i+1))=ls[i].length+total (ls.drop (i+1)):=Cq _ _
    omega
   refine aB (j:=0) (by kernel_rfl) ((LC _ _ _).trans ?_)
   refine ae (bm aM) (aa (aR (List.getElem?_eq_getElem aM)) ?_)
   have hw:IntKind.wrap .i64 ((m:Int)+((ls[i].length:Nat):Int))=((m+ls[i].length:Nat):Int):=by rw[wrap_small (by omega) (by omega)];rfl
   refine aj (decide_eq_false (show ¬IntKind.wrap .i64 ((m:Int)+((ls[i].length:Nat):Int))<0 by rw[hw];omega)) ?_
   have:=ih (i+1) (m+ls[i].length) (by omega) Tx
   rw[←aN aM (by omega),←hw]at this
   exact this
 exact abA ls.length 0 0 (by omega) (by rw[List.drop_zero];omega)
theorem Ak{α:Type}(xs:List α){k:Nat}(hk:k≤xs.length):cut xs (k:Int) ((xs.length:Nat):Int)=xs.drop k:=by
 unfold cut;rw[Int.toNat_natCast,Int.toNat_natCast,List.take_of_length_le (Nat.le_refl _)]
theorem sR{α:Type}(xs:List α)(k:Nat):cut xs 0 (k:Int)=xs.take k:=by
 unfold cut;rw[Int.toNat_natCast];rfl
theorem F6{n k:Nat}(h:k≤n):bj n (k:Int) ((n:Nat):Int)=true:=by unfold bj;simp;omega
theorem wm{n k:Nat}(h:k≤n):bj n 0 (k:Int)=true:=by unfold bj;simp;omega
theorem Eu(hG:HG G)(row:List ab)(hl:row.length≤100000000):FX G 123 rp ((row,()),())=some ((bZ row,()),()):=by
 refine aA (fn:=Tryz.f123) (hG _ _ rfl) (by kernel_rfl) (by kernel_rfl) ((aaf _ _ _).trans ?_)
 by_cases h0:row.length=0
 ·refine ae (show(((row.length:Nat):Int)==0)=true by simp[h0]) ?_
  have:row=[]:=by simpa using h0
  subst this;rfl
 refine aj (show(((row.length:Nat):Int)==0)=false by rw[beq_eq_false_iff_ne];omega) ?_
 have hp:0<row.length:=by omega
 have hm:=kC row row 0 0 hp (by omega)
 refine aa (Rs hG row hp hl) ?_
 refine aa (Cp (hG _ _ rfl) row (row.getD (eZ row row 0 0) zD) (by omega)) ?_
 rw[Rr hp]
 refine ae (F6 (n:=row.length) (k:=eZ row row 0 0) (by omega)) (ae (wm (n:=row.length) (k:=eZ row row 0 0) (by omega)) ?_)
 have key:∀a b:List ab,a=row.drop (eZ row row 0 0)→b=row.take (eZ row row 0 0)→((FX G 143 oF (([a,b],()),())).bind fun(y3:(((List ab)×Unit)×Unit))=>some (y3.1,()))=some ((bZ row,()),()):=by
  intro a b ha hb
  subst ha hb
  refine aa (VZ hG [row.drop (eZ row row 0 0),row.take (eZ row row 0 0)] (by simp) (by unfold total;simp;omega)) ?_
  unfold bZ qv
  simp only[List.flatten_cons,List.flatten_nil,List.append_nil]
 exact key _ _ (Ak row (by omega)) (sR row _)
theorem Rt(hG:HG G)(ls:List (List ab))(hn:ls.length≤1000)(hl:total ls≤100000000):FX G 135 oE ((ls,()),())=some ((bZ ls.flatten,()),()):=by
 refine aA (fn:=Tryz.f135) (hG _ _ rfl) (by kernel_rfl) (by kernel_rfl) ((aan _ _ _).trans ?_)
 refine aa (VZ hG ls hn (by omega)) ?_
 have hlen:ls.flatten.length=total ls:=by unfold total;exact List.length_flatten
 exact aa (Eu hG ls.flatten (by omega)) rfl
theorem Ru(hG:HG G)(row:List ab)(after d:ab)(hl:row.length≤50000000):FX G 113 BC ((row,after,d,()),())=some ((dI row after d,()),()):=by
  refine aA (fn:=Tryz.f113) (hG _ _ rfl) (by kernel_rfl) (by kernel_rfl) ((ZW _ _ _).trans ?_)
  refine aa (Et hG row d (by omega)) ?_
  unfold dI
  by_cases hd:d∈row
  · rw[if_pos hd]
    exact ae (decide_eq_true hd) (aa (Eu hG row (by omega)) rfl)
  rw[if_neg hd]
  refine aj (decide_eq_false hd) ?_
  refine aa (Cp (hG _ _ rfl) row after (by omega)) ?_
  have hr:idx after row 0<((row.length:Nat):Int)∨row.length=0∧idx after row 0 = -1:=by
    rcases lQ after row 0 (by omega) with⟨h,_⟩|⟨k,h,hk,_⟩
    · by_cases h0:row.length=0
      · exact .inr ⟨h0,h⟩
      · exact .inl (by omega)
    · have:=(List.getElem?_eq_some_iff.1 hk).1
      exact .inl (by omega)
  have hm:max (idx after row 0) (0:Int)=max 0 (idx after row 0):=by omega
  have hw:IntKind.wrap .i64 (max (idx after row 0) (0:Int)+1)=(((max 0 (idx after row 0)).toNat+1:Nat):Int):=by
    rw[wrap_small (by omega) (by omega)];omega
  obtain⟨k,hk,nX,OD⟩:∃k:Nat,min (IntKind.wrap .i64 (max (idx after row 0) (0:Int)+1)) ((row.length:Nat):Int)=(k:Int)∧k≤row.length∧row.take k++(d::row.drop k)=row.take ((max 0 (idx after row 0)).toNat+1)++(d::row.drop ((max 0 (idx after row 0)).toNat+1)):=by
    rw[hw]
    by_cases h0:row.length=0
    · have:row=[]:=by simpa using h0
      subst this
      exact⟨0,by simp;omega,by simp,by simp⟩
    · exact⟨(max 0 (idx after row 0)).toNat+1,by omega,by omega,rfl⟩
  have wG:(min (IntKind.wrap .i64 ((max (idx after row 0) (0:Int):Int)+(1:Int))) (((List.length row):Nat):Int):Int)=(k:Int):=hk
  show cond (bj (List.length row) (0:Int) (min (IntKind.wrap .i64 ((max (idx after row 0) (0:Int):Int)+(1:Int))) (((List.length row):Nat):Int):Int))
    (cond (bj (List.length row) (min (IntKind.wrap .i64 ((max (idx after row 0) (0:Int):Int)+(1:Int))) (((List.length row):Nat):Int):Int) (((List.length row):Nat):Int))
     ((FX G 135 oE ((((cut row (0:Int) (min (IntKind.wrap .i64 ((max (idx after row 0) (0:Int):Int)+(1:Int))) (((List.length row):Nat):Int):Int))::([d]::((cut row (min (IntKind.wrap .i64 ((max (idx after row 0) (0:Int):Int)+(1:Int))) (((List.length row):Nat):Int):Int) (((List.length row):Nat):Int))::([]:List (List ab))))),()),())).bind fun(y4:(((List ab)×Unit)×Unit)) =>
     some (y4.1,()))
     (none))
    (none)=_
  rw[wG]
  refine ae (wm nX) (ae (F6 nX) ?_)
  have key:∀a b R:List ab,a=row.take k→b=row.drop k→R=bZ (row.take k++(d::row.drop k))→((FX G 135 oE (([a,[d],b],()),())).bind fun(y3:(((List ab)×Unit)×Unit))=>some (y3.1,()))=some ((R,()),()):=by
    intro a b R ha hb hR
    subst ha hb hR
    refine aa (Rt hG [row.take k,[d],row.drop k] (by simp) (by unfold total;simp;omega)) ?_
    refine congrArg (fun l:List ab=>some ((l,()),())) ?_
    simp
  exact key _ _ _ (sR row k) (Ak row nX) (by rw[OD])
theorem xO{row:List ab}{d:ab}{k:Nat}(hn:row.Nodup)(hk:row[k]? = some d):row.filter (fun e=>decide (e≠d))=row.take k++row.drop (k+1):=by
 obtain⟨h1,h2⟩:=List.getElem?_eq_some_iff.1 hk
 conv=>lhs;rw[←List.take_append_drop k row,List.drop_eq_getElem_cons h1,h2]
 have JF:(row.take k++(d::row.drop (k+1))).Nodup:=by
  rw[←h2,←List.drop_eq_getElem_cons h1,List.take_append_drop];exact hn
 have h3:=List.nodup_append.1 JF
 have h4:=List.nodup_cons.1 h3.2.1
 rw[List.filter_append,List.filter_cons_of_neg (by simp)]
 congr 1
 ·rw[List.filter_eq_self];intro a ha
  have:=h3.2.2 a ha d (by simp)
  simpa using this
 ·rw[List.filter_eq_self];intro a ha
  have:a≠d:=fun e=>h4.1 (e▸ha)
  simpa using this
theorem V5(hG:HG G)(row:List ab)(d:ab)(hn:row.Nodup)(hl:row.length≤50000000):FX G 119 HW ((row,d,()),())=some ((c6 row d,()),()):=by
 refine aA (fn:=Tryz.f119) (hG _ _ rfl) (by kernel_rfl) (by kernel_rfl) ((aac _ _ _).trans ?_)
 refine aa (Cp (hG _ _ rfl) row d (by omega)) ?_
 unfold c6
 by_cases hd:d∈row
 ·obtain⟨k,h1,h2,h3⟩:=eP hd
  have aM:=(List.getElem?_eq_some_iff.1 h2).1
  rw[xO hn h2]
  show cond (decide (idx d row 0<0)) _ (cond (bj row.length 0 (idx d row 0)) (cond (bj row.length (IntKind.wrap .i64 (idx d row 0+1)) ((row.length:Nat):Int)) ((FX G 135 oE (([cut row 0 (idx d row 0),cut row (IntKind.wrap .i64 (idx d row 0+1)) ((row.length:Nat):Int)],()),())).bind fun(y3:(((List ab)×Unit)×Unit))=>some (y3.1,())) none) none)=_
  rw[h1,aN aM (by omega)]
  refine aj (decide_eq_false (by omega)) (ae (wm (by omega)) (ae (F6 (by omega)) ?_))
  have key:∀a b:List ab,a=row.take k→b=row.drop (k+1)→((FX G 135 oE (([a,b],()),())).bind fun(y3:(((List ab)×Unit)×Unit))=>some (y3.1,()))=some ((bZ (row.take k++row.drop (k+1)),()),()):=by
   intro a b ha hb
   subst ha hb
   refine aa (Rt hG [row.take k,row.drop (k+1)] (by simp) (by unfold total;simp;omega)) ?_
   refine congrArg (fun l:List ab=>some ((l,()),())) ?_
   simp
  exact key _ _ (sR row k) (Ak row (by omega))
 ·have h1:=fb.2 hd
  refine ae (decide_eq_true h1) (aa (Eu hG row (by omega)) ?_)
  refine congrArg (fun l:List ab=>some ((l,()),())) ?_
  congr 1
  symm
  rw[List.filter_eq_self];intro a ha
  have:a≠d:=fun e=>hd (e▸ha)
  simpa using this
theorem V6(hG:HG G)(row:List ab)(cY d:ab)(hl:row.length≤50000000):FX G 121 tJ ((row,cY,d,()),())=some ((fE row cY d,()),()):=by
 refine aA (fn:=Tryz.f121) (hG _ _ rfl) (by kernel_rfl) (by kernel_rfl) ((aad _ _ _).trans ?_)
 refine aa (Cp (hG _ _ rfl) row cY (by omega)) ?_
 unfold fE
 by_cases ho:cY∈row
 ·obtain⟨k,h1,h2,h3⟩:=eP ho
  have aM:=(List.getElem?_eq_some_iff.1 h2).1
  refine aj (decide_eq_false (show ¬idx cY row 0<0 by omega)) ?_
  refine aa (Et hG row d (by omega)) ?_
  by_cases hd:d∈row
  ·rw[if_neg (fun h=>h.2 hd)]
   exact ae (decide_eq_true hd) (aa (Eu hG row (by omega)) rfl)
  rw[if_pos ⟨ho,hd⟩]
  refine aj (decide_eq_false hd) ?_
  show cond (bj row.length 0 (idx cY row 0)) (cond (bj row.length (IntKind.wrap .i64 (idx cY row 0+1)) ((row.length:Nat):Int)) ((FX G 135 oE (([cut row 0 (idx cY row 0),[d],cut row (IntKind.wrap .i64 (idx cY row 0+1)) ((row.length:Nat):Int)],()),())).bind fun(y3:(((List ab)×Unit)×Unit))=>some (y3.1,())) none) none=_
  rw[h1,aN aM (by omega)]
  refine ae (wm (by omega)) (ae (F6 (by omega)) ?_)
  have key:∀a b R:List ab,a=row.take k→b=row.drop (k+1)→R=bZ (row.set ((k:Int)).toNat d)→((FX G 135 oE (([a,[d],b],()),())).bind fun(y3:(((List ab)×Unit)×Unit))=>some (y3.1,()))=some ((R,()),()):=by
   intro a b R ha hb hR
   subst ha hb hR
   refine aa (Rt hG [row.take k,[d],row.drop (k+1)] (by simp) (by unfold total;simp;omega)) ?_
   refine congrArg (fun l:List ab=>some ((l,()),())) ?_
   rw[Int.toNat_natCast,List.set_eq_take_append_cons_drop,if_pos aM];simp
  exact key _ _ _ (sR row k) (Ak row (by omega)) rfl
 ·have h1:=fb.2 ho
  rw[if_neg (fun h=>ho h.1)]
  exact ae (decide_eq_true h1) (aa (Eu hG row (by omega)) rfl)
theorem abB(hG:HG G)(row:List ab)(d:ab)(hl:row.length≤100000000):FX G 140 Ei ((row,d,()),())=some (Iu (dd row d (row.length-1)),()):=by
 refine aA (fn:=Tryz.f140) (hG _ _ rfl) (by kernel_rfl) (by kernel_rfl) ((aar _ _ _).trans ?_)
 have key:FX G 157 BI ((row,(d,((IntKind.wrap .i64 (((row.length:Nat):Int)-1)),()))),())=some (Iu (dd row d (row.length-1)),()):=by
  refine aA (fn:=Tryz.f157) (hG _ _ rfl) (by kernel_rfl) (by kernel_rfl) ((VF _ _ _).trans ?_)
  refine aa (Cp (hG _ _ rfl) row d (by omega)) ?_
  unfold dd
  by_cases hd:d∈row
  ·rw[if_pos hd]
   obtain⟨k,h1,h2,h3⟩:=eP hd
   have aM:=(List.getElem?_eq_some_iff.1 h2).1
   refine aj (decide_eq_false (show ¬idx d row 0<0 by omega)) ?_
   refine aj (FP hd) ?_
   have hw:IntKind.wrap .i64 (((row.length:Nat):Int)-1)=((row.length-1:Nat):Int):=by rw[wrap_small (by omega) (by omega)];omega
   have Kj:IntKind.wrap .i64 (idx d row 0+IntKind.wrap .i64 (((row.length:Nat):Int)-1))=((k+(row.length-1):Nat):Int):=by
    rw[hw,h1,wrap_small (by omega) (by omega)];rfl
   have xG:(k+(row.length-1))%row.length<row.length:=Nat.mod_lt _ (by omega)
   have hx:=List.getElem?_eq_getElem xG
   refine aa (show br row (Int.tmod (IntKind.wrap .i64 (idx d row 0+IntKind.wrap .i64 (((row.length:Nat):Int)-1))) ((row.length:Nat):Int))=some row[(k+(row.length-1))%row.length] by rw[Kj,rC];exact aR hx) ?_
   rw[h1,Int.toNat_natCast,hx];rfl
  ·rw[if_neg hd]
   exact ae (decide_eq_true (fb.2 hd)) rfl
 refine aa key ?_
 rfl
end Go.Vs
