/- What the document's reference -/
import Derived.Test.YtpkfpbpbkabkdaaGreatNormalA
import Derived.Test.YtpkfpbpbkabkdaaGreatNormalB
import Derived.Test.YtpkfpbpbkabkdaaGreatNormalC
set_option linter.unusedVariables false
set_option linter.unusedSimpArgs false
namespace Go.Vs
open Go.Proofs
variable {G:(f:FuncId)→(g:aX)→Option (g.A→Option g.B)}
theorem aa{α β:Type}{o:Option α}{f:α→Option β}{a:α}{r:Option β}(h:o=some a)(k:f a=r):o.bind f=r:=by rw[h];exact k
theorem aC{α:Type}{l:List α}{i:Nat}{x:α}(h:l[i]? = some x):bh l (i:Int)=some x:=by have hl:=(aa9.1 h).1;simp[bh,h]
theorem wrap_small{n:Int}(h0 : -9223372036854775808≤n)(h1:n<9223372036854775808):IntKind.wrap .i64 n=n:=by unfold IntKind.wrap;simp[IntKind.bits,IntKind.signed];omega
theorem aK{i n:Nat}(h:i<n)(hn:n≤1073741824):IntKind.wrap .i64 ((i:Int)+1)=((i+1:Nat):Int):=by rw[wrap_small (by omega) (by omega)];rfl
theorem bg{i n:Nat}(h:i<n):decide ((i:Int)<((n:Nat):Int))=true:=by simpa using h
theorem dO(n:Nat):decide (((n:Nat):Int)<((n:Nat):Int))=false:=by simp
theorem fits{n m:Nat}(h:n+m≤1073741824):aU n m=true:=decide_eq_true h
theorem jl(a b:ID):((a.1==b.1)&&(a.2==b.2))=decide (a=b):=by obtain⟨a1,a2⟩:=a;obtain⟨b1,b2⟩:=b;rw[Bool.eq_iff_iff];simp
theorem lW(a b:ae):(((a.1.1==b.1.1)&&(a.1.2==b.1.2))&&(a.2==b.2))=decide (a=b):=by obtain⟨⟨a1,a2⟩,a3⟩:=a;obtain⟨⟨b1,b2⟩,b3⟩:=b;rw[Bool.eq_iff_iff];simp[and_assoc]
theorem Vy(a b:ByteArray):(a==b)=decide (a=b):=by obtain⟨a⟩:=a;obtain⟨b⟩:=b;show(a==b)=_;rw[Bool.eq_iff_iff];simp
theorem cp{α S R:Type}(l:List α)(L:Int→S→Option R)(g:List α→S→R)(inv:Nat→S→Prop) (ak3:∀s,inv 0 s→L ((l.length:Nat):Int) s=some (g [] s)) (afD:∀(i:Nat) (x:α) (r:List α) (s:S),i<l.length→l[i]? = some x→i+r.length+1=l.length→inv (r.length+1) s→(∀s',inv r.length s'→L ((i+1:Nat):Int) s'=some (g r s'))→L (i:Int) s=some (g (x::r) s)) :
  ∀s,inv l.length s→L 0 s=some (g l s):=by
 have key:∀(r p:List α),p++r=l→∀s,inv r.length s→L ((p.length:Nat):Int) s=some (g r s):=by
  intro r
  induction r with
  |nil=>intro p hp s hs;rw[List.append_nil]at hp;subst hp;exact ak3 s hs
  |cons x r ih =>
   intro p hp s hs;refine afD p.length x r s ?_ ?_ ?_ hs (fun s' hs' => ?_)
   ·rw[←hp];simp
   ·rw[←hp];simp
   ·rw[←hp];simp;omega
   ·have:=ih (p++[x]) (by simp[hp]) s' hs';simpa using this
 intro s hs;exact key l [] rfl s hs
def zD:ae:=((0,0),0)
def cz(x:ID):Bool:=decide (1≤x.1∧x.1≤8∧1≤x.2∧x.2≤1048576)
def gm(a b:ID):Bool:=decide (a.1<b.1∨(a.1=b.1∧a.2<b.2))
def rE(a b:ID):Int:=if a=b then 0 else if gm a b then -1 else 1
def lz(a b:ae):Bool:=gm a.1 b.1 || (decide (a.1=b.1)&&decide (a.2<b.2))
def n8(a b:ae):Int:=if a=b then 0 else if lz a b then -1 else 1
def Ja(d:ae):Bool:=cz d.1&&decide (d.2=0∨d.2=1)
theorem Gk(hG:G 87 BU=none)(x:ID):FX G 87 BU ((x,()),())=some ((cz x,()),()):=by refine aB hG ajx ?_;obtain⟨a,b⟩:=x;show(cond (decide (a≥1)) (cond (decide (a≤8)) (cond (decide (b≥1)) (some ((decide (b≤1048576),()),())) (some ((false,()),()))) (some ((false,()),()))) (some ((false,()),())):Option ((Bool×Unit)×Unit))=some ((cz (a,b),()),());unfold cz;simp only[cond_eq_ite];by_cases h1:(1:Int)≤a<;>by_cases h2:a≤8<;>by_cases h3:(1:Int)≤b<;>simp[h1,h2,h3]
theorem abI(hG:G 121 Ge=none)(d:ae):FX G 121 Ge ((d,()),())=some (((d.1,IntKind.wrap .i64 (1-d.2)),()),()) :=aB hG ajB rfl
theorem Vz(hG:G 105 IQ=none)(a b:ID):FX G 105 IQ ((a,b,()),())=some ((rE a b,()),()):=by refine aB hG akd ?_;obtain⟨a1,a2⟩:=a;obtain⟨b1,b2⟩:=b;unfold rE gm;show(cond ((a1==b1)&&(a2==b2)) (some (((0:Int),()),())) (cond (decide (a1<b1)) (some (((-1:Int),()),())) (cond (a1==b1) (cond (decide (a2<b2)) (some (((-1:Int),()),())) (some (((1:Int),()),()))) (some (((1:Int),()),())))):Option ((Int×Unit)×Unit))=some (((if(a1,a2)=(b1,b2) then 0 else if(decide (a1<b1∨(a1=b1∧a2<b2)))=true then -1 else 1:Int),()),());by_cases h1:a1=b1<;>by_cases h2:a2=b2<;>by_cases h3:a1<b1<;>by_cases h4:a2<b2<;>first|(exfalso;omega)|(simp only[cond_eq_ite];simp[h1,h2,h3,h4];done)|(subst h1;simp only[cond_eq_ite];simp[h2,h4])
theorem YD(hG:HG G)(a b:ae):FX G 71 Nz ((a,b,()),())=some ((n8 a b,()),()):=by
 refine aB (hG _ _ rfl) aj5 ?_;refine aa (Vz (hG _ _ rfl) a.1 b.1) ?_;obtain⟨a1,a2⟩:=a;obtain⟨b1,b2⟩:=b;show(cond (rE a1 b1 != 0) (some ((rE a1 b1,()),())) (cond (decide (a2<b2)) (some (((-1:Int),()),())) (cond (decide (a2>b2)) (some (((1:Int),()),())) (some (((0:Int),()),())))):Option ((Int×Unit)×Unit))=some ((n8 (a1,a2) (b1,b2),()),());unfold n8 lz rE;simp only[cond_eq_ite];by_cases h1:a1=b1
 ·subst h1;have hl:gm a1 a1=false:=by simp[gm]
  by_cases h2:a2=b2
  ·subst h2;simp
  ·by_cases h3:a2<b2
   ·simp[h2,h3,hl]
   ·have:a2>b2:=by omega
    simp[h2,h3,hl,this]
 ·by_cases h2:gm a1 b1=true<;>simp[h1,h2]
theorem ak5(hG:HG G)(d:ae):FX G 123 Uk ((d,()),())=some ((Ja d,()),()):=by refine aB (hG _ _ rfl) akB ?_;refine aa (Gk (hG _ _ rfl) d.1) ?_;obtain⟨d1,d2⟩:=d;show(cond (cz d1) (cond (d2==0) (some ((true,()),())) (some (((d2==1),()),()))) (some ((false,()),())):Option ((Bool×Unit)×Unit))=some ((Ja (d1,d2),()),());unfold Ja;simp only[cond_eq_ite];by_cases h1:cz d1=true<;>by_cases h2:d2=0<;>simp[h1,h2];rw[Bool.eq_iff_iff];simp
def idx(d:ae):List ae→Int→Int
 |[],_ => -1
 |e::r,i=>if e=d then i else idx d r (i+1)
theorem ak6(row:List ae)(d:ae)(hl:row.length≤1073741824):∀(n i:Nat),i+n=row.length→LX G 144 tj Tryz.f144 Ef (aS Tryz.prog 144 0) ((row,((i:Int),())),(((d,()),()),()))=some ((idx d (row.drop i) i,()),()):=by
 intro n
 induction n with
 |zero =>
  intro i hi;refine ax Ut ?_;have h1:¬((i:Int)<(row.length:Int)):=by omega
  have h2:row.drop i=[]:=adA (by omega);simp only[h1,h2,decide_false,cond_false,idx];rfl
 |succ n ih =>
  intro i hi;refine ax Ut ?_;have aH:i<row.length:=by omega
  have h1:((i:Int)<(row.length:Int)):=by omega
  have h2:row.drop i=row[i]::row.drop (i+1):=ac4 aH;have h3:bh row (i:Int)=some row[i]:=by simp[bh,aH]
  have h4:IntKind.wrap .i64 ((i:Int)+1)=((i+1:Nat):Int):=by rw[wrap_small (by omega) (by omega)];rfl
  have h5:=ih (i+1) (by omega);rw[h2,idx];simp only[h1,decide_true,cond_true,h3,Option.bind_some,h4,lW];by_cases he:row[i]=d
  ·rw[if_pos he];simp only[he,decide_true];rfl
  ·rw[if_neg he];simp only[he,decide_false];exact h5
theorem Jb(hG:G 144 tj=none)(row:List ae)(d:ae)(hl:row.length≤1073741824):FX G 144 tj ((row,d,()),())=some ((idx d row 0,()),()):=by refine aB hG ajC ?_;exact ak6 (G:=G) row d hl row.length 0 (by omega)
theorem qy(d:ae):∀(row:List ae) (i:Int),0≤i→(idx d row i = -1∧d∉row)∨(∃k:Nat,idx d row i=i+k∧row[k]? = some d∧d∉row.take k)
 |[],i,_=>.inl ⟨rfl,by simp⟩
 |e::r,i,h=>by
  unfold idx;by_cases he:e=d
  ·right;exact⟨0,by simp[he],by simp[he],by simp⟩
  ·rw[if_neg he];rcases qy d r (i+1) (by omega) with⟨h1,h2⟩|⟨k,h1,h2,h3⟩
   ·exact .inl ⟨h1,by simp[h2,Ne.symm he]⟩
   ·exact .inr ⟨k+1,by rw[h1];omega,by simpa using h2,by simp[h3,Ne.symm he]⟩
theorem fS{d:ae}{row:List ae}:idx d row 0<0↔d∉row:=by
 rcases qy d row 0 (by omega) with⟨h1,h2⟩|⟨k,h1,h2,_⟩
 ·simp[h1,h2]
 ·have:=acd h2;simp[this];omega
theorem eU{d:ae}{row:List ae}(h:d∈row):∃k:Nat,idx d row 0=k∧row[k]? = some d∧d∉row.take k:=by
 rcases qy d row 0 (by omega) with⟨_,h2⟩|⟨k,h1,h2,h3⟩
 ·exact absurd h h2
 ·exact⟨k,by omega,h2,h3⟩
theorem CB{α:Type}[DecidableEq α]:∀(a b:List α),a.length=b.length→(a.zip b).all (fun p=>decide (p.1=p.2))=decide (a=b)
 |[],[],_=>by simp
 |[],_::_,h=>by simp at h
 |_::_,[],h=>by simp at h
 |x::a,y::b,h=>by simp only[List.zip_cons_cons,List.all_cons,CB a b (by simpa using h)];rw[Bool.eq_iff_iff];simp
theorem Jc{α:Type}{a b:List α}{i:Nat}{x:α×α}(h:(a.zip b)[i]? = some x):a[i]? = some x.1∧b[i]? = some x.2:=by obtain⟨x1,x2⟩:=x;exact List.getElem?_zip_eq_some.1 h
theorem afE(hG:HG G)(a b:List ae)(ha:a.length≤1073741824):FX G 98 IL ((a,b,()),())=some ((decide (a=b),()),()):=by
 refine aB (hG _ _ rfl) aj0 ?_;by_cases hl:a.length=b.length
 case neg =>
  have h1:((((a.length:Nat):Int)) != ((b.length:Nat):Int))=true:=by simp;omega
  have h2:¬a=b:=fun e=>hl (by rw[e]);simp only[h1,h2,decide_false];rfl
 have h1:((((a.length:Nat):Int)) != ((b.length:Nat):Int))=false:=by simp[hl]
 simp only[h1];have Ln:(a.zip b).length=a.length:=by simp[hl]
 have key:=cp (a.zip b) (fun i (_:Unit)=>LX G 98 IL Tryz.f98 Ep (aS Tryz.prog 98 0) ((a,(b,(i,()))),((),()))) (fun r _=>((r.all (fun p=>decide (p.1=p.2)),()),())) (fun _ _=>True) (fun s _=>by refine ax UM ?_;rw[Ln];simp only[dO,cond_false];rfl) (fun i x r s hi hx hr _ ih=>by
   rw[Ln]at hi;obtain⟨h3,h4⟩:=Jc hx;refine ax UM ?_;simp only[bg hi,cond_true,aC h3,aC h4,Option.bind_some,lW,aK hi ha];by_cases he:x.1=x.2
   ·simp only[he,decide_true,Bool.not_true,cond_false,List.all_cons,Bool.true_and];exact ih () trivial
   ·simp only[he,decide_false,Bool.not_false,cond_true,List.all_cons,Bool.false_and];rfl)
  () trivial
 rw[CB a b hl]at key;exact key
def cU(row:List ae)(d:ae)(by_:Nat):Option ae:=if d∈row then row[((idx d row 0).toNat+by_)%row.length]? else none
def BB:Option ae→ae×(Bool×Unit)
 |some y=>(y,(true,()))
 |none=>(zD,(false,()))
theorem tD(a n:Nat):Int.tmod (a:Int) (n:Int)=((a%n:Nat):Int):=by rw[Int.tmod_eq_emod_of_nonneg (by omega)];rfl
theorem Jd{row:List ae}{d:ae}(h:d∈row):((((row.length:Nat):Int))==0)=false:=by have:=adj h;simp;intro e;subst e;simp at h
theorem afF(hG:HG G)(row:List ae)(d:ae)(hl:row.length≤1073741824):FX G 148 Rj ((row,d,()),())=some (BB (cU row d (row.length-1)),()):=by
 refine aB (hG _ _ rfl) ajD ?_;refine aa (Jb (hG _ _ rfl) row d hl) ?_;by_cases h:d∈row
 ·obtain⟨k,h1,h2,h3⟩:=eU h;have hk:=(aa9.1 h2).1;have hm:(k+(row.length-1))%row.length<row.length:=adr _ (by omega);have e1:IntKind.wrap .i64 (IntKind.wrap .i64 ((k:Int)+((row.length:Nat):Int))-1)=((k+(row.length-1):Nat):Int):=by rw[wrap_small (n:=(k:Int)+((row.length:Nat):Int)) (by omega) (by omega),wrap_small (by omega) (by omega)];omega
  have e2:¬((k:Int)<0):=by omega
  have e4:row[(k+(row.length-1))%row.length]? = some row[(k+(row.length-1))%row.length]:=abb hm;have e3:cU row d (row.length-1)=some row[(k+(row.length-1))%row.length]:=by unfold cU;rw[if_pos h,h1];simp
  rw[e3];simp only[h1,e2,decide_false,cond_false,Jd h,e1,tD,aC e4,Option.bind_some];rfl
 ·have h1:=fS.2 h;have e3:cU row d (row.length-1)=none:=by unfold cU;rw[if_neg h]
  rw[e3];simp only[h1,decide_true,cond_true];rfl
theorem afG(hG:HG G)(row:List ae)(d:ae)(hl:row.length≤1073741824):FX G 248 K2 ((row,d,()),())=some (BB (cU row d 1),()):=by
 refine aB (hG _ _ rfl) ael ?_;refine aa (Jb (hG _ _ rfl) row d hl) ?_;by_cases h:d∈row
 ·obtain⟨k,h1,h2,h3⟩:=eU h;have hk:=(aa9.1 h2).1;have hm:(k+1)%row.length<row.length:=adr _ (by omega);have e1:IntKind.wrap .i64 ((k:Int)+1)=((k+1:Nat):Int):=by rw[wrap_small (by omega) (by omega)];omega
  have e2:¬((k:Int)<0):=by omega
  have e4:row[(k+1)%row.length]? = some row[(k+1)%row.length]:=abb hm;have e3:cU row d 1=some row[(k+1)%row.length]:=by unfold cU;rw[if_pos h,h1];simp
  rw[e3];simp only[h1,e2,decide_false,cond_false,Jd h,e1,tD,aC e4,Option.bind_some];rfl
 ·have h1:=fS.2 h;have e3:cU row d 1=none:=by unfold cU;rw[if_neg h]
  rw[e3];simp only[h1,decide_true,cond_true];rfl
def fP(row:List ae):List ae→Nat→Nat→Nat
 |[],_,k=>k
 |x::r,i,k=>if n8 x (row.getD k zD)<0 then fP row r (i+1) i else fP row r (i+1) k
def kD(row:List ae)(k:Nat):List ae:=row.drop k++row.take k
def bB(row:List ae):List ae:=kD row (fP row row 0 0)
theorem lA(row:List ae):∀(r:List ae) (i k:Nat),k<row.length→i+r.length=row.length→fP row r i k<row.length
 |[],_,k,hk,_=>hk
 |x::r,i,k,hk,hi=>by
  unfold fP;simp at hi
  split
  ·exact lA row r (i+1) i (by omega) (by omega)
  ·exact lA row r (i+1) k hk (by omega)
theorem dR(row:List ae)(k:Nat):(kD row k).length=row.length:=by unfold kD;simp;omega
theorem iv(row:List ae):(bB row).length=row.length:=dR _ _
theorem CC{row:List ae}{k:Nat}{d:ae}:d∈kD row k↔d∈row:=by unfold kD;rw[List.mem_append,or_comm,←List.mem_append,List.take_append_drop]
theorem kl{row:List ae}{d:ae}:d∈bB row↔d∈row:=CC
theorem mL{row:List ae}{k i:Nat}(hk:k≤row.length)(hi:i<row.length):(kD row k)[i]? = row[(k+i)%row.length]? := by
 unfold kD;by_cases h:k+i<row.length
 ·rw[List.getElem?_append_left (by simp;omega),List.getElem?_drop,Nat.mod_eq_of_lt h]
 ·rw[List.getElem?_append_right (by simp;omega),List.length_drop,List.getElem?_take,if_pos (by omega)];congr 1;have:(k+i)%row.length=k+i-row.length:=by rw[Nat.mod_eq_sub_mod (by omega),Nat.mod_eq_of_lt (by omega)]
  omega
theorem abJ(row:List ae)(k:Nat)(hl:row.length≤100000000)(hk:k≤row.length):∀(n i:Nat) (out T:List ae),i+n=row.length→T=kD row k→out=T.take i → LX G 122 rv Tryz.f122 Eu (aS Tryz.prog 122 1) ((row,((k:Int),((i:Int),()))),((),(out,())))=some ((T,()),()):=by
 intro n
 induction n with
 |zero =>
  intro i out T hi hT ho;refine ax UW ?_;have h1:¬((i:Int)<(row.length:Int)):=by omega
  have h2:out=T:=by rw[ho];exact List.take_of_length_le (by rw[hT,dR];omega)
  subst h2;simp only[h1,decide_false];rfl
 |succ n ih =>
  intro i out T hi hT ho;refine ax UW ?_;have aH:i<row.length:=by omega
  have hm:(k+i)%row.length<row.length:=adr _ (by omega);have h3:row[(k+i)%row.length]? = some row[(k+i)%row.length]:=abb hm;have h0:((((row.length:Nat):Int))==0)=false:=by simp;intro e;subst e;simp at aH
  have h4:IntKind.wrap .i64 ((k:Int)+(i:Int))=((k+i:Nat):Int):=by rw[wrap_small (by omega) (by omega)];rfl
  have hol:out.length≤row.length:=by rw[ho,hT];simp;rw[dR];omega
  have h5:aU out.length [row[(k+i)%row.length]].length=true:=fits (by simp;omega);have h6:out++[row[(k+i)%row.length]]=T.take (i+1):=by rw[ho,List.take_add_one,hT,mL hk aH,h3];rfl
  have h7:=ih (i+1) (out++[row[(k+i)%row.length]]) T (by omega) hT h6;simp only[bg aH,h0,h4,tD,aC h3,Option.bind_some,h5,aK aH (show row.length≤1073741824 by omega)];exact h7
theorem abK(hG:HG G)(row:List ae)(hl:row.length≤100000000):∀(n i k:Nat),i+n=row.length→(k<row.length∨(row=[]∧k=0)) → LX G 122 rv Tryz.f122 zY (aS Tryz.prog 122 0) ((row,((k:Int),((i:Int),()))),((),()))=some ((kD row (fP row (row.drop i) i k),()),()):=by
 intro n
 induction n with
 |zero =>
  intro i k hi hk;refine ax UU ?_;have h1:¬((i:Int)<(row.length:Int)):=by omega
  have h2:row.drop i=[]:=adA (by omega);simp only[h1,h2,decide_false,cond_false,fP];exact abJ (G:=G) row k hl (by rcases hk with h|⟨_,h⟩<;>omega) row.length 0 [] (kD row k) (by omega) rfl (by simp)
 |succ n ih =>
  intro i k hi hk;refine ax UU ?_;have aH:i<row.length:=by omega
  have yW:k<row.length:=hk.resolve_right (by rintro⟨rfl,_⟩;simp at aH);have h2:row.drop i=row[i]::row.drop (i+1):=ac4 aH;have h3:row[i]? = some row[i]:=abb aH;have h4:row[k]? = some row[k]:=abb yW;have h5:row.getD k zD=row[k]:=by simp[List.getD,h4]
  simp only[bg aH,cond_true,aC h3,aC h4,Option.bind_some,aK aH (show row.length≤1073741824 by omega)];refine aa (YD hG row[i] row[k]) ?_;rw[h2,fP,h5];by_cases ho:n8 row[i] row[k]<0
  ·rw[if_pos ho];simp only[ho,decide_true];exact ih (i+1) i (by omega) (.inl aH)
  ·rw[if_neg ho];simp only[ho,decide_false];exact ih (i+1) k (by omega) (.inl yW)
theorem Je(hG:HG G)(row:List ae)(hl:row.length≤100000000):FX G 122 rv ((row,()),())=some ((bB row,()),()):=by refine aB (hG _ _ rfl) akl ?_;have:=abK (G:=G) hG row hl row.length 0 0 (by omega) (by cases row with|nil=>exact .inr ⟨rfl,rfl⟩|cons x r=>exact .inl (by simp));exact this
def gN(row:List ae)(after d:ae):List ae :=if d∈row then bB row else bB (row.take ((max 0 (idx after row 0)).toNat+1)++(d::row.drop ((max 0 (idx after row 0)).toNat+1)))
def bz(row:List ae)(d:ae):List ae:=bB (row.filter fun e=>decide (e≠d))
def dJ(row:List ae)(dq d:ae):List ae:=bB (if dq∈row∧d∉row then row.set (idx dq row 0).toNat d else row)
theorem afH(hG:HG G)(row:List ae)(d:ae)(hl:row.length≤100000000):FX G 126 Bq ((row,d,()),())=some ((bz row d,()),()):=by
 refine aB (hG _ _ rfl) aej ?_;have key:=cp row (fun i (s:List ae)=>LX G 126 Bq Tryz.f126 uB (aS Tryz.prog 126 0) ((row,(i,())),(((d,()),()),(s,())))) (fun r s=>((bB (s++r.filter fun e=>decide (e≠d)),()),())) (fun n s=>s.length+n≤row.length) (fun s hs=>by refine ax O9 ?_;simp only[dO,cond_false];refine aa (Je hG s (by omega)) ?_;simp only[List.filter_nil,List.append_nil];rfl) (fun i x r s hi hx hr hs ih=>by
   refine ax O9 ?_;simp only[bg hi,cond_true,aC hx,Option.bind_some,lW,aK hi (show row.length≤1073741824 by omega)];by_cases he:x=d
   ·simp only[he,decide_true,Bool.not_true,ne_eq,not_true_eq_false,decide_false,List.filter_cons,Bool.false_eq_true,if_false];exact ih s (by omega)
   ·have h5:aU s.length [x].length=true:=fits (by simp;omega);simp only[he,decide_false,Bool.not_false,h5,ne_eq,not_false_eq_true,decide_true,List.filter_cons,if_true];have:=ih (s++[x]) (by simp;omega);rw[List.append_assoc]at this;exact this)
  [] (by simp)
 exact key
theorem VA(row:List ae)(d:ae)(k:Nat):row.take (k+1)++(d::row.drop (k+1))=(row.take (k+1)++[d])++row.drop (k+1):=by simp
theorem afI(hG:HG G)(row:List ae)(after d:ae)(hl:row.length≤90000000):FX G 146 Bp ((row,after,d,()),())=some ((gN row after d,()),()):=by
 refine aB (hG _ _ rfl) aeh ?_;refine aa (Jb (hG _ _ rfl) row d (by omega)) ?_;by_cases hd:d∈row
 case pos =>
  have h1:¬idx d row 0<0:=fun h=>fS.1 h hd;have h2:idx d row 0≥0:=by omega
  simp only[h2,decide_true,cond_true];refine aa (Je hG row (by omega)) ?_;unfold gN;rw[if_pos hd];rfl
 case neg =>
 have h1:¬idx d row 0≥0:=by have:=fS.2 hd;omega
 simp only[h1,decide_false,cond_false];refine aa (Jb (hG _ _ rfl) row after (by omega)) ?_;obtain⟨k,hk⟩:∃k:Nat,max 0 (idx after row 0)=(k:Int):=⟨(max 0 (idx after row 0)).toNat,by omega⟩;have Qx:k<row.length∨row=[]:=by
  rcases qy after row 0 (by omega) with⟨e,_⟩|⟨q,e,e2,_⟩
  ·have:k=0:=by omega
   subst this
   cases row with
   |nil=>exact .inr rfl
   |cons x r=>exact .inl (by simp)
  ·have:=(aa9.1 e2).1;exact .inl (by omega)
 have xO:gN row after d=bB (row.take (k+1)++(d::row.drop (k+1))):=by unfold gN;rw[if_neg hd,hk];rfl
 rw[xO];simp only[hk];obtain⟨fin,jX⟩:∃fin,fin=row.take (k+1)++(d::row.drop (k+1)):=⟨_,rfl⟩;rw[←jX];have loop:∀(n i:Nat) (out:List ae),i+n=row.length→out=(if i≤k then row.take i else(row.take (k+1)++[d])++(row.drop (k+1)).take (i-(k+1))) →
   LX G 146 Bp Tryz.f146 uA (aS Tryz.prog 146 0) ((row,((k:Int),((i:Int),()))),(((d,()),()),(out,())))=some ((bB fin,()),()):=by
  intro n
  induction n with
  |zero =>
   intro i out hi xD;refine ax O7 ?_;have h1:¬((i:Int)<(row.length:Int)):=by omega
   rcases Qx with Qx|rfl
   ·have h0:((((row.length:Nat):Int))==0)=false:=by simp;intro e;subst e;simp at Qx
    have h2:out=fin:=by have hle:(row.drop (k+1)).take (i-(k+1))=row.drop (k+1):=List.take_of_length_le (by rw[List.length_drop];omega);rw[xD,jX,if_neg (by omega),VA,hle]
    subst h2;simp only[h1,decide_false,h0];exact aa (Je hG out (by rw[jX];simp;omega)) rfl
   ·have Yp:i=0:=by simpa using hi
    subst Yp;have h2:out=[]:=by rw[xD];simp
    subst h2;have h3:fin=[d]:=by rw[jX];simp
    subst h3;exact aa (Je hG [d] (by simp)) rfl
  |succ n ih =>
   intro i out hi xD;refine ax O7 ?_;have aH:i<row.length:=by omega
   have hx:row[i]? = some row[i]:=abb aH;have hol:out.length≤row.length+1:=by rw[xD];split<;>simp<;>omega
   have h5:aU out.length [row[i]].length=true:=fits (by simp;omega);simp only[bg aH,aC hx,Option.bind_some,aK aH (show row.length≤1073741824 by omega),h5];by_cases hik:i=k
   ·subst hik;have h6:aU (out++[row[i]]).length [d].length=true:=fits (by simp;omega);have h8:(((i:Nat):Int)==((i:Nat):Int))=true:=by simp
    simp only[h8,h6];exact ih (i+1) ((out++[row[i]])++[d]) (by omega) (by rw[if_neg (by omega),xD,if_pos (Nat.le_refl _),List.take_add_one,hx];simp)
   ·have h8:(((i:Nat):Int)==((k:Nat):Int))=false:=by simp;omega
    simp only[h8];refine ih (i+1) (out++[row[i]]) (by omega) ?_;rw[xD];by_cases hle:i≤k
    ·rw[if_pos hle,if_pos (by omega),List.take_add_one,hx];rfl
    ·have e9:(row.drop (k+1)).take (i+1-(k+1))=(row.drop (k+1)).take (i-(k+1))++[row[i]]:=by rw[show i+1-(k+1)=(i-(k+1))+1 by omega,List.take_add_one,List.getElem?_drop,show k+1+(i-(k+1))=i by omega,hx];rfl
     rw[if_neg hle,if_neg (by omega),e9,List.append_assoc]
 exact loop row.length 0 [] (by omega) (by simp)
theorem afJ(hG:HG G)(row:List ae)(dq d:ae)(hl:row.length≤100000000):FX G 149 K1 ((row,dq,d,()),())=some ((dJ row dq d,()),()):=by
 refine aB (hG _ _ rfl) aek ?_;have h5:aU ([]:List ae).length row.length=true:=fits (by simp;omega);simp only[h5,cond_true,List.nil_append];refine aa (Jb (hG _ _ rfl) row dq (by omega)) ?_;unfold dJ;by_cases ho:dq∈row
 ·obtain⟨k,h1,h2,h3⟩:=eU ho;have hk:=(aa9.1 h2).1;have e1:((k:Int)≥0):=by omega
  simp only[h1,e1,decide_true];refine aa (Jb (hG _ _ rfl) row d (by omega)) ?_;by_cases hd:d∈row
  ·have h6:¬idx d row 0<0:=fun h=>fS.1 h hd;rw[if_neg (by simp[hd])];simp only[h6,decide_false];exact aa (Je hG row hl) rfl
  ·have h6:=fS.2 hd;rw[if_pos ⟨ho,hd⟩];have h7:(0:Int)≤(k:Int):=by omega
   have h8:((k:Int)<((row.length:Nat):Int)):=by omega
   simp only[h6,decide_true,h7,h8,Bool.and_self,Int.toNat_natCast,h2];exact aa (Je hG (row.set k d) (by simpa using hl)) rfl
 ·have h1:¬idx dq row 0≥0:=by have:=fS.2 ho;omega
  rw[if_neg (by simp[ho])];simp only[h1,decide_false];exact aa (Je hG row hl) rfl
def e0:ByteArray:=⟨#[]⟩
def zI:ID:=(0,0)
def zV:ai:=((0,0),([],(e0,0)))
def zE:an:=((0,0),(e0,0))
def aN(l:List ai)(x:ID):Option ai:=l.find? fun v=>decide (v.1=x)
def aL(l:List an)(x:ID):Option an:=l.find? fun v=>decide (v.1=x)
def aO(d:ak)(x:ID):Option ai:=aN d.1 x
def cH(d:ak)(x:ID):Option an:=aL d.2 x
def EM(l:List ai)(x:ae):Option ID:=(l.find? fun v=>decide (x∈v.2.1)).map (·.1)
def bJ(d:ak)(x:ae):Option ID:=EM d.1 x
def jY{α:Type}(z:α):Option α→α×(Bool×Unit)
 |some y=>(y,(true,()))
 |none=>(z,(false,()))
theorem Gl(hG:G 79 ss=none)(d:ak)(x:ID)(hl:d.1.length≤100000000):FX G 79 ss ((d,x,()),())=some (jY zV (aO d x),()):=by
 refine aB hG ajw ?_;have Jf:=cp d.1 (fun i (_:Unit)=>LX G 79 ss Tryz.f79 Eb (aS Tryz.prog 79 0) ((i,()),(((d,()),((x,()),(((0:Int),((0:Int),(([]:List ae),(e0,((0:Int),()))))),()))),()))) (fun(r:List ai) (_:Unit)=>(jY zV (aN r x),())) (fun _ _=>True) (fun s _=>by refine ax Up ?_;simp only[dO,cond_false];rfl) (fun i y r s hi hx hr _ ih=>by
   refine ax Up ?_;simp only[bg hi,cond_true,aC hx,Option.bind_some,jl,aK hi (show d.1.length≤1073741824 by omega)];by_cases he:y.1=x
   ·simp only[he,decide_true,aN,aL,List.find?_cons];subst he;rfl
   ·simp only[he,decide_false,aN,aL,List.find?_cons];exact ih () trivial)
  () trivial
 exact Jf
theorem VB(hG:G 92 zN=none)(d:ak)(x:ID)(hl:d.2.length≤100000000):FX G 92 zN ((d,x,()),())=some (jY zE (cH d x),()):=by
 refine aB hG ajz ?_;have Jf:=cp d.2 (fun i (_:Unit)=>LX G 92 zN Tryz.f92 Ed (aS Tryz.prog 92 0) ((i,()),(((d,()),((x,()),(((((0:Int),(0:Int)),(e0,(0:Int))),()),()))),()))) (fun(r:List an) (_:Unit)=>(jY zE (aL r x),())) (fun _ _=>True) (fun s _=>by refine ax Ur ?_;simp only[dO,cond_false];rfl) (fun i y r s hi hx hr _ ih=>by
   refine ax Ur ?_;simp only[bg hi,cond_true,aC hx,Option.bind_some,jl,aK hi (show d.2.length≤1073741824 by omega)];by_cases he:y.1=x
   ·simp only[he,decide_true,aN,aL,List.find?_cons];subst he;rfl
   ·simp only[he,decide_false,aN,aL,List.find?_cons];exact ih () trivial)
  () trivial
 exact Jf
theorem LC(hG:HG G)(d:ak)(x:ae)(hl:d.1.length≤100000000)(hr:∀v∈d.1,v.2.1.length≤100000000):FX G 124 wy ((d,x,()),())=some (jY zI (bJ d x),()):=by
 refine aB (hG _ _ rfl) ajy ?_;have Jf:=cp d.1 (fun i (_:Unit)=>LX G 124 wy Tryz.f124 Ec (aS Tryz.prog 124 0) ((i,()),(((d,()),((x,()),((((0:Int),(0:Int)),()),()))),()))) (fun r _=>(jY zI (EM r x),())) (fun _ _=>True) (fun s _=>by refine ax Uq ?_;simp only[dO,cond_false];rfl) (fun i y r s hi hx B6 _ ih=>by
   refine ax Uq ?_;simp only[bg hi,cond_true,aC hx,Option.bind_some,aK hi (show d.1.length≤1073741824 by omega)];refine aa (Jb (hG _ _ rfl) y.2.1 x (by have:=hr y (acd hx);omega)) ?_;by_cases he:x∈y.2.1
   ·have h1:idx x y.2.1 0≥0:=by obtain⟨k,h,_⟩:=eU he;omega
    simp only[h1,decide_true,EM,List.find?_cons,he];rfl
   ·have h1:¬idx x y.2.1 0≥0:=by have:=fS.2 he;omega
    simp only[h1,decide_false,EM,List.find?_cons,he];exact ih () trivial)
  () trivial
 exact Jf
theorem afK(hG:G 21 Gf=none)(d:ak)(hl:d.1.length≤100000000)(yV:d.2.length≤100000000)(hr:∀v∈d.1,v.2.1.length≤100000000):FX G 21 Gf ((d,()),())=some (((d.1,(d.2,())),()),()):=by refine aB hG ajL ?_;have h5:aU ([]:List an).length d.2.length=true:=fits (by simp;omega);simp only[h5,cond_true,List.nil_append];have Jf:=cp d.1 (fun i (out:List ai)=>LX G 21 Gf Tryz.f21 Ek (aS Tryz.prog 21 0) ((i,()),(((d,()),((([]:List ai),(([]:List an),())),((out,(d.2,())),()))),()))) (fun r s=>(((s++r,(d.2,())),()),())) (fun n s=>s.length+n≤d.1.length) (fun s _=>by refine ax UA ?_;simp only[dO,List.append_nil];rfl) (fun i y r s hi hx B6 hs ih=>by refine ax UA ?_;have h6:aU ([]:List ae).length y.2.1.length=true:=fits (by have:=hr y (acd hx);simp;omega);have h7:aU s.length [(y.1,(y.2.1,y.2.2))].length=true:=fits (by simp;omega);simp only[bg hi,aC hx,Option.bind_some,h6,List.nil_append,h7,aK hi (show d.1.length≤1073741824 by omega)];have:=ih (s++[y]) (by simp;omega);rw[List.append_assoc]at this;exact this) [] (by simp);exact Jf
def cr(v:ai):List ai→List ai
 |[]=>[v]
 |w::r=>if gm v.1 w.1 then v::w::r else w::cr v r
def bR(v:an):List an→List an
 |[]=>[v]
 |w::r=>if gm v.1 w.1 then v::w::r else w::bR v r
theorem ct(a:ID):gm a a=false:=by simp[gm]
theorem lB(a b:ID):rE a b<0↔gm a b=true:=by
 unfold rE;by_cases h:a=b
 ·subst h;simp[ct]
 ·rw[if_neg h];split<;>simp_all
theorem afL(hG:HG G)(d:ak)(v:ai)(hl:d.1.length≤100000000):FX G 80 IK ((d,v,()),())=some (((cr v d.1,d.2),()),()):=by
 refine aB (hG _ _ rfl) ajQ ?_;have key:=cp d.1 (fun i (s:Bool×List ai)=>LX G 80 IK Tryz.f80 wz (aS Tryz.prog 80 0) ((s.1,(i,())),(((d,()),((v,()),((([]:List ai),(([]:List an),())),((s.2,(d.2,())),())))),()))) (fun r s=>(((s.2++(if s.1 then r else cr v r),d.2),()),())) (fun n s=>s.2.length+n≤d.1.length+(if s.1 then 1 else 0))
  (fun s hs=>by
   obtain⟨put,s⟩:=s;refine ax UC ?_;have h7:aU s.length [v].length=true:=fits (by simp at hs ⊢;split at hs<;>omega)
   cases put
   ·simp only[dO,h7,cr];rfl
   ·simp only[dO,if_true,List.append_nil];rfl)
  (fun i y r s hi hx B6 hs ih=>by
   obtain⟨put,s⟩:=s;refine ax UC ?_;have h6:aU s.length [y].length=true:=fits (by simp at hs ⊢;split at hs<;>omega)
   cases put
   ·have h7:aU s.length [v].length=true:=fits (by simp at hs ⊢;omega);have h8:aU (s++[v]).length [y].length=true:=fits (by simp at hs ⊢;omega);simp only[bg hi,aC hx,Option.bind_some,aK hi (show d.1.length≤1073741824 by omega)];refine aa (Vz (hG _ _ rfl) v.1 y.1) ?_;by_cases ho:gm v.1 y.1=true
    ·have h9:=(lB _ _).2 ho;have:=ih (true,(s++[v])++[y]) (by simp at hs ⊢;omega);simp only[h9,decide_true,h7,h8,cr,ho,if_true,Bool.false_eq_true,if_false];exact this.trans (congrArg (fun l:List ai=>some (((l,d.2),()),())) (show((s++[v])++[y])++r=s++(v::y::r) by simp))
    ·have h9:¬rE v.1 y.1<0:=fun h=>ho ((lB _ _).1 h);have:=ih (false,s++[y]) (by simp at hs ⊢;omega);simp only[h9,decide_false,h6,cr,ho,if_false,Bool.false_eq_true];exact this.trans (congrArg (fun l:List ai=>some (((l,d.2),()),())) (show(s++[y])++cr v r=s++(y::cr v r) by simp))
   ·have:=ih (true,s++[y]) (by simp at hs ⊢;omega);simp only[bg hi,aC hx,Option.bind_some,aK hi (show d.1.length≤1073741824 by omega),h6,if_true];exact this.trans (congrArg (fun l:List ai=>some (((l,d.2),()),())) (show(s++[y])++r=s++(y::r) by simp)))
  (false,[]) (by simp)
 exact key
theorem afM(hG:HG G)(d:ak)(v:an)(hl:d.2.length≤100000000):FX G 115 BX ((d,v,()),())=some (((d.1,bR v d.2),()),()):=by
 refine aB (hG _ _ rfl) akf ?_;have key:=cp d.2 (fun i (s:Bool×List an)=>LX G 115 BX Tryz.f115 wA (aS Tryz.prog 115 0) ((s.1,(i,())),(((d,()),((v,()),((([]:List ai),(([]:List an),())),((d.1,(s.2,())),())))),()))) (fun r s=>(((d.1,s.2++(if s.1 then r else bR v r)),()),())) (fun n s=>s.2.length+n≤d.2.length+(if s.1 then 1 else 0))
  (fun s hs=>by
   obtain⟨put,s⟩:=s;refine ax US ?_;have h7:aU s.length [v].length=true:=fits (by simp at hs ⊢;split at hs<;>omega)
   cases put
   ·simp only[dO,h7,bR];rfl
   ·simp only[dO,if_true,List.append_nil];rfl)
  (fun i y r s hi hx B6 hs ih=>by
   obtain⟨put,s⟩:=s;refine ax US ?_;have h6:aU s.length [y].length=true:=fits (by simp at hs ⊢;split at hs<;>omega)
   cases put
   ·have h7:aU s.length [v].length=true:=fits (by simp at hs ⊢;omega);have h8:aU (s++[v]).length [y].length=true:=fits (by simp at hs ⊢;omega);simp only[bg hi,aC hx,Option.bind_some,aK hi (show d.2.length≤1073741824 by omega)];refine aa (Vz (hG _ _ rfl) v.1 y.1) ?_;by_cases ho:gm v.1 y.1=true
    ·have h9:=(lB _ _).2 ho;have:=ih (true,(s++[v])++[y]) (by simp at hs ⊢;omega);simp only[h9,decide_true,h7,h8,bR,ho,if_true,Bool.false_eq_true,if_false];exact this.trans (congrArg (fun l:List an=>some (((d.1,l),()),())) (show((s++[v])++[y])++r=s++(v::y::r) by simp))
    ·have h9:¬rE v.1 y.1<0:=fun h=>ho ((lB _ _).1 h);have:=ih (false,s++[y]) (by simp at hs ⊢;omega);simp only[h9,decide_false,h6,bR,ho,if_false,Bool.false_eq_true];exact this.trans (congrArg (fun l:List an=>some (((d.1,l),()),())) (show(s++[y])++bR v r=s++(y::bR v r) by simp))
   ·have:=ih (true,s++[y]) (by simp at hs ⊢;omega);simp only[bg hi,aC hx,Option.bind_some,aK hi (show d.2.length≤1073741824 by omega),h6,if_true];exact this.trans (congrArg (fun l:List an=>some (((d.1,l),()),())) (show(s++[y])++r=s++(y::r) by simp)))
  (false,[]) (by simp)
 exact key
def bE(l:List ai)(v:ID):List ai:=l.filter fun w=>decide (w.1≠v)
def bF(l:List an)(v:ID):List an:=l.filter fun w=>decide (w.1≠v)
def aF(d:ak)(v e:ID):ak:=(bE d.1 v,bF d.2 e)
theorem YE(hG:G 81 ru=none)(d:ak)(v e:ID)(hl:d.1.length≤100000000)(yV:d.2.length≤100000000):FX G 81 ru ((d,v,e,()),())=some ((aF d v e,()),()):=by
 refine aB hG ajR ?_;have RH:=fun vs=>cp d.2 (fun i (s:List an)=>LX G 81 ru Tryz.f81 zU (aS Tryz.prog 81 1) ((i,()),(((d,()),((e,()),((([]:List ai),(([]:List an),())),((vs,(s,())),())))),()))) (fun(r:List an) (s:List an)=>(((vs,s++bF r e),()),())) (fun n s=>s.length+n≤d.2.length) (fun s hs=>by refine ax UE ?_;simp only[dO,bE,bF,List.filter_nil,List.append_nil];rfl) (fun i y r s hi hx B6 hs ih=>by
   refine ax UE ?_;have h6:aU s.length [y].length=true:=fits (by simp at hs ⊢;omega);simp only[bg hi,aC hx,Option.bind_some,jl,aK hi (show d.2.length≤1073741824 by omega)];by_cases he:y.1=e
   ·simp only[he,decide_true,Bool.not_true,ne_eq,not_true_eq_false,decide_false,bE,bF,List.filter_cons,Bool.false_eq_true,if_false];exact ih s (by omega)
   ·simp only[he,decide_false,Bool.not_false,h6,ne_eq,not_false_eq_true,decide_true,bE,bF,List.filter_cons,if_true];have:=ih (s++[y]) (by simp;omega);rw[List.append_assoc]at this;exact this)
  [] (by simp)
 have Jf:=cp d.1 (fun i (s:List ai)=>LX G 81 ru Tryz.f81 zT (aS Tryz.prog 81 0) ((i,()),(((d,()),((v,()),((e,()),((([]:List ai),(([]:List an),())),((s,(([]:List an),())),()))))),()))) (fun(r:List ai) (s:List ai)=>(((s++bE r v,bF d.2 e),()),())) (fun n s=>s.length+n≤d.1.length) (fun s hs=>by refine ax UD ?_;simp only[dO,bE,bF,List.filter_nil,List.append_nil];exact RH s) (fun i y r s hi hx B6 hs ih=>by
   refine ax UD ?_;have h6:aU s.length [y].length=true:=fits (by simp at hs ⊢;omega);simp only[bg hi,aC hx,Option.bind_some,jl,aK hi (show d.1.length≤1073741824 by omega)];by_cases he:y.1=v
   ·simp only[he,decide_true,Bool.not_true,ne_eq,not_true_eq_false,decide_false,bE,bF,List.filter_cons,Bool.false_eq_true,if_false];exact ih s (by omega)
   ·simp only[he,decide_false,Bool.not_false,h6,ne_eq,not_false_eq_true,decide_true,bE,bF,List.filter_cons,if_true];have:=ih (s++[y]) (by simp;omega);rw[List.append_assoc]at this;exact this)
  [] (by simp)
 exact Jf
instance an5:DecidableEq (List ai):=@instDecidableEqList ai inferInstance
instance decLE:DecidableEq (List an):=@instDecidableEqList an inferInstance
instance aih:DecidableEq ak:=instDecidableEqProd
instance afN:DecidableEq StateT:=instDecidableEqProd
structure Sm(d:ak):Prop where
 v:d.1.length≤50000000
 e:d.2.length≤50000000
 r:∀w∈d.1,w.2.1.length≤50000000
def iM(x:ID)(l:List ae)(w:ai):ai:=if w.1=x then(w.1,(l,w.2.2)) else w
def b8(d:ak)(x:ID)(l:List ae):ak:=(d.1.map (iM x l),d.2)
theorem gr(i:Nat):decide ((0:Int)≤(i:Int))=true:=by simp
theorem yu{α:Type}(f:α→α)(l:List α)(i:Nat)(x:α)(hx:l[i]? = some x):((l.take i).map f++l.drop i).set i (f x)=(l.take (i+1)).map f++l.drop (i+1):=by have hi:=(aa9.1 hx).1;have h2:l.drop i=l[i]::l.drop (i+1):=ac4 hi;have h3:l[i]=x:=(aa9.1 hx).2;rw[List.set_append_right _ _ (by simp;omega),h2,List.length_map,List.length_take,Nat.min_eq_left (by omega),Nat.sub_self,List.set_cons_zero,List.take_add_one,hx];simp
theorem tE{α:Type}(f:α→α)(l:List α)(i:Nat)(x:α)(hx:l[i]? = some x)(hf:f x=x):(l.take i).map f++l.drop i=(l.take (i+1)).map f++l.drop (i+1):=by have hi:=(aa9.1 hx).1;have h2:l.drop i=l[i]::l.drop (i+1):=ac4 hi;have h3:l[i]=x:=(aa9.1 hx).2;rw[h2,h3,List.take_add_one,hx];simp[hf]
theorem Jg{α:Type}(f:α→α)(l:List α)(i:Nat)(x:α)(hx:l[i]? = some x):((l.take i).map f++l.drop i)[i]? = some x:=by have hi:=(aa9.1 hx).1;rw[List.getElem?_append_right (by simp;omega),List.length_map,List.length_take,Nat.min_eq_left (by omega),Nat.sub_self,List.getElem?_drop,Nat.add_zero,hx]
theorem abL(hG:HG G)(d:ak)(x:ID)(l:List ae)(hs:Sm d):FX G 145 Gj ((d,x,l,()),())=some ((b8 d x l,()),()):=by
 have hv:=hs.v;have he:=hs.e;refine aB (hG _ _ rfl) akD ?_;refine aa (afK (hG _ _ rfl) d (by omega) (by omega) (fun w hw=>by have:=hs.r w hw;omega)) ?_;have loop:∀(n i:Nat) (out fin:List ai),i+n=d.1.length→out=(d.1.take i).map (iM x l)++d.1.drop i→fin=d.1.map (iM x l) → LX G 145 Gj Tryz.f145 Ab (aS Tryz.prog 145 0) ((l,((i:Int),())),(((x,()),((([]:List ai),(([]:List an),())),((out,(d.2,())),()))),()))=some (((fin,d.2),()),()):=by
  intro n
  induction n with
  |zero =>
   intro i out fin hi ho hf;refine ax Va ?_;have hol:out.length=d.1.length:=by rw[ho];simp;omega
   have h1:¬((i:Int)<(out.length:Int)):=by omega
   have h2:out=fin:=by rw[ho,hf,List.take_of_length_le (by omega),List.drop_eq_nil_of_le (by omega),List.append_nil]
   subst h2;simp only[h1,decide_false];rfl
  |succ n ih =>
   intro i out fin hi ho hf;refine ax Va ?_;have hol:out.length=d.1.length:=by rw[ho];simp;omega
   have aH:i<d.1.length:=by omega
   have hx:d.1[i]? = some d.1[i]:=abb aH;have hg:out[i]? = some d.1[i]:=by rw[ho];exact Jg _ _ _ _ hx
   simp only[bg (show i<out.length by omega),gr,Bool.and_self,Int.toNat_natCast,hg,Option.bind_some,jl,aK aH (show d.1.length≤1073741824 by omega)];by_cases hq:d.1[i].1=x
   ·have e1:iM x l d.1[i]=(x,(l,d.1[i].2.2)):=by unfold iM;rw[if_pos hq,hq]
    simp only[hq,decide_true];exact ih (i+1) (out.set i (x,(l,d.1[i].2.2))) fin (by omega) (by rw[ho,←yu _ _ _ _ hx,e1]) hf
   ·have e1:iM x l d.1[i]=d.1[i]:=by unfold iM;rw[if_neg hq]
    simp only[hq,decide_false];exact ih (i+1) out fin (by omega) (by rw[ho];exact tE _ _ _ _ hx e1) hf
 exact loop d.1.length 0 d.1 (d.1.map (iM x l)) (by omega) (by simp) rfl
def aV(d:ak)(x:ID):List ae:=((aO d x).getD zV).2.1
theorem fz{α:Type}(z:α)(o:Option α):(jY z o).1=o.getD z:=by cases o<;>rfl
theorem iF{α:Type}(z:α)(o:Option α):(jY z o).2.1=o.isSome:=by cases o<;>rfl
theorem mX{d:ak}(hs:Sm d)(x:ID):(aV d x).length≤50000000:=by
 unfold aV
 cases h:aO d x with
 |none=>simp[zV]
 |some v=>exact hs.r v (acG h)
def br(d:ak)(c:ml)(x:ae):ak:=b8 d c.1 (gN (aV d c.1) c.2 x)
def az(d:ak)(dq x:ae):ak:=b8 d ((bJ d dq).getD zI) (dJ (aV d ((bJ d dq).getD zI)) dq x)
def av(d:ak)(x:ae):ak:=b8 d ((bJ d x).getD zI) (bz (aV d ((bJ d x).getD zI)) x)
theorem afO(hG:HG G)(d:ak)(c:ml)(x:ae)(hs:Sm d):FX G 116 BY ((d,c,x,()),())=some ((br d c x,()),()):=by have hv:=hs.v;have hr:=mX hs c.1;refine aB (hG _ _ rfl) akg ?_;refine aa (Gl (hG _ _ rfl) d c.1 (by omega)) ?_;rw[show(jY zV (aO d c.1)).1=(aO d c.1).getD zV from fz _ _];refine aa (afI hG (aV d c.1) c.2 x (by omega)) ?_;exact aa (abL hG d c.1 (gN (aV d c.1) c.2 x) hs) rfl
theorem afP(hG:HG G)(d:ak)(dq x:ae)(hs:Sm d):FX G 120 KX ((d,dq,x,()),())=some ((az d dq x,()),()):=by have hv:=hs.v;have hr:=mX hs ((bJ d dq).getD zI);refine aB (hG _ _ rfl) akk ?_;refine aa (LC hG d dq (by omega) (fun w hw=>by have:=hs.r w hw;omega)) ?_;rw[show(jY zI (bJ d dq)).1=(bJ d dq).getD zI from fz _ _];refine aa (Gl (hG _ _ rfl) d ((bJ d dq).getD zI) (by omega)) ?_;rw[show(jY zV (aO d ((bJ d dq).getD zI))).1=(aO d ((bJ d dq).getD zI)).getD zV from fz _ _];refine aa (afJ hG (aV d ((bJ d dq).getD zI)) dq x (by omega)) ?_;exact aa (abL hG d ((bJ d dq).getD zI) (dJ (aV d ((bJ d dq).getD zI)) dq x) hs) rfl
theorem afQ(hG:HG G)(d:ak)(x:ae)(hs:Sm d):FX G 119 Rq ((d,x,()),())=some ((av d x,()),()):=by have hv:=hs.v;have hr:=mX hs ((bJ d x).getD zI);refine aB (hG _ _ rfl) akj ?_;refine aa (LC hG d x (by omega) (fun w hw=>by have:=hs.r w hw;omega)) ?_;rw[show(jY zI (bJ d x)).1=(bJ d x).getD zI from fz _ _];refine aa (Gl (hG _ _ rfl) d ((bJ d x).getD zI) (by omega)) ?_;rw[show(jY zV (aO d ((bJ d x).getD zI))).1=(aO d ((bJ d x).getD zI)).getD zV from fz _ _];refine aa (afH hG (aV d ((bJ d x).getD zI)) x (by omega)) ?_;exact aa (abL hG d ((bJ d x).getD zI) (bz (aV d ((bJ d x).getD zI)) x) hs) rfl
def cC(row:List ae)(x:ae):ae:=(cU row x (row.length-1)).getD zD
theorem yv(o:Option ae):(BB o).1=o.getD zD:=by cases o<;>rfl
def dy(d:ak)(x:ae):ae :=
 let row:=aV d ((bJ d x).getD zI)
 let y:=cC row x
 let z:=if y.1=x.1 then cC row y else y
 if z.1=x.1 then zD else z
theorem afR(hG:HG G)(d:ak)(x:ae)(hs:Sm d):FX G 118 Rp ((d,x,()),())=some ((dy d x,()),()):=by
 have hv:=hs.v;have hr:=mX hs ((bJ d x).getD zI);refine aB (hG _ _ rfl) aki ?_;refine aa (LC hG d x (by omega) (fun w hw=>by have:=hs.r w hw;omega)) ?_;rw[show(jY zI (bJ d x)).1=(bJ d x).getD zI from fz _ _];refine aa (Gl (hG _ _ rfl) d ((bJ d x).getD zI) (by omega)) ?_;rw[show(jY zV (aO d ((bJ d x).getD zI))).1=(aO d ((bJ d x).getD zI)).getD zV from fz _ _];refine aa (afF hG (aV d ((bJ d x).getD zI)) x (by omega)) ?_;rw[show(BB (cU (aV d ((bJ d x).getD zI)) x ((aV d ((bJ d x).getD zI)).length-1))).1=cC (aV d ((bJ d x).getD zI)) x from yv _];unfold dy;obtain⟨y,hy⟩:∃y,y=cC (aV d ((bJ d x).getD zI)) x:=⟨_,rfl⟩;simp only[←hy,jl];by_cases h1:y.1=x.1
 ·have d1:=decide_eq_true h1;rw[if_pos h1];simp only[d1];refine aa (afF hG (aV d ((bJ d x).getD zI)) y (by omega)) ?_;rw[show(BB (cU (aV d ((bJ d x).getD zI)) y ((aV d ((bJ d x).getD zI)).length-1))).1=cC (aV d ((bJ d x).getD zI)) y from yv _];by_cases h2:(cC (aV d ((bJ d x).getD zI)) y).1=x.1
  ·have d2:=decide_eq_true h2;rw[if_pos h2];simp only[d2];rfl
  ·have d2:=decide_eq_false h2;rw[if_neg h2];simp only[d2];rfl
 ·have d1:=decide_eq_false h1;rw[if_neg h1,if_neg h1];simp only[d1];rfl
def iw(l:List aE)(d:ae):Option ae:=(l.find? fun g=>decide (g.1=d)).map (·.2)
theorem aaA(hG:G 147 vv=none)(l:List aE)(d:ae)(hl:l.length≤100000000):FX G 147 vv ((l,d,()),())=some (jY zD (iw l d),()):=by
 refine aB hG aei ?_;have key:=cp l (fun i (_:Unit)=>LX G 147 vv Tryz.f147 xU (aS Tryz.prog 147 0) ((l,(i,())),(((d,()),(((((0:Int),(0:Int)),(0:Int)),()),())),()))) (fun(r:List aE) (_:Unit)=>(jY zD (iw r d),())) (fun _ _=>True) (fun s _=>by refine ax O8 ?_;simp only[dO,cond_false];rfl) (fun i y r s hi hx hr _ ih=>by
   refine ax O8 ?_;simp only[bg hi,aC hx,Option.bind_some,lW,aK hi (show l.length≤1073741824 by omega)];by_cases he:y.1=d
   ·simp only[he,decide_true,iw,List.find?_cons];rfl
   ·simp only[he,decide_false,iw,List.find?_cons];exact ih () trivial)
  () trivial
 exact key
theorem ak7(hG:HG G)(a b:ak)(hs:Sm a):FX G 55 DV ((a,b,()),())=some ((decide (a=b),()),()):=by
 have hv:=hs.v;have he:=hs.e;refine aB (hG _ _ rfl) ajE ?_;by_cases hl:a.1.length=b.1.length
 case neg =>
  have h1:((((a.1.length:Nat):Int)) != ((b.1.length:Nat):Int))=true:=by simp;omega
  have h2:¬a=b:=fun e=>hl (by rw[e]);simp only[h1,h2,decide_false];rfl
 have h1:((((a.1.length:Nat):Int)) != ((b.1.length:Nat):Int))=false:=by simp[hl]
 simp only[h1];by_cases yV:a.2.length=b.2.length
 case neg =>
  have h1:((((a.2.length:Nat):Int)) != ((b.2.length:Nat):Int))=true:=by simp;omega
  have h2:¬a=b:=fun e=>yV (by rw[e]);simp only[h1,h2,decide_false];rfl
 have h2:((((a.2.length:Nat):Int)) != ((b.2.length:Nat):Int))=false:=by simp[yV]
 simp only[h2];have Ln:(a.1.zip b.1).length=a.1.length:=by simp[hl]
 have afS:(a.2.zip b.2).length=a.2.length:=by simp[yV]
 have RH:=cp (a.2.zip b.2) (fun i (_:Unit)=>LX G 55 DV Tryz.f55 Eh (aS Tryz.prog 55 1) ((i,()),(((a,()),((b,()),())),()))) (fun r _=>((r.all (fun p=>decide (p.1=p.2)),()),())) (fun _ _=>True) (fun s _=>by refine ax Uv ?_;rw[afS];simp only[dO];rfl) (fun i x r s hi hx hr _ ih=>by
   rw[afS]at hi;obtain⟨h3,h4⟩:=Jc hx;refine ax Uv ?_;simp only[bg hi,aC h3,aC h4,Option.bind_some,jl,Vy,aK hi (show a.2.length≤1073741824 by omega)];by_cases he:x.1=x.2
   ·simp only[he,decide_true,beq_self_eq_true,Bool.and_self,Bool.not_true,List.all_cons,Bool.true_and];exact ih () trivial
   ·have h9:(decide (x.1.1=x.2.1)&&(decide (x.1.2.1=x.2.2.1)&&(x.1.2.2==x.2.2.2)))=false:=by rw[Bool.eq_false_iff];intro h;simp at h;exact he (Prod.ext h.1 (Prod.ext h.2.1 h.2.2))
    simp only[he,h9,decide_false,Bool.not_false,List.all_cons,Bool.false_and];rfl)
  () trivial
 rw[CB a.2 b.2 yV]at RH;have key:=cp (a.1.zip b.1) (fun i (_:Unit)=>LX G 55 DV Tryz.f55 Eg (aS Tryz.prog 55 0) ((i,()),(((a,()),((b,()),())),()))) (fun r _=>((r.all (fun p=>decide (p.1=p.2))&&decide (a.2=b.2),()),())) (fun _ _=>True) (fun s _=>by refine ax Uu ?_;rw[Ln];simp only[dO,List.all_nil,Bool.true_and];exact RH) (fun i x r s hi hx hr _ ih=>by
   rw[Ln]at hi;obtain⟨h3,h4⟩:=Jc hx;refine ax Uu ?_;simp only[bg hi,aC h3,aC h4,Option.bind_some,jl,Vy,aK hi (show a.1.length≤1073741824 by omega)];refine aa (afE hG x.1.2.1 x.2.2.1 (by have:=hs.r x.1 (acd h3);omega)) ?_;by_cases e1:x.1.1=x.2.1
   case neg =>
    have he:¬x.1=x.2:=fun e=>e1 (by rw[e]);have d1:=decide_eq_false e1;simp only[d1,he,decide_false,List.all_cons,Bool.false_and];rfl
   have d1:=decide_eq_true e1;by_cases e2:x.1.2.2.1=x.2.2.2.1
   case neg =>
    have he:¬x.1=x.2:=fun e=>e2 (by rw[e]);have d2:=decide_eq_false e2;simp only[d1,d2,he,decide_false,List.all_cons,Bool.false_and];rfl
   have d2:=decide_eq_true e2;by_cases e3:x.1.2.2.2=x.2.2.2.2
   case neg =>
    have he:¬x.1=x.2:=fun e=>e3 (by rw[e]);have h8:(x.1.2.2.2 != x.2.2.2.2)=true:=by simp[e3]
    simp only[d1,d2,h8,he,decide_false,List.all_cons,Bool.false_and];rfl
   have h8:(x.1.2.2.2 != x.2.2.2.2)=false:=by simp[e3]
   by_cases e4:x.1.2.1=x.2.2.1
   case neg =>
    have he:¬x.1=x.2:=fun e=>e4 (by rw[e]);have d4:=decide_eq_false e4;simp only[d1,d2,h8,d4,he,decide_false,List.all_cons,Bool.false_and];rfl
   have d4:=decide_eq_true e4;have he:decide (x.1=x.2)=true:=decide_eq_true (Prod.ext e1 (Prod.ext e4 (Prod.ext e2 e3)));simp only[d1,d2,h8,d4,he,List.all_cons,Bool.true_and];exact ih () trivial)
  () trivial
 rw[CB a.1 b.1 hl]at key;have jX:(decide (a.1=b.1)&&decide (a.2=b.2))=decide (a=b):=by rw[Bool.eq_iff_iff];simp[Prod.ext_iff]
 exact key.trans (congrArg (fun b:Bool=>some ((b,()),())) jX)
def pN(g:aE)(l:List aE):List aE:=l.filter fun q=>decide (q.1≠g.1)
def mM(g:aE):List aE→List aE
 |[]=>[g]
 |e::r=>if n8 g.1 e.1≤0 then g::pN g (e::r) else if e.1≠g.1 then e::mM g r else mM g r
def bM(l:List aE)(g:aE):List aE:=if(iw l g.1).isSome=false∧400≤l.length then l else mM g l
def RI(g:aE)(put:Bool)(r:List aE):List aE:=if put then pN g r else mM g r
theorem afT(hG:HG G)(l:List aE)(g:aE)(hl:l.length≤50000000) :
  LX G 117 BZ Tryz.f117 mr (aS Tryz.prog 117 0) ((l,(false,((0:Int),()))),(((g,()),()),(([]:List aE),())))=some ((mM g l,()),()):=by
 have key:=cp l (fun i (s:Bool×List aE)=>LX G 117 BZ Tryz.f117 mr (aS Tryz.prog 117 0) ((l,(s.1,(i,()))),(((g,()),()),(s.2,())))) (fun(r:List aE) (s:Bool×List aE)=>((s.2++RI g s.1 r,()),())) (fun n s=>s.2.length+n≤l.length+(if s.1 then 1 else 0))
  (fun s hs=>by
   obtain⟨put,s⟩:=s;refine ax UT ?_;have h7:aU s.length [g].length=true:=fits (by simp at hs ⊢;split at hs<;>omega)
   cases put
   ·simp only[dO,h7,RI,mM];rfl
   ·simp only[dO,RI,if_true,pN,List.filter_nil,List.append_nil];rfl)
  (fun i y r s hi hx B6 hs ih=>by
   obtain⟨put,s⟩:=s;refine ax UT ?_;have h6:aU s.length [y].length=true:=fits (by simp at hs ⊢;split at hs<;>omega);have hw:=aK hi (show l.length≤1073741824 by omega)
   cases put
   ·have h7:aU s.length [g].length=true:=fits (by simp at hs ⊢;omega);have h8:aU (s++[g]).length [y].length=true:=fits (by simp at hs ⊢;omega);simp only[bg hi,aC hx,Option.bind_some,hw];refine aa (YD hG g.1 y.1) ?_;by_cases ho:n8 g.1 y.1≤0
    ·have d0:=decide_eq_true ho;by_cases hy:y.1=g.1
     ·have d1:=decide_eq_true hy;have:=ih (true,s++[g]) (by simp at hs ⊢;omega);simp only[d0,h7,lW,d1,RI,mM,ho,if_true,Bool.false_eq_true,if_false];refine this.trans (congrArg (fun l:List aE=>some ((l,()),())) ?_);simp[RI,pN,hy]
     ·have d1:=decide_eq_false hy;have:=ih (true,(s++[g])++[y]) (by simp at hs ⊢;omega);simp only[d0,h7,h8,lW,d1,RI,mM,ho,if_true,Bool.false_eq_true,if_false];refine this.trans (congrArg (fun l:List aE=>some ((l,()),())) ?_);simp[RI,pN,hy]
    ·have d0:=decide_eq_false ho;by_cases hy:y.1=g.1
     ·have d1:=decide_eq_true hy;have:=ih (false,s) (by simp at hs ⊢;omega);simp only[d0,lW,d1,RI,mM,ho,Bool.false_eq_true,if_false];refine this.trans (congrArg (fun l:List aE=>some ((l,()),())) ?_);simp[RI,hy]
     ·have d1:=decide_eq_false hy;have:=ih (false,s++[y]) (by simp at hs ⊢;omega);simp only[d0,h6,lW,d1,RI,mM,ho,Bool.false_eq_true,if_false];refine this.trans (congrArg (fun l:List aE=>some ((l,()),())) ?_);simp[RI,hy]
   ·by_cases hy:y.1=g.1
    ·have d1:=decide_eq_true hy;have:=ih (true,s) (by simp at hs ⊢;omega);simp only[bg hi,aC hx,Option.bind_some,hw,lW,d1];refine this.trans (congrArg (fun l:List aE=>some ((l,()),())) ?_);simp[RI,pN,hy]
    ·have d1:=decide_eq_false hy;have:=ih (true,s++[y]) (by simp at hs ⊢;omega);simp only[bg hi,aC hx,Option.bind_some,hw,lW,d1,h6];refine this.trans (congrArg (fun l:List aE=>some ((l,()),())) ?_);simp[RI,pN,hy])
  (false,[]) (by simp)
 exact key
theorem YF(hG:HG G)(l:List aE)(g:aE)(hl:l.length≤50000000):FX G 117 BZ ((l,g,()),())=some ((bM l g,()),()):=by
 refine aB (hG _ _ rfl) akh ?_;refine aa (aaA (hG _ _ rfl) l g.1 (by omega)) ?_;rw[show(jY zD (iw l g.1)).2.1=(iw l g.1).isSome from iF _ _];unfold bM
 cases hf:(iw l g.1).isSome
 ·by_cases hn:400≤l.length
  ·have h1:decide (((l.length:Nat):Int)≥400)=true:=by simp;omega
   rw[if_pos ⟨rfl,hn⟩];simp only[h1];rfl
  ·have h1:decide (((l.length:Nat):Int)≥400)=false:=by simp;omega
   rw[if_neg (by simp[hn])];simp only[h1];exact afT hG l g hl
 ·rw[if_neg (by simp)];exact afT hG l g hl
def res(d:ak)(gn:List aE):Nat→ae→ae
 |0,_=>zD
 |n+1,x=>if(bJ d x).isSome then x else match iw gn x with
  |none=>zD
  |some y=>res d gn n y
def resolve(s:StateT)(x:ae):ae:=res s.1 s.2 (s.2.length+1) x
theorem ak8(hG:HG G)(s:StateT)(x:ae)(hs:Sm s.1)(hg:s.2.length≤50000000):FX G 143 K0 ((s,x,()),())=some ((resolve s x,()),()):=by
 refine aB (hG _ _ rfl) akC ?_;have hv:=hs.v;have loop:∀(n i:Nat) (y:ae),i+n=s.2.length+1→LX G 143 K0 Tryz.f143 Ew (aS Tryz.prog 143 0) (((i:Int),()),((s,()),((y,()),(((((0:Int),(0:Int)),(0:Int)),()),()))),())=some ((res s.1 s.2 n y,()),()):=by
  intro n
  induction n with
  |zero =>
   intro i y hi;refine ax U9 ?_;have h1:decide ((i:Int)≤((s.2.length:Nat):Int))=false:=by simp;omega
   simp only[h1];rfl
  |succ n ih =>
   intro i y hi;refine ax U9 ?_;have h1:decide ((i:Int)≤((s.2.length:Nat):Int))=true:=by simp;omega
   have hw:IntKind.wrap .i64 ((i:Int)+1)=((i+1:Nat):Int):=by rw[wrap_small (by omega) (by omega)];rfl
   simp only[h1,hw];refine aa (LC hG s.1 y (by omega) (fun w hw=>by have:=hs.r w hw;omega)) ?_;rw[show(jY zI (bJ s.1 y)).2.1=(bJ s.1 y).isSome from iF _ _,res]
   cases ha:(bJ s.1 y).isSome
   ·simp only[Bool.false_eq_true,if_false];refine aa (aaA (hG _ _ rfl) s.2 y (by omega)) ?_
    cases hf:iw s.2 y with
    |none=>rfl
    |some z=>exact ih (i+1) z (by omega)
   ·rfl
 exact loop (s.2.length+1) 0 x (by omega)
def zC:ml:=(zI,zD)
def mN(s:StateT)(c:ml)(v:ai):ae:=if resolve s c.2∈v.2.1 then resolve s c.2 else zD
def aR(s:StateT)(c:ml):ml×(Int×Unit):=match aO s.1 c.1 with
 |none=>(zC,(13,()))
 |some v=>((c.1,mN s c v),(0,()))
theorem afU(hG:HG G)(s:StateT)(c:ml)(hs:Sm s.1)(hg:s.2.length≤50000000):FX G 114 Ro ((s,c,()),())=some (aR s c,()):=by
 have hv:=hs.v;refine aB (hG _ _ rfl) ake ?_;refine aa (Gl (hG _ _ rfl) s.1 c.1 (by omega)) ?_;unfold aR
 cases hf:aO s.1 c.1 with
 |none=>rfl
 |some v =>
  have hr:v.2.1.length≤50000000:=hs.r v (acG hf);refine aa (ak8 hG s c.2 hs hg) ?_;refine aa (Jb (hG _ _ rfl) v.2.1 (resolve s c.2) (by omega)) ?_;by_cases hm:resolve s c.2∈v.2.1
  ·have h1:decide (idx (resolve s c.2) v.2.1 0<0)=false:=decide_eq_false (fun h=>fS.1 h hm);have h2:mN s c v=resolve s c.2:=if_pos hm;simp only[h1];exact congrArg (fun z:ae=>some (((c.1,z),((0:Int),())),())) h2.symm
  ·have h1:decide (idx (resolve s c.2) v.2.1 0<0)=true:=decide_eq_true (fS.2 hm);have h2:mN s c v=zD:=if_neg hm;simp only[h1];exact congrArg (fun z:ae=>some (((c.1,z),((0:Int),())),())) h2.symm
def ah(x:ae):ae:=(x.1,IntKind.wrap .i64 (1-x.2))
def kH(d:ak)(x:ae):Option ae:=match bJ d x with
 |none=>none
 |some a=>cU (aV d a) x 1
theorem ak9(hG:HG G)(d:ak)(x:ae)(hs:Sm d):FX G 234 Uh ((d,x,()),())=some (BB (kH d x),()):=by
 have hv:=hs.v;refine aB (hG _ _ rfl) akm ?_;refine aa (LC hG d x (by omega) (fun w hw=>by have:=hs.r w hw;omega)) ?_;unfold kH
 cases ha:bJ d x with
 |none=>rfl
 |some a =>have hr:=mX hs a;refine aa (Gl (hG _ _ rfl) d a (by omega)) ?_;rw[show(jY zV (aO d a)).1=(aO d a).getD zV from fz _ _];exact aa (afG hG (aV d a) x (by omega)) rfl
def JX(d:ak)(x:ae):Option ae:=if(bJ d x).isSome then kH d (ah x) else none
theorem afV(hG:HG G)(d:ak)(x:ae)(hs:Sm d):FX G 216 Rl ((d,x,()),())=some (BB (JX d x),()):=by
 have hv:=hs.v;refine aB (hG _ _ rfl) ajX ?_;refine aa (LC hG d x (by omega) (fun w hw=>by have:=hs.r w hw;omega)) ?_;rw[show(jY zI (bJ d x)).2.1=(bJ d x).isSome from iF _ _];unfold JX
 cases ha:(bJ d x).isSome
 ·rfl
 ·refine aa (abI (hG _ _ rfl) x) ?_;exact aa (ak9 hG d (ah x) hs) rfl
def tF(d:ak)(x:ae):Nat→ae→List ae→List ae
 |0,_,out=>out
 |n+1,y,out=>if y=x then out else tF d x n ((JX d y).getD zD) (out++[y])
def bw(d:ak)(x:ae):List ae:=match JX d x with
 |none=>[]
 |some y=>tF d x 81 y [x]
theorem ala(hG:HG G)(d:ak)(x:ae)(hs:Sm d):FX G 192 KQ ((d,x,()),())=some ((bw d x,()),()):=by
 refine aB (hG _ _ rfl) ajA ?_;refine aa (afV hG d x hs) ?_;unfold bw
 cases hp:JX d x with
 |none=>rfl
 |some y =>
  have h5:aU ([]:List ae).length [x].length=true:=fits (by simp);have loop:∀(n:Nat) (y:ae) (out:List ae),out.length+n=82→LX G 192 KQ Tryz.f192 Ee (aS Tryz.prog 192 0) ((),((d,()),((x,()),((y,()),()))),(out,()))=some ((tF d x n y out,()),()):=by
   intro n
   induction n with
   |zero =>
    intro y out ho;refine ax Us ?_;have h1:decide (((out.length:Nat):Int)<82)=false:=by simp;omega
    simp only[lW,h1];by_cases hy:y=x
    ·have d1:=decide_eq_true hy;simp only[d1];rfl
    ·have d1:=decide_eq_false hy;simp only[d1];rfl
   |succ n ih =>
    intro y out ho;refine ax Us ?_;have h1:decide (((out.length:Nat):Int)<82)=true:=by simp;omega
    have h6:aU out.length [y].length=true:=fits (by simp;omega);simp only[lW,h1,h6];rw[tF];by_cases hy:y=x
    ·have d1:=decide_eq_true hy;rw[if_pos hy];simp only[d1];rfl
    ·have d1:=decide_eq_false hy;rw[if_neg hy];simp only[d1];refine aa (afV hG d y hs) ?_;rw[show(BB (JX d y)).1=(JX d y).getD zD from yv _];exact ih ((JX d y).getD zD) (out++[y]) (by simp;omega)
  exact loop 81 y [x] (by simp)
theorem Hi(d:ak)(x:ae):∀(n:Nat) (y:ae) (out:List ae),(tF d x n y out).length≤out.length+n
 |0,_,out=>aci _
 |n+1,y,out=>by
  unfold tF
  split
  ·omega
  ·have:=Hi d x n ((JX d y).getD zD) (out++[y]);simp at this;omega
theorem Hj(d:ak)(x:ae):(bw d x).length≤82:=by
 unfold bw
 cases JX d x with
 |none=>simp
 |some y=>have:=Hi d x 81 y [x];simpa using this
def fT:List an→List ae
 |[]=>[]
 |e::r=>(e.1,0)::(e.1,1)::fT r
theorem oa:∀l:List an,(fT l).length=2*l.length
 |[]=>rfl
 |e::r=>by simp[fT,oa r];omega
theorem alb(hG:G 191 IM=none)(d:ak)(hs:Sm d):FX G 191 IM ((d,()),())=some ((fT d.2,()),()):=by have he:=hs.e;refine aB hG aj2 ?_;have key:=cp d.2 (fun i (s:List ae)=>LX G 191 IM Tryz.f191 Es (aS Tryz.prog 191 0) ((i,()),(((d,()),()),(s,())))) (fun(r:List an) (s:List ae)=>((s++fT r,()),())) (fun n s=>s.length+2*n≤2*d.2.length) (fun s _=>by refine ax UO ?_;simp only[dO,fT,List.append_nil];rfl) (fun i y r s hi hx B6 hs ih=>by refine ax UO ?_;have h6:aU s.length [((y.1,(0:Int)):ae),(y.1,(1:Int))].length=true:=fits (by simp;omega);simp only[bg hi,aC hx,Option.bind_some,h6,aK hi (show d.2.length≤1073741824 by omega)];have:=ih (s++[(y.1,0),(y.1,1)]) (by simp;omega);refine this.trans (congrArg (fun l:List ae=>some ((l,()),())) ?_);simp[fT]) [] (by simp);exact key
def ju(d:ak):List ae→List (List ae)→List ae→List (List ae)
 |[],out,_=>out
 |x::r,out,told=>if x∈told then ju d r out told else ju d r (out++[bw d x]) (told++bw d x)
def b5(d:ak):List (List ae):=ju d (fT d.2) [] []
theorem alc(hG:HG G)(d:ak)(hs:Sm d)(he:d.2.length≤5000000):FX G 164 KR ((d,()),())=some ((b5 d,()),()):=by
 refine aB (hG _ _ rfl) ajI ?_;refine aa (alb (hG _ _ rfl) d hs) ?_;have SO:=oa d.2;unfold b5;generalize fT d.2=ds at *;have key:=cp ds (fun i (s:List (List ae)×List ae)=>LX G 164 KR Tryz.f164 zQ (aS Tryz.prog 164 0) ((i,()),(((d,()),()),(s.1,(s.2,(ds,())))))) (fun(r:List ae) (s:List (List ae)×List ae)=>((ju d r s.1 s.2,()),())) (fun n s=>s.1.length+n≤ds.length∧s.2.length+82*n≤82*ds.length) (fun s _=>by refine ax Ux ?_;simp only[dO];rfl) (fun i y r s hi hx B6 hs' ih=>by
   obtain⟨out,told⟩:=s;obtain⟨b1,b2⟩:=hs';simp only at b1 b2;refine ax Ux ?_;simp only[bg hi,gr,Bool.and_self,Int.toNat_natCast,hx,Option.bind_some,aK hi (show ds.length≤1073741824 by omega)];refine aa (Jb (hG _ _ rfl) told y (by omega)) ?_;rw[ju];by_cases hm:y∈told
   ·have d1:decide (idx y told 0≥0)=true:=decide_eq_true (by obtain⟨k,h,_⟩:=eU hm;omega);rw[if_pos hm];simp only[d1];exact ih (out,told) ⟨by simp only;omega,by simp only;omega⟩
   ·have d1:decide (idx y told 0≥0)=false:=decide_eq_false (by have:=fS.2 hm;omega);rw[if_neg hm];simp only[d1];refine aa (ala hG d y hs) ?_;have htl:=Hj d y;have h6:aU out.length [bw d y].length=true:=fits (by simp;omega);have h7:aU told.length (bw d y).length=true:=fits (by omega);simp only[h6,h7];exact ih (out++[bw d y],told++bw d y) ⟨by simp;omega,by simp;omega⟩)
  ([],[]) ⟨by simp,by simp⟩
 exact key
end Go.Vs
