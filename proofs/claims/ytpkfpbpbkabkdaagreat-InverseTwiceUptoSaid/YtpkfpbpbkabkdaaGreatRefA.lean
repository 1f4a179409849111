/- What the document's reference -/
import Derived.Test.YtpkfpbpbkabkdaaGreatNormalA
import Derived.Test.YtpkfpbpbkabkdaaGreatNormalB
import Derived.Test.YtpkfpbpbkabkdaaGreatNormalC
set_option linter.unusedVariables false
set_option linter.unusedSimpArgs false
namespace Go.Vs
open Go.Proofs
variable {G:(f:FuncId)→(g:aX)→Option (g.A→Option g.B)}
theorem aa{α β:Type}{o:Option α}{f:α→Option β}{a:α}{r:Option β}(h:o=some a)(k:f a=r):o.bind f=r:=by rw[h];exact k
theorem aC{α:Type}{l:List α}{i:Nat}{x:α}(h:l[i]? = some x):bh l (i:Int)=some x:=by have hl:=(aa2.1 h).1;simp[bh,h]
theorem wrap_small{n:Int}(h0 : -9223372036854775808≤n)(h1:n<9223372036854775808):IntKind.wrap .i64 n=n:=by unfold IntKind.wrap;simp[IntKind.bits,IntKind.signed];omega
theorem aI{i n:Nat}(h:i<n)(hn:n≤1073741824):IntKind.wrap .i64 ((i:Int)+1)=((i+1:Nat):Int):=by rw[wrap_small (by omega) (by omega)];rfl
theorem ba{i n:Nat}(h:i<n):decide ((i:Int)<((n:Nat):Int))=true:=by simpa using h
theorem dR(n:Nat):decide (((n:Nat):Int)<((n:Nat):Int))=false:=by simp
theorem fits{n m:Nat}(h:n+m≤1073741824):aU n m=true:=decide_eq_true h
theorem jl(a b:ID):((a.1==b.1)&&(a.2==b.2))=decide (a=b):=by obtain⟨a1,a2⟩:=a;obtain⟨b1,b2⟩:=b;rw[Bool.eq_iff_iff];simp
theorem lW(a b:ae):(((a.1.1==b.1.1)&&(a.1.2==b.1.2))&&(a.2==b.2))=decide (a=b):=by obtain⟨⟨a1,a2⟩,a3⟩:=a;obtain⟨⟨b1,b2⟩,b3⟩:=b;rw[Bool.eq_iff_iff];simp[and_assoc]
theorem VI(a b:ByteArray):(a==b)=decide (a=b):=by obtain⟨a⟩:=a;obtain⟨b⟩:=b;show(a==b)=_;rw[Bool.eq_iff_iff];simp
theorem cq{α S R:Type}(l:List α)(L:Int→S→Option R)(g:List α→S→R)(inv:Nat→S→Prop) (alf:∀s,inv 0 s→L ((l.length:Nat):Int) s=some (g [] s)) (afK:∀(i:Nat) (x:α) (r:List α) (s:S),i<l.length→l[i]? = some x→i+r.length+1=l.length→inv (r.length+1) s→(∀s',inv r.length s'→L ((i+1:Nat):Int) s'=some (g r s'))→L (i:Int) s=some (g (x::r) s)) :
  ∀s,inv l.length s→L 0 s=some (g l s):=by
 have key:∀(r p:List α),p++r=l→∀s,inv r.length s→L ((p.length:Nat):Int) s=some (g r s):=by
  intro r
  induction r with
  |nil=>intro p hp s hs;rw[List.append_nil]at hp;subst hp;exact alf s hs
  |cons x r ih =>
   intro p hp s hs;refine afK p.length x r s ?_ ?_ ?_ hs (fun s' hs' => ?_)
   ·rw[←hp];simp
   ·rw[←hp];simp
   ·rw[←hp];simp;omega
   ·have:=ih (p++[x]) (by simp[hp]) s' hs';simpa using this
 intro s hs;exact key l [] rfl s hs
def zD:ae:=((0,0),0)
def cz(x:ID):Bool:=decide (1≤x.1∧x.1≤8∧1≤x.2∧x.2≤1048576)
def gm(a b:ID):Bool:=decide (a.1<b.1∨(a.1=b.1∧a.2<b.2))
def rH(a b:ID):Int:=if a=b then 0 else if gm a b then -1 else 1
def lA(a b:ae):Bool:=gm a.1 b.1 || (decide (a.1=b.1)&&decide (a.2<b.2))
def oc(a b:ae):Int:=if a=b then 0 else if lA a b then -1 else 1
def Je(d:ae):Bool:=cz d.1&&decide (d.2=0∨d.2=1)
theorem Gt(hG:G 87 BZ=none)(x:ID):FX G 87 BZ ((x,()),())=some ((cz x,()),()):=by refine aB hG ajJ ?_;obtain⟨a,b⟩:=x;show(cond (decide (a≥1)) (cond (decide (a≤8)) (cond (decide (b≥1)) (some ((decide (b≤1048576),()),())) (some ((false,()),()))) (some ((false,()),()))) (some ((false,()),())):Option ((Bool×Unit)×Unit))=some ((cz (a,b),()),());unfold cz;simp only[cond_eq_ite];by_cases h1:(1:Int)≤a<;>by_cases h2:a≤8<;>by_cases h3:(1:Int)≤b<;>simp[h1,h2,h3]
theorem abP(hG:G 121 Gl=none)(d:ae):FX G 121 Gl ((d,()),())=some (((d.1,IntKind.wrap .i64 (1-d.2)),()),()) :=aB hG ajN rfl
theorem VJ(hG:G 105 IV=none)(a b:ID):FX G 105 IV ((a,b,()),())=some ((rH a b,()),()):=by refine aB hG akp ?_;obtain⟨a1,a2⟩:=a;obtain⟨b1,b2⟩:=b;unfold rH gm;show(cond ((a1==b1)&&(a2==b2)) (some (((0:Int),()),())) (cond (decide (a1<b1)) (some (((-1:Int),()),())) (cond (a1==b1) (cond (decide (a2<b2)) (some (((-1:Int),()),())) (some (((1:Int),()),()))) (some (((1:Int),()),())))):Option ((Int×Unit)×Unit))=some (((if(a1,a2)=(b1,b2) then 0 else if(decide (a1<b1∨(a1=b1∧a2<b2)))=true then -1 else 1:Int),()),());by_cases h1:a1=b1<;>by_cases h2:a2=b2<;>by_cases h3:a1<b1<;>by_cases h4:a2<b2<;>first|(exfalso;omega)|(simp only[cond_eq_ite];simp[h1,h2,h3,h4];done)|(subst h1;simp only[cond_eq_ite];simp[h2,h4])
theorem YM(hG:HG G)(a b:ae):FX G 71 NF ((a,b,()),())=some ((oc a b,()),()):=by
 refine aB (hG _ _ rfl) akh ?_;refine aa (VJ (hG _ _ rfl) a.1 b.1) ?_;obtain⟨a1,a2⟩:=a;obtain⟨b1,b2⟩:=b;show(cond (rH a1 b1 != 0) (some ((rH a1 b1,()),())) (cond (decide (a2<b2)) (some (((-1:Int),()),())) (cond (decide (a2>b2)) (some (((1:Int),()),())) (some (((0:Int),()),())))):Option ((Int×Unit)×Unit))=some ((oc (a1,a2) (b1,b2),()),());unfold oc lA rH;simp only[cond_eq_ite];by_cases h1:a1=b1
 ·subst h1;have hl:gm a1 a1=false:=by simp[gm]
  by_cases h2:a2=b2
  ·subst h2;simp
  ·by_cases h3:a2<b2
   ·simp[h2,h3,hl]
   ·have:a2>b2:=by omega
    simp[h2,h3,hl,this]
 ·by_cases h2:gm a1 b1=true<;>simp[h1,h2]
theorem alh(hG:HG G)(d:ae):FX G 123 Ut ((d,()),())=some ((Je d,()),()):=by refine aB (hG _ _ rfl) akN ?_;refine aa (Gt (hG _ _ rfl) d.1) ?_;obtain⟨d1,d2⟩:=d;show(cond (cz d1) (cond (d2==0) (some ((true,()),())) (some (((d2==1),()),()))) (some ((false,()),())):Option ((Bool×Unit)×Unit))=some ((Je (d1,d2),()),());unfold Je;simp only[cond_eq_ite];by_cases h1:cz d1=true<;>by_cases h2:d2=0<;>simp[h1,h2];rw[Bool.eq_iff_iff];simp
def idx(d:ae):List ae→Int→Int
 |[],_ => -1
 |e::r,i=>if e=d then i else idx d r (i+1)
theorem ali(row:List ae)(d:ae)(hl:row.length≤1073741824):∀(n i:Nat),i+n=row.length→LX G 144 tn Tryz.f144 Em (aS Tryz.prog 144 0) ((row,((i:Int),())),(((d,()),()),()))=some ((idx d (row.drop i) i,()),()):=by
 intro n
 induction n with
 |zero =>
  intro i hi;refine aw UC ?_;have h1:¬((i:Int)<(row.length:Int)):=by omega
  have h2:row.drop i=[]:=adB (by omega);simp only[h1,h2,decide_false,cond_false,idx];rfl
 |succ n ih =>
  intro i hi;refine aw UC ?_;have aG:i<row.length:=by omega
  have h1:((i:Int)<(row.length:Int)):=by omega
  have h2:row.drop i=row[i]::row.drop (i+1):=ac8 aG;have h3:bh row (i:Int)=some row[i]:=by simp[bh,aG]
  have h4:IntKind.wrap .i64 ((i:Int)+1)=((i+1:Nat):Int):=by rw[wrap_small (by omega) (by omega)];rfl
  have h5:=ih (i+1) (by omega);rw[h2,idx];simp only[h1,decide_true,cond_true,h3,Option.bind_some,h4,lW];by_cases he:row[i]=d
  ·rw[if_pos he];simp only[he,decide_true];rfl
  ·rw[if_neg he];simp only[he,decide_false];exact h5
theorem Jf(hG:G 144 tn=none)(row:List ae)(d:ae)(hl:row.length≤1073741824):FX G 144 tn ((row,d,()),())=some ((idx d row 0,()),()):=by refine aB hG ajO ?_;exact ali (G:=G) row d hl row.length 0 (by omega)
theorem qB(d:ae):∀(row:List ae) (i:Int),0≤i→(idx d row i = -1∧d∉row)∨(∃k:Nat,idx d row i=i+k∧row[k]? = some d∧d∉row.take k)
 |[],i,_=>.inl ⟨rfl,by simp⟩
 |e::r,i,h=>by
  unfold idx;by_cases he:e=d
  ·right;exact⟨0,by simp[he],by simp[he],by simp⟩
  ·rw[if_neg he];rcases qB d r (i+1) (by omega) with⟨h1,h2⟩|⟨k,h1,h2,h3⟩
   ·exact .inl ⟨h1,by simp[h2,Ne.symm he]⟩
   ·exact .inr ⟨k+1,by rw[h1];omega,by simpa using h2,by simp[h3,Ne.symm he]⟩
theorem fS{d:ae}{row:List ae}:idx d row 0<0↔d∉row:=by
 rcases qB d row 0 (by omega) with⟨h1,h2⟩|⟨k,h1,h2,_⟩
 ·simp[h1,h2]
 ·have:=ab6 h2;simp[this];omega
theorem eU{d:ae}{row:List ae}(h:d∈row):∃k:Nat,idx d row 0=k∧row[k]? = some d∧d∉row.take k:=by
 rcases qB d row 0 (by omega) with⟨_,h2⟩|⟨k,h1,h2,h3⟩
 ·exact absurd h h2
 ·exact⟨k,by omega,h2,h3⟩
theorem CH{α:Type}[DecidableEq α]:∀(a b:List α),a.length=b.length→(a.zip b).all (fun p=>decide (p.1=p.2))=decide (a=b)
 |[],[],_=>by simp
 |[],_::_,h=>by simp at h
 |_::_,[],h=>by simp at h
 |x::a,y::b,h=>by simp only[List.zip_cons_cons,List.all_cons,CH a b (by simpa using h)];rw[Bool.eq_iff_iff];simp
theorem Jg{α:Type}{a b:List α}{i:Nat}{x:α×α}(h:(a.zip b)[i]? = some x):a[i]? = some x.1∧b[i]? = some x.2:=by obtain⟨x1,x2⟩:=x;exact List.getElem?_zip_eq_some.1 h
theorem afL(hG:HG G)(a b:List ae)(ha:a.length≤1073741824):FX G 98 IQ ((a,b,()),())=some ((decide (a=b),()),()):=by
 refine aB (hG _ _ rfl) akc ?_;by_cases hl:a.length=b.length
 case neg =>
  have h1:((((a.length:Nat):Int)) != ((b.length:Nat):Int))=true:=by simp;omega
  have h2:¬a=b:=fun e=>hl (by rw[e]);simp only[h1,h2,decide_false];rfl
 have h1:((((a.length:Nat):Int)) != ((b.length:Nat):Int))=false:=by simp[hl]
 simp only[h1];have Ls:(a.zip b).length=a.length:=by simp[hl]
 have key:=cq (a.zip b) (fun i (_:Unit)=>LX G 98 IQ Tryz.f98 Ex (aS Tryz.prog 98 0) ((a,(b,(i,()))),((),()))) (fun r _=>((r.all (fun p=>decide (p.1=p.2)),()),())) (fun _ _=>True) (fun s _=>by refine aw UW ?_;rw[Ls];simp only[dR,cond_false];rfl) (fun i x r s hi hx hr _ ih=>by
   rw[Ls]at hi;obtain⟨h3,h4⟩:=Jg hx;refine aw UW ?_;simp only[ba hi,cond_true,aC h3,aC h4,Option.bind_some,lW,aI hi ha];by_cases he:x.1=x.2
   ·simp only[he,decide_true,Bool.not_true,cond_false,List.all_cons,Bool.true_and];exact ih () trivial
   ·simp only[he,decide_false,Bool.not_false,cond_true,List.all_cons,Bool.false_and];rfl)
  () trivial
 rw[CH a b hl]at key;exact key
def cT(row:List ae)(d:ae)(by_:Nat):Option ae:=if d∈row then row[((idx d row 0).toNat+by_)%row.length]? else none
def BG:Option ae→ae×(Bool×Unit)
 |some y=>(y,(true,()))
 |none=>(zD,(false,()))
theorem tF(a n:Nat):Int.tmod (a:Int) (n:Int)=((a%n:Nat):Int):=by rw[Int.tmod_eq_emod_of_nonneg (by omega)];rfl
theorem Jh{row:List ae}{d:ae}(h:d∈row):((((row.length:Nat):Int))==0)=false:=by have:=adn h;simp;intro e;subst e;simp at h
theorem afM(hG:HG G)(row:List ae)(d:ae)(hl:row.length≤1073741824):FX G 148 Rx ((row,d,()),())=some (BG (cT row d (row.length-1)),()):=by
 refine aB (hG _ _ rfl) ajP ?_;refine aa (Jf (hG _ _ rfl) row d hl) ?_;by_cases h:d∈row
 ·obtain⟨k,h1,h2,h3⟩:=eU h;have hk:=(aa2.1 h2).1;have hm:(k+(row.length-1))%row.length<row.length:=adv _ (by omega);have e1:IntKind.wrap .i64 (IntKind.wrap .i64 ((k:Int)+((row.length:Nat):Int))-1)=((k+(row.length-1):Nat):Int):=by rw[wrap_small (n:=(k:Int)+((row.length:Nat):Int)) (by omega) (by omega),wrap_small (by omega) (by omega)];omega
  have e2:¬((k:Int)<0):=by omega
  have e4:row[(k+(row.length-1))%row.length]? = some row[(k+(row.length-1))%row.length]:=aa4 hm;have e3:cT row d (row.length-1)=some row[(k+(row.length-1))%row.length]:=by unfold cT;rw[if_pos h,h1];simp
  rw[e3];simp only[h1,e2,decide_false,cond_false,Jh h,e1,tF,aC e4,Option.bind_some];rfl
 ·have h1:=fS.2 h;have e3:cT row d (row.length-1)=none:=by unfold cT;rw[if_neg h]
  rw[e3];simp only[h1,decide_true,cond_true];rfl
theorem afN(hG:HG G)(row:List ae)(d:ae)(hl:row.length≤1073741824):FX G 248 K6 ((row,d,()),())=some (BG (cT row d 1),()):=by
 refine aB (hG _ _ rfl) aes ?_;refine aa (Jf (hG _ _ rfl) row d hl) ?_;by_cases h:d∈row
 ·obtain⟨k,h1,h2,h3⟩:=eU h;have hk:=(aa2.1 h2).1;have hm:(k+1)%row.length<row.length:=adv _ (by omega);have e1:IntKind.wrap .i64 ((k:Int)+1)=((k+1:Nat):Int):=by rw[wrap_small (by omega) (by omega)];omega
  have e2:¬((k:Int)<0):=by omega
  have e4:row[(k+1)%row.length]? = some row[(k+1)%row.length]:=aa4 hm;have e3:cT row d 1=some row[(k+1)%row.length]:=by unfold cT;rw[if_pos h,h1];simp
  rw[e3];simp only[h1,e2,decide_false,cond_false,Jh h,e1,tF,aC e4,Option.bind_some];rfl
 ·have h1:=fS.2 h;have e3:cT row d 1=none:=by unfold cT;rw[if_neg h]
  rw[e3];simp only[h1,decide_true,cond_true];rfl
def fP(row:List ae):List ae→Nat→Nat→Nat
 |[],_,k=>k
 |x::r,i,k=>if oc x (row.getD k zD)<0 then fP row r (i+1) i else fP row r (i+1) k
def kF(row:List ae)(k:Nat):List ae:=row.drop k++row.take k
def bB(row:List ae):List ae:=kF row (fP row row 0 0)
theorem lB(row:List ae):∀(r:List ae) (i k:Nat),k<row.length→i+r.length=row.length→fP row r i k<row.length
 |[],_,k,hk,_=>hk
 |x::r,i,k,hk,hi=>by
  unfold fP;simp at hi
  split
  ·exact lB row r (i+1) i (by omega) (by omega)
  ·exact lB row r (i+1) k hk (by omega)
theorem dS(row:List ae)(k:Nat):(kF row k).length=row.length:=by unfold kF;simp;omega
theorem iv(row:List ae):(bB row).length=row.length:=dS _ _
theorem CI{row:List ae}{k:Nat}{d:ae}:d∈kF row k↔d∈row:=by unfold kF;rw[List.mem_append,or_comm,←List.mem_append,List.take_append_drop]
theorem kq{row:List ae}{d:ae}:d∈bB row↔d∈row:=CI
theorem mL{row:List ae}{k i:Nat}(hk:k≤row.length)(hi:i<row.length):(kF row k)[i]? = row[(k+i)%row.length]? := by
 unfold kF;by_cases h:k+i<row.length
 ·rw[List.getElem?_append_left (by simp;omega),List.getElem?_drop,Nat.mod_eq_of_lt h]
 ·rw[List.getElem?_append_right (by simp;omega),List.length_drop,List.getElem?_take,if_pos (by omega)];congr 1;have:(k+i)%row.length=k+i-row.length:=by rw[Nat.mod_eq_sub_mod (by omega),Nat.mod_eq_of_lt (by omega)]
  omega
theorem abQ(row:List ae)(k:Nat)(hl:row.length≤100000000)(hk:k≤row.length):∀(n i:Nat) (out T:List ae),i+n=row.length→T=kF row k→out=T.take i → LX G 122 rB Tryz.f122 EB (aS Tryz.prog 122 1) ((row,((k:Int),((i:Int),()))),((),(out,())))=some ((T,()),()):=by
 intro n
 induction n with
 |zero =>
  intro i out T hi hT ho;refine aw U8 ?_;have h1:¬((i:Int)<(row.length:Int)):=by omega
  have h2:out=T:=by rw[ho];exact List.take_of_length_le (by rw[hT,dS];omega)
  subst h2;simp only[h1,decide_false];rfl
 |succ n ih =>
  intro i out T hi hT ho;refine aw U8 ?_;have aG:i<row.length:=by omega
  have hm:(k+i)%row.length<row.length:=adv _ (by omega);have h3:row[(k+i)%row.length]? = some row[(k+i)%row.length]:=aa4 hm;have h0:((((row.length:Nat):Int))==0)=false:=by simp;intro e;subst e;simp at aG
  have h4:IntKind.wrap .i64 ((k:Int)+(i:Int))=((k+i:Nat):Int):=by rw[wrap_small (by omega) (by omega)];rfl
  have hol:out.length≤row.length:=by rw[ho,hT];simp;rw[dS];omega
  have h5:aU out.length [row[(k+i)%row.length]].length=true:=fits (by simp;omega);have h6:out++[row[(k+i)%row.length]]=T.take (i+1):=by rw[ho,List.take_add_one,hT,mL hk aG,h3];rfl
  have h7:=ih (i+1) (out++[row[(k+i)%row.length]]) T (by omega) hT h6;simp only[ba aG,h0,h4,tF,aC h3,Option.bind_some,h5,aI aG (show row.length≤1073741824 by omega)];exact h7
theorem abR(hG:HG G)(row:List ae)(hl:row.length≤100000000):∀(n i k:Nat),i+n=row.length→(k<row.length∨(row=[]∧k=0)) → LX G 122 rB Tryz.f122 z6 (aS Tryz.prog 122 0) ((row,((k:Int),((i:Int),()))),((),()))=some ((kF row (fP row (row.drop i) i k),()),()):=by
 intro n
 induction n with
 |zero =>
  intro i k hi hk;refine aw U7 ?_;have h1:¬((i:Int)<(row.length:Int)):=by omega
  have h2:row.drop i=[]:=adB (by omega);simp only[h1,h2,decide_false,cond_false,fP];exact abQ (G:=G) row k hl (by rcases hk with h|⟨_,h⟩<;>omega) row.length 0 [] (kF row k) (by omega) rfl (by simp)
 |succ n ih =>
  intro i k hi hk;refine aw U7 ?_;have aG:i<row.length:=by omega
  have yZ:k<row.length:=hk.resolve_right (by rintro⟨rfl,_⟩;simp at aG);have h2:row.drop i=row[i]::row.drop (i+1):=ac8 aG;have h3:row[i]? = some row[i]:=aa4 aG;have h4:row[k]? = some row[k]:=aa4 yZ;have h5:row.getD k zD=row[k]:=by simp[List.getD,h4]
  simp only[ba aG,cond_true,aC h3,aC h4,Option.bind_some,aI aG (show row.length≤1073741824 by omega)];refine aa (YM hG row[i] row[k]) ?_;rw[h2,fP,h5];by_cases ho:oc row[i] row[k]<0
  ·rw[if_pos ho];simp only[ho,decide_true];exact ih (i+1) i (by omega) (.inl aG)
  ·rw[if_neg ho];simp only[ho,decide_false];exact ih (i+1) k (by omega) (.inl yZ)
theorem Ji(hG:HG G)(row:List ae)(hl:row.length≤100000000):FX G 122 rB ((row,()),())=some ((bB row,()),()):=by refine aB (hG _ _ rfl) akx ?_;have:=abR (G:=G) hG row hl row.length 0 0 (by omega) (by cases row with|nil=>exact .inr ⟨rfl,rfl⟩|cons x r=>exact .inl (by simp));exact this
def gN(row:List ae)(after d:ae):List ae :=if d∈row then bB row else bB (row.take ((max 0 (idx after row 0)).toNat+1)++(d::row.drop ((max 0 (idx after row 0)).toNat+1)))
def bz(row:List ae)(d:ae):List ae:=bB (row.filter fun e=>decide (e≠d))
def dJ(row:List ae)(dr d:ae):List ae:=bB (if dr∈row∧d∉row then row.set (idx dr row 0).toNat d else row)
theorem afO(hG:HG G)(row:List ae)(d:ae)(hl:row.length≤100000000):FX G 126 Bx ((row,d,()),())=some ((bz row d,()),()):=by
 refine aB (hG _ _ rfl) aeq ?_;have key:=cq row (fun i (s:List ae)=>LX G 126 Bx Tryz.f126 uC (aS Tryz.prog 126 0) ((row,(i,())),(((d,()),()),(s,())))) (fun r s=>((bB (s++r.filter fun e=>decide (e≠d)),()),())) (fun n s=>s.length+n≤row.length) (fun s hs=>by refine aw Pk ?_;simp only[dR,cond_false];refine aa (Ji hG s (by omega)) ?_;simp only[List.filter_nil,List.append_nil];rfl) (fun i x r s hi hx hr hs ih=>by
   refine aw Pk ?_;simp only[ba hi,cond_true,aC hx,Option.bind_some,lW,aI hi (show row.length≤1073741824 by omega)];by_cases he:x=d
   ·simp only[he,decide_true,Bool.not_true,ne_eq,not_true_eq_false,decide_false,List.filter_cons,Bool.false_eq_true,if_false];exact ih s (by omega)
   ·have h5:aU s.length [x].length=true:=fits (by simp;omega);simp only[he,decide_false,Bool.not_false,h5,ne_eq,not_false_eq_true,decide_true,List.filter_cons,if_true];have:=ih (s++[x]) (by simp;omega);rw[List.append_assoc]at this;exact this)
  [] (by simp)
 exact key
theorem VL(row:List ae)(d:ae)(k:Nat):row.take (k+1)++(d::row.drop (k+1))=(row.take (k+1)++[d])++row.drop (k+1):=by simp
theorem afP(hG:HG G)(row:List ae)(after d:ae)(hl:row.length≤90000000):FX G 146 Bw ((row,after,d,()),())=some ((gN row after d,()),()):=by
 refine aB (hG _ _ rfl) aeo ?_;refine aa (Jf (hG _ _ rfl) row d (by omega)) ?_;by_cases hd:d∈row
 case pos =>
  have h1:¬idx d row 0<0:=fun h=>fS.1 h hd;have h2:idx d row 0≥0:=by omega
  simp only[h2,decide_true,cond_true];refine aa (Ji hG row (by omega)) ?_;unfold gN;rw[if_pos hd];rfl
 case neg =>
 have h1:¬idx d row 0≥0:=by have:=fS.2 hd;omega
 simp only[h1,decide_false,cond_false];refine aa (Jf (hG _ _ rfl) row after (by omega)) ?_;obtain⟨k,hk⟩:∃k:Nat,max 0 (idx after row 0)=(k:Int):=⟨(max 0 (idx after row 0)).toNat,by omega⟩;have QJ:k<row.length∨row=[]:=by
  rcases qB after row 0 (by omega) with⟨e,_⟩|⟨q,e,e2,_⟩
  ·have:k=0:=by omega
   subst this
   cases row with
   |nil=>exact .inr rfl
   |cons x r=>exact .inl (by simp)
  ·have:=(aa2.1 e2).1;exact .inl (by omega)
 have xS:gN row after d=bB (row.take (k+1)++(d::row.drop (k+1))):=by unfold gN;rw[if_neg hd,hk];rfl
 rw[xS];simp only[hk];obtain⟨fin,jX⟩:∃fin,fin=row.take (k+1)++(d::row.drop (k+1)):=⟨_,rfl⟩;rw[←jX];have loop:∀(n i:Nat) (out:List ae),i+n=row.length→out=(if i≤k then row.take i else(row.take (k+1)++[d])++(row.drop (k+1)).take (i-(k+1))) →
   LX G 146 Bw Tryz.f146 uB (aS Tryz.prog 146 0) ((row,((k:Int),((i:Int),()))),(((d,()),()),(out,())))=some ((bB fin,()),()):=by
  intro n
  induction n with
  |zero =>
   intro i out hi xH;refine aw Ph ?_;have h1:¬((i:Int)<(row.length:Int)):=by omega
   rcases QJ with QJ|rfl
   ·have h0:((((row.length:Nat):Int))==0)=false:=by simp;intro e;subst e;simp at QJ
    have h2:out=fin:=by have hle:(row.drop (k+1)).take (i-(k+1))=row.drop (k+1):=List.take_of_length_le (by rw[List.length_drop];omega);rw[xH,jX,if_neg (by omega),VL,hle]
    subst h2;simp only[h1,decide_false,h0];exact aa (Ji hG out (by rw[jX];simp;omega)) rfl
   ·have Yy:i=0:=by simpa using hi
    subst Yy;have h2:out=[]:=by rw[xH];simp
    subst h2;have h3:fin=[d]:=by rw[jX];simp
    subst h3;exact aa (Ji hG [d] (by simp)) rfl
  |succ n ih =>
   intro i out hi xH;refine aw Ph ?_;have aG:i<row.length:=by omega
   have hx:row[i]? = some row[i]:=aa4 aG;have hol:out.length≤row.length+1:=by rw[xH];split<;>simp<;>omega
   have h5:aU out.length [row[i]].length=true:=fits (by simp;omega);simp only[ba aG,aC hx,Option.bind_some,aI aG (show row.length≤1073741824 by omega),h5];by_cases hik:i=k
   ·subst hik;have h6:aU (out++[row[i]]).length [d].length=true:=fits (by simp;omega);have h8:(((i:Nat):Int)==((i:Nat):Int))=true:=by simp
    simp only[h8,h6];exact ih (i+1) ((out++[row[i]])++[d]) (by omega) (by rw[if_neg (by omega),xH,if_pos (Nat.le_refl _),List.take_add_one,hx];simp)
   ·have h8:(((i:Nat):Int)==((k:Nat):Int))=false:=by simp;omega
    simp only[h8];refine ih (i+1) (out++[row[i]]) (by omega) ?_;rw[xH];by_cases hle:i≤k
    ·rw[if_pos hle,if_pos (by omega),List.take_add_one,hx];rfl
    ·have e9:(row.drop (k+1)).take (i+1-(k+1))=(row.drop (k+1)).take (i-(k+1))++[row[i]]:=by rw[show i+1-(k+1)=(i-(k+1))+1 by omega,List.take_add_one,List.getElem?_drop,show k+1+(i-(k+1))=i by omega,hx];rfl
     rw[if_neg hle,if_neg (by omega),e9,List.append_assoc]
 exact loop row.length 0 [] (by omega) (by simp)
theorem afQ(hG:HG G)(row:List ae)(dr d:ae)(hl:row.length≤100000000):FX G 149 K5 ((row,dr,d,()),())=some ((dJ row dr d,()),()):=by
 refine aB (hG _ _ rfl) aer ?_;have h5:aU ([]:List ae).length row.length=true:=fits (by simp;omega);simp only[h5,cond_true,List.nil_append];refine aa (Jf (hG _ _ rfl) row dr (by omega)) ?_;unfold dJ;by_cases ho:dr∈row
 ·obtain⟨k,h1,h2,h3⟩:=eU ho;have hk:=(aa2.1 h2).1;have e1:((k:Int)≥0):=by omega
  simp only[h1,e1,decide_true];refine aa (Jf (hG _ _ rfl) row d (by omega)) ?_;by_cases hd:d∈row
  ·have h6:¬idx d row 0<0:=fun h=>fS.1 h hd;rw[if_neg (by simp[hd])];simp only[h6,decide_false];exact aa (Ji hG row hl) rfl
  ·have h6:=fS.2 hd;rw[if_pos ⟨ho,hd⟩];have h7:(0:Int)≤(k:Int):=by omega
   have h8:((k:Int)<((row.length:Nat):Int)):=by omega
   simp only[h6,decide_true,h7,h8,Bool.and_self,Int.toNat_natCast,h2];exact aa (Ji hG (row.set k d) (by simpa using hl)) rfl
 ·have h1:¬idx dr row 0≥0:=by have:=fS.2 ho;omega
  rw[if_neg (by simp[ho])];simp only[h1,decide_false];exact aa (Ji hG row hl) rfl
def e0:ByteArray:=⟨#[]⟩
def zI:ID:=(0,0)
def zV:ai:=((0,0),([],(e0,0)))
def zE:an:=((0,0),(e0,0))
def aN(l:List ai)(x:ID):Option ai:=l.find? fun v=>decide (v.1=x)
def aL(l:List an)(x:ID):Option an:=l.find? fun v=>decide (v.1=x)
def aO(d:ak)(x:ID):Option ai:=aN d.1 x
def cH(d:ak)(x:ID):Option an:=aL d.2 x
def EU(l:List ai)(x:ae):Option ID:=(l.find? fun v=>decide (x∈v.2.1)).map (·.1)
def bJ(d:ak)(x:ae):Option ID:=EU d.1 x
def jY{α:Type}(z:α):Option α→α×(Bool×Unit)
 |some y=>(y,(true,()))
 |none=>(z,(false,()))
theorem Gu(hG:G 79 sw=none)(d:ak)(x:ID)(hl:d.1.length≤100000000):FX G 79 sw ((d,x,()),())=some (jY zV (aO d x),()):=by
 refine aB hG ajI ?_;have Jj:=cq d.1 (fun i (_:Unit)=>LX G 79 sw Tryz.f79 Ei (aS Tryz.prog 79 0) ((i,()),(((d,()),((x,()),(((0:Int),((0:Int),(([]:List ae),(e0,((0:Int),()))))),()))),()))) (fun(r:List ai) (_:Unit)=>(jY zV (aN r x),())) (fun _ _=>True) (fun s _=>by refine aw Uy ?_;simp only[dR,cond_false];rfl) (fun i y r s hi hx hr _ ih=>by
   refine aw Uy ?_;simp only[ba hi,cond_true,aC hx,Option.bind_some,jl,aI hi (show d.1.length≤1073741824 by omega)];by_cases he:y.1=x
   ·simp only[he,decide_true,aN,aL,List.find?_cons];subst he;rfl
   ·simp only[he,decide_false,aN,aL,List.find?_cons];exact ih () trivial)
  () trivial
 exact Jj
theorem VM(hG:G 92 zQ=none)(d:ak)(x:ID)(hl:d.2.length≤100000000):FX G 92 zQ ((d,x,()),())=some (jY zE (cH d x),()):=by
 refine aB hG ajL ?_;have Jj:=cq d.2 (fun i (_:Unit)=>LX G 92 zQ Tryz.f92 Ek (aS Tryz.prog 92 0) ((i,()),(((d,()),((x,()),(((((0:Int),(0:Int)),(e0,(0:Int))),()),()))),()))) (fun(r:List an) (_:Unit)=>(jY zE (aL r x),())) (fun _ _=>True) (fun s _=>by refine aw UA ?_;simp only[dR,cond_false];rfl) (fun i y r s hi hx hr _ ih=>by
   refine aw UA ?_;simp only[ba hi,cond_true,aC hx,Option.bind_some,jl,aI hi (show d.2.length≤1073741824 by omega)];by_cases he:y.1=x
   ·simp only[he,decide_true,aN,aL,List.find?_cons];subst he;rfl
   ·simp only[he,decide_false,aN,aL,List.find?_cons];exact ih () trivial)
  () trivial
 exact Jj
theorem LH(hG:HG G)(d:ak)(x:ae)(hl:d.1.length≤100000000)(hr:∀v∈d.1,v.2.1.length≤100000000):FX G 124 wA ((d,x,()),())=some (jY zI (bJ d x),()):=by
 refine aB (hG _ _ rfl) ajK ?_;have Jj:=cq d.1 (fun i (_:Unit)=>LX G 124 wA Tryz.f124 Ej (aS Tryz.prog 124 0) ((i,()),(((d,()),((x,()),((((0:Int),(0:Int)),()),()))),()))) (fun r _=>(jY zI (EU r x),())) (fun _ _=>True) (fun s _=>by refine aw Uz ?_;simp only[dR,cond_false];rfl) (fun i y r s hi hx Cb _ ih=>by
   refine aw Uz ?_;simp only[ba hi,cond_true,aC hx,Option.bind_some,aI hi (show d.1.length≤1073741824 by omega)];refine aa (Jf (hG _ _ rfl) y.2.1 x (by have:=hr y (ab6 hx);omega)) ?_;by_cases he:x∈y.2.1
   ·have h1:idx x y.2.1 0≥0:=by obtain⟨k,h,_⟩:=eU he;omega
    simp only[h1,decide_true,EU,List.find?_cons,he];rfl
   ·have h1:¬idx x y.2.1 0≥0:=by have:=fS.2 he;omega
    simp only[h1,decide_false,EU,List.find?_cons,he];exact ih () trivial)
  () trivial
 exact Jj
theorem afR(hG:G 21 Gm=none)(d:ak)(hl:d.1.length≤100000000)(v5:d.2.length≤100000000)(hr:∀v∈d.1,v.2.1.length≤100000000):FX G 21 Gm ((d,()),())=some (((d.1,(d.2,())),()),()):=by refine aB hG ajX ?_;have h5:aU ([]:List an).length d.2.length=true:=fits (by simp;omega);simp only[h5,cond_true,List.nil_append];have Jj:=cq d.1 (fun i (out:List ai)=>LX G 21 Gm Tryz.f21 Es (aS Tryz.prog 21 0) ((i,()),(((d,()),((([]:List ai),(([]:List an),())),((out,(d.2,())),()))),()))) (fun r s=>(((s++r,(d.2,())),()),())) (fun n s=>s.length+n≤d.1.length) (fun s _=>by refine aw UJ ?_;simp only[dR,List.append_nil];rfl) (fun i y r s hi hx Cb hs ih=>by refine aw UJ ?_;have h6:aU ([]:List ae).length y.2.1.length=true:=fits (by have:=hr y (ab6 hx);simp;omega);have h7:aU s.length [(y.1,(y.2.1,y.2.2))].length=true:=fits (by simp;omega);simp only[ba hi,aC hx,Option.bind_some,h6,List.nil_append,h7,aI hi (show d.1.length≤1073741824 by omega)];have:=ih (s++[y]) (by simp;omega);rw[List.append_assoc]at this;exact this) [] (by simp);exact Jj
def ct(v:ai):List ai→List ai
 |[]=>[v]
 |w::r=>if gm v.1 w.1 then v::w::r else w::ct v r
def bS(v:an):List an→List an
 |[]=>[v]
 |w::r=>if gm v.1 w.1 then v::w::r else w::bS v r
theorem cv(a:ID):gm a a=false:=by simp[gm]
theorem lC(a b:ID):rH a b<0↔gm a b=true:=by
 unfold rH;by_cases h:a=b
 ·subst h;simp[cv]
 ·rw[if_neg h];split<;>simp_all
theorem afS(hG:HG G)(d:ak)(v:ai)(hl:d.1.length≤100000000):FX G 80 IP ((d,v,()),())=some (((ct v d.1,d.2),()),()):=by
 refine aB (hG _ _ rfl) aj2 ?_;have key:=cq d.1 (fun i (s:Bool×List ai)=>LX G 80 IP Tryz.f80 wB (aS Tryz.prog 80 0) ((s.1,(i,())),(((d,()),((v,()),((([]:List ai),(([]:List an),())),((s.2,(d.2,())),())))),()))) (fun r s=>(((s.2++(if s.1 then r else ct v r),d.2),()),())) (fun n s=>s.2.length+n≤d.1.length+(if s.1 then 1 else 0))
  (fun s hs=>by
   obtain⟨put,s⟩:=s;refine aw UL ?_;have h7:aU s.length [v].length=true:=fits (by simp at hs ⊢;split at hs<;>omega)
   cases put
   ·simp only[dR,h7,ct];rfl
   ·simp only[dR,if_true,List.append_nil];rfl)
  (fun i y r s hi hx Cb hs ih=>by
   obtain⟨put,s⟩:=s;refine aw UL ?_;have h6:aU s.length [y].length=true:=fits (by simp at hs ⊢;split at hs<;>omega)
   cases put
   ·have h7:aU s.length [v].length=true:=fits (by simp at hs ⊢;omega);have h8:aU (s++[v]).length [y].length=true:=fits (by simp at hs ⊢;omega);simp only[ba hi,aC hx,Option.bind_some,aI hi (show d.1.length≤1073741824 by omega)];refine aa (VJ (hG _ _ rfl) v.1 y.1) ?_;by_cases ho:gm v.1 y.1=true
    ·have h9:=(lC _ _).2 ho;have:=ih (true,(s++[v])++[y]) (by simp at hs ⊢;omega);simp only[h9,decide_true,h7,h8,ct,ho,if_true,Bool.false_eq_true,if_false];exact this.trans (congrArg (fun l:List ai=>some (((l,d.2),()),())) (show((s++[v])++[y])++r=s++(v::y::r) by simp))
    ·have h9:¬rH v.1 y.1<0:=fun h=>ho ((lC _ _).1 h);have:=ih (false,s++[y]) (by simp at hs ⊢;omega);simp only[h9,decide_false,h6,ct,ho,if_false,Bool.false_eq_true];exact this.trans (congrArg (fun l:List ai=>some (((l,d.2),()),())) (show(s++[y])++ct v r=s++(y::ct v r) by simp))
   ·have:=ih (true,s++[y]) (by simp at hs ⊢;omega);simp only[ba hi,aC hx,Option.bind_some,aI hi (show d.1.length≤1073741824 by omega),h6,if_true];exact this.trans (congrArg (fun l:List ai=>some (((l,d.2),()),())) (show(s++[y])++r=s++(y::r) by simp)))
  (false,[]) (by simp)
 exact key
theorem afT(hG:HG G)(d:ak)(v:an)(hl:d.2.length≤100000000):FX G 115 B4 ((d,v,()),())=some (((d.1,bS v d.2),()),()):=by
 refine aB (hG _ _ rfl) akr ?_;have key:=cq d.2 (fun i (s:Bool×List an)=>LX G 115 B4 Tryz.f115 wC (aS Tryz.prog 115 0) ((s.1,(i,())),(((d,()),((v,()),((([]:List ai),(([]:List an),())),((d.1,(s.2,())),())))),()))) (fun r s=>(((d.1,s.2++(if s.1 then r else bS v r)),()),())) (fun n s=>s.2.length+n≤d.2.length+(if s.1 then 1 else 0))
  (fun s hs=>by
   obtain⟨put,s⟩:=s;refine aw U5 ?_;have h7:aU s.length [v].length=true:=fits (by simp at hs ⊢;split at hs<;>omega)
   cases put
   ·simp only[dR,h7,bS];rfl
   ·simp only[dR,if_true,List.append_nil];rfl)
  (fun i y r s hi hx Cb hs ih=>by
   obtain⟨put,s⟩:=s;refine aw U5 ?_;have h6:aU s.length [y].length=true:=fits (by simp at hs ⊢;split at hs<;>omega)
   cases put
   ·have h7:aU s.length [v].length=true:=fits (by simp at hs ⊢;omega);have h8:aU (s++[v]).length [y].length=true:=fits (by simp at hs ⊢;omega);simp only[ba hi,aC hx,Option.bind_some,aI hi (show d.2.length≤1073741824 by omega)];refine aa (VJ (hG _ _ rfl) v.1 y.1) ?_;by_cases ho:gm v.1 y.1=true
    ·have h9:=(lC _ _).2 ho;have:=ih (true,(s++[v])++[y]) (by simp at hs ⊢;omega);simp only[h9,decide_true,h7,h8,bS,ho,if_true,Bool.false_eq_true,if_false];exact this.trans (congrArg (fun l:List an=>some (((d.1,l),()),())) (show((s++[v])++[y])++r=s++(v::y::r) by simp))
    ·have h9:¬rH v.1 y.1<0:=fun h=>ho ((lC _ _).1 h);have:=ih (false,s++[y]) (by simp at hs ⊢;omega);simp only[h9,decide_false,h6,bS,ho,if_false,Bool.false_eq_true];exact this.trans (congrArg (fun l:List an=>some (((d.1,l),()),())) (show(s++[y])++bS v r=s++(y::bS v r) by simp))
   ·have:=ih (true,s++[y]) (by simp at hs ⊢;omega);simp only[ba hi,aC hx,Option.bind_some,aI hi (show d.2.length≤1073741824 by omega),h6,if_true];exact this.trans (congrArg (fun l:List an=>some (((d.1,l),()),())) (show(s++[y])++r=s++(y::r) by simp)))
  (false,[]) (by simp)
 exact key
def bE(l:List ai)(v:ID):List ai:=l.filter fun w=>decide (w.1≠v)
def bF(l:List an)(v:ID):List an:=l.filter fun w=>decide (w.1≠v)
def aF(d:ak)(v e:ID):ak:=(bE d.1 v,bF d.2 e)
theorem YN(hG:G 81 rz=none)(d:ak)(v e:ID)(hl:d.1.length≤100000000)(v5:d.2.length≤100000000):FX G 81 rz ((d,v,e,()),())=some ((aF d v e,()),()):=by
 refine aB hG aj3 ?_;have RV:=fun vs=>cq d.2 (fun i (s:List an)=>LX G 81 rz Tryz.f81 zZ (aS Tryz.prog 81 1) ((i,()),(((d,()),((e,()),((([]:List ai),(([]:List an),())),((vs,(s,())),())))),()))) (fun(r:List an) (s:List an)=>(((vs,s++bF r e),()),())) (fun n s=>s.length+n≤d.2.length) (fun s hs=>by refine aw UN ?_;simp only[dR,bE,bF,List.filter_nil,List.append_nil];rfl) (fun i y r s hi hx Cb hs ih=>by
   refine aw UN ?_;have h6:aU s.length [y].length=true:=fits (by simp at hs ⊢;omega);simp only[ba hi,aC hx,Option.bind_some,jl,aI hi (show d.2.length≤1073741824 by omega)];by_cases he:y.1=e
   ·simp only[he,decide_true,Bool.not_true,ne_eq,not_true_eq_false,decide_false,bE,bF,List.filter_cons,Bool.false_eq_true,if_false];exact ih s (by omega)
   ·simp only[he,decide_false,Bool.not_false,h6,ne_eq,not_false_eq_true,decide_true,bE,bF,List.filter_cons,if_true];have:=ih (s++[y]) (by simp;omega);rw[List.append_assoc]at this;exact this)
  [] (by simp)
 have Jj:=cq d.1 (fun i (s:List ai)=>LX G 81 rz Tryz.f81 zY (aS Tryz.prog 81 0) ((i,()),(((d,()),((v,()),((e,()),((([]:List ai),(([]:List an),())),((s,(([]:List an),())),()))))),()))) (fun(r:List ai) (s:List ai)=>(((s++bE r v,bF d.2 e),()),())) (fun n s=>s.length+n≤d.1.length) (fun s hs=>by refine aw UM ?_;simp only[dR,bE,bF,List.filter_nil,List.append_nil];exact RV s) (fun i y r s hi hx Cb hs ih=>by
   refine aw UM ?_;have h6:aU s.length [y].length=true:=fits (by simp at hs ⊢;omega);simp only[ba hi,aC hx,Option.bind_some,jl,aI hi (show d.1.length≤1073741824 by omega)];by_cases he:y.1=v
   ·simp only[he,decide_true,Bool.not_true,ne_eq,not_true_eq_false,decide_false,bE,bF,List.filter_cons,Bool.false_eq_true,if_false];exact ih s (by omega)
   ·simp only[he,decide_false,Bool.not_false,h6,ne_eq,not_false_eq_true,decide_true,bE,bF,List.filter_cons,if_true];have:=ih (s++[y]) (by simp;omega);rw[List.append_assoc]at this;exact this)
  [] (by simp)
 exact Jj
instance aoe:DecidableEq (List ai):=@instDecidableEqList ai inferInstance
instance decLE:DecidableEq (List an):=@instDecidableEqList an inferInstance
instance ais:DecidableEq ak:=instDecidableEqProd
instance afU:DecidableEq StateT:=instDecidableEqProd
structure Sm(d:ak):Prop where
 v:d.1.length≤50000000
 e:d.2.length≤50000000
 r:∀w∈d.1,w.2.1.length≤50000000
def iM(x:ID)(l:List ae)(w:ai):ai:=if w.1=x then(w.1,(l,w.2.2)) else w
def b8(d:ak)(x:ID)(l:List ae):ak:=(d.1.map (iM x l),d.2)
theorem gr(i:Nat):decide ((0:Int)≤(i:Int))=true:=by simp
theorem yz{α:Type}(f:α→α)(l:List α)(i:Nat)(x:α)(hx:l[i]? = some x):((l.take i).map f++l.drop i).set i (f x)=(l.take (i+1)).map f++l.drop (i+1):=by have hi:=(aa2.1 hx).1;have h2:l.drop i=l[i]::l.drop (i+1):=ac8 hi;have h3:l[i]=x:=(aa2.1 hx).2;rw[List.set_append_right _ _ (by simp;omega),h2,List.length_map,List.length_take,Nat.min_eq_left (by omega),Nat.sub_self,List.set_cons_zero,List.take_add_one,hx];simp
theorem tG{α:Type}(f:α→α)(l:List α)(i:Nat)(x:α)(hx:l[i]? = some x)(hf:f x=x):(l.take i).map f++l.drop i=(l.take (i+1)).map f++l.drop (i+1):=by have hi:=(aa2.1 hx).1;have h2:l.drop i=l[i]::l.drop (i+1):=ac8 hi;have h3:l[i]=x:=(aa2.1 hx).2;rw[h2,h3,List.take_add_one,hx];simp[hf]
theorem Jk{α:Type}(f:α→α)(l:List α)(i:Nat)(x:α)(hx:l[i]? = some x):((l.take i).map f++l.drop i)[i]? = some x:=by have hi:=(aa2.1 hx).1;rw[List.getElem?_append_right (by simp;omega),List.length_map,List.length_take,Nat.min_eq_left (by omega),Nat.sub_self,List.getElem?_drop,Nat.add_zero,hx]
theorem abS(hG:HG G)(d:ak)(x:ID)(l:List ae)(hs:Sm d):FX G 145 Gs ((d,x,l,()),())=some ((b8 d x l,()),()):=by
 have hv:=hs.v;have he:=hs.e;refine aB (hG _ _ rfl) akP ?_;refine aa (afR (hG _ _ rfl) d (by omega) (by omega) (fun w hw=>by have:=hs.r w hw;omega)) ?_;have loop:∀(n i:Nat) (out fin:List ai),i+n=d.1.length→out=(d.1.take i).map (iM x l)++d.1.drop i→fin=d.1.map (iM x l) → LX G 145 Gs Tryz.f145 Ae (aS Tryz.prog 145 0) ((l,((i:Int),())),(((x,()),((([]:List ai),(([]:List an),())),((out,(d.2,())),()))),()))=some (((fin,d.2),()),()):=by
  intro n
  induction n with
  |zero =>
   intro i out fin hi ho hf;refine aw Vj ?_;have hol:out.length=d.1.length:=by rw[ho];simp;omega
   have h1:¬((i:Int)<(out.length:Int)):=by omega
   have h2:out=fin:=by rw[ho,hf,List.take_of_length_le (by omega),List.drop_eq_nil_of_le (by omega),List.append_nil]
   subst h2;simp only[h1,decide_false];rfl
  |succ n ih =>
   intro i out fin hi ho hf;refine aw Vj ?_;have hol:out.length=d.1.length:=by rw[ho];simp;omega
   have aG:i<d.1.length:=by omega
   have hx:d.1[i]? = some d.1[i]:=aa4 aG;have hg:out[i]? = some d.1[i]:=by rw[ho];exact Jk _ _ _ _ hx
   simp only[ba (show i<out.length by omega),gr,Bool.and_self,Int.toNat_natCast,hg,Option.bind_some,jl,aI aG (show d.1.length≤1073741824 by omega)];by_cases hq:d.1[i].1=x
   ·have e1:iM x l d.1[i]=(x,(l,d.1[i].2.2)):=by unfold iM;rw[if_pos hq,hq]
    simp only[hq,decide_true];exact ih (i+1) (out.set i (x,(l,d.1[i].2.2))) fin (by omega) (by rw[ho,←yz _ _ _ _ hx,e1]) hf
   ·have e1:iM x l d.1[i]=d.1[i]:=by unfold iM;rw[if_neg hq]
    simp only[hq,decide_false];exact ih (i+1) out fin (by omega) (by rw[ho];exact tG _ _ _ _ hx e1) hf
 exact loop d.1.length 0 d.1 (d.1.map (iM x l)) (by omega) (by simp) rfl
def aV(d:ak)(x:ID):List ae:=((aO d x).getD zV).2.1
theorem fz{α:Type}(z:α)(o:Option α):(jY z o).1=o.getD z:=by cases o<;>rfl
theorem iF{α:Type}(z:α)(o:Option α):(jY z o).2.1=o.isSome:=by cases o<;>rfl
theorem mY{d:ak}(hs:Sm d)(x:ID):(aV d x).length≤50000000:=by
 unfold aV
 cases h:aO d x with
 |none=>simp[zV]
 |some v=>exact hs.r v (acq h)
def br(d:ak)(c:ml)(x:ae):ak:=b8 d c.1 (gN (aV d c.1) c.2 x)
def az(d:ak)(dr x:ae):ak:=b8 d ((bJ d dr).getD zI) (dJ (aV d ((bJ d dr).getD zI)) dr x)
def av(d:ak)(x:ae):ak:=b8 d ((bJ d x).getD zI) (bz (aV d ((bJ d x).getD zI)) x)
theorem afV(hG:HG G)(d:ak)(c:ml)(x:ae)(hs:Sm d):FX G 116 B5 ((d,c,x,()),())=some ((br d c x,()),()):=by have hv:=hs.v;have hr:=mY hs c.1;refine aB (hG _ _ rfl) aks ?_;refine aa (Gu (hG _ _ rfl) d c.1 (by omega)) ?_;rw[show(jY zV (aO d c.1)).1=(aO d c.1).getD zV from fz _ _];refine aa (afP hG (aV d c.1) c.2 x (by omega)) ?_;exact aa (abS hG d c.1 (gN (aV d c.1) c.2 x) hs) rfl
theorem afW(hG:HG G)(d:ak)(dr x:ae)(hs:Sm d):FX G 120 K1 ((d,dr,x,()),())=some ((az d dr x,()),()):=by have hv:=hs.v;have hr:=mY hs ((bJ d dr).getD zI);refine aB (hG _ _ rfl) akw ?_;refine aa (LH hG d dr (by omega) (fun w hw=>by have:=hs.r w hw;omega)) ?_;rw[show(jY zI (bJ d dr)).1=(bJ d dr).getD zI from fz _ _];refine aa (Gu (hG _ _ rfl) d ((bJ d dr).getD zI) (by omega)) ?_;rw[show(jY zV (aO d ((bJ d dr).getD zI))).1=(aO d ((bJ d dr).getD zI)).getD zV from fz _ _];refine aa (afQ hG (aV d ((bJ d dr).getD zI)) dr x (by omega)) ?_;exact aa (abS hG d ((bJ d dr).getD zI) (dJ (aV d ((bJ d dr).getD zI)) dr x) hs) rfl
theorem afX(hG:HG G)(d:ak)(x:ae)(hs:Sm d):FX G 119 RE ((d,x,()),())=some ((av d x,()),()):=by have hv:=hs.v;have hr:=mY hs ((bJ d x).getD zI);refine aB (hG _ _ rfl) akv ?_;refine aa (LH hG d x (by omega) (fun w hw=>by have:=hs.r w hw;omega)) ?_;rw[show(jY zI (bJ d x)).1=(bJ d x).getD zI from fz _ _];refine aa (Gu (hG _ _ rfl) d ((bJ d x).getD zI) (by omega)) ?_;rw[show(jY zV (aO d ((bJ d x).getD zI))).1=(aO d ((bJ d x).getD zI)).getD zV from fz _ _];refine aa (afO hG (aV d ((bJ d x).getD zI)) x (by omega)) ?_;exact aa (abS hG d ((bJ d x).getD zI) (bz (aV d ((bJ d x).getD zI)) x) hs) rfl
def cC(row:List ae)(x:ae):ae:=(cT row x (row.length-1)).getD zD
theorem yD(o:Option ae):(BG o).1=o.getD zD:=by cases o<;>rfl
def dA(d:ak)(x:ae):ae :=
 let row:=aV d ((bJ d x).getD zI)
 let y:=cC row x
 let z:=if y.1=x.1 then cC row y else y
 if z.1=x.1 then zD else z
theorem afY(hG:HG G)(d:ak)(x:ae)(hs:Sm d):FX G 118 RD ((d,x,()),())=some ((dA d x,()),()):=by
 have hv:=hs.v;have hr:=mY hs ((bJ d x).getD zI);refine aB (hG _ _ rfl) aku ?_;refine aa (LH hG d x (by omega) (fun w hw=>by have:=hs.r w hw;omega)) ?_;rw[show(jY zI (bJ d x)).1=(bJ d x).getD zI from fz _ _];refine aa (Gu (hG _ _ rfl) d ((bJ d x).getD zI) (by omega)) ?_;rw[show(jY zV (aO d ((bJ d x).getD zI))).1=(aO d ((bJ d x).getD zI)).getD zV from fz _ _];refine aa (afM hG (aV d ((bJ d x).getD zI)) x (by omega)) ?_;rw[show(BG (cT (aV d ((bJ d x).getD zI)) x ((aV d ((bJ d x).getD zI)).length-1))).1=cC (aV d ((bJ d x).getD zI)) x from yD _];unfold dA;obtain⟨y,hy⟩:∃y,y=cC (aV d ((bJ d x).getD zI)) x:=⟨_,rfl⟩;simp only[←hy,jl];by_cases h1:y.1=x.1
 ·have d1:=decide_eq_true h1;rw[if_pos h1];simp only[d1];refine aa (afM hG (aV d ((bJ d x).getD zI)) y (by omega)) ?_;rw[show(BG (cT (aV d ((bJ d x).getD zI)) y ((aV d ((bJ d x).getD zI)).length-1))).1=cC (aV d ((bJ d x).getD zI)) y from yD _];by_cases h2:(cC (aV d ((bJ d x).getD zI)) y).1=x.1
  ·have d2:=decide_eq_true h2;rw[if_pos h2];simp only[d2];rfl
  ·have d2:=decide_eq_false h2;rw[if_neg h2];simp only[d2];rfl
 ·have d1:=decide_eq_false h1;rw[if_neg h1,if_neg h1];simp only[d1];rfl
def iw(l:List aE)(d:ae):Option ae:=(l.find? fun g=>decide (g.1=d)).map (·.2)
theorem aaI(hG:G 147 vx=none)(l:List aE)(d:ae)(hl:l.length≤100000000):FX G 147 vx ((l,d,()),())=some (jY zD (iw l d),()):=by
 refine aB hG aep ?_;have key:=cq l (fun i (_:Unit)=>LX G 147 vx Tryz.f147 xY (aS Tryz.prog 147 0) ((l,(i,())),(((d,()),(((((0:Int),(0:Int)),(0:Int)),()),())),()))) (fun(r:List aE) (_:Unit)=>(jY zD (iw r d),())) (fun _ _=>True) (fun s _=>by refine aw Pj ?_;simp only[dR,cond_false];rfl) (fun i y r s hi hx hr _ ih=>by
   refine aw Pj ?_;simp only[ba hi,aC hx,Option.bind_some,lW,aI hi (show l.length≤1073741824 by omega)];by_cases he:y.1=d
   ·simp only[he,decide_true,iw,List.find?_cons];rfl
   ·simp only[he,decide_false,iw,List.find?_cons];exact ih () trivial)
  () trivial
 exact key
theorem alj(hG:HG G)(a b:ak)(hs:Sm a):FX G 55 D1 ((a,b,()),())=some ((decide (a=b),()),()):=by
 have hv:=hs.v;have he:=hs.e;refine aB (hG _ _ rfl) ajQ ?_;by_cases hl:a.1.length=b.1.length
 case neg =>
  have h1:((((a.1.length:Nat):Int)) != ((b.1.length:Nat):Int))=true:=by simp;omega
  have h2:¬a=b:=fun e=>hl (by rw[e]);simp only[h1,h2,decide_false];rfl
 have h1:((((a.1.length:Nat):Int)) != ((b.1.length:Nat):Int))=false:=by simp[hl]
 simp only[h1];by_cases v5:a.2.length=b.2.length
 case neg =>
  have h1:((((a.2.length:Nat):Int)) != ((b.2.length:Nat):Int))=true:=by simp;omega
  have h2:¬a=b:=fun e=>v5 (by rw[e]);simp only[h1,h2,decide_false];rfl
 have h2:((((a.2.length:Nat):Int)) != ((b.2.length:Nat):Int))=false:=by simp[v5]
 simp only[h2];have Ls:(a.1.zip b.1).length=a.1.length:=by simp[hl]
 have afZ:(a.2.zip b.2).length=a.2.length:=by simp[v5]
 have RV:=cq (a.2.zip b.2) (fun i (_:Unit)=>LX G 55 D1 Tryz.f55 Eo (aS Tryz.prog 55 1) ((i,()),(((a,()),((b,()),())),()))) (fun r _=>((r.all (fun p=>decide (p.1=p.2)),()),())) (fun _ _=>True) (fun s _=>by refine aw UE ?_;rw[afZ];simp only[dR];rfl) (fun i x r s hi hx hr _ ih=>by
   rw[afZ]at hi;obtain⟨h3,h4⟩:=Jg hx;refine aw UE ?_;simp only[ba hi,aC h3,aC h4,Option.bind_some,jl,VI,aI hi (show a.2.length≤1073741824 by omega)];by_cases he:x.1=x.2
   ·simp only[he,decide_true,beq_self_eq_true,Bool.and_self,Bool.not_true,List.all_cons,Bool.true_and];exact ih () trivial
   ·have h9:(decide (x.1.1=x.2.1)&&(decide (x.1.2.1=x.2.2.1)&&(x.1.2.2==x.2.2.2)))=false:=by rw[Bool.eq_false_iff];intro h;simp at h;exact he (Prod.ext h.1 (Prod.ext h.2.1 h.2.2))
    simp only[he,h9,decide_false,Bool.not_false,List.all_cons,Bool.false_and];rfl)
  () trivial
 rw[CH a.2 b.2 v5]at RV;have key:=cq (a.1.zip b.1) (fun i (_:Unit)=>LX G 55 D1 Tryz.f55 En (aS Tryz.prog 55 0) ((i,()),(((a,()),((b,()),())),()))) (fun r _=>((r.all (fun p=>decide (p.1=p.2))&&decide (a.2=b.2),()),())) (fun _ _=>True) (fun s _=>by refine aw UD ?_;rw[Ls];simp only[dR,List.all_nil,Bool.true_and];exact RV) (fun i x r s hi hx hr _ ih=>by
   rw[Ls]at hi;obtain⟨h3,h4⟩:=Jg hx;refine aw UD ?_;simp only[ba hi,aC h3,aC h4,Option.bind_some,jl,VI,aI hi (show a.1.length≤1073741824 by omega)];refine aa (afL hG x.1.2.1 x.2.2.1 (by have:=hs.r x.1 (ab6 h3);omega)) ?_;by_cases e1:x.1.1=x.2.1
   case neg =>
    have he:¬x.1=x.2:=fun e=>e1 (by rw[e]);have d1:=decide_eq_false e1;simp only[d1,he,decide_false,List.all_cons,Bool.false_and];rfl
   have d1:=decide_eq_true e1;by_cases e2:x.1.2.2.1=x.2.2.2.1
   case neg =>
    have he:¬x.1=x.2:=fun e=>e2 (by rw[e]);have d2:=decide_eq_false e2;simp only[d1,d2,he,decide_false,List.all_cons,Bool.false_and];rfl
   have d2:=decide_eq_true e2;by_cases e3:x.1.2.2.2=x.2.2.2.2
   case neg =>
    have he:¬x.1=x.2:=fun e=>e3 (by rw[e]);have h8:(x.1.2.2.2 != x.2.2.2.2)=true:=by simp[e3]
    simp only[d1,d2,h8,he,decide_false,List.all_cons,Bool.false_and];rfl
   have h8:(x.1.2.2.2 != x.2.2.2.2)=false:=by simp[e3]
   by_cases e4:x.1.2.1=x.2.2.1
   case neg =>
    have he:¬x.1=x.2:=fun e=>e4 (by rw[e]);have d4:=decide_eq_false e4;simp only[d1,d2,h8,d4,he,decide_false,List.all_cons,Bool.false_and];rfl
   have d4:=decide_eq_true e4;have he:decide (x.1=x.2)=true:=decide_eq_true (Prod.ext e1 (Prod.ext e4 (Prod.ext e2 e3)));simp only[d1,d2,h8,d4,he,List.all_cons,Bool.true_and];exact ih () trivial)
  () trivial
 rw[CH a.1 b.1 hl]at key;have jX:(decide (a.1=b.1)&&decide (a.2=b.2))=decide (a=b):=by rw[Bool.eq_iff_iff];simp[Prod.ext_iff]
 exact key.trans (congrArg (fun b:Bool=>some ((b,()),())) jX)
def pP(g:aE)(l:List aE):List aE:=l.filter fun q=>decide (q.1≠g.1)
def mM(g:aE):List aE→List aE
 |[]=>[g]
 |e::r=>if oc g.1 e.1≤0 then g::pP g (e::r) else if e.1≠g.1 then e::mM g r else mM g r
def bN(l:List aE)(g:aE):List aE:=if(iw l g.1).isSome=false∧400≤l.length then l else mM g l
def RW(g:aE)(put:Bool)(r:List aE):List aE:=if put then pP g r else mM g r
theorem af0(hG:HG G)(l:List aE)(g:aE)(hl:l.length≤50000000) :
  LX G 117 B6 Tryz.f117 mu (aS Tryz.prog 117 0) ((l,(false,((0:Int),()))),(((g,()),()),(([]:List aE),())))=some ((mM g l,()),()):=by
 have key:=cq l (fun i (s:Bool×List aE)=>LX G 117 B6 Tryz.f117 mu (aS Tryz.prog 117 0) ((l,(s.1,(i,()))),(((g,()),()),(s.2,())))) (fun(r:List aE) (s:Bool×List aE)=>((s.2++RW g s.1 r,()),())) (fun n s=>s.2.length+n≤l.length+(if s.1 then 1 else 0))
  (fun s hs=>by
   obtain⟨put,s⟩:=s;refine aw U6 ?_;have h7:aU s.length [g].length=true:=fits (by simp at hs ⊢;split at hs<;>omega)
   cases put
   ·simp only[dR,h7,RW,mM];rfl
   ·simp only[dR,RW,if_true,pP,List.filter_nil,List.append_nil];rfl)
  (fun i y r s hi hx Cb hs ih=>by
   obtain⟨put,s⟩:=s;refine aw U6 ?_;have h6:aU s.length [y].length=true:=fits (by simp at hs ⊢;split at hs<;>omega);have hw:=aI hi (show l.length≤1073741824 by omega)
   cases put
   ·have h7:aU s.length [g].length=true:=fits (by simp at hs ⊢;omega);have h8:aU (s++[g]).length [y].length=true:=fits (by simp at hs ⊢;omega);simp only[ba hi,aC hx,Option.bind_some,hw];refine aa (YM hG g.1 y.1) ?_;by_cases ho:oc g.1 y.1≤0
    ·have d0:=decide_eq_true ho;by_cases hy:y.1=g.1
     ·have d1:=decide_eq_true hy;have:=ih (true,s++[g]) (by simp at hs ⊢;omega);simp only[d0,h7,lW,d1,RW,mM,ho,if_true,Bool.false_eq_true,if_false];refine this.trans (congrArg (fun l:List aE=>some ((l,()),())) ?_);simp[RW,pP,hy]
     ·have d1:=decide_eq_false hy;have:=ih (true,(s++[g])++[y]) (by simp at hs ⊢;omega);simp only[d0,h7,h8,lW,d1,RW,mM,ho,if_true,Bool.false_eq_true,if_false];refine this.trans (congrArg (fun l:List aE=>some ((l,()),())) ?_);simp[RW,pP,hy]
    ·have d0:=decide_eq_false ho;by_cases hy:y.1=g.1
     ·have d1:=decide_eq_true hy;have:=ih (false,s) (by simp at hs ⊢;omega);simp only[d0,lW,d1,RW,mM,ho,Bool.false_eq_true,if_false];refine this.trans (congrArg (fun l:List aE=>some ((l,()),())) ?_);simp[RW,hy]
     ·have d1:=decide_eq_false hy;have:=ih (false,s++[y]) (by simp at hs ⊢;omega);simp only[d0,h6,lW,d1,RW,mM,ho,Bool.false_eq_true,if_false];refine this.trans (congrArg (fun l:List aE=>some ((l,()),())) ?_);simp[RW,hy]
   ·by_cases hy:y.1=g.1
    ·have d1:=decide_eq_true hy;have:=ih (true,s) (by simp at hs ⊢;omega);simp only[ba hi,aC hx,Option.bind_some,hw,lW,d1];refine this.trans (congrArg (fun l:List aE=>some ((l,()),())) ?_);simp[RW,pP,hy]
    ·have d1:=decide_eq_false hy;have:=ih (true,s++[y]) (by simp at hs ⊢;omega);simp only[ba hi,aC hx,Option.bind_some,hw,lW,d1,h6];refine this.trans (congrArg (fun l:List aE=>some ((l,()),())) ?_);simp[RW,pP,hy])
  (false,[]) (by simp)
 exact key
theorem YO(hG:HG G)(l:List aE)(g:aE)(hl:l.length≤50000000):FX G 117 B6 ((l,g,()),())=some ((bN l g,()),()):=by
 refine aB (hG _ _ rfl) akt ?_;refine aa (aaI (hG _ _ rfl) l g.1 (by omega)) ?_;rw[show(jY zD (iw l g.1)).2.1=(iw l g.1).isSome from iF _ _];unfold bN
 cases hf:(iw l g.1).isSome
 ·by_cases hn:400≤l.length
  ·have h1:decide (((l.length:Nat):Int)≥400)=true:=by simp;omega
   rw[if_pos ⟨rfl,hn⟩];simp only[h1];rfl
  ·have h1:decide (((l.length:Nat):Int)≥400)=false:=by simp;omega
   rw[if_neg (by simp[hn])];simp only[h1];exact af0 hG l g hl
 ·rw[if_neg (by simp)];exact af0 hG l g hl
def res(d:ak)(gn:List aE):Nat→ae→ae
 |0,_=>zD
 |n+1,x=>if(bJ d x).isSome then x else match iw gn x with
  |none=>zD
  |some y=>res d gn n y
def resolve(s:StateT)(x:ae):ae:=res s.1 s.2 (s.2.length+1) x
theorem alk(hG:HG G)(s:StateT)(x:ae)(hs:Sm s.1)(hg:s.2.length≤50000000):FX G 143 K4 ((s,x,()),())=some ((resolve s x,()),()):=by
 refine aB (hG _ _ rfl) akO ?_;have hv:=hs.v;have loop:∀(n i:Nat) (y:ae),i+n=s.2.length+1→LX G 143 K4 Tryz.f143 ED (aS Tryz.prog 143 0) (((i:Int),()),((s,()),((y,()),(((((0:Int),(0:Int)),(0:Int)),()),()))),())=some ((res s.1 s.2 n y,()),()):=by
  intro n
  induction n with
  |zero =>
   intro i y hi;refine aw Vi ?_;have h1:decide ((i:Int)≤((s.2.length:Nat):Int))=false:=by simp;omega
   simp only[h1];rfl
  |succ n ih =>
   intro i y hi;refine aw Vi ?_;have h1:decide ((i:Int)≤((s.2.length:Nat):Int))=true:=by simp;omega
   have hw:IntKind.wrap .i64 ((i:Int)+1)=((i+1:Nat):Int):=by rw[wrap_small (by omega) (by omega)];rfl
   simp only[h1,hw];refine aa (LH hG s.1 y (by omega) (fun w hw=>by have:=hs.r w hw;omega)) ?_;rw[show(jY zI (bJ s.1 y)).2.1=(bJ s.1 y).isSome from iF _ _,res]
   cases ha:(bJ s.1 y).isSome
   ·simp only[Bool.false_eq_true,if_false];refine aa (aaI (hG _ _ rfl) s.2 y (by omega)) ?_
    cases hf:iw s.2 y with
    |none=>rfl
    |some z=>exact ih (i+1) z (by omega)
   ·rfl
 exact loop (s.2.length+1) 0 x (by omega)
def zC:ml:=(zI,zD)
def mN(s:StateT)(c:ml)(v:ai):ae:=if resolve s c.2∈v.2.1 then resolve s c.2 else zD
def aR(s:StateT)(c:ml):ml×(Int×Unit):=match aO s.1 c.1 with
 |none=>(zC,(13,()))
 |some v=>((c.1,mN s c v),(0,()))
theorem af1(hG:HG G)(s:StateT)(c:ml)(hs:Sm s.1)(hg:s.2.length≤50000000):FX G 114 RC ((s,c,()),())=some (aR s c,()):=by
 have hv:=hs.v;refine aB (hG _ _ rfl) akq ?_;refine aa (Gu (hG _ _ rfl) s.1 c.1 (by omega)) ?_;unfold aR
 cases hf:aO s.1 c.1 with
 |none=>rfl
 |some v =>
  have hr:v.2.1.length≤50000000:=hs.r v (acq hf);refine aa (alk hG s c.2 hs hg) ?_;refine aa (Jf (hG _ _ rfl) v.2.1 (resolve s c.2) (by omega)) ?_;by_cases hm:resolve s c.2∈v.2.1
  ·have h1:decide (idx (resolve s c.2) v.2.1 0<0)=false:=decide_eq_false (fun h=>fS.1 h hm);have h2:mN s c v=resolve s c.2:=if_pos hm;simp only[h1];exact congrArg (fun z:ae=>some (((c.1,z),((0:Int),())),())) h2.symm
  ·have h1:decide (idx (resolve s c.2) v.2.1 0<0)=true:=decide_eq_true (fS.2 hm);have h2:mN s c v=zD:=if_neg hm;simp only[h1];exact congrArg (fun z:ae=>some (((c.1,z),((0:Int),())),())) h2.symm
def ah(x:ae):ae:=(x.1,IntKind.wrap .i64 (1-x.2))
def kI(d:ak)(x:ae):Option ae:=match bJ d x with
 |none=>none
 |some a=>cT (aV d a) x 1
theorem alm(hG:HG G)(d:ak)(x:ae)(hs:Sm d):FX G 234 Uq ((d,x,()),())=some (BG (kI d x),()):=by
 have hv:=hs.v;refine aB (hG _ _ rfl) aky ?_;refine aa (LH hG d x (by omega) (fun w hw=>by have:=hs.r w hw;omega)) ?_;unfold kI
 cases ha:bJ d x with
 |none=>rfl
 |some a =>have hr:=mY hs a;refine aa (Gu (hG _ _ rfl) d a (by omega)) ?_;rw[show(jY zV (aO d a)).1=(aO d a).getD zV from fz _ _];exact aa (afN hG (aV d a) x (by omega)) rfl
def J2(d:ak)(x:ae):Option ae:=if(bJ d x).isSome then kI d (ah x) else none
theorem af2(hG:HG G)(d:ak)(x:ae)(hs:Sm d):FX G 216 Rz ((d,x,()),())=some (BG (J2 d x),()):=by
 have hv:=hs.v;refine aB (hG _ _ rfl) aj9 ?_;refine aa (LH hG d x (by omega) (fun w hw=>by have:=hs.r w hw;omega)) ?_;rw[show(jY zI (bJ d x)).2.1=(bJ d x).isSome from iF _ _];unfold J2
 cases ha:(bJ d x).isSome
 ·rfl
 ·refine aa (abP (hG _ _ rfl) x) ?_;exact aa (alm hG d (ah x) hs) rfl
def tH(d:ak)(x:ae):Nat→ae→List ae→List ae
 |0,_,out=>out
 |n+1,y,out=>if y=x then out else tH d x n ((J2 d y).getD zD) (out++[y])
def bw(d:ak)(x:ae):List ae:=match J2 d x with
 |none=>[]
 |some y=>tH d x 81 y [x]
theorem aln(hG:HG G)(d:ak)(x:ae)(hs:Sm d):FX G 192 KU ((d,x,()),())=some ((bw d x,()),()):=by
 refine aB (hG _ _ rfl) ajM ?_;refine aa (af2 hG d x hs) ?_;unfold bw
 cases hp:J2 d x with
 |none=>rfl
 |some y =>
  have h5:aU ([]:List ae).length [x].length=true:=fits (by simp);have loop:∀(n:Nat) (y:ae) (out:List ae),out.length+n=82→LX G 192 KU Tryz.f192 El (aS Tryz.prog 192 0) ((),((d,()),((x,()),((y,()),()))),(out,()))=some ((tH d x n y out,()),()):=by
   intro n
   induction n with
   |zero =>
    intro y out ho;refine aw UB ?_;have h1:decide (((out.length:Nat):Int)<82)=false:=by simp;omega
    simp only[lW,h1];by_cases hy:y=x
    ·have d1:=decide_eq_true hy;simp only[d1];rfl
    ·have d1:=decide_eq_false hy;simp only[d1];rfl
   |succ n ih =>
    intro y out ho;refine aw UB ?_;have h1:decide (((out.length:Nat):Int)<82)=true:=by simp;omega
    have h6:aU out.length [y].length=true:=fits (by simp;omega);simp only[lW,h1,h6];rw[tH];by_cases hy:y=x
    ·have d1:=decide_eq_true hy;rw[if_pos hy];simp only[d1];rfl
    ·have d1:=decide_eq_false hy;rw[if_neg hy];simp only[d1];refine aa (af2 hG d y hs) ?_;rw[show(BG (J2 d y)).1=(J2 d y).getD zD from yD _];exact ih ((J2 d y).getD zD) (out++[y]) (by simp;omega)
  exact loop 81 y [x] (by simp)
theorem Hq(d:ak)(x:ae):∀(n:Nat) (y:ae) (out:List ae),(tH d x n y out).length≤out.length+n
 |0,_,out=>ack _
 |n+1,y,out=>by
  unfold tH
  split
  ·omega
  ·have:=Hq d x n ((J2 d y).getD zD) (out++[y]);simp at this;omega
theorem Hr(d:ak)(x:ae):(bw d x).length≤82:=by
 unfold bw
 cases J2 d x with
 |none=>simp
 |some y=>have:=Hq d x 81 y [x];simpa using this
def fT:List an→List ae
 |[]=>[]
 |e::r=>(e.1,0)::(e.1,1)::fT r
theorem od:∀l:List an,(fT l).length=2*l.length
 |[]=>rfl
 |e::r=>by simp[fT,od r];omega
theorem alo(hG:G 191 IS=none)(d:ak)(hs:Sm d):FX G 191 IS ((d,()),())=some ((fT d.2,()),()):=by have he:=hs.e;refine aB hG ake ?_;have key:=cq d.2 (fun i (s:List ae)=>LX G 191 IS Tryz.f191 Ez (aS Tryz.prog 191 0) ((i,()),(((d,()),()),(s,())))) (fun(r:List an) (s:List ae)=>((s++fT r,()),())) (fun n s=>s.length+2*n≤2*d.2.length) (fun s _=>by refine aw UY ?_;simp only[dR,fT,List.append_nil];rfl) (fun i y r s hi hx Cb hs ih=>by refine aw UY ?_;have h6:aU s.length [((y.1,(0:Int)):ae),(y.1,(1:Int))].length=true:=fits (by simp;omega);simp only[ba hi,aC hx,Option.bind_some,h6,aI hi (show d.2.length≤1073741824 by omega)];have:=ih (s++[(y.1,0),(y.1,1)]) (by simp;omega);refine this.trans (congrArg (fun l:List ae=>some ((l,()),())) ?_);simp[fT]) [] (by simp);exact key
def ju(d:ak):List ae→List (List ae)→List ae→List (List ae)
 |[],out,_=>out
 |x::r,out,told=>if x∈told then ju d r out told else ju d r (out++[bw d x]) (told++bw d x)
def b5(d:ak):List (List ae):=ju d (fT d.2) [] []
theorem alp(hG:HG G)(d:ak)(hs:Sm d)(he:d.2.length≤5000000):FX G 164 KV ((d,()),())=some ((b5 d,()),()):=by
 refine aB (hG _ _ rfl) ajU ?_;refine aa (alo (hG _ _ rfl) d hs) ?_;have S5:=od d.2;unfold b5;generalize fT d.2=ds at *;have key:=cq ds (fun i (s:List (List ae)×List ae)=>LX G 164 KV Tryz.f164 zU (aS Tryz.prog 164 0) ((i,()),(((d,()),()),(s.1,(s.2,(ds,())))))) (fun(r:List ae) (s:List (List ae)×List ae)=>((ju d r s.1 s.2,()),())) (fun n s=>s.1.length+n≤ds.length∧s.2.length+82*n≤82*ds.length) (fun s _=>by refine aw UG ?_;simp only[dR];rfl) (fun i y r s hi hx Cb hs' ih=>by
   obtain⟨out,told⟩:=s;obtain⟨b1,b2⟩:=hs';simp only at b1 b2;refine aw UG ?_;simp only[ba hi,gr,Bool.and_self,Int.toNat_natCast,hx,Option.bind_some,aI hi (show ds.length≤1073741824 by omega)];refine aa (Jf (hG _ _ rfl) told y (by omega)) ?_;rw[ju];by_cases hm:y∈told
   ·have d1:decide (idx y told 0≥0)=true:=decide_eq_true (by obtain⟨k,h,_⟩:=eU hm;omega);rw[if_pos hm];simp only[d1];exact ih (out,told) ⟨by simp only;omega,by simp only;omega⟩
   ·have d1:decide (idx y told 0≥0)=false:=decide_eq_false (by have:=fS.2 hm;omega);rw[if_neg hm];simp only[d1];refine aa (aln hG d y hs) ?_;have htl:=Hr d y;have h6:aU out.length [bw d y].length=true:=fits (by simp;omega);have h7:aU told.length (bw d y).length=true:=fits (by omega);simp only[h6,h7];exact ih (out++[bw d y],told++bw d y) ⟨by simp;omega,by simp;omega⟩)
  ([],[]) ⟨by simp,by simp⟩
 exact key
end Go.Vs
