/- What the document's reference -/
import Derived.Test.YtpkfpbpbkabkdaaGreatNormalA
import Derived.Test.YtpkfpbpbkabkdaaGreatNormalB
import Derived.Test.YtpkfpbpbkabkdaaGreatNormalC
set_option linter.unusedVariables false
set_option linter.unusedSimpArgs false
namespace Go.Vs
open Go.Proofs
variable {G:(f:FuncId)→(g:aX)→Option (g.A→Option g.B)}
theorem aa{α β:Type}{o:Option α}{f:α→Option β}{a:α}{r:Option β}(h:o=some a)(k:f a=r):o.bind f=r:=by rw[h];exact k
theorem aT{α:Type}{l:List α}{i:Nat}{x:α}(h:l[i]? = some x):bm l (i:Int)=some x:=by have hl:=(abg.1 h).1;simp[bm,h]
theorem wrap_small{n:Int}(h0 : -9223372036854775808≤n)(h1:n<9223372036854775808):IntKind.wrap .i64 n=n:=by unfold IntKind.wrap;simp[IntKind.bits,IntKind.signed];omega
theorem aN{i n:Nat}(h:i<n)(hn:n≤1073741824):IntKind.wrap .i64 ((i:Int)+1)=((i+1:Nat):Int):=by rw[wrap_small (by omega) (by omega)];rfl
theorem bj{i n:Nat}(h:i<n):decide ((i:Int)<((n:Nat):Int))=true:=by simpa using h
theorem eE(n:Nat):decide (((n:Nat):Int)<((n:Nat):Int))=false:=by simp
theorem fits{n m:Nat}(h:n+m≤1073741824):aR n m=true:=decide_eq_true h
theorem iL(a b:ID):((a.1==b.1)&&(a.2==b.2))=decide (a=b):=by obtain⟨a1,a2⟩:=a;obtain⟨b1,b2⟩:=b;rw[Bool.eq_iff_iff];simp
theorem lg(a b:ab):(((a.1.1==b.1.1)&&(a.1.2==b.1.2))&&(a.2==b.2))=decide (a=b):=by obtain⟨⟨a1,a2⟩,a3⟩:=a;obtain⟨⟨b1,b2⟩,b3⟩:=b;rw[Bool.eq_iff_iff];simp[and_assoc]
theorem Ol(a b:ByteArray):(a==b)=decide (a=b):=by obtain⟨a⟩:=a;obtain⟨b⟩:=b;show(a==b)=_;rw[Bool.eq_iff_iff];simp
theorem cC{α S R:Type}(l:List α)(L:Int→S→Option R)(g:List α→S→R)(inv:Nat→S→Prop) (al1:∀s,inv 0 s→L ((l.length:Nat):Int) s=some (g [] s)) (agr:∀(i:Nat) (x:α) (r:List α) (s:S),i<l.length→l[i]? = some x→i+r.length+1=l.length→inv (r.length+1) s→(∀s',inv r.length s'→L ((i+1:Nat):Int) s'=some (g r s'))→L (i:Int) s=some (g (x::r) s)) :
  ∀s,inv l.length s→L 0 s=some (g l s):=by
 have key:∀(r p:List α),p++r=l→∀s,inv r.length s→L ((p.length:Nat):Int) s=some (g r s):=by
  intro r
  induction r with
  |nil=>intro p hp s hs;rw[List.append_nil]at hp;subst hp;exact al1 s hs
  |cons x r ih =>
   intro p hp s hs;refine agr p.length x r s ?_ ?_ ?_ hs (fun s' hs' => ?_)
   ·rw[←hp];simp
   ·rw[←hp];simp
   ·rw[←hp];simp;omega
   ·have:=ih (p++[x]) (by simp[hp]) s' hs';simpa using this
 intro s hs;exact key l [] rfl s hs
def zD:ab:=((0,0),0)
def cY(x:ID):Bool:=decide (1≤x.1∧x.1≤8∧1≤x.2∧x.2≤1048576)
def im(a b:ID):Bool:=decide (a.1<b.1∨(a.1=b.1∧a.2<b.2))
def tV(a b:ID):Int:=if a=b then 0 else if im a b then -1 else 1
def mC(a b:ab):Bool:=im a.1 b.1 || (decide (a.1=b.1)&&decide (a.2<b.2))
def pW(a b:ab):Int:=if a=b then 0 else if mC a b then -1 else 1
def Js(d:ab):Bool:=cY d.1&&decide (d.2=0∨d.2=1)
theorem Sy(hG:G 87 D5=none)(x:ID):FX G 87 D5 ((x,()),())=some ((cY x,()),()):=by refine aC hG akv ?_;obtain⟨a,b⟩:=x;show(cond (decide (a≥1)) (cond (decide (a≤8)) (cond (decide (b≥1)) (some ((decide (b≤1048576),()),())) (some ((false,()),()))) (some ((false,()),()))) (some ((false,()),())):Option ((Bool×Unit)×Unit))=some ((cY (a,b),()),());unfold cY;simp only[cond_eq_ite];by_cases h1:(1:Int)≤a<;>by_cases h2:a≤8<;>by_cases h3:(1:Int)≤b<;>simp[h1,h2,h3]
theorem acj(hG:G 121 GB=none)(d:ab):FX G 121 GB ((d,()),())=some (((d.1,IntKind.wrap .i64 (1-d.2)),()),()) :=aC hG akz rfl
theorem ack(hG:G 105 Lc=none)(a b:ID):FX G 105 Lc ((a,b,()),())=some ((tV a b,()),()):=by refine aC hG alc ?_;obtain⟨a1,a2⟩:=a;obtain⟨b1,b2⟩:=b;unfold tV im;show(cond ((a1==b1)&&(a2==b2)) (some (((0:Int),()),())) (cond (decide (a1<b1)) (some (((-1:Int),()),())) (cond (a1==b1) (cond (decide (a2<b2)) (some (((-1:Int),()),())) (some (((1:Int),()),()))) (some (((1:Int),()),())))):Option ((Int×Unit)×Unit))=some (((if(a1,a2)=(b1,b2) then 0 else if(decide (a1<b1∨(a1=b1∧a2<b2)))=true then -1 else 1:Int),()),());by_cases h1:a1=b1<;>by_cases h2:a2=b2<;>by_cases h3:a1<b1<;>by_cases h4:a2<b2<;>first|(exfalso;omega)|(simp only[cond_eq_ite];simp[h1,h2,h3,h4];done)|(subst h1;simp only[cond_eq_ite];simp[h2,h4])
theorem ags(hG:HG G)(a b:ab):FX G 71 R7 ((a,b,()),())=some ((pW a b,()),()):=by
 refine aC (hG _ _ rfl) ak5 ?_;refine aa (ack (hG _ _ rfl) a.1 b.1) ?_;obtain⟨a1,a2⟩:=a;obtain⟨b1,b2⟩:=b;show(cond (tV a1 b1 != 0) (some ((tV a1 b1,()),())) (cond (decide (a2<b2)) (some (((-1:Int),()),())) (cond (decide (a2>b2)) (some (((1:Int),()),())) (some (((0:Int),()),())))):Option ((Int×Unit)×Unit))=some ((pW (a1,a2) (b1,b2),()),());unfold pW mC tV;simp only[cond_eq_ite];by_cases h1:a1=b1
 ·subst h1;have hl:im a1 a1=false:=by simp[im]
  by_cases h2:a2=b2
  ·subst h2;simp
  ·by_cases h3:a2<b2
   ·simp[h2,h3,hl]
   ·have:a2>b2:=by omega
    simp[h2,h3,hl,this]
 ·by_cases h2:im a1 b1=true<;>simp[h1,h2]
theorem al3(hG:HG G)(d:ab):FX G 123 U4 ((d,()),())=some ((Js d,()),()):=by refine aC (hG _ _ rfl) alz ?_;refine aa (Sy (hG _ _ rfl) d.1) ?_;obtain⟨d1,d2⟩:=d;show(cond (cY d1) (cond (d2==0) (some ((true,()),())) (some (((d2==1),()),()))) (some ((false,()),())):Option ((Bool×Unit)×Unit))=some ((Js (d1,d2),()),());unfold Js;simp only[cond_eq_ite];by_cases h1:cY d1=true<;>by_cases h2:d2=0<;>simp[h1,h2];rw[Bool.eq_iff_iff];simp
def idx(d:ab):List ab→Int→Int
 |[],_ => -1
 |e::r,i=>if e=d then i else idx d r (i+1)
theorem al4(row:List ab)(d:ab)(hl:row.length≤1073741824):∀(n i:Nat),i+n=row.length→LX G 144 tG Tryz.f144 Es (aY Tryz.prog 144 0) ((row,((i:Int),())),(((d,()),()),()))=some ((idx d (row.drop i) i,()),()):=by
 intro n
 induction n with
 |zero =>
  intro i hi;refine aB Vd ?_;have h1:¬((i:Int)<(row.length:Int)):=by omega
  have h2:row.drop i=[]:=adU (by omega);simp only[h1,h2,decide_false,cond_false,idx];rfl
 |succ n ih =>
  intro i hi;refine aB Vd ?_;have aK:i<row.length:=by omega
  have h1:((i:Int)<(row.length:Int)):=by omega
  have h2:row.drop i=row[i]::row.drop (i+1):=adj aK;have h3:bm row (i:Int)=some row[i]:=by simp[bm,aK]
  have h4:IntKind.wrap .i64 ((i:Int)+1)=((i+1:Nat):Int):=by rw[wrap_small (by omega) (by omega)];rfl
  have h5:=ih (i+1) (by omega);rw[h2,idx];simp only[h1,decide_true,cond_true,h3,Option.bind_some,h4,lg];by_cases he:row[i]=d
  ·rw[if_pos he];simp only[he,decide_true];rfl
  ·rw[if_neg he];simp only[he,decide_false];exact h5
theorem Jt(hG:G 144 tG=none)(row:List ab)(d:ab)(hl:row.length≤1073741824):FX G 144 tG ((row,d,()),())=some ((idx d row 0,()),()):=by refine aC hG akA ?_;exact al4 (G:=G) row d hl row.length 0 (by omega)
theorem qJ(d:ab):∀(row:List ab) (i:Int),0≤i→(idx d row i = -1∧d∉row)∨(∃k:Nat,idx d row i=i+k∧row[k]? = some d∧d∉row.take k)
 |[],i,_=>.inl ⟨rfl,by simp⟩
 |e::r,i,h=>by
  unfold idx;by_cases he:e=d
  ·right;exact⟨0,by simp[he],by simp[he],by simp⟩
  ·rw[if_neg he];rcases qJ d r (i+1) (by omega) with⟨h1,h2⟩|⟨k,h1,h2,h3⟩
   ·exact .inl ⟨h1,by simp[h2,Ne.symm he]⟩
   ·exact .inr ⟨k+1,by rw[h1];omega,by simpa using h2,by simp[h3,Ne.symm he]⟩
theorem fV{d:ab}{row:List ab}:idx d row 0<0↔d∉row:=by
 rcases qJ d row 0 (by omega) with⟨h1,h2⟩|⟨k,h1,h2,_⟩
 ·simp[h1,h2]
 ·have:=ab1 h2;simp[this];omega
theorem eX{d:ab}{row:List ab}(h:d∈row):∃k:Nat,idx d row 0=k∧row[k]? = some d∧d∉row.take k:=by
 rcases qJ d row 0 (by omega) with⟨_,h2⟩|⟨k,h1,h2,h3⟩
 ·exact absurd h h2
 ·exact⟨k,by omega,h2,h3⟩
theorem yO{α:Type}[DecidableEq α]:∀(a b:List α),a.length=b.length→(a.zip b).all (fun p=>decide (p.1=p.2))=decide (a=b)
 |[],[],_=>by simp
 |[],_::_,h=>by simp at h
 |_::_,[],h=>by simp at h
 |x::a,y::b,h=>by simp only[List.zip_cons_cons,List.all_cons,yO a b (by simpa using h)];rw[Bool.eq_iff_iff];simp
theorem CJ{α:Type}{a b:List α}{i:Nat}{x:α×α}(h:(a.zip b)[i]? = some x):a[i]? = some x.1∧b[i]? = some x.2:=by obtain⟨x1,x2⟩:=x;exact List.getElem?_zip_eq_some.1 h
theorem al5(hG:HG G)(a b:List ab)(ha:a.length≤1073741824):FX G 98 K9 ((a,b,()),())=some ((decide (a=b),()),()):=by
 refine aC (hG _ _ rfl) ak0 ?_;by_cases hl:a.length=b.length
 case neg =>
  have h1:((((a.length:Nat):Int)) != ((b.length:Nat):Int))=true:=by simp;omega
  have h2:¬a=b:=fun e=>hl (by rw[e]);simp only[h1,h2,decide_false];rfl
 have h1:((((a.length:Nat):Int)) != ((b.length:Nat):Int))=false:=by simp[hl]
 simp only[h1];have HC:(a.zip b).length=a.length:=by simp[hl]
 have key:=cC (a.zip b) (fun i (_:Unit)=>LX G 98 K9 Tryz.f98 ED (aY Tryz.prog 98 0) ((a,(b,(i,()))),((),()))) (fun r _=>((r.all (fun p=>decide (p.1=p.2)),()),())) (fun _ _=>True) (fun s _=>by refine aB Vy ?_;rw[HC];simp only[eE,cond_false];rfl) (fun i x r s hi hx hr _ ih=>by
   rw[HC]at hi;obtain⟨h3,h4⟩:=CJ hx;refine aB Vy ?_;simp only[bj hi,cond_true,aT h3,aT h4,Option.bind_some,lg,aN hi ha];by_cases he:x.1=x.2
   ·simp only[he,decide_true,Bool.not_true,cond_false,List.all_cons,Bool.true_and];exact ih () trivial
   ·simp only[he,decide_false,Bool.not_false,cond_true,List.all_cons,Bool.false_and];rfl)
  () trivial
 rw[yO a b hl]at key;exact key
def cK(row:List ab)(d:ab)(by_:Nat):Option ab:=if d∈row then row[((idx d row 0).toNat+by_)%row.length]? else none
def zt:Option ab→ab×(Bool×Unit)
 |some y=>(y,(true,()))
 |none=>(zD,(false,()))
theorem tW(a n:Nat):Int.tmod (a:Int) (n:Int)=((a%n:Nat):Int):=by rw[Int.tmod_eq_emod_of_nonneg (by omega)];rfl
theorem Ju{row:List ab}{d:ab}(h:d∈row):((((row.length:Nat):Int))==0)=false:=by have:=adI h;simp;intro e;subst e;simp at h
theorem acm(hG:HG G)(row:List ab)(d:ab)(hl:row.length≤1073741824):FX G 148 NZ ((row,d,()),())=some (zt (cK row d (row.length-1)),()):=by
 refine aC (hG _ _ rfl) akB ?_;refine aa (Jt (hG _ _ rfl) row d hl) ?_;by_cases h:d∈row
 ·obtain⟨k,h1,h2,h3⟩:=eX h;have hk:=(abg.1 h2).1;have hm:(k+(row.length-1))%row.length<row.length:=adR _ (by omega);have e1:IntKind.wrap .i64 (IntKind.wrap .i64 ((k:Int)+((row.length:Nat):Int))-1)=((k+(row.length-1):Nat):Int):=by rw[wrap_small (n:=(k:Int)+((row.length:Nat):Int)) (by omega) (by omega),wrap_small (by omega) (by omega)];omega
  have e2:¬((k:Int)<0):=by omega
  have e4:row[(k+(row.length-1))%row.length]? = some row[(k+(row.length-1))%row.length]:=aba hm;have e3:cK row d (row.length-1)=some row[(k+(row.length-1))%row.length]:=by unfold cK;rw[if_pos h,h1];simp
  rw[e3];simp only[h1,e2,decide_false,cond_false,Ju h,e1,tW,aT e4,Option.bind_some];rfl
 ·have h1:=fV.2 h;have e3:cK row d (row.length-1)=none:=by unfold cK;rw[if_neg h]
  rw[e3];simp only[h1,decide_true,cond_true];rfl
theorem agt(hG:HG G)(row:List ab)(d:ab)(hl:row.length≤1073741824):FX G 248 Li ((row,d,()),())=some (zt (cK row d 1),()):=by
 refine aC (hG _ _ rfl) aeV ?_;refine aa (Jt (hG _ _ rfl) row d hl) ?_;by_cases h:d∈row
 ·obtain⟨k,h1,h2,h3⟩:=eX h;have hk:=(abg.1 h2).1;have hm:(k+1)%row.length<row.length:=adR _ (by omega);have e1:IntKind.wrap .i64 ((k:Int)+1)=((k+1:Nat):Int):=by rw[wrap_small (by omega) (by omega)];omega
  have e2:¬((k:Int)<0):=by omega
  have e4:row[(k+1)%row.length]? = some row[(k+1)%row.length]:=aba hm;have e3:cK row d 1=some row[(k+1)%row.length]:=by unfold cK;rw[if_pos h,h1];simp
  rw[e3];simp only[h1,e2,decide_false,cond_false,Ju h,e1,tW,aT e4,Option.bind_some];rfl
 ·have h1:=fV.2 h;have e3:cK row d 1=none:=by unfold cK;rw[if_neg h]
  rw[e3];simp only[h1,decide_true,cond_true];rfl
def fT(row:List ab):List ab→Nat→Nat→Nat
 |[],_,k=>k
 |x::r,i,k=>if pW x (row.getD k zD)<0 then fT row r (i+1) i else fT row r (i+1) k
def kK(row:List ab)(k:Nat):List ab:=row.drop k++row.take k
def bG(row:List ab):List ab:=kK row (fT row row 0 0)
theorem lH(row:List ab):∀(r:List ab) (i k:Nat),k<row.length→i+r.length=row.length→fT row r i k<row.length
 |[],_,k,hk,_=>hk
 |x::r,i,k,hk,hi=>by
  unfold fT;simp at hi
  split
  ·exact lH row r (i+1) i (by omega) (by omega)
  ·exact lH row r (i+1) k hk (by omega)
theorem dS(row:List ab)(k:Nat):(kK row k).length=row.length:=by unfold kK;simp;omega
theorem iC(row:List ab):(bG row).length=row.length:=dS _ _
theorem CL{row:List ab}{k:Nat}{d:ab}:d∈kK row k↔d∈row:=by unfold kK;rw[List.mem_append,or_comm,←List.mem_append,List.take_append_drop]
theorem kz{row:List ab}{d:ab}:d∈bG row↔d∈row:=CL
theorem mR{row:List ab}{k i:Nat}(hk:k≤row.length)(hi:i<row.length):(kK row k)[i]? = row[(k+i)%row.length]? := by
 unfold kK;by_cases h:k+i<row.length
 ·rw[List.getElem?_append_left (by simp;omega),List.getElem?_drop,Nat.mod_eq_of_lt h]
 ·rw[List.getElem?_append_right (by simp;omega),List.length_drop,List.getElem?_take,if_pos (by omega)];congr 1;have:(k+i)%row.length=k+i-row.length:=by rw[Nat.mod_eq_sub_mod (by omega),Nat.mod_eq_of_lt (by omega)]
  omega
theorem acn(row:List ab)(k:Nat)(hl:row.length≤100000000)(hk:k≤row.length):∀(n i:Nat) (out T:List ab),i+n=row.length→T=kK row k→out=T.take i → LX G 122 sN Tryz.f122 EH (aY Tryz.prog 122 1) ((row,((k:Int),((i:Int),()))),((),(out,())))=some ((T,()),()):=by
 intro n
 induction n with
 |zero =>
  intro i out T hi hT ho;refine aB VG ?_;have h1:¬((i:Int)<(row.length:Int)):=by omega
  have h2:out=T:=by rw[ho];exact List.take_of_length_le (by rw[hT,dS];omega)
  subst h2;simp only[h1,decide_false];rfl
 |succ n ih =>
  intro i out T hi hT ho;refine aB VG ?_;have aK:i<row.length:=by omega
  have hm:(k+i)%row.length<row.length:=adR _ (by omega);have h3:row[(k+i)%row.length]? = some row[(k+i)%row.length]:=aba hm;have h0:((((row.length:Nat):Int))==0)=false:=by simp;intro e;subst e;simp at aK
  have h4:IntKind.wrap .i64 ((k:Int)+(i:Int))=((k+i:Nat):Int):=by rw[wrap_small (by omega) (by omega)];rfl
  have hol:out.length≤row.length:=by rw[ho,hT];simp;rw[dS];omega
  have h5:aR out.length [row[(k+i)%row.length]].length=true:=fits (by simp;omega);have h6:out++[row[(k+i)%row.length]]=T.take (i+1):=by rw[ho,List.take_add_one,hT,mR hk aK,h3];rfl
  have h7:=ih (i+1) (out++[row[(k+i)%row.length]]) T (by omega) hT h6;simp only[bj aK,h0,h4,tW,aT h3,Option.bind_some,h5,aN aK (show row.length≤1073741824 by omega)];exact h7
theorem aco(hG:HG G)(row:List ab)(hl:row.length≤100000000):∀(n i k:Nat),i+n=row.length→(k<row.length∨(row=[]∧k=0)) → LX G 122 sN Tryz.f122 Ai (aY Tryz.prog 122 0) ((row,((k:Int),((i:Int),()))),((),()))=some ((kK row (fT row (row.drop i) i k),()),()):=by
 intro n
 induction n with
 |zero =>
  intro i k hi hk;refine aB VF ?_;have h1:¬((i:Int)<(row.length:Int)):=by omega
  have h2:row.drop i=[]:=adU (by omega);simp only[h1,h2,decide_false,cond_false,fT];exact acn (G:=G) row k hl (by rcases hk with h|⟨_,h⟩<;>omega) row.length 0 [] (kK row k) (by omega) rfl (by simp)
 |succ n ih =>
  intro i k hi hk;refine aB VF ?_;have aK:i<row.length:=by omega
  have zr:k<row.length:=hk.resolve_right (by rintro⟨rfl,_⟩;simp at aK);have h2:row.drop i=row[i]::row.drop (i+1):=adj aK;have h3:row[i]? = some row[i]:=aba aK;have h4:row[k]? = some row[k]:=aba zr;have h5:row.getD k zD=row[k]:=by simp[List.getD,h4]
  simp only[bj aK,cond_true,aT h3,aT h4,Option.bind_some,aN aK (show row.length≤1073741824 by omega)];refine aa (ags hG row[i] row[k]) ?_;rw[h2,fT,h5];by_cases ho:pW row[i] row[k]<0
  ·rw[if_pos ho];simp only[ho,decide_true];exact ih (i+1) i (by omega) (.inl aK)
  ·rw[if_neg ho];simp only[ho,decide_false];exact ih (i+1) k (by omega) (.inl zr)
theorem L0(hG:HG G)(row:List ab)(hl:row.length≤100000000):FX G 122 sN ((row,()),())=some ((bG row,()),()):=by refine aC (hG _ _ rfl) alk ?_;have:=aco (G:=G) hG row hl row.length 0 0 (by omega) (by cases row with|nil=>exact .inr ⟨rfl,rfl⟩|cons x r=>exact .inl (by simp));exact this
def gQ(row:List ab)(after d:ab):List ab :=if d∈row then bG row else bG (row.take ((max 0 (idx after row 0)).toNat+1)++(d::row.drop ((max 0 (idx after row 0)).toNat+1)))
def bw(row:List ab)(d:ab):List ab:=bG (row.filter fun e=>decide (e≠d))
def dK(row:List ab)(dv d:ab):List ab:=bG (if dv∈row∧d∉row then row.set (idx dv row 0).toNat d else row)
theorem aa8(hG:HG G)(row:List ab)(d:ab)(hl:row.length≤100000000):FX G 126 yi ((row,d,()),())=some ((bw row d,()),()):=by
 refine aC (hG _ _ rfl) aeT ?_;have key:=cC row (fun i (s:List ab)=>LX G 126 yi Tryz.f126 uV (aY Tryz.prog 126 0) ((row,(i,())),(((d,()),()),(s,())))) (fun r s=>((bG (s++r.filter fun e=>decide (e≠d)),()),())) (fun n s=>s.length+n≤row.length) (fun s hs=>by refine aB PM ?_;simp only[eE,cond_false];refine aa (L0 hG s (by omega)) ?_;simp only[List.filter_nil,List.append_nil];rfl) (fun i x r s hi hx hr hs ih=>by
   refine aB PM ?_;simp only[bj hi,cond_true,aT hx,Option.bind_some,lg,aN hi (show row.length≤1073741824 by omega)];by_cases he:x=d
   ·simp only[he,decide_true,Bool.not_true,ne_eq,not_true_eq_false,decide_false,List.filter_cons,Bool.false_eq_true,if_false];exact ih s (by omega)
   ·have h5:aR s.length [x].length=true:=fits (by simp;omega);simp only[he,decide_false,Bool.not_false,h5,ne_eq,not_false_eq_true,decide_true,List.filter_cons,if_true];have:=ih (s++[x]) (by simp;omega);rw[List.append_assoc]at this;exact this)
  [] (by simp)
 exact key
theorem Wl(row:List ab)(d:ab)(k:Nat):row.take (k+1)++(d::row.drop (k+1))=(row.take (k+1)++[d])++row.drop (k+1):=by simp
theorem agu(hG:HG G)(row:List ab)(after d:ab)(hl:row.length≤90000000):FX G 146 By ((row,after,d,()),())=some ((gQ row after d,()),()):=by
 refine aC (hG _ _ rfl) aeR ?_;refine aa (Jt (hG _ _ rfl) row d (by omega)) ?_;by_cases hd:d∈row
 case pos =>
  have h1:¬idx d row 0<0:=fun h=>fV.1 h hd;have h2:idx d row 0≥0:=by omega
  simp only[h2,decide_true,cond_true];refine aa (L0 hG row (by omega)) ?_;unfold gQ;rw[if_pos hd];rfl
 case neg =>
 have h1:¬idx d row 0≥0:=by have:=fV.2 hd;omega
 simp only[h1,decide_false,cond_false];refine aa (Jt (hG _ _ rfl) row after (by omega)) ?_;obtain⟨k,hk⟩:∃k:Nat,max 0 (idx after row 0)=(k:Int):=⟨(max 0 (idx after row 0)).toNat,by omega⟩;have Rl:k<row.length∨row=[]:=by
  rcases qJ after row 0 (by omega) with⟨e,_⟩|⟨q,e,e2,_⟩
  ·have:k=0:=by omega
   subst this
   cases row with
   |nil=>exact .inr rfl
   |cons x r=>exact .inl (by simp)
  ·have:=(abg.1 e2).1;exact .inl (by omega)
 have yh:gQ row after d=bG (row.take (k+1)++(d::row.drop (k+1))):=by unfold gQ;rw[if_neg hd,hk];rfl
 rw[yh];simp only[hk];obtain⟨fin,jv⟩:∃fin,fin=row.take (k+1)++(d::row.drop (k+1)):=⟨_,rfl⟩;rw[←jv];have loop:∀(n i:Nat) (out:List ab),i+n=row.length→out=(if i≤k then row.take i else(row.take (k+1)++[d])++(row.drop (k+1)).take (i-(k+1))) →
   LX G 146 By Tryz.f146 uU (aY Tryz.prog 146 0) ((row,((k:Int),((i:Int),()))),(((d,()),()),(out,())))=some ((bG fin,()),()):=by
  intro n
  induction n with
  |zero =>
   intro i out hi xV;refine aB PJ ?_;have h1:¬((i:Int)<(row.length:Int)):=by omega
   rcases Rl with Rl|rfl
   ·have h0:((((row.length:Nat):Int))==0)=false:=by simp;intro e;subst e;simp at Rl
    have h2:out=fin:=by have hle:(row.drop (k+1)).take (i-(k+1))=row.drop (k+1):=List.take_of_length_le (by rw[List.length_drop];omega);rw[xV,jv,if_neg (by omega),Wl,hle]
    subst h2;simp only[h1,decide_false,h0];exact aa (L0 hG out (by rw[jv];simp;omega)) rfl
   ·have YZ:i=0:=by simpa using hi
    subst YZ;have h2:out=[]:=by rw[xV];simp
    subst h2;have h3:fin=[d]:=by rw[jv];simp
    subst h3;exact aa (L0 hG [d] (by simp)) rfl
  |succ n ih =>
   intro i out hi xV;refine aB PJ ?_;have aK:i<row.length:=by omega
   have hx:row[i]? = some row[i]:=aba aK;have hol:out.length≤row.length+1:=by rw[xV];split<;>simp<;>omega
   have h5:aR out.length [row[i]].length=true:=fits (by simp;omega);simp only[bj aK,aT hx,Option.bind_some,aN aK (show row.length≤1073741824 by omega),h5];by_cases hik:i=k
   ·subst hik;have h6:aR (out++[row[i]]).length [d].length=true:=fits (by simp;omega);have h8:(((i:Nat):Int)==((i:Nat):Int))=true:=by simp
    simp only[h8,h6];exact ih (i+1) ((out++[row[i]])++[d]) (by omega) (by rw[if_neg (by omega),xV,if_pos (Nat.le_refl _),List.take_add_one,hx];simp)
   ·have h8:(((i:Nat):Int)==((k:Nat):Int))=false:=by simp;omega
    simp only[h8];refine ih (i+1) (out++[row[i]]) (by omega) ?_;rw[xV];by_cases hle:i≤k
    ·rw[if_pos hle,if_pos (by omega),List.take_add_one,hx];rfl
    ·have e9:(row.drop (k+1)).take (i+1-(k+1))=(row.drop (k+1)).take (i-(k+1))++[row[i]]:=by rw[show i+1-(k+1)=(i-(k+1))+1 by omega,List.take_add_one,List.getElem?_drop,show k+1+(i-(k+1))=i by omega,hx];rfl
     rw[if_neg hle,if_neg (by omega),e9,List.append_assoc]
 exact loop row.length 0 [] (by omega) (by simp)
theorem agv(hG:HG G)(row:List ab)(dv d:ab)(hl:row.length≤100000000):FX G 149 Lh ((row,dv,d,()),())=some ((dK row dv d,()),()):=by
 refine aC (hG _ _ rfl) aeU ?_;have h5:aR ([]:List ab).length row.length=true:=fits (by simp;omega);simp only[h5,cond_true,List.nil_append];refine aa (Jt (hG _ _ rfl) row dv (by omega)) ?_;unfold dK;by_cases ho:dv∈row
 ·obtain⟨k,h1,h2,h3⟩:=eX ho;have hk:=(abg.1 h2).1;have e1:((k:Int)≥0):=by omega
  simp only[h1,e1,decide_true];refine aa (Jt (hG _ _ rfl) row d (by omega)) ?_;by_cases hd:d∈row
  ·have h6:¬idx d row 0<0:=fun h=>fV.1 h hd;rw[if_neg (by simp[hd])];simp only[h6,decide_false];exact aa (L0 hG row hl) rfl
  ·have h6:=fV.2 hd;rw[if_pos ⟨ho,hd⟩];have h7:(0:Int)≤(k:Int):=by omega
   have h8:((k:Int)<((row.length:Nat):Int)):=by omega
   simp only[h6,decide_true,h7,h8,Bool.and_self,Int.toNat_natCast,h2];exact aa (L0 hG (row.set k d) (by simpa using hl)) rfl
 ·have h1:¬idx dv row 0≥0:=by have:=fV.2 ho;omega
  rw[if_neg (by simp[ho])];simp only[h1,decide_false];exact aa (L0 hG row hl) rfl
def e0:ByteArray:=⟨#[]⟩
def zI:ID:=(0,0)
def zV:ai:=((0,0),([],(e0,0)))
def zE:aj:=((0,0),(e0,0))
def aO(l:List ai)(x:ID):Option ai:=l.find? fun v=>decide (v.1=x)
def aP(l:List aj)(x:ID):Option aj:=l.find? fun v=>decide (v.1=x)
def aG(d:ak)(x:ID):Option ai:=aO d.1 x
def b5(d:ak)(x:ID):Option aj:=aP d.2 x
def E2(l:List ai)(x:ab):Option ID:=(l.find? fun v=>decide (x∈v.2.1)).map (·.1)
def bM(d:ak)(x:ab):Option ID:=E2 d.1 x
def ia{α:Type}(z:α):Option α→α×(Bool×Unit)
 |some y=>(y,(true,()))
 |none=>(z,(false,()))
theorem yR(hG:G 79 mA=none)(d:ak)(x:ID)(hl:d.1.length≤100000000):FX G 79 mA ((d,x,()),())=some (ia zV (aG d x),()):=by
 refine aC hG aku ?_;have Jv:=cC d.1 (fun i (_:Unit)=>LX G 79 mA Tryz.f79 En (aY Tryz.prog 79 0) ((i,()),(((d,()),((x,()),(((0:Int),((0:Int),(([]:List ab),(e0,((0:Int),()))))),()))),()))) (fun(r:List ai) (_:Unit)=>(ia zV (aO r x),())) (fun _ _=>True) (fun s _=>by refine aB U9 ?_;simp only[eE,cond_false];rfl) (fun i y r s hi hx hr _ ih=>by
   refine aB U9 ?_;simp only[bj hi,cond_true,aT hx,Option.bind_some,iL,aN hi (show d.1.length≤1073741824 by omega)];by_cases he:y.1=x
   ·simp only[he,decide_true,aO,aP,List.find?_cons];subst he;rfl
   ·simp only[he,decide_false,aO,aP,List.find?_cons];exact ih () trivial)
  () trivial
 exact Jv
theorem L3(hG:G 92 vz=none)(d:ak)(x:ID)(hl:d.2.length≤100000000):FX G 92 vz ((d,x,()),())=some (ia zE (b5 d x),()):=by
 refine aC hG akx ?_;have Jv:=cC d.2 (fun i (_:Unit)=>LX G 92 vz Tryz.f92 Ep (aY Tryz.prog 92 0) ((i,()),(((d,()),((x,()),(((((0:Int),(0:Int)),(e0,(0:Int))),()),()))),()))) (fun(r:List aj) (_:Unit)=>(ia zE (aP r x),())) (fun _ _=>True) (fun s _=>by refine aB Vb ?_;simp only[eE,cond_false];rfl) (fun i y r s hi hx hr _ ih=>by
   refine aB Vb ?_;simp only[bj hi,cond_true,aT hx,Option.bind_some,iL,aN hi (show d.2.length≤1073741824 by omega)];by_cases he:y.1=x
   ·simp only[he,decide_true,aO,aP,List.find?_cons];subst he;rfl
   ·simp only[he,decide_false,aO,aP,List.find?_cons];exact ih () trivial)
  () trivial
 exact Jv
theorem Jw(hG:HG G)(d:ak)(x:ab)(hl:d.1.length≤100000000)(hr:∀v∈d.1,v.2.1.length≤100000000):FX G 124 rO ((d,x,()),())=some (ia zI (bM d x),()):=by
 refine aC (hG _ _ rfl) akw ?_;have Jv:=cC d.1 (fun i (_:Unit)=>LX G 124 rO Tryz.f124 Eo (aY Tryz.prog 124 0) ((i,()),(((d,()),((x,()),((((0:Int),(0:Int)),()),()))),()))) (fun r _=>(ia zI (E2 r x),())) (fun _ _=>True) (fun s _=>by refine aB Va ?_;simp only[eE,cond_false];rfl) (fun i y r s hi hx E3 _ ih=>by
   refine aB Va ?_;simp only[bj hi,cond_true,aT hx,Option.bind_some,aN hi (show d.1.length≤1073741824 by omega)];refine aa (Jt (hG _ _ rfl) y.2.1 x (by have:=hr y (ab1 hx);omega)) ?_;by_cases he:x∈y.2.1
   ·have h1:idx x y.2.1 0≥0:=by obtain⟨k,h,_⟩:=eX he;omega
    simp only[h1,decide_true,E2,List.find?_cons,he];rfl
   ·have h1:¬idx x y.2.1 0≥0:=by have:=fV.2 he;omega
    simp only[h1,decide_false,E2,List.find?_cons,he];exact ih () trivial)
  () trivial
 exact Jv
theorem agw(hG:G 21 GC=none)(d:ak)(hl:d.1.length≤100000000)(zK:d.2.length≤100000000)(hr:∀v∈d.1,v.2.1.length≤100000000):FX G 21 GC ((d,()),())=some (((d.1,(d.2,())),()),()):=by refine aC hG akL ?_;have h5:aR ([]:List aj).length d.2.length=true:=fits (by simp;omega);simp only[h5,cond_true,List.nil_append];have Jv:=cC d.1 (fun i (out:List ai)=>LX G 21 GC Tryz.f21 Ex (aY Tryz.prog 21 0) ((i,()),(((d,()),((([]:List ai),(([]:List aj),())),((out,(d.2,())),()))),()))) (fun r s=>(((s++r,(d.2,())),()),())) (fun n s=>s.length+n≤d.1.length) (fun s _=>by refine aB Vk ?_;simp only[eE,List.append_nil];rfl) (fun i y r s hi hx E3 hs ih=>by refine aB Vk ?_;have h6:aR ([]:List ab).length y.2.1.length=true:=fits (by have:=hr y (ab1 hx);simp;omega);have h7:aR s.length [(y.1,(y.2.1,y.2.2))].length=true:=fits (by simp;omega);simp only[bj hi,aT hx,Option.bind_some,h6,List.nil_append,h7,aN hi (show d.1.length≤1073741824 by omega)];have:=ih (s++[y]) (by simp;omega);rw[List.append_assoc]at this;exact this) [] (by simp);exact Jv
def cx(v:ai):List ai→List ai
 |[]=>[v]
 |w::r=>if im v.1 w.1 then v::w::r else w::cx v r
def bW(v:aj):List aj→List aj
 |[]=>[v]
 |w::r=>if im v.1 w.1 then v::w::r else w::bW v r
theorem cy(a:ID):im a a=false:=by simp[im]
theorem pj(a b:ID):tV a b<0↔im a b=true:=by
 unfold tV;by_cases h:a=b
 ·subst h;simp[cy]
 ·rw[if_neg h];split<;>simp_all
theorem agx(hG:HG G)(d:ak)(v:ai)(hl:d.1.length≤100000000):FX G 80 I6 ((d,v,()),())=some (((cx v d.1,d.2),()),()):=by
 refine aC (hG _ _ rfl) akP ?_;have key:=cC d.1 (fun i (s:Bool×List ai)=>LX G 80 I6 Tryz.f80 wW (aY Tryz.prog 80 0) ((s.1,(i,())),(((d,()),((v,()),((([]:List ai),(([]:List aj),())),((s.2,(d.2,())),())))),()))) (fun r s=>(((s.2++(if s.1 then r else cx v r),d.2),()),())) (fun n s=>s.2.length+n≤d.1.length+(if s.1 then 1 else 0))
  (fun s hs=>by
   obtain⟨put,s⟩:=s;refine aB Vm ?_;have h7:aR s.length [v].length=true:=fits (by simp at hs ⊢;split at hs<;>omega)
   cases put
   ·simp only[eE,h7,cx];rfl
   ·simp only[eE,if_true,List.append_nil];rfl)
  (fun i y r s hi hx E3 hs ih=>by
   obtain⟨put,s⟩:=s;refine aB Vm ?_;have h6:aR s.length [y].length=true:=fits (by simp at hs ⊢;split at hs<;>omega)
   cases put
   ·have h7:aR s.length [v].length=true:=fits (by simp at hs ⊢;omega);have h8:aR (s++[v]).length [y].length=true:=fits (by simp at hs ⊢;omega);simp only[bj hi,aT hx,Option.bind_some,aN hi (show d.1.length≤1073741824 by omega)];refine aa (ack (hG _ _ rfl) v.1 y.1) ?_;by_cases ho:im v.1 y.1=true
    ·have h9:=(pj _ _).2 ho;have:=ih (true,(s++[v])++[y]) (by simp at hs ⊢;omega);simp only[h9,decide_true,h7,h8,cx,ho,if_true,Bool.false_eq_true,if_false];exact this.trans (congrArg (fun l:List ai=>some (((l,d.2),()),())) (show((s++[v])++[y])++r=s++(v::y::r) by simp))
    ·have h9:¬tV v.1 y.1<0:=fun h=>ho ((pj _ _).1 h);have:=ih (false,s++[y]) (by simp at hs ⊢;omega);simp only[h9,decide_false,h6,cx,ho,if_false,Bool.false_eq_true];exact this.trans (congrArg (fun l:List ai=>some (((l,d.2),()),())) (show(s++[y])++cx v r=s++(y::cx v r) by simp))
   ·have:=ih (true,s++[y]) (by simp at hs ⊢;omega);simp only[bj hi,aT hx,Option.bind_some,aN hi (show d.1.length≤1073741824 by omega),h6,if_true];exact this.trans (congrArg (fun l:List ai=>some (((l,d.2),()),())) (show(s++[y])++r=s++(y::r) by simp)))
  (false,[]) (by simp)
 exact key
theorem agy(hG:HG G)(d:ak)(v:aj)(hl:d.2.length≤100000000):FX G 115 B8 ((d,v,()),())=some (((d.1,bW v d.2),()),()):=by
 refine aC (hG _ _ rfl) ale ?_;have key:=cC d.2 (fun i (s:Bool×List aj)=>LX G 115 B8 Tryz.f115 wX (aY Tryz.prog 115 0) ((s.1,(i,())),(((d,()),((v,()),((([]:List ai),(([]:List aj),())),((d.1,(s.2,())),())))),()))) (fun r s=>(((d.1,s.2++(if s.1 then r else bW v r)),()),())) (fun n s=>s.2.length+n≤d.2.length+(if s.1 then 1 else 0))
  (fun s hs=>by
   obtain⟨put,s⟩:=s;refine aB VC ?_;have h7:aR s.length [v].length=true:=fits (by simp at hs ⊢;split at hs<;>omega)
   cases put
   ·simp only[eE,h7,bW];rfl
   ·simp only[eE,if_true,List.append_nil];rfl)
  (fun i y r s hi hx E3 hs ih=>by
   obtain⟨put,s⟩:=s;refine aB VC ?_;have h6:aR s.length [y].length=true:=fits (by simp at hs ⊢;split at hs<;>omega)
   cases put
   ·have h7:aR s.length [v].length=true:=fits (by simp at hs ⊢;omega);have h8:aR (s++[v]).length [y].length=true:=fits (by simp at hs ⊢;omega);simp only[bj hi,aT hx,Option.bind_some,aN hi (show d.2.length≤1073741824 by omega)];refine aa (ack (hG _ _ rfl) v.1 y.1) ?_;by_cases ho:im v.1 y.1=true
    ·have h9:=(pj _ _).2 ho;have:=ih (true,(s++[v])++[y]) (by simp at hs ⊢;omega);simp only[h9,decide_true,h7,h8,bW,ho,if_true,Bool.false_eq_true,if_false];exact this.trans (congrArg (fun l:List aj=>some (((d.1,l),()),())) (show((s++[v])++[y])++r=s++(v::y::r) by simp))
    ·have h9:¬tV v.1 y.1<0:=fun h=>ho ((pj _ _).1 h);have:=ih (false,s++[y]) (by simp at hs ⊢;omega);simp only[h9,decide_false,h6,bW,ho,if_false,Bool.false_eq_true];exact this.trans (congrArg (fun l:List aj=>some (((d.1,l),()),())) (show(s++[y])++bW v r=s++(y::bW v r) by simp))
   ·have:=ih (true,s++[y]) (by simp at hs ⊢;omega);simp only[bj hi,aT hx,Option.bind_some,aN hi (show d.2.length≤1073741824 by omega),h6,if_true];exact this.trans (congrArg (fun l:List aj=>some (((d.1,l),()),())) (show(s++[y])++r=s++(y::r) by simp)))
  (false,[]) (by simp)
 exact key
def bF(l:List ai)(v:ID):List ai:=l.filter fun w=>decide (w.1≠v)
def bH(l:List aj)(v:ID):List aj:=l.filter fun w=>decide (w.1≠v)
def aH(d:ak)(v e:ID):ak:=(bF d.1 v,bH d.2 e)
theorem Ze(hG:G 81 rP=none)(d:ak)(v e:ID)(hl:d.1.length≤100000000)(zK:d.2.length≤100000000):FX G 81 rP ((d,v,e,()),())=some ((aH d v e,()),()):=by
 refine aC hG akQ ?_;have Zg:=fun vs=>cC d.2 (fun i (s:List aj)=>LX G 81 rP Tryz.f81 Ag (aY Tryz.prog 81 1) ((i,()),(((d,()),((e,()),((([]:List ai),(([]:List aj),())),((vs,(s,())),())))),()))) (fun(r:List aj) (s:List aj)=>(((vs,s++bH r e),()),())) (fun n s=>s.length+n≤d.2.length) (fun s hs=>by refine aB Vo ?_;simp only[eE,bF,bH,List.filter_nil,List.append_nil];rfl) (fun i y r s hi hx E3 hs ih=>by
   refine aB Vo ?_;have h6:aR s.length [y].length=true:=fits (by simp at hs ⊢;omega);simp only[bj hi,aT hx,Option.bind_some,iL,aN hi (show d.2.length≤1073741824 by omega)];by_cases he:y.1=e
   ·simp only[he,decide_true,Bool.not_true,ne_eq,not_true_eq_false,decide_false,bF,bH,List.filter_cons,Bool.false_eq_true,if_false];exact ih s (by omega)
   ·simp only[he,decide_false,Bool.not_false,h6,ne_eq,not_false_eq_true,decide_true,bF,bH,List.filter_cons,if_true];have:=ih (s++[y]) (by simp;omega);rw[List.append_assoc]at this;exact this)
  [] (by simp)
 have Jv:=cC d.1 (fun i (s:List ai)=>LX G 81 rP Tryz.f81 Af (aY Tryz.prog 81 0) ((i,()),(((d,()),((v,()),((e,()),((([]:List ai),(([]:List aj),())),((s,(([]:List aj),())),()))))),()))) (fun(r:List ai) (s:List ai)=>(((s++bF r v,bH d.2 e),()),())) (fun n s=>s.length+n≤d.1.length) (fun s hs=>by refine aB Vn ?_;simp only[eE,bF,bH,List.filter_nil,List.append_nil];exact Zg s) (fun i y r s hi hx E3 hs ih=>by
   refine aB Vn ?_;have h6:aR s.length [y].length=true:=fits (by simp at hs ⊢;omega);simp only[bj hi,aT hx,Option.bind_some,iL,aN hi (show d.1.length≤1073741824 by omega)];by_cases he:y.1=v
   ·simp only[he,decide_true,Bool.not_true,ne_eq,not_true_eq_false,decide_false,bF,bH,List.filter_cons,Bool.false_eq_true,if_false];exact ih s (by omega)
   ·simp only[he,decide_false,Bool.not_false,h6,ne_eq,not_false_eq_true,decide_true,bF,bH,List.filter_cons,if_true];have:=ih (s++[y]) (by simp;omega);rw[List.append_assoc]at this;exact this)
  [] (by simp)
 exact Jv
instance aoW:DecidableEq (List ai):=@instDecidableEqList ai inferInstance
instance decLE:DecidableEq (List aj):=@instDecidableEqList aj inferInstance
instance aja:DecidableEq ak:=instDecidableEqProd
instance agz:DecidableEq StateT:=instDecidableEqProd
structure Sm(d:ak):Prop where
 v:d.1.length≤50000000
 e:d.2.length≤50000000
 r:∀w∈d.1,w.2.1.length≤50000000
def iX(x:ID)(l:List ab)(w:ai):ai:=if w.1=x then(w.1,(l,w.2.2)) else w
def cj(d:ak)(x:ID)(l:List ab):ak:=(d.1.map (iX x l),d.2)
theorem gy(i:Nat):decide ((0:Int)≤(i:Int))=true:=by simp
theorem yS{α:Type}(f:α→α)(l:List α)(i:Nat)(x:α)(hx:l[i]? = some x):((l.take i).map f++l.drop i).set i (f x)=(l.take (i+1)).map f++l.drop (i+1):=by have hi:=(abg.1 hx).1;have h2:l.drop i=l[i]::l.drop (i+1):=adj hi;have h3:l[i]=x:=(abg.1 hx).2;rw[List.set_append_right _ _ (by simp;omega),h2,List.length_map,List.length_take,Nat.min_eq_left (by omega),Nat.sub_self,List.set_cons_zero,List.take_add_one,hx];simp
theorem tX{α:Type}(f:α→α)(l:List α)(i:Nat)(x:α)(hx:l[i]? = some x)(hf:f x=x):(l.take i).map f++l.drop i=(l.take (i+1)).map f++l.drop (i+1):=by have hi:=(abg.1 hx).1;have h2:l.drop i=l[i]::l.drop (i+1):=adj hi;have h3:l[i]=x:=(abg.1 hx).2;rw[h2,h3,List.take_add_one,hx];simp[hf]
theorem Jx{α:Type}(f:α→α)(l:List α)(i:Nat)(x:α)(hx:l[i]? = some x):((l.take i).map f++l.drop i)[i]? = some x:=by have hi:=(abg.1 hx).1;rw[List.getElem?_append_right (by simp;omega),List.length_map,List.length_take,Nat.min_eq_left (by omega),Nat.sub_self,List.getElem?_drop,Nat.add_zero,hx]
theorem acp(hG:HG G)(d:ak)(x:ID)(l:List ab)(hs:Sm d):FX G 145 GI ((d,x,l,()),())=some ((cj d x l,()),()):=by
 have hv:=hs.v;have he:=hs.e;refine aC (hG _ _ rfl) alB ?_;refine aa (agw (hG _ _ rfl) d (by omega) (by omega) (fun w hw=>by have:=hs.r w hw;omega)) ?_;have loop:∀(n i:Nat) (out fin:List ai),i+n=d.1.length→out=(d.1.take i).map (iX x l)++d.1.drop i→fin=d.1.map (iX x l) → LX G 145 GI Tryz.f145 Al (aY Tryz.prog 145 0) ((l,((i:Int),())),(((x,()),((([]:List ai),(([]:List aj),())),((out,(d.2,())),()))),()))=some (((fin,d.2),()),()):=by
  intro n
  induction n with
  |zero =>
   intro i out fin hi ho hf;refine aB VL ?_;have hol:out.length=d.1.length:=by rw[ho];simp;omega
   have h1:¬((i:Int)<(out.length:Int)):=by omega
   have h2:out=fin:=by rw[ho,hf,List.take_of_length_le (by omega),List.drop_eq_nil_of_le (by omega),List.append_nil]
   subst h2;simp only[h1,decide_false];rfl
  |succ n ih =>
   intro i out fin hi ho hf;refine aB VL ?_;have hol:out.length=d.1.length:=by rw[ho];simp;omega
   have aK:i<d.1.length:=by omega
   have hx:d.1[i]? = some d.1[i]:=aba aK;have hg:out[i]? = some d.1[i]:=by rw[ho];exact Jx _ _ _ _ hx
   simp only[bj (show i<out.length by omega),gy,Bool.and_self,Int.toNat_natCast,hg,Option.bind_some,iL,aN aK (show d.1.length≤1073741824 by omega)];by_cases hq:d.1[i].1=x
   ·have e1:iX x l d.1[i]=(x,(l,d.1[i].2.2)):=by unfold iX;rw[if_pos hq,hq]
    simp only[hq,decide_true];exact ih (i+1) (out.set i (x,(l,d.1[i].2.2))) fin (by omega) (by rw[ho,←yS _ _ _ _ hx,e1]) hf
   ·have e1:iX x l d.1[i]=d.1[i]:=by unfold iX;rw[if_neg hq]
    simp only[hq,decide_false];exact ih (i+1) out fin (by omega) (by rw[ho];exact tX _ _ _ _ hx e1) hf
 exact loop d.1.length 0 d.1 (d.1.map (iX x l)) (by omega) (by simp) rfl
def aW(d:ak)(x:ID):List ab:=((aG d x).getD zV).2.1
theorem dG{α:Type}(z:α)(o:Option α):(ia z o).1=o.getD z:=by cases o<;>rfl
theorem jD{α:Type}(z:α)(o:Option α):(ia z o).2.1=o.isSome:=by cases o<;>rfl
theorem nj{d:ak}(hs:Sm d)(x:ID):(aW d x).length≤50000000:=by
 unfold aW
 cases h:aG d x with
 |none=>simp[zV]
 |some v=>exact hs.r v (ab5 h)
def br(d:ak)(c:lW)(x:ab):ak:=cj d c.1 (gQ (aW d c.1) c.2 x)
def az(d:ak)(dv x:ab):ak:=cj d ((bM d dv).getD zI) (dK (aW d ((bM d dv).getD zI)) dv x)
def au(d:ak)(x:ab):ak:=cj d ((bM d x).getD zI) (bw (aW d ((bM d x).getD zI)) x)
theorem agA(hG:HG G)(d:ak)(c:lW)(x:ab)(hs:Sm d):FX G 116 B9 ((d,c,x,()),())=some ((br d c x,()),()):=by have hv:=hs.v;have hr:=nj hs c.1;refine aC (hG _ _ rfl) alf ?_;refine aa (yR (hG _ _ rfl) d c.1 (by omega)) ?_;rw[show(ia zV (aG d c.1)).1=(aG d c.1).getD zV from dG _ _];refine aa (agu hG (aW d c.1) c.2 x (by omega)) ?_;exact aa (acp hG d c.1 (gQ (aW d c.1) c.2 x) hs) rfl
theorem agB(hG:HG G)(d:ak)(dv x:ab)(hs:Sm d):FX G 120 Ld ((d,dv,x,()),())=some ((az d dv x,()),()):=by have hv:=hs.v;have hr:=nj hs ((bM d dv).getD zI);refine aC (hG _ _ rfl) alj ?_;refine aa (Jw hG d dv (by omega) (fun w hw=>by have:=hs.r w hw;omega)) ?_;rw[show(ia zI (bM d dv)).1=(bM d dv).getD zI from dG _ _];refine aa (yR (hG _ _ rfl) d ((bM d dv).getD zI) (by omega)) ?_;rw[show(ia zV (aG d ((bM d dv).getD zI))).1=(aG d ((bM d dv).getD zI)).getD zV from dG _ _];refine aa (agv hG (aW d ((bM d dv).getD zI)) dv x (by omega)) ?_;exact aa (acp hG d ((bM d dv).getD zI) (dK (aW d ((bM d dv).getD zI)) dv x) hs) rfl
theorem agC(hG:HG G)(d:ak)(x:ab)(hs:Sm d):FX G 119 Sc ((d,x,()),())=some ((au d x,()),()):=by have hv:=hs.v;have hr:=nj hs ((bM d x).getD zI);refine aC (hG _ _ rfl) ali ?_;refine aa (Jw hG d x (by omega) (fun w hw=>by have:=hs.r w hw;omega)) ?_;rw[show(ia zI (bM d x)).1=(bM d x).getD zI from dG _ _];refine aa (yR (hG _ _ rfl) d ((bM d x).getD zI) (by omega)) ?_;rw[show(ia zV (aG d ((bM d x).getD zI))).1=(aG d ((bM d x).getD zI)).getD zV from dG _ _];refine aa (aa8 hG (aW d ((bM d x).getD zI)) x (by omega)) ?_;exact aa (acp hG d ((bM d x).getD zI) (bw (aW d ((bM d x).getD zI)) x) hs) rfl
def cr(row:List ab)(x:ab):ab:=(cK row x (row.length-1)).getD zD
theorem u6(o:Option ab):(zt o).1=o.getD zD:=by cases o<;>rfl
def dB(d:ak)(x:ab):ab :=
 let row:=aW d ((bM d x).getD zI)
 let y:=cr row x
 let z:=if y.1=x.1 then cr row y else y
 if z.1=x.1 then zD else z
theorem agD(hG:HG G)(d:ak)(x:ab)(hs:Sm d):FX G 118 Sb ((d,x,()),())=some ((dB d x,()),()):=by
 have hv:=hs.v;have hr:=nj hs ((bM d x).getD zI);refine aC (hG _ _ rfl) alh ?_;refine aa (Jw hG d x (by omega) (fun w hw=>by have:=hs.r w hw;omega)) ?_;rw[show(ia zI (bM d x)).1=(bM d x).getD zI from dG _ _];refine aa (yR (hG _ _ rfl) d ((bM d x).getD zI) (by omega)) ?_;rw[show(ia zV (aG d ((bM d x).getD zI))).1=(aG d ((bM d x).getD zI)).getD zV from dG _ _];refine aa (acm hG (aW d ((bM d x).getD zI)) x (by omega)) ?_;rw[show(zt (cK (aW d ((bM d x).getD zI)) x ((aW d ((bM d x).getD zI)).length-1))).1=cr (aW d ((bM d x).getD zI)) x from u6 _];unfold dB;obtain⟨y,hy⟩:∃y,y=cr (aW d ((bM d x).getD zI)) x:=⟨_,rfl⟩;simp only[←hy,iL];by_cases h1:y.1=x.1
 ·have d1:=decide_eq_true h1;rw[if_pos h1];simp only[d1];refine aa (acm hG (aW d ((bM d x).getD zI)) y (by omega)) ?_;rw[show(zt (cK (aW d ((bM d x).getD zI)) y ((aW d ((bM d x).getD zI)).length-1))).1=cr (aW d ((bM d x).getD zI)) y from u6 _];by_cases h2:(cr (aW d ((bM d x).getD zI)) y).1=x.1
  ·have d2:=decide_eq_true h2;rw[if_pos h2];simp only[d2];rfl
  ·have d2:=decide_eq_false h2;rw[if_neg h2];simp only[d2];rfl
 ·have d1:=decide_eq_false h1;rw[if_neg h1,if_neg h1];simp only[d1];rfl
def iD(l:List aF)(d:ab):Option ab:=(l.find? fun g=>decide (g.1=d)).map (·.2)
theorem aa9(hG:G 147 vW=none)(l:List aF)(d:ab)(hl:l.length≤100000000):FX G 147 vW ((l,d,()),())=some (ia zD (iD l d),()):=by
 refine aC hG aeS ?_;have key:=cC l (fun i (_:Unit)=>LX G 147 vW Tryz.f147 ym (aY Tryz.prog 147 0) ((l,(i,())),(((d,()),(((((0:Int),(0:Int)),(0:Int)),()),())),()))) (fun(r:List aF) (_:Unit)=>(ia zD (iD r d),())) (fun _ _=>True) (fun s _=>by refine aB PL ?_;simp only[eE,cond_false];rfl) (fun i y r s hi hx hr _ ih=>by
   refine aB PL ?_;simp only[bj hi,aT hx,Option.bind_some,lg,aN hi (show l.length≤1073741824 by omega)];by_cases he:y.1=d
   ·simp only[he,decide_true,iD,List.find?_cons];rfl
   ·simp only[he,decide_false,iD,List.find?_cons];exact ih () trivial)
  () trivial
 exact key
theorem al6(hG:G 65 I7=none)(a b:List aF)(ha:a.length≤100000000):FX G 65 I7 ((a,b,()),())=some ((decide (a=b),()),()):=by
 refine aC hG akW ?_;by_cases hl:a.length=b.length
 case neg =>
  have h1:((((a.length:Nat):Int)) != ((b.length:Nat):Int))=true:=by simp;omega
  have h2:¬a=b:=fun e=>hl (by rw[e]);simp only[h1,h2,decide_false];rfl
 have h1:((((a.length:Nat):Int)) != ((b.length:Nat):Int))=false:=by simp[hl]
 simp only[h1];have HC:(a.zip b).length=a.length:=by simp[hl]
 have key:=cC (a.zip b) (fun i (_:Unit)=>LX G 65 I7 Tryz.f65 EA (aY Tryz.prog 65 0) ((a,(b,(i,()))),((),()))) (fun r _=>((r.all (fun p=>decide (p.1=p.2)),()),())) (fun _ _=>True) (fun s _=>by refine aB Vt ?_;rw[HC];simp only[eE];rfl) (fun i x r s hi hx hr _ ih=>by
   rw[HC]at hi;obtain⟨h3,h4⟩:=CJ hx;refine aB Vt ?_;simp only[bj hi,aT h3,aT h4,Option.bind_some,lg,aN hi (show a.length≤1073741824 by omega)];by_cases he:x.1=x.2
   ·simp only[he,decide_true,Bool.and_self,Bool.not_true,List.all_cons,Bool.true_and];exact ih () trivial
   ·have h9:(decide (x.1.1=x.2.1)&&decide (x.1.2=x.2.2))=false:=by rw[Bool.eq_false_iff];intro h;simp at h;exact he (Prod.ext h.1 h.2)
    simp only[he,h9,decide_false,Bool.not_false,List.all_cons,Bool.false_and];rfl)
  () trivial
 rw[yO a b hl]at key;exact key
theorem agE(hG:HG G)(a b:ak)(hs:Sm a):FX G 55 B5 ((a,b,()),())=some ((decide (a=b),()),()):=by
 have hv:=hs.v;have he:=hs.e;refine aC (hG _ _ rfl) akC ?_;by_cases hl:a.1.length=b.1.length
 case neg =>
  have h1:((((a.1.length:Nat):Int)) != ((b.1.length:Nat):Int))=true:=by simp;omega
  have h2:¬a=b:=fun e=>hl (by rw[e]);simp only[h1,h2,decide_false];rfl
 have h1:((((a.1.length:Nat):Int)) != ((b.1.length:Nat):Int))=false:=by simp[hl]
 simp only[h1];by_cases zK:a.2.length=b.2.length
 case neg =>
  have h1:((((a.2.length:Nat):Int)) != ((b.2.length:Nat):Int))=true:=by simp;omega
  have h2:¬a=b:=fun e=>zK (by rw[e]);simp only[h1,h2,decide_false];rfl
 have h2:((((a.2.length:Nat):Int)) != ((b.2.length:Nat):Int))=false:=by simp[zK]
 simp only[h2];have HC:(a.1.zip b.1).length=a.1.length:=by simp[hl]
 have agF:(a.2.zip b.2).length=a.2.length:=by simp[zK]
 have Zg:=cC (a.2.zip b.2) (fun i (_:Unit)=>LX G 55 B5 Tryz.f55 Eu (aY Tryz.prog 55 1) ((i,()),(((a,()),((b,()),())),()))) (fun r _=>((r.all (fun p=>decide (p.1=p.2)),()),())) (fun _ _=>True) (fun s _=>by refine aB Vf ?_;rw[agF];simp only[eE];rfl) (fun i x r s hi hx hr _ ih=>by
   rw[agF]at hi;obtain⟨h3,h4⟩:=CJ hx;refine aB Vf ?_;simp only[bj hi,aT h3,aT h4,Option.bind_some,iL,Ol,aN hi (show a.2.length≤1073741824 by omega)];by_cases he:x.1=x.2
   ·simp only[he,decide_true,beq_self_eq_true,Bool.and_self,Bool.not_true,List.all_cons,Bool.true_and];exact ih () trivial
   ·have h9:(decide (x.1.1=x.2.1)&&(decide (x.1.2.1=x.2.2.1)&&(x.1.2.2==x.2.2.2)))=false:=by rw[Bool.eq_false_iff];intro h;simp at h;exact he (Prod.ext h.1 (Prod.ext h.2.1 h.2.2))
    simp only[he,h9,decide_false,Bool.not_false,List.all_cons,Bool.false_and];rfl)
  () trivial
 rw[yO a.2 b.2 zK]at Zg;have key:=cC (a.1.zip b.1) (fun i (_:Unit)=>LX G 55 B5 Tryz.f55 Et (aY Tryz.prog 55 0) ((i,()),(((a,()),((b,()),())),()))) (fun r _=>((r.all (fun p=>decide (p.1=p.2))&&decide (a.2=b.2),()),())) (fun _ _=>True) (fun s _=>by refine aB Ve ?_;rw[HC];simp only[eE,List.all_nil,Bool.true_and];exact Zg) (fun i x r s hi hx hr _ ih=>by
   rw[HC]at hi;obtain⟨h3,h4⟩:=CJ hx;refine aB Ve ?_;simp only[bj hi,aT h3,aT h4,Option.bind_some,iL,Ol,aN hi (show a.1.length≤1073741824 by omega)];refine aa (al5 hG x.1.2.1 x.2.2.1 (by have:=hs.r x.1 (ab1 h3);omega)) ?_;by_cases e1:x.1.1=x.2.1
   case neg =>
    have he:¬x.1=x.2:=fun e=>e1 (by rw[e]);have d1:=decide_eq_false e1;simp only[d1,he,decide_false,List.all_cons,Bool.false_and];rfl
   have d1:=decide_eq_true e1;by_cases e2:x.1.2.2.1=x.2.2.2.1
   case neg =>
    have he:¬x.1=x.2:=fun e=>e2 (by rw[e]);have d2:=decide_eq_false e2;simp only[d1,d2,he,decide_false,List.all_cons,Bool.false_and];rfl
   have d2:=decide_eq_true e2;by_cases e3:x.1.2.2.2=x.2.2.2.2
   case neg =>
    have he:¬x.1=x.2:=fun e=>e3 (by rw[e]);have h8:(x.1.2.2.2 != x.2.2.2.2)=true:=by simp[e3]
    simp only[d1,d2,h8,he,decide_false,List.all_cons,Bool.false_and];rfl
   have h8:(x.1.2.2.2 != x.2.2.2.2)=false:=by simp[e3]
   by_cases e4:x.1.2.1=x.2.2.1
   case neg =>
    have he:¬x.1=x.2:=fun e=>e4 (by rw[e]);have d4:=decide_eq_false e4;simp only[d1,d2,h8,d4,he,decide_false,List.all_cons,Bool.false_and];rfl
   have d4:=decide_eq_true e4;have he:decide (x.1=x.2)=true:=decide_eq_true (Prod.ext e1 (Prod.ext e4 (Prod.ext e2 e3)));simp only[d1,d2,h8,d4,he,List.all_cons,Bool.true_and];exact ih () trivial)
  () trivial
 rw[yO a.1 b.1 hl]at key;have jv:(decide (a.1=b.1)&&decide (a.2=b.2))=decide (a=b):=by rw[Bool.eq_iff_iff];simp[Prod.ext_iff]
 exact key.trans (congrArg (fun b:Bool=>some ((b,()),())) jv)
theorem al7(hG:HG G)(a b:StateT)(hs:Sm a.1)(hg:a.2.length≤50000000):FX G 22 US ((a,b,()),())=some ((decide (a=b),()),()):=by
 refine aC (hG _ _ rfl) akt ?_;refine aa (agE hG a.1 b.1 hs) ?_;refine aa (al6 (hG _ _ rfl) a.2 b.2 (by omega)) ?_;have jv:(decide (a.1=b.1)&&decide (a.2=b.2))=decide (a=b):=by rw[Bool.eq_iff_iff];simp[Prod.ext_iff]
 rw[←jv];by_cases h:a.1=b.1
 ·simp only[h,decide_true,Bool.true_and];rfl
 ·simp only[h,decide_false,Bool.false_and];rfl
def pZ(g:aF)(l:List aF):List aF:=l.filter fun q=>decide (q.1≠g.1)
def mS(g:aF):List aF→List aF
 |[]=>[g]
 |e::r=>if pW g.1 e.1≤0 then g::pZ g (e::r) else if e.1≠g.1 then e::mS g r else mS g r
def bR(l:List aF)(g:aF):List aF:=if(iD l g.1).isSome=false∧400≤l.length then l else mS g l
def Sz(g:aF)(put:Bool)(r:List aF):List aF:=if put then pZ g r else mS g r
theorem agG(hG:HG G)(l:List aF)(g:aF)(hl:l.length≤50000000) :
  LX G 117 Ca Tryz.f117 mB (aY Tryz.prog 117 0) ((l,(false,((0:Int),()))),(((g,()),()),(([]:List aF),())))=some ((mS g l,()),()):=by
 have key:=cC l (fun i (s:Bool×List aF)=>LX G 117 Ca Tryz.f117 mB (aY Tryz.prog 117 0) ((l,(s.1,(i,()))),(((g,()),()),(s.2,())))) (fun(r:List aF) (s:Bool×List aF)=>((s.2++Sz g s.1 r,()),())) (fun n s=>s.2.length+n≤l.length+(if s.1 then 1 else 0))
  (fun s hs=>by
   obtain⟨put,s⟩:=s;refine aB VD ?_;have h7:aR s.length [g].length=true:=fits (by simp at hs ⊢;split at hs<;>omega)
   cases put
   ·simp only[eE,h7,Sz,mS];rfl
   ·simp only[eE,Sz,if_true,pZ,List.filter_nil,List.append_nil];rfl)
  (fun i y r s hi hx E3 hs ih=>by
   obtain⟨put,s⟩:=s;refine aB VD ?_;have h6:aR s.length [y].length=true:=fits (by simp at hs ⊢;split at hs<;>omega);have hw:=aN hi (show l.length≤1073741824 by omega)
   cases put
   ·have h7:aR s.length [g].length=true:=fits (by simp at hs ⊢;omega);have h8:aR (s++[g]).length [y].length=true:=fits (by simp at hs ⊢;omega);simp only[bj hi,aT hx,Option.bind_some,hw];refine aa (ags hG g.1 y.1) ?_;by_cases ho:pW g.1 y.1≤0
    ·have d0:=decide_eq_true ho;by_cases hy:y.1=g.1
     ·have d1:=decide_eq_true hy;have:=ih (true,s++[g]) (by simp at hs ⊢;omega);simp only[d0,h7,lg,d1,Sz,mS,ho,if_true,Bool.false_eq_true,if_false];refine this.trans (congrArg (fun l:List aF=>some ((l,()),())) ?_);simp[Sz,pZ,hy]
     ·have d1:=decide_eq_false hy;have:=ih (true,(s++[g])++[y]) (by simp at hs ⊢;omega);simp only[d0,h7,h8,lg,d1,Sz,mS,ho,if_true,Bool.false_eq_true,if_false];refine this.trans (congrArg (fun l:List aF=>some ((l,()),())) ?_);simp[Sz,pZ,hy]
    ·have d0:=decide_eq_false ho;by_cases hy:y.1=g.1
     ·have d1:=decide_eq_true hy;have:=ih (false,s) (by simp at hs ⊢;omega);simp only[d0,lg,d1,Sz,mS,ho,Bool.false_eq_true,if_false];refine this.trans (congrArg (fun l:List aF=>some ((l,()),())) ?_);simp[Sz,hy]
     ·have d1:=decide_eq_false hy;have:=ih (false,s++[y]) (by simp at hs ⊢;omega);simp only[d0,h6,lg,d1,Sz,mS,ho,Bool.false_eq_true,if_false];refine this.trans (congrArg (fun l:List aF=>some ((l,()),())) ?_);simp[Sz,hy]
   ·by_cases hy:y.1=g.1
    ·have d1:=decide_eq_true hy;have:=ih (true,s) (by simp at hs ⊢;omega);simp only[bj hi,aT hx,Option.bind_some,hw,lg,d1];refine this.trans (congrArg (fun l:List aF=>some ((l,()),())) ?_);simp[Sz,pZ,hy]
    ·have d1:=decide_eq_false hy;have:=ih (true,s++[y]) (by simp at hs ⊢;omega);simp only[bj hi,aT hx,Option.bind_some,hw,lg,d1,h6];refine this.trans (congrArg (fun l:List aF=>some ((l,()),())) ?_);simp[Sz,pZ,hy])
  (false,[]) (by simp)
 exact key
theorem Zh(hG:HG G)(l:List aF)(g:aF)(hl:l.length≤50000000):FX G 117 Ca ((l,g,()),())=some ((bR l g,()),()):=by
 refine aC (hG _ _ rfl) alg ?_;refine aa (aa9 (hG _ _ rfl) l g.1 (by omega)) ?_;rw[show(ia zD (iD l g.1)).2.1=(iD l g.1).isSome from jD _ _];unfold bR
 cases hf:(iD l g.1).isSome
 ·by_cases hn:400≤l.length
  ·have h1:decide (((l.length:Nat):Int)≥400)=true:=by simp;omega
   rw[if_pos ⟨rfl,hn⟩];simp only[h1];rfl
  ·have h1:decide (((l.length:Nat):Int)≥400)=false:=by simp;omega
   rw[if_neg (by simp[hn])];simp only[h1];exact agG hG l g hl
 ·rw[if_neg (by simp)];exact agG hG l g hl
def res(d:ak)(gn:List aF):Nat→ab→ab
 |0,_=>zD
 |n+1,x=>if(bM d x).isSome then x else match iD gn x with
  |none=>zD
  |some y=>res d gn n y
def resolve(s:StateT)(x:ab):ab:=res s.1 s.2 (s.2.length+1) x
theorem al8(hG:HG G)(s:StateT)(x:ab)(hs:Sm s.1)(hg:s.2.length≤50000000):FX G 143 Lg ((s,x,()),())=some ((resolve s x,()),()):=by
 refine aC (hG _ _ rfl) alA ?_;have hv:=hs.v;have loop:∀(n i:Nat) (y:ab),i+n=s.2.length+1→LX G 143 Lg Tryz.f143 EI (aY Tryz.prog 143 0) (((i:Int),()),((s,()),((y,()),(((((0:Int),(0:Int)),(0:Int)),()),()))),())=some ((res s.1 s.2 n y,()),()):=by
  intro n
  induction n with
  |zero =>
   intro i y hi;refine aB VJ ?_;have h1:decide ((i:Int)≤((s.2.length:Nat):Int))=false:=by simp;omega
   simp only[h1];rfl
  |succ n ih =>
   intro i y hi;refine aB VJ ?_;have h1:decide ((i:Int)≤((s.2.length:Nat):Int))=true:=by simp;omega
   have hw:IntKind.wrap .i64 ((i:Int)+1)=((i+1:Nat):Int):=by rw[wrap_small (by omega) (by omega)];rfl
   simp only[h1,hw];refine aa (Jw hG s.1 y (by omega) (fun w hw=>by have:=hs.r w hw;omega)) ?_;rw[show(ia zI (bM s.1 y)).2.1=(bM s.1 y).isSome from jD _ _,res]
   cases ha:(bM s.1 y).isSome
   ·simp only[Bool.false_eq_true,if_false];refine aa (aa9 (hG _ _ rfl) s.2 y (by omega)) ?_
    cases hf:iD s.2 y with
    |none=>rfl
    |some z=>exact ih (i+1) z (by omega)
   ·rfl
 exact loop (s.2.length+1) 0 x (by omega)
def zC:lW:=(zI,zD)
def mT(s:StateT)(c:lW)(v:ai):ab:=if resolve s c.2∈v.2.1 then resolve s c.2 else zD
def aU(s:StateT)(c:lW):lW×(Int×Unit):=match aG s.1 c.1 with
 |none=>(zC,(13,()))
 |some v=>((c.1,mT s c v),(0,()))
theorem agH(hG:HG G)(s:StateT)(c:lW)(hs:Sm s.1)(hg:s.2.length≤50000000):FX G 114 Sa ((s,c,()),())=some (aU s c,()):=by
 have hv:=hs.v;refine aC (hG _ _ rfl) ald ?_;refine aa (yR (hG _ _ rfl) s.1 c.1 (by omega)) ?_;unfold aU
 cases hf:aG s.1 c.1 with
 |none=>rfl
 |some v =>
  have hr:v.2.1.length≤50000000:=hs.r v (ab5 hf);refine aa (al8 hG s c.2 hs hg) ?_;refine aa (Jt (hG _ _ rfl) v.2.1 (resolve s c.2) (by omega)) ?_;by_cases hm:resolve s c.2∈v.2.1
  ·have h1:decide (idx (resolve s c.2) v.2.1 0<0)=false:=decide_eq_false (fun h=>fV.1 h hm);have h2:mT s c v=resolve s c.2:=if_pos hm;simp only[h1];exact congrArg (fun z:ab=>some (((c.1,z),((0:Int),())),())) h2.symm
  ·have h1:decide (idx (resolve s c.2) v.2.1 0<0)=true:=decide_eq_true (fV.2 hm);have h2:mT s c v=zD:=if_neg hm;simp only[h1];exact congrArg (fun z:ab=>some (((c.1,z),((0:Int),())),())) h2.symm
def ag(x:ab):ab:=(x.1,IntKind.wrap .i64 (1-x.2))
def kN(d:ak)(x:ab):Option ab:=match bM d x with
 |none=>none
 |some a=>cK (aW d a) x 1
theorem al9(hG:HG G)(d:ak)(x:ab)(hs:Sm d):FX G 234 UY ((d,x,()),())=some (zt (kN d x),()):=by
 have hv:=hs.v;refine aC (hG _ _ rfl) alm ?_;refine aa (Jw hG d x (by omega) (fun w hw=>by have:=hs.r w hw;omega)) ?_;unfold kN
 cases ha:bM d x with
 |none=>rfl
 |some a =>have hr:=nj hs a;refine aa (yR (hG _ _ rfl) d a (by omega)) ?_;rw[show(ia zV (aG d a)).1=(aG d a).getD zV from dG _ _];exact aa (agt hG (aW d a) x (by omega)) rfl
def Kb(d:ak)(x:ab):Option ab:=if(bM d x).isSome then kN d (ag x) else none
theorem agI(hG:HG G)(d:ak)(x:ab)(hs:Sm d):FX G 216 R6 ((d,x,()),())=some (zt (Kb d x),()):=by
 have hv:=hs.v;refine aC (hG _ _ rfl) akX ?_;refine aa (Jw hG d x (by omega) (fun w hw=>by have:=hs.r w hw;omega)) ?_;rw[show(ia zI (bM d x)).2.1=(bM d x).isSome from jD _ _];unfold Kb
 cases ha:(bM d x).isSome
 ·rfl
 ·refine aa (acj (hG _ _ rfl) x) ?_;exact aa (al9 hG d (ag x) hs) rfl
def tY(d:ak)(x:ab):Nat→ab→List ab→List ab
 |0,_,out=>out
 |n+1,y,out=>if y=x then out else tY d x n ((Kb d y).getD zD) (out++[y])
def bz(d:ak)(x:ab):List ab:=match Kb d x with
 |none=>[]
 |some y=>tY d x 81 y [x]
theorem ama(hG:HG G)(d:ak)(x:ab)(hs:Sm d):FX G 192 K4 ((d,x,()),())=some ((bz d x,()),()):=by
 refine aC (hG _ _ rfl) aky ?_;refine aa (agI hG d x hs) ?_;unfold bz
 cases hp:Kb d x with
 |none=>rfl
 |some y =>
  have h5:aR ([]:List ab).length [x].length=true:=fits (by simp);have loop:∀(n:Nat) (y:ab) (out:List ab),out.length+n=82→LX G 192 K4 Tryz.f192 Er (aY Tryz.prog 192 0) ((),((d,()),((x,()),((y,()),()))),(out,()))=some ((tY d x n y out,()),()):=by
   intro n
   induction n with
   |zero =>
    intro y out ho;refine aB Vc ?_;have h1:decide (((out.length:Nat):Int)<82)=false:=by simp;omega
    simp only[lg,h1];by_cases hy:y=x
    ·have d1:=decide_eq_true hy;simp only[d1];rfl
    ·have d1:=decide_eq_false hy;simp only[d1];rfl
   |succ n ih =>
    intro y out ho;refine aB Vc ?_;have h1:decide (((out.length:Nat):Int)<82)=true:=by simp;omega
    have h6:aR out.length [y].length=true:=fits (by simp;omega);simp only[lg,h1,h6];rw[tY];by_cases hy:y=x
    ·have d1:=decide_eq_true hy;rw[if_pos hy];simp only[d1];rfl
    ·have d1:=decide_eq_false hy;rw[if_neg hy];simp only[d1];refine aa (agI hG d y hs) ?_;rw[show(zt (Kb d y)).1=(Kb d y).getD zD from u6 _];exact ih ((Kb d y).getD zD) (out++[y]) (by simp;omega)
  exact loop 81 y [x] (by simp)
theorem HF(d:ak)(x:ab):∀(n:Nat) (y:ab) (out:List ab),(tY d x n y out).length≤out.length+n
 |0,_,out=>abZ _
 |n+1,y,out=>by
  unfold tY
  split
  ·omega
  ·have:=HF d x n ((Kb d y).getD zD) (out++[y]);simp at this;omega
theorem HH(d:ak)(x:ab):(bz d x).length≤82:=by
 unfold bz
 cases Kb d x with
 |none=>simp
 |some y=>have:=HF d x 81 y [x];simpa using this
def fW:List aj→List ab
 |[]=>[]
 |e::r=>(e.1,0)::(e.1,1)::fW r
theorem ox:∀l:List aj,(fW l).length=2*l.length
 |[]=>rfl
 |e::r=>by simp[fW,ox r];omega
theorem amb(hG:G 191 I8=none)(d:ak)(hs:Sm d):FX G 191 I8 ((d,()),())=some ((fW d.2,()),()):=by have he:=hs.e;refine aC hG ak2 ?_;have key:=cC d.2 (fun i (s:List ab)=>LX G 191 I8 Tryz.f191 EF (aY Tryz.prog 191 0) ((i,()),(((d,()),()),(s,())))) (fun(r:List aj) (s:List ab)=>((s++fW r,()),())) (fun n s=>s.length+2*n≤2*d.2.length) (fun s _=>by refine aB VA ?_;simp only[eE,fW,List.append_nil];rfl) (fun i y r s hi hx E3 hs ih=>by refine aB VA ?_;have h6:aR s.length [((y.1,(0:Int)):ab),(y.1,(1:Int))].length=true:=fits (by simp;omega);simp only[bj hi,aT hx,Option.bind_some,h6,aN hi (show d.2.length≤1073741824 by omega)];have:=ih (s++[(y.1,0),(y.1,1)]) (by simp;omega);refine this.trans (congrArg (fun l:List ab=>some ((l,()),())) ?_);simp[fW]) [] (by simp);exact key
def jE(d:ak):List ab→List (List ab)→List ab→List (List ab)
 |[],out,_=>out
 |x::r,out,told=>if x∈told then jE d r out told else jE d r (out++[bz d x]) (told++bz d x)
def cg(d:ak):List (List ab):=jE d (fW d.2) [] []
theorem amc(hG:HG G)(d:ak)(hs:Sm d)(he:d.2.length≤5000000):FX G 164 K6 ((d,()),())=some ((cg d,()),()):=by
 refine aC (hG _ _ rfl) akG ?_;refine aa (amb (hG _ _ rfl) d hs) ?_;have TI:=ox d.2;unfold cg;generalize fW d.2=ds at *;have key:=cC ds (fun i (s:List (List ab)×List ab)=>LX G 164 K6 Tryz.f164 Ad (aY Tryz.prog 164 0) ((i,()),(((d,()),()),(s.1,(s.2,(ds,())))))) (fun(r:List ab) (s:List (List ab)×List ab)=>((jE d r s.1 s.2,()),())) (fun n s=>s.1.length+n≤ds.length∧s.2.length+82*n≤82*ds.length) (fun s _=>by refine aB Vh ?_;simp only[eE];rfl) (fun i y r s hi hx E3 hs' ih=>by
   obtain⟨out,told⟩:=s;obtain⟨b1,b2⟩:=hs';simp only at b1 b2;refine aB Vh ?_;simp only[bj hi,gy,Bool.and_self,Int.toNat_natCast,hx,Option.bind_some,aN hi (show ds.length≤1073741824 by omega)];refine aa (Jt (hG _ _ rfl) told y (by omega)) ?_;rw[jE];by_cases hm:y∈told
   ·have d1:decide (idx y told 0≥0)=true:=decide_eq_true (by obtain⟨k,h,_⟩:=eX hm;omega);rw[if_pos hm];simp only[d1];exact ih (out,told) ⟨by simp only;omega,by simp only;omega⟩
   ·have d1:decide (idx y told 0≥0)=false:=decide_eq_false (by have:=fV.2 hm;omega);rw[if_neg hm];simp only[d1];refine aa (ama hG d y hs) ?_;have htl:=HH d y;have h6:aR out.length [bz d y].length=true:=fits (by simp;omega);have h7:aR told.length (bz d y).length=true:=fits (by omega);simp only[h6,h7];exact ih (out++[bz d y],told++bz d y) ⟨by simp;omega,by simp;omega⟩)
  ([],[]) ⟨by simp,by simp⟩
 exact key
end Go.Vs
