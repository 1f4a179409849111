/- What the document's reference -/
import Derived.Test.YtpkfpbpbkabkdaaGreatNormalA
import Derived.Test.YtpkfpbpbkabkdaaGreatNormalB
import Derived.Test.YtpkfpbpbkabkdaaGreatNormalC
set_option linter.unusedVariables false
set_option linter.unusedSimpArgs false
namespace Go.Vs
open Go.Proofs
variable {G:(f:FuncId)→(g:aL)→Option (g.A→Option g.B)}
theorem aa{α β:Type}{o:Option α}{f:α→Option β}{a:α}{r:Option β}(h:o=some a)(k:f a=r):o.bind f=r:=by rw[h];exact k
theorem aJ{α:Type}{l:List α}{i:Nat}{x:α}(h:l[i]? = some x):aT l (i:Int)=some x:=by have hl:=(ack.1 h).1;simp[aT,h]
theorem wrap_small{n:Int}(h0 : -9223372036854775808≤n)(h1:n<9223372036854775808):IntKind.wrap .i64 n=n:=by unfold IntKind.wrap;simp[IntKind.bits,IntKind.signed];omega
theorem aG{i n:Nat}(h:i<n)(hn:n≤1073741824):IntKind.wrap .i64 ((i:Int)+1)=((i+1:Nat):Int):=by rw[wrap_small (by omega) (by omega)];rfl
theorem aX{i n:Nat}(h:i<n):decide ((i:Int)<((n:Nat):Int))=true:=by simpa using h
theorem dp(n:Nat):decide (((n:Nat):Int)<((n:Nat):Int))=false:=by simp
theorem fits{n m:Nat}(h:n+m≤1073741824):aK n m=true:=decide_eq_true h
theorem jk(a b:ID):((a.1==b.1)&&(a.2==b.2))=decide (a=b):=by obtain⟨a1,a2⟩:=a;obtain⟨b1,b2⟩:=b;rw[Bool.eq_iff_iff];simp
theorem kz(a b:ab):(((a.1.1==b.1.1)&&(a.1.2==b.1.2))&&(a.2==b.2))=decide (a=b):=by obtain⟨⟨a1,a2⟩,a3⟩:=a;obtain⟨⟨b1,b2⟩,b3⟩:=b;rw[Bool.eq_iff_iff];simp[and_assoc]
theorem Xe(a b:ByteArray):(a==b)=decide (a=b):=by obtain⟨a⟩:=a;obtain⟨b⟩:=b;show(a==b)=_;rw[Bool.eq_iff_iff];simp
theorem bV{α S R:Type}(l:List α)(L:Int→S→Option R)(g:List α→S→R)(inv:Nat→S→Prop) (agi:∀s,inv 0 s→L ((l.length:Nat):Int) s=some (g [] s)) (aba:∀(i:Nat) (x:α) (r:List α) (s:S),i<l.length→l[i]? = some x→i+r.length+1=l.length→inv (r.length+1) s→(∀s',inv r.length s'→L ((i+1:Nat):Int) s'=some (g r s'))→L (i:Int) s=some (g (x::r) s)) :
  ∀s,inv l.length s→L 0 s=some (g l s):=by
 have key:∀(r p:List α),p++r=l→∀s,inv r.length s→L ((p.length:Nat):Int) s=some (g r s):=by
  intro r
  induction r with
  |nil=>intro p hp s hs;rw[List.append_nil]at hp;subst hp;exact agi s hs
  |cons x r ih =>
   intro p hp s hs;refine aba p.length x r s ?_ ?_ ?_ hs (fun s' hs' => ?_)
   ·rw[←hp];simp
   ·rw[←hp];simp
   ·rw[←hp];simp;omega
   ·have:=ih (p++[x]) (by simp[hp]) s' hs';simpa using this
 intro s hs;exact key l [] rfl s hs
def zD:ab:=((0,0),0)
def cW(x:ID):Bool:=decide (1≤x.1∧x.1≤8∧1≤x.2∧x.2≤1048576)
def fL(a b:ID):Bool:=decide (a.1<b.1∨(a.1=b.1∧a.2<b.2))
def qH(a b:ID):Int:=if a=b then 0 else if fL a b then -1 else 1
def kF(a b:ab):Bool:=fL a.1 b.1 || (decide (a.1=b.1)&&decide (a.2<b.2))
def mT(a b:ab):Int:=if a=b then 0 else if kF a b then -1 else 1
def J2(d:ab):Bool:=cW d.1&&decide (d.2=0∨d.2=1)
theorem Ng(hG:G 87 AF=none)(x:ID):FX G 87 AF ((x,()),())=some ((cW x,()),()):=by refine aq hG aeP ?_;obtain⟨a,b⟩:=x;show(cond (decide (a≥1)) (cond (decide (a≤8)) (cond (decide (b≥1)) (some ((decide (b≤1048576),()),())) (some ((false,()),()))) (some ((false,()),()))) (some ((false,()),())):Option ((Bool×Unit)×Unit))=some ((cW (a,b),()),());unfold cW;simp only[cond_eq_ite];by_cases h1:(1:Int)≤a<;>by_cases h2:a≤8<;>by_cases h3:(1:Int)≤b<;>simp[h1,h2,h3]
theorem Xf(hG:G 121 CJ=none)(d:ab):FX G 121 CJ ((d,()),())=some (((d.1,IntKind.wrap .i64 (1-d.2)),()),()) :=aq hG aeT rfl
theorem Xg(hG:G 105 GX=none)(a b:ID):FX G 105 GX ((a,b,()),())=some ((qH a b,()),()):=by refine aq hG afv ?_;obtain⟨a1,a2⟩:=a;obtain⟨b1,b2⟩:=b;unfold qH fL;show(cond ((a1==b1)&&(a2==b2)) (some (((0:Int),()),())) (cond (decide (a1<b1)) (some (((-1:Int),()),())) (cond (a1==b1) (cond (decide (a2<b2)) (some (((-1:Int),()),())) (some (((1:Int),()),()))) (some (((1:Int),()),())))):Option ((Int×Unit)×Unit))=some (((if(a1,a2)=(b1,b2) then 0 else if(decide (a1<b1∨(a1=b1∧a2<b2)))=true then -1 else 1:Int),()),());by_cases h1:a1=b1<;>by_cases h2:a2=b2<;>by_cases h3:a1<b1<;>by_cases h4:a2<b2<;>first|(exfalso;omega)|(simp only[cond_eq_ite];simp[h1,h2,h3,h4];done)|(subst h1;simp only[cond_eq_ite];simp[h2,h4])
theorem abb(hG:HG G)(a b:ab):FX G 71 MR ((a,b,()),())=some ((mT a b,()),()):=by
 refine aq (hG _ _ rfl) afq ?_;refine aa (Xg (hG _ _ rfl) a.1 b.1) ?_;obtain⟨a1,a2⟩:=a;obtain⟨b1,b2⟩:=b;show(cond (qH a1 b1 != 0) (some ((qH a1 b1,()),())) (cond (decide (a2<b2)) (some (((-1:Int),()),())) (cond (decide (a2>b2)) (some (((1:Int),()),())) (some (((0:Int),()),())))):Option ((Int×Unit)×Unit))=some ((mT (a1,a2) (b1,b2),()),());unfold mT kF qH;simp only[cond_eq_ite];by_cases h1:a1=b1
 ·subst h1;have hl:fL a1 a1=false:=by simp[fL]
  by_cases h2:a2=b2
  ·subst h2;simp
  ·by_cases h3:a2<b2
   ·simp[h2,h3,hl]
   ·have:a2>b2:=by omega
    simp[h2,h3,hl,this]
 ·by_cases h2:fL a1 b1=true<;>simp[h1,h2]
theorem agk(hG:HG G)(d:ab):FX G 123 PO ((d,()),())=some ((J2 d,()),()):=by refine aq (hG _ _ rfl) afQ ?_;refine aa (Ng (hG _ _ rfl) d.1) ?_;obtain⟨d1,d2⟩:=d;show(cond (cW d1) (cond (d2==0) (some ((true,()),())) (some (((d2==1),()),()))) (some ((false,()),())):Option ((Bool×Unit)×Unit))=some ((J2 (d1,d2),()),());unfold J2;simp only[cond_eq_ite];by_cases h1:cW d1=true<;>by_cases h2:d2=0<;>simp[h1,h2];rw[Bool.eq_iff_iff];simp
def idx(d:ab):List ab→Int→Int
 |[],_ => -1
 |e::r,i=>if e=d then i else idx d r (i+1)
theorem agl(row:List ab)(d:ab)(hl:row.length≤1073741824):∀(n i:Nat),i+n=row.length→LX G 144 qy Tryz.f144 A2 (aN Tryz.prog 144 0) ((row,((i:Int),())),(((d,()),()),()))=some ((idx d (row.drop i) i,()),()):=by
 intro n
 induction n with
 |zero =>
  intro i hi;refine au PY ?_;have h1:¬((i:Int)<(row.length:Int)):=by omega
  have h2:row.drop i=[]:=adS (by omega);simp only[h1,h2,decide_false,cond_false,idx];rfl
 |succ n ih =>
  intro i hi;refine au PY ?_;have aF:i<row.length:=by omega
  have h1:((i:Int)<(row.length:Int)):=by omega
  have h2:row.drop i=row[i]::row.drop (i+1):=adu aF;have h3:aT row (i:Int)=some row[i]:=by simp[aT,aF]
  have h4:IntKind.wrap .i64 ((i:Int)+1)=((i+1:Nat):Int):=by rw[wrap_small (by omega) (by omega)];rfl
  have h5:=ih (i+1) (by omega);rw[h2,idx];simp only[h1,decide_true,cond_true,h3,Option.bind_some,h4,kz];by_cases he:row[i]=d
  ·rw[if_pos he];simp only[he,decide_true];rfl
  ·rw[if_neg he];simp only[he,decide_false];exact h5
theorem E9(hG:G 144 qy=none)(row:List ab)(d:ab)(hl:row.length≤1073741824):FX G 144 qy ((row,d,()),())=some ((idx d row 0,()),()):=by refine aq hG aeU ?_;exact agl (G:=G) row d hl row.length 0 (by omega)
theorem nL(d:ab):∀(row:List ab) (i:Int),0≤i→(idx d row i = -1∧d∉row)∨(∃k:Nat,idx d row i=i+k∧row[k]? = some d∧d∉row.take k)
 |[],i,_=>.inl ⟨rfl,by simp⟩
 |e::r,i,h=>by
  unfold idx;by_cases he:e=d
  ·right;exact⟨0,by simp[he],by simp[he],by simp⟩
  ·rw[if_neg he];rcases nL d r (i+1) (by omega) with⟨h1,h2⟩|⟨k,h1,h2,h3⟩
   ·exact .inl ⟨h1,by simp[h2,Ne.symm he]⟩
   ·exact .inr ⟨k+1,by rw[h1];omega,by simpa using h2,by simp[h3,Ne.symm he]⟩
theorem eg{d:ab}{row:List ab}:idx d row 0<0↔d∉row:=by
 rcases nL d row 0 (by omega) with⟨h1,h2⟩|⟨k,h1,h2,_⟩
 ·simp[h1,h2]
 ·have:=adj h2;simp[this];omega
theorem fh{d:ab}{row:List ab}(h:d∈row):∃k:Nat,idx d row 0=k∧row[k]? = some d∧d∉row.take k:=by
 rcases nL d row 0 (by omega) with⟨_,h2⟩|⟨k,h1,h2,h3⟩
 ·exact absurd h h2
 ·exact⟨k,by omega,h2,h3⟩
theorem vf{α:Type}[DecidableEq α]:∀(a b:List α),a.length=b.length→(a.zip b).all (fun p=>decide (p.1=p.2))=decide (a=b)
 |[],[],_=>by simp
 |[],_::_,h=>by simp at h
 |_::_,[],h=>by simp at h
 |x::a,y::b,h=>by simp only[List.zip_cons_cons,List.all_cons,vf a b (by simpa using h)];rw[Bool.eq_iff_iff];simp
theorem y0{α:Type}{a b:List α}{i:Nat}{x:α×α}(h:(a.zip b)[i]? = some x):a[i]? = some x.1∧b[i]? = some x.2:=by obtain⟨x1,x2⟩:=x;exact List.getElem?_zip_eq_some.1 h
theorem agm(hG:HG G)(a b:List ab)(ha:a.length≤1073741824):FX G 98 GS ((a,b,()),())=some ((decide (a=b),()),()):=by
 refine aq (hG _ _ rfl) afl ?_;by_cases hl:a.length=b.length
 case neg =>
  have h1:((((a.length:Nat):Int)) != ((b.length:Nat):Int))=true:=by simp;omega
  have h2:¬a=b:=fun e=>hl (by rw[e]);simp only[h1,h2,decide_false];rfl
 have h1:((((a.length:Nat):Int)) != ((b.length:Nat):Int))=false:=by simp[hl]
 simp only[h1];have FJ:(a.zip b).length=a.length:=by simp[hl]
 have key:=bV (a.zip b) (fun i (_:Unit)=>LX G 98 GS Tryz.f98 Be (aN Tryz.prog 98 0) ((a,(b,(i,()))),((),()))) (fun r _=>((r.all (fun p=>decide (p.1=p.2)),()),())) (fun _ _=>True) (fun s _=>by refine au Qk ?_;rw[FJ];simp only[dp,cond_false];rfl) (fun i x r s hi hx hr _ ih=>by
   rw[FJ]at hi;obtain⟨h3,h4⟩:=y0 hx;refine au Qk ?_;simp only[aX hi,cond_true,aJ h3,aJ h4,Option.bind_some,kz,aG hi ha];by_cases he:x.1=x.2
   ·simp only[he,decide_true,Bool.not_true,cond_false,List.all_cons,Bool.true_and];exact ih () trivial
   ·simp only[he,decide_false,Bool.not_false,cond_true,List.all_cons,Bool.false_and];rfl)
  () trivial
 rw[vf a b hl]at key;exact key
def dF(row:List ab)(d:ab)(by_:Nat):Option ab:=if d∈row then row[((idx d row 0).toNat+by_)%row.length]? else none
def HH:Option ab→ab×(Bool×Unit)
 |some y=>(y,(true,()))
 |none=>(zD,(false,()))
theorem qI(a n:Nat):Int.tmod (a:Int) (n:Int)=((a%n:Nat):Int):=by rw[Int.tmod_eq_emod_of_nonneg (by omega)];rfl
theorem Fa{row:List ab}{d:ab}(h:d∈row):((((row.length:Nat):Int))==0)=false:=by have:=adN h;simp;intro e;subst e;simp at h
theorem abc(hG:HG G)(row:List ab)(d:ab)(hl:row.length≤1073741824):FX G 148 MN ((row,d,()),())=some (HH (dF row d (row.length-1)),()):=by
 refine aq (hG _ _ rfl) aeV ?_;refine aa (E9 (hG _ _ rfl) row d hl) ?_;by_cases h:d∈row
 ·obtain⟨k,h1,h2,h3⟩:=fh h;have hk:=(ack.1 h2).1;have hm:(k+(row.length-1))%row.length<row.length:=adU _ (by omega);have e1:IntKind.wrap .i64 (IntKind.wrap .i64 ((k:Int)+((row.length:Nat):Int))-1)=((k+(row.length-1):Nat):Int):=by rw[wrap_small (n:=(k:Int)+((row.length:Nat):Int)) (by omega) (by omega),wrap_small (by omega) (by omega)];omega
  have e2:¬((k:Int)<0):=by omega
  have e4:row[(k+(row.length-1))%row.length]? = some row[(k+(row.length-1))%row.length]:=aci hm;have e3:dF row d (row.length-1)=some row[(k+(row.length-1))%row.length]:=by unfold dF;rw[if_pos h,h1];simp
  rw[e3];simp only[h1,e2,decide_false,cond_false,Fa h,e1,qI,aJ e4,Option.bind_some];rfl
 ·have h1:=eg.2 h;have e3:dF row d (row.length-1)=none:=by unfold dF;rw[if_neg h]
  rw[e3];simp only[h1,decide_true,cond_true];rfl
theorem abd(hG:HG G)(row:List ab)(d:ab)(hl:row.length≤1073741824):FX G 248 G4 ((row,d,()),())=some (HH (dF row d 1),()):=by
 refine aq (hG _ _ rfl) ZB ?_;refine aa (E9 (hG _ _ rfl) row d hl) ?_;by_cases h:d∈row
 ·obtain⟨k,h1,h2,h3⟩:=fh h;have hk:=(ack.1 h2).1;have hm:(k+1)%row.length<row.length:=adU _ (by omega);have e1:IntKind.wrap .i64 ((k:Int)+1)=((k+1:Nat):Int):=by rw[wrap_small (by omega) (by omega)];omega
  have e2:¬((k:Int)<0):=by omega
  have e4:row[(k+1)%row.length]? = some row[(k+1)%row.length]:=aci hm;have e3:dF row d 1=some row[(k+1)%row.length]:=by unfold dF;rw[if_pos h,h1];simp
  rw[e3];simp only[h1,e2,decide_false,cond_false,Fa h,e1,qI,aJ e4,Option.bind_some];rfl
 ·have h1:=eg.2 h;have e3:dF row d 1=none:=by unfold dF;rw[if_neg h]
  rw[e3];simp only[h1,decide_true,cond_true];rfl
def fi(row:List ab):List ab→Nat→Nat→Nat
 |[],_,k=>k
 |x::r,i,k=>if mT x (row.getD k zD)<0 then fi row r (i+1) i else fi row r (i+1) k
def Cr(row:List ab)(k:Nat):List ab:=row.drop k++row.take k
def cI(row:List ab):List ab:=Cr row (fi row row 0 0)
theorem oS(row:List ab):∀(r:List ab) (i k:Nat),k<row.length→i+r.length=row.length→fi row r i k<row.length
 |[],_,k,hk,_=>hk
 |x::r,i,k,hk,hi=>by
  unfold fi;simp at hi
  split
  ·exact oS row r (i+1) i (by omega) (by omega)
  ·exact oS row r (i+1) k hk (by omega)
theorem tz(row:List ab)(k:Nat):(Cr row k).length=row.length:=by unfold Cr;simp;omega
theorem fU(row:List ab):(cI row).length=row.length:=tz _ _
theorem T0{row:List ab}{k:Nat}{d:ab}:d∈Cr row k↔d∈row:=by unfold Cr;rw[List.mem_append,or_comm,←List.mem_append,List.take_append_drop]
theorem HI{row:List ab}{d:ab}:d∈cI row↔d∈row:=T0
theorem Lu{row:List ab}{k i:Nat}(hk:k≤row.length)(hi:i<row.length):(Cr row k)[i]? = row[(k+i)%row.length]? := by
 unfold Cr;by_cases h:k+i<row.length
 ·rw[List.getElem?_append_left (by simp;omega),List.getElem?_drop,Nat.mod_eq_of_lt h]
 ·rw[List.getElem?_append_right (by simp;omega),List.length_drop,List.getElem?_take,if_pos (by omega)];congr 1;have:(k+i)%row.length=k+i-row.length:=by rw[Nat.mod_eq_sub_mod (by omega),Nat.mod_eq_of_lt (by omega)]
  omega
theorem Xh(row:List ab)(k:Nat)(hl:row.length≤100000000)(hk:k≤row.length):∀(n i:Nat) (out T:List ab),i+n=row.length→T=Cr row k→out=T.take i → LX G 122 pP Tryz.f122 Bi (aN Tryz.prog 122 1) ((row,((k:Int),((i:Int),()))),((),(out,())))=some ((T,()),()):=by
 intro n
 induction n with
 |zero =>
  intro i out T hi hT ho;refine au Qs ?_;have h1:¬((i:Int)<(row.length:Int)):=by omega
  have h2:out=T:=by rw[ho];exact adV (by rw[hT,tz];omega)
  subst h2;simp only[h1,decide_false];rfl
 |succ n ih =>
  intro i out T hi hT ho;refine au Qs ?_;have aF:i<row.length:=by omega
  have hm:(k+i)%row.length<row.length:=adU _ (by omega);have h3:row[(k+i)%row.length]? = some row[(k+i)%row.length]:=aci hm;have h0:((((row.length:Nat):Int))==0)=false:=by simp;intro e;subst e;simp at aF
  have h4:IntKind.wrap .i64 ((k:Int)+(i:Int))=((k+i:Nat):Int):=by rw[wrap_small (by omega) (by omega)];rfl
  have TV:out.length≤row.length:=by rw[ho,hT];simp;rw[tz];omega
  have h5:aK out.length [row[(k+i)%row.length]].length=true:=fits (by simp;omega);have h6:out++[row[(k+i)%row.length]]=T.take (i+1):=by rw[ho,List.take_add_one,hT,Lu hk aF,h3];rfl
  have h7:=ih (i+1) (out++[row[(k+i)%row.length]]) T (by omega) hT h6;simp only[aX aF,h0,h4,qI,aJ h3,Option.bind_some,h5,aG aF (show row.length≤1073741824 by omega)];exact h7
theorem Xi(hG:HG G)(row:List ab)(hl:row.length≤100000000):∀(n i k:Nat),i+n=row.length→(k<row.length∨(row=[]∧k=0)) → LX G 122 pP Tryz.f122 wx (aN Tryz.prog 122 0) ((row,((k:Int),((i:Int),()))),((),()))=some ((Cr row (fi row (row.drop i) i k),()),()):=by
 intro n
 induction n with
 |zero =>
  intro i k hi hk;refine au Qr ?_;have h1:¬((i:Int)<(row.length:Int)):=by omega
  have h2:row.drop i=[]:=adS (by omega);simp only[h1,h2,decide_false,cond_false,fi];exact Xh (G:=G) row k hl (by rcases hk with h|⟨_,h⟩<;>omega) row.length 0 [] (Cr row k) (by omega) rfl (by simp)
 |succ n ih =>
  intro i k hi hk;refine au Qr ?_;have aF:i<row.length:=by omega
  have vF:k<row.length:=hk.resolve_right (by rintro⟨rfl,_⟩;simp at aF);have h2:row.drop i=row[i]::row.drop (i+1):=adu aF;have h3:row[i]? = some row[i]:=aci aF;have h4:row[k]? = some row[k]:=aci vF;have h5:row.getD k zD=row[k]:=by simp[List.getD,h4]
  simp only[aX aF,cond_true,aJ h3,aJ h4,Option.bind_some,aG aF (show row.length≤1073741824 by omega)];refine aa (abb hG row[i] row[k]) ?_;rw[h2,fi,h5];by_cases ho:mT row[i] row[k]<0
  ·rw[if_pos ho];simp only[ho,decide_true];exact ih (i+1) i (by omega) (.inl aF)
  ·rw[if_neg ho];simp only[ho,decide_false];exact ih (i+1) k (by omega) (.inl vF)
theorem HJ(hG:HG G)(row:List ab)(hl:row.length≤100000000):FX G 122 pP ((row,()),())=some ((cI row,()),()):=by refine aq (hG _ _ rfl) afD ?_;have:=Xi (G:=G) hG row hl row.length 0 0 (by omega) (by cases row with|nil=>exact .inr ⟨rfl,rfl⟩|cons x r=>exact .inl (by simp));exact this
def lS(row:List ab)(after d:ab):List ab :=if d∈row then cI row else cI (row.take ((max 0 (idx after row 0)).toNat+1)++(d::row.drop ((max 0 (idx after row 0)).toNat+1)))
def gS(row:List ab)(d:ab):List ab:=cI (row.filter fun e=>decide (e≠d))
def jo(row:List ab)(cK d:ab):List ab:=cI (if cK∈row∧d∉row then row.set (idx cK row 0).toNat d else row)
theorem abe(hG:HG G)(row:List ab)(d:ab)(hl:row.length≤100000000):FX G 126 xM ((row,d,()),())=some ((gS row d,()),()):=by
 refine aq (hG _ _ rfl) Zz ?_;have key:=bV row (fun i (s:List ab)=>LX G 126 xM Tryz.f126 ry (aN Tryz.prog 126 0) ((row,(i,())),(((d,()),()),(s,())))) (fun r s=>((cI (s++r.filter fun e=>decide (e≠d)),()),())) (fun n s=>s.length+n≤row.length) (fun s hs=>by refine au K2 ?_;simp only[dp,cond_false];refine aa (HJ hG s (by omega)) ?_;simp only[List.filter_nil,List.append_nil];rfl) (fun i x r s hi hx hr hs ih=>by
   refine au K2 ?_;simp only[aX hi,cond_true,aJ hx,Option.bind_some,kz,aG hi (show row.length≤1073741824 by omega)];by_cases he:x=d
   ·simp only[he,decide_true,Bool.not_true,ne_eq,not_true_eq_false,decide_false,List.filter_cons,Bool.false_eq_true,if_false];exact ih s (by omega)
   ·have h5:aK s.length [x].length=true:=fits (by simp;omega);simp only[he,decide_false,Bool.not_false,h5,ne_eq,not_false_eq_true,decide_true,List.filter_cons,if_true];have:=ih (s++[x]) (by simp;omega);rw[List.append_assoc]at this;exact this)
  [] (by simp)
 exact key
theorem QT(row:List ab)(d:ab)(k:Nat):row.take (k+1)++(d::row.drop (k+1))=(row.take (k+1)++[d])++row.drop (k+1):=by simp
theorem abf(hG:HG G)(row:List ab)(after d:ab)(hl:row.length≤90000000):FX G 146 xL ((row,after,d,()),())=some ((lS row after d,()),()):=by
 refine aq (hG _ _ rfl) Zx ?_;refine aa (E9 (hG _ _ rfl) row d (by omega)) ?_;by_cases hd:d∈row
 case pos =>
  have h1:¬idx d row 0<0:=fun h=>eg.1 h hd;have h2:idx d row 0≥0:=by omega
  simp only[h2,decide_true,cond_true];refine aa (HJ hG row (by omega)) ?_;unfold lS;rw[if_pos hd];rfl
 case neg =>
 have h1:¬idx d row 0≥0:=by have:=eg.2 hd;omega
 simp only[h1,decide_false,cond_false];refine aa (E9 (hG _ _ rfl) row after (by omega)) ?_;obtain⟨k,hk⟩:∃k:Nat,max 0 (idx after row 0)=(k:Int):=⟨(max 0 (idx after row 0)).toNat,by omega⟩;have Ov:k<row.length∨row=[]:=by
  rcases nL after row 0 (by omega) with⟨e,_⟩|⟨q,e,e2,_⟩
  ·have:k=0:=by omega
   subst this
   cases row with
   |nil=>exact .inr rfl
   |cons x r=>exact .inl (by simp)
  ·have:=(ack.1 e2).1;exact .inl (by omega)
 have uH:lS row after d=cI (row.take (k+1)++(d::row.drop (k+1))):=by unfold lS;rw[if_neg hd,hk];rfl
 rw[uH];simp only[hk];obtain⟨fin,gR⟩:∃fin,fin=row.take (k+1)++(d::row.drop (k+1)):=⟨_,rfl⟩;rw[←gR];have loop:∀(n i:Nat) (out:List ab),i+n=row.length→out=(if i≤k then row.take i else(row.take (k+1)++[d])++(row.drop (k+1)).take (i-(k+1))) →
   LX G 146 xL Tryz.f146 rv (aN Tryz.prog 146 0) ((row,((k:Int),((i:Int),()))),(((d,()),()),(out,())))=some ((cI fin,()),()):=by
  intro n
  induction n with
  |zero =>
   intro i out hi oJ;refine au K0 ?_;have h1:¬((i:Int)<(row.length:Int)):=by omega
   rcases Ov with Ov|rfl
   ·have h0:((((row.length:Nat):Int))==0)=false:=by simp;intro e;subst e;simp at Ov
    have h2:out=fin:=by have hle:(row.drop (k+1)).take (i-(k+1))=row.drop (k+1):=adV (by rw[List.length_drop];omega);rw[oJ,gR,if_neg (by omega),QT,hle]
    subst h2;simp only[h1,decide_false,h0];exact aa (HJ hG out (by rw[gR];simp;omega)) rfl
   ·have TJ:i=0:=by simpa using hi
    subst TJ;have h2:out=[]:=by rw[oJ];simp
    subst h2;have h3:fin=[d]:=by rw[gR];simp
    subst h3;exact aa (HJ hG [d] (by simp)) rfl
  |succ n ih =>
   intro i out hi oJ;refine au K0 ?_;have aF:i<row.length:=by omega
   have hx:row[i]? = some row[i]:=aci aF;have TV:out.length≤row.length+1:=by rw[oJ];split<;>simp<;>omega
   have h5:aK out.length [row[i]].length=true:=fits (by simp;omega);simp only[aX aF,aJ hx,Option.bind_some,aG aF (show row.length≤1073741824 by omega),h5];by_cases Zm:i=k
   ·subst Zm;have h6:aK (out++[row[i]]).length [d].length=true:=fits (by simp;omega);have h8:(((i:Nat):Int)==((i:Nat):Int))=true:=by simp
    simp only[h8,h6];exact ih (i+1) ((out++[row[i]])++[d]) (by omega) (by rw[if_neg (by omega),oJ,if_pos (Nat.le_refl _),List.take_add_one,hx];simp)
   ·have h8:(((i:Nat):Int)==((k:Nat):Int))=false:=by simp;omega
    simp only[h8];refine ih (i+1) (out++[row[i]]) (by omega) ?_;rw[oJ];by_cases hle:i≤k
    ·rw[if_pos hle,if_pos (by omega),List.take_add_one,hx];rfl
    ·have e9:(row.drop (k+1)).take (i+1-(k+1))=(row.drop (k+1)).take (i-(k+1))++[row[i]]:=by rw[show i+1-(k+1)=(i-(k+1))+1 by omega,List.take_add_one,List.getElem?_drop,show k+1+(i-(k+1))=i by omega,hx];rfl
     rw[if_neg hle,if_neg (by omega),e9,List.append_assoc]
 exact loop row.length 0 [] (by omega) (by simp)
theorem abg(hG:HG G)(row:List ab)(cK d:ab)(hl:row.length≤100000000):FX G 149 G3 ((row,cK,d,()),())=some ((jo row cK d,()),()):=by
 refine aq (hG _ _ rfl) ZA ?_;have h5:aK ([]:List ab).length row.length=true:=fits (by simp;omega);simp only[h5,cond_true,List.nil_append];refine aa (E9 (hG _ _ rfl) row cK (by omega)) ?_;unfold jo;by_cases ho:cK∈row
 ·obtain⟨k,h1,h2,h3⟩:=fh ho;have hk:=(ack.1 h2).1;have e1:((k:Int)≥0):=by omega
  simp only[h1,e1,decide_true];refine aa (E9 (hG _ _ rfl) row d (by omega)) ?_;by_cases hd:d∈row
  ·have h6:¬idx d row 0<0:=fun h=>eg.1 h hd;rw[if_neg (by simp[hd])];simp only[h6,decide_false];exact aa (HJ hG row hl) rfl
  ·have h6:=eg.2 hd;rw[if_pos ⟨ho,hd⟩];have h7:(0:Int)≤(k:Int):=by omega
   have h8:((k:Int)<((row.length:Nat):Int)):=by omega
   simp only[h6,decide_true,h7,h8,Bool.and_self,Int.toNat_natCast,h2];exact aa (HJ hG (row.set k d) (by simpa using hl)) rfl
 ·have h1:¬idx cK row 0≥0:=by have:=eg.2 ho;omega
  rw[if_neg (by simp[ho])];simp only[h1,decide_false];exact aa (HJ hG row hl) rfl
def e0:ByteArray:=⟨#[]⟩
def zI:ID:=(0,0)
def zV:ag:=((0,0),([],(e0,0)))
def zE:ah:=((0,0),(e0,0))
def aR(l:List ag)(x:ID):Option ag:=l.find? fun v=>decide (v.1=x)
def aV(l:List ah)(x:ID):Option ah:=l.find? fun v=>decide (v.1=x)
def bp(d:aj)(x:ID):Option ag:=aR d.1 x
def gE(d:aj)(x:ID):Option ah:=aV d.2 x
def Fb(l:List ag)(x:ab):Option ID:=(l.find? fun v=>decide (x∈v.2.1)).map (·.1)
def cm(d:aj)(x:ab):Option ID:=Fb d.1 x
def pz{α:Type}(z:α):Option α→α×(Bool×Unit)
 |some y=>(y,(true,()))
 |none=>(z,(false,()))
theorem CQ(hG:G 79 pO=none)(d:aj)(x:ID)(hl:d.1.length≤100000000):FX G 79 pO ((d,x,()),())=some (pz zV (bp d x),()):=by
 refine aq hG aeO ?_;have Fc:=bV d.1 (fun i (_:Unit)=>LX G 79 pO Tryz.f79 AX (aN Tryz.prog 79 0) ((i,()),(((d,()),((x,()),(((0:Int),((0:Int),(([]:List ab),(e0,((0:Int),()))))),()))),()))) (fun(r:List ag) (_:Unit)=>(pz zV (aR r x),())) (fun _ _=>True) (fun s _=>by refine au PU ?_;simp only[dp,cond_false];rfl) (fun i y r s hi hx hr _ ih=>by
   refine au PU ?_;simp only[aX hi,cond_true,aJ hx,Option.bind_some,jk,aG hi (show d.1.length≤1073741824 by omega)];by_cases he:y.1=x
   ·simp only[he,decide_true,aR,aV,List.find?_cons];subst he;rfl
   ·simp only[he,decide_false,aR,aV,List.find?_cons];exact ih () trivial)
  () trivial
 exact Fc
theorem T1(hG:G 92 yk=none)(d:aj)(x:ID)(hl:d.2.length≤100000000):FX G 92 yk ((d,x,()),())=some (pz zE (gE d x),()):=by
 refine aq hG aeR ?_;have Fc:=bV d.2 (fun i (_:Unit)=>LX G 92 yk Tryz.f92 AZ (aN Tryz.prog 92 0) ((i,()),(((d,()),((x,()),(((((0:Int),(0:Int)),(e0,(0:Int))),()),()))),()))) (fun(r:List ah) (_:Unit)=>(pz zE (aV r x),())) (fun _ _=>True) (fun s _=>by refine au PW ?_;simp only[dp,cond_false];rfl) (fun i y r s hi hx hr _ ih=>by
   refine au PW ?_;simp only[aX hi,cond_true,aJ hx,Option.bind_some,jk,aG hi (show d.2.length≤1073741824 by omega)];by_cases he:y.1=x
   ·simp only[he,decide_true,aR,aV,List.find?_cons];subst he;rfl
   ·simp only[he,decide_false,aR,aV,List.find?_cons];exact ih () trivial)
  () trivial
 exact Fc
theorem HK(hG:HG G)(d:aj)(x:ab)(hl:d.1.length≤100000000)(hr:∀v∈d.1,v.2.1.length≤100000000):FX G 124 tl ((d,x,()),())=some (pz zI (cm d x),()):=by
 refine aq (hG _ _ rfl) aeQ ?_;have Fc:=bV d.1 (fun i (_:Unit)=>LX G 124 tl Tryz.f124 AY (aN Tryz.prog 124 0) ((i,()),(((d,()),((x,()),((((0:Int),(0:Int)),()),()))),()))) (fun r _=>(pz zI (Fb r x),())) (fun _ _=>True) (fun s _=>by refine au PV ?_;simp only[dp,cond_false];rfl) (fun i y r s hi hx BA _ ih=>by
   refine au PV ?_;simp only[aX hi,cond_true,aJ hx,Option.bind_some,aG hi (show d.1.length≤1073741824 by omega)];refine aa (E9 (hG _ _ rfl) y.2.1 x (by have:=hr y (adj hx);omega)) ?_;by_cases he:x∈y.2.1
   ·have h1:idx x y.2.1 0≥0:=by obtain⟨k,h,_⟩:=fh he;omega
    simp only[h1,decide_true,Fb,List.find?_cons,he];rfl
   ·have h1:¬idx x y.2.1 0≥0:=by have:=eg.2 he;omega
    simp only[h1,decide_false,Fb,List.find?_cons,he];exact ih () trivial)
  () trivial
 exact Fc
theorem abh(hG:G 21 CL=none)(d:aj)(hl:d.1.length≤100000000)(vQ:d.2.length≤100000000)(hr:∀v∈d.1,v.2.1.length≤100000000):FX G 21 CL ((d,()),())=some (((d.1,(d.2,())),()),()):=by refine aq hG ae5 ?_;have h5:aK ([]:List ah).length d.2.length=true:=fits (by simp;omega);simp only[h5,cond_true,List.nil_append];have Fc:=bV d.1 (fun i (out:List ag)=>LX G 21 CL Tryz.f21 A7 (aN Tryz.prog 21 0) ((i,()),(((d,()),((([]:List ag),(([]:List ah),())),((out,(d.2,())),()))),()))) (fun r s=>(((s++r,(d.2,())),()),())) (fun n s=>s.length+n≤d.1.length) (fun s _=>by refine au P5 ?_;simp only[dp,List.append_nil];rfl) (fun i y r s hi hx BA hs ih=>by refine au P5 ?_;have h6:aK ([]:List ab).length y.2.1.length=true:=fits (by have:=hr y (adj hx);simp;omega);have h7:aK s.length [(y.1,(y.2.1,y.2.2))].length=true:=fits (by simp;omega);simp only[aX hi,aJ hx,Option.bind_some,h6,List.nil_append,h7,aG hi (show d.1.length≤1073741824 by omega)];have:=ih (s++[y]) (by simp;omega);rw[List.append_assoc]at this;exact this) [] (by simp);exact Fc
def dW(v:ag):List ag→List ag
 |[]=>[v]
 |w::r=>if fL v.1 w.1 then v::w::r else w::dW v r
def dq(v:ah):List ah→List ah
 |[]=>[v]
 |w::r=>if fL v.1 w.1 then v::w::r else w::dq v r
theorem b7(a:ID):fL a a=false:=by simp[fL]
theorem mA(a b:ID):qH a b<0↔fL a b=true:=by
 unfold qH;by_cases h:a=b
 ·subst h;simp[b7]
 ·rw[if_neg h];split<;>simp_all
theorem abi(hG:HG G)(d:aj)(v:ag)(hl:d.1.length≤100000000):FX G 80 EO ((d,v,()),())=some (((dW v d.1,d.2),()),()):=by
 refine aq (hG _ _ rfl) afa ?_;have key:=bV d.1 (fun i (s:Bool×List ag)=>LX G 80 EO Tryz.f80 tn (aN Tryz.prog 80 0) ((s.1,(i,())),(((d,()),((v,()),((([]:List ag),(([]:List ah),())),((s.2,(d.2,())),())))),()))) (fun r s=>(((s.2++(if s.1 then r else dW v r),d.2),()),())) (fun n s=>s.2.length+n≤d.1.length+(if s.1 then 1 else 0))
  (fun s hs=>by
   obtain⟨put,s⟩:=s;refine au P8 ?_;have h7:aK s.length [v].length=true:=fits (by simp at hs ⊢;split at hs<;>omega)
   cases put
   ·simp only[dp,h7,dW];rfl
   ·simp only[dp,if_true,List.append_nil];rfl)
  (fun i y r s hi hx BA hs ih=>by
   obtain⟨put,s⟩:=s;refine au P8 ?_;have h6:aK s.length [y].length=true:=fits (by simp at hs ⊢;split at hs<;>omega)
   cases put
   ·have h7:aK s.length [v].length=true:=fits (by simp at hs ⊢;omega);have h8:aK (s++[v]).length [y].length=true:=fits (by simp at hs ⊢;omega);simp only[aX hi,aJ hx,Option.bind_some,aG hi (show d.1.length≤1073741824 by omega)];refine aa (Xg (hG _ _ rfl) v.1 y.1) ?_;by_cases ho:fL v.1 y.1=true
    ·have h9:=(mA _ _).2 ho;have:=ih (true,(s++[v])++[y]) (by simp at hs ⊢;omega);simp only[h9,decide_true,h7,h8,dW,ho,if_true,Bool.false_eq_true,if_false];exact this.trans (congrArg (fun l:List ag=>some (((l,d.2),()),())) (show((s++[v])++[y])++r=s++(v::y::r) by simp))
    ·have h9:¬qH v.1 y.1<0:=fun h=>ho ((mA _ _).1 h);have:=ih (false,s++[y]) (by simp at hs ⊢;omega);simp only[h9,decide_false,h6,dW,ho,if_false,Bool.false_eq_true];exact this.trans (congrArg (fun l:List ag=>some (((l,d.2),()),())) (show(s++[y])++dW v r=s++(y::dW v r) by simp))
   ·have:=ih (true,s++[y]) (by simp at hs ⊢;omega);simp only[aX hi,aJ hx,Option.bind_some,aG hi (show d.1.length≤1073741824 by omega),h6,if_true];exact this.trans (congrArg (fun l:List ag=>some (((l,d.2),()),())) (show(s++[y])++r=s++(y::r) by simp)))
  (false,[]) (by simp)
 exact key
theorem abj(hG:HG G)(d:aj)(v:ah)(hl:d.2.length≤100000000):FX G 115 ym ((d,v,()),())=some (((d.1,dq v d.2),()),()):=by
 refine aq (hG _ _ rfl) afx ?_;have key:=bV d.2 (fun i (s:Bool×List ah)=>LX G 115 ym Tryz.f115 tp (aN Tryz.prog 115 0) ((s.1,(i,())),(((d,()),((v,()),((([]:List ag),(([]:List ah),())),((d.1,(s.2,())),())))),()))) (fun r s=>(((d.1,s.2++(if s.1 then r else dq v r)),()),())) (fun n s=>s.2.length+n≤d.2.length+(if s.1 then 1 else 0))
  (fun s hs=>by
   obtain⟨put,s⟩:=s;refine au Qp ?_;have h7:aK s.length [v].length=true:=fits (by simp at hs ⊢;split at hs<;>omega)
   cases put
   ·simp only[dp,h7,dq];rfl
   ·simp only[dp,if_true,List.append_nil];rfl)
  (fun i y r s hi hx BA hs ih=>by
   obtain⟨put,s⟩:=s;refine au Qp ?_;have h6:aK s.length [y].length=true:=fits (by simp at hs ⊢;split at hs<;>omega)
   cases put
   ·have h7:aK s.length [v].length=true:=fits (by simp at hs ⊢;omega);have h8:aK (s++[v]).length [y].length=true:=fits (by simp at hs ⊢;omega);simp only[aX hi,aJ hx,Option.bind_some,aG hi (show d.2.length≤1073741824 by omega)];refine aa (Xg (hG _ _ rfl) v.1 y.1) ?_;by_cases ho:fL v.1 y.1=true
    ·have h9:=(mA _ _).2 ho;have:=ih (true,(s++[v])++[y]) (by simp at hs ⊢;omega);simp only[h9,decide_true,h7,h8,dq,ho,if_true,Bool.false_eq_true,if_false];exact this.trans (congrArg (fun l:List ah=>some (((d.1,l),()),())) (show((s++[v])++[y])++r=s++(v::y::r) by simp))
    ·have h9:¬qH v.1 y.1<0:=fun h=>ho ((mA _ _).1 h);have:=ih (false,s++[y]) (by simp at hs ⊢;omega);simp only[h9,decide_false,h6,dq,ho,if_false,Bool.false_eq_true];exact this.trans (congrArg (fun l:List ah=>some (((d.1,l),()),())) (show(s++[y])++dq v r=s++(y::dq v r) by simp))
   ·have:=ih (true,s++[y]) (by simp at hs ⊢;omega);simp only[aX hi,aJ hx,Option.bind_some,aG hi (show d.2.length≤1073741824 by omega),h6,if_true];exact this.trans (congrArg (fun l:List ah=>some (((d.1,l),()),())) (show(s++[y])++r=s++(y::r) by simp)))
  (false,[]) (by simp)
 exact key
def dv(l:List ag)(v:ID):List ag:=l.filter fun w=>decide (w.1≠v)
def cS(l:List ah)(v:ID):List ah:=l.filter fun w=>decide (w.1≠v)
def aS(d:aj)(v e:ID):aj:=(dv d.1 v,cS d.2 e)
theorem T2(hG:G 81 oP=none)(d:aj)(v e:ID)(hl:d.1.length≤100000000)(vQ:d.2.length≤100000000):FX G 81 oP ((d,v,e,()),())=some ((aS d v e,()),()):=by
 refine aq hG afb ?_;have T3:=fun vs=>bV d.2 (fun i (s:List ah)=>LX G 81 oP Tryz.f81 wq (aN Tryz.prog 81 1) ((i,()),(((d,()),((e,()),((([]:List ag),(([]:List ah),())),((vs,(s,())),())))),()))) (fun(r:List ah) (s:List ah)=>(((vs,s++cS r e),()),())) (fun n s=>s.length+n≤d.2.length) (fun s hs=>by refine au Qa ?_;simp only[dp,dv,cS,List.filter_nil,List.append_nil];rfl) (fun i y r s hi hx BA hs ih=>by
   refine au Qa ?_;have h6:aK s.length [y].length=true:=fits (by simp at hs ⊢;omega);simp only[aX hi,aJ hx,Option.bind_some,jk,aG hi (show d.2.length≤1073741824 by omega)];by_cases he:y.1=e
   ·simp only[he,decide_true,Bool.not_true,ne_eq,not_true_eq_false,decide_false,dv,cS,List.filter_cons,Bool.false_eq_true,if_false];exact ih s (by omega)
   ·simp only[he,decide_false,Bool.not_false,h6,ne_eq,not_false_eq_true,decide_true,dv,cS,List.filter_cons,if_true];have:=ih (s++[y]) (by simp;omega);rw[List.append_assoc]at this;exact this)
  [] (by simp)
 have Fc:=bV d.1 (fun i (s:List ag)=>LX G 81 oP Tryz.f81 wo (aN Tryz.prog 81 0) ((i,()),(((d,()),((v,()),((e,()),((([]:List ag),(([]:List ah),())),((s,(([]:List ah),())),()))))),()))) (fun(r:List ag) (s:List ag)=>(((s++dv r v,cS d.2 e),()),())) (fun n s=>s.length+n≤d.1.length) (fun s hs=>by refine au P9 ?_;simp only[dp,dv,cS,List.filter_nil,List.append_nil];exact T3 s) (fun i y r s hi hx BA hs ih=>by
   refine au P9 ?_;have h6:aK s.length [y].length=true:=fits (by simp at hs ⊢;omega);simp only[aX hi,aJ hx,Option.bind_some,jk,aG hi (show d.1.length≤1073741824 by omega)];by_cases he:y.1=v
   ·simp only[he,decide_true,Bool.not_true,ne_eq,not_true_eq_false,decide_false,dv,cS,List.filter_cons,Bool.false_eq_true,if_false];exact ih s (by omega)
   ·simp only[he,decide_false,Bool.not_false,h6,ne_eq,not_false_eq_true,decide_true,dv,cS,List.filter_cons,if_true];have:=ih (s++[y]) (by simp;omega);rw[List.append_assoc]at this;exact this)
  [] (by simp)
 exact Fc
instance ai9:DecidableEq (List ag):=@instDecidableEqList ag inferInstance
instance decLE:DecidableEq (List ah):=@instDecidableEqList ah inferInstance
instance adL:DecidableEq aj:=instDecidableEqProd
instance abk:DecidableEq StateT:=instDecidableEqProd
structure Sm(d:aj):Prop where
 v:d.1.length≤50000000
 e:d.2.length≤50000000
 r:∀w∈d.1,w.2.1.length≤50000000
def rG(x:ID)(l:List ab)(w:ag):ag:=if w.1=x then(w.1,(l,w.2.2)) else w
def b8(d:aj)(x:ID)(l:List ab):aj:=(d.1.map (rG x l),d.2)
theorem eQ(i:Nat):decide ((0:Int)≤(i:Int))=true:=by simp
theorem vg{α:Type}(f:α→α)(l:List α)(i:Nat)(x:α)(hx:l[i]? = some x):((l.take i).map f++l.drop i).set i (f x)=(l.take (i+1)).map f++l.drop (i+1):=by have hi:=(ack.1 hx).1;have h2:l.drop i=l[i]::l.drop (i+1):=adu hi;have h3:l[i]=x:=(ack.1 hx).2;rw[List.set_append_right _ _ (by simp;omega),h2,List.length_map,List.length_take,Nat.min_eq_left (by omega),Nat.sub_self,List.set_cons_zero,List.take_add_one,hx];simp
theorem qJ{α:Type}(f:α→α)(l:List α)(i:Nat)(x:α)(hx:l[i]? = some x)(hf:f x=x):(l.take i).map f++l.drop i=(l.take (i+1)).map f++l.drop (i+1):=by have hi:=(ack.1 hx).1;have h2:l.drop i=l[i]::l.drop (i+1):=adu hi;have h3:l[i]=x:=(ack.1 hx).2;rw[h2,h3,List.take_add_one,hx];simp[hf]
theorem Fe{α:Type}(f:α→α)(l:List α)(i:Nat)(x:α)(hx:l[i]? = some x):((l.take i).map f++l.drop i)[i]? = some x:=by have hi:=(ack.1 hx).1;rw[List.getElem?_append_right (by simp;omega),List.length_map,List.length_take,Nat.min_eq_left (by omega),Nat.sub_self,List.getElem?_drop,Nat.add_zero,hx]
theorem Xk(hG:HG G)(d:aj)(x:ID)(l:List ab)(hs:Sm d):FX G 145 CO ((d,x,l,()),())=some ((b8 d x l,()),()):=by
 have hv:=hs.v;have he:=hs.e;refine aq (hG _ _ rfl) afS ?_;refine aa (abh (hG _ _ rfl) d (by omega) (by omega) (fun w hw=>by have:=hs.r w hw;omega)) ?_;have loop:∀(n i:Nat) (out fin:List ag),i+n=d.1.length→out=(d.1.take i).map (rG x l)++d.1.drop i→fin=d.1.map (rG x l) → LX G 145 CO Tryz.f145 wA (aN Tryz.prog 145 0) ((l,((i:Int),())),(((x,()),((([]:List ag),(([]:List ah),())),((out,(d.2,())),()))),()))=some (((fin,d.2),()),()):=by
  intro n
  induction n with
  |zero =>
   intro i out fin hi ho hf;refine au Qw ?_;have TV:out.length=d.1.length:=by rw[ho];simp;omega
   have h1:¬((i:Int)<(out.length:Int)):=by omega
   have h2:out=fin:=by rw[ho,hf,List.take_of_length_le (by omega),List.drop_eq_nil_of_le (by omega),List.append_nil]
   subst h2;simp only[h1,decide_false];rfl
  |succ n ih =>
   intro i out fin hi ho hf;refine au Qw ?_;have TV:out.length=d.1.length:=by rw[ho];simp;omega
   have aF:i<d.1.length:=by omega
   have hx:d.1[i]? = some d.1[i]:=aci aF;have hg:out[i]? = some d.1[i]:=by rw[ho];exact Fe _ _ _ _ hx
   simp only[aX (show i<out.length by omega),eQ,Bool.and_self,Int.toNat_natCast,hg,Option.bind_some,jk,aG aF (show d.1.length≤1073741824 by omega)];by_cases hq:d.1[i].1=x
   ·have e1:rG x l d.1[i]=(x,(l,d.1[i].2.2)):=by unfold rG;rw[if_pos hq,hq]
    simp only[hq,decide_true];exact ih (i+1) (out.set i (x,(l,d.1[i].2.2))) fin (by omega) (by rw[ho,←vg _ _ _ _ hx,e1]) hf
   ·have e1:rG x l d.1[i]=d.1[i]:=by unfold rG;rw[if_neg hq]
    simp only[hq,decide_false];exact ih (i+1) out fin (by omega) (by rw[ho];exact qJ _ _ _ _ hx e1) hf
 exact loop d.1.length 0 d.1 (d.1.map (rG x l)) (by omega) (by simp) rfl
def bJ(d:aj)(x:ID):List ab:=((bp d x).getD zV).2.1
theorem jS{α:Type}(z:α)(o:Option α):(pz z o).1=o.getD z:=by cases o<;>rfl
theorem gZ{α:Type}(z:α)(o:Option α):(pz z o).2.1=o.isSome:=by cases o<;>rfl
theorem nM{d:aj}(hs:Sm d)(x:ID):(bJ d x).length≤50000000:=by
 unfold bJ
 cases h:bp d x with
 |none=>simp[zV]
 |some v=>exact hs.r v (adt h)
def bN(d:aj)(c:pq)(x:ab):aj:=b8 d c.1 (lS (bJ d c.1) c.2 x)
def aC(d:aj)(cK x:ab):aj:=b8 d ((cm d cK).getD zI) (jo (bJ d ((cm d cK).getD zI)) cK x)
def aB(d:aj)(x:ab):aj:=b8 d ((cm d x).getD zI) (gS (bJ d ((cm d x).getD zI)) x)
theorem abl(hG:HG G)(d:aj)(c:pq)(x:ab)(hs:Sm d):FX G 116 yn ((d,c,x,()),())=some ((bN d c x,()),()):=by have hv:=hs.v;have hr:=nM hs c.1;refine aq (hG _ _ rfl) afy ?_;refine aa (CQ (hG _ _ rfl) d c.1 (by omega)) ?_;rw[show(pz zV (bp d c.1)).1=(bp d c.1).getD zV from jS _ _];refine aa (abf hG (bJ d c.1) c.2 x (by omega)) ?_;exact aa (Xk hG d c.1 (lS (bJ d c.1) c.2 x) hs) rfl
theorem abm(hG:HG G)(d:aj)(cK x:ab)(hs:Sm d):FX G 120 GY ((d,cK,x,()),())=some ((aC d cK x,()),()):=by have hv:=hs.v;have hr:=nM hs ((cm d cK).getD zI);refine aq (hG _ _ rfl) afC ?_;refine aa (HK hG d cK (by omega) (fun w hw=>by have:=hs.r w hw;omega)) ?_;rw[show(pz zI (cm d cK)).1=(cm d cK).getD zI from jS _ _];refine aa (CQ (hG _ _ rfl) d ((cm d cK).getD zI) (by omega)) ?_;rw[show(pz zV (bp d ((cm d cK).getD zI))).1=(bp d ((cm d cK).getD zI)).getD zV from jS _ _];refine aa (abg hG (bJ d ((cm d cK).getD zI)) cK x (by omega)) ?_;exact aa (Xk hG d ((cm d cK).getD zI) (jo (bJ d ((cm d cK).getD zI)) cK x) hs) rfl
theorem abn(hG:HG G)(d:aj)(x:ab)(hs:Sm d):FX G 119 MW ((d,x,()),())=some ((aB d x,()),()):=by have hv:=hs.v;have hr:=nM hs ((cm d x).getD zI);refine aq (hG _ _ rfl) afB ?_;refine aa (HK hG d x (by omega) (fun w hw=>by have:=hs.r w hw;omega)) ?_;rw[show(pz zI (cm d x)).1=(cm d x).getD zI from jS _ _];refine aa (CQ (hG _ _ rfl) d ((cm d x).getD zI) (by omega)) ?_;rw[show(pz zV (bp d ((cm d x).getD zI))).1=(bp d ((cm d x).getD zI)).getD zV from jS _ _];refine aa (abe hG (bJ d ((cm d x).getD zI)) x (by omega)) ?_;exact aa (Xk hG d ((cm d x).getD zI) (gS (bJ d ((cm d x).getD zI)) x) hs) rfl
def iZ(row:List ab)(x:ab):ab:=(dF row x (row.length-1)).getD zD
theorem zc(o:Option ab):(HH o).1=o.getD zD:=by cases o<;>rfl
def da(d:aj)(x:ab):ab :=
 let row:=bJ d ((cm d x).getD zI)
 let y:=iZ row x
 let z:=if y.1=x.1 then iZ row y else y
 if z.1=x.1 then zD else z
theorem abo(hG:HG G)(d:aj)(x:ab)(hs:Sm d):FX G 118 MV ((d,x,()),())=some ((da d x,()),()):=by
 have hv:=hs.v;have hr:=nM hs ((cm d x).getD zI);refine aq (hG _ _ rfl) afA ?_;refine aa (HK hG d x (by omega) (fun w hw=>by have:=hs.r w hw;omega)) ?_;rw[show(pz zI (cm d x)).1=(cm d x).getD zI from jS _ _];refine aa (CQ (hG _ _ rfl) d ((cm d x).getD zI) (by omega)) ?_;rw[show(pz zV (bp d ((cm d x).getD zI))).1=(bp d ((cm d x).getD zI)).getD zV from jS _ _];refine aa (abc hG (bJ d ((cm d x).getD zI)) x (by omega)) ?_;rw[show(HH (dF (bJ d ((cm d x).getD zI)) x ((bJ d ((cm d x).getD zI)).length-1))).1=iZ (bJ d ((cm d x).getD zI)) x from zc _];unfold da;obtain⟨y,hy⟩:∃y,y=iZ (bJ d ((cm d x).getD zI)) x:=⟨_,rfl⟩;simp only[←hy,jk];by_cases h1:y.1=x.1
 ·have d1:=decide_eq_true h1;rw[if_pos h1];simp only[d1];refine aa (abc hG (bJ d ((cm d x).getD zI)) y (by omega)) ?_;rw[show(HH (dF (bJ d ((cm d x).getD zI)) y ((bJ d ((cm d x).getD zI)).length-1))).1=iZ (bJ d ((cm d x).getD zI)) y from zc _];by_cases h2:(iZ (bJ d ((cm d x).getD zI)) y).1=x.1
  ·have d2:=decide_eq_true h2;rw[if_pos h2];simp only[d2];rfl
  ·have d2:=decide_eq_false h2;rw[if_neg h2];simp only[d2];rfl
 ·have d1:=decide_eq_false h1;rw[if_neg h1,if_neg h1];simp only[d1];rfl
def fV(l:List aw)(d:ab):Option ab:=(l.find? fun g=>decide (g.1=d)).map (·.2)
theorem Vy(hG:G 147 sD=none)(l:List aw)(d:ab)(hl:l.length≤100000000):FX G 147 sD ((l,d,()),())=some (pz zD (fV l d),()):=by
 refine aq hG Zy ?_;have key:=bV l (fun i (_:Unit)=>LX G 147 sD Tryz.f147 uO (aN Tryz.prog 147 0) ((l,(i,())),(((d,()),(((((0:Int),(0:Int)),(0:Int)),()),())),()))) (fun(r:List aw) (_:Unit)=>(pz zD (fV r d),())) (fun _ _=>True) (fun s _=>by refine au K1 ?_;simp only[dp,cond_false];rfl) (fun i y r s hi hx hr _ ih=>by
   refine au K1 ?_;simp only[aX hi,aJ hx,Option.bind_some,kz,aG hi (show l.length≤1073741824 by omega)];by_cases he:y.1=d
   ·simp only[he,decide_true,fV,List.find?_cons];rfl
   ·simp only[he,decide_false,fV,List.find?_cons];exact ih () trivial)
  () trivial
 exact key
theorem agn(hG:G 65 EP=none)(a b:List aw)(ha:a.length≤100000000):FX G 65 EP ((a,b,()),())=some ((decide (a=b),()),()):=by
 refine aq hG afh ?_;by_cases hl:a.length=b.length
 case neg =>
  have h1:((((a.length:Nat):Int)) != ((b.length:Nat):Int))=true:=by simp;omega
  have h2:¬a=b:=fun e=>hl (by rw[e]);simp only[h1,h2,decide_false];rfl
 have h1:((((a.length:Nat):Int)) != ((b.length:Nat):Int))=false:=by simp[hl]
 simp only[h1];have FJ:(a.zip b).length=a.length:=by simp[hl]
 have key:=bV (a.zip b) (fun i (_:Unit)=>LX G 65 EP Tryz.f65 Ba (aN Tryz.prog 65 0) ((a,(b,(i,()))),((),()))) (fun r _=>((r.all (fun p=>decide (p.1=p.2)),()),())) (fun _ _=>True) (fun s _=>by refine au Qf ?_;rw[FJ];simp only[dp];rfl) (fun i x r s hi hx hr _ ih=>by
   rw[FJ]at hi;obtain⟨h3,h4⟩:=y0 hx;refine au Qf ?_;simp only[aX hi,aJ h3,aJ h4,Option.bind_some,kz,aG hi (show a.length≤1073741824 by omega)];by_cases he:x.1=x.2
   ·simp only[he,decide_true,Bool.and_self,Bool.not_true,List.all_cons,Bool.true_and];exact ih () trivial
   ·have h9:(decide (x.1.1=x.2.1)&&decide (x.1.2=x.2.2))=false:=by rw[Bool.eq_false_iff];intro h;simp at h;exact he (Prod.ext h.1 h.2)
    simp only[he,h9,decide_false,Bool.not_false,List.all_cons,Bool.false_and];rfl)
  () trivial
 rw[vf a b hl]at key;exact key
theorem ago(hG:HG G)(a b:aj)(hs:Sm a):FX G 55 AG ((a,b,()),())=some ((decide (a=b),()),()):=by
 have hv:=hs.v;have he:=hs.e;refine aq (hG _ _ rfl) aeW ?_;by_cases hl:a.1.length=b.1.length
 case neg =>
  have h1:((((a.1.length:Nat):Int)) != ((b.1.length:Nat):Int))=true:=by simp;omega
  have h2:¬a=b:=fun e=>hl (by rw[e]);simp only[h1,h2,decide_false];rfl
 have h1:((((a.1.length:Nat):Int)) != ((b.1.length:Nat):Int))=false:=by simp[hl]
 simp only[h1];by_cases vQ:a.2.length=b.2.length
 case neg =>
  have h1:((((a.2.length:Nat):Int)) != ((b.2.length:Nat):Int))=true:=by simp;omega
  have h2:¬a=b:=fun e=>vQ (by rw[e]);simp only[h1,h2,decide_false];rfl
 have h2:((((a.2.length:Nat):Int)) != ((b.2.length:Nat):Int))=false:=by simp[vQ]
 simp only[h2];have FJ:(a.1.zip b.1).length=a.1.length:=by simp[hl]
 have abp:(a.2.zip b.2).length=a.2.length:=by simp[vQ]
 have T3:=bV (a.2.zip b.2) (fun i (_:Unit)=>LX G 55 AG Tryz.f55 A4 (aN Tryz.prog 55 1) ((i,()),(((a,()),((b,()),())),()))) (fun r _=>((r.all (fun p=>decide (p.1=p.2)),()),())) (fun _ _=>True) (fun s _=>by refine au P0 ?_;rw[abp];simp only[dp];rfl) (fun i x r s hi hx hr _ ih=>by
   rw[abp]at hi;obtain⟨h3,h4⟩:=y0 hx;refine au P0 ?_;simp only[aX hi,aJ h3,aJ h4,Option.bind_some,jk,Xe,aG hi (show a.2.length≤1073741824 by omega)];by_cases he:x.1=x.2
   ·simp only[he,decide_true,beq_self_eq_true,Bool.and_self,Bool.not_true,List.all_cons,Bool.true_and];exact ih () trivial
   ·have h9:(decide (x.1.1=x.2.1)&&(decide (x.1.2.1=x.2.2.1)&&(x.1.2.2==x.2.2.2)))=false:=by rw[Bool.eq_false_iff];intro h;simp at h;exact he (Prod.ext h.1 (Prod.ext h.2.1 h.2.2))
    simp only[he,h9,decide_false,Bool.not_false,List.all_cons,Bool.false_and];rfl)
  () trivial
 rw[vf a.2 b.2 vQ]at T3;have key:=bV (a.1.zip b.1) (fun i (_:Unit)=>LX G 55 AG Tryz.f55 A3 (aN Tryz.prog 55 0) ((i,()),(((a,()),((b,()),())),()))) (fun r _=>((r.all (fun p=>decide (p.1=p.2))&&decide (a.2=b.2),()),())) (fun _ _=>True) (fun s _=>by refine au PZ ?_;rw[FJ];simp only[dp,List.all_nil,Bool.true_and];exact T3) (fun i x r s hi hx hr _ ih=>by
   rw[FJ]at hi;obtain⟨h3,h4⟩:=y0 hx;refine au PZ ?_;simp only[aX hi,aJ h3,aJ h4,Option.bind_some,jk,Xe,aG hi (show a.1.length≤1073741824 by omega)];refine aa (agm hG x.1.2.1 x.2.2.1 (by have:=hs.r x.1 (adj h3);omega)) ?_;by_cases e1:x.1.1=x.2.1
   case neg =>
    have he:¬x.1=x.2:=fun e=>e1 (by rw[e]);have d1:=decide_eq_false e1;simp only[d1,he,decide_false,List.all_cons,Bool.false_and];rfl
   have d1:=decide_eq_true e1;by_cases e2:x.1.2.2.1=x.2.2.2.1
   case neg =>
    have he:¬x.1=x.2:=fun e=>e2 (by rw[e]);have d2:=decide_eq_false e2;simp only[d1,d2,he,decide_false,List.all_cons,Bool.false_and];rfl
   have d2:=decide_eq_true e2;by_cases e3:x.1.2.2.2=x.2.2.2.2
   case neg =>
    have he:¬x.1=x.2:=fun e=>e3 (by rw[e]);have h8:(x.1.2.2.2 != x.2.2.2.2)=true:=by simp[e3]
    simp only[d1,d2,h8,he,decide_false,List.all_cons,Bool.false_and];rfl
   have h8:(x.1.2.2.2 != x.2.2.2.2)=false:=by simp[e3]
   by_cases e4:x.1.2.1=x.2.2.1
   case neg =>
    have he:¬x.1=x.2:=fun e=>e4 (by rw[e]);have d4:=decide_eq_false e4;simp only[d1,d2,h8,d4,he,decide_false,List.all_cons,Bool.false_and];rfl
   have d4:=decide_eq_true e4;have he:decide (x.1=x.2)=true:=decide_eq_true (Prod.ext e1 (Prod.ext e4 (Prod.ext e2 e3)));simp only[d1,d2,h8,d4,he,List.all_cons,Bool.true_and];exact ih () trivial)
  () trivial
 rw[vf a.1 b.1 hl]at key;have gR:(decide (a.1=b.1)&&decide (a.2=b.2))=decide (a=b):=by rw[Bool.eq_iff_iff];simp[Prod.ext_iff]
 exact key.trans (congrArg (fun b:Bool=>some ((b,()),())) gR)
theorem abq(hG:HG G)(a b:StateT)(hs:Sm a.1)(hg:a.2.length≤50000000):FX G 22 GK ((a,b,()),())=some ((decide (a=b),()),()):=by
 refine aq (hG _ _ rfl) aeN ?_;refine aa (ago hG a.1 b.1 hs) ?_;refine aa (agn (hG _ _ rfl) a.2 b.2 (by omega)) ?_;have gR:(decide (a.1=b.1)&&decide (a.2=b.2))=decide (a=b):=by rw[Bool.eq_iff_iff];simp[Prod.ext_iff]
 rw[←gR];by_cases h:a.1=b.1
 ·simp only[h,decide_true,Bool.true_and];rfl
 ·simp only[h,decide_false,Bool.false_and];rfl
def mU(g:aw)(l:List aw):List aw:=l.filter fun q=>decide (q.1≠g.1)
def kR(g:aw):List aw→List aw
 |[]=>[g]
 |e::r=>if mT g.1 e.1≤0 then g::mU g (e::r) else if e.1≠g.1 then e::kR g r else kR g r
def bK(l:List aw)(g:aw):List aw:=if(fV l g.1).isSome=false∧400≤l.length then l else kR g l
def Nh(g:aw)(put:Bool)(r:List aw):List aw:=if put then mU g r else kR g r
theorem abr(hG:HG G)(l:List aw)(g:aw)(hl:l.length≤50000000) :
  LX G 117 yp Tryz.f117 ky (aN Tryz.prog 117 0) ((l,(false,((0:Int),()))),(((g,()),()),(([]:List aw),())))=some ((kR g l,()),()):=by
 have key:=bV l (fun i (s:Bool×List aw)=>LX G 117 yp Tryz.f117 ky (aN Tryz.prog 117 0) ((l,(s.1,(i,()))),(((g,()),()),(s.2,())))) (fun(r:List aw) (s:Bool×List aw)=>((s.2++Nh g s.1 r,()),())) (fun n s=>s.2.length+n≤l.length+(if s.1 then 1 else 0))
  (fun s hs=>by
   obtain⟨put,s⟩:=s;refine au Qq ?_;have h7:aK s.length [g].length=true:=fits (by simp at hs ⊢;split at hs<;>omega)
   cases put
   ·simp only[dp,h7,Nh,kR];rfl
   ·simp only[dp,Nh,if_true,mU,List.filter_nil,List.append_nil];rfl)
  (fun i y r s hi hx BA hs ih=>by
   obtain⟨put,s⟩:=s;refine au Qq ?_;have h6:aK s.length [y].length=true:=fits (by simp at hs ⊢;split at hs<;>omega);have hw:=aG hi (show l.length≤1073741824 by omega)
   cases put
   ·have h7:aK s.length [g].length=true:=fits (by simp at hs ⊢;omega);have h8:aK (s++[g]).length [y].length=true:=fits (by simp at hs ⊢;omega);simp only[aX hi,aJ hx,Option.bind_some,hw];refine aa (abb hG g.1 y.1) ?_;by_cases ho:mT g.1 y.1≤0
    ·have d0:=decide_eq_true ho;by_cases hy:y.1=g.1
     ·have d1:=decide_eq_true hy;have:=ih (true,s++[g]) (by simp at hs ⊢;omega);simp only[d0,h7,kz,d1,Nh,kR,ho,if_true,Bool.false_eq_true,if_false];refine this.trans (congrArg (fun l:List aw=>some ((l,()),())) ?_);simp[Nh,mU,hy]
     ·have d1:=decide_eq_false hy;have:=ih (true,(s++[g])++[y]) (by simp at hs ⊢;omega);simp only[d0,h7,h8,kz,d1,Nh,kR,ho,if_true,Bool.false_eq_true,if_false];refine this.trans (congrArg (fun l:List aw=>some ((l,()),())) ?_);simp[Nh,mU,hy]
    ·have d0:=decide_eq_false ho;by_cases hy:y.1=g.1
     ·have d1:=decide_eq_true hy;have:=ih (false,s) (by simp at hs ⊢;omega);simp only[d0,kz,d1,Nh,kR,ho,Bool.false_eq_true,if_false];refine this.trans (congrArg (fun l:List aw=>some ((l,()),())) ?_);simp[Nh,hy]
     ·have d1:=decide_eq_false hy;have:=ih (false,s++[y]) (by simp at hs ⊢;omega);simp only[d0,h6,kz,d1,Nh,kR,ho,Bool.false_eq_true,if_false];refine this.trans (congrArg (fun l:List aw=>some ((l,()),())) ?_);simp[Nh,hy]
   ·by_cases hy:y.1=g.1
    ·have d1:=decide_eq_true hy;have:=ih (true,s) (by simp at hs ⊢;omega);simp only[aX hi,aJ hx,Option.bind_some,hw,kz,d1];refine this.trans (congrArg (fun l:List aw=>some ((l,()),())) ?_);simp[Nh,mU,hy]
    ·have d1:=decide_eq_false hy;have:=ih (true,s++[y]) (by simp at hs ⊢;omega);simp only[aX hi,aJ hx,Option.bind_some,hw,kz,d1,h6];refine this.trans (congrArg (fun l:List aw=>some ((l,()),())) ?_);simp[Nh,mU,hy])
  (false,[]) (by simp)
 exact key
theorem T4(hG:HG G)(l:List aw)(g:aw)(hl:l.length≤50000000):FX G 117 yp ((l,g,()),())=some ((bK l g,()),()):=by
 refine aq (hG _ _ rfl) afz ?_;refine aa (Vy (hG _ _ rfl) l g.1 (by omega)) ?_;rw[show(pz zD (fV l g.1)).2.1=(fV l g.1).isSome from gZ _ _];unfold bK
 cases hf:(fV l g.1).isSome
 ·by_cases hn:400≤l.length
  ·have h1:decide (((l.length:Nat):Int)≥400)=true:=by simp;omega
   rw[if_pos ⟨rfl,hn⟩];simp only[h1];rfl
  ·have h1:decide (((l.length:Nat):Int)≥400)=false:=by simp;omega
   rw[if_neg (by simp[hn])];simp only[h1];exact abr hG l g hl
 ·rw[if_neg (by simp)];exact abr hG l g hl
def res(d:aj)(gn:List aw):Nat→ab→ab
 |0,_=>zD
 |n+1,x=>if(cm d x).isSome then x else match fV gn x with
  |none=>zD
  |some y=>res d gn n y
def resolve(s:StateT)(x:ab):ab:=res s.1 s.2 (s.2.length+1) x
theorem agp(hG:HG G)(s:StateT)(x:ab)(hs:Sm s.1)(hg:s.2.length≤50000000):FX G 143 G2 ((s,x,()),())=some ((resolve s x,()),()):=by
 refine aq (hG _ _ rfl) afR ?_;have hv:=hs.v;have loop:∀(n i:Nat) (y:ab),i+n=s.2.length+1→LX G 143 G2 Tryz.f143 Bj (aN Tryz.prog 143 0) (((i:Int),()),((s,()),((y,()),(((((0:Int),(0:Int)),(0:Int)),()),()))),())=some ((res s.1 s.2 n y,()),()):=by
  intro n
  induction n with
  |zero =>
   intro i y hi;refine au Qv ?_;have h1:decide ((i:Int)≤((s.2.length:Nat):Int))=false:=by simp;omega
   simp only[h1];rfl
  |succ n ih =>
   intro i y hi;refine au Qv ?_;have h1:decide ((i:Int)≤((s.2.length:Nat):Int))=true:=by simp;omega
   have hw:IntKind.wrap .i64 ((i:Int)+1)=((i+1:Nat):Int):=by rw[wrap_small (by omega) (by omega)];rfl
   simp only[h1,hw];refine aa (HK hG s.1 y (by omega) (fun w hw=>by have:=hs.r w hw;omega)) ?_;rw[show(pz zI (cm s.1 y)).2.1=(cm s.1 y).isSome from gZ _ _,res]
   cases ha:(cm s.1 y).isSome
   ·simp only[Bool.false_eq_true,if_false];refine aa (Vy (hG _ _ rfl) s.2 y (by omega)) ?_
    cases hf:fV s.2 y with
    |none=>rfl
    |some z=>exact ih (i+1) z (by omega)
   ·rfl
 exact loop (s.2.length+1) 0 x (by omega)
def zC:pq:=(zI,zD)
def vh(s:StateT)(c:pq)(v:ag):ab:=if resolve s c.2∈v.2.1 then resolve s c.2 else zD
def aZ(s:StateT)(c:pq):pq×(Int×Unit):=match bp s.1 c.1 with
 |none=>(zC,(13,()))
 |some v=>((c.1,vh s c v),(0,()))
theorem abt(hG:HG G)(s:StateT)(c:pq)(hs:Sm s.1)(hg:s.2.length≤50000000):FX G 114 MU ((s,c,()),())=some (aZ s c,()):=by
 have hv:=hs.v;refine aq (hG _ _ rfl) afw ?_;refine aa (CQ (hG _ _ rfl) s.1 c.1 (by omega)) ?_;unfold aZ
 cases hf:bp s.1 c.1 with
 |none=>rfl
 |some v =>
  have hr:v.2.1.length≤50000000:=hs.r v (adt hf);refine aa (agp hG s c.2 hs hg) ?_;refine aa (E9 (hG _ _ rfl) v.2.1 (resolve s c.2) (by omega)) ?_;by_cases hm:resolve s c.2∈v.2.1
  ·have h1:decide (idx (resolve s c.2) v.2.1 0<0)=false:=decide_eq_false (fun h=>eg.1 h hm);have h2:vh s c v=resolve s c.2:=if_pos hm;simp only[h1];exact congrArg (fun z:ab=>some (((c.1,z),((0:Int),())),())) h2.symm
  ·have h1:decide (idx (resolve s c.2) v.2.1 0<0)=true:=decide_eq_true (eg.2 hm);have h2:vh s c v=zD:=if_neg hm;simp only[h1];exact congrArg (fun z:ab=>some (((c.1,z),((0:Int),())),())) h2.symm
def ao(x:ab):ab:=(x.1,IntKind.wrap .i64 (1-x.2))
def nN(d:aj)(x:ab):Option ab:=match cm d x with
 |none=>none
 |some a=>dF (bJ d a) x 1
theorem agq(hG:HG G)(d:aj)(x:ab)(hs:Sm d):FX G 234 PL ((d,x,()),())=some (HH (nN d x),()):=by
 have hv:=hs.v;refine aq (hG _ _ rfl) afE ?_;refine aa (HK hG d x (by omega) (fun w hw=>by have:=hs.r w hw;omega)) ?_;unfold nN
 cases ha:cm d x with
 |none=>rfl
 |some a =>have hr:=nM hs a;refine aa (CQ (hG _ _ rfl) d a (by omega)) ?_;rw[show(pz zV (bp d a)).1=(bp d a).getD zV from jS _ _];exact aa (abd hG (bJ d a) x (by omega)) rfl
def HL(d:aj)(x:ab):Option ab:=if(cm d x).isSome then nN d (ao x) else none
theorem abu(hG:HG G)(d:aj)(x:ab)(hs:Sm d):FX G 216 MQ ((d,x,()),())=some (HH (HL d x),()):=by
 have hv:=hs.v;refine aq (hG _ _ rfl) afi ?_;refine aa (HK hG d x (by omega) (fun w hw=>by have:=hs.r w hw;omega)) ?_;rw[show(pz zI (cm d x)).2.1=(cm d x).isSome from gZ _ _];unfold HL
 cases ha:(cm d x).isSome
 ·rfl
 ·refine aa (Xf (hG _ _ rfl) x) ?_;exact aa (agq hG d (ao x) hs) rfl
def qK(d:aj)(x:ab):Nat→ab→List ab→List ab
 |0,_,out=>out
 |n+1,y,out=>if y=x then out else qK d x n ((HL d y).getD zD) (out++[y])
def bh(d:aj)(x:ab):List ab:=match HL d x with
 |none=>[]
 |some y=>qK d x 81 y [x]
theorem agr(hG:HG G)(d:aj)(x:ab)(hs:Sm d):FX G 192 GL ((d,x,()),())=some ((bh d x,()),()):=by
 refine aq (hG _ _ rfl) aeS ?_;refine aa (abu hG d x hs) ?_;unfold bh
 cases hp:HL d x with
 |none=>rfl
 |some y =>
  have h5:aK ([]:List ab).length [x].length=true:=fits (by simp);have loop:∀(n:Nat) (y:ab) (out:List ab),out.length+n=82→LX G 192 GL Tryz.f192 A1 (aN Tryz.prog 192 0) ((),((d,()),((x,()),((y,()),()))),(out,()))=some ((qK d x n y out,()),()):=by
   intro n
   induction n with
   |zero =>
    intro y out ho;refine au PX ?_;have h1:decide (((out.length:Nat):Int)<82)=false:=by simp;omega
    simp only[kz,h1];by_cases hy:y=x
    ·have d1:=decide_eq_true hy;simp only[d1];rfl
    ·have d1:=decide_eq_false hy;simp only[d1];rfl
   |succ n ih =>
    intro y out ho;refine au PX ?_;have h1:decide (((out.length:Nat):Int)<82)=true:=by simp;omega
    have h6:aK out.length [y].length=true:=fits (by simp;omega);simp only[kz,h1,h6];rw[qK];by_cases hy:y=x
    ·have d1:=decide_eq_true hy;rw[if_pos hy];simp only[d1];rfl
    ·have d1:=decide_eq_false hy;rw[if_neg hy];simp only[d1];refine aa (abu hG d y hs) ?_;rw[show(HH (HL d y)).1=(HL d y).getD zD from zc _];exact ih ((HL d y).getD zD) (out++[y]) (by simp;omega)
  exact loop 81 y [x] (by simp)
theorem DK(d:aj)(x:ab):∀(n:Nat) (y:ab) (out:List ab),(qK d x n y out).length≤out.length+n
 |0,_,out=>adg _
 |n+1,y,out=>by
  unfold qK
  split
  ·omega
  ·have:=DK d x n ((HL d y).getD zD) (out++[y]);simp at this;omega
theorem DL(d:aj)(x:ab):(bh d x).length≤82:=by
 unfold bh
 cases HL d x with
 |none=>simp
 |some y=>have:=DK d x 81 y [x];simpa using this
def ep:List ah→List ab
 |[]=>[]
 |e::r=>(e.1,0)::(e.1,1)::ep r
theorem lT:∀l:List ah,(ep l).length=2*l.length
 |[]=>rfl
 |e::r=>by simp[ep,lT r];omega
theorem ags(hG:G 191 ES=none)(d:aj)(hs:Sm d):FX G 191 ES ((d,()),())=some ((ep d.2,()),()):=by have he:=hs.e;refine aq hG afn ?_;have key:=bV d.2 (fun i (s:List ab)=>LX G 191 ES Tryz.f191 Bg (aN Tryz.prog 191 0) ((i,()),(((d,()),()),(s,())))) (fun(r:List ah) (s:List ab)=>((s++ep r,()),())) (fun n s=>s.length+2*n≤2*d.2.length) (fun s _=>by refine au Qm ?_;simp only[dp,ep,List.append_nil];rfl) (fun i y r s hi hx BA hs ih=>by refine au Qm ?_;have h6:aK s.length [((y.1,(0:Int)):ab),(y.1,(1:Int))].length=true:=fits (by simp;omega);simp only[aX hi,aJ hx,Option.bind_some,h6,aG hi (show d.2.length≤1073741824 by omega)];have:=ih (s++[(y.1,0),(y.1,1)]) (by simp;omega);refine this.trans (congrArg (fun l:List ab=>some ((l,()),())) ?_);simp[ep]) [] (by simp);exact key
def g6(d:aj):List ab→List (List ab)→List ab→List (List ab)
 |[],out,_=>out
 |x::r,out,told=>if x∈told then g6 d r out told else g6 d r (out++[bh d x]) (told++bh d x)
def cO(d:aj):List (List ab):=g6 d (ep d.2) [] []
theorem agt(hG:HG G)(d:aj)(hs:Sm d)(he:d.2.length≤5000000):FX G 164 GM ((d,()),())=some ((cO d,()),()):=by
 refine aq (hG _ _ rfl) ae0 ?_;refine aa (ags (hG _ _ rfl) d hs) ?_;have N7:=lT d.2;unfold cO;generalize ep d.2=ds at *;have key:=bV ds (fun i (s:List (List ab)×List ab)=>LX G 164 GM Tryz.f164 wj (aN Tryz.prog 164 0) ((i,()),(((d,()),()),(s.1,(s.2,(ds,())))))) (fun(r:List ab) (s:List (List ab)×List ab)=>((g6 d r s.1 s.2,()),())) (fun n s=>s.1.length+n≤ds.length∧s.2.length+82*n≤82*ds.length) (fun s _=>by refine au P2 ?_;simp only[dp];rfl) (fun i y r s hi hx BA hs' ih=>by
   obtain⟨out,told⟩:=s;obtain⟨b1,b2⟩:=hs';simp only at b1 b2;refine au P2 ?_;simp only[aX hi,eQ,Bool.and_self,Int.toNat_natCast,hx,Option.bind_some,aG hi (show ds.length≤1073741824 by omega)];refine aa (E9 (hG _ _ rfl) told y (by omega)) ?_;rw[g6];by_cases hm:y∈told
   ·have d1:decide (idx y told 0≥0)=true:=decide_eq_true (by obtain⟨k,h,_⟩:=fh hm;omega);rw[if_pos hm];simp only[d1];exact ih (out,told) ⟨by simp only;omega,by simp only;omega⟩
   ·have d1:decide (idx y told 0≥0)=false:=decide_eq_false (by have:=eg.2 hm;omega);rw[if_neg hm];simp only[d1];refine aa (agr hG d y hs) ?_;have htl:=DL d y;have h6:aK out.length [bh d y].length=true:=fits (by simp;omega);have h7:aK told.length (bh d y).length=true:=fits (by omega);simp only[h6,h7];exact ih (out++[bh d y],told++bh d y) ⟨by simp;omega,by simp;omega⟩)
  ([],[]) ⟨by simp,by simp⟩
 exact key
end Go.Vs
