/- What the document's reference -/
import Derived.Test.YtoleelddkocpkaaGreatNormalA
import Derived.Test.YtoleelddkocpkaaGreatNormalB
import Derived.Test.YtoleelddkocpkaaGreatNormalC
set_option linter.unusedVariables false
set_option linter.unusedSimpArgs false
namespace Go.Vs
open Go.Proofs
variable {G:(f:FuncId)→(g:aN)→Option (g.A→Option g.B)}
theorem aa{α β:Type}{o:Option α}{f:α→Option β}{a:α}{r:Option β}(h:o=some a)(k:f a=r):o.bind f=r:=by simp_all
theorem aA{α:Type}{l:List α}{i:Nat}{x:α}(h:l[i]? = some x):aS l (i:Int)=some x:=by
 grind [List.getElem?_eq_some_iff,aS]
theorem wrap_small{n:Int}(h0 : -9223372036854775808≤n)(h1:n<9223372036854775808):IntKind.wrap .i64 n=n:=by
 grind [IntKind.wrap,IntKind.bits,IntKind.signed]
theorem aD{i n:Nat}(h:i<n)(hn:n≤1073741824):IntKind.wrap .i64 ((i:Int)+1)=((i+1:Nat):Int):=by
 grind [wrap_small]
theorem aT{i n:Nat}(h:i<n):decide ((i:Int)<((n:Nat):Int))=true:=by simpa using h
theorem cy(n:Nat):decide (((n:Nat):Int)<((n:Nat):Int))=false:=by simp
theorem fits{n m:Nat}(h:n+m≤1073741824):aL n m=true:=decide_eq_true h
theorem lH(a b:ID):((a.1==b.1)&&(a.2==b.2))=decide (a=b):=by
 grind
theorem lJ(a b:ab):(((a.1.1==b.1.1)&&(a.1.2==b.1.2))&&(a.2==b.2))=decide (a=b):=by
 grind
theorem abY(a b:ByteArray):(a==b)=decide (a=b):=by
 obtain⟨a⟩:=a;obtain⟨b⟩:=b;show(a==b)=_
 grind
theorem br{α S R:Type}(l:List α)(L:Int→S→Option R)(g:List α→S→R)(inv:Nat→S→Prop) (aqy:∀s,inv 0 s→L ((l.length:Nat):Int) s=some (g [] s)) (afN:∀(i:Nat) (x:α) (r:List α) (s:S),i<l.length→l[i]? = some x→i+r.length+1=l.length→inv (r.length+1) s→(∀s',inv r.length s'→L ((i+1:Nat):Int) s'=some (g r s'))→L (i:Int) s=some (g (x::r) s)) :
  ∀s,inv l.length s→L 0 s=some (g l s):=by
 have key:∀(r p:List α),p++r=l→∀s,inv r.length s→L ((p.length:Nat):Int) s=some (g r s):=by
  intro r
  induction r with
  |nil=>simp_all
  |cons x r ih =>
   intro p hp s hs;refine afN p.length x r s ?_ ?_ ?_ hs (fun s' hs' => ?_)
   ·grind
   ·grind
   ·grind
   ·have:=ih (p++[x]) (by simp[hp]) s' hs';simp_all
 intro s hs;exact key l [] rfl s hs
def zD:ab:=((0,0),0)
def ck(x:ID):Bool:=decide (1≤x.1∧x.1≤8∧1≤x.2∧x.2≤1048576)
def gL(a b:ID):Bool:=decide (a.1<b.1∨(a.1=b.1∧a.2<b.2))
def rW(a b:ID):Int:=if a=b then 0 else if gL a b then -1 else 1
def mv(a b:ab):Bool:=gL a.1 b.1 || (decide (a.1=b.1)&&decide (a.2<b.2))
def nL(a b:ab):Int:=if a=b then 0 else if mv a b then -1 else 1
def nq(d:ab):Bool:=ck d.1&&decide (d.2=0∨d.2=1)
theorem Rz(hG:G 104 C9=none)(x:ID):FX G 104 C9 ((x,()),())=some ((ck x,()),()):=by
 refine av hG aj0 ?_;obtain⟨a,b⟩:=x;show(cond (decide (a≥1)) (cond (decide (a≤8)) (cond (decide (b≥1)) (some ((decide (b≤1048576),()),())) (some ((false,()),()))) (some ((false,()),()))) (some ((false,()),())):Option ((Bool×Unit)×Unit))=some ((ck (a,b),()),());unfold ck
 grind
theorem abZ(hG:G 131 Fi=none)(d:ab):FX G 131 Fi ((d,()),())=some (((d.1,IntKind.wrap .i64 (1-d.2)),()),()) :=av hG aj4 rfl
theorem ab0(hG:G 105 Kq=none)(a b:ID):FX G 105 Kq ((a,b,()),())=some ((rW a b,()),()):=by
 refine av hG akG ?_;obtain⟨a1,a2⟩:=a;obtain⟨b1,b2⟩:=b;unfold rW gL;show(cond ((a1==b1)&&(a2==b2)) (some (((0:Int),()),())) (cond (decide (a1<b1)) (some (((-1:Int),()),())) (cond (a1==b1) (cond (decide (a2<b2)) (some (((-1:Int),()),())) (some (((1:Int),()),()))) (some (((1:Int),()),())))):Option ((Int×Unit)×Unit))=some (((if(a1,a2)=(b1,b2) then 0 else if(decide (a1<b1∨(a1=b1∧a2<b2)))=true then -1 else 1:Int),()),())
 grind
theorem afO(hG:HG G)(a b:ab):FX G 75 Rf ((a,b,()),())=some ((nL a b,()),()):=by
 refine av (hG _ _ rfl) akB ?_;refine aa (ab0 (hG _ _ rfl) a.1 b.1) ?_;obtain⟨a1,a2⟩:=a;obtain⟨b1,b2⟩:=b;show(cond (rW a1 b1 != 0) (some ((rW a1 b1,()),())) (cond (decide (a2<b2)) (some (((-1:Int),()),())) (cond (decide (a2>b2)) (some (((1:Int),()),())) (some (((0:Int),()),())))):Option ((Int×Unit)×Unit))=some ((nL (a1,a2) (b1,b2),()),());unfold nL mv rW;simp only[cond_eq_ite]
 grind [gL]
theorem alo(hG:HG G)(d:ab):FX G 74 Ug ((d,()),())=some ((nq d,()),()):=by
 refine av (hG _ _ rfl) ak1 ?_;refine aa (Rz (hG _ _ rfl) d.1) ?_;obtain⟨d1,d2⟩:=d;show(cond (ck d1) (cond (d2==0) (some ((true,()),())) (some (((d2==1),()),()))) (some ((false,()),())):Option ((Bool×Unit)×Unit))=some ((nq (d1,d2),()),());unfold nq
 grind
def idx(d:ab):List ab→Int→Int
 |[],_ => -1
 |e::r,i=>if e=d then i else idx d r (i+1)
theorem alp(row:List ab)(d:ab)(hl:row.length≤1073741824):∀(n i:Nat),i+n=row.length→LX G 170 sO Tryz.f170 Dy (aK Tryz.prog 170 0) ((row,((i:Int),())),(((d,()),()),()))=some ((idx d (row.drop i) i,()),()):=by
 intro n
 induction n with
 |zero =>
  intro i hi;refine ar Up ?_;have h1:¬((i:Int)<(row.length:Int)):=by omega
  have h2:row.drop i=[]:=adt (by omega);simp only[h1,h2,decide_false,cond_false,idx];rfl
 |succ n ih =>
  intro i hi;refine ar Up ?_;have aO:i<row.length:=by omega
  have h1:((i:Int)<(row.length:Int)):=by omega
  have h2:row.drop i=row[i]::row.drop (i+1):=adi aO;have h3:aS row (i:Int)=some row[i]:=by simp[aS,aO]
  have h4:IntKind.wrap .i64 ((i:Int)+1)=((i+1:Nat):Int):=by grind [wrap_small]
  have h5:=ih (i+1) (by omega);rw[h2,idx];simp only[h1,decide_true,cond_true,h3,Option.bind_some,h4,lJ];by_cases he:row[i]=d
  ·rw[if_pos he];simp only[he,decide_true];rfl
  ·rw[if_neg he];simp only[he,decide_false];exact h5
theorem II(hG:G 170 sO=none)(row:List ab)(d:ab)(hl:row.length≤1073741824):FX G 170 sO ((row,d,()),())=some ((idx d row 0,()),()):=by refine av hG aj5 ?_;exact alp (G:=G) row d hl row.length 0 (by omega)
theorem pP(d:ab):∀(row:List ab) (i:Int),0≤i→(idx d row i = -1∧d∉row)∨(∃k:Nat,idx d row i=i+k∧row[k]? = some d∧d∉row.take k)
 |[],i,_=>.inl ⟨rfl,by simp⟩
 |e::r,i,h=>by
  unfold idx;by_cases he:e=d
  ·right;exact⟨0,by simp[he],by simp[he],by simp⟩
  ·rw[if_neg he];rcases pP d r (i+1) (by omega) with⟨h1,h2⟩|⟨k,h1,h2,h3⟩
   ·grind
   ·exact .inr ⟨k+1,by rw[h1];omega,by simpa using h2,by grind⟩
theorem fh{d:ab}{row:List ab}:idx d row 0<0↔d∉row:=by
 grind [pP,List.mem_of_getElem?]
theorem eR{d:ab}{row:List ab}(h:d∈row):∃k:Nat,idx d row 0=k∧row[k]? = some d∧d∉row.take k:=by
 rcases pP d row 0 (by omega) with⟨_,h2⟩|⟨k,h1,h2,h3⟩
 ·simp_all
 grind
theorem xS{α:Type}[DecidableEq α]:∀(a b:List α),a.length=b.length→(a.zip b).all (fun p=>decide (p.1=p.2))=decide (a=b)
 |[],[],_=>by simp
 |[],_::_,h=>by simp at h
 |_::_,[],h=>by simp at h
 |x::a,y::b,h=>by simp_all [List.zip_cons_cons,List.all_cons,xS,Bool.eq_iff_iff]
theorem BU{α:Type}{a b:List α}{i:Nat}{x:α×α}(h:(a.zip b)[i]? = some x):a[i]? = some x.1∧b[i]? = some x.2:=by
 grind
theorem alq(hG:HG G)(a b:List ab)(ha:a.length≤1073741824):FX G 63 Kn ((a,b,()),())=some ((decide (a=b),()),()):=by
 refine av (hG _ _ rfl) akw ?_;by_cases hl:a.length=b.length
 case neg =>
  have h1:((((a.length:Nat):Int)) != ((b.length:Nat):Int))=true:=by simp;omega
  have h2:¬a=b:=fun e=>hl (by rw[e]);simp only[h1,h2,decide_false];rfl
 have h1:((((a.length:Nat):Int)) != ((b.length:Nat):Int))=false:=by simp[hl]
 simp only[h1];have Ml:(a.zip b).length=a.length:=by simp[hl]
 have key:=br (a.zip b) (fun i (_:Unit)=>LX G 63 Kn Tryz.f63 DJ (aK Tryz.prog 63 0) ((a,(b,(i,()))),((),()))) (fun r _=>((r.all (fun p=>decide (p.1=p.2)),()),())) (fun _ _=>True) (fun s _=>by refine ar UK ?_;rw[Ml];simp only[cy,cond_false];rfl) (fun i x r s hi hx hr _ ih=>by
   rw[Ml]at hi;obtain⟨h3,h4⟩:=BU hx;refine ar UK ?_;simp only[aT hi,cond_true,aA h3,aA h4,Option.bind_some,lJ,aD hi ha];by_cases he:x.1=x.2
   ·simp only[he,decide_true,Bool.not_true,cond_false,List.all_cons,Bool.true_and];exact ih () trivial
   ·simp only[he,decide_false,Bool.not_false,cond_true,List.all_cons,Bool.false_and];rfl)
  () trivial
 rw[xS a b hl]at key;exact key
def dB(row:List ab)(d:ab)(by_:Nat):Option ab:=if d∈row then row[((idx d row 0).toNat+by_)%row.length]? else none
def K9:Option ab→ab×(Bool×Unit)
 |some y=>(y,(true,()))
 |none=>(zD,(false,()))
theorem s5(a n:Nat):Int.tmod (a:Int) (n:Int)=((a%n:Nat):Int):=by rfl
theorem IJ{row:List ab}{d:ab}(h:d∈row):((((row.length:Nat):Int))==0)=false:=by
 grind
theorem afP(hG:HG G)(row:List ab)(d:ab)(hl:row.length≤1073741824):FX G 175 Rb ((row,d,()),())=some (K9 (dB row d (row.length-1)),()):=by
 refine av (hG _ _ rfl) aj6 ?_;refine aa (II (hG _ _ rfl) row d hl) ?_;by_cases h:d∈row
 ·obtain⟨k,h1,h2,h3⟩:=eR h;have hk:=(abu.1 h2).1;have hm:(k+(row.length-1))%row.length<row.length:=adw _ (by omega);have e1:IntKind.wrap .i64 (IntKind.wrap .i64 ((k:Int)+((row.length:Nat):Int))-1)=((k+(row.length-1):Nat):Int):=by
   grind [wrap_small]
  have e2:¬((k:Int)<0):=by omega
  have e4:row[(k+(row.length-1))%row.length]? = some row[(k+(row.length-1))%row.length]:=abn hm;have e3:dB row d (row.length-1)=some row[(k+(row.length-1))%row.length]:=by simp_all [dB,if_pos]
  rw[e3];simp only[h1,e2,decide_false,cond_false,IJ h,e1,s5,aA e4,Option.bind_some];rfl
 ·have h1:=fh.2 h;have e3:dB row d (row.length-1)=none:=by unfold dB;rw[if_neg h]
  rw[e3];simp only[h1,decide_true,cond_true];rfl
theorem afQ(hG:HG G)(row:List ab)(d:ab)(hl:row.length≤1073741824):FX G 243 Kv ((row,d,()),())=some (K9 (dB row d 1),()):=by
 refine av (hG _ _ rfl) aeu ?_;refine aa (II (hG _ _ rfl) row d hl) ?_;by_cases h:d∈row
 ·obtain⟨k,h1,h2,h3⟩:=eR h;have hk:=(abu.1 h2).1;have hm:(k+1)%row.length<row.length:=adw _ (by omega);have e1:IntKind.wrap .i64 ((k:Int)+1)=((k+1:Nat):Int):=by
   grind [wrap_small]
  have e2:¬((k:Int)<0):=by omega
  have e4:row[(k+1)%row.length]? = some row[(k+1)%row.length]:=abn hm;have e3:dB row d 1=some row[(k+1)%row.length]:=by simp_all [dB,if_pos]
  rw[e3];simp only[h1,e2,decide_false,cond_false,IJ h,e1,s5,aA e4,Option.bind_some];rfl
 ·have h1:=fh.2 h;have e3:dB row d 1=none:=by unfold dB;rw[if_neg h]
  rw[e3];simp only[h1,decide_true,cond_true];rfl
def fT(row:List ab):List ab→Nat→Nat→Nat
 |[],_,k=>k
 |x::r,i,k=>if nL x (row.getD k zD)<0 then fT row r (i+1) i else fT row r (i+1) k
def EX(row:List ab)(k:Nat):List ab:=row.drop k++row.take k
def cp(row:List ab):List ab:=EX row (fT row row 0 0)
theorem ot(row:List ab):∀(r:List ab) (i k:Nat),k<row.length→i+r.length=row.length→fT row r i k<row.length
 |[],_,k,hk,_=>hk
 |x::r,i,k,hk,hi=>by
  unfold fT;simp at hi
  split
  ·exact ot row r (i+1) i (by omega) (by omega)
  ·exact ot row r (i+1) k hk (by omega)
theorem D2(row:List ab)(k:Nat):(EX row k).length=row.length:=by grind [EX]
theorem jD(row:List ab):(cp row).length=row.length:=D2 _ _
theorem Yx{row:List ab}{k:Nat}{d:ab}:d∈EX row k↔d∈row:=by unfold EX;rw[List.mem_append,or_comm,←List.mem_append,List.take_append_drop]
theorem pQ{row:List ab}{d:ab}:d∈cp row↔d∈row:=Yx
theorem Pe{row:List ab}{k i:Nat}(hk:k≤row.length)(hi:i<row.length):(EX row k)[i]? = row[(k+i)%row.length]? := by
 unfold EX;by_cases h:k+i<row.length
 ·rw[List.getElem?_append_left (by simp;omega),List.getElem?_drop,Nat.mod_eq_of_lt h]
 ·rw[List.getElem?_append_right (by simp;omega),List.length_drop,List.getElem?_take,if_pos (by omega)];congr 1;have:(k+i)%row.length=k+i-row.length:=by rw[Nat.mod_eq_sub_mod (by omega),Nat.mod_eq_of_lt (by omega)]
  omega
theorem ab1(row:List ab)(k:Nat)(hl:row.length≤100000000)(hk:k≤row.length):∀(n i:Nat) (out T:List ab),i+n=row.length→T=EX row k→out=T.take i → LX G 132 rT Tryz.f132 DN (aK Tryz.prog 132 1) ((row,((k:Int),((i:Int),()))),((),(out,())))=some ((T,()),()):=by
 intro n
 induction n with
 |zero =>
  intro i out T hi hT ho;refine ar US ?_;have h1:¬((i:Int)<(row.length:Int)):=by omega
  have h2:out=T:=by grind [List.take_of_length_le,D2]
  subst h2;simp only[h1,decide_false];rfl
 |succ n ih =>
  intro i out T hi hT ho;refine ar US ?_;have aO:i<row.length:=by omega
  have hm:(k+i)%row.length<row.length:=adw _ (by omega);have h3:row[(k+i)%row.length]? = some row[(k+i)%row.length]:=abn hm;have h0:((((row.length:Nat):Int))==0)=false:=by grind
  have h4:IntKind.wrap .i64 ((k:Int)+(i:Int))=((k+i:Nat):Int):=by rw[wrap_small (by omega) (by omega)];rfl
  have hol:out.length≤row.length:=by rw[ho,hT];simp;omega
  have h5:aL out.length [row[(k+i)%row.length]].length=true:=fits (by simp;omega);have h6:out++[row[(k+i)%row.length]]=T.take (i+1):=by simp_all [List.take_add_one,Pe]
  have h7:=ih (i+1) (out++[row[(k+i)%row.length]]) T (by omega) hT h6;simp only[aT aO,h0,h4,s5,aA h3,Option.bind_some,h5,aD aO (show row.length≤1073741824 by omega)];exact h7
theorem ab2(hG:HG G)(row:List ab)(hl:row.length≤100000000):∀(n i k:Nat),i+n=row.length→(k<row.length∨(row=[]∧k=0)) → LX G 132 rT Tryz.f132 zo (aK Tryz.prog 132 0) ((row,((k:Int),((i:Int),()))),((),()))=some ((EX row (fT row (row.drop i) i k),()),()):=by
 intro n
 induction n with
 |zero =>
  intro i k hi hk;refine ar UR ?_;have h1:¬((i:Int)<(row.length:Int)):=by omega
  have h2:row.drop i=[]:=adt (by omega);simp only[h1,h2,decide_false,cond_false,fT];exact ab1 (G:=G) row k hl (by omega) row.length 0 [] (EX row k) (by omega) rfl (by simp)
 |succ n ih =>
  intro i k hi hk;refine ar UR ?_;have aO:i<row.length:=by omega
  have wa:k<row.length:=hk.resolve_right (by grind);have h2:row.drop i=row[i]::row.drop (i+1):=adi aO;have h3:row[i]? = some row[i]:=abn aO;have h4:row[k]? = some row[k]:=abn wa;have h5:row.getD k zD=row[k]:=by simp_all
  simp only[aT aO,cond_true,aA h3,aA h4,Option.bind_some,aD aO (show row.length≤1073741824 by omega)];refine aa (afO hG row[i] row[k]) ?_;rw[h2,fT,h5];by_cases ho:nL row[i] row[k]<0
  ·rw[if_pos ho];simp only[ho,decide_true];exact ih (i+1) i (by omega) (.inl aO)
  ·rw[if_neg ho];simp only[ho,decide_false];exact ih (i+1) k (by omega) (.inl wa)
theorem La(hG:HG G)(row:List ab)(hl:row.length≤100000000):FX G 132 rT ((row,()),())=some ((cp row,()),()):=by refine av (hG _ _ rfl) akO ?_;have:=ab2 (G:=G) hG row hl row.length 0 0 (by omega) (by grind);exact this
def nM(row:List ab)(after d:ab):List ab :=if d∈row then cp row else cp (row.take ((max 0 (idx after row 0)).toNat+1)++(d::row.drop ((max 0 (idx after row 0)).toNat+1)))
def iM(row:List ab)(d:ab):List ab:=cp (row.filter fun e=>decide (e≠d))
def fF(row:List ab)(cF d:ab):List ab:=cp (if cF∈row∧d∉row then row.set (idx cF row 0).toNat d else row)
theorem afR(hG:HG G)(row:List ab)(d:ab)(hl:row.length≤100000000):FX G 176 AI ((row,d,()),())=some ((iM row d,()),()):=by
 refine av (hG _ _ rfl) aes ?_;have key:=br row (fun i (s:List ab)=>LX G 176 AI Tryz.f176 tX (aK Tryz.prog 176 0) ((row,(i,())),(((d,()),()),(s,())))) (fun r s=>((cp (s++r.filter fun e=>decide (e≠d)),()),())) (fun n s=>s.length+n≤row.length) (fun s hs=>by refine ar OL ?_;simp only[cy,cond_false];refine aa (La hG s (by omega)) ?_;simp only[List.filter_nil,List.append_nil];rfl) (fun i x r s hi hx hr hs ih=>by
   refine ar OL ?_;simp only[aT hi,cond_true,aA hx,Option.bind_some,lJ,aD hi (show row.length≤1073741824 by omega)];by_cases he:x=d
   ·grind
   ·have h5:aL s.length [x].length=true:=fits (by simp;omega)
    grind)
  [] (by simp)
 exact key
theorem afS(hG:HG G)(row:List ab)(after d:ab)(hl:row.length≤90000000):FX G 172 AH ((row,after,d,()),())=some ((nM row after d,()),()):=by
 refine av (hG _ _ rfl) aeq ?_;refine aa (II (hG _ _ rfl) row d (by omega)) ?_;by_cases hd:d∈row
 case pos =>
  have h1:¬idx d row 0<0:=fun h=>fh.1 h hd;have h2:idx d row 0≥0:=by omega
  simp only[h2,decide_true,cond_true];refine aa (La hG row (by omega)) ?_;unfold nM;rw[if_pos hd];rfl
 case neg =>
 have h1:¬idx d row 0≥0:=by simp_all [fh]
 simp only[h1,decide_false,cond_false];refine aa (II (hG _ _ rfl) row after (by omega)) ?_;obtain⟨k,hk⟩:∃k:Nat,max 0 (idx after row 0)=(k:Int):=⟨(max 0 (idx after row 0)).toNat,by omega⟩;have Xo:k<row.length∨row=[]:=by
  rcases pP after row 0 (by omega) with⟨e,_⟩|⟨q,e,e2,_⟩
  ·have:k=0:=by omega
   subst this
   grind
  grind
 have xg:nM row after d=cp (row.take (k+1)++(d::row.drop (k+1))):=by simp_all [nM,if_neg]
 rw[xg];simp only[hk];obtain⟨fin,jn⟩:∃fin,fin=row.take (k+1)++(d::row.drop (k+1)):=⟨_,rfl⟩;rw[←jn];have loop:∀(n i:Nat) (out:List ab),i+n=row.length→out=(if i≤k then row.take i else(row.take (k+1)++[d])++(row.drop (k+1)).take (i-(k+1))) →
   LX G 172 AH Tryz.f172 tW (aK Tryz.prog 172 0) ((row,((k:Int),((i:Int),()))),(((d,()),()),(out,())))=some ((cp fin,()),()):=by
  intro n
  induction n with
  |zero =>
   intro i out hi CQ;refine ar OH ?_;have h1:¬((i:Int)<(row.length:Int)):=by omega
   rcases Xo with Xo|rfl
   ·have h0:((((row.length:Nat):Int))==0)=false:=by grind
    have h2:out=fin:=by
     have hle:(row.drop (k+1)).take (i-(k+1))=row.drop (k+1):=List.take_of_length_le (by simp_all)
     grind
    subst h2;simp only[h1,decide_false,h0];exact aa (La hG out (by grind)) rfl
   ·have hi0:i=0:=by simpa using hi
    subst hi0;have h2:out=[]:=by simp_all
    subst h2;have h3:fin=[d]:=by grind
    subst h3;exact aa (La hG [d] (by simp)) rfl
  |succ n ih =>
   intro i out hi CQ;refine ar OH ?_;have aO:i<row.length:=by omega
   have hx:row[i]? = some row[i]:=abn aO;have hol:out.length≤row.length+1:=by rw[CQ];split<;>simp<;>omega
   have h5:aL out.length [row[i]].length=true:=fits (by simp;omega);simp only[aT aO,aA hx,Option.bind_some,aD aO (show row.length≤1073741824 by omega),h5];by_cases hik:i=k
   ·subst hik;have h6:aL (out++[row[i]]).length [d].length=true:=fits (by simp;omega);have h8:(((i:Nat):Int)==((i:Nat):Int))=true:=by simp
    simp only[h8,h6];exact ih (i+1) ((out++[row[i]])++[d]) (by omega) (by simp_all)
   ·have h8:(((i:Nat):Int)==((k:Nat):Int))=false:=by simp;omega
    simp only[h8];refine ih (i+1) (out++[row[i]]) (by omega) ?_;rw[CQ];by_cases hle:i≤k
    ·rw[if_pos hle,if_pos (by omega),List.take_add_one,hx];rfl
    ·have e9:(row.drop (k+1)).take (i+1-(k+1))=(row.drop (k+1)).take (i-(k+1))++[row[i]]:=by rw[show i+1-(k+1)=(i-(k+1))+1 by omega,List.take_add_one,List.getElem?_drop,show k+1+(i-(k+1))=i by omega,hx];rfl
     grind
 exact loop row.length 0 [] (by omega) (by simp)
theorem afT(hG:HG G)(row:List ab)(cF d:ab)(hl:row.length≤100000000):FX G 177 Ku ((row,cF,d,()),())=some ((fF row cF d,()),()):=by
 refine av (hG _ _ rfl) aet ?_;have h5:aL ([]:List ab).length row.length=true:=fits (by simp;omega);simp only[h5,cond_true,List.nil_append];refine aa (II (hG _ _ rfl) row cF (by omega)) ?_;unfold fF;by_cases ho:cF∈row
 ·obtain⟨k,h1,h2,h3⟩:=eR ho;have hk:=(abu.1 h2).1;have e1:((k:Int)≥0):=by omega
  simp only[h1,e1,decide_true];refine aa (II (hG _ _ rfl) row d (by omega)) ?_;by_cases hd:d∈row
  ·have h6:¬idx d row 0<0:=fun h=>fh.1 h hd;rw[if_neg (by simp[hd])];simp only[h6,decide_false];exact aa (La hG row hl) rfl
  ·have h6:=fh.2 hd;rw[if_pos ⟨ho,hd⟩];have h7:(0:Int)≤(k:Int):=by omega
   have h8:((k:Int)<((row.length:Nat):Int)):=by omega
   simp only[h6,decide_true,h7,h8,Bool.and_self,Int.toNat_natCast,h2];exact aa (La hG (row.set k d) (by simpa using hl)) rfl
 ·have h1:¬idx cF row 0≥0:=by simp_all [fh]
  rw[if_neg (by simp[ho])];simp only[h1,decide_false];exact aa (La hG row hl) rfl
def e0:ByteArray:=⟨#[]⟩
def zI:ID:=(0,0)
def zV:ai:=((0,0),([],(e0,0)))
def zE:ag:=((0,0),(e0,0))
def aR(l:List ai)(x:ID):Option ai:=l.find? fun v=>decide (v.1=x)
def aZ(l:List ag)(x:ID):Option ag:=l.find? fun v=>decide (v.1=x)
def bp(d:ak)(x:ID):Option ai:=aR d.1 x
def hM(d:ak)(x:ID):Option ag:=aZ d.2 x
def EY(l:List ai)(x:ab):Option ID:=(l.find? fun v=>decide (x∈v.2.1)).map (·.1)
def cd(d:ak)(x:ab):Option ID:=EY d.1 x
def rG{α:Type}(z:α):Option α→α×(Bool×Unit)
 |some y=>(y,(true,()))
 |none=>(z,(false,()))
theorem Fs(hG:G 87 rS=none)(d:ak)(x:ID)(hl:d.1.length≤100000000):FX G 87 rS ((d,x,()),())=some (rG zV (bp d x),()):=by
 refine av hG ajZ ?_;have IK:=br d.1 (fun i (_:Unit)=>LX G 87 rS Tryz.f87 Dt (aK Tryz.prog 87 0) ((i,()),(((d,()),((x,()),(((0:Int),((0:Int),(([]:List ab),(e0,((0:Int),()))))),()))),()))) (fun(r:List ai) (_:Unit)=>(rG zV (aR r x),())) (fun _ _=>True) (fun s _=>by refine ar Ul ?_;simp only[cy,cond_false];rfl) (fun i y r s hi hx hr _ ih=>by
   refine ar Ul ?_;simp only[aT hi,cond_true,aA hx,Option.bind_some,lH,aD hi (show d.1.length≤1073741824 by omega)];by_cases he:y.1=x
   ·simp only[he,decide_true,aR,aZ,List.find?_cons];subst he;rfl
   ·simp only[he,decide_false,aR,aZ,List.find?_cons];exact ih () trivial)
  () trivial
 exact IK
theorem Yy(hG:G 123 Bj=none)(d:ak)(x:ID)(hl:d.2.length≤100000000):FX G 123 Bj ((d,x,()),())=some (rG zE (hM d x),()):=by
 refine av hG aj2 ?_;have IK:=br d.2 (fun i (_:Unit)=>LX G 123 Bj Tryz.f123 Dv (aK Tryz.prog 123 0) ((i,()),(((d,()),((x,()),(((((0:Int),(0:Int)),(e0,(0:Int))),()),()))),()))) (fun(r:List ag) (_:Unit)=>(rG zE (aZ r x),())) (fun _ _=>True) (fun s _=>by refine ar Un ?_;simp only[cy,cond_false];rfl) (fun i y r s hi hx hr _ ih=>by
   refine ar Un ?_;simp only[aT hi,cond_true,aA hx,Option.bind_some,lH,aD hi (show d.2.length≤1073741824 by omega)];by_cases he:y.1=x
   ·simp only[he,decide_true,aR,aZ,List.find?_cons];subst he;rfl
   ·simp only[he,decide_false,aR,aZ,List.find?_cons];exact ih () trivial)
  () trivial
 exact IK
theorem Lb(hG:HG G)(d:ak)(x:ab)(hl:d.1.length≤100000000)(hr:∀v∈d.1,v.2.1.length≤100000000):FX G 174 vT ((d,x,()),())=some (rG zI (cd d x),()):=by
 refine av (hG _ _ rfl) aj1 ?_;have IK:=br d.1 (fun i (_:Unit)=>LX G 174 vT Tryz.f174 Du (aK Tryz.prog 174 0) ((i,()),(((d,()),((x,()),((((0:Int),(0:Int)),()),()))),()))) (fun r _=>(rG zI (EY r x),())) (fun _ _=>True) (fun s _=>by refine ar Um ?_;simp only[cy,cond_false];rfl) (fun i y r s hi hx xT _ ih=>by
   refine ar Um ?_;simp only[aT hi,cond_true,aA hx,Option.bind_some,aD hi (show d.1.length≤1073741824 by omega)];refine aa (II (hG _ _ rfl) y.2.1 x (by grind)) ?_;by_cases he:x∈y.2.1
   ·have h1:idx x y.2.1 0≥0:=by grind [eR]
    simp only[h1,decide_true,EY,List.find?_cons,he];rfl
   ·have h1:¬idx x y.2.1 0≥0:=by simp_all [fh]
    simp only[h1,decide_false,EY,List.find?_cons,he];exact ih () trivial)
  () trivial
 exact IK
theorem afU(hG:G 12 Fj=none)(d:ak)(hl:d.1.length≤100000000)(u5:d.2.length≤100000000)(hr:∀v∈d.1,v.2.1.length≤100000000):FX G 12 Fj ((d,()),())=some (((d.1,(d.2,())),()),()):=by
 refine av hG akg ?_;have h5:aL ([]:List ag).length d.2.length=true:=fits (by simp;omega);simp only[h5,cond_true,List.nil_append];have IK:=br d.1 (fun i (out:List ai)=>LX G 12 Fj Tryz.f12 DD (aK Tryz.prog 12 0) ((i,()),(((d,()),((([]:List ai),(([]:List ag),())),((out,(d.2,())),()))),()))) (fun r s=>(((s++r,(d.2,())),()),())) (fun n s=>s.length+n≤d.1.length) (fun s _=>by refine ar Uw ?_;simp_all) (fun i y r s hi hx xT hs ih=>by
   refine ar Uw ?_;have h6:aL ([]:List ab).length y.2.1.length=true:=fits (by grind);have h7:aL s.length [(y.1,(y.2.1,y.2.2))].length=true:=fits (by simp;omega);simp only[aT hi,aA hx,Option.bind_some,h6,List.nil_append,h7,aD hi (show d.1.length≤1073741824 by omega)]
   grind)
  [] (by simp)
 exact IK
def cW(v:ai):List ai→List ai
 |[]=>[v]
 |w::r=>if gL v.1 w.1 then v::w::r else w::cW v r
def dH(v:ag):List ag→List ag
 |[]=>[v]
 |w::r=>if gL v.1 w.1 then v::w::r else w::dH v r
theorem bZ(a:ID):gL a a=false:=by simp[gL]
theorem mi(a b:ID):rW a b<0↔gL a b=true:=by
 unfold rW;by_cases h:a=b
 ·grind [bZ]
 grind
theorem afV(hG:HG G)(d:ak)(v:ai)(hl:d.1.length≤100000000):FX G 88 Ih ((d,v,()),())=some (((cW v d.1,d.2),()),()):=by
 refine av (hG _ _ rfl) akl ?_;have key:=br d.1 (fun i (s:Bool×List ai)=>LX G 88 Ih Tryz.f88 vU (aK Tryz.prog 88 0) ((s.1,(i,())),(((d,()),((v,()),((([]:List ai),(([]:List ag),())),((s.2,(d.2,())),())))),()))) (fun r s=>(((s.2++(if s.1 then r else cW v r),d.2),()),())) (fun n s=>s.2.length+n≤d.1.length+(if s.1 then 1 else 0))
  (fun s hs=>by
   obtain⟨put,s⟩:=s;refine ar Uz ?_;have h7:aL s.length [v].length=true:=fits (by grind)
   cases put
   ·simp_all [cy,cW]
   simp_all)
  (fun i y r s hi hx xT hs ih=>by
   obtain⟨put,s⟩:=s;refine ar Uz ?_;have h6:aL s.length [y].length=true:=fits (by grind)
   cases put
   ·have h7:aL s.length [v].length=true:=fits (by grind);have h8:aL (s++[v]).length [y].length=true:=fits (by grind);simp only[aT hi,aA hx,Option.bind_some,aD hi (show d.1.length≤1073741824 by omega)];refine aa (ab0 (hG _ _ rfl) v.1 y.1) ?_;by_cases ho:gL v.1 y.1=true
    ·have h9:=(mi _ _).2 ho;have:=ih (true,(s++[v])++[y]) (by grind);simp only[h9,decide_true,h7,h8,cW,ho,if_true,Bool.false_eq_true,if_false];simp_all
    ·have h9:¬rW v.1 y.1<0:=fun h=>ho ((mi _ _).1 h);have:=ih (false,s++[y]) (by grind);simp only[h9,decide_false,h6,cW,ho,if_false,Bool.false_eq_true];simp_all
   ·have:=ih (true,s++[y]) (by grind);simp only[aT hi,aA hx,Option.bind_some,aD hi (show d.1.length≤1073741824 by omega),h6,if_true];simp_all)
  (false,[]) (by simp)
 exact key
theorem afW(hG:HG G)(d:ak)(v:ag)(hl:d.2.length≤100000000):FX G 125 Bl ((d,v,()),())=some (((d.1,dH v d.2),()),()):=by
 refine av (hG _ _ rfl) akI ?_;have key:=br d.2 (fun i (s:Bool×List ag)=>LX G 125 Bl Tryz.f125 vW (aK Tryz.prog 125 0) ((s.1,(i,())),(((d,()),((v,()),((([]:List ai),(([]:List ag),())),((d.1,(s.2,())),())))),()))) (fun r s=>(((d.1,s.2++(if s.1 then r else dH v r)),()),())) (fun n s=>s.2.length+n≤d.2.length+(if s.1 then 1 else 0))
  (fun s hs=>by
   obtain⟨put,s⟩:=s;refine ar UP ?_;have h7:aL s.length [v].length=true:=fits (by grind)
   cases put
   ·simp_all [cy,dH]
   simp_all)
  (fun i y r s hi hx xT hs ih=>by
   obtain⟨put,s⟩:=s;refine ar UP ?_;have h6:aL s.length [y].length=true:=fits (by grind)
   cases put
   ·have h7:aL s.length [v].length=true:=fits (by grind);have h8:aL (s++[v]).length [y].length=true:=fits (by grind);simp only[aT hi,aA hx,Option.bind_some,aD hi (show d.2.length≤1073741824 by omega)];refine aa (ab0 (hG _ _ rfl) v.1 y.1) ?_;by_cases ho:gL v.1 y.1=true
    ·have h9:=(mi _ _).2 ho;have:=ih (true,(s++[v])++[y]) (by grind);simp only[h9,decide_true,h7,h8,dH,ho,if_true,Bool.false_eq_true,if_false];simp_all
    ·have h9:¬rW v.1 y.1<0:=fun h=>ho ((mi _ _).1 h);have:=ih (false,s++[y]) (by grind);simp only[h9,decide_false,h6,dH,ho,if_false,Bool.false_eq_true];simp_all
   ·have:=ih (true,s++[y]) (by grind);simp only[aT hi,aA hx,Option.bind_some,aD hi (show d.2.length≤1073741824 by omega),h6,if_true];simp_all)
  (false,[]) (by simp)
 exact key
def cU(l:List ai)(v:ID):List ai:=l.filter fun w=>decide (w.1≠v)
def c9(l:List ag)(v:ID):List ag:=l.filter fun w=>decide (w.1≠v)
def aM(d:ak)(v e:ID):ak:=(cU d.1 v,c9 d.2 e)
theorem Yz(hG:G 89 qP=none)(d:ak)(v e:ID)(hl:d.1.length≤100000000)(u5:d.2.length≤100000000):FX G 89 qP ((d,v,e,()),())=some ((aM d v e,()),()):=by
 refine av hG akm ?_;have Lc:=fun vs=>br d.2 (fun i (s:List ag)=>LX G 89 qP Tryz.f89 zm (aK Tryz.prog 89 1) ((i,()),(((d,()),((e,()),((([]:List ai),(([]:List ag),())),((vs,(s,())),())))),()))) (fun(r:List ag) (s:List ag)=>(((vs,s++c9 r e),()),())) (fun n s=>s.length+n≤d.2.length) (fun s hs=>by refine ar UB ?_;simp only[cy,cU,c9,List.filter_nil,List.append_nil];rfl) (fun i y r s hi hx xT hs ih=>by
   refine ar UB ?_;have h6:aL s.length [y].length=true:=fits (by grind);simp only[aT hi,aA hx,Option.bind_some,lH,aD hi (show d.2.length≤1073741824 by omega)];by_cases he:y.1=e
   ·simp only[he,decide_true,Bool.not_true,ne_eq,not_true_eq_false,decide_false,cU,c9,List.filter_cons,Bool.false_eq_true,if_false];exact ih s (by omega)
   ·simp only[he,decide_false,Bool.not_false,h6,ne_eq,not_false_eq_true,decide_true,cU,c9,List.filter_cons,if_true];have:=ih (s++[y]) (by simp;omega);rw[List.append_assoc]at this;exact this)
  [] (by simp)
 have IK:=br d.1 (fun i (s:List ai)=>LX G 89 qP Tryz.f89 zk (aK Tryz.prog 89 0) ((i,()),(((d,()),((v,()),((e,()),((([]:List ai),(([]:List ag),())),((s,(([]:List ag),())),()))))),()))) (fun(r:List ai) (s:List ai)=>(((s++cU r v,c9 d.2 e),()),())) (fun n s=>s.length+n≤d.1.length) (fun s hs=>by refine ar UA ?_;simp only[cy,cU,c9,List.filter_nil,List.append_nil];exact Lc s) (fun i y r s hi hx xT hs ih=>by
   refine ar UA ?_;have h6:aL s.length [y].length=true:=fits (by grind);simp only[aT hi,aA hx,Option.bind_some,lH,aD hi (show d.1.length≤1073741824 by omega)];by_cases he:y.1=v
   ·simp only[he,decide_true,Bool.not_true,ne_eq,not_true_eq_false,decide_false,cU,c9,List.filter_cons,Bool.false_eq_true,if_false];exact ih s (by omega)
   ·simp only[he,decide_false,Bool.not_false,h6,ne_eq,not_false_eq_true,decide_true,cU,c9,List.filter_cons,if_true];have:=ih (s++[y]) (by simp;omega);rw[List.append_assoc]at this;exact this)
  [] (by simp)
 exact IK
instance aom:DecidableEq (List ai):=@instDecidableEqList ai inferInstance
instance decLE:DecidableEq (List ag):=@instDecidableEqList ag inferInstance
instance aiH:DecidableEq ak:=instDecidableEqProd
instance afX:DecidableEq StateT:=instDecidableEqProd
structure Sm(d:ak):Prop where
 v:d.1.length≤50000000
 e:d.2.length≤50000000
 r:∀w∈d.1,w.2.1.length≤50000000
def uu(x:ID)(l:List ab)(w:ai):ai:=if w.1=x then(w.1,(l,w.2.2)) else w
def cj(d:ak)(x:ID)(l:List ab):ak:=(d.1.map (uu x l),d.2)
theorem fG(i:Nat):decide ((0:Int)≤(i:Int))=true:=by simp
theorem xU{α:Type}(f:α→α)(l:List α)(i:Nat)(x:α)(hx:l[i]? = some x):((l.take i).map f++l.drop i).set i (f x)=(l.take (i+1)).map f++l.drop (i+1):=by have hi:=(abu.1 hx).1;have h2:l.drop i=l[i]::l.drop (i+1):=adi hi;have h3:l[i]=x:=(abu.1 hx).2;rw[List.set_append_right _ _ (by simp;omega),h2,List.length_map,List.length_take,Nat.min_eq_left (by omega),Nat.sub_self,List.set_cons_zero,List.take_add_one,hx];simp
theorem Vo{α:Type}(f:α→α)(l:List α)(i:Nat)(x:α)(hx:l[i]? = some x)(hf:f x=x):(l.take i).map f++l.drop i=(l.take (i+1)).map f++l.drop (i+1):=by
 grind [List.getElem?_eq_some_iff,List.drop_eq_getElem_cons,List.take_add_one]
theorem YA{α:Type}(f:α→α)(l:List α)(i:Nat)(x:α)(hx:l[i]? = some x):((l.take i).map f++l.drop i)[i]? = some x:=by
 grind
theorem ab3(hG:HG G)(d:ak)(x:ID)(l:List ab)(hs:Sm d):FX G 171 Fm ((d,x,l,()),())=some ((cj d x l,()),()):=by
 have hv:=hs.v;have he:=hs.e;refine av (hG _ _ rfl) ak3 ?_;refine aa (afU (hG _ _ rfl) d (by omega) (by omega) (fun w hw=>by have:=hs.r w hw;omega)) ?_;have loop:∀(n i:Nat) (out fin:List ai),i+n=d.1.length→out=(d.1.take i).map (uu x l)++d.1.drop i→fin=d.1.map (uu x l) → LX G 171 Fm Tryz.f171 zr (aK Tryz.prog 171 0) ((l,((i:Int),())),(((x,()),((([]:List ai),(([]:List ag),())),((out,(d.2,())),()))),()))=some (((fin,d.2),()),()):=by
  intro n
  induction n with
  |zero =>
   intro i out fin hi ho hf;refine ar UX ?_;have hol:out.length=d.1.length:=by simp_all
   have h1:¬((i:Int)<(out.length:Int)):=by omega
   have h2:out=fin:=by simp_all
   subst h2;simp only[h1,decide_false];rfl
  |succ n ih =>
   intro i out fin hi ho hf;refine ar UX ?_;have hol:out.length=d.1.length:=by rw[ho];simp;omega
   have aO:i<d.1.length:=by omega
   have hx:d.1[i]? = some d.1[i]:=abn aO;have hg:out[i]? = some d.1[i]:=by grind [YA]
   simp only[aT (show i<out.length by omega),fG,Bool.and_self,Int.toNat_natCast,hg,Option.bind_some,lH,aD aO (show d.1.length≤1073741824 by omega)];by_cases hq:d.1[i].1=x
   ·have e1:uu x l d.1[i]=(x,(l,d.1[i].2.2)):=by simp_all [uu,if_pos]
    simp only[hq,decide_true];exact ih (i+1) (out.set i (x,(l,d.1[i].2.2))) fin (by omega) (by grind [xU]) hf
   ·have e1:uu x l d.1[i]=d.1[i]:=by unfold uu;rw[if_neg hq]
    simp only[hq,decide_false];exact ih (i+1) out fin (by omega) (by grind [Vo]) hf
 exact loop d.1.length 0 d.1 (d.1.map (uu x l)) (by omega) (by simp) rfl
def bH(d:ak)(x:ID):List ab:=((bp d x).getD zV).2.1
theorem kY{α:Type}(z:α)(o:Option α):(rG z o).1=o.getD z:=by cases o<;>rfl
theorem iZ{α:Type}(z:α)(o:Option α):(rG z o).2.1=o.isSome:=by cases o<;>rfl
theorem pR{d:ak}(hs:Sm d)(x:ID):(bH d x).length≤50000000:=by
 unfold bH
 cases h:bp d x with
 |none=>simp[zV]
 |some v=>exact hs.r v (ade h)
def bU(d:ak)(c:rC)(x:ab):ak:=cj d c.1 (nM (bH d c.1) c.2 x)
def aE(d:ak)(cF x:ab):ak:=cj d ((cd d cF).getD zI) (fF (bH d ((cd d cF).getD zI)) cF x)
def aH(d:ak)(x:ab):ak:=cj d ((cd d x).getD zI) (iM (bH d ((cd d x).getD zI)) x)
theorem afY(hG:HG G)(d:ak)(c:rC)(x:ab)(hs:Sm d):FX G 126 Bm ((d,c,x,()),())=some ((bU d c x,()),()):=by have hv:=hs.v;have hr:=pR hs c.1;refine av (hG _ _ rfl) akJ ?_;refine aa (Fs (hG _ _ rfl) d c.1 (by omega)) ?_;rw[show(rG zV (bp d c.1)).1=(bp d c.1).getD zV from kY _ _];refine aa (afS hG (bH d c.1) c.2 x (by omega)) ?_;exact aa (ab3 hG d c.1 (nM (bH d c.1) c.2 x) hs) rfl
theorem afZ(hG:HG G)(d:ak)(cF x:ab)(hs:Sm d):FX G 130 Kr ((d,cF,x,()),())=some ((aE d cF x,()),()):=by have hv:=hs.v;have hr:=pR hs ((cd d cF).getD zI);refine av (hG _ _ rfl) akN ?_;refine aa (Lb hG d cF (by omega) (fun w hw=>by have:=hs.r w hw;omega)) ?_;rw[show(rG zI (cd d cF)).1=(cd d cF).getD zI from kY _ _];refine aa (Fs (hG _ _ rfl) d ((cd d cF).getD zI) (by omega)) ?_;rw[show(rG zV (bp d ((cd d cF).getD zI))).1=(bp d ((cd d cF).getD zI)).getD zV from kY _ _];refine aa (afT hG (bH d ((cd d cF).getD zI)) cF x (by omega)) ?_;exact aa (ab3 hG d ((cd d cF).getD zI) (fF (bH d ((cd d cF).getD zI)) cF x) hs) rfl
theorem af0(hG:HG G)(d:ak)(x:ab)(hs:Sm d):FX G 129 Rk ((d,x,()),())=some ((aH d x,()),()):=by have hv:=hs.v;have hr:=pR hs ((cd d x).getD zI);refine av (hG _ _ rfl) akM ?_;refine aa (Lb hG d x (by omega) (fun w hw=>by have:=hs.r w hw;omega)) ?_;rw[show(rG zI (cd d x)).1=(cd d x).getD zI from kY _ _];refine aa (Fs (hG _ _ rfl) d ((cd d x).getD zI) (by omega)) ?_;rw[show(rG zV (bp d ((cd d x).getD zI))).1=(bp d ((cd d x).getD zI)).getD zV from kY _ _];refine aa (afR hG (bH d ((cd d x).getD zI)) x (by omega)) ?_;exact aa (ab3 hG d ((cd d x).getD zI) (iM (bH d ((cd d x).getD zI)) x) hs) rfl
def jE(row:List ab)(x:ab):ab:=(dB row x (row.length-1)).getD zD
theorem BV(o:Option ab):(K9 o).1=o.getD zD:=by cases o<;>rfl
def dk(d:ak)(x:ab):ab :=
 let row:=bH d ((cd d x).getD zI)
 let y:=jE row x
 let z:=if y.1=x.1 then jE row y else y
 if z.1=x.1 then zD else z
theorem af1(hG:HG G)(d:ak)(x:ab)(hs:Sm d):FX G 128 Rj ((d,x,()),())=some ((dk d x,()),()):=by
 have hv:=hs.v;have hr:=pR hs ((cd d x).getD zI);refine av (hG _ _ rfl) akL ?_;refine aa (Lb hG d x (by omega) (fun w hw=>by have:=hs.r w hw;omega)) ?_;rw[show(rG zI (cd d x)).1=(cd d x).getD zI from kY _ _];refine aa (Fs (hG _ _ rfl) d ((cd d x).getD zI) (by omega)) ?_;rw[show(rG zV (bp d ((cd d x).getD zI))).1=(bp d ((cd d x).getD zI)).getD zV from kY _ _];refine aa (afP hG (bH d ((cd d x).getD zI)) x (by omega)) ?_;rw[show(K9 (dB (bH d ((cd d x).getD zI)) x ((bH d ((cd d x).getD zI)).length-1))).1=jE (bH d ((cd d x).getD zI)) x from BV _];unfold dk;obtain⟨y,hy⟩:∃y,y=jE (bH d ((cd d x).getD zI)) x:=⟨_,rfl⟩;simp only[←hy,lH];by_cases h1:y.1=x.1
 ·have d1:=decide_eq_true h1;rw[if_pos h1];simp only[d1];refine aa (afP hG (bH d ((cd d x).getD zI)) y (by omega)) ?_;rw[show(K9 (dB (bH d ((cd d x).getD zI)) y ((bH d ((cd d x).getD zI)).length-1))).1=jE (bH d ((cd d x).getD zI)) y from BV _];by_cases h2:(jE (bH d ((cd d x).getD zI)) y).1=x.1
  ·have d2:=decide_eq_true h2;rw[if_pos h2];simp only[d2];rfl
  ·have d2:=decide_eq_false h2;rw[if_neg h2];simp only[d2];rfl
 ·have d1:=decide_eq_false h1;rw[if_neg h1,if_neg h1];simp only[d1];rfl
def ia(l:List ax)(d:ab):Option ab:=(l.find? fun g=>decide (g.1=d)).map (·.2)
theorem aat(hG:G 173 vl=none)(l:List ax)(d:ab)(hl:l.length≤100000000):FX G 173 vl ((l,d,()),())=some (rG zD (ia l d),()):=by
 refine av hG aer ?_;have key:=br l (fun i (_:Unit)=>LX G 173 vl Tryz.f173 xt (aK Tryz.prog 173 0) ((l,(i,())),(((d,()),(((((0:Int),(0:Int)),(0:Int)),()),())),()))) (fun(r:List ax) (_:Unit)=>(rG zD (ia r d),())) (fun _ _=>True) (fun s _=>by refine ar OJ ?_;simp only[cy,cond_false];rfl) (fun i y r s hi hx hr _ ih=>by
   refine ar OJ ?_;simp only[aT hi,aA hx,Option.bind_some,lJ,aD hi (show l.length≤1073741824 by omega)];by_cases he:y.1=d
   ·simp only[he,decide_true,ia,List.find?_cons];rfl
   ·simp only[he,decide_false,ia,List.find?_cons];exact ih () trivial)
  () trivial
 exact key
theorem alr(hG:G 38 Ii=none)(a b:List ax)(ha:a.length≤100000000):FX G 38 Ii ((a,b,()),())=some ((decide (a=b),()),()):=by
 refine av hG aks ?_;by_cases hl:a.length=b.length
 case neg =>
  have h1:((((a.length:Nat):Int)) != ((b.length:Nat):Int))=true:=by simp;omega
  have h2:¬a=b:=fun e=>hl (by rw[e]);simp only[h1,h2,decide_false];rfl
 have h1:((((a.length:Nat):Int)) != ((b.length:Nat):Int))=false:=by simp[hl]
 simp only[h1];have Ml:(a.zip b).length=a.length:=by simp[hl]
 have key:=br (a.zip b) (fun i (_:Unit)=>LX G 38 Ii Tryz.f38 DG (aK Tryz.prog 38 0) ((a,(b,(i,()))),((),()))) (fun r _=>((r.all (fun p=>decide (p.1=p.2)),()),())) (fun _ _=>True) (fun s _=>by refine ar UF ?_;rw[Ml];simp only[cy];rfl) (fun i x r s hi hx hr _ ih=>by
   rw[Ml]at hi;obtain⟨h3,h4⟩:=BU hx;refine ar UF ?_;simp only[aT hi,aA h3,aA h4,Option.bind_some,lJ,aD hi (show a.length≤1073741824 by omega)];by_cases he:x.1=x.2
   ·simp only[he,decide_true,Bool.and_self,Bool.not_true,List.all_cons,Bool.true_and];exact ih () trivial
   ·have h9:(decide (x.1.1=x.2.1)&&decide (x.1.2=x.2.2))=false:=by
     grind
    simp only[he,h9,decide_false,Bool.not_false,List.all_cons,Bool.false_and];rfl)
  () trivial
 rw[xS a b hl]at key;exact key
theorem als(hG:HG G)(a b:ak)(hs:Sm a):FX G 37 Da ((a,b,()),())=some ((decide (a=b),()),()):=by
 have hv:=hs.v;have he:=hs.e;refine av (hG _ _ rfl) aj7 ?_;by_cases hl:a.1.length=b.1.length
 case neg =>
  have h1:((((a.1.length:Nat):Int)) != ((b.1.length:Nat):Int))=true:=by simp;omega
  have h2:¬a=b:=fun e=>hl (by rw[e]);simp only[h1,h2,decide_false];rfl
 have h1:((((a.1.length:Nat):Int)) != ((b.1.length:Nat):Int))=false:=by simp[hl]
 simp only[h1];by_cases u5:a.2.length=b.2.length
 case neg =>
  have h1:((((a.2.length:Nat):Int)) != ((b.2.length:Nat):Int))=true:=by simp;omega
  have h2:¬a=b:=fun e=>u5 (by rw[e]);simp only[h1,h2,decide_false];rfl
 have h2:((((a.2.length:Nat):Int)) != ((b.2.length:Nat):Int))=false:=by simp[u5]
 simp only[h2];have Ml:(a.1.zip b.1).length=a.1.length:=by simp[hl]
 have af2:(a.2.zip b.2).length=a.2.length:=by simp[u5]
 have Lc:=br (a.2.zip b.2) (fun i (_:Unit)=>LX G 37 Da Tryz.f37 DA (aK Tryz.prog 37 1) ((i,()),(((a,()),((b,()),())),()))) (fun r _=>((r.all (fun p=>decide (p.1=p.2)),()),())) (fun _ _=>True) (fun s _=>by refine ar Ur ?_;rw[af2];simp only[cy];rfl) (fun i x r s hi hx hr _ ih=>by
   rw[af2]at hi;obtain⟨h3,h4⟩:=BU hx;refine ar Ur ?_;simp only[aT hi,aA h3,aA h4,Option.bind_some,lH,abY,aD hi (show a.2.length≤1073741824 by omega)];by_cases he:x.1=x.2
   ·simp only[he,decide_true,beq_self_eq_true,Bool.and_self,Bool.not_true,List.all_cons,Bool.true_and];exact ih () trivial
   ·have h9:(decide (x.1.1=x.2.1)&&(decide (x.1.2.1=x.2.2.1)&&(x.1.2.2==x.2.2.2)))=false:=by
     grind
    simp only[he,h9,decide_false,Bool.not_false,List.all_cons,Bool.false_and];rfl)
  () trivial
 rw[xS a.2 b.2 u5]at Lc;have key:=br (a.1.zip b.1) (fun i (_:Unit)=>LX G 37 Da Tryz.f37 Dz (aK Tryz.prog 37 0) ((i,()),(((a,()),((b,()),())),()))) (fun r _=>((r.all (fun p=>decide (p.1=p.2))&&decide (a.2=b.2),()),())) (fun _ _=>True) (fun s _=>by refine ar Uq ?_;rw[Ml];simp only[cy,List.all_nil,Bool.true_and];exact Lc) (fun i x r s hi hx hr _ ih=>by
   rw[Ml]at hi;obtain⟨h3,h4⟩:=BU hx;refine ar Uq ?_;simp only[aT hi,aA h3,aA h4,Option.bind_some,lH,abY,aD hi (show a.1.length≤1073741824 by omega)];refine aa (alq hG x.1.2.1 x.2.2.1 (by have:=hs.r x.1 (acw h3);omega)) ?_;by_cases e1:x.1.1=x.2.1
   case neg =>
    have he:¬x.1=x.2:=fun e=>e1 (by rw[e]);have d1:=decide_eq_false e1;simp only[d1,he,decide_false,List.all_cons,Bool.false_and];rfl
   have d1:=decide_eq_true e1;by_cases e2:x.1.2.2.1=x.2.2.2.1
   case neg =>
    have he:¬x.1=x.2:=fun e=>e2 (by rw[e]);have d2:=decide_eq_false e2;simp only[d1,d2,he,decide_false,List.all_cons,Bool.false_and];rfl
   have d2:=decide_eq_true e2;by_cases e3:x.1.2.2.2=x.2.2.2.2
   case neg =>
    have he:¬x.1=x.2:=fun e=>e3 (by rw[e]);have h8:(x.1.2.2.2 != x.2.2.2.2)=true:=by simp[e3]
    simp only[d1,d2,h8,he,decide_false,List.all_cons,Bool.false_and];rfl
   have h8:(x.1.2.2.2 != x.2.2.2.2)=false:=by simp[e3]
   by_cases e4:x.1.2.1=x.2.2.1
   case neg =>
    have he:¬x.1=x.2:=fun e=>e4 (by rw[e]);have d4:=decide_eq_false e4;simp only[d1,d2,h8,d4,he,decide_false,List.all_cons,Bool.false_and];rfl
   have d4:=decide_eq_true e4;have he:decide (x.1=x.2)=true:=decide_eq_true (Prod.ext e1 (Prod.ext e4 (Prod.ext e2 e3)));simp only[d1,d2,h8,d4,he,List.all_cons,Bool.true_and];exact ih () trivial)
  () trivial
 rw[xS a.1 b.1 hl]at key;have jn:(decide (a.1=b.1)&&decide (a.2=b.2))=decide (a=b):=by
  grind
 exact key.trans (congrArg (fun b:Bool=>some ((b,()),())) jn)
theorem alu(hG:HG G)(a b:StateT)(hs:Sm a.1)(hg:a.2.length≤50000000):FX G 14 uP ((a,b,()),())=some ((decide (a=b),()),()):=by
 refine av (hG _ _ rfl) ajY ?_;refine aa (als hG a.1 b.1 hs) ?_;refine aa (alr (hG _ _ rfl) a.2 b.2 (by omega)) ?_;have jn:(decide (a.1=b.1)&&decide (a.2=b.2))=decide (a=b):=by
  grind
 rw[←jn];by_cases h:a.1=b.1
 ·simp only[h,decide_true,Bool.true_and];rfl
 ·simp only[h,decide_false,Bool.false_and];rfl
def oK(g:ax)(l:List ax):List ax:=l.filter fun q=>decide (q.1≠g.1)
def mj(g:ax):List ax→List ax
 |[]=>[g]
 |e::r=>if nL g.1 e.1≤0 then g::oK g (e::r) else if e.1≠g.1 then e::mj g r else mj g r
def bS(l:List ax)(g:ax):List ax:=if(ia l g.1).isSome=false∧400≤l.length then l else mj g l
def RA(g:ax)(put:Bool)(r:List ax):List ax:=if put then oK g r else mj g r
theorem af3(hG:HG G)(l:List ax)(g:ax)(hl:l.length≤50000000) :
  LX G 127 Bn Tryz.f127 lV (aK Tryz.prog 127 0) ((l,(false,((0:Int),()))),(((g,()),()),(([]:List ax),())))=some ((mj g l,()),()):=by
 have key:=br l (fun i (s:Bool×List ax)=>LX G 127 Bn Tryz.f127 lV (aK Tryz.prog 127 0) ((l,(s.1,(i,()))),(((g,()),()),(s.2,())))) (fun(r:List ax) (s:Bool×List ax)=>((s.2++RA g s.1 r,()),())) (fun n s=>s.2.length+n≤l.length+(if s.1 then 1 else 0))
  (fun s hs=>by
   obtain⟨put,s⟩:=s;refine ar UQ ?_;have h7:aL s.length [g].length=true:=fits (by grind)
   cases put
   ·simp_all [cy,RA,mj]
   ·simp only[cy,RA,if_true,oK,List.filter_nil,List.append_nil];rfl)
  (fun i y r s hi hx xT hs ih=>by
   obtain⟨put,s⟩:=s;refine ar UQ ?_;have h6:aL s.length [y].length=true:=fits (by grind);have hw:=aD hi (show l.length≤1073741824 by omega)
   cases put
   ·have h7:aL s.length [g].length=true:=fits (by grind);have h8:aL (s++[g]).length [y].length=true:=fits (by grind);simp only[aT hi,aA hx,Option.bind_some,hw];refine aa (afO hG g.1 y.1) ?_;by_cases ho:nL g.1 y.1≤0
    ·have d0:=decide_eq_true ho;by_cases hy:y.1=g.1
     ·have d1:=decide_eq_true hy;have:=ih (true,s++[g]) (by grind);simp only[d0,h7,lJ,d1,RA,mj,ho,if_true,Bool.false_eq_true,if_false];refine this.trans (congrArg (fun l:List ax=>some ((l,()),())) ?_);simp[RA,oK,hy]
     ·have d1:=decide_eq_false hy;have:=ih (true,(s++[g])++[y]) (by grind);simp only[d0,h7,h8,lJ,d1,RA,mj,ho,if_true,Bool.false_eq_true,if_false];refine this.trans (congrArg (fun l:List ax=>some ((l,()),())) ?_);simp[RA,oK,hy]
    ·have d0:=decide_eq_false ho;by_cases hy:y.1=g.1
     ·have d1:=decide_eq_true hy;have:=ih (false,s) (by omega);simp only[d0,lJ,d1,RA,mj,ho,Bool.false_eq_true,if_false];refine this.trans (congrArg (fun l:List ax=>some ((l,()),())) ?_);simp[RA,hy]
     ·have d1:=decide_eq_false hy;have:=ih (false,s++[y]) (by grind);simp only[d0,h6,lJ,d1,RA,mj,ho,Bool.false_eq_true,if_false];refine this.trans (congrArg (fun l:List ax=>some ((l,()),())) ?_);simp[RA,hy]
   ·by_cases hy:y.1=g.1
    ·have d1:=decide_eq_true hy;have:=ih (true,s) (by omega);simp only[aT hi,aA hx,Option.bind_some,hw,lJ,d1];refine this.trans (congrArg (fun l:List ax=>some ((l,()),())) ?_);simp[RA,oK,hy]
    ·have d1:=decide_eq_false hy;have:=ih (true,s++[y]) (by grind);simp only[aT hi,aA hx,Option.bind_some,hw,lJ,d1,h6];refine this.trans (congrArg (fun l:List ax=>some ((l,()),())) ?_);simp[RA,oK,hy])
  (false,[]) (by simp)
 exact key
theorem YB(hG:HG G)(l:List ax)(g:ax)(hl:l.length≤50000000):FX G 127 Bn ((l,g,()),())=some ((bS l g,()),()):=by
 refine av (hG _ _ rfl) akK ?_;refine aa (aat (hG _ _ rfl) l g.1 (by omega)) ?_;rw[show(rG zD (ia l g.1)).2.1=(ia l g.1).isSome from iZ _ _];unfold bS
 cases hf:(ia l g.1).isSome
 ·by_cases hn:400≤l.length
  ·have h1:decide (((l.length:Nat):Int)≥400)=true:=by simp;omega
   rw[if_pos ⟨rfl,hn⟩];simp only[h1];rfl
  ·have h1:decide (((l.length:Nat):Int)≥400)=false:=by simp;omega
   rw[if_neg (by simp[hn])];simp only[h1];exact af3 hG l g hl
 ·rw[if_neg (by simp)];exact af3 hG l g hl
def res(d:ak)(gn:List ax):Nat→ab→ab
 |0,_=>zD
 |n+1,x=>if(cd d x).isSome then x else match ia gn x with
  |none=>zD
  |some y=>res d gn n y
def resolve(s:StateT)(x:ab):ab:=res s.1 s.2 (s.2.length+1) x
theorem alv(hG:HG G)(s:StateT)(x:ab)(hs:Sm s.1)(hg:s.2.length≤50000000):FX G 169 Kt ((s,x,()),())=some ((resolve s x,()),()):=by
 refine av (hG _ _ rfl) ak2 ?_;have hv:=hs.v;have loop:∀(n i:Nat) (y:ab),i+n=s.2.length+1→LX G 169 Kt Tryz.f169 DO (aK Tryz.prog 169 0) (((i:Int),()),((s,()),((y,()),(((((0:Int),(0:Int)),(0:Int)),()),()))),())=some ((res s.1 s.2 n y,()),()):=by
  intro n
  induction n with
  |zero =>
   intro i y hi;refine ar UW ?_;have h1:decide ((i:Int)≤((s.2.length:Nat):Int))=false:=by simp;omega
   simp only[h1];rfl
  |succ n ih =>
   intro i y hi;refine ar UW ?_;have h1:decide ((i:Int)≤((s.2.length:Nat):Int))=true:=by simp;omega
   have hw:IntKind.wrap .i64 ((i:Int)+1)=((i+1:Nat):Int):=by grind [wrap_small]
   simp only[h1,hw];refine aa (Lb hG s.1 y (by omega) (fun w hw=>by have:=hs.r w hw;omega)) ?_;rw[show(rG zI (cd s.1 y)).2.1=(cd s.1 y).isSome from iZ _ _,res]
   cases ha:(cd s.1 y).isSome
   ·simp only[Bool.false_eq_true,if_false];refine aa (aat (hG _ _ rfl) s.2 y (by omega)) ?_
    cases hf:ia s.2 y with
    |none=>rfl
    |some z=>exact ih (i+1) z (by omega)
   ·rfl
 exact loop (s.2.length+1) 0 x (by omega)
def zC:rC:=(zI,zD)
def xV(s:StateT)(c:rC)(v:ai):ab:=if resolve s c.2∈v.2.1 then resolve s c.2 else zD
def bA(s:StateT)(c:rC):rC×(Int×Unit):=match bp s.1 c.1 with
 |none=>(zC,(13,()))
 |some v=>((c.1,xV s c v),(0,()))
theorem af4(hG:HG G)(s:StateT)(c:rC)(hs:Sm s.1)(hg:s.2.length≤50000000):FX G 124 Ri ((s,c,()),())=some (bA s c,()):=by
 have hv:=hs.v;refine av (hG _ _ rfl) akH ?_;refine aa (Fs (hG _ _ rfl) s.1 c.1 (by omega)) ?_;unfold bA
 cases hf:bp s.1 c.1 with
 |none=>rfl
 |some v =>
  have hr:v.2.1.length≤50000000:=hs.r v (ade hf);refine aa (alv hG s c.2 hs hg) ?_;refine aa (II (hG _ _ rfl) v.2.1 (resolve s c.2) (by omega)) ?_;by_cases hm:resolve s c.2∈v.2.1
  ·have h1:decide (idx (resolve s c.2) v.2.1 0<0)=false:=decide_eq_false (fun h=>fh.1 h hm);have h2:xV s c v=resolve s c.2:=if_pos hm;simp only[h1];exact congrArg (fun z:ab=>some (((c.1,z),((0:Int),())),())) h2.symm
  ·have h1:decide (idx (resolve s c.2) v.2.1 0<0)=true:=decide_eq_true (fh.2 hm);have h2:xV s c v=zD:=if_neg hm;simp only[h1];exact congrArg (fun z:ab=>some (((c.1,z),((0:Int),())),())) h2.symm
def aj(x:ab):ab:=(x.1,IntKind.wrap .i64 (1-x.2))
def kj(d:ak)(x:ab):Option ab:=match cd d x with
 |none=>none
 |some a=>dB (bH d a) x 1
theorem alw(hG:HG G)(d:ak)(x:ab)(hs:Sm d):FX G 237 Ud ((d,x,()),())=some (K9 (kj d x),()):=by
 have hv:=hs.v;refine av (hG _ _ rfl) akP ?_;refine aa (Lb hG d x (by omega) (fun w hw=>by have:=hs.r w hw;omega)) ?_;unfold kj
 cases ha:cd d x with
 |none=>rfl
 |some a =>have hr:=pR hs a;refine aa (Fs (hG _ _ rfl) d a (by omega)) ?_;rw[show(rG zV (bp d a)).1=(bp d a).getD zV from kY _ _];exact aa (afQ hG (bH d a) x (by omega)) rfl
def Jn(d:ak)(x:ab):Option ab:=if(cd d x).isSome then kj d (aj x) else none
theorem af5(hG:HG G)(d:ak)(x:ab)(hs:Sm d):FX G 226 Re ((d,x,()),())=some (K9 (Jn d x),()):=by
 have hv:=hs.v;refine av (hG _ _ rfl) akt ?_;refine aa (Lb hG d x (by omega) (fun w hw=>by have:=hs.r w hw;omega)) ?_;rw[show(rG zI (cd d x)).2.1=(cd d x).isSome from iZ _ _];unfold Jn
 cases ha:(cd d x).isSome
 ·rfl
 ·refine aa (abZ (hG _ _ rfl) x) ?_;exact aa (alw hG d (aj x) hs) rfl
def s6(d:ak)(x:ab):Nat→ab→List ab→List ab
 |0,_,out=>out
 |n+1,y,out=>if y=x then out else s6 d x n ((Jn d y).getD zD) (out++[y])
def bm(d:ak)(x:ab):List ab:=match Jn d x with
 |none=>[]
 |some y=>s6 d x 81 y [x]
theorem alx(hG:HG G)(d:ak)(x:ab)(hs:Sm d):FX G 210 Kg ((d,x,()),())=some ((bm d x,()),()):=by
 refine av (hG _ _ rfl) aj3 ?_;refine aa (af5 hG d x hs) ?_;unfold bm
 cases hp:Jn d x with
 |none=>rfl
 |some y =>
  have h5:aL ([]:List ab).length [x].length=true:=fits (by simp);have loop:∀(n:Nat) (y:ab) (out:List ab),out.length+n=82→LX G 210 Kg Tryz.f210 Dx (aK Tryz.prog 210 0) ((),((d,()),((x,()),((y,()),()))),(out,()))=some ((s6 d x n y out,()),()):=by
   intro n
   induction n with
   |zero =>
    intro y out ho;refine ar Uo ?_;have h1:decide (((out.length:Nat):Int)<82)=false:=by simp;omega
    simp only[lJ,h1];by_cases hy:y=x
    ·have d1:=decide_eq_true hy;simp only[d1];rfl
    ·have d1:=decide_eq_false hy;simp only[d1];rfl
   |succ n ih =>
    intro y out ho;refine ar Uo ?_;have h1:decide (((out.length:Nat):Int)<82)=true:=by simp;omega
    have h6:aL out.length [y].length=true:=fits (by simp;omega);simp only[lJ,h1,h6];rw[s6];by_cases hy:y=x
    ·have d1:=decide_eq_true hy;rw[if_pos hy];simp only[d1];rfl
    ·have d1:=decide_eq_false hy;rw[if_neg hy];simp only[d1];refine aa (af5 hG d y hs) ?_;rw[show(K9 (Jn d y)).1=(Jn d y).getD zD from BV _];exact ih ((Jn d y).getD zD) (out++[y]) (by simp;omega)
  exact loop 81 y [x] (by simp)
theorem GY(d:ak)(x:ab):∀(n:Nat) (y:ab) (out:List ab),(s6 d x n y out).length≤out.length+n
 |0,_,out=>acb _
 |n+1,y,out=>by
  unfold s6
  split
  ·omega
  ·have:=GY d x n ((Jn d y).getD zD) (out++[y]);simp at this;omega
theorem GZ(d:ak)(x:ab):(bm d x).length≤82:=by
 grind [bm,Jn,GY]
def fi:List ag→List ab
 |[]=>[]
 |e::r=>(e.1,0)::(e.1,1)::fi r
theorem nr:∀l:List ag,(fi l).length=2*l.length
 |[]=>rfl
 |e::r=>by simp[fi,nr r];omega
theorem aly(hG:G 209 Ik=none)(d:ak)(hs:Sm d):FX G 209 Ik ((d,()),())=some ((fi d.2,()),()):=by have he:=hs.e;refine av hG aky ?_;have key:=br d.2 (fun i (s:List ab)=>LX G 209 Ik Tryz.f209 DL (aK Tryz.prog 209 0) ((i,()),(((d,()),()),(s,())))) (fun(r:List ag) (s:List ab)=>((s++fi r,()),())) (fun n s=>s.length+2*n≤2*d.2.length) (fun s _=>by refine ar UM ?_;simp only[cy,fi,List.append_nil];rfl) (fun i y r s hi hx xT hs ih=>by refine ar UM ?_;have h6:aL s.length [((y.1,(0:Int)):ab),(y.1,(1:Int))].length=true:=fits (by simp;omega);simp only[aT hi,aA hx,Option.bind_some,h6,aD hi (show d.2.length≤1073741824 by omega)];have:=ih (s++[(y.1,0),(y.1,1)]) (by simp;omega);refine this.trans (congrArg (fun l:List ab=>some ((l,()),())) ?_);simp[fi]) [] (by simp);exact key
def jc(d:ak):List ab→List (List ab)→List ab→List (List ab)
 |[],out,_=>out
 |x::r,out,told=>if x∈told then jc d r out told else jc d r (out++[bm d x]) (told++bm d x)
def bV(d:ak):List (List ab):=jc d (fi d.2) [] []
theorem alz(hG:HG G)(d:ak)(hs:Sm d)(he:d.2.length≤5000000):FX G 185 Kh ((d,()),())=some ((bV d,()),()):=by
 refine av (hG _ _ rfl) akb ?_;refine aa (aly (hG _ _ rfl) d hs) ?_;have KV:=nr d.2;unfold bV;generalize fi d.2=ds at *;have key:=br ds (fun i (s:List (List ab)×List ab)=>LX G 185 Kh Tryz.f185 zi (aK Tryz.prog 185 0) ((i,()),(((d,()),()),(s.1,(s.2,(ds,())))))) (fun(r:List ab) (s:List (List ab)×List ab)=>((jc d r s.1 s.2,()),())) (fun n s=>s.1.length+n≤ds.length∧s.2.length+82*n≤82*ds.length) (fun s _=>by refine ar Ut ?_;simp only[cy];rfl) (fun i y r s hi hx xT hs' ih=>by
   obtain⟨out,told⟩:=s;obtain⟨b1,b2⟩:=hs';simp only at b1 b2;refine ar Ut ?_;simp only[aT hi,fG,Bool.and_self,Int.toNat_natCast,hx,Option.bind_some,aD hi (show ds.length≤1073741824 by omega)];refine aa (II (hG _ _ rfl) told y (by omega)) ?_;rw[jc];by_cases hm:y∈told
   ·have d1:decide (idx y told 0≥0)=true:=decide_eq_true (by grind [eR]);rw[if_pos hm];simp only[d1];exact ih (out,told) ⟨by grind,by grind⟩
   ·have d1:decide (idx y told 0≥0)=false:=decide_eq_false (by simp_all [fh]);rw[if_neg hm];simp only[d1];refine aa (alx hG d y hs) ?_;have htl:=GZ d y;have h6:aL out.length [bm d y].length=true:=fits (by simp;omega);have h7:aL told.length (bm d y).length=true:=fits (by omega);simp only[h6,h7];exact ih (out++[bm d y],told++bm d y) ⟨by simp;omega,by simp;omega⟩)
  ([],[]) ⟨by simp,by simp⟩
 exact key
end Go.Vs
