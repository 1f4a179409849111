/- What the document's reference -/
import Derived.Test.YtoleelddkocpkaaGreatNormalA
import Derived.Test.YtoleelddkocpkaaGreatNormalB
import Derived.Test.YtoleelddkocpkaaGreatNormalC
set_option linter.unusedVariables false
set_option linter.unusedSimpArgs false
namespace Go.Vs
open Go.Proofs
variable {G:(f:FuncId)→(g:aO)→Option (g.A→Option g.B)}
theorem aa{α β:Type}{o:Option α}{f:α→Option β}{a:α}{r:Option β}(h:o=some a)(k:f a=r):o.bind f=r:=by simp_all
theorem aG{α:Type}{l:List α}{i:Nat}{x:α}(h:l[i]? = some x):aW l (i:Int)=some x:=by
 grind [List.getElem?_eq_some_iff,aW]
theorem wrap_small{n:Int}(h0 : -9223372036854775808≤n)(h1:n<9223372036854775808):IntKind.wrap .i64 n=n:=by
 grind [IntKind.wrap,IntKind.bits,IntKind.signed]
theorem aB{i n:Nat}(h:i<n)(hn:n≤1073741824):IntKind.wrap .i64 ((i:Int)+1)=((i+1:Nat):Int):=by
 grind [wrap_small]
theorem aR{i n:Nat}(h:i<n):decide ((i:Int)<((n:Nat):Int))=true:=by simpa using h
theorem cK(n:Nat):decide (((n:Nat):Int)<((n:Nat):Int))=false:=by simp
theorem fits{n m:Nat}(h:n+m≤1073741824):aL n m=true:=decide_eq_true h
theorem lh(a b:ID):((a.1==b.1)&&(a.2==b.2))=decide (a=b):=by
 grind
theorem lO(a b:ab):(((a.1.1==b.1.1)&&(a.1.2==b.1.2))&&(a.2==b.2))=decide (a=b):=by
 grind
theorem XB(a b:ByteArray):(a==b)=decide (a=b):=by
 obtain⟨a⟩:=a;obtain⟨b⟩:=b;show(a==b)=_
 grind
theorem br{α S R:Type}(l:List α)(L:Int→S→Option R)(g:List α→S→R)(inv:Nat→S→Prop) (aoq:∀s,inv 0 s→L ((l.length:Nat):Int) s=some (g [] s)) (aer:∀(i:Nat) (x:α) (r:List α) (s:S),i<l.length→l[i]? = some x→i+r.length+1=l.length→inv (r.length+1) s→(∀s',inv r.length s'→L ((i+1:Nat):Int) s'=some (g r s'))→L (i:Int) s=some (g (x::r) s)) :
  ∀s,inv l.length s→L 0 s=some (g l s):=by
 have key:∀(r p:List α),p++r=l→∀s,inv r.length s→L ((p.length:Nat):Int) s=some (g r s):=by
  intro r
  induction r with
  |nil=>simp_all
  |cons x r ih =>
   intro p hp s hs;refine aer p.length x r s ?_ ?_ ?_ hs (fun s' hs' => ?_)
   ·grind
   ·grind
   ·grind
   ·have:=ih (p++[x]) (by simp[hp]) s' hs';simp_all
 intro s hs;exact key l [] rfl s hs
def zD:ab:=((0,0),0)
def cF(x:ID):Bool:=decide (1≤x.1∧x.1≤8∧1≤x.2∧x.2≤1048576)
def gm(a b:ID):Bool:=decide (a.1<b.1∨(a.1=b.1∧a.2<b.2))
def rj(a b:ID):Int:=if a=b then 0 else if gm a b then -1 else 1
def lY(a b:ab):Bool:=gm a.1 b.1 || (decide (a.1=b.1)&&decide (a.2<b.2))
def oV(a b:ab):Int:=if a=b then 0 else if lY a b then -1 else 1
def lP(d:ab):Bool:=cF d.1&&decide (d.2=0∨d.2=1)
theorem Qs(hG:G 104 Co=none)(x:ID):FX G 104 Co ((x,()),())=some ((cF x,()),()):=by
 refine aw hG aip ?_;obtain⟨a,b⟩:=x;show(cond (decide (a≥1)) (cond (decide (a≤8)) (cond (decide (b≥1)) (some ((decide (b≤1048576),()),())) (some ((false,()),()))) (some ((false,()),()))) (some ((false,()),())):Option ((Bool×Unit)×Unit))=some ((cF (a,b),()),());unfold cF
 grind
theorem aaN(hG:G 131 EB=none)(d:ab):FX G 131 EB ((d,()),())=some (((d.1,IntKind.wrap .i64 (1-d.2)),()),()) :=aw hG ait rfl
theorem aaO(hG:G 105 JH=none)(a b:ID):FX G 105 JH ((a,b,()),())=some ((rj a b,()),()):=by
 refine aw hG ai7 ?_;obtain⟨a1,a2⟩:=a;obtain⟨b1,b2⟩:=b;unfold rj gm;show(cond ((a1==b1)&&(a2==b2)) (some (((0:Int),()),())) (cond (decide (a1<b1)) (some (((-1:Int),()),())) (cond (a1==b1) (cond (decide (a2<b2)) (some (((-1:Int),()),())) (some (((1:Int),()),()))) (some (((1:Int),()),())))):Option ((Int×Unit)×Unit))=some (((if(a1,a2)=(b1,b2) then 0 else if(decide (a1<b1∨(a1=b1∧a2<b2)))=true then -1 else 1:Int),()),())
 grind
theorem aes(hG:HG G)(a b:ab):FX G 75 P9 ((a,b,()),())=some ((oV a b,()),()):=by
 refine aw (hG _ _ rfl) ai0 ?_;refine aa (aaO (hG _ _ rfl) a.1 b.1) ?_;obtain⟨a1,a2⟩:=a;obtain⟨b1,b2⟩:=b;show(cond (rj a1 b1 != 0) (some ((rj a1 b1,()),())) (cond (decide (a2<b2)) (some (((-1:Int),()),())) (cond (decide (a2>b2)) (some (((1:Int),()),())) (some (((0:Int),()),())))):Option ((Int×Unit)×Unit))=some ((oV (a1,a2) (b1,b2),()),());unfold oV lY rj;simp only[cond_eq_ite]
 grind [gm]
theorem ajO(hG:HG G)(d:ab):FX G 74 Tb ((d,()),())=some ((lP d,()),()):=by
 refine aw (hG _ _ rfl) ajs ?_;refine aa (Qs (hG _ _ rfl) d.1) ?_;obtain⟨d1,d2⟩:=d;show(cond (cF d1) (cond (d2==0) (some ((true,()),())) (some (((d2==1),()),()))) (some ((false,()),())):Option ((Bool×Unit)×Unit))=some ((lP (d1,d2),()),());unfold lP
 grind
def idx(d:ab):List ab→Int→Int
 |[],_ => -1
 |e::r,i=>if e=d then i else idx d r (i+1)
theorem ajP(row:List ab)(d:ab)(hl:row.length≤1073741824):∀(n i:Nat),i+n=row.length→LX G 170 rR Tryz.f170 CG (aM Tryz.prog 170 0) ((row,((i:Int),())),(((d,()),()),()))=some ((idx d (row.drop i) i,()),()):=by
 intro n
 induction n with
 |zero =>
  intro i hi;refine au Tn ?_;have h1:¬((i:Int)<(row.length:Int)):=by omega
  have h2:row.drop i=[]:=acP (by omega);simp only[h1,h2,decide_false,cond_false,idx];rfl
 |succ n ih =>
  intro i hi;refine au Tn ?_;have aK:i<row.length:=by omega
  have h1:((i:Int)<(row.length:Int)):=by omega
  have h2:row.drop i=row[i]::row.drop (i+1):=acd aK;have h3:aW row (i:Int)=some row[i]:=by simp[aW,aK]
  have h4:IntKind.wrap .i64 ((i:Int)+1)=((i+1:Nat):Int):=by grind [wrap_small]
  have h5:=ih (i+1) (by omega);rw[h2,idx];simp only[h1,decide_true,cond_true,h3,Option.bind_some,h4,lO];by_cases he:row[i]=d
  ·rw[if_pos he];simp only[he,decide_true];rfl
  ·rw[if_neg he];simp only[he,decide_false];exact h5
theorem HR(hG:G 170 rR=none)(row:List ab)(d:ab)(hl:row.length≤1073741824):FX G 170 rR ((row,d,()),())=some ((idx d row 0,()),()):=by refine aw hG aiu ?_;exact ajP (G:=G) row d hl row.length 0 (by omega)
theorem oW(d:ab):∀(row:List ab) (i:Int),0≤i→(idx d row i = -1∧d∉row)∨(∃k:Nat,idx d row i=i+k∧row[k]? = some d∧d∉row.take k)
 |[],i,_=>.inl ⟨rfl,by simp⟩
 |e::r,i,h=>by
  unfold idx;by_cases he:e=d
  ·right;exact⟨0,by simp[he],by simp[he],by simp⟩
  ·rw[if_neg he];rcases oW d r (i+1) (by omega) with⟨h1,h2⟩|⟨k,h1,h2,h3⟩
   ·grind
   ·exact .inr ⟨k+1,by rw[h1];omega,by simpa using h2,by grind⟩
theorem eR{d:ab}{row:List ab}:idx d row 0<0↔d∉row:=by
 grind [oW,List.mem_of_getElem?]
theorem eg{d:ab}{row:List ab}(h:d∈row):∃k:Nat,idx d row 0=k∧row[k]? = some d∧d∉row.take k:=by
 rcases oW d row 0 (by omega) with⟨_,h2⟩|⟨k,h1,h2,h3⟩
 ·simp_all
 grind
theorem xc{α:Type}[DecidableEq α]:∀(a b:List α),a.length=b.length→(a.zip b).all (fun p=>decide (p.1=p.2))=decide (a=b)
 |[],[],_=>by simp
 |[],_::_,h=>by simp at h
 |_::_,[],h=>by simp at h
 |x::a,y::b,h=>by simp_all [List.zip_cons_cons,List.all_cons,xc,Bool.eq_iff_iff]
theorem A5{α:Type}{a b:List α}{i:Nat}{x:α×α}(h:(a.zip b)[i]? = some x):a[i]? = some x.1∧b[i]? = some x.2:=by
 grind
theorem ajQ(hG:HG G)(a b:List ab)(ha:a.length≤1073741824):FX G 63 JD ((a,b,()),())=some ((decide (a=b),()),()):=by
 refine aw (hG _ _ rfl) aiV ?_;by_cases hl:a.length=b.length
 case neg =>
  have h1:((((a.length:Nat):Int)) != ((b.length:Nat):Int))=true:=by simp;omega
  have h2:¬a=b:=fun e=>hl (by rw[e]);simp only[h1,h2,decide_false];rfl
 have h1:((((a.length:Nat):Int)) != ((b.length:Nat):Int))=false:=by simp[hl]
 simp only[h1];have Lr:(a.zip b).length=a.length:=by simp[hl]
 have key:=br (a.zip b) (fun i (_:Unit)=>LX G 63 JD Tryz.f63 CS (aM Tryz.prog 63 0) ((a,(b,(i,()))),((),()))) (fun r _=>((r.all (fun p=>decide (p.1=p.2)),()),())) (fun _ _=>True) (fun s _=>by refine au TK ?_;rw[Lr];simp only[cK,cond_false];rfl) (fun i x r s hi hx hr _ ih=>by
   rw[Lr]at hi;obtain⟨h3,h4⟩:=A5 hx;refine au TK ?_;simp only[aR hi,cond_true,aG h3,aG h4,Option.bind_some,lO,aB hi ha];by_cases he:x.1=x.2
   ·simp only[he,decide_true,Bool.not_true,cond_false,List.all_cons,Bool.true_and];exact ih () trivial
   ·simp only[he,decide_false,Bool.not_false,cond_true,List.all_cons,Bool.false_and];rfl)
  () trivial
 rw[xc a b hl]at key;exact key
def dp(row:List ab)(d:ab)(by_:Nat):Option ab:=if d∈row then row[((idx d row 0).toNat+by_)%row.length]? else none
def Kp:Option ab→ab×(Bool×Unit)
 |some y=>(y,(true,()))
 |none=>(zD,(false,()))
theorem sj(a n:Nat):Int.tmod (a:Int) (n:Int)=((a%n:Nat):Int):=by rfl
theorem HS{row:List ab}{d:ab}(h:d∈row):((((row.length:Nat):Int))==0)=false:=by
 grind
theorem aet(hG:HG G)(row:List ab)(d:ab)(hl:row.length≤1073741824):FX G 175 P5 ((row,d,()),())=some (Kp (dp row d (row.length-1)),()):=by
 refine aw (hG _ _ rfl) aiv ?_;refine aa (HR (hG _ _ rfl) row d hl) ?_;by_cases h:d∈row
 ·obtain⟨k,h1,h2,h3⟩:=eg h;have hk:=(aby.1 h2).1;have hm:(k+(row.length-1))%row.length<row.length:=acV _ (by omega);have e1:IntKind.wrap .i64 (IntKind.wrap .i64 ((k:Int)+((row.length:Nat):Int))-1)=((k+(row.length-1):Nat):Int):=by
   grind [wrap_small]
  have e2:¬((k:Int)<0):=by omega
  have e4:row[(k+(row.length-1))%row.length]? = some row[(k+(row.length-1))%row.length]:=abk hm;have e3:dp row d (row.length-1)=some row[(k+(row.length-1))%row.length]:=by simp_all [dp,if_pos]
  rw[e3];simp only[h1,e2,decide_false,cond_false,HS h,e1,sj,aG e4,Option.bind_some];rfl
 ·have h1:=eR.2 h;have e3:dp row d (row.length-1)=none:=by unfold dp;rw[if_neg h]
  rw[e3];simp only[h1,decide_true,cond_true];rfl
theorem aeu(hG:HG G)(row:List ab)(d:ab)(hl:row.length≤1073741824):FX G 243 JN ((row,d,()),())=some (Kp (dp row d 1),()):=by
 refine aw (hG _ _ rfl) adb ?_;refine aa (HR (hG _ _ rfl) row d hl) ?_;by_cases h:d∈row
 ·obtain⟨k,h1,h2,h3⟩:=eg h;have hk:=(aby.1 h2).1;have hm:(k+1)%row.length<row.length:=acV _ (by omega);have e1:IntKind.wrap .i64 ((k:Int)+1)=((k+1:Nat):Int):=by
   grind [wrap_small]
  have e2:¬((k:Int)<0):=by omega
  have e4:row[(k+1)%row.length]? = some row[(k+1)%row.length]:=abk hm;have e3:dp row d 1=some row[(k+1)%row.length]:=by simp_all [dp,if_pos]
  rw[e3];simp only[h1,e2,decide_false,cond_false,HS h,e1,sj,aG e4,Option.bind_some];rfl
 ·have h1:=eR.2 h;have e3:dp row d 1=none:=by unfold dp;rw[if_neg h]
  rw[e3];simp only[h1,decide_true,cond_true];rfl
def fH(row:List ab):List ab→Nat→Nat→Nat
 |[],_,k=>k
 |x::r,i,k=>if oV x (row.getD k zD)<0 then fH row r (i+1) i else fH row r (i+1) k
def Eg(row:List ab)(k:Nat):List ab:=row.drop k++row.take k
def cj(row:List ab):List ab:=Eg row (fH row row 0 0)
theorem nH(row:List ab):∀(r:List ab) (i k:Nat),k<row.length→i+r.length=row.length→fH row r i k<row.length
 |[],_,k,hk,_=>hk
 |x::r,i,k,hk,hi=>by
  unfold fH;simp at hi
  split
  ·exact nH row r (i+1) i (by omega) (by omega)
  ·exact nH row r (i+1) k hk (by omega)
theorem Dc(row:List ab)(k:Nat):(Eg row k).length=row.length:=by grind [Eg]
theorem jn(row:List ab):(cj row).length=row.length:=Dc _ _
theorem XC{row:List ab}{k:Nat}{d:ab}:d∈Eg row k↔d∈row:=by unfold Eg;rw[List.mem_append,or_comm,←List.mem_append,List.take_append_drop]
theorem oX{row:List ab}{d:ab}:d∈cj row↔d∈row:=XC
theorem N8{row:List ab}{k i:Nat}(hk:k≤row.length)(hi:i<row.length):(Eg row k)[i]? = row[(k+i)%row.length]? := by
 unfold Eg;by_cases h:k+i<row.length
 ·rw[List.getElem?_append_left (by simp;omega),List.getElem?_drop,Nat.mod_eq_of_lt h]
 ·rw[List.getElem?_append_right (by simp;omega),List.length_drop,List.getElem?_take,if_pos (by omega)];congr 1;have:(k+i)%row.length=k+i-row.length:=by rw[Nat.mod_eq_sub_mod (by omega),Nat.mod_eq_of_lt (by omega)]
  omega
theorem aaP(row:List ab)(k:Nat)(hl:row.length≤100000000)(hk:k≤row.length):∀(n i:Nat) (out T:List ab),i+n=row.length→T=Eg row k→out=T.take i → LX G 132 rf Tryz.f132 CW (aM Tryz.prog 132 1) ((row,((k:Int),((i:Int),()))),((),(out,())))=some ((T,()),()):=by
 intro n
 induction n with
 |zero =>
  intro i out T hi hT ho;refine au TR ?_;have h1:¬((i:Int)<(row.length:Int)):=by omega
  have h2:out=T:=by grind [List.take_of_length_le,Dc]
  subst h2;simp only[h1,decide_false];rfl
 |succ n ih =>
  intro i out T hi hT ho;refine au TR ?_;have aK:i<row.length:=by omega
  have hm:(k+i)%row.length<row.length:=acV _ (by omega);have h3:row[(k+i)%row.length]? = some row[(k+i)%row.length]:=abk hm;have h0:((((row.length:Nat):Int))==0)=false:=by grind
  have h4:IntKind.wrap .i64 ((k:Int)+(i:Int))=((k+i:Nat):Int):=by rw[wrap_small (by omega) (by omega)];rfl
  have Zj:out.length≤row.length:=by rw[ho,hT];simp;omega
  have h5:aL out.length [row[(k+i)%row.length]].length=true:=fits (by simp;omega);have h6:out++[row[(k+i)%row.length]]=T.take (i+1):=by simp_all [List.take_add_one,N8]
  have h7:=ih (i+1) (out++[row[(k+i)%row.length]]) T (by omega) hT h6;simp only[aR aK,h0,h4,sj,aG h3,Option.bind_some,h5,aB aK (show row.length≤1073741824 by omega)];exact h7
theorem aaQ(hG:HG G)(row:List ab)(hl:row.length≤100000000):∀(n i k:Nat),i+n=row.length→(k<row.length∨(row=[]∧k=0)) → LX G 132 rf Tryz.f132 yv (aM Tryz.prog 132 0) ((row,((k:Int),((i:Int),()))),((),()))=some ((Eg row (fH row (row.drop i) i k),()),()):=by
 intro n
 induction n with
 |zero =>
  intro i k hi hk;refine au TQ ?_;have h1:¬((i:Int)<(row.length:Int)):=by omega
  have h2:row.drop i=[]:=acP (by omega);simp only[h1,h2,decide_false,cond_false,fH];exact aaP (G:=G) row k hl (by omega) row.length 0 [] (Eg row k) (by omega) rfl (by simp)
 |succ n ih =>
  intro i k hi hk;refine au TQ ?_;have aK:i<row.length:=by omega
  have vu:k<row.length:=hk.resolve_right (by grind);have h2:row.drop i=row[i]::row.drop (i+1):=acd aK;have h3:row[i]? = some row[i]:=abk aK;have h4:row[k]? = some row[k]:=abk vu;have h5:row.getD k zD=row[k]:=by simp_all
  simp only[aR aK,cond_true,aG h3,aG h4,Option.bind_some,aB aK (show row.length≤1073741824 by omega)];refine aa (aes hG row[i] row[k]) ?_;rw[h2,fH,h5];by_cases ho:oV row[i] row[k]<0
  ·rw[if_pos ho];simp only[ho,decide_true];exact ih (i+1) i (by omega) (.inl aK)
  ·rw[if_neg ho];simp only[ho,decide_false];exact ih (i+1) k (by omega) (.inl vu)
theorem Kq(hG:HG G)(row:List ab)(hl:row.length≤100000000):FX G 132 rf ((row,()),())=some ((cj row,()),()):=by refine aw (hG _ _ rfl) ajf ?_;have:=aaQ (G:=G) hG row hl row.length 0 0 (by omega) (by grind);exact this
def nc(row:List ab)(after d:ab):List ab :=if d∈row then cj row else cj (row.take ((max 0 (idx after row 0)).toNat+1)++(d::row.drop ((max 0 (idx after row 0)).toNat+1)))
def iz(row:List ab)(d:ab):List ab:=cj (row.filter fun e=>decide (e≠d))
def fi(row:List ab)(cC d:ab):List ab:=cj (if cC∈row∧d∉row then row.set (idx cC row 0).toNat d else row)
theorem aev(hG:HG G)(row:List ab)(d:ab)(hl:row.length≤100000000):FX G 176 zR ((row,d,()),())=some ((iz row d,()),()):=by
 refine aw (hG _ _ rfl) ac9 ?_;have key:=br row (fun i (s:List ab)=>LX G 176 zR Tryz.f176 tn (aM Tryz.prog 176 0) ((row,(i,())),(((d,()),()),(s,())))) (fun r s=>((cj (s++r.filter fun e=>decide (e≠d)),()),())) (fun n s=>s.length+n≤row.length) (fun s hs=>by refine au NI ?_;simp only[cK,cond_false];refine aa (Kq hG s (by omega)) ?_;simp only[List.filter_nil,List.append_nil];rfl) (fun i x r s hi hx hr hs ih=>by
   refine au NI ?_;simp only[aR hi,cond_true,aG hx,Option.bind_some,lO,aB hi (show row.length≤1073741824 by omega)];by_cases he:x=d
   ·grind
   ·have h5:aL s.length [x].length=true:=fits (by simp;omega)
    grind)
  [] (by simp)
 exact key
theorem aew(hG:HG G)(row:List ab)(after d:ab)(hl:row.length≤90000000):FX G 172 zQ ((row,after,d,()),())=some ((nc row after d,()),()):=by
 refine aw (hG _ _ rfl) ac7 ?_;refine aa (HR (hG _ _ rfl) row d (by omega)) ?_;by_cases hd:d∈row
 case pos =>
  have h1:¬idx d row 0<0:=fun h=>eR.1 h hd;have h2:idx d row 0≥0:=by omega
  simp only[h2,decide_true,cond_true];refine aa (Kq hG row (by omega)) ?_;unfold nc;rw[if_pos hd];rfl
 case neg =>
 have h1:¬idx d row 0≥0:=by simp_all [eR]
 simp only[h1,decide_false,cond_false];refine aa (HR (hG _ _ rfl) row after (by omega)) ?_;obtain⟨k,hk⟩:∃k:Nat,max 0 (idx after row 0)=(k:Int):=⟨(max 0 (idx after row 0)).toNat,by omega⟩;have Wg:k<row.length∨row=[]:=by
  rcases oW after row 0 (by omega) with⟨e,_⟩|⟨q,e,e2,_⟩
  ·have:k=0:=by omega
   subst this
   grind
  grind
 have wB:nc row after d=cj (row.take (k+1)++(d::row.drop (k+1))):=by simp_all [nc,if_neg]
 rw[wB];simp only[hk];obtain⟨fin,iV⟩:∃fin,fin=row.take (k+1)++(d::row.drop (k+1)):=⟨_,rfl⟩;rw[←iV];have loop:∀(n i:Nat) (out:List ab),i+n=row.length→out=(if i≤k then row.take i else(row.take (k+1)++[d])++(row.drop (k+1)).take (i-(k+1))) →
   LX G 172 zQ Tryz.f172 tj (aM Tryz.prog 172 0) ((row,((k:Int),((i:Int),()))),(((d,()),()),(out,())))=some ((cj fin,()),()):=by
  intro n
  induction n with
  |zero =>
   intro i out hi B5;refine au NG ?_;have h1:¬((i:Int)<(row.length:Int)):=by omega
   rcases Wg with Wg|rfl
   ·have h0:((((row.length:Nat):Int))==0)=false:=by grind
    have h2:out=fin:=by
     have hle:(row.drop (k+1)).take (i-(k+1))=row.drop (k+1):=List.take_of_length_le (by simp_all)
     grind
    subst h2;simp only[h1,decide_false,h0];exact aa (Kq hG out (by grind)) rfl
   ·have hi0:i=0:=by simpa using hi
    subst hi0;have h2:out=[]:=by simp_all
    subst h2;have h3:fin=[d]:=by grind
    subst h3;exact aa (Kq hG [d] (by simp)) rfl
  |succ n ih =>
   intro i out hi B5;refine au NG ?_;have aK:i<row.length:=by omega
   have hx:row[i]? = some row[i]:=abk aK;have Zj:out.length≤row.length+1:=by rw[B5];split<;>simp<;>omega
   have h5:aL out.length [row[i]].length=true:=fits (by simp;omega);simp only[aR aK,aG hx,Option.bind_some,aB aK (show row.length≤1073741824 by omega),h5];by_cases hik:i=k
   ·subst hik;have h6:aL (out++[row[i]]).length [d].length=true:=fits (by simp;omega);have h8:(((i:Nat):Int)==((i:Nat):Int))=true:=by simp
    simp only[h8,h6];exact ih (i+1) ((out++[row[i]])++[d]) (by omega) (by simp_all)
   ·have h8:(((i:Nat):Int)==((k:Nat):Int))=false:=by simp;omega
    simp only[h8];refine ih (i+1) (out++[row[i]]) (by omega) ?_;rw[B5];by_cases hle:i≤k
    ·rw[if_pos hle,if_pos (by omega),List.take_add_one,hx];rfl
    ·have e9:(row.drop (k+1)).take (i+1-(k+1))=(row.drop (k+1)).take (i-(k+1))++[row[i]]:=by rw[show i+1-(k+1)=(i-(k+1))+1 by omega,List.take_add_one,List.getElem?_drop,show k+1+(i-(k+1))=i by omega,hx];rfl
     grind
 exact loop row.length 0 [] (by omega) (by simp)
theorem aex(hG:HG G)(row:List ab)(cC d:ab)(hl:row.length≤100000000):FX G 177 JM ((row,cC,d,()),())=some ((fi row cC d,()),()):=by
 refine aw (hG _ _ rfl) ada ?_;have h5:aL ([]:List ab).length row.length=true:=fits (by simp;omega);simp only[h5,cond_true,List.nil_append];refine aa (HR (hG _ _ rfl) row cC (by omega)) ?_;unfold fi;by_cases ho:cC∈row
 ·obtain⟨k,h1,h2,h3⟩:=eg ho;have hk:=(aby.1 h2).1;have e1:((k:Int)≥0):=by omega
  simp only[h1,e1,decide_true];refine aa (HR (hG _ _ rfl) row d (by omega)) ?_;by_cases hd:d∈row
  ·have h6:¬idx d row 0<0:=fun h=>eR.1 h hd;rw[if_neg (by simp[hd])];simp only[h6,decide_false];exact aa (Kq hG row hl) rfl
  ·have h6:=eR.2 hd;rw[if_pos ⟨ho,hd⟩];have h7:(0:Int)≤(k:Int):=by omega
   have h8:((k:Int)<((row.length:Nat):Int)):=by omega
   simp only[h6,decide_true,h7,h8,Bool.and_self,Int.toNat_natCast,h2];exact aa (Kq hG (row.set k d) (by simpa using hl)) rfl
 ·have h1:¬idx cC row 0≥0:=by simp_all [eR]
  rw[if_neg (by simp[ho])];simp only[h1,decide_false];exact aa (Kq hG row hl) rfl
def e0:ByteArray:=⟨#[]⟩
def zI:ID:=(0,0)
def zV:ai:=((0,0),([],(e0,0)))
def zE:aj:=((0,0),(e0,0))
def aQ(l:List ai)(x:ID):Option ai:=l.find? fun v=>decide (v.1=x)
def aY(l:List aj)(x:ID):Option aj:=l.find? fun v=>decide (v.1=x)
def bj(d:ak)(x:ID):Option ai:=aQ d.1 x
def gN(d:ak)(x:ID):Option aj:=aY d.2 x
def Eh(l:List ai)(x:ab):Option ID:=(l.find? fun v=>decide (x∈v.2.1)).map (·.1)
def b8(d:ak)(x:ab):Option ID:=Eh d.1 x
def qT{α:Type}(z:α):Option α→α×(Bool×Unit)
 |some y=>(y,(true,()))
 |none=>(z,(false,()))
theorem EJ(hG:G 87 q9=none)(d:ak)(x:ID)(hl:d.1.length≤100000000):FX G 87 q9 ((d,x,()),())=some (qT zV (bj d x),()):=by
 refine aw hG aio ?_;have HT:=br d.1 (fun i (_:Unit)=>LX G 87 q9 Tryz.f87 CC (aM Tryz.prog 87 0) ((i,()),(((d,()),((x,()),(((0:Int),((0:Int),(([]:List ab),(e0,((0:Int),()))))),()))),()))) (fun(r:List ai) (_:Unit)=>(qT zV (aQ r x),())) (fun _ _=>True) (fun s _=>by refine au Ti ?_;simp only[cK,cond_false];rfl) (fun i y r s hi hx hr _ ih=>by
   refine au Ti ?_;simp only[aR hi,cond_true,aG hx,Option.bind_some,lh,aB hi (show d.1.length≤1073741824 by omega)];by_cases he:y.1=x
   ·simp only[he,decide_true,aQ,aY,List.find?_cons];subst he;rfl
   ·simp only[he,decide_false,aQ,aY,List.find?_cons];exact ih () trivial)
  () trivial
 exact HT
theorem XD(hG:G 123 As=none)(d:ak)(x:ID)(hl:d.2.length≤100000000):FX G 123 As ((d,x,()),())=some (qT zE (gN d x),()):=by
 refine aw hG air ?_;have HT:=br d.2 (fun i (_:Unit)=>LX G 123 As Tryz.f123 CE (aM Tryz.prog 123 0) ((i,()),(((d,()),((x,()),(((((0:Int),(0:Int)),(e0,(0:Int))),()),()))),()))) (fun(r:List aj) (_:Unit)=>(qT zE (aY r x),())) (fun _ _=>True) (fun s _=>by refine au Tk ?_;simp only[cK,cond_false];rfl) (fun i y r s hi hx hr _ ih=>by
   refine au Tk ?_;simp only[aR hi,cond_true,aG hx,Option.bind_some,lh,aB hi (show d.2.length≤1073741824 by omega)];by_cases he:y.1=x
   ·simp only[he,decide_true,aQ,aY,List.find?_cons];subst he;rfl
   ·simp only[he,decide_false,aQ,aY,List.find?_cons];exact ih () trivial)
  () trivial
 exact HT
theorem Kr(hG:HG G)(d:ak)(x:ab)(hl:d.1.length≤100000000)(hr:∀v∈d.1,v.2.1.length≤100000000):FX G 174 vj ((d,x,()),())=some (qT zI (b8 d x),()):=by
 refine aw (hG _ _ rfl) aiq ?_;have HT:=br d.1 (fun i (_:Unit)=>LX G 174 vj Tryz.f174 CD (aM Tryz.prog 174 0) ((i,()),(((d,()),((x,()),((((0:Int),(0:Int)),()),()))),()))) (fun r _=>(qT zI (Eh r x),())) (fun _ _=>True) (fun s _=>by refine au Tj ?_;simp only[cK,cond_false];rfl) (fun i y r s hi hx xF _ ih=>by
   refine au Tj ?_;simp only[aR hi,cond_true,aG hx,Option.bind_some,aB hi (show d.1.length≤1073741824 by omega)];refine aa (HR (hG _ _ rfl) y.2.1 x (by grind)) ?_;by_cases he:x∈y.2.1
   ·have h1:idx x y.2.1 0≥0:=by grind [eg]
    simp only[h1,decide_true,Eh,List.find?_cons,he];rfl
   ·have h1:¬idx x y.2.1 0≥0:=by simp_all [eR]
    simp only[h1,decide_false,Eh,List.find?_cons,he];exact ih () trivial)
  () trivial
 exact HT
theorem aey(hG:G 12 ED=none)(d:ak)(hl:d.1.length≤100000000)(Aq:d.2.length≤100000000)(hr:∀v∈d.1,v.2.1.length≤100000000):FX G 12 ED ((d,()),())=some (((d.1,(d.2,())),()),()):=by
 refine aw hG aiF ?_;have h5:aL ([]:List aj).length d.2.length=true:=fits (by simp;omega);simp only[h5,cond_true,List.nil_append];have HT:=br d.1 (fun i (out:List ai)=>LX G 12 ED Tryz.f12 CM (aM Tryz.prog 12 0) ((i,()),(((d,()),((([]:List ai),(([]:List aj),())),((out,(d.2,())),()))),()))) (fun r s=>(((s++r,(d.2,())),()),())) (fun n s=>s.length+n≤d.1.length) (fun s _=>by refine au Tw ?_;simp_all) (fun i y r s hi hx xF hs ih=>by
   refine au Tw ?_;have h6:aL ([]:List ab).length y.2.1.length=true:=fits (by grind);have h7:aL s.length [(y.1,(y.2.1,y.2.2))].length=true:=fits (by simp;omega);simp only[aR hi,aG hx,Option.bind_some,h6,List.nil_append,h7,aB hi (show d.1.length≤1073741824 by omega)]
   grind)
  [] (by simp)
 exact HT
def cU(v:ai):List ai→List ai
 |[]=>[v]
 |w::r=>if gm v.1 w.1 then v::w::r else w::cU v r
def dv(v:aj):List aj→List aj
 |[]=>[v]
 |w::r=>if gm v.1 w.1 then v::w::r else w::dv v r
theorem bY(a:ID):gm a a=false:=by simp[gm]
theorem lQ(a b:ID):rj a b<0↔gm a b=true:=by
 unfold rj;by_cases h:a=b
 ·grind [bY]
 grind
theorem aez(hG:HG G)(d:ak)(v:ai)(hl:d.1.length≤100000000):FX G 88 Ht ((d,v,()),())=some (((cU v d.1,d.2),()),()):=by
 refine aw (hG _ _ rfl) aiK ?_;have key:=br d.1 (fun i (s:Bool×List ai)=>LX G 88 Ht Tryz.f88 vl (aM Tryz.prog 88 0) ((s.1,(i,())),(((d,()),((v,()),((([]:List ai),(([]:List aj),())),((s.2,(d.2,())),())))),()))) (fun r s=>(((s.2++(if s.1 then r else cU v r),d.2),()),())) (fun n s=>s.2.length+n≤d.1.length+(if s.1 then 1 else 0))
  (fun s hs=>by
   obtain⟨put,s⟩:=s;refine au Tz ?_;have h7:aL s.length [v].length=true:=fits (by grind)
   cases put
   ·simp_all [cK,cU]
   simp_all)
  (fun i y r s hi hx xF hs ih=>by
   obtain⟨put,s⟩:=s;refine au Tz ?_;have h6:aL s.length [y].length=true:=fits (by grind)
   cases put
   ·have h7:aL s.length [v].length=true:=fits (by grind);have h8:aL (s++[v]).length [y].length=true:=fits (by grind);simp only[aR hi,aG hx,Option.bind_some,aB hi (show d.1.length≤1073741824 by omega)];refine aa (aaO (hG _ _ rfl) v.1 y.1) ?_;by_cases ho:gm v.1 y.1=true
    ·have h9:=(lQ _ _).2 ho;have:=ih (true,(s++[v])++[y]) (by grind);simp only[h9,decide_true,h7,h8,cU,ho,if_true,Bool.false_eq_true,if_false];simp_all
    ·have h9:¬rj v.1 y.1<0:=fun h=>ho ((lQ _ _).1 h);have:=ih (false,s++[y]) (by grind);simp only[h9,decide_false,h6,cU,ho,if_false,Bool.false_eq_true];simp_all
   ·have:=ih (true,s++[y]) (by grind);simp only[aR hi,aG hx,Option.bind_some,aB hi (show d.1.length≤1073741824 by omega),h6,if_true];simp_all)
  (false,[]) (by simp)
 exact key
theorem aeA(hG:HG G)(d:ak)(v:aj)(hl:d.2.length≤100000000):FX G 125 Av ((d,v,()),())=some (((d.1,dv v d.2),()),()):=by
 refine aw (hG _ _ rfl) ai9 ?_;have key:=br d.2 (fun i (s:Bool×List aj)=>LX G 125 Av Tryz.f125 vm (aM Tryz.prog 125 0) ((s.1,(i,())),(((d,()),((v,()),((([]:List ai),(([]:List aj),())),((d.1,(s.2,())),())))),()))) (fun r s=>(((d.1,s.2++(if s.1 then r else dv v r)),()),())) (fun n s=>s.2.length+n≤d.2.length+(if s.1 then 1 else 0))
  (fun s hs=>by
   obtain⟨put,s⟩:=s;refine au TO ?_;have h7:aL s.length [v].length=true:=fits (by grind)
   cases put
   ·simp_all [cK,dv]
   simp_all)
  (fun i y r s hi hx xF hs ih=>by
   obtain⟨put,s⟩:=s;refine au TO ?_;have h6:aL s.length [y].length=true:=fits (by grind)
   cases put
   ·have h7:aL s.length [v].length=true:=fits (by grind);have h8:aL (s++[v]).length [y].length=true:=fits (by grind);simp only[aR hi,aG hx,Option.bind_some,aB hi (show d.2.length≤1073741824 by omega)];refine aa (aaO (hG _ _ rfl) v.1 y.1) ?_;by_cases ho:gm v.1 y.1=true
    ·have h9:=(lQ _ _).2 ho;have:=ih (true,(s++[v])++[y]) (by grind);simp only[h9,decide_true,h7,h8,dv,ho,if_true,Bool.false_eq_true,if_false];simp_all
    ·have h9:¬rj v.1 y.1<0:=fun h=>ho ((lQ _ _).1 h);have:=ih (false,s++[y]) (by grind);simp only[h9,decide_false,h6,dv,ho,if_false,Bool.false_eq_true];simp_all
   ·have:=ih (true,s++[y]) (by grind);simp only[aR hi,aG hx,Option.bind_some,aB hi (show d.2.length≤1073741824 by omega),h6,if_true];simp_all)
  (false,[]) (by simp)
 exact key
def cT(l:List ai)(v:ID):List ai:=l.filter fun w=>decide (w.1≠v)
def cY(l:List aj)(v:ID):List aj:=l.filter fun w=>decide (w.1≠v)
def aJ(d:ak)(v e:ID):ak:=(cT d.1 v,cY d.2 e)
theorem XE(hG:G 89 qj=none)(d:ak)(v e:ID)(hl:d.1.length≤100000000)(Aq:d.2.length≤100000000):FX G 89 qj ((d,v,e,()),())=some ((aJ d v e,()),()):=by
 refine aw hG aiL ?_;have Ks:=fun vs=>br d.2 (fun i (s:List aj)=>LX G 89 qj Tryz.f89 yr (aM Tryz.prog 89 1) ((i,()),(((d,()),((e,()),((([]:List ai),(([]:List aj),())),((vs,(s,())),())))),()))) (fun(r:List aj) (s:List aj)=>(((vs,s++cY r e),()),())) (fun n s=>s.length+n≤d.2.length) (fun s hs=>by refine au TB ?_;simp only[cK,cT,cY,List.filter_nil,List.append_nil];rfl) (fun i y r s hi hx xF hs ih=>by
   refine au TB ?_;have h6:aL s.length [y].length=true:=fits (by grind);simp only[aR hi,aG hx,Option.bind_some,lh,aB hi (show d.2.length≤1073741824 by omega)];by_cases he:y.1=e
   ·simp only[he,decide_true,Bool.not_true,ne_eq,not_true_eq_false,decide_false,cT,cY,List.filter_cons,Bool.false_eq_true,if_false];exact ih s (by omega)
   ·simp only[he,decide_false,Bool.not_false,h6,ne_eq,not_false_eq_true,decide_true,cT,cY,List.filter_cons,if_true];have:=ih (s++[y]) (by simp;omega);rw[List.append_assoc]at this;exact this)
  [] (by simp)
 have HT:=br d.1 (fun i (s:List ai)=>LX G 89 qj Tryz.f89 yq (aM Tryz.prog 89 0) ((i,()),(((d,()),((v,()),((e,()),((([]:List ai),(([]:List aj),())),((s,(([]:List aj),())),()))))),()))) (fun(r:List ai) (s:List ai)=>(((s++cT r v,cY d.2 e),()),())) (fun n s=>s.length+n≤d.1.length) (fun s hs=>by refine au TA ?_;simp only[cK,cT,cY,List.filter_nil,List.append_nil];exact Ks s) (fun i y r s hi hx xF hs ih=>by
   refine au TA ?_;have h6:aL s.length [y].length=true:=fits (by grind);simp only[aR hi,aG hx,Option.bind_some,lh,aB hi (show d.1.length≤1073741824 by omega)];by_cases he:y.1=v
   ·simp only[he,decide_true,Bool.not_true,ne_eq,not_true_eq_false,decide_false,cT,cY,List.filter_cons,Bool.false_eq_true,if_false];exact ih s (by omega)
   ·simp only[he,decide_false,Bool.not_false,h6,ne_eq,not_false_eq_true,decide_true,cT,cY,List.filter_cons,if_true];have:=ih (s++[y]) (by simp;omega);rw[List.append_assoc]at this;exact this)
  [] (by simp)
 exact HT
instance amu:DecidableEq (List ai):=@instDecidableEqList ai inferInstance
instance decLE:DecidableEq (List aj):=@instDecidableEqList aj inferInstance
instance ag7:DecidableEq ak:=instDecidableEqProd
instance aeB:DecidableEq StateT:=instDecidableEqProd
structure Sm(d:ak):Prop where
 v:d.1.length≤50000000
 e:d.2.length≤50000000
 r:∀w∈d.1,w.2.1.length≤50000000
def tF(x:ID)(l:List ab)(w:ai):ai:=if w.1=x then(w.1,(l,w.2.2)) else w
def cf(d:ak)(x:ID)(l:List ab):ak:=(d.1.map (tF x l),d.2)
theorem fj(i:Nat):decide ((0:Int)≤(i:Int))=true:=by simp
theorem xd{α:Type}(f:α→α)(l:List α)(i:Nat)(x:α)(hx:l[i]? = some x):((l.take i).map f++l.drop i).set i (f x)=(l.take (i+1)).map f++l.drop (i+1):=by have hi:=(aby.1 hx).1;have h2:l.drop i=l[i]::l.drop (i+1):=acd hi;have h3:l[i]=x:=(aby.1 hx).2;rw[List.set_append_right _ _ (by simp;omega),h2,List.length_map,List.length_take,Nat.min_eq_left (by omega),Nat.sub_self,List.set_cons_zero,List.take_add_one,hx];simp
theorem Ul{α:Type}(f:α→α)(l:List α)(i:Nat)(x:α)(hx:l[i]? = some x)(hf:f x=x):(l.take i).map f++l.drop i=(l.take (i+1)).map f++l.drop (i+1):=by
 grind [List.getElem?_eq_some_iff,List.drop_eq_getElem_cons,List.take_add_one]
theorem XF{α:Type}(f:α→α)(l:List α)(i:Nat)(x:α)(hx:l[i]? = some x):((l.take i).map f++l.drop i)[i]? = some x:=by
 grind
theorem aaR(hG:HG G)(d:ak)(x:ID)(l:List ab)(hs:Sm d):FX G 171 EG ((d,x,l,()),())=some ((cf d x l,()),()):=by
 have hv:=hs.v;have he:=hs.e;refine aw (hG _ _ rfl) aju ?_;refine aa (aey (hG _ _ rfl) d (by omega) (by omega) (fun w hw=>by have:=hs.r w hw;omega)) ?_;have loop:∀(n i:Nat) (out fin:List ai),i+n=d.1.length→out=(d.1.take i).map (tF x l)++d.1.drop i→fin=d.1.map (tF x l) → LX G 171 EG Tryz.f171 yy (aM Tryz.prog 171 0) ((l,((i:Int),())),(((x,()),((([]:List ai),(([]:List aj),())),((out,(d.2,())),()))),()))=some (((fin,d.2),()),()):=by
  intro n
  induction n with
  |zero =>
   intro i out fin hi ho hf;refine au TV ?_;have Zj:out.length=d.1.length:=by simp_all
   have h1:¬((i:Int)<(out.length:Int)):=by omega
   have h2:out=fin:=by simp_all
   subst h2;simp only[h1,decide_false];rfl
  |succ n ih =>
   intro i out fin hi ho hf;refine au TV ?_;have Zj:out.length=d.1.length:=by rw[ho];simp;omega
   have aK:i<d.1.length:=by omega
   have hx:d.1[i]? = some d.1[i]:=abk aK;have hg:out[i]? = some d.1[i]:=by grind [XF]
   simp only[aR (show i<out.length by omega),fj,Bool.and_self,Int.toNat_natCast,hg,Option.bind_some,lh,aB aK (show d.1.length≤1073741824 by omega)];by_cases hq:d.1[i].1=x
   ·have e1:tF x l d.1[i]=(x,(l,d.1[i].2.2)):=by simp_all [tF,if_pos]
    simp only[hq,decide_true];exact ih (i+1) (out.set i (x,(l,d.1[i].2.2))) fin (by omega) (by grind [xd]) hf
   ·have e1:tF x l d.1[i]=d.1[i]:=by unfold tF;rw[if_neg hq]
    simp only[hq,decide_false];exact ih (i+1) out fin (by omega) (by grind [Ul]) hf
 exact loop d.1.length 0 d.1 (d.1.map (tF x l)) (by omega) (by simp) rfl
def bF(d:ak)(x:ID):List ab:=((bj d x).getD zV).2.1
theorem kI{α:Type}(z:α)(o:Option α):(qT z o).1=o.getD z:=by cases o<;>rfl
theorem iK{α:Type}(z:α)(o:Option α):(qT z o).2.1=o.isSome:=by cases o<;>rfl
theorem oY{d:ak}(hs:Sm d)(x:ID):(bF d x).length≤50000000:=by
 unfold bF
 cases h:bj d x with
 |none=>simp[zV]
 |some v=>exact hs.r v (ab8 h)
def bT(d:ak)(c:qP)(x:ab):ak:=cf d c.1 (nc (bF d c.1) c.2 x)
def aC(d:ak)(cC x:ab):ak:=cf d ((b8 d cC).getD zI) (fi (bF d ((b8 d cC).getD zI)) cC x)
def aF(d:ak)(x:ab):ak:=cf d ((b8 d x).getD zI) (iz (bF d ((b8 d x).getD zI)) x)
theorem aeC(hG:HG G)(d:ak)(c:qP)(x:ab)(hs:Sm d):FX G 126 Aw ((d,c,x,()),())=some ((bT d c x,()),()):=by have hv:=hs.v;have hr:=oY hs c.1;refine aw (hG _ _ rfl) aja ?_;refine aa (EJ (hG _ _ rfl) d c.1 (by omega)) ?_;rw[show(qT zV (bj d c.1)).1=(bj d c.1).getD zV from kI _ _];refine aa (aew hG (bF d c.1) c.2 x (by omega)) ?_;exact aa (aaR hG d c.1 (nc (bF d c.1) c.2 x) hs) rfl
theorem aeD(hG:HG G)(d:ak)(cC x:ab)(hs:Sm d):FX G 130 JI ((d,cC,x,()),())=some ((aC d cC x,()),()):=by have hv:=hs.v;have hr:=oY hs ((b8 d cC).getD zI);refine aw (hG _ _ rfl) aje ?_;refine aa (Kr hG d cC (by omega) (fun w hw=>by have:=hs.r w hw;omega)) ?_;rw[show(qT zI (b8 d cC)).1=(b8 d cC).getD zI from kI _ _];refine aa (EJ (hG _ _ rfl) d ((b8 d cC).getD zI) (by omega)) ?_;rw[show(qT zV (bj d ((b8 d cC).getD zI))).1=(bj d ((b8 d cC).getD zI)).getD zV from kI _ _];refine aa (aex hG (bF d ((b8 d cC).getD zI)) cC x (by omega)) ?_;exact aa (aaR hG d ((b8 d cC).getD zI) (fi (bF d ((b8 d cC).getD zI)) cC x) hs) rfl
theorem aeE(hG:HG G)(d:ak)(x:ab)(hs:Sm d):FX G 129 Qe ((d,x,()),())=some ((aF d x,()),()):=by have hv:=hs.v;have hr:=oY hs ((b8 d x).getD zI);refine aw (hG _ _ rfl) ajd ?_;refine aa (Kr hG d x (by omega) (fun w hw=>by have:=hs.r w hw;omega)) ?_;rw[show(qT zI (b8 d x)).1=(b8 d x).getD zI from kI _ _];refine aa (EJ (hG _ _ rfl) d ((b8 d x).getD zI) (by omega)) ?_;rw[show(qT zV (bj d ((b8 d x).getD zI))).1=(bj d ((b8 d x).getD zI)).getD zV from kI _ _];refine aa (aev hG (bF d ((b8 d x).getD zI)) x (by omega)) ?_;exact aa (aaR hG d ((b8 d x).getD zI) (iz (bF d ((b8 d x).getD zI)) x) hs) rfl
def jo(row:List ab)(x:ab):ab:=(dp row x (row.length-1)).getD zD
theorem A6(o:Option ab):(Kp o).1=o.getD zD:=by cases o<;>rfl
def db(d:ak)(x:ab):ab :=
 let row:=bF d ((b8 d x).getD zI)
 let y:=jo row x
 let z:=if y.1=x.1 then jo row y else y
 if z.1=x.1 then zD else z
theorem aeF(hG:HG G)(d:ak)(x:ab)(hs:Sm d):FX G 128 Qd ((d,x,()),())=some ((db d x,()),()):=by
 have hv:=hs.v;have hr:=oY hs ((b8 d x).getD zI);refine aw (hG _ _ rfl) ajc ?_;refine aa (Kr hG d x (by omega) (fun w hw=>by have:=hs.r w hw;omega)) ?_;rw[show(qT zI (b8 d x)).1=(b8 d x).getD zI from kI _ _];refine aa (EJ (hG _ _ rfl) d ((b8 d x).getD zI) (by omega)) ?_;rw[show(qT zV (bj d ((b8 d x).getD zI))).1=(bj d ((b8 d x).getD zI)).getD zV from kI _ _];refine aa (aet hG (bF d ((b8 d x).getD zI)) x (by omega)) ?_;rw[show(Kp (dp (bF d ((b8 d x).getD zI)) x ((bF d ((b8 d x).getD zI)).length-1))).1=jo (bF d ((b8 d x).getD zI)) x from A6 _];unfold db;obtain⟨y,hy⟩:∃y,y=jo (bF d ((b8 d x).getD zI)) x:=⟨_,rfl⟩;simp only[←hy,lh];by_cases h1:y.1=x.1
 ·have d1:=decide_eq_true h1;rw[if_pos h1];simp only[d1];refine aa (aet hG (bF d ((b8 d x).getD zI)) y (by omega)) ?_;rw[show(Kp (dp (bF d ((b8 d x).getD zI)) y ((bF d ((b8 d x).getD zI)).length-1))).1=jo (bF d ((b8 d x).getD zI)) y from A6 _];by_cases h2:(jo (bF d ((b8 d x).getD zI)) y).1=x.1
  ·have d2:=decide_eq_true h2;rw[if_pos h2];simp only[d2];rfl
  ·have d2:=decide_eq_false h2;rw[if_neg h2];simp only[d2];rfl
 ·have d1:=decide_eq_false h1;rw[if_neg h1,if_neg h1];simp only[d1];rfl
def gS(l:List ax)(d:ab):Option ab:=(l.find? fun g=>decide (g.1=d)).map (·.2)
theorem Zm(hG:G 173 uC=none)(l:List ax)(d:ab)(hl:l.length≤100000000):FX G 173 uC ((l,d,()),())=some (qT zD (gS l d),()):=by
 refine aw hG ac8 ?_;have key:=br l (fun i (_:Unit)=>LX G 173 uC Tryz.f173 wK (aM Tryz.prog 173 0) ((l,(i,())),(((d,()),(((((0:Int),(0:Int)),(0:Int)),()),())),()))) (fun(r:List ax) (_:Unit)=>(qT zD (gS r d),())) (fun _ _=>True) (fun s _=>by refine au NH ?_;simp only[cK,cond_false];rfl) (fun i y r s hi hx hr _ ih=>by
   refine au NH ?_;simp only[aR hi,aG hx,Option.bind_some,lO,aB hi (show l.length≤1073741824 by omega)];by_cases he:y.1=d
   ·simp only[he,decide_true,gS,List.find?_cons];rfl
   ·simp only[he,decide_false,gS,List.find?_cons];exact ih () trivial)
  () trivial
 exact key
theorem ajR(hG:G 38 Hu=none)(a b:List ax)(ha:a.length≤100000000):FX G 38 Hu ((a,b,()),())=some ((decide (a=b),()),()):=by
 refine aw hG aiR ?_;by_cases hl:a.length=b.length
 case neg =>
  have h1:((((a.length:Nat):Int)) != ((b.length:Nat):Int))=true:=by simp;omega
  have h2:¬a=b:=fun e=>hl (by rw[e]);simp only[h1,h2,decide_false];rfl
 have h1:((((a.length:Nat):Int)) != ((b.length:Nat):Int))=false:=by simp[hl]
 simp only[h1];have Lr:(a.zip b).length=a.length:=by simp[hl]
 have key:=br (a.zip b) (fun i (_:Unit)=>LX G 38 Hu Tryz.f38 CP (aM Tryz.prog 38 0) ((a,(b,(i,()))),((),()))) (fun r _=>((r.all (fun p=>decide (p.1=p.2)),()),())) (fun _ _=>True) (fun s _=>by refine au TF ?_;rw[Lr];simp only[cK];rfl) (fun i x r s hi hx hr _ ih=>by
   rw[Lr]at hi;obtain⟨h3,h4⟩:=A5 hx;refine au TF ?_;simp only[aR hi,aG h3,aG h4,Option.bind_some,lO,aB hi (show a.length≤1073741824 by omega)];by_cases he:x.1=x.2
   ·simp only[he,decide_true,Bool.and_self,Bool.not_true,List.all_cons,Bool.true_and];exact ih () trivial
   ·have h9:(decide (x.1.1=x.2.1)&&decide (x.1.2=x.2.2))=false:=by
     grind
    simp only[he,h9,decide_false,Bool.not_false,List.all_cons,Bool.false_and];rfl)
  () trivial
 rw[xc a b hl]at key;exact key
theorem ajS(hG:HG G)(a b:ak)(hs:Sm a):FX G 37 Cp ((a,b,()),())=some ((decide (a=b),()),()):=by
 have hv:=hs.v;have he:=hs.e;refine aw (hG _ _ rfl) aiw ?_;by_cases hl:a.1.length=b.1.length
 case neg =>
  have h1:((((a.1.length:Nat):Int)) != ((b.1.length:Nat):Int))=true:=by simp;omega
  have h2:¬a=b:=fun e=>hl (by rw[e]);simp only[h1,h2,decide_false];rfl
 have h1:((((a.1.length:Nat):Int)) != ((b.1.length:Nat):Int))=false:=by simp[hl]
 simp only[h1];by_cases Aq:a.2.length=b.2.length
 case neg =>
  have h1:((((a.2.length:Nat):Int)) != ((b.2.length:Nat):Int))=true:=by simp;omega
  have h2:¬a=b:=fun e=>Aq (by rw[e]);simp only[h1,h2,decide_false];rfl
 have h2:((((a.2.length:Nat):Int)) != ((b.2.length:Nat):Int))=false:=by simp[Aq]
 simp only[h2];have Lr:(a.1.zip b.1).length=a.1.length:=by simp[hl]
 have aeG:(a.2.zip b.2).length=a.2.length:=by simp[Aq]
 have Ks:=br (a.2.zip b.2) (fun i (_:Unit)=>LX G 37 Cp Tryz.f37 CI (aM Tryz.prog 37 1) ((i,()),(((a,()),((b,()),())),()))) (fun r _=>((r.all (fun p=>decide (p.1=p.2)),()),())) (fun _ _=>True) (fun s _=>by refine au Tq ?_;rw[aeG];simp only[cK];rfl) (fun i x r s hi hx hr _ ih=>by
   rw[aeG]at hi;obtain⟨h3,h4⟩:=A5 hx;refine au Tq ?_;simp only[aR hi,aG h3,aG h4,Option.bind_some,lh,XB,aB hi (show a.2.length≤1073741824 by omega)];by_cases he:x.1=x.2
   ·simp only[he,decide_true,beq_self_eq_true,Bool.and_self,Bool.not_true,List.all_cons,Bool.true_and];exact ih () trivial
   ·have h9:(decide (x.1.1=x.2.1)&&(decide (x.1.2.1=x.2.2.1)&&(x.1.2.2==x.2.2.2)))=false:=by
     grind
    simp only[he,h9,decide_false,Bool.not_false,List.all_cons,Bool.false_and];rfl)
  () trivial
 rw[xc a.2 b.2 Aq]at Ks;have key:=br (a.1.zip b.1) (fun i (_:Unit)=>LX G 37 Cp Tryz.f37 CH (aM Tryz.prog 37 0) ((i,()),(((a,()),((b,()),())),()))) (fun r _=>((r.all (fun p=>decide (p.1=p.2))&&decide (a.2=b.2),()),())) (fun _ _=>True) (fun s _=>by refine au Tp ?_;rw[Lr];simp only[cK,List.all_nil,Bool.true_and];exact Ks) (fun i x r s hi hx hr _ ih=>by
   rw[Lr]at hi;obtain⟨h3,h4⟩:=A5 hx;refine au Tp ?_;simp only[aR hi,aG h3,aG h4,Option.bind_some,lh,XB,aB hi (show a.1.length≤1073741824 by omega)];refine aa (ajQ hG x.1.2.1 x.2.2.1 (by have:=hs.r x.1 (ab3 h3);omega)) ?_;by_cases e1:x.1.1=x.2.1
   case neg =>
    have he:¬x.1=x.2:=fun e=>e1 (by rw[e]);have d1:=decide_eq_false e1;simp only[d1,he,decide_false,List.all_cons,Bool.false_and];rfl
   have d1:=decide_eq_true e1;by_cases e2:x.1.2.2.1=x.2.2.2.1
   case neg =>
    have he:¬x.1=x.2:=fun e=>e2 (by rw[e]);have d2:=decide_eq_false e2;simp only[d1,d2,he,decide_false,List.all_cons,Bool.false_and];rfl
   have d2:=decide_eq_true e2;by_cases e3:x.1.2.2.2=x.2.2.2.2
   case neg =>
    have he:¬x.1=x.2:=fun e=>e3 (by rw[e]);have h8:(x.1.2.2.2 != x.2.2.2.2)=true:=by simp[e3]
    simp only[d1,d2,h8,he,decide_false,List.all_cons,Bool.false_and];rfl
   have h8:(x.1.2.2.2 != x.2.2.2.2)=false:=by simp[e3]
   by_cases e4:x.1.2.1=x.2.2.1
   case neg =>
    have he:¬x.1=x.2:=fun e=>e4 (by rw[e]);have d4:=decide_eq_false e4;simp only[d1,d2,h8,d4,he,decide_false,List.all_cons,Bool.false_and];rfl
   have d4:=decide_eq_true e4;have he:decide (x.1=x.2)=true:=decide_eq_true (Prod.ext e1 (Prod.ext e4 (Prod.ext e2 e3)));simp only[d1,d2,h8,d4,he,List.all_cons,Bool.true_and];exact ih () trivial)
  () trivial
 rw[xc a.1 b.1 hl]at key;have iV:(decide (a.1=b.1)&&decide (a.2=b.2))=decide (a=b):=by
  grind
 exact key.trans (congrArg (fun b:Bool=>some ((b,()),())) iV)
theorem ajT(hG:HG G)(a b:StateT)(hs:Sm a.1)(hg:a.2.length≤50000000):FX G 14 SW ((a,b,()),())=some ((decide (a=b),()),()):=by
 refine aw (hG _ _ rfl) ain ?_;refine aa (ajS hG a.1 b.1 hs) ?_;refine aa (ajR (hG _ _ rfl) a.2 b.2 (by omega)) ?_;have iV:(decide (a.1=b.1)&&decide (a.2=b.2))=decide (a=b):=by
  grind
 rw[←iV];by_cases h:a.1=b.1
 ·simp only[h,decide_true,Bool.true_and];rfl
 ·simp only[h,decide_false,Bool.false_and];rfl
def nX(g:ax)(l:List ax):List ax:=l.filter fun q=>decide (q.1≠g.1)
def lR(g:ax):List ax→List ax
 |[]=>[g]
 |e::r=>if oV g.1 e.1≤0 then g::nX g (e::r) else if e.1≠g.1 then e::lR g r else lR g r
def bR(l:List ax)(g:ax):List ax:=if(gS l g.1).isSome=false∧400≤l.length then l else lR g l
def Qt(g:ax)(put:Bool)(r:List ax):List ax:=if put then nX g r else lR g r
theorem aeH(hG:HG G)(l:List ax)(g:ax)(hl:l.length≤50000000) :
  LX G 127 Ax Tryz.f127 lA (aM Tryz.prog 127 0) ((l,(false,((0:Int),()))),(((g,()),()),(([]:List ax),())))=some ((lR g l,()),()):=by
 have key:=br l (fun i (s:Bool×List ax)=>LX G 127 Ax Tryz.f127 lA (aM Tryz.prog 127 0) ((l,(s.1,(i,()))),(((g,()),()),(s.2,())))) (fun(r:List ax) (s:Bool×List ax)=>((s.2++Qt g s.1 r,()),())) (fun n s=>s.2.length+n≤l.length+(if s.1 then 1 else 0))
  (fun s hs=>by
   obtain⟨put,s⟩:=s;refine au TP ?_;have h7:aL s.length [g].length=true:=fits (by grind)
   cases put
   ·simp_all [cK,Qt,lR]
   ·simp only[cK,Qt,if_true,nX,List.filter_nil,List.append_nil];rfl)
  (fun i y r s hi hx xF hs ih=>by
   obtain⟨put,s⟩:=s;refine au TP ?_;have h6:aL s.length [y].length=true:=fits (by grind);have hw:=aB hi (show l.length≤1073741824 by omega)
   cases put
   ·have h7:aL s.length [g].length=true:=fits (by grind);have h8:aL (s++[g]).length [y].length=true:=fits (by grind);simp only[aR hi,aG hx,Option.bind_some,hw];refine aa (aes hG g.1 y.1) ?_;by_cases ho:oV g.1 y.1≤0
    ·have d0:=decide_eq_true ho;by_cases hy:y.1=g.1
     ·have d1:=decide_eq_true hy;have:=ih (true,s++[g]) (by grind);simp only[d0,h7,lO,d1,Qt,lR,ho,if_true,Bool.false_eq_true,if_false];refine this.trans (congrArg (fun l:List ax=>some ((l,()),())) ?_);simp[Qt,nX,hy]
     ·have d1:=decide_eq_false hy;have:=ih (true,(s++[g])++[y]) (by grind);simp only[d0,h7,h8,lO,d1,Qt,lR,ho,if_true,Bool.false_eq_true,if_false];refine this.trans (congrArg (fun l:List ax=>some ((l,()),())) ?_);simp[Qt,nX,hy]
    ·have d0:=decide_eq_false ho;by_cases hy:y.1=g.1
     ·have d1:=decide_eq_true hy;have:=ih (false,s) (by omega);simp only[d0,lO,d1,Qt,lR,ho,Bool.false_eq_true,if_false];refine this.trans (congrArg (fun l:List ax=>some ((l,()),())) ?_);simp[Qt,hy]
     ·have d1:=decide_eq_false hy;have:=ih (false,s++[y]) (by grind);simp only[d0,h6,lO,d1,Qt,lR,ho,Bool.false_eq_true,if_false];refine this.trans (congrArg (fun l:List ax=>some ((l,()),())) ?_);simp[Qt,hy]
   ·by_cases hy:y.1=g.1
    ·have d1:=decide_eq_true hy;have:=ih (true,s) (by omega);simp only[aR hi,aG hx,Option.bind_some,hw,lO,d1];refine this.trans (congrArg (fun l:List ax=>some ((l,()),())) ?_);simp[Qt,nX,hy]
    ·have d1:=decide_eq_false hy;have:=ih (true,s++[y]) (by grind);simp only[aR hi,aG hx,Option.bind_some,hw,lO,d1,h6];refine this.trans (congrArg (fun l:List ax=>some ((l,()),())) ?_);simp[Qt,nX,hy])
  (false,[]) (by simp)
 exact key
theorem XG(hG:HG G)(l:List ax)(g:ax)(hl:l.length≤50000000):FX G 127 Ax ((l,g,()),())=some ((bR l g,()),()):=by
 refine aw (hG _ _ rfl) ajb ?_;refine aa (Zm (hG _ _ rfl) l g.1 (by omega)) ?_;rw[show(qT zD (gS l g.1)).2.1=(gS l g.1).isSome from iK _ _];unfold bR
 cases hf:(gS l g.1).isSome
 ·by_cases hn:400≤l.length
  ·have h1:decide (((l.length:Nat):Int)≥400)=true:=by simp;omega
   rw[if_pos ⟨rfl,hn⟩];simp only[h1];rfl
  ·have h1:decide (((l.length:Nat):Int)≥400)=false:=by simp;omega
   rw[if_neg (by simp[hn])];simp only[h1];exact aeH hG l g hl
 ·rw[if_neg (by simp)];exact aeH hG l g hl
def res(d:ak)(gn:List ax):Nat→ab→ab
 |0,_=>zD
 |n+1,x=>if(b8 d x).isSome then x else match gS gn x with
  |none=>zD
  |some y=>res d gn n y
def resolve(s:StateT)(x:ab):ab:=res s.1 s.2 (s.2.length+1) x
theorem ajU(hG:HG G)(s:StateT)(x:ab)(hs:Sm s.1)(hg:s.2.length≤50000000):FX G 169 JK ((s,x,()),())=some ((resolve s x,()),()):=by
 refine aw (hG _ _ rfl) ajt ?_;have hv:=hs.v;have loop:∀(n i:Nat) (y:ab),i+n=s.2.length+1→LX G 169 JK Tryz.f169 CX (aM Tryz.prog 169 0) (((i:Int),()),((s,()),((y,()),(((((0:Int),(0:Int)),(0:Int)),()),()))),())=some ((res s.1 s.2 n y,()),()):=by
  intro n
  induction n with
  |zero =>
   intro i y hi;refine au TU ?_;have h1:decide ((i:Int)≤((s.2.length:Nat):Int))=false:=by simp;omega
   simp only[h1];rfl
  |succ n ih =>
   intro i y hi;refine au TU ?_;have h1:decide ((i:Int)≤((s.2.length:Nat):Int))=true:=by simp;omega
   have hw:IntKind.wrap .i64 ((i:Int)+1)=((i+1:Nat):Int):=by grind [wrap_small]
   simp only[h1,hw];refine aa (Kr hG s.1 y (by omega) (fun w hw=>by have:=hs.r w hw;omega)) ?_;rw[show(qT zI (b8 s.1 y)).2.1=(b8 s.1 y).isSome from iK _ _,res]
   cases ha:(b8 s.1 y).isSome
   ·simp only[Bool.false_eq_true,if_false];refine aa (Zm (hG _ _ rfl) s.2 y (by omega)) ?_
    cases hf:gS s.2 y with
    |none=>rfl
    |some z=>exact ih (i+1) z (by omega)
   ·rfl
 exact loop (s.2.length+1) 0 x (by omega)
def zC:qP:=(zI,zD)
def xe(s:StateT)(c:qP)(v:ai):ab:=if resolve s c.2∈v.2.1 then resolve s c.2 else zD
def bA(s:StateT)(c:qP):qP×(Int×Unit):=match bj s.1 c.1 with
 |none=>(zC,(13,()))
 |some v=>((c.1,xe s c v),(0,()))
theorem aeI(hG:HG G)(s:StateT)(c:qP)(hs:Sm s.1)(hg:s.2.length≤50000000):FX G 124 Qc ((s,c,()),())=some (bA s c,()):=by
 have hv:=hs.v;refine aw (hG _ _ rfl) ai8 ?_;refine aa (EJ (hG _ _ rfl) s.1 c.1 (by omega)) ?_;unfold bA
 cases hf:bj s.1 c.1 with
 |none=>rfl
 |some v =>
  have hr:v.2.1.length≤50000000:=hs.r v (ab8 hf);refine aa (ajU hG s c.2 hs hg) ?_;refine aa (HR (hG _ _ rfl) v.2.1 (resolve s c.2) (by omega)) ?_;by_cases hm:resolve s c.2∈v.2.1
  ·have h1:decide (idx (resolve s c.2) v.2.1 0<0)=false:=decide_eq_false (fun h=>eR.1 h hm);have h2:xe s c v=resolve s c.2:=if_pos hm;simp only[h1];exact congrArg (fun z:ab=>some (((c.1,z),((0:Int),())),())) h2.symm
  ·have h1:decide (idx (resolve s c.2) v.2.1 0<0)=true:=decide_eq_true (eR.2 hm);have h2:xe s c v=zD:=if_neg hm;simp only[h1];exact congrArg (fun z:ab=>some (((c.1,z),((0:Int),())),())) h2.symm
def ag(x:ab):ab:=(x.1,IntKind.wrap .i64 (1-x.2))
def jY(d:ak)(x:ab):Option ab:=match b8 d x with
 |none=>none
 |some a=>dp (bF d a) x 1
theorem ajV(hG:HG G)(d:ak)(x:ab)(hs:Sm d):FX G 237 S7 ((d,x,()),())=some (Kp (jY d x),()):=by
 have hv:=hs.v;refine aw (hG _ _ rfl) ajg ?_;refine aa (Kr hG d x (by omega) (fun w hw=>by have:=hs.r w hw;omega)) ?_;unfold jY
 cases ha:b8 d x with
 |none=>rfl
 |some a =>have hr:=oY hs a;refine aa (EJ (hG _ _ rfl) d a (by omega)) ?_;rw[show(qT zV (bj d a)).1=(bj d a).getD zV from kI _ _];exact aa (aeu hG (bF d a) x (by omega)) rfl
def IB(d:ak)(x:ab):Option ab:=if(b8 d x).isSome then jY d (ag x) else none
theorem aeJ(hG:HG G)(d:ak)(x:ab)(hs:Sm d):FX G 226 P8 ((d,x,()),())=some (Kp (IB d x),()):=by
 have hv:=hs.v;refine aw (hG _ _ rfl) aiS ?_;refine aa (Kr hG d x (by omega) (fun w hw=>by have:=hs.r w hw;omega)) ?_;rw[show(qT zI (b8 d x)).2.1=(b8 d x).isSome from iK _ _];unfold IB
 cases ha:(b8 d x).isSome
 ·rfl
 ·refine aa (aaN (hG _ _ rfl) x) ?_;exact aa (ajV hG d (ag x) hs) rfl
def so(d:ak)(x:ab):Nat→ab→List ab→List ab
 |0,_,out=>out
 |n+1,y,out=>if y=x then out else so d x n ((IB d y).getD zD) (out++[y])
def bh(d:ak)(x:ab):List ab:=match IB d x with
 |none=>[]
 |some y=>so d x 81 y [x]
theorem ajW(hG:HG G)(d:ak)(x:ab)(hs:Sm d):FX G 210 Jx ((d,x,()),())=some ((bh d x,()),()):=by
 refine aw (hG _ _ rfl) ais ?_;refine aa (aeJ hG d x hs) ?_;unfold bh
 cases hp:IB d x with
 |none=>rfl
 |some y =>
  have h5:aL ([]:List ab).length [x].length=true:=fits (by simp);have loop:∀(n:Nat) (y:ab) (out:List ab),out.length+n=82→LX G 210 Jx Tryz.f210 CF (aM Tryz.prog 210 0) ((),((d,()),((x,()),((y,()),()))),(out,()))=some ((so d x n y out,()),()):=by
   intro n
   induction n with
   |zero =>
    intro y out ho;refine au Tl ?_;have h1:decide (((out.length:Nat):Int)<82)=false:=by simp;omega
    simp only[lO,h1];by_cases hy:y=x
    ·have d1:=decide_eq_true hy;simp only[d1];rfl
    ·have d1:=decide_eq_false hy;simp only[d1];rfl
   |succ n ih =>
    intro y out ho;refine au Tl ?_;have h1:decide (((out.length:Nat):Int)<82)=true:=by simp;omega
    have h6:aL out.length [y].length=true:=fits (by simp;omega);simp only[lO,h1,h6];rw[so];by_cases hy:y=x
    ·have d1:=decide_eq_true hy;rw[if_pos hy];simp only[d1];rfl
    ·have d1:=decide_eq_false hy;rw[if_neg hy];simp only[d1];refine aa (aeJ hG d y hs) ?_;rw[show(Kp (IB d y)).1=(IB d y).getD zD from A6 _];exact ih ((IB d y).getD zD) (out++[y]) (by simp;omega)
  exact loop 81 y [x] (by simp)
theorem Ga(d:ak)(x:ab):∀(n:Nat) (y:ab) (out:List ab),(so d x n y out).length≤out.length+n
 |0,_,out=>abX _
 |n+1,y,out=>by
  unfold so
  split
  ·omega
  ·have:=Ga d x n ((IB d y).getD zD) (out++[y]);simp at this;omega
theorem Gb(d:ak)(x:ab):(bh d x).length≤82:=by
 grind [bh,IB,Ga]
def eT:List aj→List ab
 |[]=>[]
 |e::r=>(e.1,0)::(e.1,1)::eT r
theorem mP:∀l:List aj,(eT l).length=2*l.length
 |[]=>rfl
 |e::r=>by simp[eT,mP r];omega
theorem ajX(hG:G 209 Hv=none)(d:ak)(hs:Sm d):FX G 209 Hv ((d,()),())=some ((eT d.2,()),()):=by have he:=hs.e;refine aw hG aiX ?_;have key:=br d.2 (fun i (s:List ab)=>LX G 209 Hv Tryz.f209 CU (aM Tryz.prog 209 0) ((i,()),(((d,()),()),(s,())))) (fun(r:List aj) (s:List ab)=>((s++eT r,()),())) (fun n s=>s.length+2*n≤2*d.2.length) (fun s _=>by refine au TM ?_;simp only[cK,eT,List.append_nil];rfl) (fun i y r s hi hx xF hs ih=>by refine au TM ?_;have h6:aL s.length [((y.1,(0:Int)):ab),(y.1,(1:Int))].length=true:=fits (by simp;omega);simp only[aR hi,aG hx,Option.bind_some,h6,aB hi (show d.2.length≤1073741824 by omega)];have:=ih (s++[(y.1,0),(y.1,1)]) (by simp;omega);refine this.trans (congrArg (fun l:List ab=>some ((l,()),())) ?_);simp[eT]) [] (by simp);exact key
def iL(d:ak):List ab→List (List ab)→List ab→List (List ab)
 |[],out,_=>out
 |x::r,out,told=>if x∈told then iL d r out told else iL d r (out++[bh d x]) (told++bh d x)
def bU(d:ak):List (List ab):=iL d (eT d.2) [] []
theorem ajY(hG:HG G)(d:ak)(hs:Sm d)(he:d.2.length≤5000000):FX G 185 Jy ((d,()),())=some ((bU d,()),()):=by
 refine aw (hG _ _ rfl) aiA ?_;refine aa (ajX (hG _ _ rfl) d hs) ?_;have Kc:=mP d.2;unfold bU;generalize eT d.2=ds at *;have key:=br ds (fun i (s:List (List ab)×List ab)=>LX G 185 Jy Tryz.f185 yn (aM Tryz.prog 185 0) ((i,()),(((d,()),()),(s.1,(s.2,(ds,())))))) (fun(r:List ab) (s:List (List ab)×List ab)=>((iL d r s.1 s.2,()),())) (fun n s=>s.1.length+n≤ds.length∧s.2.length+82*n≤82*ds.length) (fun s _=>by refine au Tt ?_;simp only[cK];rfl) (fun i y r s hi hx xF hs' ih=>by
   obtain⟨out,told⟩:=s;obtain⟨b1,b2⟩:=hs';simp only at b1 b2;refine au Tt ?_;simp only[aR hi,fj,Bool.and_self,Int.toNat_natCast,hx,Option.bind_some,aB hi (show ds.length≤1073741824 by omega)];refine aa (HR (hG _ _ rfl) told y (by omega)) ?_;rw[iL];by_cases hm:y∈told
   ·have d1:decide (idx y told 0≥0)=true:=decide_eq_true (by grind [eg]);rw[if_pos hm];simp only[d1];exact ih (out,told) ⟨by grind,by grind⟩
   ·have d1:decide (idx y told 0≥0)=false:=decide_eq_false (by simp_all [eR]);rw[if_neg hm];simp only[d1];refine aa (ajW hG d y hs) ?_;have htl:=Gb d y;have h6:aL out.length [bh d y].length=true:=fits (by simp;omega);have h7:aL told.length (bh d y).length=true:=fits (by omega);simp only[h6,h7];exact ih (out++[bh d y],told++bh d y) ⟨by simp;omega,by simp;omega⟩)
  ([],[]) ⟨by simp,by simp⟩
 exact key
end Go.Vs
