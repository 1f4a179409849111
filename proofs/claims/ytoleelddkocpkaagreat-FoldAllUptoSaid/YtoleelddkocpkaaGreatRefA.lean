/- What the document's reference -/
import Derived.Test.YtoleelddkocpkaaGreatNormalA
import Derived.Test.YtoleelddkocpkaaGreatNormalB
import Derived.Test.YtoleelddkocpkaaGreatNormalC
set_option linter.unusedVariables false
set_option linter.unusedSimpArgs false
namespace Go.Vs
open Go.Proofs
variable {G:(f:FuncId)→(g:aP)→Option (g.A→Option g.B)}
theorem aa{α β:Type}{o:Option α}{f:α→Option β}{a:α}{r:Option β}(h:o=some a)(k:f a=r):o.bind f=r:=by simp_all
theorem aw{α:Type}{l:List α}{i:Nat}{x:α}(h:l[i]? = some x):aR l (i:Int)=some x:=by
 grind [List.getElem?_eq_some_iff,aR]
theorem wrap_small{n:Int}(h0 : -9223372036854775808≤n)(h1:n<9223372036854775808):IntKind.wrap .i64 n=n:=by
 grind [IntKind.wrap,IntKind.bits,IntKind.signed]
theorem aA{i n:Nat}(h:i<n)(hn:n≤1073741824):IntKind.wrap .i64 ((i:Int)+1)=((i+1:Nat):Int):=by
 grind [wrap_small]
theorem aN{i n:Nat}(h:i<n):decide ((i:Int)<((n:Nat):Int))=true:=by simpa using h
theorem bX(n:Nat):decide (((n:Nat):Int)<((n:Nat):Int))=false:=by simp
theorem fits{n m:Nat}(h:n+m≤1073741824):aK n m=true:=decide_eq_true h
theorem j5(a b:ID):((a.1==b.1)&&(a.2==b.2))=decide (a=b):=by
 grind
theorem lJ(a b:ae):(((a.1.1==b.1.1)&&(a.1.2==b.1.2))&&(a.2==b.2))=decide (a=b):=by
 grind
theorem abM(a b:ByteArray):(a==b)=decide (a=b):=by
 obtain⟨a⟩:=a;obtain⟨b⟩:=b;show(a==b)=_
 grind
theorem bf{α S R:Type}(l:List α)(L:Int→S→Option R)(g:List α→S→R)(inv:Nat→S→Prop) (ap8:∀s,inv 0 s→L ((l.length:Nat):Int) s=some (g [] s)) (afz:∀(i:Nat) (x:α) (r:List α) (s:S),i<l.length→l[i]? = some x→i+r.length+1=l.length→inv (r.length+1) s→(∀s',inv r.length s'→L ((i+1:Nat):Int) s'=some (g r s'))→L (i:Int) s=some (g (x::r) s)) :
  ∀s,inv l.length s→L 0 s=some (g l s):=by
 have key:∀(r p:List α),p++r=l→∀s,inv r.length s→L ((p.length:Nat):Int) s=some (g r s):=by
  intro r
  induction r with
  |nil=>simp_all
  |cons x r ih =>
   intro p hp s hs;refine afz p.length x r s ?_ ?_ ?_ hs (fun s' hs' => ?_)
   ·grind
   ·grind
   ·grind
   ·have:=ih (p++[x]) (by simp[hp]) s' hs';simp_all
 intro s hs;exact key l [] rfl s hs
def zD:ae:=((0,0),0)
def cr(x:ID):Bool:=decide (1≤x.1∧x.1≤8∧1≤x.2∧x.2≤1048576)
def fL(a b:ID):Bool:=decide (a.1<b.1∨(a.1=b.1∧a.2<b.2))
def rI(a b:ID):Int:=if a=b then 0 else if fL a b then -1 else 1
def mf(a b:ae):Bool:=fL a.1 b.1 || (decide (a.1=b.1)&&decide (a.2<b.2))
def pC(a b:ae):Int:=if a=b then 0 else if mf a b then -1 else 1
def ou(d:ae):Bool:=cr d.1&&decide (d.2=0∨d.2=1)
theorem Fw(hG:G 104 A8=none)(x:ID):FX G 104 A8 ((x,()),())=some ((cr x,()),()):=by
 refine av hG ajU ?_;obtain⟨a,b⟩:=x;show(cond (decide (a≥1)) (cond (decide (a≤8)) (cond (decide (b≥1)) (some ((decide (b≤1048576),()),())) (some ((false,()),()))) (some ((false,()),()))) (some ((false,()),())):Option ((Bool×Unit)×Unit))=some ((cr (a,b),()),());unfold cr
 grind
theorem abN(hG:G 131 Fm=none)(d:ae):FX G 131 Fm ((d,()),())=some (((d.1,IntKind.wrap .i64 (1-d.2)),()),()) :=av hG ajY rfl
theorem Vn(hG:G 105 Iu=none)(a b:ID):FX G 105 Iu ((a,b,()),())=some ((rI a b,()),()):=by
 refine av hG akE ?_;obtain⟨a1,a2⟩:=a;obtain⟨b1,b2⟩:=b;unfold rI fL;show(cond ((a1==b1)&&(a2==b2)) (some (((0:Int),()),())) (cond (decide (a1<b1)) (some (((-1:Int),()),())) (cond (a1==b1) (cond (decide (a2<b2)) (some (((-1:Int),()),())) (some (((1:Int),()),()))) (some (((1:Int),()),())))):Option ((Int×Unit)×Unit))=some (((if(a1,a2)=(b1,b2) then 0 else if(decide (a1<b1∨(a1=b1∧a2<b2)))=true then -1 else 1:Int),()),())
 grind
theorem afA(hG:HG G)(a b:ae):FX G 75 Rc ((a,b,()),())=some ((pC a b,()),()):=by
 refine av (hG _ _ rfl) akw ?_;refine aa (Vn (hG _ _ rfl) a.1 b.1) ?_;obtain⟨a1,a2⟩:=a;obtain⟨b1,b2⟩:=b;show(cond (rI a1 b1 != 0) (some ((rI a1 b1,()),())) (cond (decide (a2<b2)) (some (((-1:Int),()),())) (cond (decide (a2>b2)) (some (((1:Int),()),())) (some (((0:Int),()),())))):Option ((Int×Unit)×Unit))=some ((pC (a1,a2) (b1,b2),()),());unfold pC mf rI;simp only[cond_eq_ite]
 grind [fL]
theorem alp(hG:HG G)(d:ae):FX G 74 T2 ((d,()),())=some ((ou d,()),()):=by
 refine av (hG _ _ rfl) ak2 ?_;refine aa (Fw (hG _ _ rfl) d.1) ?_;obtain⟨d1,d2⟩:=d;show(cond (cr d1) (cond (d2==0) (some ((true,()),())) (some (((d2==1),()),()))) (some ((false,()),())):Option ((Bool×Unit)×Unit))=some ((ou (d1,d2),()),());unfold ou
 grind
def idx(d:ae):List ae→Int→Int
 |[],_ => -1
 |e::r,i=>if e=d then i else idx d r (i+1)
theorem alq(row:List ae)(d:ae)(hl:row.length≤1073741824):∀(n i:Nat),i+n=row.length→LX G 170 su Tryz.f170 Dq (aF Tryz.prog 170 0) ((row,((i:Int),())),(((d,()),()),()))=some ((idx d (row.drop i) i,()),()):=by
 intro n
 induction n with
 |zero =>
  intro i hi;refine ar Ub ?_;have h1:¬((i:Int)<(row.length:Int)):=by omega
  have h2:row.drop i=[]:=adm (by omega);simp only[h1,h2,decide_false,cond_false,idx];rfl
 |succ n ih =>
  intro i hi;refine ar Ub ?_;have aH:i<row.length:=by omega
  have h1:((i:Int)<(row.length:Int)):=by omega
  have h2:row.drop i=row[i]::row.drop (i+1):=ac8 aH;have h3:aR row (i:Int)=some row[i]:=by simp[aR,aH]
  have h4:IntKind.wrap .i64 ((i:Int)+1)=((i+1:Nat):Int):=by grind [wrap_small]
  have h5:=ih (i+1) (by omega);rw[h2,idx];simp only[h1,decide_true,cond_true,h3,Option.bind_some,h4,lJ];by_cases he:row[i]=d
  ·rw[if_pos he];simp only[he,decide_true];rfl
  ·rw[if_neg he];simp only[he,decide_false];exact h5
theorem IQ(hG:G 170 su=none)(row:List ae)(d:ae)(hl:row.length≤1073741824):FX G 170 su ((row,d,()),())=some ((idx d row 0,()),()):=by refine av hG ajZ ?_;exact alq (G:=G) row d hl row.length 0 (by omega)
theorem pG(d:ae):∀(row:List ae) (i:Int),0≤i→(idx d row i = -1∧d∉row)∨(∃k:Nat,idx d row i=i+k∧row[k]? = some d∧d∉row.take k)
 |[],i,_=>.inl ⟨rfl,by simp⟩
 |e::r,i,h=>by
  unfold idx;by_cases he:e=d
  ·right;exact⟨0,by simp[he],by simp[he],by simp⟩
  ·rw[if_neg he];rcases pG d r (i+1) (by omega) with⟨h1,h2⟩|⟨k,h1,h2,h3⟩
   ·grind
   ·exact .inr ⟨k+1,by rw[h1];omega,by simpa using h2,by grind⟩
theorem eU{d:ae}{row:List ae}:idx d row 0<0↔d∉row:=by
 grind [pG,List.mem_of_getElem?]
theorem eu{d:ae}{row:List ae}(h:d∈row):∃k:Nat,idx d row 0=k∧row[k]? = some d∧d∉row.take k:=by
 rcases pG d row 0 (by omega) with⟨_,h2⟩|⟨k,h1,h2,h3⟩
 ·simp_all
 grind
theorem xS{α:Type}[DecidableEq α]:∀(a b:List α),a.length=b.length→(a.zip b).all (fun p=>decide (p.1=p.2))=decide (a=b)
 |[],[],_=>by simp
 |[],_::_,h=>by simp at h
 |_::_,[],h=>by simp at h
 |x::a,y::b,h=>by simp_all [List.zip_cons_cons,List.all_cons,xS,Bool.eq_iff_iff]
theorem BP{α:Type}{a b:List α}{i:Nat}{x:α×α}(h:(a.zip b)[i]? = some x):a[i]? = some x.1∧b[i]? = some x.2:=by
 grind
theorem afB(hG:HG G)(a b:List ae)(ha:a.length≤1073741824):FX G 63 Ip ((a,b,()),())=some ((decide (a=b),()),()):=by
 refine av (hG _ _ rfl) akr ?_;by_cases hl:a.length=b.length
 case neg =>
  have h1:((((a.length:Nat):Int)) != ((b.length:Nat):Int))=true:=by simp;omega
  have h2:¬a=b:=fun e=>hl (by rw[e]);simp only[h1,h2,decide_false];rfl
 have h1:((((a.length:Nat):Int)) != ((b.length:Nat):Int))=false:=by simp[hl]
 simp only[h1];have Mh:(a.zip b).length=a.length:=by simp[hl]
 have key:=bf (a.zip b) (fun i (_:Unit)=>LX G 63 Ip Tryz.f63 DE (aF Tryz.prog 63 0) ((a,(b,(i,()))),((),()))) (fun r _=>((r.all (fun p=>decide (p.1=p.2)),()),())) (fun _ _=>True) (fun s _=>by refine ar Uw ?_;rw[Mh];simp only[bX,cond_false];rfl) (fun i x r s hi hx hr _ ih=>by
   rw[Mh]at hi;obtain⟨h3,h4⟩:=BP hx;refine ar Uw ?_;simp only[aN hi,cond_true,aw h3,aw h4,Option.bind_some,lJ,aA hi ha];by_cases he:x.1=x.2
   ·simp only[he,decide_true,Bool.not_true,cond_false,List.all_cons,Bool.true_and];exact ih () trivial
   ·simp only[he,decide_false,Bool.not_false,cond_true,List.all_cons,Bool.false_and];rfl)
  () trivial
 rw[xS a b hl]at key;exact key
def dw(row:List ae)(d:ae)(by_:Nat):Option ae:=if d∈row then row[((idx d row 0).toNat+by_)%row.length]? else none
def Le:Option ae→ae×(Bool×Unit)
 |some y=>(y,(true,()))
 |none=>(zD,(false,()))
theorem sL(a n:Nat):Int.tmod (a:Int) (n:Int)=((a%n:Nat):Int):=by rfl
theorem IS{row:List ae}{d:ae}(h:d∈row):((((row.length:Nat):Int))==0)=false:=by
 grind
theorem afC(hG:HG G)(row:List ae)(d:ae)(hl:row.length≤1073741824):FX G 175 QY ((row,d,()),())=some (Le (dw row d (row.length-1)),()):=by
 refine av (hG _ _ rfl) aj0 ?_;refine aa (IQ (hG _ _ rfl) row d hl) ?_;by_cases h:d∈row
 ·obtain⟨k,h1,h2,h3⟩:=eu h;have hk:=(abJ.1 h2).1;have hm:(k+(row.length-1))%row.length<row.length:=adp _ (by omega);have e1:IntKind.wrap .i64 (IntKind.wrap .i64 ((k:Int)+((row.length:Nat):Int))-1)=((k+(row.length-1):Nat):Int):=by
   grind [wrap_small]
  have e2:¬((k:Int)<0):=by omega
  have e4:row[(k+(row.length-1))%row.length]? = some row[(k+(row.length-1))%row.length]:=aby hm;have e3:dw row d (row.length-1)=some row[(k+(row.length-1))%row.length]:=by simp_all [dw,if_pos]
  rw[e3];simp only[h1,e2,decide_false,cond_false,IS h,e1,sL,aw e4,Option.bind_some];rfl
 ·have h1:=eU.2 h;have e3:dw row d (row.length-1)=none:=by unfold dw;rw[if_neg h]
  rw[e3];simp only[h1,decide_true,cond_true];rfl
theorem afD(hG:HG G)(row:List ae)(d:ae)(hl:row.length≤1073741824):FX G 243 KC ((row,d,()),())=some (Le (dw row d 1),()):=by
 refine av (hG _ _ rfl) aek ?_;refine aa (IQ (hG _ _ rfl) row d hl) ?_;by_cases h:d∈row
 ·obtain⟨k,h1,h2,h3⟩:=eu h;have hk:=(abJ.1 h2).1;have hm:(k+1)%row.length<row.length:=adp _ (by omega);have e1:IntKind.wrap .i64 ((k:Int)+1)=((k+1:Nat):Int):=by
   grind [wrap_small]
  have e2:¬((k:Int)<0):=by omega
  have e4:row[(k+1)%row.length]? = some row[(k+1)%row.length]:=aby hm;have e3:dw row d 1=some row[(k+1)%row.length]:=by simp_all [dw,if_pos]
  rw[e3];simp only[h1,e2,decide_false,cond_false,IS h,e1,sL,aw e4,Option.bind_some];rfl
 ·have h1:=eU.2 h;have e3:dw row d 1=none:=by unfold dw;rw[if_neg h]
  rw[e3];simp only[h1,decide_true,cond_true];rfl
def fM(row:List ae):List ae→Nat→Nat→Nat
 |[],_,k=>k
 |x::r,i,k=>if pC x (row.getD k zD)<0 then fM row r (i+1) i else fM row r (i+1) k
def E1(row:List ae)(k:Nat):List ae:=row.drop k++row.take k
def cc(row:List ae):List ae:=E1 row (fM row row 0 0)
theorem nS(row:List ae):∀(r:List ae) (i k:Nat),k<row.length→i+r.length=row.length→fM row r i k<row.length
 |[],_,k,hk,_=>hk
 |x::r,i,k,hk,hi=>by
  unfold fM;simp at hi
  split
  ·exact nS row r (i+1) i (by omega) (by omega)
  ·exact nS row r (i+1) k hk (by omega)
theorem D1(row:List ae)(k:Nat):(E1 row k).length=row.length:=by grind [E1]
theorem jy(row:List ae):(cc row).length=row.length:=D1 _ _
theorem YB{row:List ae}{k:Nat}{d:ae}:d∈E1 row k↔d∈row:=by unfold E1;rw[List.mem_append,or_comm,←List.mem_append,List.take_append_drop]
theorem pH{row:List ae}{d:ae}:d∈cc row↔d∈row:=YB
theorem O7{row:List ae}{k i:Nat}(hk:k≤row.length)(hi:i<row.length):(E1 row k)[i]? = row[(k+i)%row.length]? := by
 unfold E1;by_cases h:k+i<row.length
 ·rw[List.getElem?_append_left (by simp;omega),List.getElem?_drop,Nat.mod_eq_of_lt h]
 ·rw[List.getElem?_append_right (by simp;omega),List.length_drop,List.getElem?_take,if_pos (by omega)];congr 1;have:(k+i)%row.length=k+i-row.length:=by rw[Nat.mod_eq_sub_mod (by omega),Nat.mod_eq_of_lt (by omega)]
  omega
theorem abO(row:List ae)(k:Nat)(hl:row.length≤100000000)(hk:k≤row.length):∀(n i:Nat) (out T:List ae),i+n=row.length→T=E1 row k→out=T.take i → LX G 132 qC Tryz.f132 DI (aF Tryz.prog 132 1) ((row,((k:Int),((i:Int),()))),((),(out,())))=some ((T,()),()):=by
 intro n
 induction n with
 |zero =>
  intro i out T hi hT ho;refine ar UF ?_;have h1:¬((i:Int)<(row.length:Int)):=by omega
  have h2:out=T:=by grind [List.take_of_length_le,D1]
  subst h2;simp only[h1,decide_false];rfl
 |succ n ih =>
  intro i out T hi hT ho;refine ar UF ?_;have aH:i<row.length:=by omega
  have hm:(k+i)%row.length<row.length:=adp _ (by omega);have h3:row[(k+i)%row.length]? = some row[(k+i)%row.length]:=aby hm;have h0:((((row.length:Nat):Int))==0)=false:=by grind
  have h4:IntKind.wrap .i64 ((k:Int)+(i:Int))=((k+i:Nat):Int):=by rw[wrap_small (by omega) (by omega)];rfl
  have hol:out.length≤row.length:=by rw[ho,hT];simp;omega
  have h5:aK out.length [row[(k+i)%row.length]].length=true:=fits (by simp;omega);have h6:out++[row[(k+i)%row.length]]=T.take (i+1):=by simp_all [List.take_add_one,O7]
  have h7:=ih (i+1) (out++[row[(k+i)%row.length]]) T (by omega) hT h6;simp only[aN aH,h0,h4,sL,aw h3,Option.bind_some,h5,aA aH (show row.length≤1073741824 by omega)];exact h7
theorem abP(hG:HG G)(row:List ae)(hl:row.length≤100000000):∀(n i k:Nat),i+n=row.length→(k<row.length∨(row=[]∧k=0)) → LX G 132 qC Tryz.f132 zg (aF Tryz.prog 132 0) ((row,((k:Int),((i:Int),()))),((),()))=some ((E1 row (fM row (row.drop i) i k),()),()):=by
 intro n
 induction n with
 |zero =>
  intro i k hi hk;refine ar UE ?_;have h1:¬((i:Int)<(row.length:Int)):=by omega
  have h2:row.drop i=[]:=adm (by omega);simp only[h1,h2,decide_false,cond_false,fM];exact abO (G:=G) row k hl (by omega) row.length 0 [] (E1 row k) (by omega) rfl (by simp)
 |succ n ih =>
  intro i k hi hk;refine ar UE ?_;have aH:i<row.length:=by omega
  have uc:k<row.length:=hk.resolve_right (by grind);have h2:row.drop i=row[i]::row.drop (i+1):=ac8 aH;have h3:row[i]? = some row[i]:=aby aH;have h4:row[k]? = some row[k]:=aby uc;have h5:row.getD k zD=row[k]:=by simp_all
  simp only[aN aH,cond_true,aw h3,aw h4,Option.bind_some,aA aH (show row.length≤1073741824 by omega)];refine aa (afA hG row[i] row[k]) ?_;rw[h2,fM,h5];by_cases ho:pC row[i] row[k]<0
  ·rw[if_pos ho];simp only[ho,decide_true];exact ih (i+1) i (by omega) (.inl aH)
  ·rw[if_neg ho];simp only[ho,decide_false];exact ih (i+1) k (by omega) (.inl uc)
theorem IT(hG:HG G)(row:List ae)(hl:row.length≤100000000):FX G 132 qC ((row,()),())=some ((cc row,()),()):=by refine av (hG _ _ rfl) akM ?_;have:=abP (G:=G) hG row hl row.length 0 0 (by omega) (by grind);exact this
def nu(row:List ae)(after d:ae):List ae :=if d∈row then cc row else cc (row.take ((max 0 (idx after row 0)).toNat+1)++(d::row.drop ((max 0 (idx after row 0)).toNat+1)))
def iL(row:List ae)(d:ae):List ae:=cc (row.filter fun e=>decide (e≠d))
def fm(row:List ae)(cH d:ae):List ae:=cc (if cH∈row∧d∉row then row.set (idx cH row 0).toNat d else row)
theorem afE(hG:HG G)(row:List ae)(d:ae)(hl:row.length≤100000000):FX G 176 AD ((row,d,()),())=some ((iL row d,()),()):=by
 refine av (hG _ _ rfl) aei ?_;have key:=bf row (fun i (s:List ae)=>LX G 176 AD Tryz.f176 tR (aF Tryz.prog 176 0) ((row,(i,())),(((d,()),()),(s,())))) (fun r s=>((cc (s++r.filter fun e=>decide (e≠d)),()),())) (fun n s=>s.length+n≤row.length) (fun s hs=>by refine ar Oy ?_;simp only[bX,cond_false];refine aa (IT hG s (by omega)) ?_;simp only[List.filter_nil,List.append_nil];rfl) (fun i x r s hi hx hr hs ih=>by
   refine ar Oy ?_;simp only[aN hi,cond_true,aw hx,Option.bind_some,lJ,aA hi (show row.length≤1073741824 by omega)];by_cases he:x=d
   ·grind
   ·have h5:aK s.length [x].length=true:=fits (by simp;omega)
    grind)
  [] (by simp)
 exact key
theorem afF(hG:HG G)(row:List ae)(after d:ae)(hl:row.length≤90000000):FX G 172 AB ((row,after,d,()),())=some ((nu row after d,()),()):=by
 refine av (hG _ _ rfl) aeg ?_;refine aa (IQ (hG _ _ rfl) row d (by omega)) ?_;by_cases hd:d∈row
 case pos =>
  have h1:¬idx d row 0<0:=fun h=>eU.1 h hd;have h2:idx d row 0≥0:=by omega
  simp only[h2,decide_true,cond_true];refine aa (IT hG row (by omega)) ?_;unfold nu;rw[if_pos hd];rfl
 case neg =>
 have h1:¬idx d row 0≥0:=by simp_all [eU]
 simp only[h1,decide_false,cond_false];refine aa (IQ (hG _ _ rfl) row after (by omega)) ?_;obtain⟨k,hk⟩:∃k:Nat,max 0 (idx after row 0)=(k:Int):=⟨(max 0 (idx after row 0)).toNat,by omega⟩;have Xs:k<row.length∨row=[]:=by
  rcases pG after row 0 (by omega) with⟨e,_⟩|⟨q,e,e2,_⟩
  ·have:k=0:=by omega
   subst this
   grind
  grind
 have w6:nu row after d=cc (row.take (k+1)++(d::row.drop (k+1))):=by simp_all [nu,if_neg]
 rw[w6];simp only[hk];obtain⟨fin,jk⟩:∃fin,fin=row.take (k+1)++(d::row.drop (k+1)):=⟨_,rfl⟩;rw[←jk];have loop:∀(n i:Nat) (out:List ae),i+n=row.length→out=(if i≤k then row.take i else(row.take (k+1)++[d])++(row.drop (k+1)).take (i-(k+1))) →
   LX G 172 AB Tryz.f172 tQ (aF Tryz.prog 172 0) ((row,((k:Int),((i:Int),()))),(((d,()),()),(out,())))=some ((cc fin,()),()):=by
  intro n
  induction n with
  |zero =>
   intro i out hi CN;refine ar Ow ?_;have h1:¬((i:Int)<(row.length:Int)):=by omega
   rcases Xs with Xs|rfl
   ·have h0:((((row.length:Nat):Int))==0)=false:=by grind
    have h2:out=fin:=by
     have hle:(row.drop (k+1)).take (i-(k+1))=row.drop (k+1):=List.take_of_length_le (by simp_all)
     grind
    subst h2;simp only[h1,decide_false,h0];exact aa (IT hG out (by grind)) rfl
   ·have hi0:i=0:=by simpa using hi
    subst hi0;have h2:out=[]:=by simp_all
    subst h2;have h3:fin=[d]:=by grind
    subst h3;exact aa (IT hG [d] (by simp)) rfl
  |succ n ih =>
   intro i out hi CN;refine ar Ow ?_;have aH:i<row.length:=by omega
   have hx:row[i]? = some row[i]:=aby aH;have hol:out.length≤row.length+1:=by rw[CN];split<;>simp<;>omega
   have h5:aK out.length [row[i]].length=true:=fits (by simp;omega);simp only[aN aH,aw hx,Option.bind_some,aA aH (show row.length≤1073741824 by omega),h5];by_cases hik:i=k
   ·subst hik;have h6:aK (out++[row[i]]).length [d].length=true:=fits (by simp;omega);have h8:(((i:Nat):Int)==((i:Nat):Int))=true:=by simp
    simp only[h8,h6];exact ih (i+1) ((out++[row[i]])++[d]) (by omega) (by simp_all)
   ·have h8:(((i:Nat):Int)==((k:Nat):Int))=false:=by simp;omega
    simp only[h8];refine ih (i+1) (out++[row[i]]) (by omega) ?_;rw[CN];by_cases hle:i≤k
    ·rw[if_pos hle,if_pos (by omega),List.take_add_one,hx];rfl
    ·have e9:(row.drop (k+1)).take (i+1-(k+1))=(row.drop (k+1)).take (i-(k+1))++[row[i]]:=by rw[show i+1-(k+1)=(i-(k+1))+1 by omega,List.take_add_one,List.getElem?_drop,show k+1+(i-(k+1))=i by omega,hx];rfl
     grind
 exact loop row.length 0 [] (by omega) (by simp)
theorem afG(hG:HG G)(row:List ae)(cH d:ae)(hl:row.length≤100000000):FX G 177 KB ((row,cH,d,()),())=some ((fm row cH d,()),()):=by
 refine av (hG _ _ rfl) aej ?_;have h5:aK ([]:List ae).length row.length=true:=fits (by simp;omega);simp only[h5,cond_true,List.nil_append];refine aa (IQ (hG _ _ rfl) row cH (by omega)) ?_;unfold fm;by_cases ho:cH∈row
 ·obtain⟨k,h1,h2,h3⟩:=eu ho;have hk:=(abJ.1 h2).1;have e1:((k:Int)≥0):=by omega
  simp only[h1,e1,decide_true];refine aa (IQ (hG _ _ rfl) row d (by omega)) ?_;by_cases hd:d∈row
  ·have h6:¬idx d row 0<0:=fun h=>eU.1 h hd;rw[if_neg (by simp[hd])];simp only[h6,decide_false];exact aa (IT hG row hl) rfl
  ·have h6:=eU.2 hd;rw[if_pos ⟨ho,hd⟩];have h7:(0:Int)≤(k:Int):=by omega
   have h8:((k:Int)<((row.length:Nat):Int)):=by omega
   simp only[h6,decide_true,h7,h8,Bool.and_self,Int.toNat_natCast,h2];exact aa (IT hG (row.set k d) (by simpa using hl)) rfl
 ·have h1:¬idx cH row 0≥0:=by simp_all [eU]
  rw[if_neg (by simp[ho])];simp only[h1,decide_false];exact aa (IT hG row hl) rfl
def e0:ByteArray:=⟨#[]⟩
def zI:ID:=(0,0)
def zV:ai:=((0,0),([],(e0,0)))
def zE:ak:=((0,0),(e0,0))
def aT(l:List ai)(x:ID):Option ai:=l.find? fun v=>decide (v.1=x)
def aY(l:List ak)(x:ID):Option ak:=l.find? fun v=>decide (v.1=x)
def br(d:an)(x:ID):Option ai:=aT d.1 x
def gN(d:an)(x:ID):Option ak:=aY d.2 x
def E2(l:List ai)(x:ae):Option ID:=(l.find? fun v=>decide (x∈v.2.1)).map (·.1)
def cg(d:an)(x:ae):Option ID:=E2 d.1 x
def qL{α:Type}(z:α):Option α→α×(Bool×Unit)
 |some y=>(y,(true,()))
 |none=>(z,(false,()))
theorem Fx(hG:G 87 rE=none)(d:an)(x:ID)(hl:d.1.length≤100000000):FX G 87 rE ((d,x,()),())=some (qL zV (br d x),()):=by
 refine av hG ajT ?_;have IU:=bf d.1 (fun i (_:Unit)=>LX G 87 rE Tryz.f87 Dl (aF Tryz.prog 87 0) ((i,()),(((d,()),((x,()),(((0:Int),((0:Int),(([]:List ae),(e0,((0:Int),()))))),()))),()))) (fun(r:List ai) (_:Unit)=>(qL zV (aT r x),())) (fun _ _=>True) (fun s _=>by refine ar T7 ?_;simp only[bX,cond_false];rfl) (fun i y r s hi hx hr _ ih=>by
   refine ar T7 ?_;simp only[aN hi,cond_true,aw hx,Option.bind_some,j5,aA hi (show d.1.length≤1073741824 by omega)];by_cases he:y.1=x
   ·simp only[he,decide_true,aT,aY,List.find?_cons];subst he;rfl
   ·simp only[he,decide_false,aT,aY,List.find?_cons];exact ih () trivial)
  () trivial
 exact IU
theorem Vo(hG:G 123 yX=none)(d:an)(x:ID)(hl:d.2.length≤100000000):FX G 123 yX ((d,x,()),())=some (qL zE (gN d x),()):=by
 refine av hG ajW ?_;have IU:=bf d.2 (fun i (_:Unit)=>LX G 123 yX Tryz.f123 Dn (aF Tryz.prog 123 0) ((i,()),(((d,()),((x,()),(((((0:Int),(0:Int)),(e0,(0:Int))),()),()))),()))) (fun(r:List ak) (_:Unit)=>(qL zE (aY r x),())) (fun _ _=>True) (fun s _=>by refine ar T9 ?_;simp only[bX,cond_false];rfl) (fun i y r s hi hx hr _ ih=>by
   refine ar T9 ?_;simp only[aN hi,cond_true,aw hx,Option.bind_some,j5,aA hi (show d.2.length≤1073741824 by omega)];by_cases he:y.1=x
   ·simp only[he,decide_true,aT,aY,List.find?_cons];subst he;rfl
   ·simp only[he,decide_false,aT,aY,List.find?_cons];exact ih () trivial)
  () trivial
 exact IU
theorem Lf(hG:HG G)(d:an)(x:ae)(hl:d.1.length≤100000000)(hr:∀v∈d.1,v.2.1.length≤100000000):FX G 174 vO ((d,x,()),())=some (qL zI (cg d x),()):=by
 refine av (hG _ _ rfl) ajV ?_;have IU:=bf d.1 (fun i (_:Unit)=>LX G 174 vO Tryz.f174 Dm (aF Tryz.prog 174 0) ((i,()),(((d,()),((x,()),((((0:Int),(0:Int)),()),()))),()))) (fun r _=>(qL zI (E2 r x),())) (fun _ _=>True) (fun s _=>by refine ar T8 ?_;simp only[bX,cond_false];rfl) (fun i y r s hi hx uN _ ih=>by
   refine ar T8 ?_;simp only[aN hi,cond_true,aw hx,Option.bind_some,aA hi (show d.1.length≤1073741824 by omega)];refine aa (IQ (hG _ _ rfl) y.2.1 x (by grind)) ?_;by_cases he:x∈y.2.1
   ·have h1:idx x y.2.1 0≥0:=by grind [eu]
    simp only[h1,decide_true,E2,List.find?_cons,he];rfl
   ·have h1:¬idx x y.2.1 0≥0:=by simp_all [eU]
    simp only[h1,decide_false,E2,List.find?_cons,he];exact ih () trivial)
  () trivial
 exact IU
theorem afH(hG:G 12 Fp=none)(d:an)(hl:d.1.length≤100000000)(Ah:d.2.length≤100000000)(hr:∀v∈d.1,v.2.1.length≤100000000):FX G 12 Fp ((d,()),())=some (((d.1,(d.2,())),()),()):=by
 refine av hG aka ?_;have h5:aK ([]:List ak).length d.2.length=true:=fits (by simp;omega);simp only[h5,cond_true,List.nil_append];have IU:=bf d.1 (fun i (out:List ai)=>LX G 12 Fp Tryz.f12 Dy (aF Tryz.prog 12 0) ((i,()),(((d,()),((([]:List ai),(([]:List ak),())),((out,(d.2,())),()))),()))) (fun r s=>(((s++r,(d.2,())),()),())) (fun n s=>s.length+n≤d.1.length) (fun s _=>by refine ar Ui ?_;simp_all) (fun i y r s hi hx uN hs ih=>by
   refine ar Ui ?_;have h6:aK ([]:List ae).length y.2.1.length=true:=fits (by grind);have h7:aK s.length [(y.1,(y.2.1,y.2.2))].length=true:=fits (by simp;omega);simp only[aN hi,aw hx,Option.bind_some,h6,List.nil_append,h7,aA hi (show d.1.length≤1073741824 by omega)]
   grind)
  [] (by simp)
 exact IU
def cW(v:ai):List ai→List ai
 |[]=>[v]
 |w::r=>if fL v.1 w.1 then v::w::r else w::cW v r
def dB(v:ak):List ak→List ak
 |[]=>[v]
 |w::r=>if fL v.1 w.1 then v::w::r else w::dB v r
theorem b6(a:ID):fL a a=false:=by simp[fL]
theorem jQ(a b:ID):rI a b<0↔fL a b=true:=by
 unfold rI;by_cases h:a=b
 ·grind [b6]
 grind
theorem afI(hG:HG G)(d:an)(v:ai)(hl:d.1.length≤100000000):FX G 88 Im ((d,v,()),())=some (((cW v d.1,d.2),()),()):=by
 refine av (hG _ _ rfl) akg ?_;have key:=bf d.1 (fun i (s:Bool×List ai)=>LX G 88 Im Tryz.f88 vP (aF Tryz.prog 88 0) ((s.1,(i,())),(((d,()),((v,()),((([]:List ai),(([]:List ak),())),((s.2,(d.2,())),())))),()))) (fun r s=>(((s.2++(if s.1 then r else cW v r),d.2),()),())) (fun n s=>s.2.length+n≤d.1.length+(if s.1 then 1 else 0))
  (fun s hs=>by
   obtain⟨put,s⟩:=s;refine ar Ul ?_;have h7:aK s.length [v].length=true:=fits (by grind)
   cases put
   ·simp_all [bX,cW]
   simp_all)
  (fun i y r s hi hx uN hs ih=>by
   obtain⟨put,s⟩:=s;refine ar Ul ?_;have h6:aK s.length [y].length=true:=fits (by grind)
   cases put
   ·have h7:aK s.length [v].length=true:=fits (by grind);have h8:aK (s++[v]).length [y].length=true:=fits (by grind);simp only[aN hi,aw hx,Option.bind_some,aA hi (show d.1.length≤1073741824 by omega)];refine aa (Vn (hG _ _ rfl) v.1 y.1) ?_;by_cases ho:fL v.1 y.1=true
    ·have h9:=(jQ _ _).2 ho;have:=ih (true,(s++[v])++[y]) (by grind);simp only[h9,decide_true,h7,h8,cW,ho,if_true,Bool.false_eq_true,if_false];simp_all
    ·have h9:¬rI v.1 y.1<0:=fun h=>ho ((jQ _ _).1 h);have:=ih (false,s++[y]) (by grind);simp only[h9,decide_false,h6,cW,ho,if_false,Bool.false_eq_true];simp_all
   ·have:=ih (true,s++[y]) (by grind);simp only[aN hi,aw hx,Option.bind_some,aA hi (show d.1.length≤1073741824 by omega),h6,if_true];simp_all)
  (false,[]) (by simp)
 exact key
theorem afJ(hG:HG G)(d:an)(v:ak)(hl:d.2.length≤100000000):FX G 125 Bb ((d,v,()),())=some (((d.1,dB v d.2),()),()):=by
 refine av (hG _ _ rfl) akG ?_;have key:=bf d.2 (fun i (s:Bool×List ak)=>LX G 125 Bb Tryz.f125 vQ (aF Tryz.prog 125 0) ((s.1,(i,())),(((d,()),((v,()),((([]:List ai),(([]:List ak),())),((d.1,(s.2,())),())))),()))) (fun r s=>(((d.1,s.2++(if s.1 then r else dB v r)),()),())) (fun n s=>s.2.length+n≤d.2.length+(if s.1 then 1 else 0))
  (fun s hs=>by
   obtain⟨put,s⟩:=s;refine ar UC ?_;have h7:aK s.length [v].length=true:=fits (by grind)
   cases put
   ·simp_all [bX,dB]
   simp_all)
  (fun i y r s hi hx uN hs ih=>by
   obtain⟨put,s⟩:=s;refine ar UC ?_;have h6:aK s.length [y].length=true:=fits (by grind)
   cases put
   ·have h7:aK s.length [v].length=true:=fits (by grind);have h8:aK (s++[v]).length [y].length=true:=fits (by grind);simp only[aN hi,aw hx,Option.bind_some,aA hi (show d.2.length≤1073741824 by omega)];refine aa (Vn (hG _ _ rfl) v.1 y.1) ?_;by_cases ho:fL v.1 y.1=true
    ·have h9:=(jQ _ _).2 ho;have:=ih (true,(s++[v])++[y]) (by grind);simp only[h9,decide_true,h7,h8,dB,ho,if_true,Bool.false_eq_true,if_false];simp_all
    ·have h9:¬rI v.1 y.1<0:=fun h=>ho ((jQ _ _).1 h);have:=ih (false,s++[y]) (by grind);simp only[h9,decide_false,h6,dB,ho,if_false,Bool.false_eq_true];simp_all
   ·have:=ih (true,s++[y]) (by grind);simp only[aN hi,aw hx,Option.bind_some,aA hi (show d.2.length≤1073741824 by omega),h6,if_true];simp_all)
  (false,[]) (by simp)
 exact key
def cV(l:List ai)(v:ID):List ai:=l.filter fun w=>decide (w.1≠v)
def c6(l:List ak)(v:ID):List ak:=l.filter fun w=>decide (w.1≠v)
def aO(d:an)(v e:ID):an:=(cV d.1 v,c6 d.2 e)
theorem YC(hG:G 89 qB=none)(d:an)(v e:ID)(hl:d.1.length≤100000000)(Ah:d.2.length≤100000000):FX G 89 qB ((d,v,e,()),())=some ((aO d v e,()),()):=by
 refine av hG akh ?_;have Bj:=fun vs=>bf d.2 (fun i (s:List ak)=>LX G 89 qB Tryz.f89 zd (aF Tryz.prog 89 1) ((i,()),(((d,()),((e,()),((([]:List ai),(([]:List ak),())),((vs,(s,())),())))),()))) (fun(r:List ak) (s:List ak)=>(((vs,s++c6 r e),()),())) (fun n s=>s.length+n≤d.2.length) (fun s hs=>by refine ar Un ?_;simp only[bX,cV,c6,List.filter_nil,List.append_nil];rfl) (fun i y r s hi hx uN hs ih=>by
   refine ar Un ?_;have h6:aK s.length [y].length=true:=fits (by grind);simp only[aN hi,aw hx,Option.bind_some,j5,aA hi (show d.2.length≤1073741824 by omega)];by_cases he:y.1=e
   ·simp only[he,decide_true,Bool.not_true,ne_eq,not_true_eq_false,decide_false,cV,c6,List.filter_cons,Bool.false_eq_true,if_false];exact ih s (by omega)
   ·simp only[he,decide_false,Bool.not_false,h6,ne_eq,not_false_eq_true,decide_true,cV,c6,List.filter_cons,if_true];have:=ih (s++[y]) (by simp;omega);rw[List.append_assoc]at this;exact this)
  [] (by simp)
 have IU:=bf d.1 (fun i (s:List ai)=>LX G 89 qB Tryz.f89 zc (aF Tryz.prog 89 0) ((i,()),(((d,()),((v,()),((e,()),((([]:List ai),(([]:List ak),())),((s,(([]:List ak),())),()))))),()))) (fun(r:List ai) (s:List ai)=>(((s++cV r v,c6 d.2 e),()),())) (fun n s=>s.length+n≤d.1.length) (fun s hs=>by refine ar Um ?_;simp only[bX,cV,c6,List.filter_nil,List.append_nil];exact Bj s) (fun i y r s hi hx uN hs ih=>by
   refine ar Um ?_;have h6:aK s.length [y].length=true:=fits (by grind);simp only[aN hi,aw hx,Option.bind_some,j5,aA hi (show d.1.length≤1073741824 by omega)];by_cases he:y.1=v
   ·simp only[he,decide_true,Bool.not_true,ne_eq,not_true_eq_false,decide_false,cV,c6,List.filter_cons,Bool.false_eq_true,if_false];exact ih s (by omega)
   ·simp only[he,decide_false,Bool.not_false,h6,ne_eq,not_false_eq_true,decide_true,cV,c6,List.filter_cons,if_true];have:=ih (s++[y]) (by simp;omega);rw[List.append_assoc]at this;exact this)
  [] (by simp)
 exact IU
instance aoa:DecidableEq (List ai):=@instDecidableEqList ai inferInstance
instance decLE:DecidableEq (List ak):=@instDecidableEqList ak inferInstance
instance aiE:DecidableEq an:=instDecidableEqProd
instance afK:DecidableEq StateT:=instDecidableEqProd
structure Sm(d:an):Prop where
 v:d.1.length≤50000000
 e:d.2.length≤50000000
 r:∀w∈d.1,w.2.1.length≤50000000
def uf(x:ID)(l:List ae)(w:ai):ai:=if w.1=x then(w.1,(l,w.2.2)) else w
def cp(d:an)(x:ID)(l:List ae):an:=(d.1.map (uf x l),d.2)
theorem fq(i:Nat):decide ((0:Int)≤(i:Int))=true:=by simp
theorem xT{α:Type}(f:α→α)(l:List α)(i:Nat)(x:α)(hx:l[i]? = some x):((l.take i).map f++l.drop i).set i (f x)=(l.take (i+1)).map f++l.drop (i+1):=by have hi:=(abJ.1 hx).1;have h2:l.drop i=l[i]::l.drop (i+1):=ac8 hi;have h3:l[i]=x:=(abJ.1 hx).2;rw[List.set_append_right _ _ (by simp;omega),h2,List.length_map,List.length_take,Nat.min_eq_left (by omega),Nat.sub_self,List.set_cons_zero,List.take_add_one,hx];simp
theorem Vp{α:Type}(f:α→α)(l:List α)(i:Nat)(x:α)(hx:l[i]? = some x)(hf:f x=x):(l.take i).map f++l.drop i=(l.take (i+1)).map f++l.drop (i+1):=by
 grind [List.getElem?_eq_some_iff,List.drop_eq_getElem_cons,List.take_add_one]
theorem YD{α:Type}(f:α→α)(l:List α)(i:Nat)(x:α)(hx:l[i]? = some x):((l.take i).map f++l.drop i)[i]? = some x:=by
 grind
theorem abQ(hG:HG G)(d:an)(x:ID)(l:List ae)(hs:Sm d):FX G 171 Ft ((d,x,l,()),())=some ((cp d x l,()),()):=by
 have hv:=hs.v;have he:=hs.e;refine av (hG _ _ rfl) ak4 ?_;refine aa (afH (hG _ _ rfl) d (by omega) (by omega) (fun w hw=>by have:=hs.r w hw;omega)) ?_;have loop:∀(n i:Nat) (out fin:List ai),i+n=d.1.length→out=(d.1.take i).map (uf x l)++d.1.drop i→fin=d.1.map (uf x l) → LX G 171 Ft Tryz.f171 zo (aF Tryz.prog 171 0) ((l,((i:Int),())),(((x,()),((([]:List ai),(([]:List ak),())),((out,(d.2,())),()))),()))=some (((fin,d.2),()),()):=by
  intro n
  induction n with
  |zero =>
   intro i out fin hi ho hf;refine ar UQ ?_;have hol:out.length=d.1.length:=by simp_all
   have h1:¬((i:Int)<(out.length:Int)):=by omega
   have h2:out=fin:=by simp_all
   subst h2;simp only[h1,decide_false];rfl
  |succ n ih =>
   intro i out fin hi ho hf;refine ar UQ ?_;have hol:out.length=d.1.length:=by rw[ho];simp;omega
   have aH:i<d.1.length:=by omega
   have hx:d.1[i]? = some d.1[i]:=aby aH;have hg:out[i]? = some d.1[i]:=by grind [YD]
   simp only[aN (show i<out.length by omega),fq,Bool.and_self,Int.toNat_natCast,hg,Option.bind_some,j5,aA aH (show d.1.length≤1073741824 by omega)];by_cases hq:d.1[i].1=x
   ·have e1:uf x l d.1[i]=(x,(l,d.1[i].2.2)):=by simp_all [uf,if_pos]
    simp only[hq,decide_true];exact ih (i+1) (out.set i (x,(l,d.1[i].2.2))) fin (by omega) (by grind [xT]) hf
   ·have e1:uf x l d.1[i]=d.1[i]:=by unfold uf;rw[if_neg hq]
    simp only[hq,decide_false];exact ih (i+1) out fin (by omega) (by grind [Vp]) hf
 exact loop d.1.length 0 d.1 (d.1.map (uf x l)) (by omega) (by simp) rfl
def bI(d:an)(x:ID):List ae:=((br d x).getD zV).2.1
theorem kO{α:Type}(z:α)(o:Option α):(qL z o).1=o.getD z:=by cases o<;>rfl
theorem gV{α:Type}(z:α)(o:Option α):(qL z o).2.1=o.isSome:=by cases o<;>rfl
theorem pI{d:an}(hs:Sm d)(x:ID):(bI d x).length≤50000000:=by
 unfold bI
 cases h:br d x with
 |none=>simp[zV]
 |some v=>exact hs.r v (ac4 h)
def bU(d:an)(c:rj)(x:ae):an:=cp d c.1 (nu (bI d c.1) c.2 x)
def aE(d:an)(cH x:ae):an:=cp d ((cg d cH).getD zI) (fm (bI d ((cg d cH).getD zI)) cH x)
def aJ(d:an)(x:ae):an:=cp d ((cg d x).getD zI) (iL (bI d ((cg d x).getD zI)) x)
theorem afL(hG:HG G)(d:an)(c:rj)(x:ae)(hs:Sm d):FX G 126 Bc ((d,c,x,()),())=some ((bU d c x,()),()):=by have hv:=hs.v;have hr:=pI hs c.1;refine av (hG _ _ rfl) akH ?_;refine aa (Fx (hG _ _ rfl) d c.1 (by omega)) ?_;rw[show(qL zV (br d c.1)).1=(br d c.1).getD zV from kO _ _];refine aa (afF hG (bI d c.1) c.2 x (by omega)) ?_;exact aa (abQ hG d c.1 (nu (bI d c.1) c.2 x) hs) rfl
theorem afM(hG:HG G)(d:an)(cH x:ae)(hs:Sm d):FX G 130 Ky ((d,cH,x,()),())=some ((aE d cH x,()),()):=by have hv:=hs.v;have hr:=pI hs ((cg d cH).getD zI);refine av (hG _ _ rfl) akL ?_;refine aa (Lf hG d cH (by omega) (fun w hw=>by have:=hs.r w hw;omega)) ?_;rw[show(qL zI (cg d cH)).1=(cg d cH).getD zI from kO _ _];refine aa (Fx (hG _ _ rfl) d ((cg d cH).getD zI) (by omega)) ?_;rw[show(qL zV (br d ((cg d cH).getD zI))).1=(br d ((cg d cH).getD zI)).getD zV from kO _ _];refine aa (afG hG (bI d ((cg d cH).getD zI)) cH x (by omega)) ?_;exact aa (abQ hG d ((cg d cH).getD zI) (fm (bI d ((cg d cH).getD zI)) cH x) hs) rfl
theorem afN(hG:HG G)(d:an)(x:ae)(hs:Sm d):FX G 129 Rh ((d,x,()),())=some ((aJ d x,()),()):=by have hv:=hs.v;have hr:=pI hs ((cg d x).getD zI);refine av (hG _ _ rfl) akK ?_;refine aa (Lf hG d x (by omega) (fun w hw=>by have:=hs.r w hw;omega)) ?_;rw[show(qL zI (cg d x)).1=(cg d x).getD zI from kO _ _];refine aa (Fx (hG _ _ rfl) d ((cg d x).getD zI) (by omega)) ?_;rw[show(qL zV (br d ((cg d x).getD zI))).1=(br d ((cg d x).getD zI)).getD zV from kO _ _];refine aa (afE hG (bI d ((cg d x).getD zI)) x (by omega)) ?_;exact aa (abQ hG d ((cg d x).getD zI) (iL (bI d ((cg d x).getD zI)) x) hs) rfl
def jz(row:List ae)(x:ae):ae:=(dw row x (row.length-1)).getD zD
theorem BQ(o:Option ae):(Le o).1=o.getD zD:=by cases o<;>rfl
def dh(d:an)(x:ae):ae :=
 let row:=bI d ((cg d x).getD zI)
 let y:=jz row x
 let z:=if y.1=x.1 then jz row y else y
 if z.1=x.1 then zD else z
theorem afO(hG:HG G)(d:an)(x:ae)(hs:Sm d):FX G 128 Rg ((d,x,()),())=some ((dh d x,()),()):=by
 have hv:=hs.v;have hr:=pI hs ((cg d x).getD zI);refine av (hG _ _ rfl) akJ ?_;refine aa (Lf hG d x (by omega) (fun w hw=>by have:=hs.r w hw;omega)) ?_;rw[show(qL zI (cg d x)).1=(cg d x).getD zI from kO _ _];refine aa (Fx (hG _ _ rfl) d ((cg d x).getD zI) (by omega)) ?_;rw[show(qL zV (br d ((cg d x).getD zI))).1=(br d ((cg d x).getD zI)).getD zV from kO _ _];refine aa (afC hG (bI d ((cg d x).getD zI)) x (by omega)) ?_;rw[show(Le (dw (bI d ((cg d x).getD zI)) x ((bI d ((cg d x).getD zI)).length-1))).1=jz (bI d ((cg d x).getD zI)) x from BQ _];unfold dh;obtain⟨y,hy⟩:∃y,y=jz (bI d ((cg d x).getD zI)) x:=⟨_,rfl⟩;simp only[←hy,j5];by_cases h1:y.1=x.1
 ·have d1:=decide_eq_true h1;rw[if_pos h1];simp only[d1];refine aa (afC hG (bI d ((cg d x).getD zI)) y (by omega)) ?_;rw[show(Le (dw (bI d ((cg d x).getD zI)) y ((bI d ((cg d x).getD zI)).length-1))).1=jz (bI d ((cg d x).getD zI)) y from BQ _];by_cases h2:(jz (bI d ((cg d x).getD zI)) y).1=x.1
  ·have d2:=decide_eq_true h2;rw[if_pos h2];simp only[d2];rfl
  ·have d2:=decide_eq_false h2;rw[if_neg h2];simp only[d2];rfl
 ·have d1:=decide_eq_false h1;rw[if_neg h1,if_neg h1];simp only[d1];rfl
def g8(l:List aB)(d:ae):Option ae:=(l.find? fun g=>decide (g.1=d)).map (·.2)
theorem aat(hG:G 173 vd=none)(l:List aB)(d:ae)(hl:l.length≤100000000):FX G 173 vd ((l,d,()),())=some (qL zD (g8 l d),()):=by
 refine av hG aeh ?_;have key:=bf l (fun i (_:Unit)=>LX G 173 vd Tryz.f173 xk (aF Tryz.prog 173 0) ((l,(i,())),(((d,()),(((((0:Int),(0:Int)),(0:Int)),()),())),()))) (fun(r:List aB) (_:Unit)=>(qL zD (g8 r d),())) (fun _ _=>True) (fun s _=>by refine ar Ox ?_;simp only[bX,cond_false];rfl) (fun i y r s hi hx hr _ ih=>by
   refine ar Ox ?_;simp only[aN hi,aw hx,Option.bind_some,lJ,aA hi (show l.length≤1073741824 by omega)];by_cases he:y.1=d
   ·simp only[he,decide_true,g8,List.find?_cons];rfl
   ·simp only[he,decide_false,g8,List.find?_cons];exact ih () trivial)
  () trivial
 exact key
theorem alr(hG:G 38 Io=none)(a b:List aB)(ha:a.length≤100000000):FX G 38 Io ((a,b,()),())=some ((decide (a=b),()),()):=by
 refine av hG akn ?_;by_cases hl:a.length=b.length
 case neg =>
  have h1:((((a.length:Nat):Int)) != ((b.length:Nat):Int))=true:=by simp;omega
  have h2:¬a=b:=fun e=>hl (by rw[e]);simp only[h1,h2,decide_false];rfl
 have h1:((((a.length:Nat):Int)) != ((b.length:Nat):Int))=false:=by simp[hl]
 simp only[h1];have Mh:(a.zip b).length=a.length:=by simp[hl]
 have key:=bf (a.zip b) (fun i (_:Unit)=>LX G 38 Io Tryz.f38 DB (aF Tryz.prog 38 0) ((a,(b,(i,()))),((),()))) (fun r _=>((r.all (fun p=>decide (p.1=p.2)),()),())) (fun _ _=>True) (fun s _=>by refine ar Ur ?_;rw[Mh];simp only[bX];rfl) (fun i x r s hi hx hr _ ih=>by
   rw[Mh]at hi;obtain⟨h3,h4⟩:=BP hx;refine ar Ur ?_;simp only[aN hi,aw h3,aw h4,Option.bind_some,lJ,aA hi (show a.length≤1073741824 by omega)];by_cases he:x.1=x.2
   ·simp only[he,decide_true,Bool.and_self,Bool.not_true,List.all_cons,Bool.true_and];exact ih () trivial
   ·have h9:(decide (x.1.1=x.2.1)&&decide (x.1.2=x.2.2))=false:=by
     grind
    simp only[he,h9,decide_false,Bool.not_false,List.all_cons,Bool.false_and];rfl)
  () trivial
 rw[xS a b hl]at key;exact key
theorem als(hG:HG G)(a b:an)(hs:Sm a):FX G 37 C7 ((a,b,()),())=some ((decide (a=b),()),()):=by
 have hv:=hs.v;have he:=hs.e;refine av (hG _ _ rfl) aj1 ?_;by_cases hl:a.1.length=b.1.length
 case neg =>
  have h1:((((a.1.length:Nat):Int)) != ((b.1.length:Nat):Int))=true:=by simp;omega
  have h2:¬a=b:=fun e=>hl (by rw[e]);simp only[h1,h2,decide_false];rfl
 have h1:((((a.1.length:Nat):Int)) != ((b.1.length:Nat):Int))=false:=by simp[hl]
 simp only[h1];by_cases Ah:a.2.length=b.2.length
 case neg =>
  have h1:((((a.2.length:Nat):Int)) != ((b.2.length:Nat):Int))=true:=by simp;omega
  have h2:¬a=b:=fun e=>Ah (by rw[e]);simp only[h1,h2,decide_false];rfl
 have h2:((((a.2.length:Nat):Int)) != ((b.2.length:Nat):Int))=false:=by simp[Ah]
 simp only[h2];have Mh:(a.1.zip b.1).length=a.1.length:=by simp[hl]
 have afP:(a.2.zip b.2).length=a.2.length:=by simp[Ah]
 have Bj:=bf (a.2.zip b.2) (fun i (_:Unit)=>LX G 37 C7 Tryz.f37 Du (aF Tryz.prog 37 1) ((i,()),(((a,()),((b,()),())),()))) (fun r _=>((r.all (fun p=>decide (p.1=p.2)),()),())) (fun _ _=>True) (fun s _=>by refine ar Ud ?_;rw[afP];simp only[bX];rfl) (fun i x r s hi hx hr _ ih=>by
   rw[afP]at hi;obtain⟨h3,h4⟩:=BP hx;refine ar Ud ?_;simp only[aN hi,aw h3,aw h4,Option.bind_some,j5,abM,aA hi (show a.2.length≤1073741824 by omega)];by_cases he:x.1=x.2
   ·simp only[he,decide_true,beq_self_eq_true,Bool.and_self,Bool.not_true,List.all_cons,Bool.true_and];exact ih () trivial
   ·have h9:(decide (x.1.1=x.2.1)&&(decide (x.1.2.1=x.2.2.1)&&(x.1.2.2==x.2.2.2)))=false:=by
     grind
    simp only[he,h9,decide_false,Bool.not_false,List.all_cons,Bool.false_and];rfl)
  () trivial
 rw[xS a.2 b.2 Ah]at Bj;have key:=bf (a.1.zip b.1) (fun i (_:Unit)=>LX G 37 C7 Tryz.f37 Dt (aF Tryz.prog 37 0) ((i,()),(((a,()),((b,()),())),()))) (fun r _=>((r.all (fun p=>decide (p.1=p.2))&&decide (a.2=b.2),()),())) (fun _ _=>True) (fun s _=>by refine ar Uc ?_;rw[Mh];simp only[bX,List.all_nil,Bool.true_and];exact Bj) (fun i x r s hi hx hr _ ih=>by
   rw[Mh]at hi;obtain⟨h3,h4⟩:=BP hx;refine ar Uc ?_;simp only[aN hi,aw h3,aw h4,Option.bind_some,j5,abM,aA hi (show a.1.length≤1073741824 by omega)];refine aa (afB hG x.1.2.1 x.2.2.1 (by have:=hs.r x.1 (acC h3);omega)) ?_;by_cases e1:x.1.1=x.2.1
   case neg =>
    have he:¬x.1=x.2:=fun e=>e1 (by rw[e]);have d1:=decide_eq_false e1;simp only[d1,he,decide_false,List.all_cons,Bool.false_and];rfl
   have d1:=decide_eq_true e1;by_cases e2:x.1.2.2.1=x.2.2.2.1
   case neg =>
    have he:¬x.1=x.2:=fun e=>e2 (by rw[e]);have d2:=decide_eq_false e2;simp only[d1,d2,he,decide_false,List.all_cons,Bool.false_and];rfl
   have d2:=decide_eq_true e2;by_cases e3:x.1.2.2.2=x.2.2.2.2
   case neg =>
    have he:¬x.1=x.2:=fun e=>e3 (by rw[e]);have h8:(x.1.2.2.2 != x.2.2.2.2)=true:=by simp[e3]
    simp only[d1,d2,h8,he,decide_false,List.all_cons,Bool.false_and];rfl
   have h8:(x.1.2.2.2 != x.2.2.2.2)=false:=by simp[e3]
   by_cases e4:x.1.2.1=x.2.2.1
   case neg =>
    have he:¬x.1=x.2:=fun e=>e4 (by rw[e]);have d4:=decide_eq_false e4;simp only[d1,d2,h8,d4,he,decide_false,List.all_cons,Bool.false_and];rfl
   have d4:=decide_eq_true e4;have he:decide (x.1=x.2)=true:=decide_eq_true (Prod.ext e1 (Prod.ext e4 (Prod.ext e2 e3)));simp only[d1,d2,h8,d4,he,List.all_cons,Bool.true_and];exact ih () trivial)
  () trivial
 rw[xS a.1 b.1 hl]at key;have jk:(decide (a.1=b.1)&&decide (a.2=b.2))=decide (a=b):=by
  grind
 exact key.trans (congrArg (fun b:Bool=>some ((b,()),())) jk)
theorem alu(hG:HG G)(a b:StateT)(hs:Sm a.1)(hg:a.2.length≤50000000):FX G 14 TT ((a,b,()),())=some ((decide (a=b),()),()):=by
 refine av (hG _ _ rfl) ajS ?_;refine aa (als hG a.1 b.1 hs) ?_;refine aa (alr (hG _ _ rfl) a.2 b.2 (by omega)) ?_;have jk:(decide (a.1=b.1)&&decide (a.2=b.2))=decide (a=b):=by
  grind
 rw[←jk];by_cases h:a.1=b.1
 ·simp only[h,decide_true,Bool.true_and];rfl
 ·simp only[h,decide_false,Bool.false_and];rfl
def ov(g:aB)(l:List aB):List aB:=l.filter fun q=>decide (q.1≠g.1)
def lX(g:aB):List aB→List aB
 |[]=>[g]
 |e::r=>if pC g.1 e.1≤0 then g::ov g (e::r) else if e.1≠g.1 then e::lX g r else lX g r
def bS(l:List aB)(g:aB):List aB:=if(g8 l g.1).isSome=false∧400≤l.length then l else lX g l
def Rx(g:aB)(put:Bool)(r:List aB):List aB:=if put then ov g r else lX g r
theorem afQ(hG:HG G)(l:List aB)(g:aB)(hl:l.length≤50000000) :
  LX G 127 Be Tryz.f127 lH (aF Tryz.prog 127 0) ((l,(false,((0:Int),()))),(((g,()),()),(([]:List aB),())))=some ((lX g l,()),()):=by
 have key:=bf l (fun i (s:Bool×List aB)=>LX G 127 Be Tryz.f127 lH (aF Tryz.prog 127 0) ((l,(s.1,(i,()))),(((g,()),()),(s.2,())))) (fun(r:List aB) (s:Bool×List aB)=>((s.2++Rx g s.1 r,()),())) (fun n s=>s.2.length+n≤l.length+(if s.1 then 1 else 0))
  (fun s hs=>by
   obtain⟨put,s⟩:=s;refine ar UD ?_;have h7:aK s.length [g].length=true:=fits (by grind)
   cases put
   ·simp_all [bX,Rx,lX]
   ·simp only[bX,Rx,if_true,ov,List.filter_nil,List.append_nil];rfl)
  (fun i y r s hi hx uN hs ih=>by
   obtain⟨put,s⟩:=s;refine ar UD ?_;have h6:aK s.length [y].length=true:=fits (by grind);have hw:=aA hi (show l.length≤1073741824 by omega)
   cases put
   ·have h7:aK s.length [g].length=true:=fits (by grind);have h8:aK (s++[g]).length [y].length=true:=fits (by grind);simp only[aN hi,aw hx,Option.bind_some,hw];refine aa (afA hG g.1 y.1) ?_;by_cases ho:pC g.1 y.1≤0
    ·have d0:=decide_eq_true ho;by_cases hy:y.1=g.1
     ·have d1:=decide_eq_true hy;have:=ih (true,s++[g]) (by grind);simp only[d0,h7,lJ,d1,Rx,lX,ho,if_true,Bool.false_eq_true,if_false];refine this.trans (congrArg (fun l:List aB=>some ((l,()),())) ?_);simp[Rx,ov,hy]
     ·have d1:=decide_eq_false hy;have:=ih (true,(s++[g])++[y]) (by grind);simp only[d0,h7,h8,lJ,d1,Rx,lX,ho,if_true,Bool.false_eq_true,if_false];refine this.trans (congrArg (fun l:List aB=>some ((l,()),())) ?_);simp[Rx,ov,hy]
    ·have d0:=decide_eq_false ho;by_cases hy:y.1=g.1
     ·have d1:=decide_eq_true hy;have:=ih (false,s) (by omega);simp only[d0,lJ,d1,Rx,lX,ho,Bool.false_eq_true,if_false];refine this.trans (congrArg (fun l:List aB=>some ((l,()),())) ?_);simp[Rx,hy]
     ·have d1:=decide_eq_false hy;have:=ih (false,s++[y]) (by grind);simp only[d0,h6,lJ,d1,Rx,lX,ho,Bool.false_eq_true,if_false];refine this.trans (congrArg (fun l:List aB=>some ((l,()),())) ?_);simp[Rx,hy]
   ·by_cases hy:y.1=g.1
    ·have d1:=decide_eq_true hy;have:=ih (true,s) (by omega);simp only[aN hi,aw hx,Option.bind_some,hw,lJ,d1];refine this.trans (congrArg (fun l:List aB=>some ((l,()),())) ?_);simp[Rx,ov,hy]
    ·have d1:=decide_eq_false hy;have:=ih (true,s++[y]) (by grind);simp only[aN hi,aw hx,Option.bind_some,hw,lJ,d1,h6];refine this.trans (congrArg (fun l:List aB=>some ((l,()),())) ?_);simp[Rx,ov,hy])
  (false,[]) (by simp)
 exact key
theorem YE(hG:HG G)(l:List aB)(g:aB)(hl:l.length≤50000000):FX G 127 Be ((l,g,()),())=some ((bS l g,()),()):=by
 refine av (hG _ _ rfl) akI ?_;refine aa (aat (hG _ _ rfl) l g.1 (by omega)) ?_;rw[show(qL zD (g8 l g.1)).2.1=(g8 l g.1).isSome from gV _ _];unfold bS
 cases hf:(g8 l g.1).isSome
 ·by_cases hn:400≤l.length
  ·have h1:decide (((l.length:Nat):Int)≥400)=true:=by simp;omega
   rw[if_pos ⟨rfl,hn⟩];simp only[h1];rfl
  ·have h1:decide (((l.length:Nat):Int)≥400)=false:=by simp;omega
   rw[if_neg (by simp[hn])];simp only[h1];exact afQ hG l g hl
 ·rw[if_neg (by simp)];exact afQ hG l g hl
def res(d:an)(gn:List aB):Nat→ae→ae
 |0,_=>zD
 |n+1,x=>if(cg d x).isSome then x else match g8 gn x with
  |none=>zD
  |some y=>res d gn n y
def resolve(s:StateT)(x:ae):ae:=res s.1 s.2 (s.2.length+1) x
theorem alv(hG:HG G)(s:StateT)(x:ae)(hs:Sm s.1)(hg:s.2.length≤50000000):FX G 169 KA ((s,x,()),())=some ((resolve s x,()),()):=by
 refine av (hG _ _ rfl) ak3 ?_;have hv:=hs.v;have loop:∀(n i:Nat) (y:ae),i+n=s.2.length+1→LX G 169 KA Tryz.f169 DK (aF Tryz.prog 169 0) (((i:Int),()),((s,()),((y,()),(((((0:Int),(0:Int)),(0:Int)),()),()))),())=some ((res s.1 s.2 n y,()),()):=by
  intro n
  induction n with
  |zero =>
   intro i y hi;refine ar UP ?_;have h1:decide ((i:Int)≤((s.2.length:Nat):Int))=false:=by simp;omega
   simp only[h1];rfl
  |succ n ih =>
   intro i y hi;refine ar UP ?_;have h1:decide ((i:Int)≤((s.2.length:Nat):Int))=true:=by simp;omega
   have hw:IntKind.wrap .i64 ((i:Int)+1)=((i+1:Nat):Int):=by grind [wrap_small]
   simp only[h1,hw];refine aa (Lf hG s.1 y (by omega) (fun w hw=>by have:=hs.r w hw;omega)) ?_;rw[show(qL zI (cg s.1 y)).2.1=(cg s.1 y).isSome from gV _ _,res]
   cases ha:(cg s.1 y).isSome
   ·simp only[Bool.false_eq_true,if_false];refine aa (aat (hG _ _ rfl) s.2 y (by omega)) ?_
    cases hf:g8 s.2 y with
    |none=>rfl
    |some z=>exact ih (i+1) z (by omega)
   ·rfl
 exact loop (s.2.length+1) 0 x (by omega)
def zC:rj:=(zI,zD)
def xU(s:StateT)(c:rj)(v:ai):ae:=if resolve s c.2∈v.2.1 then resolve s c.2 else zD
def bA(s:StateT)(c:rj):rj×(Int×Unit):=match br s.1 c.1 with
 |none=>(zC,(13,()))
 |some v=>((c.1,xU s c v),(0,()))
theorem afR(hG:HG G)(s:StateT)(c:rj)(hs:Sm s.1)(hg:s.2.length≤50000000):FX G 124 Rf ((s,c,()),())=some (bA s c,()):=by
 have hv:=hs.v;refine av (hG _ _ rfl) akF ?_;refine aa (Fx (hG _ _ rfl) s.1 c.1 (by omega)) ?_;unfold bA
 cases hf:br s.1 c.1 with
 |none=>rfl
 |some v =>
  have hr:v.2.1.length≤50000000:=hs.r v (ac4 hf);refine aa (alv hG s c.2 hs hg) ?_;refine aa (IQ (hG _ _ rfl) v.2.1 (resolve s c.2) (by omega)) ?_;by_cases hm:resolve s c.2∈v.2.1
  ·have h1:decide (idx (resolve s c.2) v.2.1 0<0)=false:=decide_eq_false (fun h=>eU.1 h hm);have h2:xU s c v=resolve s c.2:=if_pos hm;simp only[h1];exact congrArg (fun z:ae=>some (((c.1,z),((0:Int),())),())) h2.symm
  ·have h1:decide (idx (resolve s c.2) v.2.1 0<0)=true:=decide_eq_true (eU.2 hm);have h2:xU s c v=zD:=if_neg hm;simp only[h1];exact congrArg (fun z:ae=>some (((c.1,z),((0:Int),())),())) h2.symm
def aj(x:ae):ae:=(x.1,IntKind.wrap .i64 (1-x.2))
def j9(d:an)(x:ae):Option ae:=match cg d x with
 |none=>none
 |some a=>dw (bI d a) x 1
theorem alw(hG:HG G)(d:an)(x:ae)(hs:Sm d):FX G 237 TZ ((d,x,()),())=some (Le (j9 d x),()):=by
 have hv:=hs.v;refine av (hG _ _ rfl) akN ?_;refine aa (Lf hG d x (by omega) (fun w hw=>by have:=hs.r w hw;omega)) ?_;unfold j9
 cases ha:cg d x with
 |none=>rfl
 |some a =>have hr:=pI hs a;refine aa (Fx (hG _ _ rfl) d a (by omega)) ?_;rw[show(qL zV (br d a)).1=(br d a).getD zV from kO _ _];exact aa (afD hG (bI d a) x (by omega)) rfl
def Jy(d:an)(x:ae):Option ae:=if(cg d x).isSome then j9 d (aj x) else none
theorem afS(hG:HG G)(d:an)(x:ae)(hs:Sm d):FX G 226 Rb ((d,x,()),())=some (Le (Jy d x),()):=by
 have hv:=hs.v;refine av (hG _ _ rfl) ako ?_;refine aa (Lf hG d x (by omega) (fun w hw=>by have:=hs.r w hw;omega)) ?_;rw[show(qL zI (cg d x)).2.1=(cg d x).isSome from gV _ _];unfold Jy
 cases ha:(cg d x).isSome
 ·rfl
 ·refine aa (abN (hG _ _ rfl) x) ?_;exact aa (alw hG d (aj x) hs) rfl
def sM(d:an)(x:ae):Nat→ae→List ae→List ae
 |0,_,out=>out
 |n+1,y,out=>if y=x then out else sM d x n ((Jy d y).getD zD) (out++[y])
def bq(d:an)(x:ae):List ae:=match Jy d x with
 |none=>[]
 |some y=>sM d x 81 y [x]
theorem alx(hG:HG G)(d:an)(x:ae)(hs:Sm d):FX G 210 Kr ((d,x,()),())=some ((bq d x,()),()):=by
 refine av (hG _ _ rfl) ajX ?_;refine aa (afS hG d x hs) ?_;unfold bq
 cases hp:Jy d x with
 |none=>rfl
 |some y =>
  have h5:aK ([]:List ae).length [x].length=true:=fits (by simp);have loop:∀(n:Nat) (y:ae) (out:List ae),out.length+n=82→LX G 210 Kr Tryz.f210 Dp (aF Tryz.prog 210 0) ((),((d,()),((x,()),((y,()),()))),(out,()))=some ((sM d x n y out,()),()):=by
   intro n
   induction n with
   |zero =>
    intro y out ho;refine ar Ua ?_;have h1:decide (((out.length:Nat):Int)<82)=false:=by simp;omega
    simp only[lJ,h1];by_cases hy:y=x
    ·have d1:=decide_eq_true hy;simp only[d1];rfl
    ·have d1:=decide_eq_false hy;simp only[d1];rfl
   |succ n ih =>
    intro y out ho;refine ar Ua ?_;have h1:decide (((out.length:Nat):Int)<82)=true:=by simp;omega
    have h6:aK out.length [y].length=true:=fits (by simp;omega);simp only[lJ,h1,h6];rw[sM];by_cases hy:y=x
    ·have d1:=decide_eq_true hy;rw[if_pos hy];simp only[d1];rfl
    ·have d1:=decide_eq_false hy;rw[if_neg hy];simp only[d1];refine aa (afS hG d y hs) ?_;rw[show(Le (Jy d y)).1=(Jy d y).getD zD from BQ _];exact ih ((Jy d y).getD zD) (out++[y]) (by simp;omega)
  exact loop 81 y [x] (by simp)
theorem G2(d:an)(x:ae):∀(n:Nat) (y:ae) (out:List ae),(sM d x n y out).length≤out.length+n
 |0,_,out=>acW _
 |n+1,y,out=>by
  unfold sM
  split
  ·omega
  ·have:=G2 d x n ((Jy d y).getD zD) (out++[y]);simp at this;omega
theorem G3(d:an)(x:ae):(bq d x).length≤82:=by
 grind [bq,Jy,G2]
def eV:List ak→List ae
 |[]=>[]
 |e::r=>(e.1,0)::(e.1,1)::eV r
theorem mZ:∀l:List ak,(eV l).length=2*l.length
 |[]=>rfl
 |e::r=>by simp[eV,mZ r];omega
theorem aly(hG:G 209 Iq=none)(d:an)(hs:Sm d):FX G 209 Iq ((d,()),())=some ((eV d.2,()),()):=by have he:=hs.e;refine av hG akt ?_;have key:=bf d.2 (fun i (s:List ae)=>LX G 209 Iq Tryz.f209 DG (aF Tryz.prog 209 0) ((i,()),(((d,()),()),(s,())))) (fun(r:List ak) (s:List ae)=>((s++eV r,()),())) (fun n s=>s.length+2*n≤2*d.2.length) (fun s _=>by refine ar Uy ?_;simp only[bX,eV,List.append_nil];rfl) (fun i y r s hi hx uN hs ih=>by refine ar Uy ?_;have h6:aK s.length [((y.1,(0:Int)):ae),(y.1,(1:Int))].length=true:=fits (by simp;omega);simp only[aN hi,aw hx,Option.bind_some,h6,aA hi (show d.2.length≤1073741824 by omega)];have:=ih (s++[(y.1,0),(y.1,1)]) (by simp;omega);refine this.trans (congrArg (fun l:List ae=>some ((l,()),())) ?_);simp[eV]) [] (by simp);exact key
def iY(d:an):List ae→List (List ae)→List ae→List (List ae)
 |[],out,_=>out
 |x::r,out,told=>if x∈told then iY d r out told else iY d r (out++[bq d x]) (told++bq d x)
def bV(d:an):List (List ae):=iY d (eV d.2) [] []
theorem alz(hG:HG G)(d:an)(hs:Sm d)(he:d.2.length≤5000000):FX G 185 Ks ((d,()),())=some ((bV d,()),()):=by
 refine av (hG _ _ rfl) aj5 ?_;refine aa (aly (hG _ _ rfl) d hs) ?_;have K1:=mZ d.2;unfold bV;generalize eV d.2=ds at *;have key:=bf ds (fun i (s:List (List ae)×List ae)=>LX G 185 Ks Tryz.f185 yZ (aF Tryz.prog 185 0) ((i,()),(((d,()),()),(s.1,(s.2,(ds,())))))) (fun(r:List ae) (s:List (List ae)×List ae)=>((iY d r s.1 s.2,()),())) (fun n s=>s.1.length+n≤ds.length∧s.2.length+82*n≤82*ds.length) (fun s _=>by refine ar Uf ?_;simp only[bX];rfl) (fun i y r s hi hx uN hs' ih=>by
   obtain⟨out,told⟩:=s;obtain⟨b1,b2⟩:=hs';simp only at b1 b2;refine ar Uf ?_;simp only[aN hi,fq,Bool.and_self,Int.toNat_natCast,hx,Option.bind_some,aA hi (show ds.length≤1073741824 by omega)];refine aa (IQ (hG _ _ rfl) told y (by omega)) ?_;rw[iY];by_cases hm:y∈told
   ·have d1:decide (idx y told 0≥0)=true:=decide_eq_true (by grind [eu]);rw[if_pos hm];simp only[d1];exact ih (out,told) ⟨by grind,by grind⟩
   ·have d1:decide (idx y told 0≥0)=false:=decide_eq_false (by simp_all [eU]);rw[if_neg hm];simp only[d1];refine aa (alx hG d y hs) ?_;have htl:=G3 d y;have h6:aK out.length [bq d y].length=true:=fits (by simp;omega);have h7:aK told.length (bq d y).length=true:=fits (by omega);simp only[h6,h7];exact ih (out++[bq d y],told++bq d y) ⟨by simp;omega,by simp;omega⟩)
  ([],[]) ⟨by simp,by simp⟩
 exact key
end Go.Vs
