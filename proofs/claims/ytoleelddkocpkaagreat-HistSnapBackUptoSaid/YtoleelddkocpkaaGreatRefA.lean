/- What the document's reference -/
import Derived.Test.YtoleelddkocpkaaGreatNormalA
import Derived.Test.YtoleelddkocpkaaGreatNormalB
import Derived.Test.YtoleelddkocpkaaGreatNormalC
set_option linter.unusedVariables false
set_option linter.unusedSimpArgs false
namespace Go.Vs
open Go.Proofs
variable {G:(f:FuncId)→(g:aO)→Option (g.A→Option g.B)}
theorem aa{α β:Type}{o:Option α}{f:α→Option β}{a:α}{r:Option β}(h:o=some a)(k:f a=r):o.bind f=r:=by simp_all
theorem aB{α:Type}{l:List α}{i:Nat}{x:α}(h:l[i]? = some x):aU l (i:Int)=some x:=by
 grind [List.getElem?_eq_some_iff,aU]
theorem wrap_small{n:Int}(h0 : -9223372036854775808≤n)(h1:n<9223372036854775808):IntKind.wrap .i64 n=n:=by
 grind [IntKind.wrap,IntKind.bits,IntKind.signed]
theorem aD{i n:Nat}(h:i<n)(hn:n≤1073741824):IntKind.wrap .i64 ((i:Int)+1)=((i+1:Nat):Int):=by
 grind [wrap_small]
theorem aT{i n:Nat}(h:i<n):decide ((i:Int)<((n:Nat):Int))=true:=by simpa using h
theorem cE(n:Nat):decide (((n:Nat):Int)<((n:Nat):Int))=false:=by simp
theorem fits{n m:Nat}(h:n+m≤1073741824):aI n m=true:=decide_eq_true h
theorem lN(a b:ID):((a.1==b.1)&&(a.2==b.2))=decide (a=b):=by
 grind
theorem lO(a b:ab):(((a.1.1==b.1.1)&&(a.1.2==b.1.2))&&(a.2==b.2))=decide (a=b):=by
 grind
theorem YU(a b:ByteArray):(a==b)=decide (a=b):=by
 obtain⟨a⟩:=a;obtain⟨b⟩:=b;show(a==b)=_
 grind
theorem bu{α S R:Type}(l:List α)(L:Int→S→Option R)(g:List α→S→R)(inv:Nat→S→Prop) (aqo:∀s,inv 0 s→L ((l.length:Nat):Int) s=some (g [] s)) (af1:∀(i:Nat) (x:α) (r:List α) (s:S),i<l.length→l[i]? = some x→i+r.length+1=l.length→inv (r.length+1) s→(∀s',inv r.length s'→L ((i+1:Nat):Int) s'=some (g r s'))→L (i:Int) s=some (g (x::r) s)) :
  ∀s,inv l.length s→L 0 s=some (g l s):=by
 have key:∀(r p:List α),p++r=l→∀s,inv r.length s→L ((p.length:Nat):Int) s=some (g r s):=by
  intro r
  induction r with
  |nil=>simp_all
  |cons x r ih =>
   intro p hp s hs;refine af1 p.length x r s ?_ ?_ ?_ hs (fun s' hs' => ?_)
   ·grind
   ·grind
   ·grind
   ·have:=ih (p++[x]) (by simp[hp]) s' hs';simp_all
 intro s hs;exact key l [] rfl s hs
def zD:ab:=((0,0),0)
def cd(x:ID):Bool:=decide (1≤x.1∧x.1≤8∧1≤x.2∧x.2≤1048576)
def gN(a b:ID):Bool:=decide (a.1<b.1∨(a.1=b.1∧a.2<b.2))
def sj(a b:ID):Int:=if a=b then 0 else if gN a b then -1 else 1
def mD(a b:ab):Bool:=gN a.1 b.1 || (decide (a.1=b.1)&&decide (a.2<b.2))
def nP(a b:ab):Int:=if a=b then 0 else if mD a b then -1 else 1
def kK(d:ab):Bool:=cd d.1&&decide (d.2=0∨d.2=1)
theorem RU(hG:G 104 Di=none)(x:ID):FX G 104 Di ((x,()),())=some ((cd x,()),()):=by
 refine av hG aj9 ?_;obtain⟨a,b⟩:=x;show(cond (decide (a≥1)) (cond (decide (a≤8)) (cond (decide (b≥1)) (some ((decide (b≤1048576),()),())) (some ((false,()),()))) (some ((false,()),()))) (some ((false,()),())):Option ((Bool×Unit)×Unit))=some ((cd (a,b),()),());unfold cd
 grind
theorem acg(hG:G 131 Fz=none)(d:ab):FX G 131 Fz ((d,()),())=some (((d.1,IntKind.wrap .i64 (1-d.2)),()),()) :=av hG akd rfl
theorem ach(hG:G 105 KJ=none)(a b:ID):FX G 105 KJ ((a,b,()),())=some ((sj a b,()),()):=by
 refine av hG akQ ?_;obtain⟨a1,a2⟩:=a;obtain⟨b1,b2⟩:=b;unfold sj gN;show(cond ((a1==b1)&&(a2==b2)) (some (((0:Int),()),())) (cond (decide (a1<b1)) (some (((-1:Int),()),())) (cond (a1==b1) (cond (decide (a2<b2)) (some (((-1:Int),()),())) (some (((1:Int),()),()))) (some (((1:Int),()),())))):Option ((Int×Unit)×Unit))=some (((if(a1,a2)=(b1,b2) then 0 else if(decide (a1<b1∨(a1=b1∧a2<b2)))=true then -1 else 1:Int),()),())
 grind
theorem af2(hG:HG G)(a b:ab):FX G 75 Rz ((a,b,()),())=some ((nP a b,()),()):=by
 refine av (hG _ _ rfl) akK ?_;refine aa (ach (hG _ _ rfl) a.1 b.1) ?_;obtain⟨a1,a2⟩:=a;obtain⟨b1,b2⟩:=b;show(cond (sj a1 b1 != 0) (some ((sj a1 b1,()),())) (cond (decide (a2<b2)) (some (((-1:Int),()),())) (cond (decide (a2>b2)) (some (((1:Int),()),())) (some (((0:Int),()),())))):Option ((Int×Unit)×Unit))=some ((nP (a1,a2) (b1,b2),()),());unfold nP mD sj;simp only[cond_eq_ite]
 grind [gN]
theorem alz(hG:HG G)(d:ab):FX G 74 UB ((d,()),())=some ((kK d,()),()):=by
 refine av (hG _ _ rfl) alb ?_;refine aa (RU (hG _ _ rfl) d.1) ?_;obtain⟨d1,d2⟩:=d;show(cond (cd d1) (cond (d2==0) (some ((true,()),())) (some (((d2==1),()),()))) (some ((false,()),())):Option ((Bool×Unit)×Unit))=some ((kK (d1,d2),()),());unfold kK
 grind
def idx(d:ab):List ab→Int→Int
 |[],_ => -1
 |e::r,i=>if e=d then i else idx d r (i+1)
theorem alA(row:List ab)(d:ab)(hl:row.length≤1073741824):∀(n i:Nat),i+n=row.length→LX G 170 s5 Tryz.f170 DF (aK Tryz.prog 170 0) ((row,((i:Int),())),(((d,()),()),()))=some ((idx d (row.drop i) i,()),()):=by
 intro n
 induction n with
 |zero =>
  intro i hi;refine ar UK ?_;have h1:¬((i:Int)<(row.length:Int)):=by omega
  have h2:row.drop i=[]:=adF (by omega);simp only[h1,h2,decide_false,cond_false,idx];rfl
 |succ n ih =>
  intro i hi;refine ar UK ?_;have aN:i<row.length:=by omega
  have h1:((i:Int)<(row.length:Int)):=by omega
  have h2:row.drop i=row[i]::row.drop (i+1):=adu aN;have h3:aU row (i:Int)=some row[i]:=by simp[aU,aN]
  have h4:IntKind.wrap .i64 ((i:Int)+1)=((i+1:Nat):Int):=by grind [wrap_small]
  have h5:=ih (i+1) (by omega);rw[h2,idx];simp only[h1,decide_true,cond_true,h3,Option.bind_some,h4,lO];by_cases he:row[i]=d
  ·rw[if_pos he];simp only[he,decide_true];rfl
  ·rw[if_neg he];simp only[he,decide_false];exact h5
theorem I2(hG:G 170 s5=none)(row:List ab)(d:ab)(hl:row.length≤1073741824):FX G 170 s5 ((row,d,()),())=some ((idx d row 0,()),()):=by refine av hG ake ?_;exact alA (G:=G) row d hl row.length 0 (by omega)
theorem pX(d:ab):∀(row:List ab) (i:Int),0≤i→(idx d row i = -1∧d∉row)∨(∃k:Nat,idx d row i=i+k∧row[k]? = some d∧d∉row.take k)
 |[],i,_=>.inl ⟨rfl,by simp⟩
 |e::r,i,h=>by
  unfold idx;by_cases he:e=d
  ·right;exact⟨0,by simp[he],by simp[he],by simp⟩
  ·rw[if_neg he];rcases pX d r (i+1) (by omega) with⟨h1,h2⟩|⟨k,h1,h2,h3⟩
   ·grind
   ·exact .inr ⟨k+1,by rw[h1];omega,by simpa using h2,by grind⟩
theorem fq{d:ab}{row:List ab}:idx d row 0<0↔d∉row:=by
 grind [pX,List.mem_of_getElem?]
theorem eV{d:ab}{row:List ab}(h:d∈row):∃k:Nat,idx d row 0=k∧row[k]? = some d∧d∉row.take k:=by
 rcases pX d row 0 (by omega) with⟨_,h2⟩|⟨k,h1,h2,h3⟩
 ·simp_all
 grind
theorem xZ{α:Type}[DecidableEq α]:∀(a b:List α),a.length=b.length→(a.zip b).all (fun p=>decide (p.1=p.2))=decide (a=b)
 |[],[],_=>by simp
 |[],_::_,h=>by simp at h
 |_::_,[],h=>by simp at h
 |x::a,y::b,h=>by simp_all [List.zip_cons_cons,List.all_cons,xZ,Bool.eq_iff_iff]
theorem B5{α:Type}{a b:List α}{i:Nat}{x:α×α}(h:(a.zip b)[i]? = some x):a[i]? = some x.1∧b[i]? = some x.2:=by
 grind
theorem alB(hG:HG G)(a b:List ab)(ha:a.length≤1073741824):FX G 63 KG ((a,b,()),())=some ((decide (a=b),()),()):=by
 refine av (hG _ _ rfl) akF ?_;by_cases hl:a.length=b.length
 case neg =>
  have h1:((((a.length:Nat):Int)) != ((b.length:Nat):Int))=true:=by simp;omega
  have h2:¬a=b:=fun e=>hl (by rw[e]);simp only[h1,h2,decide_false];rfl
 have h1:((((a.length:Nat):Int)) != ((b.length:Nat):Int))=false:=by simp[hl]
 simp only[h1];have MI:(a.zip b).length=a.length:=by simp[hl]
 have key:=bu (a.zip b) (fun i (_:Unit)=>LX G 63 KG Tryz.f63 DQ (aK Tryz.prog 63 0) ((a,(b,(i,()))),((),()))) (fun r _=>((r.all (fun p=>decide (p.1=p.2)),()),())) (fun _ _=>True) (fun s _=>by refine ar U9 ?_;rw[MI];simp only[cE,cond_false];rfl) (fun i x r s hi hx hr _ ih=>by
   rw[MI]at hi;obtain⟨h3,h4⟩:=B5 hx;refine ar U9 ?_;simp only[aT hi,cond_true,aB h3,aB h4,Option.bind_some,lO,aD hi ha];by_cases he:x.1=x.2
   ·simp only[he,decide_true,Bool.not_true,cond_false,List.all_cons,Bool.true_and];exact ih () trivial
   ·simp only[he,decide_false,Bool.not_false,cond_true,List.all_cons,Bool.false_and];rfl)
  () trivial
 rw[xZ a b hl]at key;exact key
def dG(row:List ab)(d:ab)(by_:Nat):Option ab:=if d∈row then row[((idx d row 0).toNat+by_)%row.length]? else none
def Lu:Option ab→ab×(Bool×Unit)
 |some y=>(y,(true,()))
 |none=>(zD,(false,()))
theorem tn(a n:Nat):Int.tmod (a:Int) (n:Int)=((a%n:Nat):Int):=by rfl
theorem I3{row:List ab}{d:ab}(h:d∈row):((((row.length:Nat):Int))==0)=false:=by
 grind
theorem af3(hG:HG G)(row:List ab)(d:ab)(hl:row.length≤1073741824):FX G 175 Ru ((row,d,()),())=some (Lu (dG row d (row.length-1)),()):=by
 refine av (hG _ _ rfl) akf ?_;refine aa (I2 (hG _ _ rfl) row d hl) ?_;by_cases h:d∈row
 ·obtain⟨k,h1,h2,h3⟩:=eV h;have hk:=(abC.1 h2).1;have hm:(k+(row.length-1))%row.length<row.length:=adJ _ (by omega);have e1:IntKind.wrap .i64 (IntKind.wrap .i64 ((k:Int)+((row.length:Nat):Int))-1)=((k+(row.length-1):Nat):Int):=by
   grind [wrap_small]
  have e2:¬((k:Int)<0):=by omega
  have e4:row[(k+(row.length-1))%row.length]? = some row[(k+(row.length-1))%row.length]:=aa8 hm;have e3:dG row d (row.length-1)=some row[(k+(row.length-1))%row.length]:=by simp_all [dG,if_pos]
  rw[e3];simp only[h1,e2,decide_false,cond_false,I3 h,e1,tn,aB e4,Option.bind_some];rfl
 ·have h1:=fq.2 h;have e3:dG row d (row.length-1)=none:=by unfold dG;rw[if_neg h]
  rw[e3];simp only[h1,decide_true,cond_true];rfl
theorem af4(hG:HG G)(row:List ab)(d:ab)(hl:row.length≤1073741824):FX G 243 KP ((row,d,()),())=some (Lu (dG row d 1),()):=by
 refine av (hG _ _ rfl) aeJ ?_;refine aa (I2 (hG _ _ rfl) row d hl) ?_;by_cases h:d∈row
 ·obtain⟨k,h1,h2,h3⟩:=eV h;have hk:=(abC.1 h2).1;have hm:(k+1)%row.length<row.length:=adJ _ (by omega);have e1:IntKind.wrap .i64 ((k:Int)+1)=((k+1:Nat):Int):=by
   grind [wrap_small]
  have e2:¬((k:Int)<0):=by omega
  have e4:row[(k+1)%row.length]? = some row[(k+1)%row.length]:=aa8 hm;have e3:dG row d 1=some row[(k+1)%row.length]:=by simp_all [dG,if_pos]
  rw[e3];simp only[h1,e2,decide_false,cond_false,I3 h,e1,tn,aB e4,Option.bind_some];rfl
 ·have h1:=fq.2 h;have e3:dG row d 1=none:=by unfold dG;rw[if_neg h]
  rw[e3];simp only[h1,decide_true,cond_true];rfl
def fW(row:List ab):List ab→Nat→Nat→Nat
 |[],_,k=>k
 |x::r,i,k=>if nP x (row.getD k zD)<0 then fW row r (i+1) i else fW row r (i+1) k
def Fa(row:List ab)(k:Nat):List ab:=row.drop k++row.take k
def cp(row:List ab):List ab:=Fa row (fW row row 0 0)
theorem ow(row:List ab):∀(r:List ab) (i k:Nat),k<row.length→i+r.length=row.length→fW row r i k<row.length
 |[],_,k,hk,_=>hk
 |x::r,i,k,hk,hi=>by
  unfold fW;simp at hi
  split
  ·exact ow row r (i+1) i (by omega) (by omega)
  ·exact ow row r (i+1) k hk (by omega)
theorem Ea(row:List ab)(k:Nat):(Fa row k).length=row.length:=by grind [Fa]
theorem jE(row:List ab):(cp row).length=row.length:=Ea _ _
theorem YV{row:List ab}{k:Nat}{d:ab}:d∈Fa row k↔d∈row:=by unfold Fa;rw[List.mem_append,or_comm,←List.mem_append,List.take_append_drop]
theorem pY{row:List ab}{d:ab}:d∈cp row↔d∈row:=YV
theorem PD{row:List ab}{k i:Nat}(hk:k≤row.length)(hi:i<row.length):(Fa row k)[i]? = row[(k+i)%row.length]? := by
 unfold Fa;by_cases h:k+i<row.length
 ·rw[List.getElem?_append_left (by simp;omega),List.getElem?_drop,Nat.mod_eq_of_lt h]
 ·rw[List.getElem?_append_right (by simp;omega),List.length_drop,List.getElem?_take,if_pos (by omega)];congr 1;have:(k+i)%row.length=k+i-row.length:=by rw[Nat.mod_eq_sub_mod (by omega),Nat.mod_eq_of_lt (by omega)]
  omega
theorem aci(row:List ab)(k:Nat)(hl:row.length≤100000000)(hk:k≤row.length):∀(n i:Nat) (out T:List ab),i+n=row.length→T=Fa row k→out=T.take i → LX G 132 sf Tryz.f132 DU (aK Tryz.prog 132 1) ((row,((k:Int),((i:Int),()))),((),(out,())))=some ((T,()),()):=by
 intro n
 induction n with
 |zero =>
  intro i out T hi hT ho;refine ar Vg ?_;have h1:¬((i:Int)<(row.length:Int)):=by omega
  have h2:out=T:=by grind [List.take_of_length_le,Ea]
  subst h2;simp only[h1,decide_false];rfl
 |succ n ih =>
  intro i out T hi hT ho;refine ar Vg ?_;have aN:i<row.length:=by omega
  have hm:(k+i)%row.length<row.length:=adJ _ (by omega);have h3:row[(k+i)%row.length]? = some row[(k+i)%row.length]:=aa8 hm;have h0:((((row.length:Nat):Int))==0)=false:=by grind
  have h4:IntKind.wrap .i64 ((k:Int)+(i:Int))=((k+i:Nat):Int):=by rw[wrap_small (by omega) (by omega)];rfl
  have hol:out.length≤row.length:=by rw[ho,hT];simp;omega
  have h5:aI out.length [row[(k+i)%row.length]].length=true:=fits (by simp;omega);have h6:out++[row[(k+i)%row.length]]=T.take (i+1):=by simp_all [List.take_add_one,PD]
  have h7:=ih (i+1) (out++[row[(k+i)%row.length]]) T (by omega) hT h6;simp only[aT aN,h0,h4,tn,aB h3,Option.bind_some,h5,aD aN (show row.length≤1073741824 by omega)];exact h7
theorem acj(hG:HG G)(row:List ab)(hl:row.length≤100000000):∀(n i k:Nat),i+n=row.length→(k<row.length∨(row=[]∧k=0)) → LX G 132 sf Tryz.f132 zx (aK Tryz.prog 132 0) ((row,((k:Int),((i:Int),()))),((),()))=some ((Fa row (fW row (row.drop i) i k),()),()):=by
 intro n
 induction n with
 |zero =>
  intro i k hi hk;refine ar Vf ?_;have h1:¬((i:Int)<(row.length:Int)):=by omega
  have h2:row.drop i=[]:=adF (by omega);simp only[h1,h2,decide_false,cond_false,fW];exact aci (G:=G) row k hl (by omega) row.length 0 [] (Fa row k) (by omega) rfl (by simp)
 |succ n ih =>
  intro i k hi hk;refine ar Vf ?_;have aN:i<row.length:=by omega
  have wy:k<row.length:=hk.resolve_right (by grind);have h2:row.drop i=row[i]::row.drop (i+1):=adu aN;have h3:row[i]? = some row[i]:=aa8 aN;have h4:row[k]? = some row[k]:=aa8 wy;have h5:row.getD k zD=row[k]:=by simp_all
  simp only[aT aN,cond_true,aB h3,aB h4,Option.bind_some,aD aN (show row.length≤1073741824 by omega)];refine aa (af2 hG row[i] row[k]) ?_;rw[h2,fW,h5];by_cases ho:nP row[i] row[k]<0
  ·rw[if_pos ho];simp only[ho,decide_true];exact ih (i+1) i (by omega) (.inl aN)
  ·rw[if_neg ho];simp only[ho,decide_false];exact ih (i+1) k (by omega) (.inl wy)
theorem Lv(hG:HG G)(row:List ab)(hl:row.length≤100000000):FX G 132 sf ((row,()),())=some ((cp row,()),()):=by refine av (hG _ _ rfl) akY ?_;have:=acj (G:=G) hG row hl row.length 0 0 (by omega) (by grind);exact this
def nQ(row:List ab)(after d:ab):List ab :=if d∈row then cp row else cp (row.take ((max 0 (idx after row 0)).toNat+1)++(d::row.drop ((max 0 (idx after row 0)).toNat+1)))
def iP(row:List ab)(d:ab):List ab:=cp (row.filter fun e=>decide (e≠d))
def fJ(row:List ab)(cI d:ab):List ab:=cp (if cI∈row∧d∉row then row.set (idx cI row 0).toNat d else row)
theorem af5(hG:HG G)(row:List ab)(d:ab)(hl:row.length≤100000000):FX G 176 AR ((row,d,()),())=some ((iP row d,()),()):=by
 refine av (hG _ _ rfl) aeH ?_;have key:=bu row (fun i (s:List ab)=>LX G 176 AR Tryz.f176 uu (aK Tryz.prog 176 0) ((row,(i,())),(((d,()),()),(s,())))) (fun r s=>((cp (s++r.filter fun e=>decide (e≠d)),()),())) (fun n s=>s.length+n≤row.length) (fun s hs=>by refine ar Pc ?_;simp only[cE,cond_false];refine aa (Lv hG s (by omega)) ?_;simp only[List.filter_nil,List.append_nil];rfl) (fun i x r s hi hx hr hs ih=>by
   refine ar Pc ?_;simp only[aT hi,cond_true,aB hx,Option.bind_some,lO,aD hi (show row.length≤1073741824 by omega)];by_cases he:x=d
   ·grind
   ·have h5:aI s.length [x].length=true:=fits (by simp;omega)
    grind)
  [] (by simp)
 exact key
theorem af6(hG:HG G)(row:List ab)(after d:ab)(hl:row.length≤90000000):FX G 172 AQ ((row,after,d,()),())=some ((nQ row after d,()),()):=by
 refine av (hG _ _ rfl) aeF ?_;refine aa (I2 (hG _ _ rfl) row d (by omega)) ?_;by_cases hd:d∈row
 case pos =>
  have h1:¬idx d row 0<0:=fun h=>fq.1 h hd;have h2:idx d row 0≥0:=by omega
  simp only[h2,decide_true,cond_true];refine aa (Lv hG row (by omega)) ?_;unfold nQ;rw[if_pos hd];rfl
 case neg =>
 have h1:¬idx d row 0≥0:=by simp_all [fq]
 simp only[h1,decide_false,cond_false];refine aa (I2 (hG _ _ rfl) row after (by omega)) ?_;obtain⟨k,hk⟩:∃k:Nat,max 0 (idx after row 0)=(k:Int):=⟨(max 0 (idx after row 0)).toNat,by omega⟩;have XI:k<row.length∨row=[]:=by
  rcases pX after row 0 (by omega) with⟨e,_⟩|⟨q,e,e2,_⟩
  ·have:k=0:=by omega
   subst this
   grind
  grind
 have xu:nQ row after d=cp (row.take (k+1)++(d::row.drop (k+1))):=by simp_all [nQ,if_neg]
 rw[xu];simp only[hk];obtain⟨fin,jr⟩:∃fin,fin=row.take (k+1)++(d::row.drop (k+1)):=⟨_,rfl⟩;rw[←jr];have loop:∀(n i:Nat) (out:List ab),i+n=row.length→out=(if i≤k then row.take i else(row.take (k+1)++[d])++(row.drop (k+1)).take (i-(k+1))) →
   LX G 172 AQ Tryz.f172 uq (aK Tryz.prog 172 0) ((row,((k:Int),((i:Int),()))),(((d,()),()),(out,())))=some ((cp fin,()),()):=by
  intro n
  induction n with
  |zero =>
   intro i out hi CZ;refine ar O9 ?_;have h1:¬((i:Int)<(row.length:Int)):=by omega
   rcases XI with XI|rfl
   ·have h0:((((row.length:Nat):Int))==0)=false:=by grind
    have h2:out=fin:=by
     have hle:(row.drop (k+1)).take (i-(k+1))=row.drop (k+1):=adQ (by simp_all)
     grind
    subst h2;simp only[h1,decide_false,h0];exact aa (Lv hG out (by grind)) rfl
   ·have hi0:i=0:=by simpa using hi
    subst hi0;have h2:out=[]:=by simp_all
    subst h2;have h3:fin=[d]:=by grind
    subst h3;exact aa (Lv hG [d] (by simp)) rfl
  |succ n ih =>
   intro i out hi CZ;refine ar O9 ?_;have aN:i<row.length:=by omega
   have hx:row[i]? = some row[i]:=aa8 aN;have hol:out.length≤row.length+1:=by rw[CZ];split<;>simp<;>omega
   have h5:aI out.length [row[i]].length=true:=fits (by simp;omega);simp only[aT aN,aB hx,Option.bind_some,aD aN (show row.length≤1073741824 by omega),h5];by_cases hik:i=k
   ·subst hik;have h6:aI (out++[row[i]]).length [d].length=true:=fits (by simp;omega);have h8:(((i:Nat):Int)==((i:Nat):Int))=true:=by simp
    simp only[h8,h6];exact ih (i+1) ((out++[row[i]])++[d]) (by omega) (by simp_all)
   ·have h8:(((i:Nat):Int)==((k:Nat):Int))=false:=by simp;omega
    simp only[h8];refine ih (i+1) (out++[row[i]]) (by omega) ?_;rw[CZ];by_cases hle:i≤k
    ·rw[if_pos hle,if_pos (by omega),List.take_add_one,hx];rfl
    ·have e9:(row.drop (k+1)).take (i+1-(k+1))=(row.drop (k+1)).take (i-(k+1))++[row[i]]:=by rw[show i+1-(k+1)=(i-(k+1))+1 by omega,List.take_add_one,List.getElem?_drop,show k+1+(i-(k+1))=i by omega,hx];rfl
     grind
 exact loop row.length 0 [] (by omega) (by simp)
theorem af7(hG:HG G)(row:List ab)(cI d:ab)(hl:row.length≤100000000):FX G 177 KO ((row,cI,d,()),())=some ((fJ row cI d,()),()):=by
 refine av (hG _ _ rfl) aeI ?_;have h5:aI ([]:List ab).length row.length=true:=fits (by simp;omega);simp only[h5,cond_true,List.nil_append];refine aa (I2 (hG _ _ rfl) row cI (by omega)) ?_;unfold fJ;by_cases ho:cI∈row
 ·obtain⟨k,h1,h2,h3⟩:=eV ho;have hk:=(abC.1 h2).1;have e1:((k:Int)≥0):=by omega
  simp only[h1,e1,decide_true];refine aa (I2 (hG _ _ rfl) row d (by omega)) ?_;by_cases hd:d∈row
  ·have h6:¬idx d row 0<0:=fun h=>fq.1 h hd;rw[if_neg (by simp[hd])];simp only[h6,decide_false];exact aa (Lv hG row hl) rfl
  ·have h6:=fq.2 hd;rw[if_pos ⟨ho,hd⟩];have h7:(0:Int)≤(k:Int):=by omega
   have h8:((k:Int)<((row.length:Nat):Int)):=by omega
   simp only[h6,decide_true,h7,h8,Bool.and_self,Int.toNat_natCast,h2];exact aa (Lv hG (row.set k d) (by simpa using hl)) rfl
 ·have h1:¬idx cI row 0≥0:=by simp_all [fq]
  rw[if_neg (by simp[ho])];simp only[h1,decide_false];exact aa (Lv hG row hl) rfl
def e0:ByteArray:=⟨#[]⟩
def zI:ID:=(0,0)
def zV:ai:=((0,0),([],(e0,0)))
def zE:ag:=((0,0),(e0,0))
def aR(l:List ai)(x:ID):Option ai:=l.find? fun v=>decide (v.1=x)
def ba(l:List ag)(x:ID):Option ag:=l.find? fun v=>decide (v.1=x)
def bq(d:ak)(x:ID):Option ai:=aR d.1 x
def hP(d:ak)(x:ID):Option ag:=ba d.2 x
def Fb(l:List ai)(x:ab):Option ID:=(l.find? fun v=>decide (x∈v.2.1)).map (·.1)
def cf(d:ak)(x:ab):Option ID:=Fb d.1 x
def rS{α:Type}(z:α):Option α→α×(Bool×Unit)
 |some y=>(y,(true,()))
 |none=>(z,(false,()))
theorem FG(hG:G 87 sd=none)(d:ak)(x:ID)(hl:d.1.length≤100000000):FX G 87 sd ((d,x,()),())=some (rS zV (bq d x),()):=by
 refine av hG aj8 ?_;have I4:=bu d.1 (fun i (_:Unit)=>LX G 87 sd Tryz.f87 DB (aK Tryz.prog 87 0) ((i,()),(((d,()),((x,()),(((0:Int),((0:Int),(([]:List ab),(e0,((0:Int),()))))),()))),()))) (fun(r:List ai) (_:Unit)=>(rS zV (aR r x),())) (fun _ _=>True) (fun s _=>by refine ar UG ?_;simp only[cE,cond_false];rfl) (fun i y r s hi hx hr _ ih=>by
   refine ar UG ?_;simp only[aT hi,cond_true,aB hx,Option.bind_some,lN,aD hi (show d.1.length≤1073741824 by omega)];by_cases he:y.1=x
   ·simp only[he,decide_true,aR,ba,List.find?_cons];subst he;rfl
   ·simp only[he,decide_false,aR,ba,List.find?_cons];exact ih () trivial)
  () trivial
 exact I4
theorem YW(hG:G 123 Br=none)(d:ak)(x:ID)(hl:d.2.length≤100000000):FX G 123 Br ((d,x,()),())=some (rS zE (hP d x),()):=by
 refine av hG akb ?_;have I4:=bu d.2 (fun i (_:Unit)=>LX G 123 Br Tryz.f123 DD (aK Tryz.prog 123 0) ((i,()),(((d,()),((x,()),(((((0:Int),(0:Int)),(e0,(0:Int))),()),()))),()))) (fun(r:List ag) (_:Unit)=>(rS zE (ba r x),())) (fun _ _=>True) (fun s _=>by refine ar UI ?_;simp only[cE,cond_false];rfl) (fun i y r s hi hx hr _ ih=>by
   refine ar UI ?_;simp only[aT hi,cond_true,aB hx,Option.bind_some,lN,aD hi (show d.2.length≤1073741824 by omega)];by_cases he:y.1=x
   ·simp only[he,decide_true,aR,ba,List.find?_cons];subst he;rfl
   ·simp only[he,decide_false,aR,ba,List.find?_cons];exact ih () trivial)
  () trivial
 exact I4
theorem Lw(hG:HG G)(d:ak)(x:ab)(hl:d.1.length≤100000000)(hr:∀v∈d.1,v.2.1.length≤100000000):FX G 174 wi ((d,x,()),())=some (rS zI (cf d x),()):=by
 refine av (hG _ _ rfl) aka ?_;have I4:=bu d.1 (fun i (_:Unit)=>LX G 174 wi Tryz.f174 DC (aK Tryz.prog 174 0) ((i,()),(((d,()),((x,()),((((0:Int),(0:Int)),()),()))),()))) (fun r _=>(rS zI (Fb r x),())) (fun _ _=>True) (fun s _=>by refine ar UH ?_;simp only[cE,cond_false];rfl) (fun i y r s hi hx ya _ ih=>by
   refine ar UH ?_;simp only[aT hi,cond_true,aB hx,Option.bind_some,aD hi (show d.1.length≤1073741824 by omega)];refine aa (I2 (hG _ _ rfl) y.2.1 x (by grind)) ?_;by_cases he:x∈y.2.1
   ·have h1:idx x y.2.1 0≥0:=by grind [eV]
    simp only[h1,decide_true,Fb,List.find?_cons,he];rfl
   ·have h1:¬idx x y.2.1 0≥0:=by simp_all [fq]
    simp only[h1,decide_false,Fb,List.find?_cons,he];exact ih () trivial)
  () trivial
 exact I4
theorem af8(hG:G 12 FA=none)(d:ak)(hl:d.1.length≤100000000)(vU:d.2.length≤100000000)(hr:∀v∈d.1,v.2.1.length≤100000000):FX G 12 FA ((d,()),())=some (((d.1,(d.2,())),()),()):=by
 refine av hG akp ?_;have h5:aI ([]:List ag).length d.2.length=true:=fits (by simp;omega);simp only[h5,cond_true,List.nil_append];have I4:=bu d.1 (fun i (out:List ai)=>LX G 12 FA Tryz.f12 DK (aK Tryz.prog 12 0) ((i,()),(((d,()),((([]:List ai),(([]:List ag),())),((out,(d.2,())),()))),()))) (fun r s=>(((s++r,(d.2,())),()),())) (fun n s=>s.length+n≤d.1.length) (fun s _=>by refine ar UR ?_;simp_all) (fun i y r s hi hx ya hs ih=>by
   refine ar UR ?_;have h6:aI ([]:List ab).length y.2.1.length=true:=fits (by grind);have h7:aI s.length [(y.1,(y.2.1,y.2.2))].length=true:=fits (by simp;omega);simp only[aT hi,aB hx,Option.bind_some,h6,List.nil_append,h7,aD hi (show d.1.length≤1073741824 by omega)]
   grind)
  [] (by simp)
 exact I4
def c8(v:ai):List ai→List ai
 |[]=>[v]
 |w::r=>if gN v.1 w.1 then v::w::r else w::c8 v r
def dL(v:ag):List ag→List ag
 |[]=>[v]
 |w::r=>if gN v.1 w.1 then v::w::r else w::dL v r
theorem b5(a:ID):gN a a=false:=by simp[gN]
theorem mu(a b:ID):sj a b<0↔gN a b=true:=by
 unfold sj;by_cases h:a=b
 ·grind [b5]
 grind
theorem af9(hG:HG G)(d:ak)(v:ai)(hl:d.1.length≤100000000):FX G 88 Iz ((d,v,()),())=some (((c8 v d.1,d.2),()),()):=by
 refine av (hG _ _ rfl) aku ?_;have key:=bu d.1 (fun i (s:Bool×List ai)=>LX G 88 Iz Tryz.f88 wj (aK Tryz.prog 88 0) ((s.1,(i,())),(((d,()),((v,()),((([]:List ai),(([]:List ag),())),((s.2,(d.2,())),())))),()))) (fun r s=>(((s.2++(if s.1 then r else c8 v r),d.2),()),())) (fun n s=>s.2.length+n≤d.1.length+(if s.1 then 1 else 0))
  (fun s hs=>by
   obtain⟨put,s⟩:=s;refine ar UU ?_;have h7:aI s.length [v].length=true:=fits (by grind)
   cases put
   ·simp_all [cE,c8]
   simp_all)
  (fun i y r s hi hx ya hs ih=>by
   obtain⟨put,s⟩:=s;refine ar UU ?_;have h6:aI s.length [y].length=true:=fits (by grind)
   cases put
   ·have h7:aI s.length [v].length=true:=fits (by grind);have h8:aI (s++[v]).length [y].length=true:=fits (by grind);simp only[aT hi,aB hx,Option.bind_some,aD hi (show d.1.length≤1073741824 by omega)];refine aa (ach (hG _ _ rfl) v.1 y.1) ?_;by_cases ho:gN v.1 y.1=true
    ·have h9:=(mu _ _).2 ho;have:=ih (true,(s++[v])++[y]) (by grind);simp only[h9,decide_true,h7,h8,c8,ho,if_true,Bool.false_eq_true,if_false];simp_all
    ·have h9:¬sj v.1 y.1<0:=fun h=>ho ((mu _ _).1 h);have:=ih (false,s++[y]) (by grind);simp only[h9,decide_false,h6,c8,ho,if_false,Bool.false_eq_true];simp_all
   ·have:=ih (true,s++[y]) (by grind);simp only[aT hi,aB hx,Option.bind_some,aD hi (show d.1.length≤1073741824 by omega),h6,if_true];simp_all)
  (false,[]) (by simp)
 exact key
theorem aga(hG:HG G)(d:ak)(v:ag)(hl:d.2.length≤100000000):FX G 125 Bv ((d,v,()),())=some (((d.1,dL v d.2),()),()):=by
 refine av (hG _ _ rfl) akS ?_;have key:=bu d.2 (fun i (s:Bool×List ag)=>LX G 125 Bv Tryz.f125 wm (aK Tryz.prog 125 0) ((s.1,(i,())),(((d,()),((v,()),((([]:List ai),(([]:List ag),())),((d.1,(s.2,())),())))),()))) (fun r s=>(((d.1,s.2++(if s.1 then r else dL v r)),()),())) (fun n s=>s.2.length+n≤d.2.length+(if s.1 then 1 else 0))
  (fun s hs=>by
   obtain⟨put,s⟩:=s;refine ar Vd ?_;have h7:aI s.length [v].length=true:=fits (by grind)
   cases put
   ·simp_all [cE,dL]
   simp_all)
  (fun i y r s hi hx ya hs ih=>by
   obtain⟨put,s⟩:=s;refine ar Vd ?_;have h6:aI s.length [y].length=true:=fits (by grind)
   cases put
   ·have h7:aI s.length [v].length=true:=fits (by grind);have h8:aI (s++[v]).length [y].length=true:=fits (by grind);simp only[aT hi,aB hx,Option.bind_some,aD hi (show d.2.length≤1073741824 by omega)];refine aa (ach (hG _ _ rfl) v.1 y.1) ?_;by_cases ho:gN v.1 y.1=true
    ·have h9:=(mu _ _).2 ho;have:=ih (true,(s++[v])++[y]) (by grind);simp only[h9,decide_true,h7,h8,dL,ho,if_true,Bool.false_eq_true,if_false];simp_all
    ·have h9:¬sj v.1 y.1<0:=fun h=>ho ((mu _ _).1 h);have:=ih (false,s++[y]) (by grind);simp only[h9,decide_false,h6,dL,ho,if_false,Bool.false_eq_true];simp_all
   ·have:=ih (true,s++[y]) (by grind);simp only[aT hi,aB hx,Option.bind_some,aD hi (show d.2.length≤1073741824 by omega),h6,if_true];simp_all)
  (false,[]) (by simp)
 exact key
def cY(l:List ai)(v:ID):List ai:=l.filter fun w=>decide (w.1≠v)
def dd(l:List ag)(v:ID):List ag:=l.filter fun w=>decide (w.1≠v)
def aM(d:ak)(v e:ID):ak:=(cY d.1 v,dd d.2 e)
theorem YX(hG:G 89 qZ=none)(d:ak)(v e:ID)(hl:d.1.length≤100000000)(vU:d.2.length≤100000000):FX G 89 qZ ((d,v,e,()),())=some ((aM d v e,()),()):=by
 refine av hG akv ?_;have Lx:=fun vs=>bu d.2 (fun i (s:List ag)=>LX G 89 qZ Tryz.f89 zu (aK Tryz.prog 89 1) ((i,()),(((d,()),((e,()),((([]:List ai),(([]:List ag),())),((vs,(s,())),())))),()))) (fun(r:List ag) (s:List ag)=>(((vs,s++dd r e),()),())) (fun n s=>s.length+n≤d.2.length) (fun s hs=>by refine ar UX ?_;simp only[cE,cY,dd,List.filter_nil,List.append_nil];rfl) (fun i y r s hi hx ya hs ih=>by
   refine ar UX ?_;have h6:aI s.length [y].length=true:=fits (by grind);simp only[aT hi,aB hx,Option.bind_some,lN,aD hi (show d.2.length≤1073741824 by omega)];by_cases he:y.1=e
   ·simp only[he,decide_true,Bool.not_true,ne_eq,not_true_eq_false,decide_false,cY,dd,List.filter_cons,Bool.false_eq_true,if_false];exact ih s (by omega)
   ·simp only[he,decide_false,Bool.not_false,h6,ne_eq,not_false_eq_true,decide_true,cY,dd,List.filter_cons,if_true];have:=ih (s++[y]) (by simp;omega);rw[List.append_assoc]at this;exact this)
  [] (by simp)
 have I4:=bu d.1 (fun i (s:List ai)=>LX G 89 qZ Tryz.f89 zt (aK Tryz.prog 89 0) ((i,()),(((d,()),((v,()),((e,()),((([]:List ai),(([]:List ag),())),((s,(([]:List ag),())),()))))),()))) (fun(r:List ai) (s:List ai)=>(((s++cY r v,dd d.2 e),()),())) (fun n s=>s.length+n≤d.1.length) (fun s hs=>by refine ar UW ?_;simp only[cE,cY,dd,List.filter_nil,List.append_nil];exact Lx s) (fun i y r s hi hx ya hs ih=>by
   refine ar UW ?_;have h6:aI s.length [y].length=true:=fits (by grind);simp only[aT hi,aB hx,Option.bind_some,lN,aD hi (show d.1.length≤1073741824 by omega)];by_cases he:y.1=v
   ·simp only[he,decide_true,Bool.not_true,ne_eq,not_true_eq_false,decide_false,cY,dd,List.filter_cons,Bool.false_eq_true,if_false];exact ih s (by omega)
   ·simp only[he,decide_false,Bool.not_false,h6,ne_eq,not_false_eq_true,decide_true,cY,dd,List.filter_cons,if_true];have:=ih (s++[y]) (by simp;omega);rw[List.append_assoc]at this;exact this)
  [] (by simp)
 exact I4
instance aon:DecidableEq (List ai):=@instDecidableEqList ai inferInstance
instance decLE:DecidableEq (List ag):=@instDecidableEqList ag inferInstance
instance aiQ:DecidableEq ak:=instDecidableEqProd
instance agb:DecidableEq StateT:=instDecidableEqProd
structure Sm(d:ak):Prop where
 v:d.1.length≤50000000
 e:d.2.length≤50000000
 r:∀w∈d.1,w.2.1.length≤50000000
def uH(x:ID)(l:List ab)(w:ai):ai:=if w.1=x then(w.1,(l,w.2.2)) else w
def ck(d:ak)(x:ID)(l:List ab):ak:=(d.1.map (uH x l),d.2)
theorem fK(i:Nat):decide ((0:Int)≤(i:Int))=true:=by simp
theorem yd{α:Type}(f:α→α)(l:List α)(i:Nat)(x:α)(hx:l[i]? = some x):((l.take i).map f++l.drop i).set i (f x)=(l.take (i+1)).map f++l.drop (i+1):=by have hi:=(abC.1 hx).1;have h2:l.drop i=l[i]::l.drop (i+1):=adu hi;have h3:l[i]=x:=(abC.1 hx).2;rw[List.set_append_right _ _ (by simp;omega),h2,List.length_map,List.length_take,Nat.min_eq_left (by omega),Nat.sub_self,List.set_cons_zero,List.take_add_one,hx];simp
theorem VM{α:Type}(f:α→α)(l:List α)(i:Nat)(x:α)(hx:l[i]? = some x)(hf:f x=x):(l.take i).map f++l.drop i=(l.take (i+1)).map f++l.drop (i+1):=by
 grind [List.getElem?_eq_some_iff,List.drop_eq_getElem_cons,List.take_add_one]
theorem YY{α:Type}(f:α→α)(l:List α)(i:Nat)(x:α)(hx:l[i]? = some x):((l.take i).map f++l.drop i)[i]? = some x:=by
 grind
theorem ack(hG:HG G)(d:ak)(x:ID)(l:List ab)(hs:Sm d):FX G 171 FD ((d,x,l,()),())=some ((ck d x l,()),()):=by
 have hv:=hs.v;have he:=hs.e;refine av (hG _ _ rfl) ald ?_;refine aa (af8 (hG _ _ rfl) d (by omega) (by omega) (fun w hw=>by have:=hs.r w hw;omega)) ?_;have loop:∀(n i:Nat) (out fin:List ai),i+n=d.1.length→out=(d.1.take i).map (uH x l)++d.1.drop i→fin=d.1.map (uH x l) → LX G 171 FD Tryz.f171 zB (aK Tryz.prog 171 0) ((l,((i:Int),())),(((x,()),((([]:List ai),(([]:List ag),())),((out,(d.2,())),()))),()))=some (((fin,d.2),()),()):=by
  intro n
  induction n with
  |zero =>
   intro i out fin hi ho hf;refine ar Vk ?_;have hol:out.length=d.1.length:=by simp_all
   have h1:¬((i:Int)<(out.length:Int)):=by omega
   have h2:out=fin:=by simp_all
   subst h2;simp only[h1,decide_false];rfl
  |succ n ih =>
   intro i out fin hi ho hf;refine ar Vk ?_;have hol:out.length=d.1.length:=by rw[ho];simp;omega
   have aN:i<d.1.length:=by omega
   have hx:d.1[i]? = some d.1[i]:=aa8 aN;have hg:out[i]? = some d.1[i]:=by grind [YY]
   simp only[aT (show i<out.length by omega),fK,Bool.and_self,Int.toNat_natCast,hg,Option.bind_some,lN,aD aN (show d.1.length≤1073741824 by omega)];by_cases hq:d.1[i].1=x
   ·have e1:uH x l d.1[i]=(x,(l,d.1[i].2.2)):=by simp_all [uH,if_pos]
    simp only[hq,decide_true];exact ih (i+1) (out.set i (x,(l,d.1[i].2.2))) fin (by omega) (by grind [yd]) hf
   ·have e1:uH x l d.1[i]=d.1[i]:=by unfold uH;rw[if_neg hq]
    simp only[hq,decide_false];exact ih (i+1) out fin (by omega) (by grind [VM]) hf
 exact loop d.1.length 0 d.1 (d.1.map (uH x l)) (by omega) (by simp) rfl
def bI(d:ak)(x:ID):List ab:=((bq d x).getD zV).2.1
theorem la{α:Type}(z:α)(o:Option α):(rS z o).1=o.getD z:=by cases o<;>rfl
theorem je{α:Type}(z:α)(o:Option α):(rS z o).2.1=o.isSome:=by cases o<;>rfl
theorem pZ{d:ak}(hs:Sm d)(x:ID):(bI d x).length≤50000000:=by
 unfold bI
 cases h:bq d x with
 |none=>simp[zV]
 |some v=>exact hs.r v (adq h)
def bV(d:ak)(c:rN)(x:ab):ak:=ck d c.1 (nQ (bI d c.1) c.2 x)
def aE(d:ak)(cI x:ab):ak:=ck d ((cf d cI).getD zI) (fJ (bI d ((cf d cI).getD zI)) cI x)
def aH(d:ak)(x:ab):ak:=ck d ((cf d x).getD zI) (iP (bI d ((cf d x).getD zI)) x)
theorem agc(hG:HG G)(d:ak)(c:rN)(x:ab)(hs:Sm d):FX G 126 Bw ((d,c,x,()),())=some ((bV d c x,()),()):=by have hv:=hs.v;have hr:=pZ hs c.1;refine av (hG _ _ rfl) akT ?_;refine aa (FG (hG _ _ rfl) d c.1 (by omega)) ?_;rw[show(rS zV (bq d c.1)).1=(bq d c.1).getD zV from la _ _];refine aa (af6 hG (bI d c.1) c.2 x (by omega)) ?_;exact aa (ack hG d c.1 (nQ (bI d c.1) c.2 x) hs) rfl
theorem agd(hG:HG G)(d:ak)(cI x:ab)(hs:Sm d):FX G 130 KK ((d,cI,x,()),())=some ((aE d cI x,()),()):=by have hv:=hs.v;have hr:=pZ hs ((cf d cI).getD zI);refine av (hG _ _ rfl) akX ?_;refine aa (Lw hG d cI (by omega) (fun w hw=>by have:=hs.r w hw;omega)) ?_;rw[show(rS zI (cf d cI)).1=(cf d cI).getD zI from la _ _];refine aa (FG (hG _ _ rfl) d ((cf d cI).getD zI) (by omega)) ?_;rw[show(rS zV (bq d ((cf d cI).getD zI))).1=(bq d ((cf d cI).getD zI)).getD zV from la _ _];refine aa (af7 hG (bI d ((cf d cI).getD zI)) cI x (by omega)) ?_;exact aa (ack hG d ((cf d cI).getD zI) (fJ (bI d ((cf d cI).getD zI)) cI x) hs) rfl
theorem age(hG:HG G)(d:ak)(x:ab)(hs:Sm d):FX G 129 RE ((d,x,()),())=some ((aH d x,()),()):=by have hv:=hs.v;have hr:=pZ hs ((cf d x).getD zI);refine av (hG _ _ rfl) akW ?_;refine aa (Lw hG d x (by omega) (fun w hw=>by have:=hs.r w hw;omega)) ?_;rw[show(rS zI (cf d x)).1=(cf d x).getD zI from la _ _];refine aa (FG (hG _ _ rfl) d ((cf d x).getD zI) (by omega)) ?_;rw[show(rS zV (bq d ((cf d x).getD zI))).1=(bq d ((cf d x).getD zI)).getD zV from la _ _];refine aa (af5 hG (bI d ((cf d x).getD zI)) x (by omega)) ?_;exact aa (ack hG d ((cf d x).getD zI) (iP (bI d ((cf d x).getD zI)) x) hs) rfl
def jF(row:List ab)(x:ab):ab:=(dG row x (row.length-1)).getD zD
theorem B6(o:Option ab):(Lu o).1=o.getD zD:=by cases o<;>rfl
def dq(d:ak)(x:ab):ab :=
 let row:=bI d ((cf d x).getD zI)
 let y:=jF row x
 let z:=if y.1=x.1 then jF row y else y
 if z.1=x.1 then zD else z
theorem agf(hG:HG G)(d:ak)(x:ab)(hs:Sm d):FX G 128 RD ((d,x,()),())=some ((dq d x,()),()):=by
 have hv:=hs.v;have hr:=pZ hs ((cf d x).getD zI);refine av (hG _ _ rfl) akV ?_;refine aa (Lw hG d x (by omega) (fun w hw=>by have:=hs.r w hw;omega)) ?_;rw[show(rS zI (cf d x)).1=(cf d x).getD zI from la _ _];refine aa (FG (hG _ _ rfl) d ((cf d x).getD zI) (by omega)) ?_;rw[show(rS zV (bq d ((cf d x).getD zI))).1=(bq d ((cf d x).getD zI)).getD zV from la _ _];refine aa (af3 hG (bI d ((cf d x).getD zI)) x (by omega)) ?_;rw[show(Lu (dG (bI d ((cf d x).getD zI)) x ((bI d ((cf d x).getD zI)).length-1))).1=jF (bI d ((cf d x).getD zI)) x from B6 _];unfold dq;obtain⟨y,hy⟩:∃y,y=jF (bI d ((cf d x).getD zI)) x:=⟨_,rfl⟩;simp only[←hy,lN];by_cases h1:y.1=x.1
 ·have d1:=decide_eq_true h1;rw[if_pos h1];simp only[d1];refine aa (af3 hG (bI d ((cf d x).getD zI)) y (by omega)) ?_;rw[show(Lu (dG (bI d ((cf d x).getD zI)) y ((bI d ((cf d x).getD zI)).length-1))).1=jF (bI d ((cf d x).getD zI)) y from B6 _];by_cases h2:(jF (bI d ((cf d x).getD zI)) y).1=x.1
  ·have d2:=decide_eq_true h2;rw[if_pos h2];simp only[d2];rfl
  ·have d2:=decide_eq_false h2;rw[if_neg h2];simp only[d2];rfl
 ·have d1:=decide_eq_false h1;rw[if_neg h1,if_neg h1];simp only[d1];rfl
def ic(l:List ax)(d:ab):Option ab:=(l.find? fun g=>decide (g.1=d)).map (·.2)
theorem aaO(hG:G 173 vB=none)(l:List ax)(d:ab)(hl:l.length≤100000000):FX G 173 vB ((l,d,()),())=some (rS zD (ic l d),()):=by
 refine av hG aeG ?_;have key:=bu l (fun i (_:Unit)=>LX G 173 vB Tryz.f173 xG (aK Tryz.prog 173 0) ((l,(i,())),(((d,()),(((((0:Int),(0:Int)),(0:Int)),()),())),()))) (fun(r:List ax) (_:Unit)=>(rS zD (ic r d),())) (fun _ _=>True) (fun s _=>by refine ar Pb ?_;simp only[cE,cond_false];rfl) (fun i y r s hi hx hr _ ih=>by
   refine ar Pb ?_;simp only[aT hi,aB hx,Option.bind_some,lO,aD hi (show l.length≤1073741824 by omega)];by_cases he:y.1=d
   ·simp only[he,decide_true,ic,List.find?_cons];rfl
   ·simp only[he,decide_false,ic,List.find?_cons];exact ih () trivial)
  () trivial
 exact key
theorem alC(hG:G 38 IA=none)(a b:List ax)(ha:a.length≤100000000):FX G 38 IA ((a,b,()),())=some ((decide (a=b),()),()):=by
 refine av hG akB ?_;by_cases hl:a.length=b.length
 case neg =>
  have h1:((((a.length:Nat):Int)) != ((b.length:Nat):Int))=true:=by simp;omega
  have h2:¬a=b:=fun e=>hl (by rw[e]);simp only[h1,h2,decide_false];rfl
 have h1:((((a.length:Nat):Int)) != ((b.length:Nat):Int))=false:=by simp[hl]
 simp only[h1];have MI:(a.zip b).length=a.length:=by simp[hl]
 have key:=bu (a.zip b) (fun i (_:Unit)=>LX G 38 IA Tryz.f38 DN (aK Tryz.prog 38 0) ((a,(b,(i,()))),((),()))) (fun r _=>((r.all (fun p=>decide (p.1=p.2)),()),())) (fun _ _=>True) (fun s _=>by refine ar U4 ?_;rw[MI];simp only[cE];rfl) (fun i x r s hi hx hr _ ih=>by
   rw[MI]at hi;obtain⟨h3,h4⟩:=B5 hx;refine ar U4 ?_;simp only[aT hi,aB h3,aB h4,Option.bind_some,lO,aD hi (show a.length≤1073741824 by omega)];by_cases he:x.1=x.2
   ·simp only[he,decide_true,Bool.and_self,Bool.not_true,List.all_cons,Bool.true_and];exact ih () trivial
   ·have h9:(decide (x.1.1=x.2.1)&&decide (x.1.2=x.2.2))=false:=by
     grind
    simp only[he,h9,decide_false,Bool.not_false,List.all_cons,Bool.false_and];rfl)
  () trivial
 rw[xZ a b hl]at key;exact key
theorem alD(hG:HG G)(a b:ak)(hs:Sm a):FX G 37 Dk ((a,b,()),())=some ((decide (a=b),()),()):=by
 have hv:=hs.v;have he:=hs.e;refine av (hG _ _ rfl) akg ?_;by_cases hl:a.1.length=b.1.length
 case neg =>
  have h1:((((a.1.length:Nat):Int)) != ((b.1.length:Nat):Int))=true:=by simp;omega
  have h2:¬a=b:=fun e=>hl (by rw[e]);simp only[h1,h2,decide_false];rfl
 have h1:((((a.1.length:Nat):Int)) != ((b.1.length:Nat):Int))=false:=by simp[hl]
 simp only[h1];by_cases vU:a.2.length=b.2.length
 case neg =>
  have h1:((((a.2.length:Nat):Int)) != ((b.2.length:Nat):Int))=true:=by simp;omega
  have h2:¬a=b:=fun e=>vU (by rw[e]);simp only[h1,h2,decide_false];rfl
 have h2:((((a.2.length:Nat):Int)) != ((b.2.length:Nat):Int))=false:=by simp[vU]
 simp only[h2];have MI:(a.1.zip b.1).length=a.1.length:=by simp[hl]
 have agh:(a.2.zip b.2).length=a.2.length:=by simp[vU]
 have Lx:=bu (a.2.zip b.2) (fun i (_:Unit)=>LX G 37 Dk Tryz.f37 DH (aK Tryz.prog 37 1) ((i,()),(((a,()),((b,()),())),()))) (fun r _=>((r.all (fun p=>decide (p.1=p.2)),()),())) (fun _ _=>True) (fun s _=>by refine ar UM ?_;rw[agh];simp only[cE];rfl) (fun i x r s hi hx hr _ ih=>by
   rw[agh]at hi;obtain⟨h3,h4⟩:=B5 hx;refine ar UM ?_;simp only[aT hi,aB h3,aB h4,Option.bind_some,lN,YU,aD hi (show a.2.length≤1073741824 by omega)];by_cases he:x.1=x.2
   ·simp only[he,decide_true,beq_self_eq_true,Bool.and_self,Bool.not_true,List.all_cons,Bool.true_and];exact ih () trivial
   ·have h9:(decide (x.1.1=x.2.1)&&(decide (x.1.2.1=x.2.2.1)&&(x.1.2.2==x.2.2.2)))=false:=by
     grind
    simp only[he,h9,decide_false,Bool.not_false,List.all_cons,Bool.false_and];rfl)
  () trivial
 rw[xZ a.2 b.2 vU]at Lx;have key:=bu (a.1.zip b.1) (fun i (_:Unit)=>LX G 37 Dk Tryz.f37 DG (aK Tryz.prog 37 0) ((i,()),(((a,()),((b,()),())),()))) (fun r _=>((r.all (fun p=>decide (p.1=p.2))&&decide (a.2=b.2),()),())) (fun _ _=>True) (fun s _=>by refine ar UL ?_;rw[MI];simp only[cE,List.all_nil,Bool.true_and];exact Lx) (fun i x r s hi hx hr _ ih=>by
   rw[MI]at hi;obtain⟨h3,h4⟩:=B5 hx;refine ar UL ?_;simp only[aT hi,aB h3,aB h4,Option.bind_some,lN,YU,aD hi (show a.1.length≤1073741824 by omega)];refine aa (alB hG x.1.2.1 x.2.2.1 (by have:=hs.r x.1 (acI h3);omega)) ?_;by_cases e1:x.1.1=x.2.1
   case neg =>
    have he:¬x.1=x.2:=fun e=>e1 (by rw[e]);have d1:=decide_eq_false e1;simp only[d1,he,decide_false,List.all_cons,Bool.false_and];rfl
   have d1:=decide_eq_true e1;by_cases e2:x.1.2.2.1=x.2.2.2.1
   case neg =>
    have he:¬x.1=x.2:=fun e=>e2 (by rw[e]);have d2:=decide_eq_false e2;simp only[d1,d2,he,decide_false,List.all_cons,Bool.false_and];rfl
   have d2:=decide_eq_true e2;by_cases e3:x.1.2.2.2=x.2.2.2.2
   case neg =>
    have he:¬x.1=x.2:=fun e=>e3 (by rw[e]);have h8:(x.1.2.2.2 != x.2.2.2.2)=true:=by simp[e3]
    simp only[d1,d2,h8,he,decide_false,List.all_cons,Bool.false_and];rfl
   have h8:(x.1.2.2.2 != x.2.2.2.2)=false:=by simp[e3]
   by_cases e4:x.1.2.1=x.2.2.1
   case neg =>
    have he:¬x.1=x.2:=fun e=>e4 (by rw[e]);have d4:=decide_eq_false e4;simp only[d1,d2,h8,d4,he,decide_false,List.all_cons,Bool.false_and];rfl
   have d4:=decide_eq_true e4;have he:decide (x.1=x.2)=true:=decide_eq_true (Prod.ext e1 (Prod.ext e4 (Prod.ext e2 e3)));simp only[d1,d2,h8,d4,he,List.all_cons,Bool.true_and];exact ih () trivial)
  () trivial
 rw[xZ a.1 b.1 hl]at key;have jr:(decide (a.1=b.1)&&decide (a.2=b.2))=decide (a=b):=by
  grind
 exact key.trans (congrArg (fun b:Bool=>some ((b,()),())) jr)
theorem agi(hG:HG G)(a b:StateT)(hs:Sm a.1)(hg:a.2.length≤50000000):FX G 14 Ky ((a,b,()),())=some ((decide (a=b),()),()):=by
 refine av (hG _ _ rfl) aj7 ?_;refine aa (alD hG a.1 b.1 hs) ?_;refine aa (alC (hG _ _ rfl) a.2 b.2 (by omega)) ?_;have jr:(decide (a.1=b.1)&&decide (a.2=b.2))=decide (a=b):=by
  grind
 rw[←jr];by_cases h:a.1=b.1
 ·simp only[h,decide_true,Bool.true_and];rfl
 ·simp only[h,decide_false,Bool.false_and];rfl
def oQ(g:ax)(l:List ax):List ax:=l.filter fun q=>decide (q.1≠g.1)
def mv(g:ax):List ax→List ax
 |[]=>[g]
 |e::r=>if nP g.1 e.1≤0 then g::oQ g (e::r) else if e.1≠g.1 then e::mv g r else mv g r
def bT(l:List ax)(g:ax):List ax:=if(ic l g.1).isSome=false∧400≤l.length then l else mv g l
def RV(g:ax)(put:Bool)(r:List ax):List ax:=if put then oQ g r else mv g r
theorem agj(hG:HG G)(l:List ax)(g:ax)(hl:l.length≤50000000) :
  LX G 127 Bx Tryz.f127 l8 (aK Tryz.prog 127 0) ((l,(false,((0:Int),()))),(((g,()),()),(([]:List ax),())))=some ((mv g l,()),()):=by
 have key:=bu l (fun i (s:Bool×List ax)=>LX G 127 Bx Tryz.f127 l8 (aK Tryz.prog 127 0) ((l,(s.1,(i,()))),(((g,()),()),(s.2,())))) (fun(r:List ax) (s:Bool×List ax)=>((s.2++RV g s.1 r,()),())) (fun n s=>s.2.length+n≤l.length+(if s.1 then 1 else 0))
  (fun s hs=>by
   obtain⟨put,s⟩:=s;refine ar Ve ?_;have h7:aI s.length [g].length=true:=fits (by grind)
   cases put
   ·simp_all [cE,RV,mv]
   ·simp only[cE,RV,if_true,oQ,List.filter_nil,List.append_nil];rfl)
  (fun i y r s hi hx ya hs ih=>by
   obtain⟨put,s⟩:=s;refine ar Ve ?_;have h6:aI s.length [y].length=true:=fits (by grind);have hw:=aD hi (show l.length≤1073741824 by omega)
   cases put
   ·have h7:aI s.length [g].length=true:=fits (by grind);have h8:aI (s++[g]).length [y].length=true:=fits (by grind);simp only[aT hi,aB hx,Option.bind_some,hw];refine aa (af2 hG g.1 y.1) ?_;by_cases ho:nP g.1 y.1≤0
    ·have d0:=decide_eq_true ho;by_cases hy:y.1=g.1
     ·have d1:=decide_eq_true hy;have:=ih (true,s++[g]) (by grind);simp only[d0,h7,lO,d1,RV,mv,ho,if_true,Bool.false_eq_true,if_false];refine this.trans (congrArg (fun l:List ax=>some ((l,()),())) ?_);simp[RV,oQ,hy]
     ·have d1:=decide_eq_false hy;have:=ih (true,(s++[g])++[y]) (by grind);simp only[d0,h7,h8,lO,d1,RV,mv,ho,if_true,Bool.false_eq_true,if_false];refine this.trans (congrArg (fun l:List ax=>some ((l,()),())) ?_);simp[RV,oQ,hy]
    ·have d0:=decide_eq_false ho;by_cases hy:y.1=g.1
     ·have d1:=decide_eq_true hy;have:=ih (false,s) (by omega);simp only[d0,lO,d1,RV,mv,ho,Bool.false_eq_true,if_false];refine this.trans (congrArg (fun l:List ax=>some ((l,()),())) ?_);simp[RV,hy]
     ·have d1:=decide_eq_false hy;have:=ih (false,s++[y]) (by grind);simp only[d0,h6,lO,d1,RV,mv,ho,Bool.false_eq_true,if_false];refine this.trans (congrArg (fun l:List ax=>some ((l,()),())) ?_);simp[RV,hy]
   ·by_cases hy:y.1=g.1
    ·have d1:=decide_eq_true hy;have:=ih (true,s) (by omega);simp only[aT hi,aB hx,Option.bind_some,hw,lO,d1];refine this.trans (congrArg (fun l:List ax=>some ((l,()),())) ?_);simp[RV,oQ,hy]
    ·have d1:=decide_eq_false hy;have:=ih (true,s++[y]) (by grind);simp only[aT hi,aB hx,Option.bind_some,hw,lO,d1,h6];refine this.trans (congrArg (fun l:List ax=>some ((l,()),())) ?_);simp[RV,oQ,hy])
  (false,[]) (by simp)
 exact key
theorem YZ(hG:HG G)(l:List ax)(g:ax)(hl:l.length≤50000000):FX G 127 Bx ((l,g,()),())=some ((bT l g,()),()):=by
 refine av (hG _ _ rfl) akU ?_;refine aa (aaO (hG _ _ rfl) l g.1 (by omega)) ?_;rw[show(rS zD (ic l g.1)).2.1=(ic l g.1).isSome from je _ _];unfold bT
 cases hf:(ic l g.1).isSome
 ·by_cases hn:400≤l.length
  ·have h1:decide (((l.length:Nat):Int)≥400)=true:=by simp;omega
   rw[if_pos ⟨rfl,hn⟩];simp only[h1];rfl
  ·have h1:decide (((l.length:Nat):Int)≥400)=false:=by simp;omega
   rw[if_neg (by simp[hn])];simp only[h1];exact agj hG l g hl
 ·rw[if_neg (by simp)];exact agj hG l g hl
def res(d:ak)(gn:List ax):Nat→ab→ab
 |0,_=>zD
 |n+1,x=>if(cf d x).isSome then x else match ic gn x with
  |none=>zD
  |some y=>res d gn n y
def resolve(s:StateT)(x:ab):ab:=res s.1 s.2 (s.2.length+1) x
theorem alE(hG:HG G)(s:StateT)(x:ab)(hs:Sm s.1)(hg:s.2.length≤50000000):FX G 169 KN ((s,x,()),())=some ((resolve s x,()),()):=by
 refine av (hG _ _ rfl) alc ?_;have hv:=hs.v;have loop:∀(n i:Nat) (y:ab),i+n=s.2.length+1→LX G 169 KN Tryz.f169 DV (aK Tryz.prog 169 0) (((i:Int),()),((s,()),((y,()),(((((0:Int),(0:Int)),(0:Int)),()),()))),())=some ((res s.1 s.2 n y,()),()):=by
  intro n
  induction n with
  |zero =>
   intro i y hi;refine ar Vj ?_;have h1:decide ((i:Int)≤((s.2.length:Nat):Int))=false:=by simp;omega
   simp only[h1];rfl
  |succ n ih =>
   intro i y hi;refine ar Vj ?_;have h1:decide ((i:Int)≤((s.2.length:Nat):Int))=true:=by simp;omega
   have hw:IntKind.wrap .i64 ((i:Int)+1)=((i+1:Nat):Int):=by grind [wrap_small]
   simp only[h1,hw];refine aa (Lw hG s.1 y (by omega) (fun w hw=>by have:=hs.r w hw;omega)) ?_;rw[show(rS zI (cf s.1 y)).2.1=(cf s.1 y).isSome from je _ _,res]
   cases ha:(cf s.1 y).isSome
   ·simp only[Bool.false_eq_true,if_false];refine aa (aaO (hG _ _ rfl) s.2 y (by omega)) ?_
    cases hf:ic s.2 y with
    |none=>rfl
    |some z=>exact ih (i+1) z (by omega)
   ·rfl
 exact loop (s.2.length+1) 0 x (by omega)
def zC:rN:=(zI,zD)
def ye(s:StateT)(c:rN)(v:ai):ab:=if resolve s c.2∈v.2.1 then resolve s c.2 else zD
def bC(s:StateT)(c:rN):rN×(Int×Unit):=match bq s.1 c.1 with
 |none=>(zC,(13,()))
 |some v=>((c.1,ye s c v),(0,()))
theorem agk(hG:HG G)(s:StateT)(c:rN)(hs:Sm s.1)(hg:s.2.length≤50000000):FX G 124 RC ((s,c,()),())=some (bC s c,()):=by
 have hv:=hs.v;refine av (hG _ _ rfl) akR ?_;refine aa (FG (hG _ _ rfl) s.1 c.1 (by omega)) ?_;unfold bC
 cases hf:bq s.1 c.1 with
 |none=>rfl
 |some v =>
  have hr:v.2.1.length≤50000000:=hs.r v (adq hf);refine aa (alE hG s c.2 hs hg) ?_;refine aa (I2 (hG _ _ rfl) v.2.1 (resolve s c.2) (by omega)) ?_;by_cases hm:resolve s c.2∈v.2.1
  ·have h1:decide (idx (resolve s c.2) v.2.1 0<0)=false:=decide_eq_false (fun h=>fq.1 h hm);have h2:ye s c v=resolve s c.2:=if_pos hm;simp only[h1];exact congrArg (fun z:ab=>some (((c.1,z),((0:Int),())),())) h2.symm
  ·have h1:decide (idx (resolve s c.2) v.2.1 0<0)=true:=decide_eq_true (fq.2 hm);have h2:ye s c v=zD:=if_neg hm;simp only[h1];exact congrArg (fun z:ab=>some (((c.1,z),((0:Int),())),())) h2.symm
def aj(x:ab):ab:=(x.1,IntKind.wrap .i64 (1-x.2))
def km(d:ak)(x:ab):Option ab:=match cf d x with
 |none=>none
 |some a=>dG (bI d a) x 1
theorem alF(hG:HG G)(d:ak)(x:ab)(hs:Sm d):FX G 237 Uy ((d,x,()),())=some (Lu (km d x),()):=by
 have hv:=hs.v;refine av (hG _ _ rfl) akZ ?_;refine aa (Lw hG d x (by omega) (fun w hw=>by have:=hs.r w hw;omega)) ?_;unfold km
 cases ha:cf d x with
 |none=>rfl
 |some a =>have hr:=pZ hs a;refine aa (FG (hG _ _ rfl) d a (by omega)) ?_;rw[show(rS zV (bq d a)).1=(bq d a).getD zV from la _ _];exact aa (af4 hG (bI d a) x (by omega)) rfl
def JF(d:ak)(x:ab):Option ab:=if(cf d x).isSome then km d (aj x) else none
theorem agl(hG:HG G)(d:ak)(x:ab)(hs:Sm d):FX G 226 Ry ((d,x,()),())=some (Lu (JF d x),()):=by
 have hv:=hs.v;refine av (hG _ _ rfl) akC ?_;refine aa (Lw hG d x (by omega) (fun w hw=>by have:=hs.r w hw;omega)) ?_;rw[show(rS zI (cf d x)).2.1=(cf d x).isSome from je _ _];unfold JF
 cases ha:(cf d x).isSome
 ·rfl
 ·refine aa (acg (hG _ _ rfl) x) ?_;exact aa (alF hG d (aj x) hs) rfl
def tp(d:ak)(x:ab):Nat→ab→List ab→List ab
 |0,_,out=>out
 |n+1,y,out=>if y=x then out else tp d x n ((JF d y).getD zD) (out++[y])
def bp(d:ak)(x:ab):List ab:=match JF d x with
 |none=>[]
 |some y=>tp d x 81 y [x]
theorem alG(hG:HG G)(d:ak)(x:ab)(hs:Sm d):FX G 210 Kz ((d,x,()),())=some ((bp d x,()),()):=by
 refine av (hG _ _ rfl) akc ?_;refine aa (agl hG d x hs) ?_;unfold bp
 cases hp:JF d x with
 |none=>rfl
 |some y =>
  have h5:aI ([]:List ab).length [x].length=true:=fits (by simp);have loop:∀(n:Nat) (y:ab) (out:List ab),out.length+n=82→LX G 210 Kz Tryz.f210 DE (aK Tryz.prog 210 0) ((),((d,()),((x,()),((y,()),()))),(out,()))=some ((tp d x n y out,()),()):=by
   intro n
   induction n with
   |zero =>
    intro y out ho;refine ar UJ ?_;have h1:decide (((out.length:Nat):Int)<82)=false:=by simp;omega
    simp only[lO,h1];by_cases hy:y=x
    ·have d1:=decide_eq_true hy;simp only[d1];rfl
    ·have d1:=decide_eq_false hy;simp only[d1];rfl
   |succ n ih =>
    intro y out ho;refine ar UJ ?_;have h1:decide (((out.length:Nat):Int)<82)=true:=by simp;omega
    have h6:aI out.length [y].length=true:=fits (by simp;omega);simp only[lO,h1,h6];rw[tp];by_cases hy:y=x
    ·have d1:=decide_eq_true hy;rw[if_pos hy];simp only[d1];rfl
    ·have d1:=decide_eq_false hy;rw[if_neg hy];simp only[d1];refine aa (agl hG d y hs) ?_;rw[show(Lu (JF d y)).1=(JF d y).getD zD from B6 _];exact ih ((JF d y).getD zD) (out++[y]) (by simp;omega)
  exact loop 81 y [x] (by simp)
theorem He(d:ak)(x:ab):∀(n:Nat) (y:ab) (out:List ab),(tp d x n y out).length≤out.length+n
 |0,_,out=>acf _
 |n+1,y,out=>by
  unfold tp
  split
  ·omega
  ·have:=He d x n ((JF d y).getD zD) (out++[y]);simp at this;omega
theorem Hf(d:ak)(x:ab):(bp d x).length≤82:=by
 grind [bp,JF,He]
def fw:List ag→List ab
 |[]=>[]
 |e::r=>(e.1,0)::(e.1,1)::fw r
theorem nD:∀l:List ag,(fw l).length=2*l.length
 |[]=>rfl
 |e::r=>by simp[fw,nD r];omega
theorem alH(hG:G 209 IC=none)(d:ak)(hs:Sm d):FX G 209 IC ((d,()),())=some ((fw d.2,()),()):=by have he:=hs.e;refine av hG akH ?_;have key:=bu d.2 (fun i (s:List ab)=>LX G 209 IC Tryz.f209 DS (aK Tryz.prog 209 0) ((i,()),(((d,()),()),(s,())))) (fun(r:List ag) (s:List ab)=>((s++fw r,()),())) (fun n s=>s.length+2*n≤2*d.2.length) (fun s _=>by refine ar Vb ?_;simp only[cE,fw,List.append_nil];rfl) (fun i y r s hi hx ya hs ih=>by refine ar Vb ?_;have h6:aI s.length [((y.1,(0:Int)):ab),(y.1,(1:Int))].length=true:=fits (by simp;omega);simp only[aT hi,aB hx,Option.bind_some,h6,aD hi (show d.2.length≤1073741824 by omega)];have:=ih (s++[(y.1,0),(y.1,1)]) (by simp;omega);refine this.trans (congrArg (fun l:List ab=>some ((l,()),())) ?_);simp[fw]) [] (by simp);exact key
def jf(d:ak):List ab→List (List ab)→List ab→List (List ab)
 |[],out,_=>out
 |x::r,out,told=>if x∈told then jf d r out told else jf d r (out++[bp d x]) (told++bp d x)
def bW(d:ak):List (List ab):=jf d (fw d.2) [] []
theorem alI(hG:HG G)(d:ak)(hs:Sm d)(he:d.2.length≤5000000):FX G 185 KA ((d,()),())=some ((bW d,()),()):=by
 refine av (hG _ _ rfl) akk ?_;refine aa (alH (hG _ _ rfl) d hs) ?_;have Lf:=nD d.2;unfold bW;generalize fw d.2=ds at *;have key:=bu ds (fun i (s:List (List ab)×List ab)=>LX G 185 KA Tryz.f185 zq (aK Tryz.prog 185 0) ((i,()),(((d,()),()),(s.1,(s.2,(ds,())))))) (fun(r:List ab) (s:List (List ab)×List ab)=>((jf d r s.1 s.2,()),())) (fun n s=>s.1.length+n≤ds.length∧s.2.length+82*n≤82*ds.length) (fun s _=>by refine ar UO ?_;simp only[cE];rfl) (fun i y r s hi hx ya hs' ih=>by
   obtain⟨out,told⟩:=s;obtain⟨b1,b2⟩:=hs';simp only at b1 b2;refine ar UO ?_;simp only[aT hi,fK,Bool.and_self,Int.toNat_natCast,hx,Option.bind_some,aD hi (show ds.length≤1073741824 by omega)];refine aa (I2 (hG _ _ rfl) told y (by omega)) ?_;rw[jf];by_cases hm:y∈told
   ·have d1:decide (idx y told 0≥0)=true:=decide_eq_true (by grind [eV]);rw[if_pos hm];simp only[d1];exact ih (out,told) ⟨by grind,by grind⟩
   ·have d1:decide (idx y told 0≥0)=false:=decide_eq_false (by simp_all [fq]);rw[if_neg hm];simp only[d1];refine aa (alG hG d y hs) ?_;have htl:=Hf d y;have h6:aI out.length [bp d y].length=true:=fits (by simp;omega);have h7:aI told.length (bp d y).length=true:=fits (by omega);simp only[h6,h7];exact ih (out++[bp d y],told++bp d y) ⟨by simp;omega,by simp;omega⟩)
  ([],[]) ⟨by simp,by simp⟩
 exact key
end Go.Vs
