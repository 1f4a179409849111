/- What the document's reference computes, written plainly, the first part. -/
import Derived.Test.YtpkfpbpbkabkdaaGreatEngineD
import Derived.Test.YtpkfpbpbkabkdaaGreatNormalA
import Derived.Test.YtpkfpbpbkabkdaaGreatNormalB
import Derived.Test.YtpkfpbpbkabkdaaGreatNormalC
set_option linter.unusedVariables false
set_option linter.unusedSimpArgs false
namespace Go.Vs
open Go.Proofs
variable {G:(f:FuncId)→(g:aJ)→Option (g.A→Option g.B)}
theorem aa{α β:Type}{o:Option α}{f:α→Option β}{a:α}{r:Option β}(h:o=some a)(k:f a=r):o.bind f=r:=by rw[h];exact k
theorem aI{α:Type}{l:List α}{i:Nat}{x:α}(h:l[i]? = some x):aX l (i:Int)=some x:=by
 have hl:=(List.getElem?_eq_some_iff.1 h).1
 simp[aX,h]
theorem wrap_small{n:Int}(h0 : -9223372036854775808≤n)(h1:n<9223372036854775808):IntKind.wrap .i64 n=n:=by
 unfold IntKind.wrap
 simp[IntKind.bits,IntKind.signed]
 omega
theorem aG{i n:Nat}(h:i<n)(hn:n≤1073741824):IntKind.wrap .i64 ((i:Int)+1)=((i+1:Nat):Int):=by
 rw[wrap_small (by omega) (by omega)];rfl
theorem aW{i n:Nat}(h:i<n):decide ((i:Int)<((n:Nat):Int))=true:=by simpa using h
theorem dn(n:Nat):decide (((n:Nat):Int)<((n:Nat):Int))=false:=by simp
theorem fits{n m:Nat}(h:n+m≤1073741824):aL n m=true:=decide_eq_true h
theorem jn(a b:ID):((a.1==b.1)&&(a.2==b.2))=decide (a=b):=by
 obtain⟨a1,a2⟩:=a;obtain⟨b1,b2⟩:=b
 rw[Bool.eq_iff_iff];simp
theorem kD(a b:ab):(((a.1.1==b.1.1)&&(a.1.2==b.1.2))&&(a.2==b.2))=decide (a=b):=by
 obtain⟨⟨a1,a2⟩,a3⟩:=a;obtain⟨⟨b1,b2⟩,b3⟩:=b
 rw[Bool.eq_iff_iff];simp[and_assoc]
theorem Ws(a b:ByteArray):(a==b)=decide (a=b):=by
 obtain⟨a⟩:=a;obtain⟨b⟩:=b
 show(a==b)=_
 rw[Bool.eq_iff_iff];simp
theorem bU{α S R:Type}(l:List α)(L:Int→S→Option R)(g:List α→S→R)(inv:Nat→S→Prop)
  (afl:∀s,inv 0 s→L ((l.length:Nat):Int) s=some (g [] s))
  (aaq:∀(i:Nat) (x:α) (r:List α) (s:S),i<l.length→l[i]? = some x→i+r.length+1=l.length→inv (r.length+1) s→(∀s',inv r.length s'→L ((i+1:Nat):Int) s'=some (g r s'))→L (i:Int) s=some (g (x::r) s)) :
  ∀s,inv l.length s→L 0 s=some (g l s):=by
 have key:∀(r p:List α),p++r=l→∀s,inv r.length s→L ((p.length:Nat):Int) s=some (g r s):=by
  intro r
  induction r with
  |nil=>intro p hp s hs;rw[List.append_nil]at hp;subst hp;exact afl s hs
  |cons x r ih =>
   intro p hp s hs
   refine aaq p.length x r s ?_ ?_ ?_ hs (fun s' hs' => ?_)
   ·rw[←hp];simp
   ·rw[←hp];simp
   ·rw[←hp];simp;omega
   ·have:=ih (p++[x]) (by simp[hp]) s' hs';simpa using this
 intro s hs;exact key l [] rfl s hs
def zD:ab:=((0,0),0)
def cY(x:ID):Bool:=decide (1≤x.1∧x.1≤8∧1≤x.2∧x.2≤1048576)
def fK(a b:ID):Bool:=decide (a.1<b.1∨(a.1=b.1∧a.2<b.2))
def qD(a b:ID):Int:=if a=b then 0 else if fK a b then -1 else 1
def kK(a b:ab):Bool:=fK a.1 b.1 || (decide (a.1=b.1)&&decide (a.2<b.2))
def mW(a b:ab):Int:=if a=b then 0 else if kK a b then -1 else 1
def JE(d:ab):Bool:=cY d.1&&decide (d.2=0∨d.2=1)
theorem ML(hG:G 87 Aj=none)(x:ID):FX G 87 Aj ((x,()),())=some ((cY x,()),()):=by
 refine au (fn:=Tryz.f87) hG (by kernel_rfl) (by kernel_rfl) ((adX _ _ _).trans ?_)
 obtain⟨a,b⟩:=x
 show(cond (decide (a≥1)) (cond (decide (a≤8)) (cond (decide (b≥1)) (some ((decide (b≤1048576),()),())) (some ((false,()),()))) (some ((false,()),()))) (some ((false,()),())):Option ((Bool×Unit)×Unit))=some ((cY (a,b),()),())
 unfold cY
 simp only[cond_eq_ite]
 by_cases h1:(1:Int)≤a<;>by_cases h2:a≤8<;>by_cases h3:(1:Int)≤b<;>simp[h1,h2,h3]
theorem Wt(hG:G 121 Cq=none)(d:ab):FX G 121 Cq ((d,()),())=some (((d.1,IntKind.wrap .i64 (1-d.2)),()),()) :=
 au hG (by kernel_rfl) (by kernel_rfl) (ad1 _ _ _)
theorem Wu(hG:G 105 GC=none)(a b:ID):FX G 105 GC ((a,b,()),())=some ((qD a b,()),()):=by
 refine au (fn:=Tryz.f105) hG (by kernel_rfl) (by kernel_rfl) ((aeD _ _ _).trans ?_)
 obtain⟨a1,a2⟩:=a
 obtain⟨b1,b2⟩:=b
 unfold qD fK
 show(cond ((a1==b1)&&(a2==b2)) (some (((0:Int),()),())) (cond (decide (a1<b1)) (some (((-1:Int),()),())) (cond (a1==b1) (cond (decide (a2<b2)) (some (((-1:Int),()),())) (some (((1:Int),()),()))) (some (((1:Int),()),())))):Option ((Int×Unit)×Unit))=some (((if(a1,a2)=(b1,b2) then 0 else if(decide (a1<b1∨(a1=b1∧a2<b2)))=true then -1 else 1:Int),()),())
 by_cases h1:a1=b1<;>by_cases h2:a2=b2<;>by_cases h3:a1<b1<;>by_cases h4:a2<b2<;>first|(exfalso;omega)|(simp only[cond_eq_ite];simp[h1,h2,h3,h4];done)|(subst h1;simp only[cond_eq_ite];simp[h2,h4])
theorem aar(hG:HG G)(a b:ab):FX G 71 Mt ((a,b,()),())=some ((mW a b,()),()):=by
 refine au (fn:=Tryz.f71) (hG _ _ rfl) (by kernel_rfl) (by kernel_rfl) ((aey _ _ _).trans ?_)
 refine aa (Wu (hG _ _ rfl) a.1 b.1) ?_
 obtain⟨a1,a2⟩:=a
 obtain⟨b1,b2⟩:=b
 show(cond (qD a1 b1 != 0) (some ((qD a1 b1,()),())) (cond (decide (a2<b2)) (some (((-1:Int),()),())) (cond (decide (a2>b2)) (some (((1:Int),()),())) (some (((0:Int),()),())))):Option ((Int×Unit)×Unit))=some ((mW (a1,a2) (b1,b2),()),())
 unfold mW kK qD
 simp only[cond_eq_ite]
 by_cases h1:a1=b1
 ·subst h1
  have hl:fK a1 a1=false:=by simp[fK]
  by_cases h2:a2=b2
  ·subst h2;simp
  ·by_cases h3:a2<b2
   ·simp[h2,h3,hl]
   ·have:a2>b2:=by omega
    simp[h2,h3,hl,this]
 ·by_cases h2:fK a1 b1=true<;>simp[h1,h2]
theorem afn(hG:HG G)(d:ab):FX G 123 Pe ((d,()),())=some ((JE d,()),()):=by
 refine au (fn:=Tryz.f123) (hG _ _ rfl) (by kernel_rfl) (by kernel_rfl) ((aeY _ _ _).trans ?_)
 refine aa (ML (hG _ _ rfl) d.1) ?_
 obtain⟨d1,d2⟩:=d
 show(cond (cY d1) (cond (d2==0) (some ((true,()),())) (some (((d2==1),()),()))) (some ((false,()),())):Option ((Bool×Unit)×Unit))=some ((JE (d1,d2),()),())
 unfold JE
 simp only[cond_eq_ite]
 by_cases h1:cY d1=true<;>by_cases h2:d2=0<;>simp[h1,h2]
 rw[Bool.eq_iff_iff];simp
def idx(d:ab):List ab→Int→Int
 |[],_ => -1
 |e::r,i=>if e=d then i else idx d r (i+1)
theorem afo(row:List ab)(d:ab)(hl:row.length≤1073741824):∀(n i:Nat),i+n=row.length→LX G 144 qt Tryz.f144 AH (aN Tryz.prog 144 0) ((row,((i:Int),())),(((d,()),()),()))=some ((idx d (row.drop i) i,()),()):=by
 intro n
 induction n with
 |zero =>
  intro i hi
  refine ar (j:=0) (by kernel_rfl) ((Po _ _ _).trans ?_)
  have h1:¬((i:Int)<(row.length:Int)):=by omega
  have h2:row.drop i=[]:=List.drop_eq_nil_of_le (by omega)
  simp only[h1,h2,decide_false,cond_false,idx]
  rfl
 |succ n ih =>
  intro i hi
  refine ar (j:=0) (by kernel_rfl) ((Po _ _ _).trans ?_)
  have aF:i<row.length:=by omega
  have h1:((i:Int)<(row.length:Int)):=by omega
  have h2:row.drop i=row[i]::row.drop (i+1):=List.drop_eq_getElem_cons aF
  have h3:aX row (i:Int)=some row[i]:=by simp[aX,aF]
  have h4:IntKind.wrap .i64 ((i:Int)+1)=((i+1:Nat):Int):=by rw[wrap_small (by omega) (by omega)];rfl
  have h5:=ih (i+1) (by omega)
  rw[h2,idx]
  simp only[h1,decide_true,cond_true,h3,Option.bind_some,h4,kD]
  by_cases he:row[i]=d
  ·rw[if_pos he];simp only[he,decide_true];rfl
  ·rw[if_neg he];simp only[he,decide_false]
   exact h5
theorem ES(hG:G 144 qt=none)(row:List ab)(d:ab)(hl:row.length≤1073741824):FX G 144 qt ((row,d,()),())=some ((idx d row 0,()),()):=by
 refine au (fn:=Tryz.f144) hG (by kernel_rfl) (by kernel_rfl) ((ad2 _ _ _).trans ?_)
 exact afo (G:=G) row d hl row.length 0 (by omega)
theorem nJ(d:ab):∀(row:List ab) (i:Int),0≤i→(idx d row i = -1∧d∉row)∨(∃k:Nat,idx d row i=i+k∧row[k]? = some d∧d∉row.take k)
 |[],i,_=>.inl ⟨rfl,by simp⟩
 |e::r,i,h=>by
  unfold idx
  by_cases he:e=d
  ·right;exact⟨0,by simp[he],by simp[he],by simp⟩
  ·rw[if_neg he]
   rcases nJ d r (i+1) (by omega) with⟨h1,h2⟩|⟨k,h1,h2,h3⟩
   ·exact .inl ⟨h1,by simp[h2,Ne.symm he]⟩
   ·exact .inr ⟨k+1,by rw[h1];omega,by simpa using h2,by simp[h3,Ne.symm he]⟩
theorem ep{d:ab}{row:List ab}:idx d row 0<0↔d∉row:=by
 rcases nJ d row 0 (by omega) with⟨h1,h2⟩|⟨k,h1,h2,_⟩
 ·simp[h1,h2]
 ·have:=List.mem_of_getElem? h2
  simp[this];omega
theorem fi{d:ab}{row:List ab}(h:d∈row):∃k:Nat,idx d row 0=k∧row[k]? = some d∧d∉row.take k:=by
 rcases nJ d row 0 (by omega) with⟨_,h2⟩|⟨k,h1,h2,h3⟩
 ·exact absurd h h2
 ·exact⟨k,by omega,h2,h3⟩
theorem uY{α:Type}[DecidableEq α]:∀(a b:List α),a.length=b.length→(a.zip b).all (fun p=>decide (p.1=p.2))=decide (a=b)
 |[],[],_=>by simp
 |[],_::_,h=>by simp at h
 |_::_,[],h=>by simp at h
 |x::a,y::b,h=>by
  simp only[List.zip_cons_cons,List.all_cons,uY a b (by simpa using h)]
  rw[Bool.eq_iff_iff];simp
theorem yH{α:Type}{a b:List α}{i:Nat}{x:α×α}(h:(a.zip b)[i]? = some x):a[i]? = some x.1∧b[i]? = some x.2:=by
 obtain⟨x1,x2⟩:=x
 exact List.getElem?_zip_eq_some.1 h
theorem afp(hG:HG G)(a b:List ab)(ha:a.length≤1073741824):FX G 98 Gz ((a,b,()),())=some ((decide (a=b),()),()):=by
 refine au (fn:=Tryz.f98) (hG _ _ rfl) (by kernel_rfl) (by kernel_rfl) ((aet _ _ _).trans ?_)
 by_cases hl:a.length=b.length
 case neg =>
  have h1:((((a.length:Nat):Int)) != ((b.length:Nat):Int))=true:=by simp;omega
  have h2:¬a=b:=fun e=>hl (by rw[e])
  simp only[h1,h2,decide_false]
  rfl
 have h1:((((a.length:Nat):Int)) != ((b.length:Nat):Int))=false:=by simp[hl]
 simp only[h1]
 have B7:(a.zip b).length=a.length:=by simp[hl]
 have key:=bU (a.zip b) (fun i (_:Unit)=>LX G 98 Gz Tryz.f98 AT (aN Tryz.prog 98 0) ((a,(b,(i,()))),((),()))) (fun r _=>((r.all (fun p=>decide (p.1=p.2)),()),())) (fun _ _=>True)
  (fun s _=>by
   refine ar (j:=0) (by kernel_rfl) ((PM _ _ _).trans ?_)
   rw[B7]
   simp only[dn,cond_false];rfl)
  (fun i x r s hi hx hr _ ih=>by
   rw[B7]at hi
   obtain⟨h3,h4⟩:=yH hx
   refine ar (j:=0) (by kernel_rfl) ((PM _ _ _).trans ?_)
   simp only[aW hi,cond_true,aI h3,aI h4,Option.bind_some,kD,aG hi ha]
   by_cases he:x.1=x.2
   ·simp only[he,decide_true,Bool.not_true,cond_false,List.all_cons,Bool.true_and];exact ih () trivial
   ·simp only[he,decide_false,Bool.not_false,cond_true,List.all_cons,Bool.false_and];rfl)
  () trivial
 rw[uY a b hl]at key
 exact key
end Go.Vs
namespace Go.Vs
open Go.Proofs
variable {G:(f:FuncId)→(g:aJ)→Option (g.A→Option g.B)}
def dF(row:List ab)(d:ab)(by_:Nat):Option ab:=if d∈row then row[((idx d row 0).toNat+by_)%row.length]? else none
def Ho:Option ab→ab×(Bool×Unit)
 |some y=>(y,(true,()))
 |none=>(zD,(false,()))
theorem qE(a n:Nat):Int.tmod (a:Int) (n:Int)=((a%n:Nat):Int):=by
 rw[Int.tmod_eq_emod_of_nonneg (by omega)];rfl
theorem ET{row:List ab}{d:ab}(h:d∈row):((((row.length:Nat):Int))==0)=false:=by
 have:=List.length_pos_of_mem h
 simp;intro e;subst e;simp at h
theorem aas(hG:HG G)(row:List ab)(d:ab)(hl:row.length≤1073741824):FX G 148 Mo ((row,d,()),())=some (Ho (dF row d (row.length-1)),()):=by
 refine au (fn:=Tryz.f148) (hG _ _ rfl) (by kernel_rfl) (by kernel_rfl) ((ad3 _ _ _).trans ?_)
 refine aa (ES (hG _ _ rfl) row d hl) ?_
 by_cases h:d∈row
 ·obtain⟨k,h1,h2,h3⟩:=fi h
  have hk:=(List.getElem?_eq_some_iff.1 h2).1
  have hm:(k+(row.length-1))%row.length<row.length:=Nat.mod_lt _ (by omega)
  have e1:IntKind.wrap .i64 (IntKind.wrap .i64 ((k:Int)+((row.length:Nat):Int))-1)=((k+(row.length-1):Nat):Int):=by
   rw[wrap_small (n:=(k:Int)+((row.length:Nat):Int)) (by omega) (by omega),wrap_small (by omega) (by omega)];omega
  have e2:¬((k:Int)<0):=by omega
  have e4:row[(k+(row.length-1))%row.length]? = some row[(k+(row.length-1))%row.length]:=List.getElem?_eq_getElem hm
  have e3:dF row d (row.length-1)=some row[(k+(row.length-1))%row.length]:=by
   unfold dF;rw[if_pos h,h1];simp
  rw[e3]
  simp only[h1,e2,decide_false,cond_false,ET h,e1,qE,aI e4,Option.bind_some]
  rfl
 ·have h1:=ep.2 h
  have e3:dF row d (row.length-1)=none:=by unfold dF;rw[if_neg h]
  rw[e3]
  simp only[h1,decide_true,cond_true]
  rfl
theorem aat(hG:HG G)(row:List ab)(d:ab)(hl:row.length≤1073741824):FX G 248 GJ ((row,d,()),())=some (Ho (dF row d 1),()):=by
 refine au (fn:=Tryz.f248) (hG _ _ rfl) (by kernel_rfl) (by kernel_rfl) ((YU _ _ _).trans ?_)
 refine aa (ES (hG _ _ rfl) row d hl) ?_
 by_cases h:d∈row
 ·obtain⟨k,h1,h2,h3⟩:=fi h
  have hk:=(List.getElem?_eq_some_iff.1 h2).1
  have hm:(k+1)%row.length<row.length:=Nat.mod_lt _ (by omega)
  have e1:IntKind.wrap .i64 ((k:Int)+1)=((k+1:Nat):Int):=by
   rw[wrap_small (by omega) (by omega)];omega
  have e2:¬((k:Int)<0):=by omega
  have e4:row[(k+1)%row.length]? = some row[(k+1)%row.length]:=List.getElem?_eq_getElem hm
  have e3:dF row d 1=some row[(k+1)%row.length]:=by
   unfold dF;rw[if_pos h,h1];simp
  rw[e3]
  simp only[h1,e2,decide_false,cond_false,ET h,e1,qE,aI e4,Option.bind_some]
  rfl
 ·have h1:=ep.2 h
  have e3:dF row d 1=none:=by unfold dF;rw[if_neg h]
  rw[e3]
  simp only[h1,decide_true,cond_true]
  rfl
def fj(row:List ab):List ab→Nat→Nat→Nat
 |[],_,k=>k
 |x::r,i,k=>if mW x (row.getD k zD)<0 then fj row r (i+1) i else fj row r (i+1) k
def B8(row:List ab)(k:Nat):List ab:=row.drop k++row.take k
def cI(row:List ab):List ab:=B8 row (fj row row 0 0)
theorem oS(row:List ab):∀(r:List ab) (i k:Nat),k<row.length→i+r.length=row.length→fj row r i k<row.length
 |[],_,k,hk,_=>hk
 |x::r,i,k,hk,hi=>by
  unfold fj
  simp at hi
  split
  ·exact oS row r (i+1) i (by omega) (by omega)
  ·exact oS row r (i+1) k hk (by omega)
theorem tv(row:List ab)(k:Nat):(B8 row k).length=row.length:=by unfold B8;simp;omega
theorem fU(row:List ab):(cI row).length=row.length:=tv _ _
theorem Tp{row:List ab}{k:Nat}{d:ab}:d∈B8 row k↔d∈row:=by
 unfold B8
 rw[List.mem_append,or_comm,←List.mem_append,List.take_append_drop]
theorem Hq{row:List ab}{d:ab}:d∈cI row↔d∈row:=Tp
theorem K7{row:List ab}{k i:Nat}(hk:k≤row.length)(hi:i<row.length):(B8 row k)[i]? = row[(k+i)%row.length]? := by
 unfold B8
 by_cases h:k+i<row.length
 ·rw[List.getElem?_append_left (by simp;omega),List.getElem?_drop,Nat.mod_eq_of_lt h]
 ·rw[List.getElem?_append_right (by simp;omega),List.length_drop,List.getElem?_take,if_pos (by omega)]
  congr 1
  have:(k+i)%row.length=k+i-row.length:=by rw[Nat.mod_eq_sub_mod (by omega),Nat.mod_eq_of_lt (by omega)]
  omega
theorem Wv(row:List ab)(k:Nat)(hl:row.length≤100000000)(hk:k≤row.length):∀(n i:Nat) (out T:List ab),i+n=row.length→T=B8 row k→out=T.take i →
  LX G 122 pK Tryz.f122 AY (aN Tryz.prog 122 1) ((row,((k:Int),((i:Int),()))),((),(out,())))=some ((T,()),()):=by
 intro n
 induction n with
 |zero =>
  intro i out T hi hT ho
  refine ar (j:=1) (by kernel_rfl) ((PU _ _ _).trans ?_)
  have h1:¬((i:Int)<(row.length:Int)):=by omega
  have h2:out=T:=by rw[ho];exact List.take_of_length_le (by rw[hT,tv];omega)
  subst h2
  simp only[h1,decide_false]
  rfl
 |succ n ih =>
  intro i out T hi hT ho
  refine ar (j:=1) (by kernel_rfl) ((PU _ _ _).trans ?_)
  have aF:i<row.length:=by omega
  have hm:(k+i)%row.length<row.length:=Nat.mod_lt _ (by omega)
  have h3:row[(k+i)%row.length]? = some row[(k+i)%row.length]:=List.getElem?_eq_getElem hm
  have h0:((((row.length:Nat):Int))==0)=false:=by simp;intro e;subst e;simp at aF
  have h4:IntKind.wrap .i64 ((k:Int)+(i:Int))=((k+i:Nat):Int):=by rw[wrap_small (by omega) (by omega)];rfl
  have Tk:out.length≤row.length:=by rw[ho,hT];simp;rw[tv];omega
  have h5:aL out.length [row[(k+i)%row.length]].length=true:=fits (by simp;omega)
  have h6:out++[row[(k+i)%row.length]]=T.take (i+1):=by
   rw[ho,List.take_add_one,hT,K7 hk aF,h3];rfl
  have h7:=ih (i+1) (out++[row[(k+i)%row.length]]) T (by omega) hT h6
  simp only[aW aF,h0,h4,qE,aI h3,Option.bind_some,h5,aG aF (show row.length≤1073741824 by omega)]
  exact h7
theorem Ww(hG:HG G)(row:List ab)(hl:row.length≤100000000):∀(n i k:Nat),i+n=row.length→(k<row.length∨(row=[]∧k=0)) →
  LX G 122 pK Tryz.f122 wc (aN Tryz.prog 122 0) ((row,((k:Int),((i:Int),()))),((),()))=some ((B8 row (fj row (row.drop i) i k),()),()):=by
 intro n
 induction n with
 |zero =>
  intro i k hi hk
  refine ar (j:=0) (by kernel_rfl) ((PT _ _ _).trans ?_)
  have h1:¬((i:Int)<(row.length:Int)):=by omega
  have h2:row.drop i=[]:=List.drop_eq_nil_of_le (by omega)
  simp only[h1,h2,decide_false,cond_false,fj]
  exact Wv (G:=G) row k hl (by rcases hk with h|⟨_,h⟩<;>omega) row.length 0 [] (B8 row k) (by omega) rfl (by simp)
 |succ n ih =>
  intro i k hi hk
  refine ar (j:=0) (by kernel_rfl) ((PT _ _ _).trans ?_)
  have aF:i<row.length:=by omega
  have vv:k<row.length:=hk.resolve_right (by rintro⟨rfl,_⟩;simp at aF)
  have h2:row.drop i=row[i]::row.drop (i+1):=List.drop_eq_getElem_cons aF
  have h3:row[i]? = some row[i]:=List.getElem?_eq_getElem aF
  have h4:row[k]? = some row[k]:=List.getElem?_eq_getElem vv
  have h5:row.getD k zD=row[k]:=by simp[List.getD,h4]
  simp only[aW aF,cond_true,aI h3,aI h4,Option.bind_some,aG aF (show row.length≤1073741824 by omega)]
  refine aa (aar hG row[i] row[k]) ?_
  rw[h2,fj,h5]
  by_cases ho:mW row[i] row[k]<0
  ·rw[if_pos ho];simp only[ho,decide_true]
   exact ih (i+1) i (by omega) (.inl aF)
  ·rw[if_neg ho];simp only[ho,decide_false]
   exact ih (i+1) k (by omega) (.inl vv)
theorem Hr(hG:HG G)(row:List ab)(hl:row.length≤100000000):FX G 122 pK ((row,()),())=some ((cI row,()),()):=by
 refine au (fn:=Tryz.f122) (hG _ _ rfl) (by kernel_rfl) (by kernel_rfl) ((aeL _ _ _).trans ?_)
 have:=Ww (G:=G) hG row hl row.length 0 0 (by omega) (by cases row with|nil=>exact .inr ⟨rfl,rfl⟩|cons x r=>exact .inl (by simp))
 exact this
def lT(row:List ab)(after d:ab):List ab :=
 if d∈row then cI row else cI (row.take ((max 0 (idx after row 0)).toNat+1)++(d::row.drop ((max 0 (idx after row 0)).toNat+1)))
def gR(row:List ab)(d:ab):List ab:=cI (row.filter fun e=>decide (e≠d))
def js(row:List ab)(cK d:ab):List ab:=cI (if cK∈row∧d∉row then row.set (idx cK row 0).toNat d else row)
theorem aau(hG:HG G)(row:List ab)(d:ab)(hl:row.length≤100000000):FX G 126 xt ((row,d,()),())=some ((gR row d,()),()):=by
 refine au (fn:=Tryz.f126) (hG _ _ rfl) (by kernel_rfl) (by kernel_rfl) ((YS _ _ _).trans ?_)
 have key:=bU row (fun i (s:List ab)=>LX G 126 xt Tryz.f126 rq (aN Tryz.prog 126 0) ((row,(i,())),(((d,()),()),(s,())))) (fun r s=>((cI (s++r.filter fun e=>decide (e≠d)),()),())) (fun n s=>s.length+n≤row.length)
  (fun s hs=>by
   refine ar (j:=0) (by kernel_rfl) ((KG _ _ _).trans ?_)
   simp only[dn,cond_false]
   refine aa (Hr hG s (by omega)) ?_
   simp only[List.filter_nil,List.append_nil];rfl)
  (fun i x r s hi hx hr hs ih=>by
   refine ar (j:=0) (by kernel_rfl) ((KG _ _ _).trans ?_)
   simp only[aW hi,cond_true,aI hx,Option.bind_some,kD,aG hi (show row.length≤1073741824 by omega)]
   by_cases he:x=d
   ·simp only[he,decide_true,Bool.not_true,ne_eq,not_true_eq_false,decide_false,List.filter_cons,Bool.false_eq_true,if_false]
    exact ih s (by omega)
   ·have h5:aL s.length [x].length=true:=fits (by simp;omega)
    simp only[he,decide_false,Bool.not_false,h5,ne_eq,not_false_eq_true,decide_true,List.filter_cons,if_true]
    have:=ih (s++[x]) (by simp;omega)
    rw[List.append_assoc]at this
    exact this)
  [] (by simp)
 exact key
theorem Qo(row:List ab)(d:ab)(k:Nat):row.take (k+1)++(d::row.drop (k+1))=(row.take (k+1)++[d])++row.drop (k+1):=by simp
theorem aav(hG:HG G)(row:List ab)(after d:ab)(hl:row.length≤90000000):FX G 146 xq ((row,after,d,()),())=some ((lT row after d,()),()):=by
 refine au (fn:=Tryz.f146) (hG _ _ rfl) (by kernel_rfl) (by kernel_rfl) ((YQ _ _ _).trans ?_)
 refine aa (ES (hG _ _ rfl) row d (by omega)) ?_
 by_cases hd:d∈row
 case pos =>
  have h1:¬idx d row 0<0:=fun h=>ep.1 h hd
  have h2:idx d row 0≥0:=by omega
  simp only[h2,decide_true,cond_true]
  refine aa (Hr hG row (by omega)) ?_
  unfold lT;rw[if_pos hd];rfl
 case neg =>
 have h1:¬idx d row 0≥0:=by have:=ep.2 hd;omega
 simp only[h1,decide_false,cond_false]
 refine aa (ES (hG _ _ rfl) row after (by omega)) ?_
 obtain⟨k,hk⟩:∃k:Nat,max 0 (idx after row 0)=(k:Int):=⟨(max 0 (idx after row 0)).toNat,by omega⟩
 have NU:k<row.length∨row=[]:=by
  rcases nJ after row 0 (by omega) with⟨e,_⟩|⟨q,e,e2,_⟩
  ·have:k=0:=by omega
   subst this
   cases row with
   |nil=>exact .inr rfl
   |cons x r=>exact .inl (by simp)
  ·have:=(List.getElem?_eq_some_iff.1 e2).1
   exact .inl (by omega)
 have uB:lT row after d=cI (row.take (k+1)++(d::row.drop (k+1))):=by unfold lT;rw[if_neg hd,hk];rfl
 rw[uB]
 simp only[hk]
 obtain⟨fin,jm⟩:∃fin,fin=row.take (k+1)++(d::row.drop (k+1)):=⟨_,rfl⟩
 rw[←jm]
 have loop:∀(n i:Nat) (out:List ab),i+n=row.length→out=(if i≤k then row.take i else(row.take (k+1)++[d])++(row.drop (k+1)).take (i-(k+1))) →
   LX G 146 xq Tryz.f146 rp (aN Tryz.prog 146 0) ((row,((k:Int),((i:Int),()))),(((d,()),()),(out,())))=some ((cI fin,()),()):=by
  intro n
  induction n with
  |zero =>
   intro i out hi oI
   refine ar (j:=0) (by kernel_rfl) ((KE _ _ _).trans ?_)
   have h1:¬((i:Int)<(row.length:Int)):=by omega
   rcases NU with NU|rfl
   ·have h0:((((row.length:Nat):Int))==0)=false:=by simp;intro e;subst e;simp at NU
    have h2:out=fin:=by
     have hle:(row.drop (k+1)).take (i-(k+1))=row.drop (k+1):=List.take_of_length_le (by rw[List.length_drop];omega)
     rw[oI,jm,if_neg (by omega),Qo,hle]
    subst h2
    simp only[h1,decide_false,h0]
    exact aa (Hr hG out (by rw[jm];simp;omega)) rfl
   ·have S6:i=0:=by simpa using hi
    subst S6
    have h2:out=[]:=by rw[oI];simp
    subst h2
    have h3:fin=[d]:=by rw[jm];simp
    subst h3
    exact aa (Hr hG [d] (by simp)) rfl
  |succ n ih =>
   intro i out hi oI
   refine ar (j:=0) (by kernel_rfl) ((KE _ _ _).trans ?_)
   have aF:i<row.length:=by omega
   have hx:row[i]? = some row[i]:=List.getElem?_eq_getElem aF
   have Tk:out.length≤row.length+1:=by rw[oI];split<;>simp<;>omega
   have h5:aL out.length [row[i]].length=true:=fits (by simp;omega)
   simp only[aW aF,aI hx,Option.bind_some,aG aF (show row.length≤1073741824 by omega),h5]
   by_cases ON:i=k
   ·subst ON
    have h6:aL (out++[row[i]]).length [d].length=true:=fits (by simp;omega)
    have h8:(((i:Nat):Int)==((i:Nat):Int))=true:=by simp
    simp only[h8,h6]
    exact ih (i+1) ((out++[row[i]])++[d]) (by omega) (by rw[if_neg (by omega),oI,if_pos (Nat.le_refl _),List.take_add_one,hx];simp)
   ·have h8:(((i:Nat):Int)==((k:Nat):Int))=false:=by simp;omega
    simp only[h8]
    refine ih (i+1) (out++[row[i]]) (by omega) ?_
    rw[oI]
    by_cases hle:i≤k
    ·rw[if_pos hle,if_pos (by omega),List.take_add_one,hx];rfl
    ·have e9:(row.drop (k+1)).take (i+1-(k+1))=(row.drop (k+1)).take (i-(k+1))++[row[i]]:=by
      rw[show i+1-(k+1)=(i-(k+1))+1 by omega,List.take_add_one,List.getElem?_drop,show k+1+(i-(k+1))=i by omega,hx];rfl
     rw[if_neg hle,if_neg (by omega),e9,List.append_assoc]
 exact loop row.length 0 [] (by omega) (by simp)
theorem aaw(hG:HG G)(row:List ab)(cK d:ab)(hl:row.length≤100000000):FX G 149 GI ((row,cK,d,()),())=some ((js row cK d,()),()):=by
 refine au (fn:=Tryz.f149) (hG _ _ rfl) (by kernel_rfl) (by kernel_rfl) ((YT _ _ _).trans ?_)
 have h5:aL ([]:List ab).length row.length=true:=fits (by simp;omega)
 simp only[h5,cond_true,List.nil_append]
 refine aa (ES (hG _ _ rfl) row cK (by omega)) ?_
 unfold js
 by_cases ho:cK∈row
 ·obtain⟨k,h1,h2,h3⟩:=fi ho
  have hk:=(List.getElem?_eq_some_iff.1 h2).1
  have e1:((k:Int)≥0):=by omega
  simp only[h1,e1,decide_true]
  refine aa (ES (hG _ _ rfl) row d (by omega)) ?_
  by_cases hd:d∈row
  ·have h6:¬idx d row 0<0:=fun h=>ep.1 h hd
   rw[if_neg (by simp[hd])]
   simp only[h6,decide_false]
   exact aa (Hr hG row hl) rfl
  ·have h6:=ep.2 hd
   rw[if_pos ⟨ho,hd⟩]
   have h7:(0:Int)≤(k:Int):=by omega
   have h8:((k:Int)<((row.length:Nat):Int)):=by omega
   simp only[h6,decide_true,h7,h8,Bool.and_self,Int.toNat_natCast,h2]
   exact aa (Hr hG (row.set k d) (by simpa using hl)) rfl
 ·have h1:¬idx cK row 0≥0:=by have:=ep.2 ho;omega
  rw[if_neg (by simp[ho])]
  simp only[h1,decide_false]
  exact aa (Hr hG row hl) rfl
end Go.Vs
namespace Go.Vs
open Go.Proofs
variable {G:(f:FuncId)→(g:aJ)→Option (g.A→Option g.B)}
def e0:ByteArray:=⟨#[]⟩
def zI:ID:=(0,0)
def zV:ag:=((0,0),([],(e0,0)))
def zE:ah:=((0,0),(e0,0))
def aR(l:List ag)(x:ID):Option ag:=l.find? fun v=>decide (v.1=x)
def aU(l:List ah)(x:ID):Option ah:=l.find? fun v=>decide (v.1=x)
def bp(d:aj)(x:ID):Option ag:=aR d.1 x
def gD(d:aj)(x:ID):Option ah:=aU d.2 x
def EU(l:List ag)(x:ab):Option ID:=(l.find? fun v=>decide (x∈v.2.1)).map (·.1)
def cm(d:aj)(x:ab):Option ID:=EU d.1 x
def pw{α:Type}(z:α):Option α→α×(Bool×Unit)
 |some y=>(y,(true,()))
 |none=>(z,(false,()))
theorem Cw(hG:G 79 pJ=none)(d:aj)(x:ID)(hl:d.1.length≤100000000):FX G 79 pJ ((d,x,()),())=some (pw zV (bp d x),()):=by
 refine au (fn:=Tryz.f79) hG (by kernel_rfl) (by kernel_rfl) ((adW _ _ _).trans ?_)
 have EV:=bU d.1 (fun i (_:Unit)=>LX G 79 pJ Tryz.f79 AD (aN Tryz.prog 79 0) ((i,()),(((d,()),((x,()),(((0:Int),((0:Int),(([]:List ab),(e0,((0:Int),()))))),()))),()))) (fun(r:List ag) (_:Unit)=>(pw zV (aR r x),())) (fun _ _=>True)
  (fun s _=>by
   refine ar (j:=0) (by kernel_rfl) ((Ph _ _ _).trans ?_)
   simp only[dn,cond_false];rfl)
  (fun i y r s hi hx hr _ ih=>by
   refine ar (j:=0) (by kernel_rfl) ((Ph _ _ _).trans ?_)
   simp only[aW hi,cond_true,aI hx,Option.bind_some,jn,aG hi (show d.1.length≤1073741824 by omega)]
   by_cases he:y.1=x
   ·simp only[he,decide_true,aR,aU,List.find?_cons];subst he;rfl
   ·simp only[he,decide_false,aR,aU,List.find?_cons];exact ih () trivial)
  () trivial
 exact EV
theorem Tq(hG:G 92 xU=none)(d:aj)(x:ID)(hl:d.2.length≤100000000):FX G 92 xU ((d,x,()),())=some (pw zE (gD d x),()):=by
 refine au (fn:=Tryz.f92) hG (by kernel_rfl) (by kernel_rfl) ((adZ _ _ _).trans ?_)
 have EV:=bU d.2 (fun i (_:Unit)=>LX G 92 xU Tryz.f92 AF (aN Tryz.prog 92 0) ((i,()),(((d,()),((x,()),(((((0:Int),(0:Int)),(e0,(0:Int))),()),()))),()))) (fun(r:List ah) (_:Unit)=>(pw zE (aU r x),())) (fun _ _=>True)
  (fun s _=>by
   refine ar (j:=0) (by kernel_rfl) ((Pk _ _ _).trans ?_)
   simp only[dn,cond_false];rfl)
  (fun i y r s hi hx hr _ ih=>by
   refine ar (j:=0) (by kernel_rfl) ((Pk _ _ _).trans ?_)
   simp only[aW hi,cond_true,aI hx,Option.bind_some,jn,aG hi (show d.2.length≤1073741824 by omega)]
   by_cases he:y.1=x
   ·simp only[he,decide_true,aR,aU,List.find?_cons];subst he;rfl
   ·simp only[he,decide_false,aR,aU,List.find?_cons];exact ih () trivial)
  () trivial
 exact EV
theorem Hs(hG:HG G)(d:aj)(x:ab)(hl:d.1.length≤100000000)(hr:∀v∈d.1,v.2.1.length≤100000000):FX G 124 tk ((d,x,()),())=some (pw zI (cm d x),()):=by
 refine au (fn:=Tryz.f124) (hG _ _ rfl) (by kernel_rfl) (by kernel_rfl) ((adY _ _ _).trans ?_)
 have EV:=bU d.1 (fun i (_:Unit)=>LX G 124 tk Tryz.f124 AE (aN Tryz.prog 124 0) ((i,()),(((d,()),((x,()),((((0:Int),(0:Int)),()),()))),()))) (fun r _=>(pw zI (EU r x),())) (fun _ _=>True)
  (fun s _=>by
   refine ar (j:=0) (by kernel_rfl) ((Pj _ _ _).trans ?_)
   simp only[dn,cond_false];rfl)
  (fun i y r s hi hx Bg _ ih=>by
   refine ar (j:=0) (by kernel_rfl) ((Pj _ _ _).trans ?_)
   simp only[aW hi,cond_true,aI hx,Option.bind_some,aG hi (show d.1.length≤1073741824 by omega)]
   refine aa (ES (hG _ _ rfl) y.2.1 x (by have:=hr y (List.mem_of_getElem? hx);omega)) ?_
   by_cases he:x∈y.2.1
   ·have h1:idx x y.2.1 0≥0:=by obtain⟨k,h,_⟩:=fi he;omega
    simp only[h1,decide_true,EU,List.find?_cons,he];rfl
   ·have h1:¬idx x y.2.1 0≥0:=by have:=ep.2 he;omega
    simp only[h1,decide_false,EU,List.find?_cons,he];exact ih () trivial)
  () trivial
 exact EV
theorem aax(hG:G 21 Cr=none)(d:aj)(hl:d.1.length≤100000000)(sf:d.2.length≤100000000)(hr:∀v∈d.1,v.2.1.length≤100000000):FX G 21 Cr ((d,()),())=some (((d.1,(d.2,())),()),()):=by
 refine au (fn:=Tryz.f21) hG (by kernel_rfl) (by kernel_rfl) ((aed _ _ _).trans ?_)
 have h5:aL ([]:List ah).length d.2.length=true:=fits (by simp;omega)
 simp only[h5,cond_true,List.nil_append]
 have EV:=bU d.1 (fun i (out:List ag)=>LX G 21 Cr Tryz.f21 AM (aN Tryz.prog 21 0) ((i,()),(((d,()),((([]:List ag),(([]:List ah),())),((out,(d.2,())),()))),()))) (fun r s=>(((s++r,(d.2,())),()),())) (fun n s=>s.length+n≤d.1.length)
  (fun s _=>by
   refine ar (j:=0) (by kernel_rfl) ((Pw _ _ _).trans ?_)
   simp only[dn,List.append_nil];rfl)
  (fun i y r s hi hx Bg hs ih=>by
   refine ar (j:=0) (by kernel_rfl) ((Pw _ _ _).trans ?_)
   have h6:aL ([]:List ab).length y.2.1.length=true:=fits (by have:=hr y (List.mem_of_getElem? hx);simp;omega)
   have h7:aL s.length [(y.1,(y.2.1,y.2.2))].length=true:=fits (by simp;omega)
   simp only[aW hi,aI hx,Option.bind_some,h6,List.nil_append,h7,aG hi (show d.1.length≤1073741824 by omega)]
   have:=ih (s++[y]) (by simp;omega)
   rw[List.append_assoc]at this
   exact this)
  [] (by simp)
 exact EV
def dW(v:ag):List ag→List ag
 |[]=>[v]
 |w::r=>if fK v.1 w.1 then v::w::r else w::dW v r
def dp(v:ah):List ah→List ah
 |[]=>[v]
 |w::r=>if fK v.1 w.1 then v::w::r else w::dp v r
theorem b5(a:ID):fK a a=false:=by simp[fK]
theorem mC(a b:ID):qD a b<0↔fK a b=true:=by
 unfold qD
 by_cases h:a=b
 ·subst h;simp[b5]
 ·rw[if_neg h];split<;>simp_all
theorem aay(hG:HG G)(d:aj)(v:ag)(hl:d.1.length≤100000000):FX G 80 Ey ((d,v,()),())=some (((dW v d.1,d.2),()),()):=by
 refine au (fn:=Tryz.f80) (hG _ _ rfl) (by kernel_rfl) (by kernel_rfl) ((aei _ _ _).trans ?_)
 have key:=bU d.1 (fun i (s:Bool×List ag)=>LX G 80 Ey Tryz.f80 tl (aN Tryz.prog 80 0) ((s.1,(i,())),(((d,()),((v,()),((([]:List ag),(([]:List ah),())),((s.2,(d.2,())),())))),())))
  (fun r s=>(((s.2++(if s.1 then r else dW v r),d.2),()),())) (fun n s=>s.2.length+n≤d.1.length+(if s.1 then 1 else 0))
  (fun s hs=>by
   obtain⟨put,s⟩:=s
   refine ar (j:=0) (by kernel_rfl) ((Pz _ _ _).trans ?_)
   have h7:aL s.length [v].length=true:=fits (by simp at hs ⊢;split at hs<;>omega)
   cases put
   ·simp only[dn,h7,dW];rfl
   ·simp only[dn,if_true,List.append_nil];rfl)
  (fun i y r s hi hx Bg hs ih=>by
   obtain⟨put,s⟩:=s
   refine ar (j:=0) (by kernel_rfl) ((Pz _ _ _).trans ?_)
   have h6:aL s.length [y].length=true:=fits (by simp at hs ⊢;split at hs<;>omega)
   cases put
   ·have h7:aL s.length [v].length=true:=fits (by simp at hs ⊢;omega)
    have h8:aL (s++[v]).length [y].length=true:=fits (by simp at hs ⊢;omega)
    simp only[aW hi,aI hx,Option.bind_some,aG hi (show d.1.length≤1073741824 by omega)]
    refine aa (Wu (hG _ _ rfl) v.1 y.1) ?_
    by_cases ho:fK v.1 y.1=true
    ·have h9:=(mC _ _).2 ho
     have:=ih (true,(s++[v])++[y]) (by simp at hs ⊢;omega)
     simp only[h9,decide_true,h7,h8,dW,ho,if_true,Bool.false_eq_true,if_false]
     exact this.trans (congrArg (fun l:List ag=>some (((l,d.2),()),())) (show((s++[v])++[y])++r=s++(v::y::r) by simp))
    ·have h9:¬qD v.1 y.1<0:=fun h=>ho ((mC _ _).1 h)
     have:=ih (false,s++[y]) (by simp at hs ⊢;omega)
     simp only[h9,decide_false,h6,dW,ho,if_false,Bool.false_eq_true]
     exact this.trans (congrArg (fun l:List ag=>some (((l,d.2),()),())) (show(s++[y])++dW v r=s++(y::dW v r) by simp))
   ·have:=ih (true,s++[y]) (by simp at hs ⊢;omega)
    simp only[aW hi,aI hx,Option.bind_some,aG hi (show d.1.length≤1073741824 by omega),h6,if_true]
    exact this.trans (congrArg (fun l:List ag=>some (((l,d.2),()),())) (show(s++[y])++r=s++(y::r) by simp)))
  (false,[]) (by simp)
 exact key
theorem aaz(hG:HG G)(d:aj)(v:ah)(hl:d.2.length≤100000000):FX G 115 xW ((d,v,()),())=some (((d.1,dp v d.2),()),()):=by
 refine au (fn:=Tryz.f115) (hG _ _ rfl) (by kernel_rfl) (by kernel_rfl) ((aeF _ _ _).trans ?_)
 have key:=bU d.2 (fun i (s:Bool×List ah)=>LX G 115 xW Tryz.f115 tn (aN Tryz.prog 115 0) ((s.1,(i,())),(((d,()),((v,()),((([]:List ag),(([]:List ah),())),((d.1,(s.2,())),())))),())))
  (fun r s=>(((d.1,s.2++(if s.1 then r else dp v r)),()),())) (fun n s=>s.2.length+n≤d.2.length+(if s.1 then 1 else 0))
  (fun s hs=>by
   obtain⟨put,s⟩:=s
   refine ar (j:=0) (by kernel_rfl) ((PR _ _ _).trans ?_)
   have h7:aL s.length [v].length=true:=fits (by simp at hs ⊢;split at hs<;>omega)
   cases put
   ·simp only[dn,h7,dp];rfl
   ·simp only[dn,if_true,List.append_nil];rfl)
  (fun i y r s hi hx Bg hs ih=>by
   obtain⟨put,s⟩:=s
   refine ar (j:=0) (by kernel_rfl) ((PR _ _ _).trans ?_)
   have h6:aL s.length [y].length=true:=fits (by simp at hs ⊢;split at hs<;>omega)
   cases put
   ·have h7:aL s.length [v].length=true:=fits (by simp at hs ⊢;omega)
    have h8:aL (s++[v]).length [y].length=true:=fits (by simp at hs ⊢;omega)
    simp only[aW hi,aI hx,Option.bind_some,aG hi (show d.2.length≤1073741824 by omega)]
    refine aa (Wu (hG _ _ rfl) v.1 y.1) ?_
    by_cases ho:fK v.1 y.1=true
    ·have h9:=(mC _ _).2 ho
     have:=ih (true,(s++[v])++[y]) (by simp at hs ⊢;omega)
     simp only[h9,decide_true,h7,h8,dp,ho,if_true,Bool.false_eq_true,if_false]
     exact this.trans (congrArg (fun l:List ah=>some (((d.1,l),()),())) (show((s++[v])++[y])++r=s++(v::y::r) by simp))
    ·have h9:¬qD v.1 y.1<0:=fun h=>ho ((mC _ _).1 h)
     have:=ih (false,s++[y]) (by simp at hs ⊢;omega)
     simp only[h9,decide_false,h6,dp,ho,if_false,Bool.false_eq_true]
     exact this.trans (congrArg (fun l:List ah=>some (((d.1,l),()),())) (show(s++[y])++dp v r=s++(y::dp v r) by simp))
   ·have:=ih (true,s++[y]) (by simp at hs ⊢;omega)
    simp only[aW hi,aI hx,Option.bind_some,aG hi (show d.2.length≤1073741824 by omega),h6,if_true]
    exact this.trans (congrArg (fun l:List ah=>some (((d.1,l),()),())) (show(s++[y])++r=s++(y::r) by simp)))
  (false,[]) (by simp)
 exact key
def dv(l:List ag)(v:ID):List ag:=l.filter fun w=>decide (w.1≠v)
def cT(l:List ah)(v:ID):List ah:=l.filter fun w=>decide (w.1≠v)
def aS(d:aj)(v e:ID):aj:=(dv d.1 v,cT d.2 e)
theorem Ts(hG:G 81 oO=none)(d:aj)(v e:ID)(hl:d.1.length≤100000000)(sf:d.2.length≤100000000):FX G 81 oO ((d,v,e,()),())=some ((aS d v e,()),()):=by
 refine au (fn:=Tryz.f81) hG (by kernel_rfl) (by kernel_rfl) ((aej _ _ _).trans ?_)
 have Tt:=fun vs=>bU d.2 (fun i (s:List ah)=>LX G 81 oO Tryz.f81 wa (aN Tryz.prog 81 1) ((i,()),(((d,()),((e,()),((([]:List ag),(([]:List ah),())),((vs,(s,())),())))),())))
  (fun(r:List ah) (s:List ah)=>(((vs,s++cT r e),()),())) (fun n s=>s.length+n≤d.2.length)
  (fun s hs=>by
   refine ar (j:=1) (by kernel_rfl) ((PB _ _ _).trans ?_)
   simp only[dn,dv,cT,List.filter_nil,List.append_nil];rfl)
  (fun i y r s hi hx Bg hs ih=>by
   refine ar (j:=1) (by kernel_rfl) ((PB _ _ _).trans ?_)
   have h6:aL s.length [y].length=true:=fits (by simp at hs ⊢;omega)
   simp only[aW hi,aI hx,Option.bind_some,jn,aG hi (show d.2.length≤1073741824 by omega)]
   by_cases he:y.1=e
   ·simp only[he,decide_true,Bool.not_true,ne_eq,not_true_eq_false,decide_false,dv,cT,List.filter_cons,Bool.false_eq_true,if_false]
    exact ih s (by omega)
   ·simp only[he,decide_false,Bool.not_false,h6,ne_eq,not_false_eq_true,decide_true,dv,cT,List.filter_cons,if_true]
    have:=ih (s++[y]) (by simp;omega)
    rw[List.append_assoc]at this
    exact this)
  [] (by simp)
 have EV:=bU d.1 (fun i (s:List ag)=>LX G 81 oO Tryz.f81 v7 (aN Tryz.prog 81 0) ((i,()),(((d,()),((v,()),((e,()),((([]:List ag),(([]:List ah),())),((s,(([]:List ah),())),()))))),())))
  (fun(r:List ag) (s:List ag)=>(((s++dv r v,cT d.2 e),()),())) (fun n s=>s.length+n≤d.1.length)
  (fun s hs=>by
   refine ar (j:=0) (by kernel_rfl) ((PA _ _ _).trans ?_)
   simp only[dn,dv,cT,List.filter_nil,List.append_nil]
   exact Tt s)
  (fun i y r s hi hx Bg hs ih=>by
   refine ar (j:=0) (by kernel_rfl) ((PA _ _ _).trans ?_)
   have h6:aL s.length [y].length=true:=fits (by simp at hs ⊢;omega)
   simp only[aW hi,aI hx,Option.bind_some,jn,aG hi (show d.1.length≤1073741824 by omega)]
   by_cases he:y.1=v
   ·simp only[he,decide_true,Bool.not_true,ne_eq,not_true_eq_false,decide_false,dv,cT,List.filter_cons,Bool.false_eq_true,if_false]
    exact ih s (by omega)
   ·simp only[he,decide_false,Bool.not_false,h6,ne_eq,not_false_eq_true,decide_true,dv,cT,List.filter_cons,if_true]
    have:=ih (s++[y]) (by simp;omega)
    rw[List.append_assoc]at this
    exact this)
  [] (by simp)
 exact EV
end Go.Vs
namespace Go.Vs
open Go.Proofs
variable {G:(f:FuncId)→(g:aJ)→Option (g.A→Option g.B)}
instance ah7:DecidableEq (List ag):=@instDecidableEqList ag inferInstance
instance decLE:DecidableEq (List ah):=@instDecidableEqList ah inferInstance
instance acM:DecidableEq aj:=instDecidableEqProd
instance aaA:DecidableEq StateT:=instDecidableEqProd
structure Sm(d:aj):Prop where
 v:d.1.length≤50000000
 e:d.2.length≤50000000
 r:∀w∈d.1,w.2.1.length≤50000000
def rC(x:ID)(l:List ab)(w:ag):ag:=if w.1=x then(w.1,(l,w.2.2)) else w
def b6(d:aj)(x:ID)(l:List ab):aj:=(d.1.map (rC x l),d.2)
theorem eT(i:Nat):decide ((0:Int)≤(i:Int))=true:=by simp
theorem uZ{α:Type}(f:α→α)(l:List α)(i:Nat)(x:α)(hx:l[i]? = some x):((l.take i).map f++l.drop i).set i (f x)=(l.take (i+1)).map f++l.drop (i+1):=by
 have hi:=(List.getElem?_eq_some_iff.1 hx).1
 have h2:l.drop i=l[i]::l.drop (i+1):=List.drop_eq_getElem_cons hi
 have h3:l[i]=x:=(List.getElem?_eq_some_iff.1 hx).2
 rw[List.set_append_right _ _ (by simp;omega),h2,List.length_map,List.length_take,Nat.min_eq_left (by omega),Nat.sub_self,List.set_cons_zero,List.take_add_one,hx]
 simp
theorem qF{α:Type}(f:α→α)(l:List α)(i:Nat)(x:α)(hx:l[i]? = some x)(hf:f x=x):(l.take i).map f++l.drop i=(l.take (i+1)).map f++l.drop (i+1):=by
 have hi:=(List.getElem?_eq_some_iff.1 hx).1
 have h2:l.drop i=l[i]::l.drop (i+1):=List.drop_eq_getElem_cons hi
 have h3:l[i]=x:=(List.getElem?_eq_some_iff.1 hx).2
 rw[h2,h3,List.take_add_one,hx];simp[hf]
theorem EW{α:Type}(f:α→α)(l:List α)(i:Nat)(x:α)(hx:l[i]? = some x):((l.take i).map f++l.drop i)[i]? = some x:=by
 have hi:=(List.getElem?_eq_some_iff.1 hx).1
 rw[List.getElem?_append_right (by simp;omega),List.length_map,List.length_take,Nat.min_eq_left (by omega),Nat.sub_self,List.getElem?_drop,Nat.add_zero,hx]
theorem Wx(hG:HG G)(d:aj)(x:ID)(l:List ab)(hs:Sm d):FX G 145 Cu ((d,x,l,()),())=some ((b6 d x l,()),()):=by
 have hv:=hs.v;have he:=hs.e
 refine au (fn:=Tryz.f145) (hG _ _ rfl) (by kernel_rfl) (by kernel_rfl) ((ae0 _ _ _).trans ?_)
 refine aa (aax (hG _ _ rfl) d (by omega) (by omega) (fun w hw=>by have:=hs.r w hw;omega)) ?_
 have loop:∀(n i:Nat) (out fin:List ag),i+n=d.1.length→out=(d.1.take i).map (rC x l)++d.1.drop i→fin=d.1.map (rC x l) →
   LX G 145 Cu Tryz.f145 wh (aN Tryz.prog 145 0) ((l,((i:Int),())),(((x,()),((([]:List ag),(([]:List ah),())),((out,(d.2,())),()))),()))=some (((fin,d.2),()),()):=by
  intro n
  induction n with
  |zero =>
   intro i out fin hi ho hf
   refine ar (j:=0) (by kernel_rfl) ((PY _ _ _).trans ?_)
   have Tk:out.length=d.1.length:=by rw[ho];simp;omega
   have h1:¬((i:Int)<(out.length:Int)):=by omega
   have h2:out=fin:=by rw[ho,hf,List.take_of_length_le (by omega),List.drop_eq_nil_of_le (by omega),List.append_nil]
   subst h2
   simp only[h1,decide_false];rfl
  |succ n ih =>
   intro i out fin hi ho hf
   refine ar (j:=0) (by kernel_rfl) ((PY _ _ _).trans ?_)
   have Tk:out.length=d.1.length:=by rw[ho];simp;omega
   have aF:i<d.1.length:=by omega
   have hx:d.1[i]? = some d.1[i]:=List.getElem?_eq_getElem aF
   have hg:out[i]? = some d.1[i]:=by rw[ho];exact EW _ _ _ _ hx
   simp only[aW (show i<out.length by omega),eT,Bool.and_self,Int.toNat_natCast,hg,Option.bind_some,jn,aG aF (show d.1.length≤1073741824 by omega)]
   by_cases hq:d.1[i].1=x
   ·have e1:rC x l d.1[i]=(x,(l,d.1[i].2.2)):=by unfold rC;rw[if_pos hq,hq]
    simp only[hq,decide_true]
    exact ih (i+1) (out.set i (x,(l,d.1[i].2.2))) fin (by omega) (by rw[ho,←uZ _ _ _ _ hx,e1]) hf
   ·have e1:rC x l d.1[i]=d.1[i]:=by unfold rC;rw[if_neg hq]
    simp only[hq,decide_false]
    exact ih (i+1) out fin (by omega) (by rw[ho];exact qF _ _ _ _ hx e1) hf
 exact loop d.1.length 0 d.1 (d.1.map (rC x l)) (by omega) (by simp) rfl
def bJ(d:aj)(x:ID):List ab:=((bp d x).getD zV).2.1
theorem jW{α:Type}(z:α)(o:Option α):(pw z o).1=o.getD z:=by cases o<;>rfl
theorem gX{α:Type}(z:α)(o:Option α):(pw z o).2.1=o.isSome:=by cases o<;>rfl
theorem nK{d:aj}(hs:Sm d)(x:ID):(bJ d x).length≤50000000:=by
 unfold bJ
 cases h:bp d x with
 |none=>simp[zV]
 |some v=>exact hs.r v (List.mem_of_find?_eq_some h)
def bN(d:aj)(c:pn)(x:ab):aj:=b6 d c.1 (lT (bJ d c.1) c.2 x)
def aC(d:aj)(cK x:ab):aj:=b6 d ((cm d cK).getD zI) (js (bJ d ((cm d cK).getD zI)) cK x)
def aB(d:aj)(x:ab):aj:=b6 d ((cm d x).getD zI) (gR (bJ d ((cm d x).getD zI)) x)
theorem aaB(hG:HG G)(d:aj)(c:pn)(x:ab)(hs:Sm d):FX G 116 xX ((d,c,x,()),())=some ((bN d c x,()),()):=by
 have hv:=hs.v
 have hr:=nK hs c.1
 refine au (fn:=Tryz.f116) (hG _ _ rfl) (by kernel_rfl) (by kernel_rfl) ((aeG _ _ _).trans ?_)
 refine aa (Cw (hG _ _ rfl) d c.1 (by omega)) ?_
 rw[show(pw zV (bp d c.1)).1=(bp d c.1).getD zV from jW _ _]
 refine aa (aav hG (bJ d c.1) c.2 x (by omega)) ?_
 exact aa (Wx hG d c.1 (lT (bJ d c.1) c.2 x) hs) rfl
theorem aaC(hG:HG G)(d:aj)(cK x:ab)(hs:Sm d):FX G 120 GD ((d,cK,x,()),())=some ((aC d cK x,()),()):=by
 have hv:=hs.v
 have hr:=nK hs ((cm d cK).getD zI)
 refine au (fn:=Tryz.f120) (hG _ _ rfl) (by kernel_rfl) (by kernel_rfl) ((aeK _ _ _).trans ?_)
 refine aa (Hs hG d cK (by omega) (fun w hw=>by have:=hs.r w hw;omega)) ?_
 rw[show(pw zI (cm d cK)).1=(cm d cK).getD zI from jW _ _]
 refine aa (Cw (hG _ _ rfl) d ((cm d cK).getD zI) (by omega)) ?_
 rw[show(pw zV (bp d ((cm d cK).getD zI))).1=(bp d ((cm d cK).getD zI)).getD zV from jW _ _]
 refine aa (aaw hG (bJ d ((cm d cK).getD zI)) cK x (by omega)) ?_
 exact aa (Wx hG d ((cm d cK).getD zI) (js (bJ d ((cm d cK).getD zI)) cK x) hs) rfl
theorem aaD(hG:HG G)(d:aj)(x:ab)(hs:Sm d):FX G 119 My ((d,x,()),())=some ((aB d x,()),()):=by
 have hv:=hs.v
 have hr:=nK hs ((cm d x).getD zI)
 refine au (fn:=Tryz.f119) (hG _ _ rfl) (by kernel_rfl) (by kernel_rfl) ((aeJ _ _ _).trans ?_)
 refine aa (Hs hG d x (by omega) (fun w hw=>by have:=hs.r w hw;omega)) ?_
 rw[show(pw zI (cm d x)).1=(cm d x).getD zI from jW _ _]
 refine aa (Cw (hG _ _ rfl) d ((cm d x).getD zI) (by omega)) ?_
 rw[show(pw zV (bp d ((cm d x).getD zI))).1=(bp d ((cm d x).getD zI)).getD zV from jW _ _]
 refine aa (aau hG (bJ d ((cm d x).getD zI)) x (by omega)) ?_
 exact aa (Wx hG d ((cm d x).getD zI) (gR (bJ d ((cm d x).getD zI)) x) hs) rfl
def jf(row:List ab)(x:ab):ab:=(dF row x (row.length-1)).getD zD
theorem yI(o:Option ab):(Ho o).1=o.getD zD:=by cases o<;>rfl
def c9(d:aj)(x:ab):ab :=
 let row:=bJ d ((cm d x).getD zI)
 let y:=jf row x
 let z:=if y.1=x.1 then jf row y else y
 if z.1=x.1 then zD else z
theorem aaE(hG:HG G)(d:aj)(x:ab)(hs:Sm d):FX G 118 Mx ((d,x,()),())=some ((c9 d x,()),()):=by
 have hv:=hs.v
 have hr:=nK hs ((cm d x).getD zI)
 refine au (fn:=Tryz.f118) (hG _ _ rfl) (by kernel_rfl) (by kernel_rfl) ((aeI _ _ _).trans ?_)
 refine aa (Hs hG d x (by omega) (fun w hw=>by have:=hs.r w hw;omega)) ?_
 rw[show(pw zI (cm d x)).1=(cm d x).getD zI from jW _ _]
 refine aa (Cw (hG _ _ rfl) d ((cm d x).getD zI) (by omega)) ?_
 rw[show(pw zV (bp d ((cm d x).getD zI))).1=(bp d ((cm d x).getD zI)).getD zV from jW _ _]
 refine aa (aas hG (bJ d ((cm d x).getD zI)) x (by omega)) ?_
 rw[show(Ho (dF (bJ d ((cm d x).getD zI)) x ((bJ d ((cm d x).getD zI)).length-1))).1=jf (bJ d ((cm d x).getD zI)) x from yI _]
 unfold c9
 obtain⟨y,hy⟩:∃y,y=jf (bJ d ((cm d x).getD zI)) x:=⟨_,rfl⟩
 simp only[←hy,jn]
 by_cases h1:y.1=x.1
 ·have d1:=decide_eq_true h1
  rw[if_pos h1]
  simp only[d1]
  refine aa (aas hG (bJ d ((cm d x).getD zI)) y (by omega)) ?_
  rw[show(Ho (dF (bJ d ((cm d x).getD zI)) y ((bJ d ((cm d x).getD zI)).length-1))).1=jf (bJ d ((cm d x).getD zI)) y from yI _]
  by_cases h2:(jf (bJ d ((cm d x).getD zI)) y).1=x.1
  ·have d2:=decide_eq_true h2
   rw[if_pos h2]
   simp only[d2];rfl
  ·have d2:=decide_eq_false h2
   rw[if_neg h2]
   simp only[d2];rfl
 ·have d1:=decide_eq_false h1
  rw[if_neg h1,if_neg h1]
  simp only[d1];rfl
def fV(l:List aw)(d:ab):Option ab:=(l.find? fun g=>decide (g.1=d)).map (·.2)
theorem UT(hG:G 147 sB=none)(l:List aw)(d:ab)(hl:l.length≤100000000):FX G 147 sB ((l,d,()),())=some (pw zD (fV l d),()):=by
 refine au (fn:=Tryz.f147) hG (by kernel_rfl) (by kernel_rfl) ((YR _ _ _).trans ?_)
 have key:=bU l (fun i (_:Unit)=>LX G 147 sB Tryz.f147 uI (aN Tryz.prog 147 0) ((l,(i,())),(((d,()),(((((0:Int),(0:Int)),(0:Int)),()),())),()))) (fun(r:List aw) (_:Unit)=>(pw zD (fV r d),())) (fun _ _=>True)
  (fun s _=>by
   refine ar (j:=0) (by kernel_rfl) ((KF _ _ _).trans ?_)
   simp only[dn,cond_false];rfl)
  (fun i y r s hi hx hr _ ih=>by
   refine ar (j:=0) (by kernel_rfl) ((KF _ _ _).trans ?_)
   simp only[aW hi,aI hx,Option.bind_some,kD,aG hi (show l.length≤1073741824 by omega)]
   by_cases he:y.1=d
   ·simp only[he,decide_true,fV,List.find?_cons];rfl
   ·simp only[he,decide_false,fV,List.find?_cons];exact ih () trivial)
  () trivial
 exact key
theorem afq(hG:G 65 Ez=none)(a b:List aw)(ha:a.length≤100000000):FX G 65 Ez ((a,b,()),())=some ((decide (a=b),()),()):=by
 refine au (fn:=Tryz.f65) hG (by kernel_rfl) (by kernel_rfl) ((aep _ _ _).trans ?_)
 by_cases hl:a.length=b.length
 case neg =>
  have h1:((((a.length:Nat):Int)) != ((b.length:Nat):Int))=true:=by simp;omega
  have h2:¬a=b:=fun e=>hl (by rw[e])
  simp only[h1,h2,decide_false]
  rfl
 have h1:((((a.length:Nat):Int)) != ((b.length:Nat):Int))=false:=by simp[hl]
 simp only[h1]
 have B7:(a.zip b).length=a.length:=by simp[hl]
 have key:=bU (a.zip b) (fun i (_:Unit)=>LX G 65 Ez Tryz.f65 AQ (aN Tryz.prog 65 0) ((a,(b,(i,()))),((),()))) (fun r _=>((r.all (fun p=>decide (p.1=p.2)),()),())) (fun _ _=>True)
  (fun s _=>by
   refine ar (j:=0) (by kernel_rfl) ((PF _ _ _).trans ?_)
   rw[B7]
   simp only[dn];rfl)
  (fun i x r s hi hx hr _ ih=>by
   rw[B7]at hi
   obtain⟨h3,h4⟩:=yH hx
   refine ar (j:=0) (by kernel_rfl) ((PF _ _ _).trans ?_)
   simp only[aW hi,aI h3,aI h4,Option.bind_some,kD,aG hi (show a.length≤1073741824 by omega)]
   by_cases he:x.1=x.2
   ·simp only[he,decide_true,Bool.and_self,Bool.not_true,List.all_cons,Bool.true_and];exact ih () trivial
   ·have h9:(decide (x.1.1=x.2.1)&&decide (x.1.2=x.2.2))=false:=by
     rw[Bool.eq_false_iff];intro h;simp at h;exact he (Prod.ext h.1 h.2)
    simp only[he,h9,decide_false,Bool.not_false,List.all_cons,Bool.false_and];rfl)
  () trivial
 rw[uY a b hl]at key
 exact key
theorem afr(hG:HG G)(a b:aj)(hs:Sm a):FX G 55 Ak ((a,b,()),())=some ((decide (a=b),()),()):=by
 have hv:=hs.v;have he:=hs.e
 refine au (fn:=Tryz.f55) (hG _ _ rfl) (by kernel_rfl) (by kernel_rfl) ((ad4 _ _ _).trans ?_)
 by_cases hl:a.1.length=b.1.length
 case neg =>
  have h1:((((a.1.length:Nat):Int)) != ((b.1.length:Nat):Int))=true:=by simp;omega
  have h2:¬a=b:=fun e=>hl (by rw[e])
  simp only[h1,h2,decide_false]
  rfl
 have h1:((((a.1.length:Nat):Int)) != ((b.1.length:Nat):Int))=false:=by simp[hl]
 simp only[h1]
 by_cases sf:a.2.length=b.2.length
 case neg =>
  have h1:((((a.2.length:Nat):Int)) != ((b.2.length:Nat):Int))=true:=by simp;omega
  have h2:¬a=b:=fun e=>sf (by rw[e])
  simp only[h1,h2,decide_false]
  rfl
 have h2:((((a.2.length:Nat):Int)) != ((b.2.length:Nat):Int))=false:=by simp[sf]
 simp only[h2]
 have B7:(a.1.zip b.1).length=a.1.length:=by simp[hl]
 have aaF:(a.2.zip b.2).length=a.2.length:=by simp[sf]
 have Tt:=bU (a.2.zip b.2) (fun i (_:Unit)=>LX G 55 Ak Tryz.f55 AJ (aN Tryz.prog 55 1) ((i,()),(((a,()),((b,()),())),()))) (fun r _=>((r.all (fun p=>decide (p.1=p.2)),()),())) (fun _ _=>True)
  (fun s _=>by
   refine ar (j:=1) (by kernel_rfl) ((Pq _ _ _).trans ?_)
   rw[aaF]
   simp only[dn];rfl)
  (fun i x r s hi hx hr _ ih=>by
   rw[aaF]at hi
   obtain⟨h3,h4⟩:=yH hx
   refine ar (j:=1) (by kernel_rfl) ((Pq _ _ _).trans ?_)
   simp only[aW hi,aI h3,aI h4,Option.bind_some,jn,Ws,aG hi (show a.2.length≤1073741824 by omega)]
   by_cases he:x.1=x.2
   ·simp only[he,decide_true,beq_self_eq_true,Bool.and_self,Bool.not_true,List.all_cons,Bool.true_and];exact ih () trivial
   ·have h9:(decide (x.1.1=x.2.1)&&(decide (x.1.2.1=x.2.2.1)&&(x.1.2.2==x.2.2.2)))=false:=by
     rw[Bool.eq_false_iff];intro h;simp at h;exact he (Prod.ext h.1 (Prod.ext h.2.1 h.2.2))
    simp only[he,h9,decide_false,Bool.not_false,List.all_cons,Bool.false_and];rfl)
  () trivial
 rw[uY a.2 b.2 sf]at Tt
 have key:=bU (a.1.zip b.1) (fun i (_:Unit)=>LX G 55 Ak Tryz.f55 AI (aN Tryz.prog 55 0) ((i,()),(((a,()),((b,()),())),()))) (fun r _=>((r.all (fun p=>decide (p.1=p.2))&&decide (a.2=b.2),()),())) (fun _ _=>True)
  (fun s _=>by
   refine ar (j:=0) (by kernel_rfl) ((Pp _ _ _).trans ?_)
   rw[B7]
   simp only[dn,List.all_nil,Bool.true_and];exact Tt)
  (fun i x r s hi hx hr _ ih=>by
   rw[B7]at hi
   obtain⟨h3,h4⟩:=yH hx
   refine ar (j:=0) (by kernel_rfl) ((Pp _ _ _).trans ?_)
   simp only[aW hi,aI h3,aI h4,Option.bind_some,jn,Ws,aG hi (show a.1.length≤1073741824 by omega)]
   refine aa (afp hG x.1.2.1 x.2.2.1 (by have:=hs.r x.1 (List.mem_of_getElem? h3);omega)) ?_
   by_cases e1:x.1.1=x.2.1
   case neg =>
    have he:¬x.1=x.2:=fun e=>e1 (by rw[e])
    have d1:=decide_eq_false e1
    simp only[d1,he,decide_false,List.all_cons,Bool.false_and];rfl
   have d1:=decide_eq_true e1
   by_cases e2:x.1.2.2.1=x.2.2.2.1
   case neg =>
    have he:¬x.1=x.2:=fun e=>e2 (by rw[e])
    have d2:=decide_eq_false e2
    simp only[d1,d2,he,decide_false,List.all_cons,Bool.false_and];rfl
   have d2:=decide_eq_true e2
   by_cases e3:x.1.2.2.2=x.2.2.2.2
   case neg =>
    have he:¬x.1=x.2:=fun e=>e3 (by rw[e])
    have h8:(x.1.2.2.2 != x.2.2.2.2)=true:=by simp[e3]
    simp only[d1,d2,h8,he,decide_false,List.all_cons,Bool.false_and];rfl
   have h8:(x.1.2.2.2 != x.2.2.2.2)=false:=by simp[e3]
   by_cases e4:x.1.2.1=x.2.2.1
   case neg =>
    have he:¬x.1=x.2:=fun e=>e4 (by rw[e])
    have d4:=decide_eq_false e4
    simp only[d1,d2,h8,d4,he,decide_false,List.all_cons,Bool.false_and];rfl
   have d4:=decide_eq_true e4
   have he:decide (x.1=x.2)=true:=decide_eq_true (Prod.ext e1 (Prod.ext e4 (Prod.ext e2 e3)))
   simp only[d1,d2,h8,d4,he,List.all_cons,Bool.true_and];exact ih () trivial)
  () trivial
 rw[uY a.1 b.1 hl]at key
 have jm:(decide (a.1=b.1)&&decide (a.2=b.2))=decide (a=b):=by
  rw[Bool.eq_iff_iff];simp[Prod.ext_iff]
 exact key.trans (congrArg (fun b:Bool=>some ((b,()),())) jm)
theorem aaG(hG:HG G)(a b:StateT)(hs:Sm a.1)(hg:a.2.length≤50000000):FX G 22 Gp ((a,b,()),())=some ((decide (a=b),()),()):=by
 refine au (fn:=Tryz.f22) (hG _ _ rfl) (by kernel_rfl) (by kernel_rfl) ((adV _ _ _).trans ?_)
 refine aa (afr hG a.1 b.1 hs) ?_
 refine aa (afq (hG _ _ rfl) a.2 b.2 (by omega)) ?_
 have jm:(decide (a.1=b.1)&&decide (a.2=b.2))=decide (a=b):=by
  rw[Bool.eq_iff_iff];simp[Prod.ext_iff]
 rw[←jm]
 by_cases h:a.1=b.1
 ·simp only[h,decide_true,Bool.true_and];rfl
 ·simp only[h,decide_false,Bool.false_and];rfl
end Go.Vs
namespace Go.Vs
open Go.Proofs
variable {G:(f:FuncId)→(g:aJ)→Option (g.A→Option g.B)}
def mX(g:aw)(l:List aw):List aw:=l.filter fun q=>decide (q.1≠g.1)
def kV(g:aw):List aw→List aw
 |[]=>[g]
 |e::r=>if mW g.1 e.1≤0 then g::mX g (e::r) else if e.1≠g.1 then e::kV g r else kV g r
def bK(l:List aw)(g:aw):List aw:=if(fV l g.1).isSome=false∧400≤l.length then l else kV g l
def MM(g:aw)(put:Bool)(r:List aw):List aw:=if put then mX g r else kV g r
theorem aaH(hG:HG G)(l:List aw)(g:aw)(hl:l.length≤50000000) :
  LX G 117 xY Tryz.f117 kC (aN Tryz.prog 117 0) ((l,(false,((0:Int),()))),(((g,()),()),(([]:List aw),())))=some ((kV g l,()),()):=by
 have key:=bU l (fun i (s:Bool×List aw)=>LX G 117 xY Tryz.f117 kC (aN Tryz.prog 117 0) ((l,(s.1,(i,()))),(((g,()),()),(s.2,()))))
  (fun(r:List aw) (s:Bool×List aw)=>((s.2++MM g s.1 r,()),())) (fun n s=>s.2.length+n≤l.length+(if s.1 then 1 else 0))
  (fun s hs=>by
   obtain⟨put,s⟩:=s
   refine ar (j:=0) (by kernel_rfl) ((PS _ _ _).trans ?_)
   have h7:aL s.length [g].length=true:=fits (by simp at hs ⊢;split at hs<;>omega)
   cases put
   ·simp only[dn,h7,MM,kV];rfl
   ·simp only[dn,MM,if_true,mX,List.filter_nil,List.append_nil];rfl)
  (fun i y r s hi hx Bg hs ih=>by
   obtain⟨put,s⟩:=s
   refine ar (j:=0) (by kernel_rfl) ((PS _ _ _).trans ?_)
   have h6:aL s.length [y].length=true:=fits (by simp at hs ⊢;split at hs<;>omega)
   have hw:=aG hi (show l.length≤1073741824 by omega)
   cases put
   ·have h7:aL s.length [g].length=true:=fits (by simp at hs ⊢;omega)
    have h8:aL (s++[g]).length [y].length=true:=fits (by simp at hs ⊢;omega)
    simp only[aW hi,aI hx,Option.bind_some,hw]
    refine aa (aar hG g.1 y.1) ?_
    by_cases ho:mW g.1 y.1≤0
    ·have d0:=decide_eq_true ho
     by_cases hy:y.1=g.1
     ·have d1:=decide_eq_true hy
      have:=ih (true,s++[g]) (by simp at hs ⊢;omega)
      simp only[d0,h7,kD,d1,MM,kV,ho,if_true,Bool.false_eq_true,if_false]
      refine this.trans (congrArg (fun l:List aw=>some ((l,()),())) ?_)
      simp[MM,mX,hy]
     ·have d1:=decide_eq_false hy
      have:=ih (true,(s++[g])++[y]) (by simp at hs ⊢;omega)
      simp only[d0,h7,h8,kD,d1,MM,kV,ho,if_true,Bool.false_eq_true,if_false]
      refine this.trans (congrArg (fun l:List aw=>some ((l,()),())) ?_)
      simp[MM,mX,hy]
    ·have d0:=decide_eq_false ho
     by_cases hy:y.1=g.1
     ·have d1:=decide_eq_true hy
      have:=ih (false,s) (by simp at hs ⊢;omega)
      simp only[d0,kD,d1,MM,kV,ho,Bool.false_eq_true,if_false]
      refine this.trans (congrArg (fun l:List aw=>some ((l,()),())) ?_)
      simp[MM,hy]
     ·have d1:=decide_eq_false hy
      have:=ih (false,s++[y]) (by simp at hs ⊢;omega)
      simp only[d0,h6,kD,d1,MM,kV,ho,Bool.false_eq_true,if_false]
      refine this.trans (congrArg (fun l:List aw=>some ((l,()),())) ?_)
      simp[MM,hy]
   ·by_cases hy:y.1=g.1
    ·have d1:=decide_eq_true hy
     have:=ih (true,s) (by simp at hs ⊢;omega)
     simp only[aW hi,aI hx,Option.bind_some,hw,kD,d1]
     refine this.trans (congrArg (fun l:List aw=>some ((l,()),())) ?_)
     simp[MM,mX,hy]
    ·have d1:=decide_eq_false hy
     have:=ih (true,s++[y]) (by simp at hs ⊢;omega)
     simp only[aW hi,aI hx,Option.bind_some,hw,kD,d1,h6]
     refine this.trans (congrArg (fun l:List aw=>some ((l,()),())) ?_)
     simp[MM,mX,hy])
  (false,[]) (by simp)
 exact key
theorem Tu(hG:HG G)(l:List aw)(g:aw)(hl:l.length≤50000000):FX G 117 xY ((l,g,()),())=some ((bK l g,()),()):=by
 refine au (fn:=Tryz.f117) (hG _ _ rfl) (by kernel_rfl) (by kernel_rfl) ((aeH _ _ _).trans ?_)
 refine aa (UT (hG _ _ rfl) l g.1 (by omega)) ?_
 rw[show(pw zD (fV l g.1)).2.1=(fV l g.1).isSome from gX _ _]
 unfold bK
 cases hf:(fV l g.1).isSome
 ·by_cases hn:400≤l.length
  ·have h1:decide (((l.length:Nat):Int)≥400)=true:=by simp;omega
   rw[if_pos ⟨rfl,hn⟩]
   simp only[h1];rfl
  ·have h1:decide (((l.length:Nat):Int)≥400)=false:=by simp;omega
   rw[if_neg (by simp[hn])]
   simp only[h1];exact aaH hG l g hl
 ·rw[if_neg (by simp)]
  exact aaH hG l g hl
def res(d:aj)(gn:List aw):Nat→ab→ab
 |0,_=>zD
 |n+1,x=>if(cm d x).isSome then x else match fV gn x with
  |none=>zD
  |some y=>res d gn n y
def resolve(s:StateT)(x:ab):ab:=res s.1 s.2 (s.2.length+1) x
theorem afs(hG:HG G)(s:StateT)(x:ab)(hs:Sm s.1)(hg:s.2.length≤50000000):FX G 143 GH ((s,x,()),())=some ((resolve s x,()),()):=by
 refine au (fn:=Tryz.f143) (hG _ _ rfl) (by kernel_rfl) (by kernel_rfl) ((aeZ _ _ _).trans ?_)
 have hv:=hs.v
 have loop:∀(n i:Nat) (y:ab),i+n=s.2.length+1→LX G 143 GH Tryz.f143 AZ (aN Tryz.prog 143 0) (((i:Int),()),((s,()),((y,()),(((((0:Int),(0:Int)),(0:Int)),()),()))),())=some ((res s.1 s.2 n y,()),()):=by
  intro n
  induction n with
  |zero =>
   intro i y hi
   refine ar (j:=0) (by kernel_rfl) ((PX _ _ _).trans ?_)
   have h1:decide ((i:Int)≤((s.2.length:Nat):Int))=false:=by simp;omega
   simp only[h1];rfl
  |succ n ih =>
   intro i y hi
   refine ar (j:=0) (by kernel_rfl) ((PX _ _ _).trans ?_)
   have h1:decide ((i:Int)≤((s.2.length:Nat):Int))=true:=by simp;omega
   have hw:IntKind.wrap .i64 ((i:Int)+1)=((i+1:Nat):Int):=by rw[wrap_small (by omega) (by omega)];rfl
   simp only[h1,hw]
   refine aa (Hs hG s.1 y (by omega) (fun w hw=>by have:=hs.r w hw;omega)) ?_
   rw[show(pw zI (cm s.1 y)).2.1=(cm s.1 y).isSome from gX _ _,res]
   cases ha:(cm s.1 y).isSome
   ·simp only[Bool.false_eq_true,if_false]
    refine aa (UT (hG _ _ rfl) s.2 y (by omega)) ?_
    cases hf:fV s.2 y with
    |none=>rfl
    |some z=>exact ih (i+1) z (by omega)
   ·rfl
 exact loop (s.2.length+1) 0 x (by omega)
def zC:pn:=(zI,zD)
def u4(s:StateT)(c:pn)(v:ag):ab:=if resolve s c.2∈v.2.1 then resolve s c.2 else zD
def aY(s:StateT)(c:pn):pn×(Int×Unit):=match bp s.1 c.1 with
 |none=>(zC,(13,()))
 |some v=>((c.1,u4 s c v),(0,()))
theorem aaI(hG:HG G)(s:StateT)(c:pn)(hs:Sm s.1)(hg:s.2.length≤50000000):FX G 114 Mw ((s,c,()),())=some (aY s c,()):=by
 have hv:=hs.v
 refine au (fn:=Tryz.f114) (hG _ _ rfl) (by kernel_rfl) (by kernel_rfl) ((aeE _ _ _).trans ?_)
 refine aa (Cw (hG _ _ rfl) s.1 c.1 (by omega)) ?_
 unfold aY
 cases hf:bp s.1 c.1 with
 |none=>rfl
 |some v =>
  have hr:v.2.1.length≤50000000:=hs.r v (List.mem_of_find?_eq_some hf)
  refine aa (afs hG s c.2 hs hg) ?_
  refine aa (ES (hG _ _ rfl) v.2.1 (resolve s c.2) (by omega)) ?_
  by_cases hm:resolve s c.2∈v.2.1
  ·have h1:decide (idx (resolve s c.2) v.2.1 0<0)=false:=decide_eq_false (fun h=>ep.1 h hm)
   have h2:u4 s c v=resolve s c.2:=if_pos hm
   simp only[h1]
   exact congrArg (fun z:ab=>some (((c.1,z),((0:Int),())),())) h2.symm
  ·have h1:decide (idx (resolve s c.2) v.2.1 0<0)=true:=decide_eq_true (ep.2 hm)
   have h2:u4 s c v=zD:=if_neg hm
   simp only[h1]
   exact congrArg (fun z:ab=>some (((c.1,z),((0:Int),())),())) h2.symm
def ao(x:ab):ab:=(x.1,IntKind.wrap .i64 (1-x.2))
def nL(d:aj)(x:ab):Option ab:=match cm d x with
 |none=>none
 |some a=>dF (bJ d a) x 1
theorem aft(hG:HG G)(d:aj)(x:ab)(hs:Sm d):FX G 234 Pb ((d,x,()),())=some (Ho (nL d x),()):=by
 have hv:=hs.v
 refine au (fn:=Tryz.f234) (hG _ _ rfl) (by kernel_rfl) (by kernel_rfl) ((aeM _ _ _).trans ?_)
 refine aa (Hs hG d x (by omega) (fun w hw=>by have:=hs.r w hw;omega)) ?_
 unfold nL
 cases ha:cm d x with
 |none=>rfl
 |some a =>
  have hr:=nK hs a
  refine aa (Cw (hG _ _ rfl) d a (by omega)) ?_
  rw[show(pw zV (bp d a)).1=(bp d a).getD zV from jW _ _]
  exact aa (aat hG (bJ d a) x (by omega)) rfl
def Ht(d:aj)(x:ab):Option ab:=if(cm d x).isSome then nL d (ao x) else none
theorem aaJ(hG:HG G)(d:aj)(x:ab)(hs:Sm d):FX G 216 Mr ((d,x,()),())=some (Ho (Ht d x),()):=by
 have hv:=hs.v
 refine au (fn:=Tryz.f216) (hG _ _ rfl) (by kernel_rfl) (by kernel_rfl) ((aeq _ _ _).trans ?_)
 refine aa (Hs hG d x (by omega) (fun w hw=>by have:=hs.r w hw;omega)) ?_
 rw[show(pw zI (cm d x)).2.1=(cm d x).isSome from gX _ _]
 unfold Ht
 cases ha:(cm d x).isSome
 ·rfl
 ·refine aa (Wt (hG _ _ rfl) x) ?_
  exact aa (aft hG d (ao x) hs) rfl
def qG(d:aj)(x:ab):Nat→ab→List ab→List ab
 |0,_,out=>out
 |n+1,y,out=>if y=x then out else qG d x n ((Ht d y).getD zD) (out++[y])
def bf(d:aj)(x:ab):List ab:=match Ht d x with
 |none=>[]
 |some y=>qG d x 81 y [x]
theorem afu(hG:HG G)(d:aj)(x:ab)(hs:Sm d):FX G 192 Gq ((d,x,()),())=some ((bf d x,()),()):=by
 refine au (fn:=Tryz.f192) (hG _ _ rfl) (by kernel_rfl) (by kernel_rfl) ((ad0 _ _ _).trans ?_)
 refine aa (aaJ hG d x hs) ?_
 unfold bf
 cases hp:Ht d x with
 |none=>rfl
 |some y =>
  have h5:aL ([]:List ab).length [x].length=true:=fits (by simp)
  have loop:∀(n:Nat) (y:ab) (out:List ab),out.length+n=82→LX G 192 Gq Tryz.f192 AG (aN Tryz.prog 192 0) ((),((d,()),((x,()),((y,()),()))),(out,()))=some ((qG d x n y out,()),()):=by
   intro n
   induction n with
   |zero =>
    intro y out ho
    refine ar (j:=0) (by kernel_rfl) ((Pn _ _ _).trans ?_)
    have h1:decide (((out.length:Nat):Int)<82)=false:=by simp;omega
    simp only[kD,h1]
    by_cases hy:y=x
    ·have d1:=decide_eq_true hy
     simp only[d1];rfl
    ·have d1:=decide_eq_false hy
     simp only[d1];rfl
   |succ n ih =>
    intro y out ho
    refine ar (j:=0) (by kernel_rfl) ((Pn _ _ _).trans ?_)
    have h1:decide (((out.length:Nat):Int)<82)=true:=by simp;omega
    have h6:aL out.length [y].length=true:=fits (by simp;omega)
    simp only[kD,h1,h6]
    rw[qG]
    by_cases hy:y=x
    ·have d1:=decide_eq_true hy
     rw[if_pos hy]
     simp only[d1];rfl
    ·have d1:=decide_eq_false hy
     rw[if_neg hy]
     simp only[d1]
     refine aa (aaJ hG d y hs) ?_
     rw[show(Ho (Ht d y)).1=(Ht d y).getD zD from yI _]
     exact ih ((Ht d y).getD zD) (out++[y]) (by simp;omega)
  exact loop 81 y [x] (by simp)
theorem Du(d:aj)(x:ab):∀(n:Nat) (y:ab) (out:List ab),(qG d x n y out).length≤out.length+n
 |0,_,out=>Nat.le_refl _
 |n+1,y,out=>by
  unfold qG
  split
  ·omega
  ·have:=Du d x n ((Ht d y).getD zD) (out++[y]);simp at this;omega
theorem Dv(d:aj)(x:ab):(bf d x).length≤82:=by
 unfold bf
 cases Ht d x with
 |none=>simp
 |some y=>have:=Du d x 81 y [x];simpa using this
def eu:List ah→List ab
 |[]=>[]
 |e::r=>(e.1,0)::(e.1,1)::eu r
theorem lU:∀l:List ah,(eu l).length=2*l.length
 |[]=>rfl
 |e::r=>by simp[eu,lU r];omega
theorem afv(hG:G 191 EB=none)(d:aj)(hs:Sm d):FX G 191 EB ((d,()),())=some ((eu d.2,()),()):=by
 have he:=hs.e
 refine au (fn:=Tryz.f191) hG (by kernel_rfl) (by kernel_rfl) ((aev _ _ _).trans ?_)
 have key:=bU d.2 (fun i (s:List ab)=>LX G 191 EB Tryz.f191 AW (aN Tryz.prog 191 0) ((i,()),(((d,()),()),(s,())))) (fun(r:List ah) (s:List ab)=>((s++eu r,()),())) (fun n s=>s.length+2*n≤2*d.2.length)
  (fun s _=>by
   refine ar (j:=0) (by kernel_rfl) ((PO _ _ _).trans ?_)
   simp only[dn,eu,List.append_nil];rfl)
  (fun i y r s hi hx Bg hs ih=>by
   refine ar (j:=0) (by kernel_rfl) ((PO _ _ _).trans ?_)
   have h6:aL s.length [((y.1,(0:Int)):ab),(y.1,(1:Int))].length=true:=fits (by simp;omega)
   simp only[aW hi,aI hx,Option.bind_some,h6,aG hi (show d.2.length≤1073741824 by omega)]
   have:=ih (s++[(y.1,0),(y.1,1)]) (by simp;omega)
   refine this.trans (congrArg (fun l:List ab=>some ((l,()),())) ?_)
   simp[eu])
  [] (by simp)
 exact key
def gY(d:aj):List ab→List (List ab)→List ab→List (List ab)
 |[],out,_=>out
 |x::r,out,told=>if x∈told then gY d r out told else gY d r (out++[bf d x]) (told++bf d x)
def cO(d:aj):List (List ab):=gY d (eu d.2) [] []
theorem afw(hG:HG G)(d:aj)(hs:Sm d)(he:d.2.length≤5000000):FX G 164 Gs ((d,()),())=some ((cO d,()),()):=by
 refine au (fn:=Tryz.f164) (hG _ _ rfl) (by kernel_rfl) (by kernel_rfl) ((ad8 _ _ _).trans ?_)
 refine aa (afv (hG _ _ rfl) d hs) ?_
 have xD:=lU d.2
 unfold cO
 generalize eu d.2=ds at *
 have key:=bU ds (fun i (s:List (List ab)×List ab)=>LX G 164 Gs Tryz.f164 vZ (aN Tryz.prog 164 0) ((i,()),(((d,()),()),(s.1,(s.2,(ds,())))))) (fun(r:List ab) (s:List (List ab)×List ab)=>((gY d r s.1 s.2,()),()))
  (fun n s=>s.1.length+n≤ds.length∧s.2.length+82*n≤82*ds.length)
  (fun s _=>by
   refine ar (j:=0) (by kernel_rfl) ((Ps _ _ _).trans ?_)
   simp only[dn];rfl)
  (fun i y r s hi hx Bg hs' ih=>by
   obtain⟨out,told⟩:=s
   obtain⟨b1,b2⟩:=hs'
   simp only at b1 b2
   refine ar (j:=0) (by kernel_rfl) ((Ps _ _ _).trans ?_)
   simp only[aW hi,eT,Bool.and_self,Int.toNat_natCast,hx,Option.bind_some,aG hi (show ds.length≤1073741824 by omega)]
   refine aa (ES (hG _ _ rfl) told y (by omega)) ?_
   rw[gY]
   by_cases hm:y∈told
   ·have d1:decide (idx y told 0≥0)=true:=decide_eq_true (by obtain⟨k,h,_⟩:=fi hm;omega)
    rw[if_pos hm]
    simp only[d1]
    exact ih (out,told) ⟨by simp only;omega,by simp only;omega⟩
   ·have d1:decide (idx y told 0≥0)=false:=decide_eq_false (by have:=ep.2 hm;omega)
    rw[if_neg hm]
    simp only[d1]
    refine aa (afu hG d y hs) ?_
    have htl:=Dv d y
    have h6:aL out.length [bf d y].length=true:=fits (by simp;omega)
    have h7:aL told.length (bf d y).length=true:=fits (by omega)
    simp only[h6,h7]
    exact ih (out++[bf d y],told++bf d y) ⟨by simp;omega,by simp;omega⟩)
  ([],[]) ⟨by simp,by simp⟩
 exact key
end Go.Vs
