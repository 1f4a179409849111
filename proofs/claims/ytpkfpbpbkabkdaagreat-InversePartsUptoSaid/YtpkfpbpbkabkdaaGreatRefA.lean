/- What the document's reference computes, written plainly, the first part. -/
import Derived.Test.YtpkfpbpbkabkdaaGreatEngineD
import Derived.Test.YtpkfpbpbkabkdaaGreatNormalA
import Derived.Test.YtpkfpbpbkabkdaaGreatNormalB
import Derived.Test.YtpkfpbpbkabkdaaGreatNormalC
set_option linter.unusedVariables false
set_option linter.unusedSimpArgs false
namespace Go.Vs
open Go.Proofs
variable {G:(f:FuncId)→(g:aN)→Option (g.A→Option g.B)}
theorem aa{α β:Type}{o:Option α}{f:α→Option β}{a:α}{r:Option β}(h:o=some a)(k:f a=r):o.bind f=r:=by rw[h];exact k
theorem ax{α:Type}{l:List α}{i:Nat}{x:α}(h:l[i]? = some x):aY l (i:Int)=some x:=by
 have hl:=(List.getElem?_eq_some_iff.1 h).1
 simp[aY,h]
theorem wrap_small{n:Int}(h0 : -9223372036854775808≤n)(h1:n<9223372036854775808):IntKind.wrap .i64 n=n:=by
 unfold IntKind.wrap
 simp[IntKind.bits,IntKind.signed]
 omega
theorem aE{i n:Nat}(h:i<n)(hn:n≤1073741824):IntKind.wrap .i64 ((i:Int)+1)=((i+1:Nat):Int):=by
 rw[wrap_small (by omega) (by omega)];rfl
theorem aX{i n:Nat}(h:i<n):decide ((i:Int)<((n:Nat):Int))=true:=by simpa using h
theorem dL(n:Nat):decide (((n:Nat):Int)<((n:Nat):Int))=false:=by simp
theorem fits{n m:Nat}(h:n+m≤1073741824):aO n m=true:=decide_eq_true h
theorem jc(a b:ID):((a.1==b.1)&&(a.2==b.2))=decide (a=b):=by
 obtain⟨a1,a2⟩:=a;obtain⟨b1,b2⟩:=b
 rw[Bool.eq_iff_iff];simp
theorem kA(a b:ae):(((a.1.1==b.1.1)&&(a.1.2==b.1.2))&&(a.2==b.2))=decide (a=b):=by
 obtain⟨⟨a1,a2⟩,a3⟩:=a;obtain⟨⟨b1,b2⟩,b3⟩:=b
 rw[Bool.eq_iff_iff];simp[and_assoc]
theorem XQ(a b:ByteArray):(a==b)=decide (a=b):=by
 obtain⟨a⟩:=a;obtain⟨b⟩:=b
 show(a==b)=_
 rw[Bool.eq_iff_iff];simp
theorem b7{α S R:Type}(l:List α)(L:Int→S→Option R)(g:List α→S→R)(inv:Nat→S→Prop)
  (agG:∀s,inv 0 s→L ((l.length:Nat):Int) s=some (g [] s))
  (abH:∀(i:Nat) (x:α) (r:List α) (s:S),i<l.length→l[i]? = some x→i+r.length+1=l.length→inv (r.length+1) s→(∀s',inv r.length s'→L ((i+1:Nat):Int) s'=some (g r s'))→L (i:Int) s=some (g (x::r) s)) :
  ∀s,inv l.length s→L 0 s=some (g l s):=by
 have key:∀(r p:List α),p++r=l→∀s,inv r.length s→L ((p.length:Nat):Int) s=some (g r s):=by
  intro r
  induction r with
  |nil=>intro p hp s hs;rw[List.append_nil]at hp;subst hp;exact agG s hs
  |cons x r ih =>
   intro p hp s hs
   refine abH p.length x r s ?_ ?_ ?_ hs (fun s' hs' => ?_)
   ·rw[←hp];simp
   ·rw[←hp];simp
   ·rw[←hp];simp;omega
   ·have:=ih (p++[x]) (by simp[hp]) s' hs';simpa using this
 intro s hs;exact key l [] rfl s hs
def zD:ae:=((0,0),0)
def b4(x:ID):Bool:=decide (1≤x.1∧x.1≤8∧1≤x.2∧x.2≤1048576)
def fb(a b:ID):Bool:=decide (a.1<b.1∨(a.1=b.1∧a.2<b.2))
def pS(a b:ID):Int:=if a=b then 0 else if fb a b then -1 else 1
def kB(a b:ae):Bool:=fb a.1 b.1 || (decide (a.1=b.1)&&decide (a.2<b.2))
def mg(a b:ae):Int:=if a=b then 0 else if kB a b then -1 else 1
def Ia(d:ae):Bool:=b4 d.1&&decide (d.2=0∨d.2=1)
theorem Dh(hG:G 87 yX=none)(x:ID):FX G 87 yX ((x,()),())=some ((b4 x,()),()):=by
 refine aw (fn:=Tryz.f87) hG (by kernel_rfl) (by kernel_rfl) ((afe _ _ _).trans ?_)
 obtain⟨a,b⟩:=x
 show(cond (decide (a≥1)) (cond (decide (a≤8)) (cond (decide (b≥1)) (some ((decide (b≤1048576),()),())) (some ((false,()),()))) (some ((false,()),()))) (some ((false,()),())):Option ((Bool×Unit)×Unit))=some ((b4 (a,b),()),())
 unfold b4
 simp only[cond_eq_ite]
 by_cases h1:(1:Int)≤a<;>by_cases h2:a≤8<;>by_cases h3:(1:Int)≤b<;>simp[h1,h2,h3]
theorem XR(hG:G 121 Db=none)(d:ae):FX G 121 Db ((d,()),())=some (((d.1,IntKind.wrap .i64 (1-d.2)),()),()) :=
 aw hG (by kernel_rfl) (by kernel_rfl) (afi _ _ _)
theorem RI(hG:G 105 Fl=none)(a b:ID):FX G 105 Fl ((a,b,()),())=some ((pS a b,()),()):=by
 refine aw (fn:=Tryz.f105) hG (by kernel_rfl) (by kernel_rfl) ((afT _ _ _).trans ?_)
 obtain⟨a1,a2⟩:=a
 obtain⟨b1,b2⟩:=b
 unfold pS fb
 show(cond ((a1==b1)&&(a2==b2)) (some (((0:Int),()),())) (cond (decide (a1<b1)) (some (((-1:Int),()),())) (cond (a1==b1) (cond (decide (a2<b2)) (some (((-1:Int),()),())) (some (((1:Int),()),()))) (some (((1:Int),()),())))):Option ((Int×Unit)×Unit))=some (((if(a1,a2)=(b1,b2) then 0 else if(decide (a1<b1∨(a1=b1∧a2<b2)))=true then -1 else 1:Int),()),())
 by_cases h1:a1=b1<;>by_cases h2:a2=b2<;>by_cases h3:a1<b1<;>by_cases h4:a2<b2<;>first|(exfalso;omega)|(simp only[cond_eq_ite];simp[h1,h2,h3,h4];done)|(subst h1;simp only[cond_eq_ite];simp[h2,h4])
theorem UJ(hG:HG G)(a b:ae):FX G 71 Kf ((a,b,()),())=some ((mg a b,()),()):=by
 refine aw (fn:=Tryz.f71) (hG _ _ rfl) (by kernel_rfl) (by kernel_rfl) ((afL _ _ _).trans ?_)
 refine aa (RI (hG _ _ rfl) a.1 b.1) ?_
 obtain⟨a1,a2⟩:=a
 obtain⟨b1,b2⟩:=b
 show(cond (pS a1 b1 != 0) (some ((pS a1 b1,()),())) (cond (decide (a2<b2)) (some (((-1:Int),()),())) (cond (decide (a2>b2)) (some (((1:Int),()),())) (some (((0:Int),()),())))):Option ((Int×Unit)×Unit))=some ((mg (a1,a2) (b1,b2),()),())
 unfold mg kB pS
 simp only[cond_eq_ite]
 by_cases h1:a1=b1
 ·subst h1
  have hl:fb a1 a1=false:=by simp[fb]
  by_cases h2:a2=b2
  ·subst h2;simp
  ·by_cases h3:a2<b2
   ·simp[h2,h3,hl]
   ·have:a2>b2:=by omega
    simp[h2,h3,hl,this]
 ·by_cases h2:fb a1 b1=true<;>simp[h1,h2]
theorem agI(hG:HG G)(d:ae):FX G 123 Qp ((d,()),())=some ((Ia d,()),()):=by
 refine aw (fn:=Tryz.f123) (hG _ _ rfl) (by kernel_rfl) (by kernel_rfl) ((agi _ _ _).trans ?_)
 refine aa (Dh (hG _ _ rfl) d.1) ?_
 obtain⟨d1,d2⟩:=d
 show(cond (b4 d1) (cond (d2==0) (some ((true,()),())) (some (((d2==1),()),()))) (some ((false,()),())):Option ((Bool×Unit)×Unit))=some ((Ia (d1,d2),()),())
 unfold Ia
 simp only[cond_eq_ite]
 by_cases h1:b4 d1=true<;>by_cases h2:d2=0<;>simp[h1,h2]
 rw[Bool.eq_iff_iff];simp
def idx(d:ae):List ae→Int→Int
 |[],_ => -1
 |e::r,i=>if e=d then i else idx d r (i+1)
theorem agJ(row:List ae)(d:ae)(hl:row.length≤1073741824):∀(n i:Nat),i+n=row.length→LX G 144 q8 Tryz.f144 BB (aM Tryz.prog 144 0) ((row,((i:Int),())),(((d,()),()),()))=some ((idx d (row.drop i) i,()),()):=by
 intro n
 induction n with
 |zero =>
  intro i hi
  refine ao (j:=0) (by kernel_rfl) ((Qx _ _ _).trans ?_)
  have h1:¬((i:Int)<(row.length:Int)):=by omega
  have h2:row.drop i=[]:=List.drop_eq_nil_of_le (by omega)
  simp only[h1,h2,decide_false,cond_false,idx]
  rfl
 |succ n ih =>
  intro i hi
  refine ao (j:=0) (by kernel_rfl) ((Qx _ _ _).trans ?_)
  have aF:i<row.length:=by omega
  have h1:((i:Int)<(row.length:Int)):=by omega
  have h2:row.drop i=row[i]::row.drop (i+1):=List.drop_eq_getElem_cons aF
  have h3:aY row (i:Int)=some row[i]:=by simp[aY,aF]
  have h4:IntKind.wrap .i64 ((i:Int)+1)=((i+1:Nat):Int):=by rw[wrap_small (by omega) (by omega)];rfl
  have h5:=ih (i+1) (by omega)
  rw[h2,idx]
  simp only[h1,decide_true,cond_true,h3,Option.bind_some,h4,kA]
  by_cases he:row[i]=d
  ·rw[if_pos he];simp only[he,decide_true];rfl
  ·rw[if_neg he];simp only[he,decide_false]
   exact h5
theorem FG(hG:G 144 q8=none)(row:List ae)(d:ae)(hl:row.length≤1073741824):FX G 144 q8 ((row,d,()),())=some ((idx d row 0,()),()):=by
 refine aw (fn:=Tryz.f144) hG (by kernel_rfl) (by kernel_rfl) ((afj _ _ _).trans ?_)
 exact agJ (G:=G) row d hl row.length 0 (by omega)
theorem oD(d:ae):∀(row:List ae) (i:Int),0≤i→(idx d row i = -1∧d∉row)∨(∃k:Nat,idx d row i=i+k∧row[k]? = some d∧d∉row.take k)
 |[],i,_=>.inl ⟨rfl,by simp⟩
 |e::r,i,h=>by
  unfold idx
  by_cases he:e=d
  ·right;exact⟨0,by simp[he],by simp[he],by simp⟩
  ·rw[if_neg he]
   rcases oD d r (i+1) (by omega) with⟨h1,h2⟩|⟨k,h1,h2,h3⟩
   ·exact .inl ⟨h1,by simp[h2,Ne.symm he]⟩
   ·exact .inr ⟨k+1,by rw[h1];omega,by simpa using h2,by simp[h3,Ne.symm he]⟩
theorem eT{d:ae}{row:List ae}:idx d row 0<0↔d∉row:=by
 rcases oD d row 0 (by omega) with⟨h1,h2⟩|⟨k,h1,h2,_⟩
 ·simp[h1,h2]
 ·have:=List.mem_of_getElem? h2
  simp[this];omega
theorem fF{d:ae}{row:List ae}(h:d∈row):∃k:Nat,idx d row 0=k∧row[k]? = some d∧d∉row.take k:=by
 rcases oD d row 0 (by omega) with⟨_,h2⟩|⟨k,h1,h2,h3⟩
 ·exact absurd h h2
 ·exact⟨k,by omega,h2,h3⟩
theorem L6{α:Type}[DecidableEq α]:∀(a b:List α),a.length=b.length→(a.zip b).all (fun p=>decide (p.1=p.2))=decide (a=b)
 |[],[],_=>by simp
 |[],_::_,h=>by simp at h
 |_::_,[],h=>by simp at h
 |x::a,y::b,h=>by
  simp only[List.zip_cons_cons,List.all_cons,L6 a b (by simpa using h)]
  rw[Bool.eq_iff_iff];simp
theorem UK{α:Type}{a b:List α}{i:Nat}{x:α×α}(h:(a.zip b)[i]? = some x):a[i]? = some x.1∧b[i]? = some x.2:=by
 obtain⟨x1,x2⟩:=x
 exact List.getElem?_zip_eq_some.1 h
theorem agK(hG:HG G)(a b:List ae)(ha:a.length≤1073741824):FX G 98 Hq ((a,b,()),())=some ((decide (a=b),()),()):=by
 refine aw (fn:=Tryz.f98) (hG _ _ rfl) (by kernel_rfl) (by kernel_rfl) ((afG _ _ _).trans ?_)
 by_cases hl:a.length=b.length
 case neg =>
  have h1:((((a.length:Nat):Int)) != ((b.length:Nat):Int))=true:=by simp;omega
  have h2:¬a=b:=fun e=>hl (by rw[e])
  simp only[h1,h2,decide_false]
  rfl
 have h1:((((a.length:Nat):Int)) != ((b.length:Nat):Int))=false:=by simp[hl]
 simp only[h1]
 have Gi:(a.zip b).length=a.length:=by simp[hl]
 have key:=b7 (a.zip b) (fun i (_:Unit)=>LX G 98 Hq Tryz.f98 BJ (aM Tryz.prog 98 0) ((a,(b,(i,()))),((),()))) (fun r _=>((r.all (fun p=>decide (p.1=p.2)),()),())) (fun _ _=>True)
  (fun s _=>by
   refine ao (j:=0) (by kernel_rfl) ((QO _ _ _).trans ?_)
   rw[Gi]
   simp only[dL,cond_false];rfl)
  (fun i x r s hi hx hr _ ih=>by
   rw[Gi]at hi
   obtain⟨h3,h4⟩:=UK hx
   refine ao (j:=0) (by kernel_rfl) ((QO _ _ _).trans ?_)
   simp only[aX hi,cond_true,ax h3,ax h4,Option.bind_some,kA,aE hi ha]
   by_cases he:x.1=x.2
   ·simp only[he,decide_true,Bool.not_true,cond_false,List.all_cons,Bool.true_and];exact ih () trivial
   ·simp only[he,decide_false,Bool.not_false,cond_true,List.all_cons,Bool.false_and];rfl)
  () trivial
 rw[L6 a b hl]at key
 exact key
end Go.Vs
namespace Go.Vs
open Go.Proofs
variable {G:(f:FuncId)→(g:aN)→Option (g.A→Option g.B)}
def cz(row:List ae)(d:ae)(by_:Nat):Option ae:=if d∈row then row[((idx d row 0).toNat+by_)%row.length]? else none
def yI:Option ae→ae×(Bool×Unit)
 |some y=>(y,(true,()))
 |none=>(zD,(false,()))
theorem rp(a n:Nat):Int.tmod (a:Int) (n:Int)=((a%n:Nat):Int):=by
 rw[Int.tmod_eq_emod_of_nonneg (by omega)];rfl
theorem FH{row:List ae}{d:ae}(h:d∈row):((((row.length:Nat):Int))==0)=false:=by
 have:=List.length_pos_of_mem h
 simp;intro e;subst e;simp at h
theorem abI(hG:HG G)(row:List ae)(d:ae)(hl:row.length≤1073741824):FX G 148 Nt ((row,d,()),())=some (yI (cz row d (row.length-1)),()):=by
 refine aw (fn:=Tryz.f148) (hG _ _ rfl) (by kernel_rfl) (by kernel_rfl) ((afk _ _ _).trans ?_)
 refine aa (FG (hG _ _ rfl) row d hl) ?_
 by_cases h:d∈row
 ·obtain⟨k,h1,h2,h3⟩:=fF h
  have hk:=(List.getElem?_eq_some_iff.1 h2).1
  have hm:(k+(row.length-1))%row.length<row.length:=Nat.mod_lt _ (by omega)
  have e1:IntKind.wrap .i64 (IntKind.wrap .i64 ((k:Int)+((row.length:Nat):Int))-1)=((k+(row.length-1):Nat):Int):=by
   rw[wrap_small (n:=(k:Int)+((row.length:Nat):Int)) (by omega) (by omega),wrap_small (by omega) (by omega)];omega
  have e2:¬((k:Int)<0):=by omega
  have e4:row[(k+(row.length-1))%row.length]? = some row[(k+(row.length-1))%row.length]:=List.getElem?_eq_getElem hm
  have e3:cz row d (row.length-1)=some row[(k+(row.length-1))%row.length]:=by
   unfold cz;rw[if_pos h,h1];simp
  rw[e3]
  simp only[h1,e2,decide_false,cond_false,FH h,e1,rp,ax e4,Option.bind_some]
  rfl
 ·have h1:=eT.2 h
  have e3:cz row d (row.length-1)=none:=by unfold cz;rw[if_neg h]
  rw[e3]
  simp only[h1,decide_true,cond_true]
  rfl
theorem abJ(hG:HG G)(row:List ae)(d:ae)(hl:row.length≤1073741824):FX G 248 Hz ((row,d,()),())=some (yI (cz row d 1),()):=by
 refine aw (fn:=Tryz.f248) (hG _ _ rfl) (by kernel_rfl) (by kernel_rfl) ((aao _ _ _).trans ?_)
 refine aa (FG (hG _ _ rfl) row d hl) ?_
 by_cases h:d∈row
 ·obtain⟨k,h1,h2,h3⟩:=fF h
  have hk:=(List.getElem?_eq_some_iff.1 h2).1
  have hm:(k+1)%row.length<row.length:=Nat.mod_lt _ (by omega)
  have e1:IntKind.wrap .i64 ((k:Int)+1)=((k+1:Nat):Int):=by
   rw[wrap_small (by omega) (by omega)];omega
  have e2:¬((k:Int)<0):=by omega
  have e4:row[(k+1)%row.length]? = some row[(k+1)%row.length]:=List.getElem?_eq_getElem hm
  have e3:cz row d 1=some row[(k+1)%row.length]:=by
   unfold cz;rw[if_pos h,h1];simp
  rw[e3]
  simp only[h1,e2,decide_false,cond_false,FH h,e1,rp,ax e4,Option.bind_some]
  rfl
 ·have h1:=eT.2 h
  have e3:cz row d 1=none:=by unfold cz;rw[if_neg h]
  rw[e3]
  simp only[h1,decide_true,cond_true]
  rfl
def fG(row:List ae):List ae→Nat→Nat→Nat
 |[],_,k=>k
 |x::r,i,k=>if mg x (row.getD k zD)<0 then fG row r (i+1) i else fG row r (i+1) k
def CT(row:List ae)(k:Nat):List ae:=row.drop k++row.take k
def cw(row:List ae):List ae:=CT row (fG row row 0 0)
theorem pT(row:List ae):∀(r:List ae) (i k:Nat),k<row.length→i+r.length=row.length→fG row r i k<row.length
 |[],_,k,hk,_=>hk
 |x::r,i,k,hk,hi=>by
  unfold fG
  simp at hi
  split
  ·exact pT row r (i+1) i (by omega) (by omega)
  ·exact pT row r (i+1) k hk (by omega)
theorem ue(row:List ae)(k:Nat):(CT row k).length=row.length:=by unfold CT;simp;omega
theorem gr(row:List ae):(cw row).length=row.length:=ue _ _
theorem UL{row:List ae}{k:Nat}{d:ae}:d∈CT row k↔d∈row:=by
 unfold CT
 rw[List.mem_append,or_comm,←List.mem_append,List.take_append_drop]
theorem Ib{row:List ae}{d:ae}:d∈cw row↔d∈row:=UL
theorem L7{row:List ae}{k i:Nat}(hk:k≤row.length)(hi:i<row.length):(CT row k)[i]? = row[(k+i)%row.length]? := by
 unfold CT
 by_cases h:k+i<row.length
 ·rw[List.getElem?_append_left (by simp;omega),List.getElem?_drop,Nat.mod_eq_of_lt h]
 ·rw[List.getElem?_append_right (by simp;omega),List.length_drop,List.getElem?_take,if_pos (by omega)]
  congr 1
  have:(k+i)%row.length=k+i-row.length:=by rw[Nat.mod_eq_sub_mod (by omega),Nat.mod_eq_of_lt (by omega)]
  omega
theorem XS(row:List ae)(k:Nat)(hl:row.length≤100000000)(hk:k≤row.length):∀(n i:Nat) (out T:List ae),i+n=row.length→T=CT row k→out=T.take i →
  LX G 122 pM Tryz.f122 BO (aM Tryz.prog 122 1) ((row,((k:Int),((i:Int),()))),((),(out,())))=some ((T,()),()):=by
 intro n
 induction n with
 |zero =>
  intro i out T hi hT ho
  refine ao (j:=1) (by kernel_rfl) ((QX _ _ _).trans ?_)
  have h1:¬((i:Int)<(row.length:Int)):=by omega
  have h2:out=T:=by rw[ho];exact List.take_of_length_le (by rw[hT,ue];omega)
  subst h2
  simp only[h1,decide_false]
  rfl
 |succ n ih =>
  intro i out T hi hT ho
  refine ao (j:=1) (by kernel_rfl) ((QX _ _ _).trans ?_)
  have aF:i<row.length:=by omega
  have hm:(k+i)%row.length<row.length:=Nat.mod_lt _ (by omega)
  have h3:row[(k+i)%row.length]? = some row[(k+i)%row.length]:=List.getElem?_eq_getElem hm
  have h0:((((row.length:Nat):Int))==0)=false:=by simp;intro e;subst e;simp at aF
  have h4:IntKind.wrap .i64 ((k:Int)+(i:Int))=((k+i:Nat):Int):=by rw[wrap_small (by omega) (by omega)];rfl
  have Wr:out.length≤row.length:=by rw[ho,hT];simp;rw[ue];omega
  have h5:aO out.length [row[(k+i)%row.length]].length=true:=fits (by simp;omega)
  have h6:out++[row[(k+i)%row.length]]=T.take (i+1):=by
   rw[ho,List.take_add_one,hT,L7 hk aF,h3];rfl
  have h7:=ih (i+1) (out++[row[(k+i)%row.length]]) T (by omega) hT h6
  simp only[aX aF,h0,h4,rp,ax h3,Option.bind_some,h5,aE aF (show row.length≤1073741824 by omega)]
  exact h7
theorem XT(hG:HG G)(row:List ae)(hl:row.length≤100000000):∀(n i k:Nat),i+n=row.length→(k<row.length∨(row=[]∧k=0)) →
  LX G 122 pM Tryz.f122 wY (aM Tryz.prog 122 0) ((row,((k:Int),((i:Int),()))),((),()))=some ((CT row (fG row (row.drop i) i k),()),()):=by
 intro n
 induction n with
 |zero =>
  intro i k hi hk
  refine ao (j:=0) (by kernel_rfl) ((QW _ _ _).trans ?_)
  have h1:¬((i:Int)<(row.length:Int)):=by omega
  have h2:row.drop i=[]:=List.drop_eq_nil_of_le (by omega)
  simp only[h1,h2,decide_false,cond_false,fG]
  exact XS (G:=G) row k hl (by rcases hk with h|⟨_,h⟩<;>omega) row.length 0 [] (CT row k) (by omega) rfl (by simp)
 |succ n ih =>
  intro i k hi hk
  refine ao (j:=0) (by kernel_rfl) ((QW _ _ _).trans ?_)
  have aF:i<row.length:=by omega
  have wc:k<row.length:=hk.resolve_right (by rintro⟨rfl,_⟩;simp at aF)
  have h2:row.drop i=row[i]::row.drop (i+1):=List.drop_eq_getElem_cons aF
  have h3:row[i]? = some row[i]:=List.getElem?_eq_getElem aF
  have h4:row[k]? = some row[k]:=List.getElem?_eq_getElem wc
  have h5:row.getD k zD=row[k]:=by simp[List.getD,h4]
  simp only[aX aF,cond_true,ax h3,ax h4,Option.bind_some,aE aF (show row.length≤1073741824 by omega)]
  refine aa (UJ hG row[i] row[k]) ?_
  rw[h2,fG,h5]
  by_cases ho:mg row[i] row[k]<0
  ·rw[if_pos ho];simp only[ho,decide_true]
   exact ih (i+1) i (by omega) (.inl aF)
  ·rw[if_neg ho];simp only[ho,decide_false]
   exact ih (i+1) k (by omega) (.inl wc)
theorem FI(hG:HG G)(row:List ae)(hl:row.length≤100000000):FX G 122 pM ((row,()),())=some ((cw row,()),()):=by
 refine aw (fn:=Tryz.f122) (hG _ _ rfl) (by kernel_rfl) (by kernel_rfl) ((af1 _ _ _).trans ?_)
 have:=XT (G:=G) hG row hl row.length 0 0 (by omega) (by cases row with|nil=>exact .inr ⟨rfl,rfl⟩|cons x r=>exact .inl (by simp))
 exact this
def mh(row:List ae)(after d:ae):List ae :=
 if d∈row then cw row else cw (row.take ((max 0 (idx after row 0)).toNat+1)++(d::row.drop ((max 0 (idx after row 0)).toNat+1)))
def cC(row:List ae)(d:ae):List ae:=cw (row.filter fun e=>decide (e≠d))
def jF(row:List ae)(cT d:ae):List ae:=cw (if cT∈row∧d∉row then row.set (idx cT row 0).toNat d else row)
theorem abK(hG:HG G)(row:List ae)(d:ae)(hl:row.length≤100000000):FX G 126 yw ((row,d,()),())=some ((cC row d,()),()):=by
 refine aw (fn:=Tryz.f126) (hG _ _ rfl) (by kernel_rfl) (by kernel_rfl) ((aam _ _ _).trans ?_)
 have key:=b7 row (fun i (s:List ae)=>LX G 126 yw Tryz.f126 sf (aM Tryz.prog 126 0) ((row,(i,())),(((d,()),()),(s,())))) (fun r s=>((cw (s++r.filter fun e=>decide (e≠d)),()),())) (fun n s=>s.length+n≤row.length)
  (fun s hs=>by
   refine ao (j:=0) (by kernel_rfl) ((Ly _ _ _).trans ?_)
   simp only[dL,cond_false]
   refine aa (FI hG s (by omega)) ?_
   simp only[List.filter_nil,List.append_nil];rfl)
  (fun i x r s hi hx hr hs ih=>by
   refine ao (j:=0) (by kernel_rfl) ((Ly _ _ _).trans ?_)
   simp only[aX hi,cond_true,ax hx,Option.bind_some,kA,aE hi (show row.length≤1073741824 by omega)]
   by_cases he:x=d
   ·simp only[he,decide_true,Bool.not_true,ne_eq,not_true_eq_false,decide_false,List.filter_cons,Bool.false_eq_true,if_false]
    exact ih s (by omega)
   ·have h5:aO s.length [x].length=true:=fits (by simp;omega)
    simp only[he,decide_false,Bool.not_false,h5,ne_eq,not_false_eq_true,decide_true,List.filter_cons,if_true]
    have:=ih (s++[x]) (by simp;omega)
    rw[List.append_assoc]at this
    exact this)
  [] (by simp)
 exact key
theorem RJ(row:List ae)(d:ae)(k:Nat):row.take (k+1)++(d::row.drop (k+1))=(row.take (k+1)++[d])++row.drop (k+1):=by simp
theorem abL(hG:HG G)(row:List ae)(after d:ae)(hl:row.length≤90000000):FX G 146 yv ((row,after,d,()),())=some ((mh row after d,()),()):=by
 refine aw (fn:=Tryz.f146) (hG _ _ rfl) (by kernel_rfl) (by kernel_rfl) ((aak _ _ _).trans ?_)
 refine aa (FG (hG _ _ rfl) row d (by omega)) ?_
 by_cases hd:d∈row
 case pos =>
  have h1:¬idx d row 0<0:=fun h=>eT.1 h hd
  have h2:idx d row 0≥0:=by omega
  simp only[h2,decide_true,cond_true]
  refine aa (FI hG row (by omega)) ?_
  unfold mh;rw[if_pos hd];rfl
 case neg =>
 have h1:¬idx d row 0≥0:=by have:=eT.2 hd;omega
 simp only[h1,decide_false,cond_false]
 refine aa (FG (hG _ _ rfl) row after (by omega)) ?_
 obtain⟨k,hk⟩:∃k:Nat,max 0 (idx after row 0)=(k:Int):=⟨(max 0 (idx after row 0)).toNat,by omega⟩
 have Pj:k<row.length∨row=[]:=by
  rcases oD after row 0 (by omega) with⟨e,_⟩|⟨q,e,e2,_⟩
  ·have:k=0:=by omega
   subst this
   cases row with
   |nil=>exact .inr rfl
   |cons x r=>exact .inl (by simp)
  ·have:=(List.getElem?_eq_some_iff.1 e2).1
   exact .inl (by omega)
 have ve:mh row after d=cw (row.take (k+1)++(d::row.drop (k+1))):=by unfold mh;rw[if_neg hd,hk];rfl
 rw[ve]
 simp only[hk]
 obtain⟨fin,lf⟩:∃fin,fin=row.take (k+1)++(d::row.drop (k+1)):=⟨_,rfl⟩
 rw[←lf]
 have loop:∀(n i:Nat) (out:List ae),i+n=row.length→out=(if i≤k then row.take i else(row.take (k+1)++[d])++(row.drop (k+1)).take (i-(k+1))) →
   LX G 146 yv Tryz.f146 sd (aM Tryz.prog 146 0) ((row,((k:Int),((i:Int),()))),(((d,()),()),(out,())))=some ((cw fin,()),()):=by
  intro n
  induction n with
  |zero =>
   intro i out hi uX
   refine ao (j:=0) (by kernel_rfl) ((Lw _ _ _).trans ?_)
   have h1:¬((i:Int)<(row.length:Int)):=by omega
   rcases Pj with Pj|rfl
   ·have h0:((((row.length:Nat):Int))==0)=false:=by simp;intro e;subst e;simp at Pj
    have h2:out=fin:=by
     have hle:(row.drop (k+1)).take (i-(k+1))=row.drop (k+1):=List.take_of_length_le (by rw[List.length_drop];omega)
     rw[uX,lf,if_neg (by omega),RJ,hle]
    subst h2
    simp only[h1,decide_false,h0]
    exact aa (FI hG out (by rw[lf];simp;omega)) rfl
   ·have Uv:i=0:=by simpa using hi
    subst Uv
    have h2:out=[]:=by rw[uX];simp
    subst h2
    have h3:fin=[d]:=by rw[lf];simp
    subst h3
    exact aa (FI hG [d] (by simp)) rfl
  |succ n ih =>
   intro i out hi uX
   refine ao (j:=0) (by kernel_rfl) ((Lw _ _ _).trans ?_)
   have aF:i<row.length:=by omega
   have hx:row[i]? = some row[i]:=List.getElem?_eq_getElem aF
   have Wr:out.length≤row.length+1:=by rw[uX];split<;>simp<;>omega
   have h5:aO out.length [row[i]].length=true:=fits (by simp;omega)
   simp only[aX aF,ax hx,Option.bind_some,aE aF (show row.length≤1073741824 by omega),h5]
   by_cases P6:i=k
   ·subst P6
    have h6:aO (out++[row[i]]).length [d].length=true:=fits (by simp;omega)
    have h8:(((i:Nat):Int)==((i:Nat):Int))=true:=by simp
    simp only[h8,h6]
    exact ih (i+1) ((out++[row[i]])++[d]) (by omega) (by rw[if_neg (by omega),uX,if_pos (Nat.le_refl _),List.take_add_one,hx];simp)
   ·have h8:(((i:Nat):Int)==((k:Nat):Int))=false:=by simp;omega
    simp only[h8]
    refine ih (i+1) (out++[row[i]]) (by omega) ?_
    rw[uX]
    by_cases hle:i≤k
    ·rw[if_pos hle,if_pos (by omega),List.take_add_one,hx];rfl
    ·have e9:(row.drop (k+1)).take (i+1-(k+1))=(row.drop (k+1)).take (i-(k+1))++[row[i]]:=by
      rw[show i+1-(k+1)=(i-(k+1))+1 by omega,List.take_add_one,List.getElem?_drop,show k+1+(i-(k+1))=i by omega,hx];rfl
     rw[if_neg hle,if_neg (by omega),e9,List.append_assoc]
 exact loop row.length 0 [] (by omega) (by simp)
theorem abM(hG:HG G)(row:List ae)(cT d:ae)(hl:row.length≤100000000):FX G 149 Hy ((row,cT,d,()),())=some ((jF row cT d,()),()):=by
 refine aw (fn:=Tryz.f149) (hG _ _ rfl) (by kernel_rfl) (by kernel_rfl) ((aan _ _ _).trans ?_)
 have h5:aO ([]:List ae).length row.length=true:=fits (by simp;omega)
 simp only[h5,cond_true,List.nil_append]
 refine aa (FG (hG _ _ rfl) row cT (by omega)) ?_
 unfold jF
 by_cases ho:cT∈row
 ·obtain⟨k,h1,h2,h3⟩:=fF ho
  have hk:=(List.getElem?_eq_some_iff.1 h2).1
  have e1:((k:Int)≥0):=by omega
  simp only[h1,e1,decide_true]
  refine aa (FG (hG _ _ rfl) row d (by omega)) ?_
  by_cases hd:d∈row
  ·have h6:¬idx d row 0<0:=fun h=>eT.1 h hd
   rw[if_neg (by simp[hd])]
   simp only[h6,decide_false]
   exact aa (FI hG row hl) rfl
  ·have h6:=eT.2 hd
   rw[if_pos ⟨ho,hd⟩]
   have h7:(0:Int)≤(k:Int):=by omega
   have h8:((k:Int)<((row.length:Nat):Int)):=by omega
   simp only[h6,decide_true,h7,h8,Bool.and_self,Int.toNat_natCast,h2]
   exact aa (FI hG (row.set k d) (by simpa using hl)) rfl
 ·have h1:¬idx cT row 0≥0:=by have:=eT.2 ho;omega
  rw[if_neg (by simp[ho])]
  simp only[h1,decide_false]
  exact aa (FI hG row hl) rfl
end Go.Vs
namespace Go.Vs
open Go.Proofs
variable {G:(f:FuncId)→(g:aN)→Option (g.A→Option g.B)}
def e0:ByteArray:=⟨#[]⟩
def zI:ID:=(0,0)
def zV:ah:=((0,0),([],(e0,0)))
def zE:ai:=((0,0),(e0,0))
def ba(l:List ah)(x:ID):Option ah:=l.find? fun v=>decide (v.1=x)
def aT(l:List ai)(x:ID):Option ai:=l.find? fun v=>decide (v.1=x)
def aR(d:aj)(x:ID):Option ah:=ba d.1 x
def cJ(d:aj)(x:ID):Option ai:=aT d.2 x
def FJ(l:List ah)(x:ae):Option ID:=(l.find? fun v=>decide (x∈v.2.1)).map (·.1)
def bM(d:aj)(x:ae):Option ID:=FJ d.1 x
def je{α:Type}(z:α):Option α→α×(Bool×Unit)
 |some y=>(y,(true,()))
 |none=>(z,(false,()))
theorem Di(hG:G 79 qq=none)(d:aj)(x:ID)(hl:d.1.length≤100000000):FX G 79 qq ((d,x,()),())=some (je zV (aR d x),()):=by
 refine aw (fn:=Tryz.f79) hG (by kernel_rfl) (by kernel_rfl) ((afd _ _ _).trans ?_)
 have FK:=b7 d.1 (fun i (_:Unit)=>LX G 79 qq Tryz.f79 Bx (aM Tryz.prog 79 0) ((i,()),(((d,()),((x,()),(((0:Int),((0:Int),(([]:List ae),(e0,((0:Int),()))))),()))),()))) (fun(r:List ah) (_:Unit)=>(je zV (ba r x),())) (fun _ _=>True)
  (fun s _=>by
   refine ao (j:=0) (by kernel_rfl) ((Qt _ _ _).trans ?_)
   simp only[dL,cond_false];rfl)
  (fun i y r s hi hx hr _ ih=>by
   refine ao (j:=0) (by kernel_rfl) ((Qt _ _ _).trans ?_)
   simp only[aX hi,cond_true,ax hx,Option.bind_some,jc,aE hi (show d.1.length≤1073741824 by omega)]
   by_cases he:y.1=x
   ·simp only[he,decide_true,ba,aT,List.find?_cons];subst he;rfl
   ·simp only[he,decide_false,ba,aT,List.find?_cons];exact ih () trivial)
  () trivial
 exact FK
theorem RL(hG:G 92 wQ=none)(d:aj)(x:ID)(hl:d.2.length≤100000000):FX G 92 wQ ((d,x,()),())=some (je zE (cJ d x),()):=by
 refine aw (fn:=Tryz.f92) hG (by kernel_rfl) (by kernel_rfl) ((afg _ _ _).trans ?_)
 have FK:=b7 d.2 (fun i (_:Unit)=>LX G 92 wQ Tryz.f92 Bz (aM Tryz.prog 92 0) ((i,()),(((d,()),((x,()),(((((0:Int),(0:Int)),(e0,(0:Int))),()),()))),()))) (fun(r:List ai) (_:Unit)=>(je zE (aT r x),())) (fun _ _=>True)
  (fun s _=>by
   refine ao (j:=0) (by kernel_rfl) ((Qv _ _ _).trans ?_)
   simp only[dL,cond_false];rfl)
  (fun i y r s hi hx hr _ ih=>by
   refine ao (j:=0) (by kernel_rfl) ((Qv _ _ _).trans ?_)
   simp only[aX hi,cond_true,ax hx,Option.bind_some,jc,aE hi (show d.2.length≤1073741824 by omega)]
   by_cases he:y.1=x
   ·simp only[he,decide_true,ba,aT,List.find?_cons];subst he;rfl
   ·simp only[he,decide_false,ba,aT,List.find?_cons];exact ih () trivial)
  () trivial
 exact FK
theorem Ic(hG:HG G)(d:aj)(x:ae)(hl:d.1.length≤100000000)(hr:∀v∈d.1,v.2.1.length≤100000000):FX G 124 tX ((d,x,()),())=some (je zI (bM d x),()):=by
 refine aw (fn:=Tryz.f124) (hG _ _ rfl) (by kernel_rfl) (by kernel_rfl) ((aff _ _ _).trans ?_)
 have FK:=b7 d.1 (fun i (_:Unit)=>LX G 124 tX Tryz.f124 By (aM Tryz.prog 124 0) ((i,()),(((d,()),((x,()),((((0:Int),(0:Int)),()),()))),()))) (fun r _=>(je zI (FJ r x),())) (fun _ _=>True)
  (fun s _=>by
   refine ao (j:=0) (by kernel_rfl) ((Qu _ _ _).trans ?_)
   simp only[dL,cond_false];rfl)
  (fun i y r s hi hx zj _ ih=>by
   refine ao (j:=0) (by kernel_rfl) ((Qu _ _ _).trans ?_)
   simp only[aX hi,cond_true,ax hx,Option.bind_some,aE hi (show d.1.length≤1073741824 by omega)]
   refine aa (FG (hG _ _ rfl) y.2.1 x (by have:=hr y (List.mem_of_getElem? hx);omega)) ?_
   by_cases he:x∈y.2.1
   ·have h1:idx x y.2.1 0≥0:=by obtain⟨k,h,_⟩:=fF he;omega
    simp only[h1,decide_true,FJ,List.find?_cons,he];rfl
   ·have h1:¬idx x y.2.1 0≥0:=by have:=eT.2 he;omega
    simp only[h1,decide_false,FJ,List.find?_cons,he];exact ih () trivial)
  () trivial
 exact FK
theorem abN(hG:G 21 Dc=none)(d:aj)(hl:d.1.length≤100000000)(wy:d.2.length≤100000000)(hr:∀v∈d.1,v.2.1.length≤100000000):FX G 21 Dc ((d,()),())=some (((d.1,(d.2,())),()),()):=by
 refine aw (fn:=Tryz.f21) hG (by kernel_rfl) (by kernel_rfl) ((afr _ _ _).trans ?_)
 have h5:aO ([]:List ai).length d.2.length=true:=fits (by simp;omega)
 simp only[h5,cond_true,List.nil_append]
 have FK:=b7 d.1 (fun i (out:List ah)=>LX G 21 Dc Tryz.f21 BE (aM Tryz.prog 21 0) ((i,()),(((d,()),((([]:List ah),(([]:List ai),())),((out,(d.2,())),()))),()))) (fun r s=>(((s++r,(d.2,())),()),())) (fun n s=>s.length+n≤d.1.length)
  (fun s _=>by
   refine ao (j:=0) (by kernel_rfl) ((QC _ _ _).trans ?_)
   simp only[dL,List.append_nil];rfl)
  (fun i y r s hi hx zj hs ih=>by
   refine ao (j:=0) (by kernel_rfl) ((QC _ _ _).trans ?_)
   have h6:aO ([]:List ae).length y.2.1.length=true:=fits (by have:=hr y (List.mem_of_getElem? hx);simp;omega)
   have h7:aO s.length [(y.1,(y.2.1,y.2.2))].length=true:=fits (by simp;omega)
   simp only[aX hi,ax hx,Option.bind_some,h6,List.nil_append,h7,aE hi (show d.1.length≤1073741824 by omega)]
   have:=ih (s++[y]) (by simp;omega)
   rw[List.append_assoc]at this
   exact this)
  [] (by simp)
 exact FK
def eI(v:ah):List ah→List ah
 |[]=>[v]
 |w::r=>if fb v.1 w.1 then v::w::r else w::eI v r
def dw(v:ai):List ai→List ai
 |[]=>[v]
 |w::r=>if fb v.1 w.1 then v::w::r else w::dw v r
theorem cd(a:ID):fb a a=false:=by simp[fb]
theorem kb(a b:ID):pS a b<0↔fb a b=true:=by
 unfold pS
 by_cases h:a=b
 ·subst h;simp[cd]
 ·rw[if_neg h];split<;>simp_all
theorem abO(hG:HG G)(d:aj)(v:ah)(hl:d.1.length≤100000000):FX G 80 Fi ((d,v,()),())=some (((eI v d.1,d.2),()),()):=by
 refine aw (fn:=Tryz.f80) (hG _ _ rfl) (by kernel_rfl) (by kernel_rfl) ((afw _ _ _).trans ?_)
 have key:=b7 d.1 (fun i (s:Bool×List ah)=>LX G 80 Fi Tryz.f80 tY (aM Tryz.prog 80 0) ((s.1,(i,())),(((d,()),((v,()),((([]:List ah),(([]:List ai),())),((s.2,(d.2,())),())))),())))
  (fun r s=>(((s.2++(if s.1 then r else eI v r),d.2),()),())) (fun n s=>s.2.length+n≤d.1.length+(if s.1 then 1 else 0))
  (fun s hs=>by
   obtain⟨put,s⟩:=s
   refine ao (j:=0) (by kernel_rfl) ((QE _ _ _).trans ?_)
   have h7:aO s.length [v].length=true:=fits (by simp at hs ⊢;split at hs<;>omega)
   cases put
   ·simp only[dL,h7,eI];rfl
   ·simp only[dL,if_true,List.append_nil];rfl)
  (fun i y r s hi hx zj hs ih=>by
   obtain⟨put,s⟩:=s
   refine ao (j:=0) (by kernel_rfl) ((QE _ _ _).trans ?_)
   have h6:aO s.length [y].length=true:=fits (by simp at hs ⊢;split at hs<;>omega)
   cases put
   ·have h7:aO s.length [v].length=true:=fits (by simp at hs ⊢;omega)
    have h8:aO (s++[v]).length [y].length=true:=fits (by simp at hs ⊢;omega)
    simp only[aX hi,ax hx,Option.bind_some,aE hi (show d.1.length≤1073741824 by omega)]
    refine aa (RI (hG _ _ rfl) v.1 y.1) ?_
    by_cases ho:fb v.1 y.1=true
    ·have h9:=(kb _ _).2 ho
     have:=ih (true,(s++[v])++[y]) (by simp at hs ⊢;omega)
     simp only[h9,decide_true,h7,h8,eI,ho,if_true,Bool.false_eq_true,if_false]
     exact this.trans (congrArg (fun l:List ah=>some (((l,d.2),()),())) (show((s++[v])++[y])++r=s++(v::y::r) by simp))
    ·have h9:¬pS v.1 y.1<0:=fun h=>ho ((kb _ _).1 h)
     have:=ih (false,s++[y]) (by simp at hs ⊢;omega)
     simp only[h9,decide_false,h6,eI,ho,if_false,Bool.false_eq_true]
     exact this.trans (congrArg (fun l:List ah=>some (((l,d.2),()),())) (show(s++[y])++eI v r=s++(y::eI v r) by simp))
   ·have:=ih (true,s++[y]) (by simp at hs ⊢;omega)
    simp only[aX hi,ax hx,Option.bind_some,aE hi (show d.1.length≤1073741824 by omega),h6,if_true]
    exact this.trans (congrArg (fun l:List ah=>some (((l,d.2),()),())) (show(s++[y])++r=s++(y::r) by simp)))
  (false,[]) (by simp)
 exact key
theorem abP(hG:HG G)(d:aj)(v:ai)(hl:d.2.length≤100000000):FX G 115 y0 ((d,v,()),())=some (((d.1,dw v d.2),()),()):=by
 refine aw (fn:=Tryz.f115) (hG _ _ rfl) (by kernel_rfl) (by kernel_rfl) ((afV _ _ _).trans ?_)
 have key:=b7 d.2 (fun i (s:Bool×List ai)=>LX G 115 y0 Tryz.f115 tZ (aM Tryz.prog 115 0) ((s.1,(i,())),(((d,()),((v,()),((([]:List ah),(([]:List ai),())),((d.1,(s.2,())),())))),())))
  (fun r s=>(((d.1,s.2++(if s.1 then r else dw v r)),()),())) (fun n s=>s.2.length+n≤d.2.length+(if s.1 then 1 else 0))
  (fun s hs=>by
   obtain⟨put,s⟩:=s
   refine ao (j:=0) (by kernel_rfl) ((QU _ _ _).trans ?_)
   have h7:aO s.length [v].length=true:=fits (by simp at hs ⊢;split at hs<;>omega)
   cases put
   ·simp only[dL,h7,dw];rfl
   ·simp only[dL,if_true,List.append_nil];rfl)
  (fun i y r s hi hx zj hs ih=>by
   obtain⟨put,s⟩:=s
   refine ao (j:=0) (by kernel_rfl) ((QU _ _ _).trans ?_)
   have h6:aO s.length [y].length=true:=fits (by simp at hs ⊢;split at hs<;>omega)
   cases put
   ·have h7:aO s.length [v].length=true:=fits (by simp at hs ⊢;omega)
    have h8:aO (s++[v]).length [y].length=true:=fits (by simp at hs ⊢;omega)
    simp only[aX hi,ax hx,Option.bind_some,aE hi (show d.2.length≤1073741824 by omega)]
    refine aa (RI (hG _ _ rfl) v.1 y.1) ?_
    by_cases ho:fb v.1 y.1=true
    ·have h9:=(kb _ _).2 ho
     have:=ih (true,(s++[v])++[y]) (by simp at hs ⊢;omega)
     simp only[h9,decide_true,h7,h8,dw,ho,if_true,Bool.false_eq_true,if_false]
     exact this.trans (congrArg (fun l:List ai=>some (((d.1,l),()),())) (show((s++[v])++[y])++r=s++(v::y::r) by simp))
    ·have h9:¬pS v.1 y.1<0:=fun h=>ho ((kb _ _).1 h)
     have:=ih (false,s++[y]) (by simp at hs ⊢;omega)
     simp only[h9,decide_false,h6,dw,ho,if_false,Bool.false_eq_true]
     exact this.trans (congrArg (fun l:List ai=>some (((d.1,l),()),())) (show(s++[y])++dw v r=s++(y::dw v r) by simp))
   ·have:=ih (true,s++[y]) (by simp at hs ⊢;omega)
    simp only[aX hi,ax hx,Option.bind_some,aE hi (show d.2.length≤1073741824 by omega),h6,if_true]
    exact this.trans (congrArg (fun l:List ai=>some (((d.1,l),()),())) (show(s++[y])++r=s++(y::r) by simp)))
  (false,[]) (by simp)
 exact key
def dA(l:List ah)(v:ID):List ah:=l.filter fun w=>decide (w.1≠v)
def c6(l:List ai)(v:ID):List ai:=l.filter fun w=>decide (w.1≠v)
def bf(d:aj)(v e:ID):aj:=(dA d.1 v,c6 d.2 e)
theorem UM(hG:G 81 pK=none)(d:aj)(v e:ID)(hl:d.1.length≤100000000)(wy:d.2.length≤100000000):FX G 81 pK ((d,v,e,()),())=some ((bf d v e,()),()):=by
 refine aw (fn:=Tryz.f81) hG (by kernel_rfl) (by kernel_rfl) ((afx _ _ _).trans ?_)
 have XU:=fun vs=>b7 d.2 (fun i (s:List ai)=>LX G 81 pK Tryz.f81 wW (aM Tryz.prog 81 1) ((i,()),(((d,()),((e,()),((([]:List ah),(([]:List ai),())),((vs,(s,())),())))),())))
  (fun(r:List ai) (s:List ai)=>(((vs,s++c6 r e),()),())) (fun n s=>s.length+n≤d.2.length)
  (fun s hs=>by
   refine ao (j:=1) (by kernel_rfl) ((QG _ _ _).trans ?_)
   simp only[dL,dA,c6,List.filter_nil,List.append_nil];rfl)
  (fun i y r s hi hx zj hs ih=>by
   refine ao (j:=1) (by kernel_rfl) ((QG _ _ _).trans ?_)
   have h6:aO s.length [y].length=true:=fits (by simp at hs ⊢;omega)
   simp only[aX hi,ax hx,Option.bind_some,jc,aE hi (show d.2.length≤1073741824 by omega)]
   by_cases he:y.1=e
   ·simp only[he,decide_true,Bool.not_true,ne_eq,not_true_eq_false,decide_false,dA,c6,List.filter_cons,Bool.false_eq_true,if_false]
    exact ih s (by omega)
   ·simp only[he,decide_false,Bool.not_false,h6,ne_eq,not_false_eq_true,decide_true,dA,c6,List.filter_cons,if_true]
    have:=ih (s++[y]) (by simp;omega)
    rw[List.append_assoc]at this
    exact this)
  [] (by simp)
 have FK:=b7 d.1 (fun i (s:List ah)=>LX G 81 pK Tryz.f81 wV (aM Tryz.prog 81 0) ((i,()),(((d,()),((v,()),((e,()),((([]:List ah),(([]:List ai),())),((s,(([]:List ai),())),()))))),())))
  (fun(r:List ah) (s:List ah)=>(((s++dA r v,c6 d.2 e),()),())) (fun n s=>s.length+n≤d.1.length)
  (fun s hs=>by
   refine ao (j:=0) (by kernel_rfl) ((QF _ _ _).trans ?_)
   simp only[dL,dA,c6,List.filter_nil,List.append_nil]
   exact XU s)
  (fun i y r s hi hx zj hs ih=>by
   refine ao (j:=0) (by kernel_rfl) ((QF _ _ _).trans ?_)
   have h6:aO s.length [y].length=true:=fits (by simp at hs ⊢;omega)
   simp only[aX hi,ax hx,Option.bind_some,jc,aE hi (show d.1.length≤1073741824 by omega)]
   by_cases he:y.1=v
   ·simp only[he,decide_true,Bool.not_true,ne_eq,not_true_eq_false,decide_false,dA,c6,List.filter_cons,Bool.false_eq_true,if_false]
    exact ih s (by omega)
   ·simp only[he,decide_false,Bool.not_false,h6,ne_eq,not_false_eq_true,decide_true,dA,c6,List.filter_cons,if_true]
    have:=ih (s++[y]) (by simp;omega)
    rw[List.append_assoc]at this
    exact this)
  [] (by simp)
 exact FK
end Go.Vs
namespace Go.Vs
open Go.Proofs
variable {G:(f:FuncId)→(g:aN)→Option (g.A→Option g.B)}
instance ajk:DecidableEq (List ah):=@instDecidableEqList ah inferInstance
instance decLE:DecidableEq (List ai):=@instDecidableEqList ai inferInstance
instance ad8:DecidableEq aj:=instDecidableEqProd
instance abQ:DecidableEq StateT:=instDecidableEqProd
structure Sm(d:aj):Prop where
 v:d.1.length≤50000000
 e:d.2.length≤50000000
 r:∀w∈d.1,w.2.1.length≤50000000
def su(x:ID)(l:List ae)(w:ah):ah:=if w.1=x then(w.1,(l,w.2.2)) else w
def cf(d:aj)(x:ID)(l:List ae):aj:=(d.1.map (su x l),d.2)
theorem fh(i:Nat):decide ((0:Int)≤(i:Int))=true:=by simp
theorem vI{α:Type}(f:α→α)(l:List α)(i:Nat)(x:α)(hx:l[i]? = some x):((l.take i).map f++l.drop i).set i (f x)=(l.take (i+1)).map f++l.drop (i+1):=by
 have hi:=(List.getElem?_eq_some_iff.1 hx).1
 have h2:l.drop i=l[i]::l.drop (i+1):=List.drop_eq_getElem_cons hi
 have h3:l[i]=x:=(List.getElem?_eq_some_iff.1 hx).2
 rw[List.set_append_right _ _ (by simp;omega),h2,List.length_map,List.length_take,Nat.min_eq_left (by omega),Nat.sub_self,List.set_cons_zero,List.take_add_one,hx]
 simp
theorem rq{α:Type}(f:α→α)(l:List α)(i:Nat)(x:α)(hx:l[i]? = some x)(hf:f x=x):(l.take i).map f++l.drop i=(l.take (i+1)).map f++l.drop (i+1):=by
 have hi:=(List.getElem?_eq_some_iff.1 hx).1
 have h2:l.drop i=l[i]::l.drop (i+1):=List.drop_eq_getElem_cons hi
 have h3:l[i]=x:=(List.getElem?_eq_some_iff.1 hx).2
 rw[h2,h3,List.take_add_one,hx];simp[hf]
theorem FL{α:Type}(f:α→α)(l:List α)(i:Nat)(x:α)(hx:l[i]? = some x):((l.take i).map f++l.drop i)[i]? = some x:=by
 have hi:=(List.getElem?_eq_some_iff.1 hx).1
 rw[List.getElem?_append_right (by simp;omega),List.length_map,List.length_take,Nat.min_eq_left (by omega),Nat.sub_self,List.getElem?_drop,Nat.add_zero,hx]
theorem XV(hG:HG G)(d:aj)(x:ID)(l:List ae)(hs:Sm d):FX G 145 Dg ((d,x,l,()),())=some ((cf d x l,()),()):=by
 have hv:=hs.v;have he:=hs.e
 refine aw (fn:=Tryz.f145) (hG _ _ rfl) (by kernel_rfl) (by kernel_rfl) ((agk _ _ _).trans ?_)
 refine aa (abN (hG _ _ rfl) d (by omega) (by omega) (fun w hw=>by have:=hs.r w hw;omega)) ?_
 have loop:∀(n i:Nat) (out fin:List ah),i+n=d.1.length→out=(d.1.take i).map (su x l)++d.1.drop i→fin=d.1.map (su x l) →
   LX G 145 Dg Tryz.f145 w9 (aM Tryz.prog 145 0) ((l,((i:Int),())),(((x,()),((([]:List ah),(([]:List ai),())),((out,(d.2,())),()))),()))=some (((fin,d.2),()),()):=by
  intro n
  induction n with
  |zero =>
   intro i out fin hi ho hf
   refine ao (j:=0) (by kernel_rfl) ((Ri _ _ _).trans ?_)
   have Wr:out.length=d.1.length:=by rw[ho];simp;omega
   have h1:¬((i:Int)<(out.length:Int)):=by omega
   have h2:out=fin:=by rw[ho,hf,List.take_of_length_le (by omega),List.drop_eq_nil_of_le (by omega),List.append_nil]
   subst h2
   simp only[h1,decide_false];rfl
  |succ n ih =>
   intro i out fin hi ho hf
   refine ao (j:=0) (by kernel_rfl) ((Ri _ _ _).trans ?_)
   have Wr:out.length=d.1.length:=by rw[ho];simp;omega
   have aF:i<d.1.length:=by omega
   have hx:d.1[i]? = some d.1[i]:=List.getElem?_eq_getElem aF
   have hg:out[i]? = some d.1[i]:=by rw[ho];exact FL _ _ _ _ hx
   simp only[aX (show i<out.length by omega),fh,Bool.and_self,Int.toNat_natCast,hg,Option.bind_some,jc,aE aF (show d.1.length≤1073741824 by omega)]
   by_cases hq:d.1[i].1=x
   ·have e1:su x l d.1[i]=(x,(l,d.1[i].2.2)):=by unfold su;rw[if_pos hq,hq]
    simp only[hq,decide_true]
    exact ih (i+1) (out.set i (x,(l,d.1[i].2.2))) fin (by omega) (by rw[ho,←vI _ _ _ _ hx,e1]) hf
   ·have e1:su x l d.1[i]=d.1[i]:=by unfold su;rw[if_neg hq]
    simp only[hq,decide_false]
    exact ih (i+1) out fin (by omega) (by rw[ho];exact rq _ _ _ _ hx e1) hf
 exact loop d.1.length 0 d.1 (d.1.map (su x l)) (by omega) (by simp) rfl
def aS(d:aj)(x:ID):List ae:=((aR d x).getD zV).2.1
theorem ep{α:Type}(z:α)(o:Option α):(je z o).1=o.getD z:=by cases o<;>rfl
theorem gL{α:Type}(z:α)(o:Option α):(je z o).2.1=o.isSome:=by cases o<;>rfl
theorem lx{d:aj}(hs:Sm d)(x:ID):(aS d x).length≤50000000:=by
 unfold aS
 cases h:aR d x with
 |none=>simp[zV]
 |some v=>exact hs.r v (List.mem_of_find?_eq_some h)
def bQ(d:aj)(c:nF)(x:ae):aj:=cf d c.1 (mh (aS d c.1) c.2 x)
def aH(d:aj)(cT x:ae):aj:=cf d ((bM d cT).getD zI) (jF (aS d ((bM d cT).getD zI)) cT x)
def aG(d:aj)(x:ae):aj:=cf d ((bM d x).getD zI) (cC (aS d ((bM d x).getD zI)) x)
theorem abR(hG:HG G)(d:aj)(c:nF)(x:ae)(hs:Sm d):FX G 116 zc ((d,c,x,()),())=some ((bQ d c x,()),()):=by
 have hv:=hs.v
 have hr:=lx hs c.1
 refine aw (fn:=Tryz.f116) (hG _ _ rfl) (by kernel_rfl) (by kernel_rfl) ((afW _ _ _).trans ?_)
 refine aa (Di (hG _ _ rfl) d c.1 (by omega)) ?_
 rw[show(je zV (aR d c.1)).1=(aR d c.1).getD zV from ep _ _]
 refine aa (abL hG (aS d c.1) c.2 x (by omega)) ?_
 exact aa (XV hG d c.1 (mh (aS d c.1) c.2 x) hs) rfl
theorem abS(hG:HG G)(d:aj)(cT x:ae)(hs:Sm d):FX G 120 Ht ((d,cT,x,()),())=some ((aH d cT x,()),()):=by
 have hv:=hs.v
 have hr:=lx hs ((bM d cT).getD zI)
 refine aw (fn:=Tryz.f120) (hG _ _ rfl) (by kernel_rfl) (by kernel_rfl) ((af0 _ _ _).trans ?_)
 refine aa (Ic hG d cT (by omega) (fun w hw=>by have:=hs.r w hw;omega)) ?_
 rw[show(je zI (bM d cT)).1=(bM d cT).getD zI from ep _ _]
 refine aa (Di (hG _ _ rfl) d ((bM d cT).getD zI) (by omega)) ?_
 rw[show(je zV (aR d ((bM d cT).getD zI))).1=(aR d ((bM d cT).getD zI)).getD zV from ep _ _]
 refine aa (abM hG (aS d ((bM d cT).getD zI)) cT x (by omega)) ?_
 exact aa (XV hG d ((bM d cT).getD zI) (jF (aS d ((bM d cT).getD zI)) cT x) hs) rfl
theorem abT(hG:HG G)(d:aj)(x:ae)(hs:Sm d):FX G 119 NA ((d,x,()),())=some ((aG d x,()),()):=by
 have hv:=hs.v
 have hr:=lx hs ((bM d x).getD zI)
 refine aw (fn:=Tryz.f119) (hG _ _ rfl) (by kernel_rfl) (by kernel_rfl) ((afZ _ _ _).trans ?_)
 refine aa (Ic hG d x (by omega) (fun w hw=>by have:=hs.r w hw;omega)) ?_
 rw[show(je zI (bM d x)).1=(bM d x).getD zI from ep _ _]
 refine aa (Di (hG _ _ rfl) d ((bM d x).getD zI) (by omega)) ?_
 rw[show(je zV (aR d ((bM d x).getD zI))).1=(aR d ((bM d x).getD zI)).getD zV from ep _ _]
 refine aa (abK hG (aS d ((bM d x).getD zI)) x (by omega)) ?_
 exact aa (XV hG d ((bM d x).getD zI) (cC (aS d ((bM d x).getD zI)) x) hs) rfl
def eO(row:List ae)(x:ae):ae:=(cz row x (row.length-1)).getD zD
theorem vJ(o:Option ae):(yI o).1=o.getD zD:=by cases o<;>rfl
def dm(d:aj)(x:ae):ae :=
 let row:=aS d ((bM d x).getD zI)
 let y:=eO row x
 let z:=if y.1=x.1 then eO row y else y
 if z.1=x.1 then zD else z
theorem abU(hG:HG G)(d:aj)(x:ae)(hs:Sm d):FX G 118 Nz ((d,x,()),())=some ((dm d x,()),()):=by
 have hv:=hs.v
 have hr:=lx hs ((bM d x).getD zI)
 refine aw (fn:=Tryz.f118) (hG _ _ rfl) (by kernel_rfl) (by kernel_rfl) ((afY _ _ _).trans ?_)
 refine aa (Ic hG d x (by omega) (fun w hw=>by have:=hs.r w hw;omega)) ?_
 rw[show(je zI (bM d x)).1=(bM d x).getD zI from ep _ _]
 refine aa (Di (hG _ _ rfl) d ((bM d x).getD zI) (by omega)) ?_
 rw[show(je zV (aR d ((bM d x).getD zI))).1=(aR d ((bM d x).getD zI)).getD zV from ep _ _]
 refine aa (abI hG (aS d ((bM d x).getD zI)) x (by omega)) ?_
 rw[show(yI (cz (aS d ((bM d x).getD zI)) x ((aS d ((bM d x).getD zI)).length-1))).1=eO (aS d ((bM d x).getD zI)) x from vJ _]
 unfold dm
 obtain⟨y,hy⟩:∃y,y=eO (aS d ((bM d x).getD zI)) x:=⟨_,rfl⟩
 simp only[←hy,jc]
 by_cases h1:y.1=x.1
 ·have d1:=decide_eq_true h1
  rw[if_pos h1]
  simp only[d1]
  refine aa (abI hG (aS d ((bM d x).getD zI)) y (by omega)) ?_
  rw[show(yI (cz (aS d ((bM d x).getD zI)) y ((aS d ((bM d x).getD zI)).length-1))).1=eO (aS d ((bM d x).getD zI)) y from vJ _]
  by_cases h2:(eO (aS d ((bM d x).getD zI)) y).1=x.1
  ·have d2:=decide_eq_true h2
   rw[if_pos h2]
   simp only[d2];rfl
  ·have d2:=decide_eq_false h2
   rw[if_neg h2]
   simp only[d2];rfl
 ·have d1:=decide_eq_false h1
  rw[if_neg h1,if_neg h1]
  simp only[d1];rfl
def gu(l:List aA)(d:ae):Option ae:=(l.find? fun g=>decide (g.1=d)).map (·.2)
theorem Wu(hG:G 147 td=none)(l:List aA)(d:ae)(hl:l.length≤100000000):FX G 147 td ((l,d,()),())=some (je zD (gu l d),()):=by
 refine aw (fn:=Tryz.f147) hG (by kernel_rfl) (by kernel_rfl) ((aal _ _ _).trans ?_)
 have key:=b7 l (fun i (_:Unit)=>LX G 147 td Tryz.f147 vm (aM Tryz.prog 147 0) ((l,(i,())),(((d,()),(((((0:Int),(0:Int)),(0:Int)),()),())),()))) (fun(r:List aA) (_:Unit)=>(je zD (gu r d),())) (fun _ _=>True)
  (fun s _=>by
   refine ao (j:=0) (by kernel_rfl) ((Lx _ _ _).trans ?_)
   simp only[dL,cond_false];rfl)
  (fun i y r s hi hx hr _ ih=>by
   refine ao (j:=0) (by kernel_rfl) ((Lx _ _ _).trans ?_)
   simp only[aX hi,ax hx,Option.bind_some,kA,aE hi (show l.length≤1073741824 by omega)]
   by_cases he:y.1=d
   ·simp only[he,decide_true,gu,List.find?_cons];rfl
   ·simp only[he,decide_false,gu,List.find?_cons];exact ih () trivial)
  () trivial
 exact key
end Go.Vs
namespace Go.Vs
open Go.Proofs
variable {G:(f:FuncId)→(g:aN)→Option (g.A→Option g.B)}
def nH(g:aA)(l:List aA):List aA:=l.filter fun q=>decide (q.1≠g.1)
def lj(g:aA):List aA→List aA
 |[]=>[g]
 |e::r=>if mg g.1 e.1≤0 then g::nH g (e::r) else if e.1≠g.1 then e::lj g r else lj g r
def bN(l:List aA)(g:aA):List aA:=if(gu l g.1).isSome=false∧400≤l.length then l else lj g l
def NR(g:aA)(put:Bool)(r:List aA):List aA:=if put then nH g r else lj g r
theorem abV(hG:HG G)(l:List aA)(g:aA)(hl:l.length≤50000000) :
  LX G 117 zd Tryz.f117 kQ (aM Tryz.prog 117 0) ((l,(false,((0:Int),()))),(((g,()),()),(([]:List aA),())))=some ((lj g l,()),()):=by
 have key:=b7 l (fun i (s:Bool×List aA)=>LX G 117 zd Tryz.f117 kQ (aM Tryz.prog 117 0) ((l,(s.1,(i,()))),(((g,()),()),(s.2,()))))
  (fun(r:List aA) (s:Bool×List aA)=>((s.2++NR g s.1 r,()),())) (fun n s=>s.2.length+n≤l.length+(if s.1 then 1 else 0))
  (fun s hs=>by
   obtain⟨put,s⟩:=s
   refine ao (j:=0) (by kernel_rfl) ((QV _ _ _).trans ?_)
   have h7:aO s.length [g].length=true:=fits (by simp at hs ⊢;split at hs<;>omega)
   cases put
   ·simp only[dL,h7,NR,lj];rfl
   ·simp only[dL,NR,if_true,nH,List.filter_nil,List.append_nil];rfl)
  (fun i y r s hi hx zj hs ih=>by
   obtain⟨put,s⟩:=s
   refine ao (j:=0) (by kernel_rfl) ((QV _ _ _).trans ?_)
   have h6:aO s.length [y].length=true:=fits (by simp at hs ⊢;split at hs<;>omega)
   have hw:=aE hi (show l.length≤1073741824 by omega)
   cases put
   ·have h7:aO s.length [g].length=true:=fits (by simp at hs ⊢;omega)
    have h8:aO (s++[g]).length [y].length=true:=fits (by simp at hs ⊢;omega)
    simp only[aX hi,ax hx,Option.bind_some,hw]
    refine aa (UJ hG g.1 y.1) ?_
    by_cases ho:mg g.1 y.1≤0
    ·have d0:=decide_eq_true ho
     by_cases hy:y.1=g.1
     ·have d1:=decide_eq_true hy
      have:=ih (true,s++[g]) (by simp at hs ⊢;omega)
      simp only[d0,h7,kA,d1,NR,lj,ho,if_true,Bool.false_eq_true,if_false]
      refine this.trans (congrArg (fun l:List aA=>some ((l,()),())) ?_)
      simp[NR,nH,hy]
     ·have d1:=decide_eq_false hy
      have:=ih (true,(s++[g])++[y]) (by simp at hs ⊢;omega)
      simp only[d0,h7,h8,kA,d1,NR,lj,ho,if_true,Bool.false_eq_true,if_false]
      refine this.trans (congrArg (fun l:List aA=>some ((l,()),())) ?_)
      simp[NR,nH,hy]
    ·have d0:=decide_eq_false ho
     by_cases hy:y.1=g.1
     ·have d1:=decide_eq_true hy
      have:=ih (false,s) (by simp at hs ⊢;omega)
      simp only[d0,kA,d1,NR,lj,ho,Bool.false_eq_true,if_false]
      refine this.trans (congrArg (fun l:List aA=>some ((l,()),())) ?_)
      simp[NR,hy]
     ·have d1:=decide_eq_false hy
      have:=ih (false,s++[y]) (by simp at hs ⊢;omega)
      simp only[d0,h6,kA,d1,NR,lj,ho,Bool.false_eq_true,if_false]
      refine this.trans (congrArg (fun l:List aA=>some ((l,()),())) ?_)
      simp[NR,hy]
   ·by_cases hy:y.1=g.1
    ·have d1:=decide_eq_true hy
     have:=ih (true,s) (by simp at hs ⊢;omega)
     simp only[aX hi,ax hx,Option.bind_some,hw,kA,d1]
     refine this.trans (congrArg (fun l:List aA=>some ((l,()),())) ?_)
     simp[NR,nH,hy]
    ·have d1:=decide_eq_false hy
     have:=ih (true,s++[y]) (by simp at hs ⊢;omega)
     simp only[aX hi,ax hx,Option.bind_some,hw,kA,d1,h6]
     refine this.trans (congrArg (fun l:List aA=>some ((l,()),())) ?_)
     simp[NR,nH,hy])
  (false,[]) (by simp)
 exact key
theorem UN(hG:HG G)(l:List aA)(g:aA)(hl:l.length≤50000000):FX G 117 zd ((l,g,()),())=some ((bN l g,()),()):=by
 refine aw (fn:=Tryz.f117) (hG _ _ rfl) (by kernel_rfl) (by kernel_rfl) ((afX _ _ _).trans ?_)
 refine aa (Wu (hG _ _ rfl) l g.1 (by omega)) ?_
 rw[show(je zD (gu l g.1)).2.1=(gu l g.1).isSome from gL _ _]
 unfold bN
 cases hf:(gu l g.1).isSome
 ·by_cases hn:400≤l.length
  ·have h1:decide (((l.length:Nat):Int)≥400)=true:=by simp;omega
   rw[if_pos ⟨rfl,hn⟩]
   simp only[h1];rfl
  ·have h1:decide (((l.length:Nat):Int)≥400)=false:=by simp;omega
   rw[if_neg (by simp[hn])]
   simp only[h1];exact abV hG l g hl
 ·rw[if_neg (by simp)]
  exact abV hG l g hl
def res(d:aj)(gn:List aA):Nat→ae→ae
 |0,_=>zD
 |n+1,x=>if(bM d x).isSome then x else match gu gn x with
  |none=>zD
  |some y=>res d gn n y
def resolve(s:StateT)(x:ae):ae:=res s.1 s.2 (s.2.length+1) x
theorem agL(hG:HG G)(s:StateT)(x:ae)(hs:Sm s.1)(hg:s.2.length≤50000000):FX G 143 Hw ((s,x,()),())=some ((resolve s x,()),()):=by
 refine aw (fn:=Tryz.f143) (hG _ _ rfl) (by kernel_rfl) (by kernel_rfl) ((agj _ _ _).trans ?_)
 have hv:=hs.v
 have loop:∀(n i:Nat) (y:ae),i+n=s.2.length+1→LX G 143 Hw Tryz.f143 BQ (aM Tryz.prog 143 0) (((i:Int),()),((s,()),((y,()),(((((0:Int),(0:Int)),(0:Int)),()),()))),())=some ((res s.1 s.2 n y,()),()):=by
  intro n
  induction n with
  |zero =>
   intro i y hi
   refine ao (j:=0) (by kernel_rfl) ((Rh _ _ _).trans ?_)
   have h1:decide ((i:Int)≤((s.2.length:Nat):Int))=false:=by simp;omega
   simp only[h1];rfl
  |succ n ih =>
   intro i y hi
   refine ao (j:=0) (by kernel_rfl) ((Rh _ _ _).trans ?_)
   have h1:decide ((i:Int)≤((s.2.length:Nat):Int))=true:=by simp;omega
   have hw:IntKind.wrap .i64 ((i:Int)+1)=((i+1:Nat):Int):=by rw[wrap_small (by omega) (by omega)];rfl
   simp only[h1,hw]
   refine aa (Ic hG s.1 y (by omega) (fun w hw=>by have:=hs.r w hw;omega)) ?_
   rw[show(je zI (bM s.1 y)).2.1=(bM s.1 y).isSome from gL _ _,res]
   cases ha:(bM s.1 y).isSome
   ·simp only[Bool.false_eq_true,if_false]
    refine aa (Wu (hG _ _ rfl) s.2 y (by omega)) ?_
    cases hf:gu s.2 y with
    |none=>rfl
    |some z=>exact ih (i+1) z (by omega)
   ·rfl
 exact loop (s.2.length+1) 0 x (by omega)
def zC:nF:=(zI,zD)
def vK(s:StateT)(c:nF)(v:ah):ae:=if resolve s c.2∈v.2.1 then resolve s c.2 else zD
def bm(s:StateT)(c:nF):nF×(Int×Unit):=match aR s.1 c.1 with
 |none=>(zC,(13,()))
 |some v=>((c.1,vK s c v),(0,()))
theorem abW(hG:HG G)(s:StateT)(c:nF)(hs:Sm s.1)(hg:s.2.length≤50000000):FX G 114 Ny ((s,c,()),())=some (bm s c,()):=by
 have hv:=hs.v
 refine aw (fn:=Tryz.f114) (hG _ _ rfl) (by kernel_rfl) (by kernel_rfl) ((afU _ _ _).trans ?_)
 refine aa (Di (hG _ _ rfl) s.1 c.1 (by omega)) ?_
 unfold bm
 cases hf:aR s.1 c.1 with
 |none=>rfl
 |some v =>
  have hr:v.2.1.length≤50000000:=hs.r v (List.mem_of_find?_eq_some hf)
  refine aa (agL hG s c.2 hs hg) ?_
  refine aa (FG (hG _ _ rfl) v.2.1 (resolve s c.2) (by omega)) ?_
  by_cases hm:resolve s c.2∈v.2.1
  ·have h1:decide (idx (resolve s c.2) v.2.1 0<0)=false:=decide_eq_false (fun h=>eT.1 h hm)
   have h2:vK s c v=resolve s c.2:=if_pos hm
   simp only[h1]
   exact congrArg (fun z:ae=>some (((c.1,z),((0:Int),())),())) h2.symm
  ·have h1:decide (idx (resolve s c.2) v.2.1 0<0)=true:=decide_eq_true (eT.2 hm)
   have h2:vK s c v=zD:=if_neg hm
   simp only[h1]
   exact congrArg (fun z:ae=>some (((c.1,z),((0:Int),())),())) h2.symm
def ar(x:ae):ae:=(x.1,IntKind.wrap .i64 (1-x.2))
def oE(d:aj)(x:ae):Option ae:=match bM d x with
 |none=>none
 |some a=>cz (aS d a) x 1
theorem agM(hG:HG G)(d:aj)(x:ae)(hs:Sm d):FX G 234 Qm ((d,x,()),())=some (yI (oE d x),()):=by
 have hv:=hs.v
 refine aw (fn:=Tryz.f234) (hG _ _ rfl) (by kernel_rfl) (by kernel_rfl) ((af2 _ _ _).trans ?_)
 refine aa (Ic hG d x (by omega) (fun w hw=>by have:=hs.r w hw;omega)) ?_
 unfold oE
 cases ha:bM d x with
 |none=>rfl
 |some a =>
  have hr:=lx hs a
  refine aa (Di (hG _ _ rfl) d a (by omega)) ?_
  rw[show(je zV (aR d a)).1=(aR d a).getD zV from ep _ _]
  exact aa (abJ hG (aS d a) x (by omega)) rfl
def Ie(d:aj)(x:ae):Option ae:=if(bM d x).isSome then oE d (ar x) else none
theorem abX(hG:HG G)(d:aj)(x:ae)(hs:Sm d):FX G 216 Nv ((d,x,()),())=some (yI (Ie d x),()):=by
 have hv:=hs.v
 refine aw (fn:=Tryz.f216) (hG _ _ rfl) (by kernel_rfl) (by kernel_rfl) ((afD _ _ _).trans ?_)
 refine aa (Ic hG d x (by omega) (fun w hw=>by have:=hs.r w hw;omega)) ?_
 rw[show(je zI (bM d x)).2.1=(bM d x).isSome from gL _ _]
 unfold Ie
 cases ha:(bM d x).isSome
 ·rfl
 ·refine aa (XR (hG _ _ rfl) x) ?_
  exact aa (agM hG d (ar x) hs) rfl
def rr(d:aj)(x:ae):Nat→ae→List ae→List ae
 |0,_,out=>out
 |n+1,y,out=>if y=x then out else rr d x n ((Ie d y).getD zD) (out++[y])
def bq(d:aj)(x:ae):List ae:=match Ie d x with
 |none=>[]
 |some y=>rr d x 81 y [x]
theorem agN(hG:HG G)(d:aj)(x:ae)(hs:Sm d):FX G 192 Hj ((d,x,()),())=some ((bq d x,()),()):=by
 refine aw (fn:=Tryz.f192) (hG _ _ rfl) (by kernel_rfl) (by kernel_rfl) ((afh _ _ _).trans ?_)
 refine aa (abX hG d x hs) ?_
 unfold bq
 cases hp:Ie d x with
 |none=>rfl
 |some y =>
  have h5:aO ([]:List ae).length [x].length=true:=fits (by simp)
  have loop:∀(n:Nat) (y:ae) (out:List ae),out.length+n=82→LX G 192 Hj Tryz.f192 BA (aM Tryz.prog 192 0) ((),((d,()),((x,()),((y,()),()))),(out,()))=some ((rr d x n y out,()),()):=by
   intro n
   induction n with
   |zero =>
    intro y out ho
    refine ao (j:=0) (by kernel_rfl) ((Qw _ _ _).trans ?_)
    have h1:decide (((out.length:Nat):Int)<82)=false:=by simp;omega
    simp only[kA,h1]
    by_cases hy:y=x
    ·have d1:=decide_eq_true hy
     simp only[d1];rfl
    ·have d1:=decide_eq_false hy
     simp only[d1];rfl
   |succ n ih =>
    intro y out ho
    refine ao (j:=0) (by kernel_rfl) ((Qw _ _ _).trans ?_)
    have h1:decide (((out.length:Nat):Int)<82)=true:=by simp;omega
    have h6:aO out.length [y].length=true:=fits (by simp;omega)
    simp only[kA,h1,h6]
    rw[rr]
    by_cases hy:y=x
    ·have d1:=decide_eq_true hy
     rw[if_pos hy]
     simp only[d1];rfl
    ·have d1:=decide_eq_false hy
     rw[if_neg hy]
     simp only[d1]
     refine aa (abX hG d y hs) ?_
     rw[show(yI (Ie d y)).1=(Ie d y).getD zD from vJ _]
     exact ih ((Ie d y).getD zD) (out++[y]) (by simp;omega)
  exact loop 81 y [x] (by simp)
theorem Ea(d:aj)(x:ae):∀(n:Nat) (y:ae) (out:List ae),(rr d x n y out).length≤out.length+n
 |0,_,out=>Nat.le_refl _
 |n+1,y,out=>by
  unfold rr
  split
  ·omega
  ·have:=Ea d x n ((Ie d y).getD zD) (out++[y]);simp at this;omega
theorem Eb(d:aj)(x:ae):(bq d x).length≤82:=by
 unfold bq
 cases Ie d x with
 |none=>simp
 |some y=>have:=Ea d x 81 y [x];simpa using this
def eU:List ai→List ae
 |[]=>[]
 |e::r=>(e.1,0)::(e.1,1)::eU r
theorem mi:∀l:List ai,(eU l).length=2*l.length
 |[]=>rfl
 |e::r=>by simp[eU,mi r];omega
theorem agO(hG:G 191 Fj=none)(d:aj)(hs:Sm d):FX G 191 Fj ((d,()),())=some ((eU d.2,()),()):=by
 have he:=hs.e
 refine aw (fn:=Tryz.f191) hG (by kernel_rfl) (by kernel_rfl) ((afI _ _ _).trans ?_)
 have key:=b7 d.2 (fun i (s:List ae)=>LX G 191 Fj Tryz.f191 BM (aM Tryz.prog 191 0) ((i,()),(((d,()),()),(s,())))) (fun(r:List ai) (s:List ae)=>((s++eU r,()),())) (fun n s=>s.length+2*n≤2*d.2.length)
  (fun s _=>by
   refine ao (j:=0) (by kernel_rfl) ((QQ _ _ _).trans ?_)
   simp only[dL,eU,List.append_nil];rfl)
  (fun i y r s hi hx zj hs ih=>by
   refine ao (j:=0) (by kernel_rfl) ((QQ _ _ _).trans ?_)
   have h6:aO s.length [((y.1,(0:Int)):ae),(y.1,(1:Int))].length=true:=fits (by simp;omega)
   simp only[aX hi,ax hx,Option.bind_some,h6,aE hi (show d.2.length≤1073741824 by omega)]
   have:=ih (s++[(y.1,0),(y.1,1)]) (by simp;omega)
   refine this.trans (congrArg (fun l:List ae=>some ((l,()),())) ?_)
   simp[eU])
  [] (by simp)
 exact key
def il(d:aj):List ae→List (List ae)→List ae→List (List ae)
 |[],out,_=>out
 |x::r,out,told=>if x∈told then il d r out told else il d r (out++[bq d x]) (told++bq d x)
def cW(d:aj):List (List ae):=il d (eU d.2) [] []
theorem agP(hG:HG G)(d:aj)(hs:Sm d)(he:d.2.length≤5000000):FX G 164 Hk ((d,()),())=some ((cW d,()),()):=by
 refine aw (fn:=Tryz.f164) (hG _ _ rfl) (by kernel_rfl) (by kernel_rfl) ((afo _ _ _).trans ?_)
 refine aa (agO (hG _ _ rfl) d hs) ?_
 have yG:=mi d.2
 unfold cW
 generalize eU d.2=ds at *
 have key:=b7 ds (fun i (s:List (List ae)×List ae)=>LX G 164 Hk Tryz.f164 wT (aM Tryz.prog 164 0) ((i,()),(((d,()),()),(s.1,(s.2,(ds,())))))) (fun(r:List ae) (s:List (List ae)×List ae)=>((il d r s.1 s.2,()),()))
  (fun n s=>s.1.length+n≤ds.length∧s.2.length+82*n≤82*ds.length)
  (fun s _=>by
   refine ao (j:=0) (by kernel_rfl) ((Qz _ _ _).trans ?_)
   simp only[dL];rfl)
  (fun i y r s hi hx zj hs' ih=>by
   obtain⟨out,told⟩:=s
   obtain⟨b1,b2⟩:=hs'
   simp only at b1 b2
   refine ao (j:=0) (by kernel_rfl) ((Qz _ _ _).trans ?_)
   simp only[aX hi,fh,Bool.and_self,Int.toNat_natCast,hx,Option.bind_some,aE hi (show ds.length≤1073741824 by omega)]
   refine aa (FG (hG _ _ rfl) told y (by omega)) ?_
   rw[il]
   by_cases hm:y∈told
   ·have d1:decide (idx y told 0≥0)=true:=decide_eq_true (by obtain⟨k,h,_⟩:=fF hm;omega)
    rw[if_pos hm]
    simp only[d1]
    exact ih (out,told) ⟨by simp only;omega,by simp only;omega⟩
   ·have d1:decide (idx y told 0≥0)=false:=decide_eq_false (by have:=eT.2 hm;omega)
    rw[if_neg hm]
    simp only[d1]
    refine aa (agN hG d y hs) ?_
    have htl:=Eb d y
    have h6:aO out.length [bq d y].length=true:=fits (by simp;omega)
    have h7:aO told.length (bq d y).length=true:=fits (by omega)
    simp only[h6,h7]
    exact ih (out++[bq d y],told++bq d y) ⟨by simp;omega,by simp;omega⟩)
  ([],[]) ⟨by simp,by simp⟩
 exact key
end Go.Vs
