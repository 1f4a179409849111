/- What the document's reference computes, written plainly, the first part. -/
import Derived.Test.YtpldhjjpeldkaaaGreatEngineD
import Derived.Test.YtpldhjjpeldkaaaGreatNormalA
import Derived.Test.YtpldhjjpeldkaaaGreatNormalB
import Derived.Test.YtpldhjjpeldkaaaGreatNormalC
set_option linter.unusedVariables false
set_option linter.unusedSimpArgs false
namespace Go.Vs
open Go.Proofs
variable {G:(f:FuncId)→(g:aL)→Option (g.A→Option g.B)}
theorem aa{α β:Type}{o:Option α}{f:α→Option β}{a:α}{r:Option β}(h:o=some a)(k:f a=r):o.bind f=r:=by rw [h];exact k
theorem aD{α:Type}{l:List α}{i:Nat}{x:α}(h:l[i]? = some x):bh l (i:Int)=some x:=by
 have hl:=(List.getElem?_eq_some_iff.1 h).1
 simp [bh,h]
theorem wrap_small{n:Int}(h0 : -9223372036854775808≤n)(h1:n<9223372036854775808):IntKind.wrap .i64 n=n:=by
 unfold IntKind.wrap
 simp [IntKind.bits,IntKind.signed]
 omega
theorem aO{i n:Nat}(h:i<n)(hn:n≤1073741824):IntKind.wrap .i64 ((i:Int)+1)=((i+1:Nat):Int):=by
 rw [wrap_small (by omega) (by omega)];rfl
theorem ba{i n:Nat}(h:i<n):decide ((i:Int)<((n:Nat):Int))=true:=by simpa using h
theorem je(n:Nat):decide (((n:Nat):Int)<((n:Nat):Int))=false:=by simp
theorem fits{n m:Nat}(h:n+m≤1073741824):bq n m=true:=decide_eq_true h
theorem wq(a b:ID):((a.1==b.1)&&(a.2==b.2))=decide (a=b):=by
 obtain ⟨a1,a2⟩:=a;obtain ⟨b1,b2⟩:=b
 rw [Bool.eq_iff_iff];simp
theorem uN(a b:ae):(((a.1.1==b.1.1)&&(a.1.2==b.1.2))&&(a.2==b.2))=decide (a=b):=by
 obtain ⟨⟨a1,a2⟩,a3⟩:=a;obtain ⟨⟨b1,b2⟩,b3⟩:=b
 rw [Bool.eq_iff_iff];simp [and_assoc]
theorem VA(a b:ByteArray):(a==b)=decide (a=b):=by
 obtain ⟨a⟩:=a;obtain ⟨b⟩:=b
 show (a==b)=_
 rw [Bool.eq_iff_iff];simp
theorem c8{α S R:Type}(l:List α)(L:Int→S→Option R)(g:List α→S→R)(inv:Nat→S→Prop)
  (aeB:∀s,inv 0 s→L ((l.length:Nat):Int) s=some (g [] s))
  (Zz:∀(i:Nat) (x:α) (r:List α) (s:S),i<l.length→l[i]? = some x→i+r.length+1=l.length→inv (r.length+1) s→(∀s',inv r.length s'→L ((i+1:Nat):Int) s'=some (g r s'))→L (i:Int) s=some (g (x::r) s)) :
  ∀s,inv l.length s→L 0 s=some (g l s):=by
 have key:∀(r p:List α),p++r=l→∀s,inv r.length s→L ((p.length:Nat):Int) s=some (g r s):=by
  intro r
  induction r with
  | nil=>intro p hp s hs;rw [List.append_nil] at hp;subst hp;exact aeB s hs
  | cons x r ih =>
   intro p hp s hs
   refine Zz p.length x r s ?_ ?_ ?_ hs (fun s' hs' => ?_)
   ·rw [←hp];simp
   ·rw [←hp];simp
   ·rw [←hp];simp;omega
   ·have:=ih (p++[x]) (by simp [hp]) s' hs';simpa using this
 intro s hs;exact key l [] rfl s hs
def zD:ae:=((0,0),0)
def cK(x:ID):Bool:=decide (1≤x.1∧x.1≤8∧1≤x.2∧x.2≤1048576)
def eV(a b:ID):Bool:=decide (a.1<b.1∨(a.1=b.1∧a.2<b.2))
def qy(a b:ID):Int:=if a=b then 0 else if eV a b then -1 else 1
def kd(a b:ae):Bool:=eV a.1 b.1 || (decide (a.1=b.1)&&decide (a.2<b.2))
def lU(a b:ae):Int:=if a=b then 0 else if kd a b then -1 else 1
def VB(d:ae):Bool:=cK d.1&&decide (d.2=0∨d.2=1)
theorem So(hG:G 19 Ma=none)(x:ID):FX G 19 Ma ((x,()),())=some ((cK x,()),()):=by
 refine aC (fn:=Tryz.f19) hG (by kernel_rfl) (by kernel_rfl) ((ady _ _ _).trans ?_)
 obtain ⟨a,b⟩:=x
 show (cond (decide (a≥1)) (cond (decide (a≤8)) (cond (decide (b≥1)) (some ((decide (b≤1048576),()),())) (some ((false,()),()))) (some ((false,()),()))) (some ((false,()),())):Option ((Bool×Unit)×Unit))=some ((cK (a,b),()),())
 unfold cK
 simp only [cond_eq_ite]
 by_cases h1:(1:Int)≤a<;>by_cases h2:a≤8<;>by_cases h3:(1:Int)≤b<;>simp [h1,h2,h3]
theorem aeD(hG:G 23 Mb=none)(d:ae):FX G 23 Mb ((d,()),())=some (((d.1,IntKind.wrap .i64 (1 - d.2)),()),()) :=
 aC hG (by kernel_rfl) (by kernel_rfl) (adC _ _ _)
theorem VC(hG:G 69 I3=none)(a b:ID):FX G 69 I3 ((a,b,()),())=some ((qy a b,()),()):=by
 refine aC (fn:=Tryz.f69) hG (by kernel_rfl) (by kernel_rfl) ((ad0 _ _ _).trans ?_)
 obtain ⟨a1,a2⟩:=a
 obtain ⟨b1,b2⟩:=b
 unfold qy eV
 show (cond ((a1==b1)&&(a2==b2)) (some (((0:Int),()),())) (cond (decide (a1<b1)) (some (((-1:Int),()),())) (cond (a1==b1) (cond (decide (a2<b2)) (some (((-1:Int),()),())) (some (((1:Int),()),()))) (some (((1:Int),()),())))):Option ((Int×Unit)×Unit))=some (((if (a1,a2)=(b1,b2) then 0 else if (decide (a1<b1∨(a1=b1∧a2<b2)))=true then -1 else 1:Int),()),())
 by_cases h1:a1=b1<;>by_cases h2:a2=b2<;>by_cases h3:a1<b1<;>by_cases h4:a2<b2<;>first | (exfalso;omega) | (simp only [cond_eq_ite];simp [h1,h2,h3,h4];done) | (subst h1;simp only [cond_eq_ite];simp [h2,h4])
theorem VD(hG:HG G)(a b:ae):FX G 62 Md ((a,b,()),())=some ((lU a b,()),()):=by
 refine aC (fn:=Tryz.f62) (hG _ _ rfl) (by kernel_rfl) (by kernel_rfl) ((adX _ _ _).trans ?_)
 refine aa (VC (hG _ _ rfl) a.1 b.1) ?_
 obtain ⟨a1,a2⟩:=a
 obtain ⟨b1,b2⟩:=b
 show (cond (qy a1 b1 != 0) (some ((qy a1 b1,()),())) (cond (decide (a2<b2)) (some (((-1:Int),()),())) (cond (decide (a2 > b2)) (some (((1:Int),()),())) (some (((0:Int),()),())))):Option ((Int×Unit)×Unit))=some ((lU (a1,a2) (b1,b2),()),())
 unfold lU kd qy
 simp only [cond_eq_ite]
 by_cases h1:a1=b1
 ·subst h1
  have hl:eV a1 a1=false:=by simp [eV]
  by_cases h2:a2=b2
  ·subst h2;simp
  ·by_cases h3:a2<b2
   ·simp [h2,h3,hl]
   ·have:a2 > b2:=by omega
    simp [h2,h3,hl,this]
 ·by_cases h2:eV a1 b1=true<;>simp [h1,h2]
def idx(d:ae):List ae→Int→Int
 | [],_ => -1
 | e::r,i=>if e=d then i else idx d r (i+1)
theorem aeE(row:List ae)(d:ae)(hl:row.length≤1073741824):∀(n i:Nat),i+n=row.length→LX G 24 Aq Tryz.f24 AK (aX Tryz.prog 24 0) ((row,((i:Int),())),(((d,()),()),()))=some ((idx d (row.drop i) i,()),()):=by
 intro n
 induction n with
 | zero =>
  intro i hi
  refine aw (j:=0) (by kernel_rfl) ((ON _ _ _).trans ?_)
  have h1:¬((i:Int)<(row.length:Int)):=by omega
  have h2:row.drop i=[]:=List.drop_eq_nil_of_le (by omega)
  simp only [h1,h2,decide_false,cond_false,idx]
  rfl
 | succ n ih =>
  intro i hi
  refine aw (j:=0) (by kernel_rfl) ((ON _ _ _).trans ?_)
  have aE:i<row.length:=by omega
  have h1:((i:Int)<(row.length:Int)):=by omega
  have h2:row.drop i=row[i]::row.drop (i+1):=List.drop_eq_getElem_cons aE
  have h3:bh row (i:Int)=some row[i]:=by simp [bh,aE]
  have h4:IntKind.wrap .i64 ((i:Int)+1)=((i+1:Nat):Int):=by rw [wrap_small (by omega) (by omega)];rfl
  have h5:=ih (i+1) (by omega)
  rw [h2,idx]
  simp only [h1,decide_true,cond_true,h3,Option.bind_some,h4,uN]
  by_cases he:row[i]=d
  ·rw [if_pos he];simp only [he,decide_true];rfl
  ·rw [if_neg he];simp only [he,decide_false]
   exact h5
theorem VF(hG:G 24 Aq=none)(row:List ae)(d:ae)(hl:row.length≤1073741824):FX G 24 Aq ((row,d,()),())=some ((idx d row 0,()),()):=by
 refine aC (fn:=Tryz.f24) hG (by kernel_rfl) (by kernel_rfl) ((adD _ _ _).trans ?_)
 exact aeE (G:=G) row d hl row.length 0 (by omega)
theorem rk(d:ae):∀(row:List ae) (i:Int),0≤i→(idx d row i = -1∧d∉row)∨(∃k:Nat,idx d row i=i+k∧row[k]? = some d∧d∉row.take k)
 | [],i,_=>.inl ⟨rfl,by simp⟩
 | e::r,i,h=>by
  unfold idx
  by_cases he:e=d
  ·right;exact ⟨0,by simp [he],by simp [he],by simp⟩
  ·rw [if_neg he]
   rcases rk d r (i+1) (by omega) with ⟨h1,h2⟩ | ⟨k,h1,h2,h3⟩
   ·exact .inl ⟨h1,by simp [h2,Ne.symm he]⟩
   ·exact .inr ⟨k+1,by rw [h1];omega,by simpa using h2,by simp [h3,Ne.symm he]⟩
theorem mu{d:ae}{row:List ae}:idx d row 0<0↔d∉row:=by
 rcases rk d row 0 (by omega) with ⟨h1,h2⟩ | ⟨k,h1,h2,_⟩
 ·simp [h1,h2]
 ·have:=List.mem_of_getElem? h2
  simp [this];omega
theorem eZ{d:ae}{row:List ae}(h:d∈row):∃k:Nat,idx d row 0=k∧row[k]? = some d∧d∉row.take k:=by
 rcases rk d row 0 (by omega) with ⟨_,h2⟩ | ⟨k,h1,h2,h3⟩
 ·exact absurd h h2
 ·exact ⟨k,by omega,h2,h3⟩
theorem uO{α:Type}[DecidableEq α]:∀(a b:List α),a.length=b.length→(a.zip b).all (fun p=>decide (p.1=p.2))=decide (a=b)
 | [],[],_=>by simp
 | [],_::_,h=>by simp at h
 | _::_,[],h=>by simp at h
 | x::a,y::b,h=>by
  simp only [List.zip_cons_cons,List.all_cons,uO a b (by simpa using h)]
  rw [Bool.eq_iff_iff];simp
theorem yO{α:Type}{a b:List α}{i:Nat}{x:α×α}(h:(a.zip b)[i]? = some x):a[i]? = some x.1∧b[i]? = some x.2:=by
 obtain ⟨x1,x2⟩:=x
 exact List.getElem?_zip_eq_some.1 h
theorem ZA(hG:HG G)(a b:List ae)(ha:a.length≤1073741824):FX G 57 Ey ((a,b,()),())=some ((decide (a=b),()),()):=by
 refine aC (fn:=Tryz.f57) (hG _ _ rfl) (by kernel_rfl) (by kernel_rfl) ((adT _ _ _).trans ?_)
 by_cases hl:a.length=b.length
 case neg =>
  have h1:((((a.length:Nat):Int)) != ((b.length:Nat):Int))=true:=by simp;omega
  have h2:¬a=b:=fun e=>hl (by rw [e])
  simp only [h1,h2,decide_false]
  rfl
 have h1:((((a.length:Nat):Int)) != ((b.length:Nat):Int))=false:=by simp [hl]
 simp only [h1]
 have B3:(a.zip b).length=a.length:=by simp [hl]
 have key:=c8 (a.zip b) (fun i (_:Unit)=>LX G 57 Ey Tryz.f57 AW (aX Tryz.prog 57 0) ((a,(b,(i,()))),((),()))) (fun r _=>((r.all (fun p=>decide (p.1=p.2)),()),())) (fun _ _=>True)
  (fun s _=>by
   refine aw (j:=0) (by kernel_rfl) ((OZ _ _ _).trans ?_)
   rw [B3]
   simp only [je,cond_false];rfl)
  (fun i x r s hi hx hr _ ih=>by
   rw [B3] at hi
   obtain ⟨h3,h4⟩:=yO hx
   refine aw (j:=0) (by kernel_rfl) ((OZ _ _ _).trans ?_)
   simp only [ba hi,cond_true,aD h3,aD h4,Option.bind_some,uN,aO hi ha]
   by_cases he:x.1=x.2
   ·simp only [he,decide_true,Bool.not_true,cond_false,List.all_cons,Bool.true_and];exact ih () trivial
   ·simp only [he,decide_false,Bool.not_false,cond_true,List.all_cons,Bool.false_and];rfl)
  () trivial
 rw [uO a b hl] at key
 exact key
end Go.Vs
namespace Go.Vs
open Go.Proofs
variable {G:(f:FuncId)→(g:aL)→Option (g.A→Option g.B)}
def fa(row:List ae)(d:ae)(by_:Nat):Option ae:=if d∈row then row[((idx d row 0).toNat+by_) % row.length]? else none
def KI:Option ae→ae×(Bool×Unit)
 | some y=>(y,(true,()))
 | none=>(zD,(false,()))
theorem uP(a n:Nat):Int.tmod (a:Int) (n:Int)=((a % n:Nat):Int):=by
 rw [Int.tmod_eq_emod_of_nonneg (by omega)];rfl
theorem Jg{row:List ae}{d:ae}(h:d∈row):((((row.length:Nat):Int))==0)=false:=by
 have:=List.length_pos_of_mem h
 simp;intro e;subst e;simp at h
theorem ZB(hG:HG G)(row:List ae)(d:ae)(hl:row.length≤1073741824):FX G 104 Gt ((row,d,()),())=some (KI (fa row d 1),()):=by
 refine aC (fn:=Tryz.f104) (hG _ _ rfl) (by kernel_rfl) (by kernel_rfl) ((Yu _ _ _).trans ?_)
 refine aa (VF (hG _ _ rfl) row d hl) ?_
 by_cases h:d∈row
 ·obtain ⟨k,h1,h2,h3⟩:=eZ h
  have hk:=(List.getElem?_eq_some_iff.1 h2).1
  have hm:(k+1) % row.length<row.length:=Nat.mod_lt _ (by omega)
  have e1:IntKind.wrap .i64 ((k:Int)+1)=((k+1:Nat):Int):=by
   rw [wrap_small (by omega) (by omega)];omega
  have e2:¬((k:Int)<0):=by omega
  have e4:row[(k+1) % row.length]? = some row[(k+1) % row.length]:=List.getElem?_eq_getElem hm
  have e3:fa row d 1=some row[(k+1) % row.length]:=by
   unfold fa;rw [if_pos h,h1];simp
  rw [e3]
  simp only [h1,e2,decide_false,cond_false,Jg h,e1,uP,aD e4,Option.bind_some]
  rfl
 ·have h1:=mu.2 h
  have e3:fa row d 1=none:=by unfold fa;rw [if_neg h]
  rw [e3]
  simp only [h1,decide_true,cond_true]
  rfl
def eF(row:List ae):List ae→Nat→Nat→Nat
 | [],_,k=>k
 | x::r,i,k=>if lU x (row.getD k zD)<0 then eF row r (i+1) i else eF row r (i+1) k
def B4(row:List ae)(k:Nat):List ae:=row.drop k++row.take k
def b5(row:List ae):List ae:=B4 row (eF row row 0 0)
theorem mw(row:List ae):∀(r:List ae) (i k:Nat),k<row.length→i+r.length=row.length→eF row r i k<row.length
 | [],_,k,hk,_=>hk
 | x::r,i,k,hk,hi=>by
  unfold eF
  simp at hi
  split
  ·exact mw row r (i+1) i (by omega) (by omega)
  ·exact mw row r (i+1) k hk (by omega)
theorem tl(row:List ae)(k:Nat):(B4 row k).length=row.length:=by unfold B4;simp;omega
theorem fS(row:List ae):(b5 row).length=row.length:=tl _ _
theorem Sp{row:List ae}{k:Nat}{d:ae}:d∈B4 row k↔d∈row:=by
 unfold B4
 rw [List.mem_append,or_comm,←List.mem_append,List.take_append_drop]
theorem nH{row:List ae}{d:ae}:d∈b5 row↔d∈row:=Sp
theorem KJ{row:List ae}{k i:Nat}(hk:k≤row.length)(hi:i<row.length):(B4 row k)[i]? = row[(k+i) % row.length]? := by
 unfold B4
 by_cases h:k+i<row.length
 ·rw [List.getElem?_append_left (by simp;omega),List.getElem?_drop,Nat.mod_eq_of_lt h]
 ·rw [List.getElem?_append_right (by simp;omega),List.length_drop,List.getElem?_take,if_pos (by omega)]
  congr 1
  have:(k+i) % row.length=k+i - row.length:=by rw [Nat.mod_eq_sub_mod (by omega),Nat.mod_eq_of_lt (by omega)]
  omega
theorem VG(row:List ae)(k:Nat)(hl:row.length≤100000000)(hk:k≤row.length):∀(n i:Nat) (out T:List ae),i+n=row.length→T=B4 row k→out=T.take i →
  LX G 77 Au Tryz.f77 A1 (aX Tryz.prog 77 1) ((row,((k:Int),((i:Int),()))),((),(out,())))=some ((T,()),()):=by
 intro n
 induction n with
 | zero =>
  intro i out T hi hT ho
  refine aw (j:=1) (by kernel_rfl) ((O6 _ _ _).trans ?_)
  have h1:¬((i:Int)<(row.length:Int)):=by omega
  have h2:out=T:=by rw [ho];exact List.take_of_length_le (by rw [hT,tl];omega)
  subst h2
  simp only [h1,decide_false]
  rfl
 | succ n ih =>
  intro i out T hi hT ho
  refine aw (j:=1) (by kernel_rfl) ((O6 _ _ _).trans ?_)
  have aE:i<row.length:=by omega
  have hm:(k+i) % row.length<row.length:=Nat.mod_lt _ (by omega)
  have h3:row[(k+i) % row.length]? = some row[(k+i) % row.length]:=List.getElem?_eq_getElem hm
  have h0:((((row.length:Nat):Int))==0)=false:=by simp;intro e;subst e;simp at aE
  have h4:IntKind.wrap .i64 ((k:Int)+(i:Int))=((k+i:Nat):Int):=by rw [wrap_small (by omega) (by omega)];rfl
  have hol:out.length≤row.length:=by rw [ho,hT];simp;rw [tl];omega
  have h5:bq out.length [row[(k+i) % row.length]].length=true:=fits (by simp;omega)
  have h6:out++[row[(k+i) % row.length]]=T.take (i+1):=by
   rw [ho,List.take_add_one,hT,KJ hk aE,h3];rfl
  have h7:=ih (i+1) (out++[row[(k+i) % row.length]]) T (by omega) hT h6
  simp only [ba aE,h0,h4,uP,aD h3,Option.bind_some,h5,aO aE (show row.length≤1073741824 by omega)]
  exact h7
theorem VH(hG:HG G)(row:List ae)(hl:row.length≤100000000):∀(n i k:Nat),i+n=row.length→(k<row.length∨(row=[]∧k=0)) →
  LX G 77 Au Tryz.f77 vX (aX Tryz.prog 77 0) ((row,((k:Int),((i:Int),()))),((),()))=some ((B4 row (eF row (row.drop i) i k),()),()):=by
 intro n
 induction n with
 | zero =>
  intro i k hi hk
  refine aw (j:=0) (by kernel_rfl) ((O5 _ _ _).trans ?_)
  have h1:¬((i:Int)<(row.length:Int)):=by omega
  have h2:row.drop i=[]:=List.drop_eq_nil_of_le (by omega)
  simp only [h1,h2,decide_false,cond_false,eF]
  exact VG (G:=G) row k hl (by rcases hk with h | ⟨_,h⟩<;>omega) row.length 0 [] (B4 row k) (by omega) rfl (by simp)
 | succ n ih =>
  intro i k hi hk
  refine aw (j:=0) (by kernel_rfl) ((O5 _ _ _).trans ?_)
  have aE:i<row.length:=by omega
  have vg:k<row.length:=hk.resolve_right (by rintro ⟨rfl,_⟩;simp at aE)
  have h2:row.drop i=row[i]::row.drop (i+1):=List.drop_eq_getElem_cons aE
  have h3:row[i]? = some row[i]:=List.getElem?_eq_getElem aE
  have h4:row[k]? = some row[k]:=List.getElem?_eq_getElem vg
  have h5:row.getD k zD=row[k]:=by simp [List.getD,h4]
  simp only [ba aE,cond_true,aD h3,aD h4,Option.bind_some,aO aE (show row.length≤1073741824 by omega)]
  refine aa (VD hG row[i] row[k]) ?_
  rw [h2,eF,h5]
  by_cases ho:lU row[i] row[k]<0
  ·rw [if_pos ho];simp only [ho,decide_true]
   exact ih (i+1) i (by omega) (.inl aE)
  ·rw [if_neg ho];simp only [ho,decide_false]
   exact ih (i+1) k (by omega) (.inl vg)
theorem aeF(hG:HG G)(row:List ae)(hl:row.length≤100000000):FX G 77 Au ((row,()),())=some ((b5 row,()),()):=by
 refine aC (fn:=Tryz.f77) (hG _ _ rfl) (by kernel_rfl) (by kernel_rfl) ((ad1 _ _ _).trans ?_)
 have:=VH (G:=G) hG row hl row.length 0 0 (by omega) (by cases row with | nil=>exact .inr ⟨rfl,rfl⟩ | cons x r=>exact .inl (by simp))
 exact this
def pN(row:List ae)(after d:ae):List ae :=
 if d∈row then b5 row else b5 (row.take ((max 0 (idx after row 0)).toNat+1)++(d::row.drop ((max 0 (idx after row 0)).toNat+1)))
def iJ(row:List ae)(d:ae):List ae:=b5 (row.filter fun e=>decide (e≠d))
def fT(row:List ae)(dr d:ae):List ae:=b5 (if dr∈row∧d∉row then row.set (idx dr row 0).toNat d else row)
end Go.Vs
namespace Go.Vs
open Go.Proofs
variable {G:(f:FuncId)→(g:aL)→Option (g.A→Option g.B)}
def e0:ByteArray:=⟨#[]⟩
def zI:ID:=(0,0)
def zV:aj:=((0,0),([],(e0,0)))
def zE:au:=((0,0),(e0,0))
def aQ(l:List aj)(x:ID):Option aj:=l.find? fun v=>decide (v.1=x)
def aU(l:List au)(x:ID):Option au:=l.find? fun v=>decide (v.1=x)
def bZ(d:ai)(x:ID):Option aj:=aQ d.1 x
def lV(d:ai)(x:ID):Option au:=aU d.2 x
def B5(l:List aj)(x:ae):Option ID:=(l.find? fun v=>decide (x∈v.2.1)).map (·.1)
def cS(d:ai)(x:ae):Option ID:=B5 d.1 x
def Cu{α:Type}(z:α):Option α→α×(Bool×Unit)
 | some y=>(y,(true,()))
 | none=>(z,(false,()))
theorem aeG(hG:G 18 Eu=none)(d:ai)(x:ID)(hl:d.1.length≤100000000):FX G 18 Eu ((d,x,()),())=some (Cu zV (bZ d x),()):=by
 refine aC (fn:=Tryz.f18) hG (by kernel_rfl) (by kernel_rfl) ((adx _ _ _).trans ?_)
 have Jh:=c8 d.1 (fun i (_:Unit)=>LX G 18 Eu Tryz.f18 AG (aX Tryz.prog 18 0) ((i,()),(((d,()),((x,()),(((0:Int),((0:Int),(([]:List ae),(e0,((0:Int),()))))),()))),()))) (fun (r:List aj) (_:Unit)=>(Cu zV (aQ r x),())) (fun _ _=>True)
  (fun s _=>by
   refine aw (j:=0) (by kernel_rfl) ((OI _ _ _).trans ?_)
   simp only [je,cond_false];rfl)
  (fun i y r s hi hx hr _ ih=>by
   refine aw (j:=0) (by kernel_rfl) ((OI _ _ _).trans ?_)
   simp only [ba hi,cond_true,aD hx,Option.bind_some,wq,aO hi (show d.1.length≤1073741824 by omega)]
   by_cases he:y.1=x
   ·simp only [he,decide_true,aQ,aU,List.find?_cons];subst he;rfl
   ·simp only [he,decide_false,aQ,aU,List.find?_cons];exact ih () trivial)
  () trivial
 exact Jh
theorem aeH(hG:G 21 Ev=none)(d:ai)(x:ID)(hl:d.2.length≤100000000):FX G 21 Ev ((d,x,()),())=some (Cu zE (lV d x),()):=by
 refine aC (fn:=Tryz.f21) hG (by kernel_rfl) (by kernel_rfl) ((adA _ _ _).trans ?_)
 have Jh:=c8 d.2 (fun i (_:Unit)=>LX G 21 Ev Tryz.f21 AI (aX Tryz.prog 21 0) ((i,()),(((d,()),((x,()),(((((0:Int),(0:Int)),(e0,(0:Int))),()),()))),()))) (fun (r:List au) (_:Unit)=>(Cu zE (aU r x),())) (fun _ _=>True)
  (fun s _=>by
   refine aw (j:=0) (by kernel_rfl) ((OL _ _ _).trans ?_)
   simp only [je,cond_false];rfl)
  (fun i y r s hi hx hr _ ih=>by
   refine aw (j:=0) (by kernel_rfl) ((OL _ _ _).trans ?_)
   simp only [ba hi,cond_true,aD hx,Option.bind_some,wq,aO hi (show d.2.length≤1073741824 by omega)]
   by_cases he:y.1=x
   ·simp only [he,decide_true,aQ,aU,List.find?_cons];subst he;rfl
   ·simp only [he,decide_false,aQ,aU,List.find?_cons];exact ih () trivial)
  () trivial
 exact Jh
theorem Sq(hG:HG G)(d:ai)(x:ae)(hl:d.1.length≤100000000)(hr:∀v∈d.1,v.2.1.length≤100000000):FX G 20 Ap ((d,x,()),())=some (Cu zI (cS d x),()):=by
 refine aC (fn:=Tryz.f20) (hG _ _ rfl) (by kernel_rfl) (by kernel_rfl) ((adz _ _ _).trans ?_)
 have Jh:=c8 d.1 (fun i (_:Unit)=>LX G 20 Ap Tryz.f20 AH (aX Tryz.prog 20 0) ((i,()),(((d,()),((x,()),((((0:Int),(0:Int)),()),()))),()))) (fun r _=>(Cu zI (B5 r x),())) (fun _ _=>True)
  (fun s _=>by
   refine aw (j:=0) (by kernel_rfl) ((OJ _ _ _).trans ?_)
   simp only [je,cond_false];rfl)
  (fun i y r s hi hx Fi _ ih=>by
   refine aw (j:=0) (by kernel_rfl) ((OJ _ _ _).trans ?_)
   simp only [ba hi,cond_true,aD hx,Option.bind_some,aO hi (show d.1.length≤1073741824 by omega)]
   refine aa (VF (hG _ _ rfl) y.2.1 x (by have:=hr y (List.mem_of_getElem? hx);omega)) ?_
   by_cases he:x∈y.2.1
   ·have h1:idx x y.2.1 0≥0:=by obtain ⟨k,h,_⟩:=eZ he;omega
    simp only [h1,decide_true,B5,List.find?_cons,he];rfl
   ·have h1:¬idx x y.2.1 0≥0:=by have:=mu.2 he;omega
    simp only [h1,decide_false,B5,List.find?_cons,he];exact ih () trivial)
  () trivial
 exact Jh
theorem aeI(hG:G 38 Co=none)(d:ai)(hl:d.1.length≤100000000)(sR:d.2.length≤100000000)(hr:∀v∈d.1,v.2.1.length≤100000000):FX G 38 Co ((d,()),())=some (((d.1,(d.2,())),()),()):=by
 refine aC (fn:=Tryz.f38) hG (by kernel_rfl) (by kernel_rfl) ((adL _ _ _).trans ?_)
 have h5:bq ([]:List au).length d.2.length=true:=fits (by simp;omega)
 simp only [h5,cond_true,List.nil_append]
 have Jh:=c8 d.1 (fun i (out:List aj)=>LX G 38 Co Tryz.f38 AP (aX Tryz.prog 38 0) ((i,()),(((d,()),((([]:List aj),(([]:List au),())),((out,(d.2,())),()))),()))) (fun r s=>(((s++r,(d.2,())),()),())) (fun n s=>s.length+n≤d.1.length)
  (fun s _=>by
   refine aw (j:=0) (by kernel_rfl) ((OT _ _ _).trans ?_)
   simp only [je,List.append_nil];rfl)
  (fun i y r s hi hx Fi hs ih=>by
   refine aw (j:=0) (by kernel_rfl) ((OT _ _ _).trans ?_)
   have h6:bq ([]:List ae).length y.2.1.length=true:=fits (by have:=hr y (List.mem_of_getElem? hx);simp;omega)
   have h7:bq s.length [(y.1,(y.2.1,y.2.2))].length=true:=fits (by simp;omega)
   simp only [ba hi,aD hx,Option.bind_some,h6,List.nil_append,h7,aO hi (show d.1.length≤1073741824 by omega)]
   have:=ih (s++[y]) (by simp;omega)
   rw [List.append_assoc] at this
   exact this)
  [] (by simp)
 exact Jh
def c7(v:aj):List aj→List aj
 | []=>[v]
 | w::r=>if eV v.1 w.1 then v::w::r else w::c7 v r
def fb(v:au):List au→List au
 | []=>[v]
 | w::r=>if eV v.1 w.1 then v::w::r else w::fb v r
theorem b7(a:ID):eV a a=false:=by simp [eV]
theorem rl(a b:ID):qy a b<0↔eV a b=true:=by
 unfold qy
 by_cases h:a=b
 ·subst h;simp [b7]
 ·rw [if_neg h];split<;>simp_all
def dp(l:List aj)(v:ID):List aj:=l.filter fun w=>decide (w.1≠v)
def dS(l:List au)(v:ID):List au:=l.filter fun w=>decide (w.1≠v)
def aN(d:ai)(v e:ID):ai:=(dp d.1 v,dS d.2 e)
end Go.Vs
namespace Go.Vs
open Go.Proofs
variable {G:(f:FuncId)→(g:aL)→Option (g.A→Option g.B)}
instance ag6:DecidableEq (List aj):=@instDecidableEqList aj inferInstance
instance decLE:DecidableEq (List au):=@instDecidableEqList au inferInstance
instance abP:DecidableEq ai:=instDecidableEqProd
instance ZC:DecidableEq StateT:=instDecidableEqProd
structure Sm(d:ai):Prop where
 v:d.1.length≤50000000
 e:d.2.length≤50000000
 r:∀w∈d.1,w.2.1.length≤50000000
def wu(x:ID)(l:List ae)(w:aj):aj:=if w.1=x then (w.1,(l,w.2.2)) else w
def cf(d:ai)(x:ID)(l:List ae):ai:=(d.1.map (wu x l),d.2)
theorem jf(i:Nat):decide ((0:Int)≤(i:Int))=true:=by simp
def cv(d:ai)(x:ID):List ae:=((bZ d x).getD zV).2.1
theorem ER{α:Type}(z:α)(o:Option α):(Cu z o).1=o.getD z:=by cases o<;>rfl
theorem yP{α:Type}(z:α)(o:Option α):(Cu z o).2.1=o.isSome:=by cases o<;>rfl
theorem Mp{d:ai}(hs:Sm d)(x:ID):(cv d x).length≤50000000:=by
 unfold cv
 cases h:bZ d x with
 | none=>simp [zV]
 | some v=>exact hs.r v (List.mem_of_find?_eq_some h)
def cI(d:ai)(c:vf)(x:ae):ai:=cf d c.1 (pN (cv d c.1) c.2 x)
def az(d:ai)(dr x:ae):ai:=cf d ((cS d dr).getD zI) (fT (cv d ((cS d dr).getD zI)) dr x)
def aH(d:ai)(x:ae):ai:=cf d ((cS d x).getD zI) (iJ (cv d ((cS d x).getD zI)) x)
def lC(row:List ae)(x:ae):ae:=(fa row x (row.length - 1)).getD zD
theorem KK(o:Option ae):(KI o).1=o.getD zD:=by cases o<;>rfl
def eW(d:ai)(x:ae):ae :=
 let row:=cv d ((cS d x).getD zI)
 let y:=lC row x
 let z:=if y.1=x.1 then lC row y else y
 if z.1=x.1 then zD else z
def lD(l:List aM)(d:ae):Option ae:=(l.find? fun g=>decide (g.1=d)).map (·.2)
theorem aeJ(hG:G 53 Ex=none)(a b:List aM)(ha:a.length≤100000000):FX G 53 Ex ((a,b,()),())=some ((decide (a=b),()),()):=by
 refine aC (fn:=Tryz.f53) hG (by kernel_rfl) (by kernel_rfl) ((adP _ _ _).trans ?_)
 by_cases hl:a.length=b.length
 case neg =>
  have h1:((((a.length:Nat):Int)) != ((b.length:Nat):Int))=true:=by simp;omega
  have h2:¬a=b:=fun e=>hl (by rw [e])
  simp only [h1,h2,decide_false]
  rfl
 have h1:((((a.length:Nat):Int)) != ((b.length:Nat):Int))=false:=by simp [hl]
 simp only [h1]
 have B3:(a.zip b).length=a.length:=by simp [hl]
 have key:=c8 (a.zip b) (fun i (_:Unit)=>LX G 53 Ex Tryz.f53 AS (aX Tryz.prog 53 0) ((a,(b,(i,()))),((),()))) (fun r _=>((r.all (fun p=>decide (p.1=p.2)),()),())) (fun _ _=>True)
  (fun s _=>by
   refine aw (j:=0) (by kernel_rfl) ((OU _ _ _).trans ?_)
   rw [B3]
   simp only [je];rfl)
  (fun i x r s hi hx hr _ ih=>by
   rw [B3] at hi
   obtain ⟨h3,h4⟩:=yO hx
   refine aw (j:=0) (by kernel_rfl) ((OU _ _ _).trans ?_)
   simp only [ba hi,aD h3,aD h4,Option.bind_some,uN,aO hi (show a.length≤1073741824 by omega)]
   by_cases he:x.1=x.2
   ·simp only [he,decide_true,Bool.and_self,Bool.not_true,List.all_cons,Bool.true_and];exact ih () trivial
   ·have h9:(decide (x.1.1=x.2.1)&&decide (x.1.2=x.2.2))=false:=by
     rw [Bool.eq_false_iff];intro h;simp at h;exact he (Prod.ext h.1 h.2)
    simp only [he,h9,decide_false,Bool.not_false,List.all_cons,Bool.false_and];rfl)
  () trivial
 rw [uO a b hl] at key
 exact key
theorem aeK(hG:HG G)(a b:ai)(hs:Sm a):FX G 27 Ar ((a,b,()),())=some ((decide (a=b),()),()):=by
 have hv:=hs.v;have he:=hs.e
 refine aC (fn:=Tryz.f27) (hG _ _ rfl) (by kernel_rfl) (by kernel_rfl) ((adE _ _ _).trans ?_)
 by_cases hl:a.1.length=b.1.length
 case neg =>
  have h1:((((a.1.length:Nat):Int)) != ((b.1.length:Nat):Int))=true:=by simp;omega
  have h2:¬a=b:=fun e=>hl (by rw [e])
  simp only [h1,h2,decide_false]
  rfl
 have h1:((((a.1.length:Nat):Int)) != ((b.1.length:Nat):Int))=false:=by simp [hl]
 simp only [h1]
 by_cases sR:a.2.length=b.2.length
 case neg =>
  have h1:((((a.2.length:Nat):Int)) != ((b.2.length:Nat):Int))=true:=by simp;omega
  have h2:¬a=b:=fun e=>sR (by rw [e])
  simp only [h1,h2,decide_false]
  rfl
 have h2:((((a.2.length:Nat):Int)) != ((b.2.length:Nat):Int))=false:=by simp [sR]
 simp only [h2]
 have B3:(a.1.zip b.1).length=a.1.length:=by simp [hl]
 have ZD:(a.2.zip b.2).length=a.2.length:=by simp [sR]
 have Sr:=c8 (a.2.zip b.2) (fun i (_:Unit)=>LX G 27 Ar Tryz.f27 AM (aX Tryz.prog 27 1) ((i,()),(((a,()),((b,()),())),()))) (fun r _=>((r.all (fun p=>decide (p.1=p.2)),()),())) (fun _ _=>True)
  (fun s _=>by
   refine aw (j:=1) (by kernel_rfl) ((OP _ _ _).trans ?_)
   rw [ZD]
   simp only [je];rfl)
  (fun i x r s hi hx hr _ ih=>by
   rw [ZD] at hi
   obtain ⟨h3,h4⟩:=yO hx
   refine aw (j:=1) (by kernel_rfl) ((OP _ _ _).trans ?_)
   simp only [ba hi,aD h3,aD h4,Option.bind_some,wq,VA,aO hi (show a.2.length≤1073741824 by omega)]
   by_cases he:x.1=x.2
   ·simp only [he,decide_true,beq_self_eq_true,Bool.and_self,Bool.not_true,List.all_cons,Bool.true_and];exact ih () trivial
   ·have h9:(decide (x.1.1=x.2.1)&&(decide (x.1.2.1=x.2.2.1)&&(x.1.2.2==x.2.2.2)))=false:=by
     rw [Bool.eq_false_iff];intro h;simp at h;exact he (Prod.ext h.1 (Prod.ext h.2.1 h.2.2))
    simp only [he,h9,decide_false,Bool.not_false,List.all_cons,Bool.false_and];rfl)
  () trivial
 rw [uO a.2 b.2 sR] at Sr
 have key:=c8 (a.1.zip b.1) (fun i (_:Unit)=>LX G 27 Ar Tryz.f27 AL (aX Tryz.prog 27 0) ((i,()),(((a,()),((b,()),())),()))) (fun r _=>((r.all (fun p=>decide (p.1=p.2))&&decide (a.2=b.2),()),())) (fun _ _=>True)
  (fun s _=>by
   refine aw (j:=0) (by kernel_rfl) ((OO _ _ _).trans ?_)
   rw [B3]
   simp only [je,List.all_nil,Bool.true_and];exact Sr)
  (fun i x r s hi hx hr _ ih=>by
   rw [B3] at hi
   obtain ⟨h3,h4⟩:=yO hx
   refine aw (j:=0) (by kernel_rfl) ((OO _ _ _).trans ?_)
   simp only [ba hi,aD h3,aD h4,Option.bind_some,wq,VA,aO hi (show a.1.length≤1073741824 by omega)]
   refine aa (ZA hG x.1.2.1 x.2.2.1 (by have:=hs.r x.1 (List.mem_of_getElem? h3);omega)) ?_
   by_cases e1:x.1.1=x.2.1
   case neg =>
    have he:¬x.1=x.2:=fun e=>e1 (by rw [e])
    have d1:=decide_eq_false e1
    simp only [d1,he,decide_false,List.all_cons,Bool.false_and];rfl
   have d1:=decide_eq_true e1
   by_cases e2:x.1.2.2.1=x.2.2.2.1
   case neg =>
    have he:¬x.1=x.2:=fun e=>e2 (by rw [e])
    have d2:=decide_eq_false e2
    simp only [d1,d2,he,decide_false,List.all_cons,Bool.false_and];rfl
   have d2:=decide_eq_true e2
   by_cases e3:x.1.2.2.2=x.2.2.2.2
   case neg =>
    have he:¬x.1=x.2:=fun e=>e3 (by rw [e])
    have h8:(x.1.2.2.2 != x.2.2.2.2)=true:=by simp [e3]
    simp only [d1,d2,h8,he,decide_false,List.all_cons,Bool.false_and];rfl
   have h8:(x.1.2.2.2 != x.2.2.2.2)=false:=by simp [e3]
   by_cases e4:x.1.2.1=x.2.2.1
   case neg =>
    have he:¬x.1=x.2:=fun e=>e4 (by rw [e])
    have d4:=decide_eq_false e4
    simp only [d1,d2,h8,d4,he,decide_false,List.all_cons,Bool.false_and];rfl
   have d4:=decide_eq_true e4
   have he:decide (x.1=x.2)=true:=decide_eq_true (Prod.ext e1 (Prod.ext e4 (Prod.ext e2 e3)))
   simp only [d1,d2,h8,d4,he,List.all_cons,Bool.true_and];exact ih () trivial)
  () trivial
 rw [uO a.1 b.1 hl] at key
 have lB:(decide (a.1=b.1)&&decide (a.2=b.2))=decide (a=b):=by
  rw [Bool.eq_iff_iff];simp [Prod.ext_iff]
 exact key.trans (congrArg (fun b:Bool=>some ((b,()),())) lB)
theorem VI(hG:HG G)(a b:StateT)(hs:Sm a.1)(hg:a.2.length≤50000000):FX G 16 I0 ((a,b,()),())=some ((decide (a=b),()),()):=by
 refine aC (fn:=Tryz.f16) (hG _ _ rfl) (by kernel_rfl) (by kernel_rfl) ((adw _ _ _).trans ?_)
 refine aa (aeK hG a.1 b.1 hs) ?_
 refine aa (aeJ (hG _ _ rfl) a.2 b.2 (by omega)) ?_
 have lB:(decide (a.1=b.1)&&decide (a.2=b.2))=decide (a=b):=by
  rw [Bool.eq_iff_iff];simp [Prod.ext_iff]
 rw [←lB]
 by_cases h:a.1=b.1
 ·simp only [h,decide_true,Bool.true_and];rfl
 ·simp only [h,decide_false,Bool.false_and];rfl
end Go.Vs
namespace Go.Vs
open Go.Proofs
variable {G:(f:FuncId)→(g:aL)→Option (g.A→Option g.B)}
def rR(g:aM)(l:List aM):List aM:=l.filter fun q=>decide (q.1≠g.1)
def pO(g:aM):List aM→List aM
 | []=>[g]
 | e::r=>if lU g.1 e.1≤0 then g::rR g (e::r) else if e.1≠g.1 then e::pO g r else pO g r
def bU(l:List aM)(g:aM):List aM:=if (lD l g.1).isSome=false∧400≤l.length then l else pO g l
def goG(g:aM)(put:Bool)(r:List aM):List aM:=if put then rR g r else pO g r
def res(d:ai)(gn:List aM):Nat→ae→ae
 | 0,_=>zD
 | n+1,x=>if (cS d x).isSome then x else match lD gn x with
  | none=>zD
  | some y=>res d gn n y
def resolve(s:StateT)(x:ae):ae:=res s.1 s.2 (s.2.length+1) x
def zC:vf:=(zI,zD)
def ES(s:StateT)(c:vf)(v:aj):ae:=if resolve s c.2∈v.2.1 then resolve s c.2 else zD
def bY(s:StateT)(c:vf):vf×(Int×Unit):=match bZ s.1 c.1 with
 | none=>(zC,(13,()))
 | some v=>((c.1,ES s c v),(0,()))
def ah(x:ae):ae:=(x.1,IntKind.wrap .i64 (1 - x.2))
def jr(d:ai)(x:ae):Option ae:=match cS d x with
 | none=>none
 | some a=>fa (cv d a) x 1
theorem aeL(hG:HG G)(d:ai)(x:ae)(hs:Sm d):FX G 78 OE ((d,x,()),())=some (KI (jr d x),()):=by
 have hv:=hs.v
 refine aC (fn:=Tryz.f78) (hG _ _ rfl) (by kernel_rfl) (by kernel_rfl) ((ad2 _ _ _).trans ?_)
 refine aa (Sq hG d x (by omega) (fun w hw=>by have:=hs.r w hw;omega)) ?_
 unfold jr
 cases ha:cS d x with
 | none=>rfl
 | some a =>
  have hr:=Mp hs a
  refine aa (aeG (hG _ _ rfl) d a (by omega)) ?_
  rw [show (Cu zV (bZ d a)).1=(bZ d a).getD zV from ER _ _]
  exact aa (ZB hG (cv d a) x (by omega)) rfl
def Fj(d:ai)(x:ae):Option ae:=if (cS d x).isSome then jr d (ah x) else none
theorem ZE(hG:HG G)(d:ai)(x:ae)(hs:Sm d):FX G 54 Mc ((d,x,()),())=some (KI (Fj d x),()):=by
 have hv:=hs.v
 refine aC (fn:=Tryz.f54) (hG _ _ rfl) (by kernel_rfl) (by kernel_rfl) ((adQ _ _ _).trans ?_)
 refine aa (Sq hG d x (by omega) (fun w hw=>by have:=hs.r w hw;omega)) ?_
 rw [show (Cu zI (cS d x)).2.1=(cS d x).isSome from yP _ _]
 unfold Fj
 cases ha:(cS d x).isSome
 ·rfl
 ·refine aa (aeD (hG _ _ rfl) x) ?_
  exact aa (aeL hG d (ah x) hs) rfl
def qz(d:ai)(x:ae):Nat→ae→List ae→List ae
 | 0,_,out=>out
 | n+1,y,out=>if y=x then out else qz d x n ((Fj d y).getD zD) (out++[y])
def aY(d:ai)(x:ae):List ae:=match Fj d x with
 | none=>[]
 | some y=>qz d x 81 y [x]
theorem aeM(hG:HG G)(d:ai)(x:ae)(hs:Sm d):FX G 22 Gj ((d,x,()),())=some ((aY d x,()),()):=by
 refine aC (fn:=Tryz.f22) (hG _ _ rfl) (by kernel_rfl) (by kernel_rfl) ((adB _ _ _).trans ?_)
 refine aa (ZE hG d x hs) ?_
 unfold aY
 cases hp:Fj d x with
 | none=>rfl
 | some y =>
  have h5:bq ([]:List ae).length [x].length=true:=fits (by simp)
  have loop:∀(n:Nat) (y:ae) (out:List ae),out.length+n=82→LX G 22 Gj Tryz.f22 AJ (aX Tryz.prog 22 0) ((),((d,()),((x,()),((y,()),()))),(out,()))=some ((qz d x n y out,()),()):=by
   intro n
   induction n with
   | zero =>
    intro y out ho
    refine aw (j:=0) (by kernel_rfl) ((OM _ _ _).trans ?_)
    have h1:decide (((out.length:Nat):Int)<82)=false:=by simp;omega
    simp only [uN,h1]
    by_cases hy:y=x
    ·have d1:=decide_eq_true hy
     simp only [d1];rfl
    ·have d1:=decide_eq_false hy
     simp only [d1];rfl
   | succ n ih =>
    intro y out ho
    refine aw (j:=0) (by kernel_rfl) ((OM _ _ _).trans ?_)
    have h1:decide (((out.length:Nat):Int)<82)=true:=by simp;omega
    have h6:bq out.length [y].length=true:=fits (by simp;omega)
    simp only [uN,h1,h6]
    rw [qz]
    by_cases hy:y=x
    ·have d1:=decide_eq_true hy
     rw [if_pos hy]
     simp only [d1];rfl
    ·have d1:=decide_eq_false hy
     rw [if_neg hy]
     simp only [d1]
     refine aa (ZE hG d y hs) ?_
     rw [show (KI (Fj d y)).1=(Fj d y).getD zD from KK _]
     exact ih ((Fj d y).getD zD) (out++[y]) (by simp;omega)
  exact loop 81 y [x] (by simp)
theorem Dh(d:ai)(x:ae):∀(n:Nat) (y:ae) (out:List ae),(qz d x n y out).length≤out.length+n
 | 0,_,out=>Nat.le_refl _
 | n+1,y,out=>by
  unfold qz
  split
  ·omega
  ·have:=Dh d x n ((Fj d y).getD zD) (out++[y]);simp at this;omega
theorem Di(d:ai)(x:ae):(aY d x).length≤82:=by
 unfold aY
 cases Fj d x with
 | none=>simp
 | some y=>have:=Dh d x 81 y [x];simpa using this
def dZ:List au→List ae
 | []=>[]
 | e::r=>(e.1,0)::(e.1,1)::dZ r
theorem lE:∀l:List au,(dZ l).length=2 * l.length
 | []=>rfl
 | e::r=>by simp [dZ,lE r];omega
theorem aeN(hG:G 59 EA=none)(d:ai)(hs:Sm d):FX G 59 EA ((d,()),())=some ((dZ d.2,()),()):=by
 have he:=hs.e
 refine aC (fn:=Tryz.f59) hG (by kernel_rfl) (by kernel_rfl) ((adU _ _ _).trans ?_)
 have key:=c8 d.2 (fun i (s:List ae)=>LX G 59 EA Tryz.f59 AY (aX Tryz.prog 59 0) ((i,()),(((d,()),()),(s,())))) (fun (r:List au) (s:List ae)=>((s++dZ r,()),())) (fun n s=>s.length+2 * n≤2 * d.2.length)
  (fun s _=>by
   refine aw (j:=0) (by kernel_rfl) ((O0 _ _ _).trans ?_)
   simp only [je,dZ,List.append_nil];rfl)
  (fun i y r s hi hx Fi hs ih=>by
   refine aw (j:=0) (by kernel_rfl) ((O0 _ _ _).trans ?_)
   have h6:bq s.length [((y.1,(0:Int)):ae),(y.1,(1:Int))].length=true:=fits (by simp;omega)
   simp only [ba hi,aD hx,Option.bind_some,h6,aO hi (show d.2.length≤1073741824 by omega)]
   have:=ih (s++[(y.1,0),(y.1,1)]) (by simp;omega)
   refine this.trans (congrArg (fun l:List ae=>some ((l,()),())) ?_)
   simp [dZ])
  [] (by simp)
 exact key
def gZ(d:ai):List ae→List (List ae)→List ae→List (List ae)
 | [],out,_=>out
 | x::r,out,told=>if x∈told then gZ d r out told else gZ d r (out++[aY d x]) (told++aY d x)
def bK(d:ai):List (List ae):=gZ d (dZ d.2) [] []
theorem aeO(hG:HG G)(d:ai)(hs:Sm d)(he:d.2.length≤5000000):FX G 31 Gl ((d,()),())=some ((bK d,()),()):=by
 refine aC (fn:=Tryz.f31) (hG _ _ rfl) (by kernel_rfl) (by kernel_rfl) ((adH _ _ _).trans ?_)
 refine aa (aeN (hG _ _ rfl) d hs) ?_
 have xL:=lE d.2
 unfold bK
 generalize dZ d.2=ds at *
 have key:=c8 ds (fun i (s:List (List ae)×List ae)=>LX G 31 Gl Tryz.f31 vT (aX Tryz.prog 31 0) ((i,()),(((d,()),()),(s.1,(s.2,(ds,())))))) (fun (r:List ae) (s:List (List ae)×List ae)=>((gZ d r s.1 s.2,()),()))
  (fun n s=>s.1.length+n≤ds.length∧s.2.length+82 * n≤82 * ds.length)
  (fun s _=>by
   refine aw (j:=0) (by kernel_rfl) ((OR _ _ _).trans ?_)
   simp only [je];rfl)
  (fun i y r s hi hx Fi hs' ih=>by
   obtain ⟨out,told⟩:=s
   obtain ⟨b1,b2⟩:=hs'
   simp only at b1 b2
   refine aw (j:=0) (by kernel_rfl) ((OR _ _ _).trans ?_)
   simp only [ba hi,jf,Bool.and_self,Int.toNat_natCast,hx,Option.bind_some,aO hi (show ds.length≤1073741824 by omega)]
   refine aa (VF (hG _ _ rfl) told y (by omega)) ?_
   rw [gZ]
   by_cases hm:y∈told
   ·have d1:decide (idx y told 0≥0)=true:=decide_eq_true (by obtain ⟨k,h,_⟩:=eZ hm;omega)
    rw [if_pos hm]
    simp only [d1]
    exact ih (out,told) ⟨by simp only;omega,by simp only;omega⟩
   ·have d1:decide (idx y told 0≥0)=false:=decide_eq_false (by have:=mu.2 hm;omega)
    rw [if_neg hm]
    simp only [d1]
    refine aa (aeM hG d y hs) ?_
    have htl:=Di d y
    have h6:bq out.length [aY d y].length=true:=fits (by simp;omega)
    have h7:bq told.length (aY d y).length=true:=fits (by omega)
    simp only [h6,h7]
    exact ih (out++[aY d y],told++aY d y) ⟨by simp;omega,by simp;omega⟩)
  ([],[]) ⟨by simp,by simp⟩
 exact key
end Go.Vs
