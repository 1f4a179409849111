/- What the document's reference computes, written plainly, the first part. -/
import Derived.Test.YtpldhjjpeldkaaaGreatEngineD
import Derived.Test.YtpldhjjpeldkaaaGreatNormalA
import Derived.Test.YtpldhjjpeldkaaaGreatNormalB
import Derived.Test.YtpldhjjpeldkaaaGreatNormalC
set_option linter.unusedVariables false
set_option linter.unusedSimpArgs false
namespace Go.Vs
open Go.Proofs
variable {G:(f:FuncId)→(g:aL)→Option (g.A→Option g.B)}
theorem aa{α β:Type}{o:Option α}{f:α→Option β}{a:α}{r:Option β}(h:o=some a)(k:f a=r):o.bind f=r:=by rw [h];exact k
theorem az{α:Type}{l:List α}{i:Nat}{x:α}(h:l[i]? = some x):aS l (i:Int)=some x:=by
 have hl:=(List.getElem?_eq_some_iff.1 h).1
 simp [aS,h]
theorem wrap_small{n:Int}(h0 : -9223372036854775808≤n)(h1:n<9223372036854775808):IntKind.wrap .i64 n=n:=by
 unfold IntKind.wrap
 simp [IntKind.bits,IntKind.signed]
 omega
theorem aH{i n:Nat}(h:i<n)(hn:n≤1073741824):IntKind.wrap .i64 ((i:Int)+1)=((i+1:Nat):Int):=by
 rw [wrap_small (by omega) (by omega)];rfl
theorem aT{i n:Nat}(h:i<n):decide ((i:Int)<((n:Nat):Int))=true:=by simpa using h
theorem dd(n:Nat):decide (((n:Nat):Int)<((n:Nat):Int))=false:=by simp
theorem fits{n m:Nat}(h:n+m≤1073741824):aO n m=true:=decide_eq_true h
theorem iZ(a b:ID):((a.1==b.1)&&(a.2==b.2))=decide (a=b):=by
 obtain ⟨a1,a2⟩:=a;obtain ⟨b1,b2⟩:=b
 rw [Bool.eq_iff_iff];simp
theorem j6(a b:ae):(((a.1.1==b.1.1)&&(a.1.2==b.1.2))&&(a.2==b.2))=decide (a=b):=by
 obtain ⟨⟨a1,a2⟩,a3⟩:=a;obtain ⟨⟨b1,b2⟩,b3⟩:=b
 rw [Bool.eq_iff_iff];simp [and_assoc]
theorem UZ(a b:ByteArray):(a==b)=decide (a=b):=by
 obtain ⟨a⟩:=a;obtain ⟨b⟩:=b
 show (a==b)=_
 rw [Bool.eq_iff_iff];simp
theorem bT{α S R:Type}(l:List α)(L:Int→S→Option R)(g:List α→S→R)(inv:Nat→S→Prop)
  (ad1:∀s,inv 0 s→L ((l.length:Nat):Int) s=some (g [] s))
  (YP:∀(i:Nat) (x:α) (r:List α) (s:S),i<l.length→l[i]? = some x→i+r.length+1=l.length→inv (r.length+1) s→(∀s',inv r.length s'→L ((i+1:Nat):Int) s'=some (g r s'))→L (i:Int) s=some (g (x::r) s)) :
  ∀s,inv l.length s→L 0 s=some (g l s):=by
 have key:∀(r p:List α),p++r=l→∀s,inv r.length s→L ((p.length:Nat):Int) s=some (g r s):=by
  intro r
  induction r with
  | nil=>intro p hp s hs;rw [List.append_nil] at hp;subst hp;exact ad1 s hs
  | cons x r ih =>
   intro p hp s hs
   refine YP p.length x r s ?_ ?_ ?_ hs (fun s' hs' => ?_)
   ·rw [←hp];simp
   ·rw [←hp];simp
   ·rw [←hp];simp;omega
   ·have:=ih (p++[x]) (by simp [hp]) s' hs';simpa using this
 intro s hs;exact key l [] rfl s hs
def zD:ae:=((0,0),0)
def cz(x:ID):Bool:=decide (1≤x.1∧x.1≤8∧1≤x.2∧x.2≤1048576)
def eU(a b:ID):Bool:=decide (a.1<b.1∨(a.1=b.1∧a.2<b.2))
def oD(a b:ID):Int:=if a=b then 0 else if eU a b then -1 else 1
def j7(a b:ae):Bool:=eU a.1 b.1 || (decide (a.1=b.1)&&decide (a.2<b.2))
def lA(a b:ae):Int:=if a=b then 0 else if j7 a b then -1 else 1
def I2(d:ae):Bool:=cz d.1&&decide (d.2=0∨d.2=1)
theorem Cb(hG:G 19 xC=none)(x:ID):FX G 19 xC ((x,()),())=some ((cz x,()),()):=by
 refine aw (fn:=Tryz.f19) hG (by kernel_rfl) (by kernel_rfl) ((acy _ _ _).trans ?_)
 obtain ⟨a,b⟩:=x
 show (cond (decide (a≥1)) (cond (decide (a≤8)) (cond (decide (b≥1)) (some ((decide (b≤1048576),()),())) (some ((false,()),()))) (some ((false,()),()))) (some ((false,()),())):Option ((Bool×Unit)×Unit))=some ((cz (a,b),()),())
 unfold cz
 simp only [cond_eq_ite]
 by_cases h1:(1:Int)≤a<;>by_cases h2:a≤8<;>by_cases h3:(1:Int)≤b<;>simp [h1,h2,h3]
theorem U3(hG:G 23 B3=none)(d:ae):FX G 23 B3 ((d,()),())=some (((d.1,IntKind.wrap .i64 (1 - d.2)),()),()) :=
 aw hG (by kernel_rfl) (by kernel_rfl) (acC _ _ _)
theorem Py(hG:G 69 Eh=none)(a b:ID):FX G 69 Eh ((a,b,()),())=some ((oD a b,()),()):=by
 refine aw (fn:=Tryz.f69) hG (by kernel_rfl) (by kernel_rfl) ((adf _ _ _).trans ?_)
 obtain ⟨a1,a2⟩:=a
 obtain ⟨b1,b2⟩:=b
 unfold oD eU
 show (cond ((a1==b1)&&(a2==b2)) (some (((0:Int),()),())) (cond (decide (a1<b1)) (some (((-1:Int),()),())) (cond (a1==b1) (cond (decide (a2<b2)) (some (((-1:Int),()),())) (some (((1:Int),()),()))) (some (((1:Int),()),())))):Option ((Int×Unit)×Unit))=some (((if (a1,a2)=(b1,b2) then 0 else if (decide (a1<b1∨(a1=b1∧a2<b2)))=true then -1 else 1:Int),()),())
 by_cases h1:a1=b1<;>by_cases h2:a2=b2<;>by_cases h3:a1<b1<;>by_cases h4:a2<b2<;>first | (exfalso;omega) | (simp only [cond_eq_ite];simp [h1,h2,h3,h4];done) | (subst h1;simp only [cond_eq_ite];simp [h2,h4])
theorem R7(hG:HG G)(a b:ae):FX G 62 IM ((a,b,()),())=some ((lA a b,()),()):=by
 refine aw (fn:=Tryz.f62) (hG _ _ rfl) (by kernel_rfl) (by kernel_rfl) ((ac8 _ _ _).trans ?_)
 refine aa (Py (hG _ _ rfl) a.1 b.1) ?_
 obtain ⟨a1,a2⟩:=a
 obtain ⟨b1,b2⟩:=b
 show (cond (oD a1 b1 != 0) (some ((oD a1 b1,()),())) (cond (decide (a2<b2)) (some (((-1:Int),()),())) (cond (decide (a2 > b2)) (some (((1:Int),()),())) (some (((0:Int),()),())))):Option ((Int×Unit)×Unit))=some ((lA (a1,a2) (b1,b2),()),())
 unfold lA j7 oD
 simp only [cond_eq_ite]
 by_cases h1:a1=b1
 ·subst h1
  have hl:eU a1 a1=false:=by simp [eU]
  by_cases h2:a2=b2
  ·subst h2;simp
  ·by_cases h3:a2<b2
   ·simp [h2,h3,hl]
   ·have:a2 > b2:=by omega
    simp [h2,h3,hl,this]
 ·by_cases h2:eU a1 b1=true<;>simp [h1,h2]
theorem ad3(hG:HG G)(d:ae):FX G 97 Od ((d,()),())=some ((I2 d,()),()):=by
 refine aw (fn:=Tryz.f97) (hG _ _ rfl) (by kernel_rfl) (by kernel_rfl) ((adE _ _ _).trans ?_)
 refine aa (Cb (hG _ _ rfl) d.1) ?_
 obtain ⟨d1,d2⟩:=d
 show (cond (cz d1) (cond (d2==0) (some ((true,()),())) (some (((d2==1),()),()))) (some ((false,()),())):Option ((Bool×Unit)×Unit))=some ((I2 (d1,d2),()),())
 unfold I2
 simp only [cond_eq_ite]
 by_cases h1:cz d1=true<;>by_cases h2:d2=0<;>simp [h1,h2]
 rw [Bool.eq_iff_iff];simp
def idx(d:ae):List ae→Int→Int
 | [],_ => -1
 | e::r,i=>if e=d then i else idx d r (i+1)
theorem ad4(row:List ae)(d:ae)(hl:row.length≤1073741824):∀(n i:Nat),i+n=row.length→LX G 24 qb Tryz.f24 Aq (aM Tryz.prog 24 0) ((row,((i:Int),())),(((d,()),()),()))=some ((idx d (row.drop i) i,()),()):=by
 intro n
 induction n with
 | zero =>
  intro i hi
  refine ar (j:=0) (by kernel_rfl) ((Ol _ _ _).trans ?_)
  have h1:¬((i:Int)<(row.length:Int)):=by omega
  have h2:row.drop i=[]:=List.drop_eq_nil_of_le (by omega)
  simp only [h1,h2,decide_false,cond_false,idx]
  rfl
 | succ n ih =>
  intro i hi
  refine ar (j:=0) (by kernel_rfl) ((Ol _ _ _).trans ?_)
  have aJ:i<row.length:=by omega
  have h1:((i:Int)<(row.length:Int)):=by omega
  have h2:row.drop i=row[i]::row.drop (i+1):=List.drop_eq_getElem_cons aJ
  have h3:aS row (i:Int)=some row[i]:=by simp [aS,aJ]
  have h4:IntKind.wrap .i64 ((i:Int)+1)=((i+1:Nat):Int):=by rw [wrap_small (by omega) (by omega)];rfl
  have h5:=ih (i+1) (by omega)
  rw [h2,idx]
  simp only [h1,decide_true,cond_true,h3,Option.bind_some,h4,j6]
  by_cases he:row[i]=d
  ·rw [if_pos he];simp only [he,decide_true];rfl
  ·rw [if_neg he];simp only [he,decide_false]
   exact h5
theorem Ew(hG:G 24 qb=none)(row:List ae)(d:ae)(hl:row.length≤1073741824):FX G 24 qb ((row,d,()),())=some ((idx d row 0,()),()):=by
 refine aw (fn:=Tryz.f24) hG (by kernel_rfl) (by kernel_rfl) ((acD _ _ _).trans ?_)
 exact ad4 (G:=G) row d hl row.length 0 (by omega)
theorem np(d:ae):∀(row:List ae) (i:Int),0≤i→(idx d row i = -1∧d∉row)∨(∃k:Nat,idx d row i=i+k∧row[k]? = some d∧d∉row.take k)
 | [],i,_=>.inl ⟨rfl,by simp⟩
 | e::r,i,h=>by
  unfold idx
  by_cases he:e=d
  ·right;exact ⟨0,by simp [he],by simp [he],by simp⟩
  ·rw [if_neg he]
   rcases np d r (i+1) (by omega) with ⟨h1,h2⟩ | ⟨k,h1,h2,h3⟩
   ·exact .inl ⟨h1,by simp [h2,Ne.symm he]⟩
   ·exact .inr ⟨k+1,by rw [h1];omega,by simpa using h2,by simp [h3,Ne.symm he]⟩
theorem dY{d:ae}{row:List ae}:idx d row 0<0↔d∉row:=by
 rcases np d row 0 (by omega) with ⟨h1,h2⟩ | ⟨k,h1,h2,_⟩
 ·simp [h1,h2]
 ·have:=List.mem_of_getElem? h2
  simp [this];omega
theorem eY{d:ae}{row:List ae}(h:d∈row):∃k:Nat,idx d row 0=k∧row[k]? = some d∧d∉row.take k:=by
 rcases np d row 0 (by omega) with ⟨_,h2⟩ | ⟨k,h1,h2,h3⟩
 ·exact absurd h h2
 ·exact ⟨k,by omega,h2,h3⟩
theorem uJ{α:Type}[DecidableEq α]:∀(a b:List α),a.length=b.length→(a.zip b).all (fun p=>decide (p.1=p.2))=decide (a=b)
 | [],[],_=>by simp
 | [],_::_,h=>by simp at h
 | _::_,[],h=>by simp at h
 | x::a,y::b,h=>by
  simp only [List.zip_cons_cons,List.all_cons,uJ a b (by simpa using h)]
  rw [Bool.eq_iff_iff];simp
theorem yv{α:Type}{a b:List α}{i:Nat}{x:α×α}(h:(a.zip b)[i]? = some x):a[i]? = some x.1∧b[i]? = some x.2:=by
 obtain ⟨x1,x2⟩:=x
 exact List.getElem?_zip_eq_some.1 h
theorem YQ(hG:HG G)(a b:List ae)(ha:a.length≤1073741824):FX G 57 Ee ((a,b,()),())=some ((decide (a=b),()),()):=by
 refine aw (fn:=Tryz.f57) (hG _ _ rfl) (by kernel_rfl) (by kernel_rfl) ((ac3 _ _ _).trans ?_)
 by_cases hl:a.length=b.length
 case neg =>
  have h1:((((a.length:Nat):Int)) != ((b.length:Nat):Int))=true:=by simp;omega
  have h2:¬a=b:=fun e=>hl (by rw [e])
  simp only [h1,h2,decide_false]
  rfl
 have h1:((((a.length:Nat):Int)) != ((b.length:Nat):Int))=false:=by simp [hl]
 simp only [h1]
 have BJ:(a.zip b).length=a.length:=by simp [hl]
 have key:=bT (a.zip b) (fun i (_:Unit)=>LX G 57 Ee Tryz.f57 AA (aM Tryz.prog 57 0) ((a,(b,(i,()))),((),()))) (fun r _=>((r.all (fun p=>decide (p.1=p.2)),()),())) (fun _ _=>True)
  (fun s _=>by
   refine ar (j:=0) (by kernel_rfl) ((OJ _ _ _).trans ?_)
   rw [BJ]
   simp only [dd,cond_false];rfl)
  (fun i x r s hi hx hr _ ih=>by
   rw [BJ] at hi
   obtain ⟨h3,h4⟩:=yv hx
   refine ar (j:=0) (by kernel_rfl) ((OJ _ _ _).trans ?_)
   simp only [aT hi,cond_true,az h3,az h4,Option.bind_some,j6,aH hi ha]
   by_cases he:x.1=x.2
   ·simp only [he,decide_true,Bool.not_true,cond_false,List.all_cons,Bool.true_and];exact ih () trivial
   ·simp only [he,decide_false,Bool.not_false,cond_true,List.all_cons,Bool.false_and];rfl)
  () trivial
 rw [uJ a b hl] at key
 exact key
end Go.Vs
namespace Go.Vs
open Go.Proofs
variable {G:(f:FuncId)→(g:aL)→Option (g.A→Option g.B)}
def dw(row:List ae)(d:ae)(by_:Nat):Option ae:=if d∈row then row[((idx d row 0).toNat+by_) % row.length]? else none
def GI:Option ae→ae×(Bool×Unit)
 | some y=>(y,(true,()))
 | none=>(zD,(false,()))
theorem ql(a n:Nat):Int.tmod (a:Int) (n:Int)=((a % n:Nat):Int):=by
 rw [Int.tmod_eq_emod_of_nonneg (by omega)];rfl
theorem Ex{row:List ae}{d:ae}(h:d∈row):((((row.length:Nat):Int))==0)=false:=by
 have:=List.length_pos_of_mem h
 simp;intro e;subst e;simp at h
theorem YR(hG:HG G)(row:List ae)(d:ae)(hl:row.length≤1073741824):FX G 26 LB ((row,d,()),())=some (GI (dw row d (row.length - 1)),()):=by
 refine aw (fn:=Tryz.f26) (hG _ _ rfl) (by kernel_rfl) (by kernel_rfl) ((acE _ _ _).trans ?_)
 refine aa (Ew (hG _ _ rfl) row d hl) ?_
 by_cases h:d∈row
 ·obtain ⟨k,h1,h2,h3⟩:=eY h
  have hk:=(List.getElem?_eq_some_iff.1 h2).1
  have hm:(k+(row.length - 1)) % row.length<row.length:=Nat.mod_lt _ (by omega)
  have e1:IntKind.wrap .i64 (IntKind.wrap .i64 ((k:Int)+((row.length:Nat):Int)) - 1)=((k+(row.length - 1):Nat):Int):=by
   rw [wrap_small (n:=(k:Int)+((row.length:Nat):Int)) (by omega) (by omega),wrap_small (by omega) (by omega)];omega
  have e2:¬((k:Int)<0):=by omega
  have e4:row[(k+(row.length - 1)) % row.length]? = some row[(k+(row.length - 1)) % row.length]:=List.getElem?_eq_getElem hm
  have e3:dw row d (row.length - 1)=some row[(k+(row.length - 1)) % row.length]:=by
   unfold dw;rw [if_pos h,h1];simp
  rw [e3]
  simp only [h1,e2,decide_false,cond_false,Ex h,e1,ql,az e4,Option.bind_some]
  rfl
 ·have h1:=dY.2 h
  have e3:dw row d (row.length - 1)=none:=by unfold dw;rw [if_neg h]
  rw [e3]
  simp only [h1,decide_true,cond_true]
  rfl
theorem YS(hG:HG G)(row:List ae)(d:ae)(hl:row.length≤1073741824):FX G 104 Ga ((row,d,()),())=some (GI (dw row d 1),()):=by
 refine aw (fn:=Tryz.f104) (hG _ _ rfl) (by kernel_rfl) (by kernel_rfl) ((XL _ _ _).trans ?_)
 refine aa (Ew (hG _ _ rfl) row d hl) ?_
 by_cases h:d∈row
 ·obtain ⟨k,h1,h2,h3⟩:=eY h
  have hk:=(List.getElem?_eq_some_iff.1 h2).1
  have hm:(k+1) % row.length<row.length:=Nat.mod_lt _ (by omega)
  have e1:IntKind.wrap .i64 ((k:Int)+1)=((k+1:Nat):Int):=by
   rw [wrap_small (by omega) (by omega)];omega
  have e2:¬((k:Int)<0):=by omega
  have e4:row[(k+1) % row.length]? = some row[(k+1) % row.length]:=List.getElem?_eq_getElem hm
  have e3:dw row d 1=some row[(k+1) % row.length]:=by
   unfold dw;rw [if_pos h,h1];simp
  rw [e3]
  simp only [h1,e2,decide_false,cond_false,Ex h,e1,ql,az e4,Option.bind_some]
  rfl
 ·have h1:=dY.2 h
  have e3:dw row d 1=none:=by unfold dw;rw [if_neg h]
  rw [e3]
  simp only [h1,decide_true,cond_true]
  rfl
def eZ(row:List ae):List ae→Nat→Nat→Nat
 | [],_,k=>k
 | x::r,i,k=>if lA x (row.getD k zD)<0 then eZ row r (i+1) i else eZ row r (i+1) k
def BL(row:List ae)(k:Nat):List ae:=row.drop k++row.take k
def cp(row:List ae):List ae:=BL row (eZ row row 0 0)
theorem oE(row:List ae):∀(r:List ae) (i k:Nat),k<row.length→i+r.length=row.length→eZ row r i k<row.length
 | [],_,k,hk,_=>hk
 | x::r,i,k,hk,hi=>by
  unfold eZ
  simp at hi
  split
  ·exact oE row r (i+1) i (by omega) (by omega)
  ·exact oE row r (i+1) k hk (by omega)
theorem td(row:List ae)(k:Nat):(BL row k).length=row.length:=by unfold BL;simp;omega
theorem fM(row:List ae):(cp row).length=row.length:=td _ _
theorem R8{row:List ae}{k:Nat}{d:ae}:d∈BL row k↔d∈row:=by
 unfold BL
 rw [List.mem_append,or_comm,←List.mem_append,List.take_append_drop]
theorem GJ{row:List ae}{d:ae}:d∈cp row↔d∈row:=R8
theorem Kn{row:List ae}{k i:Nat}(hk:k≤row.length)(hi:i<row.length):(BL row k)[i]? = row[(k+i) % row.length]? := by
 unfold BL
 by_cases h:k+i<row.length
 ·rw [List.getElem?_append_left (by simp;omega),List.getElem?_drop,Nat.mod_eq_of_lt h]
 ·rw [List.getElem?_append_right (by simp;omega),List.length_drop,List.getElem?_take,if_pos (by omega)]
  congr 1
  have:(k+i) % row.length=k+i - row.length:=by rw [Nat.mod_eq_sub_mod (by omega),Nat.mod_eq_of_lt (by omega)]
  omega
theorem U4(row:List ae)(k:Nat)(hl:row.length≤100000000)(hk:k≤row.length):∀(n i:Nat) (out T:List ae),i+n=row.length→T=BL row k→out=T.take i →
  LX G 77 ov Tryz.f77 AE (aM Tryz.prog 77 1) ((row,((k:Int),((i:Int),()))),((),(out,())))=some ((T,()),()):=by
 intro n
 induction n with
 | zero =>
  intro i out T hi hT ho
  refine ar (j:=1) (by kernel_rfl) ((OT _ _ _).trans ?_)
  have h1:¬((i:Int)<(row.length:Int)):=by omega
  have h2:out=T:=by rw [ho];exact List.take_of_length_le (by rw [hT,td];omega)
  subst h2
  simp only [h1,decide_false]
  rfl
 | succ n ih =>
  intro i out T hi hT ho
  refine ar (j:=1) (by kernel_rfl) ((OT _ _ _).trans ?_)
  have aJ:i<row.length:=by omega
  have hm:(k+i) % row.length<row.length:=Nat.mod_lt _ (by omega)
  have h3:row[(k+i) % row.length]? = some row[(k+i) % row.length]:=List.getElem?_eq_getElem hm
  have h0:((((row.length:Nat):Int))==0)=false:=by simp;intro e;subst e;simp at aJ
  have h4:IntKind.wrap .i64 ((k:Int)+(i:Int))=((k+i:Nat):Int):=by rw [wrap_small (by omega) (by omega)];rfl
  have TF:out.length≤row.length:=by rw [ho,hT];simp;rw [td];omega
  have h5:aO out.length [row[(k+i) % row.length]].length=true:=fits (by simp;omega)
  have h6:out++[row[(k+i) % row.length]]=T.take (i+1):=by
   rw [ho,List.take_add_one,hT,Kn hk aJ,h3];rfl
  have h7:=ih (i+1) (out++[row[(k+i) % row.length]]) T (by omega) hT h6
  simp only [aT aJ,h0,h4,ql,az h3,Option.bind_some,h5,aH aJ (show row.length≤1073741824 by omega)]
  exact h7
theorem U5(hG:HG G)(row:List ae)(hl:row.length≤100000000):∀(n i k:Nat),i+n=row.length→(k<row.length∨(row=[]∧k=0)) →
  LX G 77 ov Tryz.f77 vL (aM Tryz.prog 77 0) ((row,((k:Int),((i:Int),()))),((),()))=some ((BL row (eZ row (row.drop i) i k),()),()):=by
 intro n
 induction n with
 | zero =>
  intro i k hi hk
  refine ar (j:=0) (by kernel_rfl) ((OS _ _ _).trans ?_)
  have h1:¬((i:Int)<(row.length:Int)):=by omega
  have h2:row.drop i=[]:=List.drop_eq_nil_of_le (by omega)
  simp only [h1,h2,decide_false,cond_false,eZ]
  exact U4 (G:=G) row k hl (by rcases hk with h | ⟨_,h⟩<;>omega) row.length 0 [] (BL row k) (by omega) rfl (by simp)
 | succ n ih =>
  intro i k hi hk
  refine ar (j:=0) (by kernel_rfl) ((OS _ _ _).trans ?_)
  have aJ:i<row.length:=by omega
  have uZ:k<row.length:=hk.resolve_right (by rintro ⟨rfl,_⟩;simp at aJ)
  have h2:row.drop i=row[i]::row.drop (i+1):=List.drop_eq_getElem_cons aJ
  have h3:row[i]? = some row[i]:=List.getElem?_eq_getElem aJ
  have h4:row[k]? = some row[k]:=List.getElem?_eq_getElem uZ
  have h5:row.getD k zD=row[k]:=by simp [List.getD,h4]
  simp only [aT aJ,cond_true,az h3,az h4,Option.bind_some,aH aJ (show row.length≤1073741824 by omega)]
  refine aa (R7 hG row[i] row[k]) ?_
  rw [h2,eZ,h5]
  by_cases ho:lA row[i] row[k]<0
  ·rw [if_pos ho];simp only [ho,decide_true]
   exact ih (i+1) i (by omega) (.inl aJ)
  ·rw [if_neg ho];simp only [ho,decide_false]
   exact ih (i+1) k (by omega) (.inl uZ)
theorem Ey(hG:HG G)(row:List ae)(hl:row.length≤100000000):FX G 77 ov ((row,()),())=some ((cp row,()),()):=by
 refine aw (fn:=Tryz.f77) (hG _ _ rfl) (by kernel_rfl) (by kernel_rfl) ((ado _ _ _).trans ?_)
 have:=U5 (G:=G) hG row hl row.length 0 0 (by omega) (by cases row with | nil=>exact .inr ⟨rfl,rfl⟩ | cons x r=>exact .inl (by simp))
 exact this
def lB(row:List ae)(after d:ae):List ae :=
 if d∈row then cp row else cp (row.take ((max 0 (idx after row 0)).toNat+1)++(d::row.drop ((max 0 (idx after row 0)).toNat+1)))
def gM(row:List ae)(d:ae):List ae:=cp (row.filter fun e=>decide (e≠d))
def jg(row:List ae)(cH d:ae):List ae:=cp (if cH∈row∧d∉row then row.set (idx cH row 0).toNat d else row)
theorem YT(hG:HG G)(row:List ae)(d:ae)(hl:row.length≤100000000):FX G 102 xc ((row,d,()),())=some ((gM row d,()),()):=by
 refine aw (fn:=Tryz.f102) (hG _ _ rfl) (by kernel_rfl) (by kernel_rfl) ((XJ _ _ _).trans ?_)
 have key:=bT row (fun i (s:List ae)=>LX G 102 xc Tryz.f102 qW (aM Tryz.prog 102 0) ((row,(i,())),(((d,()),()),(s,())))) (fun r s=>((cp (s++r.filter fun e=>decide (e≠d)),()),())) (fun n s=>s.length+n≤row.length)
  (fun s hs=>by
   refine ar (j:=0) (by kernel_rfl) ((J0 _ _ _).trans ?_)
   simp only [dd,cond_false]
   refine aa (Ey hG s (by omega)) ?_
   simp only [List.filter_nil,List.append_nil];rfl)
  (fun i x r s hi hx hr hs ih=>by
   refine ar (j:=0) (by kernel_rfl) ((J0 _ _ _).trans ?_)
   simp only [aT hi,cond_true,az hx,Option.bind_some,j6,aH hi (show row.length≤1073741824 by omega)]
   by_cases he:x=d
   ·simp only [he,decide_true,Bool.not_true,ne_eq,not_true_eq_false,decide_false,List.filter_cons,Bool.false_eq_true,if_false]
    exact ih s (by omega)
   ·have h5:aO s.length [x].length=true:=fits (by simp;omega)
    simp only [he,decide_false,Bool.not_false,h5,ne_eq,not_false_eq_true,decide_true,List.filter_cons,if_true]
    have:=ih (s++[x]) (by simp;omega)
    rw [List.append_assoc] at this
    exact this)
  [] (by simp)
 exact key
theorem Pz(row:List ae)(d:ae)(k:Nat):row.take (k+1)++(d::row.drop (k+1))=(row.take (k+1)++[d])++row.drop (k+1):=by simp
theorem YU(hG:HG G)(row:List ae)(after d:ae)(hl:row.length≤90000000):FX G 100 w9 ((row,after,d,()),())=some ((lB row after d,()),()):=by
 refine aw (fn:=Tryz.f100) (hG _ _ rfl) (by kernel_rfl) (by kernel_rfl) ((XH _ _ _).trans ?_)
 refine aa (Ew (hG _ _ rfl) row d (by omega)) ?_
 by_cases hd:d∈row
 case pos =>
  have h1:¬idx d row 0<0:=fun h=>dY.1 h hd
  have h2:idx d row 0≥0:=by omega
  simp only [h2,decide_true,cond_true]
  refine aa (Ey hG row (by omega)) ?_
  unfold lB;rw [if_pos hd];rfl
 case neg =>
 have h1:¬idx d row 0≥0:=by have:=dY.2 hd;omega
 simp only [h1,decide_false,cond_false]
 refine aa (Ew (hG _ _ rfl) row after (by omega)) ?_
 obtain ⟨k,hk⟩:∃k:Nat,max 0 (idx after row 0)=(k:Int):=⟨(max 0 (idx after row 0)).toNat,by omega⟩
 have M3:k<row.length∨row=[]:=by
  rcases np after row 0 (by omega) with ⟨e,_⟩ | ⟨q,e,e2,_⟩
  ·have:k=0:=by omega
   subst this
   cases row with
   | nil=>exact .inr rfl
   | cons x r=>exact .inl (by simp)
  ·have:=(List.getElem?_eq_some_iff.1 e2).1
   exact .inl (by omega)
 have ug:lB row after d=cp (row.take (k+1)++(d::row.drop (k+1))):=by unfold lB;rw [if_neg hd,hk];rfl
 rw [ug]
 simp only [hk]
 obtain ⟨fin,iY⟩:∃fin,fin=row.take (k+1)++(d::row.drop (k+1)):=⟨_,rfl⟩
 rw [←iY]
 have loop:∀(n i:Nat) (out:List ae),i+n=row.length→out=(if i≤k then row.take i else (row.take (k+1)++[d])++(row.drop (k+1)).take (i - (k+1))) →
   LX G 100 w9 Tryz.f100 qV (aM Tryz.prog 100 0) ((row,((k:Int),((i:Int),()))),(((d,()),()),(out,())))=some ((cp fin,()),()):=by
  intro n
  induction n with
  | zero =>
   intro i out hi tX
   refine ar (j:=0) (by kernel_rfl) ((JY _ _ _).trans ?_)
   have h1:¬((i:Int)<(row.length:Int)):=by omega
   rcases M3 with M3 | rfl
   ·have h0:((((row.length:Nat):Int))==0)=false:=by simp;intro e;subst e;simp at M3
    have h2:out=fin:=by
     have hle:(row.drop (k+1)).take (i - (k+1))=row.drop (k+1):=List.take_of_length_le (by rw [List.length_drop];omega)
     rw [tX,iY,if_neg (by omega),Pz,hle]
    subst h2
    simp only [h1,decide_false,h0]
    exact aa (Ey hG out (by rw [iY];simp;omega)) rfl
   ·have RS:i=0:=by simpa using hi
    subst RS
    have h2:out=[]:=by rw [tX];simp
    subst h2
    have h3:fin=[d]:=by rw [iY];simp
    subst h3
    exact aa (Ey hG [d] (by simp)) rfl
  | succ n ih =>
   intro i out hi tX
   refine ar (j:=0) (by kernel_rfl) ((JY _ _ _).trans ?_)
   have aJ:i<row.length:=by omega
   have hx:row[i]? = some row[i]:=List.getElem?_eq_getElem aJ
   have TF:out.length≤row.length+1:=by rw [tX];split<;>simp<;>omega
   have h5:aO out.length [row[i]].length=true:=fits (by simp;omega)
   simp only [aT aJ,az hx,Option.bind_some,aH aJ (show row.length≤1073741824 by omega),h5]
   by_cases NP:i=k
   ·subst NP
    have h6:aO (out++[row[i]]).length [d].length=true:=fits (by simp;omega)
    have h8:(((i:Nat):Int)==((i:Nat):Int))=true:=by simp
    simp only [h8,h6]
    exact ih (i+1) ((out++[row[i]])++[d]) (by omega) (by rw [if_neg (by omega),tX,if_pos (Nat.le_refl _),List.take_add_one,hx];simp)
   ·have h8:(((i:Nat):Int)==((k:Nat):Int))=false:=by simp;omega
    simp only [h8]
    refine ih (i+1) (out++[row[i]]) (by omega) ?_
    rw [tX]
    by_cases hle:i≤k
    ·rw [if_pos hle,if_pos (by omega),List.take_add_one,hx];rfl
    ·have e9:(row.drop (k+1)).take (i+1 - (k+1))=(row.drop (k+1)).take (i - (k+1))++[row[i]]:=by
      rw [show i+1 - (k+1)=(i - (k+1))+1 by omega,List.take_add_one,List.getElem?_drop,show k+1+(i - (k+1))=i by omega,hx];rfl
     rw [if_neg hle,if_neg (by omega),e9,List.append_assoc]
 exact loop row.length 0 [] (by omega) (by simp)
theorem YV(hG:HG G)(row:List ae)(cH d:ae)(hl:row.length≤100000000):FX G 103 F9 ((row,cH,d,()),())=some ((jg row cH d,()),()):=by
 refine aw (fn:=Tryz.f103) (hG _ _ rfl) (by kernel_rfl) (by kernel_rfl) ((XK _ _ _).trans ?_)
 have h5:aO ([]:List ae).length row.length=true:=fits (by simp;omega)
 simp only [h5,cond_true,List.nil_append]
 refine aa (Ew (hG _ _ rfl) row cH (by omega)) ?_
 unfold jg
 by_cases ho:cH∈row
 ·obtain ⟨k,h1,h2,h3⟩:=eY ho
  have hk:=(List.getElem?_eq_some_iff.1 h2).1
  have e1:((k:Int)≥0):=by omega
  simp only [h1,e1,decide_true]
  refine aa (Ew (hG _ _ rfl) row d (by omega)) ?_
  by_cases hd:d∈row
  ·have h6:¬idx d row 0<0:=fun h=>dY.1 h hd
   rw [if_neg (by simp [hd])]
   simp only [h6,decide_false]
   exact aa (Ey hG row hl) rfl
  ·have h6:=dY.2 hd
   rw [if_pos ⟨ho,hd⟩]
   have h7:(0:Int)≤(k:Int):=by omega
   have h8:((k:Int)<((row.length:Nat):Int)):=by omega
   simp only [h6,decide_true,h7,h8,Bool.and_self,Int.toNat_natCast,h2]
   exact aa (Ey hG (row.set k d) (by simpa using hl)) rfl
 ·have h1:¬idx cH row 0≥0:=by have:=dY.2 ho;omega
  rw [if_neg (by simp [ho])]
  simp only [h1,decide_false]
  exact aa (Ey hG row hl) rfl
end Go.Vs
namespace Go.Vs
open Go.Proofs
variable {G:(f:FuncId)→(g:aL)→Option (g.A→Option g.B)}
def e0:ByteArray:=⟨#[]⟩
def zI:ID:=(0,0)
def zV:ai:=((0,0),([],(e0,0)))
def zE:ah:=((0,0),(e0,0))
def aV(l:List ai)(x:ID):Option ai:=l.find? fun v=>decide (v.1=x)
def aW(l:List ah)(x:ID):Option ah:=l.find? fun v=>decide (v.1=x)
def bm(d:aj)(x:ID):Option ai:=aV d.1 x
def gq(d:aj)(x:ID):Option ah:=aW d.2 x
def GK(l:List ai)(x:ae):Option ID:=(l.find? fun v=>decide (x∈v.2.1)).map (·.1)
def ct(d:aj)(x:ae):Option ID:=GK d.1 x
def oF{α:Type}(z:α):Option α→α×(Bool×Unit)
 | some y=>(y,(true,()))
 | none=>(z,(false,()))
theorem Cc(hG:G 18 o9=none)(d:aj)(x:ID)(hl:d.1.length≤100000000):FX G 18 o9 ((d,x,()),())=some (oF zV (bm d x),()):=by
 refine aw (fn:=Tryz.f18) hG (by kernel_rfl) (by kernel_rfl) ((acx _ _ _).trans ?_)
 have Ez:=bT d.1 (fun i (_:Unit)=>LX G 18 o9 Tryz.f18 Al (aM Tryz.prog 18 0) ((i,()),(((d,()),((x,()),(((0:Int),((0:Int),(([]:List ae),(e0,((0:Int),()))))),()))),()))) (fun (r:List ai) (_:Unit)=>(oF zV (aV r x),())) (fun _ _=>True)
  (fun s _=>by
   refine ar (j:=0) (by kernel_rfl) ((Og _ _ _).trans ?_)
   simp only [dd,cond_false];rfl)
  (fun i y r s hi hx hr _ ih=>by
   refine ar (j:=0) (by kernel_rfl) ((Og _ _ _).trans ?_)
   simp only [aT hi,cond_true,az hx,Option.bind_some,iZ,aH hi (show d.1.length≤1073741824 by omega)]
   by_cases he:y.1=x
   ·simp only [he,decide_true,aV,aW,List.find?_cons];subst he;rfl
   ·simp only [he,decide_false,aV,aW,List.find?_cons];exact ih () trivial)
  () trivial
 exact Ez
theorem PA(hG:G 21 vD=none)(d:aj)(x:ID)(hl:d.2.length≤100000000):FX G 21 vD ((d,x,()),())=some (oF zE (gq d x),()):=by
 refine aw (fn:=Tryz.f21) hG (by kernel_rfl) (by kernel_rfl) ((acA _ _ _).trans ?_)
 have Ez:=bT d.2 (fun i (_:Unit)=>LX G 21 vD Tryz.f21 Ao (aM Tryz.prog 21 0) ((i,()),(((d,()),((x,()),(((((0:Int),(0:Int)),(e0,(0:Int))),()),()))),()))) (fun (r:List ah) (_:Unit)=>(oF zE (aW r x),())) (fun _ _=>True)
  (fun s _=>by
   refine ar (j:=0) (by kernel_rfl) ((Oi _ _ _).trans ?_)
   simp only [dd,cond_false];rfl)
  (fun i y r s hi hx hr _ ih=>by
   refine ar (j:=0) (by kernel_rfl) ((Oi _ _ _).trans ?_)
   simp only [aT hi,cond_true,az hx,Option.bind_some,iZ,aH hi (show d.2.length≤1073741824 by omega)]
   by_cases he:y.1=x
   ·simp only [he,decide_true,aV,aW,List.find?_cons];subst he;rfl
   ·simp only [he,decide_false,aV,aW,List.find?_cons];exact ih () trivial)
  () trivial
 exact Ez
theorem GL(hG:HG G)(d:aj)(x:ae)(hl:d.1.length≤100000000)(hr:∀v∈d.1,v.2.1.length≤100000000):FX G 20 sZ ((d,x,()),())=some (oF zI (ct d x),()):=by
 refine aw (fn:=Tryz.f20) (hG _ _ rfl) (by kernel_rfl) (by kernel_rfl) ((acz _ _ _).trans ?_)
 have Ez:=bT d.1 (fun i (_:Unit)=>LX G 20 sZ Tryz.f20 Am (aM Tryz.prog 20 0) ((i,()),(((d,()),((x,()),((((0:Int),(0:Int)),()),()))),()))) (fun r _=>(oF zI (GK r x),())) (fun _ _=>True)
  (fun s _=>by
   refine ar (j:=0) (by kernel_rfl) ((Oh _ _ _).trans ?_)
   simp only [dd,cond_false];rfl)
  (fun i y r s hi hx Cd _ ih=>by
   refine ar (j:=0) (by kernel_rfl) ((Oh _ _ _).trans ?_)
   simp only [aT hi,cond_true,az hx,Option.bind_some,aH hi (show d.1.length≤1073741824 by omega)]
   refine aa (Ew (hG _ _ rfl) y.2.1 x (by have:=hr y (List.mem_of_getElem? hx);omega)) ?_
   by_cases he:x∈y.2.1
   ·have h1:idx x y.2.1 0≥0:=by obtain ⟨k,h,_⟩:=eY he;omega
    simp only [h1,decide_true,GK,List.find?_cons,he];rfl
   ·have h1:¬idx x y.2.1 0≥0:=by have:=dY.2 he;omega
    simp only [h1,decide_false,GK,List.find?_cons,he];exact ih () trivial)
  () trivial
 exact Ez
theorem YW(hG:G 38 B4=none)(d:aj)(hl:d.1.length≤100000000)(rM:d.2.length≤100000000)(hr:∀v∈d.1,v.2.1.length≤100000000):FX G 38 B4 ((d,()),())=some (((d.1,(d.2,())),()),()):=by
 refine aw (fn:=Tryz.f38) hG (by kernel_rfl) (by kernel_rfl) ((acM _ _ _).trans ?_)
 have h5:aO ([]:List ah).length d.2.length=true:=fits (by simp;omega)
 simp only [h5,cond_true,List.nil_append]
 have Ez:=bT d.1 (fun i (out:List ai)=>LX G 38 B4 Tryz.f38 Av (aM Tryz.prog 38 0) ((i,()),(((d,()),((([]:List ai),(([]:List ah),())),((out,(d.2,())),()))),()))) (fun r s=>(((s++r,(d.2,())),()),())) (fun n s=>s.length+n≤d.1.length)
  (fun s _=>by
   refine ar (j:=0) (by kernel_rfl) ((Ou _ _ _).trans ?_)
   simp only [dd,List.append_nil];rfl)
  (fun i y r s hi hx Cd hs ih=>by
   refine ar (j:=0) (by kernel_rfl) ((Ou _ _ _).trans ?_)
   have h6:aO ([]:List ae).length y.2.1.length=true:=fits (by have:=hr y (List.mem_of_getElem? hx);simp;omega)
   have h7:aO s.length [(y.1,(y.2.1,y.2.2))].length=true:=fits (by simp;omega)
   simp only [aT hi,az hx,Option.bind_some,h6,List.nil_append,h7,aH hi (show d.1.length≤1073741824 by omega)]
   have:=ih (s++[y]) (by simp;omega)
   rw [List.append_assoc] at this
   exact this)
  [] (by simp)
 exact Ez
def dW(v:ai):List ai→List ai
 | []=>[v]
 | w::r=>if eU v.1 w.1 then v::w::r else w::dW v r
def dn(v:ah):List ah→List ah
 | []=>[v]
 | w::r=>if eU v.1 w.1 then v::w::r else w::dn v r
theorem b5(a:ID):eU a a=false:=by simp [eU]
theorem jL(a b:ID):oD a b<0↔eU a b=true:=by
 unfold oD
 by_cases h:a=b
 ·subst h;simp [b5]
 ·rw [if_neg h];split<;>simp_all
theorem YX(hG:HG G)(d:aj)(v:ai)(hl:d.1.length≤100000000):FX G 46 Ec ((d,v,()),())=some (((dW v d.1,d.2),()),()):=by
 refine aw (fn:=Tryz.f46) (hG _ _ rfl) (by kernel_rfl) (by kernel_rfl) ((acS _ _ _).trans ?_)
 have key:=bT d.1 (fun i (s:Bool×List ai)=>LX G 46 Ec Tryz.f46 s5 (aM Tryz.prog 46 0) ((s.1,(i,())),(((d,()),((v,()),((([]:List ai),(([]:List ah),())),((s.2,(d.2,())),())))),())))
  (fun r s=>(((s.2++(if s.1 then r else dW v r),d.2),()),())) (fun n s=>s.2.length+n≤d.1.length+(if s.1 then 1 else 0))
  (fun s hs=>by
   obtain ⟨put,s⟩:=s
   refine ar (j:=0) (by kernel_rfl) ((Ow _ _ _).trans ?_)
   have h7:aO s.length [v].length=true:=fits (by simp at hs ⊢;split at hs<;>omega)
   cases put
   ·simp only [dd,h7,dW];rfl
   ·simp only [dd,if_true,List.append_nil];rfl)
  (fun i y r s hi hx Cd hs ih=>by
   obtain ⟨put,s⟩:=s
   refine ar (j:=0) (by kernel_rfl) ((Ow _ _ _).trans ?_)
   have h6:aO s.length [y].length=true:=fits (by simp at hs ⊢;split at hs<;>omega)
   cases put
   ·have h7:aO s.length [v].length=true:=fits (by simp at hs ⊢;omega)
    have h8:aO (s++[v]).length [y].length=true:=fits (by simp at hs ⊢;omega)
    simp only [aT hi,az hx,Option.bind_some,aH hi (show d.1.length≤1073741824 by omega)]
    refine aa (Py (hG _ _ rfl) v.1 y.1) ?_
    by_cases ho:eU v.1 y.1=true
    ·have h9:=(jL _ _).2 ho
     have:=ih (true,(s++[v])++[y]) (by simp at hs ⊢;omega)
     simp only [h9,decide_true,h7,h8,dW,ho,if_true,Bool.false_eq_true,if_false]
     exact this.trans (congrArg (fun l:List ai=>some (((l,d.2),()),())) (show ((s++[v])++[y])++r=s++(v::y::r) by simp))
    ·have h9:¬oD v.1 y.1<0:=fun h=>ho ((jL _ _).1 h)
     have:=ih (false,s++[y]) (by simp at hs ⊢;omega)
     simp only [h9,decide_false,h6,dW,ho,if_false,Bool.false_eq_true]
     exact this.trans (congrArg (fun l:List ai=>some (((l,d.2),()),())) (show (s++[y])++dW v r=s++(y::dW v r) by simp))
   ·have:=ih (true,s++[y]) (by simp at hs ⊢;omega)
    simp only [aT hi,az hx,Option.bind_some,aH hi (show d.1.length≤1073741824 by omega),h6,if_true]
    exact this.trans (congrArg (fun l:List ai=>some (((l,d.2),()),())) (show (s++[y])++r=s++(y::r) by simp)))
  (false,[]) (by simp)
 exact key
theorem YY(hG:HG G)(d:aj)(v:ah)(hl:d.2.length≤100000000):FX G 71 xH ((d,v,()),())=some (((d.1,dn v d.2),()),()):=by
 refine aw (fn:=Tryz.f71) (hG _ _ rfl) (by kernel_rfl) (by kernel_rfl) ((adh _ _ _).trans ?_)
 have key:=bT d.2 (fun i (s:Bool×List ah)=>LX G 71 xH Tryz.f71 s6 (aM Tryz.prog 71 0) ((s.1,(i,())),(((d,()),((v,()),((([]:List ai),(([]:List ah),())),((d.1,(s.2,())),())))),())))
  (fun r s=>(((d.1,s.2++(if s.1 then r else dn v r)),()),())) (fun n s=>s.2.length+n≤d.2.length+(if s.1 then 1 else 0))
  (fun s hs=>by
   obtain ⟨put,s⟩:=s
   refine ar (j:=0) (by kernel_rfl) ((OQ _ _ _).trans ?_)
   have h7:aO s.length [v].length=true:=fits (by simp at hs ⊢;split at hs<;>omega)
   cases put
   ·simp only [dd,h7,dn];rfl
   ·simp only [dd,if_true,List.append_nil];rfl)
  (fun i y r s hi hx Cd hs ih=>by
   obtain ⟨put,s⟩:=s
   refine ar (j:=0) (by kernel_rfl) ((OQ _ _ _).trans ?_)
   have h6:aO s.length [y].length=true:=fits (by simp at hs ⊢;split at hs<;>omega)
   cases put
   ·have h7:aO s.length [v].length=true:=fits (by simp at hs ⊢;omega)
    have h8:aO (s++[v]).length [y].length=true:=fits (by simp at hs ⊢;omega)
    simp only [aT hi,az hx,Option.bind_some,aH hi (show d.2.length≤1073741824 by omega)]
    refine aa (Py (hG _ _ rfl) v.1 y.1) ?_
    by_cases ho:eU v.1 y.1=true
    ·have h9:=(jL _ _).2 ho
     have:=ih (true,(s++[v])++[y]) (by simp at hs ⊢;omega)
     simp only [h9,decide_true,h7,h8,dn,ho,if_true,Bool.false_eq_true,if_false]
     exact this.trans (congrArg (fun l:List ah=>some (((d.1,l),()),())) (show ((s++[v])++[y])++r=s++(v::y::r) by simp))
    ·have h9:¬oD v.1 y.1<0:=fun h=>ho ((jL _ _).1 h)
     have:=ih (false,s++[y]) (by simp at hs ⊢;omega)
     simp only [h9,decide_false,h6,dn,ho,if_false,Bool.false_eq_true]
     exact this.trans (congrArg (fun l:List ah=>some (((d.1,l),()),())) (show (s++[y])++dn v r=s++(y::dn v r) by simp))
   ·have:=ih (true,s++[y]) (by simp at hs ⊢;omega)
    simp only [aT hi,az hx,Option.bind_some,aH hi (show d.2.length≤1073741824 by omega),h6,if_true]
    exact this.trans (congrArg (fun l:List ah=>some (((d.1,l),()),())) (show (s++[y])++r=s++(y::r) by simp)))
  (false,[]) (by simp)
 exact key
def dE(l:List ai)(v:ID):List ai:=l.filter fun w=>decide (w.1≠v)
def cP(l:List ah)(v:ID):List ah:=l.filter fun w=>decide (w.1≠v)
def bw(d:aj)(v e:ID):aj:=(dE d.1 v,cP d.2 e)
theorem R9(hG:G 47 ou=none)(d:aj)(v e:ID)(hl:d.1.length≤100000000)(rM:d.2.length≤100000000):FX G 47 ou ((d,v,e,()),())=some ((bw d v e,()),()):=by
 refine aw (fn:=Tryz.f47) hG (by kernel_rfl) (by kernel_rfl) ((acT _ _ _).trans ?_)
 have LV:=fun vs=>bT d.2 (fun i (s:List ah)=>LX G 47 ou Tryz.f47 vJ (aM Tryz.prog 47 1) ((i,()),(((d,()),((e,()),((([]:List ai),(([]:List ah),())),((vs,(s,())),())))),())))
  (fun (r:List ah) (s:List ah)=>(((vs,s++cP r e),()),())) (fun n s=>s.length+n≤d.2.length)
  (fun s hs=>by
   refine ar (j:=1) (by kernel_rfl) ((Oy _ _ _).trans ?_)
   simp only [dd,dE,cP,List.filter_nil,List.append_nil];rfl)
  (fun i y r s hi hx Cd hs ih=>by
   refine ar (j:=1) (by kernel_rfl) ((Oy _ _ _).trans ?_)
   have h6:aO s.length [y].length=true:=fits (by simp at hs ⊢;omega)
   simp only [aT hi,az hx,Option.bind_some,iZ,aH hi (show d.2.length≤1073741824 by omega)]
   by_cases he:y.1=e
   ·simp only [he,decide_true,Bool.not_true,ne_eq,not_true_eq_false,decide_false,dE,cP,List.filter_cons,Bool.false_eq_true,if_false]
    exact ih s (by omega)
   ·simp only [he,decide_false,Bool.not_false,h6,ne_eq,not_false_eq_true,decide_true,dE,cP,List.filter_cons,if_true]
    have:=ih (s++[y]) (by simp;omega)
    rw [List.append_assoc] at this
    exact this)
  [] (by simp)
 have Ez:=bT d.1 (fun i (s:List ai)=>LX G 47 ou Tryz.f47 vI (aM Tryz.prog 47 0) ((i,()),(((d,()),((v,()),((e,()),((([]:List ai),(([]:List ah),())),((s,(([]:List ah),())),()))))),())))
  (fun (r:List ai) (s:List ai)=>(((s++dE r v,cP d.2 e),()),())) (fun n s=>s.length+n≤d.1.length)
  (fun s hs=>by
   refine ar (j:=0) (by kernel_rfl) ((Ox _ _ _).trans ?_)
   simp only [dd,dE,cP,List.filter_nil,List.append_nil]
   exact LV s)
  (fun i y r s hi hx Cd hs ih=>by
   refine ar (j:=0) (by kernel_rfl) ((Ox _ _ _).trans ?_)
   have h6:aO s.length [y].length=true:=fits (by simp at hs ⊢;omega)
   simp only [aT hi,az hx,Option.bind_some,iZ,aH hi (show d.1.length≤1073741824 by omega)]
   by_cases he:y.1=v
   ·simp only [he,decide_true,Bool.not_true,ne_eq,not_true_eq_false,decide_false,dE,cP,List.filter_cons,Bool.false_eq_true,if_false]
    exact ih s (by omega)
   ·simp only [he,decide_false,Bool.not_false,h6,ne_eq,not_false_eq_true,decide_true,dE,cP,List.filter_cons,if_true]
    have:=ih (s++[y]) (by simp;omega)
    rw [List.append_assoc] at this
    exact this)
  [] (by simp)
 exact Ez
end Go.Vs
namespace Go.Vs
open Go.Proofs
variable {G:(f:FuncId)→(g:aL)→Option (g.A→Option g.B)}
instance agB:DecidableEq (List ai):=@instDecidableEqList ai inferInstance
instance decLE:DecidableEq (List ah):=@instDecidableEqList ah inferInstance
instance abd:DecidableEq aj:=instDecidableEqProd
instance YZ:DecidableEq StateT:=instDecidableEqProd
structure Sm(d:aj):Prop where
 v:d.1.length≤50000000
 e:d.2.length≤50000000
 r:∀w∈d.1,w.2.1.length≤50000000
def q8(x:ID)(l:List ae)(w:ai):ai:=if w.1=x then (w.1,(l,w.2.2)) else w
def b6(d:aj)(x:ID)(l:List ae):aj:=(d.1.map (q8 x l),d.2)
theorem eL(i:Nat):decide ((0:Int)≤(i:Int))=true:=by simp
theorem uK{α:Type}(f:α→α)(l:List α)(i:Nat)(x:α)(hx:l[i]? = some x):((l.take i).map f++l.drop i).set i (f x)=(l.take (i+1)).map f++l.drop (i+1):=by
 have hi:=(List.getElem?_eq_some_iff.1 hx).1
 have h2:l.drop i=l[i]::l.drop (i+1):=List.drop_eq_getElem_cons hi
 have h3:l[i]=x:=(List.getElem?_eq_some_iff.1 hx).2
 rw [List.set_append_right _ _ (by simp;omega),h2,List.length_map,List.length_take,Nat.min_eq_left (by omega),Nat.sub_self,List.set_cons_zero,List.take_add_one,hx]
 simp
theorem qm{α:Type}(f:α→α)(l:List α)(i:Nat)(x:α)(hx:l[i]? = some x)(hf:f x=x):(l.take i).map f++l.drop i=(l.take (i+1)).map f++l.drop (i+1):=by
 have hi:=(List.getElem?_eq_some_iff.1 hx).1
 have h2:l.drop i=l[i]::l.drop (i+1):=List.drop_eq_getElem_cons hi
 have h3:l[i]=x:=(List.getElem?_eq_some_iff.1 hx).2
 rw [h2,h3,List.take_add_one,hx];simp [hf]
theorem EA{α:Type}(f:α→α)(l:List α)(i:Nat)(x:α)(hx:l[i]? = some x):((l.take i).map f++l.drop i)[i]? = some x:=by
 have hi:=(List.getElem?_eq_some_iff.1 hx).1
 rw [List.getElem?_append_right (by simp;omega),List.length_map,List.length_take,Nat.min_eq_left (by omega),Nat.sub_self,List.getElem?_drop,Nat.add_zero,hx]
theorem U6(hG:HG G)(d:aj)(x:ID)(l:List ae)(hs:Sm d):FX G 99 B9 ((d,x,l,()),())=some ((b6 d x l,()),()):=by
 have hv:=hs.v;have he:=hs.e
 refine aw (fn:=Tryz.f99) (hG _ _ rfl) (by kernel_rfl) (by kernel_rfl) ((adG _ _ _).trans ?_)
 refine aa (YW (hG _ _ rfl) d (by omega) (by omega) (fun w hw=>by have:=hs.r w hw;omega)) ?_
 have loop:∀(n i:Nat) (out fin:List ai),i+n=d.1.length→out=(d.1.take i).map (q8 x l)++d.1.drop i→fin=d.1.map (q8 x l) →
   LX G 99 B9 Tryz.f99 vT (aM Tryz.prog 99 0) ((l,((i:Int),())),(((x,()),((([]:List ai),(([]:List ah),())),((out,(d.2,())),()))),()))=some (((fin,d.2),()),()):=by
  intro n
  induction n with
  | zero =>
   intro i out fin hi ho hf
   refine ar (j:=0) (by kernel_rfl) ((O5 _ _ _).trans ?_)
   have TF:out.length=d.1.length:=by rw [ho];simp;omega
   have h1:¬((i:Int)<(out.length:Int)):=by omega
   have h2:out=fin:=by rw [ho,hf,List.take_of_length_le (by omega),List.drop_eq_nil_of_le (by omega),List.append_nil]
   subst h2
   simp only [h1,decide_false];rfl
  | succ n ih =>
   intro i out fin hi ho hf
   refine ar (j:=0) (by kernel_rfl) ((O5 _ _ _).trans ?_)
   have TF:out.length=d.1.length:=by rw [ho];simp;omega
   have aJ:i<d.1.length:=by omega
   have hx:d.1[i]? = some d.1[i]:=List.getElem?_eq_getElem aJ
   have hg:out[i]? = some d.1[i]:=by rw [ho];exact EA _ _ _ _ hx
   simp only [aT (show i<out.length by omega),eL,Bool.and_self,Int.toNat_natCast,hg,Option.bind_some,iZ,aH aJ (show d.1.length≤1073741824 by omega)]
   by_cases hq:d.1[i].1=x
   ·have e1:q8 x l d.1[i]=(x,(l,d.1[i].2.2)):=by unfold q8;rw [if_pos hq,hq]
    simp only [hq,decide_true]
    exact ih (i+1) (out.set i (x,(l,d.1[i].2.2))) fin (by omega) (by rw [ho,←uK _ _ _ _ hx,e1]) hf
   ·have e1:q8 x l d.1[i]=d.1[i]:=by unfold q8;rw [if_neg hq]
    simp only [hq,decide_false]
    exact ih (i+1) out fin (by omega) (by rw [ho];exact qm _ _ _ _ hx e1) hf
 exact loop d.1.length 0 d.1 (d.1.map (q8 x l)) (by omega) (by simp) rfl
def bJ(d:aj)(x:ID):List ae:=((bm d x).getD zV).2.1
theorem jM{α:Type}(z:α)(o:Option α):(oF z o).1=o.getD z:=by cases o<;>rfl
theorem fW{α:Type}(z:α)(o:Option α):(oF z o).2.1=o.isSome:=by cases o<;>rfl
theorem nq{d:aj}(hs:Sm d)(x:ID):(bJ d x).length≤50000000:=by
 unfold bJ
 cases h:bm d x with
 | none=>simp [zV]
 | some v=>exact hs.r v (List.mem_of_find?_eq_some h)
def bR(d:aj)(c:o8)(x:ae):aj:=b6 d c.1 (lB (bJ d c.1) c.2 x)
def aF(d:aj)(cH x:ae):aj:=b6 d ((ct d cH).getD zI) (jg (bJ d ((ct d cH).getD zI)) cH x)
def aD(d:aj)(x:ae):aj:=b6 d ((ct d x).getD zI) (gM (bJ d ((ct d x).getD zI)) x)
theorem Y0(hG:HG G)(d:aj)(c:o8)(x:ae)(hs:Sm d):FX G 72 xI ((d,c,x,()),())=some ((bR d c x,()),()):=by
 have hv:=hs.v
 have hr:=nq hs c.1
 refine aw (fn:=Tryz.f72) (hG _ _ rfl) (by kernel_rfl) (by kernel_rfl) ((adi _ _ _).trans ?_)
 refine aa (Cc (hG _ _ rfl) d c.1 (by omega)) ?_
 rw [show (oF zV (bm d c.1)).1=(bm d c.1).getD zV from jM _ _]
 refine aa (YU hG (bJ d c.1) c.2 x (by omega)) ?_
 exact aa (U6 hG d c.1 (lB (bJ d c.1) c.2 x) hs) rfl
theorem Y1(hG:HG G)(d:aj)(cH x:ae)(hs:Sm d):FX G 76 F4 ((d,cH,x,()),())=some ((aF d cH x,()),()):=by
 have hv:=hs.v
 have hr:=nq hs ((ct d cH).getD zI)
 refine aw (fn:=Tryz.f76) (hG _ _ rfl) (by kernel_rfl) (by kernel_rfl) ((adn _ _ _).trans ?_)
 refine aa (GL hG d cH (by omega) (fun w hw=>by have:=hs.r w hw;omega)) ?_
 rw [show (oF zI (ct d cH)).1=(ct d cH).getD zI from jM _ _]
 refine aa (Cc (hG _ _ rfl) d ((ct d cH).getD zI) (by omega)) ?_
 rw [show (oF zV (bm d ((ct d cH).getD zI))).1=(bm d ((ct d cH).getD zI)).getD zV from jM _ _]
 refine aa (YV hG (bJ d ((ct d cH).getD zI)) cH x (by omega)) ?_
 exact aa (U6 hG d ((ct d cH).getD zI) (jg (bJ d ((ct d cH).getD zI)) cH x) hs) rfl
theorem Y2(hG:HG G)(d:aj)(x:ae)(hs:Sm d):FX G 75 LI ((d,x,()),())=some ((aD d x,()),()):=by
 have hv:=hs.v
 have hr:=nq hs ((ct d x).getD zI)
 refine aw (fn:=Tryz.f75) (hG _ _ rfl) (by kernel_rfl) (by kernel_rfl) ((adm _ _ _).trans ?_)
 refine aa (GL hG d x (by omega) (fun w hw=>by have:=hs.r w hw;omega)) ?_
 rw [show (oF zI (ct d x)).1=(ct d x).getD zI from jM _ _]
 refine aa (Cc (hG _ _ rfl) d ((ct d x).getD zI) (by omega)) ?_
 rw [show (oF zV (bm d ((ct d x).getD zI))).1=(bm d ((ct d x).getD zI)).getD zV from jM _ _]
 refine aa (YT hG (bJ d ((ct d x).getD zI)) x (by omega)) ?_
 exact aa (U6 hG d ((ct d x).getD zI) (gM (bJ d ((ct d x).getD zI)) x) hs) rfl
def iV(row:List ae)(x:ae):ae:=(dw row x (row.length - 1)).getD zD
theorem yw(o:Option ae):(GI o).1=o.getD zD:=by cases o<;>rfl
def c6(d:aj)(x:ae):ae :=
 let row:=bJ d ((ct d x).getD zI)
 let y:=iV row x
 let z:=if y.1=x.1 then iV row y else y
 if z.1=x.1 then zD else z
theorem Y3(hG:HG G)(d:aj)(x:ae)(hs:Sm d):FX G 74 LH ((d,x,()),())=some ((c6 d x,()),()):=by
 have hv:=hs.v
 have hr:=nq hs ((ct d x).getD zI)
 refine aw (fn:=Tryz.f74) (hG _ _ rfl) (by kernel_rfl) (by kernel_rfl) ((adl _ _ _).trans ?_)
 refine aa (GL hG d x (by omega) (fun w hw=>by have:=hs.r w hw;omega)) ?_
 rw [show (oF zI (ct d x)).1=(ct d x).getD zI from jM _ _]
 refine aa (Cc (hG _ _ rfl) d ((ct d x).getD zI) (by omega)) ?_
 rw [show (oF zV (bm d ((ct d x).getD zI))).1=(bm d ((ct d x).getD zI)).getD zV from jM _ _]
 refine aa (YR hG (bJ d ((ct d x).getD zI)) x (by omega)) ?_
 rw [show (GI (dw (bJ d ((ct d x).getD zI)) x ((bJ d ((ct d x).getD zI)).length - 1))).1=iV (bJ d ((ct d x).getD zI)) x from yw _]
 unfold c6
 obtain ⟨y,hy⟩:∃y,y=iV (bJ d ((ct d x).getD zI)) x:=⟨_,rfl⟩
 simp only [←hy,iZ]
 by_cases h1:y.1=x.1
 ·have d1:=decide_eq_true h1
  rw [if_pos h1]
  simp only [d1]
  refine aa (YR hG (bJ d ((ct d x).getD zI)) y (by omega)) ?_
  rw [show (GI (dw (bJ d ((ct d x).getD zI)) y ((bJ d ((ct d x).getD zI)).length - 1))).1=iV (bJ d ((ct d x).getD zI)) y from yw _]
  by_cases h2:(iV (bJ d ((ct d x).getD zI)) y).1=x.1
  ·have d2:=decide_eq_true h2
   rw [if_pos h2]
   simp only [d2];rfl
  ·have d2:=decide_eq_false h2
   rw [if_neg h2]
   simp only [d2];rfl
 ·have d1:=decide_eq_false h1
  rw [if_neg h1,if_neg h1]
  simp only [d1];rfl
def fN(l:List an)(d:ae):Option ae:=(l.find? fun g=>decide (g.1=d)).map (·.2)
theorem TI(hG:G 101 rY=none)(l:List an)(d:ae)(hl:l.length≤100000000):FX G 101 rY ((l,d,()),())=some (oF zD (fN l d),()):=by
 refine aw (fn:=Tryz.f101) hG (by kernel_rfl) (by kernel_rfl) ((XI _ _ _).trans ?_)
 have key:=bT l (fun i (_:Unit)=>LX G 101 rY Tryz.f101 uo (aM Tryz.prog 101 0) ((l,(i,())),(((d,()),(((((0:Int),(0:Int)),(0:Int)),()),())),()))) (fun (r:List an) (_:Unit)=>(oF zD (fN r d),())) (fun _ _=>True)
  (fun s _=>by
   refine ar (j:=0) (by kernel_rfl) ((JZ _ _ _).trans ?_)
   simp only [dd,cond_false];rfl)
  (fun i y r s hi hx hr _ ih=>by
   refine ar (j:=0) (by kernel_rfl) ((JZ _ _ _).trans ?_)
   simp only [aT hi,az hx,Option.bind_some,j6,aH hi (show l.length≤1073741824 by omega)]
   by_cases he:y.1=d
   ·simp only [he,decide_true,fN,List.find?_cons];rfl
   ·simp only [he,decide_false,fN,List.find?_cons];exact ih () trivial)
  () trivial
 exact key
theorem ad5(hG:G 53 Ed=none)(a b:List an)(ha:a.length≤100000000):FX G 53 Ed ((a,b,()),())=some ((decide (a=b),()),()):=by
 refine aw (fn:=Tryz.f53) hG (by kernel_rfl) (by kernel_rfl) ((acZ _ _ _).trans ?_)
 by_cases hl:a.length=b.length
 case neg =>
  have h1:((((a.length:Nat):Int)) != ((b.length:Nat):Int))=true:=by simp;omega
  have h2:¬a=b:=fun e=>hl (by rw [e])
  simp only [h1,h2,decide_false]
  rfl
 have h1:((((a.length:Nat):Int)) != ((b.length:Nat):Int))=false:=by simp [hl]
 simp only [h1]
 have BJ:(a.zip b).length=a.length:=by simp [hl]
 have key:=bT (a.zip b) (fun i (_:Unit)=>LX G 53 Ed Tryz.f53 Ax (aM Tryz.prog 53 0) ((a,(b,(i,()))),((),()))) (fun r _=>((r.all (fun p=>decide (p.1=p.2)),()),())) (fun _ _=>True)
  (fun s _=>by
   refine ar (j:=0) (by kernel_rfl) ((OE _ _ _).trans ?_)
   rw [BJ]
   simp only [dd];rfl)
  (fun i x r s hi hx hr _ ih=>by
   rw [BJ] at hi
   obtain ⟨h3,h4⟩:=yv hx
   refine ar (j:=0) (by kernel_rfl) ((OE _ _ _).trans ?_)
   simp only [aT hi,az h3,az h4,Option.bind_some,j6,aH hi (show a.length≤1073741824 by omega)]
   by_cases he:x.1=x.2
   ·simp only [he,decide_true,Bool.and_self,Bool.not_true,List.all_cons,Bool.true_and];exact ih () trivial
   ·have h9:(decide (x.1.1=x.2.1)&&decide (x.1.2=x.2.2))=false:=by
     rw [Bool.eq_false_iff];intro h;simp at h;exact he (Prod.ext h.1 h.2)
    simp only [he,h9,decide_false,Bool.not_false,List.all_cons,Bool.false_and];rfl)
  () trivial
 rw [uJ a b hl] at key
 exact key
theorem ad6(hG:HG G)(a b:aj)(hs:Sm a):FX G 27 z8 ((a,b,()),())=some ((decide (a=b),()),()):=by
 have hv:=hs.v;have he:=hs.e
 refine aw (fn:=Tryz.f27) (hG _ _ rfl) (by kernel_rfl) (by kernel_rfl) ((acF _ _ _).trans ?_)
 by_cases hl:a.1.length=b.1.length
 case neg =>
  have h1:((((a.1.length:Nat):Int)) != ((b.1.length:Nat):Int))=true:=by simp;omega
  have h2:¬a=b:=fun e=>hl (by rw [e])
  simp only [h1,h2,decide_false]
  rfl
 have h1:((((a.1.length:Nat):Int)) != ((b.1.length:Nat):Int))=false:=by simp [hl]
 simp only [h1]
 by_cases rM:a.2.length=b.2.length
 case neg =>
  have h1:((((a.2.length:Nat):Int)) != ((b.2.length:Nat):Int))=true:=by simp;omega
  have h2:¬a=b:=fun e=>rM (by rw [e])
  simp only [h1,h2,decide_false]
  rfl
 have h2:((((a.2.length:Nat):Int)) != ((b.2.length:Nat):Int))=false:=by simp [rM]
 simp only [h2]
 have BJ:(a.1.zip b.1).length=a.1.length:=by simp [hl]
 have Y4:(a.2.zip b.2).length=a.2.length:=by simp [rM]
 have LV:=bT (a.2.zip b.2) (fun i (_:Unit)=>LX G 27 z8 Tryz.f27 As (aM Tryz.prog 27 1) ((i,()),(((a,()),((b,()),())),()))) (fun r _=>((r.all (fun p=>decide (p.1=p.2)),()),())) (fun _ _=>True)
  (fun s _=>by
   refine ar (j:=1) (by kernel_rfl) ((On _ _ _).trans ?_)
   rw [Y4]
   simp only [dd];rfl)
  (fun i x r s hi hx hr _ ih=>by
   rw [Y4] at hi
   obtain ⟨h3,h4⟩:=yv hx
   refine ar (j:=1) (by kernel_rfl) ((On _ _ _).trans ?_)
   simp only [aT hi,az h3,az h4,Option.bind_some,iZ,UZ,aH hi (show a.2.length≤1073741824 by omega)]
   by_cases he:x.1=x.2
   ·simp only [he,decide_true,beq_self_eq_true,Bool.and_self,Bool.not_true,List.all_cons,Bool.true_and];exact ih () trivial
   ·have h9:(decide (x.1.1=x.2.1)&&(decide (x.1.2.1=x.2.2.1)&&(x.1.2.2==x.2.2.2)))=false:=by
     rw [Bool.eq_false_iff];intro h;simp at h;exact he (Prod.ext h.1 (Prod.ext h.2.1 h.2.2))
    simp only [he,h9,decide_false,Bool.not_false,List.all_cons,Bool.false_and];rfl)
  () trivial
 rw [uJ a.2 b.2 rM] at LV
 have key:=bT (a.1.zip b.1) (fun i (_:Unit)=>LX G 27 z8 Tryz.f27 Ar (aM Tryz.prog 27 0) ((i,()),(((a,()),((b,()),())),()))) (fun r _=>((r.all (fun p=>decide (p.1=p.2))&&decide (a.2=b.2),()),())) (fun _ _=>True)
  (fun s _=>by
   refine ar (j:=0) (by kernel_rfl) ((Om _ _ _).trans ?_)
   rw [BJ]
   simp only [dd,List.all_nil,Bool.true_and];exact LV)
  (fun i x r s hi hx hr _ ih=>by
   rw [BJ] at hi
   obtain ⟨h3,h4⟩:=yv hx
   refine ar (j:=0) (by kernel_rfl) ((Om _ _ _).trans ?_)
   simp only [aT hi,az h3,az h4,Option.bind_some,iZ,UZ,aH hi (show a.1.length≤1073741824 by omega)]
   refine aa (YQ hG x.1.2.1 x.2.2.1 (by have:=hs.r x.1 (List.mem_of_getElem? h3);omega)) ?_
   by_cases e1:x.1.1=x.2.1
   case neg =>
    have he:¬x.1=x.2:=fun e=>e1 (by rw [e])
    have d1:=decide_eq_false e1
    simp only [d1,he,decide_false,List.all_cons,Bool.false_and];rfl
   have d1:=decide_eq_true e1
   by_cases e2:x.1.2.2.1=x.2.2.2.1
   case neg =>
    have he:¬x.1=x.2:=fun e=>e2 (by rw [e])
    have d2:=decide_eq_false e2
    simp only [d1,d2,he,decide_false,List.all_cons,Bool.false_and];rfl
   have d2:=decide_eq_true e2
   by_cases e3:x.1.2.2.2=x.2.2.2.2
   case neg =>
    have he:¬x.1=x.2:=fun e=>e3 (by rw [e])
    have h8:(x.1.2.2.2 != x.2.2.2.2)=true:=by simp [e3]
    simp only [d1,d2,h8,he,decide_false,List.all_cons,Bool.false_and];rfl
   have h8:(x.1.2.2.2 != x.2.2.2.2)=false:=by simp [e3]
   by_cases e4:x.1.2.1=x.2.2.1
   case neg =>
    have he:¬x.1=x.2:=fun e=>e4 (by rw [e])
    have d4:=decide_eq_false e4
    simp only [d1,d2,h8,d4,he,decide_false,List.all_cons,Bool.false_and];rfl
   have d4:=decide_eq_true e4
   have he:decide (x.1=x.2)=true:=decide_eq_true (Prod.ext e1 (Prod.ext e4 (Prod.ext e2 e3)))
   simp only [d1,d2,h8,d4,he,List.all_cons,Bool.true_and];exact ih () trivial)
  () trivial
 rw [uJ a.1 b.1 hl] at key
 have iY:(decide (a.1=b.1)&&decide (a.2=b.2))=decide (a=b):=by
  rw [Bool.eq_iff_iff];simp [Prod.ext_iff]
 exact key.trans (congrArg (fun b:Bool=>some ((b,()),())) iY)
theorem ad7(hG:HG G)(a b:StateT)(hs:Sm a.1)(hg:a.2.length≤50000000):FX G 16 N1 ((a,b,()),())=some ((decide (a=b),()),()):=by
 refine aw (fn:=Tryz.f16) (hG _ _ rfl) (by kernel_rfl) (by kernel_rfl) ((acw _ _ _).trans ?_)
 refine aa (ad6 hG a.1 b.1 hs) ?_
 refine aa (ad5 (hG _ _ rfl) a.2 b.2 (by omega)) ?_
 have iY:(decide (a.1=b.1)&&decide (a.2=b.2))=decide (a=b):=by
  rw [Bool.eq_iff_iff];simp [Prod.ext_iff]
 rw [←iY]
 by_cases h:a.1=b.1
 ·simp only [h,decide_true,Bool.true_and];rfl
 ·simp only [h,decide_false,Bool.false_and];rfl
end Go.Vs
namespace Go.Vs
open Go.Proofs
variable {G:(f:FuncId)→(g:aL)→Option (g.A→Option g.B)}
def mF(g:an)(l:List an):List an:=l.filter fun q=>decide (q.1≠g.1)
def kF(g:an):List an→List an
 | []=>[g]
 | e::r=>if lA g.1 e.1≤0 then g::mF g (e::r) else if e.1≠g.1 then e::kF g r else kF g r
def bK(l:List an)(g:an):List an:=if (fN l g.1).isSome=false∧400≤l.length then l else kF g l
def LW(g:an)(put:Bool)(r:List an):List an:=if put then mF g r else kF g r
theorem Y5(hG:HG G)(l:List an)(g:an)(hl:l.length≤50000000) :
  LX G 73 xJ Tryz.f73 kj (aM Tryz.prog 73 0) ((l,(false,((0:Int),()))),(((g,()),()),(([]:List an),())))=some ((kF g l,()),()):=by
 have key:=bT l (fun i (s:Bool×List an)=>LX G 73 xJ Tryz.f73 kj (aM Tryz.prog 73 0) ((l,(s.1,(i,()))),(((g,()),()),(s.2,()))))
  (fun (r:List an) (s:Bool×List an)=>((s.2++LW g s.1 r,()),())) (fun n s=>s.2.length+n≤l.length+(if s.1 then 1 else 0))
  (fun s hs=>by
   obtain ⟨put,s⟩:=s
   refine ar (j:=0) (by kernel_rfl) ((OR _ _ _).trans ?_)
   have h7:aO s.length [g].length=true:=fits (by simp at hs ⊢;split at hs<;>omega)
   cases put
   ·simp only [dd,h7,LW,kF];rfl
   ·simp only [dd,LW,if_true,mF,List.filter_nil,List.append_nil];rfl)
  (fun i y r s hi hx Cd hs ih=>by
   obtain ⟨put,s⟩:=s
   refine ar (j:=0) (by kernel_rfl) ((OR _ _ _).trans ?_)
   have h6:aO s.length [y].length=true:=fits (by simp at hs ⊢;split at hs<;>omega)
   have hw:=aH hi (show l.length≤1073741824 by omega)
   cases put
   ·have h7:aO s.length [g].length=true:=fits (by simp at hs ⊢;omega)
    have h8:aO (s++[g]).length [y].length=true:=fits (by simp at hs ⊢;omega)
    simp only [aT hi,az hx,Option.bind_some,hw]
    refine aa (R7 hG g.1 y.1) ?_
    by_cases ho:lA g.1 y.1≤0
    ·have d0:=decide_eq_true ho
     by_cases hy:y.1=g.1
     ·have d1:=decide_eq_true hy
      have:=ih (true,s++[g]) (by simp at hs ⊢;omega)
      simp only [d0,h7,j6,d1,LW,kF,ho,if_true,Bool.false_eq_true,if_false]
      refine this.trans (congrArg (fun l:List an=>some ((l,()),())) ?_)
      simp [LW,mF,hy]
     ·have d1:=decide_eq_false hy
      have:=ih (true,(s++[g])++[y]) (by simp at hs ⊢;omega)
      simp only [d0,h7,h8,j6,d1,LW,kF,ho,if_true,Bool.false_eq_true,if_false]
      refine this.trans (congrArg (fun l:List an=>some ((l,()),())) ?_)
      simp [LW,mF,hy]
    ·have d0:=decide_eq_false ho
     by_cases hy:y.1=g.1
     ·have d1:=decide_eq_true hy
      have:=ih (false,s) (by simp at hs ⊢;omega)
      simp only [d0,j6,d1,LW,kF,ho,Bool.false_eq_true,if_false]
      refine this.trans (congrArg (fun l:List an=>some ((l,()),())) ?_)
      simp [LW,hy]
     ·have d1:=decide_eq_false hy
      have:=ih (false,s++[y]) (by simp at hs ⊢;omega)
      simp only [d0,h6,j6,d1,LW,kF,ho,Bool.false_eq_true,if_false]
      refine this.trans (congrArg (fun l:List an=>some ((l,()),())) ?_)
      simp [LW,hy]
   ·by_cases hy:y.1=g.1
    ·have d1:=decide_eq_true hy
     have:=ih (true,s) (by simp at hs ⊢;omega)
     simp only [aT hi,az hx,Option.bind_some,hw,j6,d1]
     refine this.trans (congrArg (fun l:List an=>some ((l,()),())) ?_)
     simp [LW,mF,hy]
    ·have d1:=decide_eq_false hy
     have:=ih (true,s++[y]) (by simp at hs ⊢;omega)
     simp only [aT hi,az hx,Option.bind_some,hw,j6,d1,h6]
     refine this.trans (congrArg (fun l:List an=>some ((l,()),())) ?_)
     simp [LW,mF,hy])
  (false,[]) (by simp)
 exact key
theorem Sa(hG:HG G)(l:List an)(g:an)(hl:l.length≤50000000):FX G 73 xJ ((l,g,()),())=some ((bK l g,()),()):=by
 refine aw (fn:=Tryz.f73) (hG _ _ rfl) (by kernel_rfl) (by kernel_rfl) ((adk _ _ _).trans ?_)
 refine aa (TI (hG _ _ rfl) l g.1 (by omega)) ?_
 rw [show (oF zD (fN l g.1)).2.1=(fN l g.1).isSome from fW _ _]
 unfold bK
 cases hf:(fN l g.1).isSome
 ·by_cases hn:400≤l.length
  ·have h1:decide (((l.length:Nat):Int)≥400)=true:=by simp;omega
   rw [if_pos ⟨rfl,hn⟩]
   simp only [h1];rfl
  ·have h1:decide (((l.length:Nat):Int)≥400)=false:=by simp;omega
   rw [if_neg (by simp [hn])]
   simp only [h1];exact Y5 hG l g hl
 ·rw [if_neg (by simp)]
  exact Y5 hG l g hl
def res(d:aj)(gn:List an):Nat→ae→ae
 | 0,_=>zD
 | n+1,x=>if (ct d x).isSome then x else match fN gn x with
  | none=>zD
  | some y=>res d gn n y
def resolve(s:StateT)(x:ae):ae:=res s.1 s.2 (s.2.length+1) x
theorem ad8(hG:HG G)(s:StateT)(x:ae)(hs:Sm s.1)(hg:s.2.length≤50000000):FX G 98 F8 ((s,x,()),())=some ((resolve s x,()),()):=by
 refine aw (fn:=Tryz.f98) (hG _ _ rfl) (by kernel_rfl) (by kernel_rfl) ((adF _ _ _).trans ?_)
 have hv:=hs.v
 have loop:∀(n i:Nat) (y:ae),i+n=s.2.length+1→LX G 98 F8 Tryz.f98 AG (aM Tryz.prog 98 0) (((i:Int),()),((s,()),((y,()),(((((0:Int),(0:Int)),(0:Int)),()),()))),())=some ((res s.1 s.2 n y,()),()):=by
  intro n
  induction n with
  | zero =>
   intro i y hi
   refine ar (j:=0) (by kernel_rfl) ((O4 _ _ _).trans ?_)
   have h1:decide ((i:Int)≤((s.2.length:Nat):Int))=false:=by simp;omega
   simp only [h1];rfl
  | succ n ih =>
   intro i y hi
   refine ar (j:=0) (by kernel_rfl) ((O4 _ _ _).trans ?_)
   have h1:decide ((i:Int)≤((s.2.length:Nat):Int))=true:=by simp;omega
   have hw:IntKind.wrap .i64 ((i:Int)+1)=((i+1:Nat):Int):=by rw [wrap_small (by omega) (by omega)];rfl
   simp only [h1,hw]
   refine aa (GL hG s.1 y (by omega) (fun w hw=>by have:=hs.r w hw;omega)) ?_
   rw [show (oF zI (ct s.1 y)).2.1=(ct s.1 y).isSome from fW _ _,res]
   cases ha:(ct s.1 y).isSome
   ·simp only [Bool.false_eq_true,if_false]
    refine aa (TI (hG _ _ rfl) s.2 y (by omega)) ?_
    cases hf:fN s.2 y with
    | none=>rfl
    | some z=>exact ih (i+1) z (by omega)
   ·rfl
 exact loop (s.2.length+1) 0 x (by omega)
def zC:o8:=(zI,zD)
def uL(s:StateT)(c:o8)(v:ai):ae:=if resolve s c.2∈v.2.1 then resolve s c.2 else zD
def aZ(s:StateT)(c:o8):o8×(Int×Unit):=match bm s.1 c.1 with
 | none=>(zC,(13,()))
 | some v=>((c.1,uL s c v),(0,()))
theorem Y6(hG:HG G)(s:StateT)(c:o8)(hs:Sm s.1)(hg:s.2.length≤50000000):FX G 70 LG ((s,c,()),())=some (aZ s c,()):=by
 have hv:=hs.v
 refine aw (fn:=Tryz.f70) (hG _ _ rfl) (by kernel_rfl) (by kernel_rfl) ((adg _ _ _).trans ?_)
 refine aa (Cc (hG _ _ rfl) s.1 c.1 (by omega)) ?_
 unfold aZ
 cases hf:bm s.1 c.1 with
 | none=>rfl
 | some v =>
  have hr:v.2.1.length≤50000000:=hs.r v (List.mem_of_find?_eq_some hf)
  refine aa (ad8 hG s c.2 hs hg) ?_
  refine aa (Ew (hG _ _ rfl) v.2.1 (resolve s c.2) (by omega)) ?_
  by_cases hm:resolve s c.2∈v.2.1
  ·have h1:decide (idx (resolve s c.2) v.2.1 0<0)=false:=decide_eq_false (fun h=>dY.1 h hm)
   have h2:uL s c v=resolve s c.2:=if_pos hm
   simp only [h1]
   exact congrArg (fun z:ae=>some (((c.1,z),((0:Int),())),())) h2.symm
  ·have h1:decide (idx (resolve s c.2) v.2.1 0<0)=true:=decide_eq_true (dY.2 hm)
   have h2:uL s c v=zD:=if_neg hm
   simp only [h1]
   exact congrArg (fun z:ae=>some (((c.1,z),((0:Int),())),())) h2.symm
def au(x:ae):ae:=(x.1,IntKind.wrap .i64 (1 - x.2))
def nr(d:aj)(x:ae):Option ae:=match ct d x with
 | none=>none
 | some a=>dw (bJ d a) x 1
theorem ad9(hG:HG G)(d:aj)(x:ae)(hs:Sm d):FX G 78 N9 ((d,x,()),())=some (GI (nr d x),()):=by
 have hv:=hs.v
 refine aw (fn:=Tryz.f78) (hG _ _ rfl) (by kernel_rfl) (by kernel_rfl) ((adp _ _ _).trans ?_)
 refine aa (GL hG d x (by omega) (fun w hw=>by have:=hs.r w hw;omega)) ?_
 unfold nr
 cases ha:ct d x with
 | none=>rfl
 | some a =>
  have hr:=nq hs a
  refine aa (Cc (hG _ _ rfl) d a (by omega)) ?_
  rw [show (oF zV (bm d a)).1=(bm d a).getD zV from jM _ _]
  exact aa (YS hG (bJ d a) x (by omega)) rfl
def GM(d:aj)(x:ae):Option ae:=if (ct d x).isSome then nr d (au x) else none
theorem Y7(hG:HG G)(d:aj)(x:ae)(hs:Sm d):FX G 54 LC ((d,x,()),())=some (GI (GM d x),()):=by
 have hv:=hs.v
 refine aw (fn:=Tryz.f54) (hG _ _ rfl) (by kernel_rfl) (by kernel_rfl) ((ac0 _ _ _).trans ?_)
 refine aa (GL hG d x (by omega) (fun w hw=>by have:=hs.r w hw;omega)) ?_
 rw [show (oF zI (ct d x)).2.1=(ct d x).isSome from fW _ _]
 unfold GM
 cases ha:(ct d x).isSome
 ·rfl
 ·refine aa (U3 (hG _ _ rfl) x) ?_
  exact aa (ad9 hG d (au x) hs) rfl
def qn(d:aj)(x:ae):Nat→ae→List ae→List ae
 | 0,_,out=>out
 | n+1,y,out=>if y=x then out else qn d x n ((GM d y).getD zD) (out++[y])
def bf(d:aj)(x:ae):List ae:=match GM d x with
 | none=>[]
 | some y=>qn d x 81 y [x]
theorem aea(hG:HG G)(d:aj)(x:ae)(hs:Sm d):FX G 22 FU ((d,x,()),())=some ((bf d x,()),()):=by
 refine aw (fn:=Tryz.f22) (hG _ _ rfl) (by kernel_rfl) (by kernel_rfl) ((acB _ _ _).trans ?_)
 refine aa (Y7 hG d x hs) ?_
 unfold bf
 cases hp:GM d x with
 | none=>rfl
 | some y =>
  have h5:aO ([]:List ae).length [x].length=true:=fits (by simp)
  have loop:∀(n:Nat) (y:ae) (out:List ae),out.length+n=82→LX G 22 FU Tryz.f22 Ap (aM Tryz.prog 22 0) ((),((d,()),((x,()),((y,()),()))),(out,()))=some ((qn d x n y out,()),()):=by
   intro n
   induction n with
   | zero =>
    intro y out ho
    refine ar (j:=0) (by kernel_rfl) ((Oj _ _ _).trans ?_)
    have h1:decide (((out.length:Nat):Int)<82)=false:=by simp;omega
    simp only [j6,h1]
    by_cases hy:y=x
    ·have d1:=decide_eq_true hy
     simp only [d1];rfl
    ·have d1:=decide_eq_false hy
     simp only [d1];rfl
   | succ n ih =>
    intro y out ho
    refine ar (j:=0) (by kernel_rfl) ((Oj _ _ _).trans ?_)
    have h1:decide (((out.length:Nat):Int)<82)=true:=by simp;omega
    have h6:aO out.length [y].length=true:=fits (by simp;omega)
    simp only [j6,h1,h6]
    rw [qn]
    by_cases hy:y=x
    ·have d1:=decide_eq_true hy
     rw [if_pos hy]
     simp only [d1];rfl
    ·have d1:=decide_eq_false hy
     rw [if_neg hy]
     simp only [d1]
     refine aa (Y7 hG d y hs) ?_
     rw [show (GI (GM d y)).1=(GM d y).getD zD from yw _]
     exact ih ((GM d y).getD zD) (out++[y]) (by simp;omega)
  exact loop 81 y [x] (by simp)
theorem CZ(d:aj)(x:ae):∀(n:Nat) (y:ae) (out:List ae),(qn d x n y out).length≤out.length+n
 | 0,_,out=>Nat.le_refl _
 | n+1,y,out=>by
  unfold qn
  split
  ·omega
  ·have:=CZ d x n ((GM d y).getD zD) (out++[y]);simp at this;omega
theorem C0(d:aj)(x:ae):(bf d x).length≤82:=by
 unfold bf
 cases GM d x with
 | none=>simp
 | some y=>have:=CZ d x 81 y [x];simpa using this
def dZ:List ah→List ae
 | []=>[]
 | e::r=>(e.1,0)::(e.1,1)::dZ r
theorem lC:∀l:List ah,(dZ l).length=2 * l.length
 | []=>rfl
 | e::r=>by simp [dZ,lC r];omega
theorem aeb(hG:G 59 Ef=none)(d:aj)(hs:Sm d):FX G 59 Ef ((d,()),())=some ((dZ d.2,()),()):=by
 have he:=hs.e
 refine aw (fn:=Tryz.f59) hG (by kernel_rfl) (by kernel_rfl) ((ac5 _ _ _).trans ?_)
 have key:=bT d.2 (fun i (s:List ae)=>LX G 59 Ef Tryz.f59 AB (aM Tryz.prog 59 0) ((i,()),(((d,()),()),(s,())))) (fun (r:List ah) (s:List ae)=>((s++dZ r,()),())) (fun n s=>s.length+2 * n≤2 * d.2.length)
  (fun s _=>by
   refine ar (j:=0) (by kernel_rfl) ((OM _ _ _).trans ?_)
   simp only [dd,dZ,List.append_nil];rfl)
  (fun i y r s hi hx Cd hs ih=>by
   refine ar (j:=0) (by kernel_rfl) ((OM _ _ _).trans ?_)
   have h6:aO s.length [((y.1,(0:Int)):ae),(y.1,(1:Int))].length=true:=fits (by simp;omega)
   simp only [aT hi,az hx,Option.bind_some,h6,aH hi (show d.2.length≤1073741824 by omega)]
   have:=ih (s++[(y.1,0),(y.1,1)]) (by simp;omega)
   refine this.trans (congrArg (fun l:List ae=>some ((l,()),())) ?_)
   simp [dZ])
  [] (by simp)
 exact key
def gS(d:aj):List ae→List (List ae)→List ae→List (List ae)
 | [],out,_=>out
 | x::r,out,told=>if x∈told then gS d r out told else gS d r (out++[bf d x]) (told++bf d x)
def dF(d:aj):List (List ae):=gS d (dZ d.2) [] []
theorem aec(hG:HG G)(d:aj)(hs:Sm d)(he:d.2.length≤5000000):FX G 31 FV ((d,()),())=some ((dF d,()),()):=by
 refine aw (fn:=Tryz.f31) (hG _ _ rfl) (by kernel_rfl) (by kernel_rfl) ((acJ _ _ _).trans ?_)
 refine aa (aeb (hG _ _ rfl) d hs) ?_
 have xi:=lC d.2
 unfold dF
 generalize dZ d.2=ds at *
 have key:=bT ds (fun i (s:List (List ae)×List ae)=>LX G 31 FV Tryz.f31 vG (aM Tryz.prog 31 0) ((i,()),(((d,()),()),(s.1,(s.2,(ds,())))))) (fun (r:List ae) (s:List (List ae)×List ae)=>((gS d r s.1 s.2,()),()))
  (fun n s=>s.1.length+n≤ds.length∧s.2.length+82 * n≤82 * ds.length)
  (fun s _=>by
   refine ar (j:=0) (by kernel_rfl) ((Oq _ _ _).trans ?_)
   simp only [dd];rfl)
  (fun i y r s hi hx Cd hs' ih=>by
   obtain ⟨out,told⟩:=s
   obtain ⟨b1,b2⟩:=hs'
   simp only at b1 b2
   refine ar (j:=0) (by kernel_rfl) ((Oq _ _ _).trans ?_)
   simp only [aT hi,eL,Bool.and_self,Int.toNat_natCast,hx,Option.bind_some,aH hi (show ds.length≤1073741824 by omega)]
   refine aa (Ew (hG _ _ rfl) told y (by omega)) ?_
   rw [gS]
   by_cases hm:y∈told
   ·have d1:decide (idx y told 0≥0)=true:=decide_eq_true (by obtain ⟨k,h,_⟩:=eY hm;omega)
    rw [if_pos hm]
    simp only [d1]
    exact ih (out,told) ⟨by simp only;omega,by simp only;omega⟩
   ·have d1:decide (idx y told 0≥0)=false:=decide_eq_false (by have:=dY.2 hm;omega)
    rw [if_neg hm]
    simp only [d1]
    refine aa (aea hG d y hs) ?_
    have htl:=C0 d y
    have h6:aO out.length [bf d y].length=true:=fits (by simp;omega)
    have h7:aO told.length (bf d y).length=true:=fits (by omega)
    simp only [h6,h7]
    exact ih (out++[bf d y],told++bf d y) ⟨by simp;omega,by simp;omega⟩)
  ([],[]) ⟨by simp,by simp⟩
 exact key
end Go.Vs
