/- What the document's reference computes, written plainly, the first part. -/
import Derived.Test.YtpldhjjpeldkaaaGreatEngineD
import Derived.Test.YtpldhjjpeldkaaaGreatNormalA
import Derived.Test.YtpldhjjpeldkaaaGreatNormalB
import Derived.Test.YtpldhjjpeldkaaaGreatNormalC
set_option linter.unusedVariables false
set_option linter.unusedSimpArgs false
namespace Go.Vs
open Go.Proofs
variable {G:(f:FuncId)→(g:aJ)→Option (g.A→Option g.B)}
theorem aa{α β:Type}{o:Option α}{f:α→Option β}{a:α}{r:Option β}(h:o=some a)(k:f a=r):o.bind f=r:=by rw [h];exact k
theorem aK{α:Type}{l:List α}{i:Nat}{x:α}(h:l[i]? = some x):aZ l (i:Int)=some x:=by
 have hl:=(List.getElem?_eq_some_iff.1 h).1
 simp [aZ,h]
theorem wrap_small{n:Int}(h0 : -9223372036854775808≤n)(h1:n<9223372036854775808):IntKind.wrap .i64 n=n:=by
 unfold IntKind.wrap
 simp [IntKind.bits,IntKind.signed]
 omega
theorem aI{i n:Nat}(h:i<n)(hn:n≤1073741824):IntKind.wrap .i64 ((i:Int)+1)=((i+1:Nat):Int):=by
 rw [wrap_small (by omega) (by omega)];rfl
theorem aT{i n:Nat}(h:i<n):decide ((i:Int)<((n:Nat):Int))=true:=by simpa using h
theorem dd(n:Nat):decide (((n:Nat):Int)<((n:Nat):Int))=false:=by simp
theorem fits{n m:Nat}(h:n+m≤1073741824):aM n m=true:=decide_eq_true h
theorem jc(a b:ID):((a.1==b.1)&&(a.2==b.2))=decide (a=b):=by
 obtain ⟨a1,a2⟩:=a;obtain ⟨b1,b2⟩:=b
 rw [Bool.eq_iff_iff];simp
theorem kj(a b:ab):(((a.1.1==b.1.1)&&(a.1.2==b.1.2))&&(a.2==b.2))=decide (a=b):=by
 obtain ⟨⟨a1,a2⟩,a3⟩:=a;obtain ⟨⟨b1,b2⟩,b3⟩:=b
 rw [Bool.eq_iff_iff];simp [and_assoc]
theorem UC(a b:ByteArray):(a==b)=decide (a=b):=by
 obtain ⟨a⟩:=a;obtain ⟨b⟩:=b
 show (a==b)=_
 rw [Bool.eq_iff_iff];simp
theorem bT{α S R:Type}(l:List α)(L:Int→S→Option R)(g:List α→S→R)(inv:Nat→S→Prop)
  (adA:∀s,inv 0 s→L ((l.length:Nat):Int) s=some (g [] s))
  (Yw:∀(i:Nat) (x:α) (r:List α) (s:S),i<l.length→l[i]? = some x→i+r.length+1=l.length→inv (r.length+1) s→(∀s',inv r.length s'→L ((i+1:Nat):Int) s'=some (g r s'))→L (i:Int) s=some (g (x::r) s)) :
  ∀s,inv l.length s→L 0 s=some (g l s):=by
 have key:∀(r p:List α),p++r=l→∀s,inv r.length s→L ((p.length:Nat):Int) s=some (g r s):=by
  intro r
  induction r with
  | nil=>intro p hp s hs;rw [List.append_nil] at hp;subst hp;exact adA s hs
  | cons x r ih =>
   intro p hp s hs
   refine Yw p.length x r s ?_ ?_ ?_ hs (fun s' hs' => ?_)
   ·rw [←hp];simp
   ·rw [←hp];simp
   ·rw [←hp];simp;omega
   ·have:=ih (p++[x]) (by simp [hp]) s' hs';simpa using this
 intro s hs;exact key l [] rfl s hs
def zD:ab:=((0,0),0)
def cU(x:ID):Bool:=decide (1≤x.1∧x.1≤8∧1≤x.2∧x.2≤1048576)
def fz(a b:ID):Bool:=decide (a.1<b.1∨(a.1=b.1∧a.2<b.2))
def qf(a b:ID):Int:=if a=b then 0 else if fz a b then -1 else 1
def ku(a b:ab):Bool:=fz a.1 b.1 || (decide (a.1=b.1)&&decide (a.2<b.2))
def mD(a b:ab):Int:=if a=b then 0 else if ku a b then -1 else 1
def IP(d:ab):Bool:=cU d.1&&decide (d.2=0∨d.2=1)
theorem LH(hG:G 19 zH=none)(x:ID):FX G 19 zH ((x,()),())=some ((cU x,()),()):=by
 refine au (fn:=Tryz.f19) hG (by kernel_rfl) (by kernel_rfl) ((ab8 _ _ _).trans ?_)
 obtain ⟨a,b⟩:=x
 show (cond (decide (a≥1)) (cond (decide (a≤8)) (cond (decide (b≥1)) (some ((decide (b≤1048576),()),())) (some ((false,()),()))) (some ((false,()),()))) (some ((false,()),())):Option ((Bool×Unit)×Unit))=some ((cU (a,b),()),())
 unfold cU
 simp only [cond_eq_ite]
 by_cases h1:(1:Int)≤a<;>by_cases h2:a≤8<;>by_cases h3:(1:Int)≤b<;>simp [h1,h2,h3]
theorem UD(hG:G 23 BO=none)(d:ab):FX G 23 BO ((d,()),())=some (((d.1,IntKind.wrap .i64 (1 - d.2)),()),()) :=
 au hG (by kernel_rfl) (by kernel_rfl) (acd _ _ _)
theorem UE(hG:G 69 FP=none)(a b:ID):FX G 69 FP ((a,b,()),())=some ((qf a b,()),()):=by
 refine au (fn:=Tryz.f69) hG (by kernel_rfl) (by kernel_rfl) ((acP _ _ _).trans ?_)
 obtain ⟨a1,a2⟩:=a
 obtain ⟨b1,b2⟩:=b
 unfold qf fz
 show (cond ((a1==b1)&&(a2==b2)) (some (((0:Int),()),())) (cond (decide (a1<b1)) (some (((-1:Int),()),())) (cond (a1==b1) (cond (decide (a2<b2)) (some (((-1:Int),()),())) (some (((1:Int),()),()))) (some (((1:Int),()),())))):Option ((Int×Unit)×Unit))=some (((if (a1,a2)=(b1,b2) then 0 else if (decide (a1<b1∨(a1=b1∧a2<b2)))=true then -1 else 1:Int),()),())
 by_cases h1:a1=b1<;>by_cases h2:a2=b2<;>by_cases h3:a1<b1<;>by_cases h4:a2<b2<;>first | (exfalso;omega) | (simp only [cond_eq_ite];simp [h1,h2,h3,h4];done) | (subst h1;simp only [cond_eq_ite];simp [h2,h4])
theorem Yx(hG:HG G)(a b:ab):FX G 62 Lq ((a,b,()),())=some ((mD a b,()),()):=by
 refine au (fn:=Tryz.f62) (hG _ _ rfl) (by kernel_rfl) (by kernel_rfl) ((acL _ _ _).trans ?_)
 refine aa (UE (hG _ _ rfl) a.1 b.1) ?_
 obtain ⟨a1,a2⟩:=a
 obtain ⟨b1,b2⟩:=b
 show (cond (qf a1 b1 != 0) (some ((qf a1 b1,()),())) (cond (decide (a2<b2)) (some (((-1:Int),()),())) (cond (decide (a2 > b2)) (some (((1:Int),()),())) (some (((0:Int),()),())))):Option ((Int×Unit)×Unit))=some ((mD (a1,a2) (b1,b2),()),())
 unfold mD ku qf
 simp only [cond_eq_ite]
 by_cases h1:a1=b1
 ·subst h1
  have hl:fz a1 a1=false:=by simp [fz]
  by_cases h2:a2=b2
  ·subst h2;simp
  ·by_cases h3:a2<b2
   ·simp [h2,h3,hl]
   ·have:a2 > b2:=by omega
    simp [h2,h3,hl,this]
 ·by_cases h2:fz a1 b1=true<;>simp [h1,h2]
theorem adC(hG:HG G)(d:ab):FX G 97 NX ((d,()),())=some ((IP d,()),()):=by
 refine au (fn:=Tryz.f97) (hG _ _ rfl) (by kernel_rfl) (by kernel_rfl) ((ada _ _ _).trans ?_)
 refine aa (LH (hG _ _ rfl) d.1) ?_
 obtain ⟨d1,d2⟩:=d
 show (cond (cU d1) (cond (d2==0) (some ((true,()),())) (some (((d2==1),()),()))) (some ((false,()),())):Option ((Bool×Unit)×Unit))=some ((IP (d1,d2),()),())
 unfold IP
 simp only [cond_eq_ite]
 by_cases h1:cU d1=true<;>by_cases h2:d2=0<;>simp [h1,h2]
 rw [Bool.eq_iff_iff];simp
def idx(d:ab):List ab→Int→Int
 | [],_ => -1
 | e::r,i=>if e=d then i else idx d r (i+1)
theorem adD(row:List ab)(d:ab)(hl:row.length≤1073741824):∀(n i:Nat),i+n=row.length→LX G 24 pY Tryz.f24 Aa (aP Tryz.prog 24 0) ((row,((i:Int),())),(((d,()),()),()))=some ((idx d (row.drop i) i,()),()):=by
 intro n
 induction n with
 | zero =>
  intro i hi
  refine ar (j:=0) (by kernel_rfl) ((N4 _ _ _).trans ?_)
  have h1:¬((i:Int)<(row.length:Int)):=by omega
  have h2:row.drop i=[]:=List.drop_eq_nil_of_le (by omega)
  simp only [h1,h2,decide_false,cond_false,idx]
  rfl
 | succ n ih =>
  intro i hi
  refine ar (j:=0) (by kernel_rfl) ((N4 _ _ _).trans ?_)
  have aG:i<row.length:=by omega
  have h1:((i:Int)<(row.length:Int)):=by omega
  have h2:row.drop i=row[i]::row.drop (i+1):=List.drop_eq_getElem_cons aG
  have h3:aZ row (i:Int)=some row[i]:=by simp [aZ,aG]
  have h4:IntKind.wrap .i64 ((i:Int)+1)=((i+1:Nat):Int):=by rw [wrap_small (by omega) (by omega)];rfl
  have h5:=ih (i+1) (by omega)
  rw [h2,idx]
  simp only [h1,decide_true,cond_true,h3,Option.bind_some,h4,kj]
  by_cases he:row[i]=d
  ·rw [if_pos he];simp only [he,decide_true];rfl
  ·rw [if_neg he];simp only [he,decide_false]
   exact h5
theorem Ei(hG:G 24 pY=none)(row:List ab)(d:ab)(hl:row.length≤1073741824):FX G 24 pY ((row,d,()),())=some ((idx d row 0,()),()):=by
 refine au (fn:=Tryz.f24) hG (by kernel_rfl) (by kernel_rfl) ((ace _ _ _).trans ?_)
 exact adD (G:=G) row d hl row.length 0 (by omega)
theorem nj(d:ab):∀(row:List ab) (i:Int),0≤i→(idx d row i = -1∧d∉row)∨(∃k:Nat,idx d row i=i+k∧row[k]? = some d∧d∉row.take k)
 | [],i,_=>.inl ⟨rfl,by simp⟩
 | e::r,i,h=>by
  unfold idx
  by_cases he:e=d
  ·right;exact ⟨0,by simp [he],by simp [he],by simp⟩
  ·rw [if_neg he]
   rcases nj d r (i+1) (by omega) with ⟨h1,h2⟩ | ⟨k,h1,h2,h3⟩
   ·exact .inl ⟨h1,by simp [h2,Ne.symm he]⟩
   ·exact .inr ⟨k+1,by rw [h1];omega,by simpa using h2,by simp [h3,Ne.symm he]⟩
theorem dX{d:ab}{row:List ab}:idx d row 0<0↔d∉row:=by
 rcases nj d row 0 (by omega) with ⟨h1,h2⟩ | ⟨k,h1,h2,_⟩
 ·simp [h1,h2]
 ·have:=List.mem_of_getElem? h2
  simp [this];omega
theorem eW{d:ab}{row:List ab}(h:d∈row):∃k:Nat,idx d row 0=k∧row[k]? = some d∧d∉row.take k:=by
 rcases nj d row 0 (by omega) with ⟨_,h2⟩ | ⟨k,h1,h2,h3⟩
 ·exact absurd h h2
 ·exact ⟨k,by omega,h2,h3⟩
theorem uq{α:Type}[DecidableEq α]:∀(a b:List α),a.length=b.length→(a.zip b).all (fun p=>decide (p.1=p.2))=decide (a=b)
 | [],[],_=>by simp
 | [],_::_,h=>by simp at h
 | _::_,[],h=>by simp at h
 | x::a,y::b,h=>by
  simp only [List.zip_cons_cons,List.all_cons,uq a b (by simpa using h)]
  rw [Bool.eq_iff_iff];simp
theorem xV{α:Type}{a b:List α}{i:Nat}{x:α×α}(h:(a.zip b)[i]? = some x):a[i]? = some x.1∧b[i]? = some x.2:=by
 obtain ⟨x1,x2⟩:=x
 exact List.getElem?_zip_eq_some.1 h
theorem adE(hG:HG G)(a b:List ab)(ha:a.length≤1073741824):FX G 57 FL ((a,b,()),())=some ((decide (a=b),()),()):=by
 refine au (fn:=Tryz.f57) (hG _ _ rfl) (by kernel_rfl) (by kernel_rfl) ((acH _ _ _).trans ?_)
 by_cases hl:a.length=b.length
 case neg =>
  have h1:((((a.length:Nat):Int)) != ((b.length:Nat):Int))=true:=by simp;omega
  have h2:¬a=b:=fun e=>hl (by rw [e])
  simp only [h1,h2,decide_false]
  rfl
 have h1:((((a.length:Nat):Int)) != ((b.length:Nat):Int))=false:=by simp [hl]
 simp only [h1]
 have Bu:(a.zip b).length=a.length:=by simp [hl]
 have key:=bT (a.zip b) (fun i (_:Unit)=>LX G 57 FL Tryz.f57 Al (aP Tryz.prog 57 0) ((a,(b,(i,()))),((),()))) (fun r _=>((r.all (fun p=>decide (p.1=p.2)),()),())) (fun _ _=>True)
  (fun s _=>by
   refine ar (j:=0) (by kernel_rfl) ((Ou _ _ _).trans ?_)
   rw [Bu]
   simp only [dd,cond_false];rfl)
  (fun i x r s hi hx hr _ ih=>by
   rw [Bu] at hi
   obtain ⟨h3,h4⟩:=xV hx
   refine ar (j:=0) (by kernel_rfl) ((Ou _ _ _).trans ?_)
   simp only [aT hi,cond_true,aK h3,aK h4,Option.bind_some,kj,aI hi ha]
   by_cases he:x.1=x.2
   ·simp only [he,decide_true,Bool.not_true,cond_false,List.all_cons,Bool.true_and];exact ih () trivial
   ·simp only [he,decide_false,Bool.not_false,cond_true,List.all_cons,Bool.false_and];rfl)
  () trivial
 rw [uq a b hl] at key
 exact key
end Go.Vs
namespace Go.Vs
open Go.Proofs
variable {G:(f:FuncId)→(g:aJ)→Option (g.A→Option g.B)}
def dw(row:List ab)(d:ab)(by_:Nat):Option ab:=if d∈row then row[((idx d row 0).toNat+by_) % row.length]? else none
def GA:Option ab→ab×(Bool×Unit)
 | some y=>(y,(true,()))
 | none=>(zD,(false,()))
theorem qg(a n:Nat):Int.tmod (a:Int) (n:Int)=((a % n:Nat):Int):=by
 rw [Int.tmod_eq_emod_of_nonneg (by omega)];rfl
theorem Ej{row:List ab}{d:ab}(h:d∈row):((((row.length:Nat):Int))==0)=false:=by
 have:=List.length_pos_of_mem h
 simp;intro e;subst e;simp at h
theorem Yy(hG:HG G)(row:List ab)(d:ab)(hl:row.length≤1073741824):FX G 26 Lk ((row,d,()),())=some (GA (dw row d (row.length - 1)),()):=by
 refine au (fn:=Tryz.f26) (hG _ _ rfl) (by kernel_rfl) (by kernel_rfl) ((acf _ _ _).trans ?_)
 refine aa (Ei (hG _ _ rfl) row d hl) ?_
 by_cases h:d∈row
 ·obtain ⟨k,h1,h2,h3⟩:=eW h
  have hk:=(List.getElem?_eq_some_iff.1 h2).1
  have hm:(k+(row.length - 1)) % row.length<row.length:=Nat.mod_lt _ (by omega)
  have e1:IntKind.wrap .i64 (IntKind.wrap .i64 ((k:Int)+((row.length:Nat):Int)) - 1)=((k+(row.length - 1):Nat):Int):=by
   rw [wrap_small (n:=(k:Int)+((row.length:Nat):Int)) (by omega) (by omega),wrap_small (by omega) (by omega)];omega
  have e2:¬((k:Int)<0):=by omega
  have e4:row[(k+(row.length - 1)) % row.length]? = some row[(k+(row.length - 1)) % row.length]:=List.getElem?_eq_getElem hm
  have e3:dw row d (row.length - 1)=some row[(k+(row.length - 1)) % row.length]:=by
   unfold dw;rw [if_pos h,h1];simp
  rw [e3]
  simp only [h1,e2,decide_false,cond_false,Ej h,e1,qg,aK e4,Option.bind_some]
  rfl
 ·have h1:=dX.2 h
  have e3:dw row d (row.length - 1)=none:=by unfold dw;rw [if_neg h]
  rw [e3]
  simp only [h1,decide_true,cond_true]
  rfl
theorem Yz(hG:HG G)(row:List ab)(d:ab)(hl:row.length≤1073741824):FX G 104 F2 ((row,d,()),())=some (GA (dw row d 1),()):=by
 refine au (fn:=Tryz.f104) (hG _ _ rfl) (by kernel_rfl) (by kernel_rfl) ((Xs _ _ _).trans ?_)
 refine aa (Ei (hG _ _ rfl) row d hl) ?_
 by_cases h:d∈row
 ·obtain ⟨k,h1,h2,h3⟩:=eW h
  have hk:=(List.getElem?_eq_some_iff.1 h2).1
  have hm:(k+1) % row.length<row.length:=Nat.mod_lt _ (by omega)
  have e1:IntKind.wrap .i64 ((k:Int)+1)=((k+1:Nat):Int):=by
   rw [wrap_small (by omega) (by omega)];omega
  have e2:¬((k:Int)<0):=by omega
  have e4:row[(k+1) % row.length]? = some row[(k+1) % row.length]:=List.getElem?_eq_getElem hm
  have e3:dw row d 1=some row[(k+1) % row.length]:=by
   unfold dw;rw [if_pos h,h1];simp
  rw [e3]
  simp only [h1,e2,decide_false,cond_false,Ej h,e1,qg,aK e4,Option.bind_some]
  rfl
 ·have h1:=dX.2 h
  have e3:dw row d 1=none:=by unfold dw;rw [if_neg h]
  rw [e3]
  simp only [h1,decide_true,cond_true]
  rfl
def eX(row:List ab):List ab→Nat→Nat→Nat
 | [],_,k=>k
 | x::r,i,k=>if mD x (row.getD k zD)<0 then eX row r (i+1) i else eX row r (i+1) k
def Bv(row:List ab)(k:Nat):List ab:=row.drop k++row.take k
def cH(row:List ab):List ab:=Bv row (eX row row 0 0)
theorem ov(row:List ab):∀(r:List ab) (i k:Nat),k<row.length→i+r.length=row.length→eX row r i k<row.length
 | [],_,k,hk,_=>hk
 | x::r,i,k,hk,hi=>by
  unfold eX
  simp at hi
  split
  ·exact ov row r (i+1) i (by omega) (by omega)
  ·exact ov row r (i+1) k hk (by omega)
theorem sW(row:List ab)(k:Nat):(Bv row k).length=row.length:=by unfold Bv;simp;omega
theorem fM(row:List ab):(cH row).length=row.length:=sW _ _
theorem RA{row:List ab}{k:Nat}{d:ab}:d∈Bv row k↔d∈row:=by
 unfold Bv
 rw [List.mem_append,or_comm,←List.mem_append,List.take_append_drop]
theorem GB{row:List ab}{d:ab}:d∈cH row↔d∈row:=RA
theorem Kd{row:List ab}{k i:Nat}(hk:k≤row.length)(hi:i<row.length):(Bv row k)[i]? = row[(k+i) % row.length]? := by
 unfold Bv
 by_cases h:k+i<row.length
 ·rw [List.getElem?_append_left (by simp;omega),List.getElem?_drop,Nat.mod_eq_of_lt h]
 ·rw [List.getElem?_append_right (by simp;omega),List.length_drop,List.getElem?_take,if_pos (by omega)]
  congr 1
  have:(k+i) % row.length=k+i - row.length:=by rw [Nat.mod_eq_sub_mod (by omega),Nat.mod_eq_of_lt (by omega)]
  omega
theorem UF(row:List ab)(k:Nat)(hl:row.length≤100000000)(hk:k≤row.length):∀(n i:Nat) (out T:List ab),i+n=row.length→T=Bv row k→out=T.take i →
  LX G 77 oZ Tryz.f77 Aq (aP Tryz.prog 77 1) ((row,((k:Int),((i:Int),()))),((),(out,())))=some ((T,()),()):=by
 intro n
 induction n with
 | zero =>
  intro i out T hi hT ho
  refine ar (j:=1) (by kernel_rfl) ((OC _ _ _).trans ?_)
  have h1:¬((i:Int)<(row.length:Int)):=by omega
  have h2:out=T:=by rw [ho];exact List.take_of_length_le (by rw [hT,sW];omega)
  subst h2
  simp only [h1,decide_false]
  rfl
 | succ n ih =>
  intro i out T hi hT ho
  refine ar (j:=1) (by kernel_rfl) ((OC _ _ _).trans ?_)
  have aG:i<row.length:=by omega
  have hm:(k+i) % row.length<row.length:=Nat.mod_lt _ (by omega)
  have h3:row[(k+i) % row.length]? = some row[(k+i) % row.length]:=List.getElem?_eq_getElem hm
  have h0:((((row.length:Nat):Int))==0)=false:=by simp;intro e;subst e;simp at aG
  have h4:IntKind.wrap .i64 ((k:Int)+(i:Int))=((k+i:Nat):Int):=by rw [wrap_small (by omega) (by omega)];rfl
  have S8:out.length≤row.length:=by rw [ho,hT];simp;rw [sW];omega
  have h5:aM out.length [row[(k+i) % row.length]].length=true:=fits (by simp;omega)
  have h6:out++[row[(k+i) % row.length]]=T.take (i+1):=by
   rw [ho,List.take_add_one,hT,Kd hk aG,h3];rfl
  have h7:=ih (i+1) (out++[row[(k+i) % row.length]]) T (by omega) hT h6
  simp only [aT aG,h0,h4,qg,aK h3,Option.bind_some,h5,aI aG (show row.length≤1073741824 by omega)]
  exact h7
theorem UG(hG:HG G)(row:List ab)(hl:row.length≤100000000):∀(n i k:Nat),i+n=row.length→(k<row.length∨(row=[]∧k=0)) →
  LX G 77 oZ Tryz.f77 vx (aP Tryz.prog 77 0) ((row,((k:Int),((i:Int),()))),((),()))=some ((Bv row (eX row (row.drop i) i k),()),()):=by
 intro n
 induction n with
 | zero =>
  intro i k hi hk
  refine ar (j:=0) (by kernel_rfl) ((Oz _ _ _).trans ?_)
  have h1:¬((i:Int)<(row.length:Int)):=by omega
  have h2:row.drop i=[]:=List.drop_eq_nil_of_le (by omega)
  simp only [h1,h2,decide_false,cond_false,eX]
  exact UF (G:=G) row k hl (by rcases hk with h | ⟨_,h⟩<;>omega) row.length 0 [] (Bv row k) (by omega) rfl (by simp)
 | succ n ih =>
  intro i k hi hk
  refine ar (j:=0) (by kernel_rfl) ((Oz _ _ _).trans ?_)
  have aG:i<row.length:=by omega
  have uO:k<row.length:=hk.resolve_right (by rintro ⟨rfl,_⟩;simp at aG)
  have h2:row.drop i=row[i]::row.drop (i+1):=List.drop_eq_getElem_cons aG
  have h3:row[i]? = some row[i]:=List.getElem?_eq_getElem aG
  have h4:row[k]? = some row[k]:=List.getElem?_eq_getElem uO
  have h5:row.getD k zD=row[k]:=by simp [List.getD,h4]
  simp only [aT aG,cond_true,aK h3,aK h4,Option.bind_some,aI aG (show row.length≤1073741824 by omega)]
  refine aa (Yx hG row[i] row[k]) ?_
  rw [h2,eX,h5]
  by_cases ho:mD row[i] row[k]<0
  ·rw [if_pos ho];simp only [ho,decide_true]
   exact ih (i+1) i (by omega) (.inl aG)
  ·rw [if_neg ho];simp only [ho,decide_false]
   exact ih (i+1) k (by omega) (.inl uO)
theorem GC(hG:HG G)(row:List ab)(hl:row.length≤100000000):FX G 77 oZ ((row,()),())=some ((cH row,()),()):=by
 refine au (fn:=Tryz.f77) (hG _ _ rfl) (by kernel_rfl) (by kernel_rfl) ((acX _ _ _).trans ?_)
 have:=UG (G:=G) hG row hl row.length 0 0 (by omega) (by cases row with | nil=>exact .inr ⟨rfl,rfl⟩ | cons x r=>exact .inl (by simp))
 exact this
def lC(row:List ab)(after d:ab):List ab :=
 if d∈row then cH row else cH (row.take ((max 0 (idx after row 0)).toNat+1)++(d::row.drop ((max 0 (idx after row 0)).toNat+1)))
def gG(row:List ab)(d:ab):List ab:=cH (row.filter fun e=>decide (e≠d))
def jg(row:List ab)(cF d:ab):List ab:=cH (if cF∈row∧d∉row then row.set (idx cF row 0).toNat d else row)
theorem YA(hG:HG G)(row:List ab)(d:ab)(hl:row.length≤100000000):FX G 102 wO ((row,d,()),())=some ((gG row d,()),()):=by
 refine au (fn:=Tryz.f102) (hG _ _ rfl) (by kernel_rfl) (by kernel_rfl) ((Xq _ _ _).trans ?_)
 have key:=bT row (fun i (s:List ab)=>LX G 102 wO Tryz.f102 qR (aP Tryz.prog 102 0) ((row,(i,())),(((d,()),()),(s,())))) (fun r s=>((cH (s++r.filter fun e=>decide (e≠d)),()),())) (fun n s=>s.length+n≤row.length)
  (fun s hs=>by
   refine ar (j:=0) (by kernel_rfl) ((JQ _ _ _).trans ?_)
   simp only [dd,cond_false]
   refine aa (GC hG s (by omega)) ?_
   simp only [List.filter_nil,List.append_nil];rfl)
  (fun i x r s hi hx hr hs ih=>by
   refine ar (j:=0) (by kernel_rfl) ((JQ _ _ _).trans ?_)
   simp only [aT hi,cond_true,aK hx,Option.bind_some,kj,aI hi (show row.length≤1073741824 by omega)]
   by_cases he:x=d
   ·simp only [he,decide_true,Bool.not_true,ne_eq,not_true_eq_false,decide_false,List.filter_cons,Bool.false_eq_true,if_false]
    exact ih s (by omega)
   ·have h5:aM s.length [x].length=true:=fits (by simp;omega)
    simp only [he,decide_false,Bool.not_false,h5,ne_eq,not_false_eq_true,decide_true,List.filter_cons,if_true]
    have:=ih (s++[x]) (by simp;omega)
    rw [List.append_assoc] at this
    exact this)
  [] (by simp)
 exact key
theorem O6(row:List ab)(d:ab)(k:Nat):row.take (k+1)++(d::row.drop (k+1))=(row.take (k+1)++[d])++row.drop (k+1):=by simp
theorem YB(hG:HG G)(row:List ab)(after d:ab)(hl:row.length≤90000000):FX G 100 wN ((row,after,d,()),())=some ((lC row after d,()),()):=by
 refine au (fn:=Tryz.f100) (hG _ _ rfl) (by kernel_rfl) (by kernel_rfl) ((Xo _ _ _).trans ?_)
 refine aa (Ei (hG _ _ rfl) row d (by omega)) ?_
 by_cases hd:d∈row
 case pos =>
  have h1:¬idx d row 0<0:=fun h=>dX.1 h hd
  have h2:idx d row 0≥0:=by omega
  simp only [h2,decide_true,cond_true]
  refine aa (GC hG row (by omega)) ?_
  unfold lC;rw [if_pos hd];rfl
 case neg =>
 have h1:¬idx d row 0≥0:=by have:=dX.2 hd;omega
 simp only [h1,decide_false,cond_false]
 refine aa (Ei (hG _ _ rfl) row after (by omega)) ?_
 obtain ⟨k,hk⟩:∃k:Nat,max 0 (idx after row 0)=(k:Int):=⟨(max 0 (idx after row 0)).toNat,by omega⟩
 have MP:k<row.length∨row=[]:=by
  rcases nj after row 0 (by omega) with ⟨e,_⟩ | ⟨q,e,e2,_⟩
  ·have:k=0:=by omega
   subst this
   cases row with
   | nil=>exact .inr rfl
   | cons x r=>exact .inl (by simp)
  ·have:=(List.getElem?_eq_some_iff.1 e2).1
   exact .inl (by omega)
 have tU:lC row after d=cH (row.take (k+1)++(d::row.drop (k+1))):=by unfold lC;rw [if_neg hd,hk];rfl
 rw [tU]
 simp only [hk]
 obtain ⟨fin,iZ⟩:∃fin,fin=row.take (k+1)++(d::row.drop (k+1)):=⟨_,rfl⟩
 rw [←iZ]
 have loop:∀(n i:Nat) (out:List ab),i+n=row.length→out=(if i≤k then row.take i else (row.take (k+1)++[d])++(row.drop (k+1)).take (i - (k+1))) →
   LX G 100 wN Tryz.f100 qQ (aP Tryz.prog 100 0) ((row,((k:Int),((i:Int),()))),(((d,()),()),(out,())))=some ((cH fin,()),()):=by
  intro n
  induction n with
  | zero =>
   intro i out hi tL
   refine ar (j:=0) (by kernel_rfl) ((JO _ _ _).trans ?_)
   have h1:¬((i:Int)<(row.length:Int)):=by omega
   rcases MP with MP | rfl
   ·have h0:((((row.length:Nat):Int))==0)=false:=by simp;intro e;subst e;simp at MP
    have h2:out=fin:=by
     have hle:(row.drop (k+1)).take (i - (k+1))=row.drop (k+1):=List.take_of_length_le (by rw [List.length_drop];omega)
     rw [tL,iZ,if_neg (by omega),O6,hle]
    subst h2
    simp only [h1,decide_false,h0]
    exact aa (GC hG out (by rw [iZ];simp;omega)) rfl
   ·have Rm:i=0:=by simpa using hi
    subst Rm
    have h2:out=[]:=by rw [tL];simp
    subst h2
    have h3:fin=[d]:=by rw [iZ];simp
    subst h3
    exact aa (GC hG [d] (by simp)) rfl
  | succ n ih =>
   intro i out hi tL
   refine ar (j:=0) (by kernel_rfl) ((JO _ _ _).trans ?_)
   have aG:i<row.length:=by omega
   have hx:row[i]? = some row[i]:=List.getElem?_eq_getElem aG
   have S8:out.length≤row.length+1:=by rw [tL];split<;>simp<;>omega
   have h5:aM out.length [row[i]].length=true:=fits (by simp;omega)
   simp only [aT aG,aK hx,Option.bind_some,aI aG (show row.length≤1073741824 by omega),h5]
   by_cases NA:i=k
   ·subst NA
    have h6:aM (out++[row[i]]).length [d].length=true:=fits (by simp;omega)
    have h8:(((i:Nat):Int)==((i:Nat):Int))=true:=by simp
    simp only [h8,h6]
    exact ih (i+1) ((out++[row[i]])++[d]) (by omega) (by rw [if_neg (by omega),tL,if_pos (Nat.le_refl _),List.take_add_one,hx];simp)
   ·have h8:(((i:Nat):Int)==((k:Nat):Int))=false:=by simp;omega
    simp only [h8]
    refine ih (i+1) (out++[row[i]]) (by omega) ?_
    rw [tL]
    by_cases hle:i≤k
    ·rw [if_pos hle,if_pos (by omega),List.take_add_one,hx];rfl
    ·have e9:(row.drop (k+1)).take (i+1 - (k+1))=(row.drop (k+1)).take (i - (k+1))++[row[i]]:=by
      rw [show i+1 - (k+1)=(i - (k+1))+1 by omega,List.take_add_one,List.getElem?_drop,show k+1+(i - (k+1))=i by omega,hx];rfl
     rw [if_neg hle,if_neg (by omega),e9,List.append_assoc]
 exact loop row.length 0 [] (by omega) (by simp)
theorem YC(hG:HG G)(row:List ab)(cF d:ab)(hl:row.length≤100000000):FX G 103 FZ ((row,cF,d,()),())=some ((jg row cF d,()),()):=by
 refine au (fn:=Tryz.f103) (hG _ _ rfl) (by kernel_rfl) (by kernel_rfl) ((Xr _ _ _).trans ?_)
 have h5:aM ([]:List ab).length row.length=true:=fits (by simp;omega)
 simp only [h5,cond_true,List.nil_append]
 refine aa (Ei (hG _ _ rfl) row cF (by omega)) ?_
 unfold jg
 by_cases ho:cF∈row
 ·obtain ⟨k,h1,h2,h3⟩:=eW ho
  have hk:=(List.getElem?_eq_some_iff.1 h2).1
  have e1:((k:Int)≥0):=by omega
  simp only [h1,e1,decide_true]
  refine aa (Ei (hG _ _ rfl) row d (by omega)) ?_
  by_cases hd:d∈row
  ·have h6:¬idx d row 0<0:=fun h=>dX.1 h hd
   rw [if_neg (by simp [hd])]
   simp only [h6,decide_false]
   exact aa (GC hG row hl) rfl
  ·have h6:=dX.2 hd
   rw [if_pos ⟨ho,hd⟩]
   have h7:(0:Int)≤(k:Int):=by omega
   have h8:((k:Int)<((row.length:Nat):Int)):=by omega
   simp only [h6,decide_true,h7,h8,Bool.and_self,Int.toNat_natCast,h2]
   exact aa (GC hG (row.set k d) (by simpa using hl)) rfl
 ·have h1:¬idx cF row 0≥0:=by have:=dX.2 ho;omega
  rw [if_neg (by simp [ho])]
  simp only [h1,decide_false]
  exact aa (GC hG row hl) rfl
end Go.Vs
namespace Go.Vs
open Go.Proofs
variable {G:(f:FuncId)→(g:aJ)→Option (g.A→Option g.B)}
def e0:ByteArray:=⟨#[]⟩
def zI:ID:=(0,0)
def zV:ah:=((0,0),([],(e0,0)))
def zE:af:=((0,0),(e0,0))
def aR(l:List ah)(x:ID):Option ah:=l.find? fun v=>decide (v.1=x)
def bf(l:List af)(x:ID):Option af:=l.find? fun v=>decide (v.1=x)
def bj(d:ai)(x:ID):Option ah:=aR d.1 x
def gH(d:ai)(x:ID):Option af:=bf d.2 x
def GD(l:List ah)(x:ab):Option ID:=(l.find? fun v=>decide (x∈v.2.1)).map (·.1)
def cr(d:ai)(x:ab):Option ID:=GD d.1 x
def oS{α:Type}(z:α):Option α→α×(Bool×Unit)
 | some y=>(y,(true,()))
 | none=>(z,(false,()))
theorem BW(hG:G 18 oY=none)(d:ai)(x:ID)(hl:d.1.length≤100000000):FX G 18 oY ((d,x,()),())=some (oS zV (bj d x),()):=by
 refine au (fn:=Tryz.f18) hG (by kernel_rfl) (by kernel_rfl) ((ab7 _ _ _).trans ?_)
 have Ek:=bT d.1 (fun i (_:Unit)=>LX G 18 oY Tryz.f18 z5 (aP Tryz.prog 18 0) ((i,()),(((d,()),((x,()),(((0:Int),((0:Int),(([]:List ab),(e0,((0:Int),()))))),()))),()))) (fun (r:List ah) (_:Unit)=>(oS zV (aR r x),())) (fun _ _=>True)
  (fun s _=>by
   refine ar (j:=0) (by kernel_rfl) ((N0 _ _ _).trans ?_)
   simp only [dd,cond_false];rfl)
  (fun i y r s hi hx hr _ ih=>by
   refine ar (j:=0) (by kernel_rfl) ((N0 _ _ _).trans ?_)
   simp only [aT hi,cond_true,aK hx,Option.bind_some,jc,aI hi (show d.1.length≤1073741824 by omega)]
   by_cases he:y.1=x
   ·simp only [he,decide_true,aR,bf,List.find?_cons];subst he;rfl
   ·simp only [he,decide_false,aR,bf,List.find?_cons];exact ih () trivial)
  () trivial
 exact Ek
theorem RB(hG:G 21 xe=none)(d:ai)(x:ID)(hl:d.2.length≤100000000):FX G 21 xe ((d,x,()),())=some (oS zE (gH d x),()):=by
 refine au (fn:=Tryz.f21) hG (by kernel_rfl) (by kernel_rfl) ((aca _ _ _).trans ?_)
 have Ek:=bT d.2 (fun i (_:Unit)=>LX G 21 xe Tryz.f21 z7 (aP Tryz.prog 21 0) ((i,()),(((d,()),((x,()),(((((0:Int),(0:Int)),(e0,(0:Int))),()),()))),()))) (fun (r:List af) (_:Unit)=>(oS zE (bf r x),())) (fun _ _=>True)
  (fun s _=>by
   refine ar (j:=0) (by kernel_rfl) ((N2 _ _ _).trans ?_)
   simp only [dd,cond_false];rfl)
  (fun i y r s hi hx hr _ ih=>by
   refine ar (j:=0) (by kernel_rfl) ((N2 _ _ _).trans ?_)
   simp only [aT hi,cond_true,aK hx,Option.bind_some,jc,aI hi (show d.2.length≤1073741824 by omega)]
   by_cases he:y.1=x
   ·simp only [he,decide_true,aR,bf,List.find?_cons];subst he;rfl
   ·simp only [he,decide_false,aR,bf,List.find?_cons];exact ih () trivial)
  () trivial
 exact Ek
theorem GF(hG:HG G)(d:ai)(x:ab)(hl:d.1.length≤100000000)(hr:∀v∈d.1,v.2.1.length≤100000000):FX G 20 sQ ((d,x,()),())=some (oS zI (cr d x),()):=by
 refine au (fn:=Tryz.f20) (hG _ _ rfl) (by kernel_rfl) (by kernel_rfl) ((ab9 _ _ _).trans ?_)
 have Ek:=bT d.1 (fun i (_:Unit)=>LX G 20 sQ Tryz.f20 z6 (aP Tryz.prog 20 0) ((i,()),(((d,()),((x,()),((((0:Int),(0:Int)),()),()))),()))) (fun r _=>(oS zI (GD r x),())) (fun _ _=>True)
  (fun s _=>by
   refine ar (j:=0) (by kernel_rfl) ((N1 _ _ _).trans ?_)
   simp only [dd,cond_false];rfl)
  (fun i y r s hi hx BX _ ih=>by
   refine ar (j:=0) (by kernel_rfl) ((N1 _ _ _).trans ?_)
   simp only [aT hi,cond_true,aK hx,Option.bind_some,aI hi (show d.1.length≤1073741824 by omega)]
   refine aa (Ei (hG _ _ rfl) y.2.1 x (by have:=hr y (List.mem_of_getElem? hx);omega)) ?_
   by_cases he:x∈y.2.1
   ·have h1:idx x y.2.1 0≥0:=by obtain ⟨k,h,_⟩:=eW he;omega
    simp only [h1,decide_true,GD,List.find?_cons,he];rfl
   ·have h1:¬idx x y.2.1 0≥0:=by have:=dX.2 he;omega
    simp only [h1,decide_false,GD,List.find?_cons,he];exact ih () trivial)
  () trivial
 exact Ek
theorem YD(hG:G 38 BP=none)(d:ai)(hl:d.1.length≤100000000)(sB:d.2.length≤100000000)(hr:∀v∈d.1,v.2.1.length≤100000000):FX G 38 BP ((d,()),())=some (((d.1,(d.2,())),()),()):=by
 refine au (fn:=Tryz.f38) hG (by kernel_rfl) (by kernel_rfl) ((acr _ _ _).trans ?_)
 have h5:aM ([]:List af).length d.2.length=true:=fits (by simp;omega)
 simp only [h5,cond_true,List.nil_append]
 have Ek:=bT d.1 (fun i (out:List ah)=>LX G 38 BP Tryz.f38 Af (aP Tryz.prog 38 0) ((i,()),(((d,()),((([]:List ah),(([]:List af),())),((out,(d.2,())),()))),()))) (fun r s=>(((s++r,(d.2,())),()),())) (fun n s=>s.length+n≤d.1.length)
  (fun s _=>by
   refine ar (j:=0) (by kernel_rfl) ((Oc _ _ _).trans ?_)
   simp only [dd,List.append_nil];rfl)
  (fun i y r s hi hx BX hs ih=>by
   refine ar (j:=0) (by kernel_rfl) ((Oc _ _ _).trans ?_)
   have h6:aM ([]:List ab).length y.2.1.length=true:=fits (by have:=hr y (List.mem_of_getElem? hx);simp;omega)
   have h7:aM s.length [(y.1,(y.2.1,y.2.2))].length=true:=fits (by simp;omega)
   simp only [aT hi,aK hx,Option.bind_some,h6,List.nil_append,h7,aI hi (show d.1.length≤1073741824 by omega)]
   have:=ih (s++[y]) (by simp;omega)
   rw [List.append_assoc] at this
   exact this)
  [] (by simp)
 exact Ek
def dV(v:ah):List ah→List ah
 | []=>[v]
 | w::r=>if fz v.1 w.1 then v::w::r else w::dV v r
def dp(v:af):List af→List af
 | []=>[v]
 | w::r=>if fz v.1 w.1 then v::w::r else w::dp v r
theorem b5(a:ID):fz a a=false:=by simp [fz]
theorem mg(a b:ID):qf a b<0↔fz a b=true:=by
 unfold qf
 by_cases h:a=b
 ·subst h;simp [b5]
 ·rw [if_neg h];split<;>simp_all
theorem YE(hG:HG G)(d:ai)(v:ah)(hl:d.1.length≤100000000):FX G 46 D0 ((d,v,()),())=some (((dV v d.1,d.2),()),()):=by
 refine au (fn:=Tryz.f46) (hG _ _ rfl) (by kernel_rfl) (by kernel_rfl) ((acw _ _ _).trans ?_)
 have key:=bT d.1 (fun i (s:Bool×List ah)=>LX G 46 D0 Tryz.f46 sR (aP Tryz.prog 46 0) ((s.1,(i,())),(((d,()),((v,()),((([]:List ah),(([]:List af),())),((s.2,(d.2,())),())))),())))
  (fun r s=>(((s.2++(if s.1 then r else dV v r),d.2),()),())) (fun n s=>s.2.length+n≤d.1.length+(if s.1 then 1 else 0))
  (fun s hs=>by
   obtain ⟨put,s⟩:=s
   refine ar (j:=0) (by kernel_rfl) ((Oe _ _ _).trans ?_)
   have h7:aM s.length [v].length=true:=fits (by simp at hs ⊢;split at hs<;>omega)
   cases put
   ·simp only [dd,h7,dV];rfl
   ·simp only [dd,if_true,List.append_nil];rfl)
  (fun i y r s hi hx BX hs ih=>by
   obtain ⟨put,s⟩:=s
   refine ar (j:=0) (by kernel_rfl) ((Oe _ _ _).trans ?_)
   have h6:aM s.length [y].length=true:=fits (by simp at hs ⊢;split at hs<;>omega)
   cases put
   ·have h7:aM s.length [v].length=true:=fits (by simp at hs ⊢;omega)
    have h8:aM (s++[v]).length [y].length=true:=fits (by simp at hs ⊢;omega)
    simp only [aT hi,aK hx,Option.bind_some,aI hi (show d.1.length≤1073741824 by omega)]
    refine aa (UE (hG _ _ rfl) v.1 y.1) ?_
    by_cases ho:fz v.1 y.1=true
    ·have h9:=(mg _ _).2 ho
     have:=ih (true,(s++[v])++[y]) (by simp at hs ⊢;omega)
     simp only [h9,decide_true,h7,h8,dV,ho,if_true,Bool.false_eq_true,if_false]
     exact this.trans (congrArg (fun l:List ah=>some (((l,d.2),()),())) (show ((s++[v])++[y])++r=s++(v::y::r) by simp))
    ·have h9:¬qf v.1 y.1<0:=fun h=>ho ((mg _ _).1 h)
     have:=ih (false,s++[y]) (by simp at hs ⊢;omega)
     simp only [h9,decide_false,h6,dV,ho,if_false,Bool.false_eq_true]
     exact this.trans (congrArg (fun l:List ah=>some (((l,d.2),()),())) (show (s++[y])++dV v r=s++(y::dV v r) by simp))
   ·have:=ih (true,s++[y]) (by simp at hs ⊢;omega)
    simp only [aT hi,aK hx,Option.bind_some,aI hi (show d.1.length≤1073741824 by omega),h6,if_true]
    exact this.trans (congrArg (fun l:List ah=>some (((l,d.2),()),())) (show (s++[y])++r=s++(y::r) by simp)))
  (false,[]) (by simp)
 exact key
theorem YF(hG:HG G)(d:ai)(v:af)(hl:d.2.length≤100000000):FX G 71 xh ((d,v,()),())=some (((d.1,dp v d.2),()),()):=by
 refine au (fn:=Tryz.f71) (hG _ _ rfl) (by kernel_rfl) (by kernel_rfl) ((acR _ _ _).trans ?_)
 have key:=bT d.2 (fun i (s:Bool×List af)=>LX G 71 xh Tryz.f71 sS (aP Tryz.prog 71 0) ((s.1,(i,())),(((d,()),((v,()),((([]:List ah),(([]:List af),())),((d.1,(s.2,())),())))),())))
  (fun r s=>(((d.1,s.2++(if s.1 then r else dp v r)),()),())) (fun n s=>s.2.length+n≤d.2.length+(if s.1 then 1 else 0))
  (fun s hs=>by
   obtain ⟨put,s⟩:=s
   refine ar (j:=0) (by kernel_rfl) ((Ox _ _ _).trans ?_)
   have h7:aM s.length [v].length=true:=fits (by simp at hs ⊢;split at hs<;>omega)
   cases put
   ·simp only [dd,h7,dp];rfl
   ·simp only [dd,if_true,List.append_nil];rfl)
  (fun i y r s hi hx BX hs ih=>by
   obtain ⟨put,s⟩:=s
   refine ar (j:=0) (by kernel_rfl) ((Ox _ _ _).trans ?_)
   have h6:aM s.length [y].length=true:=fits (by simp at hs ⊢;split at hs<;>omega)
   cases put
   ·have h7:aM s.length [v].length=true:=fits (by simp at hs ⊢;omega)
    have h8:aM (s++[v]).length [y].length=true:=fits (by simp at hs ⊢;omega)
    simp only [aT hi,aK hx,Option.bind_some,aI hi (show d.2.length≤1073741824 by omega)]
    refine aa (UE (hG _ _ rfl) v.1 y.1) ?_
    by_cases ho:fz v.1 y.1=true
    ·have h9:=(mg _ _).2 ho
     have:=ih (true,(s++[v])++[y]) (by simp at hs ⊢;omega)
     simp only [h9,decide_true,h7,h8,dp,ho,if_true,Bool.false_eq_true,if_false]
     exact this.trans (congrArg (fun l:List af=>some (((d.1,l),()),())) (show ((s++[v])++[y])++r=s++(v::y::r) by simp))
    ·have h9:¬qf v.1 y.1<0:=fun h=>ho ((mg _ _).1 h)
     have:=ih (false,s++[y]) (by simp at hs ⊢;omega)
     simp only [h9,decide_false,h6,dp,ho,if_false,Bool.false_eq_true]
     exact this.trans (congrArg (fun l:List af=>some (((d.1,l),()),())) (show (s++[y])++dp v r=s++(y::dp v r) by simp))
   ·have:=ih (true,s++[y]) (by simp at hs ⊢;omega)
    simp only [aT hi,aK hx,Option.bind_some,aI hi (show d.2.length≤1073741824 by omega),h6,if_true]
    exact this.trans (congrArg (fun l:List af=>some (((d.1,l),()),())) (show (s++[y])++r=s++(y::r) by simp)))
  (false,[]) (by simp)
 exact key
def dG(l:List ah)(v:ID):List ah:=l.filter fun w=>decide (w.1≠v)
def cO(l:List af)(v:ID):List af:=l.filter fun w=>decide (w.1≠v)
def bu(d:ai)(v e:ID):ai:=(dG d.1 v,cO d.2 e)
theorem RC(hG:G 47 oq=none)(d:ai)(v e:ID)(hl:d.1.length≤100000000)(sB:d.2.length≤100000000):FX G 47 oq ((d,v,e,()),())=some ((bu d v e,()),()):=by
 refine au (fn:=Tryz.f47) hG (by kernel_rfl) (by kernel_rfl) ((acx _ _ _).trans ?_)
 have RD:=fun vs=>bT d.2 (fun i (s:List af)=>LX G 47 oq Tryz.f47 vv (aP Tryz.prog 47 1) ((i,()),(((d,()),((e,()),((([]:List ah),(([]:List af),())),((vs,(s,())),())))),())))
  (fun (r:List af) (s:List af)=>(((vs,s++cO r e),()),())) (fun n s=>s.length+n≤d.2.length)
  (fun s hs=>by
   refine ar (j:=1) (by kernel_rfl) ((Oh _ _ _).trans ?_)
   simp only [dd,dG,cO,List.filter_nil,List.append_nil];rfl)
  (fun i y r s hi hx BX hs ih=>by
   refine ar (j:=1) (by kernel_rfl) ((Oh _ _ _).trans ?_)
   have h6:aM s.length [y].length=true:=fits (by simp at hs ⊢;omega)
   simp only [aT hi,aK hx,Option.bind_some,jc,aI hi (show d.2.length≤1073741824 by omega)]
   by_cases he:y.1=e
   ·simp only [he,decide_true,Bool.not_true,ne_eq,not_true_eq_false,decide_false,dG,cO,List.filter_cons,Bool.false_eq_true,if_false]
    exact ih s (by omega)
   ·simp only [he,decide_false,Bool.not_false,h6,ne_eq,not_false_eq_true,decide_true,dG,cO,List.filter_cons,if_true]
    have:=ih (s++[y]) (by simp;omega)
    rw [List.append_assoc] at this
    exact this)
  [] (by simp)
 have Ek:=bT d.1 (fun i (s:List ah)=>LX G 47 oq Tryz.f47 vu (aP Tryz.prog 47 0) ((i,()),(((d,()),((v,()),((e,()),((([]:List ah),(([]:List af),())),((s,(([]:List af),())),()))))),())))
  (fun (r:List ah) (s:List ah)=>(((s++dG r v,cO d.2 e),()),())) (fun n s=>s.length+n≤d.1.length)
  (fun s hs=>by
   refine ar (j:=0) (by kernel_rfl) ((Og _ _ _).trans ?_)
   simp only [dd,dG,cO,List.filter_nil,List.append_nil]
   exact RD s)
  (fun i y r s hi hx BX hs ih=>by
   refine ar (j:=0) (by kernel_rfl) ((Og _ _ _).trans ?_)
   have h6:aM s.length [y].length=true:=fits (by simp at hs ⊢;omega)
   simp only [aT hi,aK hx,Option.bind_some,jc,aI hi (show d.1.length≤1073741824 by omega)]
   by_cases he:y.1=v
   ·simp only [he,decide_true,Bool.not_true,ne_eq,not_true_eq_false,decide_false,dG,cO,List.filter_cons,Bool.false_eq_true,if_false]
    exact ih s (by omega)
   ·simp only [he,decide_false,Bool.not_false,h6,ne_eq,not_false_eq_true,decide_true,dG,cO,List.filter_cons,if_true]
    have:=ih (s++[y]) (by simp;omega)
    rw [List.append_assoc] at this
    exact this)
  [] (by simp)
 exact Ek
end Go.Vs
namespace Go.Vs
open Go.Proofs
variable {G:(f:FuncId)→(g:aJ)→Option (g.A→Option g.B)}
instance af9:DecidableEq (List ah):=@instDecidableEqList ah inferInstance
instance decLE:DecidableEq (List af):=@instDecidableEqList af inferInstance
instance aaR:DecidableEq ai:=instDecidableEqProd
instance YG:DecidableEq StateT:=instDecidableEqProd
structure Sm(d:ai):Prop where
 v:d.1.length≤50000000
 e:d.2.length≤50000000
 r:∀w∈d.1,w.2.1.length≤50000000
def qW(x:ID)(l:List ab)(w:ah):ah:=if w.1=x then (w.1,(l,w.2.2)) else w
def b6(d:ai)(x:ID)(l:List ab):ai:=(d.1.map (qW x l),d.2)
theorem eI(i:Nat):decide ((0:Int)≤(i:Int))=true:=by simp
theorem uu{α:Type}(f:α→α)(l:List α)(i:Nat)(x:α)(hx:l[i]? = some x):((l.take i).map f++l.drop i).set i (f x)=(l.take (i+1)).map f++l.drop (i+1):=by
 have hi:=(List.getElem?_eq_some_iff.1 hx).1
 have h2:l.drop i=l[i]::l.drop (i+1):=List.drop_eq_getElem_cons hi
 have h3:l[i]=x:=(List.getElem?_eq_some_iff.1 hx).2
 rw [List.set_append_right _ _ (by simp;omega),h2,List.length_map,List.length_take,Nat.min_eq_left (by omega),Nat.sub_self,List.set_cons_zero,List.take_add_one,hx]
 simp
theorem qh{α:Type}(f:α→α)(l:List α)(i:Nat)(x:α)(hx:l[i]? = some x)(hf:f x=x):(l.take i).map f++l.drop i=(l.take (i+1)).map f++l.drop (i+1):=by
 have hi:=(List.getElem?_eq_some_iff.1 hx).1
 have h2:l.drop i=l[i]::l.drop (i+1):=List.drop_eq_getElem_cons hi
 have h3:l[i]=x:=(List.getElem?_eq_some_iff.1 hx).2
 rw [h2,h3,List.take_add_one,hx];simp [hf]
theorem El{α:Type}(f:α→α)(l:List α)(i:Nat)(x:α)(hx:l[i]? = some x):((l.take i).map f++l.drop i)[i]? = some x:=by
 have hi:=(List.getElem?_eq_some_iff.1 hx).1
 rw [List.getElem?_append_right (by simp;omega),List.length_map,List.length_take,Nat.min_eq_left (by omega),Nat.sub_self,List.getElem?_drop,Nat.add_zero,hx]
theorem UH(hG:HG G)(d:ai)(x:ID)(l:List ab)(hs:Sm d):FX G 99 BU ((d,x,l,()),())=some ((b6 d x l,()),()):=by
 have hv:=hs.v;have he:=hs.e
 refine au (fn:=Tryz.f99) (hG _ _ rfl) (by kernel_rfl) (by kernel_rfl) ((ade _ _ _).trans ?_)
 refine aa (YD (hG _ _ rfl) d (by omega) (by omega) (fun w hw=>by have:=hs.r w hw;omega)) ?_
 have loop:∀(n i:Nat) (out fin:List ah),i+n=d.1.length→out=(d.1.take i).map (qW x l)++d.1.drop i→fin=d.1.map (qW x l) →
   LX G 99 BU Tryz.f99 vC (aP Tryz.prog 99 0) ((l,((i:Int),())),(((x,()),((([]:List ah),(([]:List af),())),((out,(d.2,())),()))),()))=some (((fin,d.2),()),()):=by
  intro n
  induction n with
  | zero =>
   intro i out fin hi ho hf
   refine ar (j:=0) (by kernel_rfl) ((OG _ _ _).trans ?_)
   have S8:out.length=d.1.length:=by rw [ho];simp;omega
   have h1:¬((i:Int)<(out.length:Int)):=by omega
   have h2:out=fin:=by rw [ho,hf,List.take_of_length_le (by omega),List.drop_eq_nil_of_le (by omega),List.append_nil]
   subst h2
   simp only [h1,decide_false];rfl
  | succ n ih =>
   intro i out fin hi ho hf
   refine ar (j:=0) (by kernel_rfl) ((OG _ _ _).trans ?_)
   have S8:out.length=d.1.length:=by rw [ho];simp;omega
   have aG:i<d.1.length:=by omega
   have hx:d.1[i]? = some d.1[i]:=List.getElem?_eq_getElem aG
   have hg:out[i]? = some d.1[i]:=by rw [ho];exact El _ _ _ _ hx
   simp only [aT (show i<out.length by omega),eI,Bool.and_self,Int.toNat_natCast,hg,Option.bind_some,jc,aI aG (show d.1.length≤1073741824 by omega)]
   by_cases hq:d.1[i].1=x
   ·have e1:qW x l d.1[i]=(x,(l,d.1[i].2.2)):=by unfold qW;rw [if_pos hq,hq]
    simp only [hq,decide_true]
    exact ih (i+1) (out.set i (x,(l,d.1[i].2.2))) fin (by omega) (by rw [ho,←uu _ _ _ _ hx,e1]) hf
   ·have e1:qW x l d.1[i]=d.1[i]:=by unfold qW;rw [if_neg hq]
    simp only [hq,decide_false]
    exact ih (i+1) out fin (by omega) (by rw [ho];exact qh _ _ _ _ hx e1) hf
 exact loop d.1.length 0 d.1 (d.1.map (qW x l)) (by omega) (by simp) rfl
def bJ(d:ai)(x:ID):List ab:=((bj d x).getD zV).2.1
theorem jM{α:Type}(z:α)(o:Option α):(oS z o).1=o.getD z:=by cases o<;>rfl
theorem gQ{α:Type}(z:α)(o:Option α):(oS z o).2.1=o.isSome:=by cases o<;>rfl
theorem nk{d:ai}(hs:Sm d)(x:ID):(bJ d x).length≤50000000:=by
 unfold bJ
 cases h:bj d x with
 | none=>simp [zV]
 | some v=>exact hs.r v (List.mem_of_find?_eq_some h)
def bR(d:ai)(c:oX)(x:ab):ai:=b6 d c.1 (lC (bJ d c.1) c.2 x)
def aD(d:ai)(cF x:ab):ai:=b6 d ((cr d cF).getD zI) (jg (bJ d ((cr d cF).getD zI)) cF x)
def aB(d:ai)(x:ab):ai:=b6 d ((cr d x).getD zI) (gG (bJ d ((cr d x).getD zI)) x)
theorem YH(hG:HG G)(d:ai)(c:oX)(x:ab)(hs:Sm d):FX G 72 xi ((d,c,x,()),())=some ((bR d c x,()),()):=by
 have hv:=hs.v
 have hr:=nk hs c.1
 refine au (fn:=Tryz.f72) (hG _ _ rfl) (by kernel_rfl) (by kernel_rfl) ((acS _ _ _).trans ?_)
 refine aa (BW (hG _ _ rfl) d c.1 (by omega)) ?_
 rw [show (oS zV (bj d c.1)).1=(bj d c.1).getD zV from jM _ _]
 refine aa (YB hG (bJ d c.1) c.2 x (by omega)) ?_
 exact aa (UH hG d c.1 (lC (bJ d c.1) c.2 x) hs) rfl
theorem YI(hG:HG G)(d:ai)(cF x:ab)(hs:Sm d):FX G 76 FQ ((d,cF,x,()),())=some ((aD d cF x,()),()):=by
 have hv:=hs.v
 have hr:=nk hs ((cr d cF).getD zI)
 refine au (fn:=Tryz.f76) (hG _ _ rfl) (by kernel_rfl) (by kernel_rfl) ((acW _ _ _).trans ?_)
 refine aa (GF hG d cF (by omega) (fun w hw=>by have:=hs.r w hw;omega)) ?_
 rw [show (oS zI (cr d cF)).1=(cr d cF).getD zI from jM _ _]
 refine aa (BW (hG _ _ rfl) d ((cr d cF).getD zI) (by omega)) ?_
 rw [show (oS zV (bj d ((cr d cF).getD zI))).1=(bj d ((cr d cF).getD zI)).getD zV from jM _ _]
 refine aa (YC hG (bJ d ((cr d cF).getD zI)) cF x (by omega)) ?_
 exact aa (UH hG d ((cr d cF).getD zI) (jg (bJ d ((cr d cF).getD zI)) cF x) hs) rfl
theorem YJ(hG:HG G)(d:ai)(x:ab)(hs:Sm d):FX G 75 Lv ((d,x,()),())=some ((aB d x,()),()):=by
 have hv:=hs.v
 have hr:=nk hs ((cr d x).getD zI)
 refine au (fn:=Tryz.f75) (hG _ _ rfl) (by kernel_rfl) (by kernel_rfl) ((acV _ _ _).trans ?_)
 refine aa (GF hG d x (by omega) (fun w hw=>by have:=hs.r w hw;omega)) ?_
 rw [show (oS zI (cr d x)).1=(cr d x).getD zI from jM _ _]
 refine aa (BW (hG _ _ rfl) d ((cr d x).getD zI) (by omega)) ?_
 rw [show (oS zV (bj d ((cr d x).getD zI))).1=(bj d ((cr d x).getD zI)).getD zV from jM _ _]
 refine aa (YA hG (bJ d ((cr d x).getD zI)) x (by omega)) ?_
 exact aa (UH hG d ((cr d x).getD zI) (gG (bJ d ((cr d x).getD zI)) x) hs) rfl
def iS(row:List ab)(x:ab):ab:=(dw row x (row.length - 1)).getD zD
theorem xW(o:Option ab):(GA o).1=o.getD zD:=by cases o<;>rfl
def c4(d:ai)(x:ab):ab :=
 let row:=bJ d ((cr d x).getD zI)
 let y:=iS row x
 let z:=if y.1=x.1 then iS row y else y
 if z.1=x.1 then zD else z
theorem YK(hG:HG G)(d:ai)(x:ab)(hs:Sm d):FX G 74 Lu ((d,x,()),())=some ((c4 d x,()),()):=by
 have hv:=hs.v
 have hr:=nk hs ((cr d x).getD zI)
 refine au (fn:=Tryz.f74) (hG _ _ rfl) (by kernel_rfl) (by kernel_rfl) ((acU _ _ _).trans ?_)
 refine aa (GF hG d x (by omega) (fun w hw=>by have:=hs.r w hw;omega)) ?_
 rw [show (oS zI (cr d x)).1=(cr d x).getD zI from jM _ _]
 refine aa (BW (hG _ _ rfl) d ((cr d x).getD zI) (by omega)) ?_
 rw [show (oS zV (bj d ((cr d x).getD zI))).1=(bj d ((cr d x).getD zI)).getD zV from jM _ _]
 refine aa (Yy hG (bJ d ((cr d x).getD zI)) x (by omega)) ?_
 rw [show (GA (dw (bJ d ((cr d x).getD zI)) x ((bJ d ((cr d x).getD zI)).length - 1))).1=iS (bJ d ((cr d x).getD zI)) x from xW _]
 unfold c4
 obtain ⟨y,hy⟩:∃y,y=iS (bJ d ((cr d x).getD zI)) x:=⟨_,rfl⟩
 simp only [←hy,jc]
 by_cases h1:y.1=x.1
 ·have d1:=decide_eq_true h1
  rw [if_pos h1]
  simp only [d1]
  refine aa (Yy hG (bJ d ((cr d x).getD zI)) y (by omega)) ?_
  rw [show (GA (dw (bJ d ((cr d x).getD zI)) y ((bJ d ((cr d x).getD zI)).length - 1))).1=iS (bJ d ((cr d x).getD zI)) y from xW _]
  by_cases h2:(iS (bJ d ((cr d x).getD zI)) y).1=x.1
  ·have d2:=decide_eq_true h2
   rw [if_pos h2]
   simp only [d2];rfl
  ·have d2:=decide_eq_false h2
   rw [if_neg h2]
   simp only [d2];rfl
 ·have d1:=decide_eq_false h1
  rw [if_neg h1,if_neg h1]
  simp only [d1];rfl
def fN(l:List ak)(d:ab):Option ab:=(l.find? fun g=>decide (g.1=d)).map (·.2)
theorem Td(hG:G 101 rR=none)(l:List ak)(d:ab)(hl:l.length≤100000000):FX G 101 rR ((l,d,()),())=some (oS zD (fN l d),()):=by
 refine au (fn:=Tryz.f101) hG (by kernel_rfl) (by kernel_rfl) ((Xp _ _ _).trans ?_)
 have key:=bT l (fun i (_:Unit)=>LX G 101 rR Tryz.f101 tZ (aP Tryz.prog 101 0) ((l,(i,())),(((d,()),(((((0:Int),(0:Int)),(0:Int)),()),())),()))) (fun (r:List ak) (_:Unit)=>(oS zD (fN r d),())) (fun _ _=>True)
  (fun s _=>by
   refine ar (j:=0) (by kernel_rfl) ((JP _ _ _).trans ?_)
   simp only [dd,cond_false];rfl)
  (fun i y r s hi hx hr _ ih=>by
   refine ar (j:=0) (by kernel_rfl) ((JP _ _ _).trans ?_)
   simp only [aT hi,aK hx,Option.bind_some,kj,aI hi (show l.length≤1073741824 by omega)]
   by_cases he:y.1=d
   ·simp only [he,decide_true,fN,List.find?_cons];rfl
   ·simp only [he,decide_false,fN,List.find?_cons];exact ih () trivial)
  () trivial
 exact key
theorem adF(hG:G 53 D1=none)(a b:List ak)(ha:a.length≤100000000):FX G 53 D1 ((a,b,()),())=some ((decide (a=b),()),()):=by
 refine au (fn:=Tryz.f53) hG (by kernel_rfl) (by kernel_rfl) ((acD _ _ _).trans ?_)
 by_cases hl:a.length=b.length
 case neg =>
  have h1:((((a.length:Nat):Int)) != ((b.length:Nat):Int))=true:=by simp;omega
  have h2:¬a=b:=fun e=>hl (by rw [e])
  simp only [h1,h2,decide_false]
  rfl
 have h1:((((a.length:Nat):Int)) != ((b.length:Nat):Int))=false:=by simp [hl]
 simp only [h1]
 have Bu:(a.zip b).length=a.length:=by simp [hl]
 have key:=bT (a.zip b) (fun i (_:Unit)=>LX G 53 D1 Tryz.f53 Ai (aP Tryz.prog 53 0) ((a,(b,(i,()))),((),()))) (fun r _=>((r.all (fun p=>decide (p.1=p.2)),()),())) (fun _ _=>True)
  (fun s _=>by
   refine ar (j:=0) (by kernel_rfl) ((Om _ _ _).trans ?_)
   rw [Bu]
   simp only [dd];rfl)
  (fun i x r s hi hx hr _ ih=>by
   rw [Bu] at hi
   obtain ⟨h3,h4⟩:=xV hx
   refine ar (j:=0) (by kernel_rfl) ((Om _ _ _).trans ?_)
   simp only [aT hi,aK h3,aK h4,Option.bind_some,kj,aI hi (show a.length≤1073741824 by omega)]
   by_cases he:x.1=x.2
   ·simp only [he,decide_true,Bool.and_self,Bool.not_true,List.all_cons,Bool.true_and];exact ih () trivial
   ·have h9:(decide (x.1.1=x.2.1)&&decide (x.1.2=x.2.2))=false:=by
     rw [Bool.eq_false_iff];intro h;simp at h;exact he (Prod.ext h.1 h.2)
    simp only [he,h9,decide_false,Bool.not_false,List.all_cons,Bool.false_and];rfl)
  () trivial
 rw [uq a b hl] at key
 exact key
theorem adG(hG:HG G)(a b:ai)(hs:Sm a):FX G 27 zJ ((a,b,()),())=some ((decide (a=b),()),()):=by
 have hv:=hs.v;have he:=hs.e
 refine au (fn:=Tryz.f27) (hG _ _ rfl) (by kernel_rfl) (by kernel_rfl) ((acg _ _ _).trans ?_)
 by_cases hl:a.1.length=b.1.length
 case neg =>
  have h1:((((a.1.length:Nat):Int)) != ((b.1.length:Nat):Int))=true:=by simp;omega
  have h2:¬a=b:=fun e=>hl (by rw [e])
  simp only [h1,h2,decide_false]
  rfl
 have h1:((((a.1.length:Nat):Int)) != ((b.1.length:Nat):Int))=false:=by simp [hl]
 simp only [h1]
 by_cases sB:a.2.length=b.2.length
 case neg =>
  have h1:((((a.2.length:Nat):Int)) != ((b.2.length:Nat):Int))=true:=by simp;omega
  have h2:¬a=b:=fun e=>sB (by rw [e])
  simp only [h1,h2,decide_false]
  rfl
 have h2:((((a.2.length:Nat):Int)) != ((b.2.length:Nat):Int))=false:=by simp [sB]
 simp only [h2]
 have Bu:(a.1.zip b.1).length=a.1.length:=by simp [hl]
 have YL:(a.2.zip b.2).length=a.2.length:=by simp [sB]
 have RD:=bT (a.2.zip b.2) (fun i (_:Unit)=>LX G 27 zJ Tryz.f27 Ac (aP Tryz.prog 27 1) ((i,()),(((a,()),((b,()),())),()))) (fun r _=>((r.all (fun p=>decide (p.1=p.2)),()),())) (fun _ _=>True)
  (fun s _=>by
   refine ar (j:=1) (by kernel_rfl) ((N6 _ _ _).trans ?_)
   rw [YL]
   simp only [dd];rfl)
  (fun i x r s hi hx hr _ ih=>by
   rw [YL] at hi
   obtain ⟨h3,h4⟩:=xV hx
   refine ar (j:=1) (by kernel_rfl) ((N6 _ _ _).trans ?_)
   simp only [aT hi,aK h3,aK h4,Option.bind_some,jc,UC,aI hi (show a.2.length≤1073741824 by omega)]
   by_cases he:x.1=x.2
   ·simp only [he,decide_true,beq_self_eq_true,Bool.and_self,Bool.not_true,List.all_cons,Bool.true_and];exact ih () trivial
   ·have h9:(decide (x.1.1=x.2.1)&&(decide (x.1.2.1=x.2.2.1)&&(x.1.2.2==x.2.2.2)))=false:=by
     rw [Bool.eq_false_iff];intro h;simp at h;exact he (Prod.ext h.1 (Prod.ext h.2.1 h.2.2))
    simp only [he,h9,decide_false,Bool.not_false,List.all_cons,Bool.false_and];rfl)
  () trivial
 rw [uq a.2 b.2 sB] at RD
 have key:=bT (a.1.zip b.1) (fun i (_:Unit)=>LX G 27 zJ Tryz.f27 Ab (aP Tryz.prog 27 0) ((i,()),(((a,()),((b,()),())),()))) (fun r _=>((r.all (fun p=>decide (p.1=p.2))&&decide (a.2=b.2),()),())) (fun _ _=>True)
  (fun s _=>by
   refine ar (j:=0) (by kernel_rfl) ((N5 _ _ _).trans ?_)
   rw [Bu]
   simp only [dd,List.all_nil,Bool.true_and];exact RD)
  (fun i x r s hi hx hr _ ih=>by
   rw [Bu] at hi
   obtain ⟨h3,h4⟩:=xV hx
   refine ar (j:=0) (by kernel_rfl) ((N5 _ _ _).trans ?_)
   simp only [aT hi,aK h3,aK h4,Option.bind_some,jc,UC,aI hi (show a.1.length≤1073741824 by omega)]
   refine aa (adE hG x.1.2.1 x.2.2.1 (by have:=hs.r x.1 (List.mem_of_getElem? h3);omega)) ?_
   by_cases e1:x.1.1=x.2.1
   case neg =>
    have he:¬x.1=x.2:=fun e=>e1 (by rw [e])
    have d1:=decide_eq_false e1
    simp only [d1,he,decide_false,List.all_cons,Bool.false_and];rfl
   have d1:=decide_eq_true e1
   by_cases e2:x.1.2.2.1=x.2.2.2.1
   case neg =>
    have he:¬x.1=x.2:=fun e=>e2 (by rw [e])
    have d2:=decide_eq_false e2
    simp only [d1,d2,he,decide_false,List.all_cons,Bool.false_and];rfl
   have d2:=decide_eq_true e2
   by_cases e3:x.1.2.2.2=x.2.2.2.2
   case neg =>
    have he:¬x.1=x.2:=fun e=>e3 (by rw [e])
    have h8:(x.1.2.2.2 != x.2.2.2.2)=true:=by simp [e3]
    simp only [d1,d2,h8,he,decide_false,List.all_cons,Bool.false_and];rfl
   have h8:(x.1.2.2.2 != x.2.2.2.2)=false:=by simp [e3]
   by_cases e4:x.1.2.1=x.2.2.1
   case neg =>
    have he:¬x.1=x.2:=fun e=>e4 (by rw [e])
    have d4:=decide_eq_false e4
    simp only [d1,d2,h8,d4,he,decide_false,List.all_cons,Bool.false_and];rfl
   have d4:=decide_eq_true e4
   have he:decide (x.1=x.2)=true:=decide_eq_true (Prod.ext e1 (Prod.ext e4 (Prod.ext e2 e3)))
   simp only [d1,d2,h8,d4,he,List.all_cons,Bool.true_and];exact ih () trivial)
  () trivial
 rw [uq a.1 b.1 hl] at key
 have iZ:(decide (a.1=b.1)&&decide (a.2=b.2))=decide (a=b):=by
  rw [Bool.eq_iff_iff];simp [Prod.ext_iff]
 exact key.trans (congrArg (fun b:Bool=>some ((b,()),())) iZ)
theorem LI(hG:HG G)(a b:StateT)(hs:Sm a.1)(hg:a.2.length≤50000000):FX G 16 BN ((a,b,()),())=some ((decide (a=b),()),()):=by
 refine au (fn:=Tryz.f16) (hG _ _ rfl) (by kernel_rfl) (by kernel_rfl) ((ab5 _ _ _).trans ?_)
 refine aa (adG hG a.1 b.1 hs) ?_
 refine aa (adF (hG _ _ rfl) a.2 b.2 (by omega)) ?_
 have iZ:(decide (a.1=b.1)&&decide (a.2=b.2))=decide (a=b):=by
  rw [Bool.eq_iff_iff];simp [Prod.ext_iff]
 rw [←iZ]
 by_cases h:a.1=b.1
 ·simp only [h,decide_true,Bool.true_and];rfl
 ·simp only [h,decide_false,Bool.false_and];rfl
end Go.Vs
namespace Go.Vs
open Go.Proofs
variable {G:(f:FuncId)→(g:aJ)→Option (g.A→Option g.B)}
def mE(g:ak)(l:List ak):List ak:=l.filter fun q=>decide (q.1≠g.1)
def kG(g:ak):List ak→List ak
 | []=>[g]
 | e::r=>if mD g.1 e.1≤0 then g::mE g (e::r) else if e.1≠g.1 then e::kG g r else kG g r
def bK(l:List ak)(g:ak):List ak:=if (fN l g.1).isSome=false∧400≤l.length then l else kG g l
def LJ(g:ak)(put:Bool)(r:List ak):List ak:=if put then mE g r else kG g r
theorem YM(hG:HG G)(l:List ak)(g:ak)(hl:l.length≤50000000) :
  LX G 73 xj Tryz.f73 ki (aP Tryz.prog 73 0) ((l,(false,((0:Int),()))),(((g,()),()),(([]:List ak),())))=some ((kG g l,()),()):=by
 have key:=bT l (fun i (s:Bool×List ak)=>LX G 73 xj Tryz.f73 ki (aP Tryz.prog 73 0) ((l,(s.1,(i,()))),(((g,()),()),(s.2,()))))
  (fun (r:List ak) (s:Bool×List ak)=>((s.2++LJ g s.1 r,()),())) (fun n s=>s.2.length+n≤l.length+(if s.1 then 1 else 0))
  (fun s hs=>by
   obtain ⟨put,s⟩:=s
   refine ar (j:=0) (by kernel_rfl) ((Oy _ _ _).trans ?_)
   have h7:aM s.length [g].length=true:=fits (by simp at hs ⊢;split at hs<;>omega)
   cases put
   ·simp only [dd,h7,LJ,kG];rfl
   ·simp only [dd,LJ,if_true,mE,List.filter_nil,List.append_nil];rfl)
  (fun i y r s hi hx BX hs ih=>by
   obtain ⟨put,s⟩:=s
   refine ar (j:=0) (by kernel_rfl) ((Oy _ _ _).trans ?_)
   have h6:aM s.length [y].length=true:=fits (by simp at hs ⊢;split at hs<;>omega)
   have hw:=aI hi (show l.length≤1073741824 by omega)
   cases put
   ·have h7:aM s.length [g].length=true:=fits (by simp at hs ⊢;omega)
    have h8:aM (s++[g]).length [y].length=true:=fits (by simp at hs ⊢;omega)
    simp only [aT hi,aK hx,Option.bind_some,hw]
    refine aa (Yx hG g.1 y.1) ?_
    by_cases ho:mD g.1 y.1≤0
    ·have d0:=decide_eq_true ho
     by_cases hy:y.1=g.1
     ·have d1:=decide_eq_true hy
      have:=ih (true,s++[g]) (by simp at hs ⊢;omega)
      simp only [d0,h7,kj,d1,LJ,kG,ho,if_true,Bool.false_eq_true,if_false]
      refine this.trans (congrArg (fun l:List ak=>some ((l,()),())) ?_)
      simp [LJ,mE,hy]
     ·have d1:=decide_eq_false hy
      have:=ih (true,(s++[g])++[y]) (by simp at hs ⊢;omega)
      simp only [d0,h7,h8,kj,d1,LJ,kG,ho,if_true,Bool.false_eq_true,if_false]
      refine this.trans (congrArg (fun l:List ak=>some ((l,()),())) ?_)
      simp [LJ,mE,hy]
    ·have d0:=decide_eq_false ho
     by_cases hy:y.1=g.1
     ·have d1:=decide_eq_true hy
      have:=ih (false,s) (by simp at hs ⊢;omega)
      simp only [d0,kj,d1,LJ,kG,ho,Bool.false_eq_true,if_false]
      refine this.trans (congrArg (fun l:List ak=>some ((l,()),())) ?_)
      simp [LJ,hy]
     ·have d1:=decide_eq_false hy
      have:=ih (false,s++[y]) (by simp at hs ⊢;omega)
      simp only [d0,h6,kj,d1,LJ,kG,ho,Bool.false_eq_true,if_false]
      refine this.trans (congrArg (fun l:List ak=>some ((l,()),())) ?_)
      simp [LJ,hy]
   ·by_cases hy:y.1=g.1
    ·have d1:=decide_eq_true hy
     have:=ih (true,s) (by simp at hs ⊢;omega)
     simp only [aT hi,aK hx,Option.bind_some,hw,kj,d1]
     refine this.trans (congrArg (fun l:List ak=>some ((l,()),())) ?_)
     simp [LJ,mE,hy]
    ·have d1:=decide_eq_false hy
     have:=ih (true,s++[y]) (by simp at hs ⊢;omega)
     simp only [aT hi,aK hx,Option.bind_some,hw,kj,d1,h6]
     refine this.trans (congrArg (fun l:List ak=>some ((l,()),())) ?_)
     simp [LJ,mE,hy])
  (false,[]) (by simp)
 exact key
theorem RE(hG:HG G)(l:List ak)(g:ak)(hl:l.length≤50000000):FX G 73 xj ((l,g,()),())=some ((bK l g,()),()):=by
 refine au (fn:=Tryz.f73) (hG _ _ rfl) (by kernel_rfl) (by kernel_rfl) ((acT _ _ _).trans ?_)
 refine aa (Td (hG _ _ rfl) l g.1 (by omega)) ?_
 rw [show (oS zD (fN l g.1)).2.1=(fN l g.1).isSome from gQ _ _]
 unfold bK
 cases hf:(fN l g.1).isSome
 ·by_cases hn:400≤l.length
  ·have h1:decide (((l.length:Nat):Int)≥400)=true:=by simp;omega
   rw [if_pos ⟨rfl,hn⟩]
   simp only [h1];rfl
  ·have h1:decide (((l.length:Nat):Int)≥400)=false:=by simp;omega
   rw [if_neg (by simp [hn])]
   simp only [h1];exact YM hG l g hl
 ·rw [if_neg (by simp)]
  exact YM hG l g hl
def res(d:ai)(gn:List ak):Nat→ab→ab
 | 0,_=>zD
 | n+1,x=>if (cr d x).isSome then x else match fN gn x with
  | none=>zD
  | some y=>res d gn n y
def resolve(s:StateT)(x:ab):ab:=res s.1 s.2 (s.2.length+1) x
theorem adH(hG:HG G)(s:StateT)(x:ab)(hs:Sm s.1)(hg:s.2.length≤50000000):FX G 98 FY ((s,x,()),())=some ((resolve s x,()),()):=by
 refine au (fn:=Tryz.f98) (hG _ _ rfl) (by kernel_rfl) (by kernel_rfl) ((adb _ _ _).trans ?_)
 have hv:=hs.v
 have loop:∀(n i:Nat) (y:ab),i+n=s.2.length+1→LX G 98 FY Tryz.f98 Ar (aP Tryz.prog 98 0) (((i:Int),()),((s,()),((y,()),(((((0:Int),(0:Int)),(0:Int)),()),()))),())=some ((res s.1 s.2 n y,()),()):=by
  intro n
  induction n with
  | zero =>
   intro i y hi
   refine ar (j:=0) (by kernel_rfl) ((OF _ _ _).trans ?_)
   have h1:decide ((i:Int)≤((s.2.length:Nat):Int))=false:=by simp;omega
   simp only [h1];rfl
  | succ n ih =>
   intro i y hi
   refine ar (j:=0) (by kernel_rfl) ((OF _ _ _).trans ?_)
   have h1:decide ((i:Int)≤((s.2.length:Nat):Int))=true:=by simp;omega
   have hw:IntKind.wrap .i64 ((i:Int)+1)=((i+1:Nat):Int):=by rw [wrap_small (by omega) (by omega)];rfl
   simp only [h1,hw]
   refine aa (GF hG s.1 y (by omega) (fun w hw=>by have:=hs.r w hw;omega)) ?_
   rw [show (oS zI (cr s.1 y)).2.1=(cr s.1 y).isSome from gQ _ _,res]
   cases ha:(cr s.1 y).isSome
   ·simp only [Bool.false_eq_true,if_false]
    refine aa (Td (hG _ _ rfl) s.2 y (by omega)) ?_
    cases hf:fN s.2 y with
    | none=>rfl
    | some z=>exact ih (i+1) z (by omega)
   ·rfl
 exact loop (s.2.length+1) 0 x (by omega)
def zC:oX:=(zI,zD)
def ux(s:StateT)(c:oX)(v:ah):ab:=if resolve s c.2∈v.2.1 then resolve s c.2 else zD
def aU(s:StateT)(c:oX):oX×(Int×Unit):=match bj s.1 c.1 with
 | none=>(zC,(13,()))
 | some v=>((c.1,ux s c v),(0,()))
theorem YN(hG:HG G)(s:StateT)(c:oX)(hs:Sm s.1)(hg:s.2.length≤50000000):FX G 70 Lt ((s,c,()),())=some (aU s c,()):=by
 have hv:=hs.v
 refine au (fn:=Tryz.f70) (hG _ _ rfl) (by kernel_rfl) (by kernel_rfl) ((acQ _ _ _).trans ?_)
 refine aa (BW (hG _ _ rfl) s.1 c.1 (by omega)) ?_
 unfold aU
 cases hf:bj s.1 c.1 with
 | none=>rfl
 | some v =>
  have hr:v.2.1.length≤50000000:=hs.r v (List.mem_of_find?_eq_some hf)
  refine aa (adH hG s c.2 hs hg) ?_
  refine aa (Ei (hG _ _ rfl) v.2.1 (resolve s c.2) (by omega)) ?_
  by_cases hm:resolve s c.2∈v.2.1
  ·have h1:decide (idx (resolve s c.2) v.2.1 0<0)=false:=decide_eq_false (fun h=>dX.1 h hm)
   have h2:ux s c v=resolve s c.2:=if_pos hm
   simp only [h1]
   exact congrArg (fun z:ab=>some (((c.1,z),((0:Int),())),())) h2.symm
  ·have h1:decide (idx (resolve s c.2) v.2.1 0<0)=true:=decide_eq_true (dX.2 hm)
   have h2:ux s c v=zD:=if_neg hm
   simp only [h1]
   exact congrArg (fun z:ab=>some (((c.1,z),((0:Int),())),())) h2.symm
def aq(x:ab):ab:=(x.1,IntKind.wrap .i64 (1 - x.2))
def nm(d:ai)(x:ab):Option ab:=match cr d x with
 | none=>none
 | some a=>dw (bJ d a) x 1
theorem adI(hG:HG G)(d:ai)(x:ab)(hs:Sm d):FX G 78 NU ((d,x,()),())=some (GA (nm d x),()):=by
 have hv:=hs.v
 refine au (fn:=Tryz.f78) (hG _ _ rfl) (by kernel_rfl) (by kernel_rfl) ((acY _ _ _).trans ?_)
 refine aa (GF hG d x (by omega) (fun w hw=>by have:=hs.r w hw;omega)) ?_
 unfold nm
 cases ha:cr d x with
 | none=>rfl
 | some a =>
  have hr:=nk hs a
  refine aa (BW (hG _ _ rfl) d a (by omega)) ?_
  rw [show (oS zV (bj d a)).1=(bj d a).getD zV from jM _ _]
  exact aa (Yz hG (bJ d a) x (by omega)) rfl
def GG(d:ai)(x:ab):Option ab:=if (cr d x).isSome then nm d (aq x) else none
theorem YO(hG:HG G)(d:ai)(x:ab)(hs:Sm d):FX G 54 Lo ((d,x,()),())=some (GA (GG d x),()):=by
 have hv:=hs.v
 refine au (fn:=Tryz.f54) (hG _ _ rfl) (by kernel_rfl) (by kernel_rfl) ((acE _ _ _).trans ?_)
 refine aa (GF hG d x (by omega) (fun w hw=>by have:=hs.r w hw;omega)) ?_
 rw [show (oS zI (cr d x)).2.1=(cr d x).isSome from gQ _ _]
 unfold GG
 cases ha:(cr d x).isSome
 ·rfl
 ·refine aa (UD (hG _ _ rfl) x) ?_
  exact aa (adI hG d (aq x) hs) rfl
def qi(d:ai)(x:ab):Nat→ab→List ab→List ab
 | 0,_,out=>out
 | n+1,y,out=>if y=x then out else qi d x n ((GG d y).getD zD) (out++[y])
def aY(d:ai)(x:ab):List ab:=match GG d x with
 | none=>[]
 | some y=>qi d x 81 y [x]
theorem adJ(hG:HG G)(d:ai)(x:ab)(hs:Sm d):FX G 22 FF ((d,x,()),())=some ((aY d x,()),()):=by
 refine au (fn:=Tryz.f22) (hG _ _ rfl) (by kernel_rfl) (by kernel_rfl) ((acb _ _ _).trans ?_)
 refine aa (YO hG d x hs) ?_
 unfold aY
 cases hp:GG d x with
 | none=>rfl
 | some y =>
  have h5:aM ([]:List ab).length [x].length=true:=fits (by simp)
  have loop:∀(n:Nat) (y:ab) (out:List ab),out.length+n=82→LX G 22 FF Tryz.f22 z8 (aP Tryz.prog 22 0) ((),((d,()),((x,()),((y,()),()))),(out,()))=some ((qi d x n y out,()),()):=by
   intro n
   induction n with
   | zero =>
    intro y out ho
    refine ar (j:=0) (by kernel_rfl) ((N3 _ _ _).trans ?_)
    have h1:decide (((out.length:Nat):Int)<82)=false:=by simp;omega
    simp only [kj,h1]
    by_cases hy:y=x
    ·have d1:=decide_eq_true hy
     simp only [d1];rfl
    ·have d1:=decide_eq_false hy
     simp only [d1];rfl
   | succ n ih =>
    intro y out ho
    refine ar (j:=0) (by kernel_rfl) ((N3 _ _ _).trans ?_)
    have h1:decide (((out.length:Nat):Int)<82)=true:=by simp;omega
    have h6:aM out.length [y].length=true:=fits (by simp;omega)
    simp only [kj,h1,h6]
    rw [qi]
    by_cases hy:y=x
    ·have d1:=decide_eq_true hy
     rw [if_pos hy]
     simp only [d1];rfl
    ·have d1:=decide_eq_false hy
     rw [if_neg hy]
     simp only [d1]
     refine aa (YO hG d y hs) ?_
     rw [show (GA (GG d y)).1=(GG d y).getD zD from xW _]
     exact ih ((GG d y).getD zD) (out++[y]) (by simp;omega)
  exact loop 81 y [x] (by simp)
theorem CO(d:ai)(x:ab):∀(n:Nat) (y:ab) (out:List ab),(qi d x n y out).length≤out.length+n
 | 0,_,out=>Nat.le_refl _
 | n+1,y,out=>by
  unfold qi
  split
  ·omega
  ·have:=CO d x n ((GG d y).getD zD) (out++[y]);simp at this;omega
theorem CP(d:ai)(x:ab):(aY d x).length≤82:=by
 unfold aY
 cases GG d x with
 | none=>simp
 | some y=>have:=CO d x 81 y [x];simpa using this
def dY:List af→List ab
 | []=>[]
 | e::r=>(e.1,0)::(e.1,1)::dY r
theorem lD:∀l:List af,(dY l).length=2 * l.length
 | []=>rfl
 | e::r=>by simp [dY,lD r];omega
theorem adK(hG:G 59 D3=none)(d:ai)(hs:Sm d):FX G 59 D3 ((d,()),())=some ((dY d.2,()),()):=by
 have he:=hs.e
 refine au (fn:=Tryz.f59) hG (by kernel_rfl) (by kernel_rfl) ((acI _ _ _).trans ?_)
 have key:=bT d.2 (fun i (s:List ab)=>LX G 59 D3 Tryz.f59 Ao (aP Tryz.prog 59 0) ((i,()),(((d,()),()),(s,())))) (fun (r:List af) (s:List ab)=>((s++dY r,()),())) (fun n s=>s.length+2 * n≤2 * d.2.length)
  (fun s _=>by
   refine ar (j:=0) (by kernel_rfl) ((Ov _ _ _).trans ?_)
   simp only [dd,dY,List.append_nil];rfl)
  (fun i y r s hi hx BX hs ih=>by
   refine ar (j:=0) (by kernel_rfl) ((Ov _ _ _).trans ?_)
   have h6:aM s.length [((y.1,(0:Int)):ab),(y.1,(1:Int))].length=true:=fits (by simp;omega)
   simp only [aT hi,aK hx,Option.bind_some,h6,aI hi (show d.2.length≤1073741824 by omega)]
   have:=ih (s++[(y.1,0),(y.1,1)]) (by simp;omega)
   refine this.trans (congrArg (fun l:List ab=>some ((l,()),())) ?_)
   simp [dY])
  [] (by simp)
 exact key
def gR(d:ai):List ab→List (List ab)→List ab→List (List ab)
 | [],out,_=>out
 | x::r,out,told=>if x∈told then gR d r out told else gR d r (out++[aY d x]) (told++aY d x)
def dH(d:ai):List (List ab):=gR d (dY d.2) [] []
theorem adL(hG:HG G)(d:ai)(hs:Sm d)(he:d.2.length≤5000000):FX G 31 FH ((d,()),())=some ((dH d,()),()):=by
 refine au (fn:=Tryz.f31) (hG _ _ rfl) (by kernel_rfl) (by kernel_rfl) ((acj _ _ _).trans ?_)
 refine aa (adK (hG _ _ rfl) d hs) ?_
 have wU:=lD d.2
 unfold dH
 generalize dY d.2=ds at *
 have key:=bT ds (fun i (s:List (List ab)×List ab)=>LX G 31 FH Tryz.f31 vq (aP Tryz.prog 31 0) ((i,()),(((d,()),()),(s.1,(s.2,(ds,())))))) (fun (r:List ab) (s:List (List ab)×List ab)=>((gR d r s.1 s.2,()),()))
  (fun n s=>s.1.length+n≤ds.length∧s.2.length+82 * n≤82 * ds.length)
  (fun s _=>by
   refine ar (j:=0) (by kernel_rfl) ((N8 _ _ _).trans ?_)
   simp only [dd];rfl)
  (fun i y r s hi hx BX hs' ih=>by
   obtain ⟨out,told⟩:=s
   obtain ⟨b1,b2⟩:=hs'
   simp only at b1 b2
   refine ar (j:=0) (by kernel_rfl) ((N8 _ _ _).trans ?_)
   simp only [aT hi,eI,Bool.and_self,Int.toNat_natCast,hx,Option.bind_some,aI hi (show ds.length≤1073741824 by omega)]
   refine aa (Ei (hG _ _ rfl) told y (by omega)) ?_
   rw [gR]
   by_cases hm:y∈told
   ·have d1:decide (idx y told 0≥0)=true:=decide_eq_true (by obtain ⟨k,h,_⟩:=eW hm;omega)
    rw [if_pos hm]
    simp only [d1]
    exact ih (out,told) ⟨by simp only;omega,by simp only;omega⟩
   ·have d1:decide (idx y told 0≥0)=false:=decide_eq_false (by have:=dX.2 hm;omega)
    rw [if_neg hm]
    simp only [d1]
    refine aa (adJ hG d y hs) ?_
    have htl:=CP d y
    have h6:aM out.length [aY d y].length=true:=fits (by simp;omega)
    have h7:aM told.length (aY d y).length=true:=fits (by omega)
    simp only [h6,h7]
    exact ih (out++[aY d y],told++aY d y) ⟨by simp;omega,by simp;omega⟩)
  ([],[]) ⟨by simp,by simp⟩
 exact key
end Go.Vs
