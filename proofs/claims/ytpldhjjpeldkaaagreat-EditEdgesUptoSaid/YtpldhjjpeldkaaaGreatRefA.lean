/- What the document's reference computes, written plainly, the first part. -/
import Derived.Test.YtpldhjjpeldkaaaGreatEngineD
import Derived.Test.YtpldhjjpeldkaaaGreatNormalA
import Derived.Test.YtpldhjjpeldkaaaGreatNormalB
import Derived.Test.YtpldhjjpeldkaaaGreatNormalC
set_option linter.unusedVariables false
set_option linter.unusedSimpArgs false
namespace Go.Vs
open Go.Proofs
variable {G:(f:FuncId)→(g:aL)→Option (g.A→Option g.B)}
theorem aa{α β:Type}{o:Option α}{f:α→Option β}{a:α}{r:Option β}(h:o=some a)(k:f a=r):o.bind f=r:=by rw[h];exact k
theorem aR{α:Type}{l:List α}{i:Nat}{x:α}(h:l[i]? = some x):br l (i:Int)=some x:=by
 have hl:=(List.getElem?_eq_some_iff.1 h).1
 simp[br,h]
theorem wrap_small{n:Int}(h0 : -9223372036854775808≤n)(h1:n<9223372036854775808):IntKind.wrap .i64 n=n:=by
 unfold IntKind.wrap
 simp[IntKind.bits,IntKind.signed]
 omega
theorem aN{i n:Nat}(h:i<n)(hn:n≤1073741824):IntKind.wrap .i64 ((i:Int)+1)=((i+1:Nat):Int):=by
 rw[wrap_small (by omega) (by omega)];rfl
theorem bm{i n:Nat}(h:i<n):decide ((i:Int)<((n:Nat):Int))=true:=by simpa using h
theorem dO(n:Nat):decide (((n:Nat):Int)<((n:Nat):Int))=false:=by simp
theorem fits{n m:Nat}(h:n+m≤1073741824):aP n m=true:=decide_eq_true h
theorem jT(a b:ID):((a.1==b.1)&&(a.2==b.2))=decide (a=b):=by
 obtain⟨a1,a2⟩:=a;obtain⟨b1,b2⟩:=b
 rw[Bool.eq_iff_iff];simp
theorem ki(a b:ab):(((a.1.1==b.1.1)&&(a.1.2==b.1.2))&&(a.2==b.2))=decide (a=b):=by
 obtain⟨⟨a1,a2⟩,a3⟩:=a;obtain⟨⟨b1,b2⟩,b3⟩:=b
 rw[Bool.eq_iff_iff];simp[and_assoc]
theorem Xt(a b:ByteArray):(a==b)=decide (a=b):=by
 obtain⟨a⟩:=a;obtain⟨b⟩:=b
 show(a==b)=_
 rw[Bool.eq_iff_iff];simp
theorem ck{α S R:Type}(l:List α)(L:Int→S→Option R)(g:List α→S→R)(inv:Nat→S→Prop)
  (agi:∀s,inv 0 s→L ((l.length:Nat):Int) s=some (g [] s))
  (aa4:∀(i:Nat) (x:α) (r:List α) (s:S),i<l.length→l[i]? = some x→i+r.length+1=l.length→inv (r.length+1) s→(∀s',inv r.length s'→L ((i+1:Nat):Int) s'=some (g r s'))→L (i:Int) s=some (g (x::r) s)) :
  ∀s,inv l.length s→L 0 s=some (g l s):=by
 have key:∀(r p:List α),p++r=l→∀s,inv r.length s→L ((p.length:Nat):Int) s=some (g r s):=by
  intro r
  induction r with
  |nil=>intro p hp s hs;rw[List.append_nil]at hp;subst hp;exact agi s hs
  |cons x r ih =>
   intro p hp s hs
   refine aa4 p.length x r s ?_ ?_ ?_ hs (fun s' hs' => ?_)
   ·rw[←hp];simp
   ·rw[←hp];simp
   ·rw[←hp];simp;omega
   ·have:=ih (p++[x]) (by simp[hp]) s' hs';simpa using this
 intro s hs;exact key l [] rfl s hs
def zD:ab:=((0,0),0)
def cZ(x:ID):Bool:=decide (1≤x.1∧x.1≤8∧1≤x.2∧x.2≤1048576)
def gq(a b:ID):Bool:=decide (a.1<b.1∨(a.1=b.1∧a.2<b.2))
def rB(a b:ID):Int:=if a=b then 0 else if gq a b then -1 else 1
def lp(a b:ab):Bool:=gq a.1 b.1 || (decide (a.1=b.1)&&decide (a.2<b.2))
def nP(a b:ab):Int:=if a=b then 0 else if lp a b then -1 else 1
def It(d:ab):Bool:=cZ d.1&&decide (d.2=0∨d.2=1)
theorem NH(hG:G 19 By=none)(x:ID):FX G 19 By ((x,()),())=some ((cZ x,()),()):=by
 refine aA (fn:=Tryz.f19) hG (by kernel_rfl) (by kernel_rfl) ((aeT _ _ _).trans ?_)
 obtain⟨a,b⟩:=x
 show(cond (decide (a≥1)) (cond (decide (a≤8)) (cond (decide (b≥1)) (some ((decide (b≤1048576),()),())) (some ((false,()),()))) (some ((false,()),()))) (some ((false,()),())):Option ((Bool×Unit)×Unit))=some ((cZ (a,b),()),())
 unfold cZ
 simp only[cond_eq_ite]
 by_cases h1:(1:Int)≤a<;>by_cases h2:a≤8<;>by_cases h3:(1:Int)≤b<;>simp[h1,h2,h3]
theorem Rc(hG:G 23 zp=none)(d:ab):FX G 23 zp ((d,()),())=some (((d.1,IntKind.wrap .i64 (1-d.2)),()),()) :=
 aA hG (by kernel_rfl) (by kernel_rfl) (aeX _ _ _)
theorem Xu(hG:G 69 HM=none)(a b:ID):FX G 69 HM ((a,b,()),())=some ((rB a b,()),()):=by
 refine aA (fn:=Tryz.f69) hG (by kernel_rfl) (by kernel_rfl) ((afz _ _ _).trans ?_)
 obtain⟨a1,a2⟩:=a
 obtain⟨b1,b2⟩:=b
 unfold rB gq
 show(cond ((a1==b1)&&(a2==b2)) (some (((0:Int),()),())) (cond (decide (a1<b1)) (some (((-1:Int),()),())) (cond (a1==b1) (cond (decide (a2<b2)) (some (((-1:Int),()),())) (some (((1:Int),()),()))) (some (((1:Int),()),())))):Option ((Int×Unit)×Unit))=some (((if(a1,a2)=(b1,b2) then 0 else if(decide (a1<b1∨(a1=b1∧a2<b2)))=true then -1 else 1:Int),()),())
 by_cases h1:a1=b1<;>by_cases h2:a2=b2<;>by_cases h3:a1<b1<;>by_cases h4:a2<b2<;>first|(exfalso;omega)|(simp only[cond_eq_ite];simp[h1,h2,h3,h4];done)|(subst h1;simp only[cond_eq_ite];simp[h2,h4])
theorem aa5(hG:HG G)(a b:ab):FX G 62 No ((a,b,()),())=some ((nP a b,()),()):=by
 refine aA (fn:=Tryz.f62) (hG _ _ rfl) (by kernel_rfl) (by kernel_rfl) ((afv _ _ _).trans ?_)
 refine aa (Xu (hG _ _ rfl) a.1 b.1) ?_
 obtain⟨a1,a2⟩:=a
 obtain⟨b1,b2⟩:=b
 show(cond (rB a1 b1 != 0) (some ((rB a1 b1,()),())) (cond (decide (a2<b2)) (some (((-1:Int),()),())) (cond (decide (a2>b2)) (some (((1:Int),()),())) (some (((0:Int),()),())))):Option ((Int×Unit)×Unit))=some ((nP (a1,a2) (b1,b2),()),())
 unfold nP lp rB
 simp only[cond_eq_ite]
 by_cases h1:a1=b1
 ·subst h1
  have hl:gq a1 a1=false:=by simp[gq]
  by_cases h2:a2=b2
  ·subst h2;simp
  ·by_cases h3:a2<b2
   ·simp[h2,h3,hl]
   ·have:a2>b2:=by omega
    simp[h2,h3,hl,this]
 ·by_cases h2:gq a1 b1=true<;>simp[h1,h2]
theorem agk(hG:HG G)(d:ab):FX G 97 P9 ((d,()),())=some ((It d,()),()):=by
 refine aA (fn:=Tryz.f97) (hG _ _ rfl) (by kernel_rfl) (by kernel_rfl) ((afU _ _ _).trans ?_)
 refine aa (NH (hG _ _ rfl) d.1) ?_
 obtain⟨d1,d2⟩:=d
 show(cond (cZ d1) (cond (d2==0) (some ((true,()),())) (some (((d2==1),()),()))) (some ((false,()),())):Option ((Bool×Unit)×Unit))=some ((It (d1,d2),()),())
 unfold It
 simp only[cond_eq_ite]
 by_cases h1:cZ d1=true<;>by_cases h2:d2=0<;>simp[h1,h2]
 rw[Bool.eq_iff_iff];simp
def idx(d:ab):List ab→Int→Int
 |[],_ => -1
 |e::r,i=>if e=d then i else idx d r (i+1)
theorem agl(row:List ab)(d:ab)(hl:row.length≤1073741824):∀(n i:Nat),i+n=row.length→LX G 24 qB Tryz.f24 BQ (aY Tryz.prog 24 0) ((row,((i:Int),())),(((d,()),()),()))=some ((idx d (row.drop i) i,()),()):=by
 intro n
 induction n with
 |zero =>
  intro i hi
  refine aB (j:=0) (by kernel_rfl) ((Qg _ _ _).trans ?_)
  have h1:¬((i:Int)<(row.length:Int)):=by omega
  have h2:row.drop i=[]:=List.drop_eq_nil_of_le (by omega)
  simp only[h1,h2,decide_false,cond_false,idx]
  rfl
 |succ n ih =>
  intro i hi
  refine aB (j:=0) (by kernel_rfl) ((Qg _ _ _).trans ?_)
  have aM:i<row.length:=by omega
  have h1:((i:Int)<(row.length:Int)):=by omega
  have h2:row.drop i=row[i]::row.drop (i+1):=List.drop_eq_getElem_cons aM
  have h3:br row (i:Int)=some row[i]:=by simp[br,aM]
  have h4:IntKind.wrap .i64 ((i:Int)+1)=((i+1:Nat):Int):=by rw[wrap_small (by omega) (by omega)];rfl
  have h5:=ih (i+1) (by omega)
  rw[h2,idx]
  simp only[h1,decide_true,cond_true,h3,Option.bind_some,h4,ki]
  by_cases he:row[i]=d
  ·rw[if_pos he];simp only[he,decide_true];rfl
  ·rw[if_neg he];simp only[he,decide_false]
   exact h5
theorem DB(hG:G 24 qB=none)(row:List ab)(d:ab)(hl:row.length≤1073741824):FX G 24 qB ((row,d,()),())=some ((idx d row 0,()),()):=by
 refine aA (fn:=Tryz.f24) hG (by kernel_rfl) (by kernel_rfl) ((aeY _ _ _).trans ?_)
 exact agl (G:=G) row d hl row.length 0 (by omega)
theorem lQ(d:ab):∀(row:List ab) (i:Int),0≤i→(idx d row i = -1∧d∉row)∨(∃k:Nat,idx d row i=i+k∧row[k]? = some d∧d∉row.take k)
 |[],i,_=>.inl ⟨rfl,by simp⟩
 |e::r,i,h=>by
  unfold idx
  by_cases he:e=d
  ·right;exact⟨0,by simp[he],by simp[he],by simp⟩
  ·rw[if_neg he]
   rcases lQ d r (i+1) (by omega) with⟨h1,h2⟩|⟨k,h1,h2,h3⟩
   ·exact .inl ⟨h1,by simp[h2,Ne.symm he]⟩
   ·exact .inr ⟨k+1,by rw[h1];omega,by simpa using h2,by simp[h3,Ne.symm he]⟩
theorem fb{d:ab}{row:List ab}:idx d row 0<0↔d∉row:=by
 rcases lQ d row 0 (by omega) with⟨h1,h2⟩|⟨k,h1,h2,_⟩
 ·simp[h1,h2]
 ·have:=List.mem_of_getElem? h2
  simp[this];omega
theorem eP{d:ab}{row:List ab}(h:d∈row):∃k:Nat,idx d row 0=k∧row[k]? = some d∧d∉row.take k:=by
 rcases lQ d row 0 (by omega) with⟨_,h2⟩|⟨k,h1,h2,h3⟩
 ·exact absurd h h2
 ·exact⟨k,by omega,h2,h3⟩
theorem Ah{α:Type}[DecidableEq α]:∀(a b:List α),a.length=b.length→(a.zip b).all (fun p=>decide (p.1=p.2))=decide (a=b)
 |[],[],_=>by simp
 |[],_::_,h=>by simp at h
 |_::_,[],h=>by simp at h
 |x::a,y::b,h=>by
  simp only[List.zip_cons_cons,List.all_cons,Ah a b (by simpa using h)]
  rw[Bool.eq_iff_iff];simp
theorem FO{α:Type}{a b:List α}{i:Nat}{x:α×α}(h:(a.zip b)[i]? = some x):a[i]? = some x.1∧b[i]? = some x.2:=by
 obtain⟨x1,x2⟩:=x
 exact List.getElem?_zip_eq_some.1 h
theorem agm(hG:HG G)(a b:List ab)(ha:a.length≤1073741824):FX G 57 HI ((a,b,()),())=some ((decide (a=b),()),()):=by
 refine aA (fn:=Tryz.f57) (hG _ _ rfl) (by kernel_rfl) (by kernel_rfl) ((afq _ _ _).trans ?_)
 by_cases hl:a.length=b.length
 case neg =>
  have h1:((((a.length:Nat):Int)) != ((b.length:Nat):Int))=true:=by simp;omega
  have h2:¬a=b:=fun e=>hl (by rw[e])
  simp only[h1,h2,decide_false]
  rfl
 have h1:((((a.length:Nat):Int)) != ((b.length:Nat):Int))=false:=by simp[hl]
 simp only[h1]
 have FH:(a.zip b).length=a.length:=by simp[hl]
 have key:=ck (a.zip b) (fun i (_:Unit)=>LX G 57 HI Tryz.f57 BZ (aY Tryz.prog 57 0) ((a,(b,(i,()))),((),()))) (fun r _=>((r.all (fun p=>decide (p.1=p.2)),()),())) (fun _ _=>True)
  (fun s _=>by
   refine aB (j:=0) (by kernel_rfl) ((QA _ _ _).trans ?_)
   rw[FH]
   simp only[dO,cond_false];rfl)
  (fun i x r s hi hx hr _ ih=>by
   rw[FH]at hi
   obtain⟨h3,h4⟩:=FO hx
   refine aB (j:=0) (by kernel_rfl) ((QA _ _ _).trans ?_)
   simp only[bm hi,cond_true,aR h3,aR h4,Option.bind_some,ki,aN hi ha]
   by_cases he:x.1=x.2
   ·simp only[he,decide_true,Bool.not_true,cond_false,List.all_cons,Bool.true_and];exact ih () trivial
   ·simp only[he,decide_false,Bool.not_false,cond_true,List.all_cons,Bool.false_and];rfl)
  () trivial
 rw[Ah a b hl]at key
 exact key
end Go.Vs
namespace Go.Vs
open Go.Proofs
variable {G:(f:FuncId)→(g:aL)→Option (g.A→Option g.B)}
def dd(row:List ab)(d:ab)(by_:Nat):Option ab:=if d∈row then row[((idx d row 0).toNat+by_)%row.length]? else none
def Iu:Option ab→ab×(Bool×Unit)
 |some y=>(y,(true,()))
 |none=>(zD,(false,()))
theorem rC(a n:Nat):Int.tmod (a:Int) (n:Int)=((a%n:Nat):Int):=by
 rw[Int.tmod_eq_emod_of_nonneg (by omega)];rfl
theorem FP{row:List ab}{d:ab}(h:d∈row):((((row.length:Nat):Int))==0)=false:=by
 have:=List.length_pos_of_mem h
 simp;intro e;subst e;simp at h
theorem Ua(hG:HG G)(row:List ab)(d:ab)(hl:row.length≤1073741824):FX G 26 zq ((row,d,()),())=some (Iu (dd row d (row.length-1)),()):=by
 refine aA (fn:=Tryz.f26) (hG _ _ rfl) (by kernel_rfl) (by kernel_rfl) ((ae0 _ _ _).trans ?_)
 refine aa (DB (hG _ _ rfl) row d hl) ?_
 by_cases h:d∈row
 ·obtain⟨k,h1,h2,h3⟩:=eP h
  have hk:=(List.getElem?_eq_some_iff.1 h2).1
  have hm:(k+(row.length-1))%row.length<row.length:=Nat.mod_lt _ (by omega)
  have e1:IntKind.wrap .i64 (IntKind.wrap .i64 ((k:Int)+((row.length:Nat):Int))-1)=((k+(row.length-1):Nat):Int):=by
   rw[wrap_small (n:=(k:Int)+((row.length:Nat):Int)) (by omega) (by omega),wrap_small (by omega) (by omega)];omega
  have e2:¬((k:Int)<0):=by omega
  have e4:row[(k+(row.length-1))%row.length]? = some row[(k+(row.length-1))%row.length]:=List.getElem?_eq_getElem hm
  have e3:dd row d (row.length-1)=some row[(k+(row.length-1))%row.length]:=by
   unfold dd;rw[if_pos h,h1];simp
  rw[e3]
  simp only[h1,e2,decide_false,cond_false,FP h,e1,rC,aR e4,Option.bind_some]
  rfl
 ·have h1:=fb.2 h
  have e3:dd row d (row.length-1)=none:=by unfold dd;rw[if_neg h]
  rw[e3]
  simp only[h1,decide_true,cond_true]
  rfl
theorem aa6(hG:HG G)(row:List ab)(d:ab)(hl:row.length≤1073741824):FX G 104 HT ((row,d,()),())=some (Iu (dd row d 1),()):=by
 refine aA (fn:=Tryz.f104) (hG _ _ rfl) (by kernel_rfl) (by kernel_rfl) ((ZR _ _ _).trans ?_)
 refine aa (DB (hG _ _ rfl) row d hl) ?_
 by_cases h:d∈row
 ·obtain⟨k,h1,h2,h3⟩:=eP h
  have hk:=(List.getElem?_eq_some_iff.1 h2).1
  have hm:(k+1)%row.length<row.length:=Nat.mod_lt _ (by omega)
  have e1:IntKind.wrap .i64 ((k:Int)+1)=((k+1:Nat):Int):=by
   rw[wrap_small (by omega) (by omega)];omega
  have e2:¬((k:Int)<0):=by omega
  have e4:row[(k+1)%row.length]? = some row[(k+1)%row.length]:=List.getElem?_eq_getElem hm
  have e3:dd row d 1=some row[(k+1)%row.length]:=by
   unfold dd;rw[if_pos h,h1];simp
  rw[e3]
  simp only[h1,e2,decide_false,cond_false,FP h,e1,rC,aR e4,Option.bind_some]
  rfl
 ·have h1:=fb.2 h
  have e3:dd row d 1=none:=by unfold dd;rw[if_neg h]
  rw[e3]
  simp only[h1,decide_true,cond_true]
  rfl
def eZ(row:List ab):List ab→Nat→Nat→Nat
 |[],_,k=>k
 |x::r,i,k=>if nP x (row.getD k zD)<0 then eZ row r (i+1) i else eZ row r (i+1) k
def qv(row:List ab)(k:Nat):List ab:=row.drop k++row.take k
def bZ(row:List ab):List ab:=qv row (eZ row row 0 0)
theorem kC(row:List ab):∀(r:List ab) (i k:Nat),k<row.length→i+r.length=row.length→eZ row r i k<row.length
 |[],_,k,hk,_=>hk
 |x::r,i,k,hk,hi=>by
  unfold eZ
  simp at hi
  split
  ·exact kC row r (i+1) i (by omega) (by omega)
  ·exact kC row r (i+1) k hk (by omega)
theorem gM(row:List ab)(k:Nat):(qv row k).length=row.length:=by unfold qv;simp;omega
theorem gN(row:List ab):(bZ row).length=row.length:=gM _ _
theorem LV{row:List ab}{k:Nat}{d:ab}:d∈qv row k↔d∈row:=by
 unfold qv
 rw[List.mem_append,or_comm,←List.mem_append,List.take_append_drop]
theorem jL{row:List ab}{d:ab}:d∈bZ row↔d∈row:=LV
theorem sM{row:List ab}{k i:Nat}(hk:k≤row.length)(hi:i<row.length):(qv row k)[i]? = row[(k+i)%row.length]? := by
 unfold qv
 by_cases h:k+i<row.length
 ·rw[List.getElem?_append_left (by simp;omega),List.getElem?_drop,Nat.mod_eq_of_lt h]
 ·rw[List.getElem?_append_right (by simp;omega),List.length_drop,List.getElem?_take,if_pos (by omega)]
  congr 1
  have:(k+i)%row.length=k+i-row.length:=by rw[Nat.mod_eq_sub_mod (by omega),Nat.mod_eq_of_lt (by omega)]
  omega
theorem Xv(row:List ab)(k:Nat)(hl:row.length≤100000000)(hk:k≤row.length):∀(n i:Nat) (out T:List ab),i+n=row.length→T=qv row k→out=T.take i →
  LX G 77 qC Tryz.f77 B4 (aY Tryz.prog 77 1) ((row,((k:Int),((i:Int),()))),((),(out,())))=some ((T,()),()):=by
 intro n
 induction n with
 |zero =>
  intro i out T hi hT ho
  refine aB (j:=1) (by kernel_rfl) ((QH _ _ _).trans ?_)
  have h1:¬((i:Int)<(row.length:Int)):=by omega
  have h2:out=T:=by rw[ho];exact List.take_of_length_le (by rw[hT,gM];omega)
  subst h2
  simp only[h1,decide_false]
  rfl
 |succ n ih =>
  intro i out T hi hT ho
  refine aB (j:=1) (by kernel_rfl) ((QH _ _ _).trans ?_)
  have aM:i<row.length:=by omega
  have hm:(k+i)%row.length<row.length:=Nat.mod_lt _ (by omega)
  have h3:row[(k+i)%row.length]? = some row[(k+i)%row.length]:=List.getElem?_eq_getElem hm
  have h0:((((row.length:Nat):Int))==0)=false:=by simp;intro e;subst e;simp at aM
  have h4:IntKind.wrap .i64 ((k:Int)+(i:Int))=((k+i:Nat):Int):=by rw[wrap_small (by omega) (by omega)];rfl
  have VN:out.length≤row.length:=by rw[ho,hT];simp;rw[gM];omega
  have h5:aP out.length [row[(k+i)%row.length]].length=true:=fits (by simp;omega)
  have h6:out++[row[(k+i)%row.length]]=T.take (i+1):=by
   rw[ho,List.take_add_one,hT,sM hk aM,h3];rfl
  have h7:=ih (i+1) (out++[row[(k+i)%row.length]]) T (by omega) hT h6
  simp only[bm aM,h0,h4,rC,aR h3,Option.bind_some,h5,aN aM (show row.length≤1073741824 by omega)]
  exact h7
theorem Xw(hG:HG G)(row:List ab)(hl:row.length≤100000000):∀(n i k:Nat),i+n=row.length→(k<row.length∨(row=[]∧k=0)) →
  LX G 77 qC Tryz.f77 xp (aY Tryz.prog 77 0) ((row,((k:Int),((i:Int),()))),((),()))=some ((qv row (eZ row (row.drop i) i k),()),()):=by
 intro n
 induction n with
 |zero =>
  intro i k hi hk
  refine aB (j:=0) (by kernel_rfl) ((QG _ _ _).trans ?_)
  have h1:¬((i:Int)<(row.length:Int)):=by omega
  have h2:row.drop i=[]:=List.drop_eq_nil_of_le (by omega)
  simp only[h1,h2,decide_false,cond_false,eZ]
  exact Xv (G:=G) row k hl (by rcases hk with h|⟨_,h⟩<;>omega) row.length 0 [] (qv row k) (by omega) rfl (by simp)
 |succ n ih =>
  intro i k hi hk
  refine aB (j:=0) (by kernel_rfl) ((QG _ _ _).trans ?_)
  have aM:i<row.length:=by omega
  have wG:k<row.length:=hk.resolve_right (by rintro⟨rfl,_⟩;simp at aM)
  have h2:row.drop i=row[i]::row.drop (i+1):=List.drop_eq_getElem_cons aM
  have h3:row[i]? = some row[i]:=List.getElem?_eq_getElem aM
  have h4:row[k]? = some row[k]:=List.getElem?_eq_getElem wG
  have h5:row.getD k zD=row[k]:=by simp[List.getD,h4]
  simp only[bm aM,cond_true,aR h3,aR h4,Option.bind_some,aN aM (show row.length≤1073741824 by omega)]
  refine aa (aa5 hG row[i] row[k]) ?_
  rw[h2,eZ,h5]
  by_cases ho:nP row[i] row[k]<0
  ·rw[if_pos ho];simp only[ho,decide_true]
   exact ih (i+1) i (by omega) (.inl aM)
  ·rw[if_neg ho];simp only[ho,decide_false]
   exact ih (i+1) k (by omega) (.inl wG)
theorem Ix(hG:HG G)(row:List ab)(hl:row.length≤100000000):FX G 77 qC ((row,()),())=some ((bZ row,()),()):=by
 refine aA (fn:=Tryz.f77) (hG _ _ rfl) (by kernel_rfl) (by kernel_rfl) ((afH _ _ _).trans ?_)
 have:=Xw (G:=G) hG row hl row.length 0 0 (by omega) (by cases row with|nil=>exact .inr ⟨rfl,rfl⟩|cons x r=>exact .inl (by simp))
 exact this
def dI(row:List ab)(after d:ab):List ab :=
 if d∈row then bZ row else bZ (row.take ((max 0 (idx after row 0)).toNat+1)++(d::row.drop ((max 0 (idx after row 0)).toNat+1)))
def c6(row:List ab)(d:ab):List ab:=bZ (row.filter fun e=>decide (e≠d))
def fE(row:List ab)(cY d:ab):List ab:=bZ (if cY∈row∧d∉row then row.set (idx cY row 0).toNat d else row)
theorem aa7(hG:HG G)(row:List ab)(d:ab)(hl:row.length≤100000000):FX G 102 yQ ((row,d,()),())=some ((c6 row d,()),()):=by
 refine aA (fn:=Tryz.f102) (hG _ _ rfl) (by kernel_rfl) (by kernel_rfl) ((ZP _ _ _).trans ?_)
 have key:=ck row (fun i (s:List ab)=>LX G 102 yQ Tryz.f102 sH (aY Tryz.prog 102 0) ((row,(i,())),(((d,()),()),(s,())))) (fun r s=>((bZ (s++r.filter fun e=>decide (e≠d)),()),())) (fun n s=>s.length+n≤row.length)
  (fun s hs=>by
   refine aB (j:=0) (by kernel_rfl) ((Lx _ _ _).trans ?_)
   simp only[dO,cond_false]
   refine aa (Ix hG s (by omega)) ?_
   simp only[List.filter_nil,List.append_nil];rfl)
  (fun i x r s hi hx hr hs ih=>by
   refine aB (j:=0) (by kernel_rfl) ((Lx _ _ _).trans ?_)
   simp only[bm hi,cond_true,aR hx,Option.bind_some,ki,aN hi (show row.length≤1073741824 by omega)]
   by_cases he:x=d
   ·simp only[he,decide_true,Bool.not_true,ne_eq,not_true_eq_false,decide_false,List.filter_cons,Bool.false_eq_true,if_false]
    exact ih s (by omega)
   ·have h5:aP s.length [x].length=true:=fits (by simp;omega)
    simp only[he,decide_false,Bool.not_false,h5,ne_eq,not_false_eq_true,decide_true,List.filter_cons,if_true]
    have:=ih (s++[x]) (by simp;omega)
    rw[List.append_assoc]at this
    exact this)
  [] (by simp)
 exact key
theorem Rd(row:List ab)(d:ab)(k:Nat):row.take (k+1)++(d::row.drop (k+1))=(row.take (k+1)++[d])++row.drop (k+1):=by simp
theorem aa8(hG:HG G)(row:List ab)(after d:ab)(hl:row.length≤90000000):FX G 100 yP ((row,after,d,()),())=some ((dI row after d,()),()):=by
 refine aA (fn:=Tryz.f100) (hG _ _ rfl) (by kernel_rfl) (by kernel_rfl) ((ZN _ _ _).trans ?_)
 refine aa (DB (hG _ _ rfl) row d (by omega)) ?_
 by_cases hd:d∈row
 case pos =>
  have h1:¬idx d row 0<0:=fun h=>fb.1 h hd
  have h2:idx d row 0≥0:=by omega
  simp only[h2,decide_true,cond_true]
  refine aa (Ix hG row (by omega)) ?_
  unfold dI;rw[if_pos hd];rfl
 case neg =>
 have h1:¬idx d row 0≥0:=by have:=fb.2 hd;omega
 simp only[h1,decide_false,cond_false]
 refine aa (DB (hG _ _ rfl) row after (by omega)) ?_
 obtain⟨k,hk⟩:∃k:Nat,max 0 (idx after row 0)=(k:Int):=⟨(max 0 (idx after row 0)).toNat,by omega⟩
 have OU:k<row.length∨row=[]:=by
  rcases lQ after row 0 (by omega) with⟨e,_⟩|⟨q,e,e2,_⟩
  ·have:k=0:=by omega
   subst this
   cases row with
   |nil=>exact .inr rfl
   |cons x r=>exact .inl (by simp)
  ·have:=(List.getElem?_eq_some_iff.1 e2).1
   exact .inl (by omega)
 have vF:dI row after d=bZ (row.take (k+1)++(d::row.drop (k+1))):=by unfold dI;rw[if_neg hd,hk];rfl
 rw[vF]
 simp only[hk]
 obtain⟨fin,kV⟩:∃fin,fin=row.take (k+1)++(d::row.drop (k+1)):=⟨_,rfl⟩
 rw[←kV]
 have loop:∀(n i:Nat) (out:List ab),i+n=row.length→out=(if i≤k then row.take i else(row.take (k+1)++[d])++(row.drop (k+1)).take (i-(k+1))) →
   LX G 100 yP Tryz.f100 sG (aY Tryz.prog 100 0) ((row,((k:Int),((i:Int),()))),(((d,()),()),(out,())))=some ((bZ fin,()),()):=by
  intro n
  induction n with
  |zero =>
   intro i out hi vt
   refine aB (j:=0) (by kernel_rfl) ((Lv _ _ _).trans ?_)
   have h1:¬((i:Int)<(row.length:Int)):=by omega
   rcases OU with OU|rfl
   ·have h0:((((row.length:Nat):Int))==0)=false:=by simp;intro e;subst e;simp at OU
    have h2:out=fin:=by
     have hle:(row.drop (k+1)).take (i-(k+1))=row.drop (k+1):=List.take_of_length_le (by rw[List.length_drop];omega)
     rw[vt,kV,if_neg (by omega),Rd,hle]
    subst h2
    simp only[h1,decide_false,h0]
    exact aa (Ix hG out (by rw[kV];simp;omega)) rfl
   ·have TW:i=0:=by simpa using hi
    subst TW
    have h2:out=[]:=by rw[vt];simp
    subst h2
    have h3:fin=[d]:=by rw[kV];simp
    subst h3
    exact aa (Ix hG [d] (by simp)) rfl
  |succ n ih =>
   intro i out hi vt
   refine aB (j:=0) (by kernel_rfl) ((Lv _ _ _).trans ?_)
   have aM:i<row.length:=by omega
   have hx:row[i]? = some row[i]:=List.getElem?_eq_getElem aM
   have VN:out.length≤row.length+1:=by rw[vt];split<;>simp<;>omega
   have h5:aP out.length [row[i]].length=true:=fits (by simp;omega)
   simp only[bm aM,aR hx,Option.bind_some,aN aM (show row.length≤1073741824 by omega),h5]
   by_cases PJ:i=k
   ·subst PJ
    have h6:aP (out++[row[i]]).length [d].length=true:=fits (by simp;omega)
    have h8:(((i:Nat):Int)==((i:Nat):Int))=true:=by simp
    simp only[h8,h6]
    exact ih (i+1) ((out++[row[i]])++[d]) (by omega) (by rw[if_neg (by omega),vt,if_pos (Nat.le_refl _),List.take_add_one,hx];simp)
   ·have h8:(((i:Nat):Int)==((k:Nat):Int))=false:=by simp;omega
    simp only[h8]
    refine ih (i+1) (out++[row[i]]) (by omega) ?_
    rw[vt]
    by_cases hle:i≤k
    ·rw[if_pos hle,if_pos (by omega),List.take_add_one,hx];rfl
    ·have e9:(row.drop (k+1)).take (i+1-(k+1))=(row.drop (k+1)).take (i-(k+1))++[row[i]]:=by
      rw[show i+1-(k+1)=(i-(k+1))+1 by omega,List.take_add_one,List.getElem?_drop,show k+1+(i-(k+1))=i by omega,hx];rfl
     rw[if_neg hle,if_neg (by omega),e9,List.append_assoc]
 exact loop row.length 0 [] (by omega) (by simp)
theorem aa9(hG:HG G)(row:List ab)(cY d:ab)(hl:row.length≤100000000):FX G 103 HS ((row,cY,d,()),())=some ((fE row cY d,()),()):=by
 refine aA (fn:=Tryz.f103) (hG _ _ rfl) (by kernel_rfl) (by kernel_rfl) ((ZQ _ _ _).trans ?_)
 have h5:aP ([]:List ab).length row.length=true:=fits (by simp;omega)
 simp only[h5,cond_true,List.nil_append]
 refine aa (DB (hG _ _ rfl) row cY (by omega)) ?_
 unfold fE
 by_cases ho:cY∈row
 ·obtain⟨k,h1,h2,h3⟩:=eP ho
  have hk:=(List.getElem?_eq_some_iff.1 h2).1
  have e1:((k:Int)≥0):=by omega
  simp only[h1,e1,decide_true]
  refine aa (DB (hG _ _ rfl) row d (by omega)) ?_
  by_cases hd:d∈row
  ·have h6:¬idx d row 0<0:=fun h=>fb.1 h hd
   rw[if_neg (by simp[hd])]
   simp only[h6,decide_false]
   exact aa (Ix hG row hl) rfl
  ·have h6:=fb.2 hd
   rw[if_pos ⟨ho,hd⟩]
   have h7:(0:Int)≤(k:Int):=by omega
   have h8:((k:Int)<((row.length:Nat):Int)):=by omega
   simp only[h6,decide_true,h7,h8,Bool.and_self,Int.toNat_natCast,h2]
   exact aa (Ix hG (row.set k d) (by simpa using hl)) rfl
 ·have h1:¬idx cY row 0≥0:=by have:=fb.2 ho;omega
  rw[if_neg (by simp[ho])]
  simp only[h1,decide_false]
  exact aa (Ix hG row hl) rfl
end Go.Vs
namespace Go.Vs
open Go.Proofs
variable {G:(f:FuncId)→(g:aL)→Option (g.A→Option g.B)}
def e0:ByteArray:=⟨#[]⟩
def zI:ID:=(0,0)
def zV:ag:=((0,0),([],(e0,0)))
def zE:ah:=((0,0),(e0,0))
def aQ(l:List ag)(x:ID):Option ag:=l.find? fun v=>decide (v.1=x)
def aU(l:List ah)(x:ID):Option ah:=l.find? fun v=>decide (v.1=x)
def bg(d:ai)(x:ID):Option ag:=aQ d.1 x
def fZ(d:ai)(x:ID):Option ah:=aU d.2 x
def C7(l:List ag)(x:ab):Option ID:=(l.find? fun v=>decide (x∈v.2.1)).map (·.1)
def bY(d:ai)(x:ab):Option ID:=C7 d.1 x
def oH{α:Type}(z:α):Option α→α×(Bool×Unit)
 |some y=>(y,(true,()))
 |none=>(z,(false,()))
theorem zF(hG:G 18 kQ=none)(d:ai)(x:ID)(hl:d.1.length≤100000000):FX G 18 kQ ((d,x,()),())=some (oH zV (bg d x),()):=by
 refine aA (fn:=Tryz.f18) hG (by kernel_rfl) (by kernel_rfl) ((aeS _ _ _).trans ?_)
 have FQ:=ck d.1 (fun i (_:Unit)=>LX G 18 kQ Tryz.f18 BM (aY Tryz.prog 18 0) ((i,()),(((d,()),((x,()),(((0:Int),((0:Int),(([]:List ab),(e0,((0:Int),()))))),()))),()))) (fun(r:List ag) (_:Unit)=>(oH zV (aQ r x),())) (fun _ _=>True)
  (fun s _=>by
   refine aB (j:=0) (by kernel_rfl) ((Qc _ _ _).trans ?_)
   simp only[dO,cond_false];rfl)
  (fun i y r s hi hx hr _ ih=>by
   refine aB (j:=0) (by kernel_rfl) ((Qc _ _ _).trans ?_)
   simp only[bm hi,cond_true,aR hx,Option.bind_some,jT,aN hi (show d.1.length≤1073741824 by omega)]
   by_cases he:y.1=x
   ·simp only[he,decide_true,aQ,aU,List.find?_cons];subst he;rfl
   ·simp only[he,decide_false,aQ,aU,List.find?_cons];exact ih () trivial)
  () trivial
 exact FQ
theorem Re(hG:G 21 xg=none)(d:ai)(x:ID)(hl:d.2.length≤100000000):FX G 21 xg ((d,x,()),())=some (oH zE (fZ d x),()):=by
 refine aA (fn:=Tryz.f21) hG (by kernel_rfl) (by kernel_rfl) ((aeV _ _ _).trans ?_)
 have FQ:=ck d.2 (fun i (_:Unit)=>LX G 21 xg Tryz.f21 BO (aY Tryz.prog 21 0) ((i,()),(((d,()),((x,()),(((((0:Int),(0:Int)),(e0,(0:Int))),()),()))),()))) (fun(r:List ah) (_:Unit)=>(oH zE (aU r x),())) (fun _ _=>True)
  (fun s _=>by
   refine aB (j:=0) (by kernel_rfl) ((Qe _ _ _).trans ?_)
   simp only[dO,cond_false];rfl)
  (fun i y r s hi hx hr _ ih=>by
   refine aB (j:=0) (by kernel_rfl) ((Qe _ _ _).trans ?_)
   simp only[bm hi,cond_true,aR hx,Option.bind_some,jT,aN hi (show d.2.length≤1073741824 by omega)]
   by_cases he:y.1=x
   ·simp only[he,decide_true,aQ,aU,List.find?_cons];subst he;rfl
   ·simp only[he,decide_false,aQ,aU,List.find?_cons];exact ih () trivial)
  () trivial
 exact FQ
theorem DC(hG:HG G)(d:ai)(x:ab)(hl:d.1.length≤100000000)(hr:∀v∈d.1,v.2.1.length≤100000000):FX G 20 rj ((d,x,()),())=some (oH zI (bY d x),()):=by
 refine aA (fn:=Tryz.f20) (hG _ _ rfl) (by kernel_rfl) (by kernel_rfl) ((aeU _ _ _).trans ?_)
 have FQ:=ck d.1 (fun i (_:Unit)=>LX G 20 rj Tryz.f20 BN (aY Tryz.prog 20 0) ((i,()),(((d,()),((x,()),((((0:Int),(0:Int)),()),()))),()))) (fun r _=>(oH zI (C7 r x),())) (fun _ _=>True)
  (fun s _=>by
   refine aB (j:=0) (by kernel_rfl) ((Qd _ _ _).trans ?_)
   simp only[dO,cond_false];rfl)
  (fun i y r s hi hx Cj _ ih=>by
   refine aB (j:=0) (by kernel_rfl) ((Qd _ _ _).trans ?_)
   simp only[bm hi,cond_true,aR hx,Option.bind_some,aN hi (show d.1.length≤1073741824 by omega)]
   refine aa (DB (hG _ _ rfl) y.2.1 x (by have:=hr y (List.mem_of_getElem? hx);omega)) ?_
   by_cases he:x∈y.2.1
   ·have h1:idx x y.2.1 0≥0:=by obtain⟨k,h,_⟩:=eP he;omega
    simp only[h1,decide_true,C7,List.find?_cons,he];rfl
   ·have h1:¬idx x y.2.1 0≥0:=by have:=fb.2 he;omega
    simp only[h1,decide_false,C7,List.find?_cons,he];exact ih () trivial)
  () trivial
 exact FQ
theorem aba(hG:G 38 Du=none)(d:ai)(hl:d.1.length≤100000000)(uc:d.2.length≤100000000)(hr:∀v∈d.1,v.2.1.length≤100000000):FX G 38 Du ((d,()),())=some (((d.1,(d.2,())),()),()):=by
 refine aA (fn:=Tryz.f38) hG (by kernel_rfl) (by kernel_rfl) ((afb _ _ _).trans ?_)
 have h5:aP ([]:List ah).length d.2.length=true:=fits (by simp;omega)
 simp only[h5,cond_true,List.nil_append]
 have FQ:=ck d.1 (fun i (out:List ag)=>LX G 38 Du Tryz.f38 BV (aY Tryz.prog 38 0) ((i,()),(((d,()),((([]:List ag),(([]:List ah),())),((out,(d.2,())),()))),()))) (fun r s=>(((s++r,(d.2,())),()),())) (fun n s=>s.length+n≤d.1.length)
  (fun s _=>by
   refine aB (j:=0) (by kernel_rfl) ((Qn _ _ _).trans ?_)
   simp only[dO,List.append_nil];rfl)
  (fun i y r s hi hx Cj hs ih=>by
   refine aB (j:=0) (by kernel_rfl) ((Qn _ _ _).trans ?_)
   have h6:aP ([]:List ab).length y.2.1.length=true:=fits (by have:=hr y (List.mem_of_getElem? hx);simp;omega)
   have h7:aP s.length [(y.1,(y.2.1,y.2.2))].length=true:=fits (by simp;omega)
   simp only[bm hi,aR hx,Option.bind_some,h6,List.nil_append,h7,aN hi (show d.1.length≤1073741824 by omega)]
   have:=ih (s++[y]) (by simp;omega)
   rw[List.append_assoc]at this
   exact this)
  [] (by simp)
 exact FQ
def cX(v:ag):List ag→List ag
 |[]=>[v]
 |w::r=>if gq v.1 w.1 then v::w::r else w::cX v r
def cF(v:ah):List ah→List ah
 |[]=>[v]
 |w::r=>if gq v.1 w.1 then v::w::r else w::cF v r
theorem cq(a:ID):gq a a=false:=by simp[gq]
theorem nr(a b:ID):rB a b<0↔gq a b=true:=by
 unfold rB
 by_cases h:a=b
 ·subst h;simp[cq]
 ·rw[if_neg h];split<;>simp_all
theorem abb(hG:HG G)(d:ai)(v:ag)(hl:d.1.length≤100000000):FX G 46 Fy ((d,v,()),())=some (((cX v d.1,d.2),()),()):=by
 refine aA (fn:=Tryz.f46) (hG _ _ rfl) (by kernel_rfl) (by kernel_rfl) ((afg _ _ _).trans ?_)
 have key:=ck d.1 (fun i (s:Bool×List ag)=>LX G 46 Fy Tryz.f46 uz (aY Tryz.prog 46 0) ((s.1,(i,())),(((d,()),((v,()),((([]:List ag),(([]:List ah),())),((s.2,(d.2,())),())))),())))
  (fun r s=>(((s.2++(if s.1 then r else cX v r),d.2),()),())) (fun n s=>s.2.length+n≤d.1.length+(if s.1 then 1 else 0))
  (fun s hs=>by
   obtain⟨put,s⟩:=s
   refine aB (j:=0) (by kernel_rfl) ((Qq _ _ _).trans ?_)
   have h7:aP s.length [v].length=true:=fits (by simp at hs ⊢;split at hs<;>omega)
   cases put
   ·simp only[dO,h7,cX];rfl
   ·simp only[dO,if_true,List.append_nil];rfl)
  (fun i y r s hi hx Cj hs ih=>by
   obtain⟨put,s⟩:=s
   refine aB (j:=0) (by kernel_rfl) ((Qq _ _ _).trans ?_)
   have h6:aP s.length [y].length=true:=fits (by simp at hs ⊢;split at hs<;>omega)
   cases put
   ·have h7:aP s.length [v].length=true:=fits (by simp at hs ⊢;omega)
    have h8:aP (s++[v]).length [y].length=true:=fits (by simp at hs ⊢;omega)
    simp only[bm hi,aR hx,Option.bind_some,aN hi (show d.1.length≤1073741824 by omega)]
    refine aa (Xu (hG _ _ rfl) v.1 y.1) ?_
    by_cases ho:gq v.1 y.1=true
    ·have h9:=(nr _ _).2 ho
     have:=ih (true,(s++[v])++[y]) (by simp at hs ⊢;omega)
     simp only[h9,decide_true,h7,h8,cX,ho,if_true,Bool.false_eq_true,if_false]
     exact this.trans (congrArg (fun l:List ag=>some (((l,d.2),()),())) (show((s++[v])++[y])++r=s++(v::y::r) by simp))
    ·have h9:¬rB v.1 y.1<0:=fun h=>ho ((nr _ _).1 h)
     have:=ih (false,s++[y]) (by simp at hs ⊢;omega)
     simp only[h9,decide_false,h6,cX,ho,if_false,Bool.false_eq_true]
     exact this.trans (congrArg (fun l:List ag=>some (((l,d.2),()),())) (show(s++[y])++cX v r=s++(y::cX v r) by simp))
   ·have:=ih (true,s++[y]) (by simp at hs ⊢;omega)
    simp only[bm hi,aR hx,Option.bind_some,aN hi (show d.1.length≤1073741824 by omega),h6,if_true]
    exact this.trans (congrArg (fun l:List ag=>some (((l,d.2),()),())) (show(s++[y])++r=s++(y::r) by simp)))
  (false,[]) (by simp)
 exact key
theorem abc(hG:HG G)(d:ai)(v:ah)(hl:d.2.length≤100000000):FX G 71 zu ((d,v,()),())=some (((d.1,cF v d.2),()),()):=by
 refine aA (fn:=Tryz.f71) (hG _ _ rfl) (by kernel_rfl) (by kernel_rfl) ((afB _ _ _).trans ?_)
 have key:=ck d.2 (fun i (s:Bool×List ah)=>LX G 71 zu Tryz.f71 uA (aY Tryz.prog 71 0) ((s.1,(i,())),(((d,()),((v,()),((([]:List ag),(([]:List ah),())),((d.1,(s.2,())),())))),())))
  (fun r s=>(((d.1,s.2++(if s.1 then r else cF v r)),()),())) (fun n s=>s.2.length+n≤d.2.length+(if s.1 then 1 else 0))
  (fun s hs=>by
   obtain⟨put,s⟩:=s
   refine aB (j:=0) (by kernel_rfl) ((QE _ _ _).trans ?_)
   have h7:aP s.length [v].length=true:=fits (by simp at hs ⊢;split at hs<;>omega)
   cases put
   ·simp only[dO,h7,cF];rfl
   ·simp only[dO,if_true,List.append_nil];rfl)
  (fun i y r s hi hx Cj hs ih=>by
   obtain⟨put,s⟩:=s
   refine aB (j:=0) (by kernel_rfl) ((QE _ _ _).trans ?_)
   have h6:aP s.length [y].length=true:=fits (by simp at hs ⊢;split at hs<;>omega)
   cases put
   ·have h7:aP s.length [v].length=true:=fits (by simp at hs ⊢;omega)
    have h8:aP (s++[v]).length [y].length=true:=fits (by simp at hs ⊢;omega)
    simp only[bm hi,aR hx,Option.bind_some,aN hi (show d.2.length≤1073741824 by omega)]
    refine aa (Xu (hG _ _ rfl) v.1 y.1) ?_
    by_cases ho:gq v.1 y.1=true
    ·have h9:=(nr _ _).2 ho
     have:=ih (true,(s++[v])++[y]) (by simp at hs ⊢;omega)
     simp only[h9,decide_true,h7,h8,cF,ho,if_true,Bool.false_eq_true,if_false]
     exact this.trans (congrArg (fun l:List ah=>some (((d.1,l),()),())) (show((s++[v])++[y])++r=s++(v::y::r) by simp))
    ·have h9:¬rB v.1 y.1<0:=fun h=>ho ((nr _ _).1 h)
     have:=ih (false,s++[y]) (by simp at hs ⊢;omega)
     simp only[h9,decide_false,h6,cF,ho,if_false,Bool.false_eq_true]
     exact this.trans (congrArg (fun l:List ah=>some (((d.1,l),()),())) (show(s++[y])++cF v r=s++(y::cF v r) by simp))
   ·have:=ih (true,s++[y]) (by simp at hs ⊢;omega)
    simp only[bm hi,aR hx,Option.bind_some,aN hi (show d.2.length≤1073741824 by omega),h6,if_true]
    exact this.trans (congrArg (fun l:List ah=>some (((d.1,l),()),())) (show(s++[y])++r=s++(y::r) by simp)))
  (false,[]) (by simp)
 exact key
def cT(l:List ag)(v:ID):List ag:=l.filter fun w=>decide (w.1≠v)
def cE(l:List ah)(v:ID):List ah:=l.filter fun w=>decide (w.1≠v)
def aJ(d:ai)(v e:ID):ai:=(cT d.1 v,cE d.2 e)
theorem Ub(hG:G 47 pU=none)(d:ai)(v e:ID)(hl:d.1.length≤100000000)(uc:d.2.length≤100000000):FX G 47 pU ((d,v,e,()),())=some ((aJ d v e,()),()):=by
 refine aA (fn:=Tryz.f47) hG (by kernel_rfl) (by kernel_rfl) ((afh _ _ _).trans ?_)
 have Uc:=fun vs=>ck d.2 (fun i (s:List ah)=>LX G 47 pU Tryz.f47 xm (aY Tryz.prog 47 1) ((i,()),(((d,()),((e,()),((([]:List ag),(([]:List ah),())),((vs,(s,())),())))),())))
  (fun(r:List ah) (s:List ah)=>(((vs,s++cE r e),()),())) (fun n s=>s.length+n≤d.2.length)
  (fun s hs=>by
   refine aB (j:=1) (by kernel_rfl) ((Qs _ _ _).trans ?_)
   simp only[dO,cT,cE,List.filter_nil,List.append_nil];rfl)
  (fun i y r s hi hx Cj hs ih=>by
   refine aB (j:=1) (by kernel_rfl) ((Qs _ _ _).trans ?_)
   have h6:aP s.length [y].length=true:=fits (by simp at hs ⊢;omega)
   simp only[bm hi,aR hx,Option.bind_some,jT,aN hi (show d.2.length≤1073741824 by omega)]
   by_cases he:y.1=e
   ·simp only[he,decide_true,Bool.not_true,ne_eq,not_true_eq_false,decide_false,cT,cE,List.filter_cons,Bool.false_eq_true,if_false]
    exact ih s (by omega)
   ·simp only[he,decide_false,Bool.not_false,h6,ne_eq,not_false_eq_true,decide_true,cT,cE,List.filter_cons,if_true]
    have:=ih (s++[y]) (by simp;omega)
    rw[List.append_assoc]at this
    exact this)
  [] (by simp)
 have FQ:=ck d.1 (fun i (s:List ag)=>LX G 47 pU Tryz.f47 xl (aY Tryz.prog 47 0) ((i,()),(((d,()),((v,()),((e,()),((([]:List ag),(([]:List ah),())),((s,(([]:List ah),())),()))))),())))
  (fun(r:List ag) (s:List ag)=>(((s++cT r v,cE d.2 e),()),())) (fun n s=>s.length+n≤d.1.length)
  (fun s hs=>by
   refine aB (j:=0) (by kernel_rfl) ((Qr _ _ _).trans ?_)
   simp only[dO,cT,cE,List.filter_nil,List.append_nil]
   exact Uc s)
  (fun i y r s hi hx Cj hs ih=>by
   refine aB (j:=0) (by kernel_rfl) ((Qr _ _ _).trans ?_)
   have h6:aP s.length [y].length=true:=fits (by simp at hs ⊢;omega)
   simp only[bm hi,aR hx,Option.bind_some,jT,aN hi (show d.1.length≤1073741824 by omega)]
   by_cases he:y.1=v
   ·simp only[he,decide_true,Bool.not_true,ne_eq,not_true_eq_false,decide_false,cT,cE,List.filter_cons,Bool.false_eq_true,if_false]
    exact ih s (by omega)
   ·simp only[he,decide_false,Bool.not_false,h6,ne_eq,not_false_eq_true,decide_true,cT,cE,List.filter_cons,if_true]
    have:=ih (s++[y]) (by simp;omega)
    rw[List.append_assoc]at this
    exact this)
  [] (by simp)
 exact FQ
end Go.Vs
namespace Go.Vs
open Go.Proofs
variable {G:(f:FuncId)→(g:aL)→Option (g.A→Option g.B)}
instance aiY:DecidableEq (List ag):=@instDecidableEqList ag inferInstance
instance decLE:DecidableEq (List ah):=@instDecidableEqList ah inferInstance
instance adw:DecidableEq ai:=instDecidableEqProd
instance abd:DecidableEq StateT:=instDecidableEqProd
structure Sm(d:ai):Prop where
 v:d.1.length≤50000000
 e:d.2.length≤50000000
 r:∀w∈d.1,w.2.1.length≤50000000
def gr(x:ID)(l:List ab)(w:ag):ag:=if w.1=x then(w.1,(l,w.2.2)) else w
def bM(d:ai)(x:ID)(l:List ab):ai:=(d.1.map (gr x l),d.2)
theorem eX(i:Nat):decide ((0:Int)≤(i:Int))=true:=by simp
theorem v7{α:Type}(f:α→α)(l:List α)(i:Nat)(x:α)(hx:l[i]? = some x):((l.take i).map f++l.drop i).set i (f x)=(l.take (i+1)).map f++l.drop (i+1):=by
 have hi:=(List.getElem?_eq_some_iff.1 hx).1
 have h2:l.drop i=l[i]::l.drop (i+1):=List.drop_eq_getElem_cons hi
 have h3:l[i]=x:=(List.getElem?_eq_some_iff.1 hx).2
 rw[List.set_append_right _ _ (by simp;omega),h2,List.length_map,List.length_take,Nat.min_eq_left (by omega),Nat.sub_self,List.set_cons_zero,List.take_add_one,hx]
 simp
theorem rD{α:Type}(f:α→α)(l:List α)(i:Nat)(x:α)(hx:l[i]? = some x)(hf:f x=x):(l.take i).map f++l.drop i=(l.take (i+1)).map f++l.drop (i+1):=by
 have hi:=(List.getElem?_eq_some_iff.1 hx).1
 have h2:l.drop i=l[i]::l.drop (i+1):=List.drop_eq_getElem_cons hi
 have h3:l[i]=x:=(List.getElem?_eq_some_iff.1 hx).2
 rw[h2,h3,List.take_add_one,hx];simp[hf]
theorem FR{α:Type}(f:α→α)(l:List α)(i:Nat)(x:α)(hx:l[i]? = some x):((l.take i).map f++l.drop i)[i]? = some x:=by
 have hi:=(List.getElem?_eq_some_iff.1 hx).1
 rw[List.getElem?_append_right (by simp;omega),List.length_map,List.length_take,Nat.min_eq_left (by omega),Nat.sub_self,List.getElem?_drop,Nat.add_zero,hx]
theorem Xx(hG:HG G)(d:ai)(x:ID)(l:List ab)(hs:Sm d):FX G 99 Dy ((d,x,l,()),())=some ((bM d x l,()),()):=by
 have hv:=hs.v;have he:=hs.e
 refine aA (fn:=Tryz.f99) (hG _ _ rfl) (by kernel_rfl) (by kernel_rfl) ((afW _ _ _).trans ?_)
 refine aa (aba (hG _ _ rfl) d (by omega) (by omega) (fun w hw=>by have:=hs.r w hw;omega)) ?_
 have loop:∀(n i:Nat) (out fin:List ag),i+n=d.1.length→out=(d.1.take i).map (gr x l)++d.1.drop i→fin=d.1.map (gr x l) →
   LX G 99 Dy Tryz.f99 xw (aY Tryz.prog 99 0) ((l,((i:Int),())),(((x,()),((([]:List ag),(([]:List ah),())),((out,(d.2,())),()))),()))=some (((fin,d.2),()),()):=by
  intro n
  induction n with
  |zero =>
   intro i out fin hi ho hf
   refine aB (j:=0) (by kernel_rfl) ((QL _ _ _).trans ?_)
   have VN:out.length=d.1.length:=by rw[ho];simp;omega
   have h1:¬((i:Int)<(out.length:Int)):=by omega
   have h2:out=fin:=by rw[ho,hf,List.take_of_length_le (by omega),List.drop_eq_nil_of_le (by omega),List.append_nil]
   subst h2
   simp only[h1,decide_false];rfl
  |succ n ih =>
   intro i out fin hi ho hf
   refine aB (j:=0) (by kernel_rfl) ((QL _ _ _).trans ?_)
   have VN:out.length=d.1.length:=by rw[ho];simp;omega
   have aM:i<d.1.length:=by omega
   have hx:d.1[i]? = some d.1[i]:=List.getElem?_eq_getElem aM
   have hg:out[i]? = some d.1[i]:=by rw[ho];exact FR _ _ _ _ hx
   simp only[bm (show i<out.length by omega),eX,Bool.and_self,Int.toNat_natCast,hg,Option.bind_some,jT,aN aM (show d.1.length≤1073741824 by omega)]
   by_cases hq:d.1[i].1=x
   ·have e1:gr x l d.1[i]=(x,(l,d.1[i].2.2)):=by unfold gr;rw[if_pos hq,hq]
    simp only[hq,decide_true]
    exact ih (i+1) (out.set i (x,(l,d.1[i].2.2))) fin (by omega) (by rw[ho,←v7 _ _ _ _ hx,e1]) hf
   ·have e1:gr x l d.1[i]=d.1[i]:=by unfold gr;rw[if_neg hq]
    simp only[hq,decide_false]
    exact ih (i+1) out fin (by omega) (by rw[ho];exact rD _ _ _ _ hx e1) hf
 exact loop d.1.length 0 d.1 (d.1.map (gr x l)) (by omega) (by simp) rfl
def bA(d:ai)(x:ID):List ab:=((bg d x).getD zV).2.1
theorem kD{α:Type}(z:α)(o:Option α):(oH z o).1=o.getD z:=by cases o<;>rfl
theorem fN{α:Type}(z:α)(o:Option α):(oH z o).2.1=o.isSome:=by cases o<;>rfl
theorem oI{d:ai}(hs:Sm d)(x:ID):(bA d x).length≤50000000:=by
 unfold bA
 cases h:bg d x with
 |none=>simp[zV]
 |some v=>exact hs.r v (List.mem_of_find?_eq_some h)
def aX(d:ai)(c:pS)(x:ab):ai:=bM d c.1 (dI (bA d c.1) c.2 x)
def av(d:ai)(cY x:ab):ai:=bM d ((bY d cY).getD zI) (fE (bA d ((bY d cY).getD zI)) cY x)
def az(d:ai)(x:ab):ai:=bM d ((bY d x).getD zI) (c6 (bA d ((bY d x).getD zI)) x)
theorem abe(hG:HG G)(d:ai)(c:pS)(x:ab)(hs:Sm d):FX G 72 zw ((d,c,x,()),())=some ((aX d c x,()),()):=by
 have hv:=hs.v
 have hr:=oI hs c.1
 refine aA (fn:=Tryz.f72) (hG _ _ rfl) (by kernel_rfl) (by kernel_rfl) ((afC _ _ _).trans ?_)
 refine aa (zF (hG _ _ rfl) d c.1 (by omega)) ?_
 rw[show(oH zV (bg d c.1)).1=(bg d c.1).getD zV from kD _ _]
 refine aa (aa8 hG (bA d c.1) c.2 x (by omega)) ?_
 exact aa (Xx hG d c.1 (dI (bA d c.1) c.2 x) hs) rfl
theorem abf(hG:HG G)(d:ai)(cY x:ab)(hs:Sm d):FX G 76 HN ((d,cY,x,()),())=some ((av d cY x,()),()):=by
 have hv:=hs.v
 have hr:=oI hs ((bY d cY).getD zI)
 refine aA (fn:=Tryz.f76) (hG _ _ rfl) (by kernel_rfl) (by kernel_rfl) ((afG _ _ _).trans ?_)
 refine aa (DC hG d cY (by omega) (fun w hw=>by have:=hs.r w hw;omega)) ?_
 rw[show(oH zI (bY d cY)).1=(bY d cY).getD zI from kD _ _]
 refine aa (zF (hG _ _ rfl) d ((bY d cY).getD zI) (by omega)) ?_
 rw[show(oH zV (bg d ((bY d cY).getD zI))).1=(bg d ((bY d cY).getD zI)).getD zV from kD _ _]
 refine aa (aa9 hG (bA d ((bY d cY).getD zI)) cY x (by omega)) ?_
 exact aa (Xx hG d ((bY d cY).getD zI) (fE (bA d ((bY d cY).getD zI)) cY x) hs) rfl
theorem abg(hG:HG G)(d:ai)(x:ab)(hs:Sm d):FX G 75 Nt ((d,x,()),())=some ((az d x,()),()):=by
 have hv:=hs.v
 have hr:=oI hs ((bY d x).getD zI)
 refine aA (fn:=Tryz.f75) (hG _ _ rfl) (by kernel_rfl) (by kernel_rfl) ((afF _ _ _).trans ?_)
 refine aa (DC hG d x (by omega) (fun w hw=>by have:=hs.r w hw;omega)) ?_
 rw[show(oH zI (bY d x)).1=(bY d x).getD zI from kD _ _]
 refine aa (zF (hG _ _ rfl) d ((bY d x).getD zI) (by omega)) ?_
 rw[show(oH zV (bg d ((bY d x).getD zI))).1=(bg d ((bY d x).getD zI)).getD zV from kD _ _]
 refine aa (aa7 hG (bA d ((bY d x).getD zI)) x (by omega)) ?_
 exact aa (Xx hG d ((bY d x).getD zI) (c6 (bA d ((bY d x).getD zI)) x) hs) rfl
def jM(row:List ab)(x:ab):ab:=(dd row x (row.length-1)).getD zD
theorem Ai(o:Option ab):(Iu o).1=o.getD zD:=by cases o<;>rfl
def c9(d:ai)(x:ab):ab :=
 let row:=bA d ((bY d x).getD zI)
 let y:=jM row x
 let z:=if y.1=x.1 then jM row y else y
 if z.1=x.1 then zD else z
theorem abh(hG:HG G)(d:ai)(x:ab)(hs:Sm d):FX G 74 Ns ((d,x,()),())=some ((c9 d x,()),()):=by
 have hv:=hs.v
 have hr:=oI hs ((bY d x).getD zI)
 refine aA (fn:=Tryz.f74) (hG _ _ rfl) (by kernel_rfl) (by kernel_rfl) ((afE _ _ _).trans ?_)
 refine aa (DC hG d x (by omega) (fun w hw=>by have:=hs.r w hw;omega)) ?_
 rw[show(oH zI (bY d x)).1=(bY d x).getD zI from kD _ _]
 refine aa (zF (hG _ _ rfl) d ((bY d x).getD zI) (by omega)) ?_
 rw[show(oH zV (bg d ((bY d x).getD zI))).1=(bg d ((bY d x).getD zI)).getD zV from kD _ _]
 refine aa (Ua hG (bA d ((bY d x).getD zI)) x (by omega)) ?_
 rw[show(Iu (dd (bA d ((bY d x).getD zI)) x ((bA d ((bY d x).getD zI)).length-1))).1=jM (bA d ((bY d x).getD zI)) x from Ai _]
 unfold c9
 obtain⟨y,hy⟩:∃y,y=jM (bA d ((bY d x).getD zI)) x:=⟨_,rfl⟩
 simp only[←hy,jT]
 by_cases h1:y.1=x.1
 ·have d1:=decide_eq_true h1
  rw[if_pos h1]
  simp only[d1]
  refine aa (Ua hG (bA d ((bY d x).getD zI)) y (by omega)) ?_
  rw[show(Iu (dd (bA d ((bY d x).getD zI)) y ((bA d ((bY d x).getD zI)).length-1))).1=jM (bA d ((bY d x).getD zI)) y from Ai _]
  by_cases h2:(jM (bA d ((bY d x).getD zI)) y).1=x.1
  ·have d2:=decide_eq_true h2
   rw[if_pos h2]
   simp only[d2];rfl
  ·have d2:=decide_eq_false h2
   rw[if_neg h2]
   simp only[d2];rfl
 ·have d1:=decide_eq_false h1
  rw[if_neg h1,if_neg h1]
  simp only[d1];rfl
def gO(l:List aq)(d:ab):Option ab:=(l.find? fun g=>decide (g.1=d)).map (·.2)
theorem VQ(hG:G 101 tI=none)(l:List aq)(d:ab)(hl:l.length≤100000000):FX G 101 tI ((l,d,()),())=some (oH zD (gO l d),()):=by
 refine aA (fn:=Tryz.f101) hG (by kernel_rfl) (by kernel_rfl) ((ZO _ _ _).trans ?_)
 have key:=ck l (fun i (_:Unit)=>LX G 101 tI Tryz.f101 vL (aY Tryz.prog 101 0) ((l,(i,())),(((d,()),(((((0:Int),(0:Int)),(0:Int)),()),())),()))) (fun(r:List aq) (_:Unit)=>(oH zD (gO r d),())) (fun _ _=>True)
  (fun s _=>by
   refine aB (j:=0) (by kernel_rfl) ((Lw _ _ _).trans ?_)
   simp only[dO,cond_false];rfl)
  (fun i y r s hi hx hr _ ih=>by
   refine aB (j:=0) (by kernel_rfl) ((Lw _ _ _).trans ?_)
   simp only[bm hi,aR hx,Option.bind_some,ki,aN hi (show l.length≤1073741824 by omega)]
   by_cases he:y.1=d
   ·simp only[he,decide_true,gO,List.find?_cons];rfl
   ·simp only[he,decide_false,gO,List.find?_cons];exact ih () trivial)
  () trivial
 exact key
theorem agn(hG:HG G)(a b:ai)(hs:Sm a):FX G 27 xh ((a,b,()),())=some ((decide (a=b),()),()):=by
 have hv:=hs.v;have he:=hs.e
 refine aA (fn:=Tryz.f27) (hG _ _ rfl) (by kernel_rfl) (by kernel_rfl) ((ae1 _ _ _).trans ?_)
 by_cases hl:a.1.length=b.1.length
 case neg =>
  have h1:((((a.1.length:Nat):Int)) != ((b.1.length:Nat):Int))=true:=by simp;omega
  have h2:¬a=b:=fun e=>hl (by rw[e])
  simp only[h1,h2,decide_false]
  rfl
 have h1:((((a.1.length:Nat):Int)) != ((b.1.length:Nat):Int))=false:=by simp[hl]
 simp only[h1]
 by_cases uc:a.2.length=b.2.length
 case neg =>
  have h1:((((a.2.length:Nat):Int)) != ((b.2.length:Nat):Int))=true:=by simp;omega
  have h2:¬a=b:=fun e=>uc (by rw[e])
  simp only[h1,h2,decide_false]
  rfl
 have h2:((((a.2.length:Nat):Int)) != ((b.2.length:Nat):Int))=false:=by simp[uc]
 simp only[h2]
 have FH:(a.1.zip b.1).length=a.1.length:=by simp[hl]
 have abi:(a.2.zip b.2).length=a.2.length:=by simp[uc]
 have Uc:=ck (a.2.zip b.2) (fun i (_:Unit)=>LX G 27 xh Tryz.f27 BS (aY Tryz.prog 27 1) ((i,()),(((a,()),((b,()),())),()))) (fun r _=>((r.all (fun p=>decide (p.1=p.2)),()),())) (fun _ _=>True)
  (fun s _=>by
   refine aB (j:=1) (by kernel_rfl) ((Qi _ _ _).trans ?_)
   rw[abi]
   simp only[dO];rfl)
  (fun i x r s hi hx hr _ ih=>by
   rw[abi]at hi
   obtain⟨h3,h4⟩:=FO hx
   refine aB (j:=1) (by kernel_rfl) ((Qi _ _ _).trans ?_)
   simp only[bm hi,aR h3,aR h4,Option.bind_some,jT,Xt,aN hi (show a.2.length≤1073741824 by omega)]
   by_cases he:x.1=x.2
   ·simp only[he,decide_true,beq_self_eq_true,Bool.and_self,Bool.not_true,List.all_cons,Bool.true_and];exact ih () trivial
   ·have h9:(decide (x.1.1=x.2.1)&&(decide (x.1.2.1=x.2.2.1)&&(x.1.2.2==x.2.2.2)))=false:=by
     rw[Bool.eq_false_iff];intro h;simp at h;exact he (Prod.ext h.1 (Prod.ext h.2.1 h.2.2))
    simp only[he,h9,decide_false,Bool.not_false,List.all_cons,Bool.false_and];rfl)
  () trivial
 rw[Ah a.2 b.2 uc]at Uc
 have key:=ck (a.1.zip b.1) (fun i (_:Unit)=>LX G 27 xh Tryz.f27 BR (aY Tryz.prog 27 0) ((i,()),(((a,()),((b,()),())),()))) (fun r _=>((r.all (fun p=>decide (p.1=p.2))&&decide (a.2=b.2),()),())) (fun _ _=>True)
  (fun s _=>by
   refine aB (j:=0) (by kernel_rfl) ((Qh _ _ _).trans ?_)
   rw[FH]
   simp only[dO,List.all_nil,Bool.true_and];exact Uc)
  (fun i x r s hi hx hr _ ih=>by
   rw[FH]at hi
   obtain⟨h3,h4⟩:=FO hx
   refine aB (j:=0) (by kernel_rfl) ((Qh _ _ _).trans ?_)
   simp only[bm hi,aR h3,aR h4,Option.bind_some,jT,Xt,aN hi (show a.1.length≤1073741824 by omega)]
   refine aa (agm hG x.1.2.1 x.2.2.1 (by have:=hs.r x.1 (List.mem_of_getElem? h3);omega)) ?_
   by_cases e1:x.1.1=x.2.1
   case neg =>
    have he:¬x.1=x.2:=fun e=>e1 (by rw[e])
    have d1:=decide_eq_false e1
    simp only[d1,he,decide_false,List.all_cons,Bool.false_and];rfl
   have d1:=decide_eq_true e1
   by_cases e2:x.1.2.2.1=x.2.2.2.1
   case neg =>
    have he:¬x.1=x.2:=fun e=>e2 (by rw[e])
    have d2:=decide_eq_false e2
    simp only[d1,d2,he,decide_false,List.all_cons,Bool.false_and];rfl
   have d2:=decide_eq_true e2
   by_cases e3:x.1.2.2.2=x.2.2.2.2
   case neg =>
    have he:¬x.1=x.2:=fun e=>e3 (by rw[e])
    have h8:(x.1.2.2.2 != x.2.2.2.2)=true:=by simp[e3]
    simp only[d1,d2,h8,he,decide_false,List.all_cons,Bool.false_and];rfl
   have h8:(x.1.2.2.2 != x.2.2.2.2)=false:=by simp[e3]
   by_cases e4:x.1.2.1=x.2.2.1
   case neg =>
    have he:¬x.1=x.2:=fun e=>e4 (by rw[e])
    have d4:=decide_eq_false e4
    simp only[d1,d2,h8,d4,he,decide_false,List.all_cons,Bool.false_and];rfl
   have d4:=decide_eq_true e4
   have he:decide (x.1=x.2)=true:=decide_eq_true (Prod.ext e1 (Prod.ext e4 (Prod.ext e2 e3)))
   simp only[d1,d2,h8,d4,he,List.all_cons,Bool.true_and];exact ih () trivial)
  () trivial
 rw[Ah a.1 b.1 hl]at key
 have kV:(decide (a.1=b.1)&&decide (a.2=b.2))=decide (a=b):=by
  rw[Bool.eq_iff_iff];simp[Prod.ext_iff]
 exact key.trans (congrArg (fun b:Bool=>some ((b,()),())) kV)
end Go.Vs
namespace Go.Vs
open Go.Proofs
variable {G:(f:FuncId)→(g:aL)→Option (g.A→Option g.B)}
def nQ(g:aq)(l:List aq):List aq:=l.filter fun q=>decide (q.1≠g.1)
def lI(g:aq):List aq→List aq
 |[]=>[g]
 |e::r=>if nP g.1 e.1≤0 then g::nQ g (e::r) else if e.1≠g.1 then e::lI g r else lI g r
def bG(l:List aq)(g:aq):List aq:=if(gO l g.1).isSome=false∧400≤l.length then l else lI g l
def NI(g:aq)(put:Bool)(r:List aq):List aq:=if put then nQ g r else lI g r
theorem abj(hG:HG G)(l:List aq)(g:aq)(hl:l.length≤50000000) :
  LX G 73 zx Tryz.f73 ll (aY Tryz.prog 73 0) ((l,(false,((0:Int),()))),(((g,()),()),(([]:List aq),())))=some ((lI g l,()),()):=by
 have key:=ck l (fun i (s:Bool×List aq)=>LX G 73 zx Tryz.f73 ll (aY Tryz.prog 73 0) ((l,(s.1,(i,()))),(((g,()),()),(s.2,()))))
  (fun(r:List aq) (s:Bool×List aq)=>((s.2++NI g s.1 r,()),())) (fun n s=>s.2.length+n≤l.length+(if s.1 then 1 else 0))
  (fun s hs=>by
   obtain⟨put,s⟩:=s
   refine aB (j:=0) (by kernel_rfl) ((QF _ _ _).trans ?_)
   have h7:aP s.length [g].length=true:=fits (by simp at hs ⊢;split at hs<;>omega)
   cases put
   ·simp only[dO,h7,NI,lI];rfl
   ·simp only[dO,NI,if_true,nQ,List.filter_nil,List.append_nil];rfl)
  (fun i y r s hi hx Cj hs ih=>by
   obtain⟨put,s⟩:=s
   refine aB (j:=0) (by kernel_rfl) ((QF _ _ _).trans ?_)
   have h6:aP s.length [y].length=true:=fits (by simp at hs ⊢;split at hs<;>omega)
   have hw:=aN hi (show l.length≤1073741824 by omega)
   cases put
   ·have h7:aP s.length [g].length=true:=fits (by simp at hs ⊢;omega)
    have h8:aP (s++[g]).length [y].length=true:=fits (by simp at hs ⊢;omega)
    simp only[bm hi,aR hx,Option.bind_some,hw]
    refine aa (aa5 hG g.1 y.1) ?_
    by_cases ho:nP g.1 y.1≤0
    ·have d0:=decide_eq_true ho
     by_cases hy:y.1=g.1
     ·have d1:=decide_eq_true hy
      have:=ih (true,s++[g]) (by simp at hs ⊢;omega)
      simp only[d0,h7,ki,d1,NI,lI,ho,if_true,Bool.false_eq_true,if_false]
      refine this.trans (congrArg (fun l:List aq=>some ((l,()),())) ?_)
      simp[NI,nQ,hy]
     ·have d1:=decide_eq_false hy
      have:=ih (true,(s++[g])++[y]) (by simp at hs ⊢;omega)
      simp only[d0,h7,h8,ki,d1,NI,lI,ho,if_true,Bool.false_eq_true,if_false]
      refine this.trans (congrArg (fun l:List aq=>some ((l,()),())) ?_)
      simp[NI,nQ,hy]
    ·have d0:=decide_eq_false ho
     by_cases hy:y.1=g.1
     ·have d1:=decide_eq_true hy
      have:=ih (false,s) (by simp at hs ⊢;omega)
      simp only[d0,ki,d1,NI,lI,ho,Bool.false_eq_true,if_false]
      refine this.trans (congrArg (fun l:List aq=>some ((l,()),())) ?_)
      simp[NI,hy]
     ·have d1:=decide_eq_false hy
      have:=ih (false,s++[y]) (by simp at hs ⊢;omega)
      simp only[d0,h6,ki,d1,NI,lI,ho,Bool.false_eq_true,if_false]
      refine this.trans (congrArg (fun l:List aq=>some ((l,()),())) ?_)
      simp[NI,hy]
   ·by_cases hy:y.1=g.1
    ·have d1:=decide_eq_true hy
     have:=ih (true,s) (by simp at hs ⊢;omega)
     simp only[bm hi,aR hx,Option.bind_some,hw,ki,d1]
     refine this.trans (congrArg (fun l:List aq=>some ((l,()),())) ?_)
     simp[NI,nQ,hy]
    ·have d1:=decide_eq_false hy
     have:=ih (true,s++[y]) (by simp at hs ⊢;omega)
     simp only[bm hi,aR hx,Option.bind_some,hw,ki,d1,h6]
     refine this.trans (congrArg (fun l:List aq=>some ((l,()),())) ?_)
     simp[NI,nQ,hy])
  (false,[]) (by simp)
 exact key
theorem Ud(hG:HG G)(l:List aq)(g:aq)(hl:l.length≤50000000):FX G 73 zx ((l,g,()),())=some ((bG l g,()),()):=by
 refine aA (fn:=Tryz.f73) (hG _ _ rfl) (by kernel_rfl) (by kernel_rfl) ((afD _ _ _).trans ?_)
 refine aa (VQ (hG _ _ rfl) l g.1 (by omega)) ?_
 rw[show(oH zD (gO l g.1)).2.1=(gO l g.1).isSome from fN _ _]
 unfold bG
 cases hf:(gO l g.1).isSome
 ·by_cases hn:400≤l.length
  ·have h1:decide (((l.length:Nat):Int)≥400)=true:=by simp;omega
   rw[if_pos ⟨rfl,hn⟩]
   simp only[h1];rfl
  ·have h1:decide (((l.length:Nat):Int)≥400)=false:=by simp;omega
   rw[if_neg (by simp[hn])]
   simp only[h1];exact abj hG l g hl
 ·rw[if_neg (by simp)]
  exact abj hG l g hl
def res(d:ai)(gn:List aq):Nat→ab→ab
 |0,_=>zD
 |n+1,x=>if(bY d x).isSome then x else match gO gn x with
  |none=>zD
  |some y=>res d gn n y
def resolve(s:StateT)(x:ab):ab:=res s.1 s.2 (s.2.length+1) x
theorem ago(hG:HG G)(s:StateT)(x:ab)(hs:Sm s.1)(hg:s.2.length≤50000000):FX G 98 HR ((s,x,()),())=some ((resolve s x,()),()):=by
 refine aA (fn:=Tryz.f98) (hG _ _ rfl) (by kernel_rfl) (by kernel_rfl) ((afV _ _ _).trans ?_)
 have hv:=hs.v
 have loop:∀(n i:Nat) (y:ab),i+n=s.2.length+1→LX G 98 HR Tryz.f98 B5 (aY Tryz.prog 98 0) (((i:Int),()),((s,()),((y,()),(((((0:Int),(0:Int)),(0:Int)),()),()))),())=some ((res s.1 s.2 n y,()),()):=by
  intro n
  induction n with
  |zero =>
   intro i y hi
   refine aB (j:=0) (by kernel_rfl) ((QK _ _ _).trans ?_)
   have h1:decide ((i:Int)≤((s.2.length:Nat):Int))=false:=by simp;omega
   simp only[h1];rfl
  |succ n ih =>
   intro i y hi
   refine aB (j:=0) (by kernel_rfl) ((QK _ _ _).trans ?_)
   have h1:decide ((i:Int)≤((s.2.length:Nat):Int))=true:=by simp;omega
   have hw:IntKind.wrap .i64 ((i:Int)+1)=((i+1:Nat):Int):=by rw[wrap_small (by omega) (by omega)];rfl
   simp only[h1,hw]
   refine aa (DC hG s.1 y (by omega) (fun w hw=>by have:=hs.r w hw;omega)) ?_
   rw[show(oH zI (bY s.1 y)).2.1=(bY s.1 y).isSome from fN _ _,res]
   cases ha:(bY s.1 y).isSome
   ·simp only[Bool.false_eq_true,if_false]
    refine aa (VQ (hG _ _ rfl) s.2 y (by omega)) ?_
    cases hf:gO s.2 y with
    |none=>rfl
    |some z=>exact ih (i+1) z (by omega)
   ·rfl
 exact loop (s.2.length+1) 0 x (by omega)
def zC:pS:=(zI,zD)
def pZ(s:StateT)(c:pS)(v:ag):ab:=if resolve s c.2∈v.2.1 then resolve s c.2 else zD
def aW(s:StateT)(c:pS):pS×(Int×Unit):=match bg s.1 c.1 with
 |none=>(zC,(13,()))
 |some v=>((c.1,pZ s c v),(0,()))
theorem abk(hG:HG G)(s:StateT)(c:pS)(hs:Sm s.1)(hg:s.2.length≤50000000):FX G 70 Nr ((s,c,()),())=some (aW s c,()):=by
 have hv:=hs.v
 refine aA (fn:=Tryz.f70) (hG _ _ rfl) (by kernel_rfl) (by kernel_rfl) ((afA _ _ _).trans ?_)
 refine aa (zF (hG _ _ rfl) s.1 c.1 (by omega)) ?_
 unfold aW
 cases hf:bg s.1 c.1 with
 |none=>rfl
 |some v =>
  have hr:v.2.1.length≤50000000:=hs.r v (List.mem_of_find?_eq_some hf)
  refine aa (ago hG s c.2 hs hg) ?_
  refine aa (DB (hG _ _ rfl) v.2.1 (resolve s c.2) (by omega)) ?_
  by_cases hm:resolve s c.2∈v.2.1
  ·have h1:decide (idx (resolve s c.2) v.2.1 0<0)=false:=decide_eq_false (fun h=>fb.1 h hm)
   have h2:pZ s c v=resolve s c.2:=if_pos hm
   simp only[h1]
   exact congrArg (fun z:ab=>some (((c.1,z),((0:Int),())),())) h2.symm
  ·have h1:decide (idx (resolve s c.2) v.2.1 0<0)=true:=decide_eq_true (fb.2 hm)
   have h2:pZ s c v=zD:=if_neg hm
   simp only[h1]
   exact congrArg (fun z:ab=>some (((c.1,z),((0:Int),())),())) h2.symm
def af(x:ab):ab:=(x.1,IntKind.wrap .i64 (1-x.2))
def jW(d:ai)(x:ab):Option ab:=match bY d x with
 |none=>none
 |some a=>dd (bA d a) x 1
theorem agp(hG:HG G)(d:ai)(x:ab)(hs:Sm d):FX G 78 P6 ((d,x,()),())=some (Iu (jW d x),()):=by
 have hv:=hs.v
 refine aA (fn:=Tryz.f78) (hG _ _ rfl) (by kernel_rfl) (by kernel_rfl) ((afI _ _ _).trans ?_)
 refine aa (DC hG d x (by omega) (fun w hw=>by have:=hs.r w hw;omega)) ?_
 unfold jW
 cases ha:bY d x with
 |none=>rfl
 |some a =>
  have hr:=oI hs a
  refine aa (zF (hG _ _ rfl) d a (by omega)) ?_
  rw[show(oH zV (bg d a)).1=(bg d a).getD zV from kD _ _]
  exact aa (aa6 hG (bA d a) x (by omega)) rfl
def Gy(d:ai)(x:ab):Option ab:=if(bY d x).isSome then jW d (af x) else none
theorem abl(hG:HG G)(d:ai)(x:ab)(hs:Sm d):FX G 54 Nn ((d,x,()),())=some (Iu (Gy d x),()):=by
 have hv:=hs.v
 refine aA (fn:=Tryz.f54) (hG _ _ rfl) (by kernel_rfl) (by kernel_rfl) ((afn _ _ _).trans ?_)
 refine aa (DC hG d x (by omega) (fun w hw=>by have:=hs.r w hw;omega)) ?_
 rw[show(oH zI (bY d x)).2.1=(bY d x).isSome from fN _ _]
 unfold Gy
 cases ha:(bY d x).isSome
 ·rfl
 ·refine aa (Rc (hG _ _ rfl) x) ?_
  exact aa (agp hG d (af x) hs) rfl
def rE(d:ai)(x:ab):Nat→ab→List ab→List ab
 |0,_,out=>out
 |n+1,y,out=>if y=x then out else rE d x n ((Gy d y).getD zD) (out++[y])
def bf(d:ai)(x:ab):List ab:=match Gy d x with
 |none=>[]
 |some y=>rE d x 81 y [x]
theorem abm(hG:HG G)(d:ai)(x:ab)(hs:Sm d):FX G 22 Dt ((d,x,()),())=some ((bf d x,()),()):=by
 refine aA (fn:=Tryz.f22) (hG _ _ rfl) (by kernel_rfl) (by kernel_rfl) ((aeW _ _ _).trans ?_)
 refine aa (abl hG d x hs) ?_
 unfold bf
 cases hp:Gy d x with
 |none=>rfl
 |some y =>
  have h5:aP ([]:List ab).length [x].length=true:=fits (by simp)
  have loop:∀(n:Nat) (y:ab) (out:List ab),out.length+n=82→LX G 22 Dt Tryz.f22 BP (aY Tryz.prog 22 0) ((),((d,()),((x,()),((y,()),()))),(out,()))=some ((rE d x n y out,()),()):=by
   intro n
   induction n with
   |zero =>
    intro y out ho
    refine aB (j:=0) (by kernel_rfl) ((Qf _ _ _).trans ?_)
    have h1:decide (((out.length:Nat):Int)<82)=false:=by simp;omega
    simp only[ki,h1]
    by_cases hy:y=x
    ·have d1:=decide_eq_true hy
     simp only[d1];rfl
    ·have d1:=decide_eq_false hy
     simp only[d1];rfl
   |succ n ih =>
    intro y out ho
    refine aB (j:=0) (by kernel_rfl) ((Qf _ _ _).trans ?_)
    have h1:decide (((out.length:Nat):Int)<82)=true:=by simp;omega
    have h6:aP out.length [y].length=true:=fits (by simp;omega)
    simp only[ki,h1,h6]
    rw[rE]
    by_cases hy:y=x
    ·have d1:=decide_eq_true hy
     rw[if_pos hy]
     simp only[d1];rfl
    ·have d1:=decide_eq_false hy
     rw[if_neg hy]
     simp only[d1]
     refine aa (abl hG d y hs) ?_
     rw[show(Iu (Gy d y)).1=(Gy d y).getD zD from Ai _]
     exact ih ((Gy d y).getD zD) (out++[y]) (by simp;omega)
  exact loop 81 y [x] (by simp)
theorem Ep(d:ai)(x:ab):∀(n:Nat) (y:ab) (out:List ab),(rE d x n y out).length≤out.length+n
 |0,_,out=>Nat.le_refl _
 |n+1,y,out=>by
  unfold rE
  split
  ·omega
  ·have:=Ep d x n ((Gy d y).getD zD) (out++[y]);simp at this;omega
theorem xF(d:ai)(x:ab):(bf d x).length≤82:=by
 unfold bf
 cases Gy d x with
 |none=>simp
 |some y=>have:=Ep d x 81 y [x];simpa using this
def fe:List ah→List ab
 |[]=>[]
 |e::r=>(e.1,0)::(e.1,1)::fe r
theorem mC:∀l:List ah,(fe l).length=2*l.length
 |[]=>rfl
 |e::r=>by simp[fe,mC r];omega
theorem agq(hG:G 59 Fz=none)(d:ai)(hs:Sm d):FX G 59 Fz ((d,()),())=some ((fe d.2,()),()):=by
 have he:=hs.e
 refine aA (fn:=Tryz.f59) hG (by kernel_rfl) (by kernel_rfl) ((afs _ _ _).trans ?_)
 have key:=ck d.2 (fun i (s:List ab)=>LX G 59 Fz Tryz.f59 B2 (aY Tryz.prog 59 0) ((i,()),(((d,()),()),(s,())))) (fun(r:List ah) (s:List ab)=>((s++fe r,()),())) (fun n s=>s.length+2*n≤2*d.2.length)
  (fun s _=>by
   refine aB (j:=0) (by kernel_rfl) ((QC _ _ _).trans ?_)
   simp only[dO,fe,List.append_nil];rfl)
  (fun i y r s hi hx Cj hs ih=>by
   refine aB (j:=0) (by kernel_rfl) ((QC _ _ _).trans ?_)
   have h6:aP s.length [((y.1,(0:Int)):ab),(y.1,(1:Int))].length=true:=fits (by simp;omega)
   simp only[bm hi,aR hx,Option.bind_some,h6,aN hi (show d.2.length≤1073741824 by omega)]
   have:=ih (s++[(y.1,0),(y.1,1)]) (by simp;omega)
   refine this.trans (congrArg (fun l:List ab=>some ((l,()),())) ?_)
   simp[fe])
  [] (by simp)
 exact key
def iL(d:ai):List ab→List (List ab)→List ab→List (List ab)
 |[],out,_=>out
 |x::r,out,told=>if x∈told then iL d r out told else iL d r (out++[bf d x]) (told++bf d x)
def bU(d:ai):List (List ab):=iL d (fe d.2) [] []
theorem agr(hG:HG G)(d:ai)(hs:Sm d)(he:d.2.length≤5000000):FX G 31 HC ((d,()),())=some ((bU d,()),()):=by
 refine aA (fn:=Tryz.f31) (hG _ _ rfl) (by kernel_rfl) (by kernel_rfl) ((ae5 _ _ _).trans ?_)
 refine aa (agq (hG _ _ rfl) d hs) ?_
 have yX:=mC d.2
 unfold bU
 generalize fe d.2=ds at *
 have key:=ck ds (fun i (s:List (List ab)×List ab)=>LX G 31 HC Tryz.f31 xj (aY Tryz.prog 31 0) ((i,()),(((d,()),()),(s.1,(s.2,(ds,())))))) (fun(r:List ab) (s:List (List ab)×List ab)=>((iL d r s.1 s.2,()),()))
  (fun n s=>s.1.length+n≤ds.length∧s.2.length+82*n≤82*ds.length)
  (fun s _=>by
   refine aB (j:=0) (by kernel_rfl) ((Qk _ _ _).trans ?_)
   simp only[dO];rfl)
  (fun i y r s hi hx Cj hs' ih=>by
   obtain⟨out,told⟩:=s
   obtain⟨b1,b2⟩:=hs'
   simp only at b1 b2
   refine aB (j:=0) (by kernel_rfl) ((Qk _ _ _).trans ?_)
   simp only[bm hi,eX,Bool.and_self,Int.toNat_natCast,hx,Option.bind_some,aN hi (show ds.length≤1073741824 by omega)]
   refine aa (DB (hG _ _ rfl) told y (by omega)) ?_
   rw[iL]
   by_cases hm:y∈told
   ·have d1:decide (idx y told 0≥0)=true:=decide_eq_true (by obtain⟨k,h,_⟩:=eP hm;omega)
    rw[if_pos hm]
    simp only[d1]
    exact ih (out,told) ⟨by simp only;omega,by simp only;omega⟩
   ·have d1:decide (idx y told 0≥0)=false:=decide_eq_false (by have:=fb.2 hm;omega)
    rw[if_neg hm]
    simp only[d1]
    refine aa (abm hG d y hs) ?_
    have htl:=xF d y
    have h6:aP out.length [bf d y].length=true:=fits (by simp;omega)
    have h7:aP told.length (bf d y).length=true:=fits (by omega)
    simp only[h6,h7]
    exact ih (out++[bf d y],told++bf d y) ⟨by simp;omega,by simp;omega⟩)
  ([],[]) ⟨by simp,by simp⟩
 exact key
end Go.Vs
