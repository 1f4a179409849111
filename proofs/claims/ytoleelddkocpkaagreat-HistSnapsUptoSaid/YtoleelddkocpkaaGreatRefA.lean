/- What the document's reference -/
import Derived.Test.YtoleelddkocpkaaGreatNormalA
import Derived.Test.YtoleelddkocpkaaGreatNormalB
import Derived.Test.YtoleelddkocpkaaGreatNormalC
set_option linter.unusedVariables false
set_option linter.unusedSimpArgs false
namespace Go.Vs
open Go.Proofs
variable {G:(f:FuncId)→(g:aO)→Option (g.A→Option g.B)}
theorem aa{α β:Type}{o:Option α}{f:α→Option β}{a:α}{r:Option β}(h:o=some a)(k:f a=r):o.bind f=r:=by simp_all
theorem ai{α:Type}{l:List α}{i:Nat}{x:α}(h:l[i]? = some x):aP l (i:Int)=some x:=by
 grind [List.getElem?_eq_some_iff,aP]
theorem wrap_small{n:Int}(h0 : -9223372036854775808≤n)(h1:n<9223372036854775808):IntKind.wrap .i64 n=n:=by
 grind [IntKind.wrap,IntKind.bits,IntKind.signed]
theorem aB{i n:Nat}(h:i<n)(hn:n≤1073741824):IntKind.wrap .i64 ((i:Int)+1)=((i+1:Nat):Int):=by
 grind [wrap_small]
theorem aJ{i n:Nat}(h:i<n):decide ((i:Int)<((n:Nat):Int))=true:=by simpa using h
theorem bW(n:Nat):decide (((n:Nat):Int)<((n:Nat):Int))=false:=by simp
theorem fits{n m:Nat}(h:n+m≤1073741824):aR n m=true:=decide_eq_true h
theorem vX(a b:ID):((a.1==b.1)&&(a.2==b.2))=decide (a=b):=by
 grind
theorem vY(a b:ag):(((a.1.1==b.1.1)&&(a.1.2==b.1.2))&&(a.2==b.2))=decide (a=b):=by
 grind
theorem ZN(a b:ByteArray):(a==b)=decide (a=b):=by
 obtain⟨a⟩:=a;obtain⟨b⟩:=b;show(a==b)=_
 grind
theorem bh{α S R:Type}(l:List α)(L:Int→S→Option R)(g:List α→S→R)(inv:Nat→S→Prop) (aq2:∀s,inv 0 s→L ((l.length:Nat):Int) s=some (g [] s)) (ahe:∀(i:Nat) (x:α) (r:List α) (s:S),i<l.length→l[i]? = some x→i+r.length+1=l.length→inv (r.length+1) s→(∀s',inv r.length s'→L ((i+1:Nat):Int) s'=some (g r s'))→L (i:Int) s=some (g (x::r) s)) :
  ∀s,inv l.length s→L 0 s=some (g l s):=by
 have key:∀(r p:List α),p++r=l→∀s,inv r.length s→L ((p.length:Nat):Int) s=some (g r s):=by
  intro r
  induction r with
  |nil=>simp_all
  |cons x r ih =>
   intro p hp s hs;refine ahe p.length x r s ?_ ?_ ?_ hs (fun s' Zt => ?_)
   ·grind
   ·grind
   ·grind
   ·have:=ih (p++[x]) (by simp[hp]) s' Zt;simp_all
 intro s hs;exact key l [] rfl s hs
def zD:ag:=((0,0),0)
def bQ(x:ID):Bool:=decide (1≤x.1∧x.1≤8∧1≤x.2∧x.2≤1048576)
def fD(a b:ID):Bool:=decide (a.1<b.1∨(a.1=b.1∧a.2<b.2))
def sd(a b:ID):Int:=if a=b then 0 else if fD a b then -1 else 1
def kG(a b:ag):Bool:=fD a.1 b.1 || (decide (a.1=b.1)&&decide (a.2<b.2))
def kZ(a b:ag):Int:=if a=b then 0 else if kG a b then -1 else 1
def gr(d:ag):Bool:=bQ d.1&&decide (d.2=0∨d.2=1)
theorem S7(hG:G 104 JI=none)(x:ID):FX G 104 JI ((x,()),())=some ((bQ x,()),()):=by
 refine au hG ak9 ?_;obtain⟨a,b⟩:=x;show(cond (decide (a≥1)) (cond (decide (a≤8)) (cond (decide (b≥1)) (some ((decide (b≤1048576),()),())) (some ((false,()),()))) (some ((false,()),()))) (some ((false,()),())):Option ((Bool×Unit)×Unit))=some ((bQ (a,b),()),());unfold bQ
 grind
theorem ami(hG:G 131 SK=none)(d:ag):FX G 131 SK ((d,()),())=some (((d.1,IntKind.wrap .i64 (1-d.2)),()),()) :=au hG ald rfl
theorem adp(hG:G 105 OH=none)(a b:ID):FX G 105 OH ((a,b,()),())=some ((sd a b,()),()):=by
 refine au hG alG ?_;obtain⟨a1,a2⟩:=a;obtain⟨b1,b2⟩:=b;unfold sd fD;show(cond ((a1==b1)&&(a2==b2)) (some (((0:Int),()),())) (cond (decide (a1<b1)) (some (((-1:Int),()),())) (cond (a1==b1) (cond (decide (a2<b2)) (some (((-1:Int),()),())) (some (((1:Int),()),()))) (some (((1:Int),()),())))):Option ((Int×Unit)×Unit))=some (((if(a1,a2)=(b1,b2) then 0 else if(decide (a1<b1∨(a1=b1∧a2<b2)))=true then -1 else 1:Int),()),())
 grind
theorem WC(hG:HG G)(a b:ag):FX G 75 OG ((a,b,()),())=some ((kZ a b,()),()):=by
 refine au (hG _ _ rfl) alA ?_;refine aa (adp (hG _ _ rfl) a.1 b.1) ?_;obtain⟨a1,a2⟩:=a;obtain⟨b1,b2⟩:=b;show(cond (sd a1 b1 != 0) (some ((sd a1 b1,()),())) (cond (decide (a2<b2)) (some (((-1:Int),()),())) (cond (decide (a2>b2)) (some (((1:Int),()),())) (some (((0:Int),()),())))):Option ((Int×Unit)×Unit))=some ((kZ (a1,a2) (b1,b2),()),());unfold kZ kG sd;simp only[cond_eq_ite]
 grind [fD]
theorem ahf(hG:HG G)(d:ag):FX G 74 SQ ((d,()),())=some ((gr d,()),()):=by
 refine au (hG _ _ rfl) alX ?_;refine aa (S7 (hG _ _ rfl) d.1) ?_;obtain⟨d1,d2⟩:=d;show(cond (bQ d1) (cond (d2==0) (some ((true,()),())) (some (((d2==1),()),()))) (some ((false,()),())):Option ((Bool×Unit)×Unit))=some ((gr (d1,d2),()),());unfold gr
 grind
def idx(d:ag):List ag→Int→Int
 |[],_ => -1
 |e::r,i=>if e=d then i else idx d r (i+1)
theorem amj(row:List ag)(d:ag)(hl:row.length≤1073741824):∀(n i:Nat),i+n=row.length→LX G 170 Ev Tryz.f170 EO (aE Tryz.prog 170 0) ((row,((i:Int),())),(((d,()),()),()))=some ((idx d (row.drop i) i,()),()):=by
 intro n
 induction n with
 |zero =>
  intro i hi;refine ak VB ?_;have h1:¬((i:Int)<(row.length:Int)):=by omega
  have h2:row.drop i=[]:=aeF (by omega);simp only[h1,h2,decide_false,cond_false,idx];rfl
 |succ n ih =>
  intro i hi;refine ak VB ?_;have aG:i<row.length:=by omega
  have h1:((i:Int)<(row.length:Int)):=by omega
  have h2:row.drop i=row[i]::row.drop (i+1):=aeg aG;have h3:aP row (i:Int)=some row[i]:=by simp[aP,aG]
  have h4:IntKind.wrap .i64 ((i:Int)+1)=((i+1:Nat):Int):=by grind [wrap_small]
  have h5:=ih (i+1) (by omega);rw[h2,idx];simp only[h1,decide_true,cond_true,h3,Option.bind_some,h4,vY];by_cases he:row[i]=d
  ·rw[if_pos he];simp only[he,decide_true];rfl
  ·rw[if_neg he];simp only[he,decide_false];exact h5
theorem adq(hG:G 170 Ev=none)(row:List ag)(d:ag)(hl:row.length≤1073741824):FX G 170 Ev ((row,d,()),())=some ((idx d row 0,()),()):=by refine au hG ale ?_;exact amj (G:=G) row d hl row.length 0 (by omega)
theorem vA(d:ag):∀(row:List ag) (i:Int),0≤i→(idx d row i = -1∧d∉row)∨(∃k:Nat,idx d row i=i+k∧row[k]? = some d∧d∉row.take k)
 |[],i,_=>.inl ⟨rfl,by simp⟩
 |e::r,i,h=>by
  unfold idx;by_cases he:e=d
  ·right;exact⟨0,by simp[he],by simp[he],by simp⟩
  ·rw[if_neg he];rcases vA d r (i+1) (by omega) with⟨h1,h2⟩|⟨k,h1,h2,h3⟩
   ·grind
   ·exact .inr ⟨k+1,by rw[h1];omega,by simpa using h2,by grind⟩
theorem o9{d:ag}{row:List ag}:idx d row 0<0↔d∉row:=by
 grind [vA,List.mem_of_getElem?]
theorem jo{d:ag}{row:List ag}(h:d∈row):∃k:Nat,idx d row 0=k∧row[k]? = some d∧d∉row.take k:=by
 rcases vA d row 0 (by omega) with⟨_,h2⟩|⟨k,h1,h2,h3⟩
 ·simp_all
 grind
theorem zr{α:Type}[DecidableEq α]:∀(a b:List α),a.length=b.length→(a.zip b).all (fun p=>decide (p.1=p.2))=decide (a=b)
 |[],[],_=>by simp
 |[],_::_,h=>by simp at h
 |_::_,[],h=>by simp at h
 |x::a,y::b,h=>by simp_all [List.zip_cons_cons,List.all_cons,zr,Bool.eq_iff_iff]
theorem C9{α:Type}{a b:List α}{i:Nat}{x:α×α}(h:(a.zip b)[i]? = some x):a[i]? = some x.1∧b[i]? = some x.2:=by
 grind
theorem ahg(hG:HG G)(a b:List ag)(ha:a.length≤1073741824):FX G 63 JM ((a,b,()),())=some ((decide (a=b),()),()):=by
 refine au (hG _ _ rfl) alv ?_;by_cases hl:a.length=b.length
 case neg =>
  have h1:((((a.length:Nat):Int)) != ((b.length:Nat):Int))=true:=by simp;omega
  have h2:¬a=b:=fun e=>hl (by rw[e]);simp only[h1,h2,decide_false];rfl
 have h1:((((a.length:Nat):Int)) != ((b.length:Nat):Int))=false:=by simp[hl]
 simp only[h1];have NL:(a.zip b).length=a.length:=by simp[hl]
 have key:=bh (a.zip b) (fun i (_:Unit)=>LX G 63 JM Tryz.f63 EX (aE Tryz.prog 63 0) ((a,(b,(i,()))),((),()))) (fun r _=>((r.all (fun p=>decide (p.1=p.2)),()),())) (fun _ _=>True) (fun s _=>by refine ak VP ?_;rw[NL];simp only[bW,cond_false];rfl) (fun i x r s hi hx hr _ ih=>by
   rw[NL]at hi;obtain⟨h3,h4⟩:=C9 hx;refine ak VP ?_;simp only[aJ hi,cond_true,ai h3,ai h4,Option.bind_some,vY,aB hi ha];by_cases he:x.1=x.2
   ·simp only[he,decide_true,Bool.not_true,cond_false,List.all_cons,Bool.true_and];exact ih () trivial
   ·simp only[he,decide_false,Bool.not_false,cond_true,List.all_cons,Bool.false_and];rfl)
  () trivial
 rw[zr a b hl]at key;exact key
def fR(row:List ag)(d:ag)(by_:Nat):Option ag:=if d∈row then row[((idx d row 0).toNat+by_)%row.length]? else none
def QH:Option ag→ag×(Bool×Unit)
 |some y=>(y,(true,()))
 |none=>(zD,(false,()))
theorem zt(a n:Nat):Int.tmod (a:Int) (n:Int)=((a%n:Nat):Int):=by rfl
theorem O3{row:List ag}{d:ag}(h:d∈row):((((row.length:Nat):Int))==0)=false:=by
 grind
theorem ahh(hG:HG G)(row:List ag)(d:ag)(hl:row.length≤1073741824):FX G 243 LO ((row,d,()),())=some (QH (fR row d 1),()):=by
 refine au (hG _ _ rfl) afU ?_;refine aa (adq (hG _ _ rfl) row d hl) ?_;by_cases h:d∈row
 ·obtain⟨k,h1,h2,h3⟩:=jo h;have hk:=(abp.1 h2).1;have hm:(k+1)%row.length<row.length:=aeM _ (by omega);have e1:IntKind.wrap .i64 ((k:Int)+1)=((k+1:Nat):Int):=by
   grind [wrap_small]
  have e2:¬((k:Int)<0):=by omega
  have e4:row[(k+1)%row.length]? = some row[(k+1)%row.length]:=abf hm;have e3:fR row d 1=some row[(k+1)%row.length]:=by simp_all [fR,if_pos]
  rw[e3];simp only[h1,e2,decide_false,cond_false,O3 h,e1,zt,ai e4,Option.bind_some];rfl
 ·have h1:=o9.2 h;have e3:fR row d 1=none:=by unfold fR;rw[if_neg h]
  rw[e3];simp only[h1,decide_true,cond_true];rfl
def ia(row:List ag):List ag→Nat→Nat→Nat
 |[],_,k=>k
 |x::r,i,k=>if kZ x (row.getD k zD)<0 then ia row r (i+1) i else ia row r (i+1) k
def Gv(row:List ag)(k:Nat):List ag:=row.drop k++row.take k
def cZ(row:List ag):List ag:=Gv row (ia row row 0 0)
theorem sf(row:List ag):∀(r:List ag) (i k:Nat),k<row.length→i+r.length=row.length→ia row r i k<row.length
 |[],_,k,hk,_=>hk
 |x::r,i,k,hk,hi=>by
  unfold ia;simp at hi
  split
  ·exact sf row r (i+1) i (by omega) (by omega)
  ·exact sf row r (i+1) k hk (by omega)
theorem Fj(row:List ag)(k:Nat):(Gv row k).length=row.length:=by grind [Gv]
theorem jW(row:List ag):(cZ row).length=row.length:=Fj _ _
theorem ZO{row:List ag}{k:Nat}{d:ag}:d∈Gv row k↔d∈row:=by unfold Gv;rw[List.mem_append,or_comm,←List.mem_append,List.take_append_drop]
theorem Mv{row:List ag}{d:ag}:d∈cZ row↔d∈row:=ZO
theorem QI{row:List ag}{k i:Nat}(hk:k≤row.length)(hi:i<row.length):(Gv row k)[i]? = row[(k+i)%row.length]? := by
 unfold Gv;by_cases h:k+i<row.length
 ·rw[List.getElem?_append_left (by simp;omega),List.getElem?_drop,Nat.mod_eq_of_lt h]
 ·rw[List.getElem?_append_right (by simp;omega),List.length_drop,List.getElem?_take,if_pos (by omega)];congr 1;have:(k+i)%row.length=k+i-row.length:=by rw[Nat.mod_eq_sub_mod (by omega),Nat.mod_eq_of_lt (by omega)]
  omega
theorem adr(row:List ag)(k:Nat)(hl:row.length≤100000000)(hk:k≤row.length):∀(n i:Nat) (out T:List ag),i+n=row.length→T=Gv row k→out=T.take i → LX G 132 Ey Tryz.f132 E1 (aE Tryz.prog 132 1) ((row,((k:Int),((i:Int),()))),((),(out,())))=some ((T,()),()):=by
 intro n
 induction n with
 |zero =>
  intro i out T hi hT ho;refine ak VW ?_;have h1:¬((i:Int)<(row.length:Int)):=by omega
  have h2:out=T:=by grind [List.take_of_length_le,Fj]
  subst h2;simp only[h1,decide_false];rfl
 |succ n ih =>
  intro i out T hi hT ho;refine ak VW ?_;have aG:i<row.length:=by omega
  have hm:(k+i)%row.length<row.length:=aeM _ (by omega);have h3:row[(k+i)%row.length]? = some row[(k+i)%row.length]:=abf hm;have h0:((((row.length:Nat):Int))==0)=false:=by grind
  have h4:IntKind.wrap .i64 ((k:Int)+(i:Int))=((k+i:Nat):Int):=by rw[wrap_small (by omega) (by omega)];rfl
  have hol:out.length≤row.length:=by rw[ho,hT];simp;omega
  have h5:aR out.length [row[(k+i)%row.length]].length=true:=fits (by simp;omega);have h6:out++[row[(k+i)%row.length]]=T.take (i+1):=by simp_all [List.take_add_one,QI]
  have h7:=ih (i+1) (out++[row[(k+i)%row.length]]) T (by omega) hT h6;simp only[aJ aG,h0,h4,zt,ai h3,Option.bind_some,h5,aB aG (show row.length≤1073741824 by omega)];exact h7
theorem ads(hG:HG G)(row:List ag)(hl:row.length≤100000000):∀(n i k:Nat),i+n=row.length→(k<row.length∨(row=[]∧k=0)) → LX G 132 Ey Tryz.f132 AQ (aE Tryz.prog 132 0) ((row,((k:Int),((i:Int),()))),((),()))=some ((Gv row (ia row (row.drop i) i k),()),()):=by
 intro n
 induction n with
 |zero =>
  intro i k hi hk;refine ak VV ?_;have h1:¬((i:Int)<(row.length:Int)):=by omega
  have h2:row.drop i=[]:=aeF (by omega);simp only[h1,h2,decide_false,cond_false,ia];exact adr (G:=G) row k hl (by omega) row.length 0 [] (Gv row k) (by omega) rfl (by simp)
 |succ n ih =>
  intro i k hi hk;refine ak VV ?_;have aG:i<row.length:=by omega
  have uh:k<row.length:=hk.resolve_right (by grind);have h2:row.drop i=row[i]::row.drop (i+1):=aeg aG;have h3:row[i]? = some row[i]:=abf aG;have h4:row[k]? = some row[k]:=abf uh;have h5:row.getD k zD=row[k]:=by simp_all
  simp only[aJ aG,cond_true,ai h3,ai h4,Option.bind_some,aB aG (show row.length≤1073741824 by omega)];refine aa (WC hG row[i] row[k]) ?_;rw[h2,ia,h5];by_cases ho:kZ row[i] row[k]<0
  ·rw[if_pos ho];simp only[ho,decide_true];exact ih (i+1) i (by omega) (.inl aG)
  ·rw[if_neg ho];simp only[ho,decide_false];exact ih (i+1) k (by omega) (.inl uh)
theorem amk(hG:HG G)(row:List ag)(hl:row.length≤100000000):FX G 132 Ey ((row,()),())=some ((cZ row,()),()):=by refine au (hG _ _ rfl) alH ?_;have:=ads (G:=G) hG row hl row.length 0 0 (by omega) (by grind);exact this
def uk(row:List ag)(after d:ag):List ag :=if d∈row then cZ row else cZ (row.take ((max 0 (idx after row 0)).toNat+1)++(d::row.drop ((max 0 (idx after row 0)).toNat+1)))
def j0(row:List ag)(d:ag):List ag:=cZ (row.filter fun e=>decide (e≠d))
def oc(row:List ag)(dJ d:ag):List ag:=cZ (if dJ∈row∧d∉row then row.set (idx dJ row 0).toNat d else row)
def e0:ByteArray:=⟨#[]⟩
def zI:ID:=(0,0)
def zV:an:=((0,0),([],(e0,0)))
def zE:aj:=((0,0),(e0,0))
def aZ(l:List an)(x:ID):Option an:=l.find? fun v=>decide (v.1=x)
def ba(l:List aj)(x:ID):Option aj:=l.find? fun v=>decide (v.1=x)
def cH(d:ar)(x:ID):Option an:=aZ d.1 x
def oF(d:ar)(x:ID):Option aj:=ba d.2 x
def Gx(l:List an)(x:ag):Option ID:=(l.find? fun v=>decide (x∈v.2.1)).map (·.1)
def dA(d:ar)(x:ag):Option ID:=Gx d.1 x
def G2{α:Type}(z:α):Option α→α×(Bool×Unit)
 |some y=>(y,(true,()))
 |none=>(z,(false,()))
theorem aml(hG:G 87 JH=none)(d:ar)(x:ID)(hl:d.1.length≤100000000):FX G 87 JH ((d,x,()),())=some (G2 zV (cH d x),()):=by
 refine au hG ak8 ?_;have WD:=bh d.1 (fun i (_:Unit)=>LX G 87 JH Tryz.f87 EK (aE Tryz.prog 87 0) ((i,()),(((d,()),((x,()),(((0:Int),((0:Int),(([]:List ag),(e0,((0:Int),()))))),()))),()))) (fun(r:List an) (_:Unit)=>(G2 zV (aZ r x),())) (fun _ _=>True) (fun s _=>by refine ak Vw ?_;simp only[bW,cond_false];rfl) (fun i y r s hi hx hr _ ih=>by
   refine ak Vw ?_;simp only[aJ hi,cond_true,ai hx,Option.bind_some,vX,aB hi (show d.1.length≤1073741824 by omega)];by_cases he:y.1=x
   ·simp only[he,decide_true,aZ,ba,List.find?_cons];subst he;rfl
   ·simp only[he,decide_false,aZ,ba,List.find?_cons];exact ih () trivial)
  () trivial
 exact WD
theorem amm(hG:G 123 JJ=none)(d:ar)(x:ID)(hl:d.2.length≤100000000):FX G 123 JJ ((d,x,()),())=some (G2 zE (oF d x),()):=by
 refine au hG alb ?_;have WD:=bh d.2 (fun i (_:Unit)=>LX G 123 JJ Tryz.f123 EM (aE Tryz.prog 123 0) ((i,()),(((d,()),((x,()),(((((0:Int),(0:Int)),(e0,(0:Int))),()),()))),()))) (fun(r:List aj) (_:Unit)=>(G2 zE (ba r x),())) (fun _ _=>True) (fun s _=>by refine ak Vy ?_;simp only[bW,cond_false];rfl) (fun i y r s hi hx hr _ ih=>by
   refine ak Vy ?_;simp only[aJ hi,cond_true,ai hx,Option.bind_some,vX,aB hi (show d.2.length≤1073741824 by omega)];by_cases he:y.1=x
   ·simp only[he,decide_true,aZ,ba,List.find?_cons];subst he;rfl
   ·simp only[he,decide_false,aZ,ba,List.find?_cons];exact ih () trivial)
  () trivial
 exact WD
theorem ZP(hG:HG G)(d:ar)(x:ag)(hl:d.1.length≤100000000)(hr:∀v∈d.1,v.2.1.length≤100000000):FX G 174 Eu ((d,x,()),())=some (G2 zI (dA d x),()):=by
 refine au (hG _ _ rfl) ala ?_;have WD:=bh d.1 (fun i (_:Unit)=>LX G 174 Eu Tryz.f174 EL (aE Tryz.prog 174 0) ((i,()),(((d,()),((x,()),((((0:Int),(0:Int)),()),()))),()))) (fun r _=>(G2 zI (Gx r x),())) (fun _ _=>True) (fun s _=>by refine ak Vx ?_;simp only[bW,cond_false];rfl) (fun i y r s hi hx A3 _ ih=>by
   refine ak Vx ?_;simp only[aJ hi,cond_true,ai hx,Option.bind_some,aB hi (show d.1.length≤1073741824 by omega)];refine aa (adq (hG _ _ rfl) y.2.1 x (by grind)) ?_;by_cases he:x∈y.2.1
   ·have h1:idx x y.2.1 0≥0:=by grind [jo]
    simp only[h1,decide_true,Gx,List.find?_cons,he];rfl
   ·have h1:¬idx x y.2.1 0≥0:=by simp_all [o9]
    simp only[h1,decide_false,Gx,List.find?_cons,he];exact ih () trivial)
  () trivial
 exact WD
def im(v:an):List an→List an
 |[]=>[v]
 |w::r=>if fD v.1 w.1 then v::w::r else w::im v r
def ib(v:aj):List aj→List aj
 |[]=>[v]
 |w::r=>if fD v.1 w.1 then v::w::r else w::ib v r
theorem cm(a:ID):fD a a=false:=by simp[fD]
theorem mN(a b:ID):sd a b<0↔fD a b=true:=by
 unfold sd;by_cases h:a=b
 ·grind [cm]
 grind
def gu(l:List an)(v:ID):List an:=l.filter fun w=>decide (w.1≠v)
def fw(l:List aj)(v:ID):List aj:=l.filter fun w=>decide (w.1≠v)
def bj(d:ar)(v e:ID):ar:=(gu d.1 v,fw d.2 e)
instance ao5:DecidableEq (List an):=@instDecidableEqList an inferInstance
instance decLE:DecidableEq (List aj):=@instDecidableEqList aj inferInstance
instance aj3:DecidableEq ar:=instDecidableEqProd
instance ahi:DecidableEq StateT:=instDecidableEqProd
structure Sm(d:ar):Prop where
 v:d.1.length≤50000000
 e:d.2.length≤50000000
 r:∀w∈d.1,w.2.1.length≤50000000
def A4(x:ID)(l:List ag)(w:an):an:=if w.1=x then(w.1,(l,w.2.2)) else w
def cE(d:ar)(x:ID)(l:List ag):ar:=(d.1.map (A4 x l),d.2)
theorem kl(i:Nat):decide ((0:Int)≤(i:Int))=true:=by simp
def dd(d:ar)(x:ID):List ag:=((cH d x).getD zV).2.1
theorem J8{α:Type}(z:α)(o:Option α):(G2 z o).1=o.getD z:=by cases o<;>rfl
theorem Da{α:Type}(z:α)(o:Option α):(G2 z o).2.1=o.isSome:=by cases o<;>rfl
theorem S8{d:ar}(hs:Sm d)(x:ID):(dd d x).length≤50000000:=by
 unfold dd
 cases h:cH d x with
 |none=>simp[zV]
 |some v=>exact hs.r v (ado h)
def cS(d:ar)(c:xV)(x:ag):ar:=cE d c.1 (uk (dd d c.1) c.2 x)
def aU(d:ar)(dJ x:ag):ar:=cE d ((dA d dJ).getD zI) (oc (dd d ((dA d dJ).getD zI)) dJ x)
def aN(d:ar)(x:ag):ar:=cE d ((dA d x).getD zI) (j0 (dd d ((dA d x).getD zI)) x)
def my(row:List ag)(x:ag):ag:=(fR row x (row.length-1)).getD zD
theorem QJ(o:Option ag):(QH o).1=o.getD zD:=by cases o<;>rfl
def fL(d:ar)(x:ag):ag :=
 let row:=dd d ((dA d x).getD zI)
 let y:=my row x
 let z:=if y.1=x.1 then my row y else y
 if z.1=x.1 then zD else z
def pf(l:List aC)(d:ag):Option ag:=(l.find? fun g=>decide (g.1=d)).map (·.2)
theorem amn(hG:G 38 JK=none)(a b:List aC)(ha:a.length≤100000000):FX G 38 JK ((a,b,()),())=some ((decide (a=b),()),()):=by
 refine au hG alq ?_;by_cases hl:a.length=b.length
 case neg =>
  have h1:((((a.length:Nat):Int)) != ((b.length:Nat):Int))=true:=by simp;omega
  have h2:¬a=b:=fun e=>hl (by rw[e]);simp only[h1,h2,decide_false];rfl
 have h1:((((a.length:Nat):Int)) != ((b.length:Nat):Int))=false:=by simp[hl]
 simp only[h1];have NL:(a.zip b).length=a.length:=by simp[hl]
 have key:=bh (a.zip b) (fun i (_:Unit)=>LX G 38 JK Tryz.f38 EU (aE Tryz.prog 38 0) ((a,(b,(i,()))),((),()))) (fun r _=>((r.all (fun p=>decide (p.1=p.2)),()),())) (fun _ _=>True) (fun s _=>by refine ak VJ ?_;rw[NL];simp only[bW];rfl) (fun i x r s hi hx hr _ ih=>by
   rw[NL]at hi;obtain⟨h3,h4⟩:=C9 hx;refine ak VJ ?_;simp only[aJ hi,ai h3,ai h4,Option.bind_some,vY,aB hi (show a.length≤1073741824 by omega)];by_cases he:x.1=x.2
   ·simp only[he,decide_true,Bool.and_self,Bool.not_true,List.all_cons,Bool.true_and];exact ih () trivial
   ·have h9:(decide (x.1.1=x.2.1)&&decide (x.1.2=x.2.2))=false:=by
     grind
    simp only[he,h9,decide_false,Bool.not_false,List.all_cons,Bool.false_and];rfl)
  () trivial
 rw[zr a b hl]at key;exact key
theorem amo(hG:HG G)(a b:ar)(hs:Sm a):FX G 37 Ew ((a,b,()),())=some ((decide (a=b),()),()):=by
 have hv:=hs.v;have he:=hs.e;refine au (hG _ _ rfl) alf ?_;by_cases hl:a.1.length=b.1.length
 case neg =>
  have h1:((((a.1.length:Nat):Int)) != ((b.1.length:Nat):Int))=true:=by simp;omega
  have h2:¬a=b:=fun e=>hl (by rw[e]);simp only[h1,h2,decide_false];rfl
 have h1:((((a.1.length:Nat):Int)) != ((b.1.length:Nat):Int))=false:=by simp[hl]
 simp only[h1];by_cases tL:a.2.length=b.2.length
 case neg =>
  have h1:((((a.2.length:Nat):Int)) != ((b.2.length:Nat):Int))=true:=by simp;omega
  have h2:¬a=b:=fun e=>tL (by rw[e]);simp only[h1,h2,decide_false];rfl
 have h2:((((a.2.length:Nat):Int)) != ((b.2.length:Nat):Int))=false:=by simp[tL]
 simp only[h2];have NL:(a.1.zip b.1).length=a.1.length:=by simp[hl]
 have ahj:(a.2.zip b.2).length=a.2.length:=by simp[tL]
 have G3:=bh (a.2.zip b.2) (fun i (_:Unit)=>LX G 37 Ew Tryz.f37 ER (aE Tryz.prog 37 1) ((i,()),(((a,()),((b,()),())),()))) (fun r _=>((r.all (fun p=>decide (p.1=p.2)),()),())) (fun _ _=>True) (fun s _=>by refine ak VD ?_;rw[ahj];simp only[bW];rfl) (fun i x r s hi hx hr _ ih=>by
   rw[ahj]at hi;obtain⟨h3,h4⟩:=C9 hx;refine ak VD ?_;simp only[aJ hi,ai h3,ai h4,Option.bind_some,vX,ZN,aB hi (show a.2.length≤1073741824 by omega)];by_cases he:x.1=x.2
   ·simp only[he,decide_true,beq_self_eq_true,Bool.and_self,Bool.not_true,List.all_cons,Bool.true_and];exact ih () trivial
   ·have h9:(decide (x.1.1=x.2.1)&&(decide (x.1.2.1=x.2.2.1)&&(x.1.2.2==x.2.2.2)))=false:=by
     grind
    simp only[he,h9,decide_false,Bool.not_false,List.all_cons,Bool.false_and];rfl)
  () trivial
 rw[zr a.2 b.2 tL]at G3;have key:=bh (a.1.zip b.1) (fun i (_:Unit)=>LX G 37 Ew Tryz.f37 EP (aE Tryz.prog 37 0) ((i,()),(((a,()),((b,()),())),()))) (fun r _=>((r.all (fun p=>decide (p.1=p.2))&&decide (a.2=b.2),()),())) (fun _ _=>True) (fun s _=>by refine ak VC ?_;rw[NL];simp only[bW,List.all_nil,Bool.true_and];exact G3) (fun i x r s hi hx hr _ ih=>by
   rw[NL]at hi;obtain⟨h3,h4⟩:=C9 hx;refine ak VC ?_;simp only[aJ hi,ai h3,ai h4,Option.bind_some,vX,ZN,aB hi (show a.1.length≤1073741824 by omega)];refine aa (ahg hG x.1.2.1 x.2.2.1 (by have:=hs.r x.1 (abC h3);omega)) ?_;by_cases e1:x.1.1=x.2.1
   case neg =>
    have he:¬x.1=x.2:=fun e=>e1 (by rw[e]);have d1:=decide_eq_false e1;simp only[d1,he,decide_false,List.all_cons,Bool.false_and];rfl
   have d1:=decide_eq_true e1;by_cases e2:x.1.2.2.1=x.2.2.2.1
   case neg =>
    have he:¬x.1=x.2:=fun e=>e2 (by rw[e]);have d2:=decide_eq_false e2;simp only[d1,d2,he,decide_false,List.all_cons,Bool.false_and];rfl
   have d2:=decide_eq_true e2;by_cases e3:x.1.2.2.2=x.2.2.2.2
   case neg =>
    have he:¬x.1=x.2:=fun e=>e3 (by rw[e]);have h8:(x.1.2.2.2 != x.2.2.2.2)=true:=by simp[e3]
    simp only[d1,d2,h8,he,decide_false,List.all_cons,Bool.false_and];rfl
   have h8:(x.1.2.2.2 != x.2.2.2.2)=false:=by simp[e3]
   by_cases e4:x.1.2.1=x.2.2.1
   case neg =>
    have he:¬x.1=x.2:=fun e=>e4 (by rw[e]);have d4:=decide_eq_false e4;simp only[d1,d2,h8,d4,he,decide_false,List.all_cons,Bool.false_and];rfl
   have d4:=decide_eq_true e4;have he:decide (x.1=x.2)=true:=decide_eq_true (Prod.ext e1 (Prod.ext e4 (Prod.ext e2 e3)));simp only[d1,d2,h8,d4,he,List.all_cons,Bool.true_and];exact ih () trivial)
  () trivial
 rw[zr a.1 b.1 hl]at key;have j7:(decide (a.1=b.1)&&decide (a.2=b.2))=decide (a=b):=by
  grind
 exact key.trans (congrArg (fun b:Bool=>some ((b,()),())) j7)
theorem ahk(hG:HG G)(a b:StateT)(hs:Sm a.1)(hg:a.2.length≤50000000):FX G 14 SJ ((a,b,()),())=some ((decide (a=b),()),()):=by
 refine au (hG _ _ rfl) ak7 ?_;refine aa (amo hG a.1 b.1 hs) ?_;refine aa (amn (hG _ _ rfl) a.2 b.2 (by omega)) ?_;have j7:(decide (a.1=b.1)&&decide (a.2=b.2))=decide (a=b):=by
  grind
 rw[←j7];by_cases h:a.1=b.1
 ·simp only[h,decide_true,Bool.true_and];rfl
 ·simp only[h,decide_false,Bool.false_and];rfl
def vZ(g:aC)(l:List aC):List aC:=l.filter fun q=>decide (q.1≠g.1)
def tf(g:aC):List aC→List aC
 |[]=>[g]
 |e::r=>if kZ g.1 e.1≤0 then g::vZ g (e::r) else if e.1≠g.1 then e::tf g r else tf g r
def ct(l:List aC)(g:aC):List aC:=if(pf l g.1).isSome=false∧400≤l.length then l else tf g l
def goG(g:aC)(put:Bool)(r:List aC):List aC:=if put then vZ g r else tf g r
def res(d:ar)(gn:List aC):Nat→ag→ag
 |0,_=>zD
 |n+1,x=>if(dA d x).isSome then x else match pf gn x with
  |none=>zD
  |some y=>res d gn n y
def resolve(s:StateT)(x:ag):ag:=res s.1 s.2 (s.2.length+1) x
def zC:xV:=(zI,zD)
def J9(s:StateT)(c:xV)(v:an):ag:=if resolve s c.2∈v.2.1 then resolve s c.2 else zD
def dn(s:StateT)(c:xV):xV×(Int×Unit):=match cH s.1 c.1 with
 |none=>(zC,(13,()))
 |some v=>((c.1,J9 s c v),(0,()))
def aw(x:ag):ag:=(x.1,IntKind.wrap .i64 (1-x.2))
def kH(d:ar)(x:ag):Option ag:=match dA d x with
 |none=>none
 |some a=>fR (dd d a) x 1
theorem amp(hG:HG G)(d:ar)(x:ag)(hs:Sm d):FX G 237 Vo ((d,x,()),())=some (QH (kH d x),()):=by
 have hv:=hs.v;refine au (hG _ _ rfl) alI ?_;refine aa (ZP hG d x (by omega) (fun w hw=>by have:=hs.r w hw;omega)) ?_;unfold kH
 cases ha:dA d x with
 |none=>rfl
 |some a =>have hr:=S8 hs a;refine aa (aml (hG _ _ rfl) d a (by omega)) ?_;rw[show(G2 zV (cH d a)).1=(cH d a).getD zV from J8 _ _];exact aa (ahh hG (dd d a) x (by omega)) rfl
def KO(d:ar)(x:ag):Option ag:=if(dA d x).isSome then kH d (aw x) else none
theorem ahl(hG:HG G)(d:ar)(x:ag)(hs:Sm d):FX G 226 SM ((d,x,()),())=some (QH (KO d x),()):=by
 have hv:=hs.v;refine au (hG _ _ rfl) alr ?_;refine aa (ZP hG d x (by omega) (fun w hw=>by have:=hs.r w hw;omega)) ?_;rw[show(G2 zI (dA d x)).2.1=(dA d x).isSome from Da _ _];unfold KO
 cases ha:(dA d x).isSome
 ·rfl
 ·refine aa (ami (hG _ _ rfl) x) ?_;exact aa (amp hG d (aw x) hs) rfl
def um(d:ar)(x:ag):Nat→ag→List ag→List ag
 |0,_,out=>out
 |n+1,y,out=>if y=x then out else um d x n ((KO d y).getD zD) (out++[y])
def bp(d:ar)(x:ag):List ag:=match KO d x with
 |none=>[]
 |some y=>um d x 81 y [x]
theorem amq(hG:HG G)(d:ar)(x:ag)(hs:Sm d):FX G 210 LH ((d,x,()),())=some ((bp d x,()),()):=by
 refine au (hG _ _ rfl) alc ?_;refine aa (ahl hG d x hs) ?_;unfold bp
 cases hp:KO d x with
 |none=>rfl
 |some y =>
  have h5:aR ([]:List ag).length [x].length=true:=fits (by simp);have loop:∀(n:Nat) (y:ag) (out:List ag),out.length+n=82→LX G 210 LH Tryz.f210 EN (aE Tryz.prog 210 0) ((),((d,()),((x,()),((y,()),()))),(out,()))=some ((um d x n y out,()),()):=by
   intro n
   induction n with
   |zero =>
    intro y out ho;refine ak VA ?_;have h1:decide (((out.length:Nat):Int)<82)=false:=by simp;omega
    simp only[vY,h1];by_cases hy:y=x
    ·have d1:=decide_eq_true hy;simp only[d1];rfl
    ·have d1:=decide_eq_false hy;simp only[d1];rfl
   |succ n ih =>
    intro y out ho;refine ak VA ?_;have h1:decide (((out.length:Nat):Int)<82)=true:=by simp;omega
    have h6:aR out.length [y].length=true:=fits (by simp;omega);simp only[vY,h1,h6];rw[um];by_cases hy:y=x
    ·have d1:=decide_eq_true hy;rw[if_pos hy];simp only[d1];rfl
    ·have d1:=decide_eq_false hy;rw[if_neg hy];simp only[d1];refine aa (ahl hG d y hs) ?_;rw[show(QH (KO d y)).1=(KO d y).getD zD from QJ _];exact ih ((KO d y).getD zD) (out++[y]) (by simp;omega)
  exact loop 81 y [x] (by simp)
theorem Ip(d:ar)(x:ag):∀(n:Nat) (y:ag) (out:List ag),(um d x n y out).length≤out.length+n
 |0,_,out=>abX _
 |n+1,y,out=>by
  unfold um
  split
  ·omega
  ·have:=Ip d x n ((KO d y).getD zD) (out++[y]);simp at this;omega
theorem Iq(d:ar)(x:ag):(bp d x).length≤82:=by
 grind [bp,KO,Ip]
def fE:List aj→List ag
 |[]=>[]
 |e::r=>(e.1,0)::(e.1,1)::fE r
theorem od:∀l:List aj,(fE l).length=2*l.length
 |[]=>rfl
 |e::r=>by simp[fE,od r];omega
theorem amr(hG:G 209 JO=none)(d:ar)(hs:Sm d):FX G 209 JO ((d,()),())=some ((fE d.2,()),()):=by have he:=hs.e;refine au hG alx ?_;have key:=bh d.2 (fun i (s:List ag)=>LX G 209 JO Tryz.f209 EZ (aE Tryz.prog 209 0) ((i,()),(((d,()),()),(s,())))) (fun(r:List aj) (s:List ag)=>((s++fE r,()),())) (fun n s=>s.length+2*n≤2*d.2.length) (fun s _=>by refine ak VR ?_;simp only[bW,fE,List.append_nil];rfl) (fun i y r s hi hx A3 hs ih=>by refine ak VR ?_;have h6:aR s.length [((y.1,(0:Int)):ag),(y.1,(1:Int))].length=true:=fits (by simp;omega);simp only[aJ hi,ai hx,Option.bind_some,h6,aB hi (show d.2.length≤1073741824 by omega)];have:=ih (s++[(y.1,0),(y.1,1)]) (by simp;omega);refine this.trans (congrArg (fun l:List ag=>some ((l,()),())) ?_);simp[fE]) [] (by simp);exact key
def jx(d:ar):List ag→List (List ag)→List ag→List (List ag)
 |[],out,_=>out
 |x::r,out,told=>if x∈told then jx d r out told else jx d r (out++[bp d x]) (told++bp d x)
def cv(d:ar):List (List ag):=jx d (fE d.2) [] []
theorem ams(hG:HG G)(d:ar)(hs:Sm d)(he:d.2.length≤5000000):FX G 185 LI ((d,()),())=some ((cv d,()),()):=by
 refine au (hG _ _ rfl) alj ?_;refine aa (amr (hG _ _ rfl) d hs) ?_;have Mi:=od d.2;unfold cv;generalize fE d.2=ds at *;have key:=bh ds (fun i (s:List (List ag)×List ag)=>LX G 185 LI Tryz.f185 AM (aE Tryz.prog 185 0) ((i,()),(((d,()),()),(s.1,(s.2,(ds,())))))) (fun(r:List ag) (s:List (List ag)×List ag)=>((jx d r s.1 s.2,()),())) (fun n s=>s.1.length+n≤ds.length∧s.2.length+82*n≤82*ds.length) (fun s _=>by refine ak VG ?_;simp only[bW];rfl) (fun i y r s hi hx A3 Zt ih=>by
   obtain⟨out,told⟩:=s;obtain⟨b1,b2⟩:=Zt;simp only at b1 b2;refine ak VG ?_;simp only[aJ hi,kl,Bool.and_self,Int.toNat_natCast,hx,Option.bind_some,aB hi (show ds.length≤1073741824 by omega)];refine aa (adq (hG _ _ rfl) told y (by omega)) ?_;rw[jx];by_cases hm:y∈told
   ·have d1:decide (idx y told 0≥0)=true:=decide_eq_true (by grind [jo]);rw[if_pos hm];simp only[d1];exact ih (out,told) ⟨by grind,by grind⟩
   ·have d1:decide (idx y told 0≥0)=false:=decide_eq_false (by simp_all [o9]);rw[if_neg hm];simp only[d1];refine aa (amq hG d y hs) ?_;have htl:=Iq d y;have h6:aR out.length [bp d y].length=true:=fits (by simp;omega);have h7:aR told.length (bp d y).length=true:=fits (by omega);simp only[h6,h7];exact ih (out++[bp d y],told++bp d y) ⟨by simp;omega,by simp;omega⟩)
  ([],[]) ⟨by simp,by simp⟩
 exact key
end Go.Vs
