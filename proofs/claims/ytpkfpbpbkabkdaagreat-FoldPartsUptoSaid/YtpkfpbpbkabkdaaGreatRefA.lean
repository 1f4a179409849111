/- What the document's reference -/
import Derived.Test.YtpkfpbpbkabkdaaGreatNormalA
import Derived.Test.YtpkfpbpbkabkdaaGreatNormalB
import Derived.Test.YtpkfpbpbkabkdaaGreatNormalC
set_option linter.unusedVariables false
set_option linter.unusedSimpArgs false
namespace Go.Vs
open Go.Proofs
variable {G:(f:FuncId)→(g:aO)→Option (g.A→Option g.B)}
theorem aa{α β:Type}{o:Option α}{f:α→Option β}{a:α}{r:Option β}(h:o=some a)(k:f a=r):o.bind f=r:=by rw[h];exact k
theorem aR{α:Type}{l:List α}{i:Nat}{x:α}(h:l[i]? = some x):bU l (i:Int)=some x:=by have hl:=(abr.1 h).1;simp[bU,h]
theorem wrap_small{n:Int}(h0 : -9223372036854775808≤n)(h1:n<9223372036854775808):IntKind.wrap .i64 n=n:=by unfold IntKind.wrap;simp[IntKind.bits,IntKind.signed];omega
theorem aK{i n:Nat}(h:i<n)(hn:n≤1073741824):IntKind.wrap .i64 ((i:Int)+1)=((i+1:Nat):Int):=by rw[wrap_small (by omega) (by omega)];rfl
theorem bg{i n:Nat}(h:i<n):decide ((i:Int)<((n:Nat):Int))=true:=by simpa using h
theorem jD(n:Nat):decide (((n:Nat):Int)<((n:Nat):Int))=false:=by simp
theorem fits{n m:Nat}(h:n+m≤1073741824):bJ n m=true:=decide_eq_true h
theorem Cc(a b:ID):((a.1==b.1)&&(a.2==b.2))=decide (a=b):=by obtain⟨a1,a2⟩:=a;obtain⟨b1,b2⟩:=b;rw[Bool.eq_iff_iff];simp
theorem Dq(a b:ab):(((a.1.1==b.1.1)&&(a.1.2==b.1.2))&&(a.2==b.2))=decide (a=b):=by obtain⟨⟨a1,a2⟩,a3⟩:=a;obtain⟨⟨b1,b2⟩,b3⟩:=b;rw[Bool.eq_iff_iff];simp[and_assoc]
theorem X5(a b:ByteArray):(a==b)=decide (a=b):=by obtain⟨a⟩:=a;obtain⟨b⟩:=b;show(a==b)=_;rw[Bool.eq_iff_iff];simp
theorem dz{α S R:Type}(l:List α)(L:Int→S→Option R)(g:List α→S→R)(inv:Nat→S→Prop) (aga:∀s,inv 0 s→L ((l.length:Nat):Int) s=some (g [] s)) (abH:∀(i:Nat) (x:α) (r:List α) (s:S),i<l.length→l[i]? = some x→i+r.length+1=l.length→inv (r.length+1) s→(∀s',inv r.length s'→L ((i+1:Nat):Int) s'=some (g r s'))→L (i:Int) s=some (g (x::r) s)) :
  ∀s,inv l.length s→L 0 s=some (g l s):=by
 have key:∀(r p:List α),p++r=l→∀s,inv r.length s→L ((p.length:Nat):Int) s=some (g r s):=by
  intro r
  induction r with
  |nil=>intro p hp s hs;rw[List.append_nil]at hp;subst hp;exact aga s hs
  |cons x r ih =>
   intro p hp s hs;refine abH p.length x r s ?_ ?_ ?_ hs (fun s' hs' => ?_)
   ·rw[←hp];simp
   ·rw[←hp];simp
   ·rw[←hp];simp;omega
   ·have:=ih (p++[x]) (by simp[hp]) s' hs';simpa using this
 intro s hs;exact key l [] rfl s hs
def zD:ab:=((0,0),0)
def dL(x:ID):Bool:=decide (1≤x.1∧x.1≤8∧1≤x.2∧x.2≤1048576)
def gI(a b:ID):Bool:=decide (a.1<b.1∨(a.1=b.1∧a.2<b.2))
def Cd(a b:ID):Int:=if a=b then 0 else if gI a b then -1 else 1
def lA(a b:ab):Bool:=gI a.1 b.1 || (decide (a.1=b.1)&&decide (a.2<b.2))
def tn(a b:ab):Int:=if a=b then 0 else if lA a b then -1 else 1
def X6(d:ab):Bool:=dL d.1&&decide (d.2=0∨d.2=1)
def idx(d:ab):List ab→Int→Int
 |[],_ => -1
 |e::r,i=>if e=d then i else idx d r (i+1)
theorem sP(d:ab):∀(row:List ab) (i:Int),0≤i→(idx d row i = -1∧d∉row)∨(∃k:Nat,idx d row i=i+k∧row[k]? = some d∧d∉row.take k)
 |[],i,_=>.inl ⟨rfl,by simp⟩
 |e::r,i,h=>by
  unfold idx;by_cases he:e=d
  ·right;exact⟨0,by simp[he],by simp[he],by simp⟩
  ·rw[if_neg he];rcases sP d r (i+1) (by omega) with⟨h1,h2⟩|⟨k,h1,h2,h3⟩
   ·exact .inl ⟨h1,by simp[h2,Ne.symm he]⟩
   ·exact .inr ⟨k+1,by rw[h1];omega,by simpa using h2,by simp[h3,Ne.symm he]⟩
theorem wh{d:ab}{row:List ab}:idx d row 0<0↔d∉row:=by
 rcases sP d row 0 (by omega) with⟨h1,h2⟩|⟨k,h1,h2,_⟩
 ·simp[h1,h2]
 ·have:=acy h2;simp[this];omega
theorem jE{d:ab}{row:List ab}(h:d∈row):∃k:Nat,idx d row 0=k∧row[k]? = some d∧d∉row.take k:=by
 rcases sP d row 0 (by omega) with⟨_,h2⟩|⟨k,h1,h2,h3⟩
 ·exact absurd h h2
 ·exact⟨k,by omega,h2,h3⟩
theorem wi{α:Type}[DecidableEq α]:∀(a b:List α),a.length=b.length→(a.zip b).all (fun p=>decide (p.1=p.2))=decide (a=b)
 |[],[],_=>by simp
 |[],_::_,h=>by simp at h
 |_::_,[],h=>by simp at h
 |x::a,y::b,h=>by simp only[List.zip_cons_cons,List.all_cons,wi a b (by simpa using h)];rw[Bool.eq_iff_iff];simp
theorem Ad{α:Type}{a b:List α}{i:Nat}{x:α×α}(h:(a.zip b)[i]? = some x):a[i]? = some x.1∧b[i]? = some x.2:=by obtain⟨x1,x2⟩:=x;exact List.getElem?_zip_eq_some.1 h
theorem agb(hG:HG G)(a b:List ab)(ha:a.length≤1073741824):FX G 98 HQ ((a,b,()),())=some ((decide (a=b),()),()):=by
 refine aA (hG _ _ rfl) afw ?_;by_cases hl:a.length=b.length
 case neg =>
  have h1:((((a.length:Nat):Int)) != ((b.length:Nat):Int))=true:=by simp;omega
  have h2:¬a=b:=fun e=>hl (by rw[e]);simp only[h1,h2,decide_false];rfl
 have h1:((((a.length:Nat):Int)) != ((b.length:Nat):Int))=false:=by simp[hl]
 simp only[h1];have GM:(a.zip b).length=a.length:=by simp[hl]
 have key:=dz (a.zip b) (fun i (_:Unit)=>LX G 98 HQ Tryz.f98 BQ (aZ Tryz.prog 98 0) ((a,(b,(i,()))),((),()))) (fun r _=>((r.all (fun p=>decide (p.1=p.2)),()),())) (fun _ _=>True) (fun s _=>by refine aC QU ?_;rw[GM];simp only[jD,cond_false];rfl) (fun i x r s hi hx hr _ ih=>by
   rw[GM]at hi;obtain⟨h3,h4⟩:=Ad hx;refine aC QU ?_;simp only[bg hi,cond_true,aR h3,aR h4,Option.bind_some,Dq,aK hi ha];by_cases he:x.1=x.2
   ·simp only[he,decide_true,Bool.not_true,cond_false,List.all_cons,Bool.true_and];exact ih () trivial
   ·simp only[he,decide_false,Bool.not_false,cond_true,List.all_cons,Bool.false_and];rfl)
  () trivial
 rw[wi a b hl]at key;exact key
def jc(row:List ab)(d:ab)(by_:Nat):Option ab:=if d∈row then row[((idx d row 0).toNat+by_)%row.length]? else none
def TN:Option ab→ab×(Bool×Unit)
 |some y=>(y,(true,()))
 |none=>(zD,(false,()))
theorem IA(a n:Nat):Int.tmod (a:Int) (n:Int)=((a%n:Nat):Int):=by rw[Int.tmod_eq_emod_of_nonneg (by omega)];rfl
theorem RA{row:List ab}{d:ab}(h:d∈row):((((row.length:Nat):Int))==0)=false:=by have:=adZ h;simp;intro e;subst e;simp at h
def fP(row:List ab):List ab→Nat→Nat→Nat
 |[],_,k=>k
 |x::r,i,k=>if tn x (row.getD k zD)<0 then fP row r (i+1) i else fP row r (i+1) k
def Gb(row:List ab)(k:Nat):List ab:=row.drop k++row.take k
def cq(row:List ab):List ab:=Gb row (fP row row 0 0)
theorem nt(row:List ab):∀(r:List ab) (i k:Nat),k<row.length→i+r.length=row.length→fP row r i k<row.length
 |[],_,k,hk,_=>hk
 |x::r,i,k,hk,hi=>by
  unfold fP;simp at hi
  split
  ·exact nt row r (i+1) i (by omega) (by omega)
  ·exact nt row r (i+1) k hk (by omega)
theorem KQ(row:List ab)(k:Nat):(Gb row k).length=row.length:=by unfold Gb;simp;omega
theorem gu(row:List ab):(cq row).length=row.length:=KQ _ _
theorem UR{row:List ab}{k:Nat}{d:ab}:d∈Gb row k↔d∈row:=by unfold Gb;rw[List.mem_append,or_comm,←List.mem_append,List.take_append_drop]
theorem oL{row:List ab}{d:ab}:d∈cq row↔d∈row:=UR
theorem US{row:List ab}{k i:Nat}(hk:k≤row.length)(hi:i<row.length):(Gb row k)[i]? = row[(k+i)%row.length]? := by
 unfold Gb;by_cases h:k+i<row.length
 ·rw[List.getElem?_append_left (by simp;omega),List.getElem?_drop,Nat.mod_eq_of_lt h]
 ·rw[List.getElem?_append_right (by simp;omega),List.length_drop,List.getElem?_take,if_pos (by omega)];congr 1;have:(k+i)%row.length=k+i-row.length:=by rw[Nat.mod_eq_sub_mod (by omega),Nat.mod_eq_of_lt (by omega)]
  omega
def qK(row:List ab)(after d:ab):List ab :=if d∈row then cq row else cq (row.take ((max 0 (idx after row 0)).toNat+1)++(d::row.drop ((max 0 (idx after row 0)).toNat+1)))
def jl(row:List ab)(d:ab):List ab:=cq (row.filter fun e=>decide (e≠d))
def gx(row:List ab)(cQ d:ab):List ab:=cq (if cQ∈row∧d∉row then row.set (idx cQ row 0).toNat d else row)
def e0:ByteArray:=⟨#[]⟩
def zI:ID:=(0,0)
def zV:ai:=((0,0),([],(e0,0)))
def zE:aq:=((0,0),(e0,0))
def aL(l:List ai)(x:ID):Option ai:=l.find? fun v=>decide (v.1=x)
def aV(l:List aq)(x:ID):Option aq:=l.find? fun v=>decide (v.1=x)
def cd(d:ak)(x:ID):Option ai:=aL d.1 x
def nR(d:ak)(x:ID):Option aq:=aV d.2 x
def Gc(l:List ai)(x:ab):Option ID:=(l.find? fun v=>decide (x∈v.2.1)).map (·.1)
def ed(d:ak)(x:ab):Option ID:=Gc d.1 x
def UT{α:Type}(z:α):Option α→α×(Bool×Unit)
 |some y=>(y,(true,()))
 |none=>(z,(false,()))
def cW(v:ai):List ai→List ai
 |[]=>[v]
 |w::r=>if gI v.1 w.1 then v::w::r else w::cW v r
def fg(v:aq):List aq→List aq
 |[]=>[v]
 |w::r=>if gI v.1 w.1 then v::w::r else w::fg v r
theorem bV(a:ID):gI a a=false:=by simp[gI]
theorem wj(a b:ID):Cd a b<0↔gI a b=true:=by
 unfold Cd;by_cases h:a=b
 ·subst h;simp[bV]
 ·rw[if_neg h];split<;>simp_all
def dv(l:List ai)(v:ID):List ai:=l.filter fun w=>decide (w.1≠v)
def dX(l:List aq)(v:ID):List aq:=l.filter fun w=>decide (w.1≠v)
def aI(d:ak)(v e:ID):ak:=(dv d.1 v,dX d.2 e)
instance aiA:DecidableEq (List ai):=@instDecidableEqList ai inferInstance
instance decLE:DecidableEq (List aq):=@instDecidableEqList aq inferInstance
instance ad8:DecidableEq ak:=instDecidableEqProd
instance abI:DecidableEq StateT:=instDecidableEqProd
structure Sm(d:ak):Prop where
 v:d.1.length≤50000000
 e:d.2.length≤50000000
 r:∀w∈d.1,w.2.1.length≤50000000
def xu(x:ID)(l:List ab)(w:ai):ai:=if w.1=x then(w.1,(l,w.2.2)) else w
def cf(d:ak)(x:ID)(l:List ab):ak:=(d.1.map (xu x l),d.2)
theorem kS(i:Nat):decide ((0:Int)≤(i:Int))=true:=by simp
def cM(d:ak)(x:ID):List ab:=((cd d x).getD zV).2.1
theorem Mq{α:Type}(z:α)(o:Option α):(UT z o).2.1=o.isSome:=by cases o<;>rfl
def cr(d:ak)(c:uP)(x:ab):ak:=cf d c.1 (qK (cM d c.1) c.2 x)
def aw(d:ak)(cQ x:ab):ak:=cf d ((ed d cQ).getD zI) (gx (cM d ((ed d cQ).getD zI)) cQ x)
def aE(d:ak)(x:ab):ak:=cf d ((ed d x).getD zI) (jl (cM d ((ed d x).getD zI)) x)
def mE(row:List ab)(x:ab):ab:=(jc row x (row.length-1)).getD zD
theorem UU(o:Option ab):(TN o).1=o.getD zD:=by cases o<;>rfl
def fh(d:ak)(x:ab):ab :=
 let row:=cM d ((ed d x).getD zI)
 let y:=mE row x
 let z:=if y.1=x.1 then mE row y else y
 if z.1=x.1 then zD else z
def mF(l:List aM)(d:ab):Option ab:=(l.find? fun g=>decide (g.1=d)).map (·.2)
theorem agc(hG:G 65 FN=none)(a b:List aM)(ha:a.length≤100000000):FX G 65 FN ((a,b,()),())=some ((decide (a=b),()),()):=by
 refine aA hG afv ?_;by_cases hl:a.length=b.length
 case neg =>
  have h1:((((a.length:Nat):Int)) != ((b.length:Nat):Int))=true:=by simp;omega
  have h2:¬a=b:=fun e=>hl (by rw[e]);simp only[h1,h2,decide_false];rfl
 have h1:((((a.length:Nat):Int)) != ((b.length:Nat):Int))=false:=by simp[hl]
 simp only[h1];have GM:(a.zip b).length=a.length:=by simp[hl]
 have key:=dz (a.zip b) (fun i (_:Unit)=>LX G 65 FN Tryz.f65 BP (aZ Tryz.prog 65 0) ((a,(b,(i,()))),((),()))) (fun r _=>((r.all (fun p=>decide (p.1=p.2)),()),())) (fun _ _=>True) (fun s _=>by refine aC QT ?_;rw[GM];simp only[jD];rfl) (fun i x r s hi hx hr _ ih=>by
   rw[GM]at hi;obtain⟨h3,h4⟩:=Ad hx;refine aC QT ?_;simp only[bg hi,aR h3,aR h4,Option.bind_some,Dq,aK hi (show a.length≤1073741824 by omega)];by_cases he:x.1=x.2
   ·simp only[he,decide_true,Bool.and_self,Bool.not_true,List.all_cons,Bool.true_and];exact ih () trivial
   ·have h9:(decide (x.1.1=x.2.1)&&decide (x.1.2=x.2.2))=false:=by rw[Bool.eq_false_iff];intro h;simp at h;exact he (Prod.ext h.1 h.2)
    simp only[he,h9,decide_false,Bool.not_false,List.all_cons,Bool.false_and];rfl)
  () trivial
 rw[wi a b hl]at key;exact key
theorem agd(hG:HG G)(a b:ak)(hs:Sm a):FX G 55 Bz ((a,b,()),())=some ((decide (a=b),()),()):=by
 have hv:=hs.v;have he:=hs.e;refine aA (hG _ _ rfl) afq ?_;by_cases hl:a.1.length=b.1.length
 case neg =>
  have h1:((((a.1.length:Nat):Int)) != ((b.1.length:Nat):Int))=true:=by simp;omega
  have h2:¬a=b:=fun e=>hl (by rw[e]);simp only[h1,h2,decide_false];rfl
 have h1:((((a.1.length:Nat):Int)) != ((b.1.length:Nat):Int))=false:=by simp[hl]
 simp only[h1];by_cases zm:a.2.length=b.2.length
 case neg =>
  have h1:((((a.2.length:Nat):Int)) != ((b.2.length:Nat):Int))=true:=by simp;omega
  have h2:¬a=b:=fun e=>zm (by rw[e]);simp only[h1,h2,decide_false];rfl
 have h2:((((a.2.length:Nat):Int)) != ((b.2.length:Nat):Int))=false:=by simp[zm]
 simp only[h2];have GM:(a.1.zip b.1).length=a.1.length:=by simp[hl]
 have abJ:(a.2.zip b.2).length=a.2.length:=by simp[zm]
 have Oo:=dz (a.2.zip b.2) (fun i (_:Unit)=>LX G 55 Bz Tryz.f55 BN (aZ Tryz.prog 55 1) ((i,()),(((a,()),((b,()),())),()))) (fun r _=>((r.all (fun p=>decide (p.1=p.2)),()),())) (fun _ _=>True) (fun s _=>by refine aC QR ?_;rw[abJ];simp only[jD];rfl) (fun i x r s hi hx hr _ ih=>by
   rw[abJ]at hi;obtain⟨h3,h4⟩:=Ad hx;refine aC QR ?_;simp only[bg hi,aR h3,aR h4,Option.bind_some,Cc,X5,aK hi (show a.2.length≤1073741824 by omega)];by_cases he:x.1=x.2
   ·simp only[he,decide_true,beq_self_eq_true,Bool.and_self,Bool.not_true,List.all_cons,Bool.true_and];exact ih () trivial
   ·have h9:(decide (x.1.1=x.2.1)&&(decide (x.1.2.1=x.2.2.1)&&(x.1.2.2==x.2.2.2)))=false:=by rw[Bool.eq_false_iff];intro h;simp at h;exact he (Prod.ext h.1 (Prod.ext h.2.1 h.2.2))
    simp only[he,h9,decide_false,Bool.not_false,List.all_cons,Bool.false_and];rfl)
  () trivial
 rw[wi a.2 b.2 zm]at Oo;have key:=dz (a.1.zip b.1) (fun i (_:Unit)=>LX G 55 Bz Tryz.f55 BM (aZ Tryz.prog 55 0) ((i,()),(((a,()),((b,()),())),()))) (fun r _=>((r.all (fun p=>decide (p.1=p.2))&&decide (a.2=b.2),()),())) (fun _ _=>True) (fun s _=>by refine aC QQ ?_;rw[GM];simp only[jD,List.all_nil,Bool.true_and];exact Oo) (fun i x r s hi hx hr _ ih=>by
   rw[GM]at hi;obtain⟨h3,h4⟩:=Ad hx;refine aC QQ ?_;simp only[bg hi,aR h3,aR h4,Option.bind_some,Cc,X5,aK hi (show a.1.length≤1073741824 by omega)];refine aa (agb hG x.1.2.1 x.2.2.1 (by have:=hs.r x.1 (acy h3);omega)) ?_;by_cases e1:x.1.1=x.2.1
   case neg =>
    have he:¬x.1=x.2:=fun e=>e1 (by rw[e]);have d1:=decide_eq_false e1;simp only[d1,he,decide_false,List.all_cons,Bool.false_and];rfl
   have d1:=decide_eq_true e1;by_cases e2:x.1.2.2.1=x.2.2.2.1
   case neg =>
    have he:¬x.1=x.2:=fun e=>e2 (by rw[e]);have d2:=decide_eq_false e2;simp only[d1,d2,he,decide_false,List.all_cons,Bool.false_and];rfl
   have d2:=decide_eq_true e2;by_cases e3:x.1.2.2.2=x.2.2.2.2
   case neg =>
    have he:¬x.1=x.2:=fun e=>e3 (by rw[e]);have h8:(x.1.2.2.2 != x.2.2.2.2)=true:=by simp[e3]
    simp only[d1,d2,h8,he,decide_false,List.all_cons,Bool.false_and];rfl
   have h8:(x.1.2.2.2 != x.2.2.2.2)=false:=by simp[e3]
   by_cases e4:x.1.2.1=x.2.2.1
   case neg =>
    have he:¬x.1=x.2:=fun e=>e4 (by rw[e]);have d4:=decide_eq_false e4;simp only[d1,d2,h8,d4,he,decide_false,List.all_cons,Bool.false_and];rfl
   have d4:=decide_eq_true e4;have he:decide (x.1=x.2)=true:=decide_eq_true (Prod.ext e1 (Prod.ext e4 (Prod.ext e2 e3)));simp only[d1,d2,h8,d4,he,List.all_cons,Bool.true_and];exact ih () trivial)
  () trivial
 rw[wi a.1 b.1 hl]at key;have js:(decide (a.1=b.1)&&decide (a.2=b.2))=decide (a=b):=by rw[Bool.eq_iff_iff];simp[Prod.ext_iff]
 exact key.trans (congrArg (fun b:Bool=>some ((b,()),())) js)
theorem age(hG:HG G)(a b:StateT)(hs:Sm a.1)(hg:a.2.length≤50000000):FX G 22 N4 ((a,b,()),())=some ((decide (a=b),()),()):=by
 refine aA (hG _ _ rfl) afp ?_;refine aa (agd hG a.1 b.1 hs) ?_;refine aa (agc (hG _ _ rfl) a.2 b.2 (by omega)) ?_;have js:(decide (a.1=b.1)&&decide (a.2=b.2))=decide (a=b):=by rw[Bool.eq_iff_iff];simp[Prod.ext_iff]
 rw[←js];by_cases h:a.1=b.1
 ·simp only[h,decide_true,Bool.true_and];rfl
 ·simp only[h,decide_false,Bool.false_and];rfl
def tp(g:aM)(l:List aM):List aM:=l.filter fun q=>decide (q.1≠g.1)
def qL(g:aM):List aM→List aM
 |[]=>[g]
 |e::r=>if tn g.1 e.1≤0 then g::tp g (e::r) else if e.1≠g.1 then e::qL g r else qL g r
def bS(l:List aM)(g:aM):List aM:=if(mF l g.1).isSome=false∧400≤l.length then l else qL g l
def goG(g:aM)(put:Bool)(r:List aM):List aM:=if put then tp g r else qL g r
def res(d:ak)(gn:List aM):Nat→ab→ab
 |0,_=>zD
 |n+1,x=>if(ed d x).isSome then x else match mF gn x with
  |none=>zD
  |some y=>res d gn n y
def resolve(s:StateT)(x:ab):ab:=res s.1 s.2 (s.2.length+1) x
def zC:uP:=(zI,zD)
def Gd(s:StateT)(c:uP)(v:ai):ab:=if resolve s c.2∈v.2.1 then resolve s c.2 else zD
def bX(s:StateT)(c:uP):uP×(Int×Unit):=match cd s.1 c.1 with
 |none=>(zC,(13,()))
 |some v=>((c.1,Gd s c v),(0,()))
def ag(x:ab):ab:=(x.1,IntKind.wrap .i64 (1-x.2))
def ln(d:ak)(x:ab):Option ab:=match ed d x with
 |none=>none
 |some a=>jc (cM d a) x 1
def Pw(d:ak)(x:ab):Option ab:=if(ed d x).isSome then ln d (ag x) else none
def xw(d:ak)(x:ab):Nat→ab→List ab→List ab
 |0,_,out=>out
 |n+1,y,out=>if y=x then out else xw d x n ((Pw d y).getD zD) (out++[y])
def bf(d:ak)(x:ab):List ab:=match Pw d x with
 |none=>[]
 |some y=>xw d x 81 y [x]
theorem EH(d:ak)(x:ab):∀(n:Nat) (y:ab) (out:List ab),(xw d x n y out).length≤out.length+n
 |0,_,out=>acn _
 |n+1,y,out=>by
  unfold xw
  split
  ·omega
  ·have:=EH d x n ((Pw d y).getD zD) (out++[y]);simp at this;omega
theorem Oq(d:ak)(x:ab):(bf d x).length≤82:=by
 unfold bf
 cases Pw d x with
 |none=>simp
 |some y=>have:=EH d x 81 y [x];simpa using this
def jF:List aq→List ab
 |[]=>[]
 |e::r=>(e.1,0)::(e.1,1)::jF r
theorem rF:∀l:List aq,(jF l).length=2*l.length
 |[]=>rfl
 |e::r=>by simp[jF,rF r];omega
def kq(d:ak):List ab→List (List ab)→List ab→List (List ab)
 |[],out,_=>out
 |x::r,out,told=>if x∈told then kq d r out told else kq d r (out++[bf d x]) (told++bf d x)
def bR(d:ak):List (List ab):=kq d (jF d.2) [] []
end Go.Vs
