/- The value semantics is sound -/
import Derived.Test.YtpkfpbpbkabkdaaGreatEngineB
import Derived.Maps.RangeRun
import Derived.ChangeMaps
set_option linter.unusedSimpArgs false
set_option linter.unusedVariables false
namespace Go.Vs
variable {P:Program} {Z Z':Nat→Prop} {ψ ψ':Nat→Value} {h h':Hp} {w w':World} {B0:Nat} {O:Nat→Prop} {N:Nat→Prop}
theorem fC:∀(k:K) (x:k.T),(enc k x).length=k.sz
 |.int _,_=>rfl
 |.bool,_=>rfl
 |.str,_=>rfl
 |.sl _,_=>rfl
 |.mp _ _,_=>rfl
 |.pair a b,x=>by simp only[enc,List.length_append,K.sz];rw[fC a,fC b]
 |.one k,x=>by simp only[enc,K.sz];exact fC k x
theorem q7(hh:Heap):∀(k:K) (x:k.T),(enc k x).map (cQ hh)=enc k x
 |.int _,_=>rfl
 |.bool,_=>rfl
 |.str,_=>rfl
 |.sl _,_=>rfl
 |.mp _ _,_=>rfl
 |.pair a b,x=>by simp only[enc,List.map_append];rw[q7 hh a,q7 hh b]
 |.one k,x=>by simp only[enc];exact q7 hh k x
theorem lZ:∀(k:K) (x:k.T) (id:Nat),AV.bK id∉enc k x
 |.int _,_,_=>by simp[enc]
 |.bool,_,_=>by simp[enc]
 |.str,_,_=>by simp[enc]
 |.sl _,_,_=>by simp[enc]
 |.mp _ _,_,_=>by simp[enc]
 |.pair a b,x,id=>by
  simp only[enc,List.mem_append];rintro(h|h)
  ·exact lZ a _ id h
  ·exact lZ b _ id h
 |.one k,x,id=>by simp only[enc];exact lZ k x id
theorem w7{hh:Heap}{ok:OK}{n:Nat}{xs:ok.T}(hg:hh.get n=some (.own ok xs)):dY hh ok (.bK n)=some xs:=by simp[dY,hg]
theorem pK{hh:Heap}:∀(dy:List CK) (n:Nat) (x:qG dy),(∀e∈bm dy n x,hh.get e.1=some e.2)→cS dy hh (aI dy n x)=some x
 |[],n,x,_=>rfl
 |.val k::r,n,x,hg=>by
  have h1:(aI (.val k::r) n x).take k.sz=enc k x.1:=by simp only[aI];rw[←fC k x.1,List.take_left]
  have h2:(aI (.val k::r) n x).drop k.sz=aI r (n+1) x.2:=by simp only[aI];rw[←fC k x.1,List.drop_left]
  have e:cS (.val k::r) hh (aI (.val k::r) n x)=(match dz k (((aI (.val k::r) n x).take k.sz).map (cQ hh)),cS r hh ((aI (.val k::r) n x).drop k.sz) with
   |some x,some y=>some ((x,y):k.T×qG r)
   |_,_=>none):=by generalize aI (.val k::r) n x=l;cases l<;>rfl
  have h4:dz k (((aI (.val k::r) n x).take k.sz).map (cQ hh))=some x.1:=by rw[h1];exact(congrArg (dz k) (q7 hh k x.1)).trans (uc k x.1)
  have h5:cS r hh ((aI (.val k::r) n x).drop k.sz)=some x.2:=by rw[h2];exact pK r (n+1) x.2 hg
  rw[e];generalize dz k (((aI (.val k::r) n x).take k.sz).map (cQ hh))=o1 at h4 ⊢;generalize cS r hh ((aI (.val k::r) n x).drop k.sz)=o2 at h5 ⊢;subst h4;subst h5;rfl
 |.own ok::r,n,x,hg=>by
  simp only[bm]at hg;have h1:=w7 (hg _ acr);have h2:=pK r (n+1) x.2 (fun e he=>hg e (aaY _ he));have e:cS (.own ok::r) hh (aI (.own ok::r) n x)=(match dY hh ok (.bK n),cS r hh (aI r (n+1) x.2) with
   |some x,some y=>some ((x,y):ok.T×qG r)
   |_,_=>none):=rfl
  rw[e,h1,h2];rfl
theorem NO{hh:Heap}(b:BK){i n:Nat}{x:b.T}(hg:∀e∈jl b i n x,hh.get e.1=some e.2):qo b hh i=some x:=by
 cases b with
 |box ty c =>
  simp only[jl]at hg;have h1:AI hh i ty=some (aI c n x):=by unfold AI;rw[hg _ List.mem_cons_self];simp
  simp only[qo,h1];exact pK (hh:=hh) c n x (fun e he=>hg e (aaY _ he))
 |own ok=>exact w7 (hg _ (by simp only[jl];exact acr))
theorem yL{hh:Heap}:∀(bs:List BK) (is:List Nat) (n:Nat) (x:wK bs),is.length=bs.length→(∀e∈bC bs is n x,hh.get e.1=some e.2)→de bs hh is=some x
 |[],[],n,x,_,_=>rfl
 |[],_::_,n,x,hl,_=>by simp at hl
 |_::_,[],n,x,hl,_=>by simp at hl
 |b::r,i::is,n,x,hl,hg=>by
  simp only[bC]at hg;have h2:=NO b (fun e he=>hg e (aa2 _ he));have h3:=yL r is (n+16) x.2 (by simpa using hl) (fun e he=>hg e (aco _ he));have e:de (b::r) hh (i::is)=(match qo b hh i,de r hh is with
    |some x,some y=>some ((x,y):b.T×wK r)
    |_,_=>none):=rfl
  rw[e,h2,h3];rfl
theorem w8{i:Nat}{o:Ob}:∀{hh:Heap},ck (hh.map (·.1))=true→(i,o)∈hh→hh.get i=some o
 |[],_,h=>by cases h
 |(j,o')::r,hn,h=>by
  obtain⟨h1,h2⟩:=mU hn;simp only[Heap.get];rcases aa1.1 h with e|h
  ·cases e;simp
  ·rw[if_neg,w8 h2 h];rintro rfl;exact h1 (adD.2 ⟨_,h,rfl⟩)
theorem Aa{hh:Heap}:∀(dy:List CK) (n:Nat) (x:qG dy) (id:Nat),AV.bK id∉qn dy (aI dy n x)
 |[],n,x,id=>by simp[aI,qn]
 |.val k::r,n,x,id=>by
  have h1:(aI (.val k::r) n x).take k.sz=enc k x.1:=by simp only[aI];rw[←fC k x.1,List.take_left]
  have h2:(aI (.val k::r) n x).drop k.sz=aI r (n+1) x.2:=by simp only[aI];rw[←fC k x.1,List.drop_left]
  have e:qn (.val k::r) (aI (.val k::r) n x)=(aI (.val k::r) n x).take k.sz++qn r ((aI (.val k::r) n x).drop k.sz):=by generalize aI (.val k::r) n x=l;cases l<;>rfl
  rw[e,h1,h2,List.mem_append];rintro(h|h)
  ·exact lZ k x.1 id h
  ·exact Aa (hh:=hh) r (n+1) x.2 id h
 |.own ok::r,n,x,id=>by simp only[aI,qn];exact Aa (hh:=hh) r (n+1) x.2 id
theorem Bm{hh:Heap}:∀(bs:List BK) (is:List Nat) (n:Nat) (x:wK bs) (id:Nat),(∀e∈bC bs is n x,hh.get e.1=some e.2)→AV.bK id∉gi bs hh is
 |[],is,n,x,id,_=>by cases is<;>simp[gi]
 |_::_,[],n,x,id,_=>by simp[gi]
 |b::r,i::is,n,x,id,hg=>by
  simp only[bC]at hg;simp only[gi,List.mem_append];rintro(h|h)
  ·cases b with
   |box ty c =>simp only[AJ]at h;rw[hg (i,.box ty (aI c n x.1)) (List.mem_append_left _ (by simp only[jl];exact List.mem_cons_self))]at h;exact Aa (hh:=hh) c n x.1 id h
   |own ok=>simp[AJ]at h
  ·exact Bm r is (n+16) x.2 id (fun e he=>hg e (aco _ he)) h
theorem Eg{hh:Heap}:∀(cap:List AV) (is is':List Nat) (vs:List Value),jM cap=some is→is'.length=is.length→(∀p∈is.zip is',hh.get p.1≠none∧(h' p.2≠none→ψ' p.2=ψ p.1)) → aq Z ψ hh.get w cap vs→aq Z' ψ' h' w (is'.map fun i=>.ref i 0 0 0) vs
 |[],is,is',vs,h1,hl,_,hr=>by
  simp only[jM]at h1
  cases h1
  cases is' with
  |nil=>simpa only[List.map_nil,aq] using hr
  |cons c r=>simp at hl
 |v::cap,is,is',vs,h1,hl,hp,hr=>by
  simp only[jM]at h1
  split at h1
  ·rename_i i is1 h3 h4
   cases h1
   cases is' with
   |nil=>simp at hl
   |cons c r =>simp only[List.zip_cons_cons]at hp;simp only[List.map_cons,aq]at hr ⊢;obtain⟨u,us,rfl,h7,h8⟩:=hr;obtain⟨sz,rfl⟩:=pG h3;obtain⟨h5,h6⟩:=hp _ acr;exact⟨u,us,rfl,z7 h7 h5 h6,Eg cap is1 r us h4 (by simpa using hl) (fun p h=>hp p (aaY _ h)) h8⟩
  ·cases h1
theorem tj:∀(cap:List AV) (is:List Nat),jM cap=some is→is.length=cap.length
 |[],is,h=>by simp only[jM]at h;cases h;rfl
 |v::cap,is,h=>by
  simp only[jM]at h
  split at h
  ·rename_i i is1 h3 h4
   cases h
   simp[tj cap is1 h4]
  ·cases h
theorem tk:∀(cs:List AV) (is:List Nat),pf cs=some is→is.length=cs.length
 |[],is,h=>by simp only[pf]at h;cases h;rfl
 |c::r,is,h=>by
  cases c<;>simp only[pf]at h<;>first|(cases h;done)|skip
  split at h
  ·rename_i is' h1
   cases h
   simp[tk r is' h1]
  ·cases h
theorem Eh{hh:Heap}:∀(cs:List AV) (is gL:List Nat) (vs:List Value),pf cs=some is→gL.length=is.length→(∀p∈is.zip gL,hh.get p.1≠none∧(h' p.2≠none→ψ' p.2=ψ p.1)) → aq Z ψ hh.get w cs vs→aq Z' ψ' h' w (gL.map .bK) vs
 |[],is,gL,vs,h,hl,hp,hr=>by
  simp only[pf]at h
  cases h
  have:gL=[]:=adn hl;subst this;simpa only[List.map_nil,aq] using hr
 |c::r,is,gL,vs,h,hl,hp,hr=>by
  cases c<;>simp only[pf]at h<;>first|(cases h;done)|skip
  rename_i i
  split at h
  ·rename_i is' h1
   cases h
   cases gL with
   |nil=>simp at hl
   |cons i' gL =>simp only[List.zip_cons_cons]at hp;obtain⟨h5,h6⟩:=hp _ acr;simp only[List.map_cons,aq]at hr ⊢;obtain⟨u,us,rfl,h3,h4⟩:=hr;refine⟨u,us,rfl,?_,Eh r is' gL us h1 (by simpa using hl) (fun p Qo=>hp p (aaY _ Qo)) h4⟩;simp only[aC]at h3 ⊢;exact⟨h3.1,fun hn=>(h3.2 h5).trans (h6 hn).symm⟩
  ·cases h
theorem lz{hh:Heap}(g:Good Z ψ hh.get w B0 O)(hz:∀b,Z b→Z' b):∀(ps:List PK) (ids gL:List Nat) (s:Nat) (vs:List AV) (us:List Value) (x:Hd (kR ps)),gL.length=ids.length→cJ ps vs=some ids→eU ps hh vs=some x →(∀id b,AV.bK id∈dx ps vs→hh.get id≠none→ob (ψ id)=some b→Z' b)→(∀p∈ids.zip gL,hh.get p.1≠none∧(h' p.2≠none→ψ' p.2=ψ p.1))→aq Z ψ hh.get w vs us→aq Z' ψ' h' w ((aZ ps gL s x).map (·.2)) us
 |[],ids,gL,s,vs,us,x,hl,hi,hv,hf,hp,hr=>by
  cases vs with
  |nil=>simpa only[aZ,List.map_nil,aq] using hr
  |cons a r=>simp[cJ]at hi
 |.val k::ps,ids,gL,s,vs,us,x,hl,hi,hv,hf,hp,hr=>by
  cases vs with
  |nil=>simp[cJ]at hi
  |cons a r =>simp only[cJ]at hi;simp only[aq]at hr;obtain⟨u,je,rfl,h3,h4⟩:=hr;obtain⟨h1,h2⟩:=yI hv;simp only[dx]at hf;simp only[aZ,List.map_cons,aq];exact⟨u,je,rfl,r8 g hz (fun id b bR=>hf id b (aa2 _ bR)) h1 h3,lz g hz ps ids gL (s+1) r je x.2 hl hi h2 (fun id b bR=>hf id b (aco _ bR)) hp h4⟩
 |.ref::ps,ids,gL,s,vs,us,x,hl,hi,hv,hf,hp,hr=>by
  cases vs with
  |nil=>simp[cJ]at hi
  |cons a r =>
   simp only[cJ]at hi
   split at hi
   ·rename_i i is h1 h2
    cases hi
    simp only[aq]at hr;obtain⟨u,je,rfl,h3,h4⟩:=hr
    cases gL with
    |nil=>simp at hl
    |cons i' is' =>simp only[List.zip_cons_cons]at hp;obtain⟨sz,rfl⟩:=pG h1;obtain⟨h5,h6⟩:=hp _ acr;simp only[aZ,List.map_cons,aq];exact⟨u,je,rfl,z7 h3 h5 h6,lz g hz ps is is' (s+1) r je x (by simpa using hl) h2 hv hf (fun p h=>hp p (aaY _ h)) h4⟩
   ·cases hi
 |.own::ps,ids,gL,s,vs,us,x,hl,hi,hv,hf,hp,hr=>by
  cases vs with
  |nil=>simp[cJ]at hi
  |cons a r =>
   cases a<;>simp only[cJ]at hi<;>first|(cases hi;done)|skip
   rename_i i
   split at hi
   ·rename_i is h2
    cases hi
    simp only[aq]at hr;obtain⟨u,je,rfl,h3,h4⟩:=hr
    cases gL with
    |nil=>simp at hl
    |cons i' is' =>simp only[List.zip_cons_cons]at hp;obtain⟨h5,h6⟩:=hp _ acr;simp only[aZ,List.map_cons,aq];refine⟨u,je,rfl,?_,lz g hz ps is is' (s+1) r je x (by simpa using hl) h2 hv hf (fun p h=>hp p (aaY _ h)) h4⟩;simp only[aC]at h3 ⊢;exact⟨h3.1,fun hn=>(h3.2 h5).trans (h6 hn).symm⟩
   ·cases hi
 |.G5 f m::ps,ids,gL,s,vs,us,x,hl,hi,hv,hf,hp,hr=>by
  cases vs with
  |nil=>simp[cJ]at hi
  |cons a r =>
   cases a<;>simp only[cJ]at hi<;>first|(cases hi;done)|skip
   rename_i f' cap
   split at hi
   ·rename_i hc;obtain⟨rfl,rY⟩:=hc
    split at hi
    ·rename_i a1 b1 h1 h2
     cases hi
     simp only[aq]at hr;obtain⟨u,je,rfl,h3,h4⟩:=hr;have h5:=tj cap a1 h1;have yC:(a1++b1).zip gL=a1.zip (gL.take m)++b1.zip (gL.drop m):=by
      conv=>lhs;rw[←List.take_append_drop m gL]
      rw[List.zip_append];rw[List.length_take,Nat.min_eq_left]
      ·omega
      ·rw[hl,List.length_append];omega
     rw[yC]at hp;simp only[aZ,List.map_cons,aq];refine⟨u,je,rfl,?_,lz g hz ps b1 (gL.drop m) (s+1) r je x (by rw[List.length_drop,hl,List.length_append];omega) h2 hv hf (fun p h=>hp p (aco _ h)) h4⟩;simp only[aC]at h3 ⊢;obtain⟨ws,h6,h7⟩:=h3;exact⟨ws,h6,Eg cap a1 (gL.take m) _ h1 (by rw[List.length_take,Nat.min_eq_left (by rw[hl,List.length_append];omega)];omega) (fun p h=>hp p (aa2 _ h)) h7⟩
    ·cases hi
   ·cases hi
 |.agg m::ps,ids,gL,s,vs,us,x,hl,hi,hv,hf,hp,hr=>by
  cases vs with
  |nil=>simp[cJ]at hi
  |cons a r =>
   cases a<;>simp only[cJ]at hi<;>first|(cases hi;done)|skip
   rename_i cs
   split at hi
   ·rename_i rY
    split at hi
    ·rename_i a1 b1 h1 h2
     cases hi
     simp only[aq]at hr;obtain⟨u,je,rfl,h3,h4⟩:=hr;have h5:=tk cs a1 h1;have yC:(a1++b1).zip gL=a1.zip (gL.take m)++b1.zip (gL.drop m):=by
      conv=>lhs;rw[←List.take_append_drop m gL]
      rw[List.zip_append];rw[List.length_take,Nat.min_eq_left]
      ·omega
      ·rw[hl,List.length_append];omega
     rw[yC]at hp;simp only[aZ,List.map_cons,aq];refine⟨u,je,rfl,?_,lz g hz ps b1 (gL.drop m) (s+1) r je x (by rw[List.length_drop,hl,List.length_append];omega) h2 hv hf (fun p h=>hp p (aco _ h)) h4⟩;simp only[aC]at h3 ⊢;obtain⟨ws,h6,h7⟩:=h3;exact⟨ws,h6,Eh cs a1 (gL.take m) _ h1 (by rw[List.length_take,Nat.min_eq_left (by rw[hl,List.length_append];omega)];omega) (fun p h=>hp p (aa2 _ h)) h7⟩
    ·cases hi
   ·cases hi
theorem NP(hh:Heap)(k:K)(x:k.T):fY k hh (cq k x)=some x:=by unfold fY;rw[if_pos (Bi k x).symm,ud];exact(congrArg (dz k) (q7 hh k x)).trans (uc k x)
theorem mY:∀(dy:List CK) (c n:Nat) (x:qG dy),fZ dy c=true→(aI dy n x)[mR dy c]? = some (.bK (n+c))
 |[],c,n,x,h=>by simp[fZ]at h
 |.val k::r,0,n,x,h=>by simp[fZ]at h
 |.val k::r,c+1,n,x,h=>by simp only[aI,mR];have ih:=mY r c (n+1) x.2 (by simpa[fZ] using h);have hl:(enc k x.1).length=k.sz:=fC k x.1;generalize enc k x.1=l at hl ⊢;rw[List.getElem?_append_right (by omega),hl,Nat.add_sub_cancel_left,show n+(c+1)=n+1+c by omega];exact ih
 |.own ok::r,0,n,x,h=>by simp[aI,mR]
 |.own ok::r,c+1,n,x,h=>by simp only[aI,mR];rw[Nat.add_comm 1,List.getElem?_cons_succ,show n+(c+1)=n+1+c by omega];exact mY r c (n+1) x.2 (by simpa[fZ] using h)
theorem yM:∀(bs:List BK) (b:Nat) (is:List Nat) (n:Nat) (x:wK bs) (ty:TypeId) (c:List CK) (bi:Nat),bs[b]? = some (.box ty c)→is[b]? = some bi→∃xb,(bi,.box ty (aI c (n+16*b) xb))∈bC bs is n x
 |[],b,is,n,x,_,_,bi,h,_=>by simp at h
 |b0::r,b,[],n,x,_,_,bi,_,h=>by simp at h
 |b0::r,0,i::is,n,x,ty,c,bi,h1,h2=>by simp only[List.getElem?_cons_zero,Option.some.injEq]at h1 h2;subst h1;subst h2;exact⟨x.1,by simp only[bC,jl];exact aa2 _ acr⟩
 |b0::r,b+1,i::is,n,x,ty,c,bi,h1,h2=>by obtain⟨xb,h3⟩:=yM r b is (n+16) x.2 ty c bi (by simpa using h1) (by simpa using h2);refine⟨xb,?_⟩;simp only[bC];rw[show n+16*(b+1)=n+16+16*b by omega];exact aco _ h3
theorem l6{bs:List BK}{hh:Heap}{is:List Nat}{nb:Nat}{xb:wK bs}(hl:is.length=bs.length)(Un:∀e∈bC bs is nb xb,hh.get e.1=some e.2):∀(rs:List RK) (ids2:List Nat) (m:Nat) (y:lM rs),qJ bs rs=true →(∀e∈ak rs m y,hh.get e.1=some e.2)→bM bs rs hh is (bf rs ids2 nb m y)=some y
 |[],ids2,m,y,_,_=>rfl
 |.val k::r,ids2,m,y,hk,hg=>by
  simp only[qJ,List.all_cons,Bool.and_eq_true,DB]at hk;have h1:=NP hh k y.1;have h2:=l6 hl Un r ids2 (m+1) y.2 hk.2 hg;have e:bM bs (.val k::r) hh is (bf (.val k::r) ids2 nb m y)=(match fY k hh (cq k y.1),bM bs r hh is (bf r ids2 nb (m+1) y.2) with
   |some x,some y=>some ((x,y):k.T×lM r)
   |_,_=>none):=rfl
  rw[e];generalize fY k hh (cq k y.1)=o1 at h1 ⊢;generalize bM bs r hh is (bf r ids2 nb (m+1) y.2)=o2 at h2 ⊢;subst h1;subst h2;rfl
 |.own ok::r,ids2,m,y,hk,hg=>by
  simp only[qJ,List.all_cons,Bool.and_eq_true,DB]at hk;simp only[ak]at hg;have h1:=w7 (hg _ acr);have h2:=l6 hl Un r ids2 (m+1) y.2 hk.2 (fun e he=>hg e (aaY _ he));have e:bM bs (.own ok::r) hh is (bf (.own ok::r) ids2 nb m y)=(match dY hh ok (.bK m),bM bs r hh is (bf r ids2 nb (m+1) y.2) with
   |some x,some y=>some ((x,y):ok.T×lM r)
   |_,_=>none):=rfl
  rw[e];generalize dY hh ok (.bK m)=o1 at h1 ⊢;generalize bM bs r hh is (bf r ids2 nb (m+1) y.2)=o2 at h2 ⊢;subst h1;subst h2;rfl
 |.eY b alts::r,ids2,m,y,hk,hg=>by
  simp only[qJ,List.all_cons,Bool.and_eq_true,DB]at hk;have h2:=l6 hl Un r ids2 (m+1) y.2 hk.2 hg;have h1:nC bs hh is b alts (uO b nb alts y.1)=some y.1:=by
   cases hy:y.1 with
   |none=>rfl
   |some p =>
    obtain⟨al,i⟩:=p;have h3:=hk.1
    split at h3
    ·rename_i bk hbk;have aF:=(aaW.1 hbk).1;have NQ:is[b]? = some (is[b]'(by omega)):=aaV (by omega);rw[Bool.and_eq_true,decide_eq_true_eq]at h3;obtain⟨h3,Ei⟩:=h3;have h3a:∀a:Fin alts.length,fZ bk.dy (alts.get a).1=true:=fun a=>adG.1 h3 _ (List.get_mem alts a)
     cases bk with
     |own ok=>have:=h3a al;simp[BK.dy,fZ]at this
     |box ty c0 =>
      obtain⟨xb',h4⟩:=yM bs b is nb xb ty c0 _ hbk NQ;have h5:=Un _ h4;simp only[BK.dy]at h3a;simp only[nC,uO,hbk,NQ,h5,BK.dy];have key:(List.finRange alts.length).find? (fun a=>yp c0 (aI c0 (nb+16*b) xb') (nb+16*b+(alts.get al).1) (alts.get al).2.1 (alts.get al).2.2 (alts.get a))=some al:=by
       cases hf:(List.finRange alts.length).find? (fun a=>yp c0 (aI c0 (nb+16*b) xb') (nb+16*b+(alts.get al).1) (alts.get al).2.1 (alts.get al).2.2 (alts.get a)) with
       |none =>have:=List.find?_eq_none.1 hf al (List.mem_finRange al);exfalso;apply this;simp only[yp,Bool.and_eq_true,decide_eq_true_eq];refine⟨?_,trivial,trivial,h3a al⟩;rw[mY c0 _ _ xb' (h3a al)];simp[PY]
       |some a' =>
        have hf':=aeF hf;obtain⟨h6,_,h7,_⟩:=Bl hf';rw[mY c0 _ _ xb' (h3a a')]at h6;simp only[Option.some.injEq,AV.bK.injEq]at h6;have h8:(alts.get a').1=(alts.get al).1:=by omega
        congr 1;have nI:∀a:Fin alts.length,(alts.map fun a=>(a.1,a.2.2))[a.val]? = some ((alts.get a).1,(alts.get a).2.2):=fun a=>by rw[List.getElem?_map,List.getElem?_eq_getElem a.isLt];rfl
        have e1:=nI a';have e2:=nI al;rw[h8,←h7]at e1;exact Fin.ext ((List.getElem?_inj (by simp) Ei).1 (e1.trans e2.symm))
      rw[key];rfl
    ·cases h3
  have e:bM bs (.eY b alts::r) hh is (bf (.eY b alts::r) ids2 nb m y)=(match nC bs hh is b alts (uO b nb alts y.1),bM bs r hh is (bf r ids2 nb (m+1) y.2) with
   |some x,some y=>some ((x,y):Option (Fin alts.length×Nat)×lM r)
   |_,_=>none):=rfl
  rw[e];generalize nC bs hh is b alts (uO b nb alts y.1)=o1 at h1 ⊢;generalize bM bs r hh is (bf r ids2 nb (m+1) y.2)=o2 at h2 ⊢;subst h1;subst h2;rfl
 |.agg c::r,ids2,m,y,hk,hg=>by
  simp only[qJ,List.all_cons,Bool.and_eq_true,DB]at hk;simp only[ak]at hg;have h1:=pK (hh:=hh) c m y.1 (fun e he=>hg e (aa2 _ he));have h2:=l6 hl Un r ids2 (m+1) y.2 hk.2 (fun e he=>hg e (aco _ he));have e:bM bs (.agg c::r) hh is (bf (.agg c::r) ids2 nb m y)=(match cS c hh (aI c m y.1),bM bs r hh is (bf r ids2 nb (m+1) y.2) with
   |some x,some y=>some ((x,y):qG c×lM r)
   |_,_=>none):=rfl
  rw[e];generalize cS c hh (aI c m y.1)=o1 at h1 ⊢;generalize bM bs r hh is (bf r ids2 nb (m+1) y.2)=o2 at h2 ⊢;subst h1;subst h2;rfl
def pM(g:aS)(x:g.A):Hp:=(bC g.bs (aU g.bs.length) 2000 x.2).get
def jV(g:aS)(y:g.B):Heap:=bC g.bs (aU g.bs.length) 2000 y.2++ak g.rs 3000 y.1
def FE(g:aS)(x:g.A):List AV:=(aZ g.ps (aU g.bs.length) 0 x.1).map (·.2)
def Ej(P:Program)(f:FuncId)(g:aS)(x:g.A)(y:g.B):Prop :=∀(Z:Nat→Prop) (ψ0:Nat→Value) (w:World) (kr:List Value),Good Z ψ0 (pM g x) w w.heap.size (Own ψ0 (pM g x))→aq Z ψ0 (pM g x) w (FE g x) kr → Calls P (f%1000) kr.toArray w fun e w'=>∃v Z' ψ',e=.returned v∧(∀b,Z b→Z' b)∧(∀b,Z' b→Z b∨Own ψ0 (pM g x) b∨w.heap.size≤b)∧dh ψ0 (pM g x) w w' ∧ Good Z' ψ' (jV g y).get w' w.heap.size (Own ψ0 (pM g x))∧(∀i∈aU g.bs.length,ψ' i=ψ0 i)∧aC Z' ψ' (jV g y).get w' (fi (bf g.rs (aU g.bs.length) 2000 3000 y.1)) v
theorem FF{ψ:Nat→Value}{b:Nat}:¬Own ψ gr b:=fun⟨_,h,_⟩=>h rfl
theorem vf(ids:List Nat)(n:Nat)(x:wK []):bC [] ids n x=[]:=by cases ids<;>rfl
theorem Ej.zero{f:FuncId}{g:aS}{x:g.A}{y:g.B}(hb:g.bs=[])(c:Ej P f g x y):aaz P f g x y:=by
 obtain⟨ps,bs,rs,_⟩:=g;simp only at hb;subst hb;intro Z w kr hz hr;have e0:pM ⟨ps,[],rs,_⟩ x=gr:=by unfold pM;rw[vf];rfl
 have e1:jV ⟨ps,[],rs,_⟩ y=ak rs 3000 y.1:=by unfold jV;rw[vf];rfl
 have hO:Own J3 gr=fun _=>False:=funext fun b=>propext ⟨FF,False.elim⟩;unfold Ej at c;rw[e0,e1]at c;refine(c Z J3 w kr ⟨fun _ _ _ h=>(by cases h),fun _ _ _ h=>(by cases h),fun _ _ h=>absurd rfl h,fun _ _ _ h=>absurd rfl h,hz⟩ hr).mono fun e w' ⟨v,Z',ψ',h1,h2,h3,h4,h5,_,h6⟩=>?_;exact⟨v,Z',ψ',h1,h2,fun b hb=>(h3 b hb).imp (fun h=>h) fun h=>h.resolve_left FF,h4,by rw[hO]at h5;exact h5,h6⟩
theorem HF{bs:List BK}{hh:Heap}{x:wK bs}(hd:de bs hh []=some x):bs=[]:=by
 cases bs with
 |nil=>rfl
 |cons b r=>cases hd
variable {Eqs:TypeId→Option K} {Sg:FuncId→Option aS} {F:(f:FuncId)→(g:aS)→g.A→Option g.B}
theorem HH{a b:List Nat}(h:ck (a++b)=true):ck a=true:=by
 induction a with
 |nil=>rfl
 |cons i r ih =>
  obtain⟨h1,h2⟩:=mU h;simp only[ck,Bool.and_eq_true,Bool.not_eq_true'];refine⟨?_,ih h2⟩
  cases hc:r.contains i with
  |false=>rfl
  |true=>exact absurd (aa2 _ (List.contains_iff_mem.1 hc)) h1
theorem Good.FG(g:Good Z ψ h w B0 O)(B:Nat):Good Z ψ h w B (Own ψ h) :=⟨g.box,g.row,fun id b h1 h2=>⟨(g.live id b h1 h2).1,.inr ⟨id,h1,h2⟩⟩,g.apart,g.jP⟩
theorem ov:∀(l:List Nat) (hh:Heap) (i:Nat),(g8 hh l).get i=if i∈l then none else hh.get i
 |[],hh,i=>by simp[g8]
 |j::r,hh,i=>by
  simp only[g8];rw[ov r (hh.del j) i];by_cases h1:i∈r
  ·simp[h1]
  ·by_cases h2:i=j
   ·subst h2;simp[Heap.gI]
   ·rw[Heap.iC h2];simp[h1,h2]
theorem ia:∀(dy:List CK) (n:Nat) (x:qG dy),(bm dy n x).map (·.1)=cr dy n
 |[],_,_=>rfl
 |.val k::r,n,x=>ia r (n+1) x.2
 |.own ok::r,n,x=>by simp only[bm,cr,List.map_cons];rw[ia r (n+1) x.2]
theorem l8:∀(bs:List BK) (is:List Nat) (n:Nat) (x:wK bs),is.length=bs.length→(bC bs is n x).map (·.1)=cd bs is n
 |[],is,n,x,_=>by cases is<;>rfl
 |b::r,[],n,x,hl=>by simp at hl
 |b::r,i::is,n,x,hl=>by
  simp only[bC,cd,List.map_append];rw[l8 r is (n+16) x.2 (by simpa using hl),←List.cons_append];congr 1
  cases b with
  |box ty c=>simp only[jl,List.map_cons,BK.dy];rw[ia]
  |own ok=>simp[jl,BK.dy,cr]
theorem fQ:∀(rs:List RK) (m:Nat) (y:lM rs),(ak rs m y).map (·.1)=bD rs m
 |[],_,_=>rfl
 |.own ok::r,m,y=>by simp only[ak,bD,List.map_cons];rw[fQ r (m+1) y.2]
 |.val _::r,m,y=>fQ r (m+1) y.2
 |.eY _ _::r,m,y=>fQ r (m+1) y.2
 |.agg c::r,m,y=>by have e1:(bm c m y.1).map (·.1)=cr c m:=ia c m y.1;simp only[ak,bD,List.map_append];rw[fQ r (m+1) y.2];exact congrArg (·++_) e1
theorem pN:∀(dy:List CK) (n:Nat) (x:qG dy),fU dy (aI dy n x)=cr dy n
 |[],_,_=>rfl
 |.val k::r,n,x=>by
  have h2:(aI (.val k::r) n x).drop k.sz=aI r (n+1) x.2:=by simp only[aI];rw[←fC k x.1,List.drop_left]
  have e:fU (.val k::r) (aI (.val k::r) n x)=fU r ((aI (.val k::r) n x).drop k.sz):=by generalize aI (.val k::r) n x=l;cases l<;>rfl
  rw[e,h2,pN r (n+1) x.2];rfl
 |.own ok::r,n,x=>by simp only[aI,fU,pe,cr,List.cons_append,List.nil_append];rw[pN r (n+1) x.2]
theorem yN{hh:Heap}:∀(bs:List BK) (is:List Nat) (n:Nat) (x:wK bs),is.length=bs.length→(∀e∈bC bs is n x,hh.get e.1=some e.2)→dg bs hh is=cd bs is n
 |[],is,n,x,_,_=>by cases is<;>rfl
 |_::_,[],n,x,hl,_=>by simp at hl
 |b::r,i::is,n,x,hl,hg=>by
  simp only[bC]at hg;simp only[dg,cd];rw[yN r is (n+16) x.2 (by simpa using hl) (fun e he=>hg e (List.mem_append_right _ he)),←List.cons_append];congr 1
  cases b with
  |box ty c =>simp only[kb,BK.dy];rw[hg (i,.box ty (aI c n x.1)) (List.mem_append_left _ (by simp only[jl];exact List.mem_cons_self))];simp only[];rw[pN]
  |own ok=>simp[kb,BK.dy,cr]
theorem kt:∀(rs:List RK) (ids:List Nat) (n m:Nat) (y:lM rs),dU rs (bf rs ids n m y)=bD rs m
 |[],_,_,_,_=>rfl
 |.own ok::r,ids,n,m,y=>by simp only[bf,dU,bD,pe,List.cons_append,List.nil_append];rw[kt r ids n (m+1) y.2]
 |.val _::r,ids,n,m,y=>by simp only[bf,dU,bD];exact kt r ids n (m+1) y.2
 |.eY _ _::r,ids,n,m,y=>by simp only[bf,dU,bD];exact kt r ids n (m+1) y.2
 |.agg c::r,ids,n,m,y=>by have e1:fU c (aI c m y.1)=cr c m:=pN c m y.1;simp only[bf,dU,bD,AV.cells];rw[kt r ids n (m+1) y.2];exact congrArg (·++_) e1
theorem l9:∀(rs:List RK) (ids:List Nat) (n m:Nat) (y:lM rs) (id:Nat),AV.bK id∉gj rs (bf rs ids n m y)
 |[],_,_,_,_,_=>by simp[bf,gj]
 |.own ok::r,ids,n,m,y,id=>by simp only[bf,gj];exact l9 r ids n (m+1) y.2 id
 |.val k::r,ids,n,m,y,id=>by
  simp only[bf,gj,List.mem_append];rintro(h|h)
  ·have e:(cq k y.1).cells=enc k y.1:=ud k y.1;exact lZ k y.1 id (e▸h)
  ·exact l9 r ids n (m+1) y.2 id h
 |.eY _ _::r,ids,n,m,y,id=>by simp only[bf,gj];exact l9 r ids n (m+1) y.2 id
 |.agg c::r,ids,n,m,y,id=>by
  simp only[bf,gj,AV.cells,List.mem_append];rintro(h|h)
  ·exact Aa (hh:=[]) c m y.1 id h
  ·exact l9 r ids n (m+1) y.2 id h
theorem NR{gg:aS}{x:gg.A}{y:gg.B}{Qp:List Nat}{nW eg:Nat→Value}{id:Nat}(hl:Qp.length=gg.bs.length)(Ye:qJ gg.bs gg.rs=true)(vg:ck (qH gg)=true) (Bn:ck (cd gg.bs Qp id++bD gg.rs (id+128))=true) (Qq:Good Z' eg (jV gg y).get w' w.heap.size (Own nW (pM gg x))) {v:Value} (afK:aC Z' eg (jV gg y).get w' (fi (bf gg.rs (aU gg.bs.length) 2000 3000 y.1)) v) :
  ∃L2:List yG,dJ L2=bC gg.bs Qp id y.2++ak gg.rs (id+128) y.1∧L2.map (·.1)=cd gg.bs Qp id++bD gg.rs (id+128) ∧ Good Z' (fa eg L2) (dJ L2).get w' w.heap.size (Own nW (pM gg x))∧(∀p∈(aU gg.bs.length).zip Qp,fa eg L2 p.2=eg p.1) ∧ aC Z' (fa eg L2) (dJ L2).get w' (fi (bf gg.rs Qp id (id+128) y.1)) v:=by
 have hle:(aU gg.bs.length).length=gg.bs.length:=by simp[aU]
 have hn2:ck ((jV gg y).map (·.1))=true:=by unfold jV;rw[List.map_append,l8 _ _ _ _ hle,fQ];exact vg
 have Un:∀e∈bC gg.bs (aU gg.bs.length) 2000 y.2,(jV gg y).get e.1=some e.2:=fun e he=>w8 hn2 (by unfold jV;exact aa2 _ he);have hgr:∀e∈ak gg.rs 3000 y.1,(jV gg y).get e.1=some e.2:=fun e he=>w8 hn2 (by unfold jV;exact aco _ he);have zZ:=yL gg.bs _ 2000 y.2 hle Un;have UW:=l6 (xb:=y.2) hle Un gg.rs (aU gg.bs.length) 3000 y.1 Ye hgr
 let vsC:=bf gg.rs (aU gg.bs.length) 2000 3000 y.1
 let L2:List yG:=cF gg.bs (jV gg y) (aU gg.bs.length) Qp id y.2++cI gg.rs vsC (id+128) y.1
 have eH:dJ L2=bC gg.bs Qp id y.2++ak gg.rs (id+128) y.1:=by show dJ (_++_)=_;rw[mW,jo _ _ _ _ _ _ zZ hl,gK]
 have eN:L2.map (·.1)=cd gg.bs Qp id++bD gg.rs (id+128):=by show(_++_:List yG).map _=_;rw[List.map_append,hM _ _ _ _ _ _ zZ hl,fP]
 have eS:L2.filterMap (·.2.1)=qH gg:=by show(_++_:List yG).filterMap _=_;rw[List.filterMap_append,km _ _ _ _ _ _ zZ hl,iQ _ _ _ _ UW,yN _ _ 2000 y.2 hle Un,kt];rfl
 have hn:ck (L2.map (·.1))=true:=by rw[eN];exact Bn
 have ji:=z6 (ψ:=eg) hn;have g3:Good Z' (fa eg L2) (dJ L2).get w' w.heap.size (Own nW (pM gg x)):=by
  refine Qq.rename hn (by rw[eS];exact vg) fun e he=>?_;rcases acw.1 he with he|he
  ·exact lW Qq (fun _ h=>h) gg.bs _ _ id y.2 zZ (fun i b bR _ _=>(Bm gg.bs _ 2000 y.2 i Un bR).elim) (fun s _=>rfl) (fun e he=>ji e (aa2 _ he)) e he
  ·exact jU gg.rs vsC (id+128) y.1 UW (fun s _=>rfl) e he
 refine⟨L2,eH,eN,g3,fun p hp=>?_,?_⟩
 ·obtain⟨o,ho⟩:=kq (hh:=jV gg y) gg.bs (aU gg.bs.length) Qp id y.2 hle p hp;exact iP hn (aa2 _ ho)
 ·refine ub (by rw[kd,kd]) (fun vs tR=>?_) afK;exact sq (nb:=id) (is':=Qp) Qq (fun _ h=>h) zZ hl (fun e he=>ji e (aa2 _ he)) gg.rs vsC (id+128) y.1 vs UW (fun i b bR _ _=>(l9 gg.rs _ _ _ y.1 i bR).elim) (fun e he=>ji e (aco _ he)) tR
theorem NS{hh:Heap}{kP:List AV}{kept:List Nat}{qB:Hp}{nW Qr:Nat→Value}{H2:Heap}(g:Good Z ψ hh.get w B0 O)(hB:B0≤w.heap.size)(J4:∀s∈kept,(cO hh kP).get s=hh.get s) (bz:∀i ty cs,hh.get i=some (.box ty cs)→aG (fun i=>¬N i) cs) (tT:∀b,Own nW qB b→∃s,s∈kept∧hh.get s≠none∧ob (ψ s)=some b) (hz:∀b,qE Z ψ hh.get kP b→Z' b) (Pz:∀b,Z' b→qE Z ψ hh.get kP b∨Own nW qB b∨w.heap.size≤b) (keep:dh nW qB w w') (g3:Good Z' Qr H2.get w' w.heap.size (Own nW qB)) (Uo:∀i ty cs,H2.get i=some (.box ty cs)→aG (fun j=>H2.get j≠none) cs) (nH:∀i,H2.get i≠none→(i∈kept∧hh.get i≠none∧Qr i=ψ i)∨N i) :
  ∃Bo,(∀i,H2.get i≠none→Bo i=Qr i)∧Next Z ψ hh.get w B0 O N Z' Bo (H2++g8 (cO hh kP) kept).get w':=by
 classical
 let Bo:Nat→Value:=fun i=>if H2.get i≠none then Qr i else ψ i
 have h4:∀i,H2.get i≠none→Bo i=Qr i:=fun i hi=>if_pos hi;have hg:∀i,(H2++g8 (cO hh kP) kept).get i=(match H2.get i with|some o=>some o|none=>if i∈kept then none else(cO hh kP).get i):=fun i=>by rw[Heap.get_append,ov];cases H2.get i<;>rfl
 have DD:∀i,H2.get i≠none→(H2++g8 (cO hh kP) kept).get i=H2.get i:=fun i hi=>by
  rw[hg];cases e:H2.get i with
  |none=>exact absurd e hi
  |some o=>rfl
 have yO:∀i,H2.get i=none→(H2++g8 (cO hh kP) kept).get i≠none→i∉kept∧(H2++g8 (cO hh kP) kept).get i=hh.get i∧(cO hh kP).get i=hh.get i∧Bo i=ψ i∧hh.get i≠none:=fun i hi bw=>by
  rw[hg,hi]at bw ⊢;simp only at bw ⊢;by_cases hk:i∈kept
  ·rw[if_pos hk]at bw;exact absurd rfl bw
  ·rw[if_neg hk]at bw ⊢;obtain⟨o,ho⟩:=acx.1 bw;have:=eu _ _ _ _ ho;exact⟨hk,by rw[ho,this],by rw[ho,this],if_neg (by simp[hi]),by rw[this];simp⟩
 have UX:∀i b,i∉kept→hh.get i≠none→ob (ψ i)=some b→¬Own nW qB b:=fun i b hk hi hb ho=>by obtain⟨s,h1,h2,h3⟩:=tT b ho;exact hk ((g.apart i s b hi h2 hb h3)▸h1)
 have gd:Good (qE Z ψ hh.get kP) ψ (cO hh kP).get w B0 O:=iD g kP;have aaI:∀b,qE Z ψ hh.get kP b→¬Own nW qB b:=fun b hb ho=>by obtain⟨s,h1,h2,h3⟩:=tT b ho;exact(gd.live s b (by rw[J4 s h1];exact h2) h3).1 hb
 have sm:cz (qE Z ψ hh.get kP) w w':=fun b hb=>keep.block b (gd.jP b hb) (aaI b hb);have aaJ:∀i,(H2++g8 (cO hh kP) kept).get i≠none→(hh.get i≠none∧Bo i=ψ i)∨N i:=fun i hi=>by
  by_cases h2:H2.get i=none
  ·obtain⟨_,_,_,h3,h5⟩:=yO i h2 hi;exact .inl ⟨h5,h3⟩
  ·rcases nH i h2 with⟨_,h3,h5⟩|h3
   ·exact .inl ⟨h3,(h4 i h2).trans h5⟩
   ·exact .inr h3
 have kk:dh ψ hh.get w w':=⟨keep.os,keep.tape,keep.output,keep.size,fun b hb qX=>keep.block b hb fun ho=>by obtain⟨s,_,h2,h3⟩:=tT b ho;exact qX ⟨s,h2,h3⟩⟩;refine⟨Bo,h4,fun b hb=>hz b (.inl hb),fun b hb=>?_,kk,aaJ,⟨fun i ty cs hb=>?_,fun i ok xs hb=>?_,fun i b h1 h2=>?_,fun i i' b h1 h2 h3 h5=>?_,g3.jP⟩⟩
 ·rcases Pz b hb with h1|h1|h1
  ·exact(h1.imp (fun h=>h) fun⟨i,_,h2,h3⟩=>.inl ⟨i,h2,h3⟩)
  ·obtain⟨s,_,h2,h3⟩:=tT b h1;exact .inr (.inl ⟨s,h2,h3⟩)
  ·exact .inr (.inr h1)
 ·by_cases h2:H2.get i=none
  ·obtain⟨h3,h5,h6,h7,h8⟩:=yO i h2 (by rw[hb];simp);rw[h5]at hb;obtain⟨gg,vs,e1,e2,e3,e4⟩:=gd.box i ty cs (by rw[h6];exact hb);have aF:=(aa3.1 e2).1;refine⟨gg,vs,by rw[h7,e1],?_,?_,e4⟩
   ·rw[keep.block gg aF (UX i gg h3 h8 (by rw[e1];rfl))];exact e2
   ·refine e3.move (p:=fun i=>¬N i) hz sm (fun j hp hj=>?_) (bz i ty cs hb);by_cases h9:H2.get j=none
    ·obtain⟨_,_,nG,zw,J1⟩:=yO j h9 hj;exact⟨by rw[nG];exact J1,zw⟩
    ·rcases nH j h9 with⟨nG,zw,J1⟩|nG
     ·exact⟨by rw[J4 j nG];exact zw,(h4 j h9).trans J1⟩
     ·exact absurd nG hp
  ·rw[DD i h2]at hb;obtain⟨gg,vs,e1,e2,e3,e4⟩:=g3.box i ty cs hb;exact⟨gg,vs,by rw[h4 i h2,e1],e2,e3.move (p:=fun j=>H2.get j≠none) (fun _ h=>h) (cz.refl _ _) (fun j hp _=>⟨hp,h4 j hp⟩) (Uo i ty cs hb),e4⟩
 ·by_cases h2:H2.get i=none
  ·obtain⟨h3,h5,h6,h7,h8⟩:=yO i h2 (by rw[hb];simp);rw[h5]at hb;rw[h7];exact(gd.row i ok xs (by rw[h6];exact hb)).kept hz sm fun gg Nu=>keep.block gg (g.bT ⟨i,h8,Nu⟩) (UX i gg h3 h8 Nu)
  ·rw[DD i h2]at hb;rw[h4 i h2];exact g3.row i ok xs hb
 ·by_cases h3:H2.get i=none
  ·obtain⟨h5,h6,h7,h8,h9⟩:=yO i h3 h1;rw[h8]at h2;obtain⟨nG,zw⟩:=gd.live i b (by rw[h7];exact h9) h2;refine⟨fun hzb=>?_,zw⟩;rcases Pz b hzb with J1|J1|J1
   ·exact nG J1
   ·exact UX i b h5 h9 h2 J1
   ·have:=g.bT ⟨i,h9,h2⟩;omega
  ·rw[h4 i h3]at h2;obtain⟨h5,h6⟩:=g3.live i b h3 h2;refine⟨h5,?_⟩;rcases h6 with h6|h6
   ·exact .inl (by omega)
   ·obtain⟨s,_,h7,h8⟩:=tT b h6;exact(g.live s b h7 h8).2
 ·have yu:∀i i',H2.get i=none→H2.get i'≠none→(H2++g8 (cO hh kP) kept).get i≠none→ob (Bo i)=some b→ob (Bo i')=some b→False:=fun i i' e1 e2 e3 e4 e5=>by
   obtain⟨h6,_,_,h8,h9⟩:=yO i e1 e3;rw[h8]at e4;rw[h4 i' e2]at e5;rcases (g3.live i' b e2 e5).2 with nG|nG
   ·have:=g.bT ⟨i,h9,e4⟩;omega
   ·exact UX i b h6 h9 e4 nG
  by_cases e1:H2.get i=none<;>by_cases e2:H2.get i'=none
  ·obtain⟨_,_,_,h8,h9⟩:=yO i e1 h1;obtain⟨_,_,_,h8',h9'⟩:=yO i' e2 h2;rw[h8]at h3;rw[h8']at h5;exact g.apart i i' b h9 h9' h3 h5
  ·exact(yu i i' e1 e2 h1 h3 h5).elim
  ·exact(yu i' i e2 e1 h2 h5 h3).elim
  ·rw[h4 i e1]at h3;rw[h4 i' e2]at h5;exact g3.apart i i' b e1 e2 h3 h5
theorem Ab{i:Nat}{o:Ob}:∀{hh:Heap},(i,o)∈hh→hh.get i≠none
 |[],h=>by cases h
 |(j,o')::r,h=>by
  simp only[Heap.get]
  split
  ·simp
  ·rename_i hn;rcases aa1.1 h with e|h
   ·cases e;exact absurd rfl hn
   ·exact Ab h
theorem get_mem{i:Nat}{o:Ob}:∀{hh:Heap},hh.get i=some o→(i,o)∈hh
 |[],h=>by simp[Heap.get]at h
 |(j,o')::r,h=>by
  simp only[Heap.get]at h
  split at h
  ·rename_i e;subst e;cases h;exact acr
  ·exact aaY _ (get_mem h)
theorem pO{p:Nat→Prop}:∀{a b:List AV},aG p a→aG p b→aG p (a++b)
 |[],b,_,h=>h
 |x::r,b,h,h'=>by simp only[List.cons_append,aG]at h ⊢;exact⟨h.1,pO h.2 h'⟩
theorem ke{p:Nat→Prop}:∀(dy:List CK) (n:Nat) (x:qG dy),(∀e∈bm dy n x,p e.1)→aG p (aI dy n x)
 |[],n,x,_=>by simp only[aI,aG]
 |.val k::r,n,x,h=>by simp only[aI];exact pO (lY p k x.1) (ke r (n+1) x.2 h)
 |.own ok::r,n,x,h=>by simp only[bm]at h;simp only[aI,aG,aM];exact⟨h _ acr,ke r (n+1) x.2 fun e he=>h e (aaY _ he)⟩
theorem mZ:∀(dy:List CK) (n:Nat) (x:qG dy) (i:Nat) (ty:TypeId) (cs:List AV),(i,Ob.box ty cs)∉bm dy n x
 |[],_,_,_,_,_=>by simp[bm]
 |.val k::r,n,x,i,ty,cs=>mZ r (n+1) x.2 i ty cs
 |.own _::r,n,x,i,ty,cs=>by simp only[bm,List.mem_cons,not_or];exact⟨by simp,mZ r (n+1) x.2 i ty cs⟩
theorem tl{p:Nat→Prop}:∀(bs:List BK) (is:List Nat) (n:Nat) (x:wK bs),(∀e∈bC bs is n x,p e.1)→∀i ty cs,(i,Ob.box ty cs)∈bC bs is n x→aG p cs
 |[],is,n,x,_,i,ty,cs,h=>by cases is<;>simp[bC]at h
 |b::r,[],n,x,_,i,ty,cs,h=>by simp[bC]at h
 |b::r,i0::is,n,x,hp,i,ty,cs,h=>by
  simp only[bC]at h hp;rcases acw.1 h with h|h
  ·cases b with
   |box ty0 c0 =>
    simp only[jl]at h hp;rcases aa1.1 h with e|h
    ·cases e
     exact ke c0 n x.1 fun e he=>hp e (aa2 _ (aaY _ he))
    ·exact absurd h (mZ _ _ _ _ _ _)
   |own ok=>simp[jl]at h
  ·exact tl r is (n+16) x.2 (fun e he=>hp e (aco _ he)) i ty cs h
theorem m0:∀(dy:List CK) (n i:Nat),i∈cr dy n→n≤i∧i<n+dy.length
 |[],n,i,h=>by simp[cr]at h
 |.val k::r,n,i,h=>by have:=m0 r (n+1) i (by simpa[cr] using h);simp only[List.length_cons];omega
 |.own ok::r,n,i,h=>by
  simp only[cr]at h;simp only[List.length_cons];rcases aa1.1 h with rfl|h
  ·omega
  ·have:=m0 r (n+1) i h;omega
theorem vh:∀(bs:List BK) (is:List Nat) (n i:Nat),(bs.all fun b=>decide (b.dy.length≤16))=true→i∈cd bs is n→i∈is∨(n≤i∧i<n+16*bs.length)
 |[],is,n,i,_,h=>by cases is<;>simp[cd]at h
 |b::r,[],n,i,_,h=>by simp[cd]at h
 |b::r,i0::is,n,i,hc,h=>by
  simp only[List.all_cons,Bool.and_eq_true,decide_eq_true_eq]at hc;simp only[cd]at h;simp only[List.length_cons];rcases aa1.1 h with rfl|h
  ·exact .inl acr
  ·rcases acw.1 h with h|h
   ·have:=m0 _ _ _ h;exact .inr (by omega)
   ·rcases vh r is (n+16) i hc.2 h with h1|h1
    ·exact .inl (aaY _ h1)
    ·exact .inr (by omega)
theorem jt{bs:List BK}:∀(rs:List RK) (m i:Nat),qJ bs rs=true→i∈bD rs m→m≤i∧i<m+rs.length+16
 |[],m,i,_,h=>by simp[bD]at h
 |.own ok::r,m,i,hk,h=>by
  simp only[qJ,List.all_cons,Bool.and_eq_true]at hk;simp only[bD]at h;simp only[List.length_cons];rcases aa1.1 h with rfl|h
  ·omega
  ·have:=jt r (m+1) i hk.2 h;omega
 |.val _::r,m,i,hk,h=>by simp only[qJ,List.all_cons,Bool.and_eq_true]at hk;have:=jt r (m+1) i hk.2 (by simpa[bD] using h);simp only[List.length_cons];omega
 |.eY _ _::r,m,i,hk,h=>by simp only[qJ,List.all_cons,Bool.and_eq_true]at hk;have:=jt r (m+1) i hk.2 (by simpa[bD] using h);simp only[List.length_cons];omega
 |.agg c::r,m,i,hk,h=>by
  simp only[qJ,List.all_cons,Bool.and_eq_true,DB,decide_eq_true_eq]at hk;simp only[bD]at h;simp only[List.length_cons];rcases acw.1 h with h|h
  ·have:=m0 c m i h;omega
  ·have:=jt r (m+1) i hk.2 h;omega
theorem yP{hh:Heap}:∀(bs:List BK) (is:List Nat) (i:Nat),is.length=bs.length→i∈is→i∈dg bs hh is
 |[],is,i,hl,h=>by cases is with
  |nil=>cases h
  |cons a r=>simp at hl
 |b::r,[],i,_,h=>by cases h
 |b::r,i0::is,i,hl,h=>by
  simp only[dg];rcases aa1.1 h with rfl|h
  ·refine aa2 _ ?_
   cases b<;>simp[kb]
  ·exact aco _ (yP r is i (by simpa using hl) h)
theorem Qs{α β:Type}:∀{a:List α} {b:List β},a.length=b.length→∀x∈a,∃y,(x,y)∈a.zip b∧(y,x)∈b.zip a
 |[],b,_,x,h=>by cases h
 |a::r,[],hl,x,_=>by simp at hl
 |a::r,c::q,hl,x,h=>by
  simp only[List.zip_cons_cons];rcases aa1.1 h with rfl|h
  ·exact⟨c,acr,acr⟩
  ·obtain⟨y,h1,h2⟩:=Qs (a:=r) (b:=q) (by simpa using hl) x h;exact⟨y,aaY _ h1,aaY _ h2⟩
theorem uf:∀(dy:List CK) (n c:Nat),fZ dy c=true→n+c∈cr dy n
 |[],n,c,h=>by simp[fZ]at h
 |.own _::r,n,0,_=>by simp[cr]
 |.own _::r,n,c+1,h=>by simp only[fZ]at h;have:=uf r (n+1) c h;simp only[cr];exact aaY _ (by rwa [show n+(c+1)=n+1+c by omega])
 |.val _::r,n,0,h=>by simp[fZ]at h
 |.val _::r,n,c+1,h=>by
  simp only[fZ]at h;have:=uf r (n+1) c h;simp only[cr]
  rwa [show n+(c+1)=n+1+c by omega]
theorem yQ:∀(bs:List BK) (is:List Nat) (n b i:Nat) (bk:BK),is.length=bs.length→bs[b]? = some bk→i∈cr bk.dy (n+16*b)→i∈cd bs is n
 |[],_,_,b,_,_,_,h,_=>by simp at h
 |_::_,[],_,_,_,_,hl,_,_=>by simp at hl
 |b0::r,i0::is,n,0,i,bk,hl,hb,hi=>by simp only[List.getElem?_cons_zero,Option.some.injEq]at hb;subst hb;simp only[cd];exact aaY _ (aa2 _ (by simpa using hi))
 |b0::r,i0::is,n,b+1,i,bk,hl,hb,hi=>by
  simp only[List.getElem?_cons_succ]at hb;simp only[cd];refine aaY _ (aco _ (yQ r is (n+16) b i bk (by simpa using hl) hb ?_))
  rwa [show n+16+16*b=n+16*(b+1) by omega]
theorem ku{p:Nat→Prop}{bs:List BK}{is:List Nat}(hl:is.length=bs.length):∀(rs:List RK) (ids:List Nat) (n m:Nat) (y:lM rs),qJ bs rs=true→(∀i∈bD rs m,p i)→(∀i∈cd bs is n,p i)→aG p (bf rs ids n m y)
 |[],_,_,_,_,_,_,_=>by simp only[bf,aG]
 |.val k::r,ids,n,m,y,hr,h1,h2=>by simp only[qJ,List.all_cons,Bool.and_eq_true,DB]at hr;simp only[bf,aG];exact⟨ou p k y.1,ku hl r ids n (m+1) y.2 hr.2 (fun i hi=>h1 i hi) h2⟩
 |.own _::r,ids,n,m,y,hr,h1,h2=>by simp only[qJ,List.all_cons,Bool.and_eq_true,DB]at hr;simp only[bf,aG,aM];exact⟨h1 m (by simp[bD]),ku hl r ids n (m+1) y.2 hr.2 (fun i hi=>h1 i (by simp only[bD];exact aaY _ hi)) h2⟩
 |.eY b alts::r,ids,n,m,y,hr,h1,h2=>by
  simp only[qJ,List.all_cons,Bool.and_eq_true,DB]at hr;simp only[bf,aG];refine⟨?_,ku hl r ids n (m+1) y.2 hr.2 (fun i hi=>h1 i hi) h2⟩
  cases hy:y.1 with
  |none=>simp only[uO,aM]
  |some p =>
   obtain⟨al,i⟩:=p;simp only[uO,aM]
   cases hb:bs[b]? with
   |none=>rw[hb]at hr;exact absurd hr.1 (by simp)
   |some bk =>rw[hb]at hr;simp only[Bool.and_eq_true]at hr;exact h2 _ (yQ bs is n b _ bk hl hb (uf bk.dy (n+16*b) _ (adG.1 hr.1.1 _ (List.get_mem alts al))))
 |.agg c::r,ids,n,m,y,hr,h1,h2=>by simp only[qJ,List.all_cons,Bool.and_eq_true,DB]at hr;simp only[bf,aG,aM];refine⟨ke c m y.1 fun e he=>h1 _ ?_,ku hl r ids n (m+1) y.2 hr.2 (fun i hi=>h1 i (by simp only[bD];exact aco _ hi)) h2⟩;simp only[bD];have e1:(bm c m y.1).map (·.1)=cr c m:=ia c m y.1;exact aa2 _ (e1▸adD.2 ⟨e,he,rfl⟩)
theorem Ky{p:Nat→Prop}{vs:List AV}(h:aG p vs):aM p (fi vs):=by
 match vs,h with
 |[],h=>simp only[fi,aM];exact h
 |[v],h=>simp only[fi];simp only[aG]at h;exact h.1
 |_::_::_,h=>simp only[fi,aM];exact h
def iF(P:Program)(f:FuncId)(u:Heap→Nat→List AV→Option (Bool×bL)):Prop :=∀{Z:Nat→Prop} {ψ:Nat→Value} {h:Hp} {w:World} {B0:Nat} {O N:Nat→Prop} {hh:Heap} {id:Nat} {e:bL} {vs:List AV} {us:List Value},Good Z ψ h w B0 O→B0≤w.heap.size→(∀id o,hh.get id=some o→h id=some o)→(∀j,j<256→N (id+j))→(∀i ty cs,h i=some (.box ty cs)→aG (fun i=>¬N i) cs)→(∀v hw,e=.wr v hw→hh.get=h) → aq Z ψ h w vs us→aG (fun i=>¬N i) vs→u hh id vs=some (true,e) → Calls P f us.toArray w fun en w'=>∃V Z' ψ',en=.returned V∧Next Z ψ h w B0 O N Z' ψ' (e.hp h) w'∧aC Z' ψ' (e.hp h) w' e.v V
theorem UY{R:Type}{n:Nat}(a:Fin n)(f:Fin n→Option R):aal n a f=f a:=by
 have key:∀l:List (Fin n),a∈l→l.foldr (fun j r=>cond (a.val==j.val) (f j) r) none=f a:=by
  intro l
  induction l with
  |nil=>intro h;cases h
  |cons j r ih =>
   intro h;simp only[List.foldr_cons];by_cases e:a=j
   ·subst e;simp
   ·have:(a.val==j.val)=false:=by simp only[beq_eq_false_iff_ne,ne_eq];exact fun h=>e (Fin.ext h)
    rw[this,cond_false];rcases aa1.1 h with h|h
    ·exact absurd h e
    ·exact ih h
 exact key _ (List.mem_finRange a)
theorem iR{R:Type}:∀(rs:List RK) (x:lM rs) (K:lM rs→Option R),jN rs x K=K x
 |[],_,_=>rfl
 |.val _::r,x,K=>by simp only[jN];rw[iR r x.2];rfl
 |.own _::r,x,K=>by simp only[jN];rw[iR r x.2];rfl
 |.agg _::r,x,K=>by simp only[jN];rw[iR r x.2];rfl
 |.eY _ alts::r,x,K=>by
  simp only[jN];obtain⟨x1,x2⟩:=x
  cases x1 with
  |none=>simp only[qK];rw[iR r x2]
  |some p=>simp only[qK];rw[UY,iR r x2]
theorem Kz(hX:∀f g u,Sg f=some g→g.x=some u→iF P (f%1000) u)(hF:∀f g x y,Sg f=some g→F f g x=some y→Ej P f g x y)(NT:∀f g,Sg f=some g→jr P (f%1000)) {hh:Heap} {ρC:Operand→Value} {o:Oper} (g:Good Z ψ h w B0 O) (hB:B0≤w.heap.size) (bE:∀id o,hh.get id=some o→h id=some o) {id:Nat} (hN:∀j,j<256→N (id+j)) {e:bL} (bz:∀i ty cs,h i=some (.box ty cs)→aG (fun i=>¬N i) cs) (nT:∀v hw,e=.wr v hw→hh.get=h) {f:FuncId} {cap vs:List AV} {fv:Value} {us:List Value} (UZ:aC Z ψ h w (.fn f cap) fv) (tR:aq Z ψ h w vs us) (FB:aG (fun i=>¬N i) (vs++cap)) (hex:∀(ws:Array Value),fv=.func (.func f) #[] ws→execOp ρC o=callFunc f (us.toArray++ws)) (he:jm Sg F hh id f (vs++cap) some=some e):WL P ρC o Z ψ h w B0 O N e:=by
 unfold jm at he
 split at he
 ·cases he
 rename_i gg hSg;simp only[aC]at UZ;obtain⟨ws,rfl,Yf⟩:=UZ;have Ek:=NT _ _ hSg;have kZ:aq Z ψ h w (vs++cap) (us++ws.toList):=aq.append tR Yf;have FH:aq Z ψ hh.get w (vs++cap) (us++ws.toList):=kZ.qA bE;have gs:Good Z ψ hh.get w B0 O:=g.sub bE;have Qt:us.toArray++ws=(us++ws.toList).toArray:=by simp
 split at he
 ·rename_i u hu
  split at he
  ·rename_i hf;obtain⟨⟨b,e'⟩,WN,Ui⟩:=adH.1 he
   cases b with
   |false=>cases Ui
   |true =>
   cases Ui
   have HI:keyOf Sg f (vs++cap)%1000=f:=by rw[w4];exact Nat.mod_eq_of_lt hf
   have hx:iF P f u:=by rw[←HI];exact hX _ _ _ hSg hu
   rw[HI]at Ek;refine⟨f,us.toArray++ws,by rw[hex ws rfl];exact js Ek _,?_⟩;rw[Qt];exact hx g hB bE hN bz nT kZ FB WN
  ·cases he
 split at he
 ·rename_i i0 nH FI
  split at he
  ·rename_i NU;simp only[Bool.and_eq_true,List.isEmpty_iff]at NU;obtain⟨rfl,_⟩:=NU
   split at he
   rotate_left
   ·cases he
   rename_i x b hx hb qY;obtain⟨y,hy,he⟩:=adH.1 he;simp only[PZ,Bool.and_eq_true,decide_eq_true_eq]at FI;obtain⟨_,_,⟨hlen,hf⟩,_⟩:=FI;have DG:=(hF _ _ _ _ hSg hy).zero (HF hb);have HI:keyOf Sg f (vs++cap)%1000=f:=by rw[w4];exact Nat.mod_eq_of_lt hf
   rw[HI]at Ek;have hN':∀j,j<gg.rs.length+16→N (id+128+j):=fun j hj=>by rw[Nat.add_assoc];exact hN _ (by omega)
   refine⟨f,us.toArray++ws,by rw[hex ws rfl];exact js Ek _,?_⟩;rw[Qt];unfold aaz at DG;rw[HI]at DG;by_cases qX:qI (vs++cap)=true
   ·rw[qX,Bool.or_true]at he
    cases he
    have h1:aq Z J3 gr w (Ef gg x) (us++ws.toList):=Bh gs (fun _ h=>h) gg.ps 0 _ _ x (fun v hv i b hi _ _=>(qZ qX v hv i hi).elim) nH hx FH;refine(DG Z w _ g.jP h1).mono fun en w' ⟨v,Z',ψ',e1,h2,h3,h4,h5,h6⟩=>?_;obtain⟨ue,n,hr⟩:=w5 (nb:=id) qY g hB bz hN' h4 h2 h3 h5 h6;exact⟨v,Z',ue,e1,n,hr⟩
   ·cases hfl:gg.rs.all RK.flat with
    |true =>
     rw[hfl,Bool.true_or]at he
     cases he
     let Zc:Nat→Prop:=fun b=>b<w.heap.size
     have h1:aq Zc J3 gr w (Ef gg x) (us++ws.toList):=Bh gs g.jP gg.ps 0 _ _ x (fun v hv i b hi h1 h2=>gs.bT ⟨i,h1,h2⟩) nH hx FH;refine(DG Zc w _ (fun _ h=>h) h1).mono fun en w' ⟨v,Z',ψ',e1,h2,h3,h4,h5,h6⟩=>?_;have aaK:=NL gg.rs 3000 y.1 hfl qY;have h7:aC Z ψ' (ak gg.rs 3000 y.1).get w' (fi (bf gg.rs [] 2000 3000 y.1)) v:=ub rfl (fun vs tR=>Qm gg.rs hfl qY tR) h6;have gz:Good Z ψ' (ak gg.rs 3000 y.1).get w' w.heap.size (fun _=>False):=by rw[aaK];exact⟨fun _ _ _ hb=>by simp[Heap.get]at hb,fun _ _ _ hb=>by simp[Heap.get]at hb,fun _ _ hb=>by simp[Heap.get]at hb,fun _ _ _ hb=>by simp[Heap.get]at hb,fun b hb=>aeA (g.jP b hb) h4.size⟩
     obtain⟨ue,n,hr⟩:=w5 (nb:=id) qY g hB bz hN' h4 (fun _ h=>h) (fun _ h=>.inl h) gz h7;exact⟨v,Z,ue,e1,n,hr⟩
    |false =>
     rw[hfl,Bool.false_or,Bool.eq_false_iff.2 qX]at he
     cases he
     have heq:=nT _ _ rfl;subst heq
     let cs:=dx gg.ps (vs++cap)
     have UJ:∀b,qE Z ψ hh.get cs b→Z b∨Own ψ hh.get b:=fun b hb=>hb.imp (fun h=>h) (fun⟨i,_,h2,h3⟩=>⟨i,h2,h3⟩);have gd:Good (qE Z ψ hh.get cs) ψ (cO hh cs).get w B0 O:=iD g cs;have h1:aq (qE Z ψ hh.get cs) J3 gr w (Ef gg x) (us++ws.toList) :=Bh gs (fun _ h=>.inl h) gg.ps 0 _ _ x (fun v hv i b hi h1 h2=>.inr ⟨i,ve _ _ nH v hv i hi,h1,h2⟩) nH hx FH;refine(DG _ w _ gd.jP h1).mono fun en w' ⟨v,Z',ψ',e1,h2,h3,h4,h5,h6⟩=>?_;obtain⟨ue,n,hr⟩:=w5 (nb:=id) qY gd hB (fun i ty cs hb=>bz i ty cs (eu _ _ _ _ hb)) hN' h4 h2 h3 h5 h6;have e2:(bL.wr (fi (bf gg.rs [] id (id+128) y.1)) (ak gg.rs (id+128) y.1++cO hh (dx gg.ps (vs++cap)))).hp hh.get=(fun i=>match (ak gg.rs (id+128) y.1).get i with|some o=>some o|none=>(cO hh cs).get i):=by
      funext i;simp only[bL.hp];rw[Heap.get_append]
      cases (ak gg.rs (id+128) y.1).get i<;>rfl
     rw[e2];exact⟨v,Z',ue,e1,n.drop (fun _ h=>.inl h) UJ (eu _ _),hr⟩
  ·split at he
   rotate_left
   ·cases he
   rename_i x b hx hb DH;obtain⟨y,hy,he⟩:=adH.1 he;rw[iR]at he
   cases he
   have heq:=nT _ _ rfl;subst heq;simp only[PZ,Bool.and_eq_true,decide_eq_true_eq]at FI;obtain⟨Ye,⟨hbl,rY⟩,⟨hlen,hf⟩,vg⟩:=FI;rw[Bool.and_eq_true]at DH;have DG:=hF _ _ _ _ hSg hy;have HI:keyOf Sg f (vs++cap)%1000=f:=by rw[w4];exact Nat.mod_eq_of_lt hf
   rw[HI]at Ek;refine⟨f,us.toArray++ws,by rw[hex ws rfl];exact js Ek _,?_⟩;rw[Qt];unfold Ej at DG;rw[HI]at DG;have hl:i0.length=gg.bs.length:=(jq _ _ _ hb).1;have Bp:=(jq _ _ _ hb).2;have hle:(aU gg.bs.length).length=gg.bs.length:=by simp[aU]
   let kP:=dx gg.ps (vs++cap)++gi gg.bs hh i0
   let L1:List yG:=cF gg.bs hh i0 (aU gg.bs.length) 2000 b
   have eH1:dJ L1=bC gg.bs (aU gg.bs.length) 2000 b:=jo _ _ _ _ _ _ hb hle;have eN1:L1.map (·.1)=cd gg.bs (aU gg.bs.length) 2000:=hM _ _ _ _ _ _ hb hle;have eS1:L1.filterMap (·.2.1)=dg gg.bs hh i0:=km _ _ _ _ _ _ hb hle;have ZL:ck (L1.map (·.1))=true:=by rw[eN1];exact HH vg
   have Ya:=z6 (ψ:=ψ) ZL;have J4:=(so DH.1).2 hh;have yC:∀b,Z b→qE Z ψ hh.get kP b:=fun b hb=>.inl hb;have aaL:∀e∈L1,vc (qE Z ψ hh.get kP) ψ (cO hh kP).get w (dJ L1).get (fa ψ L1) e:=fun e he =>lW gs yC gg.bs _ _ 2000 b hb (fun i b bR h1 h2=>.inr ⟨i,aco _ bR,h1,h2⟩) J4 Ya e he;have gin:Good (qE Z ψ hh.get kP) (fa ψ L1) (dJ L1).get w B0 O:=wZ gs DH.1 ZL eS1 aaL;have ein:(dJ L1).get=pM gg (x,b):=by rw[eH1];rfl
   have Qu:∀p∈i0.zip (aU gg.bs.length),(p.2,some p.1)∈L1.map (fun e=>(e.1,e.2.1)):=fun p hp=>by obtain⟨o,ho⟩:=kq (hh:=hh) gg.bs i0 (aU gg.bs.length) 2000 b hl p hp;exact adD.2 ⟨_,ho,rfl⟩
   have aaM:∀p∈i0.zip (aU gg.bs.length),fa ψ L1 p.2=ψ p.1:=fun p hp=>by
    obtain⟨⟨i,s,o⟩,ho,he⟩:=adD.1 (Qu p hp)
    cases he
    exact iP ZL ho
   have Yg:aq (qE Z ψ hh.get kP) (fa ψ L1) (dJ L1).get w (FE gg (x,b)) (us++ws.toList) :=lz gs yC gg.ps i0 (aU gg.bs.length) 0 _ _ x (by rw[hle,hl]) nH hx (fun i b bR h1 h2=>.inr ⟨i,aa2 _ bR,h1,h2⟩) (fun p hp=>⟨Bp _ (List.of_mem_zip hp).1,fun _=>aaM p hp⟩) FH;have tT:∀c,Own (fa ψ L1) (pM gg (x,b)) c→∃s,s∈dg gg.bs hh i0∧hh.get s≠none∧ob (ψ s)=some c:=fun c ⟨i,h1,h2⟩=>by
    rw[←ein]at h1;obtain⟨o,ho⟩:=acx.1 h1;obtain⟨s,hm⟩:=oq ho;rw[iP ZL hm]at h2
    cases s with
    |none=>simp[jS,ob]at h2
    |some s =>
     have hs:s∈dg gg.bs hh i0:=by rw[←eS1];exact ae3.2 ⟨_,hm,rfl⟩
     refine⟨s,hs,?_,h2⟩;have h3:=aaL _ hm;rw[←J4 s hs]
     cases o with
     |box ty cs=>obtain⟨⟨cs0,h4⟩,_⟩:=h3;rw[h4];simp
     |own ok xs=>rw[show(cO hh kP).get s=some (.own ok xs) from h3];simp
   refine(DG (qE Z ψ hh.get kP) (fa ψ L1) w (us++ws.toList) (by rw[←ein];exact gin.FG _) (by rw[←ein];exact Yg)).mono fun en w' ⟨v,Z',eg,e1,h2,h3,h4,h5,h6,h7⟩=>?_;obtain⟨L2,eH2,eN2,g3,hzz,Yh⟩:=NR (x:=(x,b)) (y:=y) (id:=id) hl Ye vg DH.2 h5 h7;have Uo:∀i ty cs,(dJ L2).get i=some (.box ty cs)→aG (fun j=>(dJ L2).get j≠none) cs:=fun i ty cs hg=>by
    have gY:=get_mem hg;rw[eH2]at gY;rcases acw.1 gY with gY|gY
    ·exact tl gg.bs _ id y.2 (fun e he=>by rw[eH2];exact Ab (o:=e.2) (aa2 _ he)) i ty cs gY
    ·exfalso;have:∀(rs:List RK) (m:Nat) (y:lM rs),(i,Ob.box ty cs)∉ak rs m y:=by
      intro rs
      induction rs with
      |nil=>intro m y;simp[ak]
      |cons r rs ih =>
       intro m y
       cases r with
       |agg c=>simp only[ak,List.mem_append,not_or];exact⟨mZ _ _ _ _ _ _,ih (m+1) y.2⟩
       |val k=>exact ih (m+1) y.2
       |eY _ _=>exact ih (m+1) y.2
       |own ok=>simp only[ak,List.mem_cons,not_or];exact⟨by simp,ih (m+1) y.2⟩
     exact this _ _ _ gY
   have aaO:∀i,(dJ L2).get i≠none→(i∈dg gg.bs hh i0∧hh.get i≠none∧fa eg L2 i=ψ i)∨N i:=fun i hi=>by
    obtain⟨o,ho⟩:=acx.1 hi;obtain⟨s,hm⟩:=oq ho;have gY:i∈cd gg.bs i0 id++bD gg.rs (id+128):=by rw[←eN2];exact adD.2 ⟨_,hm,rfl⟩
    have hNr:∀i,id≤i→i<id+256→N i:=fun i h1 h2=>by
     have:=hN (i-id) (by omega)
     rwa [show id+(i-id)=i by omega]at this
    rcases acw.1 gY with gY|gY
    ·rcases vh _ _ _ _ rY gY with h8|h8
     ·refine .inl ⟨yP _ _ _ hl h8,Bp i h8,?_⟩;obtain⟨ee,h9,nG⟩:=Qs (by rw[hle,hl]) i h8;rw[hzz (ee,i) nG];have zw:ee∈aU gg.bs.length:=(List.of_mem_zip nG).1;rw[h6 ee zw];exact aaM (i,ee) h9
     ·exact .inr (hNr i h8.1 (by omega))
    ·have h8:=jt _ _ _ Ye gY;exact .inr (hNr i (by omega) (by omega))
   obtain⟨Bo,h8,nx⟩:=NS (N:=N) gs hB J4 bz tT h2 h3 h4 g3 Uo aaO;have eH3:(bL.wr (fi (bf gg.rs i0 id (id+128) y.1)) (bC gg.bs i0 id y.2++(ak gg.rs (id+128) y.1++g8 (cO hh (dx gg.ps (vs++cap)++gi gg.bs hh i0)) (dg gg.bs hh i0)))).hp hh.get =(dJ L2++g8 (cO hh kP) (dg gg.bs hh i0)).get:=by rw[eH2,List.append_assoc];rfl
   rw[eH3];refine⟨v,Z',Bo,e1,nx,?_⟩;refine Yh.move (p:=fun j=>(dJ L2).get j≠none) (fun _ h=>h) (cz.refl _ _) (fun j hp _=>⟨hp,h8 j hp⟩) ?_;refine Ky (ku hl gg.rs _ id (id+128) y.1 Ye (fun i hi=>?_) fun i hi=>?_)
   ·rw[←fQ gg.rs (id+128) y.1]at hi;obtain⟨e,he,rfl⟩:=adD.1 hi;rw[eH2];exact Ab (o:=e.2) (aco _ he)
   ·rw[←l8 gg.bs i0 id y.2 hl]at hi;obtain⟨e,he,rfl⟩:=adD.1 hi;rw[eH2];exact Ab (o:=e.2) (aa2 _ he)
 ·cases he
end Go.Vs
namespace Go.Vs
variable {P:Program} {Eqs:TypeId→Option K} {Sg:FuncId→Option aS} {F:(f:FuncId)→(g:aS)→g.A→Option g.B} {R:Type} {k:bL→Option R}
theorem bW{c:Bool}{e:bL}:cond c (k e) none=(cond c (some e) none).bind k:=by cases c<;>rfl
theorem bN{c:Bool}{e:bL}:cond c none (k e)=(cond c none (some e)).bind k:=by cases c<;>rfl
theorem bO{c:Bool}{e e':bL}:cond c (k e) (k e')=(cond c (some e) (some e')).bind k:=by cases c<;>rfl
theorem bX{α:Type}(o:Option α)(f:α→Option R)(g:α→Option bL)(h:∀x,f x=(g x).bind k):o.bind f=(o.bind g).bind k:=by cases o with
 |none=>rfl
 |some x=>exact h x
theorem KA{h:Heap}{id:Nat}{t:TypeId}{s x:AV}:n8 P h id t s x k=(n8 P h id t s x some).bind k:=by unfold n8;repeat' (first|rfl|exact bW|exact bN | exact bO|(refine bX _ _ _ (fun _=>?_))|split)
theorem NV{h:Heap}{t:TypeId}{s x:AV}:rO P h t s x k=(rO P h t s x some).bind k:=by unfold rO;repeat' (first|rfl|exact bW|exact bN | exact bO|(refine bX _ _ _ (fun _=>?_))|split)
theorem Qv{h:Heap}{t:TypeId}{s:AV}:lN P h t s k=(lN P h t s some).bind k:=by unfold lN;repeat' (first|rfl|exact bW|exact bN | exact bO|(refine bX _ _ _ (fun _=>?_))|split)
theorem DI{h:Heap}{t:TypeId}{s x:AV}:dE P h t s x k=(dE P h t s x some).bind k:=by unfold dE;repeat' (first|rfl|exact bW|exact bN | exact bO|(refine bX _ _ _ (fun _=>?_))|split)
theorem Qw{x:AV}{lo hi mx:Option AV}:wM x lo hi mx k=(wM x lo hi mx some).bind k:=by unfold wM;repeat' (first|rfl|exact bW|exact bN | exact bO|(refine bX _ _ _ (fun _=>?_))|split)
theorem NW{h:Heap}{sz:Nat}{x:AV}{lo hi mx:Option AV}:o8 h sz x lo hi mx k=(o8 h sz x lo hi mx some).bind k:=by unfold o8;repeat' (first|rfl|exact bW|exact bN | exact bO|(refine bX _ _ _ (fun _=>?_))|split)
theorem U3{h:Heap}{x:AV}:D3 h x k=(D3 h x some).bind k:=by unfold D3;repeat' (first|rfl|exact bW|exact bN | exact bO|(refine bX _ _ _ (fun _=>?_))|split)
theorem U4{op:BinOp}{t:TypeId}{x y:AV}:yn P Eqs op t x y k=(yn P Eqs op t x y some).bind k:=by unfold yn;repeat' (first|rfl|exact bW|exact bN | exact bO|(refine bX _ _ _ (fun _=>?_))|split)
theorem HJ(rs:List RK)(x:lM rs)(f:lM rs→Option R)(g:lM rs→Option bL)(h:∀z,f z=(g z).bind k):jN rs x f=(jN rs x g).bind k:=by rw[iR,iR];exact h x
theorem Qx{h:Heap}{id:Nat}{f:FuncId}{vs:List AV}:jm Sg F h id f vs k=(jm Sg F h id f vs some).bind k:=by unfold jm;repeat' (first|rfl|exact bW|exact bN | exact bO|(refine bX _ _ _ (fun _=>?_))|(refine HJ _ _ _ _ (fun _=>?_))|split)
theorem Qy{id:Nat}{t:TypeId}{vs:List AV}:wQ id t vs k=(wQ id t vs some).bind k:=rfl
theorem NX{t:TypeId}{ps:List (Nat×AV)}:rR P t ps k=(rR P t ps some).bind k:=by unfold rR;repeat' (first|rfl|exact bW|exact bN | exact bO|(refine bX _ _ _ (fun _=>?_))|split)
theorem FJ{h:Heap}{id:Nat}{t:TypeId}{n:Nat}{ps:List (Nat×AV)}:uP P h id t n ps k=(uP P h id t n ps some).bind k:=by unfold uP;repeat' (first|rfl|exact bW|exact bN | exact bO|(refine bX _ _ _ (fun _=>?_))|split)
theorem Qz{kP:Bool}{h:Heap}{id:Nat}{t:TypeId}{n:Nat}{ps:List (Nat×AV)}:wR P kP h id t n ps k=(wR P kP h id t n ps some).bind k:=by unfold wR;rw[FJ,FJ (k:=fun e=>some (if kP then UC e else e)),Option.bind_assoc];rfl
theorem QA{s d:TypeId}{x:AV}:AM P s d x k=(AM P s d x some).bind k:=by unfold AM;repeat' (first|rfl|exact bW|exact bN | exact bO|(refine bX _ _ _ (fun _=>?_))|split)
theorem Yi{b:Bool}{vs:List AV}:Ns b vs k=(Ns b vs some).bind k:=by unfold Ns;repeat' (first|rfl|exact bW|exact bN | exact bO|(refine bX _ _ _ (fun _=>?_))|split)
theorem QB{h:Heap}{x:AV}:wN h x k=(wN h x some).bind k:=by unfold wN;repeat' (first|rfl|exact bW|exact bN | exact bO|(refine bX _ _ _ (fun _=>?_))|split)
theorem HK{id:Nat}{t:TypeId}:ly P Eqs id t k=(ly P Eqs id t some).bind k:=by unfold ly;repeat' (first|rfl|exact bW|exact bN | exact bO|(refine bX _ _ _ (fun _=>?_))|split)
theorem KB{h:Heap}{t:TypeId}{m i:AV}{ok:Bool}:oa P Eqs h t m i ok k=(oa P Eqs h t m i ok some).bind k:=by unfold oa;repeat' (first|rfl|exact bW|exact bN | exact bO|(refine bX _ _ _ (fun _=>?_))|split)
theorem KC{h:Heap}{t:TypeId}{m i v:AV}:iO P Eqs h t m i v k=(iO P Eqs h t m i v some).bind k:=by unfold iO;repeat' (first|rfl|exact bW|exact bN | exact bO|(refine bX _ _ _ (fun _=>?_))|split)
theorem KD{h:Heap}{t:TypeId}{m i:AV}:oc P Eqs h t m i k=(oc P Eqs h t m i some).bind k:=by unfold oc;repeat' (first|rfl|exact bW|exact bN | exact bO|(refine bX _ _ _ (fun _=>?_))|split)
theorem KE{id:Nat}{t:TypeId}{x:AV}:od P id t x k=(od P id t x some).bind k:=by unfold od;repeat' (first|rfl|exact bW|exact bN | exact bO|(refine bX _ _ _ (fun _=>?_))|split)
theorem NY{h:Heap}{x:AV}:rP h x k=(rP h x some).bind k:=by unfold rP;repeat' (first|rfl|exact bW|exact bN | exact bO|(refine bX _ _ _ (fun _=>?_))|split)
theorem NZ{h:Heap}{x:AV}:rQ h x k=(rQ h x some).bind k:=by unfold rQ;repeat' (first|rfl|exact bW|exact bN | exact bO|(refine bX _ _ _ (fun _=>?_))|split)
theorem lA{id:Nat}{h:Heap}{s:List (Nat×AV)}{o:Oper}:cZ P Eqs Sg F id h s o k=(cZ P Eqs Sg F id h s o some).bind k:=by
 obtain⟨dst,op,type,pos,after,guard⟩:=o
 cases op<;>simp only[cZ] <;>
  repeat' (first|rfl|exact Qz|exact KA|exact NV|exact Qv|exact DI|exact Qw|exact NW|exact U3|exact U4|exact Qx|exact Qy|exact NX|exact FJ|exact QA|exact Yi|exact QB|exact HK|exact KB|exact KC|exact KD|exact KE|exact NY|exact NZ|exact bW|(refine bX _ _ _ (fun _=>?_))|split)
theorem N0{id:Nat}{h h':Heap}{s:List (Nat×AV)}{o:Oper}(hf:nD o.op=true):cZ P Eqs Sg F id h s o k=cZ P Eqs Sg F id h' s o k:=by
 obtain⟨dst,op,type,pos,after,guard⟩:=o
 cases op<;>simp[nD]at hf<;>first|rfl|(rename_i u _ _;cases u<;>rfl)
theorem U5{op:BinOp}{t:TypeId}{x y:AV}{e:bL}(he:yn P Eqs op t x y some=some e):∃v,e=.val v:=by
 unfold yn at he
 repeat' (first|(cases he;done)|exact⟨_,(acv he).symm⟩|split at he)
 all_goals
  unfold cond at he
  split at he<;>first|(cases he;done)|exact⟨_,(acv he).symm⟩
theorem HL{id:Nat}{h:Heap}{s:List (Nat×AV)}{o:Oper}{e:bL}(hf:nD o.op=true)(he:cZ P Eqs Sg F id h s o some=some e):∃v,e=.val v:=by
 obtain⟨dst,op,type,pos,after,guard⟩:=o
 cases op<;>simp only[nD]at hf<;>first|(cases hf;done)|skip
 case unOp u t x =>
  cases u<;>simp only[cZ]at he<;>repeat' (first|(cases he;done)|exact⟨_,(acv he).symm⟩|split at he)
 case makeFunc fn first cap =>
  cases fn<;>simp only[cZ]at he<;>repeat' (first|(cases he;done)|exact⟨_,(acv he).symm⟩|split at he)
 all_goals simp only[cZ]at he
 case binOp=>exact U5 he
 case slice =>
  repeat' (first|(cases he;done)|split at he)
  all_goals
   first|unfold wM at he|unfold o8 at he
   repeat' (first|(cases he;done)|exact⟨_,(acv he).symm⟩|split at he)
   all_goals
    unfold cond at he
    split at he<;>first|(cases he;done)|exact⟨_,(acv he).symm⟩
 case build =>
  unfold rR at he
  repeat' (first|(cases he;done)|exact⟨_,(acv he).symm⟩|split at he)
 all_goals
  repeat' (first|(cases he;done)|exact⟨_,(acv he).symm⟩|split at he)
end Go.Vs
namespace Go.Vs
variable {P:Program} {Eqs:TypeId→Option K} {Sg:FuncId→Option aS} {F:(f:FuncId)→(g:aS)→g.A→Option g.B} {R:Type}
variable {Z Z' Z0:Nat→Prop} {ψ ψ' ψ0:Nat→Value} {h h':Hp} {w w' w0:World} {B0:Nat} {O N:Nat→Prop}
structure Env(P:Program)(Eqs:TypeId→Option K)(Sg:FuncId→Option aS)(F:(f:FuncId)→(g:aS)→g.A→Option g.B):Prop where
 eqs:∀t k,Eqs t=some k→lS P t k
 con:∀f g x y,Sg f=some g→F f g x=some y→Ej P f g x y
 spec:∀f g u,Sg f=some g→g.x=some u→iF P (f%1000) u
 HM:∀f g,Sg f=some g→jr P (f%1000)
theorem HN{s:List (Nat×AV)}{ρC:Operand→Value}:∀(l:List Operand),(∀x∈l,aC Z ψ h w (ρ s x) (ρC x))→aq Z ψ h w (l.map (ρ s)) (l.map ρC)
 |[],_=>by simp[aq]
 |x::r,hx=>by simp only[List.map_cons,aq];exact⟨_,_,rfl,hx x acr,HN r fun y hy=>hx y (aaY _ hy)⟩
theorem El{s:List (Nat×AV)}{p:Nat→Prop}:∀(l:List Operand),(∀x∈l,aM p (ρ s x))→aG p (l.map (ρ s))
 |[],_=>by simp[aG]
 |x::r,hx=>by simp only[List.map_cons,aG];exact⟨hx x acr,El r fun y hy=>hx y (aaY _ hy)⟩
theorem WO(E:Env P Eqs Sg F){hh:Heap}{a:Act}{s:List (Nat×AV)}{o:Oper}(g:Good Z ψ h w B0 O)(hB:B0≤w.heap.size)(bE:∀id o,hh.get id=some o→h id=some o){id:Nat}(hN:makes o.op=true→∀j,j<256→N (id+j)){e:bL} (nV:∀x∈o.op.operands,aC Z ψ h w (ρ s x) (a.eval x)) (hm:∀x∈o.op.operands,aM (fun i=>¬N i) (ρ s x)) (bz:∀i ty cs,h i=some (.box ty cs)→aG (fun i=>¬N i) cs) (nT:∀v hw,e=.wr v hw→hh.get=h) (he:cZ P Eqs Sg F id hh s o some=some e) {next:Act→World→Prop} {Q:Exit→Act→World→Prop} (hk:∀V w' Z' ψ',Next Z ψ h w B0 O N Z' ψ' (e.hp h) w'→aC Z' ψ' (e.hp h) w' e.v V→next (a.put o.dst V) w'):o.wp P a w next Q:=by
 have d:g9 P a.eval o Z ψ h w B0 O N e∨WL P a.eval o Z ψ h w B0 O N e:=by
  cases J2:u9 o with
  |false=>exact .inl (Qi E.eqs g hB bE (fun hm=>by simpa using hN hm 0 (by decide)) nV hm bz nT J2 he)
  |true =>
   refine .inr ?_;obtain⟨dst,op,type,pos,after,guard⟩:=o
   cases op<;>simp[u9]at J2
   rename_i c;obtain⟨callee,args,argTypes⟩:=c
   cases callee<;>simp at J2
   rename_i fo;simp only[cZ]at he
   split at he
   ·rename_i f cap hf;simp only[Op.operands,Call.operands]at nV;have h1:=nV fo (by simp);rw[hf]at h1;have h2:aq Z ψ h w (args.toList.map (ρ s)) (args.toList.map a.eval):=HN _ fun x hx=>nV x (by simp;exact .inr (by simpa using hx));have hmf:=hm fo (by simp[Op.operands,Call.operands]);rw[hf]at hmf;simp only[aM]at hmf;have hma:aG (fun i=>¬N i) (args.toList.map (ρ s)):=El _ fun x hx=>hm x (by simp[Op.operands,Call.operands];exact .inr (by simpa using hx));refine Kz E.spec E.con E.HM g hB bE (hN rfl) bz nT h1 h2 (pO hma hmf) (fun ws Yf=>?_) he;simp only[execOp,resolve,Yf,Deferred.ofValue];simp only[pure_bind,invoke];congr 1;apply Array.ext';simp
   ·cases he
 unfold Oper.wp;rcases d with⟨V,w',Z',ψ',h1,h2,h3⟩|⟨f,args,h1,h2⟩
 ·rcases h1 with h1|⟨h1,rfl⟩
  ·rw[h1];exact hk V w' Z' ψ' h2 h3
  ·rw[h1];exact hk undef w' Z' ψ' h2 h3
 ·rw[h1,Oper.upon_enter];refine h2.mono fun en w' ⟨V,Z',ψ',e1,n,hr⟩=>?_;subst e1;exact hk V w' Z' ψ' n hr
structure Ok(Z0:Nat→Prop)(w0:World)(O:Nat→Prop)(ψ0:Nat→Value)(Z:Nat→Prop)(ψ:Nat→Value)(h:Hp)(w:World):Prop where
 ed:Good Z ψ h w w0.heap.size O
 fV:∀b,Z0 b→Z b
 eR:∀b,Z b→Z0 b∨O b∨w0.heap.size≤b
 os:w.os=w0.os
 tape:w.tape=w0.tape
 output:w.output=w0.output
 size:w0.heap.size≤w.heap.size
 block:∀b,b<w0.heap.size→¬O b→w.heap[b]? = w0.heap[b]?
 fix:∀i,i<2000→h i≠none→ψ i=ψ0 i
theorem Ok.next(k:Ok Z0 w0 O ψ0 Z ψ h w)(hN:∀id,N id→2000≤id)(n:Next Z ψ h w w0.heap.size O N Z' ψ' h' w'):Ok Z0 w0 O ψ0 Z' ψ' h' w':=by
 have own:∀b,Own ψ h b→w0.heap.size≤b∨O b:=fun b ⟨id,h1,h2⟩=>(k.ed.live id b h1 h2).2;refine⟨n.ed,fun b hb=>n.fV b (k.fV b hb),fun b hb=>?_,n.keep.os.trans k.os,n.keep.tape.trans k.tape,n.keep.output.trans k.output,adC k.size n.keep.size,fun b hb ho=>?_,fun i hi bw=>?_⟩
 ·rcases n.eR b hb with h1|h1|h1
  ·exact k.eR b h1
  ·exact .inr (own b h1).symm
  ·exact .inr (.inr (adC k.size h1))
 ·rw[n.keep.block b (Nat.lt_of_lt_of_le hb k.size) (fun h1=>(own b h1).elim (fun h2=>by omega) ho)];exact k.block b hb ho
 ·rcases n.ids i bw with⟨h1,h2⟩|h1
  ·rw[h2];exact k.fix i hi h1
  ·have:=hN i h1;omega
structure cU(Z:Nat→Prop)(ψ:Nat→Value)(h:Hp)(w:World)(n:Nat)(T:Nat→AV)(a:Act):Prop where
 rep:∀d,aC Z ψ h w (T d) (a.tmps.getD d undef)
 size:a.tmps.size=n
 defers:a.defers=[]
theorem N1:aC Z ψ h w (.nu []) undef:=by simp only[aC,aq];exact⟨#[],rfl,rfl⟩
def jg(T:Nat→AV)(d:Option Tmp)(v:AV):Nat→AV:=match d with
 |some d=>eC T d v
 |none=>T
theorem ib(st:St)(d:Option Tmp)(v:AV):look (st.put d v).tmps=jg (look st.tmps) d v:=by
 cases d with
 |none=>rfl
 |some d =>
  funext i;simp only[St.put,look,jg,eC];by_cases e:i=d
  ·subst e;simp
  ·rw[if_neg (fun x=>e x.symm),if_neg e]
theorem dm(st:St)(d:Option Tmp)(v:AV):(st.put d v).heap=st.heap:=by cases d<;>rfl
theorem Em{T:List (Nat×AV)}{d:Nat}{v:AV}(hv:look T d=v):eC (look T) d v=look T:=by
 funext i;unfold eC
 split
 ·rename_i e;subst e;exact hv.symm
 ·rfl
theorem ic{a:Act}{d:Nat}{v:Value}(hd:d<a.tmps.size)(i:Nat):(a.put (some d) v).tmps.getD i undef=if i=d then v else a.tmps.getD i undef:=by
 simp only[Act.put];by_cases e:i=d
 ·subst e;simp[hd]
 ·simp[e,Array.getElem?_setIfInBounds_ne (Ne.symm e)]
theorem cC(a:Act)(d:Option Tmp)(v:Value):(a.put d v).tmps.size=a.tmps.size:=by cases d<;>simp[Act.put]
theorem put_defers(a:Act)(d:Option Tmp)(v:Value):(a.put d v).defers=a.defers:=by cases d<;>rfl
theorem cU.put{n:Nat}{T:Nat→AV}{a:Act}{o:Oper}{x:AV}{V:Value}(t:cU Z ψ h w n T a)(hd:iz n o=true)(hx:aC Z ψ h w x V):cU Z ψ h w n (jg T o.dst x) (a.put o.dst V):=by
 refine⟨fun d=>?_,by rw[cC];exact t.size,by rw[put_defers];exact t.defers⟩;unfold iz at hd
 split at hd
 ·rename_i d0 hd0;rw[hd0];rw[ic (by rw[t.size];simpa using hd)];simp only[jg,eC]
  split
  ·exact hx
  ·exact t.rep d
 ·rename_i hd0;rw[hd0];exact t.rep d
theorem cU.next{n:Nat}{T:Nat→AV}{a:Act}(t:cU Z ψ h w n T a)(g:Good Z ψ h w B0 O)(hn:Next Z ψ h w B0 O N Z' ψ' h' w')(hm:∀d,aM (fun i=>¬N i) (T d)):cU Z' ψ' h' w' n T a :=⟨fun d=>hn.rep g (hm d) (t.rep d),t.size,t.defers⟩
theorem q8{n:Nat}{s:List (Nat×AV)}{a:Act}(t:cU Z ψ h w n (look s) a)(x:Operand):aC Z ψ h w (ρ s x) (a.eval x):=by
 cases x with
 |tmp i=>exact t.rep i
 |const v=>exact Ho v
 |global g=>simp only[ρ,aC]
 |func f=>simp only[ρ,aC,aq,Act.eval];exact⟨#[],rfl,rfl⟩
theorem Bq(p:Nat→Prop)(v:Value):aM p (tL v):=by
 cases v with
 |agg cs=>simp only[tL,aM];exact wX p _
 |_=>simp only[tL];exact Bg p _
theorem N2{p:Nat→Prop}{s:List (Nat×AV)}(hm:∀d,aM p (look s d))(x:Operand):aM p (ρ s x):=by
 cases x with
 |tmp i=>exact hm i
 |const v=>exact Bq p v
 |global g=>simp only[ρ,aM]
 |func f=>simp only[ρ,aM,aG]
def mI(rid:Nat)(S:Nat→Prop)(id:Nat):Prop:=id / 32768=rid+1→S (id / 256%128)
def Of(rid i id:Nat):Prop:=id / 256=(rid+1)*128+i
theorem Of.parts{rid i id:Nat}(hi:i<128)(h:Of rid i id):id / 32768=rid+1∧id / 256%128=i:=by unfold Of at h;constructor<;>omega
theorem Of.of{rid i id:Nat}(h:id / 32768=rid+1)(hi:id / 256%128=i):Of rid i id:=by unfold Of;omega
theorem Md{rid i j:Nat}(hj:j<256):Of rid i (opId rid i+j):=by unfold Of opId;omega
theorem HO{rid i:Nat}:Of rid i (opId rid i):=by unfold Of opId;omega
theorem mI.Br{rid i id:Nat}{S:Nat→Prop}(hi:i<128)(hs:¬S i)(h:mI rid S id):¬Of rid i id:=fun ho=>by obtain⟨h1,h2⟩:=ho.parts hi;have:=h h1;rw[h2]at this;exact hs this
theorem ow{rid bits id:Nat}{S:Nat→Prop}(hb:∀j,bits.testBit j=true→S j)(h:qO rid bits id=true):mI rid S id:=fun h1=>by unfold qO at h;simp only[Bool.or_eq_true,bne_iff_ne,ne_eq]at h;exact hb _ (h.resolve_left (fun h2=>h2 h1))
mutual
theorem pP{rid bits:Nat}{S:Nat→Prop}(hb:∀j,bits.testBit j=true→S j):∀{v:AV},s6 rid bits v=true→aM (mI rid S) v
 |.ref id s i off,h=>by simp only[s6]at h;simp only[aM];exact ow hb h
 |.bK id,h=>by simp only[s6]at h;simp only[aM];exact ow hb h
 |.fn f cap,h=>by simp only[s6]at h;simp only[aM];exact ma hb h
 |.agg cs,h=>by simp only[s6]at h;simp only[aM];exact ma hb h
 |.nu cs,h=>by simp only[s6]at h;simp only[aM];exact ma hb h
 |.no,_=>by simp only[aM]
 |.bool _,_=>by simp only[aM]
 |.int _ _,_=>by simp only[aM]
 |.str _,_=>by simp only[aM]
 |.lf,_=>by simp only[aM]
 |.gh,_=>by simp only[aM]
 |.fp _ _ _,_=>by simp only[aM]
 |.sl _ _ _,_=>by simp only[aM]
 |.mp _ _ _,_=>by simp only[aM]
theorem ma{rid bits:Nat}{S:Nat→Prop}(hb:∀j,bits.testBit j=true→S j):∀{v:List AV},AP rid bits v=true→aG (mI rid S) v
 |[],_=>by simp only[aG]
 |v::r,h=>by simp only[AP,Bool.and_eq_true]at h;simp only[aG];exact⟨pP hb h.1,ma hb h.2⟩
end
theorem mb{rid bits:Nat}{S:Nat→Prop}(hb:∀j,bits.testBit j=true→S j):∀{hh:Heap},yq rid bits hh=true→∀id o,hh.get id=some o→mI rid S id∧∀ty cs,o=.box ty cs→aG (mI rid S) cs
 |[],_,id,o,hg=>by simp[Heap.get]at hg
 |(i,ob)::r,h,id,o,hg=>by
  simp only[Heap.get]at hg
  split at hg
  ·rename_i e;subst e
   cases hg
   cases ob with
   |box ty cs =>simp only[yq,Bool.and_eq_true]at h;exact⟨ow hb h.1.1,fun zr cs' he=>by cases he;exact ma hb h.1.2⟩
   |own ok xs =>simp only[yq,Bool.and_eq_true]at h;exact⟨ow hb h.1,fun zr cs' he=>by cases he⟩
  ·refine mb hb ?_ id o hg
   cases ob<;>simp only[yq,Bool.and_eq_true]at h<;>exact h.2
def bL.heap(e:bL)(h:Heap):Heap:=match e with
 |.wr _ h'=>h'
 |e=>e.h h
theorem bL.HP(e:bL)(hh:Heap):(e.heap hh).get=e.hp hh.get:=by
 cases e with
 |val v=>rfl
 |new v os=>funext i;simp only[bL.heap,bL.h,bL.hp];rw[Heap.get_append];cases Heap.get os i<;>rfl
 |wr v h'=>rfl
def tn(p:Nat→Prop)(h:Hp):Prop:=∀i ty cs,h i=some (.box ty cs)→aG p cs
theorem Bu{ops:Array Oper}{o:Oper}{n:Nat}{T:Nat→AV}{a:Act}(t:cU Z ψ h w n T a){j d:Nat}{want:Bool}(hg:o.guard=some (j,want))(hd:(ops[j]?).bind (·.dst)=some d){b:Bool}(hb:T d=.bool b) :
  Region.wanted o (yielded ops a.tmps)=(b==want):=by
 have h1:=t.rep d;rw[hb]at h1;simp only[aC]at h1;have h2:a.tmps[d]? = some (.bool b):=by
  rw[Array.getD_eq_getD_getElem?]at h1
  cases e:a.tmps[d]? with
  |none=>rw[e]at h1;simp[undef]at h1
  |some v=>rw[e]at h1;simpa using h1
 unfold Region.wanted yielded;rw[hg];simp only[hd,Option.bind_some,h2]
 cases b<;>cases want<;>rfl
theorem yR{ops:Array Oper}{o:Oper}{n:Nat}{T:Nat→AV}{a:Act}(t:cU Z ψ h w n T a){j d:Nat}{want:Bool}(hg:o.guard=some (j,want))(hd:(ops[j]?).bind (·.dst)=some d){vs:List AV}(hb:T d=.nu vs) :
  Region.wanted o (yielded ops a.tmps)=false:=by
 have h1:=t.rep d;rw[hb]at h1;simp only[aC]at h1;obtain⟨us,h1,_⟩:=h1;unfold Region.wanted yielded;rw[hg];simp only[hd,Option.bind_some];rw[Array.getD_eq_getD_getElem?]at h1
 cases e:a.tmps[d]? with
 |none=>rfl
 |some v=>rw[e]at h1;simp at h1;subst h1;rfl
def Bv(ops:Array Oper):Nat→List (Nat×Oper)→Prop
 |_,[]=>True
 |i,(j,o)::r=>j=i∧ops[i]? = some o∧Bv ops (i+1) r
theorem HQ(ops:Array Oper):∀(l:List Oper) (i:Nat),(∀k o,l[k]? = some o→ops[i+k]? = some o)→Bv ops i ((l.zipIdx i).map fun p=>(p.2,p.1))
 |[],_,_=>by simp[Bv]
 |o::r,i,h=>by simp only[List.zipIdx_cons,List.map_cons,Bv];exact⟨trivial,h 0 o rfl,HQ ops r (i+1) fun k o' hk=>by rw[Nat.add_assoc,Nat.add_comm 1 k];exact h (k+1) o' hk⟩
theorem ox(ops:Array Oper):Bv ops 0 (ops.toList.zipIdx.map fun p=>(p.2,p.1)):=HQ ops _ 0 fun k o hk=>by simpa using hk
theorem En(ops:Array Oper):(ops.toList.zipIdx.map fun p=>(p.2,p.1)).map Prod.fst=List.range ops.size:=by rw[List.map_map];have:(Prod.fst ∘ fun(p:Oper×Nat)=>(p.2,p.1))=Prod.snd:=rfl;rw[this,List.zipIdx_map_snd,List.range_eq_range',Array.length_toList]
structure J(p:Nat→Prop)(n:Nat)(Z0:Nat→Prop)(w0:World)(O:Nat→Prop)(ψ0:Nat→Value)(Z:Nat→Prop)(ψ:Nat→Value)(T:Nat→AV)(h:Hp)(a:Act)(w:World):Prop where
 ok:Ok Z0 w0 O ψ0 Z ψ h w
 tr:cU Z ψ h w n T a
 tm:∀d,aM p (T d)
 hm:tn p h
theorem J.imp{p q:Nat→Prop}{n:Nat}{T:Nat→AV}{a:Act}(j:J p n Z0 w0 O ψ0 Z ψ T h a w)(Bb:∀id,p id→q id):J q n Z0 w0 O ψ0 Z ψ T h a w :=⟨j.ok,j.tr,fun d=>(j.tm d).imp Bb,fun id ty cs hb=>(j.hm id ty cs hb).imp Bb⟩
theorem J.op(E:Env P Eqs Sg F){rid n i:Nat}{p:Nat→Prop}{T:Nat→AV}{a:Act}{s:List (Nat×AV)}{o:Oper}(hS:makes o.op=true→∀id,p id→¬Of rid i id)(j:J p n Z0 w0 O ψ0 Z ψ T h a w)(hd:iz n o=true) (hT:∀x∈o.op.operands,aC Z ψ h w (ρ s x) (a.eval x)) (hTm:∀x∈o.op.operands,aM p (ρ s x)) {hh:Heap} (bE:∀id o,hh.get id=some o→h id=some o) {e:bL} (he:cZ P Eqs Sg F (opId rid i) hh s o some=some e) (nT:∀v hw,e=.wr v hw→hh.get=h) {p':Nat→Prop} (PF:∀k,p k→p' k) (hv:aM p' e.v) (Yj:tn p' (e.hp h)) {next:Act→World→Prop} {Q:Exit→Act→World→Prop} (hk:∀a' w' Z' ψ',J p' n Z0 w0 O ψ0 Z' ψ' (jg T o.dst e.v) (e.hp h) a' w'→next a' w'):o.wp P a w next Q:=by
 have Yk:∀id,p id→¬(makes o.op=true∧Of rid i id):=fun id h ⟨h1,h2⟩=>hS h1 id h h2;refine WO (N:=fun id=>makes o.op=true∧Of rid i id) E j.ok.ed j.ok.size bE (id:=opId rid i) (fun hm k hk=>⟨hm,Md hk⟩) hT (fun x hx=>(hTm x hx).imp Yk) (fun id ty cs hb=>(j.hm id ty cs hb).imp Yk) nT he fun V w' Z' ψ' nx hr=>?_;refine hk _ w' Z' ψ' ⟨j.ok.next (fun id h=>by have:=h.2;unfold Of at this;omega) nx,(j.tr.next j.ok.ed nx (fun d=>(j.tm d).imp Yk)).put hd hr,fun d=>?_,Yj⟩
 cases kT:o.dst with
 |none=>exact(j.tm d).imp PF
 |some d0 =>
  simp only[jg,eC]
  split
  ·exact hv
  ·exact(j.tm d).imp PF
theorem J.skip{n:Nat}{p p':Nat→Prop}{T:Nat→AV}{a:Act}{o:Oper}(j:J p n Z0 w0 O ψ0 Z ψ T h a w)(hd:iz n o=true)(PF:∀k,p k→p' k) :
  J p' n Z0 w0 O ψ0 Z ψ (jg T o.dst (.nu [])) h (a.put o.dst undef) w:=by
 refine⟨j.ok,j.tr.put hd N1,fun d=>?_,fun id ty cs hb=>(j.hm id ty cs hb).imp PF⟩
 cases kT:o.dst with
 |none=>exact(j.tm d).imp PF
 |some d0 =>
  simp only[jg,eC]
  split
  ·simp only[aM,aG]
  ·exact(j.tm d).imp PF
theorem U6{hh:Heap}(g:Good Z ψ hh.get w B0 O){m:Nat}{kk vk:K}{es:List (kk.T×vk.T)}(hg:hh.get m=some (.own (.map kk vk) es))(n:Next Z ψ hh.get w B0 O N Z' ψ' h' w')(hzm:∀b,ob (ψ m)=some b→Z' b) (hold:∀b,b<w.heap.size→w'.heap[b]? = w.heap[b]?) {v:AV} {V:Value} (hm:aM (fun id=>¬N id) v) (hr:aC Z ψ hh.get w v V):aC Z' ψ' h' w' (zt m (.mp kk vk es) v) V:=by
 by_cases hv:v=.bK m
 ·subst hv;simp only[zt,if_true];simp only[aC]at hr;have hu:=hr.2 (by rw[hg];simp);obtain⟨r,b6,clock,h1,h2,h3,_⟩:=g.row m (.map kk vk) es hg;rw[h1]at hu;subst hu;have aF:=(aa3.1 h2).1;simp only[aC,aL];exact⟨some r,rfl,.inr ⟨r,b6,clock,rfl,hzm r (by rw[h1];rfl),(hold r aF).trans h2,h3.imp (fun _ _ h=>h.mono n.fV (fun b hb=>hold b (g.jP b hb))) (fun _ _ h=>h.mono n.fV (fun b hb=>hold b (g.jP b hb)))⟩⟩
 ·have hf:zt m (.mp kk vk es) v=v:=by
   unfold zt
   split
   ·split
    ·rename_i e;subst e;exact absurd rfl hv
    ·rfl
   ·rfl
  rw[hf];exact n.rep g hm hr
theorem QC{p:Nat→Prop}{m:Nat}{kk vk:K}{es:List (kk.T×vk.T)}{v:AV}(hm:aM p v):aM p (zt m (.mp kk vk es) v):=by
 unfold zt
 split
 ·split
  ·simp only[aM]
  ·exact hm
 ·exact hm
theorem sr(f:AV→AV)(hf:f .no=.no):∀(l:List (Nat×AV)) (d:Nat),look (l.map fun p=>(p.1,f p.2)) d=f (look l d)
 |[],_=>by simp only[List.map_nil,look];exact hf.symm
 |(i,v)::r,d=>by
  simp only[List.map_cons,look]
  split
  ·rfl
  ·exact sr f hf r d
theorem KF{rid n i:Nat}{p p':Nat→Prop}{st eQ:St}{a:Act}{o:Oper}(hS:∀id,p id→¬Of rid i id)(PF:∀k,p k→p' k)(Qo:p' (opId rid i))(j:J p n Z0 w0 O ψ0 Z ψ (look st.tmps) st.heap.get a w)(hd:iz n o=true)(oy:pj P (opId rid i) st o=some eQ) :
  ∃V w' Z' ψ',(execOp a.eval o).run P w=.ok (.value V) w'∧J p' n Z0 w0 O ψ0 Z' ψ' (look eQ.tmps) eQ.heap.get (a.put o.dst V) w':=by
 unfold pj at oy
 split at oy
 ·rename_i t x FK
  split at oy
  ·rename_i ka va m hu hx
   split at oy
   ·rename_i kk vk es hg
    cases oy
    have ZM:aC Z ψ st.heap.get w (.bK m) (a.eval x):=by rw[←hx];exact q8 j.tr x
    simp only[aC]at ZM;have hev:=ZM.2 (by rw[hg];simp);have g:=j.ok.ed;obtain⟨r,b6,clock,h1,h2,h3,h4,h5⟩:=g.row m (.map kk vk) es hg;rw[h1]at hev;have aF:=(aa3.1 h2).1;have gd:=iD g [.bK m];have aaP:∀b,ob (ψ m)=some b→qE Z ψ st.heap.get [.bK m] b:=fun b hb=>.inr ⟨m,by simp,by rw[hg];simp,hb⟩;have hold:∀b,b<w.heap.size→(w.alloc (.mapIter (some r) clock #[] clock)).heap[b]? = w.heap[b]? := fun b hb=>heap_alloc_old w _ hb;have hN:(Of rid i) (opId rid i):=HO;have n1:=A9 (N:=Of rid i) gd j.ok.size (opId rid i) hN (ok:=.iter kk vk) (x:=(none,es)) (v:=.pointer (some ⟨w.heap.size,0,none⟩)) (.mapIter (some r) clock #[] clock) ⟨w.heap.size,r,clock,#[],b6,clock,rfl,heap_alloc_new _ _,aaP r (by rw[h1];rfl),(hold r aF).trans h2,h4,rfl,h5,by rw[List.filter_eq_self.2 (fun e _=>by simp)];exact h3.imp (fun _ _ h=>h.mono (fun b hb=>.inl hb) (fun b hb=>hold b (g.jP b hb))) (fun _ _ h=>h.mono (fun b hb=>.inl hb) (fun b hb=>hold b (g.jP b hb))),trivial⟩ rfl (fun i' ty cs hb=>aG.imp (p:=p) (q:=fun i'=>i'≠opId rid i) (fun id hp e=>hS id hp (by rw[e];exact hN)) (j.hm i' ty cs (eu _ _ _ _ hb)));have n2:=n1.drop (Z:=Z) (h:=st.heap.get) (fun b hb=>.inl hb) (fun b hb=>hb.imp (fun h=>h) (fun⟨id,_,h5,h6⟩=>⟨id,h5,h6⟩)) (eu _ _);have fK:(eC (cO st.heap [.bK m]).get (opId rid i) (some (Ob.own (.iter kk vk) (none,es))))=Heap.get ((opId rid i,.own (.iter kk vk) (none,es))::st.heap.del m):=by
     funext k;simp only[cO,drop1,eC,Heap.get];by_cases e:k=opId rid i
     ·subst e;simp
     ·rw[if_neg e,if_neg (fun h=>e h.symm)]
    rw[fK]at n2;refine⟨.pointer (some ⟨w.heap.size,0,none⟩),w.alloc (.mapIter (some r) clock #[] clock),qE Z ψ st.heap.get [.bK m],eC ψ (opId rid i) (.pointer (some ⟨w.heap.size,0,none⟩)),?_,?_⟩
    ·obtain⟨dst,op,type,pos,after,guard⟩:=o;simp only at FK;subst FK;have dB:(Instr.range t (.map (some r))).run P w=.ok (.pointer (some ⟨w.heap.size,0,none⟩)) (w.alloc (.mapIter (some r) clock #[] clock)):=by simp only[Instr.range,Sem.run_bind,run_underlying hu,Result.andThen_ok,gq h2 (by simp),Sem.run_pure];rfl
     simp[execOp,hev,dB]
    ·have bz:∀d,aM (fun id=>¬Of rid i id) (look st.tmps d):=fun d=>(j.tm d).imp hS;refine⟨by rw[dm];exact j.ok.next (fun id h=>by unfold Of at h;omega) n2,?_,fun d=>?_,fun k ty cs hb=>?_⟩
     ·rw[ib,dm];refine cU.put ⟨fun d=>?_,j.tr.size,j.tr.defers⟩ hd ?_
      ·rw[sr _ rfl];exact U6 g hg n2 (fun b hb=>aaP b hb) hold (bz d) (j.tr.rep d)
      ·simp only[aC];exact⟨⟨rfl,rfl⟩,fun _=>(bA _ _ _).symm⟩
     ·rw[ib];have hb:aM p' (look (st.tmps.map fun q=>(q.1,zt m (.mp kk vk es) q.2)) d):=by rw[sr _ rfl];exact QC ((j.tm d).imp PF)
      cases kT:o.dst with
      |none=>exact hb
      |some d0 =>
       simp only[jg,eC]
       split
       ·simp only[aM];exact Qo
       ·exact hb
     ·rw[dm]at hb;simp only[Heap.get]at hb
      split at hb
      ·cases hb
      ·exact(j.hm k ty cs (Heap.uU hb).1).imp PF
   ·cases oy
  ·cases oy
 ·cases oy
theorem oz{R:Type}{n:Nat}{f:Nat→Option R}{r:R}(h:sW n f=some r):∀j,j<n→f j=some r:=by
 unfold sW at h
 split at h
 ·rename_i hx;cases h;exact Classical.choose_spec hx
 ·cases h
theorem nc{R:Type}{n:Nat}{f:Nat→Option R}{r:R}(hn:0<n)(h:∀j,j<n→f j=some r):sW n f=some r:=by unfold sW;have hx:∃r,∀j,j<n→f j=some r:=⟨r,h⟩;rw[dif_pos hx];have:=Classical.choose_spec hx 0 hn;rw[h 0 hn]at this;exact this.symm
theorem Next.drawn{d:Nat}(n:Next Z ψ h { w with drawn:=d } B0 O N Z' ψ' h' w'):Next Z ψ h w B0 O N Z' ψ' h' w' :=⟨n.fV,n.eR,⟨n.keep.os,n.keep.tape,n.keep.output,n.keep.size,n.keep.block⟩,n.ids,n.ed⟩
theorem Good.drawn{d:Nat}(g:Good Z ψ h w B0 O):Good Z ψ h { w with drawn:=d } B0 O:=by
 have sm:cz Z w ({ w with drawn:=d }:World):=fun _ _=>rfl;refine⟨fun id ty cs hb=>?_,fun id ok xs hb=>?_,g.live,g.apart,g.jP⟩
 ·obtain⟨gg,vs,h1,h2,h3,h4⟩:=g.box id ty cs hb;exact⟨gg,vs,h1,h2,h3.less (fun _ h=>h) sm (fun i hi=>⟨hi,rfl⟩),h4⟩
 ·exact(g.row id ok xs hb).kept (fun _ h=>h) sm (fun gg _=>rfl)
theorem filter_push{l:List MapEntry}(h:l.Pairwise (fun a b=>a.born≠b.born)){seen:Array Nat}{j:Nat}{e:MapEntry}(he:(l.filter fun e => !seen.contains e.born)[j]? = some e) :
  l.filter (fun x => !(seen.push e.born).contains x.born)=(l.filter fun e => !seen.contains e.born).eraseIdx j:=by
 have h2:(l.filter fun e => !seen.contains e.born).Pairwise (fun a b=>a.born≠b.born):=h.sublist List.filter_sublist;rw[←ChangeMaps.filter_eq_eraseIdx (fun x=>x.born==e.born) _ j e he (by simp) (h2.imp fun {a b} bw hc=>bw (by simp only[beq_iff_eq]at hc;omega))];rw[List.filter_filter];congr 1;funext x;simp only[Array.contains_push]
 cases seen.contains x.born<;>cases x.born==e.born<;>rfl
theorem KG{R:Type}{hh:Heap}(g:Good Z ψ hh.get w B0 O){x:AV}{u:Value}{ty:TypeId}(hx:aC Z ψ hh.get w x u){kk:AV→Heap→Option R}{r:R}(he:lh hh x kk=some r) :
  ∃v h' V w',(Instr.next u false ty).run P w=.ok V w'∧Next Z ψ hh.get w B0 O N Z ψ h'.get w'∧aC Z ψ h'.get w' v V∧kk v h'=some r∧(∀p,aM p v)∧∀i ty cs,h'.get i=some (.box ty cs)→hh.get i=some (.box ty cs):=by
 unfold lh at he
 split at he
 ·rename_i id
  split at he
  ·rename_i kk1 vk pp hg;simp only[aC]at hx;have hu:=hx.2 (by rw[hg];simp);obtain⟨b,m,since,seen,b6,clock,h1,h2,h3,h4,h5,h6,h7,h8,h9⟩:=g.row id (.iter kk1 vk) pp hg;rw[h1]at hu;subst hu;subst h6;have aF:=(aa3.1 h2).1;have WQ:(leftOf b6 seen).toList=b6.toList.filter fun e => !seen.contains e.born:=by unfold leftOf;simp
   have hlen:pp.2.length=(leftOf b6 seen).size:=by rw[h8.1,←WQ,Array.length_toList]
   rcases run_next_at (P:=P) w ty b m since since seen b6 since h2 h4 h7 (ada _) with⟨nG,dB⟩|⟨e,gY,w1,KH,dB⟩
   ·have NU:pp.2.isEmpty=true:=by rw[List.isEmpty_iff];exact adn (by rw[hlen,nG])
    rw[NU]at he;simp only[cond_true]at he;exact⟨_,hh,_,w,dB,Next.refl g,by simp only[aC,aq];exact⟨_,rfl,_,_,rfl,rfl,rfl⟩,he,fun p=>by simp only[aM,aG];exact⟨trivial,trivial⟩,fun _ _ _ h=>h⟩
   ·obtain⟨k,hk,hke⟩:=List.mem_iff_getElem.1 gY;have o5:k<pp.2.length:=by rw[hlen,←Array.length_toList];exact hk
    have NU:pp.2.isEmpty=false:=by
     cases hl:pp.2 with
     |nil=>rw[hl]at o5;simp at o5
     |cons _ _=>rfl
    rw[NU]at he;simp only[cond_false]at he;have hj:=oz he k o5;rw[List.getElem?_eq_getElem o5,Option.bind_some]at hj;have Yl:(b6.toList.filter fun e => !seen.contains e.born)[k]? = some e:=by rw[←WQ,List.getElem?_eq_getElem hk,hke]
    have Fw:=h8.2 k _ e (aaV o5) Yl;obtain⟨⟨k1,k2,k3⟩,v1,v2,v3⟩:=Fw;have afT:e∈b6.toList:=(aeL.1 (ac7 Yl)).1;have gd1:Good Z ψ hh.get w1 B0 O:=by rcases KH with rfl|rfl;exact g;exact g.drawn
    have FL:w1.heap=w.heap:=by rcases KH with rfl|rfl<;>rfl
    have hmb:m≠b:=fun hmb=>by subst hmb;exact(g.live id m (by rw[hg];simp) (by rw[h1];rfl)).1 h3
    have n1:=sd (N:=N) gd1 (id:=id) (by rw[hg];simp) (r:=b) (by rw[h1];rfl) (by rw[FL];exact aF) (.mapIter (some m) since (seen.push e.born) since) (ok:=.iter kk1 vk) (x:=(some pp.2[k],pp.2.eraseIdx k)) (fun w' Kq sm=>by
     have ZN:cz Z w w':=fun c hc=>(sm c hc).trans (by rw[FL]);refine⟨b,m,since,seen.push e.born,b6,since,h1,by rw[Kq,FL];simp[aF],h3,?_,h5,rfl,h7,?_,?_⟩
     ·rw[Kq,FL,wV _ (fun e=>hmb e.symm)];exact h4
     ·rw[filter_push h5 Yl];exact(kl.erase h8 k).mono (fun _ h=>h) ZN
     ·refine⟨e,afT,by simp,⟨rfl,fun q y e' nG zw=>?_⟩⟩
      cases q with
      |zero=>cases nG;cases zw;exact⟨⟨k1.mono (fun _ h=>h) ZN,k2,k3⟩,v1.mono (fun _ h=>h) ZN,v2,v3⟩
      |succ q=>simp at nG)
    have n2:Next Z ψ hh.get w B0 O N Z ψ (eC hh.get id (some (.own (.iter kk1 vk) (some pp.2[k],pp.2.eraseIdx k)))) { w1 with heap:=w1.heap.setIfInBounds b (.mapIter (some m) since (seen.push e.born) since) }:=by
     rcases KH with rfl|rfl
     ·exact n1
     ·exact n1.drawn
    refine⟨_,hh.set id (.own (.iter kk1 vk) (some pp.2[k],pp.2.eraseIdx k)),_,_,dB,by rw[mS];exact n2,?_,hj,fun p=>?_,fun i ty cs hb=>?_⟩
    ·have ZN:cz Z w ({ w1 with heap:=w1.heap.setIfInBounds b (.mapIter (some m) since (seen.push e.born) since) }:World):=n2.same g;simp only[aC,aq];exact⟨_,rfl,_,_,rfl,rfl,_,_,rfl,lQ (k1.mono (fun _ h=>h) ZN) k2 k3,_,_,rfl,lQ (v1.mono (fun _ h=>h) ZN) v2 v3,rfl⟩
    ·simp only[aM,aG];exact⟨trivial,ou _ _ _,ou _ _ _,trivial⟩
    ·rw[mS]at hb;unfold eC at hb
     split at hb
     ·cases hb
     ·exact hb
  ·cases he
 ·cases he
theorem HR(op:BinOp)(t:TypeId)(a b:Operand)(x y:Option Addr)(n m c d:Nat):(eqGuard op t a b (.slice x n c) (.slice y m d)).run P w=.ok () w:=by cases op<;>simp[eqGuard]
theorem DJ{t e:TypeId}(ht:P.underlying t=some (.slice e))(a:Option Addr)(n c:Nat):(Op.equal t (.slice a n c) (.slice none 0 0)).run P w=.ok a.isNone w:=by
 have key:∀d,(Op.equalIn (d+1) t (.slice a n c) (.slice none 0 0)).run P w=.ok a.isNone w:=fun d=>by cases a<;>simp[Op.equalIn,run_underlying ht]
 exact key 9999
theorem KI{o:Oper}{x:Operand}{want:Bool}(h:isNil P o=some (x,want)):∃op t v t' e,o.op=.binOp op t x (.const v) t'∧P.underlying t=some (.slice e)∧v=.slice none 0 0∧((op=.eql∧want=true)∨(op=.neq∧want=false)):=by
 unfold isNil at h
 split at h
 ·rename_i op t x' v t' FK;have hv:∀v:Value,wJ v=.gh→v=.slice none 0 0:=fun v hv=>by
   unfold wJ at hv
   split at hv<;>try (first|cases hv|(split at hv<;>cases hv);done)
   all_goals (split at hv<;>first|cases hv|skip)
   ·rename_i hc;obtain⟨rfl,rfl,rfl⟩:=hc;rfl
   all_goals (split at hv<;>cases hv)
  split at h
  ·rename_i e h1 h2 h3;cases h;exact⟨_,_,_,_,_,FK,h2,hv _ h3,.inl ⟨rfl,rfl⟩⟩
  ·rename_i e h1 h2 h3;cases h;exact⟨_,_,_,_,_,FK,h2,hv _ h3,.inr ⟨rfl,rfl⟩⟩
  ·cases h
 ·cases h
theorem QD{R:Type}{hh:Heap}(g:Good Z ψ hh.get w B0 O){x:AV}{u:Value}{op:BinOp}{t e:TypeId}(xo yo:Operand)(hx:aC Z ψ hh.get w x u)(ht:P.underlying t=some (.slice e)){want:Bool}(ho:(op=.eql∧want=true)∨(op=.neq∧want=false)){kk:AV→Option R}{r:R}(he:uS hh x want kk=some r) :
  ∃c:Bool,((eqGuard op t xo yo u (.slice none 0 0)).run P w=.ok () w∧(binOp op t u (.slice none 0 0)).run P w=.ok (.bool c) w)∧kk (.bool c)=some r:=by
 have run:∀(a:Option Addr) (n c:Nat),(eqGuard op t xo yo (.slice a n c) (.slice none 0 0)).run P w=.ok () w∧(binOp op t (.slice a n c) (.slice none 0 0)).run P w=.ok (.bool (a.isNone==want)) w:=fun a n c=>by refine⟨HR _ _ _ _ _ _ _ _ _ _,?_⟩;rcases ho with⟨rfl,rfl⟩|⟨rfl,rfl⟩<;>simp only[Sem.run_bind,Result.andThen_ok,binOp,DJ ht,Sem.run_pure]<;>cases a.isNone<;>rfl
 have fin:∀(n:Nat) (a:Option Addr) (c:Nat) (xs:Bool),(a=none→xs=true)→cond xs (sW 2 fun j=>kk (.bool ((j==0)==want))) (kk (.bool (!want)))=some r → ∃c':Bool,((eqGuard op t xo yo (.slice a n c) (.slice none 0 0)).run P w=.ok () w∧(binOp op t (.slice a n c) (.slice none 0 0)).run P w=.ok (.bool c') w)∧kk (.bool c')=some r:=fun n a c xs yy h=>by
  refine⟨_,run a n c,?_⟩
  cases xs with
  |true =>
   simp only[cond_true]at h
   cases a with
   |none=>exact oz h 0 (by decide)
   |some a=>exact oz h 1 (by decide)
  |false =>
   simp only[cond_false]at h
   cases a with
   |none=>cases yy rfl
   |some a=>cases want<;>exact h
 unfold uS at he
 split at he
 ·rename_i hv;have hxn:x=.gh:=by
   cases x<;>simp only[cQ]at hv<;>try cases hv
   ·rfl
   ·split at hv<;>cases hv
  subst hxn;simp only[aC]at hx;subst hx;exact⟨_,run none 0 0,by cases want<;>exact he⟩
 ·rename_i ex k xs hv
  cases x with
  |sl ex' k' xs' =>
   simp only[cQ]at hv
   cases hv
   simp only[aC,aL]at hx;obtain⟨⟨v,hv,A,c,rfl,h1,h2,_⟩,_⟩:=hx
   cases hv
   refine fin _ A c _ (fun hA=>?_) he;have:=h2 hA;rw[List.isEmpty_iff];exact adn (by omega)
  |bK id =>
   simp only[cQ]at hv;simp only[aC]at hx
   split at hv
   ·rename_i hg
    cases hv
    have hu:=hx.2 (by rw[hg];simp);obtain⟨vs,⟨_,h1⟩,_⟩:=g.row id _ _ hg;rw[←hu]at h1;rcases h1 with⟨h1,A,rfl⟩|⟨gg,cap,cur,rfl,_⟩
    ·exact fin _ A 0 _ (fun _=>List.isEmpty_iff.2 (adn h1)) he
    ·exact fin _ _ _ _ (fun h=>by cases h) he
   ·cases hv
   ·cases hv
  |_=>simp only[cQ]at hv<;>cases hv
 ·cases he
theorem Bw{draw:Bool}{rid:Nat}{ops:Array Oper}{b:Array Nat}{i Kd:Nat}{e:bL}{S:Nat→Prop}{hh:Heap}(hm:tn (mI rid S) h)(ha:∀j,Kd.testBit j=true→S j)(he:gS draw rid ops b i Kd e=true) :
  aM (mI rid fun k=>S k∨k=i) e.v∧tn (mI rid fun k=>S k∨k=i) (e.hp h):=by
 have Hi:∀j,(Kd ||| 2 ^ i).testBit j=true→S j∨j=i:=fun j hj=>by
  rw[Nat.testBit_or,Bool.or_eq_true]at hj;rcases hj with hj|hj
  ·exact .inl (ha j hj)
  ·rw[Nat.testBit_two_pow]at hj;exact .inr (by simpa using hj:i=j).symm
 have up:tn (mI rid fun k=>S k∨k=i) h:=fun id ty cs hb=>(hm id ty cs hb).imp (fun id h1 h2=>.inl (h1 h2))
 cases e with
 |val v=>exact⟨pP (fun j hj=>.inl (ha j hj)) he,up⟩
 |new v os =>
  simp only[gS,Bool.and_eq_true]at he;refine⟨pP Hi he.1.1,fun id ty cs hb=>?_⟩;simp only[bL.hp]at hb
  split at hb
  ·rename_i o ho
   cases hb
   exact(mb Hi he.2 _ _ ho).2 _ _ rfl
  ·exact up id ty cs hb
 |wr v h' =>simp only[gS,Bool.and_eq_true]at he;exact⟨pP Hi he.1.2,fun id ty cs hb=>(mb Hi he.2 _ _ hb).2 _ _ rfl⟩
theorem DK{i j:Nat}(h:(2 ^ i-1).testBit j=true):j<i:=by rw[Nat.testBit_two_pow_sub_one]at h;simpa using h
def w9(mk:Bool)(rid i id:Nat):Prop:=mk=true→mI rid (fun k=>k<i) id
theorem lB(E:Env P Eqs Sg F){rid n:Nat}{ops:Array Oper}{b:Array Nat}(mk:Bool)(QE:mk=false→∀(i:Nat) (o:Oper),ops[i]? = some o→makes o.op=false)(hn:ops.size≤128)(kT:∀(i:Nat) (o:Oper),ops[i]? = some o→iz n o=true){kk:St→Option R}{r:R}{Q:Exit→Act→World→Prop} (hQ:∀eQ Z ψ a w,kk eQ=some r→Ok Z0 w0 O ψ0 Z ψ eQ.heap.get w→cU Z ψ eQ.heap.get w n (look eQ.tmps) a→Q .normal a w) :
  ∀(l:List (Nat×Oper)) (i:Nat) (st:St) (Z:Nat→Prop) (ψ:Nat→Value) (a:Act) (w:World),Bv ops i l→bG P Eqs Sg F rid false ops b l st kk=some r → J (w9 mk rid i) n Z0 w0 O ψ0 Z ψ (look st.tmps) st.heap.get a w→wpOps P ops Q (l.map Prod.fst) a w
 |[],i,st,Z,ψ,a,w,_,hx,j=>hQ st Z ψ a w hx j.ok j.tr
 |(i',o)::l,i,st,Z,ψ,a,w,hl,hx,j=>by
  obtain⟨rfl,ho,hl⟩:=hl;have hi:i'<128:=aeA (aa3.1 ho).1 hn;have Up:=kT i' o ho;have ih:=lB E (rid:=rid) (b:=b) mk QE hn kT hQ l (i'+1);have up:∀id,w9 mk rid i' id→w9 mk rid (i'+1) id:=fun id h hm hr=>Nat.lt_succ_of_lt (h hm hr);have runs:∀iG:St,look iG.tmps=look st.tmps→iG.heap=st.heap→Region.wanted o (yielded ops a.tmps)=true →(match pj P (opId rid i') iG o with
    |some eQ=>bG P Eqs Sg F rid false ops b l eQ kk
    |none=>match uR o with
    |some x=>lh iG.heap (ρ iG.tmps x) fun v h=>bG P Eqs Sg F rid false ops b l (({ iG with heap:=h }:St).put o.dst v) kk
    |none=>match isNil P o with
    |some (x,want)=>uS iG.heap (ρ iG.tmps x) want fun v=>bG P Eqs Sg F rid false ops b l (iG.put o.dst v) kk
    |none=>cZ P Eqs Sg F (opId rid i') iG.heap iG.tmps o fun e=>if gS false rid ops b i' (2 ^ i' - 1) e then bG P Eqs Sg F rid false ops b l ({ iG with heap:=match e with | .wr _ h=>h|e=>e.h iG.heap }.put o.dst e.v) kk else none)=some r →
    wpOps P ops Q (((i',o)::l).map Prod.fst) a w:=by
   intro iG h1 h2 hw hx
   split at hx
   ·rename_i eQ oy;simp only[List.map_cons,wpOps,ho,hw,if_true];refine .inl ?_;have aaQ:makes o.op=true:=by
     unfold pj at oy
     split at oy
     ·rename_i FK;rw[FK];rfl
     ·cases oy
    have afV:mk=true:=by
     cases N3:mk with
     |true=>rfl
     |false=>rw[QE N3 i' o ho]at aaQ;cases aaQ
    have j1:J (w9 mk rid i') n Z0 w0 O ψ0 Z ψ (look iG.tmps) iG.heap.get a w:=by rw[h1,h2];exact j
    obtain⟨V,w',Z',ψ',dB,j'⟩:=KF (P:=P) (p':=w9 mk rid (i'+1)) (fun id hp nK=>by obtain⟨h3,h4⟩:=nK.parts hi;have:=hp afV h3;rw[h4]at this;exact Nat.lt_irrefl _ this) up (fun _ h3=>by have:=((HO (rid:=rid) (i:=i')).parts hi).2;rw[this];exact Nat.lt_succ_self _) j1 Up oy;unfold Oper.wp;rw[dB];exact ih eQ Z' ψ' _ w' hl hx j'
   split at hx
   ·rename_i x Eo;simp only[List.map_cons,wpOps,ho,hw,if_true];refine .inl ?_;have FK:o.op=.next x false:=by
     unfold uR at Eo
     split at Eo
     ·rename_i FK;cases Eo;exact FK
     ·cases Eo
    have ZM:aC Z ψ iG.heap.get w (ρ iG.tmps x) (a.eval x):=q8 (by rw[h1,h2];exact j.tr) x;have g1:Good Z ψ iG.heap.get w w0.heap.size O:=by rw[h2];exact j.ok.ed
    obtain⟨v,h',V,w',dB,nx,hr,UN,X7,qz⟩:=KG (P:=P) (N:=fun _=>False) (ty:=o.type) g1 ZM hx;have QF:(execOp a.eval o).run P w=.ok (.value V) w':=by obtain⟨dst,op,type,pos,after,guard⟩:=o;simp only at FK;subst FK;simp only at dB;simp[execOp,dB]
    unfold Oper.wp;rw[QF];refine ih _ Z ψ _ w' hl UN ?_;rw[ib,dm];have j1:J (w9 mk rid i') n Z0 w0 O ψ0 Z ψ (look iG.tmps) iG.heap.get a w:=by rw[h1,h2];exact j
    refine⟨j1.ok.next (fun id h=>h.elim) nx,(j1.tr.next g1 nx (fun d=>(j1.tm d).imp fun _ _ h=>h)).put Up hr,fun d=>?_,fun k ty cs hb=>(j1.hm k ty cs (qz k ty cs hb)).imp up⟩
    cases kT:o.dst with
    |none=>exact(j1.tm d).imp up
    |some d0 =>
     simp only[jg,eC]
     split
     ·exact X7 _
     ·exact(j1.tm d).imp up
   split at hx
   ·rename_i x want hnl;obtain⟨op,t,v,t',et,FK,ht,rfl,q9⟩:=KI hnl;simp only[List.map_cons,wpOps,ho,hw,if_true];refine .inl ?_;have ZM:aC Z ψ iG.heap.get w (ρ iG.tmps x) (a.eval x):=q8 (by rw[h1,h2];exact j.tr) x;have g1:Good Z ψ iG.heap.get w w0.heap.size O:=by rw[h2];exact j.ok.ed
    obtain⟨c,dB,UN⟩:=QD (P:=P) g1 x (.const (.slice none 0 0)) ZM ht q9 hx;have QF:(execOp a.eval o).run P w=.ok (.value (.bool c)) w:=by obtain⟨dst,op',type,pos,after,guard⟩:=o;simp only at FK;subst FK;have e1:a.eval (.const (.slice none 0 0))=.slice none 0 0:=rfl;simp[execOp,e1,dB.1,dB.2]
    unfold Oper.wp;rw[QF];refine ih _ Z ψ _ w hl UN ?_;rw[ib,dm];have j1:J (w9 mk rid i') n Z0 w0 O ψ0 Z ψ (look iG.tmps) iG.heap.get a w:=by rw[h1,h2];exact j
    refine⟨j1.ok,j1.tr.put Up (by simp only[aC]),fun d=>?_,fun k ty cs hb=>(j1.hm k ty cs hb).imp up⟩
    cases kT:o.dst with
    |none=>exact(j1.tm d).imp up
    |some d0 =>
     simp only[jg,eC]
     split
     ·simp only[aM]
     ·exact(j1.tm d).imp up
   rw[lA]at hx;obtain⟨e,he,hx⟩:=adH.1 hx
   split at hx
   ·rename_i lT;simp only[List.map_cons,wpOps,ho,hw,if_true];refine .inl ?_;have hh:iG.heap.get=st.heap.get:=by rw[h2]
    have oy:aM (w9 mk rid (i'+1)) e.v∧tn (w9 mk rid (i'+1)) (e.hp st.heap.get):=by
     cases N3:mk with
     |false =>have ht:w9 false rid (i'+1)=fun _=>True:=funext fun id=>propext ⟨fun _=>trivial,fun _ h=>by cases h⟩;rw[ht];exact⟨aM.top _,fun _ _ cs _=>aG.top cs⟩
     |true =>
      have US:tn (mI rid fun k=>k<i') st.heap.get:=fun id ty cs hb=>(j.hm id ty cs hb).imp fun id h1=>h1 N3;have h3:=Bw (hh:=iG.heap) US (fun k hk=>DK hk) lT;have hS:∀k,(k<i'∨k=i')→k<i'+1:=fun k hk=>by omega
      exact⟨h3.1.imp fun id h1 _ h2=>hS _ (h1 h2),fun id ty cs hb=>(h3.2 id ty cs hb).imp fun id h1 _ h2=>hS _ (h1 h2)⟩
    refine J.op E (p:=w9 mk rid i') (p':=w9 mk rid (i'+1)) (rid:=rid) (i:=i') (s:=iG.tmps) (fun hm id hp nK => ?_) j Up (fun x _=>q8 (by rw[h1];exact j.tr) x) (fun x _=>N2 (by rw[h1];exact j.tm) x) (fun id o hg=>by rw[hh]at hg;exact hg) he (fun _ _ _=>hh) up oy.1 oy.2 fun a' w' Z' ψ' j' => ?_
    ·cases N3:mk with
     |false=>rw[QE N3 i' o ho]at hm;cases hm
     |true =>obtain⟨h3,h4⟩:=nK.parts hi;have:=hp N3 h3;rw[h4]at this;exact Nat.lt_irrefl _ this
    refine ih _ Z' ψ' a' w' hl hx ?_;rw[ib,dm];have j2:J (w9 mk rid (i'+1)) n Z0 w0 O ψ0 Z' ψ' (jg (look iG.tmps) o.dst e.v) (bL.heap e iG.heap).get a' w':=by rw[bL.HP,h1,h2];exact j'
    exact j2
   ·cases hx
  have vj:∀iG:St,look iG.tmps=look st.tmps→iG.heap=st.heap→Region.wanted o (yielded ops a.tmps)=false → bG P Eqs Sg F rid false ops b l (iG.put o.dst (.nu [])) kk=some r→wpOps P ops Q (((i',o)::l).map Prod.fst) a w:=by intro iG h1 h2 hw hx;simp only[List.map_cons,wpOps,ho,hw,Bool.false_eq_true,if_false];refine ih _ Z ψ _ w hl hx ?_;rw[ib,dm,h1,h2];exact j.skip Up up
  rw[bG]at hx;simp only[Bool.false_eq_true,if_false]at hx
  split at hx
  ·rename_i hg;exact runs st rfl rfl (by simp[Region.wanted,hg]) hx
  ·rename_i jj want hg
   split at hx
   ·cases hx
   ·rename_i d hd
    split at hx
    ·rename_i t ht;have hw:=Bu j.tr hg hd ht;have hp:∀b,t=b→look (st.put (some d) (.bool b)).tmps=look st.tmps:=fun b hb=>by subst hb;rw[ib];exact Em ht
     cases t<;>simp only[cond_true,cond_false]at hx<;>split at hx<;>rename_i q9
     ·exact vj _ (hp false rfl) (dm _ _ _) (by rw[hw];simp[q9]) hx
     ·exact runs _ (hp false rfl) (dm _ _ _) (by rw[hw];simp[q9]) hx
     ·exact runs _ (hp true rfl) (dm _ _ _) (by rw[hw];simp[q9]) hx
     ·exact vj _ (hp true rfl) (dm _ _ _) (by rw[hw];simp[q9]) hx
    ·rename_i vs ht;exact vj st rfl rfl (yR j.tr hg hd ht) hx
    ·cases hx
theorem kx(hp h:Heap)(i:Nat):∀(ft:List Nat),(fm ft hp h).get i=if i∈ft then(match hp.get i with|some o=>some o|none=>h.get i) else h.get i
 |[]=>by simp[fm]
 |j::r=>by
  have ih:=kx hp h i r;unfold fm at ih ⊢
  cases hj:hp.get j with
  |none =>
   rw[List.filterMap_cons,hj];simp only[Option.map_none];rw[ih];by_cases e:i=j
   ·subst e;simp[hj]
   ·simp[e]
  |some o =>
   rw[List.filterMap_cons,hj];simp only[Option.map_some,List.cons_append,Heap.get];rw[ih];by_cases e:j=i
   ·subst e;simp[hj]
   ·have e':¬i=j:=fun h=>e h.symm;simp[e,e']
mutual
theorem yS{ft:List Nat}:∀{v:AV},qP ft v=true→aM (fun i=>i∉ft) v
 |.ref id _ _ _,h=>by simp only[aM];simpa[qP] using h
 |.bK id,h=>by simp only[aM];simpa[qP] using h
 |.fn _ cap,h=>by simp only[aM];exact ky (by simpa only[qP] using h)
 |.agg cs,h=>by simp only[aM];exact ky (by simpa only[qP] using h)
 |.nu vs,h=>by simp only[aM];exact ky (by simpa only[qP] using h)
 |.no,_=>by simp only[aM]
 |.bool _,_=>by simp only[aM]
 |.int _ _,_=>by simp only[aM]
 |.str _,_=>by simp only[aM]
 |.lf,_=>by simp only[aM]
 |.gh,_=>by simp only[aM]
 |.fp _ _ _,_=>by simp only[aM]
 |.sl _ _ _,_=>by simp only[aM]
 |.mp _ _ _,_=>by simp only[aM]
theorem ky{ft:List Nat}:∀{l:List AV},tO ft l=true→aG (fun i=>i∉ft) l
 |[],_=>by simp only[aG]
 |v::r,h=>by simp only[tO,Bool.and_eq_true]at h;simp only[aG];exact⟨yS h.1,ky h.2⟩
end
theorem kz{ft:List Nat}:∀{hh:Heap},tP ft hh=true→∀i o,hh.get i=some o→i∉ft∧∀ty cs,o=.box ty cs→aG (fun i=>i∉ft) cs
 |[],_,i,o,h=>by simp[Heap.get]at h
 |(j,.box ty cs)::r,hc,i,o,h=>by
  simp only[tP,Bool.and_eq_true]at hc;simp only[Heap.get]at h
  split at h
  ·rename_i e;subst e;cases h;exact⟨by simpa using hc.1,fun ty cs e=>by cases e;exact ky hc.2.1⟩
  ·exact kz hc.2.2 i o h
 |(j,.own ok x)::r,hc,i,o,h=>by
  simp only[tP,Bool.and_eq_true]at hc;simp only[Heap.get]at h
  split at h
  ·rename_i e;subst e;cases h;exact⟨by simpa using hc.1,fun ty cs e=>by cases e⟩
  ·exact kz hc.2 i o h
theorem Next.frame{hp h1:Heap}{ft:List Nat}(g:Good Z ψ hp.get w B0 O)(hB:B0≤w.heap.size)(bz:∀i ty cs,hp.get i=some (.box ty cs)→aG (fun i=>¬N i) cs) (n:Next Z ψ (g8 hp ft).get w w.heap.size (Own ψ (g8 hp ft).get) N Z' ψ' h1.get w') (hc:tP ft h1=true) :
  ∃eg,Next Z ψ hp.get w B0 O N Z' eg (fm ft hp h1).get w'∧∀i,i∉ft→eg i=ψ' i:=by
 classical
 have gd:∀i,(g8 hp ft).get i=if i∈ft then none else hp.get i:=fun i=>ov ft hp i
 have bE:∀b,Own ψ (g8 hp ft).get b→Own ψ hp.get b:=fun b ⟨i,h1,h2⟩=>⟨i,by rw[gd]at h1;split at h1;exact absurd rfl h1;exact h1,h2⟩;have qX:∀i,i∈ft→h1.get i=none:=fun i hi=>by
  cases e:h1.get i with
  |none=>rfl
  |some o=>exact absurd hi (kz hc i o e).1
 have gf:∀i,(fm ft hp h1).get i=if i∈ft then hp.get i else h1.get i:=fun i=>by
  rw[kx];by_cases hi:i∈ft
  ·rw[if_pos hi,if_pos hi,qX i hi];cases hp.get i<;>rfl
  ·rw[if_neg hi,if_neg hi]
 let eg:Nat→Value:=fun i=>if i∈ft then ψ i else ψ' i
 have p1:∀i,i∈ft→eg i=ψ i:=fun i hi=>if_pos hi;have p2:∀i,i∉ft→eg i=ψ' i:=fun i hi=>if_neg hi;have apart:∀i b,i∈ft→hp.get i≠none→ob (ψ i)=some b→¬Own ψ (g8 hp ft).get b:=fun i b hi h2 h3 ⟨j,h4,h5⟩=>by
  rw[gd]at h4
  split at h4
  ·exact h4 rfl
  ·rename_i hj;have:=g.apart i j b h2 h4 h3 h5;subst this;exact hj hi
 have cW:∀i b,i∈ft→hp.get i≠none→ob (ψ i)=some b→w'.heap[b]? = w.heap[b]? := fun i b hi h2 h3 =>n.keep.block b (g.bT ⟨i,h2,h3⟩) (apart i b hi h2 h3);have keep:dh ψ hp.get w w':=⟨n.keep.os,n.keep.tape,n.keep.output,n.keep.size,fun b hb hn=>n.keep.block b hb fun ho=>hn (bE b ho)⟩;have sm:cz Z w w':=keep.same g;have ids:∀i,(fm ft hp h1).get i≠none→(hp.get i≠none∧eg i=ψ i)∨N i:=fun i hi=>by
  rw[gf]at hi;by_cases hf:i∈ft
  ·rw[if_pos hf]at hi;exact .inl ⟨hi,p1 i hf⟩
  ·rw[if_neg hf]at hi;rcases n.ids i hi with⟨h2,h3⟩|h2
   ·rw[gd,if_neg hf]at h2;exact .inl ⟨h2,(p2 i hf).trans h3⟩
   ·exact .inr h2
 have nz:∀i b,i∈ft→hp.get i≠none→ob (ψ i)=some b→¬Z' b:=fun i b hi h2 h3 hz=>by
  rcases n.eR b hz with h4|h4|h4
  ·exact(g.live i b h2 h3).1 h4
  ·exact apart i b hi h2 h3 h4
  ·have:=g.bT ⟨i,h2,h3⟩;omega
 refine⟨eg,⟨n.fV,fun b hb=>(n.eR b hb).imp (fun h=>h) (fun h=>h.imp (bE b) fun h=>h),keep,ids,⟨fun i ty cs hb=>?_,fun i ok x hb=>?_,fun i b h2 h3=>?_,fun i j b h2 h3 h4 h5=>?_,n.ed.jP⟩⟩,p2⟩
 ·rw[gf]at hb;by_cases hf:i∈ft
  ·rw[if_pos hf]at hb;obtain⟨gg,vs,e1,e2,e3,e4⟩:=g.box i ty cs hb;refine⟨gg,vs,by rw[p1 i hf,e1],(cW i gg hf (by rw[hb];simp) (by rw[e1];rfl)).trans e2,e3.move n.fV sm (fun j hj bw=>(ids j bw).resolve_right hj) (bz i ty cs hb),e4⟩
  ·rw[if_neg hf]at hb;obtain⟨gg,vs,e1,e2,e3,e4⟩:=n.ed.box i ty cs hb;refine⟨gg,vs,by rw[p2 i hf,e1],e2,e3.move (fun _ h=>h) (cz.refl _ _) (fun j hj bw=>?_) ((kz hc i _ hb).2 ty cs rfl),e4⟩;rw[gf,if_neg hj]at bw;exact⟨bw,p2 j hj⟩
 ·rw[gf]at hb;by_cases hf:i∈ft
  ·rw[if_pos hf]at hb;rw[p1 i hf];exact(g.row i ok x hb).kept n.fV sm (fun b mH=>cW i b hf (by rw[hb];simp) mH)
  ·rw[if_neg hf]at hb;rw[p2 i hf];exact n.ed.row i ok x hb
 ·rw[gf]at h2;by_cases hf:i∈ft
  ·rw[if_pos hf]at h2;rw[p1 i hf]at h3;exact⟨nz i b hf h2 h3,(g.live i b h2 h3).2⟩
  ·rw[if_neg hf]at h2;rw[p2 i hf]at h3;obtain⟨h4,h5⟩:=n.ed.live i b h2 h3;refine⟨h4,h5.elim (fun h=>.inl (adC hB h)) fun h=>?_⟩;obtain⟨j,h6,h7⟩:=bE b h;exact(g.live j b h6 h7).2
 ·have mixed:∀i j b,i∈ft→j∉ft→(fm ft hp h1).get i≠none→(fm ft hp h1).get j≠none→ob (eg i)=some b→ob (eg j)=some b→False:=fun i j b hi hj h2 h3 h4 h5=>by
   rw[gf,if_pos hi]at h2;rw[gf,if_neg hj]at h3;rw[p1 i hi]at h4;rw[p2 j hj]at h5;rcases (n.ed.live j b h3 h5).2 with h6|h6
   ·have:=g.bT ⟨i,h2,h4⟩;omega
   ·exact apart i b hi h2 h4 h6
  by_cases hi:i∈ft<;>by_cases hj:j∈ft
  ·rw[gf,if_pos hi]at h2;rw[gf,if_pos hj]at h3;rw[p1 i hi]at h4;rw[p1 j hj]at h5;exact g.apart i j b h2 h3 h4 h5
  ·exact(mixed i j b hi hj h2 h3 h4 h5).elim
  ·exact(mixed j i b hj hi h3 h2 h5 h4).elim
  ·rw[gf,if_neg hi]at h2;rw[gf,if_neg hj]at h3;rw[p2 i hi]at h4;rw[p2 j hj]at h5;exact n.ed.apart i j b h2 h3 h4 h5
theorem J.opF(E:Env P Eqs Sg F){rid n i:Nat}{p:Nat→Prop}{T:Nat→AV}{a:Act}{s:List (Nat×AV)}{o:Oper}(hS:makes o.op=true→∀id,p id→¬Of rid i id){hp h1:Heap}{v:AV}{ft:List Nat}(j:J p n Z0 w0 O ψ0 Z ψ T hp.get a w)(hd:iz n o=true) (hT:∀x∈o.op.operands,aC Z ψ hp.get w (ρ s x) (a.eval x)) (hTm:∀x∈o.op.operands,aM p (ρ s x)) (he:cZ P Eqs Sg F (opId rid i) (g8 hp ft) s o some=some (.wr v h1)) (hc:lO ft (.wr v h1)=true) {p':Nat→Prop} (PF:∀k,p k→p' k) (hv:aM p' v) (Yj:tn p' (fm ft hp h1).get) {next:Act→World→Prop} {Q:Exit→Act→World→Prop} (hk:∀a' w' Z' ψ',J p' n Z0 w0 O ψ0 Z' ψ' (jg T o.dst v) (fm ft hp h1).get a' w'→next a' w'):o.wp P a w next Q:=by
 have Yk:∀id,p id→¬(makes o.op=true∧Of rid i id):=fun id h ⟨h1,h2⟩=>hS h1 id h h2;simp only[lO,Bool.and_eq_true]at hc;have bE:∀id o,(g8 hp ft).get id=some o→hp.get id=some o:=fun id o h=>by rw[ov]at h;split at h;cases h;exact h
 have bw:∀id,(g8 hp ft).get id≠none→hp.get id≠none:=fun id h=>by obtain⟨o,ho⟩:=acx.1 h;rw[bE id o ho];simp
 have bz:∀i' ty cs,hp.get i'=some (.box ty cs)→aG (fun id=>¬(makes o.op=true∧Of rid i id)) cs:=fun id ty cs hb=>(j.hm id ty cs hb).imp Yk;have gs:Good Z ψ (g8 hp ft).get w w.heap.size (Own ψ (g8 hp ft).get):=(j.ok.ed.sub bE).FG _;refine WO (N:=fun id=>makes o.op=true∧Of rid i id) E gs (ada _) (fun _ _ h=>h) (id:=opId rid i) (fun hm k hk=>⟨hm,Md hk⟩) (fun x hx=>(hT x hx).qA bE) (fun x hx=>(hTm x hx).imp Yk) (fun id ty cs hb=>bz id ty cs (bE _ _ hb)) (fun _ _ _=>rfl) he fun V w' Z' ψ' nx hr=>?_;obtain⟨eg,n2,h2⟩:=Next.frame j.ok.ed j.ok.size bz nx hc.2;have WR:aC Z' eg (fm ft hp h1).get w' v V:=hr.move (p:=fun i=>i∉ft) (fun _ h=>h) (cz.refl _ _) (fun k hk bw=>by rw[kx,if_neg hk]at bw;exact⟨bw,h2 k hk⟩) (yS hc.1);refine hk _ w' Z' eg ⟨j.ok.next (fun id h=>by have:=h.2;unfold Of at this;omega) n2,(j.tr.next j.ok.ed n2 (fun d=>(j.tm d).imp Yk)).put hd WR,fun d=>?_,Yj⟩
 cases kT:o.dst with
 |none=>exact(j.tm d).imp PF
 |some d0 =>
  simp only[jg,eC]
  split
  ·exact hv
  ·exact(j.tm d).imp PF
end Go.Vs
namespace Go.Vs
variable {P:Program} {Eqs:TypeId→Option K} {Sg:FuncId→Option aS} {F:(f:FuncId)→(g:aS)→g.A→Option g.B} {R:Type}
variable {Z Z' Z0:Nat→Prop} {ψ ψ':Nat→Value} {h h':Hp} {w w' w0:World} {B0:Nat} {O N:Nat→Prop}
variable {rid n:Nat} {ops:Array Oper} {b:Array Nat}
def ss(b:Array Nat)(i j:Nat):Prop:=(b.getD i 0).testBit j=true
theorem Ep(b:Array Nat)(j:Nat):∀(l:List Edge) (s:Nat),(l.foldl (fun s e=>if Region.binds .any e then s ||| 2 ^ e.on ||| b.getD e.on 0 else s) s).testBit j=true ↔
  s.testBit j=true∨∃e∈l,Region.binds .any e=true∧(j=e.on∨ss b e.on j)
 |[],s=>by simp
 |e::l,s=>by
  rw[List.foldl_cons,Ep b j l];by_cases hb:Region.binds .any e=true
  ·rw[if_pos hb];have h2:(2 ^ e.on).testBit j=true↔j=e.on:=by rw[Nat.testBit_two_pow];simp[eq_comm]
   simp only[Nat.testBit_or,Bool.or_eq_true,h2,List.mem_cons,exists_eq_or_imp,hb,true_and,ss];constructor
   ·rintro(((h|h)|h)|h)
    ·exact .inl h
    ·exact .inr (.inl (.inl h))
    ·exact .inr (.inl (.inr h))
    ·exact .inr (.inr h)
   ·rintro(h|(h|h)|h)
    ·exact .inl (.inl (.inl h))
    ·exact .inl (.inl (.inr h))
    ·exact .inl (.inr h)
    ·exact .inr h
  ·rw[if_neg hb];simp[hb]
theorem Ac(hb:uQ ops b=true){i j:Nat}{o:Oper}(ho:ops[i]? = some o):ss b i j↔∃e∈o.after.toList,Region.binds .any e=true∧(j=e.on∨ss b e.on j):=by have aF:=(aa3.1 ho).1;have h1:=adG.1 hb i (adP.2 aF);rw[ho]at h1;simp only[Bool.and_eq_true,beq_iff_eq]at h1;unfold ss;rw[h1.2,Ep];simp[ss]
theorem KJ(hb:uQ ops b=true){i:Nat}{o:Oper}(ho:ops[i]? = some o){e:Edge}(he:e∈o.after.toList)(NQ:Region.binds .any e=true):e.on<i:=by have aF:=(aa3.1 ho).1;have h1:=adG.1 hb i (adP.2 aF);rw[ho]at h1;simp only[Bool.and_eq_true]at h1;have:=adG.1 h1.1 e he;simpa[NQ] using this
theorem Bx(hb:uQ ops b=true):∀(i j:Nat),i<ops.size→ss b i j→j<i:=by
 intro i
 induction i using Nat.strongRecOn with
 |ind i ih =>
  intro j hi h;obtain⟨e,he,NQ,h1⟩:=(Ac hb (adv hi)).1 h;have Ym:=KJ hb (adv hi) he NQ;rcases h1 with rfl|h1
  ·exact Ym
  ·exact Nat.lt_trans (ih e.on Ym j (by omega) h1) Ym
theorem Er(hb:uQ ops b=true):∀(i j k:Nat),i<ops.size→ss b i j→ss b j k→ss b i k:=by
 intro i
 induction i using Nat.strongRecOn with
 |ind i ih =>
  intro j k hi h h';obtain⟨e,he,NQ,h1⟩:=(Ac hb (adv hi)).1 h;have Ym:=KJ hb (adv hi) he NQ;refine(Ac hb (adv hi)).2 ⟨e,he,NQ,?_⟩;rcases h1 with rfl|h1
  ·exact .inr h'
  ·exact .inr (ih e.on Ym j k (by omega) h1 h')
theorem get_filter(f:Nat→Bool):∀(hh:Heap) (i:Nat),Heap.get (hh.filter fun p=>f p.1) i=if f i then hh.get i else none
 |[],i=>by simp[Heap.get]
 |(j,o)::r,i=>by
  rw[List.filter_cons]
  split
  ·rename_i hj;simp only[Heap.get];by_cases e:j=i
   ·subst e;simp only at hj;simp[hj]
   ·simp only[if_neg e];exact get_filter f r i
  ·rename_i hj;rw[get_filter f r i];simp only[Heap.get];by_cases e:j=i
   ·subst e;simp only at hj;simp[hj]
   ·simp only[if_neg e]
theorem N4(rid Kd:Nat)(hh:Heap)(id:Nat):(ahead rid Kd hh).get id=if qO rid Kd id then hh.get id else none:=by unfold ahead;exact get_filter (fun i=>qO rid Kd i) hh id
theorem QG(ft:List Nat)(hp:Heap)(e:bL):(gX ft hp e).v=e.v:=by cases e<;>rfl
theorem HS{id:Nat}{hh:Heap}{s:List (Nat×AV)}{o:Oper}{x:Operand}{e:bL}(hl:gV o.op=some x)(he:cZ P Eqs Sg F id hh s o some=some e):∃v,e=.val v:=by
 obtain⟨dst,op,type,pos,after,guard⟩:=o
 cases op<;>simp only[gV]at hl<;>first|(cases hl;done)|skip
 case load t a =>
  simp only[cZ,lN]at he
  repeat' (first|(cases he;done)|exact⟨_,(acv he).symm⟩|split at he)
  all_goals
   obtain⟨y,_,he⟩:=adH.1 he
   split at he<;>first|(cases he;done)|exact⟨_,(acv he).symm⟩
 case indexAddr t a i =>
  simp only[cZ,dE]at he
  repeat' (first|(cases he;done)|exact⟨_,(acv he).symm⟩|split at he)
  all_goals first
   |(obtain⟨y,_,he⟩:=adH.1 he;exact⟨_,(acv he).symm⟩)
   |(unfold cond at he;split at he<;>first|(cases he;done)|exact⟨_,(acv he).symm⟩)
theorem xc{op:Op}{x:Operand}(hl:gV op=some x):nD op=false∧zQ op=false:=by cases op<;>simp only[gV]at hl<;>first|(cases hl;done)|exact⟨rfl,rfl⟩
theorem KK{id:Nat}{hh h2:Heap}{s:List (Nat×AV)}{o:Oper}{x:Operand}(hl:gV o.op=some x)(hg:∀i∈qp (ρ s x),h2.get i=hh.get i):cZ P Eqs Sg F id h2 s o some=cZ P Eqs Sg F id hh s o some:=by
 obtain⟨dst,op,type,pos,after,guard⟩:=o
 cases op<;>simp only[gV]at hl<;>first|(cases hl;done)|skip
 case load t a =>
  cases hl
  simp only[cZ,lN]
  cases hv:ρ s x with
  |ref i s' j off=>rw[hv]at hg;simp only[qp,List.mem_singleton,forall_eq]at hg;simp only[hg]
  |_=>rfl
 case indexAddr t a i =>
  cases hl
  simp only[cZ,dE]
  cases ym P t with
  |none=>rfl
  |some e =>
   simp only[]
   cases hv:ρ s x with
   |bK k =>
    rw[hv]at hg;have A4:=hg k (by simp[qp])
    cases ρ s i<;>first|rfl|simp only[A4]
   |sl ex k xs=>cases ρ s i<;>rfl
   |_=>rfl
def qu(ops:Array Oper)(T:Nat→AV)(o:Oper)(t:Bool):Prop :=match o.guard with
 |none=>t=true
 |some (j,want)=>∃d,(ops[j]?).bind (·.dst)=some d∧((∃u,T d=.bool u∧(u==want)=t)∨(∃vs,T d=.nu vs∧t=false))
def By(P:Program)(Eqs:TypeId→Option K)(Sg:FuncId→Option aS)(F:(f:FuncId)→(g:aS)→g.A→Option g.B)(rid:Nat)(ops:Array Oper)(b:Array Nat)(T:Nat→Nat→AV)(H:Nat→Hp)(E:Nat→Option bL)(k:Nat)(o:Oper):Prop :=(∃e s hh,E k=some e∧look s=T k∧(∀id,Heap.get hh id=if qO rid (b.getD k 0) id then H k id else none)∧(∃e0,cZ P Eqs Sg F (opId rid k) (g8 hh (gW ops b k s o)) s o some=some e0∧e=gX (gW ops b k s o) hh e0∧lO (gW ops b k s o) e0=true) ∧
  gS true rid ops b k (b.getD k 0) e=true∧qu ops (T k) o true∧T (k+1)=jg (T k) o.dst e.v∧H (k+1)=e.hp (H k)) ∨
 (E k=none∧qu ops (T k) o false∧T (k+1)=jg (T k) o.dst (.nu [])∧H (k+1)=H k)
theorem trace{kk:St→Option R}{r:R}:∀(l:List (Nat×Oper)) (i:Nat) (st:St),Bv ops i l→l.length=ops.size-i→bG P Eqs Sg F rid true ops b l st kk=some r → ∃(T:Nat→Nat→AV) (H:Nat→Hp) (E:Nat→Option bL),T i=look st.tmps∧H i=st.heap.get∧(∀k o,i≤k→ops[k]? = some o→By P Eqs Sg F rid ops b T H E k o) ∧ ∃eQ,kk eQ=some r∧look eQ.tmps=T (max i ops.size)∧eQ.heap.get=H (max i ops.size)
 |[],i,st,_,hlen,hx=>by
  have WK:ops.size≤i:=by simp at hlen;omega
  refine⟨fun _=>look st.tmps,fun _=>st.heap.get,fun _=>none,rfl,rfl,fun k o hk ho=>?_,st,hx,rfl,rfl⟩;have:=(aa3.1 ho).1;omega
 |(i',o)::l,i,st,hl,hlen,hx=>by
  obtain⟨rfl,ho,hl⟩:=hl;have aF:=(aa3.1 ho).1;have ih:=trace (kk:=kk) (r:=r) l (i'+1);have aaS:l.length=ops.size-(i'+1):=by simp at hlen;omega
  have glue:∀(eQ:St) (oe:Option bL),bG P Eqs Sg F rid true ops b l eQ kk=some r →(∀T H E,T i'=look st.tmps→H i'=st.heap.get→E i'=oe→T (i'+1)=look eQ.tmps→H (i'+1)=eQ.heap.get→By P Eqs Sg F rid ops b T H E i' o) → ∃(T:Nat→Nat→AV) (H:Nat→Hp) (E:Nat→Option bL),T i'=look st.tmps∧H i'=st.heap.get∧(∀k o,i'≤k→ops[k]? = some o→By P Eqs Sg F rid ops b T H E k o) ∧ ∃eQ,kk eQ=some r∧look eQ.tmps=T (max i' ops.size)∧eQ.heap.get=H (max i' ops.size):=by
   intro eQ oe hx' uW;obtain⟨T,H,E,h1,h2,h3,afW,h4,h5,h6⟩:=ih eQ hl aaS hx';refine⟨fun k=>if k≤i' then look st.tmps else T k,fun k=>if k≤i' then st.heap.get else H k,fun k=>if k=i' then oe else E k,by simp,by simp,fun k o' hk nK => ?_,afW,h4,?_,?_⟩
   ·by_cases hki:k=i'
    ·subst hki;rw[ho]at nK
     cases nK
     exact uW _ _ _ (by simp) (by simp) (by simp) (by show(if k+1≤k then _ else _)=_;rw[if_neg (by omega)];exact h1) (by show(if k+1≤k then _ else _)=_;rw[if_neg (by omega)];exact h2)
    ·have h7:=h3 k o' (by omega) nK;unfold By at h7 ⊢;simp only[show ¬k≤i' by omega,show ¬k+1≤i' by omega,hki,if_false];exact h7
   ·rw[h5];simp only[show max (i'+1) ops.size=ops.size by omega,show max i' ops.size=ops.size by omega,show ¬ops.size≤i' by omega,if_false]
   ·rw[h6];simp only[show max (i'+1) ops.size=ops.size by omega,show max i' ops.size=ops.size by omega,show ¬ops.size≤i' by omega,if_false]
  have runs:∀iG:St,look iG.tmps=look st.tmps→iG.heap=st.heap→qu ops (look st.tmps) o true →(cZ P Eqs Sg F (opId rid i') (g8 (ahead rid (b.getD i' 0) iG.heap) (gW ops b i' iG.tmps o)) iG.tmps o fun e=>if(gS true rid ops b i' (b.getD i' 0) (gX (gW ops b i' iG.tmps o) (ahead rid (b.getD i' 0) iG.heap) e)&&lO (gW ops b i' iG.tmps o) e)=true then bG P Eqs Sg F rid true ops b l ({ iG with heap:=match gX (gW ops b i' iG.tmps o) (ahead rid (b.getD i' 0) iG.heap) e with | .wr _ h=>h|e=>e.h iG.heap }.put o.dst e.v) kk else none)=some r →
    ∃(T:Nat→Nat→AV) (H:Nat→Hp) (E:Nat→Option bL),T i'=look st.tmps∧H i'=st.heap.get∧(∀k o,i'≤k→ops[k]? = some o→By P Eqs Sg F rid ops b T H E k o) ∧ ∃eQ,kk eQ=some r∧look eQ.tmps=T (max i' ops.size)∧eQ.heap.get=H (max i' ops.size):=by
   intro iG h1 h2 hw hx;rw[lA]at hx;obtain⟨e,he,hx⟩:=adH.1 hx
   split at hx
   ·rename_i lT;rw[Bool.and_eq_true]at lT;generalize Ad:gX (gW ops b i' iG.tmps o) (ahead rid (b.getD i' 0) iG.heap) e=e1 at hx lT;have ti:e.v=e1.v:=by rw[←Ad];exact(QG _ _ _).symm
    refine glue _ (some e1) hx fun T H E hT hH hE hT' Yd => ?_;refine .inl ⟨e1,iG.tmps,_,hE,by rw[hT,h1],fun id=>by rw[N4,hH,h2],⟨e,he,Ad.symm,lT.2⟩,lT.1,by rw[hT];exact hw,?_,?_⟩
    ·rw[hT',ib,hT,ti];simp only[h1]
    ·rw[Yd,dm,hH];have:(bL.heap e1 iG.heap).get=e1.hp st.heap.get:=by rw[bL.HP,h2]
     exact this
   ·cases hx
  have vj:∀iG:St,look iG.tmps=look st.tmps→iG.heap=st.heap→qu ops (look st.tmps) o false → bG P Eqs Sg F rid true ops b l (iG.put o.dst (.nu [])) kk=some r → ∃(T:Nat→Nat→AV) (H:Nat→Hp) (E:Nat→Option bL),T i'=look st.tmps∧H i'=st.heap.get∧(∀k o,i'≤k→ops[k]? = some o→By P Eqs Sg F rid ops b T H E k o) ∧ ∃eQ,kk eQ=some r∧look eQ.tmps=T (max i' ops.size)∧eQ.heap.get=H (max i' ops.size):=by
   intro iG h1 h2 hw hx;refine glue _ none hx fun T H E hT hH hE hT' Yd=>.inr ⟨hE,by rw[hT];exact hw,?_,?_⟩
   ·rw[hT',ib,hT,h1]
   ·rw[Yd,dm,hH,h2]
  rw[bG]at hx;simp only[if_true]at hx
  split at hx
  ·rename_i hg;exact runs st rfl rfl (by simp[qu,hg]) hx
  ·rename_i jj want hg
   split at hx
   ·cases hx
   ·rename_i d hd
    split at hx
    ·rename_i t ht;have hp:∀b,t=b→look (st.put (some d) (.bool b)).tmps=look st.tmps:=fun b hb=>by subst hb;rw[ib];exact Em ht
     have hw:∀c,(t==want)=c→qu ops (look st.tmps) o c:=fun c hc=>by unfold qu;rw[hg];exact⟨d,hd,.inl ⟨t,ht,hc⟩⟩
     cases t<;>simp only[cond_true,cond_false]at hx<;>split at hx<;>rename_i q9
     ·exact vj _ (hp false rfl) (dm _ _ _) (hw _ (by simp[q9])) hx
     ·exact runs _ (hp false rfl) (dm _ _ _) (hw _ (by simp[q9])) hx
     ·exact runs _ (hp true rfl) (dm _ _ _) (hw _ (by simp[q9])) hx
     ·exact vj _ (hp true rfl) (dm _ _ _) (hw _ (by simp[q9])) hx
    ·rename_i vs ht;exact vj st rfl rfl (by unfold qu;rw[hg];exact⟨d,hd,.inr ⟨vs,ht,rfl⟩⟩) hx
    ·cases hx
def Nf(ops:Array Oper)(j:Nat):Prop:=∃o,ops[j]? = some o∧nD o.op=false∧gV o.op=none
def Ae(E:Nat→Option bL)(k:Nat):Prop:=∃v h',E k=some (.wr v h')
def ZO(E:Nat→Option bL)(k:Nat):Prop:=∃v os,E k=some (.new v os)
theorem vl{α:Type}(f:α→Option Nat):∀(l:List α),ck (l.filterMap f)=true→∀(i j:Nat) (x y:α) (d:Nat),l[i]? = some x→l[j]? = some y→f x=some d→f y=some d→i=j
 |[],_,i,j,x,y,d,hi,_,_,_=>by simp at hi
 |a::r,hn,i,j,x,y,d,hi,hj,hx,hy=>by
  have gY:∀(k:Nat) (z:α),r[k]? = some z→f z=some d→d∈r.filterMap f:=fun k z hk hz=>ae3.2 ⟨z,ac7 hk,hz⟩;have hr:ck (r.filterMap f)=true∧∀c,f a=some c→c∉r.filterMap f:=by
   rw[List.filterMap_cons]at hn
   split at hn
   ·rename_i h0;exact⟨hn,fun c hc=>by rw[h0]at hc;cases hc⟩
   ·rename_i c h0;simp only[ck,Bool.and_eq_true,Bool.not_eq_true']at hn;refine⟨hn.2,fun c' hc=>?_⟩;rw[h0]at hc;cases hc;intro hm;rw[List.contains_iff_mem.2 hm]at hn;simp at hn
  cases i with
  |zero =>
   cases j with
   |zero=>rfl
   |succ j =>simp only[List.getElem?_cons_zero,Option.some.injEq]at hi;subst hi;exact absurd (gY j y (by simpa using hj) hy) (hr.2 d hx)
  |succ i =>
   cases j with
   |zero =>simp only[List.getElem?_cons_zero,Option.some.injEq]at hj;subst hj;exact absurd (gY i x (by simpa using hi) hx) (hr.2 d hy)
   |succ j=>rw[vl f r hr.1 i j x y d (by simpa using hi) (by simpa using hj) hx hy]
structure Dr(P:Program)(Eqs:TypeId→Option K)(Sg:FuncId→Option aS)(F:(f:FuncId)→(g:aS)→g.A→Option g.B)(rid n:Nat)(ops:Array Oper)(b:Array Nat)(T:Nat→Nat→AV)(H:Nat→Hp)(E:Nat→Option bL):Prop where
 size:ops.size≤128
 PH:uQ ops b=true
 pair:AO ops b=true
 afY:∀(i:Nat) (o:Oper),ops[i]? = some o→iz n o=true
 nodup:ck (ops.toList.filterMap (·.dst))=true
 step:∀k o,ops[k]? = some o→By P Eqs Sg F rid ops b T H E k o
 afZ:∀id,H 0 id≠none→id / 32768≠rid+1
section
variable {T:Nat→Nat→AV} {H:Nat→Hp} {E:Nat→Option bL}
theorem Dr.Af(D:Dr P Eqs Sg F rid n ops b T H E){i j:Nat}{x y:Oper}{d:Nat}(hi:ops[i]? = some x)(hj:ops[j]? = some y)(hx:x.dst=some d)(hy:y.dst=some d):i=j :=vl (·.dst) ops.toList D.nodup i j x y d (by simpa using hi) (by simpa using hj) hx hy
theorem Dr.WS(D:Dr P Eqs Sg F rid n ops b T H E){i j:Nat}{x y:Oper}(hi:ops[i]? = some x)(hj:ops[j]? = some y)(zY:i<j):ss b j i∨x.apart ops y=true:=by have h1:=adG.1 D.pair j (adP.2 (aa3.1 hj).1);have h2:=adG.1 h1 i (adP.2 zY);rw[hi,hj]at h2;simp only[Bool.or_eq_true,Bool.and_eq_true]at h2;exact h2
theorem Dr.U7(D:Dr P Eqs Sg F rid n ops b T H E){k:Nat}{o:Oper}(ho:ops[k]? = some o){e:bL}(he:E k=some e) :
  ∃s hh,look s=T k∧(∀id,Heap.get hh id=if qO rid (b.getD k 0) id then H k id else none)∧(∃e0,cZ P Eqs Sg F (opId rid k) (g8 hh (gW ops b k s o)) s o some=some e0∧e=gX (gW ops b k s o) hh e0∧lO (gW ops b k s o) e0=true) ∧
   gS true rid ops b k (b.getD k 0) e=true∧qu ops (T k) o true∧T (k+1)=jg (T k) o.dst e.v∧H (k+1)=e.hp (H k):=by
 rcases D.step k o ho with⟨e',s,hh,h1,h2⟩|⟨h1,_⟩
 ·rw[he]at h1;cases h1;exact⟨s,hh,h2⟩
 ·rw[he]at h1;cases h1
theorem Dr.FM(D:Dr P Eqs Sg F rid n ops b T H E){k:Nat}{o:Oper}(ho:ops[k]? = some o)(he:E k=none) :
  qu ops (T k) o false∧T (k+1)=jg (T k) o.dst (.nu [])∧H (k+1)=H k:=by
 rcases D.step k o ho with⟨e',s,hh,h1,h2⟩|⟨h1,h2⟩
 ·rw[he]at h1;cases h1
 ·exact h2
theorem Dr.xd(D:Dr P Eqs Sg F rid n ops b T H E){k:Nat}(hk:k<ops.size)(h:ZO E k):Nf ops k:=by
 obtain⟨v,os,he⟩:=h;obtain⟨s,hh,_,_,⟨e0,h3,WG,_⟩,_⟩:=D.U7 (adv hk) he;refine⟨_,adv hk,?_,?_⟩
 ·cases hf:nD (ops[k]).op with
  |false=>rfl
  |true=>obtain⟨v',rfl⟩:=HL hf h3;cases WG
 ·cases hf:gV (ops[k]).op with
  |none=>rfl
  |some x=>obtain⟨v',rfl⟩:=HS hf h3;cases WG
theorem Dr.QH(D:Dr P Eqs Sg F rid n ops b T H E){k:Nat}(hk:k<ops.size)(h:Ae E k):Nf ops k:=by
 obtain⟨v,os,he⟩:=h;obtain⟨s,hh,_,_,⟨e0,h3,WG,_⟩,_⟩:=D.U7 (adv hk) he;refine⟨_,adv hk,?_,?_⟩
 ·cases hf:nD (ops[k]).op with
  |false=>rfl
  |true=>obtain⟨v',rfl⟩:=HL hf h3;cases WG
 ·cases hf:gV (ops[k]).op with
  |none=>rfl
  |some x=>obtain⟨v',rfl⟩:=HS hf h3;cases WG
theorem Dr.Bz(D:Dr P Eqs Sg F rid n ops b T H E){k j:Nat}(hk:k<ops.size)(h:Ae E k)(hj:Nf ops j)(bw:j≠k):(j<k∧ss b k j)∨(k<j∧ss b j k):=by
 obtain⟨v,os,he⟩:=h;obtain⟨s,hh,_,_,_,h4,_⟩:=D.U7 (adv hk) he;obtain⟨o,ho,hf,PE⟩:=hj;have J0:=(aa3.1 ho).1;simp only[gS,Bool.and_eq_true]at h4;have h5:Kc ops b k=true:=by simpa using h4.1.1
 have h6:=adG.1 h5 j (adP.2 J0);have hlf:og ops k j=false:=by unfold og;rw[ho];simp only[Option.bind_some,PE]
 rw[hlf,ho]at h6;simp only[PE,Option.isSome_none,Bool.and_false,Bool.or_false]at h6;simp only[Bool.or_eq_true,beq_iff_eq,hf,Bool.false_eq_true,or_false]at h6;rcases h6 with(h6|h6)|h6
 ·exact absurd h6 bw
 ·exact .inr ⟨Bx D.PH j k J0 h6,h6⟩
 ·exact .inl ⟨Bx D.PH k j hk h6,h6⟩
theorem Dr.BA(D:Dr P Eqs Sg F rid n ops b T H E){p:Nat}:∀(q:Nat),p≤q→q≤ops.size→∀id,(∀k,p≤k→k<q→Ae E k→H (k+1) id=H k id)→(∀k,p≤k→k<q→ZO E k→¬Of rid k id)→H q id=H p id:=by
 intro q
 induction q with
 |zero=>intro Bb _ id _ _;rw[Nat.le_zero.1 Bb]
 |succ q ih =>
  intro Bb hq id hw bR;by_cases he:p=q+1
  ·rw[he]
  ·have h1:=ih (by omega) (by omega) id (fun k h1 h2=>hw k h1 (by omega)) (fun k h1 h2=>bR k h1 (by omega));rw[←h1];have ho:=adv (show q<ops.size by omega)
   cases hE:E q with
   |none=>rw[(D.FM ho hE).2.2]
   |some e =>
    obtain⟨s,hh,_,_,_,h4,_,_,h7⟩:=D.U7 ho hE
    cases e with
    |val v=>rw[h7];rfl
    |wr v h'=>exact hw q (by omega) (by omega) ⟨v,h',hE⟩
    |new v os =>
     rw[h7];simp only[bL.hp]
     cases PC:Heap.get os id with
     |none=>rfl
     |some o' =>
      exfalso;simp only[gS,Bool.and_eq_true]at h4;refine bR q (by omega) (by omega) ⟨v,os,hE⟩ ?_;have:∀(l:Heap),(l.all fun p=>p.1 / 256==(rid+1)*128+q)=true→∀o',l.get id=some o'→Of rid q id:=by
       intro l
       induction l with
       |nil=>intro _ o' h;simp[Heap.get]at h
       |cons a r ihl =>
        intro eZ o' hg;simp only[List.all_cons,Bool.and_eq_true,beq_iff_eq]at eZ;simp only[Heap.get]at hg
        split at hg
        ·rename_i e;rw[←e];exact eZ.1
        ·exact ihl eZ.2 o' hg
      exact this os h4.1.2 o' PC
theorem Dr.Ag(D:Dr P Eqs Sg F rid n ops b T H E){p:Nat}(q:Nat)(Bb:p≤q)(hq:q≤ops.size)(hw:∀k,p≤k→k<q→¬Ae E k)(id:Nat)(hn:∀k,p≤k→k<q→ZO E k→¬Of rid k id):H q id=H p id :=D.BA q Bb hq id (fun k h1 h2 h3=>absurd h3 (hw k h1 h2)) hn
theorem Dr.names(D:Dr P Eqs Sg F rid n ops b T H E):∀(k:Nat),k≤ops.size→∀id,H k id≠none→id / 32768=rid+1→∃j,Of rid j id∧j<k∧j<128∧(ZO E j∨∃w,w<k∧Ae E w∧(j=w∨ss b w j)):=by
 intro k
 induction k with
 |zero=>intro _ id h1 h2;exact absurd h2 (D.afZ id h1)
 |succ k ih =>
  intro hk id h1 h2;have aF:k<ops.size:=by omega
  have up:H k id≠none→∃j,Of rid j id∧j<k+1∧j<128∧(ZO E j∨∃w,w<k+1∧Ae E w∧(j=w∨ss b w j)):=fun h=>by obtain⟨j,h3,h4,h4',h5⟩:=ih (by omega) id h h2;exact⟨j,h3,by omega,h4',h5.imp (fun h=>h) fun⟨w,h6,h7⟩=>⟨w,by omega,h7⟩⟩
  have ho:=adv aF;have QI:=D.size
  cases hE:E k with
  |none=>rw[(D.FM ho hE).2.2]at h1;exact up h1
  |some e =>
   obtain⟨s,hh,_,_,_,h4,_,_,h7⟩:=D.U7 ho hE;rw[h7]at h1
   cases e with
   |val v=>exact up h1
   |wr v h' =>
    obtain⟨o',nK⟩:=acx.1 h1;simp only[gS,Bool.and_eq_true]at h4;have h5:(b.getD k 0 ||| 2 ^ k).testBit (id / 256%128)=true:=(mb (S:=fun j=>(b.getD k 0 ||| 2 ^ k).testBit j=true) (fun j hj=>hj) h4.2 id o' nK).1 h2;rw[Nat.testBit_or,Bool.or_eq_true,Nat.testBit_two_pow]at h5;refine⟨id / 256%128,Of.of h2 rfl,?_,by omega,.inr ⟨k,by omega,⟨v,h',hE⟩,?_⟩⟩
    ·rcases h5 with h5|h5
     ·have:=Bx D.PH k _ aF h5;omega
     ·have:=of_decide_eq_true h5;omega
    ·rcases h5 with h5|h5
     ·exact .inr h5
     ·exact .inl (of_decide_eq_true h5).symm
   |new v os =>
    simp only[bL.hp]at h1
    cases PC:Heap.get os id with
    |none=>rw[PC]at h1;exact up h1
    |some o' =>
     simp only[gS,Bool.and_eq_true]at h4;have:∀(l:Heap),(l.all fun p=>p.1 / 256==(rid+1)*128+k)=true→∀o',l.get id=some o'→Of rid k id:=by
      intro l
      induction l with
      |nil=>intro _ o' h;simp[Heap.get]at h
      |cons a r ihl =>
       intro eZ o' hg;simp only[List.all_cons,Bool.and_eq_true,beq_iff_eq]at eZ;simp only[Heap.get]at hg
       split at hg
       ·rename_i e;rw[←e];exact eZ.1
       ·exact ihl eZ.2 o' hg
     exact⟨k,this os h4.1.2 o' PC,by omega,by omega,.inl ⟨v,os,hE⟩⟩
theorem Dr.Yn(D:Dr P Eqs Sg F rid n ops b T H E){q:Nat}(ng:q<ops.size)(U8:Ae E q):∀id,H q id≠none→mI rid (ss b q) id:=fun id bw QJ=>by
 obtain⟨j,h1,h2,h2',h3⟩:=D.names q (by omega) id bw QJ;rw[(h1.parts h2').2];rcases h3 with h3|⟨w',h5,h6,h8⟩
 ·rcases D.Bz ng U8 (D.xd (by omega) h3) (by omega) with⟨_,h9⟩|⟨h9,_⟩
  ·exact h9
  ·omega
 ·have hqw:ss b q w':=by
   rcases D.Bz ng U8 (D.QH (by omega) h6) (by omega) with⟨_,h9⟩|⟨h9,_⟩
   ·exact h9
   ·omega
  rcases h8 with rfl|h8
  ·exact hqw
  ·exact Er D.PH q w' j ng hqw h8
theorem Dr.xe(D:Dr P Eqs Sg F rid n ops b T H E){d p:Nat}:∀(q:Nat),p≤q→q≤ops.size→(∀m o,p≤m→m<q→ops[m]? = some o→o.dst≠some d)→T q d=T p d
 |0,h,_,_=>by rw[Nat.le_zero.1 h]
 |q+1,h,hq,hm=>by
  by_cases e:p=q+1
  ·rw[e]
  ·have ho:=adv (show q<ops.size by omega);have ih:=D.xe q (by omega) (by omega) fun m o h1 h2=>hm m o h1 (by omega);rw[←ih];have hd:=hm q _ (by omega) (by omega) ho;have key:∀v,jg (T q) (ops[q]).dst v d=T q d:=fun v=>by
    cases kT:(ops[q]).dst with
    |none=>rfl
    |some d' =>simp only[jg,eC];rw[if_neg];rintro rfl;exact hd kT
   rcases D.step q _ ho with⟨e,s,hh,_,_,_,_,_,_,h7,_⟩|⟨_,_,h3,_⟩
   ·rw[h7,key]
   ·rw[h3,key]
theorem Dr.steady(D:Dr P Eqs Sg F rid n ops b T H E){i k:Nat}{o:Oper}{x:Operand}(ho:ops[i]? = some o)(hl:gV o.op=some x)(hk:k<ops.size)(hw:Ae E k)(bw:i≠k)(h1:¬ss b i k)(h2:¬ss b k i) {s:List (Nat×AV)} (hs:look s=T i) (xf:rS ops b i s o=false) {id:Nat} (bR:id∈qp (ρ s x)):H (k+1) id=H k id:=by
 have ng:=(aa3.1 ho).1;obtain⟨v,h',hE⟩:=hw;have lT:=adv hk;obtain⟨sk,hh,QK,U9,⟨e0,WG,Ad,rY⟩,h4,_,_,h7⟩:=D.U7 lT hE;simp only[gS,Bool.and_eq_true]at h4;have h5:Kc ops b k=true:=by simpa using h4.1.1
 have h6:=adG.1 h5 i (adP.2 ng);rw[ho,lT]at h6;have b1:(b.getD i 0).testBit k=false:=Bool.eq_false_iff.2 h1;have b2:(b.getD k 0).testBit i=false:=Bool.eq_false_iff.2 h2;have b3:(i==k)=false:=by simp[bw]
 simp only[b1,b2,b3,(xc hl).1,Bool.false_or,Bool.and_eq_true]at h6;obtain⟨DL,h8⟩:=h6;have Me:og ops k i=true:=by
  simp only[Bool.or_eq_true,Bool.and_eq_true]at h8;rcases h8 with h8|⟨h8,_⟩
  ·exact h8
  unfold rS at xf;rw[hl]at xf;simp only[h8,Bool.true_and]at xf;have Ft:(qp (ρ s x)).isEmpty=false:=by cases hq:qp (ρ s x) with
   |nil=>rw[hq]at bR;cases bR
   |cons _ _=>rfl
  simp only[Ft,Bool.not_false,Bool.true_and,Bool.not_eq_false']at xf;have h9:=adG.1 xf k (adP.2 hk);rw[lT]at h9;have b4:(k==i)=false:=by simp[Ne.symm bw]
  simpa only[b1,b2,b4,DL,Bool.not_true,Bool.false_or] using h9
 have hft:gW ops b k sk ops[k]=XW ops b k sk:=by unfold gW;rw[if_pos DL]
 have nV:ρ sk x=ρ s x:=by
  cases x with
  |tmp d =>
   simp only[ρ,QK,hs];unfold og at Me;rw[ho]at Me;simp only[Option.bind_some,hl]at Me;have hm:∀m o',min k i≤m→m<max k i→ops[m]? = some o'→o'.dst≠some d:=fun m o' g1 g2 g3 hd=>by have g4:=adG.1 Me m (adP.2 (by omega));rw[g3]at g4;simp[hd,g1,g2]at g4
   rcases aeU i k with g|g
   ·exact D.xe k (by omega) (by omega) fun m o' g1 g2=>hm m o' (by omega) (by omega)
   ·exact(D.xe i (by omega) (by omega) fun m o' g1 g2=>hm m o' (by omega) (by omega)).symm
  |_=>rfl
 have gY:id∈gW ops b k sk ops[k]:=by rw[hft];unfold XW;refine List.mem_flatMap.2 ⟨i,adP.2 ng,?_⟩;rw[b1,b2,b3,ho];simp only[Bool.or_self,Bool.false_eq_true,if_false,Option.bind_some,hl];rw[nV];exact bR
 cases e0 with
 |val v0=>cases Ad
 |new v0 os=>cases Ad
 |wr v0 Uh =>
  cases Ad
  simp only[lO,Bool.and_eq_true]at rY;have hn:Uh.get id=none:=by
   cases e:Uh.get id with
   |none=>rfl
   |some ob=>exact absurd gY (kz rY.2 id ob e).1
  rw[h7];show(fm _ hh Uh).get id=H k id;rw[kx,if_pos gY,hn,U9 id]
  cases af2:H k id with
  |none=>simp
  |some ob =>
   have h8:=D.Yn hk ⟨_,_,hE⟩ id (by rw[af2];simp);have h9:qO rid (b.getD k 0) id=true:=by
    unfold qO;by_cases hr:id / 32768=rid+1
    ·have:=h8 hr;unfold ss at this;rw[this];simp
    ·simp[hr]
   rw[if_pos h9]
end
end Go.Vs
namespace Go.Vs
variable {P:Program} {Eqs:TypeId→Option K} {Sg:FuncId→Option aS} {F:(f:FuncId)→(g:aS)→g.A→Option g.B} {R:Type}
variable {Z Z' Z0:Nat→Prop} {ψ ψ' ψ0:Nat→Value} {h h':Hp} {w w' w0:World} {B0:Nat} {O N:Nat→Prop}
variable {rid n:Nat} {ops:Array Oper} {b:Array Nat} {T:Nat→Nat→AV} {H:Nat→Hp} {E:Nat→Option bL}
structure Dj(rid:Nat)(ops:Array Oper)(b:Array Nat)(T:Nat→Nat→AV)(H:Nat→Hp)(E:Nat→Option bL)(S:Nat→Prop)(Tc:Nat→AV)(h:Hp):Prop where
 lt:∀i,S i→i<ops.size
 closed:∀i j,S i→ss b i j→S j
 heap:∃q,q≤ops.size∧(∀k,k<q→Ae E k→S k)∧(q<ops.size→Ae E q∧¬S q)∧∀id,(mI rid S id→h id=H q id)∧(¬mI rid S id→h id=none)
 QL:∀j o d,S j→ops[j]? = some o→o.dst=some d→Tc d=T (j+1) d
 told:∀d,(∀j o,S j→ops[j]? = some o→o.dst≠some d)→Tc d=T 0 d
theorem Dr.QM(D:Dr P Eqs Sg F rid n ops b T H E){k:Nat}{o:Oper}(ho:ops[k]? = some o){d:Nat}(hd:o.dst≠some d):T (k+1) d=T k d:=by
 have:∀v,jg (T k) o.dst v d=T k d:=fun v=>by
  cases kT:o.dst with
  |none=>rfl
  |some d' =>simp only[jg,eC];rw[if_neg];rintro rfl;exact hd kT
 rcases D.step k o ho with⟨e,s,hh,_,_,_,_,_,_,h7,_⟩|⟨_,_,h3,_⟩
 ·rw[h7,this]
 ·rw[h3,this]
theorem Dr.vm(D:Dr P Eqs Sg F rid n ops b T H E){d:Nat}:∀(i:Nat),i≤ops.size→(∀k o,k<i→ops[k]? = some o→o.dst≠some d)→T i d=T 0 d
 |0,_,_=>rfl
 |i+1,hi,hk=>by rw[D.QM (Array.getElem?_eq_getElem (show i<ops.size by omega)) (hk i _ (by omega) (Array.getElem?_eq_getElem (by omega)))];exact D.vm i (by omega) fun k o h1 h2=>hk k o (by omega) h2
theorem Dr.FN(D:Dr P Eqs Sg F rid n ops b T H E){d j:Nat}{oj:Oper}(hj:ops[j]? = some oj)(hd:oj.dst=some d):∀(i:Nat),i≤ops.size→j<i→T i d=T (j+1) d
 |0,_,h=>by omega
 |i+1,hi,h=>by
  by_cases e:j=i
  ·rw[e]
  ·have ho:=adv (show i<ops.size by omega);rw[D.QM ho (fun hdi=>e (D.Af hj ho hd hdi))];exact D.FN hj hd i (by omega) (by omega)
theorem Dr.looks(D:Dr P Eqs Sg F rid n ops b T H E){S:Nat→Prop}{Tc:Nat→AV}(dj:Dj rid ops b T H E S Tc h){i:Nat}{o:Oper}(ho:ops[i]? = some o)(hS:¬S i)(hb:∀j,ss b i j→S j){d:Nat}(hd:d∈o.looksAt ops):Tc d=T i d:=by
 have hi:=(aa3.1 ho).1;by_cases hex:∃(j:Nat) (oj:Oper),ops[j]? = some oj∧oj.dst=some d
 ·obtain⟨j,oj,hj,ZP⟩:=hex;have cW:¬S j→Tc d=T 0 d:=fun hn=>dj.told d fun j' o' hs nK QN=>hn (by rw[D.Af hj nK ZP QN];exact hs);have PH:i≤j→T i d=T 0 d:=fun zY=>D.vm i (by omega) fun k o' hk nK QN=>by have:=D.Af hj nK ZP QN;omega
  rcases Nat.lt_trichotomy j i with aF|rfl|J5
  ·rcases D.WS hj ho aF with h1|h1
   ·rw[dj.QL j oj d (hb j h1) hj ZP,D.FN hj ZP i (by omega) aF]
   ·exact absurd hd ((Oper.apart_spec h1).1 d ZP)
  ·rw[cW hS,PH (Nat.le_refl _)]
  ·rcases D.WS ho hj J5 with h1|h1
   ·rw[cW (fun hs=>hS (dj.closed j i hs h1)),PH (by omega)]
   ·exact absurd hd ((Oper.apart_spec h1).2.2 d ZP)
 ·rw[dj.told d fun j o' _ nK QN=>hex ⟨j,o',nK,QN⟩,D.vm i (by omega) fun k o' _ nK QN=>hex ⟨k,o',nK,QN⟩]
theorem Dr.QO{S:Nat→Prop}{Tc:Nat→AV}(D:Dr P Eqs Sg F rid n ops b T H E)(dj:Dj rid ops b T H E S Tc h){i:Nat}{o:Oper}(ho:ops[i]? = some o)(hS:¬S i){v:AV}(hv:T (i+1)=jg (T i) o.dst v) :
  (∀j o' d,(S j∨j=i)→ops[j]? = some o'→o'.dst=some d→jg Tc o.dst v d=T (j+1) d)∧(∀d,(∀j o',(S j∨j=i)→ops[j]? = some o'→o'.dst≠some d)→jg Tc o.dst v d=T 0 d):=by
 constructor
 ·intro j o' d hj nK hd;rcases hj with hj|rfl
  ·have bw:j≠i:=fun e=>hS (e▸hj);have:jg Tc o.dst v d=Tc d:=by
    cases kT:o.dst with
    |none=>rfl
    |some d' =>simp only[jg,eC];rw[if_neg];rintro rfl;exact bw (D.Af nK ho hd kT)
   rw[this];exact dj.QL j o' d hj nK hd
  ·rw[ho]at nK;cases nK;rw[hv,hd];simp[jg,eC]
 ·intro d hd;have:jg Tc o.dst v d=Tc d:=by
   cases kT:o.dst with
   |none=>rfl
   |some d' =>simp only[jg,eC];rw[if_neg];rintro rfl;exact hd i o (.inr rfl) ho kT
  rw[this];exact dj.told d fun j o' hj=>hd j o' (.inl hj)
theorem vn{i k id:Nat}(h1:Of rid i id)(h2:Of rid k id):i=k:=by unfold Of at h1 h2;omega
section
variable {S:Nat→Prop} {Tc:Nat→AV}
theorem Dr.calm(D:Dr P Eqs Sg F rid n ops b T H E)(dj:Dj rid ops b T H E S Tc h){i q:Nat}(hi:Nf ops i)(hS:¬S i)(hq:q≤ops.size)(hw:∀k,k<q→Ae E k→S k):∀k,i≤k→k<q→¬Ae E k:=by
 intro k hik hkq hk;have QK:=hw k hkq hk;have bw:i≠k:=fun e=>hS (e▸QK);rcases D.Bz (by omega) hk hi bw with⟨_,h1⟩|⟨h1,_⟩
 ·exact hS (dj.closed k i QK h1)
 ·omega
theorem Dr.seen(D:Dr P Eqs Sg F rid n ops b T H E)(dj:Dj rid ops b T H E S Tc h){i:Nat}(hi:Nf ops i)(hS:¬S i)(hb:∀j,ss b i j→S j){hh:Heap}(U9:∀id,Heap.get hh id=if qO rid (b.getD i 0) id then H i id else none) :
  ∀id o,hh.get id=some o→h id=some o:=by
 obtain⟨q,hq,hw,iS,fK⟩:=dj.heap;have ng:i<ops.size:=by obtain⟨o,ho,hf1,hf2⟩:=hi;exact(aa3.1 ho).1
 have hiq:i≤q:=by
  rcases aeU q i with h1|h1
  ·obtain⟨h2,h3⟩:=iS (by omega);rcases D.Bz (by omega) h2 hi (by omega) with⟨h4,_⟩|⟨_,h4⟩
   ·omega
   ·exact absurd (hb q h4) h3
  ·exact h1
 intro id o bR;rw[U9]at bR
 split at bR
 ·rename_i lT;have qB:mI rid S id:=ow hb lT;rw[(fK id).1 qB,D.Ag q hiq hq (D.calm dj hi hS hq hw) id fun k hk _ _ ho=>?_,bR];have QJ:=(ho.parts (by have:=D.size;omega)).1;obtain⟨j,h1,h2,_⟩:=D.names i (by omega) id (by rw[bR];simp) QJ;have:=vn h1 ho;omega
 ·cases bR
theorem Dr.N5(D:Dr P Eqs Sg F rid n ops b T H E)(dj:Dj rid ops b T H E S Tc h){i:Nat}{o:Oper}{x:Operand}(ho:ops[i]? = some o)(hl:gV o.op=some x)(hS:¬S i)(hb:∀j,ss b i j→S j){s:List (Nat×AV)}(hs:look s=T i)(xf:rS ops b i s o=false) {hh:Heap} (U9:∀id,Heap.get hh id=if qO rid (b.getD i 0) id then H i id else none):∀id∈qp (ρ s x),∀ob,hh.get id=some ob→h id=some ob:=by
 obtain⟨q,hq,hw,iS,fK⟩:=dj.heap;have ng:=(aa3.1 ho).1;have QI:=D.size;intro id bR ob mH;rw[U9]at mH
 split at mH
 ·rename_i lT;have qB:mI rid S id:=ow hb lT;rw[(fK id).1 qB,←mH];rcases aeU q i with hqi|hiq
  ·obtain⟨h2,h3⟩:=iS (by omega);have later:∀k,q<k→k<ops.size→Nf ops k→ss b k q:=fun k h4 h5 h6=>by
    rcases D.Bz (by omega) h2 h6 (by omega) with⟨h7,_⟩|⟨_,h7⟩
    ·omega
    ·exact h7
   have aaX:∀k,q≤k→k<i→Nf ops k→¬S k:=fun k h4 h5 h6 hk=>by
    rcases Nat.eq_or_lt_of_le h4 with e|h7
    ·exact h3 (e▸hk)
    ·exact h3 (dj.closed k q hk (later k h7 (by omega) h6))
   symm
   refine D.BA i (by omega) (by omega) id (fun k h4 h5 h6=>?_) (fun k h4 h5 h6 h7=>?_)
   ·have hns:=aaX k h4 h5 (D.QH (by omega) h6);exact D.steady ho hl (by omega) h6 (by omega) (fun KM=>hns (hb k KM)) (fun KM=>by have:=Bx D.PH k i (by omega) KM;omega) hs xf bR
   ·have hns:=aaX k h4 h5 (D.xd (by omega) h6);have h8:=h7.parts (show k<128 by omega);have h9:=qB h8.1;rw[h8.2]at h9;exact hns h9
  ·refine D.BA q hiq hq id (fun k h4 h5 h6=>?_) (fun k h4 h5 h6 h7=>?_)
   ·have QK:=hw k h5 h6;have bw:i≠k:=fun e=>hS (e▸QK);exact D.steady ho hl (by omega) h6 bw (fun KM=>by have:=Bx D.PH i k ng KM;omega) (fun KM=>hS (dj.closed k i QK KM)) hs xf bR
   ·obtain⟨j,h8,h9,_⟩:=D.names i (by omega) id (by rw[mH];simp) (h7.parts (by omega)).1;have:=vn h8 h7;omega
 ·cases mH
theorem QP(E:Nat→Option bL)(S:Nat→Prop)(m:Nat):∃q,q≤m∧(∀k,k<q→Ae E k→S k)∧(q<m→Ae E q∧¬S q):=by
 classical
 induction m with
 |zero=>exact⟨0,ada _,fun k hk=>by omega,fun h=>by omega⟩
 |succ m ih =>
  obtain⟨q,h1,h2,h3⟩:=ih;by_cases hq:q<m
  ·exact⟨q,by omega,h2,fun _=>h3 hq⟩
  ·have:q=m:=by omega
   subst this;by_cases hm:Ae E q∧¬S q
   ·exact⟨q,by omega,h2,fun _=>hm⟩
   ·refine⟨q+1,by omega,fun k hk hw=>?_,fun h=>by omega⟩;rcases aeU k q with h4|h4
    ·exact h2 k h4 hw
    ·have:k=q:=by omega
     subst this;exact Classical.not_not.1 fun hn=>hm ⟨hw,hn⟩
theorem BB{i id:Nat}(hi:i<128):mI rid (fun k=>S k∨k=i) id↔mI rid S id∨Of rid i id:=by
 constructor
 ·intro h1;by_cases hr:id / 32768=rid+1
  ·rcases h1 hr with h2|h2
   ·exact .inl fun _=>h2
   ·exact .inr (Of.of hr h2)
  ·exact .inl fun h=>absurd h hr
 ·rintro(h1|h1) h2
  ·exact .inl (h1 h2)
  ·exact .inr (h1.parts hi).2
theorem Dr.HT(D:Dr P Eqs Sg F rid n ops b T H E)(dj:Dj rid ops b T H E S Tc h){i:Nat}(ng:i<ops.size)(hS:¬S i)(hnn:¬ZO E i)(hnw:¬Ae E i) :
  ∃q,q≤ops.size∧(∀k,k<q→Ae E k→S k∨k=i)∧(q<ops.size→Ae E q∧¬(S q∨q=i))∧∀id,(mI rid (fun k=>S k∨k=i) id→h id=H q id)∧(¬mI rid (fun k=>S k∨k=i) id→h id=none):=by
 obtain⟨q,hq,hw,iS,fK⟩:=dj.heap;have QI:=D.size;refine⟨q,hq,fun k h1 h2=>.inl (hw k h1 h2),fun h1=>⟨(iS h1).1,fun h2=>h2.elim (iS h1).2 fun e=>hnw (e▸(iS h1).1)⟩,fun id=>⟨fun h1=>?_,fun h1=>(fK id).2 fun h2=>h1 ((BB (by omega)).2 (.inl h2))⟩⟩;rcases (BB (S:=S) (i:=i) (rid:=rid) (by omega)).1 h1 with h2|h2
 ·exact(fK id).1 h2
 ·have hn:¬mI rid S id:=fun h3=>h3.Br (by omega) hS h2;rw[(fK id).2 hn]
  symm
  apply Classical.not_not.1;intro bw;obtain⟨j,h3,_,_,h4⟩:=D.names q hq id bw (h2.parts (by omega)).1;have:=vn h3 h2;subst this;rcases h4 with h4|⟨w',h5,h6,h7|h7⟩
  ·exact hnn h4
  ·exact hnw (h7▸h6)
  ·exact hS (dj.closed w' _ (hw w' h5 h6) h7)
theorem Va{os:Heap}{i:Nat}(eZ:(os.all fun p=>p.1 / 256==(rid+1)*128+i)=true):∀id o,os.get id=some o→Of rid i id:=by
 induction os with
 |nil=>intro id o h;simp[Heap.get]at h
 |cons a r ih =>
  intro id o hg;simp only[List.all_cons,Bool.and_eq_true,beq_iff_eq]at eZ;simp only[Heap.get]at hg
  split at hg
  ·rename_i e;rw[←e];exact eZ.1
  ·exact ih eZ.2 id o hg
theorem Dr.QQ(D:Dr P Eqs Sg F rid n ops b T H E)(dj:Dj rid ops b T H E S Tc h){i:Nat}{o:Oper}(ho:ops[i]? = some o)(hS:¬S i)(hb:∀j,ss b i j→S j){v:AV}{os:Heap}(hE:E i=some (.new v os)) :
  ∃q,q≤ops.size∧(∀k,k<q→Ae E k→S k∨k=i)∧(q<ops.size→Ae E q∧¬(S q∨q=i))∧∀id,(mI rid (fun k=>S k∨k=i) id→(bL.new v os).hp h id=H q id)∧(¬mI rid (fun k=>S k∨k=i) id→(bL.new v os).hp h id=none):=by
 obtain⟨q,hq,hw,iS,fK⟩:=dj.heap;have QI:=D.size;have ng:=(aa3.1 ho).1;have hnw:¬Ae E i:=fun⟨v',h',h1⟩=>by rw[hE]at h1;cases h1
 have ZQ:=D.xd ng ⟨v,os,hE⟩;obtain⟨s,hh,_,_,_,h4,_,_,h7⟩:=D.U7 ho hE;simp only[gS,Bool.and_eq_true]at h4;have tT:=Va (rid:=rid) h4.1.2;have hiq:i<q:=by
  rcases aeU i q with h1|h1
  ·exact h1
  ·obtain⟨h2,h3⟩:=iS (by omega);have bw:i≠q:=fun e=>hnw (e▸h2);rcases D.Bz (by omega) h2 ZQ bw with⟨h4,_⟩|⟨_,h4⟩
   ·omega
   ·exact absurd (hb q h4) h3
 refine⟨q,hq,fun k h1 h2=>.inl (hw k h1 h2),fun h1=>⟨(iS h1).1,fun h2=>h2.elim (iS h1).2 fun e=>hnw (e▸(iS h1).1)⟩,fun id=>⟨fun h1=>?_,fun h1=>?_⟩⟩
 ·simp only[bL.hp];by_cases h2:Of rid i id
  ·have hn:¬mI rid S id:=fun h3=>h3.Br (by omega) hS h2;have e1:H i id=none:=Classical.not_not.1 fun bw=>by obtain⟨j,h3,h4,_⟩:=D.names i (by omega) id bw (h2.parts (by omega)).1;have:=vn h3 h2;omega
   have e2:H (i+1) id=Heap.get os id:=by rw[h7];simp only[bL.hp];rw[e1];cases Heap.get os id<;>rfl
   have e3:H q id=H (i+1) id:=D.Ag q hiq hq (fun k h3 h4=>D.calm dj ZQ hS hq hw k (by omega) h4) id fun k h3 _ _ h5=>by have:=vn h5 h2;omega
   rw[e3,e2,(fK id).2 hn];cases Heap.get os id<;>rfl
  ·have h3:mI rid S id:=((BB (by omega)).1 h1).resolve_right h2
   cases PC:Heap.get os id with
   |some o'=>exact absurd (tT id o' PC) h2
   |none=>exact(fK id).1 h3
 ·have h2:¬mI rid S id:=fun h2=>h1 ((BB (by omega)).2 (.inl h2));have h3:¬Of rid i id:=fun h2=>h1 ((BB (by omega)).2 (.inr h2));simp only[bL.hp]
  cases PC:Heap.get os id with
  |some o'=>exact absurd (tT id o' PC) h3
  |none=>exact(fK id).2 h2
theorem Dr.Vb(D:Dr P Eqs Sg F rid n ops b T H E)(dj:Dj rid ops b T H E S Tc h){i:Nat}{o:Oper}(ho:ops[i]? = some o)(hS:¬S i)(hb:∀j,ss b i j→S j){v:AV}{h':Heap}(hE:E i=some (.wr v h')) :
  (∀hh:Heap,(∀id,hh.get id=if qO rid (b.getD i 0) id then H i id else none)→hh.get=h) ∧
  ∃q,q≤ops.size∧(∀k,k<q→Ae E k→S k∨k=i)∧(q<ops.size→Ae E q∧¬(S q∨q=i))∧∀id,(mI rid (fun k=>S k∨k=i) id→h'.get id=H q id)∧(¬mI rid (fun k=>S k∨k=i) id→h'.get id=none):=by
 obtain⟨q,hq,hw,iS,fK⟩:=dj.heap;have QI:=D.size;have ng:=(aa3.1 ho).1;have U8:Ae E i:=⟨v,h',hE⟩;have ZQ:=D.QH ng U8;obtain⟨s,hh0,_,_,_,h4,_,_,h7⟩:=D.U7 ho hE;simp only[gS,Bool.and_eq_true]at h4;have hqi:q=i:=by
  rcases Nat.lt_trichotomy q i with h1|h1|h1
  ·obtain⟨h2,h3⟩:=iS (by omega);rcases D.Bz ng U8 (D.QH (by omega) h2) (by omega) with⟨_,h5⟩|⟨h5,_⟩
   ·exact absurd (hb q h5) h3
   ·omega
  ·exact h1
  ·exact absurd (hw i h1 U8) hS
 subst hqi;have own:∀id,H q id≠none→mI rid (ss b q) id:=fun id bw QJ=>by
  obtain⟨j,h1,h2,h2',h3⟩:=D.names q hq id bw QJ;rw[(h1.parts h2').2];rcases h3 with h3|⟨w',h5,h6,h8⟩
  ·rcases D.Bz ng U8 (D.xd (by omega) h3) (by omega) with⟨_,h9⟩|⟨h9,_⟩
   ·exact h9
   ·omega
  ·have hqw:ss b q w':=by
    rcases D.Bz ng U8 (D.QH (by omega) h6) (by omega) with⟨_,h9⟩|⟨h9,_⟩
    ·exact h9
    ·omega
   rcases h8 with rfl|h8
   ·exact hqw
   ·exact Er D.PH q w' j ng hqw h8
 refine⟨fun hh U9=>?_,?_⟩
 ·funext id;rw[U9 id]
  cases bR:H q id with
  |none =>
   have:h id=none:=by
    by_cases h1:mI rid S id
    ·rw[(fK id).1 h1,bR]
    ·exact(fK id).2 h1
   rw[this];split<;>rfl
  |some ob =>
   have h1:=own id (by rw[bR];simp);have h2:mI rid S id:=fun hr=>hb _ (h1 hr);have h3:qO rid (b.getD q 0) id=true:=by
    unfold qO;by_cases hr:id / 32768=rid+1
    ·have:=h1 hr;unfold ss at this;rw[this];simp
    ·simp[hr]
   rw[h3,(fK id).1 h2,bR];rfl
 ·obtain⟨q',h1,h2,h3⟩:=QP E (fun k=>S k∨k=q) ops.size;have WK:q+1≤q':=by
   rcases aeU q q' with h5|h5
   ·exact h5
   ·obtain⟨h6,h8⟩:=h3 (by omega);rcases aeU q' q with h9|h9
    ·exact absurd (.inl (hw q' h9 h6)) h8
    ·exact absurd (.inr (by omega)) h8
  have e1:H (q+1)=h'.get:=by rw[h7];rfl
  have zZ:∀j,(b.getD q 0 ||| 2 ^ q).testBit j=true→S j∨j=q:=fun j hj=>by rw[Nat.testBit_or,Bool.or_eq_true,Nat.testBit_two_pow]at hj;exact hj.imp (hb j) (fun h=>(of_decide_eq_true h).symm)
  refine⟨q',h1,h2,h3,fun id=>⟨fun h5=>?_,fun h5=>?_⟩⟩
  ·rw[D.Ag q' WK h1 (fun k h6 h8 h9=>?_) id (fun k h6 h8 h9 nG=>?_),e1]
   ·have hk:=h2 k h8 h9;have QK:S k:=hk.resolve_right (by omega);rcases D.Bz (by omega) h9 ZQ (by omega) with⟨_,zw⟩|⟨zw,_⟩
    ·exact hS (dj.closed k q QK zw)
    ·omega
   ·have hk:=h5 (nG.parts (by omega)).1;rw[(nG.parts (by omega)).2]at hk;have QK:S k:=hk.resolve_right (by omega);rcases D.Bz ng U8 (D.xd (by omega) h9) (by omega) with⟨zw,_⟩|⟨_,zw⟩
    ·omega
    ·exact hS (dj.closed k q QK zw)
  ·cases bR:h'.get id with
   |none=>rfl
   |some ob=>exact absurd ((mb zZ h4.2 id ob bR).1) h5
end
section
variable {S:Nat→Prop} {Tc:Nat→AV}
theorem DM{o:Oper}{d:Nat}(h:Operand.tmp d∈o.op.operands):d∈o.looksAt ops :=aa2 _ (ae3.2 ⟨.tmp d,by simpa using h,rfl⟩)
theorem HU{o:Oper}{j d:Nat}{want:Bool}(hg:o.guard=some (j,want))(hd:(ops[j]?).bind (·.dst)=some d):d∈o.looksAt ops:=by unfold Oper.looksAt;rw[hg];exact aco _ (by simp only[hd];simp)
theorem Dr.wanted(D:Dr P Eqs Sg F rid n ops b T H E)(dj:Dj rid ops b T H E S Tc h){a:Act}{i:Nat}{o:Oper}(ho:ops[i]? = some o)(hS:¬S i)(hb:∀j,ss b i j→S j)(t:cU Z ψ h w n Tc a){c:Bool}(hw:qu ops (T i) o c) :
  Region.wanted o (yielded ops a.tmps)=c:=by
 unfold qu at hw
 split at hw
 ·rename_i hg;rw[hw];simp[Region.wanted,hg]
 ·rename_i j want hg;obtain⟨d,hd,hc⟩:=hw;have e:=D.looks dj ho hS hb (HU hg hd);rcases hc with⟨u,h1,h2⟩|⟨vs,h1,h2⟩
  ·rw[Bu t hg hd (e.trans h1),h2]
  ·rw[yR t hg hd (e.trans h1),h2]
theorem Dr.KN(D:Dr P Eqs Sg F rid n ops b T H E)(V:Env P Eqs Sg F){i:Nat}{o:Oper}{a:Act}(ho:ops[i]? = some o)(hS:¬S i)(hb:∀j,ss b i j→S j)(dj:Dj rid ops b T H E S Tc h)(j:J (mI rid S) n Z0 w0 O ψ0 Z ψ Tc h a w) {K:Act→World→Prop} {Q:Exit→Act→World→Prop} (hk:∀Tc' h' a' w' Z' ψ',Dj rid ops b T H E (fun k=>S k∨k=i) Tc' h'→J (mI rid fun k=>S k∨k=i) n Z0 w0 O ψ0 Z' ψ' Tc' h' a' w'→K a' w'):wpOp P ops Q i K a w:=by
 have ng:=(aa3.1 ho).1;have QI:=D.size;have Up:=D.afY i o ho;have aF:∀k,(S k∨k=i)→k<ops.size:=fun k hk=>hk.elim (dj.lt k) (fun e=>e▸ng);have Kk:∀k j,(S k∨k=i)→ss b k j→S j∨j=i:=fun k j hk hj=>.inl (hk.elim (fun h=>dj.closed k j h hj) (fun e=>hb j (e▸hj)));unfold wpOp;rw[ho];simp only[]
 cases hE:E i with
 |none =>obtain⟨h1,h2,h3⟩:=D.FM ho hE;rw[D.wanted dj ho hS hb j.tr h1];simp only[Bool.false_eq_true,if_false];obtain⟨t1,t2⟩:=D.QO dj ho hS h2;refine hk _ h _ w Z ψ ⟨aF,Kk,D.HT dj ng hS (fun⟨v,os,h⟩=>by rw[hE]at h;cases h) (fun⟨v,os,h⟩=>by rw[hE]at h;cases h),t1,t2⟩ (j.skip Up fun id hp hr=>.inl (hp hr))
 |some e =>
  obtain⟨s,hh,h1,h2,h3,h4,h5,h6,h7⟩:=D.U7 ho hE;rw[D.wanted dj ho hS hb j.tr h5];simp only[if_true];refine .inl ?_;obtain⟨t1,t2⟩:=D.QO dj ho hS h6;have hT:∀x∈o.op.operands,aC Z ψ h w (ρ s x) (a.eval x)∧aM (mI rid S) (ρ s x):=fun x hx=>by
   cases x with
   |tmp d =>
    have e1:look s d=Tc d:=by rw[h1];exact(D.looks dj ho hS hb (DM hx)).symm
    simp only[ρ,e1];exact⟨j.tr.rep d,j.tm d⟩
   |const v=>exact⟨Ho v,Bq _ v⟩
   |global g=>exact⟨by simp only[ρ,aC],by simp only[ρ,aM]⟩
   |func f=>exact⟨by simp only[ρ,aC,aq,Act.eval];exact⟨#[],rfl,rfl⟩,by simp only[ρ,aM,aG]⟩
  have oy:=Bw (hh:=[]) j.hm (fun k hk=>hb k hk) h4;obtain⟨e0,h3,Ad,rY⟩:=h3
  cases e0 with
  |wr v0 Uh =>simp only[gX]at Ad;subst Ad;have nT:=D.Vb dj ho hS hb hE;have U9:=nT.1 hh h2;subst U9;refine J.opF V (rid:=rid) (i:=i) (fun _ id hp=>hp.Br (by omega) hS) j Up (fun x hx=>(hT x hx).1) (fun x hx=>(hT x hx).2) h3 rY (p':=mI rid fun k=>S k∨k=i) (fun id hp hr=>.inl (hp hr)) oy.1 oy.2 fun a' w' Z' ψ' j' => ?_;exact hk _ _ a' w' Z' ψ' ⟨aF,Kk,nT.2,t1,t2⟩ j'
  |val v0 =>
   simp only[gX]at Ad;subst Ad;have af4:∃Yj:Heap,(∀id o,Yj.get id=some o→h id=some o)∧cZ P Eqs Sg F (opId rid i) Yj s o some=some (.val v0):=by
    cases hf:nD o.op with
    |true=>exact⟨[],fun id o h=>by simp[Heap.get]at h,by rw[N0 hf (h':=g8 hh (gW ops b i s o))];exact h3⟩
    |false =>
     cases PE:gV o.op with
     |some x =>
      have xf:rS ops b i s o=false:=by
       cases hq:rS ops b i s o with
       |false=>rfl
       |true=>unfold gW at rY;rw[(xc PE).2,hq]at rY;simp[lO]at rY
      have hft:gW ops b i s o=[]:=by unfold gW;rw[(xc PE).2,xf];rfl
      rw[hft]at h3;have h3':cZ P Eqs Sg F (opId rid i) hh s o some=some (.val v0):=h3;have nI:∀id,(fm (qp (ρ s x)) hh []).get id=if id∈qp (ρ s x) then hh.get id else none:=fun id=>by
       rw[kx]
       split
       ·cases hh.get id<;>rfl
       ·rfl
      refine⟨fm (qp (ρ s x)) hh [],fun id ob bR=>?_,?_⟩
      ·rw[nI]at bR
       split at bR
       ·rename_i hm;exact D.N5 dj ho PE hS hb h1 xf h2 id hm ob bR
       ·cases bR
      ·rw[KK PE (hh:=hh) (fun id hm=>by rw[nI,if_pos hm])];exact h3'
     |none=>exact⟨_,fun id ob bR=>D.seen dj ⟨o,ho,hf,PE⟩ hS hb h2 id ob (by rw[ov]at bR;split at bR;cases bR;exact bR),h3⟩
   obtain⟨Yj,HV,PI⟩:=af4;refine J.op V (rid:=rid) (i:=i) (fun _ id hp=>hp.Br (by omega) hS) j Up (fun x hx=>(hT x hx).1) (fun x hx=>(hT x hx).2) HV PI (fun v hw he=>by cases he) (p':=mI rid fun k=>S k∨k=i) (fun id hp hr=>.inl (hp hr)) oy.1 oy.2 fun a' w' Z' ψ' j' => ?_;exact hk _ _ a' w' Z' ψ' ⟨aF,Kk,D.HT dj ng hS (fun⟨v,os,h⟩=>by rw[hE]at h;cases h) (fun⟨v,os,h⟩=>by rw[hE]at h;cases h),t1,t2⟩ j'
  |new v0 os =>simp only[gX]at Ad;subst Ad;have ZQ:=D.xd ng ⟨v0,os,hE⟩;have HV:∀id ob,(g8 hh (gW ops b i s o)).get id=some ob→h id=some ob:=fun id ob bR=>D.seen dj ZQ hS hb h2 id ob (by rw[ov]at bR;split at bR;cases bR;exact bR);refine J.op V (rid:=rid) (i:=i) (fun _ id hp=>hp.Br (by omega) hS) j Up (fun x hx=>(hT x hx).1) (fun x hx=>(hT x hx).2) HV h3 (fun v hw he=>by cases he) (p':=mI rid fun k=>S k∨k=i) (fun id hp hr=>.inl (hp hr)) oy.1 oy.2 fun a' w' Z' ψ' j' => ?_;exact hk _ _ a' w' Z' ψ' ⟨aF,Kk,D.QQ dj ho hS hb hE,t1,t2⟩ j'
theorem Dr.done(D:Dr P Eqs Sg F rid n ops b T H E)(dj:Dj rid ops b T H E S Tc h)(eZ:∀k,k<ops.size→S k):Tc=T ops.size∧h=H ops.size:=by
 constructor
 ·funext d;by_cases hex:∃(j:Nat) (oj:Oper),ops[j]? = some oj∧oj.dst=some d
  ·obtain⟨j,oj,hj,hd⟩:=hex;have J0:=(aa3.1 hj).1;rw[dj.QL j oj d (eZ j J0) hj hd,D.FN hj hd ops.size (Nat.le_refl _) J0]
  ·rw[dj.told d fun j o' _ nK QN=>hex ⟨j,o',nK,QN⟩,D.vm ops.size (Nat.le_refl _) fun k o' _ nK QN=>hex ⟨k,o',nK,QN⟩]
 ·obtain⟨q,hq,_,iS,fK⟩:=dj.heap;have:q=ops.size:=by
   rcases aeU q ops.size with h1|h1
   ·exact absurd (eZ q h1) (iS h1).2
   ·omega
  subst this;funext id;by_cases qB:mI rid S id
  ·exact(fK id).1 qB
  ·rw[(fK id).2 qB]
   symm
   apply Classical.not_not.1;intro bw;apply qB;intro hr;obtain⟨j,h1,h2,h3,_⟩:=D.names ops.size (ada _) id bw hr;rw[(h1.parts h3).2];exact eZ j h2
def mf(m:Nat)(cv:Array Bool):Nat:=((List.range m).filter fun i => !cv.getD i false).length
theorem FO{m:Nat}{cv:Array Bool}{i:Nat}(hi:i<m)(hs:i<cv.size)(hn:cv.getD i false=false):mf m cv=mf m (cv.setIfInBounds i true)+1:=by
 unfold mf;have key:∀(l:List Nat),l.Nodup→i∈l→(l.filter fun k => !cv.getD k false).length=(l.filter fun k => !(cv.setIfInBounds i true).getD k false).length+1:=by
  intro l
  induction l with
  |nil=>intro _ h;cases h
  |cons a r ih =>
   intro Ei hm;rw[List.nodup_cons]at Ei;rcases aa1.1 hm with rfl|hm
   ·have h2:(r.filter fun k => !cv.getD k false)=(r.filter fun k => !(cv.setIfInBounds i true).getD k false):=by apply List.filter_congr;intro k hk;have bw:i≠k:=fun e=>Ei.1 (e▸hk);rw[getD_set_ne false bw]
    rw[List.filter_cons,List.filter_cons,hn];have h3:(cv.setIfInBounds i true).getD i false=true:=by simp[hs]
    rw[h3,h2];simp
   ·have bw:i≠a:=fun e=>Ei.1 (e▸hm);rw[List.filter_cons,List.filter_cons,getD_set_ne false bw]
    split
    ·simp only[List.length_cons];rw[ih Ei.2 hm]
    ·exact ih Ei.2 hm
 exact key _ List.nodup_range (adP.2 hi)
theorem Dr.any(D:Dr P Eqs Sg F rid n ops b T H E)(V:Env P Eqs Sg F){Q:Exit→Act→World→Prop}(hQ:∀Z ψ a w,J (mI rid fun k=>k<ops.size) n Z0 w0 O ψ0 Z ψ (T ops.size) (H ops.size) a w→Q .normal a w) :
  ∀(fuel:Nat) (cv:Array Bool) (Tc:Nat→AV) (h:Hp) (a:Act) (w:World) (Z:Nat→Prop) (ψ:Nat→Value),cv.size=ops.size→mf ops.size cv=fuel → Dj rid ops b T H E (fun k=>cv.getD k false=true) Tc h→J (mI rid fun k=>cv.getD k false=true) n Z0 w0 O ψ0 Z ψ Tc h a w→wpAny P .any ops Q fuel cv a w
 |0,cv,Tc,h,a,w,Z,ψ,hs,hu,dj,j=>by
  have eZ:∀k,k<ops.size→cv.getD k false=true:=fun k hk=>by unfold mf at hu;have:=List.filter_eq_nil_iff.1 (adn hu) k (adP.2 hk);simpa using this
  refine⟨?_,?_⟩
  ·apply List.eq_nil_iff_forall_not_mem.2;intro i hi;obtain⟨h1,o,h2,_⟩:=mem_ready.1 hi;have h3:=(aa3.1 h2).1;have h4:=eZ i h3;rw[Array.getD_eq_getD_getElem?,Array.getElem?_eq_getElem (by omega)]at h1 h4;simp at h1 h4;rw[h1]at h4;cases h4
  ·obtain⟨e1,e2⟩:=D.done dj eZ;subst e1;subst e2;refine hQ Z ψ a w ⟨j.ok,j.tr,fun d=>(j.tm d).imp fun id h1 h2=>dj.lt _ (h1 h2),fun id ty cs hb=>(j.hm id ty cs hb).imp fun id h1 h2=>dj.lt _ (h1 h2)⟩
 |fuel+1,cv,Tc,h,a,w,Z,ψ,hs,hu,dj,j=>by
  have look:∀i,i<ops.size→cv.getD i true=cv.getD i false:=fun i hi=>by rw[Array.getD_eq_getD_getElem?,Array.getD_eq_getD_getElem?,Array.getElem?_eq_getElem (by omega)];rfl
  refine⟨fun hr=>?_,fun i hi=>?_⟩
  ·exfalso;have hex:∃i,i<ops.size∧cv.getD i false=false:=by
    apply Classical.byContradiction;intro hn;unfold mf at hu;rw[List.filter_eq_nil_iff.2]at hu
    ·simp at hu
    ·intro k hk;have:=fun h=>hn ⟨k,adP.1 hk,h⟩
     cases hl:cv.getD k false with
     |true=>simp
     |false=>exact absurd hl this
   have key:∀i,i<ops.size→cv.getD i false=false→False:=by
    intro i
    induction i using Nat.strongRecOn with
    |ind i ih =>
     intro hi hl;have gY:i∈Region.ready .any ops cv:=by
      refine mem_ready.2 ⟨by rw[look i hi];exact hl,_,adv hi,fun e he NQ=>?_⟩;have Ym:=KJ D.PH (adv hi) (by simpa using he) NQ
      cases hle:cv.getD e.on false with
      |true=>rfl
      |false=>exact(ih e.on Ym (by omega) hle).elim
     rw[hr]at gY;cases gY
   obtain⟨i,h1,h2⟩:=hex;exact key i h1 h2
  ·obtain⟨h1,o,ho,eZ⟩:=mem_ready.1 hi;have ng:=(aa3.1 ho).1;have hn:cv.getD i false=false:=by rw[←look i ng];exact h1
   have hS:¬(cv.getD i false=true):=by rw[hn];simp
   have hb:∀k,ss b i k→cv.getD k false=true:=fun k hk=>by
    obtain⟨e,he,NQ,h2⟩:=(Ac D.PH ho).1 hk;have h3:=eZ e (by simpa using he) NQ;rcases h2 with rfl|h2
    ·exact h3
    ·exact dj.closed e.on k h3 h2
   refine D.KN V ho hS hb dj j fun Tc' h' a' w' Z' ψ' dj' j' => ?_;have heq:(fun k=>cv.getD k false=true∨k=i)=(fun k=>(cv.setIfInBounds i true).getD k false=true):=by
    funext k;apply propext;by_cases e:i=k
    ·subst e;simp[show i<cv.size by omega]
    ·rw[getD_set_ne false e];constructor
     ·rintro(h|h)
      ·exact h
      ·exact absurd h.symm e
     ·exact .inl
   rw[heq]at dj' j';exact D.any V hQ fuel _ Tc' h' a' w' Z' ψ' (by simpa using hs) (by have:=FO ng (by omega) hn;omega) dj' j'
end
end Go.Vs
namespace Go.Vs
variable {P:Program} {Eqs:TypeId→Option K} {Sg:FuncId→Option aS} {F:(f:FuncId)→(g:aS)→g.A→Option g.B} {R:Type}
variable {Z Z' Z0:Nat→Prop} {ψ ψ' ψ0:Nat→Value} {h h':Hp} {w w' w0:World} {B0:Nat} {O N:Nat→Prop}
theorem BC(f:AV→AV)(hf:f .no=.no):∀(l:List (Nat×AV)) (d:Nat),look (l.map fun p=>(p.1,f p.2)) d=f (look l d)
 |[],d=>by simp[look,hf]
 |(i,v)::r,d=>by
  simp only[List.map_cons,look]
  split
  ·rfl
  ·exact BC f hf r d
section
variable {rid:Nat}
mutual
theorem xg:∀{a:AV} {v:Value},aC Z ψ h w a v→aC Z ψ h w (bH rid a) v
 |.ref id s i off,v,hr=>by
  simp only[bH]
  split
  ·simp only[aC]
  ·exact hr
 |.bK id,v,hr=>by
  simp only[bH]
  split
  ·simp only[aC]
  ·exact hr
 |.fn f cap,v,hr=>by simp only[bH,aC]at hr ⊢;obtain⟨vs,e,hl⟩:=hr;exact⟨vs,e,mg hl⟩
 |.agg cs,v,hr=>by simp only[bH,aC]at hr ⊢;obtain⟨vs,e,hl⟩:=hr;exact⟨vs,e,mg hl⟩
 |.nu cs,v,hr=>by simp only[bH,aC]at hr ⊢;obtain⟨vs,e,hl⟩:=hr;exact⟨vs,e,mg hl⟩
 |.no,v,hr=>by simpa only[bH] using hr
 |.bool _,v,hr=>by simpa only[bH] using hr
 |.int _ _,v,hr=>by simpa only[bH] using hr
 |.str _,v,hr=>by simpa only[bH] using hr
 |.lf,v,hr=>by simpa only[bH] using hr
 |.gh,v,hr=>by simpa only[bH] using hr
 |.fp _ _ _,v,hr=>by simpa only[bH] using hr
 |.sl _ _ _,v,hr=>by simpa only[bH] using hr
 |.mp _ _ _,v,hr=>by simpa only[bH] using hr
theorem mg:∀{a:List AV} {v:List Value},aq Z ψ h w a v→aq Z ψ h w (lP rid a) v
 |[],v,hr=>by simpa only[lP] using hr
 |x::r,v,hr=>by simp only[lP,aq]at hr ⊢;obtain⟨u,us,e,h1,h2⟩:=hr;exact⟨u,us,e,xg h1,mg h2⟩
end
mutual
theorem pQ:∀(a:AV),aM (mI rid fun _=>False) (bH rid a)
 |.ref id s i off=>by
  simp only[bH]
  split
  ·simp only[aM]
  ·rename_i hn;simp only[aM];exact fun h=>absurd h hn
 |.bK id=>by
  simp only[bH]
  split
  ·simp only[aM]
  ·rename_i hn;simp only[aM];exact fun h=>absurd h hn
 |.fn f cap=>by simp only[bH,aM];exact iU cap
 |.agg cs=>by simp only[bH,aM];exact iU cs
 |.nu cs=>by simp only[bH,aM];exact iU cs
 |.no=>by simp only[bH,aM]
 |.bool _=>by simp only[bH,aM]
 |.int _ _=>by simp only[bH,aM]
 |.str _=>by simp only[bH,aM]
 |.lf=>by simp only[bH,aM]
 |.gh=>by simp only[bH,aM]
 |.fp _ _ _=>by simp only[bH,aM]
 |.sl _ _ _=>by simp only[bH,aM]
 |.mp _ _ _=>by simp only[bH,aM]
theorem iU:∀(a:List AV),aG (mI rid fun _=>False) (lP rid a)
 |[]=>by simp only[lP,aG]
 |x::r=>by simp only[lP,aG];exact⟨pQ x,iU r⟩
end
theorem get_map(f:Ob→Ob):∀(hh:Heap) (i:Nat),Heap.get (hh.map fun p=>(p.1,f p.2)) i=(hh.get i).map f
 |[],i=>rfl
 |(j,o)::r,i=>by
  simp only[List.map_cons,Heap.get]
  split
  ·rfl
  ·exact get_map f r i
def nh(rid:Nat)(hh:Heap):Heap:=(hh.filter fun p=>p.1 / 32768 != rid+1).map fun p=>(p.1,AQ rid p.2)
theorem N6(hh:Heap)(i:Nat):(nh rid hh).get i=if i / 32768=rid+1 then none else(hh.get i).map (AQ rid):=by unfold nh;rw[get_map (AQ rid),get_filter (fun i=>i / 32768 != rid+1)];by_cases e:i / 32768=rid+1<;>simp[e]
theorem iH{hh:Heap}{i:Nat}{o:Ob}(hg:(nh rid hh).get i=some o):i / 32768≠rid+1∧∃o',hh.get i=some o'∧o=AQ rid o':=by
 rw[N6]at hg
 split at hg
 ·cases hg
 ·rename_i hn
  cases h0:hh.get i with
  |none=>rw[h0]at hg;cases hg
  |some o'=>rw[h0]at hg;cases hg;exact⟨hn,o',rfl,rfl⟩
theorem kA{hh:Heap}{i:Nat}(hg:(nh rid hh).get i≠none):hh.get i≠none:=by obtain⟨o,ho⟩:=acx.1 hg;obtain⟨_,o',h1,_⟩:=iH ho;rw[h1];simp
theorem Good.kY{hh:Heap}(g:Good Z ψ hh.get w B0 O):Good Z ψ (nh rid hh).get w B0 O:=by
 refine⟨fun id ty cs hb=>?_,fun id ok xs hb=>?_,fun id b h1 h2=>g.live id b (kA h1) h2,fun id mL b h1 h2 h3 h4=>g.apart id mL b (kA h1) (kA h2) h3 h4,g.jP⟩
 ·obtain⟨_,o',h1,h2⟩:=iH hb
  cases o' with
  |own ok xs=>cases h2
  |box zr cs' =>
   cases h2
   obtain⟨gg,vs,h3,h4,h5,h6⟩:=g.box id ty cs' h1;exact⟨gg,vs,h3,h4,mg (h5.less (fun _ h=>h) (cz.refl _ _) fun i hi=>⟨kA hi,rfl⟩),h6⟩
 ·obtain⟨_,o',h1,h2⟩:=iH hb
  cases o' with
  |own ZJ xs'=>cases h2;exact g.row id _ _ h1
  |box zr cs'=>cases h2
theorem Ok.sub{hp:Hp}(k:Ok Z0 w0 O ψ0 Z ψ h w)(g:Good Z ψ hp w w0.heap.size O)(hn:∀id,hp id≠none→h id≠none):Ok Z0 w0 O ψ0 Z ψ hp w :=⟨g,k.fV,k.eR,k.os,k.tape,k.output,k.size,k.block,fun i hi bw=>k.fix i hi (hn i bw)⟩
end
theorem Good.BD(g:Good Z ψ h w B0 O)(e:w'.heap=w.heap):Good Z ψ h w' B0 O:=by
 have sm:cz Z w w':=fun b _=>by rw[e]
 refine⟨fun id ty cs hb=>?_,fun id ok xs hb=>?_,g.live,g.apart,fun b hb=>by rw[e];exact g.jP b hb⟩
 ·obtain⟨gg,vs,h1,h2,h3,h4⟩:=g.box id ty cs hb;exact⟨gg,vs,h1,by rw[e];exact h2,h3.less (fun _ h=>h) sm (fun i hi=>⟨hi,rfl⟩),h4⟩
 ·exact(g.row id ok xs hb).kept (fun _ h=>h) sm (fun gg _=>by rw[e])
theorem Ok.BD(k:Ok Z0 w0 O ψ0 Z ψ h w)(e:w'.heap=w.heap)(e1:w'.os=w.os)(e2:w'.tape=w.tape)(e3:w'.output=w.output):Ok Z0 w0 O ψ0 Z ψ h w' :=⟨k.ed.BD e,k.fV,k.eR,e1.trans k.os,e2.trans k.tape,e3.trans k.output,by rw[e];exact k.size,fun b hb ho=>by rw[e];exact k.block b hb ho,k.fix⟩
theorem cU.BD{n:Nat}{T:Nat→AV}{a:Act}(t:cU Z ψ h w n T a)(e:w'.heap=w.heap):cU Z ψ h w' n T a :=⟨fun d=>(t.rep d).less (fun _ h=>h) (fun b _=>by rw[e]) (fun i hi=>⟨hi,rfl⟩),t.size,t.defers⟩
theorem FP(V:Env P Eqs Sg F)(hm:P.follows .mixedOrders=true){n rid:Nat}{ops:Array Oper}{draw:Bool}{st:St}{kk:St→Option R}{r:R}{a:Act}{Q:Exit→Act→World→Prop} (hx:iA P Eqs Sg F n rid ops draw st kk=some r) (k:Ok Z0 w0 O ψ0 Z ψ st.heap.get w) (t:cU Z ψ st.heap.get w n (look st.tmps) a) (hQ:∀eQ Z ψ a w,kk eQ=some r→Ok Z0 w0 O ψ0 Z ψ eQ.heap.get w→cU Z ψ eQ.heap.get w n (look eQ.tmps) a→Q .normal a w):(Code.region rid ops draw).wp P Q a w:=by
 obtain⟨b,ZR,hx⟩:∃b,b=(if draw then Region.before ops else #[])∧(if(ops.all fun o=>iz n o)&&(!draw || (uQ ops b&&(AO ops b&&ck (ops.toList.filterMap (·.dst)))))&&decide (ops.size≤128) then
  bG P Eqs Sg F rid draw ops b (ops.toList.zipIdx.map fun p=>(p.2,p.1)) (kY draw rid ops st) kk else none)=some r:=⟨_,rfl,hx⟩
 split at hx
 ·rename_i hc;simp only[Bool.and_eq_true,decide_eq_true_eq]at hc;obtain⟨⟨kT,hdr⟩,jf⟩:=hc;have Es:∀(i:Nat) (o:Oper),ops[i]? = some o→iz n o=true:=fun i o ho=>aeI.1 kT o (aeG ho);have pk:Ok Z0 w0 O ψ0 Z ψ (nh rid st.heap).get w:=k.sub k.ed.kY fun id=>kA;have pt:cU Z ψ (nh rid st.heap).get w n (fun d=>bH rid (look st.tmps d)) a :=⟨fun d=>xg ((t.rep d).less (fun _ h=>h) (cz.refl _ _) fun i hi=>⟨kA hi,rfl⟩),t.size,t.defers⟩;have pm:tn (mI rid fun _=>False) (nh rid st.heap).get:=fun i ty cs hb=>by
   obtain⟨_,o',h1,h2⟩:=iH hb
   cases o' with
   |own ok xs=>cases h2
   |box zr cs'=>cases h2;exact iU cs'
  have Et:look (st.tmps.map fun p=>(p.1,bH rid p.2))=fun d=>bH rid (look st.tmps d):=funext fun d=>BC (bH rid) (by simp only[bH]) st.tmps d
  cases draw with
  |false =>
   refine wp_region ?_;rw[←En ops]
   cases QE:ops.any (makes ·.op) with
   |false =>
    have hp:kY false rid ops st=st:=by unfold kY;rw[QE];rfl
    rw[hp]at hx;refine lB V (rid:=rid) (n:=n) (b:=_) false (fun _ i o ho=>?_) jf Es hQ _ 0 st Z ψ a w (ox ops) hx ⟨k,t,fun d=>?_,fun i ty cs hb=>?_⟩
    ·have:=Array.any_eq_false'.1 QE o (aeG ho);simpa using this
    ·exact(aM.top _).imp fun id _ h=>by cases h
    ·exact(aG.top _).imp fun id _ h=>by cases h
   |true =>
    have hp:kY false rid ops st={ tmps:=st.tmps.map fun p=>(p.1,bH rid p.2),heap:=nh rid st.heap }:=by unfold kY;rw[QE];rfl
    rw[hp]at hx;refine lB V (rid:=rid) (n:=n) (b:=_) true (fun h=>by cases h) jf Es hQ _ 0 _ Z ψ a w (ox ops) hx ⟨pk,by rw[Et];exact pt,fun d=>?_,fun i ty cs hb=>?_⟩
    ·rw[Et];exact(pQ _).imp fun id h1 _ h2=>(h1 h2).elim
    ·exact(pm i ty cs hb).imp fun id h1 _ h2=>(h1 h2).elim
  |true =>
   have hp:kY true rid ops st={ tmps:=st.tmps.map fun p=>(p.1,bH rid p.2),heap:=nh rid st.heap }:=by unfold kY;rw[Bool.true_or];rfl
   rw[hp]at hx;simp only[Bool.not_true,Bool.false_or,Bool.and_eq_true]at hdr;obtain⟨af6,aaZ,Ei⟩:=hdr;refine wp_region_any hm ?_;obtain⟨T,H,E,h1,h2,h3,eQ,h4,h5,h6⟩:=trace (kk:=kk) (r:=r) (ops.toList.zipIdx.map fun p=>(p.2,p.1)) 0 _ (ox ops) (by simp) hx;rw[Et]at h1;have D:Dr P Eqs Sg F rid n ops b T H E:=⟨jf,af6,aaZ,Es,Ei,fun k o ho=>h3 k o (aeH _) ho,fun id bR=>by rw[h2]at bR;obtain⟨o,ho⟩:=acx.1 bR;exact(iH ho).1⟩;have yJ:∀k,¬((Array.replicate ops.size false).getD k false=true):=fun k hk=>by
    rw[Array.getD_eq_getD_getElem?,Array.getElem?_replicate]at hk
    split at hk<;>simp at hk
   rw[show max 0 ops.size=ops.size by omega]at h5 h6;have w2:({ w with drawn:=w.drawn+1 }:World).heap=w.heap:=rfl;refine D.any V (Z0:=Z0) (w0:=w0) (O:=O) (ψ0:=ψ0) (fun Z ψ a w j=>hQ eQ Z ψ a w h4 (by rw[h6];exact j.ok) (by rw[h5,h6];exact j.tr)) ops.size _ (T 0) (H 0) a _ Z ψ (by simp) ?_ ?_ ?_
   ·unfold mf;rw[List.filter_eq_self.2,List.length_range];intro k _;have:=yJ k;simpa using this
   ·refine⟨fun i hi=>(yJ i hi).elim,fun i j hi=>(yJ i hi).elim,?_,fun j o d hj=>(yJ j hj).elim,fun d _=>rfl⟩;obtain⟨q,hq1,hq2,hq3⟩:=QP E (fun k=>(Array.replicate ops.size false).getD k false=true) ops.size;refine⟨q,hq1,hq2,hq3,fun id=>⟨fun qB=>?_,fun qB=>?_⟩⟩
    ·symm
     refine D.Ag q (aeH _) hq1 (fun k _ hk hw=>(yJ k (hq2 k hk hw)).elim) id fun k _ hk _ ho=>?_;have:=qB (ho.parts (by omega)).1;exact yJ _ this
    ·rw[h2];apply Classical.not_not.1;intro bw;obtain⟨o,ho⟩:=acx.1 bw;exact qB fun hr=>absurd hr (iH ho).1
   ·rw[h1,h2];refine⟨pk.BD w2 rfl rfl rfl,pt.BD w2,fun d=>(pQ _).imp fun id h3 h4=>(h3 h4).elim,fun i ty cs hb=>(pm i ty cs hb).imp fun id h3 h4=>(h3 h4).elim⟩
 ·cases hx
end Go.Vs
