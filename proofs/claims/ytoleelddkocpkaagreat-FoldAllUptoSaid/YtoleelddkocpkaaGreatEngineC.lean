/- The value semantics is sound -/
import Derived.Test.YtoleelddkocpkaaGreatEngineB
import Derived.Maps.RangeRun
import Derived.ChangeMaps
set_option linter.unusedSimpArgs false
set_option linter.unusedVariables false
namespace Go.Vs
variable {P:Program} {Z Z':Nat→Prop} {ψ ψ':Nat→Value} {h h':Hp} {w w':World} {B0:Nat} {O:Nat→Prop} {N:Nat→Prop}
theorem fG:∀(k:K) (x:k.T),(enc k x).length=k.sz
 |.int _,_=>rfl
 |.bool,_=>rfl
 |.str,_=>rfl
 |.sl _,_=>rfl
 |.mp _ _,_=>rfl
 |.fn _,_=>rfl
 |.pair a b,x=>by simp only[enc,List.length_append,K.sz];rw[fG a,fG b]
 |.one k,x=>by simp only[enc,K.sz];exact fG k x
theorem sj(hh:Heap):∀(k:K) (x:k.T),(enc k x).map (cX hh)=enc k x
 |.int _,_=>rfl
 |.bool,_=>rfl
 |.str,_=>rfl
 |.sl _,_=>rfl
 |.mp _ _,_=>rfl
 |.fn _,_=>rfl
 |.pair a b,x=>by simp only[enc,List.map_append];rw[sj hh a,sj hh b]
 |.one k,x=>by simp only[enc];exact sj hh k x
theorem mF:∀(k:K) (x:k.T) (id:Nat),AV.bL id∉enc k x
 |.int _,_,_=>by simp[enc]
 |.bool,_,_=>by simp[enc]
 |.str,_,_=>by simp[enc]
 |.sl _,_,_=>by simp[enc]
 |.mp _ _,_,_=>by simp[enc]
 |.fn _,_,_=>by simp[enc]
 |.pair a b,x,id=>by
  simp only[enc,List.mem_append];rintro(h|h)
  ·exact mF a _ id h
  ·exact mF b _ id h
 |.one k,x,id=>by simp only[enc];exact mF k x id
theorem yQ{hh:Heap}{ok:OK}{n:Nat}{xs:ok.T}(hg:hh.get n=some (.own ok xs)):ep hh ok (.bL n)=some xs:=by simp[ep,hg]
theorem qu{hh:Heap}:∀(dK:List CK) (n:Nat) (x:rL dK),(∀e∈ba dK n x,hh.get e.1=some e.2)→cS dK hh (aI dK n x)=some x
 |[],n,x,_=>rfl
 |.val k::r,n,x,hg=>by
  have h1:(aI (.val k::r) n x).take k.sz=enc k x.1:=by simp only[aI];rw[←fG k x.1,List.take_left]
  have h2:(aI (.val k::r) n x).drop k.sz=aI r (n+1) x.2:=by simp only[aI];rw[←fG k x.1,List.drop_left]
  have e:cS (.val k::r) hh (aI (.val k::r) n x)=(match dz k (((aI (.val k::r) n x).take k.sz).map (cX hh)),cS r hh ((aI (.val k::r) n x).drop k.sz) with
   |some x,some y=>some ((x,y):k.T×rL r)
   |_,_=>none):=by generalize aI (.val k::r) n x=l;cases l<;>rfl
  have h4:dz k (((aI (.val k::r) n x).take k.sz).map (cX hh))=some x.1:=by rw[h1];exact(congrArg (dz k) (sj hh k x.1)).trans (vK k x.1)
  have h5:cS r hh ((aI (.val k::r) n x).drop k.sz)=some x.2:=by rw[h2];exact qu r (n+1) x.2 hg
  rw[e];generalize dz k (((aI (.val k::r) n x).take k.sz).map (cX hh))=o1 at h4 ⊢;generalize cS r hh ((aI (.val k::r) n x).drop k.sz)=o2 at h5 ⊢;subst h4;subst h5;rfl
 |.own ok::r,n,x,hg=>by
  simp only[ba]at hg;have h1:=yQ (hg _ aco);have h2:=qu r (n+1) x.2 (fun e he=>hg e (abC _ he));have e:cS (.own ok::r) hh (aI (.own ok::r) n x)=(match ep hh ok (.bL n),cS r hh (aI r (n+1) x.2) with
   |some x,some y=>some ((x,y):ok.T×rL r)
   |_,_=>none):=rfl
  rw[e,h1,h2];rfl
theorem QD{hh:Heap}(b:BK){i n:Nat}{x:b.T}(hg:∀e∈kc b i n x,hh.get e.1=some e.2):rP b hh i=some x:=by
 cases b with
 |box ty c =>
  grind [kc,JE,aI,List.mem_cons_self,rP,qu,List.mem_cons_of_mem]
 |own ok=>exact yQ (hg _ (by simp only[kc];exact aco))
theorem Ar{hh:Heap}:∀(bs:List BK) (is:List Nat) (n:Nat) (x:z8 bs),is.length=bs.length→(∀e∈bG bs is n x,hh.get e.1=some e.2)→dn bs hh is=some x
 |[],[],n,x,_,_=>rfl
 |[],_::_,n,x,hl,_=>by simp at hl
 |_::_,[],n,x,hl,_=>by simp at hl
 |b::r,i::is,n,x,hl,hg=>by
  simp only[bG]at hg;have h2:=QD b (fun e he=>hg e (ab1 _ he));have h3:=Ar r is (n+16) x.2 (by simpa using hl) (fun e he=>hg e (abV _ he));have e:dn (b::r) hh (i::is)=(match rP b hh i,dn r hh is with
    |some x,some y=>some ((x,y):b.T×z8 r)
    |_,_=>none):=rfl
  rw[e,h2,h3];rfl
theorem yR{i:Nat}{o:Ob}:∀{hh:Heap},ck (hh.map (·.1))=true→(i,o)∈hh→hh.get i=some o
 |[],_,h=>by cases h
 |(j,o')::r,hn,h=>by
  obtain⟨h1,h2⟩:=nH hn;simp only[Heap.get];rcases abL.1 h with e|h
  ·cases e;simp
  ·rw[if_neg,yR h2 h]
   grind
theorem BC{hh:Heap}:∀(dK:List CK) (n:Nat) (x:rL dK) (id:Nat),AV.bL id∉q8 dK (aI dK n x)
 |[],n,x,id=>by simp[aI,q8]
 |.val k::r,n,x,id=>by
  have h1:(aI (.val k::r) n x).take k.sz=enc k x.1:=by grind [aI,fG,List.take_left]
  have h2:(aI (.val k::r) n x).drop k.sz=aI r (n+1) x.2:=by grind [aI,fG,List.drop_left]
  have e:q8 (.val k::r) (aI (.val k::r) n x)=(aI (.val k::r) n x).take k.sz++q8 r ((aI (.val k::r) n x).drop k.sz):=by rfl
  rw[e,h1,h2,List.mem_append];rintro(h|h)
  ·exact mF k x.1 id h
  ·exact BC (hh:=hh) r (n+1) x.2 id h
 |.own ok::r,n,x,id=>by simp only[aI,q8];exact BC (hh:=hh) r (n+1) x.2 id
theorem CM{hh:Heap}:∀(bs:List BK) (is:List Nat) (n:Nat) (x:z8 bs) (id:Nat),(∀e∈bG bs is n x,hh.get e.1=some e.2)→AV.bL id∉gD bs hh is
 |[],is,n,x,id,_=>by grind [gD]
 |_::_,[],n,x,id,_=>by simp[gD]
 |b::r,i::is,n,x,id,hg=>by
  simp only[bG]at hg;simp only[gD,List.mem_append];rintro(h|h)
  ·cases b with
   |box ty c =>simp only[B5]at h;rw[hg (i,.box ty (aI c n x.1)) (List.mem_append_left _ (by grind [kc,List.mem_cons_self]))]at h;exact BC (hh:=hh) c n x.1 id h
   |own ok=>simp[B5]at h
  ·exact CM r is (n+16) x.2 id (fun e he=>hg e (abV _ he)) h
theorem Gp{hh:Heap}:∀(cap:List AV) (is is':List Nat) (vs:List Value),kd cap=some is→is'.length=is.length→(∀p∈is.zip is',hh.get p.1≠none∧(h' p.2≠none→ψ' p.2=ψ p.1)) → ax Z ψ hh.get w cap vs→ax Z' ψ' h' w (is'.map fun i=>.ref i 0 0 0) vs
 |[],is,is',vs,h1,hl,_,hr=>by
  simp only[kd]at h1
  cases h1
  cases is' with
  |nil=>simpa only[List.map_nil,ax] using hr
  |cons c r=>simp at hl
 |v::cap,is,is',vs,h1,hl,hp,hr=>by
  simp only[kd]at h1
  split at h1
  ·rename_i i is1 h3 h4
   cases h1
   cases is' with
   |nil=>simp at hl
   |cons c r =>simp only[List.zip_cons_cons]at hp;simp only[List.map_cons,ax]at hr ⊢;obtain⟨u,us,rfl,h7,h8⟩:=hr;obtain⟨sz,rfl⟩:=qm h3;obtain⟨h5,h6⟩:=hp _ aco;exact⟨u,us,rfl,BA h7 h5 h6,Gp cap is1 r us h4 (by simpa using hl) (fun p h=>hp p (abC _ h)) h8⟩
  ·cases h1
theorem uZ:∀(cap:List AV) (is:List Nat),kd cap=some is→is.length=cap.length
 |[],is,h=>by simp only[kd]at h;cases h;rfl
 |v::cap,is,h=>by
  simp only[kd]at h
  split at h
  ·rename_i i is1 h3 h4
   cases h
   simp[uZ cap is1 h4]
  ·cases h
theorem u4:∀(cs:List AV) (is:List Nat),qb cs=some is→is.length=cs.length
 |[],is,h=>by simp only[qb]at h;cases h;rfl
 |c::r,is,h=>by
  cases c<;>simp only[qb]at h<;>first|(cases h;done)|skip
  split at h
  ·rename_i is' h1
   cases h
   simp[u4 r is' h1]
  ·cases h
theorem Gq{hh:Heap}:∀(cs:List AV) (is gS:List Nat) (vs:List Value),qb cs=some is→gS.length=is.length→(∀p∈is.zip gS,hh.get p.1≠none∧(h' p.2≠none→ψ' p.2=ψ p.1)) → ax Z ψ hh.get w cs vs→ax Z' ψ' h' w (gS.map .bL) vs
 |[],is,gS,vs,h,hl,hp,hr=>by
  simp only[qb]at h
  cases h
  have:gS=[]:=ack hl;subst this;simpa only[List.map_nil,ax] using hr
 |c::r,is,gS,vs,h,hl,hp,hr=>by
  cases c<;>simp only[qb]at h<;>first|(cases h;done)|skip
  rename_i i
  split at h
  ·rename_i is' h1
   cases h
   cases gS with
   |nil=>simp at hl
   |cons i' gS =>simp only[List.zip_cons_cons]at hp;obtain⟨h5,h6⟩:=hp _ aco;simp only[List.map_cons,ax]at hr ⊢;obtain⟨u,us,rfl,h3,h4⟩:=hr;refine⟨u,us,rfl,?_,Gq r is' gS us h1 (by simpa using hl) (fun p Ya=>hp p (abC _ Ya)) h4⟩;simp only[aC]at h3 ⊢;exact⟨h3.1,fun hn=>(h3.2 h5).trans (h6 hn).symm⟩
  ·cases h
theorem l9{hh:Heap}(g:Good Z ψ hh.get w B0 O)(hz:∀b,Z b→Z' b):∀(ps:List PK) (ids gS:List Nat) (s:Nat) (vs:List AV) (us:List Value) (x:JC (lF ps)),gS.length=ids.length→cK ps vs=some ids→fB ps hh vs=some x →(∀id b,AV.bL id∈du ps vs→hh.get id≠none→ob (ψ id)=some b→Z' b)→(∀p∈ids.zip gS,hh.get p.1≠none∧(h' p.2≠none→ψ' p.2=ψ p.1))→ax Z ψ hh.get w vs us→ax Z' ψ' h' w ((aX ps gS s x).map (·.2)) us
 |[],ids,gS,s,vs,us,x,hl,hi,hv,hf,hp,hr=>by
  cases vs with
  |nil=>simpa only[aX,List.map_nil,ax] using hr
  |cons a r=>simp[cK]at hi
 |.val k::ps,ids,gS,s,vs,us,x,hl,hi,hv,hf,hp,hr=>by
  cases vs with
  |nil=>simp[cK]at hi
  |cons a r =>simp only[cK]at hi;simp only[ax]at hr;obtain⟨u,jt,rfl,h3,h4⟩:=hr;obtain⟨h1,h2⟩:=Aq hv;simp only[du]at hf;simp only[aX,List.map_cons,ax];exact⟨u,jt,rfl,tD g hz (fun id b bM=>hf id b (ab1 _ bM)) h1 h3,l9 g hz ps ids gS (s+1) r jt x.2 hl hi h2 (fun id b bM=>hf id b (abV _ bM)) hp h4⟩
 |.ref::ps,ids,gS,s,vs,us,x,hl,hi,hv,hf,hp,hr=>by
  cases vs with
  |nil=>simp[cK]at hi
  |cons a r =>
   simp only[cK]at hi
   split at hi
   ·rename_i i is h1 h2
    cases hi
    simp only[ax]at hr;obtain⟨u,jt,rfl,h3,h4⟩:=hr
    cases gS with
    |nil=>simp at hl
    |cons i' is' =>simp only[List.zip_cons_cons]at hp;obtain⟨sz,rfl⟩:=qm h1;obtain⟨h5,h6⟩:=hp _ aco;simp only[aX,List.map_cons,ax];exact⟨u,jt,rfl,BA h3 h5 h6,l9 g hz ps is is' (s+1) r jt x (by simpa using hl) h2 hv hf (fun p h=>hp p (abC _ h)) h4⟩
   ·cases hi
 |.own::ps,ids,gS,s,vs,us,x,hl,hi,hv,hf,hp,hr=>by
  cases vs with
  |nil=>simp[cK]at hi
  |cons a r =>
   cases a<;>simp only[cK]at hi<;>first|(cases hi;done)|skip
   rename_i i
   split at hi
   ·rename_i is h2
    cases hi
    simp only[ax]at hr;obtain⟨u,jt,rfl,h3,h4⟩:=hr
    cases gS with
    |nil=>simp at hl
    |cons i' is' =>simp only[List.zip_cons_cons]at hp;obtain⟨h5,h6⟩:=hp _ aco;simp only[aX,List.map_cons,ax];refine⟨u,jt,rfl,?_,l9 g hz ps is is' (s+1) r jt x (by simpa using hl) h2 hv hf (fun p h=>hp p (abC _ h)) h4⟩;simp only[aC]at h3 ⊢;exact⟨h3.1,fun hn=>(h3.2 h5).trans (h6 hn).symm⟩
   ·cases hi
 |.uF f m::ps,ids,gS,s,vs,us,x,hl,hi,hv,hf,hp,hr=>by
  cases vs with
  |nil=>simp[cK]at hi
  |cons a r =>
   cases a<;>simp only[cK]at hi<;>first|(cases hi;done)|skip
   rename_i f' cap
   split at hi
   ·rename_i hc;obtain⟨rfl,uR⟩:=hc
    split at hi
    ·rename_i a1 b1 h1 h2
     cases hi
     simp only[ax]at hr;obtain⟨u,jt,rfl,h3,h4⟩:=hr;have h5:=uZ cap a1 h1;have Ai:(a1++b1).zip gS=a1.zip (gS.take m)++b1.zip (gS.drop m):=by
      conv=>lhs;rw[←List.take_append_drop m gS]
      rw[List.zip_append];rw[List.length_take,Nat.min_eq_left]
      ·omega
      ·rw[hl,List.length_append];omega
     rw[Ai]at hp;simp only[aX,List.map_cons,ax];refine⟨u,jt,rfl,?_,l9 g hz ps b1 (gS.drop m) (s+1) r jt x (by rw[List.length_drop,hl,List.length_append];omega) h2 hv hf (fun p h=>hp p (abV _ h)) h4⟩;simp only[aC]at h3 ⊢;obtain⟨ws,h6,h7⟩:=h3;exact⟨ws,h6,Gp cap a1 (gS.take m) _ h1 (by rw[List.length_take,Nat.min_eq_left (by rw[hl,List.length_append];omega)];omega) (fun p h=>hp p (ab1 _ h)) h7⟩
    ·cases hi
   ·cases hi
 |.agg m::ps,ids,gS,s,vs,us,x,hl,hi,hv,hf,hp,hr=>by
  cases vs with
  |nil=>simp[cK]at hi
  |cons a r =>
   cases a<;>simp only[cK]at hi<;>first|(cases hi;done)|skip
   rename_i cs
   split at hi
   ·rename_i uR
    split at hi
    ·rename_i a1 b1 h1 h2
     cases hi
     simp only[ax]at hr;obtain⟨u,jt,rfl,h3,h4⟩:=hr;have h5:=u4 cs a1 h1;have Ai:(a1++b1).zip gS=a1.zip (gS.take m)++b1.zip (gS.drop m):=by
      conv=>lhs;rw[←List.take_append_drop m gS]
      rw[List.zip_append];rw[List.length_take,Nat.min_eq_left]
      ·omega
      ·rw[hl,List.length_append];omega
     rw[Ai]at hp;simp only[aX,List.map_cons,ax];refine⟨u,jt,rfl,?_,l9 g hz ps b1 (gS.drop m) (s+1) r jt x (by rw[List.length_drop,hl,List.length_append];omega) h2 hv hf (fun p h=>hp p (abV _ h)) h4⟩;simp only[aC]at h3 ⊢;obtain⟨ws,h6,h7⟩:=h3;exact⟨ws,h6,Gq cs a1 (gS.take m) _ h1 (by rw[List.length_take,Nat.min_eq_left (by rw[hl,List.length_append];omega)];omega) (fun p h=>hp p (ab1 _ h)) h7⟩
    ·cases hi
   ·cases hi
theorem QE(hh:Heap)(k:K)(x:k.T):gY k hh (cj k x)=some x:=by unfold gY;rw[if_pos (CH k x).symm,vL];exact(congrArg (dz k) (sj hh k x)).trans (vK k x)
theorem nL:∀(dK:List CK) (c n:Nat) (x:rL dK),gq dK c=true→(aI dK n x)[nD dK c]? = some (.bL (n+c))
 |[],c,n,x,h=>by simp[gq]at h
 |.val k::r,0,n,x,h=>by simp[gq]at h
 |.val k::r,c+1,n,x,h=>by simp only[aI,nD];have ih:=nL r c (n+1) x.2 (by simpa[gq] using h);have hl:(enc k x.1).length=k.sz:=fG k x.1;generalize enc k x.1=l at hl ⊢;rw[List.getElem?_append_right (by omega),hl,Nat.add_sub_cancel_left,show n+(c+1)=n+1+c by omega];exact ih
 |.own ok::r,0,n,x,h=>by simp[aI,nD]
 |.own ok::r,c+1,n,x,h=>by simp only[aI,nD];rw[Nat.add_comm 1,List.getElem?_cons_succ,show n+(c+1)=n+1+c by omega];exact nL r c (n+1) x.2 (by simpa[gq] using h)
theorem As:∀(bs:List BK) (b:Nat) (is:List Nat) (n:Nat) (x:z8 bs) (ty:TypeId) (c:List CK) (bi:Nat),bs[b]? = some (.box ty c)→is[b]? = some bi→∃xb,(bi,.box ty (aI c (n+16*b) xb))∈bG bs is n x
 |[],b,is,n,x,_,_,bi,h,_=>by simp at h
 |b0::r,b,[],n,x,_,_,bi,_,h=>by simp at h
 |b0::r,0,i::is,n,x,ty,c,bi,h1,h2=>by
  grind [List.getElem?_cons_zero,Option.some.injEq,bG,kc,List.mem_append_left,List.mem_cons_self]
 |b0::r,b+1,i::is,n,x,ty,c,bi,h1,h2=>by
  obtain⟨xb,h3⟩:=As r b is (n+16) x.2 ty c bi (by simpa using h1) (by simpa using h2)
  grind [bG,List.mem_append_right]
theorem mG{bs:List BK}{hh:Heap}{is:List Nat}{nb:Nat}{xb:z8 bs}(hl:is.length=bs.length)(Xy:∀e∈bG bs is nb xb,hh.get e.1=some e.2):∀(rs:List RK) (ids2:List Nat) (m:Nat) (y:mn rs),rR bs rs=true →(∀e∈au rs m y,hh.get e.1=some e.2)→bN bs rs hh is (aZ rs ids2 nb m y)=some y
 |[],ids2,m,y,_,_=>rfl
 |.val k::r,ids2,m,y,hk,hg=>by
  simp only[rR,List.all_cons,Bool.and_eq_true,E5]at hk;have h1:=QE hh k y.1;have h2:=mG hl Xy r ids2 (m+1) y.2 hk.2 hg;have e:bN bs (.val k::r) hh is (aZ (.val k::r) ids2 nb m y)=(match gY k hh (cj k y.1),bN bs r hh is (aZ r ids2 nb (m+1) y.2) with
   |some x,some y=>some ((x,y):k.T×mn r)
   |_,_=>none):=rfl
  rw[e];generalize gY k hh (cj k y.1)=o1 at h1 ⊢;generalize bN bs r hh is (aZ r ids2 nb (m+1) y.2)=o2 at h2 ⊢;subst h1;subst h2;rfl
 |.own ok::r,ids2,m,y,hk,hg=>by
  simp only[rR,List.all_cons,Bool.and_eq_true,E5]at hk;simp only[au]at hg;have h1:=yQ (hg _ aco);have h2:=mG hl Xy r ids2 (m+1) y.2 hk.2 (fun e he=>hg e (abC _ he));have e:bN bs (.own ok::r) hh is (aZ (.own ok::r) ids2 nb m y)=(match ep hh ok (.bL m),bN bs r hh is (aZ r ids2 nb (m+1) y.2) with
   |some x,some y=>some ((x,y):ok.T×mn r)
   |_,_=>none):=rfl
  rw[e];generalize ep hh ok (.bL m)=o1 at h1 ⊢;generalize bN bs r hh is (aZ r ids2 nb (m+1) y.2)=o2 at h2 ⊢;subst h1;subst h2;rfl
 |.eX b alts::r,ids2,m,y,hk,hg=>by
  simp only[rR,List.all_cons,Bool.and_eq_true,E5]at hk;have h2:=mG hl Xy r ids2 (m+1) y.2 hk.2 hg;have h1:oa bs hh is b alts (wx b nb alts y.1)=some y.1:=by
   cases hy:y.1 with
   |none=>rfl
   |some p =>
    obtain⟨al,i⟩:=p;have h3:=hk.1
    split at h3
    ·rename_i bk hbk;have aH:=(abJ.1 hbk).1;have Sp:is[b]? = some (is[b]'(by omega)):=aby (by omega);rw[Bool.and_eq_true,decide_eq_true_eq]at h3;obtain⟨h3,Fe⟩:=h3;have h3a:∀a:Fin alts.length,gq bk.dK (alts.get a).1=true:=fun a=>ac3.1 h3 _ (List.get_mem alts a)
     cases bk with
     |own ok=>have:=h3a al;grind [BK.dK,gq]
     |box ty c0 =>
      obtain⟨xb',h4⟩:=As bs b is nb xb ty c0 _ hbk Sp;have h5:=Xy _ h4;simp only[BK.dK]at h3a;simp only[oa,wx,hbk,Sp,h5,BK.dK];have key:(List.finRange alts.length).find? (fun a=>B6 c0 (aI c0 (nb+16*b) xb') (nb+16*b+(alts.get al).1) (alts.get al).2.1 (alts.get al).2.2 (alts.get a))=some al:=by
       cases hf:(List.finRange alts.length).find? (fun a=>B6 c0 (aI c0 (nb+16*b) xb') (nb+16*b+(alts.get al).1) (alts.get al).2.1 (alts.get al).2.2 (alts.get a)) with
       |none =>have:=List.find?_eq_none.1 hf al (List.mem_finRange al);simp_all [B6,Bool.and_eq_true,decide_eq_true_eq,trivial,nL,SF]
       |some a' =>
        have hf':=adn hf;obtain⟨h6,_,h7,_⟩:=CL hf';rw[nL c0 _ _ xb' (h3a a')]at h6;simp only[Option.some.injEq,AV.bL.injEq]at h6;have h8:(alts.get a').1=(alts.get al).1:=by omega
        congr 1;have wG:∀a:Fin alts.length,(alts.map fun a=>(a.1,a.2.2))[a.val]? = some ((alts.get a).1,(alts.get a).2.2):=fun a=>by simp_all
        grind [Fin.ext,List.getElem?_inj]
      rw[key];rfl
    ·cases h3
  have e:bN bs (.eX b alts::r) hh is (aZ (.eX b alts::r) ids2 nb m y)=(match oa bs hh is b alts (wx b nb alts y.1),bN bs r hh is (aZ r ids2 nb (m+1) y.2) with
   |some x,some y=>some ((x,y):Option (Fin alts.length×Nat)×mn r)
   |_,_=>none):=rfl
  rw[e];generalize oa bs hh is b alts (wx b nb alts y.1)=o1 at h1 ⊢;generalize bN bs r hh is (aZ r ids2 nb (m+1) y.2)=o2 at h2 ⊢;subst h1;subst h2;rfl
 |.agg c::r,ids2,m,y,hk,hg=>by
  simp only[rR,List.all_cons,Bool.and_eq_true,E5]at hk;simp only[au]at hg;have h1:=qu (hh:=hh) c m y.1 (fun e he=>hg e (ab1 _ he));have h2:=mG hl Xy r ids2 (m+1) y.2 hk.2 (fun e he=>hg e (abV _ he));have e:bN bs (.agg c::r) hh is (aZ (.agg c::r) ids2 nb m y)=(match cS c hh (aI c m y.1),bN bs r hh is (aZ r ids2 nb (m+1) y.2) with
   |some x,some y=>some ((x,y):rL c×mn r)
   |_,_=>none):=rfl
  rw[e];generalize cS c hh (aI c m y.1)=o1 at h1 ⊢;generalize bN bs r hh is (aZ r ids2 nb (m+1) y.2)=o2 at h2 ⊢;subst h1;subst h2;rfl
def rh(g:aP)(x:g.A):Hp:=(bG g.bs (aS g.bs.length) 2000 x.2).get
def kW(g:aP)(y:g.B):Heap:=bG g.bs (aS g.bs.length) 2000 y.2++au g.rs 3000 y.1
def HZ(g:aP)(x:g.A):List AV:=(aX g.ps (aS g.bs.length) 0 x.1).map (·.2)
def Gs(P:Program)(f:FuncId)(g:aP)(x:g.A)(y:g.B):Prop :=∀(Z:Nat→Prop) (ψ0:Nat→Value) (w:World) (kV:List Value),Good Z ψ0 (rh g x) w w.heap.size (Own ψ0 (rh g x))→ax Z ψ0 (rh g x) w (HZ g x) kV → Calls P (f%1000) kV.toArray w fun e w'=>∃v Z' ψ',e=.returned v∧(∀b,Z b→Z' b)∧(∀b,Z' b→Z b∨Own ψ0 (rh g x) b∨w.heap.size≤b)∧cP ψ0 (rh g x) w w' ∧ Good Z' ψ' (kW g y).get w' w.heap.size (Own ψ0 (rh g x))∧(∀i∈aS g.bs.length,ψ' i=ψ0 i)∧aC Z' ψ' (kW g y).get w' (fk (aZ g.rs (aS g.bs.length) 2000 3000 y.1)) v
theorem H3{ψ:Nat→Value}{b:Nat}:¬Own ψ gK b:=fun⟨_,h,_⟩=>h rfl
theorem Gs.zero{f:FuncId}{g:aP}{x:g.A}{y:g.B}(hb:g.bs=[])(c:Gs P f g x y):adI P f g x y:=by
 obtain⟨ps,bs,rs,_⟩:=g;simp only at hb;subst hb;intro Z w kV hz hr;have e0:rh ⟨ps,[],rs,_⟩ x=gK:=by rfl
 have e1:kW ⟨ps,[],rs,_⟩ y=au rs 3000 y.1:=by rfl
 have hO:Own Mf gK=fun _=>False:=funext fun b=>propext ⟨H3,False.elim⟩;unfold Gs at c;rw[e0,e1]at c;refine(c Z Mf w kV ⟨fun _ _ _ h=>(by cases h),fun _ _ _ h=>(by cases h),fun _ _ h=>absurd rfl h,fun _ _ _ h=>absurd rfl h,hz⟩ hr).mono fun e w' ⟨v,Z',ψ',h1,h2,h3,h4,h5,_,h6⟩=>?_;exact⟨v,Z',ψ',h1,h2,fun b hb=>(h3 b hb).imp (fun h=>h) fun h=>h.resolve_left H3,h4,by simp_all,h6⟩
theorem J3{bs:List BK}{hh:Heap}{x:z8 bs}(hd:dn bs hh []=some x):bs=[]:=by
 cases bs with
 |nil=>rfl
 |cons b r=>cases hd
variable {Eqs:TypeId→Option K} {Sg:FuncId→Option aP} {F:(f:FuncId)→(g:aP)→g.A→Option g.B}
theorem J4{a b:List Nat}(h:ck (a++b)=true):ck a=true:=by
 induction a with
 |nil=>rfl
 |cons i r ih =>simp_all [nH,ck,Bool.and_eq_true,Bool.not_eq_true',absurd,List.mem_append_left,List.contains_iff_mem]
theorem Good.H4(g:Good Z ψ h w B0 O)(B:Nat):Good Z ψ h w B (Own ψ h) :=⟨g.box,g.row,fun id b h1 h2=>⟨(g.live id b h1 h2).1,.inr ⟨id,h1,h2⟩⟩,g.apart,g.kg⟩
theorem oZ:∀(l:List Nat) (hh:Heap) (i:Nat),(im hh l).get i=if i∈l then none else hh.get i
 |[],hh,i=>by simp[im]
 |j::r,hh,i=>by
  simp only[im];rw[oZ r (hh.del j) i];by_cases h1:i∈r
  ·simp[h1]
  ·by_cases h2:i=j
   ·subst h2;simp[Heap.gQ]
   ·rw[Heap.jh h2];simp[h1,h2]
theorem iw:∀(dK:List CK) (n:Nat) (x:rL dK),(ba dK n x).map (·.1)=cy dK n
 |[],_,_=>rfl
 |.val k::r,n,x=>iw r (n+1) x.2
 |.own ok::r,n,x=>by simp only[ba,cy,List.map_cons];rw[iw r (n+1) x.2]
theorem mH:∀(bs:List BK) (is:List Nat) (n:Nat) (x:z8 bs),is.length=bs.length→(bG bs is n x).map (·.1)=b7 bs is n
 |[],is,n,x,_=>by cases is<;>rfl
 |b::r,[],n,x,hl=>by simp at hl
 |b::r,i::is,n,x,hl=>by
  simp only[bG,b7,List.map_append];rw[mH r is (n+16) x.2 (by simpa using hl),←List.cons_append];congr 1
  cases b with
  |box ty c=>simp only[kc,List.map_cons,BK.dK];rw[iw]
  |own ok=>simp[kc,BK.dK,cy]
theorem fX:∀(rs:List RK) (m:Nat) (y:mn rs),(au rs m y).map (·.1)=bE rs m
 |[],_,_=>rfl
 |.own ok::r,m,y=>by simp only[au,bE,List.map_cons];rw[fX r (m+1) y.2]
 |.val _::r,m,y=>fX r (m+1) y.2
 |.eX _ _::r,m,y=>fX r (m+1) y.2
 |.agg c::r,m,y=>by have e1:(ba c m y.1).map (·.1)=cy c m:=iw c m y.1;simp only[au,bE,List.map_append];rw[fX r (m+1) y.2];exact congrArg (·++_) e1
theorem qv:∀(dK:List CK) (n:Nat) (x:rL dK),gj dK (aI dK n x)=cy dK n
 |[],_,_=>rfl
 |.val k::r,n,x=>by
  have h2:(aI (.val k::r) n x).drop k.sz=aI r (n+1) x.2:=by simp only[aI];rw[←fG k x.1,List.drop_left]
  have e:gj (.val k::r) (aI (.val k::r) n x)=gj r ((aI (.val k::r) n x).drop k.sz):=by generalize aI (.val k::r) n x=l;cases l<;>rfl
  rw[e,h2,qv r (n+1) x.2];rfl
 |.own ok::r,n,x=>by simp only[aI,gj,qa,cy,List.cons_append,List.nil_append];rw[qv r (n+1) x.2]
theorem Au{hh:Heap}:∀(bs:List BK) (is:List Nat) (n:Nat) (x:z8 bs),is.length=bs.length→(∀e∈bG bs is n x,hh.get e.1=some e.2)→dd bs hh is=b7 bs is n
 |[],is,n,x,_,_=>by rfl
 |_::_,[],n,x,hl,_=>by simp at hl
 |b::r,i::is,n,x,hl,hg=>by
  simp only[bG]at hg;simp only[dd,b7];rw[Au r is (n+16) x.2 (by simpa using hl) (fun e he=>hg e (List.mem_append_right _ he)),←List.cons_append];congr 1
  cases b with
  |box ty c =>
   grind [nC,BK.dK,aI,List.mem_append_left,kc,List.mem_cons_self,qv]
  |own ok=>rfl
theorem kX:∀(rs:List RK) (ids:List Nat) (n m:Nat) (y:mn rs),dS rs (aZ rs ids n m y)=bE rs m
 |[],_,_,_,_=>rfl
 |.own ok::r,ids,n,m,y=>by simp only[aZ,dS,bE,qa,List.cons_append,List.nil_append];rw[kX r ids n (m+1) y.2]
 |.val _::r,ids,n,m,y=>by simp only[aZ,dS,bE];exact kX r ids n (m+1) y.2
 |.eX _ _::r,ids,n,m,y=>by simp only[aZ,dS,bE];exact kX r ids n (m+1) y.2
 |.agg c::r,ids,n,m,y=>by have e1:gj c (aI c m y.1)=cy c m:=qv c m y.1;simp only[aZ,dS,bE,AV.cells];rw[kX r ids n (m+1) y.2];exact congrArg (·++_) e1
theorem mI:∀(rs:List RK) (ids:List Nat) (n m:Nat) (y:mn rs) (id:Nat),AV.bL id∉gE rs (aZ rs ids n m y)
 |[],_,_,_,_,_=>by simp[aZ,gE]
 |.own ok::r,ids,n,m,y,id=>by simp only[aZ,gE];exact mI r ids n (m+1) y.2 id
 |.val k::r,ids,n,m,y,id=>by
  simp only[aZ,gE,List.mem_append];rintro(h|h)
  ·have e:(cj k y.1).cells=enc k y.1:=vL k y.1;exact mF k y.1 id (e▸h)
  ·exact mI r ids n (m+1) y.2 id h
 |.eX _ _::r,ids,n,m,y,id=>by simp only[aZ,gE];exact mI r ids n (m+1) y.2 id
 |.agg c::r,ids,n,m,y,id=>by
  simp only[aZ,gE,AV.cells,List.mem_append];rintro(h|h)
  ·exact BC (hh:=[]) c m y.1 id h
  ·exact mI r ids n (m+1) y.2 id h
theorem QF{gg:aP}{x:gg.A}{y:gg.B}{Tf:List Nat}{oC eE:Nat→Value}{id:Nat}(hl:Tf.length=gg.bs.length)(hrs:rR gg.bs gg.rs=true)(CN:ck (rQ gg)=true) (H5:ck (b7 gg.bs Tf id++bE gg.rs (id+128))=true) (Tg:Good Z' eE (kW gg y).get w' w.heap.size (Own oC (rh gg x))) {v:Value} (ajp:aC Z' eE (kW gg y).get w' (fk (aZ gg.rs (aS gg.bs.length) 2000 3000 y.1)) v) :
  ∃L2:List Ao,dP L2=bG gg.bs Tf id y.2++au gg.rs (id+128) y.1∧L2.map (·.1)=b7 gg.bs Tf id++bE gg.rs (id+128) ∧ Good Z' (eZ eE L2) (dP L2).get w' w.heap.size (Own oC (rh gg x))∧(∀p∈(aS gg.bs.length).zip Tf,eZ eE L2 p.2=eE p.1) ∧ aC Z' (eZ eE L2) (dP L2).get w' (fk (aZ gg.rs Tf id (id+128) y.1)) v:=by
 have hle:(aS gg.bs.length).length=gg.bs.length:=by simp[aS]
 have hn2:ck ((kW gg y).map (·.1))=true:=by unfold kW;rw[List.map_append,mH _ _ _ _ hle,fX];exact CN
 have Xy:∀e∈bG gg.bs (aS gg.bs.length) 2000 y.2,(kW gg y).get e.1=some e.2:=fun e he=>yR hn2 (by unfold kW;exact ab1 _ he);have hgr:∀e∈au gg.rs 3000 y.1,(kW gg y).get e.1=some e.2:=fun e he=>yR hn2 (by unfold kW;exact abV _ he);have Bx:=Ar gg.bs _ 2000 y.2 hle Xy;have hd2:=mG (xb:=y.2) hle Xy gg.rs (aS gg.bs.length) 3000 y.1 hrs hgr
 let vsC:=aZ gg.rs (aS gg.bs.length) 2000 3000 y.1
 let L2:List Ao:=cC gg.bs (kW gg y) (aS gg.bs.length) Tf id y.2++cJ gg.rs vsC (id+128) y.1
 have eH:dP L2=bG gg.bs Tf id y.2++au gg.rs (id+128) y.1:=by show dP (_++_)=_;rw[nJ,jI _ _ _ _ _ _ Bx hl,gR]
 have eN:L2.map (·.1)=b7 gg.bs Tf id++bE gg.rs (id+128):=by show(_++_:List Ao).map _=_;rw[List.map_append,iu _ _ _ _ _ _ Bx hl,fW]
 have eS:L2.filterMap (·.2.1)=rQ gg:=by show(_++_:List Ao).filterMap _=_;rw[List.filterMap_append,kT _ _ _ _ _ _ Bx hl,jw _ _ _ _ hd2,Au _ _ 2000 y.2 hle Xy,kX];rfl
 have hn:ck (L2.map (·.1))=true:=by rw[eN];exact H5
 have j4:=Bz (ψ:=eE) hn;have g3:Good Z' (eZ eE L2) (dP L2).get w' w.heap.size (Own oC (rh gg x)):=by
  refine Tg.rename hn (by rw[eS];exact CN) fun e he=>?_;rcases acS.1 he with he|he
  ·exact mD Tg (fun _ h=>h) gg.bs _ _ id y.2 Bx (fun i b bM _ _=>(CM gg.bs _ 2000 y.2 i Xy bM).elim) (fun s _=>rfl) (fun e he=>j4 e (ab1 _ he)) e he
  ·exact km gg.rs vsC (id+128) y.1 hd2 (fun s _=>rfl) e he
 refine⟨L2,eH,eN,g3,fun p hp=>?_,?_⟩
 ·obtain⟨o,ho⟩:=kU (hh:=kW gg y) gg.bs (aS gg.bs.length) Tf id y.2 hle p hp;exact jv hn (ab1 _ ho)
 ·refine vJ (by rw[oq,oq]) (fun vs tz=>?_) ajp;exact tL (nb:=id) (is':=Tf) Tg (fun _ h=>h) Bx hl (fun e he=>j4 e (ab1 _ he)) gg.rs vsC (id+128) y.1 vs hd2 (fun i b bM _ _=>(mI gg.rs _ _ _ y.1 i bM).elim) (fun e he=>j4 e (abV _ he)) tz
theorem QG{hh:Heap}{lC:List AV}{kept:List Nat}{tM:Hp}{oC Th:Nat→Value}{H2:Heap}(g:Good Z ψ hh.get w B0 O)(hB:B0≤w.heap.size)(Jw:∀s∈kept,(cO hh lC).get s=hh.get s) (bu:∀i ty cs,hh.get i=some (.box ty cs)→aD (fun i=>¬N i) cs) (rD:∀b,Own oC tM b→∃s,s∈kept∧hh.get s≠none∧ob (ψ s)=some b) (hz:∀b,rJ Z ψ hh.get lC b→Z' b) (Cf:∀b,Z' b→rJ Z ψ hh.get lC b∨Own oC tM b∨w.heap.size≤b) (keep:cP oC tM w w') (g3:Good Z' Th H2.get w' w.heap.size (Own oC tM)) (Sq:∀i ty cs,H2.get i=some (.box ty cs)→aD (fun j=>H2.get j≠none) cs) (rB:∀i,H2.get i≠none→(i∈kept∧hh.get i≠none∧Th i=ψ i)∨N i) :
  ∃CO,(∀i,H2.get i≠none→CO i=Th i)∧Next Z ψ hh.get w B0 O N Z' CO (H2++im (cO hh lC) kept).get w':=by
 classical
 let CO:Nat→Value:=fun i=>if H2.get i≠none then Th i else ψ i
 have h4:∀i,H2.get i≠none→CO i=Th i:=fun i hi=>if_pos hi;have hg:∀i,(H2++im (cO hh lC) kept).get i=(match H2.get i with|some o=>some o|none=>if i∈kept then none else(cO hh lC).get i):=fun i=>by grind [Heap.get_append,oZ]
 have Cq:∀i,H2.get i≠none→(H2++im (cO hh lC) kept).get i=H2.get i:=fun i hi=>by
  grind
 have Gt:∀i,H2.get i=none→(H2++im (cO hh lC) kept).get i≠none→i∉kept∧(H2++im (cO hh lC) kept).get i=hh.get i∧(cO hh lC).get i=hh.get i∧CO i=ψ i∧hh.get i≠none:=fun i hi bw=>by
  rw[hg,hi]at bw ⊢;simp only at bw ⊢;by_cases hk:i∈kept
  ·simp_all
  ·rw[if_neg hk]at bw ⊢;obtain⟨o,ho⟩:=acb.1 bw;have:=dZ _ _ _ _ ho
   grind
 have adP:∀i b,i∉kept→hh.get i≠none→ob (ψ i)=some b→¬Own oC tM b:=fun i b hk hi hb ho=>by obtain⟨s,h1,h2,h3⟩:=rD b ho;exact hk ((g.apart i s b hi h2 hb h3)▸h1)
 have gd:Good (rJ Z ψ hh.get lC) ψ (cO hh lC).get w B0 O:=ji g lC;have adQ:∀b,rJ Z ψ hh.get lC b→¬Own oC tM b:=fun b hb ho=>by obtain⟨s,h1,h2,h3⟩:=rD b ho;exact(gd.live s b (by simp_all) h3).1 hb
 have sm:cw (rJ Z ψ hh.get lC) w w':=fun b hb=>keep.block b (gd.kg b hb) (adQ b hb);have adR:∀i,(H2++im (cO hh lC) kept).get i≠none→(hh.get i≠none∧CO i=ψ i)∨N i:=fun i hi=>by
  grind
 have kk:cP ψ hh.get w w':=⟨keep.os,keep.tape,keep.output,keep.size,fun b hb vB=>keep.block b hb fun ho=>by obtain⟨s,_,h2,h3⟩:=rD b ho;exact vB ⟨s,h2,h3⟩⟩;refine⟨CO,h4,fun b hb=>hz b (.inl hb),fun b hb=>?_,kk,adR,⟨fun i ty cs hb=>?_,fun i ok xs hb=>?_,fun i b h1 h2=>?_,fun i i' b h1 h2 h3 h5=>?_,g3.kg⟩⟩
 ·rcases Cf b hb with h1|h1|h1
  ·exact(h1.imp (fun h=>h) fun⟨i,_,h2,h3⟩=>.inl ⟨i,h2,h3⟩)
  ·obtain⟨s,_,h2,h3⟩:=rD b h1;exact .inr (.inl ⟨s,h2,h3⟩)
  omega
 ·by_cases h2:H2.get i=none
  ·obtain⟨h3,h5,h6,h7,h8⟩:=Gt i h2 (by rw[hb];simp);rw[h5]at hb;obtain⟨gg,vs,e1,e2,e3,e4⟩:=gd.box i ty cs (by simp_all);have aH:=(ab3.1 e2).1;refine⟨gg,vs,by rw[h7,e1],?_,?_,e4⟩
   ·rw[keep.block gg aH (adP i gg h3 h8 (by rw[e1];rfl))];exact e2
   ·refine e3.move (p:=fun i=>¬N i) hz sm (fun j hp hj=>?_) (bu i ty cs hb)
    grind
  ·rw[Cq i h2]at hb;obtain⟨gg,vs,e1,e2,e3,e4⟩:=g3.box i ty cs hb;exact⟨gg,vs,by simp_all,e2,e3.move (p:=fun j=>H2.get j≠none) (fun _ h=>h) (cw.refl _ _) (fun j hp _=>⟨hp,h4 j hp⟩) (Sq i ty cs hb),e4⟩
 ·by_cases h2:H2.get i=none
  ·obtain⟨h3,h5,h6,h7,h8⟩:=Gt i h2 (by rw[hb];simp);rw[h5]at hb;rw[h7];exact(gd.row i ok xs (by simp_all)).kept hz sm fun gg Qf=>keep.block gg (g.bP ⟨i,h8,Qf⟩) (adP i gg h3 h8 Qf)
  ·rw[Cq i h2]at hb;rw[h4 i h2];exact g3.row i ok xs hb
 ·by_cases h3:H2.get i=none
  ·obtain⟨h5,h6,h7,h8,h9⟩:=Gt i h3 h1;rw[h8]at h2;obtain⟨pY,E6⟩:=gd.live i b (by simp_all) h2;refine⟨fun hzb=>?_,E6⟩;rcases Cf b hzb with S6|S6|S6
   ·exact pY S6
   ·grind
   ·have:=g.bP ⟨i,h9,h2⟩;omega
  ·rw[h4 i h3]at h2;obtain⟨h5,h6⟩:=g3.live i b h3 h2;refine⟨h5,?_⟩;rcases h6 with h6|h6
   ·omega
   ·obtain⟨s,_,h7,h8⟩:=rD b h6;exact(g.live s b h7 h8).2
 ·have Ge:∀i i',H2.get i=none→H2.get i'≠none→(H2++im (cO hh lC) kept).get i≠none→ob (CO i)=some b→ob (CO i')=some b→False:=fun i i' e1 e2 e3 e4 e5=>by
   obtain⟨h6,_,_,h8,h9⟩:=Gt i e1 e3;rw[h8]at e4;rw[h4 i' e2]at e5;rcases (g3.live i' b e2 e5).2 with pY|pY
   ·have:=g.bP ⟨i,h9,e4⟩;omega
   grind
  by_cases e1:H2.get i=none<;>by_cases e2:H2.get i'=none
  ·obtain⟨_,_,_,h8,h9⟩:=Gt i e1 h1;obtain⟨_,_,_,h8',h9'⟩:=Gt i' e2 h2;rw[h8]at h3;rw[h8']at h5;exact g.apart i i' b h9 h9' h3 h5
  ·grind
  ·grind
  ·rw[h4 i e1]at h3;rw[h4 i' e2]at h5;exact g3.apart i i' b e1 e2 h3 h5
theorem BD{i:Nat}{o:Ob}:∀{hh:Heap},(i,o)∈hh→hh.get i≠none
 |[],h=>by cases h
 |(j,o')::r,h=>by
  simp only[Heap.get]
  split
  ·simp
  ·rename_i hn;rcases abL.1 h with e|h
   ·simp_all
   ·exact BD h
theorem get_mem{i:Nat}{o:Ob}:∀{hh:Heap},hh.get i=some o→(i,o)∈hh
 |[],h=>by simp[Heap.get]at h
 |(j,o')::r,h=>by
  simp only[Heap.get]at h
  split at h
  ·rename_i e;subst e;cases h;exact aco
  ·exact abC _ (get_mem h)
theorem qw{p:Nat→Prop}:∀{a b:List AV},aD p a→aD p b→aD p (a++b)
 |[],b,_,h=>h
 |x::r,b,h,h'=>by simp only[List.cons_append,aD]at h ⊢;exact⟨h.1,qw h.2 h'⟩
theorem kN{p:Nat→Prop}:∀(dK:List CK) (n:Nat) (x:rL dK),(∀e∈ba dK n x,p e.1)→aD p (aI dK n x)
 |[],n,x,_=>by simp only[aI,aD]
 |.val k::r,n,x,h=>by simp only[aI];exact qw (mE p k x.1) (kN r (n+1) x.2 h)
 |.own ok::r,n,x,h=>by simp only[ba]at h;simp only[aI,aD,aM];exact⟨h _ aco,kN r (n+1) x.2 fun e he=>h e (abC _ he)⟩
theorem nM:∀(dK:List CK) (n:Nat) (x:rL dK) (i:Nat) (ty:TypeId) (cs:List AV),(i,Ob.box ty cs)∉ba dK n x
 |[],_,_,_,_,_=>by simp[ba]
 |.val k::r,n,x,i,ty,cs=>nM r (n+1) x.2 i ty cs
 |.own _::r,n,x,i,ty,cs=>by simp_all [ba,List.mem_cons,not_or,nM]
theorem u5{p:Nat→Prop}:∀(bs:List BK) (is:List Nat) (n:Nat) (x:z8 bs),(∀e∈bG bs is n x,p e.1)→∀i ty cs,(i,Ob.box ty cs)∈bG bs is n x→aD p cs
 |[],is,n,x,_,i,ty,cs,h=>by cases is<;>simp[bG]at h
 |b::r,[],n,x,_,i,ty,cs,h=>by simp[bG]at h
 |b::r,i0::is,n,x,hp,i,ty,cs,h=>by
  simp only[bG]at h hp;rcases acS.1 h with h|h
  ·cases b with
   |box ty0 c0 =>
    simp only[kc]at h hp;rcases abL.1 h with e|h
    ·cases e
     exact kN c0 n x.1 fun e he=>hp e (ab1 _ (abC _ he))
    ·exact absurd h (nM _ _ _ _ _ _)
   |own ok=>simp[kc]at h
  ·exact u5 r is (n+16) x.2 (fun e he=>hp e (abV _ he)) i ty cs h
theorem nN:∀(dK:List CK) (n i:Nat),i∈cy dK n→n≤i∧i<n+dK.length
 |[],n,i,h=>by simp[cy]at h
 |.val k::r,n,i,h=>by
  have:=nN r (n+1) i (by grind [cy])
  grind
 |.own ok::r,n,i,h=>by
  simp only[cy]at h;simp only[List.length_cons];rcases abL.1 h with rfl|h
  ·omega
  ·have:=nN r (n+1) i h;omega
theorem wS:∀(bs:List BK) (is:List Nat) (n i:Nat),(bs.all fun b=>decide (b.dK.length≤16))=true→i∈b7 bs is n→i∈is∨(n≤i∧i<n+16*bs.length)
 |[],is,n,i,_,h=>by grind [b7]
 |b::r,[],n,i,_,h=>by simp[b7]at h
 |b::r,i0::is,n,i,hc,h=>by
  simp only[List.all_cons,Bool.and_eq_true,decide_eq_true_eq]at hc;simp only[b7]at h;simp only[List.length_cons];rcases abL.1 h with rfl|h
  ·simp_all
  ·rcases acS.1 h with h|h
   ·have:=nN _ _ _ h;omega
   ·rcases wS r is (n+16) i hc.2 h with h1|h1
    ·simp_all
    omega
theorem jL{bs:List BK}:∀(rs:List RK) (m i:Nat),rR bs rs=true→i∈bE rs m→m≤i∧i<m+rs.length+16
 |[],m,i,_,h=>by simp[bE]at h
 |.own ok::r,m,i,hk,h=>by
  simp only[rR,List.all_cons,Bool.and_eq_true]at hk;simp only[bE]at h;simp only[List.length_cons];rcases abL.1 h with rfl|h
  ·omega
  ·have:=jL r (m+1) i hk.2 h;omega
 |.val _::r,m,i,hk,h=>by
  simp only[rR,List.all_cons,Bool.and_eq_true]at hk;have:=jL r (m+1) i hk.2 (by grind [bE])
  grind
 |.eX _ _::r,m,i,hk,h=>by
  simp only[rR,List.all_cons,Bool.and_eq_true]at hk;have:=jL r (m+1) i hk.2 (by grind [bE])
  grind
 |.agg c::r,m,i,hk,h=>by
  simp only[rR,List.all_cons,Bool.and_eq_true,E5,decide_eq_true_eq]at hk;simp only[bE]at h;simp only[List.length_cons];rcases acS.1 h with h|h
  ·have:=nN c m i h;omega
  ·have:=jL r (m+1) i hk.2 h;omega
theorem Av{hh:Heap}:∀(bs:List BK) (is:List Nat) (i:Nat),is.length=bs.length→i∈is→i∈dd bs hh is
 |[],is,i,hl,h=>by cases is with
  |nil=>cases h
  |cons a r=>simp at hl
 |b::r,[],i,_,h=>by cases h
 |b::r,i0::is,i,hl,h=>by
  simp only[dd];rcases abL.1 h with rfl|h
  ·refine ab1 _ ?_
   cases b<;>simp[nC]
  ·exact abV _ (Av r is i (by simpa using hl) h)
theorem Ti{α β:Type}:∀{a:List α} {b:List β},a.length=b.length→∀x∈a,∃y,(x,y)∈a.zip b∧(y,x)∈b.zip a
 |[],b,_,x,h=>by cases h
 |a::r,[],hl,x,_=>by simp at hl
 |a::r,c::q,hl,x,h=>by
  simp only[List.zip_cons_cons];rcases abL.1 h with rfl|h
  ·simp_all
  ·obtain⟨y,h1,h2⟩:=Ti (a:=r) (b:=q) (by simpa using hl) x h
   grind
theorem vM:∀(dK:List CK) (n c:Nat),gq dK c=true→n+c∈cy dK n
 |[],n,c,h=>by simp[gq]at h
 |.own _::r,n,0,_=>by simp[cy]
 |.own _::r,n,c+1,h=>by
  simp only[gq]at h;have:=vM r (n+1) c h
  grind [cy,List.mem_cons_of_mem]
 |.val _::r,n,0,h=>by simp[gq]at h
 |.val _::r,n,c+1,h=>by
  simp only[gq]at h;have:=vM r (n+1) c h
  grind [cy]
theorem Aw:∀(bs:List BK) (is:List Nat) (n b i:Nat) (bk:BK),is.length=bs.length→bs[b]? = some bk→i∈cy bk.dK (n+16*b)→i∈b7 bs is n
 |[],_,_,b,_,_,_,h,_=>by simp at h
 |_::_,[],_,_,_,_,hl,_,_=>by simp at hl
 |b0::r,i0::is,n,0,i,bk,hl,hb,hi=>by simp only[List.getElem?_cons_zero,Option.some.injEq]at hb;subst hb;simp only[b7];exact abC _ (ab1 _ (by simpa using hi))
 |b0::r,i0::is,n,b+1,i,bk,hl,hb,hi=>by
  simp only[List.getElem?_cons_succ]at hb;simp only[b7];refine abC _ (abV _ (Aw r is (n+16) b i bk (by simpa using hl) hb ?_))
  rwa [show n+16+16*b=n+16*(b+1) by omega]
theorem kY{p:Nat→Prop}{bs:List BK}{is:List Nat}(hl:is.length=bs.length):∀(rs:List RK) (ids:List Nat) (n m:Nat) (y:mn rs),rR bs rs=true→(∀i∈bE rs m,p i)→(∀i∈b7 bs is n,p i)→aD p (aZ rs ids n m y)
 |[],_,_,_,_,_,_,_=>by simp only[aZ,aD]
 |.val k::r,ids,n,m,y,hr,h1,h2=>by simp only[rR,List.all_cons,Bool.and_eq_true,E5]at hr;simp only[aZ,aD];exact⟨oY p k y.1,kY hl r ids n (m+1) y.2 hr.2 (fun i hi=>h1 i hi) h2⟩
 |.own _::r,ids,n,m,y,hr,h1,h2=>by simp only[rR,List.all_cons,Bool.and_eq_true,E5]at hr;simp only[aZ,aD,aM];exact⟨h1 m (by simp[bE]),kY hl r ids n (m+1) y.2 hr.2 (fun i hi=>h1 i (by grind [bE,List.mem_cons_of_mem])) h2⟩
 |.eX b alts::r,ids,n,m,y,hr,h1,h2=>by
  simp only[rR,List.all_cons,Bool.and_eq_true,E5]at hr;simp only[aZ,aD];refine⟨?_,kY hl r ids n (m+1) y.2 hr.2 (fun i hi=>h1 i hi) h2⟩
  cases hy:y.1 with
  |none=>simp only[wx,aM]
  |some p =>
   obtain⟨al,i⟩:=p;simp only[wx,aM]
   cases hb:bs[b]? with
   |none=>simp_all
   |some bk =>
    rw[hb]at hr;simp only[Bool.and_eq_true]at hr
    grind [Aw,vM,List.all_eq_true,List.get_mem]
 |.agg c::r,ids,n,m,y,hr,h1,h2=>by
  simp only[rR,List.all_cons,Bool.and_eq_true,E5]at hr;simp only[aZ,aD,aM];refine⟨kN c m y.1 fun e he=>h1 _ ?_,kY hl r ids n (m+1) y.2 hr.2 (fun i hi=>h1 i (by grind [bE,List.mem_append_right])) h2⟩;simp only[bE];have e1:(ba c m y.1).map (·.1)=cy c m:=iw c m y.1
  grind
theorem MI{p:Nat→Prop}{vs:List AV}(h:aD p vs):aM p (fk vs):=by
 match vs,h with
 |[],h=>grind [fk,aM]
 |[v],h=>grind [fk,aD]
 |_::_::_,h=>grind [fk,aM]
def ia(P:Program)(f:FuncId)(u:Heap→Nat→List AV→Option (Bool×bF)):Prop :=∀{Z:Nat→Prop} {ψ:Nat→Value} {h:Hp} {w:World} {B0:Nat} {O N:Nat→Prop} {hh:Heap} {id:Nat} {e:bF} {vs:List AV} {us:List Value},Good Z ψ h w B0 O→B0≤w.heap.size→(∀id o,hh.get id=some o→h id=some o)→(∀j,j<256→N (id+j))→(∀i ty cs,h i=some (.box ty cs)→aD (fun i=>¬N i) cs)→(∀v hw,e=.wr v hw→hh.get=h) → ax Z ψ h w vs us→aD (fun i=>¬N i) vs→u hh id vs=some (true,e) → Calls P f us.toArray w fun en w'=>∃V Z' ψ',en=.returned V∧Next Z ψ h w B0 O N Z' ψ' (e.hp h) w'∧aC Z' ψ' (e.hp h) w' e.v V
theorem Yb{R:Type}{n:Nat}(a:Fin n)(f:Fin n→Option R):adt n a f=f a:=by
 have key:∀l:List (Fin n),a∈l→l.foldr (fun j r=>cond (a.val==j.val) (f j) r) none=f a:=by
  intro l
  induction l with
  |nil=>simp_all
  |cons j r ih =>
   grind
 exact key _ (List.mem_finRange a)
theorem kq{R:Type}:∀(rs:List RK) (x:mn rs) (K:mn rs→Option R),ke rs x K=K x
 |[],_,_=>rfl
 |.val _::r,x,K=>by simp only[ke];rw[kq r x.2];rfl
 |.own _::r,x,K=>by simp only[ke];rw[kq r x.2];rfl
 |.agg _::r,x,K=>by simp only[ke];rw[kq r x.2];rfl
 |.eX _ alts::r,x,K=>by
  simp only[ke];obtain⟨x1,x2⟩:=x
  cases x1 with
  |none=>simp only[rS];rw[kq r x2]
  |some p=>simp only[rS];rw[Yb,kq r x2]
theorem MJ(hX:∀f g u,Sg f=some g→g.x=some u→ia P (f%1000) u)(hF:∀f g x y,Sg f=some g→F f g x=some y→Gs P f g x y)(QH:∀f g,Sg f=some g→jK P (f%1000)) {hh:Heap} {ρC:Operand→Value} {o:Oper} (g:Good Z ψ h w B0 O) (hB:B0≤w.heap.size) (bz:∀id o,hh.get id=some o→h id=some o) {id:Nat} (hN:∀j,j<256→N (id+j)) {e:bF} (bu:∀i ty cs,h i=some (.box ty cs)→aD (fun i=>¬N i) cs) (nq:∀v hw,e=.wr v hw→hh.get=h) {f:FuncId} {cap vs:List AV} {fv:Value} {us:List Value} (ZK:aC Z ψ h w (.fn f cap) fv) (tz:ax Z ψ h w vs us) (CA:aD (fun i=>¬N i) (vs++cap)) (hex:∀(ws:Array Value),fv=.func (.func f) #[] ws→execOp ρC o=callFunc f (us.toArray++ws)) (he:jG Sg F hh id f (vs++cap) some=some e):ZI P ρC o Z ψ h w B0 O N e:=by
 unfold jG at he
 split at he
 ·cases he
 rename_i gg hSg;simp only[aC]at ZK;obtain⟨ws,rfl,Tj⟩:=ZK;have Gu:=QH _ _ hSg;have ju:ax Z ψ h w (vs++cap) (us++ws.toList):=ax.append tz Tj;have H6:ax Z ψ hh.get w (vs++cap) (us++ws.toList):=ju.og bz;have gs:Good Z ψ hh.get w B0 O:=g.sub bz;have Tk:us.toArray++ws=(us++ws.toList).toArray:=by simp
 split at he
 ·rename_i u hu
  split at he
  ·rename_i hf;obtain⟨⟨b,e'⟩,he1,Xt⟩:=ac2.1 he
   cases b with
   |false=>cases Xt
   |true =>
   cases Xt
   have J5:keyOf Sg hh f (vs++cap)%1000=f:=by rw[yN];exact Nat.mod_eq_of_lt hf
   have hx:ia P f u:=by rw[←J5];exact hX _ _ _ hSg hu
   rw[J5]at Gu;refine⟨f,us.toArray++ws,by rw[hex ws rfl];exact lT Gu _,?_⟩;rw[Tk];exact hx g hB bz hN bu nq ju CA he1
  ·cases he
 split at he
 ·rename_i i0 rB H7
  split at he
  ·rename_i QI;simp only[Bool.and_eq_true,List.isEmpty_iff]at QI;obtain⟨rfl,_⟩:=QI
   split at he
   rotate_left
   ·cases he
   rename_i x b hx hb qg;obtain⟨y,hy,he⟩:=ac2.1 he;simp only[SH,Bool.and_eq_true,decide_eq_true_eq]at H7;obtain⟨_,_,⟨hlen,hf⟩,_⟩:=H7;have Ff:=(hF _ _ _ _ hSg hy).zero (J3 hb);have J5:keyOf Sg hh f (vs++cap)%1000=f:=by rw[yN];exact Nat.mod_eq_of_lt hf
   rw[J5]at Gu;have hN':∀j,j<gg.rs.length+16→N (id+128+j):=fun j hj=>by rw[Nat.add_assoc];exact hN _ (by omega)
   refine⟨f,us.toArray++ws,by rw[hex ws rfl];exact lT Gu _,?_⟩;rw[Tk];unfold adI at Ff;rw[J5]at Ff;by_cases vB:vu (vs++cap)=true
   ·rw[vB,Bool.or_true]at he
    cases he
    have h1:ax Z Mf gK w (Gn gg x) (us++ws.toList):=CG gs (fun _ h=>h) gg.ps 0 _ _ x (fun v hv i b hi _ _=>(sf vB v hv i hi).elim) rB hx H6;refine(Ff Z w _ g.kg h1).mono fun en w' ⟨v,Z',ψ',e1,h2,h3,h4,h5,h6⟩=>?_;obtain⟨wR,n,hr⟩:=yO (nb:=id) qg g hB bu hN' h4 h2 h3 h5 h6;exact⟨v,Z',wR,e1,n,hr⟩
   ·cases hfl:gg.rs.all RK.flat with
    |true =>
     rw[hfl,Bool.true_or]at he
     cases he
     let Zc:Nat→Prop:=fun b=>b<w.heap.size
     have h1:ax Zc Mf gK w (Gn gg x) (us++ws.toList):=CG gs g.kg gg.ps 0 _ _ x (fun v hv i b hi h1 h2=>gs.bP ⟨i,h1,h2⟩) rB hx H6;refine(Ff Zc w _ (fun _ h=>h) h1).mono fun en w' ⟨v,Z',ψ',e1,h2,h3,h4,h5,h6⟩=>?_;have h7:aC Z ψ' (au gg.rs 3000 y.1).get w' (fk (aZ gg.rs [] 2000 3000 y.1)) v:=vJ rfl (fun vs tz=>Td gg.rs hfl qg tz) h6;have gz:Good Z ψ' (au gg.rs 3000 y.1).get w' w.heap.size (fun _=>False):=by
      refine⟨fun i ty cs hb=>absurd hb (tK _ _ _ _ _ _ qg),fun i ok x hb=>?_,fun i b h1 h8=>?_,h5.apart,fun b hb=>ac6 (g.kg b hb) h4.size⟩
      ·obtain⟨ty,k,hk,rfl⟩:=yM _ _ _ _ _ x hfl qg hb;obtain⟨vs,h9,pY⟩:=h5.row i _ x hb;exact⟨vs,h9,fun j z hz=>(pY j z hz).flat hk⟩
      ·obtain⟨h9,pY⟩:=h5.live i b h1 h8;exact⟨fun hz=>h9 (h2 b (g.kg b hz)),pY⟩
     obtain⟨wR,n,hr⟩:=yO (nb:=id) qg g hB bu hN' h4 (fun _ h=>h) (fun _ h=>.inl h) gz h7;exact⟨v,Z,wR,e1,n,hr⟩
    |false =>
     rw[hfl,Bool.false_or,Bool.eq_false_iff.2 vB]at he
     cases he
     have heq:=nq _ _ rfl;subst heq
     let cs:=du gg.ps (vs++cap)
     have hz0:∀b,rJ Z ψ hh.get cs b→Z b∨Own ψ hh.get b:=fun b hb=>hb.imp (fun h=>h) (fun⟨i,_,h2,h3⟩=>⟨i,h2,h3⟩);have gd:Good (rJ Z ψ hh.get cs) ψ (cO hh cs).get w B0 O:=ji g cs;have h1:ax (rJ Z ψ hh.get cs) Mf gK w (Gn gg x) (us++ws.toList) :=CG gs (fun _ h=>.inl h) gg.ps 0 _ _ x (fun v hv i b hi h1 h2=>.inr ⟨i,wQ _ _ rB v hv i hi,h1,h2⟩) rB hx H6;refine(Ff _ w _ gd.kg h1).mono fun en w' ⟨v,Z',ψ',e1,h2,h3,h4,h5,h6⟩=>?_;obtain⟨wR,n,hr⟩:=yO (nb:=id) qg gd hB (fun i ty cs hb=>bu i ty cs (dZ _ _ _ _ hb)) hN' h4 h2 h3 h5 h6;have e2:(bF.wr (fk (aZ gg.rs [] id (id+128) y.1)) (au gg.rs (id+128) y.1++cO hh (du gg.ps (vs++cap)))).hp hh.get=(fun i=>match (au gg.rs (id+128) y.1).get i with|some o=>some o|none=>(cO hh cs).get i):=by
      funext i;simp only[bF.hp];rw[Heap.get_append]
      cases (au gg.rs (id+128) y.1).get i<;>rfl
     rw[e2];exact⟨v,Z',wR,e1,n.drop (fun _ h=>.inl h) hz0 (dZ _ _),hr⟩
  ·split at he
   rotate_left
   ·cases he
   rename_i x b hx hb Fg;obtain⟨y,hy,he⟩:=ac2.1 he;rw[kq]at he
   cases he
   have heq:=nq _ _ rfl;subst heq;simp only[SH,Bool.and_eq_true,decide_eq_true_eq]at H7;obtain⟨hrs,⟨hbl,uR⟩,⟨hlen,hf⟩,CN⟩:=H7;rw[Bool.and_eq_true]at Fg;have Ff:=hF _ _ _ _ hSg hy;have J5:keyOf Sg hh f (vs++cap)%1000=f:=by rw[yN];exact Nat.mod_eq_of_lt hf
   rw[J5]at Gu;refine⟨f,us.toArray++ws,by rw[hex ws rfl];exact lT Gu _,?_⟩;rw[Tk];unfold Gs at Ff;rw[J5]at Ff;have hl:i0.length=gg.bs.length:=(jJ _ _ _ hb).1;have Gv:=(jJ _ _ _ hb).2;have hle:(aS gg.bs.length).length=gg.bs.length:=by simp[aS]
   let lC:=du gg.ps (vs++cap)++gD gg.bs hh i0
   let L1:List Ao:=cC gg.bs hh i0 (aS gg.bs.length) 2000 b
   have eH1:dP L1=bG gg.bs (aS gg.bs.length) 2000 b:=jI _ _ _ _ _ _ hb hle;have eN1:L1.map (·.1)=b7 gg.bs (aS gg.bs.length) 2000:=iu _ _ _ _ _ _ hb hle;have eS1:L1.filterMap (·.2.1)=dd gg.bs hh i0:=kT _ _ _ _ _ _ hb hle;have hn1:ck (L1.map (·.1))=true:=by rw[eN1];exact J4 CN
   have adH:=Bz (ψ:=ψ) hn1;have Jw:=(tJ Fg.1).2 hh;have Ai:∀b,Z b→rJ Z ψ hh.get lC b:=fun b hb=>.inl hb;have adU:∀e∈L1,wP (rJ Z ψ hh.get lC) ψ (cO hh lC).get w (dP L1).get (eZ ψ L1) e:=fun e he =>mD gs Ai gg.bs _ _ 2000 b hb (fun i b bM h1 h2=>.inr ⟨i,abV _ bM,h1,h2⟩) Jw adH e he;have gin:Good (rJ Z ψ hh.get lC) (eZ ψ L1) (dP L1).get w B0 O:=yL gs Fg.1 hn1 eS1 adU;have ein:(dP L1).get=rh gg (x,b):=by rw[eH1];rfl
   have abm:∀p∈i0.zip (aS gg.bs.length),(p.2,some p.1)∈L1.map (fun e=>(e.1,e.2.1)):=fun p hp=>by obtain⟨o,ho⟩:=kU (hh:=hh) gg.bs i0 (aS gg.bs.length) 2000 b hl p hp;exact acU.2 ⟨_,ho,rfl⟩
   have adV:∀p∈i0.zip (aS gg.bs.length),eZ ψ L1 p.2=ψ p.1:=fun p hp=>by
    obtain⟨⟨i,s,o⟩,ho,he⟩:=acU.1 (abm p hp)
    cases he
    exact jv hn1 ho
   have abn:ax (rJ Z ψ hh.get lC) (eZ ψ L1) (dP L1).get w (HZ gg (x,b)) (us++ws.toList) :=l9 gs Ai gg.ps i0 (aS gg.bs.length) 0 _ _ x (by rw[hle,hl]) rB hx (fun i b bM h1 h2=>.inr ⟨i,ab1 _ bM,h1,h2⟩) (fun p hp=>⟨Gv _ (List.of_mem_zip hp).1,fun _=>adV p hp⟩) H6;have rD:∀c,Own (eZ ψ L1) (rh gg (x,b)) c→∃s,s∈dd gg.bs hh i0∧hh.get s≠none∧ob (ψ s)=some c:=fun c ⟨i,h1,h2⟩=>by
    rw[←ein]at h1;obtain⟨o,ho⟩:=acb.1 h1;obtain⟨s,hm⟩:=oX ho;rw[jv hn1 hm]at h2
    cases s with
    |none=>simp[kj,ob]at h2
    |some s =>
     have hs:s∈dd gg.bs hh i0:=by rw[←eS1];exact ad3.2 ⟨_,hm,rfl⟩
     refine⟨s,hs,?_,h2⟩;have h3:=adU _ hm;rw[←Jw s hs]
     cases o with
     |box ty cs=>obtain⟨⟨cs0,h4⟩,_⟩:=h3;rw[h4];simp
     |own ok xs=>rw[show(cO hh lC).get s=some (.own ok xs) from h3];simp
   refine(Ff (rJ Z ψ hh.get lC) (eZ ψ L1) w (us++ws.toList) (by rw[←ein];exact gin.H4 _) (by rw[←ein];exact abn)).mono fun en w' ⟨v,Z',eE,e1,h2,h3,h4,h5,h6,h7⟩=>?_;obtain⟨L2,eH2,eN2,g3,hzz,abo⟩:=QF (x:=(x,b)) (y:=y) (id:=id) hl hrs CN Fg.2 h5 h7;have Sq:∀i ty cs,(dP L2).get i=some (.box ty cs)→aD (fun j=>(dP L2).get j≠none) cs:=fun i ty cs hg=>by
    have iy:=get_mem hg;rw[eH2]at iy;rcases acS.1 iy with iy|iy
    ·exact u5 gg.bs _ id y.2 (fun e he=>by rw[eH2];exact BD (o:=e.2) (ab1 _ he)) i ty cs iy
    ·exfalso;have:∀(rs:List RK) (m:Nat) (y:mn rs),(i,Ob.box ty cs)∉au rs m y:=by
      intro rs
      induction rs with
      |nil=>intro m y;simp[au]
      |cons r rs ih =>
       intro m y
       cases r with
       |agg c=>simp only[au,List.mem_append,not_or];exact⟨nM _ _ _ _ _ _,ih (m+1) y.2⟩
       |val k=>exact ih (m+1) y.2
       |eX _ _=>exact ih (m+1) y.2
       |own ok=>simp only[au,List.mem_cons,not_or];exact⟨by simp,ih (m+1) y.2⟩
     exact this _ _ _ iy
   have adX:∀i,(dP L2).get i≠none→(i∈dd gg.bs hh i0∧hh.get i≠none∧eZ eE L2 i=ψ i)∨N i:=fun i hi=>by
    obtain⟨o,ho⟩:=acb.1 hi;obtain⟨s,hm⟩:=oX ho;have iy:i∈b7 gg.bs i0 id++bE gg.rs (id+128):=by rw[←eN2];exact acU.2 ⟨_,hm,rfl⟩
    have hNr:∀i,id≤i→i<id+256→N i:=fun i h1 h2=>by
     have:=hN (i-id) (by omega)
     rwa [show id+(i-id)=i by omega]at this
    rcases acS.1 iy with iy|iy
    ·rcases wS _ _ _ _ uR iy with h8|h8
     ·refine .inl ⟨Av _ _ _ hl h8,Gv i h8,?_⟩;obtain⟨ee,h9,pY⟩:=Ti (by rw[hle,hl]) i h8;rw[hzz (ee,i) pY];have E6:ee∈aS gg.bs.length:=(List.of_mem_zip pY).1;rw[h6 ee E6];exact adV (i,ee) h9
     ·exact .inr (hNr i h8.1 (by omega))
    ·have h8:=jL _ _ _ hrs iy;exact .inr (hNr i (by omega) (by omega))
   obtain⟨CO,h8,nx⟩:=QG (N:=N) gs hB Jw bu rD h2 h3 h4 g3 Sq adX;have eH3:(bF.wr (fk (aZ gg.rs i0 id (id+128) y.1)) (bG gg.bs i0 id y.2++(au gg.rs (id+128) y.1++im (cO hh (du gg.ps (vs++cap)++gD gg.bs hh i0)) (dd gg.bs hh i0)))).hp hh.get =(dP L2++im (cO hh lC) (dd gg.bs hh i0)).get:=by rw[eH2,List.append_assoc];rfl
   rw[eH3];refine⟨v,Z',CO,e1,nx,?_⟩;refine abo.move (p:=fun j=>(dP L2).get j≠none) (fun _ h=>h) (cw.refl _ _) (fun j hp _=>⟨hp,h8 j hp⟩) ?_;refine MI (kY hl gg.rs _ id (id+128) y.1 hrs (fun i hi=>?_) fun i hi=>?_)
   ·rw[←fX gg.rs (id+128) y.1]at hi;obtain⟨e,he,rfl⟩:=acU.1 hi;rw[eH2];exact BD (o:=e.2) (abV _ he)
   ·rw[←mH gg.bs i0 id y.2 hl]at hi;obtain⟨e,he,rfl⟩:=acU.1 hi;rw[eH2];exact BD (o:=e.2) (ab1 _ he)
 ·cases he
end Go.Vs
namespace Go.Vs
variable {P:Program} {Eqs:TypeId→Option K} {Sg:FuncId→Option aP} {F:(f:FuncId)→(g:aP)→g.A→Option g.B} {R:Type} {k:bF→Option R}
theorem fY{c:Bool}{e:bF}:cond c (k e) none=(cond c (some e) none).bind k:=by grind
theorem fH{c:Bool}{e:bF}:cond c none (k e)=(cond c none (some e)).bind k:=by grind
theorem fJ{c:Bool}{e e':bF}:cond c (k e) (k e')=(cond c (some e) (some e')).bind k:=by grind
theorem fZ{α:Type}(o:Option α)(f:α→Option R)(g:α→Option bF)(h:∀x,f x=(g x).bind k):o.bind f=(o.bind g).bind k:=by cases o with
 |none=>rfl
 |some x=>exact h x
theorem MK{h:Heap}{id:Nat}{t:TypeId}{s x:AV}:oJ P h id t s x k=(oJ P h id t s x some).bind k:=by unfold oJ;repeat' (first|rfl|exact fY|exact fH | exact fJ|(refine fZ _ _ _ (fun _=>?_))|split)
theorem QJ{h:Heap}{t:TypeId}{s x:AV}:tf P h t s x k=(tf P h t s x some).bind k:=by unfold tf;repeat' (first|rfl|exact fY|exact fH | exact fJ|grind [fZ]|split)
theorem Tl{h:Heap}{t:TypeId}{s:AV}:mq P h t s k=(mq P h t s some).bind k:=by unfold mq;repeat' (first|rfl|exact fY|exact fH | exact fJ|grind [fZ]|split)
theorem Fh{h:Heap}{t:TypeId}{s x:AV}:dC P h t s x k=(dC P h t s x some).bind k:=by unfold dC;grind
theorem Tn{x:AV}{lo hi mx:Option AV}:yv x lo hi mx k=(yv x lo hi mx some).bind k:=by unfold yv;grind
theorem QK{h:Heap}{sz:Nat}{x:AV}{lo hi mx:Option AV}:p6 h sz x lo hi mx k=(p6 h sz x lo hi mx some).bind k:=by unfold p6;grind
theorem Yc{h:Heap}{x:AV}:F9 h x k=(F9 h x some).bind k:=by unfold F9;grind
theorem Yd{op:BinOp}{t:TypeId}{x y:AV}:Aa P Eqs op t x y k=(Aa P Eqs op t x y some).bind k:=by unfold Aa;repeat' (first|rfl|exact fY|exact fH | exact fJ|(refine fZ _ _ _ (fun _=>?_))|split)
theorem J6(rs:List RK)(x:mn rs)(f:mn rs→Option R)(g:mn rs→Option bF)(h:∀z,f z=(g z).bind k):ke rs x f=(ke rs x g).bind k:=by grind [kq]
theorem Tp{h:Heap}{id:Nat}{f:FuncId}{vs:List AV}:jG Sg F h id f vs k=(jG Sg F h id f vs some).bind k:=by unfold jG;repeat' (first|rfl|exact fY|exact fH | exact fJ|(refine fZ _ _ _ (fun _=>?_))|(refine J6 _ _ _ _ (fun _=>?_))|split)
theorem Tq{id:Nat}{t:TypeId}{vs:List AV}:yz id t vs k=(yz id t vs some).bind k:=rfl
theorem QL{t:TypeId}{ps:List (Nat×AV)}:tj P t ps k=(tj P t ps some).bind k:=by unfold tj;grind
theorem H8{h:Heap}{id:Nat}{t:TypeId}{n:Nat}{ps:List (Nat×AV)}:wy P h id t n ps k=(wy P h id t n ps some).bind k:=by unfold wy;grind
theorem Ts{lC:Bool}{h:Heap}{id:Nat}{t:TypeId}{n:Nat}{ps:List (Nat×AV)}:yC P lC h id t n ps k=(yC P lC h id t n ps some).bind k:=by unfold yC;rw[H8,H8 (k:=fun e=>some (if lC then XS e else e)),Option.bind_assoc];rfl
theorem Tt{h:Heap}{s d:TypeId}{x:AV}:Ca P h s d x k=(Ca P h s d x some).bind k:=by unfold Ca;repeat' (first|rfl|exact fY|exact fH | exact fJ|(refine fZ _ _ _ (fun _=>?_))|split)
theorem J7{h:Heap}{id:Nat}{t:TypeId}{s:AV}{b:ByteArray}:l6 P h id t s b k=(l6 P h id t s b some).bind k:=by unfold l6;repeat' (first|rfl|exact fY|exact fH | exact fJ|(refine fZ _ _ _ (fun _=>?_))|split)
theorem QM{id:Nat}{t:TypeId}{l c:AV}:td P id t l c k=(td P id t l c some).bind k:=by unfold td;repeat' (first|rfl|exact fY|exact fH | exact fJ|(refine fZ _ _ _ (fun _=>?_))|split)
theorem Tu{h:Heap}{t:TypeId}{d s:AV}:yr P h t d s k=(yr P h t d s some).bind k:=by unfold yr;repeat' (first|rfl|exact fY|exact fH | exact fJ|(refine fZ _ _ _ (fun _=>?_))|split)
theorem abp{b:Bool}{vs:List AV}:Qd b vs k=(Qd b vs some).bind k:=by unfold Qd;grind
theorem Tv{h:Heap}{x:AV}:yw h x k=(yw h x some).bind k:=by unfold yw;grind
theorem J8{id:Nat}{t:TypeId}:l8 P Eqs id t k=(l8 P Eqs id t some).bind k:=by unfold l8;grind
theorem ML{h:Heap}{t:TypeId}{m i:AV}{ok:Bool}:oK P Eqs h t m i ok k=(oK P Eqs h t m i ok some).bind k:=by unfold oK;grind
theorem MM{h:Heap}{t:TypeId}{m i v:AV}:js P Eqs h t m i v k=(js P Eqs h t m i v some).bind k:=by unfold js;grind
theorem MN{h:Heap}{t:TypeId}{m i:AV}:oL P Eqs h t m i k=(oL P Eqs h t m i some).bind k:=by unfold oL;grind
theorem MO{id:Nat}{t:TypeId}{x:AV}:oM P id t x k=(oM P id t x some).bind k:=by unfold oM;grind
theorem QN{h:Heap}{x:AV}:tg h x k=(tg h x some).bind k:=by unfold tg;grind
theorem QO{h:Heap}{x:AV}:ti h x k=(ti h x some).bind k:=by unfold ti;grind
theorem ma{id:Nat}{h:Heap}{s:List (Nat×AV)}{o:Oper}:cY P Eqs Sg F id h s o k=(cY P Eqs Sg F id h s o some).bind k:=by
 obtain⟨dst,op,type,pos,after,guard⟩:=o
 cases op<;>simp only[cY] <;>
  repeat' (first|rfl|exact Ts|exact MK|exact QJ|exact Tl|exact Fh|exact Tn|exact QK|exact Yc|exact Yd|exact Tp|exact Tq|exact QL|exact H8|exact Tt|exact J7|exact QM|exact Tu|exact abp|exact Tv|exact J8|exact ML|exact MM|exact MN|exact MO|exact QN|exact QO|exact fY|(refine fZ _ _ _ (fun _=>?_))|split)
theorem QP{id:Nat}{h h':Heap}{s:List (Nat×AV)}{o:Oper}(hf:oc o.op=true):cY P Eqs Sg F id h s o k=cY P Eqs Sg F id h' s o k:=by
 obtain⟨dst,op,type,pos,after,guard⟩:=o
 cases op<;>simp[oc]at hf<;>first|rfl|(rename_i u _ _;cases u<;>rfl)
theorem Ye{op:BinOp}{t:TypeId}{x y:AV}{e:bF}(he:Aa P Eqs op t x y some=some e):∃v,e=.val v:=by
 unfold Aa at he
 grind
theorem J9{id:Nat}{h:Heap}{s:List (Nat×AV)}{o:Oper}{e:bF}(hf:oc o.op=true)(he:cY P Eqs Sg F id h s o some=some e):∃v,e=.val v:=by
 obtain⟨dst,op,type,pos,after,guard⟩:=o
 cases op<;>simp only[oc]at hf<;>first|(cases hf;done)|skip
 case unOp u t x =>
  cases u<;>simp only[cY]at he<;>repeat' (first|(cases he;done)|exact⟨_,(ac0 he).symm⟩|split at he)
 case makeFunc fn first cap =>
  cases fn<;>simp only[cY]at he<;>repeat' (first|(cases he;done)|exact⟨_,(ac0 he).symm⟩|split at he)
 all_goals simp only[cY]at he
 case binOp=>exact Ye he
 case slice =>
  repeat' (first|(cases he;done)|split at he)
  all_goals
   first|unfold yv at he|unfold p6 at he
   repeat' (first|(cases he;done)|exact⟨_,(ac0 he).symm⟩|split at he)
   all_goals
    unfold cond at he
    split at he<;>first|(cases he;done)|exact⟨_,(ac0 he).symm⟩
 case build =>
  unfold tj at he
  repeat' (first|(cases he;done)|exact⟨_,(ac0 he).symm⟩|split at he)
 all_goals
  repeat' (first|(cases he;done)|exact⟨_,(ac0 he).symm⟩|split at he)
end Go.Vs
namespace Go.Vs
variable {P:Program} {Eqs:TypeId→Option K} {Sg:FuncId→Option aP} {F:(f:FuncId)→(g:aP)→g.A→Option g.B} {R:Type}
variable {Z Z' Z0:Nat→Prop} {ψ ψ' ψ0:Nat→Value} {h h':Hp} {w w' w0:World} {B0:Nat} {O N:Nat→Prop}
structure Env(P:Program)(Eqs:TypeId→Option K)(Sg:FuncId→Option aP)(F:(f:FuncId)→(g:aP)→g.A→Option g.B):Prop where
 eqs:∀t k,Eqs t=some k→mA P t k
 con:∀f g x y,Sg f=some g→F f g x=some y→Gs P f g x y
 spec:∀f g u,Sg f=some g→g.x=some u→ia P (f%1000) u
 Ka:∀f g,Sg f=some g→jK P (f%1000)
theorem Kb{s:List (Nat×AV)}{ρC:Operand→Value}:∀(l:List Operand),(∀x∈l,aC Z ψ h w (ρ s x) (ρC x))→ax Z ψ h w (l.map (ρ s)) (l.map ρC)
 |[],_=>by simp[ax]
 |x::r,hx=>by simp only[List.map_cons,ax];exact⟨_,_,rfl,hx x aco,Kb r fun y hy=>hx y (abC _ hy)⟩
theorem Gx{s:List (Nat×AV)}{p:Nat→Prop}:∀(l:List Operand),(∀x∈l,aM p (ρ s x))→aD p (l.map (ρ s))
 |[],_=>by simp[aD]
 |x::r,hx=>by simp only[List.map_cons,aD];exact⟨hx x aco,Gx r fun y hy=>hx y (abC _ hy)⟩
theorem ZL(E:Env P Eqs Sg F){hh:Heap}{a:Act}{s:List (Nat×AV)}{o:Oper}(g:Good Z ψ h w B0 O)(hB:B0≤w.heap.size)(bz:∀id o,hh.get id=some o→h id=some o){id:Nat}(hN:makes o.op=true→∀j,j<256→N (id+j)){e:bF} (nG:∀x∈o.op.operands,aC Z ψ h w (ρ s x) (a.eval x)) (hm:∀x∈o.op.operands,aM (fun i=>¬N i) (ρ s x)) (bu:∀i ty cs,h i=some (.box ty cs)→aD (fun i=>¬N i) cs) (nq:∀v hw,e=.wr v hw→hh.get=h) (he:cY P Eqs Sg F id hh s o some=some e) {next:Act→World→Prop} {Q:Exit→Act→World→Prop} (hk:∀V w' Z' ψ',Next Z ψ h w B0 O N Z' ψ' (e.hp h) w'→aC Z' ψ' (e.hp h) w' e.v V→next (a.put o.dst V) w'):o.wp P a w next Q:=by
 have d:hZ P a.eval o Z ψ h w B0 O N e∨ZI P a.eval o Z ψ h w B0 O N e:=by
  cases Me:wO o with
  |false=>exact .inl (S8 E.eqs g hB bz (fun hm=>by simpa using hN hm 0 (by decide)) nG hm bu nq Me he)
  |true =>
   refine .inr ?_;obtain⟨dst,op,type,pos,after,guard⟩:=o
   cases op<;>simp[wO]at Me
   rename_i c;obtain⟨callee,args,argTypes⟩:=c
   cases callee<;>simp at Me
   rename_i fo;simp only[cY]at he
   split at he
   ·rename_i f cap hf;simp only[Op.operands,Call.operands]at nG;have h1:=nG fo (by simp);rw[hf]at h1;have h2:ax Z ψ h w (args.toList.map (ρ s)) (args.toList.map a.eval):=Kb _ fun x hx=>nG x (by simp_all);have hmf:=hm fo (by simp[Op.operands,Call.operands]);rw[hf]at hmf;simp only[aM]at hmf;have hma:aD (fun i=>¬N i) (args.toList.map (ρ s)):=Gx _ fun x hx=>hm x (by grind [Op.operands,Call.operands]);refine MJ E.spec E.con E.Ka g hB bz (hN rfl) bu nq h1 h2 (qw hma hmf) (fun ws Tj=>?_) he;simp only[execOp,resolve,Tj,Deferred.ofValue];simp only[pure_bind,invoke];congr 1
    grind
   ·cases he
 unfold Oper.wp;rcases d with⟨V,w',Z',ψ',h1,h2,h3⟩|⟨f,args,h1,h2⟩
 ·rcases h1 with h1|⟨h1,rfl⟩
  ·rw[h1];exact hk V w' Z' ψ' h2 h3
  ·rw[h1];exact hk undef w' Z' ψ' h2 h3
 ·rw[h1,Oper.upon_enter];refine h2.mono fun en w' ⟨V,Z',ψ',e1,n,hr⟩=>?_
  grind
structure Ok(Z0:Nat→Prop)(w0:World)(O:Nat→Prop)(ψ0:Nat→Value)(Z:Nat→Prop)(ψ:Nat→Value)(h:Hp)(w:World):Prop where
 dv:Good Z ψ h w w0.heap.size O
 gk:∀b,Z0 b→Z b
 eP:∀b,Z b→Z0 b∨O b∨w0.heap.size≤b
 os:w.os=w0.os
 tape:w.tape=w0.tape
 output:w.output=w0.output
 size:w0.heap.size≤w.heap.size
 block:∀b,b<w0.heap.size→¬O b→w.heap[b]? = w0.heap[b]?
 fix:∀i,i<2000→h i≠none→ψ i=ψ0 i
theorem Ok.next(k:Ok Z0 w0 O ψ0 Z ψ h w)(hN:∀id,N id→2000≤id)(n:Next Z ψ h w w0.heap.size O N Z' ψ' h' w'):Ok Z0 w0 O ψ0 Z' ψ' h' w':=by
 have own:∀b,Own ψ h b→w0.heap.size≤b∨O b:=fun b ⟨id,h1,h2⟩=>(k.dv.live id b h1 h2).2;refine⟨n.dv,fun b hb=>n.gk b (k.gk b hb),fun b hb=>?_,n.keep.os.trans k.os,n.keep.tape.trans k.tape,n.keep.output.trans k.output,acY k.size n.keep.size,fun b hb ho=>?_,fun i hi bw=>?_⟩
 ·rcases n.eP b hb with h1|h1|h1
  ·exact k.eP b h1
  ·grind
  ·exact .inr (.inr (acY k.size h1))
 ·rw[n.keep.block b (Nat.lt_of_lt_of_le hb k.size) (fun h1=>(own b h1).elim (fun h2=>by omega) ho)];exact k.block b hb ho
 ·rcases n.ids i bw with⟨h1,h2⟩|h1
  ·rw[h2];exact k.fix i hi h1
  grind
structure cT(Z:Nat→Prop)(ψ:Nat→Value)(h:Hp)(w:World)(n:Nat)(T:Nat→AV)(a:Act):Prop where
 rep:∀d,aC Z ψ h w (T d) (a.tmps.getD d undef)
 size:a.tmps.size=n
 defers:a.defers=[]
theorem QQ:aC Z ψ h w (.n8 []) undef:=by simp only[aC,ax];exact⟨#[],rfl,rfl⟩
def iz(T:Nat→AV)(d:Option Tmp)(v:AV):Nat→AV:=match d with
 |some d=>dW T d v
 |none=>T
theorem iA(st:St)(d:Option Tmp)(v:AV):look (st.put d v).tmps=iz (look st.tmps) d v:=by
 cases d with
 |none=>rfl
 |some d =>
  funext i;simp only[St.put,look,iz,dW]
  grind
theorem dg(st:St)(d:Option Tmp)(v:AV):(st.put d v).heap=st.heap:=by cases d<;>rfl
theorem Gy{T:List (Nat×AV)}{d:Nat}{v:AV}(hv:look T d=v):dW (look T) d v=look T:=by
 grind [dW]
theorem iB{a:Act}{d:Nat}{v:Value}(hd:d<a.tmps.size)(i:Nat):(a.put (some d) v).tmps.getD i undef=if i=d then v else a.tmps.getD i undef:=by
 simp only[Act.put];by_cases e:i=d
 ·simp_all
 ·simp[e,Array.getElem?_setIfInBounds_ne (Ne.symm e)]
theorem cI(a:Act)(d:Option Tmp)(v:Value):(a.put d v).tmps.size=a.tmps.size:=by cases d<;>simp[Act.put]
theorem put_defers(a:Act)(d:Option Tmp)(v:Value):(a.put d v).defers=a.defers:=by cases d<;>rfl
theorem cT.put{n:Nat}{T:Nat→AV}{a:Act}{o:Oper}{x:AV}{V:Value}(t:cT Z ψ h w n T a)(hd:jf n o=true)(hx:aC Z ψ h w x V):cT Z ψ h w n (iz T o.dst x) (a.put o.dst V):=by
 refine⟨fun d=>?_,by rw[cI];exact t.size,by rw[put_defers];exact t.defers⟩;unfold jf at hd
 split at hd
 ·rename_i d0 hd0;rw[hd0];rw[iB (by rw[t.size];simpa using hd)];simp only[iz,dW]
  split
  ·exact hx
  ·exact t.rep d
 ·rename_i hd0;rw[hd0];exact t.rep d
theorem cT.next{n:Nat}{T:Nat→AV}{a:Act}(t:cT Z ψ h w n T a)(g:Good Z ψ h w B0 O)(hn:Next Z ψ h w B0 O N Z' ψ' h' w')(hm:∀d,aM (fun i=>¬N i) (T d)):cT Z' ψ' h' w' n T a :=⟨fun d=>hn.rep g (hm d) (t.rep d),t.size,t.defers⟩
theorem so{n:Nat}{s:List (Nat×AV)}{a:Act}(t:cT Z ψ h w n (look s) a)(x:Operand):aC Z ψ h w (ρ s x) (a.eval x):=by
 cases x with
 |tmp i=>exact t.rep i
 |const v=>exact JN v
 |global g=>simp only[ρ,aC]
 |func f=>simp only[ρ,aC,ax,Act.eval];exact⟨#[],rfl,rfl⟩
theorem CP(p:Nat→Prop)(v:Value):aM p (vt v):=by
 cases v with
 |agg cs=>grind [vt,aM,yJ]
 |_=>grind [vt,CF]
theorem QR{p:Nat→Prop}{s:List (Nat×AV)}(hm:∀d,aM p (look s d))(x:Operand):aM p (ρ s x):=by
 cases x with
 |tmp i=>exact hm i
 |const v=>exact CP p v
 |global g=>simp only[ρ,aM]
 |func f=>simp only[ρ,aM,aD]
def nr(rid:Nat)(S:Nat→Prop)(id:Nat):Prop:=id / 32768=rid+1→S (id / 256%128)
def Of(rid i id:Nat):Prop:=id / 256=(rid+1)*128+i
theorem Of.parts{rid i id:Nat}(hi:i<128)(h:Of rid i id):id / 32768=rid+1∧id / 256%128=i:=by
 grind [Of]
theorem Of.of{rid i id:Nat}(h:id / 32768=rid+1)(hi:id / 256%128=i):Of rid i id:=by unfold Of;omega
theorem Og{rid i j:Nat}(hj:j<256):Of rid i (opId rid i+j):=by unfold Of opId;omega
theorem Kc{rid i:Nat}:Of rid i (opId rid i):=by unfold Of opId;omega
theorem nr.CQ{rid i id:Nat}{S:Nat→Prop}(hi:i<128)(hs:¬S i)(h:nr rid S id):¬Of rid i id:=fun ho=>by obtain⟨h1,h2⟩:=ho.parts hi;have:=h h1;simp_all
theorem o4{rid bits id:Nat}{S:Nat→Prop}(hb:∀j,bits.testBit j=true→S j)(h:uG rid bits id=true):nr rid S id:=fun h1=>by simp_all [uG,Bool.or_eq_true,bne_iff_ne,ne_eq]
mutual
theorem qx{rid bits:Nat}{S:Nat→Prop}(hb:∀j,bits.testBit j=true→S j):∀{v:AV},uO rid bits v=true→aM (nr rid S) v
 |.ref id s i off,h=>by simp only[uO]at h;simp only[aM];exact o4 hb h
 |.bL id,h=>by simp only[uO]at h;simp only[aM];exact o4 hb h
 |.fn f cap,h=>by simp only[uO]at h;simp only[aM];exact mJ hb h
 |.agg cs,h=>by simp only[uO]at h;simp only[aM];exact mJ hb h
 |.n8 cs,h=>by simp only[uO]at h;simp only[aM];exact mJ hb h
 |.no,_=>by simp only[aM]
 |.bool _,_=>by simp only[aM]
 |.int _ _,_=>by simp only[aM]
 |.str _,_=>by simp only[aM]
 |.lQ,_=>by simp only[aM]
 |.fO,_=>by simp only[aM]
 |.fp _ _ _,_=>by simp only[aM]
 |.sl _ _ _,_=>by simp only[aM]
 |.mp _ _ _,_=>by simp only[aM]
theorem mJ{rid bits:Nat}{S:Nat→Prop}(hb:∀j,bits.testBit j=true→S j):∀{v:List AV},Cc rid bits v=true→aD (nr rid S) v
 |[],_=>by simp only[aD]
 |v::r,h=>by simp only[Cc,Bool.and_eq_true]at h;simp only[aD];exact⟨qx hb h.1,mJ hb h.2⟩
end
theorem mK{rid bits:Nat}{S:Nat→Prop}(hb:∀j,bits.testBit j=true→S j):∀{hh:Heap},Ab rid bits hh=true→∀id o,hh.get id=some o→nr rid S id∧∀ty cs,o=.box ty cs→aD (nr rid S) cs
 |[],_,id,o,hg=>by simp[Heap.get]at hg
 |(i,ob)::r,h,id,o,hg=>by
  simp only[Heap.get]at hg
  split at hg
  ·rename_i e;subst e
   cases hg
   cases ob with
   |box ty cs =>
    simp only[Ab,Bool.and_eq_true]at h
    grind [o4,mJ]
   |own ok xs =>
    simp only[Ab,Bool.and_eq_true]at h
    grind [o4]
  ·refine mK hb ?_ id o hg
   cases ob<;>simp only[Ab,Bool.and_eq_true]at h<;>exact h.2
def bF.heap(e:bF)(h:Heap):Heap:=match e with
 |.wr _ h'=>h'
 |e=>e.h h
theorem bF.Kd(e:bF)(hh:Heap):(e.heap hh).get=e.hp hh.get:=by
 cases e with
 |val v=>rfl
 |new v os=>grind [bF.heap,bF.h,bF.hp,Heap.get_append,Heap.get]
 |wr v h'=>rfl
def u6(p:Nat→Prop)(h:Hp):Prop:=∀i ty cs,h i=some (.box ty cs)→aD p cs
theorem CR{ops:Array Oper}{o:Oper}{n:Nat}{T:Nat→AV}{a:Act}(t:cT Z ψ h w n T a){j d:Nat}{want:Bool}(hg:o.guard=some (j,want))(hd:(ops[j]?).bind (·.dst)=some d){b:Bool}(hb:T d=.bool b) :
  Region.wanted o (yielded ops a.tmps)=(b==want):=by
 have h1:=t.rep d;rw[hb]at h1;simp only[aC]at h1;have h2:a.tmps[d]? = some (.bool b):=by
  rw[Array.getD_eq_getD_getElem?]at h1
  cases e:a.tmps[d]? with
  |none=>rw[e]at h1;simp[undef]at h1
  |some v=>rw[e]at h1;simpa using h1
 unfold Region.wanted yielded;rw[hg];simp only[hd,Option.bind_some,h2]
 cases b<;>cases want<;>rfl
theorem Ax{ops:Array Oper}{o:Oper}{n:Nat}{T:Nat→AV}{a:Act}(t:cT Z ψ h w n T a){j d:Nat}{want:Bool}(hg:o.guard=some (j,want))(hd:(ops[j]?).bind (·.dst)=some d){vs:List AV}(hb:T d=.n8 vs) :
  Region.wanted o (yielded ops a.tmps)=false:=by
 have h1:=t.rep d;rw[hb]at h1;simp only[aC]at h1;obtain⟨us,h1,_⟩:=h1;unfold Region.wanted yielded;rw[hg];simp only[hd,Option.bind_some];rw[Array.getD_eq_getD_getElem?]at h1
 grind
def CS(ops:Array Oper):Nat→List (Nat×Oper)→Prop
 |_,[]=>True
 |i,(j,o)::r=>j=i∧ops[i]? = some o∧CS ops (i+1) r
theorem Ke(ops:Array Oper):∀(l:List Oper) (i:Nat),(∀k o,l[k]? = some o→ops[i+k]? = some o)→CS ops i ((l.zipIdx i).map fun p=>(p.2,p.1))
 |[],_,_=>by simp[CS]
 |o::r,i,h=>by simp only[List.zipIdx_cons,List.map_cons,CS];exact⟨trivial,h 0 o rfl,Ke ops r (i+1) fun k o' hk=>by rw[Nat.add_assoc,Nat.add_comm 1 k];simp_all⟩
theorem o5(ops:Array Oper):CS ops 0 (ops.toList.zipIdx.map fun p=>(p.2,p.1)):=Ke ops _ 0 fun k o hk=>by simpa using hk
theorem Gz(ops:Array Oper):(ops.toList.zipIdx.map fun p=>(p.2,p.1)).map Prod.fst=List.range ops.size:=by rw[List.map_map];have:(Prod.fst ∘ fun(p:Oper×Nat)=>(p.2,p.1))=Prod.snd:=rfl;rw[this,List.zipIdx_map_snd,List.range_eq_range',Array.length_toList]
structure J(p:Nat→Prop)(n:Nat)(Z0:Nat→Prop)(w0:World)(O:Nat→Prop)(ψ0:Nat→Value)(Z:Nat→Prop)(ψ:Nat→Value)(T:Nat→AV)(h:Hp)(a:Act)(w:World):Prop where
 ok:Ok Z0 w0 O ψ0 Z ψ h w
 tr:cT Z ψ h w n T a
 tm:∀d,aM p (T d)
 hm:u6 p h
theorem J.imp{p q:Nat→Prop}{n:Nat}{T:Nat→AV}{a:Act}(j:J p n Z0 w0 O ψ0 Z ψ T h a w)(HV:∀id,p id→q id):J q n Z0 w0 O ψ0 Z ψ T h a w :=⟨j.ok,j.tr,fun d=>(j.tm d).imp HV,fun id ty cs hb=>(j.hm id ty cs hb).imp HV⟩
theorem J.op(E:Env P Eqs Sg F){rid n i:Nat}{p:Nat→Prop}{T:Nat→AV}{a:Act}{s:List (Nat×AV)}{o:Oper}(hS:makes o.op=true→∀id,p id→¬Of rid i id)(j:J p n Z0 w0 O ψ0 Z ψ T h a w)(hd:jf n o=true) (hT:∀x∈o.op.operands,aC Z ψ h w (ρ s x) (a.eval x)) (hTm:∀x∈o.op.operands,aM p (ρ s x)) {hh:Heap} (bz:∀id o,hh.get id=some o→h id=some o) {e:bF} (he:cY P Eqs Sg F (opId rid i) hh s o some=some e) (nq:∀v hw,e=.wr v hw→hh.get=h) {p':Nat→Prop} (Sr:∀k,p k→p' k) (hv:aM p' e.v) (hh':u6 p' (e.hp h)) {next:Act→World→Prop} {Q:Exit→Act→World→Prop} (hk:∀a' w' Z' ψ',J p' n Z0 w0 O ψ0 Z' ψ' (iz T o.dst e.v) (e.hp h) a' w'→next a' w'):o.wp P a w next Q:=by
 have nof:∀id,p id→¬(makes o.op=true∧Of rid i id):=fun id h ⟨h1,h2⟩=>hS h1 id h h2;refine ZL (N:=fun id=>makes o.op=true∧Of rid i id) E j.ok.dv j.ok.size bz (id:=opId rid i) (fun hm k hk=>⟨hm,Og hk⟩) hT (fun x hx=>(hTm x hx).imp nof) (fun id ty cs hb=>(j.hm id ty cs hb).imp nof) nq he fun V w' Z' ψ' nx hr=>?_;refine hk _ w' Z' ψ' ⟨j.ok.next (fun id h=>by grind [Of]) nx,(j.tr.next j.ok.dv nx (fun d=>(j.tm d).imp nof)).put hd hr,fun d=>?_,hh'⟩
 cases nt:o.dst with
 |none=>exact(j.tm d).imp Sr
 |some d0 =>
  simp only[iz,dW]
  split
  ·exact hv
  ·exact(j.tm d).imp Sr
theorem J.skip{n:Nat}{p p':Nat→Prop}{T:Nat→AV}{a:Act}{o:Oper}(j:J p n Z0 w0 O ψ0 Z ψ T h a w)(hd:jf n o=true)(Sr:∀k,p k→p' k) :
  J p' n Z0 w0 O ψ0 Z ψ (iz T o.dst (.n8 [])) h (a.put o.dst undef) w:=by
 refine⟨j.ok,j.tr.put hd QQ,fun d=>?_,fun id ty cs hb=>(j.hm id ty cs hb).imp Sr⟩
 cases nt:o.dst with
 |none=>exact(j.tm d).imp Sr
 |some d0 =>
  simp only[iz,dW]
  split
  ·simp only[aM,aD]
  ·exact(j.tm d).imp Sr
theorem Yf{hh:Heap}(g:Good Z ψ hh.get w B0 O){m:Nat}{kk vk:K}{es:List (kk.T×vk.T)}(hg:hh.get m=some (.own (.map kk vk) es))(n:Next Z ψ hh.get w B0 O N Z' ψ' h' w')(hzm:∀b,ob (ψ m)=some b→Z' b) (hold:∀b,b<w.heap.size→w'.heap[b]? = w.heap[b]?) {v:AV} {V:Value} (hm:aM (fun id=>¬N id) v) (hr:aC Z ψ hh.get w v V):aC Z' ψ' h' w' (A4 m (.mp kk vk es) v) V:=by
 by_cases hv:v=.bL m
 ·subst hv;simp only[A4,if_true];simp only[aC]at hr;have hu:=hr.2 (by rw[hg];simp);obtain⟨r,b8,clock,h1,h2,h3,_⟩:=g.row m (.map kk vk) es hg;rw[h1]at hu;subst hu;have aH:=(ab3.1 h2).1;simp only[aC,aL];exact⟨some r,rfl,.inr ⟨r,b8,clock,rfl,hzm r (by rw[h1];rfl),(hold r aH).trans h2,h3.imp (fun _ _ h=>h.mono n.gk (fun b hb=>hold b (g.kg b hb))) (fun _ _ h=>h.mono n.gk (fun b hb=>hold b (g.kg b hb)))⟩⟩
 ·have hf:A4 m (.mp kk vk es) v=v:=by
   unfold A4
   grind
  rw[hf];exact n.rep g hm hr
theorem Tw{p:Nat→Prop}{m:Nat}{kk vk:K}{es:List (kk.T×vk.T)}{v:AV}(hm:aM p v):aM p (A4 m (.mp kk vk es) v):=by
 unfold A4
 grind [aM]
theorem tN(f:AV→AV)(hf:f .no=.no):∀(l:List (Nat×AV)) (d:Nat),look (l.map fun p=>(p.1,f p.2)) d=f (look l d)
 |[],_=>by simp only[List.map_nil,look];exact hf.symm
 |(i,v)::r,d=>by
  simp only[List.map_cons,look]
  split
  ·rfl
  ·exact tN f hf r d
theorem MP{rid n i:Nat}{p p':Nat→Prop}{st eQ:St}{a:Act}{o:Oper}(hS:∀id,p id→¬Of rid i id)(Sr:∀k,p k→p' k)(Ya:p' (opId rid i))(j:J p n Z0 w0 O ψ0 Z ψ (look st.tmps) st.heap.get a w)(hd:jf n o=true)(qy:qc P (opId rid i) st o=some eQ) :
  ∃V w' Z' ψ',(execOp a.eval o).run P w=.ok (.value V) w'∧J p' n Z0 w0 O ψ0 Z' ψ' (look eQ.tmps) eQ.heap.get (a.put o.dst V) w':=by
 unfold qc at qy
 split at qy
 ·rename_i t x Oh
  split at qy
  ·rename_i ka va m hu hx
   split at qy
   ·rename_i kk vk es hg
    cases qy
    have ZM:aC Z ψ st.heap.get w (.bL m) (a.eval x):=by rw[←hx];exact so j.tr x
    simp only[aC]at ZM;have hev:=ZM.2 (by rw[hg];simp);have g:=j.ok.dv;obtain⟨r,b8,clock,h1,h2,h3,h4,h5⟩:=g.row m (.map kk vk) es hg;rw[h1]at hev;have aH:=(ab3.1 h2).1;have gd:=ji g [.bL m];have adZ:∀b,ob (ψ m)=some b→rJ Z ψ st.heap.get [.bL m] b:=fun b hb=>.inr ⟨m,by simp,by rw[hg];simp,hb⟩;have hold:∀b,b<w.heap.size→(w.alloc (.mapIter (some r) clock #[] clock)).heap[b]? = w.heap[b]? := fun b hb=>heap_alloc_old w _ hb;have hN:(Of rid i) (opId rid i):=Kc;have n1:=Cw (N:=Of rid i) gd j.ok.size (opId rid i) hN (ok:=.iter kk vk) (x:=(none,es)) (v:=.pointer (some ⟨w.heap.size,0,none⟩)) (.mapIter (some r) clock #[] clock) ⟨w.heap.size,r,clock,#[],b8,clock,rfl,heap_alloc_new _ _,adZ r (by rw[h1];rfl),(hold r aH).trans h2,h4,rfl,h5,by rw[List.filter_eq_self.2 (fun e _=>by simp)];exact h3.imp (fun _ _ h=>h.mono (fun b hb=>.inl hb) (fun b hb=>hold b (g.kg b hb))) (fun _ _ h=>h.mono (fun b hb=>.inl hb) (fun b hb=>hold b (g.kg b hb))),trivial⟩ rfl (fun i' ty cs hb=>aD.imp (p:=p) (q:=fun i'=>i'≠opId rid i) (fun id hp e=>hS id hp (by simp_all)) (j.hm i' ty cs (dZ _ _ _ _ hb)));have n2:=n1.drop (Z:=Z) (h:=st.heap.get) (fun b hb=>.inl hb) (fun b hb=>hb.imp (fun h=>h) (fun⟨id,_,h5,h6⟩=>⟨id,h5,h6⟩)) (dZ _ _);have lK:(dW (cO st.heap [.bL m]).get (opId rid i) (some (Ob.own (.iter kk vk) (none,es))))=Heap.get ((opId rid i,.own (.iter kk vk) (none,es))::st.heap.del m):=by
     funext k;simp only[cO,drop1,dW,Heap.get]
     grind
    rw[lK]at n2;refine⟨.pointer (some ⟨w.heap.size,0,none⟩),w.alloc (.mapIter (some r) clock #[] clock),rJ Z ψ st.heap.get [.bL m],dW ψ (opId rid i) (.pointer (some ⟨w.heap.size,0,none⟩)),?_,?_⟩
    ·simp_all [guard,Instr.range,Sem.run_bind,run_underlying,Result.andThen_ok,gI,Sem.run_pure,execOp]
    ·have bu:∀d,aM (fun id=>¬Of rid i id) (look st.tmps d):=fun d=>(j.tm d).imp hS;refine⟨by rw[dg];exact j.ok.next (fun id h=>by grind [Of]) n2,?_,fun d=>?_,fun k ty cs hb=>?_⟩
     ·rw[iA,dg];refine cT.put ⟨fun d=>?_,j.tr.size,j.tr.defers⟩ hd ?_
      ·rw[tN _ rfl];exact Yf g hg n2 (fun b hb=>adZ b hb) hold (bu d) (j.tr.rep d)
      ·simp only[aC];exact⟨⟨rfl,rfl⟩,fun _=>(bp _ _ _).symm⟩
     ·rw[iA];have hb:aM p' (look (st.tmps.map fun q=>(q.1,A4 m (.mp kk vk es) q.2)) d):=by rw[tN _ rfl];exact Tw ((j.tm d).imp Sr)
      cases nt:o.dst with
      |none=>exact hb
      |some d0 =>
       simp only[iz,dW]
       grind [aM]
     ·rw[dg]at hb;simp only[Heap.get]at hb
      split at hb
      ·cases hb
      ·exact(j.hm k ty cs (Heap.wE hb).1).imp Sr
   ·cases qy
  ·cases qy
 ·cases qy
theorem o6{R:Type}{n:Nat}{f:Nat→Option R}{r:R}(h:uH n f=some r):∀j,j<n→f j=some r:=by
 unfold uH at h
 split at h
 ·grind
 ·cases h
theorem nO{R:Type}{n:Nat}{f:Nat→Option R}{r:R}(hn:0<n)(h:∀j,j<n→f j=some r):uH n f=some r:=by
 unfold uH;have hx:∃r,∀j,j<n→f j=some r:=⟨r,h⟩;rw[dif_pos hx]
 grind
theorem Next.drawn{d:Nat}(n:Next Z ψ h { w with drawn:=d } B0 O N Z' ψ' h' w'):Next Z ψ h w B0 O N Z' ψ' h' w' :=⟨n.gk,n.eP,⟨n.keep.os,n.keep.tape,n.keep.output,n.keep.size,n.keep.block⟩,n.ids,n.dv⟩
theorem Good.drawn{d:Nat}(g:Good Z ψ h w B0 O):Good Z ψ h { w with drawn:=d } B0 O:=by
 have sm:cw Z w ({ w with drawn:=d }:World):=fun _ _=>rfl;refine⟨fun id ty cs hb=>?_,fun id ok xs hb=>?_,g.live,g.apart,g.kg⟩
 ·obtain⟨gg,vs,h1,h2,h3,h4⟩:=g.box id ty cs hb;exact⟨gg,vs,h1,h2,h3.less (fun _ h=>h) sm (fun i hi=>⟨hi,rfl⟩),h4⟩
 ·exact(g.row id ok xs hb).kept (fun _ h=>h) sm (fun gg _=>rfl)
theorem filter_push{l:List MapEntry}(h:l.Pairwise (fun a b=>a.born≠b.born)){seen:Array Nat}{j:Nat}{e:MapEntry}(he:(l.filter fun e => !seen.contains e.born)[j]? = some e) :
  l.filter (fun x => !(seen.push e.born).contains x.born)=(l.filter fun e => !seen.contains e.born).eraseIdx j:=by
 have h2:(l.filter fun e => !seen.contains e.born).Pairwise (fun a b=>a.born≠b.born):=h.sublist List.filter_sublist;rw[←ChangeMaps.filter_eq_eraseIdx (fun x=>x.born==e.born) _ j e he (by simp) (h2.imp fun {a b} bw hc=>bw (by simp_all))]
 grind [List.filter_filter,Array.contains_push]
theorem MQ{R:Type}{hh:Heap}(g:Good Z ψ hh.get w B0 O){x:AV}{u:Value}{ty:TypeId}(hx:aC Z ψ hh.get w x u){kk:AV→Heap→Option R}{r:R}(he:lR hh x kk=some r) :
  ∃v h' V w',(Instr.next u false ty).run P w=.ok V w'∧Next Z ψ hh.get w B0 O N Z ψ h'.get w'∧aC Z ψ h'.get w' v V∧kk v h'=some r∧(∀p,aM p v)∧∀i ty cs,h'.get i=some (.box ty cs)→hh.get i=some (.box ty cs):=by
 unfold lR at he
 split at he
 ·rename_i id
  split at he
  ·rename_i kk1 vk pp hg;simp only[aC]at hx;have hu:=hx.2 (by rw[hg];simp);obtain⟨b,m,since,seen,b8,clock,h1,h2,h3,h4,h5,h6,h7,h8,h9⟩:=g.row id (.iter kk1 vk) pp hg;rw[h1]at hu;subst hu;subst h6;have aH:=(ab3.1 h2).1;have ZN:(leftOf b8 seen).toList=b8.toList.filter fun e => !seen.contains e.born:=by unfold leftOf;simp
   have hlen:pp.2.length=(leftOf b8 seen).size:=by rw[h8.1,←ZN,Array.length_toList]
   rcases run_next_at (P:=P) w ty b m since since seen b8 since h2 h4 h7 (acW _) with⟨pY,de⟩|⟨e,iy,w1,Oi,de⟩
   ·have QI:pp.2.isEmpty=true:=by rw[List.isEmpty_iff];exact ack (by rw[hlen,pY])
    rw[QI]at he;simp only[cond_true]at he;exact⟨_,hh,_,w,de,Next.refl g,by simp only[aC,ax];exact⟨_,rfl,_,_,rfl,rfl,rfl⟩,he,fun p=>by simp only[aM,aD];exact⟨trivial,trivial⟩,fun _ _ _ h=>h⟩
   ·obtain⟨k,hk,hke⟩:=List.mem_iff_getElem.1 iy;have oW:k<pp.2.length:=by rw[hlen,←Array.length_toList];exact hk
    have QI:pp.2.isEmpty=false:=by
     cases hl:pp.2 with
     |nil=>rw[hl]at oW;simp at oW
     |cons _ _=>rfl
    rw[QI]at he;simp only[cond_false]at he;have hj:=o6 he k oW;rw[List.getElem?_eq_getElem oW,Option.bind_some]at hj;have abt:(b8.toList.filter fun e => !seen.contains e.born)[k]? = some e:=by rw[←ZN,List.getElem?_eq_getElem hk,hke]
    have HR:=h8.2 k _ e (aby oW) abt;obtain⟨⟨k1,k2,k3⟩,v1,v2,v3⟩:=HR;have ajz:e∈b8.toList:=(adl.1 (acC abt)).1;have gd1:Good Z ψ hh.get w1 B0 O:=by rcases Oi with rfl|rfl;exact g;exact g.drawn
    have H9:w1.heap=w.heap:=by rcases Oi with rfl|rfl<;>rfl
    have hmb:m≠b:=fun hmb=>by subst hmb;exact(g.live id m (by rw[hg];simp) (by rw[h1];rfl)).1 h3
    have n1:=tF (N:=N) gd1 (id:=id) (by rw[hg];simp) (r:=b) (by rw[h1];rfl) (by rw[H9];exact aH) (.mapIter (some m) since (seen.push e.born) since) (ok:=.iter kk1 vk) (x:=(some pp.2[k],pp.2.eraseIdx k)) (fun w' Md sm=>by
     have sm':cw Z w w':=fun c hc=>(sm c hc).trans (by rw[H9]);refine⟨b,m,since,seen.push e.born,b8,since,h1,by rw[Md,H9];simp[aH],h3,?_,h5,rfl,h7,?_,?_⟩
     ·rw[Md,H9,yG _ (fun e=>hmb e.symm)];exact h4
     ·rw[filter_push h5 abt];exact(kS.erase h8 k).mono (fun _ h=>h) sm'
     ·refine⟨e,ajz,by simp,⟨rfl,fun q y e' pY E6=>?_⟩⟩
      cases q with
      |zero=>cases pY;cases E6;exact⟨⟨k1.mono (fun _ h=>h) sm',k2,k3⟩,v1.mono (fun _ h=>h) sm',v2,v3⟩
      |succ q=>simp at pY)
    have n2:Next Z ψ hh.get w B0 O N Z ψ (dW hh.get id (some (.own (.iter kk1 vk) (some pp.2[k],pp.2.eraseIdx k)))) { w1 with heap:=w1.heap.setIfInBounds b (.mapIter (some m) since (seen.push e.born) since) }:=by
     rcases Oi with rfl|rfl
     ·exact n1
     ·exact n1.drawn
    refine⟨_,hh.set id (.own (.iter kk1 vk) (some pp.2[k],pp.2.eraseIdx k)),_,_,de,by rw[kK];exact n2,?_,hj,fun p=>?_,fun i ty cs hb=>?_⟩
    ·have sm':cw Z w ({ w1 with heap:=w1.heap.setIfInBounds b (.mapIter (some m) since (seen.push e.born) since) }:World):=n2.same g;simp only[aC,ax];exact⟨_,rfl,_,_,rfl,rfl,_,_,rfl,mz (k1.mono (fun _ h=>h) sm') k2 k3,_,_,rfl,mz (v1.mono (fun _ h=>h) sm') v2 v3,rfl⟩
    ·simp only[aM,aD];exact⟨trivial,oY _ _ _,oY _ _ _,trivial⟩
    ·rw[kK]at hb;unfold dW at hb
     split at hb
     ·cases hb
     ·exact hb
  ·cases he
 ·cases he
theorem Kf(op:BinOp)(t:TypeId)(a b:Operand)(x y:Option Addr)(n m c d:Nat):(eqGuard op t a b (.slice x n c) (.slice y m d)).run P w=.ok () w:=by simp_all [eqGuard]
theorem Fi{t e:TypeId}(ht:P.underlying t=some (.slice e))(a:Option Addr)(n c:Nat):(Op.equal t (.slice a n c) (.slice none 0 0)).run P w=.ok a.isNone w:=by
 have key:∀d,(Op.equalIn (d+1) t (.slice a n c) (.slice none 0 0)).run P w=.ok a.isNone w:=fun d=>by cases a<;>simp[Op.equalIn,run_underlying ht]
 exact key 9999
theorem MR{o:Oper}{x:Operand}{want:Bool}(h:isNil P o=some (x,want)):∃op t v t' e,o.op=.binOp op t x (.const v) t'∧P.underlying t=some (.slice e)∧v=.slice none 0 0∧((op=.eql∧want=true)∨(op=.neq∧want=false)):=by
 unfold isNil at h
 split at h
 ·rename_i op t x' v t' Oh;have hv:∀v:Value,yp v=.fO→v=.slice none 0 0:=fun v hv=>by
   unfold yp at hv
   grind
  grind
 ·cases h
theorem Tx{R:Type}{hh:Heap}(g:Good Z ψ hh.get w B0 O){x:AV}{u:Value}{op:BinOp}{t e:TypeId}(xo yo:Operand)(hx:aC Z ψ hh.get w x u)(ht:P.underlying t=some (.slice e)){want:Bool}(ho:(op=.eql∧want=true)∨(op=.neq∧want=false)){kk:AV→Option R}{r:R}(he:wB hh x want kk=some r) :
  ∃c:Bool,((eqGuard op t xo yo u (.slice none 0 0)).run P w=.ok () w∧(binOp op t u (.slice none 0 0)).run P w=.ok (.bool c) w)∧kk (.bool c)=some r:=by
 have run:∀(a:Option Addr) (n c:Nat),(eqGuard op t xo yo (.slice a n c) (.slice none 0 0)).run P w=.ok () w∧(binOp op t (.slice a n c) (.slice none 0 0)).run P w=.ok (.bool (a.isNone==want)) w:=fun a n c=>by refine⟨Kf _ _ _ _ _ _ _ _ _ _,?_⟩;rcases ho with⟨rfl,rfl⟩|⟨rfl,rfl⟩<;>simp only[Sem.run_bind,Result.andThen_ok,binOp,Fi ht,Sem.run_pure]<;>cases a.isNone<;>rfl
 have fin:∀(n:Nat) (a:Option Addr) (c:Nat) (xs:Bool),(a=none→xs=true)→cond xs (uH 2 fun j=>kk (.bool ((j==0)==want))) (kk (.bool (!want)))=some r → ∃c':Bool,((eqGuard op t xo yo (.slice a n c) (.slice none 0 0)).run P w=.ok () w∧(binOp op t (.slice a n c) (.slice none 0 0)).run P w=.ok (.bool c') w)∧kk (.bool c')=some r:=fun n a c xs Cl h=>by
  refine⟨_,run a n c,?_⟩
  cases xs with
  |true =>
   simp only[cond_true]at h
   cases a with
   |none=>exact o6 h 0 (by decide)
   |some a=>exact o6 h 1 (by decide)
  |false =>
   simp only[cond_false]at h
   cases a with
   |none=>cases Cl rfl
   |some a=>simp_all
 unfold wB at he
 split at he
 ·rename_i hv;have hxn:x=.fO:=by
   cases x<;>simp only[cX]at hv<;>try cases hv
   ·rfl
   grind
  grind [aC]
 ·rename_i ex k xs hv
  cases x with
  |sl ex' k' xs' =>
   simp only[cX]at hv
   cases hv
   simp only[aC,aL]at hx;obtain⟨⟨v,hv,A,c,rfl,h1,h2,_⟩,_⟩:=hx
   cases hv
   refine fin _ A c _ (fun hA=>?_) he;simp_all
  |bL id =>
   simp only[cX]at hv;simp only[aC]at hx
   split at hv
   ·rename_i hg
    cases hv
    have hu:=hx.2 (by rw[hg];simp);obtain⟨vs,⟨_,h1⟩,_⟩:=g.row id _ _ hg;rw[←hu]at h1;rcases h1 with⟨h1,A,rfl⟩|⟨gg,cap,cur,rfl,_⟩
    ·exact fin _ A 0 _ (fun _=>List.isEmpty_iff.2 (ack h1)) he
    ·exact fin _ _ _ _ (fun h=>by cases h) he
   ·cases hv
   ·cases hv
  |_=>grind [cX]
 ·cases he
theorem CT{draw:Bool}{rid:Nat}{ops:Array Oper}{b:Array Nat}{i Mq:Nat}{e:bF}{S:Nat→Prop}{hh:Heap}(hm:u6 (nr rid S) h)(ha:∀j,Mq.testBit j=true→S j)(he:gZ draw rid ops b i Mq e=true) :
  aM (nr rid fun k=>S k∨k=i) e.v∧u6 (nr rid fun k=>S k∨k=i) (e.hp h):=by
 have JJ:∀j,(Mq ||| 2 ^ i).testBit j=true→S j∨j=i:=fun j hj=>by
  grind
 have up:u6 (nr rid fun k=>S k∨k=i) h:=fun id ty cs hb=>(hm id ty cs hb).imp (fun id h1 h2=>.inl (h1 h2))
 cases e with
 |val v=>exact⟨qx (fun j hj=>.inl (ha j hj)) he,up⟩
 |new v os =>
  simp only[gZ,Bool.and_eq_true]at he;refine⟨qx JJ he.1.1,fun id ty cs hb=>?_⟩;simp only[bF.hp]at hb
  split at hb
  ·rename_i o ho
   cases hb
   exact(mK JJ he.2 _ _ ho).2 _ _ rfl
  ·exact up id ty cs hb
 |wr v h' =>simp only[gZ,Bool.and_eq_true]at he;exact⟨qx JJ he.1.2,fun id ty cs hb=>(mK JJ he.2 _ _ hb).2 _ _ rfl⟩
theorem Fj{i j:Nat}(h:(2 ^ i-1).testBit j=true):j<i:=by simp_all
def yS(mk:Bool)(rid i id:Nat):Prop:=mk=true→nr rid (fun k=>k<i) id
theorem mb(E:Env P Eqs Sg F){rid n:Nat}{ops:Array Oper}{b:Array Nat}(mk:Bool)(Yg:mk=false→∀(i:Nat) (o:Oper),ops[i]? = some o→makes o.op=false)(hn:ops.size≤128)(nt:∀(i:Nat) (o:Oper),ops[i]? = some o→jf n o=true){kk:St→Option R}{r:R}{Q:Exit→Act→World→Prop} (hQ:∀eQ Z ψ a w,kk eQ=some r→Ok Z0 w0 O ψ0 Z ψ eQ.heap.get w→cT Z ψ eQ.heap.get w n (look eQ.tmps) a→Q .normal a w) :
  ∀(l:List (Nat×Oper)) (i:Nat) (st:St) (Z:Nat→Prop) (ψ:Nat→Value) (a:Act) (w:World),CS ops i l→bJ P Eqs Sg F rid false ops b l st kk=some r → J (yS mk rid i) n Z0 w0 O ψ0 Z ψ (look st.tmps) st.heap.get a w→wpOps P ops Q (l.map Prod.fst) a w
 |[],i,st,Z,ψ,a,w,_,hx,j=>hQ st Z ψ a w hx j.ok j.tr
 |(i',o)::l,i,st,Z,ψ,a,w,hl,hx,j=>by
  obtain⟨rfl,ho,hl⟩:=hl;have hi:i'<128:=ac6 (ab3.1 ho).1 hn;have Xz:=nt i' o ho;have ih:=mb E (rid:=rid) (b:=b) mk Yg hn nt hQ l (i'+1);have up:∀id,yS mk rid i' id→yS mk rid (i'+1) id:=fun id h hm hr=>Nat.lt_succ_of_lt (h hm hr);have runs:∀jl:St,look jl.tmps=look st.tmps→jl.heap=st.heap→Region.wanted o (yielded ops a.tmps)=true →(match qc P (opId rid i') jl o with
    |some eQ=>bJ P Eqs Sg F rid false ops b l eQ kk
    |none=>match wA o with
    |some x=>lR jl.heap (ρ jl.tmps x) fun v h=>bJ P Eqs Sg F rid false ops b l (({ jl with heap:=h }:St).put o.dst v) kk
    |none=>match isNil P o with
    |some (x,want)=>wB jl.heap (ρ jl.tmps x) want fun v=>bJ P Eqs Sg F rid false ops b l (jl.put o.dst v) kk
    |none=>cY P Eqs Sg F (opId rid i') jl.heap jl.tmps o fun e=>if gZ false rid ops b i' (2 ^ i' - 1) e then bJ P Eqs Sg F rid false ops b l ({ jl with heap:=match e with | .wr _ h=>h|e=>e.h jl.heap }.put o.dst e.v) kk else none)=some r →
    wpOps P ops Q (((i',o)::l).map Prod.fst) a w:=by
   intro jl h1 h2 hw hx
   split at hx
   ·rename_i eQ qy;simp only[List.map_cons,wpOps,ho,hw,if_true];refine .inl ?_;have apF:makes o.op=true:=by
     unfold qc at qy
     split at qy
     ·rename_i Oh;rw[Oh];rfl
     ·cases qy
    have ajB:mk=true:=by
     grind
    have j1:J (yS mk rid i') n Z0 w0 O ψ0 Z ψ (look jl.tmps) jl.heap.get a w:=by simp_all
    obtain⟨V,w',Z',ψ',de,j'⟩:=MP (P:=P) (p':=yS mk rid (i'+1)) (fun id hp rK=>by obtain⟨h3,h4⟩:=rK.parts hi;have:=hp ajB h3;omega) up (fun _ h3=>by have:=((Kc (rid:=rid) (i:=i')).parts hi).2;omega) j1 Xz qy;unfold Oper.wp;rw[de];exact ih eQ Z' ψ' _ w' hl hx j'
   split at hx
   ·rename_i x QS;simp only[List.map_cons,wpOps,ho,hw,if_true];refine .inl ?_;have Oh:o.op=.next x false:=by
     grind [wA]
    have ZM:aC Z ψ jl.heap.get w (ρ jl.tmps x) (a.eval x):=so (by rw[h1,h2];exact j.tr) x;have g1:Good Z ψ jl.heap.get w w0.heap.size O:=by rw[h2];exact j.ok.dv
    obtain⟨v,h',V,w',de,nx,hr,X5,Xv,rC⟩:=MQ (P:=P) (N:=fun _=>False) (ty:=o.type) g1 ZM hx;have Ty:(execOp a.eval o).run P w=.ok (.value V) w':=by simp_all [guard,execOp]
    unfold Oper.wp;rw[Ty];refine ih _ Z ψ _ w' hl X5 ?_;rw[iA,dg];have j1:J (yS mk rid i') n Z0 w0 O ψ0 Z ψ (look jl.tmps) jl.heap.get a w:=by simp_all
    refine⟨j1.ok.next (fun id h=>h.elim) nx,(j1.tr.next g1 nx (fun d=>(j1.tm d).imp fun _ _ h=>h)).put Xz hr,fun d=>?_,fun k ty cs hb=>(j1.hm k ty cs (rC k ty cs hb)).imp up⟩
    cases nt:o.dst with
    |none=>exact(j1.tm d).imp up
    |some d0 =>
     simp only[iz,dW]
     split
     ·exact Xv _
     ·exact(j1.tm d).imp up
   split at hx
   ·rename_i x want hnl;obtain⟨op,t,v,t',et,Oh,ht,rfl,CU⟩:=MR hnl;simp only[List.map_cons,wpOps,ho,hw,if_true];refine .inl ?_;have ZM:aC Z ψ jl.heap.get w (ρ jl.tmps x) (a.eval x):=so (by rw[h1,h2];exact j.tr) x;have g1:Good Z ψ jl.heap.get w w0.heap.size O:=by rw[h2];exact j.ok.dv
    obtain⟨c,de,X5⟩:=Tx (P:=P) g1 x (.const (.slice none 0 0)) ZM ht CU hx;have Ty:(execOp a.eval o).run P w=.ok (.value (.bool c)) w:=by obtain⟨dst,op',type,pos,after,guard⟩:=o;simp only at Oh;subst Oh;have e1:a.eval (.const (.slice none 0 0))=.slice none 0 0:=rfl;simp_all [execOp]
    unfold Oper.wp;rw[Ty];refine ih _ Z ψ _ w hl X5 ?_;rw[iA,dg];have j1:J (yS mk rid i') n Z0 w0 O ψ0 Z ψ (look jl.tmps) jl.heap.get a w:=by simp_all
    refine⟨j1.ok,j1.tr.put Xz (by rfl),fun d=>?_,fun k ty cs hb=>(j1.hm k ty cs hb).imp up⟩
    cases nt:o.dst with
    |none=>exact(j1.tm d).imp up
    |some d0 =>
     simp only[iz,dW]
     split
     ·simp only[aM]
     ·exact(j1.tm d).imp up
   rw[ma]at hx;obtain⟨e,he,hx⟩:=ac2.1 hx
   split at hx
   ·rename_i kM;simp only[List.map_cons,wpOps,ho,hw,if_true];refine .inl ?_;have hh:jl.heap.get=st.heap.get:=by rw[h2]
    have qy:aM (yS mk rid (i'+1)) e.v∧u6 (yS mk rid (i'+1)) (e.hp st.heap.get):=by
     cases abu:mk with
     |false =>have ht:yS false rid (i'+1)=fun _=>True:=funext fun id=>propext ⟨fun _=>trivial,fun _ h=>by cases h⟩;rw[ht];exact⟨aM.top _,fun _ _ cs _=>aD.top cs⟩
     |true =>
      have ZF:u6 (nr rid fun k=>k<i') st.heap.get:=fun id ty cs hb=>(j.hm id ty cs hb).imp fun id h1=>h1 abu;have h3:=CT (hh:=jl.heap) ZF (fun k hk=>Fj hk) kM;have hS:∀k,(k<i'∨k=i')→k<i'+1:=fun k hk=>by omega
      exact⟨h3.1.imp fun id h1 _ h2=>hS _ (h1 h2),fun id ty cs hb=>(h3.2 id ty cs hb).imp fun id h1 _ h2=>hS _ (h1 h2)⟩
    refine J.op E (p:=yS mk rid i') (p':=yS mk rid (i'+1)) (rid:=rid) (i:=i') (s:=jl.tmps) (fun hm id hp rK => ?_) j Xz (fun x _=>so (by rw[h1];exact j.tr) x) (fun x _=>QR (by rw[h1];exact j.tm) x) (fun id o hg=>by simp_all) he (fun _ _ _=>hh) up qy.1 qy.2 fun a' w' Z' ψ' j' => ?_
    ·cases abu:mk with
     |false=>grind
     |true =>obtain⟨h3,h4⟩:=rK.parts hi;have:=hp abu h3;omega
    refine ih _ Z' ψ' a' w' hl hx ?_;rw[iA,dg];have j2:J (yS mk rid (i'+1)) n Z0 w0 O ψ0 Z' ψ' (iz (look jl.tmps) o.dst e.v) (bF.heap e jl.heap).get a' w':=by grind [bF.Kd]
    exact j2
   ·cases hx
  have wT:∀jl:St,look jl.tmps=look st.tmps→jl.heap=st.heap→Region.wanted o (yielded ops a.tmps)=false → bJ P Eqs Sg F rid false ops b l (jl.put o.dst (.n8 [])) kk=some r→wpOps P ops Q (((i',o)::l).map Prod.fst) a w:=by intro jl h1 h2 hw hx;simp only[List.map_cons,wpOps,ho,hw,Bool.false_eq_true,if_false];refine ih _ Z ψ _ w hl hx ?_;rw[iA,dg,h1,h2];exact j.skip Xz up
  rw[bJ]at hx;simp only[Bool.false_eq_true,if_false]at hx
  split at hx
  ·rename_i hg;exact runs st rfl rfl (by simp[Region.wanted,hg]) hx
  ·rename_i jj want hg
   split at hx
   ·cases hx
   ·rename_i d hd
    split at hx
    ·rename_i t ht;have hw:=CR j.tr hg hd ht;have hp:∀b,t=b→look (st.put (some d) (.bool b)).tmps=look st.tmps:=fun b hb=>by subst hb;rw[iA];exact Gy ht
     cases t<;>simp only[cond_true,cond_false]at hx<;>split at hx<;>rename_i CU
     ·exact wT _ (hp false rfl) (dg _ _ _) (by simp_all) hx
     ·exact runs _ (hp false rfl) (dg _ _ _) (by simp_all) hx
     ·exact runs _ (hp true rfl) (dg _ _ _) (by simp_all) hx
     ·exact wT _ (hp true rfl) (dg _ _ _) (by simp_all) hx
    ·rename_i vs ht;exact wT st rfl rfl (Ax j.tr hg hd ht) hx
    ·cases hx
theorem kZ(hp h:Heap)(i:Nat):∀(ft:List Nat),(fC ft hp h).get i=if i∈ft then(match hp.get i with|some o=>some o|none=>h.get i) else h.get i
 |[]=>by simp[fC]
 |j::r=>by
  have ih:=kZ hp h i r;unfold fC at ih ⊢
  cases hj:hp.get j with
  |none =>
   rw[List.filterMap_cons,hj];simp only[Option.map_none];rw[ih];by_cases e:i=j
   ·subst e;simp[hj]
   ·simp[e]
  |some o =>
   rw[List.filterMap_cons,hj];simp only[Option.map_some,List.cons_append,Heap.get];rw[ih];by_cases e:j=i
   ·subst e;simp[hj]
   ·have e':¬i=j:=fun h=>e h.symm;simp[e,e']
mutual
theorem Ay{ft:List Nat}:∀{v:AV},rW ft v=true→aM (fun i=>i∉ft) v
 |.ref id _ _ _,h=>by simp only[aM];simpa[rW] using h
 |.bL id,h=>by simp only[aM];simpa[rW] using h
 |.fn _ cap,h=>by simp only[aM];exact k0 (by simpa only[rW] using h)
 |.agg cs,h=>by simp only[aM];exact k0 (by simpa only[rW] using h)
 |.n8 vs,h=>by simp only[aM];exact k0 (by simpa only[rW] using h)
 |.no,_=>by simp only[aM]
 |.bool _,_=>by simp only[aM]
 |.int _ _,_=>by simp only[aM]
 |.str _,_=>by simp only[aM]
 |.lQ,_=>by simp only[aM]
 |.fO,_=>by simp only[aM]
 |.fp _ _ _,_=>by simp only[aM]
 |.sl _ _ _,_=>by simp only[aM]
 |.mp _ _ _,_=>by simp only[aM]
theorem k0{ft:List Nat}:∀{l:List AV},vv ft l=true→aD (fun i=>i∉ft) l
 |[],_=>by simp only[aD]
 |v::r,h=>by simp only[vv,Bool.and_eq_true]at h;simp only[aD];exact⟨Ay h.1,k0 h.2⟩
end
theorem k9{ft:List Nat}:∀{hh:Heap},vx ft hh=true→∀i o,hh.get i=some o→i∉ft∧∀ty cs,o=.box ty cs→aD (fun i=>i∉ft) cs
 |[],_,i,o,h=>by simp[Heap.get]at h
 |(j,.box ty cs)::r,hc,i,o,h=>by
  simp only[vx,Bool.and_eq_true]at hc;simp only[Heap.get]at h
  split at h
  ·rename_i e;subst e;cases h;exact⟨by simpa using hc.1,fun ty cs e=>by cases e;exact k0 hc.2.1⟩
  ·exact k9 hc.2.2 i o h
 |(j,.own ok x)::r,hc,i,o,h=>by
  simp only[vx,Bool.and_eq_true]at hc;simp only[Heap.get]at h
  split at h
  ·rename_i e;subst e;cases h;exact⟨by simpa using hc.1,fun ty cs e=>by cases e⟩
  ·exact k9 hc.2 i o h
theorem Next.frame{hp h1:Heap}{ft:List Nat}(g:Good Z ψ hp.get w B0 O)(hB:B0≤w.heap.size)(bu:∀i ty cs,hp.get i=some (.box ty cs)→aD (fun i=>¬N i) cs) (n:Next Z ψ (im hp ft).get w w.heap.size (Own ψ (im hp ft).get) N Z' ψ' h1.get w') (hc:vx ft h1=true) :
  ∃eE,Next Z ψ hp.get w B0 O N Z' eE (fC ft hp h1).get w'∧∀i,i∉ft→eE i=ψ' i:=by
 classical
 have gd:∀i,(im hp ft).get i=if i∈ft then none else hp.get i:=fun i=>oZ ft hp i
 have bz:∀b,Own ψ (im hp ft).get b→Own ψ hp.get b:=fun b ⟨i,h1,h2⟩=>⟨i,by simp_all,h2⟩;have vB:∀i,i∈ft→h1.get i=none:=fun i hi=>by
  cases e:h1.get i with
  |none=>rfl
  |some o=>grind [absurd,k9]
 have gf:∀i,(fC ft hp h1).get i=if i∈ft then hp.get i else h1.get i:=fun i=>by
  rw[kZ]
  grind
 let eE:Nat→Value:=fun i=>if i∈ft then ψ i else ψ' i
 have p1:∀i,i∈ft→eE i=ψ i:=fun i hi=>if_pos hi;have p2:∀i,i∉ft→eE i=ψ' i:=fun i hi=>if_neg hi;have apart:∀i b,i∈ft→hp.get i≠none→ob (ψ i)=some b→¬Own ψ (im hp ft).get b:=fun i b hi h2 h3 ⟨j,h4,h5⟩=>by
  rw[gd]at h4
  split at h4
  ·exact h4 rfl
  ·rename_i hj;have:=g.apart i j b h2 h4 h3 h5;simp_all
 have cH:∀i b,i∈ft→hp.get i≠none→ob (ψ i)=some b→w'.heap[b]? = w.heap[b]? := fun i b hi h2 h3 =>n.keep.block b (g.bP ⟨i,h2,h3⟩) (apart i b hi h2 h3);have keep:cP ψ hp.get w w':=⟨n.keep.os,n.keep.tape,n.keep.output,n.keep.size,fun b hb hn=>n.keep.block b hb fun ho=>hn (bz b ho)⟩;have sm:cw Z w w':=keep.same g;have ids:∀i,(fC ft hp h1).get i≠none→(hp.get i≠none∧eE i=ψ i)∨N i:=fun i hi=>by
  rw[gf]at hi;by_cases hf:i∈ft
  ·simp_all
  ·rw[if_neg hf]at hi;rcases n.ids i hi with⟨h2,h3⟩|h2
   ·simp_all
   simp_all
 have nz:∀i b,i∈ft→hp.get i≠none→ob (ψ i)=some b→¬Z' b:=fun i b hi h2 h3 hz=>by
  rcases n.eP b hz with h4|h4|h4
  ·exact(g.live i b h2 h3).1 h4
  ·grind
  ·have:=g.bP ⟨i,h2,h3⟩;omega
 refine⟨eE,⟨n.gk,fun b hb=>(n.eP b hb).imp (fun h=>h) (fun h=>h.imp (bz b) fun h=>h),keep,ids,⟨fun i ty cs hb=>?_,fun i ok x hb=>?_,fun i b h2 h3=>?_,fun i j b h2 h3 h4 h5=>?_,n.dv.kg⟩⟩,p2⟩
 ·rw[gf]at hb;by_cases hf:i∈ft
  ·rw[if_pos hf]at hb;obtain⟨gg,vs,e1,e2,e3,e4⟩:=g.box i ty cs hb;refine⟨gg,vs,by simp_all,(cH i gg hf (by rw[hb];simp) (by rw[e1];rfl)).trans e2,e3.move n.gk sm (fun j hj bw=>(ids j bw).resolve_right hj) (bu i ty cs hb),e4⟩
  ·rw[if_neg hf]at hb;obtain⟨gg,vs,e1,e2,e3,e4⟩:=n.dv.box i ty cs hb;refine⟨gg,vs,by simp_all,e2,e3.move (fun _ h=>h) (cw.refl _ _) (fun j hj bw=>?_) ((k9 hc i _ hb).2 ty cs rfl),e4⟩;simp_all
 ·rw[gf]at hb;by_cases hf:i∈ft
  ·rw[if_pos hf]at hb;rw[p1 i hf];exact(g.row i ok x hb).kept n.gk sm (fun b oz=>cH i b hf (by rw[hb];simp) oz)
  ·rw[if_neg hf]at hb;rw[p2 i hf];exact n.dv.row i ok x hb
 ·rw[gf]at h2;by_cases hf:i∈ft
  ·rw[if_pos hf]at h2;rw[p1 i hf]at h3;exact⟨nz i b hf h2 h3,(g.live i b h2 h3).2⟩
  ·rw[if_neg hf]at h2;rw[p2 i hf]at h3;obtain⟨h4,h5⟩:=n.dv.live i b h2 h3;refine⟨h4,h5.elim (fun h=>.inl (acY hB h)) fun h=>?_⟩;obtain⟨j,h6,h7⟩:=bz b h;exact(g.live j b h6 h7).2
 ·have mixed:∀i j b,i∈ft→j∉ft→(fC ft hp h1).get i≠none→(fC ft hp h1).get j≠none→ob (eE i)=some b→ob (eE j)=some b→False:=fun i j b hi hj h2 h3 h4 h5=>by
   rw[gf,if_pos hi]at h2;rw[gf,if_neg hj]at h3;rw[p1 i hi]at h4;rw[p2 j hj]at h5;rcases (n.dv.live j b h3 h5).2 with h6|h6
   ·have:=g.bP ⟨i,h2,h4⟩;omega
   grind
  by_cases hi:i∈ft<;>by_cases hj:j∈ft
  ·rw[gf,if_pos hi]at h2;rw[gf,if_pos hj]at h3;rw[p1 i hi]at h4;rw[p1 j hj]at h5;exact g.apart i j b h2 h3 h4 h5
  ·grind
  ·grind
  ·rw[gf,if_neg hi]at h2;rw[gf,if_neg hj]at h3;rw[p2 i hi]at h4;rw[p2 j hj]at h5;exact n.dv.apart i j b h2 h3 h4 h5
theorem J.opF(E:Env P Eqs Sg F){rid n i:Nat}{p:Nat→Prop}{T:Nat→AV}{a:Act}{s:List (Nat×AV)}{o:Oper}(hS:makes o.op=true→∀id,p id→¬Of rid i id){hp h1:Heap}{v:AV}{ft:List Nat}(j:J p n Z0 w0 O ψ0 Z ψ T hp.get a w)(hd:jf n o=true) (hT:∀x∈o.op.operands,aC Z ψ hp.get w (ρ s x) (a.eval x)) (hTm:∀x∈o.op.operands,aM p (ρ s x)) (he:cY P Eqs Sg F (opId rid i) (im hp ft) s o some=some (.wr v h1)) (hc:mu ft (.wr v h1)=true) {p':Nat→Prop} (Sr:∀k,p k→p' k) (hv:aM p' v) (hh':u6 p' (fC ft hp h1).get) {next:Act→World→Prop} {Q:Exit→Act→World→Prop} (hk:∀a' w' Z' ψ',J p' n Z0 w0 O ψ0 Z' ψ' (iz T o.dst v) (fC ft hp h1).get a' w'→next a' w'):o.wp P a w next Q:=by
 have nof:∀id,p id→¬(makes o.op=true∧Of rid i id):=fun id h ⟨h1,h2⟩=>hS h1 id h h2;simp only[mu,Bool.and_eq_true]at hc;have bz:∀id o,(im hp ft).get id=some o→hp.get id=some o:=fun id o h=>by grind [oZ]
 have bw:∀id,(im hp ft).get id≠none→hp.get id≠none:=fun id h=>by obtain⟨o,ho⟩:=acb.1 h;simp_all
 have bu:∀i' ty cs,hp.get i'=some (.box ty cs)→aD (fun id=>¬(makes o.op=true∧Of rid i id)) cs:=fun id ty cs hb=>(j.hm id ty cs hb).imp nof;have gs:Good Z ψ (im hp ft).get w w.heap.size (Own ψ (im hp ft).get):=(j.ok.dv.sub bz).H4 _;refine ZL (N:=fun id=>makes o.op=true∧Of rid i id) E gs (acW _) (fun _ _ h=>h) (id:=opId rid i) (fun hm k hk=>⟨hm,Og hk⟩) (fun x hx=>(hT x hx).og bz) (fun x hx=>(hTm x hx).imp nof) (fun id ty cs hb=>bu id ty cs (bz _ _ hb)) (fun _ _ _=>rfl) he fun V w' Z' ψ' nx hr=>?_;obtain⟨eE,n2,h2⟩:=Next.frame j.ok.dv j.ok.size bu nx hc.2;have QT:aC Z' eE (fC ft hp h1).get w' v V:=hr.move (p:=fun i=>i∉ft) (fun _ h=>h) (cw.refl _ _) (fun k hk bw=>by rw[kZ,if_neg hk]at bw;exact⟨bw,h2 k hk⟩) (Ay hc.1);refine hk _ w' Z' eE ⟨j.ok.next (fun id h=>by grind [Of]) n2,(j.tr.next j.ok.dv n2 (fun d=>(j.tm d).imp nof)).put hd QT,fun d=>?_,hh'⟩
 cases nt:o.dst with
 |none=>exact(j.tm d).imp Sr
 |some d0 =>
  simp only[iz,dW]
  split
  ·exact hv
  ·exact(j.tm d).imp Sr
end Go.Vs
namespace Go.Vs
variable {P:Program} {Eqs:TypeId→Option K} {Sg:FuncId→Option aP} {F:(f:FuncId)→(g:aP)→g.A→Option g.B} {R:Type}
variable {Z Z' Z0:Nat→Prop} {ψ ψ':Nat→Value} {h h':Hp} {w w' w0:World} {B0:Nat} {O N:Nat→Prop}
variable {rid n:Nat} {ops:Array Oper} {b:Array Nat}
def tO(b:Array Nat)(i j:Nat):Prop:=(b.getD i 0).testBit j=true
theorem GA(b:Array Nat)(j:Nat):∀(l:List Edge) (s:Nat),(l.foldl (fun s e=>if Region.binds .any e then s ||| 2 ^ e.on ||| b.getD e.on 0 else s) s).testBit j=true ↔
  s.testBit j=true∨∃e∈l,Region.binds .any e=true∧(j=e.on∨tO b e.on j)
 |[],s=>by simp
 |e::l,s=>by
  rw[List.foldl_cons,GA b j l];by_cases hb:Region.binds .any e=true
  ·rw[if_pos hb];have h2:(2 ^ e.on).testBit j=true↔j=e.on:=by grind
   simp only[Nat.testBit_or,Bool.or_eq_true,h2,List.mem_cons,exists_eq_or_imp,hb,true_and,tO]
   grind
  simp_all
theorem BE(hb:wz ops b=true){i j:Nat}{o:Oper}(ho:ops[i]? = some o):tO b i j↔∃e∈o.after.toList,Region.binds .any e=true∧(j=e.on∨tO b e.on j):=by have aH:=(ab3.1 ho).1;have h1:=ac3.1 hb i (ac5.2 aH);rw[ho]at h1;simp only[Bool.and_eq_true,beq_iff_eq]at h1;unfold tO;rw[h1.2,GA];simp[tO]
theorem MS(hb:wz ops b=true){i:Nat}{o:Oper}(ho:ops[i]? = some o){e:Edge}(he:e∈o.after.toList)(Sp:Region.binds .any e=true):e.on<i:=by
 have aH:=(ab3.1 ho).1;have h1:=ac3.1 hb i (ac5.2 aH)
 grind
theorem CV(hb:wz ops b=true):∀(i j:Nat),i<ops.size→tO b i j→j<i:=by
 intro i
 induction i using Nat.strongRecOn with
 |ind i ih =>
  intro j hi h;obtain⟨e,he,Sp,h1⟩:=(BE hb (acX hi)).1 h;have hon:=MS hb (acX hi) he Sp
  grind
theorem GB(hb:wz ops b=true):∀(i j k:Nat),i<ops.size→tO b i j→tO b j k→tO b i k:=by
 intro i
 induction i using Nat.strongRecOn with
 |ind i ih =>
  intro j k hi h h';obtain⟨e,he,Sp,h1⟩:=(BE hb (acX hi)).1 h;have hon:=MS hb (acX hi) he Sp;refine(BE hb (acX hi)).2 ⟨e,he,Sp,?_⟩
  grind
theorem get_filter(f:Nat→Bool):∀(hh:Heap) (i:Nat),Heap.get (hh.filter fun p=>f p.1) i=if f i then hh.get i else none
 |[],i=>by simp[Heap.get]
 |(j,o)::r,i=>by
  rw[List.filter_cons]
  split
  ·rename_i hj;simp only[Heap.get];by_cases e:j=i
   ·simp_all
   simp_all [if_neg,get_filter]
  ·rename_i hj;rw[get_filter f r i];simp only[Heap.get]
   grind
theorem QU(rid Mq:Nat)(hh:Heap)(id:Nat):(ahead rid Mq hh).get id=if uG rid Mq id then hh.get id else none:=by unfold ahead;exact get_filter (fun i=>uG rid Mq i) hh id
theorem Kg(ft:List Nat)(hp:Heap)(e:bF):(hY ft hp e).v=e.v:=by cases e<;>rfl
theorem Kh{id:Nat}{hh:Heap}{s:List (Nat×AV)}{o:Oper}{x:Operand}{e:bF}(hl:je o.op=some x)(he:cY P Eqs Sg F id hh s o some=some e):∃v,e=.val v:=by
 obtain⟨dst,op,type,pos,after,guard⟩:=o
 cases op<;>simp only[je]at hl<;>first|simp_all|skip
 case load t a =>
  simp only[cY,mq]at he
  grind [Option.some.inj,Option.bind_eq_some_iff]
 case indexAddr t a i =>
  simp only[cY,dC]at he
  repeat' (first|(cases he;done)|exact⟨_,(ac0 he).symm⟩|split at he)
  all_goals first
   |grind [Option.bind_eq_some_iff,Option.some.inj]
   |grind
theorem yT{op:Op}{x:Operand}(hl:je op=some x):oc op=false∧Bo op=false:=by cases op<;>simp only[je]at hl<;>first|(cases hl;done)|exact⟨rfl,rfl⟩
theorem MT{id:Nat}{hh h2:Heap}{s:List (Nat×AV)}{o:Oper}{x:Operand}(hl:je o.op=some x)(hg:∀i∈kQ (ρ s x),h2.get i=hh.get i):cY P Eqs Sg F id h2 s o some=cY P Eqs Sg F id hh s o some:=by
 obtain⟨dst,op,type,pos,after,guard⟩:=o
 cases op<;>simp only[je]at hl<;>first|(cases hl;done)|skip
 case load t a =>
  cases hl
  simp only[cY,mq]
  cases hv:ρ s x with
  |ref i s' j off=>rw[hv]at hg;simp only[kQ,List.mem_singleton,forall_eq]at hg;simp only[hg]
  |_=>rfl
 case indexAddr t a i =>
  cases hl
  simp only[cY,dC]
  cases rM P t with
  |none=>rfl
  |some e =>
   simp only[]
   cases hv:ρ s x with
   |bL k =>
    rw[hv]at hg;have ym:=hg k (by simp[kQ])
    cases ρ s i<;>first|rfl|simp only[ym]
   |sl ex k xs=>cases ρ s i<;>rfl
   |_=>rfl
def ri(ops:Array Oper)(T:Nat→AV)(o:Oper)(t:Bool):Prop :=match o.guard with
 |none=>t=true
 |some (j,want)=>∃d,(ops[j]?).bind (·.dst)=some d∧((∃u,T d=.bool u∧(u==want)=t)∨(∃vs,T d=.n8 vs∧t=false))
def CW(P:Program)(Eqs:TypeId→Option K)(Sg:FuncId→Option aP)(F:(f:FuncId)→(g:aP)→g.A→Option g.B)(rid:Nat)(ops:Array Oper)(b:Array Nat)(T:Nat→Nat→AV)(H:Nat→Hp)(E:Nat→Option bF)(k:Nat)(o:Oper):Prop :=(∃e s hh,E k=some e∧look s=T k∧(∀id,Heap.get hh id=if uG rid (b.getD k 0) id then H k id else none)∧(∃e0,cY P Eqs Sg F (opId rid k) (im hh (hM ops b k s o)) s o some=some e0∧e=hY (hM ops b k s o) hh e0∧mu (hM ops b k s o) e0=true) ∧
  gZ true rid ops b k (b.getD k 0) e=true∧ri ops (T k) o true∧T (k+1)=iz (T k) o.dst e.v∧H (k+1)=e.hp (H k)) ∨
 (E k=none∧ri ops (T k) o false∧T (k+1)=iz (T k) o.dst (.n8 [])∧H (k+1)=H k)
theorem trace{kk:St→Option R}{r:R}:∀(l:List (Nat×Oper)) (i:Nat) (st:St),CS ops i l→l.length=ops.size-i→bJ P Eqs Sg F rid true ops b l st kk=some r → ∃(T:Nat→Nat→AV) (H:Nat→Hp) (E:Nat→Option bF),T i=look st.tmps∧H i=st.heap.get∧(∀k o,i≤k→ops[k]? = some o→CW P Eqs Sg F rid ops b T H E k o) ∧ ∃eQ,kk eQ=some r∧look eQ.tmps=T (max i ops.size)∧eQ.heap.get=H (max i ops.size)
 |[],i,st,_,hlen,hx=>by
  have Qt:ops.size≤i:=by grind
  refine⟨fun _=>look st.tmps,fun _=>st.heap.get,fun _=>none,rfl,rfl,fun k o hk ho=>?_,st,hx,rfl,rfl⟩
  grind
 |(i',o)::l,i,st,hl,hlen,hx=>by
  obtain⟨rfl,ho,hl⟩:=hl;have aH:=(ab3.1 ho).1;have ih:=trace (kk:=kk) (r:=r) l (i'+1);have ad1:l.length=ops.size-(i'+1):=by grind
  have glue:∀(eQ:St) (oe:Option bF),bJ P Eqs Sg F rid true ops b l eQ kk=some r →(∀T H E,T i'=look st.tmps→H i'=st.heap.get→E i'=oe→T (i'+1)=look eQ.tmps→H (i'+1)=eQ.heap.get→CW P Eqs Sg F rid ops b T H E i' o) → ∃(T:Nat→Nat→AV) (H:Nat→Hp) (E:Nat→Option bF),T i'=look st.tmps∧H i'=st.heap.get∧(∀k o,i'≤k→ops[k]? = some o→CW P Eqs Sg F rid ops b T H E k o) ∧ ∃eQ,kk eQ=some r∧look eQ.tmps=T (max i' ops.size)∧eQ.heap.get=H (max i' ops.size):=by
   intro eQ oe XZ Ae;obtain⟨T,H,E,h1,h2,h3,ajD,h4,h5,h6⟩:=ih eQ hl ad1 XZ;refine⟨fun k=>if k≤i' then look st.tmps else T k,fun k=>if k≤i' then st.heap.get else H k,fun k=>if k=i' then oe else E k,by simp,by simp,fun k o' hk rK => ?_,ajD,h4,?_,?_⟩
   ·by_cases hki:k=i'
    ·grind
    ·have h7:=h3 k o' (by omega) rK;unfold CW at h7 ⊢;simp only[show ¬k≤i' by omega,show ¬k+1≤i' by omega,hki,if_false];exact h7
   ·grind
   grind
  have runs:∀jl:St,look jl.tmps=look st.tmps→jl.heap=st.heap→ri ops (look st.tmps) o true →(cY P Eqs Sg F (opId rid i') (im (ahead rid (b.getD i' 0) jl.heap) (hM ops b i' jl.tmps o)) jl.tmps o fun e=>if(gZ true rid ops b i' (b.getD i' 0) (hY (hM ops b i' jl.tmps o) (ahead rid (b.getD i' 0) jl.heap) e)&&mu (hM ops b i' jl.tmps o) e)=true then bJ P Eqs Sg F rid true ops b l ({ jl with heap:=match hY (hM ops b i' jl.tmps o) (ahead rid (b.getD i' 0) jl.heap) e with | .wr _ h=>h|e=>e.h jl.heap }.put o.dst e.v) kk else none)=some r →
    ∃(T:Nat→Nat→AV) (H:Nat→Hp) (E:Nat→Option bF),T i'=look st.tmps∧H i'=st.heap.get∧(∀k o,i'≤k→ops[k]? = some o→CW P Eqs Sg F rid ops b T H E k o) ∧ ∃eQ,kk eQ=some r∧look eQ.tmps=T (max i' ops.size)∧eQ.heap.get=H (max i' ops.size):=by
   intro jl h1 h2 hw hx;rw[ma]at hx;obtain⟨e,he,hx⟩:=ac2.1 hx
   split at hx
   ·rename_i kM;rw[Bool.and_eq_true]at kM;generalize CX:hY (hM ops b i' jl.tmps o) (ahead rid (b.getD i' 0) jl.heap) e=e1 at hx kM;have yI:e.v=e1.v:=by grind [Kg]
    refine glue _ (some e1) hx fun T H E hT hH hE hT' hH' => ?_;refine .inl ⟨e1,jl.tmps,_,hE,by rw[hT,h1],fun id=>by rw[QU,hH,h2],⟨e,he,CX.symm,kM.2⟩,kM.1,by grind,?_,?_⟩
    ·grind [iA]
    ·rw[hH',dg,hH];have:(bF.heap e1 jl.heap).get=e1.hp st.heap.get:=by rw[bF.Kd,h2]
     exact this
   ·cases hx
  have wT:∀jl:St,look jl.tmps=look st.tmps→jl.heap=st.heap→ri ops (look st.tmps) o false → bJ P Eqs Sg F rid true ops b l (jl.put o.dst (.n8 [])) kk=some r → ∃(T:Nat→Nat→AV) (H:Nat→Hp) (E:Nat→Option bF),T i'=look st.tmps∧H i'=st.heap.get∧(∀k o,i'≤k→ops[k]? = some o→CW P Eqs Sg F rid ops b T H E k o) ∧ ∃eQ,kk eQ=some r∧look eQ.tmps=T (max i' ops.size)∧eQ.heap.get=H (max i' ops.size):=by
   intro jl h1 h2 hw hx;refine glue _ none hx fun T H E hT hH hE hT' hH'=>.inr ⟨hE,by grind,?_,?_⟩
   ·grind [iA]
   grind [dg]
  rw[bJ]at hx;simp only[if_true]at hx
  split at hx
  ·rename_i hg;exact runs st rfl rfl (by simp[ri,hg]) hx
  ·rename_i jj want hg
   split at hx
   ·cases hx
   ·rename_i d hd
    split at hx
    ·rename_i t ht;have hp:∀b,t=b→look (st.put (some d) (.bool b)).tmps=look st.tmps:=fun b hb=>by subst hb;rw[iA];exact Gy ht
     have hw:∀c,(t==want)=c→ri ops (look st.tmps) o c:=fun c hc=>by
      grind [ri]
     cases t<;>simp only[cond_true,cond_false]at hx<;>split at hx<;>rename_i CU
     ·exact wT _ (hp false rfl) (dg _ _ _) (hw _ (by simp[CU])) hx
     ·exact runs _ (hp false rfl) (dg _ _ _) (hw _ (by simp[CU])) hx
     ·exact runs _ (hp true rfl) (dg _ _ _) (hw _ (by simp[CU])) hx
     ·exact wT _ (hp true rfl) (dg _ _ _) (hw _ (by simp[CU])) hx
    ·rename_i vs ht;exact wT st rfl rfl (by unfold ri;grind) hx
    ·cases hx
def Nf(ops:Array Oper)(j:Nat):Prop:=∃o,ops[j]? = some o∧oc o.op=false∧je o.op=none
def CY(E:Nat→Option bF)(k:Nat):Prop:=∃v h',E k=some (.wr v h')
def IsN(E:Nat→Option bF)(k:Nat):Prop:=∃v os,E k=some (.new v os)
theorem wU{α:Type}(f:α→Option Nat):∀(l:List α),ck (l.filterMap f)=true→∀(i j:Nat) (x y:α) (d:Nat),l[i]? = some x→l[j]? = some y→f x=some d→f y=some d→i=j
 |[],_,i,j,x,y,d,hi,_,_,_=>by simp at hi
 |a::r,hn,i,j,x,y,d,hi,hj,hx,hy=>by
  have iy:∀(k:Nat) (z:α),r[k]? = some z→f z=some d→d∈r.filterMap f:=fun k z hk hz=>ad3.2 ⟨z,acC hk,hz⟩;have hr:ck (r.filterMap f)=true∧∀c,f a=some c→c∉r.filterMap f:=by
   rw[List.filterMap_cons]at hn
   split at hn
   ·rename_i h0;exact⟨hn,fun c hc=>by rw[h0]at hc;cases hc⟩
   ·rename_i c h0;simp only[ck,Bool.and_eq_true,Bool.not_eq_true']at hn;refine⟨hn.2,fun c' hc=>?_⟩;rw[h0]at hc;cases hc;intro hm;rw[List.contains_iff_mem.2 hm]at hn;simp at hn
  cases i with
  |zero =>
   cases j with
   |zero=>rfl
   |succ j =>simp only[List.getElem?_cons_zero,Option.some.injEq]at hi;subst hi;exact absurd (iy j y (by simpa using hj) hy) (hr.2 d hx)
  |succ i =>
   cases j with
   |zero =>simp only[List.getElem?_cons_zero,Option.some.injEq]at hj;subst hj;exact absurd (iy i x (by simpa using hi) hx) (hr.2 d hy)
   |succ j=>rw[wU f r hr.1 i j x y d (by simpa using hi) (by simpa using hj) hx hy]
structure Dr(P:Program)(Eqs:TypeId→Option K)(Sg:FuncId→Option aP)(F:(f:FuncId)→(g:aP)→g.A→Option g.B)(rid n:Nat)(ops:Array Oper)(b:Array Nat)(T:Nat→Nat→AV)(H:Nat→Hp)(E:Nat→Option bF):Prop where
 size:ops.size≤128
 Tz:wz ops b=true
 pair:Cb ops b=true
 ajF:∀(i:Nat) (o:Oper),ops[i]? = some o→jf n o=true
 nodup:ck (ops.toList.filterMap (·.dst))=true
 step:∀k o,ops[k]? = some o→CW P Eqs Sg F rid ops b T H E k o
 ajG:∀id,H 0 id≠none→id / 32768≠rid+1
section
variable {T:Nat→Nat→AV} {H:Nat→Hp} {E:Nat→Option bF}
theorem Dr.wV(D:Dr P Eqs Sg F rid n ops b T H E){i j:Nat}{x y:Oper}{d:Nat}(hi:ops[i]? = some x)(hj:ops[j]? = some y)(hx:x.dst=some d)(hy:y.dst=some d):i=j :=wU (·.dst) ops.toList D.nodup i j x y d (by simpa using hi) (by simpa using hj) hx hy
theorem Dr.ZO(D:Dr P Eqs Sg F rid n ops b T H E){i j:Nat}{x y:Oper}(hi:ops[i]? = some x)(hj:ops[j]? = some y)(E9:i<j):tO b j i∨x.apart ops y=true:=by have h1:=ac3.1 D.pair j (ac5.2 (ab3.1 hj).1);have h2:=ac3.1 h1 i (ac5.2 E9);rw[hi,hj]at h2;simp only[Bool.or_eq_true,Bool.and_eq_true]at h2;exact h2
theorem Dr.Yh(D:Dr P Eqs Sg F rid n ops b T H E){k:Nat}{o:Oper}(ho:ops[k]? = some o){e:bF}(he:E k=some e) :
  ∃s hh,look s=T k∧(∀id,Heap.get hh id=if uG rid (b.getD k 0) id then H k id else none)∧(∃e0,cY P Eqs Sg F (opId rid k) (im hh (hM ops b k s o)) s o some=some e0∧e=hY (hM ops b k s o) hh e0∧mu (hM ops b k s o) e0=true) ∧
   gZ true rid ops b k (b.getD k 0) e=true∧ri ops (T k) o true∧T (k+1)=iz (T k) o.dst e.v∧H (k+1)=e.hp (H k):=by
 rcases D.step k o ho with⟨e',s,hh,h1,h2⟩|⟨h1,_⟩
 ·grind
 simp_all
theorem Dr.Ia(D:Dr P Eqs Sg F rid n ops b T H E){k:Nat}{o:Oper}(ho:ops[k]? = some o)(he:E k=none) :
  ri ops (T k) o false∧T (k+1)=iz (T k) o.dst (.n8 [])∧H (k+1)=H k:=by
 rcases D.step k o ho with⟨e',s,hh,h1,h2⟩|⟨h1,h2⟩
 ·simp_all
 ·exact h2
theorem Dr.yU(D:Dr P Eqs Sg F rid n ops b T H E){k:Nat}(hk:k<ops.size)(h:IsN E k):Nf ops k:=by
 obtain⟨v,os,he⟩:=h;obtain⟨s,hh,_,_,⟨e0,h3,ZD,_⟩,_⟩:=D.Yh (acX hk) he;refine⟨_,acX hk,?_,?_⟩
 ·cases hf:oc (ops[k]).op with
  |false=>rfl
  |true=>obtain⟨v',rfl⟩:=J9 hf h3;cases ZD
 ·cases hf:je (ops[k]).op with
  |none=>rfl
  |some x=>obtain⟨v',rfl⟩:=Kh hf h3;cases ZD
theorem Dr.TA(D:Dr P Eqs Sg F rid n ops b T H E){k:Nat}(hk:k<ops.size)(h:CY E k):Nf ops k:=by
 obtain⟨v,os,he⟩:=h;obtain⟨s,hh,_,_,⟨e0,h3,ZD,_⟩,_⟩:=D.Yh (acX hk) he;refine⟨_,acX hk,?_,?_⟩
 ·cases hf:oc (ops[k]).op with
  |false=>rfl
  |true=>obtain⟨v',rfl⟩:=J9 hf h3;cases ZD
 ·cases hf:je (ops[k]).op with
  |none=>rfl
  |some x=>obtain⟨v',rfl⟩:=Kh hf h3;cases ZD
theorem Dr.CZ(D:Dr P Eqs Sg F rid n ops b T H E){k j:Nat}(hk:k<ops.size)(h:CY E k)(hj:Nf ops j)(bw:j≠k):(j<k∧tO b k j)∨(k<j∧tO b j k):=by
 obtain⟨v,os,he⟩:=h;obtain⟨s,hh,_,_,_,h4,_⟩:=D.Yh (acX hk) he;obtain⟨o,ho,hf,So⟩:=hj;have Qq:=(ab3.1 ho).1;simp only[gZ,Bool.and_eq_true]at h4;have h5:Mp ops b k=true:=by simpa using h4.1.1
 have h6:=ac3.1 h5 j (ac5.2 Qq);have hlf:oP ops k j=false:=by unfold oP JG;rw[ho];simp only[Option.bind_some,So,Option.map_none]
 rw[hlf,ho]at h6;simp only[So,Option.isSome_none,Bool.and_false,Bool.or_false]at h6;simp only[Bool.or_eq_true,beq_iff_eq,hf,Bool.false_eq_true,or_false]at h6;rcases h6 with(h6|h6)|h6
 ·exact absurd h6 bw
 ·exact .inr ⟨CV D.Tz j k Qq h6,h6⟩
 ·exact .inl ⟨CV D.Tz k j hk h6,h6⟩
theorem Dr.C0(D:Dr P Eqs Sg F rid n ops b T H E){p:Nat}:∀(q:Nat),p≤q→q≤ops.size→∀id,(∀k,p≤k→k<q→CY E k→H (k+1) id=H k id)→(∀k,p≤k→k<q→IsN E k→¬Of rid k id)→H q id=H p id:=by
 intro q
 induction q with
 |zero=>simp_all
 |succ q ih =>
  intro HV hq id hw bM;by_cases he:p=q+1
  ·rw[he]
  ·have h1:=ih (by omega) (by omega) id (fun k h1 h2=>hw k h1 (by omega)) (fun k h1 h2=>bM k h1 (by omega));rw[←h1];have ho:=acX (show q<ops.size by omega)
   cases hE:E q with
   |none=>rw[(D.Ia ho hE).2.2]
   |some e =>
    obtain⟨s,hh,_,_,_,h4,_,_,h7⟩:=D.Yh ho hE
    cases e with
    |val v=>rw[h7];rfl
    |wr v h'=>exact hw q (by omega) (by omega) ⟨v,h',hE⟩
    |new v os =>
     rw[h7];simp only[bF.hp]
     cases hos:Heap.get os id with
     |none=>rfl
     |some o' =>
      exfalso;simp only[gZ,Bool.and_eq_true]at h4;refine bM q (by omega) (by omega) ⟨v,os,hE⟩ ?_;have:∀(l:Heap),(l.all fun p=>p.1 / 256==(rid+1)*128+q)=true→∀o',l.get id=some o'→Of rid q id:=by
       intro l
       induction l with
       |nil=>grind [Heap.get]
       |cons a r ihl =>
        intro iq o' hg;simp only[List.all_cons,Bool.and_eq_true,beq_iff_eq]at iq;simp only[Heap.get]at hg
        split at hg
        ·rename_i e;rw[←e];exact iq.1
        simp_all
      grind
theorem Dr.BF(D:Dr P Eqs Sg F rid n ops b T H E){p:Nat}(q:Nat)(HV:p≤q)(hq:q≤ops.size)(hw:∀k,p≤k→k<q→¬CY E k)(id:Nat)(hn:∀k,p≤k→k<q→IsN E k→¬Of rid k id):H q id=H p id :=D.C0 q HV hq id (fun k h1 h2 h3=>absurd h3 (hw k h1 h2)) hn
theorem Dr.names(D:Dr P Eqs Sg F rid n ops b T H E):∀(k:Nat),k≤ops.size→∀id,H k id≠none→id / 32768=rid+1→∃j,Of rid j id∧j<k∧j<128∧(IsN E j∨∃w,w<k∧CY E w∧(j=w∨tO b w j)):=by
 intro k
 induction k with
 |zero=>intro _ id h1 h2;exact absurd h2 (D.ajG id h1)
 |succ k ih =>
  intro hk id h1 h2;have aH:k<ops.size:=by omega
  have up:H k id≠none→∃j,Of rid j id∧j<k+1∧j<128∧(IsN E j∨∃w,w<k+1∧CY E w∧(j=w∨tO b w j)):=fun h=>by
   grind
  have ho:=acX aH;have TB:=D.size
  cases hE:E k with
  |none=>rw[(D.Ia ho hE).2.2]at h1;exact up h1
  |some e =>
   obtain⟨s,hh,_,_,_,h4,_,_,h7⟩:=D.Yh ho hE;rw[h7]at h1
   cases e with
   |val v=>exact up h1
   |wr v h' =>
    obtain⟨o',rK⟩:=acb.1 h1;simp only[gZ,Bool.and_eq_true]at h4;have h5:(b.getD k 0 ||| 2 ^ k).testBit (id / 256%128)=true:=(mK (S:=fun j=>(b.getD k 0 ||| 2 ^ k).testBit j=true) (fun j hj=>hj) h4.2 id o' rK).1 h2;rw[Nat.testBit_or,Bool.or_eq_true,Nat.testBit_two_pow]at h5;refine⟨id / 256%128,Of.of h2 rfl,?_,by omega,.inr ⟨k,by omega,⟨v,h',hE⟩,?_⟩⟩
    ·rcases h5 with h5|h5
     ·have:=CV D.Tz k _ aH h5;omega
     simp_all
    ·rcases h5 with h5|h5
     ·exact .inr h5
     simp_all
   |new v os =>
    simp only[bF.hp]at h1
    cases hos:Heap.get os id with
    |none=>simp_all
    |some o' =>
     simp only[gZ,Bool.and_eq_true]at h4;have:∀(l:Heap),(l.all fun p=>p.1 / 256==(rid+1)*128+k)=true→∀o',l.get id=some o'→Of rid k id:=by
      intro l
      induction l with
      |nil=>grind [Heap.get]
      |cons a r ihl =>
       intro iq o' hg;simp only[List.all_cons,Bool.and_eq_true,beq_iff_eq]at iq;simp only[Heap.get]at hg
       split at hg
       ·rename_i e;rw[←e];exact iq.1
       simp_all
     exact⟨k,this os h4.1.2 o' hos,by omega,by omega,.inl ⟨v,os,hE⟩⟩
theorem Dr.abv(D:Dr P Eqs Sg F rid n ops b T H E){q:Nat}(o8:q<ops.size)(ZP:CY E q):∀id,H q id≠none→nr rid (tO b q) id:=fun id bw TC=>by
 obtain⟨j,h1,h2,h2',h3⟩:=D.names q (by omega) id bw TC;rw[(h1.parts h2').2];rcases h3 with h3|⟨w',h5,h6,h8⟩
 ·rcases D.CZ o8 ZP (D.yU (by omega) h3) (by omega) with⟨_,h9⟩|⟨h9,_⟩
  ·exact h9
  ·omega
 ·have hqw:tO b q w':=by
   rcases D.CZ o8 ZP (D.TA (by omega) h6) (by omega) with⟨_,h9⟩|⟨h9,_⟩
   ·exact h9
   ·omega
  rcases h8 with rfl|h8
  ·exact hqw
  ·exact GB D.Tz q w' j o8 hqw h8
theorem Dr.o9(D:Dr P Eqs Sg F rid n ops b T H E){d p:Nat}:∀(q:Nat),p≤q→q≤ops.size→(∀m o,p≤m→m<q→ops[m]? = some o→o.dst≠some d)→T q d=T p d
 |0,h,_,_=>by simp_all
 |q+1,h,hq,hm=>by
  by_cases e:p=q+1
  ·rw[e]
  ·have ho:=acX (show q<ops.size by omega);have ih:=D.o9 q (by omega) (by omega) fun m o h1 h2=>hm m o h1 (by omega);rw[←ih];have hd:=hm q _ (by omega) (by omega) ho;have key:∀v,iz (T q) (ops[q]).dst v d=T q d:=fun v=>by
    cases nt:(ops[q]).dst with
    |none=>rfl
    |some d' =>
     simp only[iz,dW]
     grind
   rcases D.step q _ ho with⟨e,s,hh,_,_,_,_,_,_,h7,_⟩|⟨_,_,h3,_⟩
   ·rw[h7,key]
   simp_all
theorem Dr.ZQ(D:Dr P Eqs Sg F rid n ops b T H E){i:Nat}(hi:i≤ops.size){x:Operand}{s:List (Nat×AV)}(hs:look s=T i){id:Nat}(bM:id∈kQ (ρ s x)):id∈kQ (ρ s (stepOf ops i x)):=by
 unfold stepOf
 split
 rotate_left
 ·exact bM
 rename_i d
 split
 rotate_left
 ·exact bM
 rename_i m hf
 split
 rotate_left
 ·exact bM
 rename_i o ho
 split
 rotate_left
 ·exact bM
 rename_i t e f Oh
 split
 ·exact bM
 rename_i bw;obtain⟨hm,Jx,_⟩:=List.findIdx?_eq_some_iff_getElem.1 hf;have hmi:m<i:=by rw[List.length_take]at hm;omega
 have hd:o.dst=some d:=by
  rw[List.getElem_take]at Jx;rw[Array.getElem?_eq_getElem (by omega)]at ho
  cases ho
  simpa using Jx
 have vB:∀(q:Nat) (o':Oper),m≤q→ops[q]? = some o'→o'.dst≠some e:=fun q o' hq h1 h2=>by obtain⟨h3,h4⟩:=ab3.1 h1;exact bw (List.any_eq_true.2 ⟨q,ac5.2 h3,by rw[h1];simp[h2,hq]⟩)
 have e1:T i d=T (m+1) d:=D.o9 i (by omega) hi fun q o' h1 h2 h3 h4=>by have:=D.wV h3 ho h4 hd;omega
 have e2:T i e=T m e:=D.o9 i (by omega) hi fun q o' h1 _ h3=>vB q o' h1 h3;simp only[ρ,hs]at bM ⊢;rw[e1]at bM;rw[e2];rcases D.step m o ho with⟨ef,s',hh,_,hs',_,⟨e0,h0,CX,_⟩,_,_,h7,_⟩|⟨_,_,h3,_⟩
 ·rw[h7,hd]at bM;simp only[iz,bp]at bM;rw[CX,Kg]at bM;obtain⟨dst,op,type,pos,after,guard⟩:=o;simp only at Oh;subst Oh;simp only[cY,ρ,hs']at h0
  split at h0
  ·rename_i hx
   split at h0
   ·cases h0
   ·cases h0
    rw[hx];exact bM
  ·split at h0
   ·cases h0
   ·cases h0;cases bM
  ·cases h0
 ·rw[h3,hd]at bM;simp only[iz,bp,kQ]at bM
  cases bM
theorem Dr.base(D:Dr P Eqs Sg F rid n ops b T H E){i:Nat}(hi:i≤ops.size){x:Operand}{s:List (Nat×AV)}(hs:look s=T i){id:Nat}(bM:id∈kQ (ρ s x)):id∈kQ (ρ s (Mo ops i x)):=D.ZQ hi hs (D.ZQ hi hs bM)
theorem Dr.steady(D:Dr P Eqs Sg F rid n ops b T H E){i k:Nat}{o:Oper}{x:Operand}(ho:ops[i]? = some o)(hl:je o.op=some x)(hk:k<ops.size)(hw:CY E k)(bw:i≠k)(h1:¬tO b i k)(h2:¬tO b k i) {s:List (Nat×AV)} (hs:look s=T i) (yV:tn ops b i s o=false) {id:Nat} (bM:id∈kQ (ρ s x)):H (k+1) id=H k id:=by
 have o8:=(ab3.1 ho).1;obtain⟨v,h',hE⟩:=hw;have kM:=acX hk;obtain⟨sk,hh,TD,ZR,⟨e0,ZD,CX,uR⟩,h4,_,_,h7⟩:=D.Yh kM hE;simp only[gZ,Bool.and_eq_true]at h4;have h5:Mp ops b k=true:=by simpa using h4.1.1
 have h6:=ac3.1 h5 i (ac5.2 o8);rw[ho,kM]at h6;have b1:(b.getD i 0).testBit k=false:=Bool.eq_false_iff.2 h1;have b2:(b.getD k 0).testBit i=false:=Bool.eq_false_iff.2 h2;have b3:(i==k)=false:=by simp[bw]
 simp only[b1,b2,b3,(yT hl).1,Bool.false_or,Bool.and_eq_true]at h6;obtain⟨C1,h8⟩:=h6;have Oj:oP ops k i=true:=by
  simp only[Bool.or_eq_true,Bool.and_eq_true]at h8;rcases h8 with h8|⟨h8,_⟩
  ·exact h8
  unfold tn at yV;rw[hl]at yV;simp only[h8,Bool.true_and]at yV;have HP:(kQ (ρ s x)).isEmpty=false:=by cases hq:kQ (ρ s x) with
   |nil=>rw[hq]at bM;cases bM
   |cons _ _=>rfl
  simp only[HP,Bool.not_false,Bool.true_and,Bool.not_eq_false']at yV;have h9:=ac3.1 yV k (ac5.2 hk);rw[kM]at h9;have b4:(k==i)=false:=by simp[Ne.symm bw]
  simpa only[b1,b2,b4,C1,Bool.not_true,Bool.false_or] using h9
 have hft:hM ops b k sk ops[k]=aa5 ops b k sk:=by unfold hM;rw[if_pos C1]
 have hb:=D.base (by omega) hs bM;generalize hy:Mo ops i x=y at hb;have nG:ρ sk y=ρ s y:=by
  cases y with
  |tmp d =>
   simp only[ρ,TD,hs];unfold oP JG at Oj;rw[ho]at Oj;simp only[Option.bind_some,hl,Option.map_some,hy]at Oj;have hm:∀m o',min k i≤m→m<max k i→ops[m]? = some o'→o'.dst≠some d:=fun m o' g1 g2 g3 hd=>by have g4:=ac3.1 Oj m (ac5.2 (by omega));rw[g3]at g4;simp[hd,g1,g2]at g4
   rcases Nat.lt_or_ge i k with g|g
   ·exact D.o9 k (by omega) (by omega) fun m o' g1 g2=>hm m o' (by omega) (by omega)
   ·exact(D.o9 i (by omega) (by omega) fun m o' g1 g2=>hm m o' (by omega) (by omega)).symm
  |_=>rfl
 have iy:id∈hM ops b k sk ops[k]:=by rw[hft];unfold aa5;refine List.mem_flatMap.2 ⟨i,ac5.2 o8,?_⟩;unfold JG;rw[b1,b2,b3,ho];simp only[Bool.or_self,Bool.false_eq_true,if_false,Option.bind_some,hl,Option.map_some,hy];rw[nG];exact hb
 cases e0 with
 |val v0=>cases CX
 |new v0 os=>cases CX
 |wr v0 Xr =>
  cases CX
  simp only[mu,Bool.and_eq_true]at uR;have hn:Xr.get id=none:=by
   cases e:Xr.get id with
   |none=>rfl
   |some ob=>exact absurd iy (k9 uR.2 id ob e).1
  rw[h7];show(fC _ hh Xr).get id=H k id;rw[kZ,if_pos iy,hn,ZR id]
  cases ajI:H k id with
  |none=>simp
  |some ob =>
   have h8:=D.abv hk ⟨_,_,hE⟩ id (by rw[ajI];simp);have h9:uG rid (b.getD k 0) id=true:=by
    unfold uG;by_cases hr:id / 32768=rid+1
    ·have:=h8 hr;unfold tO at this;rw[this];simp
    ·simp[hr]
   rw[if_pos h9]
end
end Go.Vs
namespace Go.Vs
variable {P:Program} {Eqs:TypeId→Option K} {Sg:FuncId→Option aP} {F:(f:FuncId)→(g:aP)→g.A→Option g.B} {R:Type}
variable {Z Z' Z0:Nat→Prop} {ψ ψ' ψ0:Nat→Value} {h h':Hp} {w w' w0:World} {B0:Nat} {O N:Nat→Prop}
variable {rid n:Nat} {ops:Array Oper} {b:Array Nat} {T:Nat→Nat→AV} {H:Nat→Hp} {E:Nat→Option bF}
structure Dj(rid:Nat)(ops:Array Oper)(b:Array Nat)(T:Nat→Nat→AV)(H:Nat→Hp)(E:Nat→Option bF)(S:Nat→Prop)(Tc:Nat→AV)(h:Hp):Prop where
 lt:∀i,S i→i<ops.size
 closed:∀i j,S i→tO b i j→S j
 heap:∃q,q≤ops.size∧(∀k,k<q→CY E k→S k)∧(q<ops.size→CY E q∧¬S q)∧∀id,(nr rid S id→h id=H q id)∧(¬nr rid S id→h id=none)
 TE:∀j o d,S j→ops[j]? = some o→o.dst=some d→Tc d=T (j+1) d
 told:∀d,(∀j o,S j→ops[j]? = some o→o.dst≠some d)→Tc d=T 0 d
theorem Dr.TF(D:Dr P Eqs Sg F rid n ops b T H E){k:Nat}{o:Oper}(ho:ops[k]? = some o){d:Nat}(hd:o.dst≠some d):T (k+1) d=T k d:=by
 have:∀v,iz (T k) o.dst v d=T k d:=fun v=>by
  cases nt:o.dst with
  |none=>rfl
  |some d' =>
   simp only[iz,dW]
   grind
 rcases D.step k o ho with⟨e,s,hh,_,_,_,_,_,_,h7,_⟩|⟨_,_,h3,_⟩
 ·rw[h7,this]
 simp_all
theorem Dr.wW(D:Dr P Eqs Sg F rid n ops b T H E){d:Nat}:∀(i:Nat),i≤ops.size→(∀k o,k<i→ops[k]? = some o→o.dst≠some d)→T i d=T 0 d
 |0,_,_=>rfl
 |i+1,hi,hk=>by rw[D.TF (Array.getElem?_eq_getElem (show i<ops.size by omega)) (hk i _ (by omega) (Array.getElem?_eq_getElem (by omega)))];exact D.wW i (by omega) fun k o h1 h2=>hk k o (by omega) h2
theorem Dr.Ib(D:Dr P Eqs Sg F rid n ops b T H E){d j:Nat}{oj:Oper}(hj:ops[j]? = some oj)(hd:oj.dst=some d):∀(i:Nat),i≤ops.size→j<i→T i d=T (j+1) d
 |0,_,h=>by omega
 |i+1,hi,h=>by
  by_cases e:j=i
  ·rw[e]
  ·have ho:=acX (show i<ops.size by omega);rw[D.TF ho (fun hdi=>e (D.wV hj ho hd hdi))];exact D.Ib hj hd i (by omega) (by omega)
theorem Dr.looks(D:Dr P Eqs Sg F rid n ops b T H E){S:Nat→Prop}{Tc:Nat→AV}(dj:Dj rid ops b T H E S Tc h){i:Nat}{o:Oper}(ho:ops[i]? = some o)(hS:¬S i)(hb:∀j,tO b i j→S j){d:Nat}(hd:d∈o.looksAt ops):Tc d=T i d:=by
 have hi:=(ab3.1 ho).1;by_cases hex:∃(j:Nat) (oj:Oper),ops[j]? = some oj∧oj.dst=some d
 ·obtain⟨j,oj,hj,hdj⟩:=hex;have cH:¬S j→Tc d=T 0 d:=fun hn=>dj.told d fun j' o' hs rK TG=>hn (by rw[D.wV hj rK hdj TG];exact hs);have Tz:i≤j→T i d=T 0 d:=fun E9=>D.wW i (by omega) fun k o' hk rK TG=>by have:=D.wV hj rK hdj TG;omega
  rcases Nat.lt_trichotomy j i with aH|rfl|Ol
  ·rcases D.ZO hj ho aH with h1|h1
   ·rw[dj.TE j oj d (hb j h1) hj hdj,D.Ib hj hdj i (by omega) aH]
   grind [absurd,Oper.apart_spec]
  ·simp_all
  ·rcases D.ZO ho hj Ol with h1|h1
   ·rw[cH (fun hs=>hS (dj.closed j i hs h1)),Tz (by omega)]
   grind [absurd,Oper.apart_spec]
 ·rw[dj.told d fun j o' _ rK TG=>hex ⟨j,o',rK,TG⟩,D.wW i (by omega) fun k o' _ rK TG=>hex ⟨k,o',rK,TG⟩]
theorem Dr.TH{S:Nat→Prop}{Tc:Nat→AV}(D:Dr P Eqs Sg F rid n ops b T H E)(dj:Dj rid ops b T H E S Tc h){i:Nat}{o:Oper}(ho:ops[i]? = some o)(hS:¬S i){v:AV}(hv:T (i+1)=iz (T i) o.dst v) :
  (∀j o' d,(S j∨j=i)→ops[j]? = some o'→o'.dst=some d→iz Tc o.dst v d=T (j+1) d)∧(∀d,(∀j o',(S j∨j=i)→ops[j]? = some o'→o'.dst≠some d)→iz Tc o.dst v d=T 0 d):=by
 constructor
 ·intro j o' d hj rK hd;rcases hj with hj|rfl
  ·have bw:j≠i:=fun e=>hS (e▸hj);have:iz Tc o.dst v d=Tc d:=by
    cases nt:o.dst with
    |none=>rfl
    |some d' =>simp only[iz,dW];rw[if_neg];rintro rfl;exact bw (D.wV rK ho hd nt)
   rw[this];exact dj.TE j o' d hj rK hd
  simp_all [iz,dW]
 ·intro d hd;have:iz Tc o.dst v d=Tc d:=by
   cases nt:o.dst with
   |none=>rfl
   |some d' =>
    simp only[iz,dW]
    grind
  rw[this];exact dj.told d fun j o' hj=>hd j o' (.inl hj)
theorem wX{i k id:Nat}(h1:Of rid i id)(h2:Of rid k id):i=k:=by grind [Of]
section
variable {S:Nat→Prop} {Tc:Nat→AV}
theorem Dr.calm(D:Dr P Eqs Sg F rid n ops b T H E)(dj:Dj rid ops b T H E S Tc h){i q:Nat}(hi:Nf ops i)(hS:¬S i)(hq:q≤ops.size)(hw:∀k,k<q→CY E k→S k):∀k,i≤k→k<q→¬CY E k:=by
 intro k hik hkq hk;have TD:=hw k hkq hk;have bw:i≠k:=fun e=>hS (e▸TD);rcases D.CZ (by omega) hk hi bw with⟨_,h1⟩|⟨h1,_⟩
 ·exact hS (dj.closed k i TD h1)
 ·omega
theorem Dr.seen(D:Dr P Eqs Sg F rid n ops b T H E)(dj:Dj rid ops b T H E S Tc h){i:Nat}(hi:Nf ops i)(hS:¬S i)(hb:∀j,tO b i j→S j){hh:Heap}(ZR:∀id,Heap.get hh id=if uG rid (b.getD i 0) id then H i id else none) :
  ∀id o,hh.get id=some o→h id=some o:=by
 obtain⟨q,hq,hw,lL,lK⟩:=dj.heap;have o8:i<ops.size:=by obtain⟨o,ho,hf1,hf2⟩:=hi;grind
 have hiq:i≤q:=by
  rcases Nat.lt_or_ge q i with h1|h1
  ·obtain⟨h2,h3⟩:=lL (by omega);rcases D.CZ (by omega) h2 hi (by omega) with⟨h4,_⟩|⟨_,h4⟩
   ·omega
   simp_all
  ·exact h1
 intro id o bM;rw[ZR]at bM
 split at bM
 ·rename_i kM;have tM:nr rid S id:=o4 hb kM;rw[(lK id).1 tM,D.BF q hiq hq (D.calm dj hi hS hq hw) id fun k hk _ _ ho=>?_,bM];have TC:=(ho.parts (by have:=D.size;omega)).1;obtain⟨j,h1,h2,_⟩:=D.names i (by omega) id (by rw[bM];simp) TC
  grind [wX]
 ·cases bM
theorem Dr.QV(D:Dr P Eqs Sg F rid n ops b T H E)(dj:Dj rid ops b T H E S Tc h){i:Nat}{o:Oper}{x:Operand}(ho:ops[i]? = some o)(hl:je o.op=some x)(hS:¬S i)(hb:∀j,tO b i j→S j){s:List (Nat×AV)}(hs:look s=T i)(yV:tn ops b i s o=false) {hh:Heap} (ZR:∀id,Heap.get hh id=if uG rid (b.getD i 0) id then H i id else none):∀id∈kQ (ρ s x),∀ob,hh.get id=some ob→h id=some ob:=by
 obtain⟨q,hq,hw,lL,lK⟩:=dj.heap;have o8:=(ab3.1 ho).1;have TB:=D.size;intro id bM ob oz;rw[ZR]at oz
 split at oz
 ·rename_i kM;have tM:nr rid S id:=o4 hb kM;rw[(lK id).1 tM,←oz];rcases Nat.lt_or_ge q i with hqi|hiq
  ·obtain⟨h2,h3⟩:=lL (by omega);have later:∀k,q<k→k<ops.size→Nf ops k→tO b k q:=fun k h4 h5 h6=>by
    rcases D.CZ (by omega) h2 h6 (by omega) with⟨h7,_⟩|⟨_,h7⟩
    ·omega
    ·exact h7
   have ad7:∀k,q≤k→k<i→Nf ops k→¬S k:=fun k h4 h5 h6 hk=>by
    rcases Nat.eq_or_lt_of_le h4 with e|h7
    ·simp_all
    ·exact h3 (dj.closed k q hk (later k h7 (by omega) h6))
   symm
   refine D.C0 i (by omega) (by omega) id (fun k h4 h5 h6=>?_) (fun k h4 h5 h6 h7=>?_)
   ·have hns:=ad7 k h4 h5 (D.TA (by omega) h6);exact D.steady ho hl (by omega) h6 (by omega) (fun MU=>hns (hb k MU)) (fun MU=>by have:=CV D.Tz k i (by omega) MU;omega) hs yV bM
   ·have hns:=ad7 k h4 h5 (D.yU (by omega) h6);have h8:=h7.parts (show k<128 by omega);have h9:=tM h8.1;simp_all
  ·refine D.C0 q hiq hq id (fun k h4 h5 h6=>?_) (fun k h4 h5 h6 h7=>?_)
   ·have TD:=hw k h5 h6;have bw:i≠k:=fun e=>hS (e▸TD);exact D.steady ho hl (by omega) h6 bw (fun MU=>by have:=CV D.Tz i k o8 MU;omega) (fun MU=>hS (dj.closed k i TD MU)) hs yV bM
   ·obtain⟨j,h8,h9,_⟩:=D.names i (by omega) id (by rw[oz];simp) (h7.parts (by omega)).1
    grind [wX]
 ·cases oz
theorem TI(E:Nat→Option bF)(S:Nat→Prop)(m:Nat):∃q,q≤m∧(∀k,k<q→CY E k→S k)∧(q<m→CY E q∧¬S q):=by
 classical
 induction m with
 |zero=>simp_all
 |succ m ih =>
  grind
theorem Ic{i id:Nat}(hi:i<128):nr rid (fun k=>S k∨k=i) id↔nr rid S id∨Of rid i id:=by
 constructor
 ·intro h1;by_cases hr:id / 32768=rid+1
  ·rcases h1 hr with h2|h2
   ·exact .inl fun _=>h2
   grind [Of.of]
  ·exact .inl fun h=>absurd h hr
 ·rintro(h1|h1) h2
  ·exact .inl (h1 h2)
  ·exact .inr (h1.parts hi).2
theorem Dr.Ki(D:Dr P Eqs Sg F rid n ops b T H E)(dj:Dj rid ops b T H E S Tc h){i:Nat}(o8:i<ops.size)(hS:¬S i)(hnn:¬IsN E i)(hnw:¬CY E i) :
  ∃q,q≤ops.size∧(∀k,k<q→CY E k→S k∨k=i)∧(q<ops.size→CY E q∧¬(S q∨q=i))∧∀id,(nr rid (fun k=>S k∨k=i) id→h id=H q id)∧(¬nr rid (fun k=>S k∨k=i) id→h id=none):=by
 obtain⟨q,hq,hw,lL,lK⟩:=dj.heap;have TB:=D.size;refine⟨q,hq,fun k h1 h2=>.inl (hw k h1 h2),fun h1=>⟨(lL h1).1,fun h2=>h2.elim (lL h1).2 fun e=>hnw (e▸(lL h1).1)⟩,fun id=>⟨fun h1=>?_,fun h1=>(lK id).2 fun h2=>h1 ((Ic (by omega)).2 (.inl h2))⟩⟩;rcases (Ic (S:=S) (i:=i) (rid:=rid) (by omega)).1 h1 with h2|h2
 ·simp_all
 ·have hn:¬nr rid S id:=fun h3=>h3.CQ (by omega) hS h2;rw[(lK id).2 hn]
  symm
  apply Classical.not_not.1;intro bw;obtain⟨j,h3,_,_,h4⟩:=D.names q hq id bw (h2.parts (by omega)).1;have:=wX h3 h2;subst this;rcases h4 with h4|⟨w',h5,h6,h7|h7⟩
  ·exact hnn h4
  ·simp_all
  ·exact hS (dj.closed w' _ (hw w' h5 h6) h7)
theorem Yi{os:Heap}{i:Nat}(iq:(os.all fun p=>p.1 / 256==(rid+1)*128+i)=true):∀id o,os.get id=some o→Of rid i id:=by
 induction os with
 |nil=>grind [id,Heap.get]
 |cons a r ih =>
  intro id o hg;simp only[List.all_cons,Bool.and_eq_true,beq_iff_eq]at iq;simp only[Heap.get]at hg
  split at hg
  ·rename_i e;rw[←e];exact iq.1
  simp_all
theorem Dr.TJ(D:Dr P Eqs Sg F rid n ops b T H E)(dj:Dj rid ops b T H E S Tc h){i:Nat}{o:Oper}(ho:ops[i]? = some o)(hS:¬S i)(hb:∀j,tO b i j→S j){v:AV}{os:Heap}(hE:E i=some (.new v os)) :
  ∃q,q≤ops.size∧(∀k,k<q→CY E k→S k∨k=i)∧(q<ops.size→CY E q∧¬(S q∨q=i))∧∀id,(nr rid (fun k=>S k∨k=i) id→(bF.new v os).hp h id=H q id)∧(¬nr rid (fun k=>S k∨k=i) id→(bF.new v os).hp h id=none):=by
 obtain⟨q,hq,hw,lL,lK⟩:=dj.heap;have TB:=D.size;have o8:=(ab3.1 ho).1;have hnw:¬CY E i:=fun⟨v',h',h1⟩=>by simp_all
 have hnf:=D.yU o8 ⟨v,os,hE⟩;obtain⟨s,hh,_,_,_,h4,_,_,h7⟩:=D.Yh ho hE;simp only[gZ,Bool.and_eq_true]at h4;have rD:=Yi (rid:=rid) h4.1.2;have hiq:i<q:=by
  rcases Nat.lt_or_ge i q with h1|h1
  ·exact h1
  ·obtain⟨h2,h3⟩:=lL (by omega);have bw:i≠q:=fun e=>hnw (e▸h2);rcases D.CZ (by omega) h2 hnf bw with⟨h4,_⟩|⟨_,h4⟩
   ·omega
   simp_all
 refine⟨q,hq,fun k h1 h2=>.inl (hw k h1 h2),fun h1=>⟨(lL h1).1,fun h2=>h2.elim (lL h1).2 fun e=>hnw (e▸(lL h1).1)⟩,fun id=>⟨fun h1=>?_,fun h1=>?_⟩⟩
 ·simp only[bF.hp];by_cases h2:Of rid i id
  ·have hn:¬nr rid S id:=fun h3=>h3.CQ (by omega) hS h2;have e1:H i id=none:=Classical.not_not.1 fun bw=>by
    obtain⟨j,h3,h4,_⟩:=D.names i (by omega) id bw (h2.parts (by omega)).1
    grind [wX]
   have e2:H (i+1) id=Heap.get os id:=by
    grind [bF.hp,Heap.get,id]
   have e3:H q id=H (i+1) id:=D.BF q hiq hq (fun k h3 h4=>D.calm dj hnf hS hq hw k (by omega) h4) id fun k h3 _ _ h5=>by
    grind [wX]
   grind
  grind [nr,id,Ic,Heap.get,absurd]
 grind [nr,id,Ic,Of,bF.hp,Heap.get,absurd]
theorem Dr.Yj(D:Dr P Eqs Sg F rid n ops b T H E)(dj:Dj rid ops b T H E S Tc h){i:Nat}{o:Oper}(ho:ops[i]? = some o)(hS:¬S i)(hb:∀j,tO b i j→S j){v:AV}{h':Heap}(hE:E i=some (.wr v h')) :
  (∀hh:Heap,(∀id,hh.get id=if uG rid (b.getD i 0) id then H i id else none)→hh.get=h) ∧
  ∃q,q≤ops.size∧(∀k,k<q→CY E k→S k∨k=i)∧(q<ops.size→CY E q∧¬(S q∨q=i))∧∀id,(nr rid (fun k=>S k∨k=i) id→h'.get id=H q id)∧(¬nr rid (fun k=>S k∨k=i) id→h'.get id=none):=by
 obtain⟨q,hq,hw,lL,lK⟩:=dj.heap;have TB:=D.size;have o8:=(ab3.1 ho).1;have ZP:CY E i:=⟨v,h',hE⟩;have hnf:=D.TA o8 ZP;obtain⟨s,hh0,_,_,_,h4,_,_,h7⟩:=D.Yh ho hE;simp only[gZ,Bool.and_eq_true]at h4;have hqi:q=i:=by
  rcases Nat.lt_trichotomy q i with h1|h1|h1
  ·obtain⟨h2,h3⟩:=lL (by omega);rcases D.CZ o8 ZP (D.TA (by omega) h2) (by omega) with⟨_,h5⟩|⟨h5,_⟩
   ·simp_all
   ·omega
  ·exact h1
  simp_all
 subst hqi;have own:∀id,H q id≠none→nr rid (tO b q) id:=fun id bw TC=>by
  obtain⟨j,h1,h2,h2',h3⟩:=D.names q hq id bw TC;rw[(h1.parts h2').2];rcases h3 with h3|⟨w',h5,h6,h8⟩
  ·rcases D.CZ o8 ZP (D.yU (by omega) h3) (by omega) with⟨_,h9⟩|⟨h9,_⟩
   ·exact h9
   ·omega
  ·have hqw:tO b q w':=by
    rcases D.CZ o8 ZP (D.TA (by omega) h6) (by omega) with⟨_,h9⟩|⟨h9,_⟩
    ·exact h9
    ·omega
   rcases h8 with rfl|h8
   ·exact hqw
   ·exact GB D.Tz q w' j o8 hqw h8
 refine⟨fun hh ZR=>?_,?_⟩
 ·grind [id,nr,ob,uG,tO]
 ·obtain⟨q',h1,h2,h3⟩:=TI E (fun k=>S k∨k=q) ops.size;have Qt:q+1≤q':=by
   grind
  have e1:H (q+1)=h'.get:=by rw[h7];rfl
  have Bx:∀j,(b.getD q 0 ||| 2 ^ q).testBit j=true→S j∨j=q:=fun j hj=>by rw[Nat.testBit_or,Bool.or_eq_true,Nat.testBit_two_pow]at hj;exact hj.imp (hb j) (fun h=>(of_decide_eq_true h).symm)
  refine⟨q',h1,h2,h3,fun id=>⟨fun h5=>?_,fun h5=>?_⟩⟩
  ·rw[D.BF q' Qt h1 (fun k h6 h8 h9=>?_) id (fun k h6 h8 h9 pY=>?_),e1]
   ·have hk:=h2 k h8 h9;have TD:S k:=hk.resolve_right (by omega);rcases D.CZ (by omega) h9 hnf (by omega) with⟨_,E6⟩|⟨E6,_⟩
    ·exact hS (dj.closed k q TD E6)
    ·omega
   ·have hk:=h5 (pY.parts (by omega)).1;rw[(pY.parts (by omega)).2]at hk;have TD:S k:=hk.resolve_right (by omega);rcases D.CZ o8 ZP (D.yU (by omega) h9) (by omega) with⟨E6,_⟩|⟨_,E6⟩
    ·omega
    ·exact hS (dj.closed k q TD E6)
  ·cases bM:h'.get id with
   |none=>rfl
   |some ob=>grind [absurd,mK,id,ob]
end
section
variable {S:Nat→Prop} {Tc:Nat→AV}
theorem Fk{o:Oper}{d:Nat}(h:Operand.tmp d∈o.op.operands):d∈o.looksAt ops :=ab1 _ (ad3.2 ⟨.tmp d,by simpa using h,rfl⟩)
theorem Kj{o:Oper}{j d:Nat}{want:Bool}(hg:o.guard=some (j,want))(hd:(ops[j]?).bind (·.dst)=some d):d∈o.looksAt ops:=by
 grind [Oper.looksAt,List.mem_append_right]
theorem Dr.wanted(D:Dr P Eqs Sg F rid n ops b T H E)(dj:Dj rid ops b T H E S Tc h){a:Act}{i:Nat}{o:Oper}(ho:ops[i]? = some o)(hS:¬S i)(hb:∀j,tO b i j→S j)(t:cT Z ψ h w n Tc a){c:Bool}(hw:ri ops (T i) o c) :
  Region.wanted o (yielded ops a.tmps)=c:=by
 unfold ri at hw
 split at hw
 ·grind [Region.wanted]
 ·rename_i j want hg;obtain⟨d,hd,hc⟩:=hw;have e:=D.looks dj ho hS hb (Kj hg hd)
  grind [CR,Ax]
theorem Dr.MV(D:Dr P Eqs Sg F rid n ops b T H E)(V:Env P Eqs Sg F){i:Nat}{o:Oper}{a:Act}(ho:ops[i]? = some o)(hS:¬S i)(hb:∀j,tO b i j→S j)(dj:Dj rid ops b T H E S Tc h)(j:J (nr rid S) n Z0 w0 O ψ0 Z ψ Tc h a w) {K:Act→World→Prop} {Q:Exit→Act→World→Prop} (hk:∀Tc' h' a' w' Z' ψ',Dj rid ops b T H E (fun k=>S k∨k=i) Tc' h'→J (nr rid fun k=>S k∨k=i) n Z0 w0 O ψ0 Z' ψ' Tc' h' a' w'→K a' w'):wpOp P ops Q i K a w:=by
 have o8:=(ab3.1 ho).1;have TB:=D.size;have Xz:=D.ajF i o ho;have aH:∀k,(S k∨k=i)→k<ops.size:=fun k hk=>hk.elim (dj.lt k) (fun e=>e▸o8);have E8:∀k j,(S k∨k=i)→tO b k j→S j∨j=i:=fun k j hk hj=>.inl (hk.elim (fun h=>dj.closed k j h hj) (fun e=>hb j (e▸hj)));unfold wpOp;rw[ho];simp only[]
 cases hE:E i with
 |none =>obtain⟨h1,h2,h3⟩:=D.Ia ho hE;rw[D.wanted dj ho hS hb j.tr h1];simp only[Bool.false_eq_true,if_false];obtain⟨t1,t2⟩:=D.TH dj ho hS h2;refine hk _ h _ w Z ψ ⟨aH,E8,D.Ki dj o8 hS (fun⟨v,os,h⟩=>by rw[hE]at h;cases h) (fun⟨v,os,h⟩=>by rw[hE]at h;cases h),t1,t2⟩ (j.skip Xz fun id hp hr=>.inl (hp hr))
 |some e =>
  obtain⟨s,hh,h1,h2,h3,h4,h5,h6,h7⟩:=D.Yh ho hE;rw[D.wanted dj ho hS hb j.tr h5];simp only[if_true];refine .inl ?_;obtain⟨t1,t2⟩:=D.TH dj ho hS h6;have hT:∀x∈o.op.operands,aC Z ψ h w (ρ s x) (a.eval x)∧aM (nr rid S) (ρ s x):=fun x hx=>by
   cases x with
   |tmp d =>
    have e1:look s d=Tc d:=by rw[h1];exact(D.looks dj ho hS hb (Fk hx)).symm
    simp only[ρ,e1];exact⟨j.tr.rep d,j.tm d⟩
   |const v=>exact⟨JN v,CP _ v⟩
   |global g=>exact⟨by simp only[ρ,aC],by simp only[ρ,aM]⟩
   |func f=>exact⟨by simp only[ρ,aC,ax,Act.eval];exact⟨#[],rfl,rfl⟩,by simp only[ρ,aM,aD]⟩
  have qy:=CT (hh:=[]) j.hm (fun k hk=>hb k hk) h4;obtain⟨e0,h3,CX,uR⟩:=h3
  cases e0 with
  |wr v0 Xr =>simp only[hY]at CX;subst CX;have nq:=D.Yj dj ho hS hb hE;have ZR:=nq.1 hh h2;subst ZR;refine J.opF V (rid:=rid) (i:=i) (fun _ id hp=>hp.CQ (by omega) hS) j Xz (fun x hx=>(hT x hx).1) (fun x hx=>(hT x hx).2) h3 uR (p':=nr rid fun k=>S k∨k=i) (fun id hp hr=>.inl (hp hr)) qy.1 qy.2 fun a' w' Z' ψ' j' => ?_;exact hk _ _ a' w' Z' ψ' ⟨aH,E8,nq.2,t1,t2⟩ j'
  |val v0 =>
   simp only[hY]at CX;subst CX;have ajK:∃hh':Heap,(∀id o,hh'.get id=some o→h id=some o)∧cY P Eqs Sg F (opId rid i) hh' s o some=some (.val v0):=by
    cases hf:oc o.op with
    |true=>exact⟨[],fun id o h=>by simp[Heap.get]at h,by rw[QP hf (h':=im hh (hM ops b i s o))];exact h3⟩
    |false =>
     cases So:je o.op with
     |some x =>
      have yV:tn ops b i s o=false:=by
       cases hq:tn ops b i s o with
       |false=>rfl
       |true=>unfold hM at uR;rw[(yT So).2,hq]at uR;simp[mu]at uR
      have hft:hM ops b i s o=[]:=by unfold hM;rw[(yT So).2,yV];rfl
      rw[hft]at h3;have h3':cY P Eqs Sg F (opId rid i) hh s o some=some (.val v0):=h3;have wG:∀id,(fC (kQ (ρ s x)) hh []).get id=if id∈kQ (ρ s x) then hh.get id else none:=fun id=>by
       rw[kZ]
       split
       ·cases hh.get id<;>rfl
       ·rfl
      refine⟨fC (kQ (ρ s x)) hh [],fun id ob bM=>?_,?_⟩
      ·rw[wG]at bM
       split at bM
       ·rename_i hm;exact D.QV dj ho So hS hb h1 yV h2 id hm ob bM
       ·cases bM
      ·rw[MT So (hh:=hh) (fun id hm=>by rw[wG,if_pos hm])];exact h3'
     |none=>exact⟨_,fun id ob bM=>D.seen dj ⟨o,ho,hf,So⟩ hS hb h2 id ob (by rw[oZ]at bM;split at bM;cases bM;exact bM),h3⟩
   obtain⟨hh',Mg,Qv⟩:=ajK;refine J.op V (rid:=rid) (i:=i) (fun _ id hp=>hp.CQ (by omega) hS) j Xz (fun x hx=>(hT x hx).1) (fun x hx=>(hT x hx).2) Mg Qv (fun v hw he=>by cases he) (p':=nr rid fun k=>S k∨k=i) (fun id hp hr=>.inl (hp hr)) qy.1 qy.2 fun a' w' Z' ψ' j' => ?_;exact hk _ _ a' w' Z' ψ' ⟨aH,E8,D.Ki dj o8 hS (fun⟨v,os,h⟩=>by rw[hE]at h;cases h) (fun⟨v,os,h⟩=>by rw[hE]at h;cases h),t1,t2⟩ j'
  |new v0 os =>simp only[hY]at CX;subst CX;have hnf:=D.yU o8 ⟨v0,os,hE⟩;have Mg:∀id ob,(im hh (hM ops b i s o)).get id=some ob→h id=some ob:=fun id ob bM=>D.seen dj hnf hS hb h2 id ob (by rw[oZ]at bM;split at bM;cases bM;exact bM);refine J.op V (rid:=rid) (i:=i) (fun _ id hp=>hp.CQ (by omega) hS) j Xz (fun x hx=>(hT x hx).1) (fun x hx=>(hT x hx).2) Mg h3 (fun v hw he=>by cases he) (p':=nr rid fun k=>S k∨k=i) (fun id hp hr=>.inl (hp hr)) qy.1 qy.2 fun a' w' Z' ψ' j' => ?_;exact hk _ _ a' w' Z' ψ' ⟨aH,E8,D.TJ dj ho hS hb hE,t1,t2⟩ j'
theorem Dr.done(D:Dr P Eqs Sg F rid n ops b T H E)(dj:Dj rid ops b T H E S Tc h)(iq:∀k,k<ops.size→S k):Tc=T ops.size∧h=H ops.size:=by
 constructor
 ·funext d;by_cases hex:∃(j:Nat) (oj:Oper),ops[j]? = some oj∧oj.dst=some d
  ·obtain⟨j,oj,hj,hd⟩:=hex;have Qq:=(ab3.1 hj).1;rw[dj.TE j oj d (iq j Qq) hj hd,D.Ib hj hd ops.size (Nat.le_refl _) Qq]
  ·rw[dj.told d fun j o' _ rK TG=>hex ⟨j,o',rK,TG⟩,D.wW ops.size (Nat.le_refl _) fun k o' _ rK TG=>hex ⟨k,o',rK,TG⟩]
 ·obtain⟨q,hq,_,lL,lK⟩:=dj.heap;have:q=ops.size:=by
   grind
  subst this;funext id;by_cases tM:nr rid S id
  ·simp_all
  ·rw[(lK id).2 tM]
   symm
   apply Classical.not_not.1;intro bw;apply tM;intro hr;obtain⟨j,h1,h2,h3,_⟩:=D.names ops.size (acW _) id bw hr;rw[(h1.parts h3).2];simp_all
def mL(m:Nat)(cz:Array Bool):Nat:=((List.range m).filter fun i => !cz.getD i false).length
theorem Ie{m:Nat}{cz:Array Bool}{i:Nat}(hi:i<m)(hs:i<cz.size)(hn:cz.getD i false=false):mL m cz=mL m (cz.setIfInBounds i true)+1:=by
 unfold mL;have key:∀(l:List Nat),l.Nodup→i∈l→(l.filter fun k => !cz.getD k false).length=(l.filter fun k => !(cz.setIfInBounds i true).getD k false).length+1:=by
  intro l
  induction l with
  |nil=>simp_all
  |cons a r ih =>
   intro Fe hm;rw[List.nodup_cons]at Fe;rcases abL.1 hm with rfl|hm
   ·have h2:(r.filter fun k => !cz.getD k false)=(r.filter fun k => !(cz.setIfInBounds i true).getD k false):=by apply List.filter_congr;intro k hk;have bw:i≠k:=fun e=>Fe.1 (e▸hk);simp_all
    simp_all
   ·have bw:i≠a:=fun e=>Fe.1 (e▸hm);rw[List.filter_cons,List.filter_cons,getD_set_ne false bw]
    grind
 grind
theorem Dr.any(D:Dr P Eqs Sg F rid n ops b T H E)(V:Env P Eqs Sg F){Q:Exit→Act→World→Prop}(hQ:∀Z ψ a w,J (nr rid fun k=>k<ops.size) n Z0 w0 O ψ0 Z ψ (T ops.size) (H ops.size) a w→Q .normal a w) :
  ∀(fuel:Nat) (cz:Array Bool) (Tc:Nat→AV) (h:Hp) (a:Act) (w:World) (Z:Nat→Prop) (ψ:Nat→Value),cz.size=ops.size→mL ops.size cz=fuel → Dj rid ops b T H E (fun k=>cz.getD k false=true) Tc h→J (nr rid fun k=>cz.getD k false=true) n Z0 w0 O ψ0 Z ψ Tc h a w→wpAny P .any ops Q fuel cz a w
 |0,cz,Tc,h,a,w,Z,ψ,hs,hu,dj,j=>by
  have iq:∀k,k<ops.size→cz.getD k false=true:=fun k hk=>by unfold mL at hu;have:=List.filter_eq_nil_iff.1 (ack hu) k (ac5.2 hk);simpa using this
  refine⟨?_,?_⟩
  ·apply List.eq_nil_iff_forall_not_mem.2;intro i hi;obtain⟨h1,o,h2,_⟩:=mem_ready.1 hi;have h3:=(ab3.1 h2).1;have h4:=iq i h3;rw[Array.getD_eq_getD_getElem?,Array.getElem?_eq_getElem (by omega)]at h1 h4;simp at h1 h4;rw[h1]at h4;cases h4
  ·obtain⟨e1,e2⟩:=D.done dj iq;subst e1;subst e2;refine hQ Z ψ a w ⟨j.ok,j.tr,fun d=>(j.tm d).imp fun id h1 h2=>dj.lt _ (h1 h2),fun id ty cs hb=>(j.hm id ty cs hb).imp fun id h1 h2=>dj.lt _ (h1 h2)⟩
 |fuel+1,cz,Tc,h,a,w,Z,ψ,hs,hu,dj,j=>by
  have look:∀i,i<ops.size→cz.getD i true=cz.getD i false:=fun i hi=>by rw[Array.getD_eq_getD_getElem?,Array.getD_eq_getD_getElem?,Array.getElem?_eq_getElem (by omega)];rfl
  refine⟨fun hr=>?_,fun i hi=>?_⟩
  ·exfalso;have hex:∃i,i<ops.size∧cz.getD i false=false:=by
    apply Classical.byContradiction;intro hn;unfold mL at hu;rw[List.filter_eq_nil_iff.2]at hu
    ·simp at hu
    ·intro k hk;have:=fun h=>hn ⟨k,ac5.1 hk,h⟩
     cases hl:cz.getD k false with
     |true=>simp
     |false=>exact absurd hl this
   have key:∀i,i<ops.size→cz.getD i false=false→False:=by
    intro i
    induction i using Nat.strongRecOn with
    |ind i ih =>
     intro hi hl;have iy:i∈Region.ready .any ops cz:=by
      refine mem_ready.2 ⟨by rw[look i hi];exact hl,_,acX hi,fun e he Sp=>?_⟩;have hon:=MS D.Tz (acX hi) (by simpa using he) Sp
      cases hle:cz.getD e.on false with
      |true=>rfl
      |false=>exact(ih e.on hon (by omega) hle).elim
     rw[hr]at iy;cases iy
   obtain⟨i,h1,h2⟩:=hex;exact key i h1 h2
  ·obtain⟨h1,o,ho,iq⟩:=mem_ready.1 hi;have o8:=(ab3.1 ho).1;have hn:cz.getD i false=false:=by rw[←look i o8];exact h1
   have hS:¬(cz.getD i false=true):=by rw[hn];simp
   have hb:∀k,tO b i k→cz.getD k false=true:=fun k hk=>by
    obtain⟨e,he,Sp,h2⟩:=(BE D.Tz ho).1 hk;have h3:=iq e (by simpa using he) Sp;rcases h2 with rfl|h2
    ·exact h3
    ·exact dj.closed e.on k h3 h2
   refine D.MV V ho hS hb dj j fun Tc' h' a' w' Z' ψ' dj' j' => ?_;have heq:(fun k=>cz.getD k false=true∨k=i)=(fun k=>(cz.setIfInBounds i true).getD k false=true):=by
    funext k;apply propext;by_cases e:i=k
    ·subst e;simp[show i<cz.size by omega]
    ·rw[getD_set_ne false e];constructor
     ·rintro(h|h)
      ·exact h
      ·exact absurd h.symm e
     ·exact .inl
   rw[heq]at dj' j';exact D.any V hQ fuel _ Tc' h' a' w' Z' ψ' (by simpa using hs) (by have:=Ie o8 (by omega) hn;omega) dj' j'
end
end Go.Vs
namespace Go.Vs
variable {P:Program} {Eqs:TypeId→Option K} {Sg:FuncId→Option aP} {F:(f:FuncId)→(g:aP)→g.A→Option g.B} {R:Type}
variable {Z Z' Z0:Nat→Prop} {ψ ψ' ψ0:Nat→Value} {h h':Hp} {w w' w0:World} {B0:Nat} {O N:Nat→Prop}
theorem C2(f:AV→AV)(hf:f .no=.no):∀(l:List (Nat×AV)) (d:Nat),look (l.map fun p=>(p.1,f p.2)) d=f (look l d)
 |[],d=>by simp[look,hf]
 |(i,v)::r,d=>by
  simp only[List.map_cons,look]
  split
  ·rfl
  simp_all [C2]
section
variable {rid:Nat}
mutual
theorem yW:∀{a:AV} {v:Value},aC Z ψ h w a v→aC Z ψ h w (bO rid a) v
 |.ref id s i off,v,hr=>by
  simp only[bO]
  split
  ·simp only[aC]
  ·exact hr
 |.bL id,v,hr=>by
  simp only[bO]
  split
  ·simp only[aC]
  ·exact hr
 |.fn f cap,v,hr=>by simp only[bO,aC]at hr ⊢;obtain⟨vs,e,hl⟩:=hr;exact⟨vs,e,mM hl⟩
 |.agg cs,v,hr=>by simp only[bO,aC]at hr ⊢;obtain⟨vs,e,hl⟩:=hr;exact⟨vs,e,mM hl⟩
 |.n8 cs,v,hr=>by simp only[bO,aC]at hr ⊢;obtain⟨vs,e,hl⟩:=hr;exact⟨vs,e,mM hl⟩
 |.no,v,hr=>by simpa only[bO] using hr
 |.bool _,v,hr=>by simpa only[bO] using hr
 |.int _ _,v,hr=>by simpa only[bO] using hr
 |.str _,v,hr=>by simpa only[bO] using hr
 |.lQ,v,hr=>by simpa only[bO] using hr
 |.fO,v,hr=>by simpa only[bO] using hr
 |.fp _ _ _,v,hr=>by simpa only[bO] using hr
 |.sl _ _ _,v,hr=>by simpa only[bO] using hr
 |.mp _ _ _,v,hr=>by simpa only[bO] using hr
theorem mM:∀{a:List AV} {v:List Value},ax Z ψ h w a v→ax Z ψ h w (mw rid a) v
 |[],v,hr=>by simpa only[mw] using hr
 |x::r,v,hr=>by simp only[mw,ax]at hr ⊢;obtain⟨u,us,e,h1,h2⟩:=hr;exact⟨u,us,e,yW h1,mM h2⟩
end
mutual
theorem qz:∀(a:AV),aM (nr rid fun _=>False) (bO rid a)
 |.ref id s i off=>by
  simp only[bO]
  split
  ·simp only[aM]
  ·rename_i hn;simp only[aM];exact fun h=>absurd h hn
 |.bL id=>by
  simp only[bO]
  split
  ·simp only[aM]
  ·rename_i hn;simp only[aM];exact fun h=>absurd h hn
 |.fn f cap=>by simp only[bO,aM];exact jx cap
 |.agg cs=>by simp only[bO,aM];exact jx cs
 |.n8 cs=>by simp only[bO,aM];exact jx cs
 |.no=>by simp only[bO,aM]
 |.bool _=>by simp only[bO,aM]
 |.int _ _=>by simp only[bO,aM]
 |.str _=>by simp only[bO,aM]
 |.lQ=>by simp only[bO,aM]
 |.fO=>by simp only[bO,aM]
 |.fp _ _ _=>by simp only[bO,aM]
 |.sl _ _ _=>by simp only[bO,aM]
 |.mp _ _ _=>by simp only[bO,aM]
theorem jx:∀(a:List AV),aD (nr rid fun _=>False) (mw rid a)
 |[]=>by simp only[mw,aD]
 |x::r=>by simp only[mw,aD];exact⟨qz x,jx r⟩
end
theorem get_map(f:Ob→Ob):∀(hh:Heap) (i:Nat),Heap.get (hh.map fun p=>(p.1,f p.2)) i=(hh.get i).map f
 |[],i=>rfl
 |(j,o)::r,i=>by
  simp only[List.map_cons,Heap.get]
  split
  ·rfl
  ·exact get_map f r i
def nP(rid:Nat)(hh:Heap):Heap:=(hh.filter fun p=>p.1 / 32768 != rid+1).map fun p=>(p.1,Cd rid p.2)
theorem QW(hh:Heap)(i:Nat):(nP rid hh).get i=if i / 32768=rid+1 then none else(hh.get i).map (Cd rid):=by
 unfold nP;rw[get_map (Cd rid),get_filter (fun i=>i / 32768 != rid+1)]
 grind
theorem jm{hh:Heap}{i:Nat}{o:Ob}(hg:(nP rid hh).get i=some o):i / 32768≠rid+1∧∃o',hh.get i=some o'∧o=Cd rid o':=by
 rw[QW]at hg
 split at hg
 ·cases hg
 ·rename_i hn
  cases h0:hh.get i with
  |none=>simp_all
  |some o'=>simp_all
theorem la{hh:Heap}{i:Nat}(hg:(nP rid hh).get i≠none):hh.get i≠none:=by
 obtain⟨o,ho⟩:=acb.1 hg
 grind [jm]
theorem Good.my{hh:Heap}(g:Good Z ψ hh.get w B0 O):Good Z ψ (nP rid hh).get w B0 O:=by
 refine⟨fun id ty cs hb=>?_,fun id ok xs hb=>?_,fun id b h1 h2=>g.live id b (la h1) h2,fun id oO b h1 h2 h3 h4=>g.apart id oO b (la h1) (la h2) h3 h4,g.kg⟩
 ·obtain⟨_,o',h1,h2⟩:=jm hb
  cases o' with
  |own ok xs=>cases h2
  |box Js cs' =>
   cases h2
   obtain⟨gg,vs,h3,h4,h5,h6⟩:=g.box id ty cs' h1;exact⟨gg,vs,h3,h4,mM (h5.less (fun _ h=>h) (cw.refl _ _) fun i hi=>⟨la hi,rfl⟩),h6⟩
 ·obtain⟨_,o',h1,h2⟩:=jm hb
  cases o' with
  |own XQ xs'=>cases h2;exact g.row id _ _ h1
  |box Js cs'=>cases h2
theorem Ok.sub{hp:Hp}(k:Ok Z0 w0 O ψ0 Z ψ h w)(g:Good Z ψ hp w w0.heap.size O)(hn:∀id,hp id≠none→h id≠none):Ok Z0 w0 O ψ0 Z ψ hp w :=⟨g,k.gk,k.eP,k.os,k.tape,k.output,k.size,k.block,fun i hi bw=>k.fix i hi (hn i bw)⟩
end
theorem Good.C3(g:Good Z ψ h w B0 O)(e:w'.heap=w.heap):Good Z ψ h w' B0 O:=by
 have sm:cw Z w w':=fun b _=>by rw[e]
 refine⟨fun id ty cs hb=>?_,fun id ok xs hb=>?_,g.live,g.apart,fun b hb=>by rw[e];exact g.kg b hb⟩
 ·obtain⟨gg,vs,h1,h2,h3,h4⟩:=g.box id ty cs hb;exact⟨gg,vs,h1,by simp_all,h3.less (fun _ h=>h) sm (fun i hi=>⟨hi,rfl⟩),h4⟩
 ·exact(g.row id ok xs hb).kept (fun _ h=>h) sm (fun gg _=>by rw[e])
theorem Ok.C3(k:Ok Z0 w0 O ψ0 Z ψ h w)(e:w'.heap=w.heap)(e1:w'.os=w.os)(e2:w'.tape=w.tape)(e3:w'.output=w.output):Ok Z0 w0 O ψ0 Z ψ h w' :=⟨k.dv.C3 e,k.gk,k.eP,e1.trans k.os,e2.trans k.tape,e3.trans k.output,by rw[e];exact k.size,fun b hb ho=>by rw[e];exact k.block b hb ho,k.fix⟩
theorem cT.C3{n:Nat}{T:Nat→AV}{a:Act}(t:cT Z ψ h w n T a)(e:w'.heap=w.heap):cT Z ψ h w' n T a :=⟨fun d=>(t.rep d).less (fun _ h=>h) (fun b _=>by rw[e]) (fun i hi=>⟨hi,rfl⟩),t.size,t.defers⟩
theorem Ig(V:Env P Eqs Sg F)(hm:P.follows .mixedOrders=true){n rid:Nat}{ops:Array Oper}{draw:Bool}{st:St}{kk:St→Option R}{r:R}{a:Act}{Q:Exit→Act→World→Prop} (hx:jg P Eqs Sg F n rid ops draw st kk=some r) (k:Ok Z0 w0 O ψ0 Z ψ st.heap.get w) (t:cT Z ψ st.heap.get w n (look st.tmps) a) (hQ:∀eQ Z ψ a w,kk eQ=some r→Ok Z0 w0 O ψ0 Z ψ eQ.heap.get w→cT Z ψ eQ.heap.get w n (look eQ.tmps) a→Q .normal a w):(Code.region rid ops draw).wp P Q a w:=by
 obtain⟨b,hbe,hx⟩:∃b,b=(if draw then Region.before ops else #[])∧(if(ops.all fun o=>jf n o)&&(!draw || (wz ops b&&(Cb ops b&&ck (ops.toList.filterMap (·.dst)))))&&decide (ops.size≤128) then
  bJ P Eqs Sg F rid draw ops b (ops.toList.zipIdx.map fun p=>(p.2,p.1)) (my draw rid ops st) kk else none)=some r:=⟨_,rfl,hx⟩
 split at hx
 ·rename_i hc;simp only[Bool.and_eq_true,decide_eq_true_eq]at hc;obtain⟨⟨nt,hdr⟩,ij⟩:=hc;have GC:∀(i:Nat) (o:Oper),ops[i]? = some o→jf n o=true:=fun i o ho=>adh.1 nt o (ado ho);have pk:Ok Z0 w0 O ψ0 Z ψ (nP rid st.heap).get w:=k.sub k.dv.my fun id=>la;have pt:cT Z ψ (nP rid st.heap).get w n (fun d=>bO rid (look st.tmps d)) a :=⟨fun d=>yW ((t.rep d).less (fun _ h=>h) (cw.refl _ _) fun i hi=>⟨la hi,rfl⟩),t.size,t.defers⟩;have pm:u6 (nr rid fun _=>False) (nP rid st.heap).get:=fun i ty cs hb=>by
   obtain⟨_,o',h1,h2⟩:=jm hb
   cases o' with
   |own ok xs=>cases h2
   |box Js cs'=>cases h2;exact jx cs'
  have Om:look (st.tmps.map fun p=>(p.1,bO rid p.2))=fun d=>bO rid (look st.tmps d):=funext fun d=>C2 (bO rid) (by rfl) st.tmps d
  cases draw with
  |false =>
   refine wp_region ?_;rw[←Gz ops]
   cases Yg:ops.any (makes ·.op) with
   |false =>
    have hp:my false rid ops st=st:=by grind [my]
    rw[hp]at hx;refine mb V (rid:=rid) (n:=n) (b:=_) false (fun _ i o ho=>?_) ij GC hQ _ 0 st Z ψ a w (o5 ops) hx ⟨k,t,fun d=>?_,fun i ty cs hb=>?_⟩
    ·grind
    ·exact(aM.top _).imp fun id _ h=>by cases h
    ·exact(aD.top _).imp fun id _ h=>by cases h
   |true =>
    have hp:my false rid ops st={ tmps:=st.tmps.map fun p=>(p.1,bO rid p.2),heap:=nP rid st.heap }:=by unfold my;rw[Yg];rfl
    rw[hp]at hx;refine mb V (rid:=rid) (n:=n) (b:=_) true (fun h=>by cases h) ij GC hQ _ 0 _ Z ψ a w (o5 ops) hx ⟨pk,by simp_all,fun d=>?_,fun i ty cs hb=>?_⟩
    ·rw[Om];exact(qz _).imp fun id h1 _ h2=>(h1 h2).elim
    ·exact(pm i ty cs hb).imp fun id h1 _ h2=>(h1 h2).elim
  |true =>
   have hp:my true rid ops st={ tmps:=st.tmps.map fun p=>(p.1,bO rid p.2),heap:=nP rid st.heap }:=by rfl
   rw[hp]at hx;simp only[Bool.not_true,Bool.false_or,Bool.and_eq_true]at hdr;obtain⟨ajM,ad8,Fe⟩:=hdr;refine wp_region_any hm ?_;obtain⟨T,H,E,h1,h2,h3,eQ,h4,h5,h6⟩:=trace (kk:=kk) (r:=r) (ops.toList.zipIdx.map fun p=>(p.2,p.1)) 0 _ (o5 ops) (by simp) hx;rw[Om]at h1;have D:Dr P Eqs Sg F rid n ops b T H E:=⟨ij,ajM,ad8,GC,Fe,fun k o ho=>h3 k o (adb _) ho,fun id bM=>by rw[h2]at bM;obtain⟨o,ho⟩:=acb.1 bM;exact(jm ho).1⟩;have On:∀k,¬((Array.replicate ops.size false).getD k false=true):=fun k hk=>by
    rw[Array.getD_eq_getD_getElem?,Array.getElem?_replicate]at hk
    grind
   rw[show max 0 ops.size=ops.size by omega]at h5 h6;have w2:({ w with drawn:=w.drawn+1 }:World).heap=w.heap:=rfl;refine D.any V (Z0:=Z0) (w0:=w0) (O:=O) (ψ0:=ψ0) (fun Z ψ a w j=>hQ eQ Z ψ a w h4 (by rw[h6];exact j.ok) (by rw[h5,h6];exact j.tr)) ops.size _ (T 0) (H 0) a _ Z ψ (by simp) ?_ ?_ ?_
   ·grind [mL,List.filter_eq_self,List.length_range]
   ·refine⟨fun i hi=>(On i hi).elim,fun i j hi=>(On i hi).elim,?_,fun j o d hj=>(On j hj).elim,fun d _=>rfl⟩;obtain⟨q,hq1,hq2,hq3⟩:=TI E (fun k=>(Array.replicate ops.size false).getD k false=true) ops.size;refine⟨q,hq1,hq2,hq3,fun id=>⟨fun tM=>?_,fun tM=>?_⟩⟩
    ·symm
     refine D.BF q (adb _) hq1 (fun k _ hk hw=>(On k (hq2 k hk hw)).elim) id fun k _ hk _ ho=>?_;have:=tM (ho.parts (by omega)).1;simp_all
    ·rw[h2];apply Classical.not_not.1;intro bw;obtain⟨o,ho⟩:=acb.1 bw;exact tM fun hr=>absurd hr (jm ho).1
   ·rw[h1,h2];refine⟨pk.C3 w2 rfl rfl rfl,pt.C3 w2,fun d=>(qz _).imp fun id h3 h4=>(h3 h4).elim,fun i ty cs hb=>(pm i ty cs hb).imp fun id h3 h4=>(h3 h4).elim⟩
 ·cases hx
end Go.Vs
