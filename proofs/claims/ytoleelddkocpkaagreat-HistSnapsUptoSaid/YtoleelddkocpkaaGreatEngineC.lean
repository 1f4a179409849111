/- The value semantics is sound -/
import Derived.Test.YtoleelddkocpkaaGreatEngineB
import Derived.Maps.RangeRun
import Derived.ChangeMaps
set_option linter.unusedSimpArgs false
set_option linter.unusedVariables false
namespace Go.Vs
variable {P:Program} {Z Z':Nat→Prop} {ψ ψ':Nat→Value} {h h':Hp} {w w':World} {B0:Nat} {O:Nat→Prop} {N:Nat→Prop}
theorem fY:∀(k:K) (x:k.T),(enc k x).length=k.sz
 |.int _,_=>rfl
 |.bool,_=>rfl
 |.str,_=>rfl
 |.sl _,_=>rfl
 |.mp _ _,_=>rfl
 |.fn _,_=>rfl
 |.pair a b,x=>by simp only[enc,List.length_append,K.sz];rw[fY a,fY b]
 |.one k,x=>by simp only[enc,K.sz];exact fY k x
theorem tP(hh:Heap):∀(k:K) (x:k.T),(enc k x).map (dp hh)=enc k x
 |.int _,_=>rfl
 |.bool,_=>rfl
 |.str,_=>rfl
 |.sl _,_=>rfl
 |.mp _ _,_=>rfl
 |.fn _,_=>rfl
 |.pair a b,x=>by simp only[enc,List.map_append];rw[tP hh a,tP hh b]
 |.one k,x=>by simp only[enc];exact tP hh k x
theorem nJ:∀(k:K) (x:k.T) (id:Nat),AV.bO id∉enc k x
 |.int _,_,_=>by simp[enc]
 |.bool,_,_=>by simp[enc]
 |.str,_,_=>by simp[enc]
 |.sl _,_,_=>by simp[enc]
 |.mp _ _,_,_=>by simp[enc]
 |.fn _,_,_=>by simp[enc]
 |.pair a b,x,id=>by
  simp only[enc,List.mem_append];rintro(h|h)
  ·exact nJ a _ id h
  ·exact nJ b _ id h
 |.one k,x,id=>by simp only[enc];exact nJ k x id
theorem AG{hh:Heap}{ok:OK}{n:Nat}{xs:ok.T}(hg:hh.get n=some (.own ok xs)):fa hh ok (.bO n)=some xs:=by simp[fa,hg]
theorem rH{hh:Heap}:∀(eC:List CK) (n:Nat) (x:tn eC),(∀e∈bf eC n x,hh.get e.1=some e.2)→dk eC hh (aK eC n x)=some x
 |[],n,x,_=>rfl
 |.val k::r,n,x,hg=>by
  have h1:(aK (.val k::r) n x).take k.sz=enc k x.1:=by simp only[aK];rw[←fY k x.1,List.take_left]
  have h2:(aK (.val k::r) n x).drop k.sz=aK r (n+1) x.2:=by simp only[aK];rw[←fY k x.1,List.drop_left]
  have e:dk (.val k::r) hh (aK (.val k::r) n x)=(match dM k (((aK (.val k::r) n x).take k.sz).map (dp hh)),dk r hh ((aK (.val k::r) n x).drop k.sz) with
   |some x,some y=>some ((x,y):k.T×tn r)
   |_,_=>none):=by generalize aK (.val k::r) n x=l;cases l<;>rfl
  have h4:dM k (((aK (.val k::r) n x).take k.sz).map (dp hh))=some x.1:=by rw[h1];exact(congrArg (dM k) (tP hh k x.1)).trans (xp k x.1)
  have h5:dk r hh ((aK (.val k::r) n x).drop k.sz)=some x.2:=by rw[h2];exact rH r (n+1) x.2 hg
  rw[e];generalize dM k (((aK (.val k::r) n x).take k.sz).map (dp hh))=o1 at h4 ⊢;generalize dk r hh ((aK (.val k::r) n x).drop k.sz)=o2 at h5 ⊢;subst h4;subst h5;rfl
 |.own ok::r,n,x,hg=>by
  simp only[bf]at hg;have h1:=AG (hg _ acD);have h2:=rH r (n+1) x.2 (fun e he=>hg e (abg _ he));have e:dk (.own ok::r) hh (aK (.own ok::r) n x)=(match fa hh ok (.bO n),dk r hh (aK r (n+1) x.2) with
   |some x,some y=>some ((x,y):ok.T×tn r)
   |_,_=>none):=rfl
  rw[e,h1,h2];rfl
theorem Sf{hh:Heap}(b:BK){i n:Nat}{x:b.T}(hg:∀e∈kK b i n x,hh.get e.1=some e.2):tw b hh i=some x:=by
 cases b with
 |box ty c =>
  grind [kK,Dv,aK,List.mem_cons_self,tw,rH,List.mem_cons_of_mem]
 |own ok=>exact AG (hg _ (by simp only[kK];exact acD))
theorem BS{hh:Heap}:∀(bs:List BK) (is:List Nat) (n:Nat) (x:BC bs),is.length=bs.length→(∀e∈bE bs is n x,hh.get e.1=some e.2)→dK bs hh is=some x
 |[],[],n,x,_,_=>rfl
 |[],_::_,n,x,hl,_=>by simp at hl
 |_::_,[],n,x,hl,_=>by simp at hl
 |b::r,i::is,n,x,hl,hg=>by
  simp only[bE]at hg;have h2:=Sf b (fun e he=>hg e (abr _ he));have h3:=BS r is (n+16) x.2 (by simpa using hl) (fun e he=>hg e (abw _ he));have e:dK (b::r) hh (i::is)=(match tw b hh i,dK r hh is with
    |some x,some y=>some ((x,y):b.T×BC r)
    |_,_=>none):=rfl
  rw[e,h2,h3];rfl
theorem AH{i:Nat}{o:Ob}:∀{hh:Heap},cw (hh.map (·.1))=true→(i,o)∈hh→hh.get i=some o
 |[],_,h=>by cases h
 |(j,o')::r,hn,h=>by
  obtain⟨h1,h2⟩:=oM hn;simp only[Heap.get];rcases abq.1 h with e|h
  ·cases e;simp
  ·rw[if_neg,AH h2 h]
   grind
theorem CX{hh:Heap}:∀(eC:List CK) (n:Nat) (x:tn eC) (id:Nat),AV.bO id∉sI eC (aK eC n x)
 |[],n,x,id=>by simp[aK,sI]
 |.val k::r,n,x,id=>by
  have h1:(aK (.val k::r) n x).take k.sz=enc k x.1:=by grind [aK,fY,List.take_left]
  have h2:(aK (.val k::r) n x).drop k.sz=aK r (n+1) x.2:=by grind [aK,fY,List.drop_left]
  have e:sI (.val k::r) (aK (.val k::r) n x)=(aK (.val k::r) n x).take k.sz++sI r ((aK (.val k::r) n x).drop k.sz):=by rfl
  rw[e,h1,h2,List.mem_append];rintro(h|h)
  ·exact nJ k x.1 id h
  ·exact CX (hh:=hh) r (n+1) x.2 id h
 |.own ok::r,n,x,id=>by simp only[aK,sI];exact CX (hh:=hh) r (n+1) x.2 id
theorem Ea{hh:Heap}:∀(bs:List BK) (is:List Nat) (n:Nat) (x:BC bs) (id:Nat),(∀e∈bE bs is n x,hh.get e.1=some e.2)→AV.bO id∉ir bs hh is
 |[],is,n,x,id,_=>by grind [ir]
 |_::_,[],n,x,id,_=>by simp[ir]
 |b::r,i::is,n,x,id,hg=>by
  simp only[bE]at hg;simp only[ir,List.mem_append];rintro(h|h)
  ·cases b with
   |box ty c =>simp only[Dx]at h;rw[hg (i,.box ty (aK c n x.1)) (List.mem_append_left _ (by grind [kK,List.mem_cons_self]))]at h;exact CX (hh:=hh) c n x.1 id h
   |own ok=>simp[Dx]at h
  ·exact Ea r is (n+16) x.2 id (fun e he=>hg e (abw _ he)) h
theorem HK{hh:Heap}:∀(cap:List AV) (is is':List Nat) (vs:List Value),kL cap=some is→is'.length=is.length→(∀p∈is.zip is',hh.get p.1≠none∧(h' p.2≠none→ψ' p.2=ψ p.1)) → az Z ψ hh.get w cap vs→az Z' ψ' h' w (is'.map fun i=>.ref i 0 0 0) vs
 |[],is,is',vs,h1,hl,_,hr=>by
  simp only[kL]at h1
  cases h1
  cases is' with
  |nil=>simpa only[List.map_nil,az] using hr
  |cons c r=>simp at hl
 |v::cap,is,is',vs,h1,hl,hp,hr=>by
  simp only[kL]at h1
  split at h1
  ·rename_i i is1 h3 h4
   cases h1
   cases is' with
   |nil=>simp at hl
   |cons c r =>simp only[List.zip_cons_cons]at hp;simp only[List.map_cons,az]at hr ⊢;obtain⟨u,us,rfl,h7,h8⟩:=hr;obtain⟨sz,rfl⟩:=rC h3;obtain⟨h5,h6⟩:=hp _ acD;exact⟨u,us,rfl,CV h7 h5 h6,HK cap is1 r us h4 (by simpa using hl) (fun p h=>hp p (abg _ h)) h8⟩
  ·cases h1
theorem wu:∀(cap:List AV) (is:List Nat),kL cap=some is→is.length=cap.length
 |[],is,h=>by simp only[kL]at h;cases h;rfl
 |v::cap,is,h=>by
  simp only[kL]at h
  split at h
  ·rename_i i is1 h3 h4
   cases h
   simp[wu cap is1 h4]
  ·cases h
theorem wx:∀(cs:List AV) (is:List Nat),rj cs=some is→is.length=cs.length
 |[],is,h=>by simp only[rj]at h;cases h;rfl
 |c::r,is,h=>by
  cases c<;>simp only[rj]at h<;>first|(cases h;done)|skip
  split at h
  ·rename_i is' h1
   cases h
   simp[wx r is' h1]
  ·cases h
theorem HL{hh:Heap}:∀(cs:List AV) (is iK:List Nat) (vs:List Value),rj cs=some is→iK.length=is.length→(∀p∈is.zip iK,hh.get p.1≠none∧(h' p.2≠none→ψ' p.2=ψ p.1)) → az Z ψ hh.get w cs vs→az Z' ψ' h' w (iK.map .bO) vs
 |[],is,iK,vs,h,hl,hp,hr=>by
  simp only[rj]at h
  cases h
  have:iK=[]:=abD hl;subst this;simpa only[List.map_nil,az] using hr
 |c::r,is,iK,vs,h,hl,hp,hr=>by
  cases c<;>simp only[rj]at h<;>first|(cases h;done)|skip
  rename_i i
  split at h
  ·rename_i is' h1
   cases h
   cases iK with
   |nil=>simp at hl
   |cons i' iK =>simp only[List.zip_cons_cons]at hp;obtain⟨h5,h6⟩:=hp _ acD;simp only[List.map_cons,az]at hr ⊢;obtain⟨u,us,rfl,h3,h4⟩:=hr;refine⟨u,us,rfl,?_,HL r is' iK us h1 (by simpa using hl) (fun p UH=>hp p (abg _ UH)) h4⟩;simp only[aD]at h3 ⊢;exact⟨h3.1,fun hn=>(h3.2 h5).trans (h6 hn).symm⟩
  ·cases h
theorem mV{hh:Heap}(g:Good Z ψ hh.get w B0 O)(hz:∀b,Z b→Z' b):∀(ps:List PK) (ids iK:List Nat) (s:Nat) (vs:List AV) (us:List Value) (x:KR (mj ps)),iK.length=ids.length→da ps vs=some ids→fT ps hh vs=some x →(∀id b,AV.bO id∈dU ps vs→hh.get id≠none→ob (ψ id)=some b→Z' b)→(∀p∈ids.zip iK,hh.get p.1≠none∧(h' p.2≠none→ψ' p.2=ψ p.1))→az Z ψ hh.get w vs us→az Z' ψ' h' w ((aX ps iK s x).map (·.2)) us
 |[],ids,iK,s,vs,us,x,hl,hi,hv,hf,hp,hr=>by
  cases vs with
  |nil=>simpa only[aX,List.map_nil,az] using hr
  |cons a r=>simp[da]at hi
 |.val k::ps,ids,iK,s,vs,us,x,hl,hi,hv,hf,hp,hr=>by
  cases vs with
  |nil=>simp[da]at hi
  |cons a r =>simp only[da]at hi;simp only[az]at hr;obtain⟨u,jD,rfl,h3,h4⟩:=hr;obtain⟨h1,h2⟩:=BR hv;simp only[dU]at hf;simp only[aX,List.map_cons,az];exact⟨u,jD,rfl,uZ g hz (fun id b bM=>hf id b (abr _ bM)) h1 h3,mV g hz ps ids iK (s+1) r jD x.2 hl hi h2 (fun id b bM=>hf id b (abw _ bM)) hp h4⟩
 |.ref::ps,ids,iK,s,vs,us,x,hl,hi,hv,hf,hp,hr=>by
  cases vs with
  |nil=>simp[da]at hi
  |cons a r =>
   simp only[da]at hi
   split at hi
   ·rename_i i is h1 h2
    cases hi
    simp only[az]at hr;obtain⟨u,jD,rfl,h3,h4⟩:=hr
    cases iK with
    |nil=>simp at hl
    |cons i' is' =>simp only[List.zip_cons_cons]at hp;obtain⟨sz,rfl⟩:=rC h1;obtain⟨h5,h6⟩:=hp _ acD;simp only[aX,List.map_cons,az];exact⟨u,jD,rfl,CV h3 h5 h6,mV g hz ps is is' (s+1) r jD x (by simpa using hl) h2 hv hf (fun p h=>hp p (abg _ h)) h4⟩
   ·cases hi
 |.own::ps,ids,iK,s,vs,us,x,hl,hi,hv,hf,hp,hr=>by
  cases vs with
  |nil=>simp[da]at hi
  |cons a r =>
   cases a<;>simp only[da]at hi<;>first|(cases hi;done)|skip
   rename_i i
   split at hi
   ·rename_i is h2
    cases hi
    simp only[az]at hr;obtain⟨u,jD,rfl,h3,h4⟩:=hr
    cases iK with
    |nil=>simp at hl
    |cons i' is' =>simp only[List.zip_cons_cons]at hp;obtain⟨h5,h6⟩:=hp _ acD;simp only[aX,List.map_cons,az];refine⟨u,jD,rfl,?_,mV g hz ps is is' (s+1) r jD x (by simpa using hl) h2 hv hf (fun p h=>hp p (abg _ h)) h4⟩;simp only[aD]at h3 ⊢;exact⟨h3.1,fun hn=>(h3.2 h5).trans (h6 hn).symm⟩
   ·cases hi
 |.xT f m::ps,ids,iK,s,vs,us,x,hl,hi,hv,hf,hp,hr=>by
  cases vs with
  |nil=>simp[da]at hi
  |cons a r =>
   cases a<;>simp only[da]at hi<;>first|(cases hi;done)|skip
   rename_i f' cap
   split at hi
   ·rename_i hc;obtain⟨rfl,wh⟩:=hc
    split at hi
    ·rename_i a1 b1 h1 h2
     cases hi
     simp only[az]at hr;obtain⟨u,jD,rfl,h3,h4⟩:=hr;have h5:=wu cap a1 h1;have Ae:(a1++b1).zip iK=a1.zip (iK.take m)++b1.zip (iK.drop m):=by
      conv=>lhs;rw[←List.take_append_drop m iK]
      rw[List.zip_append];rw[List.length_take,Nat.min_eq_left]
      ·omega
      ·rw[hl,List.length_append];omega
     rw[Ae]at hp;simp only[aX,List.map_cons,az];refine⟨u,jD,rfl,?_,mV g hz ps b1 (iK.drop m) (s+1) r jD x (by rw[List.length_drop,hl,List.length_append];omega) h2 hv hf (fun p h=>hp p (abw _ h)) h4⟩;simp only[aD]at h3 ⊢;obtain⟨ws,h6,h7⟩:=h3;exact⟨ws,h6,HK cap a1 (iK.take m) _ h1 (by rw[List.length_take,Nat.min_eq_left (by rw[hl,List.length_append];omega)];omega) (fun p h=>hp p (abr _ h)) h7⟩
    ·cases hi
   ·cases hi
 |.agg m::ps,ids,iK,s,vs,us,x,hl,hi,hv,hf,hp,hr=>by
  cases vs with
  |nil=>simp[da]at hi
  |cons a r =>
   cases a<;>simp only[da]at hi<;>first|(cases hi;done)|skip
   rename_i cs
   split at hi
   ·rename_i wh
    split at hi
    ·rename_i a1 b1 h1 h2
     cases hi
     simp only[az]at hr;obtain⟨u,jD,rfl,h3,h4⟩:=hr;have h5:=wx cs a1 h1;have Ae:(a1++b1).zip iK=a1.zip (iK.take m)++b1.zip (iK.drop m):=by
      conv=>lhs;rw[←List.take_append_drop m iK]
      rw[List.zip_append];rw[List.length_take,Nat.min_eq_left]
      ·omega
      ·rw[hl,List.length_append];omega
     rw[Ae]at hp;simp only[aX,List.map_cons,az];refine⟨u,jD,rfl,?_,mV g hz ps b1 (iK.drop m) (s+1) r jD x (by rw[List.length_drop,hl,List.length_append];omega) h2 hv hf (fun p h=>hp p (abw _ h)) h4⟩;simp only[aD]at h3 ⊢;obtain⟨ws,h6,h7⟩:=h3;exact⟨ws,h6,HL cs a1 (iK.take m) _ h1 (by rw[List.length_take,Nat.min_eq_left (by rw[hl,List.length_append];omega)];omega) (fun p h=>hp p (abr _ h)) h7⟩
    ·cases hi
   ·cases hi
theorem Sh(hh:Heap)(k:K)(x:k.T):iQ k hh (cp k x)=some x:=by unfold iQ;rw[if_pos (D6 k x).symm,xq];exact(congrArg (dM k) (tP hh k x)).trans (xp k x)
theorem oR:∀(eC:List CK) (c n:Nat) (x:tn eC),ic eC c=true→(aK eC n x)[oI eC c]? = some (.bO (n+c))
 |[],c,n,x,h=>by simp[ic]at h
 |.val k::r,0,n,x,h=>by simp[ic]at h
 |.val k::r,c+1,n,x,h=>by simp only[aK,oI];have ih:=oR r c (n+1) x.2 (by simpa[ic] using h);have hl:(enc k x.1).length=k.sz:=fY k x.1;generalize enc k x.1=l at hl ⊢;rw[List.getElem?_append_right (by omega),hl,Nat.add_sub_cancel_left,show n+(c+1)=n+1+c by omega];exact ih
 |.own ok::r,0,n,x,h=>by simp[aK,oI]
 |.own ok::r,c+1,n,x,h=>by simp only[aK,oI];rw[Nat.add_comm 1,List.getElem?_cons_succ,show n+(c+1)=n+1+c by omega];exact oR r c (n+1) x.2 (by simpa[ic] using h)
theorem BT:∀(bs:List BK) (b:Nat) (is:List Nat) (n:Nat) (x:BC bs) (ty:TypeId) (c:List CK) (bi:Nat),bs[b]? = some (.box ty c)→is[b]? = some bi→∃xb,(bi,.box ty (aK c (n+16*b) xb))∈bE bs is n x
 |[],b,is,n,x,_,_,bi,h,_=>by simp at h
 |b0::r,b,[],n,x,_,_,bi,_,h=>by simp at h
 |b0::r,0,i::is,n,x,ty,c,bi,h1,h2=>by
  grind [List.getElem?_cons_zero,Option.some.injEq,bE,kK,List.mem_append_left,List.mem_cons_self]
 |b0::r,b+1,i::is,n,x,ty,c,bi,h1,h2=>by
  obtain⟨xb,h3⟩:=BT r b is (n+16) x.2 ty c bi (by simpa using h1) (by simpa using h2)
  grind [bE,List.mem_append_right]
theorem nK{bs:List BK}{hh:Heap}{is:List Nat}{nb:Nat}{xb:BC bs}(hl:is.length=bs.length)(YJ:∀e∈bE bs is nb xb,hh.get e.1=some e.2):∀(rs:List RK) (ids2:List Nat) (m:Nat) (y:np rs),tz bs rs=true →(∀e∈ax rs m y,hh.get e.1=some e.2)→bR bs rs hh is (aY rs ids2 nb m y)=some y
 |[],ids2,m,y,_,_=>rfl
 |.val k::r,ids2,m,y,hk,hg=>by
  simp only[tz,List.all_cons,Bool.and_eq_true,GA]at hk;have h1:=Sh hh k y.1;have h2:=nK hl YJ r ids2 (m+1) y.2 hk.2 hg;have e:bR bs (.val k::r) hh is (aY (.val k::r) ids2 nb m y)=(match iQ k hh (cp k y.1),bR bs r hh is (aY r ids2 nb (m+1) y.2) with
   |some x,some y=>some ((x,y):k.T×np r)
   |_,_=>none):=rfl
  rw[e];generalize iQ k hh (cp k y.1)=o1 at h1 ⊢;generalize bR bs r hh is (aY r ids2 nb (m+1) y.2)=o2 at h2 ⊢;subst h1;subst h2;rfl
 |.own ok::r,ids2,m,y,hk,hg=>by
  simp only[tz,List.all_cons,Bool.and_eq_true,GA]at hk;simp only[ax]at hg;have h1:=AG (hg _ acD);have h2:=nK hl YJ r ids2 (m+1) y.2 hk.2 (fun e he=>hg e (abg _ he));have e:bR bs (.own ok::r) hh is (aY (.own ok::r) ids2 nb m y)=(match fa hh ok (.bO m),bR bs r hh is (aY r ids2 nb (m+1) y.2) with
   |some x,some y=>some ((x,y):ok.T×np r)
   |_,_=>none):=rfl
  rw[e];generalize fa hh ok (.bO m)=o1 at h1 ⊢;generalize bR bs r hh is (aY r ids2 nb (m+1) y.2)=o2 at h2 ⊢;subst h1;subst h2;rfl
 |.fF b alts::r,ids2,m,y,hk,hg=>by
  simp only[tz,List.all_cons,Bool.and_eq_true,GA]at hk;have h2:=nK hl YJ r ids2 (m+1) y.2 hk.2 hg;have h1:pG bs hh is b alts (xX b nb alts y.1)=some y.1:=by
   cases hy:y.1 with
   |none=>rfl
   |some p =>
    obtain⟨al,i⟩:=p;have h3:=hk.1
    split at h3
    ·rename_i bk hbk;have aG:=(abp.1 hbk).1;have T3:is[b]? = some (is[b]'(by omega)):=abf (by omega);rw[Bool.and_eq_true,decide_eq_true_eq]at h3;obtain⟨h3,GL⟩:=h3;have h3a:∀a:Fin alts.length,ic bk.eC (alts.get a).1=true:=fun a=>ac2.1 h3 _ (List.get_mem alts a)
     cases bk with
     |own ok=>have:=h3a al;grind [BK.eC,ic]
     |box ty c0 =>
      obtain⟨xb',h4⟩:=BT bs b is nb xb ty c0 _ hbk T3;have h5:=YJ _ h4;simp only[BK.eC]at h3a;simp only[pG,xX,hbk,T3,h5,BK.eC];have key:(List.finRange alts.length).find? (fun a=>Dy c0 (aK c0 (nb+16*b) xb') (nb+16*b+(alts.get al).1) (alts.get al).2.1 (alts.get al).2.2 (alts.get a))=some al:=by
       cases hf:(List.finRange alts.length).find? (fun a=>Dy c0 (aK c0 (nb+16*b) xb') (nb+16*b+(alts.get al).1) (alts.get al).2.1 (alts.get al).2.2 (alts.get a)) with
       |none =>have:=List.find?_eq_none.1 hf al (List.mem_finRange al);simp_all [Dy,Bool.and_eq_true,decide_eq_true_eq,trivial,oR,Ud]
       |some a' =>
        have YK:=aeG hf;obtain⟨h6,_,h7,_⟩:=D9 YK;rw[oR c0 _ _ xb' (h3a a')]at h6;simp only[Option.some.injEq,AV.bO.injEq]at h6;have h8:(alts.get a').1=(alts.get al).1:=by omega
        congr 1;have oC:∀a:Fin alts.length,(alts.map fun a=>(a.1,a.2.2))[a.val]? = some ((alts.get a).1,(alts.get a).2.2):=fun a=>by simp_all
        grind [Fin.ext,List.getElem?_inj]
      rw[key];rfl
    ·cases h3
  have e:bR bs (.fF b alts::r) hh is (aY (.fF b alts::r) ids2 nb m y)=(match pG bs hh is b alts (xX b nb alts y.1),bR bs r hh is (aY r ids2 nb (m+1) y.2) with
   |some x,some y=>some ((x,y):Option (Fin alts.length×Nat)×np r)
   |_,_=>none):=rfl
  rw[e];generalize pG bs hh is b alts (xX b nb alts y.1)=o1 at h1 ⊢;generalize bR bs r hh is (aY r ids2 nb (m+1) y.2)=o2 at h2 ⊢;subst h1;subst h2;rfl
 |.agg c::r,ids2,m,y,hk,hg=>by
  simp only[tz,List.all_cons,Bool.and_eq_true,GA]at hk;simp only[ax]at hg;have h1:=rH (hh:=hh) c m y.1 (fun e he=>hg e (abr _ he));have h2:=nK hl YJ r ids2 (m+1) y.2 hk.2 (fun e he=>hg e (abw _ he));have e:bR bs (.agg c::r) hh is (aY (.agg c::r) ids2 nb m y)=(match dk c hh (aK c m y.1),bR bs r hh is (aY r ids2 nb (m+1) y.2) with
   |some x,some y=>some ((x,y):tn c×np r)
   |_,_=>none):=rfl
  rw[e];generalize dk c hh (aK c m y.1)=o1 at h1 ⊢;generalize bR bs r hh is (aY r ids2 nb (m+1) y.2)=o2 at h2 ⊢;subst h1;subst h2;rfl
def sM(g:aO)(x:g.A):Hp:=(bE g.bs (aT g.bs.length) 2000 x.2).get
def lK(g:aO)(y:g.B):Heap:=bE g.bs (aT g.bs.length) 2000 y.2++ax g.rs 3000 y.1
def Jp(g:aO)(x:g.A):List AV:=(aX g.ps (aT g.bs.length) 0 x.1).map (·.2)
def HM(P:Program)(f:FuncId)(g:aO)(x:g.A)(y:g.B):Prop :=∀(Z:Nat→Prop) (ψ0:Nat→Value) (w:World) (lJ:List Value),Good Z ψ0 (sM g x) w w.heap.size (Own ψ0 (sM g x))→az Z ψ0 (sM g x) w (Jp g x) lJ → Calls P (f%1000) lJ.toArray w fun e w'=>∃v Z' ψ',e=.returned v∧(∀b,Z b→Z' b)∧(∀b,Z' b→Z b∨Own ψ0 (sM g x) b∨w.heap.size≤b)∧dg ψ0 (sM g x) w w' ∧ Good Z' ψ' (lK g y).get w' w.heap.size (Own ψ0 (sM g x))∧(∀i∈aT g.bs.length,ψ' i=ψ0 i)∧aD Z' ψ' (lK g y).get w' (fP (aY g.rs (aT g.bs.length) 2000 3000 y.1)) v
theorem Jq{ψ:Nat→Value}{b:Nat}:¬Own ψ iA b:=fun⟨_,h,_⟩=>h rfl
theorem HM.zero{f:FuncId}{g:aO}{x:g.A}{y:g.B}(hb:g.bs=[])(c:HM P f g x y):afp P f g x y:=by
 obtain⟨ps,bs,rs,_⟩:=g;simp only at hb;subst hb;intro Z w lJ hz hr;have e0:sM ⟨ps,[],rs,_⟩ x=iA:=by rfl
 have e1:lK ⟨ps,[],rs,_⟩ y=ax rs 3000 y.1:=by rfl
 have hO:Own NI iA=fun _=>False:=funext fun b=>propext ⟨Jq,False.elim⟩;unfold HM at c;rw[e0,e1]at c;refine(c Z NI w lJ ⟨fun _ _ _ h=>(by cases h),fun _ _ _ h=>(by cases h),fun _ _ h=>absurd rfl h,fun _ _ _ h=>absurd rfl h,hz⟩ hr).mono fun e w' ⟨v,Z',ψ',h1,h2,h3,h4,h5,_,h6⟩=>?_;exact⟨v,Z',ψ',h1,h2,fun b hb=>(h3 b hb).imp (fun h=>h) fun h=>h.resolve_left Jq,h4,by simp_all,h6⟩
theorem Lg{bs:List BK}{hh:Heap}{x:BC bs}(hd:dK bs hh []=some x):bs=[]:=by
 cases bs with
 |nil=>rfl
 |cons b r=>cases hd
variable {Eqs:TypeId→Option K} {Sg:FuncId→Option aO} {F:(f:FuncId)→(g:aO)→g.A→Option g.B}
theorem Lh{a b:List Nat}(h:cw (a++b)=true):cw a=true:=by
 induction a with
 |nil=>rfl
 |cons i r ih =>simp_all [oM,cw,Bool.and_eq_true,Bool.not_eq_true',absurd,List.mem_append_left,List.contains_iff_mem]
theorem Good.Js(g:Good Z ψ h w B0 O)(B:Nat):Good Z ψ h w B (Own ψ h) :=⟨g.box,g.row,fun id b h1 h2=>⟨(g.live id b h1 h2).1,.inr ⟨id,h1,h2⟩⟩,g.apart,g.kO⟩
theorem ql:∀(l:List Nat) (hh:Heap) (i:Nat),(jc hh l).get i=if i∈l then none else hh.get i
 |[],hh,i=>by simp[jc]
 |j::r,hh,i=>by
  simp only[jc];rw[ql r (hh.del j) i];by_cases h1:i∈r
  ·simp[h1]
  ·by_cases h2:i=j
   ·subst h2;simp[Heap.iI]
   ·rw[Heap.jE h2];simp[h1,h2]
theorem ji:∀(eC:List CK) (n:Nat) (x:tn eC),(bf eC n x).map (·.1)=cM eC n
 |[],_,_=>rfl
 |.val k::r,n,x=>ji r (n+1) x.2
 |.own ok::r,n,x=>by simp only[bf,cM,List.map_cons];rw[ji r (n+1) x.2]
theorem nL:∀(bs:List BK) (is:List Nat) (n:Nat) (x:BC bs),is.length=bs.length→(bE bs is n x).map (·.1)=cq bs is n
 |[],is,n,x,_=>by cases is<;>rfl
 |b::r,[],n,x,hl=>by simp at hl
 |b::r,i::is,n,x,hl=>by
  simp only[bE,cq,List.map_append];rw[nL r is (n+16) x.2 (by simpa using hl),←List.cons_append];congr 1
  cases b with
  |box ty c=>simp only[kK,List.map_cons,BK.eC];rw[ji]
  |own ok=>simp[kK,BK.eC,cM]
theorem gL:∀(rs:List RK) (m:Nat) (y:np rs),(ax rs m y).map (·.1)=bC rs m
 |[],_,_=>rfl
 |.own ok::r,m,y=>by simp only[ax,bC,List.map_cons];rw[gL r (m+1) y.2]
 |.val _::r,m,y=>gL r (m+1) y.2
 |.fF _ _::r,m,y=>gL r (m+1) y.2
 |.agg c::r,m,y=>by have e1:(bf c m y.1).map (·.1)=cM c m:=ji c m y.1;simp only[ax,bC,List.map_append];rw[gL r (m+1) y.2];exact congrArg (·++_) e1
theorem rI:∀(eC:List CK) (n:Nat) (x:tn eC),g8 eC (aK eC n x)=cM eC n
 |[],_,_=>rfl
 |.val k::r,n,x=>by
  have h2:(aK (.val k::r) n x).drop k.sz=aK r (n+1) x.2:=by simp only[aK];rw[←fY k x.1,List.drop_left]
  have e:g8 (.val k::r) (aK (.val k::r) n x)=g8 r ((aK (.val k::r) n x).drop k.sz):=by generalize aK (.val k::r) n x=l;cases l<;>rfl
  rw[e,h2,rI r (n+1) x.2];rfl
 |.own ok::r,n,x=>by simp only[aK,g8,ri,cM,List.cons_append,List.nil_append];rw[rI r (n+1) x.2]
theorem BU{hh:Heap}:∀(bs:List BK) (is:List Nat) (n:Nat) (x:BC bs),is.length=bs.length→(∀e∈bE bs is n x,hh.get e.1=some e.2)→dz bs hh is=cq bs is n
 |[],is,n,x,_,_=>by rfl
 |_::_,[],n,x,hl,_=>by simp at hl
 |b::r,i::is,n,x,hl,hg=>by
  simp only[bE]at hg;simp only[dz,cq];rw[BU r is (n+16) x.2 (by simpa using hl) (fun e he=>hg e (List.mem_append_right _ he)),←List.cons_append];congr 1
  cases b with
  |box ty c =>
   grind [oH,BK.eC,aK,List.mem_append_left,kK,List.mem_cons_self,rI]
  |own ok=>rfl
theorem lL:∀(rs:List RK) (ids:List Nat) (n m:Nat) (y:np rs),eP rs (aY rs ids n m y)=bC rs m
 |[],_,_,_,_=>rfl
 |.own ok::r,ids,n,m,y=>by simp only[aY,eP,bC,ri,List.cons_append,List.nil_append];rw[lL r ids n (m+1) y.2]
 |.val _::r,ids,n,m,y=>by simp only[aY,eP,bC];exact lL r ids n (m+1) y.2
 |.fF _ _::r,ids,n,m,y=>by simp only[aY,eP,bC];exact lL r ids n (m+1) y.2
 |.agg c::r,ids,n,m,y=>by have e1:g8 c (aK c m y.1)=cM c m:=rI c m y.1;simp only[aY,eP,bC,AV.cells];rw[lL r ids n (m+1) y.2];exact congrArg (·++_) e1
theorem nM:∀(rs:List RK) (ids:List Nat) (n m:Nat) (y:np rs) (id:Nat),AV.bO id∉iu rs (aY rs ids n m y)
 |[],_,_,_,_,_=>by simp[aY,iu]
 |.own ok::r,ids,n,m,y,id=>by simp only[aY,iu];exact nM r ids n (m+1) y.2 id
 |.val k::r,ids,n,m,y,id=>by
  simp only[aY,iu,List.mem_append];rintro(h|h)
  ·have e:(cp k y.1).cells=enc k y.1:=xq k y.1;exact nJ k y.1 id (e▸h)
  ·exact nM r ids n (m+1) y.2 id h
 |.fF _ _::r,ids,n,m,y,id=>by simp only[aY,iu];exact nM r ids n (m+1) y.2 id
 |.agg c::r,ids,n,m,y,id=>by
  simp only[aY,iu,AV.cells,List.mem_append];rintro(h|h)
  ·exact CX (hh:=[]) c m y.1 id h
  ·exact nM r ids n (m+1) y.2 id h
theorem Si{gg:aO}{x:gg.A}{y:gg.B}{UI:List Nat}{pV fg:Nat→Value}{id:Nat}(hl:UI.length=gg.bs.length)(hrs:tz gg.bs gg.rs=true)(Og:cw (tx gg)=true) (Jt:cw (cq gg.bs UI id++bC gg.rs (id+128))=true) (UJ:Good Z' fg (lK gg y).get w' w.heap.size (Own pV (sM gg x))) {v:Value} (akJ:aD Z' fg (lK gg y).get w' (fP (aY gg.rs (aT gg.bs.length) 2000 3000 y.1)) v) :
  ∃L2:List BP,eL L2=bE gg.bs UI id y.2++ax gg.rs (id+128) y.1∧L2.map (·.1)=cq gg.bs UI id++bC gg.rs (id+128) ∧ Good Z' (fJ fg L2) (eL L2).get w' w.heap.size (Own pV (sM gg x))∧(∀p∈(aT gg.bs.length).zip UI,fJ fg L2 p.2=fg p.1) ∧ aD Z' (fJ fg L2) (eL L2).get w' (fP (aY gg.rs UI id (id+128) y.1)) v:=by
 have hle:(aT gg.bs.length).length=gg.bs.length:=by simp[aT]
 have hn2:cw ((lK gg y).map (·.1))=true:=by unfold lK;rw[List.map_append,nL _ _ _ _ hle,gL];exact Og
 have YJ:∀e∈bE gg.bs (aT gg.bs.length) 2000 y.2,(lK gg y).get e.1=some e.2:=fun e he=>AH hn2 (by unfold lK;exact abr _ he);have hgr:∀e∈ax gg.rs 3000 y.1,(lK gg y).get e.1=some e.2:=fun e he=>AH hn2 (by unfold lK;exact abw _ he);have KI:=BS gg.bs _ 2000 y.2 hle YJ;have hd2:=nK (xb:=y.2) hle YJ gg.rs (aT gg.bs.length) 3000 y.1 hrs hgr
 let vsC:=aY gg.rs (aT gg.bs.length) 2000 3000 y.1
 let L2:List BP:=cV gg.bs (lK gg y) (aT gg.bs.length) UI id y.2++c9 gg.rs vsC (id+128) y.1
 have eH:eL L2=bE gg.bs UI id y.2++ax gg.rs (id+128) y.1:=by show eL (_++_)=_;rw[oP,j8 _ _ _ _ _ _ KI hl,iJ]
 have eN:L2.map (·.1)=cq gg.bs UI id++bC gg.rs (id+128):=by show(_++_:List BP).map _=_;rw[List.map_append,jg _ _ _ _ _ _ KI hl,gK]
 have eS:L2.filterMap (·.2.1)=tx gg:=by show(_++_:List BP).filterMap _=_;rw[List.filterMap_append,lG _ _ _ _ _ _ KI hl,jS _ _ _ _ hd2,BU _ _ 2000 y.2 hle YJ,lL];rfl
 have hn:cw (L2.map (·.1))=true:=by rw[eN];exact Jt
 have kz:=CU (ψ:=fg) hn;have g3:Good Z' (fJ fg L2) (eL L2).get w' w.heap.size (Own pV (sM gg x)):=by
  refine UJ.rename hn (by rw[eS];exact Og) fun e he=>?_;rcases abY.1 he with he|he
  ·exact nH UJ (fun _ h=>h) gg.bs _ _ id y.2 KI (fun i b bM _ _=>(Ea gg.bs _ 2000 y.2 i YJ bM).elim) (fun s _=>rfl) (fun e he=>kz e (abr _ he)) e he
  ·exact kT gg.rs vsC (id+128) y.1 hd2 (fun s _=>rfl) e he
 refine⟨L2,eH,eN,g3,fun p hp=>?_,?_⟩
 ·obtain⟨o,ho⟩:=lH (hh:=lK gg y) gg.bs (aT gg.bs.length) UI id y.2 hle p hp;exact jR hn (abr _ ho)
 ·refine xn (by rw[pN,pN]) (fun vs pU=>?_) akJ;exact vf (nb:=id) (is':=UI) UJ (fun _ h=>h) KI hl (fun e he=>kz e (abr _ he)) gg.rs vsC (id+128) y.1 vs hd2 (fun i b bM _ _=>(nM gg.rs _ _ _ y.1 i bM).elim) (fun e he=>kz e (abw _ he)) pU
theorem Sj{hh:Heap}{mh:List AV}{kept:List Nat}{sN:Hp}{pV UK:Nat→Value}{H2:Heap}(g:Good Z ψ hh.get w B0 O)(hB:B0≤w.heap.size)(P7:∀s∈kept,(de hh mh).get s=hh.get s) (bm:∀i ty cs,hh.get i=some (.box ty cs)→aF (fun i=>¬N i) cs) (s8:∀b,Own pV sN b→∃s,s∈kept∧hh.get s≠none∧ob (ψ s)=some b) (hz:∀b,tj Z ψ hh.get mh b→Z' b) (DI:∀b,Z' b→tj Z ψ hh.get mh b∨Own pV sN b∨w.heap.size≤b) (keep:dg pV sN w w') (g3:Good Z' UK H2.get w' w.heap.size (Own pV sN)) (Af:∀i ty cs,H2.get i=some (.box ty cs)→aF (fun j=>H2.get j≠none) cs) (s5:∀i,H2.get i≠none→(i∈kept∧hh.get i≠none∧UK i=ψ i)∨N i) :
  ∃Eb,(∀i,H2.get i≠none→Eb i=UK i)∧Next Z ψ hh.get w B0 O N Z' Eb (H2++jc (de hh mh) kept).get w':=by
 classical
 let Eb:Nat→Value:=fun i=>if H2.get i≠none then UK i else ψ i
 have h4:∀i,H2.get i≠none→Eb i=UK i:=fun i hi=>if_pos hi;have hg:∀i,(H2++jc (de hh mh) kept).get i=(match H2.get i with|some o=>some o|none=>if i∈kept then none else(de hh mh).get i):=fun i=>by grind [Heap.get_append,ql]
 have DQ:∀i,H2.get i≠none→(H2++jc (de hh mh) kept).get i=H2.get i:=fun i hi=>by
  grind
 have HN:∀i,H2.get i=none→(H2++jc (de hh mh) kept).get i≠none→i∉kept∧(H2++jc (de hh mh) kept).get i=hh.get i∧(de hh mh).get i=hh.get i∧Eb i=ψ i∧hh.get i≠none:=fun i hi bA=>by
  rw[hg,hi]at bA ⊢;simp only at bA ⊢;by_cases hk:i∈kept
  ·simp_all
  ·rw[if_neg hk]at bA ⊢;obtain⟨o,ho⟩:=abP.1 bA;have:=eX _ _ _ _ ho
   grind
 have afx:∀i b,i∉kept→hh.get i≠none→ob (ψ i)=some b→¬Own pV sN b:=fun i b hk hi hb ho=>by obtain⟨s,h1,h2,h3⟩:=s8 b ho;exact hk ((g.apart i s b hi h2 hb h3)▸h1)
 have gd:Good (tj Z ψ hh.get mh) ψ (de hh mh).get w B0 O:=jF g mh;have afy:∀b,tj Z ψ hh.get mh b→¬Own pV sN b:=fun b hb ho=>by obtain⟨s,h1,h2,h3⟩:=s8 b ho;exact(gd.live s b (by simp_all) h3).1 hb
 have sm:cG (tj Z ψ hh.get mh) w w':=fun b hb=>keep.block b (gd.kO b hb) (afy b hb);have afz:∀i,(H2++jc (de hh mh) kept).get i≠none→(hh.get i≠none∧Eb i=ψ i)∨N i:=fun i hi=>by
  grind
 have kk:dg ψ hh.get w w':=⟨keep.os,keep.tape,keep.output,keep.size,fun b hb ta=>keep.block b hb fun ho=>by obtain⟨s,_,h2,h3⟩:=s8 b ho;exact ta ⟨s,h2,h3⟩⟩;refine⟨Eb,h4,fun b hb=>hz b (.inl hb),fun b hb=>?_,kk,afz,⟨fun i ty cs hb=>?_,fun i ok xs hb=>?_,fun i b h1 h2=>?_,fun i i' b h1 h2 h3 h5=>?_,g3.kO⟩⟩
 ·rcases DI b hb with h1|h1|h1
  ·exact(h1.imp (fun h=>h) fun⟨i,_,h2,h3⟩=>.inl ⟨i,h2,h3⟩)
  ·obtain⟨s,_,h2,h3⟩:=s8 b h1;exact .inr (.inl ⟨s,h2,h3⟩)
  omega
 ·by_cases h2:H2.get i=none
  ·obtain⟨h3,h5,h6,h7,h8⟩:=HN i h2 (by rw[hb];simp);rw[h5]at hb;obtain⟨gg,vs,e1,e2,e3,e4⟩:=gd.box i ty cs (by simp_all);have aG:=(abB.1 e2).1;refine⟨gg,vs,by rw[h7,e1],?_,?_,e4⟩
   ·rw[keep.block gg aG (afx i gg h3 h8 (by rw[e1];rfl))];exact e2
   ·refine e3.move (p:=fun i=>¬N i) hz sm (fun j hp hj=>?_) (bm i ty cs hb)
    grind
  ·rw[DQ i h2]at hb;obtain⟨gg,vs,e1,e2,e3,e4⟩:=g3.box i ty cs hb;exact⟨gg,vs,by simp_all,e2,e3.move (p:=fun j=>H2.get j≠none) (fun _ h=>h) (cG.refl _ _) (fun j hp _=>⟨hp,h4 j hp⟩) (Af i ty cs hb),e4⟩
 ·by_cases h2:H2.get i=none
  ·obtain⟨h3,h5,h6,h7,h8⟩:=HN i h2 (by rw[hb];simp);rw[h5]at hb;rw[h7];exact(gd.row i ok xs (by simp_all)).kept hz sm fun gg RR=>keep.block gg (g.bT ⟨i,h8,RR⟩) (afx i gg h3 h8 RR)
  ·rw[DQ i h2]at hb;rw[h4 i h2];exact g3.row i ok xs hb
 ·by_cases h3:H2.get i=none
  ·obtain⟨h5,h6,h7,h8,h9⟩:=HN i h3 h1;rw[h8]at h2;obtain⟨q6,GB⟩:=gd.live i b (by simp_all) h2;refine⟨fun hzb=>?_,GB⟩;rcases DI b hzb with Uz|Uz|Uz
   ·exact q6 Uz
   ·grind
   ·have:=g.bT ⟨i,h9,h2⟩;omega
  ·rw[h4 i h3]at h2;obtain⟨h5,h6⟩:=g3.live i b h3 h2;refine⟨h5,?_⟩;rcases h6 with h6|h6
   ·omega
   ·obtain⟨s,_,h7,h8⟩:=s8 b h6;exact(g.live s b h7 h8).2
 ·have Hy:∀i i',H2.get i=none→H2.get i'≠none→(H2++jc (de hh mh) kept).get i≠none→ob (Eb i)=some b→ob (Eb i')=some b→False:=fun i i' e1 e2 e3 e4 e5=>by
   obtain⟨h6,_,_,h8,h9⟩:=HN i e1 e3;rw[h8]at e4;rw[h4 i' e2]at e5;rcases (g3.live i' b e2 e5).2 with q6|q6
   ·have:=g.bT ⟨i,h9,e4⟩;omega
   grind
  by_cases e1:H2.get i=none<;>by_cases e2:H2.get i'=none
  ·obtain⟨_,_,_,h8,h9⟩:=HN i e1 h1;obtain⟨_,_,_,h8',h9'⟩:=HN i' e2 h2;rw[h8]at h3;rw[h8']at h5;exact g.apart i i' b h9 h9' h3 h5
  ·grind
  ·grind
  ·rw[h4 i e1]at h3;rw[h4 i' e2]at h5;exact g3.apart i i' b e1 e2 h3 h5
theorem CY{i:Nat}{o:Ob}:∀{hh:Heap},(i,o)∈hh→hh.get i≠none
 |[],h=>by cases h
 |(j,o')::r,h=>by
  simp only[Heap.get]
  split
  ·simp
  ·rename_i hn;rcases abq.1 h with e|h
   ·simp_all
   ·exact CY h
theorem get_mem{i:Nat}{o:Ob}:∀{hh:Heap},hh.get i=some o→(i,o)∈hh
 |[],h=>by simp[Heap.get]at h
 |(j,o')::r,h=>by
  simp only[Heap.get]at h
  split at h
  ·rename_i e;subst e;cases h;exact acD
  ·exact abg _ (get_mem h)
theorem rJ{p:Nat→Prop}:∀{a b:List AV},aF p a→aF p b→aF p (a++b)
 |[],b,_,h=>h
 |x::r,b,h,h'=>by simp only[List.cons_append,aF]at h ⊢;exact⟨h.1,rJ h.2 h'⟩
theorem lz{p:Nat→Prop}:∀(eC:List CK) (n:Nat) (x:tn eC),(∀e∈bf eC n x,p e.1)→aF p (aK eC n x)
 |[],n,x,_=>by simp only[aK,aF]
 |.val k::r,n,x,h=>by simp only[aK];exact rJ (nI p k x.1) (lz r (n+1) x.2 h)
 |.own ok::r,n,x,h=>by simp only[bf]at h;simp only[aK,aF,aM];exact⟨h _ acD,lz r (n+1) x.2 fun e he=>h e (abg _ he)⟩
theorem oS:∀(eC:List CK) (n:Nat) (x:tn eC) (i:Nat) (ty:TypeId) (cs:List AV),(i,Ob.box ty cs)∉bf eC n x
 |[],_,_,_,_,_=>by simp[bf]
 |.val k::r,n,x,i,ty,cs=>oS r (n+1) x.2 i ty cs
 |.own _::r,n,x,i,ty,cs=>by simp_all [bf,List.mem_cons,not_or,oS]
theorem wy{p:Nat→Prop}:∀(bs:List BK) (is:List Nat) (n:Nat) (x:BC bs),(∀e∈bE bs is n x,p e.1)→∀i ty cs,(i,Ob.box ty cs)∈bE bs is n x→aF p cs
 |[],is,n,x,_,i,ty,cs,h=>by cases is<;>simp[bE]at h
 |b::r,[],n,x,_,i,ty,cs,h=>by simp[bE]at h
 |b::r,i0::is,n,x,hp,i,ty,cs,h=>by
  simp only[bE]at h hp;rcases abY.1 h with h|h
  ·cases b with
   |box ty0 c0 =>
    simp only[kK]at h hp;rcases abq.1 h with e|h
    ·cases e
     exact lz c0 n x.1 fun e he=>hp e (abr _ (abg _ he))
    ·exact absurd h (oS _ _ _ _ _ _)
   |own ok=>simp[kK]at h
  ·exact wy r is (n+16) x.2 (fun e he=>hp e (abw _ he)) i ty cs h
theorem oT:∀(eC:List CK) (n i:Nat),i∈cM eC n→n≤i∧i<n+eC.length
 |[],n,i,h=>by simp[cM]at h
 |.val k::r,n,i,h=>by
  have:=oT r (n+1) i (by grind [cM])
  grind
 |.own ok::r,n,i,h=>by
  simp only[cM]at h;simp only[List.length_cons];rcases abq.1 h with rfl|h
  ·omega
  ·have:=oT r (n+1) i h;omega
theorem yy:∀(bs:List BK) (is:List Nat) (n i:Nat),(bs.all fun b=>decide (b.eC.length≤16))=true→i∈cq bs is n→i∈is∨(n≤i∧i<n+16*bs.length)
 |[],is,n,i,_,h=>by grind [cq]
 |b::r,[],n,i,_,h=>by simp[cq]at h
 |b::r,i0::is,n,i,hc,h=>by
  simp only[List.all_cons,Bool.and_eq_true,decide_eq_true_eq]at hc;simp only[cq]at h;simp only[List.length_cons];rcases abq.1 h with rfl|h
  ·simp_all
  ·rcases abY.1 h with h|h
   ·have:=oT _ _ _ h;omega
   ·rcases yy r is (n+16) i hc.2 h with h1|h1
    ·simp_all
    omega
theorem kc{bs:List BK}:∀(rs:List RK) (m i:Nat),tz bs rs=true→i∈bC rs m→m≤i∧i<m+rs.length+16
 |[],m,i,_,h=>by simp[bC]at h
 |.own ok::r,m,i,hk,h=>by
  simp only[tz,List.all_cons,Bool.and_eq_true]at hk;simp only[bC]at h;simp only[List.length_cons];rcases abq.1 h with rfl|h
  ·omega
  ·have:=kc r (m+1) i hk.2 h;omega
 |.val _::r,m,i,hk,h=>by
  simp only[tz,List.all_cons,Bool.and_eq_true]at hk;have:=kc r (m+1) i hk.2 (by grind [bC])
  grind
 |.fF _ _::r,m,i,hk,h=>by
  simp only[tz,List.all_cons,Bool.and_eq_true]at hk;have:=kc r (m+1) i hk.2 (by grind [bC])
  grind
 |.agg c::r,m,i,hk,h=>by
  simp only[tz,List.all_cons,Bool.and_eq_true,GA,decide_eq_true_eq]at hk;simp only[bC]at h;simp only[List.length_cons];rcases abY.1 h with h|h
  ·have:=oT c m i h;omega
  ·have:=kc r (m+1) i hk.2 h;omega
theorem BV{hh:Heap}:∀(bs:List BK) (is:List Nat) (i:Nat),is.length=bs.length→i∈is→i∈dz bs hh is
 |[],is,i,hl,h=>by cases is with
  |nil=>cases h
  |cons a r=>simp at hl
 |b::r,[],i,_,h=>by cases h
 |b::r,i0::is,i,hl,h=>by
  simp only[dz];rcases abq.1 h with rfl|h
  ·refine abr _ ?_
   cases b<;>simp[oH]
  ·exact abw _ (BV r is i (by simpa using hl) h)
theorem UL{α β:Type}:∀{a:List α} {b:List β},a.length=b.length→∀x∈a,∃y,(x,y)∈a.zip b∧(y,x)∈b.zip a
 |[],b,_,x,h=>by cases h
 |a::r,[],hl,x,_=>by simp at hl
 |a::r,c::q,hl,x,h=>by
  simp only[List.zip_cons_cons];rcases abq.1 h with rfl|h
  ·simp_all
  ·obtain⟨y,h1,h2⟩:=UL (a:=r) (b:=q) (by simpa using hl) x h
   grind
theorem xt:∀(eC:List CK) (n c:Nat),ic eC c=true→n+c∈cM eC n
 |[],n,c,h=>by simp[ic]at h
 |.own _::r,n,0,_=>by simp[cM]
 |.own _::r,n,c+1,h=>by
  simp only[ic]at h;have:=xt r (n+1) c h
  grind [cM,List.mem_cons_of_mem]
 |.val _::r,n,0,h=>by simp[ic]at h
 |.val _::r,n,c+1,h=>by
  simp only[ic]at h;have:=xt r (n+1) c h
  grind [cM]
theorem BW:∀(bs:List BK) (is:List Nat) (n b i:Nat) (bk:BK),is.length=bs.length→bs[b]? = some bk→i∈cM bk.eC (n+16*b)→i∈cq bs is n
 |[],_,_,b,_,_,_,h,_=>by simp at h
 |_::_,[],_,_,_,_,hl,_,_=>by simp at hl
 |b0::r,i0::is,n,0,i,bk,hl,hb,hi=>by simp only[List.getElem?_cons_zero,Option.some.injEq]at hb;subst hb;simp only[cq];exact abg _ (abr _ (by simpa using hi))
 |b0::r,i0::is,n,b+1,i,bk,hl,hb,hi=>by
  simp only[List.getElem?_cons_succ]at hb;simp only[cq];refine abg _ (abw _ (BW r is (n+16) b i bk (by simpa using hl) hb ?_))
  rwa [show n+16+16*b=n+16*(b+1) by omega]
theorem lN{p:Nat→Prop}{bs:List BK}{is:List Nat}(hl:is.length=bs.length):∀(rs:List RK) (ids:List Nat) (n m:Nat) (y:np rs),tz bs rs=true→(∀i∈bC rs m,p i)→(∀i∈cq bs is n,p i)→aF p (aY rs ids n m y)
 |[],_,_,_,_,_,_,_=>by simp only[aY,aF]
 |.val k::r,ids,n,m,y,hr,h1,h2=>by simp only[tz,List.all_cons,Bool.and_eq_true,GA]at hr;simp only[aY,aF];exact⟨qk p k y.1,lN hl r ids n (m+1) y.2 hr.2 (fun i hi=>h1 i hi) h2⟩
 |.own _::r,ids,n,m,y,hr,h1,h2=>by simp only[tz,List.all_cons,Bool.and_eq_true,GA]at hr;simp only[aY,aF,aM];exact⟨h1 m (by simp[bC]),lN hl r ids n (m+1) y.2 hr.2 (fun i hi=>h1 i (by grind [bC,List.mem_cons_of_mem])) h2⟩
 |.fF b alts::r,ids,n,m,y,hr,h1,h2=>by
  simp only[tz,List.all_cons,Bool.and_eq_true,GA]at hr;simp only[aY,aF];refine⟨?_,lN hl r ids n (m+1) y.2 hr.2 (fun i hi=>h1 i hi) h2⟩
  cases hy:y.1 with
  |none=>simp only[xX,aM]
  |some p =>
   obtain⟨al,i⟩:=p;simp only[xX,aM]
   cases hb:bs[b]? with
   |none=>simp_all
   |some bk =>
    rw[hb]at hr;simp only[Bool.and_eq_true]at hr
    grind [BW,xt,List.all_eq_true,List.get_mem]
 |.agg c::r,ids,n,m,y,hr,h1,h2=>by
  simp only[tz,List.all_cons,Bool.and_eq_true,GA]at hr;simp only[aY,aF,aM];refine⟨lz c m y.1 fun e he=>h1 _ ?_,lN hl r ids n (m+1) y.2 hr.2 (fun i hi=>h1 i (by grind [bC,List.mem_append_right])) h2⟩;simp only[bC];have e1:(bf c m y.1).map (·.1)=cM c m:=ji c m y.1
  grind
theorem Oh{p:Nat→Prop}{vs:List AV}(h:aF p vs):aM p (fP vs):=by
 match vs,h with
 |[],h=>grind [fP,aM]
 |[v],h=>grind [fP,aF]
 |_::_::_,h=>grind [fP,aM]
def hZ(P:Program)(f:FuncId)(u:Heap→Nat→List AV→Option (Bool×bD)):Prop :=∀{Z:Nat→Prop} {ψ:Nat→Value} {h:Hp} {w:World} {B0:Nat} {O N:Nat→Prop} {hh:Heap} {id:Nat} {e:bD} {vs:List AV} {us:List Value},Good Z ψ h w B0 O→B0≤w.heap.size→(∀id o,hh.get id=some o→h id=some o)→(∀j,j<256→N (id+j))→(∀i ty cs,h i=some (.box ty cs)→aF (fun i=>¬N i) cs)→(∀v hw,e=.wr v hw→hh.get=h) → az Z ψ h w vs us→aF (fun i=>¬N i) vs→u hh id vs=some (true,e) → Calls P f us.toArray w fun en w'=>∃V Z' ψ',en=.returned V∧Next Z ψ h w B0 O N Z' ψ' (e.hp h) w'∧aD Z' ψ' (e.hp h) w' e.v V
theorem Zm{R:Type}{n:Nat}(a:Fin n)(f:Fin n→Option R):afa n a f=f a:=by
 have key:∀l:List (Fin n),a∈l→l.foldr (fun j r=>cond (a.val==j.val) (f j) r) none=f a:=by
  intro l
  induction l with
  |nil=>simp_all
  |cons j r ih =>
   grind
 exact key _ (List.mem_finRange a)
theorem kU{R:Type}:∀(rs:List RK) (x:np rs) (K:np rs→Option R),kM rs x K=K x
 |[],_,_=>rfl
 |.val _::r,x,K=>by simp only[kM];rw[kU r x.2];rfl
 |.own _::r,x,K=>by simp only[kM];rw[kU r x.2];rfl
 |.agg _::r,x,K=>by simp only[kM];rw[kU r x.2];rfl
 |.fF _ alts::r,x,K=>by
  simp only[kM];obtain⟨x1,x2⟩:=x
  cases x1 with
  |none=>simp only[tB];rw[kU r x2]
  |some p=>simp only[tB];rw[Zm,kU r x2]
theorem Oi(hX:∀f g u,Sg f=some g→g.x=some u→hZ P (f%1000) u)(hF:∀f g x y,Sg f=some g→F f g x=some y→HM P f g x y)(Sk:∀f g,Sg f=some g→kb P (f%1000)) {hh:Heap} {ρC:Operand→Value} {o:Oper} (g:Good Z ψ h w B0 O) (hB:B0≤w.heap.size) (br:∀id o,hh.get id=some o→h id=some o) {id:Nat} (hN:∀j,j<256→N (id+j)) {e:bD} (bm:∀i ty cs,h i=some (.box ty cs)→aF (fun i=>¬N i) cs) (nD:∀v hw,e=.wr v hw→hh.get=h) {f:FuncId} {cap vs:List AV} {fv:Value} {us:List Value} (hfv:aD Z ψ h w (.fn f cap) fv) (pU:az Z ψ h w vs us) (Cw:aF (fun i=>¬N i) (vs++cap)) (hex:∀(ws:Array Value),fv=.func (.func f) #[] ws→execOp ρC o=callFunc f (us.toArray++ws)) (he:j5 Sg F hh id f (vs++cap) some=some e):aa6 P ρC o Z ψ h w B0 O N e:=by
 unfold j5 at he
 split at he
 ·cases he
 rename_i gg hSg;simp only[aD]at hfv;obtain⟨ws,rfl,hws⟩:=hfv;have HO:=Sk _ _ hSg;have jQ:az Z ψ h w (vs++cap) (us++ws.toList):=az.append pU hws;have Ju:az Z ψ hh.get w (vs++cap) (us++ws.toList):=jQ.pJ br;have gs:Good Z ψ hh.get w B0 O:=g.sub br;have UM:us.toArray++ws=(us++ws.toList).toArray:=by simp
 split at he
 ·rename_i u hu
  split at he
  ·rename_i hf;obtain⟨⟨b,e'⟩,he1,YE⟩:=acY.1 he
   cases b with
   |false=>cases YE
   |true =>
   cases YE
   have Li:keyOf Sg hh f (vs++cap)%1000=f:=by rw[AD];exact Nat.mod_eq_of_lt hf
   have hx:hZ P f u:=by rw[←Li];exact hX _ _ _ hSg hu
   rw[Li]at HO;refine⟨f,us.toArray++ws,by rw[hex ws rfl];exact mE HO _,?_⟩;rw[UM];exact hx g hB br hN bm nD jQ Cw he1
  ·cases he
 split at he
 ·rename_i i0 s5 Jv
  split at he
  ·rename_i Sn;simp only[Bool.and_eq_true,List.isEmpty_iff]at Sn;obtain⟨rfl,_⟩:=Sn
   split at he
   rotate_left
   ·cases he
   rename_i x b hx hb rr;obtain⟨y,hy,he⟩:=acY.1 he;simp only[Ue,Bool.and_eq_true,decide_eq_true_eq]at Jv;obtain⟨_,_,⟨hlen,hf⟩,_⟩:=Jv;have GM:=(hF _ _ _ _ hSg hy).zero (Lg hb);have Li:keyOf Sg hh f (vs++cap)%1000=f:=by rw[AD];exact Nat.mod_eq_of_lt hf
   rw[Li]at HO;have hN':∀j,j<gg.rs.length+16→N (id+128+j):=fun j hj=>by rw[Nat.add_assoc];exact hN _ (by omega)
   refine⟨f,us.toArray++ws,by rw[hex ws rfl];exact mE HO _,?_⟩;rw[UM];unfold afp at GM;rw[Li]at GM;by_cases ta:w7 (vs++cap)=true
   ·rw[ta,Bool.or_true]at he
    cases he
    have h1:az Z NI iA w (HJ gg x) (us++ws.toList):=D5 gs (fun _ h=>h) gg.ps 0 _ _ x (fun v hv i b hi _ _=>(tN ta v hv i hi).elim) s5 hx Ju;refine(GM Z w _ g.kO h1).mono fun en w' ⟨v,Z',ψ',e1,h2,h3,h4,h5,h6⟩=>?_;obtain⟨yw,n,hr⟩:=AE (nb:=id) rr g hB bm hN' h4 h2 h3 h5 h6;exact⟨v,Z',yw,e1,n,hr⟩
   ·cases hfl:gg.rs.all RK.flat with
    |true =>
     rw[hfl,Bool.true_or]at he
     cases he
     let Zc:Nat→Prop:=fun b=>b<w.heap.size
     have h1:az Zc NI iA w (HJ gg x) (us++ws.toList):=D5 gs g.kO gg.ps 0 _ _ x (fun v hv i b hi h1 h2=>gs.bT ⟨i,h1,h2⟩) s5 hx Ju;refine(GM Zc w _ (fun _ h=>h) h1).mono fun en w' ⟨v,Z',ψ',e1,h2,h3,h4,h5,h6⟩=>?_;have h7:aD Z ψ' (ax gg.rs 3000 y.1).get w' (fP (aY gg.rs [] 2000 3000 y.1)) v:=xn rfl (fun vs pU=>UF gg.rs hfl rr pU) h6;have gz:Good Z ψ' (ax gg.rs 3000 y.1).get w' w.heap.size (fun _=>False):=by
      refine⟨fun i ty cs hb=>absurd hb (ve _ _ _ _ _ _ rr),fun i ok x hb=>?_,fun i b h1 h8=>?_,h5.apart,fun b hb=>adf (g.kO b hb) h4.size⟩
      ·obtain⟨ty,k,hk,rfl⟩:=AB _ _ _ _ _ x hfl rr hb;obtain⟨vs,h9,q6⟩:=h5.row i _ x hb;exact⟨vs,h9,fun j z hz=>(q6 j z hz).flat hk⟩
      ·obtain⟨h9,q6⟩:=h5.live i b h1 h8;exact⟨fun hz=>h9 (h2 b (g.kO b hz)),q6⟩
     obtain⟨yw,n,hr⟩:=AE (nb:=id) rr g hB bm hN' h4 (fun _ h=>h) (fun _ h=>.inl h) gz h7;exact⟨v,Z,yw,e1,n,hr⟩
    |false =>
     rw[hfl,Bool.false_or,Bool.eq_false_iff.2 ta]at he
     cases he
     have heq:=nD _ _ rfl;subst heq
     let cs:=dU gg.ps (vs++cap)
     have hz0:∀b,tj Z ψ hh.get cs b→Z b∨Own ψ hh.get b:=fun b hb=>hb.imp (fun h=>h) (fun⟨i,_,h2,h3⟩=>⟨i,h2,h3⟩);have gd:Good (tj Z ψ hh.get cs) ψ (de hh cs).get w B0 O:=jF g cs;have h1:az (tj Z ψ hh.get cs) NI iA w (HJ gg x) (us++ws.toList) :=D5 gs (fun _ h=>.inl h) gg.ps 0 _ _ x (fun v hv i b hi h1 h2=>.inr ⟨i,yv _ _ s5 v hv i hi,h1,h2⟩) s5 hx Ju;refine(GM _ w _ gd.kO h1).mono fun en w' ⟨v,Z',ψ',e1,h2,h3,h4,h5,h6⟩=>?_;obtain⟨yw,n,hr⟩:=AE (nb:=id) rr gd hB (fun i ty cs hb=>bm i ty cs (eX _ _ _ _ hb)) hN' h4 h2 h3 h5 h6;have e2:(bD.wr (fP (aY gg.rs [] id (id+128) y.1)) (ax gg.rs (id+128) y.1++de hh (dU gg.ps (vs++cap)))).hp hh.get=(fun i=>match (ax gg.rs (id+128) y.1).get i with|some o=>some o|none=>(de hh cs).get i):=by
      funext i;simp only[bD.hp];rw[Heap.get_append]
      cases (ax gg.rs (id+128) y.1).get i<;>rfl
     rw[e2];exact⟨v,Z',yw,e1,n.drop (fun _ h=>.inl h) hz0 (eX _ _),hr⟩
  ·split at he
   rotate_left
   ·cases he
   rename_i x b hx hb GN;obtain⟨y,hy,he⟩:=acY.1 he;rw[kU]at he
   cases he
   have heq:=nD _ _ rfl;subst heq;simp only[Ue,Bool.and_eq_true,decide_eq_true_eq]at Jv;obtain⟨hrs,⟨hbl,wh⟩,⟨hlen,hf⟩,Og⟩:=Jv;rw[Bool.and_eq_true]at GN;have GM:=hF _ _ _ _ hSg hy;have Li:keyOf Sg hh f (vs++cap)%1000=f:=by rw[AD];exact Nat.mod_eq_of_lt hf
   rw[Li]at HO;refine⟨f,us.toArray++ws,by rw[hex ws rfl];exact mE HO _,?_⟩;rw[UM];unfold HM at GM;rw[Li]at GM;have hl:i0.length=gg.bs.length:=(j9 _ _ _ hb).1;have HP:=(j9 _ _ _ hb).2;have hle:(aT gg.bs.length).length=gg.bs.length:=by simp[aT]
   let mh:=dU gg.ps (vs++cap)++ir gg.bs hh i0
   let L1:List BP:=cV gg.bs hh i0 (aT gg.bs.length) 2000 b
   have eH1:eL L1=bE gg.bs (aT gg.bs.length) 2000 b:=j8 _ _ _ _ _ _ hb hle;have eN1:L1.map (·.1)=cq gg.bs (aT gg.bs.length) 2000:=jg _ _ _ _ _ _ hb hle;have eS1:L1.filterMap (·.2.1)=dz gg.bs hh i0:=lG _ _ _ _ _ _ hb hle;have hn1:cw (L1.map (·.1))=true:=by rw[eN1];exact Lh Og
   have afo:=CU (ψ:=ψ) hn1;have P7:=(vd GN.1).2 hh;have Ae:∀b,Z b→tj Z ψ hh.get mh b:=fun b hb=>.inl hb;have afB:∀e∈L1,yu (tj Z ψ hh.get mh) ψ (de hh mh).get w (eL L1).get (fJ ψ L1) e:=fun e he =>nH gs Ae gg.bs _ _ 2000 b hb (fun i b bM h1 h2=>.inr ⟨i,abw _ bM,h1,h2⟩) P7 afo e he;have gin:Good (tj Z ψ hh.get mh) (fJ ψ L1) (eL L1).get w B0 O:=AA gs GN.1 hn1 eS1 afB;have ein:(eL L1).get=sM gg (x,b):=by rw[eH1];rfl
   have acT:∀p∈i0.zip (aT gg.bs.length),(p.2,some p.1)∈L1.map (fun e=>(e.1,e.2.1)):=fun p hp=>by obtain⟨o,ho⟩:=lH (hh:=hh) gg.bs i0 (aT gg.bs.length) 2000 b hl p hp;exact acE.2 ⟨_,ho,rfl⟩
   have afC:∀p∈i0.zip (aT gg.bs.length),fJ ψ L1 p.2=ψ p.1:=fun p hp=>by
    obtain⟨⟨i,s,o⟩,ho,he⟩:=acE.1 (acT p hp)
    cases he
    exact jR hn1 ho
   have acU:az (tj Z ψ hh.get mh) (fJ ψ L1) (eL L1).get w (Jp gg (x,b)) (us++ws.toList) :=mV gs Ae gg.ps i0 (aT gg.bs.length) 0 _ _ x (by rw[hle,hl]) s5 hx (fun i b bM h1 h2=>.inr ⟨i,abr _ bM,h1,h2⟩) (fun p hp=>⟨HP _ (List.of_mem_zip hp).1,fun _=>afC p hp⟩) Ju;have s8:∀c,Own (fJ ψ L1) (sM gg (x,b)) c→∃s,s∈dz gg.bs hh i0∧hh.get s≠none∧ob (ψ s)=some c:=fun c ⟨i,h1,h2⟩=>by
    rw[←ein]at h1;obtain⟨o,ho⟩:=abP.1 h1;obtain⟨s,hm⟩:=qj ho;rw[jR hn1 hm]at h2
    cases s with
    |none=>simp[kR,ob]at h2
    |some s =>
     have hs:s∈dz gg.bs hh i0:=by rw[←eS1];exact aeT.2 ⟨_,hm,rfl⟩
     refine⟨s,hs,?_,h2⟩;have h3:=afB _ hm;rw[←P7 s hs]
     cases o with
     |box ty cs=>obtain⟨⟨cs0,h4⟩,_⟩:=h3;rw[h4];simp
     |own ok xs=>rw[show(de hh mh).get s=some (.own ok xs) from h3];simp
   refine(GM (tj Z ψ hh.get mh) (fJ ψ L1) w (us++ws.toList) (by rw[←ein];exact gin.Js _) (by rw[←ein];exact acU)).mono fun en w' ⟨v,Z',fg,e1,h2,h3,h4,h5,h6,h7⟩=>?_;obtain⟨L2,eH2,eN2,g3,hzz,acV⟩:=Si (x:=(x,b)) (y:=y) (id:=id) hl hrs Og GN.2 h5 h7;have Af:∀i ty cs,(eL L2).get i=some (.box ty cs)→aF (fun j=>(eL L2).get j≠none) cs:=fun i ty cs hg=>by
    have kA:=get_mem hg;rw[eH2]at kA;rcases abY.1 kA with kA|kA
    ·exact wy gg.bs _ id y.2 (fun e he=>by rw[eH2];exact CY (o:=e.2) (abr _ he)) i ty cs kA
    ·exfalso;have:∀(rs:List RK) (m:Nat) (y:np rs),(i,Ob.box ty cs)∉ax rs m y:=by
      intro rs
      induction rs with
      |nil=>intro m y;simp[ax]
      |cons r rs ih =>
       intro m y
       cases r with
       |agg c=>simp only[ax,List.mem_append,not_or];exact⟨oS _ _ _ _ _ _,ih (m+1) y.2⟩
       |val k=>exact ih (m+1) y.2
       |fF _ _=>exact ih (m+1) y.2
       |own ok=>simp only[ax,List.mem_cons,not_or];exact⟨by simp,ih (m+1) y.2⟩
     exact this _ _ _ kA
   have afE:∀i,(eL L2).get i≠none→(i∈dz gg.bs hh i0∧hh.get i≠none∧fJ fg L2 i=ψ i)∨N i:=fun i hi=>by
    obtain⟨o,ho⟩:=abP.1 hi;obtain⟨s,hm⟩:=qj ho;have kA:i∈cq gg.bs i0 id++bC gg.rs (id+128):=by rw[←eN2];exact acE.2 ⟨_,hm,rfl⟩
    have hNr:∀i,id≤i→i<id+256→N i:=fun i h1 h2=>by
     have:=hN (i-id) (by omega)
     rwa [show id+(i-id)=i by omega]at this
    rcases abY.1 kA with kA|kA
    ·rcases yy _ _ _ _ wh kA with h8|h8
     ·refine .inl ⟨BV _ _ _ hl h8,HP i h8,?_⟩;obtain⟨ee,h9,q6⟩:=UL (by rw[hle,hl]) i h8;rw[hzz (ee,i) q6];have GB:ee∈aT gg.bs.length:=(List.of_mem_zip q6).1;rw[h6 ee GB];exact afC (i,ee) h9
     ·exact .inr (hNr i h8.1 (by omega))
    ·have h8:=kc _ _ _ hrs kA;exact .inr (hNr i (by omega) (by omega))
   obtain⟨Eb,h8,nx⟩:=Sj (N:=N) gs hB P7 bm s8 h2 h3 h4 g3 Af afE;have eH3:(bD.wr (fP (aY gg.rs i0 id (id+128) y.1)) (bE gg.bs i0 id y.2++(ax gg.rs (id+128) y.1++jc (de hh (dU gg.ps (vs++cap)++ir gg.bs hh i0)) (dz gg.bs hh i0)))).hp hh.get =(eL L2++jc (de hh mh) (dz gg.bs hh i0)).get:=by rw[eH2,List.append_assoc];rfl
   rw[eH3];refine⟨v,Z',Eb,e1,nx,?_⟩;refine acV.move (p:=fun j=>(eL L2).get j≠none) (fun _ h=>h) (cG.refl _ _) (fun j hp _=>⟨hp,h8 j hp⟩) ?_;refine Oh (lN hl gg.rs _ id (id+128) y.1 hrs (fun i hi=>?_) fun i hi=>?_)
   ·rw[←gL gg.rs (id+128) y.1]at hi;obtain⟨e,he,rfl⟩:=acE.1 hi;rw[eH2];exact CY (o:=e.2) (abw _ he)
   ·rw[←nL gg.bs i0 id y.2 hl]at hi;obtain⟨e,he,rfl⟩:=acE.1 hi;rw[eH2];exact CY (o:=e.2) (abr _ he)
 ·cases he
end Go.Vs
namespace Go.Vs
variable {P:Program} {Eqs:TypeId→Option K} {Sg:FuncId→Option aO} {F:(f:FuncId)→(g:aO)→g.A→Option g.B} {R:Type} {k:bD→Option R}
theorem gM{c:Bool}{e:bD}:cond c (k e) none=(cond c (some e) none).bind k:=by grind
theorem fZ{c:Bool}{e:bD}:cond c none (k e)=(cond c none (some e)).bind k:=by grind
theorem gh{c:Bool}{e e':bD}:cond c (k e) (k e')=(cond c (some e) (some e')).bind k:=by grind
theorem gN{α:Type}(o:Option α)(f:α→Option R)(g:α→Option bD)(h:∀x,f x=(g x).bind k):o.bind f=(o.bind g).bind k:=by cases o with
 |none=>rfl
 |some x=>exact h x
theorem Oj{h:Heap}{id:Nat}{t:TypeId}{s x:AV}:pZ P h id t s x k=(pZ P h id t s x some).bind k:=by unfold pZ;repeat' (first|rfl|exact gM|exact fZ | exact gh|(refine gN _ _ _ (fun _=>?_))|split)
theorem So{h:Heap}{t:TypeId}{s x:AV}:uL P h t s x k=(uL P h t s x some).bind k:=by unfold uL;repeat' (first|rfl|exact gM|exact fZ | exact gh|grind [gN]|split)
theorem UN{h:Heap}{t:TypeId}{s:AV}:nq P h t s k=(nq P h t s some).bind k:=by unfold nq;repeat' (first|rfl|exact gM|exact fZ | exact gh|grind [gN]|split)
theorem Jw{t:TypeId}{s x:AV}:jy P t s x k=(jy P t s x some).bind k:=by unfold jy;grind
theorem GO{h:Heap}{t:TypeId}{s x:AV}:dZ P h t s x k=(dZ P h t s x some).bind k:=by unfold dZ;grind [Jw]
theorem UO{x:AV}{lo hi mx:Option AV}:Ak x lo hi mx k=(Ak x lo hi mx some).bind k:=by unfold Ak;grind
theorem Sp{h:Heap}{sz:Nat}{x:AV}{lo hi mx:Option AV}:rf h sz x lo hi mx k=(rf h sz x lo hi mx some).bind k:=by unfold rf;grind
theorem Zn{h:Heap}{x:AV}:Hs h x k=(Hs h x some).bind k:=by unfold Hs;grind
theorem Zo{op:BinOp}{t:TypeId}{x y:AV}:BD P Eqs op t x y k=(BD P Eqs op t x y some).bind k:=by unfold BD;repeat' (first|rfl|exact gM|exact fZ | exact gh|(refine gN _ _ _ (fun _=>?_))|split)
theorem Lj(rs:List RK)(x:np rs)(f:np rs→Option R)(g:np rs→Option bD)(h:∀z,f z=(g z).bind k):kM rs x f=(kM rs x g).bind k:=by grind [kU]
theorem UP{h:Heap}{id:Nat}{f:FuncId}{vs:List AV}:j5 Sg F h id f vs k=(j5 Sg F h id f vs some).bind k:=by unfold j5;repeat' (first|rfl|exact gM|exact fZ | exact gh|(refine gN _ _ _ (fun _=>?_))|(refine Lj _ _ _ _ (fun _=>?_))|split)
theorem UQ{id:Nat}{t:TypeId}{vs:List AV}:Ap id t vs k=(Ap id t vs some).bind k:=rfl
theorem Sq{t:TypeId}{ps:List (Nat×AV)}:uO P t ps k=(uO P t ps some).bind k:=by unfold uO;grind
theorem Jx{h:Heap}{id:Nat}{t:TypeId}{n:Nat}{ps:List (Nat×AV)}:xY P h id t n ps k=(xY P h id t n ps some).bind k:=by unfold xY;grind
theorem UR{mh:Bool}{h:Heap}{id:Nat}{t:TypeId}{n:Nat}{ps:List (Nat×AV)}:Aq P mh h id t n ps k=(Aq P mh h id t n ps some).bind k:=by unfold Aq;rw[Jx,Jx (k:=fun e=>some (if mh then Y4 e else e)),Option.bind_assoc];rfl
theorem US{h:Heap}{s d:TypeId}{x:AV}:DD P h s d x k=(DD P h s d x some).bind k:=by unfold DD;repeat' (first|rfl|exact gM|exact fZ | exact gh|(refine gN _ _ _ (fun _=>?_))|split)
theorem Lk{h:Heap}{id:Nat}{t:TypeId}{s:AV}{b:ByteArray}:mT P h id t s b k=(mT P h id t s b some).bind k:=by unfold mT;repeat' (first|rfl|exact gM|exact fZ | exact gh|(refine gN _ _ _ (fun _=>?_))|split)
theorem Sr{id:Nat}{t:TypeId}{l c:AV}:uK P id t l c k=(uK P id t l c some).bind k:=by unfold uK;repeat' (first|rfl|exact gM|exact fZ | exact gh|(refine gN _ _ _ (fun _=>?_))|split)
theorem UT{h:Heap}{t:TypeId}{d s:AV}:Ai P h t d s k=(Ai P h t d s some).bind k:=by unfold Ai;repeat' (first|rfl|exact gM|exact fZ | exact gh|(refine gN _ _ _ (fun _=>?_))|split)
theorem acW{b:Bool}{vs:List AV}:RP b vs k=(RP b vs some).bind k:=by unfold RP;grind
theorem UU{h:Heap}{x:AV}:Al h x k=(Al h x some).bind k:=by unfold Al;grind
theorem Ll{id:Nat}{t:TypeId}:mU P Eqs id t k=(mU P Eqs id t some).bind k:=by unfold mU;grind
theorem Ol{h:Heap}{t:TypeId}{m i:AV}{ok:Bool}:p6 P Eqs h t m i ok k=(p6 P Eqs h t m i ok some).bind k:=by unfold p6;grind
theorem Om{h:Heap}{t:TypeId}{m i v:AV}:jP P Eqs h t m i v k=(jP P Eqs h t m i v some).bind k:=by unfold jP;grind
theorem On{h:Heap}{t:TypeId}{m i:AV}:p7 P Eqs h t m i k=(p7 P Eqs h t m i some).bind k:=by unfold p7;grind
theorem Oo{id:Nat}{t:TypeId}{x:AV}:qa P id t x k=(qa P id t x some).bind k:=by unfold qa;grind
theorem Ss{h:Heap}{x:AV}:uM h x k=(uM h x some).bind k:=by unfold uM;grind
theorem Su{h:Heap}{x:AV}:uN h x k=(uN h x some).bind k:=by unfold uN;grind
theorem mW{id:Nat}{h:Heap}{s:List (Nat×AV)}{o:Oper}:dq P Eqs Sg F id h s o k=(dq P Eqs Sg F id h s o some).bind k:=by
 obtain⟨dst,op,type,pos,after,guard⟩:=o
 cases op<;>simp only[dq] <;>
  repeat' (first|rfl|exact UR|exact Oj|exact So|exact UN|exact GO|exact UO|exact Sp|exact Zn|exact Zo|exact UP|exact UQ|exact Sq|exact Jx|exact US|exact Lk|exact Sr|exact UT|exact acW|exact UU|exact Ll|exact Ol|exact Om|exact On|exact Oo|exact Ss|exact Su|exact gM|(refine gN _ _ _ (fun _=>?_))|split)
theorem Sw{id:Nat}{h h':Heap}{s:List (Nat×AV)}{o:Oper}(hf:pH o.op=true):dq P Eqs Sg F id h s o k=dq P Eqs Sg F id h' s o k:=by
 obtain⟨dst,op,type,pos,after,guard⟩:=o
 cases op<;>simp[pH]at hf<;>first|rfl|(rename_i u _ _;cases u<;>rfl)
theorem Zp{op:BinOp}{t:TypeId}{x y:AV}{e:bD}(he:BD P Eqs op t x y some=some e):∃v,e=.val v:=by
 unfold BD at he
 grind
theorem Lm{id:Nat}{h:Heap}{s:List (Nat×AV)}{o:Oper}{e:bD}(hf:pH o.op=true)(he:dq P Eqs Sg F id h s o some=some e):∃v,e=.val v:=by
 obtain⟨dst,op,type,pos,after,guard⟩:=o
 cases op<;>simp only[pH]at hf<;>first|(cases hf;done)|skip
 case unOp u t x =>
  cases u<;>simp only[dq]at he<;>repeat' (first|(cases he;done)|exact⟨_,(acP he).symm⟩|split at he)
 case makeFunc fn first cap =>
  cases fn<;>simp only[dq]at he<;>repeat' (first|(cases he;done)|exact⟨_,(acP he).symm⟩|split at he)
 all_goals simp only[dq]at he
 case binOp=>exact Zp he
 case slice =>
  repeat' (first|(cases he;done)|split at he)
  all_goals
   first|unfold Ak at he|unfold rf at he
   repeat' (first|(cases he;done)|exact⟨_,(acP he).symm⟩|split at he)
   all_goals
    unfold cond at he
    split at he<;>first|(cases he;done)|exact⟨_,(acP he).symm⟩
 case build =>
  unfold uO at he
  repeat' (first|(cases he;done)|exact⟨_,(acP he).symm⟩|split at he)
 all_goals
  repeat' (first|(cases he;done)|exact⟨_,(acP he).symm⟩|split at he)
end Go.Vs
namespace Go.Vs
variable {P:Program} {Eqs:TypeId→Option K} {Sg:FuncId→Option aO} {F:(f:FuncId)→(g:aO)→g.A→Option g.B} {R:Type}
variable {Z Z' Z0:Nat→Prop} {ψ ψ' ψ0:Nat→Value} {h h':Hp} {w w' w0:World} {B0:Nat} {O N:Nat→Prop}
structure Env(P:Program)(Eqs:TypeId→Option K)(Sg:FuncId→Option aO)(F:(f:FuncId)→(g:aO)→g.A→Option g.B):Prop where
 eqs:∀t k,Eqs t=some k→nE P t k
 con:∀f g x y,Sg f=some g→F f g x=some y→HM P f g x y
 spec:∀f g u,Sg f=some g→g.x=some u→hZ P (f%1000) u
 Ln:∀f g,Sg f=some g→kb P (f%1000)
theorem Lo{s:List (Nat×AV)}{ρC:Operand→Value}:∀(l:List Operand),(∀x∈l,aD Z ψ h w (ρ s x) (ρC x))→az Z ψ h w (l.map (ρ s)) (l.map ρC)
 |[],_=>by simp[az]
 |x::r,hx=>by simp only[List.map_cons,az];exact⟨_,_,rfl,hx x acD,Lo r fun y hy=>hx y (abg _ hy)⟩
theorem HQ{s:List (Nat×AV)}{p:Nat→Prop}:∀(l:List Operand),(∀x∈l,aM p (ρ s x))→aF p (l.map (ρ s))
 |[],_=>by simp[aF]
 |x::r,hx=>by simp only[List.map_cons,aF];exact⟨hx x acD,HQ r fun y hy=>hx y (abg _ hy)⟩
theorem aa9(E:Env P Eqs Sg F){hh:Heap}{a:Act}{s:List (Nat×AV)}{o:Oper}(g:Good Z ψ h w B0 O)(hB:B0≤w.heap.size)(br:∀id o,hh.get id=some o→h id=some o){id:Nat}(hN:makes o.op=true→∀j,j<256→N (id+j)){e:bD} (oL:∀x∈o.op.operands,aD Z ψ h w (ρ s x) (a.eval x)) (hm:∀x∈o.op.operands,aM (fun i=>¬N i) (ρ s x)) (bm:∀i ty cs,h i=some (.box ty cs)→aF (fun i=>¬N i) cs) (nD:∀v hw,e=.wr v hw→hh.get=h) (he:dq P Eqs Sg F id hh s o some=some e) {next:Act→World→Prop} {Q:Exit→Act→World→Prop} (hk:∀V w' Z' ψ',Next Z ψ h w B0 O N Z' ψ' (e.hp h) w'→aD Z' ψ' (e.hp h) w' e.v V→next (a.put o.dst V) w'):o.wp P a w next Q:=by
 have d:iW P a.eval o Z ψ h w B0 O N e∨aa6 P a.eval o Z ψ h w B0 O N e:=by
  cases NH:yq o with
  |false=>exact .inl (UB E.eqs g hB br (fun hm=>by simpa using hN hm 0 (by decide)) oL hm bm nD NH he)
  |true =>
   refine .inr ?_;obtain⟨dst,op,type,pos,after,guard⟩:=o
   cases op<;>simp[yq]at NH
   rename_i c;obtain⟨callee,args,argTypes⟩:=c
   cases callee<;>simp at NH
   rename_i fo;simp only[dq]at he
   split at he
   ·rename_i f cap hf;simp only[Op.operands,Call.operands]at oL;have h1:=oL fo (by simp);rw[hf]at h1;have h2:az Z ψ h w (args.toList.map (ρ s)) (args.toList.map a.eval):=Lo _ fun x hx=>oL x (by simp_all);have hmf:=hm fo (by simp[Op.operands,Call.operands]);rw[hf]at hmf;simp only[aM]at hmf;have hma:aF (fun i=>¬N i) (args.toList.map (ρ s)):=HQ _ fun x hx=>hm x (by grind [Op.operands,Call.operands]);refine Oi E.spec E.con E.Ln g hB br (hN rfl) bm nD h1 h2 (rJ hma hmf) (fun ws hws=>?_) he;simp only[execOp,resolve,hws,Deferred.ofValue];simp only[pure_bind,invoke];congr 1
    grind
   ·cases he
 unfold Oper.wp;rcases d with⟨V,w',Z',ψ',h1,h2,h3⟩|⟨f,args,h1,h2⟩
 ·rcases h1 with h1|⟨h1,rfl⟩
  ·rw[h1];exact hk V w' Z' ψ' h2 h3
  ·rw[h1];exact hk undef w' Z' ψ' h2 h3
 ·rw[h1,Oper.upon_enter];refine h2.mono fun en w' ⟨V,Z',ψ',e1,n,hr⟩=>?_
  grind
structure Ok(Z0:Nat→Prop)(w0:World)(O:Nat→Prop)(ψ0:Nat→Value)(Z:Nat→Prop)(ψ:Nat→Value)(h:Hp)(w:World):Prop where
 du:Good Z ψ h w w0.heap.size O
 g9:∀b,Z0 b→Z b
 fq:∀b,Z b→Z0 b∨O b∨w0.heap.size≤b
 os:w.os=w0.os
 tape:w.tape=w0.tape
 output:w.output=w0.output
 size:w0.heap.size≤w.heap.size
 block:∀b,b<w0.heap.size→¬O b→w.heap[b]? = w0.heap[b]?
 fix:∀i,i<2000→h i≠none→ψ i=ψ0 i
theorem Ok.next(k:Ok Z0 w0 O ψ0 Z ψ h w)(hN:∀id,N id→2000≤id)(n:Next Z ψ h w w0.heap.size O N Z' ψ' h' w'):Ok Z0 w0 O ψ0 Z' ψ' h' w':=by
 have own:∀b,Own ψ h b→w0.heap.size≤b∨O b:=fun b ⟨id,h1,h2⟩=>(k.du.live id b h1 h2).2;refine⟨n.du,fun b hb=>n.g9 b (k.g9 b hb),fun b hb=>?_,n.keep.os.trans k.os,n.keep.tape.trans k.tape,n.keep.output.trans k.output,acR k.size n.keep.size,fun b hb ho=>?_,fun i hi bA=>?_⟩
 ·rcases n.fq b hb with h1|h1|h1
  ·exact k.fq b h1
  ·grind
  ·exact .inr (.inr (acR k.size h1))
 ·rw[n.keep.block b (Nat.lt_of_lt_of_le hb k.size) (fun h1=>(own b h1).elim (fun h2=>by omega) ho)];exact k.block b hb ho
 ·rcases n.ids i bA with⟨h1,h2⟩|h1
  ·rw[h2];exact k.fix i hi h1
  grind
structure dm(Z:Nat→Prop)(ψ:Nat→Value)(h:Hp)(w:World)(n:Nat)(T:Nat→AV)(a:Act):Prop where
 rep:∀d,aD Z ψ h w (T d) (a.tmps.getD d undef)
 size:a.tmps.size=n
 defers:a.defers=[]
theorem Sx:aD Z ψ h w (.pC []) undef:=by simp only[aD,az];exact⟨#[],rfl,rfl⟩
def jk(T:Nat→AV)(d:Option Tmp)(v:AV):Nat→AV:=match d with
 |some d=>eI T d v
 |none=>T
theorem jl(st:St)(d:Option Tmp)(v:AV):look (st.put d v).tmps=jk (look st.tmps) d v:=by
 cases d with
 |none=>rfl
 |some d =>
  funext i;simp only[St.put,look,jk,eI]
  grind
theorem dD(st:St)(d:Option Tmp)(v:AV):(st.put d v).heap=st.heap:=by cases d<;>rfl
theorem HR{T:List (Nat×AV)}{d:Nat}{v:AV}(hv:look T d=v):eI (look T) d v=look T:=by
 grind [eI]
theorem jm{a:Act}{d:Nat}{v:Value}(hd:d<a.tmps.size)(i:Nat):(a.put (some d) v).tmps.getD i undef=if i=d then v else a.tmps.getD i undef:=by
 simp only[Act.put];by_cases e:i=d
 ·simp_all
 ·simp[e,Array.getElem?_setIfInBounds_ne (Ne.symm e)]
theorem cY(a:Act)(d:Option Tmp)(v:Value):(a.put d v).tmps.size=a.tmps.size:=by cases d<;>simp[Act.put]
theorem put_defers(a:Act)(d:Option Tmp)(v:Value):(a.put d v).defers=a.defers:=by cases d<;>rfl
theorem dm.put{n:Nat}{T:Nat→AV}{a:Act}{o:Oper}{x:AV}{V:Value}(t:dm Z ψ h w n T a)(hd:jB n o=true)(hx:aD Z ψ h w x V):dm Z ψ h w n (jk T o.dst x) (a.put o.dst V):=by
 refine⟨fun d=>?_,by rw[cY];exact t.size,by rw[put_defers];exact t.defers⟩;unfold jB at hd
 split at hd
 ·rename_i d0 hd0;rw[hd0];rw[jm (by rw[t.size];simpa using hd)];simp only[jk,eI]
  split
  ·exact hx
  ·exact t.rep d
 ·rename_i hd0;rw[hd0];exact t.rep d
theorem dm.next{n:Nat}{T:Nat→AV}{a:Act}(t:dm Z ψ h w n T a)(g:Good Z ψ h w B0 O)(hn:Next Z ψ h w B0 O N Z' ψ' h' w')(hm:∀d,aM (fun i=>¬N i) (T d)):dm Z' ψ' h' w' n T a :=⟨fun d=>hn.rep g (hm d) (t.rep d),t.size,t.defers⟩
theorem tQ{n:Nat}{s:List (Nat×AV)}{a:Act}(t:dm Z ψ h w n (look s) a)(x:Operand):aD Z ψ h w (ρ s x) (a.eval x):=by
 cases x with
 |tmp i=>exact t.rep i
 |const v=>exact K0 v
 |global g=>simp only[ρ,aD]
 |func f=>simp only[ρ,aD,az,Act.eval];exact⟨#[],rfl,rfl⟩
theorem Ec(p:Nat→Prop)(v:Value):aM p (w6 v):=by
 cases v with
 |agg cs=>grind [w6,aM,Ay]
 |_=>grind [w6,D4]
theorem Sy{p:Nat→Prop}{s:List (Nat×AV)}(hm:∀d,aM p (look s d))(x:Operand):aM p (ρ s x):=by
 cases x with
 |tmp i=>exact hm i
 |const v=>exact Ec p v
 |global g=>simp only[ρ,aM]
 |func f=>simp only[ρ,aM,aF]
def oD(rid:Nat)(S:Nat→Prop)(id:Nat):Prop:=id / 32768=rid+1→S (id / 256%128)
def Of(rid i id:Nat):Prop:=id / 256=(rid+1)*128+i
theorem Of.parts{rid i id:Nat}(hi:i<128)(h:Of rid i id):id / 32768=rid+1∧id / 256%128=i:=by
 grind [Of]
theorem Of.of{rid i id:Nat}(h:id / 32768=rid+1)(hi:id / 256%128=i):Of rid i id:=by unfold Of;omega
theorem P8{rid i j:Nat}(hj:j<256):Of rid i (opId rid i+j):=by unfold Of opId;omega
theorem Lq{rid i:Nat}:Of rid i (opId rid i):=by unfold Of opId;omega
theorem oD.Ed{rid i id:Nat}{S:Nat→Prop}(hi:i<128)(hs:¬S i)(h:oD rid S id):¬Of rid i id:=fun ho=>by obtain⟨h1,h2⟩:=ho.parts hi;have:=h h1;simp_all
theorem qm{rid bits id:Nat}{S:Nat→Prop}(hb:∀j,bits.testBit j=true→S j)(h:vQ rid bits id=true):oD rid S id:=fun h1=>by simp_all [vQ,Bool.or_eq_true,bne_iff_ne,ne_eq]
mutual
theorem rK{rid bits:Nat}{S:Nat→Prop}(hb:∀j,bits.testBit j=true→S j):∀{v:AV},wb rid bits v=true→aM (oD rid S) v
 |.ref id s i off,h=>by simp only[wb]at h;simp only[aM];exact qm hb h
 |.bO id,h=>by simp only[wb]at h;simp only[aM];exact qm hb h
 |.fn f cap,h=>by simp only[wb]at h;simp only[aM];exact nN hb h
 |.agg cs,h=>by simp only[wb]at h;simp only[aM];exact nN hb h
 |.pC cs,h=>by simp only[wb]at h;simp only[aM];exact nN hb h
 |.no,_=>by simp only[aM]
 |.bool _,_=>by simp only[aM]
 |.int _ _,_=>by simp only[aM]
 |.str _,_=>by simp only[aM]
 |.mA,_=>by simp only[aM]
 |.gq,_=>by simp only[aM]
 |.fp _ _ _,_=>by simp only[aM]
 |.sl _ _ _,_=>by simp only[aM]
 |.mp _ _ _,_=>by simp only[aM]
theorem nN{rid bits:Nat}{S:Nat→Prop}(hb:∀j,bits.testBit j=true→S j):∀{v:List AV},DF rid bits v=true→aF (oD rid S) v
 |[],_=>by simp only[aF]
 |v::r,h=>by simp only[DF,Bool.and_eq_true]at h;simp only[aF];exact⟨rK hb h.1,nN hb h.2⟩
end
theorem nO{rid bits:Nat}{S:Nat→Prop}(hb:∀j,bits.testBit j=true→S j):∀{hh:Heap},BE rid bits hh=true→∀id o,hh.get id=some o→oD rid S id∧∀ty cs,o=.box ty cs→aF (oD rid S) cs
 |[],_,id,o,hg=>by simp[Heap.get]at hg
 |(i,ob)::r,h,id,o,hg=>by
  simp only[Heap.get]at hg
  split at hg
  ·rename_i e;subst e
   cases hg
   cases ob with
   |box ty cs =>
    simp only[BE,Bool.and_eq_true]at h
    grind [qm,nN]
   |own ok xs =>
    simp only[BE,Bool.and_eq_true]at h
    grind [qm]
  ·refine nO hb ?_ id o hg
   cases ob<;>simp only[BE,Bool.and_eq_true]at h<;>exact h.2
def bD.heap(e:bD)(h:Heap):Heap:=match e with
 |.wr _ h'=>h'
 |e=>e.h h
theorem bD.Lr(e:bD)(hh:Heap):(e.heap hh).get=e.hp hh.get:=by
 cases e with
 |val v=>rfl
 |new v os=>grind [bD.heap,bD.h,bD.hp,Heap.get_append,Heap.get]
 |wr v h'=>rfl
def wz(p:Nat→Prop)(h:Hp):Prop:=∀i ty cs,h i=some (.box ty cs)→aF p cs
theorem Ee{ops:Array Oper}{o:Oper}{n:Nat}{T:Nat→AV}{a:Act}(t:dm Z ψ h w n T a){j d:Nat}{want:Bool}(hg:o.guard=some (j,want))(hd:(ops[j]?).bind (·.dst)=some d){b:Bool}(hb:T d=.bool b) :
  Region.wanted o (yielded ops a.tmps)=(b==want):=by
 have h1:=t.rep d;rw[hb]at h1;simp only[aD]at h1;have h2:a.tmps[d]? = some (.bool b):=by
  rw[Array.getD_eq_getD_getElem?]at h1
  cases e:a.tmps[d]? with
  |none=>rw[e]at h1;simp[undef]at h1
  |some v=>rw[e]at h1;simpa using h1
 unfold Region.wanted yielded;rw[hg];simp only[hd,Option.bind_some,h2]
 cases b<;>cases want<;>rfl
theorem BX{ops:Array Oper}{o:Oper}{n:Nat}{T:Nat→AV}{a:Act}(t:dm Z ψ h w n T a){j d:Nat}{want:Bool}(hg:o.guard=some (j,want))(hd:(ops[j]?).bind (·.dst)=some d){vs:List AV}(hb:T d=.pC vs) :
  Region.wanted o (yielded ops a.tmps)=false:=by
 have h1:=t.rep d;rw[hb]at h1;simp only[aD]at h1;obtain⟨us,h1,_⟩:=h1;unfold Region.wanted yielded;rw[hg];simp only[hd,Option.bind_some];rw[Array.getD_eq_getD_getElem?]at h1
 grind
def Ef(ops:Array Oper):Nat→List (Nat×Oper)→Prop
 |_,[]=>True
 |i,(j,o)::r=>j=i∧ops[i]? = some o∧Ef ops (i+1) r
theorem Ls(ops:Array Oper):∀(l:List Oper) (i:Nat),(∀k o,l[k]? = some o→ops[i+k]? = some o)→Ef ops i ((l.zipIdx i).map fun p=>(p.2,p.1))
 |[],_,_=>by simp[Ef]
 |o::r,i,h=>by simp only[List.zipIdx_cons,List.map_cons,Ef];exact⟨trivial,h 0 o rfl,Ls ops r (i+1) fun k o' hk=>by rw[Nat.add_assoc,Nat.add_comm 1 k];simp_all⟩
theorem qn(ops:Array Oper):Ef ops 0 (ops.toList.zipIdx.map fun p=>(p.2,p.1)):=Ls ops _ 0 fun k o hk=>by simpa using hk
theorem HS(ops:Array Oper):(ops.toList.zipIdx.map fun p=>(p.2,p.1)).map Prod.fst=List.range ops.size:=by rw[List.map_map];have:(Prod.fst ∘ fun(p:Oper×Nat)=>(p.2,p.1))=Prod.snd:=rfl;rw[this,List.zipIdx_map_snd,List.range_eq_range',Array.length_toList]
structure J(p:Nat→Prop)(n:Nat)(Z0:Nat→Prop)(w0:World)(O:Nat→Prop)(ψ0:Nat→Value)(Z:Nat→Prop)(ψ:Nat→Value)(T:Nat→AV)(h:Hp)(a:Act)(w:World):Prop where
 ok:Ok Z0 w0 O ψ0 Z ψ h w
 tr:dm Z ψ h w n T a
 tm:∀d,aM p (T d)
 hm:wz p h
theorem J.imp{p q:Nat→Prop}{n:Nat}{T:Nat→AV}{a:Act}(j:J p n Z0 w0 O ψ0 Z ψ T h a w)(Lb:∀id,p id→q id):J q n Z0 w0 O ψ0 Z ψ T h a w :=⟨j.ok,j.tr,fun d=>(j.tm d).imp Lb,fun id ty cs hb=>(j.hm id ty cs hb).imp Lb⟩
theorem J.op(E:Env P Eqs Sg F){rid n i:Nat}{p:Nat→Prop}{T:Nat→AV}{a:Act}{s:List (Nat×AV)}{o:Oper}(hS:makes o.op=true→∀id,p id→¬Of rid i id)(j:J p n Z0 w0 O ψ0 Z ψ T h a w)(hd:jB n o=true) (hT:∀x∈o.op.operands,aD Z ψ h w (ρ s x) (a.eval x)) (hTm:∀x∈o.op.operands,aM p (ρ s x)) {hh:Heap} (br:∀id o,hh.get id=some o→h id=some o) {e:bD} (he:dq P Eqs Sg F (opId rid i) hh s o some=some e) (nD:∀v hw,e=.wr v hw→hh.get=h) {p':Nat→Prop} (T4:∀k,p k→p' k) (hv:aM p' e.v) (hh':wz p' (e.hp h)) {next:Act→World→Prop} {Q:Exit→Act→World→Prop} (hk:∀a' w' Z' ψ',J p' n Z0 w0 O ψ0 Z' ψ' (jk T o.dst e.v) (e.hp h) a' w'→next a' w'):o.wp P a w next Q:=by
 have nof:∀id,p id→¬(makes o.op=true∧Of rid i id):=fun id h ⟨h1,h2⟩=>hS h1 id h h2;refine aa9 (N:=fun id=>makes o.op=true∧Of rid i id) E j.ok.du j.ok.size br (id:=opId rid i) (fun hm k hk=>⟨hm,P8 hk⟩) hT (fun x hx=>(hTm x hx).imp nof) (fun id ty cs hb=>(j.hm id ty cs hb).imp nof) nD he fun V w' Z' ψ' nx hr=>?_;refine hk _ w' Z' ψ' ⟨j.ok.next (fun id h=>by grind [Of]) nx,(j.tr.next j.ok.du nx (fun d=>(j.tm d).imp nof)).put hd hr,fun d=>?_,hh'⟩
 cases oE:o.dst with
 |none=>exact(j.tm d).imp T4
 |some d0 =>
  simp only[jk,eI]
  split
  ·exact hv
  ·exact(j.tm d).imp T4
theorem J.skip{n:Nat}{p p':Nat→Prop}{T:Nat→AV}{a:Act}{o:Oper}(j:J p n Z0 w0 O ψ0 Z ψ T h a w)(hd:jB n o=true)(T4:∀k,p k→p' k) :
  J p' n Z0 w0 O ψ0 Z ψ (jk T o.dst (.pC [])) h (a.put o.dst undef) w:=by
 refine⟨j.ok,j.tr.put hd Sx,fun d=>?_,fun id ty cs hb=>(j.hm id ty cs hb).imp T4⟩
 cases oE:o.dst with
 |none=>exact(j.tm d).imp T4
 |some d0 =>
  simp only[jk,eI]
  split
  ·simp only[aM,aF]
  ·exact(j.tm d).imp T4
theorem Zq{hh:Heap}(g:Good Z ψ hh.get w B0 O){m:Nat}{kk vk:K}{es:List (kk.T×vk.T)}(hg:hh.get m=some (.own (.map kk vk) es))(n:Next Z ψ hh.get w B0 O N Z' ψ' h' w')(hzm:∀b,ob (ψ m)=some b→Z' b) (hold:∀b,b<w.heap.size→w'.heap[b]? = w.heap[b]?) {v:AV} {V:Value} (hm:aM (fun id=>¬N id) v) (hr:aD Z ψ hh.get w v V):aD Z' ψ' h' w' (Ct m (.mp kk vk es) v) V:=by
 by_cases hv:v=.bO m
 ·subst hv;simp only[Ct,if_true];simp only[aD]at hr;have hu:=hr.2 (by rw[hg];simp);obtain⟨r,cr,clock,h1,h2,h3,_⟩:=g.row m (.map kk vk) es hg;rw[h1]at hu;subst hu;have aG:=(abB.1 h2).1;simp only[aD,aL];exact⟨some r,rfl,.inr ⟨r,cr,clock,rfl,hzm r (by rw[h1];rfl),(hold r aG).trans h2,h3.imp (fun _ _ h=>h.mono n.g9 (fun b hb=>hold b (g.kO b hb))) (fun _ _ h=>h.mono n.g9 (fun b hb=>hold b (g.kO b hb)))⟩⟩
 ·have hf:Ct m (.mp kk vk es) v=v:=by
   unfold Ct
   grind
  rw[hf];exact n.rep g hm hr
theorem UW{p:Nat→Prop}{m:Nat}{kk vk:K}{es:List (kk.T×vk.T)}{v:AV}(hm:aM p v):aM p (Ct m (.mp kk vk es) v):=by
 unfold Ct
 grind [aM]
theorem vg(f:AV→AV)(hf:f .no=.no):∀(l:List (Nat×AV)) (d:Nat),look (l.map fun p=>(p.1,f p.2)) d=f (look l d)
 |[],_=>by simp only[List.map_nil,look];exact hf.symm
 |(i,v)::r,d=>by
  simp only[List.map_cons,look]
  split
  ·rfl
  ·exact vg f hf r d
theorem Oq{rid n i:Nat}{p p':Nat→Prop}{st fB:St}{a:Act}{o:Oper}(hS:∀id,p id→¬Of rid i id)(T4:∀k,p k→p' k)(UH:p' (opId rid i))(j:J p n Z0 w0 O ψ0 Z ψ (look st.tmps) st.heap.get a w)(hd:jB n o=true)(rL:rk P (opId rid i) st o=some fB) :
  ∃V w' Z' ψ',(execOp a.eval o).run P w=.ok (.value V) w'∧J p' n Z0 w0 O ψ0 Z' ψ' (look fB.tmps) fB.heap.get (a.put o.dst V) w':=by
 unfold rk at rL
 split at rL
 ·rename_i t x P9
  split at rL
  ·rename_i ka va m hu hx
   split at rL
   ·rename_i kk vk es hg
    cases rL
    have hxr:aD Z ψ st.heap.get w (.bO m) (a.eval x):=by rw[←hx];exact tQ j.tr x
    simp only[aD]at hxr;have hev:=hxr.2 (by rw[hg];simp);have g:=j.ok.du;obtain⟨r,cr,clock,h1,h2,h3,h4,h5⟩:=g.row m (.map kk vk) es hg;rw[h1]at hev;have aG:=(abB.1 h2).1;have gd:=jF g [.bO m];have afH:∀b,ob (ψ m)=some b→tj Z ψ st.heap.get [.bO m] b:=fun b hb=>.inr ⟨m,by simp,by rw[hg];simp,hb⟩;have hold:∀b,b<w.heap.size→(w.alloc (.mapIter (some r) clock #[] clock)).heap[b]? = w.heap[b]? := fun b hb=>heap_alloc_old w _ hb;have hN:(Of rid i) (opId rid i):=Lq;have n1:=DX (N:=Of rid i) gd j.ok.size (opId rid i) hN (ok:=.iter kk vk) (x:=(none,es)) (v:=.pointer (some ⟨w.heap.size,0,none⟩)) (.mapIter (some r) clock #[] clock) ⟨w.heap.size,r,clock,#[],cr,clock,rfl,heap_alloc_new _ _,afH r (by rw[h1];rfl),(hold r aG).trans h2,h4,rfl,h5,by rw[List.filter_eq_self.2 (fun e _=>by simp)];exact h3.imp (fun _ _ h=>h.mono (fun b hb=>.inl hb) (fun b hb=>hold b (g.kO b hb))) (fun _ _ h=>h.mono (fun b hb=>.inl hb) (fun b hb=>hold b (g.kO b hb))),trivial⟩ rfl (fun i' ty cs hb=>aF.imp (p:=p) (q:=fun i'=>i'≠opId rid i) (fun id hp e=>hS id hp (by simp_all)) (j.hm i' ty cs (eX _ _ _ _ hb)));have n2:=n1.drop (Z:=Z) (h:=st.heap.get) (fun b hb=>.inl hb) (fun b hb=>hb.imp (fun h=>h) (fun⟨id,_,h5,h6⟩=>⟨id,h5,h6⟩)) (eX _ _);have mq:(eI (de st.heap [.bO m]).get (opId rid i) (some (Ob.own (.iter kk vk) (none,es))))=Heap.get ((opId rid i,.own (.iter kk vk) (none,es))::st.heap.del m):=by
     funext k;simp only[de,drop1,eI,Heap.get]
     grind
    rw[mq]at n2;refine⟨.pointer (some ⟨w.heap.size,0,none⟩),w.alloc (.mapIter (some r) clock #[] clock),tj Z ψ st.heap.get [.bO m],eI ψ (opId rid i) (.pointer (some ⟨w.heap.size,0,none⟩)),?_,?_⟩
    ·simp_all [guard,Instr.range,Sem.run_bind,run_underlying,Result.andThen_ok,iz,Sem.run_pure,execOp]
    ·have bm:∀d,aM (fun id=>¬Of rid i id) (look st.tmps d):=fun d=>(j.tm d).imp hS;refine⟨by rw[dD];exact j.ok.next (fun id h=>by grind [Of]) n2,?_,fun d=>?_,fun k ty cs hb=>?_⟩
     ·rw[jl,dD];refine dm.put ⟨fun d=>?_,j.tr.size,j.tr.defers⟩ hd ?_
      ·rw[vg _ rfl];exact Zq g hg n2 (fun b hb=>afH b hb) hold (bm d) (j.tr.rep d)
      ·simp only[aD];exact⟨⟨rfl,rfl⟩,fun _=>(bg _ _ _).symm⟩
     ·rw[jl];have hb:aM p' (look (st.tmps.map fun q=>(q.1,Ct m (.mp kk vk es) q.2)) d):=by rw[vg _ rfl];exact UW ((j.tm d).imp T4)
      cases oE:o.dst with
      |none=>exact hb
      |some d0 =>
       simp only[jk,eI]
       grind [aM]
     ·rw[dD]at hb;simp only[Heap.get]at hb
      split at hb
      ·cases hb
      ·exact(j.hm k ty cs (Heap.yg hb).1).imp T4
   ·cases rL
  ·cases rL
 ·cases rL
theorem qo{R:Type}{n:Nat}{f:Nat→Option R}{r:R}(h:tF n f=some r):∀j,j<n→f j=some r:=by
 unfold tF at h
 split at h
 ·grind
 ·cases h
theorem mF{R:Type}{n:Nat}{f:Nat→Option R}{r:R}(hn:0<n)(h:∀j,j<n→f j=some r):tF n f=some r:=by
 unfold tF;have hx:∃r,∀j,j<n→f j=some r:=⟨r,h⟩;rw[dif_pos hx]
 grind
theorem Next.drawn{d:Nat}(n:Next Z ψ h { w with drawn:=d } B0 O N Z' ψ' h' w'):Next Z ψ h w B0 O N Z' ψ' h' w' :=⟨n.g9,n.fq,⟨n.keep.os,n.keep.tape,n.keep.output,n.keep.size,n.keep.block⟩,n.ids,n.du⟩
theorem Good.drawn{d:Nat}(g:Good Z ψ h w B0 O):Good Z ψ h { w with drawn:=d } B0 O:=by
 have sm:cG Z w ({ w with drawn:=d }:World):=fun _ _=>rfl;refine⟨fun id ty cs hb=>?_,fun id ok xs hb=>?_,g.live,g.apart,g.kO⟩
 ·obtain⟨gg,vs,h1,h2,h3,h4⟩:=g.box id ty cs hb;exact⟨gg,vs,h1,h2,h3.less (fun _ h=>h) sm (fun i hi=>⟨hi,rfl⟩),h4⟩
 ·exact(g.row id ok xs hb).kept (fun _ h=>h) sm (fun gg _=>rfl)
theorem filter_push{l:List MapEntry}(h:l.Pairwise (fun a b=>a.born≠b.born)){seen:Array Nat}{j:Nat}{e:MapEntry}(he:(l.filter fun e => !seen.contains e.born)[j]? = some e) :
  l.filter (fun x => !(seen.push e.born).contains x.born)=(l.filter fun e => !seen.contains e.born).eraseIdx j:=by
 have h2:(l.filter fun e => !seen.contains e.born).Pairwise (fun a b=>a.born≠b.born):=h.sublist List.filter_sublist;rw[←ChangeMaps.filter_eq_eraseIdx (fun x=>x.born==e.born) _ j e he (by simp) (h2.imp fun {a b} bA hc=>bA (by simp_all))]
 grind [List.filter_filter,Array.contains_push]
theorem Ot{R:Type}{hh:Heap}(g:Good Z ψ hh.get w B0 O){x:AV}{u:Value}{ty:TypeId}(hx:aD Z ψ hh.get w x u){kk:AV→Heap→Option R}{r:R}(he:mB hh x kk=some r) :
  ∃v h' V w',(Instr.next u false ty).run P w=.ok V w'∧Next Z ψ hh.get w B0 O N Z ψ h'.get w'∧aD Z ψ h'.get w' v V∧kk v h'=some r∧(∀p,aM p v)∧∀i ty cs,h'.get i=some (.box ty cs)→hh.get i=some (.box ty cs):=by
 unfold mB at he
 split at he
 ·rename_i id
  split at he
  ·rename_i kk1 vk pp hg;simp only[aD]at hx;have hu:=hx.2 (by rw[hg];simp);obtain⟨b,m,since,seen,cr,clock,h1,h2,h3,h4,h5,h6,h7,h8,h9⟩:=g.row id (.iter kk1 vk) pp hg;rw[h1]at hu;subst hu;subst h6;have aG:=(abB.1 h2).1;have abb:(leftOf cr seen).toList=cr.toList.filter fun e => !seen.contains e.born:=by unfold leftOf;simp
   have hlen:pp.2.length=(leftOf cr seen).size:=by rw[h8.1,←abb,Array.length_toList]
   rcases run_next_at (P:=P) w ty b m since since seen cr since h2 h4 h7 (abX _) with⟨q6,dC⟩|⟨e,kA,w1,Qa,dC⟩
   ·have Sn:pp.2.isEmpty=true:=by rw[List.isEmpty_iff];exact abD (by rw[hlen,q6])
    rw[Sn]at he;simp only[cond_true]at he;exact⟨_,hh,_,w,dC,Next.refl g,by simp only[aD,az];exact⟨_,rfl,_,_,rfl,rfl,rfl⟩,he,fun p=>by simp only[aM,aF];exact⟨trivial,trivial⟩,fun _ _ _ h=>h⟩
   ·obtain⟨k,hk,hke⟩:=List.mem_iff_getElem.1 kA;have sL:k<pp.2.length:=by rw[hlen,←Array.length_toList];exact hk
    have Sn:pp.2.isEmpty=false:=by
     cases hl:pp.2 with
     |nil=>rw[hl]at sL;simp at sL
     |cons _ _=>rfl
    rw[Sn]at he;simp only[cond_false]at he;have hj:=qo he k sL;rw[List.getElem?_eq_getElem sL,Option.bind_some]at hj;have acZ:(cr.toList.filter fun e => !seen.contains e.born)[k]? = some e:=by rw[←abb,List.getElem?_eq_getElem hk,hke]
    have Jh:=h8.2 k _ e (abf sL) acZ;obtain⟨⟨k1,k2,k3⟩,v1,v2,v3⟩:=Jh;have akR:e∈cr.toList:=(aeC.1 (abC acZ)).1;have gd1:Good Z ψ hh.get w1 B0 O:=by rcases Qa with rfl|rfl;exact g;exact g.drawn
    have Jy:w1.heap=w.heap:=by rcases Qa with rfl|rfl<;>rfl
    have hmb:m≠b:=fun hmb=>by subst hmb;exact(g.live id m (by rw[hg];simp) (by rw[h1];rfl)).1 h3
    have n1:=u6 (N:=N) gd1 (id:=id) (by rw[hg];simp) (r:=b) (by rw[h1];rfl) (by rw[Jy];exact aG) (.mapIter (some m) since (seen.push e.born) since) (ok:=.iter kk1 vk) (x:=(some pp.2[k],pp.2.eraseIdx k)) (fun w' NG sm=>by
     have sm':cG Z w w':=fun c hc=>(sm c hc).trans (by rw[Jy]);refine⟨b,m,since,seen.push e.born,cr,since,h1,by rw[NG,Jy];simp[aG],h3,?_,h5,rfl,h7,?_,?_⟩
     ·rw[NG,Jy,Av _ (fun e=>hmb e.symm)];exact h4
     ·rw[filter_push h5 acZ];exact(lF.erase h8 k).mono (fun _ h=>h) sm'
     ·refine⟨e,akR,by simp,⟨rfl,fun q y e' q6 GB=>?_⟩⟩
      cases q with
      |zero=>cases q6;cases GB;exact⟨⟨k1.mono (fun _ h=>h) sm',k2,k3⟩,v1.mono (fun _ h=>h) sm',v2,v3⟩
      |succ q=>simp at q6)
    have n2:Next Z ψ hh.get w B0 O N Z ψ (eI hh.get id (some (.own (.iter kk1 vk) (some pp.2[k],pp.2.eraseIdx k)))) { w1 with heap:=w1.heap.setIfInBounds b (.mapIter (some m) since (seen.push e.born) since) }:=by
     rcases Qa with rfl|rfl
     ·exact n1
     ·exact n1.drawn
    refine⟨_,hh.set id (.own (.iter kk1 vk) (some pp.2[k],pp.2.eraseIdx k)),_,_,dC,by rw[lu];exact n2,?_,hj,fun p=>?_,fun i ty cs hb=>?_⟩
    ·have sm':cG Z w ({ w1 with heap:=w1.heap.setIfInBounds b (.mapIter (some m) since (seen.push e.born) since) }:World):=n2.same g;simp only[aD,az];exact⟨_,rfl,_,_,rfl,rfl,_,_,rfl,nC (k1.mono (fun _ h=>h) sm') k2 k3,_,_,rfl,nC (v1.mono (fun _ h=>h) sm') v2 v3,rfl⟩
    ·simp only[aM,aF];exact⟨trivial,qk _ _ _,qk _ _ _,trivial⟩
    ·rw[lu]at hb;unfold eI at hb
     split at hb
     ·cases hb
     ·exact hb
  ·cases he
 ·cases he
theorem Lt(op:BinOp)(t:TypeId)(a b:Operand)(x y:Option Addr)(n m c d:Nat):(eqGuard op t a b (.slice x n c) (.slice y m d)).run P w=.ok () w:=by simp_all [eqGuard]
theorem GQ{t e:TypeId}(ht:P.underlying t=some (.slice e))(a:Option Addr)(n c:Nat):(Op.equal t (.slice a n c) (.slice none 0 0)).run P w=.ok a.isNone w:=by
 have key:∀d,(Op.equalIn (d+1) t (.slice a n c) (.slice none 0 0)).run P w=.ok a.isNone w:=fun d=>by cases a<;>simp[Op.equalIn,run_underlying ht]
 exact key 9999
theorem Ou{o:Oper}{x:Operand}{want:Bool}(h:isNil P o=some (x,want)):∃op t v t' e,o.op=.binOp op t x (.const v) t'∧P.underlying t=some (.slice e)∧v=.slice none 0 0∧((op=.eql∧want=true)∨(op=.neq∧want=false)):=by
 unfold isNil at h
 split at h
 ·rename_i op t x' v t' P9;have hv:∀v:Value,Ag v=.gq→v=.slice none 0 0:=fun v hv=>by
   unfold Ag at hv
   grind
  grind
 ·cases h
theorem UX{R:Type}{hh:Heap}(g:Good Z ψ hh.get w B0 O){x:AV}{u:Value}{op:BinOp}{t e:TypeId}(xo yo:Operand)(hx:aD Z ψ hh.get w x u)(ht:P.underlying t=some (.slice e)){want:Bool}(ho:(op=.eql∧want=true)∨(op=.neq∧want=false)){kk:AV→Option R}{r:R}(he:yd hh x want kk=some r) :
  ∃c:Bool,((eqGuard op t xo yo u (.slice none 0 0)).run P w=.ok () w∧(binOp op t u (.slice none 0 0)).run P w=.ok (.bool c) w)∧kk (.bool c)=some r:=by
 have run:∀(a:Option Addr) (n c:Nat),(eqGuard op t xo yo (.slice a n c) (.slice none 0 0)).run P w=.ok () w∧(binOp op t (.slice a n c) (.slice none 0 0)).run P w=.ok (.bool (a.isNone==want)) w:=fun a n c=>by refine⟨Lt _ _ _ _ _ _ _ _ _ _,?_⟩;rcases ho with⟨rfl,rfl⟩|⟨rfl,rfl⟩<;>simp only[Sem.run_bind,Result.andThen_ok,binOp,GQ ht,Sem.run_pure]<;>cases a.isNone<;>rfl
 have fin:∀(n:Nat) (a:Option Addr) (c:Nat) (xs:Bool),(a=none→xs=true)→cond xs (tF 2 fun j=>kk (.bool ((j==0)==want))) (kk (.bool (!want)))=some r → ∃c':Bool,((eqGuard op t xo yo (.slice a n c) (.slice none 0 0)).run P w=.ok () w∧(binOp op t (.slice a n c) (.slice none 0 0)).run P w=.ok (.bool c') w)∧kk (.bool c')=some r:=fun n a c xs BJ h=>by
  refine⟨_,run a n c,?_⟩
  cases xs with
  |true =>
   simp only[cond_true]at h
   cases a with
   |none=>exact qo h 0 (by decide)
   |some a=>exact qo h 1 (by decide)
  |false =>
   simp only[cond_false]at h
   cases a with
   |none=>cases BJ rfl
   |some a=>simp_all
 unfold yd at he
 split at he
 ·rename_i hv;have hxn:x=.gq:=by
   cases x<;>simp only[dp]at hv<;>try cases hv
   ·rfl
   grind
  grind [aD]
 ·rename_i ex k xs hv
  cases x with
  |sl ex' k' xs' =>
   simp only[dp]at hv
   cases hv
   simp only[aD,aL]at hx;obtain⟨⟨v,hv,A,c,rfl,h1,h2,_⟩,_⟩:=hx
   cases hv
   refine fin _ A c _ (fun hA=>?_) he;simp_all
  |bO id =>
   simp only[dp]at hv;simp only[aD]at hx
   split at hv
   ·rename_i hg
    cases hv
    have hu:=hx.2 (by rw[hg];simp);obtain⟨vs,⟨_,h1⟩,_⟩:=g.row id _ _ hg;rw[←hu]at h1;rcases h1 with⟨h1,A,rfl⟩|⟨gg,cap,cur,rfl,_⟩
    ·exact fin _ A 0 _ (fun _=>List.isEmpty_iff.2 (abD h1)) he
    ·exact fin _ _ _ _ (fun h=>by cases h) he
   ·cases hv
   ·cases hv
  |_=>grind [dp]
 ·cases he
theorem Eg{draw:Bool}{rid:Nat}{ops:Array Oper}{b:Array Nat}{i NW:Nat}{e:bD}{S:Nat→Prop}{hh:Heap}(hm:wz (oD rid S) h)(ha:∀j,NW.testBit j=true→S j)(he:iR draw rid ops b i NW e=true) :
  aM (oD rid fun k=>S k∨k=i) e.v∧wz (oD rid fun k=>S k∨k=i) (e.hp h):=by
 have KX:∀j,(NW ||| 2 ^ i).testBit j=true→S j∨j=i:=fun j hj=>by
  grind
 have up:wz (oD rid fun k=>S k∨k=i) h:=fun id ty cs hb=>(hm id ty cs hb).imp (fun id h1 h2=>.inl (h1 h2))
 cases e with
 |val v=>exact⟨rK (fun j hj=>.inl (ha j hj)) he,up⟩
 |new v os =>
  simp only[iR,Bool.and_eq_true]at he;refine⟨rK KX he.1.1,fun id ty cs hb=>?_⟩;simp only[bD.hp]at hb
  split at hb
  ·rename_i o ho
   cases hb
   exact(nO KX he.2 _ _ ho).2 _ _ rfl
  ·exact up id ty cs hb
 |wr v h' =>simp only[iR,Bool.and_eq_true]at he;exact⟨rK KX he.1.2,fun id ty cs hb=>(nO KX he.2 _ _ hb).2 _ _ rfl⟩
theorem GR{i j:Nat}(h:(2 ^ i-1).testBit j=true):j<i:=by simp_all
def AI(mk:Bool)(rid i id:Nat):Prop:=mk=true→oD rid (fun k=>k<i) id
theorem mX(E:Env P Eqs Sg F){rid n:Nat}{ops:Array Oper}{b:Array Nat}(mk:Bool)(Zr:mk=false→∀(i:Nat) (o:Oper),ops[i]? = some o→makes o.op=false)(hn:ops.size≤128)(oE:∀(i:Nat) (o:Oper),ops[i]? = some o→jB n o=true){kk:St→Option R}{r:R}{Q:Exit→Act→World→Prop} (hQ:∀fB Z ψ a w,kk fB=some r→Ok Z0 w0 O ψ0 Z ψ fB.heap.get w→dm Z ψ fB.heap.get w n (look fB.tmps) a→Q .normal a w) :
  ∀(l:List (Nat×Oper)) (i:Nat) (st:St) (Z:Nat→Prop) (ψ:Nat→Value) (a:Act) (w:World),Ef ops i l→bJ P Eqs Sg F rid false ops b l st kk=some r → J (AI mk rid i) n Z0 w0 O ψ0 Z ψ (look st.tmps) st.heap.get a w→wpOps P ops Q (l.map Prod.fst) a w
 |[],i,st,Z,ψ,a,w,_,hx,j=>hQ st Z ψ a w hx j.ok j.tr
 |(i',o)::l,i,st,Z,ψ,a,w,hl,hx,j=>by
  obtain⟨rfl,ho,hl⟩:=hl;have hi:i'<128:=adf (abB.1 ho).1 hn;have YL:=oE i' o ho;have ih:=mX E (rid:=rid) (b:=b) mk Zr hn oE hQ l (i'+1);have up:∀id,AI mk rid i' id→AI mk rid (i'+1) id:=fun id h hm hr=>Nat.lt_succ_of_lt (h hm hr);have runs:∀jG:St,look jG.tmps=look st.tmps→jG.heap=st.heap→Region.wanted o (yielded ops a.tmps)=true →(match rk P (opId rid i') jG o with
    |some fB=>bJ P Eqs Sg F rid false ops b l fB kk
    |none=>match ya o with
    |some x=>mB jG.heap (ρ jG.tmps x) fun v h=>bJ P Eqs Sg F rid false ops b l (({ jG with heap:=h }:St).put o.dst v) kk
    |none=>match isNil P o with
    |some (x,want)=>yd jG.heap (ρ jG.tmps x) want fun v=>bJ P Eqs Sg F rid false ops b l (jG.put o.dst v) kk
    |none=>dq P Eqs Sg F (opId rid i') jG.heap jG.tmps o fun e=>if iR false rid ops b i' (2 ^ i' - 1) e then bJ P Eqs Sg F rid false ops b l ({ jG with heap:=match e with | .wr _ h=>h|e=>e.h jG.heap }.put o.dst e.v) kk else none)=some r →
    wpOps P ops Q (((i',o)::l).map Prod.fst) a w:=by
   intro jG h1 h2 hw hx
   split at hx
   ·rename_i fB rL;simp only[List.map_cons,wpOps,ho,hw,if_true];refine .inl ?_;have aqw:makes o.op=true:=by
     unfold rk at rL
     split at rL
     ·rename_i P9;rw[P9];rfl
     ·cases rL
    have akT:mk=true:=by
     grind
    have j1:J (AI mk rid i') n Z0 w0 O ψ0 Z ψ (look jG.tmps) jG.heap.get a w:=by simp_all
    obtain⟨V,w',Z',ψ',dC,j'⟩:=Oq (P:=P) (p':=AI mk rid (i'+1)) (fun id hp mC=>by obtain⟨h3,h4⟩:=mC.parts hi;have:=hp akT h3;omega) up (fun _ h3=>by have:=((Lq (rid:=rid) (i:=i')).parts hi).2;omega) j1 YL rL;unfold Oper.wp;rw[dC];exact ih fB Z' ψ' _ w' hl hx j'
   split at hx
   ·rename_i x SA;simp only[List.map_cons,wpOps,ho,hw,if_true];refine .inl ?_;have P9:o.op=.next x false:=by
     grind [ya]
    have hxr:aD Z ψ jG.heap.get w (ρ jG.tmps x) (a.eval x):=tQ (by rw[h1,h2];exact j.tr) x;have g1:Good Z ψ jG.heap.get w w0.heap.size O:=by rw[h2];exact j.ok.du
    obtain⟨v,h',V,w',dC,nx,hr,Zh,YG,s6⟩:=Ot (P:=P) (N:=fun _=>False) (ty:=o.type) g1 hxr hx;have UY:(execOp a.eval o).run P w=.ok (.value V) w':=by simp_all [guard,execOp]
    unfold Oper.wp;rw[UY];refine ih _ Z ψ _ w' hl Zh ?_;rw[jl,dD];have j1:J (AI mk rid i') n Z0 w0 O ψ0 Z ψ (look jG.tmps) jG.heap.get a w:=by simp_all
    refine⟨j1.ok.next (fun id h=>h.elim) nx,(j1.tr.next g1 nx (fun d=>(j1.tm d).imp fun _ _ h=>h)).put YL hr,fun d=>?_,fun k ty cs hb=>(j1.hm k ty cs (s6 k ty cs hb)).imp up⟩
    cases oE:o.dst with
    |none=>exact(j1.tm d).imp up
    |some d0 =>
     simp only[jk,eI]
     split
     ·exact YG _
     ·exact(j1.tm d).imp up
   split at hx
   ·rename_i x want hnl;obtain⟨op,t,v,t',et,P9,ht,rfl,Eh⟩:=Ou hnl;simp only[List.map_cons,wpOps,ho,hw,if_true];refine .inl ?_;have hxr:aD Z ψ jG.heap.get w (ρ jG.tmps x) (a.eval x):=tQ (by rw[h1,h2];exact j.tr) x;have g1:Good Z ψ jG.heap.get w w0.heap.size O:=by rw[h2];exact j.ok.du
    obtain⟨c,dC,Zh⟩:=UX (P:=P) g1 x (.const (.slice none 0 0)) hxr ht Eh hx;have UY:(execOp a.eval o).run P w=.ok (.value (.bool c)) w:=by obtain⟨dst,op',type,pos,after,guard⟩:=o;simp only at P9;subst P9;have e1:a.eval (.const (.slice none 0 0))=.slice none 0 0:=rfl;simp_all [execOp]
    unfold Oper.wp;rw[UY];refine ih _ Z ψ _ w hl Zh ?_;rw[jl,dD];have j1:J (AI mk rid i') n Z0 w0 O ψ0 Z ψ (look jG.tmps) jG.heap.get a w:=by simp_all
    refine⟨j1.ok,j1.tr.put YL (by rfl),fun d=>?_,fun k ty cs hb=>(j1.hm k ty cs hb).imp up⟩
    cases oE:o.dst with
    |none=>exact(j1.tm d).imp up
    |some d0 =>
     simp only[jk,eI]
     split
     ·simp only[aM]
     ·exact(j1.tm d).imp up
   rw[mW]at hx;obtain⟨e,he,hx⟩:=acY.1 hx
   split at hx
   ·rename_i ly;simp only[List.map_cons,wpOps,ho,hw,if_true];refine .inl ?_;have hh:jG.heap.get=st.heap.get:=by rw[h2]
    have rL:aM (AI mk rid (i'+1)) e.v∧wz (AI mk rid (i'+1)) (e.hp st.heap.get):=by
     cases ac0:mk with
     |false =>have ht:AI false rid (i'+1)=fun _=>True:=funext fun id=>propext ⟨fun _=>trivial,fun _ h=>by cases h⟩;rw[ht];exact⟨aM.top _,fun _ _ cs _=>aF.top cs⟩
     |true =>
      have UC:wz (oD rid fun k=>k<i') st.heap.get:=fun id ty cs hb=>(j.hm id ty cs hb).imp fun id h1=>h1 ac0;have h3:=Eg (hh:=jG.heap) UC (fun k hk=>GR hk) ly;have hS:∀k,(k<i'∨k=i')→k<i'+1:=fun k hk=>by omega
      exact⟨h3.1.imp fun id h1 _ h2=>hS _ (h1 h2),fun id ty cs hb=>(h3.2 id ty cs hb).imp fun id h1 _ h2=>hS _ (h1 h2)⟩
    refine J.op E (p:=AI mk rid i') (p':=AI mk rid (i'+1)) (rid:=rid) (i:=i') (s:=jG.tmps) (fun hm id hp mC => ?_) j YL (fun x _=>tQ (by rw[h1];exact j.tr) x) (fun x _=>Sy (by rw[h1];exact j.tm) x) (fun id o hg=>by simp_all) he (fun _ _ _=>hh) up rL.1 rL.2 fun a' w' Z' ψ' j' => ?_
    ·cases ac0:mk with
     |false=>grind
     |true =>obtain⟨h3,h4⟩:=mC.parts hi;have:=hp ac0 h3;omega
    refine ih _ Z' ψ' a' w' hl hx ?_;rw[jl,dD];have j2:J (AI mk rid (i'+1)) n Z0 w0 O ψ0 Z' ψ' (jk (look jG.tmps) o.dst e.v) (bD.heap e jG.heap).get a' w':=by grind [bD.Lr]
    exact j2
   ·cases hx
  have yz:∀jG:St,look jG.tmps=look st.tmps→jG.heap=st.heap→Region.wanted o (yielded ops a.tmps)=false → bJ P Eqs Sg F rid false ops b l (jG.put o.dst (.pC [])) kk=some r→wpOps P ops Q (((i',o)::l).map Prod.fst) a w:=by intro jG h1 h2 hw hx;simp only[List.map_cons,wpOps,ho,hw,Bool.false_eq_true,if_false];refine ih _ Z ψ _ w hl hx ?_;rw[jl,dD,h1,h2];exact j.skip YL up
  rw[bJ]at hx;simp only[Bool.false_eq_true,if_false]at hx
  split at hx
  ·rename_i hg;exact runs st rfl rfl (by simp[Region.wanted,hg]) hx
  ·rename_i jj want hg
   split at hx
   ·cases hx
   ·rename_i d hd
    split at hx
    ·rename_i t ht;have hw:=Ee j.tr hg hd ht;have hp:∀b,t=b→look (st.put (some d) (.bool b)).tmps=look st.tmps:=fun b hb=>by subst hb;rw[jl];exact HR ht
     cases t<;>simp only[cond_true,cond_false]at hx<;>split at hx<;>rename_i Eh
     ·exact yz _ (hp false rfl) (dD _ _ _) (by simp_all) hx
     ·exact runs _ (hp false rfl) (dD _ _ _) (by simp_all) hx
     ·exact runs _ (hp true rfl) (dD _ _ _) (by simp_all) hx
     ·exact yz _ (hp true rfl) (dD _ _ _) (by simp_all) hx
    ·rename_i vs ht;exact yz st rfl rfl (BX j.tr hg hd ht) hx
    ·cases hx
theorem lO(hp h:Heap)(i:Nat):∀(ft:List Nat),(fU ft hp h).get i=if i∈ft then(match hp.get i with|some o=>some o|none=>h.get i) else h.get i
 |[]=>by simp[fU]
 |j::r=>by
  have ih:=lO hp h i r;unfold fU at ih ⊢
  cases hj:hp.get j with
  |none =>
   rw[List.filterMap_cons,hj];simp only[Option.map_none];rw[ih];by_cases e:i=j
   ·subst e;simp[hj]
   ·simp[e]
  |some o =>
   rw[List.filterMap_cons,hj];simp only[Option.map_some,List.cons_append,Heap.get];rw[ih];by_cases e:j=i
   ·subst e;simp[hj]
   ·have e':¬i=j:=fun h=>e h.symm;simp[e,e']
mutual
theorem BY{ft:List Nat}:∀{v:AV},tE ft v=true→aM (fun i=>i∉ft) v
 |.ref id _ _ _,h=>by simp only[aM];simpa[tE] using h
 |.bO id,h=>by simp only[aM];simpa[tE] using h
 |.fn _ cap,h=>by simp only[aM];exact lP (by simpa only[tE] using h)
 |.agg cs,h=>by simp only[aM];exact lP (by simpa only[tE] using h)
 |.pC vs,h=>by simp only[aM];exact lP (by simpa only[tE] using h)
 |.no,_=>by simp only[aM]
 |.bool _,_=>by simp only[aM]
 |.int _ _,_=>by simp only[aM]
 |.str _,_=>by simp only[aM]
 |.mA,_=>by simp only[aM]
 |.gq,_=>by simp only[aM]
 |.fp _ _ _,_=>by simp only[aM]
 |.sl _ _ _,_=>by simp only[aM]
 |.mp _ _ _,_=>by simp only[aM]
theorem lP{ft:List Nat}:∀{l:List AV},w9 ft l=true→aF (fun i=>i∉ft) l
 |[],_=>by simp only[aF]
 |v::r,h=>by simp only[w9,Bool.and_eq_true]at h;simp only[aF];exact⟨BY h.1,lP h.2⟩
end
theorem lQ{ft:List Nat}:∀{hh:Heap},xc ft hh=true→∀i o,hh.get i=some o→i∉ft∧∀ty cs,o=.box ty cs→aF (fun i=>i∉ft) cs
 |[],_,i,o,h=>by simp[Heap.get]at h
 |(j,.box ty cs)::r,hc,i,o,h=>by
  simp only[xc,Bool.and_eq_true]at hc;simp only[Heap.get]at h
  split at h
  ·rename_i e;subst e;cases h;exact⟨by simpa using hc.1,fun ty cs e=>by cases e;exact lP hc.2.1⟩
  ·exact lQ hc.2.2 i o h
 |(j,.own ok x)::r,hc,i,o,h=>by
  simp only[xc,Bool.and_eq_true]at hc;simp only[Heap.get]at h
  split at h
  ·rename_i e;subst e;cases h;exact⟨by simpa using hc.1,fun ty cs e=>by cases e⟩
  ·exact lQ hc.2 i o h
theorem Next.frame{hp h1:Heap}{ft:List Nat}(g:Good Z ψ hp.get w B0 O)(hB:B0≤w.heap.size)(bm:∀i ty cs,hp.get i=some (.box ty cs)→aF (fun i=>¬N i) cs) (n:Next Z ψ (jc hp ft).get w w.heap.size (Own ψ (jc hp ft).get) N Z' ψ' h1.get w') (hc:xc ft h1=true) :
  ∃fg,Next Z ψ hp.get w B0 O N Z' fg (fU ft hp h1).get w'∧∀i,i∉ft→fg i=ψ' i:=by
 classical
 have gd:∀i,(jc hp ft).get i=if i∈ft then none else hp.get i:=fun i=>ql ft hp i
 have br:∀b,Own ψ (jc hp ft).get b→Own ψ hp.get b:=fun b ⟨i,h1,h2⟩=>⟨i,by simp_all,h2⟩;have ta:∀i,i∈ft→h1.get i=none:=fun i hi=>by
  cases e:h1.get i with
  |none=>rfl
  |some o=>grind [absurd,lQ]
 have gf:∀i,(fU ft hp h1).get i=if i∈ft then hp.get i else h1.get i:=fun i=>by
  rw[lO]
  grind
 let fg:Nat→Value:=fun i=>if i∈ft then ψ i else ψ' i
 have p1:∀i,i∈ft→fg i=ψ i:=fun i hi=>if_pos hi;have p2:∀i,i∉ft→fg i=ψ' i:=fun i hi=>if_neg hi;have apart:∀i b,i∈ft→hp.get i≠none→ob (ψ i)=some b→¬Own ψ (jc hp ft).get b:=fun i b hi h2 h3 ⟨j,h4,h5⟩=>by
  rw[gd]at h4
  split at h4
  ·exact h4 rfl
  ·rename_i hj;have:=g.apart i j b h2 h4 h3 h5;simp_all
 have dJ:∀i b,i∈ft→hp.get i≠none→ob (ψ i)=some b→w'.heap[b]? = w.heap[b]? := fun i b hi h2 h3 =>n.keep.block b (g.bT ⟨i,h2,h3⟩) (apart i b hi h2 h3);have keep:dg ψ hp.get w w':=⟨n.keep.os,n.keep.tape,n.keep.output,n.keep.size,fun b hb hn=>n.keep.block b hb fun ho=>hn (br b ho)⟩;have sm:cG Z w w':=keep.same g;have ids:∀i,(fU ft hp h1).get i≠none→(hp.get i≠none∧fg i=ψ i)∨N i:=fun i hi=>by
  rw[gf]at hi;by_cases hf:i∈ft
  ·simp_all
  ·rw[if_neg hf]at hi;rcases n.ids i hi with⟨h2,h3⟩|h2
   ·simp_all
   simp_all
 have nz:∀i b,i∈ft→hp.get i≠none→ob (ψ i)=some b→¬Z' b:=fun i b hi h2 h3 hz=>by
  rcases n.fq b hz with h4|h4|h4
  ·exact(g.live i b h2 h3).1 h4
  ·grind
  ·have:=g.bT ⟨i,h2,h3⟩;omega
 refine⟨fg,⟨n.g9,fun b hb=>(n.fq b hb).imp (fun h=>h) (fun h=>h.imp (br b) fun h=>h),keep,ids,⟨fun i ty cs hb=>?_,fun i ok x hb=>?_,fun i b h2 h3=>?_,fun i j b h2 h3 h4 h5=>?_,n.du.kO⟩⟩,p2⟩
 ·rw[gf]at hb;by_cases hf:i∈ft
  ·rw[if_pos hf]at hb;obtain⟨gg,vs,e1,e2,e3,e4⟩:=g.box i ty cs hb;refine⟨gg,vs,by simp_all,(dJ i gg hf (by rw[hb];simp) (by rw[e1];rfl)).trans e2,e3.move n.g9 sm (fun j hj bA=>(ids j bA).resolve_right hj) (bm i ty cs hb),e4⟩
  ·rw[if_neg hf]at hb;obtain⟨gg,vs,e1,e2,e3,e4⟩:=n.du.box i ty cs hb;refine⟨gg,vs,by simp_all,e2,e3.move (fun _ h=>h) (cG.refl _ _) (fun j hj bA=>?_) ((lQ hc i _ hb).2 ty cs rfl),e4⟩;simp_all
 ·rw[gf]at hb;by_cases hf:i∈ft
  ·rw[if_pos hf]at hb;rw[p1 i hf];exact(g.row i ok x hb).kept n.g9 sm (fun b pT=>dJ i b hf (by rw[hb];simp) pT)
  ·rw[if_neg hf]at hb;rw[p2 i hf];exact n.du.row i ok x hb
 ·rw[gf]at h2;by_cases hf:i∈ft
  ·rw[if_pos hf]at h2;rw[p1 i hf]at h3;exact⟨nz i b hf h2 h3,(g.live i b h2 h3).2⟩
  ·rw[if_neg hf]at h2;rw[p2 i hf]at h3;obtain⟨h4,h5⟩:=n.du.live i b h2 h3;refine⟨h4,h5.elim (fun h=>.inl (acR hB h)) fun h=>?_⟩;obtain⟨j,h6,h7⟩:=br b h;exact(g.live j b h6 h7).2
 ·have mixed:∀i j b,i∈ft→j∉ft→(fU ft hp h1).get i≠none→(fU ft hp h1).get j≠none→ob (fg i)=some b→ob (fg j)=some b→False:=fun i j b hi hj h2 h3 h4 h5=>by
   rw[gf,if_pos hi]at h2;rw[gf,if_neg hj]at h3;rw[p1 i hi]at h4;rw[p2 j hj]at h5;rcases (n.du.live j b h3 h5).2 with h6|h6
   ·have:=g.bT ⟨i,h2,h4⟩;omega
   grind
  by_cases hi:i∈ft<;>by_cases hj:j∈ft
  ·rw[gf,if_pos hi]at h2;rw[gf,if_pos hj]at h3;rw[p1 i hi]at h4;rw[p1 j hj]at h5;exact g.apart i j b h2 h3 h4 h5
  ·grind
  ·grind
  ·rw[gf,if_neg hi]at h2;rw[gf,if_neg hj]at h3;rw[p2 i hi]at h4;rw[p2 j hj]at h5;exact n.du.apart i j b h2 h3 h4 h5
theorem J.opF(E:Env P Eqs Sg F){rid n i:Nat}{p:Nat→Prop}{T:Nat→AV}{a:Act}{s:List (Nat×AV)}{o:Oper}(hS:makes o.op=true→∀id,p id→¬Of rid i id){hp h1:Heap}{v:AV}{ft:List Nat}(j:J p n Z0 w0 O ψ0 Z ψ T hp.get a w)(hd:jB n o=true) (hT:∀x∈o.op.operands,aD Z ψ hp.get w (ρ s x) (a.eval x)) (hTm:∀x∈o.op.operands,aM p (ρ s x)) (he:dq P Eqs Sg F (opId rid i) (jc hp ft) s o some=some (.wr v h1)) (hc:nt ft (.wr v h1)=true) {p':Nat→Prop} (T4:∀k,p k→p' k) (hv:aM p' v) (hh':wz p' (fU ft hp h1).get) {next:Act→World→Prop} {Q:Exit→Act→World→Prop} (hk:∀a' w' Z' ψ',J p' n Z0 w0 O ψ0 Z' ψ' (jk T o.dst v) (fU ft hp h1).get a' w'→next a' w'):o.wp P a w next Q:=by
 have nof:∀id,p id→¬(makes o.op=true∧Of rid i id):=fun id h ⟨h1,h2⟩=>hS h1 id h h2;simp only[nt,Bool.and_eq_true]at hc;have br:∀id o,(jc hp ft).get id=some o→hp.get id=some o:=fun id o h=>by grind [ql]
 have bA:∀id,(jc hp ft).get id≠none→hp.get id≠none:=fun id h=>by obtain⟨o,ho⟩:=abP.1 h;simp_all
 have bm:∀i' ty cs,hp.get i'=some (.box ty cs)→aF (fun id=>¬(makes o.op=true∧Of rid i id)) cs:=fun id ty cs hb=>(j.hm id ty cs hb).imp nof;have gs:Good Z ψ (jc hp ft).get w w.heap.size (Own ψ (jc hp ft).get):=(j.ok.du.sub br).Js _;refine aa9 (N:=fun id=>makes o.op=true∧Of rid i id) E gs (abX _) (fun _ _ h=>h) (id:=opId rid i) (fun hm k hk=>⟨hm,P8 hk⟩) (fun x hx=>(hT x hx).pJ br) (fun x hx=>(hTm x hx).imp nof) (fun id ty cs hb=>bm id ty cs (br _ _ hb)) (fun _ _ _=>rfl) he fun V w' Z' ψ' nx hr=>?_;obtain⟨fg,n2,h2⟩:=Next.frame j.ok.du j.ok.size bm nx hc.2;have YM:aD Z' fg (fU ft hp h1).get w' v V:=hr.move (p:=fun i=>i∉ft) (fun _ h=>h) (cG.refl _ _) (fun k hk bA=>by rw[lO,if_neg hk]at bA;exact⟨bA,h2 k hk⟩) (BY hc.1);refine hk _ w' Z' fg ⟨j.ok.next (fun id h=>by grind [Of]) n2,(j.tr.next j.ok.du n2 (fun d=>(j.tm d).imp nof)).put hd YM,fun d=>?_,hh'⟩
 cases oE:o.dst with
 |none=>exact(j.tm d).imp T4
 |some d0 =>
  simp only[jk,eI]
  split
  ·exact hv
  ·exact(j.tm d).imp T4
end Go.Vs
namespace Go.Vs
variable {P:Program} {Eqs:TypeId→Option K} {Sg:FuncId→Option aO} {F:(f:FuncId)→(g:aO)→g.A→Option g.B} {R:Type}
variable {Z Z' Z0:Nat→Prop} {ψ ψ':Nat→Value} {h h':Hp} {w w' w0:World} {B0:Nat} {O N:Nat→Prop}
variable {rid n:Nat} {ops:Array Oper} {b:Array Nat}
def vh(b:Array Nat)(i j:Nat):Prop:=(b.getD i 0).testBit j=true
theorem HT(b:Array Nat)(j:Nat):∀(l:List Edge) (s:Nat),(l.foldl (fun s e=>if Region.binds .any e then s ||| 2 ^ e.on ||| b.getD e.on 0 else s) s).testBit j=true ↔
  s.testBit j=true∨∃e∈l,Region.binds .any e=true∧(j=e.on∨vh b e.on j)
 |[],s=>by simp
 |e::l,s=>by
  rw[List.foldl_cons,HT b j l];by_cases hb:Region.binds .any e=true
  ·rw[if_pos hb];have h2:(2 ^ e.on).testBit j=true↔j=e.on:=by grind
   simp only[Nat.testBit_or,Bool.or_eq_true,h2,List.mem_cons,exists_eq_or_imp,hb,true_and,vh]
   grind
  simp_all
theorem CZ(hb:xZ ops b=true){i j:Nat}{o:Oper}(ho:ops[i]? = some o):vh b i j↔∃e∈o.after.toList,Region.binds .any e=true∧(j=e.on∨vh b e.on j):=by have aG:=(abB.1 ho).1;have h1:=ac2.1 hb i (ac7.2 aG);rw[ho]at h1;simp only[Bool.and_eq_true,beq_iff_eq]at h1;unfold vh;rw[h1.2,HT];simp[vh]
theorem Ov(hb:xZ ops b=true){i:Nat}{o:Oper}(ho:ops[i]? = some o){e:Edge}(he:e∈o.after.toList)(T3:Region.binds .any e=true):e.on<i:=by
 have aG:=(abB.1 ho).1;have h1:=ac2.1 hb i (ac7.2 aG)
 grind
theorem Ei(hb:xZ ops b=true):∀(i j:Nat),i<ops.size→vh b i j→j<i:=by
 intro i
 induction i using Nat.strongRecOn with
 |ind i ih =>
  intro j hi h;obtain⟨e,he,T3,h1⟩:=(CZ hb (acQ hi)).1 h;have hon:=Ov hb (acQ hi) he T3
  grind
theorem HU(hb:xZ ops b=true):∀(i j k:Nat),i<ops.size→vh b i j→vh b j k→vh b i k:=by
 intro i
 induction i using Nat.strongRecOn with
 |ind i ih =>
  intro j k hi h h';obtain⟨e,he,T3,h1⟩:=(CZ hb (acQ hi)).1 h;have hon:=Ov hb (acQ hi) he T3;refine(CZ hb (acQ hi)).2 ⟨e,he,T3,?_⟩
  grind
theorem get_filter(f:Nat→Bool):∀(hh:Heap) (i:Nat),Heap.get (hh.filter fun p=>f p.1) i=if f i then hh.get i else none
 |[],i=>by simp[Heap.get]
 |(j,o)::r,i=>by
  rw[List.filter_cons]
  split
  ·rename_i hj;simp only[Heap.get];by_cases e:j=i
   ·simp_all
   simp_all [if_neg,get_filter]
  ·rename_i hj;rw[get_filter f r i];simp only[Heap.get]
   grind
theorem SB(rid NW:Nat)(hh:Heap)(id:Nat):(ahead rid NW hh).get id=if vQ rid NW id then hh.get id else none:=by unfold ahead;exact get_filter (fun i=>vQ rid NW i) hh id
theorem Lu(ft:List Nat)(hp:Heap)(e:bD):(iV ft hp e).v=e.v:=by cases e<;>rfl
theorem Lv{id:Nat}{hh:Heap}{s:List (Nat×AV)}{o:Oper}{x:Operand}{e:bD}(hl:jA o.op=some x)(he:dq P Eqs Sg F id hh s o some=some e):∃v,e=.val v:=by
 obtain⟨dst,op,type,pos,after,guard⟩:=o
 cases op<;>simp only[jA]at hl<;>first|simp_all|skip
 case load t a =>
  simp only[dq,nq]at he
  grind [Option.some.inj,Option.bind_eq_some_iff]
 case indexAddr t a i =>
  simp only[dq,dZ,jy]at he
  repeat' (first|(cases he;done)|exact⟨_,(acP he).symm⟩|split at he)
  all_goals first
   |grind [Option.bind_eq_some_iff,Option.some.inj]
   |grind
theorem AJ{op:Op}{x:Operand}(hl:jA op=some x):pH op=false∧CL op=false:=by cases op<;>simp only[jA]at hl<;>first|(cases hl;done)|exact⟨rfl,rfl⟩
theorem Ow{id:Nat}{hh h2:Heap}{s:List (Nat×AV)}{o:Oper}{x:Operand}(hl:jA o.op=some x)(hg:∀i∈lD (ρ s x),h2.get i=hh.get i):dq P Eqs Sg F id h2 s o some=dq P Eqs Sg F id hh s o some:=by
 obtain⟨dst,op,type,pos,after,guard⟩:=o
 cases op<;>simp only[jA]at hl<;>first|(cases hl;done)|skip
 case load t a =>
  cases hl
  simp only[dq,nq]
  cases hv:ρ s x with
  |ref i s' j off=>rw[hv]at hg;simp only[lD,List.mem_singleton,forall_eq]at hg;simp only[hg]
  |_=>rfl
 case indexAddr t a i =>
  cases hl
  simp only[dq,dZ]
  cases tp P t with
  |none=>rfl
  |some e =>
   simp only[]
   cases hv:ρ s x with
   |bO k =>
    rw[hv]at hg;have q7:=hg k (by simp[lD])
    cases ρ s i<;>first|rfl|simp only[q7]
   |sl ex k xs=>cases ρ s i<;>rfl
   |_=>rfl
def sO(ops:Array Oper)(T:Nat→AV)(o:Oper)(t:Bool):Prop :=match o.guard with
 |none=>t=true
 |some (j,want)=>∃d,(ops[j]?).bind (·.dst)=some d∧((∃u,T d=.bool u∧(u==want)=t)∨(∃vs,T d=.pC vs∧t=false))
def Ej(P:Program)(Eqs:TypeId→Option K)(Sg:FuncId→Option aO)(F:(f:FuncId)→(g:aO)→g.A→Option g.B)(rid:Nat)(ops:Array Oper)(b:Array Nat)(T:Nat→Nat→AV)(H:Nat→Hp)(E:Nat→Option bD)(k:Nat)(o:Oper):Prop :=(∃e s hh,E k=some e∧look s=T k∧(∀id,Heap.get hh id=if vQ rid (b.getD k 0) id then H k id else none)∧(∃e0,dq P Eqs Sg F (opId rid k) (jc hh (iU ops b k s o)) s o some=some e0∧e=iV (iU ops b k s o) hh e0∧nt (iU ops b k s o) e0=true) ∧
  iR true rid ops b k (b.getD k 0) e=true∧sO ops (T k) o true∧T (k+1)=jk (T k) o.dst e.v∧H (k+1)=e.hp (H k)) ∨
 (E k=none∧sO ops (T k) o false∧T (k+1)=jk (T k) o.dst (.pC [])∧H (k+1)=H k)
theorem trace{kk:St→Option R}{r:R}:∀(l:List (Nat×Oper)) (i:Nat) (st:St),Ef ops i l→l.length=ops.size-i→bJ P Eqs Sg F rid true ops b l st kk=some r → ∃(T:Nat→Nat→AV) (H:Nat→Hp) (E:Nat→Option bD),T i=look st.tmps∧H i=st.heap.get∧(∀k o,i≤k→ops[k]? = some o→Ej P Eqs Sg F rid ops b T H E k o) ∧ ∃fB,kk fB=some r∧look fB.tmps=T (max i ops.size)∧fB.heap.get=H (max i ops.size)
 |[],i,st,_,hlen,hx=>by
  have Jl:ops.size≤i:=by grind
  refine⟨fun _=>look st.tmps,fun _=>st.heap.get,fun _=>none,rfl,rfl,fun k o hk ho=>?_,st,hx,rfl,rfl⟩
  grind
 |(i',o)::l,i,st,hl,hlen,hx=>by
  obtain⟨rfl,ho,hl⟩:=hl;have aG:=(abB.1 ho).1;have ih:=trace (kk:=kk) (r:=r) l (i'+1);have afJ:l.length=ops.size-(i'+1):=by grind
  have glue:∀(fB:St) (oe:Option bD),bJ P Eqs Sg F rid true ops b l fB kk=some r →(∀T H E,T i'=look st.tmps→H i'=st.heap.get→E i'=oe→T (i'+1)=look fB.tmps→H (i'+1)=fB.heap.get→Ej P Eqs Sg F rid ops b T H E i' o) → ∃(T:Nat→Nat→AV) (H:Nat→Hp) (E:Nat→Option bD),T i'=look st.tmps∧H i'=st.heap.get∧(∀k o,i'≤k→ops[k]? = some o→Ej P Eqs Sg F rid ops b T H E k o) ∧ ∃fB,kk fB=some r∧look fB.tmps=T (max i' ops.size)∧fB.heap.get=H (max i' ops.size):=by
   intro fB oe Us BH;obtain⟨T,H,E,h1,h2,h3,akV,h4,h5,h6⟩:=ih fB hl afJ Us;refine⟨fun k=>if k≤i' then look st.tmps else T k,fun k=>if k≤i' then st.heap.get else H k,fun k=>if k=i' then oe else E k,by simp,by simp,fun k o' hk mC => ?_,akV,h4,?_,?_⟩
   ·by_cases hki:k=i'
    ·grind
    ·have h7:=h3 k o' (by omega) mC;unfold Ej at h7 ⊢;simp only[show ¬k≤i' by omega,show ¬k+1≤i' by omega,hki,if_false];exact h7
   ·grind
   grind
  have runs:∀jG:St,look jG.tmps=look st.tmps→jG.heap=st.heap→sO ops (look st.tmps) o true →(dq P Eqs Sg F (opId rid i') (jc (ahead rid (b.getD i' 0) jG.heap) (iU ops b i' jG.tmps o)) jG.tmps o fun e=>if(iR true rid ops b i' (b.getD i' 0) (iV (iU ops b i' jG.tmps o) (ahead rid (b.getD i' 0) jG.heap) e)&&nt (iU ops b i' jG.tmps o) e)=true then bJ P Eqs Sg F rid true ops b l ({ jG with heap:=match iV (iU ops b i' jG.tmps o) (ahead rid (b.getD i' 0) jG.heap) e with | .wr _ h=>h|e=>e.h jG.heap }.put o.dst e.v) kk else none)=some r →
    ∃(T:Nat→Nat→AV) (H:Nat→Hp) (E:Nat→Option bD),T i'=look st.tmps∧H i'=st.heap.get∧(∀k o,i'≤k→ops[k]? = some o→Ej P Eqs Sg F rid ops b T H E k o) ∧ ∃fB,kk fB=some r∧look fB.tmps=T (max i' ops.size)∧fB.heap.get=H (max i' ops.size):=by
   intro jG h1 h2 hw hx;rw[mW]at hx;obtain⟨e,he,hx⟩:=acY.1 hx
   split at hx
   ·rename_i ly;rw[Bool.and_eq_true]at ly;generalize Ek:iV (iU ops b i' jG.tmps o) (ahead rid (b.getD i' 0) jG.heap) e=e1 at hx ly;have Ax:e.v=e1.v:=by grind [Lu]
    refine glue _ (some e1) hx fun T H E hT hH hE hT' hH' => ?_;refine .inl ⟨e1,jG.tmps,_,hE,by rw[hT,h1],fun id=>by rw[SB,hH,h2],⟨e,he,Ek.symm,ly.2⟩,ly.1,by grind,?_,?_⟩
    ·grind [jl]
    ·rw[hH',dD,hH];have:(bD.heap e1 jG.heap).get=e1.hp st.heap.get:=by rw[bD.Lr,h2]
     exact this
   ·cases hx
  have yz:∀jG:St,look jG.tmps=look st.tmps→jG.heap=st.heap→sO ops (look st.tmps) o false → bJ P Eqs Sg F rid true ops b l (jG.put o.dst (.pC [])) kk=some r → ∃(T:Nat→Nat→AV) (H:Nat→Hp) (E:Nat→Option bD),T i'=look st.tmps∧H i'=st.heap.get∧(∀k o,i'≤k→ops[k]? = some o→Ej P Eqs Sg F rid ops b T H E k o) ∧ ∃fB,kk fB=some r∧look fB.tmps=T (max i' ops.size)∧fB.heap.get=H (max i' ops.size):=by
   intro jG h1 h2 hw hx;refine glue _ none hx fun T H E hT hH hE hT' hH'=>.inr ⟨hE,by grind,?_,?_⟩
   ·grind [jl]
   grind [dD]
  rw[bJ]at hx;simp only[if_true]at hx
  split at hx
  ·rename_i hg;exact runs st rfl rfl (by simp[sO,hg]) hx
  ·rename_i jj want hg
   split at hx
   ·cases hx
   ·rename_i d hd
    split at hx
    ·rename_i t ht;have hp:∀b,t=b→look (st.put (some d) (.bool b)).tmps=look st.tmps:=fun b hb=>by subst hb;rw[jl];exact HR ht
     have hw:∀c,(t==want)=c→sO ops (look st.tmps) o c:=fun c hc=>by
      grind [sO]
     cases t<;>simp only[cond_true,cond_false]at hx<;>split at hx<;>rename_i Eh
     ·exact yz _ (hp false rfl) (dD _ _ _) (hw _ (by simp[Eh])) hx
     ·exact runs _ (hp false rfl) (dD _ _ _) (hw _ (by simp[Eh])) hx
     ·exact runs _ (hp true rfl) (dD _ _ _) (hw _ (by simp[Eh])) hx
     ·exact yz _ (hp true rfl) (dD _ _ _) (hw _ (by simp[Eh])) hx
    ·rename_i vs ht;exact yz st rfl rfl (by unfold sO;grind) hx
    ·cases hx
def Nf(ops:Array Oper)(j:Nat):Prop:=∃o,ops[j]? = some o∧pH o.op=false∧jA o.op=none
def El(E:Nat→Option bD)(k:Nat):Prop:=∃v h',E k=some (.wr v h')
def IsN(E:Nat→Option bD)(k:Nat):Prop:=∃v os,E k=some (.new v os)
theorem yC{α:Type}(f:α→Option Nat):∀(l:List α),cw (l.filterMap f)=true→∀(i j:Nat) (x y:α) (d:Nat),l[i]? = some x→l[j]? = some y→f x=some d→f y=some d→i=j
 |[],_,i,j,x,y,d,hi,_,_,_=>by simp at hi
 |a::r,hn,i,j,x,y,d,hi,hj,hx,hy=>by
  have kA:∀(k:Nat) (z:α),r[k]? = some z→f z=some d→d∈r.filterMap f:=fun k z hk hz=>aeT.2 ⟨z,abC hk,hz⟩;have hr:cw (r.filterMap f)=true∧∀c,f a=some c→c∉r.filterMap f:=by
   rw[List.filterMap_cons]at hn
   split at hn
   ·rename_i h0;exact⟨hn,fun c hc=>by rw[h0]at hc;cases hc⟩
   ·rename_i c h0;simp only[cw,Bool.and_eq_true,Bool.not_eq_true']at hn;refine⟨hn.2,fun c' hc=>?_⟩;rw[h0]at hc;cases hc;intro hm;rw[List.contains_iff_mem.2 hm]at hn;simp at hn
  cases i with
  |zero =>
   cases j with
   |zero=>rfl
   |succ j =>simp only[List.getElem?_cons_zero,Option.some.injEq]at hi;subst hi;exact absurd (kA j y (by simpa using hj) hy) (hr.2 d hx)
  |succ i =>
   cases j with
   |zero =>simp only[List.getElem?_cons_zero,Option.some.injEq]at hj;subst hj;exact absurd (kA i x (by simpa using hi) hx) (hr.2 d hy)
   |succ j=>rw[yC f r hr.1 i j x y d (by simpa using hi) (by simpa using hj) hx hy]
structure Dr(P:Program)(Eqs:TypeId→Option K)(Sg:FuncId→Option aO)(F:(f:FuncId)→(g:aO)→g.A→Option g.B)(rid n:Nat)(ops:Array Oper)(b:Array Nat)(T:Nat→Nat→AV)(H:Nat→Hp)(E:Nat→Option bD):Prop where
 size:ops.size≤128
 UZ:xZ ops b=true
 pair:DE ops b=true
 akX:∀(i:Nat) (o:Oper),ops[i]? = some o→jB n o=true
 nodup:cw (ops.toList.filterMap (·.dst))=true
 step:∀k o,ops[k]? = some o→Ej P Eqs Sg F rid ops b T H E k o
 akY:∀id,H 0 id≠none→id / 32768≠rid+1
section
variable {T:Nat→Nat→AV} {H:Nat→Hp} {E:Nat→Option bD}
theorem Dr.yD(D:Dr P Eqs Sg F rid n ops b T H E){i j:Nat}{x y:Oper}{d:Nat}(hi:ops[i]? = some x)(hj:ops[j]? = some y)(hx:x.dst=some d)(hy:y.dst=some d):i=j :=yC (·.dst) ops.toList D.nodup i j x y d (by simpa using hi) (by simpa using hj) hx hy
theorem Dr.abc(D:Dr P Eqs Sg F rid n ops b T H E){i j:Nat}{x y:Oper}(hi:ops[i]? = some x)(hj:ops[j]? = some y)(GG:i<j):vh b j i∨x.apart ops y=true:=by have h1:=ac2.1 D.pair j (ac7.2 (abB.1 hj).1);have h2:=ac2.1 h1 i (ac7.2 GG);rw[hi,hj]at h2;simp only[Bool.or_eq_true,Bool.and_eq_true]at h2;exact h2
theorem Dr.Zs(D:Dr P Eqs Sg F rid n ops b T H E){k:Nat}{o:Oper}(ho:ops[k]? = some o){e:bD}(he:E k=some e) :
  ∃s hh,look s=T k∧(∀id,Heap.get hh id=if vQ rid (b.getD k 0) id then H k id else none)∧(∃e0,dq P Eqs Sg F (opId rid k) (jc hh (iU ops b k s o)) s o some=some e0∧e=iV (iU ops b k s o) hh e0∧nt (iU ops b k s o) e0=true) ∧
   iR true rid ops b k (b.getD k 0) e=true∧sO ops (T k) o true∧T (k+1)=jk (T k) o.dst e.v∧H (k+1)=e.hp (H k):=by
 rcases D.step k o ho with⟨e',s,hh,h1,h2⟩|⟨h1,_⟩
 ·grind
 simp_all
theorem Dr.Jz(D:Dr P Eqs Sg F rid n ops b T H E){k:Nat}{o:Oper}(ho:ops[k]? = some o)(he:E k=none) :
  sO ops (T k) o false∧T (k+1)=jk (T k) o.dst (.pC [])∧H (k+1)=H k:=by
 rcases D.step k o ho with⟨e',s,hh,h1,h2⟩|⟨h1,h2⟩
 ·simp_all
 ·exact h2
theorem Dr.AK(D:Dr P Eqs Sg F rid n ops b T H E){k:Nat}(hk:k<ops.size)(h:IsN E k):Nf ops k:=by
 obtain⟨v,os,he⟩:=h;obtain⟨s,hh,_,_,⟨e0,h3,he0,_⟩,_⟩:=D.Zs (acQ hk) he;refine⟨_,acQ hk,?_,?_⟩
 ·cases hf:pH (ops[k]).op with
  |false=>rfl
  |true=>obtain⟨v',rfl⟩:=Lm hf h3;cases he0
 ·cases hf:jA (ops[k]).op with
  |none=>rfl
  |some x=>obtain⟨v',rfl⟩:=Lv hf h3;cases he0
theorem Dr.U3(D:Dr P Eqs Sg F rid n ops b T H E){k:Nat}(hk:k<ops.size)(h:El E k):Nf ops k:=by
 obtain⟨v,os,he⟩:=h;obtain⟨s,hh,_,_,⟨e0,h3,he0,_⟩,_⟩:=D.Zs (acQ hk) he;refine⟨_,acQ hk,?_,?_⟩
 ·cases hf:pH (ops[k]).op with
  |false=>rfl
  |true=>obtain⟨v',rfl⟩:=Lm hf h3;cases he0
 ·cases hf:jA (ops[k]).op with
  |none=>rfl
  |some x=>obtain⟨v',rfl⟩:=Lv hf h3;cases he0
theorem Dr.Em(D:Dr P Eqs Sg F rid n ops b T H E){k j:Nat}(hk:k<ops.size)(h:El E k)(hj:Nf ops j)(bA:j≠k):(j<k∧vh b k j)∨(k<j∧vh b j k):=by
 obtain⟨v,os,he⟩:=h;obtain⟨s,hh,_,_,_,h4,_⟩:=D.Zs (acQ hk) he;obtain⟨o,ho,hf,T2⟩:=hj;have GH:=(abB.1 ho).1;simp only[iR,Bool.and_eq_true]at h4;have h5:NV ops b k=true:=by simpa using h4.1.1
 have h6:=ac2.1 h5 j (ac7.2 GH);have hlf:qc ops k j=false:=by unfold qc KU;rw[ho];simp only[Option.bind_some,T2,Option.map_none]
 rw[hlf,ho]at h6;simp only[T2,Option.isSome_none,Bool.and_false,Bool.or_false]at h6;simp only[Bool.or_eq_true,beq_iff_eq,hf,Bool.false_eq_true,or_false]at h6;rcases h6 with(h6|h6)|h6
 ·exact absurd h6 bA
 ·exact .inr ⟨Ei D.UZ j k GH h6,h6⟩
 ·exact .inl ⟨Ei D.UZ k j hk h6,h6⟩
theorem Dr.En(D:Dr P Eqs Sg F rid n ops b T H E){p:Nat}:∀(q:Nat),p≤q→q≤ops.size→∀id,(∀k,p≤k→k<q→El E k→H (k+1) id=H k id)→(∀k,p≤k→k<q→IsN E k→¬Of rid k id)→H q id=H p id:=by
 intro q
 induction q with
 |zero=>simp_all
 |succ q ih =>
  intro Lb hq id hw bM;by_cases he:p=q+1
  ·rw[he]
  ·have h1:=ih (by omega) (by omega) id (fun k h1 h2=>hw k h1 (by omega)) (fun k h1 h2=>bM k h1 (by omega));rw[←h1];have ho:=acQ (show q<ops.size by omega)
   cases hE:E q with
   |none=>rw[(D.Jz ho hE).2.2]
   |some e =>
    obtain⟨s,hh,_,_,_,h4,_,_,h7⟩:=D.Zs ho hE
    cases e with
    |val v=>rw[h7];rfl
    |wr v h'=>exact hw q (by omega) (by omega) ⟨v,h',hE⟩
    |new v os =>
     rw[h7];simp only[bD.hp]
     cases hos:Heap.get os id with
     |none=>rfl
     |some o' =>
      exfalso;simp only[iR,Bool.and_eq_true]at h4;refine bM q (by omega) (by omega) ⟨v,os,hE⟩ ?_;have:∀(l:Heap),(l.all fun p=>p.1 / 256==(rid+1)*128+q)=true→∀o',l.get id=some o'→Of rid q id:=by
       intro l
       induction l with
       |nil=>grind [Heap.get]
       |cons a r ihl =>
        intro je o' hg;simp only[List.all_cons,Bool.and_eq_true,beq_iff_eq]at je;simp only[Heap.get]at hg
        split at hg
        ·rename_i e;rw[←e];exact je.1
        simp_all
      grind
theorem Dr.C0(D:Dr P Eqs Sg F rid n ops b T H E){p:Nat}(q:Nat)(Lb:p≤q)(hq:q≤ops.size)(hw:∀k,p≤k→k<q→¬El E k)(id:Nat)(hn:∀k,p≤k→k<q→IsN E k→¬Of rid k id):H q id=H p id :=D.En q Lb hq id (fun k h1 h2 h3=>absurd h3 (hw k h1 h2)) hn
theorem Dr.names(D:Dr P Eqs Sg F rid n ops b T H E):∀(k:Nat),k≤ops.size→∀id,H k id≠none→id / 32768=rid+1→∃j,Of rid j id∧j<k∧j<128∧(IsN E j∨∃w,w<k∧El E w∧(j=w∨vh b w j)):=by
 intro k
 induction k with
 |zero=>intro _ id h1 h2;exact absurd h2 (D.akY id h1)
 |succ k ih =>
  intro hk id h1 h2;have aG:k<ops.size:=by omega
  have up:H k id≠none→∃j,Of rid j id∧j<k+1∧j<128∧(IsN E j∨∃w,w<k+1∧El E w∧(j=w∨vh b w j)):=fun h=>by
   grind
  have ho:=acQ aG;have U4:=D.size
  cases hE:E k with
  |none=>rw[(D.Jz ho hE).2.2]at h1;exact up h1
  |some e =>
   obtain⟨s,hh,_,_,_,h4,_,_,h7⟩:=D.Zs ho hE;rw[h7]at h1
   cases e with
   |val v=>exact up h1
   |wr v h' =>
    obtain⟨o',mC⟩:=abP.1 h1;simp only[iR,Bool.and_eq_true]at h4;have h5:(b.getD k 0 ||| 2 ^ k).testBit (id / 256%128)=true:=(nO (S:=fun j=>(b.getD k 0 ||| 2 ^ k).testBit j=true) (fun j hj=>hj) h4.2 id o' mC).1 h2;rw[Nat.testBit_or,Bool.or_eq_true,Nat.testBit_two_pow]at h5;refine⟨id / 256%128,Of.of h2 rfl,?_,by omega,.inr ⟨k,by omega,⟨v,h',hE⟩,?_⟩⟩
    ·rcases h5 with h5|h5
     ·have:=Ei D.UZ k _ aG h5;omega
     simp_all
    ·rcases h5 with h5|h5
     ·exact .inr h5
     simp_all
   |new v os =>
    simp only[bD.hp]at h1
    cases hos:Heap.get os id with
    |none=>simp_all
    |some o' =>
     simp only[iR,Bool.and_eq_true]at h4;have:∀(l:Heap),(l.all fun p=>p.1 / 256==(rid+1)*128+k)=true→∀o',l.get id=some o'→Of rid k id:=by
      intro l
      induction l with
      |nil=>grind [Heap.get]
      |cons a r ihl =>
       intro je o' hg;simp only[List.all_cons,Bool.and_eq_true,beq_iff_eq]at je;simp only[Heap.get]at hg
       split at hg
       ·rename_i e;rw[←e];exact je.1
       simp_all
     exact⟨k,this os h4.1.2 o' hos,by omega,by omega,.inl ⟨v,os,hE⟩⟩
theorem Dr.ac1(D:Dr P Eqs Sg F rid n ops b T H E){q:Nat}(nP:q<ops.size)(hiw:El E q):∀id,H q id≠none→oD rid (vh b q) id:=fun id bA U5=>by
 obtain⟨j,h1,h2,h2',h3⟩:=D.names q (by omega) id bA U5;rw[(h1.parts h2').2];rcases h3 with h3|⟨w',h5,h6,h8⟩
 ·rcases D.Em nP hiw (D.AK (by omega) h3) (by omega) with⟨_,h9⟩|⟨h9,_⟩
  ·exact h9
  ·omega
 ·have hqw:vh b q w':=by
   rcases D.Em nP hiw (D.U3 (by omega) h6) (by omega) with⟨_,h9⟩|⟨h9,_⟩
   ·exact h9
   ·omega
  rcases h8 with rfl|h8
  ·exact hqw
  ·exact HU D.UZ q w' j nP hqw h8
theorem Dr.qp(D:Dr P Eqs Sg F rid n ops b T H E){d p:Nat}:∀(q:Nat),p≤q→q≤ops.size→(∀m o,p≤m→m<q→ops[m]? = some o→o.dst≠some d)→T q d=T p d
 |0,h,_,_=>by simp_all
 |q+1,h,hq,hm=>by
  by_cases e:p=q+1
  ·rw[e]
  ·have ho:=acQ (show q<ops.size by omega);have ih:=D.qp q (by omega) (by omega) fun m o h1 h2=>hm m o h1 (by omega);rw[←ih];have hd:=hm q _ (by omega) (by omega) ho;have key:∀v,jk (T q) (ops[q]).dst v d=T q d:=fun v=>by
    cases oE:(ops[q]).dst with
    |none=>rfl
    |some d' =>
     simp only[jk,eI]
     grind
   rcases D.step q _ ho with⟨e,s,hh,_,_,_,_,_,_,h7,_⟩|⟨_,_,h3,_⟩
   ·rw[h7,key]
   simp_all
theorem Dr.abe(D:Dr P Eqs Sg F rid n ops b T H E){i:Nat}(hi:i≤ops.size){x:Operand}{s:List (Nat×AV)}(hs:look s=T i){id:Nat}(bM:id∈lD (ρ s x)):id∈lD (ρ s (stepOf ops i x)):=by
 unfold stepOf
 split
 rotate_left
 ·exact bM
 rename_i d
 split
 rotate_left
 ·exact bM
 rename_i m hf
 split
 rotate_left
 ·exact bM
 rename_i o ho
 split
 rotate_left
 ·exact bM
 rename_i t e f P9
 split
 ·exact bM
 rename_i bA;obtain⟨hm,Ox,_⟩:=aeI.1 hf;have T5:m<i:=by rw[List.length_take]at hm;omega
 have hd:o.dst=some d:=by
  rw[List.getElem_take]at Ox;rw[Array.getElem?_eq_getElem (by omega)]at ho
  cases ho
  simpa using Ox
 have ta:∀(q:Nat) (o':Oper),m≤q→ops[q]? = some o'→o'.dst≠some e:=fun q o' hq h1 h2=>by obtain⟨h3,h4⟩:=abB.1 h1;exact bA (List.any_eq_true.2 ⟨q,ac7.2 h3,by rw[h1];simp[h2,hq]⟩)
 have e1:T i d=T (m+1) d:=D.qp i (by omega) hi fun q o' h1 h2 h3 h4=>by have:=D.yD h3 ho h4 hd;omega
 have e2:T i e=T m e:=D.qp i (by omega) hi fun q o' h1 _ h3=>ta q o' h1 h3;simp only[ρ,hs]at bM ⊢;rw[e1]at bM;rw[e2];rcases D.step m o ho with⟨ef,s',hh,_,Zt,_,⟨e0,h0,Ek,_⟩,_,_,h7,_⟩|⟨_,_,h3,_⟩
 ·rw[h7,hd]at bM;simp only[jk,bg]at bM;rw[Ek,Lu]at bM;obtain⟨dst,op,type,pos,after,guard⟩:=o;simp only at P9;subst P9;simp only[dq,ρ,Zt]at h0
  split at h0
  ·rename_i hx
   split at h0
   ·cases h0
   ·cases h0
    rw[hx];exact bM
  ·split at h0
   ·cases h0
   ·cases h0;cases bM
  ·cases h0
 ·rw[h3,hd]at bM;simp only[jk,bg,lD]at bM
  cases bM
theorem Dr.base(D:Dr P Eqs Sg F rid n ops b T H E){i:Nat}(hi:i≤ops.size){x:Operand}{s:List (Nat×AV)}(hs:look s=T i){id:Nat}(bM:id∈lD (ρ s x)):id∈lD (ρ s (NU ops i x)):=D.abe hi hs (D.abe hi hs bM)
theorem Dr.steady(D:Dr P Eqs Sg F rid n ops b T H E){i k:Nat}{o:Oper}{x:Operand}(ho:ops[i]? = some o)(hl:jA o.op=some x)(hk:k<ops.size)(hw:El E k)(bA:i≠k)(h1:¬vh b i k)(h2:¬vh b k i) {s:List (Nat×AV)} (hs:look s=T i) (SC:uP ops b i s o=false) {id:Nat} (bM:id∈lD (ρ s x)):H (k+1) id=H k id:=by
 have nP:=(abB.1 ho).1;obtain⟨v,h',hE⟩:=hw;have ly:=acQ hk;obtain⟨sk,hh,U6,hhh,⟨e0,he0,Ek,wh⟩,h4,_,_,h7⟩:=D.Zs ly hE;simp only[iR,Bool.and_eq_true]at h4;have h5:NV ops b k=true:=by simpa using h4.1.1
 have h6:=ac2.1 h5 i (ac7.2 nP);rw[ho,ly]at h6;have b1:(b.getD i 0).testBit k=false:=ac5.2 h1;have b2:(b.getD k 0).testBit i=false:=ac5.2 h2;have b3:(i==k)=false:=by simp[bA]
 simp only[b1,b2,b3,(AJ hl).1,Bool.false_or,Bool.and_eq_true]at h6;obtain⟨GS,h8⟩:=h6;have Qb:qc ops k i=true:=by
  simp only[Bool.or_eq_true,Bool.and_eq_true]at h8;rcases h8 with h8|⟨h8,_⟩
  ·exact h8
  unfold uP at SC;rw[hl]at SC;simp only[h8,Bool.true_and]at SC;have Jf:(lD (ρ s x)).isEmpty=false:=by cases hq:lD (ρ s x) with
   |nil=>rw[hq]at bM;cases bM
   |cons _ _=>rfl
  simp only[Jf,Bool.not_false,Bool.true_and,Bool.not_eq_false']at SC;have h9:=ac2.1 SC k (ac7.2 hk);rw[ly]at h9;have b4:(k==i)=false:=by simp[Ne.symm bA]
  simpa only[b1,b2,b4,GS,Bool.not_true,Bool.false_or] using h9
 have hft:iU ops b k sk ops[k]=acy ops b k sk:=by unfold iU;rw[if_pos GS]
 have hb:=D.base (by omega) hs bM;generalize hy:NU ops i x=y at hb;have oL:ρ sk y=ρ s y:=by
  cases y with
  |tmp d =>
   simp only[ρ,U6,hs];unfold qc KU at Qb;rw[ho]at Qb;simp only[Option.bind_some,hl,Option.map_some,hy]at Qb;have hm:∀m o',min k i≤m→m<max k i→ops[m]? = some o'→o'.dst≠some d:=fun m o' g1 g2 g3 hd=>by have g4:=ac2.1 Qb m (ac7.2 (by omega));rw[g3]at g4;simp[hd,g1,g2]at g4
   rcases Nat.lt_or_ge i k with g|g
   ·exact D.qp k (by omega) (by omega) fun m o' g1 g2=>hm m o' (by omega) (by omega)
   ·exact(D.qp i (by omega) (by omega) fun m o' g1 g2=>hm m o' (by omega) (by omega)).symm
  |_=>rfl
 have kA:id∈iU ops b k sk ops[k]:=by rw[hft];unfold acy;refine List.mem_flatMap.2 ⟨i,ac7.2 nP,?_⟩;unfold KU;rw[b1,b2,b3,ho];simp only[Bool.or_self,Bool.false_eq_true,if_false,Option.bind_some,hl,Option.map_some,hy];rw[oL];exact hb
 cases e0 with
 |val v0=>cases Ek
 |new v0 os=>cases Ek
 |wr v0 YD =>
  cases Ek
  simp only[nt,Bool.and_eq_true]at wh;have hn:YD.get id=none:=by
   cases e:YD.get id with
   |none=>rfl
   |some ob=>exact absurd kA (lQ wh.2 id ob e).1
  rw[h7];show(fU _ hh YD).get id=H k id;rw[lO,if_pos kA,hn,hhh id]
  cases ak0:H k id with
  |none=>simp
  |some ob =>
   have h8:=D.ac1 hk ⟨_,_,hE⟩ id (by rw[ak0];simp);have h9:vQ rid (b.getD k 0) id=true:=by
    unfold vQ;by_cases hr:id / 32768=rid+1
    ·have:=h8 hr;unfold vh at this;rw[this];simp
    ·simp[hr]
   rw[if_pos h9]
end
end Go.Vs
namespace Go.Vs
variable {P:Program} {Eqs:TypeId→Option K} {Sg:FuncId→Option aO} {F:(f:FuncId)→(g:aO)→g.A→Option g.B} {R:Type}
variable {Z Z' Z0:Nat→Prop} {ψ ψ' ψ0:Nat→Value} {h h':Hp} {w w' w0:World} {B0:Nat} {O N:Nat→Prop}
variable {rid n:Nat} {ops:Array Oper} {b:Array Nat} {T:Nat→Nat→AV} {H:Nat→Hp} {E:Nat→Option bD}
structure Dj(rid:Nat)(ops:Array Oper)(b:Array Nat)(T:Nat→Nat→AV)(H:Nat→Hp)(E:Nat→Option bD)(S:Nat→Prop)(Tc:Nat→AV)(h:Hp):Prop where
 lt:∀i,S i→i<ops.size
 closed:∀i j,S i→vh b i j→S j
 heap:∃q,q≤ops.size∧(∀k,k<q→El E k→S k)∧(q<ops.size→El E q∧¬S q)∧∀id,(oD rid S id→h id=H q id)∧(¬oD rid S id→h id=none)
 U7:∀j o d,S j→ops[j]? = some o→o.dst=some d→Tc d=T (j+1) d
 told:∀d,(∀j o,S j→ops[j]? = some o→o.dst≠some d)→Tc d=T 0 d
theorem Dr.U8(D:Dr P Eqs Sg F rid n ops b T H E){k:Nat}{o:Oper}(ho:ops[k]? = some o){d:Nat}(hd:o.dst≠some d):T (k+1) d=T k d:=by
 have:∀v,jk (T k) o.dst v d=T k d:=fun v=>by
  cases oE:o.dst with
  |none=>rfl
  |some d' =>
   simp only[jk,eI]
   grind
 rcases D.step k o ho with⟨e,s,hh,_,_,_,_,_,_,h7,_⟩|⟨_,_,h3,_⟩
 ·rw[h7,this]
 simp_all
theorem Dr.yE(D:Dr P Eqs Sg F rid n ops b T H E){d:Nat}:∀(i:Nat),i≤ops.size→(∀k o,k<i→ops[k]? = some o→o.dst≠some d)→T i d=T 0 d
 |0,_,_=>rfl
 |i+1,hi,hk=>by rw[D.U8 (Array.getElem?_eq_getElem (show i<ops.size by omega)) (hk i _ (by omega) (Array.getElem?_eq_getElem (by omega)))];exact D.yE i (by omega) fun k o h1 h2=>hk k o (by omega) h2
theorem Dr.JA(D:Dr P Eqs Sg F rid n ops b T H E){d j:Nat}{oj:Oper}(hj:ops[j]? = some oj)(hd:oj.dst=some d):∀(i:Nat),i≤ops.size→j<i→T i d=T (j+1) d
 |0,_,h=>by omega
 |i+1,hi,h=>by
  by_cases e:j=i
  ·rw[e]
  ·have ho:=acQ (show i<ops.size by omega);rw[D.U8 ho (fun hdi=>e (D.yD hj ho hd hdi))];exact D.JA hj hd i (by omega) (by omega)
theorem Dr.looks(D:Dr P Eqs Sg F rid n ops b T H E){S:Nat→Prop}{Tc:Nat→AV}(dj:Dj rid ops b T H E S Tc h){i:Nat}{o:Oper}(ho:ops[i]? = some o)(hS:¬S i)(hb:∀j,vh b i j→S j){d:Nat}(hd:d∈o.looksAt ops):Tc d=T i d:=by
 have hi:=(abB.1 ho).1;by_cases hex:∃(j:Nat) (oj:Oper),ops[j]? = some oj∧oj.dst=some d
 ·obtain⟨j,oj,hj,hdj⟩:=hex;have dJ:¬S j→Tc d=T 0 d:=fun hn=>dj.told d fun j' o' hs mC U9=>hn (by rw[D.yD hj mC hdj U9];exact hs);have UZ:i≤j→T i d=T 0 d:=fun GG=>D.yE i (by omega) fun k o' hk mC U9=>by have:=D.yD hj mC hdj U9;omega
  rcases Nat.lt_trichotomy j i with aG|rfl|Qc
  ·rcases D.abc hj ho aG with h1|h1
   ·rw[dj.U7 j oj d (hb j h1) hj hdj,D.JA hj hdj i (by omega) aG]
   grind [absurd,Oper.apart_spec]
  ·simp_all
  ·rcases D.abc ho hj Qc with h1|h1
   ·rw[dJ (fun hs=>hS (dj.closed j i hs h1)),UZ (by omega)]
   grind [absurd,Oper.apart_spec]
 ·rw[dj.told d fun j o' _ mC U9=>hex ⟨j,o',mC,U9⟩,D.yE i (by omega) fun k o' _ mC U9=>hex ⟨k,o',mC,U9⟩]
theorem Dr.Va{S:Nat→Prop}{Tc:Nat→AV}(D:Dr P Eqs Sg F rid n ops b T H E)(dj:Dj rid ops b T H E S Tc h){i:Nat}{o:Oper}(ho:ops[i]? = some o)(hS:¬S i){v:AV}(hv:T (i+1)=jk (T i) o.dst v) :
  (∀j o' d,(S j∨j=i)→ops[j]? = some o'→o'.dst=some d→jk Tc o.dst v d=T (j+1) d)∧(∀d,(∀j o',(S j∨j=i)→ops[j]? = some o'→o'.dst≠some d)→jk Tc o.dst v d=T 0 d):=by
 constructor
 ·intro j o' d hj mC hd;rcases hj with hj|rfl
  ·have bA:j≠i:=fun e=>hS (e▸hj);have:jk Tc o.dst v d=Tc d:=by
    cases oE:o.dst with
    |none=>rfl
    |some d' =>simp only[jk,eI];rw[if_neg];rintro rfl;exact bA (D.yD mC ho hd oE)
   rw[this];exact dj.U7 j o' d hj mC hd
  simp_all [jk,eI]
 ·intro d hd;have:jk Tc o.dst v d=Tc d:=by
   cases oE:o.dst with
   |none=>rfl
   |some d' =>
    simp only[jk,eI]
    grind
  rw[this];exact dj.told d fun j o' hj=>hd j o' (.inl hj)
theorem yG{i k id:Nat}(h1:Of rid i id)(h2:Of rid k id):i=k:=by grind [Of]
section
variable {S:Nat→Prop} {Tc:Nat→AV}
theorem Dr.calm(D:Dr P Eqs Sg F rid n ops b T H E)(dj:Dj rid ops b T H E S Tc h){i q:Nat}(hi:Nf ops i)(hS:¬S i)(hq:q≤ops.size)(hw:∀k,k<q→El E k→S k):∀k,i≤k→k<q→¬El E k:=by
 intro k hik hkq hk;have U6:=hw k hkq hk;have bA:i≠k:=fun e=>hS (e▸U6);rcases D.Em (by omega) hk hi bA with⟨_,h1⟩|⟨h1,_⟩
 ·exact hS (dj.closed k i U6 h1)
 ·omega
theorem Dr.seen(D:Dr P Eqs Sg F rid n ops b T H E)(dj:Dj rid ops b T H E S Tc h){i:Nat}(hi:Nf ops i)(hS:¬S i)(hb:∀j,vh b i j→S j){hh:Heap}(hhh:∀id,Heap.get hh id=if vQ rid (b.getD i 0) id then H i id else none) :
  ∀id o,hh.get id=some o→h id=some o:=by
 obtain⟨q,hq,hw,mr,mq⟩:=dj.heap;have nP:i<ops.size:=by obtain⟨o,ho,hf1,hf2⟩:=hi;grind
 have hiq:i≤q:=by
  rcases Nat.lt_or_ge q i with h1|h1
  ·obtain⟨h2,h3⟩:=mr (by omega);rcases D.Em (by omega) h2 hi (by omega) with⟨h4,_⟩|⟨_,h4⟩
   ·omega
   simp_all
  ·exact h1
 intro id o bM;rw[hhh]at bM
 split at bM
 ·rename_i ly;have sN:oD rid S id:=qm hb ly;rw[(mq id).1 sN,D.C0 q hiq hq (D.calm dj hi hS hq hw) id fun k hk _ _ ho=>?_,bM];have U5:=(ho.parts (by have:=D.size;omega)).1;obtain⟨j,h1,h2,_⟩:=D.names i (by omega) id (by rw[bM];simp) U5
  grind [yG]
 ·cases bM
theorem Dr.SD(D:Dr P Eqs Sg F rid n ops b T H E)(dj:Dj rid ops b T H E S Tc h){i:Nat}{o:Oper}{x:Operand}(ho:ops[i]? = some o)(hl:jA o.op=some x)(hS:¬S i)(hb:∀j,vh b i j→S j){s:List (Nat×AV)}(hs:look s=T i)(SC:uP ops b i s o=false) {hh:Heap} (hhh:∀id,Heap.get hh id=if vQ rid (b.getD i 0) id then H i id else none):∀id∈lD (ρ s x),∀ob,hh.get id=some ob→h id=some ob:=by
 obtain⟨q,hq,hw,mr,mq⟩:=dj.heap;have nP:=(abB.1 ho).1;have U4:=D.size;intro id bM ob pT;rw[hhh]at pT
 split at pT
 ·rename_i ly;have sN:oD rid S id:=qm hb ly;rw[(mq id).1 sN,←pT];rcases Nat.lt_or_ge q i with hqi|hiq
  ·obtain⟨h2,h3⟩:=mr (by omega);have later:∀k,q<k→k<ops.size→Nf ops k→vh b k q:=fun k h4 h5 h6=>by
    rcases D.Em (by omega) h2 h6 (by omega) with⟨h7,_⟩|⟨_,h7⟩
    ·omega
    ·exact h7
   have afN:∀k,q≤k→k<i→Nf ops k→¬S k:=fun k h4 h5 h6 hk=>by
    rcases Nat.eq_or_lt_of_le h4 with e|h7
    ·simp_all
    ·exact h3 (dj.closed k q hk (later k h7 (by omega) h6))
   symm
   refine D.En i (by omega) (by omega) id (fun k h4 h5 h6=>?_) (fun k h4 h5 h6 h7=>?_)
   ·have hns:=afN k h4 h5 (D.U3 (by omega) h6);exact D.steady ho hl (by omega) h6 (by omega) (fun Oy=>hns (hb k Oy)) (fun Oy=>by have:=Ei D.UZ k i (by omega) Oy;omega) hs SC bM
   ·have hns:=afN k h4 h5 (D.AK (by omega) h6);have h8:=h7.parts (show k<128 by omega);have h9:=sN h8.1;simp_all
  ·refine D.En q hiq hq id (fun k h4 h5 h6=>?_) (fun k h4 h5 h6 h7=>?_)
   ·have U6:=hw k h5 h6;have bA:i≠k:=fun e=>hS (e▸U6);exact D.steady ho hl (by omega) h6 bA (fun Oy=>by have:=Ei D.UZ i k nP Oy;omega) (fun Oy=>hS (dj.closed k i U6 Oy)) hs SC bM
   ·obtain⟨j,h8,h9,_⟩:=D.names i (by omega) id (by rw[pT];simp) (h7.parts (by omega)).1
    grind [yG]
 ·cases pT
theorem Vb(E:Nat→Option bD)(S:Nat→Prop)(m:Nat):∃q,q≤m∧(∀k,k<q→El E k→S k)∧(q<m→El E q∧¬S q):=by
 classical
 induction m with
 |zero=>simp_all
 |succ m ih =>
  grind
theorem JB{i id:Nat}(hi:i<128):oD rid (fun k=>S k∨k=i) id↔oD rid S id∨Of rid i id:=by
 constructor
 ·intro h1;by_cases hr:id / 32768=rid+1
  ·rcases h1 hr with h2|h2
   ·exact .inl fun _=>h2
   grind [Of.of]
  ·exact .inl fun h=>absurd h hr
 ·rintro(h1|h1) h2
  ·exact .inl (h1 h2)
  ·exact .inr (h1.parts hi).2
theorem Dr.Lw(D:Dr P Eqs Sg F rid n ops b T H E)(dj:Dj rid ops b T H E S Tc h){i:Nat}(nP:i<ops.size)(hS:¬S i)(hnn:¬IsN E i)(hnw:¬El E i) :
  ∃q,q≤ops.size∧(∀k,k<q→El E k→S k∨k=i)∧(q<ops.size→El E q∧¬(S q∨q=i))∧∀id,(oD rid (fun k=>S k∨k=i) id→h id=H q id)∧(¬oD rid (fun k=>S k∨k=i) id→h id=none):=by
 obtain⟨q,hq,hw,mr,mq⟩:=dj.heap;have U4:=D.size;refine⟨q,hq,fun k h1 h2=>.inl (hw k h1 h2),fun h1=>⟨(mr h1).1,fun h2=>h2.elim (mr h1).2 fun e=>hnw (e▸(mr h1).1)⟩,fun id=>⟨fun h1=>?_,fun h1=>(mq id).2 fun h2=>h1 ((JB (by omega)).2 (.inl h2))⟩⟩;rcases (JB (S:=S) (i:=i) (rid:=rid) (by omega)).1 h1 with h2|h2
 ·simp_all
 ·have hn:¬oD rid S id:=fun h3=>h3.Ed (by omega) hS h2;rw[(mq id).2 hn]
  symm
  apply Classical.not_not.1;intro bA;obtain⟨j,h3,_,_,h4⟩:=D.names q hq id bA (h2.parts (by omega)).1;have:=yG h3 h2;subst this;rcases h4 with h4|⟨w',h5,h6,h7|h7⟩
  ·exact hnn h4
  ·simp_all
  ·exact hS (dj.closed w' _ (hw w' h5 h6) h7)
theorem Zu{os:Heap}{i:Nat}(je:(os.all fun p=>p.1 / 256==(rid+1)*128+i)=true):∀id o,os.get id=some o→Of rid i id:=by
 induction os with
 |nil=>grind [id,Heap.get]
 |cons a r ih =>
  intro id o hg;simp only[List.all_cons,Bool.and_eq_true,beq_iff_eq]at je;simp only[Heap.get]at hg
  split at hg
  ·rename_i e;rw[←e];exact je.1
  simp_all
theorem Dr.Vc(D:Dr P Eqs Sg F rid n ops b T H E)(dj:Dj rid ops b T H E S Tc h){i:Nat}{o:Oper}(ho:ops[i]? = some o)(hS:¬S i)(hb:∀j,vh b i j→S j){v:AV}{os:Heap}(hE:E i=some (.new v os)) :
  ∃q,q≤ops.size∧(∀k,k<q→El E k→S k∨k=i)∧(q<ops.size→El E q∧¬(S q∨q=i))∧∀id,(oD rid (fun k=>S k∨k=i) id→(bD.new v os).hp h id=H q id)∧(¬oD rid (fun k=>S k∨k=i) id→(bD.new v os).hp h id=none):=by
 obtain⟨q,hq,hw,mr,mq⟩:=dj.heap;have U4:=D.size;have nP:=(abB.1 ho).1;have hnw:¬El E i:=fun⟨v',h',h1⟩=>by simp_all
 have hnf:=D.AK nP ⟨v,os,hE⟩;obtain⟨s,hh,_,_,_,h4,_,_,h7⟩:=D.Zs ho hE;simp only[iR,Bool.and_eq_true]at h4;have s8:=Zu (rid:=rid) h4.1.2;have hiq:i<q:=by
  rcases Nat.lt_or_ge i q with h1|h1
  ·exact h1
  ·obtain⟨h2,h3⟩:=mr (by omega);have bA:i≠q:=fun e=>hnw (e▸h2);rcases D.Em (by omega) h2 hnf bA with⟨h4,_⟩|⟨_,h4⟩
   ·omega
   simp_all
 refine⟨q,hq,fun k h1 h2=>.inl (hw k h1 h2),fun h1=>⟨(mr h1).1,fun h2=>h2.elim (mr h1).2 fun e=>hnw (e▸(mr h1).1)⟩,fun id=>⟨fun h1=>?_,fun h1=>?_⟩⟩
 ·simp only[bD.hp];by_cases h2:Of rid i id
  ·have hn:¬oD rid S id:=fun h3=>h3.Ed (by omega) hS h2;have e1:H i id=none:=Classical.not_not.1 fun bA=>by
    obtain⟨j,h3,h4,_⟩:=D.names i (by omega) id bA (h2.parts (by omega)).1
    grind [yG]
   have e2:H (i+1) id=Heap.get os id:=by
    grind [bD.hp,Heap.get,id]
   have e3:H q id=H (i+1) id:=D.C0 q hiq hq (fun k h3 h4=>D.calm dj hnf hS hq hw k (by omega) h4) id fun k h3 _ _ h5=>by
    grind [yG]
   grind
  grind [oD,id,JB,Heap.get,absurd]
 grind [oD,id,JB,Of,bD.hp,Heap.get,absurd]
theorem Dr.Zv(D:Dr P Eqs Sg F rid n ops b T H E)(dj:Dj rid ops b T H E S Tc h){i:Nat}{o:Oper}(ho:ops[i]? = some o)(hS:¬S i)(hb:∀j,vh b i j→S j){v:AV}{h':Heap}(hE:E i=some (.wr v h')) :
  (∀hh:Heap,(∀id,hh.get id=if vQ rid (b.getD i 0) id then H i id else none)→hh.get=h) ∧
  ∃q,q≤ops.size∧(∀k,k<q→El E k→S k∨k=i)∧(q<ops.size→El E q∧¬(S q∨q=i))∧∀id,(oD rid (fun k=>S k∨k=i) id→h'.get id=H q id)∧(¬oD rid (fun k=>S k∨k=i) id→h'.get id=none):=by
 obtain⟨q,hq,hw,mr,mq⟩:=dj.heap;have U4:=D.size;have nP:=(abB.1 ho).1;have hiw:El E i:=⟨v,h',hE⟩;have hnf:=D.U3 nP hiw;obtain⟨s,hh0,_,_,_,h4,_,_,h7⟩:=D.Zs ho hE;simp only[iR,Bool.and_eq_true]at h4;have hqi:q=i:=by
  rcases Nat.lt_trichotomy q i with h1|h1|h1
  ·obtain⟨h2,h3⟩:=mr (by omega);rcases D.Em nP hiw (D.U3 (by omega) h2) (by omega) with⟨_,h5⟩|⟨h5,_⟩
   ·simp_all
   ·omega
  ·exact h1
  simp_all
 subst hqi;have own:∀id,H q id≠none→oD rid (vh b q) id:=fun id bA U5=>by
  obtain⟨j,h1,h2,h2',h3⟩:=D.names q hq id bA U5;rw[(h1.parts h2').2];rcases h3 with h3|⟨w',h5,h6,h8⟩
  ·rcases D.Em nP hiw (D.AK (by omega) h3) (by omega) with⟨_,h9⟩|⟨h9,_⟩
   ·exact h9
   ·omega
  ·have hqw:vh b q w':=by
    rcases D.Em nP hiw (D.U3 (by omega) h6) (by omega) with⟨_,h9⟩|⟨h9,_⟩
    ·exact h9
    ·omega
   rcases h8 with rfl|h8
   ·exact hqw
   ·exact HU D.UZ q w' j nP hqw h8
 refine⟨fun hh hhh=>?_,?_⟩
 ·grind [id,oD,ob,vQ,vh]
 ·obtain⟨q',h1,h2,h3⟩:=Vb E (fun k=>S k∨k=q) ops.size;have Jl:q+1≤q':=by
   grind
  have e1:H (q+1)=h'.get:=by rw[h7];rfl
  have KI:∀j,(b.getD q 0 ||| 2 ^ q).testBit j=true→S j∨j=q:=fun j hj=>by rw[Nat.testBit_or,Bool.or_eq_true,Nat.testBit_two_pow]at hj;exact hj.imp (hb j) (fun h=>(of_decide_eq_true h).symm)
  refine⟨q',h1,h2,h3,fun id=>⟨fun h5=>?_,fun h5=>?_⟩⟩
  ·rw[D.C0 q' Jl h1 (fun k h6 h8 h9=>?_) id (fun k h6 h8 h9 q6=>?_),e1]
   ·have hk:=h2 k h8 h9;have U6:S k:=hk.resolve_right (by omega);rcases D.Em (by omega) h9 hnf (by omega) with⟨_,GB⟩|⟨GB,_⟩
    ·exact hS (dj.closed k q U6 GB)
    ·omega
   ·have hk:=h5 (q6.parts (by omega)).1;rw[(q6.parts (by omega)).2]at hk;have U6:S k:=hk.resolve_right (by omega);rcases D.Em nP hiw (D.AK (by omega) h9) (by omega) with⟨GB,_⟩|⟨_,GB⟩
    ·omega
    ·exact hS (dj.closed k q U6 GB)
  ·cases bM:h'.get id with
   |none=>rfl
   |some ob=>grind [absurd,nO,id,ob]
end
section
variable {S:Nat→Prop} {Tc:Nat→AV}
theorem GU{o:Oper}{d:Nat}(h:Operand.tmp d∈o.op.operands):d∈o.looksAt ops :=abr _ (aeT.2 ⟨.tmp d,by simpa using h,rfl⟩)
theorem Lx{o:Oper}{j d:Nat}{want:Bool}(hg:o.guard=some (j,want))(hd:(ops[j]?).bind (·.dst)=some d):d∈o.looksAt ops:=by
 grind [Oper.looksAt,List.mem_append_right]
theorem Dr.wanted(D:Dr P Eqs Sg F rid n ops b T H E)(dj:Dj rid ops b T H E S Tc h){a:Act}{i:Nat}{o:Oper}(ho:ops[i]? = some o)(hS:¬S i)(hb:∀j,vh b i j→S j)(t:dm Z ψ h w n Tc a){c:Bool}(hw:sO ops (T i) o c) :
  Region.wanted o (yielded ops a.tmps)=c:=by
 unfold sO at hw
 split at hw
 ·grind [Region.wanted]
 ·rename_i j want hg;obtain⟨d,hd,hc⟩:=hw;have e:=D.looks dj ho hS hb (Lx hg hd)
  grind [Ee,BX]
theorem Dr.Oz(D:Dr P Eqs Sg F rid n ops b T H E)(V:Env P Eqs Sg F){i:Nat}{o:Oper}{a:Act}(ho:ops[i]? = some o)(hS:¬S i)(hb:∀j,vh b i j→S j)(dj:Dj rid ops b T H E S Tc h)(j:J (oD rid S) n Z0 w0 O ψ0 Z ψ Tc h a w) {K:Act→World→Prop} {Q:Exit→Act→World→Prop} (hk:∀Tc' h' a' w' Z' ψ',Dj rid ops b T H E (fun k=>S k∨k=i) Tc' h'→J (oD rid fun k=>S k∨k=i) n Z0 w0 O ψ0 Z' ψ' Tc' h' a' w'→K a' w'):wpOp P ops Q i K a w:=by
 have nP:=(abB.1 ho).1;have U4:=D.size;have YL:=D.akX i o ho;have aG:∀k,(S k∨k=i)→k<ops.size:=fun k hk=>hk.elim (dj.lt k) (fun e=>e▸nP);have GD:∀k j,(S k∨k=i)→vh b k j→S j∨j=i:=fun k j hk hj=>.inl (hk.elim (fun h=>dj.closed k j h hj) (fun e=>hb j (e▸hj)));unfold wpOp;rw[ho];simp only[]
 cases hE:E i with
 |none =>obtain⟨h1,h2,h3⟩:=D.Jz ho hE;rw[D.wanted dj ho hS hb j.tr h1];simp only[Bool.false_eq_true,if_false];obtain⟨t1,t2⟩:=D.Va dj ho hS h2;refine hk _ h _ w Z ψ ⟨aG,GD,D.Lw dj nP hS (fun⟨v,os,h⟩=>by rw[hE]at h;cases h) (fun⟨v,os,h⟩=>by rw[hE]at h;cases h),t1,t2⟩ (j.skip YL fun id hp hr=>.inl (hp hr))
 |some e =>
  obtain⟨s,hh,h1,h2,h3,h4,h5,h6,h7⟩:=D.Zs ho hE;rw[D.wanted dj ho hS hb j.tr h5];simp only[if_true];refine .inl ?_;obtain⟨t1,t2⟩:=D.Va dj ho hS h6;have hT:∀x∈o.op.operands,aD Z ψ h w (ρ s x) (a.eval x)∧aM (oD rid S) (ρ s x):=fun x hx=>by
   cases x with
   |tmp d =>
    have e1:look s d=Tc d:=by rw[h1];exact(D.looks dj ho hS hb (GU hx)).symm
    simp only[ρ,e1];exact⟨j.tr.rep d,j.tm d⟩
   |const v=>exact⟨K0 v,Ec _ v⟩
   |global g=>exact⟨by simp only[ρ,aD],by simp only[ρ,aM]⟩
   |func f=>exact⟨by simp only[ρ,aD,az,Act.eval];exact⟨#[],rfl,rfl⟩,by simp only[ρ,aM,aF]⟩
  have rL:=Eg (hh:=[]) j.hm (fun k hk=>hb k hk) h4;obtain⟨e0,h3,Ek,wh⟩:=h3
  cases e0 with
  |wr v0 YD =>simp only[iV]at Ek;subst Ek;have nD:=D.Zv dj ho hS hb hE;have hhh:=nD.1 hh h2;subst hhh;refine J.opF V (rid:=rid) (i:=i) (fun _ id hp=>hp.Ed (by omega) hS) j YL (fun x hx=>(hT x hx).1) (fun x hx=>(hT x hx).2) h3 wh (p':=oD rid fun k=>S k∨k=i) (fun id hp hr=>.inl (hp hr)) rL.1 rL.2 fun a' w' Z' ψ' j' => ?_;exact hk _ _ a' w' Z' ψ' ⟨aG,GD,nD.2,t1,t2⟩ j'
  |val v0 =>
   simp only[iV]at Ek;subst Ek;have ak1:∃hh':Heap,(∀id o,hh'.get id=some o→h id=some o)∧dq P Eqs Sg F (opId rid i) hh' s o some=some (.val v0):=by
    cases hf:pH o.op with
    |true=>exact⟨[],fun id o h=>by simp[Heap.get]at h,by rw[Sw hf (h':=jc hh (iU ops b i s o))];exact h3⟩
    |false =>
     cases T2:jA o.op with
     |some x =>
      have SC:uP ops b i s o=false:=by
       cases hq:uP ops b i s o with
       |false=>rfl
       |true=>unfold iU at wh;rw[(AJ T2).2,hq]at wh;simp[nt]at wh
      have hft:iU ops b i s o=[]:=by unfold iU;rw[(AJ T2).2,SC];rfl
      rw[hft]at h3;have h3':dq P Eqs Sg F (opId rid i) hh s o some=some (.val v0):=h3;have oC:∀id,(fU (lD (ρ s x)) hh []).get id=if id∈lD (ρ s x) then hh.get id else none:=fun id=>by
       rw[lO]
       split
       ·cases hh.get id<;>rfl
       ·rfl
      refine⟨fU (lD (ρ s x)) hh [],fun id ob bM=>?_,?_⟩
      ·rw[oC]at bM
       split at bM
       ·rename_i hm;exact D.SD dj ho T2 hS hb h1 SC h2 id hm ob bM
       ·cases bM
      ·rw[Ow T2 (hh:=hh) (fun id hm=>by rw[oC,if_pos hm])];exact h3'
     |none=>exact⟨_,fun id ob bM=>D.seen dj ⟨o,ho,hf,T2⟩ hS hb h2 id ob (by rw[ql]at bM;split at bM;cases bM;exact bM),h3⟩
   obtain⟨hh',NJ,R7⟩:=ak1;refine J.op V (rid:=rid) (i:=i) (fun _ id hp=>hp.Ed (by omega) hS) j YL (fun x hx=>(hT x hx).1) (fun x hx=>(hT x hx).2) NJ R7 (fun v hw he=>by cases he) (p':=oD rid fun k=>S k∨k=i) (fun id hp hr=>.inl (hp hr)) rL.1 rL.2 fun a' w' Z' ψ' j' => ?_;exact hk _ _ a' w' Z' ψ' ⟨aG,GD,D.Lw dj nP hS (fun⟨v,os,h⟩=>by rw[hE]at h;cases h) (fun⟨v,os,h⟩=>by rw[hE]at h;cases h),t1,t2⟩ j'
  |new v0 os =>simp only[iV]at Ek;subst Ek;have hnf:=D.AK nP ⟨v0,os,hE⟩;have NJ:∀id ob,(jc hh (iU ops b i s o)).get id=some ob→h id=some ob:=fun id ob bM=>D.seen dj hnf hS hb h2 id ob (by rw[ql]at bM;split at bM;cases bM;exact bM);refine J.op V (rid:=rid) (i:=i) (fun _ id hp=>hp.Ed (by omega) hS) j YL (fun x hx=>(hT x hx).1) (fun x hx=>(hT x hx).2) NJ h3 (fun v hw he=>by cases he) (p':=oD rid fun k=>S k∨k=i) (fun id hp hr=>.inl (hp hr)) rL.1 rL.2 fun a' w' Z' ψ' j' => ?_;exact hk _ _ a' w' Z' ψ' ⟨aG,GD,D.Vc dj ho hS hb hE,t1,t2⟩ j'
theorem Dr.done(D:Dr P Eqs Sg F rid n ops b T H E)(dj:Dj rid ops b T H E S Tc h)(je:∀k,k<ops.size→S k):Tc=T ops.size∧h=H ops.size:=by
 constructor
 ·funext d;by_cases hex:∃(j:Nat) (oj:Oper),ops[j]? = some oj∧oj.dst=some d
  ·obtain⟨j,oj,hj,hd⟩:=hex;have GH:=(abB.1 hj).1;rw[dj.U7 j oj d (je j GH) hj hd,D.JA hj hd ops.size (Nat.le_refl _) GH]
  ·rw[dj.told d fun j o' _ mC U9=>hex ⟨j,o',mC,U9⟩,D.yE ops.size (Nat.le_refl _) fun k o' _ mC U9=>hex ⟨k,o',mC,U9⟩]
 ·obtain⟨q,hq,_,mr,mq⟩:=dj.heap;have:q=ops.size:=by
   grind
  subst this;funext id;by_cases sN:oD rid S id
  ·simp_all
  ·rw[(mq id).2 sN]
   symm
   apply Classical.not_not.1;intro bA;apply sN;intro hr;obtain⟨j,h1,h2,h3,_⟩:=D.names ops.size (abX _) id bA hr;rw[(h1.parts h3).2];simp_all
def nQ(m:Nat)(cP:Array Bool):Nat:=((List.range m).filter fun i => !cP.getD i false).length
theorem JC{m:Nat}{cP:Array Bool}{i:Nat}(hi:i<m)(hs:i<cP.size)(hn:cP.getD i false=false):nQ m cP=nQ m (cP.setIfInBounds i true)+1:=by
 unfold nQ;have key:∀(l:List Nat),l.Nodup→i∈l→(l.filter fun k => !cP.getD k false).length=(l.filter fun k => !(cP.setIfInBounds i true).getD k false).length+1:=by
  intro l
  induction l with
  |nil=>simp_all
  |cons a r ih =>
   intro GL hm;rw[List.nodup_cons]at GL;rcases abq.1 hm with rfl|hm
   ·have h2:(r.filter fun k => !cP.getD k false)=(r.filter fun k => !(cP.setIfInBounds i true).getD k false):=by apply List.filter_congr;intro k hk;have bA:i≠k:=fun e=>GL.1 (e▸hk);simp_all
    simp_all
   ·have bA:i≠a:=fun e=>GL.1 (e▸hm);rw[List.filter_cons,List.filter_cons,getD_set_ne false bA]
    grind
 grind
theorem Dr.any(D:Dr P Eqs Sg F rid n ops b T H E)(V:Env P Eqs Sg F){Q:Exit→Act→World→Prop}(hQ:∀Z ψ a w,J (oD rid fun k=>k<ops.size) n Z0 w0 O ψ0 Z ψ (T ops.size) (H ops.size) a w→Q .normal a w) :
  ∀(fuel:Nat) (cP:Array Bool) (Tc:Nat→AV) (h:Hp) (a:Act) (w:World) (Z:Nat→Prop) (ψ:Nat→Value),cP.size=ops.size→nQ ops.size cP=fuel → Dj rid ops b T H E (fun k=>cP.getD k false=true) Tc h→J (oD rid fun k=>cP.getD k false=true) n Z0 w0 O ψ0 Z ψ Tc h a w→wpAny P .any ops Q fuel cP a w
 |0,cP,Tc,h,a,w,Z,ψ,hs,hu,dj,j=>by
  have je:∀k,k<ops.size→cP.getD k false=true:=fun k hk=>by unfold nQ at hu;have:=List.filter_eq_nil_iff.1 (abD hu) k (ac7.2 hk);simpa using this
  refine⟨?_,?_⟩
  ·apply List.eq_nil_iff_forall_not_mem.2;intro i hi;obtain⟨h1,o,h2,_⟩:=mem_ready.1 hi;have h3:=(abB.1 h2).1;have h4:=je i h3;rw[Array.getD_eq_getD_getElem?,Array.getElem?_eq_getElem (by omega)]at h1 h4;simp at h1 h4;rw[h1]at h4;cases h4
  ·obtain⟨e1,e2⟩:=D.done dj je;subst e1;subst e2;refine hQ Z ψ a w ⟨j.ok,j.tr,fun d=>(j.tm d).imp fun id h1 h2=>dj.lt _ (h1 h2),fun id ty cs hb=>(j.hm id ty cs hb).imp fun id h1 h2=>dj.lt _ (h1 h2)⟩
 |fuel+1,cP,Tc,h,a,w,Z,ψ,hs,hu,dj,j=>by
  have look:∀i,i<ops.size→cP.getD i true=cP.getD i false:=fun i hi=>by rw[Array.getD_eq_getD_getElem?,Array.getD_eq_getD_getElem?,Array.getElem?_eq_getElem (by omega)];rfl
  refine⟨fun hr=>?_,fun i hi=>?_⟩
  ·exfalso;have hex:∃i,i<ops.size∧cP.getD i false=false:=by
    apply Classical.byContradiction;intro hn;unfold nQ at hu;rw[List.filter_eq_nil_iff.2]at hu
    ·simp at hu
    ·intro k hk;have:=fun h=>hn ⟨k,ac7.1 hk,h⟩
     cases hl:cP.getD k false with
     |true=>simp
     |false=>exact absurd hl this
   have key:∀i,i<ops.size→cP.getD i false=false→False:=by
    intro i
    induction i using Nat.strongRecOn with
    |ind i ih =>
     intro hi hl;have kA:i∈Region.ready .any ops cP:=by
      refine mem_ready.2 ⟨by rw[look i hi];exact hl,_,acQ hi,fun e he T3=>?_⟩;have hon:=Ov D.UZ (acQ hi) (by simpa using he) T3
      cases hle:cP.getD e.on false with
      |true=>rfl
      |false=>exact(ih e.on hon (by omega) hle).elim
     rw[hr]at kA;cases kA
   obtain⟨i,h1,h2⟩:=hex;exact key i h1 h2
  ·obtain⟨h1,o,ho,je⟩:=mem_ready.1 hi;have nP:=(abB.1 ho).1;have hn:cP.getD i false=false:=by rw[←look i nP];exact h1
   have hS:¬(cP.getD i false=true):=by rw[hn];simp
   have hb:∀k,vh b i k→cP.getD k false=true:=fun k hk=>by
    obtain⟨e,he,T3,h2⟩:=(CZ D.UZ ho).1 hk;have h3:=je e (by simpa using he) T3;rcases h2 with rfl|h2
    ·exact h3
    ·exact dj.closed e.on k h3 h2
   refine D.Oz V ho hS hb dj j fun Tc' h' a' w' Z' ψ' dj' j' => ?_;have heq:(fun k=>cP.getD k false=true∨k=i)=(fun k=>(cP.setIfInBounds i true).getD k false=true):=by
    funext k;apply propext;by_cases e:i=k
    ·subst e;simp[show i<cP.size by omega]
    ·rw[getD_set_ne false e];constructor
     ·rintro(h|h)
      ·exact h
      ·exact absurd h.symm e
     ·exact .inl
   rw[heq]at dj' j';exact D.any V hQ fuel _ Tc' h' a' w' Z' ψ' (by simpa using hs) (by have:=JC nP (by omega) hn;omega) dj' j'
end
end Go.Vs
namespace Go.Vs
variable {P:Program} {Eqs:TypeId→Option K} {Sg:FuncId→Option aO} {F:(f:FuncId)→(g:aO)→g.A→Option g.B} {R:Type}
variable {Z Z' Z0:Nat→Prop} {ψ ψ' ψ0:Nat→Value} {h h':Hp} {w w' w0:World} {B0:Nat} {O N:Nat→Prop}
theorem Eo(f:AV→AV)(hf:f .no=.no):∀(l:List (Nat×AV)) (d:Nat),look (l.map fun p=>(p.1,f p.2)) d=f (look l d)
 |[],d=>by simp[look,hf]
 |(i,v)::r,d=>by
  simp only[List.map_cons,look]
  split
  ·rfl
  simp_all [Eo]
section
variable {rid:Nat}
mutual
theorem AL:∀{a:AV} {v:Value},aD Z ψ h w a v→aD Z ψ h w (bS rid a) v
 |.ref id s i off,v,hr=>by
  simp only[bS]
  split
  ·simp only[aD]
  ·exact hr
 |.bO id,v,hr=>by
  simp only[bS]
  split
  ·simp only[aD]
  ·exact hr
 |.fn f cap,v,hr=>by simp only[bS,aD]at hr ⊢;obtain⟨vs,e,hl⟩:=hr;exact⟨vs,e,nR hl⟩
 |.agg cs,v,hr=>by simp only[bS,aD]at hr ⊢;obtain⟨vs,e,hl⟩:=hr;exact⟨vs,e,nR hl⟩
 |.pC cs,v,hr=>by simp only[bS,aD]at hr ⊢;obtain⟨vs,e,hl⟩:=hr;exact⟨vs,e,nR hl⟩
 |.no,v,hr=>by simpa only[bS] using hr
 |.bool _,v,hr=>by simpa only[bS] using hr
 |.int _ _,v,hr=>by simpa only[bS] using hr
 |.str _,v,hr=>by simpa only[bS] using hr
 |.mA,v,hr=>by simpa only[bS] using hr
 |.gq,v,hr=>by simpa only[bS] using hr
 |.fp _ _ _,v,hr=>by simpa only[bS] using hr
 |.sl _ _ _,v,hr=>by simpa only[bS] using hr
 |.mp _ _ _,v,hr=>by simpa only[bS] using hr
theorem nR:∀{a:List AV} {v:List Value},az Z ψ h w a v→az Z ψ h w (nu rid a) v
 |[],v,hr=>by simpa only[nu] using hr
 |x::r,v,hr=>by simp only[nu,az]at hr ⊢;obtain⟨u,us,e,h1,h2⟩:=hr;exact⟨u,us,e,AL h1,nR h2⟩
end
mutual
theorem rM:∀(a:AV),aM (oD rid fun _=>False) (bS rid a)
 |.ref id s i off=>by
  simp only[bS]
  split
  ·simp only[aM]
  ·rename_i hn;simp only[aM];exact fun h=>absurd h hn
 |.bO id=>by
  simp only[bS]
  split
  ·simp only[aM]
  ·rename_i hn;simp only[aM];exact fun h=>absurd h hn
 |.fn f cap=>by simp only[bS,aM];exact jT cap
 |.agg cs=>by simp only[bS,aM];exact jT cs
 |.pC cs=>by simp only[bS,aM];exact jT cs
 |.no=>by simp only[bS,aM]
 |.bool _=>by simp only[bS,aM]
 |.int _ _=>by simp only[bS,aM]
 |.str _=>by simp only[bS,aM]
 |.mA=>by simp only[bS,aM]
 |.gq=>by simp only[bS,aM]
 |.fp _ _ _=>by simp only[bS,aM]
 |.sl _ _ _=>by simp only[bS,aM]
 |.mp _ _ _=>by simp only[bS,aM]
theorem jT:∀(a:List AV),aF (oD rid fun _=>False) (nu rid a)
 |[]=>by simp only[nu,aF]
 |x::r=>by simp only[nu,aF];exact⟨rM x,jT r⟩
end
theorem get_map(f:Ob→Ob):∀(hh:Heap) (i:Nat),Heap.get (hh.map fun p=>(p.1,f p.2)) i=(hh.get i).map f
 |[],i=>rfl
 |(j,o)::r,i=>by
  simp only[List.map_cons,Heap.get]
  split
  ·rfl
  ·exact get_map f r i
def oU(rid:Nat)(hh:Heap):Heap:=(hh.filter fun p=>p.1 / 32768 != rid+1).map fun p=>(p.1,DG rid p.2)
theorem SF(hh:Heap)(i:Nat):(oU rid hh).get i=if i / 32768=rid+1 then none else(hh.get i).map (DG rid):=by
 unfold oU;rw[get_map (DG rid),get_filter (fun i=>i / 32768 != rid+1)]
 grind
theorem jH{hh:Heap}{i:Nat}{o:Ob}(hg:(oU rid hh).get i=some o):i / 32768≠rid+1∧∃o',hh.get i=some o'∧o=DG rid o':=by
 rw[SF]at hg
 split at hg
 ·cases hg
 ·rename_i hn
  cases h0:hh.get i with
  |none=>simp_all
  |some o'=>simp_all
theorem lR{hh:Heap}{i:Nat}(hg:(oU rid hh).get i≠none):hh.get i≠none:=by
 obtain⟨o,ho⟩:=abP.1 hg
 grind [jH]
theorem Good.nw{hh:Heap}(g:Good Z ψ hh.get w B0 O):Good Z ψ (oU rid hh).get w B0 O:=by
 refine⟨fun id ty cs hb=>?_,fun id ok xs hb=>?_,fun id b h1 h2=>g.live id b (lR h1) h2,fun id qb b h1 h2 h3 h4=>g.apart id qb b (lR h1) (lR h2) h3 h4,g.kO⟩
 ·obtain⟨_,o',h1,h2⟩:=jH hb
  cases o' with
  |own ok xs=>cases h2
  |box KG cs' =>
   cases h2
   obtain⟨gg,vs,h3,h4,h5,h6⟩:=g.box id ty cs' h1;exact⟨gg,vs,h3,h4,nR (h5.less (fun _ h=>h) (cG.refl _ _) fun i hi=>⟨lR hi,rfl⟩),h6⟩
 ·obtain⟨_,o',h1,h2⟩:=jH hb
  cases o' with
  |own Y2 xs'=>cases h2;exact g.row id _ _ h1
  |box KG cs'=>cases h2
theorem Ok.sub{hp:Hp}(k:Ok Z0 w0 O ψ0 Z ψ h w)(g:Good Z ψ hp w w0.heap.size O)(hn:∀id,hp id≠none→h id≠none):Ok Z0 w0 O ψ0 Z ψ hp w :=⟨g,k.g9,k.fq,k.os,k.tape,k.output,k.size,k.block,fun i hi bA=>k.fix i hi (hn i bA)⟩
end
theorem Good.Ep(g:Good Z ψ h w B0 O)(e:w'.heap=w.heap):Good Z ψ h w' B0 O:=by
 have sm:cG Z w w':=fun b _=>by rw[e]
 refine⟨fun id ty cs hb=>?_,fun id ok xs hb=>?_,g.live,g.apart,fun b hb=>by rw[e];exact g.kO b hb⟩
 ·obtain⟨gg,vs,h1,h2,h3,h4⟩:=g.box id ty cs hb;exact⟨gg,vs,h1,by simp_all,h3.less (fun _ h=>h) sm (fun i hi=>⟨hi,rfl⟩),h4⟩
 ·exact(g.row id ok xs hb).kept (fun _ h=>h) sm (fun gg _=>by rw[e])
theorem Ok.Ep(k:Ok Z0 w0 O ψ0 Z ψ h w)(e:w'.heap=w.heap)(e1:w'.os=w.os)(e2:w'.tape=w.tape)(e3:w'.output=w.output):Ok Z0 w0 O ψ0 Z ψ h w' :=⟨k.du.Ep e,k.g9,k.fq,e1.trans k.os,e2.trans k.tape,e3.trans k.output,by rw[e];exact k.size,fun b hb ho=>by rw[e];exact k.block b hb ho,k.fix⟩
theorem dm.Ep{n:Nat}{T:Nat→AV}{a:Act}(t:dm Z ψ h w n T a)(e:w'.heap=w.heap):dm Z ψ h w' n T a :=⟨fun d=>(t.rep d).less (fun _ h=>h) (fun b _=>by rw[e]) (fun i hi=>⟨hi,rfl⟩),t.size,t.defers⟩
theorem JD(V:Env P Eqs Sg F)(hm:P.follows .mixedOrders=true){n rid:Nat}{ops:Array Oper}{draw:Bool}{st:St}{kk:St→Option R}{r:R}{a:Act}{Q:Exit→Act→World→Prop} (hx:jC P Eqs Sg F n rid ops draw st kk=some r) (k:Ok Z0 w0 O ψ0 Z ψ st.heap.get w) (t:dm Z ψ st.heap.get w n (look st.tmps) a) (hQ:∀fB Z ψ a w,kk fB=some r→Ok Z0 w0 O ψ0 Z ψ fB.heap.get w→dm Z ψ fB.heap.get w n (look fB.tmps) a→Q .normal a w):(Code.region rid ops draw).wp P Q a w:=by
 obtain⟨b,hbe,hx⟩:∃b,b=(if draw then Region.before ops else #[])∧(if(ops.all fun o=>jB n o)&&(!draw || (xZ ops b&&(DE ops b&&cw (ops.toList.filterMap (·.dst)))))&&decide (ops.size≤128) then
  bJ P Eqs Sg F rid draw ops b (ops.toList.zipIdx.map fun p=>(p.2,p.1)) (nw draw rid ops st) kk else none)=some r:=⟨_,rfl,hx⟩
 split at hx
 ·rename_i hc;simp only[Bool.and_eq_true,decide_eq_true_eq]at hc;obtain⟨⟨oE,hdr⟩,iY⟩:=hc;have HV:∀(i:Nat) (o:Oper),ops[i]? = some o→jB n o=true:=fun i o ho=>adV.1 oE o (aeH ho);have pk:Ok Z0 w0 O ψ0 Z ψ (oU rid st.heap).get w:=k.sub k.du.nw fun id=>lR;have pt:dm Z ψ (oU rid st.heap).get w n (fun d=>bS rid (look st.tmps d)) a :=⟨fun d=>AL ((t.rep d).less (fun _ h=>h) (cG.refl _ _) fun i hi=>⟨lR hi,rfl⟩),t.size,t.defers⟩;have pm:wz (oD rid fun _=>False) (oU rid st.heap).get:=fun i ty cs hb=>by
   obtain⟨_,o',h1,h2⟩:=jH hb
   cases o' with
   |own ok xs=>cases h2
   |box KG cs'=>cases h2;exact jT cs'
  have Qd:look (st.tmps.map fun p=>(p.1,bS rid p.2))=fun d=>bS rid (look st.tmps d):=funext fun d=>Eo (bS rid) (by rfl) st.tmps d
  cases draw with
  |false =>
   refine wp_region ?_;rw[←HS ops]
   cases Zr:ops.any (makes ·.op) with
   |false =>
    have hp:nw false rid ops st=st:=by grind [nw]
    rw[hp]at hx;refine mX V (rid:=rid) (n:=n) (b:=_) false (fun _ i o ho=>?_) iY HV hQ _ 0 st Z ψ a w (qn ops) hx ⟨k,t,fun d=>?_,fun i ty cs hb=>?_⟩
    ·grind
    ·exact(aM.top _).imp fun id _ h=>by cases h
    ·exact(aF.top _).imp fun id _ h=>by cases h
   |true =>
    have hp:nw false rid ops st={ tmps:=st.tmps.map fun p=>(p.1,bS rid p.2),heap:=oU rid st.heap }:=by unfold nw;rw[Zr];rfl
    rw[hp]at hx;refine mX V (rid:=rid) (n:=n) (b:=_) true (fun h=>by cases h) iY HV hQ _ 0 _ Z ψ a w (qn ops) hx ⟨pk,by simp_all,fun d=>?_,fun i ty cs hb=>?_⟩
    ·rw[Qd];exact(rM _).imp fun id h1 _ h2=>(h1 h2).elim
    ·exact(pm i ty cs hb).imp fun id h1 _ h2=>(h1 h2).elim
  |true =>
   have hp:nw true rid ops st={ tmps:=st.tmps.map fun p=>(p.1,bS rid p.2),heap:=oU rid st.heap }:=by rfl
   rw[hp]at hx;simp only[Bool.not_true,Bool.false_or,Bool.and_eq_true]at hdr;obtain⟨ak2,afO,GL⟩:=hdr;refine wp_region_any hm ?_;obtain⟨T,H,E,h1,h2,h3,fB,h4,h5,h6⟩:=trace (kk:=kk) (r:=r) (ops.toList.zipIdx.map fun p=>(p.2,p.1)) 0 _ (qn ops) (by simp) hx;rw[Qd]at h1;have D:Dr P Eqs Sg F rid n ops b T H E:=⟨iY,ak2,afO,HV,GL,fun k o ho=>h3 k o (ac6 _) ho,fun id bM=>by rw[h2]at bM;obtain⟨o,ho⟩:=abP.1 bM;exact(jH ho).1⟩;have Qe:∀k,¬((Array.replicate ops.size false).getD k false=true):=fun k hk=>by
    rw[Array.getD_eq_getD_getElem?,Array.getElem?_replicate]at hk
    grind
   rw[show max 0 ops.size=ops.size by omega]at h5 h6;have w2:({ w with drawn:=w.drawn+1 }:World).heap=w.heap:=rfl;refine D.any V (Z0:=Z0) (w0:=w0) (O:=O) (ψ0:=ψ0) (fun Z ψ a w j=>hQ fB Z ψ a w h4 (by rw[h6];exact j.ok) (by rw[h5,h6];exact j.tr)) ops.size _ (T 0) (H 0) a _ Z ψ (by simp) ?_ ?_ ?_
   ·grind [nQ,List.filter_eq_self,List.length_range]
   ·refine⟨fun i hi=>(Qe i hi).elim,fun i j hi=>(Qe i hi).elim,?_,fun j o d hj=>(Qe j hj).elim,fun d _=>rfl⟩;obtain⟨q,hq1,hq2,hq3⟩:=Vb E (fun k=>(Array.replicate ops.size false).getD k false=true) ops.size;refine⟨q,hq1,hq2,hq3,fun id=>⟨fun sN=>?_,fun sN=>?_⟩⟩
    ·symm
     refine D.C0 q (ac6 _) hq1 (fun k _ hk hw=>(Qe k (hq2 k hk hw)).elim) id fun k _ hk _ ho=>?_;have:=sN (ho.parts (by omega)).1;simp_all
    ·rw[h2];apply Classical.not_not.1;intro bA;obtain⟨o,ho⟩:=abP.1 bA;exact sN fun hr=>absurd hr (jH ho).1
   ·rw[h1,h2];refine⟨pk.Ep w2 rfl rfl rfl,pt.Ep w2,fun d=>(rM _).imp fun id h3 h4=>(h3 h4).elim,fun i ty cs hb=>(pm i ty cs hb).imp fun id h3 h4=>(h3 h4).elim⟩
 ·cases hx
end Go.Vs
