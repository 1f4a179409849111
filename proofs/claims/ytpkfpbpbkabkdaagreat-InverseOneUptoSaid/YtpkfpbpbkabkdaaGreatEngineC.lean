/- The value semantics is sound -/
import Derived.Test.YtpkfpbpbkabkdaaGreatEngineB
import Derived.Maps.RangeRun
import Derived.ChangeMaps
set_option linter.unusedSimpArgs false
set_option linter.unusedVariables false
namespace Go.Vs
variable {P:Program} {Z Z':Nat→Prop} {ψ ψ':Nat→Value} {h h':Hp} {w w':World} {B0:Nat} {O:Nat→Prop} {N:Nat→Prop}
theorem fB:∀(k:K) (x:k.T),(enc k x).length=k.sz
 |.int _,_=>rfl
 |.bool,_=>rfl
 |.str,_=>rfl
 |.sl _,_=>rfl
 |.mp _ _,_=>rfl
 |.pair a b,x=>by simp only[enc,List.length_append,K.sz];rw[fB a,fB b]
 |.one k,x=>by simp only[enc,K.sz];exact fB k x
theorem qY(hh:Heap):∀(k:K) (x:k.T),(enc k x).map (cP hh)=enc k x
 |.int _,_=>rfl
 |.bool,_=>rfl
 |.str,_=>rfl
 |.sl _,_=>rfl
 |.mp _ _,_=>rfl
 |.pair a b,x=>by simp only[enc,List.map_append];rw[qY hh a,qY hh b]
 |.one k,x=>by simp only[enc];exact qY hh k x
theorem lW:∀(k:K) (x:k.T) (id:Nat),AV.bK id∉enc k x
 |.int _,_,_=>by simp[enc]
 |.bool,_,_=>by simp[enc]
 |.str,_,_=>by simp[enc]
 |.sl _,_,_=>by simp[enc]
 |.mp _ _,_,_=>by simp[enc]
 |.pair a b,x,id=>by
  simp only[enc,List.mem_append];rintro(h|h)
  ·exact lW a _ id h
  ·exact lW b _ id h
 |.one k,x,id=>by simp only[enc];exact lW k x id
theorem w5{hh:Heap}{ok:OK}{n:Nat}{xs:ok.T}(hg:hh.get n=some (.own ok xs)):dX hh ok (.bK n)=some xs:=by simp[dX,hg]
theorem pI{hh:Heap}:∀(dx:List CK) (n:Nat) (x:qD dx),(∀e∈bm dx n x,hh.get e.1=some e.2)→cQ dx hh (aI dx n x)=some x
 |[],n,x,_=>rfl
 |.val k::r,n,x,hg=>by
  have h1:(aI (.val k::r) n x).take k.sz=enc k x.1:=by simp only[aI];rw[←fB k x.1,List.take_left]
  have h2:(aI (.val k::r) n x).drop k.sz=aI r (n+1) x.2:=by simp only[aI];rw[←fB k x.1,List.drop_left]
  have e:cQ (.val k::r) hh (aI (.val k::r) n x)=(match dL k (((aI (.val k::r) n x).take k.sz).map (cP hh)),cQ r hh ((aI (.val k::r) n x).drop k.sz) with
   |some x,some y=>some ((x,y):k.T×qD r)
   |_,_=>none):=by generalize aI (.val k::r) n x=l;cases l<;>rfl
  have h4:dL k (((aI (.val k::r) n x).take k.sz).map (cP hh))=some x.1:=by rw[h1];exact(congrArg (dL k) (qY hh k x.1)).trans (tY k x.1)
  have h5:cQ r hh ((aI (.val k::r) n x).drop k.sz)=some x.2:=by rw[h2];exact pI r (n+1) x.2 hg
  rw[e];generalize dL k (((aI (.val k::r) n x).take k.sz).map (cP hh))=o1 at h4 ⊢;generalize cQ r hh ((aI (.val k::r) n x).drop k.sz)=o2 at h5 ⊢;subst h4;subst h5;rfl
 |.own ok::r,n,x,hg=>by
  simp only[bm]at hg;have h1:=w5 (hg _ ac4);have h2:=pI r (n+1) x.2 (fun e he=>hg e (acm _ he));have e:cQ (.own ok::r) hh (aI (.own ok::r) n x)=(match dX hh ok (.bK n),cQ r hh (aI r (n+1) x.2) with
   |some x,some y=>some ((x,y):ok.T×qD r)
   |_,_=>none):=rfl
  rw[e,h1,h2];rfl
theorem NL{hh:Heap}(b:BK){i n:Nat}{x:b.T}(hg:∀e∈jh b i n x,hh.get e.1=some e.2):qm b hh i=some x:=by
 cases b with
 |box ty c =>
  simp only[jh]at hg;have h1:DX hh i ty=some (aI c n x):=by unfold DX;rw[hg _ List.mem_cons_self];simp
  simp only[qm,h1];exact pI (hh:=hh) c n x (fun e he=>hg e (acm _ he))
 |own ok=>exact w5 (hg _ (by simp only[jh];exact ac4))
theorem yH{hh:Heap}:∀(bs:List BK) (is:List Nat) (n:Nat) (x:wH bs),is.length=bs.length→(∀e∈bC bs is n x,hh.get e.1=some e.2)→dd bs hh is=some x
 |[],[],n,x,_,_=>rfl
 |[],_::_,n,x,hl,_=>by simp at hl
 |_::_,[],n,x,hl,_=>by simp at hl
 |b::r,i::is,n,x,hl,hg=>by
  simp only[bC]at hg;have h2:=NL b (fun e he=>hg e (acq _ he));have h3:=yH r is (n+16) x.2 (by simpa using hl) (fun e he=>hg e (ac2 _ he));have e:dd (b::r) hh (i::is)=(match qm b hh i,dd r hh is with
    |some x,some y=>some ((x,y):b.T×wH r)
    |_,_=>none):=rfl
  rw[e,h2,h3];rfl
theorem w6{i:Nat}{o:Ob}:∀{hh:Heap},cj (hh.map (·.1))=true→(i,o)∈hh→hh.get i=some o
 |[],_,h=>by cases h
 |(j,o')::r,hn,h=>by
  obtain⟨h1,h2⟩:=mS hn;simp only[Heap.get];rcases acp.1 h with e|h
  ·cases e;simp
  ·rw[if_neg,w6 h2 h];rintro rfl;exact h1 (adE.2 ⟨_,h,rfl⟩)
theorem zZ{hh:Heap}:∀(dx:List CK) (n:Nat) (x:qD dx) (id:Nat),AV.bK id∉ql dx (aI dx n x)
 |[],n,x,id=>by simp[aI,ql]
 |.val k::r,n,x,id=>by
  have h1:(aI (.val k::r) n x).take k.sz=enc k x.1:=by simp only[aI];rw[←fB k x.1,List.take_left]
  have h2:(aI (.val k::r) n x).drop k.sz=aI r (n+1) x.2:=by simp only[aI];rw[←fB k x.1,List.drop_left]
  have e:ql (.val k::r) (aI (.val k::r) n x)=(aI (.val k::r) n x).take k.sz++ql r ((aI (.val k::r) n x).drop k.sz):=by generalize aI (.val k::r) n x=l;cases l<;>rfl
  rw[e,h1,h2,List.mem_append];rintro(h|h)
  ·exact lW k x.1 id h
  ·exact zZ (hh:=hh) r (n+1) x.2 id h
 |.own ok::r,n,x,id=>by simp only[aI,ql];exact zZ (hh:=hh) r (n+1) x.2 id
theorem Bg{hh:Heap}:∀(bs:List BK) (is:List Nat) (n:Nat) (x:wH bs) (id:Nat),(∀e∈bC bs is n x,hh.get e.1=some e.2)→AV.bK id∉gh bs hh is
 |[],is,n,x,id,_=>by cases is<;>simp[gh]
 |_::_,[],n,x,id,_=>by simp[gh]
 |b::r,i::is,n,x,id,hg=>by
  simp only[bC]at hg;simp only[gh,List.mem_append];rintro(h|h)
  ·cases b with
   |box ty c =>simp only[AD]at h;rw[hg (i,.box ty (aI c n x.1)) (List.mem_append_left _ (by simp only[jh];exact List.mem_cons_self))]at h;exact zZ (hh:=hh) c n x.1 id h
   |own ok=>simp[AD]at h
  ·exact Bg r is (n+16) x.2 id (fun e he=>hg e (ac2 _ he)) h
theorem Ea{hh:Heap}:∀(cap:List AV) (is is':List Nat) (vs:List Value),jL cap=some is→is'.length=is.length→(∀p∈is.zip is',hh.get p.1≠none∧(h' p.2≠none→ψ' p.2=ψ p.1)) → aq Z ψ hh.get w cap vs→aq Z' ψ' h' w (is'.map fun i=>.ref i 0 0 0) vs
 |[],is,is',vs,h1,hl,_,hr=>by
  simp only[jL]at h1
  cases h1
  cases is' with
  |nil=>simpa only[List.map_nil,aq] using hr
  |cons c r=>simp at hl
 |v::cap,is,is',vs,h1,hl,hp,hr=>by
  simp only[jL]at h1
  split at h1
  ·rename_i i is1 h3 h4
   cases h1
   cases is' with
   |nil=>simp at hl
   |cons c r =>simp only[List.zip_cons_cons]at hp;simp only[List.map_cons,aq]at hr ⊢;obtain⟨u,us,rfl,h7,h8⟩:=hr;obtain⟨sz,rfl⟩:=pz h3;obtain⟨h5,h6⟩:=hp _ ac4;exact⟨u,us,rfl,zX h7 h5 h6,Ea cap is1 r us h4 (by simpa using hl) (fun p h=>hp p (acm _ h)) h8⟩
  ·cases h1
theorem td:∀(cap:List AV) (is:List Nat),jL cap=some is→is.length=cap.length
 |[],is,h=>by simp only[jL]at h;cases h;rfl
 |v::cap,is,h=>by
  simp only[jL]at h
  split at h
  ·rename_i i is1 h3 h4
   cases h
   simp[td cap is1 h4]
  ·cases h
theorem tf:∀(cs:List AV) (is:List Nat),o9 cs=some is→is.length=cs.length
 |[],is,h=>by simp only[o9]at h;cases h;rfl
 |c::r,is,h=>by
  cases c<;>simp only[o9]at h<;>first|(cases h;done)|skip
  split at h
  ·rename_i is' h1
   cases h
   simp[tf r is' h1]
  ·cases h
theorem Eb{hh:Heap}:∀(cs:List AV) (is gK:List Nat) (vs:List Value),o9 cs=some is→gK.length=is.length→(∀p∈is.zip gK,hh.get p.1≠none∧(h' p.2≠none→ψ' p.2=ψ p.1)) → aq Z ψ hh.get w cs vs→aq Z' ψ' h' w (gK.map .bK) vs
 |[],is,gK,vs,h,hl,hp,hr=>by
  simp only[o9]at h
  cases h
  have:gK=[]:=adx hl;subst this;simpa only[List.map_nil,aq] using hr
 |c::r,is,gK,vs,h,hl,hp,hr=>by
  cases c<;>simp only[o9]at h<;>first|(cases h;done)|skip
  rename_i i
  split at h
  ·rename_i is' h1
   cases h
   cases gK with
   |nil=>simp at hl
   |cons i' gK =>simp only[List.zip_cons_cons]at hp;obtain⟨h5,h6⟩:=hp _ ac4;simp only[List.map_cons,aq]at hr ⊢;obtain⟨u,us,rfl,h3,h4⟩:=hr;refine⟨u,us,rfl,?_,Eb r is' gK us h1 (by simpa using hl) (fun p Qk=>hp p (acm _ Qk)) h4⟩;simp only[aC]at h3 ⊢;exact⟨h3.1,fun hn=>(h3.2 h5).trans (h6 hn).symm⟩
  ·cases h
theorem ly{hh:Heap}(g:Good Z ψ hh.get w B0 O)(hz:∀b,Z b→Z' b):∀(ps:List PK) (ids gK:List Nat) (s:Nat) (vs:List AV) (us:List Value) (x:G7 (kQ ps)),gK.length=ids.length→cI ps vs=some ids→eT ps hh vs=some x →(∀id b,AV.bK id∈dw ps vs→hh.get id≠none→ob (ψ id)=some b→Z' b)→(∀p∈ids.zip gK,hh.get p.1≠none∧(h' p.2≠none→ψ' p.2=ψ p.1))→aq Z ψ hh.get w vs us→aq Z' ψ' h' w ((aZ ps gK s x).map (·.2)) us
 |[],ids,gK,s,vs,us,x,hl,hi,hv,hf,hp,hr=>by
  cases vs with
  |nil=>simpa only[aZ,List.map_nil,aq] using hr
  |cons a r=>simp[cI]at hi
 |.val k::ps,ids,gK,s,vs,us,x,hl,hi,hv,hf,hp,hr=>by
  cases vs with
  |nil=>simp[cI]at hi
  |cons a r =>simp only[cI]at hi;simp only[aq]at hr;obtain⟨u,iY,rfl,h3,h4⟩:=hr;obtain⟨h1,h2⟩:=yE hv;simp only[dw]at hf;simp only[aZ,List.map_cons,aq];exact⟨u,iY,rfl,rU g hz (fun id b bS=>hf id b (acq _ bS)) h1 h3,ly g hz ps ids gK (s+1) r iY x.2 hl hi h2 (fun id b bS=>hf id b (ac2 _ bS)) hp h4⟩
 |.ref::ps,ids,gK,s,vs,us,x,hl,hi,hv,hf,hp,hr=>by
  cases vs with
  |nil=>simp[cI]at hi
  |cons a r =>
   simp only[cI]at hi
   split at hi
   ·rename_i i is h1 h2
    cases hi
    simp only[aq]at hr;obtain⟨u,iY,rfl,h3,h4⟩:=hr
    cases gK with
    |nil=>simp at hl
    |cons i' is' =>simp only[List.zip_cons_cons]at hp;obtain⟨sz,rfl⟩:=pz h1;obtain⟨h5,h6⟩:=hp _ ac4;simp only[aZ,List.map_cons,aq];exact⟨u,iY,rfl,zX h3 h5 h6,ly g hz ps is is' (s+1) r iY x (by simpa using hl) h2 hv hf (fun p h=>hp p (acm _ h)) h4⟩
   ·cases hi
 |.own::ps,ids,gK,s,vs,us,x,hl,hi,hv,hf,hp,hr=>by
  cases vs with
  |nil=>simp[cI]at hi
  |cons a r =>
   cases a<;>simp only[cI]at hi<;>first|(cases hi;done)|skip
   rename_i i
   split at hi
   ·rename_i is h2
    cases hi
    simp only[aq]at hr;obtain⟨u,iY,rfl,h3,h4⟩:=hr
    cases gK with
    |nil=>simp at hl
    |cons i' is' =>simp only[List.zip_cons_cons]at hp;obtain⟨h5,h6⟩:=hp _ ac4;simp only[aZ,List.map_cons,aq];refine⟨u,iY,rfl,?_,ly g hz ps is is' (s+1) r iY x (by simpa using hl) h2 hv hf (fun p h=>hp p (acm _ h)) h4⟩;simp only[aC]at h3 ⊢;exact⟨h3.1,fun hn=>(h3.2 h5).trans (h6 hn).symm⟩
   ·cases hi
 |.G1 f m::ps,ids,gK,s,vs,us,x,hl,hi,hv,hf,hp,hr=>by
  cases vs with
  |nil=>simp[cI]at hi
  |cons a r =>
   cases a<;>simp only[cI]at hi<;>first|(cases hi;done)|skip
   rename_i f' cap
   split at hi
   ·rename_i hc;obtain⟨rfl,tM⟩:=hc
    split at hi
    ·rename_i a1 b1 h1 h2
     cases hi
     simp only[aq]at hr;obtain⟨u,iY,rfl,h3,h4⟩:=hr;have h5:=td cap a1 h1;have yw:(a1++b1).zip gK=a1.zip (gK.take m)++b1.zip (gK.drop m):=by
      conv=>lhs;rw[←List.take_append_drop m gK]
      rw[List.zip_append];rw[List.length_take,Nat.min_eq_left]
      ·omega
      ·rw[hl,List.length_append];omega
     rw[yw]at hp;simp only[aZ,List.map_cons,aq];refine⟨u,iY,rfl,?_,ly g hz ps b1 (gK.drop m) (s+1) r iY x (by rw[List.length_drop,hl,List.length_append];omega) h2 hv hf (fun p h=>hp p (ac2 _ h)) h4⟩;simp only[aC]at h3 ⊢;obtain⟨ws,h6,h7⟩:=h3;exact⟨ws,h6,Ea cap a1 (gK.take m) _ h1 (by rw[List.length_take,Nat.min_eq_left (by rw[hl,List.length_append];omega)];omega) (fun p h=>hp p (acq _ h)) h7⟩
    ·cases hi
   ·cases hi
 |.agg m::ps,ids,gK,s,vs,us,x,hl,hi,hv,hf,hp,hr=>by
  cases vs with
  |nil=>simp[cI]at hi
  |cons a r =>
   cases a<;>simp only[cI]at hi<;>first|(cases hi;done)|skip
   rename_i cs
   split at hi
   ·rename_i tM
    split at hi
    ·rename_i a1 b1 h1 h2
     cases hi
     simp only[aq]at hr;obtain⟨u,iY,rfl,h3,h4⟩:=hr;have h5:=tf cs a1 h1;have yw:(a1++b1).zip gK=a1.zip (gK.take m)++b1.zip (gK.drop m):=by
      conv=>lhs;rw[←List.take_append_drop m gK]
      rw[List.zip_append];rw[List.length_take,Nat.min_eq_left]
      ·omega
      ·rw[hl,List.length_append];omega
     rw[yw]at hp;simp only[aZ,List.map_cons,aq];refine⟨u,iY,rfl,?_,ly g hz ps b1 (gK.drop m) (s+1) r iY x (by rw[List.length_drop,hl,List.length_append];omega) h2 hv hf (fun p h=>hp p (ac2 _ h)) h4⟩;simp only[aC]at h3 ⊢;obtain⟨ws,h6,h7⟩:=h3;exact⟨ws,h6,Eb cs a1 (gK.take m) _ h1 (by rw[List.length_take,Nat.min_eq_left (by rw[hl,List.length_append];omega)];omega) (fun p h=>hp p (acq _ h)) h7⟩
    ·cases hi
   ·cases hi
theorem NM(hh:Heap)(k:K)(x:k.T):fX k hh (cp k x)=some x:=by unfold fX;rw[if_pos (Bb k x).symm,tZ];exact(congrArg (dL k) (qY hh k x)).trans (tY k x)
theorem mW:∀(dx:List CK) (c n:Nat) (x:qD dx),fY dx c=true→(aI dx n x)[mP dx c]? = some (.bK (n+c))
 |[],c,n,x,h=>by simp[fY]at h
 |.val k::r,0,n,x,h=>by simp[fY]at h
 |.val k::r,c+1,n,x,h=>by simp only[aI,mP];have ih:=mW r c (n+1) x.2 (by simpa[fY] using h);have hl:(enc k x.1).length=k.sz:=fB k x.1;generalize enc k x.1=l at hl ⊢;rw[List.getElem?_append_right (by omega),hl,Nat.add_sub_cancel_left,show n+(c+1)=n+1+c by omega];exact ih
 |.own ok::r,0,n,x,h=>by simp[aI,mP]
 |.own ok::r,c+1,n,x,h=>by simp only[aI,mP];rw[Nat.add_comm 1,List.getElem?_cons_succ,show n+(c+1)=n+1+c by omega];exact mW r c (n+1) x.2 (by simpa[fY] using h)
theorem yI:∀(bs:List BK) (b:Nat) (is:List Nat) (n:Nat) (x:wH bs) (ty:TypeId) (c:List CK) (bi:Nat),bs[b]? = some (.box ty c)→is[b]? = some bi→∃xb,(bi,.box ty (aI c (n+16*b) xb))∈bC bs is n x
 |[],b,is,n,x,_,_,bi,h,_=>by simp at h
 |b0::r,b,[],n,x,_,_,bi,_,h=>by simp at h
 |b0::r,0,i::is,n,x,ty,c,bi,h1,h2=>by simp only[List.getElem?_cons_zero,Option.some.injEq]at h1 h2;subst h1;subst h2;exact⟨x.1,by simp only[bC,jh];exact acq _ ac4⟩
 |b0::r,b+1,i::is,n,x,ty,c,bi,h1,h2=>by obtain⟨xb,h3⟩:=yI r b is (n+16) x.2 ty c bi (by simpa using h1) (by simpa using h2);refine⟨xb,?_⟩;simp only[bC];rw[show n+16*(b+1)=n+16+16*b by omega];exact ac2 _ h3
theorem lX{bs:List BK}{hh:Heap}{is:List Nat}{nb:Nat}{xb:wH bs}(hl:is.length=bs.length)(Uj:∀e∈bC bs is nb xb,hh.get e.1=some e.2):∀(rs:List RK) (ids2:List Nat) (m:Nat) (y:lL rs),qG bs rs=true →(∀e∈ak rs m y,hh.get e.1=some e.2)→bM bs rs hh is (bf rs ids2 nb m y)=some y
 |[],ids2,m,y,_,_=>rfl
 |.val k::r,ids2,m,y,hk,hg=>by
  simp only[qG,List.all_cons,Bool.and_eq_true,Du]at hk;have h1:=NM hh k y.1;have h2:=lX hl Uj r ids2 (m+1) y.2 hk.2 hg;have e:bM bs (.val k::r) hh is (bf (.val k::r) ids2 nb m y)=(match fX k hh (cp k y.1),bM bs r hh is (bf r ids2 nb (m+1) y.2) with
   |some x,some y=>some ((x,y):k.T×lL r)
   |_,_=>none):=rfl
  rw[e];generalize fX k hh (cp k y.1)=o1 at h1 ⊢;generalize bM bs r hh is (bf r ids2 nb (m+1) y.2)=o2 at h2 ⊢;subst h1;subst h2;rfl
 |.own ok::r,ids2,m,y,hk,hg=>by
  simp only[qG,List.all_cons,Bool.and_eq_true,Du]at hk;simp only[ak]at hg;have h1:=w5 (hg _ ac4);have h2:=lX hl Uj r ids2 (m+1) y.2 hk.2 (fun e he=>hg e (acm _ he));have e:bM bs (.own ok::r) hh is (bf (.own ok::r) ids2 nb m y)=(match dX hh ok (.bK m),bM bs r hh is (bf r ids2 nb (m+1) y.2) with
   |some x,some y=>some ((x,y):ok.T×lL r)
   |_,_=>none):=rfl
  rw[e];generalize dX hh ok (.bK m)=o1 at h1 ⊢;generalize bM bs r hh is (bf r ids2 nb (m+1) y.2)=o2 at h2 ⊢;subst h1;subst h2;rfl
 |.eX b alts::r,ids2,m,y,hk,hg=>by
  simp only[qG,List.all_cons,Bool.and_eq_true,Du]at hk;have h2:=lX hl Uj r ids2 (m+1) y.2 hk.2 hg;have h1:nt bs hh is b alts (uK b nb alts y.1)=some y.1:=by
   cases hy:y.1 with
   |none=>rfl
   |some p =>
    obtain⟨al,i⟩:=p;have h3:=hk.1
    split at h3
    ·rename_i bk hbk;have aF:=(aci.1 hbk).1;have NO:is[b]? = some (is[b]'(by omega)):=aaY (by omega);rw[Bool.and_eq_true,decide_eq_true_eq]at h3;obtain⟨h3,Ec⟩:=h3;have h3a:∀a:Fin alts.length,fY bk.dx (alts.get a).1=true:=fun a=>adK.1 h3 _ (List.get_mem alts a)
     cases bk with
     |own ok=>have:=h3a al;simp[BK.dx,fY]at this
     |box ty c0 =>
      obtain⟨xb',h4⟩:=yI bs b is nb xb ty c0 _ hbk NO;have h5:=Uj _ h4;simp only[BK.dx]at h3a;simp only[nt,uK,hbk,NO,h5,BK.dx];have key:(List.finRange alts.length).find? (fun a=>yk c0 (aI c0 (nb+16*b) xb') (nb+16*b+(alts.get al).1) (alts.get al).2.1 (alts.get al).2.2 (alts.get a))=some al:=by
       cases hf:(List.finRange alts.length).find? (fun a=>yk c0 (aI c0 (nb+16*b) xb') (nb+16*b+(alts.get al).1) (alts.get al).2.1 (alts.get al).2.2 (alts.get a)) with
       |none =>have:=List.find?_eq_none.1 hf al (List.mem_finRange al);exfalso;apply this;simp only[yk,Bool.and_eq_true,decide_eq_true_eq];refine⟨?_,trivial,trivial,h3a al⟩;rw[mW c0 _ _ xb' (h3a al)];simp[PU]
       |some a' =>
        have hf':=aeE hf;obtain⟨h6,_,h7,_⟩:=Bf hf';rw[mW c0 _ _ xb' (h3a a')]at h6;simp only[Option.some.injEq,AV.bK.injEq]at h6;have h8:(alts.get a').1=(alts.get al).1:=by omega
        congr 1;have nH:∀a:Fin alts.length,(alts.map fun a=>(a.1,a.2.2))[a.val]? = some ((alts.get a).1,(alts.get a).2.2):=fun a=>by rw[List.getElem?_map,List.getElem?_eq_getElem a.isLt];rfl
        have e1:=nH a';have e2:=nH al;rw[h8,←h7]at e1;exact Fin.ext ((List.getElem?_inj (by simp) Ec).1 (e1.trans e2.symm))
      rw[key];rfl
    ·cases h3
  have e:bM bs (.eX b alts::r) hh is (bf (.eX b alts::r) ids2 nb m y)=(match nt bs hh is b alts (uK b nb alts y.1),bM bs r hh is (bf r ids2 nb (m+1) y.2) with
   |some x,some y=>some ((x,y):Option (Fin alts.length×Nat)×lL r)
   |_,_=>none):=rfl
  rw[e];generalize nt bs hh is b alts (uK b nb alts y.1)=o1 at h1 ⊢;generalize bM bs r hh is (bf r ids2 nb (m+1) y.2)=o2 at h2 ⊢;subst h1;subst h2;rfl
 |.agg c::r,ids2,m,y,hk,hg=>by
  simp only[qG,List.all_cons,Bool.and_eq_true,Du]at hk;simp only[ak]at hg;have h1:=pI (hh:=hh) c m y.1 (fun e he=>hg e (acq _ he));have h2:=lX hl Uj r ids2 (m+1) y.2 hk.2 (fun e he=>hg e (ac2 _ he));have e:bM bs (.agg c::r) hh is (bf (.agg c::r) ids2 nb m y)=(match cQ c hh (aI c m y.1),bM bs r hh is (bf r ids2 nb (m+1) y.2) with
   |some x,some y=>some ((x,y):qD c×lL r)
   |_,_=>none):=rfl
  rw[e];generalize cQ c hh (aI c m y.1)=o1 at h1 ⊢;generalize bM bs r hh is (bf r ids2 nb (m+1) y.2)=o2 at h2 ⊢;subst h1;subst h2;rfl
def pJ(g:aS)(x:g.A):Hp:=(bC g.bs (aU g.bs.length) 2000 x.2).get
def jU(g:aS)(y:g.B):Heap:=bC g.bs (aU g.bs.length) 2000 y.2++ak g.rs 3000 y.1
def FA(g:aS)(x:g.A):List AV:=(aZ g.ps (aU g.bs.length) 0 x.1).map (·.2)
def Ed(P:Program)(f:FuncId)(g:aS)(x:g.A)(y:g.B):Prop :=∀(Z:Nat→Prop) (ψ0:Nat→Value) (w:World) (kq:List Value),Good Z ψ0 (pJ g x) w w.heap.size (Own ψ0 (pJ g x))→aq Z ψ0 (pJ g x) w (FA g x) kq → Calls P (f%1000) kq.toArray w fun e w'=>∃v Z' ψ',e=.returned v∧(∀b,Z b→Z' b)∧(∀b,Z' b→Z b∨Own ψ0 (pJ g x) b∨w.heap.size≤b)∧dg ψ0 (pJ g x) w w' ∧ Good Z' ψ' (jU g y).get w' w.heap.size (Own ψ0 (pJ g x))∧(∀i∈aU g.bs.length,ψ' i=ψ0 i)∧aC Z' ψ' (jU g y).get w' (fh (bf g.rs (aU g.bs.length) 2000 3000 y.1)) v
theorem FB{ψ:Nat→Value}{b:Nat}:¬Own ψ gq b:=fun⟨_,h,_⟩=>h rfl
theorem vd(ids:List Nat)(n:Nat)(x:wH []):bC [] ids n x=[]:=by cases ids<;>rfl
theorem Ed.zero{f:FuncId}{g:aS}{x:g.A}{y:g.B}(hb:g.bs=[])(c:Ed P f g x y):aav P f g x y:=by
 obtain⟨ps,bs,rs,_⟩:=g;simp only at hb;subst hb;intro Z w kq hz hr;have e0:pJ ⟨ps,[],rs,_⟩ x=gq:=by unfold pJ;rw[vd];rfl
 have e1:jU ⟨ps,[],rs,_⟩ y=ak rs 3000 y.1:=by unfold jU;rw[vd];rfl
 have hO:Own JZ gq=fun _=>False:=funext fun b=>propext ⟨FB,False.elim⟩;unfold Ed at c;rw[e0,e1]at c;refine(c Z JZ w kq ⟨fun _ _ _ h=>(by cases h),fun _ _ _ h=>(by cases h),fun _ _ h=>absurd rfl h,fun _ _ _ h=>absurd rfl h,hz⟩ hr).mono fun e w' ⟨v,Z',ψ',h1,h2,h3,h4,h5,_,h6⟩=>?_;exact⟨v,Z',ψ',h1,h2,fun b hb=>(h3 b hb).imp (fun h=>h) fun h=>h.resolve_left FB,h4,by rw[hO]at h5;exact h5,h6⟩
theorem HB{bs:List BK}{hh:Heap}{x:wH bs}(hd:dd bs hh []=some x):bs=[]:=by
 cases bs with
 |nil=>rfl
 |cons b r=>cases hd
variable {Eqs:TypeId→Option K} {Sg:FuncId→Option aS} {F:(f:FuncId)→(g:aS)→g.A→Option g.B}
theorem HC{a b:List Nat}(h:cj (a++b)=true):cj a=true:=by
 induction a with
 |nil=>rfl
 |cons i r ih =>
  obtain⟨h1,h2⟩:=mS h;simp only[cj,Bool.and_eq_true,Bool.not_eq_true'];refine⟨?_,ih h2⟩
  cases hc:r.contains i with
  |false=>rfl
  |true=>exact absurd (acq _ (List.contains_iff_mem.1 hc)) h1
theorem Good.FC(g:Good Z ψ h w B0 O)(B:Nat):Good Z ψ h w B (Own ψ h) :=⟨g.box,g.row,fun id b h1 h2=>⟨(g.live id b h1 h2).1,.inr ⟨id,h1,h2⟩⟩,g.apart,g.jO⟩
theorem oq:∀(l:List Nat) (hh:Heap) (i:Nat),(gY hh l).get i=if i∈l then none else hh.get i
 |[],hh,i=>by simp[gY]
 |j::r,hh,i=>by
  simp only[gY];rw[oq r (hh.del j) i];by_cases h1:i∈r
  ·simp[h1]
  ·by_cases h2:i=j
   ·subst h2;simp[Heap.gH]
   ·rw[Heap.iz h2];simp[h1,h2]
theorem hY:∀(dx:List CK) (n:Nat) (x:qD dx),(bm dx n x).map (·.1)=cq dx n
 |[],_,_=>rfl
 |.val k::r,n,x=>hY r (n+1) x.2
 |.own ok::r,n,x=>by simp only[bm,cq,List.map_cons];rw[hY r (n+1) x.2]
theorem lY:∀(bs:List BK) (is:List Nat) (n:Nat) (x:wH bs),is.length=bs.length→(bC bs is n x).map (·.1)=cc bs is n
 |[],is,n,x,_=>by cases is<;>rfl
 |b::r,[],n,x,hl=>by simp at hl
 |b::r,i::is,n,x,hl=>by
  simp only[bC,cc,List.map_append];rw[lY r is (n+16) x.2 (by simpa using hl),←List.cons_append];congr 1
  cases b with
  |box ty c=>simp only[jh,List.map_cons,BK.dx];rw[hY]
  |own ok=>simp[jh,BK.dx,cq]
theorem fP:∀(rs:List RK) (m:Nat) (y:lL rs),(ak rs m y).map (·.1)=bD rs m
 |[],_,_=>rfl
 |.own ok::r,m,y=>by simp only[ak,bD,List.map_cons];rw[fP r (m+1) y.2]
 |.val _::r,m,y=>fP r (m+1) y.2
 |.eX _ _::r,m,y=>fP r (m+1) y.2
 |.agg c::r,m,y=>by have e1:(bm c m y.1).map (·.1)=cq c m:=hY c m y.1;simp only[ak,bD,List.map_append];rw[fP r (m+1) y.2];exact congrArg (·++_) e1
theorem pK:∀(dx:List CK) (n:Nat) (x:qD dx),fT dx (aI dx n x)=cq dx n
 |[],_,_=>rfl
 |.val k::r,n,x=>by
  have h2:(aI (.val k::r) n x).drop k.sz=aI r (n+1) x.2:=by simp only[aI];rw[←fB k x.1,List.drop_left]
  have e:fT (.val k::r) (aI (.val k::r) n x)=fT r ((aI (.val k::r) n x).drop k.sz):=by generalize aI (.val k::r) n x=l;cases l<;>rfl
  rw[e,h2,pK r (n+1) x.2];rfl
 |.own ok::r,n,x=>by simp only[aI,fT,o8,cq,List.cons_append,List.nil_append];rw[pK r (n+1) x.2]
theorem yJ{hh:Heap}:∀(bs:List BK) (is:List Nat) (n:Nat) (x:wH bs),is.length=bs.length→(∀e∈bC bs is n x,hh.get e.1=some e.2)→de bs hh is=cc bs is n
 |[],is,n,x,_,_=>by cases is<;>rfl
 |_::_,[],n,x,hl,_=>by simp at hl
 |b::r,i::is,n,x,hl,hg=>by
  simp only[bC]at hg;simp only[de,cc];rw[yJ r is (n+16) x.2 (by simpa using hl) (fun e he=>hg e (List.mem_append_right _ he)),←List.cons_append];congr 1
  cases b with
  |box ty c =>simp only[j9,BK.dx];rw[hg (i,.box ty (aI c n x.1)) (List.mem_append_left _ (by simp only[jh];exact List.mem_cons_self))];simp only[];rw[pK]
  |own ok=>simp[j9,BK.dx,cq]
theorem kr:∀(rs:List RK) (ids:List Nat) (n m:Nat) (y:lL rs),dS rs (bf rs ids n m y)=bD rs m
 |[],_,_,_,_=>rfl
 |.own ok::r,ids,n,m,y=>by simp only[bf,dS,bD,o8,List.cons_append,List.nil_append];rw[kr r ids n (m+1) y.2]
 |.val _::r,ids,n,m,y=>by simp only[bf,dS,bD];exact kr r ids n (m+1) y.2
 |.eX _ _::r,ids,n,m,y=>by simp only[bf,dS,bD];exact kr r ids n (m+1) y.2
 |.agg c::r,ids,n,m,y=>by have e1:fT c (aI c m y.1)=cq c m:=pK c m y.1;simp only[bf,dS,bD,AV.cells];rw[kr r ids n (m+1) y.2];exact congrArg (·++_) e1
theorem lZ:∀(rs:List RK) (ids:List Nat) (n m:Nat) (y:lL rs) (id:Nat),AV.bK id∉gi rs (bf rs ids n m y)
 |[],_,_,_,_,_=>by simp[bf,gi]
 |.own ok::r,ids,n,m,y,id=>by simp only[bf,gi];exact lZ r ids n (m+1) y.2 id
 |.val k::r,ids,n,m,y,id=>by
  simp only[bf,gi,List.mem_append];rintro(h|h)
  ·have e:(cp k y.1).cells=enc k y.1:=tZ k y.1;exact lW k y.1 id (e▸h)
  ·exact lZ r ids n (m+1) y.2 id h
 |.eX _ _::r,ids,n,m,y,id=>by simp only[bf,gi];exact lZ r ids n (m+1) y.2 id
 |.agg c::r,ids,n,m,y,id=>by
  simp only[bf,gi,AV.cells,List.mem_append];rintro(h|h)
  ·exact zZ (hh:=[]) c m y.1 id h
  ·exact lZ r ids n (m+1) y.2 id h
theorem NP{gg:aS}{x:gg.A}{y:gg.B}{Ql:List Nat}{nV ed:Nat→Value}{id:Nat}(hl:Ql.length=gg.bs.length)(Ya:qG gg.bs gg.rs=true)(ve:cj (qE gg)=true) (Bh:cj (cc gg.bs Ql id++bD gg.rs (id+128))=true) (Qm:Good Z' ed (jU gg y).get w' w.heap.size (Own nV (pJ gg x))) {v:Value} (afG:aC Z' ed (jU gg y).get w' (fh (bf gg.rs (aU gg.bs.length) 2000 3000 y.1)) v) :
  ∃L2:List yC,dH L2=bC gg.bs Ql id y.2++ak gg.rs (id+128) y.1∧L2.map (·.1)=cc gg.bs Ql id++bD gg.rs (id+128) ∧ Good Z' (eZ ed L2) (dH L2).get w' w.heap.size (Own nV (pJ gg x))∧(∀p∈(aU gg.bs.length).zip Ql,eZ ed L2 p.2=ed p.1) ∧ aC Z' (eZ ed L2) (dH L2).get w' (fh (bf gg.rs Ql id (id+128) y.1)) v:=by
 have hle:(aU gg.bs.length).length=gg.bs.length:=by simp[aU]
 have hn2:cj ((jU gg y).map (·.1))=true:=by unfold jU;rw[List.map_append,lY _ _ _ _ hle,fP];exact ve
 have Uj:∀e∈bC gg.bs (aU gg.bs.length) 2000 y.2,(jU gg y).get e.1=some e.2:=fun e he=>w6 hn2 (by unfold jU;exact acq _ he);have hgr:∀e∈ak gg.rs 3000 y.1,(jU gg y).get e.1=some e.2:=fun e he=>w6 hn2 (by unfold jU;exact ac2 _ he);have zR:=yH gg.bs _ 2000 y.2 hle Uj;have UR:=lX (xb:=y.2) hle Uj gg.rs (aU gg.bs.length) 3000 y.1 Ya hgr
 let vsC:=bf gg.rs (aU gg.bs.length) 2000 3000 y.1
 let L2:List yC:=cE gg.bs (jU gg y) (aU gg.bs.length) Ql id y.2++cH gg.rs vsC (id+128) y.1
 have eH:dH L2=bC gg.bs Ql id y.2++ak gg.rs (id+128) y.1:=by show dH (_++_)=_;rw[mU,jm _ _ _ _ _ _ zR hl,gI]
 have eN:L2.map (·.1)=cc gg.bs Ql id++bD gg.rs (id+128):=by show(_++_:List yC).map _=_;rw[List.map_append,g8 _ _ _ _ _ _ zR hl,fO]
 have eS:L2.filterMap (·.2.1)=qE gg:=by show(_++_:List yC).filterMap _=_;rw[List.filterMap_append,kl _ _ _ _ _ _ zR hl,iM _ _ _ _ UR,yJ _ _ 2000 y.2 hle Uj,kr];rfl
 have hn:cj (L2.map (·.1))=true:=by rw[eN];exact Bh
 have jf:=zU (ψ:=ed) hn;have g3:Good Z' (eZ ed L2) (dH L2).get w' w.heap.size (Own nV (pJ gg x)):=by
  refine Qm.rename hn (by rw[eS];exact ve) fun e he=>?_;rcases ac8.1 he with he|he
  ·exact lT Qm (fun _ h=>h) gg.bs _ _ id y.2 zR (fun i b bS _ _=>(Bg gg.bs _ 2000 y.2 i Uj bS).elim) (fun s _=>rfl) (fun e he=>jf e (acq _ he)) e he
  ·exact jT gg.rs vsC (id+128) y.1 UR (fun s _=>rfl) e he
 refine⟨L2,eH,eN,g3,fun p hp=>?_,?_⟩
 ·obtain⟨o,ho⟩:=km (hh:=jU gg y) gg.bs (aU gg.bs.length) Ql id y.2 hle p hp;exact iL hn (acq _ ho)
 ·refine tX (by rw[kc,kc]) (fun vs tN=>?_) afG;exact sd (nb:=id) (is':=Ql) Qm (fun _ h=>h) zR hl (fun e he=>jf e (acq _ he)) gg.rs vsC (id+128) y.1 vs UR (fun i b bS _ _=>(lZ gg.rs _ _ _ y.1 i bS).elim) (fun e he=>jf e (ac2 _ he)) tN
theorem NQ{hh:Heap}{kO:List AV}{kept:List Nat}{qy:Hp}{nV Qn:Nat→Value}{H2:Heap}(g:Good Z ψ hh.get w B0 O)(hB:B0≤w.heap.size)(J0:∀s∈kept,(cM hh kO).get s=hh.get s) (bz:∀i ty cs,hh.get i=some (.box ty cs)→aG (fun i=>¬N i) cs) (tP:∀b,Own nV qy b→∃s,s∈kept∧hh.get s≠none∧ob (ψ s)=some b) (hz:∀b,qB Z ψ hh.get kO b→Z' b) (Pw:∀b,Z' b→qB Z ψ hh.get kO b∨Own nV qy b∨w.heap.size≤b) (keep:dg nV qy w w') (g3:Good Z' Qn H2.get w' w.heap.size (Own nV qy)) (Uk:∀i ty cs,H2.get i=some (.box ty cs)→aG (fun j=>H2.get j≠none) cs) (nG:∀i,H2.get i≠none→(i∈kept∧hh.get i≠none∧Qn i=ψ i)∨N i) :
  ∃Bi,(∀i,H2.get i≠none→Bi i=Qn i)∧Next Z ψ hh.get w B0 O N Z' Bi (H2++gY (cM hh kO) kept).get w':=by
 classical
 let Bi:Nat→Value:=fun i=>if H2.get i≠none then Qn i else ψ i
 have h4:∀i,H2.get i≠none→Bi i=Qn i:=fun i hi=>if_pos hi;have hg:∀i,(H2++gY (cM hh kO) kept).get i=(match H2.get i with|some o=>some o|none=>if i∈kept then none else(cM hh kO).get i):=fun i=>by rw[Heap.get_append,oq];cases H2.get i<;>rfl
 have Dx:∀i,H2.get i≠none→(H2++gY (cM hh kO) kept).get i=H2.get i:=fun i hi=>by
  rw[hg];cases e:H2.get i with
  |none=>exact absurd e hi
  |some o=>rfl
 have yK:∀i,H2.get i=none→(H2++gY (cM hh kO) kept).get i≠none→i∉kept∧(H2++gY (cM hh kO) kept).get i=hh.get i∧(cM hh kO).get i=hh.get i∧Bi i=ψ i∧hh.get i≠none:=fun i hi bw=>by
  rw[hg,hi]at bw ⊢;simp only at bw ⊢;by_cases hk:i∈kept
  ·rw[if_pos hk]at bw;exact absurd rfl bw
  ·rw[if_neg hk]at bw ⊢;obtain⟨o,ho⟩:=ac9.1 bw;have:=ep _ _ _ _ ho;exact⟨hk,by rw[ho,this],by rw[ho,this],if_neg (by simp[hi]),by rw[this];simp⟩
 have US:∀i b,i∉kept→hh.get i≠none→ob (ψ i)=some b→¬Own nV qy b:=fun i b hk hi hb ho=>by obtain⟨s,h1,h2,h3⟩:=tP b ho;exact hk ((g.apart i s b hi h2 hb h3)▸h1)
 have gd:Good (qB Z ψ hh.get kO) ψ (cM hh kO).get w B0 O:=iA g kO;have aaE:∀b,qB Z ψ hh.get kO b→¬Own nV qy b:=fun b hb ho=>by obtain⟨s,h1,h2,h3⟩:=tP b ho;exact(gd.live s b (by rw[J0 s h1];exact h2) h3).1 hb
 have sm:cy (qB Z ψ hh.get kO) w w':=fun b hb=>keep.block b (gd.jO b hb) (aaE b hb);have aaF:∀i,(H2++gY (cM hh kO) kept).get i≠none→(hh.get i≠none∧Bi i=ψ i)∨N i:=fun i hi=>by
  by_cases h2:H2.get i=none
  ·obtain⟨_,_,_,h3,h5⟩:=yK i h2 hi;exact .inl ⟨h5,h3⟩
  ·rcases nG i h2 with⟨_,h3,h5⟩|h3
   ·exact .inl ⟨h3,(h4 i h2).trans h5⟩
   ·exact .inr h3
 have kk:dg ψ hh.get w w':=⟨keep.os,keep.tape,keep.output,keep.size,fun b hb qU=>keep.block b hb fun ho=>by obtain⟨s,_,h2,h3⟩:=tP b ho;exact qU ⟨s,h2,h3⟩⟩;refine⟨Bi,h4,fun b hb=>hz b (.inl hb),fun b hb=>?_,kk,aaF,⟨fun i ty cs hb=>?_,fun i ok xs hb=>?_,fun i b h1 h2=>?_,fun i i' b h1 h2 h3 h5=>?_,g3.jO⟩⟩
 ·rcases Pw b hb with h1|h1|h1
  ·exact(h1.imp (fun h=>h) fun⟨i,_,h2,h3⟩=>.inl ⟨i,h2,h3⟩)
  ·obtain⟨s,_,h2,h3⟩:=tP b h1;exact .inr (.inl ⟨s,h2,h3⟩)
  ·exact .inr (.inr h1)
 ·by_cases h2:H2.get i=none
  ·obtain⟨h3,h5,h6,h7,h8⟩:=yK i h2 (by rw[hb];simp);rw[h5]at hb;obtain⟨gg,vs,e1,e2,e3,e4⟩:=gd.box i ty cs (by rw[h6];exact hb);have aF:=(acr.1 e2).1;refine⟨gg,vs,by rw[h7,e1],?_,?_,e4⟩
   ·rw[keep.block gg aF (US i gg h3 h8 (by rw[e1];rfl))];exact e2
   ·refine e3.move (p:=fun i=>¬N i) hz sm (fun j hp hj=>?_) (bz i ty cs hb);by_cases h9:H2.get j=none
    ·obtain⟨_,_,nF,zq,JX⟩:=yK j h9 hj;exact⟨by rw[nF];exact JX,zq⟩
    ·rcases nG j h9 with⟨nF,zq,JX⟩|nF
     ·exact⟨by rw[J0 j nF];exact zq,(h4 j h9).trans JX⟩
     ·exact absurd nF hp
  ·rw[Dx i h2]at hb;obtain⟨gg,vs,e1,e2,e3,e4⟩:=g3.box i ty cs hb;exact⟨gg,vs,by rw[h4 i h2,e1],e2,e3.move (p:=fun j=>H2.get j≠none) (fun _ h=>h) (cy.refl _ _) (fun j hp _=>⟨hp,h4 j hp⟩) (Uk i ty cs hb),e4⟩
 ·by_cases h2:H2.get i=none
  ·obtain⟨h3,h5,h6,h7,h8⟩:=yK i h2 (by rw[hb];simp);rw[h5]at hb;rw[h7];exact(gd.row i ok xs (by rw[h6];exact hb)).kept hz sm fun gg Ns=>keep.block gg (g.bT ⟨i,h8,Ns⟩) (US i gg h3 h8 Ns)
  ·rw[Dx i h2]at hb;rw[h4 i h2];exact g3.row i ok xs hb
 ·by_cases h3:H2.get i=none
  ·obtain⟨h5,h6,h7,h8,h9⟩:=yK i h3 h1;rw[h8]at h2;obtain⟨nF,zq⟩:=gd.live i b (by rw[h7];exact h9) h2;refine⟨fun hzb=>?_,zq⟩;rcases Pw b hzb with JX|JX|JX
   ·exact nF JX
   ·exact US i b h5 h9 h2 JX
   ·have:=g.bT ⟨i,h9,h2⟩;omega
  ·rw[h4 i h3]at h2;obtain⟨h5,h6⟩:=g3.live i b h3 h2;refine⟨h5,?_⟩;rcases h6 with h6|h6
   ·exact .inl (by omega)
   ·obtain⟨s,_,h7,h8⟩:=tP b h6;exact(g.live s b h7 h8).2
 ·have yn:∀i i',H2.get i=none→H2.get i'≠none→(H2++gY (cM hh kO) kept).get i≠none→ob (Bi i)=some b→ob (Bi i')=some b→False:=fun i i' e1 e2 e3 e4 e5=>by
   obtain⟨h6,_,_,h8,h9⟩:=yK i e1 e3;rw[h8]at e4;rw[h4 i' e2]at e5;rcases (g3.live i' b e2 e5).2 with nF|nF
   ·have:=g.bT ⟨i,h9,e4⟩;omega
   ·exact US i b h6 h9 e4 nF
  by_cases e1:H2.get i=none<;>by_cases e2:H2.get i'=none
  ·obtain⟨_,_,_,h8,h9⟩:=yK i e1 h1;obtain⟨_,_,_,h8',h9'⟩:=yK i' e2 h2;rw[h8]at h3;rw[h8']at h5;exact g.apart i i' b h9 h9' h3 h5
  ·exact(yn i i' e1 e2 h1 h3 h5).elim
  ·exact(yn i' i e2 e1 h2 h5 h3).elim
  ·rw[h4 i e1]at h3;rw[h4 i' e2]at h5;exact g3.apart i i' b e1 e2 h3 h5
theorem z5{i:Nat}{o:Ob}:∀{hh:Heap},(i,o)∈hh→hh.get i≠none
 |[],h=>by cases h
 |(j,o')::r,h=>by
  simp only[Heap.get]
  split
  ·simp
  ·rename_i hn;rcases acp.1 h with e|h
   ·cases e;exact absurd rfl hn
   ·exact z5 h
theorem get_mem{i:Nat}{o:Ob}:∀{hh:Heap},hh.get i=some o→(i,o)∈hh
 |[],h=>by simp[Heap.get]at h
 |(j,o')::r,h=>by
  simp only[Heap.get]at h
  split at h
  ·rename_i e;subst e;cases h;exact ac4
  ·exact acm _ (get_mem h)
theorem pM{p:Nat→Prop}:∀{a b:List AV},aG p a→aG p b→aG p (a++b)
 |[],b,_,h=>h
 |x::r,b,h,h'=>by simp only[List.cons_append,aG]at h ⊢;exact⟨h.1,pM h.2 h'⟩
theorem kd{p:Nat→Prop}:∀(dx:List CK) (n:Nat) (x:qD dx),(∀e∈bm dx n x,p e.1)→aG p (aI dx n x)
 |[],n,x,_=>by simp only[aI,aG]
 |.val k::r,n,x,h=>by simp only[aI];exact pM (lV p k x.1) (kd r (n+1) x.2 h)
 |.own ok::r,n,x,h=>by simp only[bm]at h;simp only[aI,aG,aM];exact⟨h _ ac4,kd r (n+1) x.2 fun e he=>h e (acm _ he)⟩
theorem mX:∀(dx:List CK) (n:Nat) (x:qD dx) (i:Nat) (ty:TypeId) (cs:List AV),(i,Ob.box ty cs)∉bm dx n x
 |[],_,_,_,_,_=>by simp[bm]
 |.val k::r,n,x,i,ty,cs=>mX r (n+1) x.2 i ty cs
 |.own _::r,n,x,i,ty,cs=>by simp only[bm,List.mem_cons,not_or];exact⟨by simp,mX r (n+1) x.2 i ty cs⟩
theorem tg{p:Nat→Prop}:∀(bs:List BK) (is:List Nat) (n:Nat) (x:wH bs),(∀e∈bC bs is n x,p e.1)→∀i ty cs,(i,Ob.box ty cs)∈bC bs is n x→aG p cs
 |[],is,n,x,_,i,ty,cs,h=>by cases is<;>simp[bC]at h
 |b::r,[],n,x,_,i,ty,cs,h=>by simp[bC]at h
 |b::r,i0::is,n,x,hp,i,ty,cs,h=>by
  simp only[bC]at h hp;rcases ac8.1 h with h|h
  ·cases b with
   |box ty0 c0 =>
    simp only[jh]at h hp;rcases acp.1 h with e|h
    ·cases e
     exact kd c0 n x.1 fun e he=>hp e (acq _ (acm _ he))
    ·exact absurd h (mX _ _ _ _ _ _)
   |own ok=>simp[jh]at h
  ·exact tg r is (n+16) x.2 (fun e he=>hp e (ac2 _ he)) i ty cs h
theorem mY:∀(dx:List CK) (n i:Nat),i∈cq dx n→n≤i∧i<n+dx.length
 |[],n,i,h=>by simp[cq]at h
 |.val k::r,n,i,h=>by have:=mY r (n+1) i (by simpa[cq] using h);simp only[List.length_cons];omega
 |.own ok::r,n,i,h=>by
  simp only[cq]at h;simp only[List.length_cons];rcases acp.1 h with rfl|h
  ·omega
  ·have:=mY r (n+1) i h;omega
theorem vf:∀(bs:List BK) (is:List Nat) (n i:Nat),(bs.all fun b=>decide (b.dx.length≤16))=true→i∈cc bs is n→i∈is∨(n≤i∧i<n+16*bs.length)
 |[],is,n,i,_,h=>by cases is<;>simp[cc]at h
 |b::r,[],n,i,_,h=>by simp[cc]at h
 |b::r,i0::is,n,i,hc,h=>by
  simp only[List.all_cons,Bool.and_eq_true,decide_eq_true_eq]at hc;simp only[cc]at h;simp only[List.length_cons];rcases acp.1 h with rfl|h
  ·exact .inl ac4
  ·rcases ac8.1 h with h|h
   ·have:=mY _ _ _ h;exact .inr (by omega)
   ·rcases vf r is (n+16) i hc.2 h with h1|h1
    ·exact .inl (acm _ h1)
    ·exact .inr (by omega)
theorem jr{bs:List BK}:∀(rs:List RK) (m i:Nat),qG bs rs=true→i∈bD rs m→m≤i∧i<m+rs.length+16
 |[],m,i,_,h=>by simp[bD]at h
 |.own ok::r,m,i,hk,h=>by
  simp only[qG,List.all_cons,Bool.and_eq_true]at hk;simp only[bD]at h;simp only[List.length_cons];rcases acp.1 h with rfl|h
  ·omega
  ·have:=jr r (m+1) i hk.2 h;omega
 |.val _::r,m,i,hk,h=>by simp only[qG,List.all_cons,Bool.and_eq_true]at hk;have:=jr r (m+1) i hk.2 (by simpa[bD] using h);simp only[List.length_cons];omega
 |.eX _ _::r,m,i,hk,h=>by simp only[qG,List.all_cons,Bool.and_eq_true]at hk;have:=jr r (m+1) i hk.2 (by simpa[bD] using h);simp only[List.length_cons];omega
 |.agg c::r,m,i,hk,h=>by
  simp only[qG,List.all_cons,Bool.and_eq_true,Du,decide_eq_true_eq]at hk;simp only[bD]at h;simp only[List.length_cons];rcases ac8.1 h with h|h
  ·have:=mY c m i h;omega
  ·have:=jr r (m+1) i hk.2 h;omega
theorem yL{hh:Heap}:∀(bs:List BK) (is:List Nat) (i:Nat),is.length=bs.length→i∈is→i∈de bs hh is
 |[],is,i,hl,h=>by cases is with
  |nil=>cases h
  |cons a r=>simp at hl
 |b::r,[],i,_,h=>by cases h
 |b::r,i0::is,i,hl,h=>by
  simp only[de];rcases acp.1 h with rfl|h
  ·refine acq _ ?_
   cases b<;>simp[j9]
  ·exact ac2 _ (yL r is i (by simpa using hl) h)
theorem Qo{α β:Type}:∀{a:List α} {b:List β},a.length=b.length→∀x∈a,∃y,(x,y)∈a.zip b∧(y,x)∈b.zip a
 |[],b,_,x,h=>by cases h
 |a::r,[],hl,x,_=>by simp at hl
 |a::r,c::q,hl,x,h=>by
  simp only[List.zip_cons_cons];rcases acp.1 h with rfl|h
  ·exact⟨c,ac4,ac4⟩
  ·obtain⟨y,h1,h2⟩:=Qo (a:=r) (b:=q) (by simpa using hl) x h;exact⟨y,acm _ h1,acm _ h2⟩
theorem ub:∀(dx:List CK) (n c:Nat),fY dx c=true→n+c∈cq dx n
 |[],n,c,h=>by simp[fY]at h
 |.own _::r,n,0,_=>by simp[cq]
 |.own _::r,n,c+1,h=>by simp only[fY]at h;have:=ub r (n+1) c h;simp only[cq];exact acm _ (by rwa [show n+(c+1)=n+1+c by omega])
 |.val _::r,n,0,h=>by simp[fY]at h
 |.val _::r,n,c+1,h=>by
  simp only[fY]at h;have:=ub r (n+1) c h;simp only[cq]
  rwa [show n+(c+1)=n+1+c by omega]
theorem yM:∀(bs:List BK) (is:List Nat) (n b i:Nat) (bk:BK),is.length=bs.length→bs[b]? = some bk→i∈cq bk.dx (n+16*b)→i∈cc bs is n
 |[],_,_,b,_,_,_,h,_=>by simp at h
 |_::_,[],_,_,_,_,hl,_,_=>by simp at hl
 |b0::r,i0::is,n,0,i,bk,hl,hb,hi=>by simp only[List.getElem?_cons_zero,Option.some.injEq]at hb;subst hb;simp only[cc];exact acm _ (acq _ (by simpa using hi))
 |b0::r,i0::is,n,b+1,i,bk,hl,hb,hi=>by
  simp only[List.getElem?_cons_succ]at hb;simp only[cc];refine acm _ (ac2 _ (yM r is (n+16) b i bk (by simpa using hl) hb ?_))
  rwa [show n+16+16*b=n+16*(b+1) by omega]
theorem kt{p:Nat→Prop}{bs:List BK}{is:List Nat}(hl:is.length=bs.length):∀(rs:List RK) (ids:List Nat) (n m:Nat) (y:lL rs),qG bs rs=true→(∀i∈bD rs m,p i)→(∀i∈cc bs is n,p i)→aG p (bf rs ids n m y)
 |[],_,_,_,_,_,_,_=>by simp only[bf,aG]
 |.val k::r,ids,n,m,y,hr,h1,h2=>by simp only[qG,List.all_cons,Bool.and_eq_true,Du]at hr;simp only[bf,aG];exact⟨oo p k y.1,kt hl r ids n (m+1) y.2 hr.2 (fun i hi=>h1 i hi) h2⟩
 |.own _::r,ids,n,m,y,hr,h1,h2=>by simp only[qG,List.all_cons,Bool.and_eq_true,Du]at hr;simp only[bf,aG,aM];exact⟨h1 m (by simp[bD]),kt hl r ids n (m+1) y.2 hr.2 (fun i hi=>h1 i (by simp only[bD];exact acm _ hi)) h2⟩
 |.eX b alts::r,ids,n,m,y,hr,h1,h2=>by
  simp only[qG,List.all_cons,Bool.and_eq_true,Du]at hr;simp only[bf,aG];refine⟨?_,kt hl r ids n (m+1) y.2 hr.2 (fun i hi=>h1 i hi) h2⟩
  cases hy:y.1 with
  |none=>simp only[uK,aM]
  |some p =>
   obtain⟨al,i⟩:=p;simp only[uK,aM]
   cases hb:bs[b]? with
   |none=>rw[hb]at hr;exact absurd hr.1 (by simp)
   |some bk =>rw[hb]at hr;simp only[Bool.and_eq_true]at hr;exact h2 _ (yM bs is n b _ bk hl hb (ub bk.dx (n+16*b) _ (adK.1 hr.1.1 _ (List.get_mem alts al))))
 |.agg c::r,ids,n,m,y,hr,h1,h2=>by simp only[qG,List.all_cons,Bool.and_eq_true,Du]at hr;simp only[bf,aG,aM];refine⟨kd c m y.1 fun e he=>h1 _ ?_,kt hl r ids n (m+1) y.2 hr.2 (fun i hi=>h1 i (by simp only[bD];exact ac2 _ hi)) h2⟩;simp only[bD];have e1:(bm c m y.1).map (·.1)=cq c m:=hY c m y.1;exact acq _ (e1▸adE.2 ⟨e,he,rfl⟩)
theorem Kv{p:Nat→Prop}{vs:List AV}(h:aG p vs):aM p (fh vs):=by
 match vs,h with
 |[],h=>simp only[fh,aM];exact h
 |[v],h=>simp only[fh];simp only[aG]at h;exact h.1
 |_::_::_,h=>simp only[fh,aM];exact h
def iC(P:Program)(f:FuncId)(u:Heap→Nat→List AV→Option (Bool×bL)):Prop :=∀{Z:Nat→Prop} {ψ:Nat→Value} {h:Hp} {w:World} {B0:Nat} {O N:Nat→Prop} {hh:Heap} {id:Nat} {e:bL} {vs:List AV} {us:List Value},Good Z ψ h w B0 O→B0≤w.heap.size→(∀id o,hh.get id=some o→h id=some o)→(∀j,j<256→N (id+j))→(∀i ty cs,h i=some (.box ty cs)→aG (fun i=>¬N i) cs)→(∀v hw,e=.wr v hw→hh.get=h) → aq Z ψ h w vs us→aG (fun i=>¬N i) vs→u hh id vs=some (true,e) → Calls P f us.toArray w fun en w'=>∃V Z' ψ',en=.returned V∧Next Z ψ h w B0 O N Z' ψ' (e.hp h) w'∧aC Z' ψ' (e.hp h) w' e.v V
theorem UT{R:Type}{n:Nat}(a:Fin n)(f:Fin n→Option R):aah n a f=f a:=by
 have key:∀l:List (Fin n),a∈l→l.foldr (fun j r=>cond (a.val==j.val) (f j) r) none=f a:=by
  intro l
  induction l with
  |nil=>intro h;cases h
  |cons j r ih =>
   intro h;simp only[List.foldr_cons];by_cases e:a=j
   ·subst e;simp
   ·have:(a.val==j.val)=false:=by simp only[beq_eq_false_iff_ne,ne_eq];exact fun h=>e (Fin.ext h)
    rw[this,cond_false];rcases acp.1 h with h|h
    ·exact absurd h e
    ·exact ih h
 exact key _ (List.mem_finRange a)
theorem iO{R:Type}:∀(rs:List RK) (x:lL rs) (K:lL rs→Option R),jM rs x K=K x
 |[],_,_=>rfl
 |.val _::r,x,K=>by simp only[jM];rw[iO r x.2];rfl
 |.own _::r,x,K=>by simp only[jM];rw[iO r x.2];rfl
 |.agg _::r,x,K=>by simp only[jM];rw[iO r x.2];rfl
 |.eX _ alts::r,x,K=>by
  simp only[jM];obtain⟨x1,x2⟩:=x
  cases x1 with
  |none=>simp only[qH];rw[iO r x2]
  |some p=>simp only[qH];rw[UT,iO r x2]
theorem Kw(hX:∀f g u,Sg f=some g→g.x=some u→iC P (f%1000) u)(hF:∀f g x y,Sg f=some g→F f g x=some y→Ed P f g x y)(NR:∀f g,Sg f=some g→jo P (f%1000)) {hh:Heap} {ρC:Operand→Value} {o:Oper} (g:Good Z ψ h w B0 O) (hB:B0≤w.heap.size) (bE:∀id o,hh.get id=some o→h id=some o) {id:Nat} (hN:∀j,j<256→N (id+j)) {e:bL} (bz:∀i ty cs,h i=some (.box ty cs)→aG (fun i=>¬N i) cs) (nS:∀v hw,e=.wr v hw→hh.get=h) {f:FuncId} {cap vs:List AV} {fv:Value} {us:List Value} (UU:aC Z ψ h w (.fn f cap) fv) (tN:aq Z ψ h w vs us) (Fx:aG (fun i=>¬N i) (vs++cap)) (hex:∀(ws:Array Value),fv=.func (.func f) #[] ws→execOp ρC o=callFunc f (us.toArray++ws)) (he:ji Sg F hh id f (vs++cap) some=some e):WH P ρC o Z ψ h w B0 O N e:=by
 unfold ji at he
 split at he
 ·cases he
 rename_i gg hSg;simp only[aC]at UU;obtain⟨ws,rfl,Yb⟩:=UU;have Ee:=NR _ _ hSg;have kY:aq Z ψ h w (vs++cap) (us++ws.toList):=aq.append tN Yb;have FD:aq Z ψ hh.get w (vs++cap) (us++ws.toList):=kY.qx bE;have gs:Good Z ψ hh.get w B0 O:=g.sub bE;have Qp:us.toArray++ws=(us++ws.toList).toArray:=by simp
 split at he
 ·rename_i u hu
  split at he
  ·rename_i hf;obtain⟨⟨b,e'⟩,WJ,Ud⟩:=adG.1 he
   cases b with
   |false=>cases Ud
   |true =>
   cases Ud
   have HD:keyOf Sg f (vs++cap)%1000=f:=by rw[wY];exact Nat.mod_eq_of_lt hf
   have hx:iC P f u:=by rw[←HD];exact hX _ _ _ hSg hu
   rw[HD]at Ee;refine⟨f,us.toArray++ws,by rw[hex ws rfl];exact jq Ee _,?_⟩;rw[Qp];exact hx g hB bE hN bz nS kY Fx WJ
  ·cases he
 split at he
 ·rename_i i0 nG FE
  split at he
  ·rename_i NS;simp only[Bool.and_eq_true,List.isEmpty_iff]at NS;obtain⟨rfl,_⟩:=NS
   split at he
   rotate_left
   ·cases he
   rename_i x b hx hb qV;obtain⟨y,hy,he⟩:=adG.1 he;simp only[PV,Bool.and_eq_true,decide_eq_true_eq]at FE;obtain⟨_,_,⟨hlen,hf⟩,_⟩:=FE;have DA:=(hF _ _ _ _ hSg hy).zero (HB hb);have HD:keyOf Sg f (vs++cap)%1000=f:=by rw[wY];exact Nat.mod_eq_of_lt hf
   rw[HD]at Ee;have hN':∀j,j<gg.rs.length+16→N (id+128+j):=fun j hj=>by rw[Nat.add_assoc];exact hN _ (by omega)
   refine⟨f,us.toArray++ws,by rw[hex ws rfl];exact jq Ee _,?_⟩;rw[Qp];unfold aav at DA;rw[HD]at DA;by_cases qU:qF (vs++cap)=true
   ·rw[qU,Bool.or_true]at he
    cases he
    have h1:aq Z JZ gq w (D9 gg x) (us++ws.toList):=Ba gs (fun _ h=>h) gg.ps 0 _ _ x (fun v hv i b hi _ _=>(qW qU v hv i hi).elim) nG hx FD;refine(DA Z w _ g.jO h1).mono fun en w' ⟨v,Z',ψ',e1,h2,h3,h4,h5,h6⟩=>?_;obtain⟨ua,n,hr⟩:=wZ (nb:=id) qV g hB bz hN' h4 h2 h3 h5 h6;exact⟨v,Z',ua,e1,n,hr⟩
   ·cases hfl:gg.rs.all RK.flat with
    |true =>
     rw[hfl,Bool.true_or]at he
     cases he
     let Zc:Nat→Prop:=fun b=>b<w.heap.size
     have h1:aq Zc JZ gq w (D9 gg x) (us++ws.toList):=Ba gs g.jO gg.ps 0 _ _ x (fun v hv i b hi h1 h2=>gs.bT ⟨i,h1,h2⟩) nG hx FD;refine(DA Zc w _ (fun _ h=>h) h1).mono fun en w' ⟨v,Z',ψ',e1,h2,h3,h4,h5,h6⟩=>?_;have aaG:=NJ gg.rs 3000 y.1 hfl qV;have h7:aC Z ψ' (ak gg.rs 3000 y.1).get w' (fh (bf gg.rs [] 2000 3000 y.1)) v:=tX rfl (fun vs tN=>Qi gg.rs hfl qV tN) h6;have gz:Good Z ψ' (ak gg.rs 3000 y.1).get w' w.heap.size (fun _=>False):=by rw[aaG];exact⟨fun _ _ _ hb=>by simp[Heap.get]at hb,fun _ _ _ hb=>by simp[Heap.get]at hb,fun _ _ hb=>by simp[Heap.get]at hb,fun _ _ _ hb=>by simp[Heap.get]at hb,fun b hb=>aez (g.jO b hb) h4.size⟩
     obtain⟨ua,n,hr⟩:=wZ (nb:=id) qV g hB bz hN' h4 (fun _ h=>h) (fun _ h=>.inl h) gz h7;exact⟨v,Z,ua,e1,n,hr⟩
    |false =>
     rw[hfl,Bool.false_or,Bool.eq_false_iff.2 qU]at he
     cases he
     have heq:=nS _ _ rfl;subst heq
     let cs:=dw gg.ps (vs++cap)
     have UF:∀b,qB Z ψ hh.get cs b→Z b∨Own ψ hh.get b:=fun b hb=>hb.imp (fun h=>h) (fun⟨i,_,h2,h3⟩=>⟨i,h2,h3⟩);have gd:Good (qB Z ψ hh.get cs) ψ (cM hh cs).get w B0 O:=iA g cs;have h1:aq (qB Z ψ hh.get cs) JZ gq w (D9 gg x) (us++ws.toList) :=Ba gs (fun _ h=>.inl h) gg.ps 0 _ _ x (fun v hv i b hi h1 h2=>.inr ⟨i,vc _ _ nG v hv i hi,h1,h2⟩) nG hx FD;refine(DA _ w _ gd.jO h1).mono fun en w' ⟨v,Z',ψ',e1,h2,h3,h4,h5,h6⟩=>?_;obtain⟨ua,n,hr⟩:=wZ (nb:=id) qV gd hB (fun i ty cs hb=>bz i ty cs (ep _ _ _ _ hb)) hN' h4 h2 h3 h5 h6;have e2:(bL.wr (fh (bf gg.rs [] id (id+128) y.1)) (ak gg.rs (id+128) y.1++cM hh (dw gg.ps (vs++cap)))).hp hh.get=(fun i=>match (ak gg.rs (id+128) y.1).get i with|some o=>some o|none=>(cM hh cs).get i):=by
      funext i;simp only[bL.hp];rw[Heap.get_append]
      cases (ak gg.rs (id+128) y.1).get i<;>rfl
     rw[e2];exact⟨v,Z',ua,e1,n.drop (fun _ h=>.inl h) UF (ep _ _),hr⟩
  ·split at he
   rotate_left
   ·cases he
   rename_i x b hx hb DB;obtain⟨y,hy,he⟩:=adG.1 he;rw[iO]at he
   cases he
   have heq:=nS _ _ rfl;subst heq;simp only[PV,Bool.and_eq_true,decide_eq_true_eq]at FE;obtain⟨Ya,⟨hbl,tM⟩,⟨hlen,hf⟩,ve⟩:=FE;rw[Bool.and_eq_true]at DB;have DA:=hF _ _ _ _ hSg hy;have HD:keyOf Sg f (vs++cap)%1000=f:=by rw[wY];exact Nat.mod_eq_of_lt hf
   rw[HD]at Ee;refine⟨f,us.toArray++ws,by rw[hex ws rfl];exact jq Ee _,?_⟩;rw[Qp];unfold Ed at DA;rw[HD]at DA;have hl:i0.length=gg.bs.length:=(jn _ _ _ hb).1;have Bj:=(jn _ _ _ hb).2;have hle:(aU gg.bs.length).length=gg.bs.length:=by simp[aU]
   let kO:=dw gg.ps (vs++cap)++gh gg.bs hh i0
   let L1:List yC:=cE gg.bs hh i0 (aU gg.bs.length) 2000 b
   have eH1:dH L1=bC gg.bs (aU gg.bs.length) 2000 b:=jm _ _ _ _ _ _ hb hle;have eN1:L1.map (·.1)=cc gg.bs (aU gg.bs.length) 2000:=g8 _ _ _ _ _ _ hb hle;have eS1:L1.filterMap (·.2.1)=de gg.bs hh i0:=kl _ _ _ _ _ _ hb hle;have ZH:cj (L1.map (·.1))=true:=by rw[eN1];exact HC ve
   have X6:=zU (ψ:=ψ) ZH;have J0:=(r9 DB.1).2 hh;have yw:∀b,Z b→qB Z ψ hh.get kO b:=fun b hb=>.inl hb;have aaH:∀e∈L1,u7 (qB Z ψ hh.get kO) ψ (cM hh kO).get w (dH L1).get (eZ ψ L1) e:=fun e he =>lT gs yw gg.bs _ _ 2000 b hb (fun i b bS h1 h2=>.inr ⟨i,ac2 _ bS,h1,h2⟩) J0 X6 e he;have gin:Good (qB Z ψ hh.get kO) (eZ ψ L1) (dH L1).get w B0 O:=wX gs DB.1 ZH eS1 aaH;have ein:(dH L1).get=pJ gg (x,b):=by rw[eH1];rfl
   have Qq:∀p∈i0.zip (aU gg.bs.length),(p.2,some p.1)∈L1.map (fun e=>(e.1,e.2.1)):=fun p hp=>by obtain⟨o,ho⟩:=km (hh:=hh) gg.bs i0 (aU gg.bs.length) 2000 b hl p hp;exact adE.2 ⟨_,ho,rfl⟩
   have aaI:∀p∈i0.zip (aU gg.bs.length),eZ ψ L1 p.2=ψ p.1:=fun p hp=>by
    obtain⟨⟨i,s,o⟩,ho,he⟩:=adE.1 (Qq p hp)
    cases he
    exact iL ZH ho
   have Yc:aq (qB Z ψ hh.get kO) (eZ ψ L1) (dH L1).get w (FA gg (x,b)) (us++ws.toList) :=ly gs yw gg.ps i0 (aU gg.bs.length) 0 _ _ x (by rw[hle,hl]) nG hx (fun i b bS h1 h2=>.inr ⟨i,acq _ bS,h1,h2⟩) (fun p hp=>⟨Bj _ (List.of_mem_zip hp).1,fun _=>aaI p hp⟩) FD;have tP:∀c,Own (eZ ψ L1) (pJ gg (x,b)) c→∃s,s∈de gg.bs hh i0∧hh.get s≠none∧ob (ψ s)=some c:=fun c ⟨i,h1,h2⟩=>by
    rw[←ein]at h1;obtain⟨o,ho⟩:=ac9.1 h1;obtain⟨s,hm⟩:=om ho;rw[iL ZH hm]at h2
    cases s with
    |none=>simp[jR,ob]at h2
    |some s =>
     have hs:s∈de gg.bs hh i0:=by rw[←eS1];exact ae2.2 ⟨_,hm,rfl⟩
     refine⟨s,hs,?_,h2⟩;have h3:=aaH _ hm;rw[←J0 s hs]
     cases o with
     |box ty cs=>obtain⟨⟨cs0,h4⟩,_⟩:=h3;rw[h4];simp
     |own ok xs=>rw[show(cM hh kO).get s=some (.own ok xs) from h3];simp
   refine(DA (qB Z ψ hh.get kO) (eZ ψ L1) w (us++ws.toList) (by rw[←ein];exact gin.FC _) (by rw[←ein];exact Yc)).mono fun en w' ⟨v,Z',ed,e1,h2,h3,h4,h5,h6,h7⟩=>?_;obtain⟨L2,eH2,eN2,g3,hzz,Yd⟩:=NP (x:=(x,b)) (y:=y) (id:=id) hl Ya ve DB.2 h5 h7;have Uk:∀i ty cs,(dH L2).get i=some (.box ty cs)→aG (fun j=>(dH L2).get j≠none) cs:=fun i ty cs hg=>by
    have gV:=get_mem hg;rw[eH2]at gV;rcases ac8.1 gV with gV|gV
    ·exact tg gg.bs _ id y.2 (fun e he=>by rw[eH2];exact z5 (o:=e.2) (acq _ he)) i ty cs gV
    ·exfalso;have:∀(rs:List RK) (m:Nat) (y:lL rs),(i,Ob.box ty cs)∉ak rs m y:=by
      intro rs
      induction rs with
      |nil=>intro m y;simp[ak]
      |cons r rs ih =>
       intro m y
       cases r with
       |agg c=>simp only[ak,List.mem_append,not_or];exact⟨mX _ _ _ _ _ _,ih (m+1) y.2⟩
       |val k=>exact ih (m+1) y.2
       |eX _ _=>exact ih (m+1) y.2
       |own ok=>simp only[ak,List.mem_cons,not_or];exact⟨by simp,ih (m+1) y.2⟩
     exact this _ _ _ gV
   have aaK:∀i,(dH L2).get i≠none→(i∈de gg.bs hh i0∧hh.get i≠none∧eZ ed L2 i=ψ i)∨N i:=fun i hi=>by
    obtain⟨o,ho⟩:=ac9.1 hi;obtain⟨s,hm⟩:=om ho;have gV:i∈cc gg.bs i0 id++bD gg.rs (id+128):=by rw[←eN2];exact adE.2 ⟨_,hm,rfl⟩
    have hNr:∀i,id≤i→i<id+256→N i:=fun i h1 h2=>by
     have:=hN (i-id) (by omega)
     rwa [show id+(i-id)=i by omega]at this
    rcases ac8.1 gV with gV|gV
    ·rcases vf _ _ _ _ tM gV with h8|h8
     ·refine .inl ⟨yL _ _ _ hl h8,Bj i h8,?_⟩;obtain⟨ee,h9,nF⟩:=Qo (by rw[hle,hl]) i h8;rw[hzz (ee,i) nF];have zq:ee∈aU gg.bs.length:=(List.of_mem_zip nF).1;rw[h6 ee zq];exact aaI (i,ee) h9
     ·exact .inr (hNr i h8.1 (by omega))
    ·have h8:=jr _ _ _ Ya gV;exact .inr (hNr i (by omega) (by omega))
   obtain⟨Bi,h8,nx⟩:=NQ (N:=N) gs hB J0 bz tP h2 h3 h4 g3 Uk aaK;have eH3:(bL.wr (fh (bf gg.rs i0 id (id+128) y.1)) (bC gg.bs i0 id y.2++(ak gg.rs (id+128) y.1++gY (cM hh (dw gg.ps (vs++cap)++gh gg.bs hh i0)) (de gg.bs hh i0)))).hp hh.get =(dH L2++gY (cM hh kO) (de gg.bs hh i0)).get:=by rw[eH2,List.append_assoc];rfl
   rw[eH3];refine⟨v,Z',Bi,e1,nx,?_⟩;refine Yd.move (p:=fun j=>(dH L2).get j≠none) (fun _ h=>h) (cy.refl _ _) (fun j hp _=>⟨hp,h8 j hp⟩) ?_;refine Kv (kt hl gg.rs _ id (id+128) y.1 Ya (fun i hi=>?_) fun i hi=>?_)
   ·rw[←fP gg.rs (id+128) y.1]at hi;obtain⟨e,he,rfl⟩:=adE.1 hi;rw[eH2];exact z5 (o:=e.2) (ac2 _ he)
   ·rw[←lY gg.bs i0 id y.2 hl]at hi;obtain⟨e,he,rfl⟩:=adE.1 hi;rw[eH2];exact z5 (o:=e.2) (acq _ he)
 ·cases he
end Go.Vs
namespace Go.Vs
variable {P:Program} {Eqs:TypeId→Option K} {Sg:FuncId→Option aS} {F:(f:FuncId)→(g:aS)→g.A→Option g.B} {R:Type} {k:bL→Option R}
theorem bW{c:Bool}{e:bL}:cond c (k e) none=(cond c (some e) none).bind k:=by cases c<;>rfl
theorem bN{c:Bool}{e:bL}:cond c none (k e)=(cond c none (some e)).bind k:=by cases c<;>rfl
theorem bO{c:Bool}{e e':bL}:cond c (k e) (k e')=(cond c (some e) (some e')).bind k:=by cases c<;>rfl
theorem bX{α:Type}(o:Option α)(f:α→Option R)(g:α→Option bL)(h:∀x,f x=(g x).bind k):o.bind f=(o.bind g).bind k:=by cases o with
 |none=>rfl
 |some x=>exact h x
theorem Kx{h:Heap}{id:Nat}{t:TypeId}{s x:AV}:n6 P h id t s x k=(n6 P h id t s x some).bind k:=by unfold n6;repeat' (first|rfl|exact bW|exact bN | exact bO|(refine bX _ _ _ (fun _=>?_))|split)
theorem NT{h:Heap}{t:TypeId}{s x:AV}:rL P h t s x k=(rL P h t s x some).bind k:=by unfold rL;repeat' (first|rfl|exact bW|exact bN | exact bO|(refine bX _ _ _ (fun _=>?_))|split)
theorem Qr{h:Heap}{t:TypeId}{s:AV}:lM P h t s k=(lM P h t s some).bind k:=by unfold lM;repeat' (first|rfl|exact bW|exact bN | exact bO|(refine bX _ _ _ (fun _=>?_))|split)
theorem DC{h:Heap}{t:TypeId}{s x:AV}:dC P h t s x k=(dC P h t s x some).bind k:=by unfold dC;repeat' (first|rfl|exact bW|exact bN | exact bO|(refine bX _ _ _ (fun _=>?_))|split)
theorem Qs{x:AV}{lo hi mx:Option AV}:wK x lo hi mx k=(wK x lo hi mx some).bind k:=by unfold wK;repeat' (first|rfl|exact bW|exact bN | exact bO|(refine bX _ _ _ (fun _=>?_))|split)
theorem NU{h:Heap}{sz:Nat}{x:AV}{lo hi mx:Option AV}:o5 h sz x lo hi mx k=(o5 h sz x lo hi mx some).bind k:=by unfold o5;repeat' (first|rfl|exact bW|exact bN | exact bO|(refine bX _ _ _ (fun _=>?_))|split)
theorem UW{h:Heap}{x:AV}:DW h x k=(DW h x some).bind k:=by unfold DW;repeat' (first|rfl|exact bW|exact bN | exact bO|(refine bX _ _ _ (fun _=>?_))|split)
theorem UX{op:BinOp}{t:TypeId}{x y:AV}:yj P Eqs op t x y k=(yj P Eqs op t x y some).bind k:=by unfold yj;repeat' (first|rfl|exact bW|exact bN | exact bO|(refine bX _ _ _ (fun _=>?_))|split)
theorem HE(rs:List RK)(x:lL rs)(f:lL rs→Option R)(g:lL rs→Option bL)(h:∀z,f z=(g z).bind k):jM rs x f=(jM rs x g).bind k:=by rw[iO,iO];exact h x
theorem Qt{h:Heap}{id:Nat}{f:FuncId}{vs:List AV}:ji Sg F h id f vs k=(ji Sg F h id f vs some).bind k:=by unfold ji;repeat' (first|rfl|exact bW|exact bN | exact bO|(refine bX _ _ _ (fun _=>?_))|(refine HE _ _ _ _ (fun _=>?_))|split)
theorem Qu{id:Nat}{t:TypeId}{vs:List AV}:wO id t vs k=(wO id t vs some).bind k:=rfl
theorem NV{t:TypeId}{ps:List (Nat×AV)}:rO P t ps k=(rO P t ps some).bind k:=by unfold rO;repeat' (first|rfl|exact bW|exact bN | exact bO|(refine bX _ _ _ (fun _=>?_))|split)
theorem FF{h:Heap}{id:Nat}{t:TypeId}{n:Nat}{ps:List (Nat×AV)}:uL P h id t n ps k=(uL P h id t n ps some).bind k:=by unfold uL;repeat' (first|rfl|exact bW|exact bN | exact bO|(refine bX _ _ _ (fun _=>?_))|split)
theorem Qv{kO:Bool}{h:Heap}{id:Nat}{t:TypeId}{n:Nat}{ps:List (Nat×AV)}:wP P kO h id t n ps k=(wP P kO h id t n ps some).bind k:=by unfold wP;rw[FF,FF (k:=fun e=>some (if kO then Uy e else e)),Option.bind_assoc];rfl
theorem Qw{s d:TypeId}{x:AV}:AG P s d x k=(AG P s d x some).bind k:=by unfold AG;repeat' (first|rfl|exact bW|exact bN | exact bO|(refine bX _ _ _ (fun _=>?_))|split)
theorem Ye{b:Bool}{vs:List AV}:Nq b vs k=(Nq b vs some).bind k:=by unfold Nq;repeat' (first|rfl|exact bW|exact bN | exact bO|(refine bX _ _ _ (fun _=>?_))|split)
theorem Qx{h:Heap}{x:AV}:wL h x k=(wL h x some).bind k:=by unfold wL;repeat' (first|rfl|exact bW|exact bN | exact bO|(refine bX _ _ _ (fun _=>?_))|split)
theorem HF{id:Nat}{t:TypeId}:lx P Eqs id t k=(lx P Eqs id t some).bind k:=by unfold lx;repeat' (first|rfl|exact bW|exact bN | exact bO|(refine bX _ _ _ (fun _=>?_))|split)
theorem Ky{h:Heap}{t:TypeId}{m i:AV}{ok:Bool}:n8 P Eqs h t m i ok k=(n8 P Eqs h t m i ok some).bind k:=by unfold n8;repeat' (first|rfl|exact bW|exact bN | exact bO|(refine bX _ _ _ (fun _=>?_))|split)
theorem Kz{h:Heap}{t:TypeId}{m i v:AV}:iK P Eqs h t m i v k=(iK P Eqs h t m i v some).bind k:=by unfold iK;repeat' (first|rfl|exact bW|exact bN | exact bO|(refine bX _ _ _ (fun _=>?_))|split)
theorem KA{h:Heap}{t:TypeId}{m i:AV}:oa P Eqs h t m i k=(oa P Eqs h t m i some).bind k:=by unfold oa;repeat' (first|rfl|exact bW|exact bN | exact bO|(refine bX _ _ _ (fun _=>?_))|split)
theorem KB{id:Nat}{t:TypeId}{x:AV}:oc P id t x k=(oc P id t x some).bind k:=by unfold oc;repeat' (first|rfl|exact bW|exact bN | exact bO|(refine bX _ _ _ (fun _=>?_))|split)
theorem NW{h:Heap}{x:AV}:rM h x k=(rM h x some).bind k:=by unfold rM;repeat' (first|rfl|exact bW|exact bN | exact bO|(refine bX _ _ _ (fun _=>?_))|split)
theorem NX{h:Heap}{x:AV}:rN h x k=(rN h x some).bind k:=by unfold rN;repeat' (first|rfl|exact bW|exact bN | exact bO|(refine bX _ _ _ (fun _=>?_))|split)
theorem lz{id:Nat}{h:Heap}{s:List (Nat×AV)}{o:Oper}:cY P Eqs Sg F id h s o k=(cY P Eqs Sg F id h s o some).bind k:=by
 obtain⟨dst,op,type,pos,after,guard⟩:=o
 cases op<;>simp only[cY] <;>
  repeat' (first|rfl|exact Qv|exact Kx|exact NT|exact Qr|exact DC|exact Qs|exact NU|exact UW|exact UX|exact Qt|exact Qu|exact NV|exact FF|exact Qw|exact Ye|exact Qx|exact HF|exact Ky|exact Kz|exact KA|exact KB|exact NW|exact NX|exact bW|(refine bX _ _ _ (fun _=>?_))|split)
theorem NY{id:Nat}{h h':Heap}{s:List (Nat×AV)}{o:Oper}(hf:nu o.op=true):cY P Eqs Sg F id h s o k=cY P Eqs Sg F id h' s o k:=by
 obtain⟨dst,op,type,pos,after,guard⟩:=o
 cases op<;>simp[nu]at hf<;>first|rfl|(rename_i u _ _;cases u<;>rfl)
theorem UY{op:BinOp}{t:TypeId}{x y:AV}{e:bL}(he:yj P Eqs op t x y some=some e):∃v,e=.val v:=by
 unfold yj at he
 repeat' (first|(cases he;done)|exact⟨_,(ac5 he).symm⟩|split at he)
 all_goals
  unfold cond at he
  split at he<;>first|(cases he;done)|exact⟨_,(ac5 he).symm⟩
theorem HH{id:Nat}{h:Heap}{s:List (Nat×AV)}{o:Oper}{e:bL}(hf:nu o.op=true)(he:cY P Eqs Sg F id h s o some=some e):∃v,e=.val v:=by
 obtain⟨dst,op,type,pos,after,guard⟩:=o
 cases op<;>simp only[nu]at hf<;>first|(cases hf;done)|skip
 case unOp u t x =>
  cases u<;>simp only[cY]at he<;>repeat' (first|(cases he;done)|exact⟨_,(ac5 he).symm⟩|split at he)
 case makeFunc fn first cap =>
  cases fn<;>simp only[cY]at he<;>repeat' (first|(cases he;done)|exact⟨_,(ac5 he).symm⟩|split at he)
 all_goals simp only[cY]at he
 case binOp=>exact UY he
 case slice =>
  repeat' (first|(cases he;done)|split at he)
  all_goals
   first|unfold wK at he|unfold o5 at he
   repeat' (first|(cases he;done)|exact⟨_,(ac5 he).symm⟩|split at he)
   all_goals
    unfold cond at he
    split at he<;>first|(cases he;done)|exact⟨_,(ac5 he).symm⟩
 case build =>
  unfold rO at he
  repeat' (first|(cases he;done)|exact⟨_,(ac5 he).symm⟩|split at he)
 all_goals
  repeat' (first|(cases he;done)|exact⟨_,(ac5 he).symm⟩|split at he)
end Go.Vs
namespace Go.Vs
variable {P:Program} {Eqs:TypeId→Option K} {Sg:FuncId→Option aS} {F:(f:FuncId)→(g:aS)→g.A→Option g.B} {R:Type}
variable {Z Z' Z0:Nat→Prop} {ψ ψ' ψ0:Nat→Value} {h h':Hp} {w w' w0:World} {B0:Nat} {O N:Nat→Prop}
structure Env(P:Program)(Eqs:TypeId→Option K)(Sg:FuncId→Option aS)(F:(f:FuncId)→(g:aS)→g.A→Option g.B):Prop where
 eqs:∀t k,Eqs t=some k→lQ P t k
 con:∀f g x y,Sg f=some g→F f g x=some y→Ed P f g x y
 spec:∀f g u,Sg f=some g→g.x=some u→iC P (f%1000) u
 HI:∀f g,Sg f=some g→jo P (f%1000)
theorem HJ{s:List (Nat×AV)}{ρC:Operand→Value}:∀(l:List Operand),(∀x∈l,aC Z ψ h w (ρ s x) (ρC x))→aq Z ψ h w (l.map (ρ s)) (l.map ρC)
 |[],_=>by simp[aq]
 |x::r,hx=>by simp only[List.map_cons,aq];exact⟨_,_,rfl,hx x ac4,HJ r fun y hy=>hx y (acm _ hy)⟩
theorem Ef{s:List (Nat×AV)}{p:Nat→Prop}:∀(l:List Operand),(∀x∈l,aM p (ρ s x))→aG p (l.map (ρ s))
 |[],_=>by simp[aG]
 |x::r,hx=>by simp only[List.map_cons,aG];exact⟨hx x ac4,Ef r fun y hy=>hx y (acm _ hy)⟩
theorem WK(E:Env P Eqs Sg F){hh:Heap}{a:Act}{s:List (Nat×AV)}{o:Oper}(g:Good Z ψ h w B0 O)(hB:B0≤w.heap.size)(bE:∀id o,hh.get id=some o→h id=some o){id:Nat}(hN:makes o.op=true→∀j,j<256→N (id+j)){e:bL} (nT:∀x∈o.op.operands,aC Z ψ h w (ρ s x) (a.eval x)) (hm:∀x∈o.op.operands,aM (fun i=>¬N i) (ρ s x)) (bz:∀i ty cs,h i=some (.box ty cs)→aG (fun i=>¬N i) cs) (nS:∀v hw,e=.wr v hw→hh.get=h) (he:cY P Eqs Sg F id hh s o some=some e) {next:Act→World→Prop} {Q:Exit→Act→World→Prop} (hk:∀V w' Z' ψ',Next Z ψ h w B0 O N Z' ψ' (e.hp h) w'→aC Z' ψ' (e.hp h) w' e.v V→next (a.put o.dst V) w'):o.wp P a w next Q:=by
 have d:g6 P a.eval o Z ψ h w B0 O N e∨WH P a.eval o Z ψ h w B0 O N e:=by
  cases JY:u6 o with
  |false=>exact .inl (Qe E.eqs g hB bE (fun hm=>by simpa using hN hm 0 (by decide)) nT hm bz nS JY he)
  |true =>
   refine .inr ?_;obtain⟨dst,op,type,pos,after,guard⟩:=o
   cases op<;>simp[u6]at JY
   rename_i c;obtain⟨callee,args,argTypes⟩:=c
   cases callee<;>simp at JY
   rename_i fo;simp only[cY]at he
   split at he
   ·rename_i f cap hf;simp only[Op.operands,Call.operands]at nT;have h1:=nT fo (by simp);rw[hf]at h1;have h2:aq Z ψ h w (args.toList.map (ρ s)) (args.toList.map a.eval):=HJ _ fun x hx=>nT x (by simp;exact .inr (by simpa using hx));have hmf:=hm fo (by simp[Op.operands,Call.operands]);rw[hf]at hmf;simp only[aM]at hmf;have hma:aG (fun i=>¬N i) (args.toList.map (ρ s)):=Ef _ fun x hx=>hm x (by simp[Op.operands,Call.operands];exact .inr (by simpa using hx));refine Kw E.spec E.con E.HI g hB bE (hN rfl) bz nS h1 h2 (pM hma hmf) (fun ws Yb=>?_) he;simp only[execOp,resolve,Yb,Deferred.ofValue];simp only[pure_bind,invoke];congr 1;apply Array.ext';simp
   ·cases he
 unfold Oper.wp;rcases d with⟨V,w',Z',ψ',h1,h2,h3⟩|⟨f,args,h1,h2⟩
 ·rcases h1 with h1|⟨h1,rfl⟩
  ·rw[h1];exact hk V w' Z' ψ' h2 h3
  ·rw[h1];exact hk undef w' Z' ψ' h2 h3
 ·rw[h1,Oper.upon_enter];refine h2.mono fun en w' ⟨V,Z',ψ',e1,n,hr⟩=>?_;subst e1;exact hk V w' Z' ψ' n hr
structure Ok(Z0:Nat→Prop)(w0:World)(O:Nat→Prop)(ψ0:Nat→Value)(Z:Nat→Prop)(ψ:Nat→Value)(h:Hp)(w:World):Prop where
 dZ:Good Z ψ h w w0.heap.size O
 fU:∀b,Z0 b→Z b
 eQ:∀b,Z b→Z0 b∨O b∨w0.heap.size≤b
 os:w.os=w0.os
 tape:w.tape=w0.tape
 output:w.output=w0.output
 size:w0.heap.size≤w.heap.size
 block:∀b,b<w0.heap.size→¬O b→w.heap[b]? = w0.heap[b]?
 fix:∀i,i<2000→h i≠none→ψ i=ψ0 i
theorem Ok.next(k:Ok Z0 w0 O ψ0 Z ψ h w)(hN:∀id,N id→2000≤id)(n:Next Z ψ h w w0.heap.size O N Z' ψ' h' w'):Ok Z0 w0 O ψ0 Z' ψ' h' w':=by
 have own:∀b,Own ψ h b→w0.heap.size≤b∨O b:=fun b ⟨id,h1,h2⟩=>(k.dZ.live id b h1 h2).2;refine⟨n.dZ,fun b hb=>n.fU b (k.fU b hb),fun b hb=>?_,n.keep.os.trans k.os,n.keep.tape.trans k.tape,n.keep.output.trans k.output,adC k.size n.keep.size,fun b hb ho=>?_,fun i hi bw=>?_⟩
 ·rcases n.eQ b hb with h1|h1|h1
  ·exact k.eQ b h1
  ·exact .inr (own b h1).symm
  ·exact .inr (.inr (adC k.size h1))
 ·rw[n.keep.block b (Nat.lt_of_lt_of_le hb k.size) (fun h1=>(own b h1).elim (fun h2=>by omega) ho)];exact k.block b hb ho
 ·rcases n.ids i bw with⟨h1,h2⟩|h1
  ·rw[h2];exact k.fix i hi h1
  ·have:=hN i h1;omega
structure cT(Z:Nat→Prop)(ψ:Nat→Value)(h:Hp)(w:World)(n:Nat)(T:Nat→AV)(a:Act):Prop where
 rep:∀d,aC Z ψ h w (T d) (a.tmps.getD d undef)
 size:a.tmps.size=n
 defers:a.defers=[]
theorem NZ:aC Z ψ h w (.ns []) undef:=by simp only[aC,aq];exact⟨#[],rfl,rfl⟩
def jc(T:Nat→AV)(d:Option Tmp)(v:AV):Nat→AV:=match d with
 |some d=>eu T d v
 |none=>T
theorem hZ(st:St)(d:Option Tmp)(v:AV):look (st.put d v).tmps=jc (look st.tmps) d v:=by
 cases d with
 |none=>rfl
 |some d =>
  funext i;simp only[St.put,look,jc,eu];by_cases e:i=d
  ·subst e;simp
  ·rw[if_neg (fun x=>e x.symm),if_neg e]
theorem dk(st:St)(d:Option Tmp)(v:AV):(st.put d v).heap=st.heap:=by cases d<;>rfl
theorem Eg{T:List (Nat×AV)}{d:Nat}{v:AV}(hv:look T d=v):eu (look T) d v=look T:=by
 funext i;unfold eu
 split
 ·rename_i e;subst e;exact hv.symm
 ·rfl
theorem ia{a:Act}{d:Nat}{v:Value}(hd:d<a.tmps.size)(i:Nat):(a.put (some d) v).tmps.getD i undef=if i=d then v else a.tmps.getD i undef:=by
 simp only[Act.put];by_cases e:i=d
 ·subst e;simp[hd]
 ·simp[e,Array.getElem?_setIfInBounds_ne (Ne.symm e)]
theorem cz(a:Act)(d:Option Tmp)(v:Value):(a.put d v).tmps.size=a.tmps.size:=by cases d<;>simp[Act.put]
theorem put_defers(a:Act)(d:Option Tmp)(v:Value):(a.put d v).defers=a.defers:=by cases d<;>rfl
theorem cT.put{n:Nat}{T:Nat→AV}{a:Act}{o:Oper}{x:AV}{V:Value}(t:cT Z ψ h w n T a)(hd:iv n o=true)(hx:aC Z ψ h w x V):cT Z ψ h w n (jc T o.dst x) (a.put o.dst V):=by
 refine⟨fun d=>?_,by rw[cz];exact t.size,by rw[put_defers];exact t.defers⟩;unfold iv at hd
 split at hd
 ·rename_i d0 hd0;rw[hd0];rw[ia (by rw[t.size];simpa using hd)];simp only[jc,eu]
  split
  ·exact hx
  ·exact t.rep d
 ·rename_i hd0;rw[hd0];exact t.rep d
theorem cT.next{n:Nat}{T:Nat→AV}{a:Act}(t:cT Z ψ h w n T a)(g:Good Z ψ h w B0 O)(hn:Next Z ψ h w B0 O N Z' ψ' h' w')(hm:∀d,aM (fun i=>¬N i) (T d)):cT Z' ψ' h' w' n T a :=⟨fun d=>hn.rep g (hm d) (t.rep d),t.size,t.defers⟩
theorem qZ{n:Nat}{s:List (Nat×AV)}{a:Act}(t:cT Z ψ h w n (look s) a)(x:Operand):aC Z ψ h w (ρ s x) (a.eval x):=by
 cases x with
 |tmp i=>exact t.rep i
 |const v=>exact Hj v
 |global g=>simp only[ρ,aC]
 |func f=>simp only[ρ,aC,aq,Act.eval];exact⟨#[],rfl,rfl⟩
theorem Bk(p:Nat→Prop)(v:Value):aM p (tG v):=by
 cases v with
 |agg cs=>simp only[tG,aM];exact wV p _
 |_=>simp only[tG];exact A9 p _
theorem N0{p:Nat→Prop}{s:List (Nat×AV)}(hm:∀d,aM p (look s d))(x:Operand):aM p (ρ s x):=by
 cases x with
 |tmp i=>exact hm i
 |const v=>exact Bk p v
 |global g=>simp only[ρ,aM]
 |func f=>simp only[ρ,aM,aG]
def mG(rid:Nat)(S:Nat→Prop)(id:Nat):Prop:=id / 32768=rid+1→S (id / 256%128)
def Of(rid i id:Nat):Prop:=id / 256=(rid+1)*128+i
theorem Of.parts{rid i id:Nat}(hi:i<128)(h:Of rid i id):id / 32768=rid+1∧id / 256%128=i:=by unfold Of at h;constructor<;>omega
theorem Of.of{rid i id:Nat}(h:id / 32768=rid+1)(hi:id / 256%128=i):Of rid i id:=by unfold Of;omega
theorem Mb{rid i j:Nat}(hj:j<256):Of rid i (opId rid i+j):=by unfold Of opId;omega
theorem HK{rid i:Nat}:Of rid i (opId rid i):=by unfold Of opId;omega
theorem mG.Bl{rid i id:Nat}{S:Nat→Prop}(hi:i<128)(hs:¬S i)(h:mG rid S id):¬Of rid i id:=fun ho=>by obtain⟨h1,h2⟩:=ho.parts hi;have:=h h1;rw[h2]at this;exact hs this
theorem ou{rid bits id:Nat}{S:Nat→Prop}(hb:∀j,bits.testBit j=true→S j)(h:qL rid bits id=true):mG rid S id:=fun h1=>by unfold qL at h;simp only[Bool.or_eq_true,bne_iff_ne,ne_eq]at h;exact hb _ (h.resolve_left (fun h2=>h2 h1))
mutual
theorem pN{rid bits:Nat}{S:Nat→Prop}(hb:∀j,bits.testBit j=true→S j):∀{v:AV},sW rid bits v=true→aM (mG rid S) v
 |.ref id s i off,h=>by simp only[sW]at h;simp only[aM];exact ou hb h
 |.bK id,h=>by simp only[sW]at h;simp only[aM];exact ou hb h
 |.fn f cap,h=>by simp only[sW]at h;simp only[aM];exact l6 hb h
 |.agg cs,h=>by simp only[sW]at h;simp only[aM];exact l6 hb h
 |.ns cs,h=>by simp only[sW]at h;simp only[aM];exact l6 hb h
 |.no,_=>by simp only[aM]
 |.bool _,_=>by simp only[aM]
 |.int _ _,_=>by simp only[aM]
 |.str _,_=>by simp only[aM]
 |.la,_=>by simp only[aM]
 |.fZ,_=>by simp only[aM]
 |.fp _ _ _,_=>by simp only[aM]
 |.sl _ _ _,_=>by simp only[aM]
 |.mp _ _ _,_=>by simp only[aM]
theorem l6{rid bits:Nat}{S:Nat→Prop}(hb:∀j,bits.testBit j=true→S j):∀{v:List AV},AI rid bits v=true→aG (mG rid S) v
 |[],_=>by simp only[aG]
 |v::r,h=>by simp only[AI,Bool.and_eq_true]at h;simp only[aG];exact⟨pN hb h.1,l6 hb h.2⟩
end
theorem l8{rid bits:Nat}{S:Nat→Prop}(hb:∀j,bits.testBit j=true→S j):∀{hh:Heap},yl rid bits hh=true→∀id o,hh.get id=some o→mG rid S id∧∀ty cs,o=.box ty cs→aG (mG rid S) cs
 |[],_,id,o,hg=>by simp[Heap.get]at hg
 |(i,ob)::r,h,id,o,hg=>by
  simp only[Heap.get]at hg
  split at hg
  ·rename_i e;subst e
   cases hg
   cases ob with
   |box ty cs =>simp only[yl,Bool.and_eq_true]at h;exact⟨ou hb h.1.1,fun zn cs' he=>by cases he;exact l6 hb h.1.2⟩
   |own ok xs =>simp only[yl,Bool.and_eq_true]at h;exact⟨ou hb h.1,fun zn cs' he=>by cases he⟩
  ·refine l8 hb ?_ id o hg
   cases ob<;>simp only[yl,Bool.and_eq_true]at h<;>exact h.2
def bL.heap(e:bL)(h:Heap):Heap:=match e with
 |.wr _ h'=>h'
 |e=>e.h h
theorem bL.HL(e:bL)(hh:Heap):(e.heap hh).get=e.hp hh.get:=by
 cases e with
 |val v=>rfl
 |new v os=>funext i;simp only[bL.heap,bL.h,bL.hp];rw[Heap.get_append];cases Heap.get os i<;>rfl
 |wr v h'=>rfl
def th(p:Nat→Prop)(h:Hp):Prop:=∀i ty cs,h i=some (.box ty cs)→aG p cs
theorem Bm{ops:Array Oper}{o:Oper}{n:Nat}{T:Nat→AV}{a:Act}(t:cT Z ψ h w n T a){j d:Nat}{want:Bool}(hg:o.guard=some (j,want))(hd:(ops[j]?).bind (·.dst)=some d){b:Bool}(hb:T d=.bool b) :
  Region.wanted o (yielded ops a.tmps)=(b==want):=by
 have h1:=t.rep d;rw[hb]at h1;simp only[aC]at h1;have h2:a.tmps[d]? = some (.bool b):=by
  rw[Array.getD_eq_getD_getElem?]at h1
  cases e:a.tmps[d]? with
  |none=>rw[e]at h1;simp[undef]at h1
  |some v=>rw[e]at h1;simpa using h1
 unfold Region.wanted yielded;rw[hg];simp only[hd,Option.bind_some,h2]
 cases b<;>cases want<;>rfl
theorem yN{ops:Array Oper}{o:Oper}{n:Nat}{T:Nat→AV}{a:Act}(t:cT Z ψ h w n T a){j d:Nat}{want:Bool}(hg:o.guard=some (j,want))(hd:(ops[j]?).bind (·.dst)=some d){vs:List AV}(hb:T d=.ns vs) :
  Region.wanted o (yielded ops a.tmps)=false:=by
 have h1:=t.rep d;rw[hb]at h1;simp only[aC]at h1;obtain⟨us,h1,_⟩:=h1;unfold Region.wanted yielded;rw[hg];simp only[hd,Option.bind_some];rw[Array.getD_eq_getD_getElem?]at h1
 cases e:a.tmps[d]? with
 |none=>rfl
 |some v=>rw[e]at h1;simp at h1;subst h1;rfl
def Bn(ops:Array Oper):Nat→List (Nat×Oper)→Prop
 |_,[]=>True
 |i,(j,o)::r=>j=i∧ops[i]? = some o∧Bn ops (i+1) r
theorem HM(ops:Array Oper):∀(l:List Oper) (i:Nat),(∀k o,l[k]? = some o→ops[i+k]? = some o)→Bn ops i ((l.zipIdx i).map fun p=>(p.2,p.1))
 |[],_,_=>by simp[Bn]
 |o::r,i,h=>by simp only[List.zipIdx_cons,List.map_cons,Bn];exact⟨trivial,h 0 o rfl,HM ops r (i+1) fun k o' hk=>by rw[Nat.add_assoc,Nat.add_comm 1 k];exact h (k+1) o' hk⟩
theorem ov(ops:Array Oper):Bn ops 0 (ops.toList.zipIdx.map fun p=>(p.2,p.1)):=HM ops _ 0 fun k o hk=>by simpa using hk
theorem Eh(ops:Array Oper):(ops.toList.zipIdx.map fun p=>(p.2,p.1)).map Prod.fst=List.range ops.size:=by rw[List.map_map];have:(Prod.fst ∘ fun(p:Oper×Nat)=>(p.2,p.1))=Prod.snd:=rfl;rw[this,List.zipIdx_map_snd,List.range_eq_range',Array.length_toList]
structure J(p:Nat→Prop)(n:Nat)(Z0:Nat→Prop)(w0:World)(O:Nat→Prop)(ψ0:Nat→Value)(Z:Nat→Prop)(ψ:Nat→Value)(T:Nat→AV)(h:Hp)(a:Act)(w:World):Prop where
 ok:Ok Z0 w0 O ψ0 Z ψ h w
 tr:cT Z ψ h w n T a
 tm:∀d,aM p (T d)
 hm:th p h
theorem J.imp{p q:Nat→Prop}{n:Nat}{T:Nat→AV}{a:Act}(j:J p n Z0 w0 O ψ0 Z ψ T h a w)(A5:∀id,p id→q id):J q n Z0 w0 O ψ0 Z ψ T h a w :=⟨j.ok,j.tr,fun d=>(j.tm d).imp A5,fun id ty cs hb=>(j.hm id ty cs hb).imp A5⟩
theorem J.op(E:Env P Eqs Sg F){rid n i:Nat}{p:Nat→Prop}{T:Nat→AV}{a:Act}{s:List (Nat×AV)}{o:Oper}(hS:makes o.op=true→∀id,p id→¬Of rid i id)(j:J p n Z0 w0 O ψ0 Z ψ T h a w)(hd:iv n o=true) (hT:∀x∈o.op.operands,aC Z ψ h w (ρ s x) (a.eval x)) (hTm:∀x∈o.op.operands,aM p (ρ s x)) {hh:Heap} (bE:∀id o,hh.get id=some o→h id=some o) {e:bL} (he:cY P Eqs Sg F (opId rid i) hh s o some=some e) (nS:∀v hw,e=.wr v hw→hh.get=h) {p':Nat→Prop} (PB:∀k,p k→p' k) (hv:aM p' e.v) (Yf:th p' (e.hp h)) {next:Act→World→Prop} {Q:Exit→Act→World→Prop} (hk:∀a' w' Z' ψ',J p' n Z0 w0 O ψ0 Z' ψ' (jc T o.dst e.v) (e.hp h) a' w'→next a' w'):o.wp P a w next Q:=by
 have Yg:∀id,p id→¬(makes o.op=true∧Of rid i id):=fun id h ⟨h1,h2⟩=>hS h1 id h h2;refine WK (N:=fun id=>makes o.op=true∧Of rid i id) E j.ok.dZ j.ok.size bE (id:=opId rid i) (fun hm k hk=>⟨hm,Mb hk⟩) hT (fun x hx=>(hTm x hx).imp Yg) (fun id ty cs hb=>(j.hm id ty cs hb).imp Yg) nS he fun V w' Z' ψ' nx hr=>?_;refine hk _ w' Z' ψ' ⟨j.ok.next (fun id h=>by have:=h.2;unfold Of at this;omega) nx,(j.tr.next j.ok.dZ nx (fun d=>(j.tm d).imp Yg)).put hd hr,fun d=>?_,Yf⟩
 cases kS:o.dst with
 |none=>exact(j.tm d).imp PB
 |some d0 =>
  simp only[jc,eu]
  split
  ·exact hv
  ·exact(j.tm d).imp PB
theorem J.skip{n:Nat}{p p':Nat→Prop}{T:Nat→AV}{a:Act}{o:Oper}(j:J p n Z0 w0 O ψ0 Z ψ T h a w)(hd:iv n o=true)(PB:∀k,p k→p' k) :
  J p' n Z0 w0 O ψ0 Z ψ (jc T o.dst (.ns [])) h (a.put o.dst undef) w:=by
 refine⟨j.ok,j.tr.put hd NZ,fun d=>?_,fun id ty cs hb=>(j.hm id ty cs hb).imp PB⟩
 cases kS:o.dst with
 |none=>exact(j.tm d).imp PB
 |some d0 =>
  simp only[jc,eu]
  split
  ·simp only[aM,aG]
  ·exact(j.tm d).imp PB
theorem UZ{hh:Heap}(g:Good Z ψ hh.get w B0 O){m:Nat}{kk vk:K}{es:List (kk.T×vk.T)}(hg:hh.get m=some (.own (.map kk vk) es))(n:Next Z ψ hh.get w B0 O N Z' ψ' h' w')(hzm:∀b,ob (ψ m)=some b→Z' b) (hold:∀b,b<w.heap.size→w'.heap[b]? = w.heap[b]?) {v:AV} {V:Value} (hm:aM (fun id=>¬N id) v) (hr:aC Z ψ hh.get w v V):aC Z' ψ' h' w' (zo m (.mp kk vk es) v) V:=by
 by_cases hv:v=.bK m
 ·subst hv;simp only[zo,if_true];simp only[aC]at hr;have hu:=hr.2 (by rw[hg];simp);obtain⟨r,b5,clock,h1,h2,h3,_⟩:=g.row m (.map kk vk) es hg;rw[h1]at hu;subst hu;have aF:=(acr.1 h2).1;simp only[aC,aL];exact⟨some r,rfl,.inr ⟨r,b5,clock,rfl,hzm r (by rw[h1];rfl),(hold r aF).trans h2,h3.imp (fun _ _ h=>h.mono n.fU (fun b hb=>hold b (g.jO b hb))) (fun _ _ h=>h.mono n.fU (fun b hb=>hold b (g.jO b hb)))⟩⟩
 ·have hf:zo m (.mp kk vk es) v=v:=by
   unfold zo
   split
   ·split
    ·rename_i e;subst e;exact absurd rfl hv
    ·rfl
   ·rfl
  rw[hf];exact n.rep g hm hr
theorem Qy{p:Nat→Prop}{m:Nat}{kk vk:K}{es:List (kk.T×vk.T)}{v:AV}(hm:aM p v):aM p (zo m (.mp kk vk es) v):=by
 unfold zo
 split
 ·split
  ·simp only[aM]
  ·exact hm
 ·exact hm
theorem sf(f:AV→AV)(hf:f .no=.no):∀(l:List (Nat×AV)) (d:Nat),look (l.map fun p=>(p.1,f p.2)) d=f (look l d)
 |[],_=>by simp only[List.map_nil,look];exact hf.symm
 |(i,v)::r,d=>by
  simp only[List.map_cons,look]
  split
  ·rfl
  ·exact sf f hf r d
theorem KC{rid n i:Nat}{p p':Nat→Prop}{st eP:St}{a:Act}{o:Oper}(hS:∀id,p id→¬Of rid i id)(PB:∀k,p k→p' k)(Qk:p' (opId rid i))(j:J p n Z0 w0 O ψ0 Z ψ (look st.tmps) st.heap.get a w)(hd:iv n o=true)(ow:pe P (opId rid i) st o=some eP) :
  ∃V w' Z' ψ',(execOp a.eval o).run P w=.ok (.value V) w'∧J p' n Z0 w0 O ψ0 Z' ψ' (look eP.tmps) eP.heap.get (a.put o.dst V) w':=by
 unfold pe at ow
 split at ow
 ·rename_i t x FG
  split at ow
  ·rename_i ka va m hu hx
   split at ow
   ·rename_i kk vk es hg
    cases ow
    have ZI:aC Z ψ st.heap.get w (.bK m) (a.eval x):=by rw[←hx];exact qZ j.tr x
    simp only[aC]at ZI;have hev:=ZI.2 (by rw[hg];simp);have g:=j.ok.dZ;obtain⟨r,b5,clock,h1,h2,h3,h4,h5⟩:=g.row m (.map kk vk) es hg;rw[h1]at hev;have aF:=(acr.1 h2).1;have gd:=iA g [.bK m];have aaL:∀b,ob (ψ m)=some b→qB Z ψ st.heap.get [.bK m] b:=fun b hb=>.inr ⟨m,by simp,by rw[hg];simp,hb⟩;have hold:∀b,b<w.heap.size→(w.alloc (.mapIter (some r) clock #[] clock)).heap[b]? = w.heap[b]? := fun b hb=>heap_alloc_old w _ hb;have hN:(Of rid i) (opId rid i):=HK;have n1:=A3 (N:=Of rid i) gd j.ok.size (opId rid i) hN (ok:=.iter kk vk) (x:=(none,es)) (v:=.pointer (some ⟨w.heap.size,0,none⟩)) (.mapIter (some r) clock #[] clock) ⟨w.heap.size,r,clock,#[],b5,clock,rfl,heap_alloc_new _ _,aaL r (by rw[h1];rfl),(hold r aF).trans h2,h4,rfl,h5,by rw[List.filter_eq_self.2 (fun e _=>by simp)];exact h3.imp (fun _ _ h=>h.mono (fun b hb=>.inl hb) (fun b hb=>hold b (g.jO b hb))) (fun _ _ h=>h.mono (fun b hb=>.inl hb) (fun b hb=>hold b (g.jO b hb))),trivial⟩ rfl (fun i' ty cs hb=>aG.imp (p:=p) (q:=fun i'=>i'≠opId rid i) (fun id hp e=>hS id hp (by rw[e];exact hN)) (j.hm i' ty cs (ep _ _ _ _ hb)));have n2:=n1.drop (Z:=Z) (h:=st.heap.get) (fun b hb=>.inl hb) (fun b hb=>hb.imp (fun h=>h) (fun⟨id,_,h5,h6⟩=>⟨id,h5,h6⟩)) (ep _ _);have fJ:(eu (cM st.heap [.bK m]).get (opId rid i) (some (Ob.own (.iter kk vk) (none,es))))=Heap.get ((opId rid i,.own (.iter kk vk) (none,es))::st.heap.del m):=by
     funext k;simp only[cM,drop1,eu,Heap.get];by_cases e:k=opId rid i
     ·subst e;simp
     ·rw[if_neg e,if_neg (fun h=>e h.symm)]
    rw[fJ]at n2;refine⟨.pointer (some ⟨w.heap.size,0,none⟩),w.alloc (.mapIter (some r) clock #[] clock),qB Z ψ st.heap.get [.bK m],eu ψ (opId rid i) (.pointer (some ⟨w.heap.size,0,none⟩)),?_,?_⟩
    ·obtain⟨dst,op,type,pos,after,guard⟩:=o;simp only at FG;subst FG;have dz:(Instr.range t (.map (some r))).run P w=.ok (.pointer (some ⟨w.heap.size,0,none⟩)) (w.alloc (.mapIter (some r) clock #[] clock)):=by simp only[Instr.range,Sem.run_bind,run_underlying hu,Result.andThen_ok,gm h2 (by simp),Sem.run_pure];rfl
     simp[execOp,hev,dz]
    ·have bz:∀d,aM (fun id=>¬Of rid i id) (look st.tmps d):=fun d=>(j.tm d).imp hS;refine⟨by rw[dk];exact j.ok.next (fun id h=>by unfold Of at h;omega) n2,?_,fun d=>?_,fun k ty cs hb=>?_⟩
     ·rw[hZ,dk];refine cT.put ⟨fun d=>?_,j.tr.size,j.tr.defers⟩ hd ?_
      ·rw[sf _ rfl];exact UZ g hg n2 (fun b hb=>aaL b hb) hold (bz d) (j.tr.rep d)
      ·simp only[aC];exact⟨⟨rfl,rfl⟩,fun _=>(bA _ _ _).symm⟩
     ·rw[hZ];have hb:aM p' (look (st.tmps.map fun q=>(q.1,zo m (.mp kk vk es) q.2)) d):=by rw[sf _ rfl];exact Qy ((j.tm d).imp PB)
      cases kS:o.dst with
      |none=>exact hb
      |some d0 =>
       simp only[jc,eu]
       split
       ·simp only[aM];exact Qk
       ·exact hb
     ·rw[dk]at hb;simp only[Heap.get]at hb
      split at hb
      ·cases hb
      ·exact(j.hm k ty cs (Heap.uS hb).1).imp PB
   ·cases ow
  ·cases ow
 ·cases ow
theorem ox{R:Type}{n:Nat}{f:Nat→Option R}{r:R}(h:sP n f=some r):∀j,j<n→f j=some r:=by
 unfold sP at h
 split at h
 ·rename_i hx;cases h;exact Classical.choose_spec hx
 ·cases h
theorem mZ{R:Type}{n:Nat}{f:Nat→Option R}{r:R}(hn:0<n)(h:∀j,j<n→f j=some r):sP n f=some r:=by unfold sP;have hx:∃r,∀j,j<n→f j=some r:=⟨r,h⟩;rw[dif_pos hx];have:=Classical.choose_spec hx 0 hn;rw[h 0 hn]at this;exact this.symm
theorem Next.drawn{d:Nat}(n:Next Z ψ h { w with drawn:=d } B0 O N Z' ψ' h' w'):Next Z ψ h w B0 O N Z' ψ' h' w' :=⟨n.fU,n.eQ,⟨n.keep.os,n.keep.tape,n.keep.output,n.keep.size,n.keep.block⟩,n.ids,n.dZ⟩
theorem Good.drawn{d:Nat}(g:Good Z ψ h w B0 O):Good Z ψ h { w with drawn:=d } B0 O:=by
 have sm:cy Z w ({ w with drawn:=d }:World):=fun _ _=>rfl;refine⟨fun id ty cs hb=>?_,fun id ok xs hb=>?_,g.live,g.apart,g.jO⟩
 ·obtain⟨gg,vs,h1,h2,h3,h4⟩:=g.box id ty cs hb;exact⟨gg,vs,h1,h2,h3.less (fun _ h=>h) sm (fun i hi=>⟨hi,rfl⟩),h4⟩
 ·exact(g.row id ok xs hb).kept (fun _ h=>h) sm (fun gg _=>rfl)
theorem filter_push{l:List MapEntry}(h:l.Pairwise (fun a b=>a.born≠b.born)){seen:Array Nat}{j:Nat}{e:MapEntry}(he:(l.filter fun e => !seen.contains e.born)[j]? = some e) :
  l.filter (fun x => !(seen.push e.born).contains x.born)=(l.filter fun e => !seen.contains e.born).eraseIdx j:=by
 have h2:(l.filter fun e => !seen.contains e.born).Pairwise (fun a b=>a.born≠b.born):=h.sublist List.filter_sublist;rw[←ChangeMaps.filter_eq_eraseIdx (fun x=>x.born==e.born) _ j e he (by simp) (h2.imp fun {a b} bw hc=>bw (by simp only[beq_iff_eq]at hc;omega))];rw[List.filter_filter];congr 1;funext x;simp only[Array.contains_push]
 cases seen.contains x.born<;>cases x.born==e.born<;>rfl
theorem KD{R:Type}{hh:Heap}(g:Good Z ψ hh.get w B0 O){x:AV}{u:Value}{ty:TypeId}(hx:aC Z ψ hh.get w x u){kk:AV→Heap→Option R}{r:R}(he:lg hh x kk=some r) :
  ∃v h' V w',(Instr.next u false ty).run P w=.ok V w'∧Next Z ψ hh.get w B0 O N Z ψ h'.get w'∧aC Z ψ h'.get w' v V∧kk v h'=some r∧(∀p,aM p v)∧∀i ty cs,h'.get i=some (.box ty cs)→hh.get i=some (.box ty cs):=by
 unfold lg at he
 split at he
 ·rename_i id
  split at he
  ·rename_i kk1 vk pp hg;simp only[aC]at hx;have hu:=hx.2 (by rw[hg];simp);obtain⟨b,m,since,seen,b5,clock,h1,h2,h3,h4,h5,h6,h7,h8,h9⟩:=g.row id (.iter kk1 vk) pp hg;rw[h1]at hu;subst hu;subst h6;have aF:=(acr.1 h2).1;have WL:(leftOf b5 seen).toList=b5.toList.filter fun e => !seen.contains e.born:=by unfold leftOf;simp
   have hlen:pp.2.length=(leftOf b5 seen).size:=by rw[h8.1,←WL,Array.length_toList]
   rcases run_next_at (P:=P) w ty b m since since seen b5 since h2 h4 h7 (adj _) with⟨nF,dz⟩|⟨e,gV,w1,KE,dz⟩
   ·have NS:pp.2.isEmpty=true:=by rw[List.isEmpty_iff];exact adx (by rw[hlen,nF])
    rw[NS]at he;simp only[cond_true]at he;exact⟨_,hh,_,w,dz,Next.refl g,by simp only[aC,aq];exact⟨_,rfl,_,_,rfl,rfl,rfl⟩,he,fun p=>by simp only[aM,aG];exact⟨trivial,trivial⟩,fun _ _ _ h=>h⟩
   ·obtain⟨k,hk,hke⟩:=List.mem_iff_getElem.1 gV;have oZ:k<pp.2.length:=by rw[hlen,←Array.length_toList];exact hk
    have NS:pp.2.isEmpty=false:=by
     cases hl:pp.2 with
     |nil=>rw[hl]at oZ;simp at oZ
     |cons _ _=>rfl
    rw[NS]at he;simp only[cond_false]at he;have hj:=ox he k oZ;rw[List.getElem?_eq_getElem oZ,Option.bind_some]at hj;have Yh:(b5.toList.filter fun e => !seen.contains e.born)[k]? = some e:=by rw[←WL,List.getElem?_eq_getElem hk,hke]
    have Fs:=h8.2 k _ e (aaY oZ) Yh;obtain⟨⟨k1,k2,k3⟩,v1,v2,v3⟩:=Fs;have afP:e∈b5.toList:=(aeK.1 (adh Yh)).1;have gd1:Good Z ψ hh.get w1 B0 O:=by rcases KE with rfl|rfl;exact g;exact g.drawn
    have FH:w1.heap=w.heap:=by rcases KE with rfl|rfl<;>rfl
    have hmb:m≠b:=fun hmb=>by subst hmb;exact(g.live id m (by rw[hg];simp) (by rw[h1];rfl)).1 h3
    have n1:=rX (N:=N) gd1 (id:=id) (by rw[hg];simp) (r:=b) (by rw[h1];rfl) (by rw[FH];exact aF) (.mapIter (some m) since (seen.push e.born) since) (ok:=.iter kk1 vk) (x:=(some pp.2[k],pp.2.eraseIdx k)) (fun w' Kn sm=>by
     have ZJ:cy Z w w':=fun c hc=>(sm c hc).trans (by rw[FH]);refine⟨b,m,since,seen.push e.born,b5,since,h1,by rw[Kn,FH];simp[aF],h3,?_,h5,rfl,h7,?_,?_⟩
     ·rw[Kn,FH,wT _ (fun e=>hmb e.symm)];exact h4
     ·rw[filter_push h5 Yh];exact(kj.erase h8 k).mono (fun _ h=>h) ZJ
     ·refine⟨e,afP,by simp,⟨rfl,fun q y e' nF zq=>?_⟩⟩
      cases q with
      |zero=>cases nF;cases zq;exact⟨⟨k1.mono (fun _ h=>h) ZJ,k2,k3⟩,v1.mono (fun _ h=>h) ZJ,v2,v3⟩
      |succ q=>simp at nF)
    have n2:Next Z ψ hh.get w B0 O N Z ψ (eu hh.get id (some (.own (.iter kk1 vk) (some pp.2[k],pp.2.eraseIdx k)))) { w1 with heap:=w1.heap.setIfInBounds b (.mapIter (some m) since (seen.push e.born) since) }:=by
     rcases KE with rfl|rfl
     ·exact n1
     ·exact n1.drawn
    refine⟨_,hh.set id (.own (.iter kk1 vk) (some pp.2[k],pp.2.eraseIdx k)),_,_,dz,by rw[mQ];exact n2,?_,hj,fun p=>?_,fun i ty cs hb=>?_⟩
    ·have ZJ:cy Z w ({ w1 with heap:=w1.heap.setIfInBounds b (.mapIter (some m) since (seen.push e.born) since) }:World):=n2.same g;simp only[aC,aq];exact⟨_,rfl,_,_,rfl,rfl,_,_,rfl,lO (k1.mono (fun _ h=>h) ZJ) k2 k3,_,_,rfl,lO (v1.mono (fun _ h=>h) ZJ) v2 v3,rfl⟩
    ·simp only[aM,aG];exact⟨trivial,oo _ _ _,oo _ _ _,trivial⟩
    ·rw[mQ]at hb;unfold eu at hb
     split at hb
     ·cases hb
     ·exact hb
  ·cases he
 ·cases he
theorem HN(op:BinOp)(t:TypeId)(a b:Operand)(x y:Option Addr)(n m c d:Nat):(eqGuard op t a b (.slice x n c) (.slice y m d)).run P w=.ok () w:=by cases op<;>simp[eqGuard]
theorem DD{t e:TypeId}(ht:P.underlying t=some (.slice e))(a:Option Addr)(n c:Nat):(Op.equal t (.slice a n c) (.slice none 0 0)).run P w=.ok a.isNone w:=by
 have key:∀d,(Op.equalIn (d+1) t (.slice a n c) (.slice none 0 0)).run P w=.ok a.isNone w:=fun d=>by cases a<;>simp[Op.equalIn,run_underlying ht]
 exact key 9999
theorem KF{o:Oper}{x:Operand}{want:Bool}(h:isNil P o=some (x,want)):∃op t v t' e,o.op=.binOp op t x (.const v) t'∧P.underlying t=some (.slice e)∧v=.slice none 0 0∧((op=.eql∧want=true)∨(op=.neq∧want=false)):=by
 unfold isNil at h
 split at h
 ·rename_i op t x' v t' FG;have hv:∀v:Value,wG v=.fZ→v=.slice none 0 0:=fun v hv=>by
   unfold wG at hv
   split at hv<;>try (first|cases hv|(split at hv<;>cases hv);done)
   all_goals (split at hv<;>first|cases hv|skip)
   ·rename_i hc;obtain⟨rfl,rfl,rfl⟩:=hc;rfl
   all_goals (split at hv<;>cases hv)
  split at h
  ·rename_i e h1 h2 h3;cases h;exact⟨_,_,_,_,_,FG,h2,hv _ h3,.inl ⟨rfl,rfl⟩⟩
  ·rename_i e h1 h2 h3;cases h;exact⟨_,_,_,_,_,FG,h2,hv _ h3,.inr ⟨rfl,rfl⟩⟩
  ·cases h
 ·cases h
theorem Qz{R:Type}{hh:Heap}(g:Good Z ψ hh.get w B0 O){x:AV}{u:Value}{op:BinOp}{t e:TypeId}(xo yo:Operand)(hx:aC Z ψ hh.get w x u)(ht:P.underlying t=some (.slice e)){want:Bool}(ho:(op=.eql∧want=true)∨(op=.neq∧want=false)){kk:AV→Option R}{r:R}(he:uQ hh x want kk=some r) :
  ∃c:Bool,((eqGuard op t xo yo u (.slice none 0 0)).run P w=.ok () w∧(binOp op t u (.slice none 0 0)).run P w=.ok (.bool c) w)∧kk (.bool c)=some r:=by
 have run:∀(a:Option Addr) (n c:Nat),(eqGuard op t xo yo (.slice a n c) (.slice none 0 0)).run P w=.ok () w∧(binOp op t (.slice a n c) (.slice none 0 0)).run P w=.ok (.bool (a.isNone==want)) w:=fun a n c=>by refine⟨HN _ _ _ _ _ _ _ _ _ _,?_⟩;rcases ho with⟨rfl,rfl⟩|⟨rfl,rfl⟩<;>simp only[Sem.run_bind,Result.andThen_ok,binOp,DD ht,Sem.run_pure]<;>cases a.isNone<;>rfl
 have fin:∀(n:Nat) (a:Option Addr) (c:Nat) (xs:Bool),(a=none→xs=true)→cond xs (sP 2 fun j=>kk (.bool ((j==0)==want))) (kk (.bool (!want)))=some r → ∃c':Bool,((eqGuard op t xo yo (.slice a n c) (.slice none 0 0)).run P w=.ok () w∧(binOp op t (.slice a n c) (.slice none 0 0)).run P w=.ok (.bool c') w)∧kk (.bool c')=some r:=fun n a c xs yu h=>by
  refine⟨_,run a n c,?_⟩
  cases xs with
  |true =>
   simp only[cond_true]at h
   cases a with
   |none=>exact ox h 0 (by decide)
   |some a=>exact ox h 1 (by decide)
  |false =>
   simp only[cond_false]at h
   cases a with
   |none=>cases yu rfl
   |some a=>cases want<;>exact h
 unfold uQ at he
 split at he
 ·rename_i hv;have hxn:x=.fZ:=by
   cases x<;>simp only[cP]at hv<;>try cases hv
   ·rfl
   ·split at hv<;>cases hv
  subst hxn;simp only[aC]at hx;subst hx;exact⟨_,run none 0 0,by cases want<;>exact he⟩
 ·rename_i ex k xs hv
  cases x with
  |sl ex' k' xs' =>
   simp only[cP]at hv
   cases hv
   simp only[aC,aL]at hx;obtain⟨⟨v,hv,A,c,rfl,h1,h2,_⟩,_⟩:=hx
   cases hv
   refine fin _ A c _ (fun hA=>?_) he;have:=h2 hA;rw[List.isEmpty_iff];exact adx (by omega)
  |bK id =>
   simp only[cP]at hv;simp only[aC]at hx
   split at hv
   ·rename_i hg
    cases hv
    have hu:=hx.2 (by rw[hg];simp);obtain⟨vs,⟨_,h1⟩,_⟩:=g.row id _ _ hg;rw[←hu]at h1;rcases h1 with⟨h1,A,rfl⟩|⟨gg,cap,cur,rfl,_⟩
    ·exact fin _ A 0 _ (fun _=>List.isEmpty_iff.2 (adx h1)) he
    ·exact fin _ _ _ _ (fun h=>by cases h) he
   ·cases hv
   ·cases hv
  |_=>simp only[cP]at hv<;>cases hv
 ·cases he
theorem Bo{draw:Bool}{rid:Nat}{ops:Array Oper}{b:Array Nat}{i J9:Nat}{e:bL}{S:Nat→Prop}{hh:Heap}(hm:th (mG rid S) h)(ha:∀j,J9.testBit j=true→S j)(he:gR draw rid ops b i J9 e=true) :
  aM (mG rid fun k=>S k∨k=i) e.v∧th (mG rid fun k=>S k∨k=i) (e.hp h):=by
 have He:∀j,(J9 ||| 2 ^ i).testBit j=true→S j∨j=i:=fun j hj=>by
  rw[Nat.testBit_or,Bool.or_eq_true]at hj;rcases hj with hj|hj
  ·exact .inl (ha j hj)
  ·rw[Nat.testBit_two_pow]at hj;exact .inr (by simpa using hj:i=j).symm
 have up:th (mG rid fun k=>S k∨k=i) h:=fun id ty cs hb=>(hm id ty cs hb).imp (fun id h1 h2=>.inl (h1 h2))
 cases e with
 |val v=>exact⟨pN (fun j hj=>.inl (ha j hj)) he,up⟩
 |new v os =>
  simp only[gR,Bool.and_eq_true]at he;refine⟨pN He he.1.1,fun id ty cs hb=>?_⟩;simp only[bL.hp]at hb
  split at hb
  ·rename_i o ho
   cases hb
   exact(l8 He he.2 _ _ ho).2 _ _ rfl
  ·exact up id ty cs hb
 |wr v h' =>simp only[gR,Bool.and_eq_true]at he;exact⟨pN He he.1.2,fun id ty cs hb=>(l8 He he.2 _ _ hb).2 _ _ rfl⟩
theorem DE{i j:Nat}(h:(2 ^ i-1).testBit j=true):j<i:=by rw[Nat.testBit_two_pow_sub_one]at h;simpa using h
def w7(mk:Bool)(rid i id:Nat):Prop:=mk=true→mG rid (fun k=>k<i) id
theorem lA(E:Env P Eqs Sg F){rid n:Nat}{ops:Array Oper}{b:Array Nat}(mk:Bool)(QA:mk=false→∀(i:Nat) (o:Oper),ops[i]? = some o→makes o.op=false)(hn:ops.size≤128)(kS:∀(i:Nat) (o:Oper),ops[i]? = some o→iv n o=true){kk:St→Option R}{r:R}{Q:Exit→Act→World→Prop} (hQ:∀eP Z ψ a w,kk eP=some r→Ok Z0 w0 O ψ0 Z ψ eP.heap.get w→cT Z ψ eP.heap.get w n (look eP.tmps) a→Q .normal a w) :
  ∀(l:List (Nat×Oper)) (i:Nat) (st:St) (Z:Nat→Prop) (ψ:Nat→Value) (a:Act) (w:World),Bn ops i l→bG P Eqs Sg F rid false ops b l st kk=some r → J (w7 mk rid i) n Z0 w0 O ψ0 Z ψ (look st.tmps) st.heap.get a w→wpOps P ops Q (l.map Prod.fst) a w
 |[],i,st,Z,ψ,a,w,_,hx,j=>hQ st Z ψ a w hx j.ok j.tr
 |(i',o)::l,i,st,Z,ψ,a,w,hl,hx,j=>by
  obtain⟨rfl,ho,hl⟩:=hl;have hi:i'<128:=aez (acr.1 ho).1 hn;have Ul:=kS i' o ho;have ih:=lA E (rid:=rid) (b:=b) mk QA hn kS hQ l (i'+1);have up:∀id,w7 mk rid i' id→w7 mk rid (i'+1) id:=fun id h hm hr=>Nat.lt_succ_of_lt (h hm hr);have runs:∀iD:St,look iD.tmps=look st.tmps→iD.heap=st.heap→Region.wanted o (yielded ops a.tmps)=true →(match pe P (opId rid i') iD o with
    |some eP=>bG P Eqs Sg F rid false ops b l eP kk
    |none=>match uP o with
    |some x=>lg iD.heap (ρ iD.tmps x) fun v h=>bG P Eqs Sg F rid false ops b l (({ iD with heap:=h }:St).put o.dst v) kk
    |none=>match isNil P o with
    |some (x,want)=>uQ iD.heap (ρ iD.tmps x) want fun v=>bG P Eqs Sg F rid false ops b l (iD.put o.dst v) kk
    |none=>cY P Eqs Sg F (opId rid i') iD.heap iD.tmps o fun e=>if gR false rid ops b i' (2 ^ i' - 1) e then bG P Eqs Sg F rid false ops b l ({ iD with heap:=match e with | .wr _ h=>h|e=>e.h iD.heap }.put o.dst e.v) kk else none)=some r →
    wpOps P ops Q (((i',o)::l).map Prod.fst) a w:=by
   intro iD h1 h2 hw hx
   split at hx
   ·rename_i eP ow;simp only[List.map_cons,wpOps,ho,hw,if_true];refine .inl ?_;have aaM:makes o.op=true:=by
     unfold pe at ow
     split at ow
     ·rename_i FG;rw[FG];rfl
     ·cases ow
    have afR:mk=true:=by
     cases N1:mk with
     |true=>rfl
     |false=>rw[QA N1 i' o ho]at aaM;cases aaM
    have j1:J (w7 mk rid i') n Z0 w0 O ψ0 Z ψ (look iD.tmps) iD.heap.get a w:=by rw[h1,h2];exact j
    obtain⟨V,w',Z',ψ',dz,j'⟩:=KC (P:=P) (p':=w7 mk rid (i'+1)) (fun id hp nJ=>by obtain⟨h3,h4⟩:=nJ.parts hi;have:=hp afR h3;rw[h4]at this;exact Nat.lt_irrefl _ this) up (fun _ h3=>by have:=((HK (rid:=rid) (i:=i')).parts hi).2;rw[this];exact Nat.lt_succ_self _) j1 Ul ow;unfold Oper.wp;rw[dz];exact ih eP Z' ψ' _ w' hl hx j'
   split at hx
   ·rename_i x Ei;simp only[List.map_cons,wpOps,ho,hw,if_true];refine .inl ?_;have FG:o.op=.next x false:=by
     unfold uP at Ei
     split at Ei
     ·rename_i FG;cases Ei;exact FG
     ·cases Ei
    have ZI:aC Z ψ iD.heap.get w (ρ iD.tmps x) (a.eval x):=qZ (by rw[h1,h2];exact j.tr) x;have g1:Good Z ψ iD.heap.get w w0.heap.size O:=by rw[h2];exact j.ok.dZ
    obtain⟨v,h',V,w',dz,nx,hr,UJ,X3,qw⟩:=KD (P:=P) (N:=fun _=>False) (ty:=o.type) g1 ZI hx;have QB:(execOp a.eval o).run P w=.ok (.value V) w':=by obtain⟨dst,op,type,pos,after,guard⟩:=o;simp only at FG;subst FG;simp only at dz;simp[execOp,dz]
    unfold Oper.wp;rw[QB];refine ih _ Z ψ _ w' hl UJ ?_;rw[hZ,dk];have j1:J (w7 mk rid i') n Z0 w0 O ψ0 Z ψ (look iD.tmps) iD.heap.get a w:=by rw[h1,h2];exact j
    refine⟨j1.ok.next (fun id h=>h.elim) nx,(j1.tr.next g1 nx (fun d=>(j1.tm d).imp fun _ _ h=>h)).put Ul hr,fun d=>?_,fun k ty cs hb=>(j1.hm k ty cs (qw k ty cs hb)).imp up⟩
    cases kS:o.dst with
    |none=>exact(j1.tm d).imp up
    |some d0 =>
     simp only[jc,eu]
     split
     ·exact X3 _
     ·exact(j1.tm d).imp up
   split at hx
   ·rename_i x want hnl;obtain⟨op,t,v,t',et,FG,ht,rfl,q6⟩:=KF hnl;simp only[List.map_cons,wpOps,ho,hw,if_true];refine .inl ?_;have ZI:aC Z ψ iD.heap.get w (ρ iD.tmps x) (a.eval x):=qZ (by rw[h1,h2];exact j.tr) x;have g1:Good Z ψ iD.heap.get w w0.heap.size O:=by rw[h2];exact j.ok.dZ
    obtain⟨c,dz,UJ⟩:=Qz (P:=P) g1 x (.const (.slice none 0 0)) ZI ht q6 hx;have QB:(execOp a.eval o).run P w=.ok (.value (.bool c)) w:=by obtain⟨dst,op',type,pos,after,guard⟩:=o;simp only at FG;subst FG;have e1:a.eval (.const (.slice none 0 0))=.slice none 0 0:=rfl;simp[execOp,e1,dz.1,dz.2]
    unfold Oper.wp;rw[QB];refine ih _ Z ψ _ w hl UJ ?_;rw[hZ,dk];have j1:J (w7 mk rid i') n Z0 w0 O ψ0 Z ψ (look iD.tmps) iD.heap.get a w:=by rw[h1,h2];exact j
    refine⟨j1.ok,j1.tr.put Ul (by simp only[aC]),fun d=>?_,fun k ty cs hb=>(j1.hm k ty cs hb).imp up⟩
    cases kS:o.dst with
    |none=>exact(j1.tm d).imp up
    |some d0 =>
     simp only[jc,eu]
     split
     ·simp only[aM]
     ·exact(j1.tm d).imp up
   rw[lz]at hx;obtain⟨e,he,hx⟩:=adG.1 hx
   split at hx
   ·rename_i mF;simp only[List.map_cons,wpOps,ho,hw,if_true];refine .inl ?_;have hh:iD.heap.get=st.heap.get:=by rw[h2]
    have ow:aM (w7 mk rid (i'+1)) e.v∧th (w7 mk rid (i'+1)) (e.hp st.heap.get):=by
     cases N1:mk with
     |false =>have ht:w7 false rid (i'+1)=fun _=>True:=funext fun id=>propext ⟨fun _=>trivial,fun _ h=>by cases h⟩;rw[ht];exact⟨aM.top _,fun _ _ cs _=>aG.top cs⟩
     |true =>
      have UO:th (mG rid fun k=>k<i') st.heap.get:=fun id ty cs hb=>(j.hm id ty cs hb).imp fun id h1=>h1 N1;have h3:=Bo (hh:=iD.heap) UO (fun k hk=>DE hk) mF;have hS:∀k,(k<i'∨k=i')→k<i'+1:=fun k hk=>by omega
      exact⟨h3.1.imp fun id h1 _ h2=>hS _ (h1 h2),fun id ty cs hb=>(h3.2 id ty cs hb).imp fun id h1 _ h2=>hS _ (h1 h2)⟩
    refine J.op E (p:=w7 mk rid i') (p':=w7 mk rid (i'+1)) (rid:=rid) (i:=i') (s:=iD.tmps) (fun hm id hp nJ => ?_) j Ul (fun x _=>qZ (by rw[h1];exact j.tr) x) (fun x _=>N0 (by rw[h1];exact j.tm) x) (fun id o hg=>by rw[hh]at hg;exact hg) he (fun _ _ _=>hh) up ow.1 ow.2 fun a' w' Z' ψ' j' => ?_
    ·cases N1:mk with
     |false=>rw[QA N1 i' o ho]at hm;cases hm
     |true =>obtain⟨h3,h4⟩:=nJ.parts hi;have:=hp N1 h3;rw[h4]at this;exact Nat.lt_irrefl _ this
    refine ih _ Z' ψ' a' w' hl hx ?_;rw[hZ,dk];have j2:J (w7 mk rid (i'+1)) n Z0 w0 O ψ0 Z' ψ' (jc (look iD.tmps) o.dst e.v) (bL.heap e iD.heap).get a' w':=by rw[bL.HL,h1,h2];exact j'
    exact j2
   ·cases hx
  have vg:∀iD:St,look iD.tmps=look st.tmps→iD.heap=st.heap→Region.wanted o (yielded ops a.tmps)=false → bG P Eqs Sg F rid false ops b l (iD.put o.dst (.ns [])) kk=some r→wpOps P ops Q (((i',o)::l).map Prod.fst) a w:=by intro iD h1 h2 hw hx;simp only[List.map_cons,wpOps,ho,hw,Bool.false_eq_true,if_false];refine ih _ Z ψ _ w hl hx ?_;rw[hZ,dk,h1,h2];exact j.skip Ul up
  rw[bG]at hx;simp only[Bool.false_eq_true,if_false]at hx
  split at hx
  ·rename_i hg;exact runs st rfl rfl (by simp[Region.wanted,hg]) hx
  ·rename_i jj want hg
   split at hx
   ·cases hx
   ·rename_i d hd
    split at hx
    ·rename_i t ht;have hw:=Bm j.tr hg hd ht;have hp:∀b,t=b→look (st.put (some d) (.bool b)).tmps=look st.tmps:=fun b hb=>by subst hb;rw[hZ];exact Eg ht
     cases t<;>simp only[cond_true,cond_false]at hx<;>split at hx<;>rename_i q6
     ·exact vg _ (hp false rfl) (dk _ _ _) (by rw[hw];simp[q6]) hx
     ·exact runs _ (hp false rfl) (dk _ _ _) (by rw[hw];simp[q6]) hx
     ·exact runs _ (hp true rfl) (dk _ _ _) (by rw[hw];simp[q6]) hx
     ·exact vg _ (hp true rfl) (dk _ _ _) (by rw[hw];simp[q6]) hx
    ·rename_i vs ht;exact vg st rfl rfl (yN j.tr hg hd ht) hx
    ·cases hx
theorem ku(hp h:Heap)(i:Nat):∀(ft:List Nat),(fk ft hp h).get i=if i∈ft then(match hp.get i with|some o=>some o|none=>h.get i) else h.get i
 |[]=>by simp[fk]
 |j::r=>by
  have ih:=ku hp h i r;unfold fk at ih ⊢
  cases hj:hp.get j with
  |none =>
   rw[List.filterMap_cons,hj];simp only[Option.map_none];rw[ih];by_cases e:i=j
   ·subst e;simp[hj]
   ·simp[e]
  |some o =>
   rw[List.filterMap_cons,hj];simp only[Option.map_some,List.cons_append,Heap.get];rw[ih];by_cases e:j=i
   ·subst e;simp[hj]
   ·have e':¬i=j:=fun h=>e h.symm;simp[e,e']
mutual
theorem yO{ft:List Nat}:∀{v:AV},qM ft v=true→aM (fun i=>i∉ft) v
 |.ref id _ _ _,h=>by simp only[aM];simpa[qM] using h
 |.bK id,h=>by simp only[aM];simpa[qM] using h
 |.fn _ cap,h=>by simp only[aM];exact kx (by simpa only[qM] using h)
 |.agg cs,h=>by simp only[aM];exact kx (by simpa only[qM] using h)
 |.ns vs,h=>by simp only[aM];exact kx (by simpa only[qM] using h)
 |.no,_=>by simp only[aM]
 |.bool _,_=>by simp only[aM]
 |.int _ _,_=>by simp only[aM]
 |.str _,_=>by simp only[aM]
 |.la,_=>by simp only[aM]
 |.fZ,_=>by simp only[aM]
 |.fp _ _ _,_=>by simp only[aM]
 |.sl _ _ _,_=>by simp only[aM]
 |.mp _ _ _,_=>by simp only[aM]
theorem kx{ft:List Nat}:∀{l:List AV},tJ ft l=true→aG (fun i=>i∉ft) l
 |[],_=>by simp only[aG]
 |v::r,h=>by simp only[tJ,Bool.and_eq_true]at h;simp only[aG];exact⟨yO h.1,kx h.2⟩
end
theorem ky{ft:List Nat}:∀{hh:Heap},tK ft hh=true→∀i o,hh.get i=some o→i∉ft∧∀ty cs,o=.box ty cs→aG (fun i=>i∉ft) cs
 |[],_,i,o,h=>by simp[Heap.get]at h
 |(j,.box ty cs)::r,hc,i,o,h=>by
  simp only[tK,Bool.and_eq_true]at hc;simp only[Heap.get]at h
  split at h
  ·rename_i e;subst e;cases h;exact⟨by simpa using hc.1,fun ty cs e=>by cases e;exact kx hc.2.1⟩
  ·exact ky hc.2.2 i o h
 |(j,.own ok x)::r,hc,i,o,h=>by
  simp only[tK,Bool.and_eq_true]at hc;simp only[Heap.get]at h
  split at h
  ·rename_i e;subst e;cases h;exact⟨by simpa using hc.1,fun ty cs e=>by cases e⟩
  ·exact ky hc.2 i o h
theorem Next.frame{hp h1:Heap}{ft:List Nat}(g:Good Z ψ hp.get w B0 O)(hB:B0≤w.heap.size)(bz:∀i ty cs,hp.get i=some (.box ty cs)→aG (fun i=>¬N i) cs) (n:Next Z ψ (gY hp ft).get w w.heap.size (Own ψ (gY hp ft).get) N Z' ψ' h1.get w') (hc:tK ft h1=true) :
  ∃ed,Next Z ψ hp.get w B0 O N Z' ed (fk ft hp h1).get w'∧∀i,i∉ft→ed i=ψ' i:=by
 classical
 have gd:∀i,(gY hp ft).get i=if i∈ft then none else hp.get i:=fun i=>oq ft hp i
 have bE:∀b,Own ψ (gY hp ft).get b→Own ψ hp.get b:=fun b ⟨i,h1,h2⟩=>⟨i,by rw[gd]at h1;split at h1;exact absurd rfl h1;exact h1,h2⟩;have qU:∀i,i∈ft→h1.get i=none:=fun i hi=>by
  cases e:h1.get i with
  |none=>rfl
  |some o=>exact absurd hi (ky hc i o e).1
 have gf:∀i,(fk ft hp h1).get i=if i∈ft then hp.get i else h1.get i:=fun i=>by
  rw[ku];by_cases hi:i∈ft
  ·rw[if_pos hi,if_pos hi,qU i hi];cases hp.get i<;>rfl
  ·rw[if_neg hi,if_neg hi]
 let ed:Nat→Value:=fun i=>if i∈ft then ψ i else ψ' i
 have p1:∀i,i∈ft→ed i=ψ i:=fun i hi=>if_pos hi;have p2:∀i,i∉ft→ed i=ψ' i:=fun i hi=>if_neg hi;have apart:∀i b,i∈ft→hp.get i≠none→ob (ψ i)=some b→¬Own ψ (gY hp ft).get b:=fun i b hi h2 h3 ⟨j,h4,h5⟩=>by
  rw[gd]at h4
  split at h4
  ·exact h4 rfl
  ·rename_i hj;have:=g.apart i j b h2 h4 h3 h5;subst this;exact hj hi
 have cV:∀i b,i∈ft→hp.get i≠none→ob (ψ i)=some b→w'.heap[b]? = w.heap[b]? := fun i b hi h2 h3 =>n.keep.block b (g.bT ⟨i,h2,h3⟩) (apart i b hi h2 h3);have keep:dg ψ hp.get w w':=⟨n.keep.os,n.keep.tape,n.keep.output,n.keep.size,fun b hb hn=>n.keep.block b hb fun ho=>hn (bE b ho)⟩;have sm:cy Z w w':=keep.same g;have ids:∀i,(fk ft hp h1).get i≠none→(hp.get i≠none∧ed i=ψ i)∨N i:=fun i hi=>by
  rw[gf]at hi;by_cases hf:i∈ft
  ·rw[if_pos hf]at hi;exact .inl ⟨hi,p1 i hf⟩
  ·rw[if_neg hf]at hi;rcases n.ids i hi with⟨h2,h3⟩|h2
   ·rw[gd,if_neg hf]at h2;exact .inl ⟨h2,(p2 i hf).trans h3⟩
   ·exact .inr h2
 have nz:∀i b,i∈ft→hp.get i≠none→ob (ψ i)=some b→¬Z' b:=fun i b hi h2 h3 hz=>by
  rcases n.eQ b hz with h4|h4|h4
  ·exact(g.live i b h2 h3).1 h4
  ·exact apart i b hi h2 h3 h4
  ·have:=g.bT ⟨i,h2,h3⟩;omega
 refine⟨ed,⟨n.fU,fun b hb=>(n.eQ b hb).imp (fun h=>h) (fun h=>h.imp (bE b) fun h=>h),keep,ids,⟨fun i ty cs hb=>?_,fun i ok x hb=>?_,fun i b h2 h3=>?_,fun i j b h2 h3 h4 h5=>?_,n.dZ.jO⟩⟩,p2⟩
 ·rw[gf]at hb;by_cases hf:i∈ft
  ·rw[if_pos hf]at hb;obtain⟨gg,vs,e1,e2,e3,e4⟩:=g.box i ty cs hb;refine⟨gg,vs,by rw[p1 i hf,e1],(cV i gg hf (by rw[hb];simp) (by rw[e1];rfl)).trans e2,e3.move n.fU sm (fun j hj bw=>(ids j bw).resolve_right hj) (bz i ty cs hb),e4⟩
  ·rw[if_neg hf]at hb;obtain⟨gg,vs,e1,e2,e3,e4⟩:=n.dZ.box i ty cs hb;refine⟨gg,vs,by rw[p2 i hf,e1],e2,e3.move (fun _ h=>h) (cy.refl _ _) (fun j hj bw=>?_) ((ky hc i _ hb).2 ty cs rfl),e4⟩;rw[gf,if_neg hj]at bw;exact⟨bw,p2 j hj⟩
 ·rw[gf]at hb;by_cases hf:i∈ft
  ·rw[if_pos hf]at hb;rw[p1 i hf];exact(g.row i ok x hb).kept n.fU sm (fun b mE=>cV i b hf (by rw[hb];simp) mE)
  ·rw[if_neg hf]at hb;rw[p2 i hf];exact n.dZ.row i ok x hb
 ·rw[gf]at h2;by_cases hf:i∈ft
  ·rw[if_pos hf]at h2;rw[p1 i hf]at h3;exact⟨nz i b hf h2 h3,(g.live i b h2 h3).2⟩
  ·rw[if_neg hf]at h2;rw[p2 i hf]at h3;obtain⟨h4,h5⟩:=n.dZ.live i b h2 h3;refine⟨h4,h5.elim (fun h=>.inl (adC hB h)) fun h=>?_⟩;obtain⟨j,h6,h7⟩:=bE b h;exact(g.live j b h6 h7).2
 ·have mixed:∀i j b,i∈ft→j∉ft→(fk ft hp h1).get i≠none→(fk ft hp h1).get j≠none→ob (ed i)=some b→ob (ed j)=some b→False:=fun i j b hi hj h2 h3 h4 h5=>by
   rw[gf,if_pos hi]at h2;rw[gf,if_neg hj]at h3;rw[p1 i hi]at h4;rw[p2 j hj]at h5;rcases (n.dZ.live j b h3 h5).2 with h6|h6
   ·have:=g.bT ⟨i,h2,h4⟩;omega
   ·exact apart i b hi h2 h4 h6
  by_cases hi:i∈ft<;>by_cases hj:j∈ft
  ·rw[gf,if_pos hi]at h2;rw[gf,if_pos hj]at h3;rw[p1 i hi]at h4;rw[p1 j hj]at h5;exact g.apart i j b h2 h3 h4 h5
  ·exact(mixed i j b hi hj h2 h3 h4 h5).elim
  ·exact(mixed j i b hj hi h3 h2 h5 h4).elim
  ·rw[gf,if_neg hi]at h2;rw[gf,if_neg hj]at h3;rw[p2 i hi]at h4;rw[p2 j hj]at h5;exact n.dZ.apart i j b h2 h3 h4 h5
theorem J.opF(E:Env P Eqs Sg F){rid n i:Nat}{p:Nat→Prop}{T:Nat→AV}{a:Act}{s:List (Nat×AV)}{o:Oper}(hS:makes o.op=true→∀id,p id→¬Of rid i id){hp h1:Heap}{v:AV}{ft:List Nat}(j:J p n Z0 w0 O ψ0 Z ψ T hp.get a w)(hd:iv n o=true) (hT:∀x∈o.op.operands,aC Z ψ hp.get w (ρ s x) (a.eval x)) (hTm:∀x∈o.op.operands,aM p (ρ s x)) (he:cY P Eqs Sg F (opId rid i) (gY hp ft) s o some=some (.wr v h1)) (hc:nC ft (.wr v h1)=true) {p':Nat→Prop} (PB:∀k,p k→p' k) (hv:aM p' v) (Yf:th p' (fk ft hp h1).get) {next:Act→World→Prop} {Q:Exit→Act→World→Prop} (hk:∀a' w' Z' ψ',J p' n Z0 w0 O ψ0 Z' ψ' (jc T o.dst v) (fk ft hp h1).get a' w'→next a' w'):o.wp P a w next Q:=by
 have Yg:∀id,p id→¬(makes o.op=true∧Of rid i id):=fun id h ⟨h1,h2⟩=>hS h1 id h h2;simp only[nC,Bool.and_eq_true]at hc;have bE:∀id o,(gY hp ft).get id=some o→hp.get id=some o:=fun id o h=>by rw[oq]at h;split at h;cases h;exact h
 have bw:∀id,(gY hp ft).get id≠none→hp.get id≠none:=fun id h=>by obtain⟨o,ho⟩:=ac9.1 h;rw[bE id o ho];simp
 have bz:∀i' ty cs,hp.get i'=some (.box ty cs)→aG (fun id=>¬(makes o.op=true∧Of rid i id)) cs:=fun id ty cs hb=>(j.hm id ty cs hb).imp Yg;have gs:Good Z ψ (gY hp ft).get w w.heap.size (Own ψ (gY hp ft).get):=(j.ok.dZ.sub bE).FC _;refine WK (N:=fun id=>makes o.op=true∧Of rid i id) E gs (adj _) (fun _ _ h=>h) (id:=opId rid i) (fun hm k hk=>⟨hm,Mb hk⟩) (fun x hx=>(hT x hx).qx bE) (fun x hx=>(hTm x hx).imp Yg) (fun id ty cs hb=>bz id ty cs (bE _ _ hb)) (fun _ _ _=>rfl) he fun V w' Z' ψ' nx hr=>?_;obtain⟨ed,n2,h2⟩:=Next.frame j.ok.dZ j.ok.size bz nx hc.2;have WM:aC Z' ed (fk ft hp h1).get w' v V:=hr.move (p:=fun i=>i∉ft) (fun _ h=>h) (cy.refl _ _) (fun k hk bw=>by rw[ku,if_neg hk]at bw;exact⟨bw,h2 k hk⟩) (yO hc.1);refine hk _ w' Z' ed ⟨j.ok.next (fun id h=>by have:=h.2;unfold Of at this;omega) n2,(j.tr.next j.ok.dZ n2 (fun d=>(j.tm d).imp Yg)).put hd WM,fun d=>?_,Yf⟩
 cases kS:o.dst with
 |none=>exact(j.tm d).imp PB
 |some d0 =>
  simp only[jc,eu]
  split
  ·exact hv
  ·exact(j.tm d).imp PB
end Go.Vs
namespace Go.Vs
variable {P:Program} {Eqs:TypeId→Option K} {Sg:FuncId→Option aS} {F:(f:FuncId)→(g:aS)→g.A→Option g.B} {R:Type}
variable {Z Z' Z0:Nat→Prop} {ψ ψ':Nat→Value} {h h':Hp} {w w' w0:World} {B0:Nat} {O N:Nat→Prop}
variable {rid n:Nat} {ops:Array Oper} {b:Array Nat}
def si(b:Array Nat)(i j:Nat):Prop:=(b.getD i 0).testBit j=true
theorem Ej(b:Array Nat)(j:Nat):∀(l:List Edge) (s:Nat),(l.foldl (fun s e=>if Region.binds .any e then s ||| 2 ^ e.on ||| b.getD e.on 0 else s) s).testBit j=true ↔
  s.testBit j=true∨∃e∈l,Region.binds .any e=true∧(j=e.on∨si b e.on j)
 |[],s=>by simp
 |e::l,s=>by
  rw[List.foldl_cons,Ej b j l];by_cases hb:Region.binds .any e=true
  ·rw[if_pos hb];have h2:(2 ^ e.on).testBit j=true↔j=e.on:=by rw[Nat.testBit_two_pow];simp[eq_comm]
   simp only[Nat.testBit_or,Bool.or_eq_true,h2,List.mem_cons,exists_eq_or_imp,hb,true_and,si];constructor
   ·rintro(((h|h)|h)|h)
    ·exact .inl h
    ·exact .inr (.inl (.inl h))
    ·exact .inr (.inl (.inr h))
    ·exact .inr (.inr h)
   ·rintro(h|(h|h)|h)
    ·exact .inl (.inl (.inl h))
    ·exact .inl (.inl (.inr h))
    ·exact .inl (.inr h)
    ·exact .inr h
  ·rw[if_neg hb];simp[hb]
theorem z6(hb:uM ops b=true){i j:Nat}{o:Oper}(ho:ops[i]? = some o):si b i j↔∃e∈o.after.toList,Region.binds .any e=true∧(j=e.on∨si b e.on j):=by have aF:=(acr.1 ho).1;have h1:=adK.1 hb i (aey.2 aF);rw[ho]at h1;simp only[Bool.and_eq_true,beq_iff_eq]at h1;unfold si;rw[h1.2,Ej];simp[si]
theorem KG(hb:uM ops b=true){i:Nat}{o:Oper}(ho:ops[i]? = some o){e:Edge}(he:e∈o.after.toList)(NO:Region.binds .any e=true):e.on<i:=by have aF:=(acr.1 ho).1;have h1:=adK.1 hb i (aey.2 aF);rw[ho]at h1;simp only[Bool.and_eq_true]at h1;have:=adK.1 h1.1 e he;simpa[NO] using this
theorem Bp(hb:uM ops b=true):∀(i j:Nat),i<ops.size→si b i j→j<i:=by
 intro i
 induction i using Nat.strongRecOn with
 |ind i ih =>
  intro j hi h;obtain⟨e,he,NO,h1⟩:=(z6 hb (adA hi)).1 h;have Yi:=KG hb (adA hi) he NO;rcases h1 with rfl|h1
  ·exact Yi
  ·exact Nat.lt_trans (ih e.on Yi j (by omega) h1) Yi
theorem Ek(hb:uM ops b=true):∀(i j k:Nat),i<ops.size→si b i j→si b j k→si b i k:=by
 intro i
 induction i using Nat.strongRecOn with
 |ind i ih =>
  intro j k hi h h';obtain⟨e,he,NO,h1⟩:=(z6 hb (adA hi)).1 h;have Yi:=KG hb (adA hi) he NO;refine(z6 hb (adA hi)).2 ⟨e,he,NO,?_⟩;rcases h1 with rfl|h1
  ·exact .inr h'
  ·exact .inr (ih e.on Yi j k (by omega) h1 h')
theorem get_filter(f:Nat→Bool):∀(hh:Heap) (i:Nat),Heap.get (hh.filter fun p=>f p.1) i=if f i then hh.get i else none
 |[],i=>by simp[Heap.get]
 |(j,o)::r,i=>by
  rw[List.filter_cons]
  split
  ·rename_i hj;simp only[Heap.get];by_cases e:j=i
   ·subst e;simp only at hj;simp[hj]
   ·simp only[if_neg e];exact get_filter f r i
  ·rename_i hj;rw[get_filter f r i];simp only[Heap.get];by_cases e:j=i
   ·subst e;simp only at hj;simp[hj]
   ·simp only[if_neg e]
theorem N2(rid J9:Nat)(hh:Heap)(id:Nat):(ahead rid J9 hh).get id=if qL rid J9 id then hh.get id else none:=by unfold ahead;exact get_filter (fun i=>qL rid J9 i) hh id
theorem QC(ft:List Nat)(hp:Heap)(e:bL):(gT ft hp e).v=e.v:=by cases e<;>rfl
theorem HO{id:Nat}{hh:Heap}{s:List (Nat×AV)}{o:Oper}{x:Operand}{e:bL}(hl:jk o.op=some x)(he:cY P Eqs Sg F id hh s o some=some e):∃v,e=.val v:=by
 obtain⟨dst,op,type,pos,after,guard⟩:=o
 cases op<;>simp only[jk]at hl<;>first|(cases hl;done)|skip
 case load t a =>
  simp only[cY,lM]at he
  repeat' (first|(cases he;done)|exact⟨_,(ac5 he).symm⟩|split at he)
  all_goals
   obtain⟨y,_,he⟩:=adG.1 he
   split at he<;>first|(cases he;done)|exact⟨_,(ac5 he).symm⟩
 case indexAddr t a i =>
  simp only[cY,dC]at he
  repeat' (first|(cases he;done)|exact⟨_,(ac5 he).symm⟩|split at he)
  all_goals first
   |(obtain⟨y,_,he⟩:=adG.1 he;exact⟨_,(ac5 he).symm⟩)
   |(unfold cond at he;split at he<;>first|(cases he;done)|exact⟨_,(ac5 he).symm⟩)
theorem El{op:Op}{x:Operand}(hl:jk op=some x):nu op=false∧Fj op=false:=by cases op<;>simp only[jk]at hl<;>first|(cases hl;done)|exact⟨rfl,rfl⟩
theorem KH{id:Nat}{hh h2:Heap}{s:List (Nat×AV)}{o:Oper}{x:Operand}(hl:jk o.op=some x)(hg:∀i∈uO (ρ s x),h2.get i=hh.get i):cY P Eqs Sg F id h2 s o some=cY P Eqs Sg F id hh s o some:=by
 obtain⟨dst,op,type,pos,after,guard⟩:=o
 cases op<;>simp only[jk]at hl<;>first|(cases hl;done)|skip
 case load t a =>
  cases hl
  simp only[cY,lM]
  cases hv:ρ s x with
  |ref i s' j off=>rw[hv]at hg;simp only[uO,List.mem_singleton,forall_eq]at hg;simp only[hg]
  |_=>rfl
 case indexAddr t a i =>
  cases hl
  simp only[cY,dC]
  cases yi P t with
  |none=>rfl
  |some e =>
   simp only[]
   cases hv:ρ s x with
   |bK k =>
    rw[hv]at hg;have AX:=hg k (by simp[uO])
    cases ρ s i<;>first|rfl|simp only[AX]
   |sl ex k xs=>cases ρ s i<;>rfl
   |_=>rfl
def qp(ops:Array Oper)(T:Nat→AV)(o:Oper)(t:Bool):Prop :=match o.guard with
 |none=>t=true
 |some (j,want)=>∃d,(ops[j]?).bind (·.dst)=some d∧((∃u,T d=.bool u∧(u==want)=t)∨(∃vs,T d=.ns vs∧t=false))
def Bq(P:Program)(Eqs:TypeId→Option K)(Sg:FuncId→Option aS)(F:(f:FuncId)→(g:aS)→g.A→Option g.B)(rid:Nat)(ops:Array Oper)(b:Array Nat)(T:Nat→Nat→AV)(H:Nat→Hp)(E:Nat→Option bL)(k:Nat)(o:Oper):Prop :=(∃e s hh,E k=some e∧look s=T k∧(∀id,Heap.get hh id=if qL rid (b.getD k 0) id then H k id else none)∧(∃e0,cY P Eqs Sg F (opId rid k) (gY hh (gZ ops b k s o)) s o some=some e0∧e=gT (gZ ops b k s o) hh e0∧nC (gZ ops b k s o) e0=true) ∧
  gR true rid ops b k (b.getD k 0) e=true∧qp ops (T k) o true∧T (k+1)=jc (T k) o.dst e.v∧H (k+1)=e.hp (H k)) ∨
 (E k=none∧qp ops (T k) o false∧T (k+1)=jc (T k) o.dst (.ns [])∧H (k+1)=H k)
theorem trace{kk:St→Option R}{r:R}:∀(l:List (Nat×Oper)) (i:Nat) (st:St),Bn ops i l→l.length=ops.size-i→bG P Eqs Sg F rid true ops b l st kk=some r → ∃(T:Nat→Nat→AV) (H:Nat→Hp) (E:Nat→Option bL),T i=look st.tmps∧H i=st.heap.get∧(∀k o,i≤k→ops[k]? = some o→Bq P Eqs Sg F rid ops b T H E k o) ∧ ∃eP,kk eP=some r∧look eP.tmps=T (max i ops.size)∧eP.heap.get=H (max i ops.size)
 |[],i,st,_,hlen,hx=>by
  have WG:ops.size≤i:=by simp at hlen;omega
  refine⟨fun _=>look st.tmps,fun _=>st.heap.get,fun _=>none,rfl,rfl,fun k o hk ho=>?_,st,hx,rfl,rfl⟩;have:=(acr.1 ho).1;omega
 |(i',o)::l,i,st,hl,hlen,hx=>by
  obtain⟨rfl,ho,hl⟩:=hl;have aF:=(acr.1 ho).1;have ih:=trace (kk:=kk) (r:=r) l (i'+1);have aaO:l.length=ops.size-(i'+1):=by simp at hlen;omega
  have glue:∀(eP:St) (oe:Option bL),bG P Eqs Sg F rid true ops b l eP kk=some r →(∀T H E,T i'=look st.tmps→H i'=st.heap.get→E i'=oe→T (i'+1)=look eP.tmps→H (i'+1)=eP.heap.get→Bq P Eqs Sg F rid ops b T H E i' o) → ∃(T:Nat→Nat→AV) (H:Nat→Hp) (E:Nat→Option bL),T i'=look st.tmps∧H i'=st.heap.get∧(∀k o,i'≤k→ops[k]? = some o→Bq P Eqs Sg F rid ops b T H E k o) ∧ ∃eP,kk eP=some r∧look eP.tmps=T (max i' ops.size)∧eP.heap.get=H (max i' ops.size):=by
   intro eP oe hx' uU;obtain⟨T,H,E,h1,h2,h3,afS,h4,h5,h6⟩:=ih eP hl aaO hx';refine⟨fun k=>if k≤i' then look st.tmps else T k,fun k=>if k≤i' then st.heap.get else H k,fun k=>if k=i' then oe else E k,by simp,by simp,fun k o' hk nJ => ?_,afS,h4,?_,?_⟩
   ·by_cases hki:k=i'
    ·subst hki;rw[ho]at nJ
     cases nJ
     exact uU _ _ _ (by simp) (by simp) (by simp) (by show(if k+1≤k then _ else _)=_;rw[if_neg (by omega)];exact h1) (by show(if k+1≤k then _ else _)=_;rw[if_neg (by omega)];exact h2)
    ·have h7:=h3 k o' (by omega) nJ;unfold Bq at h7 ⊢;simp only[show ¬k≤i' by omega,show ¬k+1≤i' by omega,hki,if_false];exact h7
   ·rw[h5];simp only[show max (i'+1) ops.size=ops.size by omega,show max i' ops.size=ops.size by omega,show ¬ops.size≤i' by omega,if_false]
   ·rw[h6];simp only[show max (i'+1) ops.size=ops.size by omega,show max i' ops.size=ops.size by omega,show ¬ops.size≤i' by omega,if_false]
  have runs:∀iD:St,look iD.tmps=look st.tmps→iD.heap=st.heap→qp ops (look st.tmps) o true →(cY P Eqs Sg F (opId rid i') (gY (ahead rid (b.getD i' 0) iD.heap) (gZ ops b i' iD.tmps o)) iD.tmps o fun e=>if(gR true rid ops b i' (b.getD i' 0) (gT (gZ ops b i' iD.tmps o) (ahead rid (b.getD i' 0) iD.heap) e)&&nC (gZ ops b i' iD.tmps o) e)=true then bG P Eqs Sg F rid true ops b l ({ iD with heap:=match gT (gZ ops b i' iD.tmps o) (ahead rid (b.getD i' 0) iD.heap) e with | .wr _ h=>h|e=>e.h iD.heap }.put o.dst e.v) kk else none)=some r →
    ∃(T:Nat→Nat→AV) (H:Nat→Hp) (E:Nat→Option bL),T i'=look st.tmps∧H i'=st.heap.get∧(∀k o,i'≤k→ops[k]? = some o→Bq P Eqs Sg F rid ops b T H E k o) ∧ ∃eP,kk eP=some r∧look eP.tmps=T (max i' ops.size)∧eP.heap.get=H (max i' ops.size):=by
   intro iD h1 h2 hw hx;rw[lz]at hx;obtain⟨e,he,hx⟩:=adG.1 hx
   split at hx
   ·rename_i mF;rw[Bool.and_eq_true]at mF;generalize z7:gT (gZ ops b i' iD.tmps o) (ahead rid (b.getD i' 0) iD.heap) e=e1 at hx mF;have tc:e.v=e1.v:=by rw[←z7];exact(QC _ _ _).symm
    refine glue _ (some e1) hx fun T H E hT hH hE hT' X9 => ?_;refine .inl ⟨e1,iD.tmps,_,hE,by rw[hT,h1],fun id=>by rw[N2,hH,h2],⟨e,he,z7.symm,mF.2⟩,mF.1,by rw[hT];exact hw,?_,?_⟩
    ·rw[hT',hZ,hT,tc];simp only[h1]
    ·rw[X9,dk,hH];have:(bL.heap e1 iD.heap).get=e1.hp st.heap.get:=by rw[bL.HL,h2]
     exact this
   ·cases hx
  have vg:∀iD:St,look iD.tmps=look st.tmps→iD.heap=st.heap→qp ops (look st.tmps) o false → bG P Eqs Sg F rid true ops b l (iD.put o.dst (.ns [])) kk=some r → ∃(T:Nat→Nat→AV) (H:Nat→Hp) (E:Nat→Option bL),T i'=look st.tmps∧H i'=st.heap.get∧(∀k o,i'≤k→ops[k]? = some o→Bq P Eqs Sg F rid ops b T H E k o) ∧ ∃eP,kk eP=some r∧look eP.tmps=T (max i' ops.size)∧eP.heap.get=H (max i' ops.size):=by
   intro iD h1 h2 hw hx;refine glue _ none hx fun T H E hT hH hE hT' X9=>.inr ⟨hE,by rw[hT];exact hw,?_,?_⟩
   ·rw[hT',hZ,hT,h1]
   ·rw[X9,dk,hH,h2]
  rw[bG]at hx;simp only[if_true]at hx
  split at hx
  ·rename_i hg;exact runs st rfl rfl (by simp[qp,hg]) hx
  ·rename_i jj want hg
   split at hx
   ·cases hx
   ·rename_i d hd
    split at hx
    ·rename_i t ht;have hp:∀b,t=b→look (st.put (some d) (.bool b)).tmps=look st.tmps:=fun b hb=>by subst hb;rw[hZ];exact Eg ht
     have hw:∀c,(t==want)=c→qp ops (look st.tmps) o c:=fun c hc=>by unfold qp;rw[hg];exact⟨d,hd,.inl ⟨t,ht,hc⟩⟩
     cases t<;>simp only[cond_true,cond_false]at hx<;>split at hx<;>rename_i q6
     ·exact vg _ (hp false rfl) (dk _ _ _) (hw _ (by simp[q6])) hx
     ·exact runs _ (hp false rfl) (dk _ _ _) (hw _ (by simp[q6])) hx
     ·exact runs _ (hp true rfl) (dk _ _ _) (hw _ (by simp[q6])) hx
     ·exact vg _ (hp true rfl) (dk _ _ _) (hw _ (by simp[q6])) hx
    ·rename_i vs ht;exact vg st rfl rfl (by unfold qp;rw[hg];exact⟨d,hd,.inr ⟨vs,ht,rfl⟩⟩) hx
    ·cases hx
def Nf(ops:Array Oper)(j:Nat):Prop:=∃o,ops[j]? = some o∧nu o.op=false∧jk o.op=none
def z8(E:Nat→Option bL)(k:Nat):Prop:=∃v h',E k=some (.wr v h')
def ZK(E:Nat→Option bL)(k:Nat):Prop:=∃v os,E k=some (.new v os)
theorem vh{α:Type}(f:α→Option Nat):∀(l:List α),cj (l.filterMap f)=true→∀(i j:Nat) (x y:α) (d:Nat),l[i]? = some x→l[j]? = some y→f x=some d→f y=some d→i=j
 |[],_,i,j,x,y,d,hi,_,_,_=>by simp at hi
 |a::r,hn,i,j,x,y,d,hi,hj,hx,hy=>by
  have gV:∀(k:Nat) (z:α),r[k]? = some z→f z=some d→d∈r.filterMap f:=fun k z hk hz=>ae2.2 ⟨z,adh hk,hz⟩;have hr:cj (r.filterMap f)=true∧∀c,f a=some c→c∉r.filterMap f:=by
   rw[List.filterMap_cons]at hn
   split at hn
   ·rename_i h0;exact⟨hn,fun c hc=>by rw[h0]at hc;cases hc⟩
   ·rename_i c h0;simp only[cj,Bool.and_eq_true,Bool.not_eq_true']at hn;refine⟨hn.2,fun c' hc=>?_⟩;rw[h0]at hc;cases hc;intro hm;rw[List.contains_iff_mem.2 hm]at hn;simp at hn
  cases i with
  |zero =>
   cases j with
   |zero=>rfl
   |succ j =>simp only[List.getElem?_cons_zero,Option.some.injEq]at hi;subst hi;exact absurd (gV j y (by simpa using hj) hy) (hr.2 d hx)
  |succ i =>
   cases j with
   |zero =>simp only[List.getElem?_cons_zero,Option.some.injEq]at hj;subst hj;exact absurd (gV i x (by simpa using hi) hx) (hr.2 d hy)
   |succ j=>rw[vh f r hr.1 i j x y d (by simpa using hi) (by simpa using hj) hx hy]
structure Dr(P:Program)(Eqs:TypeId→Option K)(Sg:FuncId→Option aS)(F:(f:FuncId)→(g:aS)→g.A→Option g.B)(rid n:Nat)(ops:Array Oper)(b:Array Nat)(T:Nat→Nat→AV)(H:Nat→Hp)(E:Nat→Option bL):Prop where
 size:ops.size≤128
 PC:uM ops b=true
 pair:AH ops b=true
 afU:∀(i:Nat) (o:Oper),ops[i]? = some o→iv n o=true
 nodup:cj (ops.toList.filterMap (·.dst))=true
 step:∀k o,ops[k]? = some o→Bq P Eqs Sg F rid ops b T H E k o
 afV:∀id,H 0 id≠none→id / 32768≠rid+1
section
variable {T:Nat→Nat→AV} {H:Nat→Hp} {E:Nat→Option bL}
theorem Dr.Aa(D:Dr P Eqs Sg F rid n ops b T H E){i j:Nat}{x y:Oper}{d:Nat}(hi:ops[i]? = some x)(hj:ops[j]? = some y)(hx:x.dst=some d)(hy:y.dst=some d):i=j :=vh (·.dst) ops.toList D.nodup i j x y d (by simpa using hi) (by simpa using hj) hx hy
theorem Dr.WN(D:Dr P Eqs Sg F rid n ops b T H E){i j:Nat}{x y:Oper}(hi:ops[i]? = some x)(hj:ops[j]? = some y)(zQ:i<j):si b j i∨x.apart ops y=true:=by have h1:=adK.1 D.pair j (aey.2 (acr.1 hj).1);have h2:=adK.1 h1 i (aey.2 zQ);rw[hi,hj]at h2;simp only[Bool.or_eq_true,Bool.and_eq_true]at h2;exact h2
theorem Dr.U3(D:Dr P Eqs Sg F rid n ops b T H E){k:Nat}{o:Oper}(ho:ops[k]? = some o){e:bL}(he:E k=some e) :
  ∃s hh,look s=T k∧(∀id,Heap.get hh id=if qL rid (b.getD k 0) id then H k id else none)∧(∃e0,cY P Eqs Sg F (opId rid k) (gY hh (gZ ops b k s o)) s o some=some e0∧e=gT (gZ ops b k s o) hh e0∧nC (gZ ops b k s o) e0=true) ∧
   gR true rid ops b k (b.getD k 0) e=true∧qp ops (T k) o true∧T (k+1)=jc (T k) o.dst e.v∧H (k+1)=e.hp (H k):=by
 rcases D.step k o ho with⟨e',s,hh,h1,h2⟩|⟨h1,_⟩
 ·rw[he]at h1;cases h1;exact⟨s,hh,h2⟩
 ·rw[he]at h1;cases h1
theorem Dr.FI(D:Dr P Eqs Sg F rid n ops b T H E){k:Nat}{o:Oper}(ho:ops[k]? = some o)(he:E k=none) :
  qp ops (T k) o false∧T (k+1)=jc (T k) o.dst (.ns [])∧H (k+1)=H k:=by
 rcases D.step k o ho with⟨e',s,hh,h1,h2⟩|⟨h1,h2⟩
 ·rw[he]at h1;cases h1
 ·exact h2
theorem Dr.w8(D:Dr P Eqs Sg F rid n ops b T H E){k:Nat}(hk:k<ops.size)(h:ZK E k):Nf ops k:=by
 obtain⟨v,os,he⟩:=h;obtain⟨s,hh,_,_,⟨e0,h3,WB,_⟩,_⟩:=D.U3 (adA hk) he;refine⟨_,adA hk,?_,?_⟩
 ·cases hf:nu (ops[k]).op with
  |false=>rfl
  |true=>obtain⟨v',rfl⟩:=HH hf h3;cases WB
 ·cases hf:jk (ops[k]).op with
  |none=>rfl
  |some x=>obtain⟨v',rfl⟩:=HO hf h3;cases WB
theorem Dr.QD(D:Dr P Eqs Sg F rid n ops b T H E){k:Nat}(hk:k<ops.size)(h:z8 E k):Nf ops k:=by
 obtain⟨v,os,he⟩:=h;obtain⟨s,hh,_,_,⟨e0,h3,WB,_⟩,_⟩:=D.U3 (adA hk) he;refine⟨_,adA hk,?_,?_⟩
 ·cases hf:nu (ops[k]).op with
  |false=>rfl
  |true=>obtain⟨v',rfl⟩:=HH hf h3;cases WB
 ·cases hf:jk (ops[k]).op with
  |none=>rfl
  |some x=>obtain⟨v',rfl⟩:=HO hf h3;cases WB
theorem Dr.Br(D:Dr P Eqs Sg F rid n ops b T H E){k j:Nat}(hk:k<ops.size)(h:z8 E k)(hj:Nf ops j)(bw:j≠k):(j<k∧si b k j)∨(k<j∧si b j k):=by
 obtain⟨v,os,he⟩:=h;obtain⟨s,hh,_,_,_,h4,_⟩:=D.U3 (adA hk) he;obtain⟨o,ho,hf,Uf⟩:=hj;have JW:=(acr.1 ho).1;simp only[gR,Bool.and_eq_true]at h4;have h5:J8 ops b k=true:=by simpa using h4.1.1
 have h6:=adK.1 h5 j (aey.2 JW);have hlf:uN ops k j=false:=by unfold uN;rw[ho];simp only[Option.bind_some,Uf]
 rw[hlf,Bool.and_false,ho]at h6;simp only[Bool.or_eq_true,beq_iff_eq,hf,Bool.false_eq_true,or_false]at h6;rcases h6 with(h6|h6)|h6
 ·exact absurd h6 bw
 ·exact .inr ⟨Bp D.PC j k JW h6,h6⟩
 ·exact .inl ⟨Bp D.PC k j hk h6,h6⟩
theorem Dr.Bu(D:Dr P Eqs Sg F rid n ops b T H E){p:Nat}:∀(q:Nat),p≤q→q≤ops.size→∀id,(∀k,p≤k→k<q→z8 E k→H (k+1) id=H k id)→(∀k,p≤k→k<q→ZK E k→¬Of rid k id)→H q id=H p id:=by
 intro q
 induction q with
 |zero=>intro A5 _ id _ _;rw[Nat.le_zero.1 A5]
 |succ q ih =>
  intro A5 hq id hw bS;by_cases he:p=q+1
  ·rw[he]
  ·have h1:=ih (by omega) (by omega) id (fun k h1 h2=>hw k h1 (by omega)) (fun k h1 h2=>bS k h1 (by omega));rw[←h1];have ho:=adA (show q<ops.size by omega)
   cases hE:E q with
   |none=>rw[(D.FI ho hE).2.2]
   |some e =>
    obtain⟨s,hh,_,_,_,h4,_,_,h7⟩:=D.U3 ho hE
    cases e with
    |val v=>rw[h7];rfl
    |wr v h'=>exact hw q (by omega) (by omega) ⟨v,h',hE⟩
    |new v os =>
     rw[h7];simp only[bL.hp]
     cases Pz:Heap.get os id with
     |none=>rfl
     |some o' =>
      exfalso;simp only[gR,Bool.and_eq_true]at h4;refine bS q (by omega) (by omega) ⟨v,os,hE⟩ ?_;have:∀(l:Heap),(l.all fun p=>p.1 / 256==(rid+1)*128+q)=true→∀o',l.get id=some o'→Of rid q id:=by
       intro l
       induction l with
       |nil=>intro _ o' h;simp[Heap.get]at h
       |cons a r ihl =>
        intro eY o' hg;simp only[List.all_cons,Bool.and_eq_true,beq_iff_eq]at eY;simp only[Heap.get]at hg
        split at hg
        ·rename_i e;rw[←e];exact eY.1
        ·exact ihl eY.2 o' hg
      exact this os h4.1.2 o' Pz
theorem Dr.Ab(D:Dr P Eqs Sg F rid n ops b T H E){p:Nat}(q:Nat)(A5:p≤q)(hq:q≤ops.size)(hw:∀k,p≤k→k<q→¬z8 E k)(id:Nat)(hn:∀k,p≤k→k<q→ZK E k→¬Of rid k id):H q id=H p id :=D.Bu q A5 hq id (fun k h1 h2 h3=>absurd h3 (hw k h1 h2)) hn
theorem Dr.names(D:Dr P Eqs Sg F rid n ops b T H E):∀(k:Nat),k≤ops.size→∀id,H k id≠none→id / 32768=rid+1→∃j,Of rid j id∧j<k∧j<128∧(ZK E j∨∃w,w<k∧z8 E w∧(j=w∨si b w j)):=by
 intro k
 induction k with
 |zero=>intro _ id h1 h2;exact absurd h2 (D.afV id h1)
 |succ k ih =>
  intro hk id h1 h2;have aF:k<ops.size:=by omega
  have up:H k id≠none→∃j,Of rid j id∧j<k+1∧j<128∧(ZK E j∨∃w,w<k+1∧z8 E w∧(j=w∨si b w j)):=fun h=>by obtain⟨j,h3,h4,h4',h5⟩:=ih (by omega) id h h2;exact⟨j,h3,by omega,h4',h5.imp (fun h=>h) fun⟨w,h6,h7⟩=>⟨w,by omega,h7⟩⟩
  have ho:=adA aF;have QE:=D.size
  cases hE:E k with
  |none=>rw[(D.FI ho hE).2.2]at h1;exact up h1
  |some e =>
   obtain⟨s,hh,_,_,_,h4,_,_,h7⟩:=D.U3 ho hE;rw[h7]at h1
   cases e with
   |val v=>exact up h1
   |wr v h' =>
    obtain⟨o',nJ⟩:=ac9.1 h1;simp only[gR,Bool.and_eq_true]at h4;have h5:(b.getD k 0 ||| 2 ^ k).testBit (id / 256%128)=true:=(l8 (S:=fun j=>(b.getD k 0 ||| 2 ^ k).testBit j=true) (fun j hj=>hj) h4.2 id o' nJ).1 h2;rw[Nat.testBit_or,Bool.or_eq_true,Nat.testBit_two_pow]at h5;refine⟨id / 256%128,Of.of h2 rfl,?_,by omega,.inr ⟨k,by omega,⟨v,h',hE⟩,?_⟩⟩
    ·rcases h5 with h5|h5
     ·have:=Bp D.PC k _ aF h5;omega
     ·have:=of_decide_eq_true h5;omega
    ·rcases h5 with h5|h5
     ·exact .inr h5
     ·exact .inl (of_decide_eq_true h5).symm
   |new v os =>
    simp only[bL.hp]at h1
    cases Pz:Heap.get os id with
    |none=>rw[Pz]at h1;exact up h1
    |some o' =>
     simp only[gR,Bool.and_eq_true]at h4;have:∀(l:Heap),(l.all fun p=>p.1 / 256==(rid+1)*128+k)=true→∀o',l.get id=some o'→Of rid k id:=by
      intro l
      induction l with
      |nil=>intro _ o' h;simp[Heap.get]at h
      |cons a r ihl =>
       intro eY o' hg;simp only[List.all_cons,Bool.and_eq_true,beq_iff_eq]at eY;simp only[Heap.get]at hg
       split at hg
       ·rename_i e;rw[←e];exact eY.1
       ·exact ihl eY.2 o' hg
     exact⟨k,this os h4.1.2 o' Pz,by omega,by omega,.inl ⟨v,os,hE⟩⟩
theorem Dr.Yj(D:Dr P Eqs Sg F rid n ops b T H E){q:Nat}(m0:q<ops.size)(U4:z8 E q):∀id,H q id≠none→mG rid (si b q) id:=fun id bw QF=>by
 obtain⟨j,h1,h2,h2',h3⟩:=D.names q (by omega) id bw QF;rw[(h1.parts h2').2];rcases h3 with h3|⟨w',h5,h6,h8⟩
 ·rcases D.Br m0 U4 (D.w8 (by omega) h3) (by omega) with⟨_,h9⟩|⟨h9,_⟩
  ·exact h9
  ·omega
 ·have hqw:si b q w':=by
   rcases D.Br m0 U4 (D.QD (by omega) h6) (by omega) with⟨_,h9⟩|⟨h9,_⟩
   ·exact h9
   ·omega
  rcases h8 with rfl|h8
  ·exact hqw
  ·exact Ek D.PC q w' j m0 hqw h8
theorem Dr.w9(D:Dr P Eqs Sg F rid n ops b T H E){d p:Nat}:∀(q:Nat),p≤q→q≤ops.size→(∀m o,p≤m→m<q→ops[m]? = some o→o.dst≠some d)→T q d=T p d
 |0,h,_,_=>by rw[Nat.le_zero.1 h]
 |q+1,h,hq,hm=>by
  by_cases e:p=q+1
  ·rw[e]
  ·have ho:=adA (show q<ops.size by omega);have ih:=D.w9 q (by omega) (by omega) fun m o h1 h2=>hm m o h1 (by omega);rw[←ih];have hd:=hm q _ (by omega) (by omega) ho;have key:∀v,jc (T q) (ops[q]).dst v d=T q d:=fun v=>by
    cases kS:(ops[q]).dst with
    |none=>rfl
    |some d' =>simp only[jc,eu];rw[if_neg];rintro rfl;exact hd kS
   rcases D.step q _ ho with⟨e,s,hh,_,_,_,_,_,_,h7,_⟩|⟨_,_,h3,_⟩
   ·rw[h7,key]
   ·rw[h3,key]
theorem Dr.steady(D:Dr P Eqs Sg F rid n ops b T H E){i k:Nat}{o:Oper}{x:Operand}(ho:ops[i]? = some o)(hl:jk o.op=some x)(hk:k<ops.size)(hw:z8 E k)(bw:i≠k)(h1:¬si b i k)(h2:¬si b k i) {s:List (Nat×AV)} (hs:look s=T i) {id:Nat} (bS:id∈uO (ρ s x)):H (k+1) id=H k id:=by
 have m0:=(acr.1 ho).1;obtain⟨v,h',hE⟩:=hw;have mF:=adA hk;obtain⟨sk,hh,QG,U5,⟨e0,WB,z7,tM⟩,h4,_,_,h7⟩:=D.U3 mF hE;simp only[gR,Bool.and_eq_true]at h4;have h5:J8 ops b k=true:=by simpa using h4.1.1
 have h6:=adK.1 h5 i (aey.2 m0);rw[ho,mF]at h6;have b1:(b.getD i 0).testBit k=false:=Bool.eq_false_iff.2 h1;have b2:(b.getD k 0).testBit i=false:=Bool.eq_false_iff.2 h2;have b3:(i==k)=false:=by simp[bw]
 simp only[b1,b2,b3,(El hl).1,Bool.false_or,Bool.and_eq_true]at h6;obtain⟨Em,Mc⟩:=h6;have hft:gZ ops b k sk ops[k]=XS ops b k sk:=by unfold gZ;rw[if_pos Em]
 have nT:ρ sk x=ρ s x:=by
  cases x with
  |tmp d =>
   simp only[ρ,QG,hs];unfold uN at Mc;rw[ho]at Mc;simp only[Option.bind_some,hl]at Mc;have hm:∀m o',min k i≤m→m<max k i→ops[m]? = some o'→o'.dst≠some d:=fun m o' g1 g2 g3 hd=>by have g4:=adK.1 Mc m (aey.2 (by omega));rw[g3]at g4;simp[hd,g1,g2]at g4
   rcases aeT i k with g|g
   ·exact D.w9 k (by omega) (by omega) fun m o' g1 g2=>hm m o' (by omega) (by omega)
   ·exact(D.w9 i (by omega) (by omega) fun m o' g1 g2=>hm m o' (by omega) (by omega)).symm
  |_=>rfl
 have gV:id∈gZ ops b k sk ops[k]:=by rw[hft];unfold XS;refine List.mem_flatMap.2 ⟨i,aey.2 m0,?_⟩;rw[b1,b2,b3,ho];simp only[Bool.or_self,Bool.false_eq_true,if_false,Option.bind_some,hl];rw[nT];exact bS
 cases e0 with
 |val v0=>cases z7
 |new v0 os=>cases z7
 |wr v0 Uc =>
  cases z7
  simp only[nC,Bool.and_eq_true]at tM;have hn:Uc.get id=none:=by
   cases e:Uc.get id with
   |none=>rfl
   |some ob=>exact absurd gV (ky tM.2 id ob e).1
  rw[h7];show(fk _ hh Uc).get id=H k id;rw[ku,if_pos gV,hn,U5 id]
  cases afY:H k id with
  |none=>simp
  |some ob =>
   have h8:=D.Yj hk ⟨_,_,hE⟩ id (by rw[afY];simp);have h9:qL rid (b.getD k 0) id=true:=by
    unfold qL;by_cases hr:id / 32768=rid+1
    ·have:=h8 hr;unfold si at this;rw[this];simp
    ·simp[hr]
   rw[if_pos h9]
end
end Go.Vs
namespace Go.Vs
variable {P:Program} {Eqs:TypeId→Option K} {Sg:FuncId→Option aS} {F:(f:FuncId)→(g:aS)→g.A→Option g.B} {R:Type}
variable {Z Z' Z0:Nat→Prop} {ψ ψ' ψ0:Nat→Value} {h h':Hp} {w w' w0:World} {B0:Nat} {O N:Nat→Prop}
variable {rid n:Nat} {ops:Array Oper} {b:Array Nat} {T:Nat→Nat→AV} {H:Nat→Hp} {E:Nat→Option bL}
structure Dj(rid:Nat)(ops:Array Oper)(b:Array Nat)(T:Nat→Nat→AV)(H:Nat→Hp)(E:Nat→Option bL)(S:Nat→Prop)(Tc:Nat→AV)(h:Hp):Prop where
 lt:∀i,S i→i<ops.size
 closed:∀i j,S i→si b i j→S j
 heap:∃q,q≤ops.size∧(∀k,k<q→z8 E k→S k)∧(q<ops.size→z8 E q∧¬S q)∧∀id,(mG rid S id→h id=H q id)∧(¬mG rid S id→h id=none)
 QH:∀j o d,S j→ops[j]? = some o→o.dst=some d→Tc d=T (j+1) d
 told:∀d,(∀j o,S j→ops[j]? = some o→o.dst≠some d)→Tc d=T 0 d
theorem Dr.QI(D:Dr P Eqs Sg F rid n ops b T H E){k:Nat}{o:Oper}(ho:ops[k]? = some o){d:Nat}(hd:o.dst≠some d):T (k+1) d=T k d:=by
 have:∀v,jc (T k) o.dst v d=T k d:=fun v=>by
  cases kS:o.dst with
  |none=>rfl
  |some d' =>simp only[jc,eu];rw[if_neg];rintro rfl;exact hd kS
 rcases D.step k o ho with⟨e,s,hh,_,_,_,_,_,_,h7,_⟩|⟨_,_,h3,_⟩
 ·rw[h7,this]
 ·rw[h3,this]
theorem Dr.vj(D:Dr P Eqs Sg F rid n ops b T H E){d:Nat}:∀(i:Nat),i≤ops.size→(∀k o,k<i→ops[k]? = some o→o.dst≠some d)→T i d=T 0 d
 |0,_,_=>rfl
 |i+1,hi,hk=>by rw[D.QI (Array.getElem?_eq_getElem (show i<ops.size by omega)) (hk i _ (by omega) (Array.getElem?_eq_getElem (by omega)))];exact D.vj i (by omega) fun k o h1 h2=>hk k o (by omega) h2
theorem Dr.FJ(D:Dr P Eqs Sg F rid n ops b T H E){d j:Nat}{oj:Oper}(hj:ops[j]? = some oj)(hd:oj.dst=some d):∀(i:Nat),i≤ops.size→j<i→T i d=T (j+1) d
 |0,_,h=>by omega
 |i+1,hi,h=>by
  by_cases e:j=i
  ·rw[e]
  ·have ho:=adA (show i<ops.size by omega);rw[D.QI ho (fun hdi=>e (D.Aa hj ho hd hdi))];exact D.FJ hj hd i (by omega) (by omega)
theorem Dr.looks(D:Dr P Eqs Sg F rid n ops b T H E){S:Nat→Prop}{Tc:Nat→AV}(dj:Dj rid ops b T H E S Tc h){i:Nat}{o:Oper}(ho:ops[i]? = some o)(hS:¬S i)(hb:∀j,si b i j→S j){d:Nat}(hd:d∈o.looksAt ops):Tc d=T i d:=by
 have hi:=(acr.1 ho).1;by_cases hex:∃(j:Nat) (oj:Oper),ops[j]? = some oj∧oj.dst=some d
 ·obtain⟨j,oj,hj,ZL⟩:=hex;have cV:¬S j→Tc d=T 0 d:=fun hn=>dj.told d fun j' o' hs nJ QJ=>hn (by rw[D.Aa hj nJ ZL QJ];exact hs);have PC:i≤j→T i d=T 0 d:=fun zQ=>D.vj i (by omega) fun k o' hk nJ QJ=>by have:=D.Aa hj nJ ZL QJ;omega
  rcases Nat.lt_trichotomy j i with aF|rfl|J1
  ·rcases D.WN hj ho aF with h1|h1
   ·rw[dj.QH j oj d (hb j h1) hj ZL,D.FJ hj ZL i (by omega) aF]
   ·exact absurd hd ((Oper.apart_spec h1).1 d ZL)
  ·rw[cV hS,PC (Nat.le_refl _)]
  ·rcases D.WN ho hj J1 with h1|h1
   ·rw[cV (fun hs=>hS (dj.closed j i hs h1)),PC (by omega)]
   ·exact absurd hd ((Oper.apart_spec h1).2.2 d ZL)
 ·rw[dj.told d fun j o' _ nJ QJ=>hex ⟨j,o',nJ,QJ⟩,D.vj i (by omega) fun k o' _ nJ QJ=>hex ⟨k,o',nJ,QJ⟩]
theorem Dr.QK{S:Nat→Prop}{Tc:Nat→AV}(D:Dr P Eqs Sg F rid n ops b T H E)(dj:Dj rid ops b T H E S Tc h){i:Nat}{o:Oper}(ho:ops[i]? = some o)(hS:¬S i){v:AV}(hv:T (i+1)=jc (T i) o.dst v) :
  (∀j o' d,(S j∨j=i)→ops[j]? = some o'→o'.dst=some d→jc Tc o.dst v d=T (j+1) d)∧(∀d,(∀j o',(S j∨j=i)→ops[j]? = some o'→o'.dst≠some d)→jc Tc o.dst v d=T 0 d):=by
 constructor
 ·intro j o' d hj nJ hd;rcases hj with hj|rfl
  ·have bw:j≠i:=fun e=>hS (e▸hj);have:jc Tc o.dst v d=Tc d:=by
    cases kS:o.dst with
    |none=>rfl
    |some d' =>simp only[jc,eu];rw[if_neg];rintro rfl;exact bw (D.Aa nJ ho hd kS)
   rw[this];exact dj.QH j o' d hj nJ hd
  ·rw[ho]at nJ;cases nJ;rw[hv,hd];simp[jc,eu]
 ·intro d hd;have:jc Tc o.dst v d=Tc d:=by
   cases kS:o.dst with
   |none=>rfl
   |some d' =>simp only[jc,eu];rw[if_neg];rintro rfl;exact hd i o (.inr rfl) ho kS
  rw[this];exact dj.told d fun j o' hj=>hd j o' (.inl hj)
theorem vl{i k id:Nat}(h1:Of rid i id)(h2:Of rid k id):i=k:=by unfold Of at h1 h2;omega
section
variable {S:Nat→Prop} {Tc:Nat→AV}
theorem Dr.calm(D:Dr P Eqs Sg F rid n ops b T H E)(dj:Dj rid ops b T H E S Tc h){i q:Nat}(hi:Nf ops i)(hS:¬S i)(hq:q≤ops.size)(hw:∀k,k<q→z8 E k→S k):∀k,i≤k→k<q→¬z8 E k:=by
 intro k hik hkq hk;have QG:=hw k hkq hk;have bw:i≠k:=fun e=>hS (e▸QG);rcases D.Br (by omega) hk hi bw with⟨_,h1⟩|⟨h1,_⟩
 ·exact hS (dj.closed k i QG h1)
 ·omega
theorem Dr.seen(D:Dr P Eqs Sg F rid n ops b T H E)(dj:Dj rid ops b T H E S Tc h){i:Nat}(hi:Nf ops i)(hS:¬S i)(hb:∀j,si b i j→S j){hh:Heap}(U5:∀id,Heap.get hh id=if qL rid (b.getD i 0) id then H i id else none) :
  ∀id o,hh.get id=some o→h id=some o:=by
 obtain⟨q,hq,hw,iP,fJ⟩:=dj.heap;have m0:i<ops.size:=by obtain⟨o,ho,hf1,hf2⟩:=hi;exact(acr.1 ho).1
 have hiq:i≤q:=by
  rcases aeT q i with h1|h1
  ·obtain⟨h2,h3⟩:=iP (by omega);rcases D.Br (by omega) h2 hi (by omega) with⟨h4,_⟩|⟨_,h4⟩
   ·omega
   ·exact absurd (hb q h4) h3
  ·exact h1
 intro id o bS;rw[U5]at bS
 split at bS
 ·rename_i mF;have qy:mG rid S id:=ou hb mF;rw[(fJ id).1 qy,D.Ab q hiq hq (D.calm dj hi hS hq hw) id fun k hk _ _ ho=>?_,bS];have QF:=(ho.parts (by have:=D.size;omega)).1;obtain⟨j,h1,h2,_⟩:=D.names i (by omega) id (by rw[bS];simp) QF;have:=vl h1 ho;omega
 ·cases bS
theorem Dr.N3(D:Dr P Eqs Sg F rid n ops b T H E)(dj:Dj rid ops b T H E S Tc h){i:Nat}{o:Oper}{x:Operand}(ho:ops[i]? = some o)(hl:jk o.op=some x)(hS:¬S i)(hb:∀j,si b i j→S j){s:List (Nat×AV)}(hs:look s=T i) {hh:Heap} (U5:∀id,Heap.get hh id=if qL rid (b.getD i 0) id then H i id else none):∀id∈uO (ρ s x),∀ob,hh.get id=some ob→h id=some ob:=by
 obtain⟨q,hq,hw,iP,fJ⟩:=dj.heap;have m0:=(acr.1 ho).1;have QE:=D.size;intro id bS ob mE;rw[U5]at mE
 split at mE
 ·rename_i mF;have qy:mG rid S id:=ou hb mF;rw[(fJ id).1 qy,←mE];rcases aeT q i with hqi|hiq
  ·obtain⟨h2,h3⟩:=iP (by omega);have later:∀k,q<k→k<ops.size→Nf ops k→si b k q:=fun k h4 h5 h6=>by
    rcases D.Br (by omega) h2 h6 (by omega) with⟨h7,_⟩|⟨_,h7⟩
    ·omega
    ·exact h7
   have aaT:∀k,q≤k→k<i→Nf ops k→¬S k:=fun k h4 h5 h6 hk=>by
    rcases Nat.eq_or_lt_of_le h4 with e|h7
    ·exact h3 (e▸hk)
    ·exact h3 (dj.closed k q hk (later k h7 (by omega) h6))
   symm
   refine D.Bu i (by omega) (by omega) id (fun k h4 h5 h6=>?_) (fun k h4 h5 h6 h7=>?_)
   ·have hns:=aaT k h4 h5 (D.QD (by omega) h6);exact D.steady ho hl (by omega) h6 (by omega) (fun KI=>hns (hb k KI)) (fun KI=>by have:=Bp D.PC k i (by omega) KI;omega) hs bS
   ·have hns:=aaT k h4 h5 (D.w8 (by omega) h6);have h8:=h7.parts (show k<128 by omega);have h9:=qy h8.1;rw[h8.2]at h9;exact hns h9
  ·refine D.Bu q hiq hq id (fun k h4 h5 h6=>?_) (fun k h4 h5 h6 h7=>?_)
   ·have QG:=hw k h5 h6;have bw:i≠k:=fun e=>hS (e▸QG);exact D.steady ho hl (by omega) h6 bw (fun KI=>by have:=Bp D.PC i k m0 KI;omega) (fun KI=>hS (dj.closed k i QG KI)) hs bS
   ·obtain⟨j,h8,h9,_⟩:=D.names i (by omega) id (by rw[mE];simp) (h7.parts (by omega)).1;have:=vl h8 h7;omega
 ·cases mE
theorem QL(E:Nat→Option bL)(S:Nat→Prop)(m:Nat):∃q,q≤m∧(∀k,k<q→z8 E k→S k)∧(q<m→z8 E q∧¬S q):=by
 classical
 induction m with
 |zero=>exact⟨0,adj _,fun k hk=>by omega,fun h=>by omega⟩
 |succ m ih =>
  obtain⟨q,h1,h2,h3⟩:=ih;by_cases hq:q<m
  ·exact⟨q,by omega,h2,fun _=>h3 hq⟩
  ·have:q=m:=by omega
   subst this;by_cases hm:z8 E q∧¬S q
   ·exact⟨q,by omega,h2,fun _=>hm⟩
   ·refine⟨q+1,by omega,fun k hk hw=>?_,fun h=>by omega⟩;rcases aeT k q with h4|h4
    ·exact h2 k h4 hw
    ·have:k=q:=by omega
     subst this;exact Classical.not_not.1 fun hn=>hm ⟨hw,hn⟩
theorem Bv{i id:Nat}(hi:i<128):mG rid (fun k=>S k∨k=i) id↔mG rid S id∨Of rid i id:=by
 constructor
 ·intro h1;by_cases hr:id / 32768=rid+1
  ·rcases h1 hr with h2|h2
   ·exact .inl fun _=>h2
   ·exact .inr (Of.of hr h2)
  ·exact .inl fun h=>absurd h hr
 ·rintro(h1|h1) h2
  ·exact .inl (h1 h2)
  ·exact .inr (h1.parts hi).2
theorem Dr.HP(D:Dr P Eqs Sg F rid n ops b T H E)(dj:Dj rid ops b T H E S Tc h){i:Nat}(m0:i<ops.size)(hS:¬S i)(hnn:¬ZK E i)(hnw:¬z8 E i) :
  ∃q,q≤ops.size∧(∀k,k<q→z8 E k→S k∨k=i)∧(q<ops.size→z8 E q∧¬(S q∨q=i))∧∀id,(mG rid (fun k=>S k∨k=i) id→h id=H q id)∧(¬mG rid (fun k=>S k∨k=i) id→h id=none):=by
 obtain⟨q,hq,hw,iP,fJ⟩:=dj.heap;have QE:=D.size;refine⟨q,hq,fun k h1 h2=>.inl (hw k h1 h2),fun h1=>⟨(iP h1).1,fun h2=>h2.elim (iP h1).2 fun e=>hnw (e▸(iP h1).1)⟩,fun id=>⟨fun h1=>?_,fun h1=>(fJ id).2 fun h2=>h1 ((Bv (by omega)).2 (.inl h2))⟩⟩;rcases (Bv (S:=S) (i:=i) (rid:=rid) (by omega)).1 h1 with h2|h2
 ·exact(fJ id).1 h2
 ·have hn:¬mG rid S id:=fun h3=>h3.Bl (by omega) hS h2;rw[(fJ id).2 hn]
  symm
  apply Classical.not_not.1;intro bw;obtain⟨j,h3,_,_,h4⟩:=D.names q hq id bw (h2.parts (by omega)).1;have:=vl h3 h2;subst this;rcases h4 with h4|⟨w',h5,h6,h7|h7⟩
  ·exact hnn h4
  ·exact hnw (h7▸h6)
  ·exact hS (dj.closed w' _ (hw w' h5 h6) h7)
theorem U6{os:Heap}{i:Nat}(eY:(os.all fun p=>p.1 / 256==(rid+1)*128+i)=true):∀id o,os.get id=some o→Of rid i id:=by
 induction os with
 |nil=>intro id o h;simp[Heap.get]at h
 |cons a r ih =>
  intro id o hg;simp only[List.all_cons,Bool.and_eq_true,beq_iff_eq]at eY;simp only[Heap.get]at hg
  split at hg
  ·rename_i e;rw[←e];exact eY.1
  ·exact ih eY.2 id o hg
theorem Dr.QM(D:Dr P Eqs Sg F rid n ops b T H E)(dj:Dj rid ops b T H E S Tc h){i:Nat}{o:Oper}(ho:ops[i]? = some o)(hS:¬S i)(hb:∀j,si b i j→S j){v:AV}{os:Heap}(hE:E i=some (.new v os)) :
  ∃q,q≤ops.size∧(∀k,k<q→z8 E k→S k∨k=i)∧(q<ops.size→z8 E q∧¬(S q∨q=i))∧∀id,(mG rid (fun k=>S k∨k=i) id→(bL.new v os).hp h id=H q id)∧(¬mG rid (fun k=>S k∨k=i) id→(bL.new v os).hp h id=none):=by
 obtain⟨q,hq,hw,iP,fJ⟩:=dj.heap;have QE:=D.size;have m0:=(acr.1 ho).1;have hnw:¬z8 E i:=fun⟨v',h',h1⟩=>by rw[hE]at h1;cases h1
 have ZM:=D.w8 m0 ⟨v,os,hE⟩;obtain⟨s,hh,_,_,_,h4,_,_,h7⟩:=D.U3 ho hE;simp only[gR,Bool.and_eq_true]at h4;have tP:=U6 (rid:=rid) h4.1.2;have hiq:i<q:=by
  rcases aeT i q with h1|h1
  ·exact h1
  ·obtain⟨h2,h3⟩:=iP (by omega);have bw:i≠q:=fun e=>hnw (e▸h2);rcases D.Br (by omega) h2 ZM bw with⟨h4,_⟩|⟨_,h4⟩
   ·omega
   ·exact absurd (hb q h4) h3
 refine⟨q,hq,fun k h1 h2=>.inl (hw k h1 h2),fun h1=>⟨(iP h1).1,fun h2=>h2.elim (iP h1).2 fun e=>hnw (e▸(iP h1).1)⟩,fun id=>⟨fun h1=>?_,fun h1=>?_⟩⟩
 ·simp only[bL.hp];by_cases h2:Of rid i id
  ·have hn:¬mG rid S id:=fun h3=>h3.Bl (by omega) hS h2;have e1:H i id=none:=Classical.not_not.1 fun bw=>by obtain⟨j,h3,h4,_⟩:=D.names i (by omega) id bw (h2.parts (by omega)).1;have:=vl h3 h2;omega
   have e2:H (i+1) id=Heap.get os id:=by rw[h7];simp only[bL.hp];rw[e1];cases Heap.get os id<;>rfl
   have e3:H q id=H (i+1) id:=D.Ab q hiq hq (fun k h3 h4=>D.calm dj ZM hS hq hw k (by omega) h4) id fun k h3 _ _ h5=>by have:=vl h5 h2;omega
   rw[e3,e2,(fJ id).2 hn];cases Heap.get os id<;>rfl
  ·have h3:mG rid S id:=((Bv (by omega)).1 h1).resolve_right h2
   cases Pz:Heap.get os id with
   |some o'=>exact absurd (tP id o' Pz) h2
   |none=>exact(fJ id).1 h3
 ·have h2:¬mG rid S id:=fun h2=>h1 ((Bv (by omega)).2 (.inl h2));have h3:¬Of rid i id:=fun h2=>h1 ((Bv (by omega)).2 (.inr h2));simp only[bL.hp]
  cases Pz:Heap.get os id with
  |some o'=>exact absurd (tP id o' Pz) h3
  |none=>exact(fJ id).2 h2
theorem Dr.U7(D:Dr P Eqs Sg F rid n ops b T H E)(dj:Dj rid ops b T H E S Tc h){i:Nat}{o:Oper}(ho:ops[i]? = some o)(hS:¬S i)(hb:∀j,si b i j→S j){v:AV}{h':Heap}(hE:E i=some (.wr v h')) :
  (∀hh:Heap,(∀id,hh.get id=if qL rid (b.getD i 0) id then H i id else none)→hh.get=h) ∧
  ∃q,q≤ops.size∧(∀k,k<q→z8 E k→S k∨k=i)∧(q<ops.size→z8 E q∧¬(S q∨q=i))∧∀id,(mG rid (fun k=>S k∨k=i) id→h'.get id=H q id)∧(¬mG rid (fun k=>S k∨k=i) id→h'.get id=none):=by
 obtain⟨q,hq,hw,iP,fJ⟩:=dj.heap;have QE:=D.size;have m0:=(acr.1 ho).1;have U4:z8 E i:=⟨v,h',hE⟩;have ZM:=D.QD m0 U4;obtain⟨s,hh0,_,_,_,h4,_,_,h7⟩:=D.U3 ho hE;simp only[gR,Bool.and_eq_true]at h4;have hqi:q=i:=by
  rcases Nat.lt_trichotomy q i with h1|h1|h1
  ·obtain⟨h2,h3⟩:=iP (by omega);rcases D.Br m0 U4 (D.QD (by omega) h2) (by omega) with⟨_,h5⟩|⟨h5,_⟩
   ·exact absurd (hb q h5) h3
   ·omega
  ·exact h1
  ·exact absurd (hw i h1 U4) hS
 subst hqi;have own:∀id,H q id≠none→mG rid (si b q) id:=fun id bw QF=>by
  obtain⟨j,h1,h2,h2',h3⟩:=D.names q hq id bw QF;rw[(h1.parts h2').2];rcases h3 with h3|⟨w',h5,h6,h8⟩
  ·rcases D.Br m0 U4 (D.w8 (by omega) h3) (by omega) with⟨_,h9⟩|⟨h9,_⟩
   ·exact h9
   ·omega
  ·have hqw:si b q w':=by
    rcases D.Br m0 U4 (D.QD (by omega) h6) (by omega) with⟨_,h9⟩|⟨h9,_⟩
    ·exact h9
    ·omega
   rcases h8 with rfl|h8
   ·exact hqw
   ·exact Ek D.PC q w' j m0 hqw h8
 refine⟨fun hh U5=>?_,?_⟩
 ·funext id;rw[U5 id]
  cases bS:H q id with
  |none =>
   have:h id=none:=by
    by_cases h1:mG rid S id
    ·rw[(fJ id).1 h1,bS]
    ·exact(fJ id).2 h1
   rw[this];split<;>rfl
  |some ob =>
   have h1:=own id (by rw[bS];simp);have h2:mG rid S id:=fun hr=>hb _ (h1 hr);have h3:qL rid (b.getD q 0) id=true:=by
    unfold qL;by_cases hr:id / 32768=rid+1
    ·have:=h1 hr;unfold si at this;rw[this];simp
    ·simp[hr]
   rw[h3,(fJ id).1 h2,bS];rfl
 ·obtain⟨q',h1,h2,h3⟩:=QL E (fun k=>S k∨k=q) ops.size;have WG:q+1≤q':=by
   rcases aeT q q' with h5|h5
   ·exact h5
   ·obtain⟨h6,h8⟩:=h3 (by omega);rcases aeT q' q with h9|h9
    ·exact absurd (.inl (hw q' h9 h6)) h8
    ·exact absurd (.inr (by omega)) h8
  have e1:H (q+1)=h'.get:=by rw[h7];rfl
  have zR:∀j,(b.getD q 0 ||| 2 ^ q).testBit j=true→S j∨j=q:=fun j hj=>by rw[Nat.testBit_or,Bool.or_eq_true,Nat.testBit_two_pow]at hj;exact hj.imp (hb j) (fun h=>(of_decide_eq_true h).symm)
  refine⟨q',h1,h2,h3,fun id=>⟨fun h5=>?_,fun h5=>?_⟩⟩
  ·rw[D.Ab q' WG h1 (fun k h6 h8 h9=>?_) id (fun k h6 h8 h9 nF=>?_),e1]
   ·have hk:=h2 k h8 h9;have QG:S k:=hk.resolve_right (by omega);rcases D.Br (by omega) h9 ZM (by omega) with⟨_,zq⟩|⟨zq,_⟩
    ·exact hS (dj.closed k q QG zq)
    ·omega
   ·have hk:=h5 (nF.parts (by omega)).1;rw[(nF.parts (by omega)).2]at hk;have QG:S k:=hk.resolve_right (by omega);rcases D.Br m0 U4 (D.w8 (by omega) h9) (by omega) with⟨zq,_⟩|⟨_,zq⟩
    ·omega
    ·exact hS (dj.closed k q QG zq)
  ·cases bS:h'.get id with
   |none=>rfl
   |some ob=>exact absurd ((l8 zR h4.2 id ob bS).1) h5
end
section
variable {S:Nat→Prop} {Tc:Nat→AV}
theorem DF{o:Oper}{d:Nat}(h:Operand.tmp d∈o.op.operands):d∈o.looksAt ops :=acq _ (ae2.2 ⟨.tmp d,by simpa using h,rfl⟩)
theorem HQ{o:Oper}{j d:Nat}{want:Bool}(hg:o.guard=some (j,want))(hd:(ops[j]?).bind (·.dst)=some d):d∈o.looksAt ops:=by unfold Oper.looksAt;rw[hg];exact ac2 _ (by simp only[hd];simp)
theorem Dr.wanted(D:Dr P Eqs Sg F rid n ops b T H E)(dj:Dj rid ops b T H E S Tc h){a:Act}{i:Nat}{o:Oper}(ho:ops[i]? = some o)(hS:¬S i)(hb:∀j,si b i j→S j)(t:cT Z ψ h w n Tc a){c:Bool}(hw:qp ops (T i) o c) :
  Region.wanted o (yielded ops a.tmps)=c:=by
 unfold qp at hw
 split at hw
 ·rename_i hg;rw[hw];simp[Region.wanted,hg]
 ·rename_i j want hg;obtain⟨d,hd,hc⟩:=hw;have e:=D.looks dj ho hS hb (HQ hg hd);rcases hc with⟨u,h1,h2⟩|⟨vs,h1,h2⟩
  ·rw[Bm t hg hd (e.trans h1),h2]
  ·rw[yN t hg hd (e.trans h1),h2]
theorem Dr.KJ(D:Dr P Eqs Sg F rid n ops b T H E)(V:Env P Eqs Sg F){i:Nat}{o:Oper}{a:Act}(ho:ops[i]? = some o)(hS:¬S i)(hb:∀j,si b i j→S j)(dj:Dj rid ops b T H E S Tc h)(j:J (mG rid S) n Z0 w0 O ψ0 Z ψ Tc h a w) {K:Act→World→Prop} {Q:Exit→Act→World→Prop} (hk:∀Tc' h' a' w' Z' ψ',Dj rid ops b T H E (fun k=>S k∨k=i) Tc' h'→J (mG rid fun k=>S k∨k=i) n Z0 w0 O ψ0 Z' ψ' Tc' h' a' w'→K a' w'):wpOp P ops Q i K a w:=by
 have m0:=(acr.1 ho).1;have QE:=D.size;have Ul:=D.afU i o ho;have aF:∀k,(S k∨k=i)→k<ops.size:=fun k hk=>hk.elim (dj.lt k) (fun e=>e▸m0);have Kg:∀k j,(S k∨k=i)→si b k j→S j∨j=i:=fun k j hk hj=>.inl (hk.elim (fun h=>dj.closed k j h hj) (fun e=>hb j (e▸hj)));unfold wpOp;rw[ho];simp only[]
 cases hE:E i with
 |none =>obtain⟨h1,h2,h3⟩:=D.FI ho hE;rw[D.wanted dj ho hS hb j.tr h1];simp only[Bool.false_eq_true,if_false];obtain⟨t1,t2⟩:=D.QK dj ho hS h2;refine hk _ h _ w Z ψ ⟨aF,Kg,D.HP dj m0 hS (fun⟨v,os,h⟩=>by rw[hE]at h;cases h) (fun⟨v,os,h⟩=>by rw[hE]at h;cases h),t1,t2⟩ (j.skip Ul fun id hp hr=>.inl (hp hr))
 |some e =>
  obtain⟨s,hh,h1,h2,h3,h4,h5,h6,h7⟩:=D.U3 ho hE;rw[D.wanted dj ho hS hb j.tr h5];simp only[if_true];refine .inl ?_;obtain⟨t1,t2⟩:=D.QK dj ho hS h6;have hT:∀x∈o.op.operands,aC Z ψ h w (ρ s x) (a.eval x)∧aM (mG rid S) (ρ s x):=fun x hx=>by
   cases x with
   |tmp d =>
    have e1:look s d=Tc d:=by rw[h1];exact(D.looks dj ho hS hb (DF hx)).symm
    simp only[ρ,e1];exact⟨j.tr.rep d,j.tm d⟩
   |const v=>exact⟨Hj v,Bk _ v⟩
   |global g=>exact⟨by simp only[ρ,aC],by simp only[ρ,aM]⟩
   |func f=>exact⟨by simp only[ρ,aC,aq,Act.eval];exact⟨#[],rfl,rfl⟩,by simp only[ρ,aM,aG]⟩
  have ow:=Bo (hh:=[]) j.hm (fun k hk=>hb k hk) h4;obtain⟨e0,h3,z7,tM⟩:=h3
  cases e0 with
  |wr v0 Uc =>simp only[gT]at z7;subst z7;have nS:=D.U7 dj ho hS hb hE;have U5:=nS.1 hh h2;subst U5;refine J.opF V (rid:=rid) (i:=i) (fun _ id hp=>hp.Bl (by omega) hS) j Ul (fun x hx=>(hT x hx).1) (fun x hx=>(hT x hx).2) h3 tM (p':=mG rid fun k=>S k∨k=i) (fun id hp hr=>.inl (hp hr)) ow.1 ow.2 fun a' w' Z' ψ' j' => ?_;exact hk _ _ a' w' Z' ψ' ⟨aF,Kg,nS.2,t1,t2⟩ j'
  |val v0 =>
   simp only[gT]at z7;subst z7;have af0:∃Yf:Heap,(∀id o,Yf.get id=some o→h id=some o)∧cY P Eqs Sg F (opId rid i) Yf s o some=some (.val v0):=by
    cases hf:nu o.op with
    |true=>exact⟨[],fun id o h=>by simp[Heap.get]at h,by rw[NY hf (h':=gY hh (gZ ops b i s o))];exact h3⟩
    |false =>
     cases Uf:jk o.op with
     |some x =>
      have hft:gZ ops b i s o=[]:=by unfold gZ;rw[(El Uf).2];rfl
      rw[hft]at h3;have h3':cY P Eqs Sg F (opId rid i) hh s o some=some (.val v0):=h3;have nH:∀id,(fk (uO (ρ s x)) hh []).get id=if id∈uO (ρ s x) then hh.get id else none:=fun id=>by
       rw[ku]
       split
       ·cases hh.get id<;>rfl
       ·rfl
      refine⟨fk (uO (ρ s x)) hh [],fun id ob bS=>?_,?_⟩
      ·rw[nH]at bS
       split at bS
       ·rename_i hm;exact D.N3 dj ho Uf hS hb h1 h2 id hm ob bS
       ·cases bS
      ·rw[KH Uf (hh:=hh) (fun id hm=>by rw[nH,if_pos hm])];exact h3'
     |none=>exact⟨_,fun id ob bS=>D.seen dj ⟨o,ho,hf,Uf⟩ hS hb h2 id ob (by rw[oq]at bS;split at bS;cases bS;exact bS),h3⟩
   obtain⟨Yf,HR,PD⟩:=af0;refine J.op V (rid:=rid) (i:=i) (fun _ id hp=>hp.Bl (by omega) hS) j Ul (fun x hx=>(hT x hx).1) (fun x hx=>(hT x hx).2) HR PD (fun v hw he=>by cases he) (p':=mG rid fun k=>S k∨k=i) (fun id hp hr=>.inl (hp hr)) ow.1 ow.2 fun a' w' Z' ψ' j' => ?_;exact hk _ _ a' w' Z' ψ' ⟨aF,Kg,D.HP dj m0 hS (fun⟨v,os,h⟩=>by rw[hE]at h;cases h) (fun⟨v,os,h⟩=>by rw[hE]at h;cases h),t1,t2⟩ j'
  |new v0 os =>simp only[gT]at z7;subst z7;have ZM:=D.w8 m0 ⟨v0,os,hE⟩;have HR:∀id ob,(gY hh (gZ ops b i s o)).get id=some ob→h id=some ob:=fun id ob bS=>D.seen dj ZM hS hb h2 id ob (by rw[oq]at bS;split at bS;cases bS;exact bS);refine J.op V (rid:=rid) (i:=i) (fun _ id hp=>hp.Bl (by omega) hS) j Ul (fun x hx=>(hT x hx).1) (fun x hx=>(hT x hx).2) HR h3 (fun v hw he=>by cases he) (p':=mG rid fun k=>S k∨k=i) (fun id hp hr=>.inl (hp hr)) ow.1 ow.2 fun a' w' Z' ψ' j' => ?_;exact hk _ _ a' w' Z' ψ' ⟨aF,Kg,D.QM dj ho hS hb hE,t1,t2⟩ j'
theorem Dr.done(D:Dr P Eqs Sg F rid n ops b T H E)(dj:Dj rid ops b T H E S Tc h)(eY:∀k,k<ops.size→S k):Tc=T ops.size∧h=H ops.size:=by
 constructor
 ·funext d;by_cases hex:∃(j:Nat) (oj:Oper),ops[j]? = some oj∧oj.dst=some d
  ·obtain⟨j,oj,hj,hd⟩:=hex;have JW:=(acr.1 hj).1;rw[dj.QH j oj d (eY j JW) hj hd,D.FJ hj hd ops.size (Nat.le_refl _) JW]
  ·rw[dj.told d fun j o' _ nJ QJ=>hex ⟨j,o',nJ,QJ⟩,D.vj ops.size (Nat.le_refl _) fun k o' _ nJ QJ=>hex ⟨k,o',nJ,QJ⟩]
 ·obtain⟨q,hq,_,iP,fJ⟩:=dj.heap;have:q=ops.size:=by
   rcases aeT q ops.size with h1|h1
   ·exact absurd (eY q h1) (iP h1).2
   ·omega
  subst this;funext id;by_cases qy:mG rid S id
  ·exact(fJ id).1 qy
  ·rw[(fJ id).2 qy]
   symm
   apply Classical.not_not.1;intro bw;apply qy;intro hr;obtain⟨j,h1,h2,h3,_⟩:=D.names ops.size (adj _) id bw hr;rw[(h1.parts h3).2];exact eY j h2
def l9(m:Nat)(ct:Array Bool):Nat:=((List.range m).filter fun i => !ct.getD i false).length
theorem FK{m:Nat}{ct:Array Bool}{i:Nat}(hi:i<m)(hs:i<ct.size)(hn:ct.getD i false=false):l9 m ct=l9 m (ct.setIfInBounds i true)+1:=by
 unfold l9;have key:∀(l:List Nat),l.Nodup→i∈l→(l.filter fun k => !ct.getD k false).length=(l.filter fun k => !(ct.setIfInBounds i true).getD k false).length+1:=by
  intro l
  induction l with
  |nil=>intro _ h;cases h
  |cons a r ih =>
   intro Ec hm;rw[List.nodup_cons]at Ec;rcases acp.1 hm with rfl|hm
   ·have h2:(r.filter fun k => !ct.getD k false)=(r.filter fun k => !(ct.setIfInBounds i true).getD k false):=by apply List.filter_congr;intro k hk;have bw:i≠k:=fun e=>Ec.1 (e▸hk);rw[getD_set_ne false bw]
    rw[List.filter_cons,List.filter_cons,hn];have h3:(ct.setIfInBounds i true).getD i false=true:=by simp[hs]
    rw[h3,h2];simp
   ·have bw:i≠a:=fun e=>Ec.1 (e▸hm);rw[List.filter_cons,List.filter_cons,getD_set_ne false bw]
    split
    ·simp only[List.length_cons];rw[ih Ec.2 hm]
    ·exact ih Ec.2 hm
 exact key _ List.nodup_range (aey.2 hi)
theorem Dr.any(D:Dr P Eqs Sg F rid n ops b T H E)(V:Env P Eqs Sg F){Q:Exit→Act→World→Prop}(hQ:∀Z ψ a w,J (mG rid fun k=>k<ops.size) n Z0 w0 O ψ0 Z ψ (T ops.size) (H ops.size) a w→Q .normal a w) :
  ∀(fuel:Nat) (ct:Array Bool) (Tc:Nat→AV) (h:Hp) (a:Act) (w:World) (Z:Nat→Prop) (ψ:Nat→Value),ct.size=ops.size→l9 ops.size ct=fuel → Dj rid ops b T H E (fun k=>ct.getD k false=true) Tc h→J (mG rid fun k=>ct.getD k false=true) n Z0 w0 O ψ0 Z ψ Tc h a w→wpAny P .any ops Q fuel ct a w
 |0,ct,Tc,h,a,w,Z,ψ,hs,hu,dj,j=>by
  have eY:∀k,k<ops.size→ct.getD k false=true:=fun k hk=>by unfold l9 at hu;have:=List.filter_eq_nil_iff.1 (adx hu) k (aey.2 hk);simpa using this
  refine⟨?_,?_⟩
  ·apply List.eq_nil_iff_forall_not_mem.2;intro i hi;obtain⟨h1,o,h2,_⟩:=mem_ready.1 hi;have h3:=(acr.1 h2).1;have h4:=eY i h3;rw[Array.getD_eq_getD_getElem?,Array.getElem?_eq_getElem (by omega)]at h1 h4;simp at h1 h4;rw[h1]at h4;cases h4
  ·obtain⟨e1,e2⟩:=D.done dj eY;subst e1;subst e2;refine hQ Z ψ a w ⟨j.ok,j.tr,fun d=>(j.tm d).imp fun id h1 h2=>dj.lt _ (h1 h2),fun id ty cs hb=>(j.hm id ty cs hb).imp fun id h1 h2=>dj.lt _ (h1 h2)⟩
 |fuel+1,ct,Tc,h,a,w,Z,ψ,hs,hu,dj,j=>by
  have look:∀i,i<ops.size→ct.getD i true=ct.getD i false:=fun i hi=>by rw[Array.getD_eq_getD_getElem?,Array.getD_eq_getD_getElem?,Array.getElem?_eq_getElem (by omega)];rfl
  refine⟨fun hr=>?_,fun i hi=>?_⟩
  ·exfalso;have hex:∃i,i<ops.size∧ct.getD i false=false:=by
    apply Classical.byContradiction;intro hn;unfold l9 at hu;rw[List.filter_eq_nil_iff.2]at hu
    ·simp at hu
    ·intro k hk;have:=fun h=>hn ⟨k,aey.1 hk,h⟩
     cases hl:ct.getD k false with
     |true=>simp
     |false=>exact absurd hl this
   have key:∀i,i<ops.size→ct.getD i false=false→False:=by
    intro i
    induction i using Nat.strongRecOn with
    |ind i ih =>
     intro hi hl;have gV:i∈Region.ready .any ops ct:=by
      refine mem_ready.2 ⟨by rw[look i hi];exact hl,_,adA hi,fun e he NO=>?_⟩;have Yi:=KG D.PC (adA hi) (by simpa using he) NO
      cases hle:ct.getD e.on false with
      |true=>rfl
      |false=>exact(ih e.on Yi (by omega) hle).elim
     rw[hr]at gV;cases gV
   obtain⟨i,h1,h2⟩:=hex;exact key i h1 h2
  ·obtain⟨h1,o,ho,eY⟩:=mem_ready.1 hi;have m0:=(acr.1 ho).1;have hn:ct.getD i false=false:=by rw[←look i m0];exact h1
   have hS:¬(ct.getD i false=true):=by rw[hn];simp
   have hb:∀k,si b i k→ct.getD k false=true:=fun k hk=>by
    obtain⟨e,he,NO,h2⟩:=(z6 D.PC ho).1 hk;have h3:=eY e (by simpa using he) NO;rcases h2 with rfl|h2
    ·exact h3
    ·exact dj.closed e.on k h3 h2
   refine D.KJ V ho hS hb dj j fun Tc' h' a' w' Z' ψ' dj' j' => ?_;have heq:(fun k=>ct.getD k false=true∨k=i)=(fun k=>(ct.setIfInBounds i true).getD k false=true):=by
    funext k;apply propext;by_cases e:i=k
    ·subst e;simp[show i<ct.size by omega]
    ·rw[getD_set_ne false e];constructor
     ·rintro(h|h)
      ·exact h
      ·exact absurd h.symm e
     ·exact .inl
   rw[heq]at dj' j';exact D.any V hQ fuel _ Tc' h' a' w' Z' ψ' (by simpa using hs) (by have:=FK m0 (by omega) hn;omega) dj' j'
end
end Go.Vs
namespace Go.Vs
variable {P:Program} {Eqs:TypeId→Option K} {Sg:FuncId→Option aS} {F:(f:FuncId)→(g:aS)→g.A→Option g.B} {R:Type}
variable {Z Z' Z0:Nat→Prop} {ψ ψ' ψ0:Nat→Value} {h h':Hp} {w w' w0:World} {B0:Nat} {O N:Nat→Prop}
theorem Bw(f:AV→AV)(hf:f .no=.no):∀(l:List (Nat×AV)) (d:Nat),look (l.map fun p=>(p.1,f p.2)) d=f (look l d)
 |[],d=>by simp[look,hf]
 |(i,v)::r,d=>by
  simp only[List.map_cons,look]
  split
  ·rfl
  ·exact Bw f hf r d
section
variable {rid:Nat}
mutual
theorem xc:∀{a:AV} {v:Value},aC Z ψ h w a v→aC Z ψ h w (bH rid a) v
 |.ref id s i off,v,hr=>by
  simp only[bH]
  split
  ·simp only[aC]
  ·exact hr
 |.bK id,v,hr=>by
  simp only[bH]
  split
  ·simp only[aC]
  ·exact hr
 |.fn f cap,v,hr=>by simp only[bH,aC]at hr ⊢;obtain⟨vs,e,hl⟩:=hr;exact⟨vs,e,ma hl⟩
 |.agg cs,v,hr=>by simp only[bH,aC]at hr ⊢;obtain⟨vs,e,hl⟩:=hr;exact⟨vs,e,ma hl⟩
 |.ns cs,v,hr=>by simp only[bH,aC]at hr ⊢;obtain⟨vs,e,hl⟩:=hr;exact⟨vs,e,ma hl⟩
 |.no,v,hr=>by simpa only[bH] using hr
 |.bool _,v,hr=>by simpa only[bH] using hr
 |.int _ _,v,hr=>by simpa only[bH] using hr
 |.str _,v,hr=>by simpa only[bH] using hr
 |.la,v,hr=>by simpa only[bH] using hr
 |.fZ,v,hr=>by simpa only[bH] using hr
 |.fp _ _ _,v,hr=>by simpa only[bH] using hr
 |.sl _ _ _,v,hr=>by simpa only[bH] using hr
 |.mp _ _ _,v,hr=>by simpa only[bH] using hr
theorem ma:∀{a:List AV} {v:List Value},aq Z ψ h w a v→aq Z ψ h w (lN rid a) v
 |[],v,hr=>by simpa only[lN] using hr
 |x::r,v,hr=>by simp only[lN,aq]at hr ⊢;obtain⟨u,us,e,h1,h2⟩:=hr;exact⟨u,us,e,xc h1,ma h2⟩
end
mutual
theorem pO:∀(a:AV),aM (mG rid fun _=>False) (bH rid a)
 |.ref id s i off=>by
  simp only[bH]
  split
  ·simp only[aM]
  ·rename_i hn;simp only[aM];exact fun h=>absurd h hn
 |.bK id=>by
  simp only[bH]
  split
  ·simp only[aM]
  ·rename_i hn;simp only[aM];exact fun h=>absurd h hn
 |.fn f cap=>by simp only[bH,aM];exact iQ cap
 |.agg cs=>by simp only[bH,aM];exact iQ cs
 |.ns cs=>by simp only[bH,aM];exact iQ cs
 |.no=>by simp only[bH,aM]
 |.bool _=>by simp only[bH,aM]
 |.int _ _=>by simp only[bH,aM]
 |.str _=>by simp only[bH,aM]
 |.la=>by simp only[bH,aM]
 |.fZ=>by simp only[bH,aM]
 |.fp _ _ _=>by simp only[bH,aM]
 |.sl _ _ _=>by simp only[bH,aM]
 |.mp _ _ _=>by simp only[bH,aM]
theorem iQ:∀(a:List AV),aG (mG rid fun _=>False) (lN rid a)
 |[]=>by simp only[lN,aG]
 |x::r=>by simp only[lN,aG];exact⟨pO x,iQ r⟩
end
theorem get_map(f:Ob→Ob):∀(hh:Heap) (i:Nat),Heap.get (hh.map fun p=>(p.1,f p.2)) i=(hh.get i).map f
 |[],i=>rfl
 |(j,o)::r,i=>by
  simp only[List.map_cons,Heap.get]
  split
  ·rfl
  ·exact get_map f r i
def nc(rid:Nat)(hh:Heap):Heap:=(hh.filter fun p=>p.1 / 32768 != rid+1).map fun p=>(p.1,AJ rid p.2)
theorem N4(hh:Heap)(i:Nat):(nc rid hh).get i=if i / 32768=rid+1 then none else(hh.get i).map (AJ rid):=by unfold nc;rw[get_map (AJ rid),get_filter (fun i=>i / 32768 != rid+1)];by_cases e:i / 32768=rid+1<;>simp[e]
theorem iE{hh:Heap}{i:Nat}{o:Ob}(hg:(nc rid hh).get i=some o):i / 32768≠rid+1∧∃o',hh.get i=some o'∧o=AJ rid o':=by
 rw[N4]at hg
 split at hg
 ·cases hg
 ·rename_i hn
  cases h0:hh.get i with
  |none=>rw[h0]at hg;cases hg
  |some o'=>rw[h0]at hg;cases hg;exact⟨hn,o',rfl,rfl⟩
theorem kz{hh:Heap}{i:Nat}(hg:(nc rid hh).get i≠none):hh.get i≠none:=by obtain⟨o,ho⟩:=ac9.1 hg;obtain⟨_,o',h1,_⟩:=iE ho;rw[h1];simp
theorem Good.kX{hh:Heap}(g:Good Z ψ hh.get w B0 O):Good Z ψ (nc rid hh).get w B0 O:=by
 refine⟨fun id ty cs hb=>?_,fun id ok xs hb=>?_,fun id b h1 h2=>g.live id b (kz h1) h2,fun id mJ b h1 h2 h3 h4=>g.apart id mJ b (kz h1) (kz h2) h3 h4,g.jO⟩
 ·obtain⟨_,o',h1,h2⟩:=iE hb
  cases o' with
  |own ok xs=>cases h2
  |box zn cs' =>
   cases h2
   obtain⟨gg,vs,h3,h4,h5,h6⟩:=g.box id ty cs' h1;exact⟨gg,vs,h3,h4,ma (h5.less (fun _ h=>h) (cy.refl _ _) fun i hi=>⟨kz hi,rfl⟩),h6⟩
 ·obtain⟨_,o',h1,h2⟩:=iE hb
  cases o' with
  |own ZF xs'=>cases h2;exact g.row id _ _ h1
  |box zn cs'=>cases h2
theorem Ok.sub{hp:Hp}(k:Ok Z0 w0 O ψ0 Z ψ h w)(g:Good Z ψ hp w w0.heap.size O)(hn:∀id,hp id≠none→h id≠none):Ok Z0 w0 O ψ0 Z ψ hp w :=⟨g,k.fU,k.eQ,k.os,k.tape,k.output,k.size,k.block,fun i hi bw=>k.fix i hi (hn i bw)⟩
end
theorem Good.Bx(g:Good Z ψ h w B0 O)(e:w'.heap=w.heap):Good Z ψ h w' B0 O:=by
 have sm:cy Z w w':=fun b _=>by rw[e]
 refine⟨fun id ty cs hb=>?_,fun id ok xs hb=>?_,g.live,g.apart,fun b hb=>by rw[e];exact g.jO b hb⟩
 ·obtain⟨gg,vs,h1,h2,h3,h4⟩:=g.box id ty cs hb;exact⟨gg,vs,h1,by rw[e];exact h2,h3.less (fun _ h=>h) sm (fun i hi=>⟨hi,rfl⟩),h4⟩
 ·exact(g.row id ok xs hb).kept (fun _ h=>h) sm (fun gg _=>by rw[e])
theorem Ok.Bx(k:Ok Z0 w0 O ψ0 Z ψ h w)(e:w'.heap=w.heap)(e1:w'.os=w.os)(e2:w'.tape=w.tape)(e3:w'.output=w.output):Ok Z0 w0 O ψ0 Z ψ h w' :=⟨k.dZ.Bx e,k.fU,k.eQ,e1.trans k.os,e2.trans k.tape,e3.trans k.output,by rw[e];exact k.size,fun b hb ho=>by rw[e];exact k.block b hb ho,k.fix⟩
theorem cT.Bx{n:Nat}{T:Nat→AV}{a:Act}(t:cT Z ψ h w n T a)(e:w'.heap=w.heap):cT Z ψ h w' n T a :=⟨fun d=>(t.rep d).less (fun _ h=>h) (fun b _=>by rw[e]) (fun i hi=>⟨hi,rfl⟩),t.size,t.defers⟩
theorem FL(V:Env P Eqs Sg F)(hm:P.follows .mixedOrders=true){n rid:Nat}{ops:Array Oper}{draw:Bool}{st:St}{kk:St→Option R}{r:R}{a:Act}{Q:Exit→Act→World→Prop} (hx:iw P Eqs Sg F n rid ops draw st kk=some r) (k:Ok Z0 w0 O ψ0 Z ψ st.heap.get w) (t:cT Z ψ st.heap.get w n (look st.tmps) a) (hQ:∀eP Z ψ a w,kk eP=some r→Ok Z0 w0 O ψ0 Z ψ eP.heap.get w→cT Z ψ eP.heap.get w n (look eP.tmps) a→Q .normal a w):(Code.region rid ops draw).wp P Q a w:=by
 obtain⟨b,ZN,hx⟩:∃b,b=(if draw then Region.before ops else #[])∧(if(ops.all fun o=>iv n o)&&(!draw || (uM ops b&&(AH ops b&&cj (ops.toList.filterMap (·.dst)))))&&decide (ops.size≤128) then
  bG P Eqs Sg F rid draw ops b (ops.toList.zipIdx.map fun p=>(p.2,p.1)) (kX draw rid ops st) kk else none)=some r:=⟨_,rfl,hx⟩
 split at hx
 ·rename_i hc;simp only[Bool.and_eq_true,decide_eq_true_eq]at hc;obtain⟨⟨kS,hdr⟩,iZ⟩:=hc;have En:∀(i:Nat) (o:Oper),ops[i]? = some o→iv n o=true:=fun i o ho=>aeH.1 kS o (aeF ho);have pk:Ok Z0 w0 O ψ0 Z ψ (nc rid st.heap).get w:=k.sub k.dZ.kX fun id=>kz;have pt:cT Z ψ (nc rid st.heap).get w n (fun d=>bH rid (look st.tmps d)) a :=⟨fun d=>xc ((t.rep d).less (fun _ h=>h) (cy.refl _ _) fun i hi=>⟨kz hi,rfl⟩),t.size,t.defers⟩;have pm:th (mG rid fun _=>False) (nc rid st.heap).get:=fun i ty cs hb=>by
   obtain⟨_,o',h1,h2⟩:=iE hb
   cases o' with
   |own ok xs=>cases h2
   |box zn cs'=>cases h2;exact iQ cs'
  have Eo:look (st.tmps.map fun p=>(p.1,bH rid p.2))=fun d=>bH rid (look st.tmps d):=funext fun d=>Bw (bH rid) (by simp only[bH]) st.tmps d
  cases draw with
  |false =>
   refine wp_region ?_;rw[←Eh ops]
   cases QA:ops.any (makes ·.op) with
   |false =>
    have hp:kX false rid ops st=st:=by unfold kX;rw[QA];rfl
    rw[hp]at hx;refine lA V (rid:=rid) (n:=n) (b:=_) false (fun _ i o ho=>?_) iZ En hQ _ 0 st Z ψ a w (ov ops) hx ⟨k,t,fun d=>?_,fun i ty cs hb=>?_⟩
    ·have:=Array.any_eq_false'.1 QA o (aeF ho);simpa using this
    ·exact(aM.top _).imp fun id _ h=>by cases h
    ·exact(aG.top _).imp fun id _ h=>by cases h
   |true =>
    have hp:kX false rid ops st={ tmps:=st.tmps.map fun p=>(p.1,bH rid p.2),heap:=nc rid st.heap }:=by unfold kX;rw[QA];rfl
    rw[hp]at hx;refine lA V (rid:=rid) (n:=n) (b:=_) true (fun h=>by cases h) iZ En hQ _ 0 _ Z ψ a w (ov ops) hx ⟨pk,by rw[Eo];exact pt,fun d=>?_,fun i ty cs hb=>?_⟩
    ·rw[Eo];exact(pO _).imp fun id h1 _ h2=>(h1 h2).elim
    ·exact(pm i ty cs hb).imp fun id h1 _ h2=>(h1 h2).elim
  |true =>
   have hp:kX true rid ops st={ tmps:=st.tmps.map fun p=>(p.1,bH rid p.2),heap:=nc rid st.heap }:=by unfold kX;rw[Bool.true_or];rfl
   rw[hp]at hx;simp only[Bool.not_true,Bool.false_or,Bool.and_eq_true]at hdr;obtain⟨af2,aaV,Ec⟩:=hdr;refine wp_region_any hm ?_;obtain⟨T,H,E,h1,h2,h3,eP,h4,h5,h6⟩:=trace (kk:=kk) (r:=r) (ops.toList.zipIdx.map fun p=>(p.2,p.1)) 0 _ (ov ops) (by simp) hx;rw[Eo]at h1;have D:Dr P Eqs Sg F rid n ops b T H E:=⟨iZ,af2,aaV,En,Ec,fun k o ho=>h3 k o (aeG _) ho,fun id bS=>by rw[h2]at bS;obtain⟨o,ho⟩:=ac9.1 bS;exact(iE ho).1⟩;have yF:∀k,¬((Array.replicate ops.size false).getD k false=true):=fun k hk=>by
    rw[Array.getD_eq_getD_getElem?,Array.getElem?_replicate]at hk
    split at hk<;>simp at hk
   rw[show max 0 ops.size=ops.size by omega]at h5 h6;have w2:({ w with drawn:=w.drawn+1 }:World).heap=w.heap:=rfl;refine D.any V (Z0:=Z0) (w0:=w0) (O:=O) (ψ0:=ψ0) (fun Z ψ a w j=>hQ eP Z ψ a w h4 (by rw[h6];exact j.ok) (by rw[h5,h6];exact j.tr)) ops.size _ (T 0) (H 0) a _ Z ψ (by simp) ?_ ?_ ?_
   ·unfold l9;rw[List.filter_eq_self.2,List.length_range];intro k _;have:=yF k;simpa using this
   ·refine⟨fun i hi=>(yF i hi).elim,fun i j hi=>(yF i hi).elim,?_,fun j o d hj=>(yF j hj).elim,fun d _=>rfl⟩;obtain⟨q,hq1,hq2,hq3⟩:=QL E (fun k=>(Array.replicate ops.size false).getD k false=true) ops.size;refine⟨q,hq1,hq2,hq3,fun id=>⟨fun qy=>?_,fun qy=>?_⟩⟩
    ·symm
     refine D.Ab q (aeG _) hq1 (fun k _ hk hw=>(yF k (hq2 k hk hw)).elim) id fun k _ hk _ ho=>?_;have:=qy (ho.parts (by omega)).1;exact yF _ this
    ·rw[h2];apply Classical.not_not.1;intro bw;obtain⟨o,ho⟩:=ac9.1 bw;exact qy fun hr=>absurd hr (iE ho).1
   ·rw[h1,h2];refine⟨pk.Bx w2 rfl rfl rfl,pt.Bx w2,fun d=>(pO _).imp fun id h3 h4=>(h3 h4).elim,fun i ty cs hb=>(pm i ty cs hb).imp fun id h3 h4=>(h3 h4).elim⟩
 ·cases hx
end Go.Vs
