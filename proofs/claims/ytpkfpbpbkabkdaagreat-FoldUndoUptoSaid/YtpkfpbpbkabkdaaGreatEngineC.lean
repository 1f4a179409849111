/- The value semantics is sound -/
import Derived.Test.YtpkfpbpbkabkdaaGreatEngineB
import Derived.Maps.RangeRun
import Derived.ChangeMaps
set_option linter.unusedSimpArgs false
set_option linter.unusedVariables false
namespace Go.Vs
variable {P:Program} {Z Z':Nat→Prop} {ψ ψ':Nat→Value} {h h':Hp} {w w':World} {B0:Nat} {O:Nat→Prop} {N:Nat→Prop}
theorem gL:∀(k:K) (x:k.T),(enc k x).length=k.sz
 |.int _,_=>rfl
 |.bool,_=>rfl
 |.str,_=>rfl
 |.sl _,_=>rfl
 |.mp _ _,_=>rfl
 |.pair a b,x=>by simp only[enc,List.length_append,K.sz];rw[gL a,gL b]
 |.one k,x=>by simp only[enc,K.sz];exact gL k x
theorem tz(hh:Heap):∀(k:K) (x:k.T),(enc k x).map (dm hh)=enc k x
 |.int _,_=>rfl
 |.bool,_=>rfl
 |.str,_=>rfl
 |.sl _,_=>rfl
 |.mp _ _,_=>rfl
 |.pair a b,x=>by simp only[enc,List.map_append];rw[tz hh a,tz hh b]
 |.one k,x=>by simp only[enc];exact tz hh k x
theorem nR:∀(k:K) (x:k.T) (id:Nat),AV.bY id∉enc k x
 |.int _,_,_=>by simp[enc]
 |.bool,_,_=>by simp[enc]
 |.str,_,_=>by simp[enc]
 |.sl _,_,_=>by simp[enc]
 |.mp _ _,_,_=>by simp[enc]
 |.pair a b,x,id=>by
  simp only[enc,List.mem_append];rintro(h|h)
  ·exact nR a _ id h
  ·exact nR b _ id h
 |.one k,x,id=>by simp only[enc];exact nR k x id
theorem zY{hh:Heap}{ok:OK}{n:Nat}{xs:ok.T}(hg:hh.get n=some (.own ok xs)):fk hh ok (.bY n)=some xs:=by simp[fk,hg]
theorem rH{hh:Heap}:∀(eg:List CK) (n:Nat) (x:sW eg),(∀e∈bq eg n x,hh.get e.1=some e.2)→dn eg hh (aL eg n x)=some x
 |[],n,x,_=>rfl
 |.val k::r,n,x,hg=>by
  have h1:(aL (.val k::r) n x).take k.sz=enc k x.1:=by simp only[aL];rw[←gL k x.1,List.take_left]
  have h2:(aL (.val k::r) n x).drop k.sz=aL r (n+1) x.2:=by simp only[aL];rw[←gL k x.1,List.drop_left]
  have e:dn (.val k::r) hh (aL (.val k::r) n x)=(match ep k (((aL (.val k::r) n x).take k.sz).map (dm hh)),dn r hh ((aL (.val k::r) n x).drop k.sz) with
   |some x,some y=>some ((x,y):k.T×sW r)
   |_,_=>none):=by generalize aL (.val k::r) n x=l;cases l<;>rfl
  have h4:ep k (((aL (.val k::r) n x).take k.sz).map (dm hh))=some x.1:=by rw[h1];exact(congrArg (ep k) (tz hh k x.1)).trans (wR k x.1)
  have h5:dn r hh ((aL (.val k::r) n x).drop k.sz)=some x.2:=by rw[h2];exact rH r (n+1) x.2 hg
  rw[e];generalize ep k (((aL (.val k::r) n x).take k.sz).map (dm hh))=o1 at h4 ⊢;generalize dn r hh ((aL (.val k::r) n x).drop k.sz)=o2 at h5 ⊢;subst h4;subst h5;rfl
 |.own ok::r,n,x,hg=>by
  simp only[bq]at hg;have h1:=zY (hg _ abu);have h2:=rH r (n+1) x.2 (fun e he=>hg e (aa5 _ he));have e:dn (.own ok::r) hh (aL (.own ok::r) n x)=(match fk hh ok (.bY n),dn r hh (aL r (n+1) x.2) with
   |some x,some y=>some ((x,y):ok.T×sW r)
   |_,_=>none):=rfl
  rw[e,h1,h2];rfl
theorem RC{hh:Heap}(b:BK){i n:Nat}{x:b.T}(hg:∀e∈ke b i n x,hh.get e.1=some e.2):sB b hh i=some x:=by
 cases b with
 |box ty c =>
  simp only[ke]at hg;have h1:C4 hh i ty=some (aL c n x):=by unfold C4;rw[hg _ List.mem_cons_self];simp
  simp only[sB,h1];exact rH (hh:=hh) c n x (fun e he=>hg e (aa5 _ he))
 |own ok=>exact zY (hg _ (by simp only[ke];exact abu))
theorem Bm{hh:Heap}:∀(bs:List BK) (is:List Nat) (n:Nat) (x:zw bs),is.length=bs.length→(∀e∈bJ bs is n x,hh.get e.1=some e.2)→dD bs hh is=some x
 |[],[],n,x,_,_=>rfl
 |[],_::_,n,x,hl,_=>by simp at hl
 |_::_,[],n,x,hl,_=>by simp at hl
 |b::r,i::is,n,x,hl,hg=>by
  simp only[bJ]at hg;have h2:=RC b (fun e he=>hg e (abt _ he));have h3:=Bm r is (n+16) x.2 (by simpa using hl) (fun e he=>hg e (abo _ he));have e:dD (b::r) hh (i::is)=(match sB b hh i,dD r hh is with
    |some x,some y=>some ((x,y):b.T×zw r)
    |_,_=>none):=rfl
  rw[e,h2,h3];rfl
theorem zZ{i:Nat}{o:Ob}:∀{hh:Heap},cI (hh.map (·.1))=true→(i,o)∈hh→hh.get i=some o
 |[],_,h=>by cases h
 |(j,o')::r,hn,h=>by
  obtain⟨h1,h2⟩:=oW hn;simp only[Heap.get];rcases abn.1 h with e|h
  ·cases e;simp
  ·rw[if_neg,zZ h2 h];rintro rfl;exact h1 (abY.2 ⟨_,h,rfl⟩)
theorem Cr{hh:Heap}:∀(eg:List CK) (n:Nat) (x:sW eg) (id:Nat),AV.bY id∉sw eg (aL eg n x)
 |[],n,x,id=>by simp[aL,sw]
 |.val k::r,n,x,id=>by
  have h1:(aL (.val k::r) n x).take k.sz=enc k x.1:=by simp only[aL];rw[←gL k x.1,List.take_left]
  have h2:(aL (.val k::r) n x).drop k.sz=aL r (n+1) x.2:=by simp only[aL];rw[←gL k x.1,List.drop_left]
  have e:sw (.val k::r) (aL (.val k::r) n x)=(aL (.val k::r) n x).take k.sz++sw r ((aL (.val k::r) n x).drop k.sz):=by generalize aL (.val k::r) n x=l;cases l<;>rfl
  rw[e,h1,h2,List.mem_append];rintro(h|h)
  ·exact nR k x.1 id h
  ·exact Cr (hh:=hh) r (n+1) x.2 id h
 |.own ok::r,n,x,id=>by simp only[aL,sw];exact Cr (hh:=hh) r (n+1) x.2 id
theorem DL{hh:Heap}:∀(bs:List BK) (is:List Nat) (n:Nat) (x:zw bs) (id:Nat),(∀e∈bJ bs is n x,hh.get e.1=some e.2)→AV.bY id∉iq bs hh is
 |[],is,n,x,id,_=>by cases is<;>simp[iq]
 |_::_,[],n,x,id,_=>by simp[iq]
 |b::r,i::is,n,x,id,hg=>by
  simp only[bJ]at hg;simp only[iq,List.mem_append];rintro(h|h)
  ·cases b with
   |box ty c =>simp only[C5]at h;rw[hg (i,.box ty (aL c n x.1)) (List.mem_append_left _ (by simp only[ke];exact List.mem_cons_self))]at h;exact Cr (hh:=hh) c n x.1 id h
   |own ok=>simp[C5]at h
  ·exact DL r is (n+16) x.2 id (fun e he=>hg e (abo _ he)) h
theorem G9{hh:Heap}:∀(cap:List AV) (is is':List Nat) (vs:List Value),kQ cap=some is→is'.length=is.length→(∀p∈is.zip is',hh.get p.1≠none∧(h' p.2≠none→ψ' p.2=ψ p.1)) → ax Z ψ hh.get w cap vs→ax Z' ψ' h' w (is'.map fun i=>.ref i 0 0 0) vs
 |[],is,is',vs,h1,hl,_,hr=>by
  simp only[kQ]at h1
  cases h1
  cases is' with
  |nil=>simpa only[List.map_nil,ax] using hr
  |cons c r=>simp at hl
 |v::cap,is,is',vs,h1,hl,hp,hr=>by
  simp only[kQ]at h1
  split at h1
  ·rename_i i is1 h3 h4
   cases h1
   cases is' with
   |nil=>simp at hl
   |cons c r =>simp only[List.zip_cons_cons]at hp;simp only[List.map_cons,ax]at hr ⊢;obtain⟨u,us,rfl,h7,h8⟩:=hr;obtain⟨sz,rfl⟩:=rD h3;obtain⟨h5,h6⟩:=hp _ abu;exact⟨u,us,rfl,Cp h7 h5 h6,G9 cap is1 r us h4 (by simpa using hl) (fun p h=>hp p (aa5 _ h)) h8⟩
  ·cases h1
theorem vM:∀(cap:List AV) (is:List Nat),kQ cap=some is→is.length=cap.length
 |[],is,h=>by simp only[kQ]at h;cases h;rfl
 |v::cap,is,h=>by
  simp only[kQ]at h
  split at h
  ·rename_i i is1 h3 h4
   cases h
   simp[vM cap is1 h4]
  ·cases h
theorem vN:∀(cs:List AV) (is:List Nat),rm cs=some is→is.length=cs.length
 |[],is,h=>by simp only[rm]at h;cases h;rfl
 |c::r,is,h=>by
  cases c<;>simp only[rm]at h<;>first|(cases h;done)|skip
  split at h
  ·rename_i is' h1
   cases h
   simp[vN r is' h1]
  ·cases h
theorem Hc{hh:Heap}:∀(cs:List AV) (is iJ:List Nat) (vs:List Value),rm cs=some is→iJ.length=is.length→(∀p∈is.zip iJ,hh.get p.1≠none∧(h' p.2≠none→ψ' p.2=ψ p.1)) → ax Z ψ hh.get w cs vs→ax Z' ψ' h' w (iJ.map .bY) vs
 |[],is,iJ,vs,h,hl,hp,hr=>by
  simp only[rm]at h
  cases h
  have:iJ=[]:=abU hl;subst this;simpa only[List.map_nil,ax] using hr
 |c::r,is,iJ,vs,h,hl,hp,hr=>by
  cases c<;>simp only[rm]at h<;>first|(cases h;done)|skip
  rename_i i
  split at h
  ·rename_i is' h1
   cases h
   cases iJ with
   |nil=>simp at hl
   |cons i' iJ =>simp only[List.zip_cons_cons]at hp;obtain⟨h5,h6⟩:=hp _ abu;simp only[List.map_cons,ax]at hr ⊢;obtain⟨u,us,rfl,h3,h4⟩:=hr;refine⟨u,us,rfl,?_,Hc r is' iJ us h1 (by simpa using hl) (fun p Uh=>hp p (aa5 _ Uh)) h4⟩;simp only[aD]at h3 ⊢;exact⟨h3.1,fun hn=>(h3.2 h5).trans (h6 hn).symm⟩
  ·cases h
theorem ng{hh:Heap}(g:Good Z ψ hh.get w B0 O)(hz:∀b,Z b→Z' b):∀(ps:List PK) (ids iJ:List Nat) (s:Nat) (vs:List AV) (us:List Value) (x:Kg (mw ps)),iJ.length=ids.length→dg ps vs=some ids→fU ps hh vs=some x →(∀id b,AV.bY id∈dW ps vs→hh.get id≠none→ob (ψ id)=some b→Z' b)→(∀p∈ids.zip iJ,hh.get p.1≠none∧(h' p.2≠none→ψ' p.2=ψ p.1))→ax Z ψ hh.get w vs us→ax Z' ψ' h' w ((bf ps iJ s x).map (·.2)) us
 |[],ids,iJ,s,vs,us,x,hl,hi,hv,hf,hp,hr=>by
  cases vs with
  |nil=>simpa only[bf,List.map_nil,ax] using hr
  |cons a r=>simp[dg]at hi
 |.val k::ps,ids,iJ,s,vs,us,x,hl,hi,hv,hf,hp,hr=>by
  cases vs with
  |nil=>simp[dg]at hi
  |cons a r =>simp only[dg]at hi;simp only[ax]at hr;obtain⟨u,j7,rfl,h3,h4⟩:=hr;obtain⟨h1,h2⟩:=Bj hv;simp only[dW]at hf;simp only[bf,List.map_cons,ax];exact⟨u,j7,rfl,uH g hz (fun id b bV=>hf id b (abt _ bV)) h1 h3,ng g hz ps ids iJ (s+1) r j7 x.2 hl hi h2 (fun id b bV=>hf id b (abo _ bV)) hp h4⟩
 |.ref::ps,ids,iJ,s,vs,us,x,hl,hi,hv,hf,hp,hr=>by
  cases vs with
  |nil=>simp[dg]at hi
  |cons a r =>
   simp only[dg]at hi
   split at hi
   ·rename_i i is h1 h2
    cases hi
    simp only[ax]at hr;obtain⟨u,j7,rfl,h3,h4⟩:=hr
    cases iJ with
    |nil=>simp at hl
    |cons i' is' =>simp only[List.zip_cons_cons]at hp;obtain⟨sz,rfl⟩:=rD h1;obtain⟨h5,h6⟩:=hp _ abu;simp only[bf,List.map_cons,ax];exact⟨u,j7,rfl,Cp h3 h5 h6,ng g hz ps is is' (s+1) r j7 x (by simpa using hl) h2 hv hf (fun p h=>hp p (aa5 _ h)) h4⟩
   ·cases hi
 |.own::ps,ids,iJ,s,vs,us,x,hl,hi,hv,hf,hp,hr=>by
  cases vs with
  |nil=>simp[dg]at hi
  |cons a r =>
   cases a<;>simp only[dg]at hi<;>first|(cases hi;done)|skip
   rename_i i
   split at hi
   ·rename_i is h2
    cases hi
    simp only[ax]at hr;obtain⟨u,j7,rfl,h3,h4⟩:=hr
    cases iJ with
    |nil=>simp at hl
    |cons i' is' =>simp only[List.zip_cons_cons]at hp;obtain⟨h5,h6⟩:=hp _ abu;simp only[bf,List.map_cons,ax];refine⟨u,j7,rfl,?_,ng g hz ps is is' (s+1) r j7 x (by simpa using hl) h2 hv hf (fun p h=>hp p (aa5 _ h)) h4⟩;simp only[aD]at h3 ⊢;exact⟨h3.1,fun hn=>(h3.2 h5).trans (h6 hn).symm⟩
   ·cases hi
 |.Gi f m::ps,ids,iJ,s,vs,us,x,hl,hi,hv,hf,hp,hr=>by
  cases vs with
  |nil=>simp[dg]at hi
  |cons a r =>
   cases a<;>simp only[dg]at hi<;>first|(cases hi;done)|skip
   rename_i f' cap
   split at hi
   ·rename_i hc;obtain⟨rfl,vv⟩:=hc
    split at hi
    ·rename_i a1 b1 h1 h2
     cases hi
     simp only[ax]at hr;obtain⟨u,j7,rfl,h3,h4⟩:=hr;have h5:=vM cap a1 h1;have Bc:(a1++b1).zip iJ=a1.zip (iJ.take m)++b1.zip (iJ.drop m):=by
      conv=>lhs;rw[←List.take_append_drop m iJ]
      rw[List.zip_append];rw[List.length_take,Nat.min_eq_left]
      ·omega
      ·rw[hl,List.length_append];omega
     rw[Bc]at hp;simp only[bf,List.map_cons,ax];refine⟨u,j7,rfl,?_,ng g hz ps b1 (iJ.drop m) (s+1) r j7 x (by rw[List.length_drop,hl,List.length_append];omega) h2 hv hf (fun p h=>hp p (abo _ h)) h4⟩;simp only[aD]at h3 ⊢;obtain⟨ws,h6,h7⟩:=h3;exact⟨ws,h6,G9 cap a1 (iJ.take m) _ h1 (by rw[List.length_take,Nat.min_eq_left (by rw[hl,List.length_append];omega)];omega) (fun p h=>hp p (abt _ h)) h7⟩
    ·cases hi
   ·cases hi
 |.agg m::ps,ids,iJ,s,vs,us,x,hl,hi,hv,hf,hp,hr=>by
  cases vs with
  |nil=>simp[dg]at hi
  |cons a r =>
   cases a<;>simp only[dg]at hi<;>first|(cases hi;done)|skip
   rename_i cs
   split at hi
   ·rename_i vv
    split at hi
    ·rename_i a1 b1 h1 h2
     cases hi
     simp only[ax]at hr;obtain⟨u,j7,rfl,h3,h4⟩:=hr;have h5:=vN cs a1 h1;have Bc:(a1++b1).zip iJ=a1.zip (iJ.take m)++b1.zip (iJ.drop m):=by
      conv=>lhs;rw[←List.take_append_drop m iJ]
      rw[List.zip_append];rw[List.length_take,Nat.min_eq_left]
      ·omega
      ·rw[hl,List.length_append];omega
     rw[Bc]at hp;simp only[bf,List.map_cons,ax];refine⟨u,j7,rfl,?_,ng g hz ps b1 (iJ.drop m) (s+1) r j7 x (by rw[List.length_drop,hl,List.length_append];omega) h2 hv hf (fun p h=>hp p (abo _ h)) h4⟩;simp only[aD]at h3 ⊢;obtain⟨ws,h6,h7⟩:=h3;exact⟨ws,h6,Hc cs a1 (iJ.take m) _ h1 (by rw[List.length_take,Nat.min_eq_left (by rw[hl,List.length_append];omega)];omega) (fun p h=>hp p (abt _ h)) h7⟩
    ·cases hi
   ·cases hi
theorem RD(hh:Heap)(k:K)(x:k.T):ic k hh (cM k x)=some x:=by unfold ic;rw[if_pos (DH k x).symm,wS];exact(congrArg (ep k) (tz hh k x)).trans (wR k x)
theorem o4:∀(eg:List CK) (c n:Nat) (x:sW eg),ig eg c=true→(aL eg n x)[oT eg c]? = some (.bY (n+c))
 |[],c,n,x,h=>by simp[ig]at h
 |.val k::r,0,n,x,h=>by simp[ig]at h
 |.val k::r,c+1,n,x,h=>by simp only[aL,oT];have ih:=o4 r c (n+1) x.2 (by simpa[ig] using h);have hl:(enc k x.1).length=k.sz:=gL k x.1;generalize enc k x.1=l at hl ⊢;rw[List.getElem?_append_right (by omega),hl,Nat.add_sub_cancel_left,show n+(c+1)=n+1+c by omega];exact ih
 |.own ok::r,0,n,x,h=>by simp[aL,oT]
 |.own ok::r,c+1,n,x,h=>by simp only[aL,oT];rw[Nat.add_comm 1,List.getElem?_cons_succ,show n+(c+1)=n+1+c by omega];exact o4 r c (n+1) x.2 (by simpa[ig] using h)
theorem Bn:∀(bs:List BK) (b:Nat) (is:List Nat) (n:Nat) (x:zw bs) (ty:TypeId) (c:List CK) (bi:Nat),bs[b]? = some (.box ty c)→is[b]? = some bi→∃xb,(bi,.box ty (aL c (n+16*b) xb))∈bJ bs is n x
 |[],b,is,n,x,_,_,bi,h,_=>by simp at h
 |b0::r,b,[],n,x,_,_,bi,_,h=>by simp at h
 |b0::r,0,i::is,n,x,ty,c,bi,h1,h2=>by simp only[List.getElem?_cons_zero,Option.some.injEq]at h1 h2;subst h1;subst h2;exact⟨x.1,by simp only[bJ,ke];exact abt _ abu⟩
 |b0::r,b+1,i::is,n,x,ty,c,bi,h1,h2=>by obtain⟨xb,h3⟩:=Bn r b is (n+16) x.2 ty c bi (by simpa using h1) (by simpa using h2);refine⟨xb,?_⟩;simp only[bJ];rw[show n+16*(b+1)=n+16+16*b by omega];exact abo _ h3
theorem nS{bs:List BK}{hh:Heap}{is:List Nat}{nb:Nat}{xb:zw bs}(hl:is.length=bs.length)(Yb:∀e∈bJ bs is nb xb,hh.get e.1=some e.2):∀(rs:List RK) (ids2:List Nat) (m:Nat) (y:nE rs),sZ bs rs=true →(∀e∈aq rs m y,hh.get e.1=some e.2)→b6 bs rs hh is (bh rs ids2 nb m y)=some y
 |[],ids2,m,y,_,_=>rfl
 |.val k::r,ids2,m,y,hk,hg=>by
  simp only[sZ,List.all_cons,Bool.and_eq_true,Gj]at hk;have h1:=RD hh k y.1;have h2:=nS hl Yb r ids2 (m+1) y.2 hk.2 hg;have e:b6 bs (.val k::r) hh is (bh (.val k::r) ids2 nb m y)=(match ic k hh (cM k y.1),b6 bs r hh is (bh r ids2 nb (m+1) y.2) with
   |some x,some y=>some ((x,y):k.T×nE r)
   |_,_=>none):=rfl
  rw[e];generalize ic k hh (cM k y.1)=o1 at h1 ⊢;generalize b6 bs r hh is (bh r ids2 nb (m+1) y.2)=o2 at h2 ⊢;subst h1;subst h2;rfl
 |.own ok::r,ids2,m,y,hk,hg=>by
  simp only[sZ,List.all_cons,Bool.and_eq_true,Gj]at hk;simp only[aq]at hg;have h1:=zY (hg _ abu);have h2:=nS hl Yb r ids2 (m+1) y.2 hk.2 (fun e he=>hg e (aa5 _ he));have e:b6 bs (.own ok::r) hh is (bh (.own ok::r) ids2 nb m y)=(match fk hh ok (.bY m),b6 bs r hh is (bh r ids2 nb (m+1) y.2) with
   |some x,some y=>some ((x,y):ok.T×nE r)
   |_,_=>none):=rfl
  rw[e];generalize fk hh ok (.bY m)=o1 at h1 ⊢;generalize b6 bs r hh is (bh r ids2 nb (m+1) y.2)=o2 at h2 ⊢;subst h1;subst h2;rfl
 |.fY b alts::r,ids2,m,y,hk,hg=>by
  simp only[sZ,List.all_cons,Bool.and_eq_true,Gj]at hk;have h2:=nS hl Yb r ids2 (m+1) y.2 hk.2 hg;have h1:pI bs hh is b alts (xu b nb alts y.1)=some y.1:=by
   cases hy:y.1 with
   |none=>rfl
   |some p =>
    obtain⟨al,i⟩:=p;have h3:=hk.1
    split at h3
    ·rename_i bk hbk;have aK:=(abg.1 hbk).1;have RE:is[b]? = some (is[b]'(by omega)):=aba (by omega);rw[Bool.and_eq_true,decide_eq_true_eq]at h3;obtain⟨h3,Cs⟩:=h3;have h3a:∀a:Fin alts.length,ig bk.eg (alts.get a).1=true:=fun a=>acQ.1 h3 _ (List.get_mem alts a)
     cases bk with
     |own ok=>have:=h3a al;simp[BK.eg,ig]at this
     |box ty c0 =>
      obtain⟨xb',h4⟩:=Bn bs b is nb xb ty c0 _ hbk RE;have h5:=Yb _ h4;simp only[BK.eg]at h3a;simp only[pI,xu,hbk,RE,h5,BK.eg];have key:(List.finRange alts.length).find? (fun a=>A3 c0 (aL c0 (nb+16*b) xb') (nb+16*b+(alts.get al).1) (alts.get al).2.1 (alts.get al).2.2 (alts.get a))=some al:=by
       cases hf:(List.finRange alts.length).find? (fun a=>A3 c0 (aL c0 (nb+16*b) xb') (nb+16*b+(alts.get al).1) (alts.get al).2.1 (alts.get al).2.2 (alts.get a)) with
       |none =>have:=List.find?_eq_none.1 hf al (List.mem_finRange al);exfalso;apply this;simp only[A3,Bool.and_eq_true,decide_eq_true_eq];refine⟨?_,trivial,trivial,h3a al⟩;rw[o4 c0 _ _ xb' (h3a al)];simp[TS]
       |some a' =>
        have hf':=adH hf;obtain⟨h6,_,h7,_⟩:=DK hf';rw[o4 c0 _ _ xb' (h3a a')]at h6;simp only[Option.some.injEq,AV.bY.injEq]at h6;have h8:(alts.get a').1=(alts.get al).1:=by omega
        congr 1;have pN:∀a:Fin alts.length,(alts.map fun a=>(a.1,a.2.2))[a.val]? = some ((alts.get a).1,(alts.get a).2.2):=fun a=>by rw[List.getElem?_map,List.getElem?_eq_getElem a.isLt];rfl
        have e1:=pN a';have e2:=pN al;rw[h8,←h7]at e1;exact Fin.ext ((List.getElem?_inj (by simp) Cs).1 (e1.trans e2.symm))
      rw[key];rfl
    ·cases h3
  have e:b6 bs (.fY b alts::r) hh is (bh (.fY b alts::r) ids2 nb m y)=(match pI bs hh is b alts (xu b nb alts y.1),b6 bs r hh is (bh r ids2 nb (m+1) y.2) with
   |some x,some y=>some ((x,y):Option (Fin alts.length×Nat)×nE r)
   |_,_=>none):=rfl
  rw[e];generalize pI bs hh is b alts (xu b nb alts y.1)=o1 at h1 ⊢;generalize b6 bs r hh is (bh r ids2 nb (m+1) y.2)=o2 at h2 ⊢;subst h1;subst h2;rfl
 |.agg c::r,ids2,m,y,hk,hg=>by
  simp only[sZ,List.all_cons,Bool.and_eq_true,Gj]at hk;simp only[aq]at hg;have h1:=rH (hh:=hh) c m y.1 (fun e he=>hg e (abt _ he));have h2:=nS hl Yb r ids2 (m+1) y.2 hk.2 (fun e he=>hg e (abo _ he));have e:b6 bs (.agg c::r) hh is (bh (.agg c::r) ids2 nb m y)=(match dn c hh (aL c m y.1),b6 bs r hh is (bh r ids2 nb (m+1) y.2) with
   |some x,some y=>some ((x,y):sW c×nE r)
   |_,_=>none):=rfl
  rw[e];generalize dn c hh (aL c m y.1)=o1 at h1 ⊢;generalize b6 bs r hh is (bh r ids2 nb (m+1) y.2)=o2 at h2 ⊢;subst h1;subst h2;rfl
def rI(g:aX)(x:g.A):Hp:=(bJ g.bs (aZ g.bs.length) 2000 x.2).get
def kZ(g:aX)(y:g.B):Heap:=bJ g.bs (aZ g.bs.length) 2000 y.2++aq g.rs 3000 y.1
def IL(g:aX)(x:g.A):List AV:=(bf g.ps (aZ g.bs.length) 0 x.1).map (·.2)
def Hd(P:Program)(f:FuncId)(g:aX)(x:g.A)(y:g.B):Prop :=∀(Z:Nat→Prop) (ψ0:Nat→Value) (w:World) (lP:List Value),Good Z ψ0 (rI g x) w w.heap.size (Own ψ0 (rI g x))→ax Z ψ0 (rI g x) w (IL g x) lP → Calls P (f%1000) lP.toArray w fun e w'=>∃v Z' ψ',e=.returned v∧(∀b,Z b→Z' b)∧(∀b,Z' b→Z b∨Own ψ0 (rI g x) b∨w.heap.size≤b)∧dF ψ0 (rI g x) w w' ∧ Good Z' ψ' (kZ g y).get w' w.heap.size (Own ψ0 (rI g x))∧(∀i∈aZ g.bs.length,ψ' i=ψ0 i)∧aD Z' ψ' (kZ g y).get w' (gu (bh g.rs (aZ g.bs.length) 2000 3000 y.1)) v
theorem IM{ψ:Nat→Value}{b:Nat}:¬Own ψ iy b:=fun⟨_,h,_⟩=>h rfl
theorem xU(ids:List Nat)(n:Nat)(x:zw []):bJ [] ids n x=[]:=by cases ids<;>rfl
theorem Hd.zero{f:FuncId}{g:aX}{x:g.A}{y:g.B}(hb:g.bs=[])(c:Hd P f g x y):aef P f g x y:=by
 obtain⟨ps,bs,rs,_⟩:=g;simp only at hb;subst hb;intro Z w lP hz hr;have e0:rI ⟨ps,[],rs,_⟩ x=iy:=by unfold rI;rw[xU];rfl
 have e1:kZ ⟨ps,[],rs,_⟩ y=aq rs 3000 y.1:=by unfold kZ;rw[xU];rfl
 have hO:Own Nb iy=fun _=>False:=funext fun b=>propext ⟨IM,False.elim⟩;unfold Hd at c;rw[e0,e1]at c;refine(c Z Nb w lP ⟨fun _ _ _ h=>(by cases h),fun _ _ _ h=>(by cases h),fun _ _ h=>absurd rfl h,fun _ _ _ h=>absurd rfl h,hz⟩ hr).mono fun e w' ⟨v,Z',ψ',h1,h2,h3,h4,h5,_,h6⟩=>?_;exact⟨v,Z',ψ',h1,h2,fun b hb=>(h3 b hb).imp (fun h=>h) fun h=>h.resolve_left IM,h4,by rw[hO]at h5;exact h5,h6⟩
theorem KF{bs:List BK}{hh:Heap}{x:zw bs}(hd:dD bs hh []=some x):bs=[]:=by
 cases bs with
 |nil=>rfl
 |cons b r=>cases hd
variable {Eqs:TypeId→Option K} {Sg:FuncId→Option aX} {F:(f:FuncId)→(g:aX)→g.A→Option g.B}
theorem KG{a b:List Nat}(h:cI (a++b)=true):cI a=true:=by
 induction a with
 |nil=>rfl
 |cons i r ih =>
  obtain⟨h1,h2⟩:=oW h;simp only[cI,Bool.and_eq_true,Bool.not_eq_true'];refine⟨?_,ih h2⟩
  cases hc:r.contains i with
  |false=>rfl
  |true=>exact absurd (abt _ (List.contains_iff_mem.1 hc)) h1
theorem Good.IN(g:Good Z ψ h w B0 O)(B:Nat):Good Z ψ h w B (Own ψ h) :=⟨g.box,g.row,fun id b h1 h2=>⟨(g.live id b h1 h2).1,.inr ⟨id,h1,h2⟩⟩,g.apart,g.kT⟩
theorem qw:∀(l:List Nat) (hh:Heap) (i:Nat),(jl hh l).get i=if i∈l then none else hh.get i
 |[],hh,i=>by simp[jl]
 |j::r,hh,i=>by
  simp only[jl];rw[qw r (hh.del j) i];by_cases h1:i∈r
  ·simp[h1]
  ·by_cases h2:i=j
   ·subst h2;simp[Heap.iH]
   ·rw[Heap.jJ h2];simp[h1,h2]
theorem jr:∀(eg:List CK) (n:Nat) (x:sW eg),(bq eg n x).map (·.1)=cO eg n
 |[],_,_=>rfl
 |.val k::r,n,x=>jr r (n+1) x.2
 |.own ok::r,n,x=>by simp only[bq,cO,List.map_cons];rw[jr r (n+1) x.2]
theorem nT:∀(bs:List BK) (is:List Nat) (n:Nat) (x:zw bs),is.length=bs.length→(bJ bs is n x).map (·.1)=cG bs is n
 |[],is,n,x,_=>by cases is<;>rfl
 |b::r,[],n,x,hl=>by simp at hl
 |b::r,i::is,n,x,hl=>by
  simp only[bJ,cG,List.map_append];rw[nT r is (n+16) x.2 (by simpa using hl),←List.cons_append];congr 1
  cases b with
  |box ty c=>simp only[ke,List.map_cons,BK.eg];rw[jr]
  |own ok=>simp[ke,BK.eg,cO]
theorem gY:∀(rs:List RK) (m:Nat) (y:nE rs),(aq rs m y).map (·.1)=bK rs m
 |[],_,_=>rfl
 |.own ok::r,m,y=>by simp only[aq,bK,List.map_cons];rw[gY r (m+1) y.2]
 |.val _::r,m,y=>gY r (m+1) y.2
 |.fY _ _::r,m,y=>gY r (m+1) y.2
 |.agg c::r,m,y=>by have e1:(bq c m y.1).map (·.1)=cO c m:=jr c m y.1;simp only[aq,bK,List.map_append];rw[gY r (m+1) y.2];exact congrArg (·++_) e1
theorem rJ:∀(eg:List CK) (n:Nat) (x:sW eg),g8 eg (aL eg n x)=cO eg n
 |[],_,_=>rfl
 |.val k::r,n,x=>by
  have h2:(aL (.val k::r) n x).drop k.sz=aL r (n+1) x.2:=by simp only[aL];rw[←gL k x.1,List.drop_left]
  have e:g8 (.val k::r) (aL (.val k::r) n x)=g8 r ((aL (.val k::r) n x).drop k.sz):=by generalize aL (.val k::r) n x=l;cases l<;>rfl
  rw[e,h2,rJ r (n+1) x.2];rfl
 |.own ok::r,n,x=>by simp only[aL,g8,rl,cO,List.cons_append,List.nil_append];rw[rJ r (n+1) x.2]
theorem Bo{hh:Heap}:∀(bs:List BK) (is:List Nat) (n:Nat) (x:zw bs),is.length=bs.length→(∀e∈bJ bs is n x,hh.get e.1=some e.2)→dE bs hh is=cG bs is n
 |[],is,n,x,_,_=>by cases is<;>rfl
 |_::_,[],n,x,hl,_=>by simp at hl
 |b::r,i::is,n,x,hl,hg=>by
  simp only[bJ]at hg;simp only[dE,cG];rw[Bo r is (n+16) x.2 (by simpa using hl) (fun e he=>hg e (List.mem_append_right _ he)),←List.cons_append];congr 1
  cases b with
  |box ty c =>simp only[lB,BK.eg];rw[hg (i,.box ty (aL c n x.1)) (List.mem_append_left _ (by simp only[ke];exact List.mem_cons_self))];simp only[];rw[rJ]
  |own ok=>simp[lB,BK.eg,cO]
theorem lQ:∀(rs:List RK) (ids:List Nat) (n m:Nat) (y:nE rs),eZ rs (bh rs ids n m y)=bK rs m
 |[],_,_,_,_=>rfl
 |.own ok::r,ids,n,m,y=>by simp only[bh,eZ,bK,rl,List.cons_append,List.nil_append];rw[lQ r ids n (m+1) y.2]
 |.val _::r,ids,n,m,y=>by simp only[bh,eZ,bK];exact lQ r ids n (m+1) y.2
 |.fY _ _::r,ids,n,m,y=>by simp only[bh,eZ,bK];exact lQ r ids n (m+1) y.2
 |.agg c::r,ids,n,m,y=>by have e1:g8 c (aL c m y.1)=cO c m:=rJ c m y.1;simp only[bh,eZ,bK,AV.cells];rw[lQ r ids n (m+1) y.2];exact congrArg (·++_) e1
theorem nV:∀(rs:List RK) (ids:List Nat) (n m:Nat) (y:nE rs) (id:Nat),AV.bY id∉ir rs (bh rs ids n m y)
 |[],_,_,_,_,_=>by simp[bh,ir]
 |.own ok::r,ids,n,m,y,id=>by simp only[bh,ir];exact nV r ids n (m+1) y.2 id
 |.val k::r,ids,n,m,y,id=>by
  simp only[bh,ir,List.mem_append];rintro(h|h)
  ·have e:(cM k y.1).cells=enc k y.1:=wS k y.1;exact nR k y.1 id (e▸h)
  ·exact nV r ids n (m+1) y.2 id h
 |.fY _ _::r,ids,n,m,y,id=>by simp only[bh,ir];exact nV r ids n (m+1) y.2 id
 |.agg c::r,ids,n,m,y,id=>by
  simp only[bh,ir,AV.cells,List.mem_append];rintro(h|h)
  ·exact Cr (hh:=[]) c m y.1 id h
  ·exact nV r ids n (m+1) y.2 id h
theorem RF{gg:aX}{x:gg.A}{y:gg.B}{Ui:List Nat}{qf fz:Nat→Value}{id:Nat}(hl:Ui.length=gg.bs.length)(Yc:sZ gg.bs gg.rs=true)(xV:cI (sX gg)=true) (DM:cI (cG gg.bs Ui id++bK gg.rs (id+128))=true) (Uj:Good Z' fz (kZ gg y).get w' w.heap.size (Own qf (rI gg x))) {v:Value} (aj0:aD Z' fz (kZ gg y).get w' (gu (bh gg.rs (aZ gg.bs.length) 2000 3000 y.1)) v) :
  ∃L2:List Bh,eO L2=bJ gg.bs Ui id y.2++aq gg.rs (id+128) y.1∧L2.map (·.1)=cG gg.bs Ui id++bK gg.rs (id+128) ∧ Good Z' (fZ fz L2) (eO L2).get w' w.heap.size (Own qf (rI gg x))∧(∀p∈(aZ gg.bs.length).zip Ui,fZ fz L2 p.2=fz p.1) ∧ aD Z' (fZ fz L2) (eO L2).get w' (gu (bh gg.rs Ui id (id+128) y.1)) v:=by
 have hle:(aZ gg.bs.length).length=gg.bs.length:=by simp[aZ]
 have hn2:cI ((kZ gg y).map (·.1))=true:=by unfold kZ;rw[List.map_append,nT _ _ _ _ hle,gY];exact xV
 have Yb:∀e∈bJ gg.bs (aZ gg.bs.length) 2000 y.2,(kZ gg y).get e.1=some e.2:=fun e he=>zZ hn2 (by unfold kZ;exact abt _ he);have hgr:∀e∈aq gg.rs 3000 y.1,(kZ gg y).get e.1=some e.2:=fun e he=>zZ hn2 (by unfold kZ;exact abo _ he);have Cm:=Bm gg.bs _ 2000 y.2 hle Yb;have YG:=nS (xb:=y.2) hle Yb gg.rs (aZ gg.bs.length) 3000 y.1 Yc hgr
 let vsC:=bh gg.rs (aZ gg.bs.length) 2000 3000 y.1
 let L2:List Bh:=cZ gg.bs (kZ gg y) (aZ gg.bs.length) Ui id y.2++de gg.rs vsC (id+128) y.1
 have eH:eO L2=bJ gg.bs Ui id y.2++aq gg.rs (id+128) y.1:=by show eO (_++_)=_;rw[oY,kh _ _ _ _ _ _ Cm hl,iI]
 have eN:L2.map (·.1)=cG gg.bs Ui id++bK gg.rs (id+128):=by show(_++_:List Bh).map _=_;rw[List.map_append,jn _ _ _ _ _ _ Cm hl,gX]
 have eS:L2.filterMap (·.2.1)=sX gg:=by show(_++_:List Bh).filterMap _=_;rw[List.filterMap_append,lN _ _ _ _ _ _ Cm hl,jV _ _ _ _ YG,Bo _ _ 2000 y.2 hle Yb,lQ];rfl
 have hn:cI (L2.map (·.1))=true:=by rw[eN];exact DM
 have kc:=Co (ψ:=fz) hn;have g3:Good Z' (fZ fz L2) (eO L2).get w' w.heap.size (Own qf (rI gg x)):=by
  refine Uj.rename hn (by rw[eS];exact xV) fun e he=>?_;rcases abH.1 he with he|he
  ·exact nO Uj (fun _ h=>h) gg.bs _ _ id y.2 Cm (fun i b bV _ _=>(DL gg.bs _ 2000 y.2 i Yb bV).elim) (fun s _=>rfl) (fun e he=>kc e (abt _ he)) e he
  ·exact kY gg.rs vsC (id+128) y.1 YG (fun s _=>rfl) e he
 refine⟨L2,eH,eN,g3,fun p hp=>?_,?_⟩
 ·obtain⟨o,ho⟩:=lO (hh:=kZ gg y) gg.bs (aZ gg.bs.length) Ui id y.2 hle p hp;exact jU hn (abt _ ho)
 ·refine wO (by rw[lD,lD]) (fun vs wD=>?_) aj0;exact uO (nb:=id) (is':=Ui) Uj (fun _ h=>h) Cm hl (fun e he=>kc e (abt _ he)) gg.rs vsC (id+128) y.1 vs YG (fun i b bV _ _=>(nV gg.rs _ _ _ y.1 i bV).elim) (fun e he=>kc e (abo _ he)) wD
theorem RG{hh:Heap}{mv:List AV}{kept:List Nat}{oK:Hp}{qf Uk:Nat→Value}{H2:Heap}(g:Good Z ψ hh.get w B0 O)(hB:B0≤w.heap.size)(He:∀s∈kept,(di hh mv).get s=hh.get s) (bD:∀i ty cs,hh.get i=some (.box ty cs)→aJ (fun i=>¬N i) cs) (wF:∀b,Own qf oK b→∃s,s∈kept∧hh.get s≠none∧ob (ψ s)=some b) (hz:∀b,sS Z ψ hh.get mv b→Z' b) (Dc:∀b,Z' b→sS Z ψ hh.get mv b∨Own qf oK b∨w.heap.size≤b) (keep:dF qf oK w w') (g3:Good Z' Uk H2.get w' w.heap.size (Own qf oK)) (Ct:∀i ty cs,H2.get i=some (.box ty cs)→aJ (fun j=>H2.get j≠none) cs) (vu:∀i,H2.get i≠none→(i∈kept∧hh.get i≠none∧Uk i=ψ i)∨N i) :
  ∃DN,(∀i,H2.get i≠none→DN i=Uk i)∧Next Z ψ hh.get w B0 O N Z' DN (H2++jl (di hh mv) kept).get w':=by
 classical
 let DN:Nat→Value:=fun i=>if H2.get i≠none then Uk i else ψ i
 have h4:∀i,H2.get i≠none→DN i=Uk i:=fun i hi=>if_pos hi;have hg:∀i,(H2++jl (di hh mv) kept).get i=(match H2.get i with|some o=>some o|none=>if i∈kept then none else(di hh mv).get i):=fun i=>by rw[Heap.get_append,qw];cases H2.get i<;>rfl
 have Gm:∀i,H2.get i≠none→(H2++jl (di hh mv) kept).get i=H2.get i:=fun i hi=>by
  rw[hg];cases e:H2.get i with
  |none=>exact absurd e hi
  |some o=>rfl
 have Bp:∀i,H2.get i=none→(H2++jl (di hh mv) kept).get i≠none→i∉kept∧(H2++jl (di hh mv) kept).get i=hh.get i∧(di hh mv).get i=hh.get i∧DN i=ψ i∧hh.get i≠none:=fun i hi bp=>by
  rw[hg,hi]at bp ⊢;simp only at bp ⊢;by_cases hk:i∈kept
  ·rw[if_pos hk]at bp;exact absurd rfl bp
  ·rw[if_neg hk]at bp ⊢;obtain⟨o,ho⟩:=abT.1 bp;have:=fD _ _ _ _ ho;exact⟨hk,by rw[ho,this],by rw[ho,this],if_neg (by simp[hi]),by rw[this];simp⟩
 have YH:∀i b,i∉kept→hh.get i≠none→ob (ψ i)=some b→¬Own qf oK b:=fun i b hk hi hb ho=>by obtain⟨s,h1,h2,h3⟩:=wF b ho;exact hk ((g.apart i s b hi h2 hb h3)▸h1)
 have gd:Good (sS Z ψ hh.get mv) ψ (di hh mv).get w B0 O:=jK g mv;have aeo:∀b,sS Z ψ hh.get mv b→¬Own qf oK b:=fun b hb ho=>by obtain⟨s,h1,h2,h3⟩:=wF b ho;exact(gd.live s b (by rw[He s h1];exact h2) h3).1 hb
 have sm:cW (sS Z ψ hh.get mv) w w':=fun b hb=>keep.block b (gd.kT b hb) (aeo b hb);have aep:∀i,(H2++jl (di hh mv) kept).get i≠none→(hh.get i≠none∧DN i=ψ i)∨N i:=fun i hi=>by
  by_cases h2:H2.get i=none
  ·obtain⟨_,_,_,h3,h5⟩:=Bp i h2 hi;exact .inl ⟨h5,h3⟩
  ·rcases vu i h2 with⟨_,h3,h5⟩|h3
   ·exact .inl ⟨h3,(h4 i h2).trans h5⟩
   ·exact .inr h3
 have kk:dF ψ hh.get w w':=⟨keep.os,keep.tape,keep.output,keep.size,fun b hb sM=>keep.block b hb fun ho=>by obtain⟨s,_,h2,h3⟩:=wF b ho;exact sM ⟨s,h2,h3⟩⟩;refine⟨DN,h4,fun b hb=>hz b (.inl hb),fun b hb=>?_,kk,aep,⟨fun i ty cs hb=>?_,fun i ok xs hb=>?_,fun i b h1 h2=>?_,fun i i' b h1 h2 h3 h5=>?_,g3.kT⟩⟩
 ·rcases Dc b hb with h1|h1|h1
  ·exact(h1.imp (fun h=>h) fun⟨i,_,h2,h3⟩=>.inl ⟨i,h2,h3⟩)
  ·obtain⟨s,_,h2,h3⟩:=wF b h1;exact .inr (.inl ⟨s,h2,h3⟩)
  ·exact .inr (.inr h1)
 ·by_cases h2:H2.get i=none
  ·obtain⟨h3,h5,h6,h7,h8⟩:=Bp i h2 (by rw[hb];simp);rw[h5]at hb;obtain⟨gg,vs,e1,e2,e3,e4⟩:=gd.box i ty cs (by rw[h6];exact hb);have aK:=(abv.1 e2).1;refine⟨gg,vs,by rw[h7,e1],?_,?_,e4⟩
   ·rw[keep.block gg aK (YH i gg h3 h8 (by rw[e1];rfl))];exact e2
   ·refine e3.move (p:=fun i=>¬N i) hz sm (fun j hp hj=>?_) (bD i ty cs hb);by_cases h9:H2.get j=none
    ·obtain⟨_,_,oI,B2,M9⟩:=Bp j h9 hj;exact⟨by rw[oI];exact M9,B2⟩
    ·rcases vu j h9 with⟨oI,B2,M9⟩|oI
     ·exact⟨by rw[He j oI];exact B2,(h4 j h9).trans M9⟩
     ·exact absurd oI hp
  ·rw[Gm i h2]at hb;obtain⟨gg,vs,e1,e2,e3,e4⟩:=g3.box i ty cs hb;exact⟨gg,vs,by rw[h4 i h2,e1],e2,e3.move (p:=fun j=>H2.get j≠none) (fun _ h=>h) (cW.refl _ _) (fun j hp _=>⟨hp,h4 j hp⟩) (Ct i ty cs hb),e4⟩
 ·by_cases h2:H2.get i=none
  ·obtain⟨h3,h5,h6,h7,h8⟩:=Bp i h2 (by rw[hb];simp);rw[h5]at hb;rw[h7];exact(gd.row i ok xs (by rw[h6];exact hb)).kept hz sm fun gg Rh=>keep.block gg (g.ck ⟨i,h8,Rh⟩) (YH i gg h3 h8 Rh)
  ·rw[Gm i h2]at hb;rw[h4 i h2];exact g3.row i ok xs hb
 ·by_cases h3:H2.get i=none
  ·obtain⟨h5,h6,h7,h8,h9⟩:=Bp i h3 h1;rw[h8]at h2;obtain⟨oI,B2⟩:=gd.live i b (by rw[h7];exact h9) h2;refine⟨fun hzb=>?_,B2⟩;rcases Dc b hzb with M9|M9|M9
   ·exact oI M9
   ·exact YH i b h5 h9 h2 M9
   ·have:=g.ck ⟨i,h9,h2⟩;omega
  ·rw[h4 i h3]at h2;obtain⟨h5,h6⟩:=g3.live i b h3 h2;refine⟨h5,?_⟩;rcases h6 with h6|h6
   ·exact .inl (by omega)
   ·obtain⟨s,_,h7,h8⟩:=wF b h6;exact(g.live s b h7 h8).2
 ·have A6:∀i i',H2.get i=none→H2.get i'≠none→(H2++jl (di hh mv) kept).get i≠none→ob (DN i)=some b→ob (DN i')=some b→False:=fun i i' e1 e2 e3 e4 e5=>by
   obtain⟨h6,_,_,h8,h9⟩:=Bp i e1 e3;rw[h8]at e4;rw[h4 i' e2]at e5;rcases (g3.live i' b e2 e5).2 with oI|oI
   ·have:=g.ck ⟨i,h9,e4⟩;omega
   ·exact YH i b h6 h9 e4 oI
  by_cases e1:H2.get i=none<;>by_cases e2:H2.get i'=none
  ·obtain⟨_,_,_,h8,h9⟩:=Bp i e1 h1;obtain⟨_,_,_,h8',h9'⟩:=Bp i' e2 h2;rw[h8]at h3;rw[h8']at h5;exact g.apart i i' b h9 h9' h3 h5
  ·exact(A6 i i' e1 e2 h1 h3 h5).elim
  ·exact(A6 i' i e2 e1 h2 h5 h3).elim
  ·rw[h4 i e1]at h3;rw[h4 i' e2]at h5;exact g3.apart i i' b e1 e2 h3 h5
theorem Cu{i:Nat}{o:Ob}:∀{hh:Heap},(i,o)∈hh→hh.get i≠none
 |[],h=>by cases h
 |(j,o')::r,h=>by
  simp only[Heap.get]
  split
  ·simp
  ·rename_i hn;rcases abn.1 h with e|h
   ·cases e;exact absurd rfl hn
   ·exact Cu h
theorem get_mem{i:Nat}{o:Ob}:∀{hh:Heap},hh.get i=some o→(i,o)∈hh
 |[],h=>by simp[Heap.get]at h
 |(j,o')::r,h=>by
  simp only[Heap.get]at h
  split at h
  ·rename_i e;subst e;cases h;exact abu
  ·exact aa5 _ (get_mem h)
theorem rK{p:Nat→Prop}:∀{a b:List AV},aJ p a→aJ p b→aJ p (a++b)
 |[],b,_,h=>h
 |x::r,b,h,h'=>by simp only[List.cons_append,aJ]at h ⊢;exact⟨h.1,rK h.2 h'⟩
theorem lE{p:Nat→Prop}:∀(eg:List CK) (n:Nat) (x:sW eg),(∀e∈bq eg n x,p e.1)→aJ p (aL eg n x)
 |[],n,x,_=>by simp only[aL,aJ]
 |.val k::r,n,x,h=>by simp only[aL];exact rK (nQ p k x.1) (lE r (n+1) x.2 h)
 |.own ok::r,n,x,h=>by simp only[bq]at h;simp only[aL,aJ,aS];exact⟨h _ abu,lE r (n+1) x.2 fun e he=>h e (aa5 _ he)⟩
theorem o5:∀(eg:List CK) (n:Nat) (x:sW eg) (i:Nat) (ty:TypeId) (cs:List AV),(i,Ob.box ty cs)∉bq eg n x
 |[],_,_,_,_,_=>by simp[bq]
 |.val k::r,n,x,i,ty,cs=>o5 r (n+1) x.2 i ty cs
 |.own _::r,n,x,i,ty,cs=>by simp only[bq,List.mem_cons,not_or];exact⟨by simp,o5 r (n+1) x.2 i ty cs⟩
theorem vO{p:Nat→Prop}:∀(bs:List BK) (is:List Nat) (n:Nat) (x:zw bs),(∀e∈bJ bs is n x,p e.1)→∀i ty cs,(i,Ob.box ty cs)∈bJ bs is n x→aJ p cs
 |[],is,n,x,_,i,ty,cs,h=>by cases is<;>simp[bJ]at h
 |b::r,[],n,x,_,i,ty,cs,h=>by simp[bJ]at h
 |b::r,i0::is,n,x,hp,i,ty,cs,h=>by
  simp only[bJ]at h hp;rcases abH.1 h with h|h
  ·cases b with
   |box ty0 c0 =>
    simp only[ke]at h hp;rcases abn.1 h with e|h
    ·cases e
     exact lE c0 n x.1 fun e he=>hp e (abt _ (aa5 _ he))
    ·exact absurd h (o5 _ _ _ _ _ _)
   |own ok=>simp[ke]at h
  ·exact vO r is (n+16) x.2 (fun e he=>hp e (abo _ he)) i ty cs h
theorem o6:∀(eg:List CK) (n i:Nat),i∈cO eg n→n≤i∧i<n+eg.length
 |[],n,i,h=>by simp[cO]at h
 |.val k::r,n,i,h=>by have:=o6 r (n+1) i (by simpa[cO] using h);simp only[List.length_cons];omega
 |.own ok::r,n,i,h=>by
  simp only[cO]at h;simp only[List.length_cons];rcases abn.1 h with rfl|h
  ·omega
  ·have:=o6 r (n+1) i h;omega
theorem xW:∀(bs:List BK) (is:List Nat) (n i:Nat),(bs.all fun b=>decide (b.eg.length≤16))=true→i∈cG bs is n→i∈is∨(n≤i∧i<n+16*bs.length)
 |[],is,n,i,_,h=>by cases is<;>simp[cG]at h
 |b::r,[],n,i,_,h=>by simp[cG]at h
 |b::r,i0::is,n,i,hc,h=>by
  simp only[List.all_cons,Bool.and_eq_true,decide_eq_true_eq]at hc;simp only[cG]at h;simp only[List.length_cons];rcases abn.1 h with rfl|h
  ·exact .inl abu
  ·rcases abH.1 h with h|h
   ·have:=o6 _ _ _ h;exact .inr (by omega)
   ·rcases xW r is (n+16) i hc.2 h with h1|h1
    ·exact .inl (aa5 _ h1)
    ·exact .inr (by omega)
theorem km{bs:List BK}:∀(rs:List RK) (m i:Nat),sZ bs rs=true→i∈bK rs m→m≤i∧i<m+rs.length+16
 |[],m,i,_,h=>by simp[bK]at h
 |.own ok::r,m,i,hk,h=>by
  simp only[sZ,List.all_cons,Bool.and_eq_true]at hk;simp only[bK]at h;simp only[List.length_cons];rcases abn.1 h with rfl|h
  ·omega
  ·have:=km r (m+1) i hk.2 h;omega
 |.val _::r,m,i,hk,h=>by simp only[sZ,List.all_cons,Bool.and_eq_true]at hk;have:=km r (m+1) i hk.2 (by simpa[bK] using h);simp only[List.length_cons];omega
 |.fY _ _::r,m,i,hk,h=>by simp only[sZ,List.all_cons,Bool.and_eq_true]at hk;have:=km r (m+1) i hk.2 (by simpa[bK] using h);simp only[List.length_cons];omega
 |.agg c::r,m,i,hk,h=>by
  simp only[sZ,List.all_cons,Bool.and_eq_true,Gj,decide_eq_true_eq]at hk;simp only[bK]at h;simp only[List.length_cons];rcases abH.1 h with h|h
  ·have:=o6 c m i h;omega
  ·have:=km r (m+1) i hk.2 h;omega
theorem Bq{hh:Heap}:∀(bs:List BK) (is:List Nat) (i:Nat),is.length=bs.length→i∈is→i∈dE bs hh is
 |[],is,i,hl,h=>by cases is with
  |nil=>cases h
  |cons a r=>simp at hl
 |b::r,[],i,_,h=>by cases h
 |b::r,i0::is,i,hl,h=>by
  simp only[dE];rcases abn.1 h with rfl|h
  ·refine abt _ ?_
   cases b<;>simp[lB]
  ·exact abo _ (Bq r is i (by simpa using hl) h)
theorem Ul{α β:Type}:∀{a:List α} {b:List β},a.length=b.length→∀x∈a,∃y,(x,y)∈a.zip b∧(y,x)∈b.zip a
 |[],b,_,x,h=>by cases h
 |a::r,[],hl,x,_=>by simp at hl
 |a::r,c::q,hl,x,h=>by
  simp only[List.zip_cons_cons];rcases abn.1 h with rfl|h
  ·exact⟨c,abu,abu⟩
  ·obtain⟨y,h1,h2⟩:=Ul (a:=r) (b:=q) (by simpa using hl) x h;exact⟨y,aa5 _ h1,aa5 _ h2⟩
theorem wU:∀(eg:List CK) (n c:Nat),ig eg c=true→n+c∈cO eg n
 |[],n,c,h=>by simp[ig]at h
 |.own _::r,n,0,_=>by simp[cO]
 |.own _::r,n,c+1,h=>by simp only[ig]at h;have:=wU r (n+1) c h;simp only[cO];exact aa5 _ (by rwa [show n+(c+1)=n+1+c by omega])
 |.val _::r,n,0,h=>by simp[ig]at h
 |.val _::r,n,c+1,h=>by
  simp only[ig]at h;have:=wU r (n+1) c h;simp only[cO]
  rwa [show n+(c+1)=n+1+c by omega]
theorem Br:∀(bs:List BK) (is:List Nat) (n b i:Nat) (bk:BK),is.length=bs.length→bs[b]? = some bk→i∈cO bk.eg (n+16*b)→i∈cG bs is n
 |[],_,_,b,_,_,_,h,_=>by simp at h
 |_::_,[],_,_,_,_,hl,_,_=>by simp at hl
 |b0::r,i0::is,n,0,i,bk,hl,hb,hi=>by simp only[List.getElem?_cons_zero,Option.some.injEq]at hb;subst hb;simp only[cG];exact aa5 _ (abt _ (by simpa using hi))
 |b0::r,i0::is,n,b+1,i,bk,hl,hb,hi=>by
  simp only[List.getElem?_cons_succ]at hb;simp only[cG];refine aa5 _ (abo _ (Br r is (n+16) b i bk (by simpa using hl) hb ?_))
  rwa [show n+16+16*b=n+16*(b+1) by omega]
theorem lR{p:Nat→Prop}{bs:List BK}{is:List Nat}(hl:is.length=bs.length):∀(rs:List RK) (ids:List Nat) (n m:Nat) (y:nE rs),sZ bs rs=true→(∀i∈bK rs m,p i)→(∀i∈cG bs is n,p i)→aJ p (bh rs ids n m y)
 |[],_,_,_,_,_,_,_=>by simp only[bh,aJ]
 |.val k::r,ids,n,m,y,hr,h1,h2=>by simp only[sZ,List.all_cons,Bool.and_eq_true,Gj]at hr;simp only[bh,aJ];exact⟨qv p k y.1,lR hl r ids n (m+1) y.2 hr.2 (fun i hi=>h1 i hi) h2⟩
 |.own _::r,ids,n,m,y,hr,h1,h2=>by simp only[sZ,List.all_cons,Bool.and_eq_true,Gj]at hr;simp only[bh,aJ,aS];exact⟨h1 m (by simp[bK]),lR hl r ids n (m+1) y.2 hr.2 (fun i hi=>h1 i (by simp only[bK];exact aa5 _ hi)) h2⟩
 |.fY b alts::r,ids,n,m,y,hr,h1,h2=>by
  simp only[sZ,List.all_cons,Bool.and_eq_true,Gj]at hr;simp only[bh,aJ];refine⟨?_,lR hl r ids n (m+1) y.2 hr.2 (fun i hi=>h1 i hi) h2⟩
  cases hy:y.1 with
  |none=>simp only[xu,aS]
  |some p =>
   obtain⟨al,i⟩:=p;simp only[xu,aS]
   cases hb:bs[b]? with
   |none=>rw[hb]at hr;exact absurd hr.1 (by simp)
   |some bk =>rw[hb]at hr;simp only[Bool.and_eq_true]at hr;exact h2 _ (Br bs is n b _ bk hl hb (wU bk.eg (n+16*b) _ (acQ.1 hr.1.1 _ (List.get_mem alts al))))
 |.agg c::r,ids,n,m,y,hr,h1,h2=>by simp only[sZ,List.all_cons,Bool.and_eq_true,Gj]at hr;simp only[bh,aJ,aS];refine⟨lE c m y.1 fun e he=>h1 _ ?_,lR hl r ids n (m+1) y.2 hr.2 (fun i hi=>h1 i (by simp only[bK];exact abo _ hi)) h2⟩;simp only[bK];have e1:(bq c m y.1).map (·.1)=cO c m:=jr c m y.1;exact abt _ (e1▸abY.2 ⟨e,he,rfl⟩)
theorem NI{p:Nat→Prop}{vs:List AV}(h:aJ p vs):aS p (gu vs):=by
 match vs,h with
 |[],h=>simp only[gu,aS];exact h
 |[v],h=>simp only[gu];simp only[aJ]at h;exact h.1
 |_::_::_,h=>simp only[gu,aS];exact h
def jM(P:Program)(f:FuncId)(u:Heap→Nat→List AV→Option (Bool×bZ)):Prop :=∀{Z:Nat→Prop} {ψ:Nat→Value} {h:Hp} {w:World} {B0:Nat} {O N:Nat→Prop} {hh:Heap} {id:Nat} {e:bZ} {vs:List AV} {us:List Value},Good Z ψ h w B0 O→B0≤w.heap.size→(∀id o,hh.get id=some o→h id=some o)→(∀j,j<256→N (id+j))→(∀i ty cs,h i=some (.box ty cs)→aJ (fun i=>¬N i) cs)→(∀v hw,e=.wr v hw→hh.get=h) → ax Z ψ h w vs us→aJ (fun i=>¬N i) vs→u hh id vs=some (true,e) → Calls P f us.toArray w fun en w'=>∃V Z' ψ',en=.returned V∧Next Z ψ h w B0 O N Z' ψ' (e.hp h) w'∧aD Z' ψ' (e.hp h) w' e.v V
theorem YI{R:Type}{n:Nat}(a:Fin n)(f:Fin n→Option R):ad1 n a f=f a:=by
 have key:∀l:List (Fin n),a∈l→l.foldr (fun j r=>cond (a.val==j.val) (f j) r) none=f a:=by
  intro l
  induction l with
  |nil=>intro h;cases h
  |cons j r ih =>
   intro h;simp only[List.foldr_cons];by_cases e:a=j
   ·subst e;simp
   ·have:(a.val==j.val)=false:=by simp only[beq_eq_false_iff_ne,ne_eq];exact fun h=>e (Fin.ext h)
    rw[this,cond_false];rcases abn.1 h with h|h
    ·exact absurd h e
    ·exact ih h
 exact key _ (List.mem_finRange a)
theorem jW{R:Type}:∀(rs:List RK) (x:nE rs) (K:nE rs→Option R),kR rs x K=K x
 |[],_,_=>rfl
 |.val _::r,x,K=>by simp only[kR];rw[jW r x.2];rfl
 |.own _::r,x,K=>by simp only[kR];rw[jW r x.2];rfl
 |.agg _::r,x,K=>by simp only[kR];rw[jW r x.2];rfl
 |.fY _ alts::r,x,K=>by
  simp only[kR];obtain⟨x1,x2⟩:=x
  cases x1 with
  |none=>simp only[s5];rw[jW r x2]
  |some p=>simp only[s5];rw[YI,jW r x2]
theorem NJ(hX:∀f g u,Sg f=some g→g.x=some u→jM P (f%1000) u)(hF:∀f g x y,Sg f=some g→F f g x=some y→Hd P f g x y)(RH:∀f g,Sg f=some g→kj P (f%1000)) {hh:Heap} {ρC:Operand→Value} {o:Oper} (g:Good Z ψ h w B0 O) (hB:B0≤w.heap.size) (bL:∀id o,hh.get id=some o→h id=some o) {id:Nat} (hN:∀j,j<256→N (id+j)) {e:bZ} (bD:∀i ty cs,h i=some (.box ty cs)→aJ (fun i=>¬N i) cs) (nc:∀v hw,e=.wr v hw→hh.get=h) {f:FuncId} {cap vs:List AV} {fv:Value} {us:List Value} (RI:aD Z ψ h w (.fn f cap) fv) (wD:ax Z ψ h w vs us) (II:aJ (fun i=>¬N i) (vs++cap)) (hex:∀(ws:Array Value),fv=.func (.func f) #[] ws→execOp ρC o=callFunc f (us.toArray++ws)) (he:kf Sg F hh id f (vs++cap) some=some e):aaC P ρC o Z ψ h w B0 O N e:=by
 unfold kf at he
 split at he
 ·cases he
 rename_i gg hSg;simp only[aD]at RI;obtain⟨ws,rfl,Um⟩:=RI;have Hf:=RH _ _ hSg;have mH:ax Z ψ h w (vs++cap) (us++ws.toList):=ax.append wD Um;have IP:ax Z ψ hh.get w (vs++cap) (us++ws.toList):=mH.sL bL;have gs:Good Z ψ hh.get w B0 O:=g.sub bL;have Un:us.toArray++ws=(us++ws.toList).toArray:=by simp
 split at he
 ·rename_i u hu
  split at he
  ·rename_i hf;obtain⟨⟨b,e'⟩,he1,X5⟩:=acR.1 he
   cases b with
   |false=>cases X5
   |true =>
   cases X5
   have KH:keyOf Sg f (vs++cap)%1000=f:=by rw[zT];exact ad2 hf
   have hx:jM P f u:=by rw[←KH];exact hX _ _ _ hSg hu
   rw[KH]at Hf;refine⟨f,us.toArray++ws,by rw[hex ws rfl];exact kl Hf _,?_⟩;rw[Un];exact hx g hB bL hN bD nc mH II he1
  ·cases he
 split at he
 ·rename_i i0 vu IQ
  split at he
  ·rename_i RJ;simp only[Bool.and_eq_true,List.isEmpty_iff]at RJ;obtain⟨rfl,_⟩:=RJ
   split at he
   rotate_left
   ·cases he
   rename_i x b hx hb tn;obtain⟨y,hy,he⟩:=acR.1 he;simp only[TT,Bool.and_eq_true,decide_eq_true_eq]at IQ;obtain⟨_,_,⟨hlen,hf⟩,_⟩:=IQ;have Gs:=(hF _ _ _ _ hSg hy).zero (KF hb);have KH:keyOf Sg f (vs++cap)%1000=f:=by rw[zT];exact ad2 hf
   rw[KH]at Hf;have hN':∀j,j<gg.rs.length+16→N (id+128+j):=fun j hj=>by rw[Nat.add_assoc];exact hN _ (by omega)
   refine⟨f,us.toArray++ws,by rw[hex ws rfl];exact kl Hf _,?_⟩;rw[Un];unfold aef at Gs;rw[KH]at Gs;by_cases sM:sY (vs++cap)=true
   ·rw[sM,Bool.or_true]at he
    cases he
    have h1:ax Z Nb iy w (G8 gg x) (us++ws.toList):=DG gs (fun _ h=>h) gg.ps 0 _ _ x (fun v hv i b hi _ _=>(tu sM v hv i hi).elim) vu hx IP;refine(Gs Z w _ g.kT h1).mono fun en w' ⟨v,Z',ψ',e1,h2,h3,h4,h5,h6⟩=>?_;obtain⟨wT,n,hr⟩:=zU (nb:=id) tn g hB bD hN' h4 h2 h3 h5 h6;exact⟨v,Z',wT,e1,n,hr⟩
   ·cases hfl:gg.rs.all RK.flat with
    |true =>
     rw[hfl,Bool.true_or]at he
     cases he
     let Zc:Nat→Prop:=fun b=>b<w.heap.size
     have h1:ax Zc Nb iy w (G8 gg x) (us++ws.toList):=DG gs g.kT gg.ps 0 _ _ x (fun v hv i b hi h1 h2=>gs.ck ⟨i,h1,h2⟩) vu hx IP;refine(Gs Zc w _ (fun _ h=>h) h1).mono fun en w' ⟨v,Z',ψ',e1,h2,h3,h4,h5,h6⟩=>?_;have aeq:=RA gg.rs 3000 y.1 hfl tn;have h7:aD Z ψ' (aq gg.rs 3000 y.1).get w' (gu (bh gg.rs [] 2000 3000 y.1)) v:=wO rfl (fun vs wD=>Uf gg.rs hfl tn wD) h6;have gz:Good Z ψ' (aq gg.rs 3000 y.1).get w' w.heap.size (fun _=>False):=by rw[aeq];exact⟨fun _ _ _ hb=>by simp[Heap.get]at hb,fun _ _ _ hb=>by simp[Heap.get]at hb,fun _ _ hb=>by simp[Heap.get]at hb,fun _ _ _ hb=>by simp[Heap.get]at hb,fun b hb=>adB (g.kT b hb) h4.size⟩
     obtain⟨wT,n,hr⟩:=zU (nb:=id) tn g hB bD hN' h4 (fun _ h=>h) (fun _ h=>.inl h) gz h7;exact⟨v,Z,wT,e1,n,hr⟩
    |false =>
     rw[hfl,Bool.false_or,Bool.eq_false_iff.2 sM]at he
     cases he
     have heq:=nc _ _ rfl;subst heq
     let cs:=dW gg.ps (vs++cap)
     have Yw:∀b,sS Z ψ hh.get cs b→Z b∨Own ψ hh.get b:=fun b hb=>hb.imp (fun h=>h) (fun⟨i,_,h2,h3⟩=>⟨i,h2,h3⟩);have gd:Good (sS Z ψ hh.get cs) ψ (di hh cs).get w B0 O:=jK g cs;have h1:ax (sS Z ψ hh.get cs) Nb iy w (G8 gg x) (us++ws.toList) :=DG gs (fun _ h=>.inl h) gg.ps 0 _ _ x (fun v hv i b hi h1 h2=>.inr ⟨i,xT _ _ vu v hv i hi,h1,h2⟩) vu hx IP;refine(Gs _ w _ gd.kT h1).mono fun en w' ⟨v,Z',ψ',e1,h2,h3,h4,h5,h6⟩=>?_;obtain⟨wT,n,hr⟩:=zU (nb:=id) tn gd hB (fun i ty cs hb=>bD i ty cs (fD _ _ _ _ hb)) hN' h4 h2 h3 h5 h6;have e2:(bZ.wr (gu (bh gg.rs [] id (id+128) y.1)) (aq gg.rs (id+128) y.1++di hh (dW gg.ps (vs++cap)))).hp hh.get=(fun i=>match (aq gg.rs (id+128) y.1).get i with|some o=>some o|none=>(di hh cs).get i):=by
      funext i;simp only[bZ.hp];rw[Heap.get_append]
      cases (aq gg.rs (id+128) y.1).get i<;>rfl
     rw[e2];exact⟨v,Z',wT,e1,n.drop (fun _ h=>.inl h) Yw (fD _ _),hr⟩
  ·split at he
   rotate_left
   ·cases he
   rename_i x b hx hb Gt;obtain⟨y,hy,he⟩:=acR.1 he;rw[jW]at he
   cases he
   have heq:=nc _ _ rfl;subst heq;simp only[TT,Bool.and_eq_true,decide_eq_true_eq]at IQ;obtain⟨Yc,⟨hbl,vv⟩,⟨hlen,hf⟩,xV⟩:=IQ;rw[Bool.and_eq_true]at Gt;have Gs:=hF _ _ _ _ hSg hy;have KH:keyOf Sg f (vs++cap)%1000=f:=by rw[zT];exact ad2 hf
   rw[KH]at Hf;refine⟨f,us.toArray++ws,by rw[hex ws rfl];exact kl Hf _,?_⟩;rw[Un];unfold Hd at Gs;rw[KH]at Gs;have hl:i0.length=gg.bs.length:=(ki _ _ _ hb).1;have DO:=(ki _ _ _ hb).2;have hle:(aZ gg.bs.length).length=gg.bs.length:=by simp[aZ]
   let mv:=dW gg.ps (vs++cap)++iq gg.bs hh i0
   let L1:List Bh:=cZ gg.bs hh i0 (aZ gg.bs.length) 2000 b
   have eH1:eO L1=bJ gg.bs (aZ gg.bs.length) 2000 b:=kh _ _ _ _ _ _ hb hle;have eN1:L1.map (·.1)=cG gg.bs (aZ gg.bs.length) 2000:=jn _ _ _ _ _ _ hb hle;have eS1:L1.filterMap (·.2.1)=dE gg.bs hh i0:=lN _ _ _ _ _ _ hb hle;have hn1:cI (L1.map (·.1))=true:=by rw[eN1];exact KG xV
   have abQ:=Co (ψ:=ψ) hn1;have He:=(uN Gt.1).2 hh;have Bc:∀b,Z b→sS Z ψ hh.get mv b:=fun b hb=>.inl hb;have aer:∀e∈L1,xR (sS Z ψ hh.get mv) ψ (di hh mv).get w (eO L1).get (fZ ψ L1) e:=fun e he =>nO gs Bc gg.bs _ _ 2000 b hb (fun i b bV h1 h2=>.inr ⟨i,abo _ bV,h1,h2⟩) He abQ e he;have gin:Good (sS Z ψ hh.get mv) (fZ ψ L1) (eO L1).get w B0 O:=zR gs Gt.1 hn1 eS1 aer;have ein:(eO L1).get=rI gg (x,b):=by rw[eH1];rfl
   have Uo:∀p∈i0.zip (aZ gg.bs.length),(p.2,some p.1)∈L1.map (fun e=>(e.1,e.2.1)):=fun p hp=>by obtain⟨o,ho⟩:=lO (hh:=hh) gg.bs i0 (aZ gg.bs.length) 2000 b hl p hp;exact abY.2 ⟨_,ho,rfl⟩
   have aes:∀p∈i0.zip (aZ gg.bs.length),fZ ψ L1 p.2=ψ p.1:=fun p hp=>by
    obtain⟨⟨i,s,o⟩,ho,he⟩:=abY.1 (Uo p hp)
    cases he
    exact jU hn1 ho
   have abV:ax (sS Z ψ hh.get mv) (fZ ψ L1) (eO L1).get w (IL gg (x,b)) (us++ws.toList) :=ng gs Bc gg.ps i0 (aZ gg.bs.length) 0 _ _ x (by rw[hle,hl]) vu hx (fun i b bV h1 h2=>.inr ⟨i,abt _ bV,h1,h2⟩) (fun p hp=>⟨DO _ (List.of_mem_zip hp).1,fun _=>aes p hp⟩) IP;have wF:∀c,Own (fZ ψ L1) (rI gg (x,b)) c→∃s,s∈dE gg.bs hh i0∧hh.get s≠none∧ob (ψ s)=some c:=fun c ⟨i,h1,h2⟩=>by
    rw[←ein]at h1;obtain⟨o,ho⟩:=abT.1 h1;obtain⟨s,hm⟩:=qu ho;rw[jU hn1 hm]at h2
    cases s with
    |none=>simp[kW,ob]at h2
    |some s =>
     have hs:s∈dE gg.bs hh i0:=by rw[←eS1];exact ad9.2 ⟨_,hm,rfl⟩
     refine⟨s,hs,?_,h2⟩;have h3:=aer _ hm;rw[←He s hs]
     cases o with
     |box ty cs=>obtain⟨⟨cs0,h4⟩,_⟩:=h3;rw[h4];simp
     |own ok xs=>rw[show(di hh mv).get s=some (.own ok xs) from h3];simp
   refine(Gs (sS Z ψ hh.get mv) (fZ ψ L1) w (us++ws.toList) (by rw[←ein];exact gin.IN _) (by rw[←ein];exact abV)).mono fun en w' ⟨v,Z',fz,e1,h2,h3,h4,h5,h6,h7⟩=>?_;obtain⟨L2,eH2,eN2,g3,hzz,abW⟩:=RF (x:=(x,b)) (y:=y) (id:=id) hl Yc xV Gt.2 h5 h7;have Ct:∀i ty cs,(eO L2).get i=some (.box ty cs)→aJ (fun j=>(eO L2).get j≠none) cs:=fun i ty cs hg=>by
    have iz:=get_mem hg;rw[eH2]at iz;rcases abH.1 iz with iz|iz
    ·exact vO gg.bs _ id y.2 (fun e he=>by rw[eH2];exact Cu (o:=e.2) (abt _ he)) i ty cs iz
    ·exfalso;have:∀(rs:List RK) (m:Nat) (y:nE rs),(i,Ob.box ty cs)∉aq rs m y:=by
      intro rs
      induction rs with
      |nil=>intro m y;simp[aq]
      |cons r rs ih =>
       intro m y
       cases r with
       |agg c=>simp only[aq,List.mem_append,not_or];exact⟨o5 _ _ _ _ _ _,ih (m+1) y.2⟩
       |val k=>exact ih (m+1) y.2
       |fY _ _=>exact ih (m+1) y.2
       |own ok=>simp only[aq,List.mem_cons,not_or];exact⟨by simp,ih (m+1) y.2⟩
     exact this _ _ _ iz
   have aeu:∀i,(eO L2).get i≠none→(i∈dE gg.bs hh i0∧hh.get i≠none∧fZ fz L2 i=ψ i)∨N i:=fun i hi=>by
    obtain⟨o,ho⟩:=abT.1 hi;obtain⟨s,hm⟩:=qu ho;have iz:i∈cG gg.bs i0 id++bK gg.rs (id+128):=by rw[←eN2];exact abY.2 ⟨_,hm,rfl⟩
    have hNr:∀i,id≤i→i<id+256→N i:=fun i h1 h2=>by
     have:=hN (i-id) (by omega)
     rwa [show id+(i-id)=i by omega]at this
    rcases abH.1 iz with iz|iz
    ·rcases xW _ _ _ _ vv iz with h8|h8
     ·refine .inl ⟨Bq _ _ _ hl h8,DO i h8,?_⟩;obtain⟨ee,h9,oI⟩:=Ul (by rw[hle,hl]) i h8;rw[hzz (ee,i) oI];have B2:ee∈aZ gg.bs.length:=(List.of_mem_zip oI).1;rw[h6 ee B2];exact aes (i,ee) h9
     ·exact .inr (hNr i h8.1 (by omega))
    ·have h8:=km _ _ _ Yc iz;exact .inr (hNr i (by omega) (by omega))
   obtain⟨DN,h8,nx⟩:=RG (N:=N) gs hB He bD wF h2 h3 h4 g3 Ct aeu;have eH3:(bZ.wr (gu (bh gg.rs i0 id (id+128) y.1)) (bJ gg.bs i0 id y.2++(aq gg.rs (id+128) y.1++jl (di hh (dW gg.ps (vs++cap)++iq gg.bs hh i0)) (dE gg.bs hh i0)))).hp hh.get =(eO L2++jl (di hh mv) (dE gg.bs hh i0)).get:=by rw[eH2,List.append_assoc];rfl
   rw[eH3];refine⟨v,Z',DN,e1,nx,?_⟩;refine abW.move (p:=fun j=>(eO L2).get j≠none) (fun _ h=>h) (cW.refl _ _) (fun j hp _=>⟨hp,h8 j hp⟩) ?_;refine NI (lR hl gg.rs _ id (id+128) y.1 Yc (fun i hi=>?_) fun i hi=>?_)
   ·rw[←gY gg.rs (id+128) y.1]at hi;obtain⟨e,he,rfl⟩:=abY.1 hi;rw[eH2];exact Cu (o:=e.2) (abo _ he)
   ·rw[←nT gg.bs i0 id y.2 hl]at hi;obtain⟨e,he,rfl⟩:=abY.1 hi;rw[eH2];exact Cu (o:=e.2) (abt _ he)
 ·cases he
end Go.Vs
namespace Go.Vs
variable {P:Program} {Eqs:TypeId→Option K} {Sg:FuncId→Option aX} {F:(f:FuncId)→(g:aX)→g.A→Option g.B} {R:Type} {k:bZ→Option R}
theorem ct{c:Bool}{e:bZ}:cond c (k e) none=(cond c (some e) none).bind k:=by cases c<;>rfl
theorem b7{c:Bool}{e:bZ}:cond c none (k e)=(cond c none (some e)).bind k:=by cases c<;>rfl
theorem b8{c:Bool}{e e':bZ}:cond c (k e) (k e')=(cond c (some e) (some e')).bind k:=by cases c<;>rfl
theorem cv{α:Type}(o:Option α)(f:α→Option R)(g:α→Option bZ)(h:∀x,f x=(g x).bind k):o.bind f=(o.bind g).bind k:=by cases o with
 |none=>rfl
 |some x=>exact h x
theorem NK{h:Heap}{id:Nat}{t:TypeId}{s x:AV}:qj P h id t s x k=(qj P h id t s x some).bind k:=by unfold qj;repeat' (first|rfl|exact ct|exact b7 | exact b8|(refine cv _ _ _ (fun _=>?_))|split)
theorem RL{h:Heap}{t:TypeId}{s x:AV}:ux P h t s x k=(ux P h t s x some).bind k:=by unfold ux;repeat' (first|rfl|exact ct|exact b7 | exact b8|(refine cv _ _ _ (fun _=>?_))|split)
theorem Up{h:Heap}{t:TypeId}{s:AV}:nF P h t s k=(nF P h t s some).bind k:=by unfold nF;repeat' (first|rfl|exact ct|exact b7 | exact b8|(refine cv _ _ _ (fun _=>?_))|split)
theorem Gu{h:Heap}{t:TypeId}{s x:AV}:eI P h t s x k=(eI P h t s x some).bind k:=by unfold eI;repeat' (first|rfl|exact ct|exact b7 | exact b8|(refine cv _ _ _ (fun _=>?_))|split)
theorem Uq{x:AV}{lo hi mx:Option AV}:zy x lo hi mx k=(zy x lo hi mx some).bind k:=by unfold zy;repeat' (first|rfl|exact ct|exact b7 | exact b8|(refine cv _ _ _ (fun _=>?_))|split)
theorem RM{h:Heap}{sz:Nat}{x:AV}{lo hi mx:Option AV}:rj h sz x lo hi mx k=(rj h sz x lo hi mx some).bind k:=by unfold rj;repeat' (first|rfl|exact ct|exact b7 | exact b8|(refine cv _ _ _ (fun _=>?_))|split)
theorem YJ{h:Heap}{x:AV}:GU h x k=(GU h x some).bind k:=by unfold GU;repeat' (first|rfl|exact ct|exact b7 | exact b8|(refine cv _ _ _ (fun _=>?_))|split)
theorem YK{op:BinOp}{t:TypeId}{x y:AV}:A2 P Eqs op t x y k=(A2 P Eqs op t x y some).bind k:=by unfold A2;repeat' (first|rfl|exact ct|exact b7 | exact b8|(refine cv _ _ _ (fun _=>?_))|split)
theorem KI(rs:List RK)(x:nE rs)(f:nE rs→Option R)(g:nE rs→Option bZ)(h:∀z,f z=(g z).bind k):kR rs x f=(kR rs x g).bind k:=by rw[jW,jW];exact h x
theorem Ur{h:Heap}{id:Nat}{f:FuncId}{vs:List AV}:kf Sg F h id f vs k=(kf Sg F h id f vs some).bind k:=by unfold kf;repeat' (first|rfl|exact ct|exact b7 | exact b8|(refine cv _ _ _ (fun _=>?_))|(refine KI _ _ _ _ (fun _=>?_))|split)
theorem Us{id:Nat}{t:TypeId}{vs:List AV}:zG id t vs k=(zG id t vs some).bind k:=rfl
theorem RN{t:TypeId}{ps:List (Nat×AV)}:uA P t ps k=(uA P t ps some).bind k:=by unfold uA;repeat' (first|rfl|exact ct|exact b7 | exact b8|(refine cv _ _ _ (fun _=>?_))|split)
theorem IS{h:Heap}{id:Nat}{t:TypeId}{n:Nat}{ps:List (Nat×AV)}:xw P h id t n ps k=(xw P h id t n ps some).bind k:=by unfold xw;repeat' (first|rfl|exact ct|exact b7 | exact b8|(refine cv _ _ _ (fun _=>?_))|split)
theorem Ut{mv:Bool}{h:Heap}{id:Nat}{t:TypeId}{n:Nat}{ps:List (Nat×AV)}:zH P mv h id t n ps k=(zH P mv h id t n ps some).bind k:=by unfold zH;rw[IS,IS (k:=fun e=>some (if mv then Yq e else e)),Option.bind_assoc];rfl
theorem Uu{s d:TypeId}{x:AV}:C8 P s d x k=(C8 P s d x some).bind k:=by unfold C8;repeat' (first|rfl|exact ct|exact b7 | exact b8|(refine cv _ _ _ (fun _=>?_))|split)
theorem abX{b:Bool}{vs:List AV}:Rf b vs k=(Rf b vs some).bind k:=by unfold Rf;repeat' (first|rfl|exact ct|exact b7 | exact b8|(refine cv _ _ _ (fun _=>?_))|split)
theorem Uv{h:Heap}{x:AV}:zz h x k=(zz h x some).bind k:=by unfold zz;repeat' (first|rfl|exact ct|exact b7 | exact b8|(refine cv _ _ _ (fun _=>?_))|split)
theorem KJ{id:Nat}{t:TypeId}:mZ P Eqs id t k=(mZ P Eqs id t some).bind k:=by unfold mZ;repeat' (first|rfl|exact ct|exact b7 | exact b8|(refine cv _ _ _ (fun _=>?_))|split)
theorem NL{h:Heap}{t:TypeId}{m i:AV}{ok:Bool}:qk P Eqs h t m i ok k=(qk P Eqs h t m i ok some).bind k:=by unfold qk;repeat' (first|rfl|exact ct|exact b7 | exact b8|(refine cv _ _ _ (fun _=>?_))|split)
theorem NM{h:Heap}{t:TypeId}{m i v:AV}:jT P Eqs h t m i v k=(jT P Eqs h t m i v some).bind k:=by unfold jT;repeat' (first|rfl|exact ct|exact b7 | exact b8|(refine cv _ _ _ (fun _=>?_))|split)
theorem NO{h:Heap}{t:TypeId}{m i:AV}:ql P Eqs h t m i k=(ql P Eqs h t m i some).bind k:=by unfold ql;repeat' (first|rfl|exact ct|exact b7 | exact b8|(refine cv _ _ _ (fun _=>?_))|split)
theorem NP{id:Nat}{t:TypeId}{x:AV}:qm P id t x k=(qm P id t x some).bind k:=by unfold qm;repeat' (first|rfl|exact ct|exact b7 | exact b8|(refine cv _ _ _ (fun _=>?_))|split)
theorem RO{h:Heap}{x:AV}:uy h x k=(uy h x some).bind k:=by unfold uy;repeat' (first|rfl|exact ct|exact b7 | exact b8|(refine cv _ _ _ (fun _=>?_))|split)
theorem RP{h:Heap}{x:AV}:uz h x k=(uz h x some).bind k:=by unfold uz;repeat' (first|rfl|exact ct|exact b7 | exact b8|(refine cv _ _ _ (fun _=>?_))|split)
theorem nh{id:Nat}{h:Heap}{s:List (Nat×AV)}{o:Oper}:dy P Eqs Sg F id h s o k=(dy P Eqs Sg F id h s o some).bind k:=by
 obtain⟨dst,op,type,pos,after,guard⟩:=o
 cases op<;>simp only[dy] <;>
  repeat' (first|rfl|exact Ut|exact NK|exact RL|exact Up|exact Gu|exact Uq|exact RM|exact YJ|exact YK|exact Ur|exact Us|exact RN|exact IS|exact Uu|exact abX|exact Uv|exact KJ|exact NL|exact NM|exact NO|exact NP|exact RO|exact RP|exact ct|(refine cv _ _ _ (fun _=>?_))|split)
theorem RQ{id:Nat}{h h':Heap}{s:List (Nat×AV)}{o:Oper}(hf:pJ o.op=true):dy P Eqs Sg F id h s o k=dy P Eqs Sg F id h' s o k:=by
 obtain⟨dst,op,type,pos,after,guard⟩:=o
 cases op<;>simp[pJ]at hf<;>first|rfl|(rename_i u _ _;cases u<;>rfl)
theorem YL{op:BinOp}{t:TypeId}{x y:AV}{e:bZ}(he:A2 P Eqs op t x y some=some e):∃v,e=.val v:=by
 unfold A2 at he
 repeat' (first|(cases he;done)|exact⟨_,(abK he).symm⟩|split at he)
 all_goals
  unfold cond at he
  split at he<;>first|(cases he;done)|exact⟨_,(abK he).symm⟩
theorem KK{id:Nat}{h:Heap}{s:List (Nat×AV)}{o:Oper}{e:bZ}(hf:pJ o.op=true)(he:dy P Eqs Sg F id h s o some=some e):∃v,e=.val v:=by
 obtain⟨dst,op,type,pos,after,guard⟩:=o
 cases op<;>simp only[pJ]at hf<;>first|(cases hf;done)|skip
 case unOp u t x =>
  cases u<;>simp only[dy]at he<;>repeat' (first|(cases he;done)|exact⟨_,(abK he).symm⟩|split at he)
 case makeFunc fn first cap =>
  cases fn<;>simp only[dy]at he<;>repeat' (first|(cases he;done)|exact⟨_,(abK he).symm⟩|split at he)
 all_goals simp only[dy]at he
 case binOp=>exact YL he
 case slice =>
  repeat' (first|(cases he;done)|split at he)
  all_goals
   first|unfold zy at he|unfold rj at he
   repeat' (first|(cases he;done)|exact⟨_,(abK he).symm⟩|split at he)
   all_goals
    unfold cond at he
    split at he<;>first|(cases he;done)|exact⟨_,(abK he).symm⟩
 case build =>
  unfold uA at he
  repeat' (first|(cases he;done)|exact⟨_,(abK he).symm⟩|split at he)
 all_goals
  repeat' (first|(cases he;done)|exact⟨_,(abK he).symm⟩|split at he)
end Go.Vs
namespace Go.Vs
variable {P:Program} {Eqs:TypeId→Option K} {Sg:FuncId→Option aX} {F:(f:FuncId)→(g:aX)→g.A→Option g.B} {R:Type}
variable {Z Z' Z0:Nat→Prop} {ψ ψ' ψ0:Nat→Value} {h h':Hp} {w w' w0:World} {B0:Nat} {O N:Nat→Prop}
structure Env(P:Program)(Eqs:TypeId→Option K)(Sg:FuncId→Option aX)(F:(f:FuncId)→(g:aX)→g.A→Option g.B):Prop where
 eqs:∀t k,Eqs t=some k→nK P t k
 con:∀f g x y,Sg f=some g→F f g x=some y→Hd P f g x y
 spec:∀f g u,Sg f=some g→g.x=some u→jM P (f%1000) u
 KM:∀f g,Sg f=some g→kj P (f%1000)
theorem KN{s:List (Nat×AV)}{ρC:Operand→Value}:∀(l:List Operand),(∀x∈l,aD Z ψ h w (ρ s x) (ρC x))→ax Z ψ h w (l.map (ρ s)) (l.map ρC)
 |[],_=>by simp[ax]
 |x::r,hx=>by simp only[List.map_cons,ax];exact⟨_,_,rfl,hx x abu,KN r fun y hy=>hx y (aa5 _ hy)⟩
theorem Hg{s:List (Nat×AV)}{p:Nat→Prop}:∀(l:List Operand),(∀x∈l,aS p (ρ s x))→aJ p (l.map (ρ s))
 |[],_=>by simp[aJ]
 |x::r,hx=>by simp only[List.map_cons,aJ];exact⟨hx x abu,Hg r fun y hy=>hx y (aa5 _ hy)⟩
theorem aaF(E:Env P Eqs Sg F){hh:Heap}{a:Act}{s:List (Nat×AV)}{o:Oper}(g:Good Z ψ h w B0 O)(hB:B0≤w.heap.size)(bL:∀id o,hh.get id=some o→h id=some o){id:Nat}(hN:makes o.op=true→∀j,j<256→N (id+j)){e:bZ} (qe:∀x∈o.op.operands,aD Z ψ h w (ρ s x) (a.eval x)) (hm:∀x∈o.op.operands,aS (fun i=>¬N i) (ρ s x)) (bD:∀i ty cs,h i=some (.box ty cs)→aJ (fun i=>¬N i) cs) (nc:∀v hw,e=.wr v hw→hh.get=h) (he:dy P Eqs Sg F id hh s o some=some e) {next:Act→World→Prop} {Q:Exit→Act→World→Prop} (hk:∀V w' Z' ψ',Next Z ψ h w B0 O N Z' ψ' (e.hp h) w'→aD Z' ψ' (e.hp h) w' e.v V→next (a.put o.dst V) w'):o.wp P a w next Q:=by
 have d:jm P a.eval o Z ψ h w B0 O N e∨aaC P a.eval o Z ψ h w B0 O N e:=by
  cases Na:xQ o with
  |false=>exact .inl (Ub E.eqs g hB bL (fun hm=>by simpa using hN hm 0 (by decide)) qe hm bD nc Na he)
  |true =>
   refine .inr ?_;obtain⟨dst,op,type,pos,after,guard⟩:=o
   cases op<;>simp[xQ]at Na
   rename_i c;obtain⟨callee,args,argTypes⟩:=c
   cases callee<;>simp at Na
   rename_i fo;simp only[dy]at he
   split at he
   ·rename_i f cap hf;simp only[Op.operands,Call.operands]at qe;have h1:=qe fo (by simp);rw[hf]at h1;have h2:ax Z ψ h w (args.toList.map (ρ s)) (args.toList.map a.eval):=KN _ fun x hx=>qe x (by simp;exact .inr (by simpa using hx));have hmf:=hm fo (by simp[Op.operands,Call.operands]);rw[hf]at hmf;simp only[aS]at hmf;have hma:aJ (fun i=>¬N i) (args.toList.map (ρ s)):=Hg _ fun x hx=>hm x (by simp[Op.operands,Call.operands];exact .inr (by simpa using hx));refine NJ E.spec E.con E.KM g hB bL (hN rfl) bD nc h1 h2 (rK hma hmf) (fun ws Um=>?_) he;simp only[execOp,resolve,Um,Deferred.ofValue];simp only[pure_bind,invoke];congr 1;apply Array.ext';simp
   ·cases he
 unfold Oper.wp;rcases d with⟨V,w',Z',ψ',h1,h2,h3⟩|⟨f,args,h1,h2⟩
 ·rcases h1 with h1|⟨h1,rfl⟩
  ·rw[h1];exact hk V w' Z' ψ' h2 h3
  ·rw[h1];exact hk undef w' Z' ψ' h2 h3
 ·rw[h1,Oper.upon_enter];refine h2.mono fun en w' ⟨V,Z',ψ',e1,n,hr⟩=>?_;subst e1;exact hk V w' Z' ψ' n hr
structure Ok(Z0:Nat→Prop)(w0:World)(O:Nat→Prop)(ψ0:Nat→Value)(Z:Nat→Prop)(ψ:Nat→Value)(h:Hp)(w:World):Prop where
 fq:Good Z ψ h w w0.heap.size O
 g9:∀b,Z0 b→Z b
 fS:∀b,Z b→Z0 b∨O b∨w0.heap.size≤b
 os:w.os=w0.os
 tape:w.tape=w0.tape
 output:w.output=w0.output
 size:w0.heap.size≤w.heap.size
 block:∀b,b<w0.heap.size→¬O b→w.heap[b]? = w0.heap[b]?
 fix:∀i,i<2000→h i≠none→ψ i=ψ0 i
theorem Ok.next(k:Ok Z0 w0 O ψ0 Z ψ h w)(hN:∀id,N id→2000≤id)(n:Next Z ψ h w w0.heap.size O N Z' ψ' h' w'):Ok Z0 w0 O ψ0 Z' ψ' h' w':=by
 have own:∀b,Own ψ h b→w0.heap.size≤b∨O b:=fun b ⟨id,h1,h2⟩=>(k.fq.live id b h1 h2).2;refine⟨n.fq,fun b hb=>n.g9 b (k.g9 b hb),fun b hb=>?_,n.keep.os.trans k.os,n.keep.tape.trans k.tape,n.keep.output.trans k.output,acH k.size n.keep.size,fun b hb ho=>?_,fun i hi bp=>?_⟩
 ·rcases n.fS b hb with h1|h1|h1
  ·exact k.fS b h1
  ·exact .inr (own b h1).symm
  ·exact .inr (.inr (acH k.size h1))
 ·rw[n.keep.block b (Nat.lt_of_lt_of_le hb k.size) (fun h1=>(own b h1).elim (fun h2=>by omega) ho)];exact k.block b hb ho
 ·rcases n.ids i bp with⟨h1,h2⟩|h1
  ·rw[h2];exact k.fix i hi h1
  ·have:=hN i h1;omega
structure dq(Z:Nat→Prop)(ψ:Nat→Value)(h:Hp)(w:World)(n:Nat)(T:Nat→AV)(a:Act):Prop where
 rep:∀d,aD Z ψ h w (T d) (a.tmps.getD d undef)
 size:a.tmps.size=n
 defers:a.defers=[]
theorem RR:aD Z ψ h w (.pH []) undef:=by simp only[aD,ax];exact⟨#[],rfl,rfl⟩
def j9(T:Nat→AV)(d:Option Tmp)(v:AV):Nat→AV:=match d with
 |some d=>fE T d v
 |none=>T
theorem js(st:St)(d:Option Tmp)(v:AV):look (st.put d v).tmps=j9 (look st.tmps) d v:=by
 cases d with
 |none=>rfl
 |some d =>
  funext i;simp only[St.put,look,j9,fE];by_cases e:i=d
  ·subst e;simp
  ·rw[if_neg (fun x=>e x.symm),if_neg e]
theorem dJ(st:St)(d:Option Tmp)(v:AV):(st.put d v).heap=st.heap:=by cases d<;>rfl
theorem Hh{T:List (Nat×AV)}{d:Nat}{v:AV}(hv:look T d=v):fE (look T) d v=look T:=by
 funext i;unfold fE
 split
 ·rename_i e;subst e;exact hv.symm
 ·rfl
theorem jt{a:Act}{d:Nat}{v:Value}(hd:d<a.tmps.size)(i:Nat):(a.put (some d) v).tmps.getD i undef=if i=d then v else a.tmps.getD i undef:=by
 simp only[Act.put];by_cases e:i=d
 ·subst e;simp[hd]
 ·simp[e,Array.getElem?_setIfInBounds_ne (Ne.symm e)]
theorem cX(a:Act)(d:Option Tmp)(v:Value):(a.put d v).tmps.size=a.tmps.size:=by cases d<;>simp[Act.put]
theorem put_defers(a:Act)(d:Option Tmp)(v:Value):(a.put d v).defers=a.defers:=by cases d<;>rfl
theorem dq.put{n:Nat}{T:Nat→AV}{a:Act}{o:Oper}{x:AV}{V:Value}(t:dq Z ψ h w n T a)(hd:jG n o=true)(hx:aD Z ψ h w x V):dq Z ψ h w n (j9 T o.dst x) (a.put o.dst V):=by
 refine⟨fun d=>?_,by rw[cX];exact t.size,by rw[put_defers];exact t.defers⟩;unfold jG at hd
 split at hd
 ·rename_i d0 hd0;rw[hd0];rw[jt (by rw[t.size];simpa using hd)];simp only[j9,fE]
  split
  ·exact hx
  ·exact t.rep d
 ·rename_i hd0;rw[hd0];exact t.rep d
theorem dq.next{n:Nat}{T:Nat→AV}{a:Act}(t:dq Z ψ h w n T a)(g:Good Z ψ h w B0 O)(hn:Next Z ψ h w B0 O N Z' ψ' h' w')(hm:∀d,aS (fun i=>¬N i) (T d)):dq Z' ψ' h' w' n T a :=⟨fun d=>hn.rep g (hm d) (t.rep d),t.size,t.defers⟩
theorem tB{n:Nat}{s:List (Nat×AV)}{a:Act}(t:dq Z ψ h w n (look s) a)(x:Operand):aD Z ψ h w (ρ s x) (a.eval x):=by
 cases x with
 |tmp i=>exact t.rep i
 |const v=>exact Kp v
 |global g=>simp only[ρ,aD]
 |func f=>simp only[ρ,aD,ax,Act.eval];exact⟨#[],rfl,rfl⟩
theorem DP(p:Nat→Prop)(v:Value):aS p (wx v):=by
 cases v with
 |agg cs=>simp only[wx,aS];exact zP p _
 |_=>simp only[wx];exact DF p _
theorem RS{p:Nat→Prop}{s:List (Nat×AV)}(hm:∀d,aS p (look s d))(x:Operand):aS p (ρ s x):=by
 cases x with
 |tmp i=>exact hm i
 |const v=>exact DP p v
 |global g=>simp only[ρ,aS]
 |func f=>simp only[ρ,aS,aJ]
def oL(rid:Nat)(S:Nat→Prop)(id:Nat):Prop:=id / 32768=rid+1→S (id / 256%128)
def Of(rid i id:Nat):Prop:=id / 256=(rid+1)*128+i
theorem Of.parts{rid i id:Nat}(hi:i<128)(h:Of rid i id):id / 32768=rid+1∧id / 256%128=i:=by unfold Of at h;constructor<;>omega
theorem Of.of{rid i id:Nat}(h:id / 32768=rid+1)(hi:id / 256%128=i):Of rid i id:=by unfold Of;omega
theorem PE{rid i j:Nat}(hj:j<256):Of rid i (opId rid i+j):=by unfold Of opId;omega
theorem KO{rid i:Nat}:Of rid i (opId rid i):=by unfold Of opId;omega
theorem oL.DQ{rid i id:Nat}{S:Nat→Prop}(hi:i<128)(hs:¬S i)(h:oL rid S id):¬Of rid i id:=fun ho=>by obtain⟨h1,h2⟩:=ho.parts hi;have:=h h1;rw[h2]at this;exact hs this
theorem qx{rid bits id:Nat}{S:Nat→Prop}(hb:∀j,bits.testBit j=true→S j)(h:tc rid bits id=true):oL rid S id:=fun h1=>by unfold tc at h;simp only[Bool.or_eq_true,bne_iff_ne,ne_eq]at h;exact hb _ (h.resolve_left (fun h2=>h2 h1))
mutual
theorem rL{rid bits:Nat}{S:Nat→Prop}(hb:∀j,bits.testBit j=true→S j):∀{v:AV},vD rid bits v=true→aS (oL rid S) v
 |.ref id s i off,h=>by simp only[vD]at h;simp only[aS];exact qx hb h
 |.bY id,h=>by simp only[vD]at h;simp only[aS];exact qx hb h
 |.fn f cap,h=>by simp only[vD]at h;simp only[aS];exact nW hb h
 |.agg cs,h=>by simp only[vD]at h;simp only[aS];exact nW hb h
 |.pH cs,h=>by simp only[vD]at h;simp only[aS];exact nW hb h
 |.no,_=>by simp only[aS]
 |.bool _,_=>by simp only[aS]
 |.int _ _,_=>by simp only[aS]
 |.str _,_=>by simp only[aS]
 |.mL,_=>by simp only[aS]
 |.il,_=>by simp only[aS]
 |.fp _ _ _,_=>by simp only[aS]
 |.sl _ _ _,_=>by simp only[aS]
 |.mp _ _ _,_=>by simp only[aS]
theorem nW{rid bits:Nat}{S:Nat→Prop}(hb:∀j,bits.testBit j=true→S j):∀{v:List AV},Da rid bits v=true→aJ (oL rid S) v
 |[],_=>by simp only[aJ]
 |v::r,h=>by simp only[Da,Bool.and_eq_true]at h;simp only[aJ];exact⟨rL hb h.1,nW hb h.2⟩
end
theorem nX{rid bits:Nat}{S:Nat→Prop}(hb:∀j,bits.testBit j=true→S j):∀{hh:Heap},A4 rid bits hh=true→∀id o,hh.get id=some o→oL rid S id∧∀ty cs,o=.box ty cs→aJ (oL rid S) cs
 |[],_,id,o,hg=>by simp[Heap.get]at hg
 |(i,ob)::r,h,id,o,hg=>by
  simp only[Heap.get]at hg
  split at hg
  ·rename_i e;subst e
   cases hg
   cases ob with
   |box ty cs =>simp only[A4,Bool.and_eq_true]at h;exact⟨qx hb h.1.1,fun BX cs' he=>by cases he;exact nW hb h.1.2⟩
   |own ok xs =>simp only[A4,Bool.and_eq_true]at h;exact⟨qx hb h.1,fun BX cs' he=>by cases he⟩
  ·refine nX hb ?_ id o hg
   cases ob<;>simp only[A4,Bool.and_eq_true]at h<;>exact h.2
def bZ.heap(e:bZ)(h:Heap):Heap:=match e with
 |.wr _ h'=>h'
 |e=>e.h h
theorem bZ.KP(e:bZ)(hh:Heap):(e.heap hh).get=e.hp hh.get:=by
 cases e with
 |val v=>rfl
 |new v os=>funext i;simp only[bZ.heap,bZ.h,bZ.hp];rw[Heap.get_append];cases Heap.get os i<;>rfl
 |wr v h'=>rfl
def vR(p:Nat→Prop)(h:Hp):Prop:=∀i ty cs,h i=some (.box ty cs)→aJ p cs
theorem DR{ops:Array Oper}{o:Oper}{n:Nat}{T:Nat→AV}{a:Act}(t:dq Z ψ h w n T a){j d:Nat}{want:Bool}(hg:o.guard=some (j,want))(hd:(ops[j]?).bind (·.dst)=some d){b:Bool}(hb:T d=.bool b) :
  Region.wanted o (yielded ops a.tmps)=(b==want):=by
 have h1:=t.rep d;rw[hb]at h1;simp only[aD]at h1;have h2:a.tmps[d]? = some (.bool b):=by
  rw[Array.getD_eq_getD_getElem?]at h1
  cases e:a.tmps[d]? with
  |none=>rw[e]at h1;simp[undef]at h1
  |some v=>rw[e]at h1;simpa using h1
 unfold Region.wanted yielded;rw[hg];simp only[hd,Option.bind_some,h2]
 cases b<;>cases want<;>rfl
theorem Bu{ops:Array Oper}{o:Oper}{n:Nat}{T:Nat→AV}{a:Act}(t:dq Z ψ h w n T a){j d:Nat}{want:Bool}(hg:o.guard=some (j,want))(hd:(ops[j]?).bind (·.dst)=some d){vs:List AV}(hb:T d=.pH vs) :
  Region.wanted o (yielded ops a.tmps)=false:=by
 have h1:=t.rep d;rw[hb]at h1;simp only[aD]at h1;obtain⟨us,h1,_⟩:=h1;unfold Region.wanted yielded;rw[hg];simp only[hd,Option.bind_some];rw[Array.getD_eq_getD_getElem?]at h1
 cases e:a.tmps[d]? with
 |none=>rfl
 |some v=>rw[e]at h1;simp at h1;subst h1;rfl
def DS(ops:Array Oper):Nat→List (Nat×Oper)→Prop
 |_,[]=>True
 |i,(j,o)::r=>j=i∧ops[i]? = some o∧DS ops (i+1) r
theorem KQ(ops:Array Oper):∀(l:List Oper) (i:Nat),(∀k o,l[k]? = some o→ops[i+k]? = some o)→DS ops i ((l.zipIdx i).map fun p=>(p.2,p.1))
 |[],_,_=>by simp[DS]
 |o::r,i,h=>by simp only[List.zipIdx_cons,List.map_cons,DS];exact⟨trivial,h 0 o rfl,KQ ops r (i+1) fun k o' hk=>by rw[Nat.add_assoc,Nat.add_comm 1 k];exact h (k+1) o' hk⟩
theorem qy(ops:Array Oper):DS ops 0 (ops.toList.zipIdx.map fun p=>(p.2,p.1)):=KQ ops _ 0 fun k o hk=>by simpa using hk
theorem Hi(ops:Array Oper):(ops.toList.zipIdx.map fun p=>(p.2,p.1)).map Prod.fst=List.range ops.size:=by rw[List.map_map];have:(Prod.fst ∘ fun(p:Oper×Nat)=>(p.2,p.1))=Prod.snd:=rfl;rw[this,List.zipIdx_map_snd,List.range_eq_range',Array.length_toList]
structure J(p:Nat→Prop)(n:Nat)(Z0:Nat→Prop)(w0:World)(O:Nat→Prop)(ψ0:Nat→Value)(Z:Nat→Prop)(ψ:Nat→Value)(T:Nat→AV)(h:Hp)(a:Act)(w:World):Prop where
 ok:Ok Z0 w0 O ψ0 Z ψ h w
 tr:dq Z ψ h w n T a
 tm:∀d,aS p (T d)
 hm:vR p h
theorem J.imp{p q:Nat→Prop}{n:Nat}{T:Nat→AV}{a:Act}(j:J p n Z0 w0 O ψ0 Z ψ T h a w)(xq:∀id,p id→q id):J q n Z0 w0 O ψ0 Z ψ T h a w :=⟨j.ok,j.tr,fun d=>(j.tm d).imp xq,fun id ty cs hb=>(j.hm id ty cs hb).imp xq⟩
theorem J.op(E:Env P Eqs Sg F){rid n i:Nat}{p:Nat→Prop}{T:Nat→AV}{a:Act}{s:List (Nat×AV)}{o:Oper}(hS:makes o.op=true→∀id,p id→¬Of rid i id)(j:J p n Z0 w0 O ψ0 Z ψ T h a w)(hd:jG n o=true) (hT:∀x∈o.op.operands,aD Z ψ h w (ρ s x) (a.eval x)) (hTm:∀x∈o.op.operands,aS p (ρ s x)) {hh:Heap} (bL:∀id o,hh.get id=some o→h id=some o) {e:bZ} (he:dy P Eqs Sg F (opId rid i) hh s o some=some e) (nc:∀v hw,e=.wr v hw→hh.get=h) {p':Nat→Prop} (TC:∀k,p k→p' k) (hv:aS p' e.v) (hh':vR p' (e.hp h)) {next:Act→World→Prop} {Q:Exit→Act→World→Prop} (hk:∀a' w' Z' ψ',J p' n Z0 w0 O ψ0 Z' ψ' (j9 T o.dst e.v) (e.hp h) a' w'→next a' w'):o.wp P a w next Q:=by
 have nof:∀id,p id→¬(makes o.op=true∧Of rid i id):=fun id h ⟨h1,h2⟩=>hS h1 id h h2;refine aaF (N:=fun id=>makes o.op=true∧Of rid i id) E j.ok.fq j.ok.size bL (id:=opId rid i) (fun hm k hk=>⟨hm,PE hk⟩) hT (fun x hx=>(hTm x hx).imp nof) (fun id ty cs hb=>(j.hm id ty cs hb).imp nof) nc he fun V w' Z' ψ' nx hr=>?_;refine hk _ w' Z' ψ' ⟨j.ok.next (fun id h=>by have:=h.2;unfold Of at this;omega) nx,(j.tr.next j.ok.fq nx (fun d=>(j.tm d).imp nof)).put hd hr,fun d=>?_,hh'⟩
 cases mz:o.dst with
 |none=>exact(j.tm d).imp TC
 |some d0 =>
  simp only[j9,fE]
  split
  ·exact hv
  ·exact(j.tm d).imp TC
theorem J.skip{n:Nat}{p p':Nat→Prop}{T:Nat→AV}{a:Act}{o:Oper}(j:J p n Z0 w0 O ψ0 Z ψ T h a w)(hd:jG n o=true)(TC:∀k,p k→p' k) :
  J p' n Z0 w0 O ψ0 Z ψ (j9 T o.dst (.pH [])) h (a.put o.dst undef) w:=by
 refine⟨j.ok,j.tr.put hd RR,fun d=>?_,fun id ty cs hb=>(j.hm id ty cs hb).imp TC⟩
 cases mz:o.dst with
 |none=>exact(j.tm d).imp TC
 |some d0 =>
  simp only[j9,fE]
  split
  ·simp only[aS,aJ]
  ·exact(j.tm d).imp TC
theorem YM{hh:Heap}(g:Good Z ψ hh.get w B0 O){m:Nat}{kk vk:K}{es:List (kk.T×vk.T)}(hg:hh.get m=some (.own (.map kk vk) es))(n:Next Z ψ hh.get w B0 O N Z' ψ' h' w')(hzm:∀b,ob (ψ m)=some b→Z' b) (hold:∀b,b<w.heap.size→w'.heap[b]? = w.heap[b]?) {v:AV} {V:Value} (hm:aS (fun id=>¬N id) v) (hr:aD Z ψ hh.get w v V):aD Z' ψ' h' w' (BY m (.mp kk vk es) v) V:=by
 by_cases hv:v=.bY m
 ·subst hv;simp only[BY,if_true];simp only[aD]at hr;have hu:=hr.2 (by rw[hg];simp);obtain⟨r,cz,clock,h1,h2,h3,_⟩:=g.row m (.map kk vk) es hg;rw[h1]at hu;subst hu;have aK:=(abv.1 h2).1;simp only[aD,aQ];exact⟨some r,rfl,.inr ⟨r,cz,clock,rfl,hzm r (by rw[h1];rfl),(hold r aK).trans h2,h3.imp (fun _ _ h=>h.mono n.g9 (fun b hb=>hold b (g.kT b hb))) (fun _ _ h=>h.mono n.g9 (fun b hb=>hold b (g.kT b hb)))⟩⟩
 ·have hf:BY m (.mp kk vk es) v=v:=by
   unfold BY
   split
   ·split
    ·rename_i e;subst e;exact absurd rfl hv
    ·rfl
   ·rfl
  rw[hf];exact n.rep g hm hr
theorem Uw{p:Nat→Prop}{m:Nat}{kk vk:K}{es:List (kk.T×vk.T)}{v:AV}(hm:aS p v):aS p (BY m (.mp kk vk es) v):=by
 unfold BY
 split
 ·split
  ·simp only[aS]
  ·exact hm
 ·exact hm
theorem uP(f:AV→AV)(hf:f .no=.no):∀(l:List (Nat×AV)) (d:Nat),look (l.map fun p=>(p.1,f p.2)) d=f (look l d)
 |[],_=>by simp only[List.map_nil,look];exact hf.symm
 |(i,v)::r,d=>by
  simp only[List.map_cons,look]
  split
  ·rfl
  ·exact uP f hf r d
theorem NQ{rid n i:Nat}{p p':Nat→Prop}{st fR:St}{a:Act}{o:Oper}(hS:∀id,p id→¬Of rid i id)(TC:∀k,p k→p' k)(Uh:p' (opId rid i))(j:J p n Z0 w0 O ψ0 Z ψ (look st.tmps) st.heap.get a w)(hd:jG n o=true)(qz:rp P (opId rid i) st o=some fR) :
  ∃V w' Z' ψ',(execOp a.eval o).run P w=.ok (.value V) w'∧J p' n Z0 w0 O ψ0 Z' ψ' (look fR.tmps) fR.heap.get (a.put o.dst V) w':=by
 unfold rp at qz
 split at qz
 ·rename_i t x IT
  split at qz
  ·rename_i ka va m hu hx
   split at qz
   ·rename_i kk vk es hg
    cases qz
    have hxr:aD Z ψ st.heap.get w (.bY m) (a.eval x):=by rw[←hx];exact tB j.tr x
    simp only[aD]at hxr;have hev:=hxr.2 (by rw[hg];simp);have g:=j.ok.fq;obtain⟨r,cz,clock,h1,h2,h3,h4,h5⟩:=g.row m (.map kk vk) es hg;rw[h1]at hev;have aK:=(abv.1 h2).1;have gd:=jK g [.bY m];have aew:∀b,ob (ψ m)=some b→sS Z ψ st.heap.get [.bY m] b:=fun b hb=>.inr ⟨m,by simp,by rw[hg];simp,hb⟩;have hold:∀b,b<w.heap.size→(w.alloc (.mapIter (some r) clock #[] clock)).heap[b]? = w.heap[b]? := fun b hb=>heap_alloc_old w _ hb;have hN:(Of rid i) (opId rid i):=KO;have n1:=DA (N:=Of rid i) gd j.ok.size (opId rid i) hN (ok:=.iter kk vk) (x:=(none,es)) (v:=.pointer (some ⟨w.heap.size,0,none⟩)) (.mapIter (some r) clock #[] clock) ⟨w.heap.size,r,clock,#[],cz,clock,rfl,heap_alloc_new _ _,aew r (by rw[h1];rfl),(hold r aK).trans h2,h4,rfl,h5,by rw[List.filter_eq_self.2 (fun e _=>by simp)];exact h3.imp (fun _ _ h=>h.mono (fun b hb=>.inl hb) (fun b hb=>hold b (g.kT b hb))) (fun _ _ h=>h.mono (fun b hb=>.inl hb) (fun b hb=>hold b (g.kT b hb))),trivial⟩ rfl (fun i' ty cs hb=>aJ.imp (p:=p) (q:=fun i'=>i'≠opId rid i) (fun id hp e=>hS id hp (by rw[e];exact hN)) (j.hm i' ty cs (fD _ _ _ _ hb)));have n2:=n1.drop (Z:=Z) (h:=st.heap.get) (fun b hb=>.inl hb) (fun b hb=>hb.imp (fun h=>h) (fun⟨id,_,h5,h6⟩=>⟨id,h5,h6⟩)) (fD _ _);have gP:(fE (di st.heap [.bY m]).get (opId rid i) (some (Ob.own (.iter kk vk) (none,es))))=Heap.get ((opId rid i,.own (.iter kk vk) (none,es))::st.heap.del m):=by
     funext k;simp only[di,drop1,fE,Heap.get];by_cases e:k=opId rid i
     ·subst e;simp
     ·rw[if_neg e,if_neg (fun h=>e h.symm)]
    rw[gP]at n2;refine⟨.pointer (some ⟨w.heap.size,0,none⟩),w.alloc (.mapIter (some r) clock #[] clock),sS Z ψ st.heap.get [.bY m],fE ψ (opId rid i) (.pointer (some ⟨w.heap.size,0,none⟩)),?_,?_⟩
    ·obtain⟨dst,op,type,pos,after,guard⟩:=o;simp only at IT;subst IT;have eC:(Instr.range t (.map (some r))).run P w=.ok (.pointer (some ⟨w.heap.size,0,none⟩)) (w.alloc (.mapIter (some r) clock #[] clock)):=by simp only[Instr.range,Sem.run_bind,run_underlying hu,Result.andThen_ok,iw h2 (by simp),Sem.run_pure];rfl
     simp[execOp,hev,eC]
    ·have bD:∀d,aS (fun id=>¬Of rid i id) (look st.tmps d):=fun d=>(j.tm d).imp hS;refine⟨by rw[dJ];exact j.ok.next (fun id h=>by unfold Of at h;omega) n2,?_,fun d=>?_,fun k ty cs hb=>?_⟩
     ·rw[js,dJ];refine dq.put ⟨fun d=>?_,j.tr.size,j.tr.defers⟩ hd ?_
      ·rw[uP _ rfl];exact YM g hg n2 (fun b hb=>aew b hb) hold (bD d) (j.tr.rep d)
      ·simp only[aD];exact⟨⟨rfl,rfl⟩,fun _=>(bE _ _ _).symm⟩
     ·rw[js];have hb:aS p' (look (st.tmps.map fun q=>(q.1,BY m (.mp kk vk es) q.2)) d):=by rw[uP _ rfl];exact Uw ((j.tm d).imp TC)
      cases mz:o.dst with
      |none=>exact hb
      |some d0 =>
       simp only[j9,fE]
       split
       ·simp only[aS];exact Uh
       ·exact hb
     ·rw[dJ]at hb;simp only[Heap.get]at hb
      split at hb
      ·cases hb
      ·exact(j.hm k ty cs (Heap.xF hb).1).imp TC
   ·cases qz
  ·cases qz
 ·cases qz
theorem qA{R:Type}{n:Nat}{f:Nat→Option R}{r:R}(h:vt n f=some r):∀j,j<n→f j=some r:=by
 unfold vt at h
 split at h
 ·rename_i hx;cases h;exact Classical.choose_spec hx
 ·cases h
theorem o8{R:Type}{n:Nat}{f:Nat→Option R}{r:R}(hn:0<n)(h:∀j,j<n→f j=some r):vt n f=some r:=by unfold vt;have hx:∃r,∀j,j<n→f j=some r:=⟨r,h⟩;rw[dif_pos hx];have:=Classical.choose_spec hx 0 hn;rw[h 0 hn]at this;exact this.symm
theorem Next.drawn{d:Nat}(n:Next Z ψ h { w with drawn:=d } B0 O N Z' ψ' h' w'):Next Z ψ h w B0 O N Z' ψ' h' w' :=⟨n.g9,n.fS,⟨n.keep.os,n.keep.tape,n.keep.output,n.keep.size,n.keep.block⟩,n.ids,n.fq⟩
theorem Good.drawn{d:Nat}(g:Good Z ψ h w B0 O):Good Z ψ h { w with drawn:=d } B0 O:=by
 have sm:cW Z w ({ w with drawn:=d }:World):=fun _ _=>rfl;refine⟨fun id ty cs hb=>?_,fun id ok xs hb=>?_,g.live,g.apart,g.kT⟩
 ·obtain⟨gg,vs,h1,h2,h3,h4⟩:=g.box id ty cs hb;exact⟨gg,vs,h1,h2,h3.less (fun _ h=>h) sm (fun i hi=>⟨hi,rfl⟩),h4⟩
 ·exact(g.row id ok xs hb).kept (fun _ h=>h) sm (fun gg _=>rfl)
theorem filter_push{l:List MapEntry}(h:l.Pairwise (fun a b=>a.born≠b.born)){seen:Array Nat}{j:Nat}{e:MapEntry}(he:(l.filter fun e => !seen.contains e.born)[j]? = some e) :
  l.filter (fun x => !(seen.push e.born).contains x.born)=(l.filter fun e => !seen.contains e.born).eraseIdx j:=by
 have h2:(l.filter fun e => !seen.contains e.born).Pairwise (fun a b=>a.born≠b.born):=h.sublist List.filter_sublist;rw[←ChangeMaps.filter_eq_eraseIdx (fun x=>x.born==e.born) _ j e he (by simp) (h2.imp fun {a b} bp hc=>bp (by simp only[beq_iff_eq]at hc;omega))];rw[List.filter_filter];congr 1;funext x;simp only[Array.contains_push]
 cases seen.contains x.born<;>cases x.born==e.born<;>rfl
theorem NR{R:Type}{hh:Heap}(g:Good Z ψ hh.get w B0 O){x:AV}{u:Value}{ty:TypeId}(hx:aD Z ψ hh.get w x u){kk:AV→Heap→Option R}{r:R}(he:mN hh x kk=some r) :
  ∃v h' V w',(Instr.next u false ty).run P w=.ok V w'∧Next Z ψ hh.get w B0 O N Z ψ h'.get w'∧aD Z ψ h'.get w' v V∧kk v h'=some r∧(∀p,aS p v)∧∀i ty cs,h'.get i=some (.box ty cs)→hh.get i=some (.box ty cs):=by
 unfold mN at he
 split at he
 ·rename_i id
  split at he
  ·rename_i kk1 vk pp hg;simp only[aD]at hx;have hu:=hx.2 (by rw[hg];simp);obtain⟨b,m,since,seen,cz,clock,h1,h2,h3,h4,h5,h6,h7,h8,h9⟩:=g.row id (.iter kk1 vk) pp hg;rw[h1]at hu;subst hu;subst h6;have aK:=(abv.1 h2).1;have aaH:(leftOf cz seen).toList=cz.toList.filter fun e => !seen.contains e.born:=by unfold leftOf;simp
   have hlen:pp.2.length=(leftOf cz seen).size:=by rw[h8.1,←aaH,Array.length_toList]
   rcases run_next_at (P:=P) w ty b m since since seen cz since h2 h4 h7 (abZ _) with⟨oI,eC⟩|⟨e,iz,w1,Gv,eC⟩
   ·have RJ:pp.2.isEmpty=true:=by rw[List.isEmpty_iff];exact abU (by rw[hlen,oI])
    rw[RJ]at he;simp only[cond_true]at he;exact⟨_,hh,_,w,eC,Next.refl g,by simp only[aD,ax];exact⟨_,rfl,_,_,rfl,rfl,rfl⟩,he,fun p=>by simp only[aS,aJ];exact⟨trivial,trivial⟩,fun _ _ _ h=>h⟩
   ·obtain⟨k,hk,hke⟩:=List.mem_iff_getElem.1 iz;have pS:k<pp.2.length:=by rw[hlen,←Array.length_toList];exact hk
    have RJ:pp.2.isEmpty=false:=by
     cases hl:pp.2 with
     |nil=>rw[hl]at pS;simp at pS
     |cons _ _=>rfl
    rw[RJ]at he;simp only[cond_false]at he;have hj:=qA he k pS;rw[List.getElem?_eq_getElem pS,Option.bind_some]at hj;have ab0:(cz.toList.filter fun e => !seen.contains e.born)[k]? = some e:=by rw[←aaH,List.getElem?_eq_getElem hk,hke]
    have tp:=h8.2 k _ e (aba pS) ab0;obtain⟨⟨k1,k2,k3⟩,v1,v2,v3⟩:=tp;have aj8:e∈cz.toList:=(adC.1 (ab1 ab0)).1;have gd1:Good Z ψ hh.get w1 B0 O:=by rcases Gv with rfl|rfl;exact g;exact g.drawn
    have IU:w1.heap=w.heap:=by rcases Gv with rfl|rfl<;>rfl
    have hmb:m≠b:=fun hmb=>by subst hmb;exact(g.live id m (by rw[hg];simp) (by rw[h1];rfl)).1 h3
    have n1:=uJ (N:=N) gd1 (id:=id) (by rw[hg];simp) (r:=b) (by rw[h1];rfl) (by rw[IU];exact aK) (.mapIter (some m) since (seen.push e.born) since) (ok:=.iter kk1 vk) (x:=(some pp.2[k],pp.2.eraseIdx k)) (fun w' Ny sm=>by
     have sm':cW Z w w':=fun c hc=>(sm c hc).trans (by rw[IU]);refine⟨b,m,since,seen.push e.born,cz,since,h1,by rw[Ny,IU];simp[aK],h3,?_,h5,rfl,h7,?_,?_⟩
     ·rw[Ny,IU,zN _ (fun e=>hmb e.symm)];exact h4
     ·rw[filter_push h5 ab0];exact(lM.erase h8 k).mono (fun _ h=>h) sm'
     ·refine⟨e,aj8,by simp,⟨rfl,fun q y e' oI B2=>?_⟩⟩
      cases q with
      |zero=>cases oI;cases B2;exact⟨⟨k1.mono (fun _ h=>h) sm',k2,k3⟩,v1.mono (fun _ h=>h) sm',v2,v3⟩
      |succ q=>simp at oI)
    have n2:Next Z ψ hh.get w B0 O N Z ψ (fE hh.get id (some (.own (.iter kk1 vk) (some pp.2[k],pp.2.eraseIdx k)))) { w1 with heap:=w1.heap.setIfInBounds b (.mapIter (some m) since (seen.push e.born) since) }:=by
     rcases Gv with rfl|rfl
     ·exact n1
     ·exact n1.drawn
    refine⟨_,hh.set id (.own (.iter kk1 vk) (some pp.2[k],pp.2.eraseIdx k)),_,_,eC,by rw[oU];exact n2,?_,hj,fun p=>?_,fun i ty cs hb=>?_⟩
    ·have sm':cW Z w ({ w1 with heap:=w1.heap.setIfInBounds b (.mapIter (some m) since (seen.push e.born) since) }:World):=n2.same g;simp only[aD,ax];exact⟨_,rfl,_,_,rfl,rfl,_,_,rfl,nI (k1.mono (fun _ h=>h) sm') k2 k3,_,_,rfl,nI (v1.mono (fun _ h=>h) sm') v2 v3,rfl⟩
    ·simp only[aS,aJ];exact⟨trivial,qv _ _ _,qv _ _ _,trivial⟩
    ·rw[oU]at hb;unfold fE at hb
     split at hb
     ·cases hb
     ·exact hb
  ·cases he
 ·cases he
theorem KR(op:BinOp)(t:TypeId)(a b:Operand)(x y:Option Addr)(n m c d:Nat):(eqGuard op t a b (.slice x n c) (.slice y m d)).run P w=.ok () w:=by cases op<;>simp[eqGuard]
theorem Gx{t e:TypeId}(ht:P.underlying t=some (.slice e))(a:Option Addr)(n c:Nat):(Op.equal t (.slice a n c) (.slice none 0 0)).run P w=.ok a.isNone w:=by
 have key:∀d,(Op.equalIn (d+1) t (.slice a n c) (.slice none 0 0)).run P w=.ok a.isNone w:=fun d=>by cases a<;>simp[Op.equalIn,run_underlying ht]
 exact key 9999
theorem NS{o:Oper}{x:Operand}{want:Bool}(h:isNil P o=some (x,want)):∃op t v t' e,o.op=.binOp op t x (.const v) t'∧P.underlying t=some (.slice e)∧v=.slice none 0 0∧((op=.eql∧want=true)∨(op=.neq∧want=false)):=by
 unfold isNil at h
 split at h
 ·rename_i op t x' v t' IT;have hv:∀v:Value,zu v=.il→v=.slice none 0 0:=fun v hv=>by
   unfold zu at hv
   split at hv<;>try (first|cases hv|(split at hv<;>cases hv);done)
   all_goals (split at hv<;>first|cases hv|skip)
   ·rename_i hc;obtain⟨rfl,rfl,rfl⟩:=hc;rfl
   all_goals (split at hv<;>cases hv)
  split at h
  ·rename_i e h1 h2 h3;cases h;exact⟨_,_,_,_,_,IT,h2,hv _ h3,.inl ⟨rfl,rfl⟩⟩
  ·rename_i e h1 h2 h3;cases h;exact⟨_,_,_,_,_,IT,h2,hv _ h3,.inr ⟨rfl,rfl⟩⟩
  ·cases h
 ·cases h
theorem Ux{R:Type}{hh:Heap}(g:Good Z ψ hh.get w B0 O){x:AV}{u:Value}{op:BinOp}{t e:TypeId}(xo yo:Operand)(hx:aD Z ψ hh.get w x u)(ht:P.underlying t=some (.slice e)){want:Bool}(ho:(op=.eql∧want=true)∨(op=.neq∧want=false)){kk:AV→Option R}{r:R}(he:xz hh x want kk=some r) :
  ∃c:Bool,((eqGuard op t xo yo u (.slice none 0 0)).run P w=.ok () w∧(binOp op t u (.slice none 0 0)).run P w=.ok (.bool c) w)∧kk (.bool c)=some r:=by
 have run:∀(a:Option Addr) (n c:Nat),(eqGuard op t xo yo (.slice a n c) (.slice none 0 0)).run P w=.ok () w∧(binOp op t (.slice a n c) (.slice none 0 0)).run P w=.ok (.bool (a.isNone==want)) w:=fun a n c=>by refine⟨KR _ _ _ _ _ _ _ _ _ _,?_⟩;rcases ho with⟨rfl,rfl⟩|⟨rfl,rfl⟩<;>simp only[Sem.run_bind,Result.andThen_ok,binOp,Gx ht,Sem.run_pure]<;>cases a.isNone<;>rfl
 have fin:∀(n:Nat) (a:Option Addr) (c:Nat) (xs:Bool),(a=none→xs=true)→cond xs (vt 2 fun j=>kk (.bool ((j==0)==want))) (kk (.bool (!want)))=some r → ∃c':Bool,((eqGuard op t xo yo (.slice a n c) (.slice none 0 0)).run P w=.ok () w∧(binOp op t (.slice a n c) (.slice none 0 0)).run P w=.ok (.bool c') w)∧kk (.bool c')=some r:=fun n a c xs Ba h=>by
  refine⟨_,run a n c,?_⟩
  cases xs with
  |true =>
   simp only[cond_true]at h
   cases a with
   |none=>exact qA h 0 (by decide)
   |some a=>exact qA h 1 (by decide)
  |false =>
   simp only[cond_false]at h
   cases a with
   |none=>cases Ba rfl
   |some a=>cases want<;>exact h
 unfold xz at he
 split at he
 ·rename_i hv;have hxn:x=.il:=by
   cases x<;>simp only[dm]at hv<;>try cases hv
   ·rfl
   ·split at hv<;>cases hv
  subst hxn;simp only[aD]at hx;subst hx;exact⟨_,run none 0 0,by cases want<;>exact he⟩
 ·rename_i ex k xs hv
  cases x with
  |sl ex' k' xs' =>
   simp only[dm]at hv
   cases hv
   simp only[aD,aQ]at hx;obtain⟨⟨v,hv,A,c,rfl,h1,h2,_⟩,_⟩:=hx
   cases hv
   refine fin _ A c _ (fun hA=>?_) he;have:=h2 hA;rw[List.isEmpty_iff];exact abU (by omega)
  |bY id =>
   simp only[dm]at hv;simp only[aD]at hx
   split at hv
   ·rename_i hg
    cases hv
    have hu:=hx.2 (by rw[hg];simp);obtain⟨vs,⟨_,h1⟩,_⟩:=g.row id _ _ hg;rw[←hu]at h1;rcases h1 with⟨h1,A,rfl⟩|⟨gg,cap,cur,rfl,_⟩
    ·exact fin _ A 0 _ (fun _=>List.isEmpty_iff.2 (abU h1)) he
    ·exact fin _ _ _ _ (fun h=>by cases h) he
   ·cases hv
   ·cases hv
  |_=>simp only[dm]at hv<;>cases hv
 ·cases he
theorem DT{draw:Bool}{rid:Nat}{ops:Array Oper}{b:Array Nat}{i Nm:Nat}{e:bZ}{S:Nat→Prop}{hh:Heap}(hm:vR (oL rid S) h)(ha:∀j,Nm.testBit j=true→S j)(he:iV draw rid ops b i Nm e=true) :
  aS (oL rid fun k=>S k∨k=i) e.v∧vR (oL rid fun k=>S k∨k=i) (e.hp h):=by
 have Kl:∀j,(Nm ||| 2 ^ i).testBit j=true→S j∨j=i:=fun j hj=>by
  rw[Nat.testBit_or,Bool.or_eq_true]at hj;rcases hj with hj|hj
  ·exact .inl (ha j hj)
  ·rw[Nat.testBit_two_pow]at hj;exact .inr (by simpa using hj:i=j).symm
 have up:vR (oL rid fun k=>S k∨k=i) h:=fun id ty cs hb=>(hm id ty cs hb).imp (fun id h1 h2=>.inl (h1 h2))
 cases e with
 |val v=>exact⟨rL (fun j hj=>.inl (ha j hj)) he,up⟩
 |new v os =>
  simp only[iV,Bool.and_eq_true]at he;refine⟨rL Kl he.1.1,fun id ty cs hb=>?_⟩;simp only[bZ.hp]at hb
  split at hb
  ·rename_i o ho
   cases hb
   exact(nX Kl he.2 _ _ ho).2 _ _ rfl
  ·exact up id ty cs hb
 |wr v h' =>simp only[iV,Bool.and_eq_true]at he;exact⟨rL Kl he.1.2,fun id ty cs hb=>(nX Kl he.2 _ _ hb).2 _ _ rfl⟩
theorem Gy{i j:Nat}(h:(2 ^ i-1).testBit j=true):j<i:=by rw[Nat.testBit_two_pow_sub_one]at h;simpa using h
def z5(mk:Bool)(rid i id:Nat):Prop:=mk=true→oL rid (fun k=>k<i) id
theorem ni(E:Env P Eqs Sg F){rid n:Nat}{ops:Array Oper}{b:Array Nat}(mk:Bool)(IV:mk=false→∀(i:Nat) (o:Oper),ops[i]? = some o→makes o.op=false)(hn:ops.size≤128)(mz:∀(i:Nat) (o:Oper),ops[i]? = some o→jG n o=true){kk:St→Option R}{r:R}{Q:Exit→Act→World→Prop} (hQ:∀fR Z ψ a w,kk fR=some r→Ok Z0 w0 O ψ0 Z ψ fR.heap.get w→dq Z ψ fR.heap.get w n (look fR.tmps) a→Q .normal a w) :
  ∀(l:List (Nat×Oper)) (i:Nat) (st:St) (Z:Nat→Prop) (ψ:Nat→Value) (a:Act) (w:World),DS ops i l→bQ P Eqs Sg F rid false ops b l st kk=some r → J (z5 mk rid i) n Z0 w0 O ψ0 Z ψ (look st.tmps) st.heap.get a w→wpOps P ops Q (l.map Prod.fst) a w
 |[],i,st,Z,ψ,a,w,_,hx,j=>hQ st Z ψ a w hx j.ok j.tr
 |(i',o)::l,i,st,Z,ψ,a,w,hl,hx,j=>by
  obtain⟨rfl,ho,hl⟩:=hl;have hi:i'<128:=adB (abv.1 ho).1 hn;have Yd:=mz i' o ho;have ih:=ni E (rid:=rid) (b:=b) mk IV hn mz hQ l (i'+1);have up:∀id,z5 mk rid i' id→z5 mk rid (i'+1) id:=fun id h hm hr=>Nat.lt_succ_of_lt (h hm hr);have runs:∀jN:St,look jN.tmps=look st.tmps→jN.heap=st.heap→Region.wanted o (yielded ops a.tmps)=true →(match rp P (opId rid i') jN o with
    |some fR=>bQ P Eqs Sg F rid false ops b l fR kk
    |none=>match xy o with
    |some x=>mN jN.heap (ρ jN.tmps x) fun v h=>bQ P Eqs Sg F rid false ops b l (({ jN with heap:=h }:St).put o.dst v) kk
    |none=>match isNil P o with
    |some (x,want)=>xz jN.heap (ρ jN.tmps x) want fun v=>bQ P Eqs Sg F rid false ops b l (jN.put o.dst v) kk
    |none=>dy P Eqs Sg F (opId rid i') jN.heap jN.tmps o fun e=>if iV false rid ops b i' (2 ^ i' - 1) e then bQ P Eqs Sg F rid false ops b l ({ jN with heap:=match e with | .wr _ h=>h|e=>e.h jN.heap }.put o.dst e.v) kk else none)=some r →
    wpOps P ops Q (((i',o)::l).map Prod.fst) a w:=by
   intro jN h1 h2 hw hx
   split at hx
   ·rename_i fR qz;simp only[List.map_cons,wpOps,ho,hw,if_true];refine .inl ?_;have aex:makes o.op=true:=by
     unfold rp at qz
     split at qz
     ·rename_i IT;rw[IT];rfl
     ·cases qz
    have aka:mk=true:=by
     cases RT:mk with
     |true=>rfl
     |false=>rw[IV RT i' o ho]at aex;cases aex
    have j1:J (z5 mk rid i') n Z0 w0 O ψ0 Z ψ (look jN.tmps) jN.heap.get a w:=by rw[h1,h2];exact j
    obtain⟨V,w',Z',ψ',eC,j'⟩:=NQ (P:=P) (p':=z5 mk rid (i'+1)) (fun id hp pP=>by obtain⟨h3,h4⟩:=pP.parts hi;have:=hp aka h3;rw[h4]at this;exact Nat.lt_irrefl _ this) up (fun _ h3=>by have:=((KO (rid:=rid) (i:=i')).parts hi).2;rw[this];exact Nat.lt_succ_self _) j1 Yd qz;unfold Oper.wp;rw[eC];exact ih fR Z' ψ' _ w' hl hx j'
   split at hx
   ·rename_i x Hj;simp only[List.map_cons,wpOps,ho,hw,if_true];refine .inl ?_;have IT:o.op=.next x false:=by
     unfold xy at Hj
     split at Hj
     ·rename_i IT;cases Hj;exact IT
     ·cases Hj
    have hxr:aD Z ψ jN.heap.get w (ρ jN.tmps x) (a.eval x):=tB (by rw[h1,h2];exact j.tr) x;have g1:Good Z ψ jN.heap.get w w0.heap.size O:=by rw[h2];exact j.ok.fq
    obtain⟨v,h',V,w',eC,nx,hr,NC,X7,sK⟩:=NR (P:=P) (N:=fun _=>False) (ty:=o.type) g1 hxr hx;have Uy:(execOp a.eval o).run P w=.ok (.value V) w':=by obtain⟨dst,op,type,pos,after,guard⟩:=o;simp only at IT;subst IT;simp only at eC;simp[execOp,eC]
    unfold Oper.wp;rw[Uy];refine ih _ Z ψ _ w' hl NC ?_;rw[js,dJ];have j1:J (z5 mk rid i') n Z0 w0 O ψ0 Z ψ (look jN.tmps) jN.heap.get a w:=by rw[h1,h2];exact j
    refine⟨j1.ok.next (fun id h=>h.elim) nx,(j1.tr.next g1 nx (fun d=>(j1.tm d).imp fun _ _ h=>h)).put Yd hr,fun d=>?_,fun k ty cs hb=>(j1.hm k ty cs (sK k ty cs hb)).imp up⟩
    cases mz:o.dst with
    |none=>exact(j1.tm d).imp up
    |some d0 =>
     simp only[j9,fE]
     split
     ·exact X7 _
     ·exact(j1.tm d).imp up
   split at hx
   ·rename_i x want hnl;obtain⟨op,t,v,t',et,IT,ht,rfl,tC⟩:=NS hnl;simp only[List.map_cons,wpOps,ho,hw,if_true];refine .inl ?_;have hxr:aD Z ψ jN.heap.get w (ρ jN.tmps x) (a.eval x):=tB (by rw[h1,h2];exact j.tr) x;have g1:Good Z ψ jN.heap.get w w0.heap.size O:=by rw[h2];exact j.ok.fq
    obtain⟨c,eC,NC⟩:=Ux (P:=P) g1 x (.const (.slice none 0 0)) hxr ht tC hx;have Uy:(execOp a.eval o).run P w=.ok (.value (.bool c)) w:=by obtain⟨dst,op',type,pos,after,guard⟩:=o;simp only at IT;subst IT;have e1:a.eval (.const (.slice none 0 0))=.slice none 0 0:=rfl;simp[execOp,e1,eC.1,eC.2]
    unfold Oper.wp;rw[Uy];refine ih _ Z ψ _ w hl NC ?_;rw[js,dJ];have j1:J (z5 mk rid i') n Z0 w0 O ψ0 Z ψ (look jN.tmps) jN.heap.get a w:=by rw[h1,h2];exact j
    refine⟨j1.ok,j1.tr.put Yd (by simp only[aD]),fun d=>?_,fun k ty cs hb=>(j1.hm k ty cs hb).imp up⟩
    cases mz:o.dst with
    |none=>exact(j1.tm d).imp up
    |some d0 =>
     simp only[j9,fE]
     split
     ·simp only[aS]
     ·exact(j1.tm d).imp up
   rw[nh]at hx;obtain⟨e,he,hx⟩:=acR.1 hx
   split at hx
   ·rename_i nL;simp only[List.map_cons,wpOps,ho,hw,if_true];refine .inl ?_;have hh:jN.heap.get=st.heap.get:=by rw[h2]
    have qz:aS (z5 mk rid (i'+1)) e.v∧vR (z5 mk rid (i'+1)) (e.hp st.heap.get):=by
     cases RT:mk with
     |false =>have ht:z5 false rid (i'+1)=fun _=>True:=funext fun id=>propext ⟨fun _=>trivial,fun _ h=>by cases h⟩;rw[ht];exact⟨aS.top _,fun _ _ cs _=>aJ.top cs⟩
     |true =>
      have YD:vR (oL rid fun k=>k<i') st.heap.get:=fun id ty cs hb=>(j.hm id ty cs hb).imp fun id h1=>h1 RT;have h3:=DT (hh:=jN.heap) YD (fun k hk=>Gy hk) nL;have hS:∀k,(k<i'∨k=i')→k<i'+1:=fun k hk=>by omega
      exact⟨h3.1.imp fun id h1 _ h2=>hS _ (h1 h2),fun id ty cs hb=>(h3.2 id ty cs hb).imp fun id h1 _ h2=>hS _ (h1 h2)⟩
    refine J.op E (p:=z5 mk rid i') (p':=z5 mk rid (i'+1)) (rid:=rid) (i:=i') (s:=jN.tmps) (fun hm id hp pP => ?_) j Yd (fun x _=>tB (by rw[h1];exact j.tr) x) (fun x _=>RS (by rw[h1];exact j.tm) x) (fun id o hg=>by rw[hh]at hg;exact hg) he (fun _ _ _=>hh) up qz.1 qz.2 fun a' w' Z' ψ' j' => ?_
    ·cases RT:mk with
     |false=>rw[IV RT i' o ho]at hm;cases hm
     |true =>obtain⟨h3,h4⟩:=pP.parts hi;have:=hp RT h3;rw[h4]at this;exact Nat.lt_irrefl _ this
    refine ih _ Z' ψ' a' w' hl hx ?_;rw[js,dJ];have j2:J (z5 mk rid (i'+1)) n Z0 w0 O ψ0 Z' ψ' (j9 (look jN.tmps) o.dst e.v) (bZ.heap e jN.heap).get a' w':=by rw[bZ.KP,h1,h2];exact j'
    exact j2
   ·cases hx
  have xX:∀jN:St,look jN.tmps=look st.tmps→jN.heap=st.heap→Region.wanted o (yielded ops a.tmps)=false → bQ P Eqs Sg F rid false ops b l (jN.put o.dst (.pH [])) kk=some r→wpOps P ops Q (((i',o)::l).map Prod.fst) a w:=by intro jN h1 h2 hw hx;simp only[List.map_cons,wpOps,ho,hw,Bool.false_eq_true,if_false];refine ih _ Z ψ _ w hl hx ?_;rw[js,dJ,h1,h2];exact j.skip Yd up
  rw[bQ]at hx;simp only[Bool.false_eq_true,if_false]at hx
  split at hx
  ·rename_i hg;exact runs st rfl rfl (by simp[Region.wanted,hg]) hx
  ·rename_i jj want hg
   split at hx
   ·cases hx
   ·rename_i d hd
    split at hx
    ·rename_i t ht;have hw:=DR j.tr hg hd ht;have hp:∀b,t=b→look (st.put (some d) (.bool b)).tmps=look st.tmps:=fun b hb=>by subst hb;rw[js];exact Hh ht
     cases t<;>simp only[cond_true,cond_false]at hx<;>split at hx<;>rename_i tC
     ·exact xX _ (hp false rfl) (dJ _ _ _) (by rw[hw];simp[tC]) hx
     ·exact runs _ (hp false rfl) (dJ _ _ _) (by rw[hw];simp[tC]) hx
     ·exact runs _ (hp true rfl) (dJ _ _ _) (by rw[hw];simp[tC]) hx
     ·exact xX _ (hp true rfl) (dJ _ _ _) (by rw[hw];simp[tC]) hx
    ·rename_i vs ht;exact xX st rfl rfl (Bu j.tr hg hd ht) hx
    ·cases hx
theorem lS(hp h:Heap)(i:Nat):∀(ft:List Nat),(gG ft hp h).get i=if i∈ft then(match hp.get i with|some o=>some o|none=>h.get i) else h.get i
 |[]=>by simp[gG]
 |j::r=>by
  have ih:=lS hp h i r;unfold gG at ih ⊢
  cases hj:hp.get j with
  |none =>
   rw[List.filterMap_cons,hj];simp only[Option.map_none];rw[ih];by_cases e:i=j
   ·subst e;simp[hj]
   ·simp[e]
  |some o =>
   rw[List.filterMap_cons,hj];simp only[Option.map_some,List.cons_append,Heap.get];rw[ih];by_cases e:j=i
   ·subst e;simp[hj]
   ·have e':¬i=j:=fun h=>e h.symm;simp[e,e']
mutual
theorem Bv{ft:List Nat}:∀{v:AV},td ft v=true→aS (fun i=>i∉ft) v
 |.ref id _ _ _,h=>by simp only[aS];simpa[td] using h
 |.bY id,h=>by simp only[aS];simpa[td] using h
 |.fn _ cap,h=>by simp only[aS];exact lT (by simpa only[td] using h)
 |.agg cs,h=>by simp only[aS];exact lT (by simpa only[td] using h)
 |.pH vs,h=>by simp only[aS];exact lT (by simpa only[td] using h)
 |.no,_=>by simp only[aS]
 |.bool _,_=>by simp only[aS]
 |.int _ _,_=>by simp only[aS]
 |.str _,_=>by simp only[aS]
 |.mL,_=>by simp only[aS]
 |.il,_=>by simp only[aS]
 |.fp _ _ _,_=>by simp only[aS]
 |.sl _ _ _,_=>by simp only[aS]
 |.mp _ _ _,_=>by simp only[aS]
theorem lT{ft:List Nat}:∀{l:List AV},wA ft l=true→aJ (fun i=>i∉ft) l
 |[],_=>by simp only[aJ]
 |v::r,h=>by simp only[wA,Bool.and_eq_true]at h;simp only[aJ];exact⟨Bv h.1,lT h.2⟩
end
theorem lU{ft:List Nat}:∀{hh:Heap},wB ft hh=true→∀i o,hh.get i=some o→i∉ft∧∀ty cs,o=.box ty cs→aJ (fun i=>i∉ft) cs
 |[],_,i,o,h=>by simp[Heap.get]at h
 |(j,.box ty cs)::r,hc,i,o,h=>by
  simp only[wB,Bool.and_eq_true]at hc;simp only[Heap.get]at h
  split at h
  ·rename_i e;subst e;cases h;exact⟨by simpa using hc.1,fun ty cs e=>by cases e;exact lT hc.2.1⟩
  ·exact lU hc.2.2 i o h
 |(j,.own ok x)::r,hc,i,o,h=>by
  simp only[wB,Bool.and_eq_true]at hc;simp only[Heap.get]at h
  split at h
  ·rename_i e;subst e;cases h;exact⟨by simpa using hc.1,fun ty cs e=>by cases e⟩
  ·exact lU hc.2 i o h
theorem Next.frame{hp h1:Heap}{ft:List Nat}(g:Good Z ψ hp.get w B0 O)(hB:B0≤w.heap.size)(bD:∀i ty cs,hp.get i=some (.box ty cs)→aJ (fun i=>¬N i) cs) (n:Next Z ψ (jl hp ft).get w w.heap.size (Own ψ (jl hp ft).get) N Z' ψ' h1.get w') (hc:wB ft h1=true) :
  ∃fz,Next Z ψ hp.get w B0 O N Z' fz (gG ft hp h1).get w'∧∀i,i∉ft→fz i=ψ' i:=by
 classical
 have gd:∀i,(jl hp ft).get i=if i∈ft then none else hp.get i:=fun i=>qw ft hp i
 have bL:∀b,Own ψ (jl hp ft).get b→Own ψ hp.get b:=fun b ⟨i,h1,h2⟩=>⟨i,by rw[gd]at h1;split at h1;exact absurd rfl h1;exact h1,h2⟩;have sM:∀i,i∈ft→h1.get i=none:=fun i hi=>by
  cases e:h1.get i with
  |none=>rfl
  |some o=>exact absurd hi (lU hc i o e).1
 have gf:∀i,(gG ft hp h1).get i=if i∈ft then hp.get i else h1.get i:=fun i=>by
  rw[lS];by_cases hi:i∈ft
  ·rw[if_pos hi,if_pos hi,sM i hi];cases hp.get i<;>rfl
  ·rw[if_neg hi,if_neg hi]
 let fz:Nat→Value:=fun i=>if i∈ft then ψ i else ψ' i
 have p1:∀i,i∈ft→fz i=ψ i:=fun i hi=>if_pos hi;have p2:∀i,i∉ft→fz i=ψ' i:=fun i hi=>if_neg hi;have apart:∀i b,i∈ft→hp.get i≠none→ob (ψ i)=some b→¬Own ψ (jl hp ft).get b:=fun i b hi h2 h3 ⟨j,h4,h5⟩=>by
  rw[gd]at h4
  split at h4
  ·exact h4 rfl
  ·rename_i hj;have:=g.apart i j b h2 h4 h3 h5;subst this;exact hj hi
 have dv:∀i b,i∈ft→hp.get i≠none→ob (ψ i)=some b→w'.heap[b]? = w.heap[b]? := fun i b hi h2 h3 =>n.keep.block b (g.ck ⟨i,h2,h3⟩) (apart i b hi h2 h3);have keep:dF ψ hp.get w w':=⟨n.keep.os,n.keep.tape,n.keep.output,n.keep.size,fun b hb hn=>n.keep.block b hb fun ho=>hn (bL b ho)⟩;have sm:cW Z w w':=keep.same g;have ids:∀i,(gG ft hp h1).get i≠none→(hp.get i≠none∧fz i=ψ i)∨N i:=fun i hi=>by
  rw[gf]at hi;by_cases hf:i∈ft
  ·rw[if_pos hf]at hi;exact .inl ⟨hi,p1 i hf⟩
  ·rw[if_neg hf]at hi;rcases n.ids i hi with⟨h2,h3⟩|h2
   ·rw[gd,if_neg hf]at h2;exact .inl ⟨h2,(p2 i hf).trans h3⟩
   ·exact .inr h2
 have nz:∀i b,i∈ft→hp.get i≠none→ob (ψ i)=some b→¬Z' b:=fun i b hi h2 h3 hz=>by
  rcases n.fS b hz with h4|h4|h4
  ·exact(g.live i b h2 h3).1 h4
  ·exact apart i b hi h2 h3 h4
  ·have:=g.ck ⟨i,h2,h3⟩;omega
 refine⟨fz,⟨n.g9,fun b hb=>(n.fS b hb).imp (fun h=>h) (fun h=>h.imp (bL b) fun h=>h),keep,ids,⟨fun i ty cs hb=>?_,fun i ok x hb=>?_,fun i b h2 h3=>?_,fun i j b h2 h3 h4 h5=>?_,n.fq.kT⟩⟩,p2⟩
 ·rw[gf]at hb;by_cases hf:i∈ft
  ·rw[if_pos hf]at hb;obtain⟨gg,vs,e1,e2,e3,e4⟩:=g.box i ty cs hb;refine⟨gg,vs,by rw[p1 i hf,e1],(dv i gg hf (by rw[hb];simp) (by rw[e1];rfl)).trans e2,e3.move n.g9 sm (fun j hj bp=>(ids j bp).resolve_right hj) (bD i ty cs hb),e4⟩
  ·rw[if_neg hf]at hb;obtain⟨gg,vs,e1,e2,e3,e4⟩:=n.fq.box i ty cs hb;refine⟨gg,vs,by rw[p2 i hf,e1],e2,e3.move (fun _ h=>h) (cW.refl _ _) (fun j hj bp=>?_) ((lU hc i _ hb).2 ty cs rfl),e4⟩;rw[gf,if_neg hj]at bp;exact⟨bp,p2 j hj⟩
 ·rw[gf]at hb;by_cases hf:i∈ft
  ·rw[if_pos hf]at hb;rw[p1 i hf];exact(g.row i ok x hb).kept n.g9 sm (fun b oJ=>dv i b hf (by rw[hb];simp) oJ)
  ·rw[if_neg hf]at hb;rw[p2 i hf];exact n.fq.row i ok x hb
 ·rw[gf]at h2;by_cases hf:i∈ft
  ·rw[if_pos hf]at h2;rw[p1 i hf]at h3;exact⟨nz i b hf h2 h3,(g.live i b h2 h3).2⟩
  ·rw[if_neg hf]at h2;rw[p2 i hf]at h3;obtain⟨h4,h5⟩:=n.fq.live i b h2 h3;refine⟨h4,h5.elim (fun h=>.inl (acH hB h)) fun h=>?_⟩;obtain⟨j,h6,h7⟩:=bL b h;exact(g.live j b h6 h7).2
 ·have mixed:∀i j b,i∈ft→j∉ft→(gG ft hp h1).get i≠none→(gG ft hp h1).get j≠none→ob (fz i)=some b→ob (fz j)=some b→False:=fun i j b hi hj h2 h3 h4 h5=>by
   rw[gf,if_pos hi]at h2;rw[gf,if_neg hj]at h3;rw[p1 i hi]at h4;rw[p2 j hj]at h5;rcases (n.fq.live j b h3 h5).2 with h6|h6
   ·have:=g.ck ⟨i,h2,h4⟩;omega
   ·exact apart i b hi h2 h4 h6
  by_cases hi:i∈ft<;>by_cases hj:j∈ft
  ·rw[gf,if_pos hi]at h2;rw[gf,if_pos hj]at h3;rw[p1 i hi]at h4;rw[p1 j hj]at h5;exact g.apart i j b h2 h3 h4 h5
  ·exact(mixed i j b hi hj h2 h3 h4 h5).elim
  ·exact(mixed j i b hj hi h3 h2 h5 h4).elim
  ·rw[gf,if_neg hi]at h2;rw[gf,if_neg hj]at h3;rw[p2 i hi]at h4;rw[p2 j hj]at h5;exact n.fq.apart i j b h2 h3 h4 h5
theorem J.opF(E:Env P Eqs Sg F){rid n i:Nat}{p:Nat→Prop}{T:Nat→AV}{a:Act}{s:List (Nat×AV)}{o:Oper}(hS:makes o.op=true→∀id,p id→¬Of rid i id){hp h1:Heap}{v:AV}{ft:List Nat}(j:J p n Z0 w0 O ψ0 Z ψ T hp.get a w)(hd:jG n o=true) (hT:∀x∈o.op.operands,aD Z ψ hp.get w (ρ s x) (a.eval x)) (hTm:∀x∈o.op.operands,aS p (ρ s x)) (he:dy P Eqs Sg F (opId rid i) (jl hp ft) s o some=some (.wr v h1)) (hc:nG ft (.wr v h1)=true) {p':Nat→Prop} (TC:∀k,p k→p' k) (hv:aS p' v) (hh':vR p' (gG ft hp h1).get) {next:Act→World→Prop} {Q:Exit→Act→World→Prop} (hk:∀a' w' Z' ψ',J p' n Z0 w0 O ψ0 Z' ψ' (j9 T o.dst v) (gG ft hp h1).get a' w'→next a' w'):o.wp P a w next Q:=by
 have nof:∀id,p id→¬(makes o.op=true∧Of rid i id):=fun id h ⟨h1,h2⟩=>hS h1 id h h2;simp only[nG,Bool.and_eq_true]at hc;have bL:∀id o,(jl hp ft).get id=some o→hp.get id=some o:=fun id o h=>by rw[qw]at h;split at h;cases h;exact h
 have bp:∀id,(jl hp ft).get id≠none→hp.get id≠none:=fun id h=>by obtain⟨o,ho⟩:=abT.1 h;rw[bL id o ho];simp
 have bD:∀i' ty cs,hp.get i'=some (.box ty cs)→aJ (fun id=>¬(makes o.op=true∧Of rid i id)) cs:=fun id ty cs hb=>(j.hm id ty cs hb).imp nof;have gs:Good Z ψ (jl hp ft).get w w.heap.size (Own ψ (jl hp ft).get):=(j.ok.fq.sub bL).IN _;refine aaF (N:=fun id=>makes o.op=true∧Of rid i id) E gs (abZ _) (fun _ _ h=>h) (id:=opId rid i) (fun hm k hk=>⟨hm,PE hk⟩) (fun x hx=>(hT x hx).sL bL) (fun x hx=>(hTm x hx).imp nof) (fun id ty cs hb=>bD id ty cs (bL _ _ hb)) (fun _ _ _=>rfl) he fun V w' Z' ψ' nx hr=>?_;obtain⟨fz,n2,h2⟩:=Next.frame j.ok.fq j.ok.size bD nx hc.2;have DU:aD Z' fz (gG ft hp h1).get w' v V:=hr.move (p:=fun i=>i∉ft) (fun _ h=>h) (cW.refl _ _) (fun k hk bp=>by rw[lS,if_neg hk]at bp;exact⟨bp,h2 k hk⟩) (Bv hc.1);refine hk _ w' Z' fz ⟨j.ok.next (fun id h=>by have:=h.2;unfold Of at this;omega) n2,(j.tr.next j.ok.fq n2 (fun d=>(j.tm d).imp nof)).put hd DU,fun d=>?_,hh'⟩
 cases mz:o.dst with
 |none=>exact(j.tm d).imp TC
 |some d0 =>
  simp only[j9,fE]
  split
  ·exact hv
  ·exact(j.tm d).imp TC
end Go.Vs
namespace Go.Vs
variable {P:Program} {Eqs:TypeId→Option K} {Sg:FuncId→Option aX} {F:(f:FuncId)→(g:aX)→g.A→Option g.B} {R:Type}
variable {Z Z' Z0:Nat→Prop} {ψ ψ':Nat→Value} {h h':Hp} {w w' w0:World} {B0:Nat} {O N:Nat→Prop}
variable {rid n:Nat} {ops:Array Oper} {b:Array Nat}
def uQ(b:Array Nat)(i j:Nat):Prop:=(b.getD i 0).testBit j=true
theorem Hk(b:Array Nat)(j:Nat):∀(l:List Edge) (s:Nat),(l.foldl (fun s e=>if Region.binds .any e then s ||| 2 ^ e.on ||| b.getD e.on 0 else s) s).testBit j=true ↔
  s.testBit j=true∨∃e∈l,Region.binds .any e=true∧(j=e.on∨uQ b e.on j)
 |[],s=>by simp
 |e::l,s=>by
  rw[List.foldl_cons,Hk b j l];by_cases hb:Region.binds .any e=true
  ·rw[if_pos hb];have h2:(2 ^ e.on).testBit j=true↔j=e.on:=by rw[Nat.testBit_two_pow];simp[eq_comm]
   simp only[Nat.testBit_or,Bool.or_eq_true,h2,List.mem_cons,exists_eq_or_imp,hb,true_and,uQ];constructor
   ·rintro(((h|h)|h)|h)
    ·exact .inl h
    ·exact .inr (.inl (.inl h))
    ·exact .inr (.inl (.inr h))
    ·exact .inr (.inr h)
   ·rintro(h|(h|h)|h)
    ·exact .inl (.inl (.inl h))
    ·exact .inl (.inl (.inr h))
    ·exact .inl (.inr h)
    ·exact .inr h
  ·rw[if_neg hb];simp[hb]
theorem Cv(hb:xx ops b=true){i j:Nat}{o:Oper}(ho:ops[i]? = some o):uQ b i j↔∃e∈o.after.toList,Region.binds .any e=true∧(j=e.on∨uQ b e.on j):=by have aK:=(abv.1 ho).1;have h1:=acQ.1 hb i (adz.2 aK);rw[ho]at h1;simp only[Bool.and_eq_true,beq_iff_eq]at h1;unfold uQ;rw[h1.2,Hk];simp[uQ]
theorem NT(hb:xx ops b=true){i:Nat}{o:Oper}(ho:ops[i]? = some o){e:Edge}(he:e∈o.after.toList)(RE:Region.binds .any e=true):e.on<i:=by have aK:=(abv.1 ho).1;have h1:=acQ.1 hb i (adz.2 aK);rw[ho]at h1;simp only[Bool.and_eq_true]at h1;have:=acQ.1 h1.1 e he;simpa[RE] using this
theorem DV(hb:xx ops b=true):∀(i j:Nat),i<ops.size→uQ b i j→j<i:=by
 intro i
 induction i using Nat.strongRecOn with
 |ind i ih =>
  intro j hi h;obtain⟨e,he,RE,h1⟩:=(Cv hb (ach hi)).1 h;have hon:=NT hb (ach hi) he RE;rcases h1 with rfl|h1
  ·exact hon
  ·exact Nat.lt_trans (ih e.on hon j (by omega) h1) hon
theorem Hl(hb:xx ops b=true):∀(i j k:Nat),i<ops.size→uQ b i j→uQ b j k→uQ b i k:=by
 intro i
 induction i using Nat.strongRecOn with
 |ind i ih =>
  intro j k hi h h';obtain⟨e,he,RE,h1⟩:=(Cv hb (ach hi)).1 h;have hon:=NT hb (ach hi) he RE;refine(Cv hb (ach hi)).2 ⟨e,he,RE,?_⟩;rcases h1 with rfl|h1
  ·exact .inr h'
  ·exact .inr (ih e.on hon j k (by omega) h1 h')
theorem get_filter(f:Nat→Bool):∀(hh:Heap) (i:Nat),Heap.get (hh.filter fun p=>f p.1) i=if f i then hh.get i else none
 |[],i=>by simp[Heap.get]
 |(j,o)::r,i=>by
  rw[List.filter_cons]
  split
  ·rename_i hj;simp only[Heap.get];by_cases e:j=i
   ·subst e;simp only at hj;simp[hj]
   ·simp only[if_neg e];exact get_filter f r i
  ·rename_i hj;rw[get_filter f r i];simp only[Heap.get];by_cases e:j=i
   ·subst e;simp only at hj;simp[hj]
   ·simp only[if_neg e]
theorem RU(rid Nm:Nat)(hh:Heap)(id:Nat):(ahead rid Nm hh).get id=if tc rid Nm id then hh.get id else none:=by unfold ahead;exact get_filter (fun i=>tc rid Nm i) hh id
theorem Uz(ft:List Nat)(hp:Heap)(e:bZ):(jf ft hp e).v=e.v:=by cases e<;>rfl
theorem KS{id:Nat}{hh:Heap}{s:List (Nat×AV)}{o:Oper}{x:Operand}{e:bZ}(hl:jc o.op=some x)(he:dy P Eqs Sg F id hh s o some=some e):∃v,e=.val v:=by
 obtain⟨dst,op,type,pos,after,guard⟩:=o
 cases op<;>simp only[jc]at hl<;>first|(cases hl;done)|skip
 case load t a =>
  simp only[dy,nF]at he
  repeat' (first|(cases he;done)|exact⟨_,(abK he).symm⟩|split at he)
  all_goals
   obtain⟨y,_,he⟩:=acR.1 he
   split at he<;>first|(cases he;done)|exact⟨_,(abK he).symm⟩
 case indexAddr t a i =>
  simp only[dy,eI]at he
  repeat' (first|(cases he;done)|exact⟨_,(abK he).symm⟩|split at he)
  all_goals first
   |(obtain⟨y,_,he⟩:=acR.1 he;exact⟨_,(abK he).symm⟩)
   |(unfold cond at he;split at he<;>first|(cases he;done)|exact⟨_,(abK he).symm⟩)
theorem z6{op:Op}{x:Operand}(hl:jc op=some x):pJ op=false∧Ch op=false:=by cases op<;>simp only[jc]at hl<;>first|(cases hl;done)|exact⟨rfl,rfl⟩
theorem NU{id:Nat}{hh h2:Heap}{s:List (Nat×AV)}{o:Oper}{x:Operand}(hl:jc o.op=some x)(hg:∀i∈sD (ρ s x),h2.get i=hh.get i):dy P Eqs Sg F id h2 s o some=dy P Eqs Sg F id hh s o some:=by
 obtain⟨dst,op,type,pos,after,guard⟩:=o
 cases op<;>simp only[jc]at hl<;>first|(cases hl;done)|skip
 case load t a =>
  cases hl
  simp only[dy,nF]
  cases hv:ρ s x with
  |ref i s' j off=>rw[hv]at hg;simp only[sD,List.mem_singleton,forall_eq]at hg;simp only[hg]
  |_=>rfl
 case indexAddr t a i =>
  cases hl
  simp only[dy,eI]
  cases A1 P t with
  |none=>rfl
  |some e =>
   simp only[]
   cases hv:ρ s x with
   |bY k =>
    rw[hv]at hg;have Dt:=hg k (by simp[sD])
    cases ρ s i<;>first|rfl|simp only[Dt]
   |sl ex k xs=>cases ρ s i<;>rfl
   |_=>rfl
def sG(ops:Array Oper)(T:Nat→AV)(o:Oper)(t:Bool):Prop :=match o.guard with
 |none=>t=true
 |some (j,want)=>∃d,(ops[j]?).bind (·.dst)=some d∧((∃u,T d=.bool u∧(u==want)=t)∨(∃vs,T d=.pH vs∧t=false))
def DW(P:Program)(Eqs:TypeId→Option K)(Sg:FuncId→Option aX)(F:(f:FuncId)→(g:aX)→g.A→Option g.B)(rid:Nat)(ops:Array Oper)(b:Array Nat)(T:Nat→Nat→AV)(H:Nat→Hp)(E:Nat→Option bZ)(k:Nat)(o:Oper):Prop :=(∃e s hh,E k=some e∧look s=T k∧(∀id,Heap.get hh id=if tc rid (b.getD k 0) id then H k id else none)∧(∃e0,dy P Eqs Sg F (opId rid k) (jl hh (je ops b k s o)) s o some=some e0∧e=jf (je ops b k s o) hh e0∧nG (je ops b k s o) e0=true) ∧
  iV true rid ops b k (b.getD k 0) e=true∧sG ops (T k) o true∧T (k+1)=j9 (T k) o.dst e.v∧H (k+1)=e.hp (H k)) ∨
 (E k=none∧sG ops (T k) o false∧T (k+1)=j9 (T k) o.dst (.pH [])∧H (k+1)=H k)
theorem trace{kk:St→Option R}{r:R}:∀(l:List (Nat×Oper)) (i:Nat) (st:St),DS ops i l→l.length=ops.size-i→bQ P Eqs Sg F rid true ops b l st kk=some r → ∃(T:Nat→Nat→AV) (H:Nat→Hp) (E:Nat→Option bZ),T i=look st.tmps∧H i=st.heap.get∧(∀k o,i≤k→ops[k]? = some o→DW P Eqs Sg F rid ops b T H E k o) ∧ ∃fR,kk fR=some r∧look fR.tmps=T (max i ops.size)∧fR.heap.get=H (max i ops.size)
 |[],i,st,_,hlen,hx=>by
  have hge:ops.size≤i:=by simp at hlen;omega
  refine⟨fun _=>look st.tmps,fun _=>st.heap.get,fun _=>none,rfl,rfl,fun k o hk ho=>?_,st,hx,rfl,rfl⟩;have:=(abv.1 ho).1;omega
 |(i',o)::l,i,st,hl,hlen,hx=>by
  obtain⟨rfl,ho,hl⟩:=hl;have aK:=(abv.1 ho).1;have ih:=trace (kk:=kk) (r:=r) l (i'+1);have aez:l.length=ops.size-(i'+1):=by simp at hlen;omega
  have glue:∀(fR:St) (oe:Option bZ),bQ P Eqs Sg F rid true ops b l fR kk=some r →(∀T H E,T i'=look st.tmps→H i'=st.heap.get→E i'=oe→T (i'+1)=look fR.tmps→H (i'+1)=fR.heap.get→DW P Eqs Sg F rid ops b T H E i' o) → ∃(T:Nat→Nat→AV) (H:Nat→Hp) (E:Nat→Option bZ),T i'=look st.tmps∧H i'=st.heap.get∧(∀k o,i'≤k→ops[k]? = some o→DW P Eqs Sg F rid ops b T H E k o) ∧ ∃fR,kk fR=some r∧look fR.tmps=T (max i' ops.size)∧fR.heap.get=H (max i' ops.size):=by
   intro fR oe hx' xH;obtain⟨T,H,E,h1,h2,h3,akb,h4,h5,h6⟩:=ih fR hl aez hx';refine⟨fun k=>if k≤i' then look st.tmps else T k,fun k=>if k≤i' then st.heap.get else H k,fun k=>if k=i' then oe else E k,by simp,by simp,fun k o' hk pP => ?_,akb,h4,?_,?_⟩
   ·by_cases hki:k=i'
    ·subst hki;rw[ho]at pP
     cases pP
     exact xH _ _ _ (by simp) (by simp) (by simp) (by show(if k+1≤k then _ else _)=_;rw[if_neg (by omega)];exact h1) (by show(if k+1≤k then _ else _)=_;rw[if_neg (by omega)];exact h2)
    ·have h7:=h3 k o' (by omega) pP;unfold DW at h7 ⊢;simp only[show ¬k≤i' by omega,show ¬k+1≤i' by omega,hki,if_false];exact h7
   ·rw[h5];simp only[show max (i'+1) ops.size=ops.size by omega,show max i' ops.size=ops.size by omega,show ¬ops.size≤i' by omega,if_false]
   ·rw[h6];simp only[show max (i'+1) ops.size=ops.size by omega,show max i' ops.size=ops.size by omega,show ¬ops.size≤i' by omega,if_false]
  have runs:∀jN:St,look jN.tmps=look st.tmps→jN.heap=st.heap→sG ops (look st.tmps) o true →(dy P Eqs Sg F (opId rid i') (jl (ahead rid (b.getD i' 0) jN.heap) (je ops b i' jN.tmps o)) jN.tmps o fun e=>if(iV true rid ops b i' (b.getD i' 0) (jf (je ops b i' jN.tmps o) (ahead rid (b.getD i' 0) jN.heap) e)&&nG (je ops b i' jN.tmps o) e)=true then bQ P Eqs Sg F rid true ops b l ({ jN with heap:=match jf (je ops b i' jN.tmps o) (ahead rid (b.getD i' 0) jN.heap) e with | .wr _ h=>h|e=>e.h jN.heap }.put o.dst e.v) kk else none)=some r →
    ∃(T:Nat→Nat→AV) (H:Nat→Hp) (E:Nat→Option bZ),T i'=look st.tmps∧H i'=st.heap.get∧(∀k o,i'≤k→ops[k]? = some o→DW P Eqs Sg F rid ops b T H E k o) ∧ ∃fR,kk fR=some r∧look fR.tmps=T (max i' ops.size)∧fR.heap.get=H (max i' ops.size):=by
   intro jN h1 h2 hw hx;rw[nh]at hx;obtain⟨e,he,hx⟩:=acR.1 hx
   split at hx
   ·rename_i nL;rw[Bool.and_eq_true]at nL;generalize zp:jf (je ops b i' jN.tmps o) (ahead rid (b.getD i' 0) jN.heap) e=e1 at hx nL;have vL:e.v=e1.v:=by rw[←zp];exact(Uz _ _ _).symm
    refine glue _ (some e1) hx fun T H E hT hH hE hT' hH' => ?_;refine .inl ⟨e1,jN.tmps,_,hE,by rw[hT,h1],fun id=>by rw[RU,hH,h2],⟨e,he,zp.symm,nL.2⟩,nL.1,by rw[hT];exact hw,?_,?_⟩
    ·rw[hT',js,hT,vL];simp only[h1]
    ·rw[hH',dJ,hH];have:(bZ.heap e1 jN.heap).get=e1.hp st.heap.get:=by rw[bZ.KP,h2]
     exact this
   ·cases hx
  have xX:∀jN:St,look jN.tmps=look st.tmps→jN.heap=st.heap→sG ops (look st.tmps) o false → bQ P Eqs Sg F rid true ops b l (jN.put o.dst (.pH [])) kk=some r → ∃(T:Nat→Nat→AV) (H:Nat→Hp) (E:Nat→Option bZ),T i'=look st.tmps∧H i'=st.heap.get∧(∀k o,i'≤k→ops[k]? = some o→DW P Eqs Sg F rid ops b T H E k o) ∧ ∃fR,kk fR=some r∧look fR.tmps=T (max i' ops.size)∧fR.heap.get=H (max i' ops.size):=by
   intro jN h1 h2 hw hx;refine glue _ none hx fun T H E hT hH hE hT' hH'=>.inr ⟨hE,by rw[hT];exact hw,?_,?_⟩
   ·rw[hT',js,hT,h1]
   ·rw[hH',dJ,hH,h2]
  rw[bQ]at hx;simp only[if_true]at hx
  split at hx
  ·rename_i hg;exact runs st rfl rfl (by simp[sG,hg]) hx
  ·rename_i jj want hg
   split at hx
   ·cases hx
   ·rename_i d hd
    split at hx
    ·rename_i t ht;have hp:∀b,t=b→look (st.put (some d) (.bool b)).tmps=look st.tmps:=fun b hb=>by subst hb;rw[js];exact Hh ht
     have hw:∀c,(t==want)=c→sG ops (look st.tmps) o c:=fun c hc=>by unfold sG;rw[hg];exact⟨d,hd,.inl ⟨t,ht,hc⟩⟩
     cases t<;>simp only[cond_true,cond_false]at hx<;>split at hx<;>rename_i tC
     ·exact xX _ (hp false rfl) (dJ _ _ _) (hw _ (by simp[tC])) hx
     ·exact runs _ (hp false rfl) (dJ _ _ _) (hw _ (by simp[tC])) hx
     ·exact runs _ (hp true rfl) (dJ _ _ _) (hw _ (by simp[tC])) hx
     ·exact xX _ (hp true rfl) (dJ _ _ _) (hw _ (by simp[tC])) hx
    ·rename_i vs ht;exact xX st rfl rfl (by unfold sG;rw[hg];exact⟨d,hd,.inr ⟨vs,ht,rfl⟩⟩) hx
    ·cases hx
def Nf(ops:Array Oper)(j:Nat):Prop:=∃o,ops[j]? = some o∧pJ o.op=false∧jc o.op=none
def Cw(E:Nat→Option bZ)(k:Nat):Prop:=∃v h',E k=some (.wr v h')
def IsN(E:Nat→Option bZ)(k:Nat):Prop:=∃v os,E k=some (.new v os)
theorem xY{α:Type}(f:α→Option Nat):∀(l:List α),cI (l.filterMap f)=true→∀(i j:Nat) (x y:α) (d:Nat),l[i]? = some x→l[j]? = some y→f x=some d→f y=some d→i=j
 |[],_,i,j,x,y,d,hi,_,_,_=>by simp at hi
 |a::r,hn,i,j,x,y,d,hi,hj,hx,hy=>by
  have iz:∀(k:Nat) (z:α),r[k]? = some z→f z=some d→d∈r.filterMap f:=fun k z hk hz=>ad9.2 ⟨z,ab1 hk,hz⟩;have hr:cI (r.filterMap f)=true∧∀c,f a=some c→c∉r.filterMap f:=by
   rw[List.filterMap_cons]at hn
   split at hn
   ·rename_i h0;exact⟨hn,fun c hc=>by rw[h0]at hc;cases hc⟩
   ·rename_i c h0;simp only[cI,Bool.and_eq_true,Bool.not_eq_true']at hn;refine⟨hn.2,fun c' hc=>?_⟩;rw[h0]at hc;cases hc;intro hm;rw[List.contains_iff_mem.2 hm]at hn;simp at hn
  cases i with
  |zero =>
   cases j with
   |zero=>rfl
   |succ j =>simp only[List.getElem?_cons_zero,Option.some.injEq]at hi;subst hi;exact absurd (iz j y (by simpa using hj) hy) (hr.2 d hx)
  |succ i =>
   cases j with
   |zero =>simp only[List.getElem?_cons_zero,Option.some.injEq]at hj;subst hj;exact absurd (iz i x (by simpa using hi) hx) (hr.2 d hy)
   |succ j=>rw[xY f r hr.1 i j x y d (by simpa using hi) (by simpa using hj) hx hy]
structure Dr(P:Program)(Eqs:TypeId→Option K)(Sg:FuncId→Option aX)(F:(f:FuncId)→(g:aX)→g.A→Option g.B)(rid n:Nat)(ops:Array Oper)(b:Array Nat)(T:Nat→Nat→AV)(H:Nat→Hp)(E:Nat→Option bZ):Prop where
 size:ops.size≤128
 TD:xx ops b=true
 pair:C9 ops b=true
 akd:∀(i:Nat) (o:Oper),ops[i]? = some o→jG n o=true
 nodup:cI (ops.toList.filterMap (·.dst))=true
 step:∀k o,ops[k]? = some o→DW P Eqs Sg F rid ops b T H E k o
 ake:∀id,H 0 id≠none→id / 32768≠rid+1
section
variable {T:Nat→Nat→AV} {H:Nat→Hp} {E:Nat→Option bZ}
theorem Dr.Cx(D:Dr P Eqs Sg F rid n ops b T H E){i j:Nat}{x y:Oper}{d:Nat}(hi:ops[i]? = some x)(hj:ops[j]? = some y)(hx:x.dst=some d)(hy:y.dst=some d):i=j :=xY (·.dst) ops.toList D.nodup i j x y d (by simpa using hi) (by simpa using hj) hx hy
theorem Dr.aaI(D:Dr P Eqs Sg F rid n ops b T H E){i j:Nat}{x y:Oper}(hi:ops[i]? = some x)(hj:ops[j]? = some y)(Dy:i<j):uQ b j i∨x.apart ops y=true:=by have h1:=acQ.1 D.pair j (adz.2 (abv.1 hj).1);have h2:=acQ.1 h1 i (adz.2 Dy);rw[hi,hj]at h2;simp only[Bool.or_eq_true,Bool.and_eq_true]at h2;exact h2
theorem Dr.YN(D:Dr P Eqs Sg F rid n ops b T H E){k:Nat}{o:Oper}(ho:ops[k]? = some o){e:bZ}(he:E k=some e) :
  ∃s hh,look s=T k∧(∀id,Heap.get hh id=if tc rid (b.getD k 0) id then H k id else none)∧(∃e0,dy P Eqs Sg F (opId rid k) (jl hh (je ops b k s o)) s o some=some e0∧e=jf (je ops b k s o) hh e0∧nG (je ops b k s o) e0=true) ∧
   iV true rid ops b k (b.getD k 0) e=true∧sG ops (T k) o true∧T (k+1)=j9 (T k) o.dst e.v∧H (k+1)=e.hp (H k):=by
 rcases D.step k o ho with⟨e',s,hh,h1,h2⟩|⟨h1,_⟩
 ·rw[he]at h1;cases h1;exact⟨s,hh,h2⟩
 ·rw[he]at h1;cases h1
theorem Dr.IW(D:Dr P Eqs Sg F rid n ops b T H E){k:Nat}{o:Oper}(ho:ops[k]? = some o)(he:E k=none) :
  sG ops (T k) o false∧T (k+1)=j9 (T k) o.dst (.pH [])∧H (k+1)=H k:=by
 rcases D.step k o ho with⟨e',s,hh,h1,h2⟩|⟨h1,h2⟩
 ·rw[he]at h1;cases h1
 ·exact h2
theorem Dr.z7(D:Dr P Eqs Sg F rid n ops b T H E){k:Nat}(hk:k<ops.size)(h:IsN E k):Nf ops k:=by
 obtain⟨v,os,he⟩:=h;obtain⟨s,hh,_,_,⟨e0,h3,he0,_⟩,_⟩:=D.YN (ach hk) he;refine⟨_,ach hk,?_,?_⟩
 ·cases hf:pJ (ops[k]).op with
  |false=>rfl
  |true=>obtain⟨v',rfl⟩:=KK hf h3;cases he0
 ·cases hf:jc (ops[k]).op with
  |none=>rfl
  |some x=>obtain⟨v',rfl⟩:=KS hf h3;cases he0
theorem Dr.UA(D:Dr P Eqs Sg F rid n ops b T H E){k:Nat}(hk:k<ops.size)(h:Cw E k):Nf ops k:=by
 obtain⟨v,os,he⟩:=h;obtain⟨s,hh,_,_,⟨e0,h3,he0,_⟩,_⟩:=D.YN (ach hk) he;refine⟨_,ach hk,?_,?_⟩
 ·cases hf:pJ (ops[k]).op with
  |false=>rfl
  |true=>obtain⟨v',rfl⟩:=KK hf h3;cases he0
 ·cases hf:jc (ops[k]).op with
  |none=>rfl
  |some x=>obtain⟨v',rfl⟩:=KS hf h3;cases he0
theorem Dr.DX(D:Dr P Eqs Sg F rid n ops b T H E){k j:Nat}(hk:k<ops.size)(h:Cw E k)(hj:Nf ops j)(bp:j≠k):(j<k∧uQ b k j)∨(k<j∧uQ b j k):=by
 obtain⟨v,os,he⟩:=h;obtain⟨s,hh,_,_,_,h4,_⟩:=D.YN (ach hk) he;obtain⟨o,ho,hf,TA⟩:=hj;have M8:=(abv.1 ho).1;simp only[iV,Bool.and_eq_true]at h4;have h5:Nl ops b k=true:=by simpa using h4.1.1
 have h6:=acQ.1 h5 j (adz.2 M8);have hlf:qn ops k j=false:=by unfold qn;rw[ho];simp only[Option.bind_some,TA]
 rw[hlf,ho]at h6;simp only[TA,Option.isSome_none,Bool.and_false,Bool.or_false]at h6;simp only[Bool.or_eq_true,beq_iff_eq,hf,Bool.false_eq_true,or_false]at h6;rcases h6 with(h6|h6)|h6
 ·exact absurd h6 bp
 ·exact .inr ⟨DV D.TD j k M8 h6,h6⟩
 ·exact .inl ⟨DV D.TD k j hk h6,h6⟩
theorem Dr.DY(D:Dr P Eqs Sg F rid n ops b T H E){p:Nat}:∀(q:Nat),p≤q→q≤ops.size→∀id,(∀k,p≤k→k<q→Cw E k→H (k+1) id=H k id)→(∀k,p≤k→k<q→IsN E k→¬Of rid k id)→H q id=H p id:=by
 intro q
 induction q with
 |zero=>intro xq _ id _ _;rw[Nat.le_zero.1 xq]
 |succ q ih =>
  intro xq hq id hw bV;by_cases he:p=q+1
  ·rw[he]
  ·have h1:=ih (by omega) (by omega) id (fun k h1 h2=>hw k h1 (by omega)) (fun k h1 h2=>bV k h1 (by omega));rw[←h1];have ho:=ach (show q<ops.size by omega)
   cases hE:E q with
   |none=>rw[(D.IW ho hE).2.2]
   |some e =>
    obtain⟨s,hh,_,_,_,h4,_,_,h7⟩:=D.YN ho hE
    cases e with
    |val v=>rw[h7];rfl
    |wr v h'=>exact hw q (by omega) (by omega) ⟨v,h',hE⟩
    |new v os =>
     rw[h7];simp only[bZ.hp]
     cases Ty:Heap.get os id with
     |none=>rfl
     |some o' =>
      exfalso;simp only[iV,Bool.and_eq_true]at h4;refine bV q (by omega) (by omega) ⟨v,os,hE⟩ ?_;have:∀(l:Heap),(l.all fun p=>p.1 / 256==(rid+1)*128+q)=true→∀o',l.get id=some o'→Of rid q id:=by
       intro l
       induction l with
       |nil=>intro _ o' h;simp[Heap.get]at h
       |cons a r ihl =>
        intro gO o' hg;simp only[List.all_cons,Bool.and_eq_true,beq_iff_eq]at gO;simp only[Heap.get]at hg
        split at hg
        ·rename_i e;rw[←e];exact gO.1
        ·exact ihl gO.2 o' hg
      exact this os h4.1.2 o' Ty
theorem Dr.Cz(D:Dr P Eqs Sg F rid n ops b T H E){p:Nat}(q:Nat)(xq:p≤q)(hq:q≤ops.size)(hw:∀k,p≤k→k<q→¬Cw E k)(id:Nat)(hn:∀k,p≤k→k<q→IsN E k→¬Of rid k id):H q id=H p id :=D.DY q xq hq id (fun k h1 h2 h3=>absurd h3 (hw k h1 h2)) hn
theorem Dr.names(D:Dr P Eqs Sg F rid n ops b T H E):∀(k:Nat),k≤ops.size→∀id,H k id≠none→id / 32768=rid+1→∃j,Of rid j id∧j<k∧j<128∧(IsN E j∨∃w,w<k∧Cw E w∧(j=w∨uQ b w j)):=by
 intro k
 induction k with
 |zero=>intro _ id h1 h2;exact absurd h2 (D.ake id h1)
 |succ k ih =>
  intro hk id h1 h2;have aK:k<ops.size:=by omega
  have up:H k id≠none→∃j,Of rid j id∧j<k+1∧j<128∧(IsN E j∨∃w,w<k+1∧Cw E w∧(j=w∨uQ b w j)):=fun h=>by obtain⟨j,h3,h4,h4',h5⟩:=ih (by omega) id h h2;exact⟨j,h3,by omega,h4',h5.imp (fun h=>h) fun⟨w,h6,h7⟩=>⟨w,by omega,h7⟩⟩
  have ho:=ach aK;have UB:=D.size
  cases hE:E k with
  |none=>rw[(D.IW ho hE).2.2]at h1;exact up h1
  |some e =>
   obtain⟨s,hh,_,_,_,h4,_,_,h7⟩:=D.YN ho hE;rw[h7]at h1
   cases e with
   |val v=>exact up h1
   |wr v h' =>
    obtain⟨o',pP⟩:=abT.1 h1;simp only[iV,Bool.and_eq_true]at h4;have h5:(b.getD k 0 ||| 2 ^ k).testBit (id / 256%128)=true:=(nX (S:=fun j=>(b.getD k 0 ||| 2 ^ k).testBit j=true) (fun j hj=>hj) h4.2 id o' pP).1 h2;rw[Nat.testBit_or,Bool.or_eq_true,Nat.testBit_two_pow]at h5;refine⟨id / 256%128,Of.of h2 rfl,?_,by omega,.inr ⟨k,by omega,⟨v,h',hE⟩,?_⟩⟩
    ·rcases h5 with h5|h5
     ·have:=DV D.TD k _ aK h5;omega
     ·have:=of_decide_eq_true h5;omega
    ·rcases h5 with h5|h5
     ·exact .inr h5
     ·exact .inl (of_decide_eq_true h5).symm
   |new v os =>
    simp only[bZ.hp]at h1
    cases Ty:Heap.get os id with
    |none=>rw[Ty]at h1;exact up h1
    |some o' =>
     simp only[iV,Bool.and_eq_true]at h4;have:∀(l:Heap),(l.all fun p=>p.1 / 256==(rid+1)*128+k)=true→∀o',l.get id=some o'→Of rid k id:=by
      intro l
      induction l with
      |nil=>intro _ o' h;simp[Heap.get]at h
      |cons a r ihl =>
       intro gO o' hg;simp only[List.all_cons,Bool.and_eq_true,beq_iff_eq]at gO;simp only[Heap.get]at hg
       split at hg
       ·rename_i e;rw[←e];exact gO.1
       ·exact ihl gO.2 o' hg
     exact⟨k,this os h4.1.2 o' Ty,by omega,by omega,.inl ⟨v,os,hE⟩⟩
theorem Dr.ab2(D:Dr P Eqs Sg F rid n ops b T H E){q:Nat}(rf:q<ops.size)(YO:Cw E q):∀id,H q id≠none→oL rid (uQ b q) id:=fun id bp UC=>by
 obtain⟨j,h1,h2,h2',h3⟩:=D.names q (by omega) id bp UC;rw[(h1.parts h2').2];rcases h3 with h3|⟨w',h5,h6,h8⟩
 ·rcases D.DX rf YO (D.z7 (by omega) h3) (by omega) with⟨_,h9⟩|⟨h9,_⟩
  ·exact h9
  ·omega
 ·have TE:uQ b q w':=by
   rcases D.DX rf YO (D.UA (by omega) h6) (by omega) with⟨_,h9⟩|⟨h9,_⟩
   ·exact h9
   ·omega
  rcases h8 with rfl|h8
  ·exact TE
  ·exact Hl D.TD q w' j rf TE h8
theorem Dr.z8(D:Dr P Eqs Sg F rid n ops b T H E){d p:Nat}:∀(q:Nat),p≤q→q≤ops.size→(∀m o,p≤m→m<q→ops[m]? = some o→o.dst≠some d)→T q d=T p d
 |0,h,_,_=>by rw[Nat.le_zero.1 h]
 |q+1,h,hq,hm=>by
  by_cases e:p=q+1
  ·rw[e]
  ·have ho:=ach (show q<ops.size by omega);have ih:=D.z8 q (by omega) (by omega) fun m o h1 h2=>hm m o h1 (by omega);rw[←ih];have hd:=hm q _ (by omega) (by omega) ho;have key:∀v,j9 (T q) (ops[q]).dst v d=T q d:=fun v=>by
    cases mz:(ops[q]).dst with
    |none=>rfl
    |some d' =>simp only[j9,fE];rw[if_neg];rintro rfl;exact hd mz
   rcases D.step q _ ho with⟨e,s,hh,_,_,_,_,_,_,h7,_⟩|⟨_,_,h3,_⟩
   ·rw[h7,key]
   ·rw[h3,key]
theorem Dr.steady(D:Dr P Eqs Sg F rid n ops b T H E){i k:Nat}{o:Oper}{x:Operand}(ho:ops[i]? = some o)(hl:jc o.op=some x)(hk:k<ops.size)(hw:Cw E k)(bp:i≠k)(h1:¬uQ b i k)(h2:¬uQ b k i) {s:List (Nat×AV)} (hs:look s=T i) (RV:uB ops b i s o=false) {id:Nat} (bV:id∈sD (ρ s x)):H (k+1) id=H k id:=by
 have rf:=(abv.1 ho).1;obtain⟨v,h',hE⟩:=hw;have nL:=ach hk;obtain⟨sk,hh,UD,YP,⟨e0,he0,zp,vv⟩,h4,_,_,h7⟩:=D.YN nL hE;simp only[iV,Bool.and_eq_true]at h4;have h5:Nl ops b k=true:=by simpa using h4.1.1
 have h6:=acQ.1 h5 i (adz.2 rf);rw[ho,nL]at h6;have b1:(b.getD i 0).testBit k=false:=Bool.eq_false_iff.2 h1;have b2:(b.getD k 0).testBit i=false:=Bool.eq_false_iff.2 h2;have b3:(i==k)=false:=by simp[bp]
 simp only[b1,b2,b3,(z6 hl).1,Bool.false_or,Bool.and_eq_true]at h6;obtain⟨Aa,h8⟩:=h6;have PF:qn ops k i=true:=by
  simp only[Bool.or_eq_true,Bool.and_eq_true]at h8;rcases h8 with h8|⟨h8,_⟩
  ·exact h8
  unfold uB at RV;rw[hl]at RV;simp only[h8,Bool.true_and]at RV;have Dk:(sD (ρ s x)).isEmpty=false:=by cases hq:sD (ρ s x) with
   |nil=>rw[hq]at bV;cases bV
   |cons _ _=>rfl
  simp only[Dk,Bool.not_false,Bool.true_and,Bool.not_eq_false']at RV;have h9:=acQ.1 RV k (adz.2 hk);rw[nL]at h9;have b4:(k==i)=false:=by simp[Ne.symm bp]
  simpa only[b1,b2,b4,Aa,Bool.not_true,Bool.false_or] using h9
 have hft:je ops b k sk ops[k]=abG ops b k sk:=by unfold je;rw[if_pos Aa]
 have qe:ρ sk x=ρ s x:=by
  cases x with
  |tmp d =>
   simp only[ρ,UD,hs];unfold qn at PF;rw[ho]at PF;simp only[Option.bind_some,hl]at PF;have hm:∀m o',min k i≤m→m<max k i→ops[m]? = some o'→o'.dst≠some d:=fun m o' g1 g2 g3 hd=>by have g4:=acQ.1 PF m (adz.2 (by omega));rw[g3]at g4;simp[hd,g1,g2]at g4
   rcases adT i k with g|g
   ·exact D.z8 k (by omega) (by omega) fun m o' g1 g2=>hm m o' (by omega) (by omega)
   ·exact(D.z8 i (by omega) (by omega) fun m o' g1 g2=>hm m o' (by omega) (by omega)).symm
  |_=>rfl
 have iz:id∈je ops b k sk ops[k]:=by rw[hft];unfold abG;refine List.mem_flatMap.2 ⟨i,adz.2 rf,?_⟩;rw[b1,b2,b3,ho];simp only[Bool.or_self,Bool.false_eq_true,if_false,Option.bind_some,hl];rw[qe];exact bV
 cases e0 with
 |val v0=>cases zp
 |new v0 os=>cases zp
 |wr v0 X4 =>
  cases zp
  simp only[nG,Bool.and_eq_true]at vv;have hn:X4.get id=none:=by
   cases e:X4.get id with
   |none=>rfl
   |some ob=>exact absurd iz (lU vv.2 id ob e).1
  rw[h7];show(gG _ hh X4).get id=H k id;rw[lS,if_pos iz,hn,YP id]
  cases akh:H k id with
  |none=>simp
  |some ob =>
   have h8:=D.ab2 hk ⟨_,_,hE⟩ id (by rw[akh];simp);have h9:tc rid (b.getD k 0) id=true:=by
    unfold tc;by_cases hr:id / 32768=rid+1
    ·have:=h8 hr;unfold uQ at this;rw[this];simp
    ·simp[hr]
   rw[if_pos h9]
end
end Go.Vs
namespace Go.Vs
variable {P:Program} {Eqs:TypeId→Option K} {Sg:FuncId→Option aX} {F:(f:FuncId)→(g:aX)→g.A→Option g.B} {R:Type}
variable {Z Z' Z0:Nat→Prop} {ψ ψ' ψ0:Nat→Value} {h h':Hp} {w w' w0:World} {B0:Nat} {O N:Nat→Prop}
variable {rid n:Nat} {ops:Array Oper} {b:Array Nat} {T:Nat→Nat→AV} {H:Nat→Hp} {E:Nat→Option bZ}
structure Dj(rid:Nat)(ops:Array Oper)(b:Array Nat)(T:Nat→Nat→AV)(H:Nat→Hp)(E:Nat→Option bZ)(S:Nat→Prop)(Tc:Nat→AV)(h:Hp):Prop where
 lt:∀i,S i→i<ops.size
 closed:∀i j,S i→uQ b i j→S j
 heap:∃q,q≤ops.size∧(∀k,k<q→Cw E k→S k)∧(q<ops.size→Cw E q∧¬S q)∧∀id,(oL rid S id→h id=H q id)∧(¬oL rid S id→h id=none)
 UE:∀j o d,S j→ops[j]? = some o→o.dst=some d→Tc d=T (j+1) d
 told:∀d,(∀j o,S j→ops[j]? = some o→o.dst≠some d)→Tc d=T 0 d
theorem Dr.UF(D:Dr P Eqs Sg F rid n ops b T H E){k:Nat}{o:Oper}(ho:ops[k]? = some o){d:Nat}(hd:o.dst≠some d):T (k+1) d=T k d:=by
 have:∀v,j9 (T k) o.dst v d=T k d:=fun v=>by
  cases mz:o.dst with
  |none=>rfl
  |some d' =>simp only[j9,fE];rw[if_neg];rintro rfl;exact hd mz
 rcases D.step k o ho with⟨e,s,hh,_,_,_,_,_,_,h7,_⟩|⟨_,_,h3,_⟩
 ·rw[h7,this]
 ·rw[h3,this]
theorem Dr.xZ(D:Dr P Eqs Sg F rid n ops b T H E){d:Nat}:∀(i:Nat),i≤ops.size→(∀k o,k<i→ops[k]? = some o→o.dst≠some d)→T i d=T 0 d
 |0,_,_=>rfl
 |i+1,hi,hk=>by rw[D.UF (Array.getElem?_eq_getElem (show i<ops.size by omega)) (hk i _ (by omega) (Array.getElem?_eq_getElem (by omega)))];exact D.xZ i (by omega) fun k o h1 h2=>hk k o (by omega) h2
theorem Dr.IX(D:Dr P Eqs Sg F rid n ops b T H E){d j:Nat}{oj:Oper}(hj:ops[j]? = some oj)(hd:oj.dst=some d):∀(i:Nat),i≤ops.size→j<i→T i d=T (j+1) d
 |0,_,h=>by omega
 |i+1,hi,h=>by
  by_cases e:j=i
  ·rw[e]
  ·have ho:=ach (show i<ops.size by omega);rw[D.UF ho (fun hdi=>e (D.Cx hj ho hd hdi))];exact D.IX hj hd i (by omega) (by omega)
theorem Dr.looks(D:Dr P Eqs Sg F rid n ops b T H E){S:Nat→Prop}{Tc:Nat→AV}(dj:Dj rid ops b T H E S Tc h){i:Nat}{o:Oper}(ho:ops[i]? = some o)(hS:¬S i)(hb:∀j,uQ b i j→S j){d:Nat}(hd:d∈o.looksAt ops):Tc d=T i d:=by
 have hi:=(abv.1 ho).1;by_cases hex:∃(j:Nat) (oj:Oper),ops[j]? = some oj∧oj.dst=some d
 ·obtain⟨j,oj,hj,hdj⟩:=hex;have dv:¬S j→Tc d=T 0 d:=fun hn=>dj.told d fun j' o' hs pP UG=>hn (by rw[D.Cx hj pP hdj UG];exact hs);have TD:i≤j→T i d=T 0 d:=fun Dy=>D.xZ i (by omega) fun k o' hk pP UG=>by have:=D.Cx hj pP hdj UG;omega
  rcases Nat.lt_trichotomy j i with aK|rfl|Nc
  ·rcases D.aaI hj ho aK with h1|h1
   ·rw[dj.UE j oj d (hb j h1) hj hdj,D.IX hj hdj i (by omega) aK]
   ·exact absurd hd ((Oper.apart_spec h1).1 d hdj)
  ·rw[dv hS,TD (Nat.le_refl _)]
  ·rcases D.aaI ho hj Nc with h1|h1
   ·rw[dv (fun hs=>hS (dj.closed j i hs h1)),TD (by omega)]
   ·exact absurd hd ((Oper.apart_spec h1).2.2 d hdj)
 ·rw[dj.told d fun j o' _ pP UG=>hex ⟨j,o',pP,UG⟩,D.xZ i (by omega) fun k o' _ pP UG=>hex ⟨k,o',pP,UG⟩]
theorem Dr.UH{S:Nat→Prop}{Tc:Nat→AV}(D:Dr P Eqs Sg F rid n ops b T H E)(dj:Dj rid ops b T H E S Tc h){i:Nat}{o:Oper}(ho:ops[i]? = some o)(hS:¬S i){v:AV}(hv:T (i+1)=j9 (T i) o.dst v) :
  (∀j o' d,(S j∨j=i)→ops[j]? = some o'→o'.dst=some d→j9 Tc o.dst v d=T (j+1) d)∧(∀d,(∀j o',(S j∨j=i)→ops[j]? = some o'→o'.dst≠some d)→j9 Tc o.dst v d=T 0 d):=by
 constructor
 ·intro j o' d hj pP hd;rcases hj with hj|rfl
  ·have bp:j≠i:=fun e=>hS (e▸hj);have:j9 Tc o.dst v d=Tc d:=by
    cases mz:o.dst with
    |none=>rfl
    |some d' =>simp only[j9,fE];rw[if_neg];rintro rfl;exact bp (D.Cx pP ho hd mz)
   rw[this];exact dj.UE j o' d hj pP hd
  ·rw[ho]at pP;cases pP;rw[hv,hd];simp[j9,fE]
 ·intro d hd;have:j9 Tc o.dst v d=Tc d:=by
   cases mz:o.dst with
   |none=>rfl
   |some d' =>simp only[j9,fE];rw[if_neg];rintro rfl;exact hd i o (.inr rfl) ho mz
  rw[this];exact dj.told d fun j o' hj=>hd j o' (.inl hj)
theorem ya{i k id:Nat}(h1:Of rid i id)(h2:Of rid k id):i=k:=by unfold Of at h1 h2;omega
section
variable {S:Nat→Prop} {Tc:Nat→AV}
theorem Dr.calm(D:Dr P Eqs Sg F rid n ops b T H E)(dj:Dj rid ops b T H E S Tc h){i q:Nat}(hi:Nf ops i)(hS:¬S i)(hq:q≤ops.size)(hw:∀k,k<q→Cw E k→S k):∀k,i≤k→k<q→¬Cw E k:=by
 intro k hik hkq hk;have UD:=hw k hkq hk;have bp:i≠k:=fun e=>hS (e▸UD);rcases D.DX (by omega) hk hi bp with⟨_,h1⟩|⟨h1,_⟩
 ·exact hS (dj.closed k i UD h1)
 ·omega
theorem Dr.seen(D:Dr P Eqs Sg F rid n ops b T H E)(dj:Dj rid ops b T H E S Tc h){i:Nat}(hi:Nf ops i)(hS:¬S i)(hb:∀j,uQ b i j→S j){hh:Heap}(YP:∀id,Heap.get hh id=if tc rid (b.getD i 0) id then H i id else none) :
  ∀id o,hh.get id=some o→h id=some o:=by
 obtain⟨q,hq,hw,jX,gP⟩:=dj.heap;have rf:i<ops.size:=by obtain⟨o,ho,hf1,hf2⟩:=hi;exact(abv.1 ho).1
 have hiq:i≤q:=by
  rcases adT q i with h1|h1
  ·obtain⟨h2,h3⟩:=jX (by omega);rcases D.DX (by omega) h2 hi (by omega) with⟨h4,_⟩|⟨_,h4⟩
   ·omega
   ·exact absurd (hb q h4) h3
  ·exact h1
 intro id o bV;rw[YP]at bV
 split at bV
 ·rename_i nL;have oK:oL rid S id:=qx hb nL;rw[(gP id).1 oK,D.Cz q hiq hq (D.calm dj hi hS hq hw) id fun k hk _ _ ho=>?_,bV];have UC:=(ho.parts (by have:=D.size;omega)).1;obtain⟨j,h1,h2,_⟩:=D.names i (by omega) id (by rw[bV];simp) UC;have:=ya h1 ho;omega
 ·cases bV
theorem Dr.RW(D:Dr P Eqs Sg F rid n ops b T H E)(dj:Dj rid ops b T H E S Tc h){i:Nat}{o:Oper}{x:Operand}(ho:ops[i]? = some o)(hl:jc o.op=some x)(hS:¬S i)(hb:∀j,uQ b i j→S j){s:List (Nat×AV)}(hs:look s=T i)(RV:uB ops b i s o=false) {hh:Heap} (YP:∀id,Heap.get hh id=if tc rid (b.getD i 0) id then H i id else none):∀id∈sD (ρ s x),∀ob,hh.get id=some ob→h id=some ob:=by
 obtain⟨q,hq,hw,jX,gP⟩:=dj.heap;have rf:=(abv.1 ho).1;have UB:=D.size;intro id bV ob oJ;rw[YP]at oJ
 split at oJ
 ·rename_i nL;have oK:oL rid S id:=qx hb nL;rw[(gP id).1 oK,←oJ];rcases adT q i with hqi|hiq
  ·obtain⟨h2,h3⟩:=jX (by omega);have later:∀k,q<k→k<ops.size→Nf ops k→uQ b k q:=fun k h4 h5 h6=>by
    rcases D.DX (by omega) h2 h6 (by omega) with⟨h7,_⟩|⟨_,h7⟩
    ·omega
    ·exact h7
   have aeD:∀k,q≤k→k<i→Nf ops k→¬S k:=fun k h4 h5 h6 hk=>by
    rcases Nat.eq_or_lt_of_le h4 with e|h7
    ·exact h3 (e▸hk)
    ·exact h3 (dj.closed k q hk (later k h7 (by omega) h6))
   symm
   refine D.DY i (by omega) (by omega) id (fun k h4 h5 h6=>?_) (fun k h4 h5 h6 h7=>?_)
   ·have hns:=aeD k h4 h5 (D.UA (by omega) h6);exact D.steady ho hl (by omega) h6 (by omega) (fun NV=>hns (hb k NV)) (fun NV=>by have:=DV D.TD k i (by omega) NV;omega) hs RV bV
   ·have hns:=aeD k h4 h5 (D.z7 (by omega) h6);have h8:=h7.parts (show k<128 by omega);have h9:=oK h8.1;rw[h8.2]at h9;exact hns h9
  ·refine D.DY q hiq hq id (fun k h4 h5 h6=>?_) (fun k h4 h5 h6 h7=>?_)
   ·have UD:=hw k h5 h6;have bp:i≠k:=fun e=>hS (e▸UD);exact D.steady ho hl (by omega) h6 bp (fun NV=>by have:=DV D.TD i k rf NV;omega) (fun NV=>hS (dj.closed k i UD NV)) hs RV bV
   ·obtain⟨j,h8,h9,_⟩:=D.names i (by omega) id (by rw[oJ];simp) (h7.parts (by omega)).1;have:=ya h8 h7;omega
 ·cases oJ
theorem UI(E:Nat→Option bZ)(S:Nat→Prop)(m:Nat):∃q,q≤m∧(∀k,k<q→Cw E k→S k)∧(q<m→Cw E q∧¬S q):=by
 classical
 induction m with
 |zero=>exact⟨0,abZ _,fun k hk=>by omega,fun h=>by omega⟩
 |succ m ih =>
  obtain⟨q,h1,h2,h3⟩:=ih;by_cases hq:q<m
  ·exact⟨q,by omega,h2,fun _=>h3 hq⟩
  ·have:q=m:=by omega
   subst this;by_cases hm:Cw E q∧¬S q
   ·exact⟨q,by omega,h2,fun _=>hm⟩
   ·refine⟨q+1,by omega,fun k hk hw=>?_,fun h=>by omega⟩;rcases adT k q with h4|h4
    ·exact h2 k h4 hw
    ·have:k=q:=by omega
     subst this;exact Classical.not_not.1 fun hn=>hm ⟨hw,hn⟩
theorem DZ{i id:Nat}(hi:i<128):oL rid (fun k=>S k∨k=i) id↔oL rid S id∨Of rid i id:=by
 constructor
 ·intro h1;by_cases hr:id / 32768=rid+1
  ·rcases h1 hr with h2|h2
   ·exact .inl fun _=>h2
   ·exact .inr (Of.of hr h2)
  ·exact .inl fun h=>absurd h hr
 ·rintro(h1|h1) h2
  ·exact .inl (h1 h2)
  ·exact .inr (h1.parts hi).2
theorem Dr.KT(D:Dr P Eqs Sg F rid n ops b T H E)(dj:Dj rid ops b T H E S Tc h){i:Nat}(rf:i<ops.size)(hS:¬S i)(hnn:¬IsN E i)(hnw:¬Cw E i) :
  ∃q,q≤ops.size∧(∀k,k<q→Cw E k→S k∨k=i)∧(q<ops.size→Cw E q∧¬(S q∨q=i))∧∀id,(oL rid (fun k=>S k∨k=i) id→h id=H q id)∧(¬oL rid (fun k=>S k∨k=i) id→h id=none):=by
 obtain⟨q,hq,hw,jX,gP⟩:=dj.heap;have UB:=D.size;refine⟨q,hq,fun k h1 h2=>.inl (hw k h1 h2),fun h1=>⟨(jX h1).1,fun h2=>h2.elim (jX h1).2 fun e=>hnw (e▸(jX h1).1)⟩,fun id=>⟨fun h1=>?_,fun h1=>(gP id).2 fun h2=>h1 ((DZ (by omega)).2 (.inl h2))⟩⟩;rcases (DZ (S:=S) (i:=i) (rid:=rid) (by omega)).1 h1 with h2|h2
 ·exact(gP id).1 h2
 ·have hn:¬oL rid S id:=fun h3=>h3.DQ (by omega) hS h2;rw[(gP id).2 hn]
  symm
  apply Classical.not_not.1;intro bp;obtain⟨j,h3,_,_,h4⟩:=D.names q hq id bp (h2.parts (by omega)).1;have:=ya h3 h2;subst this;rcases h4 with h4|⟨w',h5,h6,h7|h7⟩
  ·exact hnn h4
  ·exact hnw (h7▸h6)
  ·exact hS (dj.closed w' _ (hw w' h5 h6) h7)
theorem YQ{os:Heap}{i:Nat}(gO:(os.all fun p=>p.1 / 256==(rid+1)*128+i)=true):∀id o,os.get id=some o→Of rid i id:=by
 induction os with
 |nil=>intro id o h;simp[Heap.get]at h
 |cons a r ih =>
  intro id o hg;simp only[List.all_cons,Bool.and_eq_true,beq_iff_eq]at gO;simp only[Heap.get]at hg
  split at hg
  ·rename_i e;rw[←e];exact gO.1
  ·exact ih gO.2 id o hg
theorem Dr.UJ(D:Dr P Eqs Sg F rid n ops b T H E)(dj:Dj rid ops b T H E S Tc h){i:Nat}{o:Oper}(ho:ops[i]? = some o)(hS:¬S i)(hb:∀j,uQ b i j→S j){v:AV}{os:Heap}(hE:E i=some (.new v os)) :
  ∃q,q≤ops.size∧(∀k,k<q→Cw E k→S k∨k=i)∧(q<ops.size→Cw E q∧¬(S q∨q=i))∧∀id,(oL rid (fun k=>S k∨k=i) id→(bZ.new v os).hp h id=H q id)∧(¬oL rid (fun k=>S k∨k=i) id→(bZ.new v os).hp h id=none):=by
 obtain⟨q,hq,hw,jX,gP⟩:=dj.heap;have UB:=D.size;have rf:=(abv.1 ho).1;have hnw:¬Cw E i:=fun⟨v',h',h1⟩=>by rw[hE]at h1;cases h1
 have hnf:=D.z7 rf ⟨v,os,hE⟩;obtain⟨s,hh,_,_,_,h4,_,_,h7⟩:=D.YN ho hE;simp only[iV,Bool.and_eq_true]at h4;have wF:=YQ (rid:=rid) h4.1.2;have hiq:i<q:=by
  rcases adT i q with h1|h1
  ·exact h1
  ·obtain⟨h2,h3⟩:=jX (by omega);have bp:i≠q:=fun e=>hnw (e▸h2);rcases D.DX (by omega) h2 hnf bp with⟨h4,_⟩|⟨_,h4⟩
   ·omega
   ·exact absurd (hb q h4) h3
 refine⟨q,hq,fun k h1 h2=>.inl (hw k h1 h2),fun h1=>⟨(jX h1).1,fun h2=>h2.elim (jX h1).2 fun e=>hnw (e▸(jX h1).1)⟩,fun id=>⟨fun h1=>?_,fun h1=>?_⟩⟩
 ·simp only[bZ.hp];by_cases h2:Of rid i id
  ·have hn:¬oL rid S id:=fun h3=>h3.DQ (by omega) hS h2;have e1:H i id=none:=Classical.not_not.1 fun bp=>by obtain⟨j,h3,h4,_⟩:=D.names i (by omega) id bp (h2.parts (by omega)).1;have:=ya h3 h2;omega
   have e2:H (i+1) id=Heap.get os id:=by rw[h7];simp only[bZ.hp];rw[e1];cases Heap.get os id<;>rfl
   have e3:H q id=H (i+1) id:=D.Cz q hiq hq (fun k h3 h4=>D.calm dj hnf hS hq hw k (by omega) h4) id fun k h3 _ _ h5=>by have:=ya h5 h2;omega
   rw[e3,e2,(gP id).2 hn];cases Heap.get os id<;>rfl
  ·have h3:oL rid S id:=((DZ (by omega)).1 h1).resolve_right h2
   cases Ty:Heap.get os id with
   |some o'=>exact absurd (wF id o' Ty) h2
   |none=>exact(gP id).1 h3
 ·have h2:¬oL rid S id:=fun h2=>h1 ((DZ (by omega)).2 (.inl h2));have h3:¬Of rid i id:=fun h2=>h1 ((DZ (by omega)).2 (.inr h2));simp only[bZ.hp]
  cases Ty:Heap.get os id with
  |some o'=>exact absurd (wF id o' Ty) h3
  |none=>exact(gP id).2 h2
theorem Dr.YR(D:Dr P Eqs Sg F rid n ops b T H E)(dj:Dj rid ops b T H E S Tc h){i:Nat}{o:Oper}(ho:ops[i]? = some o)(hS:¬S i)(hb:∀j,uQ b i j→S j){v:AV}{h':Heap}(hE:E i=some (.wr v h')) :
  (∀hh:Heap,(∀id,hh.get id=if tc rid (b.getD i 0) id then H i id else none)→hh.get=h) ∧
  ∃q,q≤ops.size∧(∀k,k<q→Cw E k→S k∨k=i)∧(q<ops.size→Cw E q∧¬(S q∨q=i))∧∀id,(oL rid (fun k=>S k∨k=i) id→h'.get id=H q id)∧(¬oL rid (fun k=>S k∨k=i) id→h'.get id=none):=by
 obtain⟨q,hq,hw,jX,gP⟩:=dj.heap;have UB:=D.size;have rf:=(abv.1 ho).1;have YO:Cw E i:=⟨v,h',hE⟩;have hnf:=D.UA rf YO;obtain⟨s,hh0,_,_,_,h4,_,_,h7⟩:=D.YN ho hE;simp only[iV,Bool.and_eq_true]at h4;have hqi:q=i:=by
  rcases Nat.lt_trichotomy q i with h1|h1|h1
  ·obtain⟨h2,h3⟩:=jX (by omega);rcases D.DX rf YO (D.UA (by omega) h2) (by omega) with⟨_,h5⟩|⟨h5,_⟩
   ·exact absurd (hb q h5) h3
   ·omega
  ·exact h1
  ·exact absurd (hw i h1 YO) hS
 subst hqi;have own:∀id,H q id≠none→oL rid (uQ b q) id:=fun id bp UC=>by
  obtain⟨j,h1,h2,h2',h3⟩:=D.names q hq id bp UC;rw[(h1.parts h2').2];rcases h3 with h3|⟨w',h5,h6,h8⟩
  ·rcases D.DX rf YO (D.z7 (by omega) h3) (by omega) with⟨_,h9⟩|⟨h9,_⟩
   ·exact h9
   ·omega
  ·have TE:uQ b q w':=by
    rcases D.DX rf YO (D.UA (by omega) h6) (by omega) with⟨_,h9⟩|⟨h9,_⟩
    ·exact h9
    ·omega
   rcases h8 with rfl|h8
   ·exact TE
   ·exact Hl D.TD q w' j rf TE h8
 refine⟨fun hh YP=>?_,?_⟩
 ·funext id;rw[YP id]
  cases bV:H q id with
  |none =>
   have:h id=none:=by
    by_cases h1:oL rid S id
    ·rw[(gP id).1 h1,bV]
    ·exact(gP id).2 h1
   rw[this];split<;>rfl
  |some ob =>
   have h1:=own id (by rw[bV];simp);have h2:oL rid S id:=fun hr=>hb _ (h1 hr);have h3:tc rid (b.getD q 0) id=true:=by
    unfold tc;by_cases hr:id / 32768=rid+1
    ·have:=h1 hr;unfold uQ at this;rw[this];simp
    ·simp[hr]
   rw[h3,(gP id).1 h2,bV];rfl
 ·obtain⟨q',h1,h2,h3⟩:=UI E (fun k=>S k∨k=q) ops.size;have hge:q+1≤q':=by
   rcases adT q q' with h5|h5
   ·exact h5
   ·obtain⟨h6,h8⟩:=h3 (by omega);rcases adT q' q with h9|h9
    ·exact absurd (.inl (hw q' h9 h6)) h8
    ·exact absurd (.inr (by omega)) h8
  have e1:H (q+1)=h'.get:=by rw[h7];rfl
  have Cm:∀j,(b.getD q 0 ||| 2 ^ q).testBit j=true→S j∨j=q:=fun j hj=>by rw[Nat.testBit_or,Bool.or_eq_true,Nat.testBit_two_pow]at hj;exact hj.imp (hb j) (fun h=>(of_decide_eq_true h).symm)
  refine⟨q',h1,h2,h3,fun id=>⟨fun h5=>?_,fun h5=>?_⟩⟩
  ·rw[D.Cz q' hge h1 (fun k h6 h8 h9=>?_) id (fun k h6 h8 h9 oI=>?_),e1]
   ·have hk:=h2 k h8 h9;have UD:S k:=hk.resolve_right (by omega);rcases D.DX (by omega) h9 hnf (by omega) with⟨_,B2⟩|⟨B2,_⟩
    ·exact hS (dj.closed k q UD B2)
    ·omega
   ·have hk:=h5 (oI.parts (by omega)).1;rw[(oI.parts (by omega)).2]at hk;have UD:S k:=hk.resolve_right (by omega);rcases D.DX rf YO (D.z7 (by omega) h9) (by omega) with⟨B2,_⟩|⟨_,B2⟩
    ·omega
    ·exact hS (dj.closed k q UD B2)
  ·cases bV:h'.get id with
   |none=>rfl
   |some ob=>exact absurd ((nX Cm h4.2 id ob bV).1) h5
end
section
variable {S:Nat→Prop} {Tc:Nat→AV}
theorem Gz{o:Oper}{d:Nat}(h:Operand.tmp d∈o.op.operands):d∈o.looksAt ops :=abt _ (ad9.2 ⟨.tmp d,by simpa using h,rfl⟩)
theorem KU{o:Oper}{j d:Nat}{want:Bool}(hg:o.guard=some (j,want))(hd:(ops[j]?).bind (·.dst)=some d):d∈o.looksAt ops:=by unfold Oper.looksAt;rw[hg];exact abo _ (by simp only[hd];simp)
theorem Dr.wanted(D:Dr P Eqs Sg F rid n ops b T H E)(dj:Dj rid ops b T H E S Tc h){a:Act}{i:Nat}{o:Oper}(ho:ops[i]? = some o)(hS:¬S i)(hb:∀j,uQ b i j→S j)(t:dq Z ψ h w n Tc a){c:Bool}(hw:sG ops (T i) o c) :
  Region.wanted o (yielded ops a.tmps)=c:=by
 unfold sG at hw
 split at hw
 ·rename_i hg;rw[hw];simp[Region.wanted,hg]
 ·rename_i j want hg;obtain⟨d,hd,hc⟩:=hw;have e:=D.looks dj ho hS hb (KU hg hd);rcases hc with⟨u,h1,h2⟩|⟨vs,h1,h2⟩
  ·rw[DR t hg hd (e.trans h1),h2]
  ·rw[Bu t hg hd (e.trans h1),h2]
theorem Dr.NW(D:Dr P Eqs Sg F rid n ops b T H E)(V:Env P Eqs Sg F){i:Nat}{o:Oper}{a:Act}(ho:ops[i]? = some o)(hS:¬S i)(hb:∀j,uQ b i j→S j)(dj:Dj rid ops b T H E S Tc h)(j:J (oL rid S) n Z0 w0 O ψ0 Z ψ Tc h a w) {K:Act→World→Prop} {Q:Exit→Act→World→Prop} (hk:∀Tc' h' a' w' Z' ψ',Dj rid ops b T H E (fun k=>S k∨k=i) Tc' h'→J (oL rid fun k=>S k∨k=i) n Z0 w0 O ψ0 Z' ψ' Tc' h' a' w'→K a' w'):wpOp P ops Q i K a w:=by
 have rf:=(abv.1 ho).1;have UB:=D.size;have Yd:=D.akd i o ho;have aK:∀k,(S k∨k=i)→k<ops.size:=fun k hk=>hk.elim (dj.lt k) (fun e=>e▸rf);have Nt:∀k j,(S k∨k=i)→uQ b k j→S j∨j=i:=fun k j hk hj=>.inl (hk.elim (fun h=>dj.closed k j h hj) (fun e=>hb j (e▸hj)));unfold wpOp;rw[ho];simp only[]
 cases hE:E i with
 |none =>obtain⟨h1,h2,h3⟩:=D.IW ho hE;rw[D.wanted dj ho hS hb j.tr h1];simp only[Bool.false_eq_true,if_false];obtain⟨t1,t2⟩:=D.UH dj ho hS h2;refine hk _ h _ w Z ψ ⟨aK,Nt,D.KT dj rf hS (fun⟨v,os,h⟩=>by rw[hE]at h;cases h) (fun⟨v,os,h⟩=>by rw[hE]at h;cases h),t1,t2⟩ (j.skip Yd fun id hp hr=>.inl (hp hr))
 |some e =>
  obtain⟨s,hh,h1,h2,h3,h4,h5,h6,h7⟩:=D.YN ho hE;rw[D.wanted dj ho hS hb j.tr h5];simp only[if_true];refine .inl ?_;obtain⟨t1,t2⟩:=D.UH dj ho hS h6;have hT:∀x∈o.op.operands,aD Z ψ h w (ρ s x) (a.eval x)∧aS (oL rid S) (ρ s x):=fun x hx=>by
   cases x with
   |tmp d =>
    have e1:look s d=Tc d:=by rw[h1];exact(D.looks dj ho hS hb (Gz hx)).symm
    simp only[ρ,e1];exact⟨j.tr.rep d,j.tm d⟩
   |const v=>exact⟨Kp v,DP _ v⟩
   |global g=>exact⟨by simp only[ρ,aD],by simp only[ρ,aS]⟩
   |func f=>exact⟨by simp only[ρ,aD,ax,Act.eval];exact⟨#[],rfl,rfl⟩,by simp only[ρ,aS,aJ]⟩
  have qz:=DT (hh:=[]) j.hm (fun k hk=>hb k hk) h4;obtain⟨e0,h3,zp,vv⟩:=h3
  cases e0 with
  |wr v0 X4 =>simp only[jf]at zp;subst zp;have nc:=D.YR dj ho hS hb hE;have YP:=nc.1 hh h2;subst YP;refine J.opF V (rid:=rid) (i:=i) (fun _ id hp=>hp.DQ (by omega) hS) j Yd (fun x hx=>(hT x hx).1) (fun x hx=>(hT x hx).2) h3 vv (p':=oL rid fun k=>S k∨k=i) (fun id hp hr=>.inl (hp hr)) qz.1 qz.2 fun a' w' Z' ψ' j' => ?_;exact hk _ _ a' w' Z' ψ' ⟨aK,Nt,nc.2,t1,t2⟩ j'
  |val v0 =>
   simp only[jf]at zp;subst zp;have akj:∃hh':Heap,(∀id o,hh'.get id=some o→h id=some o)∧dy P Eqs Sg F (opId rid i) hh' s o some=some (.val v0):=by
    cases hf:pJ o.op with
    |true=>exact⟨[],fun id o h=>by simp[Heap.get]at h,by rw[RQ hf (h':=jl hh (je ops b i s o))];exact h3⟩
    |false =>
     cases TA:jc o.op with
     |some x =>
      have RV:uB ops b i s o=false:=by
       cases hq:uB ops b i s o with
       |false=>rfl
       |true=>unfold je at vv;rw[(z6 TA).2,hq]at vv;simp[nG]at vv
      have hft:je ops b i s o=[]:=by unfold je;rw[(z6 TA).2,RV];rfl
      rw[hft]at h3;have h3':dy P Eqs Sg F (opId rid i) hh s o some=some (.val v0):=h3;have pN:∀id,(gG (sD (ρ s x)) hh []).get id=if id∈sD (ρ s x) then hh.get id else none:=fun id=>by
       rw[lS]
       split
       ·cases hh.get id<;>rfl
       ·rfl
      refine⟨gG (sD (ρ s x)) hh [],fun id ob bV=>?_,?_⟩
      ·rw[pN]at bV
       split at bV
       ·rename_i hm;exact D.RW dj ho TA hS hb h1 RV h2 id hm ob bV
       ·cases bV
      ·rw[NU TA (hh:=hh) (fun id hm=>by rw[pN,if_pos hm])];exact h3'
     |none=>exact⟨_,fun id ob bV=>D.seen dj ⟨o,ho,hf,TA⟩ hS hb h2 id ob (by rw[qw]at bV;split at bV;cases bV;exact bV),h3⟩
   obtain⟨hh',Nd,TF⟩:=akj;refine J.op V (rid:=rid) (i:=i) (fun _ id hp=>hp.DQ (by omega) hS) j Yd (fun x hx=>(hT x hx).1) (fun x hx=>(hT x hx).2) Nd TF (fun v hw he=>by cases he) (p':=oL rid fun k=>S k∨k=i) (fun id hp hr=>.inl (hp hr)) qz.1 qz.2 fun a' w' Z' ψ' j' => ?_;exact hk _ _ a' w' Z' ψ' ⟨aK,Nt,D.KT dj rf hS (fun⟨v,os,h⟩=>by rw[hE]at h;cases h) (fun⟨v,os,h⟩=>by rw[hE]at h;cases h),t1,t2⟩ j'
  |new v0 os =>simp only[jf]at zp;subst zp;have hnf:=D.z7 rf ⟨v0,os,hE⟩;have Nd:∀id ob,(jl hh (je ops b i s o)).get id=some ob→h id=some ob:=fun id ob bV=>D.seen dj hnf hS hb h2 id ob (by rw[qw]at bV;split at bV;cases bV;exact bV);refine J.op V (rid:=rid) (i:=i) (fun _ id hp=>hp.DQ (by omega) hS) j Yd (fun x hx=>(hT x hx).1) (fun x hx=>(hT x hx).2) Nd h3 (fun v hw he=>by cases he) (p':=oL rid fun k=>S k∨k=i) (fun id hp hr=>.inl (hp hr)) qz.1 qz.2 fun a' w' Z' ψ' j' => ?_;exact hk _ _ a' w' Z' ψ' ⟨aK,Nt,D.UJ dj ho hS hb hE,t1,t2⟩ j'
theorem Dr.done(D:Dr P Eqs Sg F rid n ops b T H E)(dj:Dj rid ops b T H E S Tc h)(gO:∀k,k<ops.size→S k):Tc=T ops.size∧h=H ops.size:=by
 constructor
 ·funext d;by_cases hex:∃(j:Nat) (oj:Oper),ops[j]? = some oj∧oj.dst=some d
  ·obtain⟨j,oj,hj,hd⟩:=hex;have M8:=(abv.1 hj).1;rw[dj.UE j oj d (gO j M8) hj hd,D.IX hj hd ops.size (Nat.le_refl _) M8]
  ·rw[dj.told d fun j o' _ pP UG=>hex ⟨j,o',pP,UG⟩,D.xZ ops.size (Nat.le_refl _) fun k o' _ pP UG=>hex ⟨k,o',pP,UG⟩]
 ·obtain⟨q,hq,_,jX,gP⟩:=dj.heap;have:q=ops.size:=by
   rcases adT q ops.size with h1|h1
   ·exact absurd (gO q h1) (jX h1).2
   ·omega
  subst this;funext id;by_cases oK:oL rid S id
  ·exact(gP id).1 oK
  ·rw[(gP id).2 oK]
   symm
   apply Classical.not_not.1;intro bp;apply oK;intro hr;obtain⟨j,h1,h2,h3,_⟩:=D.names ops.size (abZ _) id bp hr;rw[(h1.parts h3).2];exact gO j h2
def nY(m:Nat)(cU:Array Bool):Nat:=((List.range m).filter fun i => !cU.getD i false).length
theorem IY{m:Nat}{cU:Array Bool}{i:Nat}(hi:i<m)(hs:i<cU.size)(hn:cU.getD i false=false):nY m cU=nY m (cU.setIfInBounds i true)+1:=by
 unfold nY;have key:∀(l:List Nat),l.Nodup→i∈l→(l.filter fun k => !cU.getD k false).length=(l.filter fun k => !(cU.setIfInBounds i true).getD k false).length+1:=by
  intro l
  induction l with
  |nil=>intro _ h;cases h
  |cons a r ih =>
   intro Cs hm;rw[List.nodup_cons]at Cs;rcases abn.1 hm with rfl|hm
   ·have h2:(r.filter fun k => !cU.getD k false)=(r.filter fun k => !(cU.setIfInBounds i true).getD k false):=by apply List.filter_congr;intro k hk;have bp:i≠k:=fun e=>Cs.1 (e▸hk);rw[getD_set_ne false bp]
    rw[List.filter_cons,List.filter_cons,hn];have h3:(cU.setIfInBounds i true).getD i false=true:=by simp[hs]
    rw[h3,h2];simp
   ·have bp:i≠a:=fun e=>Cs.1 (e▸hm);rw[List.filter_cons,List.filter_cons,getD_set_ne false bp]
    split
    ·simp only[List.length_cons];rw[ih Cs.2 hm]
    ·exact ih Cs.2 hm
 exact key _ List.nodup_range (adz.2 hi)
theorem Dr.any(D:Dr P Eqs Sg F rid n ops b T H E)(V:Env P Eqs Sg F){Q:Exit→Act→World→Prop}(hQ:∀Z ψ a w,J (oL rid fun k=>k<ops.size) n Z0 w0 O ψ0 Z ψ (T ops.size) (H ops.size) a w→Q .normal a w) :
  ∀(fuel:Nat) (cU:Array Bool) (Tc:Nat→AV) (h:Hp) (a:Act) (w:World) (Z:Nat→Prop) (ψ:Nat→Value),cU.size=ops.size→nY ops.size cU=fuel → Dj rid ops b T H E (fun k=>cU.getD k false=true) Tc h→J (oL rid fun k=>cU.getD k false=true) n Z0 w0 O ψ0 Z ψ Tc h a w→wpAny P .any ops Q fuel cU a w
 |0,cU,Tc,h,a,w,Z,ψ,hs,hu,dj,j=>by
  have gO:∀k,k<ops.size→cU.getD k false=true:=fun k hk=>by unfold nY at hu;have:=List.filter_eq_nil_iff.1 (abU hu) k (adz.2 hk);simpa using this
  refine⟨?_,?_⟩
  ·apply List.eq_nil_iff_forall_not_mem.2;intro i hi;obtain⟨h1,o,h2,_⟩:=mem_ready.1 hi;have h3:=(abv.1 h2).1;have h4:=gO i h3;rw[Array.getD_eq_getD_getElem?,Array.getElem?_eq_getElem (by omega)]at h1 h4;simp at h1 h4;rw[h1]at h4;cases h4
  ·obtain⟨e1,e2⟩:=D.done dj gO;subst e1;subst e2;refine hQ Z ψ a w ⟨j.ok,j.tr,fun d=>(j.tm d).imp fun id h1 h2=>dj.lt _ (h1 h2),fun id ty cs hb=>(j.hm id ty cs hb).imp fun id h1 h2=>dj.lt _ (h1 h2)⟩
 |fuel+1,cU,Tc,h,a,w,Z,ψ,hs,hu,dj,j=>by
  have look:∀i,i<ops.size→cU.getD i true=cU.getD i false:=fun i hi=>by rw[Array.getD_eq_getD_getElem?,Array.getD_eq_getD_getElem?,Array.getElem?_eq_getElem (by omega)];rfl
  refine⟨fun hr=>?_,fun i hi=>?_⟩
  ·exfalso;have hex:∃i,i<ops.size∧cU.getD i false=false:=by
    apply Classical.byContradiction;intro hn;unfold nY at hu;rw[List.filter_eq_nil_iff.2]at hu
    ·simp at hu
    ·intro k hk;have:=fun h=>hn ⟨k,adz.1 hk,h⟩
     cases hl:cU.getD k false with
     |true=>simp
     |false=>exact absurd hl this
   have key:∀i,i<ops.size→cU.getD i false=false→False:=by
    intro i
    induction i using Nat.strongRecOn with
    |ind i ih =>
     intro hi hl;have iz:i∈Region.ready .any ops cU:=by
      refine mem_ready.2 ⟨by rw[look i hi];exact hl,_,ach hi,fun e he RE=>?_⟩;have hon:=NT D.TD (ach hi) (by simpa using he) RE
      cases hle:cU.getD e.on false with
      |true=>rfl
      |false=>exact(ih e.on hon (by omega) hle).elim
     rw[hr]at iz;cases iz
   obtain⟨i,h1,h2⟩:=hex;exact key i h1 h2
  ·obtain⟨h1,o,ho,gO⟩:=mem_ready.1 hi;have rf:=(abv.1 ho).1;have hn:cU.getD i false=false:=by rw[←look i rf];exact h1
   have hS:¬(cU.getD i false=true):=by rw[hn];simp
   have hb:∀k,uQ b i k→cU.getD k false=true:=fun k hk=>by
    obtain⟨e,he,RE,h2⟩:=(Cv D.TD ho).1 hk;have h3:=gO e (by simpa using he) RE;rcases h2 with rfl|h2
    ·exact h3
    ·exact dj.closed e.on k h3 h2
   refine D.NW V ho hS hb dj j fun Tc' h' a' w' Z' ψ' dj' j' => ?_;have heq:(fun k=>cU.getD k false=true∨k=i)=(fun k=>(cU.setIfInBounds i true).getD k false=true):=by
    funext k;apply propext;by_cases e:i=k
    ·subst e;simp[show i<cU.size by omega]
    ·rw[getD_set_ne false e];constructor
     ·rintro(h|h)
      ·exact h
      ·exact absurd h.symm e
     ·exact .inl
   rw[heq]at dj' j';exact D.any V hQ fuel _ Tc' h' a' w' Z' ψ' (by simpa using hs) (by have:=IY rf (by omega) hn;omega) dj' j'
end
end Go.Vs
namespace Go.Vs
variable {P:Program} {Eqs:TypeId→Option K} {Sg:FuncId→Option aX} {F:(f:FuncId)→(g:aX)→g.A→Option g.B} {R:Type}
variable {Z Z' Z0:Nat→Prop} {ψ ψ' ψ0:Nat→Value} {h h':Hp} {w w' w0:World} {B0:Nat} {O N:Nat→Prop}
theorem D0(f:AV→AV)(hf:f .no=.no):∀(l:List (Nat×AV)) (d:Nat),look (l.map fun p=>(p.1,f p.2)) d=f (look l d)
 |[],d=>by simp[look,hf]
 |(i,v)::r,d=>by
  simp only[List.map_cons,look]
  split
  ·rfl
  ·exact D0 f hf r d
section
variable {rid:Nat}
mutual
theorem Ab:∀{a:AV} {v:Value},aD Z ψ h w a v→aD Z ψ h w (bS rid a) v
 |.ref id s i off,v,hr=>by
  simp only[bS]
  split
  ·simp only[aD]
  ·exact hr
 |.bY id,v,hr=>by
  simp only[bS]
  split
  ·simp only[aD]
  ·exact hr
 |.fn f cap,v,hr=>by simp only[bS,aD]at hr ⊢;obtain⟨vs,e,hl⟩:=hr;exact⟨vs,e,n6 hl⟩
 |.agg cs,v,hr=>by simp only[bS,aD]at hr ⊢;obtain⟨vs,e,hl⟩:=hr;exact⟨vs,e,n6 hl⟩
 |.pH cs,v,hr=>by simp only[bS,aD]at hr ⊢;obtain⟨vs,e,hl⟩:=hr;exact⟨vs,e,n6 hl⟩
 |.no,v,hr=>by simpa only[bS] using hr
 |.bool _,v,hr=>by simpa only[bS] using hr
 |.int _ _,v,hr=>by simpa only[bS] using hr
 |.str _,v,hr=>by simpa only[bS] using hr
 |.mL,v,hr=>by simpa only[bS] using hr
 |.il,v,hr=>by simpa only[bS] using hr
 |.fp _ _ _,v,hr=>by simpa only[bS] using hr
 |.sl _ _ _,v,hr=>by simpa only[bS] using hr
 |.mp _ _ _,v,hr=>by simpa only[bS] using hr
theorem n6:∀{a:List AV} {v:List Value},ax Z ψ h w a v→ax Z ψ h w (nH rid a) v
 |[],v,hr=>by simpa only[nH] using hr
 |x::r,v,hr=>by simp only[nH,ax]at hr ⊢;obtain⟨u,us,e,h1,h2⟩:=hr;exact⟨u,us,e,Ab h1,n6 h2⟩
end
mutual
theorem rM:∀(a:AV),aS (oL rid fun _=>False) (bS rid a)
 |.ref id s i off=>by
  simp only[bS]
  split
  ·simp only[aS]
  ·rename_i hn;simp only[aS];exact fun h=>absurd h hn
 |.bY id=>by
  simp only[bS]
  split
  ·simp only[aS]
  ·rename_i hn;simp only[aS];exact fun h=>absurd h hn
 |.fn f cap=>by simp only[bS,aS];exact jY cap
 |.agg cs=>by simp only[bS,aS];exact jY cs
 |.pH cs=>by simp only[bS,aS];exact jY cs
 |.no=>by simp only[bS,aS]
 |.bool _=>by simp only[bS,aS]
 |.int _ _=>by simp only[bS,aS]
 |.str _=>by simp only[bS,aS]
 |.mL=>by simp only[bS,aS]
 |.il=>by simp only[bS,aS]
 |.fp _ _ _=>by simp only[bS,aS]
 |.sl _ _ _=>by simp only[bS,aS]
 |.mp _ _ _=>by simp only[bS,aS]
theorem jY:∀(a:List AV),aJ (oL rid fun _=>False) (nH rid a)
 |[]=>by simp only[nH,aJ]
 |x::r=>by simp only[nH,aJ];exact⟨rM x,jY r⟩
end
theorem get_map(f:Ob→Ob):∀(hh:Heap) (i:Nat),Heap.get (hh.map fun p=>(p.1,f p.2)) i=(hh.get i).map f
 |[],i=>rfl
 |(j,o)::r,i=>by
  simp only[List.map_cons,Heap.get]
  split
  ·rfl
  ·exact get_map f r i
def o9(rid:Nat)(hh:Heap):Heap:=(hh.filter fun p=>p.1 / 32768 != rid+1).map fun p=>(p.1,Db rid p.2)
theorem RX(hh:Heap)(i:Nat):(o9 rid hh).get i=if i / 32768=rid+1 then none else(hh.get i).map (Db rid):=by unfold o9;rw[get_map (Db rid),get_filter (fun i=>i / 32768 != rid+1)];by_cases e:i / 32768=rid+1<;>simp[e]
theorem jO{hh:Heap}{i:Nat}{o:Ob}(hg:(o9 rid hh).get i=some o):i / 32768≠rid+1∧∃o',hh.get i=some o'∧o=Db rid o':=by
 rw[RX]at hg
 split at hg
 ·cases hg
 ·rename_i hn
  cases h0:hh.get i with
  |none=>rw[h0]at hg;cases hg
  |some o'=>rw[h0]at hg;cases hg;exact⟨hn,o',rfl,rfl⟩
theorem lV{hh:Heap}{i:Nat}(hg:(o9 rid hh).get i≠none):hh.get i≠none:=by obtain⟨o,ho⟩:=abT.1 hg;obtain⟨_,o',h1,_⟩:=jO ho;rw[h1];simp
theorem Good.mG{hh:Heap}(g:Good Z ψ hh.get w B0 O):Good Z ψ (o9 rid hh).get w B0 O:=by
 refine⟨fun id ty cs hb=>?_,fun id ok xs hb=>?_,fun id b h1 h2=>g.live id b (lV h1) h2,fun id oP b h1 h2 h3 h4=>g.apart id oP b (lV h1) (lV h2) h3 h4,g.kT⟩
 ·obtain⟨_,o',h1,h2⟩:=jO hb
  cases o' with
  |own ok xs=>cases h2
  |box BX cs' =>
   cases h2
   obtain⟨gg,vs,h3,h4,h5,h6⟩:=g.box id ty cs' h1;exact⟨gg,vs,h3,h4,n6 (h5.less (fun _ h=>h) (cW.refl _ _) fun i hi=>⟨lV hi,rfl⟩),h6⟩
 ·obtain⟨_,o',h1,h2⟩:=jO hb
  cases o' with
  |own ok' xs'=>cases h2;exact g.row id _ _ h1
  |box BX cs'=>cases h2
theorem Ok.sub{hp:Hp}(k:Ok Z0 w0 O ψ0 Z ψ h w)(g:Good Z ψ hp w w0.heap.size O)(hn:∀id,hp id≠none→h id≠none):Ok Z0 w0 O ψ0 Z ψ hp w :=⟨g,k.g9,k.fS,k.os,k.tape,k.output,k.size,k.block,fun i hi bp=>k.fix i hi (hn i bp)⟩
end
theorem Good.D1(g:Good Z ψ h w B0 O)(e:w'.heap=w.heap):Good Z ψ h w' B0 O:=by
 have sm:cW Z w w':=fun b _=>by rw[e]
 refine⟨fun id ty cs hb=>?_,fun id ok xs hb=>?_,g.live,g.apart,fun b hb=>by rw[e];exact g.kT b hb⟩
 ·obtain⟨gg,vs,h1,h2,h3,h4⟩:=g.box id ty cs hb;exact⟨gg,vs,h1,by rw[e];exact h2,h3.less (fun _ h=>h) sm (fun i hi=>⟨hi,rfl⟩),h4⟩
 ·exact(g.row id ok xs hb).kept (fun _ h=>h) sm (fun gg _=>by rw[e])
theorem Ok.D1(k:Ok Z0 w0 O ψ0 Z ψ h w)(e:w'.heap=w.heap)(e1:w'.os=w.os)(e2:w'.tape=w.tape)(e3:w'.output=w.output):Ok Z0 w0 O ψ0 Z ψ h w' :=⟨k.fq.D1 e,k.g9,k.fS,e1.trans k.os,e2.trans k.tape,e3.trans k.output,by rw[e];exact k.size,fun b hb ho=>by rw[e];exact k.block b hb ho,k.fix⟩
theorem dq.D1{n:Nat}{T:Nat→AV}{a:Act}(t:dq Z ψ h w n T a)(e:w'.heap=w.heap):dq Z ψ h w' n T a :=⟨fun d=>(t.rep d).less (fun _ h=>h) (fun b _=>by rw[e]) (fun i hi=>⟨hi,rfl⟩),t.size,t.defers⟩
theorem IZ(V:Env P Eqs Sg F)(hm:P.follows .mixedOrders=true){n rid:Nat}{ops:Array Oper}{draw:Bool}{st:St}{kk:St→Option R}{r:R}{a:Act}{Q:Exit→Act→World→Prop} (hx:jH P Eqs Sg F n rid ops draw st kk=some r) (k:Ok Z0 w0 O ψ0 Z ψ st.heap.get w) (t:dq Z ψ st.heap.get w n (look st.tmps) a) (hQ:∀fR Z ψ a w,kk fR=some r→Ok Z0 w0 O ψ0 Z ψ fR.heap.get w→dq Z ψ fR.heap.get w n (look fR.tmps) a→Q .normal a w):(Code.region rid ops draw).wp P Q a w:=by
 obtain⟨b,YS,hx⟩:∃b,b=(if draw then Region.before ops else #[])∧(if(ops.all fun o=>jG n o)&&(!draw || (xx ops b&&(C9 ops b&&cI (ops.toList.filterMap (·.dst)))))&&decide (ops.size≤128) then
  bQ P Eqs Sg F rid draw ops b (ops.toList.zipIdx.map fun p=>(p.2,p.1)) (mG draw rid ops st) kk else none)=some r:=⟨_,rfl,hx⟩
 split at hx
 ·rename_i hc;simp only[Bool.and_eq_true,decide_eq_true_eq]at hc;obtain⟨⟨mz,hdr⟩,j8⟩:=hc;have Hm:∀(i:Nat) (o:Oper),ops[i]? = some o→jG n o=true:=fun i o ho=>adN.1 mz o (adK ho);have pk:Ok Z0 w0 O ψ0 Z ψ (o9 rid st.heap).get w:=k.sub k.fq.mG fun id=>lV;have pt:dq Z ψ (o9 rid st.heap).get w n (fun d=>bS rid (look st.tmps d)) a :=⟨fun d=>Ab ((t.rep d).less (fun _ h=>h) (cW.refl _ _) fun i hi=>⟨lV hi,rfl⟩),t.size,t.defers⟩;have pm:vR (oL rid fun _=>False) (o9 rid st.heap).get:=fun i ty cs hb=>by
   obtain⟨_,o',h1,h2⟩:=jO hb
   cases o' with
   |own ok xs=>cases h2
   |box BX cs'=>cases h2;exact jY cs'
  have Ho:look (st.tmps.map fun p=>(p.1,bS rid p.2))=fun d=>bS rid (look st.tmps d):=funext fun d=>D0 (bS rid) (by simp only[bS]) st.tmps d
  cases draw with
  |false =>
   refine wp_region ?_;rw[←Hi ops]
   cases IV:ops.any (makes ·.op) with
   |false =>
    have hp:mG false rid ops st=st:=by unfold mG;rw[IV];rfl
    rw[hp]at hx;refine ni V (rid:=rid) (n:=n) (b:=_) false (fun _ i o ho=>?_) j8 Hm hQ _ 0 st Z ψ a w (qy ops) hx ⟨k,t,fun d=>?_,fun i ty cs hb=>?_⟩
    ·have:=Array.any_eq_false'.1 IV o (adK ho);simpa using this
    ·exact(aS.top _).imp fun id _ h=>by cases h
    ·exact(aJ.top _).imp fun id _ h=>by cases h
   |true =>
    have hp:mG false rid ops st={ tmps:=st.tmps.map fun p=>(p.1,bS rid p.2),heap:=o9 rid st.heap }:=by unfold mG;rw[IV];rfl
    rw[hp]at hx;refine ni V (rid:=rid) (n:=n) (b:=_) true (fun h=>by cases h) j8 Hm hQ _ 0 _ Z ψ a w (qy ops) hx ⟨pk,by rw[Ho];exact pt,fun d=>?_,fun i ty cs hb=>?_⟩
    ·rw[Ho];exact(rM _).imp fun id h1 _ h2=>(h1 h2).elim
    ·exact(pm i ty cs hb).imp fun id h1 _ h2=>(h1 h2).elim
  |true =>
   have hp:mG true rid ops st={ tmps:=st.tmps.map fun p=>(p.1,bS rid p.2),heap:=o9 rid st.heap }:=by unfold mG;rw[Bool.true_or];rfl
   rw[hp]at hx;simp only[Bool.not_true,Bool.false_or,Bool.and_eq_true]at hdr;obtain⟨akl,aeF,Cs⟩:=hdr;refine wp_region_any hm ?_;obtain⟨T,H,E,h1,h2,h3,fR,h4,h5,h6⟩:=trace (kk:=kk) (r:=r) (ops.toList.zipIdx.map fun p=>(p.2,p.1)) 0 _ (qy ops) (by simp) hx;rw[Ho]at h1;have D:Dr P Eqs Sg F rid n ops b T H E:=⟨j8,akl,aeF,Hm,Cs,fun k o ho=>h3 k o (adL _) ho,fun id bV=>by rw[h2]at bV;obtain⟨o,ho⟩:=abT.1 bV;exact(jO ho).1⟩;have Bk:∀k,¬((Array.replicate ops.size false).getD k false=true):=fun k hk=>by
    rw[Array.getD_eq_getD_getElem?,Array.getElem?_replicate]at hk
    split at hk<;>simp at hk
   rw[show max 0 ops.size=ops.size by omega]at h5 h6;have w2:({ w with drawn:=w.drawn+1 }:World).heap=w.heap:=rfl;refine D.any V (Z0:=Z0) (w0:=w0) (O:=O) (ψ0:=ψ0) (fun Z ψ a w j=>hQ fR Z ψ a w h4 (by rw[h6];exact j.ok) (by rw[h5,h6];exact j.tr)) ops.size _ (T 0) (H 0) a _ Z ψ (by simp) ?_ ?_ ?_
   ·unfold nY;rw[List.filter_eq_self.2,List.length_range];intro k _;have:=Bk k;simpa using this
   ·refine⟨fun i hi=>(Bk i hi).elim,fun i j hi=>(Bk i hi).elim,?_,fun j o d hj=>(Bk j hj).elim,fun d _=>rfl⟩;obtain⟨q,hq1,hq2,hq3⟩:=UI E (fun k=>(Array.replicate ops.size false).getD k false=true) ops.size;refine⟨q,hq1,hq2,hq3,fun id=>⟨fun oK=>?_,fun oK=>?_⟩⟩
    ·symm
     refine D.Cz q (adL _) hq1 (fun k _ hk hw=>(Bk k (hq2 k hk hw)).elim) id fun k _ hk _ ho=>?_;have:=oK (ho.parts (by omega)).1;exact Bk _ this
    ·rw[h2];apply Classical.not_not.1;intro bp;obtain⟨o,ho⟩:=abT.1 bp;exact oK fun hr=>absurd hr (jO ho).1
   ·rw[h1,h2];refine⟨pk.D1 w2 rfl rfl rfl,pt.D1 w2,fun d=>(rM _).imp fun id h3 h4=>(h3 h4).elim,fun i ty cs hb=>(pm i ty cs hb).imp fun id h3 h4=>(h3 h4).elim⟩
 ·cases hx
end Go.Vs
