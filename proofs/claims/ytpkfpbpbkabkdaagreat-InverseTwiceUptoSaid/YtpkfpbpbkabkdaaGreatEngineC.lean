/- The value semantics is sound -/
import Derived.Test.YtpkfpbpbkabkdaaGreatEngineB
import Derived.Maps.RangeRun
import Derived.ChangeMaps
set_option linter.unusedSimpArgs false
set_option linter.unusedVariables false
namespace Go.Vs
variable {P:Program} {Z Z':Nat→Prop} {ψ ψ':Nat→Value} {h h':Hp} {w w':World} {B0:Nat} {O:Nat→Prop} {N:Nat→Prop}
theorem gH:∀(k:K) (x:k.T),(enc k x).length=k.sz
 |.int _,_=>rfl
 |.bool,_=>rfl
 |.str,_=>rfl
 |.sl _,_=>rfl
 |.mp _ _,_=>rfl
 |.pair a b,x=>by simp only[enc,List.length_append,K.sz];rw[gH a,gH b]
 |.one k,x=>by simp only[enc,K.sz];exact gH k x
theorem tf(hh:Heap):∀(k:K) (x:k.T),(enc k x).map (di hh)=enc k x
 |.int _,_=>rfl
 |.bool,_=>rfl
 |.str,_=>rfl
 |.sl _,_=>rfl
 |.mp _ _,_=>rfl
 |.pair a b,x=>by simp only[enc,List.map_append];rw[tf hh a,tf hh b]
 |.one k,x=>by simp only[enc];exact tf hh k x
theorem nK:∀(k:K) (x:k.T) (id:Nat),AV.bV id∉enc k x
 |.int _,_,_=>by simp[enc]
 |.bool,_,_=>by simp[enc]
 |.str,_,_=>by simp[enc]
 |.sl _,_,_=>by simp[enc]
 |.mp _ _,_,_=>by simp[enc]
 |.pair a b,x,id=>by
  simp only[enc,List.mem_append];rintro(h|h)
  ·exact nK a _ id h
  ·exact nK b _ id h
 |.one k,x,id=>by simp only[enc];exact nK k x id
theorem zF{hh:Heap}{ok:OK}{n:Nat}{xs:ok.T}(hg:hh.get n=some (.own ok xs)):fg hh ok (.bV n)=some xs:=by simp[fg,hg]
theorem rm{hh:Heap}:∀(dW:List CK) (n:Nat) (x:sJ dW),(∀e∈bp dW n x,hh.get e.1=some e.2)→dk dW hh (aK dW n x)=some x
 |[],n,x,_=>rfl
 |.val k::r,n,x,hg=>by
  have h1:(aK (.val k::r) n x).take k.sz=enc k x.1:=by simp only[aK];rw[←gH k x.1,List.take_left]
  have h2:(aK (.val k::r) n x).drop k.sz=aK r (n+1) x.2:=by simp only[aK];rw[←gH k x.1,List.drop_left]
  have e:dk (.val k::r) hh (aK (.val k::r) n x)=(match dZ k (((aK (.val k::r) n x).take k.sz).map (di hh)),dk r hh ((aK (.val k::r) n x).drop k.sz) with
   |some x,some y=>some ((x,y):k.T×sJ r)
   |_,_=>none):=by generalize aK (.val k::r) n x=l;cases l<;>rfl
  have h4:dZ k (((aK (.val k::r) n x).take k.sz).map (di hh))=some x.1:=by rw[h1];exact(congrArg (dZ k) (tf hh k x.1)).trans (wq k x.1)
  have h5:dk r hh ((aK (.val k::r) n x).drop k.sz)=some x.2:=by rw[h2];exact rm r (n+1) x.2 hg
  rw[e];generalize dZ k (((aK (.val k::r) n x).take k.sz).map (di hh))=o1 at h4 ⊢;generalize dk r hh ((aK (.val k::r) n x).drop k.sz)=o2 at h5 ⊢;subst h4;subst h5;rfl
 |.own ok::r,n,x,hg=>by
  simp only[bp]at hg;have h1:=zF (hg _ abp);have h2:=rm r (n+1) x.2 (fun e he=>hg e (aa1 _ he));have e:dk (.own ok::r) hh (aK (.own ok::r) n x)=(match fg hh ok (.bV n),dk r hh (aK r (n+1) x.2) with
   |some x,some y=>some ((x,y):ok.T×sJ r)
   |_,_=>none):=rfl
  rw[e,h1,h2];rfl
theorem QZ{hh:Heap}(b:BK){i n:Nat}{x:b.T}(hg:∀e∈j8 b i n x,hh.get e.1=some e.2):rZ b hh i=some x:=by
 cases b with
 |box ty c =>
  simp only[j8]at hg;have h1:C1 hh i ty=some (aK c n x):=by unfold C1;rw[hg _ List.mem_cons_self];simp
  simp only[rZ,h1];exact rm (hh:=hh) c n x (fun e he=>hg e (aa1 _ he))
 |own ok=>exact zF (hg _ (by simp only[j8];exact abp))
theorem Bj{hh:Heap}:∀(bs:List BK) (is:List Nat) (n:Nat) (x:zc bs),is.length=bs.length→(∀e∈bG bs is n x,hh.get e.1=some e.2)→dD bs hh is=some x
 |[],[],n,x,_,_=>rfl
 |[],_::_,n,x,hl,_=>by simp at hl
 |_::_,[],n,x,hl,_=>by simp at hl
 |b::r,i::is,n,x,hl,hg=>by
  simp only[bG]at hg;have h2:=QZ b (fun e he=>hg e (abi _ he));have h3:=Bj r is (n+16) x.2 (by simpa using hl) (fun e he=>hg e (abg _ he));have e:dD (b::r) hh (i::is)=(match rZ b hh i,dD r hh is with
    |some x,some y=>some ((x,y):b.T×zc r)
    |_,_=>none):=rfl
  rw[e,h2,h3];rfl
theorem zG{i:Nat}{o:Ob}:∀{hh:Heap},cG (hh.map (·.1))=true→(i,o)∈hh→hh.get i=some o
 |[],_,h=>by cases h
 |(j,o')::r,hn,h=>by
  obtain⟨h1,h2⟩:=oP hn;simp only[Heap.get];rcases abd.1 h with e|h
  ·cases e;simp
  ·rw[if_neg,zG h2 h];rintro rfl;exact h1 (aca.2 ⟨_,h,rfl⟩)
theorem Cp{hh:Heap}:∀(dW:List CK) (n:Nat) (x:sJ dW) (id:Nat),AV.bV id∉rY dW (aK dW n x)
 |[],n,x,id=>by simp[aK,rY]
 |.val k::r,n,x,id=>by
  have h1:(aK (.val k::r) n x).take k.sz=enc k x.1:=by simp only[aK];rw[←gH k x.1,List.take_left]
  have h2:(aK (.val k::r) n x).drop k.sz=aK r (n+1) x.2:=by simp only[aK];rw[←gH k x.1,List.drop_left]
  have e:rY (.val k::r) (aK (.val k::r) n x)=(aK (.val k::r) n x).take k.sz++rY r ((aK (.val k::r) n x).drop k.sz):=by generalize aK (.val k::r) n x=l;cases l<;>rfl
  rw[e,h1,h2,List.mem_append];rintro(h|h)
  ·exact nK k x.1 id h
  ·exact Cp (hh:=hh) r (n+1) x.2 id h
 |.own ok::r,n,x,id=>by simp only[aK,rY];exact Cp (hh:=hh) r (n+1) x.2 id
theorem DH{hh:Heap}:∀(bs:List BK) (is:List Nat) (n:Nat) (x:zc bs) (id:Nat),(∀e∈bG bs is n x,hh.get e.1=some e.2)→AV.bV id∉ic bs hh is
 |[],is,n,x,id,_=>by cases is<;>simp[ic]
 |_::_,[],n,x,id,_=>by simp[ic]
 |b::r,i::is,n,x,id,hg=>by
  simp only[bG]at hg;simp only[ic,List.mem_append];rintro(h|h)
  ·cases b with
   |box ty c =>simp only[C2]at h;rw[hg (i,.box ty (aK c n x.1)) (List.mem_append_left _ (by simp only[j8];exact List.mem_cons_self))]at h;exact Cp (hh:=hh) c n x.1 id h
   |own ok=>simp[C2]at h
  ·exact DH r is (n+16) x.2 id (fun e he=>hg e (abg _ he)) h
theorem GX{hh:Heap}:∀(cap:List AV) (is is':List Nat) (vs:List Value),kL cap=some is→is'.length=is.length→(∀p∈is.zip is',hh.get p.1≠none∧(h' p.2≠none→ψ' p.2=ψ p.1)) → ax Z ψ hh.get w cap vs→ax Z' ψ' h' w (is'.map fun i=>.ref i 0 0 0) vs
 |[],is,is',vs,h1,hl,_,hr=>by
  simp only[kL]at h1
  cases h1
  cases is' with
  |nil=>simpa only[List.map_nil,ax] using hr
  |cons c r=>simp at hl
 |v::cap,is,is',vs,h1,hl,hp,hr=>by
  simp only[kL]at h1
  split at h1
  ·rename_i i is1 h3 h4
   cases h1
   cases is' with
   |nil=>simp at hl
   |cons c r =>simp only[List.zip_cons_cons]at hp;simp only[List.map_cons,ax]at hr ⊢;obtain⟨u,us,rfl,h7,h8⟩:=hr;obtain⟨sz,rfl⟩:=ri h3;obtain⟨h5,h6⟩:=hp _ abp;exact⟨u,us,rfl,Cn h7 h5 h6,GX cap is1 r us h4 (by simpa using hl) (fun p h=>hp p (aa1 _ h)) h8⟩
  ·cases h1
theorem vn:∀(cap:List AV) (is:List Nat),kL cap=some is→is.length=cap.length
 |[],is,h=>by simp only[kL]at h;cases h;rfl
 |v::cap,is,h=>by
  simp only[kL]at h
  split at h
  ·rename_i i is1 h3 h4
   cases h
   simp[vn cap is1 h4]
  ·cases h
theorem vo:∀(cs:List AV) (is:List Nat),qX cs=some is→is.length=cs.length
 |[],is,h=>by simp only[qX]at h;cases h;rfl
 |c::r,is,h=>by
  cases c<;>simp only[qX]at h<;>first|(cases h;done)|skip
  split at h
  ·rename_i is' h1
   cases h
   simp[vo r is' h1]
  ·cases h
theorem GY{hh:Heap}:∀(cs:List AV) (is iD:List Nat) (vs:List Value),qX cs=some is→iD.length=is.length→(∀p∈is.zip iD,hh.get p.1≠none∧(h' p.2≠none→ψ' p.2=ψ p.1)) → ax Z ψ hh.get w cs vs→ax Z' ψ' h' w (iD.map .bV) vs
 |[],is,iD,vs,h,hl,hp,hr=>by
  simp only[qX]at h
  cases h
  have:iD=[]:=acg hl;subst this;simpa only[List.map_nil,ax] using hr
 |c::r,is,iD,vs,h,hl,hp,hr=>by
  cases c<;>simp only[qX]at h<;>first|(cases h;done)|skip
  rename_i i
  split at h
  ·rename_i is' h1
   cases h
   cases iD with
   |nil=>simp at hl
   |cons i' iD =>simp only[List.zip_cons_cons]at hp;obtain⟨h5,h6⟩:=hp _ abp;simp only[List.map_cons,ax]at hr ⊢;obtain⟨u,us,rfl,h3,h4⟩:=hr;refine⟨u,us,rfl,?_,GY r is' iD us h1 (by simpa using hl) (fun p TK=>hp p (aa1 _ TK)) h4⟩;simp only[aD]at h3 ⊢;exact⟨h3.1,fun hn=>(h3.2 h5).trans (h6 hn).symm⟩
  ·cases h
theorem mV{hh:Heap}(g:Good Z ψ hh.get w B0 O)(hz:∀b,Z b→Z' b):∀(ps:List PK) (ids iD:List Nat) (s:Nat) (vs:List AV) (us:List Value) (x:J6 (mn ps)),iD.length=ids.length→dd ps vs=some ids→fR ps hh vs=some x →(∀id b,AV.bV id∈dV ps vs→hh.get id≠none→ob (ψ id)=some b→Z' b)→(∀p∈ids.zip iD,hh.get p.1≠none∧(h' p.2≠none→ψ' p.2=ψ p.1))→ax Z ψ hh.get w vs us→ax Z' ψ' h' w ((bf ps iD s x).map (·.2)) us
 |[],ids,iD,s,vs,us,x,hl,hi,hv,hf,hp,hr=>by
  cases vs with
  |nil=>simpa only[bf,List.map_nil,ax] using hr
  |cons a r=>simp[dd]at hi
 |.val k::ps,ids,iD,s,vs,us,x,hl,hi,hv,hf,hp,hr=>by
  cases vs with
  |nil=>simp[dd]at hi
  |cons a r =>simp only[dd]at hi;simp only[ax]at hr;obtain⟨u,jU,rfl,h3,h4⟩:=hr;obtain⟨h1,h2⟩:=Bg hv;simp only[dV]at hf;simp only[bf,List.map_cons,ax];exact⟨u,jU,rfl,uh g hz (fun id b bR=>hf id b (abi _ bR)) h1 h3,mV g hz ps ids iD (s+1) r jU x.2 hl hi h2 (fun id b bR=>hf id b (abg _ bR)) hp h4⟩
 |.ref::ps,ids,iD,s,vs,us,x,hl,hi,hv,hf,hp,hr=>by
  cases vs with
  |nil=>simp[dd]at hi
  |cons a r =>
   simp only[dd]at hi
   split at hi
   ·rename_i i is h1 h2
    cases hi
    simp only[ax]at hr;obtain⟨u,jU,rfl,h3,h4⟩:=hr
    cases iD with
    |nil=>simp at hl
    |cons i' is' =>simp only[List.zip_cons_cons]at hp;obtain⟨sz,rfl⟩:=ri h1;obtain⟨h5,h6⟩:=hp _ abp;simp only[bf,List.map_cons,ax];exact⟨u,jU,rfl,Cn h3 h5 h6,mV g hz ps is is' (s+1) r jU x (by simpa using hl) h2 hv hf (fun p h=>hp p (aa1 _ h)) h4⟩
   ·cases hi
 |.own::ps,ids,iD,s,vs,us,x,hl,hi,hv,hf,hp,hr=>by
  cases vs with
  |nil=>simp[dd]at hi
  |cons a r =>
   cases a<;>simp only[dd]at hi<;>first|(cases hi;done)|skip
   rename_i i
   split at hi
   ·rename_i is h2
    cases hi
    simp only[ax]at hr;obtain⟨u,jU,rfl,h3,h4⟩:=hr
    cases iD with
    |nil=>simp at hl
    |cons i' is' =>simp only[List.zip_cons_cons]at hp;obtain⟨h5,h6⟩:=hp _ abp;simp only[bf,List.map_cons,ax];refine⟨u,jU,rfl,?_,mV g hz ps is is' (s+1) r jU x (by simpa using hl) h2 hv hf (fun p h=>hp p (aa1 _ h)) h4⟩;simp only[aD]at h3 ⊢;exact⟨h3.1,fun hn=>(h3.2 h5).trans (h6 hn).symm⟩
   ·cases hi
 |.JZ f m::ps,ids,iD,s,vs,us,x,hl,hi,hv,hf,hp,hr=>by
  cases vs with
  |nil=>simp[dd]at hi
  |cons a r =>
   cases a<;>simp only[dd]at hi<;>first|(cases hi;done)|skip
   rename_i f' cap
   split at hi
   ·rename_i hc;obtain⟨rfl,uf⟩:=hc
    split at hi
    ·rename_i a1 b1 h1 h2
     cases hi
     simp only[ax]at hr;obtain⟨u,jU,rfl,h3,h4⟩:=hr;have h5:=vn cap a1 h1;have A9:(a1++b1).zip iD=a1.zip (iD.take m)++b1.zip (iD.drop m):=by
      conv=>lhs;rw[←List.take_append_drop m iD]
      rw[List.zip_append];rw[List.length_take,Nat.min_eq_left]
      ·omega
      ·rw[hl,List.length_append];omega
     rw[A9]at hp;simp only[bf,List.map_cons,ax];refine⟨u,jU,rfl,?_,mV g hz ps b1 (iD.drop m) (s+1) r jU x (by rw[List.length_drop,hl,List.length_append];omega) h2 hv hf (fun p h=>hp p (abg _ h)) h4⟩;simp only[aD]at h3 ⊢;obtain⟨ws,h6,h7⟩:=h3;exact⟨ws,h6,GX cap a1 (iD.take m) _ h1 (by rw[List.length_take,Nat.min_eq_left (by rw[hl,List.length_append];omega)];omega) (fun p h=>hp p (abi _ h)) h7⟩
    ·cases hi
   ·cases hi
 |.agg m::ps,ids,iD,s,vs,us,x,hl,hi,hv,hf,hp,hr=>by
  cases vs with
  |nil=>simp[dd]at hi
  |cons a r =>
   cases a<;>simp only[dd]at hi<;>first|(cases hi;done)|skip
   rename_i cs
   split at hi
   ·rename_i uf
    split at hi
    ·rename_i a1 b1 h1 h2
     cases hi
     simp only[ax]at hr;obtain⟨u,jU,rfl,h3,h4⟩:=hr;have h5:=vo cs a1 h1;have A9:(a1++b1).zip iD=a1.zip (iD.take m)++b1.zip (iD.drop m):=by
      conv=>lhs;rw[←List.take_append_drop m iD]
      rw[List.zip_append];rw[List.length_take,Nat.min_eq_left]
      ·omega
      ·rw[hl,List.length_append];omega
     rw[A9]at hp;simp only[bf,List.map_cons,ax];refine⟨u,jU,rfl,?_,mV g hz ps b1 (iD.drop m) (s+1) r jU x (by rw[List.length_drop,hl,List.length_append];omega) h2 hv hf (fun p h=>hp p (abg _ h)) h4⟩;simp only[aD]at h3 ⊢;obtain⟨ws,h6,h7⟩:=h3;exact⟨ws,h6,GY cs a1 (iD.take m) _ h1 (by rw[List.length_take,Nat.min_eq_left (by rw[hl,List.length_append];omega)];omega) (fun p h=>hp p (abi _ h)) h7⟩
    ·cases hi
   ·cases hi
theorem Ra(hh:Heap)(k:K)(x:k.T):hZ k hh (cJ k x)=some x:=by unfold hZ;rw[if_pos (DD k x).symm,wu];exact(congrArg (dZ k) (tf hh k x)).trans (wq k x)
theorem oT:∀(dW:List CK) (c n:Nat) (x:sJ dW),ia dW c=true→(aK dW n x)[oL dW c]? = some (.bV (n+c))
 |[],c,n,x,h=>by simp[ia]at h
 |.val k::r,0,n,x,h=>by simp[ia]at h
 |.val k::r,c+1,n,x,h=>by simp only[aK,oL];have ih:=oT r c (n+1) x.2 (by simpa[ia] using h);have hl:(enc k x.1).length=k.sz:=gH k x.1;generalize enc k x.1=l at hl ⊢;rw[List.getElem?_append_right (by omega),hl,Nat.add_sub_cancel_left,show n+(c+1)=n+1+c by omega];exact ih
 |.own ok::r,0,n,x,h=>by simp[aK,oL]
 |.own ok::r,c+1,n,x,h=>by simp only[aK,oL];rw[Nat.add_comm 1,List.getElem?_cons_succ,show n+(c+1)=n+1+c by omega];exact oT r c (n+1) x.2 (by simpa[ia] using h)
theorem Bk:∀(bs:List BK) (b:Nat) (is:List Nat) (n:Nat) (x:zc bs) (ty:TypeId) (c:List CK) (bi:Nat),bs[b]? = some (.box ty c)→is[b]? = some bi→∃xb,(bi,.box ty (aK c (n+16*b) xb))∈bG bs is n x
 |[],b,is,n,x,_,_,bi,h,_=>by simp at h
 |b0::r,b,[],n,x,_,_,bi,_,h=>by simp at h
 |b0::r,0,i::is,n,x,ty,c,bi,h1,h2=>by simp only[List.getElem?_cons_zero,Option.some.injEq]at h1 h2;subst h1;subst h2;exact⟨x.1,by simp only[bG,j8];exact abi _ abp⟩
 |b0::r,b+1,i::is,n,x,ty,c,bi,h1,h2=>by obtain⟨xb,h3⟩:=Bk r b is (n+16) x.2 ty c bi (by simpa using h1) (by simpa using h2);refine⟨xb,?_⟩;simp only[bG];rw[show n+16*(b+1)=n+16+16*b by omega];exact abg _ h3
theorem nL{bs:List BK}{hh:Heap}{is:List Nat}{nb:Nat}{xb:zc bs}(hl:is.length=bs.length)(XI:∀e∈bG bs is nb xb,hh.get e.1=some e.2):∀(rs:List RK) (ids2:List Nat) (m:Nat) (y:nq rs),sM bs rs=true →(∀e∈ar rs m y,hh.get e.1=some e.2)→bX bs rs hh is (bj rs ids2 nb m y)=some y
 |[],ids2,m,y,_,_=>rfl
 |.val k::r,ids2,m,y,hk,hg=>by
  simp only[sM,List.all_cons,Bool.and_eq_true,F6]at hk;have h1:=Ra hh k y.1;have h2:=nL hl XI r ids2 (m+1) y.2 hk.2 hg;have e:bX bs (.val k::r) hh is (bj (.val k::r) ids2 nb m y)=(match hZ k hh (cJ k y.1),bX bs r hh is (bj r ids2 nb (m+1) y.2) with
   |some x,some y=>some ((x,y):k.T×nq r)
   |_,_=>none):=rfl
  rw[e];generalize hZ k hh (cJ k y.1)=o1 at h1 ⊢;generalize bX bs r hh is (bj r ids2 nb (m+1) y.2)=o2 at h2 ⊢;subst h1;subst h2;rfl
 |.own ok::r,ids2,m,y,hk,hg=>by
  simp only[sM,List.all_cons,Bool.and_eq_true,F6]at hk;simp only[ar]at hg;have h1:=zF (hg _ abp);have h2:=nL hl XI r ids2 (m+1) y.2 hk.2 (fun e he=>hg e (aa1 _ he));have e:bX bs (.own ok::r) hh is (bj (.own ok::r) ids2 nb m y)=(match fg hh ok (.bV m),bX bs r hh is (bj r ids2 nb (m+1) y.2) with
   |some x,some y=>some ((x,y):ok.T×nq r)
   |_,_=>none):=rfl
  rw[e];generalize fg hh ok (.bV m)=o1 at h1 ⊢;generalize bX bs r hh is (bj r ids2 nb (m+1) y.2)=o2 at h2 ⊢;subst h1;subst h2;rfl
 |.fW b alts::r,ids2,m,y,hk,hg=>by
  simp only[sM,List.all_cons,Bool.and_eq_true,F6]at hk;have h2:=nL hl XI r ids2 (m+1) y.2 hk.2 hg;have h1:pf bs hh is b alts (xd b nb alts y.1)=some y.1:=by
   cases hy:y.1 with
   |none=>rfl
   |some p =>
    obtain⟨al,i⟩:=p;have h3:=hk.1
    split at h3
    ·rename_i bk hbk;have aG:=(aa2.1 hbk).1;have Rb:is[b]? = some (is[b]'(by omega)):=aa4 (by omega);rw[Bool.and_eq_true,decide_eq_true_eq]at h3;obtain⟨h3,Cq⟩:=h3;have h3a:∀a:Fin alts.length,ia bk.dW (alts.get a).1=true:=fun a=>ac3.1 h3 _ (List.get_mem alts a)
     cases bk with
     |own ok=>have:=h3a al;simp[BK.dW,ia]at this
     |box ty c0 =>
      obtain⟨xb',h4⟩:=Bk bs b is nb xb ty c0 _ hbk Rb;have h5:=XI _ h4;simp only[BK.dW]at h3a;simp only[pf,xd,hbk,Rb,h5,BK.dW];have key:(List.finRange alts.length).find? (fun a=>AZ c0 (aK c0 (nb+16*b) xb') (nb+16*b+(alts.get al).1) (alts.get al).2.1 (alts.get al).2.2 (alts.get a))=some al:=by
       cases hf:(List.finRange alts.length).find? (fun a=>AZ c0 (aK c0 (nb+16*b) xb') (nb+16*b+(alts.get al).1) (alts.get al).2.1 (alts.get al).2.2 (alts.get a)) with
       |none =>have:=List.find?_eq_none.1 hf al (List.mem_finRange al);exfalso;apply this;simp only[AZ,Bool.and_eq_true,decide_eq_true_eq];refine⟨?_,trivial,trivial,h3a al⟩;rw[oT c0 _ _ xb' (h3a al)];simp[Tj]
       |some a' =>
        have hf':=adm hf;obtain⟨h6,_,h7,_⟩:=DG hf';rw[oT c0 _ _ xb' (h3a a')]at h6;simp only[Option.some.injEq,AV.bV.injEq]at h6;have h8:(alts.get a').1=(alts.get al).1:=by omega
        congr 1;have pz:∀a:Fin alts.length,(alts.map fun a=>(a.1,a.2.2))[a.val]? = some ((alts.get a).1,(alts.get a).2.2):=fun a=>by rw[List.getElem?_map,List.getElem?_eq_getElem a.isLt];rfl
        have e1:=pz a';have e2:=pz al;rw[h8,←h7]at e1;exact Fin.ext ((List.getElem?_inj (by simp) Cq).1 (e1.trans e2.symm))
      rw[key];rfl
    ·cases h3
  have e:bX bs (.fW b alts::r) hh is (bj (.fW b alts::r) ids2 nb m y)=(match pf bs hh is b alts (xd b nb alts y.1),bX bs r hh is (bj r ids2 nb (m+1) y.2) with
   |some x,some y=>some ((x,y):Option (Fin alts.length×Nat)×nq r)
   |_,_=>none):=rfl
  rw[e];generalize pf bs hh is b alts (xd b nb alts y.1)=o1 at h1 ⊢;generalize bX bs r hh is (bj r ids2 nb (m+1) y.2)=o2 at h2 ⊢;subst h1;subst h2;rfl
 |.agg c::r,ids2,m,y,hk,hg=>by
  simp only[sM,List.all_cons,Bool.and_eq_true,F6]at hk;simp only[ar]at hg;have h1:=rm (hh:=hh) c m y.1 (fun e he=>hg e (abi _ he));have h2:=nL hl XI r ids2 (m+1) y.2 hk.2 (fun e he=>hg e (abg _ he));have e:bX bs (.agg c::r) hh is (bj (.agg c::r) ids2 nb m y)=(match dk c hh (aK c m y.1),bX bs r hh is (bj r ids2 nb (m+1) y.2) with
   |some x,some y=>some ((x,y):sJ c×nq r)
   |_,_=>none):=rfl
  rw[e];generalize dk c hh (aK c m y.1)=o1 at h1 ⊢;generalize bX bs r hh is (bj r ids2 nb (m+1) y.2)=o2 at h2 ⊢;subst h1;subst h2;rfl
def rp(g:aX)(x:g.A):Hp:=(bG g.bs (aY g.bs.length) 2000 x.2).get
def kU(g:aX)(y:g.B):Heap:=bG g.bs (aY g.bs.length) 2000 y.2++ar g.rs 3000 y.1
def Iu(g:aX)(x:g.A):List AV:=(bf g.ps (aY g.bs.length) 0 x.1).map (·.2)
def GZ(P:Program)(f:FuncId)(g:aX)(x:g.A)(y:g.B):Prop :=∀(Z:Nat→Prop) (ψ0:Nat→Value) (w:World) (lK:List Value),Good Z ψ0 (rp g x) w w.heap.size (Own ψ0 (rp g x))→ax Z ψ0 (rp g x) w (Iu g x) lK → Calls P (f%1000) lK.toArray w fun e w'=>∃v Z' ψ',e=.returned v∧(∀b,Z b→Z' b)∧(∀b,Z' b→Z b∨Own ψ0 (rp g x) b∨w.heap.size≤b)∧dF ψ0 (rp g x) w w' ∧ Good Z' ψ' (kU g y).get w' w.heap.size (Own ψ0 (rp g x))∧(∀i∈aY g.bs.length,ψ' i=ψ0 i)∧aD Z' ψ' (kU g y).get w' (gq (bj g.rs (aY g.bs.length) 2000 3000 y.1)) v
theorem Ix{ψ:Nat→Value}{b:Nat}:¬Own ψ iq b:=fun⟨_,h,_⟩=>h rfl
theorem xG(ids:List Nat)(n:Nat)(x:zc []):bG [] ids n x=[]:=by cases ids<;>rfl
theorem GZ.zero{f:FuncId}{g:aX}{x:g.A}{y:g.B}(hb:g.bs=[])(c:GZ P f g x y):adO P f g x y:=by
 obtain⟨ps,bs,rs,_⟩:=g;simp only at hb;subst hb;intro Z w lK hz hr;have e0:rp ⟨ps,[],rs,_⟩ x=iq:=by unfold rp;rw[xG];rfl
 have e1:kU ⟨ps,[],rs,_⟩ y=ar rs 3000 y.1:=by unfold kU;rw[xG];rfl
 have hO:Own MS iq=fun _=>False:=funext fun b=>propext ⟨Ix,False.elim⟩;unfold GZ at c;rw[e0,e1]at c;refine(c Z MS w lK ⟨fun _ _ _ h=>(by cases h),fun _ _ _ h=>(by cases h),fun _ _ h=>absurd rfl h,fun _ _ _ h=>absurd rfl h,hz⟩ hr).mono fun e w' ⟨v,Z',ψ',h1,h2,h3,h4,h5,_,h6⟩=>?_;exact⟨v,Z',ψ',h1,h2,fun b hb=>(h3 b hb).imp (fun h=>h) fun h=>h.resolve_left Ix,h4,by rw[hO]at h5;exact h5,h6⟩
theorem Kv{bs:List BK}{hh:Heap}{x:zc bs}(hd:dD bs hh []=some x):bs=[]:=by
 cases bs with
 |nil=>rfl
 |cons b r=>cases hd
variable {Eqs:TypeId→Option K} {Sg:FuncId→Option aX} {F:(f:FuncId)→(g:aX)→g.A→Option g.B}
theorem Kw{a b:List Nat}(h:cG (a++b)=true):cG a=true:=by
 induction a with
 |nil=>rfl
 |cons i r ih =>
  obtain⟨h1,h2⟩:=oP h;simp only[cG,Bool.and_eq_true,Bool.not_eq_true'];refine⟨?_,ih h2⟩
  cases hc:r.contains i with
  |false=>rfl
  |true=>exact absurd (abi _ (List.contains_iff_mem.1 hc)) h1
theorem Good.Iy(g:Good Z ψ h w B0 O)(B:Nat):Good Z ψ h w B (Own ψ h) :=⟨g.box,g.row,fun id b h1 h2=>⟨(g.live id b h1 h2).1,.inr ⟨id,h1,h2⟩⟩,g.apart,g.kO⟩
theorem qj:∀(l:List Nat) (hh:Heap) (i:Nat),(iX hh l).get i=if i∈l then none else hh.get i
 |[],hh,i=>by simp[iX]
 |j::r,hh,i=>by
  simp only[iX];rw[qj r (hh.del j) i];by_cases h1:i∈r
  ·simp[h1]
  ·by_cases h2:i=j
   ·subst h2;simp[Heap.iB]
   ·rw[Heap.jA h2];simp[h1,h2]
theorem jf:∀(dW:List CK) (n:Nat) (x:sJ dW),(bp dW n x).map (·.1)=cK dW n
 |[],_,_=>rfl
 |.val k::r,n,x=>jf r (n+1) x.2
 |.own ok::r,n,x=>by simp only[bp,cK,List.map_cons];rw[jf r (n+1) x.2]
theorem nM:∀(bs:List BK) (is:List Nat) (n:Nat) (x:zc bs),is.length=bs.length→(bG bs is n x).map (·.1)=cy bs is n
 |[],is,n,x,_=>by cases is<;>rfl
 |b::r,[],n,x,hl=>by simp at hl
 |b::r,i::is,n,x,hl=>by
  simp only[bG,cy,List.map_append];rw[nM r is (n+16) x.2 (by simpa using hl),←List.cons_append];congr 1
  cases b with
  |box ty c=>simp only[j8,List.map_cons,BK.dW];rw[jf]
  |own ok=>simp[j8,BK.dW,cK]
theorem gV:∀(rs:List RK) (m:Nat) (y:nq rs),(ar rs m y).map (·.1)=bH rs m
 |[],_,_=>rfl
 |.own ok::r,m,y=>by simp only[ar,bH,List.map_cons];rw[gV r (m+1) y.2]
 |.val _::r,m,y=>gV r (m+1) y.2
 |.fW _ _::r,m,y=>gV r (m+1) y.2
 |.agg c::r,m,y=>by have e1:(bp c m y.1).map (·.1)=cK c m:=jf c m y.1;simp only[ar,bH,List.map_append];rw[gV r (m+1) y.2];exact congrArg (·++_) e1
theorem rq:∀(dW:List CK) (n:Nat) (x:sJ dW),gZ dW (aK dW n x)=cK dW n
 |[],_,_=>rfl
 |.val k::r,n,x=>by
  have h2:(aK (.val k::r) n x).drop k.sz=aK r (n+1) x.2:=by simp only[aK];rw[←gH k x.1,List.drop_left]
  have e:gZ (.val k::r) (aK (.val k::r) n x)=gZ r ((aK (.val k::r) n x).drop k.sz):=by generalize aK (.val k::r) n x=l;cases l<;>rfl
  rw[e,h2,rq r (n+1) x.2];rfl
 |.own ok::r,n,x=>by simp only[aK,gZ,qW,cK,List.cons_append,List.nil_append];rw[rq r (n+1) x.2]
theorem Bl{hh:Heap}:∀(bs:List BK) (is:List Nat) (n:Nat) (x:zc bs),is.length=bs.length→(∀e∈bG bs is n x,hh.get e.1=some e.2)→dE bs hh is=cy bs is n
 |[],is,n,x,_,_=>by cases is<;>rfl
 |_::_,[],n,x,hl,_=>by simp at hl
 |b::r,i::is,n,x,hl,hg=>by
  simp only[bG]at hg;simp only[dE,cy];rw[Bl r is (n+16) x.2 (by simpa using hl) (fun e he=>hg e (List.mem_append_right _ he)),←List.cons_append];congr 1
  cases b with
  |box ty c =>simp only[ln,BK.dW];rw[hg (i,.box ty (aK c n x.1)) (List.mem_append_left _ (by simp only[j8];exact List.mem_cons_self))];simp only[];rw[rq]
  |own ok=>simp[ln,BK.dW,cK]
theorem lL:∀(rs:List RK) (ids:List Nat) (n m:Nat) (y:nq rs),eX rs (bj rs ids n m y)=bH rs m
 |[],_,_,_,_=>rfl
 |.own ok::r,ids,n,m,y=>by simp only[bj,eX,bH,qW,List.cons_append,List.nil_append];rw[lL r ids n (m+1) y.2]
 |.val _::r,ids,n,m,y=>by simp only[bj,eX,bH];exact lL r ids n (m+1) y.2
 |.fW _ _::r,ids,n,m,y=>by simp only[bj,eX,bH];exact lL r ids n (m+1) y.2
 |.agg c::r,ids,n,m,y=>by have e1:gZ c (aK c m y.1)=cK c m:=rq c m y.1;simp only[bj,eX,bH,AV.cells];rw[lL r ids n (m+1) y.2];exact congrArg (·++_) e1
theorem nN:∀(rs:List RK) (ids:List Nat) (n m:Nat) (y:nq rs) (id:Nat),AV.bV id∉ig rs (bj rs ids n m y)
 |[],_,_,_,_,_=>by simp[bj,ig]
 |.own ok::r,ids,n,m,y,id=>by simp only[bj,ig];exact nN r ids n (m+1) y.2 id
 |.val k::r,ids,n,m,y,id=>by
  simp only[bj,ig,List.mem_append];rintro(h|h)
  ·have e:(cJ k y.1).cells=enc k y.1:=wu k y.1;exact nK k y.1 id (e▸h)
  ·exact nN r ids n (m+1) y.2 id h
 |.fW _ _::r,ids,n,m,y,id=>by simp only[bj,ig];exact nN r ids n (m+1) y.2 id
 |.agg c::r,ids,n,m,y,id=>by
  simp only[bj,ig,AV.cells,List.mem_append];rintro(h|h)
  ·exact Cp (hh:=[]) c m y.1 id h
  ·exact nN r ids n (m+1) y.2 id h
theorem Rc{gg:aX}{x:gg.A}{y:gg.B}{TL:List Nat}{pW fj:Nat→Value}{id:Nat}(hl:TL.length=gg.bs.length)(XJ:sM gg.bs gg.rs=true)(xH:cG (sK gg)=true) (DI:cG (cy gg.bs TL id++bH gg.rs (id+128))=true) (TM:Good Z' fj (kU gg y).get w' w.heap.size (Own pW (rp gg x))) {v:Value} (ajg:aD Z' fj (kU gg y).get w' (gq (bj gg.rs (aY gg.bs.length) 2000 3000 y.1)) v) :
  ∃L2:List Be,eI L2=bG gg.bs TL id y.2++ar gg.rs (id+128) y.1∧L2.map (·.1)=cy gg.bs TL id++bH gg.rs (id+128) ∧ Good Z' (fY fj L2) (eI L2).get w' w.heap.size (Own pW (rp gg x))∧(∀p∈(aY gg.bs.length).zip TL,fY fj L2 p.2=fj p.1) ∧ aD Z' (fY fj L2) (eI L2).get w' (gq (bj gg.rs TL id (id+128) y.1)) v:=by
 have hle:(aY gg.bs.length).length=gg.bs.length:=by simp[aY]
 have hn2:cG ((kU gg y).map (·.1))=true:=by unfold kU;rw[List.map_append,nM _ _ _ _ hle,gV];exact xH
 have XI:∀e∈bG gg.bs (aY gg.bs.length) 2000 y.2,(kU gg y).get e.1=some e.2:=fun e he=>zG hn2 (by unfold kU;exact abi _ he);have hgr:∀e∈ar gg.rs 3000 y.1,(kU gg y).get e.1=some e.2:=fun e he=>zG hn2 (by unfold kU;exact abg _ he);have zt:=Bj gg.bs _ 2000 y.2 hle XI;have Ye:=nL (xb:=y.2) hle XI gg.rs (aY gg.bs.length) 3000 y.1 XJ hgr
 let vsC:=bj gg.rs (aY gg.bs.length) 2000 3000 y.1
 let L2:List Be:=cY gg.bs (kU gg y) (aY gg.bs.length) TL id y.2++db gg.rs vsC (id+128) y.1
 have eH:eI L2=bG gg.bs TL id y.2++ar gg.rs (id+128) y.1:=by show eI (_++_)=_;rw[oR,kc _ _ _ _ _ _ zt hl,iC]
 have eN:L2.map (·.1)=cy gg.bs TL id++bH gg.rs (id+128):=by show(_++_:List Be).map _=_;rw[List.map_append,iZ _ _ _ _ _ _ zt hl,gT]
 have eS:L2.filterMap (·.2.1)=sK gg:=by show(_++_:List Be).filterMap _=_;rw[List.filterMap_append,lH _ _ _ _ _ _ zt hl,jM _ _ _ _ Ye,Bl _ _ 2000 y.2 hle XI,lL];rfl
 have hn:cG (L2.map (·.1))=true:=by rw[eN];exact DI
 have j0:=Cm (ψ:=fj) hn;have g3:Good Z' (fY fj L2) (eI L2).get w' w.heap.size (Own pW (rp gg x)):=by
  refine TM.rename hn (by rw[eS];exact xH) fun e he=>?_;rcases abw.1 he with he|he
  ·exact nH TM (fun _ h=>h) gg.bs _ _ id y.2 zt (fun i b bR _ _=>(DH gg.bs _ 2000 y.2 i XI bR).elim) (fun s _=>rfl) (fun e he=>j0 e (abi _ he)) e he
  ·exact kT gg.rs vsC (id+128) y.1 Ye (fun s _=>rfl) e he
 refine⟨L2,eH,eN,g3,fun p hp=>?_,?_⟩
 ·obtain⟨o,ho⟩:=lJ (hh:=kU gg y) gg.bs (aY gg.bs.length) TL id y.2 hle p hp;exact jL hn (abi _ ho)
 ·refine wm (by rw[lq,lq]) (fun vs vX=>?_) ajg;exact ux (nb:=id) (is':=TL) TM (fun _ h=>h) zt hl (fun e he=>j0 e (abi _ he)) gg.rs vsC (id+128) y.1 vs Ye (fun i b bR _ _=>(nN gg.rs _ _ _ y.1 i bR).elim) (fun e he=>j0 e (abg _ he)) vX
theorem Rd{hh:Heap}{mj:List AV}{kept:List Nat}{oE:Hp}{pW TN:Nat→Value}{H2:Heap}(g:Good Z ψ hh.get w B0 O)(hB:B0≤w.heap.size)(G1:∀s∈kept,(dg hh mj).get s=hh.get s) (bC:∀i ty cs,hh.get i=some (.box ty cs)→aJ (fun i=>¬N i) cs) (vZ:∀b,Own pW oE b→∃s,s∈kept∧hh.get s≠none∧ob (ψ s)=some b) (hz:∀b,sH Z ψ hh.get mj b→Z' b) (C9:∀b,Z' b→sH Z ψ hh.get mj b∨Own pW oE b∨w.heap.size≤b) (keep:dF pW oE w w') (g3:Good Z' TN H2.get w' w.heap.size (Own pW oE)) (zH:∀i ty cs,H2.get i=some (.box ty cs)→aJ (fun j=>H2.get j≠none) cs) (py:∀i,H2.get i≠none→(i∈kept∧hh.get i≠none∧TN i=ψ i)∨N i) :
  ∃DJ,(∀i,H2.get i≠none→DJ i=TN i)∧Next Z ψ hh.get w B0 O N Z' DJ (H2++iX (dg hh mj) kept).get w':=by
 classical
 let DJ:Nat→Value:=fun i=>if H2.get i≠none then TN i else ψ i
 have h4:∀i,H2.get i≠none→DJ i=TN i:=fun i hi=>if_pos hi;have hg:∀i,(H2++iX (dg hh mj) kept).get i=(match H2.get i with|some o=>some o|none=>if i∈kept then none else(dg hh mj).get i):=fun i=>by rw[Heap.get_append,qj];cases H2.get i<;>rfl
 have F9:∀i,H2.get i≠none→(H2++iX (dg hh mj) kept).get i=H2.get i:=fun i hi=>by
  rw[hg];cases e:H2.get i with
  |none=>exact absurd e hi
  |some o=>rfl
 have Bm:∀i,H2.get i=none→(H2++iX (dg hh mj) kept).get i≠none→i∉kept∧(H2++iX (dg hh mj) kept).get i=hh.get i∧(dg hh mj).get i=hh.get i∧DJ i=ψ i∧hh.get i≠none:=fun i hi bq=>by
  rw[hg,hi]at bq ⊢;simp only at bq ⊢;by_cases hk:i∈kept
  ·rw[if_pos hk]at bq;exact absurd rfl bq
  ·rw[if_neg hk]at bq ⊢;obtain⟨o,ho⟩:=abN.1 bq;have:=fm _ _ _ _ ho;exact⟨hk,by rw[ho,this],by rw[ho,this],if_neg (by simp[hi]),by rw[this];simp⟩
 have Yf:∀i b,i∉kept→hh.get i≠none→ob (ψ i)=some b→¬Own pW oE b:=fun i b hk hi hb ho=>by obtain⟨s,h1,h2,h3⟩:=vZ b ho;exact hk ((g.apart i s b hi h2 hb h3)▸h1)
 have gd:Good (sH Z ψ hh.get mj) ψ (dg hh mj).get w B0 O:=jB g mj;have adX:∀b,sH Z ψ hh.get mj b→¬Own pW oE b:=fun b hb ho=>by obtain⟨s,h1,h2,h3⟩:=vZ b ho;exact(gd.live s b (by rw[G1 s h1];exact h2) h3).1 hb
 have sm:cU (sH Z ψ hh.get mj) w w':=fun b hb=>keep.block b (gd.kO b hb) (adX b hb);have adY:∀i,(H2++iX (dg hh mj) kept).get i≠none→(hh.get i≠none∧DJ i=ψ i)∨N i:=fun i hi=>by
  by_cases h2:H2.get i=none
  ·obtain⟨_,_,_,h3,h5⟩:=Bm i h2 hi;exact .inl ⟨h5,h3⟩
  ·rcases py i h2 with⟨_,h3,h5⟩|h3
   ·exact .inl ⟨h3,(h4 i h2).trans h5⟩
   ·exact .inr h3
 have kk:dF ψ hh.get w w':=⟨keep.os,keep.tape,keep.output,keep.size,fun b hb su=>keep.block b hb fun ho=>by obtain⟨s,_,h2,h3⟩:=vZ b ho;exact su ⟨s,h2,h3⟩⟩;refine⟨DJ,h4,fun b hb=>hz b (.inl hb),fun b hb=>?_,kk,adY,⟨fun i ty cs hb=>?_,fun i ok xs hb=>?_,fun i b h1 h2=>?_,fun i i' b h1 h2 h3 h5=>?_,g3.kO⟩⟩
 ·rcases C9 b hb with h1|h1|h1
  ·exact(h1.imp (fun h=>h) fun⟨i,_,h2,h3⟩=>.inl ⟨i,h2,h3⟩)
  ·obtain⟨s,_,h2,h3⟩:=vZ b h1;exact .inr (.inl ⟨s,h2,h3⟩)
  ·exact .inr (.inr h1)
 ·by_cases h2:H2.get i=none
  ·obtain⟨h3,h5,h6,h7,h8⟩:=Bm i h2 (by rw[hb];simp);rw[h5]at hb;obtain⟨gg,vs,e1,e2,e3,e4⟩:=gd.box i ty cs (by rw[h6];exact hb);have aG:=(abq.1 e2).1;refine⟨gg,vs,by rw[h7,e1],?_,?_,e4⟩
   ·rw[keep.block gg aG (Yf i gg h3 h8 (by rw[e1];rfl))];exact e2
   ·refine e3.move (p:=fun i=>¬N i) hz sm (fun j hp hj=>?_) (bC i ty cs hb);by_cases h9:H2.get j=none
    ·obtain⟨_,_,oC,BW,MQ⟩:=Bm j h9 hj;exact⟨by rw[oC];exact MQ,BW⟩
    ·rcases py j h9 with⟨oC,BW,MQ⟩|oC
     ·exact⟨by rw[G1 j oC];exact BW,(h4 j h9).trans MQ⟩
     ·exact absurd oC hp
  ·rw[F9 i h2]at hb;obtain⟨gg,vs,e1,e2,e3,e4⟩:=g3.box i ty cs hb;exact⟨gg,vs,by rw[h4 i h2,e1],e2,e3.move (p:=fun j=>H2.get j≠none) (fun _ h=>h) (cU.refl _ _) (fun j hp _=>⟨hp,h4 j hp⟩) (zH i ty cs hb),e4⟩
 ·by_cases h2:H2.get i=none
  ·obtain⟨h3,h5,h6,h7,h8⟩:=Bm i h2 (by rw[hb];simp);rw[h5]at hb;rw[h7];exact(gd.row i ok xs (by rw[h6];exact hb)).kept hz sm fun gg QF=>keep.block gg (g.cc ⟨i,h8,QF⟩) (Yf i gg h3 h8 QF)
  ·rw[F9 i h2]at hb;rw[h4 i h2];exact g3.row i ok xs hb
 ·by_cases h3:H2.get i=none
  ·obtain⟨h5,h6,h7,h8,h9⟩:=Bm i h3 h1;rw[h8]at h2;obtain⟨oC,BW⟩:=gd.live i b (by rw[h7];exact h9) h2;refine⟨fun hzb=>?_,BW⟩;rcases C9 b hzb with MQ|MQ|MQ
   ·exact oC MQ
   ·exact Yf i b h5 h9 h2 MQ
   ·have:=g.cc ⟨i,h9,h2⟩;omega
  ·rw[h4 i h3]at h2;obtain⟨h5,h6⟩:=g3.live i b h3 h2;refine⟨h5,?_⟩;rcases h6 with h6|h6
   ·exact .inl (by omega)
   ·obtain⟨s,_,h7,h8⟩:=vZ b h6;exact(g.live s b h7 h8).2
 ·have A3:∀i i',H2.get i=none→H2.get i'≠none→(H2++iX (dg hh mj) kept).get i≠none→ob (DJ i)=some b→ob (DJ i')=some b→False:=fun i i' e1 e2 e3 e4 e5=>by
   obtain⟨h6,_,_,h8,h9⟩:=Bm i e1 e3;rw[h8]at e4;rw[h4 i' e2]at e5;rcases (g3.live i' b e2 e5).2 with oC|oC
   ·have:=g.cc ⟨i,h9,e4⟩;omega
   ·exact Yf i b h6 h9 e4 oC
  by_cases e1:H2.get i=none<;>by_cases e2:H2.get i'=none
  ·obtain⟨_,_,_,h8,h9⟩:=Bm i e1 h1;obtain⟨_,_,_,h8',h9'⟩:=Bm i' e2 h2;rw[h8]at h3;rw[h8']at h5;exact g.apart i i' b h9 h9' h3 h5
  ·exact(A3 i i' e1 e2 h1 h3 h5).elim
  ·exact(A3 i' i e2 e1 h2 h5 h3).elim
  ·rw[h4 i e1]at h3;rw[h4 i' e2]at h5;exact g3.apart i i' b e1 e2 h3 h5
theorem Cr{i:Nat}{o:Ob}:∀{hh:Heap},(i,o)∈hh→hh.get i≠none
 |[],h=>by cases h
 |(j,o')::r,h=>by
  simp only[Heap.get]
  split
  ·simp
  ·rename_i hn;rcases abd.1 h with e|h
   ·cases e;exact absurd rfl hn
   ·exact Cr h
theorem get_mem{i:Nat}{o:Ob}:∀{hh:Heap},hh.get i=some o→(i,o)∈hh
 |[],h=>by simp[Heap.get]at h
 |(j,o')::r,h=>by
  simp only[Heap.get]at h
  split at h
  ·rename_i e;subst e;cases h;exact abp
  ·exact aa1 _ (get_mem h)
theorem rr{p:Nat→Prop}:∀{a b:List AV},aJ p a→aJ p b→aJ p (a++b)
 |[],b,_,h=>h
 |x::r,b,h,h'=>by simp only[List.cons_append,aJ]at h ⊢;exact⟨h.1,rr h.2 h'⟩
theorem lr{p:Nat→Prop}:∀(dW:List CK) (n:Nat) (x:sJ dW),(∀e∈bp dW n x,p e.1)→aJ p (aK dW n x)
 |[],n,x,_=>by simp only[aK,aJ]
 |.val k::r,n,x,h=>by simp only[aK];exact rr (nJ p k x.1) (lr r (n+1) x.2 h)
 |.own ok::r,n,x,h=>by simp only[bp]at h;simp only[aK,aJ,aQ];exact⟨h _ abp,lr r (n+1) x.2 fun e he=>h e (aa1 _ he)⟩
theorem oU:∀(dW:List CK) (n:Nat) (x:sJ dW) (i:Nat) (ty:TypeId) (cs:List AV),(i,Ob.box ty cs)∉bp dW n x
 |[],_,_,_,_,_=>by simp[bp]
 |.val k::r,n,x,i,ty,cs=>oU r (n+1) x.2 i ty cs
 |.own _::r,n,x,i,ty,cs=>by simp only[bp,List.mem_cons,not_or];exact⟨by simp,oU r (n+1) x.2 i ty cs⟩
theorem vp{p:Nat→Prop}:∀(bs:List BK) (is:List Nat) (n:Nat) (x:zc bs),(∀e∈bG bs is n x,p e.1)→∀i ty cs,(i,Ob.box ty cs)∈bG bs is n x→aJ p cs
 |[],is,n,x,_,i,ty,cs,h=>by cases is<;>simp[bG]at h
 |b::r,[],n,x,_,i,ty,cs,h=>by simp[bG]at h
 |b::r,i0::is,n,x,hp,i,ty,cs,h=>by
  simp only[bG]at h hp;rcases abw.1 h with h|h
  ·cases b with
   |box ty0 c0 =>
    simp only[j8]at h hp;rcases abd.1 h with e|h
    ·cases e
     exact lr c0 n x.1 fun e he=>hp e (abi _ (aa1 _ he))
    ·exact absurd h (oU _ _ _ _ _ _)
   |own ok=>simp[j8]at h
  ·exact vp r is (n+16) x.2 (fun e he=>hp e (abg _ he)) i ty cs h
theorem oV:∀(dW:List CK) (n i:Nat),i∈cK dW n→n≤i∧i<n+dW.length
 |[],n,i,h=>by simp[cK]at h
 |.val k::r,n,i,h=>by have:=oV r (n+1) i (by simpa[cK] using h);simp only[List.length_cons];omega
 |.own ok::r,n,i,h=>by
  simp only[cK]at h;simp only[List.length_cons];rcases abd.1 h with rfl|h
  ·omega
  ·have:=oV r (n+1) i h;omega
theorem xI:∀(bs:List BK) (is:List Nat) (n i:Nat),(bs.all fun b=>decide (b.dW.length≤16))=true→i∈cy bs is n→i∈is∨(n≤i∧i<n+16*bs.length)
 |[],is,n,i,_,h=>by cases is<;>simp[cy]at h
 |b::r,[],n,i,_,h=>by simp[cy]at h
 |b::r,i0::is,n,i,hc,h=>by
  simp only[List.all_cons,Bool.and_eq_true,decide_eq_true_eq]at hc;simp only[cy]at h;simp only[List.length_cons];rcases abd.1 h with rfl|h
  ·exact .inl abp
  ·rcases abw.1 h with h|h
   ·have:=oV _ _ _ h;exact .inr (by omega)
   ·rcases xI r is (n+16) i hc.2 h with h1|h1
    ·exact .inl (aa1 _ h1)
    ·exact .inr (by omega)
theorem kg{bs:List BK}:∀(rs:List RK) (m i:Nat),sM bs rs=true→i∈bH rs m→m≤i∧i<m+rs.length+16
 |[],m,i,_,h=>by simp[bH]at h
 |.own ok::r,m,i,hk,h=>by
  simp only[sM,List.all_cons,Bool.and_eq_true]at hk;simp only[bH]at h;simp only[List.length_cons];rcases abd.1 h with rfl|h
  ·omega
  ·have:=kg r (m+1) i hk.2 h;omega
 |.val _::r,m,i,hk,h=>by simp only[sM,List.all_cons,Bool.and_eq_true]at hk;have:=kg r (m+1) i hk.2 (by simpa[bH] using h);simp only[List.length_cons];omega
 |.fW _ _::r,m,i,hk,h=>by simp only[sM,List.all_cons,Bool.and_eq_true]at hk;have:=kg r (m+1) i hk.2 (by simpa[bH] using h);simp only[List.length_cons];omega
 |.agg c::r,m,i,hk,h=>by
  simp only[sM,List.all_cons,Bool.and_eq_true,F6,decide_eq_true_eq]at hk;simp only[bH]at h;simp only[List.length_cons];rcases abw.1 h with h|h
  ·have:=oV c m i h;omega
  ·have:=kg r (m+1) i hk.2 h;omega
theorem Bn{hh:Heap}:∀(bs:List BK) (is:List Nat) (i:Nat),is.length=bs.length→i∈is→i∈dE bs hh is
 |[],is,i,hl,h=>by cases is with
  |nil=>cases h
  |cons a r=>simp at hl
 |b::r,[],i,_,h=>by cases h
 |b::r,i0::is,i,hl,h=>by
  simp only[dE];rcases abd.1 h with rfl|h
  ·refine abi _ ?_
   cases b<;>simp[ln]
  ·exact abg _ (Bn r is i (by simpa using hl) h)
theorem TO{α β:Type}:∀{a:List α} {b:List β},a.length=b.length→∀x∈a,∃y,(x,y)∈a.zip b∧(y,x)∈b.zip a
 |[],b,_,x,h=>by cases h
 |a::r,[],hl,x,_=>by simp at hl
 |a::r,c::q,hl,x,h=>by
  simp only[List.zip_cons_cons];rcases abd.1 h with rfl|h
  ·exact⟨c,abp,abp⟩
  ·obtain⟨y,h1,h2⟩:=TO (a:=r) (b:=q) (by simpa using hl) x h;exact⟨y,aa1 _ h1,aa1 _ h2⟩
theorem wy:∀(dW:List CK) (n c:Nat),ia dW c=true→n+c∈cK dW n
 |[],n,c,h=>by simp[ia]at h
 |.own _::r,n,0,_=>by simp[cK]
 |.own _::r,n,c+1,h=>by simp only[ia]at h;have:=wy r (n+1) c h;simp only[cK];exact aa1 _ (by rwa [show n+(c+1)=n+1+c by omega])
 |.val _::r,n,0,h=>by simp[ia]at h
 |.val _::r,n,c+1,h=>by
  simp only[ia]at h;have:=wy r (n+1) c h;simp only[cK]
  rwa [show n+(c+1)=n+1+c by omega]
theorem Bo:∀(bs:List BK) (is:List Nat) (n b i:Nat) (bk:BK),is.length=bs.length→bs[b]? = some bk→i∈cK bk.dW (n+16*b)→i∈cy bs is n
 |[],_,_,b,_,_,_,h,_=>by simp at h
 |_::_,[],_,_,_,_,hl,_,_=>by simp at hl
 |b0::r,i0::is,n,0,i,bk,hl,hb,hi=>by simp only[List.getElem?_cons_zero,Option.some.injEq]at hb;subst hb;simp only[cy];exact aa1 _ (abi _ (by simpa using hi))
 |b0::r,i0::is,n,b+1,i,bk,hl,hb,hi=>by
  simp only[List.getElem?_cons_succ]at hb;simp only[cy];refine aa1 _ (abg _ (Bo r is (n+16) b i bk (by simpa using hl) hb ?_))
  rwa [show n+16+16*b=n+16*(b+1) by omega]
theorem lM{p:Nat→Prop}{bs:List BK}{is:List Nat}(hl:is.length=bs.length):∀(rs:List RK) (ids:List Nat) (n m:Nat) (y:nq rs),sM bs rs=true→(∀i∈bH rs m,p i)→(∀i∈cy bs is n,p i)→aJ p (bj rs ids n m y)
 |[],_,_,_,_,_,_,_=>by simp only[bj,aJ]
 |.val k::r,ids,n,m,y,hr,h1,h2=>by simp only[sM,List.all_cons,Bool.and_eq_true,F6]at hr;simp only[bj,aJ];exact⟨qi p k y.1,lM hl r ids n (m+1) y.2 hr.2 (fun i hi=>h1 i hi) h2⟩
 |.own _::r,ids,n,m,y,hr,h1,h2=>by simp only[sM,List.all_cons,Bool.and_eq_true,F6]at hr;simp only[bj,aJ,aQ];exact⟨h1 m (by simp[bH]),lM hl r ids n (m+1) y.2 hr.2 (fun i hi=>h1 i (by simp only[bH];exact aa1 _ hi)) h2⟩
 |.fW b alts::r,ids,n,m,y,hr,h1,h2=>by
  simp only[sM,List.all_cons,Bool.and_eq_true,F6]at hr;simp only[bj,aJ];refine⟨?_,lM hl r ids n (m+1) y.2 hr.2 (fun i hi=>h1 i hi) h2⟩
  cases hy:y.1 with
  |none=>simp only[xd,aQ]
  |some p =>
   obtain⟨al,i⟩:=p;simp only[xd,aQ]
   cases hb:bs[b]? with
   |none=>rw[hb]at hr;exact absurd hr.1 (by simp)
   |some bk =>rw[hb]at hr;simp only[Bool.and_eq_true]at hr;exact h2 _ (Bo bs is n b _ bk hl hb (wy bk.dW (n+16*b) _ (ac3.1 hr.1.1 _ (List.get_mem alts al))))
 |.agg c::r,ids,n,m,y,hr,h1,h2=>by simp only[sM,List.all_cons,Bool.and_eq_true,F6]at hr;simp only[bj,aJ,aQ];refine⟨lr c m y.1 fun e he=>h1 _ ?_,lM hl r ids n (m+1) y.2 hr.2 (fun i hi=>h1 i (by simp only[bH];exact abg _ hi)) h2⟩;simp only[bH];have e1:(bp c m y.1).map (·.1)=cK c m:=jf c m y.1;exact abi _ (e1▸aca.2 ⟨e,he,rfl⟩)
theorem Nn{p:Nat→Prop}{vs:List AV}(h:aJ p vs):aQ p (gq vs):=by
 match vs,h with
 |[],h=>simp only[gq,aQ];exact h
 |[v],h=>simp only[gq];simp only[aJ]at h;exact h.1
 |_::_::_,h=>simp only[gq,aQ];exact h
def jD(P:Program)(f:FuncId)(u:Heap→Nat→List AV→Option (Bool×bW)):Prop :=∀{Z:Nat→Prop} {ψ:Nat→Value} {h:Hp} {w:World} {B0:Nat} {O N:Nat→Prop} {hh:Heap} {id:Nat} {e:bW} {vs:List AV} {us:List Value},Good Z ψ h w B0 O→B0≤w.heap.size→(∀id o,hh.get id=some o→h id=some o)→(∀j,j<256→N (id+j))→(∀i ty cs,h i=some (.box ty cs)→aJ (fun i=>¬N i) cs)→(∀v hw,e=.wr v hw→hh.get=h) → ax Z ψ h w vs us→aJ (fun i=>¬N i) vs→u hh id vs=some (true,e) → Calls P f us.toArray w fun en w'=>∃V Z' ψ',en=.returned V∧Next Z ψ h w B0 O N Z' ψ' (e.hp h) w'∧aD Z' ψ' (e.hp h) w' e.v V
theorem Yg{R:Type}{n:Nat}(a:Fin n)(f:Fin n→Option R):adA n a f=f a:=by
 have key:∀l:List (Fin n),a∈l→l.foldr (fun j r=>cond (a.val==j.val) (f j) r) none=f a:=by
  intro l
  induction l with
  |nil=>intro h;cases h
  |cons j r ih =>
   intro h;simp only[List.foldr_cons];by_cases e:a=j
   ·subst e;simp
   ·have:(a.val==j.val)=false:=by simp only[beq_eq_false_iff_ne,ne_eq];exact fun h=>e (Fin.ext h)
    rw[this,cond_false];rcases abd.1 h with h|h
    ·exact absurd h e
    ·exact ih h
 exact key _ (List.mem_finRange a)
theorem jN{R:Type}:∀(rs:List RK) (x:nq rs) (K:nq rs→Option R),kM rs x K=K x
 |[],_,_=>rfl
 |.val _::r,x,K=>by simp only[kM];rw[jN r x.2];rfl
 |.own _::r,x,K=>by simp only[kM];rw[jN r x.2];rfl
 |.agg _::r,x,K=>by simp only[kM];rw[jN r x.2];rfl
 |.fW _ alts::r,x,K=>by
  simp only[kM];obtain⟨x1,x2⟩:=x
  cases x1 with
  |none=>simp only[sN];rw[jN r x2]
  |some p=>simp only[sN];rw[Yg,jN r x2]
theorem No(hX:∀f g u,Sg f=some g→g.x=some u→jD P (f%1000) u)(hF:∀f g x y,Sg f=some g→F f g x=some y→GZ P f g x y)(Re:∀f g,Sg f=some g→ke P (f%1000)) {hh:Heap} {ρC:Operand→Value} {o:Oper} (g:Good Z ψ h w B0 O) (hB:B0≤w.heap.size) (bI:∀id o,hh.get id=some o→h id=some o) {id:Nat} (hN:∀j,j<256→N (id+j)) {e:bW} (bC:∀i ty cs,h i=some (.box ty cs)→aJ (fun i=>¬N i) cs) (mU:∀v hw,e=.wr v hw→hh.get=h) {f:FuncId} {cap vs:List AV} {fv:Value} {us:List Value} (Rf:aD Z ψ h w (.fn f cap) fv) (vX:ax Z ψ h w vs us) (Ir:aJ (fun i=>¬N i) (vs++cap)) (hex:∀(ws:Array Value),fv=.func (.func f) #[] ws→execOp ρC o=callFunc f (us.toArray++ws)) (he:j9 Sg F hh id f (vs++cap) some=some e):aab P ρC o Z ψ h w B0 O N e:=by
 unfold j9 at he
 split at he
 ·cases he
 rename_i gg hSg;simp only[aD]at Rf;obtain⟨ws,rfl,TP⟩:=Rf;have G2:=Re _ _ hSg;have mA:ax Z ψ h w (vs++cap) (us++ws.toList):=ax.append vX TP;have Iz:ax Z ψ hh.get w (vs++cap) (us++ws.toList):=mA.ss bI;have gs:Good Z ψ hh.get w B0 O:=g.sub bI;have TQ:us.toArray++ws=(us++ws.toList).toArray:=by simp
 split at he
 ·rename_i u hu
  split at he
  ·rename_i hf;obtain⟨⟨b,e'⟩,he1,XC⟩:=ac4.1 he
   cases b with
   |false=>cases XC
   |true =>
   cases XC
   have Kx:keyOf Sg f (vs++cap)%1000=f:=by rw[zy];exact adW hf
   have hx:jD P f u:=by rw[←Kx];exact hX _ _ _ hSg hu
   rw[Kx]at G2;refine⟨f,us.toArray++ws,by rw[hex ws rfl];exact kf G2 _,?_⟩;rw[TQ];exact hx g hB bI hN bC mU mA Ir he1
  ·cases he
 split at he
 ·rename_i i0 py IA
  split at he
  ·rename_i Rg;simp only[Bool.and_eq_true,List.isEmpty_iff]at Rg;obtain⟨rfl,_⟩:=Rg
   split at he
   rotate_left
   ·cases he
   rename_i x b hx hb s8;obtain⟨y,hy,he⟩:=ac4.1 he;simp only[Tk,Bool.and_eq_true,decide_eq_true_eq]at IA;obtain⟨_,_,⟨hlen,hf⟩,_⟩:=IA;have Gd:=(hF _ _ _ _ hSg hy).zero (Kv hb);have Kx:keyOf Sg f (vs++cap)%1000=f:=by rw[zy];exact adW hf
   rw[Kx]at G2;have hN':∀j,j<gg.rs.length+16→N (id+128+j):=fun j hj=>by rw[Nat.add_assoc];exact hN _ (by omega)
   refine⟨f,us.toArray++ws,by rw[hex ws rfl];exact kf G2 _,?_⟩;rw[TQ];unfold adO at Gd;rw[Kx]at Gd;by_cases su:sL (vs++cap)=true
   ·rw[su,Bool.or_true]at he
    cases he
    have h1:ax Z MS iq w (GW gg x) (us++ws.toList):=DC gs (fun _ h=>h) gg.ps 0 _ _ x (fun v hv i b hi _ _=>(tc su v hv i hi).elim) py hx Iz;refine(Gd Z w _ g.kO h1).mono fun en w' ⟨v,Z',ψ',e1,h2,h3,h4,h5,h6⟩=>?_;obtain⟨wx,n,hr⟩:=zz (nb:=id) s8 g hB bC hN' h4 h2 h3 h5 h6;exact⟨v,Z',wx,e1,n,hr⟩
   ·cases hfl:gg.rs.all RK.flat with
    |true =>
     rw[hfl,Bool.true_or]at he
     cases he
     let Zc:Nat→Prop:=fun b=>b<w.heap.size
     have h1:ax Zc MS iq w (GW gg x) (us++ws.toList):=DC gs g.kO gg.ps 0 _ _ x (fun v hv i b hi h1 h2=>gs.cc ⟨i,h1,h2⟩) py hx Iz;refine(Gd Zc w _ (fun _ h=>h) h1).mono fun en w' ⟨v,Z',ψ',e1,h2,h3,h4,h5,h6⟩=>?_;have ad0:=QX gg.rs 3000 y.1 hfl s8;have h7:aD Z ψ' (ar gg.rs 3000 y.1).get w' (gq (bj gg.rs [] 2000 3000 y.1)) v:=wm rfl (fun vs vX=>TI gg.rs hfl s8 vX) h6;have gz:Good Z ψ' (ar gg.rs 3000 y.1).get w' w.heap.size (fun _=>False):=by rw[ad0];exact⟨fun _ _ _ hb=>by simp[Heap.get]at hb,fun _ _ _ hb=>by simp[Heap.get]at hb,fun _ _ hb=>by simp[Heap.get]at hb,fun _ _ _ hb=>by simp[Heap.get]at hb,fun b hb=>adf (g.kO b hb) h4.size⟩
     obtain⟨wx,n,hr⟩:=zz (nb:=id) s8 g hB bC hN' h4 (fun _ h=>h) (fun _ h=>.inl h) gz h7;exact⟨v,Z,wx,e1,n,hr⟩
    |false =>
     rw[hfl,Bool.false_or,Bool.eq_false_iff.2 su]at he
     cases he
     have heq:=mU _ _ rfl;subst heq
     let cs:=dV gg.ps (vs++cap)
     have X4:∀b,sH Z ψ hh.get cs b→Z b∨Own ψ hh.get b:=fun b hb=>hb.imp (fun h=>h) (fun⟨i,_,h2,h3⟩=>⟨i,h2,h3⟩);have gd:Good (sH Z ψ hh.get cs) ψ (dg hh cs).get w B0 O:=jB g cs;have h1:ax (sH Z ψ hh.get cs) MS iq w (GW gg x) (us++ws.toList) :=DC gs (fun _ h=>.inl h) gg.ps 0 _ _ x (fun v hv i b hi h1 h2=>.inr ⟨i,xF _ _ py v hv i hi,h1,h2⟩) py hx Iz;refine(Gd _ w _ gd.kO h1).mono fun en w' ⟨v,Z',ψ',e1,h2,h3,h4,h5,h6⟩=>?_;obtain⟨wx,n,hr⟩:=zz (nb:=id) s8 gd hB (fun i ty cs hb=>bC i ty cs (fm _ _ _ _ hb)) hN' h4 h2 h3 h5 h6;have e2:(bW.wr (gq (bj gg.rs [] id (id+128) y.1)) (ar gg.rs (id+128) y.1++dg hh (dV gg.ps (vs++cap)))).hp hh.get=(fun i=>match (ar gg.rs (id+128) y.1).get i with|some o=>some o|none=>(dg hh cs).get i):=by
      funext i;simp only[bW.hp];rw[Heap.get_append]
      cases (ar gg.rs (id+128) y.1).get i<;>rfl
     rw[e2];exact⟨v,Z',wx,e1,n.drop (fun _ h=>.inl h) X4 (fm _ _),hr⟩
  ·split at he
   rotate_left
   ·cases he
   rename_i x b hx hb Ge;obtain⟨y,hy,he⟩:=ac4.1 he;rw[jN]at he
   cases he
   have heq:=mU _ _ rfl;subst heq;simp only[Tk,Bool.and_eq_true,decide_eq_true_eq]at IA;obtain⟨XJ,⟨hbl,uf⟩,⟨hlen,hf⟩,xH⟩:=IA;rw[Bool.and_eq_true]at Ge;have Gd:=hF _ _ _ _ hSg hy;have Kx:keyOf Sg f (vs++cap)%1000=f:=by rw[zy];exact adW hf
   rw[Kx]at G2;refine⟨f,us.toArray++ws,by rw[hex ws rfl];exact kf G2 _,?_⟩;rw[TQ];unfold GZ at Gd;rw[Kx]at Gd;have hl:i0.length=gg.bs.length:=(kd _ _ _ hb).1;have DK:=(kd _ _ _ hb).2;have hle:(aY gg.bs.length).length=gg.bs.length:=by simp[aY]
   let mj:=dV gg.ps (vs++cap)++ic gg.bs hh i0
   let L1:List Be:=cY gg.bs hh i0 (aY gg.bs.length) 2000 b
   have eH1:eI L1=bG gg.bs (aY gg.bs.length) 2000 b:=kc _ _ _ _ _ _ hb hle;have eN1:L1.map (·.1)=cy gg.bs (aY gg.bs.length) 2000:=iZ _ _ _ _ _ _ hb hle;have eS1:L1.filterMap (·.2.1)=dE gg.bs hh i0:=lH _ _ _ _ _ _ hb hle;have hn1:cG (L1.map (·.1))=true:=by rw[eN1];exact Kw xH
   have abm:=Cm (ψ:=ψ) hn1;have G1:=(uu Ge.1).2 hh;have A9:∀b,Z b→sH Z ψ hh.get mj b:=fun b hb=>.inl hb;have ad1:∀e∈L1,xz (sH Z ψ hh.get mj) ψ (dg hh mj).get w (eI L1).get (fY ψ L1) e:=fun e he =>nH gs A9 gg.bs _ _ 2000 b hb (fun i b bR h1 h2=>.inr ⟨i,abg _ bR,h1,h2⟩) G1 abm e he;have gin:Good (sH Z ψ hh.get mj) (fY ψ L1) (eI L1).get w B0 O:=zx gs Ge.1 hn1 eS1 ad1;have ein:(eI L1).get=rp gg (x,b):=by rw[eH1];rfl
   have TR:∀p∈i0.zip (aY gg.bs.length),(p.2,some p.1)∈L1.map (fun e=>(e.1,e.2.1)):=fun p hp=>by obtain⟨o,ho⟩:=lJ (hh:=hh) gg.bs i0 (aY gg.bs.length) 2000 b hl p hp;exact aca.2 ⟨_,ho,rfl⟩
   have ad2:∀p∈i0.zip (aY gg.bs.length),fY ψ L1 p.2=ψ p.1:=fun p hp=>by
    obtain⟨⟨i,s,o⟩,ho,he⟩:=aca.1 (TR p hp)
    cases he
    exact jL hn1 ho
   have abr:ax (sH Z ψ hh.get mj) (fY ψ L1) (eI L1).get w (Iu gg (x,b)) (us++ws.toList) :=mV gs A9 gg.ps i0 (aY gg.bs.length) 0 _ _ x (by rw[hle,hl]) py hx (fun i b bR h1 h2=>.inr ⟨i,abi _ bR,h1,h2⟩) (fun p hp=>⟨DK _ (List.of_mem_zip hp).1,fun _=>ad2 p hp⟩) Iz;have vZ:∀c,Own (fY ψ L1) (rp gg (x,b)) c→∃s,s∈dE gg.bs hh i0∧hh.get s≠none∧ob (ψ s)=some c:=fun c ⟨i,h1,h2⟩=>by
    rw[←ein]at h1;obtain⟨o,ho⟩:=abN.1 h1;obtain⟨s,hm⟩:=qh ho;rw[jL hn1 hm]at h2
    cases s with
    |none=>simp[kR,ob]at h2
    |some s =>
     have hs:s∈dE gg.bs hh i0:=by rw[←eS1];exact ad8.2 ⟨_,hm,rfl⟩
     refine⟨s,hs,?_,h2⟩;have h3:=ad1 _ hm;rw[←G1 s hs]
     cases o with
     |box ty cs=>obtain⟨⟨cs0,h4⟩,_⟩:=h3;rw[h4];simp
     |own ok xs=>rw[show(dg hh mj).get s=some (.own ok xs) from h3];simp
   refine(Gd (sH Z ψ hh.get mj) (fY ψ L1) w (us++ws.toList) (by rw[←ein];exact gin.Iy _) (by rw[←ein];exact abr)).mono fun en w' ⟨v,Z',fj,e1,h2,h3,h4,h5,h6,h7⟩=>?_;obtain⟨L2,eH2,eN2,g3,hzz,abt⟩:=Rc (x:=(x,b)) (y:=y) (id:=id) hl XJ xH Ge.2 h5 h7;have zH:∀i ty cs,(eI L2).get i=some (.box ty cs)→aJ (fun j=>(eI L2).get j≠none) cs:=fun i ty cs hg=>by
    have gI:=get_mem hg;rw[eH2]at gI;rcases abw.1 gI with gI|gI
    ·exact vp gg.bs _ id y.2 (fun e he=>by rw[eH2];exact Cr (o:=e.2) (abi _ he)) i ty cs gI
    ·exfalso;have:∀(rs:List RK) (m:Nat) (y:nq rs),(i,Ob.box ty cs)∉ar rs m y:=by
      intro rs
      induction rs with
      |nil=>intro m y;simp[ar]
      |cons r rs ih =>
       intro m y
       cases r with
       |agg c=>simp only[ar,List.mem_append,not_or];exact⟨oU _ _ _ _ _ _,ih (m+1) y.2⟩
       |val k=>exact ih (m+1) y.2
       |fW _ _=>exact ih (m+1) y.2
       |own ok=>simp only[ar,List.mem_cons,not_or];exact⟨by simp,ih (m+1) y.2⟩
     exact this _ _ _ gI
   have ad4:∀i,(eI L2).get i≠none→(i∈dE gg.bs hh i0∧hh.get i≠none∧fY fj L2 i=ψ i)∨N i:=fun i hi=>by
    obtain⟨o,ho⟩:=abN.1 hi;obtain⟨s,hm⟩:=qh ho;have gI:i∈cy gg.bs i0 id++bH gg.rs (id+128):=by rw[←eN2];exact aca.2 ⟨_,hm,rfl⟩
    have hNr:∀i,id≤i→i<id+256→N i:=fun i h1 h2=>by
     have:=hN (i-id) (by omega)
     rwa [show id+(i-id)=i by omega]at this
    rcases abw.1 gI with gI|gI
    ·rcases xI _ _ _ _ uf gI with h8|h8
     ·refine .inl ⟨Bn _ _ _ hl h8,DK i h8,?_⟩;obtain⟨ee,h9,oC⟩:=TO (by rw[hle,hl]) i h8;rw[hzz (ee,i) oC];have BW:ee∈aY gg.bs.length:=(List.of_mem_zip oC).1;rw[h6 ee BW];exact ad2 (i,ee) h9
     ·exact .inr (hNr i h8.1 (by omega))
    ·have h8:=kg _ _ _ XJ gI;exact .inr (hNr i (by omega) (by omega))
   obtain⟨DJ,h8,nx⟩:=Rd (N:=N) gs hB G1 bC vZ h2 h3 h4 g3 zH ad4;have eH3:(bW.wr (gq (bj gg.rs i0 id (id+128) y.1)) (bG gg.bs i0 id y.2++(ar gg.rs (id+128) y.1++iX (dg hh (dV gg.ps (vs++cap)++ic gg.bs hh i0)) (dE gg.bs hh i0)))).hp hh.get =(eI L2++iX (dg hh mj) (dE gg.bs hh i0)).get:=by rw[eH2,List.append_assoc];rfl
   rw[eH3];refine⟨v,Z',DJ,e1,nx,?_⟩;refine abt.move (p:=fun j=>(eI L2).get j≠none) (fun _ h=>h) (cU.refl _ _) (fun j hp _=>⟨hp,h8 j hp⟩) ?_;refine Nn (lM hl gg.rs _ id (id+128) y.1 XJ (fun i hi=>?_) fun i hi=>?_)
   ·rw[←gV gg.rs (id+128) y.1]at hi;obtain⟨e,he,rfl⟩:=aca.1 hi;rw[eH2];exact Cr (o:=e.2) (abg _ he)
   ·rw[←nM gg.bs i0 id y.2 hl]at hi;obtain⟨e,he,rfl⟩:=aca.1 hi;rw[eH2];exact Cr (o:=e.2) (abi _ he)
 ·cases he
end Go.Vs
namespace Go.Vs
variable {P:Program} {Eqs:TypeId→Option K} {Sg:FuncId→Option aX} {F:(f:FuncId)→(g:aX)→g.A→Option g.B} {R:Type} {k:bW→Option R}
theorem ck{c:Bool}{e:bW}:cond c (k e) none=(cond c (some e) none).bind k:=by cases c<;>rfl
theorem bY{c:Bool}{e:bW}:cond c none (k e)=(cond c none (some e)).bind k:=by cases c<;>rfl
theorem bZ{c:Bool}{e e':bW}:cond c (k e) (k e')=(cond c (some e) (some e')).bind k:=by cases c<;>rfl
theorem cm{α:Type}(o:Option α)(f:α→Option R)(g:α→Option bW)(h:∀x,f x=(g x).bind k):o.bind f=(o.bind g).bind k:=by cases o with
 |none=>rfl
 |some x=>exact h x
theorem Np{h:Heap}{id:Nat}{t:TypeId}{s x:AV}:p7 P h id t s x k=(p7 P h id t s x some).bind k:=by unfold p7;repeat' (first|rfl|exact ck|exact bY | exact bZ|(refine cm _ _ _ (fun _=>?_))|split)
theorem Rh{h:Heap}{t:TypeId}{s x:AV}:tW P h t s x k=(tW P h t s x some).bind k:=by unfold tW;repeat' (first|rfl|exact ck|exact bY | exact bZ|(refine cm _ _ _ (fun _=>?_))|split)
theorem TS{h:Heap}{t:TypeId}{s:AV}:nr P h t s k=(nr P h t s some).bind k:=by unfold nr;repeat' (first|rfl|exact ck|exact bY | exact bZ|(refine cm _ _ _ (fun _=>?_))|split)
theorem Gf{h:Heap}{t:TypeId}{s x:AV}:eC P h t s x k=(eC P h t s x some).bind k:=by unfold eC;repeat' (first|rfl|exact ck|exact bY | exact bZ|(refine cm _ _ _ (fun _=>?_))|split)
theorem TT{x:AV}{lo hi mx:Option AV}:zg x lo hi mx k=(zg x lo hi mx some).bind k:=by unfold zg;repeat' (first|rfl|exact ck|exact bY | exact bZ|(refine cm _ _ _ (fun _=>?_))|split)
theorem Ri{h:Heap}{sz:Nat}{x:AV}{lo hi mx:Option AV}:qU h sz x lo hi mx k=(qU h sz x lo hi mx some).bind k:=by unfold qU;repeat' (first|rfl|exact ck|exact bY | exact bZ|(refine cm _ _ _ (fun _=>?_))|split)
theorem Yh{h:Heap}{x:AV}:GH h x k=(GH h x some).bind k:=by unfold GH;repeat' (first|rfl|exact ck|exact bY | exact bZ|(refine cm _ _ _ (fun _=>?_))|split)
theorem Yi{op:BinOp}{t:TypeId}{x y:AV}:AY P Eqs op t x y k=(AY P Eqs op t x y some).bind k:=by unfold AY;repeat' (first|rfl|exact ck|exact bY | exact bZ|(refine cm _ _ _ (fun _=>?_))|split)
theorem Ky(rs:List RK)(x:nq rs)(f:nq rs→Option R)(g:nq rs→Option bW)(h:∀z,f z=(g z).bind k):kM rs x f=(kM rs x g).bind k:=by rw[jN,jN];exact h x
theorem TU{h:Heap}{id:Nat}{f:FuncId}{vs:List AV}:j9 Sg F h id f vs k=(j9 Sg F h id f vs some).bind k:=by unfold j9;repeat' (first|rfl|exact ck|exact bY | exact bZ|(refine cm _ _ _ (fun _=>?_))|(refine Ky _ _ _ _ (fun _=>?_))|split)
theorem TV{id:Nat}{t:TypeId}{vs:List AV}:zk id t vs k=(zk id t vs some).bind k:=rfl
theorem Rj{t:TypeId}{ps:List (Nat×AV)}:tZ P t ps k=(tZ P t ps some).bind k:=by unfold tZ;repeat' (first|rfl|exact ck|exact bY | exact bZ|(refine cm _ _ _ (fun _=>?_))|split)
theorem IB{h:Heap}{id:Nat}{t:TypeId}{n:Nat}{ps:List (Nat×AV)}:xe P h id t n ps k=(xe P h id t n ps some).bind k:=by unfold xe;repeat' (first|rfl|exact ck|exact bY | exact bZ|(refine cm _ _ _ (fun _=>?_))|split)
theorem TW{mj:Bool}{h:Heap}{id:Nat}{t:TypeId}{n:Nat}{ps:List (Nat×AV)}:zm P mj h id t n ps k=(zm P mj h id t n ps some).bind k:=by unfold zm;rw[IB,IB (k:=fun e=>some (if mj then XY e else e)),Option.bind_assoc];rfl
theorem TX{s d:TypeId}{x:AV}:C5 P s d x k=(C5 P s d x some).bind k:=by unfold C5;repeat' (first|rfl|exact ck|exact bY | exact bZ|(refine cm _ _ _ (fun _=>?_))|split)
theorem abu{b:Bool}{vs:List AV}:QD b vs k=(QD b vs some).bind k:=by unfold QD;repeat' (first|rfl|exact ck|exact bY | exact bZ|(refine cm _ _ _ (fun _=>?_))|split)
theorem TY{h:Heap}{x:AV}:zh h x k=(zh h x some).bind k:=by unfold zh;repeat' (first|rfl|exact ck|exact bY | exact bZ|(refine cm _ _ _ (fun _=>?_))|split)
theorem Kz{id:Nat}{t:TypeId}:mT P Eqs id t k=(mT P Eqs id t some).bind k:=by unfold mT;repeat' (first|rfl|exact ck|exact bY | exact bZ|(refine cm _ _ _ (fun _=>?_))|split)
theorem Nq{h:Heap}{t:TypeId}{m i:AV}{ok:Bool}:qa P Eqs h t m i ok k=(qa P Eqs h t m i ok some).bind k:=by unfold qa;repeat' (first|rfl|exact ck|exact bY | exact bZ|(refine cm _ _ _ (fun _=>?_))|split)
theorem Nr{h:Heap}{t:TypeId}{m i v:AV}:jK P Eqs h t m i v k=(jK P Eqs h t m i v some).bind k:=by unfold jK;repeat' (first|rfl|exact ck|exact bY | exact bZ|(refine cm _ _ _ (fun _=>?_))|split)
theorem Ns{h:Heap}{t:TypeId}{m i:AV}:qb P Eqs h t m i k=(qb P Eqs h t m i some).bind k:=by unfold qb;repeat' (first|rfl|exact ck|exact bY | exact bZ|(refine cm _ _ _ (fun _=>?_))|split)
theorem Nt{id:Nat}{t:TypeId}{x:AV}:qc P id t x k=(qc P id t x some).bind k:=by unfold qc;repeat' (first|rfl|exact ck|exact bY | exact bZ|(refine cm _ _ _ (fun _=>?_))|split)
theorem Rk{h:Heap}{x:AV}:tX h x k=(tX h x some).bind k:=by unfold tX;repeat' (first|rfl|exact ck|exact bY | exact bZ|(refine cm _ _ _ (fun _=>?_))|split)
theorem Rl{h:Heap}{x:AV}:tY h x k=(tY h x some).bind k:=by unfold tY;repeat' (first|rfl|exact ck|exact bY | exact bZ|(refine cm _ _ _ (fun _=>?_))|split)
theorem mW{id:Nat}{h:Heap}{s:List (Nat×AV)}{o:Oper}:dw P Eqs Sg F id h s o k=(dw P Eqs Sg F id h s o some).bind k:=by
 obtain⟨dst,op,type,pos,after,guard⟩:=o
 cases op<;>simp only[dw] <;>
  repeat' (first|rfl|exact TW|exact Np|exact Rh|exact TS|exact Gf|exact TT|exact Ri|exact Yh|exact Yi|exact TU|exact TV|exact Rj|exact IB|exact TX|exact abu|exact TY|exact Kz|exact Nq|exact Nr|exact Ns|exact Nt|exact Rk|exact Rl|exact ck|(refine cm _ _ _ (fun _=>?_))|split)
theorem Rm{id:Nat}{h h':Heap}{s:List (Nat×AV)}{o:Oper}(hf:pj o.op=true):dw P Eqs Sg F id h s o k=dw P Eqs Sg F id h' s o k:=by
 obtain⟨dst,op,type,pos,after,guard⟩:=o
 cases op<;>simp[pj]at hf<;>first|rfl|(rename_i u _ _;cases u<;>rfl)
theorem Yj{op:BinOp}{t:TypeId}{x y:AV}{e:bW}(he:AY P Eqs op t x y some=some e):∃v,e=.val v:=by
 unfold AY at he
 repeat' (first|(cases he;done)|exact⟨_,(aby he).symm⟩|split at he)
 all_goals
  unfold cond at he
  split at he<;>first|(cases he;done)|exact⟨_,(aby he).symm⟩
theorem KA{id:Nat}{h:Heap}{s:List (Nat×AV)}{o:Oper}{e:bW}(hf:pj o.op=true)(he:dw P Eqs Sg F id h s o some=some e):∃v,e=.val v:=by
 obtain⟨dst,op,type,pos,after,guard⟩:=o
 cases op<;>simp only[pj]at hf<;>first|(cases hf;done)|skip
 case unOp u t x =>
  cases u<;>simp only[dw]at he<;>repeat' (first|(cases he;done)|exact⟨_,(aby he).symm⟩|split at he)
 case makeFunc fn first cap =>
  cases fn<;>simp only[dw]at he<;>repeat' (first|(cases he;done)|exact⟨_,(aby he).symm⟩|split at he)
 all_goals simp only[dw]at he
 case binOp=>exact Yj he
 case slice =>
  repeat' (first|(cases he;done)|split at he)
  all_goals
   first|unfold zg at he|unfold qU at he
   repeat' (first|(cases he;done)|exact⟨_,(aby he).symm⟩|split at he)
   all_goals
    unfold cond at he
    split at he<;>first|(cases he;done)|exact⟨_,(aby he).symm⟩
 case build =>
  unfold tZ at he
  repeat' (first|(cases he;done)|exact⟨_,(aby he).symm⟩|split at he)
 all_goals
  repeat' (first|(cases he;done)|exact⟨_,(aby he).symm⟩|split at he)
end Go.Vs
namespace Go.Vs
variable {P:Program} {Eqs:TypeId→Option K} {Sg:FuncId→Option aX} {F:(f:FuncId)→(g:aX)→g.A→Option g.B} {R:Type}
variable {Z Z' Z0:Nat→Prop} {ψ ψ' ψ0:Nat→Value} {h h':Hp} {w w' w0:World} {B0:Nat} {O N:Nat→Prop}
structure Env(P:Program)(Eqs:TypeId→Option K)(Sg:FuncId→Option aX)(F:(f:FuncId)→(g:aX)→g.A→Option g.B):Prop where
 eqs:∀t k,Eqs t=some k→nD P t k
 con:∀f g x y,Sg f=some g→F f g x=some y→GZ P f g x y
 spec:∀f g u,Sg f=some g→g.x=some u→jD P (f%1000) u
 KB:∀f g,Sg f=some g→ke P (f%1000)
theorem KC{s:List (Nat×AV)}{ρC:Operand→Value}:∀(l:List Operand),(∀x∈l,aD Z ψ h w (ρ s x) (ρC x))→ax Z ψ h w (l.map (ρ s)) (l.map ρC)
 |[],_=>by simp[ax]
 |x::r,hx=>by simp only[List.map_cons,ax];exact⟨_,_,rfl,hx x abp,KC r fun y hy=>hx y (aa1 _ hy)⟩
theorem G3{s:List (Nat×AV)}{p:Nat→Prop}:∀(l:List Operand),(∀x∈l,aQ p (ρ s x))→aJ p (l.map (ρ s))
 |[],_=>by simp[aJ]
 |x::r,hx=>by simp only[List.map_cons,aJ];exact⟨hx x abp,G3 r fun y hy=>hx y (aa1 _ hy)⟩
theorem aad(E:Env P Eqs Sg F){hh:Heap}{a:Act}{s:List (Nat×AV)}{o:Oper}(g:Good Z ψ h w B0 O)(hB:B0≤w.heap.size)(bI:∀id o,hh.get id=some o→h id=some o){id:Nat}(hN:makes o.op=true→∀j,j<256→N (id+j)){e:bW} (pV:∀x∈o.op.operands,aD Z ψ h w (ρ s x) (a.eval x)) (hm:∀x∈o.op.operands,aQ (fun i=>¬N i) (ρ s x)) (bC:∀i ty cs,h i=some (.box ty cs)→aJ (fun i=>¬N i) cs) (mU:∀v hw,e=.wr v hw→hh.get=h) (he:dw P Eqs Sg F id hh s o some=some e) {next:Act→World→Prop} {Q:Exit→Act→World→Prop} (hk:∀V w' Z' ψ',Next Z ψ h w B0 O N Z' ψ' (e.hp h) w'→aD Z' ψ' (e.hp h) w' e.v V→next (a.put o.dst V) w'):o.wp P a w next Q:=by
 have d:iY P a.eval o Z ψ h w B0 O N e∨aab P a.eval o Z ψ h w B0 O N e:=by
  cases MR:xy o with
  |false=>exact .inl (TE E.eqs g hB bI (fun hm=>by simpa using hN hm 0 (by decide)) pV hm bC mU MR he)
  |true =>
   refine .inr ?_;obtain⟨dst,op,type,pos,after,guard⟩:=o
   cases op<;>simp[xy]at MR
   rename_i c;obtain⟨callee,args,argTypes⟩:=c
   cases callee<;>simp at MR
   rename_i fo;simp only[dw]at he
   split at he
   ·rename_i f cap hf;simp only[Op.operands,Call.operands]at pV;have h1:=pV fo (by simp);rw[hf]at h1;have h2:ax Z ψ h w (args.toList.map (ρ s)) (args.toList.map a.eval):=KC _ fun x hx=>pV x (by simp;exact .inr (by simpa using hx));have hmf:=hm fo (by simp[Op.operands,Call.operands]);rw[hf]at hmf;simp only[aQ]at hmf;have hma:aJ (fun i=>¬N i) (args.toList.map (ρ s)):=G3 _ fun x hx=>hm x (by simp[Op.operands,Call.operands];exact .inr (by simpa using hx));refine No E.spec E.con E.KB g hB bI (hN rfl) bC mU h1 h2 (rr hma hmf) (fun ws TP=>?_) he;simp only[execOp,resolve,TP,Deferred.ofValue];simp only[pure_bind,invoke];congr 1;apply Array.ext';simp
   ·cases he
 unfold Oper.wp;rcases d with⟨V,w',Z',ψ',h1,h2,h3⟩|⟨f,args,h1,h2⟩
 ·rcases h1 with h1|⟨h1,rfl⟩
  ·rw[h1];exact hk V w' Z' ψ' h2 h3
  ·rw[h1];exact hk undef w' Z' ψ' h2 h3
 ·rw[h1,Oper.upon_enter];refine h2.mono fun en w' ⟨V,Z',ψ',e1,n,hr⟩=>?_;subst e1;exact hk V w' Z' ψ' n hr
structure Ok(Z0:Nat→Prop)(w0:World)(O:Nat→Prop)(ψ0:Nat→Value)(Z:Nat→Prop)(ψ:Nat→Value)(h:Hp)(w:World):Prop where
 fi:Good Z ψ h w w0.heap.size O
 g6:∀b,Z0 b→Z b
 fN:∀b,Z b→Z0 b∨O b∨w0.heap.size≤b
 os:w.os=w0.os
 tape:w.tape=w0.tape
 output:w.output=w0.output
 size:w0.heap.size≤w.heap.size
 block:∀b,b<w0.heap.size→¬O b→w.heap[b]? = w0.heap[b]?
 fix:∀i,i<2000→h i≠none→ψ i=ψ0 i
theorem Ok.next(k:Ok Z0 w0 O ψ0 Z ψ h w)(hN:∀id,N id→2000≤id)(n:Next Z ψ h w w0.heap.size O N Z' ψ' h' w'):Ok Z0 w0 O ψ0 Z' ψ' h' w':=by
 have own:∀b,Own ψ h b→w0.heap.size≤b∨O b:=fun b ⟨id,h1,h2⟩=>(k.fi.live id b h1 h2).2;refine⟨n.fi,fun b hb=>n.g6 b (k.g6 b hb),fun b hb=>?_,n.keep.os.trans k.os,n.keep.tape.trans k.tape,n.keep.output.trans k.output,acN k.size n.keep.size,fun b hb ho=>?_,fun i hi bq=>?_⟩
 ·rcases n.fN b hb with h1|h1|h1
  ·exact k.fN b h1
  ·exact .inr (own b h1).symm
  ·exact .inr (.inr (acN k.size h1))
 ·rw[n.keep.block b (Nat.lt_of_lt_of_le hb k.size) (fun h1=>(own b h1).elim (fun h2=>by omega) ho)];exact k.block b hb ho
 ·rcases n.ids i bq with⟨h1,h2⟩|h1
  ·rw[h2];exact k.fix i hi h1
  ·have:=hN i h1;omega
structure dn(Z:Nat→Prop)(ψ:Nat→Value)(h:Hp)(w:World)(n:Nat)(T:Nat→AV)(a:Act):Prop where
 rep:∀d,aD Z ψ h w (T d) (a.tmps.getD d undef)
 size:a.tmps.size=n
 defers:a.defers=[]
theorem Rn:aD Z ψ h w (.pe []) undef:=by simp only[aD,ax];exact⟨#[],rfl,rfl⟩
def jW(T:Nat→AV)(d:Option Tmp)(v:AV):Nat→AV:=match d with
 |some d=>fq T d v
 |none=>T
theorem jg(st:St)(d:Option Tmp)(v:AV):look (st.put d v).tmps=jW (look st.tmps) d v:=by
 cases d with
 |none=>rfl
 |some d =>
  funext i;simp only[St.put,look,jW,fq];by_cases e:i=d
  ·subst e;simp
  ·rw[if_neg (fun x=>e x.symm),if_neg e]
theorem dI(st:St)(d:Option Tmp)(v:AV):(st.put d v).heap=st.heap:=by cases d<;>rfl
theorem G4{T:List (Nat×AV)}{d:Nat}{v:AV}(hv:look T d=v):fq (look T) d v=look T:=by
 funext i;unfold fq
 split
 ·rename_i e;subst e;exact hv.symm
 ·rfl
theorem jh{a:Act}{d:Nat}{v:Value}(hd:d<a.tmps.size)(i:Nat):(a.put (some d) v).tmps.getD i undef=if i=d then v else a.tmps.getD i undef:=by
 simp only[Act.put];by_cases e:i=d
 ·subst e;simp[hd]
 ·simp[e,Array.getElem?_setIfInBounds_ne (Ne.symm e)]
theorem cV(a:Act)(d:Option Tmp)(v:Value):(a.put d v).tmps.size=a.tmps.size:=by cases d<;>simp[Act.put]
theorem put_defers(a:Act)(d:Option Tmp)(v:Value):(a.put d v).defers=a.defers:=by cases d<;>rfl
theorem dn.put{n:Nat}{T:Nat→AV}{a:Act}{o:Oper}{x:AV}{V:Value}(t:dn Z ψ h w n T a)(hd:jx n o=true)(hx:aD Z ψ h w x V):dn Z ψ h w n (jW T o.dst x) (a.put o.dst V):=by
 refine⟨fun d=>?_,by rw[cV];exact t.size,by rw[put_defers];exact t.defers⟩;unfold jx at hd
 split at hd
 ·rename_i d0 hd0;rw[hd0];rw[jh (by rw[t.size];simpa using hd)];simp only[jW,fq]
  split
  ·exact hx
  ·exact t.rep d
 ·rename_i hd0;rw[hd0];exact t.rep d
theorem dn.next{n:Nat}{T:Nat→AV}{a:Act}(t:dn Z ψ h w n T a)(g:Good Z ψ h w B0 O)(hn:Next Z ψ h w B0 O N Z' ψ' h' w')(hm:∀d,aQ (fun i=>¬N i) (T d)):dn Z' ψ' h' w' n T a :=⟨fun d=>hn.rep g (hm d) (t.rep d),t.size,t.defers⟩
theorem tg{n:Nat}{s:List (Nat×AV)}{a:Act}(t:dn Z ψ h w n (look s) a)(x:Operand):aD Z ψ h w (ρ s x) (a.eval x):=by
 cases x with
 |tmp i=>exact t.rep i
 |const v=>exact Kf v
 |global g=>simp only[ρ,aD]
 |func f=>simp only[ρ,aD,ax,Act.eval];exact⟨#[],rfl,rfl⟩
theorem DL(p:Nat→Prop)(v:Value):aQ p (vO v):=by
 cases v with
 |agg cs=>simp only[vO,aQ];exact zu p _
 |_=>simp only[vO];exact DB p _
theorem Ro{p:Nat→Prop}{s:List (Nat×AV)}(hm:∀d,aQ p (look s d))(x:Operand):aQ p (ρ s x):=by
 cases x with
 |tmp i=>exact hm i
 |const v=>exact DL p v
 |global g=>simp only[ρ,aQ]
 |func f=>simp only[ρ,aQ,aJ]
def oF(rid:Nat)(S:Nat→Prop)(id:Nat):Prop:=id / 32768=rid+1→S (id / 256%128)
def Of(rid i id:Nat):Prop:=id / 256=(rid+1)*128+i
theorem Of.parts{rid i id:Nat}(hi:i<128)(h:Of rid i id):id / 32768=rid+1∧id / 256%128=i:=by unfold Of at h;constructor<;>omega
theorem Of.of{rid i id:Nat}(h:id / 32768=rid+1)(hi:id / 256%128=i):Of rid i id:=by unfold Of;omega
theorem Pd{rid i j:Nat}(hj:j<256):Of rid i (opId rid i+j):=by unfold Of opId;omega
theorem KD{rid i:Nat}:Of rid i (opId rid i):=by unfold Of opId;omega
theorem oF.DM{rid i id:Nat}{S:Nat→Prop}(hi:i<128)(hs:¬S i)(h:oF rid S id):¬Of rid i id:=fun ho=>by obtain⟨h1,h2⟩:=ho.parts hi;have:=h h1;rw[h2]at this;exact hs this
theorem qk{rid bits id:Nat}{S:Nat→Prop}(hb:∀j,bits.testBit j=true→S j)(h:sR rid bits id=true):oF rid S id:=fun h1=>by unfold sR at h;simp only[Bool.or_eq_true,bne_iff_ne,ne_eq]at h;exact hb _ (h.resolve_left (fun h2=>h2 h1))
mutual
theorem ru{rid bits:Nat}{S:Nat→Prop}(hb:∀j,bits.testBit j=true→S j):∀{v:AV},vd rid bits v=true→aQ (oF rid S) v
 |.ref id s i off,h=>by simp only[vd]at h;simp only[aQ];exact qk hb h
 |.bV id,h=>by simp only[vd]at h;simp only[aQ];exact qk hb h
 |.fn f cap,h=>by simp only[vd]at h;simp only[aQ];exact nO hb h
 |.agg cs,h=>by simp only[vd]at h;simp only[aQ];exact nO hb h
 |.pe cs,h=>by simp only[vd]at h;simp only[aQ];exact nO hb h
 |.no,_=>by simp only[aQ]
 |.bool _,_=>by simp only[aQ]
 |.int _ _,_=>by simp only[aQ]
 |.str _,_=>by simp only[aQ]
 |.mC,_=>by simp only[aQ]
 |.ib,_=>by simp only[aQ]
 |.fp _ _ _,_=>by simp only[aQ]
 |.sl _ _ _,_=>by simp only[aQ]
 |.mp _ _ _,_=>by simp only[aQ]
theorem nO{rid bits:Nat}{S:Nat→Prop}(hb:∀j,bits.testBit j=true→S j):∀{v:List AV},C7 rid bits v=true→aJ (oF rid S) v
 |[],_=>by simp only[aJ]
 |v::r,h=>by simp only[C7,Bool.and_eq_true]at h;simp only[aJ];exact⟨ru hb h.1,nO hb h.2⟩
end
theorem nP{rid bits:Nat}{S:Nat→Prop}(hb:∀j,bits.testBit j=true→S j):∀{hh:Heap},A1 rid bits hh=true→∀id o,hh.get id=some o→oF rid S id∧∀ty cs,o=.box ty cs→aJ (oF rid S) cs
 |[],_,id,o,hg=>by simp[Heap.get]at hg
 |(i,ob)::r,h,id,o,hg=>by
  simp only[Heap.get]at hg
  split at hg
  ·rename_i e;subst e
   cases hg
   cases ob with
   |box ty cs =>simp only[A1,Bool.and_eq_true]at h;exact⟨qk hb h.1.1,fun BT cs' he=>by cases he;exact nO hb h.1.2⟩
   |own ok xs =>simp only[A1,Bool.and_eq_true]at h;exact⟨qk hb h.1,fun BT cs' he=>by cases he⟩
  ·refine nP hb ?_ id o hg
   cases ob<;>simp only[A1,Bool.and_eq_true]at h<;>exact h.2
def bW.heap(e:bW)(h:Heap):Heap:=match e with
 |.wr _ h'=>h'
 |e=>e.h h
theorem bW.KE(e:bW)(hh:Heap):(e.heap hh).get=e.hp hh.get:=by
 cases e with
 |val v=>rfl
 |new v os=>funext i;simp only[bW.heap,bW.h,bW.hp];rw[Heap.get_append];cases Heap.get os i<;>rfl
 |wr v h'=>rfl
def vq(p:Nat→Prop)(h:Hp):Prop:=∀i ty cs,h i=some (.box ty cs)→aJ p cs
theorem DN{ops:Array Oper}{o:Oper}{n:Nat}{T:Nat→AV}{a:Act}(t:dn Z ψ h w n T a){j d:Nat}{want:Bool}(hg:o.guard=some (j,want))(hd:(ops[j]?).bind (·.dst)=some d){b:Bool}(hb:T d=.bool b) :
  Region.wanted o (yielded ops a.tmps)=(b==want):=by
 have h1:=t.rep d;rw[hb]at h1;simp only[aD]at h1;have h2:a.tmps[d]? = some (.bool b):=by
  rw[Array.getD_eq_getD_getElem?]at h1
  cases e:a.tmps[d]? with
  |none=>rw[e]at h1;simp[undef]at h1
  |some v=>rw[e]at h1;simpa using h1
 unfold Region.wanted yielded;rw[hg];simp only[hd,Option.bind_some,h2]
 cases b<;>cases want<;>rfl
theorem Bp{ops:Array Oper}{o:Oper}{n:Nat}{T:Nat→AV}{a:Act}(t:dn Z ψ h w n T a){j d:Nat}{want:Bool}(hg:o.guard=some (j,want))(hd:(ops[j]?).bind (·.dst)=some d){vs:List AV}(hb:T d=.pe vs) :
  Region.wanted o (yielded ops a.tmps)=false:=by
 have h1:=t.rep d;rw[hb]at h1;simp only[aD]at h1;obtain⟨us,h1,_⟩:=h1;unfold Region.wanted yielded;rw[hg];simp only[hd,Option.bind_some];rw[Array.getD_eq_getD_getElem?]at h1
 cases e:a.tmps[d]? with
 |none=>rfl
 |some v=>rw[e]at h1;simp at h1;subst h1;rfl
def DO(ops:Array Oper):Nat→List (Nat×Oper)→Prop
 |_,[]=>True
 |i,(j,o)::r=>j=i∧ops[i]? = some o∧DO ops (i+1) r
theorem KF(ops:Array Oper):∀(l:List Oper) (i:Nat),(∀k o,l[k]? = some o→ops[i+k]? = some o)→DO ops i ((l.zipIdx i).map fun p=>(p.2,p.1))
 |[],_,_=>by simp[DO]
 |o::r,i,h=>by simp only[List.zipIdx_cons,List.map_cons,DO];exact⟨trivial,h 0 o rfl,KF ops r (i+1) fun k o' hk=>by rw[Nat.add_assoc,Nat.add_comm 1 k];exact h (k+1) o' hk⟩
theorem ql(ops:Array Oper):DO ops 0 (ops.toList.zipIdx.map fun p=>(p.2,p.1)):=KF ops _ 0 fun k o hk=>by simpa using hk
theorem G5(ops:Array Oper):(ops.toList.zipIdx.map fun p=>(p.2,p.1)).map Prod.fst=List.range ops.size:=by rw[List.map_map];have:(Prod.fst ∘ fun(p:Oper×Nat)=>(p.2,p.1))=Prod.snd:=rfl;rw[this,List.zipIdx_map_snd,List.range_eq_range',Array.length_toList]
structure J(p:Nat→Prop)(n:Nat)(Z0:Nat→Prop)(w0:World)(O:Nat→Prop)(ψ0:Nat→Value)(Z:Nat→Prop)(ψ:Nat→Value)(T:Nat→AV)(h:Hp)(a:Act)(w:World):Prop where
 ok:Ok Z0 w0 O ψ0 Z ψ h w
 tr:dn Z ψ h w n T a
 tm:∀d,aQ p (T d)
 hm:vq p h
theorem J.imp{p q:Nat→Prop}{n:Nat}{T:Nat→AV}{a:Act}(j:J p n Z0 w0 O ψ0 Z ψ T h a w)(w8:∀id,p id→q id):J q n Z0 w0 O ψ0 Z ψ T h a w :=⟨j.ok,j.tr,fun d=>(j.tm d).imp w8,fun id ty cs hb=>(j.hm id ty cs hb).imp w8⟩
theorem J.op(E:Env P Eqs Sg F){rid n i:Nat}{p:Nat→Prop}{T:Nat→AV}{a:Act}{s:List (Nat×AV)}{o:Oper}(hS:makes o.op=true→∀id,p id→¬Of rid i id)(j:J p n Z0 w0 O ψ0 Z ψ T h a w)(hd:jx n o=true) (hT:∀x∈o.op.operands,aD Z ψ h w (ρ s x) (a.eval x)) (hTm:∀x∈o.op.operands,aQ p (ρ s x)) {hh:Heap} (bI:∀id o,hh.get id=some o→h id=some o) {e:bW} (he:dw P Eqs Sg F (opId rid i) hh s o some=some e) (mU:∀v hw,e=.wr v hw→hh.get=h) {p':Nat→Prop} (SV:∀k,p k→p' k) (hv:aQ p' e.v) (hh':vq p' (e.hp h)) {next:Act→World→Prop} {Q:Exit→Act→World→Prop} (hk:∀a' w' Z' ψ',J p' n Z0 w0 O ψ0 Z' ψ' (jW T o.dst e.v) (e.hp h) a' w'→next a' w'):o.wp P a w next Q:=by
 have nof:∀id,p id→¬(makes o.op=true∧Of rid i id):=fun id h ⟨h1,h2⟩=>hS h1 id h h2;refine aad (N:=fun id=>makes o.op=true∧Of rid i id) E j.ok.fi j.ok.size bI (id:=opId rid i) (fun hm k hk=>⟨hm,Pd hk⟩) hT (fun x hx=>(hTm x hx).imp nof) (fun id ty cs hb=>(j.hm id ty cs hb).imp nof) mU he fun V w' Z' ψ' nx hr=>?_;refine hk _ w' Z' ψ' ⟨j.ok.next (fun id h=>by have:=h.2;unfold Of at this;omega) nx,(j.tr.next j.ok.fi nx (fun d=>(j.tm d).imp nof)).put hd hr,fun d=>?_,hh'⟩
 cases mq:o.dst with
 |none=>exact(j.tm d).imp SV
 |some d0 =>
  simp only[jW,fq]
  split
  ·exact hv
  ·exact(j.tm d).imp SV
theorem J.skip{n:Nat}{p p':Nat→Prop}{T:Nat→AV}{a:Act}{o:Oper}(j:J p n Z0 w0 O ψ0 Z ψ T h a w)(hd:jx n o=true)(SV:∀k,p k→p' k) :
  J p' n Z0 w0 O ψ0 Z ψ (jW T o.dst (.pe [])) h (a.put o.dst undef) w:=by
 refine⟨j.ok,j.tr.put hd Rn,fun d=>?_,fun id ty cs hb=>(j.hm id ty cs hb).imp SV⟩
 cases mq:o.dst with
 |none=>exact(j.tm d).imp SV
 |some d0 =>
  simp only[jW,fq]
  split
  ·simp only[aQ,aJ]
  ·exact(j.tm d).imp SV
theorem Yk{hh:Heap}(g:Good Z ψ hh.get w B0 O){m:Nat}{kk vk:K}{es:List (kk.T×vk.T)}(hg:hh.get m=some (.own (.map kk vk) es))(n:Next Z ψ hh.get w B0 O N Z' ψ' h' w')(hzm:∀b,ob (ψ m)=some b→Z' b) (hold:∀b,b<w.heap.size→w'.heap[b]? = w.heap[b]?) {v:AV} {V:Value} (hm:aQ (fun id=>¬N id) v) (hr:aD Z ψ hh.get w v V):aD Z' ψ' h' w' (BU m (.mp kk vk es) v) V:=by
 by_cases hv:v=.bV m
 ·subst hv;simp only[BU,if_true];simp only[aD]at hr;have hu:=hr.2 (by rw[hg];simp);obtain⟨r,cw,clock,h1,h2,h3,_⟩:=g.row m (.map kk vk) es hg;rw[h1]at hu;subst hu;have aG:=(abq.1 h2).1;simp only[aD,aP];exact⟨some r,rfl,.inr ⟨r,cw,clock,rfl,hzm r (by rw[h1];rfl),(hold r aG).trans h2,h3.imp (fun _ _ h=>h.mono n.g6 (fun b hb=>hold b (g.kO b hb))) (fun _ _ h=>h.mono n.g6 (fun b hb=>hold b (g.kO b hb)))⟩⟩
 ·have hf:BU m (.mp kk vk es) v=v:=by
   unfold BU
   split
   ·split
    ·rename_i e;subst e;exact absurd rfl hv
    ·rfl
   ·rfl
  rw[hf];exact n.rep g hm hr
theorem TZ{p:Nat→Prop}{m:Nat}{kk vk:K}{es:List (kk.T×vk.T)}{v:AV}(hm:aQ p v):aQ p (BU m (.mp kk vk es) v):=by
 unfold BU
 split
 ·split
  ·simp only[aQ]
  ·exact hm
 ·exact hm
theorem uy(f:AV→AV)(hf:f .no=.no):∀(l:List (Nat×AV)) (d:Nat),look (l.map fun p=>(p.1,f p.2)) d=f (look l d)
 |[],_=>by simp only[List.map_nil,look];exact hf.symm
 |(i,v)::r,d=>by
  simp only[List.map_cons,look]
  split
  ·rfl
  ·exact uy f hf r d
theorem Nu{rid n i:Nat}{p p':Nat→Prop}{st fM:St}{a:Act}{o:Oper}(hS:∀id,p id→¬Of rid i id)(SV:∀k,p k→p' k)(TK:p' (opId rid i))(j:J p n Z0 w0 O ψ0 Z ψ (look st.tmps) st.heap.get a w)(hd:jx n o=true)(qm:qY P (opId rid i) st o=some fM) :
  ∃V w' Z' ψ',(execOp a.eval o).run P w=.ok (.value V) w'∧J p' n Z0 w0 O ψ0 Z' ψ' (look fM.tmps) fM.heap.get (a.put o.dst V) w':=by
 unfold qY at qm
 split at qm
 ·rename_i t x IC
  split at qm
  ·rename_i ka va m hu hx
   split at qm
   ·rename_i kk vk es hg
    cases qm
    have hxr:aD Z ψ st.heap.get w (.bV m) (a.eval x):=by rw[←hx];exact tg j.tr x
    simp only[aD]at hxr;have hev:=hxr.2 (by rw[hg];simp);have g:=j.ok.fi;obtain⟨r,cw,clock,h1,h2,h3,h4,h5⟩:=g.row m (.map kk vk) es hg;rw[h1]at hev;have aG:=(abq.1 h2).1;have gd:=jB g [.bV m];have ad6:∀b,ob (ψ m)=some b→sH Z ψ st.heap.get [.bV m] b:=fun b hb=>.inr ⟨m,by simp,by rw[hg];simp,hb⟩;have hold:∀b,b<w.heap.size→(w.alloc (.mapIter (some r) clock #[] clock)).heap[b]? = w.heap[b]? := fun b hb=>heap_alloc_old w _ hb;have hN:(Of rid i) (opId rid i):=KD;have n1:=Dv (N:=Of rid i) gd j.ok.size (opId rid i) hN (ok:=.iter kk vk) (x:=(none,es)) (v:=.pointer (some ⟨w.heap.size,0,none⟩)) (.mapIter (some r) clock #[] clock) ⟨w.heap.size,r,clock,#[],cw,clock,rfl,heap_alloc_new _ _,ad6 r (by rw[h1];rfl),(hold r aG).trans h2,h4,rfl,h5,by rw[List.filter_eq_self.2 (fun e _=>by simp)];exact h3.imp (fun _ _ h=>h.mono (fun b hb=>.inl hb) (fun b hb=>hold b (g.kO b hb))) (fun _ _ h=>h.mono (fun b hb=>.inl hb) (fun b hb=>hold b (g.kO b hb))),trivial⟩ rfl (fun i' ty cs hb=>aJ.imp (p:=p) (q:=fun i'=>i'≠opId rid i) (fun id hp e=>hS id hp (by rw[e];exact hN)) (j.hm i' ty cs (fm _ _ _ _ hb)));have n2:=n1.drop (Z:=Z) (h:=st.heap.get) (fun b hb=>.inl hb) (fun b hb=>hb.imp (fun h=>h) (fun⟨id,_,h5,h6⟩=>⟨id,h5,h6⟩)) (fm _ _);have gM:(fq (dg st.heap [.bV m]).get (opId rid i) (some (Ob.own (.iter kk vk) (none,es))))=Heap.get ((opId rid i,.own (.iter kk vk) (none,es))::st.heap.del m):=by
     funext k;simp only[dg,drop1,fq,Heap.get];by_cases e:k=opId rid i
     ·subst e;simp
     ·rw[if_neg e,if_neg (fun h=>e h.symm)]
    rw[gM]at n2;refine⟨.pointer (some ⟨w.heap.size,0,none⟩),w.alloc (.mapIter (some r) clock #[] clock),sH Z ψ st.heap.get [.bV m],fq ψ (opId rid i) (.pointer (some ⟨w.heap.size,0,none⟩)),?_,?_⟩
    ·obtain⟨dst,op,type,pos,after,guard⟩:=o;simp only at IC;subst IC;have ep:(Instr.range t (.map (some r))).run P w=.ok (.pointer (some ⟨w.heap.size,0,none⟩)) (w.alloc (.mapIter (some r) clock #[] clock)):=by simp only[Instr.range,Sem.run_bind,run_underlying hu,Result.andThen_ok,im h2 (by simp),Sem.run_pure];rfl
     simp[execOp,hev,ep]
    ·have bC:∀d,aQ (fun id=>¬Of rid i id) (look st.tmps d):=fun d=>(j.tm d).imp hS;refine⟨by rw[dI];exact j.ok.next (fun id h=>by unfold Of at h;omega) n2,?_,fun d=>?_,fun k ty cs hb=>?_⟩
     ·rw[jg,dI];refine dn.put ⟨fun d=>?_,j.tr.size,j.tr.defers⟩ hd ?_
      ·rw[uy _ rfl];exact Yk g hg n2 (fun b hb=>ad6 b hb) hold (bC d) (j.tr.rep d)
      ·simp only[aD];exact⟨⟨rfl,rfl⟩,fun _=>(bD _ _ _).symm⟩
     ·rw[jg];have hb:aQ p' (look (st.tmps.map fun q=>(q.1,BU m (.mp kk vk es) q.2)) d):=by rw[uy _ rfl];exact TZ ((j.tm d).imp SV)
      cases mq:o.dst with
      |none=>exact hb
      |some d0 =>
       simp only[jW,fq]
       split
       ·simp only[aQ];exact TK
       ·exact hb
     ·rw[dI]at hb;simp only[Heap.get]at hb
      split at hb
      ·cases hb
      ·exact(j.hm k ty cs (Heap.xj hb).1).imp SV
   ·cases qm
  ·cases qm
 ·cases qm
theorem qn{R:Type}{n:Nat}{f:Nat→Option R}{r:R}(h:u4 n f=some r):∀j,j<n→f j=some r:=by
 unfold u4 at h
 split at h
 ·rename_i hx;cases h;exact Classical.choose_spec hx
 ·cases h
theorem oW{R:Type}{n:Nat}{f:Nat→Option R}{r:R}(hn:0<n)(h:∀j,j<n→f j=some r):u4 n f=some r:=by unfold u4;have hx:∃r,∀j,j<n→f j=some r:=⟨r,h⟩;rw[dif_pos hx];have:=Classical.choose_spec hx 0 hn;rw[h 0 hn]at this;exact this.symm
theorem Next.drawn{d:Nat}(n:Next Z ψ h { w with drawn:=d } B0 O N Z' ψ' h' w'):Next Z ψ h w B0 O N Z' ψ' h' w' :=⟨n.g6,n.fN,⟨n.keep.os,n.keep.tape,n.keep.output,n.keep.size,n.keep.block⟩,n.ids,n.fi⟩
theorem Good.drawn{d:Nat}(g:Good Z ψ h w B0 O):Good Z ψ h { w with drawn:=d } B0 O:=by
 have sm:cU Z w ({ w with drawn:=d }:World):=fun _ _=>rfl;refine⟨fun id ty cs hb=>?_,fun id ok xs hb=>?_,g.live,g.apart,g.kO⟩
 ·obtain⟨gg,vs,h1,h2,h3,h4⟩:=g.box id ty cs hb;exact⟨gg,vs,h1,h2,h3.less (fun _ h=>h) sm (fun i hi=>⟨hi,rfl⟩),h4⟩
 ·exact(g.row id ok xs hb).kept (fun _ h=>h) sm (fun gg _=>rfl)
theorem filter_push{l:List MapEntry}(h:l.Pairwise (fun a b=>a.born≠b.born)){seen:Array Nat}{j:Nat}{e:MapEntry}(he:(l.filter fun e => !seen.contains e.born)[j]? = some e) :
  l.filter (fun x => !(seen.push e.born).contains x.born)=(l.filter fun e => !seen.contains e.born).eraseIdx j:=by
 have h2:(l.filter fun e => !seen.contains e.born).Pairwise (fun a b=>a.born≠b.born):=h.sublist List.filter_sublist;rw[←ChangeMaps.filter_eq_eraseIdx (fun x=>x.born==e.born) _ j e he (by simp) (h2.imp fun {a b} bq hc=>bq (by simp only[beq_iff_eq]at hc;omega))];rw[List.filter_filter];congr 1;funext x;simp only[Array.contains_push]
 cases seen.contains x.born<;>cases x.born==e.born<;>rfl
theorem Nv{R:Type}{hh:Heap}(g:Good Z ψ hh.get w B0 O){x:AV}{u:Value}{ty:TypeId}(hx:aD Z ψ hh.get w x u){kk:AV→Heap→Option R}{r:R}(he:mE hh x kk=some r) :
  ∃v h' V w',(Instr.next u false ty).run P w=.ok V w'∧Next Z ψ hh.get w B0 O N Z ψ h'.get w'∧aD Z ψ h'.get w' v V∧kk v h'=some r∧(∀p,aQ p v)∧∀i ty cs,h'.get i=some (.box ty cs)→hh.get i=some (.box ty cs):=by
 unfold mE at he
 split at he
 ·rename_i id
  split at he
  ·rename_i kk1 vk pp hg;simp only[aD]at hx;have hu:=hx.2 (by rw[hg];simp);obtain⟨b,m,since,seen,cw,clock,h1,h2,h3,h4,h5,h6,h7,h8,h9⟩:=g.row id (.iter kk1 vk) pp hg;rw[h1]at hu;subst hu;subst h6;have aG:=(abq.1 h2).1;have aaf:(leftOf cw seen).toList=cw.toList.filter fun e => !seen.contains e.born:=by unfold leftOf;simp
   have hlen:pp.2.length=(leftOf cw seen).size:=by rw[h8.1,←aaf,Array.length_toList]
   rcases run_next_at (P:=P) w ty b m since since seen cw since h2 h4 h7 (ack _) with⟨oC,ep⟩|⟨e,gI,w1,Gg,ep⟩
   ·have Rg:pp.2.isEmpty=true:=by rw[List.isEmpty_iff];exact acg (by rw[hlen,oC])
    rw[Rg]at he;simp only[cond_true]at he;exact⟨_,hh,_,w,ep,Next.refl g,by simp only[aD,ax];exact⟨_,rfl,_,_,rfl,rfl,rfl⟩,he,fun p=>by simp only[aQ,aJ];exact⟨trivial,trivial⟩,fun _ _ _ h=>h⟩
   ·obtain⟨k,hk,hke⟩:=List.mem_iff_getElem.1 gI;have pJ:k<pp.2.length:=by rw[hlen,←Array.length_toList];exact hk
    have Rg:pp.2.isEmpty=false:=by
     cases hl:pp.2 with
     |nil=>rw[hl]at pJ;simp at pJ
     |cons _ _=>rfl
    rw[Rg]at he;simp only[cond_false]at he;have hj:=qn he k pJ;rw[List.getElem?_eq_getElem pJ,Option.bind_some]at hj;have abx:(cw.toList.filter fun e => !seen.contains e.born)[k]? = some e:=by rw[←aaf,List.getElem?_eq_getElem hk,hke]
    have ta:=h8.2 k _ e (aa4 pJ) abx;obtain⟨⟨k1,k2,k3⟩,v1,v2,v3⟩:=ta;have ajo:e∈cw.toList:=(adg.1 (ab6 abx)).1;have gd1:Good Z ψ hh.get w1 B0 O:=by rcases Gg with rfl|rfl;exact g;exact g.drawn
    have IE:w1.heap=w.heap:=by rcases Gg with rfl|rfl<;>rfl
    have hmb:m≠b:=fun hmb=>by subst hmb;exact(g.live id m (by rw[hg];simp) (by rw[h1];rfl)).1 h3
    have n1:=uk (N:=N) gd1 (id:=id) (by rw[hg];simp) (r:=b) (by rw[h1];rfl) (by rw[IE];exact aG) (.mapIter (some m) since (seen.push e.born) since) (ok:=.iter kk1 vk) (x:=(some pp.2[k],pp.2.eraseIdx k)) (fun w' Nc sm=>by
     have sm':cU Z w w':=fun c hc=>(sm c hc).trans (by rw[IE]);refine⟨b,m,since,seen.push e.born,cw,since,h1,by rw[Nc,IE];simp[aG],h3,?_,h5,rfl,h7,?_,?_⟩
     ·rw[Nc,IE,zq _ (fun e=>hmb e.symm)];exact h4
     ·rw[filter_push h5 abx];exact(lG.erase h8 k).mono (fun _ h=>h) sm'
     ·refine⟨e,ajo,by simp,⟨rfl,fun q y e' oC BW=>?_⟩⟩
      cases q with
      |zero=>cases oC;cases BW;exact⟨⟨k1.mono (fun _ h=>h) sm',k2,k3⟩,v1.mono (fun _ h=>h) sm',v2,v3⟩
      |succ q=>simp at oC)
    have n2:Next Z ψ hh.get w B0 O N Z ψ (fq hh.get id (some (.own (.iter kk1 vk) (some pp.2[k],pp.2.eraseIdx k)))) { w1 with heap:=w1.heap.setIfInBounds b (.mapIter (some m) since (seen.push e.born) since) }:=by
     rcases Gg with rfl|rfl
     ·exact n1
     ·exact n1.drawn
    refine⟨_,hh.set id (.own (.iter kk1 vk) (some pp.2[k],pp.2.eraseIdx k)),_,_,ep,by rw[oM];exact n2,?_,hj,fun p=>?_,fun i ty cs hb=>?_⟩
    ·have sm':cU Z w ({ w1 with heap:=w1.heap.setIfInBounds b (.mapIter (some m) since (seen.push e.born) since) }:World):=n2.same g;simp only[aD,ax];exact⟨_,rfl,_,_,rfl,rfl,_,_,rfl,nu (k1.mono (fun _ h=>h) sm') k2 k3,_,_,rfl,nu (v1.mono (fun _ h=>h) sm') v2 v3,rfl⟩
    ·simp only[aQ,aJ];exact⟨trivial,qi _ _ _,qi _ _ _,trivial⟩
    ·rw[oM]at hb;unfold fq at hb
     split at hb
     ·cases hb
     ·exact hb
  ·cases he
 ·cases he
theorem KG(op:BinOp)(t:TypeId)(a b:Operand)(x y:Option Addr)(n m c d:Nat):(eqGuard op t a b (.slice x n c) (.slice y m d)).run P w=.ok () w:=by cases op<;>simp[eqGuard]
theorem Gh{t e:TypeId}(ht:P.underlying t=some (.slice e))(a:Option Addr)(n c:Nat):(Op.equal t (.slice a n c) (.slice none 0 0)).run P w=.ok a.isNone w:=by
 have key:∀d,(Op.equalIn (d+1) t (.slice a n c) (.slice none 0 0)).run P w=.ok a.isNone w:=fun d=>by cases a<;>simp[Op.equalIn,run_underlying ht]
 exact key 9999
theorem Nw{o:Oper}{x:Operand}{want:Bool}(h:isNil P o=some (x,want)):∃op t v t' e,o.op=.binOp op t x (.const v) t'∧P.underlying t=some (.slice e)∧v=.slice none 0 0∧((op=.eql∧want=true)∨(op=.neq∧want=false)):=by
 unfold isNil at h
 split at h
 ·rename_i op t x' v t' IC;have hv:∀v:Value,y0 v=.ib→v=.slice none 0 0:=fun v hv=>by
   unfold y0 at hv
   split at hv<;>try (first|cases hv|(split at hv<;>cases hv);done)
   all_goals (split at hv<;>first|cases hv|skip)
   ·rename_i hc;obtain⟨rfl,rfl,rfl⟩:=hc;rfl
   all_goals (split at hv<;>cases hv)
  split at h
  ·rename_i e h1 h2 h3;cases h;exact⟨_,_,_,_,_,IC,h2,hv _ h3,.inl ⟨rfl,rfl⟩⟩
  ·rename_i e h1 h2 h3;cases h;exact⟨_,_,_,_,_,IC,h2,hv _ h3,.inr ⟨rfl,rfl⟩⟩
  ·cases h
 ·cases h
theorem T0{R:Type}{hh:Heap}(g:Good Z ψ hh.get w B0 O){x:AV}{u:Value}{op:BinOp}{t e:TypeId}(xo yo:Operand)(hx:aD Z ψ hh.get w x u)(ht:P.underlying t=some (.slice e)){want:Bool}(ho:(op=.eql∧want=true)∨(op=.neq∧want=false)){kk:AV→Option R}{r:R}(he:xh hh x want kk=some r) :
  ∃c:Bool,((eqGuard op t xo yo u (.slice none 0 0)).run P w=.ok () w∧(binOp op t u (.slice none 0 0)).run P w=.ok (.bool c) w)∧kk (.bool c)=some r:=by
 have run:∀(a:Option Addr) (n c:Nat),(eqGuard op t xo yo (.slice a n c) (.slice none 0 0)).run P w=.ok () w∧(binOp op t (.slice a n c) (.slice none 0 0)).run P w=.ok (.bool (a.isNone==want)) w:=fun a n c=>by refine⟨KG _ _ _ _ _ _ _ _ _ _,?_⟩;rcases ho with⟨rfl,rfl⟩|⟨rfl,rfl⟩<;>simp only[Sem.run_bind,Result.andThen_ok,binOp,Gh ht,Sem.run_pure]<;>cases a.isNone<;>rfl
 have fin:∀(n:Nat) (a:Option Addr) (c:Nat) (xs:Bool),(a=none→xs=true)→cond xs (u4 2 fun j=>kk (.bool ((j==0)==want))) (kk (.bool (!want)))=some r → ∃c':Bool,((eqGuard op t xo yo (.slice a n c) (.slice none 0 0)).run P w=.ok () w∧(binOp op t (.slice a n c) (.slice none 0 0)).run P w=.ok (.bool c') w)∧kk (.bool c')=some r:=fun n a c xs A7 h=>by
  refine⟨_,run a n c,?_⟩
  cases xs with
  |true =>
   simp only[cond_true]at h
   cases a with
   |none=>exact qn h 0 (by decide)
   |some a=>exact qn h 1 (by decide)
  |false =>
   simp only[cond_false]at h
   cases a with
   |none=>cases A7 rfl
   |some a=>cases want<;>exact h
 unfold xh at he
 split at he
 ·rename_i hv;have hxn:x=.ib:=by
   cases x<;>simp only[di]at hv<;>try cases hv
   ·rfl
   ·split at hv<;>cases hv
  subst hxn;simp only[aD]at hx;subst hx;exact⟨_,run none 0 0,by cases want<;>exact he⟩
 ·rename_i ex k xs hv
  cases x with
  |sl ex' k' xs' =>
   simp only[di]at hv
   cases hv
   simp only[aD,aP]at hx;obtain⟨⟨v,hv,A,c,rfl,h1,h2,_⟩,_⟩:=hx
   cases hv
   refine fin _ A c _ (fun hA=>?_) he;have:=h2 hA;rw[List.isEmpty_iff];exact acg (by omega)
  |bV id =>
   simp only[di]at hv;simp only[aD]at hx
   split at hv
   ·rename_i hg
    cases hv
    have hu:=hx.2 (by rw[hg];simp);obtain⟨vs,⟨_,h1⟩,_⟩:=g.row id _ _ hg;rw[←hu]at h1;rcases h1 with⟨h1,A,rfl⟩|⟨gg,cap,cur,rfl,_⟩
    ·exact fin _ A 0 _ (fun _=>List.isEmpty_iff.2 (acg h1)) he
    ·exact fin _ _ _ _ (fun h=>by cases h) he
   ·cases hv
   ·cases hv
  |_=>simp only[di]at hv<;>cases hv
 ·cases he
theorem DP{draw:Bool}{rid:Nat}{ops:Array Oper}{b:Array Nat}{i MZ:Nat}{e:bW}{S:Nat→Prop}{hh:Heap}(hm:vq (oF rid S) h)(ha:∀j,MZ.testBit j=true→S j)(he:iL draw rid ops b i MZ e=true) :
  aQ (oF rid fun k=>S k∨k=i) e.v∧vq (oF rid fun k=>S k∨k=i) (e.hp h):=by
 have Kb:∀j,(MZ ||| 2 ^ i).testBit j=true→S j∨j=i:=fun j hj=>by
  rw[Nat.testBit_or,Bool.or_eq_true]at hj;rcases hj with hj|hj
  ·exact .inl (ha j hj)
  ·rw[Nat.testBit_two_pow]at hj;exact .inr (by simpa using hj:i=j).symm
 have up:vq (oF rid fun k=>S k∨k=i) h:=fun id ty cs hb=>(hm id ty cs hb).imp (fun id h1 h2=>.inl (h1 h2))
 cases e with
 |val v=>exact⟨ru (fun j hj=>.inl (ha j hj)) he,up⟩
 |new v os =>
  simp only[iL,Bool.and_eq_true]at he;refine⟨ru Kb he.1.1,fun id ty cs hb=>?_⟩;simp only[bW.hp]at hb
  split at hb
  ·rename_i o ho
   cases hb
   exact(nP Kb he.2 _ _ ho).2 _ _ rfl
  ·exact up id ty cs hb
 |wr v h' =>simp only[iL,Bool.and_eq_true]at he;exact⟨ru Kb he.1.2,fun id ty cs hb=>(nP Kb he.2 _ _ hb).2 _ _ rfl⟩
theorem Gi{i j:Nat}(h:(2 ^ i-1).testBit j=true):j<i:=by rw[Nat.testBit_two_pow_sub_one]at h;simpa using h
def zJ(mk:Bool)(rid i id:Nat):Prop:=mk=true→oF rid (fun k=>k<i) id
theorem mX(E:Env P Eqs Sg F){rid n:Nat}{ops:Array Oper}{b:Array Nat}(mk:Bool)(IF:mk=false→∀(i:Nat) (o:Oper),ops[i]? = some o→makes o.op=false)(hn:ops.size≤128)(mq:∀(i:Nat) (o:Oper),ops[i]? = some o→jx n o=true){kk:St→Option R}{r:R}{Q:Exit→Act→World→Prop} (hQ:∀fM Z ψ a w,kk fM=some r→Ok Z0 w0 O ψ0 Z ψ fM.heap.get w→dn Z ψ fM.heap.get w n (look fM.tmps) a→Q .normal a w) :
  ∀(l:List (Nat×Oper)) (i:Nat) (st:St) (Z:Nat→Prop) (ψ:Nat→Value) (a:Act) (w:World),DO ops i l→bM P Eqs Sg F rid false ops b l st kk=some r → J (zJ mk rid i) n Z0 w0 O ψ0 Z ψ (look st.tmps) st.heap.get a w→wpOps P ops Q (l.map Prod.fst) a w
 |[],i,st,Z,ψ,a,w,_,hx,j=>hQ st Z ψ a w hx j.ok j.tr
 |(i',o)::l,i,st,Z,ψ,a,w,hl,hx,j=>by
  obtain⟨rfl,ho,hl⟩:=hl;have hi:i'<128:=adf (abq.1 ho).1 hn;have XK:=mq i' o ho;have ih:=mX E (rid:=rid) (b:=b) mk IF hn mq hQ l (i'+1);have up:∀id,zJ mk rid i' id→zJ mk rid (i'+1) id:=fun id h hm hr=>Nat.lt_succ_of_lt (h hm hr);have runs:∀jE:St,look jE.tmps=look st.tmps→jE.heap=st.heap→Region.wanted o (yielded ops a.tmps)=true →(match qY P (opId rid i') jE o with
    |some fM=>bM P Eqs Sg F rid false ops b l fM kk
    |none=>match xg o with
    |some x=>mE jE.heap (ρ jE.tmps x) fun v h=>bM P Eqs Sg F rid false ops b l (({ jE with heap:=h }:St).put o.dst v) kk
    |none=>match isNil P o with
    |some (x,want)=>xh jE.heap (ρ jE.tmps x) want fun v=>bM P Eqs Sg F rid false ops b l (jE.put o.dst v) kk
    |none=>dw P Eqs Sg F (opId rid i') jE.heap jE.tmps o fun e=>if iL false rid ops b i' (2 ^ i' - 1) e then bM P Eqs Sg F rid false ops b l ({ jE with heap:=match e with | .wr _ h=>h|e=>e.h jE.heap }.put o.dst e.v) kk else none)=some r →
    wpOps P ops Q (((i',o)::l).map Prod.fst) a w:=by
   intro jE h1 h2 hw hx
   split at hx
   ·rename_i fM qm;simp only[List.map_cons,wpOps,ho,hw,if_true];refine .inl ?_;have ad7:makes o.op=true:=by
     unfold qY at qm
     split at qm
     ·rename_i IC;rw[IC];rfl
     ·cases qm
    have ajq:mk=true:=by
     cases Rp:mk with
     |true=>rfl
     |false=>rw[IF Rp i' o ho]at ad7;cases ad7
    have j1:J (zJ mk rid i') n Z0 w0 O ψ0 Z ψ (look jE.tmps) jE.heap.get a w:=by rw[h1,h2];exact j
    obtain⟨V,w',Z',ψ',ep,j'⟩:=Nu (P:=P) (p':=zJ mk rid (i'+1)) (fun id hp pG=>by obtain⟨h3,h4⟩:=pG.parts hi;have:=hp ajq h3;rw[h4]at this;exact Nat.lt_irrefl _ this) up (fun _ h3=>by have:=((KD (rid:=rid) (i:=i')).parts hi).2;rw[this];exact Nat.lt_succ_self _) j1 XK qm;unfold Oper.wp;rw[ep];exact ih fM Z' ψ' _ w' hl hx j'
   split at hx
   ·rename_i x G6;simp only[List.map_cons,wpOps,ho,hw,if_true];refine .inl ?_;have IC:o.op=.next x false:=by
     unfold xg at G6
     split at G6
     ·rename_i IC;cases G6;exact IC
     ·cases G6
    have hxr:aD Z ψ jE.heap.get w (ρ jE.tmps x) (a.eval x):=tg (by rw[h1,h2];exact j.tr) x;have g1:Good Z ψ jE.heap.get w w0.heap.size O:=by rw[h2];exact j.ok.fi
    obtain⟨v,h',V,w',ep,nx,hr,Ni,XE,sr⟩:=Nv (P:=P) (N:=fun _=>False) (ty:=o.type) g1 hxr hx;have T1:(execOp a.eval o).run P w=.ok (.value V) w':=by obtain⟨dst,op,type,pos,after,guard⟩:=o;simp only at IC;subst IC;simp only at ep;simp[execOp,ep]
    unfold Oper.wp;rw[T1];refine ih _ Z ψ _ w' hl Ni ?_;rw[jg,dI];have j1:J (zJ mk rid i') n Z0 w0 O ψ0 Z ψ (look jE.tmps) jE.heap.get a w:=by rw[h1,h2];exact j
    refine⟨j1.ok.next (fun id h=>h.elim) nx,(j1.tr.next g1 nx (fun d=>(j1.tm d).imp fun _ _ h=>h)).put XK hr,fun d=>?_,fun k ty cs hb=>(j1.hm k ty cs (sr k ty cs hb)).imp up⟩
    cases mq:o.dst with
    |none=>exact(j1.tm d).imp up
    |some d0 =>
     simp only[jW,fq]
     split
     ·exact XE _
     ·exact(j1.tm d).imp up
   split at hx
   ·rename_i x want hnl;obtain⟨op,t,v,t',et,IC,ht,rfl,th⟩:=Nw hnl;simp only[List.map_cons,wpOps,ho,hw,if_true];refine .inl ?_;have hxr:aD Z ψ jE.heap.get w (ρ jE.tmps x) (a.eval x):=tg (by rw[h1,h2];exact j.tr) x;have g1:Good Z ψ jE.heap.get w w0.heap.size O:=by rw[h2];exact j.ok.fi
    obtain⟨c,ep,Ni⟩:=T0 (P:=P) g1 x (.const (.slice none 0 0)) hxr ht th hx;have T1:(execOp a.eval o).run P w=.ok (.value (.bool c)) w:=by obtain⟨dst,op',type,pos,after,guard⟩:=o;simp only at IC;subst IC;have e1:a.eval (.const (.slice none 0 0))=.slice none 0 0:=rfl;simp[execOp,e1,ep.1,ep.2]
    unfold Oper.wp;rw[T1];refine ih _ Z ψ _ w hl Ni ?_;rw[jg,dI];have j1:J (zJ mk rid i') n Z0 w0 O ψ0 Z ψ (look jE.tmps) jE.heap.get a w:=by rw[h1,h2];exact j
    refine⟨j1.ok,j1.tr.put XK (by simp only[aD]),fun d=>?_,fun k ty cs hb=>(j1.hm k ty cs hb).imp up⟩
    cases mq:o.dst with
    |none=>exact(j1.tm d).imp up
    |some d0 =>
     simp only[jW,fq]
     split
     ·simp only[aQ]
     ·exact(j1.tm d).imp up
   rw[mW]at hx;obtain⟨e,he,hx⟩:=ac4.1 hx
   split at hx
   ·rename_i nE;simp only[List.map_cons,wpOps,ho,hw,if_true];refine .inl ?_;have hh:jE.heap.get=st.heap.get:=by rw[h2]
    have qm:aQ (zJ mk rid (i'+1)) e.v∧vq (zJ mk rid (i'+1)) (e.hp st.heap.get):=by
     cases Rp:mk with
     |false =>have ht:zJ false rid (i'+1)=fun _=>True:=funext fun id=>propext ⟨fun _=>trivial,fun _ h=>by cases h⟩;rw[ht];exact⟨aQ.top _,fun _ _ cs _=>aJ.top cs⟩
     |true =>
      have Yb:vq (oF rid fun k=>k<i') st.heap.get:=fun id ty cs hb=>(j.hm id ty cs hb).imp fun id h1=>h1 Rp;have h3:=DP (hh:=jE.heap) Yb (fun k hk=>Gi hk) nE;have hS:∀k,(k<i'∨k=i')→k<i'+1:=fun k hk=>by omega
      exact⟨h3.1.imp fun id h1 _ h2=>hS _ (h1 h2),fun id ty cs hb=>(h3.2 id ty cs hb).imp fun id h1 _ h2=>hS _ (h1 h2)⟩
    refine J.op E (p:=zJ mk rid i') (p':=zJ mk rid (i'+1)) (rid:=rid) (i:=i') (s:=jE.tmps) (fun hm id hp pG => ?_) j XK (fun x _=>tg (by rw[h1];exact j.tr) x) (fun x _=>Ro (by rw[h1];exact j.tm) x) (fun id o hg=>by rw[hh]at hg;exact hg) he (fun _ _ _=>hh) up qm.1 qm.2 fun a' w' Z' ψ' j' => ?_
    ·cases Rp:mk with
     |false=>rw[IF Rp i' o ho]at hm;cases hm
     |true =>obtain⟨h3,h4⟩:=pG.parts hi;have:=hp Rp h3;rw[h4]at this;exact Nat.lt_irrefl _ this
    refine ih _ Z' ψ' a' w' hl hx ?_;rw[jg,dI];have j2:J (zJ mk rid (i'+1)) n Z0 w0 O ψ0 Z' ψ' (jW (look jE.tmps) o.dst e.v) (bW.heap e jE.heap).get a' w':=by rw[bW.KE,h1,h2];exact j'
    exact j2
   ·cases hx
  have xJ:∀jE:St,look jE.tmps=look st.tmps→jE.heap=st.heap→Region.wanted o (yielded ops a.tmps)=false → bM P Eqs Sg F rid false ops b l (jE.put o.dst (.pe [])) kk=some r→wpOps P ops Q (((i',o)::l).map Prod.fst) a w:=by intro jE h1 h2 hw hx;simp only[List.map_cons,wpOps,ho,hw,Bool.false_eq_true,if_false];refine ih _ Z ψ _ w hl hx ?_;rw[jg,dI,h1,h2];exact j.skip XK up
  rw[bM]at hx;simp only[Bool.false_eq_true,if_false]at hx
  split at hx
  ·rename_i hg;exact runs st rfl rfl (by simp[Region.wanted,hg]) hx
  ·rename_i jj want hg
   split at hx
   ·cases hx
   ·rename_i d hd
    split at hx
    ·rename_i t ht;have hw:=DN j.tr hg hd ht;have hp:∀b,t=b→look (st.put (some d) (.bool b)).tmps=look st.tmps:=fun b hb=>by subst hb;rw[jg];exact G4 ht
     cases t<;>simp only[cond_true,cond_false]at hx<;>split at hx<;>rename_i th
     ·exact xJ _ (hp false rfl) (dI _ _ _) (by rw[hw];simp[th]) hx
     ·exact runs _ (hp false rfl) (dI _ _ _) (by rw[hw];simp[th]) hx
     ·exact runs _ (hp true rfl) (dI _ _ _) (by rw[hw];simp[th]) hx
     ·exact xJ _ (hp true rfl) (dI _ _ _) (by rw[hw];simp[th]) hx
    ·rename_i vs ht;exact xJ st rfl rfl (Bp j.tr hg hd ht) hx
    ·cases hx
theorem lN(hp h:Heap)(i:Nat):∀(ft:List Nat),(gD ft hp h).get i=if i∈ft then(match hp.get i with|some o=>some o|none=>h.get i) else h.get i
 |[]=>by simp[gD]
 |j::r=>by
  have ih:=lN hp h i r;unfold gD at ih ⊢
  cases hj:hp.get j with
  |none =>
   rw[List.filterMap_cons,hj];simp only[Option.map_none];rw[ih];by_cases e:i=j
   ·subst e;simp[hj]
   ·simp[e]
  |some o =>
   rw[List.filterMap_cons,hj];simp only[Option.map_some,List.cons_append,Heap.get];rw[ih];by_cases e:j=i
   ·subst e;simp[hj]
   ·have e':¬i=j:=fun h=>e h.symm;simp[e,e']
mutual
theorem Bq{ft:List Nat}:∀{v:AV},sS ft v=true→aQ (fun i=>i∉ft) v
 |.ref id _ _ _,h=>by simp only[aQ];simpa[sS] using h
 |.bV id,h=>by simp only[aQ];simpa[sS] using h
 |.fn _ cap,h=>by simp only[aQ];exact lO (by simpa only[sS] using h)
 |.agg cs,h=>by simp only[aQ];exact lO (by simpa only[sS] using h)
 |.pe vs,h=>by simp only[aQ];exact lO (by simpa only[sS] using h)
 |.no,_=>by simp only[aQ]
 |.bool _,_=>by simp only[aQ]
 |.int _ _,_=>by simp only[aQ]
 |.str _,_=>by simp only[aQ]
 |.mC,_=>by simp only[aQ]
 |.ib,_=>by simp only[aQ]
 |.fp _ _ _,_=>by simp only[aQ]
 |.sl _ _ _,_=>by simp only[aQ]
 |.mp _ _ _,_=>by simp only[aQ]
theorem lO{ft:List Nat}:∀{l:List AV},vT ft l=true→aJ (fun i=>i∉ft) l
 |[],_=>by simp only[aJ]
 |v::r,h=>by simp only[vT,Bool.and_eq_true]at h;simp only[aJ];exact⟨Bq h.1,lO h.2⟩
end
theorem lP{ft:List Nat}:∀{hh:Heap},vU ft hh=true→∀i o,hh.get i=some o→i∉ft∧∀ty cs,o=.box ty cs→aJ (fun i=>i∉ft) cs
 |[],_,i,o,h=>by simp[Heap.get]at h
 |(j,.box ty cs)::r,hc,i,o,h=>by
  simp only[vU,Bool.and_eq_true]at hc;simp only[Heap.get]at h
  split at h
  ·rename_i e;subst e;cases h;exact⟨by simpa using hc.1,fun ty cs e=>by cases e;exact lO hc.2.1⟩
  ·exact lP hc.2.2 i o h
 |(j,.own ok x)::r,hc,i,o,h=>by
  simp only[vU,Bool.and_eq_true]at hc;simp only[Heap.get]at h
  split at h
  ·rename_i e;subst e;cases h;exact⟨by simpa using hc.1,fun ty cs e=>by cases e⟩
  ·exact lP hc.2 i o h
theorem Next.frame{hp h1:Heap}{ft:List Nat}(g:Good Z ψ hp.get w B0 O)(hB:B0≤w.heap.size)(bC:∀i ty cs,hp.get i=some (.box ty cs)→aJ (fun i=>¬N i) cs) (n:Next Z ψ (iX hp ft).get w w.heap.size (Own ψ (iX hp ft).get) N Z' ψ' h1.get w') (hc:vU ft h1=true) :
  ∃fj,Next Z ψ hp.get w B0 O N Z' fj (gD ft hp h1).get w'∧∀i,i∉ft→fj i=ψ' i:=by
 classical
 have gd:∀i,(iX hp ft).get i=if i∈ft then none else hp.get i:=fun i=>qj ft hp i
 have bI:∀b,Own ψ (iX hp ft).get b→Own ψ hp.get b:=fun b ⟨i,h1,h2⟩=>⟨i,by rw[gd]at h1;split at h1;exact absurd rfl h1;exact h1,h2⟩;have su:∀i,i∈ft→h1.get i=none:=fun i hi=>by
  cases e:h1.get i with
  |none=>rfl
  |some o=>exact absurd hi (lP hc i o e).1
 have gf:∀i,(gD ft hp h1).get i=if i∈ft then hp.get i else h1.get i:=fun i=>by
  rw[lN];by_cases hi:i∈ft
  ·rw[if_pos hi,if_pos hi,su i hi];cases hp.get i<;>rfl
  ·rw[if_neg hi,if_neg hi]
 let fj:Nat→Value:=fun i=>if i∈ft then ψ i else ψ' i
 have p1:∀i,i∈ft→fj i=ψ i:=fun i hi=>if_pos hi;have p2:∀i,i∉ft→fj i=ψ' i:=fun i hi=>if_neg hi;have apart:∀i b,i∈ft→hp.get i≠none→ob (ψ i)=some b→¬Own ψ (iX hp ft).get b:=fun i b hi h2 h3 ⟨j,h4,h5⟩=>by
  rw[gd]at h4
  split at h4
  ·exact h4 rfl
  ·rename_i hj;have:=g.apart i j b h2 h4 h3 h5;subst this;exact hj hi
 have dr:∀i b,i∈ft→hp.get i≠none→ob (ψ i)=some b→w'.heap[b]? = w.heap[b]? := fun i b hi h2 h3 =>n.keep.block b (g.cc ⟨i,h2,h3⟩) (apart i b hi h2 h3);have keep:dF ψ hp.get w w':=⟨n.keep.os,n.keep.tape,n.keep.output,n.keep.size,fun b hb hn=>n.keep.block b hb fun ho=>hn (bI b ho)⟩;have sm:cU Z w w':=keep.same g;have ids:∀i,(gD ft hp h1).get i≠none→(hp.get i≠none∧fj i=ψ i)∨N i:=fun i hi=>by
  rw[gf]at hi;by_cases hf:i∈ft
  ·rw[if_pos hf]at hi;exact .inl ⟨hi,p1 i hf⟩
  ·rw[if_neg hf]at hi;rcases n.ids i hi with⟨h2,h3⟩|h2
   ·rw[gd,if_neg hf]at h2;exact .inl ⟨h2,(p2 i hf).trans h3⟩
   ·exact .inr h2
 have nz:∀i b,i∈ft→hp.get i≠none→ob (ψ i)=some b→¬Z' b:=fun i b hi h2 h3 hz=>by
  rcases n.fN b hz with h4|h4|h4
  ·exact(g.live i b h2 h3).1 h4
  ·exact apart i b hi h2 h3 h4
  ·have:=g.cc ⟨i,h2,h3⟩;omega
 refine⟨fj,⟨n.g6,fun b hb=>(n.fN b hb).imp (fun h=>h) (fun h=>h.imp (bI b) fun h=>h),keep,ids,⟨fun i ty cs hb=>?_,fun i ok x hb=>?_,fun i b h2 h3=>?_,fun i j b h2 h3 h4 h5=>?_,n.fi.kO⟩⟩,p2⟩
 ·rw[gf]at hb;by_cases hf:i∈ft
  ·rw[if_pos hf]at hb;obtain⟨gg,vs,e1,e2,e3,e4⟩:=g.box i ty cs hb;refine⟨gg,vs,by rw[p1 i hf,e1],(dr i gg hf (by rw[hb];simp) (by rw[e1];rfl)).trans e2,e3.move n.g6 sm (fun j hj bq=>(ids j bq).resolve_right hj) (bC i ty cs hb),e4⟩
  ·rw[if_neg hf]at hb;obtain⟨gg,vs,e1,e2,e3,e4⟩:=n.fi.box i ty cs hb;refine⟨gg,vs,by rw[p2 i hf,e1],e2,e3.move (fun _ h=>h) (cU.refl _ _) (fun j hj bq=>?_) ((lP hc i _ hb).2 ty cs rfl),e4⟩;rw[gf,if_neg hj]at bq;exact⟨bq,p2 j hj⟩
 ·rw[gf]at hb;by_cases hf:i∈ft
  ·rw[if_pos hf]at hb;rw[p1 i hf];exact(g.row i ok x hb).kept n.g6 sm (fun b oD=>dr i b hf (by rw[hb];simp) oD)
  ·rw[if_neg hf]at hb;rw[p2 i hf];exact n.fi.row i ok x hb
 ·rw[gf]at h2;by_cases hf:i∈ft
  ·rw[if_pos hf]at h2;rw[p1 i hf]at h3;exact⟨nz i b hf h2 h3,(g.live i b h2 h3).2⟩
  ·rw[if_neg hf]at h2;rw[p2 i hf]at h3;obtain⟨h4,h5⟩:=n.fi.live i b h2 h3;refine⟨h4,h5.elim (fun h=>.inl (acN hB h)) fun h=>?_⟩;obtain⟨j,h6,h7⟩:=bI b h;exact(g.live j b h6 h7).2
 ·have mixed:∀i j b,i∈ft→j∉ft→(gD ft hp h1).get i≠none→(gD ft hp h1).get j≠none→ob (fj i)=some b→ob (fj j)=some b→False:=fun i j b hi hj h2 h3 h4 h5=>by
   rw[gf,if_pos hi]at h2;rw[gf,if_neg hj]at h3;rw[p1 i hi]at h4;rw[p2 j hj]at h5;rcases (n.fi.live j b h3 h5).2 with h6|h6
   ·have:=g.cc ⟨i,h2,h4⟩;omega
   ·exact apart i b hi h2 h4 h6
  by_cases hi:i∈ft<;>by_cases hj:j∈ft
  ·rw[gf,if_pos hi]at h2;rw[gf,if_pos hj]at h3;rw[p1 i hi]at h4;rw[p1 j hj]at h5;exact g.apart i j b h2 h3 h4 h5
  ·exact(mixed i j b hi hj h2 h3 h4 h5).elim
  ·exact(mixed j i b hj hi h3 h2 h5 h4).elim
  ·rw[gf,if_neg hi]at h2;rw[gf,if_neg hj]at h3;rw[p2 i hi]at h4;rw[p2 j hj]at h5;exact n.fi.apart i j b h2 h3 h4 h5
theorem J.opF(E:Env P Eqs Sg F){rid n i:Nat}{p:Nat→Prop}{T:Nat→AV}{a:Act}{s:List (Nat×AV)}{o:Oper}(hS:makes o.op=true→∀id,p id→¬Of rid i id){hp h1:Heap}{v:AV}{ft:List Nat}(j:J p n Z0 w0 O ψ0 Z ψ T hp.get a w)(hd:jx n o=true) (hT:∀x∈o.op.operands,aD Z ψ hp.get w (ρ s x) (a.eval x)) (hTm:∀x∈o.op.operands,aQ p (ρ s x)) (he:dw P Eqs Sg F (opId rid i) (iX hp ft) s o some=some (.wr v h1)) (hc:ns ft (.wr v h1)=true) {p':Nat→Prop} (SV:∀k,p k→p' k) (hv:aQ p' v) (hh':vq p' (gD ft hp h1).get) {next:Act→World→Prop} {Q:Exit→Act→World→Prop} (hk:∀a' w' Z' ψ',J p' n Z0 w0 O ψ0 Z' ψ' (jW T o.dst v) (gD ft hp h1).get a' w'→next a' w'):o.wp P a w next Q:=by
 have nof:∀id,p id→¬(makes o.op=true∧Of rid i id):=fun id h ⟨h1,h2⟩=>hS h1 id h h2;simp only[ns,Bool.and_eq_true]at hc;have bI:∀id o,(iX hp ft).get id=some o→hp.get id=some o:=fun id o h=>by rw[qj]at h;split at h;cases h;exact h
 have bq:∀id,(iX hp ft).get id≠none→hp.get id≠none:=fun id h=>by obtain⟨o,ho⟩:=abN.1 h;rw[bI id o ho];simp
 have bC:∀i' ty cs,hp.get i'=some (.box ty cs)→aJ (fun id=>¬(makes o.op=true∧Of rid i id)) cs:=fun id ty cs hb=>(j.hm id ty cs hb).imp nof;have gs:Good Z ψ (iX hp ft).get w w.heap.size (Own ψ (iX hp ft).get):=(j.ok.fi.sub bI).Iy _;refine aad (N:=fun id=>makes o.op=true∧Of rid i id) E gs (ack _) (fun _ _ h=>h) (id:=opId rid i) (fun hm k hk=>⟨hm,Pd hk⟩) (fun x hx=>(hT x hx).ss bI) (fun x hx=>(hTm x hx).imp nof) (fun id ty cs hb=>bC id ty cs (bI _ _ hb)) (fun _ _ _=>rfl) he fun V w' Z' ψ' nx hr=>?_;obtain⟨fj,n2,h2⟩:=Next.frame j.ok.fi j.ok.size bC nx hc.2;have DQ:aD Z' fj (gD ft hp h1).get w' v V:=hr.move (p:=fun i=>i∉ft) (fun _ h=>h) (cU.refl _ _) (fun k hk bq=>by rw[lN,if_neg hk]at bq;exact⟨bq,h2 k hk⟩) (Bq hc.1);refine hk _ w' Z' fj ⟨j.ok.next (fun id h=>by have:=h.2;unfold Of at this;omega) n2,(j.tr.next j.ok.fi n2 (fun d=>(j.tm d).imp nof)).put hd DQ,fun d=>?_,hh'⟩
 cases mq:o.dst with
 |none=>exact(j.tm d).imp SV
 |some d0 =>
  simp only[jW,fq]
  split
  ·exact hv
  ·exact(j.tm d).imp SV
end Go.Vs
namespace Go.Vs
variable {P:Program} {Eqs:TypeId→Option K} {Sg:FuncId→Option aX} {F:(f:FuncId)→(g:aX)→g.A→Option g.B} {R:Type}
variable {Z Z' Z0:Nat→Prop} {ψ ψ':Nat→Value} {h h':Hp} {w w' w0:World} {B0:Nat} {O N:Nat→Prop}
variable {rid n:Nat} {ops:Array Oper} {b:Array Nat}
def uz(b:Array Nat)(i j:Nat):Prop:=(b.getD i 0).testBit j=true
theorem G7(b:Array Nat)(j:Nat):∀(l:List Edge) (s:Nat),(l.foldl (fun s e=>if Region.binds .any e then s ||| 2 ^ e.on ||| b.getD e.on 0 else s) s).testBit j=true ↔
  s.testBit j=true∨∃e∈l,Region.binds .any e=true∧(j=e.on∨uz b e.on j)
 |[],s=>by simp
 |e::l,s=>by
  rw[List.foldl_cons,G7 b j l];by_cases hb:Region.binds .any e=true
  ·rw[if_pos hb];have h2:(2 ^ e.on).testBit j=true↔j=e.on:=by rw[Nat.testBit_two_pow];simp[eq_comm]
   simp only[Nat.testBit_or,Bool.or_eq_true,h2,List.mem_cons,exists_eq_or_imp,hb,true_and,uz];constructor
   ·rintro(((h|h)|h)|h)
    ·exact .inl h
    ·exact .inr (.inl (.inl h))
    ·exact .inr (.inl (.inr h))
    ·exact .inr (.inr h)
   ·rintro(h|(h|h)|h)
    ·exact .inl (.inl (.inl h))
    ·exact .inl (.inl (.inr h))
    ·exact .inl (.inr h)
    ·exact .inr h
  ·rw[if_neg hb];simp[hb]
theorem Cs(hb:xf ops b=true){i j:Nat}{o:Oper}(ho:ops[i]? = some o):uz b i j↔∃e∈o.after.toList,Region.binds .any e=true∧(j=e.on∨uz b e.on j):=by have aG:=(abq.1 ho).1;have h1:=ac3.1 hb i (adb.2 aG);rw[ho]at h1;simp only[Bool.and_eq_true,beq_iff_eq]at h1;unfold uz;rw[h1.2,G7];simp[uz]
theorem Nx(hb:xf ops b=true){i:Nat}{o:Oper}(ho:ops[i]? = some o){e:Edge}(he:e∈o.after.toList)(Rb:Region.binds .any e=true):e.on<i:=by have aG:=(abq.1 ho).1;have h1:=ac3.1 hb i (adb.2 aG);rw[ho]at h1;simp only[Bool.and_eq_true]at h1;have:=ac3.1 h1.1 e he;simpa[Rb] using this
theorem DR(hb:xf ops b=true):∀(i j:Nat),i<ops.size→uz b i j→j<i:=by
 intro i
 induction i using Nat.strongRecOn with
 |ind i ih =>
  intro j hi h;obtain⟨e,he,Rb,h1⟩:=(Cs hb (acn hi)).1 h;have hon:=Nx hb (acn hi) he Rb;rcases h1 with rfl|h1
  ·exact hon
  ·exact Nat.lt_trans (ih e.on hon j (by omega) h1) hon
theorem G8(hb:xf ops b=true):∀(i j k:Nat),i<ops.size→uz b i j→uz b j k→uz b i k:=by
 intro i
 induction i using Nat.strongRecOn with
 |ind i ih =>
  intro j k hi h h';obtain⟨e,he,Rb,h1⟩:=(Cs hb (acn hi)).1 h;have hon:=Nx hb (acn hi) he Rb;refine(Cs hb (acn hi)).2 ⟨e,he,Rb,?_⟩;rcases h1 with rfl|h1
  ·exact .inr h'
  ·exact .inr (ih e.on hon j k (by omega) h1 h')
theorem get_filter(f:Nat→Bool):∀(hh:Heap) (i:Nat),Heap.get (hh.filter fun p=>f p.1) i=if f i then hh.get i else none
 |[],i=>by simp[Heap.get]
 |(j,o)::r,i=>by
  rw[List.filter_cons]
  split
  ·rename_i hj;simp only[Heap.get];by_cases e:j=i
   ·subst e;simp only at hj;simp[hj]
   ·simp only[if_neg e];exact get_filter f r i
  ·rename_i hj;rw[get_filter f r i];simp only[Heap.get];by_cases e:j=i
   ·subst e;simp only at hj;simp[hj]
   ·simp only[if_neg e]
theorem Rq(rid MZ:Nat)(hh:Heap)(id:Nat):(ahead rid MZ hh).get id=if sR rid MZ id then hh.get id else none:=by unfold ahead;exact get_filter (fun i=>sR rid MZ i) hh id
theorem T2(ft:List Nat)(hp:Heap)(e:bW):(iR ft hp e).v=e.v:=by cases e<;>rfl
theorem KH{id:Nat}{hh:Heap}{s:List (Nat×AV)}{o:Oper}{x:Operand}{e:bW}(hl:iP o.op=some x)(he:dw P Eqs Sg F id hh s o some=some e):∃v,e=.val v:=by
 obtain⟨dst,op,type,pos,after,guard⟩:=o
 cases op<;>simp only[iP]at hl<;>first|(cases hl;done)|skip
 case load t a =>
  simp only[dw,nr]at he
  repeat' (first|(cases he;done)|exact⟨_,(aby he).symm⟩|split at he)
  all_goals
   obtain⟨y,_,he⟩:=ac4.1 he
   split at he<;>first|(cases he;done)|exact⟨_,(aby he).symm⟩
 case indexAddr t a i =>
  simp only[dw,eC]at he
  repeat' (first|(cases he;done)|exact⟨_,(aby he).symm⟩|split at he)
  all_goals first
   |(obtain⟨y,_,he⟩:=ac4.1 he;exact⟨_,(aby he).symm⟩)
   |(unfold cond at he;split at he<;>first|(cases he;done)|exact⟨_,(aby he).symm⟩)
theorem zK{op:Op}{x:Operand}(hl:iP op=some x):pj op=false∧Cf op=false:=by cases op<;>simp only[iP]at hl<;>first|(cases hl;done)|exact⟨rfl,rfl⟩
theorem Ny{id:Nat}{hh h2:Heap}{s:List (Nat×AV)}{o:Oper}{x:Operand}(hl:iP o.op=some x)(hg:∀i∈r8 (ρ s x),h2.get i=hh.get i):dw P Eqs Sg F id h2 s o some=dw P Eqs Sg F id hh s o some:=by
 obtain⟨dst,op,type,pos,after,guard⟩:=o
 cases op<;>simp only[iP]at hl<;>first|(cases hl;done)|skip
 case load t a =>
  cases hl
  simp only[dw,nr]
  cases hv:ρ s x with
  |ref i s' j off=>rw[hv]at hg;simp only[r8,List.mem_singleton,forall_eq]at hg;simp only[hg]
  |_=>rfl
 case indexAddr t a i =>
  cases hl
  simp only[dw,eC]
  cases AX P t with
  |none=>rfl
  |some e =>
   simp only[]
   cases hv:ρ s x with
   |bV k =>
    rw[hv]at hg;have Dn:=hg k (by simp[r8])
    cases ρ s i<;>first|rfl|simp only[Dn]
   |sl ex k xs=>cases ρ s i<;>rfl
   |_=>rfl
def sf(ops:Array Oper)(T:Nat→AV)(o:Oper)(t:Bool):Prop :=match o.guard with
 |none=>t=true
 |some (j,want)=>∃d,(ops[j]?).bind (·.dst)=some d∧((∃u,T d=.bool u∧(u==want)=t)∨(∃vs,T d=.pe vs∧t=false))
def DS(P:Program)(Eqs:TypeId→Option K)(Sg:FuncId→Option aX)(F:(f:FuncId)→(g:aX)→g.A→Option g.B)(rid:Nat)(ops:Array Oper)(b:Array Nat)(T:Nat→Nat→AV)(H:Nat→Hp)(E:Nat→Option bW)(k:Nat)(o:Oper):Prop :=(∃e s hh,E k=some e∧look s=T k∧(∀id,Heap.get hh id=if sR rid (b.getD k 0) id then H k id else none)∧(∃e0,dw P Eqs Sg F (opId rid k) (iX hh (iQ ops b k s o)) s o some=some e0∧e=iR (iQ ops b k s o) hh e0∧ns (iQ ops b k s o) e0=true) ∧
  iL true rid ops b k (b.getD k 0) e=true∧sf ops (T k) o true∧T (k+1)=jW (T k) o.dst e.v∧H (k+1)=e.hp (H k)) ∨
 (E k=none∧sf ops (T k) o false∧T (k+1)=jW (T k) o.dst (.pe [])∧H (k+1)=H k)
theorem trace{kk:St→Option R}{r:R}:∀(l:List (Nat×Oper)) (i:Nat) (st:St),DO ops i l→l.length=ops.size-i→bM P Eqs Sg F rid true ops b l st kk=some r → ∃(T:Nat→Nat→AV) (H:Nat→Hp) (E:Nat→Option bW),T i=look st.tmps∧H i=st.heap.get∧(∀k o,i≤k→ops[k]? = some o→DS P Eqs Sg F rid ops b T H E k o) ∧ ∃fM,kk fM=some r∧look fM.tmps=T (max i ops.size)∧fM.heap.get=H (max i ops.size)
 |[],i,st,_,hlen,hx=>by
  have hge:ops.size≤i:=by simp at hlen;omega
  refine⟨fun _=>look st.tmps,fun _=>st.heap.get,fun _=>none,rfl,rfl,fun k o hk ho=>?_,st,hx,rfl,rfl⟩;have:=(abq.1 ho).1;omega
 |(i',o)::l,i,st,hl,hlen,hx=>by
  obtain⟨rfl,ho,hl⟩:=hl;have aG:=(abq.1 ho).1;have ih:=trace (kk:=kk) (r:=r) l (i'+1);have ad9:l.length=ops.size-(i'+1):=by simp at hlen;omega
  have glue:∀(fM:St) (oe:Option bW),bM P Eqs Sg F rid true ops b l fM kk=some r →(∀T H E,T i'=look st.tmps→H i'=st.heap.get→E i'=oe→T (i'+1)=look fM.tmps→H (i'+1)=fM.heap.get→DS P Eqs Sg F rid ops b T H E i' o) → ∃(T:Nat→Nat→AV) (H:Nat→Hp) (E:Nat→Option bW),T i'=look st.tmps∧H i'=st.heap.get∧(∀k o,i'≤k→ops[k]? = some o→DS P Eqs Sg F rid ops b T H E k o) ∧ ∃fM,kk fM=some r∧look fM.tmps=T (max i' ops.size)∧fM.heap.get=H (max i' ops.size):=by
   intro fM oe hx' xl;obtain⟨T,H,E,h1,h2,h3,ajr,h4,h5,h6⟩:=ih fM hl ad9 hx';refine⟨fun k=>if k≤i' then look st.tmps else T k,fun k=>if k≤i' then st.heap.get else H k,fun k=>if k=i' then oe else E k,by simp,by simp,fun k o' hk pG => ?_,ajr,h4,?_,?_⟩
   ·by_cases hki:k=i'
    ·subst hki;rw[ho]at pG
     cases pG
     exact xl _ _ _ (by simp) (by simp) (by simp) (by show(if k+1≤k then _ else _)=_;rw[if_neg (by omega)];exact h1) (by show(if k+1≤k then _ else _)=_;rw[if_neg (by omega)];exact h2)
    ·have h7:=h3 k o' (by omega) pG;unfold DS at h7 ⊢;simp only[show ¬k≤i' by omega,show ¬k+1≤i' by omega,hki,if_false];exact h7
   ·rw[h5];simp only[show max (i'+1) ops.size=ops.size by omega,show max i' ops.size=ops.size by omega,show ¬ops.size≤i' by omega,if_false]
   ·rw[h6];simp only[show max (i'+1) ops.size=ops.size by omega,show max i' ops.size=ops.size by omega,show ¬ops.size≤i' by omega,if_false]
  have runs:∀jE:St,look jE.tmps=look st.tmps→jE.heap=st.heap→sf ops (look st.tmps) o true →(dw P Eqs Sg F (opId rid i') (iX (ahead rid (b.getD i' 0) jE.heap) (iQ ops b i' jE.tmps o)) jE.tmps o fun e=>if(iL true rid ops b i' (b.getD i' 0) (iR (iQ ops b i' jE.tmps o) (ahead rid (b.getD i' 0) jE.heap) e)&&ns (iQ ops b i' jE.tmps o) e)=true then bM P Eqs Sg F rid true ops b l ({ jE with heap:=match iR (iQ ops b i' jE.tmps o) (ahead rid (b.getD i' 0) jE.heap) e with | .wr _ h=>h|e=>e.h jE.heap }.put o.dst e.v) kk else none)=some r →
    ∃(T:Nat→Nat→AV) (H:Nat→Hp) (E:Nat→Option bW),T i'=look st.tmps∧H i'=st.heap.get∧(∀k o,i'≤k→ops[k]? = some o→DS P Eqs Sg F rid ops b T H E k o) ∧ ∃fM,kk fM=some r∧look fM.tmps=T (max i' ops.size)∧fM.heap.get=H (max i' ops.size):=by
   intro jE h1 h2 hw hx;rw[mW]at hx;obtain⟨e,he,hx⟩:=ac4.1 hx
   split at hx
   ·rename_i nE;rw[Bool.and_eq_true]at nE;generalize u5:iR (iQ ops b i' jE.tmps o) (ahead rid (b.getD i' 0) jE.heap) e=e1 at hx nE;have xw:e.v=e1.v:=by rw[←u5];exact(T2 _ _ _).symm
    refine glue _ (some e1) hx fun T H E hT hH hE hT' hH' => ?_;refine .inl ⟨e1,jE.tmps,_,hE,by rw[hT,h1],fun id=>by rw[Rq,hH,h2],⟨e,he,u5.symm,nE.2⟩,nE.1,by rw[hT];exact hw,?_,?_⟩
    ·rw[hT',jg,hT,xw];simp only[h1]
    ·rw[hH',dI,hH];have:(bW.heap e1 jE.heap).get=e1.hp st.heap.get:=by rw[bW.KE,h2]
     exact this
   ·cases hx
  have xJ:∀jE:St,look jE.tmps=look st.tmps→jE.heap=st.heap→sf ops (look st.tmps) o false → bM P Eqs Sg F rid true ops b l (jE.put o.dst (.pe [])) kk=some r → ∃(T:Nat→Nat→AV) (H:Nat→Hp) (E:Nat→Option bW),T i'=look st.tmps∧H i'=st.heap.get∧(∀k o,i'≤k→ops[k]? = some o→DS P Eqs Sg F rid ops b T H E k o) ∧ ∃fM,kk fM=some r∧look fM.tmps=T (max i' ops.size)∧fM.heap.get=H (max i' ops.size):=by
   intro jE h1 h2 hw hx;refine glue _ none hx fun T H E hT hH hE hT' hH'=>.inr ⟨hE,by rw[hT];exact hw,?_,?_⟩
   ·rw[hT',jg,hT,h1]
   ·rw[hH',dI,hH,h2]
  rw[bM]at hx;simp only[if_true]at hx
  split at hx
  ·rename_i hg;exact runs st rfl rfl (by simp[sf,hg]) hx
  ·rename_i jj want hg
   split at hx
   ·cases hx
   ·rename_i d hd
    split at hx
    ·rename_i t ht;have hp:∀b,t=b→look (st.put (some d) (.bool b)).tmps=look st.tmps:=fun b hb=>by subst hb;rw[jg];exact G4 ht
     have hw:∀c,(t==want)=c→sf ops (look st.tmps) o c:=fun c hc=>by unfold sf;rw[hg];exact⟨d,hd,.inl ⟨t,ht,hc⟩⟩
     cases t<;>simp only[cond_true,cond_false]at hx<;>split at hx<;>rename_i th
     ·exact xJ _ (hp false rfl) (dI _ _ _) (hw _ (by simp[th])) hx
     ·exact runs _ (hp false rfl) (dI _ _ _) (hw _ (by simp[th])) hx
     ·exact runs _ (hp true rfl) (dI _ _ _) (hw _ (by simp[th])) hx
     ·exact xJ _ (hp true rfl) (dI _ _ _) (hw _ (by simp[th])) hx
    ·rename_i vs ht;exact xJ st rfl rfl (by unfold sf;rw[hg];exact⟨d,hd,.inr ⟨vs,ht,rfl⟩⟩) hx
    ·cases hx
def Nf(ops:Array Oper)(j:Nat):Prop:=∃o,ops[j]? = some o∧pj o.op=false∧iP o.op=none
def Ct(E:Nat→Option bW)(k:Nat):Prop:=∃v h',E k=some (.wr v h')
def IsN(E:Nat→Option bW)(k:Nat):Prop:=∃v os,E k=some (.new v os)
theorem xK{α:Type}(f:α→Option Nat):∀(l:List α),cG (l.filterMap f)=true→∀(i j:Nat) (x y:α) (d:Nat),l[i]? = some x→l[j]? = some y→f x=some d→f y=some d→i=j
 |[],_,i,j,x,y,d,hi,_,_,_=>by simp at hi
 |a::r,hn,i,j,x,y,d,hi,hj,hx,hy=>by
  have gI:∀(k:Nat) (z:α),r[k]? = some z→f z=some d→d∈r.filterMap f:=fun k z hk hz=>ad8.2 ⟨z,ab6 hk,hz⟩;have hr:cG (r.filterMap f)=true∧∀c,f a=some c→c∉r.filterMap f:=by
   rw[List.filterMap_cons]at hn
   split at hn
   ·rename_i h0;exact⟨hn,fun c hc=>by rw[h0]at hc;cases hc⟩
   ·rename_i c h0;simp only[cG,Bool.and_eq_true,Bool.not_eq_true']at hn;refine⟨hn.2,fun c' hc=>?_⟩;rw[h0]at hc;cases hc;intro hm;rw[List.contains_iff_mem.2 hm]at hn;simp at hn
  cases i with
  |zero =>
   cases j with
   |zero=>rfl
   |succ j =>simp only[List.getElem?_cons_zero,Option.some.injEq]at hi;subst hi;exact absurd (gI j y (by simpa using hj) hy) (hr.2 d hx)
  |succ i =>
   cases j with
   |zero =>simp only[List.getElem?_cons_zero,Option.some.injEq]at hj;subst hj;exact absurd (gI i x (by simpa using hi) hx) (hr.2 d hy)
   |succ j=>rw[xK f r hr.1 i j x y d (by simpa using hi) (by simpa using hj) hx hy]
structure Dr(P:Program)(Eqs:TypeId→Option K)(Sg:FuncId→Option aX)(F:(f:FuncId)→(g:aX)→g.A→Option g.B)(rid n:Nat)(ops:Array Oper)(b:Array Nat)(T:Nat→Nat→AV)(H:Nat→Hp)(E:Nat→Option bW):Prop where
 size:ops.size≤128
 SW:xf ops b=true
 pair:C6 ops b=true
 ajt:∀(i:Nat) (o:Oper),ops[i]? = some o→jx n o=true
 nodup:cG (ops.toList.filterMap (·.dst))=true
 step:∀k o,ops[k]? = some o→DS P Eqs Sg F rid ops b T H E k o
 aju:∀id,H 0 id≠none→id / 32768≠rid+1
section
variable {T:Nat→Nat→AV} {H:Nat→Hp} {E:Nat→Option bW}
theorem Dr.Cu(D:Dr P Eqs Sg F rid n ops b T H E){i j:Nat}{x y:Oper}{d:Nat}(hi:ops[i]? = some x)(hj:ops[j]? = some y)(hx:x.dst=some d)(hy:y.dst=some d):i=j :=xK (·.dst) ops.toList D.nodup i j x y d (by simpa using hi) (by simpa using hj) hx hy
theorem Dr.aag(D:Dr P Eqs Sg F rid n ops b T H E){i j:Nat}{x y:Oper}(hi:ops[i]? = some x)(hj:ops[j]? = some y)(Ck:i<j):uz b j i∨x.apart ops y=true:=by have h1:=ac3.1 D.pair j (adb.2 (abq.1 hj).1);have h2:=ac3.1 h1 i (adb.2 Ck);rw[hi,hj]at h2;simp only[Bool.or_eq_true,Bool.and_eq_true]at h2;exact h2
theorem Dr.Yl(D:Dr P Eqs Sg F rid n ops b T H E){k:Nat}{o:Oper}(ho:ops[k]? = some o){e:bW}(he:E k=some e) :
  ∃s hh,look s=T k∧(∀id,Heap.get hh id=if sR rid (b.getD k 0) id then H k id else none)∧(∃e0,dw P Eqs Sg F (opId rid k) (iX hh (iQ ops b k s o)) s o some=some e0∧e=iR (iQ ops b k s o) hh e0∧ns (iQ ops b k s o) e0=true) ∧
   iL true rid ops b k (b.getD k 0) e=true∧sf ops (T k) o true∧T (k+1)=jW (T k) o.dst e.v∧H (k+1)=e.hp (H k):=by
 rcases D.step k o ho with⟨e',s,hh,h1,h2⟩|⟨h1,_⟩
 ·rw[he]at h1;cases h1;exact⟨s,hh,h2⟩
 ·rw[he]at h1;cases h1
theorem Dr.IG(D:Dr P Eqs Sg F rid n ops b T H E){k:Nat}{o:Oper}(ho:ops[k]? = some o)(he:E k=none) :
  sf ops (T k) o false∧T (k+1)=jW (T k) o.dst (.pe [])∧H (k+1)=H k:=by
 rcases D.step k o ho with⟨e',s,hh,h1,h2⟩|⟨h1,h2⟩
 ·rw[he]at h1;cases h1
 ·exact h2
theorem Dr.zL(D:Dr P Eqs Sg F rid n ops b T H E){k:Nat}(hk:k<ops.size)(h:IsN E k):Nf ops k:=by
 obtain⟨v,os,he⟩:=h;obtain⟨s,hh,_,_,⟨e0,h3,ZW,_⟩,_⟩:=D.Yl (acn hk) he;refine⟨_,acn hk,?_,?_⟩
 ·cases hf:pj (ops[k]).op with
  |false=>rfl
  |true=>obtain⟨v',rfl⟩:=KA hf h3;cases ZW
 ·cases hf:iP (ops[k]).op with
  |none=>rfl
  |some x=>obtain⟨v',rfl⟩:=KH hf h3;cases ZW
theorem Dr.T3(D:Dr P Eqs Sg F rid n ops b T H E){k:Nat}(hk:k<ops.size)(h:Ct E k):Nf ops k:=by
 obtain⟨v,os,he⟩:=h;obtain⟨s,hh,_,_,⟨e0,h3,ZW,_⟩,_⟩:=D.Yl (acn hk) he;refine⟨_,acn hk,?_,?_⟩
 ·cases hf:pj (ops[k]).op with
  |false=>rfl
  |true=>obtain⟨v',rfl⟩:=KA hf h3;cases ZW
 ·cases hf:iP (ops[k]).op with
  |none=>rfl
  |some x=>obtain⟨v',rfl⟩:=KH hf h3;cases ZW
theorem Dr.DT(D:Dr P Eqs Sg F rid n ops b T H E){k j:Nat}(hk:k<ops.size)(h:Ct E k)(hj:Nf ops j)(bq:j≠k):(j<k∧uz b k j)∨(k<j∧uz b j k):=by
 obtain⟨v,os,he⟩:=h;obtain⟨s,hh,_,_,_,h4,_⟩:=D.Yl (acn hk) he;obtain⟨o,ho,hf,SS⟩:=hj;have MP:=(abq.1 ho).1;simp only[iL,Bool.and_eq_true]at h4;have h5:MY ops b k=true:=by simpa using h4.1.1
 have h6:=ac3.1 h5 j (adb.2 MP);have hlf:qd ops k j=false:=by unfold qd;rw[ho];simp only[Option.bind_some,SS]
 rw[hlf,ho]at h6;simp only[SS,Option.isSome_none,Bool.and_false,Bool.or_false]at h6;simp only[Bool.or_eq_true,beq_iff_eq,hf,Bool.false_eq_true,or_false]at h6;rcases h6 with(h6|h6)|h6
 ·exact absurd h6 bq
 ·exact .inr ⟨DR D.SW j k MP h6,h6⟩
 ·exact .inl ⟨DR D.SW k j hk h6,h6⟩
theorem Dr.DU(D:Dr P Eqs Sg F rid n ops b T H E){p:Nat}:∀(q:Nat),p≤q→q≤ops.size→∀id,(∀k,p≤k→k<q→Ct E k→H (k+1) id=H k id)→(∀k,p≤k→k<q→IsN E k→¬Of rid k id)→H q id=H p id:=by
 intro q
 induction q with
 |zero=>intro w8 _ id _ _;rw[Nat.le_zero.1 w8]
 |succ q ih =>
  intro w8 hq id hw bR;by_cases he:p=q+1
  ·rw[he]
  ·have h1:=ih (by omega) (by omega) id (fun k h1 h2=>hw k h1 (by omega)) (fun k h1 h2=>bR k h1 (by omega));rw[←h1];have ho:=acn (show q<ops.size by omega)
   cases hE:E q with
   |none=>rw[(D.IG ho hE).2.2]
   |some e =>
    obtain⟨s,hh,_,_,_,h4,_,_,h7⟩:=D.Yl ho hE
    cases e with
    |val v=>rw[h7];rfl
    |wr v h'=>exact hw q (by omega) (by omega) ⟨v,h',hE⟩
    |new v os =>
     rw[h7];simp only[bW.hp]
     cases SQ:Heap.get os id with
     |none=>rfl
     |some o' =>
      exfalso;simp only[iL,Bool.and_eq_true]at h4;refine bR q (by omega) (by omega) ⟨v,os,hE⟩ ?_;have:∀(l:Heap),(l.all fun p=>p.1 / 256==(rid+1)*128+q)=true→∀o',l.get id=some o'→Of rid q id:=by
       intro l
       induction l with
       |nil=>intro _ o' h;simp[Heap.get]at h
       |cons a r ihl =>
        intro fX o' hg;simp only[List.all_cons,Bool.and_eq_true,beq_iff_eq]at fX;simp only[Heap.get]at hg
        split at hg
        ·rename_i e;rw[←e];exact fX.1
        ·exact ihl fX.2 o' hg
      exact this os h4.1.2 o' SQ
theorem Dr.Cv(D:Dr P Eqs Sg F rid n ops b T H E){p:Nat}(q:Nat)(w8:p≤q)(hq:q≤ops.size)(hw:∀k,p≤k→k<q→¬Ct E k)(id:Nat)(hn:∀k,p≤k→k<q→IsN E k→¬Of rid k id):H q id=H p id :=D.DU q w8 hq id (fun k h1 h2 h3=>absurd h3 (hw k h1 h2)) hn
theorem Dr.names(D:Dr P Eqs Sg F rid n ops b T H E):∀(k:Nat),k≤ops.size→∀id,H k id≠none→id / 32768=rid+1→∃j,Of rid j id∧j<k∧j<128∧(IsN E j∨∃w,w<k∧Ct E w∧(j=w∨uz b w j)):=by
 intro k
 induction k with
 |zero=>intro _ id h1 h2;exact absurd h2 (D.aju id h1)
 |succ k ih =>
  intro hk id h1 h2;have aG:k<ops.size:=by omega
  have up:H k id≠none→∃j,Of rid j id∧j<k+1∧j<128∧(IsN E j∨∃w,w<k+1∧Ct E w∧(j=w∨uz b w j)):=fun h=>by obtain⟨j,h3,h4,h4',h5⟩:=ih (by omega) id h h2;exact⟨j,h3,by omega,h4',h5.imp (fun h=>h) fun⟨w,h6,h7⟩=>⟨w,by omega,h7⟩⟩
  have ho:=acn aG;have T4:=D.size
  cases hE:E k with
  |none=>rw[(D.IG ho hE).2.2]at h1;exact up h1
  |some e =>
   obtain⟨s,hh,_,_,_,h4,_,_,h7⟩:=D.Yl ho hE;rw[h7]at h1
   cases e with
   |val v=>exact up h1
   |wr v h' =>
    obtain⟨o',pG⟩:=abN.1 h1;simp only[iL,Bool.and_eq_true]at h4;have h5:(b.getD k 0 ||| 2 ^ k).testBit (id / 256%128)=true:=(nP (S:=fun j=>(b.getD k 0 ||| 2 ^ k).testBit j=true) (fun j hj=>hj) h4.2 id o' pG).1 h2;rw[Nat.testBit_or,Bool.or_eq_true,Nat.testBit_two_pow]at h5;refine⟨id / 256%128,Of.of h2 rfl,?_,by omega,.inr ⟨k,by omega,⟨v,h',hE⟩,?_⟩⟩
    ·rcases h5 with h5|h5
     ·have:=DR D.SW k _ aG h5;omega
     ·have:=of_decide_eq_true h5;omega
    ·rcases h5 with h5|h5
     ·exact .inr h5
     ·exact .inl (of_decide_eq_true h5).symm
   |new v os =>
    simp only[bW.hp]at h1
    cases SQ:Heap.get os id with
    |none=>rw[SQ]at h1;exact up h1
    |some o' =>
     simp only[iL,Bool.and_eq_true]at h4;have:∀(l:Heap),(l.all fun p=>p.1 / 256==(rid+1)*128+k)=true→∀o',l.get id=some o'→Of rid k id:=by
      intro l
      induction l with
      |nil=>intro _ o' h;simp[Heap.get]at h
      |cons a r ihl =>
       intro fX o' hg;simp only[List.all_cons,Bool.and_eq_true,beq_iff_eq]at fX;simp only[Heap.get]at hg
       split at hg
       ·rename_i e;rw[←e];exact fX.1
       ·exact ihl fX.2 o' hg
     exact⟨k,this os h4.1.2 o' SQ,by omega,by omega,.inl ⟨v,os,hE⟩⟩
theorem Dr.abz(D:Dr P Eqs Sg F rid n ops b T H E){q:Nat}(pM:q<ops.size)(Ym:Ct E q):∀id,H q id≠none→oF rid (uz b q) id:=fun id bq T5=>by
 obtain⟨j,h1,h2,h2',h3⟩:=D.names q (by omega) id bq T5;rw[(h1.parts h2').2];rcases h3 with h3|⟨w',h5,h6,h8⟩
 ·rcases D.DT pM Ym (D.zL (by omega) h3) (by omega) with⟨_,h9⟩|⟨h9,_⟩
  ·exact h9
  ·omega
 ·have SX:uz b q w':=by
   rcases D.DT pM Ym (D.T3 (by omega) h6) (by omega) with⟨_,h9⟩|⟨h9,_⟩
   ·exact h9
   ·omega
  rcases h8 with rfl|h8
  ·exact SX
  ·exact G8 D.SW q w' j pM SX h8
theorem Dr.zM(D:Dr P Eqs Sg F rid n ops b T H E){d p:Nat}:∀(q:Nat),p≤q→q≤ops.size→(∀m o,p≤m→m<q→ops[m]? = some o→o.dst≠some d)→T q d=T p d
 |0,h,_,_=>by rw[Nat.le_zero.1 h]
 |q+1,h,hq,hm=>by
  by_cases e:p=q+1
  ·rw[e]
  ·have ho:=acn (show q<ops.size by omega);have ih:=D.zM q (by omega) (by omega) fun m o h1 h2=>hm m o h1 (by omega);rw[←ih];have hd:=hm q _ (by omega) (by omega) ho;have key:∀v,jW (T q) (ops[q]).dst v d=T q d:=fun v=>by
    cases mq:(ops[q]).dst with
    |none=>rfl
    |some d' =>simp only[jW,fq];rw[if_neg];rintro rfl;exact hd mq
   rcases D.step q _ ho with⟨e,s,hh,_,_,_,_,_,_,h7,_⟩|⟨_,_,h3,_⟩
   ·rw[h7,key]
   ·rw[h3,key]
theorem Dr.steady(D:Dr P Eqs Sg F rid n ops b T H E){i k:Nat}{o:Oper}{x:Operand}(ho:ops[i]? = some o)(hl:iP o.op=some x)(hk:k<ops.size)(hw:Ct E k)(bq:i≠k)(h1:¬uz b i k)(h2:¬uz b k i) {s:List (Nat×AV)} (hs:look s=T i) (zN:ua ops b i s o=false) {id:Nat} (bR:id∈r8 (ρ s x)):H (k+1) id=H k id:=by
 have pM:=(abq.1 ho).1;obtain⟨v,h',hE⟩:=hw;have nE:=acn hk;obtain⟨sk,hh,T6,Yn,⟨e0,ZW,u5,uf⟩,h4,_,_,h7⟩:=D.Yl nE hE;simp only[iL,Bool.and_eq_true]at h4;have h5:MY ops b k=true:=by simpa using h4.1.1
 have h6:=ac3.1 h5 i (adb.2 pM);rw[ho,nE]at h6;have b1:(b.getD i 0).testBit k=false:=Bool.eq_false_iff.2 h1;have b2:(b.getD k 0).testBit i=false:=Bool.eq_false_iff.2 h2;have b3:(i==k)=false:=by simp[bq]
 simp only[b1,b2,b3,(zK hl).1,Bool.false_or,Bool.and_eq_true]at h6;obtain⟨zO,h8⟩:=h6;have Pe:qd ops k i=true:=by
  simp only[Bool.or_eq_true,Bool.and_eq_true]at h8;rcases h8 with h8|⟨h8,_⟩
  ·exact h8
  unfold ua at zN;rw[hl]at zN;simp only[h8,Bool.true_and]at zN;have Dg:(r8 (ρ s x)).isEmpty=false:=by cases hq:r8 (ρ s x) with
   |nil=>rw[hq]at bR;cases bR
   |cons _ _=>rfl
  simp only[Dg,Bool.not_false,Bool.true_and,Bool.not_eq_false']at zN;have h9:=ac3.1 zN k (adb.2 hk);rw[nE]at h9;have b4:(k==i)=false:=by simp[Ne.symm bq]
  simpa only[b1,b2,b4,zO,Bool.not_true,Bool.false_or] using h9
 have hft:iQ ops b k sk ops[k]=abc ops b k sk:=by unfold iQ;rw[if_pos zO]
 have pV:ρ sk x=ρ s x:=by
  cases x with
  |tmp d =>
   simp only[ρ,T6,hs];unfold qd at Pe;rw[ho]at Pe;simp only[Option.bind_some,hl]at Pe;have hm:∀m o',min k i≤m→m<max k i→ops[m]? = some o'→o'.dst≠some d:=fun m o' g1 g2 g3 hd=>by have g4:=ac3.1 Pe m (adb.2 (by omega));rw[g3]at g4;simp[hd,g1,g2]at g4
   rcases ady i k with g|g
   ·exact D.zM k (by omega) (by omega) fun m o' g1 g2=>hm m o' (by omega) (by omega)
   ·exact(D.zM i (by omega) (by omega) fun m o' g1 g2=>hm m o' (by omega) (by omega)).symm
  |_=>rfl
 have gI:id∈iQ ops b k sk ops[k]:=by rw[hft];unfold abc;refine List.mem_flatMap.2 ⟨i,adb.2 pM,?_⟩;rw[b1,b2,b3,ho];simp only[Bool.or_self,Bool.false_eq_true,if_false,Option.bind_some,hl];rw[pV];exact bR
 cases e0 with
 |val v0=>cases u5
 |new v0 os=>cases u5
 |wr v0 XB =>
  cases u5
  simp only[ns,Bool.and_eq_true]at uf;have hn:XB.get id=none:=by
   cases e:XB.get id with
   |none=>rfl
   |some ob=>exact absurd gI (lP uf.2 id ob e).1
  rw[h7];show(gD _ hh XB).get id=H k id;rw[lN,if_pos gI,hn,Yn id]
  cases ajx:H k id with
  |none=>simp
  |some ob =>
   have h8:=D.abz hk ⟨_,_,hE⟩ id (by rw[ajx];simp);have h9:sR rid (b.getD k 0) id=true:=by
    unfold sR;by_cases hr:id / 32768=rid+1
    ·have:=h8 hr;unfold uz at this;rw[this];simp
    ·simp[hr]
   rw[if_pos h9]
end
end Go.Vs
namespace Go.Vs
variable {P:Program} {Eqs:TypeId→Option K} {Sg:FuncId→Option aX} {F:(f:FuncId)→(g:aX)→g.A→Option g.B} {R:Type}
variable {Z Z' Z0:Nat→Prop} {ψ ψ' ψ0:Nat→Value} {h h':Hp} {w w' w0:World} {B0:Nat} {O N:Nat→Prop}
variable {rid n:Nat} {ops:Array Oper} {b:Array Nat} {T:Nat→Nat→AV} {H:Nat→Hp} {E:Nat→Option bW}
structure Dj(rid:Nat)(ops:Array Oper)(b:Array Nat)(T:Nat→Nat→AV)(H:Nat→Hp)(E:Nat→Option bW)(S:Nat→Prop)(Tc:Nat→AV)(h:Hp):Prop where
 lt:∀i,S i→i<ops.size
 closed:∀i j,S i→uz b i j→S j
 heap:∃q,q≤ops.size∧(∀k,k<q→Ct E k→S k)∧(q<ops.size→Ct E q∧¬S q)∧∀id,(oF rid S id→h id=H q id)∧(¬oF rid S id→h id=none)
 T7:∀j o d,S j→ops[j]? = some o→o.dst=some d→Tc d=T (j+1) d
 told:∀d,(∀j o,S j→ops[j]? = some o→o.dst≠some d)→Tc d=T 0 d
theorem Dr.T8(D:Dr P Eqs Sg F rid n ops b T H E){k:Nat}{o:Oper}(ho:ops[k]? = some o){d:Nat}(hd:o.dst≠some d):T (k+1) d=T k d:=by
 have:∀v,jW (T k) o.dst v d=T k d:=fun v=>by
  cases mq:o.dst with
  |none=>rfl
  |some d' =>simp only[jW,fq];rw[if_neg];rintro rfl;exact hd mq
 rcases D.step k o ho with⟨e,s,hh,_,_,_,_,_,_,h7,_⟩|⟨_,_,h3,_⟩
 ·rw[h7,this]
 ·rw[h3,this]
theorem Dr.xL(D:Dr P Eqs Sg F rid n ops b T H E){d:Nat}:∀(i:Nat),i≤ops.size→(∀k o,k<i→ops[k]? = some o→o.dst≠some d)→T i d=T 0 d
 |0,_,_=>rfl
 |i+1,hi,hk=>by rw[D.T8 (Array.getElem?_eq_getElem (show i<ops.size by omega)) (hk i _ (by omega) (Array.getElem?_eq_getElem (by omega)))];exact D.xL i (by omega) fun k o h1 h2=>hk k o (by omega) h2
theorem Dr.IH(D:Dr P Eqs Sg F rid n ops b T H E){d j:Nat}{oj:Oper}(hj:ops[j]? = some oj)(hd:oj.dst=some d):∀(i:Nat),i≤ops.size→j<i→T i d=T (j+1) d
 |0,_,h=>by omega
 |i+1,hi,h=>by
  by_cases e:j=i
  ·rw[e]
  ·have ho:=acn (show i<ops.size by omega);rw[D.T8 ho (fun hdi=>e (D.Cu hj ho hd hdi))];exact D.IH hj hd i (by omega) (by omega)
theorem Dr.looks(D:Dr P Eqs Sg F rid n ops b T H E){S:Nat→Prop}{Tc:Nat→AV}(dj:Dj rid ops b T H E S Tc h){i:Nat}{o:Oper}(ho:ops[i]? = some o)(hS:¬S i)(hb:∀j,uz b i j→S j){d:Nat}(hd:d∈o.looksAt ops):Tc d=T i d:=by
 have hi:=(abq.1 ho).1;by_cases hex:∃(j:Nat) (oj:Oper),ops[j]? = some oj∧oj.dst=some d
 ·obtain⟨j,oj,hj,hdj⟩:=hex;have dr:¬S j→Tc d=T 0 d:=fun hn=>dj.told d fun j' o' hs pG T9=>hn (by rw[D.Cu hj pG hdj T9];exact hs);have SW:i≤j→T i d=T 0 d:=fun Ck=>D.xL i (by omega) fun k o' hk pG T9=>by have:=D.Cu hj pG hdj T9;omega
  rcases Nat.lt_trichotomy j i with aG|rfl|MT
  ·rcases D.aag hj ho aG with h1|h1
   ·rw[dj.T7 j oj d (hb j h1) hj hdj,D.IH hj hdj i (by omega) aG]
   ·exact absurd hd ((Oper.apart_spec h1).1 d hdj)
  ·rw[dr hS,SW (Nat.le_refl _)]
  ·rcases D.aag ho hj MT with h1|h1
   ·rw[dr (fun hs=>hS (dj.closed j i hs h1)),SW (by omega)]
   ·exact absurd hd ((Oper.apart_spec h1).2.2 d hdj)
 ·rw[dj.told d fun j o' _ pG T9=>hex ⟨j,o',pG,T9⟩,D.xL i (by omega) fun k o' _ pG T9=>hex ⟨k,o',pG,T9⟩]
theorem Dr.Ua{S:Nat→Prop}{Tc:Nat→AV}(D:Dr P Eqs Sg F rid n ops b T H E)(dj:Dj rid ops b T H E S Tc h){i:Nat}{o:Oper}(ho:ops[i]? = some o)(hS:¬S i){v:AV}(hv:T (i+1)=jW (T i) o.dst v) :
  (∀j o' d,(S j∨j=i)→ops[j]? = some o'→o'.dst=some d→jW Tc o.dst v d=T (j+1) d)∧(∀d,(∀j o',(S j∨j=i)→ops[j]? = some o'→o'.dst≠some d)→jW Tc o.dst v d=T 0 d):=by
 constructor
 ·intro j o' d hj pG hd;rcases hj with hj|rfl
  ·have bq:j≠i:=fun e=>hS (e▸hj);have:jW Tc o.dst v d=Tc d:=by
    cases mq:o.dst with
    |none=>rfl
    |some d' =>simp only[jW,fq];rw[if_neg];rintro rfl;exact bq (D.Cu pG ho hd mq)
   rw[this];exact dj.T7 j o' d hj pG hd
  ·rw[ho]at pG;cases pG;rw[hv,hd];simp[jW,fq]
 ·intro d hd;have:jW Tc o.dst v d=Tc d:=by
   cases mq:o.dst with
   |none=>rfl
   |some d' =>simp only[jW,fq];rw[if_neg];rintro rfl;exact hd i o (.inr rfl) ho mq
  rw[this];exact dj.told d fun j o' hj=>hd j o' (.inl hj)
theorem xM{i k id:Nat}(h1:Of rid i id)(h2:Of rid k id):i=k:=by unfold Of at h1 h2;omega
section
variable {S:Nat→Prop} {Tc:Nat→AV}
theorem Dr.calm(D:Dr P Eqs Sg F rid n ops b T H E)(dj:Dj rid ops b T H E S Tc h){i q:Nat}(hi:Nf ops i)(hS:¬S i)(hq:q≤ops.size)(hw:∀k,k<q→Ct E k→S k):∀k,i≤k→k<q→¬Ct E k:=by
 intro k hik hkq hk;have T6:=hw k hkq hk;have bq:i≠k:=fun e=>hS (e▸T6);rcases D.DT (by omega) hk hi bq with⟨_,h1⟩|⟨h1,_⟩
 ·exact hS (dj.closed k i T6 h1)
 ·omega
theorem Dr.seen(D:Dr P Eqs Sg F rid n ops b T H E)(dj:Dj rid ops b T H E S Tc h){i:Nat}(hi:Nf ops i)(hS:¬S i)(hb:∀j,uz b i j→S j){hh:Heap}(Yn:∀id,Heap.get hh id=if sR rid (b.getD i 0) id then H i id else none) :
  ∀id o,hh.get id=some o→h id=some o:=by
 obtain⟨q,hq,hw,jO,gM⟩:=dj.heap;have pM:i<ops.size:=by obtain⟨o,ho,hf1,hf2⟩:=hi;exact(abq.1 ho).1
 have hiq:i≤q:=by
  rcases ady q i with h1|h1
  ·obtain⟨h2,h3⟩:=jO (by omega);rcases D.DT (by omega) h2 hi (by omega) with⟨h4,_⟩|⟨_,h4⟩
   ·omega
   ·exact absurd (hb q h4) h3
  ·exact h1
 intro id o bR;rw[Yn]at bR
 split at bR
 ·rename_i nE;have oE:oF rid S id:=qk hb nE;rw[(gM id).1 oE,D.Cv q hiq hq (D.calm dj hi hS hq hw) id fun k hk _ _ ho=>?_,bR];have T5:=(ho.parts (by have:=D.size;omega)).1;obtain⟨j,h1,h2,_⟩:=D.names i (by omega) id (by rw[bR];simp) T5;have:=xM h1 ho;omega
 ·cases bR
theorem Dr.Rr(D:Dr P Eqs Sg F rid n ops b T H E)(dj:Dj rid ops b T H E S Tc h){i:Nat}{o:Oper}{x:Operand}(ho:ops[i]? = some o)(hl:iP o.op=some x)(hS:¬S i)(hb:∀j,uz b i j→S j){s:List (Nat×AV)}(hs:look s=T i)(zN:ua ops b i s o=false) {hh:Heap} (Yn:∀id,Heap.get hh id=if sR rid (b.getD i 0) id then H i id else none):∀id∈r8 (ρ s x),∀ob,hh.get id=some ob→h id=some ob:=by
 obtain⟨q,hq,hw,jO,gM⟩:=dj.heap;have pM:=(abq.1 ho).1;have T4:=D.size;intro id bR ob oD;rw[Yn]at oD
 split at oD
 ·rename_i nE;have oE:oF rid S id:=qk hb nE;rw[(gM id).1 oE,←oD];rcases ady q i with hqi|hiq
  ·obtain⟨h2,h3⟩:=jO (by omega);have later:∀k,q<k→k<ops.size→Nf ops k→uz b k q:=fun k h4 h5 h6=>by
    rcases D.DT (by omega) h2 h6 (by omega) with⟨h7,_⟩|⟨_,h7⟩
    ·omega
    ·exact h7
   have aed:∀k,q≤k→k<i→Nf ops k→¬S k:=fun k h4 h5 h6 hk=>by
    rcases Nat.eq_or_lt_of_le h4 with e|h7
    ·exact h3 (e▸hk)
    ·exact h3 (dj.closed k q hk (later k h7 (by omega) h6))
   symm
   refine D.DU i (by omega) (by omega) id (fun k h4 h5 h6=>?_) (fun k h4 h5 h6 h7=>?_)
   ·have hns:=aed k h4 h5 (D.T3 (by omega) h6);exact D.steady ho hl (by omega) h6 (by omega) (fun Nz=>hns (hb k Nz)) (fun Nz=>by have:=DR D.SW k i (by omega) Nz;omega) hs zN bR
   ·have hns:=aed k h4 h5 (D.zL (by omega) h6);have h8:=h7.parts (show k<128 by omega);have h9:=oE h8.1;rw[h8.2]at h9;exact hns h9
  ·refine D.DU q hiq hq id (fun k h4 h5 h6=>?_) (fun k h4 h5 h6 h7=>?_)
   ·have T6:=hw k h5 h6;have bq:i≠k:=fun e=>hS (e▸T6);exact D.steady ho hl (by omega) h6 bq (fun Nz=>by have:=DR D.SW i k pM Nz;omega) (fun Nz=>hS (dj.closed k i T6 Nz)) hs zN bR
   ·obtain⟨j,h8,h9,_⟩:=D.names i (by omega) id (by rw[oD];simp) (h7.parts (by omega)).1;have:=xM h8 h7;omega
 ·cases oD
theorem Ub(E:Nat→Option bW)(S:Nat→Prop)(m:Nat):∃q,q≤m∧(∀k,k<q→Ct E k→S k)∧(q<m→Ct E q∧¬S q):=by
 classical
 induction m with
 |zero=>exact⟨0,ack _,fun k hk=>by omega,fun h=>by omega⟩
 |succ m ih =>
  obtain⟨q,h1,h2,h3⟩:=ih;by_cases hq:q<m
  ·exact⟨q,by omega,h2,fun _=>h3 hq⟩
  ·have:q=m:=by omega
   subst this;by_cases hm:Ct E q∧¬S q
   ·exact⟨q,by omega,h2,fun _=>hm⟩
   ·refine⟨q+1,by omega,fun k hk hw=>?_,fun h=>by omega⟩;rcases ady k q with h4|h4
    ·exact h2 k h4 hw
    ·have:k=q:=by omega
     subst this;exact Classical.not_not.1 fun hn=>hm ⟨hw,hn⟩
theorem DV{i id:Nat}(hi:i<128):oF rid (fun k=>S k∨k=i) id↔oF rid S id∨Of rid i id:=by
 constructor
 ·intro h1;by_cases hr:id / 32768=rid+1
  ·rcases h1 hr with h2|h2
   ·exact .inl fun _=>h2
   ·exact .inr (Of.of hr h2)
  ·exact .inl fun h=>absurd h hr
 ·rintro(h1|h1) h2
  ·exact .inl (h1 h2)
  ·exact .inr (h1.parts hi).2
theorem Dr.KI(D:Dr P Eqs Sg F rid n ops b T H E)(dj:Dj rid ops b T H E S Tc h){i:Nat}(pM:i<ops.size)(hS:¬S i)(hnn:¬IsN E i)(hnw:¬Ct E i) :
  ∃q,q≤ops.size∧(∀k,k<q→Ct E k→S k∨k=i)∧(q<ops.size→Ct E q∧¬(S q∨q=i))∧∀id,(oF rid (fun k=>S k∨k=i) id→h id=H q id)∧(¬oF rid (fun k=>S k∨k=i) id→h id=none):=by
 obtain⟨q,hq,hw,jO,gM⟩:=dj.heap;have T4:=D.size;refine⟨q,hq,fun k h1 h2=>.inl (hw k h1 h2),fun h1=>⟨(jO h1).1,fun h2=>h2.elim (jO h1).2 fun e=>hnw (e▸(jO h1).1)⟩,fun id=>⟨fun h1=>?_,fun h1=>(gM id).2 fun h2=>h1 ((DV (by omega)).2 (.inl h2))⟩⟩;rcases (DV (S:=S) (i:=i) (rid:=rid) (by omega)).1 h1 with h2|h2
 ·exact(gM id).1 h2
 ·have hn:¬oF rid S id:=fun h3=>h3.DM (by omega) hS h2;rw[(gM id).2 hn]
  symm
  apply Classical.not_not.1;intro bq;obtain⟨j,h3,_,_,h4⟩:=D.names q hq id bq (h2.parts (by omega)).1;have:=xM h3 h2;subst this;rcases h4 with h4|⟨w',h5,h6,h7|h7⟩
  ·exact hnn h4
  ·exact hnw (h7▸h6)
  ·exact hS (dj.closed w' _ (hw w' h5 h6) h7)
theorem Yo{os:Heap}{i:Nat}(fX:(os.all fun p=>p.1 / 256==(rid+1)*128+i)=true):∀id o,os.get id=some o→Of rid i id:=by
 induction os with
 |nil=>intro id o h;simp[Heap.get]at h
 |cons a r ih =>
  intro id o hg;simp only[List.all_cons,Bool.and_eq_true,beq_iff_eq]at fX;simp only[Heap.get]at hg
  split at hg
  ·rename_i e;rw[←e];exact fX.1
  ·exact ih fX.2 id o hg
theorem Dr.Uc(D:Dr P Eqs Sg F rid n ops b T H E)(dj:Dj rid ops b T H E S Tc h){i:Nat}{o:Oper}(ho:ops[i]? = some o)(hS:¬S i)(hb:∀j,uz b i j→S j){v:AV}{os:Heap}(hE:E i=some (.new v os)) :
  ∃q,q≤ops.size∧(∀k,k<q→Ct E k→S k∨k=i)∧(q<ops.size→Ct E q∧¬(S q∨q=i))∧∀id,(oF rid (fun k=>S k∨k=i) id→(bW.new v os).hp h id=H q id)∧(¬oF rid (fun k=>S k∨k=i) id→(bW.new v os).hp h id=none):=by
 obtain⟨q,hq,hw,jO,gM⟩:=dj.heap;have T4:=D.size;have pM:=(abq.1 ho).1;have hnw:¬Ct E i:=fun⟨v',h',h1⟩=>by rw[hE]at h1;cases h1
 have hnf:=D.zL pM ⟨v,os,hE⟩;obtain⟨s,hh,_,_,_,h4,_,_,h7⟩:=D.Yl ho hE;simp only[iL,Bool.and_eq_true]at h4;have vZ:=Yo (rid:=rid) h4.1.2;have hiq:i<q:=by
  rcases ady i q with h1|h1
  ·exact h1
  ·obtain⟨h2,h3⟩:=jO (by omega);have bq:i≠q:=fun e=>hnw (e▸h2);rcases D.DT (by omega) h2 hnf bq with⟨h4,_⟩|⟨_,h4⟩
   ·omega
   ·exact absurd (hb q h4) h3
 refine⟨q,hq,fun k h1 h2=>.inl (hw k h1 h2),fun h1=>⟨(jO h1).1,fun h2=>h2.elim (jO h1).2 fun e=>hnw (e▸(jO h1).1)⟩,fun id=>⟨fun h1=>?_,fun h1=>?_⟩⟩
 ·simp only[bW.hp];by_cases h2:Of rid i id
  ·have hn:¬oF rid S id:=fun h3=>h3.DM (by omega) hS h2;have e1:H i id=none:=Classical.not_not.1 fun bq=>by obtain⟨j,h3,h4,_⟩:=D.names i (by omega) id bq (h2.parts (by omega)).1;have:=xM h3 h2;omega
   have e2:H (i+1) id=Heap.get os id:=by rw[h7];simp only[bW.hp];rw[e1];cases Heap.get os id<;>rfl
   have e3:H q id=H (i+1) id:=D.Cv q hiq hq (fun k h3 h4=>D.calm dj hnf hS hq hw k (by omega) h4) id fun k h3 _ _ h5=>by have:=xM h5 h2;omega
   rw[e3,e2,(gM id).2 hn];cases Heap.get os id<;>rfl
  ·have h3:oF rid S id:=((DV (by omega)).1 h1).resolve_right h2
   cases SQ:Heap.get os id with
   |some o'=>exact absurd (vZ id o' SQ) h2
   |none=>exact(gM id).1 h3
 ·have h2:¬oF rid S id:=fun h2=>h1 ((DV (by omega)).2 (.inl h2));have h3:¬Of rid i id:=fun h2=>h1 ((DV (by omega)).2 (.inr h2));simp only[bW.hp]
  cases SQ:Heap.get os id with
  |some o'=>exact absurd (vZ id o' SQ) h3
  |none=>exact(gM id).2 h2
theorem Dr.Yp(D:Dr P Eqs Sg F rid n ops b T H E)(dj:Dj rid ops b T H E S Tc h){i:Nat}{o:Oper}(ho:ops[i]? = some o)(hS:¬S i)(hb:∀j,uz b i j→S j){v:AV}{h':Heap}(hE:E i=some (.wr v h')) :
  (∀hh:Heap,(∀id,hh.get id=if sR rid (b.getD i 0) id then H i id else none)→hh.get=h) ∧
  ∃q,q≤ops.size∧(∀k,k<q→Ct E k→S k∨k=i)∧(q<ops.size→Ct E q∧¬(S q∨q=i))∧∀id,(oF rid (fun k=>S k∨k=i) id→h'.get id=H q id)∧(¬oF rid (fun k=>S k∨k=i) id→h'.get id=none):=by
 obtain⟨q,hq,hw,jO,gM⟩:=dj.heap;have T4:=D.size;have pM:=(abq.1 ho).1;have Ym:Ct E i:=⟨v,h',hE⟩;have hnf:=D.T3 pM Ym;obtain⟨s,hh0,_,_,_,h4,_,_,h7⟩:=D.Yl ho hE;simp only[iL,Bool.and_eq_true]at h4;have hqi:q=i:=by
  rcases Nat.lt_trichotomy q i with h1|h1|h1
  ·obtain⟨h2,h3⟩:=jO (by omega);rcases D.DT pM Ym (D.T3 (by omega) h2) (by omega) with⟨_,h5⟩|⟨h5,_⟩
   ·exact absurd (hb q h5) h3
   ·omega
  ·exact h1
  ·exact absurd (hw i h1 Ym) hS
 subst hqi;have own:∀id,H q id≠none→oF rid (uz b q) id:=fun id bq T5=>by
  obtain⟨j,h1,h2,h2',h3⟩:=D.names q hq id bq T5;rw[(h1.parts h2').2];rcases h3 with h3|⟨w',h5,h6,h8⟩
  ·rcases D.DT pM Ym (D.zL (by omega) h3) (by omega) with⟨_,h9⟩|⟨h9,_⟩
   ·exact h9
   ·omega
  ·have SX:uz b q w':=by
    rcases D.DT pM Ym (D.T3 (by omega) h6) (by omega) with⟨_,h9⟩|⟨h9,_⟩
    ·exact h9
    ·omega
   rcases h8 with rfl|h8
   ·exact SX
   ·exact G8 D.SW q w' j pM SX h8
 refine⟨fun hh Yn=>?_,?_⟩
 ·funext id;rw[Yn id]
  cases bR:H q id with
  |none =>
   have:h id=none:=by
    by_cases h1:oF rid S id
    ·rw[(gM id).1 h1,bR]
    ·exact(gM id).2 h1
   rw[this];split<;>rfl
  |some ob =>
   have h1:=own id (by rw[bR];simp);have h2:oF rid S id:=fun hr=>hb _ (h1 hr);have h3:sR rid (b.getD q 0) id=true:=by
    unfold sR;by_cases hr:id / 32768=rid+1
    ·have:=h1 hr;unfold uz at this;rw[this];simp
    ·simp[hr]
   rw[h3,(gM id).1 h2,bR];rfl
 ·obtain⟨q',h1,h2,h3⟩:=Ub E (fun k=>S k∨k=q) ops.size;have hge:q+1≤q':=by
   rcases ady q q' with h5|h5
   ·exact h5
   ·obtain⟨h6,h8⟩:=h3 (by omega);rcases ady q' q with h9|h9
    ·exact absurd (.inl (hw q' h9 h6)) h8
    ·exact absurd (.inr (by omega)) h8
  have e1:H (q+1)=h'.get:=by rw[h7];rfl
  have zt:∀j,(b.getD q 0 ||| 2 ^ q).testBit j=true→S j∨j=q:=fun j hj=>by rw[Nat.testBit_or,Bool.or_eq_true,Nat.testBit_two_pow]at hj;exact hj.imp (hb j) (fun h=>(of_decide_eq_true h).symm)
  refine⟨q',h1,h2,h3,fun id=>⟨fun h5=>?_,fun h5=>?_⟩⟩
  ·rw[D.Cv q' hge h1 (fun k h6 h8 h9=>?_) id (fun k h6 h8 h9 oC=>?_),e1]
   ·have hk:=h2 k h8 h9;have T6:S k:=hk.resolve_right (by omega);rcases D.DT (by omega) h9 hnf (by omega) with⟨_,BW⟩|⟨BW,_⟩
    ·exact hS (dj.closed k q T6 BW)
    ·omega
   ·have hk:=h5 (oC.parts (by omega)).1;rw[(oC.parts (by omega)).2]at hk;have T6:S k:=hk.resolve_right (by omega);rcases D.DT pM Ym (D.zL (by omega) h9) (by omega) with⟨BW,_⟩|⟨_,BW⟩
    ·omega
    ·exact hS (dj.closed k q T6 BW)
  ·cases bR:h'.get id with
   |none=>rfl
   |some ob=>exact absurd ((nP zt h4.2 id ob bR).1) h5
end
section
variable {S:Nat→Prop} {Tc:Nat→AV}
theorem Gj{o:Oper}{d:Nat}(h:Operand.tmp d∈o.op.operands):d∈o.looksAt ops :=abi _ (ad8.2 ⟨.tmp d,by simpa using h,rfl⟩)
theorem KJ{o:Oper}{j d:Nat}{want:Bool}(hg:o.guard=some (j,want))(hd:(ops[j]?).bind (·.dst)=some d):d∈o.looksAt ops:=by unfold Oper.looksAt;rw[hg];exact abg _ (by simp only[hd];simp)
theorem Dr.wanted(D:Dr P Eqs Sg F rid n ops b T H E)(dj:Dj rid ops b T H E S Tc h){a:Act}{i:Nat}{o:Oper}(ho:ops[i]? = some o)(hS:¬S i)(hb:∀j,uz b i j→S j)(t:dn Z ψ h w n Tc a){c:Bool}(hw:sf ops (T i) o c) :
  Region.wanted o (yielded ops a.tmps)=c:=by
 unfold sf at hw
 split at hw
 ·rename_i hg;rw[hw];simp[Region.wanted,hg]
 ·rename_i j want hg;obtain⟨d,hd,hc⟩:=hw;have e:=D.looks dj ho hS hb (KJ hg hd);rcases hc with⟨u,h1,h2⟩|⟨vs,h1,h2⟩
  ·rw[DN t hg hd (e.trans h1),h2]
  ·rw[Bp t hg hd (e.trans h1),h2]
theorem Dr.NA(D:Dr P Eqs Sg F rid n ops b T H E)(V:Env P Eqs Sg F){i:Nat}{o:Oper}{a:Act}(ho:ops[i]? = some o)(hS:¬S i)(hb:∀j,uz b i j→S j)(dj:Dj rid ops b T H E S Tc h)(j:J (oF rid S) n Z0 w0 O ψ0 Z ψ Tc h a w) {K:Act→World→Prop} {Q:Exit→Act→World→Prop} (hk:∀Tc' h' a' w' Z' ψ',Dj rid ops b T H E (fun k=>S k∨k=i) Tc' h'→J (oF rid fun k=>S k∨k=i) n Z0 w0 O ψ0 Z' ψ' Tc' h' a' w'→K a' w'):wpOp P ops Q i K a w:=by
 have pM:=(abq.1 ho).1;have T4:=D.size;have XK:=D.ajt i o ho;have aG:∀k,(S k∨k=i)→k<ops.size:=fun k hk=>hk.elim (dj.lt k) (fun e=>e▸pM);have M7:∀k j,(S k∨k=i)→uz b k j→S j∨j=i:=fun k j hk hj=>.inl (hk.elim (fun h=>dj.closed k j h hj) (fun e=>hb j (e▸hj)));unfold wpOp;rw[ho];simp only[]
 cases hE:E i with
 |none =>obtain⟨h1,h2,h3⟩:=D.IG ho hE;rw[D.wanted dj ho hS hb j.tr h1];simp only[Bool.false_eq_true,if_false];obtain⟨t1,t2⟩:=D.Ua dj ho hS h2;refine hk _ h _ w Z ψ ⟨aG,M7,D.KI dj pM hS (fun⟨v,os,h⟩=>by rw[hE]at h;cases h) (fun⟨v,os,h⟩=>by rw[hE]at h;cases h),t1,t2⟩ (j.skip XK fun id hp hr=>.inl (hp hr))
 |some e =>
  obtain⟨s,hh,h1,h2,h3,h4,h5,h6,h7⟩:=D.Yl ho hE;rw[D.wanted dj ho hS hb j.tr h5];simp only[if_true];refine .inl ?_;obtain⟨t1,t2⟩:=D.Ua dj ho hS h6;have hT:∀x∈o.op.operands,aD Z ψ h w (ρ s x) (a.eval x)∧aQ (oF rid S) (ρ s x):=fun x hx=>by
   cases x with
   |tmp d =>
    have e1:look s d=Tc d:=by rw[h1];exact(D.looks dj ho hS hb (Gj hx)).symm
    simp only[ρ,e1];exact⟨j.tr.rep d,j.tm d⟩
   |const v=>exact⟨Kf v,DL _ v⟩
   |global g=>exact⟨by simp only[ρ,aD],by simp only[ρ,aQ]⟩
   |func f=>exact⟨by simp only[ρ,aD,ax,Act.eval];exact⟨#[],rfl,rfl⟩,by simp only[ρ,aQ,aJ]⟩
  have qm:=DP (hh:=[]) j.hm (fun k hk=>hb k hk) h4;obtain⟨e0,h3,u5,uf⟩:=h3
  cases e0 with
  |wr v0 XB =>simp only[iR]at u5;subst u5;have mU:=D.Yp dj ho hS hb hE;have Yn:=mU.1 hh h2;subst Yn;refine J.opF V (rid:=rid) (i:=i) (fun _ id hp=>hp.DM (by omega) hS) j XK (fun x hx=>(hT x hx).1) (fun x hx=>(hT x hx).2) h3 uf (p':=oF rid fun k=>S k∨k=i) (fun id hp hr=>.inl (hp hr)) qm.1 qm.2 fun a' w' Z' ψ' j' => ?_;exact hk _ _ a' w' Z' ψ' ⟨aG,M7,mU.2,t1,t2⟩ j'
  |val v0 =>
   simp only[iR]at u5;subst u5;have ajz:∃hh':Heap,(∀id o,hh'.get id=some o→h id=some o)∧dw P Eqs Sg F (opId rid i) hh' s o some=some (.val v0):=by
    cases hf:pj o.op with
    |true=>exact⟨[],fun id o h=>by simp[Heap.get]at h,by rw[Rm hf (h':=iX hh (iQ ops b i s o))];exact h3⟩
    |false =>
     cases SS:iP o.op with
     |some x =>
      have zN:ua ops b i s o=false:=by
       cases hq:ua ops b i s o with
       |false=>rfl
       |true=>unfold iQ at uf;rw[(zK SS).2,hq]at uf;simp[ns]at uf
      have hft:iQ ops b i s o=[]:=by unfold iQ;rw[(zK SS).2,zN];rfl
      rw[hft]at h3;have h3':dw P Eqs Sg F (opId rid i) hh s o some=some (.val v0):=h3;have pz:∀id,(gD (r8 (ρ s x)) hh []).get id=if id∈r8 (ρ s x) then hh.get id else none:=fun id=>by
       rw[lN]
       split
       ·cases hh.get id<;>rfl
       ·rfl
      refine⟨gD (r8 (ρ s x)) hh [],fun id ob bR=>?_,?_⟩
      ·rw[pz]at bR
       split at bR
       ·rename_i hm;exact D.Rr dj ho SS hS hb h1 zN h2 id hm ob bR
       ·cases bR
      ·rw[Ny SS (hh:=hh) (fun id hm=>by rw[pz,if_pos hm])];exact h3'
     |none=>exact⟨_,fun id ob bR=>D.seen dj ⟨o,ho,hf,SS⟩ hS hb h2 id ob (by rw[qj]at bR;split at bR;cases bR;exact bR),h3⟩
   obtain⟨hh',KK,SY⟩:=ajz;refine J.op V (rid:=rid) (i:=i) (fun _ id hp=>hp.DM (by omega) hS) j XK (fun x hx=>(hT x hx).1) (fun x hx=>(hT x hx).2) KK SY (fun v hw he=>by cases he) (p':=oF rid fun k=>S k∨k=i) (fun id hp hr=>.inl (hp hr)) qm.1 qm.2 fun a' w' Z' ψ' j' => ?_;exact hk _ _ a' w' Z' ψ' ⟨aG,M7,D.KI dj pM hS (fun⟨v,os,h⟩=>by rw[hE]at h;cases h) (fun⟨v,os,h⟩=>by rw[hE]at h;cases h),t1,t2⟩ j'
  |new v0 os =>simp only[iR]at u5;subst u5;have hnf:=D.zL pM ⟨v0,os,hE⟩;have KK:∀id ob,(iX hh (iQ ops b i s o)).get id=some ob→h id=some ob:=fun id ob bR=>D.seen dj hnf hS hb h2 id ob (by rw[qj]at bR;split at bR;cases bR;exact bR);refine J.op V (rid:=rid) (i:=i) (fun _ id hp=>hp.DM (by omega) hS) j XK (fun x hx=>(hT x hx).1) (fun x hx=>(hT x hx).2) KK h3 (fun v hw he=>by cases he) (p':=oF rid fun k=>S k∨k=i) (fun id hp hr=>.inl (hp hr)) qm.1 qm.2 fun a' w' Z' ψ' j' => ?_;exact hk _ _ a' w' Z' ψ' ⟨aG,M7,D.Uc dj ho hS hb hE,t1,t2⟩ j'
theorem Dr.done(D:Dr P Eqs Sg F rid n ops b T H E)(dj:Dj rid ops b T H E S Tc h)(fX:∀k,k<ops.size→S k):Tc=T ops.size∧h=H ops.size:=by
 constructor
 ·funext d;by_cases hex:∃(j:Nat) (oj:Oper),ops[j]? = some oj∧oj.dst=some d
  ·obtain⟨j,oj,hj,hd⟩:=hex;have MP:=(abq.1 hj).1;rw[dj.T7 j oj d (fX j MP) hj hd,D.IH hj hd ops.size (Nat.le_refl _) MP]
  ·rw[dj.told d fun j o' _ pG T9=>hex ⟨j,o',pG,T9⟩,D.xL ops.size (Nat.le_refl _) fun k o' _ pG T9=>hex ⟨k,o',pG,T9⟩]
 ·obtain⟨q,hq,_,jO,gM⟩:=dj.heap;have:q=ops.size:=by
   rcases ady q ops.size with h1|h1
   ·exact absurd (fX q h1) (jO h1).2
   ·omega
  subst this;funext id;by_cases oE:oF rid S id
  ·exact(gM id).1 oE
  ·rw[(gM id).2 oE]
   symm
   apply Classical.not_not.1;intro bq;apply oE;intro hr;obtain⟨j,h1,h2,h3,_⟩:=D.names ops.size (ack _) id bq hr;rw[(h1.parts h3).2];exact fX j h2
def nQ(m:Nat)(cQ:Array Bool):Nat:=((List.range m).filter fun i => !cQ.getD i false).length
theorem II{m:Nat}{cQ:Array Bool}{i:Nat}(hi:i<m)(hs:i<cQ.size)(hn:cQ.getD i false=false):nQ m cQ=nQ m (cQ.setIfInBounds i true)+1:=by
 unfold nQ;have key:∀(l:List Nat),l.Nodup→i∈l→(l.filter fun k => !cQ.getD k false).length=(l.filter fun k => !(cQ.setIfInBounds i true).getD k false).length+1:=by
  intro l
  induction l with
  |nil=>intro _ h;cases h
  |cons a r ih =>
   intro Cq hm;rw[List.nodup_cons]at Cq;rcases abd.1 hm with rfl|hm
   ·have h2:(r.filter fun k => !cQ.getD k false)=(r.filter fun k => !(cQ.setIfInBounds i true).getD k false):=by apply List.filter_congr;intro k hk;have bq:i≠k:=fun e=>Cq.1 (e▸hk);rw[getD_set_ne false bq]
    rw[List.filter_cons,List.filter_cons,hn];have h3:(cQ.setIfInBounds i true).getD i false=true:=by simp[hs]
    rw[h3,h2];simp
   ·have bq:i≠a:=fun e=>Cq.1 (e▸hm);rw[List.filter_cons,List.filter_cons,getD_set_ne false bq]
    split
    ·simp only[List.length_cons];rw[ih Cq.2 hm]
    ·exact ih Cq.2 hm
 exact key _ List.nodup_range (adb.2 hi)
theorem Dr.any(D:Dr P Eqs Sg F rid n ops b T H E)(V:Env P Eqs Sg F){Q:Exit→Act→World→Prop}(hQ:∀Z ψ a w,J (oF rid fun k=>k<ops.size) n Z0 w0 O ψ0 Z ψ (T ops.size) (H ops.size) a w→Q .normal a w) :
  ∀(fuel:Nat) (cQ:Array Bool) (Tc:Nat→AV) (h:Hp) (a:Act) (w:World) (Z:Nat→Prop) (ψ:Nat→Value),cQ.size=ops.size→nQ ops.size cQ=fuel → Dj rid ops b T H E (fun k=>cQ.getD k false=true) Tc h→J (oF rid fun k=>cQ.getD k false=true) n Z0 w0 O ψ0 Z ψ Tc h a w→wpAny P .any ops Q fuel cQ a w
 |0,cQ,Tc,h,a,w,Z,ψ,hs,hu,dj,j=>by
  have fX:∀k,k<ops.size→cQ.getD k false=true:=fun k hk=>by unfold nQ at hu;have:=List.filter_eq_nil_iff.1 (acg hu) k (adb.2 hk);simpa using this
  refine⟨?_,?_⟩
  ·apply List.eq_nil_iff_forall_not_mem.2;intro i hi;obtain⟨h1,o,h2,_⟩:=mem_ready.1 hi;have h3:=(abq.1 h2).1;have h4:=fX i h3;rw[Array.getD_eq_getD_getElem?,Array.getElem?_eq_getElem (by omega)]at h1 h4;simp at h1 h4;rw[h1]at h4;cases h4
  ·obtain⟨e1,e2⟩:=D.done dj fX;subst e1;subst e2;refine hQ Z ψ a w ⟨j.ok,j.tr,fun d=>(j.tm d).imp fun id h1 h2=>dj.lt _ (h1 h2),fun id ty cs hb=>(j.hm id ty cs hb).imp fun id h1 h2=>dj.lt _ (h1 h2)⟩
 |fuel+1,cQ,Tc,h,a,w,Z,ψ,hs,hu,dj,j=>by
  have look:∀i,i<ops.size→cQ.getD i true=cQ.getD i false:=fun i hi=>by rw[Array.getD_eq_getD_getElem?,Array.getD_eq_getD_getElem?,Array.getElem?_eq_getElem (by omega)];rfl
  refine⟨fun hr=>?_,fun i hi=>?_⟩
  ·exfalso;have hex:∃i,i<ops.size∧cQ.getD i false=false:=by
    apply Classical.byContradiction;intro hn;unfold nQ at hu;rw[List.filter_eq_nil_iff.2]at hu
    ·simp at hu
    ·intro k hk;have:=fun h=>hn ⟨k,adb.1 hk,h⟩
     cases hl:cQ.getD k false with
     |true=>simp
     |false=>exact absurd hl this
   have key:∀i,i<ops.size→cQ.getD i false=false→False:=by
    intro i
    induction i using Nat.strongRecOn with
    |ind i ih =>
     intro hi hl;have gI:i∈Region.ready .any ops cQ:=by
      refine mem_ready.2 ⟨by rw[look i hi];exact hl,_,acn hi,fun e he Rb=>?_⟩;have hon:=Nx D.SW (acn hi) (by simpa using he) Rb
      cases hle:cQ.getD e.on false with
      |true=>rfl
      |false=>exact(ih e.on hon (by omega) hle).elim
     rw[hr]at gI;cases gI
   obtain⟨i,h1,h2⟩:=hex;exact key i h1 h2
  ·obtain⟨h1,o,ho,fX⟩:=mem_ready.1 hi;have pM:=(abq.1 ho).1;have hn:cQ.getD i false=false:=by rw[←look i pM];exact h1
   have hS:¬(cQ.getD i false=true):=by rw[hn];simp
   have hb:∀k,uz b i k→cQ.getD k false=true:=fun k hk=>by
    obtain⟨e,he,Rb,h2⟩:=(Cs D.SW ho).1 hk;have h3:=fX e (by simpa using he) Rb;rcases h2 with rfl|h2
    ·exact h3
    ·exact dj.closed e.on k h3 h2
   refine D.NA V ho hS hb dj j fun Tc' h' a' w' Z' ψ' dj' j' => ?_;have heq:(fun k=>cQ.getD k false=true∨k=i)=(fun k=>(cQ.setIfInBounds i true).getD k false=true):=by
    funext k;apply propext;by_cases e:i=k
    ·subst e;simp[show i<cQ.size by omega]
    ·rw[getD_set_ne false e];constructor
     ·rintro(h|h)
      ·exact h
      ·exact absurd h.symm e
     ·exact .inl
   rw[heq]at dj' j';exact D.any V hQ fuel _ Tc' h' a' w' Z' ψ' (by simpa using hs) (by have:=II pM (by omega) hn;omega) dj' j'
end
end Go.Vs
namespace Go.Vs
variable {P:Program} {Eqs:TypeId→Option K} {Sg:FuncId→Option aX} {F:(f:FuncId)→(g:aX)→g.A→Option g.B} {R:Type}
variable {Z Z' Z0:Nat→Prop} {ψ ψ' ψ0:Nat→Value} {h h':Hp} {w w' w0:World} {B0:Nat} {O N:Nat→Prop}
theorem DW(f:AV→AV)(hf:f .no=.no):∀(l:List (Nat×AV)) (d:Nat),look (l.map fun p=>(p.1,f p.2)) d=f (look l d)
 |[],d=>by simp[look,hf]
 |(i,v)::r,d=>by
  simp only[List.map_cons,look]
  split
  ·rfl
  ·exact DW f hf r d
section
variable {rid:Nat}
mutual
theorem zP:∀{a:AV} {v:Value},aD Z ψ h w a v→aD Z ψ h w (bO rid a) v
 |.ref id s i off,v,hr=>by
  simp only[bO]
  split
  ·simp only[aD]
  ·exact hr
 |.bV id,v,hr=>by
  simp only[bO]
  split
  ·simp only[aD]
  ·exact hr
 |.fn f cap,v,hr=>by simp only[bO,aD]at hr ⊢;obtain⟨vs,e,hl⟩:=hr;exact⟨vs,e,nR hl⟩
 |.agg cs,v,hr=>by simp only[bO,aD]at hr ⊢;obtain⟨vs,e,hl⟩:=hr;exact⟨vs,e,nR hl⟩
 |.pe cs,v,hr=>by simp only[bO,aD]at hr ⊢;obtain⟨vs,e,hl⟩:=hr;exact⟨vs,e,nR hl⟩
 |.no,v,hr=>by simpa only[bO] using hr
 |.bool _,v,hr=>by simpa only[bO] using hr
 |.int _ _,v,hr=>by simpa only[bO] using hr
 |.str _,v,hr=>by simpa only[bO] using hr
 |.mC,v,hr=>by simpa only[bO] using hr
 |.ib,v,hr=>by simpa only[bO] using hr
 |.fp _ _ _,v,hr=>by simpa only[bO] using hr
 |.sl _ _ _,v,hr=>by simpa only[bO] using hr
 |.mp _ _ _,v,hr=>by simpa only[bO] using hr
theorem nR:∀{a:List AV} {v:List Value},ax Z ψ h w a v→ax Z ψ h w (nt rid a) v
 |[],v,hr=>by simpa only[nt] using hr
 |x::r,v,hr=>by simp only[nt,ax]at hr ⊢;obtain⟨u,us,e,h1,h2⟩:=hr;exact⟨u,us,e,zP h1,nR h2⟩
end
mutual
theorem rv:∀(a:AV),aQ (oF rid fun _=>False) (bO rid a)
 |.ref id s i off=>by
  simp only[bO]
  split
  ·simp only[aQ]
  ·rename_i hn;simp only[aQ];exact fun h=>absurd h hn
 |.bV id=>by
  simp only[bO]
  split
  ·simp only[aQ]
  ·rename_i hn;simp only[aQ];exact fun h=>absurd h hn
 |.fn f cap=>by simp only[bO,aQ];exact jP cap
 |.agg cs=>by simp only[bO,aQ];exact jP cs
 |.pe cs=>by simp only[bO,aQ];exact jP cs
 |.no=>by simp only[bO,aQ]
 |.bool _=>by simp only[bO,aQ]
 |.int _ _=>by simp only[bO,aQ]
 |.str _=>by simp only[bO,aQ]
 |.mC=>by simp only[bO,aQ]
 |.ib=>by simp only[bO,aQ]
 |.fp _ _ _=>by simp only[bO,aQ]
 |.sl _ _ _=>by simp only[bO,aQ]
 |.mp _ _ _=>by simp only[bO,aQ]
theorem jP:∀(a:List AV),aJ (oF rid fun _=>False) (nt rid a)
 |[]=>by simp only[nt,aJ]
 |x::r=>by simp only[nt,aJ];exact⟨rv x,jP r⟩
end
theorem get_map(f:Ob→Ob):∀(hh:Heap) (i:Nat),Heap.get (hh.map fun p=>(p.1,f p.2)) i=(hh.get i).map f
 |[],i=>rfl
 |(j,o)::r,i=>by
  simp only[List.map_cons,Heap.get]
  split
  ·rfl
  ·exact get_map f r i
def oX(rid:Nat)(hh:Heap):Heap:=(hh.filter fun p=>p.1 / 32768 != rid+1).map fun p=>(p.1,C8 rid p.2)
theorem Rs(hh:Heap)(i:Nat):(oX rid hh).get i=if i / 32768=rid+1 then none else(hh.get i).map (C8 rid):=by unfold oX;rw[get_map (C8 rid),get_filter (fun i=>i / 32768 != rid+1)];by_cases e:i / 32768=rid+1<;>simp[e]
theorem jF{hh:Heap}{i:Nat}{o:Ob}(hg:(oX rid hh).get i=some o):i / 32768≠rid+1∧∃o',hh.get i=some o'∧o=C8 rid o':=by
 rw[Rs]at hg
 split at hg
 ·cases hg
 ·rename_i hn
  cases h0:hh.get i with
  |none=>rw[h0]at hg;cases hg
  |some o'=>rw[h0]at hg;cases hg;exact⟨hn,o',rfl,rfl⟩
theorem lQ{hh:Heap}{i:Nat}(hg:(oX rid hh).get i≠none):hh.get i≠none:=by obtain⟨o,ho⟩:=abN.1 hg;obtain⟨_,o',h1,_⟩:=jF ho;rw[h1];simp
theorem Good.mz{hh:Heap}(g:Good Z ψ hh.get w B0 O):Good Z ψ (oX rid hh).get w B0 O:=by
 refine⟨fun id ty cs hb=>?_,fun id ok xs hb=>?_,fun id b h1 h2=>g.live id b (lQ h1) h2,fun id oH b h1 h2 h3 h4=>g.apart id oH b (lQ h1) (lQ h2) h3 h4,g.kO⟩
 ·obtain⟨_,o',h1,h2⟩:=jF hb
  cases o' with
  |own ok xs=>cases h2
  |box BT cs' =>
   cases h2
   obtain⟨gg,vs,h3,h4,h5,h6⟩:=g.box id ty cs' h1;exact⟨gg,vs,h3,h4,nR (h5.less (fun _ h=>h) (cU.refl _ _) fun i hi=>⟨lQ hi,rfl⟩),h6⟩
 ·obtain⟨_,o',h1,h2⟩:=jF hb
  cases o' with
  |own ok' xs'=>cases h2;exact g.row id _ _ h1
  |box BT cs'=>cases h2
theorem Ok.sub{hp:Hp}(k:Ok Z0 w0 O ψ0 Z ψ h w)(g:Good Z ψ hp w w0.heap.size O)(hn:∀id,hp id≠none→h id≠none):Ok Z0 w0 O ψ0 Z ψ hp w :=⟨g,k.g6,k.fN,k.os,k.tape,k.output,k.size,k.block,fun i hi bq=>k.fix i hi (hn i bq)⟩
end
theorem Good.DX(g:Good Z ψ h w B0 O)(e:w'.heap=w.heap):Good Z ψ h w' B0 O:=by
 have sm:cU Z w w':=fun b _=>by rw[e]
 refine⟨fun id ty cs hb=>?_,fun id ok xs hb=>?_,g.live,g.apart,fun b hb=>by rw[e];exact g.kO b hb⟩
 ·obtain⟨gg,vs,h1,h2,h3,h4⟩:=g.box id ty cs hb;exact⟨gg,vs,h1,by rw[e];exact h2,h3.less (fun _ h=>h) sm (fun i hi=>⟨hi,rfl⟩),h4⟩
 ·exact(g.row id ok xs hb).kept (fun _ h=>h) sm (fun gg _=>by rw[e])
theorem Ok.DX(k:Ok Z0 w0 O ψ0 Z ψ h w)(e:w'.heap=w.heap)(e1:w'.os=w.os)(e2:w'.tape=w.tape)(e3:w'.output=w.output):Ok Z0 w0 O ψ0 Z ψ h w' :=⟨k.fi.DX e,k.g6,k.fN,e1.trans k.os,e2.trans k.tape,e3.trans k.output,by rw[e];exact k.size,fun b hb ho=>by rw[e];exact k.block b hb ho,k.fix⟩
theorem dn.DX{n:Nat}{T:Nat→AV}{a:Act}(t:dn Z ψ h w n T a)(e:w'.heap=w.heap):dn Z ψ h w' n T a :=⟨fun d=>(t.rep d).less (fun _ h=>h) (fun b _=>by rw[e]) (fun i hi=>⟨hi,rfl⟩),t.size,t.defers⟩
theorem IJ(V:Env P Eqs Sg F)(hm:P.follows .mixedOrders=true){n rid:Nat}{ops:Array Oper}{draw:Bool}{st:St}{kk:St→Option R}{r:R}{a:Act}{Q:Exit→Act→World→Prop} (hx:jy P Eqs Sg F n rid ops draw st kk=some r) (k:Ok Z0 w0 O ψ0 Z ψ st.heap.get w) (t:dn Z ψ st.heap.get w n (look st.tmps) a) (hQ:∀fM Z ψ a w,kk fM=some r→Ok Z0 w0 O ψ0 Z ψ fM.heap.get w→dn Z ψ fM.heap.get w n (look fM.tmps) a→Q .normal a w):(Code.region rid ops draw).wp P Q a w:=by
 obtain⟨b,Yq,hx⟩:∃b,b=(if draw then Region.before ops else #[])∧(if(ops.all fun o=>jx n o)&&(!draw || (xf ops b&&(C6 ops b&&cG (ops.toList.filterMap (·.dst)))))&&decide (ops.size≤128) then
  bM P Eqs Sg F rid draw ops b (ops.toList.zipIdx.map fun p=>(p.2,p.1)) (mz draw rid ops st) kk else none)=some r:=⟨_,rfl,hx⟩
 split at hx
 ·rename_i hc;simp only[Bool.and_eq_true,decide_eq_true_eq]at hc;obtain⟨⟨mq,hdr⟩,jV⟩:=hc;have G9:∀(i:Nat) (o:Oper),ops[i]? = some o→jx n o=true:=fun i o ho=>ads.1 mq o (adp ho);have pk:Ok Z0 w0 O ψ0 Z ψ (oX rid st.heap).get w:=k.sub k.fi.mz fun id=>lQ;have pt:dn Z ψ (oX rid st.heap).get w n (fun d=>bO rid (look st.tmps d)) a :=⟨fun d=>zP ((t.rep d).less (fun _ h=>h) (cU.refl _ _) fun i hi=>⟨lQ hi,rfl⟩),t.size,t.defers⟩;have pm:vq (oF rid fun _=>False) (oX rid st.heap).get:=fun i ty cs hb=>by
   obtain⟨_,o',h1,h2⟩:=jF hb
   cases o' with
   |own ok xs=>cases h2
   |box BT cs'=>cases h2;exact jP cs'
  have Hc:look (st.tmps.map fun p=>(p.1,bO rid p.2))=fun d=>bO rid (look st.tmps d):=funext fun d=>DW (bO rid) (by simp only[bO]) st.tmps d
  cases draw with
  |false =>
   refine wp_region ?_;rw[←G5 ops]
   cases IF:ops.any (makes ·.op) with
   |false =>
    have hp:mz false rid ops st=st:=by unfold mz;rw[IF];rfl
    rw[hp]at hx;refine mX V (rid:=rid) (n:=n) (b:=_) false (fun _ i o ho=>?_) jV G9 hQ _ 0 st Z ψ a w (ql ops) hx ⟨k,t,fun d=>?_,fun i ty cs hb=>?_⟩
    ·have:=Array.any_eq_false'.1 IF o (adp ho);simpa using this
    ·exact(aQ.top _).imp fun id _ h=>by cases h
    ·exact(aJ.top _).imp fun id _ h=>by cases h
   |true =>
    have hp:mz false rid ops st={ tmps:=st.tmps.map fun p=>(p.1,bO rid p.2),heap:=oX rid st.heap }:=by unfold mz;rw[IF];rfl
    rw[hp]at hx;refine mX V (rid:=rid) (n:=n) (b:=_) true (fun h=>by cases h) jV G9 hQ _ 0 _ Z ψ a w (ql ops) hx ⟨pk,by rw[Hc];exact pt,fun d=>?_,fun i ty cs hb=>?_⟩
    ·rw[Hc];exact(rv _).imp fun id h1 _ h2=>(h1 h2).elim
    ·exact(pm i ty cs hb).imp fun id h1 _ h2=>(h1 h2).elim
  |true =>
   have hp:mz true rid ops st={ tmps:=st.tmps.map fun p=>(p.1,bO rid p.2),heap:=oX rid st.heap }:=by unfold mz;rw[Bool.true_or];rfl
   rw[hp]at hx;simp only[Bool.not_true,Bool.false_or,Bool.and_eq_true]at hdr;obtain⟨ajB,aef,Cq⟩:=hdr;refine wp_region_any hm ?_;obtain⟨T,H,E,h1,h2,h3,fM,h4,h5,h6⟩:=trace (kk:=kk) (r:=r) (ops.toList.zipIdx.map fun p=>(p.2,p.1)) 0 _ (ql ops) (by simp) hx;rw[Hc]at h1;have D:Dr P Eqs Sg F rid n ops b T H E:=⟨jV,ajB,aef,G9,Cq,fun k o ho=>h3 k o (adq _) ho,fun id bR=>by rw[h2]at bR;obtain⟨o,ho⟩:=abN.1 bR;exact(jF ho).1⟩;have Bh:∀k,¬((Array.replicate ops.size false).getD k false=true):=fun k hk=>by
    rw[Array.getD_eq_getD_getElem?,Array.getElem?_replicate]at hk
    split at hk<;>simp at hk
   rw[show max 0 ops.size=ops.size by omega]at h5 h6;have w2:({ w with drawn:=w.drawn+1 }:World).heap=w.heap:=rfl;refine D.any V (Z0:=Z0) (w0:=w0) (O:=O) (ψ0:=ψ0) (fun Z ψ a w j=>hQ fM Z ψ a w h4 (by rw[h6];exact j.ok) (by rw[h5,h6];exact j.tr)) ops.size _ (T 0) (H 0) a _ Z ψ (by simp) ?_ ?_ ?_
   ·unfold nQ;rw[List.filter_eq_self.2,List.length_range];intro k _;have:=Bh k;simpa using this
   ·refine⟨fun i hi=>(Bh i hi).elim,fun i j hi=>(Bh i hi).elim,?_,fun j o d hj=>(Bh j hj).elim,fun d _=>rfl⟩;obtain⟨q,hq1,hq2,hq3⟩:=Ub E (fun k=>(Array.replicate ops.size false).getD k false=true) ops.size;refine⟨q,hq1,hq2,hq3,fun id=>⟨fun oE=>?_,fun oE=>?_⟩⟩
    ·symm
     refine D.Cv q (adq _) hq1 (fun k _ hk hw=>(Bh k (hq2 k hk hw)).elim) id fun k _ hk _ ho=>?_;have:=oE (ho.parts (by omega)).1;exact Bh _ this
    ·rw[h2];apply Classical.not_not.1;intro bq;obtain⟨o,ho⟩:=abN.1 bq;exact oE fun hr=>absurd hr (jF ho).1
   ·rw[h1,h2];refine⟨pk.DX w2 rfl rfl rfl,pt.DX w2,fun d=>(rv _).imp fun id h3 h4=>(h3 h4).elim,fun i ty cs hb=>(pm i ty cs hb).imp fun id h3 h4=>(h3 h4).elim⟩
 ·cases hx
end Go.Vs
