/- The value semantics is sound, at calls and in regions. -/
import Derived.Test.YtpkfpbpbkabkdaaGreatEngineB
import Derived.Maps.RangeRun
import Derived.ChangeMaps
set_option linter.unusedSimpArgs false
set_option linter.unusedVariables false
namespace Go.Vs
variable {P:Program} {Z Z':Nat→Prop} {ψ ψ':Nat→Value} {h h':Hp} {w w':World} {B0:Nat} {O:Nat→Prop} {N:Nat→Prop}
theorem dU:∀(k:K) (x:k.T),(enc k x).length=k.sz
 |.int _,_=>rfl
 |.bool,_=>rfl
 |.str,_=>rfl
 |.sl _,_=>rfl
 |.mp _ _,_=>rfl
 |.pair a b,x=>by simp only[enc,List.length_append,K.sz];rw[dU a,dU b]
 |.one k,x=>by simp only[enc,K.sz];exact dU k x
theorem pw(hh:Heap):∀(k:K) (x:k.T),(enc k x).map (cq hh)=enc k x
 |.int _,_=>rfl
 |.bool,_=>rfl
 |.str,_=>rfl
 |.sl _,_=>rfl
 |.mp _ _,_=>rfl
 |.pair a b,x=>by simp only[enc,List.map_append];rw[pw hh a,pw hh b]
 |.one k,x=>by simp only[enc];exact pw hh k x
theorem kJ:∀(k:K) (x:k.T) (id:Nat),AV.bp id∉enc k x
 |.int _,_,_=>by simp[enc]
 |.bool,_,_=>by simp[enc]
 |.str,_,_=>by simp[enc]
 |.sl _,_,_=>by simp[enc]
 |.mp _ _,_,_=>by simp[enc]
 |.pair a b,x,id=>by
  simp only[enc,List.mem_append]
  rintro(h|h)
  ·exact kJ a _ id h
  ·exact kJ b _ id h
 |.one k,x,id=>by simp only[enc];exact kJ k x id
theorem uE{hh:Heap}{ok:OK}{n:Nat}{xs:ok.T}(hg:hh.get n=some (.own ok xs)):dt hh ok (.bp n)=some xs:=by
 simp[dt,hg]
theorem nJ{hh:Heap}:∀(cU:List CK) (n:Nat) (x:oR cU),(∀e∈aM cU n x,hh.get e.1=some e.2)→cr cU hh (av cU n x)=some x
 |[],n,x,_=>rfl
 |.val k::r,n,x,hg=>by
  have h1:(av (.val k::r) n x).take k.sz=enc k x.1:=by simp only[av];rw[←dU k x.1,List.take_left]
  have h2:(av (.val k::r) n x).drop k.sz=av r (n+1) x.2:=by simp only[av];rw[←dU k x.1,List.drop_left]
  have e:cr (.val k::r) hh (av (.val k::r) n x)=(match de k (((av (.val k::r) n x).take k.sz).map (cq hh)),cr r hh ((av (.val k::r) n x).drop k.sz) with
   |some x,some y=>some ((x,y):k.T×oR r)
   |_,_=>none):=by generalize av (.val k::r) n x=l;cases l<;>rfl
  have h4:de k (((av (.val k::r) n x).take k.sz).map (cq hh))=some x.1:=by
   rw[h1];exact(congrArg (de k) (pw hh k x.1)).trans (r8 k x.1)
  have h5:cr r hh ((av (.val k::r) n x).drop k.sz)=some x.2:=by
   rw[h2];exact nJ r (n+1) x.2 hg
  rw[e]
  generalize de k (((av (.val k::r) n x).take k.sz).map (cq hh))=o1 at h4 ⊢
  generalize cr r hh ((av (.val k::r) n x).drop k.sz)=o2 at h5 ⊢
  subst h4;subst h5;rfl
 |.own ok::r,n,x,hg=>by
  simp only[aM]at hg
  have h1:=uE (hg _ List.mem_cons_self)
  have h2:=nJ r (n+1) x.2 (fun e he=>hg e (List.mem_cons_of_mem _ he))
  have e:cr (.own ok::r) hh (av (.own ok::r) n x)=(match dt hh ok (.bp n),cr r hh (av r (n+1) x.2) with
   |some x,some y=>some ((x,y):ok.T×oR r)
   |_,_=>none):=rfl
  rw[e,h1,h2]
  rfl
theorem Js{hh:Heap}(b:BK){i n:Nat}{x:b.T}(hg:∀e∈ib b i n x,hh.get e.1=some e.2):ow b hh i=some x:=by
 cases b with
 |box ty c =>
  simp only[ib]at hg
  have h1:AM hh i ty=some (av c n x):=by
   unfold AM
   rw[hg _ List.mem_cons_self]
   simp
  simp only[ow,h1]
  exact nJ (hh:=hh) c n x (fun e he=>hg e (List.mem_cons_of_mem _ he))
 |own ok=>exact uE (hg _ (by simp only[ib];exact List.mem_cons_self))
theorem vI{hh:Heap}:∀(bs:List BK) (is:List Nat) (n:Nat) (x:ud bs),is.length=bs.length→(∀e∈aX bs is n x,hh.get e.1=some e.2)→cC bs hh is=some x
 |[],[],n,x,_,_=>rfl
 |[],_::_,n,x,hl,_=>by simp at hl
 |_::_,[],n,x,hl,_=>by simp at hl
 |b::r,i::is,n,x,hl,hg=>by
  simp only[aX]at hg
  have h2:=Js b (fun e he=>hg e (List.mem_append_left _ he))
  have h3:=vI r is (n+16) x.2 (by simpa using hl) (fun e he=>hg e (List.mem_append_right _ he))
  have e:cC (b::r) hh (i::is)=(match ow b hh i,cC r hh is with
    |some x,some y=>some ((x,y):b.T×ud r)
    |_,_=>none):=rfl
  rw[e,h2,h3]
  rfl
theorem uF{i:Nat}{o:Ob}:∀{hh:Heap},bR (hh.map (·.1))=true→(i,o)∈hh→hh.get i=some o
 |[],_,h=>by cases h
 |(j,o')::r,hn,h=>by
  obtain⟨h1,h2⟩:=lD hn
  simp only[Heap.get]
  rcases List.mem_cons.1 h with e|h
  ·cases e;simp
  ·rw[if_neg,uF h2 h]
   rintro rfl
   exact h1 (List.mem_map.2 ⟨_,h,rfl⟩)
theorem wJ{hh:Heap}:∀(cU:List CK) (n:Nat) (x:oR cU) (id:Nat),AV.bp id∉ov cU (av cU n x)
 |[],n,x,id=>by simp[av,ov]
 |.val k::r,n,x,id=>by
  have h1:(av (.val k::r) n x).take k.sz=enc k x.1:=by simp only[av];rw[←dU k x.1,List.take_left]
  have h2:(av (.val k::r) n x).drop k.sz=av r (n+1) x.2:=by simp only[av];rw[←dU k x.1,List.drop_left]
  have e:ov (.val k::r) (av (.val k::r) n x)=(av (.val k::r) n x).take k.sz++ov r ((av (.val k::r) n x).drop k.sz):=by generalize av (.val k::r) n x=l;cases l<;>rfl
  rw[e,h1,h2,List.mem_append]
  rintro(h|h)
  ·exact kJ k x.1 id h
  ·exact wJ (hh:=hh) r (n+1) x.2 id h
 |.own ok::r,n,x,id=>by simp only[av,ov];exact wJ (hh:=hh) r (n+1) x.2 id
theorem ya{hh:Heap}:∀(bs:List BK) (is:List Nat) (n:Nat) (x:ud bs) (id:Nat),(∀e∈aX bs is n x,hh.get e.1=some e.2)→AV.bp id∉eZ bs hh is
 |[],is,n,x,id,_=>by cases is<;>simp[eZ]
 |_::_,[],n,x,id,_=>by simp[eZ]
 |b::r,i::is,n,x,id,hg=>by
  simp only[aX]at hg
  simp only[eZ,List.mem_append]
  rintro(h|h)
  ·cases b with
   |box ty c =>
    simp only[xj]at h
    rw[hg (i,.box ty (av c n x.1)) (List.mem_append_left _ (by simp only[ib];exact List.mem_cons_self))]at h
    exact wJ (hh:=hh) c n x.1 id h
   |own ok=>simp[xj]at h
  ·exact ya r is (n+16) x.2 id (fun e he=>hg e (List.mem_append_right _ he)) h
theorem A3{hh:Heap}:∀(cap:List AV) (is is':List Nat) (vs:List Value),iO cap=some is→is'.length=is.length→(∀p∈is.zip is',hh.get p.1≠none∧(h' p.2≠none→ψ' p.2=ψ p.1)) →
  ah Z ψ hh.get w cap vs→ah Z' ψ' h' w (is'.map fun i=>.ref i 0 0 0) vs
 |[],is,is',vs,h1,hl,_,hr=>by
  simp only[iO]at h1
  cases h1
  cases is' with
  |nil=>simpa only[List.map_nil,ah] using hr
  |cons c r=>simp at hl
 |v::cap,is,is',vs,h1,hl,hp,hr=>by
  simp only[iO]at h1
  split at h1
  ·rename_i i Ys h3 h4
   cases h1
   cases is' with
   |nil=>simp at hl
   |cons c r =>
    simp only[List.zip_cons_cons]at hp
    simp only[List.map_cons,ah]at hr ⊢
    obtain⟨u,us,rfl,h7,h8⟩:=hr
    obtain⟨sz,rfl⟩:=nF h3
    obtain⟨h5,h6⟩:=hp _ List.mem_cons_self
    exact⟨u,us,rfl,wH h7 h5 h6,A3 cap Ys r us h4 (by simpa using hl) (fun p h=>hp p (List.mem_cons_of_mem _ h)) h8⟩
  ·cases h1
theorem q9:∀(cap:List AV) (is:List Nat),iO cap=some is→is.length=cap.length
 |[],is,h=>by simp only[iO]at h;cases h;rfl
 |v::cap,is,h=>by
  simp only[iO]at h
  split at h
  ·rename_i i Ys h3 h4
   cases h
   simp[q9 cap Ys h4]
  ·cases h
theorem rf:∀(cs:List AV) (is:List Nat),nm cs=some is→is.length=cs.length
 |[],is,h=>by simp only[nm]at h;cases h;rfl
 |c::r,is,h=>by
  cases c<;>simp only[nm]at h<;>first|(cases h;done)|skip
  split at h
  ·rename_i is' h1
   cases h
   simp[rf r is' h1]
  ·cases h
theorem A4{hh:Heap}:∀(cs:List AV) (is fE:List Nat) (vs:List Value),nm cs=some is→fE.length=is.length→(∀p∈is.zip fE,hh.get p.1≠none∧(h' p.2≠none→ψ' p.2=ψ p.1)) →
  ah Z ψ hh.get w cs vs→ah Z' ψ' h' w (fE.map .bp) vs
 |[],is,fE,vs,h,hl,hp,hr=>by
  simp only[nm]at h
  cases h
  have:fE=[]:=List.eq_nil_of_length_eq_zero hl
  subst this
  simpa only[List.map_nil,ah] using hr
 |c::r,is,fE,vs,h,hl,hp,hr=>by
  cases c<;>simp only[nm]at h<;>first|(cases h;done)|skip
  rename_i i
  split at h
  ·rename_i is' h1
   cases h
   cases fE with
   |nil=>simp at hl
   |cons i' fE =>
    simp only[List.zip_cons_cons]at hp
    obtain⟨h5,h6⟩:=hp _ List.mem_cons_self
    simp only[List.map_cons,ah]at hr ⊢
    obtain⟨u,us,rfl,h3,h4⟩:=hr
    refine⟨u,us,rfl,?_,A4 r is' fE us h1 (by simpa using hl) (fun p Ls=>hp p (List.mem_cons_of_mem _ Ls)) h4⟩
    simp only[ao]at h3 ⊢
    exact⟨h3.1,fun hn=>(h3.2 h5).trans (h6 hn).symm⟩
  ·cases h
theorem kh{hh:Heap}(g:Good Z ψ hh.get w B0 O)(hz:∀b,Z b→Z' b):∀(ps:List PK) (ids fE:List Nat) (s:Nat) (vs:List AV) (us:List Value) (x:Dg (jX ps)),fE.length=ids.length→cg ps vs=some ids→dI ps hh vs=some x →
  (∀id b,AV.bp id∈cS ps vs→hh.get id≠none→ob (ψ id)=some b→Z' b)→(∀p∈ids.zip fE,hh.get p.1≠none∧(h' p.2≠none→ψ' p.2=ψ p.1))→ah Z ψ hh.get w vs us→ah Z' ψ' h' w ((aH ps fE s x).map (·.2)) us
 |[],ids,fE,s,vs,us,x,hl,hi,hv,hf,hp,hr=>by
  cases vs with
  |nil=>simpa only[aH,List.map_nil,ah] using hr
  |cons a r=>simp[cg]at hi
 |.val k::ps,ids,fE,s,vs,us,x,hl,hi,hv,hf,hp,hr=>by
  cases vs with
  |nil=>simp[cg]at hi
  |cons a r =>
   simp only[cg]at hi
   simp only[ah]at hr
   obtain⟨u,hM,rfl,h3,h4⟩:=hr
   obtain⟨h1,h2⟩:=vG hv
   simp only[cS]at hf
   simp only[aH,List.map_cons,ah]
   exact⟨u,hM,rfl,qj g hz (fun id b bD=>hf id b (List.mem_append_left _ bD)) h1 h3,kh g hz ps ids fE (s+1) r hM x.2 hl hi h2 (fun id b bD=>hf id b (List.mem_append_right _ bD)) hp h4⟩
 |.ref::ps,ids,fE,s,vs,us,x,hl,hi,hv,hf,hp,hr=>by
  cases vs with
  |nil=>simp[cg]at hi
  |cons a r =>
   simp only[cg]at hi
   split at hi
   ·rename_i i is h1 h2
    cases hi
    simp only[ah]at hr
    obtain⟨u,hM,rfl,h3,h4⟩:=hr
    cases fE with
    |nil=>simp at hl
    |cons i' is' =>
     simp only[List.zip_cons_cons]at hp
     obtain⟨sz,rfl⟩:=nF h1
     obtain⟨h5,h6⟩:=hp _ List.mem_cons_self
     simp only[aH,List.map_cons,ah]
     exact⟨u,hM,rfl,wH h3 h5 h6,kh g hz ps is is' (s+1) r hM x (by simpa using hl) h2 hv hf (fun p h=>hp p (List.mem_cons_of_mem _ h)) h4⟩
   ·cases hi
 |.own::ps,ids,fE,s,vs,us,x,hl,hi,hv,hf,hp,hr=>by
  cases vs with
  |nil=>simp[cg]at hi
  |cons a r =>
   cases a<;>simp only[cg]at hi<;>first|(cases hi;done)|skip
   rename_i i
   split at hi
   ·rename_i is h2
    cases hi
    simp only[ah]at hr
    obtain⟨u,hM,rfl,h3,h4⟩:=hr
    cases fE with
    |nil=>simp at hl
    |cons i' is' =>
     simp only[List.zip_cons_cons]at hp
     obtain⟨h5,h6⟩:=hp _ List.mem_cons_self
     simp only[aH,List.map_cons,ah]
     refine⟨u,hM,rfl,?_,kh g hz ps is is' (s+1) r hM x (by simpa using hl) h2 hv hf (fun p h=>hp p (List.mem_cons_of_mem _ h)) h4⟩
     simp only[ao]at h3 ⊢
     exact⟨h3.1,fun hn=>(h3.2 h5).trans (h6 hn).symm⟩
   ·cases hi
 |.B3 f m::ps,ids,fE,s,vs,us,x,hl,hi,hv,hf,hp,hr=>by
  cases vs with
  |nil=>simp[cg]at hi
  |cons a r =>
   cases a<;>simp only[cg]at hi<;>first|(cases hi;done)|skip
   rename_i f' cap
   split at hi
   ·rename_i hc
    obtain⟨rfl,sG⟩:=hc
    split at hi
    ·rename_i a1 b1 h1 h2
     cases hi
     simp only[ah]at hr
     obtain⟨u,hM,rfl,h3,h4⟩:=hr
     have h5:=q9 cap a1 h1
     have vA:(a1++b1).zip fE=a1.zip (fE.take m)++b1.zip (fE.drop m):=by
      conv=>lhs;rw[←List.take_append_drop m fE]
      rw[List.zip_append]
      rw[List.length_take,Nat.min_eq_left]
      ·omega
      ·rw[hl,List.length_append];omega
     rw[vA]at hp
     simp only[aH,List.map_cons,ah]
     refine⟨u,hM,rfl,?_,kh g hz ps b1 (fE.drop m) (s+1) r hM x (by rw[List.length_drop,hl,List.length_append];omega) h2 hv hf (fun p h=>hp p (List.mem_append_right _ h)) h4⟩
     simp only[ao]at h3 ⊢
     obtain⟨ws,h6,h7⟩:=h3
     exact⟨ws,h6,A3 cap a1 (fE.take m) _ h1 (by rw[List.length_take,Nat.min_eq_left (by rw[hl,List.length_append];omega)];omega) (fun p h=>hp p (List.mem_append_left _ h)) h7⟩
    ·cases hi
   ·cases hi
 |.agg m::ps,ids,fE,s,vs,us,x,hl,hi,hv,hf,hp,hr=>by
  cases vs with
  |nil=>simp[cg]at hi
  |cons a r =>
   cases a<;>simp only[cg]at hi<;>first|(cases hi;done)|skip
   rename_i cs
   split at hi
   ·rename_i sG
    split at hi
    ·rename_i a1 b1 h1 h2
     cases hi
     simp only[ah]at hr
     obtain⟨u,hM,rfl,h3,h4⟩:=hr
     have h5:=rf cs a1 h1
     have vA:(a1++b1).zip fE=a1.zip (fE.take m)++b1.zip (fE.drop m):=by
      conv=>lhs;rw[←List.take_append_drop m fE]
      rw[List.zip_append]
      rw[List.length_take,Nat.min_eq_left]
      ·omega
      ·rw[hl,List.length_append];omega
     rw[vA]at hp
     simp only[aH,List.map_cons,ah]
     refine⟨u,hM,rfl,?_,kh g hz ps b1 (fE.drop m) (s+1) r hM x (by rw[List.length_drop,hl,List.length_append];omega) h2 hv hf (fun p h=>hp p (List.mem_append_right _ h)) h4⟩
     simp only[ao]at h3 ⊢
     obtain⟨ws,h6,h7⟩:=h3
     exact⟨ws,h6,A4 cs a1 (fE.take m) _ h1 (by rw[List.length_take,Nat.min_eq_left (by rw[hl,List.length_append];omega)];omega) (fun p h=>hp p (List.mem_append_left _ h)) h7⟩
    ·cases hi
   ·cases hi
theorem Jt(hh:Heap)(k:K)(x:k.T):eU k hh (bX k x)=some x:=by
 unfold eU
 rw[if_pos (xW k x).symm,r9]
 exact(congrArg (de k) (pw hh k x)).trans (r8 k x)
theorem lH:∀(cU:List CK) (c n:Nat) (x:oR cU),eV cU c=true→(av cU n x)[lz cU c]? = some (.bp (n+c))
 |[],c,n,x,h=>by simp[eV]at h
 |.val k::r,0,n,x,h=>by simp[eV]at h
 |.val k::r,c+1,n,x,h=>by
  simp only[av,lz]
  have ih:=lH r c (n+1) x.2 (by simpa[eV] using h)
  have hl:(enc k x.1).length=k.sz:=dU k x.1
  generalize enc k x.1=l at hl ⊢
  rw[List.getElem?_append_right (by omega),hl,Nat.add_sub_cancel_left,show n+(c+1)=n+1+c by omega]
  exact ih
 |.own ok::r,0,n,x,h=>by simp[av,lz]
 |.own ok::r,c+1,n,x,h=>by
  simp only[av,lz]
  rw[Nat.add_comm 1,List.getElem?_cons_succ,show n+(c+1)=n+1+c by omega]
  exact lH r c (n+1) x.2 (by simpa[eV] using h)
theorem vJ:∀(bs:List BK) (b:Nat) (is:List Nat) (n:Nat) (x:ud bs) (ty:TypeId) (c:List CK) (bi:Nat),bs[b]? = some (.box ty c)→is[b]? = some bi→∃xb,(bi,.box ty (av c (n+16*b) xb))∈aX bs is n x
 |[],b,is,n,x,_,_,bi,h,_=>by simp at h
 |b0::r,b,[],n,x,_,_,bi,_,h=>by simp at h
 |b0::r,0,i::is,n,x,ty,c,bi,h1,h2=>by
  simp only[List.getElem?_cons_zero,Option.some.injEq]at h1 h2
  subst h1;subst h2
  exact⟨x.1,by simp only[aX,ib];exact List.mem_append_left _ List.mem_cons_self⟩
 |b0::r,b+1,i::is,n,x,ty,c,bi,h1,h2=>by
  obtain⟨xb,h3⟩:=vJ r b is (n+16) x.2 ty c bi (by simpa using h1) (by simpa using h2)
  refine⟨xb,?_⟩
  simp only[aX]
  rw[show n+16*(b+1)=n+16+16*b by omega]
  exact List.mem_append_right _ h3
theorem kK{bs:List BK}{hh:Heap}{is:List Nat}{nb:Nat}{xb:ud bs}(hl:is.length=bs.length)(N8:∀e∈aX bs is nb xb,hh.get e.1=some e.2):∀(rs:List RK) (ids2:List Nat) (m:Nat) (y:ky rs),oU bs rs=true →
  (∀e∈ag rs m y,hh.get e.1=some e.2)→bq bs rs hh is (aI rs ids2 nb m y)=some y
 |[],ids2,m,y,_,_=>rfl
 |.val k::r,ids2,m,y,hk,hg=>by
  simp only[oU,List.all_cons,Bool.and_eq_true,Ak]at hk
  have h1:=Jt hh k y.1
  have h2:=kK hl N8 r ids2 (m+1) y.2 hk.2 hg
  have e:bq bs (.val k::r) hh is (aI (.val k::r) ids2 nb m y)=(match eU k hh (bX k y.1),bq bs r hh is (aI r ids2 nb (m+1) y.2) with
   |some x,some y=>some ((x,y):k.T×ky r)
   |_,_=>none):=rfl
  rw[e]
  generalize eU k hh (bX k y.1)=o1 at h1 ⊢
  generalize bq bs r hh is (aI r ids2 nb (m+1) y.2)=o2 at h2 ⊢
  subst h1;subst h2;rfl
 |.own ok::r,ids2,m,y,hk,hg=>by
  simp only[oU,List.all_cons,Bool.and_eq_true,Ak]at hk
  simp only[ag]at hg
  have h1:=uE (hg _ List.mem_cons_self)
  have h2:=kK hl N8 r ids2 (m+1) y.2 hk.2 (fun e he=>hg e (List.mem_cons_of_mem _ he))
  have e:bq bs (.own ok::r) hh is (aI (.own ok::r) ids2 nb m y)=(match dt hh ok (.bp m),bq bs r hh is (aI r ids2 nb (m+1) y.2) with
   |some x,some y=>some ((x,y):ok.T×ky r)
   |_,_=>none):=rfl
  rw[e]
  generalize dt hh ok (.bp m)=o1 at h1 ⊢
  generalize bq bs r hh is (aI r ids2 nb (m+1) y.2)=o2 at h2 ⊢
  subst h1;subst h2;rfl
 |.dJ b alts::r,ids2,m,y,hk,hg=>by
  simp only[oU,List.all_cons,Bool.and_eq_true,Ak]at hk
  have h2:=kK hl N8 r ids2 (m+1) y.2 hk.2 hg
  have h1:lX bs hh is b alts (sI b nb alts y.1)=some y.1:=by
   cases hy:y.1 with
   |none=>rfl
   |some p =>
    obtain⟨al,i⟩:=p
    have h3:=hk.1
    split at h3
    ·rename_i bk T1
     have aE:=(List.getElem?_eq_some_iff.1 T1).1
     have Ju:is[b]? = some (is[b]'(by omega)):=List.getElem?_eq_getElem (by omega)
     rw[Bool.and_eq_true,decide_eq_true_eq]at h3
     obtain⟨h3,Db⟩:=h3
     have T2:∀a:Fin alts.length,eV bk.cU (alts.get a).1=true:=fun a=>List.all_eq_true.1 h3 _ (List.get_mem alts a)
     cases bk with
     |own ok=>have:=T2 al;simp[BK.cU,eV]at this
     |box ty c0 =>
      obtain⟨XC,h4⟩:=vJ bs b is nb xb ty c0 _ T1 Ju
      have h5:=N8 _ h4
      simp only[BK.cU]at T2
      simp only[lX,sI,T1,Ju,h5,BK.cU]
      have key:(List.finRange alts.length).find? (fun a=>vr c0 (av c0 (nb+16*b) XC) (nb+16*b+(alts.get al).1) (alts.get al).2.1 (alts.get al).2.2 (alts.get a))=some al:=by
       cases hf:(List.finRange alts.length).find? (fun a=>vr c0 (av c0 (nb+16*b) XC) (nb+16*b+(alts.get al).1) (alts.get al).2.1 (alts.get al).2.2 (alts.get a)) with
       |none =>
        have:=List.find?_eq_none.1 hf al (List.mem_finRange al)
        exfalso
        apply this
        simp only[vr,Bool.and_eq_true,decide_eq_true_eq]
        refine⟨?_,trivial,trivial,T2 al⟩
        rw[lH c0 _ _ XC (T2 al)]
        simp[K0]
       |some a' =>
        have hf':=List.find?_some hf
        obtain⟨h6,_,h7,_⟩:=xZ hf'
        rw[lH c0 _ _ XC (T2 a')]at h6
        simp only[Option.some.injEq,AV.bp.injEq]at h6
        have h8:(alts.get a').1=(alts.get al).1:=by omega
        congr 1
        have l9:∀a:Fin alts.length,(alts.map fun a=>(a.1,a.2.2))[a.val]? = some ((alts.get a).1,(alts.get a).2.2):=fun a=>by
         rw[List.getElem?_map,List.getElem?_eq_getElem a.isLt];rfl
        have e1:=l9 a'
        have e2:=l9 al
        rw[h8,←h7]at e1
        exact Fin.ext ((List.getElem?_inj (by simp) Db).1 (e1.trans e2.symm))
      rw[key]
      rfl
    ·cases h3
  have e:bq bs (.dJ b alts::r) hh is (aI (.dJ b alts::r) ids2 nb m y)=(match lX bs hh is b alts (sI b nb alts y.1),bq bs r hh is (aI r ids2 nb (m+1) y.2) with
   |some x,some y=>some ((x,y):Option (Fin alts.length×Nat)×ky r)
   |_,_=>none):=rfl
  rw[e]
  generalize lX bs hh is b alts (sI b nb alts y.1)=o1 at h1 ⊢
  generalize bq bs r hh is (aI r ids2 nb (m+1) y.2)=o2 at h2 ⊢
  subst h1;subst h2;rfl
 |.agg c::r,ids2,m,y,hk,hg=>by
  simp only[oU,List.all_cons,Bool.and_eq_true,Ak]at hk
  simp only[ag]at hg
  have h1:=nJ (hh:=hh) c m y.1 (fun e he=>hg e (List.mem_append_left _ he))
  have h2:=kK hl N8 r ids2 (m+1) y.2 hk.2 (fun e he=>hg e (List.mem_append_right _ he))
  have e:bq bs (.agg c::r) hh is (aI (.agg c::r) ids2 nb m y)=(match cr c hh (av c m y.1),bq bs r hh is (aI r ids2 nb (m+1) y.2) with
   |some x,some y=>some ((x,y):oR c×ky r)
   |_,_=>none):=rfl
  rw[e]
  generalize cr c hh (av c m y.1)=o1 at h1 ⊢
  generalize bq bs r hh is (aI r ids2 nb (m+1) y.2)=o2 at h2 ⊢
  subst h1;subst h2;rfl
end Go.Vs
namespace Go.Vs
variable {P:Program} {Z Z':Nat→Prop} {ψ ψ':Nat→Value} {h h':Hp} {w w':World} {B0:Nat} {O:Nat→Prop} {N:Nat→Prop}
def nK(g:aL)(x:g.A):Hp:=(aX g.bs (aF g.bs.length) 2000 x.2).get
def jc(g:aL)(y:g.B):Heap:=aX g.bs (aF g.bs.length) 2000 y.2++ag g.rs 3000 y.1
def Cl(g:aL)(x:g.A):List AV:=(aH g.ps (aF g.bs.length) 0 x.1).map (·.2)
def A5(P:Program)(f:FuncId)(g:aL)(x:g.A)(y:g.B):Prop :=
 ∀(Z:Nat→Prop) (ψ0:Nat→Value) (w:World) (jC:List Value),Good Z ψ0 (nK g x) w w.heap.size (Own ψ0 (nK g x))→ah Z ψ0 (nK g x) w (Cl g x) jC →
  Calls P (f%1000) jC.toArray w fun e w'=>∃v Z' ψ',e=.returned v∧(∀b,Z b→Z' b)∧(∀b,Z' b→Z b∨Own ψ0 (nK g x) b∨w.heap.size≤b)∧cF ψ0 (nK g x) w w' ∧
   Good Z' ψ' (jc g y).get w' w.heap.size (Own ψ0 (nK g x))∧(∀i∈aF g.bs.length,ψ' i=ψ0 i)∧ao Z' ψ' (jc g y).get w' (dO (aI g.rs (aF g.bs.length) 2000 3000 y.1)) v
theorem Cm{ψ:Nat→Value}{b:Nat}:¬Own ψ fh b:=fun⟨_,h,_⟩=>h rfl
theorem tf(ids:List Nat)(n:Nat)(x:ud []):aX [] ids n x=[]:=by cases ids<;>rfl
theorem A5.zero{f:FuncId}{g:aL}{x:g.A}{y:g.B}(hb:g.bs=[])(c:A5 P f g x y):TU P f g x y:=by
 obtain⟨ps,bs,rs,_⟩:=g
 simp only at hb
 subst hb
 intro Z w jC hz hr
 have e0:nK ⟨ps,[],rs,_⟩ x=fh:=by unfold nK;rw[tf];rfl
 have e1:jc ⟨ps,[],rs,_⟩ y=ag rs 3000 y.1:=by unfold jc;rw[tf];rfl
 have hO:Own FK fh=fun _=>False:=funext fun b=>propext ⟨Cm,False.elim⟩
 unfold A5 at c
 rw[e0,e1]at c
 refine(c Z FK w jC ⟨fun _ _ _ h=>(by cases h),fun _ _ _ h=>(by cases h),fun _ _ h=>absurd rfl h,fun _ _ _ h=>absurd rfl h,hz⟩ hr).mono fun e w' ⟨v,Z',ψ',h1,h2,h3,h4,h5,_,h6⟩=>?_
 exact⟨v,Z',ψ',h1,h2,fun b hb=>(h3 b hb).imp (fun h=>h) fun h=>h.resolve_left Cm,h4,by rw[hO]at h5;exact h5,h6⟩
theorem DJ{bs:List BK}{hh:Heap}{x:ud bs}(hd:cC bs hh []=some x):bs=[]:=by
 cases bs with
 |nil=>rfl
 |cons b r=>cases hd
variable {Eqs:TypeId→Option K} {Sg:FuncId→Option aL} {F:(f:FuncId)→(g:aL)→g.A→Option g.B}
theorem DK{a b:List Nat}(h:bR (a++b)=true):bR a=true:=by
 induction a with
 |nil=>rfl
 |cons i r ih =>
  obtain⟨h1,h2⟩:=lD h
  simp only[bR,Bool.and_eq_true,Bool.not_eq_true']
  refine⟨?_,ih h2⟩
  cases hc:r.contains i with
  |false=>rfl
  |true=>exact absurd (List.mem_append_left _ (List.contains_iff_mem.1 hc)) h1
theorem Good.Cn(g:Good Z ψ h w B0 O)(B:Nat):Good Z ψ h w B (Own ψ h) :=
 ⟨g.box,g.row,fun id b h1 h2=>⟨(g.live id b h1 h2).1,.inr ⟨id,h1,h2⟩⟩,g.apart,g.iR⟩
theorem mE:∀(l:List Nat) (hh:Heap) (i:Nat),(fS hh l).get i=if i∈l then none else hh.get i
 |[],hh,i=>by simp[fS]
 |j::r,hh,i=>by
  simp only[fS]
  rw[mE r (hh.del j) i]
  by_cases h1:i∈r
  ·simp[h1]
  ·by_cases h2:i=j
   ·subst h2;simp[Heap.fC]
   ·rw[Heap.gx h2];simp[h1,h2]
theorem fY:∀(cU:List CK) (n:Nat) (x:oR cU),(aM cU n x).map (·.1)=bU cU n
 |[],_,_=>rfl
 |.val k::r,n,x=>fY r (n+1) x.2
 |.own ok::r,n,x=>by simp only[aM,bU,List.map_cons];rw[fY r (n+1) x.2]
theorem kL:∀(bs:List BK) (is:List Nat) (n:Nat) (x:ud bs),is.length=bs.length→(aX bs is n x).map (·.1)=bM bs is n
 |[],is,n,x,_=>by cases is<;>rfl
 |b::r,[],n,x,hl=>by simp at hl
 |b::r,i::is,n,x,hl=>by
  simp only[aX,bM,List.map_append]
  rw[kL r is (n+16) x.2 (by simpa using hl),←List.cons_append]
  congr 1
  cases b with
  |box ty c=>simp only[ib,List.map_cons,BK.cU];rw[fY]
  |own ok=>simp[ib,BK.cU,bU]
theorem eI:∀(rs:List RK) (m:Nat) (y:ky rs),(ag rs m y).map (·.1)=aY rs m
 |[],_,_=>rfl
 |.own ok::r,m,y=>by simp only[ag,aY,List.map_cons];rw[eI r (m+1) y.2]
 |.val _::r,m,y=>eI r (m+1) y.2
 |.dJ _ _::r,m,y=>eI r (m+1) y.2
 |.agg c::r,m,y=>by
  have e1:(aM c m y.1).map (·.1)=bU c m:=fY c m y.1
  simp only[ag,aY,List.map_append]
  rw[eI r (m+1) y.2]
  exact congrArg (·++_) e1
theorem nL:∀(cU:List CK) (n:Nat) (x:oR cU),eO cU (av cU n x)=bU cU n
 |[],_,_=>rfl
 |.val k::r,n,x=>by
  have h2:(av (.val k::r) n x).drop k.sz=av r (n+1) x.2:=by simp only[av];rw[←dU k x.1,List.drop_left]
  have e:eO (.val k::r) (av (.val k::r) n x)=eO r ((av (.val k::r) n x).drop k.sz):=by generalize av (.val k::r) n x=l;cases l<;>rfl
  rw[e,h2,nL r (n+1) x.2];rfl
 |.own ok::r,n,x=>by simp only[av,eO,nk,bU,List.cons_append,List.nil_append];rw[nL r (n+1) x.2]
theorem vK{hh:Heap}:∀(bs:List BK) (is:List Nat) (n:Nat) (x:ud bs),is.length=bs.length→(∀e∈aX bs is n x,hh.get e.1=some e.2)→cE bs hh is=bM bs is n
 |[],is,n,x,_,_=>by cases is<;>rfl
 |_::_,[],n,x,hl,_=>by simp at hl
 |b::r,i::is,n,x,hl,hg=>by
  simp only[aX]at hg
  simp only[cE,bM]
  rw[vK r is (n+16) x.2 (by simpa using hl) (fun e he=>hg e (List.mem_append_right _ he)),←List.cons_append]
  congr 1
  cases b with
  |box ty c =>
   simp only[jt,BK.cU]
   rw[hg (i,.box ty (av c n x.1)) (List.mem_append_left _ (by simp only[ib];exact List.mem_cons_self))]
   simp only[]
   rw[nL]
  |own ok=>simp[jt,BK.cU,bU]
theorem jD:∀(rs:List RK) (ids:List Nat) (n m:Nat) (y:ky rs),dm rs (aI rs ids n m y)=aY rs m
 |[],_,_,_,_=>rfl
 |.own ok::r,ids,n,m,y=>by simp only[aI,dm,aY,nk,List.cons_append,List.nil_append];rw[jD r ids n (m+1) y.2]
 |.val _::r,ids,n,m,y=>by simp only[aI,dm,aY];exact jD r ids n (m+1) y.2
 |.dJ _ _::r,ids,n,m,y=>by simp only[aI,dm,aY];exact jD r ids n (m+1) y.2
 |.agg c::r,ids,n,m,y=>by
  have e1:eO c (av c m y.1)=bU c m:=nL c m y.1
  simp only[aI,dm,aY,AV.cells]
  rw[jD r ids n (m+1) y.2]
  exact congrArg (·++_) e1
theorem kM:∀(rs:List RK) (ids:List Nat) (n m:Nat) (y:ky rs) (id:Nat),AV.bp id∉fa rs (aI rs ids n m y)
 |[],_,_,_,_,_=>by simp[aI,fa]
 |.own ok::r,ids,n,m,y,id=>by simp only[aI,fa];exact kM r ids n (m+1) y.2 id
 |.val k::r,ids,n,m,y,id=>by
  simp only[aI,fa,List.mem_append]
  rintro(h|h)
  ·have e:(bX k y.1).cells=enc k y.1:=r9 k y.1
   exact kJ k y.1 id (e▸h)
  ·exact kM r ids n (m+1) y.2 id h
 |.dJ _ _::r,ids,n,m,y,id=>by simp only[aI,fa];exact kM r ids n (m+1) y.2 id
 |.agg c::r,ids,n,m,y,id=>by
  simp only[aI,fa,AV.cells,List.mem_append]
  rintro(h|h)
  ·exact wJ (hh:=[]) c m y.1 id h
  ·exact kM r ids n (m+1) y.2 id h
theorem Jv{gg:aL}{x:gg.A}{y:gg.B}{Lt:List Nat}{mo dx:Nat→Value}{id:Nat}(hl:Lt.length=gg.bs.length)(Ru:oU gg.bs gg.rs=true)(Gl:bR (oS gg)=true)
  (yc:bR (bM gg.bs Lt id++aY gg.rs (id+128))=true) (Lu:Good Z' dx (jc gg y).get w' w.heap.size (Own mo (nK gg x)))
  {v:Value} (Yt:ao Z' dx (jc gg y).get w' (dO (aI gg.rs (aF gg.bs.length) 2000 3000 y.1)) v) :
  ∃L2:List vE,da L2=aX gg.bs Lt id y.2++ag gg.rs (id+128) y.1∧L2.map (·.1)=bM gg.bs Lt id++aY gg.rs (id+128) ∧
   Good Z' (dK dx L2) (da L2).get w' w.heap.size (Own mo (nK gg x))∧(∀p∈(aF gg.bs.length).zip Lt,dK dx L2 p.2=dx p.1) ∧
   ao Z' (dK dx L2) (da L2).get w' (dO (aI gg.rs Lt id (id+128) y.1)) v:=by
 have hle:(aF gg.bs.length).length=gg.bs.length:=by simp[aF]
 have Yu:bR ((jc gg y).map (·.1))=true:=by
  unfold jc
  rw[List.map_append,kL _ _ _ _ hle,eI];exact Gl
 have N8:∀e∈aX gg.bs (aF gg.bs.length) 2000 y.2,(jc gg y).get e.1=some e.2:=fun e he=>uF Yu (by unfold jc;exact List.mem_append_left _ he)
 have Yv:∀e∈ag gg.rs 3000 y.1,(jc gg y).get e.1=some e.2:=fun e he=>uF Yu (by unfold jc;exact List.mem_append_right _ he)
 have Ao:=vI gg.bs _ 2000 y.2 hle N8
 have KQ:=kK (xb:=y.2) hle N8 gg.rs (aF gg.bs.length) 3000 y.1 Ru Yv
 let Yw:=aI gg.rs (aF gg.bs.length) 2000 3000 y.1
 let L2:List vE:=b8 gg.bs (jc gg y) (aF gg.bs.length) Lt id y.2++cf gg.rs Yw (id+128) y.1
 have eH:da L2=aX gg.bs Lt id y.2++ag gg.rs (id+128) y.1:=by
  show da (_++_)=_
  rw[lF,ij _ _ _ _ _ _ Ao hl,fD]
 have eN:L2.map (·.1)=bM gg.bs Lt id++aY gg.rs (id+128):=by
  show(_++_:List vE).map _=_
  rw[List.map_append,fV _ _ _ _ _ _ Ao hl,eF]
 have eS:L2.filterMap (·.2.1)=oS gg:=by
  show(_++_:List vE).filterMap _=_
  rw[List.filterMap_append,jA _ _ _ _ _ _ Ao hl,gQ _ _ _ _ KQ,vK _ _ 2000 y.2 hle N8,jD];rfl
 have hn:bR (L2.map (·.1))=true:=by rw[eN];exact yc
 have hZ:=wG (ψ:=dx) hn
 have g3:Good Z' (dK dx L2) (da L2).get w' w.heap.size (Own mo (nK gg x)):=by
  refine Lu.rename hn (by rw[eS];exact Gl) fun e he=>?_
  rcases List.mem_append.1 he with he|he
  ·exact kG Lu (fun _ h=>h) gg.bs _ _ id y.2 Ao (fun i b bD _ _=>(ya gg.bs _ 2000 y.2 i N8 bD).elim) (fun s _=>rfl) (fun e he=>hZ e (List.mem_append_left _ he)) e he
  ·exact iZ gg.rs Yw (id+128) y.1 KQ (fun s _=>rfl) e he
 refine⟨L2,eH,eN,g3,fun p hp=>?_,?_⟩
 ·obtain⟨o,ho⟩:=jB (hh:=jc gg y) gg.bs (aF gg.bs.length) Lt id y.2 hle p hp
  exact gP hn (List.mem_append_left _ ho)
 ·refine rZ (by rw[jv,jv]) (fun vs rO=>?_) Yt
  exact qq (nb:=id) (is':=Lt) Lu (fun _ h=>h) Ao hl (fun e he=>hZ e (List.mem_append_left _ he)) gg.rs Yw (id+128) y.1 vs KQ (fun i b bD _ _=>(kM gg.rs _ _ _ y.1 i bD).elim) (fun e he=>hZ e (List.mem_append_right _ he)) rO
theorem Jw{hh:Heap}{jV:List AV}{kept:List Nat}{ln:Hp}{mo Lv:Nat→Value}{H2:Heap}(g:Good Z ψ hh.get w B0 O)(hB:B0≤w.heap.size)(FL:∀s∈kept,(cm hh jV).get s=hh.get s)
  (aT:∀i ty cs,hh.get i=some (.box ty cs)→aw (fun i=>¬N i) cs) (rQ:∀b,Own mo ln b→∃s,s∈kept∧hh.get s≠none∧ob (ψ s)=some b)
  (hz:∀b,oP Z ψ hh.get jV b→Z' b) (KK:∀b,Z' b→oP Z ψ hh.get jV b∨Own mo ln b∨w.heap.size≤b) (keep:cF mo ln w w') (g3:Good Z' Lv H2.get w' w.heap.size (Own mo ln))
  (Rv:∀i ty cs,H2.get i=some (.box ty cs)→aw (fun j=>H2.get j≠none) cs) (qN:∀i,H2.get i≠none→(i∈kept∧hh.get i≠none∧Lv i=ψ i)∨N i) :
  ∃yd,(∀i,H2.get i≠none→yd i=Lv i)∧Next Z ψ hh.get w B0 O N Z' yd (H2++fS (cm hh jV) kept).get w':=by
 classical
 let yd:Nat→Value:=fun i=>if H2.get i≠none then Lv i else ψ i
 have h4:∀i,H2.get i≠none→yd i=Lv i:=fun i hi=>if_pos hi
 have hg:∀i,(H2++fS (cm hh jV) kept).get i=(match H2.get i with|some o=>some o|none=>if i∈kept then none else(cm hh jV).get i):=fun i=>by rw[Heap.get_append,mE];cases H2.get i<;>rfl
 have Am:∀i,H2.get i≠none→(H2++fS (cm hh jV) kept).get i=H2.get i:=fun i hi=>by
  rw[hg];cases e:H2.get i with
  |none=>exact absurd e hi
  |some o=>rfl
 have vL:∀i,H2.get i=none→(H2++fS (cm hh jV) kept).get i≠none→i∉kept∧(H2++fS (cm hh jV) kept).get i=hh.get i∧(cm hh jV).get i=hh.get i∧yd i=ψ i∧hh.get i≠none:=fun i hi aV=>by
  rw[hg,hi]at aV ⊢
  simp only at aV ⊢
  by_cases hk:i∈kept
  ·rw[if_pos hk]at aV;exact absurd rfl aV
  ·rw[if_neg hk]at aV ⊢
   obtain⟨o,ho⟩:=Option.ne_none_iff_exists'.1 aV
   have:=dz _ _ _ _ ho
   exact⟨hk,by rw[ho,this],by rw[ho,this],if_neg (by simp[hi]),by rw[this];simp⟩
 have OO:∀i b,i∉kept→hh.get i≠none→ob (ψ i)=some b→¬Own mo ln b:=fun i b hk hi hb ho=>by
  obtain⟨s,h1,h2,h3⟩:=rQ b ho
  exact hk ((g.apart i s b hi h2 hb h3)▸h1)
 have gd:Good (oP Z ψ hh.get jV) ψ (cm hh jV).get w B0 O:=gy g jV
 have T3:∀b,oP Z ψ hh.get jV b→¬Own mo ln b:=fun b hb ho=>by
  obtain⟨s,h1,h2,h3⟩:=rQ b ho
  exact(gd.live s b (by rw[FL s h1];exact h2) h3).1 hb
 have sm:b4 (oP Z ψ hh.get jV) w w':=fun b hb=>keep.block b (gd.iR b hb) (T3 b hb)
 have T4:∀i,(H2++fS (cm hh jV) kept).get i≠none→(hh.get i≠none∧yd i=ψ i)∨N i:=fun i hi=>by
  by_cases h2:H2.get i=none
  ·obtain⟨_,_,_,h3,h5⟩:=vL i h2 hi
   exact .inl ⟨h5,h3⟩
  ·rcases qN i h2 with⟨_,h3,h5⟩|h3
   ·exact .inl ⟨h3,(h4 i h2).trans h5⟩
   ·exact .inr h3
 have kk:cF ψ hh.get w w':=⟨keep.os,keep.tape,keep.output,keep.size,fun b hb pj=>keep.block b hb fun ho=>by
  obtain⟨s,_,h2,h3⟩:=rQ b ho
  exact pj ⟨s,h2,h3⟩⟩
 refine⟨yd,h4,fun b hb=>hz b (.inl hb),fun b hb=>?_,kk,T4,⟨fun i ty cs hb=>?_,fun i ok xs hb=>?_,fun i b h1 h2=>?_,fun i i' b h1 h2 h3 h5=>?_,g3.iR⟩⟩
 ·rcases KK b hb with h1|h1|h1
  ·exact(h1.imp (fun h=>h) fun⟨i,_,h2,h3⟩=>.inl ⟨i,h2,h3⟩)
  ·obtain⟨s,_,h2,h3⟩:=rQ b h1
   exact .inr (.inl ⟨s,h2,h3⟩)
  ·exact .inr (.inr h1)
 ·by_cases h2:H2.get i=none
  ·obtain⟨h3,h5,h6,h7,h8⟩:=vL i h2 (by rw[hb];simp)
   rw[h5]at hb
   obtain⟨gg,vs,e1,e2,e3,e4⟩:=gd.box i ty cs (by rw[h6];exact hb)
   have aE:=(Array.getElem?_eq_some_iff.1 e2).1
   refine⟨gg,vs,by rw[h7,e1],?_,?_,e4⟩
   ·rw[keep.block gg aE (OO i gg h3 h8 (by rw[e1];rfl))];exact e2
   ·refine e3.move (p:=fun i=>¬N i) hz sm (fun j hp hj=>?_) (aT i ty cs hb)
    by_cases h9:H2.get j=none
    ·obtain⟨_,_,l8,we,FI⟩:=vL j h9 hj
     exact⟨by rw[l8];exact FI,we⟩
    ·rcases qN j h9 with⟨l8,we,FI⟩|l8
     ·exact⟨by rw[FL j l8];exact we,(h4 j h9).trans FI⟩
     ·exact absurd l8 hp
  ·rw[Am i h2]at hb
   obtain⟨gg,vs,e1,e2,e3,e4⟩:=g3.box i ty cs hb
   exact⟨gg,vs,by rw[h4 i h2,e1],e2,e3.move (p:=fun j=>H2.get j≠none) (fun _ h=>h) (b4.refl _ _) (fun j hp _=>⟨hp,h4 j hp⟩) (Rv i ty cs hb),e4⟩
 ·by_cases h2:H2.get i=none
  ·obtain⟨h3,h5,h6,h7,h8⟩:=vL i h2 (by rw[hb];simp)
   rw[h5]at hb
   rw[h7]
   exact(gd.row i ok xs (by rw[h6];exact hb)).kept hz sm fun gg I9=>keep.block gg (g.bw ⟨i,h8,I9⟩) (OO i gg h3 h8 I9)
  ·rw[Am i h2]at hb
   rw[h4 i h2]
   exact g3.row i ok xs hb
 ·by_cases h3:H2.get i=none
  ·obtain⟨h5,h6,h7,h8,h9⟩:=vL i h3 h1
   rw[h8]at h2
   obtain⟨l8,we⟩:=gd.live i b (by rw[h7];exact h9) h2
   refine⟨fun TH=>?_,we⟩
   rcases KK b TH with FI|FI|FI
   ·exact l8 FI
   ·exact OO i b h5 h9 h2 FI
   ·have:=g.bw ⟨i,h9,h2⟩;omega
  ·rw[h4 i h3]at h2
   obtain⟨h5,h6⟩:=g3.live i b h3 h2
   refine⟨h5,?_⟩
   rcases h6 with h6|h6
   ·exact .inl (by omega)
   ·obtain⟨s,_,h7,h8⟩:=rQ b h6
    exact(g.live s b h7 h8).2
 ·have vv:∀i i',H2.get i=none→H2.get i'≠none→(H2++fS (cm hh jV) kept).get i≠none→ob (yd i)=some b→ob (yd i')=some b→False:=fun i i' e1 e2 e3 e4 e5=>by
   obtain⟨h6,_,_,h8,h9⟩:=vL i e1 e3
   rw[h8]at e4;rw[h4 i' e2]at e5
   rcases (g3.live i' b e2 e5).2 with l8|l8
   ·have:=g.bw ⟨i,h9,e4⟩;omega
   ·exact OO i b h6 h9 e4 l8
  by_cases e1:H2.get i=none<;>by_cases e2:H2.get i'=none
  ·obtain⟨_,_,_,h8,h9⟩:=vL i e1 h1
   obtain⟨_,_,_,h8',Xx⟩:=vL i' e2 h2
   rw[h8]at h3;rw[h8']at h5
   exact g.apart i i' b h9 Xx h3 h5
  ·exact(vv i i' e1 e2 h1 h3 h5).elim
  ·exact(vv i' i e2 e1 h2 h5 h3).elim
  ·rw[h4 i e1]at h3;rw[h4 i' e2]at h5
   exact g3.apart i i' b e1 e2 h3 h5
theorem wK{i:Nat}{o:Ob}:∀{hh:Heap},(i,o)∈hh→hh.get i≠none
 |[],h=>by cases h
 |(j,o')::r,h=>by
  simp only[Heap.get]
  split
  ·simp
  ·rename_i hn
   rcases List.mem_cons.1 h with e|h
   ·cases e;exact absurd rfl hn
   ·exact wK h
theorem get_mem{i:Nat}{o:Ob}:∀{hh:Heap},hh.get i=some o→(i,o)∈hh
 |[],h=>by simp[Heap.get]at h
 |(j,o')::r,h=>by
  simp only[Heap.get]at h
  split at h
  ·rename_i e;subst e;cases h;exact List.mem_cons_self
  ·exact List.mem_cons_of_mem _ (get_mem h)
theorem nM{p:Nat→Prop}:∀{a b:List AV},aw p a→aw p b→aw p (a++b)
 |[],b,_,h=>h
 |x::r,b,h,h'=>by simp only[List.cons_append,aw]at h ⊢;exact⟨h.1,nM h.2 h'⟩
theorem jw{p:Nat→Prop}:∀(cU:List CK) (n:Nat) (x:oR cU),(∀e∈aM cU n x,p e.1)→aw p (av cU n x)
 |[],n,x,_=>by simp only[av,aw]
 |.val k::r,n,x,h=>by simp only[av];exact nM (kI p k x.1) (jw r (n+1) x.2 h)
 |.own ok::r,n,x,h=>by
  simp only[aM]at h
  simp only[av,aw,aC]
  exact⟨h _ List.mem_cons_self,jw r (n+1) x.2 fun e he=>h e (List.mem_cons_of_mem _ he)⟩
theorem lI:∀(cU:List CK) (n:Nat) (x:oR cU) (i:Nat) (ty:TypeId) (cs:List AV),(i,Ob.box ty cs)∉aM cU n x
 |[],_,_,_,_,_=>by simp[aM]
 |.val k::r,n,x,i,ty,cs=>lI r (n+1) x.2 i ty cs
 |.own _::r,n,x,i,ty,cs=>by
  simp only[aM,List.mem_cons,not_or]
  exact⟨by simp,lI r (n+1) x.2 i ty cs⟩
theorem rh{p:Nat→Prop}:∀(bs:List BK) (is:List Nat) (n:Nat) (x:ud bs),(∀e∈aX bs is n x,p e.1)→∀i ty cs,(i,Ob.box ty cs)∈aX bs is n x→aw p cs
 |[],is,n,x,_,i,ty,cs,h=>by cases is<;>simp[aX]at h
 |b::r,[],n,x,_,i,ty,cs,h=>by simp[aX]at h
 |b::r,i0::is,n,x,hp,i,ty,cs,h=>by
  simp only[aX]at h hp
  rcases List.mem_append.1 h with h|h
  ·cases b with
   |box ty0 c0 =>
    simp only[ib]at h hp
    rcases List.mem_cons.1 h with e|h
    ·cases e
     exact jw c0 n x.1 fun e he=>hp e (List.mem_append_left _ (List.mem_cons_of_mem _ he))
    ·exact absurd h (lI _ _ _ _ _ _)
   |own ok=>simp[ib]at h
  ·exact rh r is (n+16) x.2 (fun e he=>hp e (List.mem_append_right _ he)) i ty cs h
theorem lJ:∀(cU:List CK) (n i:Nat),i∈bU cU n→n≤i∧i<n+cU.length
 |[],n,i,h=>by simp[bU]at h
 |.val k::r,n,i,h=>by
  have:=lJ r (n+1) i (by simpa[bU] using h)
  simp only[List.length_cons];omega
 |.own ok::r,n,i,h=>by
  simp only[bU]at h
  simp only[List.length_cons]
  rcases List.mem_cons.1 h with rfl|h
  ·omega
  ·have:=lJ r (n+1) i h;omega
theorem tg:∀(bs:List BK) (is:List Nat) (n i:Nat),(bs.all fun b=>decide (b.cU.length≤16))=true→i∈bM bs is n→i∈is∨(n≤i∧i<n+16*bs.length)
 |[],is,n,i,_,h=>by cases is<;>simp[bM]at h
 |b::r,[],n,i,_,h=>by simp[bM]at h
 |b::r,i0::is,n,i,hc,h=>by
  simp only[List.all_cons,Bool.and_eq_true,decide_eq_true_eq]at hc
  simp only[bM]at h
  simp only[List.length_cons]
  rcases List.mem_cons.1 h with rfl|h
  ·exact .inl List.mem_cons_self
  ·rcases List.mem_append.1 h with h|h
   ·have:=lJ _ _ _ h;exact .inr (by omega)
   ·rcases tg r is (n+16) i hc.2 h with h1|h1
    ·exact .inl (List.mem_cons_of_mem _ h1)
    ·exact .inr (by omega)
theorem ir{bs:List BK}:∀(rs:List RK) (m i:Nat),oU bs rs=true→i∈aY rs m→m≤i∧i<m+rs.length+16
 |[],m,i,_,h=>by simp[aY]at h
 |.own ok::r,m,i,hk,h=>by
  simp only[oU,List.all_cons,Bool.and_eq_true]at hk
  simp only[aY]at h
  simp only[List.length_cons]
  rcases List.mem_cons.1 h with rfl|h
  ·omega
  ·have:=ir r (m+1) i hk.2 h;omega
 |.val _::r,m,i,hk,h=>by
  simp only[oU,List.all_cons,Bool.and_eq_true]at hk
  have:=ir r (m+1) i hk.2 (by simpa[aY] using h)
  simp only[List.length_cons];omega
 |.dJ _ _::r,m,i,hk,h=>by
  simp only[oU,List.all_cons,Bool.and_eq_true]at hk
  have:=ir r (m+1) i hk.2 (by simpa[aY] using h)
  simp only[List.length_cons];omega
 |.agg c::r,m,i,hk,h=>by
  simp only[oU,List.all_cons,Bool.and_eq_true,Ak,decide_eq_true_eq]at hk
  simp only[aY]at h
  simp only[List.length_cons]
  rcases List.mem_append.1 h with h|h
  ·have:=lJ c m i h;omega
  ·have:=ir r (m+1) i hk.2 h;omega
theorem vM{hh:Heap}:∀(bs:List BK) (is:List Nat) (i:Nat),is.length=bs.length→i∈is→i∈cE bs hh is
 |[],is,i,hl,h=>by cases is with
  |nil=>cases h
  |cons a r=>simp at hl
 |b::r,[],i,_,h=>by cases h
 |b::r,i0::is,i,hl,h=>by
  simp only[cE]
  rcases List.mem_cons.1 h with rfl|h
  ·refine List.mem_append_left _ ?_
   cases b<;>simp[jt]
  ·exact List.mem_append_right _ (vM r is i (by simpa using hl) h)
theorem Lw{α β:Type}:∀{a:List α} {b:List β},a.length=b.length→∀x∈a,∃y,(x,y)∈a.zip b∧(y,x)∈b.zip a
 |[],b,_,x,h=>by cases h
 |a::r,[],hl,x,_=>by simp at hl
 |a::r,c::q,hl,x,h=>by
  simp only[List.zip_cons_cons]
  rcases List.mem_cons.1 h with rfl|h
  ·exact⟨c,List.mem_cons_self,List.mem_cons_self⟩
  ·obtain⟨y,h1,h2⟩:=Lw (a:=r) (b:=q) (by simpa using hl) x h
   exact⟨y,List.mem_cons_of_mem _ h1,List.mem_cons_of_mem _ h2⟩
theorem sf:∀(cU:List CK) (n c:Nat),eV cU c=true→n+c∈bU cU n
 |[],n,c,h=>by simp[eV]at h
 |.own _::r,n,0,_=>by simp[bU]
 |.own _::r,n,c+1,h=>by
  simp only[eV]at h
  have:=sf r (n+1) c h
  simp only[bU]
  exact List.mem_cons_of_mem _ (by rwa [show n+(c+1)=n+1+c by omega])
 |.val _::r,n,0,h=>by simp[eV]at h
 |.val _::r,n,c+1,h=>by
  simp only[eV]at h
  have:=sf r (n+1) c h
  simp only[bU]
  rwa [show n+(c+1)=n+1+c by omega]
theorem vN:∀(bs:List BK) (is:List Nat) (n b i:Nat) (bk:BK),is.length=bs.length→bs[b]? = some bk→i∈bU bk.cU (n+16*b)→i∈bM bs is n
 |[],_,_,b,_,_,_,h,_=>by simp at h
 |_::_,[],_,_,_,_,hl,_,_=>by simp at hl
 |b0::r,i0::is,n,0,i,bk,hl,hb,hi=>by
  simp only[List.getElem?_cons_zero,Option.some.injEq]at hb
  subst hb
  simp only[bM]
  exact List.mem_cons_of_mem _ (List.mem_append_left _ (by simpa using hi))
 |b0::r,i0::is,n,b+1,i,bk,hl,hb,hi=>by
  simp only[List.getElem?_cons_succ]at hb
  simp only[bM]
  refine List.mem_cons_of_mem _ (List.mem_append_right _ (vN r is (n+16) b i bk (by simpa using hl) hb ?_))
  rwa [show n+16+16*b=n+16*(b+1) by omega]
theorem jE{p:Nat→Prop}{bs:List BK}{is:List Nat}(hl:is.length=bs.length):∀(rs:List RK) (ids:List Nat) (n m:Nat) (y:ky rs),oU bs rs=true→(∀i∈aY rs m,p i)→(∀i∈bM bs is n,p i)→aw p (aI rs ids n m y)
 |[],_,_,_,_,_,_,_=>by simp only[aI,aw]
 |.val k::r,ids,n,m,y,hr,h1,h2=>by
  simp only[oU,List.all_cons,Bool.and_eq_true,Ak]at hr
  simp only[aI,aw]
  exact⟨mD p k y.1,jE hl r ids n (m+1) y.2 hr.2 (fun i hi=>h1 i hi) h2⟩
 |.own _::r,ids,n,m,y,hr,h1,h2=>by
  simp only[oU,List.all_cons,Bool.and_eq_true,Ak]at hr
  simp only[aI,aw,aC]
  exact⟨h1 m (by simp[aY]),jE hl r ids n (m+1) y.2 hr.2 (fun i hi=>h1 i (by simp only[aY];exact List.mem_cons_of_mem _ hi)) h2⟩
 |.dJ b alts::r,ids,n,m,y,hr,h1,h2=>by
  simp only[oU,List.all_cons,Bool.and_eq_true,Ak]at hr
  simp only[aI,aw]
  refine⟨?_,jE hl r ids n (m+1) y.2 hr.2 (fun i hi=>h1 i hi) h2⟩
  cases hy:y.1 with
  |none=>simp only[sI,aC]
  |some p =>
   obtain⟨al,i⟩:=p
   simp only[sI,aC]
   cases hb:bs[b]? with
   |none=>rw[hb]at hr;exact absurd hr.1 (by simp)
   |some bk =>
    rw[hb]at hr
    simp only[Bool.and_eq_true]at hr
    exact h2 _ (vN bs is n b _ bk hl hb (sf bk.cU (n+16*b) _ (List.all_eq_true.1 hr.1.1 _ (List.get_mem alts al))))
 |.agg c::r,ids,n,m,y,hr,h1,h2=>by
  simp only[oU,List.all_cons,Bool.and_eq_true,Ak]at hr
  simp only[aI,aw,aC]
  refine⟨jw c m y.1 fun e he=>h1 _ ?_,jE hl r ids n (m+1) y.2 hr.2 (fun i hi=>h1 i (by simp only[aY];exact List.mem_append_right _ hi)) h2⟩
  simp only[aY]
  have e1:(aM c m y.1).map (·.1)=bU c m:=fY c m y.1
  exact List.mem_append_left _ (e1▸List.mem_map.2 ⟨e,he,rfl⟩)
theorem Gm{p:Nat→Prop}{vs:List AV}(h:aw p vs):aC p (dO vs):=by
 match vs,h with
 |[],h=>simp only[dO,aC];exact h
 |[v],h=>simp only[dO];simp only[aw]at h;exact h.1
 |_::_::_,h=>simp only[dO,aC];exact h
def gE(P:Program)(f:FuncId)(u:Heap→Nat→List AV→Option (Bool×bj)):Prop :=
 ∀{Z:Nat→Prop} {ψ:Nat→Value} {h:Hp} {w:World} {B0:Nat} {O N:Nat→Prop} {hh:Heap} {id:Nat} {e:bj} {vs:List AV} {us:List Value},
  Good Z ψ h w B0 O→B0≤w.heap.size→(∀id o,hh.get id=some o→h id=some o)→(∀j,j<256→N (id+j))→(∀i ty cs,h i=some (.box ty cs)→aw (fun i=>¬N i) cs)→(∀v hw,e=.wr v hw→hh.get=h) →
  ah Z ψ h w vs us→aw (fun i=>¬N i) vs→u hh id vs=some (true,e) →
  Calls P f us.toArray w fun en w'=>∃V Z' ψ',en=.returned V∧Next Z ψ h w B0 O N Z' ψ' (e.hp h) w'∧ao Z' ψ' (e.hp h) w' e.v V
theorem OP{R:Type}{n:Nat}(a:Fin n)(f:Fin n→Option R):TF n a f=f a:=by
 have key:∀l:List (Fin n),a∈l→l.foldr (fun j r=>cond (a.val==j.val) (f j) r) none=f a:=by
  intro l
  induction l with
  |nil=>intro h;cases h
  |cons j r ih =>
   intro h
   simp only[List.foldr_cons]
   by_cases e:a=j
   ·subst e;simp
   ·have:(a.val==j.val)=false:=by simp only[beq_eq_false_iff_ne,ne_eq];exact fun h=>e (Fin.ext h)
    rw[this,cond_false]
    rcases List.mem_cons.1 h with h|h
    ·exact absurd h e
    ·exact ih h
 exact key _ (List.mem_finRange a)
theorem gR{R:Type}:∀(rs:List RK) (x:ky rs) (K:ky rs→Option R),iP rs x K=K x
 |[],_,_=>rfl
 |.val _::r,x,K=>by simp only[iP];rw[gR r x.2];rfl
 |.own _::r,x,K=>by simp only[iP];rw[gR r x.2];rfl
 |.agg _::r,x,K=>by simp only[iP];rw[gR r x.2];rfl
 |.dJ _ alts::r,x,K=>by
  simp only[iP]
  obtain⟨x1,x2⟩:=x
  cases x1 with
  |none=>simp only[oV];rw[gR r x2]
  |some p=>simp only[oV];rw[OP,gR r x2]
theorem Gn(hX:∀f g u,Sg f=some g→g.x=some u→gE P (f%1000) u)(hF:∀f g x y,Sg f=some g→F f g x=some y→A5 P f g x y)(Jx:∀f g,Sg f=some g→im P (f%1000))
  {hh:Heap} {ρC:Operand→Value} {o:Oper} (g:Good Z ψ h w B0 O) (hB:B0≤w.heap.size) (aZ:∀id o,hh.get id=some o→h id=some o) {id:Nat} (hN:∀j,j<256→N (id+j)) {e:bj}
  (aT:∀i ty cs,h i=some (.box ty cs)→aw (fun i=>¬N i) cs) (lB:∀v hw,e=.wr v hw→hh.get=h) {f:FuncId} {cap vs:List AV} {fv:Value} {us:List Value}
  (OQ:ao Z ψ h w (.fn f cap) fv) (rO:ah Z ψ h w vs us) (Ci:aw (fun i=>¬N i) (vs++cap)) (hex:∀(ws:Array Value),fv=.func (.func f) #[] ws→execOp ρC o=callFunc f (us.toArray++ws))
  (he:ic Sg F hh id f (vs++cap) some=some e):Qo P ρC o Z ψ h w B0 O N e:=by
 unfold ic at he
 split at he
 ·cases he
 rename_i gg XD
 simp only[ao]at OQ
 obtain⟨ws,rfl,Rx⟩:=OQ
 have A6:=Jx _ _ XD
 have j6:ah Z ψ h w (vs++cap) (us++ws.toList):=ah.append rO Rx
 have Co:ah Z ψ hh.get w (vs++cap) (us++ws.toList):=j6.oI aZ
 have gs:Good Z ψ hh.get w B0 O:=g.sub aZ
 have Lx:us.toArray++ws=(us++ws.toList).toArray:=by simp
 split at he
 ·rename_i u hu
  split at he
  ·rename_i hf
   obtain⟨⟨b,e'⟩,T5,N2⟩:=Option.bind_eq_some_iff.1 he
   cases b with
   |false=>cases N2
   |true =>
   cases N2
   have DL:keyOf Sg f (vs++cap)%1000=f:=by rw[uB];exact Nat.mod_eq_of_lt hf
   have hx:gE P f u:=by rw[←DL];exact hX _ _ _ XD hu
   rw[DL]at A6
   refine⟨f,us.toArray++ws,by rw[hex ws rfl];exact iq A6 _,?_⟩
   rw[Lx]
   exact hx g hB aZ hN aT lB j6 Ci T5
  ·cases he
 split at he
 ·rename_i i0 qN Cp
  split at he
  ·rename_i Jy
   simp only[Bool.and_eq_true,List.isEmpty_iff]at Jy
   obtain⟨rfl,_⟩:=Jy
   split at he
   rotate_left
   ·cases he
   rename_i x b hx hb pn
   obtain⟨y,hy,he⟩:=Option.bind_eq_some_iff.1 he
   simp only[K1,Bool.and_eq_true,decide_eq_true_eq]at Cp
   obtain⟨_,_,⟨hlen,hf⟩,_⟩:=Cp
   have As:=(hF _ _ _ _ XD hy).zero (DJ hb)
   have DL:keyOf Sg f (vs++cap)%1000=f:=by rw[uB];exact Nat.mod_eq_of_lt hf
   rw[DL]at A6
   have Yx:∀j,j<gg.rs.length+16→N (id+128+j):=fun j hj=>by rw[Nat.add_assoc];exact hN _ (by omega)
   refine⟨f,us.toArray++ws,by rw[hex ws rfl];exact iq A6 _,?_⟩
   rw[Lx]
   unfold TU at As
   rw[DL]at As
   by_cases pj:oT (vs++cap)=true
   ·rw[pj,Bool.or_true]at he
    cases he
    have h1:ah Z FK fh w (A1 gg x) (us++ws.toList):=xV gs (fun _ h=>h) gg.ps 0 _ _ x (fun v hv i b hi _ _=>(po pj v hv i hi).elim) qN hx Co
    refine(As Z w _ g.iR h1).mono fun en w' ⟨v,Z',ψ',e1,h2,h3,h4,h5,h6⟩=>?_
    obtain⟨sd,n,hr⟩:=uC (nb:=id) pn g hB aT Yx h4 h2 h3 h5 h6
    exact⟨v,Z',sd,e1,n,hr⟩
   ·cases XE:gg.rs.all RK.flat with
    |true =>
     rw[XE,Bool.true_or]at he
     cases he
     let Zc:Nat→Prop:=fun b=>b<w.heap.size
     have h1:ah Zc FK fh w (A1 gg x) (us++ws.toList):=xV gs g.iR gg.ps 0 _ _ x (fun v hv i b hi h1 h2=>gs.bw ⟨i,h1,h2⟩) qN hx Co
     refine(As Zc w _ (fun _ h=>h) h1).mono fun en w' ⟨v,Z',ψ',e1,h2,h3,h4,h5,h6⟩=>?_
     have T6:=Jp gg.rs 3000 y.1 XE pn
     have h7:ao Z ψ' (ag gg.rs 3000 y.1).get w' (dO (aI gg.rs [] 2000 3000 y.1)) v:=rZ rfl (fun vs rO=>Lq gg.rs XE pn rO) h6
     have gz:Good Z ψ' (ag gg.rs 3000 y.1).get w' w.heap.size (fun _=>False):=by
      rw[T6]
      exact⟨fun _ _ _ hb=>by simp[Heap.get]at hb,fun _ _ _ hb=>by simp[Heap.get]at hb,fun _ _ hb=>by simp[Heap.get]at hb,fun _ _ _ hb=>by simp[Heap.get]at hb,fun b hb=>Nat.lt_of_lt_of_le (g.iR b hb) h4.size⟩
     obtain⟨sd,n,hr⟩:=uC (nb:=id) pn g hB aT Yx h4 (fun _ h=>h) (fun _ h=>.inl h) gz h7
     exact⟨v,Z,sd,e1,n,hr⟩
    |false =>
     rw[XE,Bool.false_or,Bool.eq_false_iff.2 pj]at he
     cases he
     have heq:=lB _ _ rfl
     subst heq
     let cs:=cS gg.ps (vs++cap)
     have OC:∀b,oP Z ψ hh.get cs b→Z b∨Own ψ hh.get b:=fun b hb=>hb.imp (fun h=>h) (fun⟨i,_,h2,h3⟩=>⟨i,h2,h3⟩)
     have gd:Good (oP Z ψ hh.get cs) ψ (cm hh cs).get w B0 O:=gy g cs
     have h1:ah (oP Z ψ hh.get cs) FK fh w (A1 gg x) (us++ws.toList) :=
      xV gs (fun _ h=>.inl h) gg.ps 0 _ _ x (fun v hv i b hi h1 h2=>.inr ⟨i,te _ _ qN v hv i hi,h1,h2⟩) qN hx Co
     refine(As _ w _ gd.iR h1).mono fun en w' ⟨v,Z',ψ',e1,h2,h3,h4,h5,h6⟩=>?_
     obtain⟨sd,n,hr⟩:=uC (nb:=id) pn gd hB (fun i ty cs hb=>aT i ty cs (dz _ _ _ _ hb)) Yx h4 h2 h3 h5 h6
     have e2:(bj.wr (dO (aI gg.rs [] id (id+128) y.1)) (ag gg.rs (id+128) y.1++cm hh (cS gg.ps (vs++cap)))).hp hh.get=(fun i=>match (ag gg.rs (id+128) y.1).get i with|some o=>some o|none=>(cm hh cs).get i):=by
      funext i
      simp only[bj.hp]
      rw[Heap.get_append]
      cases (ag gg.rs (id+128) y.1).get i<;>rfl
     rw[e2]
     exact⟨v,Z',sd,e1,n.drop (fun _ h=>.inl h) OC (dz _ _),hr⟩
  ·split at he
   rotate_left
   ·cases he
   rename_i x b hx hb Au
   obtain⟨y,hy,he⟩:=Option.bind_eq_some_iff.1 he
   rw[gR]at he
   cases he
   have heq:=lB _ _ rfl
   subst heq
   simp only[K1,Bool.and_eq_true,decide_eq_true_eq]at Cp
   obtain⟨Ru,⟨hbl,sG⟩,⟨hlen,hf⟩,Gl⟩:=Cp
   rw[Bool.and_eq_true]at Au
   have As:=hF _ _ _ _ XD hy
   have DL:keyOf Sg f (vs++cap)%1000=f:=by rw[uB];exact Nat.mod_eq_of_lt hf
   rw[DL]at A6
   refine⟨f,us.toArray++ws,by rw[hex ws rfl];exact iq A6 _,?_⟩
   rw[Lx]
   unfold A5 at As
   rw[DL]at As
   have hl:i0.length=gg.bs.length:=(il _ _ _ hb).1
   have ye:=(il _ _ _ hb).2
   have hle:(aF gg.bs.length).length=gg.bs.length:=by simp[aF]
   let jV:=cS gg.ps (vs++cap)++eZ gg.bs hh i0
   let L1:List vE:=b8 gg.bs hh i0 (aF gg.bs.length) 2000 b
   have eH1:da L1=aX gg.bs (aF gg.bs.length) 2000 b:=ij _ _ _ _ _ _ hb hle
   have eN1:L1.map (·.1)=bM gg.bs (aF gg.bs.length) 2000:=fV _ _ _ _ _ _ hb hle
   have eS1:L1.filterMap (·.2.1)=cE gg.bs hh i0:=jA _ _ _ _ _ _ hb hle
   have T7:bR (L1.map (·.1))=true:=by rw[eN1];exact DK Gl
   have Rq:=wG (ψ:=ψ) T7
   have FL:=(qp Au.1).2 hh
   have vA:∀b,Z b→oP Z ψ hh.get jV b:=fun b hb=>.inl hb
   have T8:∀e∈L1,tc (oP Z ψ hh.get jV) ψ (cm hh jV).get w (da L1).get (dK ψ L1) e:=fun e he =>
    kG gs vA gg.bs _ _ 2000 b hb (fun i b bD h1 h2=>.inr ⟨i,List.mem_append_right _ bD,h1,h2⟩) FL Rq e he
   have gin:Good (oP Z ψ hh.get jV) (dK ψ L1) (da L1).get w B0 O:=uA gs Au.1 T7 eS1 T8
   have Yy:(da L1).get=nK gg (x,b):=by rw[eH1];rfl
   have Ly:∀p∈i0.zip (aF gg.bs.length),(p.2,some p.1)∈L1.map (fun e=>(e.1,e.2.1)):=fun p hp=>by
    obtain⟨o,ho⟩:=jB (hh:=hh) gg.bs i0 (aF gg.bs.length) 2000 b hl p hp
    exact List.mem_map.2 ⟨_,ho,rfl⟩
   have T9:∀p∈i0.zip (aF gg.bs.length),dK ψ L1 p.2=ψ p.1:=fun p hp=>by
    obtain⟨⟨i,s,o⟩,ho,he⟩:=List.mem_map.1 (Ly p hp)
    cases he
    exact gP T7 ho
   have Ry:ah (oP Z ψ hh.get jV) (dK ψ L1) (da L1).get w (Cl gg (x,b)) (us++ws.toList) :=
    kh gs vA gg.ps i0 (aF gg.bs.length) 0 _ _ x (by rw[hle,hl]) qN hx (fun i b bD h1 h2=>.inr ⟨i,List.mem_append_left _ bD,h1,h2⟩)
     (fun p hp=>⟨ye _ (List.of_mem_zip hp).1,fun _=>T9 p hp⟩) Co
   have rQ:∀c,Own (dK ψ L1) (nK gg (x,b)) c→∃s,s∈cE gg.bs hh i0∧hh.get s≠none∧ob (ψ s)=some c:=fun c ⟨i,h1,h2⟩=>by
    rw[←Yy]at h1
    obtain⟨o,ho⟩:=Option.ne_none_iff_exists'.1 h1
    obtain⟨s,hm⟩:=mC ho
    rw[gP T7 hm]at h2
    cases s with
    |none=>simp[iX,ob]at h2
    |some s =>
     have hs:s∈cE gg.bs hh i0:=by rw[←eS1];exact List.mem_filterMap.2 ⟨_,hm,rfl⟩
     refine⟨s,hs,?_,h2⟩
     have h3:=T8 _ hm
     rw[←FL s hs]
     cases o with
     |box ty cs=>obtain⟨⟨Yp,h4⟩,_⟩:=h3;rw[h4];simp
     |own ok xs=>rw[show(cm hh jV).get s=some (.own ok xs) from h3];simp
   refine(As (oP Z ψ hh.get jV) (dK ψ L1) w (us++ws.toList) (by rw[←Yy];exact gin.Cn _) (by rw[←Yy];exact Ry)).mono fun en w' ⟨v,Z',dx,e1,h2,h3,h4,h5,h6,h7⟩=>?_
   obtain⟨L2,Ua,eN2,g3,TM,Rz⟩:=Jv (x:=(x,b)) (y:=y) (id:=id) hl Ru Gl Au.2 h5 h7
   have Rv:∀i ty cs,(da L2).get i=some (.box ty cs)→aw (fun j=>(da L2).get j≠none) cs:=fun i ty cs hg=>by
    have iu:=get_mem hg
    rw[Ua]at iu
    rcases List.mem_append.1 iu with iu|iu
    ·exact rh gg.bs _ id y.2 (fun e he=>by rw[Ua];exact wK (o:=e.2) (List.mem_append_left _ he)) i ty cs iu
    ·exfalso
     have:∀(rs:List RK) (m:Nat) (y:ky rs),(i,Ob.box ty cs)∉ag rs m y:=by
      intro rs
      induction rs with
      |nil=>intro m y;simp[ag]
      |cons r rs ih =>
       intro m y
       cases r with
       |agg c=>simp only[ag,List.mem_append,not_or];exact⟨lI _ _ _ _ _ _,ih (m+1) y.2⟩
       |val k=>exact ih (m+1) y.2
       |dJ _ _=>exact ih (m+1) y.2
       |own ok=>simp only[ag,List.mem_cons,not_or];exact⟨by simp,ih (m+1) y.2⟩
     exact this _ _ _ iu
   have Ub:∀i,(da L2).get i≠none→(i∈cE gg.bs hh i0∧hh.get i≠none∧dK dx L2 i=ψ i)∨N i:=fun i hi=>by
    obtain⟨o,ho⟩:=Option.ne_none_iff_exists'.1 hi
    obtain⟨s,hm⟩:=mC ho
    have iu:i∈bM gg.bs i0 id++aY gg.rs (id+128):=by rw[←eN2];exact List.mem_map.2 ⟨_,hm,rfl⟩
    have hNr:∀i,id≤i→i<id+256→N i:=fun i h1 h2=>by
     have:=hN (i-id) (by omega)
     rwa [show id+(i-id)=i by omega]at this
    rcases List.mem_append.1 iu with iu|iu
    ·rcases tg _ _ _ _ sG iu with h8|h8
     ·refine .inl ⟨vM _ _ _ hl h8,ye i h8,?_⟩
      obtain⟨ee,h9,l8⟩:=Lw (by rw[hle,hl]) i h8
      rw[TM (ee,i) l8]
      have we:ee∈aF gg.bs.length:=(List.of_mem_zip l8).1
      rw[h6 ee we]
      exact T9 (i,ee) h9
     ·exact .inr (hNr i h8.1 (by omega))
    ·have h8:=ir _ _ _ Ru iu
     exact .inr (hNr i (by omega) (by omega))
   obtain⟨yd,h8,nx⟩:=Jw (N:=N) gs hB FL aT rQ h2 h3 h4 g3 Rv Ub
   have eH3:(bj.wr (dO (aI gg.rs i0 id (id+128) y.1)) (aX gg.bs i0 id y.2++(ag gg.rs (id+128) y.1++fS (cm hh (cS gg.ps (vs++cap)++eZ gg.bs hh i0)) (cE gg.bs hh i0)))).hp hh.get =
     (da L2++fS (cm hh jV) (cE gg.bs hh i0)).get:=by
    rw[Ua,List.append_assoc];rfl
   rw[eH3]
   refine⟨v,Z',yd,e1,nx,?_⟩
   refine Rz.move (p:=fun j=>(da L2).get j≠none) (fun _ h=>h) (b4.refl _ _) (fun j hp _=>⟨hp,h8 j hp⟩) ?_
   refine Gm (jE hl gg.rs _ id (id+128) y.1 Ru (fun i hi=>?_) fun i hi=>?_)
   ·rw[←eI gg.rs (id+128) y.1]at hi
    obtain⟨e,he,rfl⟩:=List.mem_map.1 hi
    rw[Ua];exact wK (o:=e.2) (List.mem_append_right _ he)
   ·rw[←kL gg.bs i0 id y.2 hl]at hi
    obtain⟨e,he,rfl⟩:=List.mem_map.1 hi
    rw[Ua];exact wK (o:=e.2) (List.mem_append_left _ he)
 ·cases he
end Go.Vs
namespace Go.Vs
variable {P:Program} {Eqs:TypeId→Option K} {Sg:FuncId→Option aL} {F:(f:FuncId)→(g:aL)→g.A→Option g.B} {R:Type} {k:bj→Option R}
theorem bB{c:Bool}{e:bj}:cond c (k e) none=(cond c (some e) none).bind k:=by cases c<;>rfl
theorem br{c:Bool}{e:bj}:cond c none (k e)=(cond c none (some e)).bind k:=by cases c<;>rfl
theorem bu{c:Bool}{e e':bj}:cond c (k e) (k e')=(cond c (some e) (some e')).bind k:=by cases c<;>rfl
theorem bC{α:Type}(o:Option α)(f:α→Option R)(g:α→Option bj)(h:∀x,f x=(g x).bind k):o.bind f=(o.bind g).bind k:=by cases o with
 |none=>rfl
 |some x=>exact h x
theorem Gp{h:Heap}{id:Nat}{t:TypeId}{s x:AV}:mv P h id t s x k=(mv P h id t s x some).bind k:=by unfold mv;repeat' (first|rfl|exact bB|exact br | exact bu|(refine bC _ _ _ (fun _=>?_))|split)
theorem Jz{h:Heap}{t:TypeId}{s x:AV}:p6 P h t s x k=(p6 P h t s x some).bind k:=by unfold p6;repeat' (first|rfl|exact bB|exact br | exact bu|(refine bC _ _ _ (fun _=>?_))|split)
theorem LA{h:Heap}{t:TypeId}{s:AV}:kA P h t s k=(kA P h t s some).bind k:=by unfold kA;repeat' (first|rfl|exact bB|exact br | exact bu|(refine bC _ _ _ (fun _=>?_))|split)
theorem Av{h:Heap}{t:TypeId}{s x:AV}:cZ P h t s x k=(cZ P h t s x some).bind k:=by unfold cZ;repeat' (first|rfl|exact bB|exact br | exact bu|(refine bC _ _ _ (fun _=>?_))|split)
theorem LB{x:AV}{lo hi mx:Option AV}:xh x lo hi mx k=(xh x lo hi mx some).bind k:=by unfold xh;repeat' (first|rfl|exact bB|exact br | exact bu|(refine bC _ _ _ (fun _=>?_))|split)
theorem JA{h:Heap}{sz:Nat}{x:AV}{lo hi mx:Option AV}:p7 h sz x lo hi mx k=(p7 h sz x lo hi mx some).bind k:=by unfold p7;repeat' (first|rfl|exact bB|exact br | exact bu|(refine bC _ _ _ (fun _=>?_))|split)
theorem OR{h:Heap}{x:AV}:AL h x k=(AL h x some).bind k:=by unfold AL;repeat' (first|rfl|exact bB|exact br | exact bu|(refine bC _ _ _ (fun _=>?_))|split)
theorem OS{op:BinOp}{t:TypeId}{x y:AV}:vq P Eqs op t x y k=(vq P Eqs op t x y some).bind k:=by unfold vq;repeat' (first|rfl|exact bB|exact br | exact bu|(refine bC _ _ _ (fun _=>?_))|split)
theorem DM(rs:List RK)(x:ky rs)(f:ky rs→Option R)(g:ky rs→Option bj)(h:∀z,f z=(g z).bind k):iP rs x f=(iP rs x g).bind k:=by rw[gR,gR];exact h x
theorem LC{h:Heap}{id:Nat}{f:FuncId}{vs:List AV}:ic Sg F h id f vs k=(ic Sg F h id f vs some).bind k:=by unfold ic;repeat' (first|rfl|exact bB|exact br | exact bu|(refine bC _ _ _ (fun _=>?_))|(refine DM _ _ _ _ (fun _=>?_))|split)
theorem LD{id:Nat}{t:TypeId}{vs:List AV}:ui id t vs k=(ui id t vs some).bind k:=rfl
theorem JB{t:TypeId}{ps:List (Nat×AV)}:qc P t ps k=(qc P t ps some).bind k:=by unfold qc;repeat' (first|rfl|exact bB|exact br | exact bu|(refine bC _ _ _ (fun _=>?_))|split)
theorem Cq{h:Heap}{id:Nat}{t:TypeId}{n:Nat}{ps:List (Nat×AV)}:sJ P h id t n ps k=(sJ P h id t n ps some).bind k:=by unfold sJ;repeat' (first|rfl|exact bB|exact br | exact bu|(refine bC _ _ _ (fun _=>?_))|split)
theorem LF{jV:Bool}{h:Heap}{id:Nat}{t:TypeId}{n:Nat}{ps:List (Nat×AV)}:uj P jV h id t n ps k=(uj P jV h id t n ps some).bind k:=by
 unfold uj
 rw[Cq,Cq (k:=fun e=>some (if jV then Ou e else e)),Option.bind_assoc]
 rfl
theorem LG{s d:TypeId}{x:AV}:xn P s d x k=(xn P s d x some).bind k:=by unfold xn;repeat' (first|rfl|exact bB|exact br | exact bu|(refine bC _ _ _ (fun _=>?_))|split)
theorem RA{b:Bool}{vs:List AV}:I7 b vs k=(I7 b vs some).bind k:=by unfold I7;repeat' (first|rfl|exact bB|exact br | exact bu|(refine bC _ _ _ (fun _=>?_))|split)
theorem LH{h:Heap}{x:AV}:uf h x k=(uf h x some).bind k:=by unfold uf;repeat' (first|rfl|exact bB|exact br | exact bu|(refine bC _ _ _ (fun _=>?_))|split)
theorem DN{id:Nat}{t:TypeId}:kg P Eqs id t k=(kg P Eqs id t some).bind k:=by unfold kg;repeat' (first|rfl|exact bB|exact br | exact bu|(refine bC _ _ _ (fun _=>?_))|split)
theorem Gq{h:Heap}{t:TypeId}{m i:AV}{ok:Bool}:mw P Eqs h t m i ok k=(mw P Eqs h t m i ok some).bind k:=by unfold mw;repeat' (first|rfl|exact bB|exact br | exact bu|(refine bC _ _ _ (fun _=>?_))|split)
theorem Gs{h:Heap}{t:TypeId}{m i v:AV}:gN P Eqs h t m i v k=(gN P Eqs h t m i v some).bind k:=by unfold gN;repeat' (first|rfl|exact bB|exact br | exact bu|(refine bC _ _ _ (fun _=>?_))|split)
theorem Gt{h:Heap}{t:TypeId}{m i:AV}:my P Eqs h t m i k=(my P Eqs h t m i some).bind k:=by unfold my;repeat' (first|rfl|exact bB|exact br | exact bu|(refine bC _ _ _ (fun _=>?_))|split)
theorem Gu{id:Nat}{t:TypeId}{x:AV}:mz P id t x k=(mz P id t x some).bind k:=by unfold mz;repeat' (first|rfl|exact bB|exact br | exact bu|(refine bC _ _ _ (fun _=>?_))|split)
theorem JC{h:Heap}{x:AV}:qa h x k=(qa h x some).bind k:=by unfold qa;repeat' (first|rfl|exact bB|exact br | exact bu|(refine bC _ _ _ (fun _=>?_))|split)
theorem JD{h:Heap}{x:AV}:qb h x k=(qb h x some).bind k:=by unfold qb;repeat' (first|rfl|exact bB|exact br | exact bu|(refine bC _ _ _ (fun _=>?_))|split)
theorem ki{id:Nat}{h:Heap}{s:List (Nat×AV)}{o:Oper}:cv P Eqs Sg F id h s o k=(cv P Eqs Sg F id h s o some).bind k:=by
 obtain⟨dst,op,type,pos,after,guard⟩:=o
 cases op<;>simp only[cv] <;>
  repeat' (first|rfl|exact LF|exact Gp|exact Jz|exact LA|exact Av|exact LB|exact JA|exact OR|exact OS|exact LC|exact LD|exact JB|exact Cq|exact LG|exact RA|exact LH|exact DN|exact Gq|exact Gs|exact Gt|exact Gu|exact JC|exact JD|exact bB|(refine bC _ _ _ (fun _=>?_))|split)
theorem JE{id:Nat}{h h':Heap}{s:List (Nat×AV)}{o:Oper}(hf:lY o.op=true):cv P Eqs Sg F id h s o k=cv P Eqs Sg F id h' s o k:=by
 obtain⟨dst,op,type,pos,after,guard⟩:=o
 cases op<;>simp[lY]at hf<;>first|rfl|(rename_i u _ _;cases u<;>rfl)
theorem OT{op:BinOp}{t:TypeId}{x y:AV}{e:bj}(he:vq P Eqs op t x y some=some e):∃v,e=.val v:=by
 unfold vq at he
 repeat' (first|(cases he;done)|exact⟨_,(Option.some.inj he).symm⟩|split at he)
 all_goals
  unfold cond at he
  split at he<;>first|(cases he;done)|exact⟨_,(Option.some.inj he).symm⟩
theorem DO{id:Nat}{h:Heap}{s:List (Nat×AV)}{o:Oper}{e:bj}(hf:lY o.op=true)(he:cv P Eqs Sg F id h s o some=some e):∃v,e=.val v:=by
 obtain⟨dst,op,type,pos,after,guard⟩:=o
 cases op<;>simp only[lY]at hf<;>first|(cases hf;done)|skip
 case unOp u t x =>
  cases u<;>simp only[cv]at he<;>repeat' (first|(cases he;done)|exact⟨_,(Option.some.inj he).symm⟩|split at he)
 case makeFunc fn first cap =>
  cases fn<;>simp only[cv]at he<;>repeat' (first|(cases he;done)|exact⟨_,(Option.some.inj he).symm⟩|split at he)
 all_goals simp only[cv]at he
 case binOp=>exact OT he
 case build =>
  unfold qc at he
  repeat' (first|(cases he;done)|exact⟨_,(Option.some.inj he).symm⟩|split at he)
 all_goals
  repeat' (first|(cases he;done)|exact⟨_,(Option.some.inj he).symm⟩|split at he)
end Go.Vs
namespace Go.Vs
variable {P:Program} {Eqs:TypeId→Option K} {Sg:FuncId→Option aL} {F:(f:FuncId)→(g:aL)→g.A→Option g.B} {R:Type}
variable {Z Z' Z0:Nat→Prop} {ψ ψ' ψ0:Nat→Value} {h h':Hp} {w w' w0:World} {B0:Nat} {O N:Nat→Prop}
structure Env(P:Program)(Eqs:TypeId→Option K)(Sg:FuncId→Option aL)(F:(f:FuncId)→(g:aL)→g.A→Option g.B):Prop where
 eqs:∀t k,Eqs t=some k→kD P t k
 con:∀f g x y,Sg f=some g→F f g x=some y→A5 P f g x y
 spec:∀f g u,Sg f=some g→g.x=some u→gE P (f%1000) u
 DP:∀f g,Sg f=some g→im P (f%1000)
theorem DQ{s:List (Nat×AV)}{ρC:Operand→Value}:∀(l:List Operand),(∀x∈l,ao Z ψ h w (ρ s x) (ρC x))→ah Z ψ h w (l.map (ρ s)) (l.map ρC)
 |[],_=>by simp[ah]
 |x::r,hx=>by
  simp only[List.map_cons,ah]
  exact⟨_,_,rfl,hx x List.mem_cons_self,DQ r fun y hy=>hx y (List.mem_cons_of_mem _ hy)⟩
theorem A7{s:List (Nat×AV)}{p:Nat→Prop}:∀(l:List Operand),(∀x∈l,aC p (ρ s x))→aw p (l.map (ρ s))
 |[],_=>by simp[aw]
 |x::r,hx=>by
  simp only[List.map_cons,aw]
  exact⟨hx x List.mem_cons_self,A7 r fun y hy=>hx y (List.mem_cons_of_mem _ hy)⟩
theorem Qq(E:Env P Eqs Sg F){hh:Heap}{a:Act}{s:List (Nat×AV)}{o:Oper}(g:Good Z ψ h w B0 O)(hB:B0≤w.heap.size)(aZ:∀id o,hh.get id=some o→h id=some o){id:Nat}(hN:makes o.op=true→∀j,j<256→N (id+j)){e:bj}
  (mn:∀x∈o.op.operands,ao Z ψ h w (ρ s x) (a.eval x)) (hm:∀x∈o.op.operands,aC (fun i=>¬N i) (ρ s x)) (aT:∀i ty cs,h i=some (.box ty cs)→aw (fun i=>¬N i) cs) (lB:∀v hw,e=.wr v hw→hh.get=h)
  (he:cv P Eqs Sg F id hh s o some=some e) {next:Act→World→Prop} {Q:Exit→Act→World→Prop}
  (hk:∀V w' Z' ψ',Next Z ψ h w B0 O N Z' ψ' (e.hp h) w'→ao Z' ψ' (e.hp h) w' e.v V→next (a.put o.dst V) w'):o.wp P a w next Q:=by
 have d:fU P a.eval o Z ψ h w B0 O N e∨Qo P a.eval o Z ψ h w B0 O N e:=by
  cases FJ:ta o with
  |false=>exact .inl (Ll E.eqs g hB aZ (fun hm=>by simpa using hN hm 0 (by decide)) mn hm aT lB FJ he)
  |true =>
   refine .inr ?_
   obtain⟨dst,op,type,pos,after,guard⟩:=o
   cases op<;>simp[ta]at FJ
   rename_i c
   obtain⟨callee,args,argTypes⟩:=c
   cases callee<;>simp at FJ
   rename_i fo
   simp only[cv]at he
   split at he
   ·rename_i f cap hf
    simp only[Op.operands,Call.operands]at mn
    have h1:=mn fo (by simp)
    rw[hf]at h1
    have h2:ah Z ψ h w (args.toList.map (ρ s)) (args.toList.map a.eval):=DQ _ fun x hx=>mn x (by simp;exact .inr (by simpa using hx))
    have Yz:=hm fo (by simp[Op.operands,Call.operands])
    rw[hf]at Yz
    simp only[aC]at Yz
    have hma:aw (fun i=>¬N i) (args.toList.map (ρ s)):=A7 _ fun x hx=>hm x (by simp[Op.operands,Call.operands];exact .inr (by simpa using hx))
    refine Gn E.spec E.con E.DP g hB aZ (hN rfl) aT lB h1 h2 (nM hma Yz) (fun ws Rx=>?_) he
    simp only[execOp,resolve,Rx,Deferred.ofValue]
    simp only[pure_bind,invoke]
    congr 1
    apply Array.ext'
    simp
   ·cases he
 unfold Oper.wp
 rcases d with⟨V,w',Z',ψ',h1,h2,h3⟩|⟨f,args,h1,h2⟩
 ·rcases h1 with h1|⟨h1,rfl⟩
  ·rw[h1];exact hk V w' Z' ψ' h2 h3
  ·rw[h1];exact hk undef w' Z' ψ' h2 h3
 ·rw[h1,Oper.upon_enter]
  refine h2.mono fun en w' ⟨V,Z',ψ',e1,n,hr⟩=>?_
  subst e1
  exact hk V w' Z' ψ' n hr
structure Ok(Z0:Nat→Prop)(w0:World)(O:Nat→Prop)(ψ0:Nat→Value)(Z:Nat→Prop)(ψ:Nat→Value)(h:Hp)(w:World):Prop where
 dA:Good Z ψ h w w0.heap.size O
 eP:∀b,Z0 b→Z b
 dF:∀b,Z b→Z0 b∨O b∨w0.heap.size≤b
 os:w.os=w0.os
 tape:w.tape=w0.tape
 output:w.output=w0.output
 size:w0.heap.size≤w.heap.size
 block:∀b,b<w0.heap.size→¬O b→w.heap[b]? = w0.heap[b]?
 fix:∀i,i<2000→h i≠none→ψ i=ψ0 i
theorem Ok.next(k:Ok Z0 w0 O ψ0 Z ψ h w)(hN:∀id,N id→2000≤id)(n:Next Z ψ h w w0.heap.size O N Z' ψ' h' w'):Ok Z0 w0 O ψ0 Z' ψ' h' w':=by
 have own:∀b,Own ψ h b→w0.heap.size≤b∨O b:=fun b ⟨id,h1,h2⟩=>(k.dA.live id b h1 h2).2
 refine⟨n.dA,fun b hb=>n.eP b (k.eP b hb),fun b hb=>?_,n.keep.os.trans k.os,n.keep.tape.trans k.tape,n.keep.output.trans k.output,Nat.le_trans k.size n.keep.size,fun b hb ho=>?_,fun i hi aV=>?_⟩
 ·rcases n.dF b hb with h1|h1|h1
  ·exact k.dF b h1
  ·exact .inr (own b h1).symm
  ·exact .inr (.inr (Nat.le_trans k.size h1))
 ·rw[n.keep.block b (Nat.lt_of_lt_of_le hb k.size) (fun h1=>(own b h1).elim (fun h2=>by omega) ho)]
  exact k.block b hb ho
 ·rcases n.ids i aV with⟨h1,h2⟩|h1
  ·rw[h2];exact k.fix i hi h1
  ·have:=hN i h1;omega
structure cx(Z:Nat→Prop)(ψ:Nat→Value)(h:Hp)(w:World)(n:Nat)(T:Nat→AV)(a:Act):Prop where
 rep:∀d,ao Z ψ h w (T d) (a.tmps.getD d undef)
 size:a.tmps.size=n
 defers:a.defers=[]
theorem JF:ao Z ψ h w (.ml []) undef:=by simp only[ao,ah];exact⟨#[],rfl,rfl⟩
def hP(T:Nat→AV)(d:Option Tmp)(v:AV):Nat→AV:=match d with
 |some d=>dv T d v
 |none=>T
theorem fZ(st:St)(d:Option Tmp)(v:AV):look (st.put d v).tmps=hP (look st.tmps) d v:=by
 cases d with
 |none=>rfl
 |some d =>
  funext i
  simp only[St.put,look,hP,dv]
  by_cases e:i=d
  ·subst e;simp
  ·rw[if_neg (fun x=>e x.symm),if_neg e]
theorem cJ(st:St)(d:Option Tmp)(v:AV):(st.put d v).heap=st.heap:=by cases d<;>rfl
theorem A8{T:List (Nat×AV)}{d:Nat}{v:AV}(hv:look T d=v):dv (look T) d v=look T:=by
 funext i
 unfold dv
 split
 ·rename_i e;subst e;exact hv.symm
 ·rfl
theorem gb{a:Act}{d:Nat}{v:Value}(hd:d<a.tmps.size)(i:Nat):(a.put (some d) v).tmps.getD i undef=if i=d then v else a.tmps.getD i undef:=by
 simp only[Act.put]
 by_cases e:i=d
 ·subst e;simp[hd]
 ·simp[e,Array.getElem?_setIfInBounds_ne (Ne.symm e)]
theorem b5(a:Act)(d:Option Tmp)(v:Value):(a.put d v).tmps.size=a.tmps.size:=by cases d<;>simp[Act.put]
theorem put_defers(a:Act)(d:Option Tmp)(v:Value):(a.put d v).defers=a.defers:=by cases d<;>rfl
theorem cx.put{n:Nat}{T:Nat→AV}{a:Act}{o:Oper}{x:AV}{V:Value}(t:cx Z ψ h w n T a)(hd:gq n o=true)(hx:ao Z ψ h w x V):cx Z ψ h w n (hP T o.dst x) (a.put o.dst V):=by
 refine⟨fun d=>?_,by rw[b5];exact t.size,by rw[put_defers];exact t.defers⟩
 unfold gq at hd
 split at hd
 ·rename_i d0 YA
  rw[YA]
  rw[gb (by rw[t.size];simpa using hd)]
  simp only[hP,dv]
  split
  ·exact hx
  ·exact t.rep d
 ·rename_i YA
  rw[YA];exact t.rep d
theorem cx.next{n:Nat}{T:Nat→AV}{a:Act}(t:cx Z ψ h w n T a)(g:Good Z ψ h w B0 O)(hn:Next Z ψ h w B0 O N Z' ψ' h' w')(hm:∀d,aC (fun i=>¬N i) (T d)):cx Z' ψ' h' w' n T a :=
 ⟨fun d=>hn.rep g (hm d) (t.rep d),t.size,t.defers⟩
theorem py{n:Nat}{s:List (Nat×AV)}{a:Act}(t:cx Z ψ h w n (look s) a)(x:Operand):ao Z ψ h w (ρ s x) (a.eval x):=by
 cases x with
 |tmp i=>exact t.rep i
 |const v=>exact Dt v
 |global g=>simp only[ρ,ao]
 |func f=>simp only[ρ,ao,ah,Act.eval];exact⟨#[],rfl,rfl⟩
theorem yf(p:Nat→Prop)(v:Value):aC p (rJ v):=by
 cases v with
 |agg cs=>simp only[rJ,aC];exact uy p _
 |_=>simp only[rJ];exact xU p _
theorem JG{p:Nat→Prop}{s:List (Nat×AV)}(hm:∀d,aC p (look s d))(x:Operand):aC p (ρ s x):=by
 cases x with
 |tmp i=>exact hm i
 |const v=>exact yf p v
 |global g=>simp only[ρ,aC]
 |func f=>simp only[ρ,aC,aw]
def lp(rid:Nat)(S:Nat→Prop)(id:Nat):Prop:=id / 32768=rid+1→S (id / 256%128)
def Of(rid i id:Nat):Prop:=id / 256=(rid+1)*128+i
theorem Of.parts{rid i id:Nat}(hi:i<128)(h:Of rid i id):id / 32768=rid+1∧id / 256%128=i:=by
 unfold Of at h
 constructor<;>omega
theorem Of.of{rid i id:Nat}(h:id / 32768=rid+1)(hi:id / 256%128=i):Of rid i id:=by
 unfold Of;omega
theorem HY{rid i j:Nat}(hj:j<256):Of rid i (opId rid i+j):=by
 unfold Of opId;omega
theorem DR{rid i:Nat}:Of rid i (opId rid i):=by unfold Of opId;omega
theorem lp.yg{rid i id:Nat}{S:Nat→Prop}(hi:i<128)(hs:¬S i)(h:lp rid S id):¬Of rid i id:=fun ho=>by
 obtain⟨h1,h2⟩:=ho.parts hi
 have:=h h1
 rw[h2]at this
 exact hs this
theorem mF{rid bits id:Nat}{S:Nat→Prop}(hb:∀j,bits.testBit j=true→S j)(h:oY rid bits id=true):lp rid S id:=fun h1=>by
 unfold oY at h
 simp only[Bool.or_eq_true,bne_iff_ne,ne_eq]at h
 exact hb _ (h.resolve_left (fun h2=>h2 h1))
mutual
theorem nN{rid bits:Nat}{S:Nat→Prop}(hb:∀j,bits.testBit j=true→S j):∀{v:AV},qU rid bits v=true→aC (lp rid S) v
 |.ref id s i off,h=>by simp only[qU]at h;simp only[aC];exact mF hb h
 |.bp id,h=>by simp only[qU]at h;simp only[aC];exact mF hb h
 |.fn f cap,h=>by simp only[qU]at h;simp only[aC];exact kN hb h
 |.agg cs,h=>by simp only[qU]at h;simp only[aC];exact kN hb h
 |.ml cs,h=>by simp only[qU]at h;simp only[aC];exact kN hb h
 |.no,_=>by simp only[aC]
 |.bool _,_=>by simp only[aC]
 |.int _ _,_=>by simp only[aC]
 |.str _,_=>by simp only[aC]
 |.kx,_=>by simp only[aC]
 |.eY,_=>by simp only[aC]
 |.fp _ _ _,_=>by simp only[aC]
 |.sl _ _ _,_=>by simp only[aC]
 |.mp _ _ _,_=>by simp only[aC]
theorem kN{rid bits:Nat}{S:Nat→Prop}(hb:∀j,bits.testBit j=true→S j):∀{v:List AV},xq rid bits v=true→aw (lp rid S) v
 |[],_=>by simp only[aw]
 |v::r,h=>by
  simp only[xq,Bool.and_eq_true]at h
  simp only[aw]
  exact⟨nN hb h.1,kN hb h.2⟩
end
theorem kO{rid bits:Nat}{S:Nat→Prop}(hb:∀j,bits.testBit j=true→S j):∀{hh:Heap},vt rid bits hh=true→∀id o,hh.get id=some o→lp rid S id∧∀ty cs,o=.box ty cs→aw (lp rid S) cs
 |[],_,id,o,hg=>by simp[Heap.get]at hg
 |(i,ob)::r,h,id,o,hg=>by
  simp only[Heap.get]at hg
  split at hg
  ·rename_i e
   subst e
   cases hg
   cases ob with
   |box ty cs =>
    simp only[vt,Bool.and_eq_true]at h
    exact⟨mF hb h.1.1,fun wb cs' he=>by cases he;exact kN hb h.1.2⟩
   |own ok xs =>
    simp only[vt,Bool.and_eq_true]at h
    exact⟨mF hb h.1,fun wb cs' he=>by cases he⟩
  ·refine kO hb ?_ id o hg
   cases ob<;>simp only[vt,Bool.and_eq_true]at h<;>exact h.2
def bj.heap(e:bj)(h:Heap):Heap:=match e with
 |.wr _ h'=>h'
 |e=>e.h h
theorem bj.DS(e:bj)(hh:Heap):(e.heap hh).get=e.hp hh.get:=by
 cases e with
 |val v=>rfl
 |new v os=>funext i;simp only[bj.heap,bj.h,bj.hp];rw[Heap.get_append];cases Heap.get os i<;>rfl
 |wr v h'=>rfl
def ri(p:Nat→Prop)(h:Hp):Prop:=∀i ty cs,h i=some (.box ty cs)→aw p cs
theorem yh{ops:Array Oper}{o:Oper}{n:Nat}{T:Nat→AV}{a:Act}(t:cx Z ψ h w n T a){j d:Nat}{want:Bool}(hg:o.guard=some (j,want))(hd:(ops[j]?).bind (·.dst)=some d){b:Bool}(hb:T d=.bool b) :
  Region.wanted o (yielded ops a.tmps)=(b==want):=by
 have h1:=t.rep d
 rw[hb]at h1
 simp only[ao]at h1
 have h2:a.tmps[d]? = some (.bool b):=by
  rw[Array.getD_eq_getD_getElem?]at h1
  cases e:a.tmps[d]? with
  |none=>rw[e]at h1;simp[undef]at h1
  |some v=>rw[e]at h1;simpa using h1
 unfold Region.wanted yielded
 rw[hg]
 simp only[hd,Option.bind_some,h2]
 cases b<;>cases want<;>rfl
theorem vO{ops:Array Oper}{o:Oper}{n:Nat}{T:Nat→AV}{a:Act}(t:cx Z ψ h w n T a){j d:Nat}{want:Bool}(hg:o.guard=some (j,want))(hd:(ops[j]?).bind (·.dst)=some d){vs:List AV}(hb:T d=.ml vs) :
  Region.wanted o (yielded ops a.tmps)=false:=by
 have h1:=t.rep d
 rw[hb]at h1
 simp only[ao]at h1
 obtain⟨us,h1,_⟩:=h1
 unfold Region.wanted yielded
 rw[hg]
 simp only[hd,Option.bind_some]
 rw[Array.getD_eq_getD_getElem?]at h1
 cases e:a.tmps[d]? with
 |none=>rfl
 |some v=>rw[e]at h1;simp at h1;subst h1;rfl
def yi(ops:Array Oper):Nat→List (Nat×Oper)→Prop
 |_,[]=>True
 |i,(j,o)::r=>j=i∧ops[i]? = some o∧yi ops (i+1) r
theorem DT(ops:Array Oper):∀(l:List Oper) (i:Nat),(∀k o,l[k]? = some o→ops[i+k]? = some o)→yi ops i ((l.zipIdx i).map fun p=>(p.2,p.1))
 |[],_,_=>by simp[yi]
 |o::r,i,h=>by
  simp only[List.zipIdx_cons,List.map_cons,yi]
  exact⟨trivial,h 0 o rfl,DT ops r (i+1) fun k o' hk=>by rw[Nat.add_assoc,Nat.add_comm 1 k];exact h (k+1) o' hk⟩
theorem mG(ops:Array Oper):yi ops 0 (ops.toList.zipIdx.map fun p=>(p.2,p.1)):=DT ops _ 0 fun k o hk=>by simpa using hk
theorem A9(ops:Array Oper):(ops.toList.zipIdx.map fun p=>(p.2,p.1)).map Prod.fst=List.range ops.size:=by
 rw[List.map_map]
 have:(Prod.fst ∘ fun(p:Oper×Nat)=>(p.2,p.1))=Prod.snd:=rfl
 rw[this,List.zipIdx_map_snd,List.range_eq_range',Array.length_toList]
structure J(p:Nat→Prop)(n:Nat)(Z0:Nat→Prop)(w0:World)(O:Nat→Prop)(ψ0:Nat→Value)(Z:Nat→Prop)(ψ:Nat→Value)(T:Nat→AV)(h:Hp)(a:Act)(w:World):Prop where
 ok:Ok Z0 w0 O ψ0 Z ψ h w
 tr:cx Z ψ h w n T a
 tm:∀d,aC p (T d)
 hm:ri p h
theorem J.imp{p q:Nat→Prop}{n:Nat}{T:Nat→AV}{a:Act}(j:J p n Z0 w0 O ψ0 Z ψ T h a w)(xQ:∀id,p id→q id):J q n Z0 w0 O ψ0 Z ψ T h a w :=
 ⟨j.ok,j.tr,fun d=>(j.tm d).imp xQ,fun id ty cs hb=>(j.hm id ty cs hb).imp xQ⟩
theorem J.op(E:Env P Eqs Sg F){rid n i:Nat}{p:Nat→Prop}{T:Nat→AV}{a:Act}{s:List (Nat×AV)}{o:Oper}(hS:makes o.op=true→∀id,p id→¬Of rid i id)(j:J p n Z0 w0 O ψ0 Z ψ T h a w)(hd:gq n o=true)
  (hT:∀x∈o.op.operands,ao Z ψ h w (ρ s x) (a.eval x)) (YB:∀x∈o.op.operands,aC p (ρ s x)) {hh:Heap} (aZ:∀id o,hh.get id=some o→h id=some o) {e:bj} (he:cv P Eqs Sg F (opId rid i) hh s o some=some e) (lB:∀v hw,e=.wr v hw→hh.get=h)
  {p':Nat→Prop} (KR:∀k,p k→p' k) (hv:aC p' e.v) (RB:ri p' (e.hp h)) {next:Act→World→Prop} {Q:Exit→Act→World→Prop}
  (hk:∀a' w' Z' ψ',J p' n Z0 w0 O ψ0 Z' ψ' (hP T o.dst e.v) (e.hp h) a' w'→next a' w'):o.wp P a w next Q:=by
 have RC:∀id,p id→¬(makes o.op=true∧Of rid i id):=fun id h ⟨h1,h2⟩=>hS h1 id h h2
 refine Qq (N:=fun id=>makes o.op=true∧Of rid i id) E j.ok.dA j.ok.size aZ (id:=opId rid i) (fun hm k hk=>⟨hm,HY hk⟩) hT (fun x hx=>(YB x hx).imp RC) (fun id ty cs hb=>(j.hm id ty cs hb).imp RC) lB he fun V w' Z' ψ' nx hr=>?_
 refine hk _ w' Z' ψ' ⟨j.ok.next (fun id h=>by have:=h.2;unfold Of at this;omega) nx,(j.tr.next j.ok.dA nx (fun d=>(j.tm d).imp RC)).put hd hr,fun d=>?_,RB⟩
 cases jZ:o.dst with
 |none=>exact(j.tm d).imp KR
 |some d0 =>
  simp only[hP,dv]
  split
  ·exact hv
  ·exact(j.tm d).imp KR
theorem J.skip{n:Nat}{p p':Nat→Prop}{T:Nat→AV}{a:Act}{o:Oper}(j:J p n Z0 w0 O ψ0 Z ψ T h a w)(hd:gq n o=true)(KR:∀k,p k→p' k) :
  J p' n Z0 w0 O ψ0 Z ψ (hP T o.dst (.ml [])) h (a.put o.dst undef) w:=by
 refine⟨j.ok,j.tr.put hd JF,fun d=>?_,fun id ty cs hb=>(j.hm id ty cs hb).imp KR⟩
 cases jZ:o.dst with
 |none=>exact(j.tm d).imp KR
 |some d0 =>
  simp only[hP,dv]
  split
  ·simp only[aC,aw]
  ·exact(j.tm d).imp KR
theorem OU{hh:Heap}(g:Good Z ψ hh.get w B0 O){m:Nat}{kk vk:K}{es:List (kk.T×vk.T)}(hg:hh.get m=some (.own (.map kk vk) es))(n:Next Z ψ hh.get w B0 O N Z' ψ' h' w')(YC:∀b,ob (ψ m)=some b→Z' b)
  (hold:∀b,b<w.heap.size→w'.heap[b]? = w.heap[b]?) {v:AV} {V:Value} (hm:aC (fun id=>¬N id) v) (hr:ao Z ψ hh.get w v V):ao Z' ψ' h' w' (Di m (.mp kk vk es) v) V:=by
 by_cases hv:v=.bp m
 ·subst hv
  simp only[Di,if_true]
  simp only[ao]at hr
  have hu:=hr.2 (by rw[hg];simp)
  obtain⟨r,bH,clock,h1,h2,h3,_⟩:=g.row m (.map kk vk) es hg
  rw[h1]at hu
  subst hu
  have aE:=(Array.getElem?_eq_some_iff.1 h2).1
  simp only[ao,ax]
  exact⟨some r,rfl,.inr ⟨r,bH,clock,rfl,YC r (by rw[h1];rfl),(hold r aE).trans h2,h3.imp (fun _ _ h=>h.mono n.eP (fun b hb=>hold b (g.iR b hb))) (fun _ _ h=>h.mono n.eP (fun b hb=>hold b (g.iR b hb)))⟩⟩
 ·have hf:Di m (.mp kk vk es) v=v:=by
   unfold Di
   split
   ·split
    ·rename_i e;subst e;exact absurd rfl hv
    ·rfl
   ·rfl
  rw[hf]
  exact n.rep g hm hr
theorem LI{p:Nat→Prop}{m:Nat}{kk vk:K}{es:List (kk.T×vk.T)}{v:AV}(hm:aC p v):aC p (Di m (.mp kk vk es) v):=by
 unfold Di
 split
 ·split
  ·simp only[aC]
  ·exact hm
 ·exact hm
theorem uG(f:AV→AV)(hf:f .no=.no):∀(l:List (Nat×AV)) (d:Nat),look (l.map fun p=>(p.1,f p.2)) d=f (look l d)
 |[],_=>by simp only[List.map_nil,look];exact hf.symm
 |(i,v)::r,d=>by
  simp only[List.map_cons,look]
  split
  ·rfl
  ·exact uG f hf r d
theorem Gv{rid n i:Nat}{p p':Nat→Prop}{st dE:St}{a:Act}{o:Oper}(hS:∀id,p id→¬Of rid i id)(KR:∀k,p k→p' k)(Ls:p' (opId rid i))(j:J p n Z0 w0 O ψ0 Z ψ (look st.tmps) st.heap.get a w)(hd:gq n o=true)(mH:np P (opId rid i) st o=some dE) :
  ∃V w' Z' ψ',(execOp a.eval o).run P w=.ok (.value V) w'∧J p' n Z0 w0 O ψ0 Z' ψ' (look dE.tmps) dE.heap.get (a.put o.dst V) w':=by
 unfold np at mH
 split at mH
 ·rename_i t x Cr
  split at mH
  ·rename_i ka va m hu hx
   split at mH
   ·rename_i kk vk es hg
    cases mH
    have Td:ao Z ψ st.heap.get w (.bp m) (a.eval x):=by rw[←hx];exact py j.tr x
    simp only[ao]at Td
    have hev:=Td.2 (by rw[hg];simp)
    have g:=j.ok.dA
    obtain⟨r,bH,clock,h1,h2,h3,h4,h5⟩:=g.row m (.map kk vk) es hg
    rw[h1]at hev
    have aE:=(Array.getElem?_eq_some_iff.1 h2).1
    have gd:=gy g [.bp m]
    have Uc:∀b,ob (ψ m)=some b→oP Z ψ st.heap.get [.bp m] b:=fun b hb=>.inr ⟨m,by simp,by rw[hg];simp,hb⟩
    have hold:∀b,b<w.heap.size→(w.alloc (.mapIter (some r) clock #[] clock)).heap[b]? = w.heap[b]? := fun b hb=>heap_alloc_old w _ hb
    have hN:(Of rid i) (opId rid i):=DR
    have n1:=xN (N:=Of rid i) gd j.ok.size (opId rid i) hN (ok:=.iter kk vk) (x:=(none,es)) (v:=.pointer (some ⟨w.heap.size,0,none⟩)) (.mapIter (some r) clock #[] clock)
     ⟨w.heap.size,r,clock,#[],bH,clock,rfl,heap_alloc_new _ _,Uc r (by rw[h1];rfl),(hold r aE).trans h2,h4,rfl,h5,by
      rw[List.filter_eq_self.2 (fun e _=>by simp)]
      exact h3.imp (fun _ _ h=>h.mono (fun b hb=>.inl hb) (fun b hb=>hold b (g.iR b hb))) (fun _ _ h=>h.mono (fun b hb=>.inl hb) (fun b hb=>hold b (g.iR b hb))),trivial⟩ rfl
     (fun i' ty cs hb=>aw.imp (p:=p) (q:=fun i'=>i'≠opId rid i) (fun id hp e=>hS id hp (by rw[e];exact hN)) (j.hm i' ty cs (dz _ _ _ _ hb)))
    have n2:=n1.drop (Z:=Z) (h:=st.heap.get) (fun b hb=>.inl hb) (fun b hb=>hb.imp (fun h=>h) (fun⟨id,_,h5,h6⟩=>⟨id,h5,h6⟩)) (dz _ _)
    have ep:(dv (cm st.heap [.bp m]).get (opId rid i) (some (Ob.own (.iter kk vk) (none,es))))=Heap.get ((opId rid i,.own (.iter kk vk) (none,es))::st.heap.del m):=by
     funext k
     simp only[cm,drop1,dv,Heap.get]
     by_cases e:k=opId rid i
     ·subst e;simp
     ·rw[if_neg e,if_neg (fun h=>e h.symm)]
    rw[ep]at n2
    refine⟨.pointer (some ⟨w.heap.size,0,none⟩),w.alloc (.mapIter (some r) clock #[] clock),oP Z ψ st.heap.get [.bp m],dv ψ (opId rid i) (.pointer (some ⟨w.heap.size,0,none⟩)),?_,?_⟩
    ·obtain⟨dst,op,type,pos,after,guard⟩:=o
     simp only at Cr
     subst Cr
     have cW:(Instr.range t (.map (some r))).run P w=.ok (.pointer (some ⟨w.heap.size,0,none⟩)) (w.alloc (.mapIter (some r) clock #[] clock)):=by
      simp only[Instr.range,Sem.run_bind,run_underlying hu,Result.andThen_ok,fg h2 (by simp),Sem.run_pure];rfl
     simp[execOp,hev,cW]
    ·have aT:∀d,aC (fun id=>¬Of rid i id) (look st.tmps d):=fun d=>(j.tm d).imp hS
     refine⟨by rw[cJ];exact j.ok.next (fun id h=>by unfold Of at h;omega) n2,?_,fun d=>?_,fun k ty cs hb=>?_⟩
     ·rw[fZ,cJ]
      refine cx.put ⟨fun d=>?_,j.tr.size,j.tr.defers⟩ hd ?_
      ·rw[uG _ rfl]
       exact OU g hg n2 (fun b hb=>Uc b hb) hold (aT d) (j.tr.rep d)
      ·simp only[ao]
       exact⟨⟨rfl,rfl⟩,fun _=>(aS _ _ _).symm⟩
     ·rw[fZ]
      have hb:aC p' (look (st.tmps.map fun q=>(q.1,Di m (.mp kk vk es) q.2)) d):=by rw[uG _ rfl];exact LI ((j.tm d).imp KR)
      cases jZ:o.dst with
      |none=>exact hb
      |some d0 =>
       simp only[hP,dv]
       split
       ·simp only[aC];exact Ls
       ·exact hb
     ·rw[cJ]at hb
      simp only[Heap.get]at hb
      split at hb
      ·cases hb
      ·exact(j.hm k ty cs (Heap.sQ hb).1).imp KR
   ·cases mH
  ·cases mH
 ·cases mH
theorem mI{R:Type}{n:Nat}{f:Nat→Option R}{r:R}(h:qM n f=some r):∀j,j<n→f j=some r:=by
 unfold qM at h
 split at h
 ·rename_i hx;cases h;exact Classical.choose_spec hx
 ·cases h
theorem lK{R:Type}{n:Nat}{f:Nat→Option R}{r:R}(hn:0<n)(h:∀j,j<n→f j=some r):qM n f=some r:=by
 unfold qM
 have hx:∃r,∀j,j<n→f j=some r:=⟨r,h⟩
 rw[dif_pos hx]
 have:=Classical.choose_spec hx 0 hn
 rw[h 0 hn]at this
 exact this.symm
theorem Next.drawn{d:Nat}(n:Next Z ψ h { w with drawn:=d } B0 O N Z' ψ' h' w'):Next Z ψ h w B0 O N Z' ψ' h' w' :=
 ⟨n.eP,n.dF,⟨n.keep.os,n.keep.tape,n.keep.output,n.keep.size,n.keep.block⟩,n.ids,n.dA⟩
theorem Good.drawn{d:Nat}(g:Good Z ψ h w B0 O):Good Z ψ h { w with drawn:=d } B0 O:=by
 have sm:b4 Z w ({ w with drawn:=d }:World):=fun _ _=>rfl
 refine⟨fun id ty cs hb=>?_,fun id ok xs hb=>?_,g.live,g.apart,g.iR⟩
 ·obtain⟨gg,vs,h1,h2,h3,h4⟩:=g.box id ty cs hb
  exact⟨gg,vs,h1,h2,h3.less (fun _ h=>h) sm (fun i hi=>⟨hi,rfl⟩),h4⟩
 ·exact(g.row id ok xs hb).kept (fun _ h=>h) sm (fun gg _=>rfl)
theorem filter_push{l:List MapEntry}(h:l.Pairwise (fun a b=>a.born≠b.born)){seen:Array Nat}{j:Nat}{e:MapEntry}(he:(l.filter fun e => !seen.contains e.born)[j]? = some e) :
  l.filter (fun x => !(seen.push e.born).contains x.born)=(l.filter fun e => !seen.contains e.born).eraseIdx j:=by
 have h2:(l.filter fun e => !seen.contains e.born).Pairwise (fun a b=>a.born≠b.born):=h.sublist List.filter_sublist
 rw[←ChangeMaps.filter_eq_eraseIdx (fun x=>x.born==e.born) _ j e he (by simp) (h2.imp fun {a b} aV hc=>aV (by
  simp only[beq_iff_eq]at hc;omega))]
 rw[List.filter_filter]
 congr 1
 funext x
 simp only[Array.contains_push]
 cases seen.contains x.born<;>cases x.born==e.born<;>rfl
theorem Gx{R:Type}{hh:Heap}(g:Good Z ψ hh.get w B0 O){x:AV}{u:Value}{ty:TypeId}(hx:ao Z ψ hh.get w x u){kk:AV→Heap→Option R}{r:R}(he:j9 hh x kk=some r) :
  ∃v h' V w',(Instr.next u false ty).run P w=.ok V w'∧Next Z ψ hh.get w B0 O N Z ψ h'.get w'∧ao Z ψ h'.get w' v V∧kk v h'=some r∧(∀p,aC p v)∧∀i ty cs,h'.get i=some (.box ty cs)→hh.get i=some (.box ty cs):=by
 unfold j9 at he
 split at he
 ·rename_i id
  split at he
  ·rename_i XF vk pp hg
   simp only[ao]at hx
   have hu:=hx.2 (by rw[hg];simp)
   obtain⟨b,m,since,seen,bH,clock,h1,h2,h3,h4,h5,h6,h7,h8,h9⟩:=g.row id (.iter XF vk) pp hg
   rw[h1]at hu
   subst hu
   subst h6
   have aE:=(Array.getElem?_eq_some_iff.1 h2).1
   have Qr:(leftOf bH seen).toList=bH.toList.filter fun e => !seen.contains e.born:=by unfold leftOf;simp
   have hlen:pp.2.length=(leftOf bH seen).size:=by rw[h8.1,←Qr,Array.length_toList]
   rcases run_next_at (P:=P) w ty b m since since seen bH since h2 h4 h7 (Nat.le_refl _) with⟨l8,cW⟩|⟨e,iu,w1,Dc,cW⟩
   ·have Jy:pp.2.isEmpty=true:=by rw[List.isEmpty_iff];exact List.eq_nil_of_length_eq_zero (by rw[hlen,l8])
    rw[Jy]at he
    simp only[cond_true]at he
    exact⟨_,hh,_,w,cW,Next.refl g,by simp only[ao,ah];exact⟨_,rfl,_,_,rfl,rfl,rfl⟩,he,fun p=>by simp only[aC,aw];exact⟨trivial,trivial⟩,fun _ _ _ h=>h⟩
   ·obtain⟨k,hk,hke⟩:=List.mem_iff_getElem.1 iu
    have nc:k<pp.2.length:=by rw[hlen,←Array.length_toList];exact hk
    have Jy:pp.2.isEmpty=false:=by
     cases hl:pp.2 with
     |nil=>rw[hl]at nc;simp at nc
     |cons _ _=>rfl
    rw[Jy]at he
    simp only[cond_false]at he
    have hj:=mI he k nc
    rw[List.getElem?_eq_getElem nc,Option.bind_some]at hj
    have RD:(bH.toList.filter fun e => !seen.contains e.born)[k]? = some e:=by rw[←Qr,List.getElem?_eq_getElem hk,hke]
    have Cd:=h8.2 k _ e (List.getElem?_eq_getElem nc) RD
    obtain⟨⟨k1,k2,k3⟩,v1,v2,v3⟩:=Cd
    have YD:e∈bH.toList:=(List.mem_filter.1 (List.mem_of_getElem? RD)).1
    have gd1:Good Z ψ hh.get w1 B0 O:=by rcases Dc with rfl|rfl;exact g;exact g.drawn
    have Cs:w1.heap=w.heap:=by rcases Dc with rfl|rfl<;>rfl
    have YE:m≠b:=fun YE=>by
     subst YE
     exact(g.live id m (by rw[hg];simp) (by rw[h1];rfl)).1 h3
    have n1:=ql (N:=N) gd1 (id:=id) (by rw[hg];simp) (r:=b) (by rw[h1];rfl) (by rw[Cs];exact aE) (.mapIter (some m) since (seen.push e.born) since) (ok:=.iter XF vk) (x:=(some pp.2[k],pp.2.eraseIdx k)) (fun w' Gd sm=>by
     have Te:b4 Z w w':=fun c hc=>(sm c hc).trans (by rw[Cs])
     refine⟨b,m,since,seen.push e.born,bH,since,h1,by rw[Gd,Cs];simp[aE],h3,?_,h5,rfl,h7,?_,?_⟩
     ·rw[Gd,Cs,uu _ (fun e=>YE e.symm)];exact h4
     ·rw[filter_push h5 RD]
      exact(jz.erase h8 k).mono (fun _ h=>h) Te
     ·refine⟨e,YD,by simp,⟨rfl,fun q y e' l8 we=>?_⟩⟩
      cases q with
      |zero=>cases l8;cases we;exact⟨⟨k1.mono (fun _ h=>h) Te,k2,k3⟩,v1.mono (fun _ h=>h) Te,v2,v3⟩
      |succ q=>simp at l8)
    have n2:Next Z ψ hh.get w B0 O N Z ψ (dv hh.get id (some (.own (.iter XF vk) (some pp.2[k],pp.2.eraseIdx k)))) { w1 with heap:=w1.heap.setIfInBounds b (.mapIter (some m) since (seen.push e.born) since) }:=by
     rcases Dc with rfl|rfl
     ·exact n1
     ·exact n1.drawn
    refine⟨_,hh.set id (.own (.iter XF vk) (some pp.2[k],pp.2.eraseIdx k)),_,_,cW,by rw[lA];exact n2,?_,hj,fun p=>?_,fun i ty cs hb=>?_⟩
    ·have Te:b4 Z w ({ w1 with heap:=w1.heap.setIfInBounds b (.mapIter (some m) since (seen.push e.born) since) }:World):=n2.same g
     simp only[ao,ah]
     exact⟨_,rfl,_,_,rfl,rfl,_,_,rfl,kC (k1.mono (fun _ h=>h) Te) k2 k3,_,_,rfl,kC (v1.mono (fun _ h=>h) Te) v2 v3,rfl⟩
    ·simp only[aC,aw]
     exact⟨trivial,mD _ _ _,mD _ _ _,trivial⟩
    ·rw[lA]at hb
     unfold dv at hb
     split at hb
     ·cases hb
     ·exact hb
  ·cases he
 ·cases he
theorem DU(op:BinOp)(t:TypeId)(a b:Operand)(x y:Option Addr)(n m c d:Nat):(eqGuard op t a b (.slice x n c) (.slice y m d)).run P w=.ok () w:=by cases op<;>simp[eqGuard]
theorem Aw{t e:TypeId}(ht:P.underlying t=some (.slice e))(a:Option Addr)(n c:Nat):(Op.equal t (.slice a n c) (.slice none 0 0)).run P w=.ok a.isNone w:=by
 have key:∀d,(Op.equalIn (d+1) t (.slice a n c) (.slice none 0 0)).run P w=.ok a.isNone w:=fun d=>by
  cases a<;>simp[Op.equalIn,run_underlying ht]
 exact key 9999
theorem Gy{o:Oper}{x:Operand}{want:Bool}(h:isNil P o=some (x,want)):∃op t v t' e,o.op=.binOp op t x (.const v) t'∧P.underlying t=some (.slice e)∧v=.slice none 0 0∧((op=.eql∧want=true)∨(op=.neq∧want=false)):=by
 unfold isNil at h
 split at h
 ·rename_i op t x' v t' Cr
  have hv:∀v:Value,uc v=.eY→v=.slice none 0 0:=fun v hv=>by
   unfold uc at hv
   split at hv<;>try (first|cases hv|(split at hv<;>cases hv);done)
   all_goals (split at hv<;>first|cases hv|skip)
   ·rename_i hc;obtain⟨rfl,rfl,rfl⟩:=hc;rfl
   all_goals (split at hv<;>cases hv)
  split at h
  ·rename_i e h1 h2 h3;cases h;exact⟨_,_,_,_,_,Cr,h2,hv _ h3,.inl ⟨rfl,rfl⟩⟩
  ·rename_i e h1 h2 h3;cases h;exact⟨_,_,_,_,_,Cr,h2,hv _ h3,.inr ⟨rfl,rfl⟩⟩
  ·cases h
 ·cases h
theorem LJ{R:Type}{hh:Heap}(g:Good Z ψ hh.get w B0 O){x:AV}{u:Value}{op:BinOp}{t e:TypeId}(xo yo:Operand)(hx:ao Z ψ hh.get w x u)(ht:P.underlying t=some (.slice e)){want:Bool}(ho:(op=.eql∧want=true)∨(op=.neq∧want=false)){kk:AV→Option R}{r:R}(he:sO hh x want kk=some r) :
  ∃c:Bool,((eqGuard op t xo yo u (.slice none 0 0)).run P w=.ok () w∧(binOp op t u (.slice none 0 0)).run P w=.ok (.bool c) w)∧kk (.bool c)=some r:=by
 have run:∀(a:Option Addr) (n c:Nat),(eqGuard op t xo yo (.slice a n c) (.slice none 0 0)).run P w=.ok () w∧(binOp op t (.slice a n c) (.slice none 0 0)).run P w=.ok (.bool (a.isNone==want)) w:=fun a n c=>by
  refine⟨DU _ _ _ _ _ _ _ _ _ _,?_⟩
  rcases ho with⟨rfl,rfl⟩|⟨rfl,rfl⟩<;>simp only[Sem.run_bind,Result.andThen_ok,binOp,Aw ht,Sem.run_pure]<;>cases a.isNone<;>rfl
 have fin:∀(n:Nat) (a:Option Addr) (c:Nat) (xs:Bool),(a=none→xs=true)→cond xs (qM 2 fun j=>kk (.bool ((j==0)==want))) (kk (.bool (!want)))=some r →
   ∃c':Bool,((eqGuard op t xo yo (.slice a n c) (.slice none 0 0)).run P w=.ok () w∧(binOp op t (.slice a n c) (.slice none 0 0)).run P w=.ok (.bool c') w)∧kk (.bool c')=some r:=fun n a c xs qh h=>by
  refine⟨_,run a n c,?_⟩
  cases xs with
  |true =>
   simp only[cond_true]at h
   cases a with
   |none=>exact mI h 0 (by decide)
   |some a=>exact mI h 1 (by decide)
  |false =>
   simp only[cond_false]at h
   cases a with
   |none=>cases qh rfl
   |some a=>cases want<;>exact h
 unfold sO at he
 split at he
 ·rename_i hv
  have hxn:x=.eY:=by
   cases x<;>simp only[cq]at hv<;>try cases hv
   ·rfl
   ·split at hv<;>cases hv
  subst hxn
  simp only[ao]at hx
  subst hx
  exact⟨_,run none 0 0,by cases want<;>exact he⟩
 ·rename_i ex k xs hv
  cases x with
  |sl ex' k' TJ =>
   simp only[cq]at hv
   cases hv
   simp only[ao,ax]at hx
   obtain⟨⟨v,hv,A,c,rfl,h1,h2,_⟩,_⟩:=hx
   cases hv
   refine fin _ A c _ (fun hA=>?_) he
   have:=h2 hA
   rw[List.isEmpty_iff]
   exact List.eq_nil_of_length_eq_zero (by omega)
  |bp id =>
   simp only[cq]at hv
   simp only[ao]at hx
   split at hv
   ·rename_i hg
    cases hv
    have hu:=hx.2 (by rw[hg];simp)
    obtain⟨vs,⟨_,h1⟩,_⟩:=g.row id _ _ hg
    rw[←hu]at h1
    rcases h1 with⟨h1,A,rfl⟩|⟨gg,cap,cur,rfl,_⟩
    ·exact fin _ A 0 _ (fun _=>List.isEmpty_iff.2 (List.eq_nil_of_length_eq_zero h1)) he
    ·exact fin _ _ _ _ (fun h=>by cases h) he
   ·cases hv
   ·cases hv
  |_=>simp only[cq]at hv<;>cases hv
 ·cases he
theorem yj{draw:Bool}{rid:Nat}{ops:Array Oper}{b:Array Nat}{i FU:Nat}{e:bj}{S:Nat→Prop}{hh:Heap}(hm:ri (lp rid S) h)(ha:∀j,FU.testBit j=true→S j)(he:fL draw rid ops b i FU e=true) :
  aC (lp rid fun k=>S k∨k=i) e.v∧ri (lp rid fun k=>S k∨k=i) (e.hp h):=by
 have Dl:∀j,(FU ||| 2 ^ i).testBit j=true→S j∨j=i:=fun j hj=>by
  rw[Nat.testBit_or,Bool.or_eq_true]at hj
  rcases hj with hj|hj
  ·exact .inl (ha j hj)
  ·rw[Nat.testBit_two_pow]at hj;exact .inr (by simpa using hj:i=j).symm
 have up:ri (lp rid fun k=>S k∨k=i) h:=fun id ty cs hb=>(hm id ty cs hb).imp (fun id h1 h2=>.inl (h1 h2))
 cases e with
 |val v=>exact⟨nN (fun j hj=>.inl (ha j hj)) he,up⟩
 |new v os =>
  simp only[fL,Bool.and_eq_true]at he
  refine⟨nN Dl he.1.1,fun id ty cs hb=>?_⟩
  simp only[bj.hp]at hb
  split at hb
  ·rename_i o ho
   cases hb
   exact(kO Dl he.2 _ _ ho).2 _ _ rfl
  ·exact up id ty cs hb
 |wr v h' =>
  simp only[fL,Bool.and_eq_true]at he
  exact⟨nN Dl he.1.2,fun id ty cs hb=>(kO Dl he.2 _ _ hb).2 _ _ rfl⟩
theorem Ax{i j:Nat}(h:(2 ^ i-1).testBit j=true):j<i:=by
 rw[Nat.testBit_two_pow_sub_one]at h;simpa using h
def uH(mk:Bool)(rid i id:Nat):Prop:=mk=true→lp rid (fun k=>k<i) id
theorem kj(E:Env P Eqs Sg F){rid n:Nat}{ops:Array Oper}{b:Array Nat}(mk:Bool)(LK:mk=false→∀(i:Nat) (o:Oper),ops[i]? = some o→makes o.op=false)(hn:ops.size≤128)(jZ:∀(i:Nat) (o:Oper),ops[i]? = some o→gq n o=true){kk:St→Option R}{r:R}{Q:Exit→Act→World→Prop}
  (hQ:∀dE Z ψ a w,kk dE=some r→Ok Z0 w0 O ψ0 Z ψ dE.heap.get w→cx Z ψ dE.heap.get w n (look dE.tmps) a→Q .normal a w) :
  ∀(l:List (Nat×Oper)) (i:Nat) (st:St) (Z:Nat→Prop) (ψ:Nat→Value) (a:Act) (w:World),yi ops i l→bc P Eqs Sg F rid false ops b l st kk=some r →
   J (uH mk rid i) n Z0 w0 O ψ0 Z ψ (look st.tmps) st.heap.get a w→wpOps P ops Q (l.map Prod.fst) a w
 |[],i,st,Z,ψ,a,w,_,hx,j=>hQ st Z ψ a w hx j.ok j.tr
 |(i',o)::l,i,st,Z,ψ,a,w,hl,hx,j=>by
  obtain⟨rfl,ho,hl⟩:=hl
  have hi:i'<128:=Nat.lt_of_lt_of_le (Array.getElem?_eq_some_iff.1 ho).1 hn
  have N9:=jZ i' o ho
  have ih:=kj E (rid:=rid) (b:=b) mk LK hn jZ hQ l (i'+1)
  have up:∀id,uH mk rid i' id→uH mk rid (i'+1) id:=fun id h hm hr=>Nat.lt_succ_of_lt (h hm hr)
  have runs:∀gF:St,look gF.tmps=look st.tmps→gF.heap=st.heap→Region.wanted o (yielded ops a.tmps)=true →
    (match np P (opId rid i') gF o with
    |some dE=>bc P Eqs Sg F rid false ops b l dE kk
    |none=>match sN o with
    |some x=>j9 gF.heap (ρ gF.tmps x) fun v h=>bc P Eqs Sg F rid false ops b l (({ gF with heap:=h }:St).put o.dst v) kk
    |none=>match isNil P o with
    |some (x,want)=>sO gF.heap (ρ gF.tmps x) want fun v=>bc P Eqs Sg F rid false ops b l (gF.put o.dst v) kk
    |none=>cv P Eqs Sg F (opId rid i') gF.heap gF.tmps o fun e=>if fL false rid ops b i' (2 ^ i' - 1) e then bc P Eqs Sg F rid false ops b l ({ gF with heap:=match e with | .wr _ h=>h|e=>e.h gF.heap }.put o.dst e.v) kk else none)=some r →
    wpOps P ops Q (((i',o)::l).map Prod.fst) a w:=by
   intro gF h1 h2 hw hx
   split at hx
   ·rename_i dE mH
    simp only[List.map_cons,wpOps,ho,hw,if_true]
    refine .inl ?_
    have Ud:makes o.op=true:=by
     unfold np at mH
     split at mH
     ·rename_i Cr;rw[Cr];rfl
     ·cases mH
    have YF:mk=true:=by
     cases JH:mk with
     |true=>rfl
     |false=>rw[LK JH i' o ho]at Ud;cases Ud
    have j1:J (uH mk rid i') n Z0 w0 O ψ0 Z ψ (look gF.tmps) gF.heap.get a w:=by rw[h1,h2];exact j
    obtain⟨V,w',Z',ψ',cW,j'⟩:=Gv (P:=P) (p':=uH mk rid (i'+1)) (fun id hp ma=>by
     obtain⟨h3,h4⟩:=ma.parts hi
     have:=hp YF h3
     rw[h4]at this
     exact Nat.lt_irrefl _ this) up (fun _ h3=>by
      have:=((DR (rid:=rid) (i:=i')).parts hi).2
      rw[this];exact Nat.lt_succ_self _) j1 N9 mH
    unfold Oper.wp
    rw[cW]
    exact ih dE Z' ψ' _ w' hl hx j'
   split at hx
   ·rename_i x Ba
    simp only[List.map_cons,wpOps,ho,hw,if_true]
    refine .inl ?_
    have Cr:o.op=.next x false:=by
     unfold sN at Ba
     split at Ba
     ·rename_i Cr;cases Ba;exact Cr
     ·cases Ba
    have Td:ao Z ψ gF.heap.get w (ρ gF.tmps x) (a.eval x):=py (by rw[h1,h2];exact j.tr) x
    have g1:Good Z ψ gF.heap.get w w0.heap.size O:=by rw[h2];exact j.ok.dA
    obtain⟨v,h',V,w',cW,nx,hr,OF,Rn,oH⟩:=Gx (P:=P) (N:=fun _=>False) (ty:=o.type) g1 Td hx
    have LL:(execOp a.eval o).run P w=.ok (.value V) w':=by
     obtain⟨dst,op,type,pos,after,guard⟩:=o
     simp only at Cr
     subst Cr
     simp only at cW
     simp[execOp,cW]
    unfold Oper.wp
    rw[LL]
    refine ih _ Z ψ _ w' hl OF ?_
    rw[fZ,cJ]
    have j1:J (uH mk rid i') n Z0 w0 O ψ0 Z ψ (look gF.tmps) gF.heap.get a w:=by rw[h1,h2];exact j
    refine⟨j1.ok.next (fun id h=>h.elim) nx,(j1.tr.next g1 nx (fun d=>(j1.tm d).imp fun _ _ h=>h)).put N9 hr,fun d=>?_,fun k ty cs hb=>(j1.hm k ty cs (oH k ty cs hb)).imp up⟩
    cases jZ:o.dst with
    |none=>exact(j1.tm d).imp up
    |some d0 =>
     simp only[hP,dv]
     split
     ·exact Rn _
     ·exact(j1.tm d).imp up
   split at hx
   ·rename_i x want Ue
    obtain⟨op,t,v,t',et,Cr,ht,rfl,pz⟩:=Gy Ue
    simp only[List.map_cons,wpOps,ho,hw,if_true]
    refine .inl ?_
    have Td:ao Z ψ gF.heap.get w (ρ gF.tmps x) (a.eval x):=py (by rw[h1,h2];exact j.tr) x
    have g1:Good Z ψ gF.heap.get w w0.heap.size O:=by rw[h2];exact j.ok.dA
    obtain⟨c,cW,OF⟩:=LJ (P:=P) g1 x (.const (.slice none 0 0)) Td ht pz hx
    have LL:(execOp a.eval o).run P w=.ok (.value (.bool c)) w:=by
     obtain⟨dst,op',type,pos,after,guard⟩:=o
     simp only at Cr
     subst Cr
     have e1:a.eval (.const (.slice none 0 0))=.slice none 0 0:=rfl
     simp[execOp,e1,cW.1,cW.2]
    unfold Oper.wp
    rw[LL]
    refine ih _ Z ψ _ w hl OF ?_
    rw[fZ,cJ]
    have j1:J (uH mk rid i') n Z0 w0 O ψ0 Z ψ (look gF.tmps) gF.heap.get a w:=by rw[h1,h2];exact j
    refine⟨j1.ok,j1.tr.put N9 (by simp only[ao]),fun d=>?_,fun k ty cs hb=>(j1.hm k ty cs hb).imp up⟩
    cases jZ:o.dst with
    |none=>exact(j1.tm d).imp up
    |some d0 =>
     simp only[hP,dv]
     split
     ·simp only[aC]
     ·exact(j1.tm d).imp up
   rw[ki]at hx
   obtain⟨e,he,hx⟩:=Option.bind_eq_some_iff.1 hx
   split at hx
   ·rename_i ll
    simp only[List.map_cons,wpOps,ho,hw,if_true]
    refine .inl ?_
    have hh:gF.heap.get=st.heap.get:=by rw[h2]
    have mH:aC (uH mk rid (i'+1)) e.v∧ri (uH mk rid (i'+1)) (e.hp st.heap.get):=by
     cases JH:mk with
     |false =>
      have ht:uH false rid (i'+1)=fun _=>True:=funext fun id=>propext ⟨fun _=>trivial,fun _ h=>by cases h⟩
      rw[ht];exact⟨aC.top _,fun _ _ cs _=>aw.top cs⟩
     |true =>
      have OL:ri (lp rid fun k=>k<i') st.heap.get:=fun id ty cs hb=>(j.hm id ty cs hb).imp fun id h1=>h1 JH
      have h3:=yj (hh:=gF.heap) OL (fun k hk=>Ax hk) ll
      have hS:∀k,(k<i'∨k=i')→k<i'+1:=fun k hk=>by omega
      exact⟨h3.1.imp fun id h1 _ h2=>hS _ (h1 h2),fun id ty cs hb=>(h3.2 id ty cs hb).imp fun id h1 _ h2=>hS _ (h1 h2)⟩
    refine J.op E (p:=uH mk rid i') (p':=uH mk rid (i'+1)) (rid:=rid) (i:=i') (s:=gF.tmps) (fun hm id hp ma => ?_) j N9 (fun x _=>py (by rw[h1];exact j.tr) x) (fun x _=>JG (by rw[h1];exact j.tm) x) (fun id o hg=>by rw[hh]at hg;exact hg) he (fun _ _ _=>hh) up mH.1 mH.2 fun a' w' Z' ψ' j' => ?_
    ·cases JH:mk with
     |false=>rw[LK JH i' o ho]at hm;cases hm
     |true =>
      obtain⟨h3,h4⟩:=ma.parts hi
      have:=hp JH h3
      rw[h4]at this
      exact Nat.lt_irrefl _ this
    refine ih _ Z' ψ' a' w' hl hx ?_
    rw[fZ,cJ]
    have j2:J (uH mk rid (i'+1)) n Z0 w0 O ψ0 Z' ψ' (hP (look gF.tmps) o.dst e.v) (bj.heap e gF.heap).get a' w':=by rw[bj.DS,h1,h2];exact j'
    exact j2
   ·cases hx
  have rj:∀gF:St,look gF.tmps=look st.tmps→gF.heap=st.heap→Region.wanted o (yielded ops a.tmps)=false →
    bc P Eqs Sg F rid false ops b l (gF.put o.dst (.ml [])) kk=some r→wpOps P ops Q (((i',o)::l).map Prod.fst) a w:=by
   intro gF h1 h2 hw hx
   simp only[List.map_cons,wpOps,ho,hw,Bool.false_eq_true,if_false]
   refine ih _ Z ψ _ w hl hx ?_
   rw[fZ,cJ,h1,h2]
   exact j.skip N9 up
  rw[bc]at hx
  simp only[Bool.false_eq_true,if_false]at hx
  split at hx
  ·rename_i hg
   exact runs st rfl rfl (by simp[Region.wanted,hg]) hx
  ·rename_i jj want hg
   split at hx
   ·cases hx
   ·rename_i d hd
    split at hx
    ·rename_i t ht
     have hw:=yh j.tr hg hd ht
     have hp:∀b,t=b→look (st.put (some d) (.bool b)).tmps=look st.tmps:=fun b hb=>by
      subst hb;rw[fZ];exact A8 ht
     cases t<;>simp only[cond_true,cond_false]at hx<;>split at hx<;>rename_i pz
     ·exact rj _ (hp false rfl) (cJ _ _ _) (by rw[hw];simp[pz]) hx
     ·exact runs _ (hp false rfl) (cJ _ _ _) (by rw[hw];simp[pz]) hx
     ·exact runs _ (hp true rfl) (cJ _ _ _) (by rw[hw];simp[pz]) hx
     ·exact rj _ (hp true rfl) (cJ _ _ _) (by rw[hw];simp[pz]) hx
    ·rename_i vs ht
     exact rj st rfl rfl (vO j.tr hg hd ht) hx
    ·cases hx
end Go.Vs
namespace Go.Vs
variable {P:Program} {Eqs:TypeId→Option K} {Sg:FuncId→Option aL} {F:(f:FuncId)→(g:aL)→g.A→Option g.B} {R:Type}
variable {Z Z' Z0:Nat→Prop} {ψ ψ' ψ0:Nat→Value} {h h':Hp} {w w' w0:World} {B0:Nat} {O N:Nat→Prop}
theorem jF(hp h:Heap)(i:Nat):∀(ft:List Nat),(dQ ft hp h).get i=if i∈ft then(match hp.get i with|some o=>some o|none=>h.get i) else h.get i
 |[]=>by simp[dQ]
 |j::r=>by
  have ih:=jF hp h i r
  unfold dQ at ih ⊢
  cases hj:hp.get j with
  |none =>
   rw[List.filterMap_cons,hj]
   simp only[Option.map_none]
   rw[ih]
   by_cases e:i=j
   ·subst e;simp[hj]
   ·simp[e]
  |some o =>
   rw[List.filterMap_cons,hj]
   simp only[Option.map_some,List.cons_append,Heap.get]
   rw[ih]
   by_cases e:j=i
   ·subst e;simp[hj]
   ·have e':¬i=j:=fun h=>e h.symm
    simp[e,e']
mutual
theorem vP{ft:List Nat}:∀{v:AV},oZ ft v=true→aC (fun i=>i∉ft) v
 |.ref id _ _ _,h=>by simp only[aC];simpa[oZ] using h
 |.bp id,h=>by simp only[aC];simpa[oZ] using h
 |.fn _ cap,h=>by simp only[aC];exact jG (by simpa only[oZ] using h)
 |.agg cs,h=>by simp only[aC];exact jG (by simpa only[oZ] using h)
 |.ml vs,h=>by simp only[aC];exact jG (by simpa only[oZ] using h)
 |.no,_=>by simp only[aC]
 |.bool _,_=>by simp only[aC]
 |.int _ _,_=>by simp only[aC]
 |.str _,_=>by simp only[aC]
 |.kx,_=>by simp only[aC]
 |.eY,_=>by simp only[aC]
 |.fp _ _ _,_=>by simp only[aC]
 |.sl _ _ _,_=>by simp only[aC]
 |.mp _ _ _,_=>by simp only[aC]
theorem jG{ft:List Nat}:∀{l:List AV},rM ft l=true→aw (fun i=>i∉ft) l
 |[],_=>by simp only[aw]
 |v::r,h=>by
  simp only[rM,Bool.and_eq_true]at h
  simp only[aw]
  exact⟨vP h.1,jG h.2⟩
end
theorem jH{ft:List Nat}:∀{hh:Heap},rN ft hh=true→∀i o,hh.get i=some o→i∉ft∧∀ty cs,o=.box ty cs→aw (fun i=>i∉ft) cs
 |[],_,i,o,h=>by simp[Heap.get]at h
 |(j,.box ty cs)::r,hc,i,o,h=>by
  simp only[rN,Bool.and_eq_true]at hc
  simp only[Heap.get]at h
  split at h
  ·rename_i e;subst e;cases h
   exact⟨by simpa using hc.1,fun ty cs e=>by cases e;exact jG hc.2.1⟩
  ·exact jH hc.2.2 i o h
 |(j,.own ok x)::r,hc,i,o,h=>by
  simp only[rN,Bool.and_eq_true]at hc
  simp only[Heap.get]at h
  split at h
  ·rename_i e;subst e;cases h
   exact⟨by simpa using hc.1,fun ty cs e=>by cases e⟩
  ·exact jH hc.2 i o h
theorem Next.frame{hp h1:Heap}{ft:List Nat}(g:Good Z ψ hp.get w B0 O)(hB:B0≤w.heap.size)(aT:∀i ty cs,hp.get i=some (.box ty cs)→aw (fun i=>¬N i) cs)
  (n:Next Z ψ (fS hp ft).get w w.heap.size (Own ψ (fS hp ft).get) N Z' ψ' h1.get w') (hc:rN ft h1=true) :
  ∃dx,Next Z ψ hp.get w B0 O N Z' dx (dQ ft hp h1).get w'∧∀i,i∉ft→dx i=ψ' i:=by
 classical
 have gd:∀i,(fS hp ft).get i=if i∈ft then none else hp.get i:=fun i=>mE ft hp i
 have aZ:∀b,Own ψ (fS hp ft).get b→Own ψ hp.get b:=fun b ⟨i,h1,h2⟩=>⟨i,by rw[gd]at h1;split at h1;exact absurd rfl h1;exact h1,h2⟩
 have pj:∀i,i∈ft→h1.get i=none:=fun i hi=>by
  cases e:h1.get i with
  |none=>rfl
  |some o=>exact absurd hi (jH hc i o e).1
 have gf:∀i,(dQ ft hp h1).get i=if i∈ft then hp.get i else h1.get i:=fun i=>by
  rw[jF]
  by_cases hi:i∈ft
  ·rw[if_pos hi,if_pos hi,pj i hi];cases hp.get i<;>rfl
  ·rw[if_neg hi,if_neg hi]
 let dx:Nat→Value:=fun i=>if i∈ft then ψ i else ψ' i
 have p1:∀i,i∈ft→dx i=ψ i:=fun i hi=>if_pos hi
 have p2:∀i,i∉ft→dx i=ψ' i:=fun i hi=>if_neg hi
 have apart:∀i b,i∈ft→hp.get i≠none→ob (ψ i)=some b→¬Own ψ (fS hp ft).get b:=fun i b hi h2 h3 ⟨j,h4,h5⟩=>by
  rw[gd]at h4
  split at h4
  ·exact h4 rfl
  ·rename_i hj
   have:=g.apart i j b h2 h4 h3 h5
   subst this;exact hj hi
 have c8:∀i b,i∈ft→hp.get i≠none→ob (ψ i)=some b→w'.heap[b]? = w.heap[b]? := fun i b hi h2 h3 =>
  n.keep.block b (g.bw ⟨i,h2,h3⟩) (apart i b hi h2 h3)
 have keep:cF ψ hp.get w w':=⟨n.keep.os,n.keep.tape,n.keep.output,n.keep.size,fun b hb hn=>n.keep.block b hb fun ho=>hn (aZ b ho)⟩
 have sm:b4 Z w w':=keep.same g
 have ids:∀i,(dQ ft hp h1).get i≠none→(hp.get i≠none∧dx i=ψ i)∨N i:=fun i hi=>by
  rw[gf]at hi
  by_cases hf:i∈ft
  ·rw[if_pos hf]at hi;exact .inl ⟨hi,p1 i hf⟩
  ·rw[if_neg hf]at hi
   rcases n.ids i hi with⟨h2,h3⟩|h2
   ·rw[gd,if_neg hf]at h2
    exact .inl ⟨h2,(p2 i hf).trans h3⟩
   ·exact .inr h2
 have nz:∀i b,i∈ft→hp.get i≠none→ob (ψ i)=some b→¬Z' b:=fun i b hi h2 h3 hz=>by
  rcases n.dF b hz with h4|h4|h4
  ·exact(g.live i b h2 h3).1 h4
  ·exact apart i b hi h2 h3 h4
  ·have:=g.bw ⟨i,h2,h3⟩;omega
 refine⟨dx,⟨n.eP,fun b hb=>(n.dF b hb).imp (fun h=>h) (fun h=>h.imp (aZ b) fun h=>h),keep,ids,⟨fun i ty cs hb=>?_,fun i ok x hb=>?_,fun i b h2 h3=>?_,fun i j b h2 h3 h4 h5=>?_,n.dA.iR⟩⟩,p2⟩
 ·rw[gf]at hb
  by_cases hf:i∈ft
  ·rw[if_pos hf]at hb
   obtain⟨gg,vs,e1,e2,e3,e4⟩:=g.box i ty cs hb
   refine⟨gg,vs,by rw[p1 i hf,e1],(c8 i gg hf (by rw[hb];simp) (by rw[e1];rfl)).trans e2,e3.move n.eP sm (fun j hj aV=>(ids j aV).resolve_right hj) (aT i ty cs hb),e4⟩
  ·rw[if_neg hf]at hb
   obtain⟨gg,vs,e1,e2,e3,e4⟩:=n.dA.box i ty cs hb
   refine⟨gg,vs,by rw[p2 i hf,e1],e2,e3.move (fun _ h=>h) (b4.refl _ _) (fun j hj aV=>?_) ((jH hc i _ hb).2 ty cs rfl),e4⟩
   rw[gf,if_neg hj]at aV
   exact⟨aV,p2 j hj⟩
 ·rw[gf]at hb
  by_cases hf:i∈ft
  ·rw[if_pos hf]at hb
   rw[p1 i hf]
   exact(g.row i ok x hb).kept n.eP sm (fun b iU=>c8 i b hf (by rw[hb];simp) iU)
  ·rw[if_neg hf]at hb
   rw[p2 i hf]
   exact n.dA.row i ok x hb
 ·rw[gf]at h2
  by_cases hf:i∈ft
  ·rw[if_pos hf]at h2
   rw[p1 i hf]at h3
   exact⟨nz i b hf h2 h3,(g.live i b h2 h3).2⟩
  ·rw[if_neg hf]at h2
   rw[p2 i hf]at h3
   obtain⟨h4,h5⟩:=n.dA.live i b h2 h3
   refine⟨h4,h5.elim (fun h=>.inl (Nat.le_trans hB h)) fun h=>?_⟩
   obtain⟨j,h6,h7⟩:=aZ b h
   exact(g.live j b h6 h7).2
 ·have mixed:∀i j b,i∈ft→j∉ft→(dQ ft hp h1).get i≠none→(dQ ft hp h1).get j≠none→ob (dx i)=some b→ob (dx j)=some b→False:=fun i j b hi hj h2 h3 h4 h5=>by
   rw[gf,if_pos hi]at h2
   rw[gf,if_neg hj]at h3
   rw[p1 i hi]at h4
   rw[p2 j hj]at h5
   rcases (n.dA.live j b h3 h5).2 with h6|h6
   ·have:=g.bw ⟨i,h2,h4⟩;omega
   ·exact apart i b hi h2 h4 h6
  by_cases hi:i∈ft<;>by_cases hj:j∈ft
  ·rw[gf,if_pos hi]at h2
   rw[gf,if_pos hj]at h3
   rw[p1 i hi]at h4
   rw[p1 j hj]at h5
   exact g.apart i j b h2 h3 h4 h5
  ·exact(mixed i j b hi hj h2 h3 h4 h5).elim
  ·exact(mixed j i b hj hi h3 h2 h5 h4).elim
  ·rw[gf,if_neg hi]at h2
   rw[gf,if_neg hj]at h3
   rw[p2 i hi]at h4
   rw[p2 j hj]at h5
   exact n.dA.apart i j b h2 h3 h4 h5
theorem J.opF(E:Env P Eqs Sg F){rid n i:Nat}{p:Nat→Prop}{T:Nat→AV}{a:Act}{s:List (Nat×AV)}{o:Oper}(hS:makes o.op=true→∀id,p id→¬Of rid i id){hp h1:Heap}{v:AV}{ft:List Nat}(j:J p n Z0 w0 O ψ0 Z ψ T hp.get a w)(hd:gq n o=true)
  (hT:∀x∈o.op.operands,ao Z ψ hp.get w (ρ s x) (a.eval x)) (YB:∀x∈o.op.operands,aC p (ρ s x)) (he:cv P Eqs Sg F (opId rid i) (fS hp ft) s o some=some (.wr v h1)) (hc:lZ ft (.wr v h1)=true)
  {p':Nat→Prop} (KR:∀k,p k→p' k) (hv:aC p' v) (RB:ri p' (dQ ft hp h1).get) {next:Act→World→Prop} {Q:Exit→Act→World→Prop}
  (hk:∀a' w' Z' ψ',J p' n Z0 w0 O ψ0 Z' ψ' (hP T o.dst v) (dQ ft hp h1).get a' w'→next a' w'):o.wp P a w next Q:=by
 have RC:∀id,p id→¬(makes o.op=true∧Of rid i id):=fun id h ⟨h1,h2⟩=>hS h1 id h h2
 simp only[lZ,Bool.and_eq_true]at hc
 have aZ:∀id o,(fS hp ft).get id=some o→hp.get id=some o:=fun id o h=>by rw[mE]at h;split at h;cases h;exact h
 have aV:∀id,(fS hp ft).get id≠none→hp.get id≠none:=fun id h=>by
  obtain⟨o,ho⟩:=Option.ne_none_iff_exists'.1 h
  rw[aZ id o ho];simp
 have aT:∀i' ty cs,hp.get i'=some (.box ty cs)→aw (fun id=>¬(makes o.op=true∧Of rid i id)) cs:=fun id ty cs hb=>(j.hm id ty cs hb).imp RC
 have gs:Good Z ψ (fS hp ft).get w w.heap.size (Own ψ (fS hp ft).get):=(j.ok.dA.sub aZ).Cn _
 refine Qq (N:=fun id=>makes o.op=true∧Of rid i id) E gs (Nat.le_refl _) (fun _ _ h=>h) (id:=opId rid i) (fun hm k hk=>⟨hm,HY hk⟩) (fun x hx=>(hT x hx).oI aZ) (fun x hx=>(YB x hx).imp RC) (fun id ty cs hb=>aT id ty cs (aZ _ _ hb)) (fun _ _ _=>rfl) he fun V w' Z' ψ' nx hr=>?_
 obtain⟨dx,n2,h2⟩:=Next.frame j.ok.dA j.ok.size aT nx hc.2
 have RE:ao Z' dx (dQ ft hp h1).get w' v V:=hr.move (p:=fun i=>i∉ft) (fun _ h=>h) (b4.refl _ _) (fun k hk aV=>by
  rw[jF,if_neg hk]at aV
  exact⟨aV,h2 k hk⟩) (vP hc.1)
 refine hk _ w' Z' dx ⟨j.ok.next (fun id h=>by have:=h.2;unfold Of at this;omega) n2,(j.tr.next j.ok.dA n2 (fun d=>(j.tm d).imp RC)).put hd RE,fun d=>?_,RB⟩
 cases jZ:o.dst with
 |none=>exact(j.tm d).imp KR
 |some d0 =>
  simp only[hP,dv]
  split
  ·exact hv
  ·exact(j.tm d).imp KR
end Go.Vs
namespace Go.Vs
variable {P:Program} {Eqs:TypeId→Option K} {Sg:FuncId→Option aL} {F:(f:FuncId)→(g:aL)→g.A→Option g.B} {R:Type}
variable {Z Z' Z0:Nat→Prop} {ψ ψ':Nat→Value} {h h':Hp} {w w' w0:World} {B0:Nat} {O N:Nat→Prop}
variable {rid n:Nat} {ops:Array Oper} {b:Array Nat}
def qt(b:Array Nat)(i j:Nat):Prop:=(b.getD i 0).testBit j=true
theorem Bb(b:Array Nat)(j:Nat):∀(l:List Edge) (s:Nat),(l.foldl (fun s e=>if Region.binds .any e then s ||| 2 ^ e.on ||| b.getD e.on 0 else s) s).testBit j=true ↔
  s.testBit j=true∨∃e∈l,Region.binds .any e=true∧(j=e.on∨qt b e.on j)
 |[],s=>by simp
 |e::l,s=>by
  rw[List.foldl_cons,Bb b j l]
  by_cases hb:Region.binds .any e=true
  ·rw[if_pos hb]
   have h2:(2 ^ e.on).testBit j=true↔j=e.on:=by rw[Nat.testBit_two_pow];simp[eq_comm]
   simp only[Nat.testBit_or,Bool.or_eq_true,h2,List.mem_cons,exists_eq_or_imp,hb,true_and,qt]
   constructor
   ·rintro(((h|h)|h)|h)
    ·exact .inl h
    ·exact .inr (.inl (.inl h))
    ·exact .inr (.inl (.inr h))
    ·exact .inr (.inr h)
   ·rintro(h|(h|h)|h)
    ·exact .inl (.inl (.inl h))
    ·exact .inl (.inl (.inr h))
    ·exact .inl (.inr h)
    ·exact .inr h
  ·rw[if_neg hb]
   simp[hb]
theorem wL(hb:sK ops b=true){i j:Nat}{o:Oper}(ho:ops[i]? = some o):qt b i j↔∃e∈o.after.toList,Region.binds .any e=true∧(j=e.on∨qt b e.on j):=by
 have aE:=(Array.getElem?_eq_some_iff.1 ho).1
 have h1:=List.all_eq_true.1 hb i (List.mem_range.2 aE)
 rw[ho]at h1
 simp only[Bool.and_eq_true,beq_iff_eq]at h1
 unfold qt
 rw[h1.2,Bb]
 simp[qt]
theorem Gz(hb:sK ops b=true){i:Nat}{o:Oper}(ho:ops[i]? = some o){e:Edge}(he:e∈o.after.toList)(Ju:Region.binds .any e=true):e.on<i:=by
 have aE:=(Array.getElem?_eq_some_iff.1 ho).1
 have h1:=List.all_eq_true.1 hb i (List.mem_range.2 aE)
 rw[ho]at h1
 simp only[Bool.and_eq_true]at h1
 have:=List.all_eq_true.1 h1.1 e he
 simpa[Ju] using this
theorem yk(hb:sK ops b=true):∀(i j:Nat),i<ops.size→qt b i j→j<i:=by
 intro i
 induction i using Nat.strongRecOn with
 |ind i ih =>
  intro j hi h
  obtain⟨e,he,Ju,h1⟩:=(wL hb (Array.getElem?_eq_getElem hi)).1 h
  have RF:=Gz hb (Array.getElem?_eq_getElem hi) he Ju
  rcases h1 with rfl|h1
  ·exact RF
  ·exact Nat.lt_trans (ih e.on RF j (by omega) h1) RF
theorem Bc(hb:sK ops b=true):∀(i j k:Nat),i<ops.size→qt b i j→qt b j k→qt b i k:=by
 intro i
 induction i using Nat.strongRecOn with
 |ind i ih =>
  intro j k hi h h'
  obtain⟨e,he,Ju,h1⟩:=(wL hb (Array.getElem?_eq_getElem hi)).1 h
  have RF:=Gz hb (Array.getElem?_eq_getElem hi) he Ju
  refine(wL hb (Array.getElem?_eq_getElem hi)).2 ⟨e,he,Ju,?_⟩
  rcases h1 with rfl|h1
  ·exact .inr h'
  ·exact .inr (ih e.on RF j k (by omega) h1 h')
theorem get_filter(f:Nat→Bool):∀(hh:Heap) (i:Nat),Heap.get (hh.filter fun p=>f p.1) i=if f i then hh.get i else none
 |[],i=>by simp[Heap.get]
 |(j,o)::r,i=>by
  rw[List.filter_cons]
  split
  ·rename_i hj
   simp only[Heap.get]
   by_cases e:j=i
   ·subst e;simp only at hj;simp[hj]
   ·simp only[if_neg e];exact get_filter f r i
  ·rename_i hj
   rw[get_filter f r i]
   simp only[Heap.get]
   by_cases e:j=i
   ·subst e;simp only at hj;simp[hj]
   ·simp only[if_neg e]
theorem JI(rid FU:Nat)(hh:Heap)(id:Nat):(ahead rid FU hh).get id=if oY rid FU id then hh.get id else none:=by
 unfold ahead
 exact get_filter (fun i=>oY rid FU i) hh id
theorem LM(ft:List Nat)(hp:Heap)(e:bj):(fM ft hp e).v=e.v:=by cases e<;>rfl
theorem DV{id:Nat}{hh:Heap}{s:List (Nat×AV)}{o:Oper}{x:Operand}{e:bj}(hl:ig o.op=some x)(he:cv P Eqs Sg F id hh s o some=some e):∃v,e=.val v:=by
 obtain⟨dst,op,type,pos,after,guard⟩:=o
 cases op<;>simp only[ig]at hl<;>first|(cases hl;done)|skip
 case load t a =>
  simp only[cv,kA]at he
  repeat' (first|(cases he;done)|exact⟨_,(Option.some.inj he).symm⟩|split at he)
  all_goals
   obtain⟨y,_,he⟩:=Option.bind_eq_some_iff.1 he
   split at he<;>first|(cases he;done)|exact⟨_,(Option.some.inj he).symm⟩
 case indexAddr t a i =>
  simp only[cv,cZ]at he
  repeat' (first|(cases he;done)|exact⟨_,(Option.some.inj he).symm⟩|split at he)
  all_goals first
   |(obtain⟨y,_,he⟩:=Option.bind_eq_some_iff.1 he;exact⟨_,(Option.some.inj he).symm⟩)
   |(unfold cond at he;split at he<;>first|(cases he;done)|exact⟨_,(Option.some.inj he).symm⟩)
theorem Be{op:Op}{x:Operand}(hl:ig op=some x):lY op=false∧B6 op=false:=by
 cases op<;>simp only[ig]at hl<;>first|(cases hl;done)|exact⟨rfl,rfl⟩
theorem GA{id:Nat}{hh h2:Heap}{s:List (Nat×AV)}{o:Oper}{x:Operand}(hl:ig o.op=some x)(hg:∀i∈sM (ρ s x),h2.get i=hh.get i):cv P Eqs Sg F id h2 s o some=cv P Eqs Sg F id hh s o some:=by
 obtain⟨dst,op,type,pos,after,guard⟩:=o
 cases op<;>simp only[ig]at hl<;>first|(cases hl;done)|skip
 case load t a =>
  cases hl
  simp only[cv,kA]
  cases hv:ρ s x with
  |ref i s' j off=>rw[hv]at hg;simp only[sM,List.mem_singleton,forall_eq]at hg;simp only[hg]
  |_=>rfl
 case indexAddr t a i =>
  cases hl
  simp only[cv,cZ]
  cases vp P t with
  |none=>rfl
  |some e =>
   simp only[]
   cases hv:ρ s x with
   |bp k =>
    rw[hv]at hg
    have ub:=hg k (by simp[sM])
    cases ρ s i<;>first|rfl|simp only[ub]
   |sl ex k xs=>cases ρ s i<;>rfl
   |_=>rfl
def oz(ops:Array Oper)(T:Nat→AV)(o:Oper)(t:Bool):Prop :=
 match o.guard with
 |none=>t=true
 |some (j,want)=>∃d,(ops[j]?).bind (·.dst)=some d∧((∃u,T d=.bool u∧(u==want)=t)∨(∃vs,T d=.ml vs∧t=false))
def yl(P:Program)(Eqs:TypeId→Option K)(Sg:FuncId→Option aL)(F:(f:FuncId)→(g:aL)→g.A→Option g.B)(rid:Nat)(ops:Array Oper)(b:Array Nat)(T:Nat→Nat→AV)(H:Nat→Hp)(E:Nat→Option bj)(k:Nat)(o:Oper):Prop :=
 (∃e s hh,E k=some e∧look s=T k∧(∀id,Heap.get hh id=if oY rid (b.getD k 0) id then H k id else none)∧(∃e0,cv P Eqs Sg F (opId rid k) (fS hh (fT ops b k s o)) s o some=some e0∧e=fM (fT ops b k s o) hh e0∧lZ (fT ops b k s o) e0=true) ∧
  fL true rid ops b k (b.getD k 0) e=true∧oz ops (T k) o true∧T (k+1)=hP (T k) o.dst e.v∧H (k+1)=e.hp (H k)) ∨
 (E k=none∧oz ops (T k) o false∧T (k+1)=hP (T k) o.dst (.ml [])∧H (k+1)=H k)
theorem trace{kk:St→Option R}{r:R}:∀(l:List (Nat×Oper)) (i:Nat) (st:St),yi ops i l→l.length=ops.size-i→bc P Eqs Sg F rid true ops b l st kk=some r →
  ∃(T:Nat→Nat→AV) (H:Nat→Hp) (E:Nat→Option bj),T i=look st.tmps∧H i=st.heap.get∧(∀k o,i≤k→ops[k]? = some o→yl P Eqs Sg F rid ops b T H E k o) ∧
   ∃dE,kk dE=some r∧look dE.tmps=T (max i ops.size)∧dE.heap.get=H (max i ops.size)
 |[],i,st,_,hlen,hx=>by
  have Qn:ops.size≤i:=by simp at hlen;omega
  refine⟨fun _=>look st.tmps,fun _=>st.heap.get,fun _=>none,rfl,rfl,fun k o hk ho=>?_,st,hx,rfl,rfl⟩
  have:=(Array.getElem?_eq_some_iff.1 ho).1
  omega
 |(i',o)::l,i,st,hl,hlen,hx=>by
  obtain⟨rfl,ho,hl⟩:=hl
  have aE:=(Array.getElem?_eq_some_iff.1 ho).1
  have ih:=trace (kk:=kk) (r:=r) l (i'+1)
  have Uf:l.length=ops.size-(i'+1):=by simp at hlen;omega
  have glue:∀(dE:St) (oe:Option bj),bc P Eqs Sg F rid true ops b l dE kk=some r →
    (∀T H E,T i'=look st.tmps→H i'=st.heap.get→E i'=oe→T (i'+1)=look dE.tmps→H (i'+1)=dE.heap.get→yl P Eqs Sg F rid ops b T H E i' o) →
    ∃(T:Nat→Nat→AV) (H:Nat→Hp) (E:Nat→Option bj),T i'=look st.tmps∧H i'=st.heap.get∧(∀k o,i'≤k→ops[k]? = some o→yl P Eqs Sg F rid ops b T H E k o) ∧
     ∃dE,kk dE=some r∧look dE.tmps=T (max i' ops.size)∧dE.heap.get=H (max i' ops.size):=by
   intro dE oe TN sS
   obtain⟨T,H,E,h1,h2,h3,YG,h4,h5,h6⟩:=ih dE hl Uf TN
   refine⟨fun k=>if k≤i' then look st.tmps else T k,fun k=>if k≤i' then st.heap.get else H k,fun k=>if k=i' then oe else E k,by simp,by simp,fun k o' hk ma => ?_,YG,h4,?_,?_⟩
   ·by_cases XG:k=i'
    ·subst XG
     rw[ho]at ma
     cases ma
     exact sS _ _ _ (by simp) (by simp) (by simp) (by show(if k+1≤k then _ else _)=_;rw[if_neg (by omega)];exact h1) (by show(if k+1≤k then _ else _)=_;rw[if_neg (by omega)];exact h2)
    ·have h7:=h3 k o' (by omega) ma
     unfold yl at h7 ⊢
     simp only[show ¬k≤i' by omega,show ¬k+1≤i' by omega,XG,if_false]
     exact h7
   ·rw[h5];simp only[show max (i'+1) ops.size=ops.size by omega,show max i' ops.size=ops.size by omega,show ¬ops.size≤i' by omega,if_false]
   ·rw[h6];simp only[show max (i'+1) ops.size=ops.size by omega,show max i' ops.size=ops.size by omega,show ¬ops.size≤i' by omega,if_false]
  have runs:∀gF:St,look gF.tmps=look st.tmps→gF.heap=st.heap→oz ops (look st.tmps) o true →
    (cv P Eqs Sg F (opId rid i') (fS (ahead rid (b.getD i' 0) gF.heap) (fT ops b i' gF.tmps o)) gF.tmps o fun e=>if(fL true rid ops b i' (b.getD i' 0) (fM (fT ops b i' gF.tmps o) (ahead rid (b.getD i' 0) gF.heap) e)&&lZ (fT ops b i' gF.tmps o) e)=true then bc P Eqs Sg F rid true ops b l ({ gF with heap:=match fM (fT ops b i' gF.tmps o) (ahead rid (b.getD i' 0) gF.heap) e with | .wr _ h=>h|e=>e.h gF.heap }.put o.dst e.v) kk else none)=some r →
    ∃(T:Nat→Nat→AV) (H:Nat→Hp) (E:Nat→Option bj),T i'=look st.tmps∧H i'=st.heap.get∧(∀k o,i'≤k→ops[k]? = some o→yl P Eqs Sg F rid ops b T H E k o) ∧
     ∃dE,kk dE=some r∧look dE.tmps=T (max i' ops.size)∧dE.heap.get=H (max i' ops.size):=by
   intro gF h1 h2 hw hx
   rw[ki]at hx
   obtain⟨e,he,hx⟩:=Option.bind_eq_some_iff.1 hx
   split at hx
   ·rename_i ll
    rw[Bool.and_eq_true]at ll
    generalize Ct:fM (fT ops b i' gF.tmps o) (ahead rid (b.getD i' 0) gF.heap) e=e1 at hx ll
    have s5:e.v=e1.v:=by rw[←Ct];exact(LM _ _ _).symm
    refine glue _ (some e1) hx fun T H E hT hH hE YH Rt => ?_
    refine .inl ⟨e1,gF.tmps,_,hE,by rw[hT,h1],fun id=>by rw[JI,hH,h2],⟨e,he,Ct.symm,ll.2⟩,ll.1,by rw[hT];exact hw,?_,?_⟩
    ·rw[YH,fZ,hT,s5];simp only[h1]
    ·rw[Rt,cJ,hH]
     have:(bj.heap e1 gF.heap).get=e1.hp st.heap.get:=by rw[bj.DS,h2]
     exact this
   ·cases hx
  have rj:∀gF:St,look gF.tmps=look st.tmps→gF.heap=st.heap→oz ops (look st.tmps) o false →
    bc P Eqs Sg F rid true ops b l (gF.put o.dst (.ml [])) kk=some r →
    ∃(T:Nat→Nat→AV) (H:Nat→Hp) (E:Nat→Option bj),T i'=look st.tmps∧H i'=st.heap.get∧(∀k o,i'≤k→ops[k]? = some o→yl P Eqs Sg F rid ops b T H E k o) ∧
     ∃dE,kk dE=some r∧look dE.tmps=T (max i' ops.size)∧dE.heap.get=H (max i' ops.size):=by
   intro gF h1 h2 hw hx
   refine glue _ none hx fun T H E hT hH hE YH Rt=>.inr ⟨hE,by rw[hT];exact hw,?_,?_⟩
   ·rw[YH,fZ,hT,h1]
   ·rw[Rt,cJ,hH,h2]
  rw[bc]at hx
  simp only[if_true]at hx
  split at hx
  ·rename_i hg
   exact runs st rfl rfl (by simp[oz,hg]) hx
  ·rename_i jj want hg
   split at hx
   ·cases hx
   ·rename_i d hd
    split at hx
    ·rename_i t ht
     have hp:∀b,t=b→look (st.put (some d) (.bool b)).tmps=look st.tmps:=fun b hb=>by
      subst hb;rw[fZ];exact A8 ht
     have hw:∀c,(t==want)=c→oz ops (look st.tmps) o c:=fun c hc=>by
      unfold oz;rw[hg];exact⟨d,hd,.inl ⟨t,ht,hc⟩⟩
     cases t<;>simp only[cond_true,cond_false]at hx<;>split at hx<;>rename_i pz
     ·exact rj _ (hp false rfl) (cJ _ _ _) (hw _ (by simp[pz])) hx
     ·exact runs _ (hp false rfl) (cJ _ _ _) (hw _ (by simp[pz])) hx
     ·exact runs _ (hp true rfl) (cJ _ _ _) (hw _ (by simp[pz])) hx
     ·exact rj _ (hp true rfl) (cJ _ _ _) (hw _ (by simp[pz])) hx
    ·rename_i vs ht
     exact rj st rfl rfl (by unfold oz;rw[hg];exact⟨d,hd,.inr ⟨vs,ht,rfl⟩⟩) hx
    ·cases hx
def Nf(ops:Array Oper)(j:Nat):Prop:=∃o,ops[j]? = some o∧lY o.op=false∧ig o.op=none
def wM(E:Nat→Option bj)(k:Nat):Prop:=∃v h',E k=some (.wr v h')
def Tf(E:Nat→Option bj)(k:Nat):Prop:=∃v os,E k=some (.new v os)
theorem th{α:Type}(f:α→Option Nat):∀(l:List α),bR (l.filterMap f)=true→∀(i j:Nat) (x y:α) (d:Nat),l[i]? = some x→l[j]? = some y→f x=some d→f y=some d→i=j
 |[],_,i,j,x,y,d,hi,_,_,_=>by simp at hi
 |a::r,hn,i,j,x,y,d,hi,hj,hx,hy=>by
  have iu:∀(k:Nat) (z:α),r[k]? = some z→f z=some d→d∈r.filterMap f:=fun k z hk hz=>List.mem_filterMap.2 ⟨z,List.mem_of_getElem? hk,hz⟩
  have hr:bR (r.filterMap f)=true∧∀c,f a=some c→c∉r.filterMap f:=by
   rw[List.filterMap_cons]at hn
   split at hn
   ·rename_i h0;exact⟨hn,fun c hc=>by rw[h0]at hc;cases hc⟩
   ·rename_i c h0
    simp only[bR,Bool.and_eq_true,Bool.not_eq_true']at hn
    refine⟨hn.2,fun c' hc=>?_⟩
    rw[h0]at hc;cases hc
    intro hm
    rw[List.contains_iff_mem.2 hm]at hn;simp at hn
  cases i with
  |zero =>
   cases j with
   |zero=>rfl
   |succ j =>
    simp only[List.getElem?_cons_zero,Option.some.injEq]at hi;subst hi
    exact absurd (iu j y (by simpa using hj) hy) (hr.2 d hx)
  |succ i =>
   cases j with
   |zero =>
    simp only[List.getElem?_cons_zero,Option.some.injEq]at hj;subst hj
    exact absurd (iu i x (by simpa using hi) hx) (hr.2 d hy)
   |succ j=>rw[th f r hr.1 i j x y d (by simpa using hi) (by simpa using hj) hx hy]
structure Dr(P:Program)(Eqs:TypeId→Option K)(Sg:FuncId→Option aL)(F:(f:FuncId)→(g:aL)→g.A→Option g.B)(rid n:Nat)(ops:Array Oper)(b:Array Nat)(T:Nat→Nat→AV)(H:Nat→Hp)(E:Nat→Option bj):Prop where
 size:ops.size≤128
 KS:sK ops b=true
 pair:xp ops b=true
 YI:∀(i:Nat) (o:Oper),ops[i]? = some o→gq n o=true
 nodup:bR (ops.toList.filterMap (·.dst))=true
 step:∀k o,ops[k]? = some o→yl P Eqs Sg F rid ops b T H E k o
 YJ:∀id,H 0 id≠none→id / 32768≠rid+1
section
variable {T:Nat→Nat→AV} {H:Nat→Hp} {E:Nat→Option bj}
theorem Dr.wN(D:Dr P Eqs Sg F rid n ops b T H E){i j:Nat}{x y:Oper}{d:Nat}(hi:ops[i]? = some x)(hj:ops[j]? = some y)(hx:x.dst=some d)(hy:y.dst=some d):i=j :=
 th (·.dst) ops.toList D.nodup i j x y d (by simpa using hi) (by simpa using hj) hx hy
theorem Dr.Qs(D:Dr P Eqs Sg F rid n ops b T H E){i j:Nat}{x y:Oper}(hi:ops[i]? = some x)(hj:ops[j]? = some y)(xL:i<j):qt b j i∨x.apart ops y=true:=by
 have h1:=List.all_eq_true.1 D.pair j (List.mem_range.2 (Array.getElem?_eq_some_iff.1 hj).1)
 have h2:=List.all_eq_true.1 h1 i (List.mem_range.2 xL)
 rw[hi,hj]at h2
 simp only[Bool.or_eq_true,Bool.and_eq_true]at h2
 exact h2
theorem Dr.OV(D:Dr P Eqs Sg F rid n ops b T H E){k:Nat}{o:Oper}(ho:ops[k]? = some o){e:bj}(he:E k=some e) :
  ∃s hh,look s=T k∧(∀id,Heap.get hh id=if oY rid (b.getD k 0) id then H k id else none)∧(∃e0,cv P Eqs Sg F (opId rid k) (fS hh (fT ops b k s o)) s o some=some e0∧e=fM (fT ops b k s o) hh e0∧lZ (fT ops b k s o) e0=true) ∧
   fL true rid ops b k (b.getD k 0) e=true∧oz ops (T k) o true∧T (k+1)=hP (T k) o.dst e.v∧H (k+1)=e.hp (H k):=by
 rcases D.step k o ho with⟨e',s,hh,h1,h2⟩|⟨h1,_⟩
 ·rw[he]at h1;cases h1;exact⟨s,hh,h2⟩
 ·rw[he]at h1;cases h1
theorem Dr.Cu(D:Dr P Eqs Sg F rid n ops b T H E){k:Nat}{o:Oper}(ho:ops[k]? = some o)(he:E k=none) :
  oz ops (T k) o false∧T (k+1)=hP (T k) o.dst (.ml [])∧H (k+1)=H k:=by
 rcases D.step k o ho with⟨e',s,hh,h1,h2⟩|⟨h1,h2⟩
 ·rw[he]at h1;cases h1
 ·exact h2
theorem Dr.uI(D:Dr P Eqs Sg F rid n ops b T H E){k:Nat}(hk:k<ops.size)(h:Tf E k):Nf ops k:=by
 obtain⟨v,os,he⟩:=h
 obtain⟨s,hh,_,_,⟨e0,h3,Qj,_⟩,_⟩:=D.OV (Array.getElem?_eq_getElem hk) he
 refine⟨_,Array.getElem?_eq_getElem hk,?_,?_⟩
 ·cases hf:lY (ops[k]).op with
  |false=>rfl
  |true=>obtain⟨v',rfl⟩:=DO hf h3;cases Qj
 ·cases hf:ig (ops[k]).op with
  |none=>rfl
  |some x=>obtain⟨v',rfl⟩:=DV hf h3;cases Qj
theorem Dr.LN(D:Dr P Eqs Sg F rid n ops b T H E){k:Nat}(hk:k<ops.size)(h:wM E k):Nf ops k:=by
 obtain⟨v,os,he⟩:=h
 obtain⟨s,hh,_,_,⟨e0,h3,Qj,_⟩,_⟩:=D.OV (Array.getElem?_eq_getElem hk) he
 refine⟨_,Array.getElem?_eq_getElem hk,?_,?_⟩
 ·cases hf:lY (ops[k]).op with
  |false=>rfl
  |true=>obtain⟨v',rfl⟩:=DO hf h3;cases Qj
 ·cases hf:ig (ops[k]).op with
  |none=>rfl
  |some x=>obtain⟨v',rfl⟩:=DV hf h3;cases Qj
theorem Dr.ym(D:Dr P Eqs Sg F rid n ops b T H E){k j:Nat}(hk:k<ops.size)(h:wM E k)(hj:Nf ops j)(aV:j≠k):(j<k∧qt b k j)∨(k<j∧qt b j k):=by
 obtain⟨v,os,he⟩:=h
 obtain⟨s,hh,_,_,_,h4,_⟩:=D.OV (Array.getElem?_eq_getElem hk) he
 obtain⟨o,ho,hf,N4⟩:=hj
 have FH:=(Array.getElem?_eq_some_iff.1 ho).1
 simp only[fL,Bool.and_eq_true]at h4
 have h5:FR ops b k=true:=by simpa using h4.1.1
 have h6:=List.all_eq_true.1 h5 j (List.mem_range.2 FH)
 have hlf:sL ops k j=false:=by unfold sL;rw[ho];simp only[Option.bind_some,N4]
 rw[hlf,Bool.and_false,ho]at h6
 simp only[Bool.or_eq_true,beq_iff_eq,hf,Bool.false_eq_true,or_false]at h6
 rcases h6 with(h6|h6)|h6
 ·exact absurd h6 aV
 ·exact .inr ⟨yk D.KS j k FH h6,h6⟩
 ·exact .inl ⟨yk D.KS k j hk h6,h6⟩
theorem Dr.yn(D:Dr P Eqs Sg F rid n ops b T H E){p:Nat}:∀(q:Nat),p≤q→q≤ops.size→∀id,(∀k,p≤k→k<q→wM E k→H (k+1) id=H k id)→(∀k,p≤k→k<q→Tf E k→¬Of rid k id)→H q id=H p id:=by
 intro q
 induction q with
 |zero=>intro xQ _ id _ _;rw[Nat.le_zero.1 xQ]
 |succ q ih =>
  intro xQ hq id hw bD
  by_cases he:p=q+1
  ·rw[he]
  ·have h1:=ih (by omega) (by omega) id (fun k h1 h2=>hw k h1 (by omega)) (fun k h1 h2=>bD k h1 (by omega))
   rw[←h1]
   have ho:=Array.getElem?_eq_getElem (show q<ops.size by omega)
   cases hE:E q with
   |none=>rw[(D.Cu ho hE).2.2]
   |some e =>
    obtain⟨s,hh,_,_,_,h4,_,_,h7⟩:=D.OV ho hE
    cases e with
    |val v=>rw[h7];rfl
    |wr v h'=>exact hw q (by omega) (by omega) ⟨v,h',hE⟩
    |new v os =>
     rw[h7]
     simp only[bj.hp]
     cases KO:Heap.get os id with
     |none=>rfl
     |some o' =>
      exfalso
      simp only[fL,Bool.and_eq_true]at h4
      refine bD q (by omega) (by omega) ⟨v,os,hE⟩ ?_
      have:∀(l:Heap),(l.all fun p=>p.1 / 256==(rid+1)*128+q)=true→∀o',l.get id=some o'→Of rid q id:=by
       intro l
       induction l with
       |nil=>intro _ o' h;simp[Heap.get]at h
       |cons a r YK =>
        intro eg o' hg
        simp only[List.all_cons,Bool.and_eq_true,beq_iff_eq]at eg
        simp only[Heap.get]at hg
        split at hg
        ·rename_i e;rw[←e];exact eg.1
        ·exact YK eg.2 o' hg
      exact this os h4.1.2 o' KO
theorem Dr.wO(D:Dr P Eqs Sg F rid n ops b T H E){p:Nat}(q:Nat)(xQ:p≤q)(hq:q≤ops.size)(hw:∀k,p≤k→k<q→¬wM E k)(id:Nat)(hn:∀k,p≤k→k<q→Tf E k→¬Of rid k id):H q id=H p id :=
 D.yn q xQ hq id (fun k h1 h2 h3=>absurd h3 (hw k h1 h2)) hn
theorem Dr.names(D:Dr P Eqs Sg F rid n ops b T H E):∀(k:Nat),k≤ops.size→∀id,H k id≠none→id / 32768=rid+1→∃j,Of rid j id∧j<k∧j<128∧(Tf E j∨∃w,w<k∧wM E w∧(j=w∨qt b w j)):=by
 intro k
 induction k with
 |zero=>intro _ id h1 h2;exact absurd h2 (D.YJ id h1)
 |succ k ih =>
  intro hk id h1 h2
  have aE:k<ops.size:=by omega
  have up:H k id≠none→∃j,Of rid j id∧j<k+1∧j<128∧(Tf E j∨∃w,w<k+1∧wM E w∧(j=w∨qt b w j)):=fun h=>by
   obtain⟨j,h3,h4,Yr,h5⟩:=ih (by omega) id h h2
   exact⟨j,h3,by omega,Yr,h5.imp (fun h=>h) fun⟨w,h6,h7⟩=>⟨w,by omega,h7⟩⟩
  have ho:=Array.getElem?_eq_getElem aE
  have LO:=D.size
  cases hE:E k with
  |none=>rw[(D.Cu ho hE).2.2]at h1;exact up h1
  |some e =>
   obtain⟨s,hh,_,_,_,h4,_,_,h7⟩:=D.OV ho hE
   rw[h7]at h1
   cases e with
   |val v=>exact up h1
   |wr v h' =>
    obtain⟨o',ma⟩:=Option.ne_none_iff_exists'.1 h1
    simp only[fL,Bool.and_eq_true]at h4
    have h5:(b.getD k 0 ||| 2 ^ k).testBit (id / 256%128)=true:=(kO (S:=fun j=>(b.getD k 0 ||| 2 ^ k).testBit j=true) (fun j hj=>hj) h4.2 id o' ma).1 h2
    rw[Nat.testBit_or,Bool.or_eq_true,Nat.testBit_two_pow]at h5
    refine⟨id / 256%128,Of.of h2 rfl,?_,by omega,.inr ⟨k,by omega,⟨v,h',hE⟩,?_⟩⟩
    ·rcases h5 with h5|h5
     ·have:=yk D.KS k _ aE h5;omega
     ·have:=of_decide_eq_true h5;omega
    ·rcases h5 with h5|h5
     ·exact .inr h5
     ·exact .inl (of_decide_eq_true h5).symm
   |new v os =>
    simp only[bj.hp]at h1
    cases KO:Heap.get os id with
    |none=>rw[KO]at h1;exact up h1
    |some o' =>
     simp only[fL,Bool.and_eq_true]at h4
     have:∀(l:Heap),(l.all fun p=>p.1 / 256==(rid+1)*128+k)=true→∀o',l.get id=some o'→Of rid k id:=by
      intro l
      induction l with
      |nil=>intro _ o' h;simp[Heap.get]at h
      |cons a r YK =>
       intro eg o' hg
       simp only[List.all_cons,Bool.and_eq_true,beq_iff_eq]at eg
       simp only[Heap.get]at hg
       split at hg
       ·rename_i e;rw[←e];exact eg.1
       ·exact YK eg.2 o' hg
     exact⟨k,this os h4.1.2 o' KO,by omega,by omega,.inl ⟨v,os,hE⟩⟩
theorem Dr.RG(D:Dr P Eqs Sg F rid n ops b T H E){q:Nat}(ng:q<ops.size)(OW:wM E q):∀id,H q id≠none→lp rid (qt b q) id:=fun id aV LP=>by
 obtain⟨j,h1,h2,YL,h3⟩:=D.names q (by omega) id aV LP
 rw[(h1.parts YL).2]
 rcases h3 with h3|⟨w',h5,h6,h8⟩
 ·rcases D.ym ng OW (D.uI (by omega) h3) (by omega) with⟨_,h9⟩|⟨h9,_⟩
  ·exact h9
  ·omega
 ·have Ug:qt b q w':=by
   rcases D.ym ng OW (D.LN (by omega) h6) (by omega) with⟨_,h9⟩|⟨h9,_⟩
   ·exact h9
   ·omega
  rcases h8 with rfl|h8
  ·exact Ug
  ·exact Bc D.KS q w' j ng Ug h8
theorem Dr.uJ(D:Dr P Eqs Sg F rid n ops b T H E){d p:Nat}:∀(q:Nat),p≤q→q≤ops.size→(∀m o,p≤m→m<q→ops[m]? = some o→o.dst≠some d)→T q d=T p d
 |0,h,_,_=>by rw[Nat.le_zero.1 h]
 |q+1,h,hq,hm=>by
  by_cases e:p=q+1
  ·rw[e]
  ·have ho:=Array.getElem?_eq_getElem (show q<ops.size by omega)
   have ih:=D.uJ q (by omega) (by omega) fun m o h1 h2=>hm m o h1 (by omega)
   rw[←ih]
   have hd:=hm q _ (by omega) (by omega) ho
   have key:∀v,hP (T q) (ops[q]).dst v d=T q d:=fun v=>by
    cases jZ:(ops[q]).dst with
    |none=>rfl
    |some d' =>
     simp only[hP,dv]
     rw[if_neg]
     rintro rfl
     exact hd jZ
   rcases D.step q _ ho with⟨e,s,hh,_,_,_,_,_,_,h7,_⟩|⟨_,_,h3,_⟩
   ·rw[h7,key]
   ·rw[h3,key]
theorem Dr.steady(D:Dr P Eqs Sg F rid n ops b T H E){i k:Nat}{o:Oper}{x:Operand}(ho:ops[i]? = some o)(hl:ig o.op=some x)(hk:k<ops.size)(hw:wM E k)(aV:i≠k)(h1:¬qt b i k)(h2:¬qt b k i)
  {s:List (Nat×AV)} (hs:look s=T i) {id:Nat} (bD:id∈sM (ρ s x)):H (k+1) id=H k id:=by
 have ng:=(Array.getElem?_eq_some_iff.1 ho).1
 obtain⟨v,h',hE⟩:=hw
 have ll:=Array.getElem?_eq_getElem hk
 obtain⟨sk,hh,JJ,OX,⟨e0,Qj,Ct,sG⟩,h4,_,_,h7⟩:=D.OV ll hE
 simp only[fL,Bool.and_eq_true]at h4
 have h5:FR ops b k=true:=by simpa using h4.1.1
 have h6:=List.all_eq_true.1 h5 i (List.mem_range.2 ng)
 rw[ho,ll]at h6
 have b1:(b.getD i 0).testBit k=false:=Bool.eq_false_iff.2 h1
 have b2:(b.getD k 0).testBit i=false:=Bool.eq_false_iff.2 h2
 have b3:(i==k)=false:=by simp[aV]
 simp only[b1,b2,b3,(Be hl).1,Bool.false_or,Bool.and_eq_true]at h6
 obtain⟨Bf,HZ⟩:=h6
 have Uh:fT ops b k sk ops[k]=Rb ops b k sk:=by unfold fT;rw[if_pos Bf]
 have mn:ρ sk x=ρ s x:=by
  cases x with
  |tmp d =>
   simp only[ρ,JJ,hs]
   unfold sL at HZ
   rw[ho]at HZ
   simp only[Option.bind_some,hl]at HZ
   have hm:∀m o',min k i≤m→m<max k i→ops[m]? = some o'→o'.dst≠some d:=fun m o' g1 g2 g3 hd=>by
    have g4:=List.all_eq_true.1 HZ m (List.mem_range.2 (by omega))
    rw[g3]at g4
    simp[hd,g1,g2]at g4
   rcases Nat.lt_or_ge i k with g|g
   ·exact D.uJ k (by omega) (by omega) fun m o' g1 g2=>hm m o' (by omega) (by omega)
   ·exact(D.uJ i (by omega) (by omega) fun m o' g1 g2=>hm m o' (by omega) (by omega)).symm
  |_=>rfl
 have iu:id∈fT ops b k sk ops[k]:=by
  rw[Uh]
  unfold Rb
  refine List.mem_flatMap.2 ⟨i,List.mem_range.2 ng,?_⟩
  rw[b1,b2,b3,ho]
  simp only[Bool.or_self,Bool.false_eq_true,if_false,Option.bind_some,hl]
  rw[mn];exact bD
 cases e0 with
 |val v0=>cases Ct
 |new v0 os=>cases Ct
 |wr v0 La =>
  cases Ct
  simp only[lZ,Bool.and_eq_true]at sG
  have hn:La.get id=none:=by
   cases e:La.get id with
   |none=>rfl
   |some ob=>exact absurd iu (jH sG.2 id ob e).1
  rw[h7]
  show(dQ _ hh La).get id=H k id
  rw[jF,if_pos iu,hn,OX id]
  cases YM:H k id with
  |none=>simp
  |some ob =>
   have h8:=D.RG hk ⟨_,_,hE⟩ id (by rw[YM];simp)
   have h9:oY rid (b.getD k 0) id=true:=by
    unfold oY
    by_cases hr:id / 32768=rid+1
    ·have:=h8 hr
     unfold qt at this
     rw[this];simp
    ·simp[hr]
   rw[if_pos h9]
end
end Go.Vs
namespace Go.Vs
variable {P:Program} {Eqs:TypeId→Option K} {Sg:FuncId→Option aL} {F:(f:FuncId)→(g:aL)→g.A→Option g.B} {R:Type}
variable {Z Z' Z0:Nat→Prop} {ψ ψ' ψ0:Nat→Value} {h h':Hp} {w w' w0:World} {B0:Nat} {O N:Nat→Prop}
variable {rid n:Nat} {ops:Array Oper} {b:Array Nat} {T:Nat→Nat→AV} {H:Nat→Hp} {E:Nat→Option bj}
structure Dj(rid:Nat)(ops:Array Oper)(b:Array Nat)(T:Nat→Nat→AV)(H:Nat→Hp)(E:Nat→Option bj)(S:Nat→Prop)(Tc:Nat→AV)(h:Hp):Prop where
 lt:∀i,S i→i<ops.size
 closed:∀i j,S i→qt b i j→S j
 heap:∃q,q≤ops.size∧(∀k,k<q→wM E k→S k)∧(q<ops.size→wM E q∧¬S q)∧∀id,(lp rid S id→h id=H q id)∧(¬lp rid S id→h id=none)
 LQ:∀j o d,S j→ops[j]? = some o→o.dst=some d→Tc d=T (j+1) d
 told:∀d,(∀j o,S j→ops[j]? = some o→o.dst≠some d)→Tc d=T 0 d
theorem Dr.LR(D:Dr P Eqs Sg F rid n ops b T H E){k:Nat}{o:Oper}(ho:ops[k]? = some o){d:Nat}(hd:o.dst≠some d):T (k+1) d=T k d:=by
 have:∀v,hP (T k) o.dst v d=T k d:=fun v=>by
  cases jZ:o.dst with
  |none=>rfl
  |some d' =>
   simp only[hP,dv]
   rw[if_neg]
   rintro rfl
   exact hd jZ
 rcases D.step k o ho with⟨e,s,hh,_,_,_,_,_,_,h7,_⟩|⟨_,_,h3,_⟩
 ·rw[h7,this]
 ·rw[h3,this]
theorem Dr.ti(D:Dr P Eqs Sg F rid n ops b T H E){d:Nat}:∀(i:Nat),i≤ops.size→(∀k o,k<i→ops[k]? = some o→o.dst≠some d)→T i d=T 0 d
 |0,_,_=>rfl
 |i+1,hi,hk=>by
  rw[D.LR (Array.getElem?_eq_getElem (show i<ops.size by omega)) (hk i _ (by omega) (Array.getElem?_eq_getElem (by omega)))]
  exact D.ti i (by omega) fun k o h1 h2=>hk k o (by omega) h2
theorem Dr.Cv(D:Dr P Eqs Sg F rid n ops b T H E){d j:Nat}{oj:Oper}(hj:ops[j]? = some oj)(hd:oj.dst=some d):∀(i:Nat),i≤ops.size→j<i→T i d=T (j+1) d
 |0,_,h=>by omega
 |i+1,hi,h=>by
  by_cases e:j=i
  ·rw[e]
  ·have ho:=Array.getElem?_eq_getElem (show i<ops.size by omega)
   rw[D.LR ho (fun hdi=>e (D.wN hj ho hd hdi))]
   exact D.Cv hj hd i (by omega) (by omega)
theorem Dr.looks(D:Dr P Eqs Sg F rid n ops b T H E){S:Nat→Prop}{Tc:Nat→AV}(dj:Dj rid ops b T H E S Tc h){i:Nat}{o:Oper}(ho:ops[i]? = some o)(hS:¬S i)(hb:∀j,qt b i j→S j){d:Nat}(hd:d∈o.looksAt ops):Tc d=T i d:=by
 have hi:=(Array.getElem?_eq_some_iff.1 ho).1
 by_cases hex:∃(j:Nat) (oj:Oper),ops[j]? = some oj∧oj.dst=some d
 ·obtain⟨j,oj,hj,Tg⟩:=hex
  have c8:¬S j→Tc d=T 0 d:=fun hn=>dj.told d fun j' o' hs ma LS=>hn (by rw[D.wN hj ma Tg LS];exact hs)
  have KS:i≤j→T i d=T 0 d:=fun xL=>D.ti i (by omega) fun k o' hk ma LS=>by have:=D.wN hj ma Tg LS;omega
  rcases Nat.lt_trichotomy j i with aE|rfl|FM
  ·rcases D.Qs hj ho aE with h1|h1
   ·rw[dj.LQ j oj d (hb j h1) hj Tg,D.Cv hj Tg i (by omega) aE]
   ·exact absurd hd ((Oper.apart_spec h1).1 d Tg)
  ·rw[c8 hS,KS (Nat.le_refl _)]
  ·rcases D.Qs ho hj FM with h1|h1
   ·rw[c8 (fun hs=>hS (dj.closed j i hs h1)),KS (by omega)]
   ·exact absurd hd ((Oper.apart_spec h1).2.2 d Tg)
 ·rw[dj.told d fun j o' _ ma LS=>hex ⟨j,o',ma,LS⟩,D.ti i (by omega) fun k o' _ ma LS=>hex ⟨k,o',ma,LS⟩]
theorem Dr.LU{S:Nat→Prop}{Tc:Nat→AV}(D:Dr P Eqs Sg F rid n ops b T H E)(dj:Dj rid ops b T H E S Tc h){i:Nat}{o:Oper}(ho:ops[i]? = some o)(hS:¬S i){v:AV}(hv:T (i+1)=hP (T i) o.dst v) :
  (∀j o' d,(S j∨j=i)→ops[j]? = some o'→o'.dst=some d→hP Tc o.dst v d=T (j+1) d)∧(∀d,(∀j o',(S j∨j=i)→ops[j]? = some o'→o'.dst≠some d)→hP Tc o.dst v d=T 0 d):=by
 constructor
 ·intro j o' d hj ma hd
  rcases hj with hj|rfl
  ·have aV:j≠i:=fun e=>hS (e▸hj)
   have:hP Tc o.dst v d=Tc d:=by
    cases jZ:o.dst with
    |none=>rfl
    |some d' =>
     simp only[hP,dv]
     rw[if_neg]
     rintro rfl
     exact aV (D.wN ma ho hd jZ)
   rw[this];exact dj.LQ j o' d hj ma hd
  ·rw[ho]at ma;cases ma
   rw[hv,hd];simp[hP,dv]
 ·intro d hd
  have:hP Tc o.dst v d=Tc d:=by
   cases jZ:o.dst with
   |none=>rfl
   |some d' =>
    simp only[hP,dv]
    rw[if_neg]
    rintro rfl
    exact hd i o (.inr rfl) ho jZ
  rw[this];exact dj.told d fun j o' hj=>hd j o' (.inl hj)
theorem tj{i k id:Nat}(h1:Of rid i id)(h2:Of rid k id):i=k:=by unfold Of at h1 h2;omega
section
variable {S:Nat→Prop} {Tc:Nat→AV}
theorem Dr.calm(D:Dr P Eqs Sg F rid n ops b T H E)(dj:Dj rid ops b T H E S Tc h){i q:Nat}(hi:Nf ops i)(hS:¬S i)(hq:q≤ops.size)(hw:∀k,k<q→wM E k→S k):∀k,i≤k→k<q→¬wM E k:=by
 intro k OY hkq hk
 have JJ:=hw k hkq hk
 have aV:i≠k:=fun e=>hS (e▸JJ)
 rcases D.ym (by omega) hk hi aV with⟨_,h1⟩|⟨h1,_⟩
 ·exact hS (dj.closed k i JJ h1)
 ·omega
theorem Dr.seen(D:Dr P Eqs Sg F rid n ops b T H E)(dj:Dj rid ops b T H E S Tc h){i:Nat}(hi:Nf ops i)(hS:¬S i)(hb:∀j,qt b i j→S j){hh:Heap}(OX:∀id,Heap.get hh id=if oY rid (b.getD i 0) id then H i id else none) :
  ∀id o,hh.get id=some o→h id=some o:=by
 obtain⟨q,hq,hw,gS,ep⟩:=dj.heap
 have ng:i<ops.size:=by obtain⟨o,ho,XH,hf2⟩:=hi;exact(Array.getElem?_eq_some_iff.1 ho).1
 have Ui:i≤q:=by
  rcases Nat.lt_or_ge q i with h1|h1
  ·obtain⟨h2,h3⟩:=gS (by omega)
   rcases D.ym (by omega) h2 hi (by omega) with⟨h4,_⟩|⟨_,h4⟩
   ·omega
   ·exact absurd (hb q h4) h3
  ·exact h1
 intro id o bD
 rw[OX]at bD
 split at bD
 ·rename_i ll
  have ln:lp rid S id:=mF hb ll
  rw[(ep id).1 ln,D.wO q Ui hq (D.calm dj hi hS hq hw) id fun k hk _ _ ho=>?_,bD]
  have LP:=(ho.parts (by have:=D.size;omega)).1
  obtain⟨j,h1,h2,_⟩:=D.names i (by omega) id (by rw[bD];simp) LP
  have:=tj h1 ho
  omega
 ·cases bD
theorem Dr.JK(D:Dr P Eqs Sg F rid n ops b T H E)(dj:Dj rid ops b T H E S Tc h){i:Nat}{o:Oper}{x:Operand}(ho:ops[i]? = some o)(hl:ig o.op=some x)(hS:¬S i)(hb:∀j,qt b i j→S j){s:List (Nat×AV)}(hs:look s=T i)
  {hh:Heap} (OX:∀id,Heap.get hh id=if oY rid (b.getD i 0) id then H i id else none):∀id∈sM (ρ s x),∀ob,hh.get id=some ob→h id=some ob:=by
 obtain⟨q,hq,hw,gS,ep⟩:=dj.heap
 have ng:=(Array.getElem?_eq_some_iff.1 ho).1
 have LO:=D.size
 intro id bD ob iU
 rw[OX]at iU
 split at iU
 ·rename_i ll
  have ln:lp rid S id:=mF hb ll
  rw[(ep id).1 ln,←iU]
  rcases Nat.lt_or_ge q i with hqi|Ui
  ·obtain⟨h2,h3⟩:=gS (by omega)
   have later:∀k,q<k→k<ops.size→Nf ops k→qt b k q:=fun k h4 h5 h6=>by
    rcases D.ym (by omega) h2 h6 (by omega) with⟨h7,_⟩|⟨_,h7⟩
    ·omega
    ·exact h7
   have Uj:∀k,q≤k→k<i→Nf ops k→¬S k:=fun k h4 h5 h6 hk=>by
    rcases Nat.eq_or_lt_of_le h4 with e|h7
    ·exact h3 (e▸hk)
    ·exact h3 (dj.closed k q hk (later k h7 (by omega) h6))
   symm
   refine D.yn i (by omega) (by omega) id (fun k h4 h5 h6=>?_) (fun k h4 h5 h6 h7=>?_)
   ·have YN:=Uj k h4 h5 (D.LN (by omega) h6)
    exact D.steady ho hl (by omega) h6 (by omega) (fun GB=>YN (hb k GB)) (fun GB=>by have:=yk D.KS k i (by omega) GB;omega) hs bD
   ·have YN:=Uj k h4 h5 (D.uI (by omega) h6)
    have h8:=h7.parts (show k<128 by omega)
    have h9:=ln h8.1
    rw[h8.2]at h9
    exact YN h9
  ·refine D.yn q Ui hq id (fun k h4 h5 h6=>?_) (fun k h4 h5 h6 h7=>?_)
   ·have JJ:=hw k h5 h6
    have aV:i≠k:=fun e=>hS (e▸JJ)
    exact D.steady ho hl (by omega) h6 aV (fun GB=>by have:=yk D.KS i k ng GB;omega) (fun GB=>hS (dj.closed k i JJ GB)) hs bD
   ·obtain⟨j,h8,h9,_⟩:=D.names i (by omega) id (by rw[iU];simp) (h7.parts (by omega)).1
    have:=tj h8 h7
    omega
 ·cases iU
theorem LV(E:Nat→Option bj)(S:Nat→Prop)(m:Nat):∃q,q≤m∧(∀k,k<q→wM E k→S k)∧(q<m→wM E q∧¬S q):=by
 classical
 induction m with
 |zero=>exact⟨0,Nat.le_refl _,fun k hk=>by omega,fun h=>by omega⟩
 |succ m ih =>
  obtain⟨q,h1,h2,h3⟩:=ih
  by_cases hq:q<m
  ·exact⟨q,by omega,h2,fun _=>h3 hq⟩
  ·have:q=m:=by omega
   subst this
   by_cases hm:wM E q∧¬S q
   ·exact⟨q,by omega,h2,fun _=>hm⟩
   ·refine⟨q+1,by omega,fun k hk hw=>?_,fun h=>by omega⟩
    rcases Nat.lt_or_ge k q with h4|h4
    ·exact h2 k h4 hw
    ·have:k=q:=by omega
     subst this
     exact Classical.not_not.1 fun hn=>hm ⟨hw,hn⟩
theorem yp{i id:Nat}(hi:i<128):lp rid (fun k=>S k∨k=i) id↔lp rid S id∨Of rid i id:=by
 constructor
 ·intro h1
  by_cases hr:id / 32768=rid+1
  ·rcases h1 hr with h2|h2
   ·exact .inl fun _=>h2
   ·exact .inr (Of.of hr h2)
  ·exact .inl fun h=>absurd h hr
 ·rintro(h1|h1) h2
  ·exact .inl (h1 h2)
  ·exact .inr (h1.parts hi).2
theorem Dr.DW(D:Dr P Eqs Sg F rid n ops b T H E)(dj:Dj rid ops b T H E S Tc h){i:Nat}(ng:i<ops.size)(hS:¬S i)(Yn:¬Tf E i)(Uk:¬wM E i) :
  ∃q,q≤ops.size∧(∀k,k<q→wM E k→S k∨k=i)∧(q<ops.size→wM E q∧¬(S q∨q=i))∧∀id,(lp rid (fun k=>S k∨k=i) id→h id=H q id)∧(¬lp rid (fun k=>S k∨k=i) id→h id=none):=by
 obtain⟨q,hq,hw,gS,ep⟩:=dj.heap
 have LO:=D.size
 refine⟨q,hq,fun k h1 h2=>.inl (hw k h1 h2),fun h1=>⟨(gS h1).1,fun h2=>h2.elim (gS h1).2 fun e=>Uk (e▸(gS h1).1)⟩,fun id=>⟨fun h1=>?_,fun h1=>(ep id).2 fun h2=>h1 ((yp (by omega)).2 (.inl h2))⟩⟩
 rcases (yp (S:=S) (i:=i) (rid:=rid) (by omega)).1 h1 with h2|h2
 ·exact(ep id).1 h2
 ·have hn:¬lp rid S id:=fun h3=>h3.yg (by omega) hS h2
  rw[(ep id).2 hn]
  symm
  apply Classical.not_not.1
  intro aV
  obtain⟨j,h3,_,_,h4⟩:=D.names q hq id aV (h2.parts (by omega)).1
  have:=tj h3 h2
  subst this
  rcases h4 with h4|⟨w',h5,h6,h7|h7⟩
  ·exact Yn h4
  ·exact Uk (h7▸h6)
  ·exact hS (dj.closed w' _ (hw w' h5 h6) h7)
theorem OZ{os:Heap}{i:Nat}(eg:(os.all fun p=>p.1 / 256==(rid+1)*128+i)=true):∀id o,os.get id=some o→Of rid i id:=by
 induction os with
 |nil=>intro id o h;simp[Heap.get]at h
 |cons a r ih =>
  intro id o hg
  simp only[List.all_cons,Bool.and_eq_true,beq_iff_eq]at eg
  simp only[Heap.get]at hg
  split at hg
  ·rename_i e;rw[←e];exact eg.1
  ·exact ih eg.2 id o hg
theorem Dr.LW(D:Dr P Eqs Sg F rid n ops b T H E)(dj:Dj rid ops b T H E S Tc h){i:Nat}{o:Oper}(ho:ops[i]? = some o)(hS:¬S i)(hb:∀j,qt b i j→S j){v:AV}{os:Heap}(hE:E i=some (.new v os)) :
  ∃q,q≤ops.size∧(∀k,k<q→wM E k→S k∨k=i)∧(q<ops.size→wM E q∧¬(S q∨q=i))∧∀id,(lp rid (fun k=>S k∨k=i) id→(bj.new v os).hp h id=H q id)∧(¬lp rid (fun k=>S k∨k=i) id→(bj.new v os).hp h id=none):=by
 obtain⟨q,hq,hw,gS,ep⟩:=dj.heap
 have LO:=D.size
 have ng:=(Array.getElem?_eq_some_iff.1 ho).1
 have Uk:¬wM E i:=fun⟨v',h',h1⟩=>by rw[hE]at h1;cases h1
 have Th:=D.uI ng ⟨v,os,hE⟩
 obtain⟨s,hh,_,_,_,h4,_,_,h7⟩:=D.OV ho hE
 simp only[fL,Bool.and_eq_true]at h4
 have rQ:=OZ (rid:=rid) h4.1.2
 have Ui:i<q:=by
  rcases Nat.lt_or_ge i q with h1|h1
  ·exact h1
  ·obtain⟨h2,h3⟩:=gS (by omega)
   have aV:i≠q:=fun e=>Uk (e▸h2)
   rcases D.ym (by omega) h2 Th aV with⟨h4,_⟩|⟨_,h4⟩
   ·omega
   ·exact absurd (hb q h4) h3
 refine⟨q,hq,fun k h1 h2=>.inl (hw k h1 h2),fun h1=>⟨(gS h1).1,fun h2=>h2.elim (gS h1).2 fun e=>Uk (e▸(gS h1).1)⟩,fun id=>⟨fun h1=>?_,fun h1=>?_⟩⟩
 ·simp only[bj.hp]
  by_cases h2:Of rid i id
  ·have hn:¬lp rid S id:=fun h3=>h3.yg (by omega) hS h2
   have e1:H i id=none:=Classical.not_not.1 fun aV=>by
    obtain⟨j,h3,h4,_⟩:=D.names i (by omega) id aV (h2.parts (by omega)).1
    have:=tj h3 h2
    omega
   have e2:H (i+1) id=Heap.get os id:=by
    rw[h7];simp only[bj.hp];rw[e1];cases Heap.get os id<;>rfl
   have e3:H q id=H (i+1) id:=D.wO q Ui hq (fun k h3 h4=>D.calm dj Th hS hq hw k (by omega) h4) id fun k h3 _ _ h5=>by
    have:=tj h5 h2;omega
   rw[e3,e2,(ep id).2 hn];cases Heap.get os id<;>rfl
  ·have h3:lp rid S id:=((yp (by omega)).1 h1).resolve_right h2
   cases KO:Heap.get os id with
   |some o'=>exact absurd (rQ id o' KO) h2
   |none=>exact(ep id).1 h3
 ·have h2:¬lp rid S id:=fun h2=>h1 ((yp (by omega)).2 (.inl h2))
  have h3:¬Of rid i id:=fun h2=>h1 ((yp (by omega)).2 (.inr h2))
  simp only[bj.hp]
  cases KO:Heap.get os id with
  |some o'=>exact absurd (rQ id o' KO) h3
  |none=>exact(ep id).2 h2
theorem Dr.O0(D:Dr P Eqs Sg F rid n ops b T H E)(dj:Dj rid ops b T H E S Tc h){i:Nat}{o:Oper}(ho:ops[i]? = some o)(hS:¬S i)(hb:∀j,qt b i j→S j){v:AV}{h':Heap}(hE:E i=some (.wr v h')) :
  (∀hh:Heap,(∀id,hh.get id=if oY rid (b.getD i 0) id then H i id else none)→hh.get=h) ∧
  ∃q,q≤ops.size∧(∀k,k<q→wM E k→S k∨k=i)∧(q<ops.size→wM E q∧¬(S q∨q=i))∧∀id,(lp rid (fun k=>S k∨k=i) id→h'.get id=H q id)∧(¬lp rid (fun k=>S k∨k=i) id→h'.get id=none):=by
 obtain⟨q,hq,hw,gS,ep⟩:=dj.heap
 have LO:=D.size
 have ng:=(Array.getElem?_eq_some_iff.1 ho).1
 have OW:wM E i:=⟨v,h',hE⟩
 have Th:=D.LN ng OW
 obtain⟨s,hh0,_,_,_,h4,_,_,h7⟩:=D.OV ho hE
 simp only[fL,Bool.and_eq_true]at h4
 have hqi:q=i:=by
  rcases Nat.lt_trichotomy q i with h1|h1|h1
  ·obtain⟨h2,h3⟩:=gS (by omega)
   rcases D.ym ng OW (D.LN (by omega) h2) (by omega) with⟨_,h5⟩|⟨h5,_⟩
   ·exact absurd (hb q h5) h3
   ·omega
  ·exact h1
  ·exact absurd (hw i h1 OW) hS
 subst hqi
 have own:∀id,H q id≠none→lp rid (qt b q) id:=fun id aV LP=>by
  obtain⟨j,h1,h2,YL,h3⟩:=D.names q hq id aV LP
  rw[(h1.parts YL).2]
  rcases h3 with h3|⟨w',h5,h6,h8⟩
  ·rcases D.ym ng OW (D.uI (by omega) h3) (by omega) with⟨_,h9⟩|⟨h9,_⟩
   ·exact h9
   ·omega
  ·have Ug:qt b q w':=by
    rcases D.ym ng OW (D.LN (by omega) h6) (by omega) with⟨_,h9⟩|⟨h9,_⟩
    ·exact h9
    ·omega
   rcases h8 with rfl|h8
   ·exact Ug
   ·exact Bc D.KS q w' j ng Ug h8
 refine⟨fun hh OX=>?_,?_⟩
 ·funext id
  rw[OX id]
  cases bD:H q id with
  |none =>
   have:h id=none:=by
    by_cases h1:lp rid S id
    ·rw[(ep id).1 h1,bD]
    ·exact(ep id).2 h1
   rw[this];split<;>rfl
  |some ob =>
   have h1:=own id (by rw[bD];simp)
   have h2:lp rid S id:=fun hr=>hb _ (h1 hr)
   have h3:oY rid (b.getD q 0) id=true:=by
    unfold oY
    by_cases hr:id / 32768=rid+1
    ·have:=h1 hr
     unfold qt at this
     rw[this];simp
    ·simp[hr]
   rw[h3,(ep id).1 h2,bD];rfl
 ·obtain⟨q',h1,h2,h3⟩:=LV E (fun k=>S k∨k=q) ops.size
  have Qn:q+1≤q':=by
   rcases Nat.lt_or_ge q q' with h5|h5
   ·exact h5
   ·obtain⟨h6,h8⟩:=h3 (by omega)
    rcases Nat.lt_or_ge q' q with h9|h9
    ·exact absurd (.inl (hw q' h9 h6)) h8
    ·exact absurd (.inr (by omega)) h8
  have e1:H (q+1)=h'.get:=by rw[h7];rfl
  have Ao:∀j,(b.getD q 0 ||| 2 ^ q).testBit j=true→S j∨j=q:=fun j hj=>by
   rw[Nat.testBit_or,Bool.or_eq_true,Nat.testBit_two_pow]at hj
   exact hj.imp (hb j) (fun h=>(of_decide_eq_true h).symm)
  refine⟨q',h1,h2,h3,fun id=>⟨fun h5=>?_,fun h5=>?_⟩⟩
  ·rw[D.wO q' Qn h1 (fun k h6 h8 h9=>?_) id (fun k h6 h8 h9 l8=>?_),e1]
   ·have hk:=h2 k h8 h9
    have JJ:S k:=hk.resolve_right (by omega)
    rcases D.ym (by omega) h9 Th (by omega) with⟨_,we⟩|⟨we,_⟩
    ·exact hS (dj.closed k q JJ we)
    ·omega
   ·have hk:=h5 (l8.parts (by omega)).1
    rw[(l8.parts (by omega)).2]at hk
    have JJ:S k:=hk.resolve_right (by omega)
    rcases D.ym ng OW (D.uI (by omega) h9) (by omega) with⟨we,_⟩|⟨_,we⟩
    ·omega
    ·exact hS (dj.closed k q JJ we)
  ·cases bD:h'.get id with
   |none=>rfl
   |some ob=>exact absurd ((kO Ao h4.2 id ob bD).1) h5
end
section
variable {S:Nat→Prop} {Tc:Nat→AV}
theorem Ay{o:Oper}{d:Nat}(h:Operand.tmp d∈o.op.operands):d∈o.looksAt ops :=
 List.mem_append_left _ (List.mem_filterMap.2 ⟨.tmp d,by simpa using h,rfl⟩)
theorem DX{o:Oper}{j d:Nat}{want:Bool}(hg:o.guard=some (j,want))(hd:(ops[j]?).bind (·.dst)=some d):d∈o.looksAt ops:=by
 unfold Oper.looksAt
 rw[hg]
 exact List.mem_append_right _ (by simp only[hd];simp)
theorem Dr.wanted(D:Dr P Eqs Sg F rid n ops b T H E)(dj:Dj rid ops b T H E S Tc h){a:Act}{i:Nat}{o:Oper}(ho:ops[i]? = some o)(hS:¬S i)(hb:∀j,qt b i j→S j)(t:cx Z ψ h w n Tc a){c:Bool}(hw:oz ops (T i) o c) :
  Region.wanted o (yielded ops a.tmps)=c:=by
 unfold oz at hw
 split at hw
 ·rename_i hg;rw[hw];simp[Region.wanted,hg]
 ·rename_i j want hg
  obtain⟨d,hd,hc⟩:=hw
  have e:=D.looks dj ho hS hb (DX hg hd)
  rcases hc with⟨u,h1,h2⟩|⟨vs,h1,h2⟩
  ·rw[yh t hg hd (e.trans h1),h2]
  ·rw[vO t hg hd (e.trans h1),h2]
theorem Dr.GC(D:Dr P Eqs Sg F rid n ops b T H E)(V:Env P Eqs Sg F){i:Nat}{o:Oper}{a:Act}(ho:ops[i]? = some o)(hS:¬S i)(hb:∀j,qt b i j→S j)(dj:Dj rid ops b T H E S Tc h)(j:J (lp rid S) n Z0 w0 O ψ0 Z ψ Tc h a w)
  {K:Act→World→Prop} {Q:Exit→Act→World→Prop} (hk:∀XI h' a' w' Z' ψ',Dj rid ops b T H E (fun k=>S k∨k=i) XI h'→J (lp rid fun k=>S k∨k=i) n Z0 w0 O ψ0 Z' ψ' XI h' a' w'→K a' w'):wpOp P ops Q i K a w:=by
 have ng:=(Array.getElem?_eq_some_iff.1 ho).1
 have LO:=D.size
 have N9:=D.YI i o ho
 have aE:∀k,(S k∨k=i)→k<ops.size:=fun k hk=>hk.elim (dj.lt k) (fun e=>e▸ng)
 have F5:∀k j,(S k∨k=i)→qt b k j→S j∨j=i:=fun k j hk hj=>.inl (hk.elim (fun h=>dj.closed k j h hj) (fun e=>hb j (e▸hj)))
 unfold wpOp
 rw[ho]
 simp only[]
 cases hE:E i with
 |none =>
  obtain⟨h1,h2,h3⟩:=D.Cu ho hE
  rw[D.wanted dj ho hS hb j.tr h1]
  simp only[Bool.false_eq_true,if_false]
  obtain⟨t1,t2⟩:=D.LU dj ho hS h2
  refine hk _ h _ w Z ψ ⟨aE,F5,D.DW dj ng hS (fun⟨v,os,h⟩=>by rw[hE]at h;cases h) (fun⟨v,os,h⟩=>by rw[hE]at h;cases h),t1,t2⟩ (j.skip N9 fun id hp hr=>.inl (hp hr))
 |some e =>
  obtain⟨s,hh,h1,h2,h3,h4,h5,h6,h7⟩:=D.OV ho hE
  rw[D.wanted dj ho hS hb j.tr h5]
  simp only[if_true]
  refine .inl ?_
  obtain⟨t1,t2⟩:=D.LU dj ho hS h6
  have hT:∀x∈o.op.operands,ao Z ψ h w (ρ s x) (a.eval x)∧aC (lp rid S) (ρ s x):=fun x hx=>by
   cases x with
   |tmp d =>
    have e1:look s d=Tc d:=by rw[h1];exact(D.looks dj ho hS hb (Ay hx)).symm
    simp only[ρ,e1]
    exact⟨j.tr.rep d,j.tm d⟩
   |const v=>exact⟨Dt v,yf _ v⟩
   |global g=>exact⟨by simp only[ρ,ao],by simp only[ρ,aC]⟩
   |func f=>exact⟨by simp only[ρ,ao,ah,Act.eval];exact⟨#[],rfl,rfl⟩,by simp only[ρ,aC,aw]⟩
  have mH:=yj (hh:=[]) j.hm (fun k hk=>hb k hk) h4
  obtain⟨e0,h3,Ct,sG⟩:=h3
  cases e0 with
  |wr v0 La =>
   simp only[fM]at Ct
   subst Ct
   have lB:=D.O0 dj ho hS hb hE
   have OX:=lB.1 hh h2
   subst OX
   refine J.opF V (rid:=rid) (i:=i) (fun _ id hp=>hp.yg (by omega) hS) j N9 (fun x hx=>(hT x hx).1) (fun x hx=>(hT x hx).2) h3 sG (p':=lp rid fun k=>S k∨k=i) (fun id hp hr=>.inl (hp hr)) mH.1 mH.2 fun a' w' Z' ψ' j' => ?_
   exact hk _ _ a' w' Z' ψ' ⟨aE,F5,lB.2,t1,t2⟩ j'
  |val v0 =>
   simp only[fM]at Ct
   subst Ct
   have YO:∃RB:Heap,(∀id o,RB.get id=some o→h id=some o)∧cv P Eqs Sg F (opId rid i) RB s o some=some (.val v0):=by
    cases hf:lY o.op with
    |true=>exact⟨[],fun id o h=>by simp[Heap.get]at h,by rw[JE hf (h':=fS hh (fT ops b i s o))];exact h3⟩
    |false =>
     cases N4:ig o.op with
     |some x =>
      have Uh:fT ops b i s o=[]:=by unfold fT;rw[(Be N4).2];rfl
      rw[Uh]at h3
      have h3':cv P Eqs Sg F (opId rid i) hh s o some=some (.val v0):=h3
      have l9:∀id,(dQ (sM (ρ s x)) hh []).get id=if id∈sM (ρ s x) then hh.get id else none:=fun id=>by
       rw[jF]
       split
       ·cases hh.get id<;>rfl
       ·rfl
      refine⟨dQ (sM (ρ s x)) hh [],fun id ob bD=>?_,?_⟩
      ·rw[l9]at bD
       split at bD
       ·rename_i hm;exact D.JK dj ho N4 hS hb h1 h2 id hm ob bD
       ·cases bD
      ·rw[GA N4 (hh:=hh) (fun id hm=>by rw[l9,if_pos hm])];exact h3'
     |none=>exact⟨_,fun id ob bD=>D.seen dj ⟨o,ho,hf,N4⟩ hS hb h2 id ob (by rw[mE]at bD;split at bD;cases bD;exact bD),h3⟩
   obtain⟨RB,Dd,H3⟩:=YO
   refine J.op V (rid:=rid) (i:=i) (fun _ id hp=>hp.yg (by omega) hS) j N9 (fun x hx=>(hT x hx).1) (fun x hx=>(hT x hx).2) Dd H3 (fun v hw he=>by cases he) (p':=lp rid fun k=>S k∨k=i) (fun id hp hr=>.inl (hp hr)) mH.1 mH.2 fun a' w' Z' ψ' j' => ?_
   exact hk _ _ a' w' Z' ψ' ⟨aE,F5,D.DW dj ng hS (fun⟨v,os,h⟩=>by rw[hE]at h;cases h) (fun⟨v,os,h⟩=>by rw[hE]at h;cases h),t1,t2⟩ j'
  |new v0 os =>
   simp only[fM]at Ct
   subst Ct
   have Th:=D.uI ng ⟨v0,os,hE⟩
   have Dd:∀id ob,(fS hh (fT ops b i s o)).get id=some ob→h id=some ob:=fun id ob bD=>D.seen dj Th hS hb h2 id ob (by rw[mE]at bD;split at bD;cases bD;exact bD)
   refine J.op V (rid:=rid) (i:=i) (fun _ id hp=>hp.yg (by omega) hS) j N9 (fun x hx=>(hT x hx).1) (fun x hx=>(hT x hx).2) Dd h3 (fun v hw he=>by cases he) (p':=lp rid fun k=>S k∨k=i) (fun id hp hr=>.inl (hp hr)) mH.1 mH.2 fun a' w' Z' ψ' j' => ?_
   exact hk _ _ a' w' Z' ψ' ⟨aE,F5,D.LW dj ho hS hb hE,t1,t2⟩ j'
theorem Dr.done(D:Dr P Eqs Sg F rid n ops b T H E)(dj:Dj rid ops b T H E S Tc h)(eg:∀k,k<ops.size→S k):Tc=T ops.size∧h=H ops.size:=by
 constructor
 ·funext d
  by_cases hex:∃(j:Nat) (oj:Oper),ops[j]? = some oj∧oj.dst=some d
  ·obtain⟨j,oj,hj,hd⟩:=hex
   have FH:=(Array.getElem?_eq_some_iff.1 hj).1
   rw[dj.LQ j oj d (eg j FH) hj hd,D.Cv hj hd ops.size (Nat.le_refl _) FH]
  ·rw[dj.told d fun j o' _ ma LS=>hex ⟨j,o',ma,LS⟩,D.ti ops.size (Nat.le_refl _) fun k o' _ ma LS=>hex ⟨k,o',ma,LS⟩]
 ·obtain⟨q,hq,_,gS,ep⟩:=dj.heap
  have:q=ops.size:=by
   rcases Nat.lt_or_ge q ops.size with h1|h1
   ·exact absurd (eg q h1) (gS h1).2
   ·omega
  subst this
  funext id
  by_cases ln:lp rid S id
  ·exact(ep id).1 ln
  ·rw[(ep id).2 ln]
   symm
   apply Classical.not_not.1
   intro aV
   apply ln
   intro hr
   obtain⟨j,h1,h2,h3,_⟩:=D.names ops.size (Nat.le_refl _) id aV hr
   rw[(h1.parts h3).2]
   exact eg j h2
def kP(m:Nat)(bZ:Array Bool):Nat:=((List.range m).filter fun i => !bZ.getD i false).length
theorem Cw{m:Nat}{bZ:Array Bool}{i:Nat}(hi:i<m)(hs:i<bZ.size)(hn:bZ.getD i false=false):kP m bZ=kP m (bZ.setIfInBounds i true)+1:=by
 unfold kP
 have key:∀(l:List Nat),l.Nodup→i∈l→(l.filter fun k => !bZ.getD k false).length=(l.filter fun k => !(bZ.setIfInBounds i true).getD k false).length+1:=by
  intro l
  induction l with
  |nil=>intro _ h;cases h
  |cons a r ih =>
   intro Db hm
   rw[List.nodup_cons]at Db
   rcases List.mem_cons.1 hm with rfl|hm
   ·have h2:(r.filter fun k => !bZ.getD k false)=(r.filter fun k => !(bZ.setIfInBounds i true).getD k false):=by
     apply List.filter_congr
     intro k hk
     have aV:i≠k:=fun e=>Db.1 (e▸hk)
     rw[getD_set_ne false aV]
    rw[List.filter_cons,List.filter_cons,hn]
    have h3:(bZ.setIfInBounds i true).getD i false=true:=by simp[hs]
    rw[h3,h2];simp
   ·have aV:i≠a:=fun e=>Db.1 (e▸hm)
    rw[List.filter_cons,List.filter_cons,getD_set_ne false aV]
    split
    ·simp only[List.length_cons];rw[ih Db.2 hm]
    ·exact ih Db.2 hm
 exact key _ List.nodup_range (List.mem_range.2 hi)
theorem Dr.any(D:Dr P Eqs Sg F rid n ops b T H E)(V:Env P Eqs Sg F){Q:Exit→Act→World→Prop}(hQ:∀Z ψ a w,J (lp rid fun k=>k<ops.size) n Z0 w0 O ψ0 Z ψ (T ops.size) (H ops.size) a w→Q .normal a w) :
  ∀(fuel:Nat) (bZ:Array Bool) (Tc:Nat→AV) (h:Hp) (a:Act) (w:World) (Z:Nat→Prop) (ψ:Nat→Value),bZ.size=ops.size→kP ops.size bZ=fuel →
   Dj rid ops b T H E (fun k=>bZ.getD k false=true) Tc h→J (lp rid fun k=>bZ.getD k false=true) n Z0 w0 O ψ0 Z ψ Tc h a w→wpAny P .any ops Q fuel bZ a w
 |0,bZ,Tc,h,a,w,Z,ψ,hs,hu,dj,j=>by
  have eg:∀k,k<ops.size→bZ.getD k false=true:=fun k hk=>by
   unfold kP at hu
   have:=List.filter_eq_nil_iff.1 (List.eq_nil_of_length_eq_zero hu) k (List.mem_range.2 hk)
   simpa using this
  refine⟨?_,?_⟩
  ·apply List.eq_nil_iff_forall_not_mem.2
   intro i hi
   obtain⟨h1,o,h2,_⟩:=mem_ready.1 hi
   have h3:=(Array.getElem?_eq_some_iff.1 h2).1
   have h4:=eg i h3
   rw[Array.getD_eq_getD_getElem?,Array.getElem?_eq_getElem (by omega)]at h1 h4
   simp at h1 h4
   rw[h1]at h4;cases h4
  ·obtain⟨e1,e2⟩:=D.done dj eg
   subst e1;subst e2
   refine hQ Z ψ a w ⟨j.ok,j.tr,fun d=>(j.tm d).imp fun id h1 h2=>dj.lt _ (h1 h2),fun id ty cs hb=>(j.hm id ty cs hb).imp fun id h1 h2=>dj.lt _ (h1 h2)⟩
 |fuel+1,bZ,Tc,h,a,w,Z,ψ,hs,hu,dj,j=>by
  have look:∀i,i<ops.size→bZ.getD i true=bZ.getD i false:=fun i hi=>by
   rw[Array.getD_eq_getD_getElem?,Array.getD_eq_getD_getElem?,Array.getElem?_eq_getElem (by omega)];rfl
  refine⟨fun hr=>?_,fun i hi=>?_⟩
  ·exfalso
   have hex:∃i,i<ops.size∧bZ.getD i false=false:=by
    apply Classical.byContradiction
    intro hn
    unfold kP at hu
    rw[List.filter_eq_nil_iff.2]at hu
    ·simp at hu
    ·intro k hk
     have:=fun h=>hn ⟨k,List.mem_range.1 hk,h⟩
     cases hl:bZ.getD k false with
     |true=>simp
     |false=>exact absurd hl this
   have key:∀i,i<ops.size→bZ.getD i false=false→False:=by
    intro i
    induction i using Nat.strongRecOn with
    |ind i ih =>
     intro hi hl
     have iu:i∈Region.ready .any ops bZ:=by
      refine mem_ready.2 ⟨by rw[look i hi];exact hl,_,Array.getElem?_eq_getElem hi,fun e he Ju=>?_⟩
      have RF:=Gz D.KS (Array.getElem?_eq_getElem hi) (by simpa using he) Ju
      cases hle:bZ.getD e.on false with
      |true=>rfl
      |false=>exact(ih e.on RF (by omega) hle).elim
     rw[hr]at iu;cases iu
   obtain⟨i,h1,h2⟩:=hex
   exact key i h1 h2
  ·obtain⟨h1,o,ho,eg⟩:=mem_ready.1 hi
   have ng:=(Array.getElem?_eq_some_iff.1 ho).1
   have hn:bZ.getD i false=false:=by rw[←look i ng];exact h1
   have hS:¬(bZ.getD i false=true):=by rw[hn];simp
   have hb:∀k,qt b i k→bZ.getD k false=true:=fun k hk=>by
    obtain⟨e,he,Ju,h2⟩:=(wL D.KS ho).1 hk
    have h3:=eg e (by simpa using he) Ju
    rcases h2 with rfl|h2
    ·exact h3
    ·exact dj.closed e.on k h3 h2
   refine D.GC V ho hS hb dj j fun XI h' a' w' Z' ψ' dj' j' => ?_
   have heq:(fun k=>bZ.getD k false=true∨k=i)=(fun k=>(bZ.setIfInBounds i true).getD k false=true):=by
    funext k
    apply propext
    by_cases e:i=k
    ·subst e
     simp[show i<bZ.size by omega]
    ·rw[getD_set_ne false e]
     constructor
     ·rintro(h|h)
      ·exact h
      ·exact absurd h.symm e
     ·exact .inl
   rw[heq]at dj' j'
   exact D.any V hQ fuel _ XI h' a' w' Z' ψ' (by simpa using hs) (by have:=Cw ng (by omega) hn;omega) dj' j'
end
end Go.Vs
namespace Go.Vs
variable {P:Program} {Eqs:TypeId→Option K} {Sg:FuncId→Option aL} {F:(f:FuncId)→(g:aL)→g.A→Option g.B} {R:Type}
variable {Z Z' Z0:Nat→Prop} {ψ ψ' ψ0:Nat→Value} {h h':Hp} {w w' w0:World} {B0:Nat} {O N:Nat→Prop}
theorem yq(f:AV→AV)(hf:f .no=.no):∀(l:List (Nat×AV)) (d:Nat),look (l.map fun p=>(p.1,f p.2)) d=f (look l d)
 |[],d=>by simp[look,hf]
 |(i,v)::r,d=>by
  simp only[List.map_cons,look]
  split
  ·rfl
  ·exact yq f hf r d
section
variable {rid:Nat}
mutual
theorem uK:∀{a:AV} {v:Value},ao Z ψ h w a v→ao Z ψ h w (bf rid a) v
 |.ref id s i off,v,hr=>by
  simp only[bf]
  split
  ·simp only[ao]
  ·exact hr
 |.bp id,v,hr=>by
  simp only[bf]
  split
  ·simp only[ao]
  ·exact hr
 |.fn f cap,v,hr=>by
  simp only[bf,ao]at hr ⊢
  obtain⟨vs,e,hl⟩:=hr
  exact⟨vs,e,kQ hl⟩
 |.agg cs,v,hr=>by
  simp only[bf,ao]at hr ⊢
  obtain⟨vs,e,hl⟩:=hr
  exact⟨vs,e,kQ hl⟩
 |.ml cs,v,hr=>by
  simp only[bf,ao]at hr ⊢
  obtain⟨vs,e,hl⟩:=hr
  exact⟨vs,e,kQ hl⟩
 |.no,v,hr=>by simpa only[bf] using hr
 |.bool _,v,hr=>by simpa only[bf] using hr
 |.int _ _,v,hr=>by simpa only[bf] using hr
 |.str _,v,hr=>by simpa only[bf] using hr
 |.kx,v,hr=>by simpa only[bf] using hr
 |.eY,v,hr=>by simpa only[bf] using hr
 |.fp _ _ _,v,hr=>by simpa only[bf] using hr
 |.sl _ _ _,v,hr=>by simpa only[bf] using hr
 |.mp _ _ _,v,hr=>by simpa only[bf] using hr
theorem kQ:∀{a:List AV} {v:List Value},ah Z ψ h w a v→ah Z ψ h w (kB rid a) v
 |[],v,hr=>by simpa only[kB] using hr
 |x::r,v,hr=>by
  simp only[kB,ah]at hr ⊢
  obtain⟨u,us,e,h1,h2⟩:=hr
  exact⟨u,us,e,uK h1,kQ h2⟩
end
mutual
theorem nO:∀(a:AV),aC (lp rid fun _=>False) (bf rid a)
 |.ref id s i off=>by
  simp only[bf]
  split
  ·simp only[aC]
  ·rename_i hn;simp only[aC];exact fun h=>absurd h hn
 |.bp id=>by
  simp only[bf]
  split
  ·simp only[aC]
  ·rename_i hn;simp only[aC];exact fun h=>absurd h hn
 |.fn f cap=>by simp only[bf,aC];exact gT cap
 |.agg cs=>by simp only[bf,aC];exact gT cs
 |.ml cs=>by simp only[bf,aC];exact gT cs
 |.no=>by simp only[bf,aC]
 |.bool _=>by simp only[bf,aC]
 |.int _ _=>by simp only[bf,aC]
 |.str _=>by simp only[bf,aC]
 |.kx=>by simp only[bf,aC]
 |.eY=>by simp only[bf,aC]
 |.fp _ _ _=>by simp only[bf,aC]
 |.sl _ _ _=>by simp only[bf,aC]
 |.mp _ _ _=>by simp only[bf,aC]
theorem gT:∀(a:List AV),aw (lp rid fun _=>False) (kB rid a)
 |[]=>by simp only[kB,aw]
 |x::r=>by simp only[kB,aw];exact⟨nO x,gT r⟩
end
theorem get_map(f:Ob→Ob):∀(hh:Heap) (i:Nat),Heap.get (hh.map fun p=>(p.1,f p.2)) i=(hh.get i).map f
 |[],i=>rfl
 |(j,o)::r,i=>by
  simp only[List.map_cons,Heap.get]
  split
  ·rfl
  ·exact get_map f r i
def lL(rid:Nat)(hh:Heap):Heap:=(hh.filter fun p=>p.1 / 32768 != rid+1).map fun p=>(p.1,xt rid p.2)
theorem JM(hh:Heap)(i:Nat):(lL rid hh).get i=if i / 32768=rid+1 then none else(hh.get i).map (xt rid):=by
 unfold lL
 rw[get_map (xt rid),get_filter (fun i=>i / 32768 != rid+1)]
 by_cases e:i / 32768=rid+1<;>simp[e]
theorem gG{hh:Heap}{i:Nat}{o:Ob}(hg:(lL rid hh).get i=some o):i / 32768≠rid+1∧∃o',hh.get i=some o'∧o=xt rid o':=by
 rw[JM]at hg
 split at hg
 ·cases hg
 ·rename_i hn
  cases h0:hh.get i with
  |none=>rw[h0]at hg;cases hg
  |some o'=>rw[h0]at hg;cases hg;exact⟨hn,o',rfl,rfl⟩
theorem jI{hh:Heap}{i:Nat}(hg:(lL rid hh).get i≠none):hh.get i≠none:=by
 obtain⟨o,ho⟩:=Option.ne_none_iff_exists'.1 hg
 obtain⟨_,o',h1,_⟩:=gG ho
 rw[h1];simp
theorem Good.j5{hh:Heap}(g:Good Z ψ hh.get w B0 O):Good Z ψ (lL rid hh).get w B0 O:=by
 refine⟨fun id ty cs hb=>?_,fun id ok xs hb=>?_,fun id b h1 h2=>g.live id b (jI h1) h2,fun id lr b h1 h2 h3 h4=>g.apart id lr b (jI h1) (jI h2) h3 h4,g.iR⟩
 ·obtain⟨_,o',h1,h2⟩:=gG hb
  cases o' with
  |own ok xs=>cases h2
  |box wb cs' =>
   cases h2
   obtain⟨gg,vs,h3,h4,h5,h6⟩:=g.box id ty cs' h1
   exact⟨gg,vs,h3,h4,kQ (h5.less (fun _ h=>h) (b4.refl _ _) fun i hi=>⟨jI hi,rfl⟩),h6⟩
 ·obtain⟨_,o',h1,h2⟩:=gG hb
  cases o' with
  |own S8 TJ=>cases h2;exact g.row id _ _ h1
  |box wb cs'=>cases h2
theorem Ok.sub{hp:Hp}(k:Ok Z0 w0 O ψ0 Z ψ h w)(g:Good Z ψ hp w w0.heap.size O)(hn:∀id,hp id≠none→h id≠none):Ok Z0 w0 O ψ0 Z ψ hp w :=
 ⟨g,k.eP,k.dF,k.os,k.tape,k.output,k.size,k.block,fun i hi aV=>k.fix i hi (hn i aV)⟩
end
theorem Good.yr(g:Good Z ψ h w B0 O)(e:w'.heap=w.heap):Good Z ψ h w' B0 O:=by
 have sm:b4 Z w w':=fun b _=>by rw[e]
 refine⟨fun id ty cs hb=>?_,fun id ok xs hb=>?_,g.live,g.apart,fun b hb=>by rw[e];exact g.iR b hb⟩
 ·obtain⟨gg,vs,h1,h2,h3,h4⟩:=g.box id ty cs hb
  exact⟨gg,vs,h1,by rw[e];exact h2,h3.less (fun _ h=>h) sm (fun i hi=>⟨hi,rfl⟩),h4⟩
 ·exact(g.row id ok xs hb).kept (fun _ h=>h) sm (fun gg _=>by rw[e])
theorem Ok.yr(k:Ok Z0 w0 O ψ0 Z ψ h w)(e:w'.heap=w.heap)(e1:w'.os=w.os)(e2:w'.tape=w.tape)(e3:w'.output=w.output):Ok Z0 w0 O ψ0 Z ψ h w' :=
 ⟨k.dA.yr e,k.eP,k.dF,e1.trans k.os,e2.trans k.tape,e3.trans k.output,by rw[e];exact k.size,fun b hb ho=>by rw[e];exact k.block b hb ho,k.fix⟩
theorem cx.yr{n:Nat}{T:Nat→AV}{a:Act}(t:cx Z ψ h w n T a)(e:w'.heap=w.heap):cx Z ψ h w' n T a :=
 ⟨fun d=>(t.rep d).less (fun _ h=>h) (fun b _=>by rw[e]) (fun i hi=>⟨hi,rfl⟩),t.size,t.defers⟩
theorem Cx(V:Env P Eqs Sg F)(hm:P.follows .mixedOrders=true){n rid:Nat}{ops:Array Oper}{draw:Bool}{st:St}{kk:St→Option R}{r:R}{a:Act}{Q:Exit→Act→World→Prop}
  (hx:gr P Eqs Sg F n rid ops draw st kk=some r) (k:Ok Z0 w0 O ψ0 Z ψ st.heap.get w) (t:cx Z ψ st.heap.get w n (look st.tmps) a)
  (hQ:∀dE Z ψ a w,kk dE=some r→Ok Z0 w0 O ψ0 Z ψ dE.heap.get w→cx Z ψ dE.heap.get w n (look dE.tmps) a→Q .normal a w):(Code.region rid ops draw).wp P Q a w:=by
 obtain⟨b,Ti,hx⟩:∃b,b=(if draw then Region.before ops else #[])∧(if(ops.all fun o=>gq n o)&&(!draw || (sK ops b&&(xp ops b&&bR (ops.toList.filterMap (·.dst)))))&&decide (ops.size≤128) then
  bc P Eqs Sg F rid draw ops b (ops.toList.zipIdx.map fun p=>(p.2,p.1)) (j5 draw rid ops st) kk else none)=some r:=⟨_,rfl,hx⟩
 split at hx
 ·rename_i hc
  simp only[Bool.and_eq_true,decide_eq_true_eq]at hc
  obtain⟨⟨jZ,YP⟩,gO⟩:=hc
  have Bg:∀(i:Nat) (o:Oper),ops[i]? = some o→gq n o=true:=fun i o ho=>Array.all_eq_true_iff_forall_mem.1 jZ o (Array.mem_of_getElem? ho)
  have pk:Ok Z0 w0 O ψ0 Z ψ (lL rid st.heap).get w:=k.sub k.dA.j5 fun id=>jI
  have pt:cx Z ψ (lL rid st.heap).get w n (fun d=>bf rid (look st.tmps d)) a :=
   ⟨fun d=>uK ((t.rep d).less (fun _ h=>h) (b4.refl _ _) fun i hi=>⟨jI hi,rfl⟩),t.size,t.defers⟩
  have pm:ri (lp rid fun _=>False) (lL rid st.heap).get:=fun i ty cs hb=>by
   obtain⟨_,o',h1,h2⟩:=gG hb
   cases o' with
   |own ok xs=>cases h2
   |box wb cs'=>cases h2;exact gT cs'
  have Bh:look (st.tmps.map fun p=>(p.1,bf rid p.2))=fun d=>bf rid (look st.tmps d):=funext fun d=>yq (bf rid) (by simp only[bf]) st.tmps d
  cases draw with
  |false =>
   refine wp_region ?_
   rw[←A9 ops]
   cases LK:ops.any (makes ·.op) with
   |false =>
    have hp:j5 false rid ops st=st:=by unfold j5;rw[LK];rfl
    rw[hp]at hx
    refine kj V (rid:=rid) (n:=n) (b:=_) false (fun _ i o ho=>?_) gO Bg hQ _ 0 st Z ψ a w (mG ops) hx ⟨k,t,fun d=>?_,fun i ty cs hb=>?_⟩
    ·have:=Array.any_eq_false'.1 LK o (Array.mem_of_getElem? ho)
     simpa using this
    ·exact(aC.top _).imp fun id _ h=>by cases h
    ·exact(aw.top _).imp fun id _ h=>by cases h
   |true =>
    have hp:j5 false rid ops st={ tmps:=st.tmps.map fun p=>(p.1,bf rid p.2),heap:=lL rid st.heap }:=by unfold j5;rw[LK];rfl
    rw[hp]at hx
    refine kj V (rid:=rid) (n:=n) (b:=_) true (fun h=>by cases h) gO Bg hQ _ 0 _ Z ψ a w (mG ops) hx ⟨pk,by rw[Bh];exact pt,fun d=>?_,fun i ty cs hb=>?_⟩
    ·rw[Bh]
     exact(nO _).imp fun id h1 _ h2=>(h1 h2).elim
    ·exact(pm i ty cs hb).imp fun id h1 _ h2=>(h1 h2).elim
  |true =>
   have hp:j5 true rid ops st={ tmps:=st.tmps.map fun p=>(p.1,bf rid p.2),heap:=lL rid st.heap }:=by unfold j5;rw[Bool.true_or];rfl
   rw[hp]at hx
   simp only[Bool.not_true,Bool.false_or,Bool.and_eq_true]at YP
   obtain⟨YQ,Ul,Db⟩:=YP
   refine wp_region_any hm ?_
   obtain⟨T,H,E,h1,h2,h3,dE,h4,h5,h6⟩:=trace (kk:=kk) (r:=r) (ops.toList.zipIdx.map fun p=>(p.2,p.1)) 0 _ (mG ops) (by simp) hx
   rw[Bh]at h1
   have D:Dr P Eqs Sg F rid n ops b T H E:=⟨gO,YQ,Ul,Bg,Db,fun k o ho=>h3 k o (Nat.zero_le _) ho,fun id bD=>by
    rw[h2]at bD
    obtain⟨o,ho⟩:=Option.ne_none_iff_exists'.1 bD
    exact(gG ho).1⟩
   have vH:∀k,¬((Array.replicate ops.size false).getD k false=true):=fun k hk=>by
    rw[Array.getD_eq_getD_getElem?,Array.getElem?_replicate]at hk
    split at hk<;>simp at hk
   rw[show max 0 ops.size=ops.size by omega]at h5 h6
   have w2:({ w with drawn:=w.drawn+1 }:World).heap=w.heap:=rfl
   refine D.any V (Z0:=Z0) (w0:=w0) (O:=O) (ψ0:=ψ0) (fun Z ψ a w j=>hQ dE Z ψ a w h4 (by rw[h6];exact j.ok) (by rw[h5,h6];exact j.tr)) ops.size _ (T 0) (H 0) a _ Z ψ (by simp) ?_ ?_ ?_
   ·unfold kP
    rw[List.filter_eq_self.2,List.length_range]
    intro k _
    have:=vH k
    simpa using this
   ·refine⟨fun i hi=>(vH i hi).elim,fun i j hi=>(vH i hi).elim,?_,fun j o d hj=>(vH j hj).elim,fun d _=>rfl⟩
    obtain⟨q,YR,YS,hq3⟩:=LV E (fun k=>(Array.replicate ops.size false).getD k false=true) ops.size
    refine⟨q,YR,YS,hq3,fun id=>⟨fun ln=>?_,fun ln=>?_⟩⟩
    ·symm
     refine D.wO q (Nat.zero_le _) YR (fun k _ hk hw=>(vH k (YS k hk hw)).elim) id fun k _ hk _ ho=>?_
     have:=ln (ho.parts (by omega)).1
     exact vH _ this
    ·rw[h2]
     apply Classical.not_not.1
     intro aV
     obtain⟨o,ho⟩:=Option.ne_none_iff_exists'.1 aV
     exact ln fun hr=>absurd hr (gG ho).1
   ·rw[h1,h2]
    refine⟨pk.yr w2 rfl rfl rfl,pt.yr w2,fun d=>(nO _).imp fun id h3 h4=>(h3 h4).elim,fun i ty cs hb=>(pm i ty cs hb).imp fun id h3 h4=>(h3 h4).elim⟩
 ·cases hx
end Go.Vs
