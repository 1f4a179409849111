/- The value semantics is sound, at calls and in regions. -/
import Derived.Test.YtpkfpbpbkabkdaaGreatEngineB
import Derived.Maps.RangeRun
import Derived.ChangeMaps
set_option linter.unusedSimpArgs false
set_option linter.unusedVariables false
namespace Go.Vs
variable {P:Program} {Z Z':Nat→Prop} {ψ ψ':Nat→Value} {h h':Hp} {w w':World} {B0:Nat} {O:Nat→Prop} {N:Nat→Prop}
theorem dW:∀(k:K) (x:k.T),(enc k x).length=k.sz
 |.int _,_=>rfl
 |.bool,_=>rfl
 |.str,_=>rfl
 |.sl _,_=>rfl
 |.mp _ _,_=>rfl
 |.pair a b,x=>by simp only[enc,List.length_append,K.sz];rw[dW a,dW b]
 |.one k,x=>by simp only[enc,K.sz];exact dW k x
theorem pq(hh:Heap):∀(k:K) (x:k.T),(enc k x).map (ct hh)=enc k x
 |.int _,_=>rfl
 |.bool,_=>rfl
 |.str,_=>rfl
 |.sl _,_=>rfl
 |.mp _ _,_=>rfl
 |.pair a b,x=>by simp only[enc,List.map_append];rw[pq hh a,pq hh b]
 |.one k,x=>by simp only[enc];exact pq hh k x
theorem kN:∀(k:K) (x:k.T) (id:Nat),AV.bp id∉enc k x
 |.int _,_,_=>by simp[enc]
 |.bool,_,_=>by simp[enc]
 |.str,_,_=>by simp[enc]
 |.sl _,_,_=>by simp[enc]
 |.mp _ _,_,_=>by simp[enc]
 |.pair a b,x,id=>by
  simp only[enc,List.mem_append]
  rintro(h|h)
  ·exact kN a _ id h
  ·exact kN b _ id h
 |.one k,x,id=>by simp only[enc];exact kN k x id
theorem uI{hh:Heap}{ok:OK}{n:Nat}{xs:ok.T}(hg:hh.get n=some (.own ok xs)):dz hh ok (.bp n)=some xs:=by
 simp[dz,hg]
theorem nI{hh:Heap}:∀(cW:List CK) (n:Nat) (x:oP cW),(∀e∈aL cW n x,hh.get e.1=some e.2)→cv cW hh (aw cW n x)=some x
 |[],n,x,_=>rfl
 |.val k::r,n,x,hg=>by
  have h1:(aw (.val k::r) n x).take k.sz=enc k x.1:=by simp only[aw];rw[←dW k x.1,List.take_left]
  have h2:(aw (.val k::r) n x).drop k.sz=aw r (n+1) x.2:=by simp only[aw];rw[←dW k x.1,List.drop_left]
  have e:cv (.val k::r) hh (aw (.val k::r) n x)=(match dh k (((aw (.val k::r) n x).take k.sz).map (ct hh)),cv r hh ((aw (.val k::r) n x).drop k.sz) with
   |some x,some y=>some ((x,y):k.T×oP r)
   |_,_=>none):=by generalize aw (.val k::r) n x=l;cases l<;>rfl
  have h4:dh k (((aw (.val k::r) n x).take k.sz).map (ct hh))=some x.1:=by
   rw[h1];exact(congrArg (dh k) (pq hh k x.1)).trans (rY k x.1)
  have h5:cv r hh ((aw (.val k::r) n x).drop k.sz)=some x.2:=by
   rw[h2];exact nI r (n+1) x.2 hg
  rw[e]
  generalize dh k (((aw (.val k::r) n x).take k.sz).map (ct hh))=o1 at h4 ⊢
  generalize cv r hh ((aw (.val k::r) n x).drop k.sz)=o2 at h5 ⊢
  subst h4;subst h5;rfl
 |.own ok::r,n,x,hg=>by
  simp only[aL]at hg
  have h1:=uI (hg _ List.mem_cons_self)
  have h2:=nI r (n+1) x.2 (fun e he=>hg e (List.mem_cons_of_mem _ he))
  have e:cv (.own ok::r) hh (aw (.own ok::r) n x)=(match dz hh ok (.bp n),cv r hh (aw r (n+1) x.2) with
   |some x,some y=>some ((x,y):ok.T×oP r)
   |_,_=>none):=rfl
  rw[e,h1,h2]
  rfl
theorem JA{hh:Heap}(b:BK){i n:Nat}{x:b.T}(hg:∀e∈ic b i n x,hh.get e.1=some e.2):oq b hh i=some x:=by
 cases b with
 |box ty c =>
  simp only[ic]at hg
  have h1:AQ hh i ty=some (aw c n x):=by
   unfold AQ
   rw[hg _ List.mem_cons_self]
   simp
  simp only[oq,h1]
  exact nI (hh:=hh) c n x (fun e he=>hg e (List.mem_cons_of_mem _ he))
 |own ok=>exact uI (hg _ (by simp only[ic];exact List.mem_cons_self))
theorem vN{hh:Heap}:∀(bs:List BK) (is:List Nat) (n:Nat) (x:ug bs),is.length=bs.length→(∀e∈aX bs is n x,hh.get e.1=some e.2)→cE bs hh is=some x
 |[],[],n,x,_,_=>rfl
 |[],_::_,n,x,hl,_=>by simp at hl
 |_::_,[],n,x,hl,_=>by simp at hl
 |b::r,i::is,n,x,hl,hg=>by
  simp only[aX]at hg
  have h2:=JA b (fun e he=>hg e (List.mem_append_left _ he))
  have h3:=vN r is (n+16) x.2 (by simpa using hl) (fun e he=>hg e (List.mem_append_right _ he))
  have e:cE (b::r) hh (i::is)=(match oq b hh i,cE r hh is with
    |some x,some y=>some ((x,y):b.T×ug r)
    |_,_=>none):=rfl
  rw[e,h2,h3]
  rfl
theorem uJ{i:Nat}{o:Ob}:∀{hh:Heap},bP (hh.map (·.1))=true→(i,o)∈hh→hh.get i=some o
 |[],_,h=>by cases h
 |(j,o')::r,hn,h=>by
  obtain⟨h1,h2⟩:=lE hn
  simp only[Heap.get]
  rcases List.mem_cons.1 h with e|h
  ·cases e;simp
  ·rw[if_neg,uJ h2 h]
   rintro rfl
   exact h1 (List.mem_map.2 ⟨_,h,rfl⟩)
theorem wN{hh:Heap}:∀(cW:List CK) (n:Nat) (x:oP cW) (id:Nat),AV.bp id∉oo cW (aw cW n x)
 |[],n,x,id=>by simp[aw,oo]
 |.val k::r,n,x,id=>by
  have h1:(aw (.val k::r) n x).take k.sz=enc k x.1:=by simp only[aw];rw[←dW k x.1,List.take_left]
  have h2:(aw (.val k::r) n x).drop k.sz=aw r (n+1) x.2:=by simp only[aw];rw[←dW k x.1,List.drop_left]
  have e:oo (.val k::r) (aw (.val k::r) n x)=(aw (.val k::r) n x).take k.sz++oo r ((aw (.val k::r) n x).drop k.sz):=by generalize aw (.val k::r) n x=l;cases l<;>rfl
  rw[e,h1,h2,List.mem_append]
  rintro(h|h)
  ·exact kN k x.1 id h
  ·exact wN (hh:=hh) r (n+1) x.2 id h
 |.own ok::r,n,x,id=>by simp only[aw,oo];exact wN (hh:=hh) r (n+1) x.2 id
theorem yf{hh:Heap}:∀(bs:List BK) (is:List Nat) (n:Nat) (x:ug bs) (id:Nat),(∀e∈aX bs is n x,hh.get e.1=some e.2)→AV.bp id∉fe bs hh is
 |[],is,n,x,id,_=>by cases is<;>simp[fe]
 |_::_,[],n,x,id,_=>by simp[fe]
 |b::r,i::is,n,x,id,hg=>by
  simp only[aX]at hg
  simp only[fe,List.mem_append]
  rintro(h|h)
  ·cases b with
   |box ty c =>
    simp only[xm]at h
    rw[hg (i,.box ty (aw c n x.1)) (List.mem_append_left _ (by simp only[ic];exact List.mem_cons_self))]at h
    exact wN (hh:=hh) c n x.1 id h
   |own ok=>simp[xm]at h
  ·exact yf r is (n+16) x.2 id (fun e he=>hg e (List.mem_append_right _ he)) h
theorem A6{hh:Heap}:∀(cap:List AV) (is is':List Nat) (vs:List Value),iP cap=some is→is'.length=is.length→(∀p∈is.zip is',hh.get p.1≠none∧(h' p.2≠none→ψ' p.2=ψ p.1)) →
  ai Z ψ hh.get w cap vs→ai Z' ψ' h' w (is'.map fun i=>.ref i 0 0 0) vs
 |[],is,is',vs,h1,hl,_,hr=>by
  simp only[iP]at h1
  cases h1
  cases is' with
  |nil=>simpa only[List.map_nil,ai] using hr
  |cons c r=>simp at hl
 |v::cap,is,is',vs,h1,hl,hp,hr=>by
  simp only[iP]at h1
  split at h1
  ·rename_i i YE h3 h4
   cases h1
   cases is' with
   |nil=>simp at hl
   |cons c r =>
    simp only[List.zip_cons_cons]at hp
    simp only[List.map_cons,ai]at hr ⊢
    obtain⟨u,us,rfl,h7,h8⟩:=hr
    obtain⟨sz,rfl⟩:=nE h3
    obtain⟨h5,h6⟩:=hp _ List.mem_cons_self
    exact⟨u,us,rfl,wL h7 h5 h6,A6 cap YE r us h4 (by simpa using hl) (fun p h=>hp p (List.mem_cons_of_mem _ h)) h8⟩
  ·cases h1
theorem rf:∀(cap:List AV) (is:List Nat),iP cap=some is→is.length=cap.length
 |[],is,h=>by simp only[iP]at h;cases h;rfl
 |v::cap,is,h=>by
  simp only[iP]at h
  split at h
  ·rename_i i YE h3 h4
   cases h
   simp[rf cap YE h4]
  ·cases h
theorem rh:∀(cs:List AV) (is:List Nat),nm cs=some is→is.length=cs.length
 |[],is,h=>by simp only[nm]at h;cases h;rfl
 |c::r,is,h=>by
  cases c<;>simp only[nm]at h<;>first|(cases h;done)|skip
  split at h
  ·rename_i is' h1
   cases h
   simp[rh r is' h1]
  ·cases h
theorem A7{hh:Heap}:∀(cs:List AV) (is fJ:List Nat) (vs:List Value),nm cs=some is→fJ.length=is.length→(∀p∈is.zip fJ,hh.get p.1≠none∧(h' p.2≠none→ψ' p.2=ψ p.1)) →
  ai Z ψ hh.get w cs vs→ai Z' ψ' h' w (fJ.map .bp) vs
 |[],is,fJ,vs,h,hl,hp,hr=>by
  simp only[nm]at h
  cases h
  have:fJ=[]:=List.eq_nil_of_length_eq_zero hl
  subst this
  simpa only[List.map_nil,ai] using hr
 |c::r,is,fJ,vs,h,hl,hp,hr=>by
  cases c<;>simp only[nm]at h<;>first|(cases h;done)|skip
  rename_i i
  split at h
  ·rename_i is' h1
   cases h
   cases fJ with
   |nil=>simp at hl
   |cons i' fJ =>
    simp only[List.zip_cons_cons]at hp
    obtain⟨h5,h6⟩:=hp _ List.mem_cons_self
    simp only[List.map_cons,ai]at hr ⊢
    obtain⟨u,us,rfl,h3,h4⟩:=hr
    refine⟨u,us,rfl,?_,A7 r is' fJ us h1 (by simpa using hl) (fun p Lu=>hp p (List.mem_cons_of_mem _ Lu)) h4⟩
    simp only[ar]at h3 ⊢
    exact⟨h3.1,fun hn=>(h3.2 h5).trans (h6 hn).symm⟩
  ·cases h
theorem kr{hh:Heap}(g:Good Z ψ hh.get w B0 O)(hz:∀b,Z b→Z' b):∀(ps:List PK) (ids fJ:List Nat) (s:Nat) (vs:List AV) (us:List Value) (x:Dp (jX ps)),fJ.length=ids.length→ck ps vs=some ids→dL ps hh vs=some x →
  (∀id b,AV.bp id∈cU ps vs→hh.get id≠none→ob (ψ id)=some b→Z' b)→(∀p∈ids.zip fJ,hh.get p.1≠none∧(h' p.2≠none→ψ' p.2=ψ p.1))→ai Z ψ hh.get w vs us→ai Z' ψ' h' w ((aH ps fJ s x).map (·.2)) us
 |[],ids,fJ,s,vs,us,x,hl,hi,hv,hf,hp,hr=>by
  cases vs with
  |nil=>simpa only[aH,List.map_nil,ai] using hr
  |cons a r=>simp[ck]at hi
 |.val k::ps,ids,fJ,s,vs,us,x,hl,hi,hv,hf,hp,hr=>by
  cases vs with
  |nil=>simp[ck]at hi
  |cons a r =>
   simp only[ck]at hi
   simp only[ai]at hr
   obtain⟨u,hM,rfl,h3,h4⟩:=hr
   obtain⟨h1,h2⟩:=vK hv
   simp only[cU]at hf
   simp only[aH,List.map_cons,ai]
   exact⟨u,hM,rfl,qh g hz (fun id b bw=>hf id b (List.mem_append_left _ bw)) h1 h3,kr g hz ps ids fJ (s+1) r hM x.2 hl hi h2 (fun id b bw=>hf id b (List.mem_append_right _ bw)) hp h4⟩
 |.ref::ps,ids,fJ,s,vs,us,x,hl,hi,hv,hf,hp,hr=>by
  cases vs with
  |nil=>simp[ck]at hi
  |cons a r =>
   simp only[ck]at hi
   split at hi
   ·rename_i i is h1 h2
    cases hi
    simp only[ai]at hr
    obtain⟨u,hM,rfl,h3,h4⟩:=hr
    cases fJ with
    |nil=>simp at hl
    |cons i' is' =>
     simp only[List.zip_cons_cons]at hp
     obtain⟨sz,rfl⟩:=nE h1
     obtain⟨h5,h6⟩:=hp _ List.mem_cons_self
     simp only[aH,List.map_cons,ai]
     exact⟨u,hM,rfl,wL h3 h5 h6,kr g hz ps is is' (s+1) r hM x (by simpa using hl) h2 hv hf (fun p h=>hp p (List.mem_cons_of_mem _ h)) h4⟩
   ·cases hi
 |.own::ps,ids,fJ,s,vs,us,x,hl,hi,hv,hf,hp,hr=>by
  cases vs with
  |nil=>simp[ck]at hi
  |cons a r =>
   cases a<;>simp only[ck]at hi<;>first|(cases hi;done)|skip
   rename_i i
   split at hi
   ·rename_i is h2
    cases hi
    simp only[ai]at hr
    obtain⟨u,hM,rfl,h3,h4⟩:=hr
    cases fJ with
    |nil=>simp at hl
    |cons i' is' =>
     simp only[List.zip_cons_cons]at hp
     obtain⟨h5,h6⟩:=hp _ List.mem_cons_self
     simp only[aH,List.map_cons,ai]
     refine⟨u,hM,rfl,?_,kr g hz ps is is' (s+1) r hM x (by simpa using hl) h2 hv hf (fun p h=>hp p (List.mem_cons_of_mem _ h)) h4⟩
     simp only[ar]at h3 ⊢
     exact⟨h3.1,fun hn=>(h3.2 h5).trans (h6 hn).symm⟩
   ·cases hi
 |.Df f m::ps,ids,fJ,s,vs,us,x,hl,hi,hv,hf,hp,hr=>by
  cases vs with
  |nil=>simp[ck]at hi
  |cons a r =>
   cases a<;>simp only[ck]at hi<;>first|(cases hi;done)|skip
   rename_i f' cap
   split at hi
   ·rename_i hc
    obtain⟨rfl,rM⟩:=hc
    split at hi
    ·rename_i a1 b1 h1 h2
     cases hi
     simp only[ai]at hr
     obtain⟨u,hM,rfl,h3,h4⟩:=hr
     have h5:=rf cap a1 h1
     have vE:(a1++b1).zip fJ=a1.zip (fJ.take m)++b1.zip (fJ.drop m):=by
      conv=>lhs;rw[←List.take_append_drop m fJ]
      rw[List.zip_append]
      rw[List.length_take,Nat.min_eq_left]
      ·omega
      ·rw[hl,List.length_append];omega
     rw[vE]at hp
     simp only[aH,List.map_cons,ai]
     refine⟨u,hM,rfl,?_,kr g hz ps b1 (fJ.drop m) (s+1) r hM x (by rw[List.length_drop,hl,List.length_append];omega) h2 hv hf (fun p h=>hp p (List.mem_append_right _ h)) h4⟩
     simp only[ar]at h3 ⊢
     obtain⟨ws,h6,h7⟩:=h3
     exact⟨ws,h6,A6 cap a1 (fJ.take m) _ h1 (by rw[List.length_take,Nat.min_eq_left (by rw[hl,List.length_append];omega)];omega) (fun p h=>hp p (List.mem_append_left _ h)) h7⟩
    ·cases hi
   ·cases hi
 |.agg m::ps,ids,fJ,s,vs,us,x,hl,hi,hv,hf,hp,hr=>by
  cases vs with
  |nil=>simp[ck]at hi
  |cons a r =>
   cases a<;>simp only[ck]at hi<;>first|(cases hi;done)|skip
   rename_i cs
   split at hi
   ·rename_i rM
    split at hi
    ·rename_i a1 b1 h1 h2
     cases hi
     simp only[ai]at hr
     obtain⟨u,hM,rfl,h3,h4⟩:=hr
     have h5:=rh cs a1 h1
     have vE:(a1++b1).zip fJ=a1.zip (fJ.take m)++b1.zip (fJ.drop m):=by
      conv=>lhs;rw[←List.take_append_drop m fJ]
      rw[List.zip_append]
      rw[List.length_take,Nat.min_eq_left]
      ·omega
      ·rw[hl,List.length_append];omega
     rw[vE]at hp
     simp only[aH,List.map_cons,ai]
     refine⟨u,hM,rfl,?_,kr g hz ps b1 (fJ.drop m) (s+1) r hM x (by rw[List.length_drop,hl,List.length_append];omega) h2 hv hf (fun p h=>hp p (List.mem_append_right _ h)) h4⟩
     simp only[ar]at h3 ⊢
     obtain⟨ws,h6,h7⟩:=h3
     exact⟨ws,h6,A7 cs a1 (fJ.take m) _ h1 (by rw[List.length_take,Nat.min_eq_left (by rw[hl,List.length_append];omega)];omega) (fun p h=>hp p (List.mem_append_left _ h)) h7⟩
    ·cases hi
   ·cases hi
theorem JB(hh:Heap)(k:K)(x:k.T):eW k hh (bS k x)=some x:=by
 unfold eW
 rw[if_pos (ya k x).symm,rZ]
 exact(congrArg (dh k) (pq hh k x)).trans (rY k x)
theorem lI:∀(cW:List CK) (c n:Nat) (x:oP cW),eX cW c=true→(aw cW n x)[lB cW c]? = some (.bp (n+c))
 |[],c,n,x,h=>by simp[eX]at h
 |.val k::r,0,n,x,h=>by simp[eX]at h
 |.val k::r,c+1,n,x,h=>by
  simp only[aw,lB]
  have ih:=lI r c (n+1) x.2 (by simpa[eX] using h)
  have hl:(enc k x.1).length=k.sz:=dW k x.1
  generalize enc k x.1=l at hl ⊢
  rw[List.getElem?_append_right (by omega),hl,Nat.add_sub_cancel_left,show n+(c+1)=n+1+c by omega]
  exact ih
 |.own ok::r,0,n,x,h=>by simp[aw,lB]
 |.own ok::r,c+1,n,x,h=>by
  simp only[aw,lB]
  rw[Nat.add_comm 1,List.getElem?_cons_succ,show n+(c+1)=n+1+c by omega]
  exact lI r c (n+1) x.2 (by simpa[eX] using h)
theorem vO:∀(bs:List BK) (b:Nat) (is:List Nat) (n:Nat) (x:ug bs) (ty:TypeId) (c:List CK) (bi:Nat),bs[b]? = some (.box ty c)→is[b]? = some bi→∃xb,(bi,.box ty (aw c (n+16*b) xb))∈aX bs is n x
 |[],b,is,n,x,_,_,bi,h,_=>by simp at h
 |b0::r,b,[],n,x,_,_,bi,_,h=>by simp at h
 |b0::r,0,i::is,n,x,ty,c,bi,h1,h2=>by
  simp only[List.getElem?_cons_zero,Option.some.injEq]at h1 h2
  subst h1;subst h2
  exact⟨x.1,by simp only[aX,ic];exact List.mem_append_left _ List.mem_cons_self⟩
 |b0::r,b+1,i::is,n,x,ty,c,bi,h1,h2=>by
  obtain⟨xb,h3⟩:=vO r b is (n+16) x.2 ty c bi (by simpa using h1) (by simpa using h2)
  refine⟨xb,?_⟩
  simp only[aX]
  rw[show n+16*(b+1)=n+16+16*b by omega]
  exact List.mem_append_right _ h3
theorem kO{bs:List BK}{hh:Heap}{is:List Nat}{nb:Nat}{xb:ug bs}(hl:is.length=bs.length)(N7:∀e∈aX bs is nb xb,hh.get e.1=some e.2):∀(rs:List RK) (ids2:List Nat) (m:Nat) (y:kD rs),oS bs rs=true →
  (∀e∈ag rs m y,hh.get e.1=some e.2)→bq bs rs hh is (aJ rs ids2 nb m y)=some y
 |[],ids2,m,y,_,_=>rfl
 |.val k::r,ids2,m,y,hk,hg=>by
  simp only[oS,List.all_cons,Bool.and_eq_true,Ap]at hk
  have h1:=JB hh k y.1
  have h2:=kO hl N7 r ids2 (m+1) y.2 hk.2 hg
  have e:bq bs (.val k::r) hh is (aJ (.val k::r) ids2 nb m y)=(match eW k hh (bS k y.1),bq bs r hh is (aJ r ids2 nb (m+1) y.2) with
   |some x,some y=>some ((x,y):k.T×kD r)
   |_,_=>none):=rfl
  rw[e]
  generalize eW k hh (bS k y.1)=o1 at h1 ⊢
  generalize bq bs r hh is (aJ r ids2 nb (m+1) y.2)=o2 at h2 ⊢
  subst h1;subst h2;rfl
 |.own ok::r,ids2,m,y,hk,hg=>by
  simp only[oS,List.all_cons,Bool.and_eq_true,Ap]at hk
  simp only[ag]at hg
  have h1:=uI (hg _ List.mem_cons_self)
  have h2:=kO hl N7 r ids2 (m+1) y.2 hk.2 (fun e he=>hg e (List.mem_cons_of_mem _ he))
  have e:bq bs (.own ok::r) hh is (aJ (.own ok::r) ids2 nb m y)=(match dz hh ok (.bp m),bq bs r hh is (aJ r ids2 nb (m+1) y.2) with
   |some x,some y=>some ((x,y):ok.T×kD r)
   |_,_=>none):=rfl
  rw[e]
  generalize dz hh ok (.bp m)=o1 at h1 ⊢
  generalize bq bs r hh is (aJ r ids2 nb (m+1) y.2)=o2 at h2 ⊢
  subst h1;subst h2;rfl
 |.dM b alts::r,ids2,m,y,hk,hg=>by
  simp only[oS,List.all_cons,Bool.and_eq_true,Ap]at hk
  have h2:=kO hl N7 r ids2 (m+1) y.2 hk.2 hg
  have h1:lX bs hh is b alts (sE b nb alts y.1)=some y.1:=by
   cases hy:y.1 with
   |none=>rfl
   |some p =>
    obtain⟨al,i⟩:=p
    have h3:=hk.1
    split at h3
    ·rename_i bk Ug
     have aG:=(List.getElem?_eq_some_iff.1 Ug).1
     have JC:is[b]? = some (is[b]'(by omega)):=List.getElem?_eq_getElem (by omega)
     rw[Bool.and_eq_true,decide_eq_true_eq]at h3
     obtain⟨h3,Dg⟩:=h3
     have Uh:∀a:Fin alts.length,eX bk.cW (alts.get a).1=true:=fun a=>List.all_eq_true.1 h3 _ (List.get_mem alts a)
     cases bk with
     |own ok=>have:=Uh al;simp[BK.cW,eX]at this
     |box ty c0 =>
      obtain⟨XP,h4⟩:=vO bs b is nb xb ty c0 _ Ug JC
      have h5:=N7 _ h4
      simp only[BK.cW]at Uh
      simp only[lX,sE,Ug,JC,h5,BK.cW]
      have key:(List.finRange alts.length).find? (fun a=>vw c0 (aw c0 (nb+16*b) XP) (nb+16*b+(alts.get al).1) (alts.get al).2.1 (alts.get al).2.2 (alts.get a))=some al:=by
       cases hf:(List.finRange alts.length).find? (fun a=>vw c0 (aw c0 (nb+16*b) XP) (nb+16*b+(alts.get al).1) (alts.get al).2.1 (alts.get al).2.2 (alts.get a)) with
       |none =>
        have:=List.find?_eq_none.1 hf al (List.mem_finRange al)
        exfalso
        apply this
        simp only[vw,Bool.and_eq_true,decide_eq_true_eq]
        refine⟨?_,trivial,trivial,Uh al⟩
        rw[lI c0 _ _ XP (Uh al)]
        simp[K3]
       |some a' =>
        have hf':=List.find?_some hf
        obtain⟨h6,_,h7,_⟩:=ye hf'
        rw[lI c0 _ _ XP (Uh a')]at h6
        simp only[Option.some.injEq,AV.bp.injEq]at h6
        have h8:(alts.get a').1=(alts.get al).1:=by omega
        congr 1
        have l9:∀a:Fin alts.length,(alts.map fun a=>(a.1,a.2.2))[a.val]? = some ((alts.get a).1,(alts.get a).2.2):=fun a=>by
         rw[List.getElem?_map,List.getElem?_eq_getElem a.isLt];rfl
        have e1:=l9 a'
        have e2:=l9 al
        rw[h8,←h7]at e1
        exact Fin.ext ((List.getElem?_inj (by simp) Dg).1 (e1.trans e2.symm))
      rw[key]
      rfl
    ·cases h3
  have e:bq bs (.dM b alts::r) hh is (aJ (.dM b alts::r) ids2 nb m y)=(match lX bs hh is b alts (sE b nb alts y.1),bq bs r hh is (aJ r ids2 nb (m+1) y.2) with
   |some x,some y=>some ((x,y):Option (Fin alts.length×Nat)×kD r)
   |_,_=>none):=rfl
  rw[e]
  generalize lX bs hh is b alts (sE b nb alts y.1)=o1 at h1 ⊢
  generalize bq bs r hh is (aJ r ids2 nb (m+1) y.2)=o2 at h2 ⊢
  subst h1;subst h2;rfl
 |.agg c::r,ids2,m,y,hk,hg=>by
  simp only[oS,List.all_cons,Bool.and_eq_true,Ap]at hk
  simp only[ag]at hg
  have h1:=nI (hh:=hh) c m y.1 (fun e he=>hg e (List.mem_append_left _ he))
  have h2:=kO hl N7 r ids2 (m+1) y.2 hk.2 (fun e he=>hg e (List.mem_append_right _ he))
  have e:bq bs (.agg c::r) hh is (aJ (.agg c::r) ids2 nb m y)=(match cv c hh (aw c m y.1),bq bs r hh is (aJ r ids2 nb (m+1) y.2) with
   |some x,some y=>some ((x,y):oP c×kD r)
   |_,_=>none):=rfl
  rw[e]
  generalize cv c hh (aw c m y.1)=o1 at h1 ⊢
  generalize bq bs r hh is (aJ r ids2 nb (m+1) y.2)=o2 at h2 ⊢
  subst h1;subst h2;rfl
end Go.Vs
namespace Go.Vs
variable {P:Program} {Z Z':Nat→Prop} {ψ ψ':Nat→Value} {h h':Hp} {w w':World} {B0:Nat} {O:Nat→Prop} {N:Nat→Prop}
def nJ(g:aK)(x:g.A):Hp:=(aX g.bs (aE g.bs.length) 2000 x.2).get
def je(g:aK)(y:g.B):Heap:=aX g.bs (aE g.bs.length) 2000 y.2++ag g.rs 3000 y.1
def Co(g:aK)(x:g.A):List AV:=(aH g.ps (aE g.bs.length) 0 x.1).map (·.2)
def A8(P:Program)(f:FuncId)(g:aK)(x:g.A)(y:g.B):Prop :=
 ∀(Z:Nat→Prop) (ψ0:Nat→Value) (w:World) (jB:List Value),Good Z ψ0 (nJ g x) w w.heap.size (Own ψ0 (nJ g x))→ai Z ψ0 (nJ g x) w (Co g x) jB →
  Calls P (f%1000) jB.toArray w fun e w'=>∃v Z' ψ',e=.returned v∧(∀b,Z b→Z' b)∧(∀b,Z' b→Z b∨Own ψ0 (nJ g x) b∨w.heap.size≤b)∧cG ψ0 (nJ g x) w w' ∧
   Good Z' ψ' (je g y).get w' w.heap.size (Own ψ0 (nJ g x))∧(∀i∈aE g.bs.length,ψ' i=ψ0 i)∧ar Z' ψ' (je g y).get w' (dQ (aJ g.rs (aE g.bs.length) 2000 3000 y.1)) v
theorem Cp{ψ:Nat→Value}{b:Nat}:¬Own ψ fk b:=fun⟨_,h,_⟩=>h rfl
theorem tc(ids:List Nat)(n:Nat)(x:ug []):aX [] ids n x=[]:=by cases ids<;>rfl
theorem A8.zero{f:FuncId}{g:aK}{x:g.A}{y:g.B}(hb:g.bs=[])(c:A8 P f g x y):T9 P f g x y:=by
 obtain⟨ps,bs,rs,_⟩:=g
 simp only at hb
 subst hb
 intro Z w jB hz hr
 have e0:nJ ⟨ps,[],rs,_⟩ x=fk:=by unfold nJ;rw[tc];rfl
 have e1:je ⟨ps,[],rs,_⟩ y=ag rs 3000 y.1:=by unfold je;rw[tc];rfl
 have hO:Own FV fk=fun _=>False:=funext fun b=>propext ⟨Cp,False.elim⟩
 unfold A8 at c
 rw[e0,e1]at c
 refine(c Z FV w jB ⟨fun _ _ _ h=>(by cases h),fun _ _ _ h=>(by cases h),fun _ _ h=>absurd rfl h,fun _ _ _ h=>absurd rfl h,hz⟩ hr).mono fun e w' ⟨v,Z',ψ',h1,h2,h3,h4,h5,_,h6⟩=>?_
 exact⟨v,Z',ψ',h1,h2,fun b hb=>(h3 b hb).imp (fun h=>h) fun h=>h.resolve_left Cp,h4,by rw[hO]at h5;exact h5,h6⟩
theorem DQ{bs:List BK}{hh:Heap}{x:ug bs}(hd:cE bs hh []=some x):bs=[]:=by
 cases bs with
 |nil=>rfl
 |cons b r=>cases hd
variable {Eqs:TypeId→Option K} {Sg:FuncId→Option aK} {F:(f:FuncId)→(g:aK)→g.A→Option g.B}
theorem DR{a b:List Nat}(h:bP (a++b)=true):bP a=true:=by
 induction a with
 |nil=>rfl
 |cons i r ih =>
  obtain⟨h1,h2⟩:=lE h
  simp only[bP,Bool.and_eq_true,Bool.not_eq_true']
  refine⟨?_,ih h2⟩
  cases hc:r.contains i with
  |false=>rfl
  |true=>exact absurd (List.mem_append_left _ (List.contains_iff_mem.1 hc)) h1
theorem Good.Cq(g:Good Z ψ h w B0 O)(B:Nat):Good Z ψ h w B (Own ψ h) :=
 ⟨g.box,g.row,fun id b h1 h2=>⟨(g.live id b h1 h2).1,.inr ⟨id,h1,h2⟩⟩,g.apart,g.iS⟩
theorem mE:∀(l:List Nat) (hh:Heap) (i:Nat),(fW hh l).get i=if i∈l then none else hh.get i
 |[],hh,i=>by simp[fW]
 |j::r,hh,i=>by
  simp only[fW]
  rw[mE r (hh.del j) i]
  by_cases h1:i∈r
  ·simp[h1]
  ·by_cases h2:i=j
   ·subst h2;simp[Heap.fG]
   ·rw[Heap.gE h2];simp[h1,h2]
theorem gi:∀(cW:List CK) (n:Nat) (x:oP cW),(aL cW n x).map (·.1)=bT cW n
 |[],_,_=>rfl
 |.val k::r,n,x=>gi r (n+1) x.2
 |.own ok::r,n,x=>by simp only[aL,bT,List.map_cons];rw[gi r (n+1) x.2]
theorem kP:∀(bs:List BK) (is:List Nat) (n:Nat) (x:ug bs),is.length=bs.length→(aX bs is n x).map (·.1)=bK bs is n
 |[],is,n,x,_=>by cases is<;>rfl
 |b::r,[],n,x,hl=>by simp at hl
 |b::r,i::is,n,x,hl=>by
  simp only[aX,bK,List.map_append]
  rw[kP r is (n+16) x.2 (by simpa using hl),←List.cons_append]
  congr 1
  cases b with
  |box ty c=>simp only[ic,List.map_cons,BK.cW];rw[gi]
  |own ok=>simp[ic,BK.cW,bT]
theorem eL:∀(rs:List RK) (m:Nat) (y:kD rs),(ag rs m y).map (·.1)=aY rs m
 |[],_,_=>rfl
 |.own ok::r,m,y=>by simp only[ag,aY,List.map_cons];rw[eL r (m+1) y.2]
 |.val _::r,m,y=>eL r (m+1) y.2
 |.dM _ _::r,m,y=>eL r (m+1) y.2
 |.agg c::r,m,y=>by
  have e1:(aL c m y.1).map (·.1)=bT c m:=gi c m y.1
  simp only[ag,aY,List.map_append]
  rw[eL r (m+1) y.2]
  exact congrArg (·++_) e1
theorem nK:∀(cW:List CK) (n:Nat) (x:oP cW),eQ cW (aw cW n x)=bT cW n
 |[],_,_=>rfl
 |.val k::r,n,x=>by
  have h2:(aw (.val k::r) n x).drop k.sz=aw r (n+1) x.2:=by simp only[aw];rw[←dW k x.1,List.drop_left]
  have e:eQ (.val k::r) (aw (.val k::r) n x)=eQ r ((aw (.val k::r) n x).drop k.sz):=by generalize aw (.val k::r) n x=l;cases l<;>rfl
  rw[e,h2,nK r (n+1) x.2];rfl
 |.own ok::r,n,x=>by simp only[aw,eQ,nk,bT,List.cons_append,List.nil_append];rw[nK r (n+1) x.2]
theorem vP{hh:Heap}:∀(bs:List BK) (is:List Nat) (n:Nat) (x:ug bs),is.length=bs.length→(∀e∈aX bs is n x,hh.get e.1=some e.2)→cF bs hh is=bK bs is n
 |[],is,n,x,_,_=>by cases is<;>rfl
 |_::_,[],n,x,hl,_=>by simp at hl
 |b::r,i::is,n,x,hl,hg=>by
  simp only[aX]at hg
  simp only[cF,bK]
  rw[vP r is (n+16) x.2 (by simpa using hl) (fun e he=>hg e (List.mem_append_right _ he)),←List.cons_append]
  congr 1
  cases b with
  |box ty c =>
   simp only[js,BK.cW]
   rw[hg (i,.box ty (aw c n x.1)) (List.mem_append_left _ (by simp only[ic];exact List.mem_cons_self))]
   simp only[]
   rw[nK]
  |own ok=>simp[js,BK.cW,bT]
theorem jC:∀(rs:List RK) (ids:List Nat) (n m:Nat) (y:kD rs),dp rs (aJ rs ids n m y)=aY rs m
 |[],_,_,_,_=>rfl
 |.own ok::r,ids,n,m,y=>by simp only[aJ,dp,aY,nk,List.cons_append,List.nil_append];rw[jC r ids n (m+1) y.2]
 |.val _::r,ids,n,m,y=>by simp only[aJ,dp,aY];exact jC r ids n (m+1) y.2
 |.dM _ _::r,ids,n,m,y=>by simp only[aJ,dp,aY];exact jC r ids n (m+1) y.2
 |.agg c::r,ids,n,m,y=>by
  have e1:eQ c (aw c m y.1)=bT c m:=nK c m y.1
  simp only[aJ,dp,aY,AV.cells]
  rw[jC r ids n (m+1) y.2]
  exact congrArg (·++_) e1
theorem kQ:∀(rs:List RK) (ids:List Nat) (n m:Nat) (y:kD rs) (id:Nat),AV.bp id∉fg rs (aJ rs ids n m y)
 |[],_,_,_,_,_=>by simp[aJ,fg]
 |.own ok::r,ids,n,m,y,id=>by simp only[aJ,fg];exact kQ r ids n (m+1) y.2 id
 |.val k::r,ids,n,m,y,id=>by
  simp only[aJ,fg,List.mem_append]
  rintro(h|h)
  ·have e:(bS k y.1).cells=enc k y.1:=rZ k y.1
   exact kN k y.1 id (e▸h)
  ·exact kQ r ids n (m+1) y.2 id h
 |.dM _ _::r,ids,n,m,y,id=>by simp only[aJ,fg];exact kQ r ids n (m+1) y.2 id
 |.agg c::r,ids,n,m,y,id=>by
  simp only[aJ,fg,AV.cells,List.mem_append]
  rintro(h|h)
  ·exact wN (hh:=[]) c m y.1 id h
  ·exact kQ r ids n (m+1) y.2 id h
theorem JD{gg:aK}{x:gg.A}{y:gg.B}{Lv:List Nat}{mn dB:Nat→Value}{id:Nat}(hl:Lv.length=gg.bs.length)(RH:oS gg.bs gg.rs=true)(Gv:bP (oQ gg)=true)
  (yg:bP (bK gg.bs Lv id++aY gg.rs (id+128))=true) (Lw:Good Z' dB (je gg y).get w' w.heap.size (Own mn (nJ gg x)))
  {v:Value} (YF:ar Z' dB (je gg y).get w' (dQ (aJ gg.rs (aE gg.bs.length) 2000 3000 y.1)) v) :
  ∃L2:List vI,dd L2=aX gg.bs Lv id y.2++ag gg.rs (id+128) y.1∧L2.map (·.1)=bK gg.bs Lv id++aY gg.rs (id+128) ∧
   Good Z' (dN dB L2) (dd L2).get w' w.heap.size (Own mn (nJ gg x))∧(∀p∈(aE gg.bs.length).zip Lv,dN dB L2 p.2=dB p.1) ∧
   ar Z' (dN dB L2) (dd L2).get w' (dQ (aJ gg.rs Lv id (id+128) y.1)) v:=by
 have hle:(aE gg.bs.length).length=gg.bs.length:=by simp[aE]
 have YG:bP ((je gg y).map (·.1))=true:=by
  unfold je
  rw[List.map_append,kP _ _ _ _ hle,eL];exact Gv
 have N7:∀e∈aX gg.bs (aE gg.bs.length) 2000 y.2,(je gg y).get e.1=some e.2:=fun e he=>uJ YG (by unfold je;exact List.mem_append_left _ he)
 have YH:∀e∈ag gg.rs 3000 y.1,(je gg y).get e.1=some e.2:=fun e he=>uJ YG (by unfold je;exact List.mem_append_right _ he)
 have Au:=vN gg.bs _ 2000 y.2 hle N7
 have OS:=kO (xb:=y.2) hle N7 gg.rs (aE gg.bs.length) 3000 y.1 RH YH
 let YI:=aJ gg.rs (aE gg.bs.length) 2000 3000 y.1
 let L2:List vI:=cc gg.bs (je gg y) (aE gg.bs.length) Lv id y.2++cj gg.rs YI (id+128) y.1
 have eH:dd L2=aX gg.bs Lv id y.2++ag gg.rs (id+128) y.1:=by
  show dd (_++_)=_
  rw[lG,im _ _ _ _ _ _ Au hl,fH]
 have eN:L2.map (·.1)=bK gg.bs Lv id++aY gg.rs (id+128):=by
  show(_++_:List vI).map _=_
  rw[List.map_append,fZ _ _ _ _ _ _ Au hl,eJ]
 have eS:L2.filterMap (·.2.1)=oQ gg:=by
  show(_++_:List vI).filterMap _=_
  rw[List.filterMap_append,jz _ _ _ _ _ _ Au hl,gP _ _ _ _ OS,vP _ _ 2000 y.2 hle N7,jC];rfl
 have hn:bP (L2.map (·.1))=true:=by rw[eN];exact yg
 have ia:=wK (ψ:=dB) hn
 have g3:Good Z' (dN dB L2) (dd L2).get w' w.heap.size (Own mn (nJ gg x)):=by
  refine Lw.rename hn (by rw[eS];exact Gv) fun e he=>?_
  rcases List.mem_append.1 he with he|he
  ·exact kK Lw (fun _ h=>h) gg.bs _ _ id y.2 Au (fun i b bw _ _=>(yf gg.bs _ 2000 y.2 i N7 bw).elim) (fun s _=>rfl) (fun e he=>ia e (List.mem_append_left _ he)) e he
  ·exact jc gg.rs YI (id+128) y.1 OS (fun s _=>rfl) e he
 refine⟨L2,eH,eN,g3,fun p hp=>?_,?_⟩
 ·obtain⟨o,ho⟩:=jA (hh:=je gg y) gg.bs (aE gg.bs.length) Lv id y.2 hle p hp
  exact gO hn (List.mem_append_left _ ho)
 ·refine rX (by rw[ju,ju]) (fun vs qe=>?_) YF
  exact qo (nb:=id) (is':=Lv) Lw (fun _ h=>h) Au hl (fun e he=>ia e (List.mem_append_left _ he)) gg.rs YI (id+128) y.1 vs OS (fun i b bw _ _=>(kQ gg.rs _ _ _ y.1 i bw).elim) (fun e he=>ia e (List.mem_append_right _ he)) qe
theorem JE{hh:Heap}{jV:List AV}{kept:List Nat}{lr:Hp}{mn Lx:Nat→Value}{H2:Heap}(g:Good Z ψ hh.get w B0 O)(hB:B0≤w.heap.size)(FY:∀s∈kept,(cq hh jV).get s=hh.get s)
  (aR:∀i ty cs,hh.get i=some (.box ty cs)→au (fun i=>¬N i) cs) (rO:∀b,Own mn lr b→∃s,s∈kept∧hh.get s≠none∧ob (ψ s)=some b)
  (hz:∀b,oL Z ψ hh.get jV b→Z' b) (KP:∀b,Z' b→oL Z ψ hh.get jV b∨Own mn lr b∨w.heap.size≤b) (keep:cG mn lr w w') (g3:Good Z' Lx H2.get w' w.heap.size (Own mn lr))
  (RI:∀i ty cs,H2.get i=some (.box ty cs)→au (fun j=>H2.get j≠none) cs) (qO:∀i,H2.get i≠none→(i∈kept∧hh.get i≠none∧Lx i=ψ i)∨N i) :
  ∃yh,(∀i,H2.get i≠none→yh i=Lx i)∧Next Z ψ hh.get w B0 O N Z' yh (H2++fW (cq hh jV) kept).get w':=by
 classical
 let yh:Nat→Value:=fun i=>if H2.get i≠none then Lx i else ψ i
 have h4:∀i,H2.get i≠none→yh i=Lx i:=fun i hi=>if_pos hi
 have hg:∀i,(H2++fW (cq hh jV) kept).get i=(match H2.get i with|some o=>some o|none=>if i∈kept then none else(cq hh jV).get i):=fun i=>by rw[Heap.get_append,mE];cases H2.get i<;>rfl
 have As:∀i,H2.get i≠none→(H2++fW (cq hh jV) kept).get i=H2.get i:=fun i hi=>by
  rw[hg];cases e:H2.get i with
  |none=>exact absurd e hi
  |some o=>rfl
 have vQ:∀i,H2.get i=none→(H2++fW (cq hh jV) kept).get i≠none→i∉kept∧(H2++fW (cq hh jV) kept).get i=hh.get i∧(cq hh jV).get i=hh.get i∧yh i=ψ i∧hh.get i≠none:=fun i hi aU=>by
  rw[hg,hi]at aU ⊢
  simp only at aU ⊢
  by_cases hk:i∈kept
  ·rw[if_pos hk]at aU;exact absurd rfl aU
  ·rw[if_neg hk]at aU ⊢
   obtain⟨o,ho⟩:=Option.ne_none_iff_exists'.1 aU
   have:=dE _ _ _ _ ho
   exact⟨hk,by rw[ho,this],by rw[ho,this],if_neg (by simp[hi]),by rw[this];simp⟩
 have OT:∀i b,i∉kept→hh.get i≠none→ob (ψ i)=some b→¬Own mn lr b:=fun i b hk hi hb ho=>by
  obtain⟨s,h1,h2,h3⟩:=rO b ho
  exact hk ((g.apart i s b hi h2 hb h3)▸h1)
 have gd:Good (oL Z ψ hh.get jV) ψ (cq hh jV).get w B0 O:=gF g jV
 have Ui:∀b,oL Z ψ hh.get jV b→¬Own mn lr b:=fun b hb ho=>by
  obtain⟨s,h1,h2,h3⟩:=rO b ho
  exact(gd.live s b (by rw[FY s h1];exact h2) h3).1 hb
 have sm:b5 (oL Z ψ hh.get jV) w w':=fun b hb=>keep.block b (gd.iS b hb) (Ui b hb)
 have Uj:∀i,(H2++fW (cq hh jV) kept).get i≠none→(hh.get i≠none∧yh i=ψ i)∨N i:=fun i hi=>by
  by_cases h2:H2.get i=none
  ·obtain⟨_,_,_,h3,h5⟩:=vQ i h2 hi
   exact .inl ⟨h5,h3⟩
  ·rcases qO i h2 with⟨_,h3,h5⟩|h3
   ·exact .inl ⟨h3,(h4 i h2).trans h5⟩
   ·exact .inr h3
 have kk:cG ψ hh.get w w':=⟨keep.os,keep.tape,keep.output,keep.size,fun b hb pf=>keep.block b hb fun ho=>by
  obtain⟨s,_,h2,h3⟩:=rO b ho
  exact pf ⟨s,h2,h3⟩⟩
 refine⟨yh,h4,fun b hb=>hz b (.inl hb),fun b hb=>?_,kk,Uj,⟨fun i ty cs hb=>?_,fun i ok xs hb=>?_,fun i b h1 h2=>?_,fun i i' b h1 h2 h3 h5=>?_,g3.iS⟩⟩
 ·rcases KP b hb with h1|h1|h1
  ·exact(h1.imp (fun h=>h) fun⟨i,_,h2,h3⟩=>.inl ⟨i,h2,h3⟩)
  ·obtain⟨s,_,h2,h3⟩:=rO b h1
   exact .inr (.inl ⟨s,h2,h3⟩)
  ·exact .inr (.inr h1)
 ·by_cases h2:H2.get i=none
  ·obtain⟨h3,h5,h6,h7,h8⟩:=vQ i h2 (by rw[hb];simp)
   rw[h5]at hb
   obtain⟨gg,vs,e1,e2,e3,e4⟩:=gd.box i ty cs (by rw[h6];exact hb)
   have aG:=(Array.getElem?_eq_some_iff.1 e2).1
   refine⟨gg,vs,by rw[h7,e1],?_,?_,e4⟩
   ·rw[keep.block gg aG (OT i gg h3 h8 (by rw[e1];rfl))];exact e2
   ·refine e3.move (p:=fun i=>¬N i) hz sm (fun j hp hj=>?_) (aR i ty cs hb)
    by_cases h9:H2.get j=none
    ·obtain⟨_,_,l8,wo,FR⟩:=vQ j h9 hj
     exact⟨by rw[l8];exact FR,wo⟩
    ·rcases qO j h9 with⟨l8,wo,FR⟩|l8
     ·exact⟨by rw[FY j l8];exact wo,(h4 j h9).trans FR⟩
     ·exact absurd l8 hp
  ·rw[As i h2]at hb
   obtain⟨gg,vs,e1,e2,e3,e4⟩:=g3.box i ty cs hb
   exact⟨gg,vs,by rw[h4 i h2,e1],e2,e3.move (p:=fun j=>H2.get j≠none) (fun _ h=>h) (b5.refl _ _) (fun j hp _=>⟨hp,h4 j hp⟩) (RI i ty cs hb),e4⟩
 ·by_cases h2:H2.get i=none
  ·obtain⟨h3,h5,h6,h7,h8⟩:=vQ i h2 (by rw[hb];simp)
   rw[h5]at hb
   rw[h7]
   exact(gd.row i ok xs (by rw[h6];exact hb)).kept hz sm fun gg Jh=>keep.block gg (g.bA ⟨i,h8,Jh⟩) (OT i gg h3 h8 Jh)
  ·rw[As i h2]at hb
   rw[h4 i h2]
   exact g3.row i ok xs hb
 ·by_cases h3:H2.get i=none
  ·obtain⟨h5,h6,h7,h8,h9⟩:=vQ i h3 h1
   rw[h8]at h2
   obtain⟨l8,wo⟩:=gd.live i b (by rw[h7];exact h9) h2
   refine⟨fun TX=>?_,wo⟩
   rcases KP b TX with FR|FR|FR
   ·exact l8 FR
   ·exact OT i b h5 h9 h2 FR
   ·have:=g.bA ⟨i,h9,h2⟩;omega
  ·rw[h4 i h3]at h2
   obtain⟨h5,h6⟩:=g3.live i b h3 h2
   refine⟨h5,?_⟩
   rcases h6 with h6|h6
   ·exact .inl (by omega)
   ·obtain⟨s,_,h7,h8⟩:=rO b h6
    exact(g.live s b h7 h8).2
 ·have vA:∀i i',H2.get i=none→H2.get i'≠none→(H2++fW (cq hh jV) kept).get i≠none→ob (yh i)=some b→ob (yh i')=some b→False:=fun i i' e1 e2 e3 e4 e5=>by
   obtain⟨h6,_,_,h8,h9⟩:=vQ i e1 e3
   rw[h8]at e4;rw[h4 i' e2]at e5
   rcases (g3.live i' b e2 e5).2 with l8|l8
   ·have:=g.bA ⟨i,h9,e4⟩;omega
   ·exact OT i b h6 h9 e4 l8
  by_cases e1:H2.get i=none<;>by_cases e2:H2.get i'=none
  ·obtain⟨_,_,_,h8,h9⟩:=vQ i e1 h1
   obtain⟨_,_,_,h8',XL⟩:=vQ i' e2 h2
   rw[h8]at h3;rw[h8']at h5
   exact g.apart i i' b h9 XL h3 h5
  ·exact(vA i i' e1 e2 h1 h3 h5).elim
  ·exact(vA i' i e2 e1 h2 h5 h3).elim
  ·rw[h4 i e1]at h3;rw[h4 i' e2]at h5
   exact g3.apart i i' b e1 e2 h3 h5
theorem wO{i:Nat}{o:Ob}:∀{hh:Heap},(i,o)∈hh→hh.get i≠none
 |[],h=>by cases h
 |(j,o')::r,h=>by
  simp only[Heap.get]
  split
  ·simp
  ·rename_i hn
   rcases List.mem_cons.1 h with e|h
   ·cases e;exact absurd rfl hn
   ·exact wO h
theorem get_mem{i:Nat}{o:Ob}:∀{hh:Heap},hh.get i=some o→(i,o)∈hh
 |[],h=>by simp[Heap.get]at h
 |(j,o')::r,h=>by
  simp only[Heap.get]at h
  split at h
  ·rename_i e;subst e;cases h;exact List.mem_cons_self
  ·exact List.mem_cons_of_mem _ (get_mem h)
theorem nL{p:Nat→Prop}:∀{a b:List AV},au p a→au p b→au p (a++b)
 |[],b,_,h=>h
 |x::r,b,h,h'=>by simp only[List.cons_append,au]at h ⊢;exact⟨h.1,nL h.2 h'⟩
theorem jv{p:Nat→Prop}:∀(cW:List CK) (n:Nat) (x:oP cW),(∀e∈aL cW n x,p e.1)→au p (aw cW n x)
 |[],n,x,_=>by simp only[aw,au]
 |.val k::r,n,x,h=>by simp only[aw];exact nL (kM p k x.1) (jv r (n+1) x.2 h)
 |.own ok::r,n,x,h=>by
  simp only[aL]at h
  simp only[aw,au,aA]
  exact⟨h _ List.mem_cons_self,jv r (n+1) x.2 fun e he=>h e (List.mem_cons_of_mem _ he)⟩
theorem lJ:∀(cW:List CK) (n:Nat) (x:oP cW) (i:Nat) (ty:TypeId) (cs:List AV),(i,Ob.box ty cs)∉aL cW n x
 |[],_,_,_,_,_=>by simp[aL]
 |.val k::r,n,x,i,ty,cs=>lJ r (n+1) x.2 i ty cs
 |.own _::r,n,x,i,ty,cs=>by
  simp only[aL,List.mem_cons,not_or]
  exact⟨by simp,lJ r (n+1) x.2 i ty cs⟩
theorem ri{p:Nat→Prop}:∀(bs:List BK) (is:List Nat) (n:Nat) (x:ug bs),(∀e∈aX bs is n x,p e.1)→∀i ty cs,(i,Ob.box ty cs)∈aX bs is n x→au p cs
 |[],is,n,x,_,i,ty,cs,h=>by cases is<;>simp[aX]at h
 |b::r,[],n,x,_,i,ty,cs,h=>by simp[aX]at h
 |b::r,i0::is,n,x,hp,i,ty,cs,h=>by
  simp only[aX]at h hp
  rcases List.mem_append.1 h with h|h
  ·cases b with
   |box ty0 c0 =>
    simp only[ic]at h hp
    rcases List.mem_cons.1 h with e|h
    ·cases e
     exact jv c0 n x.1 fun e he=>hp e (List.mem_append_left _ (List.mem_cons_of_mem _ he))
    ·exact absurd h (lJ _ _ _ _ _ _)
   |own ok=>simp[ic]at h
  ·exact ri r is (n+16) x.2 (fun e he=>hp e (List.mem_append_right _ he)) i ty cs h
theorem lK:∀(cW:List CK) (n i:Nat),i∈bT cW n→n≤i∧i<n+cW.length
 |[],n,i,h=>by simp[bT]at h
 |.val k::r,n,i,h=>by
  have:=lK r (n+1) i (by simpa[bT] using h)
  simp only[List.length_cons];omega
 |.own ok::r,n,i,h=>by
  simp only[bT]at h
  simp only[List.length_cons]
  rcases List.mem_cons.1 h with rfl|h
  ·omega
  ·have:=lK r (n+1) i h;omega
theorem td:∀(bs:List BK) (is:List Nat) (n i:Nat),(bs.all fun b=>decide (b.cW.length≤16))=true→i∈bK bs is n→i∈is∨(n≤i∧i<n+16*bs.length)
 |[],is,n,i,_,h=>by cases is<;>simp[bK]at h
 |b::r,[],n,i,_,h=>by simp[bK]at h
 |b::r,i0::is,n,i,hc,h=>by
  simp only[List.all_cons,Bool.and_eq_true,decide_eq_true_eq]at hc
  simp only[bK]at h
  simp only[List.length_cons]
  rcases List.mem_cons.1 h with rfl|h
  ·exact .inl List.mem_cons_self
  ·rcases List.mem_append.1 h with h|h
   ·have:=lK _ _ _ h;exact .inr (by omega)
   ·rcases td r is (n+16) i hc.2 h with h1|h1
    ·exact .inl (List.mem_cons_of_mem _ h1)
    ·exact .inr (by omega)
theorem iv{bs:List BK}:∀(rs:List RK) (m i:Nat),oS bs rs=true→i∈aY rs m→m≤i∧i<m+rs.length+16
 |[],m,i,_,h=>by simp[aY]at h
 |.own ok::r,m,i,hk,h=>by
  simp only[oS,List.all_cons,Bool.and_eq_true]at hk
  simp only[aY]at h
  simp only[List.length_cons]
  rcases List.mem_cons.1 h with rfl|h
  ·omega
  ·have:=iv r (m+1) i hk.2 h;omega
 |.val _::r,m,i,hk,h=>by
  simp only[oS,List.all_cons,Bool.and_eq_true]at hk
  have:=iv r (m+1) i hk.2 (by simpa[aY] using h)
  simp only[List.length_cons];omega
 |.dM _ _::r,m,i,hk,h=>by
  simp only[oS,List.all_cons,Bool.and_eq_true]at hk
  have:=iv r (m+1) i hk.2 (by simpa[aY] using h)
  simp only[List.length_cons];omega
 |.agg c::r,m,i,hk,h=>by
  simp only[oS,List.all_cons,Bool.and_eq_true,Ap,decide_eq_true_eq]at hk
  simp only[aY]at h
  simp only[List.length_cons]
  rcases List.mem_append.1 h with h|h
  ·have:=lK c m i h;omega
  ·have:=iv r (m+1) i hk.2 h;omega
theorem vR{hh:Heap}:∀(bs:List BK) (is:List Nat) (i:Nat),is.length=bs.length→i∈is→i∈cF bs hh is
 |[],is,i,hl,h=>by cases is with
  |nil=>cases h
  |cons a r=>simp at hl
 |b::r,[],i,_,h=>by cases h
 |b::r,i0::is,i,hl,h=>by
  simp only[cF]
  rcases List.mem_cons.1 h with rfl|h
  ·refine List.mem_append_left _ ?_
   cases b<;>simp[js]
  ·exact List.mem_append_right _ (vR r is i (by simpa using hl) h)
theorem Ly{α β:Type}:∀{a:List α} {b:List β},a.length=b.length→∀x∈a,∃y,(x,y)∈a.zip b∧(y,x)∈b.zip a
 |[],b,_,x,h=>by cases h
 |a::r,[],hl,x,_=>by simp at hl
 |a::r,c::q,hl,x,h=>by
  simp only[List.zip_cons_cons]
  rcases List.mem_cons.1 h with rfl|h
  ·exact⟨c,List.mem_cons_self,List.mem_cons_self⟩
  ·obtain⟨y,h1,h2⟩:=Ly (a:=r) (b:=q) (by simpa using hl) x h
   exact⟨y,List.mem_cons_of_mem _ h1,List.mem_cons_of_mem _ h2⟩
theorem r9:∀(cW:List CK) (n c:Nat),eX cW c=true→n+c∈bT cW n
 |[],n,c,h=>by simp[eX]at h
 |.own _::r,n,0,_=>by simp[bT]
 |.own _::r,n,c+1,h=>by
  simp only[eX]at h
  have:=r9 r (n+1) c h
  simp only[bT]
  exact List.mem_cons_of_mem _ (by rwa [show n+(c+1)=n+1+c by omega])
 |.val _::r,n,0,h=>by simp[eX]at h
 |.val _::r,n,c+1,h=>by
  simp only[eX]at h
  have:=r9 r (n+1) c h
  simp only[bT]
  rwa [show n+(c+1)=n+1+c by omega]
theorem vS:∀(bs:List BK) (is:List Nat) (n b i:Nat) (bk:BK),is.length=bs.length→bs[b]? = some bk→i∈bT bk.cW (n+16*b)→i∈bK bs is n
 |[],_,_,b,_,_,_,h,_=>by simp at h
 |_::_,[],_,_,_,_,hl,_,_=>by simp at hl
 |b0::r,i0::is,n,0,i,bk,hl,hb,hi=>by
  simp only[List.getElem?_cons_zero,Option.some.injEq]at hb
  subst hb
  simp only[bK]
  exact List.mem_cons_of_mem _ (List.mem_append_left _ (by simpa using hi))
 |b0::r,i0::is,n,b+1,i,bk,hl,hb,hi=>by
  simp only[List.getElem?_cons_succ]at hb
  simp only[bK]
  refine List.mem_cons_of_mem _ (List.mem_append_right _ (vS r is (n+16) b i bk (by simpa using hl) hb ?_))
  rwa [show n+16+16*b=n+16*(b+1) by omega]
theorem jD{p:Nat→Prop}{bs:List BK}{is:List Nat}(hl:is.length=bs.length):∀(rs:List RK) (ids:List Nat) (n m:Nat) (y:kD rs),oS bs rs=true→(∀i∈aY rs m,p i)→(∀i∈bK bs is n,p i)→au p (aJ rs ids n m y)
 |[],_,_,_,_,_,_,_=>by simp only[aJ,au]
 |.val k::r,ids,n,m,y,hr,h1,h2=>by
  simp only[oS,List.all_cons,Bool.and_eq_true,Ap]at hr
  simp only[aJ,au]
  exact⟨mD p k y.1,jD hl r ids n (m+1) y.2 hr.2 (fun i hi=>h1 i hi) h2⟩
 |.own _::r,ids,n,m,y,hr,h1,h2=>by
  simp only[oS,List.all_cons,Bool.and_eq_true,Ap]at hr
  simp only[aJ,au,aA]
  exact⟨h1 m (by simp[aY]),jD hl r ids n (m+1) y.2 hr.2 (fun i hi=>h1 i (by simp only[aY];exact List.mem_cons_of_mem _ hi)) h2⟩
 |.dM b alts::r,ids,n,m,y,hr,h1,h2=>by
  simp only[oS,List.all_cons,Bool.and_eq_true,Ap]at hr
  simp only[aJ,au]
  refine⟨?_,jD hl r ids n (m+1) y.2 hr.2 (fun i hi=>h1 i hi) h2⟩
  cases hy:y.1 with
  |none=>simp only[sE,aA]
  |some p =>
   obtain⟨al,i⟩:=p
   simp only[sE,aA]
   cases hb:bs[b]? with
   |none=>rw[hb]at hr;exact absurd hr.1 (by simp)
   |some bk =>
    rw[hb]at hr
    simp only[Bool.and_eq_true]at hr
    exact h2 _ (vS bs is n b _ bk hl hb (r9 bk.cW (n+16*b) _ (List.all_eq_true.1 hr.1.1 _ (List.get_mem alts al))))
 |.agg c::r,ids,n,m,y,hr,h1,h2=>by
  simp only[oS,List.all_cons,Bool.and_eq_true,Ap]at hr
  simp only[aJ,au,aA]
  refine⟨jv c m y.1 fun e he=>h1 _ ?_,jD hl r ids n (m+1) y.2 hr.2 (fun i hi=>h1 i (by simp only[aY];exact List.mem_append_right _ hi)) h2⟩
  simp only[aY]
  have e1:(aL c m y.1).map (·.1)=bT c m:=gi c m y.1
  exact List.mem_append_left _ (e1▸List.mem_map.2 ⟨e,he,rfl⟩)
theorem Gx{p:Nat→Prop}{vs:List AV}(h:au p vs):aA p (dQ vs):=by
 match vs,h with
 |[],h=>simp only[dQ,aA];exact h
 |[v],h=>simp only[dQ];simp only[au]at h;exact h.1
 |_::_::_,h=>simp only[dQ,aA];exact h
def fR(P:Program)(f:FuncId)(u:Heap→Nat→List AV→Option (Bool×bm)):Prop :=
 ∀{Z:Nat→Prop} {ψ:Nat→Value} {h:Hp} {w:World} {B0:Nat} {O N:Nat→Prop} {hh:Heap} {id:Nat} {e:bm} {vs:List AV} {us:List Value},
  Good Z ψ h w B0 O→B0≤w.heap.size→(∀id o,hh.get id=some o→h id=some o)→(∀j,j<256→N (id+j))→(∀i ty cs,h i=some (.box ty cs)→au (fun i=>¬N i) cs)→(∀v hw,e=.wr v hw→hh.get=h) →
  ai Z ψ h w vs us→au (fun i=>¬N i) vs→u hh id vs=some (true,e) →
  Calls P f us.toArray w fun en w'=>∃V Z' ψ',en=.returned V∧Next Z ψ h w B0 O N Z' ψ' (e.hp h) w'∧ar Z' ψ' (e.hp h) w' e.v V
theorem OU{R:Type}{n:Nat}(a:Fin n)(f:Fin n→Option R):TV n a f=f a:=by
 have key:∀l:List (Fin n),a∈l→l.foldr (fun j r=>cond (a.val==j.val) (f j) r) none=f a:=by
  intro l
  induction l with
  |nil=>intro h;cases h
  |cons j r ih =>
   intro h
   simp only[List.foldr_cons]
   by_cases e:a=j
   ·subst e;simp
   ·have:(a.val==j.val)=false:=by simp only[beq_eq_false_iff_ne,ne_eq];exact fun h=>e (Fin.ext h)
    rw[this,cond_false]
    rcases List.mem_cons.1 h with h|h
    ·exact absurd h e
    ·exact ih h
 exact key _ (List.mem_finRange a)
theorem gQ{R:Type}:∀(rs:List RK) (x:kD rs) (K:kD rs→Option R),iQ rs x K=K x
 |[],_,_=>rfl
 |.val _::r,x,K=>by simp only[iQ];rw[gQ r x.2];rfl
 |.own _::r,x,K=>by simp only[iQ];rw[gQ r x.2];rfl
 |.agg _::r,x,K=>by simp only[iQ];rw[gQ r x.2];rfl
 |.dM _ alts::r,x,K=>by
  simp only[iQ]
  obtain⟨x1,x2⟩:=x
  cases x1 with
  |none=>simp only[oT];rw[gQ r x2]
  |some p=>simp only[oT];rw[OU,gQ r x2]
theorem Gy(hX:∀f g u,Sg f=some g→g.x=some u→fR P (f%1000) u)(hF:∀f g x y,Sg f=some g→F f g x=some y→A8 P f g x y)(JF:∀f g,Sg f=some g→ir P (f%1000))
  {hh:Heap} {ρC:Operand→Value} {o:Oper} (g:Good Z ψ h w B0 O) (hB:B0≤w.heap.size) (aZ:∀id o,hh.get id=some o→h id=some o) {id:Nat} (hN:∀j,j<256→N (id+j)) {e:bm}
  (aR:∀i ty cs,h i=some (.box ty cs)→au (fun i=>¬N i) cs) (mf:∀v hw,e=.wr v hw→hh.get=h) {f:FuncId} {cap vs:List AV} {fv:Value} {us:List Value}
  (OV:ar Z ψ h w (.fn f cap) fv) (qe:ai Z ψ h w vs us) (A3:au (fun i=>¬N i) (vs++cap)) (hex:∀(ws:Array Value),fv=.func (.func f) #[] ws→execOp ρC o=callFunc f (us.toArray++ws))
  (he:ig Sg F hh id f (vs++cap) some=some e):Qw P ρC o Z ψ h w B0 O N e:=by
 unfold ig at he
 split at he
 ·cases he
 rename_i gg XQ
 simp only[ar]at OV
 obtain⟨ws,rfl,RJ⟩:=OV
 have A9:=JF _ _ XQ
 have j8:ai Z ψ h w (vs++cap) (us++ws.toList):=ai.append qe RJ
 have Cr:ai Z ψ hh.get w (vs++cap) (us++ws.toList):=j8.oF aZ
 have gs:Good Z ψ hh.get w B0 O:=g.sub aZ
 have LA:us.toArray++ws=(us++ws.toList).toArray:=by simp
 split at he
 ·rename_i u hu
  split at he
  ·rename_i hf
   obtain⟨⟨b,e'⟩,Uk,N2⟩:=Option.bind_eq_some_iff.1 he
   cases b with
   |false=>cases N2
   |true =>
   cases N2
   have DS:keyOf Sg f (vs++cap)%1000=f:=by rw[uF];exact Nat.mod_eq_of_lt hf
   have hx:fR P f u:=by rw[←DS];exact hX _ _ _ XQ hu
   rw[DS]at A9
   refine⟨f,us.toArray++ws,by rw[hex ws rfl];exact iu A9 _,?_⟩
   rw[LA]
   exact hx g hB aZ hN aR mf j8 A3 Uk
  ·cases he
 split at he
 ·rename_i i0 qO Cs
  split at he
  ·rename_i JG
   simp only[Bool.and_eq_true,List.isEmpty_iff]at JG
   obtain⟨rfl,_⟩:=JG
   split at he
   rotate_left
   ·cases he
   rename_i x b hx hb pj
   obtain⟨y,hy,he⟩:=Option.bind_eq_some_iff.1 he
   simp only[K4,Bool.and_eq_true,decide_eq_true_eq]at Cs
   obtain⟨_,_,⟨hlen,hf⟩,_⟩:=Cs
   have Ay:=(hF _ _ _ _ XQ hy).zero (DQ hb)
   have DS:keyOf Sg f (vs++cap)%1000=f:=by rw[uF];exact Nat.mod_eq_of_lt hf
   rw[DS]at A9
   have YJ:∀j,j<gg.rs.length+16→N (id+128+j):=fun j hj=>by rw[Nat.add_assoc];exact hN _ (by omega)
   refine⟨f,us.toArray++ws,by rw[hex ws rfl];exact iu A9 _,?_⟩
   rw[LA]
   unfold T9 at Ay
   rw[DS]at Ay
   by_cases pf:oR (vs++cap)=true
   ·rw[pf,Bool.or_true]at he
    cases he
    have h1:ai Z FV fk w (A5 gg x) (us++ws.toList):=xZ gs (fun _ h=>h) gg.ps 0 _ _ x (fun v hv i b hi _ _=>(pn pf v hv i hi).elim) qO hx Cr
    refine(Ay Z w _ g.iS h1).mono fun en w' ⟨v,Z',ψ',e1,h2,h3,h4,h5,h6⟩=>?_
    obtain⟨r8,n,hr⟩:=uG (nb:=id) pj g hB aR YJ h4 h2 h3 h5 h6
    exact⟨v,Z',r8,e1,n,hr⟩
   ·cases XR:gg.rs.all RK.flat with
    |true =>
     rw[XR,Bool.true_or]at he
     cases he
     let Zc:Nat→Prop:=fun b=>b<w.heap.size
     have h1:ai Zc FV fk w (A5 gg x) (us++ws.toList):=xZ gs g.iS gg.ps 0 _ _ x (fun v hv i b hi h1 h2=>gs.bA ⟨i,h1,h2⟩) qO hx Cr
     refine(Ay Zc w _ (fun _ h=>h) h1).mono fun en w' ⟨v,Z',ψ',e1,h2,h3,h4,h5,h6⟩=>?_
     have Ul:=Jy gg.rs 3000 y.1 XR pj
     have h7:ar Z ψ' (ag gg.rs 3000 y.1).get w' (dQ (aJ gg.rs [] 2000 3000 y.1)) v:=rX rfl (fun vs qe=>Ls gg.rs XR pj qe) h6
     have gz:Good Z ψ' (ag gg.rs 3000 y.1).get w' w.heap.size (fun _=>False):=by
      rw[Ul]
      exact⟨fun _ _ _ hb=>by simp[Heap.get]at hb,fun _ _ _ hb=>by simp[Heap.get]at hb,fun _ _ hb=>by simp[Heap.get]at hb,fun _ _ _ hb=>by simp[Heap.get]at hb,fun b hb=>Nat.lt_of_lt_of_le (g.iS b hb) h4.size⟩
     obtain⟨r8,n,hr⟩:=uG (nb:=id) pj g hB aR YJ h4 (fun _ h=>h) (fun _ h=>.inl h) gz h7
     exact⟨v,Z,r8,e1,n,hr⟩
    |false =>
     rw[XR,Bool.false_or,Bool.eq_false_iff.2 pf]at he
     cases he
     have heq:=mf _ _ rfl
     subst heq
     let cs:=cU gg.ps (vs++cap)
     have OF:∀b,oL Z ψ hh.get cs b→Z b∨Own ψ hh.get b:=fun b hb=>hb.imp (fun h=>h) (fun⟨i,_,h2,h3⟩=>⟨i,h2,h3⟩)
     have gd:Good (oL Z ψ hh.get cs) ψ (cq hh cs).get w B0 O:=gF g cs
     have h1:ai (oL Z ψ hh.get cs) FV fk w (A5 gg x) (us++ws.toList) :=
      xZ gs (fun _ h=>.inl h) gg.ps 0 _ _ x (fun v hv i b hi h1 h2=>.inr ⟨i,ta _ _ qO v hv i hi,h1,h2⟩) qO hx Cr
     refine(Ay _ w _ gd.iS h1).mono fun en w' ⟨v,Z',ψ',e1,h2,h3,h4,h5,h6⟩=>?_
     obtain⟨r8,n,hr⟩:=uG (nb:=id) pj gd hB (fun i ty cs hb=>aR i ty cs (dE _ _ _ _ hb)) YJ h4 h2 h3 h5 h6
     have e2:(bm.wr (dQ (aJ gg.rs [] id (id+128) y.1)) (ag gg.rs (id+128) y.1++cq hh (cU gg.ps (vs++cap)))).hp hh.get=(fun i=>match (ag gg.rs (id+128) y.1).get i with|some o=>some o|none=>(cq hh cs).get i):=by
      funext i
      simp only[bm.hp]
      rw[Heap.get_append]
      cases (ag gg.rs (id+128) y.1).get i<;>rfl
     rw[e2]
     exact⟨v,Z',r8,e1,n.drop (fun _ h=>.inl h) OF (dE _ _),hr⟩
  ·split at he
   rotate_left
   ·cases he
   rename_i x b hx hb Az
   obtain⟨y,hy,he⟩:=Option.bind_eq_some_iff.1 he
   rw[gQ]at he
   cases he
   have heq:=mf _ _ rfl
   subst heq
   simp only[K4,Bool.and_eq_true,decide_eq_true_eq]at Cs
   obtain⟨RH,⟨hbl,rM⟩,⟨hlen,hf⟩,Gv⟩:=Cs
   rw[Bool.and_eq_true]at Az
   have Ay:=hF _ _ _ _ XQ hy
   have DS:keyOf Sg f (vs++cap)%1000=f:=by rw[uF];exact Nat.mod_eq_of_lt hf
   rw[DS]at A9
   refine⟨f,us.toArray++ws,by rw[hex ws rfl];exact iu A9 _,?_⟩
   rw[LA]
   unfold A8 at Ay
   rw[DS]at Ay
   have hl:i0.length=gg.bs.length:=(iq _ _ _ hb).1
   have yi:=(iq _ _ _ hb).2
   have hle:(aE gg.bs.length).length=gg.bs.length:=by simp[aE]
   let jV:=cU gg.ps (vs++cap)++fe gg.bs hh i0
   let L1:List vI:=cc gg.bs hh i0 (aE gg.bs.length) 2000 b
   have eH1:dd L1=aX gg.bs (aE gg.bs.length) 2000 b:=im _ _ _ _ _ _ hb hle
   have eN1:L1.map (·.1)=bK gg.bs (aE gg.bs.length) 2000:=fZ _ _ _ _ _ _ hb hle
   have eS1:L1.filterMap (·.2.1)=cF gg.bs hh i0:=jz _ _ _ _ _ _ hb hle
   have Tt:bP (L1.map (·.1))=true:=by rw[eN1];exact DR Gv
   have RD:=wK (ψ:=ψ) Tt
   have FY:=(qn Az.1).2 hh
   have vE:∀b,Z b→oL Z ψ hh.get jV b:=fun b hb=>.inl hb
   have Um:∀e∈L1,s6 (oL Z ψ hh.get jV) ψ (cq hh jV).get w (dd L1).get (dN ψ L1) e:=fun e he =>
    kK gs vE gg.bs _ _ 2000 b hb (fun i b bw h1 h2=>.inr ⟨i,List.mem_append_right _ bw,h1,h2⟩) FY RD e he
   have gin:Good (oL Z ψ hh.get jV) (dN ψ L1) (dd L1).get w B0 O:=uE gs Az.1 Tt eS1 Um
   have YK:(dd L1).get=nJ gg (x,b):=by rw[eH1];rfl
   have LB:∀p∈i0.zip (aE gg.bs.length),(p.2,some p.1)∈L1.map (fun e=>(e.1,e.2.1)):=fun p hp=>by
    obtain⟨o,ho⟩:=jA (hh:=hh) gg.bs i0 (aE gg.bs.length) 2000 b hl p hp
    exact List.mem_map.2 ⟨_,ho,rfl⟩
   have Un:∀p∈i0.zip (aE gg.bs.length),dN ψ L1 p.2=ψ p.1:=fun p hp=>by
    obtain⟨⟨i,s,o⟩,ho,he⟩:=List.mem_map.1 (LB p hp)
    cases he
    exact gO Tt ho
   have RL:ai (oL Z ψ hh.get jV) (dN ψ L1) (dd L1).get w (Co gg (x,b)) (us++ws.toList) :=
    kr gs vE gg.ps i0 (aE gg.bs.length) 0 _ _ x (by rw[hle,hl]) qO hx (fun i b bw h1 h2=>.inr ⟨i,List.mem_append_left _ bw,h1,h2⟩)
     (fun p hp=>⟨yi _ (List.of_mem_zip hp).1,fun _=>Un p hp⟩) Cr
   have rO:∀c,Own (dN ψ L1) (nJ gg (x,b)) c→∃s,s∈cF gg.bs hh i0∧hh.get s≠none∧ob (ψ s)=some c:=fun c ⟨i,h1,h2⟩=>by
    rw[←YK]at h1
    obtain⟨o,ho⟩:=Option.ne_none_iff_exists'.1 h1
    obtain⟨s,hm⟩:=mC ho
    rw[gO Tt hm]at h2
    cases s with
    |none=>simp[iY,ob]at h2
    |some s =>
     have hs:s∈cF gg.bs hh i0:=by rw[←eS1];exact List.mem_filterMap.2 ⟨_,hm,rfl⟩
     refine⟨s,hs,?_,h2⟩
     have h3:=Um _ hm
     rw[←FY s hs]
     cases o with
     |box ty cs=>obtain⟨⟨YA,h4⟩,_⟩:=h3;rw[h4];simp
     |own ok xs=>rw[show(cq hh jV).get s=some (.own ok xs) from h3];simp
   refine(Ay (oL Z ψ hh.get jV) (dN ψ L1) w (us++ws.toList) (by rw[←YK];exact gin.Cq _) (by rw[←YK];exact RL)).mono fun en w' ⟨v,Z',dB,e1,h2,h3,h4,h5,h6,h7⟩=>?_
   obtain⟨L2,Uo,eN2,g3,T2,RM⟩:=JD (x:=(x,b)) (y:=y) (id:=id) hl RH Gv Az.2 h5 h7
   have RI:∀i ty cs,(dd L2).get i=some (.box ty cs)→au (fun j=>(dd L2).get j≠none) cs:=fun i ty cs hg=>by
    have iw:=get_mem hg
    rw[Uo]at iw
    rcases List.mem_append.1 iw with iw|iw
    ·exact ri gg.bs _ id y.2 (fun e he=>by rw[Uo];exact wO (o:=e.2) (List.mem_append_left _ he)) i ty cs iw
    ·exfalso
     have:∀(rs:List RK) (m:Nat) (y:kD rs),(i,Ob.box ty cs)∉ag rs m y:=by
      intro rs
      induction rs with
      |nil=>intro m y;simp[ag]
      |cons r rs ih =>
       intro m y
       cases r with
       |agg c=>simp only[ag,List.mem_append,not_or];exact⟨lJ _ _ _ _ _ _,ih (m+1) y.2⟩
       |val k=>exact ih (m+1) y.2
       |dM _ _=>exact ih (m+1) y.2
       |own ok=>simp only[ag,List.mem_cons,not_or];exact⟨by simp,ih (m+1) y.2⟩
     exact this _ _ _ iw
   have Up:∀i,(dd L2).get i≠none→(i∈cF gg.bs hh i0∧hh.get i≠none∧dN dB L2 i=ψ i)∨N i:=fun i hi=>by
    obtain⟨o,ho⟩:=Option.ne_none_iff_exists'.1 hi
    obtain⟨s,hm⟩:=mC ho
    have iw:i∈bK gg.bs i0 id++aY gg.rs (id+128):=by rw[←eN2];exact List.mem_map.2 ⟨_,hm,rfl⟩
    have hNr:∀i,id≤i→i<id+256→N i:=fun i h1 h2=>by
     have:=hN (i-id) (by omega)
     rwa [show id+(i-id)=i by omega]at this
    rcases List.mem_append.1 iw with iw|iw
    ·rcases td _ _ _ _ rM iw with h8|h8
     ·refine .inl ⟨vR _ _ _ hl h8,yi i h8,?_⟩
      obtain⟨ee,h9,l8⟩:=Ly (by rw[hle,hl]) i h8
      rw[T2 (ee,i) l8]
      have wo:ee∈aE gg.bs.length:=(List.of_mem_zip l8).1
      rw[h6 ee wo]
      exact Un (i,ee) h9
     ·exact .inr (hNr i h8.1 (by omega))
    ·have h8:=iv _ _ _ RH iw
     exact .inr (hNr i (by omega) (by omega))
   obtain⟨yh,h8,nx⟩:=JE (N:=N) gs hB FY aR rO h2 h3 h4 g3 RI Up
   have eH3:(bm.wr (dQ (aJ gg.rs i0 id (id+128) y.1)) (aX gg.bs i0 id y.2++(ag gg.rs (id+128) y.1++fW (cq hh (cU gg.ps (vs++cap)++fe gg.bs hh i0)) (cF gg.bs hh i0)))).hp hh.get =
     (dd L2++fW (cq hh jV) (cF gg.bs hh i0)).get:=by
    rw[Uo,List.append_assoc];rfl
   rw[eH3]
   refine⟨v,Z',yh,e1,nx,?_⟩
   refine RM.move (p:=fun j=>(dd L2).get j≠none) (fun _ h=>h) (b5.refl _ _) (fun j hp _=>⟨hp,h8 j hp⟩) ?_
   refine Gx (jD hl gg.rs _ id (id+128) y.1 RH (fun i hi=>?_) fun i hi=>?_)
   ·rw[←eL gg.rs (id+128) y.1]at hi
    obtain⟨e,he,rfl⟩:=List.mem_map.1 hi
    rw[Uo];exact wO (o:=e.2) (List.mem_append_right _ he)
   ·rw[←kP gg.bs i0 id y.2 hl]at hi
    obtain⟨e,he,rfl⟩:=List.mem_map.1 hi
    rw[Uo];exact wO (o:=e.2) (List.mem_append_left _ he)
 ·cases he
end Go.Vs
namespace Go.Vs
variable {P:Program} {Eqs:TypeId→Option K} {Sg:FuncId→Option aK} {F:(f:FuncId)→(g:aK)→g.A→Option g.B} {R:Type} {k:bm→Option R}
theorem bB{c:Bool}{e:bm}:cond c (k e) none=(cond c (some e) none).bind k:=by cases c<;>rfl
theorem br{c:Bool}{e:bm}:cond c none (k e)=(cond c none (some e)).bind k:=by cases c<;>rfl
theorem bu{c:Bool}{e e':bm}:cond c (k e) (k e')=(cond c (some e) (some e')).bind k:=by cases c<;>rfl
theorem bC{α:Type}(o:Option α)(f:α→Option R)(g:α→Option bm)(h:∀x,f x=(g x).bind k):o.bind f=(o.bind g).bind k:=by cases o with
 |none=>rfl
 |some x=>exact h x
theorem Gz{h:Heap}{id:Nat}{t:TypeId}{s x:AV}:mu P h id t s x k=(mu P h id t s x some).bind k:=by unfold mu;repeat' (first|rfl|exact bB|exact br | exact bu|(refine bC _ _ _ (fun _=>?_))|split)
theorem JH{h:Heap}{t:TypeId}{s x:AV}:pZ P h t s x k=(pZ P h t s x some).bind k:=by unfold pZ;repeat' (first|rfl|exact bB|exact br | exact bu|(refine bC _ _ _ (fun _=>?_))|split)
theorem LC{h:Heap}{t:TypeId}{s:AV}:kE P h t s k=(kE P h t s some).bind k:=by unfold kE;repeat' (first|rfl|exact bB|exact br | exact bu|(refine bC _ _ _ (fun _=>?_))|split)
theorem AA{h:Heap}{t:TypeId}{s x:AV}:c7 P h t s x k=(c7 P h t s x some).bind k:=by unfold c7;repeat' (first|rfl|exact bB|exact br | exact bu|(refine bC _ _ _ (fun _=>?_))|split)
theorem LD{x:AV}{lo hi mx:Option AV}:ui x lo hi mx k=(ui x lo hi mx some).bind k:=by unfold ui;repeat' (first|rfl|exact bB|exact br | exact bu|(refine bC _ _ _ (fun _=>?_))|split)
theorem JI{h:Heap}{sz:Nat}{x:AV}{lo hi mx:Option AV}:ni h sz x lo hi mx k=(ni h sz x lo hi mx some).bind k:=by unfold ni;repeat' (first|rfl|exact bB|exact br | exact bu|(refine bC _ _ _ (fun _=>?_))|split)
theorem OW{h:Heap}{x:AV}:AP h x k=(AP h x some).bind k:=by unfold AP;repeat' (first|rfl|exact bB|exact br | exact bu|(refine bC _ _ _ (fun _=>?_))|split)
theorem OX{op:BinOp}{t:TypeId}{x y:AV}:vv P Eqs op t x y k=(vv P Eqs op t x y some).bind k:=by unfold vv;repeat' (first|rfl|exact bB|exact br | exact bu|(refine bC _ _ _ (fun _=>?_))|split)
theorem DT(rs:List RK)(x:kD rs)(f:kD rs→Option R)(g:kD rs→Option bm)(h:∀z,f z=(g z).bind k):iQ rs x f=(iQ rs x g).bind k:=by rw[gQ,gQ];exact h x
theorem LF{h:Heap}{id:Nat}{f:FuncId}{vs:List AV}:ig Sg F h id f vs k=(ig Sg F h id f vs some).bind k:=by unfold ig;repeat' (first|rfl|exact bB|exact br | exact bu|(refine bC _ _ _ (fun _=>?_))|(refine DT _ _ _ _ (fun _=>?_))|split)
theorem LG{id:Nat}{t:TypeId}{vs:List AV}:uo id t vs k=(uo id t vs some).bind k:=rfl
theorem JJ{t:TypeId}{ps:List (Nat×AV)}:p7 P t ps k=(p7 P t ps some).bind k:=by unfold p7;repeat' (first|rfl|exact bB|exact br | exact bu|(refine bC _ _ _ (fun _=>?_))|split)
theorem Ct{h:Heap}{id:Nat}{t:TypeId}{n:Nat}{ps:List (Nat×AV)}:sF P h id t n ps k=(sF P h id t n ps some).bind k:=by unfold sF;repeat' (first|rfl|exact bB|exact br | exact bu|(refine bC _ _ _ (fun _=>?_))|split)
theorem LH{jV:Bool}{h:Heap}{id:Nat}{t:TypeId}{n:Nat}{ps:List (Nat×AV)}:uq P jV h id t n ps k=(uq P jV h id t n ps some).bind k:=by
 unfold uq
 rw[Ct,Ct (k:=fun e=>some (if jV then Ox e else e)),Option.bind_assoc]
 rfl
theorem LI{s d:TypeId}{x:AV}:xt P s d x k=(xt P s d x some).bind k:=by unfold xt;repeat' (first|rfl|exact bB|exact br | exact bu|(refine bC _ _ _ (fun _=>?_))|split)
theorem RN{b:Bool}{vs:List AV}:Jf b vs k=(Jf b vs some).bind k:=by unfold Jf;repeat' (first|rfl|exact bB|exact br | exact bu|(refine bC _ _ _ (fun _=>?_))|split)
theorem LJ{h:Heap}{x:AV}:uj h x k=(uj h x some).bind k:=by unfold uj;repeat' (first|rfl|exact bB|exact br | exact bu|(refine bC _ _ _ (fun _=>?_))|split)
theorem DU{id:Nat}{t:TypeId}:kq P Eqs id t k=(kq P Eqs id t some).bind k:=by unfold kq;repeat' (first|rfl|exact bB|exact br | exact bu|(refine bC _ _ _ (fun _=>?_))|split)
theorem GA{h:Heap}{t:TypeId}{m i:AV}{ok:Bool}:mv P Eqs h t m i ok k=(mv P Eqs h t m i ok some).bind k:=by unfold mv;repeat' (first|rfl|exact bB|exact br | exact bu|(refine bC _ _ _ (fun _=>?_))|split)
theorem GB{h:Heap}{t:TypeId}{m i v:AV}:gN P Eqs h t m i v k=(gN P Eqs h t m i v some).bind k:=by unfold gN;repeat' (first|rfl|exact bB|exact br | exact bu|(refine bC _ _ _ (fun _=>?_))|split)
theorem GC{h:Heap}{t:TypeId}{m i:AV}:mw P Eqs h t m i k=(mw P Eqs h t m i some).bind k:=by unfold mw;repeat' (first|rfl|exact bB|exact br | exact bu|(refine bC _ _ _ (fun _=>?_))|split)
theorem GD{id:Nat}{t:TypeId}{x:AV}:my P id t x k=(my P id t x some).bind k:=by unfold my;repeat' (first|rfl|exact bB|exact br | exact bu|(refine bC _ _ _ (fun _=>?_))|split)
theorem JK{h:Heap}{x:AV}:p4 h x k=(p4 h x some).bind k:=by unfold p4;repeat' (first|rfl|exact bB|exact br | exact bu|(refine bC _ _ _ (fun _=>?_))|split)
theorem JM{h:Heap}{x:AV}:p6 h x k=(p6 h x some).bind k:=by unfold p6;repeat' (first|rfl|exact bB|exact br | exact bu|(refine bC _ _ _ (fun _=>?_))|split)
theorem kt{id:Nat}{h:Heap}{s:List (Nat×AV)}{o:Oper}:cy P Eqs Sg F id h s o k=(cy P Eqs Sg F id h s o some).bind k:=by
 obtain⟨dst,op,type,pos,after,guard⟩:=o
 cases op<;>simp only[cy] <;>
  repeat' (first|rfl|exact LH|exact Gz|exact JH|exact LC|exact AA|exact LD|exact JI|exact OW|exact OX|exact LF|exact LG|exact JJ|exact Ct|exact LI|exact RN|exact LJ|exact DU|exact GA|exact GB|exact GC|exact GD|exact JK|exact JM|exact bB|(refine bC _ _ _ (fun _=>?_))|split)
theorem JN{id:Nat}{h h':Heap}{s:List (Nat×AV)}{o:Oper}(hf:lY o.op=true):cy P Eqs Sg F id h s o k=cy P Eqs Sg F id h' s o k:=by
 obtain⟨dst,op,type,pos,after,guard⟩:=o
 cases op<;>simp[lY]at hf<;>first|rfl|(rename_i u _ _;cases u<;>rfl)
theorem OY{op:BinOp}{t:TypeId}{x y:AV}{e:bm}(he:vv P Eqs op t x y some=some e):∃v,e=.val v:=by
 unfold vv at he
 repeat' (first|(cases he;done)|exact⟨_,(Option.some.inj he).symm⟩|split at he)
 all_goals
  unfold cond at he
  split at he<;>first|(cases he;done)|exact⟨_,(Option.some.inj he).symm⟩
theorem DV{id:Nat}{h:Heap}{s:List (Nat×AV)}{o:Oper}{e:bm}(hf:lY o.op=true)(he:cy P Eqs Sg F id h s o some=some e):∃v,e=.val v:=by
 obtain⟨dst,op,type,pos,after,guard⟩:=o
 cases op<;>simp only[lY]at hf<;>first|(cases hf;done)|skip
 case unOp u t x =>
  cases u<;>simp only[cy]at he<;>repeat' (first|(cases he;done)|exact⟨_,(Option.some.inj he).symm⟩|split at he)
 case makeFunc fn first cap =>
  cases fn<;>simp only[cy]at he<;>repeat' (first|(cases he;done)|exact⟨_,(Option.some.inj he).symm⟩|split at he)
 all_goals simp only[cy]at he
 case binOp=>exact OY he
 case slice =>
  repeat' (first|(cases he;done)|split at he)
  all_goals
   first|unfold ui at he|unfold ni at he
   repeat' (first|(cases he;done)|exact⟨_,(Option.some.inj he).symm⟩|split at he)
   all_goals
    unfold cond at he
    split at he<;>first|(cases he;done)|exact⟨_,(Option.some.inj he).symm⟩
 case build =>
  unfold p7 at he
  repeat' (first|(cases he;done)|exact⟨_,(Option.some.inj he).symm⟩|split at he)
 all_goals
  repeat' (first|(cases he;done)|exact⟨_,(Option.some.inj he).symm⟩|split at he)
end Go.Vs
namespace Go.Vs
variable {P:Program} {Eqs:TypeId→Option K} {Sg:FuncId→Option aK} {F:(f:FuncId)→(g:aK)→g.A→Option g.B} {R:Type}
variable {Z Z' Z0:Nat→Prop} {ψ ψ' ψ0:Nat→Value} {h h':Hp} {w w' w0:World} {B0:Nat} {O N:Nat→Prop}
structure Env(P:Program)(Eqs:TypeId→Option K)(Sg:FuncId→Option aK)(F:(f:FuncId)→(g:aK)→g.A→Option g.B):Prop where
 eqs:∀t k,Eqs t=some k→kH P t k
 con:∀f g x y,Sg f=some g→F f g x=some y→A8 P f g x y
 spec:∀f g u,Sg f=some g→g.x=some u→fR P (f%1000) u
 DW:∀f g,Sg f=some g→ir P (f%1000)
theorem DX{s:List (Nat×AV)}{ρC:Operand→Value}:∀(l:List Operand),(∀x∈l,ar Z ψ h w (ρ s x) (ρC x))→ai Z ψ h w (l.map (ρ s)) (l.map ρC)
 |[],_=>by simp[ai]
 |x::r,hx=>by
  simp only[List.map_cons,ai]
  exact⟨_,_,rfl,hx x List.mem_cons_self,DX r fun y hy=>hx y (List.mem_cons_of_mem _ hy)⟩
theorem Ba{s:List (Nat×AV)}{p:Nat→Prop}:∀(l:List Operand),(∀x∈l,aA p (ρ s x))→au p (l.map (ρ s))
 |[],_=>by simp[au]
 |x::r,hx=>by
  simp only[List.map_cons,au]
  exact⟨hx x List.mem_cons_self,Ba r fun y hy=>hx y (List.mem_cons_of_mem _ hy)⟩
theorem Qy(E:Env P Eqs Sg F){hh:Heap}{a:Act}{s:List (Nat×AV)}{o:Oper}(g:Good Z ψ h w B0 O)(hB:B0≤w.heap.size)(aZ:∀id o,hh.get id=some o→h id=some o){id:Nat}(hN:makes o.op=true→∀j,j<256→N (id+j)){e:bm}
  (ml:∀x∈o.op.operands,ar Z ψ h w (ρ s x) (a.eval x)) (hm:∀x∈o.op.operands,aA (fun i=>¬N i) (ρ s x)) (aR:∀i ty cs,h i=some (.box ty cs)→au (fun i=>¬N i) cs) (mf:∀v hw,e=.wr v hw→hh.get=h)
  (he:cy P Eqs Sg F id hh s o some=some e) {next:Act→World→Prop} {Q:Exit→Act→World→Prop}
  (hk:∀V w' Z' ψ',Next Z ψ h w B0 O N Z' ψ' (e.hp h) w'→ar Z' ψ' (e.hp h) w' e.v V→next (a.put o.dst V) w'):o.wp P a w next Q:=by
 have d:fY P a.eval o Z ψ h w B0 O N e∨Qw P a.eval o Z ψ h w B0 O N e:=by
  cases FU:s5 o with
  |false=>exact .inl (Ln E.eqs g hB aZ (fun hm=>by simpa using hN hm 0 (by decide)) ml hm aR mf FU he)
  |true =>
   refine .inr ?_
   obtain⟨dst,op,type,pos,after,guard⟩:=o
   cases op<;>simp[s5]at FU
   rename_i c
   obtain⟨callee,args,argTypes⟩:=c
   cases callee<;>simp at FU
   rename_i fo
   simp only[cy]at he
   split at he
   ·rename_i f cap hf
    simp only[Op.operands,Call.operands]at ml
    have h1:=ml fo (by simp)
    rw[hf]at h1
    have h2:ai Z ψ h w (args.toList.map (ρ s)) (args.toList.map a.eval):=DX _ fun x hx=>ml x (by simp;exact .inr (by simpa using hx))
    have YL:=hm fo (by simp[Op.operands,Call.operands])
    rw[hf]at YL
    simp only[aA]at YL
    have hma:au (fun i=>¬N i) (args.toList.map (ρ s)):=Ba _ fun x hx=>hm x (by simp[Op.operands,Call.operands];exact .inr (by simpa using hx))
    refine Gy E.spec E.con E.DW g hB aZ (hN rfl) aR mf h1 h2 (nL hma YL) (fun ws RJ=>?_) he
    simp only[execOp,resolve,RJ,Deferred.ofValue]
    simp only[pure_bind,invoke]
    congr 1
    apply Array.ext'
    simp
   ·cases he
 unfold Oper.wp
 rcases d with⟨V,w',Z',ψ',h1,h2,h3⟩|⟨f,args,h1,h2⟩
 ·rcases h1 with h1|⟨h1,rfl⟩
  ·rw[h1];exact hk V w' Z' ψ' h2 h3
  ·rw[h1];exact hk undef w' Z' ψ' h2 h3
 ·rw[h1,Oper.upon_enter]
  refine h2.mono fun en w' ⟨V,Z',ψ',e1,n,hr⟩=>?_
  subst e1
  exact hk V w' Z' ψ' n hr
structure Ok(Z0:Nat→Prop)(w0:World)(O:Nat→Prop)(ψ0:Nat→Value)(Z:Nat→Prop)(ψ:Nat→Value)(h:Hp)(w:World):Prop where
 dx:Good Z ψ h w w0.heap.size O
 eR:∀b,Z0 b→Z b
 dJ:∀b,Z b→Z0 b∨O b∨w0.heap.size≤b
 os:w.os=w0.os
 tape:w.tape=w0.tape
 output:w.output=w0.output
 size:w0.heap.size≤w.heap.size
 block:∀b,b<w0.heap.size→¬O b→w.heap[b]? = w0.heap[b]?
 fix:∀i,i<2000→h i≠none→ψ i=ψ0 i
theorem Ok.next(k:Ok Z0 w0 O ψ0 Z ψ h w)(hN:∀id,N id→2000≤id)(n:Next Z ψ h w w0.heap.size O N Z' ψ' h' w'):Ok Z0 w0 O ψ0 Z' ψ' h' w':=by
 have own:∀b,Own ψ h b→w0.heap.size≤b∨O b:=fun b ⟨id,h1,h2⟩=>(k.dx.live id b h1 h2).2
 refine⟨n.dx,fun b hb=>n.eR b (k.eR b hb),fun b hb=>?_,n.keep.os.trans k.os,n.keep.tape.trans k.tape,n.keep.output.trans k.output,Nat.le_trans k.size n.keep.size,fun b hb ho=>?_,fun i hi aU=>?_⟩
 ·rcases n.dJ b hb with h1|h1|h1
  ·exact k.dJ b h1
  ·exact .inr (own b h1).symm
  ·exact .inr (.inr (Nat.le_trans k.size h1))
 ·rw[n.keep.block b (Nat.lt_of_lt_of_le hb k.size) (fun h1=>(own b h1).elim (fun h2=>by omega) ho)]
  exact k.block b hb ho
 ·rcases n.ids i aU with⟨h1,h2⟩|h1
  ·rw[h2];exact k.fix i hi h1
  ·have:=hN i h1;omega
structure cw(Z:Nat→Prop)(ψ:Nat→Value)(h:Hp)(w:World)(n:Nat)(T:Nat→AV)(a:Act):Prop where
 rep:∀d,ar Z ψ h w (T d) (a.tmps.getD d undef)
 size:a.tmps.size=n
 defers:a.defers=[]
theorem JO:ar Z ψ h w (.lW []) undef:=by simp only[ar,ai];exact⟨#[],rfl,rfl⟩
def hP(T:Nat→AV)(d:Option Tmp)(v:AV):Nat→AV:=match d with
 |some d=>dy T d v
 |none=>T
theorem gj(st:St)(d:Option Tmp)(v:AV):look (st.put d v).tmps=hP (look st.tmps) d v:=by
 cases d with
 |none=>rfl
 |some d =>
  funext i
  simp only[St.put,look,hP,dy]
  by_cases e:i=d
  ·subst e;simp
  ·rw[if_neg (fun x=>e x.symm),if_neg e]
theorem cK(st:St)(d:Option Tmp)(v:AV):(st.put d v).heap=st.heap:=by cases d<;>rfl
theorem Bb{T:List (Nat×AV)}{d:Nat}{v:AV}(hv:look T d=v):dy (look T) d v=look T:=by
 funext i
 unfold dy
 split
 ·rename_i e;subst e;exact hv.symm
 ·rfl
theorem gk{a:Act}{d:Nat}{v:Value}(hd:d<a.tmps.size)(i:Nat):(a.put (some d) v).tmps.getD i undef=if i=d then v else a.tmps.getD i undef:=by
 simp only[Act.put]
 by_cases e:i=d
 ·subst e;simp[hd]
 ·simp[e,Array.getElem?_setIfInBounds_ne (Ne.symm e)]
theorem b6(a:Act)(d:Option Tmp)(v:Value):(a.put d v).tmps.size=a.tmps.size:=by cases d<;>simp[Act.put]
theorem put_defers(a:Act)(d:Option Tmp)(v:Value):(a.put d v).defers=a.defers:=by cases d<;>rfl
theorem cw.put{n:Nat}{T:Nat→AV}{a:Act}{o:Oper}{x:AV}{V:Value}(t:cw Z ψ h w n T a)(hd:gx n o=true)(hx:ar Z ψ h w x V):cw Z ψ h w n (hP T o.dst x) (a.put o.dst V):=by
 refine⟨fun d=>?_,by rw[b6];exact t.size,by rw[put_defers];exact t.defers⟩
 unfold gx at hd
 split at hd
 ·rename_i d0 YM
  rw[YM]
  rw[gk (by rw[t.size];simpa using hd)]
  simp only[hP,dy]
  split
  ·exact hx
  ·exact t.rep d
 ·rename_i YM
  rw[YM];exact t.rep d
theorem cw.next{n:Nat}{T:Nat→AV}{a:Act}(t:cw Z ψ h w n T a)(g:Good Z ψ h w B0 O)(hn:Next Z ψ h w B0 O N Z' ψ' h' w')(hm:∀d,aA (fun i=>¬N i) (T d)):cw Z' ψ' h' w' n T a :=
 ⟨fun d=>hn.rep g (hm d) (t.rep d),t.size,t.defers⟩
theorem pw{n:Nat}{s:List (Nat×AV)}{a:Act}(t:cw Z ψ h w n (look s) a)(x:Operand):ar Z ψ h w (ρ s x) (a.eval x):=by
 cases x with
 |tmp i=>exact t.rep i
 |const v=>exact DB v
 |global g=>simp only[ρ,ar]
 |func f=>simp only[ρ,ar,ai,Act.eval];exact⟨#[],rfl,rfl⟩
theorem yj(p:Nat→Prop)(v:Value):aA p (rH v):=by
 cases v with
 |agg cs=>simp only[rH,aA];exact uC p _
 |_=>simp only[rH];exact xY p _
theorem JP{p:Nat→Prop}{s:List (Nat×AV)}(hm:∀d,aA p (look s d))(x:Operand):aA p (ρ s x):=by
 cases x with
 |tmp i=>exact hm i
 |const v=>exact yj p v
 |global g=>simp only[ρ,aA]
 |func f=>simp only[ρ,aA,au]
def lu(rid:Nat)(S:Nat→Prop)(id:Nat):Prop:=id / 32768=rid+1→S (id / 256%128)
def Of(rid i id:Nat):Prop:=id / 256=(rid+1)*128+i
theorem Of.parts{rid i id:Nat}(hi:i<128)(h:Of rid i id):id / 32768=rid+1∧id / 256%128=i:=by
 unfold Of at h
 constructor<;>omega
theorem Of.of{rid i id:Nat}(h:id / 32768=rid+1)(hi:id / 256%128=i):Of rid i id:=by
 unfold Of;omega
theorem H8{rid i j:Nat}(hj:j<256):Of rid i (opId rid i+j):=by
 unfold Of opId;omega
theorem DY{rid i:Nat}:Of rid i (opId rid i):=by unfold Of opId;omega
theorem lu.yk{rid i id:Nat}{S:Nat→Prop}(hi:i<128)(hs:¬S i)(h:lu rid S id):¬Of rid i id:=fun ho=>by
 obtain⟨h1,h2⟩:=ho.parts hi
 have:=h h1
 rw[h2]at this
 exact hs this
theorem mF{rid bits id:Nat}{S:Nat→Prop}(hb:∀j,bits.testBit j=true→S j)(h:oW rid bits id=true):lu rid S id:=fun h1=>by
 unfold oW at h
 simp only[Bool.or_eq_true,bne_iff_ne,ne_eq]at h
 exact hb _ (h.resolve_left (fun h2=>h2 h1))
mutual
theorem nM{rid bits:Nat}{S:Nat→Prop}(hb:∀j,bits.testBit j=true→S j):∀{v:AV},qV rid bits v=true→aA (lu rid S) v
 |.ref id s i off,h=>by simp only[qV]at h;simp only[aA];exact mF hb h
 |.bp id,h=>by simp only[qV]at h;simp only[aA];exact mF hb h
 |.fn f cap,h=>by simp only[qV]at h;simp only[aA];exact kR hb h
 |.agg cs,h=>by simp only[qV]at h;simp only[aA];exact kR hb h
 |.lW cs,h=>by simp only[qV]at h;simp only[aA];exact kR hb h
 |.no,_=>by simp only[aA]
 |.bool _,_=>by simp only[aA]
 |.int _ _,_=>by simp only[aA]
 |.str _,_=>by simp only[aA]
 |.kb,_=>by simp only[aA]
 |.eY,_=>by simp only[aA]
 |.fp _ _ _,_=>by simp only[aA]
 |.sl _ _ _,_=>by simp only[aA]
 |.mp _ _ _,_=>by simp only[aA]
theorem kR{rid bits:Nat}{S:Nat→Prop}(hb:∀j,bits.testBit j=true→S j):∀{v:List AV},xw rid bits v=true→au (lu rid S) v
 |[],_=>by simp only[au]
 |v::r,h=>by
  simp only[xw,Bool.and_eq_true]at h
  simp only[au]
  exact⟨nM hb h.1,kR hb h.2⟩
end
theorem kS{rid bits:Nat}{S:Nat→Prop}(hb:∀j,bits.testBit j=true→S j):∀{hh:Heap},vx rid bits hh=true→∀id o,hh.get id=some o→lu rid S id∧∀ty cs,o=.box ty cs→au (lu rid S) cs
 |[],_,id,o,hg=>by simp[Heap.get]at hg
 |(i,ob)::r,h,id,o,hg=>by
  simp only[Heap.get]at hg
  split at hg
  ·rename_i e
   subst e
   cases hg
   cases ob with
   |box ty cs =>
    simp only[vx,Bool.and_eq_true]at h
    exact⟨mF hb h.1.1,fun wi cs' he=>by cases he;exact kR hb h.1.2⟩
   |own ok xs =>
    simp only[vx,Bool.and_eq_true]at h
    exact⟨mF hb h.1,fun wi cs' he=>by cases he⟩
  ·refine kS hb ?_ id o hg
   cases ob<;>simp only[vx,Bool.and_eq_true]at h<;>exact h.2
def bm.heap(e:bm)(h:Heap):Heap:=match e with
 |.wr _ h'=>h'
 |e=>e.h h
theorem bm.DZ(e:bm)(hh:Heap):(e.heap hh).get=e.hp hh.get:=by
 cases e with
 |val v=>rfl
 |new v os=>funext i;simp only[bm.heap,bm.h,bm.hp];rw[Heap.get_append];cases Heap.get os i<;>rfl
 |wr v h'=>rfl
def rj(p:Nat→Prop)(h:Hp):Prop:=∀i ty cs,h i=some (.box ty cs)→au p cs
theorem yl{ops:Array Oper}{o:Oper}{n:Nat}{T:Nat→AV}{a:Act}(t:cw Z ψ h w n T a){j d:Nat}{want:Bool}(hg:o.guard=some (j,want))(hd:(ops[j]?).bind (·.dst)=some d){b:Bool}(hb:T d=.bool b) :
  Region.wanted o (yielded ops a.tmps)=(b==want):=by
 have h1:=t.rep d
 rw[hb]at h1
 simp only[ar]at h1
 have h2:a.tmps[d]? = some (.bool b):=by
  rw[Array.getD_eq_getD_getElem?]at h1
  cases e:a.tmps[d]? with
  |none=>rw[e]at h1;simp[undef]at h1
  |some v=>rw[e]at h1;simpa using h1
 unfold Region.wanted yielded
 rw[hg]
 simp only[hd,Option.bind_some,h2]
 cases b<;>cases want<;>rfl
theorem vT{ops:Array Oper}{o:Oper}{n:Nat}{T:Nat→AV}{a:Act}(t:cw Z ψ h w n T a){j d:Nat}{want:Bool}(hg:o.guard=some (j,want))(hd:(ops[j]?).bind (·.dst)=some d){vs:List AV}(hb:T d=.lW vs) :
  Region.wanted o (yielded ops a.tmps)=false:=by
 have h1:=t.rep d
 rw[hb]at h1
 simp only[ar]at h1
 obtain⟨us,h1,_⟩:=h1
 unfold Region.wanted yielded
 rw[hg]
 simp only[hd,Option.bind_some]
 rw[Array.getD_eq_getD_getElem?]at h1
 cases e:a.tmps[d]? with
 |none=>rfl
 |some v=>rw[e]at h1;simp at h1;subst h1;rfl
def ym(ops:Array Oper):Nat→List (Nat×Oper)→Prop
 |_,[]=>True
 |i,(j,o)::r=>j=i∧ops[i]? = some o∧ym ops (i+1) r
theorem D0(ops:Array Oper):∀(l:List Oper) (i:Nat),(∀k o,l[k]? = some o→ops[i+k]? = some o)→ym ops i ((l.zipIdx i).map fun p=>(p.2,p.1))
 |[],_,_=>by simp[ym]
 |o::r,i,h=>by
  simp only[List.zipIdx_cons,List.map_cons,ym]
  exact⟨trivial,h 0 o rfl,D0 ops r (i+1) fun k o' hk=>by rw[Nat.add_assoc,Nat.add_comm 1 k];exact h (k+1) o' hk⟩
theorem mG(ops:Array Oper):ym ops 0 (ops.toList.zipIdx.map fun p=>(p.2,p.1)):=D0 ops _ 0 fun k o hk=>by simpa using hk
theorem Bc(ops:Array Oper):(ops.toList.zipIdx.map fun p=>(p.2,p.1)).map Prod.fst=List.range ops.size:=by
 rw[List.map_map]
 have:(Prod.fst ∘ fun(p:Oper×Nat)=>(p.2,p.1))=Prod.snd:=rfl
 rw[this,List.zipIdx_map_snd,List.range_eq_range',Array.length_toList]
structure J(p:Nat→Prop)(n:Nat)(Z0:Nat→Prop)(w0:World)(O:Nat→Prop)(ψ0:Nat→Value)(Z:Nat→Prop)(ψ:Nat→Value)(T:Nat→AV)(h:Hp)(a:Act)(w:World):Prop where
 ok:Ok Z0 w0 O ψ0 Z ψ h w
 tr:cw Z ψ h w n T a
 tm:∀d,aA p (T d)
 hm:rj p h
theorem J.imp{p q:Nat→Prop}{n:Nat}{T:Nat→AV}{a:Act}(j:J p n Z0 w0 O ψ0 Z ψ T h a w)(xU:∀id,p id→q id):J q n Z0 w0 O ψ0 Z ψ T h a w :=
 ⟨j.ok,j.tr,fun d=>(j.tm d).imp xU,fun id ty cs hb=>(j.hm id ty cs hb).imp xU⟩
theorem J.op(E:Env P Eqs Sg F){rid n i:Nat}{p:Nat→Prop}{T:Nat→AV}{a:Act}{s:List (Nat×AV)}{o:Oper}(hS:makes o.op=true→∀id,p id→¬Of rid i id)(j:J p n Z0 w0 O ψ0 Z ψ T h a w)(hd:gx n o=true)
  (hT:∀x∈o.op.operands,ar Z ψ h w (ρ s x) (a.eval x)) (YN:∀x∈o.op.operands,aA p (ρ s x)) {hh:Heap} (aZ:∀id o,hh.get id=some o→h id=some o) {e:bm} (he:cy P Eqs Sg F (opId rid i) hh s o some=some e) (mf:∀v hw,e=.wr v hw→hh.get=h)
  {p':Nat→Prop} (KU:∀k,p k→p' k) (hv:aA p' e.v) (RO:rj p' (e.hp h)) {next:Act→World→Prop} {Q:Exit→Act→World→Prop}
  (hk:∀a' w' Z' ψ',J p' n Z0 w0 O ψ0 Z' ψ' (hP T o.dst e.v) (e.hp h) a' w'→next a' w'):o.wp P a w next Q:=by
 have RP:∀id,p id→¬(makes o.op=true∧Of rid i id):=fun id h ⟨h1,h2⟩=>hS h1 id h h2
 refine Qy (N:=fun id=>makes o.op=true∧Of rid i id) E j.ok.dx j.ok.size aZ (id:=opId rid i) (fun hm k hk=>⟨hm,H8 hk⟩) hT (fun x hx=>(YN x hx).imp RP) (fun id ty cs hb=>(j.hm id ty cs hb).imp RP) mf he fun V w' Z' ψ' nx hr=>?_
 refine hk _ w' Z' ψ' ⟨j.ok.next (fun id h=>by have:=h.2;unfold Of at this;omega) nx,(j.tr.next j.ok.dx nx (fun d=>(j.tm d).imp RP)).put hd hr,fun d=>?_,RO⟩
 cases jZ:o.dst with
 |none=>exact(j.tm d).imp KU
 |some d0 =>
  simp only[hP,dy]
  split
  ·exact hv
  ·exact(j.tm d).imp KU
theorem J.skip{n:Nat}{p p':Nat→Prop}{T:Nat→AV}{a:Act}{o:Oper}(j:J p n Z0 w0 O ψ0 Z ψ T h a w)(hd:gx n o=true)(KU:∀k,p k→p' k) :
  J p' n Z0 w0 O ψ0 Z ψ (hP T o.dst (.lW [])) h (a.put o.dst undef) w:=by
 refine⟨j.ok,j.tr.put hd JO,fun d=>?_,fun id ty cs hb=>(j.hm id ty cs hb).imp KU⟩
 cases jZ:o.dst with
 |none=>exact(j.tm d).imp KU
 |some d0 =>
  simp only[hP,dy]
  split
  ·simp only[aA,au]
  ·exact(j.tm d).imp KU
theorem OZ{hh:Heap}(g:Good Z ψ hh.get w B0 O){m:Nat}{kk vk:K}{es:List (kk.T×vk.T)}(hg:hh.get m=some (.own (.map kk vk) es))(n:Next Z ψ hh.get w B0 O N Z' ψ' h' w')(YO:∀b,ob (ψ m)=some b→Z' b)
  (hold:∀b,b<w.heap.size→w'.heap[b]? = w.heap[b]?) {v:AV} {V:Value} (hm:aA (fun id=>¬N id) v) (hr:ar Z ψ hh.get w v V):ar Z' ψ' h' w' (wj m (.mp kk vk es) v) V:=by
 by_cases hv:v=.bp m
 ·subst hv
  simp only[wj,if_true]
  simp only[ar]at hr
  have hu:=hr.2 (by rw[hg];simp)
  obtain⟨r,bG,clock,h1,h2,h3,_⟩:=g.row m (.map kk vk) es hg
  rw[h1]at hu
  subst hu
  have aG:=(Array.getElem?_eq_some_iff.1 h2).1
  simp only[ar,ax]
  exact⟨some r,rfl,.inr ⟨r,bG,clock,rfl,YO r (by rw[h1];rfl),(hold r aG).trans h2,h3.imp (fun _ _ h=>h.mono n.eR (fun b hb=>hold b (g.iS b hb))) (fun _ _ h=>h.mono n.eR (fun b hb=>hold b (g.iS b hb)))⟩⟩
 ·have hf:wj m (.mp kk vk es) v=v:=by
   unfold wj
   split
   ·split
    ·rename_i e;subst e;exact absurd rfl hv
    ·rfl
   ·rfl
  rw[hf]
  exact n.rep g hm hr
theorem LK{p:Nat→Prop}{m:Nat}{kk vk:K}{es:List (kk.T×vk.T)}{v:AV}(hm:aA p v):aA p (wj m (.mp kk vk es) v):=by
 unfold wj
 split
 ·split
  ·simp only[aA]
  ·exact hm
 ·exact hm
theorem qp(f:AV→AV)(hf:f .no=.no):∀(l:List (Nat×AV)) (d:Nat),look (l.map fun p=>(p.1,f p.2)) d=f (look l d)
 |[],_=>by simp only[List.map_nil,look];exact hf.symm
 |(i,v)::r,d=>by
  simp only[List.map_cons,look]
  split
  ·rfl
  ·exact qp f hf r d
theorem GF{rid n i:Nat}{p p':Nat→Prop}{st dI:St}{a:Act}{o:Oper}(hS:∀id,p id→¬Of rid i id)(KU:∀k,p k→p' k)(Lu:p' (opId rid i))(j:J p n Z0 w0 O ψ0 Z ψ (look st.tmps) st.heap.get a w)(hd:gx n o=true)(mH:np P (opId rid i) st o=some dI) :
  ∃V w' Z' ψ',(execOp a.eval o).run P w=.ok (.value V) w'∧J p' n Z0 w0 O ψ0 Z' ψ' (look dI.tmps) dI.heap.get (a.put o.dst V) w':=by
 unfold np at mH
 split at mH
 ·rename_i t x Cu
  split at mH
  ·rename_i ka va m hu hx
   split at mH
   ·rename_i kk vk es hg
    cases mH
    have Tu:ar Z ψ st.heap.get w (.bp m) (a.eval x):=by rw[←hx];exact pw j.tr x
    simp only[ar]at Tu
    have hev:=Tu.2 (by rw[hg];simp)
    have g:=j.ok.dx
    obtain⟨r,bG,clock,h1,h2,h3,h4,h5⟩:=g.row m (.map kk vk) es hg
    rw[h1]at hev
    have aG:=(Array.getElem?_eq_some_iff.1 h2).1
    have gd:=gF g [.bp m]
    have Uq:∀b,ob (ψ m)=some b→oL Z ψ st.heap.get [.bp m] b:=fun b hb=>.inr ⟨m,by simp,by rw[hg];simp,hb⟩
    have hold:∀b,b<w.heap.size→(w.alloc (.mapIter (some r) clock #[] clock)).heap[b]? = w.heap[b]? := fun b hb=>heap_alloc_old w _ hb
    have hN:(Of rid i) (opId rid i):=DY
    have n1:=xS (N:=Of rid i) gd j.ok.size (opId rid i) hN (ok:=.iter kk vk) (x:=(none,es)) (v:=.pointer (some ⟨w.heap.size,0,none⟩)) (.mapIter (some r) clock #[] clock)
     ⟨w.heap.size,r,clock,#[],bG,clock,rfl,heap_alloc_new _ _,Uq r (by rw[h1];rfl),(hold r aG).trans h2,h4,rfl,h5,by
      rw[List.filter_eq_self.2 (fun e _=>by simp)]
      exact h3.imp (fun _ _ h=>h.mono (fun b hb=>.inl hb) (fun b hb=>hold b (g.iS b hb))) (fun _ _ h=>h.mono (fun b hb=>.inl hb) (fun b hb=>hold b (g.iS b hb))),trivial⟩ rfl
     (fun i' ty cs hb=>au.imp (p:=p) (q:=fun i'=>i'≠opId rid i) (fun id hp e=>hS id hp (by rw[e];exact hN)) (j.hm i' ty cs (dE _ _ _ _ hb)))
    have n2:=n1.drop (Z:=Z) (h:=st.heap.get) (fun b hb=>.inl hb) (fun b hb=>hb.imp (fun h=>h) (fun⟨id,_,h5,h6⟩=>⟨id,h5,h6⟩)) (dE _ _)
    have eC:(dy (cq st.heap [.bp m]).get (opId rid i) (some (Ob.own (.iter kk vk) (none,es))))=Heap.get ((opId rid i,.own (.iter kk vk) (none,es))::st.heap.del m):=by
     funext k
     simp only[cq,drop1,dy,Heap.get]
     by_cases e:k=opId rid i
     ·subst e;simp
     ·rw[if_neg e,if_neg (fun h=>e h.symm)]
    rw[eC]at n2
    refine⟨.pointer (some ⟨w.heap.size,0,none⟩),w.alloc (.mapIter (some r) clock #[] clock),oL Z ψ st.heap.get [.bp m],dy ψ (opId rid i) (.pointer (some ⟨w.heap.size,0,none⟩)),?_,?_⟩
    ·obtain⟨dst,op,type,pos,after,guard⟩:=o
     simp only at Cu
     subst Cu
     have cY:(Instr.range t (.map (some r))).run P w=.ok (.pointer (some ⟨w.heap.size,0,none⟩)) (w.alloc (.mapIter (some r) clock #[] clock)):=by
      simp only[Instr.range,Sem.run_bind,run_underlying hu,Result.andThen_ok,fj h2 (by simp),Sem.run_pure];rfl
     simp[execOp,hev,cY]
    ·have aR:∀d,aA (fun id=>¬Of rid i id) (look st.tmps d):=fun d=>(j.tm d).imp hS
     refine⟨by rw[cK];exact j.ok.next (fun id h=>by unfold Of at h;omega) n2,?_,fun d=>?_,fun k ty cs hb=>?_⟩
     ·rw[gj,cK]
      refine cw.put ⟨fun d=>?_,j.tr.size,j.tr.defers⟩ hd ?_
      ·rw[qp _ rfl]
       exact OZ g hg n2 (fun b hb=>Uq b hb) hold (aR d) (j.tr.rep d)
      ·simp only[ar]
       exact⟨⟨rfl,rfl⟩,fun _=>(aS _ _ _).symm⟩
     ·rw[gj]
      have hb:aA p' (look (st.tmps.map fun q=>(q.1,wj m (.mp kk vk es) q.2)) d):=by rw[qp _ rfl];exact LK ((j.tm d).imp KU)
      cases jZ:o.dst with
      |none=>exact hb
      |some d0 =>
       simp only[hP,dy]
       split
       ·simp only[aA];exact Lu
       ·exact hb
     ·rw[cK]at hb
      simp only[Heap.get]at hb
      split at hb
      ·cases hb
      ·exact(j.hm k ty cs (Heap.sM hb).1).imp KU
   ·cases mH
  ·cases mH
 ·cases mH
theorem mI{R:Type}{n:Nat}{f:Nat→Option R}{r:R}(h:oY n f=some r):∀j,j<n→f j=some r:=by
 unfold oY at h
 split at h
 ·rename_i hx;cases h;exact Classical.choose_spec hx
 ·cases h
theorem kf{R:Type}{n:Nat}{f:Nat→Option R}{r:R}(hn:0<n)(h:∀j,j<n→f j=some r):oY n f=some r:=by
 unfold oY
 have hx:∃r,∀j,j<n→f j=some r:=⟨r,h⟩
 rw[dif_pos hx]
 have:=Classical.choose_spec hx 0 hn
 rw[h 0 hn]at this
 exact this.symm
theorem Next.drawn{d:Nat}(n:Next Z ψ h { w with drawn:=d } B0 O N Z' ψ' h' w'):Next Z ψ h w B0 O N Z' ψ' h' w' :=
 ⟨n.eR,n.dJ,⟨n.keep.os,n.keep.tape,n.keep.output,n.keep.size,n.keep.block⟩,n.ids,n.dx⟩
theorem Good.drawn{d:Nat}(g:Good Z ψ h w B0 O):Good Z ψ h { w with drawn:=d } B0 O:=by
 have sm:b5 Z w ({ w with drawn:=d }:World):=fun _ _=>rfl
 refine⟨fun id ty cs hb=>?_,fun id ok xs hb=>?_,g.live,g.apart,g.iS⟩
 ·obtain⟨gg,vs,h1,h2,h3,h4⟩:=g.box id ty cs hb
  exact⟨gg,vs,h1,h2,h3.less (fun _ h=>h) sm (fun i hi=>⟨hi,rfl⟩),h4⟩
 ·exact(g.row id ok xs hb).kept (fun _ h=>h) sm (fun gg _=>rfl)
theorem filter_push{l:List MapEntry}(h:l.Pairwise (fun a b=>a.born≠b.born)){seen:Array Nat}{j:Nat}{e:MapEntry}(he:(l.filter fun e => !seen.contains e.born)[j]? = some e) :
  l.filter (fun x => !(seen.push e.born).contains x.born)=(l.filter fun e => !seen.contains e.born).eraseIdx j:=by
 have h2:(l.filter fun e => !seen.contains e.born).Pairwise (fun a b=>a.born≠b.born):=h.sublist List.filter_sublist
 rw[←ChangeMaps.filter_eq_eraseIdx (fun x=>x.born==e.born) _ j e he (by simp) (h2.imp fun {a b} aU hc=>aU (by
  simp only[beq_iff_eq]at hc;omega))]
 rw[List.filter_filter]
 congr 1
 funext x
 simp only[Array.contains_push]
 cases seen.contains x.born<;>cases x.born==e.born<;>rfl
theorem GG{R:Type}{hh:Heap}(g:Good Z ψ hh.get w B0 O){x:AV}{u:Value}{ty:TypeId}(hx:ar Z ψ hh.get w x u){kk:AV→Heap→Option R}{r:R}(he:kd hh x kk=some r) :
  ∃v h' V w',(Instr.next u false ty).run P w=.ok V w'∧Next Z ψ hh.get w B0 O N Z ψ h'.get w'∧ar Z ψ h'.get w' v V∧kk v h'=some r∧(∀p,aA p v)∧∀i ty cs,h'.get i=some (.box ty cs)→hh.get i=some (.box ty cs):=by
 unfold kd at he
 split at he
 ·rename_i id
  split at he
  ·rename_i XS vk pp hg
   simp only[ar]at hx
   have hu:=hx.2 (by rw[hg];simp)
   obtain⟨b,m,since,seen,bG,clock,h1,h2,h3,h4,h5,h6,h7,h8,h9⟩:=g.row id (.iter XS vk) pp hg
   rw[h1]at hu
   subst hu
   subst h6
   have aG:=(Array.getElem?_eq_some_iff.1 h2).1
   have Qz:(leftOf bG seen).toList=bG.toList.filter fun e => !seen.contains e.born:=by unfold leftOf;simp
   have hlen:pp.2.length=(leftOf bG seen).size:=by rw[h8.1,←Qz,Array.length_toList]
   rcases run_next_at (P:=P) w ty b m since since seen bG since h2 h4 h7 (Nat.le_refl _) with⟨l8,cY⟩|⟨e,iw,w1,GH,cY⟩
   ·have JG:pp.2.isEmpty=true:=by rw[List.isEmpty_iff];exact List.eq_nil_of_length_eq_zero (by rw[hlen,l8])
    rw[JG]at he
    simp only[cond_true]at he
    exact⟨_,hh,_,w,cY,Next.refl g,by simp only[ar,ai];exact⟨_,rfl,_,_,rfl,rfl,rfl⟩,he,fun p=>by simp only[aA,au];exact⟨trivial,trivial⟩,fun _ _ _ h=>h⟩
   ·obtain⟨k,hk,hke⟩:=List.mem_iff_getElem.1 iw
    have nc:k<pp.2.length:=by rw[hlen,←Array.length_toList];exact hk
    have JG:pp.2.isEmpty=false:=by
     cases hl:pp.2 with
     |nil=>rw[hl]at nc;simp at nc
     |cons _ _=>rfl
    rw[JG]at he
    simp only[cond_false]at he
    have hj:=mI he k nc
    rw[List.getElem?_eq_getElem nc,Option.bind_some]at hj
    have RQ:(bG.toList.filter fun e => !seen.contains e.born)[k]? = some e:=by rw[←Qz,List.getElem?_eq_getElem hk,hke]
    have Ch:=h8.2 k _ e (List.getElem?_eq_getElem nc) RQ
    obtain⟨⟨k1,k2,k3⟩,v1,v2,v3⟩:=Ch
    have YP:e∈bG.toList:=(List.mem_filter.1 (List.mem_of_getElem? RQ)).1
    have gd1:Good Z ψ hh.get w1 B0 O:=by rcases GH with rfl|rfl;exact g;exact g.drawn
    have Cv:w1.heap=w.heap:=by rcases GH with rfl|rfl<;>rfl
    have YQ:m≠b:=fun YQ=>by
     subst YQ
     exact(g.live id m (by rw[hg];simp) (by rw[h1];rfl)).1 h3
    have n1:=qj (N:=N) gd1 (id:=id) (by rw[hg];simp) (r:=b) (by rw[h1];rfl) (by rw[Cv];exact aG) (.mapIter (some m) since (seen.push e.born) since) (ok:=.iter XS vk) (x:=(some pp.2[k],pp.2.eraseIdx k)) (fun w' Gl sm=>by
     have Tv:b5 Z w w':=fun c hc=>(sm c hc).trans (by rw[Cv])
     refine⟨b,m,since,seen.push e.born,bG,since,h1,by rw[Gl,Cv];simp[aG],h3,?_,h5,rfl,h7,?_,?_⟩
     ·rw[Gl,Cv,uA _ (fun e=>YQ e.symm)];exact h4
     ·rw[filter_push h5 RQ]
      exact(jy.erase h8 k).mono (fun _ h=>h) Tv
     ·refine⟨e,YP,by simp,⟨rfl,fun q y e' l8 wo=>?_⟩⟩
      cases q with
      |zero=>cases l8;cases wo;exact⟨⟨k1.mono (fun _ h=>h) Tv,k2,k3⟩,v1.mono (fun _ h=>h) Tv,v2,v3⟩
      |succ q=>simp at l8)
    have n2:Next Z ψ hh.get w B0 O N Z ψ (dy hh.get id (some (.own (.iter XS vk) (some pp.2[k],pp.2.eraseIdx k)))) { w1 with heap:=w1.heap.setIfInBounds b (.mapIter (some m) since (seen.push e.born) since) }:=by
     rcases GH with rfl|rfl
     ·exact n1
     ·exact n1.drawn
    refine⟨_,hh.set id (.own (.iter XS vk) (some pp.2[k],pp.2.eraseIdx k)),_,_,cY,by rw[lC];exact n2,?_,hj,fun p=>?_,fun i ty cs hb=>?_⟩
    ·have Tv:b5 Z w ({ w1 with heap:=w1.heap.setIfInBounds b (.mapIter (some m) since (seen.push e.born) since) }:World):=n2.same g
     simp only[ar,ai]
     exact⟨_,rfl,_,_,rfl,rfl,_,_,rfl,kG (k1.mono (fun _ h=>h) Tv) k2 k3,_,_,rfl,kG (v1.mono (fun _ h=>h) Tv) v2 v3,rfl⟩
    ·simp only[aA,au]
     exact⟨trivial,mD _ _ _,mD _ _ _,trivial⟩
    ·rw[lC]at hb
     unfold dy at hb
     split at hb
     ·cases hb
     ·exact hb
  ·cases he
 ·cases he
theorem D1(op:BinOp)(t:TypeId)(a b:Operand)(x y:Option Addr)(n m c d:Nat):(eqGuard op t a b (.slice x n c) (.slice y m d)).run P w=.ok () w:=by cases op<;>simp[eqGuard]
theorem AB{t e:TypeId}(ht:P.underlying t=some (.slice e))(a:Option Addr)(n c:Nat):(Op.equal t (.slice a n c) (.slice none 0 0)).run P w=.ok a.isNone w:=by
 have key:∀d,(Op.equalIn (d+1) t (.slice a n c) (.slice none 0 0)).run P w=.ok a.isNone w:=fun d=>by
  cases a<;>simp[Op.equalIn,run_underlying ht]
 exact key 9999
theorem GI{o:Oper}{x:Operand}{want:Bool}(h:isNil P o=some (x,want)):∃op t v t' e,o.op=.binOp op t x (.const v) t'∧P.underlying t=some (.slice e)∧v=.slice none 0 0∧((op=.eql∧want=true)∨(op=.neq∧want=false)):=by
 unfold isNil at h
 split at h
 ·rename_i op t x' v t' Cu
  have hv:∀v:Value,uf v=.eY→v=.slice none 0 0:=fun v hv=>by
   unfold uf at hv
   split at hv<;>try (first|cases hv|(split at hv<;>cases hv);done)
   all_goals (split at hv<;>first|cases hv|skip)
   ·rename_i hc;obtain⟨rfl,rfl,rfl⟩:=hc;rfl
   all_goals (split at hv<;>cases hv)
  split at h
  ·rename_i e h1 h2 h3;cases h;exact⟨_,_,_,_,_,Cu,h2,hv _ h3,.inl ⟨rfl,rfl⟩⟩
  ·rename_i e h1 h2 h3;cases h;exact⟨_,_,_,_,_,Cu,h2,hv _ h3,.inr ⟨rfl,rfl⟩⟩
  ·cases h
 ·cases h
theorem LL{R:Type}{hh:Heap}(g:Good Z ψ hh.get w B0 O){x:AV}{u:Value}{op:BinOp}{t e:TypeId}(xo yo:Operand)(hx:ar Z ψ hh.get w x u)(ht:P.underlying t=some (.slice e)){want:Bool}(ho:(op=.eql∧want=true)∨(op=.neq∧want=false)){kk:AV→Option R}{r:R}(he:sK hh x want kk=some r) :
  ∃c:Bool,((eqGuard op t xo yo u (.slice none 0 0)).run P w=.ok () w∧(binOp op t u (.slice none 0 0)).run P w=.ok (.bool c) w)∧kk (.bool c)=some r:=by
 have run:∀(a:Option Addr) (n c:Nat),(eqGuard op t xo yo (.slice a n c) (.slice none 0 0)).run P w=.ok () w∧(binOp op t (.slice a n c) (.slice none 0 0)).run P w=.ok (.bool (a.isNone==want)) w:=fun a n c=>by
  refine⟨D1 _ _ _ _ _ _ _ _ _ _,?_⟩
  rcases ho with⟨rfl,rfl⟩|⟨rfl,rfl⟩<;>simp only[Sem.run_bind,Result.andThen_ok,binOp,AB ht,Sem.run_pure]<;>cases a.isNone<;>rfl
 have fin:∀(n:Nat) (a:Option Addr) (c:Nat) (xs:Bool),(a=none→xs=true)→cond xs (oY 2 fun j=>kk (.bool ((j==0)==want))) (kk (.bool (!want)))=some r →
   ∃c':Bool,((eqGuard op t xo yo (.slice a n c) (.slice none 0 0)).run P w=.ok () w∧(binOp op t (.slice a n c) (.slice none 0 0)).run P w=.ok (.bool c') w)∧kk (.bool c')=some r:=fun n a c xs qf h=>by
  refine⟨_,run a n c,?_⟩
  cases xs with
  |true =>
   simp only[cond_true]at h
   cases a with
   |none=>exact mI h 0 (by decide)
   |some a=>exact mI h 1 (by decide)
  |false =>
   simp only[cond_false]at h
   cases a with
   |none=>cases qf rfl
   |some a=>cases want<;>exact h
 unfold sK at he
 split at he
 ·rename_i hv
  have hxn:x=.eY:=by
   cases x<;>simp only[ct]at hv<;>try cases hv
   ·rfl
   ·split at hv<;>cases hv
  subst hxn
  simp only[ar]at hx
  subst hx
  exact⟨_,run none 0 0,by cases want<;>exact he⟩
 ·rename_i ex k xs hv
  cases x with
  |sl ex' k' TZ =>
   simp only[ct]at hv
   cases hv
   simp only[ar,ax]at hx
   obtain⟨⟨v,hv,A,c,rfl,h1,h2,_⟩,_⟩:=hx
   cases hv
   refine fin _ A c _ (fun hA=>?_) he
   have:=h2 hA
   rw[List.isEmpty_iff]
   exact List.eq_nil_of_length_eq_zero (by omega)
  |bp id =>
   simp only[ct]at hv
   simp only[ar]at hx
   split at hv
   ·rename_i hg
    cases hv
    have hu:=hx.2 (by rw[hg];simp)
    obtain⟨vs,⟨_,h1⟩,_⟩:=g.row id _ _ hg
    rw[←hu]at h1
    rcases h1 with⟨h1,A,rfl⟩|⟨gg,cap,cur,rfl,_⟩
    ·exact fin _ A 0 _ (fun _=>List.isEmpty_iff.2 (List.eq_nil_of_length_eq_zero h1)) he
    ·exact fin _ _ _ _ (fun h=>by cases h) he
   ·cases hv
   ·cases hv
  |_=>simp only[ct]at hv<;>cases hv
 ·cases he
theorem yn{draw:Bool}{rid:Nat}{ops:Array Oper}{b:Array Nat}{i F7:Nat}{e:bm}{S:Nat→Prop}{hh:Heap}(hm:rj (lu rid S) h)(ha:∀j,F7.testBit j=true→S j)(he:fP draw rid ops b i F7 e=true) :
  aA (lu rid fun k=>S k∨k=i) e.v∧rj (lu rid fun k=>S k∨k=i) (e.hp h):=by
 have Dv:∀j,(F7 ||| 2 ^ i).testBit j=true→S j∨j=i:=fun j hj=>by
  rw[Nat.testBit_or,Bool.or_eq_true]at hj
  rcases hj with hj|hj
  ·exact .inl (ha j hj)
  ·rw[Nat.testBit_two_pow]at hj;exact .inr (by simpa using hj:i=j).symm
 have up:rj (lu rid fun k=>S k∨k=i) h:=fun id ty cs hb=>(hm id ty cs hb).imp (fun id h1 h2=>.inl (h1 h2))
 cases e with
 |val v=>exact⟨nM (fun j hj=>.inl (ha j hj)) he,up⟩
 |new v os =>
  simp only[fP,Bool.and_eq_true]at he
  refine⟨nM Dv he.1.1,fun id ty cs hb=>?_⟩
  simp only[bm.hp]at hb
  split at hb
  ·rename_i o ho
   cases hb
   exact(kS Dv he.2 _ _ ho).2 _ _ rfl
  ·exact up id ty cs hb
 |wr v h' =>
  simp only[fP,Bool.and_eq_true]at he
  exact⟨nM Dv he.1.2,fun id ty cs hb=>(kS Dv he.2 _ _ hb).2 _ _ rfl⟩
theorem AD{i j:Nat}(h:(2 ^ i-1).testBit j=true):j<i:=by
 rw[Nat.testBit_two_pow_sub_one]at h;simpa using h
def uK(mk:Bool)(rid i id:Nat):Prop:=mk=true→lu rid (fun k=>k<i) id
theorem ku(E:Env P Eqs Sg F){rid n:Nat}{ops:Array Oper}{b:Array Nat}(mk:Bool)(LM:mk=false→∀(i:Nat) (o:Oper),ops[i]? = some o→makes o.op=false)(hn:ops.size≤128)(jZ:∀(i:Nat) (o:Oper),ops[i]? = some o→gx n o=true){kk:St→Option R}{r:R}{Q:Exit→Act→World→Prop}
  (hQ:∀dI Z ψ a w,kk dI=some r→Ok Z0 w0 O ψ0 Z ψ dI.heap.get w→cw Z ψ dI.heap.get w n (look dI.tmps) a→Q .normal a w) :
  ∀(l:List (Nat×Oper)) (i:Nat) (st:St) (Z:Nat→Prop) (ψ:Nat→Value) (a:Act) (w:World),ym ops i l→ba P Eqs Sg F rid false ops b l st kk=some r →
   J (uK mk rid i) n Z0 w0 O ψ0 Z ψ (look st.tmps) st.heap.get a w→wpOps P ops Q (l.map Prod.fst) a w
 |[],i,st,Z,ψ,a,w,_,hx,j=>hQ st Z ψ a w hx j.ok j.tr
 |(i',o)::l,i,st,Z,ψ,a,w,hl,hx,j=>by
  obtain⟨rfl,ho,hl⟩:=hl
  have hi:i'<128:=Nat.lt_of_lt_of_le (Array.getElem?_eq_some_iff.1 ho).1 hn
  have N8:=jZ i' o ho
  have ih:=ku E (rid:=rid) (b:=b) mk LM hn jZ hQ l (i'+1)
  have up:∀id,uK mk rid i' id→uK mk rid (i'+1) id:=fun id h hm hr=>Nat.lt_succ_of_lt (h hm hr)
  have runs:∀gH:St,look gH.tmps=look st.tmps→gH.heap=st.heap→Region.wanted o (yielded ops a.tmps)=true →
    (match np P (opId rid i') gH o with
    |some dI=>ba P Eqs Sg F rid false ops b l dI kk
    |none=>match sJ o with
    |some x=>kd gH.heap (ρ gH.tmps x) fun v h=>ba P Eqs Sg F rid false ops b l (({ gH with heap:=h }:St).put o.dst v) kk
    |none=>match isNil P o with
    |some (x,want)=>sK gH.heap (ρ gH.tmps x) want fun v=>ba P Eqs Sg F rid false ops b l (gH.put o.dst v) kk
    |none=>cy P Eqs Sg F (opId rid i') gH.heap gH.tmps o fun e=>if fP false rid ops b i' (2 ^ i' - 1) e then ba P Eqs Sg F rid false ops b l ({ gH with heap:=match e with | .wr _ h=>h|e=>e.h gH.heap }.put o.dst e.v) kk else none)=some r →
    wpOps P ops Q (((i',o)::l).map Prod.fst) a w:=by
   intro gH h1 h2 hw hx
   split at hx
   ·rename_i dI mH
    simp only[List.map_cons,wpOps,ho,hw,if_true]
    refine .inl ?_
    have Ur:makes o.op=true:=by
     unfold np at mH
     split at mH
     ·rename_i Cu;rw[Cu];rfl
     ·cases mH
    have YR:mk=true:=by
     cases JQ:mk with
     |true=>rfl
     |false=>rw[LM JQ i' o ho]at Ur;cases Ur
    have j1:J (uK mk rid i') n Z0 w0 O ψ0 Z ψ (look gH.tmps) gH.heap.get a w:=by rw[h1,h2];exact j
    obtain⟨V,w',Z',ψ',cY,j'⟩:=GF (P:=P) (p':=uK mk rid (i'+1)) (fun id hp ma=>by
     obtain⟨h3,h4⟩:=ma.parts hi
     have:=hp YR h3
     rw[h4]at this
     exact Nat.lt_irrefl _ this) up (fun _ h3=>by
      have:=((DY (rid:=rid) (i:=i')).parts hi).2
      rw[this];exact Nat.lt_succ_self _) j1 N8 mH
    unfold Oper.wp
    rw[cY]
    exact ih dI Z' ψ' _ w' hl hx j'
   split at hx
   ·rename_i x Be
    simp only[List.map_cons,wpOps,ho,hw,if_true]
    refine .inl ?_
    have Cu:o.op=.next x false:=by
     unfold sJ at Be
     split at Be
     ·rename_i Cu;cases Be;exact Cu
     ·cases Be
    have Tu:ar Z ψ gH.heap.get w (ρ gH.tmps x) (a.eval x):=pw (by rw[h1,h2];exact j.tr) x
    have g1:Good Z ψ gH.heap.get w w0.heap.size O:=by rw[h2];exact j.ok.dx
    obtain⟨v,h',V,w',cY,nx,hr,OJ,RA,oE⟩:=GG (P:=P) (N:=fun _=>False) (ty:=o.type) g1 Tu hx
    have LN:(execOp a.eval o).run P w=.ok (.value V) w':=by
     obtain⟨dst,op,type,pos,after,guard⟩:=o
     simp only at Cu
     subst Cu
     simp only at cY
     simp[execOp,cY]
    unfold Oper.wp
    rw[LN]
    refine ih _ Z ψ _ w' hl OJ ?_
    rw[gj,cK]
    have j1:J (uK mk rid i') n Z0 w0 O ψ0 Z ψ (look gH.tmps) gH.heap.get a w:=by rw[h1,h2];exact j
    refine⟨j1.ok.next (fun id h=>h.elim) nx,(j1.tr.next g1 nx (fun d=>(j1.tm d).imp fun _ _ h=>h)).put N8 hr,fun d=>?_,fun k ty cs hb=>(j1.hm k ty cs (oE k ty cs hb)).imp up⟩
    cases jZ:o.dst with
    |none=>exact(j1.tm d).imp up
    |some d0 =>
     simp only[hP,dy]
     split
     ·exact RA _
     ·exact(j1.tm d).imp up
   split at hx
   ·rename_i x want Us
    obtain⟨op,t,v,t',et,Cu,ht,rfl,py⟩:=GI Us
    simp only[List.map_cons,wpOps,ho,hw,if_true]
    refine .inl ?_
    have Tu:ar Z ψ gH.heap.get w (ρ gH.tmps x) (a.eval x):=pw (by rw[h1,h2];exact j.tr) x
    have g1:Good Z ψ gH.heap.get w w0.heap.size O:=by rw[h2];exact j.ok.dx
    obtain⟨c,cY,OJ⟩:=LL (P:=P) g1 x (.const (.slice none 0 0)) Tu ht py hx
    have LN:(execOp a.eval o).run P w=.ok (.value (.bool c)) w:=by
     obtain⟨dst,op',type,pos,after,guard⟩:=o
     simp only at Cu
     subst Cu
     have e1:a.eval (.const (.slice none 0 0))=.slice none 0 0:=rfl
     simp[execOp,e1,cY.1,cY.2]
    unfold Oper.wp
    rw[LN]
    refine ih _ Z ψ _ w hl OJ ?_
    rw[gj,cK]
    have j1:J (uK mk rid i') n Z0 w0 O ψ0 Z ψ (look gH.tmps) gH.heap.get a w:=by rw[h1,h2];exact j
    refine⟨j1.ok,j1.tr.put N8 (by simp only[ar]),fun d=>?_,fun k ty cs hb=>(j1.hm k ty cs hb).imp up⟩
    cases jZ:o.dst with
    |none=>exact(j1.tm d).imp up
    |some d0 =>
     simp only[hP,dy]
     split
     ·simp only[aA]
     ·exact(j1.tm d).imp up
   rw[kt]at hx
   obtain⟨e,he,hx⟩:=Option.bind_eq_some_iff.1 hx
   split at hx
   ·rename_i lq
    simp only[List.map_cons,wpOps,ho,hw,if_true]
    refine .inl ?_
    have hh:gH.heap.get=st.heap.get:=by rw[h2]
    have mH:aA (uK mk rid (i'+1)) e.v∧rj (uK mk rid (i'+1)) (e.hp st.heap.get):=by
     cases JQ:mk with
     |false =>
      have ht:uK false rid (i'+1)=fun _=>True:=funext fun id=>propext ⟨fun _=>trivial,fun _ h=>by cases h⟩
      rw[ht];exact⟨aA.top _,fun _ _ cs _=>au.top cs⟩
     |true =>
      have OP:rj (lu rid fun k=>k<i') st.heap.get:=fun id ty cs hb=>(j.hm id ty cs hb).imp fun id h1=>h1 JQ
      have h3:=yn (hh:=gH.heap) OP (fun k hk=>AD hk) lq
      have hS:∀k,(k<i'∨k=i')→k<i'+1:=fun k hk=>by omega
      exact⟨h3.1.imp fun id h1 _ h2=>hS _ (h1 h2),fun id ty cs hb=>(h3.2 id ty cs hb).imp fun id h1 _ h2=>hS _ (h1 h2)⟩
    refine J.op E (p:=uK mk rid i') (p':=uK mk rid (i'+1)) (rid:=rid) (i:=i') (s:=gH.tmps) (fun hm id hp ma => ?_) j N8 (fun x _=>pw (by rw[h1];exact j.tr) x) (fun x _=>JP (by rw[h1];exact j.tm) x) (fun id o hg=>by rw[hh]at hg;exact hg) he (fun _ _ _=>hh) up mH.1 mH.2 fun a' w' Z' ψ' j' => ?_
    ·cases JQ:mk with
     |false=>rw[LM JQ i' o ho]at hm;cases hm
     |true =>
      obtain⟨h3,h4⟩:=ma.parts hi
      have:=hp JQ h3
      rw[h4]at this
      exact Nat.lt_irrefl _ this
    refine ih _ Z' ψ' a' w' hl hx ?_
    rw[gj,cK]
    have j2:J (uK mk rid (i'+1)) n Z0 w0 O ψ0 Z' ψ' (hP (look gH.tmps) o.dst e.v) (bm.heap e gH.heap).get a' w':=by rw[bm.DZ,h1,h2];exact j'
    exact j2
   ·cases hx
  have te:∀gH:St,look gH.tmps=look st.tmps→gH.heap=st.heap→Region.wanted o (yielded ops a.tmps)=false →
    ba P Eqs Sg F rid false ops b l (gH.put o.dst (.lW [])) kk=some r→wpOps P ops Q (((i',o)::l).map Prod.fst) a w:=by
   intro gH h1 h2 hw hx
   simp only[List.map_cons,wpOps,ho,hw,Bool.false_eq_true,if_false]
   refine ih _ Z ψ _ w hl hx ?_
   rw[gj,cK,h1,h2]
   exact j.skip N8 up
  rw[ba]at hx
  simp only[Bool.false_eq_true,if_false]at hx
  split at hx
  ·rename_i hg
   exact runs st rfl rfl (by simp[Region.wanted,hg]) hx
  ·rename_i jj want hg
   split at hx
   ·cases hx
   ·rename_i d hd
    split at hx
    ·rename_i t ht
     have hw:=yl j.tr hg hd ht
     have hp:∀b,t=b→look (st.put (some d) (.bool b)).tmps=look st.tmps:=fun b hb=>by
      subst hb;rw[gj];exact Bb ht
     cases t<;>simp only[cond_true,cond_false]at hx<;>split at hx<;>rename_i py
     ·exact te _ (hp false rfl) (cK _ _ _) (by rw[hw];simp[py]) hx
     ·exact runs _ (hp false rfl) (cK _ _ _) (by rw[hw];simp[py]) hx
     ·exact runs _ (hp true rfl) (cK _ _ _) (by rw[hw];simp[py]) hx
     ·exact te _ (hp true rfl) (cK _ _ _) (by rw[hw];simp[py]) hx
    ·rename_i vs ht
     exact te st rfl rfl (vT j.tr hg hd ht) hx
    ·cases hx
end Go.Vs
namespace Go.Vs
variable {P:Program} {Eqs:TypeId→Option K} {Sg:FuncId→Option aK} {F:(f:FuncId)→(g:aK)→g.A→Option g.B} {R:Type}
variable {Z Z' Z0:Nat→Prop} {ψ ψ' ψ0:Nat→Value} {h h':Hp} {w w' w0:World} {B0:Nat} {O N:Nat→Prop}
theorem jE(hp h:Heap)(i:Nat):∀(ft:List Nat),(dS ft hp h).get i=if i∈ft then(match hp.get i with|some o=>some o|none=>h.get i) else h.get i
 |[]=>by simp[dS]
 |j::r=>by
  have ih:=jE hp h i r
  unfold dS at ih ⊢
  cases hj:hp.get j with
  |none =>
   rw[List.filterMap_cons,hj]
   simp only[Option.map_none]
   rw[ih]
   by_cases e:i=j
   ·subst e;simp[hj]
   ·simp[e]
  |some o =>
   rw[List.filterMap_cons,hj]
   simp only[Option.map_some,List.cons_append,Heap.get]
   rw[ih]
   by_cases e:j=i
   ·subst e;simp[hj]
   ·have e':¬i=j:=fun h=>e h.symm
    simp[e,e']
mutual
theorem vU{ft:List Nat}:∀{v:AV},oX ft v=true→aA (fun i=>i∉ft) v
 |.ref id _ _ _,h=>by simp only[aA];simpa[oX] using h
 |.bp id,h=>by simp only[aA];simpa[oX] using h
 |.fn _ cap,h=>by simp only[aA];exact jF (by simpa only[oX] using h)
 |.agg cs,h=>by simp only[aA];exact jF (by simpa only[oX] using h)
 |.lW vs,h=>by simp only[aA];exact jF (by simpa only[oX] using h)
 |.no,_=>by simp only[aA]
 |.bool _,_=>by simp only[aA]
 |.int _ _,_=>by simp only[aA]
 |.str _,_=>by simp only[aA]
 |.kb,_=>by simp only[aA]
 |.eY,_=>by simp only[aA]
 |.fp _ _ _,_=>by simp only[aA]
 |.sl _ _ _,_=>by simp only[aA]
 |.mp _ _ _,_=>by simp only[aA]
theorem jF{ft:List Nat}:∀{l:List AV},rK ft l=true→au (fun i=>i∉ft) l
 |[],_=>by simp only[au]
 |v::r,h=>by
  simp only[rK,Bool.and_eq_true]at h
  simp only[au]
  exact⟨vU h.1,jF h.2⟩
end
theorem jG{ft:List Nat}:∀{hh:Heap},rL ft hh=true→∀i o,hh.get i=some o→i∉ft∧∀ty cs,o=.box ty cs→au (fun i=>i∉ft) cs
 |[],_,i,o,h=>by simp[Heap.get]at h
 |(j,.box ty cs)::r,hc,i,o,h=>by
  simp only[rL,Bool.and_eq_true]at hc
  simp only[Heap.get]at h
  split at h
  ·rename_i e;subst e;cases h
   exact⟨by simpa using hc.1,fun ty cs e=>by cases e;exact jF hc.2.1⟩
  ·exact jG hc.2.2 i o h
 |(j,.own ok x)::r,hc,i,o,h=>by
  simp only[rL,Bool.and_eq_true]at hc
  simp only[Heap.get]at h
  split at h
  ·rename_i e;subst e;cases h
   exact⟨by simpa using hc.1,fun ty cs e=>by cases e⟩
  ·exact jG hc.2 i o h
theorem Next.frame{hp h1:Heap}{ft:List Nat}(g:Good Z ψ hp.get w B0 O)(hB:B0≤w.heap.size)(aR:∀i ty cs,hp.get i=some (.box ty cs)→au (fun i=>¬N i) cs)
  (n:Next Z ψ (fW hp ft).get w w.heap.size (Own ψ (fW hp ft).get) N Z' ψ' h1.get w') (hc:rL ft h1=true) :
  ∃dB,Next Z ψ hp.get w B0 O N Z' dB (dS ft hp h1).get w'∧∀i,i∉ft→dB i=ψ' i:=by
 classical
 have gd:∀i,(fW hp ft).get i=if i∈ft then none else hp.get i:=fun i=>mE ft hp i
 have aZ:∀b,Own ψ (fW hp ft).get b→Own ψ hp.get b:=fun b ⟨i,h1,h2⟩=>⟨i,by rw[gd]at h1;split at h1;exact absurd rfl h1;exact h1,h2⟩
 have pf:∀i,i∈ft→h1.get i=none:=fun i hi=>by
  cases e:h1.get i with
  |none=>rfl
  |some o=>exact absurd hi (jG hc i o e).1
 have gf:∀i,(dS ft hp h1).get i=if i∈ft then hp.get i else h1.get i:=fun i=>by
  rw[jE]
  by_cases hi:i∈ft
  ·rw[if_pos hi,if_pos hi,pf i hi];cases hp.get i<;>rfl
  ·rw[if_neg hi,if_neg hi]
 let dB:Nat→Value:=fun i=>if i∈ft then ψ i else ψ' i
 have p1:∀i,i∈ft→dB i=ψ i:=fun i hi=>if_pos hi
 have p2:∀i,i∉ft→dB i=ψ' i:=fun i hi=>if_neg hi
 have apart:∀i b,i∈ft→hp.get i≠none→ob (ψ i)=some b→¬Own ψ (fW hp ft).get b:=fun i b hi h2 h3 ⟨j,h4,h5⟩=>by
  rw[gd]at h4
  split at h4
  ·exact h4 rfl
  ·rename_i hj
   have:=g.apart i j b h2 h4 h3 h5
   subst this;exact hj hi
 have da:∀i b,i∈ft→hp.get i≠none→ob (ψ i)=some b→w'.heap[b]? = w.heap[b]? := fun i b hi h2 h3 =>
  n.keep.block b (g.bA ⟨i,h2,h3⟩) (apart i b hi h2 h3)
 have keep:cG ψ hp.get w w':=⟨n.keep.os,n.keep.tape,n.keep.output,n.keep.size,fun b hb hn=>n.keep.block b hb fun ho=>hn (aZ b ho)⟩
 have sm:b5 Z w w':=keep.same g
 have ids:∀i,(dS ft hp h1).get i≠none→(hp.get i≠none∧dB i=ψ i)∨N i:=fun i hi=>by
  rw[gf]at hi
  by_cases hf:i∈ft
  ·rw[if_pos hf]at hi;exact .inl ⟨hi,p1 i hf⟩
  ·rw[if_neg hf]at hi
   rcases n.ids i hi with⟨h2,h3⟩|h2
   ·rw[gd,if_neg hf]at h2
    exact .inl ⟨h2,(p2 i hf).trans h3⟩
   ·exact .inr h2
 have nz:∀i b,i∈ft→hp.get i≠none→ob (ψ i)=some b→¬Z' b:=fun i b hi h2 h3 hz=>by
  rcases n.dJ b hz with h4|h4|h4
  ·exact(g.live i b h2 h3).1 h4
  ·exact apart i b hi h2 h3 h4
  ·have:=g.bA ⟨i,h2,h3⟩;omega
 refine⟨dB,⟨n.eR,fun b hb=>(n.dJ b hb).imp (fun h=>h) (fun h=>h.imp (aZ b) fun h=>h),keep,ids,⟨fun i ty cs hb=>?_,fun i ok x hb=>?_,fun i b h2 h3=>?_,fun i j b h2 h3 h4 h5=>?_,n.dx.iS⟩⟩,p2⟩
 ·rw[gf]at hb
  by_cases hf:i∈ft
  ·rw[if_pos hf]at hb
   obtain⟨gg,vs,e1,e2,e3,e4⟩:=g.box i ty cs hb
   refine⟨gg,vs,by rw[p1 i hf,e1],(da i gg hf (by rw[hb];simp) (by rw[e1];rfl)).trans e2,e3.move n.eR sm (fun j hj aU=>(ids j aU).resolve_right hj) (aR i ty cs hb),e4⟩
  ·rw[if_neg hf]at hb
   obtain⟨gg,vs,e1,e2,e3,e4⟩:=n.dx.box i ty cs hb
   refine⟨gg,vs,by rw[p2 i hf,e1],e2,e3.move (fun _ h=>h) (b5.refl _ _) (fun j hj aU=>?_) ((jG hc i _ hb).2 ty cs rfl),e4⟩
   rw[gf,if_neg hj]at aU
   exact⟨aU,p2 j hj⟩
 ·rw[gf]at hb
  by_cases hf:i∈ft
  ·rw[if_pos hf]at hb
   rw[p1 i hf]
   exact(g.row i ok x hb).kept n.eR sm (fun b iV=>da i b hf (by rw[hb];simp) iV)
  ·rw[if_neg hf]at hb
   rw[p2 i hf]
   exact n.dx.row i ok x hb
 ·rw[gf]at h2
  by_cases hf:i∈ft
  ·rw[if_pos hf]at h2
   rw[p1 i hf]at h3
   exact⟨nz i b hf h2 h3,(g.live i b h2 h3).2⟩
  ·rw[if_neg hf]at h2
   rw[p2 i hf]at h3
   obtain⟨h4,h5⟩:=n.dx.live i b h2 h3
   refine⟨h4,h5.elim (fun h=>.inl (Nat.le_trans hB h)) fun h=>?_⟩
   obtain⟨j,h6,h7⟩:=aZ b h
   exact(g.live j b h6 h7).2
 ·have mixed:∀i j b,i∈ft→j∉ft→(dS ft hp h1).get i≠none→(dS ft hp h1).get j≠none→ob (dB i)=some b→ob (dB j)=some b→False:=fun i j b hi hj h2 h3 h4 h5=>by
   rw[gf,if_pos hi]at h2
   rw[gf,if_neg hj]at h3
   rw[p1 i hi]at h4
   rw[p2 j hj]at h5
   rcases (n.dx.live j b h3 h5).2 with h6|h6
   ·have:=g.bA ⟨i,h2,h4⟩;omega
   ·exact apart i b hi h2 h4 h6
  by_cases hi:i∈ft<;>by_cases hj:j∈ft
  ·rw[gf,if_pos hi]at h2
   rw[gf,if_pos hj]at h3
   rw[p1 i hi]at h4
   rw[p1 j hj]at h5
   exact g.apart i j b h2 h3 h4 h5
  ·exact(mixed i j b hi hj h2 h3 h4 h5).elim
  ·exact(mixed j i b hj hi h3 h2 h5 h4).elim
  ·rw[gf,if_neg hi]at h2
   rw[gf,if_neg hj]at h3
   rw[p2 i hi]at h4
   rw[p2 j hj]at h5
   exact n.dx.apart i j b h2 h3 h4 h5
theorem J.opF(E:Env P Eqs Sg F){rid n i:Nat}{p:Nat→Prop}{T:Nat→AV}{a:Act}{s:List (Nat×AV)}{o:Oper}(hS:makes o.op=true→∀id,p id→¬Of rid i id){hp h1:Heap}{v:AV}{ft:List Nat}(j:J p n Z0 w0 O ψ0 Z ψ T hp.get a w)(hd:gx n o=true)
  (hT:∀x∈o.op.operands,ar Z ψ hp.get w (ρ s x) (a.eval x)) (YN:∀x∈o.op.operands,aA p (ρ s x)) (he:cy P Eqs Sg F (opId rid i) (fW hp ft) s o some=some (.wr v h1)) (hc:lZ ft (.wr v h1)=true)
  {p':Nat→Prop} (KU:∀k,p k→p' k) (hv:aA p' v) (RO:rj p' (dS ft hp h1).get) {next:Act→World→Prop} {Q:Exit→Act→World→Prop}
  (hk:∀a' w' Z' ψ',J p' n Z0 w0 O ψ0 Z' ψ' (hP T o.dst v) (dS ft hp h1).get a' w'→next a' w'):o.wp P a w next Q:=by
 have RP:∀id,p id→¬(makes o.op=true∧Of rid i id):=fun id h ⟨h1,h2⟩=>hS h1 id h h2
 simp only[lZ,Bool.and_eq_true]at hc
 have aZ:∀id o,(fW hp ft).get id=some o→hp.get id=some o:=fun id o h=>by rw[mE]at h;split at h;cases h;exact h
 have aU:∀id,(fW hp ft).get id≠none→hp.get id≠none:=fun id h=>by
  obtain⟨o,ho⟩:=Option.ne_none_iff_exists'.1 h
  rw[aZ id o ho];simp
 have aR:∀i' ty cs,hp.get i'=some (.box ty cs)→au (fun id=>¬(makes o.op=true∧Of rid i id)) cs:=fun id ty cs hb=>(j.hm id ty cs hb).imp RP
 have gs:Good Z ψ (fW hp ft).get w w.heap.size (Own ψ (fW hp ft).get):=(j.ok.dx.sub aZ).Cq _
 refine Qy (N:=fun id=>makes o.op=true∧Of rid i id) E gs (Nat.le_refl _) (fun _ _ h=>h) (id:=opId rid i) (fun hm k hk=>⟨hm,H8 hk⟩) (fun x hx=>(hT x hx).oF aZ) (fun x hx=>(YN x hx).imp RP) (fun id ty cs hb=>aR id ty cs (aZ _ _ hb)) (fun _ _ _=>rfl) he fun V w' Z' ψ' nx hr=>?_
 obtain⟨dB,n2,h2⟩:=Next.frame j.ok.dx j.ok.size aR nx hc.2
 have RR:ar Z' dB (dS ft hp h1).get w' v V:=hr.move (p:=fun i=>i∉ft) (fun _ h=>h) (b5.refl _ _) (fun k hk aU=>by
  rw[jE,if_neg hk]at aU
  exact⟨aU,h2 k hk⟩) (vU hc.1)
 refine hk _ w' Z' dB ⟨j.ok.next (fun id h=>by have:=h.2;unfold Of at this;omega) n2,(j.tr.next j.ok.dx n2 (fun d=>(j.tm d).imp RP)).put hd RR,fun d=>?_,RO⟩
 cases jZ:o.dst with
 |none=>exact(j.tm d).imp KU
 |some d0 =>
  simp only[hP,dy]
  split
  ·exact hv
  ·exact(j.tm d).imp KU
end Go.Vs
namespace Go.Vs
variable {P:Program} {Eqs:TypeId→Option K} {Sg:FuncId→Option aK} {F:(f:FuncId)→(g:aK)→g.A→Option g.B} {R:Type}
variable {Z Z' Z0:Nat→Prop} {ψ ψ':Nat→Value} {h h':Hp} {w w' w0:World} {B0:Nat} {O N:Nat→Prop}
variable {rid n:Nat} {ops:Array Oper} {b:Array Nat}
def qq(b:Array Nat)(i j:Nat):Prop:=(b.getD i 0).testBit j=true
theorem Bf(b:Array Nat)(j:Nat):∀(l:List Edge) (s:Nat),(l.foldl (fun s e=>if Region.binds .any e then s ||| 2 ^ e.on ||| b.getD e.on 0 else s) s).testBit j=true ↔
  s.testBit j=true∨∃e∈l,Region.binds .any e=true∧(j=e.on∨qq b e.on j)
 |[],s=>by simp
 |e::l,s=>by
  rw[List.foldl_cons,Bf b j l]
  by_cases hb:Region.binds .any e=true
  ·rw[if_pos hb]
   have h2:(2 ^ e.on).testBit j=true↔j=e.on:=by rw[Nat.testBit_two_pow];simp[eq_comm]
   simp only[Nat.testBit_or,Bool.or_eq_true,h2,List.mem_cons,exists_eq_or_imp,hb,true_and,qq]
   constructor
   ·rintro(((h|h)|h)|h)
    ·exact .inl h
    ·exact .inr (.inl (.inl h))
    ·exact .inr (.inl (.inr h))
    ·exact .inr (.inr h)
   ·rintro(h|(h|h)|h)
    ·exact .inl (.inl (.inl h))
    ·exact .inl (.inl (.inr h))
    ·exact .inl (.inr h)
    ·exact .inr h
  ·rw[if_neg hb]
   simp[hb]
theorem wP(hb:sG ops b=true){i j:Nat}{o:Oper}(ho:ops[i]? = some o):qq b i j↔∃e∈o.after.toList,Region.binds .any e=true∧(j=e.on∨qq b e.on j):=by
 have aG:=(Array.getElem?_eq_some_iff.1 ho).1
 have h1:=List.all_eq_true.1 hb i (List.mem_range.2 aG)
 rw[ho]at h1
 simp only[Bool.and_eq_true,beq_iff_eq]at h1
 unfold qq
 rw[h1.2,Bf]
 simp[qq]
theorem GJ(hb:sG ops b=true){i:Nat}{o:Oper}(ho:ops[i]? = some o){e:Edge}(he:e∈o.after.toList)(JC:Region.binds .any e=true):e.on<i:=by
 have aG:=(Array.getElem?_eq_some_iff.1 ho).1
 have h1:=List.all_eq_true.1 hb i (List.mem_range.2 aG)
 rw[ho]at h1
 simp only[Bool.and_eq_true]at h1
 have:=List.all_eq_true.1 h1.1 e he
 simpa[JC] using this
theorem yp(hb:sG ops b=true):∀(i j:Nat),i<ops.size→qq b i j→j<i:=by
 intro i
 induction i using Nat.strongRecOn with
 |ind i ih =>
  intro j hi h
  obtain⟨e,he,JC,h1⟩:=(wP hb (Array.getElem?_eq_getElem hi)).1 h
  have RS:=GJ hb (Array.getElem?_eq_getElem hi) he JC
  rcases h1 with rfl|h1
  ·exact RS
  ·exact Nat.lt_trans (ih e.on RS j (by omega) h1) RS
theorem Bg(hb:sG ops b=true):∀(i j k:Nat),i<ops.size→qq b i j→qq b j k→qq b i k:=by
 intro i
 induction i using Nat.strongRecOn with
 |ind i ih =>
  intro j k hi h h'
  obtain⟨e,he,JC,h1⟩:=(wP hb (Array.getElem?_eq_getElem hi)).1 h
  have RS:=GJ hb (Array.getElem?_eq_getElem hi) he JC
  refine(wP hb (Array.getElem?_eq_getElem hi)).2 ⟨e,he,JC,?_⟩
  rcases h1 with rfl|h1
  ·exact .inr h'
  ·exact .inr (ih e.on RS j k (by omega) h1 h')
theorem get_filter(f:Nat→Bool):∀(hh:Heap) (i:Nat),Heap.get (hh.filter fun p=>f p.1) i=if f i then hh.get i else none
 |[],i=>by simp[Heap.get]
 |(j,o)::r,i=>by
  rw[List.filter_cons]
  split
  ·rename_i hj
   simp only[Heap.get]
   by_cases e:j=i
   ·subst e;simp only at hj;simp[hj]
   ·simp only[if_neg e];exact get_filter f r i
  ·rename_i hj
   rw[get_filter f r i]
   simp only[Heap.get]
   by_cases e:j=i
   ·subst e;simp only at hj;simp[hj]
   ·simp only[if_neg e]
theorem JR(rid F7:Nat)(hh:Heap)(id:Nat):(ahead rid F7 hh).get id=if oW rid F7 id then hh.get id else none:=by
 unfold ahead
 exact get_filter (fun i=>oW rid F7 i) hh id
theorem LO(ft:List Nat)(hp:Heap)(e:bm):(fQ ft hp e).v=e.v:=by cases e<;>rfl
theorem D2{id:Nat}{hh:Heap}{s:List (Nat×AV)}{o:Oper}{x:Operand}{e:bm}(hl:ij o.op=some x)(he:cy P Eqs Sg F id hh s o some=some e):∃v,e=.val v:=by
 obtain⟨dst,op,type,pos,after,guard⟩:=o
 cases op<;>simp only[ij]at hl<;>first|(cases hl;done)|skip
 case load t a =>
  simp only[cy,kE]at he
  repeat' (first|(cases he;done)|exact⟨_,(Option.some.inj he).symm⟩|split at he)
  all_goals
   obtain⟨y,_,he⟩:=Option.bind_eq_some_iff.1 he
   split at he<;>first|(cases he;done)|exact⟨_,(Option.some.inj he).symm⟩
 case indexAddr t a i =>
  simp only[cy,c7]at he
  repeat' (first|(cases he;done)|exact⟨_,(Option.some.inj he).symm⟩|split at he)
  all_goals first
   |(obtain⟨y,_,he⟩:=Option.bind_eq_some_iff.1 he;exact⟨_,(Option.some.inj he).symm⟩)
   |(unfold cond at he;split at he<;>first|(cases he;done)|exact⟨_,(Option.some.inj he).symm⟩)
theorem Bh{op:Op}{x:Operand}(hl:ij op=some x):lY op=false∧Cb op=false:=by
 cases op<;>simp only[ij]at hl<;>first|(cases hl;done)|exact⟨rfl,rfl⟩
theorem GK{id:Nat}{hh h2:Heap}{s:List (Nat×AV)}{o:Oper}{x:Operand}(hl:ij o.op=some x)(hg:∀i∈sI (ρ s x),h2.get i=hh.get i):cy P Eqs Sg F id h2 s o some=cy P Eqs Sg F id hh s o some:=by
 obtain⟨dst,op,type,pos,after,guard⟩:=o
 cases op<;>simp only[ij]at hl<;>first|(cases hl;done)|skip
 case load t a =>
  cases hl
  simp only[cy,kE]
  cases hv:ρ s x with
  |ref i s' j off=>rw[hv]at hg;simp only[sI,List.mem_singleton,forall_eq]at hg;simp only[hg]
  |_=>rfl
 case indexAddr t a i =>
  cases hl
  simp only[cy,c7]
  cases vu P t with
  |none=>rfl
  |some e =>
   simp only[]
   cases hv:ρ s x with
   |bp k =>
    rw[hv]at hg
    have xL:=hg k (by simp[sI])
    cases ρ s i<;>first|rfl|simp only[xL]
   |sl ex k xs=>cases ρ s i<;>rfl
   |_=>rfl
def ov(ops:Array Oper)(T:Nat→AV)(o:Oper)(t:Bool):Prop :=
 match o.guard with
 |none=>t=true
 |some (j,want)=>∃d,(ops[j]?).bind (·.dst)=some d∧((∃u,T d=.bool u∧(u==want)=t)∨(∃vs,T d=.lW vs∧t=false))
def yq(P:Program)(Eqs:TypeId→Option K)(Sg:FuncId→Option aK)(F:(f:FuncId)→(g:aK)→g.A→Option g.B)(rid:Nat)(ops:Array Oper)(b:Array Nat)(T:Nat→Nat→AV)(H:Nat→Hp)(E:Nat→Option bm)(k:Nat)(o:Oper):Prop :=
 (∃e s hh,E k=some e∧look s=T k∧(∀id,Heap.get hh id=if oW rid (b.getD k 0) id then H k id else none)∧(∃e0,cy P Eqs Sg F (opId rid k) (fW hh (fX ops b k s o)) s o some=some e0∧e=fQ (fX ops b k s o) hh e0∧lZ (fX ops b k s o) e0=true) ∧
  fP true rid ops b k (b.getD k 0) e=true∧ov ops (T k) o true∧T (k+1)=hP (T k) o.dst e.v∧H (k+1)=e.hp (H k)) ∨
 (E k=none∧ov ops (T k) o false∧T (k+1)=hP (T k) o.dst (.lW [])∧H (k+1)=H k)
theorem trace{kk:St→Option R}{r:R}:∀(l:List (Nat×Oper)) (i:Nat) (st:St),ym ops i l→l.length=ops.size-i→ba P Eqs Sg F rid true ops b l st kk=some r →
  ∃(T:Nat→Nat→AV) (H:Nat→Hp) (E:Nat→Option bm),T i=look st.tmps∧H i=st.heap.get∧(∀k o,i≤k→ops[k]? = some o→yq P Eqs Sg F rid ops b T H E k o) ∧
   ∃dI,kk dI=some r∧look dI.tmps=T (max i ops.size)∧dI.heap.get=H (max i ops.size)
 |[],i,st,_,hlen,hx=>by
  have Qv:ops.size≤i:=by simp at hlen;omega
  refine⟨fun _=>look st.tmps,fun _=>st.heap.get,fun _=>none,rfl,rfl,fun k o hk ho=>?_,st,hx,rfl,rfl⟩
  have:=(Array.getElem?_eq_some_iff.1 ho).1
  omega
 |(i',o)::l,i,st,hl,hlen,hx=>by
  obtain⟨rfl,ho,hl⟩:=hl
  have aG:=(Array.getElem?_eq_some_iff.1 ho).1
  have ih:=trace (kk:=kk) (r:=r) l (i'+1)
  have Ut:l.length=ops.size-(i'+1):=by simp at hlen;omega
  have glue:∀(dI:St) (oe:Option bm),ba P Eqs Sg F rid true ops b l dI kk=some r →
    (∀T H E,T i'=look st.tmps→H i'=st.heap.get→E i'=oe→T (i'+1)=look dI.tmps→H (i'+1)=dI.heap.get→yq P Eqs Sg F rid ops b T H E i' o) →
    ∃(T:Nat→Nat→AV) (H:Nat→Hp) (E:Nat→Option bm),T i'=look st.tmps∧H i'=st.heap.get∧(∀k o,i'≤k→ops[k]? = some o→yq P Eqs Sg F rid ops b T H E k o) ∧
     ∃dI,kk dI=some r∧look dI.tmps=T (max i' ops.size)∧dI.heap.get=H (max i' ops.size):=by
   intro dI oe T3 sO
   obtain⟨T,H,E,h1,h2,h3,YS,h4,h5,h6⟩:=ih dI hl Ut T3
   refine⟨fun k=>if k≤i' then look st.tmps else T k,fun k=>if k≤i' then st.heap.get else H k,fun k=>if k=i' then oe else E k,by simp,by simp,fun k o' hk ma => ?_,YS,h4,?_,?_⟩
   ·by_cases XT:k=i'
    ·subst XT
     rw[ho]at ma
     cases ma
     exact sO _ _ _ (by simp) (by simp) (by simp) (by show(if k+1≤k then _ else _)=_;rw[if_neg (by omega)];exact h1) (by show(if k+1≤k then _ else _)=_;rw[if_neg (by omega)];exact h2)
    ·have h7:=h3 k o' (by omega) ma
     unfold yq at h7 ⊢
     simp only[show ¬k≤i' by omega,show ¬k+1≤i' by omega,XT,if_false]
     exact h7
   ·rw[h5];simp only[show max (i'+1) ops.size=ops.size by omega,show max i' ops.size=ops.size by omega,show ¬ops.size≤i' by omega,if_false]
   ·rw[h6];simp only[show max (i'+1) ops.size=ops.size by omega,show max i' ops.size=ops.size by omega,show ¬ops.size≤i' by omega,if_false]
  have runs:∀gH:St,look gH.tmps=look st.tmps→gH.heap=st.heap→ov ops (look st.tmps) o true →
    (cy P Eqs Sg F (opId rid i') (fW (ahead rid (b.getD i' 0) gH.heap) (fX ops b i' gH.tmps o)) gH.tmps o fun e=>if(fP true rid ops b i' (b.getD i' 0) (fQ (fX ops b i' gH.tmps o) (ahead rid (b.getD i' 0) gH.heap) e)&&lZ (fX ops b i' gH.tmps o) e)=true then ba P Eqs Sg F rid true ops b l ({ gH with heap:=match fQ (fX ops b i' gH.tmps o) (ahead rid (b.getD i' 0) gH.heap) e with | .wr _ h=>h|e=>e.h gH.heap }.put o.dst e.v) kk else none)=some r →
    ∃(T:Nat→Nat→AV) (H:Nat→Hp) (E:Nat→Option bm),T i'=look st.tmps∧H i'=st.heap.get∧(∀k o,i'≤k→ops[k]? = some o→yq P Eqs Sg F rid ops b T H E k o) ∧
     ∃dI,kk dI=some r∧look dI.tmps=T (max i' ops.size)∧dI.heap.get=H (max i' ops.size):=by
   intro gH h1 h2 hw hx
   rw[kt]at hx
   obtain⟨e,he,hx⟩:=Option.bind_eq_some_iff.1 hx
   split at hx
   ·rename_i lq
    rw[Bool.and_eq_true]at lq
    generalize Cw:fQ (fX ops b i' gH.tmps o) (ahead rid (b.getD i' 0) gH.heap) e=e1 at hx lq
    have sY:e.v=e1.v:=by rw[←Cw];exact(LO _ _ _).symm
    refine glue _ (some e1) hx fun T H E hT hH hE YT RG => ?_
    refine .inl ⟨e1,gH.tmps,_,hE,by rw[hT,h1],fun id=>by rw[JR,hH,h2],⟨e,he,Cw.symm,lq.2⟩,lq.1,by rw[hT];exact hw,?_,?_⟩
    ·rw[YT,gj,hT,sY];simp only[h1]
    ·rw[RG,cK,hH]
     have:(bm.heap e1 gH.heap).get=e1.hp st.heap.get:=by rw[bm.DZ,h2]
     exact this
   ·cases hx
  have te:∀gH:St,look gH.tmps=look st.tmps→gH.heap=st.heap→ov ops (look st.tmps) o false →
    ba P Eqs Sg F rid true ops b l (gH.put o.dst (.lW [])) kk=some r →
    ∃(T:Nat→Nat→AV) (H:Nat→Hp) (E:Nat→Option bm),T i'=look st.tmps∧H i'=st.heap.get∧(∀k o,i'≤k→ops[k]? = some o→yq P Eqs Sg F rid ops b T H E k o) ∧
     ∃dI,kk dI=some r∧look dI.tmps=T (max i' ops.size)∧dI.heap.get=H (max i' ops.size):=by
   intro gH h1 h2 hw hx
   refine glue _ none hx fun T H E hT hH hE YT RG=>.inr ⟨hE,by rw[hT];exact hw,?_,?_⟩
   ·rw[YT,gj,hT,h1]
   ·rw[RG,cK,hH,h2]
  rw[ba]at hx
  simp only[if_true]at hx
  split at hx
  ·rename_i hg
   exact runs st rfl rfl (by simp[ov,hg]) hx
  ·rename_i jj want hg
   split at hx
   ·cases hx
   ·rename_i d hd
    split at hx
    ·rename_i t ht
     have hp:∀b,t=b→look (st.put (some d) (.bool b)).tmps=look st.tmps:=fun b hb=>by
      subst hb;rw[gj];exact Bb ht
     have hw:∀c,(t==want)=c→ov ops (look st.tmps) o c:=fun c hc=>by
      unfold ov;rw[hg];exact⟨d,hd,.inl ⟨t,ht,hc⟩⟩
     cases t<;>simp only[cond_true,cond_false]at hx<;>split at hx<;>rename_i py
     ·exact te _ (hp false rfl) (cK _ _ _) (hw _ (by simp[py])) hx
     ·exact runs _ (hp false rfl) (cK _ _ _) (hw _ (by simp[py])) hx
     ·exact runs _ (hp true rfl) (cK _ _ _) (hw _ (by simp[py])) hx
     ·exact te _ (hp true rfl) (cK _ _ _) (hw _ (by simp[py])) hx
    ·rename_i vs ht
     exact te st rfl rfl (by unfold ov;rw[hg];exact⟨d,hd,.inr ⟨vs,ht,rfl⟩⟩) hx
    ·cases hx
def Nf(ops:Array Oper)(j:Nat):Prop:=∃o,ops[j]? = some o∧lY o.op=false∧ij o.op=none
def wQ(E:Nat→Option bm)(k:Nat):Prop:=∃v h',E k=some (.wr v h')
def Tw(E:Nat→Option bm)(k:Nat):Prop:=∃v os,E k=some (.new v os)
theorem tf{α:Type}(f:α→Option Nat):∀(l:List α),bP (l.filterMap f)=true→∀(i j:Nat) (x y:α) (d:Nat),l[i]? = some x→l[j]? = some y→f x=some d→f y=some d→i=j
 |[],_,i,j,x,y,d,hi,_,_,_=>by simp at hi
 |a::r,hn,i,j,x,y,d,hi,hj,hx,hy=>by
  have iw:∀(k:Nat) (z:α),r[k]? = some z→f z=some d→d∈r.filterMap f:=fun k z hk hz=>List.mem_filterMap.2 ⟨z,List.mem_of_getElem? hk,hz⟩
  have hr:bP (r.filterMap f)=true∧∀c,f a=some c→c∉r.filterMap f:=by
   rw[List.filterMap_cons]at hn
   split at hn
   ·rename_i h0;exact⟨hn,fun c hc=>by rw[h0]at hc;cases hc⟩
   ·rename_i c h0
    simp only[bP,Bool.and_eq_true,Bool.not_eq_true']at hn
    refine⟨hn.2,fun c' hc=>?_⟩
    rw[h0]at hc;cases hc
    intro hm
    rw[List.contains_iff_mem.2 hm]at hn;simp at hn
  cases i with
  |zero =>
   cases j with
   |zero=>rfl
   |succ j =>
    simp only[List.getElem?_cons_zero,Option.some.injEq]at hi;subst hi
    exact absurd (iw j y (by simpa using hj) hy) (hr.2 d hx)
  |succ i =>
   cases j with
   |zero =>
    simp only[List.getElem?_cons_zero,Option.some.injEq]at hj;subst hj
    exact absurd (iw i x (by simpa using hi) hx) (hr.2 d hy)
   |succ j=>rw[tf f r hr.1 i j x y d (by simpa using hi) (by simpa using hj) hx hy]
structure Dr(P:Program)(Eqs:TypeId→Option K)(Sg:FuncId→Option aK)(F:(f:FuncId)→(g:aK)→g.A→Option g.B)(rid n:Nat)(ops:Array Oper)(b:Array Nat)(T:Nat→Nat→AV)(H:Nat→Hp)(E:Nat→Option bm):Prop where
 size:ops.size≤128
 KV:sG ops b=true
 pair:xu ops b=true
 YU:∀(i:Nat) (o:Oper),ops[i]? = some o→gx n o=true
 nodup:bP (ops.toList.filterMap (·.dst))=true
 step:∀k o,ops[k]? = some o→yq P Eqs Sg F rid ops b T H E k o
 YV:∀id,H 0 id≠none→id / 32768≠rid+1
section
variable {T:Nat→Nat→AV} {H:Nat→Hp} {E:Nat→Option bm}
theorem Dr.wR(D:Dr P Eqs Sg F rid n ops b T H E){i j:Nat}{x y:Oper}{d:Nat}(hi:ops[i]? = some x)(hj:ops[j]? = some y)(hx:x.dst=some d)(hy:y.dst=some d):i=j :=
 tf (·.dst) ops.toList D.nodup i j x y d (by simpa using hi) (by simpa using hj) hx hy
theorem Dr.QA(D:Dr P Eqs Sg F rid n ops b T H E){i j:Nat}{x y:Oper}(hi:ops[i]? = some x)(hj:ops[j]? = some y)(xQ:i<j):qq b j i∨x.apart ops y=true:=by
 have h1:=List.all_eq_true.1 D.pair j (List.mem_range.2 (Array.getElem?_eq_some_iff.1 hj).1)
 have h2:=List.all_eq_true.1 h1 i (List.mem_range.2 xQ)
 rw[hi,hj]at h2
 simp only[Bool.or_eq_true,Bool.and_eq_true]at h2
 exact h2
theorem Dr.O0(D:Dr P Eqs Sg F rid n ops b T H E){k:Nat}{o:Oper}(ho:ops[k]? = some o){e:bm}(he:E k=some e) :
  ∃s hh,look s=T k∧(∀id,Heap.get hh id=if oW rid (b.getD k 0) id then H k id else none)∧(∃e0,cy P Eqs Sg F (opId rid k) (fW hh (fX ops b k s o)) s o some=some e0∧e=fQ (fX ops b k s o) hh e0∧lZ (fX ops b k s o) e0=true) ∧
   fP true rid ops b k (b.getD k 0) e=true∧ov ops (T k) o true∧T (k+1)=hP (T k) o.dst e.v∧H (k+1)=e.hp (H k):=by
 rcases D.step k o ho with⟨e',s,hh,h1,h2⟩|⟨h1,_⟩
 ·rw[he]at h1;cases h1;exact⟨s,hh,h2⟩
 ·rw[he]at h1;cases h1
theorem Dr.Cx(D:Dr P Eqs Sg F rid n ops b T H E){k:Nat}{o:Oper}(ho:ops[k]? = some o)(he:E k=none) :
  ov ops (T k) o false∧T (k+1)=hP (T k) o.dst (.lW [])∧H (k+1)=H k:=by
 rcases D.step k o ho with⟨e',s,hh,h1,h2⟩|⟨h1,h2⟩
 ·rw[he]at h1;cases h1
 ·exact h2
theorem Dr.uL(D:Dr P Eqs Sg F rid n ops b T H E){k:Nat}(hk:k<ops.size)(h:Tw E k):Nf ops k:=by
 obtain⟨v,os,he⟩:=h
 obtain⟨s,hh,_,_,⟨e0,h3,Qr,_⟩,_⟩:=D.O0 (Array.getElem?_eq_getElem hk) he
 refine⟨_,Array.getElem?_eq_getElem hk,?_,?_⟩
 ·cases hf:lY (ops[k]).op with
  |false=>rfl
  |true=>obtain⟨v',rfl⟩:=DV hf h3;cases Qr
 ·cases hf:ij (ops[k]).op with
  |none=>rfl
  |some x=>obtain⟨v',rfl⟩:=D2 hf h3;cases Qr
theorem Dr.LP(D:Dr P Eqs Sg F rid n ops b T H E){k:Nat}(hk:k<ops.size)(h:wQ E k):Nf ops k:=by
 obtain⟨v,os,he⟩:=h
 obtain⟨s,hh,_,_,⟨e0,h3,Qr,_⟩,_⟩:=D.O0 (Array.getElem?_eq_getElem hk) he
 refine⟨_,Array.getElem?_eq_getElem hk,?_,?_⟩
 ·cases hf:lY (ops[k]).op with
  |false=>rfl
  |true=>obtain⟨v',rfl⟩:=DV hf h3;cases Qr
 ·cases hf:ij (ops[k]).op with
  |none=>rfl
  |some x=>obtain⟨v',rfl⟩:=D2 hf h3;cases Qr
theorem Dr.yr(D:Dr P Eqs Sg F rid n ops b T H E){k j:Nat}(hk:k<ops.size)(h:wQ E k)(hj:Nf ops j)(aU:j≠k):(j<k∧qq b k j)∨(k<j∧qq b j k):=by
 obtain⟨v,os,he⟩:=h
 obtain⟨s,hh,_,_,_,h4,_⟩:=D.O0 (Array.getElem?_eq_getElem hk) he
 obtain⟨o,ho,hf,N4⟩:=hj
 have FQ:=(Array.getElem?_eq_some_iff.1 ho).1
 simp only[fP,Bool.and_eq_true]at h4
 have h5:F6 ops b k=true:=by simpa using h4.1.1
 have h6:=List.all_eq_true.1 h5 j (List.mem_range.2 FQ)
 have hlf:sH ops k j=false:=by unfold sH;rw[ho];simp only[Option.bind_some,N4]
 rw[hlf,Bool.and_false,ho]at h6
 simp only[Bool.or_eq_true,beq_iff_eq,hf,Bool.false_eq_true,or_false]at h6
 rcases h6 with(h6|h6)|h6
 ·exact absurd h6 aU
 ·exact .inr ⟨yp D.KV j k FQ h6,h6⟩
 ·exact .inl ⟨yp D.KV k j hk h6,h6⟩
theorem Dr.yu(D:Dr P Eqs Sg F rid n ops b T H E){p:Nat}:∀(q:Nat),p≤q→q≤ops.size→∀id,(∀k,p≤k→k<q→wQ E k→H (k+1) id=H k id)→(∀k,p≤k→k<q→Tw E k→¬Of rid k id)→H q id=H p id:=by
 intro q
 induction q with
 |zero=>intro xU _ id _ _;rw[Nat.le_zero.1 xU]
 |succ q ih =>
  intro xU hq id hw bw
  by_cases he:p=q+1
  ·rw[he]
  ·have h1:=ih (by omega) (by omega) id (fun k h1 h2=>hw k h1 (by omega)) (fun k h1 h2=>bw k h1 (by omega))
   rw[←h1]
   have ho:=Array.getElem?_eq_getElem (show q<ops.size by omega)
   cases hE:E q with
   |none=>rw[(D.Cx ho hE).2.2]
   |some e =>
    obtain⟨s,hh,_,_,_,h4,_,_,h7⟩:=D.O0 ho hE
    cases e with
    |val v=>rw[h7];rfl
    |wr v h'=>exact hw q (by omega) (by omega) ⟨v,h',hE⟩
    |new v os =>
     rw[h7]
     simp only[bm.hp]
     cases KS:Heap.get os id with
     |none=>rfl
     |some o' =>
      exfalso
      simp only[fP,Bool.and_eq_true]at h4
      refine bw q (by omega) (by omega) ⟨v,os,hE⟩ ?_
      have:∀(l:Heap),(l.all fun p=>p.1 / 256==(rid+1)*128+q)=true→∀o',l.get id=some o'→Of rid q id:=by
       intro l
       induction l with
       |nil=>intro _ o' h;simp[Heap.get]at h
       |cons a r YW =>
        intro eu o' hg
        simp only[List.all_cons,Bool.and_eq_true,beq_iff_eq]at eu
        simp only[Heap.get]at hg
        split at hg
        ·rename_i e;rw[←e];exact eu.1
        ·exact YW eu.2 o' hg
      exact this os h4.1.2 o' KS
theorem Dr.wS(D:Dr P Eqs Sg F rid n ops b T H E){p:Nat}(q:Nat)(xU:p≤q)(hq:q≤ops.size)(hw:∀k,p≤k→k<q→¬wQ E k)(id:Nat)(hn:∀k,p≤k→k<q→Tw E k→¬Of rid k id):H q id=H p id :=
 D.yu q xU hq id (fun k h1 h2 h3=>absurd h3 (hw k h1 h2)) hn
theorem Dr.names(D:Dr P Eqs Sg F rid n ops b T H E):∀(k:Nat),k≤ops.size→∀id,H k id≠none→id / 32768=rid+1→∃j,Of rid j id∧j<k∧j<128∧(Tw E j∨∃w,w<k∧wQ E w∧(j=w∨qq b w j)):=by
 intro k
 induction k with
 |zero=>intro _ id h1 h2;exact absurd h2 (D.YV id h1)
 |succ k ih =>
  intro hk id h1 h2
  have aG:k<ops.size:=by omega
  have up:H k id≠none→∃j,Of rid j id∧j<k+1∧j<128∧(Tw E j∨∃w,w<k+1∧wQ E w∧(j=w∨qq b w j)):=fun h=>by
   obtain⟨j,h3,h4,YD,h5⟩:=ih (by omega) id h h2
   exact⟨j,h3,by omega,YD,h5.imp (fun h=>h) fun⟨w,h6,h7⟩=>⟨w,by omega,h7⟩⟩
  have ho:=Array.getElem?_eq_getElem aG
  have LQ:=D.size
  cases hE:E k with
  |none=>rw[(D.Cx ho hE).2.2]at h1;exact up h1
  |some e =>
   obtain⟨s,hh,_,_,_,h4,_,_,h7⟩:=D.O0 ho hE
   rw[h7]at h1
   cases e with
   |val v=>exact up h1
   |wr v h' =>
    obtain⟨o',ma⟩:=Option.ne_none_iff_exists'.1 h1
    simp only[fP,Bool.and_eq_true]at h4
    have h5:(b.getD k 0 ||| 2 ^ k).testBit (id / 256%128)=true:=(kS (S:=fun j=>(b.getD k 0 ||| 2 ^ k).testBit j=true) (fun j hj=>hj) h4.2 id o' ma).1 h2
    rw[Nat.testBit_or,Bool.or_eq_true,Nat.testBit_two_pow]at h5
    refine⟨id / 256%128,Of.of h2 rfl,?_,by omega,.inr ⟨k,by omega,⟨v,h',hE⟩,?_⟩⟩
    ·rcases h5 with h5|h5
     ·have:=yp D.KV k _ aG h5;omega
     ·have:=of_decide_eq_true h5;omega
    ·rcases h5 with h5|h5
     ·exact .inr h5
     ·exact .inl (of_decide_eq_true h5).symm
   |new v os =>
    simp only[bm.hp]at h1
    cases KS:Heap.get os id with
    |none=>rw[KS]at h1;exact up h1
    |some o' =>
     simp only[fP,Bool.and_eq_true]at h4
     have:∀(l:Heap),(l.all fun p=>p.1 / 256==(rid+1)*128+k)=true→∀o',l.get id=some o'→Of rid k id:=by
      intro l
      induction l with
      |nil=>intro _ o' h;simp[Heap.get]at h
      |cons a r YW =>
       intro eu o' hg
       simp only[List.all_cons,Bool.and_eq_true,beq_iff_eq]at eu
       simp only[Heap.get]at hg
       split at hg
       ·rename_i e;rw[←e];exact eu.1
       ·exact YW eu.2 o' hg
     exact⟨k,this os h4.1.2 o' KS,by omega,by omega,.inl ⟨v,os,hE⟩⟩
theorem Dr.RT(D:Dr P Eqs Sg F rid n ops b T H E){q:Nat}(ng:q<ops.size)(O2:wQ E q):∀id,H q id≠none→lu rid (qq b q) id:=fun id aU LR=>by
 obtain⟨j,h1,h2,YX,h3⟩:=D.names q (by omega) id aU LR
 rw[(h1.parts YX).2]
 rcases h3 with h3|⟨w',h5,h6,h8⟩
 ·rcases D.yr ng O2 (D.uL (by omega) h3) (by omega) with⟨_,h9⟩|⟨h9,_⟩
  ·exact h9
  ·omega
 ·have Uu:qq b q w':=by
   rcases D.yr ng O2 (D.LP (by omega) h6) (by omega) with⟨_,h9⟩|⟨h9,_⟩
   ·exact h9
   ·omega
  rcases h8 with rfl|h8
  ·exact Uu
  ·exact Bg D.KV q w' j ng Uu h8
theorem Dr.uM(D:Dr P Eqs Sg F rid n ops b T H E){d p:Nat}:∀(q:Nat),p≤q→q≤ops.size→(∀m o,p≤m→m<q→ops[m]? = some o→o.dst≠some d)→T q d=T p d
 |0,h,_,_=>by rw[Nat.le_zero.1 h]
 |q+1,h,hq,hm=>by
  by_cases e:p=q+1
  ·rw[e]
  ·have ho:=Array.getElem?_eq_getElem (show q<ops.size by omega)
   have ih:=D.uM q (by omega) (by omega) fun m o h1 h2=>hm m o h1 (by omega)
   rw[←ih]
   have hd:=hm q _ (by omega) (by omega) ho
   have key:∀v,hP (T q) (ops[q]).dst v d=T q d:=fun v=>by
    cases jZ:(ops[q]).dst with
    |none=>rfl
    |some d' =>
     simp only[hP,dy]
     rw[if_neg]
     rintro rfl
     exact hd jZ
   rcases D.step q _ ho with⟨e,s,hh,_,_,_,_,_,_,h7,_⟩|⟨_,_,h3,_⟩
   ·rw[h7,key]
   ·rw[h3,key]
theorem Dr.steady(D:Dr P Eqs Sg F rid n ops b T H E){i k:Nat}{o:Oper}{x:Operand}(ho:ops[i]? = some o)(hl:ij o.op=some x)(hk:k<ops.size)(hw:wQ E k)(aU:i≠k)(h1:¬qq b i k)(h2:¬qq b k i)
  {s:List (Nat×AV)} (hs:look s=T i) {id:Nat} (bw:id∈sI (ρ s x)):H (k+1) id=H k id:=by
 have ng:=(Array.getElem?_eq_some_iff.1 ho).1
 obtain⟨v,h',hE⟩:=hw
 have lq:=Array.getElem?_eq_getElem hk
 obtain⟨sk,hh,LS,O3,⟨e0,Qr,Cw,rM⟩,h4,_,_,h7⟩:=D.O0 lq hE
 simp only[fP,Bool.and_eq_true]at h4
 have h5:F6 ops b k=true:=by simpa using h4.1.1
 have h6:=List.all_eq_true.1 h5 i (List.mem_range.2 ng)
 rw[ho,lq]at h6
 have b1:(b.getD i 0).testBit k=false:=Bool.eq_false_iff.2 h1
 have b2:(b.getD k 0).testBit i=false:=Bool.eq_false_iff.2 h2
 have b3:(i==k)=false:=by simp[aU]
 simp only[b1,b2,b3,(Bh hl).1,Bool.false_or,Bool.and_eq_true]at h6
 obtain⟨Bi,H9⟩:=h6
 have Uv:fX ops b k sk ops[k]=Rn ops b k sk:=by unfold fX;rw[if_pos Bi]
 have ml:ρ sk x=ρ s x:=by
  cases x with
  |tmp d =>
   simp only[ρ,LS,hs]
   unfold sH at H9
   rw[ho]at H9
   simp only[Option.bind_some,hl]at H9
   have hm:∀m o',min k i≤m→m<max k i→ops[m]? = some o'→o'.dst≠some d:=fun m o' g1 g2 g3 hd=>by
    have g4:=List.all_eq_true.1 H9 m (List.mem_range.2 (by omega))
    rw[g3]at g4
    simp[hd,g1,g2]at g4
   rcases Nat.lt_or_ge i k with g|g
   ·exact D.uM k (by omega) (by omega) fun m o' g1 g2=>hm m o' (by omega) (by omega)
   ·exact(D.uM i (by omega) (by omega) fun m o' g1 g2=>hm m o' (by omega) (by omega)).symm
  |_=>rfl
 have iw:id∈fX ops b k sk ops[k]:=by
  rw[Uv]
  unfold Rn
  refine List.mem_flatMap.2 ⟨i,List.mem_range.2 ng,?_⟩
  rw[b1,b2,b3,ho]
  simp only[Bool.or_self,Bool.false_eq_true,if_false,Option.bind_some,hl]
  rw[ml];exact bw
 cases e0 with
 |val v0=>cases Cw
 |new v0 os=>cases Cw
 |wr v0 N1 =>
  cases Cw
  simp only[lZ,Bool.and_eq_true]at rM
  have hn:N1.get id=none:=by
   cases e:N1.get id with
   |none=>rfl
   |some ob=>exact absurd iw (jG rM.2 id ob e).1
  rw[h7]
  show(dS _ hh N1).get id=H k id
  rw[jE,if_pos iw,hn,O3 id]
  cases YY:H k id with
  |none=>simp
  |some ob =>
   have h8:=D.RT hk ⟨_,_,hE⟩ id (by rw[YY];simp)
   have h9:oW rid (b.getD k 0) id=true:=by
    unfold oW
    by_cases hr:id / 32768=rid+1
    ·have:=h8 hr
     unfold qq at this
     rw[this];simp
    ·simp[hr]
   rw[if_pos h9]
end
end Go.Vs
namespace Go.Vs
variable {P:Program} {Eqs:TypeId→Option K} {Sg:FuncId→Option aK} {F:(f:FuncId)→(g:aK)→g.A→Option g.B} {R:Type}
variable {Z Z' Z0:Nat→Prop} {ψ ψ' ψ0:Nat→Value} {h h':Hp} {w w' w0:World} {B0:Nat} {O N:Nat→Prop}
variable {rid n:Nat} {ops:Array Oper} {b:Array Nat} {T:Nat→Nat→AV} {H:Nat→Hp} {E:Nat→Option bm}
structure Dj(rid:Nat)(ops:Array Oper)(b:Array Nat)(T:Nat→Nat→AV)(H:Nat→Hp)(E:Nat→Option bm)(S:Nat→Prop)(Tc:Nat→AV)(h:Hp):Prop where
 lt:∀i,S i→i<ops.size
 closed:∀i j,S i→qq b i j→S j
 heap:∃q,q≤ops.size∧(∀k,k<q→wQ E k→S k)∧(q<ops.size→wQ E q∧¬S q)∧∀id,(lu rid S id→h id=H q id)∧(¬lu rid S id→h id=none)
 LU:∀j o d,S j→ops[j]? = some o→o.dst=some d→Tc d=T (j+1) d
 told:∀d,(∀j o,S j→ops[j]? = some o→o.dst≠some d)→Tc d=T 0 d
theorem Dr.LV(D:Dr P Eqs Sg F rid n ops b T H E){k:Nat}{o:Oper}(ho:ops[k]? = some o){d:Nat}(hd:o.dst≠some d):T (k+1) d=T k d:=by
 have:∀v,hP (T k) o.dst v d=T k d:=fun v=>by
  cases jZ:o.dst with
  |none=>rfl
  |some d' =>
   simp only[hP,dy]
   rw[if_neg]
   rintro rfl
   exact hd jZ
 rcases D.step k o ho with⟨e,s,hh,_,_,_,_,_,_,h7,_⟩|⟨_,_,h3,_⟩
 ·rw[h7,this]
 ·rw[h3,this]
theorem Dr.tg(D:Dr P Eqs Sg F rid n ops b T H E){d:Nat}:∀(i:Nat),i≤ops.size→(∀k o,k<i→ops[k]? = some o→o.dst≠some d)→T i d=T 0 d
 |0,_,_=>rfl
 |i+1,hi,hk=>by
  rw[D.LV (Array.getElem?_eq_getElem (show i<ops.size by omega)) (hk i _ (by omega) (Array.getElem?_eq_getElem (by omega)))]
  exact D.tg i (by omega) fun k o h1 h2=>hk k o (by omega) h2
theorem Dr.Cz(D:Dr P Eqs Sg F rid n ops b T H E){d j:Nat}{oj:Oper}(hj:ops[j]? = some oj)(hd:oj.dst=some d):∀(i:Nat),i≤ops.size→j<i→T i d=T (j+1) d
 |0,_,h=>by omega
 |i+1,hi,h=>by
  by_cases e:j=i
  ·rw[e]
  ·have ho:=Array.getElem?_eq_getElem (show i<ops.size by omega)
   rw[D.LV ho (fun hdi=>e (D.wR hj ho hd hdi))]
   exact D.Cz hj hd i (by omega) (by omega)
theorem Dr.looks(D:Dr P Eqs Sg F rid n ops b T H E){S:Nat→Prop}{Tc:Nat→AV}(dj:Dj rid ops b T H E S Tc h){i:Nat}{o:Oper}(ho:ops[i]? = some o)(hS:¬S i)(hb:∀j,qq b i j→S j){d:Nat}(hd:d∈o.looksAt ops):Tc d=T i d:=by
 have hi:=(Array.getElem?_eq_some_iff.1 ho).1
 by_cases hex:∃(j:Nat) (oj:Oper),ops[j]? = some oj∧oj.dst=some d
 ·obtain⟨j,oj,hj,Tx⟩:=hex
  have da:¬S j→Tc d=T 0 d:=fun hn=>dj.told d fun j' o' hs ma LW=>hn (by rw[D.wR hj ma Tx LW];exact hs)
  have KV:i≤j→T i d=T 0 d:=fun xQ=>D.tg i (by omega) fun k o' hk ma LW=>by have:=D.wR hj ma Tx LW;omega
  rcases Nat.lt_trichotomy j i with aG|rfl|CA
  ·rcases D.QA hj ho aG with h1|h1
   ·rw[dj.LU j oj d (hb j h1) hj Tx,D.Cz hj Tx i (by omega) aG]
   ·exact absurd hd ((Oper.apart_spec h1).1 d Tx)
  ·rw[da hS,KV (Nat.le_refl _)]
  ·rcases D.QA ho hj CA with h1|h1
   ·rw[da (fun hs=>hS (dj.closed j i hs h1)),KV (by omega)]
   ·exact absurd hd ((Oper.apart_spec h1).2.2 d Tx)
 ·rw[dj.told d fun j o' _ ma LW=>hex ⟨j,o',ma,LW⟩,D.tg i (by omega) fun k o' _ ma LW=>hex ⟨k,o',ma,LW⟩]
theorem Dr.LY{S:Nat→Prop}{Tc:Nat→AV}(D:Dr P Eqs Sg F rid n ops b T H E)(dj:Dj rid ops b T H E S Tc h){i:Nat}{o:Oper}(ho:ops[i]? = some o)(hS:¬S i){v:AV}(hv:T (i+1)=hP (T i) o.dst v) :
  (∀j o' d,(S j∨j=i)→ops[j]? = some o'→o'.dst=some d→hP Tc o.dst v d=T (j+1) d)∧(∀d,(∀j o',(S j∨j=i)→ops[j]? = some o'→o'.dst≠some d)→hP Tc o.dst v d=T 0 d):=by
 constructor
 ·intro j o' d hj ma hd
  rcases hj with hj|rfl
  ·have aU:j≠i:=fun e=>hS (e▸hj)
   have:hP Tc o.dst v d=Tc d:=by
    cases jZ:o.dst with
    |none=>rfl
    |some d' =>
     simp only[hP,dy]
     rw[if_neg]
     rintro rfl
     exact aU (D.wR ma ho hd jZ)
   rw[this];exact dj.LU j o' d hj ma hd
  ·rw[ho]at ma;cases ma
   rw[hv,hd];simp[hP,dy]
 ·intro d hd
  have:hP Tc o.dst v d=Tc d:=by
   cases jZ:o.dst with
   |none=>rfl
   |some d' =>
    simp only[hP,dy]
    rw[if_neg]
    rintro rfl
    exact hd i o (.inr rfl) ho jZ
  rw[this];exact dj.told d fun j o' hj=>hd j o' (.inl hj)
theorem th{i k id:Nat}(h1:Of rid i id)(h2:Of rid k id):i=k:=by unfold Of at h1 h2;omega
section
variable {S:Nat→Prop} {Tc:Nat→AV}
theorem Dr.calm(D:Dr P Eqs Sg F rid n ops b T H E)(dj:Dj rid ops b T H E S Tc h){i q:Nat}(hi:Nf ops i)(hS:¬S i)(hq:q≤ops.size)(hw:∀k,k<q→wQ E k→S k):∀k,i≤k→k<q→¬wQ E k:=by
 intro k O4 hkq hk
 have LS:=hw k hkq hk
 have aU:i≠k:=fun e=>hS (e▸LS)
 rcases D.yr (by omega) hk hi aU with⟨_,h1⟩|⟨h1,_⟩
 ·exact hS (dj.closed k i LS h1)
 ·omega
theorem Dr.seen(D:Dr P Eqs Sg F rid n ops b T H E)(dj:Dj rid ops b T H E S Tc h){i:Nat}(hi:Nf ops i)(hS:¬S i)(hb:∀j,qq b i j→S j){hh:Heap}(O3:∀id,Heap.get hh id=if oW rid (b.getD i 0) id then H i id else none) :
  ∀id o,hh.get id=some o→h id=some o:=by
 obtain⟨q,hq,hw,gR,eC⟩:=dj.heap
 have ng:i<ops.size:=by obtain⟨o,ho,XU,hf2⟩:=hi;exact(Array.getElem?_eq_some_iff.1 ho).1
 have Uw:i≤q:=by
  rcases Nat.lt_or_ge q i with h1|h1
  ·obtain⟨h2,h3⟩:=gR (by omega)
   rcases D.yr (by omega) h2 hi (by omega) with⟨h4,_⟩|⟨_,h4⟩
   ·omega
   ·exact absurd (hb q h4) h3
  ·exact h1
 intro id o bw
 rw[O3]at bw
 split at bw
 ·rename_i lq
  have lr:lu rid S id:=mF hb lq
  rw[(eC id).1 lr,D.wS q Uw hq (D.calm dj hi hS hq hw) id fun k hk _ _ ho=>?_,bw]
  have LR:=(ho.parts (by have:=D.size;omega)).1
  obtain⟨j,h1,h2,_⟩:=D.names i (by omega) id (by rw[bw];simp) LR
  have:=th h1 ho
  omega
 ·cases bw
theorem Dr.JS(D:Dr P Eqs Sg F rid n ops b T H E)(dj:Dj rid ops b T H E S Tc h){i:Nat}{o:Oper}{x:Operand}(ho:ops[i]? = some o)(hl:ij o.op=some x)(hS:¬S i)(hb:∀j,qq b i j→S j){s:List (Nat×AV)}(hs:look s=T i)
  {hh:Heap} (O3:∀id,Heap.get hh id=if oW rid (b.getD i 0) id then H i id else none):∀id∈sI (ρ s x),∀ob,hh.get id=some ob→h id=some ob:=by
 obtain⟨q,hq,hw,gR,eC⟩:=dj.heap
 have ng:=(Array.getElem?_eq_some_iff.1 ho).1
 have LQ:=D.size
 intro id bw ob iV
 rw[O3]at iV
 split at iV
 ·rename_i lq
  have lr:lu rid S id:=mF hb lq
  rw[(eC id).1 lr,←iV]
  rcases Nat.lt_or_ge q i with hqi|Uw
  ·obtain⟨h2,h3⟩:=gR (by omega)
   have later:∀k,q<k→k<ops.size→Nf ops k→qq b k q:=fun k h4 h5 h6=>by
    rcases D.yr (by omega) h2 h6 (by omega) with⟨h7,_⟩|⟨_,h7⟩
    ·omega
    ·exact h7
   have Ux:∀k,q≤k→k<i→Nf ops k→¬S k:=fun k h4 h5 h6 hk=>by
    rcases Nat.eq_or_lt_of_le h4 with e|h7
    ·exact h3 (e▸hk)
    ·exact h3 (dj.closed k q hk (later k h7 (by omega) h6))
   symm
   refine D.yu i (by omega) (by omega) id (fun k h4 h5 h6=>?_) (fun k h4 h5 h6 h7=>?_)
   ·have YZ:=Ux k h4 h5 (D.LP (by omega) h6)
    exact D.steady ho hl (by omega) h6 (by omega) (fun GL=>YZ (hb k GL)) (fun GL=>by have:=yp D.KV k i (by omega) GL;omega) hs bw
   ·have YZ:=Ux k h4 h5 (D.uL (by omega) h6)
    have h8:=h7.parts (show k<128 by omega)
    have h9:=lr h8.1
    rw[h8.2]at h9
    exact YZ h9
  ·refine D.yu q Uw hq id (fun k h4 h5 h6=>?_) (fun k h4 h5 h6 h7=>?_)
   ·have LS:=hw k h5 h6
    have aU:i≠k:=fun e=>hS (e▸LS)
    exact D.steady ho hl (by omega) h6 aU (fun GL=>by have:=yp D.KV i k ng GL;omega) (fun GL=>hS (dj.closed k i LS GL)) hs bw
   ·obtain⟨j,h8,h9,_⟩:=D.names i (by omega) id (by rw[iV];simp) (h7.parts (by omega)).1
    have:=th h8 h7
    omega
 ·cases iV
theorem LZ(E:Nat→Option bm)(S:Nat→Prop)(m:Nat):∃q,q≤m∧(∀k,k<q→wQ E k→S k)∧(q<m→wQ E q∧¬S q):=by
 classical
 induction m with
 |zero=>exact⟨0,Nat.le_refl _,fun k hk=>by omega,fun h=>by omega⟩
 |succ m ih =>
  obtain⟨q,h1,h2,h3⟩:=ih
  by_cases hq:q<m
  ·exact⟨q,by omega,h2,fun _=>h3 hq⟩
  ·have:q=m:=by omega
   subst this
   by_cases hm:wQ E q∧¬S q
   ·exact⟨q,by omega,h2,fun _=>hm⟩
   ·refine⟨q+1,by omega,fun k hk hw=>?_,fun h=>by omega⟩
    rcases Nat.lt_or_ge k q with h4|h4
    ·exact h2 k h4 hw
    ·have:k=q:=by omega
     subst this
     exact Classical.not_not.1 fun hn=>hm ⟨hw,hn⟩
theorem yv{i id:Nat}(hi:i<128):lu rid (fun k=>S k∨k=i) id↔lu rid S id∨Of rid i id:=by
 constructor
 ·intro h1
  by_cases hr:id / 32768=rid+1
  ·rcases h1 hr with h2|h2
   ·exact .inl fun _=>h2
   ·exact .inr (Of.of hr h2)
  ·exact .inl fun h=>absurd h hr
 ·rintro(h1|h1) h2
  ·exact .inl (h1 h2)
  ·exact .inr (h1.parts hi).2
theorem Dr.D3(D:Dr P Eqs Sg F rid n ops b T H E)(dj:Dj rid ops b T H E S Tc h){i:Nat}(ng:i<ops.size)(hS:¬S i)(Yy:¬Tw E i)(Uy:¬wQ E i) :
  ∃q,q≤ops.size∧(∀k,k<q→wQ E k→S k∨k=i)∧(q<ops.size→wQ E q∧¬(S q∨q=i))∧∀id,(lu rid (fun k=>S k∨k=i) id→h id=H q id)∧(¬lu rid (fun k=>S k∨k=i) id→h id=none):=by
 obtain⟨q,hq,hw,gR,eC⟩:=dj.heap
 have LQ:=D.size
 refine⟨q,hq,fun k h1 h2=>.inl (hw k h1 h2),fun h1=>⟨(gR h1).1,fun h2=>h2.elim (gR h1).2 fun e=>Uy (e▸(gR h1).1)⟩,fun id=>⟨fun h1=>?_,fun h1=>(eC id).2 fun h2=>h1 ((yv (by omega)).2 (.inl h2))⟩⟩
 rcases (yv (S:=S) (i:=i) (rid:=rid) (by omega)).1 h1 with h2|h2
 ·exact(eC id).1 h2
 ·have hn:¬lu rid S id:=fun h3=>h3.yk (by omega) hS h2
  rw[(eC id).2 hn]
  symm
  apply Classical.not_not.1
  intro aU
  obtain⟨j,h3,_,_,h4⟩:=D.names q hq id aU (h2.parts (by omega)).1
  have:=th h3 h2
  subst this
  rcases h4 with h4|⟨w',h5,h6,h7|h7⟩
  ·exact Yy h4
  ·exact Uy (h7▸h6)
  ·exact hS (dj.closed w' _ (hw w' h5 h6) h7)
theorem O5{os:Heap}{i:Nat}(eu:(os.all fun p=>p.1 / 256==(rid+1)*128+i)=true):∀id o,os.get id=some o→Of rid i id:=by
 induction os with
 |nil=>intro id o h;simp[Heap.get]at h
 |cons a r ih =>
  intro id o hg
  simp only[List.all_cons,Bool.and_eq_true,beq_iff_eq]at eu
  simp only[Heap.get]at hg
  split at hg
  ·rename_i e;rw[←e];exact eu.1
  ·exact ih eu.2 id o hg
theorem Dr.L0(D:Dr P Eqs Sg F rid n ops b T H E)(dj:Dj rid ops b T H E S Tc h){i:Nat}{o:Oper}(ho:ops[i]? = some o)(hS:¬S i)(hb:∀j,qq b i j→S j){v:AV}{os:Heap}(hE:E i=some (.new v os)) :
  ∃q,q≤ops.size∧(∀k,k<q→wQ E k→S k∨k=i)∧(q<ops.size→wQ E q∧¬(S q∨q=i))∧∀id,(lu rid (fun k=>S k∨k=i) id→(bm.new v os).hp h id=H q id)∧(¬lu rid (fun k=>S k∨k=i) id→(bm.new v os).hp h id=none):=by
 obtain⟨q,hq,hw,gR,eC⟩:=dj.heap
 have LQ:=D.size
 have ng:=(Array.getElem?_eq_some_iff.1 ho).1
 have Uy:¬wQ E i:=fun⟨v',h',h1⟩=>by rw[hE]at h1;cases h1
 have Ty:=D.uL ng ⟨v,os,hE⟩
 obtain⟨s,hh,_,_,_,h4,_,_,h7⟩:=D.O0 ho hE
 simp only[fP,Bool.and_eq_true]at h4
 have rO:=O5 (rid:=rid) h4.1.2
 have Uw:i<q:=by
  rcases Nat.lt_or_ge i q with h1|h1
  ·exact h1
  ·obtain⟨h2,h3⟩:=gR (by omega)
   have aU:i≠q:=fun e=>Uy (e▸h2)
   rcases D.yr (by omega) h2 Ty aU with⟨h4,_⟩|⟨_,h4⟩
   ·omega
   ·exact absurd (hb q h4) h3
 refine⟨q,hq,fun k h1 h2=>.inl (hw k h1 h2),fun h1=>⟨(gR h1).1,fun h2=>h2.elim (gR h1).2 fun e=>Uy (e▸(gR h1).1)⟩,fun id=>⟨fun h1=>?_,fun h1=>?_⟩⟩
 ·simp only[bm.hp]
  by_cases h2:Of rid i id
  ·have hn:¬lu rid S id:=fun h3=>h3.yk (by omega) hS h2
   have e1:H i id=none:=Classical.not_not.1 fun aU=>by
    obtain⟨j,h3,h4,_⟩:=D.names i (by omega) id aU (h2.parts (by omega)).1
    have:=th h3 h2
    omega
   have e2:H (i+1) id=Heap.get os id:=by
    rw[h7];simp only[bm.hp];rw[e1];cases Heap.get os id<;>rfl
   have e3:H q id=H (i+1) id:=D.wS q Uw hq (fun k h3 h4=>D.calm dj Ty hS hq hw k (by omega) h4) id fun k h3 _ _ h5=>by
    have:=th h5 h2;omega
   rw[e3,e2,(eC id).2 hn];cases Heap.get os id<;>rfl
  ·have h3:lu rid S id:=((yv (by omega)).1 h1).resolve_right h2
   cases KS:Heap.get os id with
   |some o'=>exact absurd (rO id o' KS) h2
   |none=>exact(eC id).1 h3
 ·have h2:¬lu rid S id:=fun h2=>h1 ((yv (by omega)).2 (.inl h2))
  have h3:¬Of rid i id:=fun h2=>h1 ((yv (by omega)).2 (.inr h2))
  simp only[bm.hp]
  cases KS:Heap.get os id with
  |some o'=>exact absurd (rO id o' KS) h3
  |none=>exact(eC id).2 h2
theorem Dr.O6(D:Dr P Eqs Sg F rid n ops b T H E)(dj:Dj rid ops b T H E S Tc h){i:Nat}{o:Oper}(ho:ops[i]? = some o)(hS:¬S i)(hb:∀j,qq b i j→S j){v:AV}{h':Heap}(hE:E i=some (.wr v h')) :
  (∀hh:Heap,(∀id,hh.get id=if oW rid (b.getD i 0) id then H i id else none)→hh.get=h) ∧
  ∃q,q≤ops.size∧(∀k,k<q→wQ E k→S k∨k=i)∧(q<ops.size→wQ E q∧¬(S q∨q=i))∧∀id,(lu rid (fun k=>S k∨k=i) id→h'.get id=H q id)∧(¬lu rid (fun k=>S k∨k=i) id→h'.get id=none):=by
 obtain⟨q,hq,hw,gR,eC⟩:=dj.heap
 have LQ:=D.size
 have ng:=(Array.getElem?_eq_some_iff.1 ho).1
 have O2:wQ E i:=⟨v,h',hE⟩
 have Ty:=D.LP ng O2
 obtain⟨s,hh0,_,_,_,h4,_,_,h7⟩:=D.O0 ho hE
 simp only[fP,Bool.and_eq_true]at h4
 have hqi:q=i:=by
  rcases Nat.lt_trichotomy q i with h1|h1|h1
  ·obtain⟨h2,h3⟩:=gR (by omega)
   rcases D.yr ng O2 (D.LP (by omega) h2) (by omega) with⟨_,h5⟩|⟨h5,_⟩
   ·exact absurd (hb q h5) h3
   ·omega
  ·exact h1
  ·exact absurd (hw i h1 O2) hS
 subst hqi
 have own:∀id,H q id≠none→lu rid (qq b q) id:=fun id aU LR=>by
  obtain⟨j,h1,h2,YX,h3⟩:=D.names q hq id aU LR
  rw[(h1.parts YX).2]
  rcases h3 with h3|⟨w',h5,h6,h8⟩
  ·rcases D.yr ng O2 (D.uL (by omega) h3) (by omega) with⟨_,h9⟩|⟨h9,_⟩
   ·exact h9
   ·omega
  ·have Uu:qq b q w':=by
    rcases D.yr ng O2 (D.LP (by omega) h6) (by omega) with⟨_,h9⟩|⟨h9,_⟩
    ·exact h9
    ·omega
   rcases h8 with rfl|h8
   ·exact Uu
   ·exact Bg D.KV q w' j ng Uu h8
 refine⟨fun hh O3=>?_,?_⟩
 ·funext id
  rw[O3 id]
  cases bw:H q id with
  |none =>
   have:h id=none:=by
    by_cases h1:lu rid S id
    ·rw[(eC id).1 h1,bw]
    ·exact(eC id).2 h1
   rw[this];split<;>rfl
  |some ob =>
   have h1:=own id (by rw[bw];simp)
   have h2:lu rid S id:=fun hr=>hb _ (h1 hr)
   have h3:oW rid (b.getD q 0) id=true:=by
    unfold oW
    by_cases hr:id / 32768=rid+1
    ·have:=h1 hr
     unfold qq at this
     rw[this];simp
    ·simp[hr]
   rw[h3,(eC id).1 h2,bw];rfl
 ·obtain⟨q',h1,h2,h3⟩:=LZ E (fun k=>S k∨k=q) ops.size
  have Qv:q+1≤q':=by
   rcases Nat.lt_or_ge q q' with h5|h5
   ·exact h5
   ·obtain⟨h6,h8⟩:=h3 (by omega)
    rcases Nat.lt_or_ge q' q with h9|h9
    ·exact absurd (.inl (hw q' h9 h6)) h8
    ·exact absurd (.inr (by omega)) h8
  have e1:H (q+1)=h'.get:=by rw[h7];rfl
  have Au:∀j,(b.getD q 0 ||| 2 ^ q).testBit j=true→S j∨j=q:=fun j hj=>by
   rw[Nat.testBit_or,Bool.or_eq_true,Nat.testBit_two_pow]at hj
   exact hj.imp (hb j) (fun h=>(of_decide_eq_true h).symm)
  refine⟨q',h1,h2,h3,fun id=>⟨fun h5=>?_,fun h5=>?_⟩⟩
  ·rw[D.wS q' Qv h1 (fun k h6 h8 h9=>?_) id (fun k h6 h8 h9 l8=>?_),e1]
   ·have hk:=h2 k h8 h9
    have LS:S k:=hk.resolve_right (by omega)
    rcases D.yr (by omega) h9 Ty (by omega) with⟨_,wo⟩|⟨wo,_⟩
    ·exact hS (dj.closed k q LS wo)
    ·omega
   ·have hk:=h5 (l8.parts (by omega)).1
    rw[(l8.parts (by omega)).2]at hk
    have LS:S k:=hk.resolve_right (by omega)
    rcases D.yr ng O2 (D.uL (by omega) h9) (by omega) with⟨wo,_⟩|⟨_,wo⟩
    ·omega
    ·exact hS (dj.closed k q LS wo)
  ·cases bw:h'.get id with
   |none=>rfl
   |some ob=>exact absurd ((kS Au h4.2 id ob bw).1) h5
end
section
variable {S:Nat→Prop} {Tc:Nat→AV}
theorem AE{o:Oper}{d:Nat}(h:Operand.tmp d∈o.op.operands):d∈o.looksAt ops :=
 List.mem_append_left _ (List.mem_filterMap.2 ⟨.tmp d,by simpa using h,rfl⟩)
theorem D4{o:Oper}{j d:Nat}{want:Bool}(hg:o.guard=some (j,want))(hd:(ops[j]?).bind (·.dst)=some d):d∈o.looksAt ops:=by
 unfold Oper.looksAt
 rw[hg]
 exact List.mem_append_right _ (by simp only[hd];simp)
theorem Dr.wanted(D:Dr P Eqs Sg F rid n ops b T H E)(dj:Dj rid ops b T H E S Tc h){a:Act}{i:Nat}{o:Oper}(ho:ops[i]? = some o)(hS:¬S i)(hb:∀j,qq b i j→S j)(t:cw Z ψ h w n Tc a){c:Bool}(hw:ov ops (T i) o c) :
  Region.wanted o (yielded ops a.tmps)=c:=by
 unfold ov at hw
 split at hw
 ·rename_i hg;rw[hw];simp[Region.wanted,hg]
 ·rename_i j want hg
  obtain⟨d,hd,hc⟩:=hw
  have e:=D.looks dj ho hS hb (D4 hg hd)
  rcases hc with⟨u,h1,h2⟩|⟨vs,h1,h2⟩
  ·rw[yl t hg hd (e.trans h1),h2]
  ·rw[vT t hg hd (e.trans h1),h2]
theorem Dr.GM(D:Dr P Eqs Sg F rid n ops b T H E)(V:Env P Eqs Sg F){i:Nat}{o:Oper}{a:Act}(ho:ops[i]? = some o)(hS:¬S i)(hb:∀j,qq b i j→S j)(dj:Dj rid ops b T H E S Tc h)(j:J (lu rid S) n Z0 w0 O ψ0 Z ψ Tc h a w)
  {K:Act→World→Prop} {Q:Exit→Act→World→Prop} (hk:∀XV h' a' w' Z' ψ',Dj rid ops b T H E (fun k=>S k∨k=i) XV h'→J (lu rid fun k=>S k∨k=i) n Z0 w0 O ψ0 Z' ψ' XV h' a' w'→K a' w'):wpOp P ops Q i K a w:=by
 have ng:=(Array.getElem?_eq_some_iff.1 ho).1
 have LQ:=D.size
 have N8:=D.YU i o ho
 have aG:∀k,(S k∨k=i)→k<ops.size:=fun k hk=>hk.elim (dj.lt k) (fun e=>e▸ng)
 have Ge:∀k j,(S k∨k=i)→qq b k j→S j∨j=i:=fun k j hk hj=>.inl (hk.elim (fun h=>dj.closed k j h hj) (fun e=>hb j (e▸hj)))
 unfold wpOp
 rw[ho]
 simp only[]
 cases hE:E i with
 |none =>
  obtain⟨h1,h2,h3⟩:=D.Cx ho hE
  rw[D.wanted dj ho hS hb j.tr h1]
  simp only[Bool.false_eq_true,if_false]
  obtain⟨t1,t2⟩:=D.LY dj ho hS h2
  refine hk _ h _ w Z ψ ⟨aG,Ge,D.D3 dj ng hS (fun⟨v,os,h⟩=>by rw[hE]at h;cases h) (fun⟨v,os,h⟩=>by rw[hE]at h;cases h),t1,t2⟩ (j.skip N8 fun id hp hr=>.inl (hp hr))
 |some e =>
  obtain⟨s,hh,h1,h2,h3,h4,h5,h6,h7⟩:=D.O0 ho hE
  rw[D.wanted dj ho hS hb j.tr h5]
  simp only[if_true]
  refine .inl ?_
  obtain⟨t1,t2⟩:=D.LY dj ho hS h6
  have hT:∀x∈o.op.operands,ar Z ψ h w (ρ s x) (a.eval x)∧aA (lu rid S) (ρ s x):=fun x hx=>by
   cases x with
   |tmp d =>
    have e1:look s d=Tc d:=by rw[h1];exact(D.looks dj ho hS hb (AE hx)).symm
    simp only[ρ,e1]
    exact⟨j.tr.rep d,j.tm d⟩
   |const v=>exact⟨DB v,yj _ v⟩
   |global g=>exact⟨by simp only[ρ,ar],by simp only[ρ,aA]⟩
   |func f=>exact⟨by simp only[ρ,ar,ai,Act.eval];exact⟨#[],rfl,rfl⟩,by simp only[ρ,aA,au]⟩
  have mH:=yn (hh:=[]) j.hm (fun k hk=>hb k hk) h4
  obtain⟨e0,h3,Cw,rM⟩:=h3
  cases e0 with
  |wr v0 N1 =>
   simp only[fQ]at Cw
   subst Cw
   have mf:=D.O6 dj ho hS hb hE
   have O3:=mf.1 hh h2
   subst O3
   refine J.opF V (rid:=rid) (i:=i) (fun _ id hp=>hp.yk (by omega) hS) j N8 (fun x hx=>(hT x hx).1) (fun x hx=>(hT x hx).2) h3 rM (p':=lu rid fun k=>S k∨k=i) (fun id hp hr=>.inl (hp hr)) mH.1 mH.2 fun a' w' Z' ψ' j' => ?_
   exact hk _ _ a' w' Z' ψ' ⟨aG,Ge,mf.2,t1,t2⟩ j'
  |val v0 =>
   simp only[fQ]at Cw
   subst Cw
   have Y0:∃RO:Heap,(∀id o,RO.get id=some o→h id=some o)∧cy P Eqs Sg F (opId rid i) RO s o some=some (.val v0):=by
    cases hf:lY o.op with
    |true=>exact⟨[],fun id o h=>by simp[Heap.get]at h,by rw[JN hf (h':=fW hh (fX ops b i s o))];exact h3⟩
    |false =>
     cases N4:ij o.op with
     |some x =>
      have Uv:fX ops b i s o=[]:=by unfold fX;rw[(Bh N4).2];rfl
      rw[Uv]at h3
      have h3':cy P Eqs Sg F (opId rid i) hh s o some=some (.val v0):=h3
      have l9:∀id,(dS (sI (ρ s x)) hh []).get id=if id∈sI (ρ s x) then hh.get id else none:=fun id=>by
       rw[jE]
       split
       ·cases hh.get id<;>rfl
       ·rfl
      refine⟨dS (sI (ρ s x)) hh [],fun id ob bw=>?_,?_⟩
      ·rw[l9]at bw
       split at bw
       ·rename_i hm;exact D.JS dj ho N4 hS hb h1 h2 id hm ob bw
       ·cases bw
      ·rw[GK N4 (hh:=hh) (fun id hm=>by rw[l9,if_pos hm])];exact h3'
     |none=>exact⟨_,fun id ob bw=>D.seen dj ⟨o,ho,hf,N4⟩ hS hb h2 id ob (by rw[mE]at bw;split at bw;cases bw;exact bw),h3⟩
   obtain⟨RO,Dh,Ia⟩:=Y0
   refine J.op V (rid:=rid) (i:=i) (fun _ id hp=>hp.yk (by omega) hS) j N8 (fun x hx=>(hT x hx).1) (fun x hx=>(hT x hx).2) Dh Ia (fun v hw he=>by cases he) (p':=lu rid fun k=>S k∨k=i) (fun id hp hr=>.inl (hp hr)) mH.1 mH.2 fun a' w' Z' ψ' j' => ?_
   exact hk _ _ a' w' Z' ψ' ⟨aG,Ge,D.D3 dj ng hS (fun⟨v,os,h⟩=>by rw[hE]at h;cases h) (fun⟨v,os,h⟩=>by rw[hE]at h;cases h),t1,t2⟩ j'
  |new v0 os =>
   simp only[fQ]at Cw
   subst Cw
   have Ty:=D.uL ng ⟨v0,os,hE⟩
   have Dh:∀id ob,(fW hh (fX ops b i s o)).get id=some ob→h id=some ob:=fun id ob bw=>D.seen dj Ty hS hb h2 id ob (by rw[mE]at bw;split at bw;cases bw;exact bw)
   refine J.op V (rid:=rid) (i:=i) (fun _ id hp=>hp.yk (by omega) hS) j N8 (fun x hx=>(hT x hx).1) (fun x hx=>(hT x hx).2) Dh h3 (fun v hw he=>by cases he) (p':=lu rid fun k=>S k∨k=i) (fun id hp hr=>.inl (hp hr)) mH.1 mH.2 fun a' w' Z' ψ' j' => ?_
   exact hk _ _ a' w' Z' ψ' ⟨aG,Ge,D.L0 dj ho hS hb hE,t1,t2⟩ j'
theorem Dr.done(D:Dr P Eqs Sg F rid n ops b T H E)(dj:Dj rid ops b T H E S Tc h)(eu:∀k,k<ops.size→S k):Tc=T ops.size∧h=H ops.size:=by
 constructor
 ·funext d
  by_cases hex:∃(j:Nat) (oj:Oper),ops[j]? = some oj∧oj.dst=some d
  ·obtain⟨j,oj,hj,hd⟩:=hex
   have FQ:=(Array.getElem?_eq_some_iff.1 hj).1
   rw[dj.LU j oj d (eu j FQ) hj hd,D.Cz hj hd ops.size (Nat.le_refl _) FQ]
  ·rw[dj.told d fun j o' _ ma LW=>hex ⟨j,o',ma,LW⟩,D.tg ops.size (Nat.le_refl _) fun k o' _ ma LW=>hex ⟨k,o',ma,LW⟩]
 ·obtain⟨q,hq,_,gR,eC⟩:=dj.heap
  have:q=ops.size:=by
   rcases Nat.lt_or_ge q ops.size with h1|h1
   ·exact absurd (eu q h1) (gR h1).2
   ·omega
  subst this
  funext id
  by_cases lr:lu rid S id
  ·exact(eC id).1 lr
  ·rw[(eC id).2 lr]
   symm
   apply Classical.not_not.1
   intro aU
   apply lr
   intro hr
   obtain⟨j,h1,h2,h3,_⟩:=D.names ops.size (Nat.le_refl _) id aU hr
   rw[(h1.parts h3).2]
   exact eu j h2
def kT(m:Nat)(bX:Array Bool):Nat:=((List.range m).filter fun i => !bX.getD i false).length
theorem CB{m:Nat}{bX:Array Bool}{i:Nat}(hi:i<m)(hs:i<bX.size)(hn:bX.getD i false=false):kT m bX=kT m (bX.setIfInBounds i true)+1:=by
 unfold kT
 have key:∀(l:List Nat),l.Nodup→i∈l→(l.filter fun k => !bX.getD k false).length=(l.filter fun k => !(bX.setIfInBounds i true).getD k false).length+1:=by
  intro l
  induction l with
  |nil=>intro _ h;cases h
  |cons a r ih =>
   intro Dg hm
   rw[List.nodup_cons]at Dg
   rcases List.mem_cons.1 hm with rfl|hm
   ·have h2:(r.filter fun k => !bX.getD k false)=(r.filter fun k => !(bX.setIfInBounds i true).getD k false):=by
     apply List.filter_congr
     intro k hk
     have aU:i≠k:=fun e=>Dg.1 (e▸hk)
     rw[getD_set_ne false aU]
    rw[List.filter_cons,List.filter_cons,hn]
    have h3:(bX.setIfInBounds i true).getD i false=true:=by simp[hs]
    rw[h3,h2];simp
   ·have aU:i≠a:=fun e=>Dg.1 (e▸hm)
    rw[List.filter_cons,List.filter_cons,getD_set_ne false aU]
    split
    ·simp only[List.length_cons];rw[ih Dg.2 hm]
    ·exact ih Dg.2 hm
 exact key _ List.nodup_range (List.mem_range.2 hi)
theorem Dr.any(D:Dr P Eqs Sg F rid n ops b T H E)(V:Env P Eqs Sg F){Q:Exit→Act→World→Prop}(hQ:∀Z ψ a w,J (lu rid fun k=>k<ops.size) n Z0 w0 O ψ0 Z ψ (T ops.size) (H ops.size) a w→Q .normal a w) :
  ∀(fuel:Nat) (bX:Array Bool) (Tc:Nat→AV) (h:Hp) (a:Act) (w:World) (Z:Nat→Prop) (ψ:Nat→Value),bX.size=ops.size→kT ops.size bX=fuel →
   Dj rid ops b T H E (fun k=>bX.getD k false=true) Tc h→J (lu rid fun k=>bX.getD k false=true) n Z0 w0 O ψ0 Z ψ Tc h a w→wpAny P .any ops Q fuel bX a w
 |0,bX,Tc,h,a,w,Z,ψ,hs,hu,dj,j=>by
  have eu:∀k,k<ops.size→bX.getD k false=true:=fun k hk=>by
   unfold kT at hu
   have:=List.filter_eq_nil_iff.1 (List.eq_nil_of_length_eq_zero hu) k (List.mem_range.2 hk)
   simpa using this
  refine⟨?_,?_⟩
  ·apply List.eq_nil_iff_forall_not_mem.2
   intro i hi
   obtain⟨h1,o,h2,_⟩:=mem_ready.1 hi
   have h3:=(Array.getElem?_eq_some_iff.1 h2).1
   have h4:=eu i h3
   rw[Array.getD_eq_getD_getElem?,Array.getElem?_eq_getElem (by omega)]at h1 h4
   simp at h1 h4
   rw[h1]at h4;cases h4
  ·obtain⟨e1,e2⟩:=D.done dj eu
   subst e1;subst e2
   refine hQ Z ψ a w ⟨j.ok,j.tr,fun d=>(j.tm d).imp fun id h1 h2=>dj.lt _ (h1 h2),fun id ty cs hb=>(j.hm id ty cs hb).imp fun id h1 h2=>dj.lt _ (h1 h2)⟩
 |fuel+1,bX,Tc,h,a,w,Z,ψ,hs,hu,dj,j=>by
  have look:∀i,i<ops.size→bX.getD i true=bX.getD i false:=fun i hi=>by
   rw[Array.getD_eq_getD_getElem?,Array.getD_eq_getD_getElem?,Array.getElem?_eq_getElem (by omega)];rfl
  refine⟨fun hr=>?_,fun i hi=>?_⟩
  ·exfalso
   have hex:∃i,i<ops.size∧bX.getD i false=false:=by
    apply Classical.byContradiction
    intro hn
    unfold kT at hu
    rw[List.filter_eq_nil_iff.2]at hu
    ·simp at hu
    ·intro k hk
     have:=fun h=>hn ⟨k,List.mem_range.1 hk,h⟩
     cases hl:bX.getD k false with
     |true=>simp
     |false=>exact absurd hl this
   have key:∀i,i<ops.size→bX.getD i false=false→False:=by
    intro i
    induction i using Nat.strongRecOn with
    |ind i ih =>
     intro hi hl
     have iw:i∈Region.ready .any ops bX:=by
      refine mem_ready.2 ⟨by rw[look i hi];exact hl,_,Array.getElem?_eq_getElem hi,fun e he JC=>?_⟩
      have RS:=GJ D.KV (Array.getElem?_eq_getElem hi) (by simpa using he) JC
      cases hle:bX.getD e.on false with
      |true=>rfl
      |false=>exact(ih e.on RS (by omega) hle).elim
     rw[hr]at iw;cases iw
   obtain⟨i,h1,h2⟩:=hex
   exact key i h1 h2
  ·obtain⟨h1,o,ho,eu⟩:=mem_ready.1 hi
   have ng:=(Array.getElem?_eq_some_iff.1 ho).1
   have hn:bX.getD i false=false:=by rw[←look i ng];exact h1
   have hS:¬(bX.getD i false=true):=by rw[hn];simp
   have hb:∀k,qq b i k→bX.getD k false=true:=fun k hk=>by
    obtain⟨e,he,JC,h2⟩:=(wP D.KV ho).1 hk
    have h3:=eu e (by simpa using he) JC
    rcases h2 with rfl|h2
    ·exact h3
    ·exact dj.closed e.on k h3 h2
   refine D.GM V ho hS hb dj j fun XV h' a' w' Z' ψ' dj' j' => ?_
   have heq:(fun k=>bX.getD k false=true∨k=i)=(fun k=>(bX.setIfInBounds i true).getD k false=true):=by
    funext k
    apply propext
    by_cases e:i=k
    ·subst e
     simp[show i<bX.size by omega]
    ·rw[getD_set_ne false e]
     constructor
     ·rintro(h|h)
      ·exact h
      ·exact absurd h.symm e
     ·exact .inl
   rw[heq]at dj' j'
   exact D.any V hQ fuel _ XV h' a' w' Z' ψ' (by simpa using hs) (by have:=CB ng (by omega) hn;omega) dj' j'
end
end Go.Vs
namespace Go.Vs
variable {P:Program} {Eqs:TypeId→Option K} {Sg:FuncId→Option aK} {F:(f:FuncId)→(g:aK)→g.A→Option g.B} {R:Type}
variable {Z Z' Z0:Nat→Prop} {ψ ψ' ψ0:Nat→Value} {h h':Hp} {w w' w0:World} {B0:Nat} {O N:Nat→Prop}
theorem yw(f:AV→AV)(hf:f .no=.no):∀(l:List (Nat×AV)) (d:Nat),look (l.map fun p=>(p.1,f p.2)) d=f (look l d)
 |[],d=>by simp[look,hf]
 |(i,v)::r,d=>by
  simp only[List.map_cons,look]
  split
  ·rfl
  ·exact yw f hf r d
section
variable {rid:Nat}
mutual
theorem uN:∀{a:AV} {v:Value},ar Z ψ h w a v→ar Z ψ h w (bf rid a) v
 |.ref id s i off,v,hr=>by
  simp only[bf]
  split
  ·simp only[ar]
  ·exact hr
 |.bp id,v,hr=>by
  simp only[bf]
  split
  ·simp only[ar]
  ·exact hr
 |.fn f cap,v,hr=>by
  simp only[bf,ar]at hr ⊢
  obtain⟨vs,e,hl⟩:=hr
  exact⟨vs,e,kU hl⟩
 |.agg cs,v,hr=>by
  simp only[bf,ar]at hr ⊢
  obtain⟨vs,e,hl⟩:=hr
  exact⟨vs,e,kU hl⟩
 |.lW cs,v,hr=>by
  simp only[bf,ar]at hr ⊢
  obtain⟨vs,e,hl⟩:=hr
  exact⟨vs,e,kU hl⟩
 |.no,v,hr=>by simpa only[bf] using hr
 |.bool _,v,hr=>by simpa only[bf] using hr
 |.int _ _,v,hr=>by simpa only[bf] using hr
 |.str _,v,hr=>by simpa only[bf] using hr
 |.kb,v,hr=>by simpa only[bf] using hr
 |.eY,v,hr=>by simpa only[bf] using hr
 |.fp _ _ _,v,hr=>by simpa only[bf] using hr
 |.sl _ _ _,v,hr=>by simpa only[bf] using hr
 |.mp _ _ _,v,hr=>by simpa only[bf] using hr
theorem kU:∀{a:List AV} {v:List Value},ai Z ψ h w a v→ai Z ψ h w (kF rid a) v
 |[],v,hr=>by simpa only[kF] using hr
 |x::r,v,hr=>by
  simp only[kF,ai]at hr ⊢
  obtain⟨u,us,e,h1,h2⟩:=hr
  exact⟨u,us,e,uN h1,kU h2⟩
end
mutual
theorem nN:∀(a:AV),aA (lu rid fun _=>False) (bf rid a)
 |.ref id s i off=>by
  simp only[bf]
  split
  ·simp only[aA]
  ·rename_i hn;simp only[aA];exact fun h=>absurd h hn
 |.bp id=>by
  simp only[bf]
  split
  ·simp only[aA]
  ·rename_i hn;simp only[aA];exact fun h=>absurd h hn
 |.fn f cap=>by simp only[bf,aA];exact gS cap
 |.agg cs=>by simp only[bf,aA];exact gS cs
 |.lW cs=>by simp only[bf,aA];exact gS cs
 |.no=>by simp only[bf,aA]
 |.bool _=>by simp only[bf,aA]
 |.int _ _=>by simp only[bf,aA]
 |.str _=>by simp only[bf,aA]
 |.kb=>by simp only[bf,aA]
 |.eY=>by simp only[bf,aA]
 |.fp _ _ _=>by simp only[bf,aA]
 |.sl _ _ _=>by simp only[bf,aA]
 |.mp _ _ _=>by simp only[bf,aA]
theorem gS:∀(a:List AV),au (lu rid fun _=>False) (kF rid a)
 |[]=>by simp only[kF,au]
 |x::r=>by simp only[kF,au];exact⟨nN x,gS r⟩
end
theorem get_map(f:Ob→Ob):∀(hh:Heap) (i:Nat),Heap.get (hh.map fun p=>(p.1,f p.2)) i=(hh.get i).map f
 |[],i=>rfl
 |(j,o)::r,i=>by
  simp only[List.map_cons,Heap.get]
  split
  ·rfl
  ·exact get_map f r i
def lL(rid:Nat)(hh:Heap):Heap:=(hh.filter fun p=>p.1 / 32768 != rid+1).map fun p=>(p.1,xx rid p.2)
theorem JU(hh:Heap)(i:Nat):(lL rid hh).get i=if i / 32768=rid+1 then none else(hh.get i).map (xx rid):=by
 unfold lL
 rw[get_map (xx rid),get_filter (fun i=>i / 32768 != rid+1)]
 by_cases e:i / 32768=rid+1<;>simp[e]
theorem gI{hh:Heap}{i:Nat}{o:Ob}(hg:(lL rid hh).get i=some o):i / 32768≠rid+1∧∃o',hh.get i=some o'∧o=xx rid o':=by
 rw[JU]at hg
 split at hg
 ·cases hg
 ·rename_i hn
  cases h0:hh.get i with
  |none=>rw[h0]at hg;cases hg
  |some o'=>rw[h0]at hg;cases hg;exact⟨hn,o',rfl,rfl⟩
theorem jH{hh:Heap}{i:Nat}(hg:(lL rid hh).get i≠none):hh.get i≠none:=by
 obtain⟨o,ho⟩:=Option.ne_none_iff_exists'.1 hg
 obtain⟨_,o',h1,_⟩:=gI ho
 rw[h1];simp
theorem Good.j7{hh:Heap}(g:Good Z ψ hh.get w B0 O):Good Z ψ (lL rid hh).get w B0 O:=by
 refine⟨fun id ty cs hb=>?_,fun id ok xs hb=>?_,fun id b h1 h2=>g.live id b (jH h1) h2,fun id ly b h1 h2 h3 h4=>g.apart id ly b (jH h1) (jH h2) h3 h4,g.iS⟩
 ·obtain⟨_,o',h1,h2⟩:=gI hb
  cases o' with
  |own ok xs=>cases h2
  |box wi cs' =>
   cases h2
   obtain⟨gg,vs,h3,h4,h5,h6⟩:=g.box id ty cs' h1
   exact⟨gg,vs,h3,h4,kU (h5.less (fun _ h=>h) (b5.refl _ _) fun i hi=>⟨jH hi,rfl⟩),h6⟩
 ·obtain⟨_,o',h1,h2⟩:=gI hb
  cases o' with
  |own Tq TZ=>cases h2;exact g.row id _ _ h1
  |box wi cs'=>cases h2
theorem Ok.sub{hp:Hp}(k:Ok Z0 w0 O ψ0 Z ψ h w)(g:Good Z ψ hp w w0.heap.size O)(hn:∀id,hp id≠none→h id≠none):Ok Z0 w0 O ψ0 Z ψ hp w :=
 ⟨g,k.eR,k.dJ,k.os,k.tape,k.output,k.size,k.block,fun i hi aU=>k.fix i hi (hn i aU)⟩
end
theorem Good.yx(g:Good Z ψ h w B0 O)(e:w'.heap=w.heap):Good Z ψ h w' B0 O:=by
 have sm:b5 Z w w':=fun b _=>by rw[e]
 refine⟨fun id ty cs hb=>?_,fun id ok xs hb=>?_,g.live,g.apart,fun b hb=>by rw[e];exact g.iS b hb⟩
 ·obtain⟨gg,vs,h1,h2,h3,h4⟩:=g.box id ty cs hb
  exact⟨gg,vs,h1,by rw[e];exact h2,h3.less (fun _ h=>h) sm (fun i hi=>⟨hi,rfl⟩),h4⟩
 ·exact(g.row id ok xs hb).kept (fun _ h=>h) sm (fun gg _=>by rw[e])
theorem Ok.yx(k:Ok Z0 w0 O ψ0 Z ψ h w)(e:w'.heap=w.heap)(e1:w'.os=w.os)(e2:w'.tape=w.tape)(e3:w'.output=w.output):Ok Z0 w0 O ψ0 Z ψ h w' :=
 ⟨k.dx.yx e,k.eR,k.dJ,e1.trans k.os,e2.trans k.tape,e3.trans k.output,by rw[e];exact k.size,fun b hb ho=>by rw[e];exact k.block b hb ho,k.fix⟩
theorem cw.yx{n:Nat}{T:Nat→AV}{a:Act}(t:cw Z ψ h w n T a)(e:w'.heap=w.heap):cw Z ψ h w' n T a :=
 ⟨fun d=>(t.rep d).less (fun _ h=>h) (fun b _=>by rw[e]) (fun i hi=>⟨hi,rfl⟩),t.size,t.defers⟩
theorem CC(V:Env P Eqs Sg F)(hm:P.follows .mixedOrders=true){n rid:Nat}{ops:Array Oper}{draw:Bool}{st:St}{kk:St→Option R}{r:R}{a:Act}{Q:Exit→Act→World→Prop}
  (hx:gy P Eqs Sg F n rid ops draw st kk=some r) (k:Ok Z0 w0 O ψ0 Z ψ st.heap.get w) (t:cw Z ψ st.heap.get w n (look st.tmps) a)
  (hQ:∀dI Z ψ a w,kk dI=some r→Ok Z0 w0 O ψ0 Z ψ dI.heap.get w→cw Z ψ dI.heap.get w n (look dI.tmps) a→Q .normal a w):(Code.region rid ops draw).wp P Q a w:=by
 obtain⟨b,Tz,hx⟩:∃b,b=(if draw then Region.before ops else #[])∧(if(ops.all fun o=>gx n o)&&(!draw || (sG ops b&&(xu ops b&&bP (ops.toList.filterMap (·.dst)))))&&decide (ops.size≤128) then
  ba P Eqs Sg F rid draw ops b (ops.toList.zipIdx.map fun p=>(p.2,p.1)) (j7 draw rid ops st) kk else none)=some r:=⟨_,rfl,hx⟩
 split at hx
 ·rename_i hc
  simp only[Bool.and_eq_true,decide_eq_true_eq]at hc
  obtain⟨⟨jZ,Y1⟩,il⟩:=hc
  have Bj:∀(i:Nat) (o:Oper),ops[i]? = some o→gx n o=true:=fun i o ho=>Array.all_eq_true_iff_forall_mem.1 jZ o (Array.mem_of_getElem? ho)
  have pk:Ok Z0 w0 O ψ0 Z ψ (lL rid st.heap).get w:=k.sub k.dx.j7 fun id=>jH
  have pt:cw Z ψ (lL rid st.heap).get w n (fun d=>bf rid (look st.tmps d)) a :=
   ⟨fun d=>uN ((t.rep d).less (fun _ h=>h) (b5.refl _ _) fun i hi=>⟨jH hi,rfl⟩),t.size,t.defers⟩
  have pm:rj (lu rid fun _=>False) (lL rid st.heap).get:=fun i ty cs hb=>by
   obtain⟨_,o',h1,h2⟩:=gI hb
   cases o' with
   |own ok xs=>cases h2
   |box wi cs'=>cases h2;exact gS cs'
  have Bk:look (st.tmps.map fun p=>(p.1,bf rid p.2))=fun d=>bf rid (look st.tmps d):=funext fun d=>yw (bf rid) (by simp only[bf]) st.tmps d
  cases draw with
  |false =>
   refine wp_region ?_
   rw[←Bc ops]
   cases LM:ops.any (makes ·.op) with
   |false =>
    have hp:j7 false rid ops st=st:=by unfold j7;rw[LM];rfl
    rw[hp]at hx
    refine ku V (rid:=rid) (n:=n) (b:=_) false (fun _ i o ho=>?_) il Bj hQ _ 0 st Z ψ a w (mG ops) hx ⟨k,t,fun d=>?_,fun i ty cs hb=>?_⟩
    ·have:=Array.any_eq_false'.1 LM o (Array.mem_of_getElem? ho)
     simpa using this
    ·exact(aA.top _).imp fun id _ h=>by cases h
    ·exact(au.top _).imp fun id _ h=>by cases h
   |true =>
    have hp:j7 false rid ops st={ tmps:=st.tmps.map fun p=>(p.1,bf rid p.2),heap:=lL rid st.heap }:=by unfold j7;rw[LM];rfl
    rw[hp]at hx
    refine ku V (rid:=rid) (n:=n) (b:=_) true (fun h=>by cases h) il Bj hQ _ 0 _ Z ψ a w (mG ops) hx ⟨pk,by rw[Bk];exact pt,fun d=>?_,fun i ty cs hb=>?_⟩
    ·rw[Bk]
     exact(nN _).imp fun id h1 _ h2=>(h1 h2).elim
    ·exact(pm i ty cs hb).imp fun id h1 _ h2=>(h1 h2).elim
  |true =>
   have hp:j7 true rid ops st={ tmps:=st.tmps.map fun p=>(p.1,bf rid p.2),heap:=lL rid st.heap }:=by unfold j7;rw[Bool.true_or];rfl
   rw[hp]at hx
   simp only[Bool.not_true,Bool.false_or,Bool.and_eq_true]at Y1
   obtain⟨Y2,Uz,Dg⟩:=Y1
   refine wp_region_any hm ?_
   obtain⟨T,H,E,h1,h2,h3,dI,h4,h5,h6⟩:=trace (kk:=kk) (r:=r) (ops.toList.zipIdx.map fun p=>(p.2,p.1)) 0 _ (mG ops) (by simp) hx
   rw[Bk]at h1
   have D:Dr P Eqs Sg F rid n ops b T H E:=⟨il,Y2,Uz,Bj,Dg,fun k o ho=>h3 k o (Nat.zero_le _) ho,fun id bw=>by
    rw[h2]at bw
    obtain⟨o,ho⟩:=Option.ne_none_iff_exists'.1 bw
    exact(gI ho).1⟩
   have vL:∀k,¬((Array.replicate ops.size false).getD k false=true):=fun k hk=>by
    rw[Array.getD_eq_getD_getElem?,Array.getElem?_replicate]at hk
    split at hk<;>simp at hk
   rw[show max 0 ops.size=ops.size by omega]at h5 h6
   have w2:({ w with drawn:=w.drawn+1 }:World).heap=w.heap:=rfl
   refine D.any V (Z0:=Z0) (w0:=w0) (O:=O) (ψ0:=ψ0) (fun Z ψ a w j=>hQ dI Z ψ a w h4 (by rw[h6];exact j.ok) (by rw[h5,h6];exact j.tr)) ops.size _ (T 0) (H 0) a _ Z ψ (by simp) ?_ ?_ ?_
   ·unfold kT
    rw[List.filter_eq_self.2,List.length_range]
    intro k _
    have:=vL k
    simpa using this
   ·refine⟨fun i hi=>(vL i hi).elim,fun i j hi=>(vL i hi).elim,?_,fun j o d hj=>(vL j hj).elim,fun d _=>rfl⟩
    obtain⟨q,Y3,hq2,hq3⟩:=LZ E (fun k=>(Array.replicate ops.size false).getD k false=true) ops.size
    refine⟨q,Y3,hq2,hq3,fun id=>⟨fun lr=>?_,fun lr=>?_⟩⟩
    ·symm
     refine D.wS q (Nat.zero_le _) Y3 (fun k _ hk hw=>(vL k (hq2 k hk hw)).elim) id fun k _ hk _ ho=>?_
     have:=lr (ho.parts (by omega)).1
     exact vL _ this
    ·rw[h2]
     apply Classical.not_not.1
     intro aU
     obtain⟨o,ho⟩:=Option.ne_none_iff_exists'.1 aU
     exact lr fun hr=>absurd hr (gI ho).1
   ·rw[h1,h2]
    refine⟨pk.yx w2 rfl rfl rfl,pt.yx w2,fun d=>(nN _).imp fun id h3 h4=>(h3 h4).elim,fun i ty cs hb=>(pm i ty cs hb).imp fun id h3 h4=>(h3 h4).elim⟩
 ·cases hx
end Go.Vs
