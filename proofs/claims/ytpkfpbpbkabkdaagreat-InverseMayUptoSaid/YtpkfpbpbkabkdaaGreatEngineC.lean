/- The value semantics is sound, at calls and in regions. -/
import Derived.Test.YtpkfpbpbkabkdaaGreatEngineB
import Derived.Maps.RangeRun
import Derived.ChangeMaps
set_option linter.unusedSimpArgs false
set_option linter.unusedVariables false
namespace Go.Vs
variable {P:Program} {Z Z':Nat→Prop} {ψ ψ':Nat→Value} {h h':Hp} {w w':World} {B0:Nat} {O:Nat→Prop} {N:Nat→Prop}
theorem fm:∀(k:K) (x:k.T),(enc k x).length=k.sz
 |.int _,_=>rfl
 |.bool,_=>rfl
 |.str,_=>rfl
 |.sl _,_=>rfl
 |.mp _ _,_=>rfl
 |.pair a b,x=>by simp only[enc,List.length_append,K.sz];rw[fm a,fm b]
 |.one k,x=>by simp only[enc,K.sz];exact fm k x
theorem qX(hh:Heap):∀(k:K) (x:k.T),(enc k x).map (cK hh)=enc k x
 |.int _,_=>rfl
 |.bool,_=>rfl
 |.str,_=>rfl
 |.sl _,_=>rfl
 |.mp _ _,_=>rfl
 |.pair a b,x=>by simp only[enc,List.map_append];rw[qX hh a,qX hh b]
 |.one k,x=>by simp only[enc];exact qX hh k x
theorem lT:∀(k:K) (x:k.T) (id:Nat),AV.bH id∉enc k x
 |.int _,_,_=>by simp[enc]
 |.bool,_,_=>by simp[enc]
 |.str,_,_=>by simp[enc]
 |.sl _,_,_=>by simp[enc]
 |.mp _ _,_,_=>by simp[enc]
 |.pair a b,x,id=>by
  simp only[enc,List.mem_append]
  rintro(h|h)
  ·exact lT a _ id h
  ·exact lT b _ id h
 |.one k,x,id=>by simp only[enc];exact lT k x id
theorem wJ{hh:Heap}{ok:OK}{n:Nat}{xs:ok.T}(hg:hh.get n=some (.own ok xs)):dU hh ok (.bH n)=some xs:=by
 simp[dU,hg]
theorem pw{hh:Heap}:∀(dv:List CK) (n:Nat) (x:qB dv),(∀e∈bf dv n x,hh.get e.1=some e.2)→cM dv hh (aD dv n x)=some x
 |[],n,x,_=>rfl
 |.val k::r,n,x,hg=>by
  have h1:(aD (.val k::r) n x).take k.sz=enc k x.1:=by simp only[aD];rw[←fm k x.1,List.take_left]
  have h2:(aD (.val k::r) n x).drop k.sz=aD r (n+1) x.2:=by simp only[aD];rw[←fm k x.1,List.drop_left]
  have e:cM (.val k::r) hh (aD (.val k::r) n x)=(match dI k (((aD (.val k::r) n x).take k.sz).map (cK hh)),cM r hh ((aD (.val k::r) n x).drop k.sz) with
   |some x,some y=>some ((x,y):k.T×qB r)
   |_,_=>none):=by generalize aD (.val k::r) n x=l;cases l<;>rfl
  have h4:dI k (((aD (.val k::r) n x).take k.sz).map (cK hh))=some x.1:=by
   rw[h1];exact(congrArg (dI k) (qX hh k x.1)).trans (tU k x.1)
  have h5:cM r hh ((aD (.val k::r) n x).drop k.sz)=some x.2:=by
   rw[h2];exact pw r (n+1) x.2 hg
  rw[e]
  generalize dI k (((aD (.val k::r) n x).take k.sz).map (cK hh))=o1 at h4 ⊢
  generalize cM r hh ((aD (.val k::r) n x).drop k.sz)=o2 at h5 ⊢
  subst h4;subst h5;rfl
 |.own ok::r,n,x,hg=>by
  simp only[bf]at hg
  have h1:=wJ (hg _ List.mem_cons_self)
  have h2:=pw r (n+1) x.2 (fun e he=>hg e (List.mem_cons_of_mem _ he))
  have e:cM (.own ok::r) hh (aD (.own ok::r) n x)=(match dU hh ok (.bH n),cM r hh (aD r (n+1) x.2) with
   |some x,some y=>some ((x,y):ok.T×qB r)
   |_,_=>none):=rfl
  rw[e,h1,h2]
  rfl
theorem MJ{hh:Heap}(b:BK){i n:Nat}{x:b.T}(hg:∀e∈ji b i n x,hh.get e.1=some e.2):qc b hh i=some x:=by
 cases b with
 |box ty c =>
  simp only[ji]at hg
  have h1:Dl hh i ty=some (aD c n x):=by
   unfold Dl
   rw[hg _ List.mem_cons_self]
   simp
  simp only[qc,h1]
  exact pw (hh:=hh) c n x (fun e he=>hg e (List.mem_cons_of_mem _ he))
 |own ok=>exact wJ (hg _ (by simp only[ji];exact List.mem_cons_self))
theorem yg{hh:Heap}:∀(bs:List BK) (is:List Nat) (n:Nat) (x:we bs),is.length=bs.length→(∀e∈bz bs is n x,hh.get e.1=some e.2)→c9 bs hh is=some x
 |[],[],n,x,_,_=>rfl
 |[],_::_,n,x,hl,_=>by simp at hl
 |_::_,[],n,x,hl,_=>by simp at hl
 |b::r,i::is,n,x,hl,hg=>by
  simp only[bz]at hg
  have h2:=MJ b (fun e he=>hg e (List.mem_append_left _ he))
  have h3:=yg r is (n+16) x.2 (by simpa using hl) (fun e he=>hg e (List.mem_append_right _ he))
  have e:c9 (b::r) hh (i::is)=(match qc b hh i,c9 r hh is with
    |some x,some y=>some ((x,y):b.T×we r)
    |_,_=>none):=rfl
  rw[e,h2,h3]
  rfl
theorem wK{i:Nat}{o:Ob}:∀{hh:Heap},b7 (hh.map (·.1))=true→(i,o)∈hh→hh.get i=some o
 |[],_,h=>by cases h
 |(j,o')::r,hn,h=>by
  obtain⟨h1,h2⟩:=mM hn
  simp only[Heap.get]
  rcases List.mem_cons.1 h with e|h
  ·cases e;simp
  ·rw[if_neg,wK h2 h]
   rintro rfl
   exact h1 (List.mem_map.2 ⟨_,h,rfl⟩)
theorem zr{hh:Heap}:∀(dv:List CK) (n:Nat) (x:qB dv) (id:Nat),AV.bH id∉qb dv (aD dv n x)
 |[],n,x,id=>by simp[aD,qb]
 |.val k::r,n,x,id=>by
  have h1:(aD (.val k::r) n x).take k.sz=enc k x.1:=by simp only[aD];rw[←fm k x.1,List.take_left]
  have h2:(aD (.val k::r) n x).drop k.sz=aD r (n+1) x.2:=by simp only[aD];rw[←fm k x.1,List.drop_left]
  have e:qb (.val k::r) (aD (.val k::r) n x)=(aD (.val k::r) n x).take k.sz++qb r ((aD (.val k::r) n x).drop k.sz):=by generalize aD (.val k::r) n x=l;cases l<;>rfl
  rw[e,h1,h2,List.mem_append]
  rintro(h|h)
  ·exact lT k x.1 id h
  ·exact zr (hh:=hh) r (n+1) x.2 id h
 |.own ok::r,n,x,id=>by simp only[aD,qb];exact zr (hh:=hh) r (n+1) x.2 id
theorem AL{hh:Heap}:∀(bs:List BK) (is:List Nat) (n:Nat) (x:we bs) (id:Nat),(∀e∈bz bs is n x,hh.get e.1=some e.2)→AV.bH id∉fY bs hh is
 |[],is,n,x,id,_=>by cases is<;>simp[fY]
 |_::_,[],n,x,id,_=>by simp[fY]
 |b::r,i::is,n,x,id,hg=>by
  simp only[bz]at hg
  simp only[fY,List.mem_append]
  rintro(h|h)
  ·cases b with
   |box ty c =>
    simp only[z8]at h
    rw[hg (i,.box ty (aD c n x.1)) (List.mem_append_left _ (by simp only[ji];exact List.mem_cons_self))]at h
    exact zr (hh:=hh) c n x.1 id h
   |own ok=>simp[z8]at h
  ·exact AL r is (n+16) x.2 id (fun e he=>hg e (List.mem_append_right _ he)) h
theorem DC{hh:Heap}:∀(cap:List AV) (is is':List Nat) (vs:List Value),jM cap=some is→is'.length=is.length→(∀p∈is.zip is',hh.get p.1≠none∧(h' p.2≠none→ψ' p.2=ψ p.1)) →
  an Z ψ hh.get w cap vs→an Z' ψ' h' w (is'.map fun i=>.ref i 0 0 0) vs
 |[],is,is',vs,h1,hl,_,hr=>by
  simp only[jM]at h1
  cases h1
  cases is' with
  |nil=>simpa only[List.map_nil,an] using hr
  |cons c r=>simp at hl
 |v::cap,is,is',vs,h1,hl,hp,hr=>by
  simp only[jM]at h1
  split at h1
  ·rename_i i is1 h3 h4
   cases h1
   cases is' with
   |nil=>simp at hl
   |cons c r =>
    simp only[List.zip_cons_cons]at hp
    simp only[List.map_cons,an]at hr ⊢
    obtain⟨u,us,rfl,h7,h8⟩:=hr
    obtain⟨sz,rfl⟩:=pj h3
    obtain⟨h5,h6⟩:=hp _ List.mem_cons_self
    exact⟨u,us,rfl,zp h7 h5 h6,DC cap is1 r us h4 (by simpa using hl) (fun p h=>hp p (List.mem_cons_of_mem _ h)) h8⟩
  ·cases h1
theorem s5:∀(cap:List AV) (is:List Nat),jM cap=some is→is.length=cap.length
 |[],is,h=>by simp only[jM]at h;cases h;rfl
 |v::cap,is,h=>by
  simp only[jM]at h
  split at h
  ·rename_i i is1 h3 h4
   cases h
   simp[s5 cap is1 h4]
  ·cases h
theorem s6:∀(cs:List AV) (is:List Nat),oX cs=some is→is.length=cs.length
 |[],is,h=>by simp only[oX]at h;cases h;rfl
 |c::r,is,h=>by
  cases c<;>simp only[oX]at h<;>first|(cases h;done)|skip
  split at h
  ·rename_i is' h1
   cases h
   simp[s6 r is' h1]
  ·cases h
theorem DD{hh:Heap}:∀(cs:List AV) (is gK:List Nat) (vs:List Value),oX cs=some is→gK.length=is.length→(∀p∈is.zip gK,hh.get p.1≠none∧(h' p.2≠none→ψ' p.2=ψ p.1)) →
  an Z ψ hh.get w cs vs→an Z' ψ' h' w (gK.map .bH) vs
 |[],is,gK,vs,h,hl,hp,hr=>by
  simp only[oX]at h
  cases h
  have:gK=[]:=List.eq_nil_of_length_eq_zero hl
  subst this
  simpa only[List.map_nil,an] using hr
 |c::r,is,gK,vs,h,hl,hp,hr=>by
  cases c<;>simp only[oX]at h<;>first|(cases h;done)|skip
  rename_i i
  split at h
  ·rename_i is' h1
   cases h
   cases gK with
   |nil=>simp at hl
   |cons i' gK =>
    simp only[List.zip_cons_cons]at hp
    obtain⟨h5,h6⟩:=hp _ List.mem_cons_self
    simp only[List.map_cons,an]at hr ⊢
    obtain⟨u,us,rfl,h3,h4⟩:=hr
    refine⟨u,us,rfl,?_,DD r is' gK us h1 (by simpa using hl) (fun p Pe=>hp p (List.mem_cons_of_mem _ Pe)) h4⟩
    simp only[aw]at h3 ⊢
    exact⟨h3.1,fun hn=>(h3.2 h5).trans (h6 hn).symm⟩
  ·cases h
theorem lr{hh:Heap}(g:Good Z ψ hh.get w B0 O)(hz:∀b,Z b→Z' b):∀(ps:List PK) (ids gK:List Nat) (s:Nat) (vs:List AV) (us:List Value) (x:Gg (kO ps)),gK.length=ids.length→cF ps vs=some ids→eQ ps hh vs=some x →
  (∀id b,AV.bH id∈dt ps vs→hh.get id≠none→ob (ψ id)=some b→Z' b)→(∀p∈ids.zip gK,hh.get p.1≠none∧(h' p.2≠none→ψ' p.2=ψ p.1))→an Z ψ hh.get w vs us→an Z' ψ' h' w ((aU ps gK s x).map (·.2)) us
 |[],ids,gK,s,vs,us,x,hl,hi,hv,hf,hp,hr=>by
  cases vs with
  |nil=>simpa only[aU,List.map_nil,an] using hr
  |cons a r=>simp[cF]at hi
 |.val k::ps,ids,gK,s,vs,us,x,hl,hi,hv,hf,hp,hr=>by
  cases vs with
  |nil=>simp[cF]at hi
  |cons a r =>
   simp only[cF]at hi
   simp only[an]at hr
   obtain⟨u,iY,rfl,h3,h4⟩:=hr
   obtain⟨h1,h2⟩:=yc hv
   simp only[dt]at hf
   simp only[aU,List.map_cons,an]
   exact⟨u,iY,rfl,rR g hz (fun id b bO=>hf id b (List.mem_append_left _ bO)) h1 h3,lr g hz ps ids gK (s+1) r iY x.2 hl hi h2 (fun id b bO=>hf id b (List.mem_append_right _ bO)) hp h4⟩
 |.ref::ps,ids,gK,s,vs,us,x,hl,hi,hv,hf,hp,hr=>by
  cases vs with
  |nil=>simp[cF]at hi
  |cons a r =>
   simp only[cF]at hi
   split at hi
   ·rename_i i is h1 h2
    cases hi
    simp only[an]at hr
    obtain⟨u,iY,rfl,h3,h4⟩:=hr
    cases gK with
    |nil=>simp at hl
    |cons i' is' =>
     simp only[List.zip_cons_cons]at hp
     obtain⟨sz,rfl⟩:=pj h1
     obtain⟨h5,h6⟩:=hp _ List.mem_cons_self
     simp only[aU,List.map_cons,an]
     exact⟨u,iY,rfl,zp h3 h5 h6,lr g hz ps is is' (s+1) r iY x (by simpa using hl) h2 hv hf (fun p h=>hp p (List.mem_cons_of_mem _ h)) h4⟩
   ·cases hi
 |.own::ps,ids,gK,s,vs,us,x,hl,hi,hv,hf,hp,hr=>by
  cases vs with
  |nil=>simp[cF]at hi
  |cons a r =>
   cases a<;>simp only[cF]at hi<;>first|(cases hi;done)|skip
   rename_i i
   split at hi
   ·rename_i is h2
    cases hi
    simp only[an]at hr
    obtain⟨u,iY,rfl,h3,h4⟩:=hr
    cases gK with
    |nil=>simp at hl
    |cons i' is' =>
     simp only[List.zip_cons_cons]at hp
     obtain⟨h5,h6⟩:=hp _ List.mem_cons_self
     simp only[aU,List.map_cons,an]
     refine⟨u,iY,rfl,?_,lr g hz ps is is' (s+1) r iY x (by simpa using hl) h2 hv hf (fun p h=>hp p (List.mem_cons_of_mem _ h)) h4⟩
     simp only[aw]at h3 ⊢
     exact⟨h3.1,fun hn=>(h3.2 h5).trans (h6 hn).symm⟩
   ·cases hi
 |.F9 f m::ps,ids,gK,s,vs,us,x,hl,hi,hv,hf,hp,hr=>by
  cases vs with
  |nil=>simp[cF]at hi
  |cons a r =>
   cases a<;>simp only[cF]at hi<;>first|(cases hi;done)|skip
   rename_i f' cap
   split at hi
   ·rename_i hc
    obtain⟨rfl,tI⟩:=hc
    split at hi
    ·rename_i a1 b1 h1 h2
     cases hi
     simp only[an]at hr
     obtain⟨u,iY,rfl,h3,h4⟩:=hr
     have h5:=s5 cap a1 h1
     have xV:(a1++b1).zip gK=a1.zip (gK.take m)++b1.zip (gK.drop m):=by
      conv=>lhs;rw[←List.take_append_drop m gK]
      rw[List.zip_append]
      rw[List.length_take,Nat.min_eq_left]
      ·omega
      ·rw[hl,List.length_append];omega
     rw[xV]at hp
     simp only[aU,List.map_cons,an]
     refine⟨u,iY,rfl,?_,lr g hz ps b1 (gK.drop m) (s+1) r iY x (by rw[List.length_drop,hl,List.length_append];omega) h2 hv hf (fun p h=>hp p (List.mem_append_right _ h)) h4⟩
     simp only[aw]at h3 ⊢
     obtain⟨ws,h6,h7⟩:=h3
     exact⟨ws,h6,DC cap a1 (gK.take m) _ h1 (by rw[List.length_take,Nat.min_eq_left (by rw[hl,List.length_append];omega)];omega) (fun p h=>hp p (List.mem_append_left _ h)) h7⟩
    ·cases hi
   ·cases hi
 |.agg m::ps,ids,gK,s,vs,us,x,hl,hi,hv,hf,hp,hr=>by
  cases vs with
  |nil=>simp[cF]at hi
  |cons a r =>
   cases a<;>simp only[cF]at hi<;>first|(cases hi;done)|skip
   rename_i cs
   split at hi
   ·rename_i tI
    split at hi
    ·rename_i a1 b1 h1 h2
     cases hi
     simp only[an]at hr
     obtain⟨u,iY,rfl,h3,h4⟩:=hr
     have h5:=s6 cs a1 h1
     have xV:(a1++b1).zip gK=a1.zip (gK.take m)++b1.zip (gK.drop m):=by
      conv=>lhs;rw[←List.take_append_drop m gK]
      rw[List.zip_append]
      rw[List.length_take,Nat.min_eq_left]
      ·omega
      ·rw[hl,List.length_append];omega
     rw[xV]at hp
     simp only[aU,List.map_cons,an]
     refine⟨u,iY,rfl,?_,lr g hz ps b1 (gK.drop m) (s+1) r iY x (by rw[List.length_drop,hl,List.length_append];omega) h2 hv hf (fun p h=>hp p (List.mem_append_right _ h)) h4⟩
     simp only[aw]at h3 ⊢
     obtain⟨ws,h6,h7⟩:=h3
     exact⟨ws,h6,DD cs a1 (gK.take m) _ h1 (by rw[List.length_take,Nat.min_eq_left (by rw[hl,List.length_append];omega)];omega) (fun p h=>hp p (List.mem_append_left _ h)) h7⟩
    ·cases hi
   ·cases hi
theorem MK(hh:Heap)(k:K)(x:k.T):fU k hh (cf k x)=some x:=by
 unfold fU
 rw[if_pos (AH k x).symm,tV]
 exact(congrArg (dI k) (qX hh k x)).trans (tU k x)
theorem mQ:∀(dv:List CK) (c n:Nat) (x:qB dv),fV dv c=true→(aD dv n x)[mJ dv c]? = some (.bH (n+c))
 |[],c,n,x,h=>by simp[fV]at h
 |.val k::r,0,n,x,h=>by simp[fV]at h
 |.val k::r,c+1,n,x,h=>by
  simp only[aD,mJ]
  have ih:=mQ r c (n+1) x.2 (by simpa[fV] using h)
  have hl:(enc k x.1).length=k.sz:=fm k x.1
  generalize enc k x.1=l at hl ⊢
  rw[List.getElem?_append_right (by omega),hl,Nat.add_sub_cancel_left,show n+(c+1)=n+1+c by omega]
  exact ih
 |.own ok::r,0,n,x,h=>by simp[aD,mJ]
 |.own ok::r,c+1,n,x,h=>by
  simp only[aD,mJ]
  rw[Nat.add_comm 1,List.getElem?_cons_succ,show n+(c+1)=n+1+c by omega]
  exact mQ r c (n+1) x.2 (by simpa[fV] using h)
theorem yh:∀(bs:List BK) (b:Nat) (is:List Nat) (n:Nat) (x:we bs) (ty:TypeId) (c:List CK) (bi:Nat),bs[b]? = some (.box ty c)→is[b]? = some bi→∃xb,(bi,.box ty (aD c (n+16*b) xb))∈bz bs is n x
 |[],b,is,n,x,_,_,bi,h,_=>by simp at h
 |b0::r,b,[],n,x,_,_,bi,_,h=>by simp at h
 |b0::r,0,i::is,n,x,ty,c,bi,h1,h2=>by
  simp only[List.getElem?_cons_zero,Option.some.injEq]at h1 h2
  subst h1;subst h2
  exact⟨x.1,by simp only[bz,ji];exact List.mem_append_left _ List.mem_cons_self⟩
 |b0::r,b+1,i::is,n,x,ty,c,bi,h1,h2=>by
  obtain⟨xb,h3⟩:=yh r b is (n+16) x.2 ty c bi (by simpa using h1) (by simpa using h2)
  refine⟨xb,?_⟩
  simp only[bz]
  rw[show n+16*(b+1)=n+16+16*b by omega]
  exact List.mem_append_right _ h3
theorem lU{bs:List BK}{hh:Heap}{is:List Nat}{nb:Nat}{xb:we bs}(hl:is.length=bs.length)(Tj:∀e∈bz bs is nb xb,hh.get e.1=some e.2):∀(rs:List RK) (ids2:List Nat) (m:Nat) (y:lJ rs),qE bs rs=true →
  (∀e∈ak rs m y,hh.get e.1=some e.2)→bJ bs rs hh is (aV rs ids2 nb m y)=some y
 |[],ids2,m,y,_,_=>rfl
 |.val k::r,ids2,m,y,hk,hg=>by
  simp only[qE,List.all_cons,Bool.and_eq_true,CQ]at hk
  have h1:=MK hh k y.1
  have h2:=lU hl Tj r ids2 (m+1) y.2 hk.2 hg
  have e:bJ bs (.val k::r) hh is (aV (.val k::r) ids2 nb m y)=(match fU k hh (cf k y.1),bJ bs r hh is (aV r ids2 nb (m+1) y.2) with
   |some x,some y=>some ((x,y):k.T×lJ r)
   |_,_=>none):=rfl
  rw[e]
  generalize fU k hh (cf k y.1)=o1 at h1 ⊢
  generalize bJ bs r hh is (aV r ids2 nb (m+1) y.2)=o2 at h2 ⊢
  subst h1;subst h2;rfl
 |.own ok::r,ids2,m,y,hk,hg=>by
  simp only[qE,List.all_cons,Bool.and_eq_true,CQ]at hk
  simp only[ak]at hg
  have h1:=wJ (hg _ List.mem_cons_self)
  have h2:=lU hl Tj r ids2 (m+1) y.2 hk.2 (fun e he=>hg e (List.mem_cons_of_mem _ he))
  have e:bJ bs (.own ok::r) hh is (aV (.own ok::r) ids2 nb m y)=(match dU hh ok (.bH m),bJ bs r hh is (aV r ids2 nb (m+1) y.2) with
   |some x,some y=>some ((x,y):ok.T×lJ r)
   |_,_=>none):=rfl
  rw[e]
  generalize dU hh ok (.bH m)=o1 at h1 ⊢
  generalize bJ bs r hh is (aV r ids2 nb (m+1) y.2)=o2 at h2 ⊢
  subst h1;subst h2;rfl
 |.eU b alts::r,ids2,m,y,hk,hg=>by
  simp only[qE,List.all_cons,Bool.and_eq_true,CQ]at hk
  have h2:=lU hl Tj r ids2 (m+1) y.2 hk.2 hg
  have h1:nj bs hh is b alts (uB b nb alts y.1)=some y.1:=by
   cases hy:y.1 with
   |none=>rfl
   |some p =>
    obtain⟨al,i⟩:=p
    have h3:=hk.1
    split at h3
    ·rename_i bk Zq
     have aF:=(List.getElem?_eq_some_iff.1 Zq).1
     have ML:is[b]? = some (is[b]'(by omega)):=List.getElem?_eq_getElem (by omega)
     rw[Bool.and_eq_true,decide_eq_true_eq]at h3
     obtain⟨h3,DE⟩:=h3
     have Zr:∀a:Fin alts.length,fV bk.dv (alts.get a).1=true:=fun a=>List.all_eq_true.1 h3 _ (List.get_mem alts a)
     cases bk with
     |own ok=>have:=Zr al;simp[BK.dv,fV]at this
     |box ty c0 =>
      obtain⟨xb',h4⟩:=yh bs b is nb xb ty c0 _ Zq ML
      have h5:=Tj _ h4
      simp only[BK.dv]at Zr
      simp only[nj,uB,Zq,ML,h5,BK.dv]
      have key:(List.finRange alts.length).find? (fun a=>xN c0 (aD c0 (nb+16*b) xb') (nb+16*b+(alts.get al).1) (alts.get al).2.1 (alts.get al).2.2 (alts.get a))=some al:=by
       cases hf:(List.finRange alts.length).find? (fun a=>xN c0 (aD c0 (nb+16*b) xb') (nb+16*b+(alts.get al).1) (alts.get al).2.1 (alts.get al).2.2 (alts.get a)) with
       |none =>
        have:=List.find?_eq_none.1 hf al (List.mem_finRange al)
        exfalso
        apply this
        simp only[xN,Bool.and_eq_true,decide_eq_true_eq]
        refine⟨?_,trivial,trivial,Zr al⟩
        rw[mQ c0 _ _ xb' (Zr al)]
        simp[OJ]
       |some a' =>
        have hf':=List.find?_some hf
        obtain⟨h6,_,h7,_⟩:=AK hf'
        rw[mQ c0 _ _ xb' (Zr a')]at h6
        simp only[Option.some.injEq,AV.bH.injEq]at h6
        have h8:(alts.get a').1=(alts.get al).1:=by omega
        congr 1
        have nt:∀a:Fin alts.length,(alts.map fun a=>(a.1,a.2.2))[a.val]? = some ((alts.get a).1,(alts.get a).2.2):=fun a=>by
         rw[List.getElem?_map,List.getElem?_eq_getElem a.isLt];rfl
        have e1:=nt a'
        have e2:=nt al
        rw[h8,←h7]at e1
        exact Fin.ext ((List.getElem?_inj (by simp) DE).1 (e1.trans e2.symm))
      rw[key]
      rfl
    ·cases h3
  have e:bJ bs (.eU b alts::r) hh is (aV (.eU b alts::r) ids2 nb m y)=(match nj bs hh is b alts (uB b nb alts y.1),bJ bs r hh is (aV r ids2 nb (m+1) y.2) with
   |some x,some y=>some ((x,y):Option (Fin alts.length×Nat)×lJ r)
   |_,_=>none):=rfl
  rw[e]
  generalize nj bs hh is b alts (uB b nb alts y.1)=o1 at h1 ⊢
  generalize bJ bs r hh is (aV r ids2 nb (m+1) y.2)=o2 at h2 ⊢
  subst h1;subst h2;rfl
 |.agg c::r,ids2,m,y,hk,hg=>by
  simp only[qE,List.all_cons,Bool.and_eq_true,CQ]at hk
  simp only[ak]at hg
  have h1:=pw (hh:=hh) c m y.1 (fun e he=>hg e (List.mem_append_left _ he))
  have h2:=lU hl Tj r ids2 (m+1) y.2 hk.2 (fun e he=>hg e (List.mem_append_right _ he))
  have e:bJ bs (.agg c::r) hh is (aV (.agg c::r) ids2 nb m y)=(match cM c hh (aD c m y.1),bJ bs r hh is (aV r ids2 nb (m+1) y.2) with
   |some x,some y=>some ((x,y):qB c×lJ r)
   |_,_=>none):=rfl
  rw[e]
  generalize cM c hh (aD c m y.1)=o1 at h1 ⊢
  generalize bJ bs r hh is (aV r ids2 nb (m+1) y.2)=o2 at h2 ⊢
  subst h1;subst h2;rfl
end Go.Vs
namespace Go.Vs
variable {P:Program} {Z Z':Nat→Prop} {ψ ψ':Nat→Value} {h h':Hp} {w w':World} {B0:Nat} {O:Nat→Prop} {N:Nat→Prop}
def py(g:aM)(x:g.A):Hp:=(bz g.bs (aP g.bs.length) 2000 x.2).get
def jV(g:aM)(y:g.B):Heap:=bz g.bs (aP g.bs.length) 2000 y.2++ak g.rs 3000 y.1
def EP(g:aM)(x:g.A):List AV:=(aU g.ps (aP g.bs.length) 0 x.1).map (·.2)
def DF(P:Program)(f:FuncId)(g:aM)(x:g.A)(y:g.B):Prop :=
 ∀(Z:Nat→Prop) (ψ0:Nat→Value) (w:World) (kl:List Value),Good Z ψ0 (py g x) w w.heap.size (Own ψ0 (py g x))→an Z ψ0 (py g x) w (EP g x) kl →
  Calls P (f%1000) kl.toArray w fun e w'=>∃v Z' ψ',e=.returned v∧(∀b,Z b→Z' b)∧(∀b,Z' b→Z b∨Own ψ0 (py g x) b∨w.heap.size≤b)∧db ψ0 (py g x) w w' ∧
   Good Z' ψ' (jV g y).get w' w.heap.size (Own ψ0 (py g x))∧(∀i∈aP g.bs.length,ψ' i=ψ0 i)∧aw Z' ψ' (jV g y).get w' (fb (aV g.rs (aP g.bs.length) 2000 3000 y.1)) v
theorem ER{ψ:Nat→Value}{b:Nat}:¬Own ψ gk b:=fun⟨_,h,_⟩=>h rfl
theorem uX(ids:List Nat)(n:Nat)(x:we []):bz [] ids n x=[]:=by cases ids<;>rfl
theorem DF.zero{f:FuncId}{g:aM}{x:g.A}{y:g.B}(hb:g.bs=[])(c:DF P f g x y):Zj P f g x y:=by
 obtain⟨ps,bs,rs,_⟩:=g
 simp only at hb
 subst hb
 intro Z w kl hz hr
 have e0:py ⟨ps,[],rs,_⟩ x=gk:=by unfold py;rw[uX];rfl
 have e1:jV ⟨ps,[],rs,_⟩ y=ak rs 3000 y.1:=by unfold jV;rw[uX];rfl
 have hO:Own I7 gk=fun _=>False:=funext fun b=>propext ⟨ER,False.elim⟩
 unfold DF at c
 rw[e0,e1]at c
 refine(c Z I7 w kl ⟨fun _ _ _ h=>(by cases h),fun _ _ _ h=>(by cases h),fun _ _ h=>absurd rfl h,fun _ _ _ h=>absurd rfl h,hz⟩ hr).mono fun e w' ⟨v,Z',ψ',h1,h2,h3,h4,h5,_,h6⟩=>?_
 exact⟨v,Z',ψ',h1,h2,fun b hb=>(h3 b hb).imp (fun h=>h) fun h=>h.resolve_left ER,h4,by rw[hO]at h5;exact h5,h6⟩
theorem GJ{bs:List BK}{hh:Heap}{x:we bs}(hd:c9 bs hh []=some x):bs=[]:=by
 cases bs with
 |nil=>rfl
 |cons b r=>cases hd
variable {Eqs:TypeId→Option K} {Sg:FuncId→Option aM} {F:(f:FuncId)→(g:aM)→g.A→Option g.B}
theorem GK{a b:List Nat}(h:b7 (a++b)=true):b7 a=true:=by
 induction a with
 |nil=>rfl
 |cons i r ih =>
  obtain⟨h1,h2⟩:=mM h
  simp only[b7,Bool.and_eq_true,Bool.not_eq_true']
  refine⟨?_,ih h2⟩
  cases hc:r.contains i with
  |false=>rfl
  |true=>exact absurd (List.mem_append_left _ (List.contains_iff_mem.1 hc)) h1
theorem Good.ES(g:Good Z ψ h w B0 O)(B:Nat):Good Z ψ h w B (Own ψ h) :=
 ⟨g.box,g.row,fun id b h1 h2=>⟨(g.live id b h1 h2).1,.inr ⟨id,h1,h2⟩⟩,g.apart,g.jP⟩
theorem od:∀(l:List Nat) (hh:Heap) (i:Nat),(gX hh l).get i=if i∈l then none else hh.get i
 |[],hh,i=>by simp[gX]
 |j::r,hh,i=>by
  simp only[gX]
  rw[od r (hh.del j) i]
  by_cases h1:i∈r
  ·simp[h1]
  ·by_cases h2:i=j
   ·subst h2;simp[Heap.gH]
   ·rw[Heap.iv h2];simp[h1,h2]
theorem hM:∀(dv:List CK) (n:Nat) (x:qB dv),(bf dv n x).map (·.1)=cg dv n
 |[],_,_=>rfl
 |.val k::r,n,x=>hM r (n+1) x.2
 |.own ok::r,n,x=>by simp only[bf,cg,List.map_cons];rw[hM r (n+1) x.2]
theorem lV:∀(bs:List BK) (is:List Nat) (n:Nat) (x:we bs),is.length=bs.length→(bz bs is n x).map (·.1)=bZ bs is n
 |[],is,n,x,_=>by cases is<;>rfl
 |b::r,[],n,x,hl=>by simp at hl
 |b::r,i::is,n,x,hl=>by
  simp only[bz,bZ,List.map_append]
  rw[lV r is (n+16) x.2 (by simpa using hl),←List.cons_append]
  congr 1
  cases b with
  |box ty c=>simp only[ji,List.map_cons,BK.dv];rw[hM]
  |own ok=>simp[ji,BK.dv,cg]
theorem fL:∀(rs:List RK) (m:Nat) (y:lJ rs),(ak rs m y).map (·.1)=bA rs m
 |[],_,_=>rfl
 |.own ok::r,m,y=>by simp only[ak,bA,List.map_cons];rw[fL r (m+1) y.2]
 |.val _::r,m,y=>fL r (m+1) y.2
 |.eU _ _::r,m,y=>fL r (m+1) y.2
 |.agg c::r,m,y=>by
  have e1:(bf c m y.1).map (·.1)=cg c m:=hM c m y.1
  simp only[ak,bA,List.map_append]
  rw[fL r (m+1) y.2]
  exact congrArg (·++_) e1
theorem pz:∀(dv:List CK) (n:Nat) (x:qB dv),fO dv (aD dv n x)=cg dv n
 |[],_,_=>rfl
 |.val k::r,n,x=>by
  have h2:(aD (.val k::r) n x).drop k.sz=aD r (n+1) x.2:=by simp only[aD];rw[←fm k x.1,List.drop_left]
  have e:fO (.val k::r) (aD (.val k::r) n x)=fO r ((aD (.val k::r) n x).drop k.sz):=by generalize aD (.val k::r) n x=l;cases l<;>rfl
  rw[e,h2,pz r (n+1) x.2];rfl
 |.own ok::r,n,x=>by simp only[aD,fO,oW,cg,List.cons_append,List.nil_append];rw[pz r (n+1) x.2]
theorem yi{hh:Heap}:∀(bs:List BK) (is:List Nat) (n:Nat) (x:we bs),is.length=bs.length→(∀e∈bz bs is n x,hh.get e.1=some e.2)→da bs hh is=bZ bs is n
 |[],is,n,x,_,_=>by cases is<;>rfl
 |_::_,[],n,x,hl,_=>by simp at hl
 |b::r,i::is,n,x,hl,hg=>by
  simp only[bz]at hg
  simp only[da,bZ]
  rw[yi r is (n+16) x.2 (by simpa using hl) (fun e he=>hg e (List.mem_append_right _ he)),←List.cons_append]
  congr 1
  cases b with
  |box ty c =>
   simp only[j9,BK.dv]
   rw[hg (i,.box ty (aD c n x.1)) (List.mem_append_left _ (by simp only[ji];exact List.mem_cons_self))]
   simp only[]
   rw[pz]
  |own ok=>simp[j9,BK.dv,cg]
theorem km:∀(rs:List RK) (ids:List Nat) (n m:Nat) (y:lJ rs),dO rs (aV rs ids n m y)=bA rs m
 |[],_,_,_,_=>rfl
 |.own ok::r,ids,n,m,y=>by simp only[aV,dO,bA,oW,List.cons_append,List.nil_append];rw[km r ids n (m+1) y.2]
 |.val _::r,ids,n,m,y=>by simp only[aV,dO,bA];exact km r ids n (m+1) y.2
 |.eU _ _::r,ids,n,m,y=>by simp only[aV,dO,bA];exact km r ids n (m+1) y.2
 |.agg c::r,ids,n,m,y=>by
  have e1:fO c (aD c m y.1)=cg c m:=pz c m y.1
  simp only[aV,dO,bA,AV.cells]
  rw[km r ids n (m+1) y.2]
  exact congrArg (·++_) e1
theorem lW:∀(rs:List RK) (ids:List Nat) (n m:Nat) (y:lJ rs) (id:Nat),AV.bH id∉fZ rs (aV rs ids n m y)
 |[],_,_,_,_,_=>by simp[aV,fZ]
 |.own ok::r,ids,n,m,y,id=>by simp only[aV,fZ];exact lW r ids n (m+1) y.2 id
 |.val k::r,ids,n,m,y,id=>by
  simp only[aV,fZ,List.mem_append]
  rintro(h|h)
  ·have e:(cf k y.1).cells=enc k y.1:=tV k y.1
   exact lT k y.1 id (e▸h)
  ·exact lW r ids n (m+1) y.2 id h
 |.eU _ _::r,ids,n,m,y,id=>by simp only[aV,fZ];exact lW r ids n (m+1) y.2 id
 |.agg c::r,ids,n,m,y,id=>by
  simp only[aV,fZ,AV.cells,List.mem_append]
  rintro(h|h)
  ·exact zr (hh:=[]) c m y.1 id h
  ·exact lW r ids n (m+1) y.2 id h
theorem MM{gg:aM}{x:gg.A}{y:gg.B}{Pf:List Nat}{nO dX:Nat→Value}{id:Nat}(hl:Pf.length=gg.bs.length)(Xb:qE gg.bs gg.rs=true)(uY:b7 (qC gg)=true)
  (AM:b7 (bZ gg.bs Pf id++bA gg.rs (id+128))=true) (Pg:Good Z' dX (jV gg y).get w' w.heap.size (Own nO (py gg x)))
  {v:Value} (aek:aw Z' dX (jV gg y).get w' (fb (aV gg.rs (aP gg.bs.length) 2000 3000 y.1)) v) :
  ∃L2:List xZ,dF L2=bz gg.bs Pf id y.2++ak gg.rs (id+128) y.1∧L2.map (·.1)=bZ gg.bs Pf id++bA gg.rs (id+128) ∧
   Good Z' (eW dX L2) (dF L2).get w' w.heap.size (Own nO (py gg x))∧(∀p∈(aP gg.bs.length).zip Pf,eW dX L2 p.2=dX p.1) ∧
   aw Z' (eW dX L2) (dF L2).get w' (fb (aV gg.rs Pf id (id+128) y.1)) v:=by
 have hle:(aP gg.bs.length).length=gg.bs.length:=by simp[aP]
 have hn2:b7 ((jV gg y).map (·.1))=true:=by
  unfold jV
  rw[List.map_append,lV _ _ _ _ hle,fL];exact uY
 have Tj:∀e∈bz gg.bs (aP gg.bs.length) 2000 y.2,(jV gg y).get e.1=some e.2:=fun e he=>wK hn2 (by unfold jV;exact List.mem_append_left _ he)
 have hgr:∀e∈ak gg.rs 3000 y.1,(jV gg y).get e.1=some e.2:=fun e he=>wK hn2 (by unfold jV;exact List.mem_append_right _ he)
 have zm:=yg gg.bs _ 2000 y.2 hle Tj
 have TV:=lU (xb:=y.2) hle Tj gg.rs (aP gg.bs.length) 3000 y.1 Xb hgr
 let vsC:=aV gg.rs (aP gg.bs.length) 2000 3000 y.1
 let L2:List xZ:=cx gg.bs (jV gg y) (aP gg.bs.length) Pf id y.2++cE gg.rs vsC (id+128) y.1
 have eH:dF L2=bz gg.bs Pf id y.2++ak gg.rs (id+128) y.1:=by
  show dF (_++_)=_
  rw[mO,jn _ _ _ _ _ _ zm hl,gI]
 have eN:L2.map (·.1)=bZ gg.bs Pf id++bA gg.rs (id+128):=by
  show(_++_:List xZ).map _=_
  rw[List.map_append,g6 _ _ _ _ _ _ zm hl,fK]
 have eS:L2.filterMap (·.2.1)=qC gg:=by
  show(_++_:List xZ).filterMap _=_
  rw[List.filterMap_append,ki _ _ _ _ _ _ zm hl,iK _ _ _ _ TV,yi _ _ 2000 y.2 hle Tj,km];rfl
 have hn:b7 (L2.map (·.1))=true:=by rw[eN];exact AM
 have jg:=zo (ψ:=dX) hn
 have g3:Good Z' (eW dX L2) (dF L2).get w' w.heap.size (Own nO (py gg x)):=by
  refine Pg.rename hn (by rw[eS];exact uY) fun e he=>?_
  rcases List.mem_append.1 he with he|he
  ·exact lQ Pg (fun _ h=>h) gg.bs _ _ id y.2 zm (fun i b bO _ _=>(AL gg.bs _ 2000 y.2 i Tj bO).elim) (fun s _=>rfl) (fun e he=>jg e (List.mem_append_left _ he)) e he
  ·exact jU gg.rs vsC (id+128) y.1 TV (fun s _=>rfl) e he
 refine⟨L2,eH,eN,g3,fun p hp=>?_,?_⟩
 ·obtain⟨o,ho⟩:=kj (hh:=jV gg y) gg.bs (aP gg.bs.length) Pf id y.2 hle p hp
  exact iJ hn (List.mem_append_left _ ho)
 ·refine tT (by rw[kc,kc]) (fun vs tJ=>?_) aek
  exact rZ (nb:=id) (is':=Pf) Pg (fun _ h=>h) zm hl (fun e he=>jg e (List.mem_append_left _ he)) gg.rs vsC (id+128) y.1 vs TV (fun i b bO _ _=>(lW gg.rs _ _ _ y.1 i bO).elim) (fun e he=>jg e (List.mem_append_right _ he)) tJ
theorem MN{hh:Heap}{kM:List AV}{kept:List Nat}{mA:Hp}{nO Ph:Nat→Value}{H2:Heap}(g:Good Z ψ hh.get w B0 O)(hB:B0≤w.heap.size)(I8:∀s∈kept,(cH hh kM).get s=hh.get s)
  (bu:∀i ty cs,hh.get i=some (.box ty cs)→aC (fun i=>¬N i) cs) (tL:∀b,Own nO mA b→∃s,s∈kept∧hh.get s≠none∧ob (ψ s)=some b)
  (hz:∀b,qz Z ψ hh.get kM b→Z' b) (Oe:∀b,Z' b→qz Z ψ hh.get kM b∨Own nO mA b∨w.heap.size≤b) (keep:db nO mA w w') (g3:Good Z' Ph H2.get w' w.heap.size (Own nO mA))
  (Tk:∀i ty cs,H2.get i=some (.box ty cs)→aC (fun j=>H2.get j≠none) cs) (ns:∀i,H2.get i≠none→(i∈kept∧hh.get i≠none∧Ph i=ψ i)∨N i) :
  ∃AO,(∀i,H2.get i≠none→AO i=Ph i)∧Next Z ψ hh.get w B0 O N Z' AO (H2++gX (cH hh kM) kept).get w':=by
 classical
 let AO:Nat→Value:=fun i=>if H2.get i≠none then Ph i else ψ i
 have h4:∀i,H2.get i≠none→AO i=Ph i:=fun i hi=>if_pos hi
 have hg:∀i,(H2++gX (cH hh kM) kept).get i=(match H2.get i with|some o=>some o|none=>if i∈kept then none else(cH hh kM).get i):=fun i=>by rw[Heap.get_append,od];cases H2.get i<;>rfl
 have CT:∀i,H2.get i≠none→(H2++gX (cH hh kM) kept).get i=H2.get i:=fun i hi=>by
  rw[hg];cases e:H2.get i with
  |none=>exact absurd e hi
  |some o=>rfl
 have yj:∀i,H2.get i=none→(H2++gX (cH hh kM) kept).get i≠none→i∉kept∧(H2++gX (cH hh kM) kept).get i=hh.get i∧(cH hh kM).get i=hh.get i∧AO i=ψ i∧hh.get i≠none:=fun i hi br=>by
  rw[hg,hi]at br ⊢
  simp only at br ⊢
  by_cases hk:i∈kept
  ·rw[if_pos hk]at br;exact absurd rfl br
  ·rw[if_neg hk]at br ⊢
   obtain⟨o,ho⟩:=Option.ne_none_iff_exists'.1 br
   have:=dZ _ _ _ _ ho
   exact⟨hk,by rw[ho,this],by rw[ho,this],if_neg (by simp[hi]),by rw[this];simp⟩
 have TW:∀i b,i∉kept→hh.get i≠none→ob (ψ i)=some b→¬Own nO mA b:=fun i b hk hi hb ho=>by
  obtain⟨s,h1,h2,h3⟩:=tL b ho
  exact hk ((g.apart i s b hi h2 hb h3)▸h1)
 have gd:Good (qz Z ψ hh.get kM) ψ (cH hh kM).get w B0 O:=iw g kM
 have Zs:∀b,qz Z ψ hh.get kM b→¬Own nO mA b:=fun b hb ho=>by
  obtain⟨s,h1,h2,h3⟩:=tL b ho
  exact(gd.live s b (by rw[I8 s h1];exact h2) h3).1 hb
 have sm:ct (qz Z ψ hh.get kM) w w':=fun b hb=>keep.block b (gd.jP b hb) (Zs b hb)
 have Zt:∀i,(H2++gX (cH hh kM) kept).get i≠none→(hh.get i≠none∧AO i=ψ i)∨N i:=fun i hi=>by
  by_cases h2:H2.get i=none
  ·obtain⟨_,_,_,h3,h5⟩:=yj i h2 hi
   exact .inl ⟨h5,h3⟩
  ·rcases ns i h2 with⟨_,h3,h5⟩|h3
   ·exact .inl ⟨h3,(h4 i h2).trans h5⟩
   ·exact .inr h3
 have kk:db ψ hh.get w w':=⟨keep.os,keep.tape,keep.output,keep.size,fun b hb qT=>keep.block b hb fun ho=>by
  obtain⟨s,_,h2,h3⟩:=tL b ho
  exact qT ⟨s,h2,h3⟩⟩
 refine⟨AO,h4,fun b hb=>hz b (.inl hb),fun b hb=>?_,kk,Zt,⟨fun i ty cs hb=>?_,fun i ok xs hb=>?_,fun i b h1 h2=>?_,fun i i' b h1 h2 h3 h5=>?_,g3.jP⟩⟩
 ·rcases Oe b hb with h1|h1|h1
  ·exact(h1.imp (fun h=>h) fun⟨i,_,h2,h3⟩=>.inl ⟨i,h2,h3⟩)
  ·obtain⟨s,_,h2,h3⟩:=tL b h1
   exact .inr (.inl ⟨s,h2,h3⟩)
  ·exact .inr (.inr h1)
 ·by_cases h2:H2.get i=none
  ·obtain⟨h3,h5,h6,h7,h8⟩:=yj i h2 (by rw[hb];simp)
   rw[h5]at hb
   obtain⟨gg,vs,e1,e2,e3,e4⟩:=gd.box i ty cs (by rw[h6];exact hb)
   have aF:=(Array.getElem?_eq_some_iff.1 e2).1
   refine⟨gg,vs,by rw[h7,e1],?_,?_,e4⟩
   ·rw[keep.block gg aF (TW i gg h3 h8 (by rw[e1];rfl))];exact e2
   ·refine e3.move (p:=fun i=>¬N i) hz sm (fun j hp hj=>?_) (bu i ty cs hb)
    by_cases h9:H2.get j=none
    ·obtain⟨_,_,nr,yR,I5⟩:=yj j h9 hj
     exact⟨by rw[nr];exact I5,yR⟩
    ·rcases ns j h9 with⟨nr,yR,I5⟩|nr
     ·exact⟨by rw[I8 j nr];exact yR,(h4 j h9).trans I5⟩
     ·exact absurd nr hp
  ·rw[CT i h2]at hb
   obtain⟨gg,vs,e1,e2,e3,e4⟩:=g3.box i ty cs hb
   exact⟨gg,vs,by rw[h4 i h2,e1],e2,e3.move (p:=fun j=>H2.get j≠none) (fun _ h=>h) (ct.refl _ _) (fun j hp _=>⟨hp,h4 j hp⟩) (Tk i ty cs hb),e4⟩
 ·by_cases h2:H2.get i=none
  ·obtain⟨h3,h5,h6,h7,h8⟩:=yj i h2 (by rw[hb];simp)
   rw[h5]at hb
   rw[h7]
   exact(gd.row i ok xs (by rw[h6];exact hb)).kept hz sm fun gg Mp=>keep.block gg (g.bP ⟨i,h8,Mp⟩) (TW i gg h3 h8 Mp)
  ·rw[CT i h2]at hb
   rw[h4 i h2]
   exact g3.row i ok xs hb
 ·by_cases h3:H2.get i=none
  ·obtain⟨h5,h6,h7,h8,h9⟩:=yj i h3 h1
   rw[h8]at h2
   obtain⟨nr,yR⟩:=gd.live i b (by rw[h7];exact h9) h2
   refine⟨fun Y5=>?_,yR⟩
   rcases Oe b Y5 with I5|I5|I5
   ·exact nr I5
   ·exact TW i b h5 h9 h2 I5
   ·have:=g.bP ⟨i,h9,h2⟩;omega
  ·rw[h4 i h3]at h2
   obtain⟨h5,h6⟩:=g3.live i b h3 h2
   refine⟨h5,?_⟩
   rcases h6 with h6|h6
   ·exact .inl (by omega)
   ·obtain⟨s,_,h7,h8⟩:=tL b h6
    exact(g.live s b h7 h8).2
 ·have xR:∀i i',H2.get i=none→H2.get i'≠none→(H2++gX (cH hh kM) kept).get i≠none→ob (AO i)=some b→ob (AO i')=some b→False:=fun i i' e1 e2 e3 e4 e5=>by
   obtain⟨h6,_,_,h8,h9⟩:=yj i e1 e3
   rw[h8]at e4;rw[h4 i' e2]at e5
   rcases (g3.live i' b e2 e5).2 with nr|nr
   ·have:=g.bP ⟨i,h9,e4⟩;omega
   ·exact TW i b h6 h9 e4 nr
  by_cases e1:H2.get i=none<;>by_cases e2:H2.get i'=none
  ·obtain⟨_,_,_,h8,h9⟩:=yj i e1 h1
   obtain⟨_,_,_,h8',h9'⟩:=yj i' e2 h2
   rw[h8]at h3;rw[h8']at h5
   exact g.apart i i' b h9 h9' h3 h5
  ·exact(xR i i' e1 e2 h1 h3 h5).elim
  ·exact(xR i' i e2 e1 h2 h5 h3).elim
  ·rw[h4 i e1]at h3;rw[h4 i' e2]at h5
   exact g3.apart i i' b e1 e2 h3 h5
theorem zt{i:Nat}{o:Ob}:∀{hh:Heap},(i,o)∈hh→hh.get i≠none
 |[],h=>by cases h
 |(j,o')::r,h=>by
  simp only[Heap.get]
  split
  ·simp
  ·rename_i hn
   rcases List.mem_cons.1 h with e|h
   ·cases e;exact absurd rfl hn
   ·exact zt h
theorem get_mem{i:Nat}{o:Ob}:∀{hh:Heap},hh.get i=some o→(i,o)∈hh
 |[],h=>by simp[Heap.get]at h
 |(j,o')::r,h=>by
  simp only[Heap.get]at h
  split at h
  ·rename_i e;subst e;cases h;exact List.mem_cons_self
  ·exact List.mem_cons_of_mem _ (get_mem h)
theorem pC{p:Nat→Prop}:∀{a b:List AV},aC p a→aC p b→aC p (a++b)
 |[],b,_,h=>h
 |x::r,b,h,h'=>by simp only[List.cons_append,aC]at h ⊢;exact⟨h.1,pC h.2 h'⟩
theorem kd{p:Nat→Prop}:∀(dv:List CK) (n:Nat) (x:qB dv),(∀e∈bf dv n x,p e.1)→aC p (aD dv n x)
 |[],n,x,_=>by simp only[aD,aC]
 |.val k::r,n,x,h=>by simp only[aD];exact pC (lS p k x.1) (kd r (n+1) x.2 h)
 |.own ok::r,n,x,h=>by
  simp only[bf]at h
  simp only[aD,aC,aJ]
  exact⟨h _ List.mem_cons_self,kd r (n+1) x.2 fun e he=>h e (List.mem_cons_of_mem _ he)⟩
theorem mR:∀(dv:List CK) (n:Nat) (x:qB dv) (i:Nat) (ty:TypeId) (cs:List AV),(i,Ob.box ty cs)∉bf dv n x
 |[],_,_,_,_,_=>by simp[bf]
 |.val k::r,n,x,i,ty,cs=>mR r (n+1) x.2 i ty cs
 |.own _::r,n,x,i,ty,cs=>by
  simp only[bf,List.mem_cons,not_or]
  exact⟨by simp,mR r (n+1) x.2 i ty cs⟩
theorem s8{p:Nat→Prop}:∀(bs:List BK) (is:List Nat) (n:Nat) (x:we bs),(∀e∈bz bs is n x,p e.1)→∀i ty cs,(i,Ob.box ty cs)∈bz bs is n x→aC p cs
 |[],is,n,x,_,i,ty,cs,h=>by cases is<;>simp[bz]at h
 |b::r,[],n,x,_,i,ty,cs,h=>by simp[bz]at h
 |b::r,i0::is,n,x,hp,i,ty,cs,h=>by
  simp only[bz]at h hp
  rcases List.mem_append.1 h with h|h
  ·cases b with
   |box ty0 c0 =>
    simp only[ji]at h hp
    rcases List.mem_cons.1 h with e|h
    ·cases e
     exact kd c0 n x.1 fun e he=>hp e (List.mem_append_left _ (List.mem_cons_of_mem _ he))
    ·exact absurd h (mR _ _ _ _ _ _)
   |own ok=>simp[ji]at h
  ·exact s8 r is (n+16) x.2 (fun e he=>hp e (List.mem_append_right _ he)) i ty cs h
theorem mS:∀(dv:List CK) (n i:Nat),i∈cg dv n→n≤i∧i<n+dv.length
 |[],n,i,h=>by simp[cg]at h
 |.val k::r,n,i,h=>by
  have:=mS r (n+1) i (by simpa[cg] using h)
  simp only[List.length_cons];omega
 |.own ok::r,n,i,h=>by
  simp only[cg]at h
  simp only[List.length_cons]
  rcases List.mem_cons.1 h with rfl|h
  ·omega
  ·have:=mS r (n+1) i h;omega
theorem uZ:∀(bs:List BK) (is:List Nat) (n i:Nat),(bs.all fun b=>decide (b.dv.length≤16))=true→i∈bZ bs is n→i∈is∨(n≤i∧i<n+16*bs.length)
 |[],is,n,i,_,h=>by cases is<;>simp[bZ]at h
 |b::r,[],n,i,_,h=>by simp[bZ]at h
 |b::r,i0::is,n,i,hc,h=>by
  simp only[List.all_cons,Bool.and_eq_true,decide_eq_true_eq]at hc
  simp only[bZ]at h
  simp only[List.length_cons]
  rcases List.mem_cons.1 h with rfl|h
  ·exact .inl List.mem_cons_self
  ·rcases List.mem_append.1 h with h|h
   ·have:=mS _ _ _ h;exact .inr (by omega)
   ·rcases uZ r is (n+16) i hc.2 h with h1|h1
    ·exact .inl (List.mem_cons_of_mem _ h1)
    ·exact .inr (by omega)
theorem js{bs:List BK}:∀(rs:List RK) (m i:Nat),qE bs rs=true→i∈bA rs m→m≤i∧i<m+rs.length+16
 |[],m,i,_,h=>by simp[bA]at h
 |.own ok::r,m,i,hk,h=>by
  simp only[qE,List.all_cons,Bool.and_eq_true]at hk
  simp only[bA]at h
  simp only[List.length_cons]
  rcases List.mem_cons.1 h with rfl|h
  ·omega
  ·have:=js r (m+1) i hk.2 h;omega
 |.val _::r,m,i,hk,h=>by
  simp only[qE,List.all_cons,Bool.and_eq_true]at hk
  have:=js r (m+1) i hk.2 (by simpa[bA] using h)
  simp only[List.length_cons];omega
 |.eU _ _::r,m,i,hk,h=>by
  simp only[qE,List.all_cons,Bool.and_eq_true]at hk
  have:=js r (m+1) i hk.2 (by simpa[bA] using h)
  simp only[List.length_cons];omega
 |.agg c::r,m,i,hk,h=>by
  simp only[qE,List.all_cons,Bool.and_eq_true,CQ,decide_eq_true_eq]at hk
  simp only[bA]at h
  simp only[List.length_cons]
  rcases List.mem_append.1 h with h|h
  ·have:=mS c m i h;omega
  ·have:=js r (m+1) i hk.2 h;omega
theorem yk{hh:Heap}:∀(bs:List BK) (is:List Nat) (i:Nat),is.length=bs.length→i∈is→i∈da bs hh is
 |[],is,i,hl,h=>by cases is with
  |nil=>cases h
  |cons a r=>simp at hl
 |b::r,[],i,_,h=>by cases h
 |b::r,i0::is,i,hl,h=>by
  simp only[da]
  rcases List.mem_cons.1 h with rfl|h
  ·refine List.mem_append_left _ ?_
   cases b<;>simp[j9]
  ·exact List.mem_append_right _ (yk r is i (by simpa using hl) h)
theorem Pj{α β:Type}:∀{a:List α} {b:List β},a.length=b.length→∀x∈a,∃y,(x,y)∈a.zip b∧(y,x)∈b.zip a
 |[],b,_,x,h=>by cases h
 |a::r,[],hl,x,_=>by simp at hl
 |a::r,c::q,hl,x,h=>by
  simp only[List.zip_cons_cons]
  rcases List.mem_cons.1 h with rfl|h
  ·exact⟨c,List.mem_cons_self,List.mem_cons_self⟩
  ·obtain⟨y,h1,h2⟩:=Pj (a:=r) (b:=q) (by simpa using hl) x h
   exact⟨y,List.mem_cons_of_mem _ h1,List.mem_cons_of_mem _ h2⟩
theorem tX:∀(dv:List CK) (n c:Nat),fV dv c=true→n+c∈cg dv n
 |[],n,c,h=>by simp[fV]at h
 |.own _::r,n,0,_=>by simp[cg]
 |.own _::r,n,c+1,h=>by
  simp only[fV]at h
  have:=tX r (n+1) c h
  simp only[cg]
  exact List.mem_cons_of_mem _ (by rwa [show n+(c+1)=n+1+c by omega])
 |.val _::r,n,0,h=>by simp[fV]at h
 |.val _::r,n,c+1,h=>by
  simp only[fV]at h
  have:=tX r (n+1) c h
  simp only[cg]
  rwa [show n+(c+1)=n+1+c by omega]
theorem yl:∀(bs:List BK) (is:List Nat) (n b i:Nat) (bk:BK),is.length=bs.length→bs[b]? = some bk→i∈cg bk.dv (n+16*b)→i∈bZ bs is n
 |[],_,_,b,_,_,_,h,_=>by simp at h
 |_::_,[],_,_,_,_,hl,_,_=>by simp at hl
 |b0::r,i0::is,n,0,i,bk,hl,hb,hi=>by
  simp only[List.getElem?_cons_zero,Option.some.injEq]at hb
  subst hb
  simp only[bZ]
  exact List.mem_cons_of_mem _ (List.mem_append_left _ (by simpa using hi))
 |b0::r,i0::is,n,b+1,i,bk,hl,hb,hi=>by
  simp only[List.getElem?_cons_succ]at hb
  simp only[bZ]
  refine List.mem_cons_of_mem _ (List.mem_append_right _ (yl r is (n+16) b i bk (by simpa using hl) hb ?_))
  rwa [show n+16+16*b=n+16*(b+1) by omega]
theorem kq{p:Nat→Prop}{bs:List BK}{is:List Nat}(hl:is.length=bs.length):∀(rs:List RK) (ids:List Nat) (n m:Nat) (y:lJ rs),qE bs rs=true→(∀i∈bA rs m,p i)→(∀i∈bZ bs is n,p i)→aC p (aV rs ids n m y)
 |[],_,_,_,_,_,_,_=>by simp only[aV,aC]
 |.val k::r,ids,n,m,y,hr,h1,h2=>by
  simp only[qE,List.all_cons,Bool.and_eq_true,CQ]at hr
  simp only[aV,aC]
  exact⟨oc p k y.1,kq hl r ids n (m+1) y.2 hr.2 (fun i hi=>h1 i hi) h2⟩
 |.own _::r,ids,n,m,y,hr,h1,h2=>by
  simp only[qE,List.all_cons,Bool.and_eq_true,CQ]at hr
  simp only[aV,aC,aJ]
  exact⟨h1 m (by simp[bA]),kq hl r ids n (m+1) y.2 hr.2 (fun i hi=>h1 i (by simp only[bA];exact List.mem_cons_of_mem _ hi)) h2⟩
 |.eU b alts::r,ids,n,m,y,hr,h1,h2=>by
  simp only[qE,List.all_cons,Bool.and_eq_true,CQ]at hr
  simp only[aV,aC]
  refine⟨?_,kq hl r ids n (m+1) y.2 hr.2 (fun i hi=>h1 i hi) h2⟩
  cases hy:y.1 with
  |none=>simp only[uB,aJ]
  |some p =>
   obtain⟨al,i⟩:=p
   simp only[uB,aJ]
   cases hb:bs[b]? with
   |none=>rw[hb]at hr;exact absurd hr.1 (by simp)
   |some bk =>
    rw[hb]at hr
    simp only[Bool.and_eq_true]at hr
    exact h2 _ (yl bs is n b _ bk hl hb (tX bk.dv (n+16*b) _ (List.all_eq_true.1 hr.1.1 _ (List.get_mem alts al))))
 |.agg c::r,ids,n,m,y,hr,h1,h2=>by
  simp only[qE,List.all_cons,Bool.and_eq_true,CQ]at hr
  simp only[aV,aC,aJ]
  refine⟨kd c m y.1 fun e he=>h1 _ ?_,kq hl r ids n (m+1) y.2 hr.2 (fun i hi=>h1 i (by simp only[bA];exact List.mem_append_right _ hi)) h2⟩
  simp only[bA]
  have e1:(bf c m y.1).map (·.1)=cg c m:=hM c m y.1
  exact List.mem_append_left _ (e1▸List.mem_map.2 ⟨e,he,rfl⟩)
theorem JC{p:Nat→Prop}{vs:List AV}(h:aC p vs):aJ p (fb vs):=by
 match vs,h with
 |[],h=>simp only[fb,aJ];exact h
 |[v],h=>simp only[fb];simp only[aC]at h;exact h.1
 |_::_::_,h=>simp only[fb,aJ];exact h
def iA(P:Program)(f:FuncId)(u:Heap→Nat→List AV→Option (Bool×bI)):Prop :=
 ∀{Z:Nat→Prop} {ψ:Nat→Value} {h:Hp} {w:World} {B0:Nat} {O N:Nat→Prop} {hh:Heap} {id:Nat} {e:bI} {vs:List AV} {us:List Value},
  Good Z ψ h w B0 O→B0≤w.heap.size→(∀id o,hh.get id=some o→h id=some o)→(∀j,j<256→N (id+j))→(∀i ty cs,h i=some (.box ty cs)→aC (fun i=>¬N i) cs)→(∀v hw,e=.wr v hw→hh.get=h) →
  an Z ψ h w vs us→aC (fun i=>¬N i) vs→u hh id vs=some (true,e) →
  Calls P f us.toArray w fun en w'=>∃V Z' ψ',en=.returned V∧Next Z ψ h w B0 O N Z' ψ' (e.hp h) w'∧aw Z' ψ' (e.hp h) w' e.v V
theorem TX{R:Type}{n:Nat}(a:Fin n)(f:Fin n→Option R):Y3 n a f=f a:=by
 have key:∀l:List (Fin n),a∈l→l.foldr (fun j r=>cond (a.val==j.val) (f j) r) none=f a:=by
  intro l
  induction l with
  |nil=>intro h;cases h
  |cons j r ih =>
   intro h
   simp only[List.foldr_cons]
   by_cases e:a=j
   ·subst e;simp
   ·have:(a.val==j.val)=false:=by simp only[beq_eq_false_iff_ne,ne_eq];exact fun h=>e (Fin.ext h)
    rw[this,cond_false]
    rcases List.mem_cons.1 h with h|h
    ·exact absurd h e
    ·exact ih h
 exact key _ (List.mem_finRange a)
theorem iL{R:Type}:∀(rs:List RK) (x:lJ rs) (K:lJ rs→Option R),jN rs x K=K x
 |[],_,_=>rfl
 |.val _::r,x,K=>by simp only[jN];rw[iL r x.2];rfl
 |.own _::r,x,K=>by simp only[jN];rw[iL r x.2];rfl
 |.agg _::r,x,K=>by simp only[jN];rw[iL r x.2];rfl
 |.eU _ alts::r,x,K=>by
  simp only[jN]
  obtain⟨x1,x2⟩:=x
  cases x1 with
  |none=>simp only[qF];rw[iL r x2]
  |some p=>simp only[qF];rw[TX,iL r x2]
theorem JD(hX:∀f g u,Sg f=some g→g.x=some u→iA P (f%1000) u)(hF:∀f g x y,Sg f=some g→F f g x=some y→DF P f g x y)(MO:∀f g,Sg f=some g→jq P (f%1000))
  {hh:Heap} {ρC:Operand→Value} {o:Oper} (g:Good Z ψ h w B0 O) (hB:B0≤w.heap.size) (bB:∀id o,hh.get id=some o→h id=some o) {id:Nat} (hN:∀j,j<256→N (id+j)) {e:bI}
  (bu:∀i ty cs,h i=some (.box ty cs)→aC (fun i=>¬N i) cs) (nM:∀v hw,e=.wr v hw→hh.get=h) {f:FuncId} {cap vs:List AV} {fv:Value} {us:List Value}
  (TY:aw Z ψ h w (.fn f cap) fv) (tJ:an Z ψ h w vs us) (EM:aC (fun i=>¬N i) (vs++cap)) (hex:∀(ws:Array Value),fv=.func (.func f) #[] ws→execOp ρC o=callFunc f (us.toArray++ws))
  (he:jk Sg F hh id f (vs++cap) some=some e):VB P ρC o Z ψ h w B0 O N e:=by
 unfold jk at he
 split at he
 ·cases he
 rename_i gg hSg
 simp only[aw]at TY
 obtain⟨ws,rfl,Xc⟩:=TY
 have DG:=MO _ _ hSg
 have kV:an Z ψ h w (vs++cap) (us++ws.toList):=an.append tJ Xc
 have ET:an Z ψ hh.get w (vs++cap) (us++ws.toList):=kV.qo bB
 have gs:Good Z ψ hh.get w B0 O:=g.sub bB
 have Pk:us.toArray++ws=(us++ws.toList).toArray:=by simp
 split at he
 ·rename_i u hu
  split at he
  ·rename_i hf
   obtain⟨⟨b,e'⟩,Zu,Td⟩:=Option.bind_eq_some_iff.1 he
   cases b with
   |false=>cases Td
   |true =>
   cases Td
   have GL:keyOf Sg f (vs++cap)%1000=f:=by rw[wF];exact Nat.mod_eq_of_lt hf
   have hx:iA P f u:=by rw[←GL];exact hX _ _ _ hSg hu
   rw[GL]at DG
   refine⟨f,us.toArray++ws,by rw[hex ws rfl];exact jr DG _,?_⟩
   rw[Pk]
   exact hx g hB bB hN bu nM kV EM Zu
  ·cases he
 split at he
 ·rename_i i0 ns EU
  split at he
  ·rename_i MP
   simp only[Bool.and_eq_true,List.isEmpty_iff]at MP
   obtain⟨rfl,_⟩:=MP
   split at he
   rotate_left
   ·cases he
   rename_i x b hx hb qU
   obtain⟨y,hy,he⟩:=Option.bind_eq_some_iff.1 he
   simp only[OL,Bool.and_eq_true,decide_eq_true_eq]at EU
   obtain⟨_,_,⟨hlen,hf⟩,_⟩:=EU
   have CX:=(hF _ _ _ _ hSg hy).zero (GJ hb)
   have GL:keyOf Sg f (vs++cap)%1000=f:=by rw[wF];exact Nat.mod_eq_of_lt hf
   rw[GL]at DG
   have hN':∀j,j<gg.rs.length+16→N (id+128+j):=fun j hj=>by rw[Nat.add_assoc];exact hN _ (by omega)
   refine⟨f,us.toArray++ws,by rw[hex ws rfl];exact jr DG _,?_⟩
   rw[Pk]
   unfold Zj at CX
   rw[GL]at CX
   by_cases qT:qD (vs++cap)=true
   ·rw[qT,Bool.or_true]at he
    cases he
    have h1:an Z I7 gk w (DB gg x) (us++ws.toList):=AG gs (fun _ h=>h) gg.ps 0 _ _ x (fun v hv i b hi _ _=>(qV qT v hv i hi).elim) ns hx ET
    refine(CX Z w _ g.jP h1).mono fun en w' ⟨v,Z',ψ',e1,h2,h3,h4,h5,h6⟩=>?_
    obtain⟨tW,n,hr⟩:=wG (nb:=id) qU g hB bu hN' h4 h2 h3 h5 h6
    exact⟨v,Z',tW,e1,n,hr⟩
   ·cases hfl:gg.rs.all RK.flat with
    |true =>
     rw[hfl,Bool.true_or]at he
     cases he
     let Zc:Nat→Prop:=fun b=>b<w.heap.size
     have h1:an Zc I7 gk w (DB gg x) (us++ws.toList):=AG gs g.jP gg.ps 0 _ _ x (fun v hv i b hi h1 h2=>gs.bP ⟨i,h1,h2⟩) ns hx ET
     refine(CX Zc w _ (fun _ h=>h) h1).mono fun en w' ⟨v,Z',ψ',e1,h2,h3,h4,h5,h6⟩=>?_
     have Zv:=MH gg.rs 3000 y.1 hfl qU
     have h7:aw Z ψ' (ak gg.rs 3000 y.1).get w' (fb (aV gg.rs [] 2000 3000 y.1)) v:=tT rfl (fun vs tJ=>Pc gg.rs hfl qU tJ) h6
     have gz:Good Z ψ' (ak gg.rs 3000 y.1).get w' w.heap.size (fun _=>False):=by
      rw[Zv]
      exact⟨fun _ _ _ hb=>by simp[Heap.get]at hb,fun _ _ _ hb=>by simp[Heap.get]at hb,fun _ _ hb=>by simp[Heap.get]at hb,fun _ _ _ hb=>by simp[Heap.get]at hb,fun b hb=>Nat.lt_of_lt_of_le (g.jP b hb) h4.size⟩
     obtain⟨tW,n,hr⟩:=wG (nb:=id) qU g hB bu hN' h4 (fun _ h=>h) (fun _ h=>.inl h) gz h7
     exact⟨v,Z,tW,e1,n,hr⟩
    |false =>
     rw[hfl,Bool.false_or,Bool.eq_false_iff.2 qT]at he
     cases he
     have heq:=nM _ _ rfl
     subst heq
     let cs:=dt gg.ps (vs++cap)
     have TJ:∀b,qz Z ψ hh.get cs b→Z b∨Own ψ hh.get b:=fun b hb=>hb.imp (fun h=>h) (fun⟨i,_,h2,h3⟩=>⟨i,h2,h3⟩)
     have gd:Good (qz Z ψ hh.get cs) ψ (cH hh cs).get w B0 O:=iw g cs
     have h1:an (qz Z ψ hh.get cs) I7 gk w (DB gg x) (us++ws.toList) :=
      AG gs (fun _ h=>.inl h) gg.ps 0 _ _ x (fun v hv i b hi h1 h2=>.inr ⟨i,uW _ _ ns v hv i hi,h1,h2⟩) ns hx ET
     refine(CX _ w _ gd.jP h1).mono fun en w' ⟨v,Z',ψ',e1,h2,h3,h4,h5,h6⟩=>?_
     obtain⟨tW,n,hr⟩:=wG (nb:=id) qU gd hB (fun i ty cs hb=>bu i ty cs (dZ _ _ _ _ hb)) hN' h4 h2 h3 h5 h6
     have e2:(bI.wr (fb (aV gg.rs [] id (id+128) y.1)) (ak gg.rs (id+128) y.1++cH hh (dt gg.ps (vs++cap)))).hp hh.get=(fun i=>match (ak gg.rs (id+128) y.1).get i with|some o=>some o|none=>(cH hh cs).get i):=by
      funext i
      simp only[bI.hp]
      rw[Heap.get_append]
      cases (ak gg.rs (id+128) y.1).get i<;>rfl
     rw[e2]
     exact⟨v,Z',tW,e1,n.drop (fun _ h=>.inl h) TJ (dZ _ _),hr⟩
  ·split at he
   rotate_left
   ·cases he
   rename_i x b hx hb CY
   obtain⟨y,hy,he⟩:=Option.bind_eq_some_iff.1 he
   rw[iL]at he
   cases he
   have heq:=nM _ _ rfl
   subst heq
   simp only[OL,Bool.and_eq_true,decide_eq_true_eq]at EU
   obtain⟨Xb,⟨hbl,tI⟩,⟨hlen,hf⟩,uY⟩:=EU
   rw[Bool.and_eq_true]at CY
   have CX:=hF _ _ _ _ hSg hy
   have GL:keyOf Sg f (vs++cap)%1000=f:=by rw[wF];exact Nat.mod_eq_of_lt hf
   rw[GL]at DG
   refine⟨f,us.toArray++ws,by rw[hex ws rfl];exact jr DG _,?_⟩
   rw[Pk]
   unfold DF at CX
   rw[GL]at CX
   have hl:i0.length=gg.bs.length:=(jo _ _ _ hb).1
   have AP:=(jo _ _ _ hb).2
   have hle:(aP gg.bs.length).length=gg.bs.length:=by simp[aP]
   let kM:=dt gg.ps (vs++cap)++fY gg.bs hh i0
   let L1:List xZ:=cx gg.bs hh i0 (aP gg.bs.length) 2000 b
   have eH1:dF L1=bz gg.bs (aP gg.bs.length) 2000 b:=jn _ _ _ _ _ _ hb hle
   have eN1:L1.map (·.1)=bZ gg.bs (aP gg.bs.length) 2000:=g6 _ _ _ _ _ _ hb hle
   have eS1:L1.filterMap (·.2.1)=da gg.bs hh i0:=ki _ _ _ _ _ _ hb hle
   have YD:b7 (L1.map (·.1))=true:=by rw[eN1];exact GK uY
   have WZ:=zo (ψ:=ψ) YD
   have I8:=(rY CY.1).2 hh
   have xV:∀b,Z b→qz Z ψ hh.get kM b:=fun b hb=>.inl hb
   have Zw:∀e∈L1,uU (qz Z ψ hh.get kM) ψ (cH hh kM).get w (dF L1).get (eW ψ L1) e:=fun e he =>
    lQ gs xV gg.bs _ _ 2000 b hb (fun i b bO h1 h2=>.inr ⟨i,List.mem_append_right _ bO,h1,h2⟩) I8 WZ e he
   have gin:Good (qz Z ψ hh.get kM) (eW ψ L1) (dF L1).get w B0 O:=wE gs CY.1 YD eS1 Zw
   have ein:(dF L1).get=py gg (x,b):=by rw[eH1];rfl
   have Pn:∀p∈i0.zip (aP gg.bs.length),(p.2,some p.1)∈L1.map (fun e=>(e.1,e.2.1)):=fun p hp=>by
    obtain⟨o,ho⟩:=kj (hh:=hh) gg.bs i0 (aP gg.bs.length) 2000 b hl p hp
    exact List.mem_map.2 ⟨_,ho,rfl⟩
   have Zx:∀p∈i0.zip (aP gg.bs.length),eW ψ L1 p.2=ψ p.1:=fun p hp=>by
    obtain⟨⟨i,s,o⟩,ho,he⟩:=List.mem_map.1 (Pn p hp)
    cases he
    exact iJ YD ho
   have Xd:an (qz Z ψ hh.get kM) (eW ψ L1) (dF L1).get w (EP gg (x,b)) (us++ws.toList) :=
    lr gs xV gg.ps i0 (aP gg.bs.length) 0 _ _ x (by rw[hle,hl]) ns hx (fun i b bO h1 h2=>.inr ⟨i,List.mem_append_left _ bO,h1,h2⟩)
     (fun p hp=>⟨AP _ (List.of_mem_zip hp).1,fun _=>Zx p hp⟩) ET
   have tL:∀c,Own (eW ψ L1) (py gg (x,b)) c→∃s,s∈da gg.bs hh i0∧hh.get s≠none∧ob (ψ s)=some c:=fun c ⟨i,h1,h2⟩=>by
    rw[←ein]at h1
    obtain⟨o,ho⟩:=Option.ne_none_iff_exists'.1 h1
    obtain⟨s,hm⟩:=oa ho
    rw[iJ YD hm]at h2
    cases s with
    |none=>simp[jS,ob]at h2
    |some s =>
     have hs:s∈da gg.bs hh i0:=by rw[←eS1];exact List.mem_filterMap.2 ⟨_,hm,rfl⟩
     refine⟨s,hs,?_,h2⟩
     have h3:=Zw _ hm
     rw[←I8 s hs]
     cases o with
     |box ty cs=>obtain⟨⟨cs0,h4⟩,_⟩:=h3;rw[h4];simp
     |own ok xs=>rw[show(cH hh kM).get s=some (.own ok xs) from h3];simp
   refine(CX (qz Z ψ hh.get kM) (eW ψ L1) w (us++ws.toList) (by rw[←ein];exact gin.ES _) (by rw[←ein];exact Xd)).mono fun en w' ⟨v,Z',dX,e1,h2,h3,h4,h5,h6,h7⟩=>?_
   obtain⟨L2,Zy,eN2,g3,Za,Xe⟩:=MM (x:=(x,b)) (y:=y) (id:=id) hl Xb uY CY.2 h5 h7
   have Tk:∀i ty cs,(dF L2).get i=some (.box ty cs)→aC (fun j=>(dF L2).get j≠none) cs:=fun i ty cs hg=>by
    have gS:=get_mem hg
    rw[Zy]at gS
    rcases List.mem_append.1 gS with gS|gS
    ·exact s8 gg.bs _ id y.2 (fun e he=>by rw[Zy];exact zt (o:=e.2) (List.mem_append_left _ he)) i ty cs gS
    ·exfalso
     have:∀(rs:List RK) (m:Nat) (y:lJ rs),(i,Ob.box ty cs)∉ak rs m y:=by
      intro rs
      induction rs with
      |nil=>intro m y;simp[ak]
      |cons r rs ih =>
       intro m y
       cases r with
       |agg c=>simp only[ak,List.mem_append,not_or];exact⟨mR _ _ _ _ _ _,ih (m+1) y.2⟩
       |val k=>exact ih (m+1) y.2
       |eU _ _=>exact ih (m+1) y.2
       |own ok=>simp only[ak,List.mem_cons,not_or];exact⟨by simp,ih (m+1) y.2⟩
     exact this _ _ _ gS
   have Zz:∀i,(dF L2).get i≠none→(i∈da gg.bs hh i0∧hh.get i≠none∧eW dX L2 i=ψ i)∨N i:=fun i hi=>by
    obtain⟨o,ho⟩:=Option.ne_none_iff_exists'.1 hi
    obtain⟨s,hm⟩:=oa ho
    have gS:i∈bZ gg.bs i0 id++bA gg.rs (id+128):=by rw[←eN2];exact List.mem_map.2 ⟨_,hm,rfl⟩
    have hNr:∀i,id≤i→i<id+256→N i:=fun i h1 h2=>by
     have:=hN (i-id) (by omega)
     rwa [show id+(i-id)=i by omega]at this
    rcases List.mem_append.1 gS with gS|gS
    ·rcases uZ _ _ _ _ tI gS with h8|h8
     ·refine .inl ⟨yk _ _ _ hl h8,AP i h8,?_⟩
      obtain⟨ee,h9,nr⟩:=Pj (by rw[hle,hl]) i h8
      rw[Za (ee,i) nr]
      have yR:ee∈aP gg.bs.length:=(List.of_mem_zip nr).1
      rw[h6 ee yR]
      exact Zx (i,ee) h9
     ·exact .inr (hNr i h8.1 (by omega))
    ·have h8:=js _ _ _ Xb gS
     exact .inr (hNr i (by omega) (by omega))
   obtain⟨AO,h8,nx⟩:=MN (N:=N) gs hB I8 bu tL h2 h3 h4 g3 Tk Zz
   have eH3:(bI.wr (fb (aV gg.rs i0 id (id+128) y.1)) (bz gg.bs i0 id y.2++(ak gg.rs (id+128) y.1++gX (cH hh (dt gg.ps (vs++cap)++fY gg.bs hh i0)) (da gg.bs hh i0)))).hp hh.get =
     (dF L2++gX (cH hh kM) (da gg.bs hh i0)).get:=by
    rw[Zy,List.append_assoc];rfl
   rw[eH3]
   refine⟨v,Z',AO,e1,nx,?_⟩
   refine Xe.move (p:=fun j=>(dF L2).get j≠none) (fun _ h=>h) (ct.refl _ _) (fun j hp _=>⟨hp,h8 j hp⟩) ?_
   refine JC (kq hl gg.rs _ id (id+128) y.1 Xb (fun i hi=>?_) fun i hi=>?_)
   ·rw[←fL gg.rs (id+128) y.1]at hi
    obtain⟨e,he,rfl⟩:=List.mem_map.1 hi
    rw[Zy];exact zt (o:=e.2) (List.mem_append_right _ he)
   ·rw[←lV gg.bs i0 id y.2 hl]at hi
    obtain⟨e,he,rfl⟩:=List.mem_map.1 hi
    rw[Zy];exact zt (o:=e.2) (List.mem_append_left _ he)
 ·cases he
end Go.Vs
namespace Go.Vs
variable {P:Program} {Eqs:TypeId→Option K} {Sg:FuncId→Option aM} {F:(f:FuncId)→(g:aM)→g.A→Option g.B} {R:Type} {k:bI→Option R}
theorem bR{c:Bool}{e:bI}:cond c (k e) none=(cond c (some e) none).bind k:=by cases c<;>rfl
theorem bK{c:Bool}{e:bI}:cond c none (k e)=(cond c none (some e)).bind k:=by cases c<;>rfl
theorem bL{c:Bool}{e e':bI}:cond c (k e) (k e')=(cond c (some e) (some e')).bind k:=by cases c<;>rfl
theorem bS{α:Type}(o:Option α)(f:α→Option R)(g:α→Option bI)(h:∀x,f x=(g x).bind k):o.bind f=(o.bind g).bind k:=by cases o with
 |none=>rfl
 |some x=>exact h x
theorem JE{h:Heap}{id:Nat}{t:TypeId}{s x:AV}:nT P h id t s x k=(nT P h id t s x some).bind k:=by unfold nT;repeat' (first|rfl|exact bR|exact bK | exact bL|(refine bS _ _ _ (fun _=>?_))|split)
theorem MQ{h:Heap}{t:TypeId}{s x:AV}:rH P h t s x k=(rH P h t s x some).bind k:=by unfold rH;repeat' (first|rfl|exact bR|exact bK | exact bL|(refine bS _ _ _ (fun _=>?_))|split)
theorem Po{h:Heap}{t:TypeId}{s:AV}:lK P h t s k=(lK P h t s some).bind k:=by unfold lK;repeat' (first|rfl|exact bR|exact bK | exact bL|(refine bS _ _ _ (fun _=>?_))|split)
theorem CZ{h:Heap}{t:TypeId}{s x:AV}:dA P h t s x k=(dA P h t s x some).bind k:=by unfold dA;repeat' (first|rfl|exact bR|exact bK | exact bL|(refine bS _ _ _ (fun _=>?_))|split)
theorem Pp{x:AV}{lo hi mx:Option AV}:wh x lo hi mx k=(wh x lo hi mx some).bind k:=by unfold wh;repeat' (first|rfl|exact bR|exact bK | exact bL|(refine bS _ _ _ (fun _=>?_))|split)
theorem MR{h:Heap}{sz:Nat}{x:AV}{lo hi mx:Option AV}:oU h sz x lo hi mx k=(oU h sz x lo hi mx some).bind k:=by unfold oU;repeat' (first|rfl|exact bR|exact bK | exact bL|(refine bS _ _ _ (fun _=>?_))|split)
theorem TZ{h:Heap}{x:AV}:Dk h x k=(Dk h x some).bind k:=by unfold Dk;repeat' (first|rfl|exact bR|exact bK | exact bL|(refine bS _ _ _ (fun _=>?_))|split)
theorem T0{op:BinOp}{t:TypeId}{x y:AV}:xM P Eqs op t x y k=(xM P Eqs op t x y some).bind k:=by unfold xM;repeat' (first|rfl|exact bR|exact bK | exact bL|(refine bS _ _ _ (fun _=>?_))|split)
theorem GM(rs:List RK)(x:lJ rs)(f:lJ rs→Option R)(g:lJ rs→Option bI)(h:∀z,f z=(g z).bind k):jN rs x f=(jN rs x g).bind k:=by rw[iL,iL];exact h x
theorem Pq{h:Heap}{id:Nat}{f:FuncId}{vs:List AV}:jk Sg F h id f vs k=(jk Sg F h id f vs some).bind k:=by unfold jk;repeat' (first|rfl|exact bR|exact bK | exact bL|(refine bS _ _ _ (fun _=>?_))|(refine GM _ _ _ _ (fun _=>?_))|split)
theorem Pr{id:Nat}{t:TypeId}{vs:List AV}:wo id t vs k=(wo id t vs some).bind k:=rfl
theorem MS{t:TypeId}{ps:List (Nat×AV)}:rK P t ps k=(rK P t ps some).bind k:=by unfold rK;repeat' (first|rfl|exact bR|exact bK | exact bL|(refine bS _ _ _ (fun _=>?_))|split)
theorem EV{h:Heap}{id:Nat}{t:TypeId}{n:Nat}{ps:List (Nat×AV)}:uC P h id t n ps k=(uC P h id t n ps some).bind k:=by unfold uC;repeat' (first|rfl|exact bR|exact bK | exact bL|(refine bS _ _ _ (fun _=>?_))|split)
theorem Ps{kM:Bool}{h:Heap}{id:Nat}{t:TypeId}{n:Nat}{ps:List (Nat×AV)}:wq P kM h id t n ps k=(wq P kM h id t n ps some).bind k:=by
 unfold wq
 rw[EV,EV (k:=fun e=>some (if kM then TD e else e)),Option.bind_assoc]
 rfl
theorem Pu{s d:TypeId}{x:AV}:Ac P s d x k=(Ac P s d x some).bind k:=by unfold Ac;repeat' (first|rfl|exact bR|exact bK | exact bL|(refine bS _ _ _ (fun _=>?_))|split)
theorem Xf{b:Bool}{vs:List AV}:Mn b vs k=(Mn b vs some).bind k:=by unfold Mn;repeat' (first|rfl|exact bR|exact bK | exact bL|(refine bS _ _ _ (fun _=>?_))|split)
theorem Pv{h:Heap}{x:AV}:wi h x k=(wi h x some).bind k:=by unfold wi;repeat' (first|rfl|exact bR|exact bK | exact bL|(refine bS _ _ _ (fun _=>?_))|split)
theorem GN{id:Nat}{t:TypeId}:lq P Eqs id t k=(lq P Eqs id t some).bind k:=by unfold lq;repeat' (first|rfl|exact bR|exact bK | exact bL|(refine bS _ _ _ (fun _=>?_))|split)
theorem JF{h:Heap}{t:TypeId}{m i:AV}{ok:Bool}:nV P Eqs h t m i ok k=(nV P Eqs h t m i ok some).bind k:=by unfold nV;repeat' (first|rfl|exact bR|exact bK | exact bL|(refine bS _ _ _ (fun _=>?_))|split)
theorem JG{h:Heap}{t:TypeId}{m i v:AV}:iI P Eqs h t m i v k=(iI P Eqs h t m i v some).bind k:=by unfold iI;repeat' (first|rfl|exact bR|exact bK | exact bL|(refine bS _ _ _ (fun _=>?_))|split)
theorem JH{h:Heap}{t:TypeId}{m i:AV}:nW P Eqs h t m i k=(nW P Eqs h t m i some).bind k:=by unfold nW;repeat' (first|rfl|exact bR|exact bK | exact bL|(refine bS _ _ _ (fun _=>?_))|split)
theorem JI{id:Nat}{t:TypeId}{x:AV}:nX P id t x k=(nX P id t x some).bind k:=by unfold nX;repeat' (first|rfl|exact bR|exact bK | exact bL|(refine bS _ _ _ (fun _=>?_))|split)
theorem MT{h:Heap}{x:AV}:rI h x k=(rI h x some).bind k:=by unfold rI;repeat' (first|rfl|exact bR|exact bK | exact bL|(refine bS _ _ _ (fun _=>?_))|split)
theorem MU{h:Heap}{x:AV}:rJ h x k=(rJ h x some).bind k:=by unfold rJ;repeat' (first|rfl|exact bR|exact bK | exact bL|(refine bS _ _ _ (fun _=>?_))|split)
theorem lu{id:Nat}{h:Heap}{s:List (Nat×AV)}{o:Oper}:cU P Eqs Sg F id h s o k=(cU P Eqs Sg F id h s o some).bind k:=by
 obtain⟨dst,op,type,pos,after,guard⟩:=o
 cases op<;>simp only[cU] <;>
  repeat' (first|rfl|exact Ps|exact JE|exact MQ|exact Po|exact CZ|exact Pp|exact MR|exact TZ|exact T0|exact Pq|exact Pr|exact MS|exact EV|exact Pu|exact Xf|exact Pv|exact GN|exact JF|exact JG|exact JH|exact JI|exact MT|exact MU|exact bR|(refine bS _ _ _ (fun _=>?_))|split)
theorem MV{id:Nat}{h h':Heap}{s:List (Nat×AV)}{o:Oper}(hf:nk o.op=true):cU P Eqs Sg F id h s o k=cU P Eqs Sg F id h' s o k:=by
 obtain⟨dst,op,type,pos,after,guard⟩:=o
 cases op<;>simp[nk]at hf<;>first|rfl|(rename_i u _ _;cases u<;>rfl)
theorem T1{op:BinOp}{t:TypeId}{x y:AV}{e:bI}(he:xM P Eqs op t x y some=some e):∃v,e=.val v:=by
 unfold xM at he
 repeat' (first|(cases he;done)|exact⟨_,(Option.some.inj he).symm⟩|split at he)
 all_goals
  unfold cond at he
  split at he<;>first|(cases he;done)|exact⟨_,(Option.some.inj he).symm⟩
theorem GO{id:Nat}{h:Heap}{s:List (Nat×AV)}{o:Oper}{e:bI}(hf:nk o.op=true)(he:cU P Eqs Sg F id h s o some=some e):∃v,e=.val v:=by
 obtain⟨dst,op,type,pos,after,guard⟩:=o
 cases op<;>simp only[nk]at hf<;>first|(cases hf;done)|skip
 case unOp u t x =>
  cases u<;>simp only[cU]at he<;>repeat' (first|(cases he;done)|exact⟨_,(Option.some.inj he).symm⟩|split at he)
 case makeFunc fn first cap =>
  cases fn<;>simp only[cU]at he<;>repeat' (first|(cases he;done)|exact⟨_,(Option.some.inj he).symm⟩|split at he)
 all_goals simp only[cU]at he
 case binOp=>exact T1 he
 case slice =>
  repeat' (first|(cases he;done)|split at he)
  all_goals
   first|unfold wh at he|unfold oU at he
   repeat' (first|(cases he;done)|exact⟨_,(Option.some.inj he).symm⟩|split at he)
   all_goals
    unfold cond at he
    split at he<;>first|(cases he;done)|exact⟨_,(Option.some.inj he).symm⟩
 case build =>
  unfold rK at he
  repeat' (first|(cases he;done)|exact⟨_,(Option.some.inj he).symm⟩|split at he)
 all_goals
  repeat' (first|(cases he;done)|exact⟨_,(Option.some.inj he).symm⟩|split at he)
end Go.Vs
namespace Go.Vs
variable {P:Program} {Eqs:TypeId→Option K} {Sg:FuncId→Option aM} {F:(f:FuncId)→(g:aM)→g.A→Option g.B} {R:Type}
variable {Z Z' Z0:Nat→Prop} {ψ ψ' ψ0:Nat→Value} {h h':Hp} {w w' w0:World} {B0:Nat} {O N:Nat→Prop}
structure Env(P:Program)(Eqs:TypeId→Option K)(Sg:FuncId→Option aM)(F:(f:FuncId)→(g:aM)→g.A→Option g.B):Prop where
 eqs:∀t k,Eqs t=some k→lN P t k
 con:∀f g x y,Sg f=some g→F f g x=some y→DF P f g x y
 spec:∀f g u,Sg f=some g→g.x=some u→iA P (f%1000) u
 GQ:∀f g,Sg f=some g→jq P (f%1000)
theorem GR{s:List (Nat×AV)}{ρC:Operand→Value}:∀(l:List Operand),(∀x∈l,aw Z ψ h w (ρ s x) (ρC x))→an Z ψ h w (l.map (ρ s)) (l.map ρC)
 |[],_=>by simp[an]
 |x::r,hx=>by
  simp only[List.map_cons,an]
  exact⟨_,_,rfl,hx x List.mem_cons_self,GR r fun y hy=>hx y (List.mem_cons_of_mem _ hy)⟩
theorem DH{s:List (Nat×AV)}{p:Nat→Prop}:∀(l:List Operand),(∀x∈l,aJ p (ρ s x))→aC p (l.map (ρ s))
 |[],_=>by simp[aC]
 |x::r,hx=>by
  simp only[List.map_cons,aC]
  exact⟨hx x List.mem_cons_self,DH r fun y hy=>hx y (List.mem_cons_of_mem _ hy)⟩
theorem VD(E:Env P Eqs Sg F){hh:Heap}{a:Act}{s:List (Nat×AV)}{o:Oper}(g:Good Z ψ h w B0 O)(hB:B0≤w.heap.size)(bB:∀id o,hh.get id=some o→h id=some o){id:Nat}(hN:makes o.op=true→∀j,j<256→N (id+j)){e:bI}
  (nN:∀x∈o.op.operands,aw Z ψ h w (ρ s x) (a.eval x)) (hm:∀x∈o.op.operands,aJ (fun i=>¬N i) (ρ s x)) (bu:∀i ty cs,h i=some (.box ty cs)→aC (fun i=>¬N i) cs) (nM:∀v hw,e=.wr v hw→hh.get=h)
  (he:cU P Eqs Sg F id hh s o some=some e) {next:Act→World→Prop} {Q:Exit→Act→World→Prop}
  (hk:∀V w' Z' ψ',Next Z ψ h w B0 O N Z' ψ' (e.hp h) w'→aw Z' ψ' (e.hp h) w' e.v V→next (a.put o.dst V) w'):o.wp P a w next Q:=by
 have d:gZ P a.eval o Z ψ h w B0 O N e∨VB P a.eval o Z ψ h w B0 O N e:=by
  cases I6:uT o with
  |false=>exact .inl (O7 E.eqs g hB bB (fun hm=>by simpa using hN hm 0 (by decide)) nN hm bu nM I6 he)
  |true =>
   refine .inr ?_
   obtain⟨dst,op,type,pos,after,guard⟩:=o
   cases op<;>simp[uT]at I6
   rename_i c
   obtain⟨callee,args,argTypes⟩:=c
   cases callee<;>simp at I6
   rename_i fo
   simp only[cU]at he
   split at he
   ·rename_i f cap hf
    simp only[Op.operands,Call.operands]at nN
    have h1:=nN fo (by simp)
    rw[hf]at h1
    have h2:an Z ψ h w (args.toList.map (ρ s)) (args.toList.map a.eval):=GR _ fun x hx=>nN x (by simp;exact .inr (by simpa using hx))
    have hmf:=hm fo (by simp[Op.operands,Call.operands])
    rw[hf]at hmf
    simp only[aJ]at hmf
    have hma:aC (fun i=>¬N i) (args.toList.map (ρ s)):=DH _ fun x hx=>hm x (by simp[Op.operands,Call.operands];exact .inr (by simpa using hx))
    refine JD E.spec E.con E.GQ g hB bB (hN rfl) bu nM h1 h2 (pC hma hmf) (fun ws Xc=>?_) he
    simp only[execOp,resolve,Xc,Deferred.ofValue]
    simp only[pure_bind,invoke]
    congr 1
    apply Array.ext'
    simp
   ·cases he
 unfold Oper.wp
 rcases d with⟨V,w',Z',ψ',h1,h2,h3⟩|⟨f,args,h1,h2⟩
 ·rcases h1 with h1|⟨h1,rfl⟩
  ·rw[h1];exact hk V w' Z' ψ' h2 h3
  ·rw[h1];exact hk undef w' Z' ψ' h2 h3
 ·rw[h1,Oper.upon_enter]
  refine h2.mono fun en w' ⟨V,Z',ψ',e1,n,hr⟩=>?_
  subst e1
  exact hk V w' Z' ψ' n hr
structure Ok(Z0:Nat→Prop)(w0:World)(O:Nat→Prop)(ψ0:Nat→Value)(Z:Nat→Prop)(ψ:Nat→Value)(h:Hp)(w:World):Prop where
 dW:Good Z ψ h w w0.heap.size O
 fP:∀b,Z0 b→Z b
 eL:∀b,Z b→Z0 b∨O b∨w0.heap.size≤b
 os:w.os=w0.os
 tape:w.tape=w0.tape
 output:w.output=w0.output
 size:w0.heap.size≤w.heap.size
 block:∀b,b<w0.heap.size→¬O b→w.heap[b]? = w0.heap[b]?
 fix:∀i,i<2000→h i≠none→ψ i=ψ0 i
theorem Ok.next(k:Ok Z0 w0 O ψ0 Z ψ h w)(hN:∀id,N id→2000≤id)(n:Next Z ψ h w w0.heap.size O N Z' ψ' h' w'):Ok Z0 w0 O ψ0 Z' ψ' h' w':=by
 have own:∀b,Own ψ h b→w0.heap.size≤b∨O b:=fun b ⟨id,h1,h2⟩=>(k.dW.live id b h1 h2).2
 refine⟨n.dW,fun b hb=>n.fP b (k.fP b hb),fun b hb=>?_,n.keep.os.trans k.os,n.keep.tape.trans k.tape,n.keep.output.trans k.output,Nat.le_trans k.size n.keep.size,fun b hb ho=>?_,fun i hi br=>?_⟩
 ·rcases n.eL b hb with h1|h1|h1
  ·exact k.eL b h1
  ·exact .inr (own b h1).symm
  ·exact .inr (.inr (Nat.le_trans k.size h1))
 ·rw[n.keep.block b (Nat.lt_of_lt_of_le hb k.size) (fun h1=>(own b h1).elim (fun h2=>by omega) ho)]
  exact k.block b hb ho
 ·rcases n.ids i br with⟨h1,h2⟩|h1
  ·rw[h2];exact k.fix i hi h1
  ·have:=hN i h1;omega
structure cO(Z:Nat→Prop)(ψ:Nat→Value)(h:Hp)(w:World)(n:Nat)(T:Nat→AV)(a:Act):Prop where
 rep:∀d,aw Z ψ h w (T d) (a.tmps.getD d undef)
 size:a.tmps.size=n
 defers:a.defers=[]
theorem MW:aw Z ψ h w (.ni []) undef:=by simp only[aw,an];exact⟨#[],rfl,rfl⟩
def iZ(T:Nat→AV)(d:Option Tmp)(v:AV):Nat→AV:=match d with
 |some d=>ed T d v
 |none=>T
theorem hY(st:St)(d:Option Tmp)(v:AV):look (st.put d v).tmps=iZ (look st.tmps) d v:=by
 cases d with
 |none=>rfl
 |some d =>
  funext i
  simp only[St.put,look,iZ,ed]
  by_cases e:i=d
  ·subst e;simp
  ·rw[if_neg (fun x=>e x.symm),if_neg e]
theorem dh(st:St)(d:Option Tmp)(v:AV):(st.put d v).heap=st.heap:=by cases d<;>rfl
theorem DI{T:List (Nat×AV)}{d:Nat}{v:AV}(hv:look T d=v):ed (look T) d v=look T:=by
 funext i
 unfold ed
 split
 ·rename_i e;subst e;exact hv.symm
 ·rfl
theorem hZ{a:Act}{d:Nat}{v:Value}(hd:d<a.tmps.size)(i:Nat):(a.put (some d) v).tmps.getD i undef=if i=d then v else a.tmps.getD i undef:=by
 simp only[Act.put]
 by_cases e:i=d
 ·subst e;simp[hd]
 ·simp[e,Array.getElem?_setIfInBounds_ne (Ne.symm e)]
theorem cv(a:Act)(d:Option Tmp)(v:Value):(a.put d v).tmps.size=a.tmps.size:=by cases d<;>simp[Act.put]
theorem put_defers(a:Act)(d:Option Tmp)(v:Value):(a.put d v).defers=a.defers:=by cases d<;>rfl
theorem cO.put{n:Nat}{T:Nat→AV}{a:Act}{o:Oper}{x:AV}{V:Value}(t:cO Z ψ h w n T a)(hd:iq n o=true)(hx:aw Z ψ h w x V):cO Z ψ h w n (iZ T o.dst x) (a.put o.dst V):=by
 refine⟨fun d=>?_,by rw[cv];exact t.size,by rw[put_defers];exact t.defers⟩
 unfold iq at hd
 split at hd
 ·rename_i d0 hd0
  rw[hd0]
  rw[hZ (by rw[t.size];simpa using hd)]
  simp only[iZ,ed]
  split
  ·exact hx
  ·exact t.rep d
 ·rename_i hd0
  rw[hd0];exact t.rep d
theorem cO.next{n:Nat}{T:Nat→AV}{a:Act}(t:cO Z ψ h w n T a)(g:Good Z ψ h w B0 O)(hn:Next Z ψ h w B0 O N Z' ψ' h' w')(hm:∀d,aJ (fun i=>¬N i) (T d)):cO Z' ψ' h' w' n T a :=
 ⟨fun d=>hn.rep g (hm d) (t.rep d),t.size,t.defers⟩
theorem qY{n:Nat}{s:List (Nat×AV)}{a:Act}(t:cO Z ψ h w n (look s) a)(x:Operand):aw Z ψ h w (ρ s x) (a.eval x):=by
 cases x with
 |tmp i=>exact t.rep i
 |const v=>exact Gs v
 |global g=>simp only[ρ,aw]
 |func f=>simp only[ρ,aw,an,Act.eval];exact⟨#[],rfl,rfl⟩
theorem AQ(p:Nat→Prop)(v:Value):aJ p (tC v):=by
 cases v with
 |agg cs=>simp only[tC,aJ];exact wC p _
 |_=>simp only[tC];exact AF p _
theorem MX{p:Nat→Prop}{s:List (Nat×AV)}(hm:∀d,aJ p (look s d))(x:Operand):aJ p (ρ s x):=by
 cases x with
 |tmp i=>exact hm i
 |const v=>exact AQ p v
 |global g=>simp only[ρ,aJ]
 |func f=>simp only[ρ,aJ,aC]
def mB(rid:Nat)(S:Nat→Prop)(id:Nat):Prop:=id / 32768=rid+1→S (id / 256%128)
def Of(rid i id:Nat):Prop:=id / 256=(rid+1)*128+i
theorem Of.parts{rid i id:Nat}(hi:i<128)(h:Of rid i id):id / 32768=rid+1∧id / 256%128=i:=by
 unfold Of at h
 constructor<;>omega
theorem Of.of{rid i id:Nat}(h:id / 32768=rid+1)(hi:id / 256%128=i):Of rid i id:=by
 unfold Of;omega
theorem K6{rid i j:Nat}(hj:j<256):Of rid i (opId rid i+j):=by
 unfold Of opId;omega
theorem GS{rid i:Nat}:Of rid i (opId rid i):=by unfold Of opId;omega
theorem mB.AR{rid i id:Nat}{S:Nat→Prop}(hi:i<128)(hs:¬S i)(h:mB rid S id):¬Of rid i id:=fun ho=>by
 obtain⟨h1,h2⟩:=ho.parts hi
 have:=h h1
 rw[h2]at this
 exact hs this
theorem og{rid bits id:Nat}{S:Nat→Prop}(hb:∀j,bits.testBit j=true→S j)(h:qJ rid bits id=true):mB rid S id:=fun h1=>by
 unfold qJ at h
 simp only[Bool.or_eq_true,bne_iff_ne,ne_eq]at h
 exact hb _ (h.resolve_left (fun h2=>h2 h1))
mutual
theorem pG{rid bits:Nat}{S:Nat→Prop}(hb:∀j,bits.testBit j=true→S j):∀{v:AV},sQ rid bits v=true→aJ (mB rid S) v
 |.ref id s i off,h=>by simp only[sQ]at h;simp only[aJ];exact og hb h
 |.bH id,h=>by simp only[sQ]at h;simp only[aJ];exact og hb h
 |.fn f cap,h=>by simp only[sQ]at h;simp only[aJ];exact lX hb h
 |.agg cs,h=>by simp only[sQ]at h;simp only[aJ];exact lX hb h
 |.ni cs,h=>by simp only[sQ]at h;simp only[aJ];exact lX hb h
 |.no,_=>by simp only[aJ]
 |.bool _,_=>by simp only[aJ]
 |.int _ _,_=>by simp only[aJ]
 |.str _,_=>by simp only[aJ]
 |.kY,_=>by simp only[aJ]
 |.fW,_=>by simp only[aJ]
 |.fp _ _ _,_=>by simp only[aJ]
 |.sl _ _ _,_=>by simp only[aJ]
 |.mp _ _ _,_=>by simp only[aJ]
theorem lX{rid bits:Nat}{S:Nat→Prop}(hb:∀j,bits.testBit j=true→S j):∀{v:List AV},Ae rid bits v=true→aC (mB rid S) v
 |[],_=>by simp only[aC]
 |v::r,h=>by
  simp only[Ae,Bool.and_eq_true]at h
  simp only[aC]
  exact⟨pG hb h.1,lX hb h.2⟩
end
theorem lY{rid bits:Nat}{S:Nat→Prop}(hb:∀j,bits.testBit j=true→S j):∀{hh:Heap},xO rid bits hh=true→∀id o,hh.get id=some o→mB rid S id∧∀ty cs,o=.box ty cs→aC (mB rid S) cs
 |[],_,id,o,hg=>by simp[Heap.get]at hg
 |(i,ob)::r,h,id,o,hg=>by
  simp only[Heap.get]at hg
  split at hg
  ·rename_i e
   subst e
   cases hg
   cases ob with
   |box ty cs =>
    simp only[xO,Bool.and_eq_true]at h
    exact⟨og hb h.1.1,fun yO cs' he=>by cases he;exact lX hb h.1.2⟩
   |own ok xs =>
    simp only[xO,Bool.and_eq_true]at h
    exact⟨og hb h.1,fun yO cs' he=>by cases he⟩
  ·refine lY hb ?_ id o hg
   cases ob<;>simp only[xO,Bool.and_eq_true]at h<;>exact h.2
def bI.heap(e:bI)(h:Heap):Heap:=match e with
 |.wr _ h'=>h'
 |e=>e.h h
theorem bI.GU(e:bI)(hh:Heap):(e.heap hh).get=e.hp hh.get:=by
 cases e with
 |val v=>rfl
 |new v os=>funext i;simp only[bI.heap,bI.h,bI.hp];rw[Heap.get_append];cases Heap.get os i<;>rfl
 |wr v h'=>rfl
def ta(p:Nat→Prop)(h:Hp):Prop:=∀i ty cs,h i=some (.box ty cs)→aC p cs
theorem AS{ops:Array Oper}{o:Oper}{n:Nat}{T:Nat→AV}{a:Act}(t:cO Z ψ h w n T a){j d:Nat}{want:Bool}(hg:o.guard=some (j,want))(hd:(ops[j]?).bind (·.dst)=some d){b:Bool}(hb:T d=.bool b) :
  Region.wanted o (yielded ops a.tmps)=(b==want):=by
 have h1:=t.rep d
 rw[hb]at h1
 simp only[aw]at h1
 have h2:a.tmps[d]? = some (.bool b):=by
  rw[Array.getD_eq_getD_getElem?]at h1
  cases e:a.tmps[d]? with
  |none=>rw[e]at h1;simp[undef]at h1
  |some v=>rw[e]at h1;simpa using h1
 unfold Region.wanted yielded
 rw[hg]
 simp only[hd,Option.bind_some,h2]
 cases b<;>cases want<;>rfl
theorem ym{ops:Array Oper}{o:Oper}{n:Nat}{T:Nat→AV}{a:Act}(t:cO Z ψ h w n T a){j d:Nat}{want:Bool}(hg:o.guard=some (j,want))(hd:(ops[j]?).bind (·.dst)=some d){vs:List AV}(hb:T d=.ni vs) :
  Region.wanted o (yielded ops a.tmps)=false:=by
 have h1:=t.rep d
 rw[hb]at h1
 simp only[aw]at h1
 obtain⟨us,h1,_⟩:=h1
 unfold Region.wanted yielded
 rw[hg]
 simp only[hd,Option.bind_some]
 rw[Array.getD_eq_getD_getElem?]at h1
 cases e:a.tmps[d]? with
 |none=>rfl
 |some v=>rw[e]at h1;simp at h1;subst h1;rfl
def AT(ops:Array Oper):Nat→List (Nat×Oper)→Prop
 |_,[]=>True
 |i,(j,o)::r=>j=i∧ops[i]? = some o∧AT ops (i+1) r
theorem GW(ops:Array Oper):∀(l:List Oper) (i:Nat),(∀k o,l[k]? = some o→ops[i+k]? = some o)→AT ops i ((l.zipIdx i).map fun p=>(p.2,p.1))
 |[],_,_=>by simp[AT]
 |o::r,i,h=>by
  simp only[List.zipIdx_cons,List.map_cons,AT]
  exact⟨trivial,h 0 o rfl,GW ops r (i+1) fun k o' hk=>by rw[Nat.add_assoc,Nat.add_comm 1 k];exact h (k+1) o' hk⟩
theorem oi(ops:Array Oper):AT ops 0 (ops.toList.zipIdx.map fun p=>(p.2,p.1)):=GW ops _ 0 fun k o hk=>by simpa using hk
theorem DJ(ops:Array Oper):(ops.toList.zipIdx.map fun p=>(p.2,p.1)).map Prod.fst=List.range ops.size:=by
 rw[List.map_map]
 have:(Prod.fst ∘ fun(p:Oper×Nat)=>(p.2,p.1))=Prod.snd:=rfl
 rw[this,List.zipIdx_map_snd,List.range_eq_range',Array.length_toList]
structure J(p:Nat→Prop)(n:Nat)(Z0:Nat→Prop)(w0:World)(O:Nat→Prop)(ψ0:Nat→Value)(Z:Nat→Prop)(ψ:Nat→Value)(T:Nat→AV)(h:Hp)(a:Act)(w:World):Prop where
 ok:Ok Z0 w0 O ψ0 Z ψ h w
 tr:cO Z ψ h w n T a
 tm:∀d,aJ p (T d)
 hm:ta p h
theorem J.imp{p q:Nat→Prop}{n:Nat}{T:Nat→AV}{a:Act}(j:J p n Z0 w0 O ψ0 Z ψ T h a w)(AA:∀id,p id→q id):J q n Z0 w0 O ψ0 Z ψ T h a w :=
 ⟨j.ok,j.tr,fun d=>(j.tm d).imp AA,fun id ty cs hb=>(j.hm id ty cs hb).imp AA⟩
theorem J.op(E:Env P Eqs Sg F){rid n i:Nat}{p:Nat→Prop}{T:Nat→AV}{a:Act}{s:List (Nat×AV)}{o:Oper}(hS:makes o.op=true→∀id,p id→¬Of rid i id)(j:J p n Z0 w0 O ψ0 Z ψ T h a w)(hd:iq n o=true)
  (hT:∀x∈o.op.operands,aw Z ψ h w (ρ s x) (a.eval x)) (hTm:∀x∈o.op.operands,aJ p (ρ s x)) {hh:Heap} (bB:∀id o,hh.get id=some o→h id=some o) {e:bI} (he:cU P Eqs Sg F (opId rid i) hh s o some=some e) (nM:∀v hw,e=.wr v hw→hh.get=h)
  {p':Nat→Prop} (Ol:∀k,p k→p' k) (hv:aJ p' e.v) (Xg:ta p' (e.hp h)) {next:Act→World→Prop} {Q:Exit→Act→World→Prop}
  (hk:∀a' w' Z' ψ',J p' n Z0 w0 O ψ0 Z' ψ' (iZ T o.dst e.v) (e.hp h) a' w'→next a' w'):o.wp P a w next Q:=by
 have Xh:∀id,p id→¬(makes o.op=true∧Of rid i id):=fun id h ⟨h1,h2⟩=>hS h1 id h h2
 refine VD (N:=fun id=>makes o.op=true∧Of rid i id) E j.ok.dW j.ok.size bB (id:=opId rid i) (fun hm k hk=>⟨hm,K6 hk⟩) hT (fun x hx=>(hTm x hx).imp Xh) (fun id ty cs hb=>(j.hm id ty cs hb).imp Xh) nM he fun V w' Z' ψ' nx hr=>?_
 refine hk _ w' Z' ψ' ⟨j.ok.next (fun id h=>by have:=h.2;unfold Of at this;omega) nx,(j.tr.next j.ok.dW nx (fun d=>(j.tm d).imp Xh)).put hd hr,fun d=>?_,Xg⟩
 cases kQ:o.dst with
 |none=>exact(j.tm d).imp Ol
 |some d0 =>
  simp only[iZ,ed]
  split
  ·exact hv
  ·exact(j.tm d).imp Ol
theorem J.skip{n:Nat}{p p':Nat→Prop}{T:Nat→AV}{a:Act}{o:Oper}(j:J p n Z0 w0 O ψ0 Z ψ T h a w)(hd:iq n o=true)(Ol:∀k,p k→p' k) :
  J p' n Z0 w0 O ψ0 Z ψ (iZ T o.dst (.ni [])) h (a.put o.dst undef) w:=by
 refine⟨j.ok,j.tr.put hd MW,fun d=>?_,fun id ty cs hb=>(j.hm id ty cs hb).imp Ol⟩
 cases kQ:o.dst with
 |none=>exact(j.tm d).imp Ol
 |some d0 =>
  simp only[iZ,ed]
  split
  ·simp only[aJ,aC]
  ·exact(j.tm d).imp Ol
theorem T2{hh:Heap}(g:Good Z ψ hh.get w B0 O){m:Nat}{kk vk:K}{es:List (kk.T×vk.T)}(hg:hh.get m=some (.own (.map kk vk) es))(n:Next Z ψ hh.get w B0 O N Z' ψ' h' w')(hzm:∀b,ob (ψ m)=some b→Z' b)
  (hold:∀b,b<w.heap.size→w'.heap[b]? = w.heap[b]?) {v:AV} {V:Value} (hm:aJ (fun id=>¬N id) v) (hr:aw Z ψ hh.get w v V):aw Z' ψ' h' w' (yP m (.mp kk vk es) v) V:=by
 by_cases hv:v=.bH m
 ·subst hv
  simp only[yP,if_true]
  simp only[aw]at hr
  have hu:=hr.2 (by rw[hg];simp)
  obtain⟨r,bV,clock,h1,h2,h3,_⟩:=g.row m (.map kk vk) es hg
  rw[h1]at hu
  subst hu
  have aF:=(Array.getElem?_eq_some_iff.1 h2).1
  simp only[aw,aI]
  exact⟨some r,rfl,.inr ⟨r,bV,clock,rfl,hzm r (by rw[h1];rfl),(hold r aF).trans h2,h3.imp (fun _ _ h=>h.mono n.fP (fun b hb=>hold b (g.jP b hb))) (fun _ _ h=>h.mono n.fP (fun b hb=>hold b (g.jP b hb)))⟩⟩
 ·have hf:yP m (.mp kk vk es) v=v:=by
   unfold yP
   split
   ·split
    ·rename_i e;subst e;exact absurd rfl hv
    ·rfl
   ·rfl
  rw[hf]
  exact n.rep g hm hr
theorem Pw{p:Nat→Prop}{m:Nat}{kk vk:K}{es:List (kk.T×vk.T)}{v:AV}(hm:aJ p v):aJ p (yP m (.mp kk vk es) v):=by
 unfold yP
 split
 ·split
  ·simp only[aJ]
  ·exact hm
 ·exact hm
theorem r8(f:AV→AV)(hf:f .no=.no):∀(l:List (Nat×AV)) (d:Nat),look (l.map fun p=>(p.1,f p.2)) d=f (look l d)
 |[],_=>by simp only[List.map_nil,look];exact hf.symm
 |(i,v)::r,d=>by
  simp only[List.map_cons,look]
  split
  ·rfl
  ·exact r8 f hf r d
theorem JJ{rid n i:Nat}{p p':Nat→Prop}{st eJ:St}{a:Act}{o:Oper}(hS:∀id,p id→¬Of rid i id)(Ol:∀k,p k→p' k)(Pe:p' (opId rid i))(j:J p n Z0 w0 O ψ0 Z ψ (look st.tmps) st.heap.get a w)(hd:iq n o=true)(om:oY P (opId rid i) st o=some eJ) :
  ∃V w' Z' ψ',(execOp a.eval o).run P w=.ok (.value V) w'∧J p' n Z0 w0 O ψ0 Z' ψ' (look eJ.tmps) eJ.heap.get (a.put o.dst V) w':=by
 unfold oY at om
 split at om
 ·rename_i t x EW
  split at om
  ·rename_i ka va m hu hx
   split at om
   ·rename_i kk vk es hg
    cases om
    have YE:aw Z ψ st.heap.get w (.bH m) (a.eval x):=by rw[←hx];exact qY j.tr x
    simp only[aw]at YE
    have hev:=YE.2 (by rw[hg];simp)
    have g:=j.ok.dW
    obtain⟨r,bV,clock,h1,h2,h3,h4,h5⟩:=g.row m (.map kk vk) es hg
    rw[h1]at hev
    have aF:=(Array.getElem?_eq_some_iff.1 h2).1
    have gd:=iw g [.bH m]
    have ZA:∀b,ob (ψ m)=some b→qz Z ψ st.heap.get [.bH m] b:=fun b hb=>.inr ⟨m,by simp,by rw[hg];simp,hb⟩
    have hold:∀b,b<w.heap.size→(w.alloc (.mapIter (some r) clock #[] clock)).heap[b]? = w.heap[b]? := fun b hb=>heap_alloc_old w _ hb
    have hN:(Of rid i) (opId rid i):=GS
    have n1:=Ay (N:=Of rid i) gd j.ok.size (opId rid i) hN (ok:=.iter kk vk) (x:=(none,es)) (v:=.pointer (some ⟨w.heap.size,0,none⟩)) (.mapIter (some r) clock #[] clock)
     ⟨w.heap.size,r,clock,#[],bV,clock,rfl,heap_alloc_new _ _,ZA r (by rw[h1];rfl),(hold r aF).trans h2,h4,rfl,h5,by
      rw[List.filter_eq_self.2 (fun e _=>by simp)]
      exact h3.imp (fun _ _ h=>h.mono (fun b hb=>.inl hb) (fun b hb=>hold b (g.jP b hb))) (fun _ _ h=>h.mono (fun b hb=>.inl hb) (fun b hb=>hold b (g.jP b hb))),trivial⟩ rfl
     (fun i' ty cs hb=>aC.imp (p:=p) (q:=fun i'=>i'≠opId rid i) (fun id hp e=>hS id hp (by rw[e];exact hN)) (j.hm i' ty cs (dZ _ _ _ _ hb)))
    have n2:=n1.drop (Z:=Z) (h:=st.heap.get) (fun b hb=>.inl hb) (fun b hb=>hb.imp (fun h=>h) (fun⟨id,_,h5,h6⟩=>⟨id,h5,h6⟩)) (dZ _ _)
    have fE:(ed (cH st.heap [.bH m]).get (opId rid i) (some (Ob.own (.iter kk vk) (none,es))))=Heap.get ((opId rid i,.own (.iter kk vk) (none,es))::st.heap.del m):=by
     funext k
     simp only[cH,drop1,ed,Heap.get]
     by_cases e:k=opId rid i
     ·subst e;simp
     ·rw[if_neg e,if_neg (fun h=>e h.symm)]
    rw[fE]at n2
    refine⟨.pointer (some ⟨w.heap.size,0,none⟩),w.alloc (.mapIter (some r) clock #[] clock),qz Z ψ st.heap.get [.bH m],ed ψ (opId rid i) (.pointer (some ⟨w.heap.size,0,none⟩)),?_,?_⟩
    ·obtain⟨dst,op,type,pos,after,guard⟩:=o
     simp only at EW
     subst EW
     have dx:(Instr.range t (.map (some r))).run P w=.ok (.pointer (some ⟨w.heap.size,0,none⟩)) (w.alloc (.mapIter (some r) clock #[] clock)):=by
      simp only[Instr.range,Sem.run_bind,run_underlying hu,Result.andThen_ok,gj h2 (by simp),Sem.run_pure];rfl
     simp[execOp,hev,dx]
    ·have bu:∀d,aJ (fun id=>¬Of rid i id) (look st.tmps d):=fun d=>(j.tm d).imp hS
     refine⟨by rw[dh];exact j.ok.next (fun id h=>by unfold Of at h;omega) n2,?_,fun d=>?_,fun k ty cs hb=>?_⟩
     ·rw[hY,dh]
      refine cO.put ⟨fun d=>?_,j.tr.size,j.tr.defers⟩ hd ?_
      ·rw[r8 _ rfl]
       exact T2 g hg n2 (fun b hb=>ZA b hb) hold (bu d) (j.tr.rep d)
      ·simp only[aw]
       exact⟨⟨rfl,rfl⟩,fun _=>(bw _ _ _).symm⟩
     ·rw[hY]
      have hb:aJ p' (look (st.tmps.map fun q=>(q.1,yP m (.mp kk vk es) q.2)) d):=by rw[r8 _ rfl];exact Pw ((j.tm d).imp Ol)
      cases kQ:o.dst with
      |none=>exact hb
      |some d0 =>
       simp only[iZ,ed]
       split
       ·simp only[aJ];exact Pe
       ·exact hb
     ·rw[dh]at hb
      simp only[Heap.get]at hb
      split at hb
      ·cases hb
      ·exact(j.hm k ty cs (Heap.uJ hb).1).imp Ol
   ·cases om
  ·cases om
 ·cases om
theorem oo{R:Type}{n:Nat}{f:Nat→Option R}{r:R}(h:sM n f=some r):∀j,j<n→f j=some r:=by
 unfold sM at h
 split at h
 ·rename_i hx;cases h;exact Classical.choose_spec hx
 ·cases h
theorem mT{R:Type}{n:Nat}{f:Nat→Option R}{r:R}(hn:0<n)(h:∀j,j<n→f j=some r):sM n f=some r:=by
 unfold sM
 have hx:∃r,∀j,j<n→f j=some r:=⟨r,h⟩
 rw[dif_pos hx]
 have:=Classical.choose_spec hx 0 hn
 rw[h 0 hn]at this
 exact this.symm
theorem Next.drawn{d:Nat}(n:Next Z ψ h { w with drawn:=d } B0 O N Z' ψ' h' w'):Next Z ψ h w B0 O N Z' ψ' h' w' :=
 ⟨n.fP,n.eL,⟨n.keep.os,n.keep.tape,n.keep.output,n.keep.size,n.keep.block⟩,n.ids,n.dW⟩
theorem Good.drawn{d:Nat}(g:Good Z ψ h w B0 O):Good Z ψ h { w with drawn:=d } B0 O:=by
 have sm:ct Z w ({ w with drawn:=d }:World):=fun _ _=>rfl
 refine⟨fun id ty cs hb=>?_,fun id ok xs hb=>?_,g.live,g.apart,g.jP⟩
 ·obtain⟨gg,vs,h1,h2,h3,h4⟩:=g.box id ty cs hb
  exact⟨gg,vs,h1,h2,h3.less (fun _ h=>h) sm (fun i hi=>⟨hi,rfl⟩),h4⟩
 ·exact(g.row id ok xs hb).kept (fun _ h=>h) sm (fun gg _=>rfl)
theorem filter_push{l:List MapEntry}(h:l.Pairwise (fun a b=>a.born≠b.born)){seen:Array Nat}{j:Nat}{e:MapEntry}(he:(l.filter fun e => !seen.contains e.born)[j]? = some e) :
  l.filter (fun x => !(seen.push e.born).contains x.born)=(l.filter fun e => !seen.contains e.born).eraseIdx j:=by
 have h2:(l.filter fun e => !seen.contains e.born).Pairwise (fun a b=>a.born≠b.born):=h.sublist List.filter_sublist
 rw[←ChangeMaps.filter_eq_eraseIdx (fun x=>x.born==e.born) _ j e he (by simp) (h2.imp fun {a b} br hc=>br (by
  simp only[beq_iff_eq]at hc;omega))]
 rw[List.filter_filter]
 congr 1
 funext x
 simp only[Array.contains_push]
 cases seen.contains x.born<;>cases x.born==e.born<;>rfl
theorem JK{R:Type}{hh:Heap}(g:Good Z ψ hh.get w B0 O){x:AV}{u:Value}{ty:TypeId}(hx:aw Z ψ hh.get w x u){kk:AV→Heap→Option R}{r:R}(he:k0 hh x kk=some r) :
  ∃v h' V w',(Instr.next u false ty).run P w=.ok V w'∧Next Z ψ hh.get w B0 O N Z ψ h'.get w'∧aw Z ψ h'.get w' v V∧kk v h'=some r∧(∀p,aJ p v)∧∀i ty cs,h'.get i=some (.box ty cs)→hh.get i=some (.box ty cs):=by
 unfold k0 at he
 split at he
 ·rename_i id
  split at he
  ·rename_i kk1 vk pp hg
   simp only[aw]at hx
   have hu:=hx.2 (by rw[hg];simp)
   obtain⟨b,m,since,seen,bV,clock,h1,h2,h3,h4,h5,h6,h7,h8,h9⟩:=g.row id (.iter kk1 vk) pp hg
   rw[h1]at hu
   subst hu
   subst h6
   have aF:=(Array.getElem?_eq_some_iff.1 h2).1
   have VF:(leftOf bV seen).toList=bV.toList.filter fun e => !seen.contains e.born:=by unfold leftOf;simp
   have hlen:pp.2.length=(leftOf bV seen).size:=by rw[h8.1,←VF,Array.length_toList]
   rcases run_next_at (P:=P) w ty b m since since seen bV since h2 h4 h7 (Nat.le_refl _) with⟨nr,dx⟩|⟨e,gS,w1,JM,dx⟩
   ·have MP:pp.2.isEmpty=true:=by rw[List.isEmpty_iff];exact List.eq_nil_of_length_eq_zero (by rw[hlen,nr])
    rw[MP]at he
    simp only[cond_true]at he
    exact⟨_,hh,_,w,dx,Next.refl g,by simp only[aw,an];exact⟨_,rfl,_,_,rfl,rfl,rfl⟩,he,fun p=>by simp only[aJ,aC];exact⟨trivial,trivial⟩,fun _ _ _ h=>h⟩
   ·obtain⟨k,hk,hke⟩:=List.mem_iff_getElem.1 gS
    have oT:k<pp.2.length:=by rw[hlen,←Array.length_toList];exact hk
    have MP:pp.2.isEmpty=false:=by
     cases hl:pp.2 with
     |nil=>rw[hl]at oT;simp at oT
     |cons _ _=>rfl
    rw[MP]at he
    simp only[cond_false]at he
    have hj:=oo he k oT
    rw[List.getElem?_eq_getElem oT,Option.bind_some]at hj
    have Xi:(bV.toList.filter fun e => !seen.contains e.born)[k]? = some e:=by rw[←VF,List.getElem?_eq_getElem hk,hke]
    have MA:=h8.2 k _ e (List.getElem?_eq_getElem oT) Xi
    obtain⟨⟨k1,k2,k3⟩,v1,v2,v3⟩:=MA
    have aet:e∈bV.toList:=(List.mem_filter.1 (List.mem_of_getElem? Xi)).1
    have gd1:Good Z ψ hh.get w1 B0 O:=by rcases JM with rfl|rfl;exact g;exact g.drawn
    have EX:w1.heap=w.heap:=by rcases JM with rfl|rfl<;>rfl
    have hmb:m≠b:=fun hmb=>by
     subst hmb
     exact(g.live id m (by rw[hg];simp) (by rw[h1];rfl)).1 h3
    have n1:=rT (N:=N) gd1 (id:=id) (by rw[hg];simp) (r:=b) (by rw[h1];rfl) (by rw[EX];exact aF) (.mapIter (some m) since (seen.push e.born) since) (ok:=.iter kk1 vk) (x:=(some pp.2[k],pp.2.eraseIdx k)) (fun w' Ju sm=>by
     have YF:ct Z w w':=fun c hc=>(sm c hc).trans (by rw[EX])
     refine⟨b,m,since,seen.push e.born,bV,since,h1,by rw[Ju,EX];simp[aF],h3,?_,h5,rfl,h7,?_,?_⟩
     ·rw[Ju,EX,wA _ (fun e=>hmb e.symm)];exact h4
     ·rw[filter_push h5 Xi]
      exact(kh.erase h8 k).mono (fun _ h=>h) YF
     ·refine⟨e,aet,by simp,⟨rfl,fun q y e' nr yR=>?_⟩⟩
      cases q with
      |zero=>cases nr;cases yR;exact⟨⟨k1.mono (fun _ h=>h) YF,k2,k3⟩,v1.mono (fun _ h=>h) YF,v2,v3⟩
      |succ q=>simp at nr)
    have n2:Next Z ψ hh.get w B0 O N Z ψ (ed hh.get id (some (.own (.iter kk1 vk) (some pp.2[k],pp.2.eraseIdx k)))) { w1 with heap:=w1.heap.setIfInBounds b (.mapIter (some m) since (seen.push e.born) since) }:=by
     rcases JM with rfl|rfl
     ·exact n1
     ·exact n1.drawn
    refine⟨_,hh.set id (.own (.iter kk1 vk) (some pp.2[k],pp.2.eraseIdx k)),_,_,dx,by rw[mK];exact n2,?_,hj,fun p=>?_,fun i ty cs hb=>?_⟩
    ·have YF:ct Z w ({ w1 with heap:=w1.heap.setIfInBounds b (.mapIter (some m) since (seen.push e.born) since) }:World):=n2.same g
     simp only[aw,an]
     exact⟨_,rfl,_,_,rfl,rfl,_,_,rfl,lM (k1.mono (fun _ h=>h) YF) k2 k3,_,_,rfl,lM (v1.mono (fun _ h=>h) YF) v2 v3,rfl⟩
    ·simp only[aJ,aC]
     exact⟨trivial,oc _ _ _,oc _ _ _,trivial⟩
    ·rw[mK]at hb
     unfold ed at hb
     split at hb
     ·cases hb
     ·exact hb
  ·cases he
 ·cases he
theorem GX(op:BinOp)(t:TypeId)(a b:Operand)(x y:Option Addr)(n m c d:Nat):(eqGuard op t a b (.slice x n c) (.slice y m d)).run P w=.ok () w:=by cases op<;>simp[eqGuard]
theorem C0{t e:TypeId}(ht:P.underlying t=some (.slice e))(a:Option Addr)(n c:Nat):(Op.equal t (.slice a n c) (.slice none 0 0)).run P w=.ok a.isNone w:=by
 have key:∀d,(Op.equalIn (d+1) t (.slice a n c) (.slice none 0 0)).run P w=.ok a.isNone w:=fun d=>by
  cases a<;>simp[Op.equalIn,run_underlying ht]
 exact key 9999
theorem JN{o:Oper}{x:Operand}{want:Bool}(h:isNil P o=some (x,want)):∃op t v t' e,o.op=.binOp op t x (.const v) t'∧P.underlying t=some (.slice e)∧v=.slice none 0 0∧((op=.eql∧want=true)∨(op=.neq∧want=false)):=by
 unfold isNil at h
 split at h
 ·rename_i op t x' v t' EW
  have hv:∀v:Value,wc v=.fW→v=.slice none 0 0:=fun v hv=>by
   unfold wc at hv
   split at hv<;>try (first|cases hv|(split at hv<;>cases hv);done)
   all_goals (split at hv<;>first|cases hv|skip)
   ·rename_i hc;obtain⟨rfl,rfl,rfl⟩:=hc;rfl
   all_goals (split at hv<;>cases hv)
  split at h
  ·rename_i e h1 h2 h3;cases h;exact⟨_,_,_,_,_,EW,h2,hv _ h3,.inl ⟨rfl,rfl⟩⟩
  ·rename_i e h1 h2 h3;cases h;exact⟨_,_,_,_,_,EW,h2,hv _ h3,.inr ⟨rfl,rfl⟩⟩
  ·cases h
 ·cases h
theorem Px{R:Type}{hh:Heap}(g:Good Z ψ hh.get w B0 O){x:AV}{u:Value}{op:BinOp}{t e:TypeId}(xo yo:Operand)(hx:aw Z ψ hh.get w x u)(ht:P.underlying t=some (.slice e)){want:Bool}(ho:(op=.eql∧want=true)∨(op=.neq∧want=false)){kk:AV→Option R}{r:R}(he:uH hh x want kk=some r) :
  ∃c:Bool,((eqGuard op t xo yo u (.slice none 0 0)).run P w=.ok () w∧(binOp op t u (.slice none 0 0)).run P w=.ok (.bool c) w)∧kk (.bool c)=some r:=by
 have run:∀(a:Option Addr) (n c:Nat),(eqGuard op t xo yo (.slice a n c) (.slice none 0 0)).run P w=.ok () w∧(binOp op t (.slice a n c) (.slice none 0 0)).run P w=.ok (.bool (a.isNone==want)) w:=fun a n c=>by
  refine⟨GX _ _ _ _ _ _ _ _ _ _,?_⟩
  rcases ho with⟨rfl,rfl⟩|⟨rfl,rfl⟩<;>simp only[Sem.run_bind,Result.andThen_ok,binOp,C0 ht,Sem.run_pure]<;>cases a.isNone<;>rfl
 have fin:∀(n:Nat) (a:Option Addr) (c:Nat) (xs:Bool),(a=none→xs=true)→cond xs (sM 2 fun j=>kk (.bool ((j==0)==want))) (kk (.bool (!want)))=some r →
   ∃c':Bool,((eqGuard op t xo yo (.slice a n c) (.slice none 0 0)).run P w=.ok () w∧(binOp op t (.slice a n c) (.slice none 0 0)).run P w=.ok (.bool c') w)∧kk (.bool c')=some r:=fun n a c xs rP h=>by
  refine⟨_,run a n c,?_⟩
  cases xs with
  |true =>
   simp only[cond_true]at h
   cases a with
   |none=>exact oo h 0 (by decide)
   |some a=>exact oo h 1 (by decide)
  |false =>
   simp only[cond_false]at h
   cases a with
   |none=>cases rP rfl
   |some a=>cases want<;>exact h
 unfold uH at he
 split at he
 ·rename_i hv
  have hxn:x=.fW:=by
   cases x<;>simp only[cK]at hv<;>try cases hv
   ·rfl
   ·split at hv<;>cases hv
  subst hxn
  simp only[aw]at hx
  subst hx
  exact⟨_,run none 0 0,by cases want<;>exact he⟩
 ·rename_i ex k xs hv
  cases x with
  |sl ex' k' Y7 =>
   simp only[cK]at hv
   cases hv
   simp only[aw,aI]at hx
   obtain⟨⟨v,hv,A,c,rfl,h1,h2,_⟩,_⟩:=hx
   cases hv
   refine fin _ A c _ (fun hA=>?_) he
   have:=h2 hA
   rw[List.isEmpty_iff]
   exact List.eq_nil_of_length_eq_zero (by omega)
  |bH id =>
   simp only[cK]at hv
   simp only[aw]at hx
   split at hv
   ·rename_i hg
    cases hv
    have hu:=hx.2 (by rw[hg];simp)
    obtain⟨vs,⟨_,h1⟩,_⟩:=g.row id _ _ hg
    rw[←hu]at h1
    rcases h1 with⟨h1,A,rfl⟩|⟨gg,cap,cur,rfl,_⟩
    ·exact fin _ A 0 _ (fun _=>List.isEmpty_iff.2 (List.eq_nil_of_length_eq_zero h1)) he
    ·exact fin _ _ _ _ (fun h=>by cases h) he
   ·cases hv
   ·cases hv
  |_=>simp only[cK]at hv<;>cases hv
 ·cases he
theorem AU{draw:Bool}{rid:Nat}{ops:Array Oper}{b:Array Nat}{i Jf:Nat}{e:bI}{S:Nat→Prop}{hh:Heap}(hm:ta (mB rid S) h)(ha:∀j,Jf.testBit j=true→S j)(he:gQ draw rid ops b i Jf e=true) :
  aJ (mB rid fun k=>S k∨k=i) e.v∧ta (mB rid fun k=>S k∨k=i) (e.hp h):=by
 have Gl:∀j,(Jf ||| 2 ^ i).testBit j=true→S j∨j=i:=fun j hj=>by
  rw[Nat.testBit_or,Bool.or_eq_true]at hj
  rcases hj with hj|hj
  ·exact .inl (ha j hj)
  ·rw[Nat.testBit_two_pow]at hj;exact .inr (by simpa using hj:i=j).symm
 have up:ta (mB rid fun k=>S k∨k=i) h:=fun id ty cs hb=>(hm id ty cs hb).imp (fun id h1 h2=>.inl (h1 h2))
 cases e with
 |val v=>exact⟨pG (fun j hj=>.inl (ha j hj)) he,up⟩
 |new v os =>
  simp only[gQ,Bool.and_eq_true]at he
  refine⟨pG Gl he.1.1,fun id ty cs hb=>?_⟩
  simp only[bI.hp]at hb
  split at hb
  ·rename_i o ho
   cases hb
   exact(lY Gl he.2 _ _ ho).2 _ _ rfl
  ·exact up id ty cs hb
 |wr v h' =>
  simp only[gQ,Bool.and_eq_true]at he
  exact⟨pG Gl he.1.2,fun id ty cs hb=>(lY Gl he.2 _ _ hb).2 _ _ rfl⟩
theorem C1{i j:Nat}(h:(2 ^ i-1).testBit j=true):j<i:=by
 rw[Nat.testBit_two_pow_sub_one]at h;simpa using h
def wL(mk:Bool)(rid i id:Nat):Prop:=mk=true→mB rid (fun k=>k<i) id
theorem lx(E:Env P Eqs Sg F){rid n:Nat}{ops:Array Oper}{b:Array Nat}(mk:Bool)(Py:mk=false→∀(i:Nat) (o:Oper),ops[i]? = some o→makes o.op=false)(hn:ops.size≤128)(kQ:∀(i:Nat) (o:Oper),ops[i]? = some o→iq n o=true){kk:St→Option R}{r:R}{Q:Exit→Act→World→Prop}
  (hQ:∀eJ Z ψ a w,kk eJ=some r→Ok Z0 w0 O ψ0 Z ψ eJ.heap.get w→cO Z ψ eJ.heap.get w n (look eJ.tmps) a→Q .normal a w) :
  ∀(l:List (Nat×Oper)) (i:Nat) (st:St) (Z:Nat→Prop) (ψ:Nat→Value) (a:Act) (w:World),AT ops i l→bD P Eqs Sg F rid false ops b l st kk=some r →
   J (wL mk rid i) n Z0 w0 O ψ0 Z ψ (look st.tmps) st.heap.get a w→wpOps P ops Q (l.map Prod.fst) a w
 |[],i,st,Z,ψ,a,w,_,hx,j=>hQ st Z ψ a w hx j.ok j.tr
 |(i',o)::l,i,st,Z,ψ,a,w,hl,hx,j=>by
  obtain⟨rfl,ho,hl⟩:=hl
  have hi:i'<128:=Nat.lt_of_lt_of_le (Array.getElem?_eq_some_iff.1 ho).1 hn
  have Tl:=kQ i' o ho
  have ih:=lx E (rid:=rid) (b:=b) mk Py hn kQ hQ l (i'+1)
  have up:∀id,wL mk rid i' id→wL mk rid (i'+1) id:=fun id h hm hr=>Nat.lt_succ_of_lt (h hm hr)
  have runs:∀iB:St,look iB.tmps=look st.tmps→iB.heap=st.heap→Region.wanted o (yielded ops a.tmps)=true →
    (match oY P (opId rid i') iB o with
    |some eJ=>bD P Eqs Sg F rid false ops b l eJ kk
    |none=>match uG o with
    |some x=>k0 iB.heap (ρ iB.tmps x) fun v h=>bD P Eqs Sg F rid false ops b l (({ iB with heap:=h }:St).put o.dst v) kk
    |none=>match isNil P o with
    |some (x,want)=>uH iB.heap (ρ iB.tmps x) want fun v=>bD P Eqs Sg F rid false ops b l (iB.put o.dst v) kk
    |none=>cU P Eqs Sg F (opId rid i') iB.heap iB.tmps o fun e=>if gQ false rid ops b i' (2 ^ i' - 1) e then bD P Eqs Sg F rid false ops b l ({ iB with heap:=match e with | .wr _ h=>h|e=>e.h iB.heap }.put o.dst e.v) kk else none)=some r →
    wpOps P ops Q (((i',o)::l).map Prod.fst) a w:=by
   intro iB h1 h2 hw hx
   split at hx
   ·rename_i eJ om
    simp only[List.map_cons,wpOps,ho,hw,if_true]
    refine .inl ?_
    have ZB:makes o.op=true:=by
     unfold oY at om
     split at om
     ·rename_i EW;rw[EW];rfl
     ·cases om
    have aev:mk=true:=by
     cases MY:mk with
     |true=>rfl
     |false=>rw[Py MY i' o ho]at ZB;cases ZB
    have j1:J (wL mk rid i') n Z0 w0 O ψ0 Z ψ (look iB.tmps) iB.heap.get a w:=by rw[h1,h2];exact j
    obtain⟨V,w',Z',ψ',dx,j'⟩:=JJ (P:=P) (p':=wL mk rid (i'+1)) (fun id hp nu=>by
     obtain⟨h3,h4⟩:=nu.parts hi
     have:=hp aev h3
     rw[h4]at this
     exact Nat.lt_irrefl _ this) up (fun _ h3=>by
      have:=((GS (rid:=rid) (i:=i')).parts hi).2
      rw[this];exact Nat.lt_succ_self _) j1 Tl om
    unfold Oper.wp
    rw[dx]
    exact ih eJ Z' ψ' _ w' hl hx j'
   split at hx
   ·rename_i x DK
    simp only[List.map_cons,wpOps,ho,hw,if_true]
    refine .inl ?_
    have EW:o.op=.next x false:=by
     unfold uG at DK
     split at DK
     ·rename_i EW;cases DK;exact EW
     ·cases DK
    have YE:aw Z ψ iB.heap.get w (ρ iB.tmps x) (a.eval x):=qY (by rw[h1,h2];exact j.tr) x
    have g1:Good Z ψ iB.heap.get w w0.heap.size O:=by rw[h2];exact j.ok.dW
    obtain⟨v,h',V,w',dx,nx,hr,TN,WW,qn⟩:=JK (P:=P) (N:=fun _=>False) (ty:=o.type) g1 YE hx
    have Pz:(execOp a.eval o).run P w=.ok (.value V) w':=by
     obtain⟨dst,op,type,pos,after,guard⟩:=o
     simp only at EW
     subst EW
     simp only at dx
     simp[execOp,dx]
    unfold Oper.wp
    rw[Pz]
    refine ih _ Z ψ _ w' hl TN ?_
    rw[hY,dh]
    have j1:J (wL mk rid i') n Z0 w0 O ψ0 Z ψ (look iB.tmps) iB.heap.get a w:=by rw[h1,h2];exact j
    refine⟨j1.ok.next (fun id h=>h.elim) nx,(j1.tr.next g1 nx (fun d=>(j1.tm d).imp fun _ _ h=>h)).put Tl hr,fun d=>?_,fun k ty cs hb=>(j1.hm k ty cs (qn k ty cs hb)).imp up⟩
    cases kQ:o.dst with
    |none=>exact(j1.tm d).imp up
    |some d0 =>
     simp only[iZ,ed]
     split
     ·exact WW _
     ·exact(j1.tm d).imp up
   split at hx
   ·rename_i x want ZC
    obtain⟨op,t,v,t',et,EW,ht,rfl,qZ⟩:=JN ZC
    simp only[List.map_cons,wpOps,ho,hw,if_true]
    refine .inl ?_
    have YE:aw Z ψ iB.heap.get w (ρ iB.tmps x) (a.eval x):=qY (by rw[h1,h2];exact j.tr) x
    have g1:Good Z ψ iB.heap.get w w0.heap.size O:=by rw[h2];exact j.ok.dW
    obtain⟨c,dx,TN⟩:=Px (P:=P) g1 x (.const (.slice none 0 0)) YE ht qZ hx
    have Pz:(execOp a.eval o).run P w=.ok (.value (.bool c)) w:=by
     obtain⟨dst,op',type,pos,after,guard⟩:=o
     simp only at EW
     subst EW
     have e1:a.eval (.const (.slice none 0 0))=.slice none 0 0:=rfl
     simp[execOp,e1,dx.1,dx.2]
    unfold Oper.wp
    rw[Pz]
    refine ih _ Z ψ _ w hl TN ?_
    rw[hY,dh]
    have j1:J (wL mk rid i') n Z0 w0 O ψ0 Z ψ (look iB.tmps) iB.heap.get a w:=by rw[h1,h2];exact j
    refine⟨j1.ok,j1.tr.put Tl (by simp only[aw]),fun d=>?_,fun k ty cs hb=>(j1.hm k ty cs hb).imp up⟩
    cases kQ:o.dst with
    |none=>exact(j1.tm d).imp up
    |some d0 =>
     simp only[iZ,ed]
     split
     ·simp only[aJ]
     ·exact(j1.tm d).imp up
   rw[lu]at hx
   obtain⟨e,he,hx⟩:=Option.bind_eq_some_iff.1 hx
   split at hx
   ·rename_i mz
    simp only[List.map_cons,wpOps,ho,hw,if_true]
    refine .inl ?_
    have hh:iB.heap.get=st.heap.get:=by rw[h2]
    have om:aJ (wL mk rid (i'+1)) e.v∧ta (wL mk rid (i'+1)) (e.hp st.heap.get):=by
     cases MY:mk with
     |false =>
      have ht:wL false rid (i'+1)=fun _=>True:=funext fun id=>propext ⟨fun _=>trivial,fun _ h=>by cases h⟩
      rw[ht];exact⟨aJ.top _,fun _ _ cs _=>aC.top cs⟩
     |true =>
      have TS:ta (mB rid fun k=>k<i') st.heap.get:=fun id ty cs hb=>(j.hm id ty cs hb).imp fun id h1=>h1 MY
      have h3:=AU (hh:=iB.heap) TS (fun k hk=>C1 hk) mz
      have hS:∀k,(k<i'∨k=i')→k<i'+1:=fun k hk=>by omega
      exact⟨h3.1.imp fun id h1 _ h2=>hS _ (h1 h2),fun id ty cs hb=>(h3.2 id ty cs hb).imp fun id h1 _ h2=>hS _ (h1 h2)⟩
    refine J.op E (p:=wL mk rid i') (p':=wL mk rid (i'+1)) (rid:=rid) (i:=i') (s:=iB.tmps) (fun hm id hp nu => ?_) j Tl (fun x _=>qY (by rw[h1];exact j.tr) x) (fun x _=>MX (by rw[h1];exact j.tm) x) (fun id o hg=>by rw[hh]at hg;exact hg) he (fun _ _ _=>hh) up om.1 om.2 fun a' w' Z' ψ' j' => ?_
    ·cases MY:mk with
     |false=>rw[Py MY i' o ho]at hm;cases hm
     |true =>
      obtain⟨h3,h4⟩:=nu.parts hi
      have:=hp MY h3
      rw[h4]at this
      exact Nat.lt_irrefl _ this
    refine ih _ Z' ψ' a' w' hl hx ?_
    rw[hY,dh]
    have j2:J (wL mk rid (i'+1)) n Z0 w0 O ψ0 Z' ψ' (iZ (look iB.tmps) o.dst e.v) (bI.heap e iB.heap).get a' w':=by rw[bI.GU,h1,h2];exact j'
    exact j2
   ·cases hx
  have u4:∀iB:St,look iB.tmps=look st.tmps→iB.heap=st.heap→Region.wanted o (yielded ops a.tmps)=false →
    bD P Eqs Sg F rid false ops b l (iB.put o.dst (.ni [])) kk=some r→wpOps P ops Q (((i',o)::l).map Prod.fst) a w:=by
   intro iB h1 h2 hw hx
   simp only[List.map_cons,wpOps,ho,hw,Bool.false_eq_true,if_false]
   refine ih _ Z ψ _ w hl hx ?_
   rw[hY,dh,h1,h2]
   exact j.skip Tl up
  rw[bD]at hx
  simp only[Bool.false_eq_true,if_false]at hx
  split at hx
  ·rename_i hg
   exact runs st rfl rfl (by simp[Region.wanted,hg]) hx
  ·rename_i jj want hg
   split at hx
   ·cases hx
   ·rename_i d hd
    split at hx
    ·rename_i t ht
     have hw:=AS j.tr hg hd ht
     have hp:∀b,t=b→look (st.put (some d) (.bool b)).tmps=look st.tmps:=fun b hb=>by
      subst hb;rw[hY];exact DI ht
     cases t<;>simp only[cond_true,cond_false]at hx<;>split at hx<;>rename_i qZ
     ·exact u4 _ (hp false rfl) (dh _ _ _) (by rw[hw];simp[qZ]) hx
     ·exact runs _ (hp false rfl) (dh _ _ _) (by rw[hw];simp[qZ]) hx
     ·exact runs _ (hp true rfl) (dh _ _ _) (by rw[hw];simp[qZ]) hx
     ·exact u4 _ (hp true rfl) (dh _ _ _) (by rw[hw];simp[qZ]) hx
    ·rename_i vs ht
     exact u4 st rfl rfl (ym j.tr hg hd ht) hx
    ·cases hx
end Go.Vs
namespace Go.Vs
variable {P:Program} {Eqs:TypeId→Option K} {Sg:FuncId→Option aM} {F:(f:FuncId)→(g:aM)→g.A→Option g.B} {R:Type}
variable {Z Z' Z0:Nat→Prop} {ψ ψ' ψ0:Nat→Value} {h h':Hp} {w w' w0:World} {B0:Nat} {O N:Nat→Prop}
theorem kr(hp h:Heap)(i:Nat):∀(ft:List Nat),(fi ft hp h).get i=if i∈ft then(match hp.get i with|some o=>some o|none=>h.get i) else h.get i
 |[]=>by simp[fi]
 |j::r=>by
  have ih:=kr hp h i r
  unfold fi at ih ⊢
  cases hj:hp.get j with
  |none =>
   rw[List.filterMap_cons,hj]
   simp only[Option.map_none]
   rw[ih]
   by_cases e:i=j
   ·subst e;simp[hj]
   ·simp[e]
  |some o =>
   rw[List.filterMap_cons,hj]
   simp only[Option.map_some,List.cons_append,Heap.get]
   rw[ih]
   by_cases e:j=i
   ·subst e;simp[hj]
   ·have e':¬i=j:=fun h=>e h.symm
    simp[e,e']
mutual
theorem yn{ft:List Nat}:∀{v:AV},qK ft v=true→aJ (fun i=>i∉ft) v
 |.ref id _ _ _,h=>by simp only[aJ];simpa[qK] using h
 |.bH id,h=>by simp only[aJ];simpa[qK] using h
 |.fn _ cap,h=>by simp only[aJ];exact kt (by simpa only[qK] using h)
 |.agg cs,h=>by simp only[aJ];exact kt (by simpa only[qK] using h)
 |.ni vs,h=>by simp only[aJ];exact kt (by simpa only[qK] using h)
 |.no,_=>by simp only[aJ]
 |.bool _,_=>by simp only[aJ]
 |.int _ _,_=>by simp only[aJ]
 |.str _,_=>by simp only[aJ]
 |.kY,_=>by simp only[aJ]
 |.fW,_=>by simp only[aJ]
 |.fp _ _ _,_=>by simp only[aJ]
 |.sl _ _ _,_=>by simp only[aJ]
 |.mp _ _ _,_=>by simp only[aJ]
theorem kt{ft:List Nat}:∀{l:List AV},tF ft l=true→aC (fun i=>i∉ft) l
 |[],_=>by simp only[aC]
 |v::r,h=>by
  simp only[tF,Bool.and_eq_true]at h
  simp only[aC]
  exact⟨yn h.1,kt h.2⟩
end
theorem ku{ft:List Nat}:∀{hh:Heap},tG ft hh=true→∀i o,hh.get i=some o→i∉ft∧∀ty cs,o=.box ty cs→aC (fun i=>i∉ft) cs
 |[],_,i,o,h=>by simp[Heap.get]at h
 |(j,.box ty cs)::r,hc,i,o,h=>by
  simp only[tG,Bool.and_eq_true]at hc
  simp only[Heap.get]at h
  split at h
  ·rename_i e;subst e;cases h
   exact⟨by simpa using hc.1,fun ty cs e=>by cases e;exact kt hc.2.1⟩
  ·exact ku hc.2.2 i o h
 |(j,.own ok x)::r,hc,i,o,h=>by
  simp only[tG,Bool.and_eq_true]at hc
  simp only[Heap.get]at h
  split at h
  ·rename_i e;subst e;cases h
   exact⟨by simpa using hc.1,fun ty cs e=>by cases e⟩
  ·exact ku hc.2 i o h
theorem Next.frame{hp h1:Heap}{ft:List Nat}(g:Good Z ψ hp.get w B0 O)(hB:B0≤w.heap.size)(bu:∀i ty cs,hp.get i=some (.box ty cs)→aC (fun i=>¬N i) cs)
  (n:Next Z ψ (gX hp ft).get w w.heap.size (Own ψ (gX hp ft).get) N Z' ψ' h1.get w') (hc:tG ft h1=true) :
  ∃dX,Next Z ψ hp.get w B0 O N Z' dX (fi ft hp h1).get w'∧∀i,i∉ft→dX i=ψ' i:=by
 classical
 have gd:∀i,(gX hp ft).get i=if i∈ft then none else hp.get i:=fun i=>od ft hp i
 have bB:∀b,Own ψ (gX hp ft).get b→Own ψ hp.get b:=fun b ⟨i,h1,h2⟩=>⟨i,by rw[gd]at h1;split at h1;exact absurd rfl h1;exact h1,h2⟩
 have qT:∀i,i∈ft→h1.get i=none:=fun i hi=>by
  cases e:h1.get i with
  |none=>rfl
  |some o=>exact absurd hi (ku hc i o e).1
 have gf:∀i,(fi ft hp h1).get i=if i∈ft then hp.get i else h1.get i:=fun i=>by
  rw[kr]
  by_cases hi:i∈ft
  ·rw[if_pos hi,if_pos hi,qT i hi];cases hp.get i<;>rfl
  ·rw[if_neg hi,if_neg hi]
 let dX:Nat→Value:=fun i=>if i∈ft then ψ i else ψ' i
 have p1:∀i,i∈ft→dX i=ψ i:=fun i hi=>if_pos hi
 have p2:∀i,i∉ft→dX i=ψ' i:=fun i hi=>if_neg hi
 have apart:∀i b,i∈ft→hp.get i≠none→ob (ψ i)=some b→¬Own ψ (gX hp ft).get b:=fun i b hi h2 h3 ⟨j,h4,h5⟩=>by
  rw[gd]at h4
  split at h4
  ·exact h4 rfl
  ·rename_i hj
   have:=g.apart i j b h2 h4 h3 h5
   subst this;exact hj hi
 have cS:∀i b,i∈ft→hp.get i≠none→ob (ψ i)=some b→w'.heap[b]? = w.heap[b]? := fun i b hi h2 h3 =>
  n.keep.block b (g.bP ⟨i,h2,h3⟩) (apart i b hi h2 h3)
 have keep:db ψ hp.get w w':=⟨n.keep.os,n.keep.tape,n.keep.output,n.keep.size,fun b hb hn=>n.keep.block b hb fun ho=>hn (bB b ho)⟩
 have sm:ct Z w w':=keep.same g
 have ids:∀i,(fi ft hp h1).get i≠none→(hp.get i≠none∧dX i=ψ i)∨N i:=fun i hi=>by
  rw[gf]at hi
  by_cases hf:i∈ft
  ·rw[if_pos hf]at hi;exact .inl ⟨hi,p1 i hf⟩
  ·rw[if_neg hf]at hi
   rcases n.ids i hi with⟨h2,h3⟩|h2
   ·rw[gd,if_neg hf]at h2
    exact .inl ⟨h2,(p2 i hf).trans h3⟩
   ·exact .inr h2
 have nz:∀i b,i∈ft→hp.get i≠none→ob (ψ i)=some b→¬Z' b:=fun i b hi h2 h3 hz=>by
  rcases n.eL b hz with h4|h4|h4
  ·exact(g.live i b h2 h3).1 h4
  ·exact apart i b hi h2 h3 h4
  ·have:=g.bP ⟨i,h2,h3⟩;omega
 refine⟨dX,⟨n.fP,fun b hb=>(n.eL b hb).imp (fun h=>h) (fun h=>h.imp (bB b) fun h=>h),keep,ids,⟨fun i ty cs hb=>?_,fun i ok x hb=>?_,fun i b h2 h3=>?_,fun i j b h2 h3 h4 h5=>?_,n.dW.jP⟩⟩,p2⟩
 ·rw[gf]at hb
  by_cases hf:i∈ft
  ·rw[if_pos hf]at hb
   obtain⟨gg,vs,e1,e2,e3,e4⟩:=g.box i ty cs hb
   refine⟨gg,vs,by rw[p1 i hf,e1],(cS i gg hf (by rw[hb];simp) (by rw[e1];rfl)).trans e2,e3.move n.fP sm (fun j hj br=>(ids j br).resolve_right hj) (bu i ty cs hb),e4⟩
  ·rw[if_neg hf]at hb
   obtain⟨gg,vs,e1,e2,e3,e4⟩:=n.dW.box i ty cs hb
   refine⟨gg,vs,by rw[p2 i hf,e1],e2,e3.move (fun _ h=>h) (ct.refl _ _) (fun j hj br=>?_) ((ku hc i _ hb).2 ty cs rfl),e4⟩
   rw[gf,if_neg hj]at br
   exact⟨br,p2 j hj⟩
 ·rw[gf]at hb
  by_cases hf:i∈ft
  ·rw[if_pos hf]at hb
   rw[p1 i hf]
   exact(g.row i ok x hb).kept n.fP sm (fun b jI=>cS i b hf (by rw[hb];simp) jI)
  ·rw[if_neg hf]at hb
   rw[p2 i hf]
   exact n.dW.row i ok x hb
 ·rw[gf]at h2
  by_cases hf:i∈ft
  ·rw[if_pos hf]at h2
   rw[p1 i hf]at h3
   exact⟨nz i b hf h2 h3,(g.live i b h2 h3).2⟩
  ·rw[if_neg hf]at h2
   rw[p2 i hf]at h3
   obtain⟨h4,h5⟩:=n.dW.live i b h2 h3
   refine⟨h4,h5.elim (fun h=>.inl (Nat.le_trans hB h)) fun h=>?_⟩
   obtain⟨j,h6,h7⟩:=bB b h
   exact(g.live j b h6 h7).2
 ·have mixed:∀i j b,i∈ft→j∉ft→(fi ft hp h1).get i≠none→(fi ft hp h1).get j≠none→ob (dX i)=some b→ob (dX j)=some b→False:=fun i j b hi hj h2 h3 h4 h5=>by
   rw[gf,if_pos hi]at h2
   rw[gf,if_neg hj]at h3
   rw[p1 i hi]at h4
   rw[p2 j hj]at h5
   rcases (n.dW.live j b h3 h5).2 with h6|h6
   ·have:=g.bP ⟨i,h2,h4⟩;omega
   ·exact apart i b hi h2 h4 h6
  by_cases hi:i∈ft<;>by_cases hj:j∈ft
  ·rw[gf,if_pos hi]at h2
   rw[gf,if_pos hj]at h3
   rw[p1 i hi]at h4
   rw[p1 j hj]at h5
   exact g.apart i j b h2 h3 h4 h5
  ·exact(mixed i j b hi hj h2 h3 h4 h5).elim
  ·exact(mixed j i b hj hi h3 h2 h5 h4).elim
  ·rw[gf,if_neg hi]at h2
   rw[gf,if_neg hj]at h3
   rw[p2 i hi]at h4
   rw[p2 j hj]at h5
   exact n.dW.apart i j b h2 h3 h4 h5
theorem J.opF(E:Env P Eqs Sg F){rid n i:Nat}{p:Nat→Prop}{T:Nat→AV}{a:Act}{s:List (Nat×AV)}{o:Oper}(hS:makes o.op=true→∀id,p id→¬Of rid i id){hp h1:Heap}{v:AV}{ft:List Nat}(j:J p n Z0 w0 O ψ0 Z ψ T hp.get a w)(hd:iq n o=true)
  (hT:∀x∈o.op.operands,aw Z ψ hp.get w (ρ s x) (a.eval x)) (hTm:∀x∈o.op.operands,aJ p (ρ s x)) (he:cU P Eqs Sg F (opId rid i) (gX hp ft) s o some=some (.wr v h1)) (hc:nm ft (.wr v h1)=true)
  {p':Nat→Prop} (Ol:∀k,p k→p' k) (hv:aJ p' v) (Xg:ta p' (fi ft hp h1).get) {next:Act→World→Prop} {Q:Exit→Act→World→Prop}
  (hk:∀a' w' Z' ψ',J p' n Z0 w0 O ψ0 Z' ψ' (iZ T o.dst v) (fi ft hp h1).get a' w'→next a' w'):o.wp P a w next Q:=by
 have Xh:∀id,p id→¬(makes o.op=true∧Of rid i id):=fun id h ⟨h1,h2⟩=>hS h1 id h h2
 simp only[nm,Bool.and_eq_true]at hc
 have bB:∀id o,(gX hp ft).get id=some o→hp.get id=some o:=fun id o h=>by rw[od]at h;split at h;cases h;exact h
 have br:∀id,(gX hp ft).get id≠none→hp.get id≠none:=fun id h=>by
  obtain⟨o,ho⟩:=Option.ne_none_iff_exists'.1 h
  rw[bB id o ho];simp
 have bu:∀i' ty cs,hp.get i'=some (.box ty cs)→aC (fun id=>¬(makes o.op=true∧Of rid i id)) cs:=fun id ty cs hb=>(j.hm id ty cs hb).imp Xh
 have gs:Good Z ψ (gX hp ft).get w w.heap.size (Own ψ (gX hp ft).get):=(j.ok.dW.sub bB).ES _
 refine VD (N:=fun id=>makes o.op=true∧Of rid i id) E gs (Nat.le_refl _) (fun _ _ h=>h) (id:=opId rid i) (fun hm k hk=>⟨hm,K6 hk⟩) (fun x hx=>(hT x hx).qo bB) (fun x hx=>(hTm x hx).imp Xh) (fun id ty cs hb=>bu id ty cs (bB _ _ hb)) (fun _ _ _=>rfl) he fun V w' Z' ψ' nx hr=>?_
 obtain⟨dX,n2,h2⟩:=Next.frame j.ok.dW j.ok.size bu nx hc.2
 have VG:aw Z' dX (fi ft hp h1).get w' v V:=hr.move (p:=fun i=>i∉ft) (fun _ h=>h) (ct.refl _ _) (fun k hk br=>by
  rw[kr,if_neg hk]at br
  exact⟨br,h2 k hk⟩) (yn hc.1)
 refine hk _ w' Z' dX ⟨j.ok.next (fun id h=>by have:=h.2;unfold Of at this;omega) n2,(j.tr.next j.ok.dW n2 (fun d=>(j.tm d).imp Xh)).put hd VG,fun d=>?_,Xg⟩
 cases kQ:o.dst with
 |none=>exact(j.tm d).imp Ol
 |some d0 =>
  simp only[iZ,ed]
  split
  ·exact hv
  ·exact(j.tm d).imp Ol
end Go.Vs
namespace Go.Vs
variable {P:Program} {Eqs:TypeId→Option K} {Sg:FuncId→Option aM} {F:(f:FuncId)→(g:aM)→g.A→Option g.B} {R:Type}
variable {Z Z' Z0:Nat→Prop} {ψ ψ':Nat→Value} {h h':Hp} {w w' w0:World} {B0:Nat} {O N:Nat→Prop}
variable {rid n:Nat} {ops:Array Oper} {b:Array Nat}
def r9(b:Array Nat)(i j:Nat):Prop:=(b.getD i 0).testBit j=true
theorem DL(b:Array Nat)(j:Nat):∀(l:List Edge) (s:Nat),(l.foldl (fun s e=>if Region.binds .any e then s ||| 2 ^ e.on ||| b.getD e.on 0 else s) s).testBit j=true ↔
  s.testBit j=true∨∃e∈l,Region.binds .any e=true∧(j=e.on∨r9 b e.on j)
 |[],s=>by simp
 |e::l,s=>by
  rw[List.foldl_cons,DL b j l]
  by_cases hb:Region.binds .any e=true
  ·rw[if_pos hb]
   have h2:(2 ^ e.on).testBit j=true↔j=e.on:=by rw[Nat.testBit_two_pow];simp[eq_comm]
   simp only[Nat.testBit_or,Bool.or_eq_true,h2,List.mem_cons,exists_eq_or_imp,hb,true_and,r9]
   constructor
   ·rintro(((h|h)|h)|h)
    ·exact .inl h
    ·exact .inr (.inl (.inl h))
    ·exact .inr (.inl (.inr h))
    ·exact .inr (.inr h)
   ·rintro(h|(h|h)|h)
    ·exact .inl (.inl (.inl h))
    ·exact .inl (.inl (.inr h))
    ·exact .inl (.inr h)
    ·exact .inr h
  ·rw[if_neg hb]
   simp[hb]
theorem zu(hb:uD ops b=true){i j:Nat}{o:Oper}(ho:ops[i]? = some o):r9 b i j↔∃e∈o.after.toList,Region.binds .any e=true∧(j=e.on∨r9 b e.on j):=by
 have aF:=(Array.getElem?_eq_some_iff.1 ho).1
 have h1:=List.all_eq_true.1 hb i (List.mem_range.2 aF)
 rw[ho]at h1
 simp only[Bool.and_eq_true,beq_iff_eq]at h1
 unfold r9
 rw[h1.2,DL]
 simp[r9]
theorem JO(hb:uD ops b=true){i:Nat}{o:Oper}(ho:ops[i]? = some o){e:Edge}(he:e∈o.after.toList)(ML:Region.binds .any e=true):e.on<i:=by
 have aF:=(Array.getElem?_eq_some_iff.1 ho).1
 have h1:=List.all_eq_true.1 hb i (List.mem_range.2 aF)
 rw[ho]at h1
 simp only[Bool.and_eq_true]at h1
 have:=List.all_eq_true.1 h1.1 e he
 simpa[ML] using this
theorem AW(hb:uD ops b=true):∀(i j:Nat),i<ops.size→r9 b i j→j<i:=by
 intro i
 induction i using Nat.strongRecOn with
 |ind i ih =>
  intro j hi h
  obtain⟨e,he,ML,h1⟩:=(zu hb (Array.getElem?_eq_getElem hi)).1 h
  have Xk:=JO hb (Array.getElem?_eq_getElem hi) he ML
  rcases h1 with rfl|h1
  ·exact Xk
  ·exact Nat.lt_trans (ih e.on Xk j (by omega) h1) Xk
theorem DM(hb:uD ops b=true):∀(i j k:Nat),i<ops.size→r9 b i j→r9 b j k→r9 b i k:=by
 intro i
 induction i using Nat.strongRecOn with
 |ind i ih =>
  intro j k hi h h'
  obtain⟨e,he,ML,h1⟩:=(zu hb (Array.getElem?_eq_getElem hi)).1 h
  have Xk:=JO hb (Array.getElem?_eq_getElem hi) he ML
  refine(zu hb (Array.getElem?_eq_getElem hi)).2 ⟨e,he,ML,?_⟩
  rcases h1 with rfl|h1
  ·exact .inr h'
  ·exact .inr (ih e.on Xk j k (by omega) h1 h')
theorem get_filter(f:Nat→Bool):∀(hh:Heap) (i:Nat),Heap.get (hh.filter fun p=>f p.1) i=if f i then hh.get i else none
 |[],i=>by simp[Heap.get]
 |(j,o)::r,i=>by
  rw[List.filter_cons]
  split
  ·rename_i hj
   simp only[Heap.get]
   by_cases e:j=i
   ·subst e;simp only at hj;simp[hj]
   ·simp only[if_neg e];exact get_filter f r i
  ·rename_i hj
   rw[get_filter f r i]
   simp only[Heap.get]
   by_cases e:j=i
   ·subst e;simp only at hj;simp[hj]
   ·simp only[if_neg e]
theorem MZ(rid Jf:Nat)(hh:Heap)(id:Nat):(ahead rid Jf hh).get id=if qJ rid Jf id then hh.get id else none:=by
 unfold ahead
 exact get_filter (fun i=>qJ rid Jf i) hh id
theorem PA(ft:List Nat)(hp:Heap)(e:bI):(gR ft hp e).v=e.v:=by cases e<;>rfl
theorem GY{id:Nat}{hh:Heap}{s:List (Nat×AV)}{o:Oper}{x:Operand}{e:bI}(hl:jl o.op=some x)(he:cU P Eqs Sg F id hh s o some=some e):∃v,e=.val v:=by
 obtain⟨dst,op,type,pos,after,guard⟩:=o
 cases op<;>simp only[jl]at hl<;>first|(cases hl;done)|skip
 case load t a =>
  simp only[cU,lK]at he
  repeat' (first|(cases he;done)|exact⟨_,(Option.some.inj he).symm⟩|split at he)
  all_goals
   obtain⟨y,_,he⟩:=Option.bind_eq_some_iff.1 he
   split at he<;>first|(cases he;done)|exact⟨_,(Option.some.inj he).symm⟩
 case indexAddr t a i =>
  simp only[cU,dA]at he
  repeat' (first|(cases he;done)|exact⟨_,(Option.some.inj he).symm⟩|split at he)
  all_goals first
   |(obtain⟨y,_,he⟩:=Option.bind_eq_some_iff.1 he;exact⟨_,(Option.some.inj he).symm⟩)
   |(unfold cond at he;split at he<;>first|(cases he;done)|exact⟨_,(Option.some.inj he).symm⟩)
theorem DN{op:Op}{x:Operand}(hl:jl op=some x):nk op=false∧EC op=false:=by
 cases op<;>simp only[jl]at hl<;>first|(cases hl;done)|exact⟨rfl,rfl⟩
theorem JP{id:Nat}{hh h2:Heap}{s:List (Nat×AV)}{o:Oper}{x:Operand}(hl:jl o.op=some x)(hg:∀i∈uF (ρ s x),h2.get i=hh.get i):cU P Eqs Sg F id h2 s o some=cU P Eqs Sg F id hh s o some:=by
 obtain⟨dst,op,type,pos,after,guard⟩:=o
 cases op<;>simp only[jl]at hl<;>first|(cases hl;done)|skip
 case load t a =>
  cases hl
  simp only[cU,lK]
  cases hv:ρ s x with
  |ref i s' j off=>rw[hv]at hg;simp only[uF,List.mem_singleton,forall_eq]at hg;simp only[hg]
  |_=>rfl
 case indexAddr t a i =>
  cases hl
  simp only[cU,dA]
  cases xL P t with
  |none=>rfl
  |some e =>
   simp only[]
   cases hv:ρ s x with
   |bH k =>
    rw[hv]at hg
    have As:=hg k (by simp[uF])
    cases ρ s i<;>first|rfl|simp only[As]
   |sl ex k xs=>cases ρ s i<;>rfl
   |_=>rfl
def qf(ops:Array Oper)(T:Nat→AV)(o:Oper)(t:Bool):Prop :=
 match o.guard with
 |none=>t=true
 |some (j,want)=>∃d,(ops[j]?).bind (·.dst)=some d∧((∃u,T d=.bool u∧(u==want)=t)∨(∃vs,T d=.ni vs∧t=false))
def AX(P:Program)(Eqs:TypeId→Option K)(Sg:FuncId→Option aM)(F:(f:FuncId)→(g:aM)→g.A→Option g.B)(rid:Nat)(ops:Array Oper)(b:Array Nat)(T:Nat→Nat→AV)(H:Nat→Hp)(E:Nat→Option bI)(k:Nat)(o:Oper):Prop :=
 (∃e s hh,E k=some e∧look s=T k∧(∀id,Heap.get hh id=if qJ rid (b.getD k 0) id then H k id else none)∧(∃e0,cU P Eqs Sg F (opId rid k) (gX hh (gY ops b k s o)) s o some=some e0∧e=gR (gY ops b k s o) hh e0∧nm (gY ops b k s o) e0=true) ∧
  gQ true rid ops b k (b.getD k 0) e=true∧qf ops (T k) o true∧T (k+1)=iZ (T k) o.dst e.v∧H (k+1)=e.hp (H k)) ∨
 (E k=none∧qf ops (T k) o false∧T (k+1)=iZ (T k) o.dst (.ni [])∧H (k+1)=H k)
theorem trace{kk:St→Option R}{r:R}:∀(l:List (Nat×Oper)) (i:Nat) (st:St),AT ops i l→l.length=ops.size-i→bD P Eqs Sg F rid true ops b l st kk=some r →
  ∃(T:Nat→Nat→AV) (H:Nat→Hp) (E:Nat→Option bI),T i=look st.tmps∧H i=st.heap.get∧(∀k o,i≤k→ops[k]? = some o→AX P Eqs Sg F rid ops b T H E k o) ∧
   ∃eJ,kk eJ=some r∧look eJ.tmps=T (max i ops.size)∧eJ.heap.get=H (max i ops.size)
 |[],i,st,_,hlen,hx=>by
  have VA:ops.size≤i:=by simp at hlen;omega
  refine⟨fun _=>look st.tmps,fun _=>st.heap.get,fun _=>none,rfl,rfl,fun k o hk ho=>?_,st,hx,rfl,rfl⟩
  have:=(Array.getElem?_eq_some_iff.1 ho).1
  omega
 |(i',o)::l,i,st,hl,hlen,hx=>by
  obtain⟨rfl,ho,hl⟩:=hl
  have aF:=(Array.getElem?_eq_some_iff.1 ho).1
  have ih:=trace (kk:=kk) (r:=r) l (i'+1)
  have ZD:l.length=ops.size-(i'+1):=by simp at hlen;omega
  have glue:∀(eJ:St) (oe:Option bI),bD P Eqs Sg F rid true ops b l eJ kk=some r →
    (∀T H E,T i'=look st.tmps→H i'=st.heap.get→E i'=oe→T (i'+1)=look eJ.tmps→H (i'+1)=eJ.heap.get→AX P Eqs Sg F rid ops b T H E i' o) →
    ∃(T:Nat→Nat→AV) (H:Nat→Hp) (E:Nat→Option bI),T i'=look st.tmps∧H i'=st.heap.get∧(∀k o,i'≤k→ops[k]? = some o→AX P Eqs Sg F rid ops b T H E k o) ∧
     ∃eJ,kk eJ=some r∧look eJ.tmps=T (max i' ops.size)∧eJ.heap.get=H (max i' ops.size):=by
   intro eJ oe Zb uL
   obtain⟨T,H,E,h1,h2,h3,aew,h4,h5,h6⟩:=ih eJ hl ZD Zb
   refine⟨fun k=>if k≤i' then look st.tmps else T k,fun k=>if k≤i' then st.heap.get else H k,fun k=>if k=i' then oe else E k,by simp,by simp,fun k o' hk nu => ?_,aew,h4,?_,?_⟩
   ·by_cases hki:k=i'
    ·subst hki
     rw[ho]at nu
     cases nu
     exact uL _ _ _ (by simp) (by simp) (by simp) (by show(if k+1≤k then _ else _)=_;rw[if_neg (by omega)];exact h1) (by show(if k+1≤k then _ else _)=_;rw[if_neg (by omega)];exact h2)
    ·have h7:=h3 k o' (by omega) nu
     unfold AX at h7 ⊢
     simp only[show ¬k≤i' by omega,show ¬k+1≤i' by omega,hki,if_false]
     exact h7
   ·rw[h5];simp only[show max (i'+1) ops.size=ops.size by omega,show max i' ops.size=ops.size by omega,show ¬ops.size≤i' by omega,if_false]
   ·rw[h6];simp only[show max (i'+1) ops.size=ops.size by omega,show max i' ops.size=ops.size by omega,show ¬ops.size≤i' by omega,if_false]
  have runs:∀iB:St,look iB.tmps=look st.tmps→iB.heap=st.heap→qf ops (look st.tmps) o true →
    (cU P Eqs Sg F (opId rid i') (gX (ahead rid (b.getD i' 0) iB.heap) (gY ops b i' iB.tmps o)) iB.tmps o fun e=>if(gQ true rid ops b i' (b.getD i' 0) (gR (gY ops b i' iB.tmps o) (ahead rid (b.getD i' 0) iB.heap) e)&&nm (gY ops b i' iB.tmps o) e)=true then bD P Eqs Sg F rid true ops b l ({ iB with heap:=match gR (gY ops b i' iB.tmps o) (ahead rid (b.getD i' 0) iB.heap) e with | .wr _ h=>h|e=>e.h iB.heap }.put o.dst e.v) kk else none)=some r →
    ∃(T:Nat→Nat→AV) (H:Nat→Hp) (E:Nat→Option bI),T i'=look st.tmps∧H i'=st.heap.get∧(∀k o,i'≤k→ops[k]? = some o→AX P Eqs Sg F rid ops b T H E k o) ∧
     ∃eJ,kk eJ=some r∧look eJ.tmps=T (max i' ops.size)∧eJ.heap.get=H (max i' ops.size):=by
   intro iB h1 h2 hw hx
   rw[lu]at hx
   obtain⟨e,he,hx⟩:=Option.bind_eq_some_iff.1 hx
   split at hx
   ·rename_i mz
    rw[Bool.and_eq_true]at mz
    generalize zw:gR (gY ops b i' iB.tmps o) (ahead rid (b.getD i' 0) iB.heap) e=e1 at hx mz
    have uR:e.v=e1.v:=by rw[←zw];exact(PA _ _ _).symm
    refine glue _ (some e1) hx fun T H E hT hH hE hT' Xa => ?_
    refine .inl ⟨e1,iB.tmps,_,hE,by rw[hT,h1],fun id=>by rw[MZ,hH,h2],⟨e,he,zw.symm,mz.2⟩,mz.1,by rw[hT];exact hw,?_,?_⟩
    ·rw[hT',hY,hT,uR];simp only[h1]
    ·rw[Xa,dh,hH]
     have:(bI.heap e1 iB.heap).get=e1.hp st.heap.get:=by rw[bI.GU,h2]
     exact this
   ·cases hx
  have u4:∀iB:St,look iB.tmps=look st.tmps→iB.heap=st.heap→qf ops (look st.tmps) o false →
    bD P Eqs Sg F rid true ops b l (iB.put o.dst (.ni [])) kk=some r →
    ∃(T:Nat→Nat→AV) (H:Nat→Hp) (E:Nat→Option bI),T i'=look st.tmps∧H i'=st.heap.get∧(∀k o,i'≤k→ops[k]? = some o→AX P Eqs Sg F rid ops b T H E k o) ∧
     ∃eJ,kk eJ=some r∧look eJ.tmps=T (max i' ops.size)∧eJ.heap.get=H (max i' ops.size):=by
   intro iB h1 h2 hw hx
   refine glue _ none hx fun T H E hT hH hE hT' Xa=>.inr ⟨hE,by rw[hT];exact hw,?_,?_⟩
   ·rw[hT',hY,hT,h1]
   ·rw[Xa,dh,hH,h2]
  rw[bD]at hx
  simp only[if_true]at hx
  split at hx
  ·rename_i hg
   exact runs st rfl rfl (by simp[qf,hg]) hx
  ·rename_i jj want hg
   split at hx
   ·cases hx
   ·rename_i d hd
    split at hx
    ·rename_i t ht
     have hp:∀b,t=b→look (st.put (some d) (.bool b)).tmps=look st.tmps:=fun b hb=>by
      subst hb;rw[hY];exact DI ht
     have hw:∀c,(t==want)=c→qf ops (look st.tmps) o c:=fun c hc=>by
      unfold qf;rw[hg];exact⟨d,hd,.inl ⟨t,ht,hc⟩⟩
     cases t<;>simp only[cond_true,cond_false]at hx<;>split at hx<;>rename_i qZ
     ·exact u4 _ (hp false rfl) (dh _ _ _) (hw _ (by simp[qZ])) hx
     ·exact runs _ (hp false rfl) (dh _ _ _) (hw _ (by simp[qZ])) hx
     ·exact runs _ (hp true rfl) (dh _ _ _) (hw _ (by simp[qZ])) hx
     ·exact u4 _ (hp true rfl) (dh _ _ _) (hw _ (by simp[qZ])) hx
    ·rename_i vs ht
     exact u4 st rfl rfl (by unfold qf;rw[hg];exact⟨d,hd,.inr ⟨vs,ht,rfl⟩⟩) hx
    ·cases hx
def Nf(ops:Array Oper)(j:Nat):Prop:=∃o,ops[j]? = some o∧nk o.op=false∧jl o.op=none
def zx(E:Nat→Option bI)(k:Nat):Prop:=∃v h',E k=some (.wr v h')
def YG(E:Nat→Option bI)(k:Nat):Prop:=∃v os,E k=some (.new v os)
theorem u5{α:Type}(f:α→Option Nat):∀(l:List α),b7 (l.filterMap f)=true→∀(i j:Nat) (x y:α) (d:Nat),l[i]? = some x→l[j]? = some y→f x=some d→f y=some d→i=j
 |[],_,i,j,x,y,d,hi,_,_,_=>by simp at hi
 |a::r,hn,i,j,x,y,d,hi,hj,hx,hy=>by
  have gS:∀(k:Nat) (z:α),r[k]? = some z→f z=some d→d∈r.filterMap f:=fun k z hk hz=>List.mem_filterMap.2 ⟨z,List.mem_of_getElem? hk,hz⟩
  have hr:b7 (r.filterMap f)=true∧∀c,f a=some c→c∉r.filterMap f:=by
   rw[List.filterMap_cons]at hn
   split at hn
   ·rename_i h0;exact⟨hn,fun c hc=>by rw[h0]at hc;cases hc⟩
   ·rename_i c h0
    simp only[b7,Bool.and_eq_true,Bool.not_eq_true']at hn
    refine⟨hn.2,fun c' hc=>?_⟩
    rw[h0]at hc;cases hc
    intro hm
    rw[List.contains_iff_mem.2 hm]at hn;simp at hn
  cases i with
  |zero =>
   cases j with
   |zero=>rfl
   |succ j =>
    simp only[List.getElem?_cons_zero,Option.some.injEq]at hi;subst hi
    exact absurd (gS j y (by simpa using hj) hy) (hr.2 d hx)
  |succ i =>
   cases j with
   |zero =>
    simp only[List.getElem?_cons_zero,Option.some.injEq]at hj;subst hj
    exact absurd (gS i x (by simpa using hi) hx) (hr.2 d hy)
   |succ j=>rw[u5 f r hr.1 i j x y d (by simpa using hi) (by simpa using hj) hx hy]
structure Dr(P:Program)(Eqs:TypeId→Option K)(Sg:FuncId→Option aM)(F:(f:FuncId)→(g:aM)→g.A→Option g.B)(rid n:Nat)(ops:Array Oper)(b:Array Nat)(T:Nat→Nat→AV)(H:Nat→Hp)(E:Nat→Option bI):Prop where
 size:ops.size≤128
 Om:uD ops b=true
 pair:Ad ops b=true
 aey:∀(i:Nat) (o:Oper),ops[i]? = some o→iq n o=true
 nodup:b7 (ops.toList.filterMap (·.dst))=true
 step:∀k o,ops[k]? = some o→AX P Eqs Sg F rid ops b T H E k o
 aez:∀id,H 0 id≠none→id / 32768≠rid+1
section
variable {T:Nat→Nat→AV} {H:Nat→Hp} {E:Nat→Option bI}
theorem Dr.zy(D:Dr P Eqs Sg F rid n ops b T H E){i j:Nat}{x y:Oper}{d:Nat}(hi:ops[i]? = some x)(hj:ops[j]? = some y)(hx:x.dst=some d)(hy:y.dst=some d):i=j :=
 u5 (·.dst) ops.toList D.nodup i j x y d (by simpa using hi) (by simpa using hj) hx hy
theorem Dr.VH(D:Dr P Eqs Sg F rid n ops b T H E){i j:Nat}{x y:Oper}(hi:ops[i]? = some x)(hj:ops[j]? = some y)(zk:i<j):r9 b j i∨x.apart ops y=true:=by
 have h1:=List.all_eq_true.1 D.pair j (List.mem_range.2 (Array.getElem?_eq_some_iff.1 hj).1)
 have h2:=List.all_eq_true.1 h1 i (List.mem_range.2 zk)
 rw[hi,hj]at h2
 simp only[Bool.or_eq_true,Bool.and_eq_true]at h2
 exact h2
theorem Dr.T3(D:Dr P Eqs Sg F rid n ops b T H E){k:Nat}{o:Oper}(ho:ops[k]? = some o){e:bI}(he:E k=some e) :
  ∃s hh,look s=T k∧(∀id,Heap.get hh id=if qJ rid (b.getD k 0) id then H k id else none)∧(∃e0,cU P Eqs Sg F (opId rid k) (gX hh (gY ops b k s o)) s o some=some e0∧e=gR (gY ops b k s o) hh e0∧nm (gY ops b k s o) e0=true) ∧
   gQ true rid ops b k (b.getD k 0) e=true∧qf ops (T k) o true∧T (k+1)=iZ (T k) o.dst e.v∧H (k+1)=e.hp (H k):=by
 rcases D.step k o ho with⟨e',s,hh,h1,h2⟩|⟨h1,_⟩
 ·rw[he]at h1;cases h1;exact⟨s,hh,h2⟩
 ·rw[he]at h1;cases h1
theorem Dr.EY(D:Dr P Eqs Sg F rid n ops b T H E){k:Nat}{o:Oper}(ho:ops[k]? = some o)(he:E k=none) :
  qf ops (T k) o false∧T (k+1)=iZ (T k) o.dst (.ni [])∧H (k+1)=H k:=by
 rcases D.step k o ho with⟨e',s,hh,h1,h2⟩|⟨h1,h2⟩
 ·rw[he]at h1;cases h1
 ·exact h2
theorem Dr.wM(D:Dr P Eqs Sg F rid n ops b T H E){k:Nat}(hk:k<ops.size)(h:YG E k):Nf ops k:=by
 obtain⟨v,os,he⟩:=h
 obtain⟨s,hh,_,_,⟨e0,h3,Vw,_⟩,_⟩:=D.T3 (Array.getElem?_eq_getElem hk) he
 refine⟨_,Array.getElem?_eq_getElem hk,?_,?_⟩
 ·cases hf:nk (ops[k]).op with
  |false=>rfl
  |true=>obtain⟨v',rfl⟩:=GO hf h3;cases Vw
 ·cases hf:jl (ops[k]).op with
  |none=>rfl
  |some x=>obtain⟨v',rfl⟩:=GY hf h3;cases Vw
theorem Dr.PB(D:Dr P Eqs Sg F rid n ops b T H E){k:Nat}(hk:k<ops.size)(h:zx E k):Nf ops k:=by
 obtain⟨v,os,he⟩:=h
 obtain⟨s,hh,_,_,⟨e0,h3,Vw,_⟩,_⟩:=D.T3 (Array.getElem?_eq_getElem hk) he
 refine⟨_,Array.getElem?_eq_getElem hk,?_,?_⟩
 ·cases hf:nk (ops[k]).op with
  |false=>rfl
  |true=>obtain⟨v',rfl⟩:=GO hf h3;cases Vw
 ·cases hf:jl (ops[k]).op with
  |none=>rfl
  |some x=>obtain⟨v',rfl⟩:=GY hf h3;cases Vw
theorem Dr.AY(D:Dr P Eqs Sg F rid n ops b T H E){k j:Nat}(hk:k<ops.size)(h:zx E k)(hj:Nf ops j)(br:j≠k):(j<k∧r9 b k j)∨(k<j∧r9 b j k):=by
 obtain⟨v,os,he⟩:=h
 obtain⟨s,hh,_,_,_,h4,_⟩:=D.T3 (Array.getElem?_eq_getElem hk) he
 obtain⟨o,ho,hf,Tf⟩:=hj
 have I4:=(Array.getElem?_eq_some_iff.1 ho).1
 simp only[gQ,Bool.and_eq_true]at h4
 have h5:Je ops b k=true:=by simpa using h4.1.1
 have h6:=List.all_eq_true.1 h5 j (List.mem_range.2 I4)
 have hlf:uE ops k j=false:=by unfold uE;rw[ho];simp only[Option.bind_some,Tf]
 rw[hlf,Bool.and_false,ho]at h6
 simp only[Bool.or_eq_true,beq_iff_eq,hf,Bool.false_eq_true,or_false]at h6
 rcases h6 with(h6|h6)|h6
 ·exact absurd h6 br
 ·exact .inr ⟨AW D.Om j k I4 h6,h6⟩
 ·exact .inl ⟨AW D.Om k j hk h6,h6⟩
theorem Dr.AZ(D:Dr P Eqs Sg F rid n ops b T H E){p:Nat}:∀(q:Nat),p≤q→q≤ops.size→∀id,(∀k,p≤k→k<q→zx E k→H (k+1) id=H k id)→(∀k,p≤k→k<q→YG E k→¬Of rid k id)→H q id=H p id:=by
 intro q
 induction q with
 |zero=>intro AA _ id _ _;rw[Nat.le_zero.1 AA]
 |succ q ih =>
  intro AA hq id hw bO
  by_cases he:p=q+1
  ·rw[he]
  ·have h1:=ih (by omega) (by omega) id (fun k h1 h2=>hw k h1 (by omega)) (fun k h1 h2=>bO k h1 (by omega))
   rw[←h1]
   have ho:=Array.getElem?_eq_getElem (show q<ops.size by omega)
   cases hE:E q with
   |none=>rw[(D.EY ho hE).2.2]
   |some e =>
    obtain⟨s,hh,_,_,_,h4,_,_,h7⟩:=D.T3 ho hE
    cases e with
    |val v=>rw[h7];rfl
    |wr v h'=>exact hw q (by omega) (by omega) ⟨v,h',hE⟩
    |new v os =>
     rw[h7]
     simp only[bI.hp]
     cases Oi:Heap.get os id with
     |none=>rfl
     |some o' =>
      exfalso
      simp only[gQ,Bool.and_eq_true]at h4
      refine bO q (by omega) (by omega) ⟨v,os,hE⟩ ?_
      have:∀(l:Heap),(l.all fun p=>p.1 / 256==(rid+1)*128+q)=true→∀o',l.get id=some o'→Of rid q id:=by
       intro l
       induction l with
       |nil=>intro _ o' h;simp[Heap.get]at h
       |cons a r ihl =>
        intro eV o' hg
        simp only[List.all_cons,Bool.and_eq_true,beq_iff_eq]at eV
        simp only[Heap.get]at hg
        split at hg
        ·rename_i e;rw[←e];exact eV.1
        ·exact ihl eV.2 o' hg
      exact this os h4.1.2 o' Oi
theorem Dr.zz(D:Dr P Eqs Sg F rid n ops b T H E){p:Nat}(q:Nat)(AA:p≤q)(hq:q≤ops.size)(hw:∀k,p≤k→k<q→¬zx E k)(id:Nat)(hn:∀k,p≤k→k<q→YG E k→¬Of rid k id):H q id=H p id :=
 D.AZ q AA hq id (fun k h1 h2 h3=>absurd h3 (hw k h1 h2)) hn
theorem Dr.names(D:Dr P Eqs Sg F rid n ops b T H E):∀(k:Nat),k≤ops.size→∀id,H k id≠none→id / 32768=rid+1→∃j,Of rid j id∧j<k∧j<128∧(YG E j∨∃w,w<k∧zx E w∧(j=w∨r9 b w j)):=by
 intro k
 induction k with
 |zero=>intro _ id h1 h2;exact absurd h2 (D.aez id h1)
 |succ k ih =>
  intro hk id h1 h2
  have aF:k<ops.size:=by omega
  have up:H k id≠none→∃j,Of rid j id∧j<k+1∧j<128∧(YG E j∨∃w,w<k+1∧zx E w∧(j=w∨r9 b w j)):=fun h=>by
   obtain⟨j,h3,h4,h4',h5⟩:=ih (by omega) id h h2
   exact⟨j,h3,by omega,h4',h5.imp (fun h=>h) fun⟨w,h6,h7⟩=>⟨w,by omega,h7⟩⟩
  have ho:=Array.getElem?_eq_getElem aF
  have PC:=D.size
  cases hE:E k with
  |none=>rw[(D.EY ho hE).2.2]at h1;exact up h1
  |some e =>
   obtain⟨s,hh,_,_,_,h4,_,_,h7⟩:=D.T3 ho hE
   rw[h7]at h1
   cases e with
   |val v=>exact up h1
   |wr v h' =>
    obtain⟨o',nu⟩:=Option.ne_none_iff_exists'.1 h1
    simp only[gQ,Bool.and_eq_true]at h4
    have h5:(b.getD k 0 ||| 2 ^ k).testBit (id / 256%128)=true:=(lY (S:=fun j=>(b.getD k 0 ||| 2 ^ k).testBit j=true) (fun j hj=>hj) h4.2 id o' nu).1 h2
    rw[Nat.testBit_or,Bool.or_eq_true,Nat.testBit_two_pow]at h5
    refine⟨id / 256%128,Of.of h2 rfl,?_,by omega,.inr ⟨k,by omega,⟨v,h',hE⟩,?_⟩⟩
    ·rcases h5 with h5|h5
     ·have:=AW D.Om k _ aF h5;omega
     ·have:=of_decide_eq_true h5;omega
    ·rcases h5 with h5|h5
     ·exact .inr h5
     ·exact .inl (of_decide_eq_true h5).symm
   |new v os =>
    simp only[bI.hp]at h1
    cases Oi:Heap.get os id with
    |none=>rw[Oi]at h1;exact up h1
    |some o' =>
     simp only[gQ,Bool.and_eq_true]at h4
     have:∀(l:Heap),(l.all fun p=>p.1 / 256==(rid+1)*128+k)=true→∀o',l.get id=some o'→Of rid k id:=by
      intro l
      induction l with
      |nil=>intro _ o' h;simp[Heap.get]at h
      |cons a r ihl =>
       intro eV o' hg
       simp only[List.all_cons,Bool.and_eq_true,beq_iff_eq]at eV
       simp only[Heap.get]at hg
       split at hg
       ·rename_i e;rw[←e];exact eV.1
       ·exact ihl eV.2 o' hg
     exact⟨k,this os h4.1.2 o' Oi,by omega,by omega,.inl ⟨v,os,hE⟩⟩
theorem Dr.Xl(D:Dr P Eqs Sg F rid n ops b T H E){q:Nat}(nF:q<ops.size)(T4:zx E q):∀id,H q id≠none→mB rid (r9 b q) id:=fun id br PD=>by
 obtain⟨j,h1,h2,h2',h3⟩:=D.names q (by omega) id br PD
 rw[(h1.parts h2').2]
 rcases h3 with h3|⟨w',h5,h6,h8⟩
 ·rcases D.AY nF T4 (D.wM (by omega) h3) (by omega) with⟨_,h9⟩|⟨h9,_⟩
  ·exact h9
  ·omega
 ·have ZE:r9 b q w':=by
   rcases D.AY nF T4 (D.PB (by omega) h6) (by omega) with⟨_,h9⟩|⟨h9,_⟩
   ·exact h9
   ·omega
  rcases h8 with rfl|h8
  ·exact ZE
  ·exact DM D.Om q w' j nF ZE h8
theorem Dr.wN(D:Dr P Eqs Sg F rid n ops b T H E){d p:Nat}:∀(q:Nat),p≤q→q≤ops.size→(∀m o,p≤m→m<q→ops[m]? = some o→o.dst≠some d)→T q d=T p d
 |0,h,_,_=>by rw[Nat.le_zero.1 h]
 |q+1,h,hq,hm=>by
  by_cases e:p=q+1
  ·rw[e]
  ·have ho:=Array.getElem?_eq_getElem (show q<ops.size by omega)
   have ih:=D.wN q (by omega) (by omega) fun m o h1 h2=>hm m o h1 (by omega)
   rw[←ih]
   have hd:=hm q _ (by omega) (by omega) ho
   have key:∀v,iZ (T q) (ops[q]).dst v d=T q d:=fun v=>by
    cases kQ:(ops[q]).dst with
    |none=>rfl
    |some d' =>
     simp only[iZ,ed]
     rw[if_neg]
     rintro rfl
     exact hd kQ
   rcases D.step q _ ho with⟨e,s,hh,_,_,_,_,_,_,h7,_⟩|⟨_,_,h3,_⟩
   ·rw[h7,key]
   ·rw[h3,key]
theorem Dr.steady(D:Dr P Eqs Sg F rid n ops b T H E){i k:Nat}{o:Oper}{x:Operand}(ho:ops[i]? = some o)(hl:jl o.op=some x)(hk:k<ops.size)(hw:zx E k)(br:i≠k)(h1:¬r9 b i k)(h2:¬r9 b k i)
  {s:List (Nat×AV)} (hs:look s=T i) {id:Nat} (bO:id∈uF (ρ s x)):H (k+1) id=H k id:=by
 have nF:=(Array.getElem?_eq_some_iff.1 ho).1
 obtain⟨v,h',hE⟩:=hw
 have mz:=Array.getElem?_eq_getElem hk
 obtain⟨sk,hh,PE,T5,⟨e0,Vw,zw,tI⟩,h4,_,_,h7⟩:=D.T3 mz hE
 simp only[gQ,Bool.and_eq_true]at h4
 have h5:Je ops b k=true:=by simpa using h4.1.1
 have h6:=List.all_eq_true.1 h5 i (List.mem_range.2 nF)
 rw[ho,mz]at h6
 have b1:(b.getD i 0).testBit k=false:=Bool.eq_false_iff.2 h1
 have b2:(b.getD k 0).testBit i=false:=Bool.eq_false_iff.2 h2
 have b3:(i==k)=false:=by simp[br]
 simp only[b1,b2,b3,(DN hl).1,Bool.false_or,Bool.and_eq_true]at h6
 obtain⟨DO,K7⟩:=h6
 have ZF:gY ops b k sk ops[k]=WK ops b k sk:=by unfold gY;rw[if_pos DO]
 have nN:ρ sk x=ρ s x:=by
  cases x with
  |tmp d =>
   simp only[ρ,PE,hs]
   unfold uE at K7
   rw[ho]at K7
   simp only[Option.bind_some,hl]at K7
   have hm:∀m o',min k i≤m→m<max k i→ops[m]? = some o'→o'.dst≠some d:=fun m o' g1 g2 g3 hd=>by
    have g4:=List.all_eq_true.1 K7 m (List.mem_range.2 (by omega))
    rw[g3]at g4
    simp[hd,g1,g2]at g4
   rcases Nat.lt_or_ge i k with g|g
   ·exact D.wN k (by omega) (by omega) fun m o' g1 g2=>hm m o' (by omega) (by omega)
   ·exact(D.wN i (by omega) (by omega) fun m o' g1 g2=>hm m o' (by omega) (by omega)).symm
  |_=>rfl
 have gS:id∈gY ops b k sk ops[k]:=by
  rw[ZF]
  unfold WK
  refine List.mem_flatMap.2 ⟨i,List.mem_range.2 nF,?_⟩
  rw[b1,b2,b3,ho]
  simp only[Bool.or_self,Bool.false_eq_true,if_false,Option.bind_some,hl]
  rw[nN];exact bO
 cases e0 with
 |val v0=>cases zw
 |new v0 os=>cases zw
 |wr v0 Tb =>
  cases zw
  simp only[nm,Bool.and_eq_true]at tI
  have hn:Tb.get id=none:=by
   cases e:Tb.get id with
   |none=>rfl
   |some ob=>exact absurd gS (ku tI.2 id ob e).1
  rw[h7]
  show(fi _ hh Tb).get id=H k id
  rw[kr,if_pos gS,hn,T5 id]
  cases aeC:H k id with
  |none=>simp
  |some ob =>
   have h8:=D.Xl hk ⟨_,_,hE⟩ id (by rw[aeC];simp)
   have h9:qJ rid (b.getD k 0) id=true:=by
    unfold qJ
    by_cases hr:id / 32768=rid+1
    ·have:=h8 hr
     unfold r9 at this
     rw[this];simp
    ·simp[hr]
   rw[if_pos h9]
end
end Go.Vs
namespace Go.Vs
variable {P:Program} {Eqs:TypeId→Option K} {Sg:FuncId→Option aM} {F:(f:FuncId)→(g:aM)→g.A→Option g.B} {R:Type}
variable {Z Z' Z0:Nat→Prop} {ψ ψ' ψ0:Nat→Value} {h h':Hp} {w w' w0:World} {B0:Nat} {O N:Nat→Prop}
variable {rid n:Nat} {ops:Array Oper} {b:Array Nat} {T:Nat→Nat→AV} {H:Nat→Hp} {E:Nat→Option bI}
structure Dj(rid:Nat)(ops:Array Oper)(b:Array Nat)(T:Nat→Nat→AV)(H:Nat→Hp)(E:Nat→Option bI)(S:Nat→Prop)(Tc:Nat→AV)(h:Hp):Prop where
 lt:∀i,S i→i<ops.size
 closed:∀i j,S i→r9 b i j→S j
 heap:∃q,q≤ops.size∧(∀k,k<q→zx E k→S k)∧(q<ops.size→zx E q∧¬S q)∧∀id,(mB rid S id→h id=H q id)∧(¬mB rid S id→h id=none)
 PF:∀j o d,S j→ops[j]? = some o→o.dst=some d→Tc d=T (j+1) d
 told:∀d,(∀j o,S j→ops[j]? = some o→o.dst≠some d)→Tc d=T 0 d
theorem Dr.PH(D:Dr P Eqs Sg F rid n ops b T H E){k:Nat}{o:Oper}(ho:ops[k]? = some o){d:Nat}(hd:o.dst≠some d):T (k+1) d=T k d:=by
 have:∀v,iZ (T k) o.dst v d=T k d:=fun v=>by
  cases kQ:o.dst with
  |none=>rfl
  |some d' =>
   simp only[iZ,ed]
   rw[if_neg]
   rintro rfl
   exact hd kQ
 rcases D.step k o ho with⟨e,s,hh,_,_,_,_,_,_,h7,_⟩|⟨_,_,h3,_⟩
 ·rw[h7,this]
 ·rw[h3,this]
theorem Dr.u6(D:Dr P Eqs Sg F rid n ops b T H E){d:Nat}:∀(i:Nat),i≤ops.size→(∀k o,k<i→ops[k]? = some o→o.dst≠some d)→T i d=T 0 d
 |0,_,_=>rfl
 |i+1,hi,hk=>by
  rw[D.PH (Array.getElem?_eq_getElem (show i<ops.size by omega)) (hk i _ (by omega) (Array.getElem?_eq_getElem (by omega)))]
  exact D.u6 i (by omega) fun k o h1 h2=>hk k o (by omega) h2
theorem Dr.EZ(D:Dr P Eqs Sg F rid n ops b T H E){d j:Nat}{oj:Oper}(hj:ops[j]? = some oj)(hd:oj.dst=some d):∀(i:Nat),i≤ops.size→j<i→T i d=T (j+1) d
 |0,_,h=>by omega
 |i+1,hi,h=>by
  by_cases e:j=i
  ·rw[e]
  ·have ho:=Array.getElem?_eq_getElem (show i<ops.size by omega)
   rw[D.PH ho (fun hdi=>e (D.zy hj ho hd hdi))]
   exact D.EZ hj hd i (by omega) (by omega)
theorem Dr.looks(D:Dr P Eqs Sg F rid n ops b T H E){S:Nat→Prop}{Tc:Nat→AV}(dj:Dj rid ops b T H E S Tc h){i:Nat}{o:Oper}(ho:ops[i]? = some o)(hS:¬S i)(hb:∀j,r9 b i j→S j){d:Nat}(hd:d∈o.looksAt ops):Tc d=T i d:=by
 have hi:=(Array.getElem?_eq_some_iff.1 ho).1
 by_cases hex:∃(j:Nat) (oj:Oper),ops[j]? = some oj∧oj.dst=some d
 ·obtain⟨j,oj,hj,YH⟩:=hex
  have cS:¬S j→Tc d=T 0 d:=fun hn=>dj.told d fun j' o' hs nu PI=>hn (by rw[D.zy hj nu YH PI];exact hs)
  have Om:i≤j→T i d=T 0 d:=fun zk=>D.u6 i (by omega) fun k o' hk nu PI=>by have:=D.zy hj nu YH PI;omega
  rcases Nat.lt_trichotomy j i with aF|rfl|I9
  ·rcases D.VH hj ho aF with h1|h1
   ·rw[dj.PF j oj d (hb j h1) hj YH,D.EZ hj YH i (by omega) aF]
   ·exact absurd hd ((Oper.apart_spec h1).1 d YH)
  ·rw[cS hS,Om (Nat.le_refl _)]
  ·rcases D.VH ho hj I9 with h1|h1
   ·rw[cS (fun hs=>hS (dj.closed j i hs h1)),Om (by omega)]
   ·exact absurd hd ((Oper.apart_spec h1).2.2 d YH)
 ·rw[dj.told d fun j o' _ nu PI=>hex ⟨j,o',nu,PI⟩,D.u6 i (by omega) fun k o' _ nu PI=>hex ⟨k,o',nu,PI⟩]
theorem Dr.PJ{S:Nat→Prop}{Tc:Nat→AV}(D:Dr P Eqs Sg F rid n ops b T H E)(dj:Dj rid ops b T H E S Tc h){i:Nat}{o:Oper}(ho:ops[i]? = some o)(hS:¬S i){v:AV}(hv:T (i+1)=iZ (T i) o.dst v) :
  (∀j o' d,(S j∨j=i)→ops[j]? = some o'→o'.dst=some d→iZ Tc o.dst v d=T (j+1) d)∧(∀d,(∀j o',(S j∨j=i)→ops[j]? = some o'→o'.dst≠some d)→iZ Tc o.dst v d=T 0 d):=by
 constructor
 ·intro j o' d hj nu hd
  rcases hj with hj|rfl
  ·have br:j≠i:=fun e=>hS (e▸hj)
   have:iZ Tc o.dst v d=Tc d:=by
    cases kQ:o.dst with
    |none=>rfl
    |some d' =>
     simp only[iZ,ed]
     rw[if_neg]
     rintro rfl
     exact br (D.zy nu ho hd kQ)
   rw[this];exact dj.PF j o' d hj nu hd
  ·rw[ho]at nu;cases nu
   rw[hv,hd];simp[iZ,ed]
 ·intro d hd
  have:iZ Tc o.dst v d=Tc d:=by
   cases kQ:o.dst with
   |none=>rfl
   |some d' =>
    simp only[iZ,ed]
    rw[if_neg]
    rintro rfl
    exact hd i o (.inr rfl) ho kQ
  rw[this];exact dj.told d fun j o' hj=>hd j o' (.inl hj)
theorem u7{i k id:Nat}(h1:Of rid i id)(h2:Of rid k id):i=k:=by unfold Of at h1 h2;omega
section
variable {S:Nat→Prop} {Tc:Nat→AV}
theorem Dr.calm(D:Dr P Eqs Sg F rid n ops b T H E)(dj:Dj rid ops b T H E S Tc h){i q:Nat}(hi:Nf ops i)(hS:¬S i)(hq:q≤ops.size)(hw:∀k,k<q→zx E k→S k):∀k,i≤k→k<q→¬zx E k:=by
 intro k PL hkq hk
 have PE:=hw k hkq hk
 have br:i≠k:=fun e=>hS (e▸PE)
 rcases D.AY (by omega) hk hi br with⟨_,h1⟩|⟨h1,_⟩
 ·exact hS (dj.closed k i PE h1)
 ·omega
theorem Dr.seen(D:Dr P Eqs Sg F rid n ops b T H E)(dj:Dj rid ops b T H E S Tc h){i:Nat}(hi:Nf ops i)(hS:¬S i)(hb:∀j,r9 b i j→S j){hh:Heap}(T5:∀id,Heap.get hh id=if qJ rid (b.getD i 0) id then H i id else none) :
  ∀id o,hh.get id=some o→h id=some o:=by
 obtain⟨q,hq,hw,iM,fE⟩:=dj.heap
 have nF:i<ops.size:=by obtain⟨o,ho,hf1,hf2⟩:=hi;exact(Array.getElem?_eq_some_iff.1 ho).1
 have ZG:i≤q:=by
  rcases Nat.lt_or_ge q i with h1|h1
  ·obtain⟨h2,h3⟩:=iM (by omega)
   rcases D.AY (by omega) h2 hi (by omega) with⟨h4,_⟩|⟨_,h4⟩
   ·omega
   ·exact absurd (hb q h4) h3
  ·exact h1
 intro id o bO
 rw[T5]at bO
 split at bO
 ·rename_i mz
  have mA:mB rid S id:=og hb mz
  rw[(fE id).1 mA,D.zz q ZG hq (D.calm dj hi hS hq hw) id fun k hk _ _ ho=>?_,bO]
  have PD:=(ho.parts (by have:=D.size;omega)).1
  obtain⟨j,h1,h2,_⟩:=D.names i (by omega) id (by rw[bO];simp) PD
  have:=u7 h1 ho
  omega
 ·cases bO
theorem Dr.M0(D:Dr P Eqs Sg F rid n ops b T H E)(dj:Dj rid ops b T H E S Tc h){i:Nat}{o:Oper}{x:Operand}(ho:ops[i]? = some o)(hl:jl o.op=some x)(hS:¬S i)(hb:∀j,r9 b i j→S j){s:List (Nat×AV)}(hs:look s=T i)
  {hh:Heap} (T5:∀id,Heap.get hh id=if qJ rid (b.getD i 0) id then H i id else none):∀id∈uF (ρ s x),∀ob,hh.get id=some ob→h id=some ob:=by
 obtain⟨q,hq,hw,iM,fE⟩:=dj.heap
 have nF:=(Array.getElem?_eq_some_iff.1 ho).1
 have PC:=D.size
 intro id bO ob jI
 rw[T5]at jI
 split at jI
 ·rename_i mz
  have mA:mB rid S id:=og hb mz
  rw[(fE id).1 mA,←jI]
  rcases Nat.lt_or_ge q i with hqi|ZG
  ·obtain⟨h2,h3⟩:=iM (by omega)
   have later:∀k,q<k→k<ops.size→Nf ops k→r9 b k q:=fun k h4 h5 h6=>by
    rcases D.AY (by omega) h2 h6 (by omega) with⟨h7,_⟩|⟨_,h7⟩
    ·omega
    ·exact h7
   have ZH:∀k,q≤k→k<i→Nf ops k→¬S k:=fun k h4 h5 h6 hk=>by
    rcases Nat.eq_or_lt_of_le h4 with e|h7
    ·exact h3 (e▸hk)
    ·exact h3 (dj.closed k q hk (later k h7 (by omega) h6))
   symm
   refine D.AZ i (by omega) (by omega) id (fun k h4 h5 h6=>?_) (fun k h4 h5 h6 h7=>?_)
   ·have hns:=ZH k h4 h5 (D.PB (by omega) h6)
    exact D.steady ho hl (by omega) h6 (by omega) (fun JQ=>hns (hb k JQ)) (fun JQ=>by have:=AW D.Om k i (by omega) JQ;omega) hs bO
   ·have hns:=ZH k h4 h5 (D.wM (by omega) h6)
    have h8:=h7.parts (show k<128 by omega)
    have h9:=mA h8.1
    rw[h8.2]at h9
    exact hns h9
  ·refine D.AZ q ZG hq id (fun k h4 h5 h6=>?_) (fun k h4 h5 h6 h7=>?_)
   ·have PE:=hw k h5 h6
    have br:i≠k:=fun e=>hS (e▸PE)
    exact D.steady ho hl (by omega) h6 br (fun JQ=>by have:=AW D.Om i k nF JQ;omega) (fun JQ=>hS (dj.closed k i PE JQ)) hs bO
   ·obtain⟨j,h8,h9,_⟩:=D.names i (by omega) id (by rw[jI];simp) (h7.parts (by omega)).1
    have:=u7 h8 h7
    omega
 ·cases jI
theorem PM(E:Nat→Option bI)(S:Nat→Prop)(m:Nat):∃q,q≤m∧(∀k,k<q→zx E k→S k)∧(q<m→zx E q∧¬S q):=by
 classical
 induction m with
 |zero=>exact⟨0,Nat.le_refl _,fun k hk=>by omega,fun h=>by omega⟩
 |succ m ih =>
  obtain⟨q,h1,h2,h3⟩:=ih
  by_cases hq:q<m
  ·exact⟨q,by omega,h2,fun _=>h3 hq⟩
  ·have:q=m:=by omega
   subst this
   by_cases hm:zx E q∧¬S q
   ·exact⟨q,by omega,h2,fun _=>hm⟩
   ·refine⟨q+1,by omega,fun k hk hw=>?_,fun h=>by omega⟩
    rcases Nat.lt_or_ge k q with h4|h4
    ·exact h2 k h4 hw
    ·have:k=q:=by omega
     subst this
     exact Classical.not_not.1 fun hn=>hm ⟨hw,hn⟩
theorem A1{i id:Nat}(hi:i<128):mB rid (fun k=>S k∨k=i) id↔mB rid S id∨Of rid i id:=by
 constructor
 ·intro h1
  by_cases hr:id / 32768=rid+1
  ·rcases h1 hr with h2|h2
   ·exact .inl fun _=>h2
   ·exact .inr (Of.of hr h2)
  ·exact .inl fun h=>absurd h hr
 ·rintro(h1|h1) h2
  ·exact .inl (h1 h2)
  ·exact .inr (h1.parts hi).2
theorem Dr.GZ(D:Dr P Eqs Sg F rid n ops b T H E)(dj:Dj rid ops b T H E S Tc h){i:Nat}(nF:i<ops.size)(hS:¬S i)(hnn:¬YG E i)(ZI:¬zx E i) :
  ∃q,q≤ops.size∧(∀k,k<q→zx E k→S k∨k=i)∧(q<ops.size→zx E q∧¬(S q∨q=i))∧∀id,(mB rid (fun k=>S k∨k=i) id→h id=H q id)∧(¬mB rid (fun k=>S k∨k=i) id→h id=none):=by
 obtain⟨q,hq,hw,iM,fE⟩:=dj.heap
 have PC:=D.size
 refine⟨q,hq,fun k h1 h2=>.inl (hw k h1 h2),fun h1=>⟨(iM h1).1,fun h2=>h2.elim (iM h1).2 fun e=>ZI (e▸(iM h1).1)⟩,fun id=>⟨fun h1=>?_,fun h1=>(fE id).2 fun h2=>h1 ((A1 (by omega)).2 (.inl h2))⟩⟩
 rcases (A1 (S:=S) (i:=i) (rid:=rid) (by omega)).1 h1 with h2|h2
 ·exact(fE id).1 h2
 ·have hn:¬mB rid S id:=fun h3=>h3.AR (by omega) hS h2
  rw[(fE id).2 hn]
  symm
  apply Classical.not_not.1
  intro br
  obtain⟨j,h3,_,_,h4⟩:=D.names q hq id br (h2.parts (by omega)).1
  have:=u7 h3 h2
  subst this
  rcases h4 with h4|⟨w',h5,h6,h7|h7⟩
  ·exact hnn h4
  ·exact ZI (h7▸h6)
  ·exact hS (dj.closed w' _ (hw w' h5 h6) h7)
theorem T6{os:Heap}{i:Nat}(eV:(os.all fun p=>p.1 / 256==(rid+1)*128+i)=true):∀id o,os.get id=some o→Of rid i id:=by
 induction os with
 |nil=>intro id o h;simp[Heap.get]at h
 |cons a r ih =>
  intro id o hg
  simp only[List.all_cons,Bool.and_eq_true,beq_iff_eq]at eV
  simp only[Heap.get]at hg
  split at hg
  ·rename_i e;rw[←e];exact eV.1
  ·exact ih eV.2 id o hg
theorem Dr.PN(D:Dr P Eqs Sg F rid n ops b T H E)(dj:Dj rid ops b T H E S Tc h){i:Nat}{o:Oper}(ho:ops[i]? = some o)(hS:¬S i)(hb:∀j,r9 b i j→S j){v:AV}{os:Heap}(hE:E i=some (.new v os)) :
  ∃q,q≤ops.size∧(∀k,k<q→zx E k→S k∨k=i)∧(q<ops.size→zx E q∧¬(S q∨q=i))∧∀id,(mB rid (fun k=>S k∨k=i) id→(bI.new v os).hp h id=H q id)∧(¬mB rid (fun k=>S k∨k=i) id→(bI.new v os).hp h id=none):=by
 obtain⟨q,hq,hw,iM,fE⟩:=dj.heap
 have PC:=D.size
 have nF:=(Array.getElem?_eq_some_iff.1 ho).1
 have ZI:¬zx E i:=fun⟨v',h',h1⟩=>by rw[hE]at h1;cases h1
 have YI:=D.wM nF ⟨v,os,hE⟩
 obtain⟨s,hh,_,_,_,h4,_,_,h7⟩:=D.T3 ho hE
 simp only[gQ,Bool.and_eq_true]at h4
 have tL:=T6 (rid:=rid) h4.1.2
 have ZG:i<q:=by
  rcases Nat.lt_or_ge i q with h1|h1
  ·exact h1
  ·obtain⟨h2,h3⟩:=iM (by omega)
   have br:i≠q:=fun e=>ZI (e▸h2)
   rcases D.AY (by omega) h2 YI br with⟨h4,_⟩|⟨_,h4⟩
   ·omega
   ·exact absurd (hb q h4) h3
 refine⟨q,hq,fun k h1 h2=>.inl (hw k h1 h2),fun h1=>⟨(iM h1).1,fun h2=>h2.elim (iM h1).2 fun e=>ZI (e▸(iM h1).1)⟩,fun id=>⟨fun h1=>?_,fun h1=>?_⟩⟩
 ·simp only[bI.hp]
  by_cases h2:Of rid i id
  ·have hn:¬mB rid S id:=fun h3=>h3.AR (by omega) hS h2
   have e1:H i id=none:=Classical.not_not.1 fun br=>by
    obtain⟨j,h3,h4,_⟩:=D.names i (by omega) id br (h2.parts (by omega)).1
    have:=u7 h3 h2
    omega
   have e2:H (i+1) id=Heap.get os id:=by
    rw[h7];simp only[bI.hp];rw[e1];cases Heap.get os id<;>rfl
   have e3:H q id=H (i+1) id:=D.zz q ZG hq (fun k h3 h4=>D.calm dj YI hS hq hw k (by omega) h4) id fun k h3 _ _ h5=>by
    have:=u7 h5 h2;omega
   rw[e3,e2,(fE id).2 hn];cases Heap.get os id<;>rfl
  ·have h3:mB rid S id:=((A1 (by omega)).1 h1).resolve_right h2
   cases Oi:Heap.get os id with
   |some o'=>exact absurd (tL id o' Oi) h2
   |none=>exact(fE id).1 h3
 ·have h2:¬mB rid S id:=fun h2=>h1 ((A1 (by omega)).2 (.inl h2))
  have h3:¬Of rid i id:=fun h2=>h1 ((A1 (by omega)).2 (.inr h2))
  simp only[bI.hp]
  cases Oi:Heap.get os id with
  |some o'=>exact absurd (tL id o' Oi) h3
  |none=>exact(fE id).2 h2
theorem Dr.T7(D:Dr P Eqs Sg F rid n ops b T H E)(dj:Dj rid ops b T H E S Tc h){i:Nat}{o:Oper}(ho:ops[i]? = some o)(hS:¬S i)(hb:∀j,r9 b i j→S j){v:AV}{h':Heap}(hE:E i=some (.wr v h')) :
  (∀hh:Heap,(∀id,hh.get id=if qJ rid (b.getD i 0) id then H i id else none)→hh.get=h) ∧
  ∃q,q≤ops.size∧(∀k,k<q→zx E k→S k∨k=i)∧(q<ops.size→zx E q∧¬(S q∨q=i))∧∀id,(mB rid (fun k=>S k∨k=i) id→h'.get id=H q id)∧(¬mB rid (fun k=>S k∨k=i) id→h'.get id=none):=by
 obtain⟨q,hq,hw,iM,fE⟩:=dj.heap
 have PC:=D.size
 have nF:=(Array.getElem?_eq_some_iff.1 ho).1
 have T4:zx E i:=⟨v,h',hE⟩
 have YI:=D.PB nF T4
 obtain⟨s,hh0,_,_,_,h4,_,_,h7⟩:=D.T3 ho hE
 simp only[gQ,Bool.and_eq_true]at h4
 have hqi:q=i:=by
  rcases Nat.lt_trichotomy q i with h1|h1|h1
  ·obtain⟨h2,h3⟩:=iM (by omega)
   rcases D.AY nF T4 (D.PB (by omega) h2) (by omega) with⟨_,h5⟩|⟨h5,_⟩
   ·exact absurd (hb q h5) h3
   ·omega
  ·exact h1
  ·exact absurd (hw i h1 T4) hS
 subst hqi
 have own:∀id,H q id≠none→mB rid (r9 b q) id:=fun id br PD=>by
  obtain⟨j,h1,h2,h2',h3⟩:=D.names q hq id br PD
  rw[(h1.parts h2').2]
  rcases h3 with h3|⟨w',h5,h6,h8⟩
  ·rcases D.AY nF T4 (D.wM (by omega) h3) (by omega) with⟨_,h9⟩|⟨h9,_⟩
   ·exact h9
   ·omega
  ·have ZE:r9 b q w':=by
    rcases D.AY nF T4 (D.PB (by omega) h6) (by omega) with⟨_,h9⟩|⟨h9,_⟩
    ·exact h9
    ·omega
   rcases h8 with rfl|h8
   ·exact ZE
   ·exact DM D.Om q w' j nF ZE h8
 refine⟨fun hh T5=>?_,?_⟩
 ·funext id
  rw[T5 id]
  cases bO:H q id with
  |none =>
   have:h id=none:=by
    by_cases h1:mB rid S id
    ·rw[(fE id).1 h1,bO]
    ·exact(fE id).2 h1
   rw[this];split<;>rfl
  |some ob =>
   have h1:=own id (by rw[bO];simp)
   have h2:mB rid S id:=fun hr=>hb _ (h1 hr)
   have h3:qJ rid (b.getD q 0) id=true:=by
    unfold qJ
    by_cases hr:id / 32768=rid+1
    ·have:=h1 hr
     unfold r9 at this
     rw[this];simp
    ·simp[hr]
   rw[h3,(fE id).1 h2,bO];rfl
 ·obtain⟨q',h1,h2,h3⟩:=PM E (fun k=>S k∨k=q) ops.size
  have VA:q+1≤q':=by
   rcases Nat.lt_or_ge q q' with h5|h5
   ·exact h5
   ·obtain⟨h6,h8⟩:=h3 (by omega)
    rcases Nat.lt_or_ge q' q with h9|h9
    ·exact absurd (.inl (hw q' h9 h6)) h8
    ·exact absurd (.inr (by omega)) h8
  have e1:H (q+1)=h'.get:=by rw[h7];rfl
  have zm:∀j,(b.getD q 0 ||| 2 ^ q).testBit j=true→S j∨j=q:=fun j hj=>by
   rw[Nat.testBit_or,Bool.or_eq_true,Nat.testBit_two_pow]at hj
   exact hj.imp (hb j) (fun h=>(of_decide_eq_true h).symm)
  refine⟨q',h1,h2,h3,fun id=>⟨fun h5=>?_,fun h5=>?_⟩⟩
  ·rw[D.zz q' VA h1 (fun k h6 h8 h9=>?_) id (fun k h6 h8 h9 nr=>?_),e1]
   ·have hk:=h2 k h8 h9
    have PE:S k:=hk.resolve_right (by omega)
    rcases D.AY (by omega) h9 YI (by omega) with⟨_,yR⟩|⟨yR,_⟩
    ·exact hS (dj.closed k q PE yR)
    ·omega
   ·have hk:=h5 (nr.parts (by omega)).1
    rw[(nr.parts (by omega)).2]at hk
    have PE:S k:=hk.resolve_right (by omega)
    rcases D.AY nF T4 (D.wM (by omega) h9) (by omega) with⟨yR,_⟩|⟨_,yR⟩
    ·omega
    ·exact hS (dj.closed k q PE yR)
  ·cases bO:h'.get id with
   |none=>rfl
   |some ob=>exact absurd ((lY zm h4.2 id ob bO).1) h5
end
section
variable {S:Nat→Prop} {Tc:Nat→AV}
theorem C2{o:Oper}{d:Nat}(h:Operand.tmp d∈o.op.operands):d∈o.looksAt ops :=
 List.mem_append_left _ (List.mem_filterMap.2 ⟨.tmp d,by simpa using h,rfl⟩)
theorem G1{o:Oper}{j d:Nat}{want:Bool}(hg:o.guard=some (j,want))(hd:(ops[j]?).bind (·.dst)=some d):d∈o.looksAt ops:=by
 unfold Oper.looksAt
 rw[hg]
 exact List.mem_append_right _ (by simp only[hd];simp)
theorem Dr.wanted(D:Dr P Eqs Sg F rid n ops b T H E)(dj:Dj rid ops b T H E S Tc h){a:Act}{i:Nat}{o:Oper}(ho:ops[i]? = some o)(hS:¬S i)(hb:∀j,r9 b i j→S j)(t:cO Z ψ h w n Tc a){c:Bool}(hw:qf ops (T i) o c) :
  Region.wanted o (yielded ops a.tmps)=c:=by
 unfold qf at hw
 split at hw
 ·rename_i hg;rw[hw];simp[Region.wanted,hg]
 ·rename_i j want hg
  obtain⟨d,hd,hc⟩:=hw
  have e:=D.looks dj ho hS hb (G1 hg hd)
  rcases hc with⟨u,h1,h2⟩|⟨vs,h1,h2⟩
  ·rw[AS t hg hd (e.trans h1),h2]
  ·rw[ym t hg hd (e.trans h1),h2]
theorem Dr.JR(D:Dr P Eqs Sg F rid n ops b T H E)(V:Env P Eqs Sg F){i:Nat}{o:Oper}{a:Act}(ho:ops[i]? = some o)(hS:¬S i)(hb:∀j,r9 b i j→S j)(dj:Dj rid ops b T H E S Tc h)(j:J (mB rid S) n Z0 w0 O ψ0 Z ψ Tc h a w)
  {K:Act→World→Prop} {Q:Exit→Act→World→Prop} (hk:∀Tc' h' a' w' Z' ψ',Dj rid ops b T H E (fun k=>S k∨k=i) Tc' h'→J (mB rid fun k=>S k∨k=i) n Z0 w0 O ψ0 Z' ψ' Tc' h' a' w'→K a' w'):wpOp P ops Q i K a w:=by
 have nF:=(Array.getElem?_eq_some_iff.1 ho).1
 have PC:=D.size
 have Tl:=D.aey i o ho
 have aF:∀k,(S k∨k=i)→k<ops.size:=fun k hk=>hk.elim (dj.lt k) (fun e=>e▸nF)
 have Jm:∀k j,(S k∨k=i)→r9 b k j→S j∨j=i:=fun k j hk hj=>.inl (hk.elim (fun h=>dj.closed k j h hj) (fun e=>hb j (e▸hj)))
 unfold wpOp
 rw[ho]
 simp only[]
 cases hE:E i with
 |none =>
  obtain⟨h1,h2,h3⟩:=D.EY ho hE
  rw[D.wanted dj ho hS hb j.tr h1]
  simp only[Bool.false_eq_true,if_false]
  obtain⟨t1,t2⟩:=D.PJ dj ho hS h2
  refine hk _ h _ w Z ψ ⟨aF,Jm,D.GZ dj nF hS (fun⟨v,os,h⟩=>by rw[hE]at h;cases h) (fun⟨v,os,h⟩=>by rw[hE]at h;cases h),t1,t2⟩ (j.skip Tl fun id hp hr=>.inl (hp hr))
 |some e =>
  obtain⟨s,hh,h1,h2,h3,h4,h5,h6,h7⟩:=D.T3 ho hE
  rw[D.wanted dj ho hS hb j.tr h5]
  simp only[if_true]
  refine .inl ?_
  obtain⟨t1,t2⟩:=D.PJ dj ho hS h6
  have hT:∀x∈o.op.operands,aw Z ψ h w (ρ s x) (a.eval x)∧aJ (mB rid S) (ρ s x):=fun x hx=>by
   cases x with
   |tmp d =>
    have e1:look s d=Tc d:=by rw[h1];exact(D.looks dj ho hS hb (C2 hx)).symm
    simp only[ρ,e1]
    exact⟨j.tr.rep d,j.tm d⟩
   |const v=>exact⟨Gs v,AQ _ v⟩
   |global g=>exact⟨by simp only[ρ,aw],by simp only[ρ,aJ]⟩
   |func f=>exact⟨by simp only[ρ,aw,an,Act.eval];exact⟨#[],rfl,rfl⟩,by simp only[ρ,aJ,aC]⟩
  have om:=AU (hh:=[]) j.hm (fun k hk=>hb k hk) h4
  obtain⟨e0,h3,zw,tI⟩:=h3
  cases e0 with
  |wr v0 Tb =>
   simp only[gR]at zw
   subst zw
   have nM:=D.T7 dj ho hS hb hE
   have T5:=nM.1 hh h2
   subst T5
   refine J.opF V (rid:=rid) (i:=i) (fun _ id hp=>hp.AR (by omega) hS) j Tl (fun x hx=>(hT x hx).1) (fun x hx=>(hT x hx).2) h3 tI (p':=mB rid fun k=>S k∨k=i) (fun id hp hr=>.inl (hp hr)) om.1 om.2 fun a' w' Z' ψ' j' => ?_
   exact hk _ _ a' w' Z' ψ' ⟨aF,Jm,nM.2,t1,t2⟩ j'
  |val v0 =>
   simp only[gR]at zw
   subst zw
   have aeE:∃Xg:Heap,(∀id o,Xg.get id=some o→h id=some o)∧cU P Eqs Sg F (opId rid i) Xg s o some=some (.val v0):=by
    cases hf:nk o.op with
    |true=>exact⟨[],fun id o h=>by simp[Heap.get]at h,by rw[MV hf (h':=gX hh (gY ops b i s o))];exact h3⟩
    |false =>
     cases Tf:jl o.op with
     |some x =>
      have ZF:gY ops b i s o=[]:=by unfold gY;rw[(DN Tf).2];rfl
      rw[ZF]at h3
      have h3':cU P Eqs Sg F (opId rid i) hh s o some=some (.val v0):=h3
      have nt:∀id,(fi (uF (ρ s x)) hh []).get id=if id∈uF (ρ s x) then hh.get id else none:=fun id=>by
       rw[kr]
       split
       ·cases hh.get id<;>rfl
       ·rfl
      refine⟨fi (uF (ρ s x)) hh [],fun id ob bO=>?_,?_⟩
      ·rw[nt]at bO
       split at bO
       ·rename_i hm;exact D.M0 dj ho Tf hS hb h1 h2 id hm ob bO
       ·cases bO
      ·rw[JP Tf (hh:=hh) (fun id hm=>by rw[nt,if_pos hm])];exact h3'
     |none=>exact⟨_,fun id ob bO=>D.seen dj ⟨o,ho,hf,Tf⟩ hS hb h2 id ob (by rw[od]at bO;split at bO;cases bO;exact bO),h3⟩
   obtain⟨Xg,E0,K8⟩:=aeE
   refine J.op V (rid:=rid) (i:=i) (fun _ id hp=>hp.AR (by omega) hS) j Tl (fun x hx=>(hT x hx).1) (fun x hx=>(hT x hx).2) E0 K8 (fun v hw he=>by cases he) (p':=mB rid fun k=>S k∨k=i) (fun id hp hr=>.inl (hp hr)) om.1 om.2 fun a' w' Z' ψ' j' => ?_
   exact hk _ _ a' w' Z' ψ' ⟨aF,Jm,D.GZ dj nF hS (fun⟨v,os,h⟩=>by rw[hE]at h;cases h) (fun⟨v,os,h⟩=>by rw[hE]at h;cases h),t1,t2⟩ j'
  |new v0 os =>
   simp only[gR]at zw
   subst zw
   have YI:=D.wM nF ⟨v0,os,hE⟩
   have E0:∀id ob,(gX hh (gY ops b i s o)).get id=some ob→h id=some ob:=fun id ob bO=>D.seen dj YI hS hb h2 id ob (by rw[od]at bO;split at bO;cases bO;exact bO)
   refine J.op V (rid:=rid) (i:=i) (fun _ id hp=>hp.AR (by omega) hS) j Tl (fun x hx=>(hT x hx).1) (fun x hx=>(hT x hx).2) E0 h3 (fun v hw he=>by cases he) (p':=mB rid fun k=>S k∨k=i) (fun id hp hr=>.inl (hp hr)) om.1 om.2 fun a' w' Z' ψ' j' => ?_
   exact hk _ _ a' w' Z' ψ' ⟨aF,Jm,D.PN dj ho hS hb hE,t1,t2⟩ j'
theorem Dr.done(D:Dr P Eqs Sg F rid n ops b T H E)(dj:Dj rid ops b T H E S Tc h)(eV:∀k,k<ops.size→S k):Tc=T ops.size∧h=H ops.size:=by
 constructor
 ·funext d
  by_cases hex:∃(j:Nat) (oj:Oper),ops[j]? = some oj∧oj.dst=some d
  ·obtain⟨j,oj,hj,hd⟩:=hex
   have I4:=(Array.getElem?_eq_some_iff.1 hj).1
   rw[dj.PF j oj d (eV j I4) hj hd,D.EZ hj hd ops.size (Nat.le_refl _) I4]
  ·rw[dj.told d fun j o' _ nu PI=>hex ⟨j,o',nu,PI⟩,D.u6 ops.size (Nat.le_refl _) fun k o' _ nu PI=>hex ⟨k,o',nu,PI⟩]
 ·obtain⟨q,hq,_,iM,fE⟩:=dj.heap
  have:q=ops.size:=by
   rcases Nat.lt_or_ge q ops.size with h1|h1
   ·exact absurd (eV q h1) (iM h1).2
   ·omega
  subst this
  funext id
  by_cases mA:mB rid S id
  ·exact(fE id).1 mA
  ·rw[(fE id).2 mA]
   symm
   apply Classical.not_not.1
   intro br
   apply mA
   intro hr
   obtain⟨j,h1,h2,h3,_⟩:=D.names ops.size (Nat.le_refl _) id br hr
   rw[(h1.parts h3).2]
   exact eV j h2
def lZ(m:Nat)(cm:Array Bool):Nat:=((List.range m).filter fun i => !cm.getD i false).length
theorem E1{m:Nat}{cm:Array Bool}{i:Nat}(hi:i<m)(hs:i<cm.size)(hn:cm.getD i false=false):lZ m cm=lZ m (cm.setIfInBounds i true)+1:=by
 unfold lZ
 have key:∀(l:List Nat),l.Nodup→i∈l→(l.filter fun k => !cm.getD k false).length=(l.filter fun k => !(cm.setIfInBounds i true).getD k false).length+1:=by
  intro l
  induction l with
  |nil=>intro _ h;cases h
  |cons a r ih =>
   intro DE hm
   rw[List.nodup_cons]at DE
   rcases List.mem_cons.1 hm with rfl|hm
   ·have h2:(r.filter fun k => !cm.getD k false)=(r.filter fun k => !(cm.setIfInBounds i true).getD k false):=by
     apply List.filter_congr
     intro k hk
     have br:i≠k:=fun e=>DE.1 (e▸hk)
     rw[getD_set_ne false br]
    rw[List.filter_cons,List.filter_cons,hn]
    have h3:(cm.setIfInBounds i true).getD i false=true:=by simp[hs]
    rw[h3,h2];simp
   ·have br:i≠a:=fun e=>DE.1 (e▸hm)
    rw[List.filter_cons,List.filter_cons,getD_set_ne false br]
    split
    ·simp only[List.length_cons];rw[ih DE.2 hm]
    ·exact ih DE.2 hm
 exact key _ List.nodup_range (List.mem_range.2 hi)
theorem Dr.any(D:Dr P Eqs Sg F rid n ops b T H E)(V:Env P Eqs Sg F){Q:Exit→Act→World→Prop}(hQ:∀Z ψ a w,J (mB rid fun k=>k<ops.size) n Z0 w0 O ψ0 Z ψ (T ops.size) (H ops.size) a w→Q .normal a w) :
  ∀(fuel:Nat) (cm:Array Bool) (Tc:Nat→AV) (h:Hp) (a:Act) (w:World) (Z:Nat→Prop) (ψ:Nat→Value),cm.size=ops.size→lZ ops.size cm=fuel →
   Dj rid ops b T H E (fun k=>cm.getD k false=true) Tc h→J (mB rid fun k=>cm.getD k false=true) n Z0 w0 O ψ0 Z ψ Tc h a w→wpAny P .any ops Q fuel cm a w
 |0,cm,Tc,h,a,w,Z,ψ,hs,hu,dj,j=>by
  have eV:∀k,k<ops.size→cm.getD k false=true:=fun k hk=>by
   unfold lZ at hu
   have:=List.filter_eq_nil_iff.1 (List.eq_nil_of_length_eq_zero hu) k (List.mem_range.2 hk)
   simpa using this
  refine⟨?_,?_⟩
  ·apply List.eq_nil_iff_forall_not_mem.2
   intro i hi
   obtain⟨h1,o,h2,_⟩:=mem_ready.1 hi
   have h3:=(Array.getElem?_eq_some_iff.1 h2).1
   have h4:=eV i h3
   rw[Array.getD_eq_getD_getElem?,Array.getElem?_eq_getElem (by omega)]at h1 h4
   simp at h1 h4
   rw[h1]at h4;cases h4
  ·obtain⟨e1,e2⟩:=D.done dj eV
   subst e1;subst e2
   refine hQ Z ψ a w ⟨j.ok,j.tr,fun d=>(j.tm d).imp fun id h1 h2=>dj.lt _ (h1 h2),fun id ty cs hb=>(j.hm id ty cs hb).imp fun id h1 h2=>dj.lt _ (h1 h2)⟩
 |fuel+1,cm,Tc,h,a,w,Z,ψ,hs,hu,dj,j=>by
  have look:∀i,i<ops.size→cm.getD i true=cm.getD i false:=fun i hi=>by
   rw[Array.getD_eq_getD_getElem?,Array.getD_eq_getD_getElem?,Array.getElem?_eq_getElem (by omega)];rfl
  refine⟨fun hr=>?_,fun i hi=>?_⟩
  ·exfalso
   have hex:∃i,i<ops.size∧cm.getD i false=false:=by
    apply Classical.byContradiction
    intro hn
    unfold lZ at hu
    rw[List.filter_eq_nil_iff.2]at hu
    ·simp at hu
    ·intro k hk
     have:=fun h=>hn ⟨k,List.mem_range.1 hk,h⟩
     cases hl:cm.getD k false with
     |true=>simp
     |false=>exact absurd hl this
   have key:∀i,i<ops.size→cm.getD i false=false→False:=by
    intro i
    induction i using Nat.strongRecOn with
    |ind i ih =>
     intro hi hl
     have gS:i∈Region.ready .any ops cm:=by
      refine mem_ready.2 ⟨by rw[look i hi];exact hl,_,Array.getElem?_eq_getElem hi,fun e he ML=>?_⟩
      have Xk:=JO D.Om (Array.getElem?_eq_getElem hi) (by simpa using he) ML
      cases hle:cm.getD e.on false with
      |true=>rfl
      |false=>exact(ih e.on Xk (by omega) hle).elim
     rw[hr]at gS;cases gS
   obtain⟨i,h1,h2⟩:=hex
   exact key i h1 h2
  ·obtain⟨h1,o,ho,eV⟩:=mem_ready.1 hi
   have nF:=(Array.getElem?_eq_some_iff.1 ho).1
   have hn:cm.getD i false=false:=by rw[←look i nF];exact h1
   have hS:¬(cm.getD i false=true):=by rw[hn];simp
   have hb:∀k,r9 b i k→cm.getD k false=true:=fun k hk=>by
    obtain⟨e,he,ML,h2⟩:=(zu D.Om ho).1 hk
    have h3:=eV e (by simpa using he) ML
    rcases h2 with rfl|h2
    ·exact h3
    ·exact dj.closed e.on k h3 h2
   refine D.JR V ho hS hb dj j fun Tc' h' a' w' Z' ψ' dj' j' => ?_
   have heq:(fun k=>cm.getD k false=true∨k=i)=(fun k=>(cm.setIfInBounds i true).getD k false=true):=by
    funext k
    apply propext
    by_cases e:i=k
    ·subst e
     simp[show i<cm.size by omega]
    ·rw[getD_set_ne false e]
     constructor
     ·rintro(h|h)
      ·exact h
      ·exact absurd h.symm e
     ·exact .inl
   rw[heq]at dj' j'
   exact D.any V hQ fuel _ Tc' h' a' w' Z' ψ' (by simpa using hs) (by have:=E1 nF (by omega) hn;omega) dj' j'
end
end Go.Vs
namespace Go.Vs
variable {P:Program} {Eqs:TypeId→Option K} {Sg:FuncId→Option aM} {F:(f:FuncId)→(g:aM)→g.A→Option g.B} {R:Type}
variable {Z Z' Z0:Nat→Prop} {ψ ψ' ψ0:Nat→Value} {h h':Hp} {w w' w0:World} {B0:Nat} {O N:Nat→Prop}
theorem A2(f:AV→AV)(hf:f .no=.no):∀(l:List (Nat×AV)) (d:Nat),look (l.map fun p=>(p.1,f p.2)) d=f (look l d)
 |[],d=>by simp[look,hf]
 |(i,v)::r,d=>by
  simp only[List.map_cons,look]
  split
  ·rfl
  ·exact A2 f hf r d
section
variable {rid:Nat}
mutual
theorem wO:∀{a:AV} {v:Value},aw Z ψ h w a v→aw Z ψ h w (bE rid a) v
 |.ref id s i off,v,hr=>by
  simp only[bE]
  split
  ·simp only[aw]
  ·exact hr
 |.bH id,v,hr=>by
  simp only[bE]
  split
  ·simp only[aw]
  ·exact hr
 |.fn f cap,v,hr=>by
  simp only[bE,aw]at hr ⊢
  obtain⟨vs,e,hl⟩:=hr
  exact⟨vs,e,l6 hl⟩
 |.agg cs,v,hr=>by
  simp only[bE,aw]at hr ⊢
  obtain⟨vs,e,hl⟩:=hr
  exact⟨vs,e,l6 hl⟩
 |.ni cs,v,hr=>by
  simp only[bE,aw]at hr ⊢
  obtain⟨vs,e,hl⟩:=hr
  exact⟨vs,e,l6 hl⟩
 |.no,v,hr=>by simpa only[bE] using hr
 |.bool _,v,hr=>by simpa only[bE] using hr
 |.int _ _,v,hr=>by simpa only[bE] using hr
 |.str _,v,hr=>by simpa only[bE] using hr
 |.kY,v,hr=>by simpa only[bE] using hr
 |.fW,v,hr=>by simpa only[bE] using hr
 |.fp _ _ _,v,hr=>by simpa only[bE] using hr
 |.sl _ _ _,v,hr=>by simpa only[bE] using hr
 |.mp _ _ _,v,hr=>by simpa only[bE] using hr
theorem l6:∀{a:List AV} {v:List Value},an Z ψ h w a v→an Z ψ h w (lL rid a) v
 |[],v,hr=>by simpa only[lL] using hr
 |x::r,v,hr=>by
  simp only[lL,an]at hr ⊢
  obtain⟨u,us,e,h1,h2⟩:=hr
  exact⟨u,us,e,wO h1,l6 h2⟩
end
mutual
theorem pH:∀(a:AV),aJ (mB rid fun _=>False) (bE rid a)
 |.ref id s i off=>by
  simp only[bE]
  split
  ·simp only[aJ]
  ·rename_i hn;simp only[aJ];exact fun h=>absurd h hn
 |.bH id=>by
  simp only[bE]
  split
  ·simp only[aJ]
  ·rename_i hn;simp only[aJ];exact fun h=>absurd h hn
 |.fn f cap=>by simp only[bE,aJ];exact iO cap
 |.agg cs=>by simp only[bE,aJ];exact iO cs
 |.ni cs=>by simp only[bE,aJ];exact iO cs
 |.no=>by simp only[bE,aJ]
 |.bool _=>by simp only[bE,aJ]
 |.int _ _=>by simp only[bE,aJ]
 |.str _=>by simp only[bE,aJ]
 |.kY=>by simp only[bE,aJ]
 |.fW=>by simp only[bE,aJ]
 |.fp _ _ _=>by simp only[bE,aJ]
 |.sl _ _ _=>by simp only[bE,aJ]
 |.mp _ _ _=>by simp only[bE,aJ]
theorem iO:∀(a:List AV),aC (mB rid fun _=>False) (lL rid a)
 |[]=>by simp only[lL,aC]
 |x::r=>by simp only[lL,aC];exact⟨pH x,iO r⟩
end
theorem get_map(f:Ob→Ob):∀(hh:Heap) (i:Nat),Heap.get (hh.map fun p=>(p.1,f p.2)) i=(hh.get i).map f
 |[],i=>rfl
 |(j,o)::r,i=>by
  simp only[List.map_cons,Heap.get]
  split
  ·rfl
  ·exact get_map f r i
def mU(rid:Nat)(hh:Heap):Heap:=(hh.filter fun p=>p.1 / 32768 != rid+1).map fun p=>(p.1,Af rid p.2)
theorem M1(hh:Heap)(i:Nat):(mU rid hh).get i=if i / 32768=rid+1 then none else(hh.get i).map (Af rid):=by
 unfold mU
 rw[get_map (Af rid),get_filter (fun i=>i / 32768 != rid+1)]
 by_cases e:i / 32768=rid+1<;>simp[e]
theorem iC{hh:Heap}{i:Nat}{o:Ob}(hg:(mU rid hh).get i=some o):i / 32768≠rid+1∧∃o',hh.get i=some o'∧o=Af rid o':=by
 rw[M1]at hg
 split at hg
 ·cases hg
 ·rename_i hn
  cases h0:hh.get i with
  |none=>rw[h0]at hg;cases hg
  |some o'=>rw[h0]at hg;cases hg;exact⟨hn,o',rfl,rfl⟩
theorem kx{hh:Heap}{i:Nat}(hg:(mU rid hh).get i≠none):hh.get i≠none:=by
 obtain⟨o,ho⟩:=Option.ne_none_iff_exists'.1 hg
 obtain⟨_,o',h1,_⟩:=iC ho
 rw[h1];simp
theorem Good.kU{hh:Heap}(g:Good Z ψ hh.get w B0 O):Good Z ψ (mU rid hh).get w B0 O:=by
 refine⟨fun id ty cs hb=>?_,fun id ok xs hb=>?_,fun id b h1 h2=>g.live id b (kx h1) h2,fun id mD b h1 h2 h3 h4=>g.apart id mD b (kx h1) (kx h2) h3 h4,g.jP⟩
 ·obtain⟨_,o',h1,h2⟩:=iC hb
  cases o' with
  |own ok xs=>cases h2
  |box yO cs' =>
   cases h2
   obtain⟨gg,vs,h3,h4,h5,h6⟩:=g.box id ty cs' h1
   exact⟨gg,vs,h3,h4,l6 (h5.less (fun _ h=>h) (ct.refl _ _) fun i hi=>⟨kx hi,rfl⟩),h6⟩
 ·obtain⟨_,o',h1,h2⟩:=iC hb
  cases o' with
  |own YB Y7=>cases h2;exact g.row id _ _ h1
  |box yO cs'=>cases h2
theorem Ok.sub{hp:Hp}(k:Ok Z0 w0 O ψ0 Z ψ h w)(g:Good Z ψ hp w w0.heap.size O)(hn:∀id,hp id≠none→h id≠none):Ok Z0 w0 O ψ0 Z ψ hp w :=
 ⟨g,k.fP,k.eL,k.os,k.tape,k.output,k.size,k.block,fun i hi br=>k.fix i hi (hn i br)⟩
end
theorem Good.A3(g:Good Z ψ h w B0 O)(e:w'.heap=w.heap):Good Z ψ h w' B0 O:=by
 have sm:ct Z w w':=fun b _=>by rw[e]
 refine⟨fun id ty cs hb=>?_,fun id ok xs hb=>?_,g.live,g.apart,fun b hb=>by rw[e];exact g.jP b hb⟩
 ·obtain⟨gg,vs,h1,h2,h3,h4⟩:=g.box id ty cs hb
  exact⟨gg,vs,h1,by rw[e];exact h2,h3.less (fun _ h=>h) sm (fun i hi=>⟨hi,rfl⟩),h4⟩
 ·exact(g.row id ok xs hb).kept (fun _ h=>h) sm (fun gg _=>by rw[e])
theorem Ok.A3(k:Ok Z0 w0 O ψ0 Z ψ h w)(e:w'.heap=w.heap)(e1:w'.os=w.os)(e2:w'.tape=w.tape)(e3:w'.output=w.output):Ok Z0 w0 O ψ0 Z ψ h w' :=
 ⟨k.dW.A3 e,k.fP,k.eL,e1.trans k.os,e2.trans k.tape,e3.trans k.output,by rw[e];exact k.size,fun b hb ho=>by rw[e];exact k.block b hb ho,k.fix⟩
theorem cO.A3{n:Nat}{T:Nat→AV}{a:Act}(t:cO Z ψ h w n T a)(e:w'.heap=w.heap):cO Z ψ h w' n T a :=
 ⟨fun d=>(t.rep d).less (fun _ h=>h) (fun b _=>by rw[e]) (fun i hi=>⟨hi,rfl⟩),t.size,t.defers⟩
theorem E2(V:Env P Eqs Sg F)(hm:P.follows .mixedOrders=true){n rid:Nat}{ops:Array Oper}{draw:Bool}{st:St}{kk:St→Option R}{r:R}{a:Act}{Q:Exit→Act→World→Prop}
  (hx:ir P Eqs Sg F n rid ops draw st kk=some r) (k:Ok Z0 w0 O ψ0 Z ψ st.heap.get w) (t:cO Z ψ st.heap.get w n (look st.tmps) a)
  (hQ:∀eJ Z ψ a w,kk eJ=some r→Ok Z0 w0 O ψ0 Z ψ eJ.heap.get w→cO Z ψ eJ.heap.get w n (look eJ.tmps) a→Q .normal a w):(Code.region rid ops draw).wp P Q a w:=by
 obtain⟨b,YJ,hx⟩:∃b,b=(if draw then Region.before ops else #[])∧(if(ops.all fun o=>iq n o)&&(!draw || (uD ops b&&(Ad ops b&&b7 (ops.toList.filterMap (·.dst)))))&&decide (ops.size≤128) then
  bD P Eqs Sg F rid draw ops b (ops.toList.zipIdx.map fun p=>(p.2,p.1)) (kU draw rid ops st) kk else none)=some r:=⟨_,rfl,hx⟩
 split at hx
 ·rename_i hc
  simp only[Bool.and_eq_true,decide_eq_true_eq]at hc
  obtain⟨⟨kQ,hdr⟩,jm⟩:=hc
  have DP:∀(i:Nat) (o:Oper),ops[i]? = some o→iq n o=true:=fun i o ho=>Array.all_eq_true_iff_forall_mem.1 kQ o (Array.mem_of_getElem? ho)
  have pk:Ok Z0 w0 O ψ0 Z ψ (mU rid st.heap).get w:=k.sub k.dW.kU fun id=>kx
  have pt:cO Z ψ (mU rid st.heap).get w n (fun d=>bE rid (look st.tmps d)) a :=
   ⟨fun d=>wO ((t.rep d).less (fun _ h=>h) (ct.refl _ _) fun i hi=>⟨kx hi,rfl⟩),t.size,t.defers⟩
  have pm:ta (mB rid fun _=>False) (mU rid st.heap).get:=fun i ty cs hb=>by
   obtain⟨_,o',h1,h2⟩:=iC hb
   cases o' with
   |own ok xs=>cases h2
   |box yO cs'=>cases h2;exact iO cs'
  have DQ:look (st.tmps.map fun p=>(p.1,bE rid p.2))=fun d=>bE rid (look st.tmps d):=funext fun d=>A2 (bE rid) (by simp only[bE]) st.tmps d
  cases draw with
  |false =>
   refine wp_region ?_
   rw[←DJ ops]
   cases Py:ops.any (makes ·.op) with
   |false =>
    have hp:kU false rid ops st=st:=by unfold kU;rw[Py];rfl
    rw[hp]at hx
    refine lx V (rid:=rid) (n:=n) (b:=_) false (fun _ i o ho=>?_) jm DP hQ _ 0 st Z ψ a w (oi ops) hx ⟨k,t,fun d=>?_,fun i ty cs hb=>?_⟩
    ·have:=Array.any_eq_false'.1 Py o (Array.mem_of_getElem? ho)
     simpa using this
    ·exact(aJ.top _).imp fun id _ h=>by cases h
    ·exact(aC.top _).imp fun id _ h=>by cases h
   |true =>
    have hp:kU false rid ops st={ tmps:=st.tmps.map fun p=>(p.1,bE rid p.2),heap:=mU rid st.heap }:=by unfold kU;rw[Py];rfl
    rw[hp]at hx
    refine lx V (rid:=rid) (n:=n) (b:=_) true (fun h=>by cases h) jm DP hQ _ 0 _ Z ψ a w (oi ops) hx ⟨pk,by rw[DQ];exact pt,fun d=>?_,fun i ty cs hb=>?_⟩
    ·rw[DQ]
     exact(pH _).imp fun id h1 _ h2=>(h1 h2).elim
    ·exact(pm i ty cs hb).imp fun id h1 _ h2=>(h1 h2).elim
  |true =>
   have hp:kU true rid ops st={ tmps:=st.tmps.map fun p=>(p.1,bE rid p.2),heap:=mU rid st.heap }:=by unfold kU;rw[Bool.true_or];rfl
   rw[hp]at hx
   simp only[Bool.not_true,Bool.false_or,Bool.and_eq_true]at hdr
   obtain⟨aeG,ZJ,DE⟩:=hdr
   refine wp_region_any hm ?_
   obtain⟨T,H,E,h1,h2,h3,eJ,h4,h5,h6⟩:=trace (kk:=kk) (r:=r) (ops.toList.zipIdx.map fun p=>(p.2,p.1)) 0 _ (oi ops) (by simp) hx
   rw[DQ]at h1
   have D:Dr P Eqs Sg F rid n ops b T H E:=⟨jm,aeG,ZJ,DP,DE,fun k o ho=>h3 k o (Nat.zero_le _) ho,fun id bO=>by
    rw[h2]at bO
    obtain⟨o,ho⟩:=Option.ne_none_iff_exists'.1 bO
    exact(iC ho).1⟩
   have yd:∀k,¬((Array.replicate ops.size false).getD k false=true):=fun k hk=>by
    rw[Array.getD_eq_getD_getElem?,Array.getElem?_replicate]at hk
    split at hk<;>simp at hk
   rw[show max 0 ops.size=ops.size by omega]at h5 h6
   have w2:({ w with drawn:=w.drawn+1 }:World).heap=w.heap:=rfl
   refine D.any V (Z0:=Z0) (w0:=w0) (O:=O) (ψ0:=ψ0) (fun Z ψ a w j=>hQ eJ Z ψ a w h4 (by rw[h6];exact j.ok) (by rw[h5,h6];exact j.tr)) ops.size _ (T 0) (H 0) a _ Z ψ (by simp) ?_ ?_ ?_
   ·unfold lZ
    rw[List.filter_eq_self.2,List.length_range]
    intro k _
    have:=yd k
    simpa using this
   ·refine⟨fun i hi=>(yd i hi).elim,fun i j hi=>(yd i hi).elim,?_,fun j o d hj=>(yd j hj).elim,fun d _=>rfl⟩
    obtain⟨q,hq1,hq2,hq3⟩:=PM E (fun k=>(Array.replicate ops.size false).getD k false=true) ops.size
    refine⟨q,hq1,hq2,hq3,fun id=>⟨fun mA=>?_,fun mA=>?_⟩⟩
    ·symm
     refine D.zz q (Nat.zero_le _) hq1 (fun k _ hk hw=>(yd k (hq2 k hk hw)).elim) id fun k _ hk _ ho=>?_
     have:=mA (ho.parts (by omega)).1
     exact yd _ this
    ·rw[h2]
     apply Classical.not_not.1
     intro br
     obtain⟨o,ho⟩:=Option.ne_none_iff_exists'.1 br
     exact mA fun hr=>absurd hr (iC ho).1
   ·rw[h1,h2]
    refine⟨pk.A3 w2 rfl rfl rfl,pt.A3 w2,fun d=>(pH _).imp fun id h3 h4=>(h3 h4).elim,fun i ty cs hb=>(pm i ty cs hb).imp fun id h3 h4=>(h3 h4).elim⟩
 ·cases hx
end Go.Vs
