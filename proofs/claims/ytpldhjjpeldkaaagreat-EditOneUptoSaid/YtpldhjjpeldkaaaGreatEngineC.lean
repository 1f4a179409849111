/- The value semantics is sound, at calls and in regions. -/
import Derived.Test.YtpldhjjpeldkaaaGreatEngineB
import Derived.Maps.RangeRun
import Derived.ChangeMaps
set_option linter.unusedSimpArgs false
set_option linter.unusedVariables false
namespace Go.Vs
variable {P:Program} {Z Z':Nat→Prop} {ψ ψ':Nat→Value} {h h':Hp} {w w':World} {B0:Nat} {O:Nat→Prop} {N:Nat→Prop}
theorem eR:∀(k:K) (x:k.T),(enc k x).length=k.sz
 | .int _,_=>rfl
 | .bool,_=>rfl
 | .str,_=>rfl
 | .sl _,_=>rfl
 | .mp _ _,_=>rfl
 | .pair a b,x=>by simp only [enc,List.length_append,K.sz];rw [eR a,eR b]
 | .one k,x=>by simp only [enc,K.sz];exact eR k x
theorem pX(hh:Heap):∀(k:K) (x:k.T),(enc k x).map (cF hh)=enc k x
 | .int _,_=>rfl
 | .bool,_=>rfl
 | .str,_=>rfl
 | .sl _,_=>rfl
 | .mp _ _,_=>rfl
 | .pair a b,x=>by simp only [enc,List.map_append];rw [pX hh a,pX hh b]
 | .one k,x=>by simp only [enc];exact pX hh k x
theorem lg:∀(k:K) (x:k.T) (id:Nat),AV.bF id∉enc k x
 | .int _,_,_=>by simp [enc]
 | .bool,_,_=>by simp [enc]
 | .str,_,_=>by simp [enc]
 | .sl _,_,_=>by simp [enc]
 | .mp _ _,_,_=>by simp [enc]
 | .pair a b,x,id=>by
  simp only [enc,List.mem_append]
  rintro (h | h)
  ·exact lg a _ id h
  ·exact lg b _ id h
 | .one k,x,id=>by simp only [enc];exact lg k x id
theorem vv{hh:Heap}{ok:OK}{n:Nat}{xs:ok.T}(hg:hh.get n=some (.own ok xs)):dD hh ok (.bF n)=some xs:=by
 simp [dD,hg]
theorem od{hh:Heap}:∀(c9:List CK) (n:Nat) (x:py c9),(∀e∈aU c9 n x,hh.get e.1=some e.2)→cG c9 hh (aB c9 n x)=some x
 | [],n,x,_=>rfl
 | .val k::r,n,x,hg=>by
  have h1:(aB (.val k::r) n x).take k.sz=enc k x.1:=by simp only [aB];rw [←eR k x.1,List.take_left]
  have h2:(aB (.val k::r) n x).drop k.sz=aB r (n+1) x.2:=by simp only [aB];rw [←eR k x.1,List.drop_left]
  have e:cG (.val k::r) hh (aB (.val k::r) n x)=(match dH k (((aB (.val k::r) n x).take k.sz).map (cF hh)),cG r hh ((aB (.val k::r) n x).drop k.sz) with
   | some x,some y=>some ((x,y):k.T×py r)
   | _,_=>none):=by generalize aB (.val k::r) n x=l;cases l<;>rfl
  have h4:dH k (((aB (.val k::r) n x).take k.sz).map (cF hh))=some x.1:=by
   rw [h1];exact (congrArg (dH k) (pX hh k x.1)).trans (sS k x.1)
  have h5:cG r hh ((aB (.val k::r) n x).drop k.sz)=some x.2:=by
   rw [h2];exact od r (n+1) x.2 hg
  rw [e]
  generalize dH k (((aB (.val k::r) n x).take k.sz).map (cF hh))=o1 at h4 ⊢
  generalize cG r hh ((aB (.val k::r) n x).drop k.sz)=o2 at h5 ⊢
  subst h4;subst h5;rfl
 | .own ok::r,n,x,hg=>by
  simp only [aU] at hg
  have h1:=vv (hg _ List.mem_cons_self)
  have h2:=od r (n+1) x.2 (fun e he=>hg e (List.mem_cons_of_mem _ he))
  have e:cG (.own ok::r) hh (aB (.own ok::r) n x)=(match dD hh ok (.bF n),cG r hh (aB r (n+1) x.2) with
   | some x,some y=>some ((x,y):ok.T×py r)
   | _,_=>none):=rfl
  rw [e,h1,h2]
  rfl
theorem Le{hh:Heap}(b:BK){i n:Nat}{x:b.T}(hg:∀e∈iH b i n x,hh.get e.1=some e.2):oU b hh i=some x:=by
 cases b with
 | box ty c =>
  simp only [iH] at hg
  have h1:E5 hh i ty=some (aB c n x):=by
   unfold E5
   rw [hg _ List.mem_cons_self]
   simp
  simp only [oU,h1]
  exact od (hh:=hh) c n x (fun e he=>hg e (List.mem_cons_of_mem _ he))
 | own ok=>exact vv (hg _ (by simp only [iH];exact List.mem_cons_self))
theorem wV{hh:Heap}:∀(bs:List BK) (is:List Nat) (n:Nat) (x:u5 bs),is.length=bs.length→(∀e∈bq bs is n x,hh.get e.1=some e.2)→cQ bs hh is=some x
 | [],[],n,x,_,_=>rfl
 | [],_::_,n,x,hl,_=>by simp at hl
 | _::_,[],n,x,hl,_=>by simp at hl
 | b::r,i::is,n,x,hl,hg=>by
  simp only [bq] at hg
  have h2:=Le b (fun e he=>hg e (List.mem_append_left _ he))
  have h3:=wV r is (n+16) x.2 (by simpa using hl) (fun e he=>hg e (List.mem_append_right _ he))
  have e:cQ (b::r) hh (i::is)=(match oU b hh i,cQ r hh is with
    | some x,some y=>some ((x,y):b.T×u5 r)
    | _,_=>none):=rfl
  rw [e,h2,h3]
  rfl
theorem vw{i:Nat}{o:Ob}:∀{hh:Heap},b4 (hh.map (·.1))=true→(i,o)∈hh→hh.get i=some o
 | [],_,h=>by cases h
 | (j,o')::r,hn,h=>by
  obtain ⟨h1,h2⟩:=lS hn
  simp only [Heap.get]
  rcases List.mem_cons.1 h with e | h
  ·cases e;simp
  ·rw [if_neg,vw h2 h]
   rintro rfl
   exact h1 (List.mem_map.2 ⟨_,h,rfl⟩)
theorem yd{hh:Heap}:∀(c9:List CK) (n:Nat) (x:py c9) (id:Nat),AV.bF id∉oT c9 (aB c9 n x)
 | [],n,x,id=>by simp [aB,oT]
 | .val k::r,n,x,id=>by
  have h1:(aB (.val k::r) n x).take k.sz=enc k x.1:=by simp only [aB];rw [←eR k x.1,List.take_left]
  have h2:(aB (.val k::r) n x).drop k.sz=aB r (n+1) x.2:=by simp only [aB];rw [←eR k x.1,List.drop_left]
  have e:oT (.val k::r) (aB (.val k::r) n x)=(aB (.val k::r) n x).take k.sz++oT r ((aB (.val k::r) n x).drop k.sz):=by generalize aB (.val k::r) n x=l;cases l<;>rfl
  rw [e,h1,h2,List.mem_append]
  rintro (h | h)
  ·exact lg k x.1 id h
  ·exact yd (hh:=hh) r (n+1) x.2 id h
 | .own ok::r,n,x,id=>by simp only [aB,oT];exact yd (hh:=hh) r (n+1) x.2 id
theorem zF{hh:Heap}:∀(bs:List BK) (is:List Nat) (n:Nat) (x:u5 bs) (id:Nat),(∀e∈bq bs is n x,hh.get e.1=some e.2)→AV.bF id∉fC bs hh is
 | [],is,n,x,id,_=>by cases is<;>simp [fC]
 | _::_,[],n,x,id,_=>by simp [fC]
 | b::r,i::is,n,x,id,hg=>by
  simp only [bq] at hg
  simp only [fC,List.mem_append]
  rintro (h | h)
  ·cases b with
   | box ty c =>
    simp only [yO] at h
    rw [hg (i,.box ty (aB c n x.1)) (List.mem_append_left _ (by simp only [iH];exact List.mem_cons_self))] at h
    exact yd (hh:=hh) c n x.1 id h
   | own ok=>simp [yO] at h
  ·exact zF r is (n+16) x.2 id (fun e he=>hg e (List.mem_append_right _ he)) h
theorem Cz{hh:Heap}:∀(cap:List AV) (is is':List Nat) (vs:List Value),ji cap=some is→is'.length=is.length→(∀p∈is.zip is',hh.get p.1≠none∧(h' p.2≠none→ψ' p.2=ψ p.1)) →
  ao Z ψ hh.get w cap vs→ao Z' ψ' h' w (is'.map fun i=>.ref i 0 0 0) vs
 | [],is,is',vs,h1,hl,_,hr=>by
  simp only [ji] at h1
  cases h1
  cases is' with
  | nil=>simpa only [List.map_nil,ao] using hr
  | cons c r=>simp at hl
 | v::cap,is,is',vs,h1,hl,hp,hr=>by
  simp only [ji] at h1
  split at h1
  ·rename_i i is1 h3 h4
   cases h1
   cases is' with
   | nil=>simp at hl
   | cons c r =>
    simp only [List.zip_cons_cons] at hp
    simp only [List.map_cons,ao] at hr ⊢
    obtain ⟨u,us,rfl,h7,h8⟩:=hr
    obtain ⟨sz,rfl⟩:=n6 h3
    obtain ⟨h5,h6⟩:=hp _ List.mem_cons_self
    exact ⟨u,us,rfl,ya h7 h5 h6,Cz cap is1 r us h4 (by simpa using hl) (fun p h=>hp p (List.mem_cons_of_mem _ h)) h8⟩
  ·cases h1
theorem rQ:∀(cap:List AV) (is:List Nat),ji cap=some is→is.length=cap.length
 | [],is,h=>by simp only [ji] at h;cases h;rfl
 | v::cap,is,h=>by
  simp only [ji] at h
  split at h
  ·rename_i i is1 h3 h4
   cases h
   simp [rQ cap is1 h4]
  ·cases h
theorem rR:∀(cs:List AV) (is:List Nat),nO cs=some is→is.length=cs.length
 | [],is,h=>by simp only [nO] at h;cases h;rfl
 | c::r,is,h=>by
  cases c<;>simp only [nO] at h<;>first | (cases h;done) | skip
  split at h
  ·rename_i is' h1
   cases h
   simp [rR r is' h1]
  ·cases h
theorem CA{hh:Heap}:∀(cs:List AV) (is fU:List Nat) (vs:List Value),nO cs=some is→fU.length=is.length→(∀p∈is.zip fU,hh.get p.1≠none∧(h' p.2≠none→ψ' p.2=ψ p.1)) →
  ao Z ψ hh.get w cs vs→ao Z' ψ' h' w (fU.map .bF) vs
 | [],is,fU,vs,h,hl,hp,hr=>by
  simp only [nO] at h
  cases h
  have:fU=[]:=List.eq_nil_of_length_eq_zero hl
  subst this
  simpa only [List.map_nil,ao] using hr
 | c::r,is,fU,vs,h,hl,hp,hr=>by
  cases c<;>simp only [nO] at h<;>first | (cases h;done) | skip
  rename_i i
  split at h
  ·rename_i is' h1
   cases h
   cases fU with
   | nil=>simp at hl
   | cons i' fU =>
    simp only [List.zip_cons_cons] at hp
    obtain ⟨h5,h6⟩:=hp _ List.mem_cons_self
    simp only [List.map_cons,ao] at hr ⊢
    obtain ⟨u,us,rfl,h3,h4⟩:=hr
    refine ⟨u,us,rfl,?_,CA r is' fU us h1 (by simpa using hl) (fun p Nm=>hp p (List.mem_cons_of_mem _ Nm)) h4⟩
    simp only [ax] at h3 ⊢
    exact ⟨h3.1,fun hn=>(h3.2 h5).trans (h6 hn).symm⟩
  ·cases h
theorem kJ{hh:Heap}(g:Good Z ψ hh.get w B0 O)(hz:∀b,Z b→Z' b):∀(ps:List PK) (ids fU:List Nat) (s:Nat) (vs:List AV) (us:List Value) (x:E4 (kg ps)),fU.length=ids.length→cx ps vs=some ids→dX ps hh vs=some x →
  (∀id b,AV.bF id∈c8 ps vs→hh.get id≠none→ob (ψ id)=some b→Z' b)→(∀p∈ids.zip fU,hh.get p.1≠none∧(h' p.2≠none→ψ' p.2=ψ p.1))→ao Z ψ hh.get w vs us→ao Z' ψ' h' w ((aQ ps fU s x).map (·.2)) us
 | [],ids,fU,s,vs,us,x,hl,hi,hv,hf,hp,hr=>by
  cases vs with
  | nil=>simpa only [aQ,List.map_nil,ao] using hr
  | cons a r=>simp [cx] at hi
 | .val k::ps,ids,fU,s,vs,us,x,hl,hi,hv,hf,hp,hr=>by
  cases vs with
  | nil=>simp [cx] at hi
  | cons a r =>
   simp only [cx] at hi
   simp only [ao] at hr
   obtain ⟨u,iB,rfl,h3,h4⟩:=hr
   obtain ⟨h1,h2⟩:=wT hv
   simp only [c8] at hf
   simp only [aQ,List.map_cons,ao]
   exact ⟨u,iB,rfl,qM g hz (fun id b bO=>hf id b (List.mem_append_left _ bO)) h1 h3,kJ g hz ps ids fU (s+1) r iB x.2 hl hi h2 (fun id b bO=>hf id b (List.mem_append_right _ bO)) hp h4⟩
 | .ref::ps,ids,fU,s,vs,us,x,hl,hi,hv,hf,hp,hr=>by
  cases vs with
  | nil=>simp [cx] at hi
  | cons a r =>
   simp only [cx] at hi
   split at hi
   ·rename_i i is h1 h2
    cases hi
    simp only [ao] at hr
    obtain ⟨u,iB,rfl,h3,h4⟩:=hr
    cases fU with
    | nil=>simp at hl
    | cons i' is' =>
     simp only [List.zip_cons_cons] at hp
     obtain ⟨sz,rfl⟩:=n6 h1
     obtain ⟨h5,h6⟩:=hp _ List.mem_cons_self
     simp only [aQ,List.map_cons,ao]
     exact ⟨u,iB,rfl,ya h3 h5 h6,kJ g hz ps is is' (s+1) r iB x (by simpa using hl) h2 hv hf (fun p h=>hp p (List.mem_cons_of_mem _ h)) h4⟩
   ·cases hi
 | .own::ps,ids,fU,s,vs,us,x,hl,hi,hv,hf,hp,hr=>by
  cases vs with
  | nil=>simp [cx] at hi
  | cons a r =>
   cases a<;>simp only [cx] at hi<;>first | (cases hi;done) | skip
   rename_i i
   split at hi
   ·rename_i is h2
    cases hi
    simp only [ao] at hr
    obtain ⟨u,iB,rfl,h3,h4⟩:=hr
    cases fU with
    | nil=>simp at hl
    | cons i' is' =>
     simp only [List.zip_cons_cons] at hp
     obtain ⟨h5,h6⟩:=hp _ List.mem_cons_self
     simp only [aQ,List.map_cons,ao]
     refine ⟨u,iB,rfl,?_,kJ g hz ps is is' (s+1) r iB x (by simpa using hl) h2 hv hf (fun p h=>hp p (List.mem_cons_of_mem _ h)) h4⟩
     simp only [ax] at h3 ⊢
     exact ⟨h3.1,fun hn=>(h3.2 h5).trans (h6 hn).symm⟩
   ·cases hi
 | .E3 f m::ps,ids,fU,s,vs,us,x,hl,hi,hv,hf,hp,hr=>by
  cases vs with
  | nil=>simp [cx] at hi
  | cons a r =>
   cases a<;>simp only [cx] at hi<;>first | (cases hi;done) | skip
   rename_i f' cap
   split at hi
   ·rename_i hc
    obtain ⟨rfl,sG⟩:=hc
    split at hi
    ·rename_i a1 b1 h1 h2
     cases hi
     simp only [ao] at hr
     obtain ⟨u,iB,rfl,h3,h4⟩:=hr
     have h5:=rQ cap a1 h1
     have wN:(a1++b1).zip fU=a1.zip (fU.take m)++b1.zip (fU.drop m):=by
      conv=>lhs;rw [←List.take_append_drop m fU]
      rw [List.zip_append]
      rw [List.length_take,Nat.min_eq_left]
      ·omega
      ·rw [hl,List.length_append];omega
     rw [wN] at hp
     simp only [aQ,List.map_cons,ao]
     refine ⟨u,iB,rfl,?_,kJ g hz ps b1 (fU.drop m) (s+1) r iB x (by rw [List.length_drop,hl,List.length_append];omega) h2 hv hf (fun p h=>hp p (List.mem_append_right _ h)) h4⟩
     simp only [ax] at h3 ⊢
     obtain ⟨ws,h6,h7⟩:=h3
     exact ⟨ws,h6,Cz cap a1 (fU.take m) _ h1 (by rw [List.length_take,Nat.min_eq_left (by rw [hl,List.length_append];omega)];omega) (fun p h=>hp p (List.mem_append_left _ h)) h7⟩
    ·cases hi
   ·cases hi
 | .agg m::ps,ids,fU,s,vs,us,x,hl,hi,hv,hf,hp,hr=>by
  cases vs with
  | nil=>simp [cx] at hi
  | cons a r =>
   cases a<;>simp only [cx] at hi<;>first | (cases hi;done) | skip
   rename_i cs
   split at hi
   ·rename_i sG
    split at hi
    ·rename_i a1 b1 h1 h2
     cases hi
     simp only [ao] at hr
     obtain ⟨u,iB,rfl,h3,h4⟩:=hr
     have h5:=rR cs a1 h1
     have wN:(a1++b1).zip fU=a1.zip (fU.take m)++b1.zip (fU.drop m):=by
      conv=>lhs;rw [←List.take_append_drop m fU]
      rw [List.zip_append]
      rw [List.length_take,Nat.min_eq_left]
      ·omega
      ·rw [hl,List.length_append];omega
     rw [wN] at hp
     simp only [aQ,List.map_cons,ao]
     refine ⟨u,iB,rfl,?_,kJ g hz ps b1 (fU.drop m) (s+1) r iB x (by rw [List.length_drop,hl,List.length_append];omega) h2 hv hf (fun p h=>hp p (List.mem_append_right _ h)) h4⟩
     simp only [ax] at h3 ⊢
     obtain ⟨ws,h6,h7⟩:=h3
     exact ⟨ws,h6,CA cs a1 (fU.take m) _ h1 (by rw [List.length_take,Nat.min_eq_left (by rw [hl,List.length_append];omega)];omega) (fun p h=>hp p (List.mem_append_left _ h)) h7⟩
    ·cases hi
   ·cases hi
theorem Lf(hh:Heap)(k:K)(x:k.T):fw k hh (b8 k x)=some x:=by
 unfold fw
 rw [if_pos (zx k x).symm,sV]
 exact (congrArg (dH k) (pX hh k x)).trans (sS k x)
theorem lW:∀(c9:List CK) (c n:Nat) (x:py c9),fz c9 c=true→(aB c9 n x)[lO c9 c]? = some (.bF (n+c))
 | [],c,n,x,h=>by simp [fz] at h
 | .val k::r,0,n,x,h=>by simp [fz] at h
 | .val k::r,c+1,n,x,h=>by
  simp only [aB,lO]
  have ih:=lW r c (n+1) x.2 (by simpa [fz] using h)
  have hl:(enc k x.1).length=k.sz:=eR k x.1
  generalize enc k x.1=l at hl ⊢
  rw [List.getElem?_append_right (by omega),hl,Nat.add_sub_cancel_left,show n+(c+1)=n+1+c by omega]
  exact ih
 | .own ok::r,0,n,x,h=>by simp [aB,lO]
 | .own ok::r,c+1,n,x,h=>by
  simp only [aB,lO]
  rw [Nat.add_comm 1,List.getElem?_cons_succ,show n+(c+1)=n+1+c by omega]
  exact lW r c (n+1) x.2 (by simpa [fz] using h)
theorem wW:∀(bs:List BK) (b:Nat) (is:List Nat) (n:Nat) (x:u5 bs) (ty:TypeId) (c:List CK) (bi:Nat),bs[b]? = some (.box ty c)→is[b]? = some bi→∃xb,(bi,.box ty (aB c (n+16 * b) xb))∈bq bs is n x
 | [],b,is,n,x,_,_,bi,h,_=>by simp at h
 | b0::r,b,[],n,x,_,_,bi,_,h=>by simp at h
 | b0::r,0,i::is,n,x,ty,c,bi,h1,h2=>by
  simp only [List.getElem?_cons_zero,Option.some.injEq] at h1 h2
  subst h1;subst h2
  exact ⟨x.1,by simp only [bq,iH];exact List.mem_append_left _ List.mem_cons_self⟩
 | b0::r,b+1,i::is,n,x,ty,c,bi,h1,h2=>by
  obtain ⟨xb,h3⟩:=wW r b is (n+16) x.2 ty c bi (by simpa using h1) (by simpa using h2)
  refine ⟨xb,?_⟩
  simp only [bq]
  rw [show n+16 * (b+1)=n+16+16 * b by omega]
  exact List.mem_append_right _ h3
theorem lh{bs:List BK}{hh:Heap}{is:List Nat}{nb:Nat}{xb:u5 bs}(hl:is.length=bs.length)(QZ:∀e∈bq bs is nb xb,hh.get e.1=some e.2):∀(rs:List RK) (ids2:List Nat) (m:Nat) (y:kT rs),pG bs rs=true →
  (∀e∈ak rs m y,hh.get e.1=some e.2)→bG bs rs hh is (aR rs ids2 nb m y)=some y
 | [],ids2,m,y,_,_=>rfl
 | .val k::r,ids2,m,y,hk,hg=>by
  simp only [pG,List.all_cons,Bool.and_eq_true,BO] at hk
  have h1:=Lf hh k y.1
  have h2:=lh hl QZ r ids2 (m+1) y.2 hk.2 hg
  have e:bG bs (.val k::r) hh is (aR (.val k::r) ids2 nb m y)=(match fw k hh (b8 k y.1),bG bs r hh is (aR r ids2 nb (m+1) y.2) with
   | some x,some y=>some ((x,y):k.T×kT r)
   | _,_=>none):=rfl
  rw [e]
  generalize fw k hh (b8 k y.1)=o1 at h1 ⊢
  generalize bG bs r hh is (aR r ids2 nb (m+1) y.2)=o2 at h2 ⊢
  subst h1;subst h2;rfl
 | .own ok::r,ids2,m,y,hk,hg=>by
  simp only [pG,List.all_cons,Bool.and_eq_true,BO] at hk
  simp only [ak] at hg
  have h1:=vv (hg _ List.mem_cons_self)
  have h2:=lh hl QZ r ids2 (m+1) y.2 hk.2 (fun e he=>hg e (List.mem_cons_of_mem _ he))
  have e:bG bs (.own ok::r) hh is (aR (.own ok::r) ids2 nb m y)=(match dD hh ok (.bF m),bG bs r hh is (aR r ids2 nb (m+1) y.2) with
   | some x,some y=>some ((x,y):ok.T×kT r)
   | _,_=>none):=rfl
  rw [e]
  generalize dD hh ok (.bF m)=o1 at h1 ⊢
  generalize bG bs r hh is (aR r ids2 nb (m+1) y.2)=o2 at h2 ⊢
  subst h1;subst h2;rfl
 | .ed b alts::r,ids2,m,y,hk,hg=>by
  simp only [pG,List.all_cons,Bool.and_eq_true,BO] at hk
  have h2:=lh hl QZ r ids2 (m+1) y.2 hk.2 hg
  have h1:mj bs hh is b alts (tz b nb alts y.1)=some y.1:=by
   cases hy:y.1 with
   | none=>rfl
   | some p =>
    obtain ⟨al,i⟩:=p
    have h3:=hk.1
    split at h3
    ·rename_i bk Xd
     have aJ:=(List.getElem?_eq_some_iff.1 Xd).1
     have Lg:is[b]? = some (is[b]'(by omega)):=List.getElem?_eq_getElem (by omega)
     rw [Bool.and_eq_true,decide_eq_true_eq] at h3
     obtain ⟨h3,EZ⟩:=h3
     have Xe:∀a:Fin alts.length,fz bk.c9 (alts.get a).1=true:=fun a=>List.all_eq_true.1 h3 _ (List.get_mem alts a)
     cases bk with
     | own ok=>have:=Xe al;simp [BK.c9,fz] at this
     | box ty c0 =>
      obtain ⟨xb',h4⟩:=wW bs b is nb xb ty c0 _ Xd Lg
      have h5:=QZ _ h4
      simp only [BK.c9] at Xe
      simp only [mj,tz,Xd,Lg,h5,BK.c9]
      have key:(List.finRange alts.length).find? (fun a=>wG c0 (aB c0 (nb+16 * b) xb') (nb+16 * b+(alts.get al).1) (alts.get al).2.1 (alts.get al).2.2 (alts.get a))=some al:=by
       cases hf:(List.finRange alts.length).find? (fun a=>wG c0 (aB c0 (nb+16 * b) xb') (nb+16 * b+(alts.get al).1) (alts.get al).2.1 (alts.get al).2.2 (alts.get a)) with
       | none =>
        have:=List.find?_eq_none.1 hf al (List.mem_finRange al)
        exfalso
        apply this
        simp only [wG,Bool.and_eq_true,decide_eq_true_eq]
        refine ⟨?_,trivial,trivial,Xe al⟩
        rw [lW c0 _ _ xb' (Xe al)]
        simp [MR]
       | some a' =>
        have hf':=List.find?_some hf
        obtain ⟨h6,_,h7,_⟩:=zB hf'
        rw [lW c0 _ _ xb' (Xe a')] at h6
        simp only [Option.some.injEq,AV.bF.injEq] at h6
        have h8:(alts.get a').1=(alts.get al).1:=by omega
        congr 1
        have mw:∀a:Fin alts.length,(alts.map fun a=>(a.1,a.2.2))[a.val]? = some ((alts.get a).1,(alts.get a).2.2):=fun a=>by
         rw [List.getElem?_map,List.getElem?_eq_getElem a.isLt];rfl
        have e1:=mw a'
        have e2:=mw al
        rw [h8,←h7] at e1
        exact Fin.ext ((List.getElem?_inj (by simp) EZ).1 (e1.trans e2.symm))
      rw [key]
      rfl
    ·cases h3
  have e:bG bs (.ed b alts::r) hh is (aR (.ed b alts::r) ids2 nb m y)=(match mj bs hh is b alts (tz b nb alts y.1),bG bs r hh is (aR r ids2 nb (m+1) y.2) with
   | some x,some y=>some ((x,y):Option (Fin alts.length×Nat)×kT r)
   | _,_=>none):=rfl
  rw [e]
  generalize mj bs hh is b alts (tz b nb alts y.1)=o1 at h1 ⊢
  generalize bG bs r hh is (aR r ids2 nb (m+1) y.2)=o2 at h2 ⊢
  subst h1;subst h2;rfl
 | .agg c::r,ids2,m,y,hk,hg=>by
  simp only [pG,List.all_cons,Bool.and_eq_true,BO] at hk
  simp only [ak] at hg
  have h1:=od (hh:=hh) c m y.1 (fun e he=>hg e (List.mem_append_left _ he))
  have h2:=lh hl QZ r ids2 (m+1) y.2 hk.2 (fun e he=>hg e (List.mem_append_right _ he))
  have e:bG bs (.agg c::r) hh is (aR (.agg c::r) ids2 nb m y)=(match cG c hh (aB c m y.1),bG bs r hh is (aR r ids2 nb (m+1) y.2) with
   | some x,some y=>some ((x,y):py c×kT r)
   | _,_=>none):=rfl
  rw [e]
  generalize cG c hh (aB c m y.1)=o1 at h1 ⊢
  generalize bG bs r hh is (aR r ids2 nb (m+1) y.2)=o2 at h2 ⊢
  subst h1;subst h2;rfl
end Go.Vs
namespace Go.Vs
variable {P:Program} {Z Z':Nat→Prop} {ψ ψ':Nat→Value} {h h':Hp} {w w':World} {B0:Nat} {O:Nat→Prop} {N:Nat→Prop}
def og(g:aL)(x:g.A):Hp:=(bq g.bs (aP g.bs.length) 2000 x.2).get
def jv(g:aL)(y:g.B):Heap:=bq g.bs (aP g.bs.length) 2000 y.2++ak g.rs 3000 y.1
def DT(g:aL)(x:g.A):List AV:=(aQ g.ps (aP g.bs.length) 0 x.1).map (·.2)
def CB(P:Program)(f:FuncId)(g:aL)(x:g.A)(y:g.B):Prop :=
 ∀(Z:Nat→Prop) (ψ0:Nat→Value) (w:World) (jS:List Value),Good Z ψ0 (og g x) w w.heap.size (Own ψ0 (og g x))→ao Z ψ0 (og g x) w (DT g x) jS →
  Calls P (f % 1000) jS.toArray w fun e w'=>∃v Z' ψ',e=.returned v∧(∀b,Z b→Z' b)∧(∀b,Z' b→Z b∨Own ψ0 (og g x) b∨w.heap.size≤b)∧cT ψ0 (og g x) w w' ∧
   Good Z' ψ' (jv g y).get w' w.heap.size (Own ψ0 (og g x))∧(∀i∈aP g.bs.length,ψ' i=ψ0 i)∧ax Z' ψ' (jv g y).get w' (eI (aR g.rs (aP g.bs.length) 2000 3000 y.1)) v
theorem DU{ψ:Nat→Value}{b:Nat}:¬Own ψ fH b:=fun ⟨_,h,_⟩=>h rfl
theorem tW(ids:List Nat)(n:Nat)(x:u5 []):bq [] ids n x=[]:=by cases ids<;>rfl
theorem CB.zero{f:FuncId}{g:aL}{x:g.A}{y:g.B}(hb:g.bs=[])(c:CB P f g x y):WY P f g x y:=by
 obtain ⟨ps,bs,rs,_⟩:=g
 simp only at hb
 subst hb
 intro Z w jS hz hr
 have e0:og ⟨ps,[],rs,_⟩ x=fH:=by unfold og;rw [tW];rfl
 have e1:jv ⟨ps,[],rs,_⟩ y=ak rs 3000 y.1:=by unfold jv;rw [tW];rfl
 have hO:Own HP fH=fun _=>False:=funext fun b=>propext ⟨DU,False.elim⟩
 unfold CB at c
 rw [e0,e1] at c
 refine (c Z HP w jS ⟨fun _ _ _ h=>(by cases h),fun _ _ _ h=>(by cases h),fun _ _ h=>absurd rfl h,fun _ _ _ h=>absurd rfl h,hz⟩ hr).mono fun e w' ⟨v,Z',ψ',h1,h2,h3,h4,h5,_,h6⟩ => ?_
 exact ⟨v,Z',ψ',h1,h2,fun b hb=>(h3 b hb).imp (fun h=>h) fun h=>h.resolve_left DU,h4,by rw [hO] at h5;exact h5,h6⟩
theorem Fx{bs:List BK}{hh:Heap}{x:u5 bs}(hd:cQ bs hh []=some x):bs=[]:=by
 cases bs with
 | nil=>rfl
 | cons b r=>cases hd
variable {Eqs:TypeId→Option K} {Sg:FuncId→Option aL} {F:(f:FuncId)→(g:aL)→g.A→Option g.B}
theorem Fy{a b:List Nat}(h:b4 (a++b)=true):b4 a=true:=by
 induction a with
 | nil=>rfl
 | cons i r ih =>
  obtain ⟨h1,h2⟩:=lS h
  simp only [b4,Bool.and_eq_true,Bool.not_eq_true']
  refine ⟨?_,ih h2⟩
  cases hc:r.contains i with
  | false=>rfl
  | true=>exact absurd (List.mem_append_left _ (List.contains_iff_mem.1 hc)) h1
theorem Good.DV(g:Good Z ψ h w B0 O)(B:Nat):Good Z ψ h w B (Own ψ h) :=
 ⟨g.box,g.row,fun id b h1 h2=>⟨(g.live id b h1 h2).1,.inr ⟨id,h1,h2⟩⟩,g.apart,g.jm⟩
theorem mY:∀(l:List Nat) (hh:Heap) (i:Nat),(gx hh l).get i=if i∈l then none else hh.get i
 | [],hh,i=>by simp [gx]
 | j::r,hh,i=>by
  simp only [gx]
  rw [mY r (hh.del j) i]
  by_cases h1:i∈r
  ·simp [h1]
  ·by_cases h2:i=j
   ·subst h2;simp [Heap.fS]
   ·rw [Heap.gX h2];simp [h1,h2]
theorem gH:∀(c9:List CK) (n:Nat) (x:py c9),(aU c9 n x).map (·.1)=cc c9 n
 | [],_,_=>rfl
 | .val k::r,n,x=>gH r (n+1) x.2
 | .own ok::r,n,x=>by simp only [aU,cc,List.map_cons];rw [gH r (n+1) x.2]
theorem lj:∀(bs:List BK) (is:List Nat) (n:Nat) (x:u5 bs),is.length=bs.length→(bq bs is n x).map (·.1)=bX bs is n
 | [],is,n,x,_=>by cases is<;>rfl
 | b::r,[],n,x,hl=>by simp at hl
 | b::r,i::is,n,x,hl=>by
  simp only [bq,bX,List.map_append]
  rw [lj r is (n+16) x.2 (by simpa using hl),←List.cons_append]
  congr 1
  cases b with
  | box ty c=>simp only [iH,List.map_cons,BK.c9];rw [gH]
  | own ok=>simp [iH,BK.c9,cc]
theorem fg:∀(rs:List RK) (m:Nat) (y:kT rs),(ak rs m y).map (·.1)=br rs m
 | [],_,_=>rfl
 | .own ok::r,m,y=>by simp only [ak,br,List.map_cons];rw [fg r (m+1) y.2]
 | .val _::r,m,y=>fg r (m+1) y.2
 | .ed _ _::r,m,y=>fg r (m+1) y.2
 | .agg c::r,m,y=>by
  have e1:(aU c m y.1).map (·.1)=cc c m:=gH c m y.1
  simp only [ak,br,List.map_append]
  rw [fg r (m+1) y.2]
  exact congrArg (·++_) e1
theorem oi:∀(c9:List CK) (n:Nat) (x:py c9),fk c9 (aB c9 n x)=cc c9 n
 | [],_,_=>rfl
 | .val k::r,n,x=>by
  have h2:(aB (.val k::r) n x).drop k.sz=aB r (n+1) x.2:=by simp only [aB];rw [←eR k x.1,List.drop_left]
  have e:fk (.val k::r) (aB (.val k::r) n x)=fk r ((aB (.val k::r) n x).drop k.sz):=by generalize aB (.val k::r) n x=l;cases l<;>rfl
  rw [e,h2,oi r (n+1) x.2];rfl
 | .own ok::r,n,x=>by simp only [aB,fk,nN,cc,List.cons_append,List.nil_append];rw [oi r (n+1) x.2]
theorem wX{hh:Heap}:∀(bs:List BK) (is:List Nat) (n:Nat) (x:u5 bs),is.length=bs.length→(∀e∈bq bs is n x,hh.get e.1=some e.2)→cS bs hh is=bX bs is n
 | [],is,n,x,_,_=>by cases is<;>rfl
 | _::_,[],n,x,hl,_=>by simp at hl
 | b::r,i::is,n,x,hl,hg=>by
  simp only [bq] at hg
  simp only [cS,bX]
  rw [wX r is (n+16) x.2 (by simpa using hl) (fun e he=>hg e (List.mem_append_right _ he)),←List.cons_append]
  congr 1
  cases b with
  | box ty c =>
   simp only [jH,BK.c9]
   rw [hg (i,.box ty (aB c n x.1)) (List.mem_append_left _ (by simp only [iH];exact List.mem_cons_self))]
   simp only []
   rw [oi]
  | own ok=>simp [jH,BK.c9,cc]
theorem jT:∀(rs:List RK) (ids:List Nat) (n m:Nat) (y:kT rs),dz rs (aR rs ids n m y)=br rs m
 | [],_,_,_,_=>rfl
 | .own ok::r,ids,n,m,y=>by simp only [aR,dz,br,nN,List.cons_append,List.nil_append];rw [jT r ids n (m+1) y.2]
 | .val _::r,ids,n,m,y=>by simp only [aR,dz,br];exact jT r ids n (m+1) y.2
 | .ed _ _::r,ids,n,m,y=>by simp only [aR,dz,br];exact jT r ids n (m+1) y.2
 | .agg c::r,ids,n,m,y=>by
  have e1:fk c (aB c m y.1)=cc c m:=oi c m y.1
  simp only [aR,dz,br,AV.cells]
  rw [jT r ids n (m+1) y.2]
  exact congrArg (·++_) e1
theorem lk:∀(rs:List RK) (ids:List Nat) (n m:Nat) (y:kT rs) (id:Nat),AV.bF id∉fD rs (aR rs ids n m y)
 | [],_,_,_,_,_=>by simp [aR,fD]
 | .own ok::r,ids,n,m,y,id=>by simp only [aR,fD];exact lk r ids n (m+1) y.2 id
 | .val k::r,ids,n,m,y,id=>by
  simp only [aR,fD,List.mem_append]
  rintro (h | h)
  ·have e:(b8 k y.1).cells=enc k y.1:=sV k y.1
   exact lg k y.1 id (e▸h)
  ·exact lk r ids n (m+1) y.2 id h
 | .ed _ _::r,ids,n,m,y,id=>by simp only [aR,fD];exact lk r ids n (m+1) y.2 id
 | .agg c::r,ids,n,m,y,id=>by
  simp only [aR,fD,AV.cells,List.mem_append]
  rintro (h | h)
  ·exact yd (hh:=[]) c m y.1 id h
  ·exact lk r ids n (m+1) y.2 id h
theorem Lh{gg:aL}{x:gg.A}{y:gg.B}{Nn:List Nat}{mN dL:Nat→Value}{id:Nat}(hl:Nn.length=gg.bs.length)(Us:pG gg.bs gg.rs=true)(tX:b4 (pz gg)=true)
  (zG:b4 (bX gg.bs Nn id++br gg.rs (id+128))=true) (No:Good Z' dL (jv gg y).get w' w.heap.size (Own mN (og gg x)))
  {v:Value} (abP:ax Z' dL (jv gg y).get w' (eI (aR gg.rs (aP gg.bs.length) 2000 3000 y.1)) v) :
  ∃L2:List wR,dm L2=bq gg.bs Nn id y.2++ak gg.rs (id+128) y.1∧L2.map (·.1)=bX gg.bs Nn id++br gg.rs (id+128) ∧
   Good Z' (ep dL L2) (dm L2).get w' w.heap.size (Own mN (og gg x))∧(∀p∈(aP gg.bs.length).zip Nn,ep dL L2 p.2=dL p.1) ∧
   ax Z' (ep dL L2) (dm L2).get w' (eI (aR gg.rs Nn id (id+128) y.1)) v:=by
 have hle:(aP gg.bs.length).length=gg.bs.length:=by simp [aP]
 have hn2:b4 ((jv gg y).map (·.1))=true:=by
  unfold jv
  rw [List.map_append,lj _ _ _ _ hle,fg];exact tX
 have QZ:∀e∈bq gg.bs (aP gg.bs.length) 2000 y.2,(jv gg y).get e.1=some e.2:=fun e he=>vw hn2 (by unfold jv;exact List.mem_append_left _ he)
 have hgr:∀e∈ak gg.rs 3000 y.1,(jv gg y).get e.1=some e.2:=fun e he=>vw hn2 (by unfold jv;exact List.mem_append_right _ he)
 have xX:=wV gg.bs _ 2000 y.2 hle QZ
 have Ry:=lh (xb:=y.2) hle QZ gg.rs (aP gg.bs.length) 3000 y.1 Us hgr
 let vsC:=aR gg.rs (aP gg.bs.length) 2000 3000 y.1
 let L2:List wR:=cq gg.bs (jv gg y) (aP gg.bs.length) Nn id y.2++cw gg.rs vsC (id+128) y.1
 have eH:dm L2=bq gg.bs Nn id y.2++ak gg.rs (id+128) y.1:=by
  show dm (_++_)=_
  rw [lU,iK _ _ _ _ _ _ xX hl,fT]
 have eN:L2.map (·.1)=bX gg.bs Nn id++br gg.rs (id+128):=by
  show (_++_:List wR).map _=_
  rw [List.map_append,gE _ _ _ _ _ _ xX hl,fe]
 have eS:L2.filterMap (·.2.1)=pz gg:=by
  show (_++_:List wR).filterMap _=_
  rw [List.filterMap_append,jQ _ _ _ _ _ _ xX hl,il _ _ _ _ Ry,wX _ _ 2000 y.2 hle QZ,jT];rfl
 have hn:b4 (L2.map (·.1))=true:=by rw [eN];exact zG
 have iE:=xZ (ψ:=dL) hn
 have g3:Good Z' (ep dL L2) (dm L2).get w' w.heap.size (Own mN (og gg x)):=by
  refine No.rename hn (by rw [eS];exact tX) fun e he => ?_
  rcases List.mem_append.1 he with he | he
  ·exact k9 No (fun _ h=>h) gg.bs _ _ id y.2 xX (fun i b bO _ _=>(zF gg.bs _ 2000 y.2 i QZ bO).elim) (fun s _=>rfl) (fun e he=>iE e (List.mem_append_left _ he)) e he
  ·exact ju gg.rs vsC (id+128) y.1 Ry (fun s _=>rfl) e he
 refine ⟨L2,eH,eN,g3,fun p hp => ?_,?_⟩
 ·obtain ⟨o,ho⟩:=jR (hh:=jv gg y) gg.bs (aP gg.bs.length) Nn id y.2 hle p hp
  exact ij hn (List.mem_append_left _ ho)
 ·refine sR (by rw [jJ,jJ]) (fun vs sH => ?_) abP
  exact qT (nb:=id) (is':=Nn) No (fun _ h=>h) xX hl (fun e he=>iE e (List.mem_append_left _ he)) gg.rs vsC (id+128) y.1 vs Ry (fun i b bO _ _=>(lk gg.rs _ _ _ y.1 i bO).elim) (fun e he=>iE e (List.mem_append_right _ he)) sH
theorem Li{hh:Heap}{ke:List AV}{kept:List Nat}{lJ:Hp}{mN Np:Nat→Value}{H2:Heap}(g:Good Z ψ hh.get w B0 O)(hB:B0≤w.heap.size)(HQ:∀s∈kept,(cC hh ke).get s=hh.get s)
  (bh:∀i ty cs,hh.get i=some (.box ty cs)→aC (fun i=>¬N i) cs) (sJ:∀b,Own mN lJ b→∃s,s∈kept∧hh.get s≠none∧ob (ψ s)=some b)
  (hz:∀b,po Z ψ hh.get ke b→Z' b) (MC:∀b,Z' b→po Z ψ hh.get ke b∨Own mN lJ b∨w.heap.size≤b) (keep:cT mN lJ w w') (g3:Good Z' Np H2.get w' w.heap.size (Own mN lJ))
  (Q0:∀i ty cs,H2.get i=some (.box ty cs)→aC (fun j=>H2.get j≠none) cs) (mu:∀i,H2.get i≠none→(i∈kept∧hh.get i≠none∧Np i=ψ i)∨N i) :
  ∃zH,(∀i,H2.get i≠none→zH i=Np i)∧Next Z ψ hh.get w B0 O N Z' zH (H2++gx (cC hh ke) kept).get w':=by
 classical
 let zH:Nat→Value:=fun i=>if H2.get i≠none then Np i else ψ i
 have h4:∀i,H2.get i≠none→zH i=Np i:=fun i hi=>if_pos hi
 have hg:∀i,(H2++gx (cC hh ke) kept).get i=(match H2.get i with | some o=>some o | none=>if i∈kept then none else (cC hh ke).get i):=fun i=>by rw [Heap.get_append,mY];cases H2.get i<;>rfl
 have BQ:∀i,H2.get i≠none→(H2++gx (cC hh ke) kept).get i=H2.get i:=fun i hi=>by
  rw [hg];cases e:H2.get i with
  | none=>exact absurd e hi
  | some o=>rfl
 have wY:∀i,H2.get i=none→(H2++gx (cC hh ke) kept).get i≠none→i∉kept∧(H2++gx (cC hh ke) kept).get i=hh.get i∧(cC hh ke).get i=hh.get i∧zH i=ψ i∧hh.get i≠none:=fun i hi bj=>by
  rw [hg,hi] at bj ⊢
  simp only at bj ⊢
  by_cases hk:i∈kept
  ·rw [if_pos hk] at bj;exact absurd rfl bj
  ·rw [if_neg hk] at bj ⊢
   obtain ⟨o,ho⟩:=Option.ne_none_iff_exists'.1 bj
   have:=dN _ _ _ _ ho
   exact ⟨hk,by rw [ho,this],by rw [ho,this],if_neg (by simp [hi]),by rw [this];simp⟩
 have Rz:∀i b,i∉kept→hh.get i≠none→ob (ψ i)=some b→¬Own mN lJ b:=fun i b hk hi hb ho=>by
  obtain ⟨s,h1,h2,h3⟩:=sJ b ho
  exact hk ((g.apart i s b hi h2 hb h3)▸h1)
 have gd:Good (po Z ψ hh.get ke) ψ (cC hh ke).get w B0 O:=gY g ke
 have Xf:∀b,po Z ψ hh.get ke b→¬Own mN lJ b:=fun b hb ho=>by
  obtain ⟨s,h1,h2,h3⟩:=sJ b ho
  exact (gd.live s b (by rw [HQ s h1];exact h2) h3).1 hb
 have sm:ck (po Z ψ hh.get ke) w w':=fun b hb=>keep.block b (gd.jm b hb) (Xf b hb)
 have Xg:∀i,(H2++gx (cC hh ke) kept).get i≠none→(hh.get i≠none∧zH i=ψ i)∨N i:=fun i hi=>by
  by_cases h2:H2.get i=none
  ·obtain ⟨_,_,_,h3,h5⟩:=wY i h2 hi
   exact .inl ⟨h5,h3⟩
  ·rcases mu i h2 with ⟨_,h3,h5⟩ | h3
   ·exact .inl ⟨h3,(h4 i h2).trans h5⟩
   ·exact .inr h3
 have kk:cT ψ hh.get w w':=⟨keep.os,keep.tape,keep.output,keep.size,fun b hb pq=>keep.block b hb fun ho=>by
  obtain ⟨s,_,h2,h3⟩:=sJ b ho
  exact pq ⟨s,h2,h3⟩⟩
 refine ⟨zH,h4,fun b hb=>hz b (.inl hb),fun b hb => ?_,kk,Xg,⟨fun i ty cs hb => ?_,fun i ok xs hb => ?_,fun i b h1 h2 => ?_,fun i i' b h1 h2 h3 h5 => ?_,g3.jm⟩⟩
 ·rcases MC b hb with h1 | h1 | h1
  ·exact (h1.imp (fun h=>h) fun ⟨i,_,h2,h3⟩=>.inl ⟨i,h2,h3⟩)
  ·obtain ⟨s,_,h2,h3⟩:=sJ b h1
   exact .inr (.inl ⟨s,h2,h3⟩)
  ·exact .inr (.inr h1)
 ·by_cases h2:H2.get i=none
  ·obtain ⟨h3,h5,h6,h7,h8⟩:=wY i h2 (by rw [hb];simp)
   rw [h5] at hb
   obtain ⟨gg,vs,e1,e2,e3,e4⟩:=gd.box i ty cs (by rw [h6];exact hb)
   have aJ:=(Array.getElem?_eq_some_iff.1 e2).1
   refine ⟨gg,vs,by rw [h7,e1],?_,?_,e4⟩
   ·rw [keep.block gg aJ (Rz i gg h3 h8 (by rw [e1];rfl))];exact e2
   ·refine e3.move (p:=fun i=>¬N i) hz sm (fun j hp hj => ?_) (bh i ty cs hb)
    by_cases h9:H2.get j=none
    ·obtain ⟨_,_,mr,xy,HN⟩:=wY j h9 hj
     exact ⟨by rw [mr];exact HN,xy⟩
    ·rcases mu j h9 with ⟨mr,xy,HN⟩ | mr
     ·exact ⟨by rw [HQ j mr];exact xy,(h4 j h9).trans HN⟩
     ·exact absurd mr hp
  ·rw [BQ i h2] at hb
   obtain ⟨gg,vs,e1,e2,e3,e4⟩:=g3.box i ty cs hb
   exact ⟨gg,vs,by rw [h4 i h2,e1],e2,e3.move (p:=fun j=>H2.get j≠none) (fun _ h=>h) (ck.refl _ _) (fun j hp _=>⟨hp,h4 j hp⟩) (Q0 i ty cs hb),e4⟩
 ·by_cases h2:H2.get i=none
  ·obtain ⟨h3,h5,h6,h7,h8⟩:=wY i h2 (by rw [hb];simp)
   rw [h5] at hb
   rw [h7]
   exact (gd.row i ok xs (by rw [h6];exact hb)).kept hz sm fun gg KV=>keep.block gg (g.bL ⟨i,h8,KV⟩) (Rz i gg h3 h8 KV)
  ·rw [BQ i h2] at hb
   rw [h4 i h2]
   exact g3.row i ok xs hb
 ·by_cases h3:H2.get i=none
  ·obtain ⟨h5,h6,h7,h8,h9⟩:=wY i h3 h1
   rw [h8] at h2
   obtain ⟨mr,xy⟩:=gd.live i b (by rw [h7];exact h9) h2
   refine ⟨fun WK => ?_,xy⟩
   rcases MC b WK with HN | HN | HN
   ·exact mr HN
   ·exact Rz i b h5 h9 h2 HN
   ·have:=g.bL ⟨i,h9,h2⟩;omega
  ·rw [h4 i h3] at h2
   obtain ⟨h5,h6⟩:=g3.live i b h3 h2
   refine ⟨h5,?_⟩
   rcases h6 with h6 | h6
   ·exact .inl (by omega)
   ·obtain ⟨s,_,h7,h8⟩:=sJ b h6
    exact (g.live s b h7 h8).2
 ·have wJ:∀i i',H2.get i=none→H2.get i'≠none→(H2++gx (cC hh ke) kept).get i≠none→ob (zH i)=some b→ob (zH i')=some b→False:=fun i i' e1 e2 e3 e4 e5=>by
   obtain ⟨h6,_,_,h8,h9⟩:=wY i e1 e3
   rw [h8] at e4;rw [h4 i' e2] at e5
   rcases (g3.live i' b e2 e5).2 with mr | mr
   ·have:=g.bL ⟨i,h9,e4⟩;omega
   ·exact Rz i b h6 h9 e4 mr
  by_cases e1:H2.get i=none<;>by_cases e2:H2.get i'=none
  ·obtain ⟨_,_,_,h8,h9⟩:=wY i e1 h1
   obtain ⟨_,_,_,h8',h9'⟩:=wY i' e2 h2
   rw [h8] at h3;rw [h8'] at h5
   exact g.apart i i' b h9 h9' h3 h5
  ·exact (wJ i i' e1 e2 h1 h3 h5).elim
  ·exact (wJ i' i e2 e1 h2 h5 h3).elim
  ·rw [h4 i e1] at h3;rw [h4 i' e2] at h5
   exact g3.apart i i' b e1 e2 h3 h5
theorem ye{i:Nat}{o:Ob}:∀{hh:Heap},(i,o)∈hh→hh.get i≠none
 | [],h=>by cases h
 | (j,o')::r,h=>by
  simp only [Heap.get]
  split
  ·simp
  ·rename_i hn
   rcases List.mem_cons.1 h with e | h
   ·cases e;exact absurd rfl hn
   ·exact ye h
theorem get_mem{i:Nat}{o:Ob}:∀{hh:Heap},hh.get i=some o→(i,o)∈hh
 | [],h=>by simp [Heap.get] at h
 | (j,o')::r,h=>by
  simp only [Heap.get] at h
  split at h
  ·rename_i e;subst e;cases h;exact List.mem_cons_self
  ·exact List.mem_cons_of_mem _ (get_mem h)
theorem om{p:Nat→Prop}:∀{a b:List AV},aC p a→aC p b→aC p (a++b)
 | [],b,_,h=>h
 | x::r,b,h,h'=>by simp only [List.cons_append,aC] at h ⊢;exact ⟨h.1,om h.2 h'⟩
theorem jK{p:Nat→Prop}:∀(c9:List CK) (n:Nat) (x:py c9),(∀e∈aU c9 n x,p e.1)→aC p (aB c9 n x)
 | [],n,x,_=>by simp only [aB,aC]
 | .val k::r,n,x,h=>by simp only [aB];exact om (lf p k x.1) (jK r (n+1) x.2 h)
 | .own ok::r,n,x,h=>by
  simp only [aU] at h
  simp only [aB,aC,aK]
  exact ⟨h _ List.mem_cons_self,jK r (n+1) x.2 fun e he=>h e (List.mem_cons_of_mem _ he)⟩
theorem lX:∀(c9:List CK) (n:Nat) (x:py c9) (i:Nat) (ty:TypeId) (cs:List AV),(i,Ob.box ty cs)∉aU c9 n x
 | [],_,_,_,_,_=>by simp [aU]
 | .val k::r,n,x,i,ty,cs=>lX r (n+1) x.2 i ty cs
 | .own _::r,n,x,i,ty,cs=>by
  simp only [aU,List.mem_cons,not_or]
  exact ⟨by simp,lX r (n+1) x.2 i ty cs⟩
theorem rS{p:Nat→Prop}:∀(bs:List BK) (is:List Nat) (n:Nat) (x:u5 bs),(∀e∈bq bs is n x,p e.1)→∀i ty cs,(i,Ob.box ty cs)∈bq bs is n x→aC p cs
 | [],is,n,x,_,i,ty,cs,h=>by cases is<;>simp [bq] at h
 | b::r,[],n,x,_,i,ty,cs,h=>by simp [bq] at h
 | b::r,i0::is,n,x,hp,i,ty,cs,h=>by
  simp only [bq] at h hp
  rcases List.mem_append.1 h with h | h
  ·cases b with
   | box ty0 c0 =>
    simp only [iH] at h hp
    rcases List.mem_cons.1 h with e | h
    ·cases e
     exact jK c0 n x.1 fun e he=>hp e (List.mem_append_left _ (List.mem_cons_of_mem _ he))
    ·exact absurd h (lX _ _ _ _ _ _)
   | own ok=>simp [iH] at h
  ·exact rS r is (n+16) x.2 (fun e he=>hp e (List.mem_append_right _ he)) i ty cs h
theorem lY:∀(c9:List CK) (n i:Nat),i∈cc c9 n→n≤i∧i<n+c9.length
 | [],n,i,h=>by simp [cc] at h
 | .val k::r,n,i,h=>by
  have:=lY r (n+1) i (by simpa [cc] using h)
  simp only [List.length_cons];omega
 | .own ok::r,n,i,h=>by
  simp only [cc] at h
  simp only [List.length_cons]
  rcases List.mem_cons.1 h with rfl | h
  ·omega
  ·have:=lY r (n+1) i h;omega
theorem tY:∀(bs:List BK) (is:List Nat) (n i:Nat),(bs.all fun b=>decide (b.c9.length≤16))=true→i∈bX bs is n→i∈is∨(n≤i∧i<n+16 * bs.length)
 | [],is,n,i,_,h=>by cases is<;>simp [bX] at h
 | b::r,[],n,i,_,h=>by simp [bX] at h
 | b::r,i0::is,n,i,hc,h=>by
  simp only [List.all_cons,Bool.and_eq_true,decide_eq_true_eq] at hc
  simp only [bX] at h
  simp only [List.length_cons]
  rcases List.mem_cons.1 h with rfl | h
  ·exact .inl List.mem_cons_self
  ·rcases List.mem_append.1 h with h | h
   ·have:=lY _ _ _ h;exact .inr (by omega)
   ·rcases tY r is (n+16) i hc.2 h with h1 | h1
    ·exact .inl (List.mem_cons_of_mem _ h1)
    ·exact .inr (by omega)
theorem iP{bs:List BK}:∀(rs:List RK) (m i:Nat),pG bs rs=true→i∈br rs m→m≤i∧i<m+rs.length+16
 | [],m,i,_,h=>by simp [br] at h
 | .own ok::r,m,i,hk,h=>by
  simp only [pG,List.all_cons,Bool.and_eq_true] at hk
  simp only [br] at h
  simp only [List.length_cons]
  rcases List.mem_cons.1 h with rfl | h
  ·omega
  ·have:=iP r (m+1) i hk.2 h;omega
 | .val _::r,m,i,hk,h=>by
  simp only [pG,List.all_cons,Bool.and_eq_true] at hk
  have:=iP r (m+1) i hk.2 (by simpa [br] using h)
  simp only [List.length_cons];omega
 | .ed _ _::r,m,i,hk,h=>by
  simp only [pG,List.all_cons,Bool.and_eq_true] at hk
  have:=iP r (m+1) i hk.2 (by simpa [br] using h)
  simp only [List.length_cons];omega
 | .agg c::r,m,i,hk,h=>by
  simp only [pG,List.all_cons,Bool.and_eq_true,BO,decide_eq_true_eq] at hk
  simp only [br] at h
  simp only [List.length_cons]
  rcases List.mem_append.1 h with h | h
  ·have:=lY c m i h;omega
  ·have:=iP r (m+1) i hk.2 h;omega
theorem wZ{hh:Heap}:∀(bs:List BK) (is:List Nat) (i:Nat),is.length=bs.length→i∈is→i∈cS bs hh is
 | [],is,i,hl,h=>by cases is with
  | nil=>cases h
  | cons a r=>simp at hl
 | b::r,[],i,_,h=>by cases h
 | b::r,i0::is,i,hl,h=>by
  simp only [cS]
  rcases List.mem_cons.1 h with rfl | h
  ·refine List.mem_append_left _ ?_
   cases b<;>simp [jH]
  ·exact List.mem_append_right _ (wZ r is i (by simpa using hl) h)
theorem Nq{α β:Type}:∀{a:List α} {b:List β},a.length=b.length→∀x∈a,∃y,(x,y)∈a.zip b∧(y,x)∈b.zip a
 | [],b,_,x,h=>by cases h
 | a::r,[],hl,x,_=>by simp at hl
 | a::r,c::q,hl,x,h=>by
  simp only [List.zip_cons_cons]
  rcases List.mem_cons.1 h with rfl | h
  ·exact ⟨c,List.mem_cons_self,List.mem_cons_self⟩
  ·obtain ⟨y,h1,h2⟩:=Nq (a:=r) (b:=q) (by simpa using hl) x h
   exact ⟨y,List.mem_cons_of_mem _ h1,List.mem_cons_of_mem _ h2⟩
theorem sX:∀(c9:List CK) (n c:Nat),fz c9 c=true→n+c∈cc c9 n
 | [],n,c,h=>by simp [fz] at h
 | .own _::r,n,0,_=>by simp [cc]
 | .own _::r,n,c+1,h=>by
  simp only [fz] at h
  have:=sX r (n+1) c h
  simp only [cc]
  exact List.mem_cons_of_mem _ (by rwa [show n+(c+1)=n+1+c by omega])
 | .val _::r,n,0,h=>by simp [fz] at h
 | .val _::r,n,c+1,h=>by
  simp only [fz] at h
  have:=sX r (n+1) c h
  simp only [cc]
  rwa [show n+(c+1)=n+1+c by omega]
theorem w4:∀(bs:List BK) (is:List Nat) (n b i:Nat) (bk:BK),is.length=bs.length→bs[b]? = some bk→i∈cc bk.c9 (n+16 * b)→i∈bX bs is n
 | [],_,_,b,_,_,_,h,_=>by simp at h
 | _::_,[],_,_,_,_,hl,_,_=>by simp at hl
 | b0::r,i0::is,n,0,i,bk,hl,hb,hi=>by
  simp only [List.getElem?_cons_zero,Option.some.injEq] at hb
  subst hb
  simp only [bX]
  exact List.mem_cons_of_mem _ (List.mem_append_left _ (by simpa using hi))
 | b0::r,i0::is,n,b+1,i,bk,hl,hb,hi=>by
  simp only [List.getElem?_cons_succ] at hb
  simp only [bX]
  refine List.mem_cons_of_mem _ (List.mem_append_right _ (w4 r is (n+16) b i bk (by simpa using hl) hb ?_))
  rwa [show n+16+16 * b=n+16 * (b+1) by omega]
theorem jU{p:Nat→Prop}{bs:List BK}{is:List Nat}(hl:is.length=bs.length):∀(rs:List RK) (ids:List Nat) (n m:Nat) (y:kT rs),pG bs rs=true→(∀i∈br rs m,p i)→(∀i∈bX bs is n,p i)→aC p (aR rs ids n m y)
 | [],_,_,_,_,_,_,_=>by simp only [aR,aC]
 | .val k::r,ids,n,m,y,hr,h1,h2=>by
  simp only [pG,List.all_cons,Bool.and_eq_true,BO] at hr
  simp only [aR,aC]
  exact ⟨mX p k y.1,jU hl r ids n (m+1) y.2 hr.2 (fun i hi=>h1 i hi) h2⟩
 | .own _::r,ids,n,m,y,hr,h1,h2=>by
  simp only [pG,List.all_cons,Bool.and_eq_true,BO] at hr
  simp only [aR,aC,aK]
  exact ⟨h1 m (by simp [br]),jU hl r ids n (m+1) y.2 hr.2 (fun i hi=>h1 i (by simp only [br];exact List.mem_cons_of_mem _ hi)) h2⟩
 | .ed b alts::r,ids,n,m,y,hr,h1,h2=>by
  simp only [pG,List.all_cons,Bool.and_eq_true,BO] at hr
  simp only [aR,aC]
  refine ⟨?_,jU hl r ids n (m+1) y.2 hr.2 (fun i hi=>h1 i hi) h2⟩
  cases hy:y.1 with
  | none=>simp only [tz,aK]
  | some p =>
   obtain ⟨al,i⟩:=p
   simp only [tz,aK]
   cases hb:bs[b]? with
   | none=>rw [hb] at hr;exact absurd hr.1 (by simp)
   | some bk =>
    rw [hb] at hr
    simp only [Bool.and_eq_true] at hr
    exact h2 _ (w4 bs is n b _ bk hl hb (sX bk.c9 (n+16 * b) _ (List.all_eq_true.1 hr.1.1 _ (List.get_mem alts al))))
 | .agg c::r,ids,n,m,y,hr,h1,h2=>by
  simp only [pG,List.all_cons,Bool.and_eq_true,BO] at hr
  simp only [aR,aC,aK]
  refine ⟨jK c m y.1 fun e he=>h1 _ ?_,jU hl r ids n (m+1) y.2 hr.2 (fun i hi=>h1 i (by simp only [br];exact List.mem_append_right _ hi)) h2⟩
  simp only [br]
  have e1:(aU c m y.1).map (·.1)=cc c m:=gH c m y.1
  exact List.mem_append_left _ (e1▸List.mem_map.2 ⟨e,he,rfl⟩)
theorem Iq{p:Nat→Prop}{vs:List AV}(h:aC p vs):aK p (eI vs):=by
 match vs,h with
 | [],h=>simp only [eI,aK];exact h
 | [v],h=>simp only [eI];simp only [aC] at h;exact h.1
 | _::_::_,h=>simp only [eI,aK];exact h
def g6(P:Program)(f:FuncId)(u:Heap→Nat→List AV→Option (Bool×bE)):Prop :=
 ∀{Z:Nat→Prop} {ψ:Nat→Value} {h:Hp} {w:World} {B0:Nat} {O N:Nat→Prop} {hh:Heap} {id:Nat} {e:bE} {vs:List AV} {us:List Value},
  Good Z ψ h w B0 O→B0≤w.heap.size→(∀id o,hh.get id=some o→h id=some o)→(∀j,j<256→N (id+j))→(∀i ty cs,h i=some (.box ty cs)→aC (fun i=>¬N i) cs)→(∀v hw,e=.wr v hw→hh.get=h) →
  ao Z ψ h w vs us→aC (fun i=>¬N i) vs→u hh id vs=some (true,e) →
  Calls P f us.toArray w fun en w'=>∃V Z' ψ',en=.returned V∧Next Z ψ h w B0 O N Z' ψ' (e.hp h) w'∧ax Z' ψ' (e.hp h) w' e.v V
theorem RA{R:Type}{n:Nat}(a:Fin n)(f:Fin n→Option R):WI n a f=f a:=by
 have key:∀l:List (Fin n),a∈l→l.foldr (fun j r=>cond (a.val==j.val) (f j) r) none=f a:=by
  intro l
  induction l with
  | nil=>intro h;cases h
  | cons j r ih =>
   intro h
   simp only [List.foldr_cons]
   by_cases e:a=j
   ·subst e;simp
   ·have:(a.val==j.val)=false:=by simp only [beq_eq_false_iff_ne,ne_eq];exact fun h=>e (Fin.ext h)
    rw [this,cond_false]
    rcases List.mem_cons.1 h with h | h
    ·exact absurd h e
    ·exact ih h
 exact key _ (List.mem_finRange a)
theorem im{R:Type}:∀(rs:List RK) (x:kT rs) (K:kT rs→Option R),jk rs x K=K x
 | [],_,_=>rfl
 | .val _::r,x,K=>by simp only [jk];rw [im r x.2];rfl
 | .own _::r,x,K=>by simp only [jk];rw [im r x.2];rfl
 | .agg _::r,x,K=>by simp only [jk];rw [im r x.2];rfl
 | .ed _ alts::r,x,K=>by
  simp only [jk]
  obtain ⟨x1,x2⟩:=x
  cases x1 with
  | none=>simp only [pH];rw [im r x2]
  | some p=>simp only [pH];rw [RA,im r x2]
theorem Ir(hX:∀f g u,Sg f=some g→g.x=some u→g6 P (f % 1000) u)(hF:∀f g x y,Sg f=some g→F f g x=some y→CB P f g x y)(Lj:∀f g,Sg f=some g→iM P (f % 1000))
  {hh:Heap} {ρC:Operand→Value} {o:Oper} (g:Good Z ψ h w B0 O) (hB:B0≤w.heap.size) (bu:∀id o,hh.get id=some o→h id=some o) {id:Nat} (hN:∀j,j<256→N (id+j)) {e:bE}
  (bh:∀i ty cs,h i=some (.box ty cs)→aC (fun i=>¬N i) cs) (lQ:∀v hw,e=.wr v hw→hh.get=h) {f:FuncId} {cap vs:List AV} {fv:Value} {us:List Value}
  (RB:ax Z ψ h w (.fn f cap) fv) (sH:ao Z ψ h w vs us) (DQ:aC (fun i=>¬N i) (vs++cap)) (hex:∀(ws:Array Value),fv=.func (.func f) #[] ws→execOp ρC o=callFunc f (us.toArray++ws))
  (he:iI Sg F hh id f (vs++cap) some=some e):Tg P ρC o Z ψ h w B0 O N e:=by
 unfold iI at he
 split at he
 ·cases he
 rename_i gg hSg
 simp only [ax] at RB
 obtain ⟨ws,rfl,Ut⟩:=RB
 have CC:=Lj _ _ hSg
 have kr:ao Z ψ h w (vs++cap) (us++ws.toList):=ao.append sH Ut
 have DW:ao Z ψ hh.get w (vs++cap) (us++ws.toList):=kr.o6 bu
 have gs:Good Z ψ hh.get w B0 O:=g.sub bu
 have Nr:us.toArray++ws=(us++ws.toList).toArray:=by simp
 split at he
 ·rename_i u hu
  split at he
  ·rename_i hf
   obtain ⟨⟨b,e'⟩,Xh,QS⟩:=Option.bind_eq_some_iff.1 he
   cases b with
   | false=>cases QS
   | true =>
   cases QS
   have Fz:keyOf Sg f (vs++cap) % 1000=f:=by rw [vq];exact Nat.mod_eq_of_lt hf
   have hx:g6 P f u:=by rw [←Fz];exact hX _ _ _ hSg hu
   rw [Fz] at CC
   refine ⟨f,us.toArray++ws,by rw [hex ws rfl];exact iO CC _,?_⟩
   rw [Nr]
   exact hx g hB bu hN bh lQ kr DQ Xh
  ·cases he
 split at he
 ·rename_i i0 mu DX
  split at he
  ·rename_i Lk
   simp only [Bool.and_eq_true,List.isEmpty_iff] at Lk
   obtain ⟨rfl,_⟩:=Lk
   split at he
   rotate_left
   ·cases he
   rename_i x b hx hb pU
   obtain ⟨y,hy,he⟩:=Option.bind_eq_some_iff.1 he
   simp only [MS,Bool.and_eq_true,decide_eq_true_eq] at DX
   obtain ⟨_,_,⟨hlen,hf⟩,_⟩:=DX
   have BU:=(hF _ _ _ _ hSg hy).zero (Fx hb)
   have Fz:keyOf Sg f (vs++cap) % 1000=f:=by rw [vq];exact Nat.mod_eq_of_lt hf
   rw [Fz] at CC
   have hN':∀j,j<gg.rs.length+16→N (id+128+j):=fun j hj=>by rw [Nat.add_assoc];exact hN _ (by omega)
   refine ⟨f,us.toArray++ws,by rw [hex ws rfl];exact iO CC _,?_⟩
   rw [Nr]
   unfold WY at BU
   rw [Fz] at BU
   by_cases pq:pC (vs++cap)=true
   ·rw [pq,Bool.or_true] at he
    cases he
    have h1:ao Z HP fH w (Cw gg x) (us++ws.toList):=zw gs (fun _ h=>h) gg.ps 0 _ _ x (fun v hv i b hi _ _=>(pV pq v hv i hi).elim) mu hx DW
    refine (BU Z w _ g.jm h1).mono fun en w' ⟨v,Z',ψ',e1,h2,h3,h4,h5,h6⟩ => ?_
    obtain ⟨sW,n,hr⟩:=vt (nb:=id) pU g hB bh hN' h4 h2 h3 h5 h6
    exact ⟨v,Z',sW,e1,n,hr⟩
   ·cases hfl:gg.rs.all RK.flat with
    | true =>
     rw [hfl,Bool.true_or] at he
     cases he
     let Zc:Nat→Prop:=fun b=>b<w.heap.size
     have h1:ao Zc HP fH w (Cw gg x) (us++ws.toList):=zw gs g.jm gg.ps 0 _ _ x (fun v hv i b hi h1 h2=>gs.bL ⟨i,h1,h2⟩) mu hx DW
     refine (BU Zc w _ (fun _ h=>h) h1).mono fun en w' ⟨v,Z',ψ',e1,h2,h3,h4,h5,h6⟩ => ?_
     have Xi:=Lc gg.rs 3000 y.1 hfl pU
     have h7:ax Z ψ' (ak gg.rs 3000 y.1).get w' (eI (aR gg.rs [] 2000 3000 y.1)) v:=sR rfl (fun vs sH=>Nk gg.rs hfl pU sH) h6
     have gz:Good Z ψ' (ak gg.rs 3000 y.1).get w' w.heap.size (fun _=>False):=by
      rw [Xi]
      exact ⟨fun _ _ _ hb=>by simp [Heap.get] at hb,fun _ _ _ hb=>by simp [Heap.get] at hb,fun _ _ hb=>by simp [Heap.get] at hb,fun _ _ _ hb=>by simp [Heap.get] at hb,fun b hb=>Nat.lt_of_lt_of_le (g.jm b hb) h4.size⟩
     obtain ⟨sW,n,hr⟩:=vt (nb:=id) pU g hB bh hN' h4 (fun _ h=>h) (fun _ h=>.inl h) gz h7
     exact ⟨v,Z,sW,e1,n,hr⟩
    | false =>
     rw [hfl,Bool.false_or,Bool.eq_false_iff.2 pq] at he
     cases he
     have heq:=lQ _ _ rfl
     subst heq
     let cs:=c8 gg.ps (vs++cap)
     have Rm:∀b,po Z ψ hh.get cs b→Z b∨Own ψ hh.get b:=fun b hb=>hb.imp (fun h=>h) (fun ⟨i,_,h2,h3⟩=>⟨i,h2,h3⟩)
     have gd:Good (po Z ψ hh.get cs) ψ (cC hh cs).get w B0 O:=gY g cs
     have h1:ao (po Z ψ hh.get cs) HP fH w (Cw gg x) (us++ws.toList) :=
      zw gs (fun _ h=>.inl h) gg.ps 0 _ _ x (fun v hv i b hi h1 h2=>.inr ⟨i,tV _ _ mu v hv i hi,h1,h2⟩) mu hx DW
     refine (BU _ w _ gd.jm h1).mono fun en w' ⟨v,Z',ψ',e1,h2,h3,h4,h5,h6⟩ => ?_
     obtain ⟨sW,n,hr⟩:=vt (nb:=id) pU gd hB (fun i ty cs hb=>bh i ty cs (dN _ _ _ _ hb)) hN' h4 h2 h3 h5 h6
     have e2:(bE.wr (eI (aR gg.rs [] id (id+128) y.1)) (ak gg.rs (id+128) y.1++cC hh (c8 gg.ps (vs++cap)))).hp hh.get=(fun i=>match (ak gg.rs (id+128) y.1).get i with | some o=>some o | none=>(cC hh cs).get i):=by
      funext i
      simp only [bE.hp]
      rw [Heap.get_append]
      cases (ak gg.rs (id+128) y.1).get i<;>rfl
     rw [e2]
     exact ⟨v,Z',sW,e1,n.drop (fun _ h=>.inl h) Rm (dN _ _),hr⟩
  ·split at he
   rotate_left
   ·cases he
   rename_i x b hx hb BV
   obtain ⟨y,hy,he⟩:=Option.bind_eq_some_iff.1 he
   rw [im] at he
   cases he
   have heq:=lQ _ _ rfl
   subst heq
   simp only [MS,Bool.and_eq_true,decide_eq_true_eq] at DX
   obtain ⟨Us,⟨hbl,sG⟩,⟨hlen,hf⟩,tX⟩:=DX
   rw [Bool.and_eq_true] at BV
   have BU:=hF _ _ _ _ hSg hy
   have Fz:keyOf Sg f (vs++cap) % 1000=f:=by rw [vq];exact Nat.mod_eq_of_lt hf
   rw [Fz] at CC
   refine ⟨f,us.toArray++ws,by rw [hex ws rfl];exact iO CC _,?_⟩
   rw [Nr]
   unfold CB at BU
   rw [Fz] at BU
   have hl:i0.length=gg.bs.length:=(iL _ _ _ hb).1
   have zJ:=(iL _ _ _ hb).2
   have hle:(aP gg.bs.length).length=gg.bs.length:=by simp [aP]
   let ke:=c8 gg.ps (vs++cap)++fC gg.bs hh i0
   let L1:List wR:=cq gg.bs hh i0 (aP gg.bs.length) 2000 b
   have eH1:dm L1=bq gg.bs (aP gg.bs.length) 2000 b:=iK _ _ _ _ _ _ hb hle
   have eN1:L1.map (·.1)=bX gg.bs (aP gg.bs.length) 2000:=gE _ _ _ _ _ _ hb hle
   have eS1:L1.filterMap (·.2.1)=cS gg.bs hh i0:=jQ _ _ _ _ _ _ hb hle
   have Xk:b4 (L1.map (·.1))=true:=by rw [eN1];exact Fy tX
   have Uo:=xZ (ψ:=ψ) Xk
   have HQ:=(qS BV.1).2 hh
   have wN:∀b,Z b→po Z ψ hh.get ke b:=fun b hb=>.inl hb
   have Xl:∀e∈L1,tT (po Z ψ hh.get ke) ψ (cC hh ke).get w (dm L1).get (ep ψ L1) e:=fun e he =>
    k9 gs wN gg.bs _ _ 2000 b hb (fun i b bO h1 h2=>.inr ⟨i,List.mem_append_right _ bO,h1,h2⟩) HQ Uo e he
   have gin:Good (po Z ψ hh.get ke) (ep ψ L1) (dm L1).get w B0 O:=vp gs BV.1 Xk eS1 Xl
   have ein:(dm L1).get=og gg (x,b):=by rw [eH1];rfl
   have Ns:∀p∈i0.zip (aP gg.bs.length),(p.2,some p.1)∈L1.map (fun e=>(e.1,e.2.1)):=fun p hp=>by
    obtain ⟨o,ho⟩:=jR (hh:=hh) gg.bs i0 (aP gg.bs.length) 2000 b hl p hp
    exact List.mem_map.2 ⟨_,ho,rfl⟩
   have Xm:∀p∈i0.zip (aP gg.bs.length),ep ψ L1 p.2=ψ p.1:=fun p hp=>by
    obtain ⟨⟨i,s,o⟩,ho,he⟩:=List.mem_map.1 (Ns p hp)
    cases he
    exact ij Xk ho
   have Uu:ao (po Z ψ hh.get ke) (ep ψ L1) (dm L1).get w (DT gg (x,b)) (us++ws.toList) :=
    kJ gs wN gg.ps i0 (aP gg.bs.length) 0 _ _ x (by rw [hle,hl]) mu hx (fun i b bO h1 h2=>.inr ⟨i,List.mem_append_left _ bO,h1,h2⟩)
     (fun p hp=>⟨zJ _ (List.of_mem_zip hp).1,fun _=>Xm p hp⟩) DW
   have sJ:∀c,Own (ep ψ L1) (og gg (x,b)) c→∃s,s∈cS gg.bs hh i0∧hh.get s≠none∧ob (ψ s)=some c:=fun c ⟨i,h1,h2⟩=>by
    rw [←ein] at h1
    obtain ⟨o,ho⟩:=Option.ne_none_iff_exists'.1 h1
    obtain ⟨s,hm⟩:=mW ho
    rw [ij Xk hm] at h2
    cases s with
    | none=>simp [js,ob] at h2
    | some s =>
     have hs:s∈cS gg.bs hh i0:=by rw [←eS1];exact List.mem_filterMap.2 ⟨_,hm,rfl⟩
     refine ⟨s,hs,?_,h2⟩
     have h3:=Xl _ hm
     rw [←HQ s hs]
     cases o with
     | box ty cs=>obtain ⟨⟨cs0,h4⟩,_⟩:=h3;rw [h4];simp
     | own ok xs=>rw [show (cC hh ke).get s=some (.own ok xs) from h3];simp
   refine (BU (po Z ψ hh.get ke) (ep ψ L1) w (us++ws.toList) (by rw [←ein];exact gin.DV _) (by rw [←ein];exact Uu)).mono fun en w' ⟨v,Z',dL,e1,h2,h3,h4,h5,h6,h7⟩ => ?_
   obtain ⟨L2,Xn,eN2,g3,WQ,Uv⟩:=Lh (x:=(x,b)) (y:=y) (id:=id) hl Us tX BV.2 h5 h7
   have Q0:∀i ty cs,(dm L2).get i=some (.box ty cs)→aC (fun j=>(dm L2).get j≠none) cs:=fun i ty cs hg=>by
    have gm:=get_mem hg
    rw [Xn] at gm
    rcases List.mem_append.1 gm with gm | gm
    ·exact rS gg.bs _ id y.2 (fun e he=>by rw [Xn];exact ye (o:=e.2) (List.mem_append_left _ he)) i ty cs gm
    ·exfalso
     have:∀(rs:List RK) (m:Nat) (y:kT rs),(i,Ob.box ty cs)∉ak rs m y:=by
      intro rs
      induction rs with
      | nil=>intro m y;simp [ak]
      | cons r rs ih =>
       intro m y
       cases r with
       | agg c=>simp only [ak,List.mem_append,not_or];exact ⟨lX _ _ _ _ _ _,ih (m+1) y.2⟩
       | val k=>exact ih (m+1) y.2
       | ed _ _=>exact ih (m+1) y.2
       | own ok=>simp only [ak,List.mem_cons,not_or];exact ⟨by simp,ih (m+1) y.2⟩
     exact this _ _ _ gm
   have Xo:∀i,(dm L2).get i≠none→(i∈cS gg.bs hh i0∧hh.get i≠none∧ep dL L2 i=ψ i)∨N i:=fun i hi=>by
    obtain ⟨o,ho⟩:=Option.ne_none_iff_exists'.1 hi
    obtain ⟨s,hm⟩:=mW ho
    have gm:i∈bX gg.bs i0 id++br gg.rs (id+128):=by rw [←eN2];exact List.mem_map.2 ⟨_,hm,rfl⟩
    have hNr:∀i,id≤i→i<id+256→N i:=fun i h1 h2=>by
     have:=hN (i - id) (by omega)
     rwa [show id+(i - id)=i by omega] at this
    rcases List.mem_append.1 gm with gm | gm
    ·rcases tY _ _ _ _ sG gm with h8 | h8
     ·refine .inl ⟨wZ _ _ _ hl h8,zJ i h8,?_⟩
      obtain ⟨ee,h9,mr⟩:=Nq (by rw [hle,hl]) i h8
      rw [WQ (ee,i) mr]
      have xy:ee∈aP gg.bs.length:=(List.of_mem_zip mr).1
      rw [h6 ee xy]
      exact Xm (i,ee) h9
     ·exact .inr (hNr i h8.1 (by omega))
    ·have h8:=iP _ _ _ Us gm
     exact .inr (hNr i (by omega) (by omega))
   obtain ⟨zH,h8,nx⟩:=Li (N:=N) gs hB HQ bh sJ h2 h3 h4 g3 Q0 Xo
   have eH3:(bE.wr (eI (aR gg.rs i0 id (id+128) y.1)) (bq gg.bs i0 id y.2++(ak gg.rs (id+128) y.1++gx (cC hh (c8 gg.ps (vs++cap)++fC gg.bs hh i0)) (cS gg.bs hh i0)))).hp hh.get =
     (dm L2++gx (cC hh ke) (cS gg.bs hh i0)).get:=by
    rw [Xn,List.append_assoc];rfl
   rw [eH3]
   refine ⟨v,Z',zH,e1,nx,?_⟩
   refine Uv.move (p:=fun j=>(dm L2).get j≠none) (fun _ h=>h) (ck.refl _ _) (fun j hp _=>⟨hp,h8 j hp⟩) ?_
   refine Iq (jU hl gg.rs _ id (id+128) y.1 Us (fun i hi => ?_) fun i hi => ?_)
   ·rw [←fg gg.rs (id+128) y.1] at hi
    obtain ⟨e,he,rfl⟩:=List.mem_map.1 hi
    rw [Xn];exact ye (o:=e.2) (List.mem_append_right _ he)
   ·rw [←lj gg.bs i0 id y.2 hl] at hi
    obtain ⟨e,he,rfl⟩:=List.mem_map.1 hi
    rw [Xn];exact ye (o:=e.2) (List.mem_append_left _ he)
 ·cases he
end Go.Vs
namespace Go.Vs
variable {P:Program} {Eqs:TypeId→Option K} {Sg:FuncId→Option aL} {F:(f:FuncId)→(g:aL)→g.A→Option g.B} {R:Type} {k:bE→Option R}
theorem bM{c:Bool}{e:bE}:cond c (k e) none=(cond c (some e) none).bind k:=by cases c<;>rfl
theorem bH{c:Bool}{e:bE}:cond c none (k e)=(cond c none (some e)).bind k:=by cases c<;>rfl
theorem bI{c:Bool}{e e':bE}:cond c (k e) (k e')=(cond c (some e) (some e')).bind k:=by cases c<;>rfl
theorem bN{α:Type}(o:Option α)(f:α→Option R)(g:α→Option bE)(h:∀x,f x=(g x).bind k):o.bind f=(o.bind g).bind k:=by cases o with
 | none=>rfl
 | some x=>exact h x
theorem Is{h:Heap}{id:Nat}{t:TypeId}{s x:AV}:mP P h id t s x k=(mP P h id t s x some).bind k:=by unfold mP;repeat' (first | rfl | exact bM | exact bH | exact bI | (refine bN _ _ _ (fun _ => ?_)) | split)
theorem Ll{h:Heap}{t:TypeId}{s x:AV}:qB P h t s x k=(qB P h t s x some).bind k:=by unfold qB;repeat' (first | rfl | exact bM | exact bH | exact bI | (refine bN _ _ _ (fun _ => ?_)) | split)
theorem Nt{h:Heap}{t:TypeId}{s:AV}:kV P h t s k=(kV P h t s some).bind k:=by unfold kV;repeat' (first | rfl | exact bM | exact bH | exact bI | (refine bN _ _ _ (fun _ => ?_)) | split)
theorem BW{h:Heap}{t:TypeId}{s x:AV}:dg P h t s x k=(dg P h t s x some).bind k:=by unfold dg;repeat' (first | rfl | exact bM | exact bH | exact bI | (refine bN _ _ _ (fun _ => ?_)) | split)
theorem Nu{x:AV}{lo hi mx:Option AV}:yM x lo hi mx k=(yM x lo hi mx some).bind k:=by unfold yM;repeat' (first | rfl | exact bM | exact bH | exact bI | (refine bN _ _ _ (fun _ => ?_)) | split)
theorem Lm{h:Heap}{sz:Nat}{x:AV}{lo hi mx:Option AV}:qC h sz x lo hi mx k=(qC h sz x lo hi mx some).bind k:=by unfold qC;repeat' (first | rfl | exact bM | exact bH | exact bI | (refine bN _ _ _ (fun _ => ?_)) | split)
theorem RC{h:Heap}{x:AV}:Ck h x k=(Ck h x some).bind k:=by unfold Ck;repeat' (first | rfl | exact bM | exact bH | exact bI | (refine bN _ _ _ (fun _ => ?_)) | split)
theorem RD{op:BinOp}{t:TypeId}{x y:AV}:wF P Eqs op t x y k=(wF P Eqs op t x y some).bind k:=by unfold wF;repeat' (first | rfl | exact bM | exact bH | exact bI | (refine bN _ _ _ (fun _ => ?_)) | split)
theorem FA(rs:List RK)(x:kT rs)(f:kT rs→Option R)(g:kT rs→Option bE)(h:∀z,f z=(g z).bind k):jk rs x f=(jk rs x g).bind k:=by rw [im,im];exact h x
theorem Nv{h:Heap}{id:Nat}{f:FuncId}{vs:List AV}:iI Sg F h id f vs k=(iI Sg F h id f vs some).bind k:=by unfold iI;repeat' (first | rfl | exact bM | exact bH | exact bI | (refine bN _ _ _ (fun _ => ?_)) | (refine FA _ _ _ _ (fun _ => ?_)) | split)
theorem Nw{id:Nat}{t:TypeId}{vs:List AV}:vd id t vs k=(vd id t vs some).bind k:=rfl
theorem Ln{t:TypeId}{ps:List (Nat×AV)}:qF P t ps k=(qF P t ps some).bind k:=by unfold qF;repeat' (first | rfl | exact bM | exact bH | exact bI | (refine bN _ _ _ (fun _ => ?_)) | split)
theorem DY{h:Heap}{id:Nat}{t:TypeId}{n:Nat}{ps:List (Nat×AV)}:tB P h id t n ps k=(tB P h id t n ps some).bind k:=by unfold tB;repeat' (first | rfl | exact bM | exact bH | exact bI | (refine bN _ _ _ (fun _ => ?_)) | split)
theorem Nx{ke:Bool}{h:Heap}{id:Nat}{t:TypeId}{n:Nat}{ps:List (Nat×AV)}:ve P ke h id t n ps k=(ve P ke h id t n ps some).bind k:=by
 unfold ve
 rw [DY,DY (k:=fun e=>some (if ke then Rg e else e)),Option.bind_assoc]
 rfl
theorem Ny{s d:TypeId}{x:AV}:yS P s d x k=(yS P s d x some).bind k:=by unfold yS;repeat' (first | rfl | exact bM | exact bH | exact bI | (refine bN _ _ _ (fun _ => ?_)) | split)
theorem Uw{b:Bool}{vs:List AV}:KT b vs k=(KT b vs some).bind k:=by unfold KT;repeat' (first | rfl | exact bM | exact bH | exact bI | (refine bN _ _ _ (fun _ => ?_)) | split)
theorem Nz{h:Heap}{x:AV}:u7 h x k=(u7 h x some).bind k:=by unfold u7;repeat' (first | rfl | exact bM | exact bH | exact bI | (refine bN _ _ _ (fun _ => ?_)) | split)
theorem FB{id:Nat}{t:TypeId}:kI P Eqs id t k=(kI P Eqs id t some).bind k:=by unfold kI;repeat' (first | rfl | exact bM | exact bH | exact bI | (refine bN _ _ _ (fun _ => ?_)) | split)
theorem It{h:Heap}{t:TypeId}{m i:AV}{ok:Bool}:mQ P Eqs h t m i ok k=(mQ P Eqs h t m i ok some).bind k:=by unfold mQ;repeat' (first | rfl | exact bM | exact bH | exact bI | (refine bN _ _ _ (fun _ => ?_)) | split)
theorem Iu{h:Heap}{t:TypeId}{m i v:AV}:ic P Eqs h t m i v k=(ic P Eqs h t m i v some).bind k:=by unfold ic;repeat' (first | rfl | exact bM | exact bH | exact bI | (refine bN _ _ _ (fun _ => ?_)) | split)
theorem Ix{h:Heap}{t:TypeId}{m i:AV}:mR P Eqs h t m i k=(mR P Eqs h t m i some).bind k:=by unfold mR;repeat' (first | rfl | exact bM | exact bH | exact bI | (refine bN _ _ _ (fun _ => ?_)) | split)
theorem Iy{id:Nat}{t:TypeId}{x:AV}:mS P id t x k=(mS P id t x some).bind k:=by unfold mS;repeat' (first | rfl | exact bM | exact bH | exact bI | (refine bN _ _ _ (fun _ => ?_)) | split)
theorem Lo{h:Heap}{x:AV}:qD h x k=(qD h x some).bind k:=by unfold qD;repeat' (first | rfl | exact bM | exact bH | exact bI | (refine bN _ _ _ (fun _ => ?_)) | split)
theorem Lq{h:Heap}{x:AV}:qE h x k=(qE h x some).bind k:=by unfold qE;repeat' (first | rfl | exact bM | exact bH | exact bI | (refine bN _ _ _ (fun _ => ?_)) | split)
theorem kK{id:Nat}{h:Heap}{s:List (Nat×AV)}{o:Oper}:cJ P Eqs Sg F id h s o k=(cJ P Eqs Sg F id h s o some).bind k:=by
 obtain ⟨dst,op,type,pos,after,guard⟩:=o
 cases op<;>simp only [cJ] <;>
  repeat' (first | rfl | exact Nx | exact Is | exact Ll | exact Nt | exact BW | exact Nu | exact Lm | exact RC | exact RD | exact Nv | exact Nw | exact Ln | exact DY | exact Ny | exact Uw | exact Nz | exact FB | exact It | exact Iu | exact Ix | exact Iy | exact Lo | exact Lq | exact bM | (refine bN _ _ _ (fun _ => ?_)) | split)
theorem Lr{id:Nat}{h h':Heap}{s:List (Nat×AV)}{o:Oper}(hf:ml o.op=true):cJ P Eqs Sg F id h s o k=cJ P Eqs Sg F id h' s o k:=by
 obtain ⟨dst,op,type,pos,after,guard⟩:=o
 cases op<;>simp [ml] at hf<;>first | rfl | (rename_i u _ _;cases u<;>rfl)
theorem RE{op:BinOp}{t:TypeId}{x y:AV}{e:bE}(he:wF P Eqs op t x y some=some e):∃v,e=.val v:=by
 unfold wF at he
 repeat' (first | (cases he;done) | exact ⟨_,(Option.some.inj he).symm⟩ | split at he)
 all_goals
  unfold cond at he
  split at he<;>first | (cases he;done) | exact ⟨_,(Option.some.inj he).symm⟩
theorem FC{id:Nat}{h:Heap}{s:List (Nat×AV)}{o:Oper}{e:bE}(hf:ml o.op=true)(he:cJ P Eqs Sg F id h s o some=some e):∃v,e=.val v:=by
 obtain ⟨dst,op,type,pos,after,guard⟩:=o
 cases op<;>simp only [ml] at hf<;>first | (cases hf;done) | skip
 case unOp u t x =>
  cases u<;>simp only [cJ] at he<;>repeat' (first | (cases he;done) | exact ⟨_,(Option.some.inj he).symm⟩ | split at he)
 case makeFunc fn first cap =>
  cases fn<;>simp only [cJ] at he<;>repeat' (first | (cases he;done) | exact ⟨_,(Option.some.inj he).symm⟩ | split at he)
 all_goals simp only [cJ] at he
 case binOp=>exact RE he
 case build =>
  unfold qF at he
  repeat' (first | (cases he;done) | exact ⟨_,(Option.some.inj he).symm⟩ | split at he)
 all_goals
  repeat' (first | (cases he;done) | exact ⟨_,(Option.some.inj he).symm⟩ | split at he)
end Go.Vs
namespace Go.Vs
variable {P:Program} {Eqs:TypeId→Option K} {Sg:FuncId→Option aL} {F:(f:FuncId)→(g:aL)→g.A→Option g.B} {R:Type}
variable {Z Z' Z0:Nat→Prop} {ψ ψ' ψ0:Nat→Value} {h h':Hp} {w w' w0:World} {B0:Nat} {O N:Nat→Prop}
structure Env(P:Program)(Eqs:TypeId→Option K)(Sg:FuncId→Option aL)(F:(f:FuncId)→(g:aL)→g.A→Option g.B):Prop where
 eqs:∀t k,Eqs t=some k→kY P t k
 con:∀f g x y,Sg f=some g→F f g x=some y→CB P f g x y
 spec:∀f g u,Sg f=some g→g.x=some u→g6 P (f % 1000) u
 FD:∀f g,Sg f=some g→iM P (f % 1000)
theorem FE{s:List (Nat×AV)}{ρC:Operand→Value}:∀(l:List Operand),(∀x∈l,ax Z ψ h w (ρ s x) (ρC x))→ao Z ψ h w (l.map (ρ s)) (l.map ρC)
 | [],_=>by simp [ao]
 | x::r,hx=>by
  simp only [List.map_cons,ao]
  exact ⟨_,_,rfl,hx x List.mem_cons_self,FE r fun y hy=>hx y (List.mem_cons_of_mem _ hy)⟩
theorem CD{s:List (Nat×AV)}{p:Nat→Prop}:∀(l:List Operand),(∀x∈l,aK p (ρ s x))→aC p (l.map (ρ s))
 | [],_=>by simp [aC]
 | x::r,hx=>by
  simp only [List.map_cons,aC]
  exact ⟨hx x List.mem_cons_self,CD r fun y hy=>hx y (List.mem_cons_of_mem _ hy)⟩
theorem Ti(E:Env P Eqs Sg F){hh:Heap}{a:Act}{s:List (Nat×AV)}{o:Oper}(g:Good Z ψ h w B0 O)(hB:B0≤w.heap.size)(bu:∀id o,hh.get id=some o→h id=some o){id:Nat}(hN:makes o.op=true→∀j,j<256→N (id+j)){e:bE}
  (mM:∀x∈o.op.operands,ax Z ψ h w (ρ s x) (a.eval x)) (hm:∀x∈o.op.operands,aK (fun i=>¬N i) (ρ s x)) (bh:∀i ty cs,h i=some (.box ty cs)→aC (fun i=>¬N i) cs) (lQ:∀v hw,e=.wr v hw→hh.get=h)
  (he:cJ P Eqs Sg F id hh s o some=some e) {next:Act→World→Prop} {Q:Exit→Act→World→Prop}
  (hk:∀V w' Z' ψ',Next Z ψ h w B0 O N Z' ψ' (e.hp h) w'→ax Z' ψ' (e.hp h) w' e.v V→next (a.put o.dst V) w'):o.wp P a w next Q:=by
 have d:gD P a.eval o Z ψ h w B0 O N e∨Tg P a.eval o Z ψ h w B0 O N e:=by
  cases HO:tS o with
  | false=>exact .inl (Ng E.eqs g hB bu (fun hm=>by simpa using hN hm 0 (by decide)) mM hm bh lQ HO he)
  | true =>
   refine .inr ?_
   obtain ⟨dst,op,type,pos,after,guard⟩:=o
   cases op<;>simp [tS] at HO
   rename_i c
   obtain ⟨callee,args,argTypes⟩:=c
   cases callee<;>simp at HO
   rename_i fo
   simp only [cJ] at he
   split at he
   ·rename_i f cap hf
    simp only [Op.operands,Call.operands] at mM
    have h1:=mM fo (by simp)
    rw [hf] at h1
    have h2:ao Z ψ h w (args.toList.map (ρ s)) (args.toList.map a.eval):=FE _ fun x hx=>mM x (by simp;exact .inr (by simpa using hx))
    have hmf:=hm fo (by simp [Op.operands,Call.operands])
    rw [hf] at hmf
    simp only [aK] at hmf
    have hma:aC (fun i=>¬N i) (args.toList.map (ρ s)):=CD _ fun x hx=>hm x (by simp [Op.operands,Call.operands];exact .inr (by simpa using hx))
    refine Ir E.spec E.con E.FD g hB bu (hN rfl) bh lQ h1 h2 (om hma hmf) (fun ws Ut => ?_) he
    simp only [execOp,resolve,Ut,Deferred.ofValue]
    simp only [pure_bind,invoke]
    congr 1
    apply Array.ext'
    simp
   ·cases he
 unfold Oper.wp
 rcases d with ⟨V,w',Z',ψ',h1,h2,h3⟩ | ⟨f,args,h1,h2⟩
 ·rcases h1 with h1 | ⟨h1,rfl⟩
  ·rw [h1];exact hk V w' Z' ψ' h2 h3
  ·rw [h1];exact hk undef w' Z' ψ' h2 h3
 ·rw [h1,Oper.upon_enter]
  refine h2.mono fun en w' ⟨V,Z',ψ',e1,n,hr⟩ => ?_
  subst e1
  exact hk V w' Z' ψ' n hr
structure Ok(Z0:Nat→Prop)(w0:World)(O:Nat→Prop)(ψ0:Nat→Value)(Z:Nat→Prop)(ψ:Nat→Value)(h:Hp)(w:World):Prop where
 dO:Good Z ψ h w w0.heap.size O
 fm:∀b,Z0 b→Z b
 dU:∀b,Z b→Z0 b∨O b∨w0.heap.size≤b
 os:w.os=w0.os
 tape:w.tape=w0.tape
 output:w.output=w0.output
 size:w0.heap.size≤w.heap.size
 block:∀b,b<w0.heap.size→¬O b→w.heap[b]? = w0.heap[b]?
 fix:∀i,i<2000→h i≠none→ψ i=ψ0 i
theorem Ok.next(k:Ok Z0 w0 O ψ0 Z ψ h w)(hN:∀id,N id→2000≤id)(n:Next Z ψ h w w0.heap.size O N Z' ψ' h' w'):Ok Z0 w0 O ψ0 Z' ψ' h' w':=by
 have own:∀b,Own ψ h b→w0.heap.size≤b∨O b:=fun b ⟨id,h1,h2⟩=>(k.dO.live id b h1 h2).2
 refine ⟨n.dO,fun b hb=>n.fm b (k.fm b hb),fun b hb => ?_,n.keep.os.trans k.os,n.keep.tape.trans k.tape,n.keep.output.trans k.output,Nat.le_trans k.size n.keep.size,fun b hb ho => ?_,fun i hi bj => ?_⟩
 ·rcases n.dU b hb with h1 | h1 | h1
  ·exact k.dU b h1
  ·exact .inr (own b h1).symm
  ·exact .inr (.inr (Nat.le_trans k.size h1))
 ·rw [n.keep.block b (Nat.lt_of_lt_of_le hb k.size) (fun h1=>(own b h1).elim (fun h2=>by omega) ho)]
  exact k.block b hb ho
 ·rcases n.ids i bj with ⟨h1,h2⟩ | h1
  ·rw [h2];exact k.fix i hi h1
  ·have:=hN i h1;omega
structure cM(Z:Nat→Prop)(ψ:Nat→Value)(h:Hp)(w:World)(n:Nat)(T:Nat→AV)(a:Act):Prop where
 rep:∀d,ax Z ψ h w (T d) (a.tmps.getD d undef)
 size:a.tmps.size=n
 defers:a.defers=[]
theorem Ls:ax Z ψ h w (.mL []) undef:=by simp only [ax,ao];exact ⟨#[],rfl,rfl⟩
def iC(T:Nat→AV)(d:Option Tmp)(v:AV):Nat→AV:=match d with
 | some d=>dJ T d v
 | none=>T
theorem gI(st:St)(d:Option Tmp)(v:AV):look (st.put d v).tmps=iC (look st.tmps) d v:=by
 cases d with
 | none=>rfl
 | some d =>
  funext i
  simp only [St.put,look,iC,dJ]
  by_cases e:i=d
  ·subst e;simp
  ·rw [if_neg (fun x=>e x.symm),if_neg e]
theorem cY(st:St)(d:Option Tmp)(v:AV):(st.put d v).heap=st.heap:=by cases d<;>rfl
theorem CE{T:List (Nat×AV)}{d:Nat}{v:AV}(hv:look T d=v):dJ (look T) d v=look T:=by
 funext i
 unfold dJ
 split
 ·rename_i e;subst e;exact hv.symm
 ·rfl
theorem gK{a:Act}{d:Nat}{v:Value}(hd:d<a.tmps.size)(i:Nat):(a.put (some d) v).tmps.getD i undef=if i=d then v else a.tmps.getD i undef:=by
 simp only [Act.put]
 by_cases e:i=d
 ·subst e;simp [hd]
 ·simp [e,Array.getElem?_setIfInBounds_ne (Ne.symm e)]
theorem cm(a:Act)(d:Option Tmp)(v:Value):(a.put d v).tmps.size=a.tmps.size:=by cases d<;>simp [Act.put]
theorem put_defers(a:Act)(d:Option Tmp)(v:Value):(a.put d v).defers=a.defers:=by cases d<;>rfl
theorem cM.put{n:Nat}{T:Nat→AV}{a:Act}{o:Oper}{x:AV}{V:Value}(t:cM Z ψ h w n T a)(hd:gT n o=true)(hx:ax Z ψ h w x V):cM Z ψ h w n (iC T o.dst x) (a.put o.dst V):=by
 refine ⟨fun d => ?_,by rw [cm];exact t.size,by rw [put_defers];exact t.defers⟩
 unfold gT at hd
 split at hd
 ·rename_i d0 hd0
  rw [hd0]
  rw [gK (by rw [t.size];simpa using hd)]
  simp only [iC,dJ]
  split
  ·exact hx
  ·exact t.rep d
 ·rename_i hd0
  rw [hd0];exact t.rep d
theorem cM.next{n:Nat}{T:Nat→AV}{a:Act}(t:cM Z ψ h w n T a)(g:Good Z ψ h w B0 O)(hn:Next Z ψ h w B0 O N Z' ψ' h' w')(hm:∀d,aK (fun i=>¬N i) (T d)):cM Z' ψ' h' w' n T a :=
 ⟨fun d=>hn.rep g (hm d) (t.rep d),t.size,t.defers⟩
theorem pY{n:Nat}{s:List (Nat×AV)}{a:Act}(t:cM Z ψ h w n (look s) a)(x:Operand):ax Z ψ h w (ρ s x) (a.eval x):=by
 cases x with
 | tmp i=>exact t.rep i
 | const v=>exact Ff v
 | global g=>simp only [ρ,ax]
 | func f=>simp only [ρ,ax,ao,Act.eval];exact ⟨#[],rfl,rfl⟩
theorem zK(p:Nat→Prop)(v:Value):aK p (sx v):=by
 cases v with
 | agg cs=>simp only [sx,aK];exact vn p _
 | _=>simp only [sx];exact zu p _
theorem Lt{p:Nat→Prop}{s:List (Nat×AV)}(hm:∀d,aK p (look s d))(x:Operand):aK p (ρ s x):=by
 cases x with
 | tmp i=>exact hm i
 | const v=>exact zK p v
 | global g=>simp only [ρ,aK]
 | func f=>simp only [ρ,aK,aC]
def lK(rid:Nat)(S:Nat→Prop)(id:Nat):Prop:=id / 32768=rid+1→S (id / 256 % 128)
def Of(rid i id:Nat):Prop:=id / 256=(rid+1) * 128+i
theorem Of.parts{rid i id:Nat}(hi:i<128)(h:Of rid i id):id / 32768=rid+1∧id / 256 % 128=i:=by
 unfold Of at h
 constructor<;>omega
theorem Of.of{rid i id:Nat}(h:id / 32768=rid+1)(hi:id / 256 % 128=i):Of rid i id:=by
 unfold Of;omega
theorem JS{rid i j:Nat}(hj:j<256):Of rid i (opId rid i+j):=by
 unfold Of opId;omega
theorem FF{rid i:Nat}:Of rid i (opId rid i):=by unfold Of opId;omega
theorem lK.zL{rid i id:Nat}{S:Nat→Prop}(hi:i<128)(hs:¬S i)(h:lK rid S id):¬Of rid i id:=fun ho=>by
 obtain ⟨h1,h2⟩:=ho.parts hi
 have:=h h1
 rw [h2] at this
 exact hs this
theorem mZ{rid bits id:Nat}{S:Nat→Prop}(hb:∀j,bits.testBit j=true→S j)(h:pK rid bits id=true):lK rid S id:=fun h1=>by
 unfold pK at h
 simp only [Bool.or_eq_true,bne_iff_ne,ne_eq] at h
 exact hb _ (h.resolve_left (fun h2=>h2 h1))
mutual
theorem oo{rid bits:Nat}{S:Nat→Prop}(hb:∀j,bits.testBit j=true→S j):∀{v:AV},rG rid bits v=true→aK (lK rid S) v
 | .ref id s i off,h=>by simp only [rG] at h;simp only [aK];exact mZ hb h
 | .bF id,h=>by simp only [rG] at h;simp only [aK];exact mZ hb h
 | .fn f cap,h=>by simp only [rG] at h;simp only [aK];exact ll hb h
 | .agg cs,h=>by simp only [rG] at h;simp only [aK];exact ll hb h
 | .mL cs,h=>by simp only [rG] at h;simp only [aK];exact ll hb h
 | .no,_=>by simp only [aK]
 | .bool _,_=>by simp only [aK]
 | .int _ _,_=>by simp only [aK]
 | .str _,_=>by simp only [aK]
 | .kS,_=>by simp only [aK]
 | .fB,_=>by simp only [aK]
 | .fp _ _ _,_=>by simp only [aK]
 | .sl _ _ _,_=>by simp only [aK]
 | .mp _ _ _,_=>by simp only [aK]
theorem ll{rid bits:Nat}{S:Nat→Prop}(hb:∀j,bits.testBit j=true→S j):∀{v:List AV},yU rid bits v=true→aC (lK rid S) v
 | [],_=>by simp only [aC]
 | v::r,h=>by
  simp only [yU,Bool.and_eq_true] at h
  simp only [aC]
  exact ⟨oo hb h.1,ll hb h.2⟩
end
theorem ln{rid bits:Nat}{S:Nat→Prop}(hb:∀j,bits.testBit j=true→S j):∀{hh:Heap},wH rid bits hh=true→∀id o,hh.get id=some o→lK rid S id∧∀ty cs,o=.box ty cs→aC (lK rid S) cs
 | [],_,id,o,hg=>by simp [Heap.get] at hg
 | (i,ob)::r,h,id,o,hg=>by
  simp only [Heap.get] at hg
  split at hg
  ·rename_i e
   subst e
   cases hg
   cases ob with
   | box ty cs =>
    simp only [wH,Bool.and_eq_true] at h
    exact ⟨mZ hb h.1.1,fun xw cs' he=>by cases he;exact ll hb h.1.2⟩
   | own ok xs =>
    simp only [wH,Bool.and_eq_true] at h
    exact ⟨mZ hb h.1,fun xw cs' he=>by cases he⟩
  ·refine ln hb ?_ id o hg
   cases ob<;>simp only [wH,Bool.and_eq_true] at h<;>exact h.2
def bE.heap(e:bE)(h:Heap):Heap:=match e with
 | .wr _ h'=>h'
 | e=>e.h h
theorem bE.FG(e:bE)(hh:Heap):(e.heap hh).get=e.hp hh.get:=by
 cases e with
 | val v=>rfl
 | new v os=>funext i;simp only [bE.heap,bE.h,bE.hp];rw [Heap.get_append];cases Heap.get os i<;>rfl
 | wr v h'=>rfl
def rT(p:Nat→Prop)(h:Hp):Prop:=∀i ty cs,h i=some (.box ty cs)→aC p cs
theorem zM{ops:Array Oper}{o:Oper}{n:Nat}{T:Nat→AV}{a:Act}(t:cM Z ψ h w n T a){j d:Nat}{want:Bool}(hg:o.guard=some (j,want))(hd:(ops[j]?).bind (·.dst)=some d){b:Bool}(hb:T d=.bool b) :
  Region.wanted o (yielded ops a.tmps)=(b==want):=by
 have h1:=t.rep d
 rw [hb] at h1
 simp only [ax] at h1
 have h2:a.tmps[d]? = some (.bool b):=by
  rw [Array.getD_eq_getD_getElem?] at h1
  cases e:a.tmps[d]? with
  | none=>rw [e] at h1;simp [undef] at h1
  | some v=>rw [e] at h1;simpa using h1
 unfold Region.wanted yielded
 rw [hg]
 simp only [hd,Option.bind_some,h2]
 cases b<;>cases want<;>rfl
theorem w5{ops:Array Oper}{o:Oper}{n:Nat}{T:Nat→AV}{a:Act}(t:cM Z ψ h w n T a){j d:Nat}{want:Bool}(hg:o.guard=some (j,want))(hd:(ops[j]?).bind (·.dst)=some d){vs:List AV}(hb:T d=.mL vs) :
  Region.wanted o (yielded ops a.tmps)=false:=by
 have h1:=t.rep d
 rw [hb] at h1
 simp only [ax] at h1
 obtain ⟨us,h1,_⟩:=h1
 unfold Region.wanted yielded
 rw [hg]
 simp only [hd,Option.bind_some]
 rw [Array.getD_eq_getD_getElem?] at h1
 cases e:a.tmps[d]? with
 | none=>rfl
 | some v=>rw [e] at h1;simp at h1;subst h1;rfl
def zN(ops:Array Oper):Nat→List (Nat×Oper)→Prop
 | _,[]=>True
 | i,(j,o)::r=>j=i∧ops[i]? = some o∧zN ops (i+1) r
theorem FH(ops:Array Oper):∀(l:List Oper) (i:Nat),(∀k o,l[k]? = some o→ops[i+k]? = some o)→zN ops i ((l.zipIdx i).map fun p=>(p.2,p.1))
 | [],_,_=>by simp [zN]
 | o::r,i,h=>by
  simp only [List.zipIdx_cons,List.map_cons,zN]
  exact ⟨trivial,h 0 o rfl,FH ops r (i+1) fun k o' hk=>by rw [Nat.add_assoc,Nat.add_comm 1 k];exact h (k+1) o' hk⟩
theorem m0(ops:Array Oper):zN ops 0 (ops.toList.zipIdx.map fun p=>(p.2,p.1)):=FH ops _ 0 fun k o hk=>by simpa using hk
theorem CF(ops:Array Oper):(ops.toList.zipIdx.map fun p=>(p.2,p.1)).map Prod.fst=List.range ops.size:=by
 rw [List.map_map]
 have:(Prod.fst ∘ fun (p:Oper×Nat)=>(p.2,p.1))=Prod.snd:=rfl
 rw [this,List.zipIdx_map_snd,List.range_eq_range',Array.length_toList]
structure J(p:Nat→Prop)(n:Nat)(Z0:Nat→Prop)(w0:World)(O:Nat→Prop)(ψ0:Nat→Value)(Z:Nat→Prop)(ψ:Nat→Value)(T:Nat→AV)(h:Hp)(a:Act)(w:World):Prop where
 ok:Ok Z0 w0 O ψ0 Z ψ h w
 tr:cM Z ψ h w n T a
 tm:∀d,aK p (T d)
 hm:rT p h
theorem J.imp{p q:Nat→Prop}{n:Nat}{T:Nat→AV}{a:Act}(j:J p n Z0 w0 O ψ0 Z ψ T h a w)(zp:∀id,p id→q id):J q n Z0 w0 O ψ0 Z ψ T h a w :=
 ⟨j.ok,j.tr,fun d=>(j.tm d).imp zp,fun id ty cs hb=>(j.hm id ty cs hb).imp zp⟩
theorem J.op(E:Env P Eqs Sg F){rid n i:Nat}{p:Nat→Prop}{T:Nat→AV}{a:Act}{s:List (Nat×AV)}{o:Oper}(hS:makes o.op=true→∀id,p id→¬Of rid i id)(j:J p n Z0 w0 O ψ0 Z ψ T h a w)(hd:gT n o=true)
  (hT:∀x∈o.op.operands,ax Z ψ h w (ρ s x) (a.eval x)) (hTm:∀x∈o.op.operands,aK p (ρ s x)) {hh:Heap} (bu:∀id o,hh.get id=some o→h id=some o) {e:bE} (he:cJ P Eqs Sg F (opId rid i) hh s o some=some e) (lQ:∀v hw,e=.wr v hw→hh.get=h)
  {p':Nat→Prop} (MH:∀k,p k→p' k) (hv:aK p' e.v) (Ux:rT p' (e.hp h)) {next:Act→World→Prop} {Q:Exit→Act→World→Prop}
  (hk:∀a' w' Z' ψ',J p' n Z0 w0 O ψ0 Z' ψ' (iC T o.dst e.v) (e.hp h) a' w'→next a' w'):o.wp P a w next Q:=by
 have Uy:∀id,p id→¬(makes o.op=true∧Of rid i id):=fun id h ⟨h1,h2⟩=>hS h1 id h h2
 refine Ti (N:=fun id=>makes o.op=true∧Of rid i id) E j.ok.dO j.ok.size bu (id:=opId rid i) (fun hm k hk=>⟨hm,JS hk⟩) hT (fun x hx=>(hTm x hx).imp Uy) (fun id ty cs hb=>(j.hm id ty cs hb).imp Uy) lQ he fun V w' Z' ψ' nx hr => ?_
 refine hk _ w' Z' ψ' ⟨j.ok.next (fun id h=>by have:=h.2;unfold Of at this;omega) nx,(j.tr.next j.ok.dO nx (fun d=>(j.tm d).imp Uy)).put hd hr,fun d => ?_,Ux⟩
 cases ki:o.dst with
 | none=>exact (j.tm d).imp MH
 | some d0 =>
  simp only [iC,dJ]
  split
  ·exact hv
  ·exact (j.tm d).imp MH
theorem J.skip{n:Nat}{p p':Nat→Prop}{T:Nat→AV}{a:Act}{o:Oper}(j:J p n Z0 w0 O ψ0 Z ψ T h a w)(hd:gT n o=true)(MH:∀k,p k→p' k) :
  J p' n Z0 w0 O ψ0 Z ψ (iC T o.dst (.mL [])) h (a.put o.dst undef) w:=by
 refine ⟨j.ok,j.tr.put hd Ls,fun d => ?_,fun id ty cs hb=>(j.hm id ty cs hb).imp MH⟩
 cases ki:o.dst with
 | none=>exact (j.tm d).imp MH
 | some d0 =>
  simp only [iC,dJ]
  split
  ·simp only [aK,aC]
  ·exact (j.tm d).imp MH
theorem RF{hh:Heap}(g:Good Z ψ hh.get w B0 O){m:Nat}{kk vk:K}{es:List (kk.T×vk.T)}(hg:hh.get m=some (.own (.map kk vk) es))(n:Next Z ψ hh.get w B0 O N Z' ψ' h' w')(hzm:∀b,ob (ψ m)=some b→Z' b)
  (hold:∀b,b<w.heap.size→w'.heap[b]? = w.heap[b]?) {v:AV} {V:Value} (hm:aK (fun id=>¬N id) v) (hr:ax Z ψ hh.get w v V):ax Z' ψ' h' w' (E7 m (.mp kk vk es) v) V:=by
 by_cases hv:v=.bF m
 ·subst hv
  simp only [E7,if_true]
  simp only [ax] at hr
  have hu:=hr.2 (by rw [hg];simp)
  obtain ⟨r,bQ,clock,h1,h2,h3,_⟩:=g.row m (.map kk vk) es hg
  rw [h1] at hu
  subst hu
  have aJ:=(Array.getElem?_eq_some_iff.1 h2).1
  simp only [ax,aG]
  exact ⟨some r,rfl,.inr ⟨r,bQ,clock,rfl,hzm r (by rw [h1];rfl),(hold r aJ).trans h2,h3.imp (fun _ _ h=>h.mono n.fm (fun b hb=>hold b (g.jm b hb))) (fun _ _ h=>h.mono n.fm (fun b hb=>hold b (g.jm b hb)))⟩⟩
 ·have hf:E7 m (.mp kk vk es) v=v:=by
   unfold E7
   split
   ·split
    ·rename_i e;subst e;exact absurd rfl hv
    ·rfl
   ·rfl
  rw [hf]
  exact n.rep g hm hr
theorem NA{p:Nat→Prop}{m:Nat}{kk vk:K}{es:List (kk.T×vk.T)}{v:AV}(hm:aK p v):aK p (E7 m (.mp kk vk es) v):=by
 unfold E7
 split
 ·split
  ·simp only [aK]
  ·exact hm
 ·exact hm
theorem vx(f:AV→AV)(hf:f .no=.no):∀(l:List (Nat×AV)) (d:Nat),look (l.map fun p=>(p.1,f p.2)) d=f (look l d)
 | [],_=>by simp only [List.map_nil,look];exact hf.symm
 | (i,v)::r,d=>by
  simp only [List.map_cons,look]
  split
  ·rfl
  ·exact vx f hf r d
theorem Iz{rid n i:Nat}{p p':Nat→Prop}{st dS:St}{a:Act}{o:Oper}(hS:∀id,p id→¬Of rid i id)(MH:∀k,p k→p' k)(Nm:p' (opId rid i))(j:J p n Z0 w0 O ψ0 Z ψ (look st.tmps) st.heap.get a w)(hd:gT n o=true)(m6:nP P (opId rid i) st o=some dS) :
  ∃V w' Z' ψ',(execOp a.eval o).run P w=.ok (.value V) w'∧J p' n Z0 w0 O ψ0 Z' ψ' (look dS.tmps) dS.heap.get (a.put o.dst V) w':=by
 unfold nP at m6
 split at m6
 ·rename_i t x DZ
  split at m6
  ·rename_i ka va m hu hx
   split at m6
   ·rename_i kk vk es hg
    cases m6
    have We:ax Z ψ st.heap.get w (.bF m) (a.eval x):=by rw [←hx];exact pY j.tr x
    simp only [ax] at We
    have hev:=We.2 (by rw [hg];simp)
    have g:=j.ok.dO
    obtain ⟨r,bQ,clock,h1,h2,h3,h4,h5⟩:=g.row m (.map kk vk) es hg
    rw [h1] at hev
    have aJ:=(Array.getElem?_eq_some_iff.1 h2).1
    have gd:=gY g [.bF m]
    have Xp:∀b,ob (ψ m)=some b→po Z ψ st.heap.get [.bF m] b:=fun b hb=>.inr ⟨m,by simp,by rw [hg];simp,hb⟩
    have hold:∀b,b<w.heap.size→(w.alloc (.mapIter (some r) clock #[] clock)).heap[b]? = w.heap[b]? := fun b hb=>heap_alloc_old w _ hb
    have hN:(Of rid i) (opId rid i):=FF
    have n1:=zn (N:=Of rid i) gd j.ok.size (opId rid i) hN (ok:=.iter kk vk) (x:=(none,es)) (v:=.pointer (some ⟨w.heap.size,0,none⟩)) (.mapIter (some r) clock #[] clock)
     ⟨w.heap.size,r,clock,#[],bQ,clock,rfl,heap_alloc_new _ _,Xp r (by rw [h1];rfl),(hold r aJ).trans h2,h4,rfl,h5,by
      rw [List.filter_eq_self.2 (fun e _=>by simp)]
      exact h3.imp (fun _ _ h=>h.mono (fun b hb=>.inl hb) (fun b hb=>hold b (g.jm b hb))) (fun _ _ h=>h.mono (fun b hb=>.inl hb) (fun b hb=>hold b (g.jm b hb))),trivial⟩ rfl
     (fun i' ty cs hb=>aC.imp (p:=p) (q:=fun i'=>i'≠opId rid i) (fun id hp e=>hS id hp (by rw [e];exact hN)) (j.hm i' ty cs (dN _ _ _ _ hb)))
    have n2:=n1.drop (Z:=Z) (h:=st.heap.get) (fun b hb=>.inl hb) (fun b hb=>hb.imp (fun h=>h) (fun ⟨id,_,h5,h6⟩=>⟨id,h5,h6⟩)) (dN _ _)
    have eX:(dJ (cC st.heap [.bF m]).get (opId rid i) (some (Ob.own (.iter kk vk) (none,es))))=Heap.get ((opId rid i,.own (.iter kk vk) (none,es))::st.heap.del m):=by
     funext k
     simp only [cC,drop1,dJ,Heap.get]
     by_cases e:k=opId rid i
     ·subst e;simp
     ·rw [if_neg e,if_neg (fun h=>e h.symm)]
    rw [eX] at n2
    refine ⟨.pointer (some ⟨w.heap.size,0,none⟩),w.alloc (.mapIter (some r) clock #[] clock),po Z ψ st.heap.get [.bF m],dJ ψ (opId rid i) (.pointer (some ⟨w.heap.size,0,none⟩)),?_,?_⟩
    ·obtain ⟨dst,op,type,pos,after,guard⟩:=o
     simp only at DZ
     subst DZ
     have db:(Instr.range t (.map (some r))).run P w=.ok (.pointer (some ⟨w.heap.size,0,none⟩)) (w.alloc (.mapIter (some r) clock #[] clock)):=by
      simp only [Instr.range,Sem.run_bind,run_underlying hu,Result.andThen_ok,fG h2 (by simp),Sem.run_pure];rfl
     simp [execOp,hev,db]
    ·have bh:∀d,aK (fun id=>¬Of rid i id) (look st.tmps d):=fun d=>(j.tm d).imp hS
     refine ⟨by rw [cY];exact j.ok.next (fun id h=>by unfold Of at h;omega) n2,?_,fun d => ?_,fun k ty cs hb => ?_⟩
     ·rw [gI,cY]
      refine cM.put ⟨fun d => ?_,j.tr.size,j.tr.defers⟩ hd ?_
      ·rw [vx _ rfl]
       exact RF g hg n2 (fun b hb=>Xp b hb) hold (bh d) (j.tr.rep d)
      ·simp only [ax]
       exact ⟨⟨rfl,rfl⟩,fun _=>(bg _ _ _).symm⟩
     ·rw [gI]
      have hb:aK p' (look (st.tmps.map fun q=>(q.1,E7 m (.mp kk vk es) q.2)) d):=by rw [vx _ rfl];exact NA ((j.tm d).imp MH)
      cases ki:o.dst with
      | none=>exact hb
      | some d0 =>
       simp only [iC,dJ]
       split
       ·simp only [aK];exact Nm
       ·exact hb
     ·rw [cY] at hb
      simp only [Heap.get] at hb
      split at hb
      ·cases hb
      ·exact (j.hm k ty cs (Heap.tI hb).1).imp MH
   ·cases m6
  ·cases m6
 ·cases m6
theorem m8{R:Type}{n:Nat}{f:Nat→Option R}{r:R}(h:ry n f=some r):∀j,j<n→f j=some r:=by
 unfold ry at h
 split at h
 ·rename_i hx;cases h;exact Classical.choose_spec hx
 ·cases h
theorem lZ{R:Type}{n:Nat}{f:Nat→Option R}{r:R}(hn:0<n)(h:∀j,j<n→f j=some r):ry n f=some r:=by
 unfold ry
 have hx:∃r,∀j,j<n→f j=some r:=⟨r,h⟩
 rw [dif_pos hx]
 have:=Classical.choose_spec hx 0 hn
 rw [h 0 hn] at this
 exact this.symm
theorem Next.drawn{d:Nat}(n:Next Z ψ h { w with drawn:=d } B0 O N Z' ψ' h' w'):Next Z ψ h w B0 O N Z' ψ' h' w' :=
 ⟨n.fm,n.dU,⟨n.keep.os,n.keep.tape,n.keep.output,n.keep.size,n.keep.block⟩,n.ids,n.dO⟩
theorem Good.drawn{d:Nat}(g:Good Z ψ h w B0 O):Good Z ψ h { w with drawn:=d } B0 O:=by
 have sm:ck Z w ({ w with drawn:=d }:World):=fun _ _=>rfl
 refine ⟨fun id ty cs hb => ?_,fun id ok xs hb => ?_,g.live,g.apart,g.jm⟩
 ·obtain ⟨gg,vs,h1,h2,h3,h4⟩:=g.box id ty cs hb
  exact ⟨gg,vs,h1,h2,h3.less (fun _ h=>h) sm (fun i hi=>⟨hi,rfl⟩),h4⟩
 ·exact (g.row id ok xs hb).kept (fun _ h=>h) sm (fun gg _=>rfl)
theorem filter_push{l:List MapEntry}(h:l.Pairwise (fun a b=>a.born≠b.born)){seen:Array Nat}{j:Nat}{e:MapEntry}(he:(l.filter fun e => !seen.contains e.born)[j]? = some e) :
  l.filter (fun x => !(seen.push e.born).contains x.born)=(l.filter fun e => !seen.contains e.born).eraseIdx j:=by
 have h2:(l.filter fun e => !seen.contains e.born).Pairwise (fun a b=>a.born≠b.born):=h.sublist List.filter_sublist
 rw [←ChangeMaps.filter_eq_eraseIdx (fun x=>x.born==e.born) _ j e he (by simp) (h2.imp fun {a b} bj hc=>bj (by
  simp only [beq_iff_eq] at hc;omega))]
 rw [List.filter_filter]
 congr 1
 funext x
 simp only [Array.contains_push]
 cases seen.contains x.born<;>cases x.born==e.born<;>rfl
theorem IA{R:Type}{hh:Heap}(g:Good Z ψ hh.get w B0 O){x:AV}{u:Value}{ty:TypeId}(hx:ax Z ψ hh.get w x u){kk:AV→Heap→Option R}{r:R}(he:ky hh x kk=some r) :
  ∃v h' V w',(Instr.next u false ty).run P w=.ok V w'∧Next Z ψ hh.get w B0 O N Z ψ h'.get w'∧ax Z ψ h'.get w' v V∧kk v h'=some r∧(∀p,aK p v)∧∀i ty cs,h'.get i=some (.box ty cs)→hh.get i=some (.box ty cs):=by
 unfold ky at he
 split at he
 ·rename_i id
  split at he
  ·rename_i kk1 vk pp hg
   simp only [ax] at hx
   have hu:=hx.2 (by rw [hg];simp)
   obtain ⟨b,m,since,seen,bQ,clock,h1,h2,h3,h4,h5,h6,h7,h8,h9⟩:=g.row id (.iter kk1 vk) pp hg
   rw [h1] at hu
   subst hu
   subst h6
   have aJ:=(Array.getElem?_eq_some_iff.1 h2).1
   have Tj:(leftOf bQ seen).toList=bQ.toList.filter fun e => !seen.contains e.born:=by unfold leftOf;simp
   have hlen:pp.2.length=(leftOf bQ seen).size:=by rw [h8.1,←Tj,Array.length_toList]
   rcases run_next_at (P:=P) w ty b m since since seen bQ since h2 h4 h7 (Nat.le_refl _) with ⟨mr,db⟩ | ⟨e,gm,w1,IB,db⟩
   ·have Lk:pp.2.isEmpty=true:=by rw [List.isEmpty_iff];exact List.eq_nil_of_length_eq_zero (by rw [hlen,mr])
    rw [Lk] at he
    simp only [cond_true] at he
    exact ⟨_,hh,_,w,db,Next.refl g,by simp only [ax,ao];exact ⟨_,rfl,_,_,rfl,rfl,rfl⟩,he,fun p=>by simp only [aK,aC];exact ⟨trivial,trivial⟩,fun _ _ _ h=>h⟩
   ·obtain ⟨k,hk,hke⟩:=List.mem_iff_getElem.1 gm
    have nK:k<pp.2.length:=by rw [hlen,←Array.length_toList];exact hk
    have Lk:pp.2.isEmpty=false:=by
     cases hl:pp.2 with
     | nil=>rw [hl] at nK;simp at nK
     | cons _ _=>rfl
    rw [Lk] at he
    simp only [cond_false] at he
    have hj:=m8 he k nK
    rw [List.getElem?_eq_getElem nK,Option.bind_some] at hj
    have Uz:(bQ.toList.filter fun e => !seen.contains e.born)[k]? = some e:=by rw [←Tj,List.getElem?_eq_getElem hk,hke]
    have K5:=h8.2 k _ e (List.getElem?_eq_getElem nK) Uz
    obtain ⟨⟨k1,k2,k3⟩,v1,v2,v3⟩:=K5
    have abZ:e∈bQ.toList:=(List.mem_filter.1 (List.mem_of_getElem? Uz)).1
    have gd1:Good Z ψ hh.get w1 B0 O:=by rcases IB with rfl | rfl;exact g;exact g.drawn
    have D0:w1.heap=w.heap:=by rcases IB with rfl | rfl<;>rfl
    have hmb:m≠b:=fun hmb=>by
     subst hmb
     exact (g.live id m (by rw [hg];simp) (by rw [h1];rfl)).1 h3
    have n1:=qO (N:=N) gd1 (id:=id) (by rw [hg];simp) (r:=b) (by rw [h1];rfl) (by rw [D0];exact aJ) (.mapIter (some m) since (seen.push e.born) since) (ok:=.iter kk1 vk) (x:=(some pp.2[k],pp.2.eraseIdx k)) (fun w' Ih sm=>by
     have Wg:ck Z w w':=fun c hc=>(sm c hc).trans (by rw [D0])
     refine ⟨b,m,since,seen.push e.born,bQ,since,h1,by rw [Ih,D0];simp [aJ],h3,?_,h5,rfl,h7,?_,?_⟩
     ·rw [Ih,D0,vl _ (fun e=>hmb e.symm)];exact h4
     ·rw [filter_push h5 Uz]
      exact (jP.erase h8 k).mono (fun _ h=>h) Wg
     ·refine ⟨e,abZ,by simp,⟨rfl,fun q y e' mr xy => ?_⟩⟩
      cases q with
      | zero=>cases mr;cases xy;exact ⟨⟨k1.mono (fun _ h=>h) Wg,k2,k3⟩,v1.mono (fun _ h=>h) Wg,v2,v3⟩
      | succ q=>simp at mr)
    have n2:Next Z ψ hh.get w B0 O N Z ψ (dJ hh.get id (some (.own (.iter kk1 vk) (some pp.2[k],pp.2.eraseIdx k)))) { w1 with heap:=w1.heap.setIfInBounds b (.mapIter (some m) since (seen.push e.born) since) }:=by
     rcases IB with rfl | rfl
     ·exact n1
     ·exact n1.drawn
    refine ⟨_,hh.set id (.own (.iter kk1 vk) (some pp.2[k],pp.2.eraseIdx k)),_,_,db,by rw [lP];exact n2,?_,hj,fun p => ?_,fun i ty cs hb => ?_⟩
    ·have Wg:ck Z w ({ w1 with heap:=w1.heap.setIfInBounds b (.mapIter (some m) since (seen.push e.born) since) }:World):=n2.same g
     simp only [ax,ao]
     exact ⟨_,rfl,_,_,rfl,rfl,_,_,rfl,kX (k1.mono (fun _ h=>h) Wg) k2 k3,_,_,rfl,kX (v1.mono (fun _ h=>h) Wg) v2 v3,rfl⟩
    ·simp only [aK,aC]
     exact ⟨trivial,mX _ _ _,mX _ _ _,trivial⟩
    ·rw [lP] at hb
     unfold dJ at hb
     split at hb
     ·cases hb
     ·exact hb
  ·cases he
 ·cases he
theorem FI(op:BinOp)(t:TypeId)(a b:Operand)(x y:Option Addr)(n m c d:Nat):(eqGuard op t a b (.slice x n c) (.slice y m d)).run P w=.ok () w:=by cases op<;>simp [eqGuard]
theorem BX{t e:TypeId}(ht:P.underlying t=some (.slice e))(a:Option Addr)(n c:Nat):(Op.equal t (.slice a n c) (.slice none 0 0)).run P w=.ok a.isNone w:=by
 have key:∀d,(Op.equalIn (d+1) t (.slice a n c) (.slice none 0 0)).run P w=.ok a.isNone w:=fun d=>by
  cases a<;>simp [Op.equalIn,run_underlying ht]
 exact key 9999
theorem IC{o:Oper}{x:Operand}{want:Bool}(h:isNil P o=some (x,want)):∃op t v t' e,o.op=.binOp op t x (.const v) t'∧P.underlying t=some (.slice e)∧v=.slice none 0 0∧((op=.eql∧want=true)∨(op=.neq∧want=false)):=by
 unfold isNil at h
 split at h
 ·rename_i op t x' v t' DZ
  have hv:∀v:Value,u4 v=.fB→v=.slice none 0 0:=fun v hv=>by
   unfold u4 at hv
   split at hv<;>try (first | cases hv | (split at hv<;>cases hv);done)
   all_goals (split at hv<;>first | cases hv | skip)
   ·rename_i hc;obtain ⟨rfl,rfl,rfl⟩:=hc;rfl
   all_goals (split at hv<;>cases hv)
  split at h
  ·rename_i e h1 h2 h3;cases h;exact ⟨_,_,_,_,_,DZ,h2,hv _ h3,.inl ⟨rfl,rfl⟩⟩
  ·rename_i e h1 h2 h3;cases h;exact ⟨_,_,_,_,_,DZ,h2,hv _ h3,.inr ⟨rfl,rfl⟩⟩
  ·cases h
 ·cases h
theorem NB{R:Type}{hh:Heap}(g:Good Z ψ hh.get w B0 O){x:AV}{u:Value}{op:BinOp}{t e:TypeId}(xo yo:Operand)(hx:ax Z ψ hh.get w x u)(ht:P.underlying t=some (.slice e)){want:Bool}(ho:(op=.eql∧want=true)∨(op=.neq∧want=false)){kk:AV→Option R}{r:R}(he:tG hh x want kk=some r) :
  ∃c:Bool,((eqGuard op t xo yo u (.slice none 0 0)).run P w=.ok () w∧(binOp op t u (.slice none 0 0)).run P w=.ok (.bool c) w)∧kk (.bool c)=some r:=by
 have run:∀(a:Option Addr) (n c:Nat),(eqGuard op t xo yo (.slice a n c) (.slice none 0 0)).run P w=.ok () w∧(binOp op t (.slice a n c) (.slice none 0 0)).run P w=.ok (.bool (a.isNone==want)) w:=fun a n c=>by
  refine ⟨FI _ _ _ _ _ _ _ _ _ _,?_⟩
  rcases ho with ⟨rfl,rfl⟩ | ⟨rfl,rfl⟩<;>simp only [Sem.run_bind,Result.andThen_ok,binOp,BX ht,Sem.run_pure]<;>cases a.isNone<;>rfl
 have fin:∀(n:Nat) (a:Option Addr) (c:Nat) (xs:Bool),(a=none→xs=true)→cond xs (ry 2 fun j=>kk (.bool ((j==0)==want))) (kk (.bool (!want)))=some r →
   ∃c':Bool,((eqGuard op t xo yo (.slice a n c) (.slice none 0 0)).run P w=.ok () w∧(binOp op t (.slice a n c) (.slice none 0 0)).run P w=.ok (.bool c') w)∧kk (.bool c')=some r:=fun n a c xs qK h=>by
  refine ⟨_,run a n c,?_⟩
  cases xs with
  | true =>
   simp only [cond_true] at h
   cases a with
   | none=>exact m8 h 0 (by decide)
   | some a=>exact m8 h 1 (by decide)
  | false =>
   simp only [cond_false] at h
   cases a with
   | none=>cases qK rfl
   | some a=>cases want<;>exact h
 unfold tG at he
 split at he
 ·rename_i hv
  have hxn:x=.fB:=by
   cases x<;>simp only [cF] at hv<;>try cases hv
   ·rfl
   ·split at hv<;>cases hv
  subst hxn
  simp only [ax] at hx
  subst hx
  exact ⟨_,run none 0 0,by cases want<;>exact he⟩
 ·rename_i ex k xs hv
  cases x with
  | sl ex' k' WM =>
   simp only [cF] at hv
   cases hv
   simp only [ax,aG] at hx
   obtain ⟨⟨v,hv,A,c,rfl,h1,h2,_⟩,_⟩:=hx
   cases hv
   refine fin _ A c _ (fun hA => ?_) he
   have:=h2 hA
   rw [List.isEmpty_iff]
   exact List.eq_nil_of_length_eq_zero (by omega)
  | bF id =>
   simp only [cF] at hv
   simp only [ax] at hx
   split at hv
   ·rename_i hg
    cases hv
    have hu:=hx.2 (by rw [hg];simp)
    obtain ⟨vs,⟨_,h1⟩,_⟩:=g.row id _ _ hg
    rw [←hu] at h1
    rcases h1 with ⟨h1,A,rfl⟩ | ⟨gg,cap,cur,rfl,_⟩
    ·exact fin _ A 0 _ (fun _=>List.isEmpty_iff.2 (List.eq_nil_of_length_eq_zero h1)) he
    ·exact fin _ _ _ _ (fun h=>by cases h) he
   ·cases hv
   ·cases hv
  | _=>simp only [cF] at hv<;>cases hv
 ·cases he
theorem zO{draw:Bool}{rid:Nat}{ops:Array Oper}{b:Array Nat}{i HX:Nat}{e:bE}{S:Nat→Prop}{hh:Heap}(hm:rT (lK rid S) h)(ha:∀j,HX.testBit j=true→S j)(he:gh draw rid ops b i HX e=true) :
  aK (lK rid fun k=>S k∨k=i) e.v∧rT (lK rid fun k=>S k∨k=i) (e.hp h):=by
 have E9:∀j,(HX ||| 2 ^ i).testBit j=true→S j∨j=i:=fun j hj=>by
  rw [Nat.testBit_or,Bool.or_eq_true] at hj
  rcases hj with hj | hj
  ·exact .inl (ha j hj)
  ·rw [Nat.testBit_two_pow] at hj;exact .inr (by simpa using hj:i=j).symm
 have up:rT (lK rid fun k=>S k∨k=i) h:=fun id ty cs hb=>(hm id ty cs hb).imp (fun id h1 h2=>.inl (h1 h2))
 cases e with
 | val v=>exact ⟨oo (fun j hj=>.inl (ha j hj)) he,up⟩
 | new v os =>
  simp only [gh,Bool.and_eq_true] at he
  refine ⟨oo E9 he.1.1,fun id ty cs hb => ?_⟩
  simp only [bE.hp] at hb
  split at hb
  ·rename_i o ho
   cases hb
   exact (ln E9 he.2 _ _ ho).2 _ _ rfl
  ·exact up id ty cs hb
 | wr v h' =>
  simp only [gh,Bool.and_eq_true] at he
  exact ⟨oo E9 he.1.2,fun id ty cs hb=>(ln E9 he.2 _ _ hb).2 _ _ rfl⟩
theorem BY{i j:Nat}(h:(2 ^ i - 1).testBit j=true):j<i:=by
 rw [Nat.testBit_two_pow_sub_one] at h;simpa using h
def vz(mk:Bool)(rid i id:Nat):Prop:=mk=true→lK rid (fun k=>k<i) id
theorem kL(E:Env P Eqs Sg F){rid n:Nat}{ops:Array Oper}{b:Array Nat}(mk:Bool)(NC:mk=false→∀(i:Nat) (o:Oper),ops[i]? = some o→makes o.op=false)(hn:ops.size≤128)(ki:∀(i:Nat) (o:Oper),ops[i]? = some o→gT n o=true){kk:St→Option R}{r:R}{Q:Exit→Act→World→Prop}
  (hQ:∀dS Z ψ a w,kk dS=some r→Ok Z0 w0 O ψ0 Z ψ dS.heap.get w→cM Z ψ dS.heap.get w n (look dS.tmps) a→Q .normal a w) :
  ∀(l:List (Nat×Oper)) (i:Nat) (st:St) (Z:Nat→Prop) (ψ:Nat→Value) (a:Act) (w:World),zN ops i l→bA P Eqs Sg F rid false ops b l st kk=some r →
   J (vz mk rid i) n Z0 w0 O ψ0 Z ψ (look st.tmps) st.heap.get a w→wpOps P ops Q (l.map Prod.fst) a w
 | [],i,st,Z,ψ,a,w,_,hx,j=>hQ st Z ψ a w hx j.ok j.tr
 | (i',o)::l,i,st,Z,ψ,a,w,hl,hx,j=>by
  obtain ⟨rfl,ho,hl⟩:=hl
  have hi:i'<128:=Nat.lt_of_lt_of_le (Array.getElem?_eq_some_iff.1 ho).1 hn
  have Q1:=ki i' o ho
  have ih:=kL E (rid:=rid) (b:=b) mk NC hn ki hQ l (i'+1)
  have up:∀id,vz mk rid i' id→vz mk rid (i'+1) id:=fun id h hm hr=>Nat.lt_succ_of_lt (h hm hr)
  have runs:∀g8:St,look g8.tmps=look st.tmps→g8.heap=st.heap→Region.wanted o (yielded ops a.tmps)=true →
    (match nP P (opId rid i') g8 o with
    | some dS=>bA P Eqs Sg F rid false ops b l dS kk
    | none=>match tF o with
    | some x=>ky g8.heap (ρ g8.tmps x) fun v h=>bA P Eqs Sg F rid false ops b l (({ g8 with heap:=h }:St).put o.dst v) kk
    | none=>match isNil P o with
    | some (x,want)=>tG g8.heap (ρ g8.tmps x) want fun v=>bA P Eqs Sg F rid false ops b l (g8.put o.dst v) kk
    | none=>cJ P Eqs Sg F (opId rid i') g8.heap g8.tmps o fun e=>if gh false rid ops b i' (2 ^ i' - 1) e then bA P Eqs Sg F rid false ops b l ({ g8 with heap:=match e with | .wr _ h=>h | e=>e.h g8.heap }.put o.dst e.v) kk else none)=some r →
    wpOps P ops Q (((i',o)::l).map Prod.fst) a w:=by
   intro g8 h1 h2 hw hx
   split at hx
   ·rename_i dS m6
    simp only [List.map_cons,wpOps,ho,hw,if_true]
    refine .inl ?_
    have Xq:makes o.op=true:=by
     unfold nP at m6
     split at m6
     ·rename_i DZ;rw [DZ];rfl
     ·cases m6
    have ab1:mk=true:=by
     cases Lu:mk with
     | true=>rfl
     | false=>rw [NC Lu i' o ho] at Xq;cases Xq
    have j1:J (vz mk rid i') n Z0 w0 O ψ0 Z ψ (look g8.tmps) g8.heap.get a w:=by rw [h1,h2];exact j
    obtain ⟨V,w',Z',ψ',db,j'⟩:=Iz (P:=P) (p':=vz mk rid (i'+1)) (fun id hp my=>by
     obtain ⟨h3,h4⟩:=my.parts hi
     have:=hp ab1 h3
     rw [h4] at this
     exact Nat.lt_irrefl _ this) up (fun _ h3=>by
      have:=((FF (rid:=rid) (i:=i')).parts hi).2
      rw [this];exact Nat.lt_succ_self _) j1 Q1 m6
    unfold Oper.wp
    rw [db]
    exact ih dS Z' ψ' _ w' hl hx j'
   split at hx
   ·rename_i x CG
    simp only [List.map_cons,wpOps,ho,hw,if_true]
    refine .inl ?_
    have DZ:o.op=.next x false:=by
     unfold tF at CG
     split at CG
     ·rename_i DZ;cases CG;exact DZ
     ·cases CG
    have We:ax Z ψ g8.heap.get w (ρ g8.tmps x) (a.eval x):=pY (by rw [h1,h2];exact j.tr) x
    have g1:Good Z ψ g8.heap.get w w0.heap.size O:=by rw [h2];exact j.ok.dO
    obtain ⟨v,h',V,w',db,nx,hr,Rp,Ul,o5⟩:=IA (P:=P) (N:=fun _=>False) (ty:=o.type) g1 We hx
    have ND:(execOp a.eval o).run P w=.ok (.value V) w':=by
     obtain ⟨dst,op,type,pos,after,guard⟩:=o
     simp only at DZ
     subst DZ
     simp only at db
     simp [execOp,db]
    unfold Oper.wp
    rw [ND]
    refine ih _ Z ψ _ w' hl Rp ?_
    rw [gI,cY]
    have j1:J (vz mk rid i') n Z0 w0 O ψ0 Z ψ (look g8.tmps) g8.heap.get a w:=by rw [h1,h2];exact j
    refine ⟨j1.ok.next (fun id h=>h.elim) nx,(j1.tr.next g1 nx (fun d=>(j1.tm d).imp fun _ _ h=>h)).put Q1 hr,fun d => ?_,fun k ty cs hb=>(j1.hm k ty cs (o5 k ty cs hb)).imp up⟩
    cases ki:o.dst with
    | none=>exact (j1.tm d).imp up
    | some d0 =>
     simp only [iC,dJ]
     split
     ·exact Ul _
     ·exact (j1.tm d).imp up
   split at hx
   ·rename_i x want Xr
    obtain ⟨op,t,v,t',et,DZ,ht,rfl,pZ⟩:=IC Xr
    simp only [List.map_cons,wpOps,ho,hw,if_true]
    refine .inl ?_
    have We:ax Z ψ g8.heap.get w (ρ g8.tmps x) (a.eval x):=pY (by rw [h1,h2];exact j.tr) x
    have g1:Good Z ψ g8.heap.get w w0.heap.size O:=by rw [h2];exact j.ok.dO
    obtain ⟨c,db,Rp⟩:=NB (P:=P) g1 x (.const (.slice none 0 0)) We ht pZ hx
    have ND:(execOp a.eval o).run P w=.ok (.value (.bool c)) w:=by
     obtain ⟨dst,op',type,pos,after,guard⟩:=o
     simp only at DZ
     subst DZ
     have e1:a.eval (.const (.slice none 0 0))=.slice none 0 0:=rfl
     simp [execOp,e1,db.1,db.2]
    unfold Oper.wp
    rw [ND]
    refine ih _ Z ψ _ w hl Rp ?_
    rw [gI,cY]
    have j1:J (vz mk rid i') n Z0 w0 O ψ0 Z ψ (look g8.tmps) g8.heap.get a w:=by rw [h1,h2];exact j
    refine ⟨j1.ok,j1.tr.put Q1 (by simp only [ax]),fun d => ?_,fun k ty cs hb=>(j1.hm k ty cs hb).imp up⟩
    cases ki:o.dst with
    | none=>exact (j1.tm d).imp up
    | some d0 =>
     simp only [iC,dJ]
     split
     ·simp only [aK]
     ·exact (j1.tm d).imp up
   rw [kK] at hx
   obtain ⟨e,he,hx⟩:=Option.bind_eq_some_iff.1 hx
   split at hx
   ·rename_i lI
    simp only [List.map_cons,wpOps,ho,hw,if_true]
    refine .inl ?_
    have hh:g8.heap.get=st.heap.get:=by rw [h2]
    have m6:aK (vz mk rid (i'+1)) e.v∧rT (vz mk rid (i'+1)) (e.hp st.heap.get):=by
     cases Lu:mk with
     | false =>
      have ht:vz false rid (i'+1)=fun _=>True:=funext fun id=>propext ⟨fun _=>trivial,fun _ h=>by cases h⟩
      rw [ht];exact ⟨aK.top _,fun _ _ cs _=>aC.top cs⟩
     | true =>
      have Ru:rT (lK rid fun k=>k<i') st.heap.get:=fun id ty cs hb=>(j.hm id ty cs hb).imp fun id h1=>h1 Lu
      have h3:=zO (hh:=g8.heap) Ru (fun k hk=>BY hk) lI
      have hS:∀k,(k<i'∨k=i')→k<i'+1:=fun k hk=>by omega
      exact ⟨h3.1.imp fun id h1 _ h2=>hS _ (h1 h2),fun id ty cs hb=>(h3.2 id ty cs hb).imp fun id h1 _ h2=>hS _ (h1 h2)⟩
    refine J.op E (p:=vz mk rid i') (p':=vz mk rid (i'+1)) (rid:=rid) (i:=i') (s:=g8.tmps) (fun hm id hp my => ?_) j Q1 (fun x _=>pY (by rw [h1];exact j.tr) x) (fun x _=>Lt (by rw [h1];exact j.tm) x) (fun id o hg=>by rw [hh] at hg;exact hg) he (fun _ _ _=>hh) up m6.1 m6.2 fun a' w' Z' ψ' j' => ?_
    ·cases Lu:mk with
     | false=>rw [NC Lu i' o ho] at hm;cases hm
     | true =>
      obtain ⟨h3,h4⟩:=my.parts hi
      have:=hp Lu h3
      rw [h4] at this
      exact Nat.lt_irrefl _ this
    refine ih _ Z' ψ' a' w' hl hx ?_
    rw [gI,cY]
    have j2:J (vz mk rid (i'+1)) n Z0 w0 O ψ0 Z' ψ' (iC (look g8.tmps) o.dst e.v) (bE.heap e g8.heap).get a' w':=by rw [bE.FG,h1,h2];exact j'
    exact j2
   ·cases hx
  have zP:∀g8:St,look g8.tmps=look st.tmps→g8.heap=st.heap→Region.wanted o (yielded ops a.tmps)=false →
    bA P Eqs Sg F rid false ops b l (g8.put o.dst (.mL [])) kk=some r→wpOps P ops Q (((i',o)::l).map Prod.fst) a w:=by
   intro g8 h1 h2 hw hx
   simp only [List.map_cons,wpOps,ho,hw,Bool.false_eq_true,if_false]
   refine ih _ Z ψ _ w hl hx ?_
   rw [gI,cY,h1,h2]
   exact j.skip Q1 up
  rw [bA] at hx
  simp only [Bool.false_eq_true,if_false] at hx
  split at hx
  ·rename_i hg
   exact runs st rfl rfl (by simp [Region.wanted,hg]) hx
  ·rename_i jj want hg
   split at hx
   ·cases hx
   ·rename_i d hd
    split at hx
    ·rename_i t ht
     have hw:=zM j.tr hg hd ht
     have hp:∀b,t=b→look (st.put (some d) (.bool b)).tmps=look st.tmps:=fun b hb=>by
      subst hb;rw [gI];exact CE ht
     cases t<;>simp only [cond_true,cond_false] at hx<;>split at hx<;>rename_i pZ
     ·exact zP _ (hp false rfl) (cY _ _ _) (by rw [hw];simp [pZ]) hx
     ·exact runs _ (hp false rfl) (cY _ _ _) (by rw [hw];simp [pZ]) hx
     ·exact runs _ (hp true rfl) (cY _ _ _) (by rw [hw];simp [pZ]) hx
     ·exact zP _ (hp true rfl) (cY _ _ _) (by rw [hw];simp [pZ]) hx
    ·rename_i vs ht
     exact zP st rfl rfl (w5 j.tr hg hd ht) hx
    ·cases hx
end Go.Vs
namespace Go.Vs
variable {P:Program} {Eqs:TypeId→Option K} {Sg:FuncId→Option aL} {F:(f:FuncId)→(g:aL)→g.A→Option g.B} {R:Type}
variable {Z Z' Z0:Nat→Prop} {ψ ψ' ψ0:Nat→Value} {h h':Hp} {w w' w0:World} {B0:Nat} {O N:Nat→Prop}
theorem jV(hp h:Heap)(i:Nat):∀(ft:List Nat),(eO ft hp h).get i=if i∈ft then (match hp.get i with | some o=>some o | none=>h.get i) else h.get i
 | []=>by simp [eO]
 | j::r=>by
  have ih:=jV hp h i r
  unfold eO at ih ⊢
  cases hj:hp.get j with
  | none =>
   rw [List.filterMap_cons,hj]
   simp only [Option.map_none]
   rw [ih]
   by_cases e:i=j
   ·subst e;simp [hj]
   ·simp [e]
  | some o =>
   rw [List.filterMap_cons,hj]
   simp only [Option.map_some,List.cons_append,Heap.get]
   rw [ih]
   by_cases e:j=i
   ·subst e;simp [hj]
   ·have e':¬i=j:=fun h=>e h.symm
    simp [e,e']
mutual
theorem w6{ft:List Nat}:∀{v:AV},pM ft v=true→aK (fun i=>i∉ft) v
 | .ref id _ _ _,h=>by simp only [aK];simpa [pM] using h
 | .bF id,h=>by simp only [aK];simpa [pM] using h
 | .fn _ cap,h=>by simp only [aK];exact jW (by simpa only [pM] using h)
 | .agg cs,h=>by simp only [aK];exact jW (by simpa only [pM] using h)
 | .mL vs,h=>by simp only [aK];exact jW (by simpa only [pM] using h)
 | .no,_=>by simp only [aK]
 | .bool _,_=>by simp only [aK]
 | .int _ _,_=>by simp only [aK]
 | .str _,_=>by simp only [aK]
 | .kS,_=>by simp only [aK]
 | .fB,_=>by simp only [aK]
 | .fp _ _ _,_=>by simp only [aK]
 | .sl _ _ _,_=>by simp only [aK]
 | .mp _ _ _,_=>by simp only [aK]
theorem jW{ft:List Nat}:∀{l:List AV},sD ft l=true→aC (fun i=>i∉ft) l
 | [],_=>by simp only [aC]
 | v::r,h=>by
  simp only [sD,Bool.and_eq_true] at h
  simp only [aC]
  exact ⟨w6 h.1,jW h.2⟩
end
theorem jX{ft:List Nat}:∀{hh:Heap},sE ft hh=true→∀i o,hh.get i=some o→i∉ft∧∀ty cs,o=.box ty cs→aC (fun i=>i∉ft) cs
 | [],_,i,o,h=>by simp [Heap.get] at h
 | (j,.box ty cs)::r,hc,i,o,h=>by
  simp only [sE,Bool.and_eq_true] at hc
  simp only [Heap.get] at h
  split at h
  ·rename_i e;subst e;cases h
   exact ⟨by simpa using hc.1,fun ty cs e=>by cases e;exact jW hc.2.1⟩
  ·exact jX hc.2.2 i o h
 | (j,.own ok x)::r,hc,i,o,h=>by
  simp only [sE,Bool.and_eq_true] at hc
  simp only [Heap.get] at h
  split at h
  ·rename_i e;subst e;cases h
   exact ⟨by simpa using hc.1,fun ty cs e=>by cases e⟩
  ·exact jX hc.2 i o h
theorem Next.frame{hp h1:Heap}{ft:List Nat}(g:Good Z ψ hp.get w B0 O)(hB:B0≤w.heap.size)(bh:∀i ty cs,hp.get i=some (.box ty cs)→aC (fun i=>¬N i) cs)
  (n:Next Z ψ (gx hp ft).get w w.heap.size (Own ψ (gx hp ft).get) N Z' ψ' h1.get w') (hc:sE ft h1=true) :
  ∃dL,Next Z ψ hp.get w B0 O N Z' dL (eO ft hp h1).get w'∧∀i,i∉ft→dL i=ψ' i:=by
 classical
 have gd:∀i,(gx hp ft).get i=if i∈ft then none else hp.get i:=fun i=>mY ft hp i
 have bu:∀b,Own ψ (gx hp ft).get b→Own ψ hp.get b:=fun b ⟨i,h1,h2⟩=>⟨i,by rw [gd] at h1;split at h1;exact absurd rfl h1;exact h1,h2⟩
 have pq:∀i,i∈ft→h1.get i=none:=fun i hi=>by
  cases e:h1.get i with
  | none=>rfl
  | some o=>exact absurd hi (jX hc i o e).1
 have gf:∀i,(eO ft hp h1).get i=if i∈ft then hp.get i else h1.get i:=fun i=>by
  rw [jV]
  by_cases hi:i∈ft
  ·rw [if_pos hi,if_pos hi,pq i hi];cases hp.get i<;>rfl
  ·rw [if_neg hi,if_neg hi]
 let dL:Nat→Value:=fun i=>if i∈ft then ψ i else ψ' i
 have p1:∀i,i∈ft→dL i=ψ i:=fun i hi=>if_pos hi
 have p2:∀i,i∉ft→dL i=ψ' i:=fun i hi=>if_neg hi
 have apart:∀i b,i∈ft→hp.get i≠none→ob (ψ i)=some b→¬Own ψ (gx hp ft).get b:=fun i b hi h2 h3 ⟨j,h4,h5⟩=>by
  rw [gd] at h4
  split at h4
  ·exact h4 rfl
  ·rename_i hj
   have:=g.apart i j b h2 h4 h3 h5
   subst this;exact hj hi
 have cH:∀i b,i∈ft→hp.get i≠none→ob (ψ i)=some b→w'.heap[b]? = w.heap[b]? := fun i b hi h2 h3 =>
  n.keep.block b (g.bL ⟨i,h2,h3⟩) (apart i b hi h2 h3)
 have keep:cT ψ hp.get w w':=⟨n.keep.os,n.keep.tape,n.keep.output,n.keep.size,fun b hb hn=>n.keep.block b hb fun ho=>hn (bu b ho)⟩
 have sm:ck Z w w':=keep.same g
 have ids:∀i,(eO ft hp h1).get i≠none→(hp.get i≠none∧dL i=ψ i)∨N i:=fun i hi=>by
  rw [gf] at hi
  by_cases hf:i∈ft
  ·rw [if_pos hf] at hi;exact .inl ⟨hi,p1 i hf⟩
  ·rw [if_neg hf] at hi
   rcases n.ids i hi with ⟨h2,h3⟩ | h2
   ·rw [gd,if_neg hf] at h2
    exact .inl ⟨h2,(p2 i hf).trans h3⟩
   ·exact .inr h2
 have nz:∀i b,i∈ft→hp.get i≠none→ob (ψ i)=some b→¬Z' b:=fun i b hi h2 h3 hz=>by
  rcases n.dU b hz with h4 | h4 | h4
  ·exact (g.live i b h2 h3).1 h4
  ·exact apart i b hi h2 h3 h4
  ·have:=g.bL ⟨i,h2,h3⟩;omega
 refine ⟨dL,⟨n.fm,fun b hb=>(n.dU b hb).imp (fun h=>h) (fun h=>h.imp (bu b) fun h=>h),keep,ids,⟨fun i ty cs hb => ?_,fun i ok x hb => ?_,fun i b h2 h3 => ?_,fun i j b h2 h3 h4 h5 => ?_,n.dO.jm⟩⟩,p2⟩
 ·rw [gf] at hb
  by_cases hf:i∈ft
  ·rw [if_pos hf] at hb
   obtain ⟨gg,vs,e1,e2,e3,e4⟩:=g.box i ty cs hb
   refine ⟨gg,vs,by rw [p1 i hf,e1],(cH i gg hf (by rw [hb];simp) (by rw [e1];rfl)).trans e2,e3.move n.fm sm (fun j hj bj=>(ids j bj).resolve_right hj) (bh i ty cs hb),e4⟩
  ·rw [if_neg hf] at hb
   obtain ⟨gg,vs,e1,e2,e3,e4⟩:=n.dO.box i ty cs hb
   refine ⟨gg,vs,by rw [p2 i hf,e1],e2,e3.move (fun _ h=>h) (ck.refl _ _) (fun j hj bj => ?_) ((jX hc i _ hb).2 ty cs rfl),e4⟩
   rw [gf,if_neg hj] at bj
   exact ⟨bj,p2 j hj⟩
 ·rw [gf] at hb
  by_cases hf:i∈ft
  ·rw [if_pos hf] at hb
   rw [p1 i hf]
   exact (g.row i ok x hb).kept n.fm sm (fun b jo=>cH i b hf (by rw [hb];simp) jo)
  ·rw [if_neg hf] at hb
   rw [p2 i hf]
   exact n.dO.row i ok x hb
 ·rw [gf] at h2
  by_cases hf:i∈ft
  ·rw [if_pos hf] at h2
   rw [p1 i hf] at h3
   exact ⟨nz i b hf h2 h3,(g.live i b h2 h3).2⟩
  ·rw [if_neg hf] at h2
   rw [p2 i hf] at h3
   obtain ⟨h4,h5⟩:=n.dO.live i b h2 h3
   refine ⟨h4,h5.elim (fun h=>.inl (Nat.le_trans hB h)) fun h => ?_⟩
   obtain ⟨j,h6,h7⟩:=bu b h
   exact (g.live j b h6 h7).2
 ·have mixed:∀i j b,i∈ft→j∉ft→(eO ft hp h1).get i≠none→(eO ft hp h1).get j≠none→ob (dL i)=some b→ob (dL j)=some b→False:=fun i j b hi hj h2 h3 h4 h5=>by
   rw [gf,if_pos hi] at h2
   rw [gf,if_neg hj] at h3
   rw [p1 i hi] at h4
   rw [p2 j hj] at h5
   rcases (n.dO.live j b h3 h5).2 with h6 | h6
   ·have:=g.bL ⟨i,h2,h4⟩;omega
   ·exact apart i b hi h2 h4 h6
  by_cases hi:i∈ft<;>by_cases hj:j∈ft
  ·rw [gf,if_pos hi] at h2
   rw [gf,if_pos hj] at h3
   rw [p1 i hi] at h4
   rw [p1 j hj] at h5
   exact g.apart i j b h2 h3 h4 h5
  ·exact (mixed i j b hi hj h2 h3 h4 h5).elim
  ·exact (mixed j i b hj hi h3 h2 h5 h4).elim
  ·rw [gf,if_neg hi] at h2
   rw [gf,if_neg hj] at h3
   rw [p2 i hi] at h4
   rw [p2 j hj] at h5
   exact n.dO.apart i j b h2 h3 h4 h5
theorem J.opF(E:Env P Eqs Sg F){rid n i:Nat}{p:Nat→Prop}{T:Nat→AV}{a:Act}{s:List (Nat×AV)}{o:Oper}(hS:makes o.op=true→∀id,p id→¬Of rid i id){hp h1:Heap}{v:AV}{ft:List Nat}(j:J p n Z0 w0 O ψ0 Z ψ T hp.get a w)(hd:gT n o=true)
  (hT:∀x∈o.op.operands,ax Z ψ hp.get w (ρ s x) (a.eval x)) (hTm:∀x∈o.op.operands,aK p (ρ s x)) (he:cJ P Eqs Sg F (opId rid i) (gx hp ft) s o some=some (.wr v h1)) (hc:mn ft (.wr v h1)=true)
  {p':Nat→Prop} (MH:∀k,p k→p' k) (hv:aK p' v) (Ux:rT p' (eO ft hp h1).get) {next:Act→World→Prop} {Q:Exit→Act→World→Prop}
  (hk:∀a' w' Z' ψ',J p' n Z0 w0 O ψ0 Z' ψ' (iC T o.dst v) (eO ft hp h1).get a' w'→next a' w'):o.wp P a w next Q:=by
 have Uy:∀id,p id→¬(makes o.op=true∧Of rid i id):=fun id h ⟨h1,h2⟩=>hS h1 id h h2
 simp only [mn,Bool.and_eq_true] at hc
 have bu:∀id o,(gx hp ft).get id=some o→hp.get id=some o:=fun id o h=>by rw [mY] at h;split at h;cases h;exact h
 have bj:∀id,(gx hp ft).get id≠none→hp.get id≠none:=fun id h=>by
  obtain ⟨o,ho⟩:=Option.ne_none_iff_exists'.1 h
  rw [bu id o ho];simp
 have bh:∀i' ty cs,hp.get i'=some (.box ty cs)→aC (fun id=>¬(makes o.op=true∧Of rid i id)) cs:=fun id ty cs hb=>(j.hm id ty cs hb).imp Uy
 have gs:Good Z ψ (gx hp ft).get w w.heap.size (Own ψ (gx hp ft).get):=(j.ok.dO.sub bu).DV _
 refine Ti (N:=fun id=>makes o.op=true∧Of rid i id) E gs (Nat.le_refl _) (fun _ _ h=>h) (id:=opId rid i) (fun hm k hk=>⟨hm,JS hk⟩) (fun x hx=>(hT x hx).o6 bu) (fun x hx=>(hTm x hx).imp Uy) (fun id ty cs hb=>bh id ty cs (bu _ _ hb)) (fun _ _ _=>rfl) he fun V w' Z' ψ' nx hr => ?_
 obtain ⟨dL,n2,h2⟩:=Next.frame j.ok.dO j.ok.size bh nx hc.2
 have UA:ax Z' dL (eO ft hp h1).get w' v V:=hr.move (p:=fun i=>i∉ft) (fun _ h=>h) (ck.refl _ _) (fun k hk bj=>by
  rw [jV,if_neg hk] at bj
  exact ⟨bj,h2 k hk⟩) (w6 hc.1)
 refine hk _ w' Z' dL ⟨j.ok.next (fun id h=>by have:=h.2;unfold Of at this;omega) n2,(j.tr.next j.ok.dO n2 (fun d=>(j.tm d).imp Uy)).put hd UA,fun d => ?_,Ux⟩
 cases ki:o.dst with
 | none=>exact (j.tm d).imp MH
 | some d0 =>
  simp only [iC,dJ]
  split
  ·exact hv
  ·exact (j.tm d).imp MH
end Go.Vs
namespace Go.Vs
variable {P:Program} {Eqs:TypeId→Option K} {Sg:FuncId→Option aL} {F:(f:FuncId)→(g:aL)→g.A→Option g.B} {R:Type}
variable {Z Z' Z0:Nat→Prop} {ψ ψ':Nat→Value} {h h':Hp} {w w' w0:World} {B0:Nat} {O N:Nat→Prop}
variable {rid n:Nat} {ops:Array Oper} {b:Array Nat}
def qU(b:Array Nat)(i j:Nat):Prop:=(b.getD i 0).testBit j=true
theorem CH(b:Array Nat)(j:Nat):∀(l:List Edge) (s:Nat),(l.foldl (fun s e=>if Region.binds .any e then s ||| 2 ^ e.on ||| b.getD e.on 0 else s) s).testBit j=true ↔
  s.testBit j=true∨∃e∈l,Region.binds .any e=true∧(j=e.on∨qU b e.on j)
 | [],s=>by simp
 | e::l,s=>by
  rw [List.foldl_cons,CH b j l]
  by_cases hb:Region.binds .any e=true
  ·rw [if_pos hb]
   have h2:(2 ^ e.on).testBit j=true↔j=e.on:=by rw [Nat.testBit_two_pow];simp [eq_comm]
   simp only [Nat.testBit_or,Bool.or_eq_true,h2,List.mem_cons,exists_eq_or_imp,hb,true_and,qU]
   constructor
   ·rintro (((h | h) | h) | h)
    ·exact .inl h
    ·exact .inr (.inl (.inl h))
    ·exact .inr (.inl (.inr h))
    ·exact .inr (.inr h)
   ·rintro (h | (h | h) | h)
    ·exact .inl (.inl (.inl h))
    ·exact .inl (.inl (.inr h))
    ·exact .inl (.inr h)
    ·exact .inr h
  ·rw [if_neg hb]
   simp [hb]
theorem yf(hb:tC ops b=true){i j:Nat}{o:Oper}(ho:ops[i]? = some o):qU b i j↔∃e∈o.after.toList,Region.binds .any e=true∧(j=e.on∨qU b e.on j):=by
 have aJ:=(Array.getElem?_eq_some_iff.1 ho).1
 have h1:=List.all_eq_true.1 hb i (List.mem_range.2 aJ)
 rw [ho] at h1
 simp only [Bool.and_eq_true,beq_iff_eq] at h1
 unfold qU
 rw [h1.2,CH]
 simp [qU]
theorem IE(hb:tC ops b=true){i:Nat}{o:Oper}(ho:ops[i]? = some o){e:Edge}(he:e∈o.after.toList)(Lg:Region.binds .any e=true):e.on<i:=by
 have aJ:=(Array.getElem?_eq_some_iff.1 ho).1
 have h1:=List.all_eq_true.1 hb i (List.mem_range.2 aJ)
 rw [ho] at h1
 simp only [Bool.and_eq_true] at h1
 have:=List.all_eq_true.1 h1.1 e he
 simpa [Lg] using this
theorem zQ(hb:tC ops b=true):∀(i j:Nat),i<ops.size→qU b i j→j<i:=by
 intro i
 induction i using Nat.strongRecOn with
 | ind i ih =>
  intro j hi h
  obtain ⟨e,he,Lg,h1⟩:=(yf hb (Array.getElem?_eq_getElem hi)).1 h
  have UB:=IE hb (Array.getElem?_eq_getElem hi) he Lg
  rcases h1 with rfl | h1
  ·exact UB
  ·exact Nat.lt_trans (ih e.on UB j (by omega) h1) UB
theorem CI(hb:tC ops b=true):∀(i j k:Nat),i<ops.size→qU b i j→qU b j k→qU b i k:=by
 intro i
 induction i using Nat.strongRecOn with
 | ind i ih =>
  intro j k hi h h'
  obtain ⟨e,he,Lg,h1⟩:=(yf hb (Array.getElem?_eq_getElem hi)).1 h
  have UB:=IE hb (Array.getElem?_eq_getElem hi) he Lg
  refine (yf hb (Array.getElem?_eq_getElem hi)).2 ⟨e,he,Lg,?_⟩
  rcases h1 with rfl | h1
  ·exact .inr h'
  ·exact .inr (ih e.on UB j k (by omega) h1 h')
theorem get_filter(f:Nat→Bool):∀(hh:Heap) (i:Nat),Heap.get (hh.filter fun p=>f p.1) i=if f i then hh.get i else none
 | [],i=>by simp [Heap.get]
 | (j,o)::r,i=>by
  rw [List.filter_cons]
  split
  ·rename_i hj
   simp only [Heap.get]
   by_cases e:j=i
   ·subst e;simp only at hj;simp [hj]
   ·simp only [if_neg e];exact get_filter f r i
  ·rename_i hj
   rw [get_filter f r i]
   simp only [Heap.get]
   by_cases e:j=i
   ·subst e;simp only at hj;simp [hj]
   ·simp only [if_neg e]
theorem Lv(rid HX:Nat)(hh:Heap)(id:Nat):(ahead rid HX hh).get id=if pK rid HX id then hh.get id else none:=by
 unfold ahead
 exact get_filter (fun i=>pK rid HX i) hh id
theorem NF(ft:List Nat)(hp:Heap)(e:bE):(gk ft hp e).v=e.v:=by cases e<;>rfl
theorem FJ{id:Nat}{hh:Heap}{s:List (Nat×AV)}{o:Oper}{x:Operand}{e:bE}(hl:iJ o.op=some x)(he:cJ P Eqs Sg F id hh s o some=some e):∃v,e=.val v:=by
 obtain ⟨dst,op,type,pos,after,guard⟩:=o
 cases op<;>simp only [iJ] at hl<;>first | (cases hl;done) | skip
 case load t a =>
  simp only [cJ,kV] at he
  repeat' (first | (cases he;done) | exact ⟨_,(Option.some.inj he).symm⟩ | split at he)
  all_goals
   obtain ⟨y,_,he⟩:=Option.bind_eq_some_iff.1 he
   split at he<;>first | (cases he;done) | exact ⟨_,(Option.some.inj he).symm⟩
 case indexAddr t a i =>
  simp only [cJ,dg] at he
  repeat' (first | (cases he;done) | exact ⟨_,(Option.some.inj he).symm⟩ | split at he)
  all_goals first
   | (obtain ⟨y,_,he⟩:=Option.bind_eq_some_iff.1 he;exact ⟨_,(Option.some.inj he).symm⟩)
   | (unfold cond at he;split at he<;>first | (cases he;done) | exact ⟨_,(Option.some.inj he).symm⟩)
theorem CJ{op:Op}{x:Operand}(hl:iJ op=some x):ml op=false∧DF op=false:=by
 cases op<;>simp only [iJ] at hl<;>first | (cases hl;done) | exact ⟨rfl,rfl⟩
theorem IF{id:Nat}{hh h2:Heap}{s:List (Nat×AV)}{o:Oper}{x:Operand}(hl:iJ o.op=some x)(hg:∀i∈tE (ρ s x),h2.get i=hh.get i):cJ P Eqs Sg F id h2 s o some=cJ P Eqs Sg F id hh s o some:=by
 obtain ⟨dst,op,type,pos,after,guard⟩:=o
 cases op<;>simp only [iJ] at hl<;>first | (cases hl;done) | skip
 case load t a =>
  cases hl
  simp only [cJ,kV]
  cases hv:ρ s x with
  | ref i s' j off=>rw [hv] at hg;simp only [tE,List.mem_singleton,forall_eq] at hg;simp only [hg]
  | _=>rfl
 case indexAddr t a i =>
  cases hl
  simp only [cJ,dg]
  cases wE P t with
  | none=>rfl
  | some e =>
   simp only []
   cases hv:ρ s x with
   | bF k =>
    rw [hv] at hg
    have uY:=hg k (by simp [tE])
    cases ρ s i<;>first | rfl | simp only [uY]
   | sl ex k xs=>cases ρ s i<;>rfl
   | _=>rfl
def oX(ops:Array Oper)(T:Nat→AV)(o:Oper)(t:Bool):Prop :=
 match o.guard with
 | none=>t=true
 | some (j,want)=>∃d,(ops[j]?).bind (·.dst)=some d∧((∃u,T d=.bool u∧(u==want)=t)∨(∃vs,T d=.mL vs∧t=false))
def zR(P:Program)(Eqs:TypeId→Option K)(Sg:FuncId→Option aL)(F:(f:FuncId)→(g:aL)→g.A→Option g.B)(rid:Nat)(ops:Array Oper)(b:Array Nat)(T:Nat→Nat→AV)(H:Nat→Hp)(E:Nat→Option bE)(k:Nat)(o:Oper):Prop :=
 (∃e s hh,E k=some e∧look s=T k∧(∀id,Heap.get hh id=if pK rid (b.getD k 0) id then H k id else none)∧(∃e0,cJ P Eqs Sg F (opId rid k) (gx hh (gy ops b k s o)) s o some=some e0∧e=gk (gy ops b k s o) hh e0∧mn (gy ops b k s o) e0=true) ∧
  gh true rid ops b k (b.getD k 0) e=true∧oX ops (T k) o true∧T (k+1)=iC (T k) o.dst e.v∧H (k+1)=e.hp (H k)) ∨
 (E k=none∧oX ops (T k) o false∧T (k+1)=iC (T k) o.dst (.mL [])∧H (k+1)=H k)
theorem trace{kk:St→Option R}{r:R}:∀(l:List (Nat×Oper)) (i:Nat) (st:St),zN ops i l→l.length=ops.size - i→bA P Eqs Sg F rid true ops b l st kk=some r →
  ∃(T:Nat→Nat→AV) (H:Nat→Hp) (E:Nat→Option bE),T i=look st.tmps∧H i=st.heap.get∧(∀k o,i≤k→ops[k]? = some o→zR P Eqs Sg F rid ops b T H E k o) ∧
   ∃dS,kk dS=some r∧look dS.tmps=T (max i ops.size)∧dS.heap.get=H (max i ops.size)
 | [],i,st,_,hlen,hx=>by
  have QX:ops.size≤i:=by simp at hlen;omega
  refine ⟨fun _=>look st.tmps,fun _=>st.heap.get,fun _=>none,rfl,rfl,fun k o hk ho => ?_,st,hx,rfl,rfl⟩
  have:=(Array.getElem?_eq_some_iff.1 ho).1
  omega
 | (i',o)::l,i,st,hl,hlen,hx=>by
  obtain ⟨rfl,ho,hl⟩:=hl
  have aJ:=(Array.getElem?_eq_some_iff.1 ho).1
  have ih:=trace (kk:=kk) (r:=r) l (i'+1)
  have Xs:l.length=ops.size - (i'+1):=by simp at hlen;omega
  have glue:∀(dS:St) (oe:Option bE),bA P Eqs Sg F rid true ops b l dS kk=some r →
    (∀T H E,T i'=look st.tmps→H i'=st.heap.get→E i'=oe→T (i'+1)=look dS.tmps→H (i'+1)=dS.heap.get→zR P Eqs Sg F rid ops b T H E i' o) →
    ∃(T:Nat→Nat→AV) (H:Nat→Hp) (E:Nat→Option bE),T i'=look st.tmps∧H i'=st.heap.get∧(∀k o,i'≤k→ops[k]? = some o→zR P Eqs Sg F rid ops b T H E k o) ∧
     ∃dS,kk dS=some r∧look dS.tmps=T (max i' ops.size)∧dS.heap.get=H (max i' ops.size):=by
   intro dS oe WR tK
   obtain ⟨T,H,E,h1,h2,h3,ab2,h4,h5,h6⟩:=ih dS hl Xs WR
   refine ⟨fun k=>if k≤i' then look st.tmps else T k,fun k=>if k≤i' then st.heap.get else H k,fun k=>if k=i' then oe else E k,by simp,by simp,fun k o' hk my => ?_,ab2,h4,?_,?_⟩
   ·by_cases hki:k=i'
    ·subst hki
     rw [ho] at my
     cases my
     exact tK _ _ _ (by simp) (by simp) (by simp) (by show (if k+1≤k then _ else _)=_;rw [if_neg (by omega)];exact h1) (by show (if k+1≤k then _ else _)=_;rw [if_neg (by omega)];exact h2)
    ·have h7:=h3 k o' (by omega) my
     unfold zR at h7 ⊢
     simp only [show ¬k≤i' by omega,show ¬k+1≤i' by omega,hki,if_false]
     exact h7
   ·rw [h5];simp only [show max (i'+1) ops.size=ops.size by omega,show max i' ops.size=ops.size by omega,show ¬ops.size≤i' by omega,if_false]
   ·rw [h6];simp only [show max (i'+1) ops.size=ops.size by omega,show max i' ops.size=ops.size by omega,show ¬ops.size≤i' by omega,if_false]
  have runs:∀g8:St,look g8.tmps=look st.tmps→g8.heap=st.heap→oX ops (look st.tmps) o true →
    (cJ P Eqs Sg F (opId rid i') (gx (ahead rid (b.getD i' 0) g8.heap) (gy ops b i' g8.tmps o)) g8.tmps o fun e=>if (gh true rid ops b i' (b.getD i' 0) (gk (gy ops b i' g8.tmps o) (ahead rid (b.getD i' 0) g8.heap) e)&&mn (gy ops b i' g8.tmps o) e)=true then bA P Eqs Sg F rid true ops b l ({ g8 with heap:=match gk (gy ops b i' g8.tmps o) (ahead rid (b.getD i' 0) g8.heap) e with | .wr _ h=>h | e=>e.h g8.heap }.put o.dst e.v) kk else none)=some r →
    ∃(T:Nat→Nat→AV) (H:Nat→Hp) (E:Nat→Option bE),T i'=look st.tmps∧H i'=st.heap.get∧(∀k o,i'≤k→ops[k]? = some o→zR P Eqs Sg F rid ops b T H E k o) ∧
     ∃dS,kk dS=some r∧look dS.tmps=T (max i' ops.size)∧dS.heap.get=H (max i' ops.size):=by
   intro g8 h1 h2 hw hx
   rw [kK] at hx
   obtain ⟨e,he,hx⟩:=Option.bind_eq_some_iff.1 hx
   split at hx
   ·rename_i lI
    rw [Bool.and_eq_true] at lI
    generalize yg:gk (gy ops b i' g8.tmps o) (ahead rid (b.getD i' 0) g8.heap) e=e1 at hx lI
    have tP:e.v=e1.v:=by rw [←yg];exact (NF _ _ _).symm
    refine glue _ (some e1) hx fun T H E hT hH hE hT' Ur => ?_
    refine .inl ⟨e1,g8.tmps,_,hE,by rw [hT,h1],fun id=>by rw [Lv,hH,h2],⟨e,he,yg.symm,lI.2⟩,lI.1,by rw [hT];exact hw,?_,?_⟩
    ·rw [hT',gI,hT,tP];simp only [h1]
    ·rw [Ur,cY,hH]
     have:(bE.heap e1 g8.heap).get=e1.hp st.heap.get:=by rw [bE.FG,h2]
     exact this
   ·cases hx
  have zP:∀g8:St,look g8.tmps=look st.tmps→g8.heap=st.heap→oX ops (look st.tmps) o false →
    bA P Eqs Sg F rid true ops b l (g8.put o.dst (.mL [])) kk=some r →
    ∃(T:Nat→Nat→AV) (H:Nat→Hp) (E:Nat→Option bE),T i'=look st.tmps∧H i'=st.heap.get∧(∀k o,i'≤k→ops[k]? = some o→zR P Eqs Sg F rid ops b T H E k o) ∧
     ∃dS,kk dS=some r∧look dS.tmps=T (max i' ops.size)∧dS.heap.get=H (max i' ops.size):=by
   intro g8 h1 h2 hw hx
   refine glue _ none hx fun T H E hT hH hE hT' Ur=>.inr ⟨hE,by rw [hT];exact hw,?_,?_⟩
   ·rw [hT',gI,hT,h1]
   ·rw [Ur,cY,hH,h2]
  rw [bA] at hx
  simp only [if_true] at hx
  split at hx
  ·rename_i hg
   exact runs st rfl rfl (by simp [oX,hg]) hx
  ·rename_i jj want hg
   split at hx
   ·cases hx
   ·rename_i d hd
    split at hx
    ·rename_i t ht
     have hp:∀b,t=b→look (st.put (some d) (.bool b)).tmps=look st.tmps:=fun b hb=>by
      subst hb;rw [gI];exact CE ht
     have hw:∀c,(t==want)=c→oX ops (look st.tmps) o c:=fun c hc=>by
      unfold oX;rw [hg];exact ⟨d,hd,.inl ⟨t,ht,hc⟩⟩
     cases t<;>simp only [cond_true,cond_false] at hx<;>split at hx<;>rename_i pZ
     ·exact zP _ (hp false rfl) (cY _ _ _) (hw _ (by simp [pZ])) hx
     ·exact runs _ (hp false rfl) (cY _ _ _) (hw _ (by simp [pZ])) hx
     ·exact runs _ (hp true rfl) (cY _ _ _) (hw _ (by simp [pZ])) hx
     ·exact zP _ (hp true rfl) (cY _ _ _) (hw _ (by simp [pZ])) hx
    ·rename_i vs ht
     exact zP st rfl rfl (by unfold oX;rw [hg];exact ⟨d,hd,.inr ⟨vs,ht,rfl⟩⟩) hx
    ·cases hx
def Nf(ops:Array Oper)(j:Nat):Prop:=∃o,ops[j]? = some o∧ml o.op=false∧iJ o.op=none
def yh(E:Nat→Option bE)(k:Nat):Prop:=∃v h',E k=some (.wr v h')
def Wh(E:Nat→Option bE)(k:Nat):Prop:=∃v os,E k=some (.new v os)
theorem tZ{α:Type}(f:α→Option Nat):∀(l:List α),b4 (l.filterMap f)=true→∀(i j:Nat) (x y:α) (d:Nat),l[i]? = some x→l[j]? = some y→f x=some d→f y=some d→i=j
 | [],_,i,j,x,y,d,hi,_,_,_=>by simp at hi
 | a::r,hn,i,j,x,y,d,hi,hj,hx,hy=>by
  have gm:∀(k:Nat) (z:α),r[k]? = some z→f z=some d→d∈r.filterMap f:=fun k z hk hz=>List.mem_filterMap.2 ⟨z,List.mem_of_getElem? hk,hz⟩
  have hr:b4 (r.filterMap f)=true∧∀c,f a=some c→c∉r.filterMap f:=by
   rw [List.filterMap_cons] at hn
   split at hn
   ·rename_i h0;exact ⟨hn,fun c hc=>by rw [h0] at hc;cases hc⟩
   ·rename_i c h0
    simp only [b4,Bool.and_eq_true,Bool.not_eq_true'] at hn
    refine ⟨hn.2,fun c' hc => ?_⟩
    rw [h0] at hc;cases hc
    intro hm
    rw [List.contains_iff_mem.2 hm] at hn;simp at hn
  cases i with
  | zero =>
   cases j with
   | zero=>rfl
   | succ j =>
    simp only [List.getElem?_cons_zero,Option.some.injEq] at hi;subst hi
    exact absurd (gm j y (by simpa using hj) hy) (hr.2 d hx)
  | succ i =>
   cases j with
   | zero =>
    simp only [List.getElem?_cons_zero,Option.some.injEq] at hj;subst hj
    exact absurd (gm i x (by simpa using hi) hx) (hr.2 d hy)
   | succ j=>rw [tZ f r hr.1 i j x y d (by simpa using hi) (by simpa using hj) hx hy]
structure Dr(P:Program)(Eqs:TypeId→Option K)(Sg:FuncId→Option aL)(F:(f:FuncId)→(g:aL)→g.A→Option g.B)(rid n:Nat)(ops:Array Oper)(b:Array Nat)(T:Nat→Nat→AV)(H:Nat→Hp)(E:Nat→Option bE):Prop where
 size:ops.size≤128
 MI:tC ops b=true
 pair:yT ops b=true
 ab4:∀(i:Nat) (o:Oper),ops[i]? = some o→gT n o=true
 nodup:b4 (ops.toList.filterMap (·.dst))=true
 step:∀k o,ops[k]? = some o→zR P Eqs Sg F rid ops b T H E k o
 ab5:∀id,H 0 id≠none→id / 32768≠rid+1
section
variable {T:Nat→Nat→AV} {H:Nat→Hp} {E:Nat→Option bE}
theorem Dr.yi(D:Dr P Eqs Sg F rid n ops b T H E){i j:Nat}{x y:Oper}{d:Nat}(hi:ops[i]? = some x)(hj:ops[j]? = some y)(hx:x.dst=some d)(hy:y.dst=some d):i=j :=
 tZ (·.dst) ops.toList D.nodup i j x y d (by simpa using hi) (by simpa using hj) hx hy
theorem Dr.Tk(D:Dr P Eqs Sg F rid n ops b T H E){i j:Nat}{x y:Oper}(hi:ops[i]? = some x)(hj:ops[j]? = some y)(xW:i<j):qU b j i∨x.apart ops y=true:=by
 have h1:=List.all_eq_true.1 D.pair j (List.mem_range.2 (Array.getElem?_eq_some_iff.1 hj).1)
 have h2:=List.all_eq_true.1 h1 i (List.mem_range.2 xW)
 rw [hi,hj] at h2
 simp only [Bool.or_eq_true,Bool.and_eq_true] at h2
 exact h2
theorem Dr.RG(D:Dr P Eqs Sg F rid n ops b T H E){k:Nat}{o:Oper}(ho:ops[k]? = some o){e:bE}(he:E k=some e) :
  ∃s hh,look s=T k∧(∀id,Heap.get hh id=if pK rid (b.getD k 0) id then H k id else none)∧(∃e0,cJ P Eqs Sg F (opId rid k) (gx hh (gy ops b k s o)) s o some=some e0∧e=gk (gy ops b k s o) hh e0∧mn (gy ops b k s o) e0=true) ∧
   gh true rid ops b k (b.getD k 0) e=true∧oX ops (T k) o true∧T (k+1)=iC (T k) o.dst e.v∧H (k+1)=e.hp (H k):=by
 rcases D.step k o ho with ⟨e',s,hh,h1,h2⟩ | ⟨h1,_⟩
 ·rw [he] at h1;cases h1;exact ⟨s,hh,h2⟩
 ·rw [he] at h1;cases h1
theorem Dr.D1(D:Dr P Eqs Sg F rid n ops b T H E){k:Nat}{o:Oper}(ho:ops[k]? = some o)(he:E k=none) :
  oX ops (T k) o false∧T (k+1)=iC (T k) o.dst (.mL [])∧H (k+1)=H k:=by
 rcases D.step k o ho with ⟨e',s,hh,h1,h2⟩ | ⟨h1,h2⟩
 ·rw [he] at h1;cases h1
 ·exact h2
theorem Dr.vA(D:Dr P Eqs Sg F rid n ops b T H E){k:Nat}(hk:k<ops.size)(h:Wh E k):Nf ops k:=by
 obtain ⟨v,os,he⟩:=h
 obtain ⟨s,hh,_,_,⟨e0,h3,Tb,_⟩,_⟩:=D.RG (Array.getElem?_eq_getElem hk) he
 refine ⟨_,Array.getElem?_eq_getElem hk,?_,?_⟩
 ·cases hf:ml (ops[k]).op with
  | false=>rfl
  | true=>obtain ⟨v',rfl⟩:=FC hf h3;cases Tb
 ·cases hf:iJ (ops[k]).op with
  | none=>rfl
  | some x=>obtain ⟨v',rfl⟩:=FJ hf h3;cases Tb
theorem Dr.NG(D:Dr P Eqs Sg F rid n ops b T H E){k:Nat}(hk:k<ops.size)(h:yh E k):Nf ops k:=by
 obtain ⟨v,os,he⟩:=h
 obtain ⟨s,hh,_,_,⟨e0,h3,Tb,_⟩,_⟩:=D.RG (Array.getElem?_eq_getElem hk) he
 refine ⟨_,Array.getElem?_eq_getElem hk,?_,?_⟩
 ·cases hf:ml (ops[k]).op with
  | false=>rfl
  | true=>obtain ⟨v',rfl⟩:=FC hf h3;cases Tb
 ·cases hf:iJ (ops[k]).op with
  | none=>rfl
  | some x=>obtain ⟨v',rfl⟩:=FJ hf h3;cases Tb
theorem Dr.zT(D:Dr P Eqs Sg F rid n ops b T H E){k j:Nat}(hk:k<ops.size)(h:yh E k)(hj:Nf ops j)(bj:j≠k):(j<k∧qU b k j)∨(k<j∧qU b j k):=by
 obtain ⟨v,os,he⟩:=h
 obtain ⟨s,hh,_,_,_,h4,_⟩:=D.RG (Array.getElem?_eq_getElem hk) he
 obtain ⟨o,ho,hf,QU⟩:=hj
 have HM:=(Array.getElem?_eq_some_iff.1 ho).1
 simp only [gh,Bool.and_eq_true] at h4
 have h5:HW ops b k=true:=by simpa using h4.1.1
 have h6:=List.all_eq_true.1 h5 j (List.mem_range.2 HM)
 have hlf:tD ops k j=false:=by unfold tD;rw [ho];simp only [Option.bind_some,QU]
 rw [hlf,Bool.and_false,ho] at h6
 simp only [Bool.or_eq_true,beq_iff_eq,hf,Bool.false_eq_true,or_false] at h6
 rcases h6 with (h6 | h6) | h6
 ·exact absurd h6 bj
 ·exact .inr ⟨zQ D.MI j k HM h6,h6⟩
 ·exact .inl ⟨zQ D.MI k j hk h6,h6⟩
theorem Dr.zU(D:Dr P Eqs Sg F rid n ops b T H E){p:Nat}:∀(q:Nat),p≤q→q≤ops.size→∀id,(∀k,p≤k→k<q→yh E k→H (k+1) id=H k id)→(∀k,p≤k→k<q→Wh E k→¬Of rid k id)→H q id=H p id:=by
 intro q
 induction q with
 | zero=>intro zp _ id _ _;rw [Nat.le_zero.1 zp]
 | succ q ih =>
  intro zp hq id hw bO
  by_cases he:p=q+1
  ·rw [he]
  ·have h1:=ih (by omega) (by omega) id (fun k h1 h2=>hw k h1 (by omega)) (fun k h1 h2=>bO k h1 (by omega))
   rw [←h1]
   have ho:=Array.getElem?_eq_getElem (show q<ops.size by omega)
   cases hE:E q with
   | none=>rw [(D.D1 ho hE).2.2]
   | some e =>
    obtain ⟨s,hh,_,_,_,h4,_,_,h7⟩:=D.RG ho hE
    cases e with
    | val v=>rw [h7];rfl
    | wr v h'=>exact hw q (by omega) (by omega) ⟨v,h',hE⟩
    | new v os =>
     rw [h7]
     simp only [bE.hp]
     cases MF:Heap.get os id with
     | none=>rfl
     | some o' =>
      exfalso
      simp only [gh,Bool.and_eq_true] at h4
      refine bO q (by omega) (by omega) ⟨v,os,hE⟩ ?_
      have:∀(l:Heap),(l.all fun p=>p.1 / 256==(rid+1) * 128+q)=true→∀o',l.get id=some o'→Of rid q id:=by
       intro l
       induction l with
       | nil=>intro _ o' h;simp [Heap.get] at h
       | cons a r ihl =>
        intro eg o' hg
        simp only [List.all_cons,Bool.and_eq_true,beq_iff_eq] at eg
        simp only [Heap.get] at hg
        split at hg
        ·rename_i e;rw [←e];exact eg.1
        ·exact ihl eg.2 o' hg
      exact this os h4.1.2 o' MF
theorem Dr.yj(D:Dr P Eqs Sg F rid n ops b T H E){p:Nat}(q:Nat)(zp:p≤q)(hq:q≤ops.size)(hw:∀k,p≤k→k<q→¬yh E k)(id:Nat)(hn:∀k,p≤k→k<q→Wh E k→¬Of rid k id):H q id=H p id :=
 D.zU q zp hq id (fun k h1 h2 h3=>absurd h3 (hw k h1 h2)) hn
theorem Dr.names(D:Dr P Eqs Sg F rid n ops b T H E):∀(k:Nat),k≤ops.size→∀id,H k id≠none→id / 32768=rid+1→∃j,Of rid j id∧j<k∧j<128∧(Wh E j∨∃w,w<k∧yh E w∧(j=w∨qU b w j)):=by
 intro k
 induction k with
 | zero=>intro _ id h1 h2;exact absurd h2 (D.ab5 id h1)
 | succ k ih =>
  intro hk id h1 h2
  have aJ:k<ops.size:=by omega
  have up:H k id≠none→∃j,Of rid j id∧j<k+1∧j<128∧(Wh E j∨∃w,w<k+1∧yh E w∧(j=w∨qU b w j)):=fun h=>by
   obtain ⟨j,h3,h4,h4',h5⟩:=ih (by omega) id h h2
   exact ⟨j,h3,by omega,h4',h5.imp (fun h=>h) fun ⟨w,h6,h7⟩=>⟨w,by omega,h7⟩⟩
  have ho:=Array.getElem?_eq_getElem aJ
  have NH:=D.size
  cases hE:E k with
  | none=>rw [(D.D1 ho hE).2.2] at h1;exact up h1
  | some e =>
   obtain ⟨s,hh,_,_,_,h4,_,_,h7⟩:=D.RG ho hE
   rw [h7] at h1
   cases e with
   | val v=>exact up h1
   | wr v h' =>
    obtain ⟨o',my⟩:=Option.ne_none_iff_exists'.1 h1
    simp only [gh,Bool.and_eq_true] at h4
    have h5:(b.getD k 0 ||| 2 ^ k).testBit (id / 256 % 128)=true:=(ln (S:=fun j=>(b.getD k 0 ||| 2 ^ k).testBit j=true) (fun j hj=>hj) h4.2 id o' my).1 h2
    rw [Nat.testBit_or,Bool.or_eq_true,Nat.testBit_two_pow] at h5
    refine ⟨id / 256 % 128,Of.of h2 rfl,?_,by omega,.inr ⟨k,by omega,⟨v,h',hE⟩,?_⟩⟩
    ·rcases h5 with h5 | h5
     ·have:=zQ D.MI k _ aJ h5;omega
     ·have:=of_decide_eq_true h5;omega
    ·rcases h5 with h5 | h5
     ·exact .inr h5
     ·exact .inl (of_decide_eq_true h5).symm
   | new v os =>
    simp only [bE.hp] at h1
    cases MF:Heap.get os id with
    | none=>rw [MF] at h1;exact up h1
    | some o' =>
     simp only [gh,Bool.and_eq_true] at h4
     have:∀(l:Heap),(l.all fun p=>p.1 / 256==(rid+1) * 128+k)=true→∀o',l.get id=some o'→Of rid k id:=by
      intro l
      induction l with
      | nil=>intro _ o' h;simp [Heap.get] at h
      | cons a r ihl =>
       intro eg o' hg
       simp only [List.all_cons,Bool.and_eq_true,beq_iff_eq] at eg
       simp only [Heap.get] at hg
       split at hg
       ·rename_i e;rw [←e];exact eg.1
       ·exact ihl eg.2 o' hg
     exact ⟨k,this os h4.1.2 o' MF,by omega,by omega,.inl ⟨v,os,hE⟩⟩
theorem Dr.UC(D:Dr P Eqs Sg F rid n ops b T H E){q:Nat}(mC:q<ops.size)(RH:yh E q):∀id,H q id≠none→lK rid (qU b q) id:=fun id bj NI=>by
 obtain ⟨j,h1,h2,h2',h3⟩:=D.names q (by omega) id bj NI
 rw [(h1.parts h2').2]
 rcases h3 with h3 | ⟨w',h5,h6,h8⟩
 ·rcases D.zT mC RH (D.vA (by omega) h3) (by omega) with ⟨_,h9⟩ | ⟨h9,_⟩
  ·exact h9
  ·omega
 ·have Xt:qU b q w':=by
   rcases D.zT mC RH (D.NG (by omega) h6) (by omega) with ⟨_,h9⟩ | ⟨h9,_⟩
   ·exact h9
   ·omega
  rcases h8 with rfl | h8
  ·exact Xt
  ·exact CI D.MI q w' j mC Xt h8
theorem Dr.vB(D:Dr P Eqs Sg F rid n ops b T H E){d p:Nat}:∀(q:Nat),p≤q→q≤ops.size→(∀m o,p≤m→m<q→ops[m]? = some o→o.dst≠some d)→T q d=T p d
 | 0,h,_,_=>by rw [Nat.le_zero.1 h]
 | q+1,h,hq,hm=>by
  by_cases e:p=q+1
  ·rw [e]
  ·have ho:=Array.getElem?_eq_getElem (show q<ops.size by omega)
   have ih:=D.vB q (by omega) (by omega) fun m o h1 h2=>hm m o h1 (by omega)
   rw [←ih]
   have hd:=hm q _ (by omega) (by omega) ho
   have key:∀v,iC (T q) (ops[q]).dst v d=T q d:=fun v=>by
    cases ki:(ops[q]).dst with
    | none=>rfl
    | some d' =>
     simp only [iC,dJ]
     rw [if_neg]
     rintro rfl
     exact hd ki
   rcases D.step q _ ho with ⟨e,s,hh,_,_,_,_,_,_,h7,_⟩ | ⟨_,_,h3,_⟩
   ·rw [h7,key]
   ·rw [h3,key]
theorem Dr.steady(D:Dr P Eqs Sg F rid n ops b T H E){i k:Nat}{o:Oper}{x:Operand}(ho:ops[i]? = some o)(hl:iJ o.op=some x)(hk:k<ops.size)(hw:yh E k)(bj:i≠k)(h1:¬qU b i k)(h2:¬qU b k i)
  {s:List (Nat×AV)} (hs:look s=T i) {id:Nat} (bO:id∈tE (ρ s x)):H (k+1) id=H k id:=by
 have mC:=(Array.getElem?_eq_some_iff.1 ho).1
 obtain ⟨v,h',hE⟩:=hw
 have lI:=Array.getElem?_eq_getElem hk
 obtain ⟨sk,hh,NJ,RI,⟨e0,Tb,yg,sG⟩,h4,_,_,h7⟩:=D.RG lI hE
 simp only [gh,Bool.and_eq_true] at h4
 have h5:HW ops b k=true:=by simpa using h4.1.1
 have h6:=List.all_eq_true.1 h5 i (List.mem_range.2 mC)
 rw [ho,lI] at h6
 have b1:(b.getD i 0).testBit k=false:=Bool.eq_false_iff.2 h1
 have b2:(b.getD k 0).testBit i=false:=Bool.eq_false_iff.2 h2
 have b3:(i==k)=false:=by simp [bj]
 simp only [b1,b2,b3,(CJ hl).1,Bool.false_or,Bool.and_eq_true] at h6
 obtain ⟨CL,JU⟩:=h6
 have Xu:gy ops b k sk ops[k]=Ua ops b k sk:=by unfold gy;rw [if_pos CL]
 have mM:ρ sk x=ρ s x:=by
  cases x with
  | tmp d =>
   simp only [ρ,NJ,hs]
   unfold tD at JU
   rw [ho] at JU
   simp only [Option.bind_some,hl] at JU
   have hm:∀m o',min k i≤m→m<max k i→ops[m]? = some o'→o'.dst≠some d:=fun m o' g1 g2 g3 hd=>by
    have g4:=List.all_eq_true.1 JU m (List.mem_range.2 (by omega))
    rw [g3] at g4
    simp [hd,g1,g2] at g4
   rcases Nat.lt_or_ge i k with g | g
   ·exact D.vB k (by omega) (by omega) fun m o' g1 g2=>hm m o' (by omega) (by omega)
   ·exact (D.vB i (by omega) (by omega) fun m o' g1 g2=>hm m o' (by omega) (by omega)).symm
  | _=>rfl
 have gm:id∈gy ops b k sk ops[k]:=by
  rw [Xu]
  unfold Ua
  refine List.mem_flatMap.2 ⟨i,List.mem_range.2 mC,?_⟩
  rw [b1,b2,b3,ho]
  simp only [Bool.or_self,Bool.false_eq_true,if_false,Option.bind_some,hl]
  rw [mM];exact bO
 cases e0 with
 | val v0=>cases yg
 | new v0 os=>cases yg
 | wr v0 M1 =>
  cases yg
  simp only [mn,Bool.and_eq_true] at sG
  have hn:M1.get id=none:=by
   cases e:M1.get id with
   | none=>rfl
   | some ob=>exact absurd gm (jX sG.2 id ob e).1
  rw [h7]
  show (eO _ hh M1).get id=H k id
  rw [jV,if_pos gm,hn,RI id]
  cases ab8:H k id with
  | none=>simp
  | some ob =>
   have h8:=D.UC hk ⟨_,_,hE⟩ id (by rw [ab8];simp)
   have h9:pK rid (b.getD k 0) id=true:=by
    unfold pK
    by_cases hr:id / 32768=rid+1
    ·have:=h8 hr
     unfold qU at this
     rw [this];simp
    ·simp [hr]
   rw [if_pos h9]
end
end Go.Vs
namespace Go.Vs
variable {P:Program} {Eqs:TypeId→Option K} {Sg:FuncId→Option aL} {F:(f:FuncId)→(g:aL)→g.A→Option g.B} {R:Type}
variable {Z Z' Z0:Nat→Prop} {ψ ψ' ψ0:Nat→Value} {h h':Hp} {w w' w0:World} {B0:Nat} {O N:Nat→Prop}
variable {rid n:Nat} {ops:Array Oper} {b:Array Nat} {T:Nat→Nat→AV} {H:Nat→Hp} {E:Nat→Option bE}
structure Dj(rid:Nat)(ops:Array Oper)(b:Array Nat)(T:Nat→Nat→AV)(H:Nat→Hp)(E:Nat→Option bE)(S:Nat→Prop)(Tc:Nat→AV)(h:Hp):Prop where
 lt:∀i,S i→i<ops.size
 closed:∀i j,S i→qU b i j→S j
 heap:∃q,q≤ops.size∧(∀k,k<q→yh E k→S k)∧(q<ops.size→yh E q∧¬S q)∧∀id,(lK rid S id→h id=H q id)∧(¬lK rid S id→h id=none)
 NK:∀j o d,S j→ops[j]? = some o→o.dst=some d→Tc d=T (j+1) d
 told:∀d,(∀j o,S j→ops[j]? = some o→o.dst≠some d)→Tc d=T 0 d
theorem Dr.NL(D:Dr P Eqs Sg F rid n ops b T H E){k:Nat}{o:Oper}(ho:ops[k]? = some o){d:Nat}(hd:o.dst≠some d):T (k+1) d=T k d:=by
 have:∀v,iC (T k) o.dst v d=T k d:=fun v=>by
  cases ki:o.dst with
  | none=>rfl
  | some d' =>
   simp only [iC,dJ]
   rw [if_neg]
   rintro rfl
   exact hd ki
 rcases D.step k o ho with ⟨e,s,hh,_,_,_,_,_,_,h7,_⟩ | ⟨_,_,h3,_⟩
 ·rw [h7,this]
 ·rw [h3,this]
theorem Dr.ua(D:Dr P Eqs Sg F rid n ops b T H E){d:Nat}:∀(i:Nat),i≤ops.size→(∀k o,k<i→ops[k]? = some o→o.dst≠some d)→T i d=T 0 d
 | 0,_,_=>rfl
 | i+1,hi,hk=>by
  rw [D.NL (Array.getElem?_eq_getElem (show i<ops.size by omega)) (hk i _ (by omega) (Array.getElem?_eq_getElem (by omega)))]
  exact D.ua i (by omega) fun k o h1 h2=>hk k o (by omega) h2
theorem Dr.D2(D:Dr P Eqs Sg F rid n ops b T H E){d j:Nat}{oj:Oper}(hj:ops[j]? = some oj)(hd:oj.dst=some d):∀(i:Nat),i≤ops.size→j<i→T i d=T (j+1) d
 | 0,_,h=>by omega
 | i+1,hi,h=>by
  by_cases e:j=i
  ·rw [e]
  ·have ho:=Array.getElem?_eq_getElem (show i<ops.size by omega)
   rw [D.NL ho (fun hdi=>e (D.yi hj ho hd hdi))]
   exact D.D2 hj hd i (by omega) (by omega)
theorem Dr.looks(D:Dr P Eqs Sg F rid n ops b T H E){S:Nat→Prop}{Tc:Nat→AV}(dj:Dj rid ops b T H E S Tc h){i:Nat}{o:Oper}(ho:ops[i]? = some o)(hS:¬S i)(hb:∀j,qU b i j→S j){d:Nat}(hd:d∈o.looksAt ops):Tc d=T i d:=by
 have hi:=(Array.getElem?_eq_some_iff.1 ho).1
 by_cases hex:∃(j:Nat) (oj:Oper),ops[j]? = some oj∧oj.dst=some d
 ·obtain ⟨j,oj,hj,Wi⟩:=hex
  have cH:¬S j→Tc d=T 0 d:=fun hn=>dj.told d fun j' o' hs my NM=>hn (by rw [D.yi hj my Wi NM];exact hs)
  have MI:i≤j→T i d=T 0 d:=fun xW=>D.ua i (by omega) fun k o' hk my NM=>by have:=D.yi hj my Wi NM;omega
  rcases Nat.lt_trichotomy j i with aJ | rfl | HR
  ·rcases D.Tk hj ho aJ with h1 | h1
   ·rw [dj.NK j oj d (hb j h1) hj Wi,D.D2 hj Wi i (by omega) aJ]
   ·exact absurd hd ((Oper.apart_spec h1).1 d Wi)
  ·rw [cH hS,MI (Nat.le_refl _)]
  ·rcases D.Tk ho hj HR with h1 | h1
   ·rw [cH (fun hs=>hS (dj.closed j i hs h1)),MI (by omega)]
   ·exact absurd hd ((Oper.apart_spec h1).2.2 d Wi)
 ·rw [dj.told d fun j o' _ my NM=>hex ⟨j,o',my,NM⟩,D.ua i (by omega) fun k o' _ my NM=>hex ⟨k,o',my,NM⟩]
theorem Dr.NO{S:Nat→Prop}{Tc:Nat→AV}(D:Dr P Eqs Sg F rid n ops b T H E)(dj:Dj rid ops b T H E S Tc h){i:Nat}{o:Oper}(ho:ops[i]? = some o)(hS:¬S i){v:AV}(hv:T (i+1)=iC (T i) o.dst v) :
  (∀j o' d,(S j∨j=i)→ops[j]? = some o'→o'.dst=some d→iC Tc o.dst v d=T (j+1) d)∧(∀d,(∀j o',(S j∨j=i)→ops[j]? = some o'→o'.dst≠some d)→iC Tc o.dst v d=T 0 d):=by
 constructor
 ·intro j o' d hj my hd
  rcases hj with hj | rfl
  ·have bj:j≠i:=fun e=>hS (e▸hj)
   have:iC Tc o.dst v d=Tc d:=by
    cases ki:o.dst with
    | none=>rfl
    | some d' =>
     simp only [iC,dJ]
     rw [if_neg]
     rintro rfl
     exact bj (D.yi my ho hd ki)
   rw [this];exact dj.NK j o' d hj my hd
  ·rw [ho] at my;cases my
   rw [hv,hd];simp [iC,dJ]
 ·intro d hd
  have:iC Tc o.dst v d=Tc d:=by
   cases ki:o.dst with
   | none=>rfl
   | some d' =>
    simp only [iC,dJ]
    rw [if_neg]
    rintro rfl
    exact hd i o (.inr rfl) ho ki
  rw [this];exact dj.told d fun j o' hj=>hd j o' (.inl hj)
theorem ub{i k id:Nat}(h1:Of rid i id)(h2:Of rid k id):i=k:=by unfold Of at h1 h2;omega
section
variable {S:Nat→Prop} {Tc:Nat→AV}
theorem Dr.calm(D:Dr P Eqs Sg F rid n ops b T H E)(dj:Dj rid ops b T H E S Tc h){i q:Nat}(hi:Nf ops i)(hS:¬S i)(hq:q≤ops.size)(hw:∀k,k<q→yh E k→S k):∀k,i≤k→k<q→¬yh E k:=by
 intro k NP hkq hk
 have NJ:=hw k hkq hk
 have bj:i≠k:=fun e=>hS (e▸NJ)
 rcases D.zT (by omega) hk hi bj with ⟨_,h1⟩ | ⟨h1,_⟩
 ·exact hS (dj.closed k i NJ h1)
 ·omega
theorem Dr.seen(D:Dr P Eqs Sg F rid n ops b T H E)(dj:Dj rid ops b T H E S Tc h){i:Nat}(hi:Nf ops i)(hS:¬S i)(hb:∀j,qU b i j→S j){hh:Heap}(RI:∀id,Heap.get hh id=if pK rid (b.getD i 0) id then H i id else none) :
  ∀id o,hh.get id=some o→h id=some o:=by
 obtain ⟨q,hq,hw,iq,eX⟩:=dj.heap
 have mC:i<ops.size:=by obtain ⟨o,ho,hf1,hf2⟩:=hi;exact (Array.getElem?_eq_some_iff.1 ho).1
 have Xv:i≤q:=by
  rcases Nat.lt_or_ge q i with h1 | h1
  ·obtain ⟨h2,h3⟩:=iq (by omega)
   rcases D.zT (by omega) h2 hi (by omega) with ⟨h4,_⟩ | ⟨_,h4⟩
   ·omega
   ·exact absurd (hb q h4) h3
  ·exact h1
 intro id o bO
 rw [RI] at bO
 split at bO
 ·rename_i lI
  have lJ:lK rid S id:=mZ hb lI
  rw [(eX id).1 lJ,D.yj q Xv hq (D.calm dj hi hS hq hw) id fun k hk _ _ ho => ?_,bO]
  have NI:=(ho.parts (by have:=D.size;omega)).1
  obtain ⟨j,h1,h2,_⟩:=D.names i (by omega) id (by rw [bO];simp) NI
  have:=ub h1 ho
  omega
 ·cases bO
theorem Dr.Lw(D:Dr P Eqs Sg F rid n ops b T H E)(dj:Dj rid ops b T H E S Tc h){i:Nat}{o:Oper}{x:Operand}(ho:ops[i]? = some o)(hl:iJ o.op=some x)(hS:¬S i)(hb:∀j,qU b i j→S j){s:List (Nat×AV)}(hs:look s=T i)
  {hh:Heap} (RI:∀id,Heap.get hh id=if pK rid (b.getD i 0) id then H i id else none):∀id∈tE (ρ s x),∀ob,hh.get id=some ob→h id=some ob:=by
 obtain ⟨q,hq,hw,iq,eX⟩:=dj.heap
 have mC:=(Array.getElem?_eq_some_iff.1 ho).1
 have NH:=D.size
 intro id bO ob jo
 rw [RI] at jo
 split at jo
 ·rename_i lI
  have lJ:lK rid S id:=mZ hb lI
  rw [(eX id).1 lJ,←jo]
  rcases Nat.lt_or_ge q i with hqi | Xv
  ·obtain ⟨h2,h3⟩:=iq (by omega)
   have later:∀k,q<k→k<ops.size→Nf ops k→qU b k q:=fun k h4 h5 h6=>by
    rcases D.zT (by omega) h2 h6 (by omega) with ⟨h7,_⟩ | ⟨_,h7⟩
    ·omega
    ·exact h7
   have Xw:∀k,q≤k→k<i→Nf ops k→¬S k:=fun k h4 h5 h6 hk=>by
    rcases Nat.eq_or_lt_of_le h4 with e | h7
    ·exact h3 (e▸hk)
    ·exact h3 (dj.closed k q hk (later k h7 (by omega) h6))
   symm
   refine D.zU i (by omega) (by omega) id (fun k h4 h5 h6 => ?_) (fun k h4 h5 h6 h7 => ?_)
   ·have hns:=Xw k h4 h5 (D.NG (by omega) h6)
    exact D.steady ho hl (by omega) h6 (by omega) (fun IG=>hns (hb k IG)) (fun IG=>by have:=zQ D.MI k i (by omega) IG;omega) hs bO
   ·have hns:=Xw k h4 h5 (D.vA (by omega) h6)
    have h8:=h7.parts (show k<128 by omega)
    have h9:=lJ h8.1
    rw [h8.2] at h9
    exact hns h9
  ·refine D.zU q Xv hq id (fun k h4 h5 h6 => ?_) (fun k h4 h5 h6 h7 => ?_)
   ·have NJ:=hw k h5 h6
    have bj:i≠k:=fun e=>hS (e▸NJ)
    exact D.steady ho hl (by omega) h6 bj (fun IG=>by have:=zQ D.MI i k mC IG;omega) (fun IG=>hS (dj.closed k i NJ IG)) hs bO
   ·obtain ⟨j,h8,h9,_⟩:=D.names i (by omega) id (by rw [jo];simp) (h7.parts (by omega)).1
    have:=ub h8 h7
    omega
 ·cases jo
theorem NQ(E:Nat→Option bE)(S:Nat→Prop)(m:Nat):∃q,q≤m∧(∀k,k<q→yh E k→S k)∧(q<m→yh E q∧¬S q):=by
 classical
 induction m with
 | zero=>exact ⟨0,Nat.le_refl _,fun k hk=>by omega,fun h=>by omega⟩
 | succ m ih =>
  obtain ⟨q,h1,h2,h3⟩:=ih
  by_cases hq:q<m
  ·exact ⟨q,by omega,h2,fun _=>h3 hq⟩
  ·have:q=m:=by omega
   subst this
   by_cases hm:yh E q∧¬S q
   ·exact ⟨q,by omega,h2,fun _=>hm⟩
   ·refine ⟨q+1,by omega,fun k hk hw => ?_,fun h=>by omega⟩
    rcases Nat.lt_or_ge k q with h4 | h4
    ·exact h2 k h4 hw
    ·have:k=q:=by omega
     subst this
     exact Classical.not_not.1 fun hn=>hm ⟨hw,hn⟩
theorem zX{i id:Nat}(hi:i<128):lK rid (fun k=>S k∨k=i) id↔lK rid S id∨Of rid i id:=by
 constructor
 ·intro h1
  by_cases hr:id / 32768=rid+1
  ·rcases h1 hr with h2 | h2
   ·exact .inl fun _=>h2
   ·exact .inr (Of.of hr h2)
  ·exact .inl fun h=>absurd h hr
 ·rintro (h1 | h1) h2
  ·exact .inl (h1 h2)
  ·exact .inr (h1.parts hi).2
theorem Dr.FK(D:Dr P Eqs Sg F rid n ops b T H E)(dj:Dj rid ops b T H E S Tc h){i:Nat}(mC:i<ops.size)(hS:¬S i)(hnn:¬Wh E i)(Xx:¬yh E i) :
  ∃q,q≤ops.size∧(∀k,k<q→yh E k→S k∨k=i)∧(q<ops.size→yh E q∧¬(S q∨q=i))∧∀id,(lK rid (fun k=>S k∨k=i) id→h id=H q id)∧(¬lK rid (fun k=>S k∨k=i) id→h id=none):=by
 obtain ⟨q,hq,hw,iq,eX⟩:=dj.heap
 have NH:=D.size
 refine ⟨q,hq,fun k h1 h2=>.inl (hw k h1 h2),fun h1=>⟨(iq h1).1,fun h2=>h2.elim (iq h1).2 fun e=>Xx (e▸(iq h1).1)⟩,fun id=>⟨fun h1 => ?_,fun h1=>(eX id).2 fun h2=>h1 ((zX (by omega)).2 (.inl h2))⟩⟩
 rcases (zX (S:=S) (i:=i) (rid:=rid) (by omega)).1 h1 with h2 | h2
 ·exact (eX id).1 h2
 ·have hn:¬lK rid S id:=fun h3=>h3.zL (by omega) hS h2
  rw [(eX id).2 hn]
  symm
  apply Classical.not_not.1
  intro bj
  obtain ⟨j,h3,_,_,h4⟩:=D.names q hq id bj (h2.parts (by omega)).1
  have:=ub h3 h2
  subst this
  rcases h4 with h4 | ⟨w',h5,h6,h7 | h7⟩
  ·exact hnn h4
  ·exact Xx (h7▸h6)
  ·exact hS (dj.closed w' _ (hw w' h5 h6) h7)
theorem RJ{os:Heap}{i:Nat}(eg:(os.all fun p=>p.1 / 256==(rid+1) * 128+i)=true):∀id o,os.get id=some o→Of rid i id:=by
 induction os with
 | nil=>intro id o h;simp [Heap.get] at h
 | cons a r ih =>
  intro id o hg
  simp only [List.all_cons,Bool.and_eq_true,beq_iff_eq] at eg
  simp only [Heap.get] at hg
  split at hg
  ·rename_i e;rw [←e];exact eg.1
  ·exact ih eg.2 id o hg
theorem Dr.NR(D:Dr P Eqs Sg F rid n ops b T H E)(dj:Dj rid ops b T H E S Tc h){i:Nat}{o:Oper}(ho:ops[i]? = some o)(hS:¬S i)(hb:∀j,qU b i j→S j){v:AV}{os:Heap}(hE:E i=some (.new v os)) :
  ∃q,q≤ops.size∧(∀k,k<q→yh E k→S k∨k=i)∧(q<ops.size→yh E q∧¬(S q∨q=i))∧∀id,(lK rid (fun k=>S k∨k=i) id→(bE.new v os).hp h id=H q id)∧(¬lK rid (fun k=>S k∨k=i) id→(bE.new v os).hp h id=none):=by
 obtain ⟨q,hq,hw,iq,eX⟩:=dj.heap
 have NH:=D.size
 have mC:=(Array.getElem?_eq_some_iff.1 ho).1
 have Xx:¬yh E i:=fun ⟨v',h',h1⟩=>by rw [hE] at h1;cases h1
 have Wj:=D.vA mC ⟨v,os,hE⟩
 obtain ⟨s,hh,_,_,_,h4,_,_,h7⟩:=D.RG ho hE
 simp only [gh,Bool.and_eq_true] at h4
 have sJ:=RJ (rid:=rid) h4.1.2
 have Xv:i<q:=by
  rcases Nat.lt_or_ge i q with h1 | h1
  ·exact h1
  ·obtain ⟨h2,h3⟩:=iq (by omega)
   have bj:i≠q:=fun e=>Xx (e▸h2)
   rcases D.zT (by omega) h2 Wj bj with ⟨h4,_⟩ | ⟨_,h4⟩
   ·omega
   ·exact absurd (hb q h4) h3
 refine ⟨q,hq,fun k h1 h2=>.inl (hw k h1 h2),fun h1=>⟨(iq h1).1,fun h2=>h2.elim (iq h1).2 fun e=>Xx (e▸(iq h1).1)⟩,fun id=>⟨fun h1 => ?_,fun h1 => ?_⟩⟩
 ·simp only [bE.hp]
  by_cases h2:Of rid i id
  ·have hn:¬lK rid S id:=fun h3=>h3.zL (by omega) hS h2
   have e1:H i id=none:=Classical.not_not.1 fun bj=>by
    obtain ⟨j,h3,h4,_⟩:=D.names i (by omega) id bj (h2.parts (by omega)).1
    have:=ub h3 h2
    omega
   have e2:H (i+1) id=Heap.get os id:=by
    rw [h7];simp only [bE.hp];rw [e1];cases Heap.get os id<;>rfl
   have e3:H q id=H (i+1) id:=D.yj q Xv hq (fun k h3 h4=>D.calm dj Wj hS hq hw k (by omega) h4) id fun k h3 _ _ h5=>by
    have:=ub h5 h2;omega
   rw [e3,e2,(eX id).2 hn];cases Heap.get os id<;>rfl
  ·have h3:lK rid S id:=((zX (by omega)).1 h1).resolve_right h2
   cases MF:Heap.get os id with
   | some o'=>exact absurd (sJ id o' MF) h2
   | none=>exact (eX id).1 h3
 ·have h2:¬lK rid S id:=fun h2=>h1 ((zX (by omega)).2 (.inl h2))
  have h3:¬Of rid i id:=fun h2=>h1 ((zX (by omega)).2 (.inr h2))
  simp only [bE.hp]
  cases MF:Heap.get os id with
  | some o'=>exact absurd (sJ id o' MF) h3
  | none=>exact (eX id).2 h2
theorem Dr.RL(D:Dr P Eqs Sg F rid n ops b T H E)(dj:Dj rid ops b T H E S Tc h){i:Nat}{o:Oper}(ho:ops[i]? = some o)(hS:¬S i)(hb:∀j,qU b i j→S j){v:AV}{h':Heap}(hE:E i=some (.wr v h')) :
  (∀hh:Heap,(∀id,hh.get id=if pK rid (b.getD i 0) id then H i id else none)→hh.get=h) ∧
  ∃q,q≤ops.size∧(∀k,k<q→yh E k→S k∨k=i)∧(q<ops.size→yh E q∧¬(S q∨q=i))∧∀id,(lK rid (fun k=>S k∨k=i) id→h'.get id=H q id)∧(¬lK rid (fun k=>S k∨k=i) id→h'.get id=none):=by
 obtain ⟨q,hq,hw,iq,eX⟩:=dj.heap
 have NH:=D.size
 have mC:=(Array.getElem?_eq_some_iff.1 ho).1
 have RH:yh E i:=⟨v,h',hE⟩
 have Wj:=D.NG mC RH
 obtain ⟨s,hh0,_,_,_,h4,_,_,h7⟩:=D.RG ho hE
 simp only [gh,Bool.and_eq_true] at h4
 have hqi:q=i:=by
  rcases Nat.lt_trichotomy q i with h1 | h1 | h1
  ·obtain ⟨h2,h3⟩:=iq (by omega)
   rcases D.zT mC RH (D.NG (by omega) h2) (by omega) with ⟨_,h5⟩ | ⟨h5,_⟩
   ·exact absurd (hb q h5) h3
   ·omega
  ·exact h1
  ·exact absurd (hw i h1 RH) hS
 subst hqi
 have own:∀id,H q id≠none→lK rid (qU b q) id:=fun id bj NI=>by
  obtain ⟨j,h1,h2,h2',h3⟩:=D.names q hq id bj NI
  rw [(h1.parts h2').2]
  rcases h3 with h3 | ⟨w',h5,h6,h8⟩
  ·rcases D.zT mC RH (D.vA (by omega) h3) (by omega) with ⟨_,h9⟩ | ⟨h9,_⟩
   ·exact h9
   ·omega
  ·have Xt:qU b q w':=by
    rcases D.zT mC RH (D.NG (by omega) h6) (by omega) with ⟨_,h9⟩ | ⟨h9,_⟩
    ·exact h9
    ·omega
   rcases h8 with rfl | h8
   ·exact Xt
   ·exact CI D.MI q w' j mC Xt h8
 refine ⟨fun hh RI => ?_,?_⟩
 ·funext id
  rw [RI id]
  cases bO:H q id with
  | none =>
   have:h id=none:=by
    by_cases h1:lK rid S id
    ·rw [(eX id).1 h1,bO]
    ·exact (eX id).2 h1
   rw [this];split<;>rfl
  | some ob =>
   have h1:=own id (by rw [bO];simp)
   have h2:lK rid S id:=fun hr=>hb _ (h1 hr)
   have h3:pK rid (b.getD q 0) id=true:=by
    unfold pK
    by_cases hr:id / 32768=rid+1
    ·have:=h1 hr
     unfold qU at this
     rw [this];simp
    ·simp [hr]
   rw [h3,(eX id).1 h2,bO];rfl
 ·obtain ⟨q',h1,h2,h3⟩:=NQ E (fun k=>S k∨k=q) ops.size
  have QX:q+1≤q':=by
   rcases Nat.lt_or_ge q q' with h5 | h5
   ·exact h5
   ·obtain ⟨h6,h8⟩:=h3 (by omega)
    rcases Nat.lt_or_ge q' q with h9 | h9
    ·exact absurd (.inl (hw q' h9 h6)) h8
    ·exact absurd (.inr (by omega)) h8
  have e1:H (q+1)=h'.get:=by rw [h7];rfl
  have xX:∀j,(b.getD q 0 ||| 2 ^ q).testBit j=true→S j∨j=q:=fun j hj=>by
   rw [Nat.testBit_or,Bool.or_eq_true,Nat.testBit_two_pow] at hj
   exact hj.imp (hb j) (fun h=>(of_decide_eq_true h).symm)
  refine ⟨q',h1,h2,h3,fun id=>⟨fun h5 => ?_,fun h5 => ?_⟩⟩
  ·rw [D.yj q' QX h1 (fun k h6 h8 h9 => ?_) id (fun k h6 h8 h9 mr => ?_),e1]
   ·have hk:=h2 k h8 h9
    have NJ:S k:=hk.resolve_right (by omega)
    rcases D.zT (by omega) h9 Wj (by omega) with ⟨_,xy⟩ | ⟨xy,_⟩
    ·exact hS (dj.closed k q NJ xy)
    ·omega
   ·have hk:=h5 (mr.parts (by omega)).1
    rw [(mr.parts (by omega)).2] at hk
    have NJ:S k:=hk.resolve_right (by omega)
    rcases D.zT mC RH (D.vA (by omega) h9) (by omega) with ⟨xy,_⟩ | ⟨_,xy⟩
    ·omega
    ·exact hS (dj.closed k q NJ xy)
  ·cases bO:h'.get id with
   | none=>rfl
   | some ob=>exact absurd ((ln xX h4.2 id ob bO).1) h5
end
section
variable {S:Nat→Prop} {Tc:Nat→AV}
theorem BZ{o:Oper}{d:Nat}(h:Operand.tmp d∈o.op.operands):d∈o.looksAt ops :=
 List.mem_append_left _ (List.mem_filterMap.2 ⟨.tmp d,by simpa using h,rfl⟩)
theorem FL{o:Oper}{j d:Nat}{want:Bool}(hg:o.guard=some (j,want))(hd:(ops[j]?).bind (·.dst)=some d):d∈o.looksAt ops:=by
 unfold Oper.looksAt
 rw [hg]
 exact List.mem_append_right _ (by simp only [hd];simp)
theorem Dr.wanted(D:Dr P Eqs Sg F rid n ops b T H E)(dj:Dj rid ops b T H E S Tc h){a:Act}{i:Nat}{o:Oper}(ho:ops[i]? = some o)(hS:¬S i)(hb:∀j,qU b i j→S j)(t:cM Z ψ h w n Tc a){c:Bool}(hw:oX ops (T i) o c) :
  Region.wanted o (yielded ops a.tmps)=c:=by
 unfold oX at hw
 split at hw
 ·rename_i hg;rw [hw];simp [Region.wanted,hg]
 ·rename_i j want hg
  obtain ⟨d,hd,hc⟩:=hw
  have e:=D.looks dj ho hS hb (FL hg hd)
  rcases hc with ⟨u,h1,h2⟩ | ⟨vs,h1,h2⟩
  ·rw [zM t hg hd (e.trans h1),h2]
  ·rw [w5 t hg hd (e.trans h1),h2]
theorem Dr.IH(D:Dr P Eqs Sg F rid n ops b T H E)(V:Env P Eqs Sg F){i:Nat}{o:Oper}{a:Act}(ho:ops[i]? = some o)(hS:¬S i)(hb:∀j,qU b i j→S j)(dj:Dj rid ops b T H E S Tc h)(j:J (lK rid S) n Z0 w0 O ψ0 Z ψ Tc h a w)
  {K:Act→World→Prop} {Q:Exit→Act→World→Prop} (hk:∀Tc' h' a' w' Z' ψ',Dj rid ops b T H E (fun k=>S k∨k=i) Tc' h'→J (lK rid fun k=>S k∨k=i) n Z0 w0 O ψ0 Z' ψ' Tc' h' a' w'→K a' w'):wpOp P ops Q i K a w:=by
 have mC:=(Array.getElem?_eq_some_iff.1 ho).1
 have NH:=D.size
 have Q1:=D.ab4 i o ho
 have aJ:∀k,(S k∨k=i)→k<ops.size:=fun k hk=>hk.elim (dj.lt k) (fun e=>e▸mC)
 have H7:∀k j,(S k∨k=i)→qU b k j→S j∨j=i:=fun k j hk hj=>.inl (hk.elim (fun h=>dj.closed k j h hj) (fun e=>hb j (e▸hj)))
 unfold wpOp
 rw [ho]
 simp only []
 cases hE:E i with
 | none =>
  obtain ⟨h1,h2,h3⟩:=D.D1 ho hE
  rw [D.wanted dj ho hS hb j.tr h1]
  simp only [Bool.false_eq_true,if_false]
  obtain ⟨t1,t2⟩:=D.NO dj ho hS h2
  refine hk _ h _ w Z ψ ⟨aJ,H7,D.FK dj mC hS (fun ⟨v,os,h⟩=>by rw [hE] at h;cases h) (fun ⟨v,os,h⟩=>by rw [hE] at h;cases h),t1,t2⟩ (j.skip Q1 fun id hp hr=>.inl (hp hr))
 | some e =>
  obtain ⟨s,hh,h1,h2,h3,h4,h5,h6,h7⟩:=D.RG ho hE
  rw [D.wanted dj ho hS hb j.tr h5]
  simp only [if_true]
  refine .inl ?_
  obtain ⟨t1,t2⟩:=D.NO dj ho hS h6
  have hT:∀x∈o.op.operands,ax Z ψ h w (ρ s x) (a.eval x)∧aK (lK rid S) (ρ s x):=fun x hx=>by
   cases x with
   | tmp d =>
    have e1:look s d=Tc d:=by rw [h1];exact (D.looks dj ho hS hb (BZ hx)).symm
    simp only [ρ,e1]
    exact ⟨j.tr.rep d,j.tm d⟩
   | const v=>exact ⟨Ff v,zK _ v⟩
   | global g=>exact ⟨by simp only [ρ,ax],by simp only [ρ,aK]⟩
   | func f=>exact ⟨by simp only [ρ,ax,ao,Act.eval];exact ⟨#[],rfl,rfl⟩,by simp only [ρ,aK,aC]⟩
  have m6:=zO (hh:=[]) j.hm (fun k hk=>hb k hk) h4
  obtain ⟨e0,h3,yg,sG⟩:=h3
  cases e0 with
  | wr v0 M1 =>
   simp only [gk] at yg
   subst yg
   have lQ:=D.RL dj ho hS hb hE
   have RI:=lQ.1 hh h2
   subst RI
   refine J.opF V (rid:=rid) (i:=i) (fun _ id hp=>hp.zL (by omega) hS) j Q1 (fun x hx=>(hT x hx).1) (fun x hx=>(hT x hx).2) h3 sG (p':=lK rid fun k=>S k∨k=i) (fun id hp hr=>.inl (hp hr)) m6.1 m6.2 fun a' w' Z' ψ' j' => ?_
   exact hk _ _ a' w' Z' ψ' ⟨aJ,H7,lQ.2,t1,t2⟩ j'
  | val v0 =>
   simp only [gk] at yg
   subst yg
   have aca:∃Ux:Heap,(∀id o,Ux.get id=some o→h id=some o)∧cJ P Eqs Sg F (opId rid i) Ux s o some=some (.val v0):=by
    cases hf:ml o.op with
    | true=>exact ⟨[],fun id o h=>by simp [Heap.get] at h,by rw [Lr hf (h':=gx hh (gy ops b i s o))];exact h3⟩
    | false =>
     cases QU:iJ o.op with
     | some x =>
      have Xu:gy ops b i s o=[]:=by unfold gy;rw [(CJ QU).2];rfl
      rw [Xu] at h3
      have h3':cJ P Eqs Sg F (opId rid i) hh s o some=some (.val v0):=h3
      have mw:∀id,(eO (tE (ρ s x)) hh []).get id=if id∈tE (ρ s x) then hh.get id else none:=fun id=>by
       rw [jV]
       split
       ·cases hh.get id<;>rfl
       ·rfl
      refine ⟨eO (tE (ρ s x)) hh [],fun id ob bO => ?_,?_⟩
      ·rw [mw] at bO
       split at bO
       ·rename_i hm;exact D.Lw dj ho QU hS hb h1 h2 id hm ob bO
       ·cases bO
      ·rw [IF QU (hh:=hh) (fun id hm=>by rw [mw,if_pos hm])];exact h3'
     | none=>exact ⟨_,fun id ob bO=>D.seen dj ⟨o,ho,hf,QU⟩ hS hb h2 id ob (by rw [mY] at bO;split at bO;cases bO;exact bO),h3⟩
   obtain ⟨Ux,D3,JV⟩:=aca
   refine J.op V (rid:=rid) (i:=i) (fun _ id hp=>hp.zL (by omega) hS) j Q1 (fun x hx=>(hT x hx).1) (fun x hx=>(hT x hx).2) D3 JV (fun v hw he=>by cases he) (p':=lK rid fun k=>S k∨k=i) (fun id hp hr=>.inl (hp hr)) m6.1 m6.2 fun a' w' Z' ψ' j' => ?_
   exact hk _ _ a' w' Z' ψ' ⟨aJ,H7,D.FK dj mC hS (fun ⟨v,os,h⟩=>by rw [hE] at h;cases h) (fun ⟨v,os,h⟩=>by rw [hE] at h;cases h),t1,t2⟩ j'
  | new v0 os =>
   simp only [gk] at yg
   subst yg
   have Wj:=D.vA mC ⟨v0,os,hE⟩
   have D3:∀id ob,(gx hh (gy ops b i s o)).get id=some ob→h id=some ob:=fun id ob bO=>D.seen dj Wj hS hb h2 id ob (by rw [mY] at bO;split at bO;cases bO;exact bO)
   refine J.op V (rid:=rid) (i:=i) (fun _ id hp=>hp.zL (by omega) hS) j Q1 (fun x hx=>(hT x hx).1) (fun x hx=>(hT x hx).2) D3 h3 (fun v hw he=>by cases he) (p':=lK rid fun k=>S k∨k=i) (fun id hp hr=>.inl (hp hr)) m6.1 m6.2 fun a' w' Z' ψ' j' => ?_
   exact hk _ _ a' w' Z' ψ' ⟨aJ,H7,D.NR dj ho hS hb hE,t1,t2⟩ j'
theorem Dr.done(D:Dr P Eqs Sg F rid n ops b T H E)(dj:Dj rid ops b T H E S Tc h)(eg:∀k,k<ops.size→S k):Tc=T ops.size∧h=H ops.size:=by
 constructor
 ·funext d
  by_cases hex:∃(j:Nat) (oj:Oper),ops[j]? = some oj∧oj.dst=some d
  ·obtain ⟨j,oj,hj,hd⟩:=hex
   have HM:=(Array.getElem?_eq_some_iff.1 hj).1
   rw [dj.NK j oj d (eg j HM) hj hd,D.D2 hj hd ops.size (Nat.le_refl _) HM]
  ·rw [dj.told d fun j o' _ my NM=>hex ⟨j,o',my,NM⟩,D.ua ops.size (Nat.le_refl _) fun k o' _ my NM=>hex ⟨k,o',my,NM⟩]
 ·obtain ⟨q,hq,_,iq,eX⟩:=dj.heap
  have:q=ops.size:=by
   rcases Nat.lt_or_ge q ops.size with h1 | h1
   ·exact absurd (eg q h1) (iq h1).2
   ·omega
  subst this
  funext id
  by_cases lJ:lK rid S id
  ·exact (eX id).1 lJ
  ·rw [(eX id).2 lJ]
   symm
   apply Classical.not_not.1
   intro bj
   apply lJ
   intro hr
   obtain ⟨j,h1,h2,h3,_⟩:=D.names ops.size (Nat.le_refl _) id bj hr
   rw [(h1.parts h3).2]
   exact eg j h2
def lp(m:Nat)(cg:Array Bool):Nat:=((List.range m).filter fun i => !cg.getD i false).length
theorem D4{m:Nat}{cg:Array Bool}{i:Nat}(hi:i<m)(hs:i<cg.size)(hn:cg.getD i false=false):lp m cg=lp m (cg.setIfInBounds i true)+1:=by
 unfold lp
 have key:∀(l:List Nat),l.Nodup→i∈l→(l.filter fun k => !cg.getD k false).length=(l.filter fun k => !(cg.setIfInBounds i true).getD k false).length+1:=by
  intro l
  induction l with
  | nil=>intro _ h;cases h
  | cons a r ih =>
   intro EZ hm
   rw [List.nodup_cons] at EZ
   rcases List.mem_cons.1 hm with rfl | hm
   ·have h2:(r.filter fun k => !cg.getD k false)=(r.filter fun k => !(cg.setIfInBounds i true).getD k false):=by
     apply List.filter_congr
     intro k hk
     have bj:i≠k:=fun e=>EZ.1 (e▸hk)
     rw [getD_set_ne false bj]
    rw [List.filter_cons,List.filter_cons,hn]
    have h3:(cg.setIfInBounds i true).getD i false=true:=by simp [hs]
    rw [h3,h2];simp
   ·have bj:i≠a:=fun e=>EZ.1 (e▸hm)
    rw [List.filter_cons,List.filter_cons,getD_set_ne false bj]
    split
    ·simp only [List.length_cons];rw [ih EZ.2 hm]
    ·exact ih EZ.2 hm
 exact key _ List.nodup_range (List.mem_range.2 hi)
theorem Dr.any(D:Dr P Eqs Sg F rid n ops b T H E)(V:Env P Eqs Sg F){Q:Exit→Act→World→Prop}(hQ:∀Z ψ a w,J (lK rid fun k=>k<ops.size) n Z0 w0 O ψ0 Z ψ (T ops.size) (H ops.size) a w→Q .normal a w) :
  ∀(fuel:Nat) (cg:Array Bool) (Tc:Nat→AV) (h:Hp) (a:Act) (w:World) (Z:Nat→Prop) (ψ:Nat→Value),cg.size=ops.size→lp ops.size cg=fuel →
   Dj rid ops b T H E (fun k=>cg.getD k false=true) Tc h→J (lK rid fun k=>cg.getD k false=true) n Z0 w0 O ψ0 Z ψ Tc h a w→wpAny P .any ops Q fuel cg a w
 | 0,cg,Tc,h,a,w,Z,ψ,hs,hu,dj,j=>by
  have eg:∀k,k<ops.size→cg.getD k false=true:=fun k hk=>by
   unfold lp at hu
   have:=List.filter_eq_nil_iff.1 (List.eq_nil_of_length_eq_zero hu) k (List.mem_range.2 hk)
   simpa using this
  refine ⟨?_,?_⟩
  ·apply List.eq_nil_iff_forall_not_mem.2
   intro i hi
   obtain ⟨h1,o,h2,_⟩:=mem_ready.1 hi
   have h3:=(Array.getElem?_eq_some_iff.1 h2).1
   have h4:=eg i h3
   rw [Array.getD_eq_getD_getElem?,Array.getElem?_eq_getElem (by omega)] at h1 h4
   simp at h1 h4
   rw [h1] at h4;cases h4
  ·obtain ⟨e1,e2⟩:=D.done dj eg
   subst e1;subst e2
   refine hQ Z ψ a w ⟨j.ok,j.tr,fun d=>(j.tm d).imp fun id h1 h2=>dj.lt _ (h1 h2),fun id ty cs hb=>(j.hm id ty cs hb).imp fun id h1 h2=>dj.lt _ (h1 h2)⟩
 | fuel+1,cg,Tc,h,a,w,Z,ψ,hs,hu,dj,j=>by
  have look:∀i,i<ops.size→cg.getD i true=cg.getD i false:=fun i hi=>by
   rw [Array.getD_eq_getD_getElem?,Array.getD_eq_getD_getElem?,Array.getElem?_eq_getElem (by omega)];rfl
  refine ⟨fun hr => ?_,fun i hi => ?_⟩
  ·exfalso
   have hex:∃i,i<ops.size∧cg.getD i false=false:=by
    apply Classical.byContradiction
    intro hn
    unfold lp at hu
    rw [List.filter_eq_nil_iff.2] at hu
    ·simp at hu
    ·intro k hk
     have:=fun h=>hn ⟨k,List.mem_range.1 hk,h⟩
     cases hl:cg.getD k false with
     | true=>simp
     | false=>exact absurd hl this
   have key:∀i,i<ops.size→cg.getD i false=false→False:=by
    intro i
    induction i using Nat.strongRecOn with
    | ind i ih =>
     intro hi hl
     have gm:i∈Region.ready .any ops cg:=by
      refine mem_ready.2 ⟨by rw [look i hi];exact hl,_,Array.getElem?_eq_getElem hi,fun e he Lg => ?_⟩
      have UB:=IE D.MI (Array.getElem?_eq_getElem hi) (by simpa using he) Lg
      cases hle:cg.getD e.on false with
      | true=>rfl
      | false=>exact (ih e.on UB (by omega) hle).elim
     rw [hr] at gm;cases gm
   obtain ⟨i,h1,h2⟩:=hex
   exact key i h1 h2
  ·obtain ⟨h1,o,ho,eg⟩:=mem_ready.1 hi
   have mC:=(Array.getElem?_eq_some_iff.1 ho).1
   have hn:cg.getD i false=false:=by rw [←look i mC];exact h1
   have hS:¬(cg.getD i false=true):=by rw [hn];simp
   have hb:∀k,qU b i k→cg.getD k false=true:=fun k hk=>by
    obtain ⟨e,he,Lg,h2⟩:=(yf D.MI ho).1 hk
    have h3:=eg e (by simpa using he) Lg
    rcases h2 with rfl | h2
    ·exact h3
    ·exact dj.closed e.on k h3 h2
   refine D.IH V ho hS hb dj j fun Tc' h' a' w' Z' ψ' dj' j' => ?_
   have heq:(fun k=>cg.getD k false=true∨k=i)=(fun k=>(cg.setIfInBounds i true).getD k false=true):=by
    funext k
    apply propext
    by_cases e:i=k
    ·subst e
     simp [show i<cg.size by omega]
    ·rw [getD_set_ne false e]
     constructor
     ·rintro (h | h)
      ·exact h
      ·exact absurd h.symm e
     ·exact .inl
   rw [heq] at dj' j'
   exact D.any V hQ fuel _ Tc' h' a' w' Z' ψ' (by simpa using hs) (by have:=D4 mC (by omega) hn;omega) dj' j'
end
end Go.Vs
namespace Go.Vs
variable {P:Program} {Eqs:TypeId→Option K} {Sg:FuncId→Option aL} {F:(f:FuncId)→(g:aL)→g.A→Option g.B} {R:Type}
variable {Z Z' Z0:Nat→Prop} {ψ ψ' ψ0:Nat→Value} {h h':Hp} {w w' w0:World} {B0:Nat} {O N:Nat→Prop}
theorem zY(f:AV→AV)(hf:f .no=.no):∀(l:List (Nat×AV)) (d:Nat),look (l.map fun p=>(p.1,f p.2)) d=f (look l d)
 | [],d=>by simp [look,hf]
 | (i,v)::r,d=>by
  simp only [List.map_cons,look]
  split
  ·rfl
  ·exact zY f hf r d
section
variable {rid:Nat}
mutual
theorem vC:∀{a:AV} {v:Value},ax Z ψ h w a v→ax Z ψ h w (bB rid a) v
 | .ref id s i off,v,hr=>by
  simp only [bB]
  split
  ·simp only [ax]
  ·exact hr
 | .bF id,v,hr=>by
  simp only [bB]
  split
  ·simp only [ax]
  ·exact hr
 | .fn f cap,v,hr=>by
  simp only [bB,ax] at hr ⊢
  obtain ⟨vs,e,hl⟩:=hr
  exact ⟨vs,e,lq hl⟩
 | .agg cs,v,hr=>by
  simp only [bB,ax] at hr ⊢
  obtain ⟨vs,e,hl⟩:=hr
  exact ⟨vs,e,lq hl⟩
 | .mL cs,v,hr=>by
  simp only [bB,ax] at hr ⊢
  obtain ⟨vs,e,hl⟩:=hr
  exact ⟨vs,e,lq hl⟩
 | .no,v,hr=>by simpa only [bB] using hr
 | .bool _,v,hr=>by simpa only [bB] using hr
 | .int _ _,v,hr=>by simpa only [bB] using hr
 | .str _,v,hr=>by simpa only [bB] using hr
 | .kS,v,hr=>by simpa only [bB] using hr
 | .fB,v,hr=>by simpa only [bB] using hr
 | .fp _ _ _,v,hr=>by simpa only [bB] using hr
 | .sl _ _ _,v,hr=>by simpa only [bB] using hr
 | .mp _ _ _,v,hr=>by simpa only [bB] using hr
theorem lq:∀{a:List AV} {v:List Value},ao Z ψ h w a v→ao Z ψ h w (kW rid a) v
 | [],v,hr=>by simpa only [kW] using hr
 | x::r,v,hr=>by
  simp only [kW,ao] at hr ⊢
  obtain ⟨u,us,e,h1,h2⟩:=hr
  exact ⟨u,us,e,vC h1,lq h2⟩
end
mutual
theorem oq:∀(a:AV),aK (lK rid fun _=>False) (bB rid a)
 | .ref id s i off=>by
  simp only [bB]
  split
  ·simp only [aK]
  ·rename_i hn;simp only [aK];exact fun h=>absurd h hn
 | .bF id=>by
  simp only [bB]
  split
  ·simp only [aK]
  ·rename_i hn;simp only [aK];exact fun h=>absurd h hn
 | .fn f cap=>by simp only [bB,aK];exact ir cap
 | .agg cs=>by simp only [bB,aK];exact ir cs
 | .mL cs=>by simp only [bB,aK];exact ir cs
 | .no=>by simp only [bB,aK]
 | .bool _=>by simp only [bB,aK]
 | .int _ _=>by simp only [bB,aK]
 | .str _=>by simp only [bB,aK]
 | .kS=>by simp only [bB,aK]
 | .fB=>by simp only [bB,aK]
 | .fp _ _ _=>by simp only [bB,aK]
 | .sl _ _ _=>by simp only [bB,aK]
 | .mp _ _ _=>by simp only [bB,aK]
theorem ir:∀(a:List AV),aC (lK rid fun _=>False) (kW rid a)
 | []=>by simp only [kW,aC]
 | x::r=>by simp only [kW,aC];exact ⟨oq x,ir r⟩
end
theorem get_map(f:Ob→Ob):∀(hh:Heap) (i:Nat),Heap.get (hh.map fun p=>(p.1,f p.2)) i=(hh.get i).map f
 | [],i=>rfl
 | (j,o)::r,i=>by
  simp only [List.map_cons,Heap.get]
  split
  ·rfl
  ·exact get_map f r i
def l6(rid:Nat)(hh:Heap):Heap:=(hh.filter fun p=>p.1 / 32768 != rid+1).map fun p=>(p.1,yV rid p.2)
theorem Lx(hh:Heap)(i:Nat):(l6 rid hh).get i=if i / 32768=rid+1 then none else (hh.get i).map (yV rid):=by
 unfold l6
 rw [get_map (yV rid),get_filter (fun i=>i / 32768 != rid+1)]
 by_cases e:i / 32768=rid+1<;>simp [e]
theorem g9{hh:Heap}{i:Nat}{o:Ob}(hg:(l6 rid hh).get i=some o):i / 32768≠rid+1∧∃o',hh.get i=some o'∧o=yV rid o':=by
 rw [Lx] at hg
 split at hg
 ·cases hg
 ·rename_i hn
  cases h0:hh.get i with
  | none=>rw [h0] at hg;cases hg
  | some o'=>rw [h0] at hg;cases hg;exact ⟨hn,o',rfl,rfl⟩
theorem jY{hh:Heap}{i:Nat}(hg:(l6 rid hh).get i≠none):hh.get i≠none:=by
 obtain ⟨o,ho⟩:=Option.ne_none_iff_exists'.1 hg
 obtain ⟨_,o',h1,_⟩:=g9 ho
 rw [h1];simp
theorem Good.kq{hh:Heap}(g:Good Z ψ hh.get w B0 O):Good Z ψ (l6 rid hh).get w B0 O:=by
 refine ⟨fun id ty cs hb => ?_,fun id ok xs hb => ?_,fun id b h1 h2=>g.live id b (jY h1) h2,fun id lM b h1 h2 h3 h4=>g.apart id lM b (jY h1) (jY h2) h3 h4,g.jm⟩
 ·obtain ⟨_,o',h1,h2⟩:=g9 hb
  cases o' with
  | own ok xs=>cases h2
  | box xw cs' =>
   cases h2
   obtain ⟨gg,vs,h3,h4,h5,h6⟩:=g.box id ty cs' h1
   exact ⟨gg,vs,h3,h4,lq (h5.less (fun _ h=>h) (ck.refl _ _) fun i hi=>⟨jY hi,rfl⟩),h6⟩
 ·obtain ⟨_,o',h1,h2⟩:=g9 hb
  cases o' with
  | own Wa WM=>cases h2;exact g.row id _ _ h1
  | box xw cs'=>cases h2
theorem Ok.sub{hp:Hp}(k:Ok Z0 w0 O ψ0 Z ψ h w)(g:Good Z ψ hp w w0.heap.size O)(hn:∀id,hp id≠none→h id≠none):Ok Z0 w0 O ψ0 Z ψ hp w :=
 ⟨g,k.fm,k.dU,k.os,k.tape,k.output,k.size,k.block,fun i hi bj=>k.fix i hi (hn i bj)⟩
end
theorem Good.zZ(g:Good Z ψ h w B0 O)(e:w'.heap=w.heap):Good Z ψ h w' B0 O:=by
 have sm:ck Z w w':=fun b _=>by rw [e]
 refine ⟨fun id ty cs hb => ?_,fun id ok xs hb => ?_,g.live,g.apart,fun b hb=>by rw [e];exact g.jm b hb⟩
 ·obtain ⟨gg,vs,h1,h2,h3,h4⟩:=g.box id ty cs hb
  exact ⟨gg,vs,h1,by rw [e];exact h2,h3.less (fun _ h=>h) sm (fun i hi=>⟨hi,rfl⟩),h4⟩
 ·exact (g.row id ok xs hb).kept (fun _ h=>h) sm (fun gg _=>by rw [e])
theorem Ok.zZ(k:Ok Z0 w0 O ψ0 Z ψ h w)(e:w'.heap=w.heap)(e1:w'.os=w.os)(e2:w'.tape=w.tape)(e3:w'.output=w.output):Ok Z0 w0 O ψ0 Z ψ h w' :=
 ⟨k.dO.zZ e,k.fm,k.dU,e1.trans k.os,e2.trans k.tape,e3.trans k.output,by rw [e];exact k.size,fun b hb ho=>by rw [e];exact k.block b hb ho,k.fix⟩
theorem cM.zZ{n:Nat}{T:Nat→AV}{a:Act}(t:cM Z ψ h w n T a)(e:w'.heap=w.heap):cM Z ψ h w' n T a :=
 ⟨fun d=>(t.rep d).less (fun _ h=>h) (fun b _=>by rw [e]) (fun i hi=>⟨hi,rfl⟩),t.size,t.defers⟩
theorem D5(V:Env P Eqs Sg F)(hm:P.follows .mixedOrders=true){n rid:Nat}{ops:Array Oper}{draw:Bool}{st:St}{kk:St→Option R}{r:R}{a:Act}{Q:Exit→Act→World→Prop}
  (hx:gV P Eqs Sg F n rid ops draw st kk=some r) (k:Ok Z0 w0 O ψ0 Z ψ st.heap.get w) (t:cM Z ψ st.heap.get w n (look st.tmps) a)
  (hQ:∀dS Z ψ a w,kk dS=some r→Ok Z0 w0 O ψ0 Z ψ dS.heap.get w→cM Z ψ dS.heap.get w n (look dS.tmps) a→Q .normal a w):(Code.region rid ops draw).wp P Q a w:=by
 obtain ⟨b,Wl,hx⟩:∃b,b=(if draw then Region.before ops else #[])∧(if (ops.all fun o=>gT n o)&&(!draw || (tC ops b&&(yT ops b&&b4 (ops.toList.filterMap (·.dst)))))&&decide (ops.size≤128) then
  bA P Eqs Sg F rid draw ops b (ops.toList.zipIdx.map fun p=>(p.2,p.1)) (kq draw rid ops st) kk else none)=some r:=⟨_,rfl,hx⟩
 split at hx
 ·rename_i hc
  simp only [Bool.and_eq_true,decide_eq_true_eq] at hc
  obtain ⟨⟨ki,hdr⟩,ig⟩:=hc
  have CM:∀(i:Nat) (o:Oper),ops[i]? = some o→gT n o=true:=fun i o ho=>Array.all_eq_true_iff_forall_mem.1 ki o (Array.mem_of_getElem? ho)
  have pk:Ok Z0 w0 O ψ0 Z ψ (l6 rid st.heap).get w:=k.sub k.dO.kq fun id=>jY
  have pt:cM Z ψ (l6 rid st.heap).get w n (fun d=>bB rid (look st.tmps d)) a :=
   ⟨fun d=>vC ((t.rep d).less (fun _ h=>h) (ck.refl _ _) fun i hi=>⟨jY hi,rfl⟩),t.size,t.defers⟩
  have pm:rT (lK rid fun _=>False) (l6 rid st.heap).get:=fun i ty cs hb=>by
   obtain ⟨_,o',h1,h2⟩:=g9 hb
   cases o' with
   | own ok xs=>cases h2
   | box xw cs'=>cases h2;exact ir cs'
  have CN:look (st.tmps.map fun p=>(p.1,bB rid p.2))=fun d=>bB rid (look st.tmps d):=funext fun d=>zY (bB rid) (by simp only [bB]) st.tmps d
  cases draw with
  | false =>
   refine wp_region ?_
   rw [←CF ops]
   cases NC:ops.any (makes ·.op) with
   | false =>
    have hp:kq false rid ops st=st:=by unfold kq;rw [NC];rfl
    rw [hp] at hx
    refine kL V (rid:=rid) (n:=n) (b:=_) false (fun _ i o ho => ?_) ig CM hQ _ 0 st Z ψ a w (m0 ops) hx ⟨k,t,fun d => ?_,fun i ty cs hb => ?_⟩
    ·have:=Array.any_eq_false'.1 NC o (Array.mem_of_getElem? ho)
     simpa using this
    ·exact (aK.top _).imp fun id _ h=>by cases h
    ·exact (aC.top _).imp fun id _ h=>by cases h
   | true =>
    have hp:kq false rid ops st={ tmps:=st.tmps.map fun p=>(p.1,bB rid p.2),heap:=l6 rid st.heap }:=by unfold kq;rw [NC];rfl
    rw [hp] at hx
    refine kL V (rid:=rid) (n:=n) (b:=_) true (fun h=>by cases h) ig CM hQ _ 0 _ Z ψ a w (m0 ops) hx ⟨pk,by rw [CN];exact pt,fun d => ?_,fun i ty cs hb => ?_⟩
    ·rw [CN]
     exact (oq _).imp fun id h1 _ h2=>(h1 h2).elim
    ·exact (pm i ty cs hb).imp fun id h1 _ h2=>(h1 h2).elim
  | true =>
   have hp:kq true rid ops st={ tmps:=st.tmps.map fun p=>(p.1,bB rid p.2),heap:=l6 rid st.heap }:=by unfold kq;rw [Bool.true_or];rfl
   rw [hp] at hx
   simp only [Bool.not_true,Bool.false_or,Bool.and_eq_true] at hdr
   obtain ⟨acd,Xy,EZ⟩:=hdr
   refine wp_region_any hm ?_
   obtain ⟨T,H,E,h1,h2,h3,dS,h4,h5,h6⟩:=trace (kk:=kk) (r:=r) (ops.toList.zipIdx.map fun p=>(p.2,p.1)) 0 _ (m0 ops) (by simp) hx
   rw [CN] at h1
   have D:Dr P Eqs Sg F rid n ops b T H E:=⟨ig,acd,Xy,CM,EZ,fun k o ho=>h3 k o (Nat.zero_le _) ho,fun id bO=>by
    rw [h2] at bO
    obtain ⟨o,ho⟩:=Option.ne_none_iff_exists'.1 bO
    exact (g9 ho).1⟩
   have wU:∀k,¬((Array.replicate ops.size false).getD k false=true):=fun k hk=>by
    rw [Array.getD_eq_getD_getElem?,Array.getElem?_replicate] at hk
    split at hk<;>simp at hk
   rw [show max 0 ops.size=ops.size by omega] at h5 h6
   have w2:({ w with drawn:=w.drawn+1 }:World).heap=w.heap:=rfl
   refine D.any V (Z0:=Z0) (w0:=w0) (O:=O) (ψ0:=ψ0) (fun Z ψ a w j=>hQ dS Z ψ a w h4 (by rw [h6];exact j.ok) (by rw [h5,h6];exact j.tr)) ops.size _ (T 0) (H 0) a _ Z ψ (by simp) ?_ ?_ ?_
   ·unfold lp
    rw [List.filter_eq_self.2,List.length_range]
    intro k _
    have:=wU k
    simpa using this
   ·refine ⟨fun i hi=>(wU i hi).elim,fun i j hi=>(wU i hi).elim,?_,fun j o d hj=>(wU j hj).elim,fun d _=>rfl⟩
    obtain ⟨q,hq1,hq2,hq3⟩:=NQ E (fun k=>(Array.replicate ops.size false).getD k false=true) ops.size
    refine ⟨q,hq1,hq2,hq3,fun id=>⟨fun lJ => ?_,fun lJ => ?_⟩⟩
    ·symm
     refine D.yj q (Nat.zero_le _) hq1 (fun k _ hk hw=>(wU k (hq2 k hk hw)).elim) id fun k _ hk _ ho => ?_
     have:=lJ (ho.parts (by omega)).1
     exact wU _ this
    ·rw [h2]
     apply Classical.not_not.1
     intro bj
     obtain ⟨o,ho⟩:=Option.ne_none_iff_exists'.1 bj
     exact lJ fun hr=>absurd hr (g9 ho).1
   ·rw [h1,h2]
    refine ⟨pk.zZ w2 rfl rfl rfl,pt.zZ w2,fun d=>(oq _).imp fun id h3 h4=>(h3 h4).elim,fun i ty cs hb=>(pm i ty cs hb).imp fun id h3 h4=>(h3 h4).elim⟩
 ·cases hx
end Go.Vs
