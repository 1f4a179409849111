/- The value semantics is sound, at calls and in regions. -/
import Derived.Test.YtpldhjjpeldkaaaGreatEngineB
import Derived.Maps.RangeRun
import Derived.ChangeMaps
set_option linter.unusedSimpArgs false
set_option linter.unusedVariables false
namespace Go.Vs
variable {P:Program} {Z Z':Nat→Prop} {ψ ψ':Nat→Value} {h h':Hp} {w w':World} {B0:Nat} {O:Nat→Prop} {N:Nat→Prop}
theorem eP:∀(k:K) (x:k.T),(enc k x).length=k.sz
 | .int _,_=>rfl
 | .bool,_=>rfl
 | .str,_=>rfl
 | .sl _,_=>rfl
 | .mp _ _,_=>rfl
 | .pair a b,x=>by simp only [enc,List.length_append,K.sz];rw [eP a,eP b]
 | .one k,x=>by simp only [enc,K.sz];exact eP k x
theorem pR(hh:Heap):∀(k:K) (x:k.T),(enc k x).map (cC hh)=enc k x
 | .int _,_=>rfl
 | .bool,_=>rfl
 | .str,_=>rfl
 | .sl _,_=>rfl
 | .mp _ _,_=>rfl
 | .pair a b,x=>by simp only [enc,List.map_append];rw [pR hh a,pR hh b]
 | .one k,x=>by simp only [enc];exact pR hh k x
theorem lj:∀(k:K) (x:k.T) (id:Nat),AV.bF id∉enc k x
 | .int _,_,_=>by simp [enc]
 | .bool,_,_=>by simp [enc]
 | .str,_,_=>by simp [enc]
 | .sl _,_,_=>by simp [enc]
 | .mp _ _,_,_=>by simp [enc]
 | .pair a b,x,id=>by
  simp only [enc,List.mem_append]
  rintro (h | h)
  ·exact lj a _ id h
  ·exact lj b _ id h
 | .one k,x,id=>by simp only [enc];exact lj k x id
theorem vg{hh:Heap}{ok:OK}{n:Nat}{xs:ok.T}(hg:hh.get n=some (.own ok xs)):dE hh ok (.bF n)=some xs:=by
 simp [dE,hg]
theorem oa{hh:Heap}:∀(c8:List CK) (n:Nat) (x:pe c8),(∀e∈aQ c8 n x,hh.get e.1=some e.2)→cE c8 hh (az c8 n x)=some x
 | [],n,x,_=>rfl
 | .val k::r,n,x,hg=>by
  have h1:(az (.val k::r) n x).take k.sz=enc k x.1:=by simp only [az];rw [←eP k x.1,List.take_left]
  have h2:(az (.val k::r) n x).drop k.sz=az r (n+1) x.2:=by simp only [az];rw [←eP k x.1,List.drop_left]
  have e:cE (.val k::r) hh (az (.val k::r) n x)=(match dI k (((az (.val k::r) n x).take k.sz).map (cC hh)),cE r hh ((az (.val k::r) n x).drop k.sz) with
   | some x,some y=>some ((x,y):k.T×pe r)
   | _,_=>none):=by generalize az (.val k::r) n x=l;cases l<;>rfl
  have h4:dI k (((az (.val k::r) n x).take k.sz).map (cC hh))=some x.1:=by
   rw [h1];exact (congrArg (dI k) (pR hh k x.1)).trans (sL k x.1)
  have h5:cE r hh ((az (.val k::r) n x).drop k.sz)=some x.2:=by
   rw [h2];exact oa r (n+1) x.2 hg
  rw [e]
  generalize dI k (((az (.val k::r) n x).take k.sz).map (cC hh))=o1 at h4 ⊢
  generalize cE r hh ((az (.val k::r) n x).drop k.sz)=o2 at h5 ⊢
  subst h4;subst h5;rfl
 | .own ok::r,n,x,hg=>by
  simp only [aQ] at hg
  have h1:=vg (hg _ List.mem_cons_self)
  have h2:=oa r (n+1) x.2 (fun e he=>hg e (List.mem_cons_of_mem _ he))
  have e:cE (.own ok::r) hh (az (.own ok::r) n x)=(match dE hh ok (.bF n),cE r hh (az r (n+1) x.2) with
   | some x,some y=>some ((x,y):ok.T×pe r)
   | _,_=>none):=rfl
  rw [e,h1,h2]
  rfl
theorem KZ{hh:Heap}(b:BK){i n:Nat}{x:b.T}(hg:∀e∈iE b i n x,hh.get e.1=some e.2):oL b hh i=some x:=by
 cases b with
 | box ty c =>
  simp only [iE] at hg
  have h1:ER hh i ty=some (az c n x):=by
   unfold ER
   rw [hg _ List.mem_cons_self]
   simp
  simp only [oL,h1]
  exact oa (hh:=hh) c n x (fun e he=>hg e (List.mem_cons_of_mem _ he))
 | own ok=>exact vg (hg _ (by simp only [iE];exact List.mem_cons_self))
theorem wD{hh:Heap}:∀(bs:List BK) (is:List Nat) (n:Nat) (x:uQ bs),is.length=bs.length→(∀e∈bp bs is n x,hh.get e.1=some e.2)→cP bs hh is=some x
 | [],[],n,x,_,_=>rfl
 | [],_::_,n,x,hl,_=>by simp at hl
 | _::_,[],n,x,hl,_=>by simp at hl
 | b::r,i::is,n,x,hl,hg=>by
  simp only [bp] at hg
  have h2:=KZ b (fun e he=>hg e (List.mem_append_left _ he))
  have h3:=wD r is (n+16) x.2 (by simpa using hl) (fun e he=>hg e (List.mem_append_right _ he))
  have e:cP (b::r) hh (i::is)=(match oL b hh i,cP r hh is with
    | some x,some y=>some ((x,y):b.T×uQ r)
    | _,_=>none):=rfl
  rw [e,h2,h3]
  rfl
theorem vh{i:Nat}{o:Ob}:∀{hh:Heap},b4 (hh.map (·.1))=true→(i,o)∈hh→hh.get i=some o
 | [],_,h=>by cases h
 | (j,o')::r,hn,h=>by
  obtain ⟨h1,h2⟩:=lU hn
  simp only [Heap.get]
  rcases List.mem_cons.1 h with e | h
  ·cases e;simp
  ·rw [if_neg,vh h2 h]
   rintro rfl
   exact h1 (List.mem_map.2 ⟨_,h,rfl⟩)
theorem xF{hh:Heap}:∀(c8:List CK) (n:Nat) (x:pe c8) (id:Nat),AV.bF id∉oK c8 (az c8 n x)
 | [],n,x,id=>by simp [az,oK]
 | .val k::r,n,x,id=>by
  have h1:(az (.val k::r) n x).take k.sz=enc k x.1:=by simp only [az];rw [←eP k x.1,List.take_left]
  have h2:(az (.val k::r) n x).drop k.sz=az r (n+1) x.2:=by simp only [az];rw [←eP k x.1,List.drop_left]
  have e:oK (.val k::r) (az (.val k::r) n x)=(az (.val k::r) n x).take k.sz++oK r ((az (.val k::r) n x).drop k.sz):=by generalize az (.val k::r) n x=l;cases l<;>rfl
  rw [e,h1,h2,List.mem_append]
  rintro (h | h)
  ·exact lj k x.1 id h
  ·exact xF (hh:=hh) r (n+1) x.2 id h
 | .own ok::r,n,x,id=>by simp only [az,oK];exact xF (hh:=hh) r (n+1) x.2 id
theorem zg{hh:Heap}:∀(bs:List BK) (is:List Nat) (n:Nat) (x:uQ bs) (id:Nat),(∀e∈bp bs is n x,hh.get e.1=some e.2)→AV.bF id∉fC bs hh is
 | [],is,n,x,id,_=>by cases is<;>simp [fC]
 | _::_,[],n,x,id,_=>by simp [fC]
 | b::r,i::is,n,x,id,hg=>by
  simp only [bp] at hg
  simp only [fC,List.mem_append]
  rintro (h | h)
  ·cases b with
   | box ty c =>
    simp only [yp] at h
    rw [hg (i,.box ty (az c n x.1)) (List.mem_append_left _ (by simp only [iE];exact List.mem_cons_self))] at h
    exact xF (hh:=hh) c n x.1 id h
   | own ok=>simp [yp] at h
  ·exact zg r is (n+16) x.2 id (fun e he=>hg e (List.mem_append_right _ he)) h
theorem Cl{hh:Heap}:∀(cap:List AV) (is is':List Nat) (vs:List Value),ji cap=some is→is'.length=is.length→(∀p∈is.zip is',hh.get p.1≠none∧(h' p.2≠none→ψ' p.2=ψ p.1)) →
  an Z ψ hh.get w cap vs→an Z' ψ' h' w (is'.map fun i=>.ref i 0 0 0) vs
 | [],is,is',vs,h1,hl,_,hr=>by
  simp only [ji] at h1
  cases h1
  cases is' with
  | nil=>simpa only [List.map_nil,an] using hr
  | cons c r=>simp at hl
 | v::cap,is,is',vs,h1,hl,hp,hr=>by
  simp only [ji] at h1
  split at h1
  ·rename_i i is1 h3 h4
   cases h1
   cases is' with
   | nil=>simp at hl
   | cons c r =>
    simp only [List.zip_cons_cons] at hp
    simp only [List.map_cons,an] at hr ⊢
    obtain ⟨u,us,rfl,h7,h8⟩:=hr
    obtain ⟨sz,rfl⟩:=nY h3
    obtain ⟨h5,h6⟩:=hp _ List.mem_cons_self
    exact ⟨u,us,rfl,xC h7 h5 h6,Cl cap is1 r us h4 (by simpa using hl) (fun p h=>hp p (List.mem_cons_of_mem _ h)) h8⟩
  ·cases h1
theorem rK:∀(cap:List AV) (is:List Nat),ji cap=some is→is.length=cap.length
 | [],is,h=>by simp only [ji] at h;cases h;rfl
 | v::cap,is,h=>by
  simp only [ji] at h
  split at h
  ·rename_i i is1 h3 h4
   cases h
   simp [rK cap is1 h4]
  ·cases h
theorem rL:∀(cs:List AV) (is:List Nat),nM cs=some is→is.length=cs.length
 | [],is,h=>by simp only [nM] at h;cases h;rfl
 | c::r,is,h=>by
  cases c<;>simp only [nM] at h<;>first | (cases h;done) | skip
  split at h
  ·rename_i is' h1
   cases h
   simp [rL r is' h1]
  ·cases h
theorem Cm{hh:Heap}:∀(cs:List AV) (is fU:List Nat) (vs:List Value),nM cs=some is→fU.length=is.length→(∀p∈is.zip fU,hh.get p.1≠none∧(h' p.2≠none→ψ' p.2=ψ p.1)) →
  an Z ψ hh.get w cs vs→an Z' ψ' h' w (fU.map .bF) vs
 | [],is,fU,vs,h,hl,hp,hr=>by
  simp only [nM] at h
  cases h
  have:fU=[]:=List.eq_nil_of_length_eq_zero hl
  subst this
  simpa only [List.map_nil,an] using hr
 | c::r,is,fU,vs,h,hl,hp,hr=>by
  cases c<;>simp only [nM] at h<;>first | (cases h;done) | skip
  rename_i i
  split at h
  ·rename_i is' h1
   cases h
   cases fU with
   | nil=>simp at hl
   | cons i' fU =>
    simp only [List.zip_cons_cons] at hp
    obtain ⟨h5,h6⟩:=hp _ List.mem_cons_self
    simp only [List.map_cons,an] at hr ⊢
    obtain ⟨u,us,rfl,h3,h4⟩:=hr
    refine ⟨u,us,rfl,?_,Cm r is' fU us h1 (by simpa using hl) (fun p M7=>hp p (List.mem_cons_of_mem _ M7)) h4⟩
    simp only [av] at h3 ⊢
    exact ⟨h3.1,fun hn=>(h3.2 h5).trans (h6 hn).symm⟩
  ·cases h
theorem kK{hh:Heap}(g:Good Z ψ hh.get w B0 O)(hz:∀b,Z b→Z' b):∀(ps:List PK) (ids fU:List Nat) (s:Nat) (vs:List AV) (us:List Value) (x:EP (kf ps)),fU.length=ids.length→cw ps vs=some ids→dW ps hh vs=some x →
  (∀id b,AV.bF id∈c6 ps vs→hh.get id≠none→ob (ψ id)=some b→Z' b)→(∀p∈ids.zip fU,hh.get p.1≠none∧(h' p.2≠none→ψ' p.2=ψ p.1))→an Z ψ hh.get w vs us→an Z' ψ' h' w ((aN ps fU s x).map (·.2)) us
 | [],ids,fU,s,vs,us,x,hl,hi,hv,hf,hp,hr=>by
  cases vs with
  | nil=>simpa only [aN,List.map_nil,an] using hr
  | cons a r=>simp [cw] at hi
 | .val k::ps,ids,fU,s,vs,us,x,hl,hi,hv,hf,hp,hr=>by
  cases vs with
  | nil=>simp [cw] at hi
  | cons a r =>
   simp only [cw] at hi
   simp only [an] at hr
   obtain ⟨u,iz,rfl,h3,h4⟩:=hr
   obtain ⟨h1,h2⟩:=wB hv
   simp only [c6] at hf
   simp only [aN,List.map_cons,an]
   exact ⟨u,iz,rfl,qH g hz (fun id b bO=>hf id b (List.mem_append_left _ bO)) h1 h3,kK g hz ps ids fU (s+1) r iz x.2 hl hi h2 (fun id b bO=>hf id b (List.mem_append_right _ bO)) hp h4⟩
 | .ref::ps,ids,fU,s,vs,us,x,hl,hi,hv,hf,hp,hr=>by
  cases vs with
  | nil=>simp [cw] at hi
  | cons a r =>
   simp only [cw] at hi
   split at hi
   ·rename_i i is h1 h2
    cases hi
    simp only [an] at hr
    obtain ⟨u,iz,rfl,h3,h4⟩:=hr
    cases fU with
    | nil=>simp at hl
    | cons i' is' =>
     simp only [List.zip_cons_cons] at hp
     obtain ⟨sz,rfl⟩:=nY h1
     obtain ⟨h5,h6⟩:=hp _ List.mem_cons_self
     simp only [aN,List.map_cons,an]
     exact ⟨u,iz,rfl,xC h3 h5 h6,kK g hz ps is is' (s+1) r iz x (by simpa using hl) h2 hv hf (fun p h=>hp p (List.mem_cons_of_mem _ h)) h4⟩
   ·cases hi
 | .own::ps,ids,fU,s,vs,us,x,hl,hi,hv,hf,hp,hr=>by
  cases vs with
  | nil=>simp [cw] at hi
  | cons a r =>
   cases a<;>simp only [cw] at hi<;>first | (cases hi;done) | skip
   rename_i i
   split at hi
   ·rename_i is h2
    cases hi
    simp only [an] at hr
    obtain ⟨u,iz,rfl,h3,h4⟩:=hr
    cases fU with
    | nil=>simp at hl
    | cons i' is' =>
     simp only [List.zip_cons_cons] at hp
     obtain ⟨h5,h6⟩:=hp _ List.mem_cons_self
     simp only [aN,List.map_cons,an]
     refine ⟨u,iz,rfl,?_,kK g hz ps is is' (s+1) r iz x (by simpa using hl) h2 hv hf (fun p h=>hp p (List.mem_cons_of_mem _ h)) h4⟩
     simp only [av] at h3 ⊢
     exact ⟨h3.1,fun hn=>(h3.2 h5).trans (h6 hn).symm⟩
   ·cases hi
 | .EO f m::ps,ids,fU,s,vs,us,x,hl,hi,hv,hf,hp,hr=>by
  cases vs with
  | nil=>simp [cw] at hi
  | cons a r =>
   cases a<;>simp only [cw] at hi<;>first | (cases hi;done) | skip
   rename_i f' cap
   split at hi
   ·rename_i hc
    obtain ⟨rfl,te⟩:=hc
    split at hi
    ·rename_i a1 b1 h1 h2
     cases hi
     simp only [an] at hr
     obtain ⟨u,iz,rfl,h3,h4⟩:=hr
     have h5:=rK cap a1 h1
     have rG:(a1++b1).zip fU=a1.zip (fU.take m)++b1.zip (fU.drop m):=by
      conv=>lhs;rw [←List.take_append_drop m fU]
      rw [List.zip_append]
      rw [List.length_take,Nat.min_eq_left]
      ·omega
      ·rw [hl,List.length_append];omega
     rw [rG] at hp
     simp only [aN,List.map_cons,an]
     refine ⟨u,iz,rfl,?_,kK g hz ps b1 (fU.drop m) (s+1) r iz x (by rw [List.length_drop,hl,List.length_append];omega) h2 hv hf (fun p h=>hp p (List.mem_append_right _ h)) h4⟩
     simp only [av] at h3 ⊢
     obtain ⟨ws,h6,h7⟩:=h3
     exact ⟨ws,h6,Cl cap a1 (fU.take m) _ h1 (by rw [List.length_take,Nat.min_eq_left (by rw [hl,List.length_append];omega)];omega) (fun p h=>hp p (List.mem_append_left _ h)) h7⟩
    ·cases hi
   ·cases hi
 | .agg m::ps,ids,fU,s,vs,us,x,hl,hi,hv,hf,hp,hr=>by
  cases vs with
  | nil=>simp [cw] at hi
  | cons a r =>
   cases a<;>simp only [cw] at hi<;>first | (cases hi;done) | skip
   rename_i cs
   split at hi
   ·rename_i te
    split at hi
    ·rename_i a1 b1 h1 h2
     cases hi
     simp only [an] at hr
     obtain ⟨u,iz,rfl,h3,h4⟩:=hr
     have h5:=rL cs a1 h1
     have rG:(a1++b1).zip fU=a1.zip (fU.take m)++b1.zip (fU.drop m):=by
      conv=>lhs;rw [←List.take_append_drop m fU]
      rw [List.zip_append]
      rw [List.length_take,Nat.min_eq_left]
      ·omega
      ·rw [hl,List.length_append];omega
     rw [rG] at hp
     simp only [aN,List.map_cons,an]
     refine ⟨u,iz,rfl,?_,kK g hz ps b1 (fU.drop m) (s+1) r iz x (by rw [List.length_drop,hl,List.length_append];omega) h2 hv hf (fun p h=>hp p (List.mem_append_right _ h)) h4⟩
     simp only [av] at h3 ⊢
     obtain ⟨ws,h6,h7⟩:=h3
     exact ⟨ws,h6,Cm cs a1 (fU.take m) _ h1 (by rw [List.length_take,Nat.min_eq_left (by rw [hl,List.length_append];omega)];omega) (fun p h=>hp p (List.mem_append_left _ h)) h7⟩
    ·cases hi
   ·cases hi
theorem K0(hh:Heap)(k:K)(x:k.T):fm k hh (b8 k x)=some x:=by
 unfold fm
 rw [if_pos (y0 k x).symm,sM]
 exact (congrArg (dI k) (pR hh k x)).trans (sL k x)
theorem lY:∀(c8:List CK) (c n:Nat) (x:pe c8),fq c8 c=true→(az c8 n x)[lQ c8 c]? = some (.bF (n+c))
 | [],c,n,x,h=>by simp [fq] at h
 | .val k::r,0,n,x,h=>by simp [fq] at h
 | .val k::r,c+1,n,x,h=>by
  simp only [az,lQ]
  have ih:=lY r c (n+1) x.2 (by simpa [fq] using h)
  have hl:(enc k x.1).length=k.sz:=eP k x.1
  generalize enc k x.1=l at hl ⊢
  rw [List.getElem?_append_right (by omega),hl,Nat.add_sub_cancel_left,show n+(c+1)=n+1+c by omega]
  exact ih
 | .own ok::r,0,n,x,h=>by simp [az,lQ]
 | .own ok::r,c+1,n,x,h=>by
  simp only [az,lQ]
  rw [Nat.add_comm 1,List.getElem?_cons_succ,show n+(c+1)=n+1+c by omega]
  exact lY r c (n+1) x.2 (by simpa [fq] using h)
theorem wE:∀(bs:List BK) (b:Nat) (is:List Nat) (n:Nat) (x:uQ bs) (ty:TypeId) (c:List CK) (bi:Nat),bs[b]? = some (.box ty c)→is[b]? = some bi→∃xb,(bi,.box ty (az c (n+16 * b) xb))∈bp bs is n x
 | [],b,is,n,x,_,_,bi,h,_=>by simp at h
 | b0::r,b,[],n,x,_,_,bi,_,h=>by simp at h
 | b0::r,0,i::is,n,x,ty,c,bi,h1,h2=>by
  simp only [List.getElem?_cons_zero,Option.some.injEq] at h1 h2
  subst h1;subst h2
  exact ⟨x.1,by simp only [bp,iE];exact List.mem_append_left _ List.mem_cons_self⟩
 | b0::r,b+1,i::is,n,x,ty,c,bi,h1,h2=>by
  obtain ⟨xb,h3⟩:=wE r b is (n+16) x.2 ty c bi (by simpa using h1) (by simpa using h2)
  refine ⟨xb,?_⟩
  simp only [bp]
  rw [show n+16 * (b+1)=n+16+16 * b by omega]
  exact List.mem_append_right _ h3
theorem lk{bs:List BK}{hh:Heap}{is:List Nat}{nb:Nat}{xb:uQ bs}(hl:is.length=bs.length)(Qu:∀e∈bp bs is nb xb,hh.get e.1=some e.2):∀(rs:List RK) (ids2:List Nat) (m:Nat) (y:kV rs),pn bs rs=true →
  (∀e∈aj rs m y,hh.get e.1=some e.2)→bG bs rs hh is (aO rs ids2 nb m y)=some y
 | [],ids2,m,y,_,_=>rfl
 | .val k::r,ids2,m,y,hk,hg=>by
  simp only [pn,List.all_cons,Bool.and_eq_true,By] at hk
  have h1:=K0 hh k y.1
  have h2:=lk hl Qu r ids2 (m+1) y.2 hk.2 hg
  have e:bG bs (.val k::r) hh is (aO (.val k::r) ids2 nb m y)=(match fm k hh (b8 k y.1),bG bs r hh is (aO r ids2 nb (m+1) y.2) with
   | some x,some y=>some ((x,y):k.T×kV r)
   | _,_=>none):=rfl
  rw [e]
  generalize fm k hh (b8 k y.1)=o1 at h1 ⊢
  generalize bG bs r hh is (aO r ids2 nb (m+1) y.2)=o2 at h2 ⊢
  subst h1;subst h2;rfl
 | .own ok::r,ids2,m,y,hk,hg=>by
  simp only [pn,List.all_cons,Bool.and_eq_true,By] at hk
  simp only [aj] at hg
  have h1:=vg (hg _ List.mem_cons_self)
  have h2:=lk hl Qu r ids2 (m+1) y.2 hk.2 (fun e he=>hg e (List.mem_cons_of_mem _ he))
  have e:bG bs (.own ok::r) hh is (aO (.own ok::r) ids2 nb m y)=(match dE hh ok (.bF m),bG bs r hh is (aO r ids2 nb (m+1) y.2) with
   | some x,some y=>some ((x,y):ok.T×kV r)
   | _,_=>none):=rfl
  rw [e]
  generalize dE hh ok (.bF m)=o1 at h1 ⊢
  generalize bG bs r hh is (aO r ids2 nb (m+1) y.2)=o2 at h2 ⊢
  subst h1;subst h2;rfl
 | .dZ b alts::r,ids2,m,y,hk,hg=>by
  simp only [pn,List.all_cons,Bool.and_eq_true,By] at hk
  have h2:=lk hl Qu r ids2 (m+1) y.2 hk.2 hg
  have h1:mn bs hh is b alts (th b nb alts y.1)=some y.1:=by
   cases hy:y.1 with
   | none=>rfl
   | some p =>
    obtain ⟨al,i⟩:=p
    have h3:=hk.1
    split at h3
    ·rename_i bk WH
     have aG:=(List.getElem?_eq_some_iff.1 WH).1
     have K1:is[b]? = some (is[b]'(by omega)):=List.getElem?_eq_getElem (by omega)
     rw [Bool.and_eq_true,decide_eq_true_eq] at h3
     obtain ⟨h3,EJ⟩:=h3
     have WI:∀a:Fin alts.length,fq bk.c8 (alts.get a).1=true:=fun a=>List.all_eq_true.1 h3 _ (List.get_mem alts a)
     cases bk with
     | own ok=>have:=WI al;simp [BK.c8,fq] at this
     | box ty c0 =>
      obtain ⟨xb',h4⟩:=wE bs b is nb xb ty c0 _ WH K1
      have h5:=Qu _ h4
      simp only [BK.c8] at WI
      simp only [mn,th,WH,K1,h5,BK.c8]
      have key:(List.finRange alts.length).find? (fun a=>wg c0 (az c0 (nb+16 * b) xb') (nb+16 * b+(alts.get al).1) (alts.get al).2.1 (alts.get al).2.2 (alts.get a))=some al:=by
       cases hf:(List.finRange alts.length).find? (fun a=>wg c0 (az c0 (nb+16 * b) xb') (nb+16 * b+(alts.get al).1) (alts.get al).2.1 (alts.get al).2.2 (alts.get a)) with
       | none =>
        have:=List.find?_eq_none.1 hf al (List.mem_finRange al)
        exfalso
        apply this
        simp only [wg,Bool.and_eq_true,decide_eq_true_eq]
        refine ⟨?_,trivial,trivial,WI al⟩
        rw [lY c0 _ _ xb' (WI al)]
        simp [ME]
       | some a' =>
        have hf':=List.find?_some hf
        obtain ⟨h6,_,h7,_⟩:=ze hf'
        rw [lY c0 _ _ xb' (WI a')] at h6
        simp only [Option.some.injEq,AV.bF.injEq] at h6
        have h8:(alts.get a').1=(alts.get al).1:=by omega
        congr 1
        have mw:∀a:Fin alts.length,(alts.map fun a=>(a.1,a.2.2))[a.val]? = some ((alts.get a).1,(alts.get a).2.2):=fun a=>by
         rw [List.getElem?_map,List.getElem?_eq_getElem a.isLt];rfl
        have e1:=mw a'
        have e2:=mw al
        rw [h8,←h7] at e1
        exact Fin.ext ((List.getElem?_inj (by simp) EJ).1 (e1.trans e2.symm))
      rw [key]
      rfl
    ·cases h3
  have e:bG bs (.dZ b alts::r) hh is (aO (.dZ b alts::r) ids2 nb m y)=(match mn bs hh is b alts (th b nb alts y.1),bG bs r hh is (aO r ids2 nb (m+1) y.2) with
   | some x,some y=>some ((x,y):Option (Fin alts.length×Nat)×kV r)
   | _,_=>none):=rfl
  rw [e]
  generalize mn bs hh is b alts (th b nb alts y.1)=o1 at h1 ⊢
  generalize bG bs r hh is (aO r ids2 nb (m+1) y.2)=o2 at h2 ⊢
  subst h1;subst h2;rfl
 | .agg c::r,ids2,m,y,hk,hg=>by
  simp only [pn,List.all_cons,Bool.and_eq_true,By] at hk
  simp only [aj] at hg
  have h1:=oa (hh:=hh) c m y.1 (fun e he=>hg e (List.mem_append_left _ he))
  have h2:=lk hl Qu r ids2 (m+1) y.2 hk.2 (fun e he=>hg e (List.mem_append_right _ he))
  have e:bG bs (.agg c::r) hh is (aO (.agg c::r) ids2 nb m y)=(match cE c hh (az c m y.1),bG bs r hh is (aO r ids2 nb (m+1) y.2) with
   | some x,some y=>some ((x,y):pe c×kV r)
   | _,_=>none):=rfl
  rw [e]
  generalize cE c hh (az c m y.1)=o1 at h1 ⊢
  generalize bG bs r hh is (aO r ids2 nb (m+1) y.2)=o2 at h2 ⊢
  subst h1;subst h2;rfl
end Go.Vs
namespace Go.Vs
variable {P:Program} {Z Z':Nat→Prop} {ψ ψ':Nat→Value} {h h':Hp} {w w':World} {B0:Nat} {O:Nat→Prop} {N:Nat→Prop}
def oc(g:aJ)(x:g.A):Hp:=(bp g.bs (aL g.bs.length) 2000 x.2).get
def jv(g:aJ)(y:g.B):Heap:=bp g.bs (aL g.bs.length) 2000 y.2++aj g.rs 3000 y.1
def DH(g:aJ)(x:g.A):List AV:=(aN g.ps (aL g.bs.length) 0 x.1).map (·.2)
def Cn(P:Program)(f:FuncId)(g:aJ)(x:g.A)(y:g.B):Prop :=
 ∀(Z:Nat→Prop) (ψ0:Nat→Value) (w:World) (jS:List Value),Good Z ψ0 (oc g x) w w.heap.size (Own ψ0 (oc g x))→an Z ψ0 (oc g x) w (DH g x) jS →
  Calls P (f % 1000) jS.toArray w fun e w'=>∃v Z' ψ',e=.returned v∧(∀b,Z b→Z' b)∧(∀b,Z' b→Z b∨Own ψ0 (oc g x) b∨w.heap.size≤b)∧cS ψ0 (oc g x) w w' ∧
   Good Z' ψ' (jv g y).get w' w.heap.size (Own ψ0 (oc g x))∧(∀i∈aL g.bs.length,ψ' i=ψ0 i)∧av Z' ψ' (jv g y).get w' (eE (aO g.rs (aL g.bs.length) 2000 3000 y.1)) v
theorem DI{ψ:Nat→Value}{b:Nat}:¬Own ψ fH b:=fun ⟨_,h,_⟩=>h rfl
theorem tK(ids:List Nat)(n:Nat)(x:uQ []):bp [] ids n x=[]:=by cases ids<;>rfl
theorem Cn.zero{f:FuncId}{g:aJ}{x:g.A}{y:g.B}(hb:g.bs=[])(c:Cn P f g x y):Wz P f g x y:=by
 obtain ⟨ps,bs,rs,_⟩:=g
 simp only at hb
 subst hb
 intro Z w jS hz hr
 have e0:oc ⟨ps,[],rs,_⟩ x=fH:=by unfold oc;rw [tK];rfl
 have e1:jv ⟨ps,[],rs,_⟩ y=aj rs 3000 y.1:=by unfold jv;rw [tK];rfl
 have hO:Own HI fH=fun _=>False:=funext fun b=>propext ⟨DI,False.elim⟩
 unfold Cn at c
 rw [e0,e1] at c
 refine (c Z HI w jS ⟨fun _ _ _ h=>(by cases h),fun _ _ _ h=>(by cases h),fun _ _ h=>absurd rfl h,fun _ _ _ h=>absurd rfl h,hz⟩ hr).mono fun e w' ⟨v,Z',ψ',h1,h2,h3,h4,h5,_,h6⟩ => ?_
 exact ⟨v,Z',ψ',h1,h2,fun b hb=>(h3 b hb).imp (fun h=>h) fun h=>h.resolve_left DI,h4,by rw [hO] at h5;exact h5,h6⟩
theorem Fg{bs:List BK}{hh:Heap}{x:uQ bs}(hd:cP bs hh []=some x):bs=[]:=by
 cases bs with
 | nil=>rfl
 | cons b r=>cases hd
variable {Eqs:TypeId→Option K} {Sg:FuncId→Option aJ} {F:(f:FuncId)→(g:aJ)→g.A→Option g.B}
theorem Fh{a b:List Nat}(h:b4 (a++b)=true):b4 a=true:=by
 induction a with
 | nil=>rfl
 | cons i r ih =>
  obtain ⟨h1,h2⟩:=lU h
  simp only [b4,Bool.and_eq_true,Bool.not_eq_true']
  refine ⟨?_,ih h2⟩
  cases hc:r.contains i with
  | false=>rfl
  | true=>exact absurd (List.mem_append_left _ (List.contains_iff_mem.1 hc)) h1
theorem Good.DJ(g:Good Z ψ h w B0 O)(B:Nat):Good Z ψ h w B (Own ψ h) :=
 ⟨g.box,g.row,fun id b h1 h2=>⟨(g.live id b h1 h2).1,.inr ⟨id,h1,h2⟩⟩,g.apart,g.jm⟩
theorem mW:∀(l:List Nat) (hh:Heap) (i:Nat),(gk hh l).get i=if i∈l then none else hh.get i
 | [],hh,i=>by simp [gk]
 | j::r,hh,i=>by
  simp only [gk]
  rw [mW r (hh.del j) i]
  by_cases h1:i∈r
  ·simp [h1]
  ·by_cases h2:i=j
   ·subst h2;simp [Heap.fS]
   ·rw [Heap.gW h2];simp [h1,h2]
theorem gy:∀(c8:List CK) (n:Nat) (x:pe c8),(aQ c8 n x).map (·.1)=cc c8 n
 | [],_,_=>rfl
 | .val k::r,n,x=>gy r (n+1) x.2
 | .own ok::r,n,x=>by simp only [aQ,cc,List.map_cons];rw [gy r (n+1) x.2]
theorem ll:∀(bs:List BK) (is:List Nat) (n:Nat) (x:uQ bs),is.length=bs.length→(bp bs is n x).map (·.1)=bV bs is n
 | [],is,n,x,_=>by cases is<;>rfl
 | b::r,[],n,x,hl=>by simp at hl
 | b::r,i::is,n,x,hl=>by
  simp only [bp,bV,List.map_append]
  rw [ll r is (n+16) x.2 (by simpa using hl),←List.cons_append]
  congr 1
  cases b with
  | box ty c=>simp only [iE,List.map_cons,BK.c8];rw [gy]
  | own ok=>simp [iE,BK.c8,cc]
theorem fe:∀(rs:List RK) (m:Nat) (y:kV rs),(aj rs m y).map (·.1)=bq rs m
 | [],_,_=>rfl
 | .own ok::r,m,y=>by simp only [aj,bq,List.map_cons];rw [fe r (m+1) y.2]
 | .val _::r,m,y=>fe r (m+1) y.2
 | .dZ _ _::r,m,y=>fe r (m+1) y.2
 | .agg c::r,m,y=>by
  have e1:(aQ c m y.1).map (·.1)=cc c m:=gy c m y.1
  simp only [aj,bq,List.map_append]
  rw [fe r (m+1) y.2]
  exact congrArg (·++_) e1
theorem od:∀(c8:List CK) (n:Nat) (x:pe c8),fi c8 (az c8 n x)=cc c8 n
 | [],_,_=>rfl
 | .val k::r,n,x=>by
  have h2:(az (.val k::r) n x).drop k.sz=az r (n+1) x.2:=by simp only [az];rw [←eP k x.1,List.drop_left]
  have e:fi (.val k::r) (az (.val k::r) n x)=fi r ((az (.val k::r) n x).drop k.sz):=by generalize az (.val k::r) n x=l;cases l<;>rfl
  rw [e,h2,od r (n+1) x.2];rfl
 | .own ok::r,n,x=>by simp only [az,fi,nL,cc,List.cons_append,List.nil_append];rw [od r (n+1) x.2]
theorem wF{hh:Heap}:∀(bs:List BK) (is:List Nat) (n:Nat) (x:uQ bs),is.length=bs.length→(∀e∈bp bs is n x,hh.get e.1=some e.2)→cQ bs hh is=bV bs is n
 | [],is,n,x,_,_=>by cases is<;>rfl
 | _::_,[],n,x,hl,_=>by simp at hl
 | b::r,i::is,n,x,hl,hg=>by
  simp only [bp] at hg
  simp only [cQ,bV]
  rw [wF r is (n+16) x.2 (by simpa using hl) (fun e he=>hg e (List.mem_append_right _ he)),←List.cons_append]
  congr 1
  cases b with
  | box ty c =>
   simp only [jI,BK.c8]
   rw [hg (i,.box ty (az c n x.1)) (List.mem_append_left _ (by simp only [iE];exact List.mem_cons_self))]
   simp only []
   rw [od]
  | own ok=>simp [jI,BK.c8,cc]
theorem jT:∀(rs:List RK) (ids:List Nat) (n m:Nat) (y:kV rs),dz rs (aO rs ids n m y)=bq rs m
 | [],_,_,_,_=>rfl
 | .own ok::r,ids,n,m,y=>by simp only [aO,dz,bq,nL,List.cons_append,List.nil_append];rw [jT r ids n (m+1) y.2]
 | .val _::r,ids,n,m,y=>by simp only [aO,dz,bq];exact jT r ids n (m+1) y.2
 | .dZ _ _::r,ids,n,m,y=>by simp only [aO,dz,bq];exact jT r ids n (m+1) y.2
 | .agg c::r,ids,n,m,y=>by
  have e1:fi c (az c m y.1)=cc c m:=od c m y.1
  simp only [aO,dz,bq,AV.cells]
  rw [jT r ids n (m+1) y.2]
  exact congrArg (·++_) e1
theorem ln:∀(rs:List RK) (ids:List Nat) (n m:Nat) (y:kV rs) (id:Nat),AV.bF id∉fD rs (aO rs ids n m y)
 | [],_,_,_,_,_=>by simp [aO,fD]
 | .own ok::r,ids,n,m,y,id=>by simp only [aO,fD];exact ln r ids n (m+1) y.2 id
 | .val k::r,ids,n,m,y,id=>by
  simp only [aO,fD,List.mem_append]
  rintro (h | h)
  ·have e:(b8 k y.1).cells=enc k y.1:=sM k y.1
   exact lj k y.1 id (e▸h)
  ·exact ln r ids n (m+1) y.2 id h
 | .dZ _ _::r,ids,n,m,y,id=>by simp only [aO,fD];exact ln r ids n (m+1) y.2 id
 | .agg c::r,ids,n,m,y,id=>by
  simp only [aO,fD,AV.cells,List.mem_append]
  rintro (h | h)
  ·exact xF (hh:=[]) c m y.1 id h
  ·exact ln r ids n (m+1) y.2 id h
theorem K2{gg:aJ}{x:gg.A}{y:gg.B}{M8:List Nat}{mL dM:Nat→Value}{id:Nat}(hl:M8.length=gg.bs.length)(TZ:pn gg.bs gg.rs=true)(tL:b4 (pf gg)=true)
  (zh:b4 (bV gg.bs M8 id++bq gg.rs (id+128))=true) (M9:Good Z' dM (jv gg y).get w' w.heap.size (Own mL (oc gg x)))
  {v:Value} (abq:av Z' dM (jv gg y).get w' (eE (aO gg.rs (aL gg.bs.length) 2000 3000 y.1)) v) :
  ∃L2:List wz,dn L2=bp gg.bs M8 id y.2++aj gg.rs (id+128) y.1∧L2.map (·.1)=bV gg.bs M8 id++bq gg.rs (id+128) ∧
   Good Z' (ed dM L2) (dn L2).get w' w.heap.size (Own mL (oc gg x))∧(∀p∈(aL gg.bs.length).zip M8,ed dM L2 p.2=dM p.1) ∧
   av Z' (ed dM L2) (dn L2).get w' (eE (aO gg.rs M8 id (id+128) y.1)) v:=by
 have hle:(aL gg.bs.length).length=gg.bs.length:=by simp [aL]
 have hn2:b4 ((jv gg y).map (·.1))=true:=by
  unfold jv
  rw [List.map_append,ll _ _ _ _ hle,fe];exact tL
 have Qu:∀e∈bp gg.bs (aL gg.bs.length) 2000 y.2,(jv gg y).get e.1=some e.2:=fun e he=>vh hn2 (by unfold jv;exact List.mem_append_left _ he)
 have hgr:∀e∈aj gg.rs 3000 y.1,(jv gg y).get e.1=some e.2:=fun e he=>vh hn2 (by unfold jv;exact List.mem_append_right _ he)
 have yS:=wD gg.bs _ 2000 y.2 hle Qu
 have Q0:=lk (xb:=y.2) hle Qu gg.rs (aL gg.bs.length) 3000 y.1 TZ hgr
 let vsC:=aO gg.rs (aL gg.bs.length) 2000 3000 y.1
 let L2:List wz:=cm gg.bs (jv gg y) (aL gg.bs.length) M8 id y.2++cv gg.rs vsC (id+128) y.1
 have eH:dn L2=bp gg.bs M8 id y.2++aj gg.rs (id+128) y.1:=by
  show dn (_++_)=_
  rw [lW,iH _ _ _ _ _ _ yS hl,fT]
 have eN:L2.map (·.1)=bV gg.bs M8 id++bq gg.rs (id+128):=by
  show (_++_:List wz).map _=_
  rw [List.map_append,gr _ _ _ _ _ _ yS hl,fb]
 have eS:L2.filterMap (·.2.1)=pf gg:=by
  show (_++_:List wz).filterMap _=_
  rw [List.filterMap_append,jQ _ _ _ _ _ _ yS hl,ic _ _ _ _ Q0,wF _ _ 2000 y.2 hle Qu,jT];rfl
 have hn:b4 (L2.map (·.1))=true:=by rw [eN];exact zh
 have iC:=xz (ψ:=dM) hn
 have g3:Good Z' (ed dM L2) (dn L2).get w' w.heap.size (Own mL (oc gg x)):=by
  refine M9.rename hn (by rw [eS];exact tL) fun e he => ?_
  rcases List.mem_append.1 he with he | he
  ·exact lf M9 (fun _ h=>h) gg.bs _ _ id y.2 yS (fun i b bO _ _=>(zg gg.bs _ 2000 y.2 i Qu bO).elim) (fun s _=>rfl) (fun e he=>iC e (List.mem_append_left _ he)) e he
  ·exact ju gg.rs vsC (id+128) y.1 Q0 (fun s _=>rfl) e he
 refine ⟨L2,eH,eN,g3,fun p hp => ?_,?_⟩
 ·obtain ⟨o,ho⟩:=jR (hh:=jv gg y) gg.bs (aL gg.bs.length) M8 id y.2 hle p hp
  exact ib hn (List.mem_append_left _ ho)
 ·refine sK (by rw [jK,jK]) (fun vs sw => ?_) abq
  exact qO (nb:=id) (is':=M8) M9 (fun _ h=>h) yS hl (fun e he=>iC e (List.mem_append_left _ he)) gg.rs vsC (id+128) y.1 vs Q0 (fun i b bO _ _=>(ln gg.rs _ _ _ y.1 i bO).elim) (fun e he=>iC e (List.mem_append_right _ he)) sw
theorem K3{hh:Heap}{kd:List AV}{kept:List Nat}{lK:Hp}{mL Na:Nat→Value}{H2:Heap}(g:Good Z ψ hh.get w B0 O)(hB:B0≤w.heap.size)(HJ:∀s∈kept,(cy hh kd).get s=hh.get s)
  (bg:∀i ty cs,hh.get i=some (.box ty cs)→aA (fun i=>¬N i) cs) (sy:∀b,Own mL lK b→∃s,s∈kept∧hh.get s≠none∧ob (ψ s)=some b)
  (hz:∀b,o8 Z ψ hh.get kd b→Z' b) (Mp:∀b,Z' b→o8 Z ψ hh.get kd b∨Own mL lK b∨w.heap.size≤b) (keep:cS mL lK w w') (g3:Good Z' Na H2.get w' w.heap.size (Own mL lK))
  (T0:∀i ty cs,H2.get i=some (.box ty cs)→aA (fun j=>H2.get j≠none) cs) (rm:∀i,H2.get i≠none→(i∈kept∧hh.get i≠none∧Na i=ψ i)∨N i) :
  ∃zi,(∀i,H2.get i≠none→zi i=Na i)∧Next Z ψ hh.get w B0 O N Z' zi (H2++gk (cy hh kd) kept).get w':=by
 classical
 let zi:Nat→Value:=fun i=>if H2.get i≠none then Na i else ψ i
 have h4:∀i,H2.get i≠none→zi i=Na i:=fun i hi=>if_pos hi
 have hg:∀i,(H2++gk (cy hh kd) kept).get i=(match H2.get i with | some o=>some o | none=>if i∈kept then none else (cy hh kd).get i):=fun i=>by rw [Heap.get_append,mW];cases H2.get i<;>rfl
 have BA:∀i,H2.get i≠none→(H2++gk (cy hh kd) kept).get i=H2.get i:=fun i hi=>by
  rw [hg];cases e:H2.get i with
  | none=>exact absurd e hi
  | some o=>rfl
 have wG:∀i,H2.get i=none→(H2++gk (cy hh kd) kept).get i≠none→i∉kept∧(H2++gk (cy hh kd) kept).get i=hh.get i∧(cy hh kd).get i=hh.get i∧zi i=ψ i∧hh.get i≠none:=fun i hi bh=>by
  rw [hg,hi] at bh ⊢
  simp only at bh ⊢
  by_cases hk:i∈kept
  ·rw [if_pos hk] at bh;exact absurd rfl bh
  ·rw [if_neg hk] at bh ⊢
   obtain ⟨o,ho⟩:=Option.ne_none_iff_exists'.1 bh
   have:=dO _ _ _ _ ho
   exact ⟨hk,by rw [ho,this],by rw [ho,this],if_neg (by simp [hi]),by rw [this];simp⟩
 have Q1:∀i b,i∉kept→hh.get i≠none→ob (ψ i)=some b→¬Own mL lK b:=fun i b hk hi hb ho=>by
  obtain ⟨s,h1,h2,h3⟩:=sy b ho
  exact hk ((g.apart i s b hi h2 hb h3)▸h1)
 have gd:Good (o8 Z ψ hh.get kd) ψ (cy hh kd).get w B0 O:=gX g kd
 have WJ:∀b,o8 Z ψ hh.get kd b→¬Own mL lK b:=fun b hb ho=>by
  obtain ⟨s,h1,h2,h3⟩:=sy b ho
  exact (gd.live s b (by rw [HJ s h1];exact h2) h3).1 hb
 have sm:cj (o8 Z ψ hh.get kd) w w':=fun b hb=>keep.block b (gd.jm b hb) (WJ b hb)
 have WK:∀i,(H2++gk (cy hh kd) kept).get i≠none→(hh.get i≠none∧zi i=ψ i)∨N i:=fun i hi=>by
  by_cases h2:H2.get i=none
  ·obtain ⟨_,_,_,h3,h5⟩:=wG i h2 hi
   exact .inl ⟨h5,h3⟩
  ·rcases rm i h2 with ⟨_,h3,h5⟩ | h3
   ·exact .inl ⟨h3,(h4 i h2).trans h5⟩
   ·exact .inr h3
 have kk:cS ψ hh.get w w':=⟨keep.os,keep.tape,keep.output,keep.size,fun b hb pN=>keep.block b hb fun ho=>by
  obtain ⟨s,_,h2,h3⟩:=sy b ho
  exact pN ⟨s,h2,h3⟩⟩
 refine ⟨zi,h4,fun b hb=>hz b (.inl hb),fun b hb => ?_,kk,WK,⟨fun i ty cs hb => ?_,fun i ok xs hb => ?_,fun i b h1 h2 => ?_,fun i i' b h1 h2 h3 h5 => ?_,g3.jm⟩⟩
 ·rcases Mp b hb with h1 | h1 | h1
  ·exact (h1.imp (fun h=>h) fun ⟨i,_,h2,h3⟩=>.inl ⟨i,h2,h3⟩)
  ·obtain ⟨s,_,h2,h3⟩:=sy b h1
   exact .inr (.inl ⟨s,h2,h3⟩)
  ·exact .inr (.inr h1)
 ·by_cases h2:H2.get i=none
  ·obtain ⟨h3,h5,h6,h7,h8⟩:=wG i h2 (by rw [hb];simp)
   rw [h5] at hb
   obtain ⟨gg,vs,e1,e2,e3,e4⟩:=gd.box i ty cs (by rw [h6];exact hb)
   have aG:=(Array.getElem?_eq_some_iff.1 e2).1
   refine ⟨gg,vs,by rw [h7,e1],?_,?_,e4⟩
   ·rw [keep.block gg aG (Q1 i gg h3 h8 (by rw [e1];rfl))];exact e2
   ·refine e3.move (p:=fun i=>¬N i) hz sm (fun j hp hj => ?_) (bg i ty cs hb)
    by_cases h9:H2.get j=none
    ·obtain ⟨_,_,mv,xc,HF⟩:=wG j h9 hj
     exact ⟨by rw [mv];exact HF,xc⟩
    ·rcases rm j h9 with ⟨mv,xc,HF⟩ | mv
     ·exact ⟨by rw [HJ j mv];exact xc,(h4 j h9).trans HF⟩
     ·exact absurd mv hp
  ·rw [BA i h2] at hb
   obtain ⟨gg,vs,e1,e2,e3,e4⟩:=g3.box i ty cs hb
   exact ⟨gg,vs,by rw [h4 i h2,e1],e2,e3.move (p:=fun j=>H2.get j≠none) (fun _ h=>h) (cj.refl _ _) (fun j hp _=>⟨hp,h4 j hp⟩) (T0 i ty cs hb),e4⟩
 ·by_cases h2:H2.get i=none
  ·obtain ⟨h3,h5,h6,h7,h8⟩:=wG i h2 (by rw [hb];simp)
   rw [h5] at hb
   rw [h7]
   exact (gd.row i ok xs (by rw [h6];exact hb)).kept hz sm fun gg KG=>keep.block gg (g.bL ⟨i,h8,KG⟩) (Q1 i gg h3 h8 KG)
  ·rw [BA i h2] at hb
   rw [h4 i h2]
   exact g3.row i ok xs hb
 ·by_cases h3:H2.get i=none
  ·obtain ⟨h5,h6,h7,h8,h9⟩:=wG i h3 h1
   rw [h8] at h2
   obtain ⟨mv,xc⟩:=gd.live i b (by rw [h7];exact h9) h2
   refine ⟨fun Wm => ?_,xc⟩
   rcases Mp b Wm with HF | HF | HF
   ·exact mv HF
   ·exact Q1 i b h5 h9 h2 HF
   ·have:=g.bL ⟨i,h9,h2⟩;omega
  ·rw [h4 i h3] at h2
   obtain ⟨h5,h6⟩:=g3.live i b h3 h2
   refine ⟨h5,?_⟩
   rcases h6 with h6 | h6
   ·exact .inl (by omega)
   ·obtain ⟨s,_,h7,h8⟩:=sy b h6
    exact (g.live s b h7 h8).2
 ·have wj:∀i i',H2.get i=none→H2.get i'≠none→(H2++gk (cy hh kd) kept).get i≠none→ob (zi i)=some b→ob (zi i')=some b→False:=fun i i' e1 e2 e3 e4 e5=>by
   obtain ⟨h6,_,_,h8,h9⟩:=wG i e1 e3
   rw [h8] at e4;rw [h4 i' e2] at e5
   rcases (g3.live i' b e2 e5).2 with mv | mv
   ·have:=g.bL ⟨i,h9,e4⟩;omega
   ·exact Q1 i b h6 h9 e4 mv
  by_cases e1:H2.get i=none<;>by_cases e2:H2.get i'=none
  ·obtain ⟨_,_,_,h8,h9⟩:=wG i e1 h1
   obtain ⟨_,_,_,h8',h9'⟩:=wG i' e2 h2
   rw [h8] at h3;rw [h8'] at h5
   exact g.apart i i' b h9 h9' h3 h5
  ·exact (wj i i' e1 e2 h1 h3 h5).elim
  ·exact (wj i' i e2 e1 h2 h5 h3).elim
  ·rw [h4 i e1] at h3;rw [h4 i' e2] at h5
   exact g3.apart i i' b e1 e2 h3 h5
theorem xG{i:Nat}{o:Ob}:∀{hh:Heap},(i,o)∈hh→hh.get i≠none
 | [],h=>by cases h
 | (j,o')::r,h=>by
  simp only [Heap.get]
  split
  ·simp
  ·rename_i hn
   rcases List.mem_cons.1 h with e | h
   ·cases e;exact absurd rfl hn
   ·exact xG h
theorem get_mem{i:Nat}{o:Ob}:∀{hh:Heap},hh.get i=some o→(i,o)∈hh
 | [],h=>by simp [Heap.get] at h
 | (j,o')::r,h=>by
  simp only [Heap.get] at h
  split at h
  ·rename_i e;subst e;cases h;exact List.mem_cons_self
  ·exact List.mem_cons_of_mem _ (get_mem h)
theorem og{p:Nat→Prop}:∀{a b:List AV},aA p a→aA p b→aA p (a++b)
 | [],b,_,h=>h
 | x::r,b,h,h'=>by simp only [List.cons_append,aA] at h ⊢;exact ⟨h.1,og h.2 h'⟩
theorem jL{p:Nat→Prop}:∀(c8:List CK) (n:Nat) (x:pe c8),(∀e∈aQ c8 n x,p e.1)→aA p (az c8 n x)
 | [],n,x,_=>by simp only [az,aA]
 | .val k::r,n,x,h=>by simp only [az];exact og (lh p k x.1) (jL r (n+1) x.2 h)
 | .own ok::r,n,x,h=>by
  simp only [aQ] at h
  simp only [az,aA,aH]
  exact ⟨h _ List.mem_cons_self,jL r (n+1) x.2 fun e he=>h e (List.mem_cons_of_mem _ he)⟩
theorem lZ:∀(c8:List CK) (n:Nat) (x:pe c8) (i:Nat) (ty:TypeId) (cs:List AV),(i,Ob.box ty cs)∉aQ c8 n x
 | [],_,_,_,_,_=>by simp [aQ]
 | .val k::r,n,x,i,ty,cs=>lZ r (n+1) x.2 i ty cs
 | .own _::r,n,x,i,ty,cs=>by
  simp only [aQ,List.mem_cons,not_or]
  exact ⟨by simp,lZ r (n+1) x.2 i ty cs⟩
theorem rM{p:Nat→Prop}:∀(bs:List BK) (is:List Nat) (n:Nat) (x:uQ bs),(∀e∈bp bs is n x,p e.1)→∀i ty cs,(i,Ob.box ty cs)∈bp bs is n x→aA p cs
 | [],is,n,x,_,i,ty,cs,h=>by cases is<;>simp [bp] at h
 | b::r,[],n,x,_,i,ty,cs,h=>by simp [bp] at h
 | b::r,i0::is,n,x,hp,i,ty,cs,h=>by
  simp only [bp] at h hp
  rcases List.mem_append.1 h with h | h
  ·cases b with
   | box ty0 c0 =>
    simp only [iE] at h hp
    rcases List.mem_cons.1 h with e | h
    ·cases e
     exact jL c0 n x.1 fun e he=>hp e (List.mem_append_left _ (List.mem_cons_of_mem _ he))
    ·exact absurd h (lZ _ _ _ _ _ _)
   | own ok=>simp [iE] at h
  ·exact rM r is (n+16) x.2 (fun e he=>hp e (List.mem_append_right _ he)) i ty cs h
theorem l6:∀(c8:List CK) (n i:Nat),i∈cc c8 n→n≤i∧i<n+c8.length
 | [],n,i,h=>by simp [cc] at h
 | .val k::r,n,i,h=>by
  have:=l6 r (n+1) i (by simpa [cc] using h)
  simp only [List.length_cons];omega
 | .own ok::r,n,i,h=>by
  simp only [cc] at h
  simp only [List.length_cons]
  rcases List.mem_cons.1 h with rfl | h
  ·omega
  ·have:=l6 r (n+1) i h;omega
theorem tM:∀(bs:List BK) (is:List Nat) (n i:Nat),(bs.all fun b=>decide (b.c8.length≤16))=true→i∈bV bs is n→i∈is∨(n≤i∧i<n+16 * bs.length)
 | [],is,n,i,_,h=>by cases is<;>simp [bV] at h
 | b::r,[],n,i,_,h=>by simp [bV] at h
 | b::r,i0::is,n,i,hc,h=>by
  simp only [List.all_cons,Bool.and_eq_true,decide_eq_true_eq] at hc
  simp only [bV] at h
  simp only [List.length_cons]
  rcases List.mem_cons.1 h with rfl | h
  ·exact .inl List.mem_cons_self
  ·rcases List.mem_append.1 h with h | h
   ·have:=l6 _ _ _ h;exact .inr (by omega)
   ·rcases tM r is (n+16) i hc.2 h with h1 | h1
    ·exact .inl (List.mem_cons_of_mem _ h1)
    ·exact .inr (by omega)
theorem iL{bs:List BK}:∀(rs:List RK) (m i:Nat),pn bs rs=true→i∈bq rs m→m≤i∧i<m+rs.length+16
 | [],m,i,_,h=>by simp [bq] at h
 | .own ok::r,m,i,hk,h=>by
  simp only [pn,List.all_cons,Bool.and_eq_true] at hk
  simp only [bq] at h
  simp only [List.length_cons]
  rcases List.mem_cons.1 h with rfl | h
  ·omega
  ·have:=iL r (m+1) i hk.2 h;omega
 | .val _::r,m,i,hk,h=>by
  simp only [pn,List.all_cons,Bool.and_eq_true] at hk
  have:=iL r (m+1) i hk.2 (by simpa [bq] using h)
  simp only [List.length_cons];omega
 | .dZ _ _::r,m,i,hk,h=>by
  simp only [pn,List.all_cons,Bool.and_eq_true] at hk
  have:=iL r (m+1) i hk.2 (by simpa [bq] using h)
  simp only [List.length_cons];omega
 | .agg c::r,m,i,hk,h=>by
  simp only [pn,List.all_cons,Bool.and_eq_true,By,decide_eq_true_eq] at hk
  simp only [bq] at h
  simp only [List.length_cons]
  rcases List.mem_append.1 h with h | h
  ·have:=l6 c m i h;omega
  ·have:=iL r (m+1) i hk.2 h;omega
theorem wH{hh:Heap}:∀(bs:List BK) (is:List Nat) (i:Nat),is.length=bs.length→i∈is→i∈cQ bs hh is
 | [],is,i,hl,h=>by cases is with
  | nil=>cases h
  | cons a r=>simp at hl
 | b::r,[],i,_,h=>by cases h
 | b::r,i0::is,i,hl,h=>by
  simp only [cQ]
  rcases List.mem_cons.1 h with rfl | h
  ·refine List.mem_append_left _ ?_
   cases b<;>simp [jI]
  ·exact List.mem_append_right _ (wH r is i (by simpa using hl) h)
theorem Nb{α β:Type}:∀{a:List α} {b:List β},a.length=b.length→∀x∈a,∃y,(x,y)∈a.zip b∧(y,x)∈b.zip a
 | [],b,_,x,h=>by cases h
 | a::r,[],hl,x,_=>by simp at hl
 | a::r,c::q,hl,x,h=>by
  simp only [List.zip_cons_cons]
  rcases List.mem_cons.1 h with rfl | h
  ·exact ⟨c,List.mem_cons_self,List.mem_cons_self⟩
  ·obtain ⟨y,h1,h2⟩:=Nb (a:=r) (b:=q) (by simpa using hl) x h
   exact ⟨y,List.mem_cons_of_mem _ h1,List.mem_cons_of_mem _ h2⟩
theorem sO:∀(c8:List CK) (n c:Nat),fq c8 c=true→n+c∈cc c8 n
 | [],n,c,h=>by simp [fq] at h
 | .own _::r,n,0,_=>by simp [cc]
 | .own _::r,n,c+1,h=>by
  simp only [fq] at h
  have:=sO r (n+1) c h
  simp only [cc]
  exact List.mem_cons_of_mem _ (by rwa [show n+(c+1)=n+1+c by omega])
 | .val _::r,n,0,h=>by simp [fq] at h
 | .val _::r,n,c+1,h=>by
  simp only [fq] at h
  have:=sO r (n+1) c h
  simp only [cc]
  rwa [show n+(c+1)=n+1+c by omega]
theorem wI:∀(bs:List BK) (is:List Nat) (n b i:Nat) (bk:BK),is.length=bs.length→bs[b]? = some bk→i∈cc bk.c8 (n+16 * b)→i∈bV bs is n
 | [],_,_,b,_,_,_,h,_=>by simp at h
 | _::_,[],_,_,_,_,hl,_,_=>by simp at hl
 | b0::r,i0::is,n,0,i,bk,hl,hb,hi=>by
  simp only [List.getElem?_cons_zero,Option.some.injEq] at hb
  subst hb
  simp only [bV]
  exact List.mem_cons_of_mem _ (List.mem_append_left _ (by simpa using hi))
 | b0::r,i0::is,n,b+1,i,bk,hl,hb,hi=>by
  simp only [List.getElem?_cons_succ] at hb
  simp only [bV]
  refine List.mem_cons_of_mem _ (List.mem_append_right _ (wI r is (n+16) b i bk (by simpa using hl) hb ?_))
  rwa [show n+16+16 * b=n+16 * (b+1) by omega]
theorem jU{p:Nat→Prop}{bs:List BK}{is:List Nat}(hl:is.length=bs.length):∀(rs:List RK) (ids:List Nat) (n m:Nat) (y:kV rs),pn bs rs=true→(∀i∈bq rs m,p i)→(∀i∈bV bs is n,p i)→aA p (aO rs ids n m y)
 | [],_,_,_,_,_,_,_=>by simp only [aO,aA]
 | .val k::r,ids,n,m,y,hr,h1,h2=>by
  simp only [pn,List.all_cons,Bool.and_eq_true,By] at hr
  simp only [aO,aA]
  exact ⟨mV p k y.1,jU hl r ids n (m+1) y.2 hr.2 (fun i hi=>h1 i hi) h2⟩
 | .own _::r,ids,n,m,y,hr,h1,h2=>by
  simp only [pn,List.all_cons,Bool.and_eq_true,By] at hr
  simp only [aO,aA,aH]
  exact ⟨h1 m (by simp [bq]),jU hl r ids n (m+1) y.2 hr.2 (fun i hi=>h1 i (by simp only [bq];exact List.mem_cons_of_mem _ hi)) h2⟩
 | .dZ b alts::r,ids,n,m,y,hr,h1,h2=>by
  simp only [pn,List.all_cons,Bool.and_eq_true,By] at hr
  simp only [aO,aA]
  refine ⟨?_,jU hl r ids n (m+1) y.2 hr.2 (fun i hi=>h1 i hi) h2⟩
  cases hy:y.1 with
  | none=>simp only [th,aH]
  | some p =>
   obtain ⟨al,i⟩:=p
   simp only [th,aH]
   cases hb:bs[b]? with
   | none=>rw [hb] at hr;exact absurd hr.1 (by simp)
   | some bk =>
    rw [hb] at hr
    simp only [Bool.and_eq_true] at hr
    exact h2 _ (wI bs is n b _ bk hl hb (sO bk.c8 (n+16 * b) _ (List.all_eq_true.1 hr.1.1 _ (List.get_mem alts al))))
 | .agg c::r,ids,n,m,y,hr,h1,h2=>by
  simp only [pn,List.all_cons,Bool.and_eq_true,By] at hr
  simp only [aO,aA,aH]
  refine ⟨jL c m y.1 fun e he=>h1 _ ?_,jU hl r ids n (m+1) y.2 hr.2 (fun i hi=>h1 i (by simp only [bq];exact List.mem_append_right _ hi)) h2⟩
  simp only [bq]
  have e1:(aQ c m y.1).map (·.1)=cc c m:=gy c m y.1
  exact List.mem_append_left _ (e1▸List.mem_map.2 ⟨e,he,rfl⟩)
theorem Ii{p:Nat→Prop}{vs:List AV}(h:aA p vs):aH p (eE vs):=by
 match vs,h with
 | [],h=>simp only [eE,aH];exact h
 | [v],h=>simp only [eE];simp only [aA] at h;exact h.1
 | _::_::_,h=>simp only [eE,aH];exact h
def gZ(P:Program)(f:FuncId)(u:Heap→Nat→List AV→Option (Bool×bE)):Prop :=
 ∀{Z:Nat→Prop} {ψ:Nat→Value} {h:Hp} {w:World} {B0:Nat} {O N:Nat→Prop} {hh:Heap} {id:Nat} {e:bE} {vs:List AV} {us:List Value},
  Good Z ψ h w B0 O→B0≤w.heap.size→(∀id o,hh.get id=some o→h id=some o)→(∀j,j<256→N (id+j))→(∀i ty cs,h i=some (.box ty cs)→aA (fun i=>¬N i) cs)→(∀v hw,e=.wr v hw→hh.get=h) →
  an Z ψ h w vs us→aA (fun i=>¬N i) vs→u hh id vs=some (true,e) →
  Calls P f us.toArray w fun en w'=>∃V Z' ψ',en=.returned V∧Next Z ψ h w B0 O N Z' ψ' (e.hp h) w'∧av Z' ψ' (e.hp h) w' e.v V
theorem Q2{R:Type}{n:Nat}(a:Fin n)(f:Fin n→Option R):Wj n a f=f a:=by
 have key:∀l:List (Fin n),a∈l→l.foldr (fun j r=>cond (a.val==j.val) (f j) r) none=f a:=by
  intro l
  induction l with
  | nil=>intro h;cases h
  | cons j r ih =>
   intro h
   simp only [List.foldr_cons]
   by_cases e:a=j
   ·subst e;simp
   ·have:(a.val==j.val)=false:=by simp only [beq_eq_false_iff_ne,ne_eq];exact fun h=>e (Fin.ext h)
    rw [this,cond_false]
    rcases List.mem_cons.1 h with h | h
    ·exact absurd h e
    ·exact ih h
 exact key _ (List.mem_finRange a)
theorem ig{R:Type}:∀(rs:List RK) (x:kV rs) (K:kV rs→Option R),jk rs x K=K x
 | [],_,_=>rfl
 | .val _::r,x,K=>by simp only [jk];rw [ig r x.2];rfl
 | .own _::r,x,K=>by simp only [jk];rw [ig r x.2];rfl
 | .agg _::r,x,K=>by simp only [jk];rw [ig r x.2];rfl
 | .dZ _ alts::r,x,K=>by
  simp only [jk]
  obtain ⟨x1,x2⟩:=x
  cases x1 with
  | none=>simp only [po];rw [ig r x2]
  | some p=>simp only [po];rw [Q2,ig r x2]
theorem Ij(hX:∀f g u,Sg f=some g→g.x=some u→gZ P (f % 1000) u)(hF:∀f g x y,Sg f=some g→F f g x=some y→Cn P f g x y)(K4:∀f g,Sg f=some g→iJ P (f % 1000))
  {hh:Heap} {ρC:Operand→Value} {o:Oper} (g:Good Z ψ h w B0 O) (hB:B0≤w.heap.size) (br:∀id o,hh.get id=some o→h id=some o) {id:Nat} (hN:∀j,j<256→N (id+j)) {e:bE}
  (bg:∀i ty cs,h i=some (.box ty cs)→aA (fun i=>¬N i) cs) (lS:∀v hw,e=.wr v hw→hh.get=h) {f:FuncId} {cap vs:List AV} {fv:Value} {us:List Value}
  (Q3:av Z ψ h w (.fn f cap) fv) (sw:an Z ψ h w vs us) (DE:aA (fun i=>¬N i) (vs++cap)) (hex:∀(ws:Array Value),fv=.func (.func f) #[] ws→execOp ρC o=callFunc f (us.toArray++ws))
  (he:iF Sg F hh id f (vs++cap) some=some e):SF P ρC o Z ψ h w B0 O N e:=by
 unfold iF at he
 split at he
 ·cases he
 rename_i gg hSg
 simp only [av] at Q3
 obtain ⟨ws,rfl,T1⟩:=Q3
 have Co:=K4 _ _ hSg
 have kt:an Z ψ h w (vs++cap) (us++ws.toList):=an.append sw T1
 have DK:an Z ψ hh.get w (vs++cap) (us++ws.toList):=kt.oW br
 have gs:Good Z ψ hh.get w B0 O:=g.sub br
 have Nc:us.toArray++ws=(us++ws.toList).toArray:=by simp
 split at he
 ·rename_i u hu
  split at he
  ·rename_i hf
   obtain ⟨⟨b,e'⟩,WL,Qo⟩:=Option.bind_eq_some_iff.1 he
   cases b with
   | false=>cases Qo
   | true =>
   cases Qo
   have Fi:keyOf Sg f (vs++cap) % 1000=f:=by rw [vd];exact Nat.mod_eq_of_lt hf
   have hx:gZ P f u:=by rw [←Fi];exact hX _ _ _ hSg hu
   rw [Fi] at Co
   refine ⟨f,us.toArray++ws,by rw [hex ws rfl];exact iK Co _,?_⟩
   rw [Nc]
   exact hx g hB br hN bg lS kt DE WL
  ·cases he
 split at he
 ·rename_i i0 rm DL
  split at he
  ·rename_i K5
   simp only [Bool.and_eq_true,List.isEmpty_iff] at K5
   obtain ⟨rfl,_⟩:=K5
   split at he
   rotate_left
   ·cases he
   rename_i x b hx hb pO
   obtain ⟨y,hy,he⟩:=Option.bind_eq_some_iff.1 he
   simp only [MF,Bool.and_eq_true,decide_eq_true_eq] at DL
   obtain ⟨_,_,⟨hlen,hf⟩,_⟩:=DL
   have BE:=(hF _ _ _ _ hSg hy).zero (Fg hb)
   have Fi:keyOf Sg f (vs++cap) % 1000=f:=by rw [vd];exact Nat.mod_eq_of_lt hf
   rw [Fi] at Co
   have hN':∀j,j<gg.rs.length+16→N (id+128+j):=fun j hj=>by rw [Nat.add_assoc];exact hN _ (by omega)
   refine ⟨f,us.toArray++ws,by rw [hex ws rfl];exact iK Co _,?_⟩
   rw [Nc]
   unfold Wz at BE
   rw [Fi] at BE
   by_cases pN:pj (vs++cap)=true
   ·rw [pN,Bool.or_true] at he
    cases he
    have h1:an Z HI fH w (Cj gg x) (us++ws.toList):=yZ gs (fun _ h=>h) gg.ps 0 _ _ x (fun v hv i b hi _ _=>(pP pN v hv i hi).elim) rm hx DK
    refine (BE Z w _ g.jm h1).mono fun en w' ⟨v,Z',ψ',e1,h2,h3,h4,h5,h6⟩ => ?_
    obtain ⟨sN,n,hr⟩:=ve (nb:=id) pO g hB bg hN' h4 h2 h3 h5 h6
    exact ⟨v,Z',sN,e1,n,hr⟩
   ·cases hfl:gg.rs.all RK.flat with
    | true =>
     rw [hfl,Bool.true_or] at he
     cases he
     let Zc:Nat→Prop:=fun b=>b<w.heap.size
     have h1:an Zc HI fH w (Cj gg x) (us++ws.toList):=yZ gs g.jm gg.ps 0 _ _ x (fun v hv i b hi h1 h2=>gs.bL ⟨i,h1,h2⟩) rm hx DK
     refine (BE Zc w _ (fun _ h=>h) h1).mono fun en w' ⟨v,Z',ψ',e1,h2,h3,h4,h5,h6⟩ => ?_
     have WM:=KX gg.rs 3000 y.1 hfl pO
     have h7:av Z ψ' (aj gg.rs 3000 y.1).get w' (eE (aO gg.rs [] 2000 3000 y.1)) v:=sK rfl (fun vs sw=>M5 gg.rs hfl pO sw) h6
     have gz:Good Z ψ' (aj gg.rs 3000 y.1).get w' w.heap.size (fun _=>False):=by
      rw [WM]
      exact ⟨fun _ _ _ hb=>by simp [Heap.get] at hb,fun _ _ _ hb=>by simp [Heap.get] at hb,fun _ _ hb=>by simp [Heap.get] at hb,fun _ _ _ hb=>by simp [Heap.get] at hb,fun b hb=>Nat.lt_of_lt_of_le (g.jm b hb) h4.size⟩
     obtain ⟨sN,n,hr⟩:=ve (nb:=id) pO g hB bg hN' h4 (fun _ h=>h) (fun _ h=>.inl h) gz h7
     exact ⟨v,Z,sN,e1,n,hr⟩
    | false =>
     rw [hfl,Bool.false_or,Bool.eq_false_iff.2 pN] at he
     cases he
     have heq:=lS _ _ rfl
     subst heq
     let cs:=c6 gg.ps (vs++cap)
     have QP:∀b,o8 Z ψ hh.get cs b→Z b∨Own ψ hh.get b:=fun b hb=>hb.imp (fun h=>h) (fun ⟨i,_,h2,h3⟩=>⟨i,h2,h3⟩)
     have gd:Good (o8 Z ψ hh.get cs) ψ (cy hh cs).get w B0 O:=gX g cs
     have h1:an (o8 Z ψ hh.get cs) HI fH w (Cj gg x) (us++ws.toList) :=
      yZ gs (fun _ h=>.inl h) gg.ps 0 _ _ x (fun v hv i b hi h1 h2=>.inr ⟨i,tJ _ _ rm v hv i hi,h1,h2⟩) rm hx DK
     refine (BE _ w _ gd.jm h1).mono fun en w' ⟨v,Z',ψ',e1,h2,h3,h4,h5,h6⟩ => ?_
     obtain ⟨sN,n,hr⟩:=ve (nb:=id) pO gd hB (fun i ty cs hb=>bg i ty cs (dO _ _ _ _ hb)) hN' h4 h2 h3 h5 h6
     have e2:(bE.wr (eE (aO gg.rs [] id (id+128) y.1)) (aj gg.rs (id+128) y.1++cy hh (c6 gg.ps (vs++cap)))).hp hh.get=(fun i=>match (aj gg.rs (id+128) y.1).get i with | some o=>some o | none=>(cy hh cs).get i):=by
      funext i
      simp only [bE.hp]
      rw [Heap.get_append]
      cases (aj gg.rs (id+128) y.1).get i<;>rfl
     rw [e2]
     exact ⟨v,Z',sN,e1,n.drop (fun _ h=>.inl h) QP (dO _ _),hr⟩
  ·split at he
   rotate_left
   ·cases he
   rename_i x b hx hb BF
   obtain ⟨y,hy,he⟩:=Option.bind_eq_some_iff.1 he
   rw [ig] at he
   cases he
   have heq:=lS _ _ rfl
   subst heq
   simp only [MF,Bool.and_eq_true,decide_eq_true_eq] at DL
   obtain ⟨TZ,⟨hbl,te⟩,⟨hlen,hf⟩,tL⟩:=DL
   rw [Bool.and_eq_true] at BF
   have BE:=hF _ _ _ _ hSg hy
   have Fi:keyOf Sg f (vs++cap) % 1000=f:=by rw [vd];exact Nat.mod_eq_of_lt hf
   rw [Fi] at Co
   refine ⟨f,us.toArray++ws,by rw [hex ws rfl];exact iK Co _,?_⟩
   rw [Nc]
   unfold Cn at BE
   rw [Fi] at BE
   have hl:i0.length=gg.bs.length:=(iI _ _ _ hb).1
   have zj:=(iI _ _ _ hb).2
   have hle:(aL gg.bs.length).length=gg.bs.length:=by simp [aL]
   let kd:=c6 gg.ps (vs++cap)++fC gg.bs hh i0
   let L1:List wz:=cm gg.bs hh i0 (aL gg.bs.length) 2000 b
   have eH1:dn L1=bp gg.bs (aL gg.bs.length) 2000 b:=iH _ _ _ _ _ _ hb hle
   have eN1:L1.map (·.1)=bV gg.bs (aL gg.bs.length) 2000:=gr _ _ _ _ _ _ hb hle
   have eS1:L1.filterMap (·.2.1)=cQ gg.bs hh i0:=jQ _ _ _ _ _ _ hb hle
   have WN:b4 (L1.map (·.1))=true:=by rw [eN1];exact Fh tL
   have TV:=xz (ψ:=ψ) WN
   have HJ:=(qN BF.1).2 hh
   have rG:∀b,Z b→o8 Z ψ hh.get kd b:=fun b hb=>.inl hb
   have WO:∀e∈L1,tH (o8 Z ψ hh.get kd) ψ (cy hh kd).get w (dn L1).get (ed ψ L1) e:=fun e he =>
    lf gs rG gg.bs _ _ 2000 b hb (fun i b bO h1 h2=>.inr ⟨i,List.mem_append_right _ bO,h1,h2⟩) HJ TV e he
   have gin:Good (o8 Z ψ hh.get kd) (ed ψ L1) (dn L1).get w B0 O:=vc gs BF.1 WN eS1 WO
   have ein:(dn L1).get=oc gg (x,b):=by rw [eH1];rfl
   have Nd:∀p∈i0.zip (aL gg.bs.length),(p.2,some p.1)∈L1.map (fun e=>(e.1,e.2.1)):=fun p hp=>by
    obtain ⟨o,ho⟩:=jR (hh:=hh) gg.bs i0 (aL gg.bs.length) 2000 b hl p hp
    exact List.mem_map.2 ⟨_,ho,rfl⟩
   have WQ:∀p∈i0.zip (aL gg.bs.length),ed ψ L1 p.2=ψ p.1:=fun p hp=>by
    obtain ⟨⟨i,s,o⟩,ho,he⟩:=List.mem_map.1 (Nd p hp)
    cases he
    exact ib WN ho
   have T2:an (o8 Z ψ hh.get kd) (ed ψ L1) (dn L1).get w (DH gg (x,b)) (us++ws.toList) :=
    kK gs rG gg.ps i0 (aL gg.bs.length) 0 _ _ x (by rw [hle,hl]) rm hx (fun i b bO h1 h2=>.inr ⟨i,List.mem_append_left _ bO,h1,h2⟩)
     (fun p hp=>⟨zj _ (List.of_mem_zip hp).1,fun _=>WQ p hp⟩) DK
   have sy:∀c,Own (ed ψ L1) (oc gg (x,b)) c→∃s,s∈cQ gg.bs hh i0∧hh.get s≠none∧ob (ψ s)=some c:=fun c ⟨i,h1,h2⟩=>by
    rw [←ein] at h1
    obtain ⟨o,ho⟩:=Option.ne_none_iff_exists'.1 h1
    obtain ⟨s,hm⟩:=mU ho
    rw [ib WN hm] at h2
    cases s with
    | none=>simp [js,ob] at h2
    | some s =>
     have hs:s∈cQ gg.bs hh i0:=by rw [←eS1];exact List.mem_filterMap.2 ⟨_,hm,rfl⟩
     refine ⟨s,hs,?_,h2⟩
     have h3:=WO _ hm
     rw [←HJ s hs]
     cases o with
     | box ty cs=>obtain ⟨⟨cs0,h4⟩,_⟩:=h3;rw [h4];simp
     | own ok xs=>rw [show (cy hh kd).get s=some (.own ok xs) from h3];simp
   refine (BE (o8 Z ψ hh.get kd) (ed ψ L1) w (us++ws.toList) (by rw [←ein];exact gin.DJ _) (by rw [←ein];exact T2)).mono fun en w' ⟨v,Z',dM,e1,h2,h3,h4,h5,h6,h7⟩ => ?_
   obtain ⟨L2,WR,eN2,g3,Wr,T3⟩:=K2 (x:=(x,b)) (y:=y) (id:=id) hl TZ tL BF.2 h5 h7
   have T0:∀i ty cs,(dn L2).get i=some (.box ty cs)→aA (fun j=>(dn L2).get j≠none) cs:=fun i ty cs hg=>by
    have iM:=get_mem hg
    rw [WR] at iM
    rcases List.mem_append.1 iM with iM | iM
    ·exact rM gg.bs _ id y.2 (fun e he=>by rw [WR];exact xG (o:=e.2) (List.mem_append_left _ he)) i ty cs iM
    ·exfalso
     have:∀(rs:List RK) (m:Nat) (y:kV rs),(i,Ob.box ty cs)∉aj rs m y:=by
      intro rs
      induction rs with
      | nil=>intro m y;simp [aj]
      | cons r rs ih =>
       intro m y
       cases r with
       | agg c=>simp only [aj,List.mem_append,not_or];exact ⟨lZ _ _ _ _ _ _,ih (m+1) y.2⟩
       | val k=>exact ih (m+1) y.2
       | dZ _ _=>exact ih (m+1) y.2
       | own ok=>simp only [aj,List.mem_cons,not_or];exact ⟨by simp,ih (m+1) y.2⟩
     exact this _ _ _ iM
   have WS:∀i,(dn L2).get i≠none→(i∈cQ gg.bs hh i0∧hh.get i≠none∧ed dM L2 i=ψ i)∨N i:=fun i hi=>by
    obtain ⟨o,ho⟩:=Option.ne_none_iff_exists'.1 hi
    obtain ⟨s,hm⟩:=mU ho
    have iM:i∈bV gg.bs i0 id++bq gg.rs (id+128):=by rw [←eN2];exact List.mem_map.2 ⟨_,hm,rfl⟩
    have hNr:∀i,id≤i→i<id+256→N i:=fun i h1 h2=>by
     have:=hN (i - id) (by omega)
     rwa [show id+(i - id)=i by omega] at this
    rcases List.mem_append.1 iM with iM | iM
    ·rcases tM _ _ _ _ te iM with h8 | h8
     ·refine .inl ⟨wH _ _ _ hl h8,zj i h8,?_⟩
      obtain ⟨ee,h9,mv⟩:=Nb (by rw [hle,hl]) i h8
      rw [Wr (ee,i) mv]
      have xc:ee∈aL gg.bs.length:=(List.of_mem_zip mv).1
      rw [h6 ee xc]
      exact WQ (i,ee) h9
     ·exact .inr (hNr i h8.1 (by omega))
    ·have h8:=iL _ _ _ TZ iM
     exact .inr (hNr i (by omega) (by omega))
   obtain ⟨zi,h8,nx⟩:=K3 (N:=N) gs hB HJ bg sy h2 h3 h4 g3 T0 WS
   have eH3:(bE.wr (eE (aO gg.rs i0 id (id+128) y.1)) (bp gg.bs i0 id y.2++(aj gg.rs (id+128) y.1++gk (cy hh (c6 gg.ps (vs++cap)++fC gg.bs hh i0)) (cQ gg.bs hh i0)))).hp hh.get =
     (dn L2++gk (cy hh kd) (cQ gg.bs hh i0)).get:=by
    rw [WR,List.append_assoc];rfl
   rw [eH3]
   refine ⟨v,Z',zi,e1,nx,?_⟩
   refine T3.move (p:=fun j=>(dn L2).get j≠none) (fun _ h=>h) (cj.refl _ _) (fun j hp _=>⟨hp,h8 j hp⟩) ?_
   refine Ii (jU hl gg.rs _ id (id+128) y.1 TZ (fun i hi => ?_) fun i hi => ?_)
   ·rw [←fe gg.rs (id+128) y.1] at hi
    obtain ⟨e,he,rfl⟩:=List.mem_map.1 hi
    rw [WR];exact xG (o:=e.2) (List.mem_append_right _ he)
   ·rw [←ll gg.bs i0 id y.2 hl] at hi
    obtain ⟨e,he,rfl⟩:=List.mem_map.1 hi
    rw [WR];exact xG (o:=e.2) (List.mem_append_left _ he)
 ·cases he
end Go.Vs
namespace Go.Vs
variable {P:Program} {Eqs:TypeId→Option K} {Sg:FuncId→Option aJ} {F:(f:FuncId)→(g:aJ)→g.A→Option g.B} {R:Type} {k:bE→Option R}
theorem bM{c:Bool}{e:bE}:cond c (k e) none=(cond c (some e) none).bind k:=by cases c<;>rfl
theorem bH{c:Bool}{e:bE}:cond c none (k e)=(cond c none (some e)).bind k:=by cases c<;>rfl
theorem bI{c:Bool}{e e':bE}:cond c (k e) (k e')=(cond c (some e) (some e')).bind k:=by cases c<;>rfl
theorem bN{α:Type}(o:Option α)(f:α→Option R)(g:α→Option bE)(h:∀x,f x=(g x).bind k):o.bind f=(o.bind g).bind k:=by cases o with
 | none=>rfl
 | some x=>exact h x
theorem Ik{h:Heap}{id:Nat}{t:TypeId}{s x:AV}:mN P h id t s x k=(mN P h id t s x some).bind k:=by unfold mN;repeat' (first | rfl | exact bM | exact bH | exact bI | (refine bN _ _ _ (fun _ => ?_)) | split)
theorem K6{h:Heap}{t:TypeId}{s x:AV}:qw P h t s x k=(qw P h t s x some).bind k:=by unfold qw;repeat' (first | rfl | exact bM | exact bH | exact bI | (refine bN _ _ _ (fun _ => ?_)) | split)
theorem Ng{h:Heap}{t:TypeId}{s:AV}:kX P h t s k=(kX P h t s some).bind k:=by unfold kX;repeat' (first | rfl | exact bM | exact bH | exact bI | (refine bN _ _ _ (fun _ => ?_)) | split)
theorem BG{h:Heap}{t:TypeId}{s x:AV}:dh P h t s x k=(dh P h t s x some).bind k:=by unfold dh;repeat' (first | rfl | exact bM | exact bH | exact bI | (refine bN _ _ _ (fun _ => ?_)) | split)
theorem Nh{x:AV}{lo hi mx:Option AV}:ym x lo hi mx k=(ym x lo hi mx some).bind k:=by unfold ym;repeat' (first | rfl | exact bM | exact bH | exact bI | (refine bN _ _ _ (fun _ => ?_)) | split)
theorem K7{h:Heap}{sz:Nat}{x:AV}{lo hi mx:Option AV}:qx h sz x lo hi mx k=(qx h sz x lo hi mx some).bind k:=by unfold qx;repeat' (first | rfl | exact bM | exact bH | exact bI | (refine bN _ _ _ (fun _ => ?_)) | split)
theorem Q4{h:Heap}{x:AV}:B7 h x k=(B7 h x some).bind k:=by unfold B7;repeat' (first | rfl | exact bM | exact bH | exact bI | (refine bN _ _ _ (fun _ => ?_)) | split)
theorem Q5{op:BinOp}{t:TypeId}{x y:AV}:we P Eqs op t x y k=(we P Eqs op t x y some).bind k:=by unfold we;repeat' (first | rfl | exact bM | exact bH | exact bI | (refine bN _ _ _ (fun _ => ?_)) | split)
theorem Fj(rs:List RK)(x:kV rs)(f:kV rs→Option R)(g:kV rs→Option bE)(h:∀z,f z=(g z).bind k):jk rs x f=(jk rs x g).bind k:=by rw [ig,ig];exact h x
theorem Ni{h:Heap}{id:Nat}{f:FuncId}{vs:List AV}:iF Sg F h id f vs k=(iF Sg F h id f vs some).bind k:=by unfold iF;repeat' (first | rfl | exact bM | exact bH | exact bI | (refine bN _ _ _ (fun _ => ?_)) | (refine Fj _ _ _ _ (fun _ => ?_)) | split)
theorem Nj{id:Nat}{t:TypeId}{vs:List AV}:uV id t vs k=(uV id t vs some).bind k:=rfl
theorem K8{t:TypeId}{ps:List (Nat×AV)}:qA P t ps k=(qA P t ps some).bind k:=by unfold qA;repeat' (first | rfl | exact bM | exact bH | exact bI | (refine bN _ _ _ (fun _ => ?_)) | split)
theorem DM{h:Heap}{id:Nat}{t:TypeId}{n:Nat}{ps:List (Nat×AV)}:ti P h id t n ps k=(ti P h id t n ps some).bind k:=by unfold ti;repeat' (first | rfl | exact bM | exact bH | exact bI | (refine bN _ _ _ (fun _ => ?_)) | split)
theorem Nk{kd:Bool}{h:Heap}{id:Nat}{t:TypeId}{n:Nat}{ps:List (Nat×AV)}:uW P kd h id t n ps k=(uW P kd h id t n ps some).bind k:=by
 unfold uW
 rw [DM,DM (k:=fun e=>some (if kd then QJ e else e)),Option.bind_assoc]
 rfl
theorem Nl{s d:TypeId}{x:AV}:yv P s d x k=(yv P s d x some).bind k:=by unfold yv;repeat' (first | rfl | exact bM | exact bH | exact bI | (refine bN _ _ _ (fun _ => ?_)) | split)
theorem T4{b:Bool}{vs:List AV}:KE b vs k=(KE b vs some).bind k:=by unfold KE;repeat' (first | rfl | exact bM | exact bH | exact bI | (refine bN _ _ _ (fun _ => ?_)) | split)
theorem Nm{h:Heap}{x:AV}:uS h x k=(uS h x some).bind k:=by unfold uS;repeat' (first | rfl | exact bM | exact bH | exact bI | (refine bN _ _ _ (fun _ => ?_)) | split)
theorem Fk{id:Nat}{t:TypeId}:kJ P Eqs id t k=(kJ P Eqs id t some).bind k:=by unfold kJ;repeat' (first | rfl | exact bM | exact bH | exact bI | (refine bN _ _ _ (fun _ => ?_)) | split)
theorem Il{h:Heap}{t:TypeId}{m i:AV}{ok:Bool}:mO P Eqs h t m i ok k=(mO P Eqs h t m i ok some).bind k:=by unfold mO;repeat' (first | rfl | exact bM | exact bH | exact bI | (refine bN _ _ _ (fun _ => ?_)) | split)
theorem Im{h:Heap}{t:TypeId}{m i v:AV}:hZ P Eqs h t m i v k=(hZ P Eqs h t m i v some).bind k:=by unfold hZ;repeat' (first | rfl | exact bM | exact bH | exact bI | (refine bN _ _ _ (fun _ => ?_)) | split)
theorem Io{h:Heap}{t:TypeId}{m i:AV}:mP P Eqs h t m i k=(mP P Eqs h t m i some).bind k:=by unfold mP;repeat' (first | rfl | exact bM | exact bH | exact bI | (refine bN _ _ _ (fun _ => ?_)) | split)
theorem Ip{id:Nat}{t:TypeId}{x:AV}:mQ P id t x k=(mQ P id t x some).bind k:=by unfold mQ;repeat' (first | rfl | exact bM | exact bH | exact bI | (refine bN _ _ _ (fun _ => ?_)) | split)
theorem K9{h:Heap}{x:AV}:qy h x k=(qy h x some).bind k:=by unfold qy;repeat' (first | rfl | exact bM | exact bH | exact bI | (refine bN _ _ _ (fun _ => ?_)) | split)
theorem La{h:Heap}{x:AV}:qz h x k=(qz h x some).bind k:=by unfold qz;repeat' (first | rfl | exact bM | exact bH | exact bI | (refine bN _ _ _ (fun _ => ?_)) | split)
theorem kL{id:Nat}{h:Heap}{s:List (Nat×AV)}{o:Oper}:cI P Eqs Sg F id h s o k=(cI P Eqs Sg F id h s o some).bind k:=by
 obtain ⟨dst,op,type,pos,after,guard⟩:=o
 cases op<;>simp only [cI] <;>
  repeat' (first | rfl | exact Nk | exact Ik | exact K6 | exact Ng | exact BG | exact Nh | exact K7 | exact Q4 | exact Q5 | exact Ni | exact Nj | exact K8 | exact DM | exact Nl | exact T4 | exact Nm | exact Fk | exact Il | exact Im | exact Io | exact Ip | exact K9 | exact La | exact bM | (refine bN _ _ _ (fun _ => ?_)) | split)
theorem Lb{id:Nat}{h h':Heap}{s:List (Nat×AV)}{o:Oper}(hf:mo o.op=true):cI P Eqs Sg F id h s o k=cI P Eqs Sg F id h' s o k:=by
 obtain ⟨dst,op,type,pos,after,guard⟩:=o
 cases op<;>simp [mo] at hf<;>first | rfl | (rename_i u _ _;cases u<;>rfl)
theorem Q6{op:BinOp}{t:TypeId}{x y:AV}{e:bE}(he:we P Eqs op t x y some=some e):∃v,e=.val v:=by
 unfold we at he
 repeat' (first | (cases he;done) | exact ⟨_,(Option.some.inj he).symm⟩ | split at he)
 all_goals
  unfold cond at he
  split at he<;>first | (cases he;done) | exact ⟨_,(Option.some.inj he).symm⟩
theorem Fl{id:Nat}{h:Heap}{s:List (Nat×AV)}{o:Oper}{e:bE}(hf:mo o.op=true)(he:cI P Eqs Sg F id h s o some=some e):∃v,e=.val v:=by
 obtain ⟨dst,op,type,pos,after,guard⟩:=o
 cases op<;>simp only [mo] at hf<;>first | (cases hf;done) | skip
 case unOp u t x =>
  cases u<;>simp only [cI] at he<;>repeat' (first | (cases he;done) | exact ⟨_,(Option.some.inj he).symm⟩ | split at he)
 case makeFunc fn first cap =>
  cases fn<;>simp only [cI] at he<;>repeat' (first | (cases he;done) | exact ⟨_,(Option.some.inj he).symm⟩ | split at he)
 all_goals simp only [cI] at he
 case binOp=>exact Q6 he
 case build =>
  unfold qA at he
  repeat' (first | (cases he;done) | exact ⟨_,(Option.some.inj he).symm⟩ | split at he)
 all_goals
  repeat' (first | (cases he;done) | exact ⟨_,(Option.some.inj he).symm⟩ | split at he)
end Go.Vs
namespace Go.Vs
variable {P:Program} {Eqs:TypeId→Option K} {Sg:FuncId→Option aJ} {F:(f:FuncId)→(g:aJ)→g.A→Option g.B} {R:Type}
variable {Z Z' Z0:Nat→Prop} {ψ ψ' ψ0:Nat→Value} {h h':Hp} {w w' w0:World} {B0:Nat} {O N:Nat→Prop}
structure Env(P:Program)(Eqs:TypeId→Option K)(Sg:FuncId→Option aJ)(F:(f:FuncId)→(g:aJ)→g.A→Option g.B):Prop where
 eqs:∀t k,Eqs t=some k→k0 P t k
 con:∀f g x y,Sg f=some g→F f g x=some y→Cn P f g x y
 spec:∀f g u,Sg f=some g→g.x=some u→gZ P (f % 1000) u
 Fm:∀f g,Sg f=some g→iJ P (f % 1000)
theorem Fp{s:List (Nat×AV)}{ρC:Operand→Value}:∀(l:List Operand),(∀x∈l,av Z ψ h w (ρ s x) (ρC x))→an Z ψ h w (l.map (ρ s)) (l.map ρC)
 | [],_=>by simp [an]
 | x::r,hx=>by
  simp only [List.map_cons,an]
  exact ⟨_,_,rfl,hx x List.mem_cons_self,Fp r fun y hy=>hx y (List.mem_cons_of_mem _ hy)⟩
theorem Cp{s:List (Nat×AV)}{p:Nat→Prop}:∀(l:List Operand),(∀x∈l,aH p (ρ s x))→aA p (l.map (ρ s))
 | [],_=>by simp [aA]
 | x::r,hx=>by
  simp only [List.map_cons,aA]
  exact ⟨hx x List.mem_cons_self,Cp r fun y hy=>hx y (List.mem_cons_of_mem _ hy)⟩
theorem SI(E:Env P Eqs Sg F){hh:Heap}{a:Act}{s:List (Nat×AV)}{o:Oper}(g:Good Z ψ h w B0 O)(hB:B0≤w.heap.size)(br:∀id o,hh.get id=some o→h id=some o){id:Nat}(hN:makes o.op=true→∀j,j<256→N (id+j)){e:bE}
  (mK:∀x∈o.op.operands,av Z ψ h w (ρ s x) (a.eval x)) (hm:∀x∈o.op.operands,aH (fun i=>¬N i) (ρ s x)) (bg:∀i ty cs,h i=some (.box ty cs)→aA (fun i=>¬N i) cs) (lS:∀v hw,e=.wr v hw→hh.get=h)
  (he:cI P Eqs Sg F id hh s o some=some e) {next:Act→World→Prop} {Q:Exit→Act→World→Prop}
  (hk:∀V w' Z' ψ',Next Z ψ h w B0 O N Z' ψ' (e.hp h) w'→av Z' ψ' (e.hp h) w' e.v V→next (a.put o.dst V) w'):o.wp P a w next Q:=by
 have d:gq P a.eval o Z ψ h w B0 O N e∨SF P a.eval o Z ψ h w B0 O N e:=by
  cases HH:tG o with
  | false=>exact .inl (M0 E.eqs g hB br (fun hm=>by simpa using hN hm 0 (by decide)) mK hm bg lS HH he)
  | true =>
   refine .inr ?_
   obtain ⟨dst,op,type,pos,after,guard⟩:=o
   cases op<;>simp [tG] at HH
   rename_i c
   obtain ⟨callee,args,argTypes⟩:=c
   cases callee<;>simp at HH
   rename_i fo
   simp only [cI] at he
   split at he
   ·rename_i f cap hf
    simp only [Op.operands,Call.operands] at mK
    have h1:=mK fo (by simp)
    rw [hf] at h1
    have h2:an Z ψ h w (args.toList.map (ρ s)) (args.toList.map a.eval):=Fp _ fun x hx=>mK x (by simp;exact .inr (by simpa using hx))
    have hmf:=hm fo (by simp [Op.operands,Call.operands])
    rw [hf] at hmf
    simp only [aH] at hmf
    have hma:aA (fun i=>¬N i) (args.toList.map (ρ s)):=Cp _ fun x hx=>hm x (by simp [Op.operands,Call.operands];exact .inr (by simpa using hx))
    refine Ij E.spec E.con E.Fm g hB br (hN rfl) bg lS h1 h2 (og hma hmf) (fun ws T1 => ?_) he
    simp only [execOp,resolve,T1,Deferred.ofValue]
    simp only [pure_bind,invoke]
    congr 1
    apply Array.ext'
    simp
   ·cases he
 unfold Oper.wp
 rcases d with ⟨V,w',Z',ψ',h1,h2,h3⟩ | ⟨f,args,h1,h2⟩
 ·rcases h1 with h1 | ⟨h1,rfl⟩
  ·rw [h1];exact hk V w' Z' ψ' h2 h3
  ·rw [h1];exact hk undef w' Z' ψ' h2 h3
 ·rw [h1,Oper.upon_enter]
  refine h2.mono fun en w' ⟨V,Z',ψ',e1,n,hr⟩ => ?_
  subst e1
  exact hk V w' Z' ψ' n hr
structure Ok(Z0:Nat→Prop)(w0:World)(O:Nat→Prop)(ψ0:Nat→Value)(Z:Nat→Prop)(ψ:Nat→Value)(h:Hp)(w:World):Prop where
 dD:Good Z ψ h w w0.heap.size O
 fj:∀b,Z0 b→Z b
 dU:∀b,Z b→Z0 b∨O b∨w0.heap.size≤b
 os:w.os=w0.os
 tape:w.tape=w0.tape
 output:w.output=w0.output
 size:w0.heap.size≤w.heap.size
 block:∀b,b<w0.heap.size→¬O b→w.heap[b]? = w0.heap[b]?
 fix:∀i,i<2000→h i≠none→ψ i=ψ0 i
theorem Ok.next(k:Ok Z0 w0 O ψ0 Z ψ h w)(hN:∀id,N id→2000≤id)(n:Next Z ψ h w w0.heap.size O N Z' ψ' h' w'):Ok Z0 w0 O ψ0 Z' ψ' h' w':=by
 have own:∀b,Own ψ h b→w0.heap.size≤b∨O b:=fun b ⟨id,h1,h2⟩=>(k.dD.live id b h1 h2).2
 refine ⟨n.dD,fun b hb=>n.fj b (k.fj b hb),fun b hb => ?_,n.keep.os.trans k.os,n.keep.tape.trans k.tape,n.keep.output.trans k.output,Nat.le_trans k.size n.keep.size,fun b hb ho => ?_,fun i hi bh => ?_⟩
 ·rcases n.dU b hb with h1 | h1 | h1
  ·exact k.dU b h1
  ·exact .inr (own b h1).symm
  ·exact .inr (.inr (Nat.le_trans k.size h1))
 ·rw [n.keep.block b (Nat.lt_of_lt_of_le hb k.size) (fun h1=>(own b h1).elim (fun h2=>by omega) ho)]
  exact k.block b hb ho
 ·rcases n.ids i bh with ⟨h1,h2⟩ | h1
  ·rw [h2];exact k.fix i hi h1
  ·have:=hN i h1;omega
structure cK(Z:Nat→Prop)(ψ:Nat→Value)(h:Hp)(w:World)(n:Nat)(T:Nat→AV)(a:Act):Prop where
 rep:∀d,av Z ψ h w (T d) (a.tmps.getD d undef)
 size:a.tmps.size=n
 defers:a.defers=[]
theorem Lc:av Z ψ h w (.mJ []) undef:=by simp only [av,an];exact ⟨#[],rfl,rfl⟩
def iA(T:Nat→AV)(d:Option Tmp)(v:AV):Nat→AV:=match d with
 | some d=>dK T d v
 | none=>T
theorem gD(st:St)(d:Option Tmp)(v:AV):look (st.put d v).tmps=iA (look st.tmps) d v:=by
 cases d with
 | none=>rfl
 | some d =>
  funext i
  simp only [St.put,look,iA,dK]
  by_cases e:i=d
  ·subst e;simp
  ·rw [if_neg (fun x=>e x.symm),if_neg e]
theorem cY(st:St)(d:Option Tmp)(v:AV):(st.put d v).heap=st.heap:=by cases d<;>rfl
theorem Cq{T:List (Nat×AV)}{d:Nat}{v:AV}(hv:look T d=v):dK (look T) d v=look T:=by
 funext i
 unfold dK
 split
 ·rename_i e;subst e;exact hv.symm
 ·rfl
theorem gE{a:Act}{d:Nat}{v:Value}(hd:d<a.tmps.size)(i:Nat):(a.put (some d) v).tmps.getD i undef=if i=d then v else a.tmps.getD i undef:=by
 simp only [Act.put]
 by_cases e:i=d
 ·subst e;simp [hd]
 ·simp [e,Array.getElem?_setIfInBounds_ne (Ne.symm e)]
theorem ck(a:Act)(d:Option Tmp)(v:Value):(a.put d v).tmps.size=a.tmps.size:=by cases d<;>simp [Act.put]
theorem put_defers(a:Act)(d:Option Tmp)(v:Value):(a.put d v).defers=a.defers:=by cases d<;>rfl
theorem cK.put{n:Nat}{T:Nat→AV}{a:Act}{o:Oper}{x:AV}{V:Value}(t:cK Z ψ h w n T a)(hd:gS n o=true)(hx:av Z ψ h w x V):cK Z ψ h w n (iA T o.dst x) (a.put o.dst V):=by
 refine ⟨fun d => ?_,by rw [ck];exact t.size,by rw [put_defers];exact t.defers⟩
 unfold gS at hd
 split at hd
 ·rename_i d0 hd0
  rw [hd0]
  rw [gE (by rw [t.size];simpa using hd)]
  simp only [iA,dK]
  split
  ·exact hx
  ·exact t.rep d
 ·rename_i hd0
  rw [hd0];exact t.rep d
theorem cK.next{n:Nat}{T:Nat→AV}{a:Act}(t:cK Z ψ h w n T a)(g:Good Z ψ h w B0 O)(hn:Next Z ψ h w B0 O N Z' ψ' h' w')(hm:∀d,aH (fun i=>¬N i) (T d)):cK Z' ψ' h' w' n T a :=
 ⟨fun d=>hn.rep g (hm d) (t.rep d),t.size,t.defers⟩
theorem pS{n:Nat}{s:List (Nat×AV)}{a:Act}(t:cK Z ψ h w n (look s) a)(x:Operand):av Z ψ h w (ρ s x) (a.eval x):=by
 cases x with
 | tmp i=>exact t.rep i
 | const v=>exact E0 v
 | global g=>simp only [ρ,av]
 | func f=>simp only [ρ,av,an,Act.eval];exact ⟨#[],rfl,rfl⟩
theorem zk(p:Nat→Prop)(v:Value):aH p (sj v):=by
 cases v with
 | agg cs=>simp only [sj,aH];exact u7 p _
 | _=>simp only [sj];exact yY p _
theorem Ld{p:Nat→Prop}{s:List (Nat×AV)}(hm:∀d,aH p (look s d))(x:Operand):aH p (ρ s x):=by
 cases x with
 | tmp i=>exact hm i
 | const v=>exact zk p v
 | global g=>simp only [ρ,aH]
 | func f=>simp only [ρ,aH,aA]
def lL(rid:Nat)(S:Nat→Prop)(id:Nat):Prop:=id / 32768=rid+1→S (id / 256 % 128)
def Of(rid i id:Nat):Prop:=id / 256=(rid+1) * 128+i
theorem Of.parts{rid i id:Nat}(hi:i<128)(h:Of rid i id):id / 32768=rid+1∧id / 256 % 128=i:=by
 unfold Of at h
 constructor<;>omega
theorem Of.of{rid i id:Nat}(h:id / 32768=rid+1)(hi:id / 256 % 128=i):Of rid i id:=by
 unfold Of;omega
theorem JI{rid i j:Nat}(hj:j<256):Of rid i (opId rid i+j):=by
 unfold Of opId;omega
theorem Fq{rid i:Nat}:Of rid i (opId rid i):=by unfold Of opId;omega
theorem lL.zm{rid i id:Nat}{S:Nat→Prop}(hi:i<128)(hs:¬S i)(h:lL rid S id):¬Of rid i id:=fun ho=>by
 obtain ⟨h1,h2⟩:=ho.parts hi
 have:=h h1
 rw [h2] at this
 exact hs this
theorem mX{rid bits id:Nat}{S:Nat→Prop}(hb:∀j,bits.testBit j=true→S j)(h:py rid bits id=true):lL rid S id:=fun h1=>by
 unfold py at h
 simp only [Bool.or_eq_true,bne_iff_ne,ne_eq] at h
 exact hb _ (h.resolve_left (fun h2=>h2 h1))
mutual
theorem oi{rid bits:Nat}{S:Nat→Prop}(hb:∀j,bits.testBit j=true→S j):∀{v:AV},rz rid bits v=true→aH (lL rid S) v
 | .ref id s i off,h=>by simp only [rz] at h;simp only [aH];exact mX hb h
 | .bF id,h=>by simp only [rz] at h;simp only [aH];exact mX hb h
 | .fn f cap,h=>by simp only [rz] at h;simp only [aH];exact lp hb h
 | .agg cs,h=>by simp only [rz] at h;simp only [aH];exact lp hb h
 | .mJ cs,h=>by simp only [rz] at h;simp only [aH];exact lp hb h
 | .no,_=>by simp only [aH]
 | .bool _,_=>by simp only [aH]
 | .int _ _,_=>by simp only [aH]
 | .str _,_=>by simp only [aH]
 | .kU,_=>by simp only [aH]
 | .fB,_=>by simp only [aH]
 | .fp _ _ _,_=>by simp only [aH]
 | .sl _ _ _,_=>by simp only [aH]
 | .mp _ _ _,_=>by simp only [aH]
theorem lp{rid bits:Nat}{S:Nat→Prop}(hb:∀j,bits.testBit j=true→S j):∀{v:List AV},yx rid bits v=true→aA (lL rid S) v
 | [],_=>by simp only [aA]
 | v::r,h=>by
  simp only [yx,Bool.and_eq_true] at h
  simp only [aA]
  exact ⟨oi hb h.1,lp hb h.2⟩
end
theorem lq{rid bits:Nat}{S:Nat→Prop}(hb:∀j,bits.testBit j=true→S j):∀{hh:Heap},wh rid bits hh=true→∀id o,hh.get id=some o→lL rid S id∧∀ty cs,o=.box ty cs→aA (lL rid S) cs
 | [],_,id,o,hg=>by simp [Heap.get] at hg
 | (i,ob)::r,h,id,o,hg=>by
  simp only [Heap.get] at hg
  split at hg
  ·rename_i e
   subst e
   cases hg
   cases ob with
   | box ty cs =>
    simp only [wh,Bool.and_eq_true] at h
    exact ⟨mX hb h.1.1,fun w8 cs' he=>by cases he;exact lp hb h.1.2⟩
   | own ok xs =>
    simp only [wh,Bool.and_eq_true] at h
    exact ⟨mX hb h.1,fun w8 cs' he=>by cases he⟩
  ·refine lq hb ?_ id o hg
   cases ob<;>simp only [wh,Bool.and_eq_true] at h<;>exact h.2
def bE.heap(e:bE)(h:Heap):Heap:=match e with
 | .wr _ h'=>h'
 | e=>e.h h
theorem bE.Fs(e:bE)(hh:Heap):(e.heap hh).get=e.hp hh.get:=by
 cases e with
 | val v=>rfl
 | new v os=>funext i;simp only [bE.heap,bE.h,bE.hp];rw [Heap.get_append];cases Heap.get os i<;>rfl
 | wr v h'=>rfl
def rN(p:Nat→Prop)(h:Hp):Prop:=∀i ty cs,h i=some (.box ty cs)→aA p cs
theorem zn{ops:Array Oper}{o:Oper}{n:Nat}{T:Nat→AV}{a:Act}(t:cK Z ψ h w n T a){j d:Nat}{want:Bool}(hg:o.guard=some (j,want))(hd:(ops[j]?).bind (·.dst)=some d){b:Bool}(hb:T d=.bool b) :
  Region.wanted o (yielded ops a.tmps)=(b==want):=by
 have h1:=t.rep d
 rw [hb] at h1
 simp only [av] at h1
 have h2:a.tmps[d]? = some (.bool b):=by
  rw [Array.getD_eq_getD_getElem?] at h1
  cases e:a.tmps[d]? with
  | none=>rw [e] at h1;simp [undef] at h1
  | some v=>rw [e] at h1;simpa using h1
 unfold Region.wanted yielded
 rw [hg]
 simp only [hd,Option.bind_some,h2]
 cases b<;>cases want<;>rfl
theorem wJ{ops:Array Oper}{o:Oper}{n:Nat}{T:Nat→AV}{a:Act}(t:cK Z ψ h w n T a){j d:Nat}{want:Bool}(hg:o.guard=some (j,want))(hd:(ops[j]?).bind (·.dst)=some d){vs:List AV}(hb:T d=.mJ vs) :
  Region.wanted o (yielded ops a.tmps)=false:=by
 have h1:=t.rep d
 rw [hb] at h1
 simp only [av] at h1
 obtain ⟨us,h1,_⟩:=h1
 unfold Region.wanted yielded
 rw [hg]
 simp only [hd,Option.bind_some]
 rw [Array.getD_eq_getD_getElem?] at h1
 cases e:a.tmps[d]? with
 | none=>rfl
 | some v=>rw [e] at h1;simp at h1;subst h1;rfl
def zo(ops:Array Oper):Nat→List (Nat×Oper)→Prop
 | _,[]=>True
 | i,(j,o)::r=>j=i∧ops[i]? = some o∧zo ops (i+1) r
theorem Ft(ops:Array Oper):∀(l:List Oper) (i:Nat),(∀k o,l[k]? = some o→ops[i+k]? = some o)→zo ops i ((l.zipIdx i).map fun p=>(p.2,p.1))
 | [],_,_=>by simp [zo]
 | o::r,i,h=>by
  simp only [List.zipIdx_cons,List.map_cons,zo]
  exact ⟨trivial,h 0 o rfl,Ft ops r (i+1) fun k o' hk=>by rw [Nat.add_assoc,Nat.add_comm 1 k];exact h (k+1) o' hk⟩
theorem mY(ops:Array Oper):zo ops 0 (ops.toList.zipIdx.map fun p=>(p.2,p.1)):=Ft ops _ 0 fun k o hk=>by simpa using hk
theorem Cr(ops:Array Oper):(ops.toList.zipIdx.map fun p=>(p.2,p.1)).map Prod.fst=List.range ops.size:=by
 rw [List.map_map]
 have:(Prod.fst ∘ fun (p:Oper×Nat)=>(p.2,p.1))=Prod.snd:=rfl
 rw [this,List.zipIdx_map_snd,List.range_eq_range',Array.length_toList]
structure J(p:Nat→Prop)(n:Nat)(Z0:Nat→Prop)(w0:World)(O:Nat→Prop)(ψ0:Nat→Value)(Z:Nat→Prop)(ψ:Nat→Value)(T:Nat→AV)(h:Hp)(a:Act)(w:World):Prop where
 ok:Ok Z0 w0 O ψ0 Z ψ h w
 tr:cK Z ψ h w n T a
 tm:∀d,aH p (T d)
 hm:rN p h
theorem J.imp{p q:Nat→Prop}{n:Nat}{T:Nat→AV}{a:Act}(j:J p n Z0 w0 O ψ0 Z ψ T h a w)(yU:∀id,p id→q id):J q n Z0 w0 O ψ0 Z ψ T h a w :=
 ⟨j.ok,j.tr,fun d=>(j.tm d).imp yU,fun id ty cs hb=>(j.hm id ty cs hb).imp yU⟩
theorem J.op(E:Env P Eqs Sg F){rid n i:Nat}{p:Nat→Prop}{T:Nat→AV}{a:Act}{s:List (Nat×AV)}{o:Oper}(hS:makes o.op=true→∀id,p id→¬Of rid i id)(j:J p n Z0 w0 O ψ0 Z ψ T h a w)(hd:gS n o=true)
  (hT:∀x∈o.op.operands,av Z ψ h w (ρ s x) (a.eval x)) (hTm:∀x∈o.op.operands,aH p (ρ s x)) {hh:Heap} (br:∀id o,hh.get id=some o→h id=some o) {e:bE} (he:cI P Eqs Sg F (opId rid i) hh s o some=some e) (lS:∀v hw,e=.wr v hw→hh.get=h)
  {p':Nat→Prop} (Mv:∀k,p k→p' k) (hv:aH p' e.v) (T5:rN p' (e.hp h)) {next:Act→World→Prop} {Q:Exit→Act→World→Prop}
  (hk:∀a' w' Z' ψ',J p' n Z0 w0 O ψ0 Z' ψ' (iA T o.dst e.v) (e.hp h) a' w'→next a' w'):o.wp P a w next Q:=by
 have T6:∀id,p id→¬(makes o.op=true∧Of rid i id):=fun id h ⟨h1,h2⟩=>hS h1 id h h2
 refine SI (N:=fun id=>makes o.op=true∧Of rid i id) E j.ok.dD j.ok.size br (id:=opId rid i) (fun hm k hk=>⟨hm,JI hk⟩) hT (fun x hx=>(hTm x hx).imp T6) (fun id ty cs hb=>(j.hm id ty cs hb).imp T6) lS he fun V w' Z' ψ' nx hr => ?_
 refine hk _ w' Z' ψ' ⟨j.ok.next (fun id h=>by have:=h.2;unfold Of at this;omega) nx,(j.tr.next j.ok.dD nx (fun d=>(j.tm d).imp T6)).put hd hr,fun d => ?_,T5⟩
 cases kh:o.dst with
 | none=>exact (j.tm d).imp Mv
 | some d0 =>
  simp only [iA,dK]
  split
  ·exact hv
  ·exact (j.tm d).imp Mv
theorem J.skip{n:Nat}{p p':Nat→Prop}{T:Nat→AV}{a:Act}{o:Oper}(j:J p n Z0 w0 O ψ0 Z ψ T h a w)(hd:gS n o=true)(Mv:∀k,p k→p' k) :
  J p' n Z0 w0 O ψ0 Z ψ (iA T o.dst (.mJ [])) h (a.put o.dst undef) w:=by
 refine ⟨j.ok,j.tr.put hd Lc,fun d => ?_,fun id ty cs hb=>(j.hm id ty cs hb).imp Mv⟩
 cases kh:o.dst with
 | none=>exact (j.tm d).imp Mv
 | some d0 =>
  simp only [iA,dK]
  split
  ·simp only [aH,aA]
  ·exact (j.tm d).imp Mv
theorem Q7{hh:Heap}(g:Good Z ψ hh.get w B0 O){m:Nat}{kk vk:K}{es:List (kk.T×vk.T)}(hg:hh.get m=some (.own (.map kk vk) es))(n:Next Z ψ hh.get w B0 O N Z' ψ' h' w')(hzm:∀b,ob (ψ m)=some b→Z' b)
  (hold:∀b,b<w.heap.size→w'.heap[b]? = w.heap[b]?) {v:AV} {V:Value} (hm:aH (fun id=>¬N id) v) (hr:av Z ψ hh.get w v V):av Z' ψ' h' w' (ET m (.mp kk vk es) v) V:=by
 by_cases hv:v=.bF m
 ·subst hv
  simp only [ET,if_true]
  simp only [av] at hr
  have hu:=hr.2 (by rw [hg];simp)
  obtain ⟨r,bQ,clock,h1,h2,h3,_⟩:=g.row m (.map kk vk) es hg
  rw [h1] at hu
  subst hu
  have aG:=(Array.getElem?_eq_some_iff.1 h2).1
  simp only [av,aE]
  exact ⟨some r,rfl,.inr ⟨r,bQ,clock,rfl,hzm r (by rw [h1];rfl),(hold r aG).trans h2,h3.imp (fun _ _ h=>h.mono n.fj (fun b hb=>hold b (g.jm b hb))) (fun _ _ h=>h.mono n.fj (fun b hb=>hold b (g.jm b hb)))⟩⟩
 ·have hf:ET m (.mp kk vk es) v=v:=by
   unfold ET
   split
   ·split
    ·rename_i e;subst e;exact absurd rfl hv
    ·rfl
   ·rfl
  rw [hf]
  exact n.rep g hm hr
theorem Nn{p:Nat→Prop}{m:Nat}{kk vk:K}{es:List (kk.T×vk.T)}{v:AV}(hm:aH p v):aH p (ET m (.mp kk vk es) v):=by
 unfold ET
 split
 ·split
  ·simp only [aH]
  ·exact hm
 ·exact hm
theorem vj(f:AV→AV)(hf:f .no=.no):∀(l:List (Nat×AV)) (d:Nat),look (l.map fun p=>(p.1,f p.2)) d=f (look l d)
 | [],_=>by simp only [List.map_nil,look];exact hf.symm
 | (i,v)::r,d=>by
  simp only [List.map_cons,look]
  split
  ·rfl
  ·exact vj f hf r d
theorem Iq{rid n i:Nat}{p p':Nat→Prop}{st dS:St}{a:Act}{o:Oper}(hS:∀id,p id→¬Of rid i id)(Mv:∀k,p k→p' k)(M7:p' (opId rid i))(j:J p n Z0 w0 O ψ0 Z ψ (look st.tmps) st.heap.get a w)(hd:gS n o=true)(mZ:nN P (opId rid i) st o=some dS) :
  ∃V w' Z' ψ',(execOp a.eval o).run P w=.ok (.value V) w'∧J p' n Z0 w0 O ψ0 Z' ψ' (look dS.tmps) dS.heap.get (a.put o.dst V) w':=by
 unfold nN at mZ
 split at mZ
 ·rename_i t x DN
  split at mZ
  ·rename_i ka va m hu hx
   split at mZ
   ·rename_i kk vk es hg
    cases mZ
    have VO:av Z ψ st.heap.get w (.bF m) (a.eval x):=by rw [←hx];exact pS j.tr x
    simp only [av] at VO
    have hev:=VO.2 (by rw [hg];simp)
    have g:=j.ok.dD
    obtain ⟨r,bQ,clock,h1,h2,h3,h4,h5⟩:=g.row m (.map kk vk) es hg
    rw [h1] at hev
    have aG:=(Array.getElem?_eq_some_iff.1 h2).1
    have gd:=gX g [.bF m]
    have WT:∀b,ob (ψ m)=some b→o8 Z ψ st.heap.get [.bF m] b:=fun b hb=>.inr ⟨m,by simp,by rw [hg];simp,hb⟩
    have hold:∀b,b<w.heap.size→(w.alloc (.mapIter (some r) clock #[] clock)).heap[b]? = w.heap[b]? := fun b hb=>heap_alloc_old w _ hb
    have hN:(Of rid i) (opId rid i):=Fq
    have n1:=yR (N:=Of rid i) gd j.ok.size (opId rid i) hN (ok:=.iter kk vk) (x:=(none,es)) (v:=.pointer (some ⟨w.heap.size,0,none⟩)) (.mapIter (some r) clock #[] clock)
     ⟨w.heap.size,r,clock,#[],bQ,clock,rfl,heap_alloc_new _ _,WT r (by rw [h1];rfl),(hold r aG).trans h2,h4,rfl,h5,by
      rw [List.filter_eq_self.2 (fun e _=>by simp)]
      exact h3.imp (fun _ _ h=>h.mono (fun b hb=>.inl hb) (fun b hb=>hold b (g.jm b hb))) (fun _ _ h=>h.mono (fun b hb=>.inl hb) (fun b hb=>hold b (g.jm b hb))),trivial⟩ rfl
     (fun i' ty cs hb=>aA.imp (p:=p) (q:=fun i'=>i'≠opId rid i) (fun id hp e=>hS id hp (by rw [e];exact hN)) (j.hm i' ty cs (dO _ _ _ _ hb)))
    have n2:=n1.drop (Z:=Z) (h:=st.heap.get) (fun b hb=>.inl hb) (fun b hb=>hb.imp (fun h=>h) (fun ⟨id,_,h5,h6⟩=>⟨id,h5,h6⟩)) (dO _ _)
    have eV:(dK (cy st.heap [.bF m]).get (opId rid i) (some (Ob.own (.iter kk vk) (none,es))))=Heap.get ((opId rid i,.own (.iter kk vk) (none,es))::st.heap.del m):=by
     funext k
     simp only [cy,drop1,dK,Heap.get]
     by_cases e:k=opId rid i
     ·subst e;simp
     ·rw [if_neg e,if_neg (fun h=>e h.symm)]
    rw [eV] at n2
    refine ⟨.pointer (some ⟨w.heap.size,0,none⟩),w.alloc (.mapIter (some r) clock #[] clock),o8 Z ψ st.heap.get [.bF m],dK ψ (opId rid i) (.pointer (some ⟨w.heap.size,0,none⟩)),?_,?_⟩
    ·obtain ⟨dst,op,type,pos,after,guard⟩:=o
     simp only at DN
     subst DN
     have da:(Instr.range t (.map (some r))).run P w=.ok (.pointer (some ⟨w.heap.size,0,none⟩)) (w.alloc (.mapIter (some r) clock #[] clock)):=by
      simp only [Instr.range,Sem.run_bind,run_underlying hu,Result.andThen_ok,fG h2 (by simp),Sem.run_pure];rfl
     simp [execOp,hev,da]
    ·have bg:∀d,aH (fun id=>¬Of rid i id) (look st.tmps d):=fun d=>(j.tm d).imp hS
     refine ⟨by rw [cY];exact j.ok.next (fun id h=>by unfold Of at h;omega) n2,?_,fun d => ?_,fun k ty cs hb => ?_⟩
     ·rw [gD,cY]
      refine cK.put ⟨fun d => ?_,j.tr.size,j.tr.defers⟩ hd ?_
      ·rw [vj _ rfl]
       exact Q7 g hg n2 (fun b hb=>WT b hb) hold (bg d) (j.tr.rep d)
      ·simp only [av]
       exact ⟨⟨rfl,rfl⟩,fun _=>(ba _ _ _).symm⟩
     ·rw [gD]
      have hb:aH p' (look (st.tmps.map fun q=>(q.1,ET m (.mp kk vk es) q.2)) d):=by rw [vj _ rfl];exact Nn ((j.tm d).imp Mv)
      cases kh:o.dst with
      | none=>exact hb
      | some d0 =>
       simp only [iA,dK]
       split
       ·simp only [aH];exact M7
       ·exact hb
     ·rw [cY] at hb
      simp only [Heap.get] at hb
      split at hb
      ·cases hb
      ·exact (j.hm k ty cs (Heap.tu hb).1).imp Mv
   ·cases mZ
  ·cases mZ
 ·cases mZ
theorem m0{R:Type}{n:Nat}{f:Nat→Option R}{r:R}(h:rl n f=some r):∀j,j<n→f j=some r:=by
 unfold rl at h
 split at h
 ·rename_i hx;cases h;exact Classical.choose_spec hx
 ·cases h
theorem l8{R:Type}{n:Nat}{f:Nat→Option R}{r:R}(hn:0<n)(h:∀j,j<n→f j=some r):rl n f=some r:=by
 unfold rl
 have hx:∃r,∀j,j<n→f j=some r:=⟨r,h⟩
 rw [dif_pos hx]
 have:=Classical.choose_spec hx 0 hn
 rw [h 0 hn] at this
 exact this.symm
theorem Next.drawn{d:Nat}(n:Next Z ψ h { w with drawn:=d } B0 O N Z' ψ' h' w'):Next Z ψ h w B0 O N Z' ψ' h' w' :=
 ⟨n.fj,n.dU,⟨n.keep.os,n.keep.tape,n.keep.output,n.keep.size,n.keep.block⟩,n.ids,n.dD⟩
theorem Good.drawn{d:Nat}(g:Good Z ψ h w B0 O):Good Z ψ h { w with drawn:=d } B0 O:=by
 have sm:cj Z w ({ w with drawn:=d }:World):=fun _ _=>rfl
 refine ⟨fun id ty cs hb => ?_,fun id ok xs hb => ?_,g.live,g.apart,g.jm⟩
 ·obtain ⟨gg,vs,h1,h2,h3,h4⟩:=g.box id ty cs hb
  exact ⟨gg,vs,h1,h2,h3.less (fun _ h=>h) sm (fun i hi=>⟨hi,rfl⟩),h4⟩
 ·exact (g.row id ok xs hb).kept (fun _ h=>h) sm (fun gg _=>rfl)
theorem filter_push{l:List MapEntry}(h:l.Pairwise (fun a b=>a.born≠b.born)){seen:Array Nat}{j:Nat}{e:MapEntry}(he:(l.filter fun e => !seen.contains e.born)[j]? = some e) :
  l.filter (fun x => !(seen.push e.born).contains x.born)=(l.filter fun e => !seen.contains e.born).eraseIdx j:=by
 have h2:(l.filter fun e => !seen.contains e.born).Pairwise (fun a b=>a.born≠b.born):=h.sublist List.filter_sublist
 rw [←ChangeMaps.filter_eq_eraseIdx (fun x=>x.born==e.born) _ j e he (by simp) (h2.imp fun {a b} bh hc=>bh (by
  simp only [beq_iff_eq] at hc;omega))]
 rw [List.filter_filter]
 congr 1
 funext x
 simp only [Array.contains_push]
 cases seen.contains x.born<;>cases x.born==e.born<;>rfl
theorem Ir{R:Type}{hh:Heap}(g:Good Z ψ hh.get w B0 O){x:AV}{u:Value}{ty:TypeId}(hx:av Z ψ hh.get w x u){kk:AV→Heap→Option R}{r:R}(he:kA hh x kk=some r) :
  ∃v h' V w',(Instr.next u false ty).run P w=.ok V w'∧Next Z ψ hh.get w B0 O N Z ψ h'.get w'∧av Z ψ h'.get w' v V∧kk v h'=some r∧(∀p,aH p v)∧∀i ty cs,h'.get i=some (.box ty cs)→hh.get i=some (.box ty cs):=by
 unfold kA at he
 split at he
 ·rename_i id
  split at he
  ·rename_i kk1 vk pp hg
   simp only [av] at hx
   have hu:=hx.2 (by rw [hg];simp)
   obtain ⟨b,m,since,seen,bQ,clock,h1,h2,h3,h4,h5,h6,h7,h8,h9⟩:=g.row id (.iter kk1 vk) pp hg
   rw [h1] at hu
   subst hu
   subst h6
   have aG:=(Array.getElem?_eq_some_iff.1 h2).1
   have SJ:(leftOf bQ seen).toList=bQ.toList.filter fun e => !seen.contains e.born:=by unfold leftOf;simp
   have hlen:pp.2.length=(leftOf bQ seen).size:=by rw [h8.1,←SJ,Array.length_toList]
   rcases run_next_at (P:=P) w ty b m since since seen bQ since h2 h4 h7 (Nat.le_refl _) with ⟨mv,da⟩ | ⟨e,iM,w1,Is,da⟩
   ·have K5:pp.2.isEmpty=true:=by rw [List.isEmpty_iff];exact List.eq_nil_of_length_eq_zero (by rw [hlen,mv])
    rw [K5] at he
    simp only [cond_true] at he
    exact ⟨_,hh,_,w,da,Next.refl g,by simp only [av,an];exact ⟨_,rfl,_,_,rfl,rfl,rfl⟩,he,fun p=>by simp only [aH,aA];exact ⟨trivial,trivial⟩,fun _ _ _ h=>h⟩
   ·obtain ⟨k,hk,hke⟩:=List.mem_iff_getElem.1 iM
    have nH:k<pp.2.length:=by rw [hlen,←Array.length_toList];exact hk
    have K5:pp.2.isEmpty=false:=by
     cases hl:pp.2 with
     | nil=>rw [hl] at nH;simp at nH
     | cons _ _=>rfl
    rw [K5] at he
    simp only [cond_false] at he
    have hj:=m0 he k nH
    rw [List.getElem?_eq_getElem nH,Option.bind_some] at hj
    have T7:(bQ.toList.filter fun e => !seen.contains e.born)[k]? = some e:=by rw [←SJ,List.getElem?_eq_getElem hk,hke]
    have Dz:=h8.2 k _ e (List.getElem?_eq_getElem nH) T7
    obtain ⟨⟨k1,k2,k3⟩,v1,v2,v3⟩:=Dz
    have abB:e∈bQ.toList:=(List.mem_filter.1 (List.mem_of_getElem? T7)).1
    have gd1:Good Z ψ hh.get w1 B0 O:=by rcases Is with rfl | rfl;exact g;exact g.drawn
    have DO:w1.heap=w.heap:=by rcases Is with rfl | rfl<;>rfl
    have hmb:m≠b:=fun hmb=>by
     subst hmb
     exact (g.live id m (by rw [hg];simp) (by rw [h1];rfl)).1 h3
    have n1:=qJ (N:=N) gd1 (id:=id) (by rw [hg];simp) (r:=b) (by rw [h1];rfl) (by rw [DO];exact aG) (.mapIter (some m) since (seen.push e.born) since) (ok:=.iter kk1 vk) (x:=(some pp.2[k],pp.2.eraseIdx k)) (fun w' H8 sm=>by
     have VP:cj Z w w':=fun c hc=>(sm c hc).trans (by rw [DO])
     refine ⟨b,m,since,seen.push e.born,bQ,since,h1,by rw [H8,DO];simp [aG],h3,?_,h5,rfl,h7,?_,?_⟩
     ·rw [H8,DO,u5 _ (fun e=>hmb e.symm)];exact h4
     ·rw [filter_push h5 T7]
      exact (jP.erase h8 k).mono (fun _ h=>h) VP
     ·refine ⟨e,abB,by simp,⟨rfl,fun q y e' mv xc => ?_⟩⟩
      cases q with
      | zero=>cases mv;cases xc;exact ⟨⟨k1.mono (fun _ h=>h) VP,k2,k3⟩,v1.mono (fun _ h=>h) VP,v2,v3⟩
      | succ q=>simp at mv)
    have n2:Next Z ψ hh.get w B0 O N Z ψ (dK hh.get id (some (.own (.iter kk1 vk) (some pp.2[k],pp.2.eraseIdx k)))) { w1 with heap:=w1.heap.setIfInBounds b (.mapIter (some m) since (seen.push e.born) since) }:=by
     rcases Is with rfl | rfl
     ·exact n1
     ·exact n1.drawn
    refine ⟨_,hh.set id (.own (.iter kk1 vk) (some pp.2[k],pp.2.eraseIdx k)),_,_,da,by rw [lR];exact n2,?_,hj,fun p => ?_,fun i ty cs hb => ?_⟩
    ·have VP:cj Z w ({ w1 with heap:=w1.heap.setIfInBounds b (.mapIter (some m) since (seen.push e.born) since) }:World):=n2.same g
     simp only [av,an]
     exact ⟨_,rfl,_,_,rfl,rfl,_,_,rfl,kZ (k1.mono (fun _ h=>h) VP) k2 k3,_,_,rfl,kZ (v1.mono (fun _ h=>h) VP) v2 v3,rfl⟩
    ·simp only [aH,aA]
     exact ⟨trivial,mV _ _ _,mV _ _ _,trivial⟩
    ·rw [lR] at hb
     unfold dK at hb
     split at hb
     ·cases hb
     ·exact hb
  ·cases he
 ·cases he
theorem Fu(op:BinOp)(t:TypeId)(a b:Operand)(x y:Option Addr)(n m c d:Nat):(eqGuard op t a b (.slice x n c) (.slice y m d)).run P w=.ok () w:=by cases op<;>simp [eqGuard]
theorem BH{t e:TypeId}(ht:P.underlying t=some (.slice e))(a:Option Addr)(n c:Nat):(Op.equal t (.slice a n c) (.slice none 0 0)).run P w=.ok a.isNone w:=by
 have key:∀d,(Op.equalIn (d+1) t (.slice a n c) (.slice none 0 0)).run P w=.ok a.isNone w:=fun d=>by
  cases a<;>simp [Op.equalIn,run_underlying ht]
 exact key 9999
theorem It{o:Oper}{x:Operand}{want:Bool}(h:isNil P o=some (x,want)):∃op t v t' e,o.op=.binOp op t x (.const v) t'∧P.underlying t=some (.slice e)∧v=.slice none 0 0∧((op=.eql∧want=true)∨(op=.neq∧want=false)):=by
 unfold isNil at h
 split at h
 ·rename_i op t x' v t' DN
  have hv:∀v:Value,uP v=.fB→v=.slice none 0 0:=fun v hv=>by
   unfold uP at hv
   split at hv<;>try (first | cases hv | (split at hv<;>cases hv);done)
   all_goals (split at hv<;>first | cases hv | skip)
   ·rename_i hc;obtain ⟨rfl,rfl,rfl⟩:=hc;rfl
   all_goals (split at hv<;>cases hv)
  split at h
  ·rename_i e h1 h2 h3;cases h;exact ⟨_,_,_,_,_,DN,h2,hv _ h3,.inl ⟨rfl,rfl⟩⟩
  ·rename_i e h1 h2 h3;cases h;exact ⟨_,_,_,_,_,DN,h2,hv _ h3,.inr ⟨rfl,rfl⟩⟩
  ·cases h
 ·cases h
theorem No{R:Type}{hh:Heap}(g:Good Z ψ hh.get w B0 O){x:AV}{u:Value}{op:BinOp}{t e:TypeId}(xo yo:Operand)(hx:av Z ψ hh.get w x u)(ht:P.underlying t=some (.slice e)){want:Bool}(ho:(op=.eql∧want=true)∨(op=.neq∧want=false)){kk:AV→Option R}{r:R}(he:tp hh x want kk=some r) :
  ∃c:Bool,((eqGuard op t xo yo u (.slice none 0 0)).run P w=.ok () w∧(binOp op t u (.slice none 0 0)).run P w=.ok (.bool c) w)∧kk (.bool c)=some r:=by
 have run:∀(a:Option Addr) (n c:Nat),(eqGuard op t xo yo (.slice a n c) (.slice none 0 0)).run P w=.ok () w∧(binOp op t (.slice a n c) (.slice none 0 0)).run P w=.ok (.bool (a.isNone==want)) w:=fun a n c=>by
  refine ⟨Fu _ _ _ _ _ _ _ _ _ _,?_⟩
  rcases ho with ⟨rfl,rfl⟩ | ⟨rfl,rfl⟩<;>simp only [Sem.run_bind,Result.andThen_ok,binOp,BH ht,Sem.run_pure]<;>cases a.isNone<;>rfl
 have fin:∀(n:Nat) (a:Option Addr) (c:Nat) (xs:Bool),(a=none→xs=true)→cond xs (rl 2 fun j=>kk (.bool ((j==0)==want))) (kk (.bool (!want)))=some r →
   ∃c':Bool,((eqGuard op t xo yo (.slice a n c) (.slice none 0 0)).run P w=.ok () w∧(binOp op t (.slice a n c) (.slice none 0 0)).run P w=.ok (.bool c') w)∧kk (.bool c')=some r:=fun n a c xs qF h=>by
  refine ⟨_,run a n c,?_⟩
  cases xs with
  | true =>
   simp only [cond_true] at h
   cases a with
   | none=>exact m0 h 0 (by decide)
   | some a=>exact m0 h 1 (by decide)
  | false =>
   simp only [cond_false] at h
   cases a with
   | none=>cases qF rfl
   | some a=>cases want<;>exact h
 unfold tp at he
 split at he
 ·rename_i hv
  have hxn:x=.fB:=by
   cases x<;>simp only [cC] at hv<;>try cases hv
   ·rfl
   ·split at hv<;>cases hv
  subst hxn
  simp only [av] at hx
  subst hx
  exact ⟨_,run none 0 0,by cases want<;>exact he⟩
 ·rename_i ex k xs hv
  cases x with
  | sl ex' k' Wo =>
   simp only [cC] at hv
   cases hv
   simp only [av,aE] at hx
   obtain ⟨⟨v,hv,A,c,rfl,h1,h2,_⟩,_⟩:=hx
   cases hv
   refine fin _ A c _ (fun hA => ?_) he
   have:=h2 hA
   rw [List.isEmpty_iff]
   exact List.eq_nil_of_length_eq_zero (by omega)
  | bF id =>
   simp only [cC] at hv
   simp only [av] at hx
   split at hv
   ·rename_i hg
    cases hv
    have hu:=hx.2 (by rw [hg];simp)
    obtain ⟨vs,⟨_,h1⟩,_⟩:=g.row id _ _ hg
    rw [←hu] at h1
    rcases h1 with ⟨h1,A,rfl⟩ | ⟨gg,cap,cur,rfl,_⟩
    ·exact fin _ A 0 _ (fun _=>List.isEmpty_iff.2 (List.eq_nil_of_length_eq_zero h1)) he
    ·exact fin _ _ _ _ (fun h=>by cases h) he
   ·cases hv
   ·cases hv
  | _=>simp only [cC] at hv<;>cases hv
 ·cases he
theorem zp{draw:Bool}{rid:Nat}{ops:Array Oper}{b:Array Nat}{i HR:Nat}{e:bE}{S:Nat→Prop}{hh:Heap}(hm:rN (lL rid S) h)(ha:∀j,HR.testBit j=true→S j)(he:fZ draw rid ops b i HR e=true) :
  aH (lL rid fun k=>S k∨k=i) e.v∧rN (lL rid fun k=>S k∨k=i) (e.hp h):=by
 have EV:∀j,(HR ||| 2 ^ i).testBit j=true→S j∨j=i:=fun j hj=>by
  rw [Nat.testBit_or,Bool.or_eq_true] at hj
  rcases hj with hj | hj
  ·exact .inl (ha j hj)
  ·rw [Nat.testBit_two_pow] at hj;exact .inr (by simpa using hj:i=j).symm
 have up:rN (lL rid fun k=>S k∨k=i) h:=fun id ty cs hb=>(hm id ty cs hb).imp (fun id h1 h2=>.inl (h1 h2))
 cases e with
 | val v=>exact ⟨oi (fun j hj=>.inl (ha j hj)) he,up⟩
 | new v os =>
  simp only [fZ,Bool.and_eq_true] at he
  refine ⟨oi EV he.1.1,fun id ty cs hb => ?_⟩
  simp only [bE.hp] at hb
  split at hb
  ·rename_i o ho
   cases hb
   exact (lq EV he.2 _ _ ho).2 _ _ rfl
  ·exact up id ty cs hb
 | wr v h' =>
  simp only [fZ,Bool.and_eq_true] at he
  exact ⟨oi EV he.1.2,fun id ty cs hb=>(lq EV he.2 _ _ hb).2 _ _ rfl⟩
theorem BI{i j:Nat}(h:(2 ^ i - 1).testBit j=true):j<i:=by
 rw [Nat.testBit_two_pow_sub_one] at h;simpa using h
def vl(mk:Bool)(rid i id:Nat):Prop:=mk=true→lL rid (fun k=>k<i) id
theorem kM(E:Env P Eqs Sg F){rid n:Nat}{ops:Array Oper}{b:Array Nat}(mk:Bool)(Np:mk=false→∀(i:Nat) (o:Oper),ops[i]? = some o→makes o.op=false)(hn:ops.size≤128)(kh:∀(i:Nat) (o:Oper),ops[i]? = some o→gS n o=true){kk:St→Option R}{r:R}{Q:Exit→Act→World→Prop}
  (hQ:∀dS Z ψ a w,kk dS=some r→Ok Z0 w0 O ψ0 Z ψ dS.heap.get w→cK Z ψ dS.heap.get w n (look dS.tmps) a→Q .normal a w) :
  ∀(l:List (Nat×Oper)) (i:Nat) (st:St) (Z:Nat→Prop) (ψ:Nat→Value) (a:Act) (w:World),zo ops i l→bz P Eqs Sg F rid false ops b l st kk=some r →
   J (vl mk rid i) n Z0 w0 O ψ0 Z ψ (look st.tmps) st.heap.get a w→wpOps P ops Q (l.map Prod.fst) a w
 | [],i,st,Z,ψ,a,w,_,hx,j=>hQ st Z ψ a w hx j.ok j.tr
 | (i',o)::l,i,st,Z,ψ,a,w,hl,hx,j=>by
  obtain ⟨rfl,ho,hl⟩:=hl
  have hi:i'<128:=Nat.lt_of_lt_of_le (Array.getElem?_eq_some_iff.1 ho).1 hn
  have Qv:=kh i' o ho
  have ih:=kM E (rid:=rid) (b:=b) mk Np hn kh hQ l (i'+1)
  have up:∀id,vl mk rid i' id→vl mk rid (i'+1) id:=fun id h hm hr=>Nat.lt_succ_of_lt (h hm hr)
  have runs:∀g6:St,look g6.tmps=look st.tmps→g6.heap=st.heap→Region.wanted o (yielded ops a.tmps)=true →
    (match nN P (opId rid i') g6 o with
    | some dS=>bz P Eqs Sg F rid false ops b l dS kk
    | none=>match tn o with
    | some x=>kA g6.heap (ρ g6.tmps x) fun v h=>bz P Eqs Sg F rid false ops b l (({ g6 with heap:=h }:St).put o.dst v) kk
    | none=>match isNil P o with
    | some (x,want)=>tp g6.heap (ρ g6.tmps x) want fun v=>bz P Eqs Sg F rid false ops b l (g6.put o.dst v) kk
    | none=>cI P Eqs Sg F (opId rid i') g6.heap g6.tmps o fun e=>if fZ false rid ops b i' (2 ^ i' - 1) e then bz P Eqs Sg F rid false ops b l ({ g6 with heap:=match e with | .wr _ h=>h | e=>e.h g6.heap }.put o.dst e.v) kk else none)=some r →
    wpOps P ops Q (((i',o)::l).map Prod.fst) a w:=by
   intro g6 h1 h2 hw hx
   split at hx
   ·rename_i dS mZ
    simp only [List.map_cons,wpOps,ho,hw,if_true]
    refine .inl ?_
    have WU:makes o.op=true:=by
     unfold nN at mZ
     split at mZ
     ·rename_i DN;rw [DN];rfl
     ·cases mZ
    have abD:mk=true:=by
     cases Le:mk with
     | true=>rfl
     | false=>rw [Np Le i' o ho] at WU;cases WU
    have j1:J (vl mk rid i') n Z0 w0 O ψ0 Z ψ (look g6.tmps) g6.heap.get a w:=by rw [h1,h2];exact j
    obtain ⟨V,w',Z',ψ',da,j'⟩:=Iq (P:=P) (p':=vl mk rid (i'+1)) (fun id hp my=>by
     obtain ⟨h3,h4⟩:=my.parts hi
     have:=hp abD h3
     rw [h4] at this
     exact Nat.lt_irrefl _ this) up (fun _ h3=>by
      have:=((Fq (rid:=rid) (i:=i')).parts hi).2
      rw [this];exact Nat.lt_succ_self _) j1 Qv mZ
    unfold Oper.wp
    rw [da]
    exact ih dS Z' ψ' _ w' hl hx j'
   split at hx
   ·rename_i x Cs
    simp only [List.map_cons,wpOps,ho,hw,if_true]
    refine .inl ?_
    have DN:o.op=.next x false:=by
     unfold tn at Cs
     split at Cs
     ·rename_i DN;cases Cs;exact DN
     ·cases Cs
    have VO:av Z ψ g6.heap.get w (ρ g6.tmps x) (a.eval x):=pS (by rw [h1,h2];exact j.tr) x
    have g1:Good Z ψ g6.heap.get w w0.heap.size O:=by rw [h2];exact j.ok.dD
    obtain ⟨v,h',V,w',da,nx,hr,QS,TS,oV⟩:=Ir (P:=P) (N:=fun _=>False) (ty:=o.type) g1 VO hx
    have Nq:(execOp a.eval o).run P w=.ok (.value V) w':=by
     obtain ⟨dst,op,type,pos,after,guard⟩:=o
     simp only at DN
     subst DN
     simp only at da
     simp [execOp,da]
    unfold Oper.wp
    rw [Nq]
    refine ih _ Z ψ _ w' hl QS ?_
    rw [gD,cY]
    have j1:J (vl mk rid i') n Z0 w0 O ψ0 Z ψ (look g6.tmps) g6.heap.get a w:=by rw [h1,h2];exact j
    refine ⟨j1.ok.next (fun id h=>h.elim) nx,(j1.tr.next g1 nx (fun d=>(j1.tm d).imp fun _ _ h=>h)).put Qv hr,fun d => ?_,fun k ty cs hb=>(j1.hm k ty cs (oV k ty cs hb)).imp up⟩
    cases kh:o.dst with
    | none=>exact (j1.tm d).imp up
    | some d0 =>
     simp only [iA,dK]
     split
     ·exact TS _
     ·exact (j1.tm d).imp up
   split at hx
   ·rename_i x want WV
    obtain ⟨op,t,v,t',et,DN,ht,rfl,pT⟩:=It WV
    simp only [List.map_cons,wpOps,ho,hw,if_true]
    refine .inl ?_
    have VO:av Z ψ g6.heap.get w (ρ g6.tmps x) (a.eval x):=pS (by rw [h1,h2];exact j.tr) x
    have g1:Good Z ψ g6.heap.get w w0.heap.size O:=by rw [h2];exact j.ok.dD
    obtain ⟨c,da,QS⟩:=No (P:=P) g1 x (.const (.slice none 0 0)) VO ht pT hx
    have Nq:(execOp a.eval o).run P w=.ok (.value (.bool c)) w:=by
     obtain ⟨dst,op',type,pos,after,guard⟩:=o
     simp only at DN
     subst DN
     have e1:a.eval (.const (.slice none 0 0))=.slice none 0 0:=rfl
     simp [execOp,e1,da.1,da.2]
    unfold Oper.wp
    rw [Nq]
    refine ih _ Z ψ _ w hl QS ?_
    rw [gD,cY]
    have j1:J (vl mk rid i') n Z0 w0 O ψ0 Z ψ (look g6.tmps) g6.heap.get a w:=by rw [h1,h2];exact j
    refine ⟨j1.ok,j1.tr.put Qv (by simp only [av]),fun d => ?_,fun k ty cs hb=>(j1.hm k ty cs hb).imp up⟩
    cases kh:o.dst with
    | none=>exact (j1.tm d).imp up
    | some d0 =>
     simp only [iA,dK]
     split
     ·simp only [aH]
     ·exact (j1.tm d).imp up
   rw [kL] at hx
   obtain ⟨e,he,hx⟩:=Option.bind_eq_some_iff.1 hx
   split at hx
   ·rename_i lJ
    simp only [List.map_cons,wpOps,ho,hw,if_true]
    refine .inl ?_
    have hh:g6.heap.get=st.heap.get:=by rw [h2]
    have mZ:aH (vl mk rid (i'+1)) e.v∧rN (vl mk rid (i'+1)) (e.hp st.heap.get):=by
     cases Le:mk with
     | false =>
      have ht:vl false rid (i'+1)=fun _=>True:=funext fun id=>propext ⟨fun _=>trivial,fun _ h=>by cases h⟩
      rw [ht];exact ⟨aH.top _,fun _ _ cs _=>aA.top cs⟩
     | true =>
      have QX:rN (lL rid fun k=>k<i') st.heap.get:=fun id ty cs hb=>(j.hm id ty cs hb).imp fun id h1=>h1 Le
      have h3:=zp (hh:=g6.heap) QX (fun k hk=>BI hk) lJ
      have hS:∀k,(k<i'∨k=i')→k<i'+1:=fun k hk=>by omega
      exact ⟨h3.1.imp fun id h1 _ h2=>hS _ (h1 h2),fun id ty cs hb=>(h3.2 id ty cs hb).imp fun id h1 _ h2=>hS _ (h1 h2)⟩
    refine J.op E (p:=vl mk rid i') (p':=vl mk rid (i'+1)) (rid:=rid) (i:=i') (s:=g6.tmps) (fun hm id hp my => ?_) j Qv (fun x _=>pS (by rw [h1];exact j.tr) x) (fun x _=>Ld (by rw [h1];exact j.tm) x) (fun id o hg=>by rw [hh] at hg;exact hg) he (fun _ _ _=>hh) up mZ.1 mZ.2 fun a' w' Z' ψ' j' => ?_
    ·cases Le:mk with
     | false=>rw [Np Le i' o ho] at hm;cases hm
     | true =>
      obtain ⟨h3,h4⟩:=my.parts hi
      have:=hp Le h3
      rw [h4] at this
      exact Nat.lt_irrefl _ this
    refine ih _ Z' ψ' a' w' hl hx ?_
    rw [gD,cY]
    have j2:J (vl mk rid (i'+1)) n Z0 w0 O ψ0 Z' ψ' (iA (look g6.tmps) o.dst e.v) (bE.heap e g6.heap).get a' w':=by rw [bE.Fs,h1,h2];exact j'
    exact j2
   ·cases hx
  have zq:∀g6:St,look g6.tmps=look st.tmps→g6.heap=st.heap→Region.wanted o (yielded ops a.tmps)=false →
    bz P Eqs Sg F rid false ops b l (g6.put o.dst (.mJ [])) kk=some r→wpOps P ops Q (((i',o)::l).map Prod.fst) a w:=by
   intro g6 h1 h2 hw hx
   simp only [List.map_cons,wpOps,ho,hw,Bool.false_eq_true,if_false]
   refine ih _ Z ψ _ w hl hx ?_
   rw [gD,cY,h1,h2]
   exact j.skip Qv up
  rw [bz] at hx
  simp only [Bool.false_eq_true,if_false] at hx
  split at hx
  ·rename_i hg
   exact runs st rfl rfl (by simp [Region.wanted,hg]) hx
  ·rename_i jj want hg
   split at hx
   ·cases hx
   ·rename_i d hd
    split at hx
    ·rename_i t ht
     have hw:=zn j.tr hg hd ht
     have hp:∀b,t=b→look (st.put (some d) (.bool b)).tmps=look st.tmps:=fun b hb=>by
      subst hb;rw [gD];exact Cq ht
     cases t<;>simp only [cond_true,cond_false] at hx<;>split at hx<;>rename_i pT
     ·exact zq _ (hp false rfl) (cY _ _ _) (by rw [hw];simp [pT]) hx
     ·exact runs _ (hp false rfl) (cY _ _ _) (by rw [hw];simp [pT]) hx
     ·exact runs _ (hp true rfl) (cY _ _ _) (by rw [hw];simp [pT]) hx
     ·exact zq _ (hp true rfl) (cY _ _ _) (by rw [hw];simp [pT]) hx
    ·rename_i vs ht
     exact zq st rfl rfl (wJ j.tr hg hd ht) hx
    ·cases hx
end Go.Vs
namespace Go.Vs
variable {P:Program} {Eqs:TypeId→Option K} {Sg:FuncId→Option aJ} {F:(f:FuncId)→(g:aJ)→g.A→Option g.B} {R:Type}
variable {Z Z' Z0:Nat→Prop} {ψ ψ' ψ0:Nat→Value} {h h':Hp} {w w' w0:World} {B0:Nat} {O N:Nat→Prop}
theorem jV(hp h:Heap)(i:Nat):∀(ft:List Nat),(eJ ft hp h).get i=if i∈ft then (match hp.get i with | some o=>some o | none=>h.get i) else h.get i
 | []=>by simp [eJ]
 | j::r=>by
  have ih:=jV hp h i r
  unfold eJ at ih ⊢
  cases hj:hp.get j with
  | none =>
   rw [List.filterMap_cons,hj]
   simp only [Option.map_none]
   rw [ih]
   by_cases e:i=j
   ·subst e;simp [hj]
   ·simp [e]
  | some o =>
   rw [List.filterMap_cons,hj]
   simp only [Option.map_some,List.cons_append,Heap.get]
   rw [ih]
   by_cases e:j=i
   ·subst e;simp [hj]
   ·have e':¬i=j:=fun h=>e h.symm
    simp [e,e']
mutual
theorem wK{ft:List Nat}:∀{v:AV},pz ft v=true→aH (fun i=>i∉ft) v
 | .ref id _ _ _,h=>by simp only [aH];simpa [pz] using h
 | .bF id,h=>by simp only [aH];simpa [pz] using h
 | .fn _ cap,h=>by simp only [aH];exact jW (by simpa only [pz] using h)
 | .agg cs,h=>by simp only [aH];exact jW (by simpa only [pz] using h)
 | .mJ vs,h=>by simp only [aH];exact jW (by simpa only [pz] using h)
 | .no,_=>by simp only [aH]
 | .bool _,_=>by simp only [aH]
 | .int _ _,_=>by simp only [aH]
 | .str _,_=>by simp only [aH]
 | .kU,_=>by simp only [aH]
 | .fB,_=>by simp only [aH]
 | .fp _ _ _,_=>by simp only [aH]
 | .sl _ _ _,_=>by simp only [aH]
 | .mp _ _ _,_=>by simp only [aH]
theorem jW{ft:List Nat}:∀{l:List AV},sr ft l=true→aA (fun i=>i∉ft) l
 | [],_=>by simp only [aA]
 | v::r,h=>by
  simp only [sr,Bool.and_eq_true] at h
  simp only [aA]
  exact ⟨wK h.1,jW h.2⟩
end
theorem jX{ft:List Nat}:∀{hh:Heap},ss ft hh=true→∀i o,hh.get i=some o→i∉ft∧∀ty cs,o=.box ty cs→aA (fun i=>i∉ft) cs
 | [],_,i,o,h=>by simp [Heap.get] at h
 | (j,.box ty cs)::r,hc,i,o,h=>by
  simp only [ss,Bool.and_eq_true] at hc
  simp only [Heap.get] at h
  split at h
  ·rename_i e;subst e;cases h
   exact ⟨by simpa using hc.1,fun ty cs e=>by cases e;exact jW hc.2.1⟩
  ·exact jX hc.2.2 i o h
 | (j,.own ok x)::r,hc,i,o,h=>by
  simp only [ss,Bool.and_eq_true] at hc
  simp only [Heap.get] at h
  split at h
  ·rename_i e;subst e;cases h
   exact ⟨by simpa using hc.1,fun ty cs e=>by cases e⟩
  ·exact jX hc.2 i o h
theorem Next.frame{hp h1:Heap}{ft:List Nat}(g:Good Z ψ hp.get w B0 O)(hB:B0≤w.heap.size)(bg:∀i ty cs,hp.get i=some (.box ty cs)→aA (fun i=>¬N i) cs)
  (n:Next Z ψ (gk hp ft).get w w.heap.size (Own ψ (gk hp ft).get) N Z' ψ' h1.get w') (hc:ss ft h1=true) :
  ∃dM,Next Z ψ hp.get w B0 O N Z' dM (eJ ft hp h1).get w'∧∀i,i∉ft→dM i=ψ' i:=by
 classical
 have gd:∀i,(gk hp ft).get i=if i∈ft then none else hp.get i:=fun i=>mW ft hp i
 have br:∀b,Own ψ (gk hp ft).get b→Own ψ hp.get b:=fun b ⟨i,h1,h2⟩=>⟨i,by rw [gd] at h1;split at h1;exact absurd rfl h1;exact h1,h2⟩
 have pN:∀i,i∈ft→h1.get i=none:=fun i hi=>by
  cases e:h1.get i with
  | none=>rfl
  | some o=>exact absurd hi (jX hc i o e).1
 have gf:∀i,(eJ ft hp h1).get i=if i∈ft then hp.get i else h1.get i:=fun i=>by
  rw [jV]
  by_cases hi:i∈ft
  ·rw [if_pos hi,if_pos hi,pN i hi];cases hp.get i<;>rfl
  ·rw [if_neg hi,if_neg hi]
 let dM:Nat→Value:=fun i=>if i∈ft then ψ i else ψ' i
 have p1:∀i,i∈ft→dM i=ψ i:=fun i hi=>if_pos hi
 have p2:∀i,i∉ft→dM i=ψ' i:=fun i hi=>if_neg hi
 have apart:∀i b,i∈ft→hp.get i≠none→ob (ψ i)=some b→¬Own ψ (gk hp ft).get b:=fun i b hi h2 h3 ⟨j,h4,h5⟩=>by
  rw [gd] at h4
  split at h4
  ·exact h4 rfl
  ·rename_i hj
   have:=g.apart i j b h2 h4 h3 h5
   subst this;exact hj hi
 have cF:∀i b,i∈ft→hp.get i≠none→ob (ψ i)=some b→w'.heap[b]? = w.heap[b]? := fun i b hi h2 h3 =>
  n.keep.block b (g.bL ⟨i,h2,h3⟩) (apart i b hi h2 h3)
 have keep:cS ψ hp.get w w':=⟨n.keep.os,n.keep.tape,n.keep.output,n.keep.size,fun b hb hn=>n.keep.block b hb fun ho=>hn (br b ho)⟩
 have sm:cj Z w w':=keep.same g
 have ids:∀i,(eJ ft hp h1).get i≠none→(hp.get i≠none∧dM i=ψ i)∨N i:=fun i hi=>by
  rw [gf] at hi
  by_cases hf:i∈ft
  ·rw [if_pos hf] at hi;exact .inl ⟨hi,p1 i hf⟩
  ·rw [if_neg hf] at hi
   rcases n.ids i hi with ⟨h2,h3⟩ | h2
   ·rw [gd,if_neg hf] at h2
    exact .inl ⟨h2,(p2 i hf).trans h3⟩
   ·exact .inr h2
 have nz:∀i b,i∈ft→hp.get i≠none→ob (ψ i)=some b→¬Z' b:=fun i b hi h2 h3 hz=>by
  rcases n.dU b hz with h4 | h4 | h4
  ·exact (g.live i b h2 h3).1 h4
  ·exact apart i b hi h2 h3 h4
  ·have:=g.bL ⟨i,h2,h3⟩;omega
 refine ⟨dM,⟨n.fj,fun b hb=>(n.dU b hb).imp (fun h=>h) (fun h=>h.imp (br b) fun h=>h),keep,ids,⟨fun i ty cs hb => ?_,fun i ok x hb => ?_,fun i b h2 h3 => ?_,fun i j b h2 h3 h4 h5 => ?_,n.dD.jm⟩⟩,p2⟩
 ·rw [gf] at hb
  by_cases hf:i∈ft
  ·rw [if_pos hf] at hb
   obtain ⟨gg,vs,e1,e2,e3,e4⟩:=g.box i ty cs hb
   refine ⟨gg,vs,by rw [p1 i hf,e1],(cF i gg hf (by rw [hb];simp) (by rw [e1];rfl)).trans e2,e3.move n.fj sm (fun j hj bh=>(ids j bh).resolve_right hj) (bg i ty cs hb),e4⟩
  ·rw [if_neg hf] at hb
   obtain ⟨gg,vs,e1,e2,e3,e4⟩:=n.dD.box i ty cs hb
   refine ⟨gg,vs,by rw [p2 i hf,e1],e2,e3.move (fun _ h=>h) (cj.refl _ _) (fun j hj bh => ?_) ((jX hc i _ hb).2 ty cs rfl),e4⟩
   rw [gf,if_neg hj] at bh
   exact ⟨bh,p2 j hj⟩
 ·rw [gf] at hb
  by_cases hf:i∈ft
  ·rw [if_pos hf] at hb
   rw [p1 i hf]
   exact (g.row i ok x hb).kept n.fj sm (fun b jo=>cF i b hf (by rw [hb];simp) jo)
  ·rw [if_neg hf] at hb
   rw [p2 i hf]
   exact n.dD.row i ok x hb
 ·rw [gf] at h2
  by_cases hf:i∈ft
  ·rw [if_pos hf] at h2
   rw [p1 i hf] at h3
   exact ⟨nz i b hf h2 h3,(g.live i b h2 h3).2⟩
  ·rw [if_neg hf] at h2
   rw [p2 i hf] at h3
   obtain ⟨h4,h5⟩:=n.dD.live i b h2 h3
   refine ⟨h4,h5.elim (fun h=>.inl (Nat.le_trans hB h)) fun h => ?_⟩
   obtain ⟨j,h6,h7⟩:=br b h
   exact (g.live j b h6 h7).2
 ·have mixed:∀i j b,i∈ft→j∉ft→(eJ ft hp h1).get i≠none→(eJ ft hp h1).get j≠none→ob (dM i)=some b→ob (dM j)=some b→False:=fun i j b hi hj h2 h3 h4 h5=>by
   rw [gf,if_pos hi] at h2
   rw [gf,if_neg hj] at h3
   rw [p1 i hi] at h4
   rw [p2 j hj] at h5
   rcases (n.dD.live j b h3 h5).2 with h6 | h6
   ·have:=g.bL ⟨i,h2,h4⟩;omega
   ·exact apart i b hi h2 h4 h6
  by_cases hi:i∈ft<;>by_cases hj:j∈ft
  ·rw [gf,if_pos hi] at h2
   rw [gf,if_pos hj] at h3
   rw [p1 i hi] at h4
   rw [p1 j hj] at h5
   exact g.apart i j b h2 h3 h4 h5
  ·exact (mixed i j b hi hj h2 h3 h4 h5).elim
  ·exact (mixed j i b hj hi h3 h2 h5 h4).elim
  ·rw [gf,if_neg hi] at h2
   rw [gf,if_neg hj] at h3
   rw [p2 i hi] at h4
   rw [p2 j hj] at h5
   exact n.dD.apart i j b h2 h3 h4 h5
theorem J.opF(E:Env P Eqs Sg F){rid n i:Nat}{p:Nat→Prop}{T:Nat→AV}{a:Act}{s:List (Nat×AV)}{o:Oper}(hS:makes o.op=true→∀id,p id→¬Of rid i id){hp h1:Heap}{v:AV}{ft:List Nat}(j:J p n Z0 w0 O ψ0 Z ψ T hp.get a w)(hd:gS n o=true)
  (hT:∀x∈o.op.operands,av Z ψ hp.get w (ρ s x) (a.eval x)) (hTm:∀x∈o.op.operands,aH p (ρ s x)) (he:cI P Eqs Sg F (opId rid i) (gk hp ft) s o some=some (.wr v h1)) (hc:mq ft (.wr v h1)=true)
  {p':Nat→Prop} (Mv:∀k,p k→p' k) (hv:aH p' v) (T5:rN p' (eJ ft hp h1).get) {next:Act→World→Prop} {Q:Exit→Act→World→Prop}
  (hk:∀a' w' Z' ψ',J p' n Z0 w0 O ψ0 Z' ψ' (iA T o.dst v) (eJ ft hp h1).get a' w'→next a' w'):o.wp P a w next Q:=by
 have T6:∀id,p id→¬(makes o.op=true∧Of rid i id):=fun id h ⟨h1,h2⟩=>hS h1 id h h2
 simp only [mq,Bool.and_eq_true] at hc
 have br:∀id o,(gk hp ft).get id=some o→hp.get id=some o:=fun id o h=>by rw [mW] at h;split at h;cases h;exact h
 have bh:∀id,(gk hp ft).get id≠none→hp.get id≠none:=fun id h=>by
  obtain ⟨o,ho⟩:=Option.ne_none_iff_exists'.1 h
  rw [br id o ho];simp
 have bg:∀i' ty cs,hp.get i'=some (.box ty cs)→aA (fun id=>¬(makes o.op=true∧Of rid i id)) cs:=fun id ty cs hb=>(j.hm id ty cs hb).imp T6
 have gs:Good Z ψ (gk hp ft).get w w.heap.size (Own ψ (gk hp ft).get):=(j.ok.dD.sub br).DJ _
 refine SI (N:=fun id=>makes o.op=true∧Of rid i id) E gs (Nat.le_refl _) (fun _ _ h=>h) (id:=opId rid i) (fun hm k hk=>⟨hm,JI hk⟩) (fun x hx=>(hT x hx).oW br) (fun x hx=>(hTm x hx).imp T6) (fun id ty cs hb=>bg id ty cs (br _ _ hb)) (fun _ _ _=>rfl) he fun V w' Z' ψ' nx hr => ?_
 obtain ⟨dM,n2,h2⟩:=Next.frame j.ok.dD j.ok.size bg nx hc.2
 have T8:av Z' dM (eJ ft hp h1).get w' v V:=hr.move (p:=fun i=>i∉ft) (fun _ h=>h) (cj.refl _ _) (fun k hk bh=>by
  rw [jV,if_neg hk] at bh
  exact ⟨bh,h2 k hk⟩) (wK hc.1)
 refine hk _ w' Z' dM ⟨j.ok.next (fun id h=>by have:=h.2;unfold Of at this;omega) n2,(j.tr.next j.ok.dD n2 (fun d=>(j.tm d).imp T6)).put hd T8,fun d => ?_,T5⟩
 cases kh:o.dst with
 | none=>exact (j.tm d).imp Mv
 | some d0 =>
  simp only [iA,dK]
  split
  ·exact hv
  ·exact (j.tm d).imp Mv
end Go.Vs
namespace Go.Vs
variable {P:Program} {Eqs:TypeId→Option K} {Sg:FuncId→Option aJ} {F:(f:FuncId)→(g:aJ)→g.A→Option g.B} {R:Type}
variable {Z Z' Z0:Nat→Prop} {ψ ψ':Nat→Value} {h h':Hp} {w w' w0:World} {B0:Nat} {O N:Nat→Prop}
variable {rid n:Nat} {ops:Array Oper} {b:Array Nat}
def qP(b:Array Nat)(i j:Nat):Prop:=(b.getD i 0).testBit j=true
theorem Ct(b:Array Nat)(j:Nat):∀(l:List Edge) (s:Nat),(l.foldl (fun s e=>if Region.binds .any e then s ||| 2 ^ e.on ||| b.getD e.on 0 else s) s).testBit j=true ↔
  s.testBit j=true∨∃e∈l,Region.binds .any e=true∧(j=e.on∨qP b e.on j)
 | [],s=>by simp
 | e::l,s=>by
  rw [List.foldl_cons,Ct b j l]
  by_cases hb:Region.binds .any e=true
  ·rw [if_pos hb]
   have h2:(2 ^ e.on).testBit j=true↔j=e.on:=by rw [Nat.testBit_two_pow];simp [eq_comm]
   simp only [Nat.testBit_or,Bool.or_eq_true,h2,List.mem_cons,exists_eq_or_imp,hb,true_and,qP]
   constructor
   ·rintro (((h | h) | h) | h)
    ·exact .inl h
    ·exact .inr (.inl (.inl h))
    ·exact .inr (.inl (.inr h))
    ·exact .inr (.inr h)
   ·rintro (h | (h | h) | h)
    ·exact .inl (.inl (.inl h))
    ·exact .inl (.inl (.inr h))
    ·exact .inl (.inr h)
    ·exact .inr h
  ·rw [if_neg hb]
   simp [hb]
theorem xH(hb:tj ops b=true){i j:Nat}{o:Oper}(ho:ops[i]? = some o):qP b i j↔∃e∈o.after.toList,Region.binds .any e=true∧(j=e.on∨qP b e.on j):=by
 have aG:=(Array.getElem?_eq_some_iff.1 ho).1
 have h1:=List.all_eq_true.1 hb i (List.mem_range.2 aG)
 rw [ho] at h1
 simp only [Bool.and_eq_true,beq_iff_eq] at h1
 unfold qP
 rw [h1.2,Ct]
 simp [qP]
theorem Iu(hb:tj ops b=true){i:Nat}{o:Oper}(ho:ops[i]? = some o){e:Edge}(he:e∈o.after.toList)(K1:Region.binds .any e=true):e.on<i:=by
 have aG:=(Array.getElem?_eq_some_iff.1 ho).1
 have h1:=List.all_eq_true.1 hb i (List.mem_range.2 aG)
 rw [ho] at h1
 simp only [Bool.and_eq_true] at h1
 have:=List.all_eq_true.1 h1.1 e he
 simpa [K1] using this
theorem zr(hb:tj ops b=true):∀(i j:Nat),i<ops.size→qP b i j→j<i:=by
 intro i
 induction i using Nat.strongRecOn with
 | ind i ih =>
  intro j hi h
  obtain ⟨e,he,K1,h1⟩:=(xH hb (Array.getElem?_eq_getElem hi)).1 h
  have T9:=Iu hb (Array.getElem?_eq_getElem hi) he K1
  rcases h1 with rfl | h1
  ·exact T9
  ·exact Nat.lt_trans (ih e.on T9 j (by omega) h1) T9
theorem Cu(hb:tj ops b=true):∀(i j k:Nat),i<ops.size→qP b i j→qP b j k→qP b i k:=by
 intro i
 induction i using Nat.strongRecOn with
 | ind i ih =>
  intro j k hi h h'
  obtain ⟨e,he,K1,h1⟩:=(xH hb (Array.getElem?_eq_getElem hi)).1 h
  have T9:=Iu hb (Array.getElem?_eq_getElem hi) he K1
  refine (xH hb (Array.getElem?_eq_getElem hi)).2 ⟨e,he,K1,?_⟩
  rcases h1 with rfl | h1
  ·exact .inr h'
  ·exact .inr (ih e.on T9 j k (by omega) h1 h')
theorem get_filter(f:Nat→Bool):∀(hh:Heap) (i:Nat),Heap.get (hh.filter fun p=>f p.1) i=if f i then hh.get i else none
 | [],i=>by simp [Heap.get]
 | (j,o)::r,i=>by
  rw [List.filter_cons]
  split
  ·rename_i hj
   simp only [Heap.get]
   by_cases e:j=i
   ·subst e;simp only at hj;simp [hj]
   ·simp only [if_neg e];exact get_filter f r i
  ·rename_i hj
   rw [get_filter f r i]
   simp only [Heap.get]
   by_cases e:j=i
   ·subst e;simp only at hj;simp [hj]
   ·simp only [if_neg e]
theorem Lf(rid HR:Nat)(hh:Heap)(id:Nat):(ahead rid HR hh).get id=if py rid HR id then hh.get id else none:=by
 unfold ahead
 exact get_filter (fun i=>py rid HR i) hh id
theorem Nr(ft:List Nat)(hp:Heap)(e:bE):(gh ft hp e).v=e.v:=by cases e<;>rfl
theorem Fv{id:Nat}{hh:Heap}{s:List (Nat×AV)}{o:Oper}{x:Operand}{e:bE}(hl:iG o.op=some x)(he:cI P Eqs Sg F id hh s o some=some e):∃v,e=.val v:=by
 obtain ⟨dst,op,type,pos,after,guard⟩:=o
 cases op<;>simp only [iG] at hl<;>first | (cases hl;done) | skip
 case load t a =>
  simp only [cI,kX] at he
  repeat' (first | (cases he;done) | exact ⟨_,(Option.some.inj he).symm⟩ | split at he)
  all_goals
   obtain ⟨y,_,he⟩:=Option.bind_eq_some_iff.1 he
   split at he<;>first | (cases he;done) | exact ⟨_,(Option.some.inj he).symm⟩
 case indexAddr t a i =>
  simp only [cI,dh] at he
  repeat' (first | (cases he;done) | exact ⟨_,(Option.some.inj he).symm⟩ | split at he)
  all_goals first
   | (obtain ⟨y,_,he⟩:=Option.bind_eq_some_iff.1 he;exact ⟨_,(Option.some.inj he).symm⟩)
   | (unfold cond at he;split at he<;>first | (cases he;done) | exact ⟨_,(Option.some.inj he).symm⟩)
theorem Cv{op:Op}{x:Operand}(hl:iG op=some x):mo op=false∧Dp op=false:=by
 cases op<;>simp only [iG] at hl<;>first | (cases hl;done) | exact ⟨rfl,rfl⟩
theorem Ix{id:Nat}{hh h2:Heap}{s:List (Nat×AV)}{o:Oper}{x:Operand}(hl:iG o.op=some x)(hg:∀i∈tl (ρ s x),h2.get i=hh.get i):cI P Eqs Sg F id h2 s o some=cI P Eqs Sg F id hh s o some:=by
 obtain ⟨dst,op,type,pos,after,guard⟩:=o
 cases op<;>simp only [iG] at hl<;>first | (cases hl;done) | skip
 case load t a =>
  cases hl
  simp only [cI,kX]
  cases hv:ρ s x with
  | ref i s' j off=>rw [hv] at hg;simp only [tl,List.mem_singleton,forall_eq] at hg;simp only [hg]
  | _=>rfl
 case indexAddr t a i =>
  cases hl
  simp only [cI,dh]
  cases wc P t with
  | none=>rfl
  | some e =>
   simp only []
   cases hv:ρ s x with
   | bF k =>
    rw [hv] at hg
    have uN:=hg k (by simp [tl])
    cases ρ s i<;>first | rfl | simp only [uN]
   | sl ex k xs=>cases ρ s i<;>rfl
   | _=>rfl
def oP(ops:Array Oper)(T:Nat→AV)(o:Oper)(t:Bool):Prop :=
 match o.guard with
 | none=>t=true
 | some (j,want)=>∃d,(ops[j]?).bind (·.dst)=some d∧((∃u,T d=.bool u∧(u==want)=t)∨(∃vs,T d=.mJ vs∧t=false))
def zt(P:Program)(Eqs:TypeId→Option K)(Sg:FuncId→Option aJ)(F:(f:FuncId)→(g:aJ)→g.A→Option g.B)(rid:Nat)(ops:Array Oper)(b:Array Nat)(T:Nat→Nat→AV)(H:Nat→Hp)(E:Nat→Option bE)(k:Nat)(o:Oper):Prop :=
 (∃e s hh,E k=some e∧look s=T k∧(∀id,Heap.get hh id=if py rid (b.getD k 0) id then H k id else none)∧(∃e0,cI P Eqs Sg F (opId rid k) (gk hh (gm ops b k s o)) s o some=some e0∧e=gh (gm ops b k s o) hh e0∧mq (gm ops b k s o) e0=true) ∧
  fZ true rid ops b k (b.getD k 0) e=true∧oP ops (T k) o true∧T (k+1)=iA (T k) o.dst e.v∧H (k+1)=e.hp (H k)) ∨
 (E k=none∧oP ops (T k) o false∧T (k+1)=iA (T k) o.dst (.mJ [])∧H (k+1)=H k)
theorem trace{kk:St→Option R}{r:R}:∀(l:List (Nat×Oper)) (i:Nat) (st:St),zo ops i l→l.length=ops.size - i→bz P Eqs Sg F rid true ops b l st kk=some r →
  ∃(T:Nat→Nat→AV) (H:Nat→Hp) (E:Nat→Option bE),T i=look st.tmps∧H i=st.heap.get∧(∀k o,i≤k→ops[k]? = some o→zt P Eqs Sg F rid ops b T H E k o) ∧
   ∃dS,kk dS=some r∧look dS.tmps=T (max i ops.size)∧dS.heap.get=H (max i ops.size)
 | [],i,st,_,hlen,hx=>by
  have SD:ops.size≤i:=by simp at hlen;omega
  refine ⟨fun _=>look st.tmps,fun _=>st.heap.get,fun _=>none,rfl,rfl,fun k o hk ho => ?_,st,hx,rfl,rfl⟩
  have:=(Array.getElem?_eq_some_iff.1 ho).1
  omega
 | (i',o)::l,i,st,hl,hlen,hx=>by
  obtain ⟨rfl,ho,hl⟩:=hl
  have aG:=(Array.getElem?_eq_some_iff.1 ho).1
  have ih:=trace (kk:=kk) (r:=r) l (i'+1)
  have WW:l.length=ops.size - (i'+1):=by simp at hlen;omega
  have glue:∀(dS:St) (oe:Option bE),bz P Eqs Sg F rid true ops b l dS kk=some r →
    (∀T H E,T i'=look st.tmps→H i'=st.heap.get→E i'=oe→T (i'+1)=look dS.tmps→H (i'+1)=dS.heap.get→zt P Eqs Sg F rid ops b T H E i' o) →
    ∃(T:Nat→Nat→AV) (H:Nat→Hp) (E:Nat→Option bE),T i'=look st.tmps∧H i'=st.heap.get∧(∀k o,i'≤k→ops[k]? = some o→zt P Eqs Sg F rid ops b T H E k o) ∧
     ∃dS,kk dS=some r∧look dS.tmps=T (max i' ops.size)∧dS.heap.get=H (max i' ops.size):=by
   intro dS oe Ws tw
   obtain ⟨T,H,E,h1,h2,h3,abE,h4,h5,h6⟩:=ih dS hl WW Ws
   refine ⟨fun k=>if k≤i' then look st.tmps else T k,fun k=>if k≤i' then st.heap.get else H k,fun k=>if k=i' then oe else E k,by simp,by simp,fun k o' hk my => ?_,abE,h4,?_,?_⟩
   ·by_cases hki:k=i'
    ·subst hki
     rw [ho] at my
     cases my
     exact tw _ _ _ (by simp) (by simp) (by simp) (by show (if k+1≤k then _ else _)=_;rw [if_neg (by omega)];exact h1) (by show (if k+1≤k then _ else _)=_;rw [if_neg (by omega)];exact h2)
    ·have h7:=h3 k o' (by omega) my
     unfold zt at h7 ⊢
     simp only [show ¬k≤i' by omega,show ¬k+1≤i' by omega,hki,if_false]
     exact h7
   ·rw [h5];simp only [show max (i'+1) ops.size=ops.size by omega,show max i' ops.size=ops.size by omega,show ¬ops.size≤i' by omega,if_false]
   ·rw [h6];simp only [show max (i'+1) ops.size=ops.size by omega,show max i' ops.size=ops.size by omega,show ¬ops.size≤i' by omega,if_false]
  have runs:∀g6:St,look g6.tmps=look st.tmps→g6.heap=st.heap→oP ops (look st.tmps) o true →
    (cI P Eqs Sg F (opId rid i') (gk (ahead rid (b.getD i' 0) g6.heap) (gm ops b i' g6.tmps o)) g6.tmps o fun e=>if (fZ true rid ops b i' (b.getD i' 0) (gh (gm ops b i' g6.tmps o) (ahead rid (b.getD i' 0) g6.heap) e)&&mq (gm ops b i' g6.tmps o) e)=true then bz P Eqs Sg F rid true ops b l ({ g6 with heap:=match gh (gm ops b i' g6.tmps o) (ahead rid (b.getD i' 0) g6.heap) e with | .wr _ h=>h | e=>e.h g6.heap }.put o.dst e.v) kk else none)=some r →
    ∃(T:Nat→Nat→AV) (H:Nat→Hp) (E:Nat→Option bE),T i'=look st.tmps∧H i'=st.heap.get∧(∀k o,i'≤k→ops[k]? = some o→zt P Eqs Sg F rid ops b T H E k o) ∧
     ∃dS,kk dS=some r∧look dS.tmps=T (max i' ops.size)∧dS.heap.get=H (max i' ops.size):=by
   intro g6 h1 h2 hw hx
   rw [kL] at hx
   obtain ⟨e,he,hx⟩:=Option.bind_eq_some_iff.1 hx
   split at hx
   ·rename_i lJ
    rw [Bool.and_eq_true] at lJ
    generalize BJ:gh (gm ops b i' g6.tmps o) (ahead rid (b.getD i' 0) g6.heap) e=e1 at hx lJ
    have tD:e.v=e1.v:=by rw [←BJ];exact (Nr _ _ _).symm
    refine glue _ (some e1) hx fun T H E hT hH hE hT' TY => ?_
    refine .inl ⟨e1,g6.tmps,_,hE,by rw [hT,h1],fun id=>by rw [Lf,hH,h2],⟨e,he,BJ.symm,lJ.2⟩,lJ.1,by rw [hT];exact hw,?_,?_⟩
    ·rw [hT',gD,hT,tD];simp only [h1]
    ·rw [TY,cY,hH]
     have:(bE.heap e1 g6.heap).get=e1.hp st.heap.get:=by rw [bE.Fs,h2]
     exact this
   ·cases hx
  have zq:∀g6:St,look g6.tmps=look st.tmps→g6.heap=st.heap→oP ops (look st.tmps) o false →
    bz P Eqs Sg F rid true ops b l (g6.put o.dst (.mJ [])) kk=some r →
    ∃(T:Nat→Nat→AV) (H:Nat→Hp) (E:Nat→Option bE),T i'=look st.tmps∧H i'=st.heap.get∧(∀k o,i'≤k→ops[k]? = some o→zt P Eqs Sg F rid ops b T H E k o) ∧
     ∃dS,kk dS=some r∧look dS.tmps=T (max i' ops.size)∧dS.heap.get=H (max i' ops.size):=by
   intro g6 h1 h2 hw hx
   refine glue _ none hx fun T H E hT hH hE hT' TY=>.inr ⟨hE,by rw [hT];exact hw,?_,?_⟩
   ·rw [hT',gD,hT,h1]
   ·rw [TY,cY,hH,h2]
  rw [bz] at hx
  simp only [if_true] at hx
  split at hx
  ·rename_i hg
   exact runs st rfl rfl (by simp [oP,hg]) hx
  ·rename_i jj want hg
   split at hx
   ·cases hx
   ·rename_i d hd
    split at hx
    ·rename_i t ht
     have hp:∀b,t=b→look (st.put (some d) (.bool b)).tmps=look st.tmps:=fun b hb=>by
      subst hb;rw [gD];exact Cq ht
     have hw:∀c,(t==want)=c→oP ops (look st.tmps) o c:=fun c hc=>by
      unfold oP;rw [hg];exact ⟨d,hd,.inl ⟨t,ht,hc⟩⟩
     cases t<;>simp only [cond_true,cond_false] at hx<;>split at hx<;>rename_i pT
     ·exact zq _ (hp false rfl) (cY _ _ _) (hw _ (by simp [pT])) hx
     ·exact runs _ (hp false rfl) (cY _ _ _) (hw _ (by simp [pT])) hx
     ·exact runs _ (hp true rfl) (cY _ _ _) (hw _ (by simp [pT])) hx
     ·exact zq _ (hp true rfl) (cY _ _ _) (hw _ (by simp [pT])) hx
    ·rename_i vs ht
     exact zq st rfl rfl (by unfold oP;rw [hg];exact ⟨d,hd,.inr ⟨vs,ht,rfl⟩⟩) hx
    ·cases hx
def Nf(ops:Array Oper)(j:Nat):Prop:=∃o,ops[j]? = some o∧mo o.op=false∧iG o.op=none
def xI(E:Nat→Option bE)(k:Nat):Prop:=∃v h',E k=some (.wr v h')
def VQ(E:Nat→Option bE)(k:Nat):Prop:=∃v os,E k=some (.new v os)
theorem tN{α:Type}(f:α→Option Nat):∀(l:List α),b4 (l.filterMap f)=true→∀(i j:Nat) (x y:α) (d:Nat),l[i]? = some x→l[j]? = some y→f x=some d→f y=some d→i=j
 | [],_,i,j,x,y,d,hi,_,_,_=>by simp at hi
 | a::r,hn,i,j,x,y,d,hi,hj,hx,hy=>by
  have iM:∀(k:Nat) (z:α),r[k]? = some z→f z=some d→d∈r.filterMap f:=fun k z hk hz=>List.mem_filterMap.2 ⟨z,List.mem_of_getElem? hk,hz⟩
  have hr:b4 (r.filterMap f)=true∧∀c,f a=some c→c∉r.filterMap f:=by
   rw [List.filterMap_cons] at hn
   split at hn
   ·rename_i h0;exact ⟨hn,fun c hc=>by rw [h0] at hc;cases hc⟩
   ·rename_i c h0
    simp only [b4,Bool.and_eq_true,Bool.not_eq_true'] at hn
    refine ⟨hn.2,fun c' hc => ?_⟩
    rw [h0] at hc;cases hc
    intro hm
    rw [List.contains_iff_mem.2 hm] at hn;simp at hn
  cases i with
  | zero =>
   cases j with
   | zero=>rfl
   | succ j =>
    simp only [List.getElem?_cons_zero,Option.some.injEq] at hi;subst hi
    exact absurd (iM j y (by simpa using hj) hy) (hr.2 d hx)
  | succ i =>
   cases j with
   | zero =>
    simp only [List.getElem?_cons_zero,Option.some.injEq] at hj;subst hj
    exact absurd (iM i x (by simpa using hi) hx) (hr.2 d hy)
   | succ j=>rw [tN f r hr.1 i j x y d (by simpa using hi) (by simpa using hj) hx hy]
structure Dr(P:Program)(Eqs:TypeId→Option K)(Sg:FuncId→Option aJ)(F:(f:FuncId)→(g:aJ)→g.A→Option g.B)(rid n:Nat)(ops:Array Oper)(b:Array Nat)(T:Nat→Nat→AV)(H:Nat→Hp)(E:Nat→Option bE):Prop where
 size:ops.size≤128
 Mw:tj ops b=true
 pair:yw ops b=true
 abG:∀(i:Nat) (o:Oper),ops[i]? = some o→gS n o=true
 nodup:b4 (ops.toList.filterMap (·.dst))=true
 step:∀k o,ops[k]? = some o→zt P Eqs Sg F rid ops b T H E k o
 abH:∀id,H 0 id≠none→id / 32768≠rid+1
section
variable {T:Nat→Nat→AV} {H:Nat→Hp} {E:Nat→Option bE}
theorem Dr.xJ(D:Dr P Eqs Sg F rid n ops b T H E){i j:Nat}{x y:Oper}{d:Nat}(hi:ops[i]? = some x)(hj:ops[j]? = some y)(hx:x.dst=some d)(hy:y.dst=some d):i=j :=
 tN (·.dst) ops.toList D.nodup i j x y d (by simpa using hi) (by simpa using hj) hx hy
theorem Dr.SK(D:Dr P Eqs Sg F rid n ops b T H E){i j:Nat}{x y:Oper}(hi:ops[i]? = some x)(hj:ops[j]? = some y)(yP:i<j):qP b j i∨x.apart ops y=true:=by
 have h1:=List.all_eq_true.1 D.pair j (List.mem_range.2 (Array.getElem?_eq_some_iff.1 hj).1)
 have h2:=List.all_eq_true.1 h1 i (List.mem_range.2 yP)
 rw [hi,hj] at h2
 simp only [Bool.or_eq_true,Bool.and_eq_true] at h2
 exact h2
theorem Dr.Q8(D:Dr P Eqs Sg F rid n ops b T H E){k:Nat}{o:Oper}(ho:ops[k]? = some o){e:bE}(he:E k=some e) :
  ∃s hh,look s=T k∧(∀id,Heap.get hh id=if py rid (b.getD k 0) id then H k id else none)∧(∃e0,cI P Eqs Sg F (opId rid k) (gk hh (gm ops b k s o)) s o some=some e0∧e=gh (gm ops b k s o) hh e0∧mq (gm ops b k s o) e0=true) ∧
   fZ true rid ops b k (b.getD k 0) e=true∧oP ops (T k) o true∧T (k+1)=iA (T k) o.dst e.v∧H (k+1)=e.hp (H k):=by
 rcases D.step k o ho with ⟨e',s,hh,h1,h2⟩ | ⟨h1,_⟩
 ·rw [he] at h1;cases h1;exact ⟨s,hh,h2⟩
 ·rw [he] at h1;cases h1
theorem Dr.DP(D:Dr P Eqs Sg F rid n ops b T H E){k:Nat}{o:Oper}(ho:ops[k]? = some o)(he:E k=none) :
  oP ops (T k) o false∧T (k+1)=iA (T k) o.dst (.mJ [])∧H (k+1)=H k:=by
 rcases D.step k o ho with ⟨e',s,hh,h1,h2⟩ | ⟨h1,h2⟩
 ·rw [he] at h1;cases h1
 ·exact h2
theorem Dr.vm(D:Dr P Eqs Sg F rid n ops b T H E){k:Nat}(hk:k<ops.size)(h:VQ E k):Nf ops k:=by
 obtain ⟨v,os,he⟩:=h
 obtain ⟨s,hh,_,_,⟨e0,h3,Sz,_⟩,_⟩:=D.Q8 (Array.getElem?_eq_getElem hk) he
 refine ⟨_,Array.getElem?_eq_getElem hk,?_,?_⟩
 ·cases hf:mo (ops[k]).op with
  | false=>rfl
  | true=>obtain ⟨v',rfl⟩:=Fl hf h3;cases Sz
 ·cases hf:iG (ops[k]).op with
  | none=>rfl
  | some x=>obtain ⟨v',rfl⟩:=Fv hf h3;cases Sz
theorem Dr.Ns(D:Dr P Eqs Sg F rid n ops b T H E){k:Nat}(hk:k<ops.size)(h:xI E k):Nf ops k:=by
 obtain ⟨v,os,he⟩:=h
 obtain ⟨s,hh,_,_,⟨e0,h3,Sz,_⟩,_⟩:=D.Q8 (Array.getElem?_eq_getElem hk) he
 refine ⟨_,Array.getElem?_eq_getElem hk,?_,?_⟩
 ·cases hf:mo (ops[k]).op with
  | false=>rfl
  | true=>obtain ⟨v',rfl⟩:=Fl hf h3;cases Sz
 ·cases hf:iG (ops[k]).op with
  | none=>rfl
  | some x=>obtain ⟨v',rfl⟩:=Fv hf h3;cases Sz
theorem Dr.zu(D:Dr P Eqs Sg F rid n ops b T H E){k j:Nat}(hk:k<ops.size)(h:xI E k)(hj:Nf ops j)(bh:j≠k):(j<k∧qP b k j)∨(k<j∧qP b j k):=by
 obtain ⟨v,os,he⟩:=h
 obtain ⟨s,hh,_,_,_,h4,_⟩:=D.Q8 (Array.getElem?_eq_getElem hk) he
 obtain ⟨o,ho,hf,Qq⟩:=hj
 have HE:=(Array.getElem?_eq_some_iff.1 ho).1
 simp only [fZ,Bool.and_eq_true] at h4
 have h5:HQ ops b k=true:=by simpa using h4.1.1
 have h6:=List.all_eq_true.1 h5 j (List.mem_range.2 HE)
 have hlf:tk ops k j=false:=by unfold tk;rw [ho];simp only [Option.bind_some,Qq]
 rw [hlf,Bool.and_false,ho] at h6
 simp only [Bool.or_eq_true,beq_iff_eq,hf,Bool.false_eq_true,or_false] at h6
 rcases h6 with (h6 | h6) | h6
 ·exact absurd h6 bh
 ·exact .inr ⟨zr D.Mw j k HE h6,h6⟩
 ·exact .inl ⟨zr D.Mw k j hk h6,h6⟩
theorem Dr.zw(D:Dr P Eqs Sg F rid n ops b T H E){p:Nat}:∀(q:Nat),p≤q→q≤ops.size→∀id,(∀k,p≤k→k<q→xI E k→H (k+1) id=H k id)→(∀k,p≤k→k<q→VQ E k→¬Of rid k id)→H q id=H p id:=by
 intro q
 induction q with
 | zero=>intro yU _ id _ _;rw [Nat.le_zero.1 yU]
 | succ q ih =>
  intro yU hq id hw bO
  by_cases he:p=q+1
  ·rw [he]
  ·have h1:=ih (by omega) (by omega) id (fun k h1 h2=>hw k h1 (by omega)) (fun k h1 h2=>bO k h1 (by omega))
   rw [←h1]
   have ho:=Array.getElem?_eq_getElem (show q<ops.size by omega)
   cases hE:E q with
   | none=>rw [(D.DP ho hE).2.2]
   | some e =>
    obtain ⟨s,hh,_,_,_,h4,_,_,h7⟩:=D.Q8 ho hE
    cases e with
    | val v=>rw [h7];rfl
    | wr v h'=>exact hw q (by omega) (by omega) ⟨v,h',hE⟩
    | new v os =>
     rw [h7]
     simp only [bE.hp]
     cases Mt:Heap.get os id with
     | none=>rfl
     | some o' =>
      exfalso
      simp only [fZ,Bool.and_eq_true] at h4
      refine bO q (by omega) (by omega) ⟨v,os,hE⟩ ?_
      have:∀(l:Heap),(l.all fun p=>p.1 / 256==(rid+1) * 128+q)=true→∀o',l.get id=some o'→Of rid q id:=by
       intro l
       induction l with
       | nil=>intro _ o' h;simp [Heap.get] at h
       | cons a r ihl =>
        intro eU o' hg
        simp only [List.all_cons,Bool.and_eq_true,beq_iff_eq] at eU
        simp only [Heap.get] at hg
        split at hg
        ·rename_i e;rw [←e];exact eU.1
        ·exact ihl eU.2 o' hg
      exact this os h4.1.2 o' Mt
theorem Dr.xK(D:Dr P Eqs Sg F rid n ops b T H E){p:Nat}(q:Nat)(yU:p≤q)(hq:q≤ops.size)(hw:∀k,p≤k→k<q→¬xI E k)(id:Nat)(hn:∀k,p≤k→k<q→VQ E k→¬Of rid k id):H q id=H p id :=
 D.zw q yU hq id (fun k h1 h2 h3=>absurd h3 (hw k h1 h2)) hn
theorem Dr.names(D:Dr P Eqs Sg F rid n ops b T H E):∀(k:Nat),k≤ops.size→∀id,H k id≠none→id / 32768=rid+1→∃j,Of rid j id∧j<k∧j<128∧(VQ E j∨∃w,w<k∧xI E w∧(j=w∨qP b w j)):=by
 intro k
 induction k with
 | zero=>intro _ id h1 h2;exact absurd h2 (D.abH id h1)
 | succ k ih =>
  intro hk id h1 h2
  have aG:k<ops.size:=by omega
  have up:H k id≠none→∃j,Of rid j id∧j<k+1∧j<128∧(VQ E j∨∃w,w<k+1∧xI E w∧(j=w∨qP b w j)):=fun h=>by
   obtain ⟨j,h3,h4,h4',h5⟩:=ih (by omega) id h h2
   exact ⟨j,h3,by omega,h4',h5.imp (fun h=>h) fun ⟨w,h6,h7⟩=>⟨w,by omega,h7⟩⟩
  have ho:=Array.getElem?_eq_getElem aG
  have Nt:=D.size
  cases hE:E k with
  | none=>rw [(D.DP ho hE).2.2] at h1;exact up h1
  | some e =>
   obtain ⟨s,hh,_,_,_,h4,_,_,h7⟩:=D.Q8 ho hE
   rw [h7] at h1
   cases e with
   | val v=>exact up h1
   | wr v h' =>
    obtain ⟨o',my⟩:=Option.ne_none_iff_exists'.1 h1
    simp only [fZ,Bool.and_eq_true] at h4
    have h5:(b.getD k 0 ||| 2 ^ k).testBit (id / 256 % 128)=true:=(lq (S:=fun j=>(b.getD k 0 ||| 2 ^ k).testBit j=true) (fun j hj=>hj) h4.2 id o' my).1 h2
    rw [Nat.testBit_or,Bool.or_eq_true,Nat.testBit_two_pow] at h5
    refine ⟨id / 256 % 128,Of.of h2 rfl,?_,by omega,.inr ⟨k,by omega,⟨v,h',hE⟩,?_⟩⟩
    ·rcases h5 with h5 | h5
     ·have:=zr D.Mw k _ aG h5;omega
     ·have:=of_decide_eq_true h5;omega
    ·rcases h5 with h5 | h5
     ·exact .inr h5
     ·exact .inl (of_decide_eq_true h5).symm
   | new v os =>
    simp only [bE.hp] at h1
    cases Mt:Heap.get os id with
    | none=>rw [Mt] at h1;exact up h1
    | some o' =>
     simp only [fZ,Bool.and_eq_true] at h4
     have:∀(l:Heap),(l.all fun p=>p.1 / 256==(rid+1) * 128+k)=true→∀o',l.get id=some o'→Of rid k id:=by
      intro l
      induction l with
      | nil=>intro _ o' h;simp [Heap.get] at h
      | cons a r ihl =>
       intro eU o' hg
       simp only [List.all_cons,Bool.and_eq_true,beq_iff_eq] at eU
       simp only [Heap.get] at hg
       split at hg
       ·rename_i e;rw [←e];exact eU.1
       ·exact ihl eU.2 o' hg
     exact ⟨k,this os h4.1.2 o' Mt,by omega,by omega,.inl ⟨v,os,hE⟩⟩
theorem Dr.Ua(D:Dr P Eqs Sg F rid n ops b T H E){q:Nat}(nI:q<ops.size)(Q9:xI E q):∀id,H q id≠none→lL rid (qP b q) id:=fun id bh Nu=>by
 obtain ⟨j,h1,h2,h2',h3⟩:=D.names q (by omega) id bh Nu
 rw [(h1.parts h2').2]
 rcases h3 with h3 | ⟨w',h5,h6,h8⟩
 ·rcases D.zu nI Q9 (D.vm (by omega) h3) (by omega) with ⟨_,h9⟩ | ⟨h9,_⟩
  ·exact h9
  ·omega
 ·have WX:qP b q w':=by
   rcases D.zu nI Q9 (D.Ns (by omega) h6) (by omega) with ⟨_,h9⟩ | ⟨h9,_⟩
   ·exact h9
   ·omega
  rcases h8 with rfl | h8
  ·exact WX
  ·exact Cu D.Mw q w' j nI WX h8
theorem Dr.vn(D:Dr P Eqs Sg F rid n ops b T H E){d p:Nat}:∀(q:Nat),p≤q→q≤ops.size→(∀m o,p≤m→m<q→ops[m]? = some o→o.dst≠some d)→T q d=T p d
 | 0,h,_,_=>by rw [Nat.le_zero.1 h]
 | q+1,h,hq,hm=>by
  by_cases e:p=q+1
  ·rw [e]
  ·have ho:=Array.getElem?_eq_getElem (show q<ops.size by omega)
   have ih:=D.vn q (by omega) (by omega) fun m o h1 h2=>hm m o h1 (by omega)
   rw [←ih]
   have hd:=hm q _ (by omega) (by omega) ho
   have key:∀v,iA (T q) (ops[q]).dst v d=T q d:=fun v=>by
    cases kh:(ops[q]).dst with
    | none=>rfl
    | some d' =>
     simp only [iA,dK]
     rw [if_neg]
     rintro rfl
     exact hd kh
   rcases D.step q _ ho with ⟨e,s,hh,_,_,_,_,_,_,h7,_⟩ | ⟨_,_,h3,_⟩
   ·rw [h7,key]
   ·rw [h3,key]
theorem Dr.steady(D:Dr P Eqs Sg F rid n ops b T H E){i k:Nat}{o:Oper}{x:Operand}(ho:ops[i]? = some o)(hl:iG o.op=some x)(hk:k<ops.size)(hw:xI E k)(bh:i≠k)(h1:¬qP b i k)(h2:¬qP b k i)
  {s:List (Nat×AV)} (hs:look s=T i) {id:Nat} (bO:id∈tl (ρ s x)):H (k+1) id=H k id:=by
 have nI:=(Array.getElem?_eq_some_iff.1 ho).1
 obtain ⟨v,h',hE⟩:=hw
 have lJ:=Array.getElem?_eq_getElem hk
 obtain ⟨sk,hh,Nv,Ra,⟨e0,Sz,BJ,te⟩,h4,_,_,h7⟩:=D.Q8 lJ hE
 simp only [fZ,Bool.and_eq_true] at h4
 have h5:HQ ops b k=true:=by simpa using h4.1.1
 have h6:=List.all_eq_true.1 h5 i (List.mem_range.2 nI)
 rw [ho,lJ] at h6
 have b1:(b.getD i 0).testBit k=false:=Bool.eq_false_iff.2 h1
 have b2:(b.getD k 0).testBit i=false:=Bool.eq_false_iff.2 h2
 have b3:(i==k)=false:=by simp [bh]
 simp only [b1,b2,b3,(Cv hl).1,Bool.false_or,Bool.and_eq_true] at h6
 obtain ⟨Cw,JJ⟩:=h6
 have WY:gm ops b k sk ops[k]=TH ops b k sk:=by unfold gm;rw [if_pos Cw]
 have mK:ρ sk x=ρ s x:=by
  cases x with
  | tmp d =>
   simp only [ρ,Nv,hs]
   unfold tk at JJ
   rw [ho] at JJ
   simp only [Option.bind_some,hl] at JJ
   have hm:∀m o',min k i≤m→m<max k i→ops[m]? = some o'→o'.dst≠some d:=fun m o' g1 g2 g3 hd=>by
    have g4:=List.all_eq_true.1 JJ m (List.mem_range.2 (by omega))
    rw [g3] at g4
    simp [hd,g1,g2] at g4
   rcases Nat.lt_or_ge i k with g | g
   ·exact D.vn k (by omega) (by omega) fun m o' g1 g2=>hm m o' (by omega) (by omega)
   ·exact (D.vn i (by omega) (by omega) fun m o' g1 g2=>hm m o' (by omega) (by omega)).symm
  | _=>rfl
 have iM:id∈gm ops b k sk ops[k]:=by
  rw [WY]
  unfold TH
  refine List.mem_flatMap.2 ⟨i,List.mem_range.2 nI,?_⟩
  rw [b1,b2,b3,ho]
  simp only [Bool.or_self,Bool.false_eq_true,if_false,Option.bind_some,hl]
  rw [mK];exact bO
 cases e0 with
 | val v0=>cases BJ
 | new v0 os=>cases BJ
 | wr v0 MO =>
  cases BJ
  simp only [mq,Bool.and_eq_true] at te
  have hn:MO.get id=none:=by
   cases e:MO.get id with
   | none=>rfl
   | some ob=>exact absurd iM (jX te.2 id ob e).1
  rw [h7]
  show (eJ _ hh MO).get id=H k id
  rw [jV,if_pos iM,hn,Ra id]
  cases abK:H k id with
  | none=>simp
  | some ob =>
   have h8:=D.Ua hk ⟨_,_,hE⟩ id (by rw [abK];simp)
   have h9:py rid (b.getD k 0) id=true:=by
    unfold py
    by_cases hr:id / 32768=rid+1
    ·have:=h8 hr
     unfold qP at this
     rw [this];simp
    ·simp [hr]
   rw [if_pos h9]
end
end Go.Vs
namespace Go.Vs
variable {P:Program} {Eqs:TypeId→Option K} {Sg:FuncId→Option aJ} {F:(f:FuncId)→(g:aJ)→g.A→Option g.B} {R:Type}
variable {Z Z' Z0:Nat→Prop} {ψ ψ' ψ0:Nat→Value} {h h':Hp} {w w' w0:World} {B0:Nat} {O N:Nat→Prop}
variable {rid n:Nat} {ops:Array Oper} {b:Array Nat} {T:Nat→Nat→AV} {H:Nat→Hp} {E:Nat→Option bE}
structure Dj(rid:Nat)(ops:Array Oper)(b:Array Nat)(T:Nat→Nat→AV)(H:Nat→Hp)(E:Nat→Option bE)(S:Nat→Prop)(Tc:Nat→AV)(h:Hp):Prop where
 lt:∀i,S i→i<ops.size
 closed:∀i j,S i→qP b i j→S j
 heap:∃q,q≤ops.size∧(∀k,k<q→xI E k→S k)∧(q<ops.size→xI E q∧¬S q)∧∀id,(lL rid S id→h id=H q id)∧(¬lL rid S id→h id=none)
 Nw:∀j o d,S j→ops[j]? = some o→o.dst=some d→Tc d=T (j+1) d
 told:∀d,(∀j o,S j→ops[j]? = some o→o.dst≠some d)→Tc d=T 0 d
theorem Dr.Nx(D:Dr P Eqs Sg F rid n ops b T H E){k:Nat}{o:Oper}(ho:ops[k]? = some o){d:Nat}(hd:o.dst≠some d):T (k+1) d=T k d:=by
 have:∀v,iA (T k) o.dst v d=T k d:=fun v=>by
  cases kh:o.dst with
  | none=>rfl
  | some d' =>
   simp only [iA,dK]
   rw [if_neg]
   rintro rfl
   exact hd kh
 rcases D.step k o ho with ⟨e,s,hh,_,_,_,_,_,_,h7,_⟩ | ⟨_,_,h3,_⟩
 ·rw [h7,this]
 ·rw [h3,this]
theorem Dr.tO(D:Dr P Eqs Sg F rid n ops b T H E){d:Nat}:∀(i:Nat),i≤ops.size→(∀k o,k<i→ops[k]? = some o→o.dst≠some d)→T i d=T 0 d
 | 0,_,_=>rfl
 | i+1,hi,hk=>by
  rw [D.Nx (Array.getElem?_eq_getElem (show i<ops.size by omega)) (hk i _ (by omega) (Array.getElem?_eq_getElem (by omega)))]
  exact D.tO i (by omega) fun k o h1 h2=>hk k o (by omega) h2
theorem Dr.DQ(D:Dr P Eqs Sg F rid n ops b T H E){d j:Nat}{oj:Oper}(hj:ops[j]? = some oj)(hd:oj.dst=some d):∀(i:Nat),i≤ops.size→j<i→T i d=T (j+1) d
 | 0,_,h=>by omega
 | i+1,hi,h=>by
  by_cases e:j=i
  ·rw [e]
  ·have ho:=Array.getElem?_eq_getElem (show i<ops.size by omega)
   rw [D.Nx ho (fun hdi=>e (D.xJ hj ho hd hdi))]
   exact D.DQ hj hd i (by omega) (by omega)
theorem Dr.looks(D:Dr P Eqs Sg F rid n ops b T H E){S:Nat→Prop}{Tc:Nat→AV}(dj:Dj rid ops b T H E S Tc h){i:Nat}{o:Oper}(ho:ops[i]? = some o)(hS:¬S i)(hb:∀j,qP b i j→S j){d:Nat}(hd:d∈o.looksAt ops):Tc d=T i d:=by
 have hi:=(Array.getElem?_eq_some_iff.1 ho).1
 by_cases hex:∃(j:Nat) (oj:Oper),ops[j]? = some oj∧oj.dst=some d
 ·obtain ⟨j,oj,hj,VR⟩:=hex
  have cF:¬S j→Tc d=T 0 d:=fun hn=>dj.told d fun j' o' hs my Ny=>hn (by rw [D.xJ hj my VR Ny];exact hs)
  have Mw:i≤j→T i d=T 0 d:=fun yP=>D.tO i (by omega) fun k o' hk my Ny=>by have:=D.xJ hj my VR Ny;omega
  rcases Nat.lt_trichotomy j i with aG | rfl | HK
  ·rcases D.SK hj ho aG with h1 | h1
   ·rw [dj.Nw j oj d (hb j h1) hj VR,D.DQ hj VR i (by omega) aG]
   ·exact absurd hd ((Oper.apart_spec h1).1 d VR)
  ·rw [cF hS,Mw (Nat.le_refl _)]
  ·rcases D.SK ho hj HK with h1 | h1
   ·rw [cF (fun hs=>hS (dj.closed j i hs h1)),Mw (by omega)]
   ·exact absurd hd ((Oper.apart_spec h1).2.2 d VR)
 ·rw [dj.told d fun j o' _ my Ny=>hex ⟨j,o',my,Ny⟩,D.tO i (by omega) fun k o' _ my Ny=>hex ⟨k,o',my,Ny⟩]
theorem Dr.Nz{S:Nat→Prop}{Tc:Nat→AV}(D:Dr P Eqs Sg F rid n ops b T H E)(dj:Dj rid ops b T H E S Tc h){i:Nat}{o:Oper}(ho:ops[i]? = some o)(hS:¬S i){v:AV}(hv:T (i+1)=iA (T i) o.dst v) :
  (∀j o' d,(S j∨j=i)→ops[j]? = some o'→o'.dst=some d→iA Tc o.dst v d=T (j+1) d)∧(∀d,(∀j o',(S j∨j=i)→ops[j]? = some o'→o'.dst≠some d)→iA Tc o.dst v d=T 0 d):=by
 constructor
 ·intro j o' d hj my hd
  rcases hj with hj | rfl
  ·have bh:j≠i:=fun e=>hS (e▸hj)
   have:iA Tc o.dst v d=Tc d:=by
    cases kh:o.dst with
    | none=>rfl
    | some d' =>
     simp only [iA,dK]
     rw [if_neg]
     rintro rfl
     exact bh (D.xJ my ho hd kh)
   rw [this];exact dj.Nw j o' d hj my hd
  ·rw [ho] at my;cases my
   rw [hv,hd];simp [iA,dK]
 ·intro d hd
  have:iA Tc o.dst v d=Tc d:=by
   cases kh:o.dst with
   | none=>rfl
   | some d' =>
    simp only [iA,dK]
    rw [if_neg]
    rintro rfl
    exact hd i o (.inr rfl) ho kh
  rw [this];exact dj.told d fun j o' hj=>hd j o' (.inl hj)
theorem tP{i k id:Nat}(h1:Of rid i id)(h2:Of rid k id):i=k:=by unfold Of at h1 h2;omega
section
variable {S:Nat→Prop} {Tc:Nat→AV}
theorem Dr.calm(D:Dr P Eqs Sg F rid n ops b T H E)(dj:Dj rid ops b T H E S Tc h){i q:Nat}(hi:Nf ops i)(hS:¬S i)(hq:q≤ops.size)(hw:∀k,k<q→xI E k→S k):∀k,i≤k→k<q→¬xI E k:=by
 intro k NA hkq hk
 have Nv:=hw k hkq hk
 have bh:i≠k:=fun e=>hS (e▸Nv)
 rcases D.zu (by omega) hk hi bh with ⟨_,h1⟩ | ⟨h1,_⟩
 ·exact hS (dj.closed k i Nv h1)
 ·omega
theorem Dr.seen(D:Dr P Eqs Sg F rid n ops b T H E)(dj:Dj rid ops b T H E S Tc h){i:Nat}(hi:Nf ops i)(hS:¬S i)(hb:∀j,qP b i j→S j){hh:Heap}(Ra:∀id,Heap.get hh id=if py rid (b.getD i 0) id then H i id else none) :
  ∀id o,hh.get id=some o→h id=some o:=by
 obtain ⟨q,hq,hw,ij,eV⟩:=dj.heap
 have nI:i<ops.size:=by obtain ⟨o,ho,hf1,hf2⟩:=hi;exact (Array.getElem?_eq_some_iff.1 ho).1
 have WZ:i≤q:=by
  rcases Nat.lt_or_ge q i with h1 | h1
  ·obtain ⟨h2,h3⟩:=ij (by omega)
   rcases D.zu (by omega) h2 hi (by omega) with ⟨h4,_⟩ | ⟨_,h4⟩
   ·omega
   ·exact absurd (hb q h4) h3
  ·exact h1
 intro id o bO
 rw [Ra] at bO
 split at bO
 ·rename_i lJ
  have lK:lL rid S id:=mX hb lJ
  rw [(eV id).1 lK,D.xK q WZ hq (D.calm dj hi hS hq hw) id fun k hk _ _ ho => ?_,bO]
  have Nu:=(ho.parts (by have:=D.size;omega)).1
  obtain ⟨j,h1,h2,_⟩:=D.names i (by omega) id (by rw [bO];simp) Nu
  have:=tP h1 ho
  omega
 ·cases bO
theorem Dr.Lg(D:Dr P Eqs Sg F rid n ops b T H E)(dj:Dj rid ops b T H E S Tc h){i:Nat}{o:Oper}{x:Operand}(ho:ops[i]? = some o)(hl:iG o.op=some x)(hS:¬S i)(hb:∀j,qP b i j→S j){s:List (Nat×AV)}(hs:look s=T i)
  {hh:Heap} (Ra:∀id,Heap.get hh id=if py rid (b.getD i 0) id then H i id else none):∀id∈tl (ρ s x),∀ob,hh.get id=some ob→h id=some ob:=by
 obtain ⟨q,hq,hw,ij,eV⟩:=dj.heap
 have nI:=(Array.getElem?_eq_some_iff.1 ho).1
 have Nt:=D.size
 intro id bO ob jo
 rw [Ra] at jo
 split at jo
 ·rename_i lJ
  have lK:lL rid S id:=mX hb lJ
  rw [(eV id).1 lK,←jo]
  rcases Nat.lt_or_ge q i with hqi | WZ
  ·obtain ⟨h2,h3⟩:=ij (by omega)
   have later:∀k,q<k→k<ops.size→Nf ops k→qP b k q:=fun k h4 h5 h6=>by
    rcases D.zu (by omega) h2 h6 (by omega) with ⟨h7,_⟩ | ⟨_,h7⟩
    ·omega
    ·exact h7
   have W0:∀k,q≤k→k<i→Nf ops k→¬S k:=fun k h4 h5 h6 hk=>by
    rcases Nat.eq_or_lt_of_le h4 with e | h7
    ·exact h3 (e▸hk)
    ·exact h3 (dj.closed k q hk (later k h7 (by omega) h6))
   symm
   refine D.zw i (by omega) (by omega) id (fun k h4 h5 h6 => ?_) (fun k h4 h5 h6 h7 => ?_)
   ·have hns:=W0 k h4 h5 (D.Ns (by omega) h6)
    exact D.steady ho hl (by omega) h6 (by omega) (fun Iy=>hns (hb k Iy)) (fun Iy=>by have:=zr D.Mw k i (by omega) Iy;omega) hs bO
   ·have hns:=W0 k h4 h5 (D.vm (by omega) h6)
    have h8:=h7.parts (show k<128 by omega)
    have h9:=lK h8.1
    rw [h8.2] at h9
    exact hns h9
  ·refine D.zw q WZ hq id (fun k h4 h5 h6 => ?_) (fun k h4 h5 h6 h7 => ?_)
   ·have Nv:=hw k h5 h6
    have bh:i≠k:=fun e=>hS (e▸Nv)
    exact D.steady ho hl (by omega) h6 bh (fun Iy=>by have:=zr D.Mw i k nI Iy;omega) (fun Iy=>hS (dj.closed k i Nv Iy)) hs bO
   ·obtain ⟨j,h8,h9,_⟩:=D.names i (by omega) id (by rw [jo];simp) (h7.parts (by omega)).1
    have:=tP h8 h7
    omega
 ·cases jo
theorem NB(E:Nat→Option bE)(S:Nat→Prop)(m:Nat):∃q,q≤m∧(∀k,k<q→xI E k→S k)∧(q<m→xI E q∧¬S q):=by
 classical
 induction m with
 | zero=>exact ⟨0,Nat.le_refl _,fun k hk=>by omega,fun h=>by omega⟩
 | succ m ih =>
  obtain ⟨q,h1,h2,h3⟩:=ih
  by_cases hq:q<m
  ·exact ⟨q,by omega,h2,fun _=>h3 hq⟩
  ·have:q=m:=by omega
   subst this
   by_cases hm:xI E q∧¬S q
   ·exact ⟨q,by omega,h2,fun _=>hm⟩
   ·refine ⟨q+1,by omega,fun k hk hw => ?_,fun h=>by omega⟩
    rcases Nat.lt_or_ge k q with h4 | h4
    ·exact h2 k h4 hw
    ·have:k=q:=by omega
     subst this
     exact Classical.not_not.1 fun hn=>hm ⟨hw,hn⟩
theorem zx{i id:Nat}(hi:i<128):lL rid (fun k=>S k∨k=i) id↔lL rid S id∨Of rid i id:=by
 constructor
 ·intro h1
  by_cases hr:id / 32768=rid+1
  ·rcases h1 hr with h2 | h2
   ·exact .inl fun _=>h2
   ·exact .inr (Of.of hr h2)
  ·exact .inl fun h=>absurd h hr
 ·rintro (h1 | h1) h2
  ·exact .inl (h1 h2)
  ·exact .inr (h1.parts hi).2
theorem Dr.Fw(D:Dr P Eqs Sg F rid n ops b T H E)(dj:Dj rid ops b T H E S Tc h){i:Nat}(nI:i<ops.size)(hS:¬S i)(hnn:¬VQ E i)(W9:¬xI E i) :
  ∃q,q≤ops.size∧(∀k,k<q→xI E k→S k∨k=i)∧(q<ops.size→xI E q∧¬(S q∨q=i))∧∀id,(lL rid (fun k=>S k∨k=i) id→h id=H q id)∧(¬lL rid (fun k=>S k∨k=i) id→h id=none):=by
 obtain ⟨q,hq,hw,ij,eV⟩:=dj.heap
 have Nt:=D.size
 refine ⟨q,hq,fun k h1 h2=>.inl (hw k h1 h2),fun h1=>⟨(ij h1).1,fun h2=>h2.elim (ij h1).2 fun e=>W9 (e▸(ij h1).1)⟩,fun id=>⟨fun h1 => ?_,fun h1=>(eV id).2 fun h2=>h1 ((zx (by omega)).2 (.inl h2))⟩⟩
 rcases (zx (S:=S) (i:=i) (rid:=rid) (by omega)).1 h1 with h2 | h2
 ·exact (eV id).1 h2
 ·have hn:¬lL rid S id:=fun h3=>h3.zm (by omega) hS h2
  rw [(eV id).2 hn]
  symm
  apply Classical.not_not.1
  intro bh
  obtain ⟨j,h3,_,_,h4⟩:=D.names q hq id bh (h2.parts (by omega)).1
  have:=tP h3 h2
  subst this
  rcases h4 with h4 | ⟨w',h5,h6,h7 | h7⟩
  ·exact hnn h4
  ·exact W9 (h7▸h6)
  ·exact hS (dj.closed w' _ (hw w' h5 h6) h7)
theorem Rb{os:Heap}{i:Nat}(eU:(os.all fun p=>p.1 / 256==(rid+1) * 128+i)=true):∀id o,os.get id=some o→Of rid i id:=by
 induction os with
 | nil=>intro id o h;simp [Heap.get] at h
 | cons a r ih =>
  intro id o hg
  simp only [List.all_cons,Bool.and_eq_true,beq_iff_eq] at eU
  simp only [Heap.get] at hg
  split at hg
  ·rename_i e;rw [←e];exact eU.1
  ·exact ih eU.2 id o hg
theorem Dr.NC(D:Dr P Eqs Sg F rid n ops b T H E)(dj:Dj rid ops b T H E S Tc h){i:Nat}{o:Oper}(ho:ops[i]? = some o)(hS:¬S i)(hb:∀j,qP b i j→S j){v:AV}{os:Heap}(hE:E i=some (.new v os)) :
  ∃q,q≤ops.size∧(∀k,k<q→xI E k→S k∨k=i)∧(q<ops.size→xI E q∧¬(S q∨q=i))∧∀id,(lL rid (fun k=>S k∨k=i) id→(bE.new v os).hp h id=H q id)∧(¬lL rid (fun k=>S k∨k=i) id→(bE.new v os).hp h id=none):=by
 obtain ⟨q,hq,hw,ij,eV⟩:=dj.heap
 have Nt:=D.size
 have nI:=(Array.getElem?_eq_some_iff.1 ho).1
 have W9:¬xI E i:=fun ⟨v',h',h1⟩=>by rw [hE] at h1;cases h1
 have VS:=D.vm nI ⟨v,os,hE⟩
 obtain ⟨s,hh,_,_,_,h4,_,_,h7⟩:=D.Q8 ho hE
 simp only [fZ,Bool.and_eq_true] at h4
 have sy:=Rb (rid:=rid) h4.1.2
 have WZ:i<q:=by
  rcases Nat.lt_or_ge i q with h1 | h1
  ·exact h1
  ·obtain ⟨h2,h3⟩:=ij (by omega)
   have bh:i≠q:=fun e=>W9 (e▸h2)
   rcases D.zu (by omega) h2 VS bh with ⟨h4,_⟩ | ⟨_,h4⟩
   ·omega
   ·exact absurd (hb q h4) h3
 refine ⟨q,hq,fun k h1 h2=>.inl (hw k h1 h2),fun h1=>⟨(ij h1).1,fun h2=>h2.elim (ij h1).2 fun e=>W9 (e▸(ij h1).1)⟩,fun id=>⟨fun h1 => ?_,fun h1 => ?_⟩⟩
 ·simp only [bE.hp]
  by_cases h2:Of rid i id
  ·have hn:¬lL rid S id:=fun h3=>h3.zm (by omega) hS h2
   have e1:H i id=none:=Classical.not_not.1 fun bh=>by
    obtain ⟨j,h3,h4,_⟩:=D.names i (by omega) id bh (h2.parts (by omega)).1
    have:=tP h3 h2
    omega
   have e2:H (i+1) id=Heap.get os id:=by
    rw [h7];simp only [bE.hp];rw [e1];cases Heap.get os id<;>rfl
   have e3:H q id=H (i+1) id:=D.xK q WZ hq (fun k h3 h4=>D.calm dj VS hS hq hw k (by omega) h4) id fun k h3 _ _ h5=>by
    have:=tP h5 h2;omega
   rw [e3,e2,(eV id).2 hn];cases Heap.get os id<;>rfl
  ·have h3:lL rid S id:=((zx (by omega)).1 h1).resolve_right h2
   cases Mt:Heap.get os id with
   | some o'=>exact absurd (sy id o' Mt) h2
   | none=>exact (eV id).1 h3
 ·have h2:¬lL rid S id:=fun h2=>h1 ((zx (by omega)).2 (.inl h2))
  have h3:¬Of rid i id:=fun h2=>h1 ((zx (by omega)).2 (.inr h2))
  simp only [bE.hp]
  cases Mt:Heap.get os id with
  | some o'=>exact absurd (sy id o' Mt) h3
  | none=>exact (eV id).2 h2
theorem Dr.Rc(D:Dr P Eqs Sg F rid n ops b T H E)(dj:Dj rid ops b T H E S Tc h){i:Nat}{o:Oper}(ho:ops[i]? = some o)(hS:¬S i)(hb:∀j,qP b i j→S j){v:AV}{h':Heap}(hE:E i=some (.wr v h')) :
  (∀hh:Heap,(∀id,hh.get id=if py rid (b.getD i 0) id then H i id else none)→hh.get=h) ∧
  ∃q,q≤ops.size∧(∀k,k<q→xI E k→S k∨k=i)∧(q<ops.size→xI E q∧¬(S q∨q=i))∧∀id,(lL rid (fun k=>S k∨k=i) id→h'.get id=H q id)∧(¬lL rid (fun k=>S k∨k=i) id→h'.get id=none):=by
 obtain ⟨q,hq,hw,ij,eV⟩:=dj.heap
 have Nt:=D.size
 have nI:=(Array.getElem?_eq_some_iff.1 ho).1
 have Q9:xI E i:=⟨v,h',hE⟩
 have VS:=D.Ns nI Q9
 obtain ⟨s,hh0,_,_,_,h4,_,_,h7⟩:=D.Q8 ho hE
 simp only [fZ,Bool.and_eq_true] at h4
 have hqi:q=i:=by
  rcases Nat.lt_trichotomy q i with h1 | h1 | h1
  ·obtain ⟨h2,h3⟩:=ij (by omega)
   rcases D.zu nI Q9 (D.Ns (by omega) h2) (by omega) with ⟨_,h5⟩ | ⟨h5,_⟩
   ·exact absurd (hb q h5) h3
   ·omega
  ·exact h1
  ·exact absurd (hw i h1 Q9) hS
 subst hqi
 have own:∀id,H q id≠none→lL rid (qP b q) id:=fun id bh Nu=>by
  obtain ⟨j,h1,h2,h2',h3⟩:=D.names q hq id bh Nu
  rw [(h1.parts h2').2]
  rcases h3 with h3 | ⟨w',h5,h6,h8⟩
  ·rcases D.zu nI Q9 (D.vm (by omega) h3) (by omega) with ⟨_,h9⟩ | ⟨h9,_⟩
   ·exact h9
   ·omega
  ·have WX:qP b q w':=by
    rcases D.zu nI Q9 (D.Ns (by omega) h6) (by omega) with ⟨_,h9⟩ | ⟨h9,_⟩
    ·exact h9
    ·omega
   rcases h8 with rfl | h8
   ·exact WX
   ·exact Cu D.Mw q w' j nI WX h8
 refine ⟨fun hh Ra => ?_,?_⟩
 ·funext id
  rw [Ra id]
  cases bO:H q id with
  | none =>
   have:h id=none:=by
    by_cases h1:lL rid S id
    ·rw [(eV id).1 h1,bO]
    ·exact (eV id).2 h1
   rw [this];split<;>rfl
  | some ob =>
   have h1:=own id (by rw [bO];simp)
   have h2:lL rid S id:=fun hr=>hb _ (h1 hr)
   have h3:py rid (b.getD q 0) id=true:=by
    unfold py
    by_cases hr:id / 32768=rid+1
    ·have:=h1 hr
     unfold qP at this
     rw [this];simp
    ·simp [hr]
   rw [h3,(eV id).1 h2,bO];rfl
 ·obtain ⟨q',h1,h2,h3⟩:=NB E (fun k=>S k∨k=q) ops.size
  have SD:q+1≤q':=by
   rcases Nat.lt_or_ge q q' with h5 | h5
   ·exact h5
   ·obtain ⟨h6,h8⟩:=h3 (by omega)
    rcases Nat.lt_or_ge q' q with h9 | h9
    ·exact absurd (.inl (hw q' h9 h6)) h8
    ·exact absurd (.inr (by omega)) h8
  have e1:H (q+1)=h'.get:=by rw [h7];rfl
  have yS:∀j,(b.getD q 0 ||| 2 ^ q).testBit j=true→S j∨j=q:=fun j hj=>by
   rw [Nat.testBit_or,Bool.or_eq_true,Nat.testBit_two_pow] at hj
   exact hj.imp (hb j) (fun h=>(of_decide_eq_true h).symm)
  refine ⟨q',h1,h2,h3,fun id=>⟨fun h5 => ?_,fun h5 => ?_⟩⟩
  ·rw [D.xK q' SD h1 (fun k h6 h8 h9 => ?_) id (fun k h6 h8 h9 mv => ?_),e1]
   ·have hk:=h2 k h8 h9
    have Nv:S k:=hk.resolve_right (by omega)
    rcases D.zu (by omega) h9 VS (by omega) with ⟨_,xc⟩ | ⟨xc,_⟩
    ·exact hS (dj.closed k q Nv xc)
    ·omega
   ·have hk:=h5 (mv.parts (by omega)).1
    rw [(mv.parts (by omega)).2] at hk
    have Nv:S k:=hk.resolve_right (by omega)
    rcases D.zu nI Q9 (D.vm (by omega) h9) (by omega) with ⟨xc,_⟩ | ⟨_,xc⟩
    ·omega
    ·exact hS (dj.closed k q Nv xc)
  ·cases bO:h'.get id with
   | none=>rfl
   | some ob=>exact absurd ((lq yS h4.2 id ob bO).1) h5
end
section
variable {S:Nat→Prop} {Tc:Nat→AV}
theorem BL{o:Oper}{d:Nat}(h:Operand.tmp d∈o.op.operands):d∈o.looksAt ops :=
 List.mem_append_left _ (List.mem_filterMap.2 ⟨.tmp d,by simpa using h,rfl⟩)
theorem Fx{o:Oper}{j d:Nat}{want:Bool}(hg:o.guard=some (j,want))(hd:(ops[j]?).bind (·.dst)=some d):d∈o.looksAt ops:=by
 unfold Oper.looksAt
 rw [hg]
 exact List.mem_append_right _ (by simp only [hd];simp)
theorem Dr.wanted(D:Dr P Eqs Sg F rid n ops b T H E)(dj:Dj rid ops b T H E S Tc h){a:Act}{i:Nat}{o:Oper}(ho:ops[i]? = some o)(hS:¬S i)(hb:∀j,qP b i j→S j)(t:cK Z ψ h w n Tc a){c:Bool}(hw:oP ops (T i) o c) :
  Region.wanted o (yielded ops a.tmps)=c:=by
 unfold oP at hw
 split at hw
 ·rename_i hg;rw [hw];simp [Region.wanted,hg]
 ·rename_i j want hg
  obtain ⟨d,hd,hc⟩:=hw
  have e:=D.looks dj ho hS hb (Fx hg hd)
  rcases hc with ⟨u,h1,h2⟩ | ⟨vs,h1,h2⟩
  ·rw [zn t hg hd (e.trans h1),h2]
  ·rw [wJ t hg hd (e.trans h1),h2]
theorem Dr.Iz(D:Dr P Eqs Sg F rid n ops b T H E)(V:Env P Eqs Sg F){i:Nat}{o:Oper}{a:Act}(ho:ops[i]? = some o)(hS:¬S i)(hb:∀j,qP b i j→S j)(dj:Dj rid ops b T H E S Tc h)(j:J (lL rid S) n Z0 w0 O ψ0 Z ψ Tc h a w)
  {K:Act→World→Prop} {Q:Exit→Act→World→Prop} (hk:∀Tc' h' a' w' Z' ψ',Dj rid ops b T H E (fun k=>S k∨k=i) Tc' h'→J (lL rid fun k=>S k∨k=i) n Z0 w0 O ψ0 Z' ψ' Tc' h' a' w'→K a' w'):wpOp P ops Q i K a w:=by
 have nI:=(Array.getElem?_eq_some_iff.1 ho).1
 have Nt:=D.size
 have Qv:=D.abG i o ho
 have aG:∀k,(S k∨k=i)→k<ops.size:=fun k hk=>hk.elim (dj.lt k) (fun e=>e▸nI)
 have HY:∀k j,(S k∨k=i)→qP b k j→S j∨j=i:=fun k j hk hj=>.inl (hk.elim (fun h=>dj.closed k j h hj) (fun e=>hb j (e▸hj)))
 unfold wpOp
 rw [ho]
 simp only []
 cases hE:E i with
 | none =>
  obtain ⟨h1,h2,h3⟩:=D.DP ho hE
  rw [D.wanted dj ho hS hb j.tr h1]
  simp only [Bool.false_eq_true,if_false]
  obtain ⟨t1,t2⟩:=D.Nz dj ho hS h2
  refine hk _ h _ w Z ψ ⟨aG,HY,D.Fw dj nI hS (fun ⟨v,os,h⟩=>by rw [hE] at h;cases h) (fun ⟨v,os,h⟩=>by rw [hE] at h;cases h),t1,t2⟩ (j.skip Qv fun id hp hr=>.inl (hp hr))
 | some e =>
  obtain ⟨s,hh,h1,h2,h3,h4,h5,h6,h7⟩:=D.Q8 ho hE
  rw [D.wanted dj ho hS hb j.tr h5]
  simp only [if_true]
  refine .inl ?_
  obtain ⟨t1,t2⟩:=D.Nz dj ho hS h6
  have hT:∀x∈o.op.operands,av Z ψ h w (ρ s x) (a.eval x)∧aH (lL rid S) (ρ s x):=fun x hx=>by
   cases x with
   | tmp d =>
    have e1:look s d=Tc d:=by rw [h1];exact (D.looks dj ho hS hb (BL hx)).symm
    simp only [ρ,e1]
    exact ⟨j.tr.rep d,j.tm d⟩
   | const v=>exact ⟨E0 v,zk _ v⟩
   | global g=>exact ⟨by simp only [ρ,av],by simp only [ρ,aH]⟩
   | func f=>exact ⟨by simp only [ρ,av,an,Act.eval];exact ⟨#[],rfl,rfl⟩,by simp only [ρ,aH,aA]⟩
  have mZ:=zp (hh:=[]) j.hm (fun k hk=>hb k hk) h4
  obtain ⟨e0,h3,BJ,te⟩:=h3
  cases e0 with
  | wr v0 MO =>
   simp only [gh] at BJ
   subst BJ
   have lS:=D.Rc dj ho hS hb hE
   have Ra:=lS.1 hh h2
   subst Ra
   refine J.opF V (rid:=rid) (i:=i) (fun _ id hp=>hp.zm (by omega) hS) j Qv (fun x hx=>(hT x hx).1) (fun x hx=>(hT x hx).2) h3 te (p':=lL rid fun k=>S k∨k=i) (fun id hp hr=>.inl (hp hr)) mZ.1 mZ.2 fun a' w' Z' ψ' j' => ?_
   exact hk _ _ a' w' Z' ψ' ⟨aG,HY,lS.2,t1,t2⟩ j'
  | val v0 =>
   simp only [gh] at BJ
   subst BJ
   have abM:∃T5:Heap,(∀id o,T5.get id=some o→h id=some o)∧cI P Eqs Sg F (opId rid i) T5 s o some=some (.val v0):=by
    cases hf:mo o.op with
    | true=>exact ⟨[],fun id o h=>by simp [Heap.get] at h,by rw [Lb hf (h':=gk hh (gm ops b i s o))];exact h3⟩
    | false =>
     cases Qq:iG o.op with
     | some x =>
      have WY:gm ops b i s o=[]:=by unfold gm;rw [(Cv Qq).2];rfl
      rw [WY] at h3
      have h3':cI P Eqs Sg F (opId rid i) hh s o some=some (.val v0):=h3
      have mw:∀id,(eJ (tl (ρ s x)) hh []).get id=if id∈tl (ρ s x) then hh.get id else none:=fun id=>by
       rw [jV]
       split
       ·cases hh.get id<;>rfl
       ·rfl
      refine ⟨eJ (tl (ρ s x)) hh [],fun id ob bO => ?_,?_⟩
      ·rw [mw] at bO
       split at bO
       ·rename_i hm;exact D.Lg dj ho Qq hS hb h1 h2 id hm ob bO
       ·cases bO
      ·rw [Ix Qq (hh:=hh) (fun id hm=>by rw [mw,if_pos hm])];exact h3'
     | none=>exact ⟨_,fun id ob bO=>D.seen dj ⟨o,ho,hf,Qq⟩ hS hb h2 id ob (by rw [mW] at bO;split at bO;cases bO;exact bO),h3⟩
   obtain ⟨T5,EK,JK⟩:=abM
   refine J.op V (rid:=rid) (i:=i) (fun _ id hp=>hp.zm (by omega) hS) j Qv (fun x hx=>(hT x hx).1) (fun x hx=>(hT x hx).2) EK JK (fun v hw he=>by cases he) (p':=lL rid fun k=>S k∨k=i) (fun id hp hr=>.inl (hp hr)) mZ.1 mZ.2 fun a' w' Z' ψ' j' => ?_
   exact hk _ _ a' w' Z' ψ' ⟨aG,HY,D.Fw dj nI hS (fun ⟨v,os,h⟩=>by rw [hE] at h;cases h) (fun ⟨v,os,h⟩=>by rw [hE] at h;cases h),t1,t2⟩ j'
  | new v0 os =>
   simp only [gh] at BJ
   subst BJ
   have VS:=D.vm nI ⟨v0,os,hE⟩
   have EK:∀id ob,(gk hh (gm ops b i s o)).get id=some ob→h id=some ob:=fun id ob bO=>D.seen dj VS hS hb h2 id ob (by rw [mW] at bO;split at bO;cases bO;exact bO)
   refine J.op V (rid:=rid) (i:=i) (fun _ id hp=>hp.zm (by omega) hS) j Qv (fun x hx=>(hT x hx).1) (fun x hx=>(hT x hx).2) EK h3 (fun v hw he=>by cases he) (p':=lL rid fun k=>S k∨k=i) (fun id hp hr=>.inl (hp hr)) mZ.1 mZ.2 fun a' w' Z' ψ' j' => ?_
   exact hk _ _ a' w' Z' ψ' ⟨aG,HY,D.NC dj ho hS hb hE,t1,t2⟩ j'
theorem Dr.done(D:Dr P Eqs Sg F rid n ops b T H E)(dj:Dj rid ops b T H E S Tc h)(eU:∀k,k<ops.size→S k):Tc=T ops.size∧h=H ops.size:=by
 constructor
 ·funext d
  by_cases hex:∃(j:Nat) (oj:Oper),ops[j]? = some oj∧oj.dst=some d
  ·obtain ⟨j,oj,hj,hd⟩:=hex
   have HE:=(Array.getElem?_eq_some_iff.1 hj).1
   rw [dj.Nw j oj d (eU j HE) hj hd,D.DQ hj hd ops.size (Nat.le_refl _) HE]
  ·rw [dj.told d fun j o' _ my Ny=>hex ⟨j,o',my,Ny⟩,D.tO ops.size (Nat.le_refl _) fun k o' _ my Ny=>hex ⟨k,o',my,Ny⟩]
 ·obtain ⟨q,hq,_,ij,eV⟩:=dj.heap
  have:q=ops.size:=by
   rcases Nat.lt_or_ge q ops.size with h1 | h1
   ·exact absurd (eU q h1) (ij h1).2
   ·omega
  subst this
  funext id
  by_cases lK:lL rid S id
  ·exact (eV id).1 lK
  ·rw [(eV id).2 lK]
   symm
   apply Classical.not_not.1
   intro bh
   apply lK
   intro hr
   obtain ⟨j,h1,h2,h3,_⟩:=D.names ops.size (Nat.le_refl _) id bh hr
   rw [(h1.parts h3).2]
   exact eU j h2
def lr(m:Nat)(cg:Array Bool):Nat:=((List.range m).filter fun i => !cg.getD i false).length
theorem DR{m:Nat}{cg:Array Bool}{i:Nat}(hi:i<m)(hs:i<cg.size)(hn:cg.getD i false=false):lr m cg=lr m (cg.setIfInBounds i true)+1:=by
 unfold lr
 have key:∀(l:List Nat),l.Nodup→i∈l→(l.filter fun k => !cg.getD k false).length=(l.filter fun k => !(cg.setIfInBounds i true).getD k false).length+1:=by
  intro l
  induction l with
  | nil=>intro _ h;cases h
  | cons a r ih =>
   intro EJ hm
   rw [List.nodup_cons] at EJ
   rcases List.mem_cons.1 hm with rfl | hm
   ·have h2:(r.filter fun k => !cg.getD k false)=(r.filter fun k => !(cg.setIfInBounds i true).getD k false):=by
     apply List.filter_congr
     intro k hk
     have bh:i≠k:=fun e=>EJ.1 (e▸hk)
     rw [getD_set_ne false bh]
    rw [List.filter_cons,List.filter_cons,hn]
    have h3:(cg.setIfInBounds i true).getD i false=true:=by simp [hs]
    rw [h3,h2];simp
   ·have bh:i≠a:=fun e=>EJ.1 (e▸hm)
    rw [List.filter_cons,List.filter_cons,getD_set_ne false bh]
    split
    ·simp only [List.length_cons];rw [ih EJ.2 hm]
    ·exact ih EJ.2 hm
 exact key _ List.nodup_range (List.mem_range.2 hi)
theorem Dr.any(D:Dr P Eqs Sg F rid n ops b T H E)(V:Env P Eqs Sg F){Q:Exit→Act→World→Prop}(hQ:∀Z ψ a w,J (lL rid fun k=>k<ops.size) n Z0 w0 O ψ0 Z ψ (T ops.size) (H ops.size) a w→Q .normal a w) :
  ∀(fuel:Nat) (cg:Array Bool) (Tc:Nat→AV) (h:Hp) (a:Act) (w:World) (Z:Nat→Prop) (ψ:Nat→Value),cg.size=ops.size→lr ops.size cg=fuel →
   Dj rid ops b T H E (fun k=>cg.getD k false=true) Tc h→J (lL rid fun k=>cg.getD k false=true) n Z0 w0 O ψ0 Z ψ Tc h a w→wpAny P .any ops Q fuel cg a w
 | 0,cg,Tc,h,a,w,Z,ψ,hs,hu,dj,j=>by
  have eU:∀k,k<ops.size→cg.getD k false=true:=fun k hk=>by
   unfold lr at hu
   have:=List.filter_eq_nil_iff.1 (List.eq_nil_of_length_eq_zero hu) k (List.mem_range.2 hk)
   simpa using this
  refine ⟨?_,?_⟩
  ·apply List.eq_nil_iff_forall_not_mem.2
   intro i hi
   obtain ⟨h1,o,h2,_⟩:=mem_ready.1 hi
   have h3:=(Array.getElem?_eq_some_iff.1 h2).1
   have h4:=eU i h3
   rw [Array.getD_eq_getD_getElem?,Array.getElem?_eq_getElem (by omega)] at h1 h4
   simp at h1 h4
   rw [h1] at h4;cases h4
  ·obtain ⟨e1,e2⟩:=D.done dj eU
   subst e1;subst e2
   refine hQ Z ψ a w ⟨j.ok,j.tr,fun d=>(j.tm d).imp fun id h1 h2=>dj.lt _ (h1 h2),fun id ty cs hb=>(j.hm id ty cs hb).imp fun id h1 h2=>dj.lt _ (h1 h2)⟩
 | fuel+1,cg,Tc,h,a,w,Z,ψ,hs,hu,dj,j=>by
  have look:∀i,i<ops.size→cg.getD i true=cg.getD i false:=fun i hi=>by
   rw [Array.getD_eq_getD_getElem?,Array.getD_eq_getD_getElem?,Array.getElem?_eq_getElem (by omega)];rfl
  refine ⟨fun hr => ?_,fun i hi => ?_⟩
  ·exfalso
   have hex:∃i,i<ops.size∧cg.getD i false=false:=by
    apply Classical.byContradiction
    intro hn
    unfold lr at hu
    rw [List.filter_eq_nil_iff.2] at hu
    ·simp at hu
    ·intro k hk
     have:=fun h=>hn ⟨k,List.mem_range.1 hk,h⟩
     cases hl:cg.getD k false with
     | true=>simp
     | false=>exact absurd hl this
   have key:∀i,i<ops.size→cg.getD i false=false→False:=by
    intro i
    induction i using Nat.strongRecOn with
    | ind i ih =>
     intro hi hl
     have iM:i∈Region.ready .any ops cg:=by
      refine mem_ready.2 ⟨by rw [look i hi];exact hl,_,Array.getElem?_eq_getElem hi,fun e he K1 => ?_⟩
      have T9:=Iu D.Mw (Array.getElem?_eq_getElem hi) (by simpa using he) K1
      cases hle:cg.getD e.on false with
      | true=>rfl
      | false=>exact (ih e.on T9 (by omega) hle).elim
     rw [hr] at iM;cases iM
   obtain ⟨i,h1,h2⟩:=hex
   exact key i h1 h2
  ·obtain ⟨h1,o,ho,eU⟩:=mem_ready.1 hi
   have nI:=(Array.getElem?_eq_some_iff.1 ho).1
   have hn:cg.getD i false=false:=by rw [←look i nI];exact h1
   have hS:¬(cg.getD i false=true):=by rw [hn];simp
   have hb:∀k,qP b i k→cg.getD k false=true:=fun k hk=>by
    obtain ⟨e,he,K1,h2⟩:=(xH D.Mw ho).1 hk
    have h3:=eU e (by simpa using he) K1
    rcases h2 with rfl | h2
    ·exact h3
    ·exact dj.closed e.on k h3 h2
   refine D.Iz V ho hS hb dj j fun Tc' h' a' w' Z' ψ' dj' j' => ?_
   have heq:(fun k=>cg.getD k false=true∨k=i)=(fun k=>(cg.setIfInBounds i true).getD k false=true):=by
    funext k
    apply propext
    by_cases e:i=k
    ·subst e
     simp [show i<cg.size by omega]
    ·rw [getD_set_ne false e]
     constructor
     ·rintro (h | h)
      ·exact h
      ·exact absurd h.symm e
     ·exact .inl
   rw [heq] at dj' j'
   exact D.any V hQ fuel _ Tc' h' a' w' Z' ψ' (by simpa using hs) (by have:=DR nI (by omega) hn;omega) dj' j'
end
end Go.Vs
namespace Go.Vs
variable {P:Program} {Eqs:TypeId→Option K} {Sg:FuncId→Option aJ} {F:(f:FuncId)→(g:aJ)→g.A→Option g.B} {R:Type}
variable {Z Z' Z0:Nat→Prop} {ψ ψ' ψ0:Nat→Value} {h h':Hp} {w w' w0:World} {B0:Nat} {O N:Nat→Prop}
theorem zy(f:AV→AV)(hf:f .no=.no):∀(l:List (Nat×AV)) (d:Nat),look (l.map fun p=>(p.1,f p.2)) d=f (look l d)
 | [],d=>by simp [look,hf]
 | (i,v)::r,d=>by
  simp only [List.map_cons,look]
  split
  ·rfl
  ·exact zy f hf r d
section
variable {rid:Nat}
mutual
theorem vo:∀{a:AV} {v:Value},av Z ψ h w a v→av Z ψ h w (bA rid a) v
 | .ref id s i off,v,hr=>by
  simp only [bA]
  split
  ·simp only [av]
  ·exact hr
 | .bF id,v,hr=>by
  simp only [bA]
  split
  ·simp only [av]
  ·exact hr
 | .fn f cap,v,hr=>by
  simp only [bA,av] at hr ⊢
  obtain ⟨vs,e,hl⟩:=hr
  exact ⟨vs,e,lu hl⟩
 | .agg cs,v,hr=>by
  simp only [bA,av] at hr ⊢
  obtain ⟨vs,e,hl⟩:=hr
  exact ⟨vs,e,lu hl⟩
 | .mJ cs,v,hr=>by
  simp only [bA,av] at hr ⊢
  obtain ⟨vs,e,hl⟩:=hr
  exact ⟨vs,e,lu hl⟩
 | .no,v,hr=>by simpa only [bA] using hr
 | .bool _,v,hr=>by simpa only [bA] using hr
 | .int _ _,v,hr=>by simpa only [bA] using hr
 | .str _,v,hr=>by simpa only [bA] using hr
 | .kU,v,hr=>by simpa only [bA] using hr
 | .fB,v,hr=>by simpa only [bA] using hr
 | .fp _ _ _,v,hr=>by simpa only [bA] using hr
 | .sl _ _ _,v,hr=>by simpa only [bA] using hr
 | .mp _ _ _,v,hr=>by simpa only [bA] using hr
theorem lu:∀{a:List AV} {v:List Value},an Z ψ h w a v→an Z ψ h w (kY rid a) v
 | [],v,hr=>by simpa only [kY] using hr
 | x::r,v,hr=>by
  simp only [kY,an] at hr ⊢
  obtain ⟨u,us,e,h1,h2⟩:=hr
  exact ⟨u,us,e,vo h1,lu h2⟩
end
mutual
theorem om:∀(a:AV),aH (lL rid fun _=>False) (bA rid a)
 | .ref id s i off=>by
  simp only [bA]
  split
  ·simp only [aH]
  ·rename_i hn;simp only [aH];exact fun h=>absurd h hn
 | .bF id=>by
  simp only [bA]
  split
  ·simp only [aH]
  ·rename_i hn;simp only [aH];exact fun h=>absurd h hn
 | .fn f cap=>by simp only [bA,aH];exact il cap
 | .agg cs=>by simp only [bA,aH];exact il cs
 | .mJ cs=>by simp only [bA,aH];exact il cs
 | .no=>by simp only [bA,aH]
 | .bool _=>by simp only [bA,aH]
 | .int _ _=>by simp only [bA,aH]
 | .str _=>by simp only [bA,aH]
 | .kU=>by simp only [bA,aH]
 | .fB=>by simp only [bA,aH]
 | .fp _ _ _=>by simp only [bA,aH]
 | .sl _ _ _=>by simp only [bA,aH]
 | .mp _ _ _=>by simp only [bA,aH]
theorem il:∀(a:List AV),aA (lL rid fun _=>False) (kY rid a)
 | []=>by simp only [kY,aA]
 | x::r=>by simp only [kY,aA];exact ⟨om x,il r⟩
end
theorem get_map(f:Ob→Ob):∀(hh:Heap) (i:Nat),Heap.get (hh.map fun p=>(p.1,f p.2)) i=(hh.get i).map f
 | [],i=>rfl
 | (j,o)::r,i=>by
  simp only [List.map_cons,Heap.get]
  split
  ·rfl
  ·exact get_map f r i
def l9(rid:Nat)(hh:Heap):Heap:=(hh.filter fun p=>p.1 / 32768 != rid+1).map fun p=>(p.1,yy rid p.2)
theorem Lh(hh:Heap)(i:Nat):(l9 rid hh).get i=if i / 32768=rid+1 then none else (hh.get i).map (yy rid):=by
 unfold l9
 rw [get_map (yy rid),get_filter (fun i=>i / 32768 != rid+1)]
 by_cases e:i / 32768=rid+1<;>simp [e]
theorem g8{hh:Heap}{i:Nat}{o:Ob}(hg:(l9 rid hh).get i=some o):i / 32768≠rid+1∧∃o',hh.get i=some o'∧o=yy rid o':=by
 rw [Lh] at hg
 split at hg
 ·cases hg
 ·rename_i hn
  cases h0:hh.get i with
  | none=>rw [h0] at hg;cases hg
  | some o'=>rw [h0] at hg;cases hg;exact ⟨hn,o',rfl,rfl⟩
theorem jY{hh:Heap}{i:Nat}(hg:(l9 rid hh).get i≠none):hh.get i≠none:=by
 obtain ⟨o,ho⟩:=Option.ne_none_iff_exists'.1 hg
 obtain ⟨_,o',h1,_⟩:=g8 ho
 rw [h1];simp
theorem Good.kr{hh:Heap}(g:Good Z ψ hh.get w B0 O):Good Z ψ (l9 rid hh).get w B0 O:=by
 refine ⟨fun id ty cs hb => ?_,fun id ok xs hb => ?_,fun id b h1 h2=>g.live id b (jY h1) h2,fun id lN b h1 h2 h3 h4=>g.apart id lN b (jY h1) (jY h2) h3 h4,g.jm⟩
 ·obtain ⟨_,o',h1,h2⟩:=g8 hb
  cases o' with
  | own ok xs=>cases h2
  | box w8 cs' =>
   cases h2
   obtain ⟨gg,vs,h3,h4,h5,h6⟩:=g.box id ty cs' h1
   exact ⟨gg,vs,h3,h4,lu (h5.less (fun _ h=>h) (cj.refl _ _) fun i hi=>⟨jY hi,rfl⟩),h6⟩
 ·obtain ⟨_,o',h1,h2⟩:=g8 hb
  cases o' with
  | own VL Wo=>cases h2;exact g.row id _ _ h1
  | box w8 cs'=>cases h2
theorem Ok.sub{hp:Hp}(k:Ok Z0 w0 O ψ0 Z ψ h w)(g:Good Z ψ hp w w0.heap.size O)(hn:∀id,hp id≠none→h id≠none):Ok Z0 w0 O ψ0 Z ψ hp w :=
 ⟨g,k.fj,k.dU,k.os,k.tape,k.output,k.size,k.block,fun i hi bh=>k.fix i hi (hn i bh)⟩
end
theorem Good.zz(g:Good Z ψ h w B0 O)(e:w'.heap=w.heap):Good Z ψ h w' B0 O:=by
 have sm:cj Z w w':=fun b _=>by rw [e]
 refine ⟨fun id ty cs hb => ?_,fun id ok xs hb => ?_,g.live,g.apart,fun b hb=>by rw [e];exact g.jm b hb⟩
 ·obtain ⟨gg,vs,h1,h2,h3,h4⟩:=g.box id ty cs hb
  exact ⟨gg,vs,h1,by rw [e];exact h2,h3.less (fun _ h=>h) sm (fun i hi=>⟨hi,rfl⟩),h4⟩
 ·exact (g.row id ok xs hb).kept (fun _ h=>h) sm (fun gg _=>by rw [e])
theorem Ok.zz(k:Ok Z0 w0 O ψ0 Z ψ h w)(e:w'.heap=w.heap)(e1:w'.os=w.os)(e2:w'.tape=w.tape)(e3:w'.output=w.output):Ok Z0 w0 O ψ0 Z ψ h w' :=
 ⟨k.dD.zz e,k.fj,k.dU,e1.trans k.os,e2.trans k.tape,e3.trans k.output,by rw [e];exact k.size,fun b hb ho=>by rw [e];exact k.block b hb ho,k.fix⟩
theorem cK.zz{n:Nat}{T:Nat→AV}{a:Act}(t:cK Z ψ h w n T a)(e:w'.heap=w.heap):cK Z ψ h w' n T a :=
 ⟨fun d=>(t.rep d).less (fun _ h=>h) (fun b _=>by rw [e]) (fun i hi=>⟨hi,rfl⟩),t.size,t.defers⟩
theorem DS(V:Env P Eqs Sg F)(hm:P.follows .mixedOrders=true){n rid:Nat}{ops:Array Oper}{draw:Bool}{st:St}{kk:St→Option R}{r:R}{a:Act}{Q:Exit→Act→World→Prop}
  (hx:gT P Eqs Sg F n rid ops draw st kk=some r) (k:Ok Z0 w0 O ψ0 Z ψ st.heap.get w) (t:cK Z ψ st.heap.get w n (look st.tmps) a)
  (hQ:∀dS Z ψ a w,kk dS=some r→Ok Z0 w0 O ψ0 Z ψ dS.heap.get w→cK Z ψ dS.heap.get w n (look dS.tmps) a→Q .normal a w):(Code.region rid ops draw).wp P Q a w:=by
 obtain ⟨b,VT,hx⟩:∃b,b=(if draw then Region.before ops else #[])∧(if (ops.all fun o=>gS n o)&&(!draw || (tj ops b&&(yw ops b&&b4 (ops.toList.filterMap (·.dst)))))&&decide (ops.size≤128) then
  bz P Eqs Sg F rid draw ops b (ops.toList.zipIdx.map fun p=>(p.2,p.1)) (kr draw rid ops st) kk else none)=some r:=⟨_,rfl,hx⟩
 split at hx
 ·rename_i hc
  simp only [Bool.and_eq_true,decide_eq_true_eq] at hc
  obtain ⟨⟨kh,hdr⟩,ia⟩:=hc
  have Cx:∀(i:Nat) (o:Oper),ops[i]? = some o→gS n o=true:=fun i o ho=>Array.all_eq_true_iff_forall_mem.1 kh o (Array.mem_of_getElem? ho)
  have pk:Ok Z0 w0 O ψ0 Z ψ (l9 rid st.heap).get w:=k.sub k.dD.kr fun id=>jY
  have pt:cK Z ψ (l9 rid st.heap).get w n (fun d=>bA rid (look st.tmps d)) a :=
   ⟨fun d=>vo ((t.rep d).less (fun _ h=>h) (cj.refl _ _) fun i hi=>⟨jY hi,rfl⟩),t.size,t.defers⟩
  have pm:rN (lL rid fun _=>False) (l9 rid st.heap).get:=fun i ty cs hb=>by
   obtain ⟨_,o',h1,h2⟩:=g8 hb
   cases o' with
   | own ok xs=>cases h2
   | box w8 cs'=>cases h2;exact il cs'
  have Cz:look (st.tmps.map fun p=>(p.1,bA rid p.2))=fun d=>bA rid (look st.tmps d):=funext fun d=>zy (bA rid) (by simp only [bA]) st.tmps d
  cases draw with
  | false =>
   refine wp_region ?_
   rw [←Cr ops]
   cases Np:ops.any (makes ·.op) with
   | false =>
    have hp:kr false rid ops st=st:=by unfold kr;rw [Np];rfl
    rw [hp] at hx
    refine kM V (rid:=rid) (n:=n) (b:=_) false (fun _ i o ho => ?_) ia Cx hQ _ 0 st Z ψ a w (mY ops) hx ⟨k,t,fun d => ?_,fun i ty cs hb => ?_⟩
    ·have:=Array.any_eq_false'.1 Np o (Array.mem_of_getElem? ho)
     simpa using this
    ·exact (aH.top _).imp fun id _ h=>by cases h
    ·exact (aA.top _).imp fun id _ h=>by cases h
   | true =>
    have hp:kr false rid ops st={ tmps:=st.tmps.map fun p=>(p.1,bA rid p.2),heap:=l9 rid st.heap }:=by unfold kr;rw [Np];rfl
    rw [hp] at hx
    refine kM V (rid:=rid) (n:=n) (b:=_) true (fun h=>by cases h) ia Cx hQ _ 0 _ Z ψ a w (mY ops) hx ⟨pk,by rw [Cz];exact pt,fun d => ?_,fun i ty cs hb => ?_⟩
    ·rw [Cz]
     exact (om _).imp fun id h1 _ h2=>(h1 h2).elim
    ·exact (pm i ty cs hb).imp fun id h1 _ h2=>(h1 h2).elim
  | true =>
   have hp:kr true rid ops st={ tmps:=st.tmps.map fun p=>(p.1,bA rid p.2),heap:=l9 rid st.heap }:=by unfold kr;rw [Bool.true_or];rfl
   rw [hp] at hx
   simp only [Bool.not_true,Bool.false_or,Bool.and_eq_true] at hdr
   obtain ⟨abO,Xa,EJ⟩:=hdr
   refine wp_region_any hm ?_
   obtain ⟨T,H,E,h1,h2,h3,dS,h4,h5,h6⟩:=trace (kk:=kk) (r:=r) (ops.toList.zipIdx.map fun p=>(p.2,p.1)) 0 _ (mY ops) (by simp) hx
   rw [Cz] at h1
   have D:Dr P Eqs Sg F rid n ops b T H E:=⟨ia,abO,Xa,Cx,EJ,fun k o ho=>h3 k o (Nat.zero_le _) ho,fun id bO=>by
    rw [h2] at bO
    obtain ⟨o,ho⟩:=Option.ne_none_iff_exists'.1 bO
    exact (g8 ho).1⟩
   have wC:∀k,¬((Array.replicate ops.size false).getD k false=true):=fun k hk=>by
    rw [Array.getD_eq_getD_getElem?,Array.getElem?_replicate] at hk
    split at hk<;>simp at hk
   rw [show max 0 ops.size=ops.size by omega] at h5 h6
   have w2:({ w with drawn:=w.drawn+1 }:World).heap=w.heap:=rfl
   refine D.any V (Z0:=Z0) (w0:=w0) (O:=O) (ψ0:=ψ0) (fun Z ψ a w j=>hQ dS Z ψ a w h4 (by rw [h6];exact j.ok) (by rw [h5,h6];exact j.tr)) ops.size _ (T 0) (H 0) a _ Z ψ (by simp) ?_ ?_ ?_
   ·unfold lr
    rw [List.filter_eq_self.2,List.length_range]
    intro k _
    have:=wC k
    simpa using this
   ·refine ⟨fun i hi=>(wC i hi).elim,fun i j hi=>(wC i hi).elim,?_,fun j o d hj=>(wC j hj).elim,fun d _=>rfl⟩
    obtain ⟨q,hq1,hq2,hq3⟩:=NB E (fun k=>(Array.replicate ops.size false).getD k false=true) ops.size
    refine ⟨q,hq1,hq2,hq3,fun id=>⟨fun lK => ?_,fun lK => ?_⟩⟩
    ·symm
     refine D.xK q (Nat.zero_le _) hq1 (fun k _ hk hw=>(wC k (hq2 k hk hw)).elim) id fun k _ hk _ ho => ?_
     have:=lK (ho.parts (by omega)).1
     exact wC _ this
    ·rw [h2]
     apply Classical.not_not.1
     intro bh
     obtain ⟨o,ho⟩:=Option.ne_none_iff_exists'.1 bh
     exact lK fun hr=>absurd hr (g8 ho).1
   ·rw [h1,h2]
    refine ⟨pk.zz w2 rfl rfl rfl,pt.zz w2,fun d=>(om _).imp fun id h3 h4=>(h3 h4).elim,fun i ty cs hb=>(pm i ty cs hb).imp fun id h3 h4=>(h3 h4).elim⟩
 ·cases hx
end Go.Vs
