/- The value semantics is sound, at calls and in regions. -/
import Derived.Test.YtpldhjjpeldkaaaGreatEngineB
import Derived.Maps.RangeRun
import Derived.ChangeMaps
set_option linter.unusedSimpArgs false
set_option linter.unusedVariables false
namespace Go.Vs
variable {P:Program} {Z Z':Nat→Prop} {ψ ψ':Nat→Value} {h h':Hp} {w w':World} {B0:Nat} {O:Nat→Prop} {N:Nat→Prop}
theorem eJ:∀(k:K) (x:k.T),(enc k x).length=k.sz
 | .int _,_=>rfl
 | .bool,_=>rfl
 | .str,_=>rfl
 | .sl _,_=>rfl
 | .mp _ _,_=>rfl
 | .pair a b,x=>by simp only [enc,List.length_append,K.sz];rw [eJ a,eJ b]
 | .one k,x=>by simp only [enc,K.sz];exact eJ k x
theorem pO(hh:Heap):∀(k:K) (x:k.T),(enc k x).map (cz hh)=enc k x
 | .int _,_=>rfl
 | .bool,_=>rfl
 | .str,_=>rfl
 | .sl _,_=>rfl
 | .mp _ _,_=>rfl
 | .pair a b,x=>by simp only [enc,List.map_append];rw [pO hh a,pO hh b]
 | .one k,x=>by simp only [enc];exact pO hh k x
theorem lf:∀(k:K) (x:k.T) (id:Nat),AV.bF id∉enc k x
 | .int _,_,_=>by simp [enc]
 | .bool,_,_=>by simp [enc]
 | .str,_,_=>by simp [enc]
 | .sl _,_,_=>by simp [enc]
 | .mp _ _,_,_=>by simp [enc]
 | .pair a b,x,id=>by
  simp only [enc,List.mem_append]
  rintro (h | h)
  ·exact lf a _ id h
  ·exact lf b _ id h
 | .one k,x,id=>by simp only [enc];exact lf k x id
theorem u9{hh:Heap}{ok:OK}{n:Nat}{xs:ok.T}(hg:hh.get n=some (.own ok xs)):dB hh ok (.bF n)=some xs:=by
 simp [dB,hg]
theorem n3{hh:Heap}:∀(c7:List CK) (n:Nat) (x:o6 c7),(∀e∈aQ c7 n x,hh.get e.1=some e.2)→cC c7 hh (az c7 n x)=some x
 | [],n,x,_=>rfl
 | .val k::r,n,x,hg=>by
  have h1:(az (.val k::r) n x).take k.sz=enc k x.1:=by simp only [az];rw [←eJ k x.1,List.take_left]
  have h2:(az (.val k::r) n x).drop k.sz=az r (n+1) x.2:=by simp only [az];rw [←eJ k x.1,List.drop_left]
  have e:cC (.val k::r) hh (az (.val k::r) n x)=(match dE k (((az (.val k::r) n x).take k.sz).map (cz hh)),cC r hh ((az (.val k::r) n x).drop k.sz) with
   | some x,some y=>some ((x,y):k.T×o6 r)
   | _,_=>none):=by generalize az (.val k::r) n x=l;cases l<;>rfl
  have h4:dE k (((az (.val k::r) n x).take k.sz).map (cz hh))=some x.1:=by
   rw [h1];exact (congrArg (dE k) (pO hh k x.1)).trans (sG k x.1)
  have h5:cC r hh ((az (.val k::r) n x).drop k.sz)=some x.2:=by
   rw [h2];exact n3 r (n+1) x.2 hg
  rw [e]
  generalize dE k (((az (.val k::r) n x).take k.sz).map (cz hh))=o1 at h4 ⊢
  generalize cC r hh ((az (.val k::r) n x).drop k.sz)=o2 at h5 ⊢
  subst h4;subst h5;rfl
 | .own ok::r,n,x,hg=>by
  simp only [aQ] at hg
  have h1:=u9 (hg _ List.mem_cons_self)
  have h2:=n3 r (n+1) x.2 (fun e he=>hg e (List.mem_cons_of_mem _ he))
  have e:cC (.own ok::r) hh (az (.own ok::r) n x)=(match dB hh ok (.bF n),cC r hh (az r (n+1) x.2) with
   | some x,some y=>some ((x,y):ok.T×o6 r)
   | _,_=>none):=rfl
  rw [e,h1,h2]
  rfl
theorem KK{hh:Heap}(b:BK){i n:Nat}{x:b.T}(hg:∀e∈iE b i n x,hh.get e.1=some e.2):oJ b hh i=some x:=by
 cases b with
 | box ty c =>
  simp only [iE] at hg
  have h1:EE hh i ty=some (az c n x):=by
   unfold EE
   rw [hg _ List.mem_cons_self]
   simp
  simp only [oJ,h1]
  exact n3 (hh:=hh) c n x (fun e he=>hg e (List.mem_cons_of_mem _ he))
 | own ok=>exact u9 (hg _ (by simp only [iE];exact List.mem_cons_self))
theorem wA{hh:Heap}:∀(bs:List BK) (is:List Nat) (n:Nat) (x:uL bs),is.length=bs.length→(∀e∈bp bs is n x,hh.get e.1=some e.2)→cO bs hh is=some x
 | [],[],n,x,_,_=>rfl
 | [],_::_,n,x,hl,_=>by simp at hl
 | _::_,[],n,x,hl,_=>by simp at hl
 | b::r,i::is,n,x,hl,hg=>by
  simp only [bp] at hg
  have h2:=KK b (fun e he=>hg e (List.mem_append_left _ he))
  have h3:=wA r is (n+16) x.2 (by simpa using hl) (fun e he=>hg e (List.mem_append_right _ he))
  have e:cO (b::r) hh (i::is)=(match oJ b hh i,cO r hh is with
    | some x,some y=>some ((x,y):b.T×uL r)
    | _,_=>none):=rfl
  rw [e,h2,h3]
  rfl
theorem vc{i:Nat}{o:Ob}:∀{hh:Heap},bZ (hh.map (·.1))=true→(i,o)∈hh→hh.get i=some o
 | [],_,h=>by cases h
 | (j,o')::r,hn,h=>by
  obtain ⟨h1,h2⟩:=lR hn
  simp only [Heap.get]
  rcases List.mem_cons.1 h with e | h
  ·cases e;simp
  ·rw [if_neg,vc h2 h]
   rintro rfl
   exact h1 (List.mem_map.2 ⟨_,h,rfl⟩)
theorem xz{hh:Heap}:∀(c7:List CK) (n:Nat) (x:o6 c7) (id:Nat),AV.bF id∉oI c7 (az c7 n x)
 | [],n,x,id=>by simp [az,oI]
 | .val k::r,n,x,id=>by
  have h1:(az (.val k::r) n x).take k.sz=enc k x.1:=by simp only [az];rw [←eJ k x.1,List.take_left]
  have h2:(az (.val k::r) n x).drop k.sz=az r (n+1) x.2:=by simp only [az];rw [←eJ k x.1,List.drop_left]
  have e:oI (.val k::r) (az (.val k::r) n x)=(az (.val k::r) n x).take k.sz++oI r ((az (.val k::r) n x).drop k.sz):=by generalize az (.val k::r) n x=l;cases l<;>rfl
  rw [e,h1,h2,List.mem_append]
  rintro (h | h)
  ·exact lf k x.1 id h
  ·exact xz (hh:=hh) r (n+1) x.2 id h
 | .own ok::r,n,x,id=>by simp only [az,oI];exact xz (hh:=hh) r (n+1) x.2 id
theorem yZ{hh:Heap}:∀(bs:List BK) (is:List Nat) (n:Nat) (x:uL bs) (id:Nat),(∀e∈bp bs is n x,hh.get e.1=some e.2)→AV.bF id∉fB bs hh is
 | [],is,n,x,id,_=>by cases is<;>simp [fB]
 | _::_,[],n,x,id,_=>by simp [fB]
 | b::r,i::is,n,x,id,hg=>by
  simp only [bp] at hg
  simp only [fB,List.mem_append]
  rintro (h | h)
  ·cases b with
   | box ty c =>
    simp only [yk] at h
    rw [hg (i,.box ty (az c n x.1)) (List.mem_append_left _ (by simp only [iE];exact List.mem_cons_self))] at h
    exact xz (hh:=hh) c n x.1 id h
   | own ok=>simp [yk] at h
  ·exact yZ r is (n+16) x.2 id (fun e he=>hg e (List.mem_append_right _ he)) h
theorem Cf{hh:Heap}:∀(cap:List AV) (is is':List Nat) (vs:List Value),jg cap=some is→is'.length=is.length→(∀p∈is.zip is',hh.get p.1≠none∧(h' p.2≠none→ψ' p.2=ψ p.1)) →
  an Z ψ hh.get w cap vs→an Z' ψ' h' w (is'.map fun i=>.ref i 0 0 0) vs
 | [],is,is',vs,h1,hl,_,hr=>by
  simp only [jg] at h1
  cases h1
  cases is' with
  | nil=>simpa only [List.map_nil,an] using hr
  | cons c r=>simp at hl
 | v::cap,is,is',vs,h1,hl,hp,hr=>by
  simp only [jg] at h1
  split at h1
  ·rename_i i is1 h3 h4
   cases h1
   cases is' with
   | nil=>simp at hl
   | cons c r =>
    simp only [List.zip_cons_cons] at hp
    simp only [List.map_cons,an] at hr ⊢
    obtain ⟨u,us,rfl,h7,h8⟩:=hr
    obtain ⟨sz,rfl⟩:=nV h3
    obtain ⟨h5,h6⟩:=hp _ List.mem_cons_self
    exact ⟨u,us,rfl,xx h7 h5 h6,Cf cap is1 r us h4 (by simpa using hl) (fun p h=>hp p (List.mem_cons_of_mem _ h)) h8⟩
  ·cases h1
theorem rF:∀(cap:List AV) (is:List Nat),jg cap=some is→is.length=cap.length
 | [],is,h=>by simp only [jg] at h;cases h;rfl
 | v::cap,is,h=>by
  simp only [jg] at h
  split at h
  ·rename_i i is1 h3 h4
   cases h
   simp [rF cap is1 h4]
  ·cases h
theorem rG:∀(cs:List AV) (is:List Nat),nJ cs=some is→is.length=cs.length
 | [],is,h=>by simp only [nJ] at h;cases h;rfl
 | c::r,is,h=>by
  cases c<;>simp only [nJ] at h<;>first | (cases h;done) | skip
  split at h
  ·rename_i is' h1
   cases h
   simp [rG r is' h1]
  ·cases h
theorem Cg{hh:Heap}:∀(cs:List AV) (is fT:List Nat) (vs:List Value),nJ cs=some is→fT.length=is.length→(∀p∈is.zip fT,hh.get p.1≠none∧(h' p.2≠none→ψ' p.2=ψ p.1)) →
  an Z ψ hh.get w cs vs→an Z' ψ' h' w (fT.map .bF) vs
 | [],is,fT,vs,h,hl,hp,hr=>by
  simp only [nJ] at h
  cases h
  have:fT=[]:=List.eq_nil_of_length_eq_zero hl
  subst this
  simpa only [List.map_nil,an] using hr
 | c::r,is,fT,vs,h,hl,hp,hr=>by
  cases c<;>simp only [nJ] at h<;>first | (cases h;done) | skip
  rename_i i
  split at h
  ·rename_i is' h1
   cases h
   cases fT with
   | nil=>simp at hl
   | cons i' fT =>
    simp only [List.zip_cons_cons] at hp
    obtain ⟨h5,h6⟩:=hp _ List.mem_cons_self
    simp only [List.map_cons,an] at hr ⊢
    obtain ⟨u,us,rfl,h3,h4⟩:=hr
    refine ⟨u,us,rfl,?_,Cg r is' fT us h1 (by simpa using hl) (fun p MV=>hp p (List.mem_cons_of_mem _ MV)) h4⟩
    simp only [av] at h3 ⊢
    exact ⟨h3.1,fun hn=>(h3.2 h5).trans (h6 hn).symm⟩
  ·cases h
theorem kH{hh:Heap}(g:Good Z ψ hh.get w B0 O)(hz:∀b,Z b→Z' b):∀(ps:List PK) (ids fT:List Nat) (s:Nat) (vs:List AV) (us:List Value) (x:ED (kd ps)),fT.length=ids.length→ct ps vs=some ids→dS ps hh vs=some x →
  (∀id b,AV.bF id∈c5 ps vs→hh.get id≠none→ob (ψ id)=some b→Z' b)→(∀p∈ids.zip fT,hh.get p.1≠none∧(h' p.2≠none→ψ' p.2=ψ p.1))→an Z ψ hh.get w vs us→an Z' ψ' h' w ((aN ps fT s x).map (·.2)) us
 | [],ids,fT,s,vs,us,x,hl,hi,hv,hf,hp,hr=>by
  cases vs with
  | nil=>simpa only [aN,List.map_nil,an] using hr
  | cons a r=>simp [ct] at hi
 | .val k::ps,ids,fT,s,vs,us,x,hl,hi,hv,hf,hp,hr=>by
  cases vs with
  | nil=>simp [ct] at hi
  | cons a r =>
   simp only [ct] at hi
   simp only [an] at hr
   obtain ⟨u,iz,rfl,h3,h4⟩:=hr
   obtain ⟨h1,h2⟩:=wy hv
   simp only [c5] at hf
   simp only [aN,List.map_cons,an]
   exact ⟨u,iz,rfl,qC g hz (fun id b bO=>hf id b (List.mem_append_left _ bO)) h1 h3,kH g hz ps ids fT (s+1) r iz x.2 hl hi h2 (fun id b bO=>hf id b (List.mem_append_right _ bO)) hp h4⟩
 | .ref::ps,ids,fT,s,vs,us,x,hl,hi,hv,hf,hp,hr=>by
  cases vs with
  | nil=>simp [ct] at hi
  | cons a r =>
   simp only [ct] at hi
   split at hi
   ·rename_i i is h1 h2
    cases hi
    simp only [an] at hr
    obtain ⟨u,iz,rfl,h3,h4⟩:=hr
    cases fT with
    | nil=>simp at hl
    | cons i' is' =>
     simp only [List.zip_cons_cons] at hp
     obtain ⟨sz,rfl⟩:=nV h1
     obtain ⟨h5,h6⟩:=hp _ List.mem_cons_self
     simp only [aN,List.map_cons,an]
     exact ⟨u,iz,rfl,xx h3 h5 h6,kH g hz ps is is' (s+1) r iz x (by simpa using hl) h2 hv hf (fun p h=>hp p (List.mem_cons_of_mem _ h)) h4⟩
   ·cases hi
 | .own::ps,ids,fT,s,vs,us,x,hl,hi,hv,hf,hp,hr=>by
  cases vs with
  | nil=>simp [ct] at hi
  | cons a r =>
   cases a<;>simp only [ct] at hi<;>first | (cases hi;done) | skip
   rename_i i
   split at hi
   ·rename_i is h2
    cases hi
    simp only [an] at hr
    obtain ⟨u,iz,rfl,h3,h4⟩:=hr
    cases fT with
    | nil=>simp at hl
    | cons i' is' =>
     simp only [List.zip_cons_cons] at hp
     obtain ⟨h5,h6⟩:=hp _ List.mem_cons_self
     simp only [aN,List.map_cons,an]
     refine ⟨u,iz,rfl,?_,kH g hz ps is is' (s+1) r iz x (by simpa using hl) h2 hv hf (fun p h=>hp p (List.mem_cons_of_mem _ h)) h4⟩
     simp only [av] at h3 ⊢
     exact ⟨h3.1,fun hn=>(h3.2 h5).trans (h6 hn).symm⟩
   ·cases hi
 | .EC f m::ps,ids,fT,s,vs,us,x,hl,hi,hv,hf,hp,hr=>by
  cases vs with
  | nil=>simp [ct] at hi
  | cons a r =>
   cases a<;>simp only [ct] at hi<;>first | (cases hi;done) | skip
   rename_i f' cap
   split at hi
   ·rename_i hc
    obtain ⟨rfl,ta⟩:=hc
    split at hi
    ·rename_i a1 b1 h1 h2
     cases hi
     simp only [an] at hr
     obtain ⟨u,iz,rfl,h3,h4⟩:=hr
     have h5:=rF cap a1 h1
     have wj:(a1++b1).zip fT=a1.zip (fT.take m)++b1.zip (fT.drop m):=by
      conv=>lhs;rw [←List.take_append_drop m fT]
      rw [List.zip_append]
      rw [List.length_take,Nat.min_eq_left]
      ·omega
      ·rw [hl,List.length_append];omega
     rw [wj] at hp
     simp only [aN,List.map_cons,an]
     refine ⟨u,iz,rfl,?_,kH g hz ps b1 (fT.drop m) (s+1) r iz x (by rw [List.length_drop,hl,List.length_append];omega) h2 hv hf (fun p h=>hp p (List.mem_append_right _ h)) h4⟩
     simp only [av] at h3 ⊢
     obtain ⟨ws,h6,h7⟩:=h3
     exact ⟨ws,h6,Cf cap a1 (fT.take m) _ h1 (by rw [List.length_take,Nat.min_eq_left (by rw [hl,List.length_append];omega)];omega) (fun p h=>hp p (List.mem_append_left _ h)) h7⟩
    ·cases hi
   ·cases hi
 | .agg m::ps,ids,fT,s,vs,us,x,hl,hi,hv,hf,hp,hr=>by
  cases vs with
  | nil=>simp [ct] at hi
  | cons a r =>
   cases a<;>simp only [ct] at hi<;>first | (cases hi;done) | skip
   rename_i cs
   split at hi
   ·rename_i ta
    split at hi
    ·rename_i a1 b1 h1 h2
     cases hi
     simp only [an] at hr
     obtain ⟨u,iz,rfl,h3,h4⟩:=hr
     have h5:=rG cs a1 h1
     have wj:(a1++b1).zip fT=a1.zip (fT.take m)++b1.zip (fT.drop m):=by
      conv=>lhs;rw [←List.take_append_drop m fT]
      rw [List.zip_append]
      rw [List.length_take,Nat.min_eq_left]
      ·omega
      ·rw [hl,List.length_append];omega
     rw [wj] at hp
     simp only [aN,List.map_cons,an]
     refine ⟨u,iz,rfl,?_,kH g hz ps b1 (fT.drop m) (s+1) r iz x (by rw [List.length_drop,hl,List.length_append];omega) h2 hv hf (fun p h=>hp p (List.mem_append_right _ h)) h4⟩
     simp only [av] at h3 ⊢
     obtain ⟨ws,h6,h7⟩:=h3
     exact ⟨ws,h6,Cg cs a1 (fT.take m) _ h1 (by rw [List.length_take,Nat.min_eq_left (by rw [hl,List.length_append];omega)];omega) (fun p h=>hp p (List.mem_append_left _ h)) h7⟩
    ·cases hi
   ·cases hi
theorem KM(hh:Heap)(k:K)(x:k.T):fj k hh (cc k x)=some x:=by
 unfold fj
 rw [if_pos (yV k x).symm,sH]
 exact (congrArg (dE k) (pO hh k x)).trans (sG k x)
theorem lV:∀(c7:List CK) (c n:Nat) (x:o6 c7),fk c7 c=true→(az c7 n x)[lN c7 c]? = some (.bF (n+c))
 | [],c,n,x,h=>by simp [fk] at h
 | .val k::r,0,n,x,h=>by simp [fk] at h
 | .val k::r,c+1,n,x,h=>by
  simp only [az,lN]
  have ih:=lV r c (n+1) x.2 (by simpa [fk] using h)
  have hl:(enc k x.1).length=k.sz:=eJ k x.1
  generalize enc k x.1=l at hl ⊢
  rw [List.getElem?_append_right (by omega),hl,Nat.add_sub_cancel_left,show n+(c+1)=n+1+c by omega]
  exact ih
 | .own ok::r,0,n,x,h=>by simp [az,lN]
 | .own ok::r,c+1,n,x,h=>by
  simp only [az,lN]
  rw [Nat.add_comm 1,List.getElem?_cons_succ,show n+(c+1)=n+1+c by omega]
  exact lV r c (n+1) x.2 (by simpa [fk] using h)
theorem wB:∀(bs:List BK) (b:Nat) (is:List Nat) (n:Nat) (x:uL bs) (ty:TypeId) (c:List CK) (bi:Nat),bs[b]? = some (.box ty c)→is[b]? = some bi→∃xb,(bi,.box ty (az c (n+16 * b) xb))∈bp bs is n x
 | [],b,is,n,x,_,_,bi,h,_=>by simp at h
 | b0::r,b,[],n,x,_,_,bi,_,h=>by simp at h
 | b0::r,0,i::is,n,x,ty,c,bi,h1,h2=>by
  simp only [List.getElem?_cons_zero,Option.some.injEq] at h1 h2
  subst h1;subst h2
  exact ⟨x.1,by simp only [bp,iE];exact List.mem_append_left _ List.mem_cons_self⟩
 | b0::r,b+1,i::is,n,x,ty,c,bi,h1,h2=>by
  obtain ⟨xb,h3⟩:=wB r b is (n+16) x.2 ty c bi (by simpa using h1) (by simpa using h2)
  refine ⟨xb,?_⟩
  simp only [bp]
  rw [show n+16 * (b+1)=n+16+16 * b by omega]
  exact List.mem_append_right _ h3
theorem lg{bs:List BK}{hh:Heap}{is:List Nat}{nb:Nat}{xb:uL bs}(hl:is.length=bs.length)(Qh:∀e∈bp bs is nb xb,hh.get e.1=some e.2):∀(rs:List RK) (ids2:List Nat) (m:Nat) (y:kS rs),pe bs rs=true →
  (∀e∈aj rs m y,hh.get e.1=some e.2)→bG bs rs hh is (aO rs ids2 nb m y)=some y
 | [],ids2,m,y,_,_=>rfl
 | .val k::r,ids2,m,y,hk,hg=>by
  simp only [pe,List.all_cons,Bool.and_eq_true,Br] at hk
  have h1:=KM hh k y.1
  have h2:=lg hl Qh r ids2 (m+1) y.2 hk.2 hg
  have e:bG bs (.val k::r) hh is (aO (.val k::r) ids2 nb m y)=(match fj k hh (cc k y.1),bG bs r hh is (aO r ids2 nb (m+1) y.2) with
   | some x,some y=>some ((x,y):k.T×kS r)
   | _,_=>none):=rfl
  rw [e]
  generalize fj k hh (cc k y.1)=o1 at h1 ⊢
  generalize bG bs r hh is (aO r ids2 nb (m+1) y.2)=o2 at h2 ⊢
  subst h1;subst h2;rfl
 | .own ok::r,ids2,m,y,hk,hg=>by
  simp only [pe,List.all_cons,Bool.and_eq_true,Br] at hk
  simp only [aj] at hg
  have h1:=u9 (hg _ List.mem_cons_self)
  have h2:=lg hl Qh r ids2 (m+1) y.2 hk.2 (fun e he=>hg e (List.mem_cons_of_mem _ he))
  have e:bG bs (.own ok::r) hh is (aO (.own ok::r) ids2 nb m y)=(match dB hh ok (.bF m),bG bs r hh is (aO r ids2 nb (m+1) y.2) with
   | some x,some y=>some ((x,y):ok.T×kS r)
   | _,_=>none):=rfl
  rw [e]
  generalize dB hh ok (.bF m)=o1 at h1 ⊢
  generalize bG bs r hh is (aO r ids2 nb (m+1) y.2)=o2 at h2 ⊢
  subst h1;subst h2;rfl
 | .dW b alts::r,ids2,m,y,hk,hg=>by
  simp only [pe,List.all_cons,Bool.and_eq_true,Br] at hk
  have h2:=lg hl Qh r ids2 (m+1) y.2 hk.2 hg
  have h1:mi bs hh is b alts (te b nb alts y.1)=some y.1:=by
   cases hy:y.1 with
   | none=>rfl
   | some p =>
    obtain ⟨al,i⟩:=p
    have h3:=hk.1
    split at h3
    ·rename_i bk Ww
     have aH:=(List.getElem?_eq_some_iff.1 Ww).1
     have KN:is[b]? = some (is[b]'(by omega)):=List.getElem?_eq_getElem (by omega)
     rw [Bool.and_eq_true,decide_eq_true_eq] at h3
     obtain ⟨h3,Ex⟩:=h3
     have Wx:∀a:Fin alts.length,fk bk.c7 (alts.get a).1=true:=fun a=>List.all_eq_true.1 h3 _ (List.get_mem alts a)
     cases bk with
     | own ok=>have:=Wx al;simp [BK.c7,fk] at this
     | box ty c0 =>
      obtain ⟨xb',h4⟩:=wB bs b is nb xb ty c0 _ Ww KN
      have h5:=Qh _ h4
      simp only [BK.c7] at Wx
      simp only [mi,te,Ww,KN,h5,BK.c7]
      have key:(List.finRange alts.length).find? (fun a=>wa c0 (az c0 (nb+16 * b) xb') (nb+16 * b+(alts.get al).1) (alts.get al).2.1 (alts.get al).2.2 (alts.get a))=some al:=by
       cases hf:(List.finRange alts.length).find? (fun a=>wa c0 (az c0 (nb+16 * b) xb') (nb+16 * b+(alts.get al).1) (alts.get al).2.1 (alts.get al).2.2 (alts.get a)) with
       | none =>
        have:=List.find?_eq_none.1 hf al (List.mem_finRange al)
        exfalso
        apply this
        simp only [wa,Bool.and_eq_true,decide_eq_true_eq]
        refine ⟨?_,trivial,trivial,Wx al⟩
        rw [lV c0 _ _ xb' (Wx al)]
        simp [Mt]
       | some a' =>
        have hf':=List.find?_some hf
        obtain ⟨h6,_,h7,_⟩:=yY hf'
        rw [lV c0 _ _ xb' (Wx a')] at h6
        simp only [Option.some.injEq,AV.bF.injEq] at h6
        have h8:(alts.get a').1=(alts.get al).1:=by omega
        congr 1
        have mr:∀a:Fin alts.length,(alts.map fun a=>(a.1,a.2.2))[a.val]? = some ((alts.get a).1,(alts.get a).2.2):=fun a=>by
         rw [List.getElem?_map,List.getElem?_eq_getElem a.isLt];rfl
        have e1:=mr a'
        have e2:=mr al
        rw [h8,←h7] at e1
        exact Fin.ext ((List.getElem?_inj (by simp) Ex).1 (e1.trans e2.symm))
      rw [key]
      rfl
    ·cases h3
  have e:bG bs (.dW b alts::r) hh is (aO (.dW b alts::r) ids2 nb m y)=(match mi bs hh is b alts (te b nb alts y.1),bG bs r hh is (aO r ids2 nb (m+1) y.2) with
   | some x,some y=>some ((x,y):Option (Fin alts.length×Nat)×kS r)
   | _,_=>none):=rfl
  rw [e]
  generalize mi bs hh is b alts (te b nb alts y.1)=o1 at h1 ⊢
  generalize bG bs r hh is (aO r ids2 nb (m+1) y.2)=o2 at h2 ⊢
  subst h1;subst h2;rfl
 | .agg c::r,ids2,m,y,hk,hg=>by
  simp only [pe,List.all_cons,Bool.and_eq_true,Br] at hk
  simp only [aj] at hg
  have h1:=n3 (hh:=hh) c m y.1 (fun e he=>hg e (List.mem_append_left _ he))
  have h2:=lg hl Qh r ids2 (m+1) y.2 hk.2 (fun e he=>hg e (List.mem_append_right _ he))
  have e:bG bs (.agg c::r) hh is (aO (.agg c::r) ids2 nb m y)=(match cC c hh (az c m y.1),bG bs r hh is (aO r ids2 nb (m+1) y.2) with
   | some x,some y=>some ((x,y):o6 c×kS r)
   | _,_=>none):=rfl
  rw [e]
  generalize cC c hh (az c m y.1)=o1 at h1 ⊢
  generalize bG bs r hh is (aO r ids2 nb (m+1) y.2)=o2 at h2 ⊢
  subst h1;subst h2;rfl
end Go.Vs
namespace Go.Vs
variable {P:Program} {Z Z':Nat→Prop} {ψ ψ':Nat→Value} {h h':Hp} {w w':World} {B0:Nat} {O:Nat→Prop} {N:Nat→Prop}
def n6(g:aJ)(x:g.A):Hp:=(bp g.bs (aL g.bs.length) 2000 x.2).get
def jt(g:aJ)(y:g.B):Heap:=bp g.bs (aL g.bs.length) 2000 y.2++aj g.rs 3000 y.1
def Dx(g:aJ)(x:g.A):List AV:=(aN g.ps (aL g.bs.length) 0 x.1).map (·.2)
def Ch(P:Program)(f:FuncId)(g:aJ)(x:g.A)(y:g.B):Prop :=
 ∀(Z:Nat→Prop) (ψ0:Nat→Value) (w:World) (jQ:List Value),Good Z ψ0 (n6 g x) w w.heap.size (Own ψ0 (n6 g x))→an Z ψ0 (n6 g x) w (Dx g x) jQ →
  Calls P (f % 1000) jQ.toArray w fun e w'=>∃v Z' ψ',e=.returned v∧(∀b,Z b→Z' b)∧(∀b,Z' b→Z b∨Own ψ0 (n6 g x) b∨w.heap.size≤b)∧cQ ψ0 (n6 g x) w w' ∧
   Good Z' ψ' (jt g y).get w' w.heap.size (Own ψ0 (n6 g x))∧(∀i∈aL g.bs.length,ψ' i=ψ0 i)∧av Z' ψ' (jt g y).get w' (ep (aO g.rs (aL g.bs.length) 2000 3000 y.1)) v
theorem Dy{ψ:Nat→Value}{b:Nat}:¬Own ψ fG b:=fun ⟨_,h,_⟩=>h rfl
theorem tH(ids:List Nat)(n:Nat)(x:uL []):bp [] ids n x=[]:=by cases ids<;>rfl
theorem Ch.zero{f:FuncId}{g:aJ}{x:g.A}{y:g.B}(hb:g.bs=[])(c:Ch P f g x y):Wp P f g x y:=by
 obtain ⟨ps,bs,rs,_⟩:=g
 simp only at hb
 subst hb
 intro Z w jQ hz hr
 have e0:n6 ⟨ps,[],rs,_⟩ x=fG:=by unfold n6;rw [tH];rfl
 have e1:jt ⟨ps,[],rs,_⟩ y=aj rs 3000 y.1:=by unfold jt;rw [tH];rfl
 have hO:Own Hr fG=fun _=>False:=funext fun b=>propext ⟨Dy,False.elim⟩
 unfold Ch at c
 rw [e0,e1] at c
 refine (c Z Hr w jQ ⟨fun _ _ _ h=>(by cases h),fun _ _ _ h=>(by cases h),fun _ _ h=>absurd rfl h,fun _ _ _ h=>absurd rfl h,hz⟩ hr).mono fun e w' ⟨v,Z',ψ',h1,h2,h3,h4,h5,_,h6⟩ => ?_
 exact ⟨v,Z',ψ',h1,h2,fun b hb=>(h3 b hb).imp (fun h=>h) fun h=>h.resolve_left Dy,h4,by rw [hO] at h5;exact h5,h6⟩
theorem E3{bs:List BK}{hh:Heap}{x:uL bs}(hd:cO bs hh []=some x):bs=[]:=by
 cases bs with
 | nil=>rfl
 | cons b r=>cases hd
variable {Eqs:TypeId→Option K} {Sg:FuncId→Option aJ} {F:(f:FuncId)→(g:aJ)→g.A→Option g.B}
theorem E4{a b:List Nat}(h:bZ (a++b)=true):bZ a=true:=by
 induction a with
 | nil=>rfl
 | cons i r ih =>
  obtain ⟨h1,h2⟩:=lR h
  simp only [bZ,Bool.and_eq_true,Bool.not_eq_true']
  refine ⟨?_,ih h2⟩
  cases hc:r.contains i with
  | false=>rfl
  | true=>exact absurd (List.mem_append_left _ (List.contains_iff_mem.1 hc)) h1
theorem Good.Dz(g:Good Z ψ h w B0 O)(B:Nat):Good Z ψ h w B (Own ψ h) :=
 ⟨g.box,g.row,fun id b h1 h2=>⟨(g.live id b h1 h2).1,.inr ⟨id,h1,h2⟩⟩,g.apart,g.jk⟩
theorem mU:∀(l:List Nat) (hh:Heap) (i:Nat),(gk hh l).get i=if i∈l then none else hh.get i
 | [],hh,i=>by simp [gk]
 | j::r,hh,i=>by
  simp only [gk]
  rw [mU r (hh.del j) i]
  by_cases h1:i∈r
  ·simp [h1]
  ·by_cases h2:i=j
   ·subst h2;simp [Heap.fR]
   ·rw [Heap.gV h2];simp [h1,h2]
theorem gy:∀(c7:List CK) (n:Nat) (x:o6 c7),(aQ c7 n x).map (·.1)=b7 c7 n
 | [],_,_=>rfl
 | .val k::r,n,x=>gy r (n+1) x.2
 | .own ok::r,n,x=>by simp only [aQ,b7,List.map_cons];rw [gy r (n+1) x.2]
theorem lh:∀(bs:List BK) (is:List Nat) (n:Nat) (x:uL bs),is.length=bs.length→(bp bs is n x).map (·.1)=bV bs is n
 | [],is,n,x,_=>by cases is<;>rfl
 | b::r,[],n,x,hl=>by simp at hl
 | b::r,i::is,n,x,hl=>by
  simp only [bp,bV,List.map_append]
  rw [lh r is (n+16) x.2 (by simpa using hl),←List.cons_append]
  congr 1
  cases b with
  | box ty c=>simp only [iE,List.map_cons,BK.c7];rw [gy]
  | own ok=>simp [iE,BK.c7,b7]
theorem eZ:∀(rs:List RK) (m:Nat) (y:kS rs),(aj rs m y).map (·.1)=bq rs m
 | [],_,_=>rfl
 | .own ok::r,m,y=>by simp only [aj,bq,List.map_cons];rw [eZ r (m+1) y.2]
 | .val _::r,m,y=>eZ r (m+1) y.2
 | .dW _ _::r,m,y=>eZ r (m+1) y.2
 | .agg c::r,m,y=>by
  have e1:(aQ c m y.1).map (·.1)=b7 c m:=gy c m y.1
  simp only [aj,bq,List.map_append]
  rw [eZ r (m+1) y.2]
  exact congrArg (·++_) e1
theorem n8:∀(c7:List CK) (n:Nat) (x:o6 c7),fe c7 (az c7 n x)=b7 c7 n
 | [],_,_=>rfl
 | .val k::r,n,x=>by
  have h2:(az (.val k::r) n x).drop k.sz=az r (n+1) x.2:=by simp only [az];rw [←eJ k x.1,List.drop_left]
  have e:fe (.val k::r) (az (.val k::r) n x)=fe r ((az (.val k::r) n x).drop k.sz):=by generalize az (.val k::r) n x=l;cases l<;>rfl
  rw [e,h2,n8 r (n+1) x.2];rfl
 | .own ok::r,n,x=>by simp only [az,fe,nI,b7,List.cons_append,List.nil_append];rw [n8 r (n+1) x.2]
theorem wC{hh:Heap}:∀(bs:List BK) (is:List Nat) (n:Nat) (x:uL bs),is.length=bs.length→(∀e∈bp bs is n x,hh.get e.1=some e.2)→cP bs hh is=bV bs is n
 | [],is,n,x,_,_=>by cases is<;>rfl
 | _::_,[],n,x,hl,_=>by simp at hl
 | b::r,i::is,n,x,hl,hg=>by
  simp only [bp] at hg
  simp only [cP,bV]
  rw [wC r is (n+16) x.2 (by simpa using hl) (fun e he=>hg e (List.mem_append_right _ he)),←List.cons_append]
  congr 1
  cases b with
  | box ty c =>
   simp only [jG,BK.c7]
   rw [hg (i,.box ty (az c n x.1)) (List.mem_append_left _ (by simp only [iE];exact List.mem_cons_self))]
   simp only []
   rw [n8]
  | own ok=>simp [jG,BK.c7,b7]
theorem jR:∀(rs:List RK) (ids:List Nat) (n m:Nat) (y:kS rs),dx rs (aO rs ids n m y)=bq rs m
 | [],_,_,_,_=>rfl
 | .own ok::r,ids,n,m,y=>by simp only [aO,dx,bq,nI,List.cons_append,List.nil_append];rw [jR r ids n (m+1) y.2]
 | .val _::r,ids,n,m,y=>by simp only [aO,dx,bq];exact jR r ids n (m+1) y.2
 | .dW _ _::r,ids,n,m,y=>by simp only [aO,dx,bq];exact jR r ids n (m+1) y.2
 | .agg c::r,ids,n,m,y=>by
  have e1:fe c (az c m y.1)=b7 c m:=n8 c m y.1
  simp only [aO,dx,bq,AV.cells]
  rw [jR r ids n (m+1) y.2]
  exact congrArg (·++_) e1
theorem lj:∀(rs:List RK) (ids:List Nat) (n m:Nat) (y:kS rs) (id:Nat),AV.bF id∉fC rs (aO rs ids n m y)
 | [],_,_,_,_,_=>by simp [aO,fC]
 | .own ok::r,ids,n,m,y,id=>by simp only [aO,fC];exact lj r ids n (m+1) y.2 id
 | .val k::r,ids,n,m,y,id=>by
  simp only [aO,fC,List.mem_append]
  rintro (h | h)
  ·have e:(cc k y.1).cells=enc k y.1:=sH k y.1
   exact lf k y.1 id (e▸h)
  ·exact lj r ids n (m+1) y.2 id h
 | .dW _ _::r,ids,n,m,y,id=>by simp only [aO,fC];exact lj r ids n (m+1) y.2 id
 | .agg c::r,ids,n,m,y,id=>by
  simp only [aO,fC,AV.cells,List.mem_append]
  rintro (h | h)
  ·exact xz (hh:=[]) c m y.1 id h
  ·exact lj r ids n (m+1) y.2 id h
theorem KO{gg:aJ}{x:gg.A}{y:gg.B}{MW:List Nat}{mJ dI:Nat→Value}{id:Nat}(hl:MW.length=gg.bs.length)(TR:pe gg.bs gg.rs=true)(tI:bZ (o8 gg)=true)
  (y0:bZ (bV gg.bs MW id++bq gg.rs (id+128))=true) (MX:Good Z' dI (jt gg y).get w' w.heap.size (Own mJ (n6 gg x)))
  {v:Value} (abg:av Z' dI (jt gg y).get w' (ep (aO gg.rs (aL gg.bs.length) 2000 3000 y.1)) v) :
  ∃L2:List wu,dk L2=bp gg.bs MW id y.2++aj gg.rs (id+128) y.1∧L2.map (·.1)=bV gg.bs MW id++bq gg.rs (id+128) ∧
   Good Z' (dX dI L2) (dk L2).get w' w.heap.size (Own mJ (n6 gg x))∧(∀p∈(aL gg.bs.length).zip MW,dX dI L2 p.2=dI p.1) ∧
   av Z' (dX dI L2) (dk L2).get w' (ep (aO gg.rs MW id (id+128) y.1)) v:=by
 have hle:(aL gg.bs.length).length=gg.bs.length:=by simp [aL]
 have hn2:bZ ((jt gg y).map (·.1))=true:=by
  unfold jt
  rw [List.map_append,lh _ _ _ _ hle,eZ];exact tI
 have Qh:∀e∈bp gg.bs (aL gg.bs.length) 2000 y.2,(jt gg y).get e.1=some e.2:=fun e he=>vc hn2 (by unfold jt;exact List.mem_append_left _ he)
 have hgr:∀e∈aj gg.rs 3000 y.1,(jt gg y).get e.1=some e.2:=fun e he=>vc hn2 (by unfold jt;exact List.mem_append_right _ he)
 have yN:=wA gg.bs _ 2000 y.2 hle Qh
 have QO:=lg (xb:=y.2) hle Qh gg.rs (aL gg.bs.length) 3000 y.1 TR hgr
 let vsC:=aO gg.rs (aL gg.bs.length) 2000 3000 y.1
 let L2:List wu:=ck gg.bs (jt gg y) (aL gg.bs.length) MW id y.2++cr gg.rs vsC (id+128) y.1
 have eH:dk L2=bp gg.bs MW id y.2++aj gg.rs (id+128) y.1:=by
  show dk (_++_)=_
  rw [lT,iH _ _ _ _ _ _ yN hl,fS]
 have eN:L2.map (·.1)=bV gg.bs MW id++bq gg.rs (id+128):=by
  show (_++_:List wu).map _=_
  rw [List.map_append,gr _ _ _ _ _ _ yN hl,eY]
 have eS:L2.filterMap (·.2.1)=o8 gg:=by
  show (_++_:List wu).filterMap _=_
  rw [List.filterMap_append,jO _ _ _ _ _ _ yN hl,ic _ _ _ _ QO,wC _ _ 2000 y.2 hle Qh,jR];rfl
 have hn:bZ (L2.map (·.1))=true:=by rw [eN];exact y0
 have iC:=xw (ψ:=dI) hn
 have g3:Good Z' (dX dI L2) (dk L2).get w' w.heap.size (Own mJ (n6 gg x)):=by
  refine MX.rename hn (by rw [eS];exact tI) fun e he => ?_
  rcases List.mem_append.1 he with he | he
  ·exact k0 MX (fun _ h=>h) gg.bs _ _ id y.2 yN (fun i b bO _ _=>(yZ gg.bs _ 2000 y.2 i Qh bO).elim) (fun s _=>rfl) (fun e he=>iC e (List.mem_append_left _ he)) e he
  ·exact js gg.rs vsC (id+128) y.1 QO (fun s _=>rfl) e he
 refine ⟨L2,eH,eN,g3,fun p hp => ?_,?_⟩
 ·obtain ⟨o,ho⟩:=jP (hh:=jt gg y) gg.bs (aL gg.bs.length) MW id y.2 hle p hp
  exact ib hn (List.mem_append_left _ ho)
 ·refine sF (by rw [jI,jI]) (fun vs so => ?_) abg
  exact qJ (nb:=id) (is':=MW) MX (fun _ h=>h) yN hl (fun e he=>iC e (List.mem_append_left _ he)) gg.rs vsC (id+128) y.1 vs QO (fun i b bO _ _=>(lj gg.rs _ _ _ y.1 i bO).elim) (fun e he=>iC e (List.mem_append_right _ he)) so
theorem KP{hh:Heap}{kb:List AV}{kept:List Nat}{lH:Hp}{mJ MY:Nat→Value}{H2:Heap}(g:Good Z ψ hh.get w B0 O)(hB:B0≤w.heap.size)(Hs:∀s∈kept,(cw hh kb).get s=hh.get s)
  (bg:∀i ty cs,hh.get i=some (.box ty cs)→aA (fun i=>¬N i) cs) (sr:∀b,Own mJ lH b→∃s,s∈kept∧hh.get s≠none∧ob (ψ s)=some b)
  (hz:∀b,o4 Z ψ hh.get kb b→Z' b) (Me:∀b,Z' b→o4 Z ψ hh.get kb b∨Own mJ lH b∨w.heap.size≤b) (keep:cQ mJ lH w w') (g3:Good Z' MY H2.get w' w.heap.size (Own mJ lH))
  (TS:∀i ty cs,H2.get i=some (.box ty cs)→aA (fun j=>H2.get j≠none) cs) (rh:∀i,H2.get i≠none→(i∈kept∧hh.get i≠none∧MY i=ψ i)∨N i) :
  ∃zc,(∀i,H2.get i≠none→zc i=MY i)∧Next Z ψ hh.get w B0 O N Z' zc (H2++gk (cw hh kb) kept).get w':=by
 classical
 let zc:Nat→Value:=fun i=>if H2.get i≠none then MY i else ψ i
 have h4:∀i,H2.get i≠none→zc i=MY i:=fun i hi=>if_pos hi
 have hg:∀i,(H2++gk (cw hh kb) kept).get i=(match H2.get i with | some o=>some o | none=>if i∈kept then none else (cw hh kb).get i):=fun i=>by rw [Heap.get_append,mU];cases H2.get i<;>rfl
 have Bv:∀i,H2.get i≠none→(H2++gk (cw hh kb) kept).get i=H2.get i:=fun i hi=>by
  rw [hg];cases e:H2.get i with
  | none=>exact absurd e hi
  | some o=>rfl
 have wD:∀i,H2.get i=none→(H2++gk (cw hh kb) kept).get i≠none→i∉kept∧(H2++gk (cw hh kb) kept).get i=hh.get i∧(cw hh kb).get i=hh.get i∧zc i=ψ i∧hh.get i≠none:=fun i hi bj=>by
  rw [hg,hi] at bj ⊢
  simp only at bj ⊢
  by_cases hk:i∈kept
  ·rw [if_pos hk] at bj;exact absurd rfl bj
  ·rw [if_neg hk] at bj ⊢
   obtain ⟨o,ho⟩:=Option.ne_none_iff_exists'.1 bj
   have:=dK _ _ _ _ ho
   exact ⟨hk,by rw [ho,this],by rw [ho,this],if_neg (by simp [hi]),by rw [this];simp⟩
 have QP:∀i b,i∉kept→hh.get i≠none→ob (ψ i)=some b→¬Own mJ lH b:=fun i b hk hi hb ho=>by
  obtain ⟨s,h1,h2,h3⟩:=sr b ho
  exact hk ((g.apart i s b hi h2 hb h3)▸h1)
 have gd:Good (o4 Z ψ hh.get kb) ψ (cw hh kb).get w B0 O:=gW g kb
 have Wy:∀b,o4 Z ψ hh.get kb b→¬Own mJ lH b:=fun b hb ho=>by
  obtain ⟨s,h1,h2,h3⟩:=sr b ho
  exact (gd.live s b (by rw [Hs s h1];exact h2) h3).1 hb
 have sm:cg (o4 Z ψ hh.get kb) w w':=fun b hb=>keep.block b (gd.jk b hb) (Wy b hb)
 have Wz:∀i,(H2++gk (cw hh kb) kept).get i≠none→(hh.get i≠none∧zc i=ψ i)∨N i:=fun i hi=>by
  by_cases h2:H2.get i=none
  ·obtain ⟨_,_,_,h3,h5⟩:=wD i h2 hi
   exact .inl ⟨h5,h3⟩
  ·rcases rh i h2 with ⟨_,h3,h5⟩ | h3
   ·exact .inl ⟨h3,(h4 i h2).trans h5⟩
   ·exact .inr h3
 have kk:cQ ψ hh.get w w':=⟨keep.os,keep.tape,keep.output,keep.size,fun b hb pJ=>keep.block b hb fun ho=>by
  obtain ⟨s,_,h2,h3⟩:=sr b ho
  exact pJ ⟨s,h2,h3⟩⟩
 refine ⟨zc,h4,fun b hb=>hz b (.inl hb),fun b hb => ?_,kk,Wz,⟨fun i ty cs hb => ?_,fun i ok xs hb => ?_,fun i b h1 h2 => ?_,fun i i' b h1 h2 h3 h5 => ?_,g3.jk⟩⟩
 ·rcases Me b hb with h1 | h1 | h1
  ·exact (h1.imp (fun h=>h) fun ⟨i,_,h2,h3⟩=>.inl ⟨i,h2,h3⟩)
  ·obtain ⟨s,_,h2,h3⟩:=sr b h1
   exact .inr (.inl ⟨s,h2,h3⟩)
  ·exact .inr (.inr h1)
 ·by_cases h2:H2.get i=none
  ·obtain ⟨h3,h5,h6,h7,h8⟩:=wD i h2 (by rw [hb];simp)
   rw [h5] at hb
   obtain ⟨gg,vs,e1,e2,e3,e4⟩:=gd.box i ty cs (by rw [h6];exact hb)
   have aH:=(Array.getElem?_eq_some_iff.1 e2).1
   refine ⟨gg,vs,by rw [h7,e1],?_,?_,e4⟩
   ·rw [keep.block gg aH (QP i gg h3 h8 (by rw [e1];rfl))];exact e2
   ·refine e3.move (p:=fun i=>¬N i) hz sm (fun j hp hj => ?_) (bg i ty cs hb)
    by_cases h9:H2.get j=none
    ·obtain ⟨_,_,mq,w7,Ho⟩:=wD j h9 hj
     exact ⟨by rw [mq];exact Ho,w7⟩
    ·rcases rh j h9 with ⟨mq,w7,Ho⟩ | mq
     ·exact ⟨by rw [Hs j mq];exact w7,(h4 j h9).trans Ho⟩
     ·exact absurd mq hp
  ·rw [Bv i h2] at hb
   obtain ⟨gg,vs,e1,e2,e3,e4⟩:=g3.box i ty cs hb
   exact ⟨gg,vs,by rw [h4 i h2,e1],e2,e3.move (p:=fun j=>H2.get j≠none) (fun _ h=>h) (cg.refl _ _) (fun j hp _=>⟨hp,h4 j hp⟩) (TS i ty cs hb),e4⟩
 ·by_cases h2:H2.get i=none
  ·obtain ⟨h3,h5,h6,h7,h8⟩:=wD i h2 (by rw [hb];simp)
   rw [h5] at hb
   rw [h7]
   exact (gd.row i ok xs (by rw [h6];exact hb)).kept hz sm fun gg Ks=>keep.block gg (g.bL ⟨i,h8,Ks⟩) (QP i gg h3 h8 Ks)
  ·rw [Bv i h2] at hb
   rw [h4 i h2]
   exact g3.row i ok xs hb
 ·by_cases h3:H2.get i=none
  ·obtain ⟨h5,h6,h7,h8,h9⟩:=wD i h3 h1
   rw [h8] at h2
   obtain ⟨mq,w7⟩:=gd.live i b (by rw [h7];exact h9) h2
   refine ⟨fun V9 => ?_,w7⟩
   rcases Me b V9 with Ho | Ho | Ho
   ·exact mq Ho
   ·exact QP i b h5 h9 h2 Ho
   ·have:=g.bL ⟨i,h9,h2⟩;omega
  ·rw [h4 i h3] at h2
   obtain ⟨h5,h6⟩:=g3.live i b h3 h2
   refine ⟨h5,?_⟩
   rcases h6 with h6 | h6
   ·exact .inl (by omega)
   ·obtain ⟨s,_,h7,h8⟩:=sr b h6
    exact (g.live s b h7 h8).2
 ·have we:∀i i',H2.get i=none→H2.get i'≠none→(H2++gk (cw hh kb) kept).get i≠none→ob (zc i)=some b→ob (zc i')=some b→False:=fun i i' e1 e2 e3 e4 e5=>by
   obtain ⟨h6,_,_,h8,h9⟩:=wD i e1 e3
   rw [h8] at e4;rw [h4 i' e2] at e5
   rcases (g3.live i' b e2 e5).2 with mq | mq
   ·have:=g.bL ⟨i,h9,e4⟩;omega
   ·exact QP i b h6 h9 e4 mq
  by_cases e1:H2.get i=none<;>by_cases e2:H2.get i'=none
  ·obtain ⟨_,_,_,h8,h9⟩:=wD i e1 h1
   obtain ⟨_,_,_,h8',h9'⟩:=wD i' e2 h2
   rw [h8] at h3;rw [h8'] at h5
   exact g.apart i i' b h9 h9' h3 h5
  ·exact (we i i' e1 e2 h1 h3 h5).elim
  ·exact (we i' i e2 e1 h2 h5 h3).elim
  ·rw [h4 i e1] at h3;rw [h4 i' e2] at h5
   exact g3.apart i i' b e1 e2 h3 h5
theorem xC{i:Nat}{o:Ob}:∀{hh:Heap},(i,o)∈hh→hh.get i≠none
 | [],h=>by cases h
 | (j,o')::r,h=>by
  simp only [Heap.get]
  split
  ·simp
  ·rename_i hn
   rcases List.mem_cons.1 h with e | h
   ·cases e;exact absurd rfl hn
   ·exact xC h
theorem get_mem{i:Nat}{o:Ob}:∀{hh:Heap},hh.get i=some o→(i,o)∈hh
 | [],h=>by simp [Heap.get] at h
 | (j,o')::r,h=>by
  simp only [Heap.get] at h
  split at h
  ·rename_i e;subst e;cases h;exact List.mem_cons_self
  ·exact List.mem_cons_of_mem _ (get_mem h)
theorem oa{p:Nat→Prop}:∀{a b:List AV},aA p a→aA p b→aA p (a++b)
 | [],b,_,h=>h
 | x::r,b,h,h'=>by simp only [List.cons_append,aA] at h ⊢;exact ⟨h.1,oa h.2 h'⟩
theorem jJ{p:Nat→Prop}:∀(c7:List CK) (n:Nat) (x:o6 c7),(∀e∈aQ c7 n x,p e.1)→aA p (az c7 n x)
 | [],n,x,_=>by simp only [az,aA]
 | .val k::r,n,x,h=>by simp only [az];exact oa (la p k x.1) (jJ r (n+1) x.2 h)
 | .own ok::r,n,x,h=>by
  simp only [aQ] at h
  simp only [az,aA,aG]
  exact ⟨h _ List.mem_cons_self,jJ r (n+1) x.2 fun e he=>h e (List.mem_cons_of_mem _ he)⟩
theorem lW:∀(c7:List CK) (n:Nat) (x:o6 c7) (i:Nat) (ty:TypeId) (cs:List AV),(i,Ob.box ty cs)∉aQ c7 n x
 | [],_,_,_,_,_=>by simp [aQ]
 | .val k::r,n,x,i,ty,cs=>lW r (n+1) x.2 i ty cs
 | .own _::r,n,x,i,ty,cs=>by
  simp only [aQ,List.mem_cons,not_or]
  exact ⟨by simp,lW r (n+1) x.2 i ty cs⟩
theorem rH{p:Nat→Prop}:∀(bs:List BK) (is:List Nat) (n:Nat) (x:uL bs),(∀e∈bp bs is n x,p e.1)→∀i ty cs,(i,Ob.box ty cs)∈bp bs is n x→aA p cs
 | [],is,n,x,_,i,ty,cs,h=>by cases is<;>simp [bp] at h
 | b::r,[],n,x,_,i,ty,cs,h=>by simp [bp] at h
 | b::r,i0::is,n,x,hp,i,ty,cs,h=>by
  simp only [bp] at h hp
  rcases List.mem_append.1 h with h | h
  ·cases b with
   | box ty0 c0 =>
    simp only [iE] at h hp
    rcases List.mem_cons.1 h with e | h
    ·cases e
     exact jJ c0 n x.1 fun e he=>hp e (List.mem_append_left _ (List.mem_cons_of_mem _ he))
    ·exact absurd h (lW _ _ _ _ _ _)
   | own ok=>simp [iE] at h
  ·exact rH r is (n+16) x.2 (fun e he=>hp e (List.mem_append_right _ he)) i ty cs h
theorem lX:∀(c7:List CK) (n i:Nat),i∈b7 c7 n→n≤i∧i<n+c7.length
 | [],n,i,h=>by simp [b7] at h
 | .val k::r,n,i,h=>by
  have:=lX r (n+1) i (by simpa [b7] using h)
  simp only [List.length_cons];omega
 | .own ok::r,n,i,h=>by
  simp only [b7] at h
  simp only [List.length_cons]
  rcases List.mem_cons.1 h with rfl | h
  ·omega
  ·have:=lX r (n+1) i h;omega
theorem tJ:∀(bs:List BK) (is:List Nat) (n i:Nat),(bs.all fun b=>decide (b.c7.length≤16))=true→i∈bV bs is n→i∈is∨(n≤i∧i<n+16 * bs.length)
 | [],is,n,i,_,h=>by cases is<;>simp [bV] at h
 | b::r,[],n,i,_,h=>by simp [bV] at h
 | b::r,i0::is,n,i,hc,h=>by
  simp only [List.all_cons,Bool.and_eq_true,decide_eq_true_eq] at hc
  simp only [bV] at h
  simp only [List.length_cons]
  rcases List.mem_cons.1 h with rfl | h
  ·exact .inl List.mem_cons_self
  ·rcases List.mem_append.1 h with h | h
   ·have:=lX _ _ _ h;exact .inr (by omega)
   ·rcases tJ r is (n+16) i hc.2 h with h1 | h1
    ·exact .inl (List.mem_cons_of_mem _ h1)
    ·exact .inr (by omega)
theorem iL{bs:List BK}:∀(rs:List RK) (m i:Nat),pe bs rs=true→i∈bq rs m→m≤i∧i<m+rs.length+16
 | [],m,i,_,h=>by simp [bq] at h
 | .own ok::r,m,i,hk,h=>by
  simp only [pe,List.all_cons,Bool.and_eq_true] at hk
  simp only [bq] at h
  simp only [List.length_cons]
  rcases List.mem_cons.1 h with rfl | h
  ·omega
  ·have:=iL r (m+1) i hk.2 h;omega
 | .val _::r,m,i,hk,h=>by
  simp only [pe,List.all_cons,Bool.and_eq_true] at hk
  have:=iL r (m+1) i hk.2 (by simpa [bq] using h)
  simp only [List.length_cons];omega
 | .dW _ _::r,m,i,hk,h=>by
  simp only [pe,List.all_cons,Bool.and_eq_true] at hk
  have:=iL r (m+1) i hk.2 (by simpa [bq] using h)
  simp only [List.length_cons];omega
 | .agg c::r,m,i,hk,h=>by
  simp only [pe,List.all_cons,Bool.and_eq_true,Br,decide_eq_true_eq] at hk
  simp only [bq] at h
  simp only [List.length_cons]
  rcases List.mem_append.1 h with h | h
  ·have:=lX c m i h;omega
  ·have:=iL r (m+1) i hk.2 h;omega
theorem wE{hh:Heap}:∀(bs:List BK) (is:List Nat) (i:Nat),is.length=bs.length→i∈is→i∈cP bs hh is
 | [],is,i,hl,h=>by cases is with
  | nil=>cases h
  | cons a r=>simp at hl
 | b::r,[],i,_,h=>by cases h
 | b::r,i0::is,i,hl,h=>by
  simp only [cP]
  rcases List.mem_cons.1 h with rfl | h
  ·refine List.mem_append_left _ ?_
   cases b<;>simp [jG]
  ·exact List.mem_append_right _ (wE r is i (by simpa using hl) h)
theorem MZ{α β:Type}:∀{a:List α} {b:List β},a.length=b.length→∀x∈a,∃y,(x,y)∈a.zip b∧(y,x)∈b.zip a
 | [],b,_,x,h=>by cases h
 | a::r,[],hl,x,_=>by simp at hl
 | a::r,c::q,hl,x,h=>by
  simp only [List.zip_cons_cons]
  rcases List.mem_cons.1 h with rfl | h
  ·exact ⟨c,List.mem_cons_self,List.mem_cons_self⟩
  ·obtain ⟨y,h1,h2⟩:=MZ (a:=r) (b:=q) (by simpa using hl) x h
   exact ⟨y,List.mem_cons_of_mem _ h1,List.mem_cons_of_mem _ h2⟩
theorem sJ:∀(c7:List CK) (n c:Nat),fk c7 c=true→n+c∈b7 c7 n
 | [],n,c,h=>by simp [fk] at h
 | .own _::r,n,0,_=>by simp [b7]
 | .own _::r,n,c+1,h=>by
  simp only [fk] at h
  have:=sJ r (n+1) c h
  simp only [b7]
  exact List.mem_cons_of_mem _ (by rwa [show n+(c+1)=n+1+c by omega])
 | .val _::r,n,0,h=>by simp [fk] at h
 | .val _::r,n,c+1,h=>by
  simp only [fk] at h
  have:=sJ r (n+1) c h
  simp only [b7]
  rwa [show n+(c+1)=n+1+c by omega]
theorem wF:∀(bs:List BK) (is:List Nat) (n b i:Nat) (bk:BK),is.length=bs.length→bs[b]? = some bk→i∈b7 bk.c7 (n+16 * b)→i∈bV bs is n
 | [],_,_,b,_,_,_,h,_=>by simp at h
 | _::_,[],_,_,_,_,hl,_,_=>by simp at hl
 | b0::r,i0::is,n,0,i,bk,hl,hb,hi=>by
  simp only [List.getElem?_cons_zero,Option.some.injEq] at hb
  subst hb
  simp only [bV]
  exact List.mem_cons_of_mem _ (List.mem_append_left _ (by simpa using hi))
 | b0::r,i0::is,n,b+1,i,bk,hl,hb,hi=>by
  simp only [List.getElem?_cons_succ] at hb
  simp only [bV]
  refine List.mem_cons_of_mem _ (List.mem_append_right _ (wF r is (n+16) b i bk (by simpa using hl) hb ?_))
  rwa [show n+16+16 * b=n+16 * (b+1) by omega]
theorem jS{p:Nat→Prop}{bs:List BK}{is:List Nat}(hl:is.length=bs.length):∀(rs:List RK) (ids:List Nat) (n m:Nat) (y:kS rs),pe bs rs=true→(∀i∈bq rs m,p i)→(∀i∈bV bs is n,p i)→aA p (aO rs ids n m y)
 | [],_,_,_,_,_,_,_=>by simp only [aO,aA]
 | .val k::r,ids,n,m,y,hr,h1,h2=>by
  simp only [pe,List.all_cons,Bool.and_eq_true,Br] at hr
  simp only [aO,aA]
  exact ⟨mT p k y.1,jS hl r ids n (m+1) y.2 hr.2 (fun i hi=>h1 i hi) h2⟩
 | .own _::r,ids,n,m,y,hr,h1,h2=>by
  simp only [pe,List.all_cons,Bool.and_eq_true,Br] at hr
  simp only [aO,aA,aG]
  exact ⟨h1 m (by simp [bq]),jS hl r ids n (m+1) y.2 hr.2 (fun i hi=>h1 i (by simp only [bq];exact List.mem_cons_of_mem _ hi)) h2⟩
 | .dW b alts::r,ids,n,m,y,hr,h1,h2=>by
  simp only [pe,List.all_cons,Bool.and_eq_true,Br] at hr
  simp only [aO,aA]
  refine ⟨?_,jS hl r ids n (m+1) y.2 hr.2 (fun i hi=>h1 i hi) h2⟩
  cases hy:y.1 with
  | none=>simp only [te,aG]
  | some p =>
   obtain ⟨al,i⟩:=p
   simp only [te,aG]
   cases hb:bs[b]? with
   | none=>rw [hb] at hr;exact absurd hr.1 (by simp)
   | some bk =>
    rw [hb] at hr
    simp only [Bool.and_eq_true] at hr
    exact h2 _ (wF bs is n b _ bk hl hb (sJ bk.c7 (n+16 * b) _ (List.all_eq_true.1 hr.1.1 _ (List.get_mem alts al))))
 | .agg c::r,ids,n,m,y,hr,h1,h2=>by
  simp only [pe,List.all_cons,Bool.and_eq_true,Br] at hr
  simp only [aO,aA,aG]
  refine ⟨jJ c m y.1 fun e he=>h1 _ ?_,jS hl r ids n (m+1) y.2 hr.2 (fun i hi=>h1 i (by simp only [bq];exact List.mem_append_right _ hi)) h2⟩
  simp only [bq]
  have e1:(aQ c m y.1).map (·.1)=b7 c m:=gy c m y.1
  exact List.mem_append_left _ (e1▸List.mem_map.2 ⟨e,he,rfl⟩)
theorem HY{p:Nat→Prop}{vs:List AV}(h:aA p vs):aG p (ep vs):=by
 match vs,h with
 | [],h=>simp only [ep,aG];exact h
 | [v],h=>simp only [ep];simp only [aA] at h;exact h.1
 | _::_::_,h=>simp only [ep,aG];exact h
def gY(P:Program)(f:FuncId)(u:Heap→Nat→List AV→Option (Bool×bE)):Prop :=
 ∀{Z:Nat→Prop} {ψ:Nat→Value} {h:Hp} {w:World} {B0:Nat} {O N:Nat→Prop} {hh:Heap} {id:Nat} {e:bE} {vs:List AV} {us:List Value},
  Good Z ψ h w B0 O→B0≤w.heap.size→(∀id o,hh.get id=some o→h id=some o)→(∀j,j<256→N (id+j))→(∀i ty cs,h i=some (.box ty cs)→aA (fun i=>¬N i) cs)→(∀v hw,e=.wr v hw→hh.get=h) →
  an Z ψ h w vs us→aA (fun i=>¬N i) vs→u hh id vs=some (true,e) →
  Calls P f us.toArray w fun en w'=>∃V Z' ψ',en=.returned V∧Next Z ψ h w B0 O N Z' ψ' (e.hp h) w'∧av Z' ψ' (e.hp h) w' e.v V
theorem QQ{R:Type}{n:Nat}(a:Fin n)(f:Fin n→Option R):V7 n a f=f a:=by
 have key:∀l:List (Fin n),a∈l→l.foldr (fun j r=>cond (a.val==j.val) (f j) r) none=f a:=by
  intro l
  induction l with
  | nil=>intro h;cases h
  | cons j r ih =>
   intro h
   simp only [List.foldr_cons]
   by_cases e:a=j
   ·subst e;simp
   ·have:(a.val==j.val)=false:=by simp only [beq_eq_false_iff_ne,ne_eq];exact fun h=>e (Fin.ext h)
    rw [this,cond_false]
    rcases List.mem_cons.1 h with h | h
    ·exact absurd h e
    ·exact ih h
 exact key _ (List.mem_finRange a)
theorem ig{R:Type}:∀(rs:List RK) (x:kS rs) (K:kS rs→Option R),jh rs x K=K x
 | [],_,_=>rfl
 | .val _::r,x,K=>by simp only [jh];rw [ig r x.2];rfl
 | .own _::r,x,K=>by simp only [jh];rw [ig r x.2];rfl
 | .agg _::r,x,K=>by simp only [jh];rw [ig r x.2];rfl
 | .dW _ alts::r,x,K=>by
  simp only [jh]
  obtain ⟨x1,x2⟩:=x
  cases x1 with
  | none=>simp only [pf];rw [ig r x2]
  | some p=>simp only [pf];rw [QQ,ig r x2]
theorem HZ(hX:∀f g u,Sg f=some g→g.x=some u→gY P (f % 1000) u)(hF:∀f g x y,Sg f=some g→F f g x=some y→Ch P f g x y)(KQ:∀f g,Sg f=some g→iJ P (f % 1000))
  {hh:Heap} {ρC:Operand→Value} {o:Oper} (g:Good Z ψ h w B0 O) (hB:B0≤w.heap.size) (br:∀id o,hh.get id=some o→h id=some o) {id:Nat} (hN:∀j,j<256→N (id+j)) {e:bE}
  (bg:∀i ty cs,h i=some (.box ty cs)→aA (fun i=>¬N i) cs) (lP:∀v hw,e=.wr v hw→hh.get=h) {f:FuncId} {cap vs:List AV} {fv:Value} {us:List Value}
  (QR:av Z ψ h w (.fn f cap) fv) (so:an Z ψ h w vs us) (Dt:aA (fun i=>¬N i) (vs++cap)) (hex:∀(ws:Array Value),fv=.func (.func f) #[] ws→execOp ρC o=callFunc f (us.toArray++ws))
  (he:iF Sg F hh id f (vs++cap) some=some e):Su P ρC o Z ψ h w B0 O N e:=by
 unfold iF at he
 split at he
 ·cases he
 rename_i gg hSg
 simp only [av] at QR
 obtain ⟨ws,rfl,TT⟩:=QR
 have Ci:=KQ _ _ hSg
 have km:an Z ψ h w (vs++cap) (us++ws.toList):=an.append so TT
 have DA:an Z ψ hh.get w (vs++cap) (us++ws.toList):=km.oT br
 have gs:Good Z ψ hh.get w B0 O:=g.sub br
 have M0:us.toArray++ws=(us++ws.toList).toArray:=by simp
 split at he
 ·rename_i u hu
  split at he
  ·rename_i hf
   obtain ⟨⟨b,e'⟩,WA,Qb⟩:=Option.bind_eq_some_iff.1 he
   cases b with
   | false=>cases Qb
   | true =>
   cases Qb
   have E5:keyOf Sg f (vs++cap) % 1000=f:=by rw [u5];exact Nat.mod_eq_of_lt hf
   have hx:gY P f u:=by rw [←E5];exact hX _ _ _ hSg hu
   rw [E5] at Ci
   refine ⟨f,us.toArray++ws,by rw [hex ws rfl];exact iK Ci _,?_⟩
   rw [M0]
   exact hx g hB br hN bg lP km Dt WA
  ·cases he
 split at he
 ·rename_i i0 rh DB
  split at he
  ·rename_i KR
   simp only [Bool.and_eq_true,List.isEmpty_iff] at KR
   obtain ⟨rfl,_⟩:=KR
   split at he
   rotate_left
   ·cases he
   rename_i x b hx hb pK
   obtain ⟨y,hy,he⟩:=Option.bind_eq_some_iff.1 he
   simp only [Mu,Bool.and_eq_true,decide_eq_true_eq] at DB
   obtain ⟨_,_,⟨hlen,hf⟩,_⟩:=DB
   have Bz:=(hF _ _ _ _ hSg hy).zero (E3 hb)
   have E5:keyOf Sg f (vs++cap) % 1000=f:=by rw [u5];exact Nat.mod_eq_of_lt hf
   rw [E5] at Ci
   have hN':∀j,j<gg.rs.length+16→N (id+128+j):=fun j hj=>by rw [Nat.add_assoc];exact hN _ (by omega)
   refine ⟨f,us.toArray++ws,by rw [hex ws rfl];exact iK Ci _,?_⟩
   rw [M0]
   unfold Wp at Bz
   rw [E5] at Bz
   by_cases pJ:o9 (vs++cap)=true
   ·rw [pJ,Bool.or_true] at he
    cases he
    have h1:an Z Hr fG w (Cd gg x) (us++ws.toList):=yU gs (fun _ h=>h) gg.ps 0 _ _ x (fun v hv i b hi _ _=>(pM pJ v hv i hi).elim) rh hx DA
    refine (Bz Z w _ g.jk h1).mono fun en w' ⟨v,Z',ψ',e1,h2,h3,h4,h5,h6⟩ => ?_
    obtain ⟨sI,n,hr⟩:=u6 (nb:=id) pK g hB bg hN' h4 h2 h3 h5 h6
    exact ⟨v,Z',sI,e1,n,hr⟩
   ·cases hfl:gg.rs.all RK.flat with
    | true =>
     rw [hfl,Bool.true_or] at he
     cases he
     let Zc:Nat→Prop:=fun b=>b<w.heap.size
     have h1:an Zc Hr fG w (Cd gg x) (us++ws.toList):=yU gs g.jk gg.ps 0 _ _ x (fun v hv i b hi h1 h2=>gs.bL ⟨i,h1,h2⟩) rh hx DA
     refine (Bz Zc w _ (fun _ h=>h) h1).mono fun en w' ⟨v,Z',ψ',e1,h2,h3,h4,h5,h6⟩ => ?_
     have WB:=KI gg.rs 3000 y.1 hfl pK
     have h7:av Z ψ' (aj gg.rs 3000 y.1).get w' (ep (aO gg.rs [] 2000 3000 y.1)) v:=sF rfl (fun vs so=>MT gg.rs hfl pK so) h6
     have gz:Good Z ψ' (aj gg.rs 3000 y.1).get w' w.heap.size (fun _=>False):=by
      rw [WB]
      exact ⟨fun _ _ _ hb=>by simp [Heap.get] at hb,fun _ _ _ hb=>by simp [Heap.get] at hb,fun _ _ hb=>by simp [Heap.get] at hb,fun _ _ _ hb=>by simp [Heap.get] at hb,fun b hb=>Nat.lt_of_lt_of_le (g.jk b hb) h4.size⟩
     obtain ⟨sI,n,hr⟩:=u6 (nb:=id) pK g hB bg hN' h4 (fun _ h=>h) (fun _ h=>.inl h) gz h7
     exact ⟨v,Z,sI,e1,n,hr⟩
    | false =>
     rw [hfl,Bool.false_or,Bool.eq_false_iff.2 pJ] at he
     cases he
     have heq:=lP _ _ rfl
     subst heq
     let cs:=c5 gg.ps (vs++cap)
     have QD:∀b,o4 Z ψ hh.get cs b→Z b∨Own ψ hh.get b:=fun b hb=>hb.imp (fun h=>h) (fun ⟨i,_,h2,h3⟩=>⟨i,h2,h3⟩)
     have gd:Good (o4 Z ψ hh.get cs) ψ (cw hh cs).get w B0 O:=gW g cs
     have h1:an (o4 Z ψ hh.get cs) Hr fG w (Cd gg x) (us++ws.toList) :=
      yU gs (fun _ h=>.inl h) gg.ps 0 _ _ x (fun v hv i b hi h1 h2=>.inr ⟨i,tG _ _ rh v hv i hi,h1,h2⟩) rh hx DA
     refine (Bz _ w _ gd.jk h1).mono fun en w' ⟨v,Z',ψ',e1,h2,h3,h4,h5,h6⟩ => ?_
     obtain ⟨sI,n,hr⟩:=u6 (nb:=id) pK gd hB (fun i ty cs hb=>bg i ty cs (dK _ _ _ _ hb)) hN' h4 h2 h3 h5 h6
     have e2:(bE.wr (ep (aO gg.rs [] id (id+128) y.1)) (aj gg.rs (id+128) y.1++cw hh (c5 gg.ps (vs++cap)))).hp hh.get=(fun i=>match (aj gg.rs (id+128) y.1).get i with | some o=>some o | none=>(cw hh cs).get i):=by
      funext i
      simp only [bE.hp]
      rw [Heap.get_append]
      cases (aj gg.rs (id+128) y.1).get i<;>rfl
     rw [e2]
     exact ⟨v,Z',sI,e1,n.drop (fun _ h=>.inl h) QD (dK _ _),hr⟩
  ·split at he
   rotate_left
   ·cases he
   rename_i x b hx hb BA
   obtain ⟨y,hy,he⟩:=Option.bind_eq_some_iff.1 he
   rw [ig] at he
   cases he
   have heq:=lP _ _ rfl
   subst heq
   simp only [Mu,Bool.and_eq_true,decide_eq_true_eq] at DB
   obtain ⟨TR,⟨hbl,ta⟩,⟨hlen,hf⟩,tI⟩:=DB
   rw [Bool.and_eq_true] at BA
   have Bz:=hF _ _ _ _ hSg hy
   have E5:keyOf Sg f (vs++cap) % 1000=f:=by rw [u5];exact Nat.mod_eq_of_lt hf
   rw [E5] at Ci
   refine ⟨f,us.toArray++ws,by rw [hex ws rfl];exact iK Ci _,?_⟩
   rw [M0]
   unfold Ch at Bz
   rw [E5] at Bz
   have hl:i0.length=gg.bs.length:=(iI _ _ _ hb).1
   have zd:=(iI _ _ _ hb).2
   have hle:(aL gg.bs.length).length=gg.bs.length:=by simp [aL]
   let kb:=c5 gg.ps (vs++cap)++fB gg.bs hh i0
   let L1:List wu:=ck gg.bs hh i0 (aL gg.bs.length) 2000 b
   have eH1:dk L1=bp gg.bs (aL gg.bs.length) 2000 b:=iH _ _ _ _ _ _ hb hle
   have eN1:L1.map (·.1)=bV gg.bs (aL gg.bs.length) 2000:=gr _ _ _ _ _ _ hb hle
   have eS1:L1.filterMap (·.2.1)=cP gg.bs hh i0:=jO _ _ _ _ _ _ hb hle
   have WC:bZ (L1.map (·.1))=true:=by rw [eN1];exact E4 tI
   have TN:=xw (ψ:=ψ) WC
   have Hs:=(qI BA.1).2 hh
   have wj:∀b,Z b→o4 Z ψ hh.get kb b:=fun b hb=>.inl hb
   have WD:∀e∈L1,tE (o4 Z ψ hh.get kb) ψ (cw hh kb).get w (dk L1).get (dX ψ L1) e:=fun e he =>
    k0 gs wj gg.bs _ _ 2000 b hb (fun i b bO h1 h2=>.inr ⟨i,List.mem_append_right _ bO,h1,h2⟩) Hs TN e he
   have gin:Good (o4 Z ψ hh.get kb) (dX ψ L1) (dk L1).get w B0 O:=u4 gs BA.1 WC eS1 WD
   have ein:(dk L1).get=n6 gg (x,b):=by rw [eH1];rfl
   have M1:∀p∈i0.zip (aL gg.bs.length),(p.2,some p.1)∈L1.map (fun e=>(e.1,e.2.1)):=fun p hp=>by
    obtain ⟨o,ho⟩:=jP (hh:=hh) gg.bs i0 (aL gg.bs.length) 2000 b hl p hp
    exact List.mem_map.2 ⟨_,ho,rfl⟩
   have WE:∀p∈i0.zip (aL gg.bs.length),dX ψ L1 p.2=ψ p.1:=fun p hp=>by
    obtain ⟨⟨i,s,o⟩,ho,he⟩:=List.mem_map.1 (M1 p hp)
    cases he
    exact ib WC ho
   have TU:an (o4 Z ψ hh.get kb) (dX ψ L1) (dk L1).get w (Dx gg (x,b)) (us++ws.toList) :=
    kH gs wj gg.ps i0 (aL gg.bs.length) 0 _ _ x (by rw [hle,hl]) rh hx (fun i b bO h1 h2=>.inr ⟨i,List.mem_append_left _ bO,h1,h2⟩)
     (fun p hp=>⟨zd _ (List.of_mem_zip hp).1,fun _=>WE p hp⟩) DA
   have sr:∀c,Own (dX ψ L1) (n6 gg (x,b)) c→∃s,s∈cP gg.bs hh i0∧hh.get s≠none∧ob (ψ s)=some c:=fun c ⟨i,h1,h2⟩=>by
    rw [←ein] at h1
    obtain ⟨o,ho⟩:=Option.ne_none_iff_exists'.1 h1
    obtain ⟨s,hm⟩:=mS ho
    rw [ib WC hm] at h2
    cases s with
    | none=>simp [jq,ob] at h2
    | some s =>
     have hs:s∈cP gg.bs hh i0:=by rw [←eS1];exact List.mem_filterMap.2 ⟨_,hm,rfl⟩
     refine ⟨s,hs,?_,h2⟩
     have h3:=WD _ hm
     rw [←Hs s hs]
     cases o with
     | box ty cs=>obtain ⟨⟨cs0,h4⟩,_⟩:=h3;rw [h4];simp
     | own ok xs=>rw [show (cw hh kb).get s=some (.own ok xs) from h3];simp
   refine (Bz (o4 Z ψ hh.get kb) (dX ψ L1) w (us++ws.toList) (by rw [←ein];exact gin.Dz _) (by rw [←ein];exact TU)).mono fun en w' ⟨v,Z',dI,e1,h2,h3,h4,h5,h6,h7⟩ => ?_
   obtain ⟨L2,WG,eN2,g3,Wg,TV⟩:=KO (x:=(x,b)) (y:=y) (id:=id) hl TR tI BA.2 h5 h7
   have TS:∀i ty cs,(dk L2).get i=some (.box ty cs)→aA (fun j=>(dk L2).get j≠none) cs:=fun i ty cs hg=>by
    have iM:=get_mem hg
    rw [WG] at iM
    rcases List.mem_append.1 iM with iM | iM
    ·exact rH gg.bs _ id y.2 (fun e he=>by rw [WG];exact xC (o:=e.2) (List.mem_append_left _ he)) i ty cs iM
    ·exfalso
     have:∀(rs:List RK) (m:Nat) (y:kS rs),(i,Ob.box ty cs)∉aj rs m y:=by
      intro rs
      induction rs with
      | nil=>intro m y;simp [aj]
      | cons r rs ih =>
       intro m y
       cases r with
       | agg c=>simp only [aj,List.mem_append,not_or];exact ⟨lW _ _ _ _ _ _,ih (m+1) y.2⟩
       | val k=>exact ih (m+1) y.2
       | dW _ _=>exact ih (m+1) y.2
       | own ok=>simp only [aj,List.mem_cons,not_or];exact ⟨by simp,ih (m+1) y.2⟩
     exact this _ _ _ iM
   have WH:∀i,(dk L2).get i≠none→(i∈cP gg.bs hh i0∧hh.get i≠none∧dX dI L2 i=ψ i)∨N i:=fun i hi=>by
    obtain ⟨o,ho⟩:=Option.ne_none_iff_exists'.1 hi
    obtain ⟨s,hm⟩:=mS ho
    have iM:i∈bV gg.bs i0 id++bq gg.rs (id+128):=by rw [←eN2];exact List.mem_map.2 ⟨_,hm,rfl⟩
    have hNr:∀i,id≤i→i<id+256→N i:=fun i h1 h2=>by
     have:=hN (i - id) (by omega)
     rwa [show id+(i - id)=i by omega] at this
    rcases List.mem_append.1 iM with iM | iM
    ·rcases tJ _ _ _ _ ta iM with h8 | h8
     ·refine .inl ⟨wE _ _ _ hl h8,zd i h8,?_⟩
      obtain ⟨ee,h9,mq⟩:=MZ (by rw [hle,hl]) i h8
      rw [Wg (ee,i) mq]
      have w7:ee∈aL gg.bs.length:=(List.of_mem_zip mq).1
      rw [h6 ee w7]
      exact WE (i,ee) h9
     ·exact .inr (hNr i h8.1 (by omega))
    ·have h8:=iL _ _ _ TR iM
     exact .inr (hNr i (by omega) (by omega))
   obtain ⟨zc,h8,nx⟩:=KP (N:=N) gs hB Hs bg sr h2 h3 h4 g3 TS WH
   have eH3:(bE.wr (ep (aO gg.rs i0 id (id+128) y.1)) (bp gg.bs i0 id y.2++(aj gg.rs (id+128) y.1++gk (cw hh (c5 gg.ps (vs++cap)++fB gg.bs hh i0)) (cP gg.bs hh i0)))).hp hh.get =
     (dk L2++gk (cw hh kb) (cP gg.bs hh i0)).get:=by
    rw [WG,List.append_assoc];rfl
   rw [eH3]
   refine ⟨v,Z',zc,e1,nx,?_⟩
   refine TV.move (p:=fun j=>(dk L2).get j≠none) (fun _ h=>h) (cg.refl _ _) (fun j hp _=>⟨hp,h8 j hp⟩) ?_
   refine HY (jS hl gg.rs _ id (id+128) y.1 TR (fun i hi => ?_) fun i hi => ?_)
   ·rw [←eZ gg.rs (id+128) y.1] at hi
    obtain ⟨e,he,rfl⟩:=List.mem_map.1 hi
    rw [WG];exact xC (o:=e.2) (List.mem_append_right _ he)
   ·rw [←lh gg.bs i0 id y.2 hl] at hi
    obtain ⟨e,he,rfl⟩:=List.mem_map.1 hi
    rw [WG];exact xC (o:=e.2) (List.mem_append_left _ he)
 ·cases he
end Go.Vs
namespace Go.Vs
variable {P:Program} {Eqs:TypeId→Option K} {Sg:FuncId→Option aJ} {F:(f:FuncId)→(g:aJ)→g.A→Option g.B} {R:Type} {k:bE→Option R}
theorem bM{c:Bool}{e:bE}:cond c (k e) none=(cond c (some e) none).bind k:=by cases c<;>rfl
theorem bH{c:Bool}{e:bE}:cond c none (k e)=(cond c none (some e)).bind k:=by cases c<;>rfl
theorem bI{c:Bool}{e e':bE}:cond c (k e) (k e')=(cond c (some e) (some e')).bind k:=by cases c<;>rfl
theorem bN{α:Type}(o:Option α)(f:α→Option R)(g:α→Option bE)(h:∀x,f x=(g x).bind k):o.bind f=(o.bind g).bind k:=by cases o with
 | none=>rfl
 | some x=>exact h x
theorem H3{h:Heap}{id:Nat}{t:TypeId}{s x:AV}:mL P h id t s x k=(mL P h id t s x some).bind k:=by unfold mL;repeat' (first | rfl | exact bM | exact bH | exact bI | (refine bN _ _ _ (fun _ => ?_)) | split)
theorem KS{h:Heap}{t:TypeId}{s x:AV}:qp P h t s x k=(qp P h t s x some).bind k:=by unfold qp;repeat' (first | rfl | exact bM | exact bH | exact bI | (refine bN _ _ _ (fun _ => ?_)) | split)
theorem M3{h:Heap}{t:TypeId}{s:AV}:kU P h t s k=(kU P h t s some).bind k:=by unfold kU;repeat' (first | rfl | exact bM | exact bH | exact bI | (refine bN _ _ _ (fun _ => ?_)) | split)
theorem BB{h:Heap}{t:TypeId}{s x:AV}:de P h t s x k=(de P h t s x some).bind k:=by unfold de;repeat' (first | rfl | exact bM | exact bH | exact bI | (refine bN _ _ _ (fun _ => ?_)) | split)
theorem M4{x:AV}{lo hi mx:Option AV}:yi x lo hi mx k=(yi x lo hi mx some).bind k:=by unfold yi;repeat' (first | rfl | exact bM | exact bH | exact bI | (refine bN _ _ _ (fun _ => ?_)) | split)
theorem KT{h:Heap}{sz:Nat}{x:AV}{lo hi mx:Option AV}:qq h sz x lo hi mx k=(qq h sz x lo hi mx some).bind k:=by unfold qq;repeat' (first | rfl | exact bM | exact bH | exact bI | (refine bN _ _ _ (fun _ => ?_)) | split)
theorem QS{h:Heap}{x:AV}:BZ h x k=(BZ h x some).bind k:=by unfold BZ;repeat' (first | rfl | exact bM | exact bH | exact bI | (refine bN _ _ _ (fun _ => ?_)) | split)
theorem QT{op:BinOp}{t:TypeId}{x y:AV}:v7 P Eqs op t x y k=(v7 P Eqs op t x y some).bind k:=by unfold v7;repeat' (first | rfl | exact bM | exact bH | exact bI | (refine bN _ _ _ (fun _ => ?_)) | split)
theorem E6(rs:List RK)(x:kS rs)(f:kS rs→Option R)(g:kS rs→Option bE)(h:∀z,f z=(g z).bind k):jh rs x f=(jh rs x g).bind k:=by rw [ig,ig];exact h x
theorem M5{h:Heap}{id:Nat}{f:FuncId}{vs:List AV}:iF Sg F h id f vs k=(iF Sg F h id f vs some).bind k:=by unfold iF;repeat' (first | rfl | exact bM | exact bH | exact bI | (refine bN _ _ _ (fun _ => ?_)) | (refine E6 _ _ _ _ (fun _ => ?_)) | split)
theorem M6{id:Nat}{t:TypeId}{vs:List AV}:uQ id t vs k=(uQ id t vs some).bind k:=rfl
theorem KU{t:TypeId}{ps:List (Nat×AV)}:qv P t ps k=(qv P t ps some).bind k:=by unfold qv;repeat' (first | rfl | exact bM | exact bH | exact bI | (refine bN _ _ _ (fun _ => ?_)) | split)
theorem DC{h:Heap}{id:Nat}{t:TypeId}{n:Nat}{ps:List (Nat×AV)}:tf P h id t n ps k=(tf P h id t n ps some).bind k:=by unfold tf;repeat' (first | rfl | exact bM | exact bH | exact bI | (refine bN _ _ _ (fun _ => ?_)) | split)
theorem M7{kb:Bool}{h:Heap}{id:Nat}{t:TypeId}{n:Nat}{ps:List (Nat×AV)}:uR P kb h id t n ps k=(uR P kb h id t n ps some).bind k:=by
 unfold uR
 rw [DC,DC (k:=fun e=>some (if kb then Qx e else e)),Option.bind_assoc]
 rfl
theorem M8{s d:TypeId}{x:AV}:yp P s d x k=(yp P s d x some).bind k:=by unfold yp;repeat' (first | rfl | exact bM | exact bH | exact bI | (refine bN _ _ _ (fun _ => ?_)) | split)
theorem TW{b:Bool}{vs:List AV}:Kq b vs k=(Kq b vs some).bind k:=by unfold Kq;repeat' (first | rfl | exact bM | exact bH | exact bI | (refine bN _ _ _ (fun _ => ?_)) | split)
theorem M9{h:Heap}{x:AV}:uN h x k=(uN h x some).bind k:=by unfold uN;repeat' (first | rfl | exact bM | exact bH | exact bI | (refine bN _ _ _ (fun _ => ?_)) | split)
theorem E7{id:Nat}{t:TypeId}:kG P Eqs id t k=(kG P Eqs id t some).bind k:=by unfold kG;repeat' (first | rfl | exact bM | exact bH | exact bI | (refine bN _ _ _ (fun _ => ?_)) | split)
theorem H4{h:Heap}{t:TypeId}{m i:AV}{ok:Bool}:mM P Eqs h t m i ok k=(mM P Eqs h t m i ok some).bind k:=by unfold mM;repeat' (first | rfl | exact bM | exact bH | exact bI | (refine bN _ _ _ (fun _ => ?_)) | split)
theorem H5{h:Heap}{t:TypeId}{m i v:AV}:hZ P Eqs h t m i v k=(hZ P Eqs h t m i v some).bind k:=by unfold hZ;repeat' (first | rfl | exact bM | exact bH | exact bI | (refine bN _ _ _ (fun _ => ?_)) | split)
theorem H6{h:Heap}{t:TypeId}{m i:AV}:mN P Eqs h t m i k=(mN P Eqs h t m i some).bind k:=by unfold mN;repeat' (first | rfl | exact bM | exact bH | exact bI | (refine bN _ _ _ (fun _ => ?_)) | split)
theorem H7{id:Nat}{t:TypeId}{x:AV}:mO P id t x k=(mO P id t x some).bind k:=by unfold mO;repeat' (first | rfl | exact bM | exact bH | exact bI | (refine bN _ _ _ (fun _ => ?_)) | split)
theorem KV{h:Heap}{x:AV}:qt h x k=(qt h x some).bind k:=by unfold qt;repeat' (first | rfl | exact bM | exact bH | exact bI | (refine bN _ _ _ (fun _ => ?_)) | split)
theorem KW{h:Heap}{x:AV}:qu h x k=(qu h x some).bind k:=by unfold qu;repeat' (first | rfl | exact bM | exact bH | exact bI | (refine bN _ _ _ (fun _ => ?_)) | split)
theorem kI{id:Nat}{h:Heap}{s:List (Nat×AV)}{o:Oper}:cH P Eqs Sg F id h s o k=(cH P Eqs Sg F id h s o some).bind k:=by
 obtain ⟨dst,op,type,pos,after,guard⟩:=o
 cases op<;>simp only [cH] <;>
  repeat' (first | rfl | exact M7 | exact H3 | exact KS | exact M3 | exact BB | exact M4 | exact KT | exact QS | exact QT | exact M5 | exact M6 | exact KU | exact DC | exact M8 | exact TW | exact M9 | exact E7 | exact H4 | exact H5 | exact H6 | exact H7 | exact KV | exact KW | exact bM | (refine bN _ _ _ (fun _ => ?_)) | split)
theorem KX{id:Nat}{h h':Heap}{s:List (Nat×AV)}{o:Oper}(hf:mj o.op=true):cH P Eqs Sg F id h s o k=cH P Eqs Sg F id h' s o k:=by
 obtain ⟨dst,op,type,pos,after,guard⟩:=o
 cases op<;>simp [mj] at hf<;>first | rfl | (rename_i u _ _;cases u<;>rfl)
theorem QU{op:BinOp}{t:TypeId}{x y:AV}{e:bE}(he:v7 P Eqs op t x y some=some e):∃v,e=.val v:=by
 unfold v7 at he
 repeat' (first | (cases he;done) | exact ⟨_,(Option.some.inj he).symm⟩ | split at he)
 all_goals
  unfold cond at he
  split at he<;>first | (cases he;done) | exact ⟨_,(Option.some.inj he).symm⟩
theorem E8{id:Nat}{h:Heap}{s:List (Nat×AV)}{o:Oper}{e:bE}(hf:mj o.op=true)(he:cH P Eqs Sg F id h s o some=some e):∃v,e=.val v:=by
 obtain ⟨dst,op,type,pos,after,guard⟩:=o
 cases op<;>simp only [mj] at hf<;>first | (cases hf;done) | skip
 case unOp u t x =>
  cases u<;>simp only [cH] at he<;>repeat' (first | (cases he;done) | exact ⟨_,(Option.some.inj he).symm⟩ | split at he)
 case makeFunc fn first cap =>
  cases fn<;>simp only [cH] at he<;>repeat' (first | (cases he;done) | exact ⟨_,(Option.some.inj he).symm⟩ | split at he)
 all_goals simp only [cH] at he
 case binOp=>exact QU he
 case build =>
  unfold qv at he
  repeat' (first | (cases he;done) | exact ⟨_,(Option.some.inj he).symm⟩ | split at he)
 all_goals
  repeat' (first | (cases he;done) | exact ⟨_,(Option.some.inj he).symm⟩ | split at he)
end Go.Vs
namespace Go.Vs
variable {P:Program} {Eqs:TypeId→Option K} {Sg:FuncId→Option aJ} {F:(f:FuncId)→(g:aJ)→g.A→Option g.B} {R:Type}
variable {Z Z' Z0:Nat→Prop} {ψ ψ' ψ0:Nat→Value} {h h':Hp} {w w' w0:World} {B0:Nat} {O N:Nat→Prop}
structure Env(P:Program)(Eqs:TypeId→Option K)(Sg:FuncId→Option aJ)(F:(f:FuncId)→(g:aJ)→g.A→Option g.B):Prop where
 eqs:∀t k,Eqs t=some k→kX P t k
 con:∀f g x y,Sg f=some g→F f g x=some y→Ch P f g x y
 spec:∀f g u,Sg f=some g→g.x=some u→gY P (f % 1000) u
 E9:∀f g,Sg f=some g→iJ P (f % 1000)
theorem Fa{s:List (Nat×AV)}{ρC:Operand→Value}:∀(l:List Operand),(∀x∈l,av Z ψ h w (ρ s x) (ρC x))→an Z ψ h w (l.map (ρ s)) (l.map ρC)
 | [],_=>by simp [an]
 | x::r,hx=>by
  simp only [List.map_cons,an]
  exact ⟨_,_,rfl,hx x List.mem_cons_self,Fa r fun y hy=>hx y (List.mem_cons_of_mem _ hy)⟩
theorem Cj{s:List (Nat×AV)}{p:Nat→Prop}:∀(l:List Operand),(∀x∈l,aG p (ρ s x))→aA p (l.map (ρ s))
 | [],_=>by simp [aA]
 | x::r,hx=>by
  simp only [List.map_cons,aA]
  exact ⟨hx x List.mem_cons_self,Cj r fun y hy=>hx y (List.mem_cons_of_mem _ hy)⟩
theorem Sx(E:Env P Eqs Sg F){hh:Heap}{a:Act}{s:List (Nat×AV)}{o:Oper}(g:Good Z ψ h w B0 O)(hB:B0≤w.heap.size)(br:∀id o,hh.get id=some o→h id=some o){id:Nat}(hN:makes o.op=true→∀j,j<256→N (id+j)){e:bE}
  (mI:∀x∈o.op.operands,av Z ψ h w (ρ s x) (a.eval x)) (hm:∀x∈o.op.operands,aG (fun i=>¬N i) (ρ s x)) (bg:∀i ty cs,h i=some (.box ty cs)→aA (fun i=>¬N i) cs) (lP:∀v hw,e=.wr v hw→hh.get=h)
  (he:cH P Eqs Sg F id hh s o some=some e) {next:Act→World→Prop} {Q:Exit→Act→World→Prop}
  (hk:∀V w' Z' ψ',Next Z ψ h w B0 O N Z' ψ' (e.hp h) w'→av Z' ψ' (e.hp h) w' e.v V→next (a.put o.dst V) w'):o.wp P a w next Q:=by
 have d:gq P a.eval o Z ψ h w B0 O N e∨Su P a.eval o Z ψ h w B0 O N e:=by
  cases Hq:tD o with
  | false=>exact .inl (MP E.eqs g hB br (fun hm=>by simpa using hN hm 0 (by decide)) mI hm bg lP Hq he)
  | true =>
   refine .inr ?_
   obtain ⟨dst,op,type,pos,after,guard⟩:=o
   cases op<;>simp [tD] at Hq
   rename_i c
   obtain ⟨callee,args,argTypes⟩:=c
   cases callee<;>simp at Hq
   rename_i fo
   simp only [cH] at he
   split at he
   ·rename_i f cap hf
    simp only [Op.operands,Call.operands] at mI
    have h1:=mI fo (by simp)
    rw [hf] at h1
    have h2:an Z ψ h w (args.toList.map (ρ s)) (args.toList.map a.eval):=Fa _ fun x hx=>mI x (by simp;exact .inr (by simpa using hx))
    have hmf:=hm fo (by simp [Op.operands,Call.operands])
    rw [hf] at hmf
    simp only [aG] at hmf
    have hma:aA (fun i=>¬N i) (args.toList.map (ρ s)):=Cj _ fun x hx=>hm x (by simp [Op.operands,Call.operands];exact .inr (by simpa using hx))
    refine HZ E.spec E.con E.E9 g hB br (hN rfl) bg lP h1 h2 (oa hma hmf) (fun ws TT => ?_) he
    simp only [execOp,resolve,TT,Deferred.ofValue]
    simp only [pure_bind,invoke]
    congr 1
    apply Array.ext'
    simp
   ·cases he
 unfold Oper.wp
 rcases d with ⟨V,w',Z',ψ',h1,h2,h3⟩ | ⟨f,args,h1,h2⟩
 ·rcases h1 with h1 | ⟨h1,rfl⟩
  ·rw [h1];exact hk V w' Z' ψ' h2 h3
  ·rw [h1];exact hk undef w' Z' ψ' h2 h3
 ·rw [h1,Oper.upon_enter]
  refine h2.mono fun en w' ⟨V,Z',ψ',e1,n,hr⟩ => ?_
  subst e1
  exact hk V w' Z' ψ' n hr
structure Ok(Z0:Nat→Prop)(w0:World)(O:Nat→Prop)(ψ0:Nat→Value)(Z:Nat→Prop)(ψ:Nat→Value)(h:Hp)(w:World):Prop where
 dL:Good Z ψ h w w0.heap.size O
 fg:∀b,Z0 b→Z b
 dQ:∀b,Z b→Z0 b∨O b∨w0.heap.size≤b
 os:w.os=w0.os
 tape:w.tape=w0.tape
 output:w.output=w0.output
 size:w0.heap.size≤w.heap.size
 block:∀b,b<w0.heap.size→¬O b→w.heap[b]? = w0.heap[b]?
 fix:∀i,i<2000→h i≠none→ψ i=ψ0 i
theorem Ok.next(k:Ok Z0 w0 O ψ0 Z ψ h w)(hN:∀id,N id→2000≤id)(n:Next Z ψ h w w0.heap.size O N Z' ψ' h' w'):Ok Z0 w0 O ψ0 Z' ψ' h' w':=by
 have own:∀b,Own ψ h b→w0.heap.size≤b∨O b:=fun b ⟨id,h1,h2⟩=>(k.dL.live id b h1 h2).2
 refine ⟨n.dL,fun b hb=>n.fg b (k.fg b hb),fun b hb => ?_,n.keep.os.trans k.os,n.keep.tape.trans k.tape,n.keep.output.trans k.output,Nat.le_trans k.size n.keep.size,fun b hb ho => ?_,fun i hi bj => ?_⟩
 ·rcases n.dQ b hb with h1 | h1 | h1
  ·exact k.dQ b h1
  ·exact .inr (own b h1).symm
  ·exact .inr (.inr (Nat.le_trans k.size h1))
 ·rw [n.keep.block b (Nat.lt_of_lt_of_le hb k.size) (fun h1=>(own b h1).elim (fun h2=>by omega) ho)]
  exact k.block b hb ho
 ·rcases n.ids i bj with ⟨h1,h2⟩ | h1
  ·rw [h2];exact k.fix i hi h1
  ·have:=hN i h1;omega
structure cJ(Z:Nat→Prop)(ψ:Nat→Value)(h:Hp)(w:World)(n:Nat)(T:Nat→AV)(a:Act):Prop where
 rep:∀d,av Z ψ h w (T d) (a.tmps.getD d undef)
 size:a.tmps.size=n
 defers:a.defers=[]
theorem KY:av Z ψ h w (.mH []) undef:=by simp only [av,an];exact ⟨#[],rfl,rfl⟩
def iA(T:Nat→AV)(d:Option Tmp)(v:AV):Nat→AV:=match d with
 | some d=>dG T d v
 | none=>T
theorem gD(st:St)(d:Option Tmp)(v:AV):look (st.put d v).tmps=iA (look st.tmps) d v:=by
 cases d with
 | none=>rfl
 | some d =>
  funext i
  simp only [St.put,look,iA,dG]
  by_cases e:i=d
  ·subst e;simp
  ·rw [if_neg (fun x=>e x.symm),if_neg e]
theorem cW(st:St)(d:Option Tmp)(v:AV):(st.put d v).heap=st.heap:=by cases d<;>rfl
theorem Ck{T:List (Nat×AV)}{d:Nat}{v:AV}(hv:look T d=v):dG (look T) d v=look T:=by
 funext i
 unfold dG
 split
 ·rename_i e;subst e;exact hv.symm
 ·rfl
theorem gE{a:Act}{d:Nat}{v:Value}(hd:d<a.tmps.size)(i:Nat):(a.put (some d) v).tmps.getD i undef=if i=d then v else a.tmps.getD i undef:=by
 simp only [Act.put]
 by_cases e:i=d
 ·subst e;simp [hd]
 ·simp [e,Array.getElem?_setIfInBounds_ne (Ne.symm e)]
theorem cj(a:Act)(d:Option Tmp)(v:Value):(a.put d v).tmps.size=a.tmps.size:=by cases d<;>simp [Act.put]
theorem put_defers(a:Act)(d:Option Tmp)(v:Value):(a.put d v).defers=a.defers:=by cases d<;>rfl
theorem cJ.put{n:Nat}{T:Nat→AV}{a:Act}{o:Oper}{x:AV}{V:Value}(t:cJ Z ψ h w n T a)(hd:gR n o=true)(hx:av Z ψ h w x V):cJ Z ψ h w n (iA T o.dst x) (a.put o.dst V):=by
 refine ⟨fun d => ?_,by rw [cj];exact t.size,by rw [put_defers];exact t.defers⟩
 unfold gR at hd
 split at hd
 ·rename_i d0 hd0
  rw [hd0]
  rw [gE (by rw [t.size];simpa using hd)]
  simp only [iA,dG]
  split
  ·exact hx
  ·exact t.rep d
 ·rename_i hd0
  rw [hd0];exact t.rep d
theorem cJ.next{n:Nat}{T:Nat→AV}{a:Act}(t:cJ Z ψ h w n T a)(g:Good Z ψ h w B0 O)(hn:Next Z ψ h w B0 O N Z' ψ' h' w')(hm:∀d,aG (fun i=>¬N i) (T d)):cJ Z' ψ' h' w' n T a :=
 ⟨fun d=>hn.rep g (hm d) (t.rep d),t.size,t.defers⟩
theorem pP{n:Nat}{s:List (Nat×AV)}{a:Act}(t:cJ Z ψ h w n (look s) a)(x:Operand):av Z ψ h w (ρ s x) (a.eval x):=by
 cases x with
 | tmp i=>exact t.rep i
 | const v=>exact EN v
 | global g=>simp only [ρ,av]
 | func f=>simp only [ρ,av,an,Act.eval];exact ⟨#[],rfl,rfl⟩
theorem ze(p:Nat→Prop)(v:Value):aG p (r8 v):=by
 cases v with
 | agg cs=>simp only [r8,aG];exact uY p _
 | _=>simp only [r8];exact yT p _
theorem KZ{p:Nat→Prop}{s:List (Nat×AV)}(hm:∀d,aG p (look s d))(x:Operand):aG p (ρ s x):=by
 cases x with
 | tmp i=>exact hm i
 | const v=>exact ze p v
 | global g=>simp only [ρ,aG]
 | func f=>simp only [ρ,aG,aA]
def lI(rid:Nat)(S:Nat→Prop)(id:Nat):Prop:=id / 32768=rid+1→S (id / 256 % 128)
def Of(rid i id:Nat):Prop:=id / 256=(rid+1) * 128+i
theorem Of.parts{rid i id:Nat}(hi:i<128)(h:Of rid i id):id / 32768=rid+1∧id / 256 % 128=i:=by
 unfold Of at h
 constructor<;>omega
theorem Of.of{rid i id:Nat}(h:id / 32768=rid+1)(hi:id / 256 % 128=i):Of rid i id:=by
 unfold Of;omega
theorem Jt{rid i j:Nat}(hj:j<256):Of rid i (opId rid i+j):=by
 unfold Of opId;omega
theorem Fb{rid i:Nat}:Of rid i (opId rid i):=by unfold Of opId;omega
theorem lI.zg{rid i id:Nat}{S:Nat→Prop}(hi:i<128)(hs:¬S i)(h:lI rid S id):¬Of rid i id:=fun ho=>by
 obtain ⟨h1,h2⟩:=ho.parts hi
 have:=h h1
 rw [h2] at this
 exact hs this
theorem mV{rid bits id:Nat}{S:Nat→Prop}(hb:∀j,bits.testBit j=true→S j)(h:po rid bits id=true):lI rid S id:=fun h1=>by
 unfold po at h
 simp only [Bool.or_eq_true,bne_iff_ne,ne_eq] at h
 exact hb _ (h.resolve_left (fun h2=>h2 h1))
mutual
theorem oc{rid bits:Nat}{S:Nat→Prop}(hb:∀j,bits.testBit j=true→S j):∀{v:AV},rr rid bits v=true→aG (lI rid S) v
 | .ref id s i off,h=>by simp only [rr] at h;simp only [aG];exact mV hb h
 | .bF id,h=>by simp only [rr] at h;simp only [aG];exact mV hb h
 | .fn f cap,h=>by simp only [rr] at h;simp only [aG];exact lk hb h
 | .agg cs,h=>by simp only [rr] at h;simp only [aG];exact lk hb h
 | .mH cs,h=>by simp only [rr] at h;simp only [aG];exact lk hb h
 | .no,_=>by simp only [aG]
 | .bool _,_=>by simp only [aG]
 | .int _ _,_=>by simp only [aG]
 | .str _,_=>by simp only [aG]
 | .kR,_=>by simp only [aG]
 | .fz,_=>by simp only [aG]
 | .fp _ _ _,_=>by simp only [aG]
 | .sl _ _ _,_=>by simp only [aG]
 | .mp _ _ _,_=>by simp only [aG]
theorem lk{rid bits:Nat}{S:Nat→Prop}(hb:∀j,bits.testBit j=true→S j):∀{v:List AV},yr rid bits v=true→aA (lI rid S) v
 | [],_=>by simp only [aA]
 | v::r,h=>by
  simp only [yr,Bool.and_eq_true] at h
  simp only [aA]
  exact ⟨oc hb h.1,lk hb h.2⟩
end
theorem ll{rid bits:Nat}{S:Nat→Prop}(hb:∀j,bits.testBit j=true→S j):∀{hh:Heap},wb rid bits hh=true→∀id o,hh.get id=some o→lI rid S id∧∀ty cs,o=.box ty cs→aA (lI rid S) cs
 | [],_,id,o,hg=>by simp [Heap.get] at hg
 | (i,ob)::r,h,id,o,hg=>by
  simp only [Heap.get] at hg
  split at hg
  ·rename_i e
   subst e
   cases hg
   cases ob with
   | box ty cs =>
    simp only [wb,Bool.and_eq_true] at h
    exact ⟨mV hb h.1.1,fun w5 cs' he=>by cases he;exact lk hb h.1.2⟩
   | own ok xs =>
    simp only [wb,Bool.and_eq_true] at h
    exact ⟨mV hb h.1,fun w5 cs' he=>by cases he⟩
  ·refine ll hb ?_ id o hg
   cases ob<;>simp only [wb,Bool.and_eq_true] at h<;>exact h.2
def bE.heap(e:bE)(h:Heap):Heap:=match e with
 | .wr _ h'=>h'
 | e=>e.h h
theorem bE.Fc(e:bE)(hh:Heap):(e.heap hh).get=e.hp hh.get:=by
 cases e with
 | val v=>rfl
 | new v os=>funext i;simp only [bE.heap,bE.h,bE.hp];rw [Heap.get_append];cases Heap.get os i<;>rfl
 | wr v h'=>rfl
def rI(p:Nat→Prop)(h:Hp):Prop:=∀i ty cs,h i=some (.box ty cs)→aA p cs
theorem zh{ops:Array Oper}{o:Oper}{n:Nat}{T:Nat→AV}{a:Act}(t:cJ Z ψ h w n T a){j d:Nat}{want:Bool}(hg:o.guard=some (j,want))(hd:(ops[j]?).bind (·.dst)=some d){b:Bool}(hb:T d=.bool b) :
  Region.wanted o (yielded ops a.tmps)=(b==want):=by
 have h1:=t.rep d
 rw [hb] at h1
 simp only [av] at h1
 have h2:a.tmps[d]? = some (.bool b):=by
  rw [Array.getD_eq_getD_getElem?] at h1
  cases e:a.tmps[d]? with
  | none=>rw [e] at h1;simp [undef] at h1
  | some v=>rw [e] at h1;simpa using h1
 unfold Region.wanted yielded
 rw [hg]
 simp only [hd,Option.bind_some,h2]
 cases b<;>cases want<;>rfl
theorem wG{ops:Array Oper}{o:Oper}{n:Nat}{T:Nat→AV}{a:Act}(t:cJ Z ψ h w n T a){j d:Nat}{want:Bool}(hg:o.guard=some (j,want))(hd:(ops[j]?).bind (·.dst)=some d){vs:List AV}(hb:T d=.mH vs) :
  Region.wanted o (yielded ops a.tmps)=false:=by
 have h1:=t.rep d
 rw [hb] at h1
 simp only [av] at h1
 obtain ⟨us,h1,_⟩:=h1
 unfold Region.wanted yielded
 rw [hg]
 simp only [hd,Option.bind_some]
 rw [Array.getD_eq_getD_getElem?] at h1
 cases e:a.tmps[d]? with
 | none=>rfl
 | some v=>rw [e] at h1;simp at h1;subst h1;rfl
def zi(ops:Array Oper):Nat→List (Nat×Oper)→Prop
 | _,[]=>True
 | i,(j,o)::r=>j=i∧ops[i]? = some o∧zi ops (i+1) r
theorem Fe(ops:Array Oper):∀(l:List Oper) (i:Nat),(∀k o,l[k]? = some o→ops[i+k]? = some o)→zi ops i ((l.zipIdx i).map fun p=>(p.2,p.1))
 | [],_,_=>by simp [zi]
 | o::r,i,h=>by
  simp only [List.zipIdx_cons,List.map_cons,zi]
  exact ⟨trivial,h 0 o rfl,Fe ops r (i+1) fun k o' hk=>by rw [Nat.add_assoc,Nat.add_comm 1 k];exact h (k+1) o' hk⟩
theorem mW(ops:Array Oper):zi ops 0 (ops.toList.zipIdx.map fun p=>(p.2,p.1)):=Fe ops _ 0 fun k o hk=>by simpa using hk
theorem Cl(ops:Array Oper):(ops.toList.zipIdx.map fun p=>(p.2,p.1)).map Prod.fst=List.range ops.size:=by
 rw [List.map_map]
 have:(Prod.fst ∘ fun (p:Oper×Nat)=>(p.2,p.1))=Prod.snd:=rfl
 rw [this,List.zipIdx_map_snd,List.range_eq_range',Array.length_toList]
structure J(p:Nat→Prop)(n:Nat)(Z0:Nat→Prop)(w0:World)(O:Nat→Prop)(ψ0:Nat→Value)(Z:Nat→Prop)(ψ:Nat→Value)(T:Nat→AV)(h:Hp)(a:Act)(w:World):Prop where
 ok:Ok Z0 w0 O ψ0 Z ψ h w
 tr:cJ Z ψ h w n T a
 tm:∀d,aG p (T d)
 hm:rI p h
theorem J.imp{p q:Nat→Prop}{n:Nat}{T:Nat→AV}{a:Act}(j:J p n Z0 w0 O ψ0 Z ψ T h a w)(yP:∀id,p id→q id):J q n Z0 w0 O ψ0 Z ψ T h a w :=
 ⟨j.ok,j.tr,fun d=>(j.tm d).imp yP,fun id ty cs hb=>(j.hm id ty cs hb).imp yP⟩
theorem J.op(E:Env P Eqs Sg F){rid n i:Nat}{p:Nat→Prop}{T:Nat→AV}{a:Act}{s:List (Nat×AV)}{o:Oper}(hS:makes o.op=true→∀id,p id→¬Of rid i id)(j:J p n Z0 w0 O ψ0 Z ψ T h a w)(hd:gR n o=true)
  (hT:∀x∈o.op.operands,av Z ψ h w (ρ s x) (a.eval x)) (hTm:∀x∈o.op.operands,aG p (ρ s x)) {hh:Heap} (br:∀id o,hh.get id=some o→h id=some o) {e:bE} (he:cH P Eqs Sg F (opId rid i) hh s o some=some e) (lP:∀v hw,e=.wr v hw→hh.get=h)
  {p':Nat→Prop} (Mj:∀k,p k→p' k) (hv:aG p' e.v) (TX:rI p' (e.hp h)) {next:Act→World→Prop} {Q:Exit→Act→World→Prop}
  (hk:∀a' w' Z' ψ',J p' n Z0 w0 O ψ0 Z' ψ' (iA T o.dst e.v) (e.hp h) a' w'→next a' w'):o.wp P a w next Q:=by
 have TY:∀id,p id→¬(makes o.op=true∧Of rid i id):=fun id h ⟨h1,h2⟩=>hS h1 id h h2
 refine Sx (N:=fun id=>makes o.op=true∧Of rid i id) E j.ok.dL j.ok.size br (id:=opId rid i) (fun hm k hk=>⟨hm,Jt hk⟩) hT (fun x hx=>(hTm x hx).imp TY) (fun id ty cs hb=>(j.hm id ty cs hb).imp TY) lP he fun V w' Z' ψ' nx hr => ?_
 refine hk _ w' Z' ψ' ⟨j.ok.next (fun id h=>by have:=h.2;unfold Of at this;omega) nx,(j.tr.next j.ok.dL nx (fun d=>(j.tm d).imp TY)).put hd hr,fun d => ?_,TX⟩
 cases kf:o.dst with
 | none=>exact (j.tm d).imp Mj
 | some d0 =>
  simp only [iA,dG]
  split
  ·exact hv
  ·exact (j.tm d).imp Mj
theorem J.skip{n:Nat}{p p':Nat→Prop}{T:Nat→AV}{a:Act}{o:Oper}(j:J p n Z0 w0 O ψ0 Z ψ T h a w)(hd:gR n o=true)(Mj:∀k,p k→p' k) :
  J p' n Z0 w0 O ψ0 Z ψ (iA T o.dst (.mH [])) h (a.put o.dst undef) w:=by
 refine ⟨j.ok,j.tr.put hd KY,fun d => ?_,fun id ty cs hb=>(j.hm id ty cs hb).imp Mj⟩
 cases kf:o.dst with
 | none=>exact (j.tm d).imp Mj
 | some d0 =>
  simp only [iA,dG]
  split
  ·simp only [aG,aA]
  ·exact (j.tm d).imp Mj
theorem QV{hh:Heap}(g:Good Z ψ hh.get w B0 O){m:Nat}{kk vk:K}{es:List (kk.T×vk.T)}(hg:hh.get m=some (.own (.map kk vk) es))(n:Next Z ψ hh.get w B0 O N Z' ψ' h' w')(hzm:∀b,ob (ψ m)=some b→Z' b)
  (hold:∀b,b<w.heap.size→w'.heap[b]? = w.heap[b]?) {v:AV} {V:Value} (hm:aG (fun id=>¬N id) v) (hr:av Z ψ hh.get w v V):av Z' ψ' h' w' (EG m (.mp kk vk es) v) V:=by
 by_cases hv:v=.bF m
 ·subst hv
  simp only [EG,if_true]
  simp only [av] at hr
  have hu:=hr.2 (by rw [hg];simp)
  obtain ⟨r,bQ,clock,h1,h2,h3,_⟩:=g.row m (.map kk vk) es hg
  rw [h1] at hu
  subst hu
  have aH:=(Array.getElem?_eq_some_iff.1 h2).1
  simp only [av,aE]
  exact ⟨some r,rfl,.inr ⟨r,bQ,clock,rfl,hzm r (by rw [h1];rfl),(hold r aH).trans h2,h3.imp (fun _ _ h=>h.mono n.fg (fun b hb=>hold b (g.jk b hb))) (fun _ _ h=>h.mono n.fg (fun b hb=>hold b (g.jk b hb)))⟩⟩
 ·have hf:EG m (.mp kk vk es) v=v:=by
   unfold EG
   split
   ·split
    ·rename_i e;subst e;exact absurd rfl hv
    ·rfl
   ·rfl
  rw [hf]
  exact n.rep g hm hr
theorem Na{p:Nat→Prop}{m:Nat}{kk vk:K}{es:List (kk.T×vk.T)}{v:AV}(hm:aG p v):aG p (EG m (.mp kk vk es) v):=by
 unfold EG
 split
 ·split
  ·simp only [aG]
  ·exact hm
 ·exact hm
theorem vd(f:AV→AV)(hf:f .no=.no):∀(l:List (Nat×AV)) (d:Nat),look (l.map fun p=>(p.1,f p.2)) d=f (look l d)
 | [],_=>by simp only [List.map_nil,look];exact hf.symm
 | (i,v)::r,d=>by
  simp only [List.map_cons,look]
  split
  ·rfl
  ·exact vd f hf r d
theorem H8{rid n i:Nat}{p p':Nat→Prop}{st dP:St}{a:Act}{o:Oper}(hS:∀id,p id→¬Of rid i id)(Mj:∀k,p k→p' k)(MV:p' (opId rid i))(j:J p n Z0 w0 O ψ0 Z ψ (look st.tmps) st.heap.get a w)(hd:gR n o=true)(mX:nK P (opId rid i) st o=some dP) :
  ∃V w' Z' ψ',(execOp a.eval o).run P w=.ok (.value V) w'∧J p' n Z0 w0 O ψ0 Z' ψ' (look dP.tmps) dP.heap.get (a.put o.dst V) w':=by
 unfold nK at mX
 split at mX
 ·rename_i t x DD
  split at mX
  ·rename_i ka va m hu hx
   split at mX
   ·rename_i kk vk es hg
    cases mX
    have VC:av Z ψ st.heap.get w (.bF m) (a.eval x):=by rw [←hx];exact pP j.tr x
    simp only [av] at VC
    have hev:=VC.2 (by rw [hg];simp)
    have g:=j.ok.dL
    obtain ⟨r,bQ,clock,h1,h2,h3,h4,h5⟩:=g.row m (.map kk vk) es hg
    rw [h1] at hev
    have aH:=(Array.getElem?_eq_some_iff.1 h2).1
    have gd:=gW g [.bF m]
    have WI:∀b,ob (ψ m)=some b→o4 Z ψ st.heap.get [.bF m] b:=fun b hb=>.inr ⟨m,by simp,by rw [hg];simp,hb⟩
    have hold:∀b,b<w.heap.size→(w.alloc (.mapIter (some r) clock #[] clock)).heap[b]? = w.heap[b]? := fun b hb=>heap_alloc_old w _ hb
    have hN:(Of rid i) (opId rid i):=Fb
    have n1:=yM (N:=Of rid i) gd j.ok.size (opId rid i) hN (ok:=.iter kk vk) (x:=(none,es)) (v:=.pointer (some ⟨w.heap.size,0,none⟩)) (.mapIter (some r) clock #[] clock)
     ⟨w.heap.size,r,clock,#[],bQ,clock,rfl,heap_alloc_new _ _,WI r (by rw [h1];rfl),(hold r aH).trans h2,h4,rfl,h5,by
      rw [List.filter_eq_self.2 (fun e _=>by simp)]
      exact h3.imp (fun _ _ h=>h.mono (fun b hb=>.inl hb) (fun b hb=>hold b (g.jk b hb))) (fun _ _ h=>h.mono (fun b hb=>.inl hb) (fun b hb=>hold b (g.jk b hb))),trivial⟩ rfl
     (fun i' ty cs hb=>aA.imp (p:=p) (q:=fun i'=>i'≠opId rid i) (fun id hp e=>hS id hp (by rw [e];exact hN)) (j.hm i' ty cs (dK _ _ _ _ hb)))
    have n2:=n1.drop (Z:=Z) (h:=st.heap.get) (fun b hb=>.inl hb) (fun b hb=>hb.imp (fun h=>h) (fun ⟨id,_,h5,h6⟩=>⟨id,h5,h6⟩)) (dK _ _)
    have eR:(dG (cw st.heap [.bF m]).get (opId rid i) (some (Ob.own (.iter kk vk) (none,es))))=Heap.get ((opId rid i,.own (.iter kk vk) (none,es))::st.heap.del m):=by
     funext k
     simp only [cw,drop1,dG,Heap.get]
     by_cases e:k=opId rid i
     ·subst e;simp
     ·rw [if_neg e,if_neg (fun h=>e h.symm)]
    rw [eR] at n2
    refine ⟨.pointer (some ⟨w.heap.size,0,none⟩),w.alloc (.mapIter (some r) clock #[] clock),o4 Z ψ st.heap.get [.bF m],dG ψ (opId rid i) (.pointer (some ⟨w.heap.size,0,none⟩)),?_,?_⟩
    ·obtain ⟨dst,op,type,pos,after,guard⟩:=o
     simp only at DD
     subst DD
     have c9:(Instr.range t (.map (some r))).run P w=.ok (.pointer (some ⟨w.heap.size,0,none⟩)) (w.alloc (.mapIter (some r) clock #[] clock)):=by
      simp only [Instr.range,Sem.run_bind,run_underlying hu,Result.andThen_ok,fF h2 (by simp),Sem.run_pure];rfl
     simp [execOp,hev,c9]
    ·have bg:∀d,aG (fun id=>¬Of rid i id) (look st.tmps d):=fun d=>(j.tm d).imp hS
     refine ⟨by rw [cW];exact j.ok.next (fun id h=>by unfold Of at h;omega) n2,?_,fun d => ?_,fun k ty cs hb => ?_⟩
     ·rw [gD,cW]
      refine cJ.put ⟨fun d => ?_,j.tr.size,j.tr.defers⟩ hd ?_
      ·rw [vd _ rfl]
       exact QV g hg n2 (fun b hb=>WI b hb) hold (bg d) (j.tr.rep d)
      ·simp only [av]
       exact ⟨⟨rfl,rfl⟩,fun _=>(ba _ _ _).symm⟩
     ·rw [gD]
      have hb:aG p' (look (st.tmps.map fun q=>(q.1,EG m (.mp kk vk es) q.2)) d):=by rw [vd _ rfl];exact Na ((j.tm d).imp Mj)
      cases kf:o.dst with
      | none=>exact hb
      | some d0 =>
       simp only [iA,dG]
       split
       ·simp only [aG];exact MV
       ·exact hb
     ·rw [cW] at hb
      simp only [Heap.get] at hb
      split at hb
      ·cases hb
      ·exact (j.hm k ty cs (Heap.tn hb).1).imp Mj
   ·cases mX
  ·cases mX
 ·cases mX
theorem mY{R:Type}{n:Nat}{f:Nat→Option R}{r:R}(h:rf n f=some r):∀j,j<n→f j=some r:=by
 unfold rf at h
 split at h
 ·rename_i hx;cases h;exact Classical.choose_spec hx
 ·cases h
theorem lY{R:Type}{n:Nat}{f:Nat→Option R}{r:R}(hn:0<n)(h:∀j,j<n→f j=some r):rf n f=some r:=by
 unfold rf
 have hx:∃r,∀j,j<n→f j=some r:=⟨r,h⟩
 rw [dif_pos hx]
 have:=Classical.choose_spec hx 0 hn
 rw [h 0 hn] at this
 exact this.symm
theorem Next.drawn{d:Nat}(n:Next Z ψ h { w with drawn:=d } B0 O N Z' ψ' h' w'):Next Z ψ h w B0 O N Z' ψ' h' w' :=
 ⟨n.fg,n.dQ,⟨n.keep.os,n.keep.tape,n.keep.output,n.keep.size,n.keep.block⟩,n.ids,n.dL⟩
theorem Good.drawn{d:Nat}(g:Good Z ψ h w B0 O):Good Z ψ h { w with drawn:=d } B0 O:=by
 have sm:cg Z w ({ w with drawn:=d }:World):=fun _ _=>rfl
 refine ⟨fun id ty cs hb => ?_,fun id ok xs hb => ?_,g.live,g.apart,g.jk⟩
 ·obtain ⟨gg,vs,h1,h2,h3,h4⟩:=g.box id ty cs hb
  exact ⟨gg,vs,h1,h2,h3.less (fun _ h=>h) sm (fun i hi=>⟨hi,rfl⟩),h4⟩
 ·exact (g.row id ok xs hb).kept (fun _ h=>h) sm (fun gg _=>rfl)
theorem filter_push{l:List MapEntry}(h:l.Pairwise (fun a b=>a.born≠b.born)){seen:Array Nat}{j:Nat}{e:MapEntry}(he:(l.filter fun e => !seen.contains e.born)[j]? = some e) :
  l.filter (fun x => !(seen.push e.born).contains x.born)=(l.filter fun e => !seen.contains e.born).eraseIdx j:=by
 have h2:(l.filter fun e => !seen.contains e.born).Pairwise (fun a b=>a.born≠b.born):=h.sublist List.filter_sublist
 rw [←ChangeMaps.filter_eq_eraseIdx (fun x=>x.born==e.born) _ j e he (by simp) (h2.imp fun {a b} bj hc=>bj (by
  simp only [beq_iff_eq] at hc;omega))]
 rw [List.filter_filter]
 congr 1
 funext x
 simp only [Array.contains_push]
 cases seen.contains x.born<;>cases x.born==e.born<;>rfl
theorem H9{R:Type}{hh:Heap}(g:Good Z ψ hh.get w B0 O){x:AV}{u:Value}{ty:TypeId}(hx:av Z ψ hh.get w x u){kk:AV→Heap→Option R}{r:R}(he:kx hh x kk=some r) :
  ∃v h' V w',(Instr.next u false ty).run P w=.ok V w'∧Next Z ψ hh.get w B0 O N Z ψ h'.get w'∧av Z ψ h'.get w' v V∧kk v h'=some r∧(∀p,aG p v)∧∀i ty cs,h'.get i=some (.box ty cs)→hh.get i=some (.box ty cs):=by
 unfold kx at he
 split at he
 ·rename_i id
  split at he
  ·rename_i kk1 vk pp hg
   simp only [av] at hx
   have hu:=hx.2 (by rw [hg];simp)
   obtain ⟨b,m,since,seen,bQ,clock,h1,h2,h3,h4,h5,h6,h7,h8,h9⟩:=g.row id (.iter kk1 vk) pp hg
   rw [h1] at hu
   subst hu
   subst h6
   have aH:=(Array.getElem?_eq_some_iff.1 h2).1
   have Sy:(leftOf bQ seen).toList=bQ.toList.filter fun e => !seen.contains e.born:=by unfold leftOf;simp
   have hlen:pp.2.length=(leftOf bQ seen).size:=by rw [h8.1,←Sy,Array.length_toList]
   rcases run_next_at (P:=P) w ty b m since since seen bQ since h2 h4 h7 (Nat.le_refl _) with ⟨mq,c9⟩ | ⟨e,iM,w1,Ia,c9⟩
   ·have KR:pp.2.isEmpty=true:=by rw [List.isEmpty_iff];exact List.eq_nil_of_length_eq_zero (by rw [hlen,mq])
    rw [KR] at he
    simp only [cond_true] at he
    exact ⟨_,hh,_,w,c9,Next.refl g,by simp only [av,an];exact ⟨_,rfl,_,_,rfl,rfl,rfl⟩,he,fun p=>by simp only [aG,aA];exact ⟨trivial,trivial⟩,fun _ _ _ h=>h⟩
   ·obtain ⟨k,hk,hke⟩:=List.mem_iff_getElem.1 iM
    have nE:k<pp.2.length:=by rw [hlen,←Array.length_toList];exact hk
    have KR:pp.2.isEmpty=false:=by
     cases hl:pp.2 with
     | nil=>rw [hl] at nE;simp at nE
     | cons _ _=>rfl
    rw [KR] at he
    simp only [cond_false] at he
    have hj:=mY he k nE
    rw [List.getElem?_eq_getElem nE,Option.bind_some] at hj
    have TZ:(bQ.toList.filter fun e => !seen.contains e.born)[k]? = some e:=by rw [←Sy,List.getElem?_eq_getElem hk,hke]
    have Dl:=h8.2 k _ e (List.getElem?_eq_getElem nE) TZ
    obtain ⟨⟨k1,k2,k3⟩,v1,v2,v3⟩:=Dl
    have abq:e∈bQ.toList:=(List.mem_filter.1 (List.mem_of_getElem? TZ)).1
    have gd1:Good Z ψ hh.get w1 B0 O:=by rcases Ia with rfl | rfl;exact g;exact g.drawn
    have DE:w1.heap=w.heap:=by rcases Ia with rfl | rfl<;>rfl
    have hmb:m≠b:=fun hmb=>by
     subst hmb
     exact (g.live id m (by rw [hg];simp) (by rw [h1];rfl)).1 h3
    have n1:=qE (N:=N) gd1 (id:=id) (by rw [hg];simp) (r:=b) (by rw [h1];rfl) (by rw [DE];exact aH) (.mapIter (some m) since (seen.push e.born) since) (ok:=.iter kk1 vk) (x:=(some pp.2[k],pp.2.eraseIdx k)) (fun w' HQ sm=>by
     have VD:cg Z w w':=fun c hc=>(sm c hc).trans (by rw [DE])
     refine ⟨b,m,since,seen.push e.born,bQ,since,h1,by rw [HQ,DE];simp [aH],h3,?_,h5,rfl,h7,?_,?_⟩
     ·rw [HQ,DE,uW _ (fun e=>hmb e.symm)];exact h4
     ·rw [filter_push h5 TZ]
      exact (jN.erase h8 k).mono (fun _ h=>h) VD
     ·refine ⟨e,abq,by simp,⟨rfl,fun q y e' mq w7 => ?_⟩⟩
      cases q with
      | zero=>cases mq;cases w7;exact ⟨⟨k1.mono (fun _ h=>h) VD,k2,k3⟩,v1.mono (fun _ h=>h) VD,v2,v3⟩
      | succ q=>simp at mq)
    have n2:Next Z ψ hh.get w B0 O N Z ψ (dG hh.get id (some (.own (.iter kk1 vk) (some pp.2[k],pp.2.eraseIdx k)))) { w1 with heap:=w1.heap.setIfInBounds b (.mapIter (some m) since (seen.push e.born) since) }:=by
     rcases Ia with rfl | rfl
     ·exact n1
     ·exact n1.drawn
    refine ⟨_,hh.set id (.own (.iter kk1 vk) (some pp.2[k],pp.2.eraseIdx k)),_,_,c9,by rw [lO];exact n2,?_,hj,fun p => ?_,fun i ty cs hb => ?_⟩
    ·have VD:cg Z w ({ w1 with heap:=w1.heap.setIfInBounds b (.mapIter (some m) since (seen.push e.born) since) }:World):=n2.same g
     simp only [av,an]
     exact ⟨_,rfl,_,_,rfl,rfl,_,_,rfl,kW (k1.mono (fun _ h=>h) VD) k2 k3,_,_,rfl,kW (v1.mono (fun _ h=>h) VD) v2 v3,rfl⟩
    ·simp only [aG,aA]
     exact ⟨trivial,mT _ _ _,mT _ _ _,trivial⟩
    ·rw [lO] at hb
     unfold dG at hb
     split at hb
     ·cases hb
     ·exact hb
  ·cases he
 ·cases he
theorem Ff(op:BinOp)(t:TypeId)(a b:Operand)(x y:Option Addr)(n m c d:Nat):(eqGuard op t a b (.slice x n c) (.slice y m d)).run P w=.ok () w:=by cases op<;>simp [eqGuard]
theorem BC{t e:TypeId}(ht:P.underlying t=some (.slice e))(a:Option Addr)(n c:Nat):(Op.equal t (.slice a n c) (.slice none 0 0)).run P w=.ok a.isNone w:=by
 have key:∀d,(Op.equalIn (d+1) t (.slice a n c) (.slice none 0 0)).run P w=.ok a.isNone w:=fun d=>by
  cases a<;>simp [Op.equalIn,run_underlying ht]
 exact key 9999
theorem Ib{o:Oper}{x:Operand}{want:Bool}(h:isNil P o=some (x,want)):∃op t v t' e,o.op=.binOp op t x (.const v) t'∧P.underlying t=some (.slice e)∧v=.slice none 0 0∧((op=.eql∧want=true)∨(op=.neq∧want=false)):=by
 unfold isNil at h
 split at h
 ·rename_i op t x' v t' DD
  have hv:∀v:Value,uK v=.fz→v=.slice none 0 0:=fun v hv=>by
   unfold uK at hv
   split at hv<;>try (first | cases hv | (split at hv<;>cases hv);done)
   all_goals (split at hv<;>first | cases hv | skip)
   ·rename_i hc;obtain ⟨rfl,rfl,rfl⟩:=hc;rfl
   all_goals (split at hv<;>cases hv)
  split at h
  ·rename_i e h1 h2 h3;cases h;exact ⟨_,_,_,_,_,DD,h2,hv _ h3,.inl ⟨rfl,rfl⟩⟩
  ·rename_i e h1 h2 h3;cases h;exact ⟨_,_,_,_,_,DD,h2,hv _ h3,.inr ⟨rfl,rfl⟩⟩
  ·cases h
 ·cases h
theorem Nb{R:Type}{hh:Heap}(g:Good Z ψ hh.get w B0 O){x:AV}{u:Value}{op:BinOp}{t e:TypeId}(xo yo:Operand)(hx:av Z ψ hh.get w x u)(ht:P.underlying t=some (.slice e)){want:Bool}(ho:(op=.eql∧want=true)∨(op=.neq∧want=false)){kk:AV→Option R}{r:R}(he:tk hh x want kk=some r) :
  ∃c:Bool,((eqGuard op t xo yo u (.slice none 0 0)).run P w=.ok () w∧(binOp op t u (.slice none 0 0)).run P w=.ok (.bool c) w)∧kk (.bool c)=some r:=by
 have run:∀(a:Option Addr) (n c:Nat),(eqGuard op t xo yo (.slice a n c) (.slice none 0 0)).run P w=.ok () w∧(binOp op t (.slice a n c) (.slice none 0 0)).run P w=.ok (.bool (a.isNone==want)) w:=fun a n c=>by
  refine ⟨Ff _ _ _ _ _ _ _ _ _ _,?_⟩
  rcases ho with ⟨rfl,rfl⟩ | ⟨rfl,rfl⟩<;>simp only [Sem.run_bind,Result.andThen_ok,binOp,BC ht,Sem.run_pure]<;>cases a.isNone<;>rfl
 have fin:∀(n:Nat) (a:Option Addr) (c:Nat) (xs:Bool),(a=none→xs=true)→cond xs (rf 2 fun j=>kk (.bool ((j==0)==want))) (kk (.bool (!want)))=some r →
   ∃c':Bool,((eqGuard op t xo yo (.slice a n c) (.slice none 0 0)).run P w=.ok () w∧(binOp op t (.slice a n c) (.slice none 0 0)).run P w=.ok (.bool c') w)∧kk (.bool c')=some r:=fun n a c xs qA h=>by
  refine ⟨_,run a n c,?_⟩
  cases xs with
  | true =>
   simp only [cond_true] at h
   cases a with
   | none=>exact mY h 0 (by decide)
   | some a=>exact mY h 1 (by decide)
  | false =>
   simp only [cond_false] at h
   cases a with
   | none=>cases qA rfl
   | some a=>cases want<;>exact h
 unfold tk at he
 split at he
 ·rename_i hv
  have hxn:x=.fz:=by
   cases x<;>simp only [cz] at hv<;>try cases hv
   ·rfl
   ·split at hv<;>cases hv
  subst hxn
  simp only [av] at hx
  subst hx
  exact ⟨_,run none 0 0,by cases want<;>exact he⟩
 ·rename_i ex k xs hv
  cases x with
  | sl ex' k' Wb =>
   simp only [cz] at hv
   cases hv
   simp only [av,aE] at hx
   obtain ⟨⟨v,hv,A,c,rfl,h1,h2,_⟩,_⟩:=hx
   cases hv
   refine fin _ A c _ (fun hA => ?_) he
   have:=h2 hA
   rw [List.isEmpty_iff]
   exact List.eq_nil_of_length_eq_zero (by omega)
  | bF id =>
   simp only [cz] at hv
   simp only [av] at hx
   split at hv
   ·rename_i hg
    cases hv
    have hu:=hx.2 (by rw [hg];simp)
    obtain ⟨vs,⟨_,h1⟩,_⟩:=g.row id _ _ hg
    rw [←hu] at h1
    rcases h1 with ⟨h1,A,rfl⟩ | ⟨gg,cap,cur,rfl,_⟩
    ·exact fin _ A 0 _ (fun _=>List.isEmpty_iff.2 (List.eq_nil_of_length_eq_zero h1)) he
    ·exact fin _ _ _ _ (fun h=>by cases h) he
   ·cases hv
   ·cases hv
  | _=>simp only [cz] at hv<;>cases hv
 ·cases he
theorem zj{draw:Bool}{rid:Nat}{ops:Array Oper}{b:Array Nat}{i HA:Nat}{e:bE}{S:Nat→Prop}{hh:Heap}(hm:rI (lI rid S) h)(ha:∀j,HA.testBit j=true→S j)(he:fZ draw rid ops b i HA e=true) :
  aG (lI rid fun k=>S k∨k=i) e.v∧rI (lI rid fun k=>S k∨k=i) (e.hp h):=by
 have EI:∀j,(HA ||| 2 ^ i).testBit j=true→S j∨j=i:=fun j hj=>by
  rw [Nat.testBit_or,Bool.or_eq_true] at hj
  rcases hj with hj | hj
  ·exact .inl (ha j hj)
  ·rw [Nat.testBit_two_pow] at hj;exact .inr (by simpa using hj:i=j).symm
 have up:rI (lI rid fun k=>S k∨k=i) h:=fun id ty cs hb=>(hm id ty cs hb).imp (fun id h1 h2=>.inl (h1 h2))
 cases e with
 | val v=>exact ⟨oc (fun j hj=>.inl (ha j hj)) he,up⟩
 | new v os =>
  simp only [fZ,Bool.and_eq_true] at he
  refine ⟨oc EI he.1.1,fun id ty cs hb => ?_⟩
  simp only [bE.hp] at hb
  split at hb
  ·rename_i o ho
   cases hb
   exact (ll EI he.2 _ _ ho).2 _ _ rfl
  ·exact up id ty cs hb
 | wr v h' =>
  simp only [fZ,Bool.and_eq_true] at he
  exact ⟨oc EI he.1.2,fun id ty cs hb=>(ll EI he.2 _ _ hb).2 _ _ rfl⟩
theorem BD{i j:Nat}(h:(2 ^ i - 1).testBit j=true):j<i:=by
 rw [Nat.testBit_two_pow_sub_one] at h;simpa using h
def ve(mk:Bool)(rid i id:Nat):Prop:=mk=true→lI rid (fun k=>k<i) id
theorem kJ(E:Env P Eqs Sg F){rid n:Nat}{ops:Array Oper}{b:Array Nat}(mk:Bool)(Nc:mk=false→∀(i:Nat) (o:Oper),ops[i]? = some o→makes o.op=false)(hn:ops.size≤128)(kf:∀(i:Nat) (o:Oper),ops[i]? = some o→gR n o=true){kk:St→Option R}{r:R}{Q:Exit→Act→World→Prop}
  (hQ:∀dP Z ψ a w,kk dP=some r→Ok Z0 w0 O ψ0 Z ψ dP.heap.get w→cJ Z ψ dP.heap.get w n (look dP.tmps) a→Q .normal a w) :
  ∀(l:List (Nat×Oper)) (i:Nat) (st:St) (Z:Nat→Prop) (ψ:Nat→Value) (a:Act) (w:World),zi ops i l→bw P Eqs Sg F rid false ops b l st kk=some r →
   J (ve mk rid i) n Z0 w0 O ψ0 Z ψ (look st.tmps) st.heap.get a w→wpOps P ops Q (l.map Prod.fst) a w
 | [],i,st,Z,ψ,a,w,_,hx,j=>hQ st Z ψ a w hx j.ok j.tr
 | (i',o)::l,i,st,Z,ψ,a,w,hl,hx,j=>by
  obtain ⟨rfl,ho,hl⟩:=hl
  have hi:i'<128:=Nat.lt_of_lt_of_le (Array.getElem?_eq_some_iff.1 ho).1 hn
  have Qi:=kf i' o ho
  have ih:=kJ E (rid:=rid) (b:=b) mk Nc hn kf hQ l (i'+1)
  have up:∀id,ve mk rid i' id→ve mk rid (i'+1) id:=fun id h hm hr=>Nat.lt_succ_of_lt (h hm hr)
  have runs:∀gZ:St,look gZ.tmps=look st.tmps→gZ.heap=st.heap→Region.wanted o (yielded ops a.tmps)=true →
    (match nK P (opId rid i') gZ o with
    | some dP=>bw P Eqs Sg F rid false ops b l dP kk
    | none=>match tj o with
    | some x=>kx gZ.heap (ρ gZ.tmps x) fun v h=>bw P Eqs Sg F rid false ops b l (({ gZ with heap:=h }:St).put o.dst v) kk
    | none=>match isNil P o with
    | some (x,want)=>tk gZ.heap (ρ gZ.tmps x) want fun v=>bw P Eqs Sg F rid false ops b l (gZ.put o.dst v) kk
    | none=>cH P Eqs Sg F (opId rid i') gZ.heap gZ.tmps o fun e=>if fZ false rid ops b i' (2 ^ i' - 1) e then bw P Eqs Sg F rid false ops b l ({ gZ with heap:=match e with | .wr _ h=>h | e=>e.h gZ.heap }.put o.dst e.v) kk else none)=some r →
    wpOps P ops Q (((i',o)::l).map Prod.fst) a w:=by
   intro gZ h1 h2 hw hx
   split at hx
   ·rename_i dP mX
    simp only [List.map_cons,wpOps,ho,hw,if_true]
    refine .inl ?_
    have WJ:makes o.op=true:=by
     unfold nK at mX
     split at mX
     ·rename_i DD;rw [DD];rfl
     ·cases mX
    have abt:mk=true:=by
     cases K0:mk with
     | true=>rfl
     | false=>rw [Nc K0 i' o ho] at WJ;cases WJ
    have j1:J (ve mk rid i') n Z0 w0 O ψ0 Z ψ (look gZ.tmps) gZ.heap.get a w:=by rw [h1,h2];exact j
    obtain ⟨V,w',Z',ψ',c9,j'⟩:=H8 (P:=P) (p':=ve mk rid (i'+1)) (fun id hp mu=>by
     obtain ⟨h3,h4⟩:=mu.parts hi
     have:=hp abt h3
     rw [h4] at this
     exact Nat.lt_irrefl _ this) up (fun _ h3=>by
      have:=((Fb (rid:=rid) (i:=i')).parts hi).2
      rw [this];exact Nat.lt_succ_self _) j1 Qi mX
    unfold Oper.wp
    rw [c9]
    exact ih dP Z' ψ' _ w' hl hx j'
   split at hx
   ·rename_i x Cm
    simp only [List.map_cons,wpOps,ho,hw,if_true]
    refine .inl ?_
    have DD:o.op=.next x false:=by
     unfold tj at Cm
     split at Cm
     ·rename_i DD;cases Cm;exact DD
     ·cases Cm
    have VC:av Z ψ gZ.heap.get w (ρ gZ.tmps x) (a.eval x):=pP (by rw [h1,h2];exact j.tr) x
    have g1:Good Z ψ gZ.heap.get w w0.heap.size O:=by rw [h2];exact j.ok.dL
    obtain ⟨v,h',V,w',c9,nx,hr,QG,TK,oS⟩:=H9 (P:=P) (N:=fun _=>False) (ty:=o.type) g1 VC hx
    have Nd:(execOp a.eval o).run P w=.ok (.value V) w':=by
     obtain ⟨dst,op,type,pos,after,guard⟩:=o
     simp only at DD
     subst DD
     simp only at c9
     simp [execOp,c9]
    unfold Oper.wp
    rw [Nd]
    refine ih _ Z ψ _ w' hl QG ?_
    rw [gD,cW]
    have j1:J (ve mk rid i') n Z0 w0 O ψ0 Z ψ (look gZ.tmps) gZ.heap.get a w:=by rw [h1,h2];exact j
    refine ⟨j1.ok.next (fun id h=>h.elim) nx,(j1.tr.next g1 nx (fun d=>(j1.tm d).imp fun _ _ h=>h)).put Qi hr,fun d => ?_,fun k ty cs hb=>(j1.hm k ty cs (oS k ty cs hb)).imp up⟩
    cases kf:o.dst with
    | none=>exact (j1.tm d).imp up
    | some d0 =>
     simp only [iA,dG]
     split
     ·exact TK _
     ·exact (j1.tm d).imp up
   split at hx
   ·rename_i x want WK
    obtain ⟨op,t,v,t',et,DD,ht,rfl,pQ⟩:=Ib WK
    simp only [List.map_cons,wpOps,ho,hw,if_true]
    refine .inl ?_
    have VC:av Z ψ gZ.heap.get w (ρ gZ.tmps x) (a.eval x):=pP (by rw [h1,h2];exact j.tr) x
    have g1:Good Z ψ gZ.heap.get w w0.heap.size O:=by rw [h2];exact j.ok.dL
    obtain ⟨c,c9,QG⟩:=Nb (P:=P) g1 x (.const (.slice none 0 0)) VC ht pQ hx
    have Nd:(execOp a.eval o).run P w=.ok (.value (.bool c)) w:=by
     obtain ⟨dst,op',type,pos,after,guard⟩:=o
     simp only at DD
     subst DD
     have e1:a.eval (.const (.slice none 0 0))=.slice none 0 0:=rfl
     simp [execOp,e1,c9.1,c9.2]
    unfold Oper.wp
    rw [Nd]
    refine ih _ Z ψ _ w hl QG ?_
    rw [gD,cW]
    have j1:J (ve mk rid i') n Z0 w0 O ψ0 Z ψ (look gZ.tmps) gZ.heap.get a w:=by rw [h1,h2];exact j
    refine ⟨j1.ok,j1.tr.put Qi (by simp only [av]),fun d => ?_,fun k ty cs hb=>(j1.hm k ty cs hb).imp up⟩
    cases kf:o.dst with
    | none=>exact (j1.tm d).imp up
    | some d0 =>
     simp only [iA,dG]
     split
     ·simp only [aG]
     ·exact (j1.tm d).imp up
   rw [kI] at hx
   obtain ⟨e,he,hx⟩:=Option.bind_eq_some_iff.1 hx
   split at hx
   ·rename_i lG
    simp only [List.map_cons,wpOps,ho,hw,if_true]
    refine .inl ?_
    have hh:gZ.heap.get=st.heap.get:=by rw [h2]
    have mX:aG (ve mk rid (i'+1)) e.v∧rI (ve mk rid (i'+1)) (e.hp st.heap.get):=by
     cases K0:mk with
     | false =>
      have ht:ve false rid (i'+1)=fun _=>True:=funext fun id=>propext ⟨fun _=>trivial,fun _ h=>by cases h⟩
      rw [ht];exact ⟨aG.top _,fun _ _ cs _=>aA.top cs⟩
     | true =>
      have QL:rI (lI rid fun k=>k<i') st.heap.get:=fun id ty cs hb=>(j.hm id ty cs hb).imp fun id h1=>h1 K0
      have h3:=zj (hh:=gZ.heap) QL (fun k hk=>BD hk) lG
      have hS:∀k,(k<i'∨k=i')→k<i'+1:=fun k hk=>by omega
      exact ⟨h3.1.imp fun id h1 _ h2=>hS _ (h1 h2),fun id ty cs hb=>(h3.2 id ty cs hb).imp fun id h1 _ h2=>hS _ (h1 h2)⟩
    refine J.op E (p:=ve mk rid i') (p':=ve mk rid (i'+1)) (rid:=rid) (i:=i') (s:=gZ.tmps) (fun hm id hp mu => ?_) j Qi (fun x _=>pP (by rw [h1];exact j.tr) x) (fun x _=>KZ (by rw [h1];exact j.tm) x) (fun id o hg=>by rw [hh] at hg;exact hg) he (fun _ _ _=>hh) up mX.1 mX.2 fun a' w' Z' ψ' j' => ?_
    ·cases K0:mk with
     | false=>rw [Nc K0 i' o ho] at hm;cases hm
     | true =>
      obtain ⟨h3,h4⟩:=mu.parts hi
      have:=hp K0 h3
      rw [h4] at this
      exact Nat.lt_irrefl _ this
    refine ih _ Z' ψ' a' w' hl hx ?_
    rw [gD,cW]
    have j2:J (ve mk rid (i'+1)) n Z0 w0 O ψ0 Z' ψ' (iA (look gZ.tmps) o.dst e.v) (bE.heap e gZ.heap).get a' w':=by rw [bE.Fc,h1,h2];exact j'
    exact j2
   ·cases hx
  have zk:∀gZ:St,look gZ.tmps=look st.tmps→gZ.heap=st.heap→Region.wanted o (yielded ops a.tmps)=false →
    bw P Eqs Sg F rid false ops b l (gZ.put o.dst (.mH [])) kk=some r→wpOps P ops Q (((i',o)::l).map Prod.fst) a w:=by
   intro gZ h1 h2 hw hx
   simp only [List.map_cons,wpOps,ho,hw,Bool.false_eq_true,if_false]
   refine ih _ Z ψ _ w hl hx ?_
   rw [gD,cW,h1,h2]
   exact j.skip Qi up
  rw [bw] at hx
  simp only [Bool.false_eq_true,if_false] at hx
  split at hx
  ·rename_i hg
   exact runs st rfl rfl (by simp [Region.wanted,hg]) hx
  ·rename_i jj want hg
   split at hx
   ·cases hx
   ·rename_i d hd
    split at hx
    ·rename_i t ht
     have hw:=zh j.tr hg hd ht
     have hp:∀b,t=b→look (st.put (some d) (.bool b)).tmps=look st.tmps:=fun b hb=>by
      subst hb;rw [gD];exact Ck ht
     cases t<;>simp only [cond_true,cond_false] at hx<;>split at hx<;>rename_i pQ
     ·exact zk _ (hp false rfl) (cW _ _ _) (by rw [hw];simp [pQ]) hx
     ·exact runs _ (hp false rfl) (cW _ _ _) (by rw [hw];simp [pQ]) hx
     ·exact runs _ (hp true rfl) (cW _ _ _) (by rw [hw];simp [pQ]) hx
     ·exact zk _ (hp true rfl) (cW _ _ _) (by rw [hw];simp [pQ]) hx
    ·rename_i vs ht
     exact zk st rfl rfl (wG j.tr hg hd ht) hx
    ·cases hx
end Go.Vs
namespace Go.Vs
variable {P:Program} {Eqs:TypeId→Option K} {Sg:FuncId→Option aJ} {F:(f:FuncId)→(g:aJ)→g.A→Option g.B} {R:Type}
variable {Z Z' Z0:Nat→Prop} {ψ ψ' ψ0:Nat→Value} {h h':Hp} {w w' w0:World} {B0:Nat} {O N:Nat→Prop}
theorem jT(hp h:Heap)(i:Nat):∀(ft:List Nat),(eE ft hp h).get i=if i∈ft then (match hp.get i with | some o=>some o | none=>h.get i) else h.get i
 | []=>by simp [eE]
 | j::r=>by
  have ih:=jT hp h i r
  unfold eE at ih ⊢
  cases hj:hp.get j with
  | none =>
   rw [List.filterMap_cons,hj]
   simp only [Option.map_none]
   rw [ih]
   by_cases e:i=j
   ·subst e;simp [hj]
   ·simp [e]
  | some o =>
   rw [List.filterMap_cons,hj]
   simp only [Option.map_some,List.cons_append,Heap.get]
   rw [ih]
   by_cases e:j=i
   ·subst e;simp [hj]
   ·have e':¬i=j:=fun h=>e h.symm
    simp [e,e']
mutual
theorem wH{ft:List Nat}:∀{v:AV},pq ft v=true→aG (fun i=>i∉ft) v
 | .ref id _ _ _,h=>by simp only [aG];simpa [pq] using h
 | .bF id,h=>by simp only [aG];simpa [pq] using h
 | .fn _ cap,h=>by simp only [aG];exact jU (by simpa only [pq] using h)
 | .agg cs,h=>by simp only [aG];exact jU (by simpa only [pq] using h)
 | .mH vs,h=>by simp only [aG];exact jU (by simpa only [pq] using h)
 | .no,_=>by simp only [aG]
 | .bool _,_=>by simp only [aG]
 | .int _ _,_=>by simp only [aG]
 | .str _,_=>by simp only [aG]
 | .kR,_=>by simp only [aG]
 | .fz,_=>by simp only [aG]
 | .fp _ _ _,_=>by simp only [aG]
 | .sl _ _ _,_=>by simp only [aG]
 | .mp _ _ _,_=>by simp only [aG]
theorem jU{ft:List Nat}:∀{l:List AV},sf ft l=true→aA (fun i=>i∉ft) l
 | [],_=>by simp only [aA]
 | v::r,h=>by
  simp only [sf,Bool.and_eq_true] at h
  simp only [aA]
  exact ⟨wH h.1,jU h.2⟩
end
theorem jV{ft:List Nat}:∀{hh:Heap},si ft hh=true→∀i o,hh.get i=some o→i∉ft∧∀ty cs,o=.box ty cs→aA (fun i=>i∉ft) cs
 | [],_,i,o,h=>by simp [Heap.get] at h
 | (j,.box ty cs)::r,hc,i,o,h=>by
  simp only [si,Bool.and_eq_true] at hc
  simp only [Heap.get] at h
  split at h
  ·rename_i e;subst e;cases h
   exact ⟨by simpa using hc.1,fun ty cs e=>by cases e;exact jU hc.2.1⟩
  ·exact jV hc.2.2 i o h
 | (j,.own ok x)::r,hc,i,o,h=>by
  simp only [si,Bool.and_eq_true] at hc
  simp only [Heap.get] at h
  split at h
  ·rename_i e;subst e;cases h
   exact ⟨by simpa using hc.1,fun ty cs e=>by cases e⟩
  ·exact jV hc.2 i o h
theorem Next.frame{hp h1:Heap}{ft:List Nat}(g:Good Z ψ hp.get w B0 O)(hB:B0≤w.heap.size)(bg:∀i ty cs,hp.get i=some (.box ty cs)→aA (fun i=>¬N i) cs)
  (n:Next Z ψ (gk hp ft).get w w.heap.size (Own ψ (gk hp ft).get) N Z' ψ' h1.get w') (hc:si ft h1=true) :
  ∃dI,Next Z ψ hp.get w B0 O N Z' dI (eE ft hp h1).get w'∧∀i,i∉ft→dI i=ψ' i:=by
 classical
 have gd:∀i,(gk hp ft).get i=if i∈ft then none else hp.get i:=fun i=>mU ft hp i
 have br:∀b,Own ψ (gk hp ft).get b→Own ψ hp.get b:=fun b ⟨i,h1,h2⟩=>⟨i,by rw [gd] at h1;split at h1;exact absurd rfl h1;exact h1,h2⟩
 have pJ:∀i,i∈ft→h1.get i=none:=fun i hi=>by
  cases e:h1.get i with
  | none=>rfl
  | some o=>exact absurd hi (jV hc i o e).1
 have gf:∀i,(eE ft hp h1).get i=if i∈ft then hp.get i else h1.get i:=fun i=>by
  rw [jT]
  by_cases hi:i∈ft
  ·rw [if_pos hi,if_pos hi,pJ i hi];cases hp.get i<;>rfl
  ·rw [if_neg hi,if_neg hi]
 let dI:Nat→Value:=fun i=>if i∈ft then ψ i else ψ' i
 have p1:∀i,i∈ft→dI i=ψ i:=fun i hi=>if_pos hi
 have p2:∀i,i∉ft→dI i=ψ' i:=fun i hi=>if_neg hi
 have apart:∀i b,i∈ft→hp.get i≠none→ob (ψ i)=some b→¬Own ψ (gk hp ft).get b:=fun i b hi h2 h3 ⟨j,h4,h5⟩=>by
  rw [gd] at h4
  split at h4
  ·exact h4 rfl
  ·rename_i hj
   have:=g.apart i j b h2 h4 h3 h5
   subst this;exact hj hi
 have cE:∀i b,i∈ft→hp.get i≠none→ob (ψ i)=some b→w'.heap[b]? = w.heap[b]? := fun i b hi h2 h3 =>
  n.keep.block b (g.bL ⟨i,h2,h3⟩) (apart i b hi h2 h3)
 have keep:cQ ψ hp.get w w':=⟨n.keep.os,n.keep.tape,n.keep.output,n.keep.size,fun b hb hn=>n.keep.block b hb fun ho=>hn (br b ho)⟩
 have sm:cg Z w w':=keep.same g
 have ids:∀i,(eE ft hp h1).get i≠none→(hp.get i≠none∧dI i=ψ i)∨N i:=fun i hi=>by
  rw [gf] at hi
  by_cases hf:i∈ft
  ·rw [if_pos hf] at hi;exact .inl ⟨hi,p1 i hf⟩
  ·rw [if_neg hf] at hi
   rcases n.ids i hi with ⟨h2,h3⟩ | h2
   ·rw [gd,if_neg hf] at h2
    exact .inl ⟨h2,(p2 i hf).trans h3⟩
   ·exact .inr h2
 have nz:∀i b,i∈ft→hp.get i≠none→ob (ψ i)=some b→¬Z' b:=fun i b hi h2 h3 hz=>by
  rcases n.dQ b hz with h4 | h4 | h4
  ·exact (g.live i b h2 h3).1 h4
  ·exact apart i b hi h2 h3 h4
  ·have:=g.bL ⟨i,h2,h3⟩;omega
 refine ⟨dI,⟨n.fg,fun b hb=>(n.dQ b hb).imp (fun h=>h) (fun h=>h.imp (br b) fun h=>h),keep,ids,⟨fun i ty cs hb => ?_,fun i ok x hb => ?_,fun i b h2 h3 => ?_,fun i j b h2 h3 h4 h5 => ?_,n.dL.jk⟩⟩,p2⟩
 ·rw [gf] at hb
  by_cases hf:i∈ft
  ·rw [if_pos hf] at hb
   obtain ⟨gg,vs,e1,e2,e3,e4⟩:=g.box i ty cs hb
   refine ⟨gg,vs,by rw [p1 i hf,e1],(cE i gg hf (by rw [hb];simp) (by rw [e1];rfl)).trans e2,e3.move n.fg sm (fun j hj bj=>(ids j bj).resolve_right hj) (bg i ty cs hb),e4⟩
  ·rw [if_neg hf] at hb
   obtain ⟨gg,vs,e1,e2,e3,e4⟩:=n.dL.box i ty cs hb
   refine ⟨gg,vs,by rw [p2 i hf,e1],e2,e3.move (fun _ h=>h) (cg.refl _ _) (fun j hj bj => ?_) ((jV hc i _ hb).2 ty cs rfl),e4⟩
   rw [gf,if_neg hj] at bj
   exact ⟨bj,p2 j hj⟩
 ·rw [gf] at hb
  by_cases hf:i∈ft
  ·rw [if_pos hf] at hb
   rw [p1 i hf]
   exact (g.row i ok x hb).kept n.fg sm (fun b jm=>cE i b hf (by rw [hb];simp) jm)
  ·rw [if_neg hf] at hb
   rw [p2 i hf]
   exact n.dL.row i ok x hb
 ·rw [gf] at h2
  by_cases hf:i∈ft
  ·rw [if_pos hf] at h2
   rw [p1 i hf] at h3
   exact ⟨nz i b hf h2 h3,(g.live i b h2 h3).2⟩
  ·rw [if_neg hf] at h2
   rw [p2 i hf] at h3
   obtain ⟨h4,h5⟩:=n.dL.live i b h2 h3
   refine ⟨h4,h5.elim (fun h=>.inl (Nat.le_trans hB h)) fun h => ?_⟩
   obtain ⟨j,h6,h7⟩:=br b h
   exact (g.live j b h6 h7).2
 ·have mixed:∀i j b,i∈ft→j∉ft→(eE ft hp h1).get i≠none→(eE ft hp h1).get j≠none→ob (dI i)=some b→ob (dI j)=some b→False:=fun i j b hi hj h2 h3 h4 h5=>by
   rw [gf,if_pos hi] at h2
   rw [gf,if_neg hj] at h3
   rw [p1 i hi] at h4
   rw [p2 j hj] at h5
   rcases (n.dL.live j b h3 h5).2 with h6 | h6
   ·have:=g.bL ⟨i,h2,h4⟩;omega
   ·exact apart i b hi h2 h4 h6
  by_cases hi:i∈ft<;>by_cases hj:j∈ft
  ·rw [gf,if_pos hi] at h2
   rw [gf,if_pos hj] at h3
   rw [p1 i hi] at h4
   rw [p1 j hj] at h5
   exact g.apart i j b h2 h3 h4 h5
  ·exact (mixed i j b hi hj h2 h3 h4 h5).elim
  ·exact (mixed j i b hj hi h3 h2 h5 h4).elim
  ·rw [gf,if_neg hi] at h2
   rw [gf,if_neg hj] at h3
   rw [p2 i hi] at h4
   rw [p2 j hj] at h5
   exact n.dL.apart i j b h2 h3 h4 h5
theorem J.opF(E:Env P Eqs Sg F){rid n i:Nat}{p:Nat→Prop}{T:Nat→AV}{a:Act}{s:List (Nat×AV)}{o:Oper}(hS:makes o.op=true→∀id,p id→¬Of rid i id){hp h1:Heap}{v:AV}{ft:List Nat}(j:J p n Z0 w0 O ψ0 Z ψ T hp.get a w)(hd:gR n o=true)
  (hT:∀x∈o.op.operands,av Z ψ hp.get w (ρ s x) (a.eval x)) (hTm:∀x∈o.op.operands,aG p (ρ s x)) (he:cH P Eqs Sg F (opId rid i) (gk hp ft) s o some=some (.wr v h1)) (hc:ml ft (.wr v h1)=true)
  {p':Nat→Prop} (Mj:∀k,p k→p' k) (hv:aG p' v) (TX:rI p' (eE ft hp h1).get) {next:Act→World→Prop} {Q:Exit→Act→World→Prop}
  (hk:∀a' w' Z' ψ',J p' n Z0 w0 O ψ0 Z' ψ' (iA T o.dst v) (eE ft hp h1).get a' w'→next a' w'):o.wp P a w next Q:=by
 have TY:∀id,p id→¬(makes o.op=true∧Of rid i id):=fun id h ⟨h1,h2⟩=>hS h1 id h h2
 simp only [ml,Bool.and_eq_true] at hc
 have br:∀id o,(gk hp ft).get id=some o→hp.get id=some o:=fun id o h=>by rw [mU] at h;split at h;cases h;exact h
 have bj:∀id,(gk hp ft).get id≠none→hp.get id≠none:=fun id h=>by
  obtain ⟨o,ho⟩:=Option.ne_none_iff_exists'.1 h
  rw [br id o ho];simp
 have bg:∀i' ty cs,hp.get i'=some (.box ty cs)→aA (fun id=>¬(makes o.op=true∧Of rid i id)) cs:=fun id ty cs hb=>(j.hm id ty cs hb).imp TY
 have gs:Good Z ψ (gk hp ft).get w w.heap.size (Own ψ (gk hp ft).get):=(j.ok.dL.sub br).Dz _
 refine Sx (N:=fun id=>makes o.op=true∧Of rid i id) E gs (Nat.le_refl _) (fun _ _ h=>h) (id:=opId rid i) (fun hm k hk=>⟨hm,Jt hk⟩) (fun x hx=>(hT x hx).oT br) (fun x hx=>(hTm x hx).imp TY) (fun id ty cs hb=>bg id ty cs (br _ _ hb)) (fun _ _ _=>rfl) he fun V w' Z' ψ' nx hr => ?_
 obtain ⟨dI,n2,h2⟩:=Next.frame j.ok.dL j.ok.size bg nx hc.2
 have T0:av Z' dI (eE ft hp h1).get w' v V:=hr.move (p:=fun i=>i∉ft) (fun _ h=>h) (cg.refl _ _) (fun k hk bj=>by
  rw [jT,if_neg hk] at bj
  exact ⟨bj,h2 k hk⟩) (wH hc.1)
 refine hk _ w' Z' dI ⟨j.ok.next (fun id h=>by have:=h.2;unfold Of at this;omega) n2,(j.tr.next j.ok.dL n2 (fun d=>(j.tm d).imp TY)).put hd T0,fun d => ?_,TX⟩
 cases kf:o.dst with
 | none=>exact (j.tm d).imp Mj
 | some d0 =>
  simp only [iA,dG]
  split
  ·exact hv
  ·exact (j.tm d).imp Mj
end Go.Vs
namespace Go.Vs
variable {P:Program} {Eqs:TypeId→Option K} {Sg:FuncId→Option aJ} {F:(f:FuncId)→(g:aJ)→g.A→Option g.B} {R:Type}
variable {Z Z' Z0:Nat→Prop} {ψ ψ':Nat→Value} {h h':Hp} {w w' w0:World} {B0:Nat} {O N:Nat→Prop}
variable {rid n:Nat} {ops:Array Oper} {b:Array Nat}
def qK(b:Array Nat)(i j:Nat):Prop:=(b.getD i 0).testBit j=true
theorem Cn(b:Array Nat)(j:Nat):∀(l:List Edge) (s:Nat),(l.foldl (fun s e=>if Region.binds .any e then s ||| 2 ^ e.on ||| b.getD e.on 0 else s) s).testBit j=true ↔
  s.testBit j=true∨∃e∈l,Region.binds .any e=true∧(j=e.on∨qK b e.on j)
 | [],s=>by simp
 | e::l,s=>by
  rw [List.foldl_cons,Cn b j l]
  by_cases hb:Region.binds .any e=true
  ·rw [if_pos hb]
   have h2:(2 ^ e.on).testBit j=true↔j=e.on:=by rw [Nat.testBit_two_pow];simp [eq_comm]
   simp only [Nat.testBit_or,Bool.or_eq_true,h2,List.mem_cons,exists_eq_or_imp,hb,true_and,qK]
   constructor
   ·rintro (((h | h) | h) | h)
    ·exact .inl h
    ·exact .inr (.inl (.inl h))
    ·exact .inr (.inl (.inr h))
    ·exact .inr (.inr h)
   ·rintro (h | (h | h) | h)
    ·exact .inl (.inl (.inl h))
    ·exact .inl (.inl (.inr h))
    ·exact .inl (.inr h)
    ·exact .inr h
  ·rw [if_neg hb]
   simp [hb]
theorem xD(hb:tg ops b=true){i j:Nat}{o:Oper}(ho:ops[i]? = some o):qK b i j↔∃e∈o.after.toList,Region.binds .any e=true∧(j=e.on∨qK b e.on j):=by
 have aH:=(Array.getElem?_eq_some_iff.1 ho).1
 have h1:=List.all_eq_true.1 hb i (List.mem_range.2 aH)
 rw [ho] at h1
 simp only [Bool.and_eq_true,beq_iff_eq] at h1
 unfold qK
 rw [h1.2,Cn]
 simp [qK]
theorem Ic(hb:tg ops b=true){i:Nat}{o:Oper}(ho:ops[i]? = some o){e:Edge}(he:e∈o.after.toList)(KN:Region.binds .any e=true):e.on<i:=by
 have aH:=(Array.getElem?_eq_some_iff.1 ho).1
 have h1:=List.all_eq_true.1 hb i (List.mem_range.2 aH)
 rw [ho] at h1
 simp only [Bool.and_eq_true] at h1
 have:=List.all_eq_true.1 h1.1 e he
 simpa [KN] using this
theorem zm(hb:tg ops b=true):∀(i j:Nat),i<ops.size→qK b i j→j<i:=by
 intro i
 induction i using Nat.strongRecOn with
 | ind i ih =>
  intro j hi h
  obtain ⟨e,he,KN,h1⟩:=(xD hb (Array.getElem?_eq_getElem hi)).1 h
  have T1:=Ic hb (Array.getElem?_eq_getElem hi) he KN
  rcases h1 with rfl | h1
  ·exact T1
  ·exact Nat.lt_trans (ih e.on T1 j (by omega) h1) T1
theorem Co(hb:tg ops b=true):∀(i j k:Nat),i<ops.size→qK b i j→qK b j k→qK b i k:=by
 intro i
 induction i using Nat.strongRecOn with
 | ind i ih =>
  intro j k hi h h'
  obtain ⟨e,he,KN,h1⟩:=(xD hb (Array.getElem?_eq_getElem hi)).1 h
  have T1:=Ic hb (Array.getElem?_eq_getElem hi) he KN
  refine (xD hb (Array.getElem?_eq_getElem hi)).2 ⟨e,he,KN,?_⟩
  rcases h1 with rfl | h1
  ·exact .inr h'
  ·exact .inr (ih e.on T1 j k (by omega) h1 h')
theorem get_filter(f:Nat→Bool):∀(hh:Heap) (i:Nat),Heap.get (hh.filter fun p=>f p.1) i=if f i then hh.get i else none
 | [],i=>by simp [Heap.get]
 | (j,o)::r,i=>by
  rw [List.filter_cons]
  split
  ·rename_i hj
   simp only [Heap.get]
   by_cases e:j=i
   ·subst e;simp only at hj;simp [hj]
   ·simp only [if_neg e];exact get_filter f r i
  ·rename_i hj
   rw [get_filter f r i]
   simp only [Heap.get]
   by_cases e:j=i
   ·subst e;simp only at hj;simp [hj]
   ·simp only [if_neg e]
theorem K1(rid HA:Nat)(hh:Heap)(id:Nat):(ahead rid HA hh).get id=if po rid HA id then hh.get id else none:=by
 unfold ahead
 exact get_filter (fun i=>po rid HA i) hh id
theorem Ng(ft:List Nat)(hp:Heap)(e:bE):(gh ft hp e).v=e.v:=by cases e<;>rfl
theorem Fg{id:Nat}{hh:Heap}{s:List (Nat×AV)}{o:Oper}{x:Operand}{e:bE}(hl:iG o.op=some x)(he:cH P Eqs Sg F id hh s o some=some e):∃v,e=.val v:=by
 obtain ⟨dst,op,type,pos,after,guard⟩:=o
 cases op<;>simp only [iG] at hl<;>first | (cases hl;done) | skip
 case load t a =>
  simp only [cH,kU] at he
  repeat' (first | (cases he;done) | exact ⟨_,(Option.some.inj he).symm⟩ | split at he)
  all_goals
   obtain ⟨y,_,he⟩:=Option.bind_eq_some_iff.1 he
   split at he<;>first | (cases he;done) | exact ⟨_,(Option.some.inj he).symm⟩
 case indexAddr t a i =>
  simp only [cH,de] at he
  repeat' (first | (cases he;done) | exact ⟨_,(Option.some.inj he).symm⟩ | split at he)
  all_goals first
   | (obtain ⟨y,_,he⟩:=Option.bind_eq_some_iff.1 he;exact ⟨_,(Option.some.inj he).symm⟩)
   | (unfold cond at he;split at he<;>first | (cases he;done) | exact ⟨_,(Option.some.inj he).symm⟩)
theorem Cp{op:Op}{x:Operand}(hl:iG op=some x):mj op=false∧Dd op=false:=by
 cases op<;>simp only [iG] at hl<;>first | (cases hl;done) | exact ⟨rfl,rfl⟩
theorem Ie{id:Nat}{hh h2:Heap}{s:List (Nat×AV)}{o:Oper}{x:Operand}(hl:iG o.op=some x)(hg:∀i∈ti (ρ s x),h2.get i=hh.get i):cH P Eqs Sg F id h2 s o some=cH P Eqs Sg F id hh s o some:=by
 obtain ⟨dst,op,type,pos,after,guard⟩:=o
 cases op<;>simp only [iG] at hl<;>first | (cases hl;done) | skip
 case load t a =>
  cases hl
  simp only [cH,kU]
  cases hv:ρ s x with
  | ref i s' j off=>rw [hv] at hg;simp only [ti,List.mem_singleton,forall_eq] at hg;simp only [hg]
  | _=>rfl
 case indexAddr t a i =>
  cases hl
  simp only [cH,de]
  cases v5 P t with
  | none=>rfl
  | some e =>
   simp only []
   cases hv:ρ s x with
   | bF k =>
    rw [hv] at hg
    have uI:=hg k (by simp [ti])
    cases ρ s i<;>first | rfl | simp only [uI]
   | sl ex k xs=>cases ρ s i<;>rfl
   | _=>rfl
def oM(ops:Array Oper)(T:Nat→AV)(o:Oper)(t:Bool):Prop :=
 match o.guard with
 | none=>t=true
 | some (j,want)=>∃d,(ops[j]?).bind (·.dst)=some d∧((∃u,T d=.bool u∧(u==want)=t)∨(∃vs,T d=.mH vs∧t=false))
def zn(P:Program)(Eqs:TypeId→Option K)(Sg:FuncId→Option aJ)(F:(f:FuncId)→(g:aJ)→g.A→Option g.B)(rid:Nat)(ops:Array Oper)(b:Array Nat)(T:Nat→Nat→AV)(H:Nat→Hp)(E:Nat→Option bE)(k:Nat)(o:Oper):Prop :=
 (∃e s hh,E k=some e∧look s=T k∧(∀id,Heap.get hh id=if po rid (b.getD k 0) id then H k id else none)∧(∃e0,cH P Eqs Sg F (opId rid k) (gk hh (gm ops b k s o)) s o some=some e0∧e=gh (gm ops b k s o) hh e0∧ml (gm ops b k s o) e0=true) ∧
  fZ true rid ops b k (b.getD k 0) e=true∧oM ops (T k) o true∧T (k+1)=iA (T k) o.dst e.v∧H (k+1)=e.hp (H k)) ∨
 (E k=none∧oM ops (T k) o false∧T (k+1)=iA (T k) o.dst (.mH [])∧H (k+1)=H k)
theorem trace{kk:St→Option R}{r:R}:∀(l:List (Nat×Oper)) (i:Nat) (st:St),zi ops i l→l.length=ops.size - i→bw P Eqs Sg F rid true ops b l st kk=some r →
  ∃(T:Nat→Nat→AV) (H:Nat→Hp) (E:Nat→Option bE),T i=look st.tmps∧H i=st.heap.get∧(∀k o,i≤k→ops[k]? = some o→zn P Eqs Sg F rid ops b T H E k o) ∧
   ∃dP,kk dP=some r∧look dP.tmps=T (max i ops.size)∧dP.heap.get=H (max i ops.size)
 | [],i,st,_,hlen,hx=>by
  have Ss:ops.size≤i:=by simp at hlen;omega
  refine ⟨fun _=>look st.tmps,fun _=>st.heap.get,fun _=>none,rfl,rfl,fun k o hk ho => ?_,st,hx,rfl,rfl⟩
  have:=(Array.getElem?_eq_some_iff.1 ho).1
  omega
 | (i',o)::l,i,st,hl,hlen,hx=>by
  obtain ⟨rfl,ho,hl⟩:=hl
  have aH:=(Array.getElem?_eq_some_iff.1 ho).1
  have ih:=trace (kk:=kk) (r:=r) l (i'+1)
  have WL:l.length=ops.size - (i'+1):=by simp at hlen;omega
  have glue:∀(dP:St) (oe:Option bE),bw P Eqs Sg F rid true ops b l dP kk=some r →
    (∀T H E,T i'=look st.tmps→H i'=st.heap.get→E i'=oe→T (i'+1)=look dP.tmps→H (i'+1)=dP.heap.get→zn P Eqs Sg F rid ops b T H E i' o) →
    ∃(T:Nat→Nat→AV) (H:Nat→Hp) (E:Nat→Option bE),T i'=look st.tmps∧H i'=st.heap.get∧(∀k o,i'≤k→ops[k]? = some o→zn P Eqs Sg F rid ops b T H E k o) ∧
     ∃dP,kk dP=some r∧look dP.tmps=T (max i' ops.size)∧dP.heap.get=H (max i' ops.size):=by
   intro dP oe Wh tq
   obtain ⟨T,H,E,h1,h2,h3,abu,h4,h5,h6⟩:=ih dP hl WL Wh
   refine ⟨fun k=>if k≤i' then look st.tmps else T k,fun k=>if k≤i' then st.heap.get else H k,fun k=>if k=i' then oe else E k,by simp,by simp,fun k o' hk mu => ?_,abu,h4,?_,?_⟩
   ·by_cases hki:k=i'
    ·subst hki
     rw [ho] at mu
     cases mu
     exact tq _ _ _ (by simp) (by simp) (by simp) (by show (if k+1≤k then _ else _)=_;rw [if_neg (by omega)];exact h1) (by show (if k+1≤k then _ else _)=_;rw [if_neg (by omega)];exact h2)
    ·have h7:=h3 k o' (by omega) mu
     unfold zn at h7 ⊢
     simp only [show ¬k≤i' by omega,show ¬k+1≤i' by omega,hki,if_false]
     exact h7
   ·rw [h5];simp only [show max (i'+1) ops.size=ops.size by omega,show max i' ops.size=ops.size by omega,show ¬ops.size≤i' by omega,if_false]
   ·rw [h6];simp only [show max (i'+1) ops.size=ops.size by omega,show max i' ops.size=ops.size by omega,show ¬ops.size≤i' by omega,if_false]
  have runs:∀gZ:St,look gZ.tmps=look st.tmps→gZ.heap=st.heap→oM ops (look st.tmps) o true →
    (cH P Eqs Sg F (opId rid i') (gk (ahead rid (b.getD i' 0) gZ.heap) (gm ops b i' gZ.tmps o)) gZ.tmps o fun e=>if (fZ true rid ops b i' (b.getD i' 0) (gh (gm ops b i' gZ.tmps o) (ahead rid (b.getD i' 0) gZ.heap) e)&&ml (gm ops b i' gZ.tmps o) e)=true then bw P Eqs Sg F rid true ops b l ({ gZ with heap:=match gh (gm ops b i' gZ.tmps o) (ahead rid (b.getD i' 0) gZ.heap) e with | .wr _ h=>h | e=>e.h gZ.heap }.put o.dst e.v) kk else none)=some r →
    ∃(T:Nat→Nat→AV) (H:Nat→Hp) (E:Nat→Option bE),T i'=look st.tmps∧H i'=st.heap.get∧(∀k o,i'≤k→ops[k]? = some o→zn P Eqs Sg F rid ops b T H E k o) ∧
     ∃dP,kk dP=some r∧look dP.tmps=T (max i' ops.size)∧dP.heap.get=H (max i' ops.size):=by
   intro gZ h1 h2 hw hx
   rw [kI] at hx
   obtain ⟨e,he,hx⟩:=Option.bind_eq_some_iff.1 hx
   split at hx
   ·rename_i lG
    rw [Bool.and_eq_true] at lG
    generalize DF:gh (gm ops b i' gZ.tmps o) (ahead rid (b.getD i' 0) gZ.heap) e=e1 at hx lG
    have tz:e.v=e1.v:=by rw [←DF];exact (Ng _ _ _).symm
    refine glue _ (some e1) hx fun T H E hT hH hE hT' TQ => ?_
    refine .inl ⟨e1,gZ.tmps,_,hE,by rw [hT,h1],fun id=>by rw [K1,hH,h2],⟨e,he,DF.symm,lG.2⟩,lG.1,by rw [hT];exact hw,?_,?_⟩
    ·rw [hT',gD,hT,tz];simp only [h1]
    ·rw [TQ,cW,hH]
     have:(bE.heap e1 gZ.heap).get=e1.hp st.heap.get:=by rw [bE.Fc,h2]
     exact this
   ·cases hx
  have zk:∀gZ:St,look gZ.tmps=look st.tmps→gZ.heap=st.heap→oM ops (look st.tmps) o false →
    bw P Eqs Sg F rid true ops b l (gZ.put o.dst (.mH [])) kk=some r →
    ∃(T:Nat→Nat→AV) (H:Nat→Hp) (E:Nat→Option bE),T i'=look st.tmps∧H i'=st.heap.get∧(∀k o,i'≤k→ops[k]? = some o→zn P Eqs Sg F rid ops b T H E k o) ∧
     ∃dP,kk dP=some r∧look dP.tmps=T (max i' ops.size)∧dP.heap.get=H (max i' ops.size):=by
   intro gZ h1 h2 hw hx
   refine glue _ none hx fun T H E hT hH hE hT' TQ=>.inr ⟨hE,by rw [hT];exact hw,?_,?_⟩
   ·rw [hT',gD,hT,h1]
   ·rw [TQ,cW,hH,h2]
  rw [bw] at hx
  simp only [if_true] at hx
  split at hx
  ·rename_i hg
   exact runs st rfl rfl (by simp [oM,hg]) hx
  ·rename_i jj want hg
   split at hx
   ·cases hx
   ·rename_i d hd
    split at hx
    ·rename_i t ht
     have hp:∀b,t=b→look (st.put (some d) (.bool b)).tmps=look st.tmps:=fun b hb=>by
      subst hb;rw [gD];exact Ck ht
     have hw:∀c,(t==want)=c→oM ops (look st.tmps) o c:=fun c hc=>by
      unfold oM;rw [hg];exact ⟨d,hd,.inl ⟨t,ht,hc⟩⟩
     cases t<;>simp only [cond_true,cond_false] at hx<;>split at hx<;>rename_i pQ
     ·exact zk _ (hp false rfl) (cW _ _ _) (hw _ (by simp [pQ])) hx
     ·exact runs _ (hp false rfl) (cW _ _ _) (hw _ (by simp [pQ])) hx
     ·exact runs _ (hp true rfl) (cW _ _ _) (hw _ (by simp [pQ])) hx
     ·exact zk _ (hp true rfl) (cW _ _ _) (hw _ (by simp [pQ])) hx
    ·rename_i vs ht
     exact zk st rfl rfl (by unfold oM;rw [hg];exact ⟨d,hd,.inr ⟨vs,ht,rfl⟩⟩) hx
    ·cases hx
def Nf(ops:Array Oper)(j:Nat):Prop:=∃o,ops[j]? = some o∧mj o.op=false∧iG o.op=none
def xF(E:Nat→Option bE)(k:Nat):Prop:=∃v h',E k=some (.wr v h')
def VF(E:Nat→Option bE)(k:Nat):Prop:=∃v os,E k=some (.new v os)
theorem tK{α:Type}(f:α→Option Nat):∀(l:List α),bZ (l.filterMap f)=true→∀(i j:Nat) (x y:α) (d:Nat),l[i]? = some x→l[j]? = some y→f x=some d→f y=some d→i=j
 | [],_,i,j,x,y,d,hi,_,_,_=>by simp at hi
 | a::r,hn,i,j,x,y,d,hi,hj,hx,hy=>by
  have iM:∀(k:Nat) (z:α),r[k]? = some z→f z=some d→d∈r.filterMap f:=fun k z hk hz=>List.mem_filterMap.2 ⟨z,List.mem_of_getElem? hk,hz⟩
  have hr:bZ (r.filterMap f)=true∧∀c,f a=some c→c∉r.filterMap f:=by
   rw [List.filterMap_cons] at hn
   split at hn
   ·rename_i h0;exact ⟨hn,fun c hc=>by rw [h0] at hc;cases hc⟩
   ·rename_i c h0
    simp only [bZ,Bool.and_eq_true,Bool.not_eq_true'] at hn
    refine ⟨hn.2,fun c' hc => ?_⟩
    rw [h0] at hc;cases hc
    intro hm
    rw [List.contains_iff_mem.2 hm] at hn;simp at hn
  cases i with
  | zero =>
   cases j with
   | zero=>rfl
   | succ j =>
    simp only [List.getElem?_cons_zero,Option.some.injEq] at hi;subst hi
    exact absurd (iM j y (by simpa using hj) hy) (hr.2 d hx)
  | succ i =>
   cases j with
   | zero =>
    simp only [List.getElem?_cons_zero,Option.some.injEq] at hj;subst hj
    exact absurd (iM i x (by simpa using hi) hx) (hr.2 d hy)
   | succ j=>rw [tK f r hr.1 i j x y d (by simpa using hi) (by simpa using hj) hx hy]
structure Dr(P:Program)(Eqs:TypeId→Option K)(Sg:FuncId→Option aJ)(F:(f:FuncId)→(g:aJ)→g.A→Option g.B)(rid n:Nat)(ops:Array Oper)(b:Array Nat)(T:Nat→Nat→AV)(H:Nat→Hp)(E:Nat→Option bE):Prop where
 size:ops.size≤128
 Mk:tg ops b=true
 pair:yq ops b=true
 abw:∀(i:Nat) (o:Oper),ops[i]? = some o→gR n o=true
 nodup:bZ (ops.toList.filterMap (·.dst))=true
 step:∀k o,ops[k]? = some o→zn P Eqs Sg F rid ops b T H E k o
 abx:∀id,H 0 id≠none→id / 32768≠rid+1
section
variable {T:Nat→Nat→AV} {H:Nat→Hp} {E:Nat→Option bE}
theorem Dr.xG(D:Dr P Eqs Sg F rid n ops b T H E){i j:Nat}{x y:Oper}{d:Nat}(hi:ops[i]? = some x)(hj:ops[j]? = some y)(hx:x.dst=some d)(hy:y.dst=some d):i=j :=
 tK (·.dst) ops.toList D.nodup i j x y d (by simpa using hi) (by simpa using hj) hx hy
theorem Dr.Sz(D:Dr P Eqs Sg F rid n ops b T H E){i j:Nat}{x y:Oper}(hi:ops[i]? = some x)(hj:ops[j]? = some y)(yK:i<j):qK b j i∨x.apart ops y=true:=by
 have h1:=List.all_eq_true.1 D.pair j (List.mem_range.2 (Array.getElem?_eq_some_iff.1 hj).1)
 have h2:=List.all_eq_true.1 h1 i (List.mem_range.2 yK)
 rw [hi,hj] at h2
 simp only [Bool.or_eq_true,Bool.and_eq_true] at h2
 exact h2
theorem Dr.QW(D:Dr P Eqs Sg F rid n ops b T H E){k:Nat}{o:Oper}(ho:ops[k]? = some o){e:bE}(he:E k=some e) :
  ∃s hh,look s=T k∧(∀id,Heap.get hh id=if po rid (b.getD k 0) id then H k id else none)∧(∃e0,cH P Eqs Sg F (opId rid k) (gk hh (gm ops b k s o)) s o some=some e0∧e=gh (gm ops b k s o) hh e0∧ml (gm ops b k s o) e0=true) ∧
   fZ true rid ops b k (b.getD k 0) e=true∧oM ops (T k) o true∧T (k+1)=iA (T k) o.dst e.v∧H (k+1)=e.hp (H k):=by
 rcases D.step k o ho with ⟨e',s,hh,h1,h2⟩ | ⟨h1,_⟩
 ·rw [he] at h1;cases h1;exact ⟨s,hh,h2⟩
 ·rw [he] at h1;cases h1
theorem Dr.DG(D:Dr P Eqs Sg F rid n ops b T H E){k:Nat}{o:Oper}(ho:ops[k]? = some o)(he:E k=none) :
  oM ops (T k) o false∧T (k+1)=iA (T k) o.dst (.mH [])∧H (k+1)=H k:=by
 rcases D.step k o ho with ⟨e',s,hh,h1,h2⟩ | ⟨h1,h2⟩
 ·rw [he] at h1;cases h1
 ·exact h2
theorem Dr.vf(D:Dr P Eqs Sg F rid n ops b T H E){k:Nat}(hk:k<ops.size)(h:VF E k):Nf ops k:=by
 obtain ⟨v,os,he⟩:=h
 obtain ⟨s,hh,_,_,⟨e0,h3,So,_⟩,_⟩:=D.QW (Array.getElem?_eq_getElem hk) he
 refine ⟨_,Array.getElem?_eq_getElem hk,?_,?_⟩
 ·cases hf:mj (ops[k]).op with
  | false=>rfl
  | true=>obtain ⟨v',rfl⟩:=E8 hf h3;cases So
 ·cases hf:iG (ops[k]).op with
  | none=>rfl
  | some x=>obtain ⟨v',rfl⟩:=Fg hf h3;cases So
theorem Dr.Nh(D:Dr P Eqs Sg F rid n ops b T H E){k:Nat}(hk:k<ops.size)(h:xF E k):Nf ops k:=by
 obtain ⟨v,os,he⟩:=h
 obtain ⟨s,hh,_,_,⟨e0,h3,So,_⟩,_⟩:=D.QW (Array.getElem?_eq_getElem hk) he
 refine ⟨_,Array.getElem?_eq_getElem hk,?_,?_⟩
 ·cases hf:mj (ops[k]).op with
  | false=>rfl
  | true=>obtain ⟨v',rfl⟩:=E8 hf h3;cases So
 ·cases hf:iG (ops[k]).op with
  | none=>rfl
  | some x=>obtain ⟨v',rfl⟩:=Fg hf h3;cases So
theorem Dr.zo(D:Dr P Eqs Sg F rid n ops b T H E){k j:Nat}(hk:k<ops.size)(h:xF E k)(hj:Nf ops j)(bj:j≠k):(j<k∧qK b k j)∨(k<j∧qK b j k):=by
 obtain ⟨v,os,he⟩:=h
 obtain ⟨s,hh,_,_,_,h4,_⟩:=D.QW (Array.getElem?_eq_getElem hk) he
 obtain ⟨o,ho,hf,Qd⟩:=hj
 have Hm:=(Array.getElem?_eq_some_iff.1 ho).1
 simp only [fZ,Bool.and_eq_true] at h4
 have h5:Hz ops b k=true:=by simpa using h4.1.1
 have h6:=List.all_eq_true.1 h5 j (List.mem_range.2 Hm)
 have hlf:th ops k j=false:=by unfold th;rw [ho];simp only [Option.bind_some,Qd]
 rw [hlf,Bool.and_false,ho] at h6
 simp only [Bool.or_eq_true,beq_iff_eq,hf,Bool.false_eq_true,or_false] at h6
 rcases h6 with (h6 | h6) | h6
 ·exact absurd h6 bj
 ·exact .inr ⟨zm D.Mk j k Hm h6,h6⟩
 ·exact .inl ⟨zm D.Mk k j hk h6,h6⟩
theorem Dr.zp(D:Dr P Eqs Sg F rid n ops b T H E){p:Nat}:∀(q:Nat),p≤q→q≤ops.size→∀id,(∀k,p≤k→k<q→xF E k→H (k+1) id=H k id)→(∀k,p≤k→k<q→VF E k→¬Of rid k id)→H q id=H p id:=by
 intro q
 induction q with
 | zero=>intro yP _ id _ _;rw [Nat.le_zero.1 yP]
 | succ q ih =>
  intro yP hq id hw bO
  by_cases he:p=q+1
  ·rw [he]
  ·have h1:=ih (by omega) (by omega) id (fun k h1 h2=>hw k h1 (by omega)) (fun k h1 h2=>bO k h1 (by omega))
   rw [←h1]
   have ho:=Array.getElem?_eq_getElem (show q<ops.size by omega)
   cases hE:E q with
   | none=>rw [(D.DG ho hE).2.2]
   | some e =>
    obtain ⟨s,hh,_,_,_,h4,_,_,h7⟩:=D.QW ho hE
    cases e with
    | val v=>rw [h7];rfl
    | wr v h'=>exact hw q (by omega) (by omega) ⟨v,h',hE⟩
    | new v os =>
     rw [h7]
     simp only [bE.hp]
     cases Mh:Heap.get os id with
     | none=>rfl
     | some o' =>
      exfalso
      simp only [fZ,Bool.and_eq_true] at h4
      refine bO q (by omega) (by omega) ⟨v,os,hE⟩ ?_
      have:∀(l:Heap),(l.all fun p=>p.1 / 256==(rid+1) * 128+q)=true→∀o',l.get id=some o'→Of rid q id:=by
       intro l
       induction l with
       | nil=>intro _ o' h;simp [Heap.get] at h
       | cons a r ihl =>
        intro eQ o' hg
        simp only [List.all_cons,Bool.and_eq_true,beq_iff_eq] at eQ
        simp only [Heap.get] at hg
        split at hg
        ·rename_i e;rw [←e];exact eQ.1
        ·exact ihl eQ.2 o' hg
      exact this os h4.1.2 o' Mh
theorem Dr.xH(D:Dr P Eqs Sg F rid n ops b T H E){p:Nat}(q:Nat)(yP:p≤q)(hq:q≤ops.size)(hw:∀k,p≤k→k<q→¬xF E k)(id:Nat)(hn:∀k,p≤k→k<q→VF E k→¬Of rid k id):H q id=H p id :=
 D.zp q yP hq id (fun k h1 h2 h3=>absurd h3 (hw k h1 h2)) hn
theorem Dr.names(D:Dr P Eqs Sg F rid n ops b T H E):∀(k:Nat),k≤ops.size→∀id,H k id≠none→id / 32768=rid+1→∃j,Of rid j id∧j<k∧j<128∧(VF E j∨∃w,w<k∧xF E w∧(j=w∨qK b w j)):=by
 intro k
 induction k with
 | zero=>intro _ id h1 h2;exact absurd h2 (D.abx id h1)
 | succ k ih =>
  intro hk id h1 h2
  have aH:k<ops.size:=by omega
  have up:H k id≠none→∃j,Of rid j id∧j<k+1∧j<128∧(VF E j∨∃w,w<k+1∧xF E w∧(j=w∨qK b w j)):=fun h=>by
   obtain ⟨j,h3,h4,h4',h5⟩:=ih (by omega) id h h2
   exact ⟨j,h3,by omega,h4',h5.imp (fun h=>h) fun ⟨w,h6,h7⟩=>⟨w,by omega,h7⟩⟩
  have ho:=Array.getElem?_eq_getElem aH
  have Ni:=D.size
  cases hE:E k with
  | none=>rw [(D.DG ho hE).2.2] at h1;exact up h1
  | some e =>
   obtain ⟨s,hh,_,_,_,h4,_,_,h7⟩:=D.QW ho hE
   rw [h7] at h1
   cases e with
   | val v=>exact up h1
   | wr v h' =>
    obtain ⟨o',mu⟩:=Option.ne_none_iff_exists'.1 h1
    simp only [fZ,Bool.and_eq_true] at h4
    have h5:(b.getD k 0 ||| 2 ^ k).testBit (id / 256 % 128)=true:=(ll (S:=fun j=>(b.getD k 0 ||| 2 ^ k).testBit j=true) (fun j hj=>hj) h4.2 id o' mu).1 h2
    rw [Nat.testBit_or,Bool.or_eq_true,Nat.testBit_two_pow] at h5
    refine ⟨id / 256 % 128,Of.of h2 rfl,?_,by omega,.inr ⟨k,by omega,⟨v,h',hE⟩,?_⟩⟩
    ·rcases h5 with h5 | h5
     ·have:=zm D.Mk k _ aH h5;omega
     ·have:=of_decide_eq_true h5;omega
    ·rcases h5 with h5 | h5
     ·exact .inr h5
     ·exact .inl (of_decide_eq_true h5).symm
   | new v os =>
    simp only [bE.hp] at h1
    cases Mh:Heap.get os id with
    | none=>rw [Mh] at h1;exact up h1
    | some o' =>
     simp only [fZ,Bool.and_eq_true] at h4
     have:∀(l:Heap),(l.all fun p=>p.1 / 256==(rid+1) * 128+k)=true→∀o',l.get id=some o'→Of rid k id:=by
      intro l
      induction l with
      | nil=>intro _ o' h;simp [Heap.get] at h
      | cons a r ihl =>
       intro eQ o' hg
       simp only [List.all_cons,Bool.and_eq_true,beq_iff_eq] at eQ
       simp only [Heap.get] at hg
       split at hg
       ·rename_i e;rw [←e];exact eQ.1
       ·exact ihl eQ.2 o' hg
     exact ⟨k,this os h4.1.2 o' Mh,by omega,by omega,.inl ⟨v,os,hE⟩⟩
theorem Dr.T2(D:Dr P Eqs Sg F rid n ops b T H E){q:Nat}(nF:q<ops.size)(QX:xF E q):∀id,H q id≠none→lI rid (qK b q) id:=fun id bj Nj=>by
 obtain ⟨j,h1,h2,h2',h3⟩:=D.names q (by omega) id bj Nj
 rw [(h1.parts h2').2]
 rcases h3 with h3 | ⟨w',h5,h6,h8⟩
 ·rcases D.zo nF QX (D.vf (by omega) h3) (by omega) with ⟨_,h9⟩ | ⟨h9,_⟩
  ·exact h9
  ·omega
 ·have WM:qK b q w':=by
   rcases D.zo nF QX (D.Nh (by omega) h6) (by omega) with ⟨_,h9⟩ | ⟨h9,_⟩
   ·exact h9
   ·omega
  rcases h8 with rfl | h8
  ·exact WM
  ·exact Co D.Mk q w' j nF WM h8
theorem Dr.vg(D:Dr P Eqs Sg F rid n ops b T H E){d p:Nat}:∀(q:Nat),p≤q→q≤ops.size→(∀m o,p≤m→m<q→ops[m]? = some o→o.dst≠some d)→T q d=T p d
 | 0,h,_,_=>by rw [Nat.le_zero.1 h]
 | q+1,h,hq,hm=>by
  by_cases e:p=q+1
  ·rw [e]
  ·have ho:=Array.getElem?_eq_getElem (show q<ops.size by omega)
   have ih:=D.vg q (by omega) (by omega) fun m o h1 h2=>hm m o h1 (by omega)
   rw [←ih]
   have hd:=hm q _ (by omega) (by omega) ho
   have key:∀v,iA (T q) (ops[q]).dst v d=T q d:=fun v=>by
    cases kf:(ops[q]).dst with
    | none=>rfl
    | some d' =>
     simp only [iA,dG]
     rw [if_neg]
     rintro rfl
     exact hd kf
   rcases D.step q _ ho with ⟨e,s,hh,_,_,_,_,_,_,h7,_⟩ | ⟨_,_,h3,_⟩
   ·rw [h7,key]
   ·rw [h3,key]
theorem Dr.steady(D:Dr P Eqs Sg F rid n ops b T H E){i k:Nat}{o:Oper}{x:Operand}(ho:ops[i]? = some o)(hl:iG o.op=some x)(hk:k<ops.size)(hw:xF E k)(bj:i≠k)(h1:¬qK b i k)(h2:¬qK b k i)
  {s:List (Nat×AV)} (hs:look s=T i) {id:Nat} (bO:id∈ti (ρ s x)):H (k+1) id=H k id:=by
 have nF:=(Array.getElem?_eq_some_iff.1 ho).1
 obtain ⟨v,h',hE⟩:=hw
 have lG:=Array.getElem?_eq_getElem hk
 obtain ⟨sk,hh,Nk,QY,⟨e0,So,DF,ta⟩,h4,_,_,h7⟩:=D.QW lG hE
 simp only [fZ,Bool.and_eq_true] at h4
 have h5:Hz ops b k=true:=by simpa using h4.1.1
 have h6:=List.all_eq_true.1 h5 i (List.mem_range.2 nF)
 rw [ho,lG] at h6
 have b1:(b.getD i 0).testBit k=false:=Bool.eq_false_iff.2 h1
 have b2:(b.getD k 0).testBit i=false:=Bool.eq_false_iff.2 h2
 have b3:(i==k)=false:=by simp [bj]
 simp only [b1,b2,b3,(Cp hl).1,Bool.false_or,Bool.and_eq_true] at h6
 obtain ⟨Cq,Ju⟩:=h6
 have WN:gm ops b k sk ops[k]=Tz ops b k sk:=by unfold gm;rw [if_pos Cq]
 have mI:ρ sk x=ρ s x:=by
  cases x with
  | tmp d =>
   simp only [ρ,Nk,hs]
   unfold th at Ju
   rw [ho] at Ju
   simp only [Option.bind_some,hl] at Ju
   have hm:∀m o',min k i≤m→m<max k i→ops[m]? = some o'→o'.dst≠some d:=fun m o' g1 g2 g3 hd=>by
    have g4:=List.all_eq_true.1 Ju m (List.mem_range.2 (by omega))
    rw [g3] at g4
    simp [hd,g1,g2] at g4
   rcases Nat.lt_or_ge i k with g | g
   ·exact D.vg k (by omega) (by omega) fun m o' g1 g2=>hm m o' (by omega) (by omega)
   ·exact (D.vg i (by omega) (by omega) fun m o' g1 g2=>hm m o' (by omega) (by omega)).symm
  | _=>rfl
 have iM:id∈gm ops b k sk ops[k]:=by
  rw [WN]
  unfold Tz
  refine List.mem_flatMap.2 ⟨i,List.mem_range.2 nF,?_⟩
  rw [b1,b2,b3,ho]
  simp only [Bool.or_self,Bool.false_eq_true,if_false,Option.bind_some,hl]
  rw [mI];exact bO
 cases e0 with
 | val v0=>cases DF
 | new v0 os=>cases DF
 | wr v0 MD =>
  cases DF
  simp only [ml,Bool.and_eq_true] at ta
  have hn:MD.get id=none:=by
   cases e:MD.get id with
   | none=>rfl
   | some ob=>exact absurd iM (jV ta.2 id ob e).1
  rw [h7]
  show (eE _ hh MD).get id=H k id
  rw [jT,if_pos iM,hn,QY id]
  cases abA:H k id with
  | none=>simp
  | some ob =>
   have h8:=D.T2 hk ⟨_,_,hE⟩ id (by rw [abA];simp)
   have h9:po rid (b.getD k 0) id=true:=by
    unfold po
    by_cases hr:id / 32768=rid+1
    ·have:=h8 hr
     unfold qK at this
     rw [this];simp
    ·simp [hr]
   rw [if_pos h9]
end
end Go.Vs
namespace Go.Vs
variable {P:Program} {Eqs:TypeId→Option K} {Sg:FuncId→Option aJ} {F:(f:FuncId)→(g:aJ)→g.A→Option g.B} {R:Type}
variable {Z Z' Z0:Nat→Prop} {ψ ψ' ψ0:Nat→Value} {h h':Hp} {w w' w0:World} {B0:Nat} {O N:Nat→Prop}
variable {rid n:Nat} {ops:Array Oper} {b:Array Nat} {T:Nat→Nat→AV} {H:Nat→Hp} {E:Nat→Option bE}
structure Dj(rid:Nat)(ops:Array Oper)(b:Array Nat)(T:Nat→Nat→AV)(H:Nat→Hp)(E:Nat→Option bE)(S:Nat→Prop)(Tc:Nat→AV)(h:Hp):Prop where
 lt:∀i,S i→i<ops.size
 closed:∀i j,S i→qK b i j→S j
 heap:∃q,q≤ops.size∧(∀k,k<q→xF E k→S k)∧(q<ops.size→xF E q∧¬S q)∧∀id,(lI rid S id→h id=H q id)∧(¬lI rid S id→h id=none)
 Nl:∀j o d,S j→ops[j]? = some o→o.dst=some d→Tc d=T (j+1) d
 told:∀d,(∀j o,S j→ops[j]? = some o→o.dst≠some d)→Tc d=T 0 d
theorem Dr.Nm(D:Dr P Eqs Sg F rid n ops b T H E){k:Nat}{o:Oper}(ho:ops[k]? = some o){d:Nat}(hd:o.dst≠some d):T (k+1) d=T k d:=by
 have:∀v,iA (T k) o.dst v d=T k d:=fun v=>by
  cases kf:o.dst with
  | none=>rfl
  | some d' =>
   simp only [iA,dG]
   rw [if_neg]
   rintro rfl
   exact hd kf
 rcases D.step k o ho with ⟨e,s,hh,_,_,_,_,_,_,h7,_⟩ | ⟨_,_,h3,_⟩
 ·rw [h7,this]
 ·rw [h3,this]
theorem Dr.tL(D:Dr P Eqs Sg F rid n ops b T H E){d:Nat}:∀(i:Nat),i≤ops.size→(∀k o,k<i→ops[k]? = some o→o.dst≠some d)→T i d=T 0 d
 | 0,_,_=>rfl
 | i+1,hi,hk=>by
  rw [D.Nm (Array.getElem?_eq_getElem (show i<ops.size by omega)) (hk i _ (by omega) (Array.getElem?_eq_getElem (by omega)))]
  exact D.tL i (by omega) fun k o h1 h2=>hk k o (by omega) h2
theorem Dr.DH(D:Dr P Eqs Sg F rid n ops b T H E){d j:Nat}{oj:Oper}(hj:ops[j]? = some oj)(hd:oj.dst=some d):∀(i:Nat),i≤ops.size→j<i→T i d=T (j+1) d
 | 0,_,h=>by omega
 | i+1,hi,h=>by
  by_cases e:j=i
  ·rw [e]
  ·have ho:=Array.getElem?_eq_getElem (show i<ops.size by omega)
   rw [D.Nm ho (fun hdi=>e (D.xG hj ho hd hdi))]
   exact D.DH hj hd i (by omega) (by omega)
theorem Dr.looks(D:Dr P Eqs Sg F rid n ops b T H E){S:Nat→Prop}{Tc:Nat→AV}(dj:Dj rid ops b T H E S Tc h){i:Nat}{o:Oper}(ho:ops[i]? = some o)(hS:¬S i)(hb:∀j,qK b i j→S j){d:Nat}(hd:d∈o.looksAt ops):Tc d=T i d:=by
 have hi:=(Array.getElem?_eq_some_iff.1 ho).1
 by_cases hex:∃(j:Nat) (oj:Oper),ops[j]? = some oj∧oj.dst=some d
 ·obtain ⟨j,oj,hj,VG⟩:=hex
  have cE:¬S j→Tc d=T 0 d:=fun hn=>dj.told d fun j' o' hs mu Nn=>hn (by rw [D.xG hj mu VG Nn];exact hs)
  have Mk:i≤j→T i d=T 0 d:=fun yK=>D.tL i (by omega) fun k o' hk mu Nn=>by have:=D.xG hj mu VG Nn;omega
  rcases Nat.lt_trichotomy j i with aH | rfl | Ht
  ·rcases D.Sz hj ho aH with h1 | h1
   ·rw [dj.Nl j oj d (hb j h1) hj VG,D.DH hj VG i (by omega) aH]
   ·exact absurd hd ((Oper.apart_spec h1).1 d VG)
  ·rw [cE hS,Mk (Nat.le_refl _)]
  ·rcases D.Sz ho hj Ht with h1 | h1
   ·rw [cE (fun hs=>hS (dj.closed j i hs h1)),Mk (by omega)]
   ·exact absurd hd ((Oper.apart_spec h1).2.2 d VG)
 ·rw [dj.told d fun j o' _ mu Nn=>hex ⟨j,o',mu,Nn⟩,D.tL i (by omega) fun k o' _ mu Nn=>hex ⟨k,o',mu,Nn⟩]
theorem Dr.No{S:Nat→Prop}{Tc:Nat→AV}(D:Dr P Eqs Sg F rid n ops b T H E)(dj:Dj rid ops b T H E S Tc h){i:Nat}{o:Oper}(ho:ops[i]? = some o)(hS:¬S i){v:AV}(hv:T (i+1)=iA (T i) o.dst v) :
  (∀j o' d,(S j∨j=i)→ops[j]? = some o'→o'.dst=some d→iA Tc o.dst v d=T (j+1) d)∧(∀d,(∀j o',(S j∨j=i)→ops[j]? = some o'→o'.dst≠some d)→iA Tc o.dst v d=T 0 d):=by
 constructor
 ·intro j o' d hj mu hd
  rcases hj with hj | rfl
  ·have bj:j≠i:=fun e=>hS (e▸hj)
   have:iA Tc o.dst v d=Tc d:=by
    cases kf:o.dst with
    | none=>rfl
    | some d' =>
     simp only [iA,dG]
     rw [if_neg]
     rintro rfl
     exact bj (D.xG mu ho hd kf)
   rw [this];exact dj.Nl j o' d hj mu hd
  ·rw [ho] at mu;cases mu
   rw [hv,hd];simp [iA,dG]
 ·intro d hd
  have:iA Tc o.dst v d=Tc d:=by
   cases kf:o.dst with
   | none=>rfl
   | some d' =>
    simp only [iA,dG]
    rw [if_neg]
    rintro rfl
    exact hd i o (.inr rfl) ho kf
  rw [this];exact dj.told d fun j o' hj=>hd j o' (.inl hj)
theorem tM{i k id:Nat}(h1:Of rid i id)(h2:Of rid k id):i=k:=by unfold Of at h1 h2;omega
section
variable {S:Nat→Prop} {Tc:Nat→AV}
theorem Dr.calm(D:Dr P Eqs Sg F rid n ops b T H E)(dj:Dj rid ops b T H E S Tc h){i q:Nat}(hi:Nf ops i)(hS:¬S i)(hq:q≤ops.size)(hw:∀k,k<q→xF E k→S k):∀k,i≤k→k<q→¬xF E k:=by
 intro k Np hkq hk
 have Nk:=hw k hkq hk
 have bj:i≠k:=fun e=>hS (e▸Nk)
 rcases D.zo (by omega) hk hi bj with ⟨_,h1⟩ | ⟨h1,_⟩
 ·exact hS (dj.closed k i Nk h1)
 ·omega
theorem Dr.seen(D:Dr P Eqs Sg F rid n ops b T H E)(dj:Dj rid ops b T H E S Tc h){i:Nat}(hi:Nf ops i)(hS:¬S i)(hb:∀j,qK b i j→S j){hh:Heap}(QY:∀id,Heap.get hh id=if po rid (b.getD i 0) id then H i id else none) :
  ∀id o,hh.get id=some o→h id=some o:=by
 obtain ⟨q,hq,hw,ij,eR⟩:=dj.heap
 have nF:i<ops.size:=by obtain ⟨o,ho,hf1,hf2⟩:=hi;exact (Array.getElem?_eq_some_iff.1 ho).1
 have WO:i≤q:=by
  rcases Nat.lt_or_ge q i with h1 | h1
  ·obtain ⟨h2,h3⟩:=ij (by omega)
   rcases D.zo (by omega) h2 hi (by omega) with ⟨h4,_⟩ | ⟨_,h4⟩
   ·omega
   ·exact absurd (hb q h4) h3
  ·exact h1
 intro id o bO
 rw [QY] at bO
 split at bO
 ·rename_i lG
  have lH:lI rid S id:=mV hb lG
  rw [(eR id).1 lH,D.xH q WO hq (D.calm dj hi hS hq hw) id fun k hk _ _ ho => ?_,bO]
  have Nj:=(ho.parts (by have:=D.size;omega)).1
  obtain ⟨j,h1,h2,_⟩:=D.names i (by omega) id (by rw [bO];simp) Nj
  have:=tM h1 ho
  omega
 ·cases bO
theorem Dr.K2(D:Dr P Eqs Sg F rid n ops b T H E)(dj:Dj rid ops b T H E S Tc h){i:Nat}{o:Oper}{x:Operand}(ho:ops[i]? = some o)(hl:iG o.op=some x)(hS:¬S i)(hb:∀j,qK b i j→S j){s:List (Nat×AV)}(hs:look s=T i)
  {hh:Heap} (QY:∀id,Heap.get hh id=if po rid (b.getD i 0) id then H i id else none):∀id∈ti (ρ s x),∀ob,hh.get id=some ob→h id=some ob:=by
 obtain ⟨q,hq,hw,ij,eR⟩:=dj.heap
 have nF:=(Array.getElem?_eq_some_iff.1 ho).1
 have Ni:=D.size
 intro id bO ob jm
 rw [QY] at jm
 split at jm
 ·rename_i lG
  have lH:lI rid S id:=mV hb lG
  rw [(eR id).1 lH,←jm]
  rcases Nat.lt_or_ge q i with hqi | WO
  ·obtain ⟨h2,h3⟩:=ij (by omega)
   have later:∀k,q<k→k<ops.size→Nf ops k→qK b k q:=fun k h4 h5 h6=>by
    rcases D.zo (by omega) h2 h6 (by omega) with ⟨h7,_⟩ | ⟨_,h7⟩
    ·omega
    ·exact h7
   have WQ:∀k,q≤k→k<i→Nf ops k→¬S k:=fun k h4 h5 h6 hk=>by
    rcases Nat.eq_or_lt_of_le h4 with e | h7
    ·exact h3 (e▸hk)
    ·exact h3 (dj.closed k q hk (later k h7 (by omega) h6))
   symm
   refine D.zp i (by omega) (by omega) id (fun k h4 h5 h6 => ?_) (fun k h4 h5 h6 h7 => ?_)
   ·have hns:=WQ k h4 h5 (D.Nh (by omega) h6)
    exact D.steady ho hl (by omega) h6 (by omega) (fun Ig=>hns (hb k Ig)) (fun Ig=>by have:=zm D.Mk k i (by omega) Ig;omega) hs bO
   ·have hns:=WQ k h4 h5 (D.vf (by omega) h6)
    have h8:=h7.parts (show k<128 by omega)
    have h9:=lH h8.1
    rw [h8.2] at h9
    exact hns h9
  ·refine D.zp q WO hq id (fun k h4 h5 h6 => ?_) (fun k h4 h5 h6 h7 => ?_)
   ·have Nk:=hw k h5 h6
    have bj:i≠k:=fun e=>hS (e▸Nk)
    exact D.steady ho hl (by omega) h6 bj (fun Ig=>by have:=zm D.Mk i k nF Ig;omega) (fun Ig=>hS (dj.closed k i Nk Ig)) hs bO
   ·obtain ⟨j,h8,h9,_⟩:=D.names i (by omega) id (by rw [jm];simp) (h7.parts (by omega)).1
    have:=tM h8 h7
    omega
 ·cases jm
theorem Nq(E:Nat→Option bE)(S:Nat→Prop)(m:Nat):∃q,q≤m∧(∀k,k<q→xF E k→S k)∧(q<m→xF E q∧¬S q):=by
 classical
 induction m with
 | zero=>exact ⟨0,Nat.le_refl _,fun k hk=>by omega,fun h=>by omega⟩
 | succ m ih =>
  obtain ⟨q,h1,h2,h3⟩:=ih
  by_cases hq:q<m
  ·exact ⟨q,by omega,h2,fun _=>h3 hq⟩
  ·have:q=m:=by omega
   subst this
   by_cases hm:xF E q∧¬S q
   ·exact ⟨q,by omega,h2,fun _=>hm⟩
   ·refine ⟨q+1,by omega,fun k hk hw => ?_,fun h=>by omega⟩
    rcases Nat.lt_or_ge k q with h4 | h4
    ·exact h2 k h4 hw
    ·have:k=q:=by omega
     subst this
     exact Classical.not_not.1 fun hn=>hm ⟨hw,hn⟩
theorem zq{i id:Nat}(hi:i<128):lI rid (fun k=>S k∨k=i) id↔lI rid S id∨Of rid i id:=by
 constructor
 ·intro h1
  by_cases hr:id / 32768=rid+1
  ·rcases h1 hr with h2 | h2
   ·exact .inl fun _=>h2
   ·exact .inr (Of.of hr h2)
  ·exact .inl fun h=>absurd h hr
 ·rintro (h1 | h1) h2
  ·exact .inl (h1 h2)
  ·exact .inr (h1.parts hi).2
theorem Dr.Fh(D:Dr P Eqs Sg F rid n ops b T H E)(dj:Dj rid ops b T H E S Tc h){i:Nat}(nF:i<ops.size)(hS:¬S i)(hnn:¬VF E i)(WR:¬xF E i) :
  ∃q,q≤ops.size∧(∀k,k<q→xF E k→S k∨k=i)∧(q<ops.size→xF E q∧¬(S q∨q=i))∧∀id,(lI rid (fun k=>S k∨k=i) id→h id=H q id)∧(¬lI rid (fun k=>S k∨k=i) id→h id=none):=by
 obtain ⟨q,hq,hw,ij,eR⟩:=dj.heap
 have Ni:=D.size
 refine ⟨q,hq,fun k h1 h2=>.inl (hw k h1 h2),fun h1=>⟨(ij h1).1,fun h2=>h2.elim (ij h1).2 fun e=>WR (e▸(ij h1).1)⟩,fun id=>⟨fun h1 => ?_,fun h1=>(eR id).2 fun h2=>h1 ((zq (by omega)).2 (.inl h2))⟩⟩
 rcases (zq (S:=S) (i:=i) (rid:=rid) (by omega)).1 h1 with h2 | h2
 ·exact (eR id).1 h2
 ·have hn:¬lI rid S id:=fun h3=>h3.zg (by omega) hS h2
  rw [(eR id).2 hn]
  symm
  apply Classical.not_not.1
  intro bj
  obtain ⟨j,h3,_,_,h4⟩:=D.names q hq id bj (h2.parts (by omega)).1
  have:=tM h3 h2
  subst this
  rcases h4 with h4 | ⟨w',h5,h6,h7 | h7⟩
  ·exact hnn h4
  ·exact WR (h7▸h6)
  ·exact hS (dj.closed w' _ (hw w' h5 h6) h7)
theorem QZ{os:Heap}{i:Nat}(eQ:(os.all fun p=>p.1 / 256==(rid+1) * 128+i)=true):∀id o,os.get id=some o→Of rid i id:=by
 induction os with
 | nil=>intro id o h;simp [Heap.get] at h
 | cons a r ih =>
  intro id o hg
  simp only [List.all_cons,Bool.and_eq_true,beq_iff_eq] at eQ
  simp only [Heap.get] at hg
  split at hg
  ·rename_i e;rw [←e];exact eQ.1
  ·exact ih eQ.2 id o hg
theorem Dr.Nr(D:Dr P Eqs Sg F rid n ops b T H E)(dj:Dj rid ops b T H E S Tc h){i:Nat}{o:Oper}(ho:ops[i]? = some o)(hS:¬S i)(hb:∀j,qK b i j→S j){v:AV}{os:Heap}(hE:E i=some (.new v os)) :
  ∃q,q≤ops.size∧(∀k,k<q→xF E k→S k∨k=i)∧(q<ops.size→xF E q∧¬(S q∨q=i))∧∀id,(lI rid (fun k=>S k∨k=i) id→(bE.new v os).hp h id=H q id)∧(¬lI rid (fun k=>S k∨k=i) id→(bE.new v os).hp h id=none):=by
 obtain ⟨q,hq,hw,ij,eR⟩:=dj.heap
 have Ni:=D.size
 have nF:=(Array.getElem?_eq_some_iff.1 ho).1
 have WR:¬xF E i:=fun ⟨v',h',h1⟩=>by rw [hE] at h1;cases h1
 have VH:=D.vf nF ⟨v,os,hE⟩
 obtain ⟨s,hh,_,_,_,h4,_,_,h7⟩:=D.QW ho hE
 simp only [fZ,Bool.and_eq_true] at h4
 have sr:=QZ (rid:=rid) h4.1.2
 have WO:i<q:=by
  rcases Nat.lt_or_ge i q with h1 | h1
  ·exact h1
  ·obtain ⟨h2,h3⟩:=ij (by omega)
   have bj:i≠q:=fun e=>WR (e▸h2)
   rcases D.zo (by omega) h2 VH bj with ⟨h4,_⟩ | ⟨_,h4⟩
   ·omega
   ·exact absurd (hb q h4) h3
 refine ⟨q,hq,fun k h1 h2=>.inl (hw k h1 h2),fun h1=>⟨(ij h1).1,fun h2=>h2.elim (ij h1).2 fun e=>WR (e▸(ij h1).1)⟩,fun id=>⟨fun h1 => ?_,fun h1 => ?_⟩⟩
 ·simp only [bE.hp]
  by_cases h2:Of rid i id
  ·have hn:¬lI rid S id:=fun h3=>h3.zg (by omega) hS h2
   have e1:H i id=none:=Classical.not_not.1 fun bj=>by
    obtain ⟨j,h3,h4,_⟩:=D.names i (by omega) id bj (h2.parts (by omega)).1
    have:=tM h3 h2
    omega
   have e2:H (i+1) id=Heap.get os id:=by
    rw [h7];simp only [bE.hp];rw [e1];cases Heap.get os id<;>rfl
   have e3:H q id=H (i+1) id:=D.xH q WO hq (fun k h3 h4=>D.calm dj VH hS hq hw k (by omega) h4) id fun k h3 _ _ h5=>by
    have:=tM h5 h2;omega
   rw [e3,e2,(eR id).2 hn];cases Heap.get os id<;>rfl
  ·have h3:lI rid S id:=((zq (by omega)).1 h1).resolve_right h2
   cases Mh:Heap.get os id with
   | some o'=>exact absurd (sr id o' Mh) h2
   | none=>exact (eR id).1 h3
 ·have h2:¬lI rid S id:=fun h2=>h1 ((zq (by omega)).2 (.inl h2))
  have h3:¬Of rid i id:=fun h2=>h1 ((zq (by omega)).2 (.inr h2))
  simp only [bE.hp]
  cases Mh:Heap.get os id with
  | some o'=>exact absurd (sr id o' Mh) h3
  | none=>exact (eR id).2 h2
theorem Dr.Q0(D:Dr P Eqs Sg F rid n ops b T H E)(dj:Dj rid ops b T H E S Tc h){i:Nat}{o:Oper}(ho:ops[i]? = some o)(hS:¬S i)(hb:∀j,qK b i j→S j){v:AV}{h':Heap}(hE:E i=some (.wr v h')) :
  (∀hh:Heap,(∀id,hh.get id=if po rid (b.getD i 0) id then H i id else none)→hh.get=h) ∧
  ∃q,q≤ops.size∧(∀k,k<q→xF E k→S k∨k=i)∧(q<ops.size→xF E q∧¬(S q∨q=i))∧∀id,(lI rid (fun k=>S k∨k=i) id→h'.get id=H q id)∧(¬lI rid (fun k=>S k∨k=i) id→h'.get id=none):=by
 obtain ⟨q,hq,hw,ij,eR⟩:=dj.heap
 have Ni:=D.size
 have nF:=(Array.getElem?_eq_some_iff.1 ho).1
 have QX:xF E i:=⟨v,h',hE⟩
 have VH:=D.Nh nF QX
 obtain ⟨s,hh0,_,_,_,h4,_,_,h7⟩:=D.QW ho hE
 simp only [fZ,Bool.and_eq_true] at h4
 have hqi:q=i:=by
  rcases Nat.lt_trichotomy q i with h1 | h1 | h1
  ·obtain ⟨h2,h3⟩:=ij (by omega)
   rcases D.zo nF QX (D.Nh (by omega) h2) (by omega) with ⟨_,h5⟩ | ⟨h5,_⟩
   ·exact absurd (hb q h5) h3
   ·omega
  ·exact h1
  ·exact absurd (hw i h1 QX) hS
 subst hqi
 have own:∀id,H q id≠none→lI rid (qK b q) id:=fun id bj Nj=>by
  obtain ⟨j,h1,h2,h2',h3⟩:=D.names q hq id bj Nj
  rw [(h1.parts h2').2]
  rcases h3 with h3 | ⟨w',h5,h6,h8⟩
  ·rcases D.zo nF QX (D.vf (by omega) h3) (by omega) with ⟨_,h9⟩ | ⟨h9,_⟩
   ·exact h9
   ·omega
  ·have WM:qK b q w':=by
    rcases D.zo nF QX (D.Nh (by omega) h6) (by omega) with ⟨_,h9⟩ | ⟨h9,_⟩
    ·exact h9
    ·omega
   rcases h8 with rfl | h8
   ·exact WM
   ·exact Co D.Mk q w' j nF WM h8
 refine ⟨fun hh QY => ?_,?_⟩
 ·funext id
  rw [QY id]
  cases bO:H q id with
  | none =>
   have:h id=none:=by
    by_cases h1:lI rid S id
    ·rw [(eR id).1 h1,bO]
    ·exact (eR id).2 h1
   rw [this];split<;>rfl
  | some ob =>
   have h1:=own id (by rw [bO];simp)
   have h2:lI rid S id:=fun hr=>hb _ (h1 hr)
   have h3:po rid (b.getD q 0) id=true:=by
    unfold po
    by_cases hr:id / 32768=rid+1
    ·have:=h1 hr
     unfold qK at this
     rw [this];simp
    ·simp [hr]
   rw [h3,(eR id).1 h2,bO];rfl
 ·obtain ⟨q',h1,h2,h3⟩:=Nq E (fun k=>S k∨k=q) ops.size
  have Ss:q+1≤q':=by
   rcases Nat.lt_or_ge q q' with h5 | h5
   ·exact h5
   ·obtain ⟨h6,h8⟩:=h3 (by omega)
    rcases Nat.lt_or_ge q' q with h9 | h9
    ·exact absurd (.inl (hw q' h9 h6)) h8
    ·exact absurd (.inr (by omega)) h8
  have e1:H (q+1)=h'.get:=by rw [h7];rfl
  have yN:∀j,(b.getD q 0 ||| 2 ^ q).testBit j=true→S j∨j=q:=fun j hj=>by
   rw [Nat.testBit_or,Bool.or_eq_true,Nat.testBit_two_pow] at hj
   exact hj.imp (hb j) (fun h=>(of_decide_eq_true h).symm)
  refine ⟨q',h1,h2,h3,fun id=>⟨fun h5 => ?_,fun h5 => ?_⟩⟩
  ·rw [D.xH q' Ss h1 (fun k h6 h8 h9 => ?_) id (fun k h6 h8 h9 mq => ?_),e1]
   ·have hk:=h2 k h8 h9
    have Nk:S k:=hk.resolve_right (by omega)
    rcases D.zo (by omega) h9 VH (by omega) with ⟨_,w7⟩ | ⟨w7,_⟩
    ·exact hS (dj.closed k q Nk w7)
    ·omega
   ·have hk:=h5 (mq.parts (by omega)).1
    rw [(mq.parts (by omega)).2] at hk
    have Nk:S k:=hk.resolve_right (by omega)
    rcases D.zo nF QX (D.vf (by omega) h9) (by omega) with ⟨w7,_⟩ | ⟨_,w7⟩
    ·omega
    ·exact hS (dj.closed k q Nk w7)
  ·cases bO:h'.get id with
   | none=>rfl
   | some ob=>exact absurd ((ll yN h4.2 id ob bO).1) h5
end
section
variable {S:Nat→Prop} {Tc:Nat→AV}
theorem BE{o:Oper}{d:Nat}(h:Operand.tmp d∈o.op.operands):d∈o.looksAt ops :=
 List.mem_append_left _ (List.mem_filterMap.2 ⟨.tmp d,by simpa using h,rfl⟩)
theorem Fi{o:Oper}{j d:Nat}{want:Bool}(hg:o.guard=some (j,want))(hd:(ops[j]?).bind (·.dst)=some d):d∈o.looksAt ops:=by
 unfold Oper.looksAt
 rw [hg]
 exact List.mem_append_right _ (by simp only [hd];simp)
theorem Dr.wanted(D:Dr P Eqs Sg F rid n ops b T H E)(dj:Dj rid ops b T H E S Tc h){a:Act}{i:Nat}{o:Oper}(ho:ops[i]? = some o)(hS:¬S i)(hb:∀j,qK b i j→S j)(t:cJ Z ψ h w n Tc a){c:Bool}(hw:oM ops (T i) o c) :
  Region.wanted o (yielded ops a.tmps)=c:=by
 unfold oM at hw
 split at hw
 ·rename_i hg;rw [hw];simp [Region.wanted,hg]
 ·rename_i j want hg
  obtain ⟨d,hd,hc⟩:=hw
  have e:=D.looks dj ho hS hb (Fi hg hd)
  rcases hc with ⟨u,h1,h2⟩ | ⟨vs,h1,h2⟩
  ·rw [zh t hg hd (e.trans h1),h2]
  ·rw [wG t hg hd (e.trans h1),h2]
theorem Dr.Ih(D:Dr P Eqs Sg F rid n ops b T H E)(V:Env P Eqs Sg F){i:Nat}{o:Oper}{a:Act}(ho:ops[i]? = some o)(hS:¬S i)(hb:∀j,qK b i j→S j)(dj:Dj rid ops b T H E S Tc h)(j:J (lI rid S) n Z0 w0 O ψ0 Z ψ Tc h a w)
  {K:Act→World→Prop} {Q:Exit→Act→World→Prop} (hk:∀Tc' h' a' w' Z' ψ',Dj rid ops b T H E (fun k=>S k∨k=i) Tc' h'→J (lI rid fun k=>S k∨k=i) n Z0 w0 O ψ0 Z' ψ' Tc' h' a' w'→K a' w'):wpOp P ops Q i K a w:=by
 have nF:=(Array.getElem?_eq_some_iff.1 ho).1
 have Ni:=D.size
 have Qi:=D.abw i o ho
 have aH:∀k,(S k∨k=i)→k<ops.size:=fun k hk=>hk.elim (dj.lt k) (fun e=>e▸nF)
 have HI:∀k j,(S k∨k=i)→qK b k j→S j∨j=i:=fun k j hk hj=>.inl (hk.elim (fun h=>dj.closed k j h hj) (fun e=>hb j (e▸hj)))
 unfold wpOp
 rw [ho]
 simp only []
 cases hE:E i with
 | none =>
  obtain ⟨h1,h2,h3⟩:=D.DG ho hE
  rw [D.wanted dj ho hS hb j.tr h1]
  simp only [Bool.false_eq_true,if_false]
  obtain ⟨t1,t2⟩:=D.No dj ho hS h2
  refine hk _ h _ w Z ψ ⟨aH,HI,D.Fh dj nF hS (fun ⟨v,os,h⟩=>by rw [hE] at h;cases h) (fun ⟨v,os,h⟩=>by rw [hE] at h;cases h),t1,t2⟩ (j.skip Qi fun id hp hr=>.inl (hp hr))
 | some e =>
  obtain ⟨s,hh,h1,h2,h3,h4,h5,h6,h7⟩:=D.QW ho hE
  rw [D.wanted dj ho hS hb j.tr h5]
  simp only [if_true]
  refine .inl ?_
  obtain ⟨t1,t2⟩:=D.No dj ho hS h6
  have hT:∀x∈o.op.operands,av Z ψ h w (ρ s x) (a.eval x)∧aG (lI rid S) (ρ s x):=fun x hx=>by
   cases x with
   | tmp d =>
    have e1:look s d=Tc d:=by rw [h1];exact (D.looks dj ho hS hb (BE hx)).symm
    simp only [ρ,e1]
    exact ⟨j.tr.rep d,j.tm d⟩
   | const v=>exact ⟨EN v,ze _ v⟩
   | global g=>exact ⟨by simp only [ρ,av],by simp only [ρ,aG]⟩
   | func f=>exact ⟨by simp only [ρ,av,an,Act.eval];exact ⟨#[],rfl,rfl⟩,by simp only [ρ,aG,aA]⟩
  have mX:=zj (hh:=[]) j.hm (fun k hk=>hb k hk) h4
  obtain ⟨e0,h3,DF,ta⟩:=h3
  cases e0 with
  | wr v0 MD =>
   simp only [gh] at DF
   subst DF
   have lP:=D.Q0 dj ho hS hb hE
   have QY:=lP.1 hh h2
   subst QY
   refine J.opF V (rid:=rid) (i:=i) (fun _ id hp=>hp.zg (by omega) hS) j Qi (fun x hx=>(hT x hx).1) (fun x hx=>(hT x hx).2) h3 ta (p':=lI rid fun k=>S k∨k=i) (fun id hp hr=>.inl (hp hr)) mX.1 mX.2 fun a' w' Z' ψ' j' => ?_
   exact hk _ _ a' w' Z' ψ' ⟨aH,HI,lP.2,t1,t2⟩ j'
  | val v0 =>
   simp only [gh] at DF
   subst DF
   have abC:∃TX:Heap,(∀id o,TX.get id=some o→h id=some o)∧cH P Eqs Sg F (opId rid i) TX s o some=some (.val v0):=by
    cases hf:mj o.op with
    | true=>exact ⟨[],fun id o h=>by simp [Heap.get] at h,by rw [KX hf (h':=gk hh (gm ops b i s o))];exact h3⟩
    | false =>
     cases Qd:iG o.op with
     | some x =>
      have WN:gm ops b i s o=[]:=by unfold gm;rw [(Cp Qd).2];rfl
      rw [WN] at h3
      have h3':cH P Eqs Sg F (opId rid i) hh s o some=some (.val v0):=h3
      have mr:∀id,(eE (ti (ρ s x)) hh []).get id=if id∈ti (ρ s x) then hh.get id else none:=fun id=>by
       rw [jT]
       split
       ·cases hh.get id<;>rfl
       ·rfl
      refine ⟨eE (ti (ρ s x)) hh [],fun id ob bO => ?_,?_⟩
      ·rw [mr] at bO
       split at bO
       ·rename_i hm;exact D.K2 dj ho Qd hS hb h1 h2 id hm ob bO
       ·cases bO
      ·rw [Ie Qd (hh:=hh) (fun id hm=>by rw [mr,if_pos hm])];exact h3'
     | none=>exact ⟨_,fun id ob bO=>D.seen dj ⟨o,ho,hf,Qd⟩ hS hb h2 id ob (by rw [mU] at bO;split at bO;cases bO;exact bO),h3⟩
   obtain ⟨TX,Ey,Jv⟩:=abC
   refine J.op V (rid:=rid) (i:=i) (fun _ id hp=>hp.zg (by omega) hS) j Qi (fun x hx=>(hT x hx).1) (fun x hx=>(hT x hx).2) Ey Jv (fun v hw he=>by cases he) (p':=lI rid fun k=>S k∨k=i) (fun id hp hr=>.inl (hp hr)) mX.1 mX.2 fun a' w' Z' ψ' j' => ?_
   exact hk _ _ a' w' Z' ψ' ⟨aH,HI,D.Fh dj nF hS (fun ⟨v,os,h⟩=>by rw [hE] at h;cases h) (fun ⟨v,os,h⟩=>by rw [hE] at h;cases h),t1,t2⟩ j'
  | new v0 os =>
   simp only [gh] at DF
   subst DF
   have VH:=D.vf nF ⟨v0,os,hE⟩
   have Ey:∀id ob,(gk hh (gm ops b i s o)).get id=some ob→h id=some ob:=fun id ob bO=>D.seen dj VH hS hb h2 id ob (by rw [mU] at bO;split at bO;cases bO;exact bO)
   refine J.op V (rid:=rid) (i:=i) (fun _ id hp=>hp.zg (by omega) hS) j Qi (fun x hx=>(hT x hx).1) (fun x hx=>(hT x hx).2) Ey h3 (fun v hw he=>by cases he) (p':=lI rid fun k=>S k∨k=i) (fun id hp hr=>.inl (hp hr)) mX.1 mX.2 fun a' w' Z' ψ' j' => ?_
   exact hk _ _ a' w' Z' ψ' ⟨aH,HI,D.Nr dj ho hS hb hE,t1,t2⟩ j'
theorem Dr.done(D:Dr P Eqs Sg F rid n ops b T H E)(dj:Dj rid ops b T H E S Tc h)(eQ:∀k,k<ops.size→S k):Tc=T ops.size∧h=H ops.size:=by
 constructor
 ·funext d
  by_cases hex:∃(j:Nat) (oj:Oper),ops[j]? = some oj∧oj.dst=some d
  ·obtain ⟨j,oj,hj,hd⟩:=hex
   have Hm:=(Array.getElem?_eq_some_iff.1 hj).1
   rw [dj.Nl j oj d (eQ j Hm) hj hd,D.DH hj hd ops.size (Nat.le_refl _) Hm]
  ·rw [dj.told d fun j o' _ mu Nn=>hex ⟨j,o',mu,Nn⟩,D.tL ops.size (Nat.le_refl _) fun k o' _ mu Nn=>hex ⟨k,o',mu,Nn⟩]
 ·obtain ⟨q,hq,_,ij,eR⟩:=dj.heap
  have:q=ops.size:=by
   rcases Nat.lt_or_ge q ops.size with h1 | h1
   ·exact absurd (eQ q h1) (ij h1).2
   ·omega
  subst this
  funext id
  by_cases lH:lI rid S id
  ·exact (eR id).1 lH
  ·rw [(eR id).2 lH]
   symm
   apply Classical.not_not.1
   intro bj
   apply lH
   intro hr
   obtain ⟨j,h1,h2,h3,_⟩:=D.names ops.size (Nat.le_refl _) id bj hr
   rw [(h1.parts h3).2]
   exact eQ j h2
def ln(m:Nat)(cf:Array Bool):Nat:=((List.range m).filter fun i => !cf.getD i false).length
theorem DI{m:Nat}{cf:Array Bool}{i:Nat}(hi:i<m)(hs:i<cf.size)(hn:cf.getD i false=false):ln m cf=ln m (cf.setIfInBounds i true)+1:=by
 unfold ln
 have key:∀(l:List Nat),l.Nodup→i∈l→(l.filter fun k => !cf.getD k false).length=(l.filter fun k => !(cf.setIfInBounds i true).getD k false).length+1:=by
  intro l
  induction l with
  | nil=>intro _ h;cases h
  | cons a r ih =>
   intro Ex hm
   rw [List.nodup_cons] at Ex
   rcases List.mem_cons.1 hm with rfl | hm
   ·have h2:(r.filter fun k => !cf.getD k false)=(r.filter fun k => !(cf.setIfInBounds i true).getD k false):=by
     apply List.filter_congr
     intro k hk
     have bj:i≠k:=fun e=>Ex.1 (e▸hk)
     rw [getD_set_ne false bj]
    rw [List.filter_cons,List.filter_cons,hn]
    have h3:(cf.setIfInBounds i true).getD i false=true:=by simp [hs]
    rw [h3,h2];simp
   ·have bj:i≠a:=fun e=>Ex.1 (e▸hm)
    rw [List.filter_cons,List.filter_cons,getD_set_ne false bj]
    split
    ·simp only [List.length_cons];rw [ih Ex.2 hm]
    ·exact ih Ex.2 hm
 exact key _ List.nodup_range (List.mem_range.2 hi)
theorem Dr.any(D:Dr P Eqs Sg F rid n ops b T H E)(V:Env P Eqs Sg F){Q:Exit→Act→World→Prop}(hQ:∀Z ψ a w,J (lI rid fun k=>k<ops.size) n Z0 w0 O ψ0 Z ψ (T ops.size) (H ops.size) a w→Q .normal a w) :
  ∀(fuel:Nat) (cf:Array Bool) (Tc:Nat→AV) (h:Hp) (a:Act) (w:World) (Z:Nat→Prop) (ψ:Nat→Value),cf.size=ops.size→ln ops.size cf=fuel →
   Dj rid ops b T H E (fun k=>cf.getD k false=true) Tc h→J (lI rid fun k=>cf.getD k false=true) n Z0 w0 O ψ0 Z ψ Tc h a w→wpAny P .any ops Q fuel cf a w
 | 0,cf,Tc,h,a,w,Z,ψ,hs,hu,dj,j=>by
  have eQ:∀k,k<ops.size→cf.getD k false=true:=fun k hk=>by
   unfold ln at hu
   have:=List.filter_eq_nil_iff.1 (List.eq_nil_of_length_eq_zero hu) k (List.mem_range.2 hk)
   simpa using this
  refine ⟨?_,?_⟩
  ·apply List.eq_nil_iff_forall_not_mem.2
   intro i hi
   obtain ⟨h1,o,h2,_⟩:=mem_ready.1 hi
   have h3:=(Array.getElem?_eq_some_iff.1 h2).1
   have h4:=eQ i h3
   rw [Array.getD_eq_getD_getElem?,Array.getElem?_eq_getElem (by omega)] at h1 h4
   simp at h1 h4
   rw [h1] at h4;cases h4
  ·obtain ⟨e1,e2⟩:=D.done dj eQ
   subst e1;subst e2
   refine hQ Z ψ a w ⟨j.ok,j.tr,fun d=>(j.tm d).imp fun id h1 h2=>dj.lt _ (h1 h2),fun id ty cs hb=>(j.hm id ty cs hb).imp fun id h1 h2=>dj.lt _ (h1 h2)⟩
 | fuel+1,cf,Tc,h,a,w,Z,ψ,hs,hu,dj,j=>by
  have look:∀i,i<ops.size→cf.getD i true=cf.getD i false:=fun i hi=>by
   rw [Array.getD_eq_getD_getElem?,Array.getD_eq_getD_getElem?,Array.getElem?_eq_getElem (by omega)];rfl
  refine ⟨fun hr => ?_,fun i hi => ?_⟩
  ·exfalso
   have hex:∃i,i<ops.size∧cf.getD i false=false:=by
    apply Classical.byContradiction
    intro hn
    unfold ln at hu
    rw [List.filter_eq_nil_iff.2] at hu
    ·simp at hu
    ·intro k hk
     have:=fun h=>hn ⟨k,List.mem_range.1 hk,h⟩
     cases hl:cf.getD k false with
     | true=>simp
     | false=>exact absurd hl this
   have key:∀i,i<ops.size→cf.getD i false=false→False:=by
    intro i
    induction i using Nat.strongRecOn with
    | ind i ih =>
     intro hi hl
     have iM:i∈Region.ready .any ops cf:=by
      refine mem_ready.2 ⟨by rw [look i hi];exact hl,_,Array.getElem?_eq_getElem hi,fun e he KN => ?_⟩
      have T1:=Ic D.Mk (Array.getElem?_eq_getElem hi) (by simpa using he) KN
      cases hle:cf.getD e.on false with
      | true=>rfl
      | false=>exact (ih e.on T1 (by omega) hle).elim
     rw [hr] at iM;cases iM
   obtain ⟨i,h1,h2⟩:=hex
   exact key i h1 h2
  ·obtain ⟨h1,o,ho,eQ⟩:=mem_ready.1 hi
   have nF:=(Array.getElem?_eq_some_iff.1 ho).1
   have hn:cf.getD i false=false:=by rw [←look i nF];exact h1
   have hS:¬(cf.getD i false=true):=by rw [hn];simp
   have hb:∀k,qK b i k→cf.getD k false=true:=fun k hk=>by
    obtain ⟨e,he,KN,h2⟩:=(xD D.Mk ho).1 hk
    have h3:=eQ e (by simpa using he) KN
    rcases h2 with rfl | h2
    ·exact h3
    ·exact dj.closed e.on k h3 h2
   refine D.Ih V ho hS hb dj j fun Tc' h' a' w' Z' ψ' dj' j' => ?_
   have heq:(fun k=>cf.getD k false=true∨k=i)=(fun k=>(cf.setIfInBounds i true).getD k false=true):=by
    funext k
    apply propext
    by_cases e:i=k
    ·subst e
     simp [show i<cf.size by omega]
    ·rw [getD_set_ne false e]
     constructor
     ·rintro (h | h)
      ·exact h
      ·exact absurd h.symm e
     ·exact .inl
   rw [heq] at dj' j'
   exact D.any V hQ fuel _ Tc' h' a' w' Z' ψ' (by simpa using hs) (by have:=DI nF (by omega) hn;omega) dj' j'
end
end Go.Vs
namespace Go.Vs
variable {P:Program} {Eqs:TypeId→Option K} {Sg:FuncId→Option aJ} {F:(f:FuncId)→(g:aJ)→g.A→Option g.B} {R:Type}
variable {Z Z' Z0:Nat→Prop} {ψ ψ' ψ0:Nat→Value} {h h':Hp} {w w' w0:World} {B0:Nat} {O N:Nat→Prop}
theorem zr(f:AV→AV)(hf:f .no=.no):∀(l:List (Nat×AV)) (d:Nat),look (l.map fun p=>(p.1,f p.2)) d=f (look l d)
 | [],d=>by simp [look,hf]
 | (i,v)::r,d=>by
  simp only [List.map_cons,look]
  split
  ·rfl
  ·exact zr f hf r d
section
variable {rid:Nat}
mutual
theorem vh:∀{a:AV} {v:Value},av Z ψ h w a v→av Z ψ h w (bz rid a) v
 | .ref id s i off,v,hr=>by
  simp only [bz]
  split
  ·simp only [av]
  ·exact hr
 | .bF id,v,hr=>by
  simp only [bz]
  split
  ·simp only [av]
  ·exact hr
 | .fn f cap,v,hr=>by
  simp only [bz,av] at hr ⊢
  obtain ⟨vs,e,hl⟩:=hr
  exact ⟨vs,e,lp hl⟩
 | .agg cs,v,hr=>by
  simp only [bz,av] at hr ⊢
  obtain ⟨vs,e,hl⟩:=hr
  exact ⟨vs,e,lp hl⟩
 | .mH cs,v,hr=>by
  simp only [bz,av] at hr ⊢
  obtain ⟨vs,e,hl⟩:=hr
  exact ⟨vs,e,lp hl⟩
 | .no,v,hr=>by simpa only [bz] using hr
 | .bool _,v,hr=>by simpa only [bz] using hr
 | .int _ _,v,hr=>by simpa only [bz] using hr
 | .str _,v,hr=>by simpa only [bz] using hr
 | .kR,v,hr=>by simpa only [bz] using hr
 | .fz,v,hr=>by simpa only [bz] using hr
 | .fp _ _ _,v,hr=>by simpa only [bz] using hr
 | .sl _ _ _,v,hr=>by simpa only [bz] using hr
 | .mp _ _ _,v,hr=>by simpa only [bz] using hr
theorem lp:∀{a:List AV} {v:List Value},an Z ψ h w a v→an Z ψ h w (kV rid a) v
 | [],v,hr=>by simpa only [kV] using hr
 | x::r,v,hr=>by
  simp only [kV,an] at hr ⊢
  obtain ⟨u,us,e,h1,h2⟩:=hr
  exact ⟨u,us,e,vh h1,lp h2⟩
end
mutual
theorem od:∀(a:AV),aG (lI rid fun _=>False) (bz rid a)
 | .ref id s i off=>by
  simp only [bz]
  split
  ·simp only [aG]
  ·rename_i hn;simp only [aG];exact fun h=>absurd h hn
 | .bF id=>by
  simp only [bz]
  split
  ·simp only [aG]
  ·rename_i hn;simp only [aG];exact fun h=>absurd h hn
 | .fn f cap=>by simp only [bz,aG];exact il cap
 | .agg cs=>by simp only [bz,aG];exact il cs
 | .mH cs=>by simp only [bz,aG];exact il cs
 | .no=>by simp only [bz,aG]
 | .bool _=>by simp only [bz,aG]
 | .int _ _=>by simp only [bz,aG]
 | .str _=>by simp only [bz,aG]
 | .kR=>by simp only [bz,aG]
 | .fz=>by simp only [bz,aG]
 | .fp _ _ _=>by simp only [bz,aG]
 | .sl _ _ _=>by simp only [bz,aG]
 | .mp _ _ _=>by simp only [bz,aG]
theorem il:∀(a:List AV),aA (lI rid fun _=>False) (kV rid a)
 | []=>by simp only [kV,aA]
 | x::r=>by simp only [kV,aA];exact ⟨od x,il r⟩
end
theorem get_map(f:Ob→Ob):∀(hh:Heap) (i:Nat),Heap.get (hh.map fun p=>(p.1,f p.2)) i=(hh.get i).map f
 | [],i=>rfl
 | (j,o)::r,i=>by
  simp only [List.map_cons,Heap.get]
  split
  ·rfl
  ·exact get_map f r i
def lZ(rid:Nat)(hh:Heap):Heap:=(hh.filter fun p=>p.1 / 32768 != rid+1).map fun p=>(p.1,yu rid p.2)
theorem K3(hh:Heap)(i:Nat):(lZ rid hh).get i=if i / 32768=rid+1 then none else (hh.get i).map (yu rid):=by
 unfold lZ
 rw [get_map (yu rid),get_filter (fun i=>i / 32768 != rid+1)]
 by_cases e:i / 32768=rid+1<;>simp [e]
theorem g6{hh:Heap}{i:Nat}{o:Ob}(hg:(lZ rid hh).get i=some o):i / 32768≠rid+1∧∃o',hh.get i=some o'∧o=yu rid o':=by
 rw [K3] at hg
 split at hg
 ·cases hg
 ·rename_i hn
  cases h0:hh.get i with
  | none=>rw [h0] at hg;cases hg
  | some o'=>rw [h0] at hg;cases hg;exact ⟨hn,o',rfl,rfl⟩
theorem jW{hh:Heap}{i:Nat}(hg:(lZ rid hh).get i≠none):hh.get i≠none:=by
 obtain ⟨o,ho⟩:=Option.ne_none_iff_exists'.1 hg
 obtain ⟨_,o',h1,_⟩:=g6 ho
 rw [h1];simp
theorem Good.kl{hh:Heap}(g:Good Z ψ hh.get w B0 O):Good Z ψ (lZ rid hh).get w B0 O:=by
 refine ⟨fun id ty cs hb => ?_,fun id ok xs hb => ?_,fun id b h1 h2=>g.live id b (jW h1) h2,fun id lK b h1 h2 h3 h4=>g.apart id lK b (jW h1) (jW h2) h3 h4,g.jk⟩
 ·obtain ⟨_,o',h1,h2⟩:=g6 hb
  cases o' with
  | own ok xs=>cases h2
  | box w5 cs' =>
   cases h2
   obtain ⟨gg,vs,h3,h4,h5,h6⟩:=g.box id ty cs' h1
   exact ⟨gg,vs,h3,h4,lp (h5.less (fun _ h=>h) (cg.refl _ _) fun i hi=>⟨jW hi,rfl⟩),h6⟩
 ·obtain ⟨_,o',h1,h2⟩:=g6 hb
  cases o' with
  | own Vz Wb=>cases h2;exact g.row id _ _ h1
  | box w5 cs'=>cases h2
theorem Ok.sub{hp:Hp}(k:Ok Z0 w0 O ψ0 Z ψ h w)(g:Good Z ψ hp w w0.heap.size O)(hn:∀id,hp id≠none→h id≠none):Ok Z0 w0 O ψ0 Z ψ hp w :=
 ⟨g,k.fg,k.dQ,k.os,k.tape,k.output,k.size,k.block,fun i hi bj=>k.fix i hi (hn i bj)⟩
end
theorem Good.zt(g:Good Z ψ h w B0 O)(e:w'.heap=w.heap):Good Z ψ h w' B0 O:=by
 have sm:cg Z w w':=fun b _=>by rw [e]
 refine ⟨fun id ty cs hb => ?_,fun id ok xs hb => ?_,g.live,g.apart,fun b hb=>by rw [e];exact g.jk b hb⟩
 ·obtain ⟨gg,vs,h1,h2,h3,h4⟩:=g.box id ty cs hb
  exact ⟨gg,vs,h1,by rw [e];exact h2,h3.less (fun _ h=>h) sm (fun i hi=>⟨hi,rfl⟩),h4⟩
 ·exact (g.row id ok xs hb).kept (fun _ h=>h) sm (fun gg _=>by rw [e])
theorem Ok.zt(k:Ok Z0 w0 O ψ0 Z ψ h w)(e:w'.heap=w.heap)(e1:w'.os=w.os)(e2:w'.tape=w.tape)(e3:w'.output=w.output):Ok Z0 w0 O ψ0 Z ψ h w' :=
 ⟨k.dL.zt e,k.fg,k.dQ,e1.trans k.os,e2.trans k.tape,e3.trans k.output,by rw [e];exact k.size,fun b hb ho=>by rw [e];exact k.block b hb ho,k.fix⟩
theorem cJ.zt{n:Nat}{T:Nat→AV}{a:Act}(t:cJ Z ψ h w n T a)(e:w'.heap=w.heap):cJ Z ψ h w' n T a :=
 ⟨fun d=>(t.rep d).less (fun _ h=>h) (fun b _=>by rw [e]) (fun i hi=>⟨hi,rfl⟩),t.size,t.defers⟩
theorem DJ(V:Env P Eqs Sg F)(hm:P.follows .mixedOrders=true){n rid:Nat}{ops:Array Oper}{draw:Bool}{st:St}{kk:St→Option R}{r:R}{a:Act}{Q:Exit→Act→World→Prop}
  (hx:gS P Eqs Sg F n rid ops draw st kk=some r) (k:Ok Z0 w0 O ψ0 Z ψ st.heap.get w) (t:cJ Z ψ st.heap.get w n (look st.tmps) a)
  (hQ:∀dP Z ψ a w,kk dP=some r→Ok Z0 w0 O ψ0 Z ψ dP.heap.get w→cJ Z ψ dP.heap.get w n (look dP.tmps) a→Q .normal a w):(Code.region rid ops draw).wp P Q a w:=by
 obtain ⟨b,VI,hx⟩:∃b,b=(if draw then Region.before ops else #[])∧(if (ops.all fun o=>gR n o)&&(!draw || (tg ops b&&(yq ops b&&bZ (ops.toList.filterMap (·.dst)))))&&decide (ops.size≤128) then
  bw P Eqs Sg F rid draw ops b (ops.toList.zipIdx.map fun p=>(p.2,p.1)) (kl draw rid ops st) kk else none)=some r:=⟨_,rfl,hx⟩
 split at hx
 ·rename_i hc
  simp only [Bool.and_eq_true,decide_eq_true_eq] at hc
  obtain ⟨⟨kf,hdr⟩,ia⟩:=hc
  have Cr:∀(i:Nat) (o:Oper),ops[i]? = some o→gR n o=true:=fun i o ho=>Array.all_eq_true_iff_forall_mem.1 kf o (Array.mem_of_getElem? ho)
  have pk:Ok Z0 w0 O ψ0 Z ψ (lZ rid st.heap).get w:=k.sub k.dL.kl fun id=>jW
  have pt:cJ Z ψ (lZ rid st.heap).get w n (fun d=>bz rid (look st.tmps d)) a :=
   ⟨fun d=>vh ((t.rep d).less (fun _ h=>h) (cg.refl _ _) fun i hi=>⟨jW hi,rfl⟩),t.size,t.defers⟩
  have pm:rI (lI rid fun _=>False) (lZ rid st.heap).get:=fun i ty cs hb=>by
   obtain ⟨_,o',h1,h2⟩:=g6 hb
   cases o' with
   | own ok xs=>cases h2
   | box w5 cs'=>cases h2;exact il cs'
  have Cs:look (st.tmps.map fun p=>(p.1,bz rid p.2))=fun d=>bz rid (look st.tmps d):=funext fun d=>zr (bz rid) (by simp only [bz]) st.tmps d
  cases draw with
  | false =>
   refine wp_region ?_
   rw [←Cl ops]
   cases Nc:ops.any (makes ·.op) with
   | false =>
    have hp:kl false rid ops st=st:=by unfold kl;rw [Nc];rfl
    rw [hp] at hx
    refine kJ V (rid:=rid) (n:=n) (b:=_) false (fun _ i o ho => ?_) ia Cr hQ _ 0 st Z ψ a w (mW ops) hx ⟨k,t,fun d => ?_,fun i ty cs hb => ?_⟩
    ·have:=Array.any_eq_false'.1 Nc o (Array.mem_of_getElem? ho)
     simpa using this
    ·exact (aG.top _).imp fun id _ h=>by cases h
    ·exact (aA.top _).imp fun id _ h=>by cases h
   | true =>
    have hp:kl false rid ops st={ tmps:=st.tmps.map fun p=>(p.1,bz rid p.2),heap:=lZ rid st.heap }:=by unfold kl;rw [Nc];rfl
    rw [hp] at hx
    refine kJ V (rid:=rid) (n:=n) (b:=_) true (fun h=>by cases h) ia Cr hQ _ 0 _ Z ψ a w (mW ops) hx ⟨pk,by rw [Cs];exact pt,fun d => ?_,fun i ty cs hb => ?_⟩
    ·rw [Cs]
     exact (od _).imp fun id h1 _ h2=>(h1 h2).elim
    ·exact (pm i ty cs hb).imp fun id h1 _ h2=>(h1 h2).elim
  | true =>
   have hp:kl true rid ops st={ tmps:=st.tmps.map fun p=>(p.1,bz rid p.2),heap:=lZ rid st.heap }:=by unfold kl;rw [Bool.true_or];rfl
   rw [hp] at hx
   simp only [Bool.not_true,Bool.false_or,Bool.and_eq_true] at hdr
   obtain ⟨abE,WS,Ex⟩:=hdr
   refine wp_region_any hm ?_
   obtain ⟨T,H,E,h1,h2,h3,dP,h4,h5,h6⟩:=trace (kk:=kk) (r:=r) (ops.toList.zipIdx.map fun p=>(p.2,p.1)) 0 _ (mW ops) (by simp) hx
   rw [Cs] at h1
   have D:Dr P Eqs Sg F rid n ops b T H E:=⟨ia,abE,WS,Cr,Ex,fun k o ho=>h3 k o (Nat.zero_le _) ho,fun id bO=>by
    rw [h2] at bO
    obtain ⟨o,ho⟩:=Option.ne_none_iff_exists'.1 bO
    exact (g6 ho).1⟩
   have wz:∀k,¬((Array.replicate ops.size false).getD k false=true):=fun k hk=>by
    rw [Array.getD_eq_getD_getElem?,Array.getElem?_replicate] at hk
    split at hk<;>simp at hk
   rw [show max 0 ops.size=ops.size by omega] at h5 h6
   have w2:({ w with drawn:=w.drawn+1 }:World).heap=w.heap:=rfl
   refine D.any V (Z0:=Z0) (w0:=w0) (O:=O) (ψ0:=ψ0) (fun Z ψ a w j=>hQ dP Z ψ a w h4 (by rw [h6];exact j.ok) (by rw [h5,h6];exact j.tr)) ops.size _ (T 0) (H 0) a _ Z ψ (by simp) ?_ ?_ ?_
   ·unfold ln
    rw [List.filter_eq_self.2,List.length_range]
    intro k _
    have:=wz k
    simpa using this
   ·refine ⟨fun i hi=>(wz i hi).elim,fun i j hi=>(wz i hi).elim,?_,fun j o d hj=>(wz j hj).elim,fun d _=>rfl⟩
    obtain ⟨q,hq1,hq2,hq3⟩:=Nq E (fun k=>(Array.replicate ops.size false).getD k false=true) ops.size
    refine ⟨q,hq1,hq2,hq3,fun id=>⟨fun lH => ?_,fun lH => ?_⟩⟩
    ·symm
     refine D.xH q (Nat.zero_le _) hq1 (fun k _ hk hw=>(wz k (hq2 k hk hw)).elim) id fun k _ hk _ ho => ?_
     have:=lH (ho.parts (by omega)).1
     exact wz _ this
    ·rw [h2]
     apply Classical.not_not.1
     intro bj
     obtain ⟨o,ho⟩:=Option.ne_none_iff_exists'.1 bj
     exact lH fun hr=>absurd hr (g6 ho).1
   ·rw [h1,h2]
    refine ⟨pk.zt w2 rfl rfl rfl,pt.zt w2,fun d=>(od _).imp fun id h3 h4=>(h3 h4).elim,fun i ty cs hb=>(pm i ty cs hb).imp fun id h3 h4=>(h3 h4).elim⟩
 ·cases hx
end Go.Vs
