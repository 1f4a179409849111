/- The value semantics is sound -/
import Derived.Test.YtpkfpbpbkabkdaaGreatEngineB
import Derived.Maps.RangeRun
import Derived.ChangeMaps
set_option linter.unusedSimpArgs false
set_option linter.unusedVariables false
namespace Go.Vs
variable {P:Program} {Z Z':Nat→Prop} {ψ ψ':Nat→Value} {h h':Hp} {w w':World} {B0:Nat} {O:Nat→Prop} {N:Nat→Prop}
theorem fb:∀(k:K) (x:k.T),(enc k x).length=k.sz
 |.int _,_=>rfl
 |.bool,_=>rfl
 |.str,_=>rfl
 |.sl _,_=>rfl
 |.mp _ _,_=>rfl
 |.fn _,_=>rfl
 |.pair a b,x=>by simp only[enc,List.length_append,K.sz];rw[fb a,fb b]
 |.one k,x=>by simp only[enc,K.sz];exact fb k x
theorem rl(hh:Heap):∀(k:K) (x:k.T),(enc k x).map (cG hh)=enc k x
 |.int _,_=>rfl
 |.bool,_=>rfl
 |.str,_=>rfl
 |.sl _,_=>rfl
 |.mp _ _,_=>rfl
 |.fn _,_=>rfl
 |.pair a b,x=>by simp only[enc,List.map_append];rw[rl hh a,rl hh b]
 |.one k,x=>by simp only[enc];exact rl hh k x
theorem mf:∀(k:K) (x:k.T) (id:Nat),AV.bC id∉enc k x
 |.int _,_,_=>by simp[enc]
 |.bool,_,_=>by simp[enc]
 |.str,_,_=>by simp[enc]
 |.sl _,_,_=>by simp[enc]
 |.mp _ _,_,_=>by simp[enc]
 |.fn _,_,_=>by simp[enc]
 |.pair a b,x,id=>by
  simp only[enc,List.mem_append];rintro(h|h)
  ·exact mf a _ id h
  ·exact mf b _ id h
 |.one k,x,id=>by simp only[enc];exact mf k x id
theorem xe{hh:Heap}{ok:OK}{n:Nat}{xs:ok.T}(hg:hh.get n=some (.own ok xs)):dN hh ok (.bC n)=some xs:=by simp[dN,hg]
theorem pQ{hh:Heap}:∀(de:List CK) (n:Nat) (x:qO de),(∀e∈aS de n x,hh.get e.1=some e.2)→cH de hh (az de n x)=some x
 |[],n,x,_=>rfl
 |.val k::r,n,x,hg=>by
  have h1:(az (.val k::r) n x).take k.sz=enc k x.1:=by simp only[az];rw[←fb k x.1,List.take_left]
  have h2:(az (.val k::r) n x).drop k.sz=az r (n+1) x.2:=by simp only[az];rw[←fb k x.1,List.drop_left]
  have e:cH (.val k::r) hh (az (.val k::r) n x)=(match dg k (((az (.val k::r) n x).take k.sz).map (cG hh)),cH r hh ((az (.val k::r) n x).drop k.sz) with
   |some x,some y=>some ((x,y):k.T×qO r)
   |_,_=>none):=by generalize az (.val k::r) n x=l;cases l<;>rfl
  have h4:dg k (((az (.val k::r) n x).take k.sz).map (cG hh))=some x.1:=by rw[h1];exact(congrArg (dg k) (rl hh k x.1)).trans (um k x.1)
  have h5:cH r hh ((az (.val k::r) n x).drop k.sz)=some x.2:=by rw[h2];exact pQ r (n+1) x.2 hg
  rw[e];generalize dg k (((az (.val k::r) n x).take k.sz).map (cG hh))=o1 at h4 ⊢;generalize cH r hh ((az (.val k::r) n x).drop k.sz)=o2 at h5 ⊢;subst h4;subst h5;rfl
 |.own ok::r,n,x,hg=>by
  simp only[aS]at hg;have h1:=xe (hg _ abZ);have h2:=pQ r (n+1) x.2 (fun e he=>hg e (abq _ he));have e:cH (.own ok::r) hh (az (.own ok::r) n x)=(match dN hh ok (.bC n),cH r hh (az r (n+1) x.2) with
   |some x,some y=>some ((x,y):ok.T×qO r)
   |_,_=>none):=rfl
  rw[e,h1,h2];rfl
theorem NF{hh:Heap}(b:BK){i n:Nat}{x:b.T}(hg:∀e∈jo b i n x,hh.get e.1=some e.2):qm b hh i=some x:=by
 cases b with
 |box ty c =>
  simp only[jo]at hg;have h1:As hh i ty=some (az c n x):=by unfold As;rw[hg _ List.mem_cons_self];simp
  simp only[qm,h1];exact pQ (hh:=hh) c n x (fun e he=>hg e (abq _ he))
 |own ok=>exact xe (hg _ (by simp only[jo];exact abZ))
theorem yy{hh:Heap}:∀(bs:List BK) (is:List Nat) (n:Nat) (x:wM bs),is.length=bs.length→(∀e∈bm bs is n x,hh.get e.1=some e.2)→cS bs hh is=some x
 |[],[],n,x,_,_=>rfl
 |[],_::_,n,x,hl,_=>by simp at hl
 |_::_,[],n,x,hl,_=>by simp at hl
 |b::r,i::is,n,x,hl,hg=>by
  simp only[bm]at hg;have h2:=NF b (fun e he=>hg e (abK _ he));have h3:=yy r is (n+16) x.2 (by simpa using hl) (fun e he=>hg e (abx _ he));have e:cS (b::r) hh (i::is)=(match qm b hh i,cS r hh is with
    |some x,some y=>some ((x,y):b.T×wM r)
    |_,_=>none):=rfl
  rw[e,h2,h3];rfl
theorem xf{i:Nat}{o:Ob}:∀{hh:Heap},b6 (hh.map (·.1))=true→(i,o)∈hh→hh.get i=some o
 |[],_,h=>by cases h
 |(j,o')::r,hn,h=>by
  obtain⟨h1,h2⟩:=nc hn;simp only[Heap.get];rcases abw.1 h with e|h
  ·cases e;simp
  ·rw[if_neg,xf h2 h];rintro rfl;exact h1 (acx.2 ⟨_,h,rfl⟩)
theorem zP{hh:Heap}:∀(de:List CK) (n:Nat) (x:qO de) (id:Nat),AV.bC id∉ql de (az de n x)
 |[],n,x,id=>by simp[az,ql]
 |.val k::r,n,x,id=>by
  have h1:(az (.val k::r) n x).take k.sz=enc k x.1:=by simp only[az];rw[←fb k x.1,List.take_left]
  have h2:(az (.val k::r) n x).drop k.sz=az r (n+1) x.2:=by simp only[az];rw[←fb k x.1,List.drop_left]
  have e:ql (.val k::r) (az (.val k::r) n x)=(az (.val k::r) n x).take k.sz++ql r ((az (.val k::r) n x).drop k.sz):=by generalize az (.val k::r) n x=l;cases l<;>rfl
  rw[e,h1,h2,List.mem_append];rintro(h|h)
  ·exact mf k x.1 id h
  ·exact zP (hh:=hh) r (n+1) x.2 id h
 |.own ok::r,n,x,id=>by simp only[az,ql];exact zP (hh:=hh) r (n+1) x.2 id
theorem Bc{hh:Heap}:∀(bs:List BK) (is:List Nat) (n:Nat) (x:wM bs) (id:Nat),(∀e∈bm bs is n x,hh.get e.1=some e.2)→AV.bC id∉fX bs hh is
 |[],is,n,x,id,_=>by cases is<;>simp[fX]
 |_::_,[],n,x,id,_=>by simp[fX]
 |b::r,i::is,n,x,id,hg=>by
  simp only[bm]at hg;simp only[fX,List.mem_append];rintro(h|h)
  ·cases b with
   |box ty c =>simp only[Au]at h;rw[hg (i,.box ty (az c n x.1)) (List.mem_append_left _ (by simp only[jo];exact List.mem_cons_self))]at h;exact zP (hh:=hh) c n x.1 id h
   |own ok=>simp[Au]at h
  ·exact Bc r is (n+16) x.2 id (fun e he=>hg e (abx _ he)) h
theorem Ed{hh:Heap}:∀(cap:List AV) (is is':List Nat) (vs:List Value),jQ cap=some is→is'.length=is.length→(∀p∈is.zip is',hh.get p.1≠none∧(h' p.2≠none→ψ' p.2=ψ p.1)) → an Z ψ hh.get w cap vs→an Z' ψ' h' w (is'.map fun i=>.ref i 0 0 0) vs
 |[],is,is',vs,h1,hl,_,hr=>by
  simp only[jQ]at h1
  cases h1
  cases is' with
  |nil=>simpa only[List.map_nil,an] using hr
  |cons c r=>simp at hl
 |v::cap,is,is',vs,h1,hl,hp,hr=>by
  simp only[jQ]at h1
  split at h1
  ·rename_i i is1 h3 h4
   cases h1
   cases is' with
   |nil=>simp at hl
   |cons c r =>simp only[List.zip_cons_cons]at hp;simp only[List.map_cons,an]at hr ⊢;obtain⟨u,us,rfl,h7,h8⟩:=hr;obtain⟨sz,rfl⟩:=pM h3;obtain⟨h5,h6⟩:=hp _ abZ;exact⟨u,us,rfl,zN h7 h5 h6,Ed cap is1 r us h4 (by simpa using hl) (fun p h=>hp p (abq _ h)) h8⟩
  ·cases h1
theorem tF:∀(cap:List AV) (is:List Nat),jQ cap=some is→is.length=cap.length
 |[],is,h=>by simp only[jQ]at h;cases h;rfl
 |v::cap,is,h=>by
  simp only[jQ]at h
  split at h
  ·rename_i i is1 h3 h4
   cases h
   simp[tF cap is1 h4]
  ·cases h
theorem tG:∀(cs:List AV) (is:List Nat),pj cs=some is→is.length=cs.length
 |[],is,h=>by simp only[pj]at h;cases h;rfl
 |c::r,is,h=>by
  cases c<;>simp only[pj]at h<;>first|(cases h;done)|skip
  split at h
  ·rename_i is' h1
   cases h
   simp[tG r is' h1]
  ·cases h
theorem Ee{hh:Heap}:∀(cs:List AV) (is gG:List Nat) (vs:List Value),pj cs=some is→gG.length=is.length→(∀p∈is.zip gG,hh.get p.1≠none∧(h' p.2≠none→ψ' p.2=ψ p.1)) → an Z ψ hh.get w cs vs→an Z' ψ' h' w (gG.map .bC) vs
 |[],is,gG,vs,h,hl,hp,hr=>by
  simp only[pj]at h
  cases h
  have:gG=[]:=ace hl;subst this;simpa only[List.map_nil,an] using hr
 |c::r,is,gG,vs,h,hl,hp,hr=>by
  cases c<;>simp only[pj]at h<;>first|(cases h;done)|skip
  rename_i i
  split at h
  ·rename_i is' h1
   cases h
   cases gG with
   |nil=>simp at hl
   |cons i' gG =>simp only[List.zip_cons_cons]at hp;obtain⟨h5,h6⟩:=hp _ abZ;simp only[List.map_cons,an]at hr ⊢;obtain⟨u,us,rfl,h3,h4⟩:=hr;refine⟨u,us,rfl,?_,Ee r is' gG us h1 (by simpa using hl) (fun p P7=>hp p (abq _ P7)) h4⟩;simp only[au]at h3 ⊢;exact⟨h3.1,fun hn=>(h3.2 h5).trans (h6 hn).symm⟩
  ·cases h
theorem lG{hh:Heap}(g:Good Z ψ hh.get w B0 O)(hz:∀b,Z b→Z' b):∀(ps:List PK) (ids gG:List Nat) (s:Nat) (vs:List AV) (us:List Value) (x:GR (k0 ps)),gG.length=ids.length→cy ps vs=some ids→eF ps hh vs=some x →(∀id b,AV.bC id∈c9 ps vs→hh.get id≠none→ob (ψ id)=some b→Z' b)→(∀p∈ids.zip gG,hh.get p.1≠none∧(h' p.2≠none→ψ' p.2=ψ p.1))→an Z ψ hh.get w vs us→an Z' ψ' h' w ((aN ps gG s x).map (·.2)) us
 |[],ids,gG,s,vs,us,x,hl,hi,hv,hf,hp,hr=>by
  cases vs with
  |nil=>simpa only[aN,List.map_nil,an] using hr
  |cons a r=>simp[cy]at hi
 |.val k::ps,ids,gG,s,vs,us,x,hl,hi,hv,hf,hp,hr=>by
  cases vs with
  |nil=>simp[cy]at hi
  |cons a r =>simp only[cy]at hi;simp only[an]at hr;obtain⟨u,iI,rfl,h3,h4⟩:=hr;obtain⟨h1,h2⟩:=yv hv;simp only[c9]at hf;simp only[aN,List.map_cons,an];exact⟨u,iI,rfl,si g hz (fun id b br=>hf id b (abK _ br)) h1 h3,lG g hz ps ids gG (s+1) r iI x.2 hl hi h2 (fun id b br=>hf id b (abx _ br)) hp h4⟩
 |.ref::ps,ids,gG,s,vs,us,x,hl,hi,hv,hf,hp,hr=>by
  cases vs with
  |nil=>simp[cy]at hi
  |cons a r =>
   simp only[cy]at hi
   split at hi
   ·rename_i i is h1 h2
    cases hi
    simp only[an]at hr;obtain⟨u,iI,rfl,h3,h4⟩:=hr
    cases gG with
    |nil=>simp at hl
    |cons i' is' =>simp only[List.zip_cons_cons]at hp;obtain⟨sz,rfl⟩:=pM h1;obtain⟨h5,h6⟩:=hp _ abZ;simp only[aN,List.map_cons,an];exact⟨u,iI,rfl,zN h3 h5 h6,lG g hz ps is is' (s+1) r iI x (by simpa using hl) h2 hv hf (fun p h=>hp p (abq _ h)) h4⟩
   ·cases hi
 |.own::ps,ids,gG,s,vs,us,x,hl,hi,hv,hf,hp,hr=>by
  cases vs with
  |nil=>simp[cy]at hi
  |cons a r =>
   cases a<;>simp only[cy]at hi<;>first|(cases hi;done)|skip
   rename_i i
   split at hi
   ·rename_i is h2
    cases hi
    simp only[an]at hr;obtain⟨u,iI,rfl,h3,h4⟩:=hr
    cases gG with
    |nil=>simp at hl
    |cons i' is' =>simp only[List.zip_cons_cons]at hp;obtain⟨h5,h6⟩:=hp _ abZ;simp only[aN,List.map_cons,an];refine⟨u,iI,rfl,?_,lG g hz ps is is' (s+1) r iI x (by simpa using hl) h2 hv hf (fun p h=>hp p (abq _ h)) h4⟩;simp only[au]at h3 ⊢;exact⟨h3.1,fun hn=>(h3.2 h5).trans (h6 hn).symm⟩
   ·cases hi
 |.tg f m::ps,ids,gG,s,vs,us,x,hl,hi,hv,hf,hp,hr=>by
  cases vs with
  |nil=>simp[cy]at hi
  |cons a r =>
   cases a<;>simp only[cy]at hi<;>first|(cases hi;done)|skip
   rename_i f' cap
   split at hi
   ·rename_i hc;obtain⟨rfl,rh⟩:=hc
    split at hi
    ·rename_i a1 b1 h1 h2
     cases hi
     simp only[an]at hr;obtain⟨u,iI,rfl,h3,h4⟩:=hr;have h5:=tF cap a1 h1;have ve:(a1++b1).zip gG=a1.zip (gG.take m)++b1.zip (gG.drop m):=by
      conv=>lhs;rw[←List.take_append_drop m gG]
      rw[List.zip_append];rw[List.length_take,Nat.min_eq_left]
      ·omega
      ·rw[hl,List.length_append];omega
     rw[ve]at hp;simp only[aN,List.map_cons,an];refine⟨u,iI,rfl,?_,lG g hz ps b1 (gG.drop m) (s+1) r iI x (by rw[List.length_drop,hl,List.length_append];omega) h2 hv hf (fun p h=>hp p (abx _ h)) h4⟩;simp only[au]at h3 ⊢;obtain⟨ws,h6,h7⟩:=h3;exact⟨ws,h6,Ed cap a1 (gG.take m) _ h1 (by rw[List.length_take,Nat.min_eq_left (by rw[hl,List.length_append];omega)];omega) (fun p h=>hp p (abK _ h)) h7⟩
    ·cases hi
   ·cases hi
 |.agg m::ps,ids,gG,s,vs,us,x,hl,hi,hv,hf,hp,hr=>by
  cases vs with
  |nil=>simp[cy]at hi
  |cons a r =>
   cases a<;>simp only[cy]at hi<;>first|(cases hi;done)|skip
   rename_i cs
   split at hi
   ·rename_i rh
    split at hi
    ·rename_i a1 b1 h1 h2
     cases hi
     simp only[an]at hr;obtain⟨u,iI,rfl,h3,h4⟩:=hr;have h5:=tG cs a1 h1;have ve:(a1++b1).zip gG=a1.zip (gG.take m)++b1.zip (gG.drop m):=by
      conv=>lhs;rw[←List.take_append_drop m gG]
      rw[List.zip_append];rw[List.length_take,Nat.min_eq_left]
      ·omega
      ·rw[hl,List.length_append];omega
     rw[ve]at hp;simp only[aN,List.map_cons,an];refine⟨u,iI,rfl,?_,lG g hz ps b1 (gG.drop m) (s+1) r iI x (by rw[List.length_drop,hl,List.length_append];omega) h2 hv hf (fun p h=>hp p (abx _ h)) h4⟩;simp only[au]at h3 ⊢;obtain⟨ws,h6,h7⟩:=h3;exact⟨ws,h6,Ee cs a1 (gG.take m) _ h1 (by rw[List.length_take,Nat.min_eq_left (by rw[hl,List.length_append];omega)];omega) (fun p h=>hp p (abK _ h)) h7⟩
    ·cases hi
   ·cases hi
theorem NG(hh:Heap)(k:K)(x:k.T):fR k hh (b5 k x)=some x:=by unfold fR;rw[if_pos (A8 k x).symm,uo];exact(congrArg (dg k) (rl hh k x)).trans (um k x)
theorem nj:∀(de:List CK) (c n:Nat) (x:qO de),fS de c=true→(az de n x)[mW de c]? = some (.bC (n+c))
 |[],c,n,x,h=>by simp[fS]at h
 |.val k::r,0,n,x,h=>by simp[fS]at h
 |.val k::r,c+1,n,x,h=>by simp only[az,mW];have ih:=nj r c (n+1) x.2 (by simpa[fS] using h);have hl:(enc k x.1).length=k.sz:=fb k x.1;generalize enc k x.1=l at hl ⊢;rw[List.getElem?_append_right (by omega),hl,Nat.add_sub_cancel_left,show n+(c+1)=n+1+c by omega];exact ih
 |.own ok::r,0,n,x,h=>by simp[az,mW]
 |.own ok::r,c+1,n,x,h=>by simp only[az,mW];rw[Nat.add_comm 1,List.getElem?_cons_succ,show n+(c+1)=n+1+c by omega];exact nj r c (n+1) x.2 (by simpa[fS] using h)
theorem yz:∀(bs:List BK) (b:Nat) (is:List Nat) (n:Nat) (x:wM bs) (ty:TypeId) (c:List CK) (bi:Nat),bs[b]? = some (.box ty c)→is[b]? = some bi→∃xb,(bi,.box ty (az c (n+16*b) xb))∈bm bs is n x
 |[],b,is,n,x,_,_,bi,h,_=>by simp at h
 |b0::r,b,[],n,x,_,_,bi,_,h=>by simp at h
 |b0::r,0,i::is,n,x,ty,c,bi,h1,h2=>by simp only[List.getElem?_cons_zero,Option.some.injEq]at h1 h2;subst h1;subst h2;exact⟨x.1,by simp only[bm,jo];exact abK _ abZ⟩
 |b0::r,b+1,i::is,n,x,ty,c,bi,h1,h2=>by obtain⟨xb,h3⟩:=yz r b is (n+16) x.2 ty c bi (by simpa using h1) (by simpa using h2);refine⟨xb,?_⟩;simp only[bm];rw[show n+16*(b+1)=n+16+16*b by omega];exact abx _ h3
theorem mg{bs:List BK}{hh:Heap}{is:List Nat}{nb:Nat}{xb:wM bs}(hl:is.length=bs.length)(TE:∀e∈bm bs is nb xb,hh.get e.1=some e.2):∀(rs:List RK) (ids2:List Nat) (m:Nat) (y:lQ rs),qU bs rs=true →(∀e∈ah rs m y,hh.get e.1=some e.2)→bG bs rs hh is (aP rs ids2 nb m y)=some y
 |[],ids2,m,y,_,_=>rfl
 |.val k::r,ids2,m,y,hk,hg=>by
  simp only[qU,List.all_cons,Bool.and_eq_true,C8]at hk;have h1:=NG hh k y.1;have h2:=mg hl TE r ids2 (m+1) y.2 hk.2 hg;have e:bG bs (.val k::r) hh is (aP (.val k::r) ids2 nb m y)=(match fR k hh (b5 k y.1),bG bs r hh is (aP r ids2 nb (m+1) y.2) with
   |some x,some y=>some ((x,y):k.T×lQ r)
   |_,_=>none):=rfl
  rw[e];generalize fR k hh (b5 k y.1)=o1 at h1 ⊢;generalize bG bs r hh is (aP r ids2 nb (m+1) y.2)=o2 at h2 ⊢;subst h1;subst h2;rfl
 |.own ok::r,ids2,m,y,hk,hg=>by
  simp only[qU,List.all_cons,Bool.and_eq_true,C8]at hk;simp only[ah]at hg;have h1:=xe (hg _ abZ);have h2:=mg hl TE r ids2 (m+1) y.2 hk.2 (fun e he=>hg e (abq _ he));have e:bG bs (.own ok::r) hh is (aP (.own ok::r) ids2 nb m y)=(match dN hh ok (.bC m),bG bs r hh is (aP r ids2 nb (m+1) y.2) with
   |some x,some y=>some ((x,y):ok.T×lQ r)
   |_,_=>none):=rfl
  rw[e];generalize dN hh ok (.bC m)=o1 at h1 ⊢;generalize bG bs r hh is (aP r ids2 nb (m+1) y.2)=o2 at h2 ⊢;subst h1;subst h2;rfl
 |.eI b alts::r,ids2,m,y,hk,hg=>by
  simp only[qU,List.all_cons,Bool.and_eq_true,C8]at hk;have h2:=mg hl TE r ids2 (m+1) y.2 hk.2 hg;have h1:nG bs hh is b alts (uR b nb alts y.1)=some y.1:=by
   cases hy:y.1 with
   |none=>rfl
   |some p =>
    obtain⟨al,i⟩:=p;have h3:=hk.1
    split at h3
    ·rename_i bk ZT;have aF:=(abr.1 ZT).1;have NH:is[b]? = some (is[b]'(by omega)):=abv (by omega);rw[Bool.and_eq_true,decide_eq_true_eq]at h3;obtain⟨h3,zQ⟩:=h3;have ZU:∀a:Fin alts.length,fS bk.de (alts.get a).1=true:=fun a=>acH.1 h3 _ (List.get_mem alts a)
     cases bk with
     |own ok=>have:=ZU al;simp[BK.de,fS]at this
     |box ty c0 =>
      obtain⟨xb',h4⟩:=yz bs b is nb xb ty c0 _ ZT NH;have h5:=TE _ h4;simp only[BK.de]at ZU;simp only[nG,uR,ZT,NH,h5,BK.de];have key:(List.finRange alts.length).find? (fun a=>ye c0 (az c0 (nb+16*b) xb') (nb+16*b+(alts.get al).1) (alts.get al).2.1 (alts.get al).2.2 (alts.get a))=some al:=by
       cases hf:(List.finRange alts.length).find? (fun a=>ye c0 (az c0 (nb+16*b) xb') (nb+16*b+(alts.get al).1) (alts.get al).2.1 (alts.get al).2.2 (alts.get a)) with
       |none =>have:=List.find?_eq_none.1 hf al (List.mem_finRange al);exfalso;apply this;simp only[ye,Bool.and_eq_true,decide_eq_true_eq];refine⟨?_,trivial,trivial,ZU al⟩;rw[nj c0 _ _ xb' (ZU al)];simp[PD]
       |some a' =>
        have hf':=adP hf;obtain⟨h6,_,h7,_⟩:=Bb hf';rw[nj c0 _ _ xb' (ZU a')]at h6;simp only[Option.some.injEq,AV.bC.injEq]at h6;have h8:(alts.get a').1=(alts.get al).1:=by omega
        congr 1;have nJ:∀a:Fin alts.length,(alts.map fun a=>(a.1,a.2.2))[a.val]? = some ((alts.get a).1,(alts.get a).2.2):=fun a=>by rw[List.getElem?_map,List.getElem?_eq_getElem a.isLt];rfl
        have e1:=nJ a';have e2:=nJ al;rw[h8,←h7]at e1;exact Fin.ext ((List.getElem?_inj (by simp) zQ).1 (e1.trans e2.symm))
      rw[key];rfl
    ·cases h3
  have e:bG bs (.eI b alts::r) hh is (aP (.eI b alts::r) ids2 nb m y)=(match nG bs hh is b alts (uR b nb alts y.1),bG bs r hh is (aP r ids2 nb (m+1) y.2) with
   |some x,some y=>some ((x,y):Option (Fin alts.length×Nat)×lQ r)
   |_,_=>none):=rfl
  rw[e];generalize nG bs hh is b alts (uR b nb alts y.1)=o1 at h1 ⊢;generalize bG bs r hh is (aP r ids2 nb (m+1) y.2)=o2 at h2 ⊢;subst h1;subst h2;rfl
 |.agg c::r,ids2,m,y,hk,hg=>by
  simp only[qU,List.all_cons,Bool.and_eq_true,C8]at hk;simp only[ah]at hg;have h1:=pQ (hh:=hh) c m y.1 (fun e he=>hg e (abK _ he));have h2:=mg hl TE r ids2 (m+1) y.2 hk.2 (fun e he=>hg e (abx _ he));have e:bG bs (.agg c::r) hh is (aP (.agg c::r) ids2 nb m y)=(match cH c hh (az c m y.1),bG bs r hh is (aP r ids2 nb (m+1) y.2) with
   |some x,some y=>some ((x,y):qO c×lQ r)
   |_,_=>none):=rfl
  rw[e];generalize cH c hh (az c m y.1)=o1 at h1 ⊢;generalize bG bs r hh is (aP r ids2 nb (m+1) y.2)=o2 at h2 ⊢;subst h1;subst h2;rfl
def pR(g:aO)(x:g.A):Hp:=(bm g.bs (aJ g.bs.length) 2000 x.2).get
def jY(g:aO)(y:g.B):Heap:=bm g.bs (aJ g.bs.length) 2000 y.2++ah g.rs 3000 y.1
def Fz(g:aO)(x:g.A):List AV:=(aN g.ps (aJ g.bs.length) 0 x.1).map (·.2)
def Ef(P:Program)(f:FuncId)(g:aO)(x:g.A)(y:g.B):Prop :=∀(Z:Nat→Prop) (ψ0:Nat→Value) (w:World) (kA:List Value),Good Z ψ0 (pR g x) w w.heap.size (Own ψ0 (pR g x))→an Z ψ0 (pR g x) w (Fz g x) kA → Calls P (f%1000) kA.toArray w fun e w'=>∃v Z' ψ',e=.returned v∧(∀b,Z b→Z' b)∧(∀b,Z' b→Z b∨Own ψ0 (pR g x) b∨w.heap.size≤b)∧cE ψ0 (pR g x) w w' ∧ Good Z' ψ' (jY g y).get w' w.heap.size (Own ψ0 (pR g x))∧(∀i∈aJ g.bs.length,ψ' i=ψ0 i)∧au Z' ψ' (jY g y).get w' (eU (aP g.rs (aJ g.bs.length) 2000 3000 y.1)) v
theorem FA{ψ:Nat→Value}{b:Nat}:¬Own ψ gm b:=fun⟨_,h,_⟩=>h rfl
theorem vp(ids:List Nat)(n:Nat)(x:wM []):bm [] ids n x=[]:=by cases ids<;>rfl
theorem Ef.zero{f:FuncId}{g:aO}{x:g.A}{y:g.B}(hb:g.bs=[])(c:Ef P f g x y):ZM P f g x y:=by
 obtain⟨ps,bs,rs,_⟩:=g;simp only at hb;subst hb;intro Z w kA hz hr;have e0:pR ⟨ps,[],rs,_⟩ x=gm:=by unfold pR;rw[vp];rfl
 have e1:jY ⟨ps,[],rs,_⟩ y=ah rs 3000 y.1:=by unfold jY;rw[vp];rfl
 have hO:Own JI gm=fun _=>False:=funext fun b=>propext ⟨FA,False.elim⟩;unfold Ef at c;rw[e0,e1]at c;refine(c Z JI w kA ⟨fun _ _ _ h=>(by cases h),fun _ _ _ h=>(by cases h),fun _ _ h=>absurd rfl h,fun _ _ _ h=>absurd rfl h,hz⟩ hr).mono fun e w' ⟨v,Z',ψ',h1,h2,h3,h4,h5,_,h6⟩=>?_;exact⟨v,Z',ψ',h1,h2,fun b hb=>(h3 b hb).imp (fun h=>h) fun h=>h.resolve_left FA,h4,by rw[hO]at h5;exact h5,h6⟩
theorem Ho{bs:List BK}{hh:Heap}{x:wM bs}(hd:cS bs hh []=some x):bs=[]:=by
 cases bs with
 |nil=>rfl
 |cons b r=>cases hd
variable {Eqs:TypeId→Option K} {Sg:FuncId→Option aO} {F:(f:FuncId)→(g:aO)→g.A→Option g.B}
theorem Hq{a b:List Nat}(h:b6 (a++b)=true):b6 a=true:=by
 induction a with
 |nil=>rfl
 |cons i r ih =>
  obtain⟨h1,h2⟩:=nc h;simp only[b6,Bool.and_eq_true,Bool.not_eq_true'];refine⟨?_,ih h2⟩
  cases hc:r.contains i with
  |false=>rfl
  |true=>exact absurd (abK _ (List.contains_iff_mem.1 hc)) h1
theorem Good.FB(g:Good Z ψ h w B0 O)(B:Nat):Good Z ψ h w B (Own ψ h) :=⟨g.box,g.row,fun id b h1 h2=>⟨(g.live id b h1 h2).1,.inr ⟨id,h1,h2⟩⟩,g.apart,g.jO⟩
theorem ow:∀(l:List Nat) (hh:Heap) (i:Nat),(g6 hh l).get i=if i∈l then none else hh.get i
 |[],hh,i=>by simp[g6]
 |j::r,hh,i=>by
  simp only[g6];rw[ow r (hh.del j) i];by_cases h1:i∈r
  ·simp[h1]
  ·by_cases h2:i=j
   ·subst h2;simp[Heap.gD]
   ·rw[Heap.iJ h2];simp[h1,h2]
theorem hY:∀(de:List CK) (n:Nat) (x:qO de),(aS de n x).map (·.1)=b8 de n
 |[],_,_=>rfl
 |.val k::r,n,x=>hY r (n+1) x.2
 |.own ok::r,n,x=>by simp only[aS,b8,List.map_cons];rw[hY r (n+1) x.2]
theorem mh:∀(bs:List BK) (is:List Nat) (n:Nat) (x:wM bs),is.length=bs.length→(bm bs is n x).map (·.1)=bW bs is n
 |[],is,n,x,_=>by cases is<;>rfl
 |b::r,[],n,x,hl=>by simp at hl
 |b::r,i::is,n,x,hl=>by
  simp only[bm,bW,List.map_append];rw[mh r is (n+16) x.2 (by simpa using hl),←List.cons_append];congr 1
  cases b with
  |box ty c=>simp only[jo,List.map_cons,BK.de];rw[hY]
  |own ok=>simp[jo,BK.de,b8]
theorem fH:∀(rs:List RK) (m:Nat) (y:lQ rs),(ah rs m y).map (·.1)=bp rs m
 |[],_,_=>rfl
 |.own ok::r,m,y=>by simp only[ah,bp,List.map_cons];rw[fH r (m+1) y.2]
 |.val _::r,m,y=>fH r (m+1) y.2
 |.eI _ _::r,m,y=>fH r (m+1) y.2
 |.agg c::r,m,y=>by have e1:(aS c m y.1).map (·.1)=b8 c m:=hY c m y.1;simp only[ah,bp,List.map_append];rw[fH r (m+1) y.2];exact congrArg (·++_) e1
theorem pS:∀(de:List CK) (n:Nat) (x:qO de),fM de (az de n x)=b8 de n
 |[],_,_=>rfl
 |.val k::r,n,x=>by
  have h2:(az (.val k::r) n x).drop k.sz=az r (n+1) x.2:=by simp only[az];rw[←fb k x.1,List.drop_left]
  have e:fM (.val k::r) (az (.val k::r) n x)=fM r ((az (.val k::r) n x).drop k.sz):=by generalize az (.val k::r) n x=l;cases l<;>rfl
  rw[e,h2,pS r (n+1) x.2];rfl
 |.own ok::r,n,x=>by simp only[az,fM,pf,b8,List.cons_append,List.nil_append];rw[pS r (n+1) x.2]
theorem yC{hh:Heap}:∀(bs:List BK) (is:List Nat) (n:Nat) (x:wM bs),is.length=bs.length→(∀e∈bm bs is n x,hh.get e.1=some e.2)→cT bs hh is=bW bs is n
 |[],is,n,x,_,_=>by cases is<;>rfl
 |_::_,[],n,x,hl,_=>by simp at hl
 |b::r,i::is,n,x,hl,hg=>by
  simp only[bm]at hg;simp only[cT,bW];rw[yC r is (n+16) x.2 (by simpa using hl) (fun e he=>hg e (List.mem_append_right _ he)),←List.cons_append];congr 1
  cases b with
  |box ty c =>simp only[kf,BK.de];rw[hg (i,.box ty (az c n x.1)) (List.mem_append_left _ (by simp only[jo];exact List.mem_cons_self))];simp only[];rw[pS]
  |own ok=>simp[kf,BK.de,b8]
theorem kB:∀(rs:List RK) (ids:List Nat) (n m:Nat) (y:lQ rs),dH rs (aP rs ids n m y)=bp rs m
 |[],_,_,_,_=>rfl
 |.own ok::r,ids,n,m,y=>by simp only[aP,dH,bp,pf,List.cons_append,List.nil_append];rw[kB r ids n (m+1) y.2]
 |.val _::r,ids,n,m,y=>by simp only[aP,dH,bp];exact kB r ids n (m+1) y.2
 |.eI _ _::r,ids,n,m,y=>by simp only[aP,dH,bp];exact kB r ids n (m+1) y.2
 |.agg c::r,ids,n,m,y=>by have e1:fM c (az c m y.1)=b8 c m:=pS c m y.1;simp only[aP,dH,bp,AV.cells];rw[kB r ids n (m+1) y.2];exact congrArg (·++_) e1
theorem mi:∀(rs:List RK) (ids:List Nat) (n m:Nat) (y:lQ rs) (id:Nat),AV.bC id∉fY rs (aP rs ids n m y)
 |[],_,_,_,_,_=>by simp[aP,fY]
 |.own ok::r,ids,n,m,y,id=>by simp only[aP,fY];exact mi r ids n (m+1) y.2 id
 |.val k::r,ids,n,m,y,id=>by
  simp only[aP,fY,List.mem_append];rintro(h|h)
  ·have e:(b5 k y.1).cells=enc k y.1:=uo k y.1;exact mf k y.1 id (e▸h)
  ·exact mi r ids n (m+1) y.2 id h
 |.eI _ _::r,ids,n,m,y,id=>by simp only[aP,fY];exact mi r ids n (m+1) y.2 id
 |.agg c::r,ids,n,m,y,id=>by
  simp only[aP,fY,AV.cells,List.mem_append];rintro(h|h)
  ·exact zP (hh:=[]) c m y.1 id h
  ·exact mi r ids n (m+1) y.2 id h
theorem NI{gg:aO}{x:gg.A}{y:gg.B}{P8:List Nat}{nW dR:Nat→Value}{id:Nat}(hl:P8.length=gg.bs.length)(XF:qU gg.bs gg.rs=true)(Kc:b6 (qS gg)=true) (Be:b6 (bW gg.bs P8 id++bp gg.rs (id+128))=true) (P9:Good Z' dR (jY gg y).get w' w.heap.size (Own nW (pR gg x))) {v:Value} (aeR:au Z' dR (jY gg y).get w' (eU (aP gg.rs (aJ gg.bs.length) 2000 3000 y.1)) v) :
  ∃L2:List yr,dy L2=bm gg.bs P8 id y.2++ah gg.rs (id+128) y.1∧L2.map (·.1)=bW gg.bs P8 id++bp gg.rs (id+128) ∧ Good Z' (eJ dR L2) (dy L2).get w' w.heap.size (Own nW (pR gg x))∧(∀p∈(aJ gg.bs.length).zip P8,eJ dR L2 p.2=dR p.1) ∧ au Z' (eJ dR L2) (dy L2).get w' (eU (aP gg.rs P8 id (id+128) y.1)) v:=by
 have hle:(aJ gg.bs.length).length=gg.bs.length:=by simp[aJ]
 have hn2:b6 ((jY gg y).map (·.1))=true:=by unfold jY;rw[List.map_append,mh _ _ _ _ hle,fH];exact Kc
 have TE:∀e∈bm gg.bs (aJ gg.bs.length) 2000 y.2,(jY gg y).get e.1=some e.2:=fun e he=>xf hn2 (by unfold jY;exact abK _ he);have Y6:∀e∈ah gg.rs 3000 y.1,(jY gg y).get e.1=some e.2:=fun e he=>xf hn2 (by unfold jY;exact abx _ he);have zK:=yy gg.bs _ 2000 y.2 hle TE;have Ul:=mg (xb:=y.2) hle TE gg.rs (aJ gg.bs.length) 3000 y.1 XF Y6
 let vsC:=aP gg.rs (aJ gg.bs.length) 2000 3000 y.1
 let L2:List yr:=cv gg.bs (jY gg y) (aJ gg.bs.length) P8 id y.2++cx gg.rs vsC (id+128) y.1
 have eH:dy L2=bm gg.bs P8 id y.2++ah gg.rs (id+128) y.1:=by show dy (_++_)=_;rw[nh,jt _ _ _ _ _ _ zK hl,gF]
 have eN:L2.map (·.1)=bW gg.bs P8 id++bp gg.rs (id+128):=by show(_++_:List yr).map _=_;rw[List.map_append,g9 _ _ _ _ _ _ zK hl,fG]
 have eS:L2.filterMap (·.2.1)=qS gg:=by show(_++_:List yr).filterMap _=_;rw[List.filterMap_append,ky _ _ _ _ _ _ zK hl,iV _ _ _ _ Ul,yC _ _ 2000 y.2 hle TE,kB];rfl
 have hn:b6 (L2.map (·.1))=true:=by rw[eN];exact Be
 have jm:=zM (ψ:=dR) hn;have g3:Good Z' (eJ dR L2) (dy L2).get w' w.heap.size (Own nW (pR gg x)):=by
  refine P9.rename hn (by rw[eS];exact Kc) fun e he=>?_;rcases ab0.1 he with he|he
  ·exact ma P9 (fun _ h=>h) gg.bs _ _ id y.2 zK (fun i b br _ _=>(Bc gg.bs _ 2000 y.2 i TE br).elim) (fun s _=>rfl) (fun e he=>jm e (abK _ he)) e he
  ·exact jX gg.rs vsC (id+128) y.1 Ul (fun s _=>rfl) e he
 refine⟨L2,eH,eN,g3,fun p hp=>?_,?_⟩
 ·obtain⟨o,ho⟩:=kz (hh:=jY gg y) gg.bs (aJ gg.bs.length) P8 id y.2 hle p hp;exact iU hn (abK _ ho)
 ·refine uk (by rw[kj,kj]) (fun vs qN=>?_) aeR;exact sx (nb:=id) (is':=P8) P9 (fun _ h=>h) zK hl (fun e he=>jm e (abK _ he)) gg.rs vsC (id+128) y.1 vs Ul (fun i b br _ _=>(mi gg.rs _ _ _ y.1 i br).elim) (fun e he=>jm e (abx _ he)) qN
theorem NJ{hh:Heap}{kY:List AV}{kept:List Nat}{qH:Hp}{nW Qa:Nat→Value}{H2:Heap}(g:Good Z ψ hh.get w B0 O)(hB:B0≤w.heap.size)(Eg:∀s∈kept,(cC hh kY).get s=hh.get s) (aX:∀i ty cs,hh.get i=some (.box ty cs)→av (fun i=>¬N i) cs) (ot:∀b,Own nW qH b→∃s,s∈kept∧hh.get s≠none∧ob (ψ s)=some b) (hz:∀b,qM Z ψ hh.get kY b→Z' b) (AE:∀b,Z' b→qM Z ψ hh.get kY b∨Own nW qH b∨w.heap.size≤b) (keep:cE nW qH w w') (g3:Good Z' Qa H2.get w' w.heap.size (Own nW qH)) (Um:∀i ty cs,H2.get i=some (.box ty cs)→av (fun j=>H2.get j≠none) cs) (ti:∀i,H2.get i≠none→(i∈kept∧hh.get i≠none∧Qa i=ψ i)∨N i) :
  ∃Bf,(∀i,H2.get i≠none→Bf i=Qa i)∧Next Z ψ hh.get w B0 O N Z' Bf (H2++g6 (cC hh kY) kept).get w':=by
 classical
 let Bf:Nat→Value:=fun i=>if H2.get i≠none then Qa i else ψ i
 have h4:∀i,H2.get i≠none→Bf i=Qa i:=fun i hi=>if_pos hi;have hg:∀i,(H2++g6 (cC hh kY) kept).get i=(match H2.get i with|some o=>some o|none=>if i∈kept then none else(cC hh kY).get i):=fun i=>by rw[Heap.get_append,ow];cases H2.get i<;>rfl
 have vf:∀i,H2.get i≠none→(H2++g6 (cC hh kY) kept).get i=H2.get i:=fun i hi=>by
  rw[hg];cases e:H2.get i with
  |none=>exact absurd e hi
  |some o=>rfl
 have yD:∀i,H2.get i=none→(H2++g6 (cC hh kY) kept).get i≠none→i∉kept∧(H2++g6 (cC hh kY) kept).get i=hh.get i∧(cC hh kY).get i=hh.get i∧Bf i=ψ i∧hh.get i≠none:=fun i hi aW=>by
  rw[hg,hi]at aW ⊢;simp only at aW ⊢;by_cases hk:i∈kept
  ·rw[if_pos hk]at aW;exact absurd rfl aW
  ·rw[if_neg hk]at aW ⊢;obtain⟨o,ho⟩:=acf.1 aW;have:=dW _ _ _ _ ho;exact⟨hk,by rw[ho,this],by rw[ho,this],if_neg (by simp[hi]),by rw[this];simp⟩
 have Un:∀i b,i∉kept→hh.get i≠none→ob (ψ i)=some b→¬Own nW qH b:=fun i b hk hi hb ho=>by obtain⟨s,h1,h2,h3⟩:=ot b ho;exact hk ((g.apart i s b hi h2 hb h3)▸h1)
 have gd:Good (qM Z ψ hh.get kY) ψ (cC hh kY).get w B0 O:=iK g kY;have ZV:∀b,qM Z ψ hh.get kY b→¬Own nW qH b:=fun b hb ho=>by obtain⟨s,h1,h2,h3⟩:=ot b ho;exact(gd.live s b (by rw[Eg s h1];exact h2) h3).1 hb
 have sm:cj (qM Z ψ hh.get kY) w w':=fun b hb=>keep.block b (gd.jO b hb) (ZV b hb);have ZW:∀i,(H2++g6 (cC hh kY) kept).get i≠none→(hh.get i≠none∧Bf i=ψ i)∨N i:=fun i hi=>by
  by_cases h2:H2.get i=none
  ·obtain⟨_,_,_,h3,h5⟩:=yD i h2 hi;exact .inl ⟨h5,h3⟩
  ·rcases ti i h2 with⟨_,h3,h5⟩|h3
   ·exact .inl ⟨h3,(h4 i h2).trans h5⟩
   ·exact .inr h3
 have kk:cE ψ hh.get w w':=⟨keep.os,keep.tape,keep.output,keep.size,fun b hb qG=>keep.block b hb fun ho=>by obtain⟨s,_,h2,h3⟩:=ot b ho;exact qG ⟨s,h2,h3⟩⟩;refine⟨Bf,h4,fun b hb=>hz b (.inl hb),fun b hb=>?_,kk,ZW,⟨fun i ty cs hb=>?_,fun i ok xs hb=>?_,fun i b h1 h2=>?_,fun i i' b h1 h2 h3 h5=>?_,g3.jO⟩⟩
 ·rcases AE b hb with h1|h1|h1
  ·exact(h1.imp (fun h=>h) fun⟨i,_,h2,h3⟩=>.inl ⟨i,h2,h3⟩)
  ·obtain⟨s,_,h2,h3⟩:=ot b h1;exact .inr (.inl ⟨s,h2,h3⟩)
  ·exact .inr (.inr h1)
 ·by_cases h2:H2.get i=none
  ·obtain⟨h3,h5,h6,h7,h8⟩:=yD i h2 (by rw[hb];simp);rw[h5]at hb;obtain⟨gg,vs,e1,e2,e3,e4⟩:=gd.box i ty cs (by rw[h6];exact hb);have aF:=(abX.1 e2).1;refine⟨gg,vs,by rw[h7,e1],?_,?_,e4⟩
   ·rw[keep.block gg aF (Un i gg h3 h8 (by rw[e1];rfl))];exact e2
   ·refine e3.move (p:=fun i=>¬N i) hz sm (fun j hp hj=>?_) (aX i ty cs hb);by_cases h9:H2.get j=none
    ·obtain⟨_,_,lY,zj,JG⟩:=yD j h9 hj;exact⟨by rw[lY];exact JG,zj⟩
    ·rcases ti j h9 with⟨lY,zj,JG⟩|lY
     ·exact⟨by rw[Eg j lY];exact zj,(h4 j h9).trans JG⟩
     ·exact absurd lY hp
  ·rw[vf i h2]at hb;obtain⟨gg,vs,e1,e2,e3,e4⟩:=g3.box i ty cs hb;exact⟨gg,vs,by rw[h4 i h2,e1],e2,e3.move (p:=fun j=>H2.get j≠none) (fun _ h=>h) (cj.refl _ _) (fun j hp _=>⟨hp,h4 j hp⟩) (Um i ty cs hb),e4⟩
 ·by_cases h2:H2.get i=none
  ·obtain⟨h3,h5,h6,h7,h8⟩:=yD i h2 (by rw[hb];simp);rw[h5]at hb;rw[h7];exact(gd.row i ok xs (by rw[h6];exact hb)).kept hz sm fun gg Nm=>keep.block gg (g.bF ⟨i,h8,Nm⟩) (Un i gg h3 h8 Nm)
  ·rw[vf i h2]at hb;rw[h4 i h2];exact g3.row i ok xs hb
 ·by_cases h3:H2.get i=none
  ·obtain⟨h5,h6,h7,h8,h9⟩:=yD i h3 h1;rw[h8]at h2;obtain⟨lY,zj⟩:=gd.live i b (by rw[h7];exact h9) h2;refine⟨fun ZB=>?_,zj⟩;rcases AE b ZB with JG|JG|JG
   ·exact lY JG
   ·exact Un i b h5 h9 h2 JG
   ·have:=g.bF ⟨i,h9,h2⟩;omega
  ·rw[h4 i h3]at h2;obtain⟨h5,h6⟩:=g3.live i b h3 h2;refine⟨h5,?_⟩;rcases h6 with h6|h6
   ·exact .inl (by omega)
   ·obtain⟨s,_,h7,h8⟩:=ot b h6;exact(g.live s b h7 h8).2
 ·have yh:∀i i',H2.get i=none→H2.get i'≠none→(H2++g6 (cC hh kY) kept).get i≠none→ob (Bf i)=some b→ob (Bf i')=some b→False:=fun i i' e1 e2 e3 e4 e5=>by
   obtain⟨h6,_,_,h8,h9⟩:=yD i e1 e3;rw[h8]at e4;rw[h4 i' e2]at e5;rcases (g3.live i' b e2 e5).2 with lY|lY
   ·have:=g.bF ⟨i,h9,e4⟩;omega
   ·exact Un i b h6 h9 e4 lY
  by_cases e1:H2.get i=none<;>by_cases e2:H2.get i'=none
  ·obtain⟨_,_,_,h8,h9⟩:=yD i e1 h1;obtain⟨_,_,_,h8',h9'⟩:=yD i' e2 h2;rw[h8]at h3;rw[h8']at h5;exact g.apart i i' b h9 h9' h3 h5
  ·exact(yh i i' e1 e2 h1 h3 h5).elim
  ·exact(yh i' i e2 e1 h2 h5 h3).elim
  ·rw[h4 i e1]at h3;rw[h4 i' e2]at h5;exact g3.apart i i' b e1 e2 h3 h5
theorem zR{i:Nat}{o:Ob}:∀{hh:Heap},(i,o)∈hh→hh.get i≠none
 |[],h=>by cases h
 |(j,o')::r,h=>by
  simp only[Heap.get]
  split
  ·simp
  ·rename_i hn;rcases abw.1 h with e|h
   ·cases e;exact absurd rfl hn
   ·exact zR h
theorem get_mem{i:Nat}{o:Ob}:∀{hh:Heap},hh.get i=some o→(i,o)∈hh
 |[],h=>by simp[Heap.get]at h
 |(j,o')::r,h=>by
  simp only[Heap.get]at h
  split at h
  ·rename_i e;subst e;cases h;exact abZ
  ·exact abq _ (get_mem h)
theorem pT{p:Nat→Prop}:∀{a b:List AV},av p a→av p b→av p (a++b)
 |[],b,_,h=>h
 |x::r,b,h,h'=>by simp only[List.cons_append,av]at h ⊢;exact⟨h.1,pT h.2 h'⟩
theorem kl{p:Nat→Prop}:∀(de:List CK) (n:Nat) (x:qO de),(∀e∈aS de n x,p e.1)→av p (az de n x)
 |[],n,x,_=>by simp only[az,av]
 |.val k::r,n,x,h=>by simp only[az];exact pT (me p k x.1) (kl r (n+1) x.2 h)
 |.own ok::r,n,x,h=>by simp only[aS]at h;simp only[az,av,aD];exact⟨h _ abZ,kl r (n+1) x.2 fun e he=>h e (abq _ he)⟩
theorem nk:∀(de:List CK) (n:Nat) (x:qO de) (i:Nat) (ty:TypeId) (cs:List AV),(i,Ob.box ty cs)∉aS de n x
 |[],_,_,_,_,_=>by simp[aS]
 |.val k::r,n,x,i,ty,cs=>nk r (n+1) x.2 i ty cs
 |.own _::r,n,x,i,ty,cs=>by simp only[aS,List.mem_cons,not_or];exact⟨by simp,nk r (n+1) x.2 i ty cs⟩
theorem tH{p:Nat→Prop}:∀(bs:List BK) (is:List Nat) (n:Nat) (x:wM bs),(∀e∈bm bs is n x,p e.1)→∀i ty cs,(i,Ob.box ty cs)∈bm bs is n x→av p cs
 |[],is,n,x,_,i,ty,cs,h=>by cases is<;>simp[bm]at h
 |b::r,[],n,x,_,i,ty,cs,h=>by simp[bm]at h
 |b::r,i0::is,n,x,hp,i,ty,cs,h=>by
  simp only[bm]at h hp;rcases ab0.1 h with h|h
  ·cases b with
   |box ty0 c0 =>
    simp only[jo]at h hp;rcases abw.1 h with e|h
    ·cases e
     exact kl c0 n x.1 fun e he=>hp e (abK _ (abq _ he))
    ·exact absurd h (nk _ _ _ _ _ _)
   |own ok=>simp[jo]at h
  ·exact tH r is (n+16) x.2 (fun e he=>hp e (abx _ he)) i ty cs h
theorem nm:∀(de:List CK) (n i:Nat),i∈b8 de n→n≤i∧i<n+de.length
 |[],n,i,h=>by simp[b8]at h
 |.val k::r,n,i,h=>by have:=nm r (n+1) i (by simpa[b8] using h);simp only[List.length_cons];omega
 |.own ok::r,n,i,h=>by
  simp only[b8]at h;simp only[List.length_cons];rcases abw.1 h with rfl|h
  ·omega
  ·have:=nm r (n+1) i h;omega
theorem vq:∀(bs:List BK) (is:List Nat) (n i:Nat),(bs.all fun b=>decide (b.de.length≤16))=true→i∈bW bs is n→i∈is∨(n≤i∧i<n+16*bs.length)
 |[],is,n,i,_,h=>by cases is<;>simp[bW]at h
 |b::r,[],n,i,_,h=>by simp[bW]at h
 |b::r,i0::is,n,i,hc,h=>by
  simp only[List.all_cons,Bool.and_eq_true,decide_eq_true_eq]at hc;simp only[bW]at h;simp only[List.length_cons];rcases abw.1 h with rfl|h
  ·exact .inl abZ
  ·rcases ab0.1 h with h|h
   ·have:=nm _ _ _ h;exact .inr (by omega)
   ·rcases vq r is (n+16) i hc.2 h with h1|h1
    ·exact .inl (abq _ h1)
    ·exact .inr (by omega)
theorem jx{bs:List BK}:∀(rs:List RK) (m i:Nat),qU bs rs=true→i∈bp rs m→m≤i∧i<m+rs.length+16
 |[],m,i,_,h=>by simp[bp]at h
 |.own ok::r,m,i,hk,h=>by
  simp only[qU,List.all_cons,Bool.and_eq_true]at hk;simp only[bp]at h;simp only[List.length_cons];rcases abw.1 h with rfl|h
  ·omega
  ·have:=jx r (m+1) i hk.2 h;omega
 |.val _::r,m,i,hk,h=>by simp only[qU,List.all_cons,Bool.and_eq_true]at hk;have:=jx r (m+1) i hk.2 (by simpa[bp] using h);simp only[List.length_cons];omega
 |.eI _ _::r,m,i,hk,h=>by simp only[qU,List.all_cons,Bool.and_eq_true]at hk;have:=jx r (m+1) i hk.2 (by simpa[bp] using h);simp only[List.length_cons];omega
 |.agg c::r,m,i,hk,h=>by
  simp only[qU,List.all_cons,Bool.and_eq_true,C8,decide_eq_true_eq]at hk;simp only[bp]at h;simp only[List.length_cons];rcases ab0.1 h with h|h
  ·have:=nm c m i h;omega
  ·have:=jx r (m+1) i hk.2 h;omega
theorem yE{hh:Heap}:∀(bs:List BK) (is:List Nat) (i:Nat),is.length=bs.length→i∈is→i∈cT bs hh is
 |[],is,i,hl,h=>by cases is with
  |nil=>cases h
  |cons a r=>simp at hl
 |b::r,[],i,_,h=>by cases h
 |b::r,i0::is,i,hl,h=>by
  simp only[cT];rcases abw.1 h with rfl|h
  ·refine abK _ ?_
   cases b<;>simp[kf]
  ·exact abx _ (yE r is i (by simpa using hl) h)
theorem Qb{α β:Type}:∀{a:List α} {b:List β},a.length=b.length→∀x∈a,∃y,(x,y)∈a.zip b∧(y,x)∈b.zip a
 |[],b,_,x,h=>by cases h
 |a::r,[],hl,x,_=>by simp at hl
 |a::r,c::q,hl,x,h=>by
  simp only[List.zip_cons_cons];rcases abw.1 h with rfl|h
  ·exact⟨c,abZ,abZ⟩
  ·obtain⟨y,h1,h2⟩:=Qb (a:=r) (b:=q) (by simpa using hl) x h;exact⟨y,abq _ h1,abq _ h2⟩
theorem uu:∀(de:List CK) (n c:Nat),fS de c=true→n+c∈b8 de n
 |[],n,c,h=>by simp[fS]at h
 |.own _::r,n,0,_=>by simp[b8]
 |.own _::r,n,c+1,h=>by simp only[fS]at h;have:=uu r (n+1) c h;simp only[b8];exact abq _ (by rwa [show n+(c+1)=n+1+c by omega])
 |.val _::r,n,0,h=>by simp[fS]at h
 |.val _::r,n,c+1,h=>by
  simp only[fS]at h;have:=uu r (n+1) c h;simp only[b8]
  rwa [show n+(c+1)=n+1+c by omega]
theorem yF:∀(bs:List BK) (is:List Nat) (n b i:Nat) (bk:BK),is.length=bs.length→bs[b]? = some bk→i∈b8 bk.de (n+16*b)→i∈bW bs is n
 |[],_,_,b,_,_,_,h,_=>by simp at h
 |_::_,[],_,_,_,_,hl,_,_=>by simp at hl
 |b0::r,i0::is,n,0,i,bk,hl,hb,hi=>by simp only[List.getElem?_cons_zero,Option.some.injEq]at hb;subst hb;simp only[bW];exact abq _ (abK _ (by simpa using hi))
 |b0::r,i0::is,n,b+1,i,bk,hl,hb,hi=>by
  simp only[List.getElem?_cons_succ]at hb;simp only[bW];refine abq _ (abx _ (yF r is (n+16) b i bk (by simpa using hl) hb ?_))
  rwa [show n+16+16*b=n+16*(b+1) by omega]
theorem kC{p:Nat→Prop}{bs:List BK}{is:List Nat}(hl:is.length=bs.length):∀(rs:List RK) (ids:List Nat) (n m:Nat) (y:lQ rs),qU bs rs=true→(∀i∈bp rs m,p i)→(∀i∈bW bs is n,p i)→av p (aP rs ids n m y)
 |[],_,_,_,_,_,_,_=>by simp only[aP,av]
 |.val k::r,ids,n,m,y,hr,h1,h2=>by simp only[qU,List.all_cons,Bool.and_eq_true,C8]at hr;simp only[aP,av];exact⟨ov p k y.1,kC hl r ids n (m+1) y.2 hr.2 (fun i hi=>h1 i hi) h2⟩
 |.own _::r,ids,n,m,y,hr,h1,h2=>by simp only[qU,List.all_cons,Bool.and_eq_true,C8]at hr;simp only[aP,av,aD];exact⟨h1 m (by simp[bp]),kC hl r ids n (m+1) y.2 hr.2 (fun i hi=>h1 i (by simp only[bp];exact abq _ hi)) h2⟩
 |.eI b alts::r,ids,n,m,y,hr,h1,h2=>by
  simp only[qU,List.all_cons,Bool.and_eq_true,C8]at hr;simp only[aP,av];refine⟨?_,kC hl r ids n (m+1) y.2 hr.2 (fun i hi=>h1 i hi) h2⟩
  cases hy:y.1 with
  |none=>simp only[uR,aD]
  |some p =>
   obtain⟨al,i⟩:=p;simp only[uR,aD]
   cases hb:bs[b]? with
   |none=>rw[hb]at hr;exact absurd hr.1 (by simp)
   |some bk =>rw[hb]at hr;simp only[Bool.and_eq_true]at hr;exact h2 _ (yF bs is n b _ bk hl hb (uu bk.de (n+16*b) _ (acH.1 hr.1.1 _ (List.get_mem alts al))))
 |.agg c::r,ids,n,m,y,hr,h1,h2=>by simp only[qU,List.all_cons,Bool.and_eq_true,C8]at hr;simp only[aP,av,aD];refine⟨kl c m y.1 fun e he=>h1 _ ?_,kC hl r ids n (m+1) y.2 hr.2 (fun i hi=>h1 i (by simp only[bp];exact abx _ hi)) h2⟩;simp only[bp];have e1:(aS c m y.1).map (·.1)=b8 c m:=hY c m y.1;exact abK _ (e1▸acx.2 ⟨e,he,rfl⟩)
theorem Kd{p:Nat→Prop}{vs:List AV}(h:av p vs):aD p (eU vs):=by
 match vs,h with
 |[],h=>simp only[eU,aD];exact h
 |[v],h=>simp only[eU];simp only[av]at h;exact h.1
 |_::_::_,h=>simp only[eU,aD];exact h
def gV(P:Program)(f:FuncId)(u:Heap→Nat→List AV→Option (Bool×bq)):Prop :=∀{Z:Nat→Prop} {ψ:Nat→Value} {h:Hp} {w:World} {B0:Nat} {O N:Nat→Prop} {hh:Heap} {id:Nat} {e:bq} {vs:List AV} {us:List Value},Good Z ψ h w B0 O→B0≤w.heap.size→(∀id o,hh.get id=some o→h id=some o)→(∀j,j<256→N (id+j))→(∀i ty cs,h i=some (.box ty cs)→av (fun i=>¬N i) cs)→(∀v hw,e=.wr v hw→hh.get=h) → an Z ψ h w vs us→av (fun i=>¬N i) vs→u hh id vs=some (true,e) → Calls P f us.toArray w fun en w'=>∃V Z' ψ',en=.returned V∧Next Z ψ h w B0 O N Z' ψ' (e.hp h) w'∧au Z' ψ' (e.hp h) w' e.v V
theorem Uo{R:Type}{n:Nat}(a:Fin n)(f:Fin n→Option R):Zz n a f=f a:=by
 have key:∀l:List (Fin n),a∈l→l.foldr (fun j r=>cond (a.val==j.val) (f j) r) none=f a:=by
  intro l
  induction l with
  |nil=>intro h;cases h
  |cons j r ih =>
   intro h;simp only[List.foldr_cons];by_cases e:a=j
   ·subst e;simp
   ·have:(a.val==j.val)=false:=by simp only[beq_eq_false_iff_ne,ne_eq];exact fun h=>e (Fin.ext h)
    rw[this,cond_false];rcases abw.1 h with h|h
    ·exact absurd h e
    ·exact ih h
 exact key _ (List.mem_finRange a)
theorem iW{R:Type}:∀(rs:List RK) (x:lQ rs) (K:lQ rs→Option R),jR rs x K=K x
 |[],_,_=>rfl
 |.val _::r,x,K=>by simp only[jR];rw[iW r x.2];rfl
 |.own _::r,x,K=>by simp only[jR];rw[iW r x.2];rfl
 |.agg _::r,x,K=>by simp only[jR];rw[iW r x.2];rfl
 |.eI _ alts::r,x,K=>by
  simp only[jR];obtain⟨x1,x2⟩:=x
  cases x1 with
  |none=>simp only[qV];rw[iW r x2]
  |some p=>simp only[qV];rw[Uo,iW r x2]
theorem Ke(hX:∀f g u,Sg f=some g→g.x=some u→gV P (f%1000) u)(hF:∀f g x y,Sg f=some g→F f g x=some y→Ef P f g x y)(NK:∀f g,Sg f=some g→jv P (f%1000)) {hh:Heap} {ρC:Operand→Value} {o:Oper} (g:Good Z ψ h w B0 O) (hB:B0≤w.heap.size) (ba:∀id o,hh.get id=some o→h id=some o) {id:Nat} (hN:∀j,j<256→N (id+j)) {e:bq} (aX:∀i ty cs,h i=some (.box ty cs)→av (fun i=>¬N i) cs) (lZ:∀v hw,e=.wr v hw→hh.get=h) {f:FuncId} {cap vs:List AV} {fv:Value} {us:List Value} (Up:au Z ψ h w (.fn f cap) fv) (qN:an Z ψ h w vs us) (A1:av (fun i=>¬N i) (vs++cap)) (hex:∀(ws:Array Value),fv=.func (.func f) #[] ws→execOp ρC o=callFunc f (us.toArray++ws)) (he:jq Sg F hh id f (vs++cap) some=some e):V5 P ρC o Z ψ h w B0 O N e:=by
 unfold jq at he
 split at he
 ·cases he
 rename_i gg hSg;simp only[au]at Up;obtain⟨ws,rfl,Qc⟩:=Up;have Eh:=NK _ _ hSg;have iS:an Z ψ h w (vs++cap) (us++ws.toList):=an.append qN Qc;have FC:an Z ψ hh.get w (vs++cap) (us++ws.toList):=iS.nM ba;have gs:Good Z ψ hh.get w B0 O:=g.sub ba;have Qd:us.toArray++ws=(us++ws.toList).toArray:=by simp
 split at he
 ·rename_i u hu
  split at he
  ·rename_i hf;obtain⟨⟨b,e'⟩,ZX,Ty⟩:=ac6.1 he
   cases b with
   |false=>cases Ty
   |true =>
   cases Ty
   have Hr:keyOf Sg hh f (vs++cap)%1000=f:=by rw[xa];exact Nat.mod_eq_of_lt hf
   have hx:gV P f u:=by rw[←Hr];exact hX _ _ _ hSg hu
   rw[Hr]at Eh;refine⟨f,us.toArray++ws,by rw[hex ws rfl];exact jw Eh _,?_⟩;rw[Qd];exact hx g hB ba hN aX lZ iS A1 ZX
  ·cases he
 split at he
 ·rename_i i0 ti FD
  split at he
  ·rename_i NL;simp only[Bool.and_eq_true,List.isEmpty_iff]at NL;obtain⟨rfl,_⟩:=NL
   split at he
   rotate_left
   ·cases he
   rename_i x b hx hb pC;obtain⟨y,hy,he⟩:=ac6.1 he;simp only[PE,Bool.and_eq_true,decide_eq_true_eq]at FD;obtain⟨_,_,⟨hlen,hf⟩,_⟩:=FD;have Df:=(hF _ _ _ _ hSg hy).zero (Ho hb);have Hr:keyOf Sg hh f (vs++cap)%1000=f:=by rw[xa];exact Nat.mod_eq_of_lt hf
   rw[Hr]at Eh;have hN':∀j,j<gg.rs.length+16→N (id+128+j):=fun j hj=>by rw[Nat.add_assoc];exact hN _ (by omega)
   refine⟨f,us.toArray++ws,by rw[hex ws rfl];exact jw Eh _,?_⟩;rw[Qd];unfold ZM at Df;rw[Hr]at Df;by_cases qG:qT (vs++cap)=true
   ·rw[qG,Bool.or_true]at he
    cases he
    have h1:an Z JI gm w (Ec gg x) (us++ws.toList):=A7 gs (fun _ h=>h) gg.ps 0 _ _ x (fun v hv i b hi _ _=>(rj qG v hv i hi).elim) ti hx FC;refine(Df Z w _ g.jO h1).mono fun en w' ⟨v,Z',ψ',e1,h2,h3,h4,h5,h6⟩=>?_;obtain⟨uq,n,hr⟩:=xc (nb:=id) pC g hB aX hN' h4 h2 h3 h5 h6;exact⟨v,Z',uq,e1,n,hr⟩
   ·cases hfl:gg.rs.all RK.flat with
    |true =>
     rw[hfl,Bool.true_or]at he
     cases he
     let Zc:Nat→Prop:=fun b=>b<w.heap.size
     have h1:an Zc JI gm w (Ec gg x) (us++ws.toList):=A7 gs g.jO gg.ps 0 _ _ x (fun v hv i b hi h1 h2=>gs.bF ⟨i,h1,h2⟩) ti hx FC;refine(Df Zc w _ (fun _ h=>h) h1).mono fun en w' ⟨v,Z',ψ',e1,h2,h3,h4,h5,h6⟩=>?_;have h7:au Z ψ' (ah gg.rs 3000 y.1).get w' (eU (aP gg.rs [] 2000 3000 y.1)) v:=uk rfl (fun vs qN=>P5 gg.rs hfl pC qN) h6;have gz:Good Z ψ' (ah gg.rs 3000 y.1).get w' w.heap.size (fun _=>False):=by
      refine⟨fun i ty cs hb=>absurd hb (sw _ _ _ _ _ _ pC),fun i ok x hb=>?_,fun i b h1 h8=>?_,h5.apart,fun b hb=>adL (g.jO b hb) h4.size⟩
      ·obtain⟨ty,k,hk,rfl⟩:=w9 _ _ _ _ _ x hfl pC hb;obtain⟨vs,h9,lY⟩:=h5.row i _ x hb;exact⟨vs,h9,fun j z hz=>(lY j z hz).flat hk⟩
      ·obtain⟨h9,lY⟩:=h5.live i b h1 h8;exact⟨fun hz=>h9 (h2 b (g.jO b hz)),lY⟩
     obtain⟨uq,n,hr⟩:=xc (nb:=id) pC g hB aX hN' h4 (fun _ h=>h) (fun _ h=>.inl h) gz h7;exact⟨v,Z,uq,e1,n,hr⟩
    |false =>
     rw[hfl,Bool.false_or,Bool.eq_false_iff.2 qG]at he
     cases he
     have heq:=lZ _ _ rfl;subst heq
     let cs:=c9 gg.ps (vs++cap)
     have T5:∀b,qM Z ψ hh.get cs b→Z b∨Own ψ hh.get b:=fun b hb=>hb.imp (fun h=>h) (fun⟨i,_,h2,h3⟩=>⟨i,h2,h3⟩);have gd:Good (qM Z ψ hh.get cs) ψ (cC hh cs).get w B0 O:=iK g cs;have h1:an (qM Z ψ hh.get cs) JI gm w (Ec gg x) (us++ws.toList) :=A7 gs (fun _ h=>.inl h) gg.ps 0 _ _ x (fun v hv i b hi h1 h2=>.inr ⟨i,vo _ _ ti v hv i hi,h1,h2⟩) ti hx FC;refine(Df _ w _ gd.jO h1).mono fun en w' ⟨v,Z',ψ',e1,h2,h3,h4,h5,h6⟩=>?_;obtain⟨uq,n,hr⟩:=xc (nb:=id) pC gd hB (fun i ty cs hb=>aX i ty cs (dW _ _ _ _ hb)) hN' h4 h2 h3 h5 h6;have e2:(bq.wr (eU (aP gg.rs [] id (id+128) y.1)) (ah gg.rs (id+128) y.1++cC hh (c9 gg.ps (vs++cap)))).hp hh.get=(fun i=>match (ah gg.rs (id+128) y.1).get i with|some o=>some o|none=>(cC hh cs).get i):=by
      funext i;simp only[bq.hp];rw[Heap.get_append]
      cases (ah gg.rs (id+128) y.1).get i<;>rfl
     rw[e2];exact⟨v,Z',uq,e1,n.drop (fun _ h=>.inl h) T5 (dW _ _),hr⟩
  ·split at he
   rotate_left
   ·cases he
   rename_i x b hx hb Dg;obtain⟨y,hy,he⟩:=ac6.1 he;rw[iW]at he
   cases he
   have heq:=lZ _ _ rfl;subst heq;simp only[PE,Bool.and_eq_true,decide_eq_true_eq]at FD;obtain⟨XF,⟨hbl,rh⟩,⟨hlen,hf⟩,Kc⟩:=FD;rw[Bool.and_eq_true]at Dg;have Df:=hF _ _ _ _ hSg hy;have Hr:keyOf Sg hh f (vs++cap)%1000=f:=by rw[xa];exact Nat.mod_eq_of_lt hf
   rw[Hr]at Eh;refine⟨f,us.toArray++ws,by rw[hex ws rfl];exact jw Eh _,?_⟩;rw[Qd];unfold Ef at Df;rw[Hr]at Df;have hl:i0.length=gg.bs.length:=(ju _ _ _ hb).1;have Bg:=(ju _ _ _ hb).2;have hle:(aJ gg.bs.length).length=gg.bs.length:=by simp[aJ]
   let kY:=c9 gg.ps (vs++cap)++fX gg.bs hh i0
   let L1:List yr:=cv gg.bs hh i0 (aJ gg.bs.length) 2000 b
   have eH1:dy L1=bm gg.bs (aJ gg.bs.length) 2000 b:=jt _ _ _ _ _ _ hb hle;have eN1:L1.map (·.1)=bW gg.bs (aJ gg.bs.length) 2000:=g9 _ _ _ _ _ _ hb hle;have eS1:L1.filterMap (·.2.1)=cT gg.bs hh i0:=ky _ _ _ _ _ _ hb hle;have ZY:b6 (L1.map (·.1))=true:=by rw[eN1];exact Hq Kc
   have XB:=zM (ψ:=ψ) ZY;have Eg:=(su Dg.1).2 hh;have ve:∀b,Z b→qM Z ψ hh.get kY b:=fun b hb=>.inl hb;have ZZ:∀e∈L1,vn (qM Z ψ hh.get kY) ψ (cC hh kY).get w (dy L1).get (eJ ψ L1) e:=fun e he =>ma gs ve gg.bs _ _ 2000 b hb (fun i b br h1 h2=>.inr ⟨i,abx _ br,h1,h2⟩) Eg XB e he;have gin:Good (qM Z ψ hh.get kY) (eJ ψ L1) (dy L1).get w B0 O:=w7 gs Dg.1 ZY eS1 ZZ;have ein:(dy L1).get=pR gg (x,b):=by rw[eH1];rfl
   have Qe:∀p∈i0.zip (aJ gg.bs.length),(p.2,some p.1)∈L1.map (fun e=>(e.1,e.2.1)):=fun p hp=>by obtain⟨o,ho⟩:=kz (hh:=hh) gg.bs i0 (aJ gg.bs.length) 2000 b hl p hp;exact acx.2 ⟨_,ho,rfl⟩
   have aaa:∀p∈i0.zip (aJ gg.bs.length),eJ ψ L1 p.2=ψ p.1:=fun p hp=>by
    obtain⟨⟨i,s,o⟩,ho,he⟩:=acx.1 (Qe p hp)
    cases he
    exact iU ZY ho
   have XG:an (qM Z ψ hh.get kY) (eJ ψ L1) (dy L1).get w (Fz gg (x,b)) (us++ws.toList) :=lG gs ve gg.ps i0 (aJ gg.bs.length) 0 _ _ x (by rw[hle,hl]) ti hx (fun i b br h1 h2=>.inr ⟨i,abK _ br,h1,h2⟩) (fun p hp=>⟨Bg _ (List.of_mem_zip hp).1,fun _=>aaa p hp⟩) FC;have ot:∀c,Own (eJ ψ L1) (pR gg (x,b)) c→∃s,s∈cT gg.bs hh i0∧hh.get s≠none∧ob (ψ s)=some c:=fun c ⟨i,h1,h2⟩=>by
    rw[←ein]at h1;obtain⟨o,ho⟩:=acf.1 h1;obtain⟨s,hm⟩:=ou ho;rw[iU ZY hm]at h2
    cases s with
    |none=>simp[jV,ob]at h2
    |some s =>
     have hs:s∈cT gg.bs hh i0:=by rw[←eS1];exact aeg.2 ⟨_,hm,rfl⟩
     refine⟨s,hs,?_,h2⟩;have h3:=ZZ _ hm;rw[←Eg s hs]
     cases o with
     |box ty cs=>obtain⟨⟨cs0,h4⟩,_⟩:=h3;rw[h4];simp
     |own ok xs=>rw[show(cC hh kY).get s=some (.own ok xs) from h3];simp
   refine(Df (qM Z ψ hh.get kY) (eJ ψ L1) w (us++ws.toList) (by rw[←ein];exact gin.FB _) (by rw[←ein];exact XG)).mono fun en w' ⟨v,Z',dR,e1,h2,h3,h4,h5,h6,h7⟩=>?_;obtain⟨L2,eH2,eN2,g3,Xr,XH⟩:=NI (x:=(x,b)) (y:=y) (id:=id) hl XF Kc Dg.2 h5 h7;have Um:∀i ty cs,(dy L2).get i=some (.box ty cs)→av (fun j=>(dy L2).get j≠none) cs:=fun i ty cs hg=>by
    have gW:=get_mem hg;rw[eH2]at gW;rcases ab0.1 gW with gW|gW
    ·exact tH gg.bs _ id y.2 (fun e he=>by rw[eH2];exact zR (o:=e.2) (abK _ he)) i ty cs gW
    ·exfalso;have:∀(rs:List RK) (m:Nat) (y:lQ rs),(i,Ob.box ty cs)∉ah rs m y:=by
      intro rs
      induction rs with
      |nil=>intro m y;simp[ah]
      |cons r rs ih =>
       intro m y
       cases r with
       |agg c=>simp only[ah,List.mem_append,not_or];exact⟨nk _ _ _ _ _ _,ih (m+1) y.2⟩
       |val k=>exact ih (m+1) y.2
       |eI _ _=>exact ih (m+1) y.2
       |own ok=>simp only[ah,List.mem_cons,not_or];exact⟨by simp,ih (m+1) y.2⟩
     exact this _ _ _ gW
   have aac:∀i,(dy L2).get i≠none→(i∈cT gg.bs hh i0∧hh.get i≠none∧eJ dR L2 i=ψ i)∨N i:=fun i hi=>by
    obtain⟨o,ho⟩:=acf.1 hi;obtain⟨s,hm⟩:=ou ho;have gW:i∈bW gg.bs i0 id++bp gg.rs (id+128):=by rw[←eN2];exact acx.2 ⟨_,hm,rfl⟩
    have hNr:∀i,id≤i→i<id+256→N i:=fun i h1 h2=>by
     have:=hN (i-id) (by omega)
     rwa [show id+(i-id)=i by omega]at this
    rcases ab0.1 gW with gW|gW
    ·rcases vq _ _ _ _ rh gW with h8|h8
     ·refine .inl ⟨yE _ _ _ hl h8,Bg i h8,?_⟩;obtain⟨ee,h9,lY⟩:=Qb (by rw[hle,hl]) i h8;rw[Xr (ee,i) lY];have zj:ee∈aJ gg.bs.length:=(List.of_mem_zip lY).1;rw[h6 ee zj];exact aaa (i,ee) h9
     ·exact .inr (hNr i h8.1 (by omega))
    ·have h8:=jx _ _ _ XF gW;exact .inr (hNr i (by omega) (by omega))
   obtain⟨Bf,h8,nx⟩:=NJ (N:=N) gs hB Eg aX ot h2 h3 h4 g3 Um aac;have eH3:(bq.wr (eU (aP gg.rs i0 id (id+128) y.1)) (bm gg.bs i0 id y.2++(ah gg.rs (id+128) y.1++g6 (cC hh (c9 gg.ps (vs++cap)++fX gg.bs hh i0)) (cT gg.bs hh i0)))).hp hh.get =(dy L2++g6 (cC hh kY) (cT gg.bs hh i0)).get:=by rw[eH2,List.append_assoc];rfl
   rw[eH3];refine⟨v,Z',Bf,e1,nx,?_⟩;refine XH.move (p:=fun j=>(dy L2).get j≠none) (fun _ h=>h) (cj.refl _ _) (fun j hp _=>⟨hp,h8 j hp⟩) ?_;refine Kd (kC hl gg.rs _ id (id+128) y.1 XF (fun i hi=>?_) fun i hi=>?_)
   ·rw[←fH gg.rs (id+128) y.1]at hi;obtain⟨e,he,rfl⟩:=acx.1 hi;rw[eH2];exact zR (o:=e.2) (abx _ he)
   ·rw[←mh gg.bs i0 id y.2 hl]at hi;obtain⟨e,he,rfl⟩:=acx.1 hi;rw[eH2];exact zR (o:=e.2) (abK _ he)
 ·cases he
end Go.Vs
namespace Go.Vs
variable {P:Program} {Eqs:TypeId→Option K} {Sg:FuncId→Option aO} {F:(f:FuncId)→(g:aO)→g.A→Option g.B} {R:Type} {k:bq→Option R}
theorem bD{c:Bool}{e:bq}:cond c (k e) none=(cond c (some e) none).bind k:=by cases c<;>rfl
theorem bh{c:Bool}{e:bq}:cond c none (k e)=(cond c none (some e)).bind k:=by cases c<;>rfl
theorem bj{c:Bool}{e e':bq}:cond c (k e) (k e')=(cond c (some e) (some e')).bind k:=by cases c<;>rfl
theorem bE{α:Type}(o:Option α)(f:α→Option R)(g:α→Option bq)(h:∀x,f x=(g x).bind k):o.bind f=(o.bind g).bind k:=by cases o with
 |none=>rfl
 |some x=>exact h x
theorem Kf{h:Heap}{id:Nat}{t:TypeId}{s x:AV}:n6 P h id t s x k=(n6 P h id t s x some).bind k:=by unfold n6;repeat' (first|rfl|exact bD|exact bh | exact bj|(refine bE _ _ _ (fun _=>?_))|split)
theorem NM{h:Heap}{t:TypeId}{s x:AV}:rS P h t s x k=(rS P h t s x some).bind k:=by unfold rS;repeat' (first|rfl|exact bD|exact bh | exact bj|(refine bE _ _ _ (fun _=>?_))|split)
theorem Qf{h:Heap}{t:TypeId}{s:AV}:lS P h t s k=(lS P h t s some).bind k:=by unfold lS;repeat' (first|rfl|exact bD|exact bh | exact bj|(refine bE _ _ _ (fun _=>?_))|split)
theorem Dh{h:Heap}{t:TypeId}{s x:AV}:dm P h t s x k=(dm P h t s x some).bind k:=by unfold dm;repeat' (first|rfl|exact bD|exact bh | exact bj|(refine bE _ _ _ (fun _=>?_))|split)
theorem Qg{x:AV}{lo hi mx:Option AV}:wQ x lo hi mx k=(wQ x lo hi mx some).bind k:=by unfold wQ;repeat' (first|rfl|exact bD|exact bh | exact bj|(refine bE _ _ _ (fun _=>?_))|split)
theorem NO{h:Heap}{sz:Nat}{x:AV}{lo hi mx:Option AV}:o9 h sz x lo hi mx k=(o9 h sz x lo hi mx some).bind k:=by unfold o9;repeat' (first|rfl|exact bD|exact bh | exact bj|(refine bE _ _ _ (fun _=>?_))|split)
theorem Uq{h:Heap}{x:AV}:DZ h x k=(DZ h x some).bind k:=by unfold DZ;repeat' (first|rfl|exact bD|exact bh | exact bj|(refine bE _ _ _ (fun _=>?_))|split)
theorem Ur{op:BinOp}{t:TypeId}{x y:AV}:yd P Eqs op t x y k=(yd P Eqs op t x y some).bind k:=by unfold yd;repeat' (first|rfl|exact bD|exact bh | exact bj|(refine bE _ _ _ (fun _=>?_))|split)
theorem Hs(rs:List RK)(x:lQ rs)(f:lQ rs→Option R)(g:lQ rs→Option bq)(h:∀z,f z=(g z).bind k):jR rs x f=(jR rs x g).bind k:=by rw[iW,iW];exact h x
theorem Qh{h:Heap}{id:Nat}{f:FuncId}{vs:List AV}:jq Sg F h id f vs k=(jq Sg F h id f vs some).bind k:=by unfold jq;repeat' (first|rfl|exact bD|exact bh | exact bj|(refine bE _ _ _ (fun _=>?_))|(refine Hs _ _ _ _ (fun _=>?_))|split)
theorem Qi{id:Nat}{t:TypeId}{vs:List AV}:wU id t vs k=(wU id t vs some).bind k:=rfl
theorem NP{t:TypeId}{ps:List (Nat×AV)}:rW P t ps k=(rW P t ps some).bind k:=by unfold rW;repeat' (first|rfl|exact bD|exact bh | exact bj|(refine bE _ _ _ (fun _=>?_))|split)
theorem FE{h:Heap}{id:Nat}{t:TypeId}{n:Nat}{ps:List (Nat×AV)}:uU P h id t n ps k=(uU P h id t n ps some).bind k:=by unfold uU;repeat' (first|rfl|exact bD|exact bh | exact bj|(refine bE _ _ _ (fun _=>?_))|split)
theorem Qj{kY:Bool}{h:Heap}{id:Nat}{t:TypeId}{n:Nat}{ps:List (Nat×AV)}:wV P kY h id t n ps k=(wV P kY h id t n ps some).bind k:=by unfold wV;rw[FE,FE (k:=fun e=>some (if kY then TW e else e)),Option.bind_assoc];rfl
theorem Qk{h:Heap}{s d:TypeId}{x:AV}:Ay P h s d x k=(Ay P h s d x some).bind k:=by unfold Ay;repeat' (first|rfl|exact bD|exact bh | exact bj|(refine bE _ _ _ (fun _=>?_))|split)
theorem Ht{h:Heap}{id:Nat}{t:TypeId}{s:AV}{b:ByteArray}:lE P h id t s b k=(lE P h id t s b some).bind k:=by unfold lE;repeat' (first|rfl|exact bD|exact bh | exact bj|(refine bE _ _ _ (fun _=>?_))|split)
theorem NQ{id:Nat}{t:TypeId}{l c:AV}:rR P id t l c k=(rR P id t l c some).bind k:=by unfold rR;repeat' (first|rfl|exact bD|exact bh | exact bj|(refine bE _ _ _ (fun _=>?_))|split)
theorem Ql{h:Heap}{t:TypeId}{d s:AV}:wO P h t d s k=(wO P h t d s some).bind k:=by unfold wO;repeat' (first|rfl|exact bD|exact bh | exact bj|(refine bE _ _ _ (fun _=>?_))|split)
theorem XI{b:Bool}{vs:List AV}:Nk b vs k=(Nk b vs some).bind k:=by unfold Nk;repeat' (first|rfl|exact bD|exact bh | exact bj|(refine bE _ _ _ (fun _=>?_))|split)
theorem Qm{h:Heap}{x:AV}:wR h x k=(wR h x some).bind k:=by unfold wR;repeat' (first|rfl|exact bD|exact bh | exact bj|(refine bE _ _ _ (fun _=>?_))|split)
theorem Hu{id:Nat}{t:TypeId}:lF P Eqs id t k=(lF P Eqs id t some).bind k:=by unfold lF;repeat' (first|rfl|exact bD|exact bh | exact bj|(refine bE _ _ _ (fun _=>?_))|split)
theorem Kg{h:Heap}{t:TypeId}{m i:AV}{ok:Bool}:n8 P Eqs h t m i ok k=(n8 P Eqs h t m i ok some).bind k:=by unfold n8;repeat' (first|rfl|exact bD|exact bh | exact bj|(refine bE _ _ _ (fun _=>?_))|split)
theorem Kh{h:Heap}{t:TypeId}{m i v:AV}:iR P Eqs h t m i v k=(iR P Eqs h t m i v some).bind k:=by unfold iR;repeat' (first|rfl|exact bD|exact bh | exact bj|(refine bE _ _ _ (fun _=>?_))|split)
theorem Ki{h:Heap}{t:TypeId}{m i:AV}:oa P Eqs h t m i k=(oa P Eqs h t m i some).bind k:=by unfold oa;repeat' (first|rfl|exact bD|exact bh | exact bj|(refine bE _ _ _ (fun _=>?_))|split)
theorem Kj{id:Nat}{t:TypeId}{x:AV}:oc P id t x k=(oc P id t x some).bind k:=by unfold oc;repeat' (first|rfl|exact bD|exact bh | exact bj|(refine bE _ _ _ (fun _=>?_))|split)
theorem NR{h:Heap}{x:AV}:rT h x k=(rT h x some).bind k:=by unfold rT;repeat' (first|rfl|exact bD|exact bh | exact bj|(refine bE _ _ _ (fun _=>?_))|split)
theorem NS{h:Heap}{x:AV}:rU h x k=(rU h x some).bind k:=by unfold rU;repeat' (first|rfl|exact bD|exact bh | exact bj|(refine bE _ _ _ (fun _=>?_))|split)
theorem lH{id:Nat}{h:Heap}{s:List (Nat×AV)}{o:Oper}:cI P Eqs Sg F id h s o k=(cI P Eqs Sg F id h s o some).bind k:=by
 obtain⟨dst,op,type,pos,after,guard⟩:=o
 cases op<;>simp only[cI] <;>
  repeat' (first|rfl|exact Qj|exact Kf|exact NM|exact Qf|exact Dh|exact Qg|exact NO|exact Uq|exact Ur|exact Qh|exact Qi|exact NP|exact FE|exact Qk|exact Ht|exact NQ|exact Ql|exact XI|exact Qm|exact Hu|exact Kg|exact Kh|exact Ki|exact Kj|exact NR|exact NS|exact bD|(refine bE _ _ _ (fun _=>?_))|split)
theorem NT{id:Nat}{h h':Heap}{s:List (Nat×AV)}{o:Oper}(hf:nH o.op=true):cI P Eqs Sg F id h s o k=cI P Eqs Sg F id h' s o k:=by
 obtain⟨dst,op,type,pos,after,guard⟩:=o
 cases op<;>simp[nH]at hf<;>first|rfl|(rename_i u _ _;cases u<;>rfl)
theorem Us{op:BinOp}{t:TypeId}{x y:AV}{e:bq}(he:yd P Eqs op t x y some=some e):∃v,e=.val v:=by
 unfold yd at he
 repeat' (first|(cases he;done)|exact⟨_,(ab5 he).symm⟩|split at he)
 all_goals
  unfold cond at he
  split at he<;>first|(cases he;done)|exact⟨_,(ab5 he).symm⟩
theorem Hv{id:Nat}{h:Heap}{s:List (Nat×AV)}{o:Oper}{e:bq}(hf:nH o.op=true)(he:cI P Eqs Sg F id h s o some=some e):∃v,e=.val v:=by
 obtain⟨dst,op,type,pos,after,guard⟩:=o
 cases op<;>simp only[nH]at hf<;>first|(cases hf;done)|skip
 case unOp u t x =>
  cases u<;>simp only[cI]at he<;>repeat' (first|(cases he;done)|exact⟨_,(ab5 he).symm⟩|split at he)
 case makeFunc fn first cap =>
  cases fn<;>simp only[cI]at he<;>repeat' (first|(cases he;done)|exact⟨_,(ab5 he).symm⟩|split at he)
 all_goals simp only[cI]at he
 case binOp=>exact Us he
 case slice =>
  repeat' (first|(cases he;done)|split at he)
  all_goals
   first|unfold wQ at he|unfold o9 at he
   repeat' (first|(cases he;done)|exact⟨_,(ab5 he).symm⟩|split at he)
   all_goals
    unfold cond at he
    split at he<;>first|(cases he;done)|exact⟨_,(ab5 he).symm⟩
 case build =>
  unfold rW at he
  repeat' (first|(cases he;done)|exact⟨_,(ab5 he).symm⟩|split at he)
 all_goals
  repeat' (first|(cases he;done)|exact⟨_,(ab5 he).symm⟩|split at he)
end Go.Vs
namespace Go.Vs
variable {P:Program} {Eqs:TypeId→Option K} {Sg:FuncId→Option aO} {F:(f:FuncId)→(g:aO)→g.A→Option g.B} {R:Type}
variable {Z Z' Z0:Nat→Prop} {ψ ψ' ψ0:Nat→Value} {h h':Hp} {w w' w0:World} {B0:Nat} {O N:Nat→Prop}
structure Env(P:Program)(Eqs:TypeId→Option K)(Sg:FuncId→Option aO)(F:(f:FuncId)→(g:aO)→g.A→Option g.B):Prop where
 eqs:∀t k,Eqs t=some k→l6 P t k
 con:∀f g x y,Sg f=some g→F f g x=some y→Ef P f g x y
 spec:∀f g u,Sg f=some g→g.x=some u→gV P (f%1000) u
 Hw:∀f g,Sg f=some g→jv P (f%1000)
theorem Hy{s:List (Nat×AV)}{ρC:Operand→Value}:∀(l:List Operand),(∀x∈l,au Z ψ h w (ρ s x) (ρC x))→an Z ψ h w (l.map (ρ s)) (l.map ρC)
 |[],_=>by simp[an]
 |x::r,hx=>by simp only[List.map_cons,an];exact⟨_,_,rfl,hx x abZ,Hy r fun y hy=>hx y (abq _ hy)⟩
theorem Ei{s:List (Nat×AV)}{p:Nat→Prop}:∀(l:List Operand),(∀x∈l,aD p (ρ s x))→av p (l.map (ρ s))
 |[],_=>by simp[av]
 |x::r,hx=>by simp only[List.map_cons,av];exact⟨hx x abZ,Ei r fun y hy=>hx y (abq _ hy)⟩
theorem V7(E:Env P Eqs Sg F){hh:Heap}{a:Act}{s:List (Nat×AV)}{o:Oper}(g:Good Z ψ h w B0 O)(hB:B0≤w.heap.size)(ba:∀id o,hh.get id=some o→h id=some o){id:Nat}(hN:makes o.op=true→∀j,j<256→N (id+j)){e:bq} (m0:∀x∈o.op.operands,au Z ψ h w (ρ s x) (a.eval x)) (hm:∀x∈o.op.operands,aD (fun i=>¬N i) (ρ s x)) (aX:∀i ty cs,h i=some (.box ty cs)→av (fun i=>¬N i) cs) (lZ:∀v hw,e=.wr v hw→hh.get=h) (he:cI P Eqs Sg F id hh s o some=some e) {next:Act→World→Prop} {Q:Exit→Act→World→Prop} (hk:∀V w' Z' ψ',Next Z ψ h w B0 O N Z' ψ' (e.hp h) w'→au Z' ψ' (e.hp h) w' e.v V→next (a.put o.dst V) w'):o.wp P a w next Q:=by
 have d:gT P a.eval o Z ψ h w B0 O N e∨V5 P a.eval o Z ψ h w B0 O N e:=by
  cases JH:vm o with
  |false=>exact .inl (P2 E.eqs g hB ba (fun hm=>by simpa using hN hm 0 (by decide)) m0 hm aX lZ JH he)
  |true =>
   refine .inr ?_;obtain⟨dst,op,type,pos,after,guard⟩:=o
   cases op<;>simp[vm]at JH
   rename_i c;obtain⟨callee,args,argTypes⟩:=c
   cases callee<;>simp at JH
   rename_i fo;simp only[cI]at he
   split at he
   ·rename_i f cap hf;simp only[Op.operands,Call.operands]at m0;have h1:=m0 fo (by simp);rw[hf]at h1;have h2:an Z ψ h w (args.toList.map (ρ s)) (args.toList.map a.eval):=Hy _ fun x hx=>m0 x (by simp;exact .inr (by simpa using hx));have hmf:=hm fo (by simp[Op.operands,Call.operands]);rw[hf]at hmf;simp only[aD]at hmf;have hma:av (fun i=>¬N i) (args.toList.map (ρ s)):=Ei _ fun x hx=>hm x (by simp[Op.operands,Call.operands];exact .inr (by simpa using hx));refine Ke E.spec E.con E.Hw g hB ba (hN rfl) aX lZ h1 h2 (pT hma hmf) (fun ws Qc=>?_) he;simp only[execOp,resolve,Qc,Deferred.ofValue];simp only[pure_bind,invoke];congr 1;apply Array.ext';simp
   ·cases he
 unfold Oper.wp;rcases d with⟨V,w',Z',ψ',h1,h2,h3⟩|⟨f,args,h1,h2⟩
 ·rcases h1 with h1|⟨h1,rfl⟩
  ·rw[h1];exact hk V w' Z' ψ' h2 h3
  ·rw[h1];exact hk undef w' Z' ψ' h2 h3
 ·rw[h1,Oper.upon_enter];refine h2.mono fun en w' ⟨V,Z',ψ',e1,n,hr⟩=>?_;subst e1;exact hk V w' Z' ψ' n hr
structure Ok(Z0:Nat→Prop)(w0:World)(O:Nat→Prop)(ψ0:Nat→Value)(Z:Nat→Prop)(ψ:Nat→Value)(h:Hp)(w:World):Prop where
 da:Good Z ψ h w w0.heap.size O
 fN:∀b,Z0 b→Z b
 eC:∀b,Z b→Z0 b∨O b∨w0.heap.size≤b
 os:w.os=w0.os
 tape:w.tape=w0.tape
 output:w.output=w0.output
 size:w0.heap.size≤w.heap.size
 block:∀b,b<w0.heap.size→¬O b→w.heap[b]? = w0.heap[b]?
 fix:∀i,i<2000→h i≠none→ψ i=ψ0 i
theorem Ok.next(k:Ok Z0 w0 O ψ0 Z ψ h w)(hN:∀id,N id→2000≤id)(n:Next Z ψ h w w0.heap.size O N Z' ψ' h' w'):Ok Z0 w0 O ψ0 Z' ψ' h' w':=by
 have own:∀b,Own ψ h b→w0.heap.size≤b∨O b:=fun b ⟨id,h1,h2⟩=>(k.da.live id b h1 h2).2;refine⟨n.da,fun b hb=>n.fN b (k.fN b hb),fun b hb=>?_,n.keep.os.trans k.os,n.keep.tape.trans k.tape,n.keep.output.trans k.output,acB k.size n.keep.size,fun b hb ho=>?_,fun i hi aW=>?_⟩
 ·rcases n.eC b hb with h1|h1|h1
  ·exact k.eC b h1
  ·exact .inr (own b h1).symm
  ·exact .inr (.inr (acB k.size h1))
 ·rw[n.keep.block b (Nat.lt_of_lt_of_le hb k.size) (fun h1=>(own b h1).elim (fun h2=>by omega) ho)];exact k.block b hb ho
 ·rcases n.ids i aW with⟨h1,h2⟩|h1
  ·rw[h2];exact k.fix i hi h1
  ·have:=hN i h1;omega
structure cK(Z:Nat→Prop)(ψ:Nat→Value)(h:Hp)(w:World)(n:Nat)(T:Nat→AV)(a:Act):Prop where
 rep:∀d,au Z ψ h w (T d) (a.tmps.getD d undef)
 size:a.tmps.size=n
 defers:a.defers=[]
theorem NU:au Z ψ h w (.nF []) undef:=by simp only[au,an];exact⟨#[],rfl,rfl⟩
def hZ(T:Nat→AV)(d:Option Tmp)(v:AV):Nat→AV:=match d with
 |some d=>dO T d v
 |none=>T
theorem ia(st:St)(d:Option Tmp)(v:AV):look (st.put d v).tmps=hZ (look st.tmps) d v:=by
 cases d with
 |none=>rfl
 |some d =>
  funext i;simp only[St.put,look,hZ,dO];by_cases e:i=d
  ·subst e;simp
  ·rw[if_neg (fun x=>e x.symm),if_neg e]
theorem cV(st:St)(d:Option Tmp)(v:AV):(st.put d v).heap=st.heap:=by cases d<;>rfl
theorem Ej{T:List (Nat×AV)}{d:Nat}{v:AV}(hv:look T d=v):dO (look T) d v=look T:=by
 funext i;unfold dO
 split
 ·rename_i e;subst e;exact hv.symm
 ·rfl
theorem ib{a:Act}{d:Nat}{v:Value}(hd:d<a.tmps.size)(i:Nat):(a.put (some d) v).tmps.getD i undef=if i=d then v else a.tmps.getD i undef:=by
 simp only[Act.put];by_cases e:i=d
 ·subst e;simp[hd]
 ·simp[e,Array.getElem?_setIfInBounds_ne (Ne.symm e)]
theorem cp(a:Act)(d:Option Tmp)(v:Value):(a.put d v).tmps.size=a.tmps.size:=by cases d<;>simp[Act.put]
theorem put_defers(a:Act)(d:Option Tmp)(v:Value):(a.put d v).defers=a.defers:=by cases d<;>rfl
theorem cK.put{n:Nat}{T:Nat→AV}{a:Act}{o:Oper}{x:AV}{V:Value}(t:cK Z ψ h w n T a)(hd:iG n o=true)(hx:au Z ψ h w x V):cK Z ψ h w n (hZ T o.dst x) (a.put o.dst V):=by
 refine⟨fun d=>?_,by rw[cp];exact t.size,by rw[put_defers];exact t.defers⟩;unfold iG at hd
 split at hd
 ·rename_i d0 hd0;rw[hd0];rw[ib (by rw[t.size];simpa using hd)];simp only[hZ,dO]
  split
  ·exact hx
  ·exact t.rep d
 ·rename_i hd0;rw[hd0];exact t.rep d
theorem cK.next{n:Nat}{T:Nat→AV}{a:Act}(t:cK Z ψ h w n T a)(g:Good Z ψ h w B0 O)(hn:Next Z ψ h w B0 O N Z' ψ' h' w')(hm:∀d,aD (fun i=>¬N i) (T d)):cK Z' ψ' h' w' n T a :=⟨fun d=>hn.rep g (hm d) (t.rep d),t.size,t.defers⟩
theorem rm{n:Nat}{s:List (Nat×AV)}{a:Act}(t:cK Z ψ h w n (look s) a)(x:Operand):au Z ψ h w (ρ s x) (a.eval x):=by
 cases x with
 |tmp i=>exact t.rep i
 |const v=>exact G4 v
 |global g=>simp only[ρ,au]
 |func f=>simp only[ρ,au,an,Act.eval];exact⟨#[],rfl,rfl⟩
theorem Bh(p:Nat→Prop)(v:Value):aD p (tX v):=by
 cases v with
 |agg cs=>simp only[tX,aD];exact w5 p _
 |_=>simp only[tX];exact A6 p _
theorem NV{p:Nat→Prop}{s:List (Nat×AV)}(hm:∀d,aD p (look s d))(x:Operand):aD p (ρ s x):=by
 cases x with
 |tmp i=>exact hm i
 |const v=>exact Bh p v
 |global g=>simp only[ρ,aD]
 |func f=>simp only[ρ,aD,av]
def mO(rid:Nat)(S:Nat→Prop)(id:Nat):Prop:=id / 32768=rid+1→S (id / 256%128)
def Of(rid i id:Nat):Prop:=id / 256=(rid+1)*128+i
theorem Of.parts{rid i id:Nat}(hi:i<128)(h:Of rid i id):id / 32768=rid+1∧id / 256%128=i:=by unfold Of at h;constructor<;>omega
theorem Of.of{rid i id:Nat}(h:id / 32768=rid+1)(hi:id / 256%128=i):Of rid i id:=by unfold Of;omega
theorem LV{rid i j:Nat}(hj:j<256):Of rid i (opId rid i+j):=by unfold Of opId;omega
theorem Hz{rid i:Nat}:Of rid i (opId rid i):=by unfold Of opId;omega
theorem mO.Bi{rid i id:Nat}{S:Nat→Prop}(hi:i<128)(hs:¬S i)(h:mO rid S id):¬Of rid i id:=fun ho=>by obtain⟨h1,h2⟩:=ho.parts hi;have:=h h1;rw[h2]at this;exact hs this
theorem ox{rid bits id:Nat}{S:Nat→Prop}(hb:∀j,bits.testBit j=true→S j)(h:qY rid bits id=true):mO rid S id:=fun h1=>by unfold qY at h;simp only[Bool.or_eq_true,bne_iff_ne,ne_eq]at h;exact hb _ (h.resolve_left (fun h2=>h2 h1))
mutual
theorem pU{rid bits:Nat}{S:Nat→Prop}(hb:∀j,bits.testBit j=true→S j):∀{v:AV},tv rid bits v=true→aD (mO rid S) v
 |.ref id s i off,h=>by simp only[tv]at h;simp only[aD];exact ox hb h
 |.bC id,h=>by simp only[tv]at h;simp only[aD];exact ox hb h
 |.fn f cap,h=>by simp only[tv]at h;simp only[aD];exact mj hb h
 |.agg cs,h=>by simp only[tv]at h;simp only[aD];exact mj hb h
 |.nF cs,h=>by simp only[tv]at h;simp only[aD];exact mj hb h
 |.no,_=>by simp only[aD]
 |.bool _,_=>by simp only[aD]
 |.int _ _,_=>by simp only[aD]
 |.str _,_=>by simp only[aD]
 |.lq,_=>by simp only[aD]
 |.fm,_=>by simp only[aD]
 |.fp _ _ _,_=>by simp only[aD]
 |.sl _ _ _,_=>by simp only[aD]
 |.mp _ _ _,_=>by simp only[aD]
theorem mj{rid bits:Nat}{S:Nat→Prop}(hb:∀j,bits.testBit j=true→S j):∀{v:List AV},AA rid bits v=true→av (mO rid S) v
 |[],_=>by simp only[av]
 |v::r,h=>by simp only[AA,Bool.and_eq_true]at h;simp only[av];exact⟨pU hb h.1,mj hb h.2⟩
end
theorem ml{rid bits:Nat}{S:Nat→Prop}(hb:∀j,bits.testBit j=true→S j):∀{hh:Heap},yf rid bits hh=true→∀id o,hh.get id=some o→mO rid S id∧∀ty cs,o=.box ty cs→av (mO rid S) cs
 |[],_,id,o,hg=>by simp[Heap.get]at hg
 |(i,ob)::r,h,id,o,hg=>by
  simp only[Heap.get]at hg
  split at hg
  ·rename_i e;subst e
   cases hg
   cases ob with
   |box ty cs =>simp only[yf,Bool.and_eq_true]at h;exact⟨ox hb h.1.1,fun zg cs' he=>by cases he;exact mj hb h.1.2⟩
   |own ok xs =>simp only[yf,Bool.and_eq_true]at h;exact⟨ox hb h.1,fun zg cs' he=>by cases he⟩
  ·refine ml hb ?_ id o hg
   cases ob<;>simp only[yf,Bool.and_eq_true]at h<;>exact h.2
def bq.heap(e:bq)(h:Heap):Heap:=match e with
 |.wr _ h'=>h'
 |e=>e.h h
theorem bq.HA(e:bq)(hh:Heap):(e.heap hh).get=e.hp hh.get:=by
 cases e with
 |val v=>rfl
 |new v os=>funext i;simp only[bq.heap,bq.h,bq.hp];rw[Heap.get_append];cases Heap.get os i<;>rfl
 |wr v h'=>rfl
def tI(p:Nat→Prop)(h:Hp):Prop:=∀i ty cs,h i=some (.box ty cs)→av p cs
theorem Bj{ops:Array Oper}{o:Oper}{n:Nat}{T:Nat→AV}{a:Act}(t:cK Z ψ h w n T a){j d:Nat}{want:Bool}(hg:o.guard=some (j,want))(hd:(ops[j]?).bind (·.dst)=some d){b:Bool}(hb:T d=.bool b) :
  Region.wanted o (yielded ops a.tmps)=(b==want):=by
 have h1:=t.rep d;rw[hb]at h1;simp only[au]at h1;have h2:a.tmps[d]? = some (.bool b):=by
  rw[Array.getD_eq_getD_getElem?]at h1
  cases e:a.tmps[d]? with
  |none=>rw[e]at h1;simp[undef]at h1
  |some v=>rw[e]at h1;simpa using h1
 unfold Region.wanted yielded;rw[hg];simp only[hd,Option.bind_some,h2]
 cases b<;>cases want<;>rfl
theorem yG{ops:Array Oper}{o:Oper}{n:Nat}{T:Nat→AV}{a:Act}(t:cK Z ψ h w n T a){j d:Nat}{want:Bool}(hg:o.guard=some (j,want))(hd:(ops[j]?).bind (·.dst)=some d){vs:List AV}(hb:T d=.nF vs) :
  Region.wanted o (yielded ops a.tmps)=false:=by
 have h1:=t.rep d;rw[hb]at h1;simp only[au]at h1;obtain⟨us,h1,_⟩:=h1;unfold Region.wanted yielded;rw[hg];simp only[hd,Option.bind_some];rw[Array.getD_eq_getD_getElem?]at h1
 cases e:a.tmps[d]? with
 |none=>rfl
 |some v=>rw[e]at h1;simp at h1;subst h1;rfl
def Bk(ops:Array Oper):Nat→List (Nat×Oper)→Prop
 |_,[]=>True
 |i,(j,o)::r=>j=i∧ops[i]? = some o∧Bk ops (i+1) r
theorem HB(ops:Array Oper):∀(l:List Oper) (i:Nat),(∀k o,l[k]? = some o→ops[i+k]? = some o)→Bk ops i ((l.zipIdx i).map fun p=>(p.2,p.1))
 |[],_,_=>by simp[Bk]
 |o::r,i,h=>by simp only[List.zipIdx_cons,List.map_cons,Bk];exact⟨trivial,h 0 o rfl,HB ops r (i+1) fun k o' hk=>by rw[Nat.add_assoc,Nat.add_comm 1 k];exact h (k+1) o' hk⟩
theorem oy(ops:Array Oper):Bk ops 0 (ops.toList.zipIdx.map fun p=>(p.2,p.1)):=HB ops _ 0 fun k o hk=>by simpa using hk
theorem Ek(ops:Array Oper):(ops.toList.zipIdx.map fun p=>(p.2,p.1)).map Prod.fst=List.range ops.size:=by rw[List.map_map];have:(Prod.fst ∘ fun(p:Oper×Nat)=>(p.2,p.1))=Prod.snd:=rfl;rw[this,List.zipIdx_map_snd,List.range_eq_range',Array.length_toList]
structure J(p:Nat→Prop)(n:Nat)(Z0:Nat→Prop)(w0:World)(O:Nat→Prop)(ψ0:Nat→Value)(Z:Nat→Prop)(ψ:Nat→Value)(T:Nat→AV)(h:Hp)(a:Act)(w:World):Prop where
 ok:Ok Z0 w0 O ψ0 Z ψ h w
 tr:cK Z ψ h w n T a
 tm:∀d,aD p (T d)
 hm:tI p h
theorem J.imp{p q:Nat→Prop}{n:Nat}{T:Nat→AV}{a:Act}(j:J p n Z0 w0 O ψ0 Z ψ T h a w)(zo:∀id,p id→q id):J q n Z0 w0 O ψ0 Z ψ T h a w :=⟨j.ok,j.tr,fun d=>(j.tm d).imp zo,fun id ty cs hb=>(j.hm id ty cs hb).imp zo⟩
theorem J.op(E:Env P Eqs Sg F){rid n i:Nat}{p:Nat→Prop}{T:Nat→AV}{a:Act}{s:List (Nat×AV)}{o:Oper}(hS:makes o.op=true→∀id,p id→¬Of rid i id)(j:J p n Z0 w0 O ψ0 Z ψ T h a w)(hd:iG n o=true) (hT:∀x∈o.op.operands,au Z ψ h w (ρ s x) (a.eval x)) (hTm:∀x∈o.op.operands,aD p (ρ s x)) {hh:Heap} (ba:∀id o,hh.get id=some o→h id=some o) {e:bq} (he:cI P Eqs Sg F (opId rid i) hh s o some=some e) (lZ:∀v hw,e=.wr v hw→hh.get=h) {p':Nat→Prop} (Pu:∀k,p k→p' k) (hv:aD p' e.v) (XJ:tI p' (e.hp h)) {next:Act→World→Prop} {Q:Exit→Act→World→Prop} (hk:∀a' w' Z' ψ',J p' n Z0 w0 O ψ0 Z' ψ' (hZ T o.dst e.v) (e.hp h) a' w'→next a' w'):o.wp P a w next Q:=by
 have XK:∀id,p id→¬(makes o.op=true∧Of rid i id):=fun id h ⟨h1,h2⟩=>hS h1 id h h2;refine V7 (N:=fun id=>makes o.op=true∧Of rid i id) E j.ok.da j.ok.size ba (id:=opId rid i) (fun hm k hk=>⟨hm,LV hk⟩) hT (fun x hx=>(hTm x hx).imp XK) (fun id ty cs hb=>(j.hm id ty cs hb).imp XK) lZ he fun V w' Z' ψ' nx hr=>?_;refine hk _ w' Z' ψ' ⟨j.ok.next (fun id h=>by have:=h.2;unfold Of at this;omega) nx,(j.tr.next j.ok.da nx (fun d=>(j.tm d).imp XK)).put hd hr,fun d=>?_,XJ⟩
 cases lf:o.dst with
 |none=>exact(j.tm d).imp Pu
 |some d0 =>
  simp only[hZ,dO]
  split
  ·exact hv
  ·exact(j.tm d).imp Pu
theorem J.skip{n:Nat}{p p':Nat→Prop}{T:Nat→AV}{a:Act}{o:Oper}(j:J p n Z0 w0 O ψ0 Z ψ T h a w)(hd:iG n o=true)(Pu:∀k,p k→p' k) :
  J p' n Z0 w0 O ψ0 Z ψ (hZ T o.dst (.nF [])) h (a.put o.dst undef) w:=by
 refine⟨j.ok,j.tr.put hd NU,fun d=>?_,fun id ty cs hb=>(j.hm id ty cs hb).imp Pu⟩
 cases lf:o.dst with
 |none=>exact(j.tm d).imp Pu
 |some d0 =>
  simp only[hZ,dO]
  split
  ·simp only[aD,av]
  ·exact(j.tm d).imp Pu
theorem Ut{hh:Heap}(g:Good Z ψ hh.get w B0 O){m:Nat}{kk vk:K}{es:List (kk.T×vk.T)}(hg:hh.get m=some (.own (.map kk vk) es))(n:Next Z ψ hh.get w B0 O N Z' ψ' h' w')(hzm:∀b,ob (ψ m)=some b→Z' b) (hold:∀b,b<w.heap.size→w'.heap[b]? = w.heap[b]?) {v:AV} {V:Value} (hm:aD (fun id=>¬N id) v) (hr:au Z ψ hh.get w v V):au Z' ψ' h' w' (zh m (.mp kk vk es) v) V:=by
 by_cases hv:v=.bC m
 ·subst hv;simp only[zh,if_true];simp only[au]at hr;have hu:=hr.2 (by rw[hg];simp);obtain⟨r,bQ,clock,h1,h2,h3,_⟩:=g.row m (.map kk vk) es hg;rw[h1]at hu;subst hu;have aF:=(abX.1 h2).1;simp only[au,aB];exact⟨some r,rfl,.inr ⟨r,bQ,clock,rfl,hzm r (by rw[h1];rfl),(hold r aF).trans h2,h3.imp (fun _ _ h=>h.mono n.fN (fun b hb=>hold b (g.jO b hb))) (fun _ _ h=>h.mono n.fN (fun b hb=>hold b (g.jO b hb)))⟩⟩
 ·have hf:zh m (.mp kk vk es) v=v:=by
   unfold zh
   split
   ·split
    ·rename_i e;subst e;exact absurd rfl hv
    ·rfl
   ·rfl
  rw[hf];exact n.rep g hm hr
theorem Qn{p:Nat→Prop}{m:Nat}{kk vk:K}{es:List (kk.T×vk.T)}{v:AV}(hm:aD p v):aD p (zh m (.mp kk vk es) v):=by
 unfold zh
 split
 ·split
  ·simp only[aD]
  ·exact hm
 ·exact hm
theorem sy(f:AV→AV)(hf:f .no=.no):∀(l:List (Nat×AV)) (d:Nat),look (l.map fun p=>(p.1,f p.2)) d=f (look l d)
 |[],_=>by simp only[List.map_nil,look];exact hf.symm
 |(i,v)::r,d=>by
  simp only[List.map_cons,look]
  split
  ·rfl
  ·exact sy f hf r d
theorem Kk{rid n i:Nat}{p p':Nat→Prop}{st eu:St}{a:Act}{o:Oper}(hS:∀id,p id→¬Of rid i id)(Pu:∀k,p k→p' k)(P7:p' (opId rid i))(j:J p n Z0 w0 O ψ0 Z ψ (look st.tmps) st.heap.get a w)(hd:iG n o=true)(oz:pn P (opId rid i) st o=some eu) :
  ∃V w' Z' ψ',(execOp a.eval o).run P w=.ok (.value V) w'∧J p' n Z0 w0 O ψ0 Z' ψ' (look eu.tmps) eu.heap.get (a.put o.dst V) w':=by
 unfold pn at oz
 split at oz
 ·rename_i t x C3
  split at oz
  ·rename_i ka va m hu hx
   split at oz
   ·rename_i kk vk es hg
    cases oz
    have V8:au Z ψ st.heap.get w (.bC m) (a.eval x):=by rw[←hx];exact rm j.tr x
    simp only[au]at V8;have hev:=V8.2 (by rw[hg];simp);have g:=j.ok.da;obtain⟨r,bQ,clock,h1,h2,h3,h4,h5⟩:=g.row m (.map kk vk) es hg;rw[h1]at hev;have aF:=(abX.1 h2).1;have gd:=iK g [.bC m];have aae:∀b,ob (ψ m)=some b→qM Z ψ st.heap.get [.bC m] b:=fun b hb=>.inr ⟨m,by simp,by rw[hg];simp,hb⟩;have hold:∀b,b<w.heap.size→(w.alloc (.mapIter (some r) clock #[] clock)).heap[b]? = w.heap[b]? := fun b hb=>heap_alloc_old w _ hb;have hN:(Of rid i) (opId rid i):=Hz;have n1:=AX (N:=Of rid i) gd j.ok.size (opId rid i) hN (ok:=.iter kk vk) (x:=(none,es)) (v:=.pointer (some ⟨w.heap.size,0,none⟩)) (.mapIter (some r) clock #[] clock) ⟨w.heap.size,r,clock,#[],bQ,clock,rfl,heap_alloc_new _ _,aae r (by rw[h1];rfl),(hold r aF).trans h2,h4,rfl,h5,by rw[List.filter_eq_self.2 (fun e _=>by simp)];exact h3.imp (fun _ _ h=>h.mono (fun b hb=>.inl hb) (fun b hb=>hold b (g.jO b hb))) (fun _ _ h=>h.mono (fun b hb=>.inl hb) (fun b hb=>hold b (g.jO b hb))),trivial⟩ rfl (fun i' ty cs hb=>av.imp (p:=p) (q:=fun i'=>i'≠opId rid i) (fun id hp e=>hS id hp (by rw[e];exact hN)) (j.hm i' ty cs (dW _ _ _ _ hb)));have n2:=n1.drop (Z:=Z) (h:=st.heap.get) (fun b hb=>.inl hb) (fun b hb=>hb.imp (fun h=>h) (fun⟨id,_,h5,h6⟩=>⟨id,h5,h6⟩)) (dW _ _);have fw:(dO (cC st.heap [.bC m]).get (opId rid i) (some (Ob.own (.iter kk vk) (none,es))))=Heap.get ((opId rid i,.own (.iter kk vk) (none,es))::st.heap.del m):=by
     funext k;simp only[cC,drop1,dO,Heap.get];by_cases e:k=opId rid i
     ·subst e;simp
     ·rw[if_neg e,if_neg (fun h=>e h.symm)]
    rw[fw]at n2;refine⟨.pointer (some ⟨w.heap.size,0,none⟩),w.alloc (.mapIter (some r) clock #[] clock),qM Z ψ st.heap.get [.bC m],dO ψ (opId rid i) (.pointer (some ⟨w.heap.size,0,none⟩)),?_,?_⟩
    ·obtain⟨dst,op,type,pos,after,guard⟩:=o;simp only at C3;subst C3;have cJ:(Instr.range t (.map (some r))).run P w=.ok (.pointer (some ⟨w.heap.size,0,none⟩)) (w.alloc (.mapIter (some r) clock #[] clock)):=by simp only[Instr.range,Sem.run_bind,run_underlying hu,Result.andThen_ok,gk h2 (by simp),Sem.run_pure];rfl
     simp[execOp,hev,cJ]
    ·have aX:∀d,aD (fun id=>¬Of rid i id) (look st.tmps d):=fun d=>(j.tm d).imp hS;refine⟨by rw[cV];exact j.ok.next (fun id h=>by unfold Of at h;omega) n2,?_,fun d=>?_,fun k ty cs hb=>?_⟩
     ·rw[ia,cV];refine cK.put ⟨fun d=>?_,j.tr.size,j.tr.defers⟩ hd ?_
      ·rw[sy _ rfl];exact Ut g hg n2 (fun b hb=>aae b hb) hold (aX d) (j.tr.rep d)
      ·simp only[au];exact⟨⟨rfl,rfl⟩,fun _=>(aU _ _ _).symm⟩
     ·rw[ia];have hb:aD p' (look (st.tmps.map fun q=>(q.1,zh m (.mp kk vk es) q.2)) d):=by rw[sy _ rfl];exact Qn ((j.tm d).imp Pu)
      cases lf:o.dst with
      |none=>exact hb
      |some d0 =>
       simp only[hZ,dO]
       split
       ·simp only[aD];exact P7
       ·exact hb
     ·rw[cV]at hb;simp only[Heap.get]at hb
      split at hb
      ·cases hb
      ·exact(j.hm k ty cs (Heap.u4 hb).1).imp Pu
   ·cases oz
  ·cases oz
 ·cases oz
theorem oC{R:Type}{n:Nat}{f:Nat→Option R}{r:R}(h:th n f=some r):∀j,j<n→f j=some r:=by
 unfold th at h
 split at h
 ·rename_i hx;cases h;exact Classical.choose_spec hx
 ·cases h
theorem np{R:Type}{n:Nat}{f:Nat→Option R}{r:R}(hn:0<n)(h:∀j,j<n→f j=some r):th n f=some r:=by unfold th;have hx:∃r,∀j,j<n→f j=some r:=⟨r,h⟩;rw[dif_pos hx];have:=Classical.choose_spec hx 0 hn;rw[h 0 hn]at this;exact this.symm
theorem Next.drawn{d:Nat}(n:Next Z ψ h { w with drawn:=d } B0 O N Z' ψ' h' w'):Next Z ψ h w B0 O N Z' ψ' h' w' :=⟨n.fN,n.eC,⟨n.keep.os,n.keep.tape,n.keep.output,n.keep.size,n.keep.block⟩,n.ids,n.da⟩
theorem Good.drawn{d:Nat}(g:Good Z ψ h w B0 O):Good Z ψ h { w with drawn:=d } B0 O:=by
 have sm:cj Z w ({ w with drawn:=d }:World):=fun _ _=>rfl;refine⟨fun id ty cs hb=>?_,fun id ok xs hb=>?_,g.live,g.apart,g.jO⟩
 ·obtain⟨gg,vs,h1,h2,h3,h4⟩:=g.box id ty cs hb;exact⟨gg,vs,h1,h2,h3.less (fun _ h=>h) sm (fun i hi=>⟨hi,rfl⟩),h4⟩
 ·exact(g.row id ok xs hb).kept (fun _ h=>h) sm (fun gg _=>rfl)
theorem filter_push{l:List MapEntry}(h:l.Pairwise (fun a b=>a.born≠b.born)){seen:Array Nat}{j:Nat}{e:MapEntry}(he:(l.filter fun e => !seen.contains e.born)[j]? = some e) :
  l.filter (fun x => !(seen.push e.born).contains x.born)=(l.filter fun e => !seen.contains e.born).eraseIdx j:=by
 have h2:(l.filter fun e => !seen.contains e.born).Pairwise (fun a b=>a.born≠b.born):=h.sublist List.filter_sublist;rw[←ChangeMaps.filter_eq_eraseIdx (fun x=>x.born==e.born) _ j e he (by simp) (h2.imp fun {a b} aW hc=>aW (by simp only[beq_iff_eq]at hc;omega))];rw[List.filter_filter];congr 1;funext x;simp only[Array.contains_push]
 cases seen.contains x.born<;>cases x.born==e.born<;>rfl
theorem Kl{R:Type}{hh:Heap}(g:Good Z ψ hh.get w B0 O){x:AV}{u:Value}{ty:TypeId}(hx:au Z ψ hh.get w x u){kk:AV→Heap→Option R}{r:R}(he:lr hh x kk=some r) :
  ∃v h' V w',(Instr.next u false ty).run P w=.ok V w'∧Next Z ψ hh.get w B0 O N Z ψ h'.get w'∧au Z ψ h'.get w' v V∧kk v h'=some r∧(∀p,aD p v)∧∀i ty cs,h'.get i=some (.box ty cs)→hh.get i=some (.box ty cs):=by
 unfold lr at he
 split at he
 ·rename_i id
  split at he
  ·rename_i kk1 vk pp hg;simp only[au]at hx;have hu:=hx.2 (by rw[hg];simp);obtain⟨b,m,since,seen,bQ,clock,h1,h2,h3,h4,h5,h6,h7,h8,h9⟩:=g.row id (.iter kk1 vk) pp hg;rw[h1]at hu;subst hu;subst h6;have aF:=(abX.1 h2).1;have V9:(leftOf bQ seen).toList=bQ.toList.filter fun e => !seen.contains e.born:=by unfold leftOf;simp
   have hlen:pp.2.length=(leftOf bQ seen).size:=by rw[h8.1,←V9,Array.length_toList]
   rcases run_next_at (P:=P) w ty b m since since seen bQ since h2 h4 h7 (acn _) with⟨lY,cJ⟩|⟨e,gW,w1,Km,cJ⟩
   ·have NL:pp.2.isEmpty=true:=by rw[List.isEmpty_iff];exact ace (by rw[hlen,lY])
    rw[NL]at he;simp only[cond_true]at he;exact⟨_,hh,_,w,cJ,Next.refl g,by simp only[au,an];exact⟨_,rfl,_,_,rfl,rfl,rfl⟩,he,fun p=>by simp only[aD,av];exact⟨trivial,trivial⟩,fun _ _ _ h=>h⟩
   ·obtain⟨k,hk,hke⟩:=aeb.1 gW;have mY:k<pp.2.length:=by rw[hlen,←Array.length_toList];exact hk
    have NL:pp.2.isEmpty=false:=by
     cases hl:pp.2 with
     |nil=>rw[hl]at mY;simp at mY
     |cons _ _=>rfl
    rw[NL]at he;simp only[cond_false]at he;have hj:=oC he k mY;rw[List.getElem?_eq_getElem mY,Option.bind_some]at hj;have XL:(bQ.toList.filter fun e => !seen.contains e.born)[k]? = some e:=by rw[←V9,List.getElem?_eq_getElem hk,hke]
    have Fs:=h8.2 k _ e (abv mY) XL;obtain⟨⟨k1,k2,k3⟩,v1,v2,v3⟩:=Fs;have aeZ:e∈bQ.toList:=(ad4.1 (acy XL)).1;have gd1:Good Z ψ hh.get w1 B0 O:=by rcases Km with rfl|rfl;exact g;exact g.drawn
    have FF:w1.heap=w.heap:=by rcases Km with rfl|rfl<;>rfl
    have hmb:m≠b:=fun hmb=>by subst hmb;exact(g.live id m (by rw[hg];simp) (by rw[h1];rfl)).1 h3
    have n1:=so (N:=N) gd1 (id:=id) (by rw[hg];simp) (r:=b) (by rw[h1];rfl) (by rw[FF];exact aF) (.mapIter (some m) since (seen.push e.born) since) (ok:=.iter kk1 vk) (x:=(some pp.2[k],pp.2.eraseIdx k)) (fun w' JF sm=>by
     have Y7:cj Z w w':=fun c hc=>(sm c hc).trans (by rw[FF]);refine⟨b,m,since,seen.push e.born,bQ,since,h1,by rw[JF,FF];simp[aF],h3,?_,h5,rfl,h7,?_,?_⟩
     ·rw[JF,FF,wZ _ (fun e=>hmb e.symm)];exact h4
     ·rw[filter_push h5 XL];exact(kx.erase h8 k).mono (fun _ h=>h) Y7
     ·refine⟨e,aeZ,by simp,⟨rfl,fun q y e' lY zj=>?_⟩⟩
      cases q with
      |zero=>cases lY;cases zj;exact⟨⟨k1.mono (fun _ h=>h) Y7,k2,k3⟩,v1.mono (fun _ h=>h) Y7,v2,v3⟩
      |succ q=>simp at lY)
    have n2:Next Z ψ hh.get w B0 O N Z ψ (dO hh.get id (some (.own (.iter kk1 vk) (some pp.2[k],pp.2.eraseIdx k)))) { w1 with heap:=w1.heap.setIfInBounds b (.mapIter (some m) since (seen.push e.born) since) }:=by
     rcases Km with rfl|rfl
     ·exact n1
     ·exact n1.drawn
    refine⟨_,hh.set id (.own (.iter kk1 vk) (some pp.2[k],pp.2.eraseIdx k)),_,_,cJ,by rw[kg];exact n2,?_,hj,fun p=>?_,fun i ty cs hb=>?_⟩
    ·have Y7:cj Z w ({ w1 with heap:=w1.heap.setIfInBounds b (.mapIter (some m) since (seen.push e.born) since) }:World):=n2.same g;simp only[au,an];exact⟨_,rfl,_,_,rfl,rfl,_,_,rfl,lX (k1.mono (fun _ h=>h) Y7) k2 k3,_,_,rfl,lX (v1.mono (fun _ h=>h) Y7) v2 v3,rfl⟩
    ·simp only[aD,av];exact⟨trivial,ov _ _ _,ov _ _ _,trivial⟩
    ·rw[kg]at hb;unfold dO at hb
     split at hb
     ·cases hb
     ·exact hb
  ·cases he
 ·cases he
theorem HC(op:BinOp)(t:TypeId)(a b:Operand)(x y:Option Addr)(n m c d:Nat):(eqGuard op t a b (.slice x n c) (.slice y m d)).run P w=.ok () w:=by cases op<;>simp[eqGuard]
theorem Di{t e:TypeId}(ht:P.underlying t=some (.slice e))(a:Option Addr)(n c:Nat):(Op.equal t (.slice a n c) (.slice none 0 0)).run P w=.ok a.isNone w:=by
 have key:∀d,(Op.equalIn (d+1) t (.slice a n c) (.slice none 0 0)).run P w=.ok a.isNone w:=fun d=>by cases a<;>simp[Op.equalIn,run_underlying ht]
 exact key 9999
theorem Kn{o:Oper}{x:Operand}{want:Bool}(h:isNil P o=some (x,want)):∃op t v t' e,o.op=.binOp op t x (.const v) t'∧P.underlying t=some (.slice e)∧v=.slice none 0 0∧((op=.eql∧want=true)∨(op=.neq∧want=false)):=by
 unfold isNil at h
 split at h
 ·rename_i op t x' v t' C3;have hv:∀v:Value,wL v=.fm→v=.slice none 0 0:=fun v hv=>by
   unfold wL at hv
   split at hv<;>try (first|cases hv|(split at hv<;>cases hv);done)
   all_goals (split at hv<;>first|cases hv|skip)
   ·rename_i hc;obtain⟨rfl,rfl,rfl⟩:=hc;rfl
   all_goals (split at hv<;>cases hv)
  split at h
  ·rename_i e h1 h2 h3;cases h;exact⟨_,_,_,_,_,C3,h2,hv _ h3,.inl ⟨rfl,rfl⟩⟩
  ·rename_i e h1 h2 h3;cases h;exact⟨_,_,_,_,_,C3,h2,hv _ h3,.inr ⟨rfl,rfl⟩⟩
  ·cases h
 ·cases h
theorem Qo{R:Type}{hh:Heap}(g:Good Z ψ hh.get w B0 O){x:AV}{u:Value}{op:BinOp}{t e:TypeId}(xo yo:Operand)(hx:au Z ψ hh.get w x u)(ht:P.underlying t=some (.slice e)){want:Bool}(ho:(op=.eql∧want=true)∨(op=.neq∧want=false)){kk:AV→Option R}{r:R}(he:uX hh x want kk=some r) :
  ∃c:Bool,((eqGuard op t xo yo u (.slice none 0 0)).run P w=.ok () w∧(binOp op t u (.slice none 0 0)).run P w=.ok (.bool c) w)∧kk (.bool c)=some r:=by
 have run:∀(a:Option Addr) (n c:Nat),(eqGuard op t xo yo (.slice a n c) (.slice none 0 0)).run P w=.ok () w∧(binOp op t (.slice a n c) (.slice none 0 0)).run P w=.ok (.bool (a.isNone==want)) w:=fun a n c=>by refine⟨HC _ _ _ _ _ _ _ _ _ _,?_⟩;rcases ho with⟨rfl,rfl⟩|⟨rfl,rfl⟩<;>simp only[Sem.run_bind,Result.andThen_ok,binOp,Di ht,Sem.run_pure]<;>cases a.isNone<;>rfl
 have fin:∀(n:Nat) (a:Option Addr) (c:Nat) (xs:Bool),(a=none→xs=true)→cond xs (th 2 fun j=>kk (.bool ((j==0)==want))) (kk (.bool (!want)))=some r → ∃c':Bool,((eqGuard op t xo yo (.slice a n c) (.slice none 0 0)).run P w=.ok () w∧(binOp op t (.slice a n c) (.slice none 0 0)).run P w=.ok (.bool c') w)∧kk (.bool c')=some r:=fun n a c xs yl h=>by
  refine⟨_,run a n c,?_⟩
  cases xs with
  |true =>
   simp only[cond_true]at h
   cases a with
   |none=>exact oC h 0 (by decide)
   |some a=>exact oC h 1 (by decide)
  |false =>
   simp only[cond_false]at h
   cases a with
   |none=>cases yl rfl
   |some a=>cases want<;>exact h
 unfold uX at he
 split at he
 ·rename_i hv;have hxn:x=.fm:=by
   cases x<;>simp only[cG]at hv<;>try cases hv
   ·rfl
   ·split at hv<;>cases hv
  subst hxn;simp only[au]at hx;subst hx;exact⟨_,run none 0 0,by cases want<;>exact he⟩
 ·rename_i ex k xs hv
  cases x with
  |sl ex' k' ZC =>
   simp only[cG]at hv
   cases hv
   simp only[au,aB]at hx;obtain⟨⟨v,hv,A,c,rfl,h1,h2,_⟩,_⟩:=hx
   cases hv
   refine fin _ A c _ (fun hA=>?_) he;have:=h2 hA;rw[List.isEmpty_iff];exact ace (by omega)
  |bC id =>
   simp only[cG]at hv;simp only[au]at hx
   split at hv
   ·rename_i hg
    cases hv
    have hu:=hx.2 (by rw[hg];simp);obtain⟨vs,⟨_,h1⟩,_⟩:=g.row id _ _ hg;rw[←hu]at h1;rcases h1 with⟨h1,A,rfl⟩|⟨gg,cap,cur,rfl,_⟩
    ·exact fin _ A 0 _ (fun _=>List.isEmpty_iff.2 (ace h1)) he
    ·exact fin _ _ _ _ (fun h=>by cases h) he
   ·cases hv
   ·cases hv
  |_=>simp only[cG]at hv<;>cases hv
 ·cases he
theorem Bl{draw:Bool}{rid:Nat}{ops:Array Oper}{b:Array Nat}{i JU:Nat}{e:bq}{S:Nat→Prop}{hh:Heap}(hm:tI (mO rid S) h)(ha:∀j,JU.testBit j=true→S j)(he:gP draw rid ops b i JU e=true) :
  aD (mO rid fun k=>S k∨k=i) e.v∧tI (mO rid fun k=>S k∨k=i) (e.hp h):=by
 have GZ:∀j,(JU ||| 2 ^ i).testBit j=true→S j∨j=i:=fun j hj=>by
  rw[Nat.testBit_or,Bool.or_eq_true]at hj;rcases hj with hj|hj
  ·exact .inl (ha j hj)
  ·rw[Nat.testBit_two_pow]at hj;exact .inr (by simpa using hj:i=j).symm
 have up:tI (mO rid fun k=>S k∨k=i) h:=fun id ty cs hb=>(hm id ty cs hb).imp (fun id h1 h2=>.inl (h1 h2))
 cases e with
 |val v=>exact⟨pU (fun j hj=>.inl (ha j hj)) he,up⟩
 |new v os =>
  simp only[gP,Bool.and_eq_true]at he;refine⟨pU GZ he.1.1,fun id ty cs hb=>?_⟩;simp only[bq.hp]at hb
  split at hb
  ·rename_i o ho
   cases hb
   exact(ml GZ he.2 _ _ ho).2 _ _ rfl
  ·exact up id ty cs hb
 |wr v h' =>simp only[gP,Bool.and_eq_true]at he;exact⟨pU GZ he.1.2,fun id ty cs hb=>(ml GZ he.2 _ _ hb).2 _ _ rfl⟩
theorem Dk{i j:Nat}(h:(2 ^ i-1).testBit j=true):j<i:=by rw[Nat.testBit_two_pow_sub_one]at h;simpa using h
def xg(mk:Bool)(rid i id:Nat):Prop:=mk=true→mO rid (fun k=>k<i) id
theorem lJ(E:Env P Eqs Sg F){rid n:Nat}{ops:Array Oper}{b:Array Nat}(mk:Bool)(Ko:mk=false→∀(i:Nat) (o:Oper),ops[i]? = some o→makes o.op=false)(hn:ops.size≤128)(lf:∀(i:Nat) (o:Oper),ops[i]? = some o→iG n o=true){kk:St→Option R}{r:R}{Q:Exit→Act→World→Prop} (hQ:∀eu Z ψ a w,kk eu=some r→Ok Z0 w0 O ψ0 Z ψ eu.heap.get w→cK Z ψ eu.heap.get w n (look eu.tmps) a→Q .normal a w) :
  ∀(l:List (Nat×Oper)) (i:Nat) (st:St) (Z:Nat→Prop) (ψ:Nat→Value) (a:Act) (w:World),Bk ops i l→bw P Eqs Sg F rid false ops b l st kk=some r → J (xg mk rid i) n Z0 w0 O ψ0 Z ψ (look st.tmps) st.heap.get a w→wpOps P ops Q (l.map Prod.fst) a w
 |[],i,st,Z,ψ,a,w,_,hx,j=>hQ st Z ψ a w hx j.ok j.tr
 |(i',o)::l,i,st,Z,ψ,a,w,hl,hx,j=>by
  obtain⟨rfl,ho,hl⟩:=hl;have hi:i'<128:=adL (abX.1 ho).1 hn;have TF:=lf i' o ho;have ih:=lJ E (rid:=rid) (b:=b) mk Ko hn lf hQ l (i'+1);have up:∀id,xg mk rid i' id→xg mk rid (i'+1) id:=fun id h hm hr=>Nat.lt_succ_of_lt (h hm hr);have runs:∀iL:St,look iL.tmps=look st.tmps→iL.heap=st.heap→Region.wanted o (yielded ops a.tmps)=true →(match pn P (opId rid i') iL o with
    |some eu=>bw P Eqs Sg F rid false ops b l eu kk
    |none=>match uW o with
    |some x=>lr iL.heap (ρ iL.tmps x) fun v h=>bw P Eqs Sg F rid false ops b l (({ iL with heap:=h }:St).put o.dst v) kk
    |none=>match isNil P o with
    |some (x,want)=>uX iL.heap (ρ iL.tmps x) want fun v=>bw P Eqs Sg F rid false ops b l (iL.put o.dst v) kk
    |none=>cI P Eqs Sg F (opId rid i') iL.heap iL.tmps o fun e=>if gP false rid ops b i' (2 ^ i' - 1) e then bw P Eqs Sg F rid false ops b l ({ iL with heap:=match e with | .wr _ h=>h|e=>e.h iL.heap }.put o.dst e.v) kk else none)=some r →
    wpOps P ops Q (((i',o)::l).map Prod.fst) a w:=by
   intro iL h1 h2 hw hx
   split at hx
   ·rename_i eu oz;simp only[List.map_cons,wpOps,ho,hw,if_true];refine .inl ?_;have aaf:makes o.op=true:=by
     unfold pn at oz
     split at oz
     ·rename_i C3;rw[C3];rfl
     ·cases oz
    have ae1:mk=true:=by
     cases NW:mk with
     |true=>rfl
     |false=>rw[Ko NW i' o ho]at aaf;cases aaf
    have j1:J (xg mk rid i') n Z0 w0 O ψ0 Z ψ (look iL.tmps) iL.heap.get a w:=by rw[h1,h2];exact j
    obtain⟨V,w',Z',ψ',cJ,j'⟩:=Kk (P:=P) (p':=xg mk rid (i'+1)) (fun id hp nL=>by obtain⟨h3,h4⟩:=nL.parts hi;have:=hp ae1 h3;rw[h4]at this;exact Nat.lt_irrefl _ this) up (fun _ h3=>by have:=((Hz (rid:=rid) (i:=i')).parts hi).2;rw[this];exact Nat.lt_succ_self _) j1 TF oz;unfold Oper.wp;rw[cJ];exact ih eu Z' ψ' _ w' hl hx j'
   split at hx
   ·rename_i x El;simp only[List.map_cons,wpOps,ho,hw,if_true];refine .inl ?_;have C3:o.op=.next x false:=by
     unfold uW at El
     split at El
     ·rename_i C3;cases El;exact C3
     ·cases El
    have V8:au Z ψ iL.heap.get w (ρ iL.tmps x) (a.eval x):=rm (by rw[h1,h2];exact j.tr) x;have g1:Good Z ψ iL.heap.get w w0.heap.size O:=by rw[h2];exact j.ok.da
    obtain⟨v,h',V,w',cJ,nx,hr,Ue,TA,qF⟩:=Kl (P:=P) (N:=fun _=>False) (ty:=o.type) g1 V8 hx;have Qp:(execOp a.eval o).run P w=.ok (.value V) w':=by obtain⟨dst,op,type,pos,after,guard⟩:=o;simp only at C3;subst C3;simp only at cJ;simp[execOp,cJ]
    unfold Oper.wp;rw[Qp];refine ih _ Z ψ _ w' hl Ue ?_;rw[ia,cV];have j1:J (xg mk rid i') n Z0 w0 O ψ0 Z ψ (look iL.tmps) iL.heap.get a w:=by rw[h1,h2];exact j
    refine⟨j1.ok.next (fun id h=>h.elim) nx,(j1.tr.next g1 nx (fun d=>(j1.tm d).imp fun _ _ h=>h)).put TF hr,fun d=>?_,fun k ty cs hb=>(j1.hm k ty cs (qF k ty cs hb)).imp up⟩
    cases lf:o.dst with
    |none=>exact(j1.tm d).imp up
    |some d0 =>
     simp only[hZ,dO]
     split
     ·exact TA _
     ·exact(j1.tm d).imp up
   split at hx
   ·rename_i x want hnl;obtain⟨op,t,v,t',et,C3,ht,rfl,rp⟩:=Kn hnl;simp only[List.map_cons,wpOps,ho,hw,if_true];refine .inl ?_;have V8:au Z ψ iL.heap.get w (ρ iL.tmps x) (a.eval x):=rm (by rw[h1,h2];exact j.tr) x;have g1:Good Z ψ iL.heap.get w w0.heap.size O:=by rw[h2];exact j.ok.da
    obtain⟨c,cJ,Ue⟩:=Qo (P:=P) g1 x (.const (.slice none 0 0)) V8 ht rp hx;have Qp:(execOp a.eval o).run P w=.ok (.value (.bool c)) w:=by obtain⟨dst,op',type,pos,after,guard⟩:=o;simp only at C3;subst C3;have e1:a.eval (.const (.slice none 0 0))=.slice none 0 0:=rfl;simp[execOp,e1,cJ.1,cJ.2]
    unfold Oper.wp;rw[Qp];refine ih _ Z ψ _ w hl Ue ?_;rw[ia,cV];have j1:J (xg mk rid i') n Z0 w0 O ψ0 Z ψ (look iL.tmps) iL.heap.get a w:=by rw[h1,h2];exact j
    refine⟨j1.ok,j1.tr.put TF (by simp only[au]),fun d=>?_,fun k ty cs hb=>(j1.hm k ty cs hb).imp up⟩
    cases lf:o.dst with
    |none=>exact(j1.tm d).imp up
    |some d0 =>
     simp only[hZ,dO]
     split
     ·simp only[aD]
     ·exact(j1.tm d).imp up
   rw[lH]at hx;obtain⟨e,he,hx⟩:=ac6.1 hx
   split at hx
   ·rename_i ki;simp only[List.map_cons,wpOps,ho,hw,if_true];refine .inl ?_;have hh:iL.heap.get=st.heap.get:=by rw[h2]
    have oz:aD (xg mk rid (i'+1)) e.v∧tI (xg mk rid (i'+1)) (e.hp st.heap.get):=by
     cases NW:mk with
     |false =>have ht:xg false rid (i'+1)=fun _=>True:=funext fun id=>propext ⟨fun _=>trivial,fun _ h=>by cases h⟩;rw[ht];exact⟨aD.top _,fun _ _ cs _=>av.top cs⟩
     |true =>
      have Ui:tI (mO rid fun k=>k<i') st.heap.get:=fun id ty cs hb=>(j.hm id ty cs hb).imp fun id h1=>h1 NW;have h3:=Bl (hh:=iL.heap) Ui (fun k hk=>Dk hk) ki;have hS:∀k,(k<i'∨k=i')→k<i'+1:=fun k hk=>by omega
      exact⟨h3.1.imp fun id h1 _ h2=>hS _ (h1 h2),fun id ty cs hb=>(h3.2 id ty cs hb).imp fun id h1 _ h2=>hS _ (h1 h2)⟩
    refine J.op E (p:=xg mk rid i') (p':=xg mk rid (i'+1)) (rid:=rid) (i:=i') (s:=iL.tmps) (fun hm id hp nL => ?_) j TF (fun x _=>rm (by rw[h1];exact j.tr) x) (fun x _=>NV (by rw[h1];exact j.tm) x) (fun id o hg=>by rw[hh]at hg;exact hg) he (fun _ _ _=>hh) up oz.1 oz.2 fun a' w' Z' ψ' j' => ?_
    ·cases NW:mk with
     |false=>rw[Ko NW i' o ho]at hm;cases hm
     |true =>obtain⟨h3,h4⟩:=nL.parts hi;have:=hp NW h3;rw[h4]at this;exact Nat.lt_irrefl _ this
    refine ih _ Z' ψ' a' w' hl hx ?_;rw[ia,cV];have j2:J (xg mk rid (i'+1)) n Z0 w0 O ψ0 Z' ψ' (hZ (look iL.tmps) o.dst e.v) (bq.heap e iL.heap).get a' w':=by rw[bq.HA,h1,h2];exact j'
    exact j2
   ·cases hx
  have vt:∀iL:St,look iL.tmps=look st.tmps→iL.heap=st.heap→Region.wanted o (yielded ops a.tmps)=false → bw P Eqs Sg F rid false ops b l (iL.put o.dst (.nF [])) kk=some r→wpOps P ops Q (((i',o)::l).map Prod.fst) a w:=by intro iL h1 h2 hw hx;simp only[List.map_cons,wpOps,ho,hw,Bool.false_eq_true,if_false];refine ih _ Z ψ _ w hl hx ?_;rw[ia,cV,h1,h2];exact j.skip TF up
  rw[bw]at hx;simp only[Bool.false_eq_true,if_false]at hx
  split at hx
  ·rename_i hg;exact runs st rfl rfl (by simp[Region.wanted,hg]) hx
  ·rename_i jj want hg
   split at hx
   ·cases hx
   ·rename_i d hd
    split at hx
    ·rename_i t ht;have hw:=Bj j.tr hg hd ht;have hp:∀b,t=b→look (st.put (some d) (.bool b)).tmps=look st.tmps:=fun b hb=>by subst hb;rw[ia];exact Ej ht
     cases t<;>simp only[cond_true,cond_false]at hx<;>split at hx<;>rename_i rp
     ·exact vt _ (hp false rfl) (cV _ _ _) (by rw[hw];simp[rp]) hx
     ·exact runs _ (hp false rfl) (cV _ _ _) (by rw[hw];simp[rp]) hx
     ·exact runs _ (hp true rfl) (cV _ _ _) (by rw[hw];simp[rp]) hx
     ·exact vt _ (hp true rfl) (cV _ _ _) (by rw[hw];simp[rp]) hx
    ·rename_i vs ht;exact vt st rfl rfl (yG j.tr hg hd ht) hx
    ·cases hx
theorem kD(hp h:Heap)(i:Nat):∀(ft:List Nat),(eX ft hp h).get i=if i∈ft then(match hp.get i with|some o=>some o|none=>h.get i) else h.get i
 |[]=>by simp[eX]
 |j::r=>by
  have ih:=kD hp h i r;unfold eX at ih ⊢
  cases hj:hp.get j with
  |none =>
   rw[List.filterMap_cons,hj];simp only[Option.map_none];rw[ih];by_cases e:i=j
   ·subst e;simp[hj]
   ·simp[e]
  |some o =>
   rw[List.filterMap_cons,hj];simp only[Option.map_some,List.cons_append,Heap.get];rw[ih];by_cases e:j=i
   ·subst e;simp[hj]
   ·have e':¬i=j:=fun h=>e h.symm;simp[e,e']
mutual
theorem yH{ft:List Nat}:∀{v:AV},qZ ft v=true→aD (fun i=>i∉ft) v
 |.ref id _ _ _,h=>by simp only[aD];simpa[qZ] using h
 |.bC id,h=>by simp only[aD];simpa[qZ] using h
 |.fn _ cap,h=>by simp only[aD];exact kE (by simpa only[qZ] using h)
 |.agg cs,h=>by simp only[aD];exact kE (by simpa only[qZ] using h)
 |.nF vs,h=>by simp only[aD];exact kE (by simpa only[qZ] using h)
 |.no,_=>by simp only[aD]
 |.bool _,_=>by simp only[aD]
 |.int _ _,_=>by simp only[aD]
 |.str _,_=>by simp only[aD]
 |.lq,_=>by simp only[aD]
 |.fm,_=>by simp only[aD]
 |.fp _ _ _,_=>by simp only[aD]
 |.sl _ _ _,_=>by simp only[aD]
 |.mp _ _ _,_=>by simp only[aD]
theorem kE{ft:List Nat}:∀{l:List AV},tY ft l=true→av (fun i=>i∉ft) l
 |[],_=>by simp only[av]
 |v::r,h=>by simp only[tY,Bool.and_eq_true]at h;simp only[av];exact⟨yH h.1,kE h.2⟩
end
theorem kF{ft:List Nat}:∀{hh:Heap},tZ ft hh=true→∀i o,hh.get i=some o→i∉ft∧∀ty cs,o=.box ty cs→av (fun i=>i∉ft) cs
 |[],_,i,o,h=>by simp[Heap.get]at h
 |(j,.box ty cs)::r,hc,i,o,h=>by
  simp only[tZ,Bool.and_eq_true]at hc;simp only[Heap.get]at h
  split at h
  ·rename_i e;subst e;cases h;exact⟨by simpa using hc.1,fun ty cs e=>by cases e;exact kE hc.2.1⟩
  ·exact kF hc.2.2 i o h
 |(j,.own ok x)::r,hc,i,o,h=>by
  simp only[tZ,Bool.and_eq_true]at hc;simp only[Heap.get]at h
  split at h
  ·rename_i e;subst e;cases h;exact⟨by simpa using hc.1,fun ty cs e=>by cases e⟩
  ·exact kF hc.2 i o h
theorem Next.frame{hp h1:Heap}{ft:List Nat}(g:Good Z ψ hp.get w B0 O)(hB:B0≤w.heap.size)(aX:∀i ty cs,hp.get i=some (.box ty cs)→av (fun i=>¬N i) cs) (n:Next Z ψ (g6 hp ft).get w w.heap.size (Own ψ (g6 hp ft).get) N Z' ψ' h1.get w') (hc:tZ ft h1=true) :
  ∃dR,Next Z ψ hp.get w B0 O N Z' dR (eX ft hp h1).get w'∧∀i,i∉ft→dR i=ψ' i:=by
 classical
 have gd:∀i,(g6 hp ft).get i=if i∈ft then none else hp.get i:=fun i=>ow ft hp i
 have ba:∀b,Own ψ (g6 hp ft).get b→Own ψ hp.get b:=fun b ⟨i,h1,h2⟩=>⟨i,by rw[gd]at h1;split at h1;exact absurd rfl h1;exact h1,h2⟩;have qG:∀i,i∈ft→h1.get i=none:=fun i hi=>by
  cases e:h1.get i with
  |none=>rfl
  |some o=>exact absurd hi (kF hc i o e).1
 have gf:∀i,(eX ft hp h1).get i=if i∈ft then hp.get i else h1.get i:=fun i=>by
  rw[kD];by_cases hi:i∈ft
  ·rw[if_pos hi,if_pos hi,qG i hi];cases hp.get i<;>rfl
  ·rw[if_neg hi,if_neg hi]
 let dR:Nat→Value:=fun i=>if i∈ft then ψ i else ψ' i
 have p1:∀i,i∈ft→dR i=ψ i:=fun i hi=>if_pos hi;have p2:∀i,i∉ft→dR i=ψ' i:=fun i hi=>if_neg hi;have apart:∀i b,i∈ft→hp.get i≠none→ob (ψ i)=some b→¬Own ψ (g6 hp ft).get b:=fun i b hi h2 h3 ⟨j,h4,h5⟩=>by
  rw[gd]at h4
  split at h4
  ·exact h4 rfl
  ·rename_i hj;have:=g.apart i j b h2 h4 h3 h5;subst this;exact hj hi
 have cQ:∀i b,i∈ft→hp.get i≠none→ob (ψ i)=some b→w'.heap[b]? = w.heap[b]? := fun i b hi h2 h3 =>n.keep.block b (g.bF ⟨i,h2,h3⟩) (apart i b hi h2 h3);have keep:cE ψ hp.get w w':=⟨n.keep.os,n.keep.tape,n.keep.output,n.keep.size,fun b hb hn=>n.keep.block b hb fun ho=>hn (ba b ho)⟩;have sm:cj Z w w':=keep.same g;have ids:∀i,(eX ft hp h1).get i≠none→(hp.get i≠none∧dR i=ψ i)∨N i:=fun i hi=>by
  rw[gf]at hi;by_cases hf:i∈ft
  ·rw[if_pos hf]at hi;exact .inl ⟨hi,p1 i hf⟩
  ·rw[if_neg hf]at hi;rcases n.ids i hi with⟨h2,h3⟩|h2
   ·rw[gd,if_neg hf]at h2;exact .inl ⟨h2,(p2 i hf).trans h3⟩
   ·exact .inr h2
 have nz:∀i b,i∈ft→hp.get i≠none→ob (ψ i)=some b→¬Z' b:=fun i b hi h2 h3 hz=>by
  rcases n.eC b hz with h4|h4|h4
  ·exact(g.live i b h2 h3).1 h4
  ·exact apart i b hi h2 h3 h4
  ·have:=g.bF ⟨i,h2,h3⟩;omega
 refine⟨dR,⟨n.fN,fun b hb=>(n.eC b hb).imp (fun h=>h) (fun h=>h.imp (ba b) fun h=>h),keep,ids,⟨fun i ty cs hb=>?_,fun i ok x hb=>?_,fun i b h2 h3=>?_,fun i j b h2 h3 h4 h5=>?_,n.da.jO⟩⟩,p2⟩
 ·rw[gf]at hb;by_cases hf:i∈ft
  ·rw[if_pos hf]at hb;obtain⟨gg,vs,e1,e2,e3,e4⟩:=g.box i ty cs hb;refine⟨gg,vs,by rw[p1 i hf,e1],(cQ i gg hf (by rw[hb];simp) (by rw[e1];rfl)).trans e2,e3.move n.fN sm (fun j hj aW=>(ids j aW).resolve_right hj) (aX i ty cs hb),e4⟩
  ·rw[if_neg hf]at hb;obtain⟨gg,vs,e1,e2,e3,e4⟩:=n.da.box i ty cs hb;refine⟨gg,vs,by rw[p2 i hf,e1],e2,e3.move (fun _ h=>h) (cj.refl _ _) (fun j hj aW=>?_) ((kF hc i _ hb).2 ty cs rfl),e4⟩;rw[gf,if_neg hj]at aW;exact⟨aW,p2 j hj⟩
 ·rw[gf]at hb;by_cases hf:i∈ft
  ·rw[if_pos hf]at hb;rw[p1 i hf];exact(g.row i ok x hb).kept n.fN sm (fun b la=>cQ i b hf (by rw[hb];simp) la)
  ·rw[if_neg hf]at hb;rw[p2 i hf];exact n.da.row i ok x hb
 ·rw[gf]at h2;by_cases hf:i∈ft
  ·rw[if_pos hf]at h2;rw[p1 i hf]at h3;exact⟨nz i b hf h2 h3,(g.live i b h2 h3).2⟩
  ·rw[if_neg hf]at h2;rw[p2 i hf]at h3;obtain⟨h4,h5⟩:=n.da.live i b h2 h3;refine⟨h4,h5.elim (fun h=>.inl (acB hB h)) fun h=>?_⟩;obtain⟨j,h6,h7⟩:=ba b h;exact(g.live j b h6 h7).2
 ·have mixed:∀i j b,i∈ft→j∉ft→(eX ft hp h1).get i≠none→(eX ft hp h1).get j≠none→ob (dR i)=some b→ob (dR j)=some b→False:=fun i j b hi hj h2 h3 h4 h5=>by
   rw[gf,if_pos hi]at h2;rw[gf,if_neg hj]at h3;rw[p1 i hi]at h4;rw[p2 j hj]at h5;rcases (n.da.live j b h3 h5).2 with h6|h6
   ·have:=g.bF ⟨i,h2,h4⟩;omega
   ·exact apart i b hi h2 h4 h6
  by_cases hi:i∈ft<;>by_cases hj:j∈ft
  ·rw[gf,if_pos hi]at h2;rw[gf,if_pos hj]at h3;rw[p1 i hi]at h4;rw[p1 j hj]at h5;exact g.apart i j b h2 h3 h4 h5
  ·exact(mixed i j b hi hj h2 h3 h4 h5).elim
  ·exact(mixed j i b hj hi h3 h2 h5 h4).elim
  ·rw[gf,if_neg hi]at h2;rw[gf,if_neg hj]at h3;rw[p2 i hi]at h4;rw[p2 j hj]at h5;exact n.da.apart i j b h2 h3 h4 h5
theorem J.opF(E:Env P Eqs Sg F){rid n i:Nat}{p:Nat→Prop}{T:Nat→AV}{a:Act}{s:List (Nat×AV)}{o:Oper}(hS:makes o.op=true→∀id,p id→¬Of rid i id){hp h1:Heap}{v:AV}{ft:List Nat}(j:J p n Z0 w0 O ψ0 Z ψ T hp.get a w)(hd:iG n o=true) (hT:∀x∈o.op.operands,au Z ψ hp.get w (ρ s x) (a.eval x)) (hTm:∀x∈o.op.operands,aD p (ρ s x)) (he:cI P Eqs Sg F (opId rid i) (g6 hp ft) s o some=some (.wr v h1)) (hc:lV ft (.wr v h1)=true) {p':Nat→Prop} (Pu:∀k,p k→p' k) (hv:aD p' v) (XJ:tI p' (eX ft hp h1).get) {next:Act→World→Prop} {Q:Exit→Act→World→Prop} (hk:∀a' w' Z' ψ',J p' n Z0 w0 O ψ0 Z' ψ' (hZ T o.dst v) (eX ft hp h1).get a' w'→next a' w'):o.wp P a w next Q:=by
 have XK:∀id,p id→¬(makes o.op=true∧Of rid i id):=fun id h ⟨h1,h2⟩=>hS h1 id h h2;simp only[lV,Bool.and_eq_true]at hc;have ba:∀id o,(g6 hp ft).get id=some o→hp.get id=some o:=fun id o h=>by rw[ow]at h;split at h;cases h;exact h
 have aW:∀id,(g6 hp ft).get id≠none→hp.get id≠none:=fun id h=>by obtain⟨o,ho⟩:=acf.1 h;rw[ba id o ho];simp
 have aX:∀i' ty cs,hp.get i'=some (.box ty cs)→av (fun id=>¬(makes o.op=true∧Of rid i id)) cs:=fun id ty cs hb=>(j.hm id ty cs hb).imp XK;have gs:Good Z ψ (g6 hp ft).get w w.heap.size (Own ψ (g6 hp ft).get):=(j.ok.da.sub ba).FB _;refine V7 (N:=fun id=>makes o.op=true∧Of rid i id) E gs (acn _) (fun _ _ h=>h) (id:=opId rid i) (fun hm k hk=>⟨hm,LV hk⟩) (fun x hx=>(hT x hx).nM ba) (fun x hx=>(hTm x hx).imp XK) (fun id ty cs hb=>aX id ty cs (ba _ _ hb)) (fun _ _ _=>rfl) he fun V w' Z' ψ' nx hr=>?_;obtain⟨dR,n2,h2⟩:=Next.frame j.ok.da j.ok.size aX nx hc.2;have JJ:au Z' dR (eX ft hp h1).get w' v V:=hr.move (p:=fun i=>i∉ft) (fun _ h=>h) (cj.refl _ _) (fun k hk aW=>by rw[kD,if_neg hk]at aW;exact⟨aW,h2 k hk⟩) (yH hc.1);refine hk _ w' Z' dR ⟨j.ok.next (fun id h=>by have:=h.2;unfold Of at this;omega) n2,(j.tr.next j.ok.da n2 (fun d=>(j.tm d).imp XK)).put hd JJ,fun d=>?_,XJ⟩
 cases lf:o.dst with
 |none=>exact(j.tm d).imp Pu
 |some d0 =>
  simp only[hZ,dO]
  split
  ·exact hv
  ·exact(j.tm d).imp Pu
end Go.Vs
namespace Go.Vs
variable {P:Program} {Eqs:TypeId→Option K} {Sg:FuncId→Option aO} {F:(f:FuncId)→(g:aO)→g.A→Option g.B} {R:Type}
variable {Z Z' Z0:Nat→Prop} {ψ ψ':Nat→Value} {h h':Hp} {w w' w0:World} {B0:Nat} {O N:Nat→Prop}
variable {rid n:Nat} {ops:Array Oper} {b:Array Nat}
def sB(b:Array Nat)(i j:Nat):Prop:=(b.getD i 0).testBit j=true
theorem Em(b:Array Nat)(j:Nat):∀(l:List Edge) (s:Nat),(l.foldl (fun s e=>if Region.binds .any e then s ||| 2 ^ e.on ||| b.getD e.on 0 else s) s).testBit j=true ↔
  s.testBit j=true∨∃e∈l,Region.binds .any e=true∧(j=e.on∨sB b e.on j)
 |[],s=>by simp
 |e::l,s=>by
  rw[List.foldl_cons,Em b j l];by_cases hb:Region.binds .any e=true
  ·rw[if_pos hb];have h2:(2 ^ e.on).testBit j=true↔j=e.on:=by rw[Nat.testBit_two_pow];simp[eq_comm]
   simp only[Nat.testBit_or,Bool.or_eq_true,h2,List.mem_cons,exists_eq_or_imp,hb,true_and,sB];constructor
   ·rintro(((h|h)|h)|h)
    ·exact .inl h
    ·exact .inr (.inl (.inl h))
    ·exact .inr (.inl (.inr h))
    ·exact .inr (.inr h)
   ·rintro(h|(h|h)|h)
    ·exact .inl (.inl (.inl h))
    ·exact .inl (.inl (.inr h))
    ·exact .inl (.inr h)
    ·exact .inr h
  ·rw[if_neg hb];simp[hb]
theorem zT(hb:uV ops b=true){i j:Nat}{o:Oper}(ho:ops[i]? = some o):sB b i j↔∃e∈o.after.toList,Region.binds .any e=true∧(j=e.on∨sB b e.on j):=by have aF:=(abX.1 ho).1;have h1:=acH.1 hb i (adJ.2 aF);rw[ho]at h1;simp only[Bool.and_eq_true,beq_iff_eq]at h1;unfold sB;rw[h1.2,Em];simp[sB]
theorem Kp(hb:uV ops b=true){i:Nat}{o:Oper}(ho:ops[i]? = some o){e:Edge}(he:e∈o.after.toList)(NH:Region.binds .any e=true):e.on<i:=by have aF:=(abX.1 ho).1;have h1:=acH.1 hb i (adJ.2 aF);rw[ho]at h1;simp only[Bool.and_eq_true]at h1;have:=acH.1 h1.1 e he;simpa[NH] using this
theorem Bm(hb:uV ops b=true):∀(i j:Nat),i<ops.size→sB b i j→j<i:=by
 intro i
 induction i using Nat.strongRecOn with
 |ind i ih =>
  intro j hi h;obtain⟨e,he,NH,h1⟩:=(zT hb (acz hi)).1 h;have XM:=Kp hb (acz hi) he NH;rcases h1 with rfl|h1
  ·exact XM
  ·exact Nat.lt_trans (ih e.on XM j (by omega) h1) XM
theorem En(hb:uV ops b=true):∀(i j k:Nat),i<ops.size→sB b i j→sB b j k→sB b i k:=by
 intro i
 induction i using Nat.strongRecOn with
 |ind i ih =>
  intro j k hi h h';obtain⟨e,he,NH,h1⟩:=(zT hb (acz hi)).1 h;have XM:=Kp hb (acz hi) he NH;refine(zT hb (acz hi)).2 ⟨e,he,NH,?_⟩;rcases h1 with rfl|h1
  ·exact .inr h'
  ·exact .inr (ih e.on XM j k (by omega) h1 h')
theorem get_filter(f:Nat→Bool):∀(hh:Heap) (i:Nat),Heap.get (hh.filter fun p=>f p.1) i=if f i then hh.get i else none
 |[],i=>by simp[Heap.get]
 |(j,o)::r,i=>by
  rw[List.filter_cons]
  split
  ·rename_i hj;simp only[Heap.get];by_cases e:j=i
   ·subst e;simp only at hj;simp[hj]
   ·simp only[if_neg e];exact get_filter f r i
  ·rename_i hj;rw[get_filter f r i];simp only[Heap.get];by_cases e:j=i
   ·subst e;simp only at hj;simp[hj]
   ·simp only[if_neg e]
theorem NX(rid JU:Nat)(hh:Heap)(id:Nat):(ahead rid JU hh).get id=if qY rid JU id then hh.get id else none:=by unfold ahead;exact get_filter (fun i=>qY rid JU i) hh id
theorem HD(ft:List Nat)(hp:Heap)(e:bq):(gS ft hp e).v=e.v:=by cases e<;>rfl
theorem HE{id:Nat}{hh:Heap}{s:List (Nat×AV)}{o:Oper}{x:Operand}{e:bq}(hl:iF o.op=some x)(he:cI P Eqs Sg F id hh s o some=some e):∃v,e=.val v:=by
 obtain⟨dst,op,type,pos,after,guard⟩:=o
 cases op<;>simp only[iF]at hl<;>first|(cases hl;done)|skip
 case load t a =>
  simp only[cI,lS]at he
  repeat' (first|(cases he;done)|exact⟨_,(ab5 he).symm⟩|split at he)
  all_goals
   obtain⟨y,_,he⟩:=ac6.1 he
   split at he<;>first|(cases he;done)|exact⟨_,(ab5 he).symm⟩
 case indexAddr t a i =>
  simp only[cI,dm]at he
  repeat' (first|(cases he;done)|exact⟨_,(ab5 he).symm⟩|split at he)
  all_goals first
   |(obtain⟨y,_,he⟩:=ac6.1 he;exact⟨_,(ab5 he).symm⟩)
   |(unfold cond at he;split at he<;>first|(cases he;done)|exact⟨_,(ab5 he).symm⟩)
theorem xh{op:Op}{x:Operand}(hl:iF op=some x):nH op=false∧zy op=false:=by cases op<;>simp only[iF]at hl<;>first|(cases hl;done)|exact⟨rfl,rfl⟩
theorem Kq{id:Nat}{hh h2:Heap}{s:List (Nat×AV)}{o:Oper}{x:Operand}(hl:iF o.op=some x)(hg:∀i∈lU (ρ s x),h2.get i=hh.get i):cI P Eqs Sg F id h2 s o some=cI P Eqs Sg F id hh s o some:=by
 obtain⟨dst,op,type,pos,after,guard⟩:=o
 cases op<;>simp only[iF]at hl<;>first|(cases hl;done)|skip
 case load t a =>
  cases hl
  simp only[cI,lS]
  cases hv:ρ s x with
  |ref i s' j off=>rw[hv]at hg;simp only[lU,List.mem_singleton,forall_eq]at hg;simp only[hg]
  |_=>rfl
 case indexAddr t a i =>
  cases hl
  simp only[cI,dm]
  cases qP P t with
  |none=>rfl
  |some e =>
   simp only[]
   cases hv:ρ s x with
   |bC k =>
    rw[hv]at hg;have wH:=hg k (by simp[lU])
    cases ρ s i<;>first|rfl|simp only[wH]
   |sl ex k xs=>cases ρ s i<;>rfl
   |_=>rfl
def qp(ops:Array Oper)(T:Nat→AV)(o:Oper)(t:Bool):Prop :=match o.guard with
 |none=>t=true
 |some (j,want)=>∃d,(ops[j]?).bind (·.dst)=some d∧((∃u,T d=.bool u∧(u==want)=t)∨(∃vs,T d=.nF vs∧t=false))
def Bn(P:Program)(Eqs:TypeId→Option K)(Sg:FuncId→Option aO)(F:(f:FuncId)→(g:aO)→g.A→Option g.B)(rid:Nat)(ops:Array Oper)(b:Array Nat)(T:Nat→Nat→AV)(H:Nat→Hp)(E:Nat→Option bq)(k:Nat)(o:Oper):Prop :=(∃e s hh,E k=some e∧look s=T k∧(∀id,Heap.get hh id=if qY rid (b.getD k 0) id then H k id else none)∧(∃e0,cI P Eqs Sg F (opId rid k) (g6 hh (gR ops b k s o)) s o some=some e0∧e=gS (gR ops b k s o) hh e0∧lV (gR ops b k s o) e0=true) ∧
  gP true rid ops b k (b.getD k 0) e=true∧qp ops (T k) o true∧T (k+1)=hZ (T k) o.dst e.v∧H (k+1)=e.hp (H k)) ∨
 (E k=none∧qp ops (T k) o false∧T (k+1)=hZ (T k) o.dst (.nF [])∧H (k+1)=H k)
theorem trace{kk:St→Option R}{r:R}:∀(l:List (Nat×Oper)) (i:Nat) (st:St),Bk ops i l→l.length=ops.size-i→bw P Eqs Sg F rid true ops b l st kk=some r → ∃(T:Nat→Nat→AV) (H:Nat→Hp) (E:Nat→Option bq),T i=look st.tmps∧H i=st.heap.get∧(∀k o,i≤k→ops[k]? = some o→Bn P Eqs Sg F rid ops b T H E k o) ∧ ∃eu,kk eu=some r∧look eu.tmps=T (max i ops.size)∧eu.heap.get=H (max i ops.size)
 |[],i,st,_,hlen,hx=>by
  have TB:ops.size≤i:=by simp at hlen;omega
  refine⟨fun _=>look st.tmps,fun _=>st.heap.get,fun _=>none,rfl,rfl,fun k o hk ho=>?_,st,hx,rfl,rfl⟩;have:=(abX.1 ho).1;omega
 |(i',o)::l,i,st,hl,hlen,hx=>by
  obtain⟨rfl,ho,hl⟩:=hl;have aF:=(abX.1 ho).1;have ih:=trace (kk:=kk) (r:=r) l (i'+1);have aah:l.length=ops.size-(i'+1):=by simp at hlen;omega
  have glue:∀(eu:St) (oe:Option bq),bw P Eqs Sg F rid true ops b l eu kk=some r →(∀T H E,T i'=look st.tmps→H i'=st.heap.get→E i'=oe→T (i'+1)=look eu.tmps→H (i'+1)=eu.heap.get→Bn P Eqs Sg F rid ops b T H E i' o) → ∃(T:Nat→Nat→AV) (H:Nat→Hp) (E:Nat→Option bq),T i'=look st.tmps∧H i'=st.heap.get∧(∀k o,i'≤k→ops[k]? = some o→Bn P Eqs Sg F rid ops b T H E k o) ∧ ∃eu,kk eu=some r∧look eu.tmps=T (max i' ops.size)∧eu.heap.get=H (max i' ops.size):=by
   intro eu oe T6 u6;obtain⟨T,H,E,h1,h2,h3,ae2,h4,h5,h6⟩:=ih eu hl aah T6;refine⟨fun k=>if k≤i' then look st.tmps else T k,fun k=>if k≤i' then st.heap.get else H k,fun k=>if k=i' then oe else E k,by simp,by simp,fun k o' hk nL => ?_,ae2,h4,?_,?_⟩
   ·by_cases hki:k=i'
    ·subst hki;rw[ho]at nL
     cases nL
     exact u6 _ _ _ (by simp) (by simp) (by simp) (by show(if k+1≤k then _ else _)=_;rw[if_neg (by omega)];exact h1) (by show(if k+1≤k then _ else _)=_;rw[if_neg (by omega)];exact h2)
    ·have h7:=h3 k o' (by omega) nL;unfold Bn at h7 ⊢;simp only[show ¬k≤i' by omega,show ¬k+1≤i' by omega,hki,if_false];exact h7
   ·rw[h5];simp only[show max (i'+1) ops.size=ops.size by omega,show max i' ops.size=ops.size by omega,show ¬ops.size≤i' by omega,if_false]
   ·rw[h6];simp only[show max (i'+1) ops.size=ops.size by omega,show max i' ops.size=ops.size by omega,show ¬ops.size≤i' by omega,if_false]
  have runs:∀iL:St,look iL.tmps=look st.tmps→iL.heap=st.heap→qp ops (look st.tmps) o true →(cI P Eqs Sg F (opId rid i') (g6 (ahead rid (b.getD i' 0) iL.heap) (gR ops b i' iL.tmps o)) iL.tmps o fun e=>if(gP true rid ops b i' (b.getD i' 0) (gS (gR ops b i' iL.tmps o) (ahead rid (b.getD i' 0) iL.heap) e)&&lV (gR ops b i' iL.tmps o) e)=true then bw P Eqs Sg F rid true ops b l ({ iL with heap:=match gS (gR ops b i' iL.tmps o) (ahead rid (b.getD i' 0) iL.heap) e with | .wr _ h=>h|e=>e.h iL.heap }.put o.dst e.v) kk else none)=some r →
    ∃(T:Nat→Nat→AV) (H:Nat→Hp) (E:Nat→Option bq),T i'=look st.tmps∧H i'=st.heap.get∧(∀k o,i'≤k→ops[k]? = some o→Bn P Eqs Sg F rid ops b T H E k o) ∧ ∃eu,kk eu=some r∧look eu.tmps=T (max i' ops.size)∧eu.heap.get=H (max i' ops.size):=by
   intro iL h1 h2 hw hx;rw[lH]at hx;obtain⟨e,he,hx⟩:=ac6.1 hx
   split at hx
   ·rename_i ki;rw[Bool.and_eq_true]at ki;generalize Dl:gS (gR ops b i' iL.tmps o) (ahead rid (b.getD i' 0) iL.heap) e=e1 at hx ki;have vj:e.v=e1.v:=by rw[←Dl];exact(HD _ _ _).symm
    refine glue _ (some e1) hx fun T H E hT hH hE hT' XE => ?_;refine .inl ⟨e1,iL.tmps,_,hE,by rw[hT,h1],fun id=>by rw[NX,hH,h2],⟨e,he,Dl.symm,ki.2⟩,ki.1,by rw[hT];exact hw,?_,?_⟩
    ·rw[hT',ia,hT,vj];simp only[h1]
    ·rw[XE,cV,hH];have:(bq.heap e1 iL.heap).get=e1.hp st.heap.get:=by rw[bq.HA,h2]
     exact this
   ·cases hx
  have vt:∀iL:St,look iL.tmps=look st.tmps→iL.heap=st.heap→qp ops (look st.tmps) o false → bw P Eqs Sg F rid true ops b l (iL.put o.dst (.nF [])) kk=some r → ∃(T:Nat→Nat→AV) (H:Nat→Hp) (E:Nat→Option bq),T i'=look st.tmps∧H i'=st.heap.get∧(∀k o,i'≤k→ops[k]? = some o→Bn P Eqs Sg F rid ops b T H E k o) ∧ ∃eu,kk eu=some r∧look eu.tmps=T (max i' ops.size)∧eu.heap.get=H (max i' ops.size):=by
   intro iL h1 h2 hw hx;refine glue _ none hx fun T H E hT hH hE hT' XE=>.inr ⟨hE,by rw[hT];exact hw,?_,?_⟩
   ·rw[hT',ia,hT,h1]
   ·rw[XE,cV,hH,h2]
  rw[bw]at hx;simp only[if_true]at hx
  split at hx
  ·rename_i hg;exact runs st rfl rfl (by simp[qp,hg]) hx
  ·rename_i jj want hg
   split at hx
   ·cases hx
   ·rename_i d hd
    split at hx
    ·rename_i t ht;have hp:∀b,t=b→look (st.put (some d) (.bool b)).tmps=look st.tmps:=fun b hb=>by subst hb;rw[ia];exact Ej ht
     have hw:∀c,(t==want)=c→qp ops (look st.tmps) o c:=fun c hc=>by unfold qp;rw[hg];exact⟨d,hd,.inl ⟨t,ht,hc⟩⟩
     cases t<;>simp only[cond_true,cond_false]at hx<;>split at hx<;>rename_i rp
     ·exact vt _ (hp false rfl) (cV _ _ _) (hw _ (by simp[rp])) hx
     ·exact runs _ (hp false rfl) (cV _ _ _) (hw _ (by simp[rp])) hx
     ·exact runs _ (hp true rfl) (cV _ _ _) (hw _ (by simp[rp])) hx
     ·exact vt _ (hp true rfl) (cV _ _ _) (hw _ (by simp[rp])) hx
    ·rename_i vs ht;exact vt st rfl rfl (by unfold qp;rw[hg];exact⟨d,hd,.inr ⟨vs,ht,rfl⟩⟩) hx
    ·cases hx
def Nf(ops:Array Oper)(j:Nat):Prop:=∃o,ops[j]? = some o∧nH o.op=false∧iF o.op=none
def zU(E:Nat→Option bq)(k:Nat):Prop:=∃v h',E k=some (.wr v h')
def Y8(E:Nat→Option bq)(k:Nat):Prop:=∃v os,E k=some (.new v os)
theorem vu{α:Type}(f:α→Option Nat):∀(l:List α),b6 (l.filterMap f)=true→∀(i j:Nat) (x y:α) (d:Nat),l[i]? = some x→l[j]? = some y→f x=some d→f y=some d→i=j
 |[],_,i,j,x,y,d,hi,_,_,_=>by simp at hi
 |a::r,hn,i,j,x,y,d,hi,hj,hx,hy=>by
  have gW:∀(k:Nat) (z:α),r[k]? = some z→f z=some d→d∈r.filterMap f:=fun k z hk hz=>aeg.2 ⟨z,acy hk,hz⟩;have hr:b6 (r.filterMap f)=true∧∀c,f a=some c→c∉r.filterMap f:=by
   rw[List.filterMap_cons]at hn
   split at hn
   ·rename_i h0;exact⟨hn,fun c hc=>by rw[h0]at hc;cases hc⟩
   ·rename_i c h0;simp only[b6,Bool.and_eq_true,Bool.not_eq_true']at hn;refine⟨hn.2,fun c' hc=>?_⟩;rw[h0]at hc;cases hc;intro hm;rw[List.contains_iff_mem.2 hm]at hn;simp at hn
  cases i with
  |zero =>
   cases j with
   |zero=>rfl
   |succ j =>simp only[List.getElem?_cons_zero,Option.some.injEq]at hi;subst hi;exact absurd (gW j y (by simpa using hj) hy) (hr.2 d hx)
  |succ i =>
   cases j with
   |zero =>simp only[List.getElem?_cons_zero,Option.some.injEq]at hj;subst hj;exact absurd (gW i x (by simpa using hi) hx) (hr.2 d hy)
   |succ j=>rw[vu f r hr.1 i j x y d (by simpa using hi) (by simpa using hj) hx hy]
structure Dr(P:Program)(Eqs:TypeId→Option K)(Sg:FuncId→Option aO)(F:(f:FuncId)→(g:aO)→g.A→Option g.B)(rid n:Nat)(ops:Array Oper)(b:Array Nat)(T:Nat→Nat→AV)(H:Nat→Hp)(E:Nat→Option bq):Prop where
 size:ops.size≤128
 Pv:uV ops b=true
 pair:Az ops b=true
 ae4:∀(i:Nat) (o:Oper),ops[i]? = some o→iG n o=true
 nodup:b6 (ops.toList.filterMap (·.dst))=true
 step:∀k o,ops[k]? = some o→Bn P Eqs Sg F rid ops b T H E k o
 ae5:∀id,H 0 id≠none→id / 32768≠rid+1
section
variable {T:Nat→Nat→AV} {H:Nat→Hp} {E:Nat→Option bq}
theorem Dr.vv(D:Dr P Eqs Sg F rid n ops b T H E){i j:Nat}{x y:Oper}{d:Nat}(hi:ops[i]? = some x)(hj:ops[j]? = some y)(hx:x.dst=some d)(hy:y.dst=some d):i=j :=vu (·.dst) ops.toList D.nodup i j x y d (by simpa using hi) (by simpa using hj) hx hy
theorem Dr.Wa(D:Dr P Eqs Sg F rid n ops b T H E){i j:Nat}{x y:Oper}(hi:ops[i]? = some x)(hj:ops[j]? = some y)(AT:i<j):sB b j i∨x.apart ops y=true:=by have h1:=acH.1 D.pair j (adJ.2 (abX.1 hj).1);have h2:=acH.1 h1 i (adJ.2 AT);rw[hi,hj]at h2;simp only[Bool.or_eq_true,Bool.and_eq_true]at h2;exact h2
theorem Dr.Uu(D:Dr P Eqs Sg F rid n ops b T H E){k:Nat}{o:Oper}(ho:ops[k]? = some o){e:bq}(he:E k=some e) :
  ∃s hh,look s=T k∧(∀id,Heap.get hh id=if qY rid (b.getD k 0) id then H k id else none)∧(∃e0,cI P Eqs Sg F (opId rid k) (g6 hh (gR ops b k s o)) s o some=some e0∧e=gS (gR ops b k s o) hh e0∧lV (gR ops b k s o) e0=true) ∧
   gP true rid ops b k (b.getD k 0) e=true∧qp ops (T k) o true∧T (k+1)=hZ (T k) o.dst e.v∧H (k+1)=e.hp (H k):=by
 rcases D.step k o ho with⟨e',s,hh,h1,h2⟩|⟨h1,_⟩
 ·rw[he]at h1;cases h1;exact⟨s,hh,h2⟩
 ·rw[he]at h1;cases h1
theorem Dr.FG(D:Dr P Eqs Sg F rid n ops b T H E){k:Nat}{o:Oper}(ho:ops[k]? = some o)(he:E k=none) :
  qp ops (T k) o false∧T (k+1)=hZ (T k) o.dst (.nF [])∧H (k+1)=H k:=by
 rcases D.step k o ho with⟨e',s,hh,h1,h2⟩|⟨h1,h2⟩
 ·rw[he]at h1;cases h1
 ·exact h2
theorem Dr.xi(D:Dr P Eqs Sg F rid n ops b T H E){k:Nat}(hk:k<ops.size)(h:Y8 E k):Nf ops k:=by
 obtain⟨v,os,he⟩:=h;obtain⟨s,hh,_,_,⟨e0,h3,VW,_⟩,_⟩:=D.Uu (acz hk) he;refine⟨_,acz hk,?_,?_⟩
 ·cases hf:nH (ops[k]).op with
  |false=>rfl
  |true=>obtain⟨v',rfl⟩:=Hv hf h3;cases VW
 ·cases hf:iF (ops[k]).op with
  |none=>rfl
  |some x=>obtain⟨v',rfl⟩:=HE hf h3;cases VW
theorem Dr.Qq(D:Dr P Eqs Sg F rid n ops b T H E){k:Nat}(hk:k<ops.size)(h:zU E k):Nf ops k:=by
 obtain⟨v,os,he⟩:=h;obtain⟨s,hh,_,_,⟨e0,h3,VW,_⟩,_⟩:=D.Uu (acz hk) he;refine⟨_,acz hk,?_,?_⟩
 ·cases hf:nH (ops[k]).op with
  |false=>rfl
  |true=>obtain⟨v',rfl⟩:=Hv hf h3;cases VW
 ·cases hf:iF (ops[k]).op with
  |none=>rfl
  |some x=>obtain⟨v',rfl⟩:=HE hf h3;cases VW
theorem Dr.Bo(D:Dr P Eqs Sg F rid n ops b T H E){k j:Nat}(hk:k<ops.size)(h:zU E k)(hj:Nf ops j)(aW:j≠k):(j<k∧sB b k j)∨(k<j∧sB b j k):=by
 obtain⟨v,os,he⟩:=h;obtain⟨s,hh,_,_,_,h4,_⟩:=D.Uu (acz hk) he;obtain⟨o,ho,hf,Ps⟩:=hj;have JE:=(abX.1 ho).1;simp only[gP,Bool.and_eq_true]at h4;have h5:JS ops b k=true:=by simpa using h4.1.1
 have h6:=acH.1 h5 j (adJ.2 JE);have hlf:od ops k j=false:=by unfold od GW;rw[ho];simp only[Option.bind_some,Ps,Option.map_none]
 rw[hlf,ho]at h6;simp only[Ps,Option.isSome_none,Bool.and_false,Bool.or_false]at h6;simp only[Bool.or_eq_true,beq_iff_eq,hf,Bool.false_eq_true,or_false]at h6;rcases h6 with(h6|h6)|h6
 ·exact absurd h6 aW
 ·exact .inr ⟨Bm D.Pv j k JE h6,h6⟩
 ·exact .inl ⟨Bm D.Pv k j hk h6,h6⟩
theorem Dr.Bp(D:Dr P Eqs Sg F rid n ops b T H E){p:Nat}:∀(q:Nat),p≤q→q≤ops.size→∀id,(∀k,p≤k→k<q→zU E k→H (k+1) id=H k id)→(∀k,p≤k→k<q→Y8 E k→¬Of rid k id)→H q id=H p id:=by
 intro q
 induction q with
 |zero=>intro zo _ id _ _;rw[Nat.le_zero.1 zo]
 |succ q ih =>
  intro zo hq id hw br;by_cases he:p=q+1
  ·rw[he]
  ·have h1:=ih (by omega) (by omega) id (fun k h1 h2=>hw k h1 (by omega)) (fun k h1 h2=>br k h1 (by omega));rw[←h1];have ho:=acz (show q<ops.size by omega)
   cases hE:E q with
   |none=>rw[(D.FG ho hE).2.2]
   |some e =>
    obtain⟨s,hh,_,_,_,h4,_,_,h7⟩:=D.Uu ho hE
    cases e with
    |val v=>rw[h7];rfl
    |wr v h'=>exact hw q (by omega) (by omega) ⟨v,h',hE⟩
    |new v os =>
     rw[h7];simp only[bq.hp]
     cases Pq:Heap.get os id with
     |none=>rfl
     |some o' =>
      exfalso;simp only[gP,Bool.and_eq_true]at h4;refine br q (by omega) (by omega) ⟨v,os,hE⟩ ?_;have:∀(l:Heap),(l.all fun p=>p.1 / 256==(rid+1)*128+q)=true→∀o',l.get id=some o'→Of rid q id:=by
       intro l
       induction l with
       |nil=>intro _ o' h;simp[Heap.get]at h
       |cons a r ihl =>
        intro fq o' hg;simp only[List.all_cons,Bool.and_eq_true,beq_iff_eq]at fq;simp only[Heap.get]at hg
        split at hg
        ·rename_i e;rw[←e];exact fq.1
        ·exact ihl fq.2 o' hg
      exact this os h4.1.2 o' Pq
theorem Dr.zX(D:Dr P Eqs Sg F rid n ops b T H E){p:Nat}(q:Nat)(zo:p≤q)(hq:q≤ops.size)(hw:∀k,p≤k→k<q→¬zU E k)(id:Nat)(hn:∀k,p≤k→k<q→Y8 E k→¬Of rid k id):H q id=H p id :=D.Bp q zo hq id (fun k h1 h2 h3=>absurd h3 (hw k h1 h2)) hn
theorem Dr.names(D:Dr P Eqs Sg F rid n ops b T H E):∀(k:Nat),k≤ops.size→∀id,H k id≠none→id / 32768=rid+1→∃j,Of rid j id∧j<k∧j<128∧(Y8 E j∨∃w,w<k∧zU E w∧(j=w∨sB b w j)):=by
 intro k
 induction k with
 |zero=>intro _ id h1 h2;exact absurd h2 (D.ae5 id h1)
 |succ k ih =>
  intro hk id h1 h2;have aF:k<ops.size:=by omega
  have up:H k id≠none→∃j,Of rid j id∧j<k+1∧j<128∧(Y8 E j∨∃w,w<k+1∧zU E w∧(j=w∨sB b w j)):=fun h=>by obtain⟨j,h3,h4,h4',h5⟩:=ih (by omega) id h h2;exact⟨j,h3,by omega,h4',h5.imp (fun h=>h) fun⟨w,h6,h7⟩=>⟨w,by omega,h7⟩⟩
  have ho:=acz aF;have Qr:=D.size
  cases hE:E k with
  |none=>rw[(D.FG ho hE).2.2]at h1;exact up h1
  |some e =>
   obtain⟨s,hh,_,_,_,h4,_,_,h7⟩:=D.Uu ho hE;rw[h7]at h1
   cases e with
   |val v=>exact up h1
   |wr v h' =>
    obtain⟨o',nL⟩:=acf.1 h1;simp only[gP,Bool.and_eq_true]at h4;have h5:(b.getD k 0 ||| 2 ^ k).testBit (id / 256%128)=true:=(ml (S:=fun j=>(b.getD k 0 ||| 2 ^ k).testBit j=true) (fun j hj=>hj) h4.2 id o' nL).1 h2;rw[Nat.testBit_or,Bool.or_eq_true,Nat.testBit_two_pow]at h5;refine⟨id / 256%128,Of.of h2 rfl,?_,by omega,.inr ⟨k,by omega,⟨v,h',hE⟩,?_⟩⟩
    ·rcases h5 with h5|h5
     ·have:=Bm D.Pv k _ aF h5;omega
     ·have:=of_decide_eq_true h5;omega
    ·rcases h5 with h5|h5
     ·exact .inr h5
     ·exact .inl (of_decide_eq_true h5).symm
   |new v os =>
    simp only[bq.hp]at h1
    cases Pq:Heap.get os id with
    |none=>rw[Pq]at h1;exact up h1
    |some o' =>
     simp only[gP,Bool.and_eq_true]at h4;have:∀(l:Heap),(l.all fun p=>p.1 / 256==(rid+1)*128+k)=true→∀o',l.get id=some o'→Of rid k id:=by
      intro l
      induction l with
      |nil=>intro _ o' h;simp[Heap.get]at h
      |cons a r ihl =>
       intro fq o' hg;simp only[List.all_cons,Bool.and_eq_true,beq_iff_eq]at fq;simp only[Heap.get]at hg
       split at hg
       ·rename_i e;rw[←e];exact fq.1
       ·exact ihl fq.2 o' hg
     exact⟨k,this os h4.1.2 o' Pq,by omega,by omega,.inl ⟨v,os,hE⟩⟩
theorem Dr.XN(D:Dr P Eqs Sg F rid n ops b T H E){q:Nat}(o5:q<ops.size)(Uv:zU E q):∀id,H q id≠none→mO rid (sB b q) id:=fun id aW Qs=>by
 obtain⟨j,h1,h2,h2',h3⟩:=D.names q (by omega) id aW Qs;rw[(h1.parts h2').2];rcases h3 with h3|⟨w',h5,h6,h8⟩
 ·rcases D.Bo o5 Uv (D.xi (by omega) h3) (by omega) with⟨_,h9⟩|⟨h9,_⟩
  ·exact h9
  ·omega
 ·have hqw:sB b q w':=by
   rcases D.Bo o5 Uv (D.Qq (by omega) h6) (by omega) with⟨_,h9⟩|⟨h9,_⟩
   ·exact h9
   ·omega
  rcases h8 with rfl|h8
  ·exact hqw
  ·exact En D.Pv q w' j o5 hqw h8
theorem Dr.oD(D:Dr P Eqs Sg F rid n ops b T H E){d p:Nat}:∀(q:Nat),p≤q→q≤ops.size→(∀m o,p≤m→m<q→ops[m]? = some o→o.dst≠some d)→T q d=T p d
 |0,h,_,_=>by rw[Nat.le_zero.1 h]
 |q+1,h,hq,hm=>by
  by_cases e:p=q+1
  ·rw[e]
  ·have ho:=acz (show q<ops.size by omega);have ih:=D.oD q (by omega) (by omega) fun m o h1 h2=>hm m o h1 (by omega);rw[←ih];have hd:=hm q _ (by omega) (by omega) ho;have key:∀v,hZ (T q) (ops[q]).dst v d=T q d:=fun v=>by
    cases lf:(ops[q]).dst with
    |none=>rfl
    |some d' =>simp only[hZ,dO];rw[if_neg];rintro rfl;exact hd lf
   rcases D.step q _ ho with⟨e,s,hh,_,_,_,_,_,_,h7,_⟩|⟨_,_,h3,_⟩
   ·rw[h7,key]
   ·rw[h3,key]
theorem Dr.base(D:Dr P Eqs Sg F rid n ops b T H E){i:Nat}(hi:i≤ops.size){x:Operand}{s:List (Nat×AV)}(hs:look s=T i){id:Nat}(br:id∈lU (ρ s x)):id∈lU (ρ s (Fj ops i x)):=by
 unfold Fj
 split
 rotate_left
 ·exact br
 rename_i d
 split
 rotate_left
 ·exact br
 rename_i o hf
 split
 rotate_left
 ·exact br
 rename_i t e f C3
 split
 ·exact br
 rename_i aW;have hd:o.dst=some d:=by have:=adP hf;simpa using this
 obtain⟨m,hm,Ua⟩:=aeb.1 (adj hf);have hmi:m<i:=by rw[List.length_take]at hm;omega
 have ho:ops[m]? = some o:=by rw[List.getElem_take]at Ua;rw[←Ua,Array.getElem?_eq_getElem (by omega)];simp
 have qG:∀(q:Nat) (o':Oper),ops[q]? = some o'→o'.dst≠some e:=fun q o' h1 h2=>by obtain⟨h3,h4⟩:=abX.1 h1;exact aW (Array.any_eq_true.2 ⟨q,h3,by rw[h4];simp[h2]⟩)
 have e1:T i d=T (m+1) d:=D.oD i (by omega) hi fun q o' h1 h2 h3 h4=>by have:=D.vv h3 ho h4 hd;omega
 have e2:T i e=T m e:=D.oD i (by omega) hi fun q o' _ _ h3=>qG q o' h3;simp only[ρ,hs]at br ⊢;rw[e1]at br;rw[e2];rcases D.step m o ho with⟨ef,s',hh,_,hs',_,⟨e0,h0,Dl,_⟩,_,_,h7,_⟩|⟨_,_,h3,_⟩
 ·rw[h7,hd]at br;simp only[hZ,aU]at br;rw[Dl,HD]at br;obtain⟨dst,op,type,pos,after,guard⟩:=o;simp only at C3;subst C3;simp only[cI,ρ,hs']at h0
  split at h0
  ·rename_i hx
   split at h0
   ·cases h0
   ·cases h0
    rw[hx];exact br
  ·split at h0
   ·cases h0
   ·cases h0;cases br
  ·cases h0
 ·rw[h3,hd]at br;simp only[hZ,aU,lU]at br
  cases br
theorem Dr.steady(D:Dr P Eqs Sg F rid n ops b T H E){i k:Nat}{o:Oper}{x:Operand}(ho:ops[i]? = some o)(hl:iF o.op=some x)(hk:k<ops.size)(hw:zU E k)(aW:i≠k)(h1:¬sB b i k)(h2:¬sB b k i) {s:List (Nat×AV)} (hs:look s=T i) (NY:rX ops b i s o=false) {id:Nat} (br:id∈lU (ρ s x)):H (k+1) id=H k id:=by
 have o5:=(abX.1 ho).1;obtain⟨v,h',hE⟩:=hw;have ki:=acz hk;obtain⟨sk,hh,Qt,Uw,⟨e0,VW,Dl,rh⟩,h4,_,_,h7⟩:=D.Uu ki hE;simp only[gP,Bool.and_eq_true]at h4;have h5:JS ops b k=true:=by simpa using h4.1.1
 have h6:=acH.1 h5 i (adJ.2 o5);rw[ho,ki]at h6;have b1:(b.getD i 0).testBit k=false:=Bool.eq_false_iff.2 h1;have b2:(b.getD k 0).testBit i=false:=Bool.eq_false_iff.2 h2;have b3:(i==k)=false:=by simp[aW]
 simp only[b1,b2,b3,(xh hl).1,Bool.false_or,Bool.and_eq_true]at h6;obtain⟨Bq,h8⟩:=h6;have LW:od ops k i=true:=by
  simp only[Bool.or_eq_true,Bool.and_eq_true]at h8;rcases h8 with h8|⟨h8,_⟩
  ·exact h8
  unfold rX at NY;rw[hl]at NY;simp only[h8,Bool.true_and]at NY;have Fm:(lU (ρ s x)).isEmpty=false:=by cases hq:lU (ρ s x) with
   |nil=>rw[hq]at br;cases br
   |cons _ _=>rfl
  simp only[Fm,Bool.not_false,Bool.true_and,Bool.not_eq_false']at NY;have h9:=acH.1 NY k (adJ.2 hk);rw[ki]at h9;have b4:(k==i)=false:=by simp[Ne.symm aW]
  simpa only[b1,b2,b4,Bq,Bool.not_true,Bool.false_or] using h9
 have hft:gR ops b k sk ops[k]=Xn ops b k sk:=by unfold gR;rw[if_pos Bq]
 have hb:=D.base (by omega) hs br;generalize hy:Fj ops i x=y at hb;have m0:ρ sk y=ρ s y:=by
  cases y with
  |tmp d =>
   simp only[ρ,Qt,hs];unfold od GW at LW;rw[ho]at LW;simp only[Option.bind_some,hl,Option.map_some,hy]at LW;have hm:∀m o',min k i≤m→m<max k i→ops[m]? = some o'→o'.dst≠some d:=fun m o' g1 g2 g3 hd=>by have g4:=acH.1 LW m (adJ.2 (by omega));rw[g3]at g4;simp[hd,g1,g2]at g4
   rcases ad3 i k with g|g
   ·exact D.oD k (by omega) (by omega) fun m o' g1 g2=>hm m o' (by omega) (by omega)
   ·exact(D.oD i (by omega) (by omega) fun m o' g1 g2=>hm m o' (by omega) (by omega)).symm
  |_=>rfl
 have gW:id∈gR ops b k sk ops[k]:=by rw[hft];unfold Xn;refine List.mem_flatMap.2 ⟨i,adJ.2 o5,?_⟩;unfold GW;rw[b1,b2,b3,ho];simp only[Bool.or_self,Bool.false_eq_true,if_false,Option.bind_some,hl,Option.map_some,hy];rw[m0];exact hb
 cases e0 with
 |val v0=>cases Dl
 |new v0 os=>cases Dl
 |wr v0 Tx =>
  cases Dl
  simp only[lV,Bool.and_eq_true]at rh;have hn:Tx.get id=none:=by
   cases e:Tx.get id with
   |none=>rfl
   |some ob=>exact absurd gW (kF rh.2 id ob e).1
  rw[h7];show(eX _ hh Tx).get id=H k id;rw[kD,if_pos gW,hn,Uw id]
  cases ae9:H k id with
  |none=>simp
  |some ob =>
   have h8:=D.XN hk ⟨_,_,hE⟩ id (by rw[ae9];simp);have h9:qY rid (b.getD k 0) id=true:=by
    unfold qY;by_cases hr:id / 32768=rid+1
    ·have:=h8 hr;unfold sB at this;rw[this];simp
    ·simp[hr]
   rw[if_pos h9]
end
end Go.Vs
namespace Go.Vs
variable {P:Program} {Eqs:TypeId→Option K} {Sg:FuncId→Option aO} {F:(f:FuncId)→(g:aO)→g.A→Option g.B} {R:Type}
variable {Z Z' Z0:Nat→Prop} {ψ ψ' ψ0:Nat→Value} {h h':Hp} {w w' w0:World} {B0:Nat} {O N:Nat→Prop}
variable {rid n:Nat} {ops:Array Oper} {b:Array Nat} {T:Nat→Nat→AV} {H:Nat→Hp} {E:Nat→Option bq}
structure Dj(rid:Nat)(ops:Array Oper)(b:Array Nat)(T:Nat→Nat→AV)(H:Nat→Hp)(E:Nat→Option bq)(S:Nat→Prop)(Tc:Nat→AV)(h:Hp):Prop where
 lt:∀i,S i→i<ops.size
 closed:∀i j,S i→sB b i j→S j
 heap:∃q,q≤ops.size∧(∀k,k<q→zU E k→S k)∧(q<ops.size→zU E q∧¬S q)∧∀id,(mO rid S id→h id=H q id)∧(¬mO rid S id→h id=none)
 Qu:∀j o d,S j→ops[j]? = some o→o.dst=some d→Tc d=T (j+1) d
 told:∀d,(∀j o,S j→ops[j]? = some o→o.dst≠some d)→Tc d=T 0 d
theorem Dr.Qv(D:Dr P Eqs Sg F rid n ops b T H E){k:Nat}{o:Oper}(ho:ops[k]? = some o){d:Nat}(hd:o.dst≠some d):T (k+1) d=T k d:=by
 have:∀v,hZ (T k) o.dst v d=T k d:=fun v=>by
  cases lf:o.dst with
  |none=>rfl
  |some d' =>simp only[hZ,dO];rw[if_neg];rintro rfl;exact hd lf
 rcases D.step k o ho with⟨e,s,hh,_,_,_,_,_,_,h7,_⟩|⟨_,_,h3,_⟩
 ·rw[h7,this]
 ·rw[h3,this]
theorem Dr.vx(D:Dr P Eqs Sg F rid n ops b T H E){d:Nat}:∀(i:Nat),i≤ops.size→(∀k o,k<i→ops[k]? = some o→o.dst≠some d)→T i d=T 0 d
 |0,_,_=>rfl
 |i+1,hi,hk=>by rw[D.Qv (Array.getElem?_eq_getElem (show i<ops.size by omega)) (hk i _ (by omega) (Array.getElem?_eq_getElem (by omega)))];exact D.vx i (by omega) fun k o h1 h2=>hk k o (by omega) h2
theorem Dr.FH(D:Dr P Eqs Sg F rid n ops b T H E){d j:Nat}{oj:Oper}(hj:ops[j]? = some oj)(hd:oj.dst=some d):∀(i:Nat),i≤ops.size→j<i→T i d=T (j+1) d
 |0,_,h=>by omega
 |i+1,hi,h=>by
  by_cases e:j=i
  ·rw[e]
  ·have ho:=acz (show i<ops.size by omega);rw[D.Qv ho (fun hdi=>e (D.vv hj ho hd hdi))];exact D.FH hj hd i (by omega) (by omega)
theorem Dr.looks(D:Dr P Eqs Sg F rid n ops b T H E){S:Nat→Prop}{Tc:Nat→AV}(dj:Dj rid ops b T H E S Tc h){i:Nat}{o:Oper}(ho:ops[i]? = some o)(hS:¬S i)(hb:∀j,sB b i j→S j){d:Nat}(hd:d∈o.looksAt ops):Tc d=T i d:=by
 have hi:=(abX.1 ho).1;by_cases hex:∃(j:Nat) (oj:Oper),ops[j]? = some oj∧oj.dst=some d
 ·obtain⟨j,oj,hj,Y9⟩:=hex;have cQ:¬S j→Tc d=T 0 d:=fun hn=>dj.told d fun j' o' hs nL Qw=>hn (by rw[D.vv hj nL Y9 Qw];exact hs);have Pv:i≤j→T i d=T 0 d:=fun AT=>D.vx i (by omega) fun k o' hk nL Qw=>by have:=D.vv hj nL Y9 Qw;omega
  rcases Nat.lt_trichotomy j i with aF|rfl|JK
  ·rcases D.Wa hj ho aF with h1|h1
   ·rw[dj.Qu j oj d (hb j h1) hj Y9,D.FH hj Y9 i (by omega) aF]
   ·exact absurd hd ((Oper.apart_spec h1).1 d Y9)
  ·rw[cQ hS,Pv (Nat.le_refl _)]
  ·rcases D.Wa ho hj JK with h1|h1
   ·rw[cQ (fun hs=>hS (dj.closed j i hs h1)),Pv (by omega)]
   ·exact absurd hd ((Oper.apart_spec h1).2.2 d Y9)
 ·rw[dj.told d fun j o' _ nL Qw=>hex ⟨j,o',nL,Qw⟩,D.vx i (by omega) fun k o' _ nL Qw=>hex ⟨k,o',nL,Qw⟩]
theorem Dr.Qx{S:Nat→Prop}{Tc:Nat→AV}(D:Dr P Eqs Sg F rid n ops b T H E)(dj:Dj rid ops b T H E S Tc h){i:Nat}{o:Oper}(ho:ops[i]? = some o)(hS:¬S i){v:AV}(hv:T (i+1)=hZ (T i) o.dst v) :
  (∀j o' d,(S j∨j=i)→ops[j]? = some o'→o'.dst=some d→hZ Tc o.dst v d=T (j+1) d)∧(∀d,(∀j o',(S j∨j=i)→ops[j]? = some o'→o'.dst≠some d)→hZ Tc o.dst v d=T 0 d):=by
 constructor
 ·intro j o' d hj nL hd;rcases hj with hj|rfl
  ·have aW:j≠i:=fun e=>hS (e▸hj);have:hZ Tc o.dst v d=Tc d:=by
    cases lf:o.dst with
    |none=>rfl
    |some d' =>simp only[hZ,dO];rw[if_neg];rintro rfl;exact aW (D.vv nL ho hd lf)
   rw[this];exact dj.Qu j o' d hj nL hd
  ·rw[ho]at nL;cases nL;rw[hv,hd];simp[hZ,dO]
 ·intro d hd;have:hZ Tc o.dst v d=Tc d:=by
   cases lf:o.dst with
   |none=>rfl
   |some d' =>simp only[hZ,dO];rw[if_neg];rintro rfl;exact hd i o (.inr rfl) ho lf
  rw[this];exact dj.told d fun j o' hj=>hd j o' (.inl hj)
theorem vz{i k id:Nat}(h1:Of rid i id)(h2:Of rid k id):i=k:=by unfold Of at h1 h2;omega
section
variable {S:Nat→Prop} {Tc:Nat→AV}
theorem Dr.calm(D:Dr P Eqs Sg F rid n ops b T H E)(dj:Dj rid ops b T H E S Tc h){i q:Nat}(hi:Nf ops i)(hS:¬S i)(hq:q≤ops.size)(hw:∀k,k<q→zU E k→S k):∀k,i≤k→k<q→¬zU E k:=by
 intro k hik hkq hk;have Qt:=hw k hkq hk;have aW:i≠k:=fun e=>hS (e▸Qt);rcases D.Bo (by omega) hk hi aW with⟨_,h1⟩|⟨h1,_⟩
 ·exact hS (dj.closed k i Qt h1)
 ·omega
theorem Dr.seen(D:Dr P Eqs Sg F rid n ops b T H E)(dj:Dj rid ops b T H E S Tc h){i:Nat}(hi:Nf ops i)(hS:¬S i)(hb:∀j,sB b i j→S j){hh:Heap}(Uw:∀id,Heap.get hh id=if qY rid (b.getD i 0) id then H i id else none) :
  ∀id o,hh.get id=some o→h id=some o:=by
 obtain⟨q,hq,hw,iX,fw⟩:=dj.heap;have o5:i<ops.size:=by obtain⟨o,ho,hf1,hf2⟩:=hi;exact(abX.1 ho).1
 have hiq:i≤q:=by
  rcases ad3 q i with h1|h1
  ·obtain⟨h2,h3⟩:=iX (by omega);rcases D.Bo (by omega) h2 hi (by omega) with⟨h4,_⟩|⟨_,h4⟩
   ·omega
   ·exact absurd (hb q h4) h3
  ·exact h1
 intro id o br;rw[Uw]at br
 split at br
 ·rename_i ki;have qH:mO rid S id:=ox hb ki;rw[(fw id).1 qH,D.zX q hiq hq (D.calm dj hi hS hq hw) id fun k hk _ _ ho=>?_,br];have Qs:=(ho.parts (by have:=D.size;omega)).1;obtain⟨j,h1,h2,_⟩:=D.names i (by omega) id (by rw[br];simp) Qs;have:=vz h1 ho;omega
 ·cases br
theorem Dr.NZ(D:Dr P Eqs Sg F rid n ops b T H E)(dj:Dj rid ops b T H E S Tc h){i:Nat}{o:Oper}{x:Operand}(ho:ops[i]? = some o)(hl:iF o.op=some x)(hS:¬S i)(hb:∀j,sB b i j→S j){s:List (Nat×AV)}(hs:look s=T i)(NY:rX ops b i s o=false) {hh:Heap} (Uw:∀id,Heap.get hh id=if qY rid (b.getD i 0) id then H i id else none):∀id∈lU (ρ s x),∀ob,hh.get id=some ob→h id=some ob:=by
 obtain⟨q,hq,hw,iX,fw⟩:=dj.heap;have o5:=(abX.1 ho).1;have Qr:=D.size;intro id br ob la;rw[Uw]at la
 split at la
 ·rename_i ki;have qH:mO rid S id:=ox hb ki;rw[(fw id).1 qH,←la];rcases ad3 q i with hqi|hiq
  ·obtain⟨h2,h3⟩:=iX (by omega);have later:∀k,q<k→k<ops.size→Nf ops k→sB b k q:=fun k h4 h5 h6=>by
    rcases D.Bo (by omega) h2 h6 (by omega) with⟨h7,_⟩|⟨_,h7⟩
    ·omega
    ·exact h7
   have aal:∀k,q≤k→k<i→Nf ops k→¬S k:=fun k h4 h5 h6 hk=>by
    rcases Nat.eq_or_lt_of_le h4 with e|h7
    ·exact h3 (e▸hk)
    ·exact h3 (dj.closed k q hk (later k h7 (by omega) h6))
   symm
   refine D.Bp i (by omega) (by omega) id (fun k h4 h5 h6=>?_) (fun k h4 h5 h6 h7=>?_)
   ·have hns:=aal k h4 h5 (D.Qq (by omega) h6);exact D.steady ho hl (by omega) h6 (by omega) (fun Kr=>hns (hb k Kr)) (fun Kr=>by have:=Bm D.Pv k i (by omega) Kr;omega) hs NY br
   ·have hns:=aal k h4 h5 (D.xi (by omega) h6);have h8:=h7.parts (show k<128 by omega);have h9:=qH h8.1;rw[h8.2]at h9;exact hns h9
  ·refine D.Bp q hiq hq id (fun k h4 h5 h6=>?_) (fun k h4 h5 h6 h7=>?_)
   ·have Qt:=hw k h5 h6;have aW:i≠k:=fun e=>hS (e▸Qt);exact D.steady ho hl (by omega) h6 aW (fun Kr=>by have:=Bm D.Pv i k o5 Kr;omega) (fun Kr=>hS (dj.closed k i Qt Kr)) hs NY br
   ·obtain⟨j,h8,h9,_⟩:=D.names i (by omega) id (by rw[la];simp) (h7.parts (by omega)).1;have:=vz h8 h7;omega
 ·cases la
theorem Qy(E:Nat→Option bq)(S:Nat→Prop)(m:Nat):∃q,q≤m∧(∀k,k<q→zU E k→S k)∧(q<m→zU E q∧¬S q):=by
 classical
 induction m with
 |zero=>exact⟨0,acn _,fun k hk=>by omega,fun h=>by omega⟩
 |succ m ih =>
  obtain⟨q,h1,h2,h3⟩:=ih;by_cases hq:q<m
  ·exact⟨q,by omega,h2,fun _=>h3 hq⟩
  ·have:q=m:=by omega
   subst this;by_cases hm:zU E q∧¬S q
   ·exact⟨q,by omega,h2,fun _=>hm⟩
   ·refine⟨q+1,by omega,fun k hk hw=>?_,fun h=>by omega⟩;rcases ad3 k q with h4|h4
    ·exact h2 k h4 hw
    ·have:k=q:=by omega
     subst this;exact Classical.not_not.1 fun hn=>hm ⟨hw,hn⟩
theorem Br{i id:Nat}(hi:i<128):mO rid (fun k=>S k∨k=i) id↔mO rid S id∨Of rid i id:=by
 constructor
 ·intro h1;by_cases hr:id / 32768=rid+1
  ·rcases h1 hr with h2|h2
   ·exact .inl fun _=>h2
   ·exact .inr (Of.of hr h2)
  ·exact .inl fun h=>absurd h hr
 ·rintro(h1|h1) h2
  ·exact .inl (h1 h2)
  ·exact .inr (h1.parts hi).2
theorem Dr.HF(D:Dr P Eqs Sg F rid n ops b T H E)(dj:Dj rid ops b T H E S Tc h){i:Nat}(o5:i<ops.size)(hS:¬S i)(hnn:¬Y8 E i)(hnw:¬zU E i) :
  ∃q,q≤ops.size∧(∀k,k<q→zU E k→S k∨k=i)∧(q<ops.size→zU E q∧¬(S q∨q=i))∧∀id,(mO rid (fun k=>S k∨k=i) id→h id=H q id)∧(¬mO rid (fun k=>S k∨k=i) id→h id=none):=by
 obtain⟨q,hq,hw,iX,fw⟩:=dj.heap;have Qr:=D.size;refine⟨q,hq,fun k h1 h2=>.inl (hw k h1 h2),fun h1=>⟨(iX h1).1,fun h2=>h2.elim (iX h1).2 fun e=>hnw (e▸(iX h1).1)⟩,fun id=>⟨fun h1=>?_,fun h1=>(fw id).2 fun h2=>h1 ((Br (by omega)).2 (.inl h2))⟩⟩;rcases (Br (S:=S) (i:=i) (rid:=rid) (by omega)).1 h1 with h2|h2
 ·exact(fw id).1 h2
 ·have hn:¬mO rid S id:=fun h3=>h3.Bi (by omega) hS h2;rw[(fw id).2 hn]
  symm
  apply Classical.not_not.1;intro aW;obtain⟨j,h3,_,_,h4⟩:=D.names q hq id aW (h2.parts (by omega)).1;have:=vz h3 h2;subst this;rcases h4 with h4|⟨w',h5,h6,h7|h7⟩
  ·exact hnn h4
  ·exact hnw (h7▸h6)
  ·exact hS (dj.closed w' _ (hw w' h5 h6) h7)
theorem Ux{os:Heap}{i:Nat}(fq:(os.all fun p=>p.1 / 256==(rid+1)*128+i)=true):∀id o,os.get id=some o→Of rid i id:=by
 induction os with
 |nil=>intro id o h;simp[Heap.get]at h
 |cons a r ih =>
  intro id o hg;simp only[List.all_cons,Bool.and_eq_true,beq_iff_eq]at fq;simp only[Heap.get]at hg
  split at hg
  ·rename_i e;rw[←e];exact fq.1
  ·exact ih fq.2 id o hg
theorem Dr.Qz(D:Dr P Eqs Sg F rid n ops b T H E)(dj:Dj rid ops b T H E S Tc h){i:Nat}{o:Oper}(ho:ops[i]? = some o)(hS:¬S i)(hb:∀j,sB b i j→S j){v:AV}{os:Heap}(hE:E i=some (.new v os)) :
  ∃q,q≤ops.size∧(∀k,k<q→zU E k→S k∨k=i)∧(q<ops.size→zU E q∧¬(S q∨q=i))∧∀id,(mO rid (fun k=>S k∨k=i) id→(bq.new v os).hp h id=H q id)∧(¬mO rid (fun k=>S k∨k=i) id→(bq.new v os).hp h id=none):=by
 obtain⟨q,hq,hw,iX,fw⟩:=dj.heap;have Qr:=D.size;have o5:=(abX.1 ho).1;have hnw:¬zU E i:=fun⟨v',h',h1⟩=>by rw[hE]at h1;cases h1
 have Za:=D.xi o5 ⟨v,os,hE⟩;obtain⟨s,hh,_,_,_,h4,_,_,h7⟩:=D.Uu ho hE;simp only[gP,Bool.and_eq_true]at h4;have ot:=Ux (rid:=rid) h4.1.2;have hiq:i<q:=by
  rcases ad3 i q with h1|h1
  ·exact h1
  ·obtain⟨h2,h3⟩:=iX (by omega);have aW:i≠q:=fun e=>hnw (e▸h2);rcases D.Bo (by omega) h2 Za aW with⟨h4,_⟩|⟨_,h4⟩
   ·omega
   ·exact absurd (hb q h4) h3
 refine⟨q,hq,fun k h1 h2=>.inl (hw k h1 h2),fun h1=>⟨(iX h1).1,fun h2=>h2.elim (iX h1).2 fun e=>hnw (e▸(iX h1).1)⟩,fun id=>⟨fun h1=>?_,fun h1=>?_⟩⟩
 ·simp only[bq.hp];by_cases h2:Of rid i id
  ·have hn:¬mO rid S id:=fun h3=>h3.Bi (by omega) hS h2;have e1:H i id=none:=Classical.not_not.1 fun aW=>by obtain⟨j,h3,h4,_⟩:=D.names i (by omega) id aW (h2.parts (by omega)).1;have:=vz h3 h2;omega
   have e2:H (i+1) id=Heap.get os id:=by rw[h7];simp only[bq.hp];rw[e1];cases Heap.get os id<;>rfl
   have e3:H q id=H (i+1) id:=D.zX q hiq hq (fun k h3 h4=>D.calm dj Za hS hq hw k (by omega) h4) id fun k h3 _ _ h5=>by have:=vz h5 h2;omega
   rw[e3,e2,(fw id).2 hn];cases Heap.get os id<;>rfl
  ·have h3:mO rid S id:=((Br (by omega)).1 h1).resolve_right h2
   cases Pq:Heap.get os id with
   |some o'=>exact absurd (ot id o' Pq) h2
   |none=>exact(fw id).1 h3
 ·have h2:¬mO rid S id:=fun h2=>h1 ((Br (by omega)).2 (.inl h2));have h3:¬Of rid i id:=fun h2=>h1 ((Br (by omega)).2 (.inr h2));simp only[bq.hp]
  cases Pq:Heap.get os id with
  |some o'=>exact absurd (ot id o' Pq) h3
  |none=>exact(fw id).2 h2
theorem Dr.Uy(D:Dr P Eqs Sg F rid n ops b T H E)(dj:Dj rid ops b T H E S Tc h){i:Nat}{o:Oper}(ho:ops[i]? = some o)(hS:¬S i)(hb:∀j,sB b i j→S j){v:AV}{h':Heap}(hE:E i=some (.wr v h')) :
  (∀hh:Heap,(∀id,hh.get id=if qY rid (b.getD i 0) id then H i id else none)→hh.get=h) ∧
  ∃q,q≤ops.size∧(∀k,k<q→zU E k→S k∨k=i)∧(q<ops.size→zU E q∧¬(S q∨q=i))∧∀id,(mO rid (fun k=>S k∨k=i) id→h'.get id=H q id)∧(¬mO rid (fun k=>S k∨k=i) id→h'.get id=none):=by
 obtain⟨q,hq,hw,iX,fw⟩:=dj.heap;have Qr:=D.size;have o5:=(abX.1 ho).1;have Uv:zU E i:=⟨v,h',hE⟩;have Za:=D.Qq o5 Uv;obtain⟨s,hh0,_,_,_,h4,_,_,h7⟩:=D.Uu ho hE;simp only[gP,Bool.and_eq_true]at h4;have hqi:q=i:=by
  rcases Nat.lt_trichotomy q i with h1|h1|h1
  ·obtain⟨h2,h3⟩:=iX (by omega);rcases D.Bo o5 Uv (D.Qq (by omega) h2) (by omega) with⟨_,h5⟩|⟨h5,_⟩
   ·exact absurd (hb q h5) h3
   ·omega
  ·exact h1
  ·exact absurd (hw i h1 Uv) hS
 subst hqi;have own:∀id,H q id≠none→mO rid (sB b q) id:=fun id aW Qs=>by
  obtain⟨j,h1,h2,h2',h3⟩:=D.names q hq id aW Qs;rw[(h1.parts h2').2];rcases h3 with h3|⟨w',h5,h6,h8⟩
  ·rcases D.Bo o5 Uv (D.xi (by omega) h3) (by omega) with⟨_,h9⟩|⟨h9,_⟩
   ·exact h9
   ·omega
  ·have hqw:sB b q w':=by
    rcases D.Bo o5 Uv (D.Qq (by omega) h6) (by omega) with⟨_,h9⟩|⟨h9,_⟩
    ·exact h9
    ·omega
   rcases h8 with rfl|h8
   ·exact hqw
   ·exact En D.Pv q w' j o5 hqw h8
 refine⟨fun hh Uw=>?_,?_⟩
 ·funext id;rw[Uw id]
  cases br:H q id with
  |none =>
   have:h id=none:=by
    by_cases h1:mO rid S id
    ·rw[(fw id).1 h1,br]
    ·exact(fw id).2 h1
   rw[this];split<;>rfl
  |some ob =>
   have h1:=own id (by rw[br];simp);have h2:mO rid S id:=fun hr=>hb _ (h1 hr);have h3:qY rid (b.getD q 0) id=true:=by
    unfold qY;by_cases hr:id / 32768=rid+1
    ·have:=h1 hr;unfold sB at this;rw[this];simp
    ·simp[hr]
   rw[h3,(fw id).1 h2,br];rfl
 ·obtain⟨q',h1,h2,h3⟩:=Qy E (fun k=>S k∨k=q) ops.size;have TB:q+1≤q':=by
   rcases ad3 q q' with h5|h5
   ·exact h5
   ·obtain⟨h6,h8⟩:=h3 (by omega);rcases ad3 q' q with h9|h9
    ·exact absurd (.inl (hw q' h9 h6)) h8
    ·exact absurd (.inr (by omega)) h8
  have e1:H (q+1)=h'.get:=by rw[h7];rfl
  have zK:∀j,(b.getD q 0 ||| 2 ^ q).testBit j=true→S j∨j=q:=fun j hj=>by rw[Nat.testBit_or,Bool.or_eq_true,Nat.testBit_two_pow]at hj;exact hj.imp (hb j) (fun h=>(of_decide_eq_true h).symm)
  refine⟨q',h1,h2,h3,fun id=>⟨fun h5=>?_,fun h5=>?_⟩⟩
  ·rw[D.zX q' TB h1 (fun k h6 h8 h9=>?_) id (fun k h6 h8 h9 lY=>?_),e1]
   ·have hk:=h2 k h8 h9;have Qt:S k:=hk.resolve_right (by omega);rcases D.Bo (by omega) h9 Za (by omega) with⟨_,zj⟩|⟨zj,_⟩
    ·exact hS (dj.closed k q Qt zj)
    ·omega
   ·have hk:=h5 (lY.parts (by omega)).1;rw[(lY.parts (by omega)).2]at hk;have Qt:S k:=hk.resolve_right (by omega);rcases D.Bo o5 Uv (D.xi (by omega) h9) (by omega) with⟨zj,_⟩|⟨_,zj⟩
    ·omega
    ·exact hS (dj.closed k q Qt zj)
  ·cases br:h'.get id with
   |none=>rfl
   |some ob=>exact absurd ((ml zK h4.2 id ob br).1) h5
end
section
variable {S:Nat→Prop} {Tc:Nat→AV}
theorem Dm{o:Oper}{d:Nat}(h:Operand.tmp d∈o.op.operands):d∈o.looksAt ops :=abK _ (aeg.2 ⟨.tmp d,by simpa using h,rfl⟩)
theorem HH{o:Oper}{j d:Nat}{want:Bool}(hg:o.guard=some (j,want))(hd:(ops[j]?).bind (·.dst)=some d):d∈o.looksAt ops:=by unfold Oper.looksAt;rw[hg];exact abx _ (by simp only[hd];simp)
theorem Dr.wanted(D:Dr P Eqs Sg F rid n ops b T H E)(dj:Dj rid ops b T H E S Tc h){a:Act}{i:Nat}{o:Oper}(ho:ops[i]? = some o)(hS:¬S i)(hb:∀j,sB b i j→S j)(t:cK Z ψ h w n Tc a){c:Bool}(hw:qp ops (T i) o c) :
  Region.wanted o (yielded ops a.tmps)=c:=by
 unfold qp at hw
 split at hw
 ·rename_i hg;rw[hw];simp[Region.wanted,hg]
 ·rename_i j want hg;obtain⟨d,hd,hc⟩:=hw;have e:=D.looks dj ho hS hb (HH hg hd);rcases hc with⟨u,h1,h2⟩|⟨vs,h1,h2⟩
  ·rw[Bj t hg hd (e.trans h1),h2]
  ·rw[yG t hg hd (e.trans h1),h2]
theorem Dr.Ks(D:Dr P Eqs Sg F rid n ops b T H E)(V:Env P Eqs Sg F){i:Nat}{o:Oper}{a:Act}(ho:ops[i]? = some o)(hS:¬S i)(hb:∀j,sB b i j→S j)(dj:Dj rid ops b T H E S Tc h)(j:J (mO rid S) n Z0 w0 O ψ0 Z ψ Tc h a w) {K:Act→World→Prop} {Q:Exit→Act→World→Prop} (hk:∀Tc' h' a' w' Z' ψ',Dj rid ops b T H E (fun k=>S k∨k=i) Tc' h'→J (mO rid fun k=>S k∨k=i) n Z0 w0 O ψ0 Z' ψ' Tc' h' a' w'→K a' w'):wpOp P ops Q i K a w:=by
 have o5:=(abX.1 ho).1;have Qr:=D.size;have TF:=D.ae4 i o ho;have aF:∀k,(S k∨k=i)→k<ops.size:=fun k hk=>hk.elim (dj.lt k) (fun e=>e▸o5);have Db:∀k j,(S k∨k=i)→sB b k j→S j∨j=i:=fun k j hk hj=>.inl (hk.elim (fun h=>dj.closed k j h hj) (fun e=>hb j (e▸hj)));unfold wpOp;rw[ho];simp only[]
 cases hE:E i with
 |none =>obtain⟨h1,h2,h3⟩:=D.FG ho hE;rw[D.wanted dj ho hS hb j.tr h1];simp only[Bool.false_eq_true,if_false];obtain⟨t1,t2⟩:=D.Qx dj ho hS h2;refine hk _ h _ w Z ψ ⟨aF,Db,D.HF dj o5 hS (fun⟨v,os,h⟩=>by rw[hE]at h;cases h) (fun⟨v,os,h⟩=>by rw[hE]at h;cases h),t1,t2⟩ (j.skip TF fun id hp hr=>.inl (hp hr))
 |some e =>
  obtain⟨s,hh,h1,h2,h3,h4,h5,h6,h7⟩:=D.Uu ho hE;rw[D.wanted dj ho hS hb j.tr h5];simp only[if_true];refine .inl ?_;obtain⟨t1,t2⟩:=D.Qx dj ho hS h6;have hT:∀x∈o.op.operands,au Z ψ h w (ρ s x) (a.eval x)∧aD (mO rid S) (ρ s x):=fun x hx=>by
   cases x with
   |tmp d =>
    have e1:look s d=Tc d:=by rw[h1];exact(D.looks dj ho hS hb (Dm hx)).symm
    simp only[ρ,e1];exact⟨j.tr.rep d,j.tm d⟩
   |const v=>exact⟨G4 v,Bh _ v⟩
   |global g=>exact⟨by simp only[ρ,au],by simp only[ρ,aD]⟩
   |func f=>exact⟨by simp only[ρ,au,an,Act.eval];exact⟨#[],rfl,rfl⟩,by simp only[ρ,aD,av]⟩
  have oz:=Bl (hh:=[]) j.hm (fun k hk=>hb k hk) h4;obtain⟨e0,h3,Dl,rh⟩:=h3
  cases e0 with
  |wr v0 Tx =>simp only[gS]at Dl;subst Dl;have lZ:=D.Uy dj ho hS hb hE;have Uw:=lZ.1 hh h2;subst Uw;refine J.opF V (rid:=rid) (i:=i) (fun _ id hp=>hp.Bi (by omega) hS) j TF (fun x hx=>(hT x hx).1) (fun x hx=>(hT x hx).2) h3 rh (p':=mO rid fun k=>S k∨k=i) (fun id hp hr=>.inl (hp hr)) oz.1 oz.2 fun a' w' Z' ψ' j' => ?_;exact hk _ _ a' w' Z' ψ' ⟨aF,Db,lZ.2,t1,t2⟩ j'
  |val v0 =>
   simp only[gS]at Dl;subst Dl;have afc:∃XJ:Heap,(∀id o,XJ.get id=some o→h id=some o)∧cI P Eqs Sg F (opId rid i) XJ s o some=some (.val v0):=by
    cases hf:nH o.op with
    |true=>exact⟨[],fun id o h=>by simp[Heap.get]at h,by rw[NT hf (h':=g6 hh (gR ops b i s o))];exact h3⟩
    |false =>
     cases Ps:iF o.op with
     |some x =>
      have NY:rX ops b i s o=false:=by
       cases hq:rX ops b i s o with
       |false=>rfl
       |true=>unfold gR at rh;rw[(xh Ps).2,hq]at rh;simp[lV]at rh
      have hft:gR ops b i s o=[]:=by unfold gR;rw[(xh Ps).2,NY];rfl
      rw[hft]at h3;have h3':cI P Eqs Sg F (opId rid i) hh s o some=some (.val v0):=h3;have nJ:∀id,(eX (lU (ρ s x)) hh []).get id=if id∈lU (ρ s x) then hh.get id else none:=fun id=>by
       rw[kD]
       split
       ·cases hh.get id<;>rfl
       ·rfl
      refine⟨eX (lU (ρ s x)) hh [],fun id ob br=>?_,?_⟩
      ·rw[nJ]at br
       split at br
       ·rename_i hm;exact D.NZ dj ho Ps hS hb h1 NY h2 id hm ob br
       ·cases br
      ·rw[Kq Ps (hh:=hh) (fun id hm=>by rw[nJ,if_pos hm])];exact h3'
     |none=>exact⟨_,fun id ob br=>D.seen dj ⟨o,ho,hf,Ps⟩ hS hb h2 id ob (by rw[ow]at br;split at br;cases br;exact br),h3⟩
   obtain⟨XJ,JM,LQ⟩:=afc;refine J.op V (rid:=rid) (i:=i) (fun _ id hp=>hp.Bi (by omega) hS) j TF (fun x hx=>(hT x hx).1) (fun x hx=>(hT x hx).2) JM LQ (fun v hw he=>by cases he) (p':=mO rid fun k=>S k∨k=i) (fun id hp hr=>.inl (hp hr)) oz.1 oz.2 fun a' w' Z' ψ' j' => ?_;exact hk _ _ a' w' Z' ψ' ⟨aF,Db,D.HF dj o5 hS (fun⟨v,os,h⟩=>by rw[hE]at h;cases h) (fun⟨v,os,h⟩=>by rw[hE]at h;cases h),t1,t2⟩ j'
  |new v0 os =>simp only[gS]at Dl;subst Dl;have Za:=D.xi o5 ⟨v0,os,hE⟩;have JM:∀id ob,(g6 hh (gR ops b i s o)).get id=some ob→h id=some ob:=fun id ob br=>D.seen dj Za hS hb h2 id ob (by rw[ow]at br;split at br;cases br;exact br);refine J.op V (rid:=rid) (i:=i) (fun _ id hp=>hp.Bi (by omega) hS) j TF (fun x hx=>(hT x hx).1) (fun x hx=>(hT x hx).2) JM h3 (fun v hw he=>by cases he) (p':=mO rid fun k=>S k∨k=i) (fun id hp hr=>.inl (hp hr)) oz.1 oz.2 fun a' w' Z' ψ' j' => ?_;exact hk _ _ a' w' Z' ψ' ⟨aF,Db,D.Qz dj ho hS hb hE,t1,t2⟩ j'
theorem Dr.done(D:Dr P Eqs Sg F rid n ops b T H E)(dj:Dj rid ops b T H E S Tc h)(fq:∀k,k<ops.size→S k):Tc=T ops.size∧h=H ops.size:=by
 constructor
 ·funext d;by_cases hex:∃(j:Nat) (oj:Oper),ops[j]? = some oj∧oj.dst=some d
  ·obtain⟨j,oj,hj,hd⟩:=hex;have JE:=(abX.1 hj).1;rw[dj.Qu j oj d (fq j JE) hj hd,D.FH hj hd ops.size (Nat.le_refl _) JE]
  ·rw[dj.told d fun j o' _ nL Qw=>hex ⟨j,o',nL,Qw⟩,D.vx ops.size (Nat.le_refl _) fun k o' _ nL Qw=>hex ⟨k,o',nL,Qw⟩]
 ·obtain⟨q,hq,_,iX,fw⟩:=dj.heap;have:q=ops.size:=by
   rcases ad3 q ops.size with h1|h1
   ·exact absurd (fq q h1) (iX h1).2
   ·omega
  subst this;funext id;by_cases qH:mO rid S id
  ·exact(fw id).1 qH
  ·rw[(fw id).2 qH]
   symm
   apply Classical.not_not.1;intro aW;apply qH;intro hr;obtain⟨j,h1,h2,h3,_⟩:=D.names ops.size (acn _) id aW hr;rw[(h1.parts h3).2];exact fq j h2
def mn(m:Nat)(ck:Array Bool):Nat:=((List.range m).filter fun i => !ck.getD i false).length
theorem FI{m:Nat}{ck:Array Bool}{i:Nat}(hi:i<m)(hs:i<ck.size)(hn:ck.getD i false=false):mn m ck=mn m (ck.setIfInBounds i true)+1:=by
 unfold mn;have key:∀(l:List Nat),l.Nodup→i∈l→(l.filter fun k => !ck.getD k false).length=(l.filter fun k => !(ck.setIfInBounds i true).getD k false).length+1:=by
  intro l
  induction l with
  |nil=>intro _ h;cases h
  |cons a r ih =>
   intro zQ hm;rw[List.nodup_cons]at zQ;rcases abw.1 hm with rfl|hm
   ·have h2:(r.filter fun k => !ck.getD k false)=(r.filter fun k => !(ck.setIfInBounds i true).getD k false):=by apply List.filter_congr;intro k hk;have aW:i≠k:=fun e=>zQ.1 (e▸hk);rw[getD_set_ne false aW]
    rw[List.filter_cons,List.filter_cons,hn];have h3:(ck.setIfInBounds i true).getD i false=true:=by simp[hs]
    rw[h3,h2];simp
   ·have aW:i≠a:=fun e=>zQ.1 (e▸hm);rw[List.filter_cons,List.filter_cons,getD_set_ne false aW]
    split
    ·simp only[List.length_cons];rw[ih zQ.2 hm]
    ·exact ih zQ.2 hm
 exact key _ List.nodup_range (adJ.2 hi)
theorem Dr.any(D:Dr P Eqs Sg F rid n ops b T H E)(V:Env P Eqs Sg F){Q:Exit→Act→World→Prop}(hQ:∀Z ψ a w,J (mO rid fun k=>k<ops.size) n Z0 w0 O ψ0 Z ψ (T ops.size) (H ops.size) a w→Q .normal a w) :
  ∀(fuel:Nat) (ck:Array Bool) (Tc:Nat→AV) (h:Hp) (a:Act) (w:World) (Z:Nat→Prop) (ψ:Nat→Value),ck.size=ops.size→mn ops.size ck=fuel → Dj rid ops b T H E (fun k=>ck.getD k false=true) Tc h→J (mO rid fun k=>ck.getD k false=true) n Z0 w0 O ψ0 Z ψ Tc h a w→wpAny P .any ops Q fuel ck a w
 |0,ck,Tc,h,a,w,Z,ψ,hs,hu,dj,j=>by
  have fq:∀k,k<ops.size→ck.getD k false=true:=fun k hk=>by unfold mn at hu;have:=List.filter_eq_nil_iff.1 (ace hu) k (adJ.2 hk);simpa using this
  refine⟨?_,?_⟩
  ·apply List.eq_nil_iff_forall_not_mem.2;intro i hi;obtain⟨h1,o,h2,_⟩:=mem_ready.1 hi;have h3:=(abX.1 h2).1;have h4:=fq i h3;rw[Array.getD_eq_getD_getElem?,Array.getElem?_eq_getElem (by omega)]at h1 h4;simp at h1 h4;rw[h1]at h4;cases h4
  ·obtain⟨e1,e2⟩:=D.done dj fq;subst e1;subst e2;refine hQ Z ψ a w ⟨j.ok,j.tr,fun d=>(j.tm d).imp fun id h1 h2=>dj.lt _ (h1 h2),fun id ty cs hb=>(j.hm id ty cs hb).imp fun id h1 h2=>dj.lt _ (h1 h2)⟩
 |fuel+1,ck,Tc,h,a,w,Z,ψ,hs,hu,dj,j=>by
  have look:∀i,i<ops.size→ck.getD i true=ck.getD i false:=fun i hi=>by rw[Array.getD_eq_getD_getElem?,Array.getD_eq_getD_getElem?,Array.getElem?_eq_getElem (by omega)];rfl
  refine⟨fun hr=>?_,fun i hi=>?_⟩
  ·exfalso;have hex:∃i,i<ops.size∧ck.getD i false=false:=by
    apply Classical.byContradiction;intro hn;unfold mn at hu;rw[List.filter_eq_nil_iff.2]at hu
    ·simp at hu
    ·intro k hk;have:=fun h=>hn ⟨k,adJ.1 hk,h⟩
     cases hl:ck.getD k false with
     |true=>simp
     |false=>exact absurd hl this
   have key:∀i,i<ops.size→ck.getD i false=false→False:=by
    intro i
    induction i using Nat.strongRecOn with
    |ind i ih =>
     intro hi hl;have gW:i∈Region.ready .any ops ck:=by
      refine mem_ready.2 ⟨by rw[look i hi];exact hl,_,acz hi,fun e he NH=>?_⟩;have XM:=Kp D.Pv (acz hi) (by simpa using he) NH
      cases hle:ck.getD e.on false with
      |true=>rfl
      |false=>exact(ih e.on XM (by omega) hle).elim
     rw[hr]at gW;cases gW
   obtain⟨i,h1,h2⟩:=hex;exact key i h1 h2
  ·obtain⟨h1,o,ho,fq⟩:=mem_ready.1 hi;have o5:=(abX.1 ho).1;have hn:ck.getD i false=false:=by rw[←look i o5];exact h1
   have hS:¬(ck.getD i false=true):=by rw[hn];simp
   have hb:∀k,sB b i k→ck.getD k false=true:=fun k hk=>by
    obtain⟨e,he,NH,h2⟩:=(zT D.Pv ho).1 hk;have h3:=fq e (by simpa using he) NH;rcases h2 with rfl|h2
    ·exact h3
    ·exact dj.closed e.on k h3 h2
   refine D.Ks V ho hS hb dj j fun Tc' h' a' w' Z' ψ' dj' j' => ?_;have heq:(fun k=>ck.getD k false=true∨k=i)=(fun k=>(ck.setIfInBounds i true).getD k false=true):=by
    funext k;apply propext;by_cases e:i=k
    ·subst e;simp[show i<ck.size by omega]
    ·rw[getD_set_ne false e];constructor
     ·rintro(h|h)
      ·exact h
      ·exact absurd h.symm e
     ·exact .inl
   rw[heq]at dj' j';exact D.any V hQ fuel _ Tc' h' a' w' Z' ψ' (by simpa using hs) (by have:=FI o5 (by omega) hn;omega) dj' j'
end
end Go.Vs
namespace Go.Vs
variable {P:Program} {Eqs:TypeId→Option K} {Sg:FuncId→Option aO} {F:(f:FuncId)→(g:aO)→g.A→Option g.B} {R:Type}
variable {Z Z' Z0:Nat→Prop} {ψ ψ' ψ0:Nat→Value} {h h':Hp} {w w' w0:World} {B0:Nat} {O N:Nat→Prop}
theorem Bu(f:AV→AV)(hf:f .no=.no):∀(l:List (Nat×AV)) (d:Nat),look (l.map fun p=>(p.1,f p.2)) d=f (look l d)
 |[],d=>by simp[look,hf]
 |(i,v)::r,d=>by
  simp only[List.map_cons,look]
  split
  ·rfl
  ·exact Bu f hf r d
section
variable {rid:Nat}
mutual
theorem xj:∀{a:AV} {v:Value},au Z ψ h w a v→au Z ψ h w (bz rid a) v
 |.ref id s i off,v,hr=>by
  simp only[bz]
  split
  ·simp only[au]
  ·exact hr
 |.bC id,v,hr=>by
  simp only[bz]
  split
  ·simp only[au]
  ·exact hr
 |.fn f cap,v,hr=>by simp only[bz,au]at hr ⊢;obtain⟨vs,e,hl⟩:=hr;exact⟨vs,e,mo hl⟩
 |.agg cs,v,hr=>by simp only[bz,au]at hr ⊢;obtain⟨vs,e,hl⟩:=hr;exact⟨vs,e,mo hl⟩
 |.nF cs,v,hr=>by simp only[bz,au]at hr ⊢;obtain⟨vs,e,hl⟩:=hr;exact⟨vs,e,mo hl⟩
 |.no,v,hr=>by simpa only[bz] using hr
 |.bool _,v,hr=>by simpa only[bz] using hr
 |.int _ _,v,hr=>by simpa only[bz] using hr
 |.str _,v,hr=>by simpa only[bz] using hr
 |.lq,v,hr=>by simpa only[bz] using hr
 |.fm,v,hr=>by simpa only[bz] using hr
 |.fp _ _ _,v,hr=>by simpa only[bz] using hr
 |.sl _ _ _,v,hr=>by simpa only[bz] using hr
 |.mp _ _ _,v,hr=>by simpa only[bz] using hr
theorem mo:∀{a:List AV} {v:List Value},an Z ψ h w a v→an Z ψ h w (lW rid a) v
 |[],v,hr=>by simpa only[lW] using hr
 |x::r,v,hr=>by simp only[lW,an]at hr ⊢;obtain⟨u,us,e,h1,h2⟩:=hr;exact⟨u,us,e,xj h1,mo h2⟩
end
mutual
theorem pV:∀(a:AV),aD (mO rid fun _=>False) (bz rid a)
 |.ref id s i off=>by
  simp only[bz]
  split
  ·simp only[aD]
  ·rename_i hn;simp only[aD];exact fun h=>absurd h hn
 |.bC id=>by
  simp only[bz]
  split
  ·simp only[aD]
  ·rename_i hn;simp only[aD];exact fun h=>absurd h hn
 |.fn f cap=>by simp only[bz,aD];exact iY cap
 |.agg cs=>by simp only[bz,aD];exact iY cs
 |.nF cs=>by simp only[bz,aD];exact iY cs
 |.no=>by simp only[bz,aD]
 |.bool _=>by simp only[bz,aD]
 |.int _ _=>by simp only[bz,aD]
 |.str _=>by simp only[bz,aD]
 |.lq=>by simp only[bz,aD]
 |.fm=>by simp only[bz,aD]
 |.fp _ _ _=>by simp only[bz,aD]
 |.sl _ _ _=>by simp only[bz,aD]
 |.mp _ _ _=>by simp only[bz,aD]
theorem iY:∀(a:List AV),av (mO rid fun _=>False) (lW rid a)
 |[]=>by simp only[lW,av]
 |x::r=>by simp only[lW,av];exact⟨pV x,iY r⟩
end
theorem get_map(f:Ob→Ob):∀(hh:Heap) (i:Nat),Heap.get (hh.map fun p=>(p.1,f p.2)) i=(hh.get i).map f
 |[],i=>rfl
 |(j,o)::r,i=>by
  simp only[List.map_cons,Heap.get]
  split
  ·rfl
  ·exact get_map f r i
def nq(rid:Nat)(hh:Heap):Heap:=(hh.filter fun p=>p.1 / 32768 != rid+1).map fun p=>(p.1,AB rid p.2)
theorem N0(hh:Heap)(i:Nat):(nq rid hh).get i=if i / 32768=rid+1 then none else(hh.get i).map (AB rid):=by unfold nq;rw[get_map (AB rid),get_filter (fun i=>i / 32768 != rid+1)];by_cases e:i / 32768=rid+1<;>simp[e]
theorem iM{hh:Heap}{i:Nat}{o:Ob}(hg:(nq rid hh).get i=some o):i / 32768≠rid+1∧∃o',hh.get i=some o'∧o=AB rid o':=by
 rw[N0]at hg
 split at hg
 ·cases hg
 ·rename_i hn
  cases h0:hh.get i with
  |none=>rw[h0]at hg;cases hg
  |some o'=>rw[h0]at hg;cases hg;exact⟨hn,o',rfl,rfl⟩
theorem kG{hh:Heap}{i:Nat}(hg:(nq rid hh).get i≠none):hh.get i≠none:=by obtain⟨o,ho⟩:=acf.1 hg;obtain⟨_,o',h1,_⟩:=iM ho;rw[h1];simp
theorem Good.lj{hh:Heap}(g:Good Z ψ hh.get w B0 O):Good Z ψ (nq rid hh).get w B0 O:=by
 refine⟨fun id ty cs hb=>?_,fun id ok xs hb=>?_,fun id b h1 h2=>g.live id b (kG h1) h2,fun id mP b h1 h2 h3 h4=>g.apart id mP b (kG h1) (kG h2) h3 h4,g.jO⟩
 ·obtain⟨_,o',h1,h2⟩:=iM hb
  cases o' with
  |own ok xs=>cases h2
  |box zg cs' =>
   cases h2
   obtain⟨gg,vs,h3,h4,h5,h6⟩:=g.box id ty cs' h1;exact⟨gg,vs,h3,h4,mo (h5.less (fun _ h=>h) (cj.refl _ _) fun i hi=>⟨kG hi,rfl⟩),h6⟩
 ·obtain⟨_,o',h1,h2⟩:=iM hb
  cases o' with
  |own TU ZC=>cases h2;exact g.row id _ _ h1
  |box zg cs'=>cases h2
theorem Ok.sub{hp:Hp}(k:Ok Z0 w0 O ψ0 Z ψ h w)(g:Good Z ψ hp w w0.heap.size O)(hn:∀id,hp id≠none→h id≠none):Ok Z0 w0 O ψ0 Z ψ hp w :=⟨g,k.fN,k.eC,k.os,k.tape,k.output,k.size,k.block,fun i hi aW=>k.fix i hi (hn i aW)⟩
end
theorem Good.Bv(g:Good Z ψ h w B0 O)(e:w'.heap=w.heap):Good Z ψ h w' B0 O:=by
 have sm:cj Z w w':=fun b _=>by rw[e]
 refine⟨fun id ty cs hb=>?_,fun id ok xs hb=>?_,g.live,g.apart,fun b hb=>by rw[e];exact g.jO b hb⟩
 ·obtain⟨gg,vs,h1,h2,h3,h4⟩:=g.box id ty cs hb;exact⟨gg,vs,h1,by rw[e];exact h2,h3.less (fun _ h=>h) sm (fun i hi=>⟨hi,rfl⟩),h4⟩
 ·exact(g.row id ok xs hb).kept (fun _ h=>h) sm (fun gg _=>by rw[e])
theorem Ok.Bv(k:Ok Z0 w0 O ψ0 Z ψ h w)(e:w'.heap=w.heap)(e1:w'.os=w.os)(e2:w'.tape=w.tape)(e3:w'.output=w.output):Ok Z0 w0 O ψ0 Z ψ h w' :=⟨k.da.Bv e,k.fN,k.eC,e1.trans k.os,e2.trans k.tape,e3.trans k.output,by rw[e];exact k.size,fun b hb ho=>by rw[e];exact k.block b hb ho,k.fix⟩
theorem cK.Bv{n:Nat}{T:Nat→AV}{a:Act}(t:cK Z ψ h w n T a)(e:w'.heap=w.heap):cK Z ψ h w' n T a :=⟨fun d=>(t.rep d).less (fun _ h=>h) (fun b _=>by rw[e]) (fun i hi=>⟨hi,rfl⟩),t.size,t.defers⟩
theorem FJ(V:Env P Eqs Sg F)(hm:P.follows .mixedOrders=true){n rid:Nat}{ops:Array Oper}{draw:Bool}{st:St}{kk:St→Option R}{r:R}{a:Act}{Q:Exit→Act→World→Prop} (hx:iH P Eqs Sg F n rid ops draw st kk=some r) (k:Ok Z0 w0 O ψ0 Z ψ st.heap.get w) (t:cK Z ψ st.heap.get w n (look st.tmps) a) (hQ:∀eu Z ψ a w,kk eu=some r→Ok Z0 w0 O ψ0 Z ψ eu.heap.get w→cK Z ψ eu.heap.get w n (look eu.tmps) a→Q .normal a w):(Code.region rid ops draw).wp P Q a w:=by
 obtain⟨b,Zb,hx⟩:∃b,b=(if draw then Region.before ops else #[])∧(if(ops.all fun o=>iG n o)&&(!draw || (uV ops b&&(Az ops b&&b6 (ops.toList.filterMap (·.dst)))))&&decide (ops.size≤128) then
  bw P Eqs Sg F rid draw ops b (ops.toList.zipIdx.map fun p=>(p.2,p.1)) (lj draw rid ops st) kk else none)=some r:=⟨_,rfl,hx⟩
 split at hx
 ·rename_i hc;simp only[Bool.and_eq_true,decide_eq_true_eq]at hc;obtain⟨⟨lf,hdr⟩,gE⟩:=hc;have Eo:∀(i:Nat) (o:Oper),ops[i]? = some o→iG n o=true:=fun i o ho=>adT.1 lf o (adS ho);have pk:Ok Z0 w0 O ψ0 Z ψ (nq rid st.heap).get w:=k.sub k.da.lj fun id=>kG;have pt:cK Z ψ (nq rid st.heap).get w n (fun d=>bz rid (look st.tmps d)) a :=⟨fun d=>xj ((t.rep d).less (fun _ h=>h) (cj.refl _ _) fun i hi=>⟨kG hi,rfl⟩),t.size,t.defers⟩;have pm:tI (mO rid fun _=>False) (nq rid st.heap).get:=fun i ty cs hb=>by
   obtain⟨_,o',h1,h2⟩:=iM hb
   cases o' with
   |own ok xs=>cases h2
   |box zg cs'=>cases h2;exact iY cs'
  have Ep:look (st.tmps.map fun p=>(p.1,bz rid p.2))=fun d=>bz rid (look st.tmps d):=funext fun d=>Bu (bz rid) (by simp only[bz]) st.tmps d
  cases draw with
  |false =>
   refine wp_region ?_;rw[←Ek ops]
   cases Ko:ops.any (makes ·.op) with
   |false =>
    have hp:lj false rid ops st=st:=by unfold lj;rw[Ko];rfl
    rw[hp]at hx;refine lJ V (rid:=rid) (n:=n) (b:=_) false (fun _ i o ho=>?_) gE Eo hQ _ 0 st Z ψ a w (oy ops) hx ⟨k,t,fun d=>?_,fun i ty cs hb=>?_⟩
    ·have:=Array.any_eq_false'.1 Ko o (adS ho);simpa using this
    ·exact(aD.top _).imp fun id _ h=>by cases h
    ·exact(av.top _).imp fun id _ h=>by cases h
   |true =>
    have hp:lj false rid ops st={ tmps:=st.tmps.map fun p=>(p.1,bz rid p.2),heap:=nq rid st.heap }:=by unfold lj;rw[Ko];rfl
    rw[hp]at hx;refine lJ V (rid:=rid) (n:=n) (b:=_) true (fun h=>by cases h) gE Eo hQ _ 0 _ Z ψ a w (oy ops) hx ⟨pk,by rw[Ep];exact pt,fun d=>?_,fun i ty cs hb=>?_⟩
    ·rw[Ep];exact(pV _).imp fun id h1 _ h2=>(h1 h2).elim
    ·exact(pm i ty cs hb).imp fun id h1 _ h2=>(h1 h2).elim
  |true =>
   have hp:lj true rid ops st={ tmps:=st.tmps.map fun p=>(p.1,bz rid p.2),heap:=nq rid st.heap }:=by unfold lj;rw[Bool.true_or];rfl
   rw[hp]at hx;simp only[Bool.not_true,Bool.false_or,Bool.and_eq_true]at hdr;obtain⟨afe,aan,zQ⟩:=hdr;refine wp_region_any hm ?_;obtain⟨T,H,E,h1,h2,h3,eu,h4,h5,h6⟩:=trace (kk:=kk) (r:=r) (ops.toList.zipIdx.map fun p=>(p.2,p.1)) 0 _ (oy ops) (by simp) hx;rw[Ep]at h1;have D:Dr P Eqs Sg F rid n ops b T H E:=⟨gE,afe,aan,Eo,zQ,fun k o ho=>h3 k o (adO _) ho,fun id br=>by rw[h2]at br;obtain⟨o,ho⟩:=acf.1 br;exact(iM ho).1⟩;have yw:∀k,¬((Array.replicate ops.size false).getD k false=true):=fun k hk=>by
    rw[Array.getD_eq_getD_getElem?,Array.getElem?_replicate]at hk
    split at hk<;>simp at hk
   rw[show max 0 ops.size=ops.size by omega]at h5 h6;have w2:({ w with drawn:=w.drawn+1 }:World).heap=w.heap:=rfl;refine D.any V (Z0:=Z0) (w0:=w0) (O:=O) (ψ0:=ψ0) (fun Z ψ a w j=>hQ eu Z ψ a w h4 (by rw[h6];exact j.ok) (by rw[h5,h6];exact j.tr)) ops.size _ (T 0) (H 0) a _ Z ψ (by simp) ?_ ?_ ?_
   ·unfold mn;rw[List.filter_eq_self.2,List.length_range];intro k _;have:=yw k;simpa using this
   ·refine⟨fun i hi=>(yw i hi).elim,fun i j hi=>(yw i hi).elim,?_,fun j o d hj=>(yw j hj).elim,fun d _=>rfl⟩;obtain⟨q,hq1,hq2,hq3⟩:=Qy E (fun k=>(Array.replicate ops.size false).getD k false=true) ops.size;refine⟨q,hq1,hq2,hq3,fun id=>⟨fun qH=>?_,fun qH=>?_⟩⟩
    ·symm
     refine D.zX q (adO _) hq1 (fun k _ hk hw=>(yw k (hq2 k hk hw)).elim) id fun k _ hk _ ho=>?_;have:=qH (ho.parts (by omega)).1;exact yw _ this
    ·rw[h2];apply Classical.not_not.1;intro aW;obtain⟨o,ho⟩:=acf.1 aW;exact qH fun hr=>absurd hr (iM ho).1
   ·rw[h1,h2];refine⟨pk.Bv w2 rfl rfl rfl,pt.Bv w2,fun d=>(pV _).imp fun id h3 h4=>(h3 h4).elim,fun i ty cs hb=>(pm i ty cs hb).imp fun id h3 h4=>(h3 h4).elim⟩
 ·cases hx
end Go.Vs
