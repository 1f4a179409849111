/- The value semantics is sound -/
import Derived.Test.YtpkfpbpbkabkdaaGreatEngineB
import Derived.Maps.RangeRun
import Derived.ChangeMaps
set_option linter.unusedSimpArgs false
set_option linter.unusedVariables false
namespace Go.Vs
variable {P:Program} {Z Z':Nat→Prop} {ψ ψ':Nat→Value} {h h':Hp} {w w':World} {B0:Nat} {O:Nat→Prop} {N:Nat→Prop}
theorem eW:∀(k:K) (x:k.T),(enc k x).length=k.sz
 |.int _,_=>rfl
 |.bool,_=>rfl
 |.str,_=>rfl
 |.sl _,_=>rfl
 |.mp _ _,_=>rfl
 |.pair a b,x=>by simp only[enc,List.length_append,K.sz];rw[eW a,eW b]
 |.one k,x=>by simp only[enc,K.sz];exact eW k x
theorem qp(hh:Heap):∀(k:K) (x:k.T),(enc k x).map (cE hh)=enc k x
 |.int _,_=>rfl
 |.bool,_=>rfl
 |.str,_=>rfl
 |.sl _,_=>rfl
 |.mp _ _,_=>rfl
 |.pair a b,x=>by simp only[enc,List.map_append];rw[qp hh a,qp hh b]
 |.one k,x=>by simp only[enc];exact qp hh k x
theorem lC:∀(k:K) (x:k.T) (id:Nat),AV.bF id∉enc k x
 |.int _,_,_=>by simp[enc]
 |.bool,_,_=>by simp[enc]
 |.str,_,_=>by simp[enc]
 |.sl _,_,_=>by simp[enc]
 |.mp _ _,_,_=>by simp[enc]
 |.pair a b,x,id=>by
  simp only[enc,List.mem_append];rintro(h|h)
  ·exact lC a _ id h
  ·exact lC b _ id h
 |.one k,x,id=>by simp only[enc];exact lC k x id
theorem v7{hh:Heap}{ok:OK}{n:Nat}{xs:ok.T}(hg:hh.get n=some (.own ok xs)):dL hh ok (.bF n)=some xs:=by simp[dL,hg]
theorem oG{hh:Heap}:∀(di:List CK) (n:Nat) (x:pV di),(∀e∈aU di n x,hh.get e.1=some e.2)→cF di hh (aA di n x)=some x
 |[],n,x,_=>rfl
 |.val k::r,n,x,hg=>by
  have h1:(aA (.val k::r) n x).take k.sz=enc k x.1:=by simp only[aA];rw[←eW k x.1,List.take_left]
  have h2:(aA (.val k::r) n x).drop k.sz=aA r (n+1) x.2:=by simp only[aA];rw[←eW k x.1,List.drop_left]
  have e:cF (.val k::r) hh (aA (.val k::r) n x)=(match c8 k (((aA (.val k::r) n x).take k.sz).map (cE hh)),cF r hh ((aA (.val k::r) n x).drop k.sz) with
   |some x,some y=>some ((x,y):k.T×pV r)
   |_,_=>none):=by generalize aA (.val k::r) n x=l;cases l<;>rfl
  have h4:c8 k (((aA (.val k::r) n x).take k.sz).map (cE hh))=some x.1:=by rw[h1];exact(congrArg (c8 k) (qp hh k x.1)).trans (tg k x.1)
  have h5:cF r hh ((aA (.val k::r) n x).drop k.sz)=some x.2:=by rw[h2];exact oG r (n+1) x.2 hg
  rw[e];generalize c8 k (((aA (.val k::r) n x).take k.sz).map (cE hh))=o1 at h4 ⊢;generalize cF r hh ((aA (.val k::r) n x).drop k.sz)=o2 at h5 ⊢;subst h4;subst h5;rfl
 |.own ok::r,n,x,hg=>by
  simp only[aU]at hg;have h1:=v7 (hg _ ac9);have h2:=oG r (n+1) x.2 (fun e he=>hg e (acm _ he));have e:cF (.own ok::r) hh (aA (.own ok::r) n x)=(match dL hh ok (.bF n),cF r hh (aA r (n+1) x.2) with
   |some x,some y=>some ((x,y):ok.T×pV r)
   |_,_=>none):=rfl
  rw[e,h1,h2];rfl
theorem Mq{hh:Heap}(b:BK){i n:Nat}{x:b.T}(hg:∀e∈iK b i n x,hh.get e.1=some e.2):pe b hh i=some x:=by
 cases b with
 |box ty c =>
  simp only[iK]at hg;have h1:tP hh i ty=some (aA c n x):=by unfold tP;rw[hg _ List.mem_cons_self];simp
  simp only[pe,h1];exact oG (hh:=hh) c n x (fun e he=>hg e (acm _ he))
 |own ok=>exact v7 (hg _ (by simp only[iK];exact ac9))
theorem xy{hh:Heap}:∀(bs:List BK) (is:List Nat) (n:Nat) (x:vH bs),is.length=bs.length→(∀e∈bw bs is n x,hh.get e.1=some e.2)→cT bs hh is=some x
 |[],[],n,x,_,_=>rfl
 |[],_::_,n,x,hl,_=>by simp at hl
 |_::_,[],n,x,hl,_=>by simp at hl
 |b::r,i::is,n,x,hl,hg=>by
  simp only[bw]at hg;have h2:=Mq b (fun e he=>hg e (acr _ he));have h3:=xy r is (n+16) x.2 (by simpa using hl) (fun e he=>hg e (acW _ he));have e:cT (b::r) hh (i::is)=(match pe b hh i,cT r hh is with
    |some x,some y=>some ((x,y):b.T×vH r)
    |_,_=>none):=rfl
  rw[e,h2,h3];rfl
theorem wa{i:Nat}{o:Ob}:∀{hh:Heap},b6 (hh.map (·.1))=true→(i,o)∈hh→hh.get i=some o
 |[],_,h=>by cases h
 |(j,o')::r,hn,h=>by
  obtain⟨h1,h2⟩:=mj hn;simp only[Heap.get];rcases acn.1 h with e|h
  ·cases e;simp
  ·rw[if_neg,wa h2 h];rintro rfl;exact h1 (adq.2 ⟨_,h,rfl⟩)
theorem yL{hh:Heap}:∀(di:List CK) (n:Nat) (x:pV di) (id:Nat),AV.bF id∉o9 di (aA di n x)
 |[],n,x,id=>by simp[aA,o9]
 |.val k::r,n,x,id=>by
  have h1:(aA (.val k::r) n x).take k.sz=enc k x.1:=by simp only[aA];rw[←eW k x.1,List.take_left]
  have h2:(aA (.val k::r) n x).drop k.sz=aA r (n+1) x.2:=by simp only[aA];rw[←eW k x.1,List.drop_left]
  have e:o9 (.val k::r) (aA (.val k::r) n x)=(aA (.val k::r) n x).take k.sz++o9 r ((aA (.val k::r) n x).drop k.sz):=by generalize aA (.val k::r) n x=l;cases l<;>rfl
  rw[e,h1,h2,List.mem_append];rintro(h|h)
  ·exact lC k x.1 id h
  ·exact yL (hh:=hh) r (n+1) x.2 id h
 |.own ok::r,n,x,id=>by simp only[aA,o9];exact yL (hh:=hh) r (n+1) x.2 id
theorem Aj{hh:Heap}:∀(bs:List BK) (is:List Nat) (n:Nat) (x:vH bs) (id:Nat),(∀e∈bw bs is n x,hh.get e.1=some e.2)→AV.bF id∉fM bs hh is
 |[],is,n,x,id,_=>by cases is<;>simp[fM]
 |_::_,[],n,x,id,_=>by simp[fM]
 |b::r,i::is,n,x,id,hg=>by
  simp only[bw]at hg;simp only[fM,List.mem_append];rintro(h|h)
  ·cases b with
   |box ty c =>simp only[zu]at h;rw[hg (i,.box ty (aA c n x.1)) (List.mem_append_left _ (by simp only[iK];exact List.mem_cons_self))]at h;exact yL (hh:=hh) c n x.1 id h
   |own ok=>simp[zu]at h
  ·exact Aj r is (n+16) x.2 id (fun e he=>hg e (acW _ he)) h
theorem Da{hh:Heap}:∀(cap:List AV) (is is':List Nat) (vs:List Value),jr cap=some is→is'.length=is.length→(∀p∈is.zip is',hh.get p.1≠none∧(h' p.2≠none→ψ' p.2=ψ p.1)) → ak Z ψ hh.get w cap vs→ak Z' ψ' h' w (is'.map fun i=>.ref i 0 0 0) vs
 |[],is,is',vs,h1,hl,_,hr=>by
  simp only[jr]at h1
  cases h1
  cases is' with
  |nil=>simpa only[List.map_nil,ak] using hr
  |cons c r=>simp at hl
 |v::cap,is,is',vs,h1,hl,hp,hr=>by
  simp only[jr]at h1
  split at h1
  ·rename_i i is1 h3 h4
   cases h1
   cases is' with
   |nil=>simp at hl
   |cons c r =>simp only[List.zip_cons_cons]at hp;simp only[List.map_cons,ak]at hr ⊢;obtain⟨u,us,rfl,h7,h8⟩:=hr;obtain⟨sz,rfl⟩:=oC h3;obtain⟨h5,h6⟩:=hp _ ac9;exact⟨u,us,rfl,yJ h7 h5 h6,Da cap is1 r us h4 (by simpa using hl) (fun p h=>hp p (acm _ h)) h8⟩
  ·cases h1
theorem sr:∀(cap:List AV) (is:List Nat),jr cap=some is→is.length=cap.length
 |[],is,h=>by simp only[jr]at h;cases h;rfl
 |v::cap,is,h=>by
  simp only[jr]at h
  split at h
  ·rename_i i is1 h3 h4
   cases h
   simp[sr cap is1 h4]
  ·cases h
theorem ss:∀(cs:List AV) (is:List Nat),om cs=some is→is.length=cs.length
 |[],is,h=>by simp only[om]at h;cases h;rfl
 |c::r,is,h=>by
  cases c<;>simp only[om]at h<;>first|(cases h;done)|skip
  split at h
  ·rename_i is' h1
   cases h
   simp[ss r is' h1]
  ·cases h
theorem Db{hh:Heap}:∀(cs:List AV) (is gj:List Nat) (vs:List Value),om cs=some is→gj.length=is.length→(∀p∈is.zip gj,hh.get p.1≠none∧(h' p.2≠none→ψ' p.2=ψ p.1)) → ak Z ψ hh.get w cs vs→ak Z' ψ' h' w (gj.map .bF) vs
 |[],is,gj,vs,h,hl,hp,hr=>by
  simp only[om]at h
  cases h
  have:gj=[]:=adh hl;subst this;simpa only[List.map_nil,ak] using hr
 |c::r,is,gj,vs,h,hl,hp,hr=>by
  cases c<;>simp only[om]at h<;>first|(cases h;done)|skip
  rename_i i
  split at h
  ·rename_i is' h1
   cases h
   cases gj with
   |nil=>simp at hl
   |cons i' gj =>simp only[List.zip_cons_cons]at hp;obtain⟨h5,h6⟩:=hp _ ac9;simp only[List.map_cons,ak]at hr ⊢;obtain⟨u,us,rfl,h3,h4⟩:=hr;refine⟨u,us,rfl,?_,Db r is' gj us h1 (by simpa using hl) (fun p OR=>hp p (acm _ OR)) h4⟩;simp only[av]at h3 ⊢;exact⟨h3.1,fun hn=>(h3.2 h5).trans (h6 hn).symm⟩
  ·cases h
theorem kX{hh:Heap}(g:Good Z ψ hh.get w B0 O)(hz:∀b,Z b→Z' b):∀(ps:List PK) (ids gj:List Nat) (s:Nat) (vs:List AV) (us:List Value) (x:FQ (kr ps)),gj.length=ids.length→cw ps vs=some ids→ed ps hh vs=some x →(∀id b,AV.bF id∈dg ps vs→hh.get id≠none→ob (ψ id)=some b→Z' b)→(∀p∈ids.zip gj,hh.get p.1≠none∧(h' p.2≠none→ψ' p.2=ψ p.1))→ak Z ψ hh.get w vs us→ak Z' ψ' h' w ((aO ps gj s x).map (·.2)) us
 |[],ids,gj,s,vs,us,x,hl,hi,hv,hf,hp,hr=>by
  cases vs with
  |nil=>simpa only[aO,List.map_nil,ak] using hr
  |cons a r=>simp[cw]at hi
 |.val k::ps,ids,gj,s,vs,us,x,hl,hi,hv,hf,hp,hr=>by
  cases vs with
  |nil=>simp[cw]at hi
  |cons a r =>simp only[cw]at hi;simp only[ak]at hr;obtain⟨u,iq,rfl,h3,h4⟩:=hr;obtain⟨h1,h2⟩:=xu hv;simp only[dg]at hf;simp only[aO,List.map_cons,ak];exact⟨u,iq,rfl,rf g hz (fun id b bL=>hf id b (acr _ bL)) h1 h3,kX g hz ps ids gj (s+1) r iq x.2 hl hi h2 (fun id b bL=>hf id b (acW _ bL)) hp h4⟩
 |.ref::ps,ids,gj,s,vs,us,x,hl,hi,hv,hf,hp,hr=>by
  cases vs with
  |nil=>simp[cw]at hi
  |cons a r =>
   simp only[cw]at hi
   split at hi
   ·rename_i i is h1 h2
    cases hi
    simp only[ak]at hr;obtain⟨u,iq,rfl,h3,h4⟩:=hr
    cases gj with
    |nil=>simp at hl
    |cons i' is' =>simp only[List.zip_cons_cons]at hp;obtain⟨sz,rfl⟩:=oC h1;obtain⟨h5,h6⟩:=hp _ ac9;simp only[aO,List.map_cons,ak];exact⟨u,iq,rfl,yJ h3 h5 h6,kX g hz ps is is' (s+1) r iq x (by simpa using hl) h2 hv hf (fun p h=>hp p (acm _ h)) h4⟩
   ·cases hi
 |.own::ps,ids,gj,s,vs,us,x,hl,hi,hv,hf,hp,hr=>by
  cases vs with
  |nil=>simp[cw]at hi
  |cons a r =>
   cases a<;>simp only[cw]at hi<;>first|(cases hi;done)|skip
   rename_i i
   split at hi
   ·rename_i is h2
    cases hi
    simp only[ak]at hr;obtain⟨u,iq,rfl,h3,h4⟩:=hr
    cases gj with
    |nil=>simp at hl
    |cons i' is' =>simp only[List.zip_cons_cons]at hp;obtain⟨h5,h6⟩:=hp _ ac9;simp only[aO,List.map_cons,ak];refine⟨u,iq,rfl,?_,kX g hz ps is is' (s+1) r iq x (by simpa using hl) h2 hv hf (fun p h=>hp p (acm _ h)) h4⟩;simp only[av]at h3 ⊢;exact⟨h3.1,fun hn=>(h3.2 h5).trans (h6 hn).symm⟩
   ·cases hi
 |.FH f m::ps,ids,gj,s,vs,us,x,hl,hi,hv,hf,hp,hr=>by
  cases vs with
  |nil=>simp[cw]at hi
  |cons a r =>
   cases a<;>simp only[cw]at hi<;>first|(cases hi;done)|skip
   rename_i f' cap
   split at hi
   ·rename_i hc;obtain⟨rfl,rU⟩:=hc
    split at hi
    ·rename_i a1 b1 h1 h2
     cases hi
     simp only[ak]at hr;obtain⟨u,iq,rfl,h3,h4⟩:=hr;have h5:=sr cap a1 h1;have xl:(a1++b1).zip gj=a1.zip (gj.take m)++b1.zip (gj.drop m):=by
      conv=>lhs;rw[←List.take_append_drop m gj]
      rw[List.zip_append];rw[List.length_take,Nat.min_eq_left]
      ·omega
      ·rw[hl,List.length_append];omega
     rw[xl]at hp;simp only[aO,List.map_cons,ak];refine⟨u,iq,rfl,?_,kX g hz ps b1 (gj.drop m) (s+1) r iq x (by rw[List.length_drop,hl,List.length_append];omega) h2 hv hf (fun p h=>hp p (acW _ h)) h4⟩;simp only[av]at h3 ⊢;obtain⟨ws,h6,h7⟩:=h3;exact⟨ws,h6,Da cap a1 (gj.take m) _ h1 (by rw[List.length_take,Nat.min_eq_left (by rw[hl,List.length_append];omega)];omega) (fun p h=>hp p (acr _ h)) h7⟩
    ·cases hi
   ·cases hi
 |.agg m::ps,ids,gj,s,vs,us,x,hl,hi,hv,hf,hp,hr=>by
  cases vs with
  |nil=>simp[cw]at hi
  |cons a r =>
   cases a<;>simp only[cw]at hi<;>first|(cases hi;done)|skip
   rename_i cs
   split at hi
   ·rename_i rU
    split at hi
    ·rename_i a1 b1 h1 h2
     cases hi
     simp only[ak]at hr;obtain⟨u,iq,rfl,h3,h4⟩:=hr;have h5:=ss cs a1 h1;have xl:(a1++b1).zip gj=a1.zip (gj.take m)++b1.zip (gj.drop m):=by
      conv=>lhs;rw[←List.take_append_drop m gj]
      rw[List.zip_append];rw[List.length_take,Nat.min_eq_left]
      ·omega
      ·rw[hl,List.length_append];omega
     rw[xl]at hp;simp only[aO,List.map_cons,ak];refine⟨u,iq,rfl,?_,kX g hz ps b1 (gj.drop m) (s+1) r iq x (by rw[List.length_drop,hl,List.length_append];omega) h2 hv hf (fun p h=>hp p (acW _ h)) h4⟩;simp only[av]at h3 ⊢;obtain⟨ws,h6,h7⟩:=h3;exact⟨ws,h6,Db cs a1 (gj.take m) _ h1 (by rw[List.length_take,Nat.min_eq_left (by rw[hl,List.length_append];omega)];omega) (fun p h=>hp p (acr _ h)) h7⟩
    ·cases hi
   ·cases hi
theorem Mr(hh:Heap)(k:K)(x:k.T):fF k hh (cc k x)=some x:=by unfold fF;rw[if_pos (Af k x).symm,th];exact(congrArg (c8 k) (qp hh k x)).trans (tg k x)
theorem mq:∀(di:List CK) (c n:Nat) (x:pV di),fG di c=true→(aA di n x)[mg di c]? = some (.bF (n+c))
 |[],c,n,x,h=>by simp[fG]at h
 |.val k::r,0,n,x,h=>by simp[fG]at h
 |.val k::r,c+1,n,x,h=>by simp only[aA,mg];have ih:=mq r c (n+1) x.2 (by simpa[fG] using h);have hl:(enc k x.1).length=k.sz:=eW k x.1;generalize enc k x.1=l at hl ⊢;rw[List.getElem?_append_right (by omega),hl,Nat.add_sub_cancel_left,show n+(c+1)=n+1+c by omega];exact ih
 |.own ok::r,0,n,x,h=>by simp[aA,mg]
 |.own ok::r,c+1,n,x,h=>by simp only[aA,mg];rw[Nat.add_comm 1,List.getElem?_cons_succ,show n+(c+1)=n+1+c by omega];exact mq r c (n+1) x.2 (by simpa[fG] using h)
theorem xz:∀(bs:List BK) (b:Nat) (is:List Nat) (n:Nat) (x:vH bs) (ty:TypeId) (c:List CK) (bi:Nat),bs[b]? = some (.box ty c)→is[b]? = some bi→∃xb,(bi,.box ty (aA c (n+16*b) xb))∈bw bs is n x
 |[],b,is,n,x,_,_,bi,h,_=>by simp at h
 |b0::r,b,[],n,x,_,_,bi,_,h=>by simp at h
 |b0::r,0,i::is,n,x,ty,c,bi,h1,h2=>by simp only[List.getElem?_cons_zero,Option.some.injEq]at h1 h2;subst h1;subst h2;exact⟨x.1,by simp only[bw,iK];exact acr _ ac9⟩
 |b0::r,b+1,i::is,n,x,ty,c,bi,h1,h2=>by obtain⟨xb,h3⟩:=xz r b is (n+16) x.2 ty c bi (by simpa using h1) (by simpa using h2);refine⟨xb,?_⟩;simp only[bw];rw[show n+16*(b+1)=n+16+16*b by omega];exact acW _ h3
theorem lD{bs:List BK}{hh:Heap}{is:List Nat}{nb:Nat}{xb:vH bs}(hl:is.length=bs.length)(SB:∀e∈bw bs is nb xb,hh.get e.1=some e.2):∀(rs:List RK) (ids2:List Nat) (m:Nat) (y:lk rs),pY bs rs=true →(∀e∈ai rs m y,hh.get e.1=some e.2)→bG bs rs hh is (aP rs ids2 nb m y)=some y
 |[],ids2,m,y,_,_=>rfl
 |.val k::r,ids2,m,y,hk,hg=>by
  simp only[pY,List.all_cons,Bool.and_eq_true,Cu]at hk;have h1:=Mr hh k y.1;have h2:=lD hl SB r ids2 (m+1) y.2 hk.2 hg;have e:bG bs (.val k::r) hh is (aP (.val k::r) ids2 nb m y)=(match fF k hh (cc k y.1),bG bs r hh is (aP r ids2 nb (m+1) y.2) with
   |some x,some y=>some ((x,y):k.T×lk r)
   |_,_=>none):=rfl
  rw[e];generalize fF k hh (cc k y.1)=o1 at h1 ⊢;generalize bG bs r hh is (aP r ids2 nb (m+1) y.2)=o2 at h2 ⊢;subst h1;subst h2;rfl
 |.own ok::r,ids2,m,y,hk,hg=>by
  simp only[pY,List.all_cons,Bool.and_eq_true,Cu]at hk;simp only[ai]at hg;have h1:=v7 (hg _ ac9);have h2:=lD hl SB r ids2 (m+1) y.2 hk.2 (fun e he=>hg e (acm _ he));have e:bG bs (.own ok::r) hh is (aP (.own ok::r) ids2 nb m y)=(match dL hh ok (.bF m),bG bs r hh is (aP r ids2 nb (m+1) y.2) with
   |some x,some y=>some ((x,y):ok.T×lk r)
   |_,_=>none):=rfl
  rw[e];generalize dL hh ok (.bF m)=o1 at h1 ⊢;generalize bG bs r hh is (aP r ids2 nb (m+1) y.2)=o2 at h2 ⊢;subst h1;subst h2;rfl
 |.eu b alts::r,ids2,m,y,hk,hg=>by
  simp only[pY,List.all_cons,Bool.and_eq_true,Cu]at hk;have h2:=lD hl SB r ids2 (m+1) y.2 hk.2 hg;have h1:mH bs hh is b alts (tQ b nb alts y.1)=some y.1:=by
   cases hy:y.1 with
   |none=>rfl
   |some p =>
    obtain⟨al,i⟩:=p;have h3:=hk.1
    split at h3
    ·rename_i bk Y3;have aF:=(ack.1 Y3).1;have Mt:is[b]? = some (is[b]'(by omega)):=aci (by omega);rw[Bool.and_eq_true,decide_eq_true_eq]at h3;obtain⟨h3,FI⟩:=h3;have Y4:∀a:Fin alts.length,fG bk.di (alts.get a).1=true:=fun a=>ado.1 h3 _ (List.get_mem alts a)
     cases bk with
     |own ok=>have:=Y4 al;simp[BK.di,fG]at this
     |box ty c0 =>
      obtain⟨xb',h4⟩:=xz bs b is nb xb ty c0 _ Y3 Mt;have h5:=SB _ h4;simp only[BK.di]at Y4;simp only[mH,tQ,Y3,Mt,h5,BK.di];have key:(List.finRange alts.length).find? (fun a=>w9 c0 (aA c0 (nb+16*b) xb') (nb+16*b+(alts.get al).1) (alts.get al).2.1 (alts.get al).2.2 (alts.get a))=some al:=by
       cases hf:(List.finRange alts.length).find? (fun a=>w9 c0 (aA c0 (nb+16*b) xb') (nb+16*b+(alts.get al).1) (alts.get al).2.1 (alts.get al).2.2 (alts.get a)) with
       |none =>have:=List.find?_eq_none.1 hf al (List.mem_finRange al);exfalso;apply this;simp only[w9,Bool.and_eq_true,decide_eq_true_eq];refine⟨?_,trivial,trivial,Y4 al⟩;rw[mq c0 _ _ xb' (Y4 al)];simp[Og]
       |some a' =>
        have hf':=adC hf;obtain⟨h6,_,h7,_⟩:=Ai hf';rw[mq c0 _ _ xb' (Y4 a')]at h6;simp only[Option.some.injEq,AV.bF.injEq]at h6;have h8:(alts.get a').1=(alts.get al).1:=by omega
        congr 1;have mM:∀a:Fin alts.length,(alts.map fun a=>(a.1,a.2.2))[a.val]? = some ((alts.get a).1,(alts.get a).2.2):=fun a=>by rw[List.getElem?_map,List.getElem?_eq_getElem a.isLt];rfl
        have e1:=mM a';have e2:=mM al;rw[h8,←h7]at e1;exact Fin.ext ((List.getElem?_inj (by simp) FI).1 (e1.trans e2.symm))
      rw[key];rfl
    ·cases h3
  have e:bG bs (.eu b alts::r) hh is (aP (.eu b alts::r) ids2 nb m y)=(match mH bs hh is b alts (tQ b nb alts y.1),bG bs r hh is (aP r ids2 nb (m+1) y.2) with
   |some x,some y=>some ((x,y):Option (Fin alts.length×Nat)×lk r)
   |_,_=>none):=rfl
  rw[e];generalize mH bs hh is b alts (tQ b nb alts y.1)=o1 at h1 ⊢;generalize bG bs r hh is (aP r ids2 nb (m+1) y.2)=o2 at h2 ⊢;subst h1;subst h2;rfl
 |.agg c::r,ids2,m,y,hk,hg=>by
  simp only[pY,List.all_cons,Bool.and_eq_true,Cu]at hk;simp only[ai]at hg;have h1:=oG (hh:=hh) c m y.1 (fun e he=>hg e (acr _ he));have h2:=lD hl SB r ids2 (m+1) y.2 hk.2 (fun e he=>hg e (acW _ he));have e:bG bs (.agg c::r) hh is (aP (.agg c::r) ids2 nb m y)=(match cF c hh (aA c m y.1),bG bs r hh is (aP r ids2 nb (m+1) y.2) with
   |some x,some y=>some ((x,y):pV c×lk r)
   |_,_=>none):=rfl
  rw[e];generalize cF c hh (aA c m y.1)=o1 at h1 ⊢;generalize bG bs r hh is (aP r ids2 nb (m+1) y.2)=o2 at h2 ⊢;subst h1;subst h2;rfl
def oH(g:aL)(x:g.A):Hp:=(bw g.bs (aM g.bs.length) 2000 x.2).get
def jA(g:aL)(y:g.B):Heap:=bw g.bs (aM g.bs.length) 2000 y.2++ai g.rs 3000 y.1
def Ew(g:aL)(x:g.A):List AV:=(aO g.ps (aM g.bs.length) 0 x.1).map (·.2)
def Dc(P:Program)(f:FuncId)(g:aL)(x:g.A)(y:g.B):Prop :=∀(Z:Nat→Prop) (ψ0:Nat→Value) (w:World) (jY:List Value),Good Z ψ0 (oH g x) w w.heap.size (Own ψ0 (oH g x))→ak Z ψ0 (oH g x) w (Ew g x) jY → Calls P (f%1000) jY.toArray w fun e w'=>∃v Z' ψ',e=.returned v∧(∀b,Z b→Z' b)∧(∀b,Z' b→Z b∨Own ψ0 (oH g x) b∨w.heap.size≤b)∧cV ψ0 (oH g x) w w' ∧ Good Z' ψ' (jA g y).get w' w.heap.size (Own ψ0 (oH g x))∧(∀i∈aM g.bs.length,ψ' i=ψ0 i)∧av Z' ψ' (jA g y).get w' (eO (aP g.rs (aM g.bs.length) 2000 3000 y.1)) v
theorem Ex{ψ:Nat→Value}{b:Nat}:¬Own ψ fR b:=fun⟨_,h,_⟩=>h rfl
theorem ux(ids:List Nat)(n:Nat)(x:vH []):bw [] ids n x=[]:=by cases ids<;>rfl
theorem Dc.zero{f:FuncId}{g:aL}{x:g.A}{y:g.B}(hb:g.bs=[])(c:Dc P f g x y):YW P f g x y:=by
 obtain⟨ps,bs,rs,_⟩:=g;simp only at hb;subst hb;intro Z w jY hz hr;have e0:oH ⟨ps,[],rs,_⟩ x=fR:=by unfold oH;rw[ux];rfl
 have e1:jA ⟨ps,[],rs,_⟩ y=ai rs 3000 y.1:=by unfold jA;rw[ux];rfl
 have hO:Own IS fR=fun _=>False:=funext fun b=>propext ⟨Ex,False.elim⟩;unfold Dc at c;rw[e0,e1]at c;refine(c Z IS w jY ⟨fun _ _ _ h=>(by cases h),fun _ _ _ h=>(by cases h),fun _ _ h=>absurd rfl h,fun _ _ _ h=>absurd rfl h,hz⟩ hr).mono fun e w' ⟨v,Z',ψ',h1,h2,h3,h4,h5,_,h6⟩=>?_;exact⟨v,Z',ψ',h1,h2,fun b hb=>(h3 b hb).imp (fun h=>h) fun h=>h.resolve_left Ex,h4,by rw[hO]at h5;exact h5,h6⟩
theorem Gk{bs:List BK}{hh:Heap}{x:vH bs}(hd:cT bs hh []=some x):bs=[]:=by
 cases bs with
 |nil=>rfl
 |cons b r=>cases hd
variable {Eqs:TypeId→Option K} {Sg:FuncId→Option aL} {F:(f:FuncId)→(g:aL)→g.A→Option g.B}
theorem Gl{a b:List Nat}(h:b6 (a++b)=true):b6 a=true:=by
 induction a with
 |nil=>rfl
 |cons i r ih =>
  obtain⟨h1,h2⟩:=mj h;simp only[b6,Bool.and_eq_true,Bool.not_eq_true'];refine⟨?_,ih h2⟩
  cases hc:r.contains i with
  |false=>rfl
  |true=>exact absurd (acr _ (List.contains_iff_mem.1 hc)) h1
theorem Good.Ey(g:Good Z ψ h w B0 O)(B:Nat):Good Z ψ h w B (Own ψ h) :=⟨g.box,g.row,fun id b h1 h2=>⟨(g.live id b h1 h2).1,.inr ⟨id,h1,h2⟩⟩,g.apart,g.ju⟩
theorem nw:∀(l:List Nat) (hh:Heap) (i:Nat),(gH hh l).get i=if i∈l then none else hh.get i
 |[],hh,i=>by simp[gH]
 |j::r,hh,i=>by
  simp only[gH];rw[nw r (hh.del j) i];by_cases h1:i∈r
  ·simp[h1]
  ·by_cases h2:i=j
   ·subst h2;simp[Heap.gh]
   ·rw[Heap.hP h2];simp[h1,h2]
theorem gN:∀(di:List CK) (n:Nat) (x:pV di),(aU di n x).map (·.1)=cd di n
 |[],_,_=>rfl
 |.val k::r,n,x=>gN r (n+1) x.2
 |.own ok::r,n,x=>by simp only[aU,cd,List.map_cons];rw[gN r (n+1) x.2]
theorem lE:∀(bs:List BK) (is:List Nat) (n:Nat) (x:vH bs),is.length=bs.length→(bw bs is n x).map (·.1)=bX bs is n
 |[],is,n,x,_=>by cases is<;>rfl
 |b::r,[],n,x,hl=>by simp at hl
 |b::r,i::is,n,x,hl=>by
  simp only[bw,bX,List.map_append];rw[lE r is (n+16) x.2 (by simpa using hl),←List.cons_append];congr 1
  cases b with
  |box ty c=>simp only[iK,List.map_cons,BK.di];rw[gN]
  |own ok=>simp[iK,BK.di,cd]
theorem fq:∀(rs:List RK) (m:Nat) (y:lk rs),(ai rs m y).map (·.1)=bz rs m
 |[],_,_=>rfl
 |.own ok::r,m,y=>by simp only[ai,bz,List.map_cons];rw[fq r (m+1) y.2]
 |.val _::r,m,y=>fq r (m+1) y.2
 |.eu _ _::r,m,y=>fq r (m+1) y.2
 |.agg c::r,m,y=>by have e1:(aU c m y.1).map (·.1)=cd c m:=gN c m y.1;simp only[ai,bz,List.map_append];rw[fq r (m+1) y.2];exact congrArg (·++_) e1
theorem oI:∀(di:List CK) (n:Nat) (x:pV di),fB di (aA di n x)=cd di n
 |[],_,_=>rfl
 |.val k::r,n,x=>by
  have h2:(aA (.val k::r) n x).drop k.sz=aA r (n+1) x.2:=by simp only[aA];rw[←eW k x.1,List.drop_left]
  have e:fB (.val k::r) (aA (.val k::r) n x)=fB r ((aA (.val k::r) n x).drop k.sz):=by generalize aA (.val k::r) n x=l;cases l<;>rfl
  rw[e,h2,oI r (n+1) x.2];rfl
 |.own ok::r,n,x=>by simp only[aA,fB,oi,cd,List.cons_append,List.nil_append];rw[oI r (n+1) x.2]
theorem xC{hh:Heap}:∀(bs:List BK) (is:List Nat) (n:Nat) (x:vH bs),is.length=bs.length→(∀e∈bw bs is n x,hh.get e.1=some e.2)→cU bs hh is=bX bs is n
 |[],is,n,x,_,_=>by cases is<;>rfl
 |_::_,[],n,x,hl,_=>by simp at hl
 |b::r,i::is,n,x,hl,hg=>by
  simp only[bw]at hg;simp only[cU,bX];rw[xC r is (n+16) x.2 (by simpa using hl) (fun e he=>hg e (List.mem_append_right _ he)),←List.cons_append];congr 1
  cases b with
  |box ty c =>simp only[jM,BK.di];rw[hg (i,.box ty (aA c n x.1)) (List.mem_append_left _ (by simp only[iK];exact List.mem_cons_self))];simp only[];rw[oI]
  |own ok=>simp[jM,BK.di,cd]
theorem jZ:∀(rs:List RK) (ids:List Nat) (n m:Nat) (y:lk rs),dH rs (aP rs ids n m y)=bz rs m
 |[],_,_,_,_=>rfl
 |.own ok::r,ids,n,m,y=>by simp only[aP,dH,bz,oi,List.cons_append,List.nil_append];rw[jZ r ids n (m+1) y.2]
 |.val _::r,ids,n,m,y=>by simp only[aP,dH,bz];exact jZ r ids n (m+1) y.2
 |.eu _ _::r,ids,n,m,y=>by simp only[aP,dH,bz];exact jZ r ids n (m+1) y.2
 |.agg c::r,ids,n,m,y=>by have e1:fB c (aA c m y.1)=cd c m:=oI c m y.1;simp only[aP,dH,bz,AV.cells];rw[jZ r ids n (m+1) y.2];exact congrArg (·++_) e1
theorem lF:∀(rs:List RK) (ids:List Nat) (n m:Nat) (y:lk rs) (id:Nat),AV.bF id∉fN rs (aP rs ids n m y)
 |[],_,_,_,_,_=>by simp[aP,fN]
 |.own ok::r,ids,n,m,y,id=>by simp only[aP,fN];exact lF r ids n (m+1) y.2 id
 |.val k::r,ids,n,m,y,id=>by
  simp only[aP,fN,List.mem_append];rintro(h|h)
  ·have e:(cc k y.1).cells=enc k y.1:=th k y.1;exact lC k y.1 id (e▸h)
  ·exact lF r ids n (m+1) y.2 id h
 |.eu _ _::r,ids,n,m,y,id=>by simp only[aP,fN];exact lF r ids n (m+1) y.2 id
 |.agg c::r,ids,n,m,y,id=>by
  simp only[aP,fN,AV.cells,List.mem_append];rintro(h|h)
  ·exact yL (hh:=[]) c m y.1 id h
  ·exact lF r ids n (m+1) y.2 id h
theorem Mu{gg:aL}{x:gg.A}{y:gg.B}{OT:List Nat}{m0 dN:Nat→Value}{id:Nat}(hl:OT.length=gg.bs.length)(WA:pY gg.bs gg.rs=true)(oJ:b6 (pW gg)=true) (Ak:b6 (bX gg.bs OT id++bz gg.rs (id+128))=true) (OU:Good Z' dN (jA gg y).get w' w.heap.size (Own m0 (oH gg x))) {v:Value} (aek:av Z' dN (jA gg y).get w' (eO (aP gg.rs (aM gg.bs.length) 2000 3000 y.1)) v) :
  ∃L2:List xq,dx L2=bw gg.bs OT id y.2++ai gg.rs (id+128) y.1∧L2.map (·.1)=bX gg.bs OT id++bz gg.rs (id+128) ∧ Good Z' (eC dN L2) (dx L2).get w' w.heap.size (Own m0 (oH gg x))∧(∀p∈(aM gg.bs.length).zip OT,eC dN L2 p.2=dN p.1) ∧ av Z' (eC dN L2) (dx L2).get w' (eO (aP gg.rs OT id (id+128) y.1)) v:=by
 have hle:(aM gg.bs.length).length=gg.bs.length:=by simp[aM]
 have Y5:b6 ((jA gg y).map (·.1))=true:=by unfold jA;rw[List.map_append,lE _ _ _ _ hle,fq];exact oJ
 have SB:∀e∈bw gg.bs (aM gg.bs.length) 2000 y.2,(jA gg y).get e.1=some e.2:=fun e he=>wa Y5 (by unfold jA;exact acr _ he);have hgr:∀e∈ai gg.rs 3000 y.1,(jA gg y).get e.1=some e.2:=fun e he=>wa Y5 (by unfold jA;exact acW _ he);have Cx:=xy gg.bs _ 2000 y.2 hle SB;have Tj:=lD (xb:=y.2) hle SB gg.rs (aM gg.bs.length) 3000 y.1 WA hgr
 let vsC:=aP gg.rs (aM gg.bs.length) 2000 3000 y.1
 let L2:List xq:=cr gg.bs (jA gg y) (aM gg.bs.length) OT id y.2++cv gg.rs vsC (id+128) y.1
 have eH:dx L2=bw gg.bs OT id y.2++ai gg.rs (id+128) y.1:=by show dx (_++_)=_;rw[mn,iO _ _ _ _ _ _ Cx hl,gi]
 have eN:L2.map (·.1)=bX gg.bs OT id++bz gg.rs (id+128):=by show(_++_:List xq).map _=_;rw[List.map_append,gK _ _ _ _ _ _ Cx hl,fm]
 have eS:L2.filterMap (·.2.1)=pW gg:=by show(_++_:List xq).filterMap _=_;rw[List.filterMap_append,jW _ _ _ _ _ _ Cx hl,iu _ _ _ _ Tj,xC _ _ 2000 y.2 hle SB,jZ];rfl
 have hn:b6 (L2.map (·.1))=true:=by rw[eN];exact Ak
 have iI:=yI (ψ:=dN) hn;have g3:Good Z' (eC dN L2) (dx L2).get w' w.heap.size (Own m0 (oH gg x)):=by
  refine OU.rename hn (by rw[eS];exact oJ) fun e he=>?_;rcases adb.1 he with he|he
  ·exact lz OU (fun _ h=>h) gg.bs _ _ id y.2 Cx (fun i b bL _ _=>(Aj gg.bs _ 2000 y.2 i SB bL).elim) (fun s _=>rfl) (fun e he=>iI e (acr _ he)) e he
  ·exact jz gg.rs vsC (id+128) y.1 Tj (fun s _=>rfl) e he
 refine⟨L2,eH,eN,g3,fun p hp=>?_,?_⟩
 ·obtain⟨o,ho⟩:=jX (hh:=jA gg y) gg.bs (aM gg.bs.length) OT id y.2 hle p hp;exact ir hn (acr _ ho)
 ·refine tf (by rw[jO,jO]) (fun vs ns=>?_) aek;exact rp (nb:=id) (is':=OT) OU (fun _ h=>h) Cx hl (fun e he=>iI e (acr _ he)) gg.rs vsC (id+128) y.1 vs Tj (fun i b bL _ _=>(lF gg.rs _ _ _ y.1 i bL).elim) (fun e he=>iI e (acW _ he)) ns
theorem Mv{hh:Heap}{km:List AV}{kept:List Nat}{pN:Hp}{m0 OV:Nat→Value}{H2:Heap}(g:Good Z ψ hh.get w B0 O)(hB:B0≤w.heap.size)(IT:∀s∈kept,(cy hh km).get s=hh.get s) (bf:∀i ty cs,hh.get i=some (.box ty cs)→ax (fun i=>¬N i) cs) (sZ:∀b,Own m0 pN b→∃s,s∈kept∧hh.get s≠none∧ob (ψ s)=some b) (hz:∀b,pT Z ψ hh.get km b→Z' b) (NY:∀b,Z' b→pT Z ψ hh.get km b∨Own m0 pN b∨w.heap.size≤b) (keep:cV m0 pN w w') (g3:Good Z' OV H2.get w' w.heap.size (Own m0 pN)) (WB:∀i ty cs,H2.get i=some (.box ty cs)→ax (fun j=>H2.get j≠none) cs) (rT:∀i,H2.get i≠none→(i∈kept∧hh.get i≠none∧OV i=ψ i)∨N i) :
  ∃Al,(∀i,H2.get i≠none→Al i=OV i)∧Next Z ψ hh.get w B0 O N Z' Al (H2++gH (cy hh km) kept).get w':=by
 classical
 let Al:Nat→Value:=fun i=>if H2.get i≠none then OV i else ψ i
 have h4:∀i,H2.get i≠none→Al i=OV i:=fun i hi=>if_pos hi;have hg:∀i,(H2++gH (cy hh km) kept).get i=(match H2.get i with|some o=>some o|none=>if i∈kept then none else(cy hh km).get i):=fun i=>by rw[Heap.get_append,nw];cases H2.get i<;>rfl
 have Cw:∀i,H2.get i≠none→(H2++gH (cy hh km) kept).get i=H2.get i:=fun i hi=>by
  rw[hg];cases e:H2.get i with
  |none=>exact absurd e hi
  |some o=>rfl
 have xD:∀i,H2.get i=none→(H2++gH (cy hh km) kept).get i≠none→i∉kept∧(H2++gH (cy hh km) kept).get i=hh.get i∧(cy hh km).get i=hh.get i∧Al i=ψ i∧hh.get i≠none:=fun i hi bq=>by
  rw[hg,hi]at bq ⊢;simp only at bq ⊢;by_cases hk:i∈kept
  ·rw[if_pos hk]at bq;exact absurd rfl bq
  ·rw[if_neg hk]at bq ⊢;obtain⟨o,ho⟩:=ade.1 bq;have:=dP _ _ _ _ ho;exact⟨hk,by rw[ho,this],by rw[ho,this],if_neg (by simp[hi]),by rw[this];simp⟩
 have Tk:∀i b,i∉kept→hh.get i≠none→ob (ψ i)=some b→¬Own m0 pN b:=fun i b hk hi hb ho=>by obtain⟨s,h1,h2,h3⟩:=sZ b ho;exact hk ((g.apart i s b hi h2 hb h3)▸h1)
 have gd:Good (pT Z ψ hh.get km) ψ (cy hh km).get w B0 O:=hY g km;have Y6:∀b,pT Z ψ hh.get km b→¬Own m0 pN b:=fun b hb ho=>by obtain⟨s,h1,h2,h3⟩:=sZ b ho;exact(gd.live s b (by rw[IT s h1];exact h2) h3).1 hb
 have sm:cp (pT Z ψ hh.get km) w w':=fun b hb=>keep.block b (gd.ju b hb) (Y6 b hb);have Y7:∀i,(H2++gH (cy hh km) kept).get i≠none→(hh.get i≠none∧Al i=ψ i)∨N i:=fun i hi=>by
  by_cases h2:H2.get i=none
  ·obtain⟨_,_,_,h3,h5⟩:=xD i h2 hi;exact .inl ⟨h5,h3⟩
  ·rcases rT i h2 with⟨_,h3,h5⟩|h3
   ·exact .inl ⟨h3,(h4 i h2).trans h5⟩
   ·exact .inr h3
 have kk:cV ψ hh.get w w':=⟨keep.os,keep.tape,keep.output,keep.size,fun b hb ql=>keep.block b hb fun ho=>by obtain⟨s,_,h2,h3⟩:=sZ b ho;exact ql ⟨s,h2,h3⟩⟩;refine⟨Al,h4,fun b hb=>hz b (.inl hb),fun b hb=>?_,kk,Y7,⟨fun i ty cs hb=>?_,fun i ok xs hb=>?_,fun i b h1 h2=>?_,fun i i' b h1 h2 h3 h5=>?_,g3.ju⟩⟩
 ·rcases NY b hb with h1|h1|h1
  ·exact(h1.imp (fun h=>h) fun⟨i,_,h2,h3⟩=>.inl ⟨i,h2,h3⟩)
  ·obtain⟨s,_,h2,h3⟩:=sZ b h1;exact .inr (.inl ⟨s,h2,h3⟩)
  ·exact .inr (.inr h1)
 ·by_cases h2:H2.get i=none
  ·obtain⟨h3,h5,h6,h7,h8⟩:=xD i h2 (by rw[hb];simp);rw[h5]at hb;obtain⟨gg,vs,e1,e2,e3,e4⟩:=gd.box i ty cs (by rw[h6];exact hb);have aF:=(acV.1 e2).1;refine⟨gg,vs,by rw[h7,e1],?_,?_,e4⟩
   ·rw[keep.block gg aF (Tk i gg h3 h8 (by rw[e1];rfl))];exact e2
   ·refine e3.move (p:=fun i=>¬N i) hz sm (fun j hp hj=>?_) (bf i ty cs hb);by_cases h9:H2.get j=none
    ·obtain⟨_,_,mL,yi,IP⟩:=xD j h9 hj;exact⟨by rw[mL];exact IP,yi⟩
    ·rcases rT j h9 with⟨mL,yi,IP⟩|mL
     ·exact⟨by rw[IT j mL];exact yi,(h4 j h9).trans IP⟩
     ·exact absurd mL hp
  ·rw[Cw i h2]at hb;obtain⟨gg,vs,e1,e2,e3,e4⟩:=g3.box i ty cs hb;exact⟨gg,vs,by rw[h4 i h2,e1],e2,e3.move (p:=fun j=>H2.get j≠none) (fun _ h=>h) (cp.refl _ _) (fun j hp _=>⟨hp,h4 j hp⟩) (WB i ty cs hb),e4⟩
 ·by_cases h2:H2.get i=none
  ·obtain⟨h3,h5,h6,h7,h8⟩:=xD i h2 (by rw[hb];simp);rw[h5]at hb;rw[h7];exact(gd.row i ok xs (by rw[h6];exact hb)).kept hz sm fun gg L8=>keep.block gg (g.bM ⟨i,h8,L8⟩) (Tk i gg h3 h8 L8)
  ·rw[Cw i h2]at hb;rw[h4 i h2];exact g3.row i ok xs hb
 ·by_cases h3:H2.get i=none
  ·obtain⟨h5,h6,h7,h8,h9⟩:=xD i h3 h1;rw[h8]at h2;obtain⟨mL,yi⟩:=gd.live i b (by rw[h7];exact h9) h2;refine⟨fun YK=>?_,yi⟩;rcases NY b YK with IP|IP|IP
   ·exact mL IP
   ·exact Tk i b h5 h9 h2 IP
   ·have:=g.bM ⟨i,h9,h2⟩;omega
  ·rw[h4 i h3]at h2;obtain⟨h5,h6⟩:=g3.live i b h3 h2;refine⟨h5,?_⟩;rcases h6 with h6|h6
   ·exact .inl (by omega)
   ·obtain⟨s,_,h7,h8⟩:=sZ b h6;exact(g.live s b h7 h8).2
 ·have xe:∀i i',H2.get i=none→H2.get i'≠none→(H2++gH (cy hh km) kept).get i≠none→ob (Al i)=some b→ob (Al i')=some b→False:=fun i i' e1 e2 e3 e4 e5=>by
   obtain⟨h6,_,_,h8,h9⟩:=xD i e1 e3;rw[h8]at e4;rw[h4 i' e2]at e5;rcases (g3.live i' b e2 e5).2 with mL|mL
   ·have:=g.bM ⟨i,h9,e4⟩;omega
   ·exact Tk i b h6 h9 e4 mL
  by_cases e1:H2.get i=none<;>by_cases e2:H2.get i'=none
  ·obtain⟨_,_,_,h8,h9⟩:=xD i e1 h1;obtain⟨_,_,_,h8',h9'⟩:=xD i' e2 h2;rw[h8]at h3;rw[h8']at h5;exact g.apart i i' b h9 h9' h3 h5
  ·exact(xe i i' e1 e2 h1 h3 h5).elim
  ·exact(xe i' i e2 e1 h2 h5 h3).elim
  ·rw[h4 i e1]at h3;rw[h4 i' e2]at h5;exact g3.apart i i' b e1 e2 h3 h5
theorem yM{i:Nat}{o:Ob}:∀{hh:Heap},(i,o)∈hh→hh.get i≠none
 |[],h=>by cases h
 |(j,o')::r,h=>by
  simp only[Heap.get]
  split
  ·simp
  ·rename_i hn;rcases acn.1 h with e|h
   ·cases e;exact absurd rfl hn
   ·exact yM h
theorem get_mem{i:Nat}{o:Ob}:∀{hh:Heap},hh.get i=some o→(i,o)∈hh
 |[],h=>by simp[Heap.get]at h
 |(j,o')::r,h=>by
  simp only[Heap.get]at h
  split at h
  ·rename_i e;subst e;cases h;exact ac9
  ·exact acm _ (get_mem h)
theorem oK{p:Nat→Prop}:∀{a b:List AV},ax p a→ax p b→ax p (a++b)
 |[],b,_,h=>h
 |x::r,b,h,h'=>by simp only[List.cons_append,ax]at h ⊢;exact⟨h.1,oK h.2 h'⟩
theorem jP{p:Nat→Prop}:∀(di:List CK) (n:Nat) (x:pV di),(∀e∈aU di n x,p e.1)→ax p (aA di n x)
 |[],n,x,_=>by simp only[aA,ax]
 |.val k::r,n,x,h=>by simp only[aA];exact oK (lB p k x.1) (jP r (n+1) x.2 h)
 |.own ok::r,n,x,h=>by simp only[aU]at h;simp only[aA,ax,aE];exact⟨h _ ac9,jP r (n+1) x.2 fun e he=>h e (acm _ he)⟩
theorem mr:∀(di:List CK) (n:Nat) (x:pV di) (i:Nat) (ty:TypeId) (cs:List AV),(i,Ob.box ty cs)∉aU di n x
 |[],_,_,_,_,_=>by simp[aU]
 |.val k::r,n,x,i,ty,cs=>mr r (n+1) x.2 i ty cs
 |.own _::r,n,x,i,ty,cs=>by simp only[aU,List.mem_cons,not_or];exact⟨by simp,mr r (n+1) x.2 i ty cs⟩
theorem su{p:Nat→Prop}:∀(bs:List BK) (is:List Nat) (n:Nat) (x:vH bs),(∀e∈bw bs is n x,p e.1)→∀i ty cs,(i,Ob.box ty cs)∈bw bs is n x→ax p cs
 |[],is,n,x,_,i,ty,cs,h=>by cases is<;>simp[bw]at h
 |b::r,[],n,x,_,i,ty,cs,h=>by simp[bw]at h
 |b::r,i0::is,n,x,hp,i,ty,cs,h=>by
  simp only[bw]at h hp;rcases adb.1 h with h|h
  ·cases b with
   |box ty0 c0 =>
    simp only[iK]at h hp;rcases acn.1 h with e|h
    ·cases e
     exact jP c0 n x.1 fun e he=>hp e (acr _ (acm _ he))
    ·exact absurd h (mr _ _ _ _ _ _)
   |own ok=>simp[iK]at h
  ·exact su r is (n+16) x.2 (fun e he=>hp e (acW _ he)) i ty cs h
theorem mu:∀(di:List CK) (n i:Nat),i∈cd di n→n≤i∧i<n+di.length
 |[],n,i,h=>by simp[cd]at h
 |.val k::r,n,i,h=>by have:=mu r (n+1) i (by simpa[cd] using h);simp only[List.length_cons];omega
 |.own ok::r,n,i,h=>by
  simp only[cd]at h;simp only[List.length_cons];rcases acn.1 h with rfl|h
  ·omega
  ·have:=mu r (n+1) i h;omega
theorem uy:∀(bs:List BK) (is:List Nat) (n i:Nat),(bs.all fun b=>decide (b.di.length≤16))=true→i∈bX bs is n→i∈is∨(n≤i∧i<n+16*bs.length)
 |[],is,n,i,_,h=>by cases is<;>simp[bX]at h
 |b::r,[],n,i,_,h=>by simp[bX]at h
 |b::r,i0::is,n,i,hc,h=>by
  simp only[List.all_cons,Bool.and_eq_true,decide_eq_true_eq]at hc;simp only[bX]at h;simp only[List.length_cons];rcases acn.1 h with rfl|h
  ·exact .inl ac9
  ·rcases adb.1 h with h|h
   ·have:=mu _ _ _ h;exact .inr (by omega)
   ·rcases uy r is (n+16) i hc.2 h with h1|h1
    ·exact .inl (acm _ h1)
    ·exact .inr (by omega)
theorem iS{bs:List BK}:∀(rs:List RK) (m i:Nat),pY bs rs=true→i∈bz rs m→m≤i∧i<m+rs.length+16
 |[],m,i,_,h=>by simp[bz]at h
 |.own ok::r,m,i,hk,h=>by
  simp only[pY,List.all_cons,Bool.and_eq_true]at hk;simp only[bz]at h;simp only[List.length_cons];rcases acn.1 h with rfl|h
  ·omega
  ·have:=iS r (m+1) i hk.2 h;omega
 |.val _::r,m,i,hk,h=>by simp only[pY,List.all_cons,Bool.and_eq_true]at hk;have:=iS r (m+1) i hk.2 (by simpa[bz] using h);simp only[List.length_cons];omega
 |.eu _ _::r,m,i,hk,h=>by simp only[pY,List.all_cons,Bool.and_eq_true]at hk;have:=iS r (m+1) i hk.2 (by simpa[bz] using h);simp only[List.length_cons];omega
 |.agg c::r,m,i,hk,h=>by
  simp only[pY,List.all_cons,Bool.and_eq_true,Cu,decide_eq_true_eq]at hk;simp only[bz]at h;simp only[List.length_cons];rcases adb.1 h with h|h
  ·have:=mu c m i h;omega
  ·have:=iS r (m+1) i hk.2 h;omega
theorem xF{hh:Heap}:∀(bs:List BK) (is:List Nat) (i:Nat),is.length=bs.length→i∈is→i∈cU bs hh is
 |[],is,i,hl,h=>by cases is with
  |nil=>cases h
  |cons a r=>simp at hl
 |b::r,[],i,_,h=>by cases h
 |b::r,i0::is,i,hl,h=>by
  simp only[cU];rcases acn.1 h with rfl|h
  ·refine acr _ ?_
   cases b<;>simp[jM]
  ·exact acW _ (xF r is i (by simpa using hl) h)
theorem OX{α β:Type}:∀{a:List α} {b:List β},a.length=b.length→∀x∈a,∃y,(x,y)∈a.zip b∧(y,x)∈b.zip a
 |[],b,_,x,h=>by cases h
 |a::r,[],hl,x,_=>by simp at hl
 |a::r,c::q,hl,x,h=>by
  simp only[List.zip_cons_cons];rcases acn.1 h with rfl|h
  ·exact⟨c,ac9,ac9⟩
  ·obtain⟨y,h1,h2⟩:=OX (a:=r) (b:=q) (by simpa using hl) x h;exact⟨y,acm _ h1,acm _ h2⟩
theorem tj:∀(di:List CK) (n c:Nat),fG di c=true→n+c∈cd di n
 |[],n,c,h=>by simp[fG]at h
 |.own _::r,n,0,_=>by simp[cd]
 |.own _::r,n,c+1,h=>by simp only[fG]at h;have:=tj r (n+1) c h;simp only[cd];exact acm _ (by rwa [show n+(c+1)=n+1+c by omega])
 |.val _::r,n,0,h=>by simp[fG]at h
 |.val _::r,n,c+1,h=>by
  simp only[fG]at h;have:=tj r (n+1) c h;simp only[cd]
  rwa [show n+(c+1)=n+1+c by omega]
theorem xG:∀(bs:List BK) (is:List Nat) (n b i:Nat) (bk:BK),is.length=bs.length→bs[b]? = some bk→i∈cd bk.di (n+16*b)→i∈bX bs is n
 |[],_,_,b,_,_,_,h,_=>by simp at h
 |_::_,[],_,_,_,_,hl,_,_=>by simp at hl
 |b0::r,i0::is,n,0,i,bk,hl,hb,hi=>by simp only[List.getElem?_cons_zero,Option.some.injEq]at hb;subst hb;simp only[bX];exact acm _ (acr _ (by simpa using hi))
 |b0::r,i0::is,n,b+1,i,bk,hl,hb,hi=>by
  simp only[List.getElem?_cons_succ]at hb;simp only[bX];refine acm _ (acW _ (xG r is (n+16) b i bk (by simpa using hl) hb ?_))
  rwa [show n+16+16*b=n+16*(b+1) by omega]
theorem j0{p:Nat→Prop}{bs:List BK}{is:List Nat}(hl:is.length=bs.length):∀(rs:List RK) (ids:List Nat) (n m:Nat) (y:lk rs),pY bs rs=true→(∀i∈bz rs m,p i)→(∀i∈bX bs is n,p i)→ax p (aP rs ids n m y)
 |[],_,_,_,_,_,_,_=>by simp only[aP,ax]
 |.val k::r,ids,n,m,y,hr,h1,h2=>by simp only[pY,List.all_cons,Bool.and_eq_true,Cu]at hr;simp only[aP,ax];exact⟨nu p k y.1,j0 hl r ids n (m+1) y.2 hr.2 (fun i hi=>h1 i hi) h2⟩
 |.own _::r,ids,n,m,y,hr,h1,h2=>by simp only[pY,List.all_cons,Bool.and_eq_true,Cu]at hr;simp only[aP,ax,aE];exact⟨h1 m (by simp[bz]),j0 hl r ids n (m+1) y.2 hr.2 (fun i hi=>h1 i (by simp only[bz];exact acm _ hi)) h2⟩
 |.eu b alts::r,ids,n,m,y,hr,h1,h2=>by
  simp only[pY,List.all_cons,Bool.and_eq_true,Cu]at hr;simp only[aP,ax];refine⟨?_,j0 hl r ids n (m+1) y.2 hr.2 (fun i hi=>h1 i hi) h2⟩
  cases hy:y.1 with
  |none=>simp only[tQ,aE]
  |some p =>
   obtain⟨al,i⟩:=p;simp only[tQ,aE]
   cases hb:bs[b]? with
   |none=>rw[hb]at hr;exact absurd hr.1 (by simp)
   |some bk =>rw[hb]at hr;simp only[Bool.and_eq_true]at hr;exact h2 _ (xG bs is n b _ bk hl hb (tj bk.di (n+16*b) _ (ado.1 hr.1.1 _ (List.get_mem alts al))))
 |.agg c::r,ids,n,m,y,hr,h1,h2=>by simp only[pY,List.all_cons,Bool.and_eq_true,Cu]at hr;simp only[aP,ax,aE];refine⟨jP c m y.1 fun e he=>h1 _ ?_,j0 hl r ids n (m+1) y.2 hr.2 (fun i hi=>h1 i (by simp only[bz];exact acW _ hi)) h2⟩;simp only[bz];have e1:(aU c m y.1).map (·.1)=cd c m:=gN c m y.1;exact acr _ (e1▸adq.2 ⟨e,he,rfl⟩)
theorem Jo{p:Nat→Prop}{vs:List AV}(h:ax p vs):aE p (eO vs):=by
 match vs,h with
 |[],h=>simp only[eO,aE];exact h
 |[v],h=>simp only[eO];simp only[ax]at h;exact h.1
 |_::_::_,h=>simp only[eO,aE];exact h
def fE(P:Program)(f:FuncId)(u:Heap→Nat→List AV→Option (Bool×bE)):Prop :=∀{Z:Nat→Prop} {ψ:Nat→Value} {h:Hp} {w:World} {B0:Nat} {O N:Nat→Prop} {hh:Heap} {id:Nat} {e:bE} {vs:List AV} {us:List Value},Good Z ψ h w B0 O→B0≤w.heap.size→(∀id o,hh.get id=some o→h id=some o)→(∀j,j<256→N (id+j))→(∀i ty cs,h i=some (.box ty cs)→ax (fun i=>¬N i) cs)→(∀v hw,e=.wr v hw→hh.get=h) → ak Z ψ h w vs us→ax (fun i=>¬N i) vs→u hh id vs=some (true,e) → Calls P f us.toArray w fun en w'=>∃V Z' ψ',en=.returned V∧Next Z ψ h w B0 O N Z' ψ' (e.hp h) w'∧av Z' ψ' (e.hp h) w' e.v V
theorem Tl{R:Type}{n:Nat}(a:Fin n)(f:Fin n→Option R):YI n a f=f a:=by
 have key:∀l:List (Fin n),a∈l→l.foldr (fun j r=>cond (a.val==j.val) (f j) r) none=f a:=by
  intro l
  induction l with
  |nil=>intro h;cases h
  |cons j r ih =>
   intro h;simp only[List.foldr_cons];by_cases e:a=j
   ·subst e;simp
   ·have:(a.val==j.val)=false:=by simp only[beq_eq_false_iff_ne,ne_eq];exact fun h=>e (Fin.ext h)
    rw[this,cond_false];rcases acn.1 h with h|h
    ·exact absurd h e
    ·exact ih h
 exact key _ (List.mem_finRange a)
theorem iv{R:Type}:∀(rs:List RK) (x:lk rs) (K:lk rs→Option R),js rs x K=K x
 |[],_,_=>rfl
 |.val _::r,x,K=>by simp only[js];rw[iv r x.2];rfl
 |.own _::r,x,K=>by simp only[js];rw[iv r x.2];rfl
 |.agg _::r,x,K=>by simp only[js];rw[iv r x.2];rfl
 |.eu _ alts::r,x,K=>by
  simp only[js];obtain⟨x1,x2⟩:=x
  cases x1 with
  |none=>simp only[pZ];rw[iv r x2]
  |some p=>simp only[pZ];rw[Tl,iv r x2]
theorem Jp(hX:∀f g u,Sg f=some g→g.x=some u→fE P (f%1000) u)(hF:∀f g x y,Sg f=some g→F f g x=some y→Dc P f g x y)(Mw:∀f g,Sg f=some g→iQ P (f%1000)) {hh:Heap} {ρC:Operand→Value} {o:Oper} (g:Good Z ψ h w B0 O) (hB:B0≤w.heap.size) (bu:∀id o,hh.get id=some o→h id=some o) {id:Nat} (hN:∀j,j<256→N (id+j)) {e:bE} (bf:∀i ty cs,h i=some (.box ty cs)→ax (fun i=>¬N i) cs) (me:∀v hw,e=.wr v hw→hh.get=h) {f:FuncId} {cap vs:List AV} {fv:Value} {us:List Value} (Tn:av Z ψ h w (.fn f cap) fv) (ns:ak Z ψ h w vs us) (Co:ax (fun i=>¬N i) (vs++cap)) (hex:∀(ws:Array Value),fv=.func (.func f) #[] ws→execOp ρC o=callFunc f (us.toArray++ws)) (he:iL Sg F hh id f (vs++cap) some=some e):U6 P ρC o Z ψ h w B0 O N e:=by
 unfold iL at he
 split at he
 ·cases he
 rename_i gg hSg;simp only[av]at Tn;obtain⟨ws,rfl,WC⟩:=Tn;have Dd:=Mw _ _ hSg;have kE:ak Z ψ h w (vs++cap) (us++ws.toList):=ak.append ns WC;have Ez:ak Z ψ hh.get w (vs++cap) (us++ws.toList):=kE.pM bu;have gs:Good Z ψ hh.get w B0 O:=g.sub bu;have OY:us.toArray++ws=(us++ws.toList).toArray:=by simp
 split at he
 ·rename_i u hu
  split at he
  ·rename_i hf;obtain⟨⟨b,e'⟩,Y8,Sw⟩:=adp.1 he
   cases b with
   |false=>cases Sw
   |true =>
   cases Sw
   have Gm:keyOf Sg f (vs++cap)%1000=f:=by rw[vY];exact Nat.mod_eq_of_lt hf
   have hx:fE P f u:=by rw[←Gm];exact hX _ _ _ hSg hu
   rw[Gm]at Dd;refine⟨f,us.toArray++ws,by rw[hex ws rfl];exact iR Dd _,?_⟩;rw[OY];exact hx g hB bu hN bf me kE Co Y8
  ·cases he
 split at he
 ·rename_i i0 rT EA
  split at he
  ·rename_i Mx;simp only[Bool.and_eq_true,List.isEmpty_iff]at Mx;obtain⟨rfl,_⟩:=Mx
   split at he
   rotate_left
   ·cases he
   rename_i x b hx hb qm;obtain⟨y,hy,he⟩:=adp.1 he;simp only[Oh,Bool.and_eq_true,decide_eq_true_eq]at EA;obtain⟨_,_,⟨hlen,hf⟩,_⟩:=EA;have CB:=(hF _ _ _ _ hSg hy).zero (Gk hb);have Gm:keyOf Sg f (vs++cap)%1000=f:=by rw[vY];exact Nat.mod_eq_of_lt hf
   rw[Gm]at Dd;have hN':∀j,j<gg.rs.length+16→N (id+128+j):=fun j hj=>by rw[Nat.add_assoc];exact hN _ (by omega)
   refine⟨f,us.toArray++ws,by rw[hex ws rfl];exact iR Dd _,?_⟩;rw[OY];unfold YW at CB;rw[Gm]at CB;by_cases ql:pX (vs++cap)=true
   ·rw[ql,Bool.or_true]at he
    cases he
    have h1:ak Z IS fR w (C9 gg x) (us++ws.toList):=Ae gs (fun _ h=>h) gg.ps 0 _ _ x (fun v hv i b hi _ _=>(qn ql v hv i hi).elim) rT hx Ez;refine(CB Z w _ g.ju h1).mono fun en w' ⟨v,Z',ψ',e1,h2,h3,h4,h5,h6⟩=>?_;obtain⟨ti,n,hr⟩:=vZ (nb:=id) qm g hB bf hN' h4 h2 h3 h5 h6;exact⟨v,Z',ti,e1,n,hr⟩
   ·cases hfl:gg.rs.all RK.flat with
    |true =>
     rw[hfl,Bool.true_or]at he
     cases he
     let Zc:Nat→Prop:=fun b=>b<w.heap.size
     have h1:ak Zc IS fR w (C9 gg x) (us++ws.toList):=Ae gs g.ju gg.ps 0 _ _ x (fun v hv i b hi h1 h2=>gs.bM ⟨i,h1,h2⟩) rT hx Ez;refine(CB Zc w _ (fun _ h=>h) h1).mono fun en w' ⟨v,Z',ψ',e1,h2,h3,h4,h5,h6⟩=>?_;have Y9:=Mo gg.rs 3000 y.1 hfl qm;have h7:av Z ψ' (ai gg.rs 3000 y.1).get w' (eO (aP gg.rs [] 2000 3000 y.1)) v:=tf rfl (fun vs ns=>OP gg.rs hfl qm ns) h6;have gz:Good Z ψ' (ai gg.rs 3000 y.1).get w' w.heap.size (fun _=>False):=by rw[Y9];exact⟨fun _ _ _ hb=>by simp[Heap.get]at hb,fun _ _ _ hb=>by simp[Heap.get]at hb,fun _ _ hb=>by simp[Heap.get]at hb,fun _ _ _ hb=>by simp[Heap.get]at hb,fun b hb=>ady (g.ju b hb) h4.size⟩
     obtain⟨ti,n,hr⟩:=vZ (nb:=id) qm g hB bf hN' h4 (fun _ h=>h) (fun _ h=>.inl h) gz h7;exact⟨v,Z,ti,e1,n,hr⟩
    |false =>
     rw[hfl,Bool.false_or,Bool.eq_false_iff.2 ql]at he
     cases he
     have heq:=me _ _ rfl;subst heq
     let cs:=dg gg.ps (vs++cap)
     have S5:∀b,pT Z ψ hh.get cs b→Z b∨Own ψ hh.get b:=fun b hb=>hb.imp (fun h=>h) (fun⟨i,_,h2,h3⟩=>⟨i,h2,h3⟩);have gd:Good (pT Z ψ hh.get cs) ψ (cy hh cs).get w B0 O:=hY g cs;have h1:ak (pT Z ψ hh.get cs) IS fR w (C9 gg x) (us++ws.toList) :=Ae gs (fun _ h=>.inl h) gg.ps 0 _ _ x (fun v hv i b hi h1 h2=>.inr ⟨i,uu _ _ rT v hv i hi,h1,h2⟩) rT hx Ez;refine(CB _ w _ gd.ju h1).mono fun en w' ⟨v,Z',ψ',e1,h2,h3,h4,h5,h6⟩=>?_;obtain⟨ti,n,hr⟩:=vZ (nb:=id) qm gd hB (fun i ty cs hb=>bf i ty cs (dP _ _ _ _ hb)) hN' h4 h2 h3 h5 h6;have e2:(bE.wr (eO (aP gg.rs [] id (id+128) y.1)) (ai gg.rs (id+128) y.1++cy hh (dg gg.ps (vs++cap)))).hp hh.get=(fun i=>match (ai gg.rs (id+128) y.1).get i with|some o=>some o|none=>(cy hh cs).get i):=by
      funext i;simp only[bE.hp];rw[Heap.get_append]
      cases (ai gg.rs (id+128) y.1).get i<;>rfl
     rw[e2];exact⟨v,Z',ti,e1,n.drop (fun _ h=>.inl h) S5 (dP _ _),hr⟩
  ·split at he
   rotate_left
   ·cases he
   rename_i x b hx hb CC;obtain⟨y,hy,he⟩:=adp.1 he;rw[iv]at he
   cases he
   have heq:=me _ _ rfl;subst heq;simp only[Oh,Bool.and_eq_true,decide_eq_true_eq]at EA;obtain⟨WA,⟨hbl,rU⟩,⟨hlen,hf⟩,oJ⟩:=EA;rw[Bool.and_eq_true]at CC;have CB:=hF _ _ _ _ hSg hy;have Gm:keyOf Sg f (vs++cap)%1000=f:=by rw[vY];exact Nat.mod_eq_of_lt hf
   rw[Gm]at Dd;refine⟨f,us.toArray++ws,by rw[hex ws rfl];exact iR Dd _,?_⟩;rw[OY];unfold Dc at CB;rw[Gm]at CB;have hl:i0.length=gg.bs.length:=(iP _ _ _ hb).1;have Am:=(iP _ _ _ hb).2;have hle:(aM gg.bs.length).length=gg.bs.length:=by simp[aM]
   let km:=dg gg.ps (vs++cap)++fM gg.bs hh i0
   let L1:List xq:=cr gg.bs hh i0 (aM gg.bs.length) 2000 b
   have eH1:dx L1=bw gg.bs (aM gg.bs.length) 2000 b:=iO _ _ _ _ _ _ hb hle;have eN1:L1.map (·.1)=bX gg.bs (aM gg.bs.length) 2000:=gK _ _ _ _ _ _ hb hle;have eS1:L1.filterMap (·.2.1)=cU gg.bs hh i0:=jW _ _ _ _ _ _ hb hle;have WD:b6 (L1.map (·.1))=true:=by rw[eN1];exact Gl oJ
   have Ww:=yI (ψ:=ψ) WD;have IT:=(rm CC.1).2 hh;have xl:∀b,Z b→pT Z ψ hh.get km b:=fun b hb=>.inl hb;have Za:∀e∈L1,uo (pT Z ψ hh.get km) ψ (cy hh km).get w (dx L1).get (eC ψ L1) e:=fun e he =>lz gs xl gg.bs _ _ 2000 b hb (fun i b bL h1 h2=>.inr ⟨i,acW _ bL,h1,h2⟩) IT Ww e he;have gin:Good (pT Z ψ hh.get km) (eC ψ L1) (dx L1).get w B0 O:=vX gs CC.1 WD eS1 Za;have ein:(dx L1).get=oH gg (x,b):=by rw[eH1];rfl
   have OZ:∀p∈i0.zip (aM gg.bs.length),(p.2,some p.1)∈L1.map (fun e=>(e.1,e.2.1)):=fun p hp=>by obtain⟨o,ho⟩:=jX (hh:=hh) gg.bs i0 (aM gg.bs.length) 2000 b hl p hp;exact adq.2 ⟨_,ho,rfl⟩
   have Zb:∀p∈i0.zip (aM gg.bs.length),eC ψ L1 p.2=ψ p.1:=fun p hp=>by
    obtain⟨⟨i,s,o⟩,ho,he⟩:=adq.1 (OZ p hp)
    cases he
    exact ir WD ho
   have WE:ak (pT Z ψ hh.get km) (eC ψ L1) (dx L1).get w (Ew gg (x,b)) (us++ws.toList) :=kX gs xl gg.ps i0 (aM gg.bs.length) 0 _ _ x (by rw[hle,hl]) rT hx (fun i b bL h1 h2=>.inr ⟨i,acr _ bL,h1,h2⟩) (fun p hp=>⟨Am _ (List.of_mem_zip hp).1,fun _=>Zb p hp⟩) Ez;have sZ:∀c,Own (eC ψ L1) (oH gg (x,b)) c→∃s,s∈cU gg.bs hh i0∧hh.get s≠none∧ob (ψ s)=some c:=fun c ⟨i,h1,h2⟩=>by
    rw[←ein]at h1;obtain⟨o,ho⟩:=ade.1 h1;obtain⟨s,hm⟩:=nt ho;rw[ir WD hm]at h2
    cases s with
    |none=>simp[jx,ob]at h2
    |some s =>
     have hs:s∈cU gg.bs hh i0:=by rw[←eS1];exact ad7.2 ⟨_,hm,rfl⟩
     refine⟨s,hs,?_,h2⟩;have h3:=Za _ hm;rw[←IT s hs]
     cases o with
     |box ty cs=>obtain⟨⟨cs0,h4⟩,_⟩:=h3;rw[h4];simp
     |own ok xs=>rw[show(cy hh km).get s=some (.own ok xs) from h3];simp
   refine(CB (pT Z ψ hh.get km) (eC ψ L1) w (us++ws.toList) (by rw[←ein];exact gin.Ey _) (by rw[←ein];exact WE)).mono fun en w' ⟨v,Z',dN,e1,h2,h3,h4,h5,h6,h7⟩=>?_;obtain⟨L2,Zd,eN2,g3,YP,WG⟩:=Mu (x:=(x,b)) (y:=y) (id:=id) hl WA oJ CC.2 h5 h7;have WB:∀i ty cs,(dx L2).get i=some (.box ty cs)→ax (fun j=>(dx L2).get j≠none) cs:=fun i ty cs hg=>by
    have iU:=get_mem hg;rw[Zd]at iU;rcases adb.1 iU with iU|iU
    ·exact su gg.bs _ id y.2 (fun e he=>by rw[Zd];exact yM (o:=e.2) (acr _ he)) i ty cs iU
    ·exfalso;have:∀(rs:List RK) (m:Nat) (y:lk rs),(i,Ob.box ty cs)∉ai rs m y:=by
      intro rs
      induction rs with
      |nil=>intro m y;simp[ai]
      |cons r rs ih =>
       intro m y
       cases r with
       |agg c=>simp only[ai,List.mem_append,not_or];exact⟨mr _ _ _ _ _ _,ih (m+1) y.2⟩
       |val k=>exact ih (m+1) y.2
       |eu _ _=>exact ih (m+1) y.2
       |own ok=>simp only[ai,List.mem_cons,not_or];exact⟨by simp,ih (m+1) y.2⟩
     exact this _ _ _ iU
   have Ze:∀i,(dx L2).get i≠none→(i∈cU gg.bs hh i0∧hh.get i≠none∧eC dN L2 i=ψ i)∨N i:=fun i hi=>by
    obtain⟨o,ho⟩:=ade.1 hi;obtain⟨s,hm⟩:=nt ho;have iU:i∈bX gg.bs i0 id++bz gg.rs (id+128):=by rw[←eN2];exact adq.2 ⟨_,hm,rfl⟩
    have hNr:∀i,id≤i→i<id+256→N i:=fun i h1 h2=>by
     have:=hN (i-id) (by omega)
     rwa [show id+(i-id)=i by omega]at this
    rcases adb.1 iU with iU|iU
    ·rcases uy _ _ _ _ rU iU with h8|h8
     ·refine .inl ⟨xF _ _ _ hl h8,Am i h8,?_⟩;obtain⟨ee,h9,mL⟩:=OX (by rw[hle,hl]) i h8;rw[YP (ee,i) mL];have yi:ee∈aM gg.bs.length:=(List.of_mem_zip mL).1;rw[h6 ee yi];exact Zb (i,ee) h9
     ·exact .inr (hNr i h8.1 (by omega))
    ·have h8:=iS _ _ _ WA iU;exact .inr (hNr i (by omega) (by omega))
   obtain⟨Al,h8,nx⟩:=Mv (N:=N) gs hB IT bf sZ h2 h3 h4 g3 WB Ze;have eH3:(bE.wr (eO (aP gg.rs i0 id (id+128) y.1)) (bw gg.bs i0 id y.2++(ai gg.rs (id+128) y.1++gH (cy hh (dg gg.ps (vs++cap)++fM gg.bs hh i0)) (cU gg.bs hh i0)))).hp hh.get =(dx L2++gH (cy hh km) (cU gg.bs hh i0)).get:=by rw[Zd,List.append_assoc];rfl
   rw[eH3];refine⟨v,Z',Al,e1,nx,?_⟩;refine WG.move (p:=fun j=>(dx L2).get j≠none) (fun _ h=>h) (cp.refl _ _) (fun j hp _=>⟨hp,h8 j hp⟩) ?_;refine Jo (j0 hl gg.rs _ id (id+128) y.1 WA (fun i hi=>?_) fun i hi=>?_)
   ·rw[←fq gg.rs (id+128) y.1]at hi;obtain⟨e,he,rfl⟩:=adq.1 hi;rw[Zd];exact yM (o:=e.2) (acW _ he)
   ·rw[←lE gg.bs i0 id y.2 hl]at hi;obtain⟨e,he,rfl⟩:=adq.1 hi;rw[Zd];exact yM (o:=e.2) (acr _ he)
 ·cases he
end Go.Vs
namespace Go.Vs
variable {P:Program} {Eqs:TypeId→Option K} {Sg:FuncId→Option aL} {F:(f:FuncId)→(g:aL)→g.A→Option g.B} {R:Type} {k:bE→Option R}
theorem bP{c:Bool}{e:bE}:cond c (k e) none=(cond c (some e) none).bind k:=by cases c<;>rfl
theorem bH{c:Bool}{e:bE}:cond c none (k e)=(cond c none (some e)).bind k:=by cases c<;>rfl
theorem bI{c:Bool}{e e':bE}:cond c (k e) (k e')=(cond c (some e) (some e')).bind k:=by cases c<;>rfl
theorem bQ{α:Type}(o:Option α)(f:α→Option R)(g:α→Option bE)(h:∀x,f x=(g x).bind k):o.bind f=(o.bind g).bind k:=by cases o with
 |none=>rfl
 |some x=>exact h x
theorem Jq{h:Heap}{id:Nat}{t:TypeId}{s x:AV}:nh P h id t s x k=(nh P h id t s x some).bind k:=by unfold nh;repeat' (first|rfl|exact bP|exact bH | exact bI|(refine bQ _ _ _ (fun _=>?_))|split)
theorem My{h:Heap}{t:TypeId}{s x:AV}:qU P h t s x k=(qU P h t s x some).bind k:=by unfold qU;repeat' (first|rfl|exact bP|exact bH | exact bI|(refine bQ _ _ _ (fun _=>?_))|split)
theorem O0{h:Heap}{t:TypeId}{s:AV}:ll P h t s k=(ll P h t s some).bind k:=by unfold ll;repeat' (first|rfl|exact bP|exact bH | exact bI|(refine bQ _ _ _ (fun _=>?_))|split)
theorem CD{h:Heap}{t:TypeId}{s x:AV}:dt P h t s x k=(dt P h t s x some).bind k:=by unfold dt;repeat' (first|rfl|exact bP|exact bH | exact bI|(refine bQ _ _ _ (fun _=>?_))|split)
theorem O2{x:AV}{lo hi mx:Option AV}:vJ x lo hi mx k=(vJ x lo hi mx some).bind k:=by unfold vJ;repeat' (first|rfl|exact bP|exact bH | exact bI|(refine bQ _ _ _ (fun _=>?_))|split)
theorem Mz{h:Heap}{sz:Nat}{x:AV}{lo hi mx:Option AV}:od h sz x lo hi mx k=(od h sz x lo hi mx some).bind k:=by unfold od;repeat' (first|rfl|exact bP|exact bH | exact bI|(refine bQ _ _ _ (fun _=>?_))|split)
theorem Tp{h:Heap}{x:AV}:CX h x k=(CX h x some).bind k:=by unfold CX;repeat' (first|rfl|exact bP|exact bH | exact bI|(refine bQ _ _ _ (fun _=>?_))|split)
theorem Tq{op:BinOp}{t:TypeId}{x y:AV}:w8 P Eqs op t x y k=(w8 P Eqs op t x y some).bind k:=by unfold w8;repeat' (first|rfl|exact bP|exact bH | exact bI|(refine bQ _ _ _ (fun _=>?_))|split)
theorem Gn(rs:List RK)(x:lk rs)(f:lk rs→Option R)(g:lk rs→Option bE)(h:∀z,f z=(g z).bind k):js rs x f=(js rs x g).bind k:=by rw[iv,iv];exact h x
theorem O3{h:Heap}{id:Nat}{f:FuncId}{vs:List AV}:iL Sg F h id f vs k=(iL Sg F h id f vs some).bind k:=by unfold iL;repeat' (first|rfl|exact bP|exact bH | exact bI|(refine bQ _ _ _ (fun _=>?_))|(refine Gn _ _ _ _ (fun _=>?_))|split)
theorem O4{id:Nat}{t:TypeId}{vs:List AV}:vN id t vs k=(vN id t vs some).bind k:=rfl
theorem MA{t:TypeId}{ps:List (Nat×AV)}:qX P t ps k=(qX P t ps some).bind k:=by unfold qX;repeat' (first|rfl|exact bP|exact bH | exact bI|(refine bQ _ _ _ (fun _=>?_))|split)
theorem EB{h:Heap}{id:Nat}{t:TypeId}{n:Nat}{ps:List (Nat×AV)}:tR P h id t n ps k=(tR P h id t n ps some).bind k:=by unfold tR;repeat' (first|rfl|exact bP|exact bH | exact bI|(refine bQ _ _ _ (fun _=>?_))|split)
theorem O5{km:Bool}{h:Heap}{id:Nat}{t:TypeId}{n:Nat}{ps:List (Nat×AV)}:vO P km h id t n ps k=(vO P km h id t n ps some).bind k:=by unfold vO;rw[EB,EB (k:=fun e=>some (if km then SU e else e)),Option.bind_assoc];rfl
theorem O6{s d:TypeId}{x:AV}:zz P s d x k=(zz P s d x some).bind k:=by unfold zz;repeat' (first|rfl|exact bP|exact bH | exact bI|(refine bQ _ _ _ (fun _=>?_))|split)
theorem WH{b:Bool}{vs:List AV}:L6 b vs k=(L6 b vs some).bind k:=by unfold L6;repeat' (first|rfl|exact bP|exact bH | exact bI|(refine bQ _ _ _ (fun _=>?_))|split)
theorem O7{h:Heap}{x:AV}:vK h x k=(vK h x some).bind k:=by unfold vK;repeat' (first|rfl|exact bP|exact bH | exact bI|(refine bQ _ _ _ (fun _=>?_))|split)
theorem Gp{id:Nat}{t:TypeId}:kW P Eqs id t k=(kW P Eqs id t some).bind k:=by unfold kW;repeat' (first|rfl|exact bP|exact bH | exact bI|(refine bQ _ _ _ (fun _=>?_))|split)
theorem Js{h:Heap}{t:TypeId}{m i:AV}{ok:Bool}:ni P Eqs h t m i ok k=(ni P Eqs h t m i ok some).bind k:=by unfold ni;repeat' (first|rfl|exact bP|exact bH | exact bI|(refine bQ _ _ _ (fun _=>?_))|split)
theorem Jt{h:Heap}{t:TypeId}{m i v:AV}:im P Eqs h t m i v k=(im P Eqs h t m i v some).bind k:=by unfold im;repeat' (first|rfl|exact bP|exact bH | exact bI|(refine bQ _ _ _ (fun _=>?_))|split)
theorem Ju{h:Heap}{t:TypeId}{m i:AV}:nj P Eqs h t m i k=(nj P Eqs h t m i some).bind k:=by unfold nj;repeat' (first|rfl|exact bP|exact bH | exact bI|(refine bQ _ _ _ (fun _=>?_))|split)
theorem Jv{id:Nat}{t:TypeId}{x:AV}:nk P id t x k=(nk P id t x some).bind k:=by unfold nk;repeat' (first|rfl|exact bP|exact bH | exact bI|(refine bQ _ _ _ (fun _=>?_))|split)
theorem MB{h:Heap}{x:AV}:qV h x k=(qV h x some).bind k:=by unfold qV;repeat' (first|rfl|exact bP|exact bH | exact bI|(refine bQ _ _ _ (fun _=>?_))|split)
theorem MC{h:Heap}{x:AV}:qW h x k=(qW h x some).bind k:=by unfold qW;repeat' (first|rfl|exact bP|exact bH | exact bI|(refine bQ _ _ _ (fun _=>?_))|split)
theorem kY{id:Nat}{h:Heap}{s:List (Nat×AV)}{o:Oper}:cM P Eqs Sg F id h s o k=(cM P Eqs Sg F id h s o some).bind k:=by
 obtain⟨dst,op,type,pos,after,guard⟩:=o
 cases op<;>simp only[cM] <;>
  repeat' (first|rfl|exact O5|exact Jq|exact My|exact O0|exact CD|exact O2|exact Mz|exact Tp|exact Tq|exact O3|exact O4|exact MA|exact EB|exact O6|exact WH|exact O7|exact Gp|exact Js|exact Jt|exact Ju|exact Jv|exact MB|exact MC|exact bP|(refine bQ _ _ _ (fun _=>?_))|split)
theorem MD{id:Nat}{h h':Heap}{s:List (Nat×AV)}{o:Oper}(hf:mI o.op=true):cM P Eqs Sg F id h s o k=cM P Eqs Sg F id h' s o k:=by
 obtain⟨dst,op,type,pos,after,guard⟩:=o
 cases op<;>simp[mI]at hf<;>first|rfl|(rename_i u _ _;cases u<;>rfl)
theorem Ts{op:BinOp}{t:TypeId}{x y:AV}{e:bE}(he:w8 P Eqs op t x y some=some e):∃v,e=.val v:=by
 unfold w8 at he
 repeat' (first|(cases he;done)|exact⟨_,(ada he).symm⟩|split at he)
 all_goals
  unfold cond at he
  split at he<;>first|(cases he;done)|exact⟨_,(ada he).symm⟩
theorem Gq{id:Nat}{h:Heap}{s:List (Nat×AV)}{o:Oper}{e:bE}(hf:mI o.op=true)(he:cM P Eqs Sg F id h s o some=some e):∃v,e=.val v:=by
 obtain⟨dst,op,type,pos,after,guard⟩:=o
 cases op<;>simp only[mI]at hf<;>first|(cases hf;done)|skip
 case unOp u t x =>
  cases u<;>simp only[cM]at he<;>repeat' (first|(cases he;done)|exact⟨_,(ada he).symm⟩|split at he)
 case makeFunc fn first cap =>
  cases fn<;>simp only[cM]at he<;>repeat' (first|(cases he;done)|exact⟨_,(ada he).symm⟩|split at he)
 all_goals simp only[cM]at he
 case binOp=>exact Ts he
 case slice =>
  repeat' (first|(cases he;done)|split at he)
  all_goals
   first|unfold vJ at he|unfold od at he
   repeat' (first|(cases he;done)|exact⟨_,(ada he).symm⟩|split at he)
   all_goals
    unfold cond at he
    split at he<;>first|(cases he;done)|exact⟨_,(ada he).symm⟩
 case build =>
  unfold qX at he
  repeat' (first|(cases he;done)|exact⟨_,(ada he).symm⟩|split at he)
 all_goals
  repeat' (first|(cases he;done)|exact⟨_,(ada he).symm⟩|split at he)
end Go.Vs
namespace Go.Vs
variable {P:Program} {Eqs:TypeId→Option K} {Sg:FuncId→Option aL} {F:(f:FuncId)→(g:aL)→g.A→Option g.B} {R:Type}
variable {Z Z' Z0:Nat→Prop} {ψ ψ' ψ0:Nat→Value} {h h':Hp} {w w' w0:World} {B0:Nat} {O N:Nat→Prop}
structure Env(P:Program)(Eqs:TypeId→Option K)(Sg:FuncId→Option aL)(F:(f:FuncId)→(g:aL)→g.A→Option g.B):Prop where
 eqs:∀t k,Eqs t=some k→lr P t k
 con:∀f g x y,Sg f=some g→F f g x=some y→Dc P f g x y
 spec:∀f g u,Sg f=some g→g.x=some u→fE P (f%1000) u
 Gs:∀f g,Sg f=some g→iQ P (f%1000)
theorem Gt{s:List (Nat×AV)}{ρC:Operand→Value}:∀(l:List Operand),(∀x∈l,av Z ψ h w (ρ s x) (ρC x))→ak Z ψ h w (l.map (ρ s)) (l.map ρC)
 |[],_=>by simp[ak]
 |x::r,hx=>by simp only[List.map_cons,ak];exact⟨_,_,rfl,hx x ac9,Gt r fun y hy=>hx y (acm _ hy)⟩
theorem De{s:List (Nat×AV)}{p:Nat→Prop}:∀(l:List Operand),(∀x∈l,aE p (ρ s x))→ax p (l.map (ρ s))
 |[],_=>by simp[ax]
 |x::r,hx=>by simp only[List.map_cons,ax];exact⟨hx x ac9,De r fun y hy=>hx y (acm _ hy)⟩
theorem U8(E:Env P Eqs Sg F){hh:Heap}{a:Act}{s:List (Nat×AV)}{o:Oper}(g:Good Z ψ h w B0 O)(hB:B0≤w.heap.size)(bu:∀id o,hh.get id=some o→h id=some o){id:Nat}(hN:makes o.op=true→∀j,j<256→N (id+j)){e:bE} (mZ:∀x∈o.op.operands,av Z ψ h w (ρ s x) (a.eval x)) (hm:∀x∈o.op.operands,aE (fun i=>¬N i) (ρ s x)) (bf:∀i ty cs,h i=some (.box ty cs)→ax (fun i=>¬N i) cs) (me:∀v hw,e=.wr v hw→hh.get=h) (he:cM P Eqs Sg F id hh s o some=some e) {next:Act→World→Prop} {Q:Exit→Act→World→Prop} (hk:∀V w' Z' ψ',Next Z ψ h w B0 O N Z' ψ' (e.hp h) w'→av Z' ψ' (e.hp h) w' e.v V→next (a.put o.dst V) w'):o.wp P a w next Q:=by
 have d:gI P a.eval o Z ψ h w B0 O N e∨U6 P a.eval o Z ψ h w B0 O N e:=by
  cases IQ:um o with
  |false=>exact .inl (OL E.eqs g hB bu (fun hm=>by simpa using hN hm 0 (by decide)) mZ hm bf me IQ he)
  |true =>
   refine .inr ?_;obtain⟨dst,op,type,pos,after,guard⟩:=o
   cases op<;>simp[um]at IQ
   rename_i c;obtain⟨callee,args,argTypes⟩:=c
   cases callee<;>simp at IQ
   rename_i fo;simp only[cM]at he
   split at he
   ·rename_i f cap hf;simp only[Op.operands,Call.operands]at mZ;have h1:=mZ fo (by simp);rw[hf]at h1;have h2:ak Z ψ h w (args.toList.map (ρ s)) (args.toList.map a.eval):=Gt _ fun x hx=>mZ x (by simp;exact .inr (by simpa using hx));have hmf:=hm fo (by simp[Op.operands,Call.operands]);rw[hf]at hmf;simp only[aE]at hmf;have hma:ax (fun i=>¬N i) (args.toList.map (ρ s)):=De _ fun x hx=>hm x (by simp[Op.operands,Call.operands];exact .inr (by simpa using hx));refine Jp E.spec E.con E.Gs g hB bu (hN rfl) bf me h1 h2 (oK hma hmf) (fun ws WC=>?_) he;simp only[execOp,resolve,WC,Deferred.ofValue];simp only[pure_bind,invoke];congr 1;apply Array.ext';simp
   ·cases he
 unfold Oper.wp;rcases d with⟨V,w',Z',ψ',h1,h2,h3⟩|⟨f,args,h1,h2⟩
 ·rcases h1 with h1|⟨h1,rfl⟩
  ·rw[h1];exact hk V w' Z' ψ' h2 h3
  ·rw[h1];exact hk undef w' Z' ψ' h2 h3
 ·rw[h1,Oper.upon_enter];refine h2.mono fun en w' ⟨V,Z',ψ',e1,n,hr⟩=>?_;subst e1;exact hk V w' Z' ψ' n hr
structure Ok(Z0:Nat→Prop)(w0:World)(O:Nat→Prop)(ψ0:Nat→Value)(Z:Nat→Prop)(ψ:Nat→Value)(h:Hp)(w:World):Prop where
 dB:Good Z ψ h w w0.heap.size O
 fC:∀b,Z0 b→Z b
 dY:∀b,Z b→Z0 b∨O b∨w0.heap.size≤b
 os:w.os=w0.os
 tape:w.tape=w0.tape
 output:w.output=w0.output
 size:w0.heap.size≤w.heap.size
 block:∀b,b<w0.heap.size→¬O b→w.heap[b]? = w0.heap[b]?
 fix:∀i,i<2000→h i≠none→ψ i=ψ0 i
theorem Ok.next(k:Ok Z0 w0 O ψ0 Z ψ h w)(hN:∀id,N id→2000≤id)(n:Next Z ψ h w w0.heap.size O N Z' ψ' h' w'):Ok Z0 w0 O ψ0 Z' ψ' h' w':=by
 have own:∀b,Own ψ h b→w0.heap.size≤b∨O b:=fun b ⟨id,h1,h2⟩=>(k.dB.live id b h1 h2).2;refine⟨n.dB,fun b hb=>n.fC b (k.fC b hb),fun b hb=>?_,n.keep.os.trans k.os,n.keep.tape.trans k.tape,n.keep.output.trans k.output,adk k.size n.keep.size,fun b hb ho=>?_,fun i hi bq=>?_⟩
 ·rcases n.dY b hb with h1|h1|h1
  ·exact k.dY b h1
  ·exact .inr (own b h1).symm
  ·exact .inr (.inr (adk k.size h1))
 ·rw[n.keep.block b (Nat.lt_of_lt_of_le hb k.size) (fun h1=>(own b h1).elim (fun h2=>by omega) ho)];exact k.block b hb ho
 ·rcases n.ids i bq with⟨h1,h2⟩|h1
  ·rw[h2];exact k.fix i hi h1
  ·have:=hN i h1;omega
structure cH(Z:Nat→Prop)(ψ:Nat→Value)(h:Hp)(w:World)(n:Nat)(T:Nat→AV)(a:Act):Prop where
 rep:∀d,av Z ψ h w (T d) (a.tmps.getD d undef)
 size:a.tmps.size=n
 defers:a.defers=[]
theorem ME:av Z ψ h w (.mG []) undef:=by simp only[av,ak];exact⟨#[],rfl,rfl⟩
def iG(T:Nat→AV)(d:Option Tmp)(v:AV):Nat→AV:=match d with
 |some d=>dA T d v
 |none=>T
theorem gO(st:St)(d:Option Tmp)(v:AV):look (st.put d v).tmps=iG (look st.tmps) d v:=by
 cases d with
 |none=>rfl
 |some d =>
  funext i;simp only[St.put,look,iG,dA];by_cases e:i=d
  ·subst e;simp
  ·rw[if_neg (fun x=>e x.symm),if_neg e]
theorem cY(st:St)(d:Option Tmp)(v:AV):(st.put d v).heap=st.heap:=by cases d<;>rfl
theorem Df{T:List (Nat×AV)}{d:Nat}{v:AV}(hv:look T d=v):dA (look T) d v=look T:=by
 funext i;unfold dA
 split
 ·rename_i e;subst e;exact hv.symm
 ·rfl
theorem gP{a:Act}{d:Nat}{v:Value}(hd:d<a.tmps.size)(i:Nat):(a.put (some d) v).tmps.getD i undef=if i=d then v else a.tmps.getD i undef:=by
 simp only[Act.put];by_cases e:i=d
 ·subst e;simp[hd]
 ·simp[e,Array.getElem?_setIfInBounds_ne (Ne.symm e)]
theorem cq(a:Act)(d:Option Tmp)(v:Value):(a.put d v).tmps.size=a.tmps.size:=by cases d<;>simp[Act.put]
theorem put_defers(a:Act)(d:Option Tmp)(v:Value):(a.put d v).defers=a.defers:=by cases d<;>rfl
theorem cH.put{n:Nat}{T:Nat→AV}{a:Act}{o:Oper}{x:AV}{V:Value}(t:cH Z ψ h w n T a)(hd:g8 n o=true)(hx:av Z ψ h w x V):cH Z ψ h w n (iG T o.dst x) (a.put o.dst V):=by
 refine⟨fun d=>?_,by rw[cq];exact t.size,by rw[put_defers];exact t.defers⟩;unfold g8 at hd
 split at hd
 ·rename_i d0 hd0;rw[hd0];rw[gP (by rw[t.size];simpa using hd)];simp only[iG,dA]
  split
  ·exact hx
  ·exact t.rep d
 ·rename_i hd0;rw[hd0];exact t.rep d
theorem cH.next{n:Nat}{T:Nat→AV}{a:Act}(t:cH Z ψ h w n T a)(g:Good Z ψ h w B0 O)(hn:Next Z ψ h w B0 O N Z' ψ' h' w')(hm:∀d,aE (fun i=>¬N i) (T d)):cH Z' ψ' h' w' n T a :=⟨fun d=>hn.rep g (hm d) (t.rep d),t.size,t.defers⟩
theorem qq{n:Nat}{s:List (Nat×AV)}{a:Act}(t:cH Z ψ h w n (look s) a)(x:Operand):av Z ψ h w (ρ s x) (a.eval x):=by
 cases x with
 |tmp i=>exact t.rep i
 |const v=>exact F5 v
 |global g=>simp only[ρ,av]
 |func f=>simp only[ρ,av,ak,Act.eval];exact⟨#[],rfl,rfl⟩
theorem Ao(p:Nat→Prop)(v:Value):aE p (sQ v):=by
 cases v with
 |agg cs=>simp only[sQ,aE];exact vV p _
 |_=>simp only[sQ];exact Ad p _
theorem MF{p:Nat→Prop}{s:List (Nat×AV)}(hm:∀d,aE p (look s d))(x:Operand):aE p (ρ s x):=by
 cases x with
 |tmp i=>exact hm i
 |const v=>exact Ao p v
 |global g=>simp only[ρ,aE]
 |func f=>simp only[ρ,aE,ax]
def l6(rid:Nat)(S:Nat→Prop)(id:Nat):Prop:=id / 32768=rid+1→S (id / 256%128)
def Of(rid i id:Nat):Prop:=id / 256=(rid+1)*128+i
theorem Of.parts{rid i id:Nat}(hi:i<128)(h:Of rid i id):id / 32768=rid+1∧id / 256%128=i:=by unfold Of at h;constructor<;>omega
theorem Of.of{rid i id:Nat}(h:id / 32768=rid+1)(hi:id / 256%128=i):Of rid i id:=by unfold Of;omega
theorem KU{rid i j:Nat}(hj:j<256):Of rid i (opId rid i+j):=by unfold Of opId;omega
theorem Gu{rid i:Nat}:Of rid i (opId rid i):=by unfold Of opId;omega
theorem l6.Ap{rid i id:Nat}{S:Nat→Prop}(hi:i<128)(hs:¬S i)(h:l6 rid S id):¬Of rid i id:=fun ho=>by obtain⟨h1,h2⟩:=ho.parts hi;have:=h h1;rw[h2]at this;exact hs this
theorem nC{rid bits id:Nat}{S:Nat→Prop}(hb:∀j,bits.testBit j=true→S j)(h:qa rid bits id=true):l6 rid S id:=fun h1=>by unfold qa at h;simp only[Bool.or_eq_true,bne_iff_ne,ne_eq]at h;exact hb _ (h.resolve_left (fun h2=>h2 h1))
mutual
theorem oL{rid bits:Nat}{S:Nat→Prop}(hb:∀j,bits.testBit j=true→S j):∀{v:AV},r8 rid bits v=true→aE (l6 rid S) v
 |.ref id s i off,h=>by simp only[r8]at h;simp only[aE];exact nC hb h
 |.bF id,h=>by simp only[r8]at h;simp only[aE];exact nC hb h
 |.fn f cap,h=>by simp only[r8]at h;simp only[aE];exact lG hb h
 |.agg cs,h=>by simp only[r8]at h;simp only[aE];exact lG hb h
 |.mG cs,h=>by simp only[r8]at h;simp only[aE];exact lG hb h
 |.no,_=>by simp only[aE]
 |.bool _,_=>by simp only[aE]
 |.int _ _,_=>by simp only[aE]
 |.str _,_=>by simp only[aE]
 |.kI,_=>by simp only[aE]
 |.fK,_=>by simp only[aE]
 |.fp _ _ _,_=>by simp only[aE]
 |.sl _ _ _,_=>by simp only[aE]
 |.mp _ _ _,_=>by simp only[aE]
theorem lG{rid bits:Nat}{S:Nat→Prop}(hb:∀j,bits.testBit j=true→S j):∀{v:List AV},zF rid bits v=true→ax (l6 rid S) v
 |[],_=>by simp only[ax]
 |v::r,h=>by simp only[zF,Bool.and_eq_true]at h;simp only[ax];exact⟨oL hb h.1,lG hb h.2⟩
end
theorem lH{rid bits:Nat}{S:Nat→Prop}(hb:∀j,bits.testBit j=true→S j):∀{hh:Heap},xc rid bits hh=true→∀id o,hh.get id=some o→l6 rid S id∧∀ty cs,o=.box ty cs→ax (l6 rid S) cs
 |[],_,id,o,hg=>by simp[Heap.get]at hg
 |(i,ob)::r,h,id,o,hg=>by
  simp only[Heap.get]at hg
  split at hg
  ·rename_i e;subst e
   cases hg
   cases ob with
   |box ty cs =>simp only[xc,Bool.and_eq_true]at h;exact⟨nC hb h.1.1,fun yf cs' he=>by cases he;exact lG hb h.1.2⟩
   |own ok xs =>simp only[xc,Bool.and_eq_true]at h;exact⟨nC hb h.1,fun yf cs' he=>by cases he⟩
  ·refine lH hb ?_ id o hg
   cases ob<;>simp only[xc,Bool.and_eq_true]at h<;>exact h.2
def bE.heap(e:bE)(h:Heap):Heap:=match e with
 |.wr _ h'=>h'
 |e=>e.h h
theorem bE.Gv(e:bE)(hh:Heap):(e.heap hh).get=e.hp hh.get:=by
 cases e with
 |val v=>rfl
 |new v os=>funext i;simp only[bE.heap,bE.h,bE.hp];rw[Heap.get_append];cases Heap.get os i<;>rfl
 |wr v h'=>rfl
def sw(p:Nat→Prop)(h:Hp):Prop:=∀i ty cs,h i=some (.box ty cs)→ax p cs
theorem Aq{ops:Array Oper}{o:Oper}{n:Nat}{T:Nat→AV}{a:Act}(t:cH Z ψ h w n T a){j d:Nat}{want:Bool}(hg:o.guard=some (j,want))(hd:(ops[j]?).bind (·.dst)=some d){b:Bool}(hb:T d=.bool b) :
  Region.wanted o (yielded ops a.tmps)=(b==want):=by
 have h1:=t.rep d;rw[hb]at h1;simp only[av]at h1;have h2:a.tmps[d]? = some (.bool b):=by
  rw[Array.getD_eq_getD_getElem?]at h1
  cases e:a.tmps[d]? with
  |none=>rw[e]at h1;simp[undef]at h1
  |some v=>rw[e]at h1;simpa using h1
 unfold Region.wanted yielded;rw[hg];simp only[hd,Option.bind_some,h2]
 cases b<;>cases want<;>rfl
theorem xH{ops:Array Oper}{o:Oper}{n:Nat}{T:Nat→AV}{a:Act}(t:cH Z ψ h w n T a){j d:Nat}{want:Bool}(hg:o.guard=some (j,want))(hd:(ops[j]?).bind (·.dst)=some d){vs:List AV}(hb:T d=.mG vs) :
  Region.wanted o (yielded ops a.tmps)=false:=by
 have h1:=t.rep d;rw[hb]at h1;simp only[av]at h1;obtain⟨us,h1,_⟩:=h1;unfold Region.wanted yielded;rw[hg];simp only[hd,Option.bind_some];rw[Array.getD_eq_getD_getElem?]at h1
 cases e:a.tmps[d]? with
 |none=>rfl
 |some v=>rw[e]at h1;simp at h1;subst h1;rfl
def Ar(ops:Array Oper):Nat→List (Nat×Oper)→Prop
 |_,[]=>True
 |i,(j,o)::r=>j=i∧ops[i]? = some o∧Ar ops (i+1) r
theorem Gx(ops:Array Oper):∀(l:List Oper) (i:Nat),(∀k o,l[k]? = some o→ops[i+k]? = some o)→Ar ops i ((l.zipIdx i).map fun p=>(p.2,p.1))
 |[],_,_=>by simp[Ar]
 |o::r,i,h=>by simp only[List.zipIdx_cons,List.map_cons,Ar];exact⟨trivial,h 0 o rfl,Gx ops r (i+1) fun k o' hk=>by rw[Nat.add_assoc,Nat.add_comm 1 k];exact h (k+1) o' hk⟩
theorem nD(ops:Array Oper):Ar ops 0 (ops.toList.zipIdx.map fun p=>(p.2,p.1)):=Gx ops _ 0 fun k o hk=>by simpa using hk
theorem Dg(ops:Array Oper):(ops.toList.zipIdx.map fun p=>(p.2,p.1)).map Prod.fst=List.range ops.size:=by rw[List.map_map];have:(Prod.fst ∘ fun(p:Oper×Nat)=>(p.2,p.1))=Prod.snd:=rfl;rw[this,List.zipIdx_map_snd,List.range_eq_range',Array.length_toList]
structure J(p:Nat→Prop)(n:Nat)(Z0:Nat→Prop)(w0:World)(O:Nat→Prop)(ψ0:Nat→Value)(Z:Nat→Prop)(ψ:Nat→Value)(T:Nat→AV)(h:Hp)(a:Act)(w:World):Prop where
 ok:Ok Z0 w0 O ψ0 Z ψ h w
 tr:cH Z ψ h w n T a
 tm:∀d,aE p (T d)
 hm:sw p h
theorem J.imp{p q:Nat→Prop}{n:Nat}{T:Nat→AV}{a:Act}(j:J p n Z0 w0 O ψ0 Z ψ T h a w)(z8:∀id,p id→q id):J q n Z0 w0 O ψ0 Z ψ T h a w :=⟨j.ok,j.tr,fun d=>(j.tm d).imp z8,fun id ty cs hb=>(j.hm id ty cs hb).imp z8⟩
theorem J.op(E:Env P Eqs Sg F){rid n i:Nat}{p:Nat→Prop}{T:Nat→AV}{a:Act}{s:List (Nat×AV)}{o:Oper}(hS:makes o.op=true→∀id,p id→¬Of rid i id)(j:J p n Z0 w0 O ψ0 Z ψ T h a w)(hd:g8 n o=true) (hT:∀x∈o.op.operands,av Z ψ h w (ρ s x) (a.eval x)) (hTm:∀x∈o.op.operands,aE p (ρ s x)) {hh:Heap} (bu:∀id o,hh.get id=some o→h id=some o) {e:bE} (he:cM P Eqs Sg F (opId rid i) hh s o some=some e) (me:∀v hw,e=.wr v hw→hh.get=h) {p':Nat→Prop} (N4:∀k,p k→p' k) (hv:aE p' e.v) (WI:sw p' (e.hp h)) {next:Act→World→Prop} {Q:Exit→Act→World→Prop} (hk:∀a' w' Z' ψ',J p' n Z0 w0 O ψ0 Z' ψ' (iG T o.dst e.v) (e.hp h) a' w'→next a' w'):o.wp P a w next Q:=by
 have WJ:∀id,p id→¬(makes o.op=true∧Of rid i id):=fun id h ⟨h1,h2⟩=>hS h1 id h h2;refine U8 (N:=fun id=>makes o.op=true∧Of rid i id) E j.ok.dB j.ok.size bu (id:=opId rid i) (fun hm k hk=>⟨hm,KU hk⟩) hT (fun x hx=>(hTm x hx).imp WJ) (fun id ty cs hb=>(j.hm id ty cs hb).imp WJ) me he fun V w' Z' ψ' nx hr=>?_;refine hk _ w' Z' ψ' ⟨j.ok.next (fun id h=>by have:=h.2;unfold Of at this;omega) nx,(j.tr.next j.ok.dB nx (fun d=>(j.tm d).imp WJ)).put hd hr,fun d=>?_,WI⟩
 cases ku:o.dst with
 |none=>exact(j.tm d).imp N4
 |some d0 =>
  simp only[iG,dA]
  split
  ·exact hv
  ·exact(j.tm d).imp N4
theorem J.skip{n:Nat}{p p':Nat→Prop}{T:Nat→AV}{a:Act}{o:Oper}(j:J p n Z0 w0 O ψ0 Z ψ T h a w)(hd:g8 n o=true)(N4:∀k,p k→p' k) :
  J p' n Z0 w0 O ψ0 Z ψ (iG T o.dst (.mG [])) h (a.put o.dst undef) w:=by
 refine⟨j.ok,j.tr.put hd ME,fun d=>?_,fun id ty cs hb=>(j.hm id ty cs hb).imp N4⟩
 cases ku:o.dst with
 |none=>exact(j.tm d).imp N4
 |some d0 =>
  simp only[iG,dA]
  split
  ·simp only[aE,ax]
  ·exact(j.tm d).imp N4
theorem Tt{hh:Heap}(g:Good Z ψ hh.get w B0 O){m:Nat}{kk vk:K}{es:List (kk.T×vk.T)}(hg:hh.get m=some (.own (.map kk vk) es))(n:Next Z ψ hh.get w B0 O N Z' ψ' h' w')(hzm:∀b,ob (ψ m)=some b→Z' b) (hold:∀b,b<w.heap.size→w'.heap[b]? = w.heap[b]?) {v:AV} {V:Value} (hm:aE (fun id=>¬N id) v) (hr:av Z ψ hh.get w v V):av Z' ψ' h' w' (yg m (.mp kk vk es) v) V:=by
 by_cases hv:v=.bF m
 ·subst hv;simp only[yg,if_true];simp only[av]at hr;have hu:=hr.2 (by rw[hg];simp);obtain⟨r,bU,clock,h1,h2,h3,_⟩:=g.row m (.map kk vk) es hg;rw[h1]at hu;subst hu;have aF:=(acV.1 h2).1;simp only[av,aD];exact⟨some r,rfl,.inr ⟨r,bU,clock,rfl,hzm r (by rw[h1];rfl),(hold r aF).trans h2,h3.imp (fun _ _ h=>h.mono n.fC (fun b hb=>hold b (g.ju b hb))) (fun _ _ h=>h.mono n.fC (fun b hb=>hold b (g.ju b hb)))⟩⟩
 ·have hf:yg m (.mp kk vk es) v=v:=by
   unfold yg
   split
   ·split
    ·rename_i e;subst e;exact absurd rfl hv
    ·rfl
   ·rfl
  rw[hf];exact n.rep g hm hr
theorem O8{p:Nat→Prop}{m:Nat}{kk vk:K}{es:List (kk.T×vk.T)}{v:AV}(hm:aE p v):aE p (yg m (.mp kk vk es) v):=by
 unfold yg
 split
 ·split
  ·simp only[aE]
  ·exact hm
 ·exact hm
theorem rq(f:AV→AV)(hf:f .no=.no):∀(l:List (Nat×AV)) (d:Nat),look (l.map fun p=>(p.1,f p.2)) d=f (look l d)
 |[],_=>by simp only[List.map_nil,look];exact hf.symm
 |(i,v)::r,d=>by
  simp only[List.map_cons,look]
  split
  ·rfl
  ·exact rq f hf r d
theorem Jw{rid n i:Nat}{p p':Nat→Prop}{st dX:St}{a:Act}{o:Oper}(hS:∀id,p id→¬Of rid i id)(N4:∀k,p k→p' k)(OR:p' (opId rid i))(j:J p n Z0 w0 O ψ0 Z ψ (look st.tmps) st.heap.get a w)(hd:g8 n o=true)(nE:oo P (opId rid i) st o=some dX) :
  ∃V w' Z' ψ',(execOp a.eval o).run P w=.ok (.value V) w'∧J p' n Z0 w0 O ψ0 Z' ψ' (look dX.tmps) dX.heap.get (a.put o.dst V) w':=by
 unfold oo at nE
 split at nE
 ·rename_i t x EC
  split at nE
  ·rename_i ka va m hu hx
   split at nE
   ·rename_i kk vk es hg
    cases nE
    have Yh:av Z ψ st.heap.get w (.bF m) (a.eval x):=by rw[←hx];exact qq j.tr x
    simp only[av]at Yh;have hev:=Yh.2 (by rw[hg];simp);have g:=j.ok.dB;obtain⟨r,bU,clock,h1,h2,h3,h4,h5⟩:=g.row m (.map kk vk) es hg;rw[h1]at hev;have aF:=(acV.1 h2).1;have gd:=hY g [.bF m];have Zg:∀b,ob (ψ m)=some b→pT Z ψ st.heap.get [.bF m] b:=fun b hb=>.inr ⟨m,by simp,by rw[hg];simp,hb⟩;have hold:∀b,b<w.heap.size→(w.alloc (.mapIter (some r) clock #[] clock)).heap[b]? = w.heap[b]? := fun b hb=>heap_alloc_old w _ hb;have hN:(Of rid i) (opId rid i):=Gu;have n1:=z6 (N:=Of rid i) gd j.ok.size (opId rid i) hN (ok:=.iter kk vk) (x:=(none,es)) (v:=.pointer (some ⟨w.heap.size,0,none⟩)) (.mapIter (some r) clock #[] clock) ⟨w.heap.size,r,clock,#[],bU,clock,rfl,heap_alloc_new _ _,Zg r (by rw[h1];rfl),(hold r aF).trans h2,h4,rfl,h5,by rw[List.filter_eq_self.2 (fun e _=>by simp)];exact h3.imp (fun _ _ h=>h.mono (fun b hb=>.inl hb) (fun b hb=>hold b (g.ju b hb))) (fun _ _ h=>h.mono (fun b hb=>.inl hb) (fun b hb=>hold b (g.ju b hb))),trivial⟩ rfl (fun i' ty cs hb=>ax.imp (p:=p) (q:=fun i'=>i'≠opId rid i) (fun id hp e=>hS id hp (by rw[e];exact hN)) (j.hm i' ty cs (dP _ _ _ _ hb)));have n2:=n1.drop (Z:=Z) (h:=st.heap.get) (fun b hb=>.inl hb) (fun b hb=>hb.imp (fun h=>h) (fun⟨id,_,h5,h6⟩=>⟨id,h5,h6⟩)) (dP _ _);have fg:(dA (cy st.heap [.bF m]).get (opId rid i) (some (Ob.own (.iter kk vk) (none,es))))=Heap.get ((opId rid i,.own (.iter kk vk) (none,es))::st.heap.del m):=by
     funext k;simp only[cy,drop1,dA,Heap.get];by_cases e:k=opId rid i
     ·subst e;simp
     ·rw[if_neg e,if_neg (fun h=>e h.symm)]
    rw[fg]at n2;refine⟨.pointer (some ⟨w.heap.size,0,none⟩),w.alloc (.mapIter (some r) clock #[] clock),pT Z ψ st.heap.get [.bF m],dA ψ (opId rid i) (.pointer (some ⟨w.heap.size,0,none⟩)),?_,?_⟩
    ·obtain⟨dst,op,type,pos,after,guard⟩:=o;simp only at EC;subst EC;have dn:(Instr.range t (.map (some r))).run P w=.ok (.pointer (some ⟨w.heap.size,0,none⟩)) (w.alloc (.mapIter (some r) clock #[] clock)):=by simp only[Instr.range,Sem.run_bind,run_underlying hu,Result.andThen_ok,fQ h2 (by simp),Sem.run_pure];rfl
     simp[execOp,hev,dn]
    ·have bf:∀d,aE (fun id=>¬Of rid i id) (look st.tmps d):=fun d=>(j.tm d).imp hS;refine⟨by rw[cY];exact j.ok.next (fun id h=>by unfold Of at h;omega) n2,?_,fun d=>?_,fun k ty cs hb=>?_⟩
     ·rw[gO,cY];refine cH.put ⟨fun d=>?_,j.tr.size,j.tr.defers⟩ hd ?_
      ·rw[rq _ rfl];exact Tt g hg n2 (fun b hb=>Zg b hb) hold (bf d) (j.tr.rep d)
      ·simp only[av];exact⟨⟨rfl,rfl⟩,fun _=>(bg _ _ _).symm⟩
     ·rw[gO];have hb:aE p' (look (st.tmps.map fun q=>(q.1,yg m (.mp kk vk es) q.2)) d):=by rw[rq _ rfl];exact O8 ((j.tm d).imp N4)
      cases ku:o.dst with
      |none=>exact hb
      |some d0 =>
       simp only[iG,dA]
       split
       ·simp only[aE];exact OR
       ·exact hb
     ·rw[cY]at hb;simp only[Heap.get]at hb
      split at hb
      ·cases hb
      ·exact(j.hm k ty cs (Heap.tW hb).1).imp N4
   ·cases nE
  ·cases nE
 ·cases nE
theorem nF{R:Type}{n:Nat}{f:Nat→Option R}{r:R}(h:qc n f=some r):∀j,j<n→f j=some r:=by
 unfold qc at h
 split at h
 ·rename_i hx;cases h;exact Classical.choose_spec hx
 ·cases h
theorem kM{R:Type}{n:Nat}{f:Nat→Option R}{r:R}(hn:0<n)(h:∀j,j<n→f j=some r):qc n f=some r:=by unfold qc;have hx:∃r,∀j,j<n→f j=some r:=⟨r,h⟩;rw[dif_pos hx];have:=Classical.choose_spec hx 0 hn;rw[h 0 hn]at this;exact this.symm
theorem Next.drawn{d:Nat}(n:Next Z ψ h { w with drawn:=d } B0 O N Z' ψ' h' w'):Next Z ψ h w B0 O N Z' ψ' h' w' :=⟨n.fC,n.dY,⟨n.keep.os,n.keep.tape,n.keep.output,n.keep.size,n.keep.block⟩,n.ids,n.dB⟩
theorem Good.drawn{d:Nat}(g:Good Z ψ h w B0 O):Good Z ψ h { w with drawn:=d } B0 O:=by
 have sm:cp Z w ({ w with drawn:=d }:World):=fun _ _=>rfl;refine⟨fun id ty cs hb=>?_,fun id ok xs hb=>?_,g.live,g.apart,g.ju⟩
 ·obtain⟨gg,vs,h1,h2,h3,h4⟩:=g.box id ty cs hb;exact⟨gg,vs,h1,h2,h3.less (fun _ h=>h) sm (fun i hi=>⟨hi,rfl⟩),h4⟩
 ·exact(g.row id ok xs hb).kept (fun _ h=>h) sm (fun gg _=>rfl)
theorem filter_push{l:List MapEntry}(h:l.Pairwise (fun a b=>a.born≠b.born)){seen:Array Nat}{j:Nat}{e:MapEntry}(he:(l.filter fun e => !seen.contains e.born)[j]? = some e) :
  l.filter (fun x => !(seen.push e.born).contains x.born)=(l.filter fun e => !seen.contains e.born).eraseIdx j:=by
 have h2:(l.filter fun e => !seen.contains e.born).Pairwise (fun a b=>a.born≠b.born):=h.sublist List.filter_sublist;rw[←ChangeMaps.filter_eq_eraseIdx (fun x=>x.born==e.born) _ j e he (by simp) (h2.imp fun {a b} bq hc=>bq (by simp only[beq_iff_eq]at hc;omega))];rw[List.filter_filter];congr 1;funext x;simp only[Array.contains_push]
 cases seen.contains x.born<;>cases x.born==e.born<;>rfl
theorem Jx{R:Type}{hh:Heap}(g:Good Z ψ hh.get w B0 O){x:AV}{u:Value}{ty:TypeId}(hx:av Z ψ hh.get w x u){kk:AV→Heap→Option R}{r:R}(he:kK hh x kk=some r) :
  ∃v h' V w',(Instr.next u false ty).run P w=.ok V w'∧Next Z ψ hh.get w B0 O N Z ψ h'.get w'∧av Z ψ h'.get w' v V∧kk v h'=some r∧(∀p,aE p v)∧∀i ty cs,h'.get i=some (.box ty cs)→hh.get i=some (.box ty cs):=by
 unfold kK at he
 split at he
 ·rename_i id
  split at he
  ·rename_i kk1 vk pp hg;simp only[av]at hx;have hu:=hx.2 (by rw[hg];simp);obtain⟨b,m,since,seen,bU,clock,h1,h2,h3,h4,h5,h6,h7,h8,h9⟩:=g.row id (.iter kk1 vk) pp hg;rw[h1]at hu;subst hu;subst h6;have aF:=(acV.1 h2).1;have U9:(leftOf bU seen).toList=bU.toList.filter fun e => !seen.contains e.born:=by unfold leftOf;simp
   have hlen:pp.2.length=(leftOf bU seen).size:=by rw[h8.1,←U9,Array.length_toList]
   rcases run_next_at (P:=P) w ty b m since since seen bU since h2 h4 h7 (adg _) with⟨mL,dn⟩|⟨e,iU,w1,Jy,dn⟩
   ·have Mx:pp.2.isEmpty=true:=by rw[List.isEmpty_iff];exact adh (by rw[hlen,mL])
    rw[Mx]at he;simp only[cond_true]at he;exact⟨_,hh,_,w,dn,Next.refl g,by simp only[av,ak];exact⟨_,rfl,_,_,rfl,rfl,rfl⟩,he,fun p=>by simp only[aE,ax];exact⟨trivial,trivial⟩,fun _ _ _ h=>h⟩
   ·obtain⟨k,hk,hke⟩:=List.mem_iff_getElem.1 iU;have mY:k<pp.2.length:=by rw[hlen,←Array.length_toList];exact hk
    have Mx:pp.2.isEmpty=false:=by
     cases hl:pp.2 with
     |nil=>rw[hl]at mY;simp at mY
     |cons _ _=>rfl
    rw[Mx]at he;simp only[cond_false]at he;have hj:=nF he k mY;rw[List.getElem?_eq_getElem mY,Option.bind_some]at hj;have WK:(bU.toList.filter fun e => !seen.contains e.born)[k]? = some e:=by rw[←U9,List.getElem?_eq_getElem hk,hke]
    have Eo:=h8.2 k _ e (aci mY) WK;obtain⟨⟨k1,k2,k3⟩,v1,v2,v3⟩:=Eo;have aet:e∈bU.toList:=(adR.1 (adj WK)).1;have gd1:Good Z ψ hh.get w1 B0 O:=by rcases Jy with rfl|rfl;exact g;exact g.drawn
    have ED:w1.heap=w.heap:=by rcases Jy with rfl|rfl<;>rfl
    have hmb:m≠b:=fun hmb=>by subst hmb;exact(g.live id m (by rw[hg];simp) (by rw[h1];rfl)).1 h3
    have n1:=ri (N:=N) gd1 (id:=id) (by rw[hg];simp) (r:=b) (by rw[h1];rfl) (by rw[ED];exact aF) (.mapIter (some m) since (seen.push e.born) since) (ok:=.iter kk1 vk) (x:=(some pp.2[k],pp.2.eraseIdx k)) (fun w' Jg sm=>by
     have Yi:cp Z w w':=fun c hc=>(sm c hc).trans (by rw[ED]);refine⟨b,m,since,seen.push e.born,bU,since,h1,by rw[Jg,ED];simp[aF],h3,?_,h5,rfl,h7,?_,?_⟩
     ·rw[Jg,ED,vT _ (fun e=>hmb e.symm)];exact h4
     ·rw[filter_push h5 WK];exact(jV.erase h8 k).mono (fun _ h=>h) Yi
     ·refine⟨e,aet,by simp,⟨rfl,fun q y e' mL yi=>?_⟩⟩
      cases q with
      |zero=>cases mL;cases yi;exact⟨⟨k1.mono (fun _ h=>h) Yi,k2,k3⟩,v1.mono (fun _ h=>h) Yi,v2,v3⟩
      |succ q=>simp at mL)
    have n2:Next Z ψ hh.get w B0 O N Z ψ (dA hh.get id (some (.own (.iter kk1 vk) (some pp.2[k],pp.2.eraseIdx k)))) { w1 with heap:=w1.heap.setIfInBounds b (.mapIter (some m) since (seen.push e.born) since) }:=by
     rcases Jy with rfl|rfl
     ·exact n1
     ·exact n1.drawn
    refine⟨_,hh.set id (.own (.iter kk1 vk) (some pp.2[k],pp.2.eraseIdx k)),_,_,dn,by rw[mh];exact n2,?_,hj,fun p=>?_,fun i ty cs hb=>?_⟩
    ·have Yi:cp Z w ({ w1 with heap:=w1.heap.setIfInBounds b (.mapIter (some m) since (seen.push e.born) since) }:World):=n2.same g;simp only[av,ak];exact⟨_,rfl,_,_,rfl,rfl,_,_,rfl,lq (k1.mono (fun _ h=>h) Yi) k2 k3,_,_,rfl,lq (v1.mono (fun _ h=>h) Yi) v2 v3,rfl⟩
    ·simp only[aE,ax];exact⟨trivial,nu _ _ _,nu _ _ _,trivial⟩
    ·rw[mh]at hb;unfold dA at hb
     split at hb
     ·cases hb
     ·exact hb
  ·cases he
 ·cases he
theorem Gy(op:BinOp)(t:TypeId)(a b:Operand)(x y:Option Addr)(n m c d:Nat):(eqGuard op t a b (.slice x n c) (.slice y m d)).run P w=.ok () w:=by cases op<;>simp[eqGuard]
theorem CE{t e:TypeId}(ht:P.underlying t=some (.slice e))(a:Option Addr)(n c:Nat):(Op.equal t (.slice a n c) (.slice none 0 0)).run P w=.ok a.isNone w:=by
 have key:∀d,(Op.equalIn (d+1) t (.slice a n c) (.slice none 0 0)).run P w=.ok a.isNone w:=fun d=>by cases a<;>simp[Op.equalIn,run_underlying ht]
 exact key 9999
theorem Jz{o:Oper}{x:Operand}{want:Bool}(h:isNil P o=some (x,want)):∃op t v t' e,o.op=.binOp op t x (.const v) t'∧P.underlying t=some (.slice e)∧v=.slice none 0 0∧((op=.eql∧want=true)∨(op=.neq∧want=false)):=by
 unfold isNil at h
 split at h
 ·rename_i op t x' v t' EC;have hv:∀v:Value,vG v=.fK→v=.slice none 0 0:=fun v hv=>by
   unfold vG at hv
   split at hv<;>try (first|cases hv|(split at hv<;>cases hv);done)
   all_goals (split at hv<;>first|cases hv|skip)
   ·rename_i hc;obtain⟨rfl,rfl,rfl⟩:=hc;rfl
   all_goals (split at hv<;>cases hv)
  split at h
  ·rename_i e h1 h2 h3;cases h;exact⟨_,_,_,_,_,EC,h2,hv _ h3,.inl ⟨rfl,rfl⟩⟩
  ·rename_i e h1 h2 h3;cases h;exact⟨_,_,_,_,_,EC,h2,hv _ h3,.inr ⟨rfl,rfl⟩⟩
  ·cases h
 ·cases h
theorem O9{R:Type}{hh:Heap}(g:Good Z ψ hh.get w B0 O){x:AV}{u:Value}{op:BinOp}{t e:TypeId}(xo yo:Operand)(hx:av Z ψ hh.get w x u)(ht:P.underlying t=some (.slice e)){want:Bool}(ho:(op=.eql∧want=true)∨(op=.neq∧want=false)){kk:AV→Option R}{r:R}(he:tU hh x want kk=some r) :
  ∃c:Bool,((eqGuard op t xo yo u (.slice none 0 0)).run P w=.ok () w∧(binOp op t u (.slice none 0 0)).run P w=.ok (.bool c) w)∧kk (.bool c)=some r:=by
 have run:∀(a:Option Addr) (n c:Nat),(eqGuard op t xo yo (.slice a n c) (.slice none 0 0)).run P w=.ok () w∧(binOp op t (.slice a n c) (.slice none 0 0)).run P w=.ok (.bool (a.isNone==want)) w:=fun a n c=>by refine⟨Gy _ _ _ _ _ _ _ _ _ _,?_⟩;rcases ho with⟨rfl,rfl⟩|⟨rfl,rfl⟩<;>simp only[Sem.run_bind,Result.andThen_ok,binOp,CE ht,Sem.run_pure]<;>cases a.isNone<;>rfl
 have fin:∀(n:Nat) (a:Option Addr) (c:Nat) (xs:Bool),(a=none→xs=true)→cond xs (qc 2 fun j=>kk (.bool ((j==0)==want))) (kk (.bool (!want)))=some r → ∃c':Bool,((eqGuard op t xo yo (.slice a n c) (.slice none 0 0)).run P w=.ok () w∧(binOp op t (.slice a n c) (.slice none 0 0)).run P w=.ok (.bool c') w)∧kk (.bool c')=some r:=fun n a c xs xj h=>by
  refine⟨_,run a n c,?_⟩
  cases xs with
  |true =>
   simp only[cond_true]at h
   cases a with
   |none=>exact nF h 0 (by decide)
   |some a=>exact nF h 1 (by decide)
  |false =>
   simp only[cond_false]at h
   cases a with
   |none=>cases xj rfl
   |some a=>cases want<;>exact h
 unfold tU at he
 split at he
 ·rename_i hv;have hxn:x=.fK:=by
   cases x<;>simp only[cE]at hv<;>try cases hv
   ·rfl
   ·split at hv<;>cases hv
  subst hxn;simp only[av]at hx;subst hx;exact⟨_,run none 0 0,by cases want<;>exact he⟩
 ·rename_i ex k xs hv
  cases x with
  |sl ex' k' YM =>
   simp only[cE]at hv
   cases hv
   simp only[av,aD]at hx;obtain⟨⟨v,hv,A,c,rfl,h1,h2,_⟩,_⟩:=hx
   cases hv
   refine fin _ A c _ (fun hA=>?_) he;have:=h2 hA;rw[List.isEmpty_iff];exact adh (by omega)
  |bF id =>
   simp only[cE]at hv;simp only[av]at hx
   split at hv
   ·rename_i hg
    cases hv
    have hu:=hx.2 (by rw[hg];simp);obtain⟨vs,⟨_,h1⟩,_⟩:=g.row id _ _ hg;rw[←hu]at h1;rcases h1 with⟨h1,A,rfl⟩|⟨gg,cap,cur,rfl,_⟩
    ·exact fin _ A 0 _ (fun _=>List.isEmpty_iff.2 (adh h1)) he
    ·exact fin _ _ _ _ (fun h=>by cases h) he
   ·cases hv
   ·cases hv
  |_=>simp only[cE]at hv<;>cases hv
 ·cases he
theorem As{draw:Bool}{rid:Nat}{ops:Array Oper}{b:Array Nat}{i I3:Nat}{e:bE}{S:Nat→Prop}{hh:Heap}(hm:sw (l6 rid S) h)(ha:∀j,I3.testBit j=true→S j)(he:gu draw rid ops b i I3 e=true) :
  aE (l6 rid fun k=>S k∨k=i) e.v∧sw (l6 rid fun k=>S k∨k=i) (e.hp h):=by
 have FY:∀j,(I3 ||| 2 ^ i).testBit j=true→S j∨j=i:=fun j hj=>by
  rw[Nat.testBit_or,Bool.or_eq_true]at hj;rcases hj with hj|hj
  ·exact .inl (ha j hj)
  ·rw[Nat.testBit_two_pow]at hj;exact .inr (by simpa using hj:i=j).symm
 have up:sw (l6 rid fun k=>S k∨k=i) h:=fun id ty cs hb=>(hm id ty cs hb).imp (fun id h1 h2=>.inl (h1 h2))
 cases e with
 |val v=>exact⟨oL (fun j hj=>.inl (ha j hj)) he,up⟩
 |new v os =>
  simp only[gu,Bool.and_eq_true]at he;refine⟨oL FY he.1.1,fun id ty cs hb=>?_⟩;simp only[bE.hp]at hb
  split at hb
  ·rename_i o ho
   cases hb
   exact(lH FY he.2 _ _ ho).2 _ _ rfl
  ·exact up id ty cs hb
 |wr v h' =>simp only[gu,Bool.and_eq_true]at he;exact⟨oL FY he.1.2,fun id ty cs hb=>(lH FY he.2 _ _ hb).2 _ _ rfl⟩
theorem CF{i j:Nat}(h:(2 ^ i-1).testBit j=true):j<i:=by rw[Nat.testBit_two_pow_sub_one]at h;simpa using h
def wb(mk:Bool)(rid i id:Nat):Prop:=mk=true→l6 rid (fun k=>k<i) id
theorem kZ(E:Env P Eqs Sg F){rid n:Nat}{ops:Array Oper}{b:Array Nat}(mk:Bool)(Pb:mk=false→∀(i:Nat) (o:Oper),ops[i]? = some o→makes o.op=false)(hn:ops.size≤128)(ku:∀(i:Nat) (o:Oper),ops[i]? = some o→g8 n o=true){kk:St→Option R}{r:R}{Q:Exit→Act→World→Prop} (hQ:∀dX Z ψ a w,kk dX=some r→Ok Z0 w0 O ψ0 Z ψ dX.heap.get w→cH Z ψ dX.heap.get w n (look dX.tmps) a→Q .normal a w) :
  ∀(l:List (Nat×Oper)) (i:Nat) (st:St) (Z:Nat→Prop) (ψ:Nat→Value) (a:Act) (w:World),Ar ops i l→bA P Eqs Sg F rid false ops b l st kk=some r → J (wb mk rid i) n Z0 w0 O ψ0 Z ψ (look st.tmps) st.heap.get a w→wpOps P ops Q (l.map Prod.fst) a w
 |[],i,st,Z,ψ,a,w,_,hx,j=>hQ st Z ψ a w hx j.ok j.tr
 |(i',o)::l,i,st,Z,ψ,a,w,hl,hx,j=>by
  obtain⟨rfl,ho,hl⟩:=hl;have hi:i'<128:=ady (acV.1 ho).1 hn;have SC:=ku i' o ho;have ih:=kZ E (rid:=rid) (b:=b) mk Pb hn ku hQ l (i'+1);have up:∀id,wb mk rid i' id→wb mk rid (i'+1) id:=fun id h hm hr=>Nat.lt_succ_of_lt (h hm hr);have runs:∀ia:St,look ia.tmps=look st.tmps→ia.heap=st.heap→Region.wanted o (yielded ops a.tmps)=true →(match oo P (opId rid i') ia o with
    |some dX=>bA P Eqs Sg F rid false ops b l dX kk
    |none=>match tT o with
    |some x=>kK ia.heap (ρ ia.tmps x) fun v h=>bA P Eqs Sg F rid false ops b l (({ ia with heap:=h }:St).put o.dst v) kk
    |none=>match isNil P o with
    |some (x,want)=>tU ia.heap (ρ ia.tmps x) want fun v=>bA P Eqs Sg F rid false ops b l (ia.put o.dst v) kk
    |none=>cM P Eqs Sg F (opId rid i') ia.heap ia.tmps o fun e=>if gu false rid ops b i' (2 ^ i' - 1) e then bA P Eqs Sg F rid false ops b l ({ ia with heap:=match e with | .wr _ h=>h|e=>e.h ia.heap }.put o.dst e.v) kk else none)=some r →
    wpOps P ops Q (((i',o)::l).map Prod.fst) a w:=by
   intro ia h1 h2 hw hx
   split at hx
   ·rename_i dX nE;simp only[List.map_cons,wpOps,ho,hw,if_true];refine .inl ?_;have Zh:makes o.op=true:=by
     unfold oo at nE
     split at nE
     ·rename_i EC;rw[EC];rfl
     ·cases nE
    have aev:mk=true:=by
     cases MG:mk with
     |true=>rfl
     |false=>rw[Pb MG i' o ho]at Zh;cases Zh
    have j1:J (wb mk rid i') n Z0 w0 O ψ0 Z ψ (look ia.tmps) ia.heap.get a w:=by rw[h1,h2];exact j
    obtain⟨V,w',Z',ψ',dn,j'⟩:=Jw (P:=P) (p':=wb mk rid (i'+1)) (fun id hp mO=>by obtain⟨h3,h4⟩:=mO.parts hi;have:=hp aev h3;rw[h4]at this;exact Nat.lt_irrefl _ this) up (fun _ h3=>by have:=((Gu (rid:=rid) (i:=i')).parts hi).2;rw[this];exact Nat.lt_succ_self _) j1 SC nE;unfold Oper.wp;rw[dn];exact ih dX Z' ψ' _ w' hl hx j'
   split at hx
   ·rename_i x Dh;simp only[List.map_cons,wpOps,ho,hw,if_true];refine .inl ?_;have EC:o.op=.next x false:=by
     unfold tT at Dh
     split at Dh
     ·rename_i EC;cases Dh;exact EC
     ·cases Dh
    have Yh:av Z ψ ia.heap.get w (ρ ia.tmps x) (a.eval x):=qq (by rw[h1,h2];exact j.tr) x;have g1:Good Z ψ ia.heap.get w w0.heap.size O:=by rw[h2];exact j.ok.dB
    obtain⟨v,h',V,w',dn,nx,hr,Ta,Wt,pK⟩:=Jx (P:=P) (N:=fun _=>False) (ty:=o.type) g1 Yh hx;have Pc:(execOp a.eval o).run P w=.ok (.value V) w':=by obtain⟨dst,op,type,pos,after,guard⟩:=o;simp only at EC;subst EC;simp only at dn;simp[execOp,dn]
    unfold Oper.wp;rw[Pc];refine ih _ Z ψ _ w' hl Ta ?_;rw[gO,cY];have j1:J (wb mk rid i') n Z0 w0 O ψ0 Z ψ (look ia.tmps) ia.heap.get a w:=by rw[h1,h2];exact j
    refine⟨j1.ok.next (fun id h=>h.elim) nx,(j1.tr.next g1 nx (fun d=>(j1.tm d).imp fun _ _ h=>h)).put SC hr,fun d=>?_,fun k ty cs hb=>(j1.hm k ty cs (pK k ty cs hb)).imp up⟩
    cases ku:o.dst with
    |none=>exact(j1.tm d).imp up
    |some d0 =>
     simp only[iG,dA]
     split
     ·exact Wt _
     ·exact(j1.tm d).imp up
   split at hx
   ·rename_i x want Zi;obtain⟨op,t,v,t',et,EC,ht,rfl,qt⟩:=Jz Zi;simp only[List.map_cons,wpOps,ho,hw,if_true];refine .inl ?_;have Yh:av Z ψ ia.heap.get w (ρ ia.tmps x) (a.eval x):=qq (by rw[h1,h2];exact j.tr) x;have g1:Good Z ψ ia.heap.get w w0.heap.size O:=by rw[h2];exact j.ok.dB
    obtain⟨c,dn,Ta⟩:=O9 (P:=P) g1 x (.const (.slice none 0 0)) Yh ht qt hx;have Pc:(execOp a.eval o).run P w=.ok (.value (.bool c)) w:=by obtain⟨dst,op',type,pos,after,guard⟩:=o;simp only at EC;subst EC;have e1:a.eval (.const (.slice none 0 0))=.slice none 0 0:=rfl;simp[execOp,e1,dn.1,dn.2]
    unfold Oper.wp;rw[Pc];refine ih _ Z ψ _ w hl Ta ?_;rw[gO,cY];have j1:J (wb mk rid i') n Z0 w0 O ψ0 Z ψ (look ia.tmps) ia.heap.get a w:=by rw[h1,h2];exact j
    refine⟨j1.ok,j1.tr.put SC (by simp only[av]),fun d=>?_,fun k ty cs hb=>(j1.hm k ty cs hb).imp up⟩
    cases ku:o.dst with
    |none=>exact(j1.tm d).imp up
    |some d0 =>
     simp only[iG,dA]
     split
     ·simp only[aE]
     ·exact(j1.tm d).imp up
   rw[kY]at hx;obtain⟨e,he,hx⟩:=adp.1 hx
   split at hx
   ·rename_i lu;simp only[List.map_cons,wpOps,ho,hw,if_true];refine .inl ?_;have hh:ia.heap.get=st.heap.get:=by rw[h2]
    have nE:aE (wb mk rid (i'+1)) e.v∧sw (wb mk rid (i'+1)) (e.hp st.heap.get):=by
     cases MG:mk with
     |false =>have ht:wb false rid (i'+1)=fun _=>True:=funext fun id=>propext ⟨fun _=>trivial,fun _ h=>by cases h⟩;rw[ht];exact⟨aE.top _,fun _ _ cs _=>ax.top cs⟩
     |true =>
      have Tg:sw (l6 rid fun k=>k<i') st.heap.get:=fun id ty cs hb=>(j.hm id ty cs hb).imp fun id h1=>h1 MG;have h3:=As (hh:=ia.heap) Tg (fun k hk=>CF hk) lu;have hS:∀k,(k<i'∨k=i')→k<i'+1:=fun k hk=>by omega
      exact⟨h3.1.imp fun id h1 _ h2=>hS _ (h1 h2),fun id ty cs hb=>(h3.2 id ty cs hb).imp fun id h1 _ h2=>hS _ (h1 h2)⟩
    refine J.op E (p:=wb mk rid i') (p':=wb mk rid (i'+1)) (rid:=rid) (i:=i') (s:=ia.tmps) (fun hm id hp mO => ?_) j SC (fun x _=>qq (by rw[h1];exact j.tr) x) (fun x _=>MF (by rw[h1];exact j.tm) x) (fun id o hg=>by rw[hh]at hg;exact hg) he (fun _ _ _=>hh) up nE.1 nE.2 fun a' w' Z' ψ' j' => ?_
    ·cases MG:mk with
     |false=>rw[Pb MG i' o ho]at hm;cases hm
     |true =>obtain⟨h3,h4⟩:=mO.parts hi;have:=hp MG h3;rw[h4]at this;exact Nat.lt_irrefl _ this
    refine ih _ Z' ψ' a' w' hl hx ?_;rw[gO,cY];have j2:J (wb mk rid (i'+1)) n Z0 w0 O ψ0 Z' ψ' (iG (look ia.tmps) o.dst e.v) (bE.heap e ia.heap).get a' w':=by rw[bE.Gv,h1,h2];exact j'
    exact j2
   ·cases hx
  have uz:∀ia:St,look ia.tmps=look st.tmps→ia.heap=st.heap→Region.wanted o (yielded ops a.tmps)=false → bA P Eqs Sg F rid false ops b l (ia.put o.dst (.mG [])) kk=some r→wpOps P ops Q (((i',o)::l).map Prod.fst) a w:=by intro ia h1 h2 hw hx;simp only[List.map_cons,wpOps,ho,hw,Bool.false_eq_true,if_false];refine ih _ Z ψ _ w hl hx ?_;rw[gO,cY,h1,h2];exact j.skip SC up
  rw[bA]at hx;simp only[Bool.false_eq_true,if_false]at hx
  split at hx
  ·rename_i hg;exact runs st rfl rfl (by simp[Region.wanted,hg]) hx
  ·rename_i jj want hg
   split at hx
   ·cases hx
   ·rename_i d hd
    split at hx
    ·rename_i t ht;have hw:=Aq j.tr hg hd ht;have hp:∀b,t=b→look (st.put (some d) (.bool b)).tmps=look st.tmps:=fun b hb=>by subst hb;rw[gO];exact Df ht
     cases t<;>simp only[cond_true,cond_false]at hx<;>split at hx<;>rename_i qt
     ·exact uz _ (hp false rfl) (cY _ _ _) (by rw[hw];simp[qt]) hx
     ·exact runs _ (hp false rfl) (cY _ _ _) (by rw[hw];simp[qt]) hx
     ·exact runs _ (hp true rfl) (cY _ _ _) (by rw[hw];simp[qt]) hx
     ·exact uz _ (hp true rfl) (cY _ _ _) (by rw[hw];simp[qt]) hx
    ·rename_i vs ht;exact uz st rfl rfl (xH j.tr hg hd ht) hx
    ·cases hx
theorem j4(hp h:Heap)(i:Nat):∀(ft:List Nat),(eR ft hp h).get i=if i∈ft then(match hp.get i with|some o=>some o|none=>h.get i) else h.get i
 |[]=>by simp[eR]
 |j::r=>by
  have ih:=j4 hp h i r;unfold eR at ih ⊢
  cases hj:hp.get j with
  |none =>
   rw[List.filterMap_cons,hj];simp only[Option.map_none];rw[ih];by_cases e:i=j
   ·subst e;simp[hj]
   ·simp[e]
  |some o =>
   rw[List.filterMap_cons,hj];simp only[Option.map_some,List.cons_append,Heap.get];rw[ih];by_cases e:j=i
   ·subst e;simp[hj]
   ·have e':¬i=j:=fun h=>e h.symm;simp[e,e']
mutual
theorem xI{ft:List Nat}:∀{v:AV},qb ft v=true→aE (fun i=>i∉ft) v
 |.ref id _ _ _,h=>by simp only[aE];simpa[qb] using h
 |.bF id,h=>by simp only[aE];simpa[qb] using h
 |.fn _ cap,h=>by simp only[aE];exact j5 (by simpa only[qb] using h)
 |.agg cs,h=>by simp only[aE];exact j5 (by simpa only[qb] using h)
 |.mG vs,h=>by simp only[aE];exact j5 (by simpa only[qb] using h)
 |.no,_=>by simp only[aE]
 |.bool _,_=>by simp only[aE]
 |.int _ _,_=>by simp only[aE]
 |.str _,_=>by simp only[aE]
 |.kI,_=>by simp only[aE]
 |.fK,_=>by simp only[aE]
 |.fp _ _ _,_=>by simp only[aE]
 |.sl _ _ _,_=>by simp only[aE]
 |.mp _ _ _,_=>by simp only[aE]
theorem j5{ft:List Nat}:∀{l:List AV},sV ft l=true→ax (fun i=>i∉ft) l
 |[],_=>by simp only[ax]
 |v::r,h=>by simp only[sV,Bool.and_eq_true]at h;simp only[ax];exact⟨xI h.1,j5 h.2⟩
end
theorem j6{ft:List Nat}:∀{hh:Heap},sW ft hh=true→∀i o,hh.get i=some o→i∉ft∧∀ty cs,o=.box ty cs→ax (fun i=>i∉ft) cs
 |[],_,i,o,h=>by simp[Heap.get]at h
 |(j,.box ty cs)::r,hc,i,o,h=>by
  simp only[sW,Bool.and_eq_true]at hc;simp only[Heap.get]at h
  split at h
  ·rename_i e;subst e;cases h;exact⟨by simpa using hc.1,fun ty cs e=>by cases e;exact j5 hc.2.1⟩
  ·exact j6 hc.2.2 i o h
 |(j,.own ok x)::r,hc,i,o,h=>by
  simp only[sW,Bool.and_eq_true]at hc;simp only[Heap.get]at h
  split at h
  ·rename_i e;subst e;cases h;exact⟨by simpa using hc.1,fun ty cs e=>by cases e⟩
  ·exact j6 hc.2 i o h
theorem Next.frame{hp h1:Heap}{ft:List Nat}(g:Good Z ψ hp.get w B0 O)(hB:B0≤w.heap.size)(bf:∀i ty cs,hp.get i=some (.box ty cs)→ax (fun i=>¬N i) cs) (n:Next Z ψ (gH hp ft).get w w.heap.size (Own ψ (gH hp ft).get) N Z' ψ' h1.get w') (hc:sW ft h1=true) :
  ∃dN,Next Z ψ hp.get w B0 O N Z' dN (eR ft hp h1).get w'∧∀i,i∉ft→dN i=ψ' i:=by
 classical
 have gd:∀i,(gH hp ft).get i=if i∈ft then none else hp.get i:=fun i=>nw ft hp i
 have bu:∀b,Own ψ (gH hp ft).get b→Own ψ hp.get b:=fun b ⟨i,h1,h2⟩=>⟨i,by rw[gd]at h1;split at h1;exact absurd rfl h1;exact h1,h2⟩;have ql:∀i,i∈ft→h1.get i=none:=fun i hi=>by
  cases e:h1.get i with
  |none=>rfl
  |some o=>exact absurd hi (j6 hc i o e).1
 have gf:∀i,(eR ft hp h1).get i=if i∈ft then hp.get i else h1.get i:=fun i=>by
  rw[j4];by_cases hi:i∈ft
  ·rw[if_pos hi,if_pos hi,ql i hi];cases hp.get i<;>rfl
  ·rw[if_neg hi,if_neg hi]
 let dN:Nat→Value:=fun i=>if i∈ft then ψ i else ψ' i
 have p1:∀i,i∈ft→dN i=ψ i:=fun i hi=>if_pos hi;have p2:∀i,i∉ft→dN i=ψ' i:=fun i hi=>if_neg hi;have apart:∀i b,i∈ft→hp.get i≠none→ob (ψ i)=some b→¬Own ψ (gH hp ft).get b:=fun i b hi h2 h3 ⟨j,h4,h5⟩=>by
  rw[gd]at h4
  split at h4
  ·exact h4 rfl
  ·rename_i hj;have:=g.apart i j b h2 h4 h3 h5;subst this;exact hj hi
 have cK:∀i b,i∈ft→hp.get i≠none→ob (ψ i)=some b→w'.heap[b]? = w.heap[b]? := fun i b hi h2 h3 =>n.keep.block b (g.bM ⟨i,h2,h3⟩) (apart i b hi h2 h3);have keep:cV ψ hp.get w w':=⟨n.keep.os,n.keep.tape,n.keep.output,n.keep.size,fun b hb hn=>n.keep.block b hb fun ho=>hn (bu b ho)⟩;have sm:cp Z w w':=keep.same g;have ids:∀i,(eR ft hp h1).get i≠none→(hp.get i≠none∧dN i=ψ i)∨N i:=fun i hi=>by
  rw[gf]at hi;by_cases hf:i∈ft
  ·rw[if_pos hf]at hi;exact .inl ⟨hi,p1 i hf⟩
  ·rw[if_neg hf]at hi;rcases n.ids i hi with⟨h2,h3⟩|h2
   ·rw[gd,if_neg hf]at h2;exact .inl ⟨h2,(p2 i hf).trans h3⟩
   ·exact .inr h2
 have nz:∀i b,i∈ft→hp.get i≠none→ob (ψ i)=some b→¬Z' b:=fun i b hi h2 h3 hz=>by
  rcases n.dY b hz with h4|h4|h4
  ·exact(g.live i b h2 h3).1 h4
  ·exact apart i b hi h2 h3 h4
  ·have:=g.bM ⟨i,h2,h3⟩;omega
 refine⟨dN,⟨n.fC,fun b hb=>(n.dY b hb).imp (fun h=>h) (fun h=>h.imp (bu b) fun h=>h),keep,ids,⟨fun i ty cs hb=>?_,fun i ok x hb=>?_,fun i b h2 h3=>?_,fun i j b h2 h3 h4 h5=>?_,n.dB.ju⟩⟩,p2⟩
 ·rw[gf]at hb;by_cases hf:i∈ft
  ·rw[if_pos hf]at hb;obtain⟨gg,vs,e1,e2,e3,e4⟩:=g.box i ty cs hb;refine⟨gg,vs,by rw[p1 i hf,e1],(cK i gg hf (by rw[hb];simp) (by rw[e1];rfl)).trans e2,e3.move n.fC sm (fun j hj bq=>(ids j bq).resolve_right hj) (bf i ty cs hb),e4⟩
  ·rw[if_neg hf]at hb;obtain⟨gg,vs,e1,e2,e3,e4⟩:=n.dB.box i ty cs hb;refine⟨gg,vs,by rw[p2 i hf,e1],e2,e3.move (fun _ h=>h) (cp.refl _ _) (fun j hj bq=>?_) ((j6 hc i _ hb).2 ty cs rfl),e4⟩;rw[gf,if_neg hj]at bq;exact⟨bq,p2 j hj⟩
 ·rw[gf]at hb;by_cases hf:i∈ft
  ·rw[if_pos hf]at hb;rw[p1 i hf];exact(g.row i ok x hb).kept n.fC sm (fun b mb=>cK i b hf (by rw[hb];simp) mb)
  ·rw[if_neg hf]at hb;rw[p2 i hf];exact n.dB.row i ok x hb
 ·rw[gf]at h2;by_cases hf:i∈ft
  ·rw[if_pos hf]at h2;rw[p1 i hf]at h3;exact⟨nz i b hf h2 h3,(g.live i b h2 h3).2⟩
  ·rw[if_neg hf]at h2;rw[p2 i hf]at h3;obtain⟨h4,h5⟩:=n.dB.live i b h2 h3;refine⟨h4,h5.elim (fun h=>.inl (adk hB h)) fun h=>?_⟩;obtain⟨j,h6,h7⟩:=bu b h;exact(g.live j b h6 h7).2
 ·have mixed:∀i j b,i∈ft→j∉ft→(eR ft hp h1).get i≠none→(eR ft hp h1).get j≠none→ob (dN i)=some b→ob (dN j)=some b→False:=fun i j b hi hj h2 h3 h4 h5=>by
   rw[gf,if_pos hi]at h2;rw[gf,if_neg hj]at h3;rw[p1 i hi]at h4;rw[p2 j hj]at h5;rcases (n.dB.live j b h3 h5).2 with h6|h6
   ·have:=g.bM ⟨i,h2,h4⟩;omega
   ·exact apart i b hi h2 h4 h6
  by_cases hi:i∈ft<;>by_cases hj:j∈ft
  ·rw[gf,if_pos hi]at h2;rw[gf,if_pos hj]at h3;rw[p1 i hi]at h4;rw[p1 j hj]at h5;exact g.apart i j b h2 h3 h4 h5
  ·exact(mixed i j b hi hj h2 h3 h4 h5).elim
  ·exact(mixed j i b hj hi h3 h2 h5 h4).elim
  ·rw[gf,if_neg hi]at h2;rw[gf,if_neg hj]at h3;rw[p2 i hi]at h4;rw[p2 j hj]at h5;exact n.dB.apart i j b h2 h3 h4 h5
theorem J.opF(E:Env P Eqs Sg F){rid n i:Nat}{p:Nat→Prop}{T:Nat→AV}{a:Act}{s:List (Nat×AV)}{o:Oper}(hS:makes o.op=true→∀id,p id→¬Of rid i id){hp h1:Heap}{v:AV}{ft:List Nat}(j:J p n Z0 w0 O ψ0 Z ψ T hp.get a w)(hd:g8 n o=true) (hT:∀x∈o.op.operands,av Z ψ hp.get w (ρ s x) (a.eval x)) (hTm:∀x∈o.op.operands,aE p (ρ s x)) (he:cM P Eqs Sg F (opId rid i) (gH hp ft) s o some=some (.wr v h1)) (hc:ln ft (.wr v h1)=true) {p':Nat→Prop} (N4:∀k,p k→p' k) (hv:aE p' v) (WI:sw p' (eR ft hp h1).get) {next:Act→World→Prop} {Q:Exit→Act→World→Prop} (hk:∀a' w' Z' ψ',J p' n Z0 w0 O ψ0 Z' ψ' (iG T o.dst v) (eR ft hp h1).get a' w'→next a' w'):o.wp P a w next Q:=by
 have WJ:∀id,p id→¬(makes o.op=true∧Of rid i id):=fun id h ⟨h1,h2⟩=>hS h1 id h h2;simp only[ln,Bool.and_eq_true]at hc;have bu:∀id o,(gH hp ft).get id=some o→hp.get id=some o:=fun id o h=>by rw[nw]at h;split at h;cases h;exact h
 have bq:∀id,(gH hp ft).get id≠none→hp.get id≠none:=fun id h=>by obtain⟨o,ho⟩:=ade.1 h;rw[bu id o ho];simp
 have bf:∀i' ty cs,hp.get i'=some (.box ty cs)→ax (fun id=>¬(makes o.op=true∧Of rid i id)) cs:=fun id ty cs hb=>(j.hm id ty cs hb).imp WJ;have gs:Good Z ψ (gH hp ft).get w w.heap.size (Own ψ (gH hp ft).get):=(j.ok.dB.sub bu).Ey _;refine U8 (N:=fun id=>makes o.op=true∧Of rid i id) E gs (adg _) (fun _ _ h=>h) (id:=opId rid i) (fun hm k hk=>⟨hm,KU hk⟩) (fun x hx=>(hT x hx).pM bu) (fun x hx=>(hTm x hx).imp WJ) (fun id ty cs hb=>bf id ty cs (bu _ _ hb)) (fun _ _ _=>rfl) he fun V w' Z' ψ' nx hr=>?_;obtain⟨dN,n2,h2⟩:=Next.frame j.ok.dB j.ok.size bf nx hc.2;have WL:av Z' dN (eR ft hp h1).get w' v V:=hr.move (p:=fun i=>i∉ft) (fun _ h=>h) (cp.refl _ _) (fun k hk bq=>by rw[j4,if_neg hk]at bq;exact⟨bq,h2 k hk⟩) (xI hc.1);refine hk _ w' Z' dN ⟨j.ok.next (fun id h=>by have:=h.2;unfold Of at this;omega) n2,(j.tr.next j.ok.dB n2 (fun d=>(j.tm d).imp WJ)).put hd WL,fun d=>?_,WI⟩
 cases ku:o.dst with
 |none=>exact(j.tm d).imp N4
 |some d0 =>
  simp only[iG,dA]
  split
  ·exact hv
  ·exact(j.tm d).imp N4
end Go.Vs
namespace Go.Vs
variable {P:Program} {Eqs:TypeId→Option K} {Sg:FuncId→Option aL} {F:(f:FuncId)→(g:aL)→g.A→Option g.B} {R:Type}
variable {Z Z' Z0:Nat→Prop} {ψ ψ':Nat→Value} {h h':Hp} {w w' w0:World} {B0:Nat} {O N:Nat→Prop}
variable {rid n:Nat} {ops:Array Oper} {b:Array Nat}
def rr(b:Array Nat)(i j:Nat):Prop:=(b.getD i 0).testBit j=true
theorem Di(b:Array Nat)(j:Nat):∀(l:List Edge) (s:Nat),(l.foldl (fun s e=>if Region.binds .any e then s ||| 2 ^ e.on ||| b.getD e.on 0 else s) s).testBit j=true ↔
  s.testBit j=true∨∃e∈l,Region.binds .any e=true∧(j=e.on∨rr b e.on j)
 |[],s=>by simp
 |e::l,s=>by
  rw[List.foldl_cons,Di b j l];by_cases hb:Region.binds .any e=true
  ·rw[if_pos hb];have h2:(2 ^ e.on).testBit j=true↔j=e.on:=by rw[Nat.testBit_two_pow];simp[eq_comm]
   simp only[Nat.testBit_or,Bool.or_eq_true,h2,List.mem_cons,exists_eq_or_imp,hb,true_and,rr];constructor
   ·rintro(((h|h)|h)|h)
    ·exact .inl h
    ·exact .inr (.inl (.inl h))
    ·exact .inr (.inl (.inr h))
    ·exact .inr (.inr h)
   ·rintro(h|(h|h)|h)
    ·exact .inl (.inl (.inl h))
    ·exact .inl (.inl (.inr h))
    ·exact .inl (.inr h)
    ·exact .inr h
  ·rw[if_neg hb];simp[hb]
theorem yN(hb:tS ops b=true){i j:Nat}{o:Oper}(ho:ops[i]? = some o):rr b i j↔∃e∈o.after.toList,Region.binds .any e=true∧(j=e.on∨rr b e.on j):=by have aF:=(acV.1 ho).1;have h1:=ado.1 hb i (adw.2 aF);rw[ho]at h1;simp only[Bool.and_eq_true,beq_iff_eq]at h1;unfold rr;rw[h1.2,Di];simp[rr]
theorem JA(hb:tS ops b=true){i:Nat}{o:Oper}(ho:ops[i]? = some o){e:Edge}(he:e∈o.after.toList)(Mt:Region.binds .any e=true):e.on<i:=by have aF:=(acV.1 ho).1;have h1:=ado.1 hb i (adw.2 aF);rw[ho]at h1;simp only[Bool.and_eq_true]at h1;have:=ado.1 h1.1 e he;simpa[Mt] using this
theorem Au(hb:tS ops b=true):∀(i j:Nat),i<ops.size→rr b i j→j<i:=by
 intro i
 induction i using Nat.strongRecOn with
 |ind i ih =>
  intro j hi h;obtain⟨e,he,Mt,h1⟩:=(yN hb (adl hi)).1 h;have WM:=JA hb (adl hi) he Mt;rcases h1 with rfl|h1
  ·exact WM
  ·exact Nat.lt_trans (ih e.on WM j (by omega) h1) WM
theorem Dk(hb:tS ops b=true):∀(i j k:Nat),i<ops.size→rr b i j→rr b j k→rr b i k:=by
 intro i
 induction i using Nat.strongRecOn with
 |ind i ih =>
  intro j k hi h h';obtain⟨e,he,Mt,h1⟩:=(yN hb (adl hi)).1 h;have WM:=JA hb (adl hi) he Mt;refine(yN hb (adl hi)).2 ⟨e,he,Mt,?_⟩;rcases h1 with rfl|h1
  ·exact .inr h'
  ·exact .inr (ih e.on WM j k (by omega) h1 h')
theorem get_filter(f:Nat→Bool):∀(hh:Heap) (i:Nat),Heap.get (hh.filter fun p=>f p.1) i=if f i then hh.get i else none
 |[],i=>by simp[Heap.get]
 |(j,o)::r,i=>by
  rw[List.filter_cons]
  split
  ·rename_i hj;simp only[Heap.get];by_cases e:j=i
   ·subst e;simp only at hj;simp[hj]
   ·simp only[if_neg e];exact get_filter f r i
  ·rename_i hj;rw[get_filter f r i];simp only[Heap.get];by_cases e:j=i
   ·subst e;simp only at hj;simp[hj]
   ·simp only[if_neg e]
theorem MH(rid I3:Nat)(hh:Heap)(id:Nat):(ahead rid I3 hh).get id=if qa rid I3 id then hh.get id else none:=by unfold ahead;exact get_filter (fun i=>qa rid I3 i) hh id
theorem Pd(ft:List Nat)(hp:Heap)(e:bE):(gD ft hp e).v=e.v:=by cases e<;>rfl
theorem Gz{id:Nat}{hh:Heap}{s:List (Nat×AV)}{o:Oper}{x:Operand}{e:bE}(hl:gx o.op=some x)(he:cM P Eqs Sg F id hh s o some=some e):∃v,e=.val v:=by
 obtain⟨dst,op,type,pos,after,guard⟩:=o
 cases op<;>simp only[gx]at hl<;>first|(cases hl;done)|skip
 case load t a =>
  simp only[cM,ll]at he
  repeat' (first|(cases he;done)|exact⟨_,(ada he).symm⟩|split at he)
  all_goals
   obtain⟨y,_,he⟩:=adp.1 he
   split at he<;>first|(cases he;done)|exact⟨_,(ada he).symm⟩
 case indexAddr t a i =>
  simp only[cM,dt]at he
  repeat' (first|(cases he;done)|exact⟨_,(ada he).symm⟩|split at he)
  all_goals first
   |(obtain⟨y,_,he⟩:=adp.1 he;exact⟨_,(ada he).symm⟩)
   |(unfold cond at he;split at he<;>first|(cases he;done)|exact⟨_,(ada he).symm⟩)
theorem wc{op:Op}{x:Operand}(hl:gx op=some x):mI op=false∧yz op=false:=by cases op<;>simp only[gx]at hl<;>first|(cases hl;done)|exact⟨rfl,rfl⟩
theorem JB{id:Nat}{hh h2:Heap}{s:List (Nat×AV)}{o:Oper}{x:Operand}(hl:gx o.op=some x)(hg:∀i∈pf (ρ s x),h2.get i=hh.get i):cM P Eqs Sg F id h2 s o some=cM P Eqs Sg F id hh s o some:=by
 obtain⟨dst,op,type,pos,after,guard⟩:=o
 cases op<;>simp only[gx]at hl<;>first|(cases hl;done)|skip
 case load t a =>
  cases hl
  simp only[cM,ll]
  cases hv:ρ s x with
  |ref i s' j off=>rw[hv]at hg;simp only[pf,List.mem_singleton,forall_eq]at hg;simp only[hg]
  |_=>rfl
 case indexAddr t a i =>
  cases hl
  simp only[cM,dt]
  cases w7 P t with
  |none=>rfl
  |some e =>
   simp only[]
   cases hv:ρ s x with
   |bF k =>
    rw[hv]at hg;have zT:=hg k (by simp[pf])
    cases ρ s i<;>first|rfl|simp only[zT]
   |sl ex k xs=>cases ρ s i<;>rfl
   |_=>rfl
def po(ops:Array Oper)(T:Nat→AV)(o:Oper)(t:Bool):Prop :=match o.guard with
 |none=>t=true
 |some (j,want)=>∃d,(ops[j]?).bind (·.dst)=some d∧((∃u,T d=.bool u∧(u==want)=t)∨(∃vs,T d=.mG vs∧t=false))
def Av(P:Program)(Eqs:TypeId→Option K)(Sg:FuncId→Option aL)(F:(f:FuncId)→(g:aL)→g.A→Option g.B)(rid:Nat)(ops:Array Oper)(b:Array Nat)(T:Nat→Nat→AV)(H:Nat→Hp)(E:Nat→Option bE)(k:Nat)(o:Oper):Prop :=(∃e s hh,E k=some e∧look s=T k∧(∀id,Heap.get hh id=if qa rid (b.getD k 0) id then H k id else none)∧(∃e0,cM P Eqs Sg F (opId rid k) (gH hh (gy ops b k s o)) s o some=some e0∧e=gD (gy ops b k s o) hh e0∧ln (gy ops b k s o) e0=true) ∧
  gu true rid ops b k (b.getD k 0) e=true∧po ops (T k) o true∧T (k+1)=iG (T k) o.dst e.v∧H (k+1)=e.hp (H k)) ∨
 (E k=none∧po ops (T k) o false∧T (k+1)=iG (T k) o.dst (.mG [])∧H (k+1)=H k)
theorem trace{kk:St→Option R}{r:R}:∀(l:List (Nat×Oper)) (i:Nat) (st:St),Ar ops i l→l.length=ops.size-i→bA P Eqs Sg F rid true ops b l st kk=some r → ∃(T:Nat→Nat→AV) (H:Nat→Hp) (E:Nat→Option bE),T i=look st.tmps∧H i=st.heap.get∧(∀k o,i≤k→ops[k]? = some o→Av P Eqs Sg F rid ops b T H E k o) ∧ ∃dX,kk dX=some r∧look dX.tmps=T (max i ops.size)∧dX.heap.get=H (max i ops.size)
 |[],i,st,_,hlen,hx=>by
  have U5:ops.size≤i:=by simp at hlen;omega
  refine⟨fun _=>look st.tmps,fun _=>st.heap.get,fun _=>none,rfl,rfl,fun k o hk ho=>?_,st,hx,rfl,rfl⟩;have:=(acV.1 ho).1;omega
 |(i',o)::l,i,st,hl,hlen,hx=>by
  obtain⟨rfl,ho,hl⟩:=hl;have aF:=(acV.1 ho).1;have ih:=trace (kk:=kk) (r:=r) l (i'+1);have Zj:l.length=ops.size-(i'+1):=by simp at hlen;omega
  have glue:∀(dX:St) (oe:Option bE),bA P Eqs Sg F rid true ops b l dX kk=some r →(∀T H E,T i'=look st.tmps→H i'=st.heap.get→E i'=oe→T (i'+1)=look dX.tmps→H (i'+1)=dX.heap.get→Av P Eqs Sg F rid ops b T H E i' o) → ∃(T:Nat→Nat→AV) (H:Nat→Hp) (E:Nat→Option bE),T i'=look st.tmps∧H i'=st.heap.get∧(∀k o,i'≤k→ops[k]? = some o→Av P Eqs Sg F rid ops b T H E k o) ∧ ∃dX,kk dX=some r∧look dX.tmps=T (max i' ops.size)∧dX.heap.get=H (max i' ops.size):=by
   intro dX oe YQ tY;obtain⟨T,H,E,h1,h2,h3,aew,h4,h5,h6⟩:=ih dX hl Zj YQ;refine⟨fun k=>if k≤i' then look st.tmps else T k,fun k=>if k≤i' then st.heap.get else H k,fun k=>if k=i' then oe else E k,by simp,by simp,fun k o' hk mO => ?_,aew,h4,?_,?_⟩
   ·by_cases hki:k=i'
    ·subst hki;rw[ho]at mO
     cases mO
     exact tY _ _ _ (by simp) (by simp) (by simp) (by show(if k+1≤k then _ else _)=_;rw[if_neg (by omega)];exact h1) (by show(if k+1≤k then _ else _)=_;rw[if_neg (by omega)];exact h2)
    ·have h7:=h3 k o' (by omega) mO;unfold Av at h7 ⊢;simp only[show ¬k≤i' by omega,show ¬k+1≤i' by omega,hki,if_false];exact h7
   ·rw[h5];simp only[show max (i'+1) ops.size=ops.size by omega,show max i' ops.size=ops.size by omega,show ¬ops.size≤i' by omega,if_false]
   ·rw[h6];simp only[show max (i'+1) ops.size=ops.size by omega,show max i' ops.size=ops.size by omega,show ¬ops.size≤i' by omega,if_false]
  have runs:∀ia:St,look ia.tmps=look st.tmps→ia.heap=st.heap→po ops (look st.tmps) o true →(cM P Eqs Sg F (opId rid i') (gH (ahead rid (b.getD i' 0) ia.heap) (gy ops b i' ia.tmps o)) ia.tmps o fun e=>if(gu true rid ops b i' (b.getD i' 0) (gD (gy ops b i' ia.tmps o) (ahead rid (b.getD i' 0) ia.heap) e)&&ln (gy ops b i' ia.tmps o) e)=true then bA P Eqs Sg F rid true ops b l ({ ia with heap:=match gD (gy ops b i' ia.tmps o) (ahead rid (b.getD i' 0) ia.heap) e with | .wr _ h=>h|e=>e.h ia.heap }.put o.dst e.v) kk else none)=some r →
    ∃(T:Nat→Nat→AV) (H:Nat→Hp) (E:Nat→Option bE),T i'=look st.tmps∧H i'=st.heap.get∧(∀k o,i'≤k→ops[k]? = some o→Av P Eqs Sg F rid ops b T H E k o) ∧ ∃dX,kk dX=some r∧look dX.tmps=T (max i' ops.size)∧dX.heap.get=H (max i' ops.size):=by
   intro ia h1 h2 hw hx;rw[kY]at hx;obtain⟨e,he,hx⟩:=adp.1 hx
   split at hx
   ·rename_i lu;rw[Bool.and_eq_true]at lu;generalize EE:gD (gy ops b i' ia.tmps o) (ahead rid (b.getD i' 0) ia.heap) e=e1 at hx lu;have uj:e.v=e1.v:=by rw[←EE];exact(Pd _ _ _).symm
    refine glue _ (some e1) hx fun T H E hT hH hE hT' Wz => ?_;refine .inl ⟨e1,ia.tmps,_,hE,by rw[hT,h1],fun id=>by rw[MH,hH,h2],⟨e,he,EE.symm,lu.2⟩,lu.1,by rw[hT];exact hw,?_,?_⟩
    ·rw[hT',gO,hT,uj];simp only[h1]
    ·rw[Wz,cY,hH];have:(bE.heap e1 ia.heap).get=e1.hp st.heap.get:=by rw[bE.Gv,h2]
     exact this
   ·cases hx
  have uz:∀ia:St,look ia.tmps=look st.tmps→ia.heap=st.heap→po ops (look st.tmps) o false → bA P Eqs Sg F rid true ops b l (ia.put o.dst (.mG [])) kk=some r → ∃(T:Nat→Nat→AV) (H:Nat→Hp) (E:Nat→Option bE),T i'=look st.tmps∧H i'=st.heap.get∧(∀k o,i'≤k→ops[k]? = some o→Av P Eqs Sg F rid ops b T H E k o) ∧ ∃dX,kk dX=some r∧look dX.tmps=T (max i' ops.size)∧dX.heap.get=H (max i' ops.size):=by
   intro ia h1 h2 hw hx;refine glue _ none hx fun T H E hT hH hE hT' Wz=>.inr ⟨hE,by rw[hT];exact hw,?_,?_⟩
   ·rw[hT',gO,hT,h1]
   ·rw[Wz,cY,hH,h2]
  rw[bA]at hx;simp only[if_true]at hx
  split at hx
  ·rename_i hg;exact runs st rfl rfl (by simp[po,hg]) hx
  ·rename_i jj want hg
   split at hx
   ·cases hx
   ·rename_i d hd
    split at hx
    ·rename_i t ht;have hp:∀b,t=b→look (st.put (some d) (.bool b)).tmps=look st.tmps:=fun b hb=>by subst hb;rw[gO];exact Df ht
     have hw:∀c,(t==want)=c→po ops (look st.tmps) o c:=fun c hc=>by unfold po;rw[hg];exact⟨d,hd,.inl ⟨t,ht,hc⟩⟩
     cases t<;>simp only[cond_true,cond_false]at hx<;>split at hx<;>rename_i qt
     ·exact uz _ (hp false rfl) (cY _ _ _) (hw _ (by simp[qt])) hx
     ·exact runs _ (hp false rfl) (cY _ _ _) (hw _ (by simp[qt])) hx
     ·exact runs _ (hp true rfl) (cY _ _ _) (hw _ (by simp[qt])) hx
     ·exact uz _ (hp true rfl) (cY _ _ _) (hw _ (by simp[qt])) hx
    ·rename_i vs ht;exact uz st rfl rfl (by unfold po;rw[hg];exact⟨d,hd,.inr ⟨vs,ht,rfl⟩⟩) hx
    ·cases hx
def Nf(ops:Array Oper)(j:Nat):Prop:=∃o,ops[j]? = some o∧mI o.op=false∧gx o.op=none
def yO(E:Nat→Option bE)(k:Nat):Prop:=∃v h',E k=some (.wr v h')
def Yj(E:Nat→Option bE)(k:Nat):Prop:=∃v os,E k=some (.new v os)
theorem uA{α:Type}(f:α→Option Nat):∀(l:List α),b6 (l.filterMap f)=true→∀(i j:Nat) (x y:α) (d:Nat),l[i]? = some x→l[j]? = some y→f x=some d→f y=some d→i=j
 |[],_,i,j,x,y,d,hi,_,_,_=>by simp at hi
 |a::r,hn,i,j,x,y,d,hi,hj,hx,hy=>by
  have iU:∀(k:Nat) (z:α),r[k]? = some z→f z=some d→d∈r.filterMap f:=fun k z hk hz=>ad7.2 ⟨z,adj hk,hz⟩;have hr:b6 (r.filterMap f)=true∧∀c,f a=some c→c∉r.filterMap f:=by
   rw[List.filterMap_cons]at hn
   split at hn
   ·rename_i h0;exact⟨hn,fun c hc=>by rw[h0]at hc;cases hc⟩
   ·rename_i c h0;simp only[b6,Bool.and_eq_true,Bool.not_eq_true']at hn;refine⟨hn.2,fun c' hc=>?_⟩;rw[h0]at hc;cases hc;intro hm;rw[List.contains_iff_mem.2 hm]at hn;simp at hn
  cases i with
  |zero =>
   cases j with
   |zero=>rfl
   |succ j =>simp only[List.getElem?_cons_zero,Option.some.injEq]at hi;subst hi;exact absurd (iU j y (by simpa using hj) hy) (hr.2 d hx)
  |succ i =>
   cases j with
   |zero =>simp only[List.getElem?_cons_zero,Option.some.injEq]at hj;subst hj;exact absurd (iU i x (by simpa using hi) hx) (hr.2 d hy)
   |succ j=>rw[uA f r hr.1 i j x y d (by simpa using hi) (by simpa using hj) hx hy]
structure Dr(P:Program)(Eqs:TypeId→Option K)(Sg:FuncId→Option aL)(F:(f:FuncId)→(g:aL)→g.A→Option g.B)(rid n:Nat)(ops:Array Oper)(b:Array Nat)(T:Nat→Nat→AV)(H:Nat→Hp)(E:Nat→Option bE):Prop where
 size:ops.size≤128
 N5:tS ops b=true
 pair:zB ops b=true
 aey:∀(i:Nat) (o:Oper),ops[i]? = some o→g8 n o=true
 nodup:b6 (ops.toList.filterMap (·.dst))=true
 step:∀k o,ops[k]? = some o→Av P Eqs Sg F rid ops b T H E k o
 aez:∀id,H 0 id≠none→id / 32768≠rid+1
section
variable {T:Nat→Nat→AV} {H:Nat→Hp} {E:Nat→Option bE}
theorem Dr.yP(D:Dr P Eqs Sg F rid n ops b T H E){i j:Nat}{x y:Oper}{d:Nat}(hi:ops[i]? = some x)(hj:ops[j]? = some y)(hx:x.dst=some d)(hy:y.dst=some d):i=j :=uA (·.dst) ops.toList D.nodup i j x y d (by simpa using hi) (by simpa using hj) hx hy
theorem Dr.Va(D:Dr P Eqs Sg F rid n ops b T H E){i j:Nat}{x y:Oper}(hi:ops[i]? = some x)(hj:ops[j]? = some y)(zZ:i<j):rr b j i∨x.apart ops y=true:=by have h1:=ado.1 D.pair j (adw.2 (acV.1 hj).1);have h2:=ado.1 h1 i (adw.2 zZ);rw[hi,hj]at h2;simp only[Bool.or_eq_true,Bool.and_eq_true]at h2;exact h2
theorem Dr.Tu(D:Dr P Eqs Sg F rid n ops b T H E){k:Nat}{o:Oper}(ho:ops[k]? = some o){e:bE}(he:E k=some e) :
  ∃s hh,look s=T k∧(∀id,Heap.get hh id=if qa rid (b.getD k 0) id then H k id else none)∧(∃e0,cM P Eqs Sg F (opId rid k) (gH hh (gy ops b k s o)) s o some=some e0∧e=gD (gy ops b k s o) hh e0∧ln (gy ops b k s o) e0=true) ∧
   gu true rid ops b k (b.getD k 0) e=true∧po ops (T k) o true∧T (k+1)=iG (T k) o.dst e.v∧H (k+1)=e.hp (H k):=by
 rcases D.step k o ho with⟨e',s,hh,h1,h2⟩|⟨h1,_⟩
 ·rw[he]at h1;cases h1;exact⟨s,hh,h2⟩
 ·rw[he]at h1;cases h1
theorem Dr.EF(D:Dr P Eqs Sg F rid n ops b T H E){k:Nat}{o:Oper}(ho:ops[k]? = some o)(he:E k=none) :
  po ops (T k) o false∧T (k+1)=iG (T k) o.dst (.mG [])∧H (k+1)=H k:=by
 rcases D.step k o ho with⟨e',s,hh,h1,h2⟩|⟨h1,h2⟩
 ·rw[he]at h1;cases h1
 ·exact h2
theorem Dr.we(D:Dr P Eqs Sg F rid n ops b T H E){k:Nat}(hk:k<ops.size)(h:Yj E k):Nf ops k:=by
 obtain⟨v,os,he⟩:=h;obtain⟨s,hh,_,_,⟨e0,h3,UY,_⟩,_⟩:=D.Tu (adl hk) he;refine⟨_,adl hk,?_,?_⟩
 ·cases hf:mI (ops[k]).op with
  |false=>rfl
  |true=>obtain⟨v',rfl⟩:=Gq hf h3;cases UY
 ·cases hf:gx (ops[k]).op with
  |none=>rfl
  |some x=>obtain⟨v',rfl⟩:=Gz hf h3;cases UY
theorem Dr.Pe(D:Dr P Eqs Sg F rid n ops b T H E){k:Nat}(hk:k<ops.size)(h:yO E k):Nf ops k:=by
 obtain⟨v,os,he⟩:=h;obtain⟨s,hh,_,_,⟨e0,h3,UY,_⟩,_⟩:=D.Tu (adl hk) he;refine⟨_,adl hk,?_,?_⟩
 ·cases hf:mI (ops[k]).op with
  |false=>rfl
  |true=>obtain⟨v',rfl⟩:=Gq hf h3;cases UY
 ·cases hf:gx (ops[k]).op with
  |none=>rfl
  |some x=>obtain⟨v',rfl⟩:=Gz hf h3;cases UY
theorem Dr.Aw(D:Dr P Eqs Sg F rid n ops b T H E){k j:Nat}(hk:k<ops.size)(h:yO E k)(hj:Nf ops j)(bq:j≠k):(j<k∧rr b k j)∨(k<j∧rr b j k):=by
 obtain⟨v,os,he⟩:=h;obtain⟨s,hh,_,_,_,h4,_⟩:=D.Tu (adl hk) he;obtain⟨o,ho,hf,N3⟩:=hj;have IN:=(acV.1 ho).1;simp only[gu,Bool.and_eq_true]at h4;have h5:I2 ops b k=true:=by simpa using h4.1.1
 have h6:=ado.1 h5 j (adw.2 IN);have hlf:nm ops k j=false:=by unfold nm;rw[ho];simp only[Option.bind_some,N3]
 rw[hlf,ho]at h6;simp only[N3,Option.isSome_none,Bool.and_false,Bool.or_false]at h6;simp only[Bool.or_eq_true,beq_iff_eq,hf,Bool.false_eq_true,or_false]at h6;rcases h6 with(h6|h6)|h6
 ·exact absurd h6 bq
 ·exact .inr ⟨Au D.N5 j k IN h6,h6⟩
 ·exact .inl ⟨Au D.N5 k j hk h6,h6⟩
theorem Dr.Ax(D:Dr P Eqs Sg F rid n ops b T H E){p:Nat}:∀(q:Nat),p≤q→q≤ops.size→∀id,(∀k,p≤k→k<q→yO E k→H (k+1) id=H k id)→(∀k,p≤k→k<q→Yj E k→¬Of rid k id)→H q id=H p id:=by
 intro q
 induction q with
 |zero=>intro z8 _ id _ _;rw[Nat.le_zero.1 z8]
 |succ q ih =>
  intro z8 hq id hw bL;by_cases he:p=q+1
  ·rw[he]
  ·have h1:=ih (by omega) (by omega) id (fun k h1 h2=>hw k h1 (by omega)) (fun k h1 h2=>bL k h1 (by omega));rw[←h1];have ho:=adl (show q<ops.size by omega)
   cases hE:E q with
   |none=>rw[(D.EF ho hE).2.2]
   |some e =>
    obtain⟨s,hh,_,_,_,h4,_,_,h7⟩:=D.Tu ho hE
    cases e with
    |val v=>rw[h7];rfl
    |wr v h'=>exact hw q (by omega) (by omega) ⟨v,h',hE⟩
    |new v os =>
     rw[h7];simp only[bE.hp]
     cases N1:Heap.get os id with
     |none=>rfl
     |some o' =>
      exfalso;simp only[gu,Bool.and_eq_true]at h4;refine bL q (by omega) (by omega) ⟨v,os,hE⟩ ?_;have:∀(l:Heap),(l.all fun p=>p.1 / 256==(rid+1)*128+q)=true→∀o',l.get id=some o'→Of rid q id:=by
       intro l
       induction l with
       |nil=>intro _ o' h;simp[Heap.get]at h
       |cons a r ihl =>
        intro fe o' hg;simp only[List.all_cons,Bool.and_eq_true,beq_iff_eq]at fe;simp only[Heap.get]at hg
        split at hg
        ·rename_i e;rw[←e];exact fe.1
        ·exact ihl fe.2 o' hg
      exact this os h4.1.2 o' N1
theorem Dr.yQ(D:Dr P Eqs Sg F rid n ops b T H E){p:Nat}(q:Nat)(z8:p≤q)(hq:q≤ops.size)(hw:∀k,p≤k→k<q→¬yO E k)(id:Nat)(hn:∀k,p≤k→k<q→Yj E k→¬Of rid k id):H q id=H p id :=D.Ax q z8 hq id (fun k h1 h2 h3=>absurd h3 (hw k h1 h2)) hn
theorem Dr.names(D:Dr P Eqs Sg F rid n ops b T H E):∀(k:Nat),k≤ops.size→∀id,H k id≠none→id / 32768=rid+1→∃j,Of rid j id∧j<k∧j<128∧(Yj E j∨∃w,w<k∧yO E w∧(j=w∨rr b w j)):=by
 intro k
 induction k with
 |zero=>intro _ id h1 h2;exact absurd h2 (D.aez id h1)
 |succ k ih =>
  intro hk id h1 h2;have aF:k<ops.size:=by omega
  have up:H k id≠none→∃j,Of rid j id∧j<k+1∧j<128∧(Yj E j∨∃w,w<k+1∧yO E w∧(j=w∨rr b w j)):=fun h=>by obtain⟨j,h3,h4,h4',h5⟩:=ih (by omega) id h h2;exact⟨j,h3,by omega,h4',h5.imp (fun h=>h) fun⟨w,h6,h7⟩=>⟨w,by omega,h7⟩⟩
  have ho:=adl aF;have Pf:=D.size
  cases hE:E k with
  |none=>rw[(D.EF ho hE).2.2]at h1;exact up h1
  |some e =>
   obtain⟨s,hh,_,_,_,h4,_,_,h7⟩:=D.Tu ho hE;rw[h7]at h1
   cases e with
   |val v=>exact up h1
   |wr v h' =>
    obtain⟨o',mO⟩:=ade.1 h1;simp only[gu,Bool.and_eq_true]at h4;have h5:(b.getD k 0 ||| 2 ^ k).testBit (id / 256%128)=true:=(lH (S:=fun j=>(b.getD k 0 ||| 2 ^ k).testBit j=true) (fun j hj=>hj) h4.2 id o' mO).1 h2;rw[Nat.testBit_or,Bool.or_eq_true,Nat.testBit_two_pow]at h5;refine⟨id / 256%128,Of.of h2 rfl,?_,by omega,.inr ⟨k,by omega,⟨v,h',hE⟩,?_⟩⟩
    ·rcases h5 with h5|h5
     ·have:=Au D.N5 k _ aF h5;omega
     ·have:=of_decide_eq_true h5;omega
    ·rcases h5 with h5|h5
     ·exact .inr h5
     ·exact .inl (of_decide_eq_true h5).symm
   |new v os =>
    simp only[bE.hp]at h1
    cases N1:Heap.get os id with
    |none=>rw[N1]at h1;exact up h1
    |some o' =>
     simp only[gu,Bool.and_eq_true]at h4;have:∀(l:Heap),(l.all fun p=>p.1 / 256==(rid+1)*128+k)=true→∀o',l.get id=some o'→Of rid k id:=by
      intro l
      induction l with
      |nil=>intro _ o' h;simp[Heap.get]at h
      |cons a r ihl =>
       intro fe o' hg;simp only[List.all_cons,Bool.and_eq_true,beq_iff_eq]at fe;simp only[Heap.get]at hg
       split at hg
       ·rename_i e;rw[←e];exact fe.1
       ·exact ihl fe.2 o' hg
     exact⟨k,this os h4.1.2 o' N1,by omega,by omega,.inl ⟨v,os,hE⟩⟩
theorem Dr.WN(D:Dr P Eqs Sg F rid n ops b T H E){q:Nat}(oc:q<ops.size)(Tv:yO E q):∀id,H q id≠none→l6 rid (rr b q) id:=fun id bq Pg=>by
 obtain⟨j,h1,h2,h2',h3⟩:=D.names q (by omega) id bq Pg;rw[(h1.parts h2').2];rcases h3 with h3|⟨w',h5,h6,h8⟩
 ·rcases D.Aw oc Tv (D.we (by omega) h3) (by omega) with⟨_,h9⟩|⟨h9,_⟩
  ·exact h9
  ·omega
 ·have Zk:rr b q w':=by
   rcases D.Aw oc Tv (D.Pe (by omega) h6) (by omega) with⟨_,h9⟩|⟨h9,_⟩
   ·exact h9
   ·omega
  rcases h8 with rfl|h8
  ·exact Zk
  ·exact Dk D.N5 q w' j oc Zk h8
theorem Dr.wg(D:Dr P Eqs Sg F rid n ops b T H E){d p:Nat}:∀(q:Nat),p≤q→q≤ops.size→(∀m o,p≤m→m<q→ops[m]? = some o→o.dst≠some d)→T q d=T p d
 |0,h,_,_=>by rw[Nat.le_zero.1 h]
 |q+1,h,hq,hm=>by
  by_cases e:p=q+1
  ·rw[e]
  ·have ho:=adl (show q<ops.size by omega);have ih:=D.wg q (by omega) (by omega) fun m o h1 h2=>hm m o h1 (by omega);rw[←ih];have hd:=hm q _ (by omega) (by omega) ho;have key:∀v,iG (T q) (ops[q]).dst v d=T q d:=fun v=>by
    cases ku:(ops[q]).dst with
    |none=>rfl
    |some d' =>simp only[iG,dA];rw[if_neg];rintro rfl;exact hd ku
   rcases D.step q _ ho with⟨e,s,hh,_,_,_,_,_,_,h7,_⟩|⟨_,_,h3,_⟩
   ·rw[h7,key]
   ·rw[h3,key]
theorem Dr.steady(D:Dr P Eqs Sg F rid n ops b T H E){i k:Nat}{o:Oper}{x:Operand}(ho:ops[i]? = some o)(hl:gx o.op=some x)(hk:k<ops.size)(hw:yO E k)(bq:i≠k)(h1:¬rr b i k)(h2:¬rr b k i) {s:List (Nat×AV)} (hs:look s=T i) (MI:qY ops b i s o=false) {id:Nat} (bL:id∈pf (ρ s x)):H (k+1) id=H k id:=by
 have oc:=(acV.1 ho).1;obtain⟨v,h',hE⟩:=hw;have lu:=adl hk;obtain⟨sk,hh,Ph,Tw,⟨e0,UY,EE,rU⟩,h4,_,_,h7⟩:=D.Tu lu hE;simp only[gu,Bool.and_eq_true]at h4;have h5:I2 ops b k=true:=by simpa using h4.1.1
 have h6:=ado.1 h5 i (adw.2 oc);rw[ho,lu]at h6;have b1:(b.getD i 0).testBit k=false:=Bool.eq_false_iff.2 h1;have b2:(b.getD k 0).testBit i=false:=Bool.eq_false_iff.2 h2;have b3:(i==k)=false:=by simp[bq]
 simp only[b1,b2,b3,(wc hl).1,Bool.false_or,Bool.and_eq_true]at h6;obtain⟨CG,h8⟩:=h6;have KV:nm ops k i=true:=by
  simp only[Bool.or_eq_true,Bool.and_eq_true]at h8;rcases h8 with h8|⟨h8,_⟩
  ·exact h8
  unfold qY at MI;rw[hl]at MI;simp only[h8,Bool.true_and]at MI;have El:(pf (ρ s x)).isEmpty=false:=by cases hq:pf (ρ s x) with
   |nil=>rw[hq]at bL;cases bL
   |cons _ _=>rfl
  simp only[El,Bool.not_false,Bool.true_and,Bool.not_eq_false']at MI;have h9:=ado.1 MI k (adw.2 hk);rw[lu]at h9;have b4:(k==i)=false:=by simp[Ne.symm bq]
  simpa only[b1,b2,b4,CG,Bool.not_true,Bool.false_or] using h9
 have Zl:gy ops b k sk ops[k]=Wh ops b k sk:=by unfold gy;rw[if_pos CG]
 have mZ:ρ sk x=ρ s x:=by
  cases x with
  |tmp d =>
   simp only[ρ,Ph,hs];unfold nm at KV;rw[ho]at KV;simp only[Option.bind_some,hl]at KV;have hm:∀m o',min k i≤m→m<max k i→ops[m]? = some o'→o'.dst≠some d:=fun m o' g1 g2 g3 hd=>by have g4:=ado.1 KV m (adw.2 (by omega));rw[g3]at g4;simp[hd,g1,g2]at g4
   rcases adQ i k with g|g
   ·exact D.wg k (by omega) (by omega) fun m o' g1 g2=>hm m o' (by omega) (by omega)
   ·exact(D.wg i (by omega) (by omega) fun m o' g1 g2=>hm m o' (by omega) (by omega)).symm
  |_=>rfl
 have iU:id∈gy ops b k sk ops[k]:=by rw[Zl];unfold Wh;refine List.mem_flatMap.2 ⟨i,adw.2 oc,?_⟩;rw[b1,b2,b3,ho];simp only[Bool.or_self,Bool.false_eq_true,if_false,Option.bind_some,hl];rw[mZ];exact bL
 cases e0 with
 |val v0=>cases EE
 |new v0 os=>cases EE
 |wr v0 Su =>
  cases EE
  simp only[ln,Bool.and_eq_true]at rU;have hn:Su.get id=none:=by
   cases e:Su.get id with
   |none=>rfl
   |some ob=>exact absurd iU (j6 rU.2 id ob e).1
  rw[h7];show(eR _ hh Su).get id=H k id;rw[j4,if_pos iU,hn,Tw id]
  cases aeC:H k id with
  |none=>simp
  |some ob =>
   have h8:=D.WN hk ⟨_,_,hE⟩ id (by rw[aeC];simp);have h9:qa rid (b.getD k 0) id=true:=by
    unfold qa;by_cases hr:id / 32768=rid+1
    ·have:=h8 hr;unfold rr at this;rw[this];simp
    ·simp[hr]
   rw[if_pos h9]
end
end Go.Vs
namespace Go.Vs
variable {P:Program} {Eqs:TypeId→Option K} {Sg:FuncId→Option aL} {F:(f:FuncId)→(g:aL)→g.A→Option g.B} {R:Type}
variable {Z Z' Z0:Nat→Prop} {ψ ψ' ψ0:Nat→Value} {h h':Hp} {w w' w0:World} {B0:Nat} {O N:Nat→Prop}
variable {rid n:Nat} {ops:Array Oper} {b:Array Nat} {T:Nat→Nat→AV} {H:Nat→Hp} {E:Nat→Option bE}
structure Dj(rid:Nat)(ops:Array Oper)(b:Array Nat)(T:Nat→Nat→AV)(H:Nat→Hp)(E:Nat→Option bE)(S:Nat→Prop)(Tc:Nat→AV)(h:Hp):Prop where
 lt:∀i,S i→i<ops.size
 closed:∀i j,S i→rr b i j→S j
 heap:∃q,q≤ops.size∧(∀k,k<q→yO E k→S k)∧(q<ops.size→yO E q∧¬S q)∧∀id,(l6 rid S id→h id=H q id)∧(¬l6 rid S id→h id=none)
 Pj:∀j o d,S j→ops[j]? = some o→o.dst=some d→Tc d=T (j+1) d
 told:∀d,(∀j o,S j→ops[j]? = some o→o.dst≠some d)→Tc d=T 0 d
theorem Dr.Pk(D:Dr P Eqs Sg F rid n ops b T H E){k:Nat}{o:Oper}(ho:ops[k]? = some o){d:Nat}(hd:o.dst≠some d):T (k+1) d=T k d:=by
 have:∀v,iG (T k) o.dst v d=T k d:=fun v=>by
  cases ku:o.dst with
  |none=>rfl
  |some d' =>simp only[iG,dA];rw[if_neg];rintro rfl;exact hd ku
 rcases D.step k o ho with⟨e,s,hh,_,_,_,_,_,_,h7,_⟩|⟨_,_,h3,_⟩
 ·rw[h7,this]
 ·rw[h3,this]
theorem Dr.uB(D:Dr P Eqs Sg F rid n ops b T H E){d:Nat}:∀(i:Nat),i≤ops.size→(∀k o,k<i→ops[k]? = some o→o.dst≠some d)→T i d=T 0 d
 |0,_,_=>rfl
 |i+1,hi,hk=>by rw[D.Pk (Array.getElem?_eq_getElem (show i<ops.size by omega)) (hk i _ (by omega) (Array.getElem?_eq_getElem (by omega)))];exact D.uB i (by omega) fun k o h1 h2=>hk k o (by omega) h2
theorem Dr.EG(D:Dr P Eqs Sg F rid n ops b T H E){d j:Nat}{oj:Oper}(hj:ops[j]? = some oj)(hd:oj.dst=some d):∀(i:Nat),i≤ops.size→j<i→T i d=T (j+1) d
 |0,_,h=>by omega
 |i+1,hi,h=>by
  by_cases e:j=i
  ·rw[e]
  ·have ho:=adl (show i<ops.size by omega);rw[D.Pk ho (fun hdi=>e (D.yP hj ho hd hdi))];exact D.EG hj hd i (by omega) (by omega)
theorem Dr.looks(D:Dr P Eqs Sg F rid n ops b T H E){S:Nat→Prop}{Tc:Nat→AV}(dj:Dj rid ops b T H E S Tc h){i:Nat}{o:Oper}(ho:ops[i]? = some o)(hS:¬S i)(hb:∀j,rr b i j→S j){d:Nat}(hd:d∈o.looksAt ops):Tc d=T i d:=by
 have hi:=(acV.1 ho).1;by_cases hex:∃(j:Nat) (oj:Oper),ops[j]? = some oj∧oj.dst=some d
 ·obtain⟨j,oj,hj,Yk⟩:=hex;have cK:¬S j→Tc d=T 0 d:=fun hn=>dj.told d fun j' o' hs mO Pn=>hn (by rw[D.yP hj mO Yk Pn];exact hs);have N5:i≤j→T i d=T 0 d:=fun zZ=>D.uB i (by omega) fun k o' hk mO Pn=>by have:=D.yP hj mO Yk Pn;omega
  rcases Nat.lt_trichotomy j i with aF|rfl|IU
  ·rcases D.Va hj ho aF with h1|h1
   ·rw[dj.Pj j oj d (hb j h1) hj Yk,D.EG hj Yk i (by omega) aF]
   ·exact absurd hd ((Oper.apart_spec h1).1 d Yk)
  ·rw[cK hS,N5 (Nat.le_refl _)]
  ·rcases D.Va ho hj IU with h1|h1
   ·rw[cK (fun hs=>hS (dj.closed j i hs h1)),N5 (by omega)]
   ·exact absurd hd ((Oper.apart_spec h1).2.2 d Yk)
 ·rw[dj.told d fun j o' _ mO Pn=>hex ⟨j,o',mO,Pn⟩,D.uB i (by omega) fun k o' _ mO Pn=>hex ⟨k,o',mO,Pn⟩]
theorem Dr.Po{S:Nat→Prop}{Tc:Nat→AV}(D:Dr P Eqs Sg F rid n ops b T H E)(dj:Dj rid ops b T H E S Tc h){i:Nat}{o:Oper}(ho:ops[i]? = some o)(hS:¬S i){v:AV}(hv:T (i+1)=iG (T i) o.dst v) :
  (∀j o' d,(S j∨j=i)→ops[j]? = some o'→o'.dst=some d→iG Tc o.dst v d=T (j+1) d)∧(∀d,(∀j o',(S j∨j=i)→ops[j]? = some o'→o'.dst≠some d)→iG Tc o.dst v d=T 0 d):=by
 constructor
 ·intro j o' d hj mO hd;rcases hj with hj|rfl
  ·have bq:j≠i:=fun e=>hS (e▸hj);have:iG Tc o.dst v d=Tc d:=by
    cases ku:o.dst with
    |none=>rfl
    |some d' =>simp only[iG,dA];rw[if_neg];rintro rfl;exact bq (D.yP mO ho hd ku)
   rw[this];exact dj.Pj j o' d hj mO hd
  ·rw[ho]at mO;cases mO;rw[hv,hd];simp[iG,dA]
 ·intro d hd;have:iG Tc o.dst v d=Tc d:=by
   cases ku:o.dst with
   |none=>rfl
   |some d' =>simp only[iG,dA];rw[if_neg];rintro rfl;exact hd i o (.inr rfl) ho ku
  rw[this];exact dj.told d fun j o' hj=>hd j o' (.inl hj)
theorem uC{i k id:Nat}(h1:Of rid i id)(h2:Of rid k id):i=k:=by unfold Of at h1 h2;omega
section
variable {S:Nat→Prop} {Tc:Nat→AV}
theorem Dr.calm(D:Dr P Eqs Sg F rid n ops b T H E)(dj:Dj rid ops b T H E S Tc h){i q:Nat}(hi:Nf ops i)(hS:¬S i)(hq:q≤ops.size)(hw:∀k,k<q→yO E k→S k):∀k,i≤k→k<q→¬yO E k:=by
 intro k Zm hkq hk;have Ph:=hw k hkq hk;have bq:i≠k:=fun e=>hS (e▸Ph);rcases D.Aw (by omega) hk hi bq with⟨_,h1⟩|⟨h1,_⟩
 ·exact hS (dj.closed k i Ph h1)
 ·omega
theorem Dr.seen(D:Dr P Eqs Sg F rid n ops b T H E)(dj:Dj rid ops b T H E S Tc h){i:Nat}(hi:Nf ops i)(hS:¬S i)(hb:∀j,rr b i j→S j){hh:Heap}(Tw:∀id,Heap.get hh id=if qa rid (b.getD i 0) id then H i id else none) :
  ∀id o,hh.get id=some o→h id=some o:=by
 obtain⟨q,hq,hw,iw,fg⟩:=dj.heap;have oc:i<ops.size:=by obtain⟨o,ho,hf1,hf2⟩:=hi;exact(acV.1 ho).1
 have Zn:i≤q:=by
  rcases adQ q i with h1|h1
  ·obtain⟨h2,h3⟩:=iw (by omega);rcases D.Aw (by omega) h2 hi (by omega) with⟨h4,_⟩|⟨_,h4⟩
   ·omega
   ·exact absurd (hb q h4) h3
  ·exact h1
 intro id o bL;rw[Tw]at bL
 split at bL
 ·rename_i lu;have pN:l6 rid S id:=nC hb lu;rw[(fg id).1 pN,D.yQ q Zn hq (D.calm dj hi hS hq hw) id fun k hk _ _ ho=>?_,bL];have Pg:=(ho.parts (by have:=D.size;omega)).1;obtain⟨j,h1,h2,_⟩:=D.names i (by omega) id (by rw[bL];simp) Pg;have:=uC h1 ho;omega
 ·cases bL
theorem Dr.MJ(D:Dr P Eqs Sg F rid n ops b T H E)(dj:Dj rid ops b T H E S Tc h){i:Nat}{o:Oper}{x:Operand}(ho:ops[i]? = some o)(hl:gx o.op=some x)(hS:¬S i)(hb:∀j,rr b i j→S j){s:List (Nat×AV)}(hs:look s=T i)(MI:qY ops b i s o=false) {hh:Heap} (Tw:∀id,Heap.get hh id=if qa rid (b.getD i 0) id then H i id else none):∀id∈pf (ρ s x),∀ob,hh.get id=some ob→h id=some ob:=by
 obtain⟨q,hq,hw,iw,fg⟩:=dj.heap;have oc:=(acV.1 ho).1;have Pf:=D.size;intro id bL ob mb;rw[Tw]at mb
 split at mb
 ·rename_i lu;have pN:l6 rid S id:=nC hb lu;rw[(fg id).1 pN,←mb];rcases adQ q i with hqi|Zn
  ·obtain⟨h2,h3⟩:=iw (by omega);have later:∀k,q<k→k<ops.size→Nf ops k→rr b k q:=fun k h4 h5 h6=>by
    rcases D.Aw (by omega) h2 h6 (by omega) with⟨h7,_⟩|⟨_,h7⟩
    ·omega
    ·exact h7
   have Zo:∀k,q≤k→k<i→Nf ops k→¬S k:=fun k h4 h5 h6 hk=>by
    rcases Nat.eq_or_lt_of_le h4 with e|h7
    ·exact h3 (e▸hk)
    ·exact h3 (dj.closed k q hk (later k h7 (by omega) h6))
   symm
   refine D.Ax i (by omega) (by omega) id (fun k h4 h5 h6=>?_) (fun k h4 h5 h6 h7=>?_)
   ·have hns:=Zo k h4 h5 (D.Pe (by omega) h6);exact D.steady ho hl (by omega) h6 (by omega) (fun JC=>hns (hb k JC)) (fun JC=>by have:=Au D.N5 k i (by omega) JC;omega) hs MI bL
   ·have hns:=Zo k h4 h5 (D.we (by omega) h6);have h8:=h7.parts (show k<128 by omega);have h9:=pN h8.1;rw[h8.2]at h9;exact hns h9
  ·refine D.Ax q Zn hq id (fun k h4 h5 h6=>?_) (fun k h4 h5 h6 h7=>?_)
   ·have Ph:=hw k h5 h6;have bq:i≠k:=fun e=>hS (e▸Ph);exact D.steady ho hl (by omega) h6 bq (fun JC=>by have:=Au D.N5 i k oc JC;omega) (fun JC=>hS (dj.closed k i Ph JC)) hs MI bL
   ·obtain⟨j,h8,h9,_⟩:=D.names i (by omega) id (by rw[mb];simp) (h7.parts (by omega)).1;have:=uC h8 h7;omega
 ·cases mb
theorem Pp(E:Nat→Option bE)(S:Nat→Prop)(m:Nat):∃q,q≤m∧(∀k,k<q→yO E k→S k)∧(q<m→yO E q∧¬S q):=by
 classical
 induction m with
 |zero=>exact⟨0,adg _,fun k hk=>by omega,fun h=>by omega⟩
 |succ m ih =>
  obtain⟨q,h1,h2,h3⟩:=ih;by_cases hq:q<m
  ·exact⟨q,by omega,h2,fun _=>h3 hq⟩
  ·have:q=m:=by omega
   subst this;by_cases hm:yO E q∧¬S q
   ·exact⟨q,by omega,h2,fun _=>hm⟩
   ·refine⟨q+1,by omega,fun k hk hw=>?_,fun h=>by omega⟩;rcases adQ k q with h4|h4
    ·exact h2 k h4 hw
    ·have:k=q:=by omega
     subst this;exact Classical.not_not.1 fun hn=>hm ⟨hw,hn⟩
theorem Ay{i id:Nat}(hi:i<128):l6 rid (fun k=>S k∨k=i) id↔l6 rid S id∨Of rid i id:=by
 constructor
 ·intro h1;by_cases hr:id / 32768=rid+1
  ·rcases h1 hr with h2|h2
   ·exact .inl fun _=>h2
   ·exact .inr (Of.of hr h2)
  ·exact .inl fun h=>absurd h hr
 ·rintro(h1|h1) h2
  ·exact .inl (h1 h2)
  ·exact .inr (h1.parts hi).2
theorem Dr.GA(D:Dr P Eqs Sg F rid n ops b T H E)(dj:Dj rid ops b T H E S Tc h){i:Nat}(oc:i<ops.size)(hS:¬S i)(hnn:¬Yj E i)(Zp:¬yO E i) :
  ∃q,q≤ops.size∧(∀k,k<q→yO E k→S k∨k=i)∧(q<ops.size→yO E q∧¬(S q∨q=i))∧∀id,(l6 rid (fun k=>S k∨k=i) id→h id=H q id)∧(¬l6 rid (fun k=>S k∨k=i) id→h id=none):=by
 obtain⟨q,hq,hw,iw,fg⟩:=dj.heap;have Pf:=D.size;refine⟨q,hq,fun k h1 h2=>.inl (hw k h1 h2),fun h1=>⟨(iw h1).1,fun h2=>h2.elim (iw h1).2 fun e=>Zp (e▸(iw h1).1)⟩,fun id=>⟨fun h1=>?_,fun h1=>(fg id).2 fun h2=>h1 ((Ay (by omega)).2 (.inl h2))⟩⟩;rcases (Ay (S:=S) (i:=i) (rid:=rid) (by omega)).1 h1 with h2|h2
 ·exact(fg id).1 h2
 ·have hn:¬l6 rid S id:=fun h3=>h3.Ap (by omega) hS h2;rw[(fg id).2 hn]
  symm
  apply Classical.not_not.1;intro bq;obtain⟨j,h3,_,_,h4⟩:=D.names q hq id bq (h2.parts (by omega)).1;have:=uC h3 h2;subst this;rcases h4 with h4|⟨w',h5,h6,h7|h7⟩
  ·exact hnn h4
  ·exact Zp (h7▸h6)
  ·exact hS (dj.closed w' _ (hw w' h5 h6) h7)
theorem Tx{os:Heap}{i:Nat}(fe:(os.all fun p=>p.1 / 256==(rid+1)*128+i)=true):∀id o,os.get id=some o→Of rid i id:=by
 induction os with
 |nil=>intro id o h;simp[Heap.get]at h
 |cons a r ih =>
  intro id o hg;simp only[List.all_cons,Bool.and_eq_true,beq_iff_eq]at fe;simp only[Heap.get]at hg
  split at hg
  ·rename_i e;rw[←e];exact fe.1
  ·exact ih fe.2 id o hg
theorem Dr.Pq(D:Dr P Eqs Sg F rid n ops b T H E)(dj:Dj rid ops b T H E S Tc h){i:Nat}{o:Oper}(ho:ops[i]? = some o)(hS:¬S i)(hb:∀j,rr b i j→S j){v:AV}{os:Heap}(hE:E i=some (.new v os)) :
  ∃q,q≤ops.size∧(∀k,k<q→yO E k→S k∨k=i)∧(q<ops.size→yO E q∧¬(S q∨q=i))∧∀id,(l6 rid (fun k=>S k∨k=i) id→(bE.new v os).hp h id=H q id)∧(¬l6 rid (fun k=>S k∨k=i) id→(bE.new v os).hp h id=none):=by
 obtain⟨q,hq,hw,iw,fg⟩:=dj.heap;have Pf:=D.size;have oc:=(acV.1 ho).1;have Zp:¬yO E i:=fun⟨v',h',h1⟩=>by rw[hE]at h1;cases h1
 have Yl:=D.we oc ⟨v,os,hE⟩;obtain⟨s,hh,_,_,_,h4,_,_,h7⟩:=D.Tu ho hE;simp only[gu,Bool.and_eq_true]at h4;have sZ:=Tx (rid:=rid) h4.1.2;have Zn:i<q:=by
  rcases adQ i q with h1|h1
  ·exact h1
  ·obtain⟨h2,h3⟩:=iw (by omega);have bq:i≠q:=fun e=>Zp (e▸h2);rcases D.Aw (by omega) h2 Yl bq with⟨h4,_⟩|⟨_,h4⟩
   ·omega
   ·exact absurd (hb q h4) h3
 refine⟨q,hq,fun k h1 h2=>.inl (hw k h1 h2),fun h1=>⟨(iw h1).1,fun h2=>h2.elim (iw h1).2 fun e=>Zp (e▸(iw h1).1)⟩,fun id=>⟨fun h1=>?_,fun h1=>?_⟩⟩
 ·simp only[bE.hp];by_cases h2:Of rid i id
  ·have hn:¬l6 rid S id:=fun h3=>h3.Ap (by omega) hS h2;have e1:H i id=none:=Classical.not_not.1 fun bq=>by obtain⟨j,h3,h4,_⟩:=D.names i (by omega) id bq (h2.parts (by omega)).1;have:=uC h3 h2;omega
   have e2:H (i+1) id=Heap.get os id:=by rw[h7];simp only[bE.hp];rw[e1];cases Heap.get os id<;>rfl
   have e3:H q id=H (i+1) id:=D.yQ q Zn hq (fun k h3 h4=>D.calm dj Yl hS hq hw k (by omega) h4) id fun k h3 _ _ h5=>by have:=uC h5 h2;omega
   rw[e3,e2,(fg id).2 hn];cases Heap.get os id<;>rfl
  ·have h3:l6 rid S id:=((Ay (by omega)).1 h1).resolve_right h2
   cases N1:Heap.get os id with
   |some o'=>exact absurd (sZ id o' N1) h2
   |none=>exact(fg id).1 h3
 ·have h2:¬l6 rid S id:=fun h2=>h1 ((Ay (by omega)).2 (.inl h2));have h3:¬Of rid i id:=fun h2=>h1 ((Ay (by omega)).2 (.inr h2));simp only[bE.hp]
  cases N1:Heap.get os id with
  |some o'=>exact absurd (sZ id o' N1) h3
  |none=>exact(fg id).2 h2
theorem Dr.Ty(D:Dr P Eqs Sg F rid n ops b T H E)(dj:Dj rid ops b T H E S Tc h){i:Nat}{o:Oper}(ho:ops[i]? = some o)(hS:¬S i)(hb:∀j,rr b i j→S j){v:AV}{h':Heap}(hE:E i=some (.wr v h')) :
  (∀hh:Heap,(∀id,hh.get id=if qa rid (b.getD i 0) id then H i id else none)→hh.get=h) ∧
  ∃q,q≤ops.size∧(∀k,k<q→yO E k→S k∨k=i)∧(q<ops.size→yO E q∧¬(S q∨q=i))∧∀id,(l6 rid (fun k=>S k∨k=i) id→h'.get id=H q id)∧(¬l6 rid (fun k=>S k∨k=i) id→h'.get id=none):=by
 obtain⟨q,hq,hw,iw,fg⟩:=dj.heap;have Pf:=D.size;have oc:=(acV.1 ho).1;have Tv:yO E i:=⟨v,h',hE⟩;have Yl:=D.Pe oc Tv;obtain⟨s,hh0,_,_,_,h4,_,_,h7⟩:=D.Tu ho hE;simp only[gu,Bool.and_eq_true]at h4;have hqi:q=i:=by
  rcases Nat.lt_trichotomy q i with h1|h1|h1
  ·obtain⟨h2,h3⟩:=iw (by omega);rcases D.Aw oc Tv (D.Pe (by omega) h2) (by omega) with⟨_,h5⟩|⟨h5,_⟩
   ·exact absurd (hb q h5) h3
   ·omega
  ·exact h1
  ·exact absurd (hw i h1 Tv) hS
 subst hqi;have own:∀id,H q id≠none→l6 rid (rr b q) id:=fun id bq Pg=>by
  obtain⟨j,h1,h2,h2',h3⟩:=D.names q hq id bq Pg;rw[(h1.parts h2').2];rcases h3 with h3|⟨w',h5,h6,h8⟩
  ·rcases D.Aw oc Tv (D.we (by omega) h3) (by omega) with⟨_,h9⟩|⟨h9,_⟩
   ·exact h9
   ·omega
  ·have Zk:rr b q w':=by
    rcases D.Aw oc Tv (D.Pe (by omega) h6) (by omega) with⟨_,h9⟩|⟨h9,_⟩
    ·exact h9
    ·omega
   rcases h8 with rfl|h8
   ·exact Zk
   ·exact Dk D.N5 q w' j oc Zk h8
 refine⟨fun hh Tw=>?_,?_⟩
 ·funext id;rw[Tw id]
  cases bL:H q id with
  |none =>
   have:h id=none:=by
    by_cases h1:l6 rid S id
    ·rw[(fg id).1 h1,bL]
    ·exact(fg id).2 h1
   rw[this];split<;>rfl
  |some ob =>
   have h1:=own id (by rw[bL];simp);have h2:l6 rid S id:=fun hr=>hb _ (h1 hr);have h3:qa rid (b.getD q 0) id=true:=by
    unfold qa;by_cases hr:id / 32768=rid+1
    ·have:=h1 hr;unfold rr at this;rw[this];simp
    ·simp[hr]
   rw[h3,(fg id).1 h2,bL];rfl
 ·obtain⟨q',h1,h2,h3⟩:=Pp E (fun k=>S k∨k=q) ops.size;have U5:q+1≤q':=by
   rcases adQ q q' with h5|h5
   ·exact h5
   ·obtain⟨h6,h8⟩:=h3 (by omega);rcases adQ q' q with h9|h9
    ·exact absurd (.inl (hw q' h9 h6)) h8
    ·exact absurd (.inr (by omega)) h8
  have e1:H (q+1)=h'.get:=by rw[h7];rfl
  have Cx:∀j,(b.getD q 0 ||| 2 ^ q).testBit j=true→S j∨j=q:=fun j hj=>by rw[Nat.testBit_or,Bool.or_eq_true,Nat.testBit_two_pow]at hj;exact hj.imp (hb j) (fun h=>(of_decide_eq_true h).symm)
  refine⟨q',h1,h2,h3,fun id=>⟨fun h5=>?_,fun h5=>?_⟩⟩
  ·rw[D.yQ q' U5 h1 (fun k h6 h8 h9=>?_) id (fun k h6 h8 h9 mL=>?_),e1]
   ·have hk:=h2 k h8 h9;have Ph:S k:=hk.resolve_right (by omega);rcases D.Aw (by omega) h9 Yl (by omega) with⟨_,yi⟩|⟨yi,_⟩
    ·exact hS (dj.closed k q Ph yi)
    ·omega
   ·have hk:=h5 (mL.parts (by omega)).1;rw[(mL.parts (by omega)).2]at hk;have Ph:S k:=hk.resolve_right (by omega);rcases D.Aw oc Tv (D.we (by omega) h9) (by omega) with⟨yi,_⟩|⟨_,yi⟩
    ·omega
    ·exact hS (dj.closed k q Ph yi)
  ·cases bL:h'.get id with
   |none=>rfl
   |some ob=>exact absurd ((lH Cx h4.2 id ob bL).1) h5
end
section
variable {S:Nat→Prop} {Tc:Nat→AV}
theorem CH{o:Oper}{d:Nat}(h:Operand.tmp d∈o.op.operands):d∈o.looksAt ops :=acr _ (ad7.2 ⟨.tmp d,by simpa using h,rfl⟩)
theorem GB{o:Oper}{j d:Nat}{want:Bool}(hg:o.guard=some (j,want))(hd:(ops[j]?).bind (·.dst)=some d):d∈o.looksAt ops:=by unfold Oper.looksAt;rw[hg];exact acW _ (by simp only[hd];simp)
theorem Dr.wanted(D:Dr P Eqs Sg F rid n ops b T H E)(dj:Dj rid ops b T H E S Tc h){a:Act}{i:Nat}{o:Oper}(ho:ops[i]? = some o)(hS:¬S i)(hb:∀j,rr b i j→S j)(t:cH Z ψ h w n Tc a){c:Bool}(hw:po ops (T i) o c) :
  Region.wanted o (yielded ops a.tmps)=c:=by
 unfold po at hw
 split at hw
 ·rename_i hg;rw[hw];simp[Region.wanted,hg]
 ·rename_i j want hg;obtain⟨d,hd,hc⟩:=hw;have e:=D.looks dj ho hS hb (GB hg hd);rcases hc with⟨u,h1,h2⟩|⟨vs,h1,h2⟩
  ·rw[Aq t hg hd (e.trans h1),h2]
  ·rw[xH t hg hd (e.trans h1),h2]
theorem Dr.JD(D:Dr P Eqs Sg F rid n ops b T H E)(V:Env P Eqs Sg F){i:Nat}{o:Oper}{a:Act}(ho:ops[i]? = some o)(hS:¬S i)(hb:∀j,rr b i j→S j)(dj:Dj rid ops b T H E S Tc h)(j:J (l6 rid S) n Z0 w0 O ψ0 Z ψ Tc h a w) {K:Act→World→Prop} {Q:Exit→Act→World→Prop} (hk:∀Tc' h' a' w' Z' ψ',Dj rid ops b T H E (fun k=>S k∨k=i) Tc' h'→J (l6 rid fun k=>S k∨k=i) n Z0 w0 O ψ0 Z' ψ' Tc' h' a' w'→K a' w'):wpOp P ops Q i K a w:=by
 have oc:=(acV.1 ho).1;have Pf:=D.size;have SC:=D.aey i o ho;have aF:∀k,(S k∨k=i)→k<ops.size:=fun k hk=>hk.elim (dj.lt k) (fun e=>e▸oc);have Ja:∀k j,(S k∨k=i)→rr b k j→S j∨j=i:=fun k j hk hj=>.inl (hk.elim (fun h=>dj.closed k j h hj) (fun e=>hb j (e▸hj)));unfold wpOp;rw[ho];simp only[]
 cases hE:E i with
 |none =>obtain⟨h1,h2,h3⟩:=D.EF ho hE;rw[D.wanted dj ho hS hb j.tr h1];simp only[Bool.false_eq_true,if_false];obtain⟨t1,t2⟩:=D.Po dj ho hS h2;refine hk _ h _ w Z ψ ⟨aF,Ja,D.GA dj oc hS (fun⟨v,os,h⟩=>by rw[hE]at h;cases h) (fun⟨v,os,h⟩=>by rw[hE]at h;cases h),t1,t2⟩ (j.skip SC fun id hp hr=>.inl (hp hr))
 |some e =>
  obtain⟨s,hh,h1,h2,h3,h4,h5,h6,h7⟩:=D.Tu ho hE;rw[D.wanted dj ho hS hb j.tr h5];simp only[if_true];refine .inl ?_;obtain⟨t1,t2⟩:=D.Po dj ho hS h6;have hT:∀x∈o.op.operands,av Z ψ h w (ρ s x) (a.eval x)∧aE (l6 rid S) (ρ s x):=fun x hx=>by
   cases x with
   |tmp d =>
    have e1:look s d=Tc d:=by rw[h1];exact(D.looks dj ho hS hb (CH hx)).symm
    simp only[ρ,e1];exact⟨j.tr.rep d,j.tm d⟩
   |const v=>exact⟨F5 v,Ao _ v⟩
   |global g=>exact⟨by simp only[ρ,av],by simp only[ρ,aE]⟩
   |func f=>exact⟨by simp only[ρ,av,ak,Act.eval];exact⟨#[],rfl,rfl⟩,by simp only[ρ,aE,ax]⟩
  have nE:=As (hh:=[]) j.hm (fun k hk=>hb k hk) h4;obtain⟨e0,h3,EE,rU⟩:=h3
  cases e0 with
  |wr v0 Su =>simp only[gD]at EE;subst EE;have me:=D.Ty dj ho hS hb hE;have Tw:=me.1 hh h2;subst Tw;refine J.opF V (rid:=rid) (i:=i) (fun _ id hp=>hp.Ap (by omega) hS) j SC (fun x hx=>(hT x hx).1) (fun x hx=>(hT x hx).2) h3 rU (p':=l6 rid fun k=>S k∨k=i) (fun id hp hr=>.inl (hp hr)) nE.1 nE.2 fun a' w' Z' ψ' j' => ?_;exact hk _ _ a' w' Z' ψ' ⟨aF,Ja,me.2,t1,t2⟩ j'
  |val v0 =>
   simp only[gD]at EE;subst EE;have aeE:∃WI:Heap,(∀id o,WI.get id=some o→h id=some o)∧cM P Eqs Sg F (opId rid i) WI s o some=some (.val v0):=by
    cases hf:mI o.op with
    |true=>exact⟨[],fun id o h=>by simp[Heap.get]at h,by rw[MD hf (h':=gH hh (gy ops b i s o))];exact h3⟩
    |false =>
     cases N3:gx o.op with
     |some x =>
      have MI:qY ops b i s o=false:=by
       cases hq:qY ops b i s o with
       |false=>rfl
       |true=>unfold gy at rU;rw[(wc N3).2,hq]at rU;simp[ln]at rU
      have Zl:gy ops b i s o=[]:=by unfold gy;rw[(wc N3).2,MI];rfl
      rw[Zl]at h3;have h3':cM P Eqs Sg F (opId rid i) hh s o some=some (.val v0):=h3;have mM:∀id,(eR (pf (ρ s x)) hh []).get id=if id∈pf (ρ s x) then hh.get id else none:=fun id=>by
       rw[j4]
       split
       ·cases hh.get id<;>rfl
       ·rfl
      refine⟨eR (pf (ρ s x)) hh [],fun id ob bL=>?_,?_⟩
      ·rw[mM]at bL
       split at bL
       ·rename_i hm;exact D.MJ dj ho N3 hS hb h1 MI h2 id hm ob bL
       ·cases bL
      ·rw[JB N3 (hh:=hh) (fun id hm=>by rw[mM,if_pos hm])];exact h3'
     |none=>exact⟨_,fun id ob bL=>D.seen dj ⟨o,ho,hf,N3⟩ hS hb h2 id ob (by rw[nw]at bL;split at bL;cases bL;exact bL),h3⟩
   obtain⟨WI,IV,JE⟩:=aeE;refine J.op V (rid:=rid) (i:=i) (fun _ id hp=>hp.Ap (by omega) hS) j SC (fun x hx=>(hT x hx).1) (fun x hx=>(hT x hx).2) IV JE (fun v hw he=>by cases he) (p':=l6 rid fun k=>S k∨k=i) (fun id hp hr=>.inl (hp hr)) nE.1 nE.2 fun a' w' Z' ψ' j' => ?_;exact hk _ _ a' w' Z' ψ' ⟨aF,Ja,D.GA dj oc hS (fun⟨v,os,h⟩=>by rw[hE]at h;cases h) (fun⟨v,os,h⟩=>by rw[hE]at h;cases h),t1,t2⟩ j'
  |new v0 os =>simp only[gD]at EE;subst EE;have Yl:=D.we oc ⟨v0,os,hE⟩;have IV:∀id ob,(gH hh (gy ops b i s o)).get id=some ob→h id=some ob:=fun id ob bL=>D.seen dj Yl hS hb h2 id ob (by rw[nw]at bL;split at bL;cases bL;exact bL);refine J.op V (rid:=rid) (i:=i) (fun _ id hp=>hp.Ap (by omega) hS) j SC (fun x hx=>(hT x hx).1) (fun x hx=>(hT x hx).2) IV h3 (fun v hw he=>by cases he) (p':=l6 rid fun k=>S k∨k=i) (fun id hp hr=>.inl (hp hr)) nE.1 nE.2 fun a' w' Z' ψ' j' => ?_;exact hk _ _ a' w' Z' ψ' ⟨aF,Ja,D.Pq dj ho hS hb hE,t1,t2⟩ j'
theorem Dr.done(D:Dr P Eqs Sg F rid n ops b T H E)(dj:Dj rid ops b T H E S Tc h)(fe:∀k,k<ops.size→S k):Tc=T ops.size∧h=H ops.size:=by
 constructor
 ·funext d;by_cases hex:∃(j:Nat) (oj:Oper),ops[j]? = some oj∧oj.dst=some d
  ·obtain⟨j,oj,hj,hd⟩:=hex;have IN:=(acV.1 hj).1;rw[dj.Pj j oj d (fe j IN) hj hd,D.EG hj hd ops.size (Nat.le_refl _) IN]
  ·rw[dj.told d fun j o' _ mO Pn=>hex ⟨j,o',mO,Pn⟩,D.uB ops.size (Nat.le_refl _) fun k o' _ mO Pn=>hex ⟨k,o',mO,Pn⟩]
 ·obtain⟨q,hq,_,iw,fg⟩:=dj.heap;have:q=ops.size:=by
   rcases adQ q ops.size with h1|h1
   ·exact absurd (fe q h1) (iw h1).2
   ·omega
  subst this;funext id;by_cases pN:l6 rid S id
  ·exact(fg id).1 pN
  ·rw[(fg id).2 pN]
   symm
   apply Classical.not_not.1;intro bq;apply pN;intro hr;obtain⟨j,h1,h2,h3,_⟩:=D.names ops.size (adg _) id bq hr;rw[(h1.parts h3).2];exact fe j h2
def lJ(m:Nat)(ck:Array Bool):Nat:=((List.range m).filter fun i => !ck.getD i false).length
theorem EH{m:Nat}{ck:Array Bool}{i:Nat}(hi:i<m)(hs:i<ck.size)(hn:ck.getD i false=false):lJ m ck=lJ m (ck.setIfInBounds i true)+1:=by
 unfold lJ;have key:∀(l:List Nat),l.Nodup→i∈l→(l.filter fun k => !ck.getD k false).length=(l.filter fun k => !(ck.setIfInBounds i true).getD k false).length+1:=by
  intro l
  induction l with
  |nil=>intro _ h;cases h
  |cons a r ih =>
   intro FI hm;rw[List.nodup_cons]at FI;rcases acn.1 hm with rfl|hm
   ·have h2:(r.filter fun k => !ck.getD k false)=(r.filter fun k => !(ck.setIfInBounds i true).getD k false):=by apply List.filter_congr;intro k hk;have bq:i≠k:=fun e=>FI.1 (e▸hk);rw[getD_set_ne false bq]
    rw[List.filter_cons,List.filter_cons,hn];have h3:(ck.setIfInBounds i true).getD i false=true:=by simp[hs]
    rw[h3,h2];simp
   ·have bq:i≠a:=fun e=>FI.1 (e▸hm);rw[List.filter_cons,List.filter_cons,getD_set_ne false bq]
    split
    ·simp only[List.length_cons];rw[ih FI.2 hm]
    ·exact ih FI.2 hm
 exact key _ List.nodup_range (adw.2 hi)
theorem Dr.any(D:Dr P Eqs Sg F rid n ops b T H E)(V:Env P Eqs Sg F){Q:Exit→Act→World→Prop}(hQ:∀Z ψ a w,J (l6 rid fun k=>k<ops.size) n Z0 w0 O ψ0 Z ψ (T ops.size) (H ops.size) a w→Q .normal a w) :
  ∀(fuel:Nat) (ck:Array Bool) (Tc:Nat→AV) (h:Hp) (a:Act) (w:World) (Z:Nat→Prop) (ψ:Nat→Value),ck.size=ops.size→lJ ops.size ck=fuel → Dj rid ops b T H E (fun k=>ck.getD k false=true) Tc h→J (l6 rid fun k=>ck.getD k false=true) n Z0 w0 O ψ0 Z ψ Tc h a w→wpAny P .any ops Q fuel ck a w
 |0,ck,Tc,h,a,w,Z,ψ,hs,hu,dj,j=>by
  have fe:∀k,k<ops.size→ck.getD k false=true:=fun k hk=>by unfold lJ at hu;have:=List.filter_eq_nil_iff.1 (adh hu) k (adw.2 hk);simpa using this
  refine⟨?_,?_⟩
  ·apply List.eq_nil_iff_forall_not_mem.2;intro i hi;obtain⟨h1,o,h2,_⟩:=mem_ready.1 hi;have h3:=(acV.1 h2).1;have h4:=fe i h3;rw[Array.getD_eq_getD_getElem?,Array.getElem?_eq_getElem (by omega)]at h1 h4;simp at h1 h4;rw[h1]at h4;cases h4
  ·obtain⟨e1,e2⟩:=D.done dj fe;subst e1;subst e2;refine hQ Z ψ a w ⟨j.ok,j.tr,fun d=>(j.tm d).imp fun id h1 h2=>dj.lt _ (h1 h2),fun id ty cs hb=>(j.hm id ty cs hb).imp fun id h1 h2=>dj.lt _ (h1 h2)⟩
 |fuel+1,ck,Tc,h,a,w,Z,ψ,hs,hu,dj,j=>by
  have look:∀i,i<ops.size→ck.getD i true=ck.getD i false:=fun i hi=>by rw[Array.getD_eq_getD_getElem?,Array.getD_eq_getD_getElem?,Array.getElem?_eq_getElem (by omega)];rfl
  refine⟨fun hr=>?_,fun i hi=>?_⟩
  ·exfalso;have hex:∃i,i<ops.size∧ck.getD i false=false:=by
    apply Classical.byContradiction;intro hn;unfold lJ at hu;rw[List.filter_eq_nil_iff.2]at hu
    ·simp at hu
    ·intro k hk;have:=fun h=>hn ⟨k,adw.1 hk,h⟩
     cases hl:ck.getD k false with
     |true=>simp
     |false=>exact absurd hl this
   have key:∀i,i<ops.size→ck.getD i false=false→False:=by
    intro i
    induction i using Nat.strongRecOn with
    |ind i ih =>
     intro hi hl;have iU:i∈Region.ready .any ops ck:=by
      refine mem_ready.2 ⟨by rw[look i hi];exact hl,_,adl hi,fun e he Mt=>?_⟩;have WM:=JA D.N5 (adl hi) (by simpa using he) Mt
      cases hle:ck.getD e.on false with
      |true=>rfl
      |false=>exact(ih e.on WM (by omega) hle).elim
     rw[hr]at iU;cases iU
   obtain⟨i,h1,h2⟩:=hex;exact key i h1 h2
  ·obtain⟨h1,o,ho,fe⟩:=mem_ready.1 hi;have oc:=(acV.1 ho).1;have hn:ck.getD i false=false:=by rw[←look i oc];exact h1
   have hS:¬(ck.getD i false=true):=by rw[hn];simp
   have hb:∀k,rr b i k→ck.getD k false=true:=fun k hk=>by
    obtain⟨e,he,Mt,h2⟩:=(yN D.N5 ho).1 hk;have h3:=fe e (by simpa using he) Mt;rcases h2 with rfl|h2
    ·exact h3
    ·exact dj.closed e.on k h3 h2
   refine D.JD V ho hS hb dj j fun Tc' h' a' w' Z' ψ' dj' j' => ?_;have heq:(fun k=>ck.getD k false=true∨k=i)=(fun k=>(ck.setIfInBounds i true).getD k false=true):=by
    funext k;apply propext;by_cases e:i=k
    ·subst e;simp[show i<ck.size by omega]
    ·rw[getD_set_ne false e];constructor
     ·rintro(h|h)
      ·exact h
      ·exact absurd h.symm e
     ·exact .inl
   rw[heq]at dj' j';exact D.any V hQ fuel _ Tc' h' a' w' Z' ψ' (by simpa using hs) (by have:=EH oc (by omega) hn;omega) dj' j'
end
end Go.Vs
namespace Go.Vs
variable {P:Program} {Eqs:TypeId→Option K} {Sg:FuncId→Option aL} {F:(f:FuncId)→(g:aL)→g.A→Option g.B} {R:Type}
variable {Z Z' Z0:Nat→Prop} {ψ ψ' ψ0:Nat→Value} {h h':Hp} {w w' w0:World} {B0:Nat} {O N:Nat→Prop}
theorem Az(f:AV→AV)(hf:f .no=.no):∀(l:List (Nat×AV)) (d:Nat),look (l.map fun p=>(p.1,f p.2)) d=f (look l d)
 |[],d=>by simp[look,hf]
 |(i,v)::r,d=>by
  simp only[List.map_cons,look]
  split
  ·rfl
  ·exact Az f hf r d
section
variable {rid:Nat}
mutual
theorem wh:∀{a:AV} {v:Value},av Z ψ h w a v→av Z ψ h w (bB rid a) v
 |.ref id s i off,v,hr=>by
  simp only[bB]
  split
  ·simp only[av]
  ·exact hr
 |.bF id,v,hr=>by
  simp only[bB]
  split
  ·simp only[av]
  ·exact hr
 |.fn f cap,v,hr=>by simp only[bB,av]at hr ⊢;obtain⟨vs,e,hl⟩:=hr;exact⟨vs,e,lK hl⟩
 |.agg cs,v,hr=>by simp only[bB,av]at hr ⊢;obtain⟨vs,e,hl⟩:=hr;exact⟨vs,e,lK hl⟩
 |.mG cs,v,hr=>by simp only[bB,av]at hr ⊢;obtain⟨vs,e,hl⟩:=hr;exact⟨vs,e,lK hl⟩
 |.no,v,hr=>by simpa only[bB] using hr
 |.bool _,v,hr=>by simpa only[bB] using hr
 |.int _ _,v,hr=>by simpa only[bB] using hr
 |.str _,v,hr=>by simpa only[bB] using hr
 |.kI,v,hr=>by simpa only[bB] using hr
 |.fK,v,hr=>by simpa only[bB] using hr
 |.fp _ _ _,v,hr=>by simpa only[bB] using hr
 |.sl _ _ _,v,hr=>by simpa only[bB] using hr
 |.mp _ _ _,v,hr=>by simpa only[bB] using hr
theorem lK:∀{a:List AV} {v:List Value},ak Z ψ h w a v→ak Z ψ h w (lp rid a) v
 |[],v,hr=>by simpa only[lp] using hr
 |x::r,v,hr=>by simp only[lp,ak]at hr ⊢;obtain⟨u,us,e,h1,h2⟩:=hr;exact⟨u,us,e,wh h1,lK h2⟩
end
mutual
theorem oM:∀(a:AV),aE (l6 rid fun _=>False) (bB rid a)
 |.ref id s i off=>by
  simp only[bB]
  split
  ·simp only[aE]
  ·rename_i hn;simp only[aE];exact fun h=>absurd h hn
 |.bF id=>by
  simp only[bB]
  split
  ·simp only[aE]
  ·rename_i hn;simp only[aE];exact fun h=>absurd h hn
 |.fn f cap=>by simp only[bB,aE];exact iy cap
 |.agg cs=>by simp only[bB,aE];exact iy cs
 |.mG cs=>by simp only[bB,aE];exact iy cs
 |.no=>by simp only[bB,aE]
 |.bool _=>by simp only[bB,aE]
 |.int _ _=>by simp only[bB,aE]
 |.str _=>by simp only[bB,aE]
 |.kI=>by simp only[bB,aE]
 |.fK=>by simp only[bB,aE]
 |.fp _ _ _=>by simp only[bB,aE]
 |.sl _ _ _=>by simp only[bB,aE]
 |.mp _ _ _=>by simp only[bB,aE]
theorem iy:∀(a:List AV),ax (l6 rid fun _=>False) (lp rid a)
 |[]=>by simp only[lp,ax]
 |x::r=>by simp only[lp,ax];exact⟨oM x,iy r⟩
end
theorem get_map(f:Ob→Ob):∀(hh:Heap) (i:Nat),Heap.get (hh.map fun p=>(p.1,f p.2)) i=(hh.get i).map f
 |[],i=>rfl
 |(j,o)::r,i=>by
  simp only[List.map_cons,Heap.get]
  split
  ·rfl
  ·exact get_map f r i
def mv(rid:Nat)(hh:Heap):Heap:=(hh.filter fun p=>p.1 / 32768 != rid+1).map fun p=>(p.1,zG rid p.2)
theorem MK(hh:Heap)(i:Nat):(mv rid hh).get i=if i / 32768=rid+1 then none else(hh.get i).map (zG rid):=by unfold mv;rw[get_map (zG rid),get_filter (fun i=>i / 32768 != rid+1)];by_cases e:i / 32768=rid+1<;>simp[e]
theorem ib{hh:Heap}{i:Nat}{o:Ob}(hg:(mv rid hh).get i=some o):i / 32768≠rid+1∧∃o',hh.get i=some o'∧o=zG rid o':=by
 rw[MK]at hg
 split at hg
 ·cases hg
 ·rename_i hn
  cases h0:hh.get i with
  |none=>rw[h0]at hg;cases hg
  |some o'=>rw[h0]at hg;cases hg;exact⟨hn,o',rfl,rfl⟩
theorem j7{hh:Heap}{i:Nat}(hg:(mv rid hh).get i≠none):hh.get i≠none:=by obtain⟨o,ho⟩:=ade.1 hg;obtain⟨_,o',h1,_⟩:=ib ho;rw[h1];simp
theorem Good.kD{hh:Heap}(g:Good Z ψ hh.get w B0 O):Good Z ψ (mv rid hh).get w B0 O:=by
 refine⟨fun id ty cs hb=>?_,fun id ok xs hb=>?_,fun id b h1 h2=>g.live id b (j7 h1) h2,fun id l9 b h1 h2 h3 h4=>g.apart id l9 b (j7 h1) (j7 h2) h3 h4,g.ju⟩
 ·obtain⟨_,o',h1,h2⟩:=ib hb
  cases o' with
  |own ok xs=>cases h2
  |box yf cs' =>
   cases h2
   obtain⟨gg,vs,h3,h4,h5,h6⟩:=g.box id ty cs' h1;exact⟨gg,vs,h3,h4,lK (h5.less (fun _ h=>h) (cp.refl _ _) fun i hi=>⟨j7 hi,rfl⟩),h6⟩
 ·obtain⟨_,o',h1,h2⟩:=ib hb
  cases o' with
  |own Yf YM=>cases h2;exact g.row id _ _ h1
  |box yf cs'=>cases h2
theorem Ok.sub{hp:Hp}(k:Ok Z0 w0 O ψ0 Z ψ h w)(g:Good Z ψ hp w w0.heap.size O)(hn:∀id,hp id≠none→h id≠none):Ok Z0 w0 O ψ0 Z ψ hp w :=⟨g,k.fC,k.dY,k.os,k.tape,k.output,k.size,k.block,fun i hi bq=>k.fix i hi (hn i bq)⟩
end
theorem Good.AA(g:Good Z ψ h w B0 O)(e:w'.heap=w.heap):Good Z ψ h w' B0 O:=by
 have sm:cp Z w w':=fun b _=>by rw[e]
 refine⟨fun id ty cs hb=>?_,fun id ok xs hb=>?_,g.live,g.apart,fun b hb=>by rw[e];exact g.ju b hb⟩
 ·obtain⟨gg,vs,h1,h2,h3,h4⟩:=g.box id ty cs hb;exact⟨gg,vs,h1,by rw[e];exact h2,h3.less (fun _ h=>h) sm (fun i hi=>⟨hi,rfl⟩),h4⟩
 ·exact(g.row id ok xs hb).kept (fun _ h=>h) sm (fun gg _=>by rw[e])
theorem Ok.AA(k:Ok Z0 w0 O ψ0 Z ψ h w)(e:w'.heap=w.heap)(e1:w'.os=w.os)(e2:w'.tape=w.tape)(e3:w'.output=w.output):Ok Z0 w0 O ψ0 Z ψ h w' :=⟨k.dB.AA e,k.fC,k.dY,e1.trans k.os,e2.trans k.tape,e3.trans k.output,by rw[e];exact k.size,fun b hb ho=>by rw[e];exact k.block b hb ho,k.fix⟩
theorem cH.AA{n:Nat}{T:Nat→AV}{a:Act}(t:cH Z ψ h w n T a)(e:w'.heap=w.heap):cH Z ψ h w' n T a :=⟨fun d=>(t.rep d).less (fun _ h=>h) (fun b _=>by rw[e]) (fun i hi=>⟨hi,rfl⟩),t.size,t.defers⟩
theorem EI(V:Env P Eqs Sg F)(hm:P.follows .mixedOrders=true){n rid:Nat}{ops:Array Oper}{draw:Bool}{st:St}{kk:St→Option R}{r:R}{a:Act}{Q:Exit→Act→World→Prop} (hx:g9 P Eqs Sg F n rid ops draw st kk=some r) (k:Ok Z0 w0 O ψ0 Z ψ st.heap.get w) (t:cH Z ψ st.heap.get w n (look st.tmps) a) (hQ:∀dX Z ψ a w,kk dX=some r→Ok Z0 w0 O ψ0 Z ψ dX.heap.get w→cH Z ψ dX.heap.get w n (look dX.tmps) a→Q .normal a w):(Code.region rid ops draw).wp P Q a w:=by
 obtain⟨b,Ym,hx⟩:∃b,b=(if draw then Region.before ops else #[])∧(if(ops.all fun o=>g8 n o)&&(!draw || (tS ops b&&(zB ops b&&b6 (ops.toList.filterMap (·.dst)))))&&decide (ops.size≤128) then
  bA P Eqs Sg F rid draw ops b (ops.toList.zipIdx.map fun p=>(p.2,p.1)) (kD draw rid ops st) kk else none)=some r:=⟨_,rfl,hx⟩
 split at hx
 ·rename_i hc;simp only[Bool.and_eq_true,decide_eq_true_eq]at hc;obtain⟨⟨ku,hdr⟩,iF⟩:=hc;have Dl:∀(i:Nat) (o:Oper),ops[i]? = some o→g8 n o=true:=fun i o ho=>adG.1 ku o (adE ho);have pk:Ok Z0 w0 O ψ0 Z ψ (mv rid st.heap).get w:=k.sub k.dB.kD fun id=>j7;have pt:cH Z ψ (mv rid st.heap).get w n (fun d=>bB rid (look st.tmps d)) a :=⟨fun d=>wh ((t.rep d).less (fun _ h=>h) (cp.refl _ _) fun i hi=>⟨j7 hi,rfl⟩),t.size,t.defers⟩;have pm:sw (l6 rid fun _=>False) (mv rid st.heap).get:=fun i ty cs hb=>by
   obtain⟨_,o',h1,h2⟩:=ib hb
   cases o' with
   |own ok xs=>cases h2
   |box yf cs'=>cases h2;exact iy cs'
  have Dm:look (st.tmps.map fun p=>(p.1,bB rid p.2))=fun d=>bB rid (look st.tmps d):=funext fun d=>Az (bB rid) (by simp only[bB]) st.tmps d
  cases draw with
  |false =>
   refine wp_region ?_;rw[←Dg ops]
   cases Pb:ops.any (makes ·.op) with
   |false =>
    have hp:kD false rid ops st=st:=by unfold kD;rw[Pb];rfl
    rw[hp]at hx;refine kZ V (rid:=rid) (n:=n) (b:=_) false (fun _ i o ho=>?_) iF Dl hQ _ 0 st Z ψ a w (nD ops) hx ⟨k,t,fun d=>?_,fun i ty cs hb=>?_⟩
    ·have:=Array.any_eq_false'.1 Pb o (adE ho);simpa using this
    ·exact(aE.top _).imp fun id _ h=>by cases h
    ·exact(ax.top _).imp fun id _ h=>by cases h
   |true =>
    have hp:kD false rid ops st={ tmps:=st.tmps.map fun p=>(p.1,bB rid p.2),heap:=mv rid st.heap }:=by unfold kD;rw[Pb];rfl
    rw[hp]at hx;refine kZ V (rid:=rid) (n:=n) (b:=_) true (fun h=>by cases h) iF Dl hQ _ 0 _ Z ψ a w (nD ops) hx ⟨pk,by rw[Dm];exact pt,fun d=>?_,fun i ty cs hb=>?_⟩
    ·rw[Dm];exact(oM _).imp fun id h1 _ h2=>(h1 h2).elim
    ·exact(pm i ty cs hb).imp fun id h1 _ h2=>(h1 h2).elim
  |true =>
   have hp:kD true rid ops st={ tmps:=st.tmps.map fun p=>(p.1,bB rid p.2),heap:=mv rid st.heap }:=by unfold kD;rw[Bool.true_or];rfl
   rw[hp]at hx;simp only[Bool.not_true,Bool.false_or,Bool.and_eq_true]at hdr;obtain⟨aeG,Zq,FI⟩:=hdr;refine wp_region_any hm ?_;obtain⟨T,H,E,h1,h2,h3,dX,h4,h5,h6⟩:=trace (kk:=kk) (r:=r) (ops.toList.zipIdx.map fun p=>(p.2,p.1)) 0 _ (nD ops) (by simp) hx;rw[Dm]at h1;have D:Dr P Eqs Sg F rid n ops b T H E:=⟨iF,aeG,Zq,Dl,FI,fun k o ho=>h3 k o (adD _) ho,fun id bL=>by rw[h2]at bL;obtain⟨o,ho⟩:=ade.1 bL;exact(ib ho).1⟩;have xw:∀k,¬((Array.replicate ops.size false).getD k false=true):=fun k hk=>by
    rw[Array.getD_eq_getD_getElem?,Array.getElem?_replicate]at hk
    split at hk<;>simp at hk
   rw[show max 0 ops.size=ops.size by omega]at h5 h6;have w2:({ w with drawn:=w.drawn+1 }:World).heap=w.heap:=rfl;refine D.any V (Z0:=Z0) (w0:=w0) (O:=O) (ψ0:=ψ0) (fun Z ψ a w j=>hQ dX Z ψ a w h4 (by rw[h6];exact j.ok) (by rw[h5,h6];exact j.tr)) ops.size _ (T 0) (H 0) a _ Z ψ (by simp) ?_ ?_ ?_
   ·unfold lJ;rw[List.filter_eq_self.2,List.length_range];intro k _;have:=xw k;simpa using this
   ·refine⟨fun i hi=>(xw i hi).elim,fun i j hi=>(xw i hi).elim,?_,fun j o d hj=>(xw j hj).elim,fun d _=>rfl⟩;obtain⟨q,hq1,hq2,hq3⟩:=Pp E (fun k=>(Array.replicate ops.size false).getD k false=true) ops.size;refine⟨q,hq1,hq2,hq3,fun id=>⟨fun pN=>?_,fun pN=>?_⟩⟩
    ·symm
     refine D.yQ q (adD _) hq1 (fun k _ hk hw=>(xw k (hq2 k hk hw)).elim) id fun k _ hk _ ho=>?_;have:=pN (ho.parts (by omega)).1;exact xw _ this
    ·rw[h2];apply Classical.not_not.1;intro bq;obtain⟨o,ho⟩:=ade.1 bq;exact pN fun hr=>absurd hr (ib ho).1
   ·rw[h1,h2];refine⟨pk.AA w2 rfl rfl rfl,pt.AA w2,fun d=>(oM _).imp fun id h3 h4=>(h3 h4).elim,fun i ty cs hb=>(pm i ty cs hb).imp fun id h3 h4=>(h3 h4).elim⟩
 ·cases hx
end Go.Vs
