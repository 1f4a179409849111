/- The value semantics is sound, at calls and in regions. -/
import Derived.Test.YtpkfpbpbkabkdaaGreatEngineB
import Derived.Maps.RangeRun
import Derived.ChangeMaps
set_option linter.unusedSimpArgs false
set_option linter.unusedVariables false
namespace Go.Vs
variable {P:Program} {Z Z':Nat→Prop} {ψ ψ':Nat→Value} {h h':Hp} {w w':World} {B0:Nat} {O:Nat→Prop} {N:Nat→Prop}
theorem eY:∀(k:K) (x:k.T),(enc k x).length=k.sz
 |.int _,_=>rfl
 |.bool,_=>rfl
 |.str,_=>rfl
 |.sl _,_=>rfl
 |.mp _ _,_=>rfl
 |.pair a b,x=>by simp only[enc,List.length_append,K.sz];rw[eY a,eY b]
 |.one k,x=>by simp only[enc,K.sz];exact eY k x
theorem qk(hh:Heap):∀(k:K) (x:k.T),(enc k x).map (cE hh)=enc k x
 |.int _,_=>rfl
 |.bool,_=>rfl
 |.str,_=>rfl
 |.sl _,_=>rfl
 |.mp _ _,_=>rfl
 |.pair a b,x=>by simp only[enc,List.map_append];rw[qk hh a,qk hh b]
 |.one k,x=>by simp only[enc];exact qk hh k x
theorem lE:∀(k:K) (x:k.T) (id:Nat),AV.bF id∉enc k x
 |.int _,_,_=>by simp[enc]
 |.bool,_,_=>by simp[enc]
 |.str,_,_=>by simp[enc]
 |.sl _,_,_=>by simp[enc]
 |.mp _ _,_,_=>by simp[enc]
 |.pair a b,x,id=>by
  simp only[enc,List.mem_append]
  rintro(h|h)
  ·exact lE a _ id h
  ·exact lE b _ id h
 |.one k,x,id=>by simp only[enc];exact lE k x id
theorem vS{hh:Heap}{ok:OK}{n:Nat}{xs:ok.T}(hg:hh.get n=some (.own ok xs)):dN hh ok (.bF n)=some xs:=by
 simp[dN,hg]
theorem oF{hh:Heap}:∀(dh:List CK) (n:Nat) (x:pS dh),(∀e∈aT dh n x,hh.get e.1=some e.2)→cF dh hh (aA dh n x)=some x
 |[],n,x,_=>rfl
 |.val k::r,n,x,hg=>by
  have h1:(aA (.val k::r) n x).take k.sz=enc k x.1:=by simp only[aA];rw[←eY k x.1,List.take_left]
  have h2:(aA (.val k::r) n x).drop k.sz=aA r (n+1) x.2:=by simp only[aA];rw[←eY k x.1,List.drop_left]
  have e:cF (.val k::r) hh (aA (.val k::r) n x)=(match dB k (((aA (.val k::r) n x).take k.sz).map (cE hh)),cF r hh ((aA (.val k::r) n x).drop k.sz) with
   |some x,some y=>some ((x,y):k.T×pS r)
   |_,_=>none):=by generalize aA (.val k::r) n x=l;cases l<;>rfl
  have h4:dB k (((aA (.val k::r) n x).take k.sz).map (cE hh))=some x.1:=by
   rw[h1];exact(congrArg (dB k) (qk hh k x.1)).trans (tf k x.1)
  have h5:cF r hh ((aA (.val k::r) n x).drop k.sz)=some x.2:=by
   rw[h2];exact oF r (n+1) x.2 hg
  rw[e]
  generalize dB k (((aA (.val k::r) n x).take k.sz).map (cE hh))=o1 at h4 ⊢
  generalize cF r hh ((aA (.val k::r) n x).drop k.sz)=o2 at h5 ⊢
  subst h4;subst h5;rfl
 |.own ok::r,n,x,hg=>by
  simp only[aT]at hg
  have h1:=vS (hg _ List.mem_cons_self)
  have h2:=oF r (n+1) x.2 (fun e he=>hg e (List.mem_cons_of_mem _ he))
  have e:cF (.own ok::r) hh (aA (.own ok::r) n x)=(match dN hh ok (.bF n),cF r hh (aA r (n+1) x.2) with
   |some x,some y=>some ((x,y):ok.T×pS r)
   |_,_=>none):=rfl
  rw[e,h1,h2]
  rfl
theorem L3{hh:Heap}(b:BK){i n:Nat}{x:b.T}(hg:∀e∈iM b i n x,hh.get e.1=some e.2):o9 b hh i=some x:=by
 cases b with
 |box ty c =>
  simp only[iM]at hg
  have h1:CG hh i ty=some (aA c n x):=by
   unfold CG
   rw[hg _ List.mem_cons_self]
   simp
  simp only[o9,h1]
  exact oF (hh:=hh) c n x (fun e he=>hg e (List.mem_cons_of_mem _ he))
 |own ok=>exact vS (hg _ (by simp only[iM];exact List.mem_cons_self))
theorem xf{hh:Heap}:∀(bs:List BK) (is:List Nat) (n:Nat) (x:vx bs),is.length=bs.length→(∀e∈bu bs is n x,hh.get e.1=some e.2)→cU bs hh is=some x
 |[],[],n,x,_,_=>rfl
 |[],_::_,n,x,hl,_=>by simp at hl
 |_::_,[],n,x,hl,_=>by simp at hl
 |b::r,i::is,n,x,hl,hg=>by
  simp only[bu]at hg
  have h2:=L3 b (fun e he=>hg e (List.mem_append_left _ he))
  have h3:=xf r is (n+16) x.2 (by simpa using hl) (fun e he=>hg e (List.mem_append_right _ he))
  have e:cU (b::r) hh (i::is)=(match o9 b hh i,cU r hh is with
    |some x,some y=>some ((x,y):b.T×vx r)
    |_,_=>none):=rfl
  rw[e,h2,h3]
  rfl
theorem vT{i:Nat}{o:Ob}:∀{hh:Heap},b4 (hh.map (·.1))=true→(i,o)∈hh→hh.get i=some o
 |[],_,h=>by cases h
 |(j,o')::r,hn,h=>by
  obtain⟨h1,h2⟩:=ml hn
  simp only[Heap.get]
  rcases List.mem_cons.1 h with e|h
  ·cases e;simp
  ·rw[if_neg,vT h2 h]
   rintro rfl
   exact h1 (List.mem_map.2 ⟨_,h,rfl⟩)
theorem yp{hh:Heap}:∀(dh:List CK) (n:Nat) (x:pS dh) (id:Nat),AV.bF id∉o8 dh (aA dh n x)
 |[],n,x,id=>by simp[aA,o8]
 |.val k::r,n,x,id=>by
  have h1:(aA (.val k::r) n x).take k.sz=enc k x.1:=by simp only[aA];rw[←eY k x.1,List.take_left]
  have h2:(aA (.val k::r) n x).drop k.sz=aA r (n+1) x.2:=by simp only[aA];rw[←eY k x.1,List.drop_left]
  have e:o8 (.val k::r) (aA (.val k::r) n x)=(aA (.val k::r) n x).take k.sz++o8 r ((aA (.val k::r) n x).drop k.sz):=by generalize aA (.val k::r) n x=l;cases l<;>rfl
  rw[e,h1,h2,List.mem_append]
  rintro(h|h)
  ·exact lE k x.1 id h
  ·exact yp (hh:=hh) r (n+1) x.2 id h
 |.own ok::r,n,x,id=>by simp only[aA,o8];exact yp (hh:=hh) r (n+1) x.2 id
theorem zR{hh:Heap}:∀(bs:List BK) (is:List Nat) (n:Nat) (x:vx bs) (id:Nat),(∀e∈bu bs is n x,hh.get e.1=some e.2)→AV.bF id∉fL bs hh is
 |[],is,n,x,id,_=>by cases is<;>simp[fL]
 |_::_,[],n,x,id,_=>by simp[fL]
 |b::r,i::is,n,x,id,hg=>by
  simp only[bu]at hg
  simp only[fL,List.mem_append]
  rintro(h|h)
  ·cases b with
   |box ty c =>
    simp only[yX]at h
    rw[hg (i,.box ty (aA c n x.1)) (List.mem_append_left _ (by simp only[iM];exact List.mem_cons_self))]at h
    exact yp (hh:=hh) c n x.1 id h
   |own ok=>simp[yX]at h
  ·exact zR r is (n+16) x.2 id (fun e he=>hg e (List.mem_append_right _ he)) h
theorem CV{hh:Heap}:∀(cap:List AV) (is is':List Nat) (vs:List Value),ju cap=some is→is'.length=is.length→(∀p∈is.zip is',hh.get p.1≠none∧(h' p.2≠none→ψ' p.2=ψ p.1)) →
  ak Z ψ hh.get w cap vs→ak Z' ψ' h' w (is'.map fun i=>.ref i 0 0 0) vs
 |[],is,is',vs,h1,hl,_,hr=>by
  simp only[ju]at h1
  cases h1
  cases is' with
  |nil=>simpa only[List.map_nil,ak] using hr
  |cons c r=>simp at hl
 |v::cap,is,is',vs,h1,hl,hp,hr=>by
  simp only[ju]at h1
  split at h1
  ·rename_i i is1 h3 h4
   cases h1
   cases is' with
   |nil=>simp at hl
   |cons c r =>
    simp only[List.zip_cons_cons]at hp
    simp only[List.map_cons,ak]at hr ⊢
    obtain⟨u,us,rfl,h7,h8⟩:=hr
    obtain⟨sz,rfl⟩:=oz h3
    obtain⟨h5,h6⟩:=hp _ List.mem_cons_self
    exact⟨u,us,rfl,ym h7 h5 h6,CV cap is1 r us h4 (by simpa using hl) (fun p h=>hp p (List.mem_cons_of_mem _ h)) h8⟩
  ·cases h1
theorem sq:∀(cap:List AV) (is:List Nat),ju cap=some is→is.length=cap.length
 |[],is,h=>by simp only[ju]at h;cases h;rfl
 |v::cap,is,h=>by
  simp only[ju]at h
  split at h
  ·rename_i i is1 h3 h4
   cases h
   simp[sq cap is1 h4]
  ·cases h
theorem sr:∀(cs:List AV) (is:List Nat),oi cs=some is→is.length=cs.length
 |[],is,h=>by simp only[oi]at h;cases h;rfl
 |c::r,is,h=>by
  cases c<;>simp only[oi]at h<;>first|(cases h;done)|skip
  split at h
  ·rename_i is' h1
   cases h
   simp[sr r is' h1]
  ·cases h
theorem CW{hh:Heap}:∀(cs:List AV) (is gj:List Nat) (vs:List Value),oi cs=some is→gj.length=is.length→(∀p∈is.zip gj,hh.get p.1≠none∧(h' p.2≠none→ψ' p.2=ψ p.1)) →
  ak Z ψ hh.get w cs vs→ak Z' ψ' h' w (gj.map .bF) vs
 |[],is,gj,vs,h,hl,hp,hr=>by
  simp only[oi]at h
  cases h
  have:gj=[]:=List.eq_nil_of_length_eq_zero hl
  subst this
  simpa only[List.map_nil,ak] using hr
 |c::r,is,gj,vs,h,hl,hp,hr=>by
  cases c<;>simp only[oi]at h<;>first|(cases h;done)|skip
  rename_i i
  split at h
  ·rename_i is' h1
   cases h
   cases gj with
   |nil=>simp at hl
   |cons i' gj =>
    simp only[List.zip_cons_cons]at hp
    obtain⟨h5,h6⟩:=hp _ List.mem_cons_self
    simp only[List.map_cons,ak]at hr ⊢
    obtain⟨u,us,rfl,h3,h4⟩:=hr
    refine⟨u,us,rfl,?_,CW r is' gj us h1 (by simpa using hl) (fun p Oa=>hp p (List.mem_cons_of_mem _ Oa)) h4⟩
    simp only[av]at h3 ⊢
    exact⟨h3.1,fun hn=>(h3.2 h5).trans (h6 hn).symm⟩
  ·cases h
theorem la{hh:Heap}(g:Good Z ψ hh.get w B0 O)(hz:∀b,Z b→Z' b):∀(ps:List PK) (ids gj:List Nat) (s:Nat) (vs:List AV) (us:List Value) (x:Fy (kz ps)),gj.length=ids.length→cx ps vs=some ids→ed ps hh vs=some x →
  (∀id b,AV.bF id∈de ps vs→hh.get id≠none→ob (ψ id)=some b→Z' b)→(∀p∈ids.zip gj,hh.get p.1≠none∧(h' p.2≠none→ψ' p.2=ψ p.1))→ak Z ψ hh.get w vs us→ak Z' ψ' h' w ((aO ps gj s x).map (·.2)) us
 |[],ids,gj,s,vs,us,x,hl,hi,hv,hf,hp,hr=>by
  cases vs with
  |nil=>simpa only[aO,List.map_nil,ak] using hr
  |cons a r=>simp[cx]at hi
 |.val k::ps,ids,gj,s,vs,us,x,hl,hi,hv,hf,hp,hr=>by
  cases vs with
  |nil=>simp[cx]at hi
  |cons a r =>
   simp only[cx]at hi
   simp only[ak]at hr
   obtain⟨u,iF,rfl,h3,h4⟩:=hr
   obtain⟨h1,h2⟩:=xc hv
   simp only[de]at hf
   simp only[aO,List.map_cons,ak]
   exact⟨u,iF,rfl,q6 g hz (fun id b bL=>hf id b (List.mem_append_left _ bL)) h1 h3,la g hz ps ids gj (s+1) r iF x.2 hl hi h2 (fun id b bL=>hf id b (List.mem_append_right _ bL)) hp h4⟩
 |.ref::ps,ids,gj,s,vs,us,x,hl,hi,hv,hf,hp,hr=>by
  cases vs with
  |nil=>simp[cx]at hi
  |cons a r =>
   simp only[cx]at hi
   split at hi
   ·rename_i i is h1 h2
    cases hi
    simp only[ak]at hr
    obtain⟨u,iF,rfl,h3,h4⟩:=hr
    cases gj with
    |nil=>simp at hl
    |cons i' is' =>
     simp only[List.zip_cons_cons]at hp
     obtain⟨sz,rfl⟩:=oz h1
     obtain⟨h5,h6⟩:=hp _ List.mem_cons_self
     simp only[aO,List.map_cons,ak]
     exact⟨u,iF,rfl,ym h3 h5 h6,la g hz ps is is' (s+1) r iF x (by simpa using hl) h2 hv hf (fun p h=>hp p (List.mem_cons_of_mem _ h)) h4⟩
   ·cases hi
 |.own::ps,ids,gj,s,vs,us,x,hl,hi,hv,hf,hp,hr=>by
  cases vs with
  |nil=>simp[cx]at hi
  |cons a r =>
   cases a<;>simp only[cx]at hi<;>first|(cases hi;done)|skip
   rename_i i
   split at hi
   ·rename_i is h2
    cases hi
    simp only[ak]at hr
    obtain⟨u,iF,rfl,h3,h4⟩:=hr
    cases gj with
    |nil=>simp at hl
    |cons i' is' =>
     simp only[List.zip_cons_cons]at hp
     obtain⟨h5,h6⟩:=hp _ List.mem_cons_self
     simp only[aO,List.map_cons,ak]
     refine⟨u,iF,rfl,?_,la g hz ps is is' (s+1) r iF x (by simpa using hl) h2 hv hf (fun p h=>hp p (List.mem_cons_of_mem _ h)) h4⟩
     simp only[av]at h3 ⊢
     exact⟨h3.1,fun hn=>(h3.2 h5).trans (h6 hn).symm⟩
   ·cases hi
 |.Fp f m::ps,ids,gj,s,vs,us,x,hl,hi,hv,hf,hp,hr=>by
  cases vs with
  |nil=>simp[cx]at hi
  |cons a r =>
   cases a<;>simp only[cx]at hi<;>first|(cases hi;done)|skip
   rename_i f' cap
   split at hi
   ·rename_i hc
    obtain⟨rfl,tI⟩:=hc
    split at hi
    ·rename_i a1 b1 h1 h2
     cases hi
     simp only[ak]at hr
     obtain⟨u,iF,rfl,h3,h4⟩:=hr
     have h5:=sq cap a1 h1
     have w4:(a1++b1).zip gj=a1.zip (gj.take m)++b1.zip (gj.drop m):=by
      conv=>lhs;rw[←List.take_append_drop m gj]
      rw[List.zip_append]
      rw[List.length_take,Nat.min_eq_left]
      ·omega
      ·rw[hl,List.length_append];omega
     rw[w4]at hp
     simp only[aO,List.map_cons,ak]
     refine⟨u,iF,rfl,?_,la g hz ps b1 (gj.drop m) (s+1) r iF x (by rw[List.length_drop,hl,List.length_append];omega) h2 hv hf (fun p h=>hp p (List.mem_append_right _ h)) h4⟩
     simp only[av]at h3 ⊢
     obtain⟨ws,h6,h7⟩:=h3
     exact⟨ws,h6,CV cap a1 (gj.take m) _ h1 (by rw[List.length_take,Nat.min_eq_left (by rw[hl,List.length_append];omega)];omega) (fun p h=>hp p (List.mem_append_left _ h)) h7⟩
    ·cases hi
   ·cases hi
 |.agg m::ps,ids,gj,s,vs,us,x,hl,hi,hv,hf,hp,hr=>by
  cases vs with
  |nil=>simp[cx]at hi
  |cons a r =>
   cases a<;>simp only[cx]at hi<;>first|(cases hi;done)|skip
   rename_i cs
   split at hi
   ·rename_i tI
    split at hi
    ·rename_i a1 b1 h1 h2
     cases hi
     simp only[ak]at hr
     obtain⟨u,iF,rfl,h3,h4⟩:=hr
     have h5:=sr cs a1 h1
     have w4:(a1++b1).zip gj=a1.zip (gj.take m)++b1.zip (gj.drop m):=by
      conv=>lhs;rw[←List.take_append_drop m gj]
      rw[List.zip_append]
      rw[List.length_take,Nat.min_eq_left]
      ·omega
      ·rw[hl,List.length_append];omega
     rw[w4]at hp
     simp only[aO,List.map_cons,ak]
     refine⟨u,iF,rfl,?_,la g hz ps b1 (gj.drop m) (s+1) r iF x (by rw[List.length_drop,hl,List.length_append];omega) h2 hv hf (fun p h=>hp p (List.mem_append_right _ h)) h4⟩
     simp only[av]at h3 ⊢
     obtain⟨ws,h6,h7⟩:=h3
     exact⟨ws,h6,CW cs a1 (gj.take m) _ h1 (by rw[List.length_take,Nat.min_eq_left (by rw[hl,List.length_append];omega)];omega) (fun p h=>hp p (List.mem_append_left _ h)) h7⟩
    ·cases hi
   ·cases hi
theorem L4(hh:Heap)(k:K)(x:k.T):fF k hh (b8 k x)=some x:=by
 unfold fF
 rw[if_pos (zN k x).symm,tg]
 exact(congrArg (dB k) (qk hh k x)).trans (tf k x)
theorem mr:∀(dh:List CK) (c n:Nat) (x:pS dh),fG dh c=true→(aA dh n x)[mh dh c]? = some (.bF (n+c))
 |[],c,n,x,h=>by simp[fG]at h
 |.val k::r,0,n,x,h=>by simp[fG]at h
 |.val k::r,c+1,n,x,h=>by
  simp only[aA,mh]
  have ih:=mr r c (n+1) x.2 (by simpa[fG] using h)
  have hl:(enc k x.1).length=k.sz:=eY k x.1
  generalize enc k x.1=l at hl ⊢
  rw[List.getElem?_append_right (by omega),hl,Nat.add_sub_cancel_left,show n+(c+1)=n+1+c by omega]
  exact ih
 |.own ok::r,0,n,x,h=>by simp[aA,mh]
 |.own ok::r,c+1,n,x,h=>by
  simp only[aA,mh]
  rw[Nat.add_comm 1,List.getElem?_cons_succ,show n+(c+1)=n+1+c by omega]
  exact mr r c (n+1) x.2 (by simpa[fG] using h)
theorem xg:∀(bs:List BK) (b:Nat) (is:List Nat) (n:Nat) (x:vx bs) (ty:TypeId) (c:List CK) (bi:Nat),bs[b]? = some (.box ty c)→is[b]? = some bi→∃xb,(bi,.box ty (aA c (n+16*b) xb))∈bu bs is n x
 |[],b,is,n,x,_,_,bi,h,_=>by simp at h
 |b0::r,b,[],n,x,_,_,bi,_,h=>by simp at h
 |b0::r,0,i::is,n,x,ty,c,bi,h1,h2=>by
  simp only[List.getElem?_cons_zero,Option.some.injEq]at h1 h2
  subst h1;subst h2
  exact⟨x.1,by simp only[bu,iM];exact List.mem_append_left _ List.mem_cons_self⟩
 |b0::r,b+1,i::is,n,x,ty,c,bi,h1,h2=>by
  obtain⟨xb,h3⟩:=xg r b is (n+16) x.2 ty c bi (by simpa using h1) (by simpa using h2)
  refine⟨xb,?_⟩
  simp only[bu]
  rw[show n+16*(b+1)=n+16+16*b by omega]
  exact List.mem_append_right _ h3
theorem lF{bs:List BK}{hh:Heap}{is:List Nat}{nb:Nat}{xb:vx bs}(hl:is.length=bs.length)(RW:∀e∈bu bs is nb xb,hh.get e.1=some e.2):∀(rs:List RK) (ids2:List Nat) (m:Nat) (y:lq rs),pV bs rs=true →
  (∀e∈ai rs m y,hh.get e.1=some e.2)→bG bs rs hh is (aP rs ids2 nb m y)=some y
 |[],ids2,m,y,_,_=>rfl
 |.val k::r,ids2,m,y,hk,hg=>by
  simp only[pV,List.all_cons,Bool.and_eq_true,Cb]at hk
  have h1:=L4 hh k y.1
  have h2:=lF hl RW r ids2 (m+1) y.2 hk.2 hg
  have e:bG bs (.val k::r) hh is (aP (.val k::r) ids2 nb m y)=(match fF k hh (b8 k y.1),bG bs r hh is (aP r ids2 nb (m+1) y.2) with
   |some x,some y=>some ((x,y):k.T×lq r)
   |_,_=>none):=rfl
  rw[e]
  generalize fF k hh (b8 k y.1)=o1 at h1 ⊢
  generalize bG bs r hh is (aP r ids2 nb (m+1) y.2)=o2 at h2 ⊢
  subst h1;subst h2;rfl
 |.own ok::r,ids2,m,y,hk,hg=>by
  simp only[pV,List.all_cons,Bool.and_eq_true,Cb]at hk
  simp only[ai]at hg
  have h1:=vS (hg _ List.mem_cons_self)
  have h2:=lF hl RW r ids2 (m+1) y.2 hk.2 (fun e he=>hg e (List.mem_cons_of_mem _ he))
  have e:bG bs (.own ok::r) hh is (aP (.own ok::r) ids2 nb m y)=(match dN hh ok (.bF m),bG bs r hh is (aP r ids2 nb (m+1) y.2) with
   |some x,some y=>some ((x,y):ok.T×lq r)
   |_,_=>none):=rfl
  rw[e]
  generalize dN hh ok (.bF m)=o1 at h1 ⊢
  generalize bG bs r hh is (aP r ids2 nb (m+1) y.2)=o2 at h2 ⊢
  subst h1;subst h2;rfl
 |.eC b alts::r,ids2,m,y,hk,hg=>by
  simp only[pV,List.all_cons,Bool.and_eq_true,Cb]at hk
  have h2:=lF hl RW r ids2 (m+1) y.2 hk.2 hg
  have h1:mJ bs hh is b alts (tM b nb alts y.1)=some y.1:=by
   cases hy:y.1 with
   |none=>rfl
   |some p =>
    obtain⟨al,i⟩:=p
    have h3:=hk.1
    split at h3
    ·rename_i bk Yq
     have aF:=(List.getElem?_eq_some_iff.1 Yq).1
     have L5:is[b]? = some (is[b]'(by omega)):=List.getElem?_eq_getElem (by omega)
     rw[Bool.and_eq_true,decide_eq_true_eq]at h3
     obtain⟨h3,Fq⟩:=h3
     have Yr:∀a:Fin alts.length,fG bk.dh (alts.get a).1=true:=fun a=>List.all_eq_true.1 h3 _ (List.get_mem alts a)
     cases bk with
     |own ok=>have:=Yr al;simp[BK.dh,fG]at this
     |box ty c0 =>
      obtain⟨xb',h4⟩:=xg bs b is nb xb ty c0 _ Yq L5
      have h5:=RW _ h4
      simp only[BK.dh]at Yr
      simp only[mJ,tM,Yq,L5,h5,BK.dh]
      have key:(List.finRange alts.length).find? (fun a=>wT c0 (aA c0 (nb+16*b) xb') (nb+16*b+(alts.get al).1) (alts.get al).2.1 (alts.get al).2.2 (alts.get a))=some al:=by
       cases hf:(List.finRange alts.length).find? (fun a=>wT c0 (aA c0 (nb+16*b) xb') (nb+16*b+(alts.get al).1) (alts.get al).2.1 (alts.get al).2.2 (alts.get a)) with
       |none =>
        have:=List.find?_eq_none.1 hf al (List.mem_finRange al)
        exfalso
        apply this
        simp only[wT,Bool.and_eq_true,decide_eq_true_eq]
        refine⟨?_,trivial,trivial,Yr al⟩
        rw[mr c0 _ _ xb' (Yr al)]
        simp[NI]
       |some a' =>
        have hf':=List.find?_some hf
        obtain⟨h6,_,h7,_⟩:=zQ hf'
        rw[mr c0 _ _ xb' (Yr a')]at h6
        simp only[Option.some.injEq,AV.bF.injEq]at h6
        have h8:(alts.get a').1=(alts.get al).1:=by omega
        congr 1
        have mP:∀a:Fin alts.length,(alts.map fun a=>(a.1,a.2.2))[a.val]? = some ((alts.get a).1,(alts.get a).2.2):=fun a=>by
         rw[List.getElem?_map,List.getElem?_eq_getElem a.isLt];rfl
        have e1:=mP a'
        have e2:=mP al
        rw[h8,←h7]at e1
        exact Fin.ext ((List.getElem?_inj (by simp) Fq).1 (e1.trans e2.symm))
      rw[key]
      rfl
    ·cases h3
  have e:bG bs (.eC b alts::r) hh is (aP (.eC b alts::r) ids2 nb m y)=(match mJ bs hh is b alts (tM b nb alts y.1),bG bs r hh is (aP r ids2 nb (m+1) y.2) with
   |some x,some y=>some ((x,y):Option (Fin alts.length×Nat)×lq r)
   |_,_=>none):=rfl
  rw[e]
  generalize mJ bs hh is b alts (tM b nb alts y.1)=o1 at h1 ⊢
  generalize bG bs r hh is (aP r ids2 nb (m+1) y.2)=o2 at h2 ⊢
  subst h1;subst h2;rfl
 |.agg c::r,ids2,m,y,hk,hg=>by
  simp only[pV,List.all_cons,Bool.and_eq_true,Cb]at hk
  simp only[ai]at hg
  have h1:=oF (hh:=hh) c m y.1 (fun e he=>hg e (List.mem_append_left _ he))
  have h2:=lF hl RW r ids2 (m+1) y.2 hk.2 (fun e he=>hg e (List.mem_append_right _ he))
  have e:bG bs (.agg c::r) hh is (aP (.agg c::r) ids2 nb m y)=(match cF c hh (aA c m y.1),bG bs r hh is (aP r ids2 nb (m+1) y.2) with
   |some x,some y=>some ((x,y):pS c×lq r)
   |_,_=>none):=rfl
  rw[e]
  generalize cF c hh (aA c m y.1)=o1 at h1 ⊢
  generalize bG bs r hh is (aP r ids2 nb (m+1) y.2)=o2 at h2 ⊢
  subst h1;subst h2;rfl
end Go.Vs
namespace Go.Vs
variable {P:Program} {Z Z':Nat→Prop} {ψ ψ':Nat→Value} {h h':Hp} {w w':World} {B0:Nat} {O:Nat→Prop} {N:Nat→Prop}
def oG(g:aJ)(x:g.A):Hp:=(bu g.bs (aM g.bs.length) 2000 x.2).get
def jF(g:aJ)(y:g.B):Heap:=bu g.bs (aM g.bs.length) 2000 y.2++ai g.rs 3000 y.1
def Ef(g:aJ)(x:g.A):List AV:=(aO g.ps (aM g.bs.length) 0 x.1).map (·.2)
def CX(P:Program)(f:FuncId)(g:aJ)(x:g.A)(y:g.B):Prop :=
 ∀(Z:Nat→Prop) (ψ0:Nat→Value) (w:World) (j5:List Value),Good Z ψ0 (oG g x) w w.heap.size (Own ψ0 (oG g x))→ak Z ψ0 (oG g x) w (Ef g x) j5 →
  Calls P (f%1000) j5.toArray w fun e w'=>∃v Z' ψ',e=.returned v∧(∀b,Z b→Z' b)∧(∀b,Z' b→Z b∨Own ψ0 (oG g x) b∨w.heap.size≤b)∧cW ψ0 (oG g x) w w' ∧
   Good Z' ψ' (jF g y).get w' w.heap.size (Own ψ0 (oG g x))∧(∀i∈aM g.bs.length,ψ' i=ψ0 i)∧av Z' ψ' (jF g y).get w' (eQ (aP g.rs (aM g.bs.length) 2000 3000 y.1)) v
theorem Eg{ψ:Nat→Value}{b:Nat}:¬Own ψ fQ b:=fun⟨_,h,_⟩=>h rfl
theorem uj(ids:List Nat)(n:Nat)(x:vx []):bu [] ids n x=[]:=by cases ids<;>rfl
theorem CX.zero{f:FuncId}{g:aJ}{x:g.A}{y:g.B}(hb:g.bs=[])(c:CX P f g x y):Yj P f g x y:=by
 obtain⟨ps,bs,rs,_⟩:=g
 simp only at hb
 subst hb
 intro Z w j5 hz hr
 have e0:oG ⟨ps,[],rs,_⟩ x=fQ:=by unfold oG;rw[uj];rfl
 have e1:jF ⟨ps,[],rs,_⟩ y=ai rs 3000 y.1:=by unfold jF;rw[uj];rfl
 have hO:Own Iy fQ=fun _=>False:=funext fun b=>propext ⟨Eg,False.elim⟩
 unfold CX at c
 rw[e0,e1]at c
 refine(c Z Iy w j5 ⟨fun _ _ _ h=>(by cases h),fun _ _ _ h=>(by cases h),fun _ _ h=>absurd rfl h,fun _ _ _ h=>absurd rfl h,hz⟩ hr).mono fun e w' ⟨v,Z',ψ',h1,h2,h3,h4,h5,_,h6⟩=>?_
 exact⟨v,Z',ψ',h1,h2,fun b hb=>(h3 b hb).imp (fun h=>h) fun h=>h.resolve_left Eg,h4,by rw[hO]at h5;exact h5,h6⟩
theorem F2{bs:List BK}{hh:Heap}{x:vx bs}(hd:cU bs hh []=some x):bs=[]:=by
 cases bs with
 |nil=>rfl
 |cons b r=>cases hd
variable {Eqs:TypeId→Option K} {Sg:FuncId→Option aJ} {F:(f:FuncId)→(g:aJ)→g.A→Option g.B}
theorem F3{a b:List Nat}(h:b4 (a++b)=true):b4 a=true:=by
 induction a with
 |nil=>rfl
 |cons i r ih =>
  obtain⟨h1,h2⟩:=ml h
  simp only[b4,Bool.and_eq_true,Bool.not_eq_true']
  refine⟨?_,ih h2⟩
  cases hc:r.contains i with
  |false=>rfl
  |true=>exact absurd (List.mem_append_left _ (List.contains_iff_mem.1 hc)) h1
theorem Good.Eh(g:Good Z ψ h w B0 O)(B:Nat):Good Z ψ h w B (Own ψ h) :=
 ⟨g.box,g.row,fun id b h1 h2=>⟨(g.live id b h1 h2).1,.inr ⟨id,h1,h2⟩⟩,g.apart,g.jx⟩
theorem nt:∀(l:List Nat) (hh:Heap) (i:Nat),(gG hh l).get i=if i∈l then none else hh.get i
 |[],hh,i=>by simp[gG]
 |j::r,hh,i=>by
  simp only[gG]
  rw[nt r (hh.del j) i]
  by_cases h1:i∈r
  ·simp[h1]
  ·by_cases h2:i=j
   ·subst h2;simp[Heap.gh]
   ·rw[Heap.g9 h2];simp[h1,h2]
theorem gN:∀(dh:List CK) (n:Nat) (x:pS dh),(aT dh n x).map (·.1)=cc dh n
 |[],_,_=>rfl
 |.val k::r,n,x=>gN r (n+1) x.2
 |.own ok::r,n,x=>by simp only[aT,cc,List.map_cons];rw[gN r (n+1) x.2]
theorem lG:∀(bs:List BK) (is:List Nat) (n:Nat) (x:vx bs),is.length=bs.length→(bu bs is n x).map (·.1)=bW bs is n
 |[],is,n,x,_=>by cases is<;>rfl
 |b::r,[],n,x,hl=>by simp at hl
 |b::r,i::is,n,x,hl=>by
  simp only[bu,bW,List.map_append]
  rw[lG r is (n+16) x.2 (by simpa using hl),←List.cons_append]
  congr 1
  cases b with
  |box ty c=>simp only[iM,List.map_cons,BK.dh];rw[gN]
  |own ok=>simp[iM,BK.dh,cc]
theorem fw:∀(rs:List RK) (m:Nat) (y:lq rs),(ai rs m y).map (·.1)=bw rs m
 |[],_,_=>rfl
 |.own ok::r,m,y=>by simp only[ai,bw,List.map_cons];rw[fw r (m+1) y.2]
 |.val _::r,m,y=>fw r (m+1) y.2
 |.eC _ _::r,m,y=>fw r (m+1) y.2
 |.agg c::r,m,y=>by
  have e1:(aT c m y.1).map (·.1)=cc c m:=gN c m y.1
  simp only[ai,bw,List.map_append]
  rw[fw r (m+1) y.2]
  exact congrArg (·++_) e1
theorem oH:∀(dh:List CK) (n:Nat) (x:pS dh),fC dh (aA dh n x)=cc dh n
 |[],_,_=>rfl
 |.val k::r,n,x=>by
  have h2:(aA (.val k::r) n x).drop k.sz=aA r (n+1) x.2:=by simp only[aA];rw[←eY k x.1,List.drop_left]
  have e:fC (.val k::r) (aA (.val k::r) n x)=fC r ((aA (.val k::r) n x).drop k.sz):=by generalize aA (.val k::r) n x=l;cases l<;>rfl
  rw[e,h2,oH r (n+1) x.2];rfl
 |.own ok::r,n,x=>by simp only[aA,fC,og,cc,List.cons_append,List.nil_append];rw[oH r (n+1) x.2]
theorem xh{hh:Heap}:∀(bs:List BK) (is:List Nat) (n:Nat) (x:vx bs),is.length=bs.length→(∀e∈bu bs is n x,hh.get e.1=some e.2)→cV bs hh is=bW bs is n
 |[],is,n,x,_,_=>by cases is<;>rfl
 |_::_,[],n,x,hl,_=>by simp at hl
 |b::r,i::is,n,x,hl,hg=>by
  simp only[bu]at hg
  simp only[cV,bW]
  rw[xh r is (n+16) x.2 (by simpa using hl) (fun e he=>hg e (List.mem_append_right _ he)),←List.cons_append]
  congr 1
  cases b with
  |box ty c =>
   simp only[jS,BK.dh]
   rw[hg (i,.box ty (aA c n x.1)) (List.mem_append_left _ (by simp only[iM];exact List.mem_cons_self))]
   simp only[]
   rw[oH]
  |own ok=>simp[jS,BK.dh,cc]
theorem j6:∀(rs:List RK) (ids:List Nat) (n m:Nat) (y:lq rs),dH rs (aP rs ids n m y)=bw rs m
 |[],_,_,_,_=>rfl
 |.own ok::r,ids,n,m,y=>by simp only[aP,dH,bw,og,List.cons_append,List.nil_append];rw[j6 r ids n (m+1) y.2]
 |.val _::r,ids,n,m,y=>by simp only[aP,dH,bw];exact j6 r ids n (m+1) y.2
 |.eC _ _::r,ids,n,m,y=>by simp only[aP,dH,bw];exact j6 r ids n (m+1) y.2
 |.agg c::r,ids,n,m,y=>by
  have e1:fC c (aA c m y.1)=cc c m:=oH c m y.1
  simp only[aP,dH,bw,AV.cells]
  rw[j6 r ids n (m+1) y.2]
  exact congrArg (·++_) e1
theorem lH:∀(rs:List RK) (ids:List Nat) (n m:Nat) (y:lq rs) (id:Nat),AV.bF id∉fM rs (aP rs ids n m y)
 |[],_,_,_,_,_=>by simp[aP,fM]
 |.own ok::r,ids,n,m,y,id=>by simp only[aP,fM];exact lH r ids n (m+1) y.2 id
 |.val k::r,ids,n,m,y,id=>by
  simp only[aP,fM,List.mem_append]
  rintro(h|h)
  ·have e:(b8 k y.1).cells=enc k y.1:=tg k y.1
   exact lE k y.1 id (e▸h)
  ·exact lH r ids n (m+1) y.2 id h
 |.eC _ _::r,ids,n,m,y,id=>by simp only[aP,fM];exact lH r ids n (m+1) y.2 id
 |.agg c::r,ids,n,m,y,id=>by
  simp only[aP,fM,AV.cells,List.mem_append]
  rintro(h|h)
  ·exact yp (hh:=[]) c m y.1 id h
  ·exact lH r ids n (m+1) y.2 id h
theorem L6{gg:aJ}{x:gg.A}{y:gg.B}{Oc:List Nat}{m8 dP:Nat→Value}{id:Nat}(hl:Oc.length=gg.bs.length)(VS:pV gg.bs gg.rs=true)(oI:b4 (pT gg)=true)
  (zT:b4 (bW gg.bs Oc id++bw gg.rs (id+128))=true) (Od:Good Z' dP (jF gg y).get w' w.heap.size (Own m8 (oG gg x)))
  {v:Value} (adp:av Z' dP (jF gg y).get w' (eQ (aP gg.rs (aM gg.bs.length) 2000 3000 y.1)) v) :
  ∃L2:List w8,dy L2=bu gg.bs Oc id y.2++ai gg.rs (id+128) y.1∧L2.map (·.1)=bW gg.bs Oc id++bw gg.rs (id+128) ∧
   Good Z' (eE dP L2) (dy L2).get w' w.heap.size (Own m8 (oG gg x))∧(∀p∈(aM gg.bs.length).zip Oc,eE dP L2 p.2=dP p.1) ∧
   av Z' (eE dP L2) (dy L2).get w' (eQ (aP gg.rs Oc id (id+128) y.1)) v:=by
 have hle:(aM gg.bs.length).length=gg.bs.length:=by simp[aM]
 have XD:b4 ((jF gg y).map (·.1))=true:=by
  unfold jF
  rw[List.map_append,lG _ _ _ _ hle,fw];exact oI
 have RW:∀e∈bu gg.bs (aM gg.bs.length) 2000 y.2,(jF gg y).get e.1=some e.2:=fun e he=>vT XD (by unfold jF;exact List.mem_append_left _ he)
 have hgr:∀e∈ai gg.rs 3000 y.1,(jF gg y).get e.1=some e.2:=fun e he=>vT XD (by unfold jF;exact List.mem_append_right _ he)
 have Cf:=xf gg.bs _ 2000 y.2 hle RW
 have SF:=lF (xb:=y.2) hle RW gg.rs (aM gg.bs.length) 3000 y.1 VS hgr
 let vsC:=aP gg.rs (aM gg.bs.length) 2000 3000 y.1
 let L2:List w8:=cr gg.bs (jF gg y) (aM gg.bs.length) Oc id y.2++cw gg.rs vsC (id+128) y.1
 have eH:dy L2=bu gg.bs Oc id y.2++ai gg.rs (id+128) y.1:=by
  show dy (_++_)=_
  rw[mo,iR _ _ _ _ _ _ Cf hl,gi]
 have eN:L2.map (·.1)=bW gg.bs Oc id++bw gg.rs (id+128):=by
  show(_++_:List w8).map _=_
  rw[List.map_append,gK _ _ _ _ _ _ Cf hl,fq]
 have eS:L2.filterMap (·.2.1)=pT gg:=by
  show(_++_:List w8).filterMap _=_
  rw[List.filterMap_append,j0 _ _ _ _ _ _ Cf hl,im _ _ _ _ SF,xh _ _ 2000 y.2 hle RW,j6];rfl
 have hn:b4 (L2.map (·.1))=true:=by rw[eN];exact zT
 have iJ:=yl (ψ:=dP) hn
 have g3:Good Z' (eE dP L2) (dy L2).get w' w.heap.size (Own m8 (oG gg x)):=by
  refine Od.rename hn (by rw[eS];exact oI) fun e he=>?_
  rcases List.mem_append.1 he with he|he
  ·exact lB Od (fun _ h=>h) gg.bs _ _ id y.2 Cf (fun i b bL _ _=>(zR gg.bs _ 2000 y.2 i RW bL).elim) (fun s _=>rfl) (fun e he=>iJ e (List.mem_append_left _ he)) e he
  ·exact jE gg.rs vsC (id+128) y.1 SF (fun s _=>rfl) e he
 refine⟨L2,eH,eN,g3,fun p hp=>?_,?_⟩
 ·obtain⟨o,ho⟩:=j4 (hh:=jF gg y) gg.bs (aM gg.bs.length) Oc id y.2 hle p hp
  exact il hn (List.mem_append_left _ ho)
 ·refine te (by rw[jU,jU]) (fun vs qX=>?_) adp
  exact rj (nb:=id) (is':=Oc) Od (fun _ h=>h) Cf hl (fun e he=>iJ e (List.mem_append_left _ he)) gg.rs vsC (id+128) y.1 vs SF (fun i b bL _ _=>(lH gg.rs _ _ _ y.1 i bL).elim) (fun e he=>iJ e (List.mem_append_right _ he)) qX
theorem L7{hh:Heap}{kx:List AV}{kept:List Nat}{l9:Hp}{m8 Oe:Nat→Value}{H2:Heap}(g:Good Z ψ hh.get w B0 O)(hB:B0≤w.heap.size)(Iz:∀s∈kept,(cz hh kx).get s=hh.get s)
  (bg:∀i ty cs,hh.get i=some (.box ty cs)→ax (fun i=>¬N i) cs) (sY:∀b,Own m8 l9 b→∃s,s∈kept∧hh.get s≠none∧ob (ψ s)=some b)
  (hz:∀b,pQ Z ψ hh.get kx b→Z' b) (Nr:∀b,Z' b→pQ Z ψ hh.get kx b∨Own m8 l9 b∨w.heap.size≤b) (keep:cW m8 l9 w w') (g3:Good Z' Oe H2.get w' w.heap.size (Own m8 l9))
  (VT:∀i ty cs,H2.get i=some (.box ty cs)→ax (fun j=>H2.get j≠none) cs) (rP:∀i,H2.get i≠none→(i∈kept∧hh.get i≠none∧Oe i=ψ i)∨N i) :
  ∃zU,(∀i,H2.get i≠none→zU i=Oe i)∧Next Z ψ hh.get w B0 O N Z' zU (H2++gG (cz hh kx) kept).get w':=by
 classical
 let zU:Nat→Value:=fun i=>if H2.get i≠none then Oe i else ψ i
 have h4:∀i,H2.get i≠none→zU i=Oe i:=fun i hi=>if_pos hi
 have hg:∀i,(H2++gG (cz hh kx) kept).get i=(match H2.get i with|some o=>some o|none=>if i∈kept then none else(cz hh kx).get i):=fun i=>by rw[Heap.get_append,nt];cases H2.get i<;>rfl
 have Ce:∀i,H2.get i≠none→(H2++gG (cz hh kx) kept).get i=H2.get i:=fun i hi=>by
  rw[hg];cases e:H2.get i with
  |none=>exact absurd e hi
  |some o=>rfl
 have xi:∀i,H2.get i=none→(H2++gG (cz hh kx) kept).get i≠none→i∉kept∧(H2++gG (cz hh kx) kept).get i=hh.get i∧(cz hh kx).get i=hh.get i∧zU i=ψ i∧hh.get i≠none:=fun i hi bq=>by
  rw[hg,hi]at bq ⊢
  simp only at bq ⊢
  by_cases hk:i∈kept
  ·rw[if_pos hk]at bq;exact absurd rfl bq
  ·rw[if_neg hk]at bq ⊢
   obtain⟨o,ho⟩:=Option.ne_none_iff_exists'.1 bq
   have:=dR _ _ _ _ ho
   exact⟨hk,by rw[ho,this],by rw[ho,this],if_neg (by simp[hi]),by rw[this];simp⟩
 have SH:∀i b,i∉kept→hh.get i≠none→ob (ψ i)=some b→¬Own m8 l9 b:=fun i b hk hi hb ho=>by
  obtain⟨s,h1,h2,h3⟩:=sY b ho
  exact hk ((g.apart i s b hi h2 hb h3)▸h1)
 have gd:Good (pQ Z ψ hh.get kx) ψ (cz hh kx).get w B0 O:=hM g kx
 have Ys:∀b,pQ Z ψ hh.get kx b→¬Own m8 l9 b:=fun b hb ho=>by
  obtain⟨s,h1,h2,h3⟩:=sY b ho
  exact(gd.live s b (by rw[Iz s h1];exact h2) h3).1 hb
 have sm:cp (pQ Z ψ hh.get kx) w w':=fun b hb=>keep.block b (gd.jx b hb) (Ys b hb)
 have Yt:∀i,(H2++gG (cz hh kx) kept).get i≠none→(hh.get i≠none∧zU i=ψ i)∨N i:=fun i hi=>by
  by_cases h2:H2.get i=none
  ·obtain⟨_,_,_,h3,h5⟩:=xi i h2 hi
   exact .inl ⟨h5,h3⟩
  ·rcases rP i h2 with⟨_,h3,h5⟩|h3
   ·exact .inl ⟨h3,(h4 i h2).trans h5⟩
   ·exact .inr h3
 have kk:cW ψ hh.get w w':=⟨keep.os,keep.tape,keep.output,keep.size,fun b hb qg=>keep.block b hb fun ho=>by
  obtain⟨s,_,h2,h3⟩:=sY b ho
  exact qg ⟨s,h2,h3⟩⟩
 refine⟨zU,h4,fun b hb=>hz b (.inl hb),fun b hb=>?_,kk,Yt,⟨fun i ty cs hb=>?_,fun i ok xs hb=>?_,fun i b h1 h2=>?_,fun i i' b h1 h2 h3 h5=>?_,g3.jx⟩⟩
 ·rcases Nr b hb with h1|h1|h1
  ·exact(h1.imp (fun h=>h) fun⟨i,_,h2,h3⟩=>.inl ⟨i,h2,h3⟩)
  ·obtain⟨s,_,h2,h3⟩:=sY b h1
   exact .inr (.inl ⟨s,h2,h3⟩)
  ·exact .inr (.inr h1)
 ·by_cases h2:H2.get i=none
  ·obtain⟨h3,h5,h6,h7,h8⟩:=xi i h2 (by rw[hb];simp)
   rw[h5]at hb
   obtain⟨gg,vs,e1,e2,e3,e4⟩:=gd.box i ty cs (by rw[h6];exact hb)
   have aF:=(Array.getElem?_eq_some_iff.1 e2).1
   refine⟨gg,vs,by rw[h7,e1],?_,?_,e4⟩
   ·rw[keep.block gg aF (SH i gg h3 h8 (by rw[e1];rfl))];exact e2
   ·refine e3.move (p:=fun i=>¬N i) hz sm (fun j hp hj=>?_) (bg i ty cs hb)
    by_cases h9:H2.get j=none
    ·obtain⟨_,_,mO,xS,Iu⟩:=xi j h9 hj
     exact⟨by rw[mO];exact Iu,xS⟩
    ·rcases rP j h9 with⟨mO,xS,Iu⟩|mO
     ·exact⟨by rw[Iz j mO];exact xS,(h4 j h9).trans Iu⟩
     ·exact absurd mO hp
  ·rw[Ce i h2]at hb
   obtain⟨gg,vs,e1,e2,e3,e4⟩:=g3.box i ty cs hb
   exact⟨gg,vs,by rw[h4 i h2,e1],e2,e3.move (p:=fun j=>H2.get j≠none) (fun _ h=>h) (cp.refl _ _) (fun j hp _=>⟨hp,h4 j hp⟩) (VT i ty cs hb),e4⟩
 ·by_cases h2:H2.get i=none
  ·obtain⟨h3,h5,h6,h7,h8⟩:=xi i h2 (by rw[hb];simp)
   rw[h5]at hb
   rw[h7]
   exact(gd.row i ok xs (by rw[h6];exact hb)).kept hz sm fun gg LH=>keep.block gg (g.bM ⟨i,h8,LH⟩) (SH i gg h3 h8 LH)
  ·rw[Ce i h2]at hb
   rw[h4 i h2]
   exact g3.row i ok xs hb
 ·by_cases h3:H2.get i=none
  ·obtain⟨h5,h6,h7,h8,h9⟩:=xi i h3 h1
   rw[h8]at h2
   obtain⟨mO,xS⟩:=gd.live i b (by rw[h7];exact h9) h2
   refine⟨fun X7=>?_,xS⟩
   rcases Nr b X7 with Iu|Iu|Iu
   ·exact mO Iu
   ·exact SH i b h5 h9 h2 Iu
   ·have:=g.bM ⟨i,h9,h2⟩;omega
  ·rw[h4 i h3]at h2
   obtain⟨h5,h6⟩:=g3.live i b h3 h2
   refine⟨h5,?_⟩
   rcases h6 with h6|h6
   ·exact .inl (by omega)
   ·obtain⟨s,_,h7,h8⟩:=sY b h6
    exact(g.live s b h7 h8).2
 ·have wW:∀i i',H2.get i=none→H2.get i'≠none→(H2++gG (cz hh kx) kept).get i≠none→ob (zU i)=some b→ob (zU i')=some b→False:=fun i i' e1 e2 e3 e4 e5=>by
   obtain⟨h6,_,_,h8,h9⟩:=xi i e1 e3
   rw[h8]at e4;rw[h4 i' e2]at e5
   rcases (g3.live i' b e2 e5).2 with mO|mO
   ·have:=g.bM ⟨i,h9,e4⟩;omega
   ·exact SH i b h6 h9 e4 mO
  by_cases e1:H2.get i=none<;>by_cases e2:H2.get i'=none
  ·obtain⟨_,_,_,h8,h9⟩:=xi i e1 h1
   obtain⟨_,_,_,h8',h9'⟩:=xi i' e2 h2
   rw[h8]at h3;rw[h8']at h5
   exact g.apart i i' b h9 h9' h3 h5
  ·exact(wW i i' e1 e2 h1 h3 h5).elim
  ·exact(wW i' i e2 e1 h2 h5 h3).elim
  ·rw[h4 i e1]at h3;rw[h4 i' e2]at h5
   exact g3.apart i i' b e1 e2 h3 h5
theorem yq{i:Nat}{o:Ob}:∀{hh:Heap},(i,o)∈hh→hh.get i≠none
 |[],h=>by cases h
 |(j,o')::r,h=>by
  simp only[Heap.get]
  split
  ·simp
  ·rename_i hn
   rcases List.mem_cons.1 h with e|h
   ·cases e;exact absurd rfl hn
   ·exact yq h
theorem get_mem{i:Nat}{o:Ob}:∀{hh:Heap},hh.get i=some o→(i,o)∈hh
 |[],h=>by simp[Heap.get]at h
 |(j,o')::r,h=>by
  simp only[Heap.get]at h
  split at h
  ·rename_i e;subst e;cases h;exact List.mem_cons_self
  ·exact List.mem_cons_of_mem _ (get_mem h)
theorem oJ{p:Nat→Prop}:∀{a b:List AV},ax p a→ax p b→ax p (a++b)
 |[],b,_,h=>h
 |x::r,b,h,h'=>by simp only[List.cons_append,ax]at h ⊢;exact⟨h.1,oJ h.2 h'⟩
theorem jV{p:Nat→Prop}:∀(dh:List CK) (n:Nat) (x:pS dh),(∀e∈aT dh n x,p e.1)→ax p (aA dh n x)
 |[],n,x,_=>by simp only[aA,ax]
 |.val k::r,n,x,h=>by simp only[aA];exact oJ (lD p k x.1) (jV r (n+1) x.2 h)
 |.own ok::r,n,x,h=>by
  simp only[aT]at h
  simp only[aA,ax,aE]
  exact⟨h _ List.mem_cons_self,jV r (n+1) x.2 fun e he=>h e (List.mem_cons_of_mem _ he)⟩
theorem mu:∀(dh:List CK) (n:Nat) (x:pS dh) (i:Nat) (ty:TypeId) (cs:List AV),(i,Ob.box ty cs)∉aT dh n x
 |[],_,_,_,_,_=>by simp[aT]
 |.val k::r,n,x,i,ty,cs=>mu r (n+1) x.2 i ty cs
 |.own _::r,n,x,i,ty,cs=>by
  simp only[aT,List.mem_cons,not_or]
  exact⟨by simp,mu r (n+1) x.2 i ty cs⟩
theorem ss{p:Nat→Prop}:∀(bs:List BK) (is:List Nat) (n:Nat) (x:vx bs),(∀e∈bu bs is n x,p e.1)→∀i ty cs,(i,Ob.box ty cs)∈bu bs is n x→ax p cs
 |[],is,n,x,_,i,ty,cs,h=>by cases is<;>simp[bu]at h
 |b::r,[],n,x,_,i,ty,cs,h=>by simp[bu]at h
 |b::r,i0::is,n,x,hp,i,ty,cs,h=>by
  simp only[bu]at h hp
  rcases List.mem_append.1 h with h|h
  ·cases b with
   |box ty0 c0 =>
    simp only[iM]at h hp
    rcases List.mem_cons.1 h with e|h
    ·cases e
     exact jV c0 n x.1 fun e he=>hp e (List.mem_append_left _ (List.mem_cons_of_mem _ he))
    ·exact absurd h (mu _ _ _ _ _ _)
   |own ok=>simp[iM]at h
  ·exact ss r is (n+16) x.2 (fun e he=>hp e (List.mem_append_right _ he)) i ty cs h
theorem mv:∀(dh:List CK) (n i:Nat),i∈cc dh n→n≤i∧i<n+dh.length
 |[],n,i,h=>by simp[cc]at h
 |.val k::r,n,i,h=>by
  have:=mv r (n+1) i (by simpa[cc] using h)
  simp only[List.length_cons];omega
 |.own ok::r,n,i,h=>by
  simp only[cc]at h
  simp only[List.length_cons]
  rcases List.mem_cons.1 h with rfl|h
  ·omega
  ·have:=mv r (n+1) i h;omega
theorem uk:∀(bs:List BK) (is:List Nat) (n i:Nat),(bs.all fun b=>decide (b.dh.length≤16))=true→i∈bW bs is n→i∈is∨(n≤i∧i<n+16*bs.length)
 |[],is,n,i,_,h=>by cases is<;>simp[bW]at h
 |b::r,[],n,i,_,h=>by simp[bW]at h
 |b::r,i0::is,n,i,hc,h=>by
  simp only[List.all_cons,Bool.and_eq_true,decide_eq_true_eq]at hc
  simp only[bW]at h
  simp only[List.length_cons]
  rcases List.mem_cons.1 h with rfl|h
  ·exact .inl List.mem_cons_self
  ·rcases List.mem_append.1 h with h|h
   ·have:=mv _ _ _ h;exact .inr (by omega)
   ·rcases uk r is (n+16) i hc.2 h with h1|h1
    ·exact .inl (List.mem_cons_of_mem _ h1)
    ·exact .inr (by omega)
theorem iW{bs:List BK}:∀(rs:List RK) (m i:Nat),pV bs rs=true→i∈bw rs m→m≤i∧i<m+rs.length+16
 |[],m,i,_,h=>by simp[bw]at h
 |.own ok::r,m,i,hk,h=>by
  simp only[pV,List.all_cons,Bool.and_eq_true]at hk
  simp only[bw]at h
  simp only[List.length_cons]
  rcases List.mem_cons.1 h with rfl|h
  ·omega
  ·have:=iW r (m+1) i hk.2 h;omega
 |.val _::r,m,i,hk,h=>by
  simp only[pV,List.all_cons,Bool.and_eq_true]at hk
  have:=iW r (m+1) i hk.2 (by simpa[bw] using h)
  simp only[List.length_cons];omega
 |.eC _ _::r,m,i,hk,h=>by
  simp only[pV,List.all_cons,Bool.and_eq_true]at hk
  have:=iW r (m+1) i hk.2 (by simpa[bw] using h)
  simp only[List.length_cons];omega
 |.agg c::r,m,i,hk,h=>by
  simp only[pV,List.all_cons,Bool.and_eq_true,Cb,decide_eq_true_eq]at hk
  simp only[bw]at h
  simp only[List.length_cons]
  rcases List.mem_append.1 h with h|h
  ·have:=mv c m i h;omega
  ·have:=iW r (m+1) i hk.2 h;omega
theorem xj{hh:Heap}:∀(bs:List BK) (is:List Nat) (i:Nat),is.length=bs.length→i∈is→i∈cV bs hh is
 |[],is,i,hl,h=>by cases is with
  |nil=>cases h
  |cons a r=>simp at hl
 |b::r,[],i,_,h=>by cases h
 |b::r,i0::is,i,hl,h=>by
  simp only[cV]
  rcases List.mem_cons.1 h with rfl|h
  ·refine List.mem_append_left _ ?_
   cases b<;>simp[jS]
  ·exact List.mem_append_right _ (xj r is i (by simpa using hl) h)
theorem Og{α β:Type}:∀{a:List α} {b:List β},a.length=b.length→∀x∈a,∃y,(x,y)∈a.zip b∧(y,x)∈b.zip a
 |[],b,_,x,h=>by cases h
 |a::r,[],hl,x,_=>by simp at hl
 |a::r,c::q,hl,x,h=>by
  simp only[List.zip_cons_cons]
  rcases List.mem_cons.1 h with rfl|h
  ·exact⟨c,List.mem_cons_self,List.mem_cons_self⟩
  ·obtain⟨y,h1,h2⟩:=Og (a:=r) (b:=q) (by simpa using hl) x h
   exact⟨y,List.mem_cons_of_mem _ h1,List.mem_cons_of_mem _ h2⟩
theorem ti:∀(dh:List CK) (n c:Nat),fG dh c=true→n+c∈cc dh n
 |[],n,c,h=>by simp[fG]at h
 |.own _::r,n,0,_=>by simp[cc]
 |.own _::r,n,c+1,h=>by
  simp only[fG]at h
  have:=ti r (n+1) c h
  simp only[cc]
  exact List.mem_cons_of_mem _ (by rwa [show n+(c+1)=n+1+c by omega])
 |.val _::r,n,0,h=>by simp[fG]at h
 |.val _::r,n,c+1,h=>by
  simp only[fG]at h
  have:=ti r (n+1) c h
  simp only[cc]
  rwa [show n+(c+1)=n+1+c by omega]
theorem xk:∀(bs:List BK) (is:List Nat) (n b i:Nat) (bk:BK),is.length=bs.length→bs[b]? = some bk→i∈cc bk.dh (n+16*b)→i∈bW bs is n
 |[],_,_,b,_,_,_,h,_=>by simp at h
 |_::_,[],_,_,_,_,hl,_,_=>by simp at hl
 |b0::r,i0::is,n,0,i,bk,hl,hb,hi=>by
  simp only[List.getElem?_cons_zero,Option.some.injEq]at hb
  subst hb
  simp only[bW]
  exact List.mem_cons_of_mem _ (List.mem_append_left _ (by simpa using hi))
 |b0::r,i0::is,n,b+1,i,bk,hl,hb,hi=>by
  simp only[List.getElem?_cons_succ]at hb
  simp only[bW]
  refine List.mem_cons_of_mem _ (List.mem_append_right _ (xk r is (n+16) b i bk (by simpa using hl) hb ?_))
  rwa [show n+16+16*b=n+16*(b+1) by omega]
theorem j7{p:Nat→Prop}{bs:List BK}{is:List Nat}(hl:is.length=bs.length):∀(rs:List RK) (ids:List Nat) (n m:Nat) (y:lq rs),pV bs rs=true→(∀i∈bw rs m,p i)→(∀i∈bW bs is n,p i)→ax p (aP rs ids n m y)
 |[],_,_,_,_,_,_,_=>by simp only[aP,ax]
 |.val k::r,ids,n,m,y,hr,h1,h2=>by
  simp only[pV,List.all_cons,Bool.and_eq_true,Cb]at hr
  simp only[aP,ax]
  exact⟨ns p k y.1,j7 hl r ids n (m+1) y.2 hr.2 (fun i hi=>h1 i hi) h2⟩
 |.own _::r,ids,n,m,y,hr,h1,h2=>by
  simp only[pV,List.all_cons,Bool.and_eq_true,Cb]at hr
  simp only[aP,ax,aE]
  exact⟨h1 m (by simp[bw]),j7 hl r ids n (m+1) y.2 hr.2 (fun i hi=>h1 i (by simp only[bw];exact List.mem_cons_of_mem _ hi)) h2⟩
 |.eC b alts::r,ids,n,m,y,hr,h1,h2=>by
  simp only[pV,List.all_cons,Bool.and_eq_true,Cb]at hr
  simp only[aP,ax]
  refine⟨?_,j7 hl r ids n (m+1) y.2 hr.2 (fun i hi=>h1 i hi) h2⟩
  cases hy:y.1 with
  |none=>simp only[tM,aE]
  |some p =>
   obtain⟨al,i⟩:=p
   simp only[tM,aE]
   cases hb:bs[b]? with
   |none=>rw[hb]at hr;exact absurd hr.1 (by simp)
   |some bk =>
    rw[hb]at hr
    simp only[Bool.and_eq_true]at hr
    exact h2 _ (xk bs is n b _ bk hl hb (ti bk.dh (n+16*b) _ (List.all_eq_true.1 hr.1.1 _ (List.get_mem alts al))))
 |.agg c::r,ids,n,m,y,hr,h1,h2=>by
  simp only[pV,List.all_cons,Bool.and_eq_true,Cb]at hr
  simp only[aP,ax,aE]
  refine⟨jV c m y.1 fun e he=>h1 _ ?_,j7 hl r ids n (m+1) y.2 hr.2 (fun i hi=>h1 i (by simp only[bw];exact List.mem_append_right _ hi)) h2⟩
  simp only[bw]
  have e1:(aT c m y.1).map (·.1)=cc c m:=gN c m y.1
  exact List.mem_append_left _ (e1▸List.mem_map.2 ⟨e,he,rfl⟩)
theorem I6{p:Nat→Prop}{vs:List AV}(h:ax p vs):aE p (eQ vs):=by
 match vs,h with
 |[],h=>simp only[eQ,aE];exact h
 |[v],h=>simp only[eQ];simp only[ax]at h;exact h.1
 |_::_::_,h=>simp only[eQ,aE];exact h
def gy(P:Program)(f:FuncId)(u:Heap→Nat→List AV→Option (Bool×bE)):Prop :=
 ∀{Z:Nat→Prop} {ψ:Nat→Value} {h:Hp} {w:World} {B0:Nat} {O N:Nat→Prop} {hh:Heap} {id:Nat} {e:bE} {vs:List AV} {us:List Value},
  Good Z ψ h w B0 O→B0≤w.heap.size→(∀id o,hh.get id=some o→h id=some o)→(∀j,j<256→N (id+j))→(∀i ty cs,h i=some (.box ty cs)→ax (fun i=>¬N i) cs)→(∀v hw,e=.wr v hw→hh.get=h) →
  ak Z ψ h w vs us→ax (fun i=>¬N i) vs→u hh id vs=some (true,e) →
  Calls P f us.toArray w fun en w'=>∃V Z' ψ',en=.returned V∧Next Z ψ h w B0 O N Z' ψ' (e.hp h) w'∧av Z' ψ' (e.hp h) w' e.v V
theorem SI{R:Type}{n:Nat}(a:Fin n)(f:Fin n→Option R):X5 n a f=f a:=by
 have key:∀l:List (Fin n),a∈l→l.foldr (fun j r=>cond (a.val==j.val) (f j) r) none=f a:=by
  intro l
  induction l with
  |nil=>intro h;cases h
  |cons j r ih =>
   intro h
   simp only[List.foldr_cons]
   by_cases e:a=j
   ·subst e;simp
   ·have:(a.val==j.val)=false:=by simp only[beq_eq_false_iff_ne,ne_eq];exact fun h=>e (Fin.ext h)
    rw[this,cond_false]
    rcases List.mem_cons.1 h with h|h
    ·exact absurd h e
    ·exact ih h
 exact key _ (List.mem_finRange a)
theorem iq{R:Type}:∀(rs:List RK) (x:lq rs) (K:lq rs→Option R),jv rs x K=K x
 |[],_,_=>rfl
 |.val _::r,x,K=>by simp only[jv];rw[iq r x.2];rfl
 |.own _::r,x,K=>by simp only[jv];rw[iq r x.2];rfl
 |.agg _::r,x,K=>by simp only[jv];rw[iq r x.2];rfl
 |.eC _ alts::r,x,K=>by
  simp only[jv]
  obtain⟨x1,x2⟩:=x
  cases x1 with
  |none=>simp only[pW];rw[iq r x2]
  |some p=>simp only[pW];rw[SI,iq r x2]
theorem I7(hX:∀f g u,Sg f=some g→g.x=some u→gy P (f%1000) u)(hF:∀f g x y,Sg f=some g→F f g x=some y→CX P f g x y)(L8:∀f g,Sg f=some g→iU P (f%1000))
  {hh:Heap} {ρC:Operand→Value} {o:Oper} (g:Good Z ψ h w B0 O) (hB:B0≤w.heap.size) (bz:∀id o,hh.get id=some o→h id=some o) {id:Nat} (hN:∀j,j<256→N (id+j)) {e:bE}
  (bg:∀i ty cs,h i=some (.box ty cs)→ax (fun i=>¬N i) cs) (mT:∀v hw,e=.wr v hw→hh.get=h) {f:FuncId} {cap vs:List AV} {fv:Value} {us:List Value}
  (SJ:av Z ψ h w (.fn f cap) fv) (qX:ak Z ψ h w vs us) (CS:ax (fun i=>¬N i) (vs++cap)) (hex:∀(ws:Array Value),fv=.func (.func f) #[] ws→execOp ρC o=callFunc f (us.toArray++ws))
  (he:iO Sg F hh id f (vs++cap) some=some e):Us P ρC o Z ψ h w B0 O N e:=by
 unfold iO at he
 split at he
 ·cases he
 rename_i gg hSg
 simp only[av]at SJ
 obtain⟨ws,rfl,VU⟩:=SJ
 have CY:=L8 _ _ hSg
 have kJ:ak Z ψ h w (vs++cap) (us++ws.toList):=ak.append qX VU
 have Ei:ak Z ψ hh.get w (vs++cap) (us++ws.toList):=kJ.pI bz
 have gs:Good Z ψ hh.get w B0 O:=g.sub bz
 have Oh:us.toArray++ws=(us++ws.toList).toArray:=by simp
 split at he
 ·rename_i u hu
  split at he
  ·rename_i hf
   obtain⟨⟨b,e'⟩,Yu,RQ⟩:=Option.bind_eq_some_iff.1 he
   cases b with
   |false=>cases RQ
   |true =>
   cases RQ
   have F4:keyOf Sg f (vs++cap)%1000=f:=by rw[vP];exact Nat.mod_eq_of_lt hf
   have hx:gy P f u:=by rw[←F4];exact hX _ _ _ hSg hu
   rw[F4]at CY
   refine⟨f,us.toArray++ws,by rw[hex ws rfl];exact iV CY _,?_⟩
   rw[Oh]
   exact hx g hB bz hN bg mT kJ CS Yu
  ·cases he
 split at he
 ·rename_i i0 rP Ej
  split at he
  ·rename_i L9
   simp only[Bool.and_eq_true,List.isEmpty_iff]at L9
   obtain⟨rfl,_⟩:=L9
   split at he
   rotate_left
   ·cases he
   rename_i x b hx hb qh
   obtain⟨y,hy,he⟩:=Option.bind_eq_some_iff.1 he
   simp only[NJ,Bool.and_eq_true,decide_eq_true_eq]at Ej
   obtain⟨_,_,⟨hlen,hf⟩,_⟩:=Ej
   have Cj:=(hF _ _ _ _ hSg hy).zero (F2 hb)
   have F4:keyOf Sg f (vs++cap)%1000=f:=by rw[vP];exact Nat.mod_eq_of_lt hf
   rw[F4]at CY
   have hN':∀j,j<gg.rs.length+16→N (id+128+j):=fun j hj=>by rw[Nat.add_assoc];exact hN _ (by omega)
   refine⟨f,us.toArray++ws,by rw[hex ws rfl];exact iV CY _,?_⟩
   rw[Oh]
   unfold Yj at Cj
   rw[F4]at Cj
   by_cases qg:pU (vs++cap)=true
   ·rw[qg,Bool.or_true]at he
    cases he
    have h1:ak Z Iy fQ w (CU gg x) (us++ws.toList):=zM gs (fun _ h=>h) gg.ps 0 _ _ x (fun v hv i b hi _ _=>(qi qg v hv i hi).elim) rP hx Ei
    refine(Cj Z w _ g.jx h1).mono fun en w' ⟨v,Z',ψ',e1,h2,h3,h4,h5,h6⟩=>?_
    obtain⟨th,n,hr⟩:=vQ (nb:=id) qh g hB bg hN' h4 h2 h3 h5 h6
    exact⟨v,Z',th,e1,n,hr⟩
   ·cases hfl:gg.rs.all RK.flat with
    |true =>
     rw[hfl,Bool.true_or]at he
     cases he
     let Zc:Nat→Prop:=fun b=>b<w.heap.size
     have h1:ak Zc Iy fQ w (CU gg x) (us++ws.toList):=zM gs g.jx gg.ps 0 _ _ x (fun v hv i b hi h1 h2=>gs.bM ⟨i,h1,h2⟩) rP hx Ei
     refine(Cj Zc w _ (fun _ h=>h) h1).mono fun en w' ⟨v,Z',ψ',e1,h2,h3,h4,h5,h6⟩=>?_
     have Yv:=LZ gg.rs 3000 y.1 hfl qh
     have h7:av Z ψ' (ai gg.rs 3000 y.1).get w' (eQ (aP gg.rs [] 2000 3000 y.1)) v:=te rfl (fun vs qX=>N8 gg.rs hfl qh qX) h6
     have gz:Good Z ψ' (ai gg.rs 3000 y.1).get w' w.heap.size (fun _=>False):=by
      rw[Yv]
      exact⟨fun _ _ _ hb=>by simp[Heap.get]at hb,fun _ _ _ hb=>by simp[Heap.get]at hb,fun _ _ hb=>by simp[Heap.get]at hb,fun _ _ _ hb=>by simp[Heap.get]at hb,fun b hb=>Nat.lt_of_lt_of_le (g.jx b hb) h4.size⟩
     obtain⟨th,n,hr⟩:=vQ (nb:=id) qh g hB bg hN' h4 (fun _ h=>h) (fun _ h=>.inl h) gz h7
     exact⟨v,Z,th,e1,n,hr⟩
    |false =>
     rw[hfl,Bool.false_or,Bool.eq_false_iff.2 qg]at he
     cases he
     have heq:=mT _ _ rfl
     subst heq
     let cs:=de gg.ps (vs++cap)
     have Sq:∀b,pQ Z ψ hh.get cs b→Z b∨Own ψ hh.get b:=fun b hb=>hb.imp (fun h=>h) (fun⟨i,_,h2,h3⟩=>⟨i,h2,h3⟩)
     have gd:Good (pQ Z ψ hh.get cs) ψ (cz hh cs).get w B0 O:=hM g cs
     have h1:ak (pQ Z ψ hh.get cs) Iy fQ w (CU gg x) (us++ws.toList) :=
      zM gs (fun _ h=>.inl h) gg.ps 0 _ _ x (fun v hv i b hi h1 h2=>.inr ⟨i,ui _ _ rP v hv i hi,h1,h2⟩) rP hx Ei
     refine(Cj _ w _ gd.jx h1).mono fun en w' ⟨v,Z',ψ',e1,h2,h3,h4,h5,h6⟩=>?_
     obtain⟨th,n,hr⟩:=vQ (nb:=id) qh gd hB (fun i ty cs hb=>bg i ty cs (dR _ _ _ _ hb)) hN' h4 h2 h3 h5 h6
     have e2:(bE.wr (eQ (aP gg.rs [] id (id+128) y.1)) (ai gg.rs (id+128) y.1++cz hh (de gg.ps (vs++cap)))).hp hh.get=(fun i=>match (ai gg.rs (id+128) y.1).get i with|some o=>some o|none=>(cz hh cs).get i):=by
      funext i
      simp only[bE.hp]
      rw[Heap.get_append]
      cases (ai gg.rs (id+128) y.1).get i<;>rfl
     rw[e2]
     exact⟨v,Z',th,e1,n.drop (fun _ h=>.inl h) Sq (dR _ _),hr⟩
  ·split at he
   rotate_left
   ·cases he
   rename_i x b hx hb Ck
   obtain⟨y,hy,he⟩:=Option.bind_eq_some_iff.1 he
   rw[iq]at he
   cases he
   have heq:=mT _ _ rfl
   subst heq
   simp only[NJ,Bool.and_eq_true,decide_eq_true_eq]at Ej
   obtain⟨VS,⟨hbl,tI⟩,⟨hlen,hf⟩,oI⟩:=Ej
   rw[Bool.and_eq_true]at Ck
   have Cj:=hF _ _ _ _ hSg hy
   have F4:keyOf Sg f (vs++cap)%1000=f:=by rw[vP];exact Nat.mod_eq_of_lt hf
   rw[F4]at CY
   refine⟨f,us.toArray++ws,by rw[hex ws rfl];exact iV CY _,?_⟩
   rw[Oh]
   unfold CX at Cj
   rw[F4]at Cj
   have hl:i0.length=gg.bs.length:=(iS _ _ _ hb).1
   have zX:=(iS _ _ _ hb).2
   have hle:(aM gg.bs.length).length=gg.bs.length:=by simp[aM]
   let kx:=de gg.ps (vs++cap)++fL gg.bs hh i0
   let L1:List w8:=cr gg.bs hh i0 (aM gg.bs.length) 2000 b
   have eH1:dy L1=bu gg.bs (aM gg.bs.length) 2000 b:=iR _ _ _ _ _ _ hb hle
   have eN1:L1.map (·.1)=bW gg.bs (aM gg.bs.length) 2000:=gK _ _ _ _ _ _ hb hle
   have eS1:L1.filterMap (·.2.1)=cV gg.bs hh i0:=j0 _ _ _ _ _ _ hb hle
   have Uu:b4 (L1.map (·.1))=true:=by rw[eN1];exact F3 oI
   have VO:=yl (ψ:=ψ) Uu
   have Iz:=(ri Ck.1).2 hh
   have w4:∀b,Z b→pQ Z ψ hh.get kx b:=fun b hb=>.inl hb
   have Yw:∀e∈L1,ug (pQ Z ψ hh.get kx) ψ (cz hh kx).get w (dy L1).get (eE ψ L1) e:=fun e he =>
    lB gs w4 gg.bs _ _ 2000 b hb (fun i b bL h1 h2=>.inr ⟨i,List.mem_append_right _ bL,h1,h2⟩) Iz VO e he
   have gin:Good (pQ Z ψ hh.get kx) (eE ψ L1) (dy L1).get w B0 O:=vO gs Ck.1 Uu eS1 Yw
   have ein:(dy L1).get=oG gg (x,b):=by rw[eH1];rfl
   have Oi:∀p∈i0.zip (aM gg.bs.length),(p.2,some p.1)∈L1.map (fun e=>(e.1,e.2.1)):=fun p hp=>by
    obtain⟨o,ho⟩:=j4 (hh:=hh) gg.bs i0 (aM gg.bs.length) 2000 b hl p hp
    exact List.mem_map.2 ⟨_,ho,rfl⟩
   have Yx:∀p∈i0.zip (aM gg.bs.length),eE ψ L1 p.2=ψ p.1:=fun p hp=>by
    obtain⟨⟨i,s,o⟩,ho,he⟩:=List.mem_map.1 (Oi p hp)
    cases he
    exact il Uu ho
   have VV:ak (pQ Z ψ hh.get kx) (eE ψ L1) (dy L1).get w (Ef gg (x,b)) (us++ws.toList) :=
    la gs w4 gg.ps i0 (aM gg.bs.length) 0 _ _ x (by rw[hle,hl]) rP hx (fun i b bL h1 h2=>.inr ⟨i,List.mem_append_left _ bL,h1,h2⟩)
     (fun p hp=>⟨zX _ (List.of_mem_zip hp).1,fun _=>Yx p hp⟩) Ei
   have sY:∀c,Own (eE ψ L1) (oG gg (x,b)) c→∃s,s∈cV gg.bs hh i0∧hh.get s≠none∧ob (ψ s)=some c:=fun c ⟨i,h1,h2⟩=>by
    rw[←ein]at h1
    obtain⟨o,ho⟩:=Option.ne_none_iff_exists'.1 h1
    obtain⟨s,hm⟩:=nr ho
    rw[il Uu hm]at h2
    cases s with
    |none=>simp[jC,ob]at h2
    |some s =>
     have hs:s∈cV gg.bs hh i0:=by rw[←eS1];exact List.mem_filterMap.2 ⟨_,hm,rfl⟩
     refine⟨s,hs,?_,h2⟩
     have h3:=Yw _ hm
     rw[←Iz s hs]
     cases o with
     |box ty cs=>obtain⟨⟨cs0,h4⟩,_⟩:=h3;rw[h4];simp
     |own ok xs=>rw[show(cz hh kx).get s=some (.own ok xs) from h3];simp
   refine(Cj (pQ Z ψ hh.get kx) (eE ψ L1) w (us++ws.toList) (by rw[←ein];exact gin.Eh _) (by rw[←ein];exact VV)).mono fun en w' ⟨v,Z',dP,e1,h2,h3,h4,h5,h6,h7⟩=>?_
   obtain⟨L2,Yy,eN2,g3,Yc,VW⟩:=L6 (x:=(x,b)) (y:=y) (id:=id) hl VS oI Ck.2 h5 h7
   have VT:∀i ty cs,(dy L2).get i=some (.box ty cs)→ax (fun j=>(dy L2).get j≠none) cs:=fun i ty cs hg=>by
    have iX:=get_mem hg
    rw[Yy]at iX
    rcases List.mem_append.1 iX with iX|iX
    ·exact ss gg.bs _ id y.2 (fun e he=>by rw[Yy];exact yq (o:=e.2) (List.mem_append_left _ he)) i ty cs iX
    ·exfalso
     have:∀(rs:List RK) (m:Nat) (y:lq rs),(i,Ob.box ty cs)∉ai rs m y:=by
      intro rs
      induction rs with
      |nil=>intro m y;simp[ai]
      |cons r rs ih =>
       intro m y
       cases r with
       |agg c=>simp only[ai,List.mem_append,not_or];exact⟨mu _ _ _ _ _ _,ih (m+1) y.2⟩
       |val k=>exact ih (m+1) y.2
       |eC _ _=>exact ih (m+1) y.2
       |own ok=>simp only[ai,List.mem_cons,not_or];exact⟨by simp,ih (m+1) y.2⟩
     exact this _ _ _ iX
   have Yz:∀i,(dy L2).get i≠none→(i∈cV gg.bs hh i0∧hh.get i≠none∧eE dP L2 i=ψ i)∨N i:=fun i hi=>by
    obtain⟨o,ho⟩:=Option.ne_none_iff_exists'.1 hi
    obtain⟨s,hm⟩:=nr ho
    have iX:i∈bW gg.bs i0 id++bw gg.rs (id+128):=by rw[←eN2];exact List.mem_map.2 ⟨_,hm,rfl⟩
    have hNr:∀i,id≤i→i<id+256→N i:=fun i h1 h2=>by
     have:=hN (i-id) (by omega)
     rwa [show id+(i-id)=i by omega]at this
    rcases List.mem_append.1 iX with iX|iX
    ·rcases uk _ _ _ _ tI iX with h8|h8
     ·refine .inl ⟨xj _ _ _ hl h8,zX i h8,?_⟩
      obtain⟨ee,h9,mO⟩:=Og (by rw[hle,hl]) i h8
      rw[Yc (ee,i) mO]
      have xS:ee∈aM gg.bs.length:=(List.of_mem_zip mO).1
      rw[h6 ee xS]
      exact Yx (i,ee) h9
     ·exact .inr (hNr i h8.1 (by omega))
    ·have h8:=iW _ _ _ VS iX
     exact .inr (hNr i (by omega) (by omega))
   obtain⟨zU,h8,nx⟩:=L7 (N:=N) gs hB Iz bg sY h2 h3 h4 g3 VT Yz
   have eH3:(bE.wr (eQ (aP gg.rs i0 id (id+128) y.1)) (bu gg.bs i0 id y.2++(ai gg.rs (id+128) y.1++gG (cz hh (de gg.ps (vs++cap)++fL gg.bs hh i0)) (cV gg.bs hh i0)))).hp hh.get =
     (dy L2++gG (cz hh kx) (cV gg.bs hh i0)).get:=by
    rw[Yy,List.append_assoc];rfl
   rw[eH3]
   refine⟨v,Z',zU,e1,nx,?_⟩
   refine VW.move (p:=fun j=>(dy L2).get j≠none) (fun _ h=>h) (cp.refl _ _) (fun j hp _=>⟨hp,h8 j hp⟩) ?_
   refine I6 (j7 hl gg.rs _ id (id+128) y.1 VS (fun i hi=>?_) fun i hi=>?_)
   ·rw[←fw gg.rs (id+128) y.1]at hi
    obtain⟨e,he,rfl⟩:=List.mem_map.1 hi
    rw[Yy];exact yq (o:=e.2) (List.mem_append_right _ he)
   ·rw[←lG gg.bs i0 id y.2 hl]at hi
    obtain⟨e,he,rfl⟩:=List.mem_map.1 hi
    rw[Yy];exact yq (o:=e.2) (List.mem_append_left _ he)
 ·cases he
end Go.Vs
namespace Go.Vs
variable {P:Program} {Eqs:TypeId→Option K} {Sg:FuncId→Option aJ} {F:(f:FuncId)→(g:aJ)→g.A→Option g.B} {R:Type} {k:bE→Option R}
theorem bO{c:Bool}{e:bE}:cond c (k e) none=(cond c (some e) none).bind k:=by cases c<;>rfl
theorem bH{c:Bool}{e:bE}:cond c none (k e)=(cond c none (some e)).bind k:=by cases c<;>rfl
theorem bI{c:Bool}{e e':bE}:cond c (k e) (k e')=(cond c (some e) (some e')).bind k:=by cases c<;>rfl
theorem bP{α:Type}(o:Option α)(f:α→Option R)(g:α→Option bE)(h:∀x,f x=(g x).bind k):o.bind f=(o.bind g).bind k:=by cases o with
 |none=>rfl
 |some x=>exact h x
theorem I8{h:Heap}{id:Nat}{t:TypeId}{s x:AV}:nh P h id t s x k=(nh P h id t s x some).bind k:=by unfold nh;repeat' (first|rfl|exact bO|exact bH | exact bI|(refine bP _ _ _ (fun _=>?_))|split)
theorem Ma{h:Heap}{t:TypeId}{s x:AV}:qP P h t s x k=(qP P h t s x some).bind k:=by unfold qP;repeat' (first|rfl|exact bO|exact bH | exact bI|(refine bP _ _ _ (fun _=>?_))|split)
theorem Oj{h:Heap}{t:TypeId}{s:AV}:lr P h t s k=(lr P h t s some).bind k:=by unfold lr;repeat' (first|rfl|exact bO|exact bH | exact bI|(refine bP _ _ _ (fun _=>?_))|split)
theorem Cl{h:Heap}{t:TypeId}{s x:AV}:dt P h t s x k=(dt P h t s x some).bind k:=by unfold dt;repeat' (first|rfl|exact bO|exact bH | exact bI|(refine bP _ _ _ (fun _=>?_))|split)
theorem Ol{x:AV}{lo hi mx:Option AV}:vA x lo hi mx k=(vA x lo hi mx some).bind k:=by unfold vA;repeat' (first|rfl|exact bO|exact bH | exact bI|(refine bP _ _ _ (fun _=>?_))|split)
theorem Mb{h:Heap}{sz:Nat}{x:AV}{lo hi mx:Option AV}:oc h sz x lo hi mx k=(oc h sz x lo hi mx some).bind k:=by unfold oc;repeat' (first|rfl|exact bO|exact bH | exact bI|(refine bP _ _ _ (fun _=>?_))|split)
theorem SK{h:Heap}{x:AV}:CF h x k=(CF h x some).bind k:=by unfold CF;repeat' (first|rfl|exact bO|exact bH | exact bI|(refine bP _ _ _ (fun _=>?_))|split)
theorem SL{op:BinOp}{t:TypeId}{x y:AV}:wS P Eqs op t x y k=(wS P Eqs op t x y some).bind k:=by unfold wS;repeat' (first|rfl|exact bO|exact bH | exact bI|(refine bP _ _ _ (fun _=>?_))|split)
theorem F5(rs:List RK)(x:lq rs)(f:lq rs→Option R)(g:lq rs→Option bE)(h:∀z,f z=(g z).bind k):jv rs x f=(jv rs x g).bind k:=by rw[iq,iq];exact h x
theorem Om{h:Heap}{id:Nat}{f:FuncId}{vs:List AV}:iO Sg F h id f vs k=(iO Sg F h id f vs some).bind k:=by unfold iO;repeat' (first|rfl|exact bO|exact bH | exact bI|(refine bP _ _ _ (fun _=>?_))|(refine F5 _ _ _ _ (fun _=>?_))|split)
theorem On{id:Nat}{t:TypeId}{vs:List AV}:vE id t vs k=(vE id t vs some).bind k:=rfl
theorem Mc{t:TypeId}{ps:List (Nat×AV)}:qS P t ps k=(qS P t ps some).bind k:=by unfold qS;repeat' (first|rfl|exact bO|exact bH | exact bI|(refine bP _ _ _ (fun _=>?_))|split)
theorem Ek{h:Heap}{id:Nat}{t:TypeId}{n:Nat}{ps:List (Nat×AV)}:tN P h id t n ps k=(tN P h id t n ps some).bind k:=by unfold tN;repeat' (first|rfl|exact bO|exact bH | exact bI|(refine bP _ _ _ (fun _=>?_))|split)
theorem Oo{kx:Bool}{h:Heap}{id:Nat}{t:TypeId}{n:Nat}{ps:List (Nat×AV)}:vF P kx h id t n ps k=(vF P kx h id t n ps some).bind k:=by
 unfold vF
 rw[Ek,Ek (k:=fun e=>some (if kx then Si e else e)),Option.bind_assoc]
 rfl
theorem Oq{s d:TypeId}{x:AV}:zc P s d x k=(zc P s d x some).bind k:=by unfold zc;repeat' (first|rfl|exact bO|exact bH | exact bI|(refine bP _ _ _ (fun _=>?_))|split)
theorem VX{b:Bool}{vs:List AV}:LF b vs k=(LF b vs some).bind k:=by unfold LF;repeat' (first|rfl|exact bO|exact bH | exact bI|(refine bP _ _ _ (fun _=>?_))|split)
theorem Ot{h:Heap}{x:AV}:vB h x k=(vB h x some).bind k:=by unfold vB;repeat' (first|rfl|exact bO|exact bH | exact bI|(refine bP _ _ _ (fun _=>?_))|split)
theorem F6{id:Nat}{t:TypeId}:k9 P Eqs id t k=(k9 P Eqs id t some).bind k:=by unfold k9;repeat' (first|rfl|exact bO|exact bH | exact bI|(refine bP _ _ _ (fun _=>?_))|split)
theorem I9{h:Heap}{t:TypeId}{m i:AV}{ok:Bool}:ni P Eqs h t m i ok k=(ni P Eqs h t m i ok some).bind k:=by unfold ni;repeat' (first|rfl|exact bO|exact bH | exact bI|(refine bP _ _ _ (fun _=>?_))|split)
theorem Ja{h:Heap}{t:TypeId}{m i v:AV}:ij P Eqs h t m i v k=(ij P Eqs h t m i v some).bind k:=by unfold ij;repeat' (first|rfl|exact bO|exact bH | exact bI|(refine bP _ _ _ (fun _=>?_))|split)
theorem Jb{h:Heap}{t:TypeId}{m i:AV}:nj P Eqs h t m i k=(nj P Eqs h t m i some).bind k:=by unfold nj;repeat' (first|rfl|exact bO|exact bH | exact bI|(refine bP _ _ _ (fun _=>?_))|split)
theorem Jc{id:Nat}{t:TypeId}{x:AV}:nk P id t x k=(nk P id t x some).bind k:=by unfold nk;repeat' (first|rfl|exact bO|exact bH | exact bI|(refine bP _ _ _ (fun _=>?_))|split)
theorem Md{h:Heap}{x:AV}:qQ h x k=(qQ h x some).bind k:=by unfold qQ;repeat' (first|rfl|exact bO|exact bH | exact bI|(refine bP _ _ _ (fun _=>?_))|split)
theorem Me{h:Heap}{x:AV}:qR h x k=(qR h x some).bind k:=by unfold qR;repeat' (first|rfl|exact bO|exact bH | exact bI|(refine bP _ _ _ (fun _=>?_))|split)
theorem lf{id:Nat}{h:Heap}{s:List (Nat×AV)}{o:Oper}:cM P Eqs Sg F id h s o k=(cM P Eqs Sg F id h s o some).bind k:=by
 obtain⟨dst,op,type,pos,after,guard⟩:=o
 cases op<;>simp only[cM] <;>
  repeat' (first|rfl|exact Oo|exact I8|exact Ma|exact Oj|exact Cl|exact Ol|exact Mb|exact SK|exact SL|exact Om|exact On|exact Mc|exact Ek|exact Oq|exact VX|exact Ot|exact F6|exact I9|exact Ja|exact Jb|exact Jc|exact Md|exact Me|exact bO|(refine bP _ _ _ (fun _=>?_))|split)
theorem Mf{id:Nat}{h h':Heap}{s:List (Nat×AV)}{o:Oper}(hf:mK o.op=true):cM P Eqs Sg F id h s o k=cM P Eqs Sg F id h' s o k:=by
 obtain⟨dst,op,type,pos,after,guard⟩:=o
 cases op<;>simp[mK]at hf<;>first|rfl|(rename_i u _ _;cases u<;>rfl)
theorem SM{op:BinOp}{t:TypeId}{x y:AV}{e:bE}(he:wS P Eqs op t x y some=some e):∃v,e=.val v:=by
 unfold wS at he
 repeat' (first|(cases he;done)|exact⟨_,(Option.some.inj he).symm⟩|split at he)
 all_goals
  unfold cond at he
  split at he<;>first|(cases he;done)|exact⟨_,(Option.some.inj he).symm⟩
theorem F7{id:Nat}{h:Heap}{s:List (Nat×AV)}{o:Oper}{e:bE}(hf:mK o.op=true)(he:cM P Eqs Sg F id h s o some=some e):∃v,e=.val v:=by
 obtain⟨dst,op,type,pos,after,guard⟩:=o
 cases op<;>simp only[mK]at hf<;>first|(cases hf;done)|skip
 case unOp u t x =>
  cases u<;>simp only[cM]at he<;>repeat' (first|(cases he;done)|exact⟨_,(Option.some.inj he).symm⟩|split at he)
 case makeFunc fn first cap =>
  cases fn<;>simp only[cM]at he<;>repeat' (first|(cases he;done)|exact⟨_,(Option.some.inj he).symm⟩|split at he)
 all_goals simp only[cM]at he
 case binOp=>exact SM he
 case slice =>
  repeat' (first|(cases he;done)|split at he)
  all_goals
   first|unfold vA at he|unfold oc at he
   repeat' (first|(cases he;done)|exact⟨_,(Option.some.inj he).symm⟩|split at he)
   all_goals
    unfold cond at he
    split at he<;>first|(cases he;done)|exact⟨_,(Option.some.inj he).symm⟩
 case build =>
  unfold qS at he
  repeat' (first|(cases he;done)|exact⟨_,(Option.some.inj he).symm⟩|split at he)
 all_goals
  repeat' (first|(cases he;done)|exact⟨_,(Option.some.inj he).symm⟩|split at he)
end Go.Vs
namespace Go.Vs
variable {P:Program} {Eqs:TypeId→Option K} {Sg:FuncId→Option aJ} {F:(f:FuncId)→(g:aJ)→g.A→Option g.B} {R:Type}
variable {Z Z' Z0:Nat→Prop} {ψ ψ' ψ0:Nat→Value} {h h':Hp} {w w' w0:World} {B0:Nat} {O N:Nat→Prop}
structure Env(P:Program)(Eqs:TypeId→Option K)(Sg:FuncId→Option aJ)(F:(f:FuncId)→(g:aJ)→g.A→Option g.B):Prop where
 eqs:∀t k,Eqs t=some k→ly P t k
 con:∀f g x y,Sg f=some g→F f g x=some y→CX P f g x y
 spec:∀f g u,Sg f=some g→g.x=some u→gy P (f%1000) u
 F8:∀f g,Sg f=some g→iU P (f%1000)
theorem F9{s:List (Nat×AV)}{ρC:Operand→Value}:∀(l:List Operand),(∀x∈l,av Z ψ h w (ρ s x) (ρC x))→ak Z ψ h w (l.map (ρ s)) (l.map ρC)
 |[],_=>by simp[ak]
 |x::r,hx=>by
  simp only[List.map_cons,ak]
  exact⟨_,_,rfl,hx x List.mem_cons_self,F9 r fun y hy=>hx y (List.mem_cons_of_mem _ hy)⟩
theorem CZ{s:List (Nat×AV)}{p:Nat→Prop}:∀(l:List Operand),(∀x∈l,aE p (ρ s x))→ax p (l.map (ρ s))
 |[],_=>by simp[ax]
 |x::r,hx=>by
  simp only[List.map_cons,ax]
  exact⟨hx x List.mem_cons_self,CZ r fun y hy=>hx y (List.mem_cons_of_mem _ hy)⟩
theorem Uv(E:Env P Eqs Sg F){hh:Heap}{a:Act}{s:List (Nat×AV)}{o:Oper}(g:Good Z ψ h w B0 O)(hB:B0≤w.heap.size)(bz:∀id o,hh.get id=some o→h id=some o){id:Nat}(hN:makes o.op=true→∀j,j<256→N (id+j)){e:bE}
  (m6:∀x∈o.op.operands,av Z ψ h w (ρ s x) (a.eval x)) (hm:∀x∈o.op.operands,aE (fun i=>¬N i) (ρ s x)) (bg:∀i ty cs,h i=some (.box ty cs)→ax (fun i=>¬N i) cs) (mT:∀v hw,e=.wr v hw→hh.get=h)
  (he:cM P Eqs Sg F id hh s o some=some e) {next:Act→World→Prop} {Q:Exit→Act→World→Prop}
  (hk:∀V w' Z' ψ',Next Z ψ h w B0 O N Z' ψ' (e.hp h) w'→av Z' ψ' (e.hp h) w' e.v V→next (a.put o.dst V) w'):o.wp P a w next Q:=by
 have d:gI P a.eval o Z ψ h w B0 O N e∨Us P a.eval o Z ψ h w B0 O N e:=by
  cases Ix:uf o with
  |false=>exact .inl (N4 E.eqs g hB bz (fun hm=>by simpa using hN hm 0 (by decide)) m6 hm bg mT Ix he)
  |true =>
   refine .inr ?_
   obtain⟨dst,op,type,pos,after,guard⟩:=o
   cases op<;>simp[uf]at Ix
   rename_i c
   obtain⟨callee,args,argTypes⟩:=c
   cases callee<;>simp at Ix
   rename_i fo
   simp only[cM]at he
   split at he
   ·rename_i f cap hf
    simp only[Op.operands,Call.operands]at m6
    have h1:=m6 fo (by simp)
    rw[hf]at h1
    have h2:ak Z ψ h w (args.toList.map (ρ s)) (args.toList.map a.eval):=F9 _ fun x hx=>m6 x (by simp;exact .inr (by simpa using hx))
    have hmf:=hm fo (by simp[Op.operands,Call.operands])
    rw[hf]at hmf
    simp only[aE]at hmf
    have hma:ax (fun i=>¬N i) (args.toList.map (ρ s)):=CZ _ fun x hx=>hm x (by simp[Op.operands,Call.operands];exact .inr (by simpa using hx))
    refine I7 E.spec E.con E.F8 g hB bz (hN rfl) bg mT h1 h2 (oJ hma hmf) (fun ws VU=>?_) he
    simp only[execOp,resolve,VU,Deferred.ofValue]
    simp only[pure_bind,invoke]
    congr 1
    apply Array.ext'
    simp
   ·cases he
 unfold Oper.wp
 rcases d with⟨V,w',Z',ψ',h1,h2,h3⟩|⟨f,args,h1,h2⟩
 ·rcases h1 with h1|⟨h1,rfl⟩
  ·rw[h1];exact hk V w' Z' ψ' h2 h3
  ·rw[h1];exact hk undef w' Z' ψ' h2 h3
 ·rw[h1,Oper.upon_enter]
  refine h2.mono fun en w' ⟨V,Z',ψ',e1,n,hr⟩=>?_
  subst e1
  exact hk V w' Z' ψ' n hr
structure Ok(Z0:Nat→Prop)(w0:World)(O:Nat→Prop)(ψ0:Nat→Value)(Z:Nat→Prop)(ψ:Nat→Value)(h:Hp)(w:World):Prop where
 dL:Good Z ψ h w w0.heap.size O
 fD:∀b,Z0 b→Z b
 dY:∀b,Z b→Z0 b∨O b∨w0.heap.size≤b
 os:w.os=w0.os
 tape:w.tape=w0.tape
 output:w.output=w0.output
 size:w0.heap.size≤w.heap.size
 block:∀b,b<w0.heap.size→¬O b→w.heap[b]? = w0.heap[b]?
 fix:∀i,i<2000→h i≠none→ψ i=ψ0 i
theorem Ok.next(k:Ok Z0 w0 O ψ0 Z ψ h w)(hN:∀id,N id→2000≤id)(n:Next Z ψ h w w0.heap.size O N Z' ψ' h' w'):Ok Z0 w0 O ψ0 Z' ψ' h' w':=by
 have own:∀b,Own ψ h b→w0.heap.size≤b∨O b:=fun b ⟨id,h1,h2⟩=>(k.dL.live id b h1 h2).2
 refine⟨n.dL,fun b hb=>n.fD b (k.fD b hb),fun b hb=>?_,n.keep.os.trans k.os,n.keep.tape.trans k.tape,n.keep.output.trans k.output,Nat.le_trans k.size n.keep.size,fun b hb ho=>?_,fun i hi bq=>?_⟩
 ·rcases n.dY b hb with h1|h1|h1
  ·exact k.dY b h1
  ·exact .inr (own b h1).symm
  ·exact .inr (.inr (Nat.le_trans k.size h1))
 ·rw[n.keep.block b (Nat.lt_of_lt_of_le hb k.size) (fun h1=>(own b h1).elim (fun h2=>by omega) ho)]
  exact k.block b hb ho
 ·rcases n.ids i bq with⟨h1,h2⟩|h1
  ·rw[h2];exact k.fix i hi h1
  ·have:=hN i h1;omega
structure cG(Z:Nat→Prop)(ψ:Nat→Value)(h:Hp)(w:World)(n:Nat)(T:Nat→AV)(a:Act):Prop where
 rep:∀d,av Z ψ h w (T d) (a.tmps.getD d undef)
 size:a.tmps.size=n
 defers:a.defers=[]
theorem Mg:av Z ψ h w (.mI []) undef:=by simp only[av,ak];exact⟨#[],rfl,rfl⟩
def iG(T:Nat→AV)(d:Option Tmp)(v:AV):Nat→AV:=match d with
 |some d=>dM T d v
 |none=>T
theorem gO(st:St)(d:Option Tmp)(v:AV):look (st.put d v).tmps=iG (look st.tmps) d v:=by
 cases d with
 |none=>rfl
 |some d =>
  funext i
  simp only[St.put,look,iG,dM]
  by_cases e:i=d
  ·subst e;simp
  ·rw[if_neg (fun x=>e x.symm),if_neg e]
theorem c7(st:St)(d:Option Tmp)(v:AV):(st.put d v).heap=st.heap:=by cases d<;>rfl
theorem C0{T:List (Nat×AV)}{d:Nat}{v:AV}(hv:look T d=v):dM (look T) d v=look T:=by
 funext i
 unfold dM
 split
 ·rename_i e;subst e;exact hv.symm
 ·rfl
theorem gP{a:Act}{d:Nat}{v:Value}(hd:d<a.tmps.size)(i:Nat):(a.put (some d) v).tmps.getD i undef=if i=d then v else a.tmps.getD i undef:=by
 simp only[Act.put]
 by_cases e:i=d
 ·subst e;simp[hd]
 ·simp[e,Array.getElem?_setIfInBounds_ne (Ne.symm e)]
theorem cq(a:Act)(d:Option Tmp)(v:Value):(a.put d v).tmps.size=a.tmps.size:=by cases d<;>simp[Act.put]
theorem put_defers(a:Act)(d:Option Tmp)(v:Value):(a.put d v).defers=a.defers:=by cases d<;>rfl
theorem cG.put{n:Nat}{T:Nat→AV}{a:Act}{o:Oper}{x:AV}{V:Value}(t:cG Z ψ h w n T a)(hd:gZ n o=true)(hx:av Z ψ h w x V):cG Z ψ h w n (iG T o.dst x) (a.put o.dst V):=by
 refine⟨fun d=>?_,by rw[cq];exact t.size,by rw[put_defers];exact t.defers⟩
 unfold gZ at hd
 split at hd
 ·rename_i d0 hd0
  rw[hd0]
  rw[gP (by rw[t.size];simpa using hd)]
  simp only[iG,dM]
  split
  ·exact hx
  ·exact t.rep d
 ·rename_i hd0
  rw[hd0];exact t.rep d
theorem cG.next{n:Nat}{T:Nat→AV}{a:Act}(t:cG Z ψ h w n T a)(g:Good Z ψ h w B0 O)(hn:Next Z ψ h w B0 O N Z' ψ' h' w')(hm:∀d,aE (fun i=>¬N i) (T d)):cG Z' ψ' h' w' n T a :=
 ⟨fun d=>hn.rep g (hm d) (t.rep d),t.size,t.defers⟩
theorem ql{n:Nat}{s:List (Nat×AV)}{a:Act}(t:cG Z ψ h w n (look s) a)(x:Operand):av Z ψ h w (ρ s x) (a.eval x):=by
 cases x with
 |tmp i=>exact t.rep i
 |const v=>exact FH v
 |global g=>simp only[ρ,av]
 |func f=>simp only[ρ,av,ak,Act.eval];exact⟨#[],rfl,rfl⟩
theorem zY(p:Nat→Prop)(v:Value):aE p (sP v):=by
 cases v with
 |agg cs=>simp only[sP,aE];exact vM p _
 |_=>simp only[sP];exact zL p _
theorem Mh{p:Nat→Prop}{s:List (Nat×AV)}(hm:∀d,aE p (look s d))(x:Operand):aE p (ρ s x):=by
 cases x with
 |tmp i=>exact hm i
 |const v=>exact zY p v
 |global g=>simp only[ρ,aE]
 |func f=>simp only[ρ,aE,ax]
def ma(rid:Nat)(S:Nat→Prop)(id:Nat):Prop:=id / 32768=rid+1→S (id / 256%128)
def Of(rid i id:Nat):Prop:=id / 256=(rid+1)*128+i
theorem Of.parts{rid i id:Nat}(hi:i<128)(h:Of rid i id):id / 32768=rid+1∧id / 256%128=i:=by
 unfold Of at h
 constructor<;>omega
theorem Of.of{rid i id:Nat}(h:id / 32768=rid+1)(hi:id / 256%128=i):Of rid i id:=by
 unfold Of;omega
theorem Ky{rid i j:Nat}(hj:j<256):Of rid i (opId rid i+j):=by
 unfold Of opId;omega
theorem Ga{rid i:Nat}:Of rid i (opId rid i):=by unfold Of opId;omega
theorem ma.zZ{rid i id:Nat}{S:Nat→Prop}(hi:i<128)(hs:¬S i)(h:ma rid S id):¬Of rid i id:=fun ho=>by
 obtain⟨h1,h2⟩:=ho.parts hi
 have:=h h1
 rw[h2]at this
 exact hs this
theorem nu{rid bits id:Nat}{S:Nat→Prop}(hb:∀j,bits.testBit j=true→S j)(h:pZ rid bits id=true):ma rid S id:=fun h1=>by
 unfold pZ at h
 simp only[Bool.or_eq_true,bne_iff_ne,ne_eq]at h
 exact hb _ (h.resolve_left (fun h2=>h2 h1))
mutual
theorem oK{rid bits:Nat}{S:Nat→Prop}(hb:∀j,bits.testBit j=true→S j):∀{v:AV},rX rid bits v=true→aE (ma rid S) v
 |.ref id s i off,h=>by simp only[rX]at h;simp only[aE];exact nu hb h
 |.bF id,h=>by simp only[rX]at h;simp only[aE];exact nu hb h
 |.fn f cap,h=>by simp only[rX]at h;simp only[aE];exact lJ hb h
 |.agg cs,h=>by simp only[rX]at h;simp only[aE];exact lJ hb h
 |.mI cs,h=>by simp only[rX]at h;simp only[aE];exact lJ hb h
 |.no,_=>by simp only[aE]
 |.bool _,_=>by simp only[aE]
 |.int _ _,_=>by simp only[aE]
 |.str _,_=>by simp only[aE]
 |.kN,_=>by simp only[aE]
 |.fJ,_=>by simp only[aE]
 |.fp _ _ _,_=>by simp only[aE]
 |.sl _ _ _,_=>by simp only[aE]
 |.mp _ _ _,_=>by simp only[aE]
theorem lJ{rid bits:Nat}{S:Nat→Prop}(hb:∀j,bits.testBit j=true→S j):∀{v:List AV},ze rid bits v=true→ax (ma rid S) v
 |[],_=>by simp only[ax]
 |v::r,h=>by
  simp only[ze,Bool.and_eq_true]at h
  simp only[ax]
  exact⟨oK hb h.1,lJ hb h.2⟩
end
theorem lK{rid bits:Nat}{S:Nat→Prop}(hb:∀j,bits.testBit j=true→S j):∀{hh:Heap},wU rid bits hh=true→∀id o,hh.get id=some o→ma rid S id∧∀ty cs,o=.box ty cs→ax (ma rid S) cs
 |[],_,id,o,hg=>by simp[Heap.get]at hg
 |(i,ob)::r,h,id,o,hg=>by
  simp only[Heap.get]at hg
  split at hg
  ·rename_i e
   subst e
   cases hg
   cases ob with
   |box ty cs =>
    simp only[wU,Bool.and_eq_true]at h
    exact⟨nu hb h.1.1,fun xO cs' he=>by cases he;exact lJ hb h.1.2⟩
   |own ok xs =>
    simp only[wU,Bool.and_eq_true]at h
    exact⟨nu hb h.1,fun xO cs' he=>by cases he⟩
  ·refine lK hb ?_ id o hg
   cases ob<;>simp only[wU,Bool.and_eq_true]at h<;>exact h.2
def bE.heap(e:bE)(h:Heap):Heap:=match e with
 |.wr _ h'=>h'
 |e=>e.h h
theorem bE.Gb(e:bE)(hh:Heap):(e.heap hh).get=e.hp hh.get:=by
 cases e with
 |val v=>rfl
 |new v os=>funext i;simp only[bE.heap,bE.h,bE.hp];rw[Heap.get_append];cases Heap.get os i<;>rfl
 |wr v h'=>rfl
def su(p:Nat→Prop)(h:Hp):Prop:=∀i ty cs,h i=some (.box ty cs)→ax p cs
theorem z5{ops:Array Oper}{o:Oper}{n:Nat}{T:Nat→AV}{a:Act}(t:cG Z ψ h w n T a){j d:Nat}{want:Bool}(hg:o.guard=some (j,want))(hd:(ops[j]?).bind (·.dst)=some d){b:Bool}(hb:T d=.bool b) :
  Region.wanted o (yielded ops a.tmps)=(b==want):=by
 have h1:=t.rep d
 rw[hb]at h1
 simp only[av]at h1
 have h2:a.tmps[d]? = some (.bool b):=by
  rw[Array.getD_eq_getD_getElem?]at h1
  cases e:a.tmps[d]? with
  |none=>rw[e]at h1;simp[undef]at h1
  |some v=>rw[e]at h1;simpa using h1
 unfold Region.wanted yielded
 rw[hg]
 simp only[hd,Option.bind_some,h2]
 cases b<;>cases want<;>rfl
theorem xl{ops:Array Oper}{o:Oper}{n:Nat}{T:Nat→AV}{a:Act}(t:cG Z ψ h w n T a){j d:Nat}{want:Bool}(hg:o.guard=some (j,want))(hd:(ops[j]?).bind (·.dst)=some d){vs:List AV}(hb:T d=.mI vs) :
  Region.wanted o (yielded ops a.tmps)=false:=by
 have h1:=t.rep d
 rw[hb]at h1
 simp only[av]at h1
 obtain⟨us,h1,_⟩:=h1
 unfold Region.wanted yielded
 rw[hg]
 simp only[hd,Option.bind_some]
 rw[Array.getD_eq_getD_getElem?]at h1
 cases e:a.tmps[d]? with
 |none=>rfl
 |some v=>rw[e]at h1;simp at h1;subst h1;rfl
def z6(ops:Array Oper):Nat→List (Nat×Oper)→Prop
 |_,[]=>True
 |i,(j,o)::r=>j=i∧ops[i]? = some o∧z6 ops (i+1) r
theorem Gc(ops:Array Oper):∀(l:List Oper) (i:Nat),(∀k o,l[k]? = some o→ops[i+k]? = some o)→z6 ops i ((l.zipIdx i).map fun p=>(p.2,p.1))
 |[],_,_=>by simp[z6]
 |o::r,i,h=>by
  simp only[List.zipIdx_cons,List.map_cons,z6]
  exact⟨trivial,h 0 o rfl,Gc ops r (i+1) fun k o' hk=>by rw[Nat.add_assoc,Nat.add_comm 1 k];exact h (k+1) o' hk⟩
theorem nw(ops:Array Oper):z6 ops 0 (ops.toList.zipIdx.map fun p=>(p.2,p.1)):=Gc ops _ 0 fun k o hk=>by simpa using hk
theorem C1(ops:Array Oper):(ops.toList.zipIdx.map fun p=>(p.2,p.1)).map Prod.fst=List.range ops.size:=by
 rw[List.map_map]
 have:(Prod.fst ∘ fun(p:Oper×Nat)=>(p.2,p.1))=Prod.snd:=rfl
 rw[this,List.zipIdx_map_snd,List.range_eq_range',Array.length_toList]
structure J(p:Nat→Prop)(n:Nat)(Z0:Nat→Prop)(w0:World)(O:Nat→Prop)(ψ0:Nat→Value)(Z:Nat→Prop)(ψ:Nat→Value)(T:Nat→AV)(h:Hp)(a:Act)(w:World):Prop where
 ok:Ok Z0 w0 O ψ0 Z ψ h w
 tr:cG Z ψ h w n T a
 tm:∀d,aE p (T d)
 hm:su p h
theorem J.imp{p q:Nat→Prop}{n:Nat}{T:Nat→AV}{a:Act}(j:J p n Z0 w0 O ψ0 Z ψ T h a w)(zG:∀id,p id→q id):J q n Z0 w0 O ψ0 Z ψ T h a w :=
 ⟨j.ok,j.tr,fun d=>(j.tm d).imp zG,fun id ty cs hb=>(j.hm id ty cs hb).imp zG⟩
theorem J.op(E:Env P Eqs Sg F){rid n i:Nat}{p:Nat→Prop}{T:Nat→AV}{a:Act}{s:List (Nat×AV)}{o:Oper}(hS:makes o.op=true→∀id,p id→¬Of rid i id)(j:J p n Z0 w0 O ψ0 Z ψ T h a w)(hd:gZ n o=true)
  (hT:∀x∈o.op.operands,av Z ψ h w (ρ s x) (a.eval x)) (hTm:∀x∈o.op.operands,aE p (ρ s x)) {hh:Heap} (bz:∀id o,hh.get id=some o→h id=some o) {e:bE} (he:cM P Eqs Sg F (opId rid i) hh s o some=some e) (mT:∀v hw,e=.wr v hw→hh.get=h)
  {p':Nat→Prop} (Nw:∀k,p k→p' k) (hv:aE p' e.v) (VY:su p' (e.hp h)) {next:Act→World→Prop} {Q:Exit→Act→World→Prop}
  (hk:∀a' w' Z' ψ',J p' n Z0 w0 O ψ0 Z' ψ' (iG T o.dst e.v) (e.hp h) a' w'→next a' w'):o.wp P a w next Q:=by
 have VZ:∀id,p id→¬(makes o.op=true∧Of rid i id):=fun id h ⟨h1,h2⟩=>hS h1 id h h2
 refine Uv (N:=fun id=>makes o.op=true∧Of rid i id) E j.ok.dL j.ok.size bz (id:=opId rid i) (fun hm k hk=>⟨hm,Ky hk⟩) hT (fun x hx=>(hTm x hx).imp VZ) (fun id ty cs hb=>(j.hm id ty cs hb).imp VZ) mT he fun V w' Z' ψ' nx hr=>?_
 refine hk _ w' Z' ψ' ⟨j.ok.next (fun id h=>by have:=h.2;unfold Of at this;omega) nx,(j.tr.next j.ok.dL nx (fun d=>(j.tm d).imp VZ)).put hd hr,fun d=>?_,VY⟩
 cases kB:o.dst with
 |none=>exact(j.tm d).imp Nw
 |some d0 =>
  simp only[iG,dM]
  split
  ·exact hv
  ·exact(j.tm d).imp Nw
theorem J.skip{n:Nat}{p p':Nat→Prop}{T:Nat→AV}{a:Act}{o:Oper}(j:J p n Z0 w0 O ψ0 Z ψ T h a w)(hd:gZ n o=true)(Nw:∀k,p k→p' k) :
  J p' n Z0 w0 O ψ0 Z ψ (iG T o.dst (.mI [])) h (a.put o.dst undef) w:=by
 refine⟨j.ok,j.tr.put hd Mg,fun d=>?_,fun id ty cs hb=>(j.hm id ty cs hb).imp Nw⟩
 cases kB:o.dst with
 |none=>exact(j.tm d).imp Nw
 |some d0 =>
  simp only[iG,dM]
  split
  ·simp only[aE,ax]
  ·exact(j.tm d).imp Nw
theorem SO{hh:Heap}(g:Good Z ψ hh.get w B0 O){m:Nat}{kk vk:K}{es:List (kk.T×vk.T)}(hg:hh.get m=some (.own (.map kk vk) es))(n:Next Z ψ hh.get w B0 O N Z' ψ' h' w')(hzm:∀b,ob (ψ m)=some b→Z' b)
  (hold:∀b,b<w.heap.size→w'.heap[b]? = w.heap[b]?) {v:AV} {V:Value} (hm:aE (fun id=>¬N id) v) (hr:av Z ψ hh.get w v V):av Z' ψ' h' w' (xQ m (.mp kk vk es) v) V:=by
 by_cases hv:v=.bF m
 ·subst hv
  simp only[xQ,if_true]
  simp only[av]at hr
  have hu:=hr.2 (by rw[hg];simp)
  obtain⟨r,bT,clock,h1,h2,h3,_⟩:=g.row m (.map kk vk) es hg
  rw[h1]at hu
  subst hu
  have aF:=(Array.getElem?_eq_some_iff.1 h2).1
  simp only[av,aD]
  exact⟨some r,rfl,.inr ⟨r,bT,clock,rfl,hzm r (by rw[h1];rfl),(hold r aF).trans h2,h3.imp (fun _ _ h=>h.mono n.fD (fun b hb=>hold b (g.jx b hb))) (fun _ _ h=>h.mono n.fD (fun b hb=>hold b (g.jx b hb)))⟩⟩
 ·have hf:xQ m (.mp kk vk es) v=v:=by
   unfold xQ
   split
   ·split
    ·rename_i e;subst e;exact absurd rfl hv
    ·rfl
   ·rfl
  rw[hf]
  exact n.rep g hm hr
theorem Ou{p:Nat→Prop}{m:Nat}{kk vk:K}{es:List (kk.T×vk.T)}{v:AV}(hm:aE p v):aE p (xQ m (.mp kk vk es) v):=by
 unfold xQ
 split
 ·split
  ·simp only[aE]
  ·exact hm
 ·exact hm
theorem rk(f:AV→AV)(hf:f .no=.no):∀(l:List (Nat×AV)) (d:Nat),look (l.map fun p=>(p.1,f p.2)) d=f (look l d)
 |[],_=>by simp only[List.map_nil,look];exact hf.symm
 |(i,v)::r,d=>by
  simp only[List.map_cons,look]
  split
  ·rfl
  ·exact rk f hf r d
theorem Jd{rid n i:Nat}{p p':Nat→Prop}{st dX:St}{a:Act}{o:Oper}(hS:∀id,p id→¬Of rid i id)(Nw:∀k,p k→p' k)(Oa:p' (opId rid i))(j:J p n Z0 w0 O ψ0 Z ψ (look st.tmps) st.heap.get a w)(hd:gZ n o=true)(nC:om P (opId rid i) st o=some dX) :
  ∃V w' Z' ψ',(execOp a.eval o).run P w=.ok (.value V) w'∧J p' n Z0 w0 O ψ0 Z' ψ' (look dX.tmps) dX.heap.get (a.put o.dst V) w':=by
 unfold om at nC
 split at nC
 ·rename_i t x El
  split at nC
  ·rename_i ka va m hu hx
   split at nC
   ·rename_i kk vk es hg
    cases nC
    have XE:av Z ψ st.heap.get w (.bF m) (a.eval x):=by rw[←hx];exact ql j.tr x
    simp only[av]at XE
    have hev:=XE.2 (by rw[hg];simp)
    have g:=j.ok.dL
    obtain⟨r,bT,clock,h1,h2,h3,h4,h5⟩:=g.row m (.map kk vk) es hg
    rw[h1]at hev
    have aF:=(Array.getElem?_eq_some_iff.1 h2).1
    have gd:=hM g [.bF m]
    have YA:∀b,ob (ψ m)=some b→pQ Z ψ st.heap.get [.bF m] b:=fun b hb=>.inr ⟨m,by simp,by rw[hg];simp,hb⟩
    have hold:∀b,b<w.heap.size→(w.alloc (.mapIter (some r) clock #[] clock)).heap[b]? = w.heap[b]? := fun b hb=>heap_alloc_old w _ hb
    have hN:(Of rid i) (opId rid i):=Ga
    have n1:=zB (N:=Of rid i) gd j.ok.size (opId rid i) hN (ok:=.iter kk vk) (x:=(none,es)) (v:=.pointer (some ⟨w.heap.size,0,none⟩)) (.mapIter (some r) clock #[] clock)
     ⟨w.heap.size,r,clock,#[],bT,clock,rfl,heap_alloc_new _ _,YA r (by rw[h1];rfl),(hold r aF).trans h2,h4,rfl,h5,by
      rw[List.filter_eq_self.2 (fun e _=>by simp)]
      exact h3.imp (fun _ _ h=>h.mono (fun b hb=>.inl hb) (fun b hb=>hold b (g.jx b hb))) (fun _ _ h=>h.mono (fun b hb=>.inl hb) (fun b hb=>hold b (g.jx b hb))),trivial⟩ rfl
     (fun i' ty cs hb=>ax.imp (p:=p) (q:=fun i'=>i'≠opId rid i) (fun id hp e=>hS id hp (by rw[e];exact hN)) (j.hm i' ty cs (dR _ _ _ _ hb)))
    have n2:=n1.drop (Z:=Z) (h:=st.heap.get) (fun b hb=>.inl hb) (fun b hb=>hb.imp (fun h=>h) (fun⟨id,_,h5,h6⟩=>⟨id,h5,h6⟩)) (dR _ _)
    have fh:(dM (cz st.heap [.bF m]).get (opId rid i) (some (Ob.own (.iter kk vk) (none,es))))=Heap.get ((opId rid i,.own (.iter kk vk) (none,es))::st.heap.del m):=by
     funext k
     simp only[cz,drop1,dM,Heap.get]
     by_cases e:k=opId rid i
     ·subst e;simp
     ·rw[if_neg e,if_neg (fun h=>e h.symm)]
    rw[fh]at n2
    refine⟨.pointer (some ⟨w.heap.size,0,none⟩),w.alloc (.mapIter (some r) clock #[] clock),pQ Z ψ st.heap.get [.bF m],dM ψ (opId rid i) (.pointer (some ⟨w.heap.size,0,none⟩)),?_,?_⟩
    ·obtain⟨dst,op,type,pos,after,guard⟩:=o
     simp only at El
     subst El
     have dk:(Instr.range t (.map (some r))).run P w=.ok (.pointer (some ⟨w.heap.size,0,none⟩)) (w.alloc (.mapIter (some r) clock #[] clock)):=by
      simp only[Instr.range,Sem.run_bind,run_underlying hu,Result.andThen_ok,fP h2 (by simp),Sem.run_pure];rfl
     simp[execOp,hev,dk]
    ·have bg:∀d,aE (fun id=>¬Of rid i id) (look st.tmps d):=fun d=>(j.tm d).imp hS
     refine⟨by rw[c7];exact j.ok.next (fun id h=>by unfold Of at h;omega) n2,?_,fun d=>?_,fun k ty cs hb=>?_⟩
     ·rw[gO,c7]
      refine cG.put ⟨fun d=>?_,j.tr.size,j.tr.defers⟩ hd ?_
      ·rw[rk _ rfl]
       exact SO g hg n2 (fun b hb=>YA b hb) hold (bg d) (j.tr.rep d)
      ·simp only[av]
       exact⟨⟨rfl,rfl⟩,fun _=>(bh _ _ _).symm⟩
     ·rw[gO]
      have hb:aE p' (look (st.tmps.map fun q=>(q.1,xQ m (.mp kk vk es) q.2)) d):=by rw[rk _ rfl];exact Ou ((j.tm d).imp Nw)
      cases kB:o.dst with
      |none=>exact hb
      |some d0 =>
       simp only[iG,dM]
       split
       ·simp only[aE];exact Oa
       ·exact hb
     ·rw[c7]at hb
      simp only[Heap.get]at hb
      split at hb
      ·cases hb
      ·exact(j.hm k ty cs (Heap.tU hb).1).imp Nw
   ·cases nC
  ·cases nC
 ·cases nC
theorem nD{R:Type}{n:Nat}{f:Nat→Option R}{r:R}(h:p6 n f=some r):∀j,j<n→f j=some r:=by
 unfold p6 at h
 split at h
 ·rename_i hx;cases h;exact Classical.choose_spec hx
 ·cases h
theorem kR{R:Type}{n:Nat}{f:Nat→Option R}{r:R}(hn:0<n)(h:∀j,j<n→f j=some r):p6 n f=some r:=by
 unfold p6
 have hx:∃r,∀j,j<n→f j=some r:=⟨r,h⟩
 rw[dif_pos hx]
 have:=Classical.choose_spec hx 0 hn
 rw[h 0 hn]at this
 exact this.symm
theorem Next.drawn{d:Nat}(n:Next Z ψ h { w with drawn:=d } B0 O N Z' ψ' h' w'):Next Z ψ h w B0 O N Z' ψ' h' w' :=
 ⟨n.fD,n.dY,⟨n.keep.os,n.keep.tape,n.keep.output,n.keep.size,n.keep.block⟩,n.ids,n.dL⟩
theorem Good.drawn{d:Nat}(g:Good Z ψ h w B0 O):Good Z ψ h { w with drawn:=d } B0 O:=by
 have sm:cp Z w ({ w with drawn:=d }:World):=fun _ _=>rfl
 refine⟨fun id ty cs hb=>?_,fun id ok xs hb=>?_,g.live,g.apart,g.jx⟩
 ·obtain⟨gg,vs,h1,h2,h3,h4⟩:=g.box id ty cs hb
  exact⟨gg,vs,h1,h2,h3.less (fun _ h=>h) sm (fun i hi=>⟨hi,rfl⟩),h4⟩
 ·exact(g.row id ok xs hb).kept (fun _ h=>h) sm (fun gg _=>rfl)
theorem filter_push{l:List MapEntry}(h:l.Pairwise (fun a b=>a.born≠b.born)){seen:Array Nat}{j:Nat}{e:MapEntry}(he:(l.filter fun e => !seen.contains e.born)[j]? = some e) :
  l.filter (fun x => !(seen.push e.born).contains x.born)=(l.filter fun e => !seen.contains e.born).eraseIdx j:=by
 have h2:(l.filter fun e => !seen.contains e.born).Pairwise (fun a b=>a.born≠b.born):=h.sublist List.filter_sublist
 rw[←ChangeMaps.filter_eq_eraseIdx (fun x=>x.born==e.born) _ j e he (by simp) (h2.imp fun {a b} bq hc=>bq (by
  simp only[beq_iff_eq]at hc;omega))]
 rw[List.filter_filter]
 congr 1
 funext x
 simp only[Array.contains_push]
 cases seen.contains x.born<;>cases x.born==e.born<;>rfl
theorem Je{R:Type}{hh:Heap}(g:Good Z ψ hh.get w B0 O){x:AV}{u:Value}{ty:TypeId}(hx:av Z ψ hh.get w x u){kk:AV→Heap→Option R}{r:R}(he:kP hh x kk=some r) :
  ∃v h' V w',(Instr.next u false ty).run P w=.ok V w'∧Next Z ψ hh.get w B0 O N Z ψ h'.get w'∧av Z ψ h'.get w' v V∧kk v h'=some r∧(∀p,aE p v)∧∀i ty cs,h'.get i=some (.box ty cs)→hh.get i=some (.box ty cs):=by
 unfold kP at he
 split at he
 ·rename_i id
  split at he
  ·rename_i kk1 vk pp hg
   simp only[av]at hx
   have hu:=hx.2 (by rw[hg];simp)
   obtain⟨b,m,since,seen,bT,clock,h1,h2,h3,h4,h5,h6,h7,h8,h9⟩:=g.row id (.iter kk1 vk) pp hg
   rw[h1]at hu
   subst hu
   subst h6
   have aF:=(Array.getElem?_eq_some_iff.1 h2).1
   have Uw:(leftOf bT seen).toList=bT.toList.filter fun e => !seen.contains e.born:=by unfold leftOf;simp
   have hlen:pp.2.length=(leftOf bT seen).size:=by rw[h8.1,←Uw,Array.length_toList]
   rcases run_next_at (P:=P) w ty b m since since seen bT since h2 h4 h7 (Nat.le_refl _) with⟨mO,dk⟩|⟨e,iX,w1,Em,dk⟩
   ·have L9:pp.2.isEmpty=true:=by rw[List.isEmpty_iff];exact List.eq_nil_of_length_eq_zero (by rw[hlen,mO])
    rw[L9]at he
    simp only[cond_true]at he
    exact⟨_,hh,_,w,dk,Next.refl g,by simp only[av,ak];exact⟨_,rfl,_,_,rfl,rfl,rfl⟩,he,fun p=>by simp only[aE,ax];exact⟨trivial,trivial⟩,fun _ _ _ h=>h⟩
   ·obtain⟨k,hk,hke⟩:=List.mem_iff_getElem.1 iX
    have n6:k<pp.2.length:=by rw[hlen,←Array.length_toList];exact hk
    have L9:pp.2.isEmpty=false:=by
     cases hl:pp.2 with
     |nil=>rw[hl]at n6;simp at n6
     |cons _ _=>rfl
    rw[L9]at he
    simp only[cond_false]at he
    have hj:=nD he k n6
    rw[List.getElem?_eq_getElem n6,Option.bind_some]at hj
    have V5:(bT.toList.filter fun e => !seen.contains e.born)[k]? = some e:=by rw[←Uw,List.getElem?_eq_getElem hk,hke]
    have D8:=h8.2 k _ e (List.getElem?_eq_getElem n6) V5
    obtain⟨⟨k1,k2,k3⟩,v1,v2,v3⟩:=D8
    have ady:e∈bT.toList:=(List.mem_filter.1 (List.mem_of_getElem? V5)).1
    have gd1:Good Z ψ hh.get w1 B0 O:=by rcases Em with rfl|rfl;exact g;exact g.drawn
    have En:w1.heap=w.heap:=by rcases Em with rfl|rfl<;>rfl
    have hmb:m≠b:=fun hmb=>by
     subst hmb
     exact(g.live id m (by rw[hg];simp) (by rw[h1];rfl)).1 h3
    have n1:=q8 (N:=N) gd1 (id:=id) (by rw[hg];simp) (r:=b) (by rw[h1];rfl) (by rw[En];exact aF) (.mapIter (some m) since (seen.push e.born) since) (ok:=.iter kk1 vk) (x:=(some pp.2[k],pp.2.eraseIdx k)) (fun w' IX sm=>by
     have XF:cp Z w w':=fun c hc=>(sm c hc).trans (by rw[En])
     refine⟨b,m,since,seen.push e.born,bT,since,h1,by rw[IX,En];simp[aF],h3,?_,h5,rfl,h7,?_,?_⟩
     ·rw[IX,En,vK _ (fun e=>hmb e.symm)];exact h4
     ·rw[filter_push h5 V5]
      exact(jZ.erase h8 k).mono (fun _ h=>h) XF
     ·refine⟨e,ady,by simp,⟨rfl,fun q y e' mO xS=>?_⟩⟩
      cases q with
      |zero=>cases mO;cases xS;exact⟨⟨k1.mono (fun _ h=>h) XF,k2,k3⟩,v1.mono (fun _ h=>h) XF,v2,v3⟩
      |succ q=>simp at mO)
    have n2:Next Z ψ hh.get w B0 O N Z ψ (dM hh.get id (some (.own (.iter kk1 vk) (some pp.2[k],pp.2.eraseIdx k)))) { w1 with heap:=w1.heap.setIfInBounds b (.mapIter (some m) since (seen.push e.born) since) }:=by
     rcases Em with rfl|rfl
     ·exact n1
     ·exact n1.drawn
    refine⟨_,hh.set id (.own (.iter kk1 vk) (some pp.2[k],pp.2.eraseIdx k)),_,_,dk,by rw[mi];exact n2,?_,hj,fun p=>?_,fun i ty cs hb=>?_⟩
    ·have XF:cp Z w ({ w1 with heap:=w1.heap.setIfInBounds b (.mapIter (some m) since (seen.push e.born) since) }:World):=n2.same g
     simp only[av,ak]
     exact⟨_,rfl,_,_,rfl,rfl,_,_,rfl,lx (k1.mono (fun _ h=>h) XF) k2 k3,_,_,rfl,lx (v1.mono (fun _ h=>h) XF) v2 v3,rfl⟩
    ·simp only[aE,ax]
     exact⟨trivial,ns _ _ _,ns _ _ _,trivial⟩
    ·rw[mi]at hb
     unfold dM at hb
     split at hb
     ·cases hb
     ·exact hb
  ·cases he
 ·cases he
theorem Gd(op:BinOp)(t:TypeId)(a b:Operand)(x y:Option Addr)(n m c d:Nat):(eqGuard op t a b (.slice x n c) (.slice y m d)).run P w=.ok () w:=by cases op<;>simp[eqGuard]
theorem Cm{t e:TypeId}(ht:P.underlying t=some (.slice e))(a:Option Addr)(n c:Nat):(Op.equal t (.slice a n c) (.slice none 0 0)).run P w=.ok a.isNone w:=by
 have key:∀d,(Op.equalIn (d+1) t (.slice a n c) (.slice none 0 0)).run P w=.ok a.isNone w:=fun d=>by
  cases a<;>simp[Op.equalIn,run_underlying ht]
 exact key 9999
theorem Jf{o:Oper}{x:Operand}{want:Bool}(h:isNil P o=some (x,want)):∃op t v t' e,o.op=.binOp op t x (.const v) t'∧P.underlying t=some (.slice e)∧v=.slice none 0 0∧((op=.eql∧want=true)∨(op=.neq∧want=false)):=by
 unfold isNil at h
 split at h
 ·rename_i op t x' v t' El
  have hv:∀v:Value,vw v=.fJ→v=.slice none 0 0:=fun v hv=>by
   unfold vw at hv
   split at hv<;>try (first|cases hv|(split at hv<;>cases hv);done)
   all_goals (split at hv<;>first|cases hv|skip)
   ·rename_i hc;obtain⟨rfl,rfl,rfl⟩:=hc;rfl
   all_goals (split at hv<;>cases hv)
  split at h
  ·rename_i e h1 h2 h3;cases h;exact⟨_,_,_,_,_,El,h2,hv _ h3,.inl ⟨rfl,rfl⟩⟩
  ·rename_i e h1 h2 h3;cases h;exact⟨_,_,_,_,_,El,h2,hv _ h3,.inr ⟨rfl,rfl⟩⟩
  ·cases h
 ·cases h
theorem Ov{R:Type}{hh:Heap}(g:Good Z ψ hh.get w B0 O){x:AV}{u:Value}{op:BinOp}{t e:TypeId}(xo yo:Operand)(hx:av Z ψ hh.get w x u)(ht:P.underlying t=some (.slice e)){want:Bool}(ho:(op=.eql∧want=true)∨(op=.neq∧want=false)){kk:AV→Option R}{r:R}(he:tS hh x want kk=some r) :
  ∃c:Bool,((eqGuard op t xo yo u (.slice none 0 0)).run P w=.ok () w∧(binOp op t u (.slice none 0 0)).run P w=.ok (.bool c) w)∧kk (.bool c)=some r:=by
 have run:∀(a:Option Addr) (n c:Nat),(eqGuard op t xo yo (.slice a n c) (.slice none 0 0)).run P w=.ok () w∧(binOp op t (.slice a n c) (.slice none 0 0)).run P w=.ok (.bool (a.isNone==want)) w:=fun a n c=>by
  refine⟨Gd _ _ _ _ _ _ _ _ _ _,?_⟩
  rcases ho with⟨rfl,rfl⟩|⟨rfl,rfl⟩<;>simp only[Sem.run_bind,Result.andThen_ok,binOp,Cm ht,Sem.run_pure]<;>cases a.isNone<;>rfl
 have fin:∀(n:Nat) (a:Option Addr) (c:Nat) (xs:Bool),(a=none→xs=true)→cond xs (p6 2 fun j=>kk (.bool ((j==0)==want))) (kk (.bool (!want)))=some r →
   ∃c':Bool,((eqGuard op t xo yo (.slice a n c) (.slice none 0 0)).run P w=.ok () w∧(binOp op t (.slice a n c) (.slice none 0 0)).run P w=.ok (.bool c') w)∧kk (.bool c')=some r:=fun n a c xs qY h=>by
  refine⟨_,run a n c,?_⟩
  cases xs with
  |true =>
   simp only[cond_true]at h
   cases a with
   |none=>exact nD h 0 (by decide)
   |some a=>exact nD h 1 (by decide)
  |false =>
   simp only[cond_false]at h
   cases a with
   |none=>cases qY rfl
   |some a=>cases want<;>exact h
 unfold tS at he
 split at he
 ·rename_i hv
  have hxn:x=.fJ:=by
   cases x<;>simp only[cE]at hv<;>try cases hv
   ·rfl
   ·split at hv<;>cases hv
  subst hxn
  simp only[av]at hx
  subst hx
  exact⟨_,run none 0 0,by cases want<;>exact he⟩
 ·rename_i ex k xs hv
  cases x with
  |sl ex' k' X9 =>
   simp only[cE]at hv
   cases hv
   simp only[av,aD]at hx
   obtain⟨⟨v,hv,A,c,rfl,h1,h2,_⟩,_⟩:=hx
   cases hv
   refine fin _ A c _ (fun hA=>?_) he
   have:=h2 hA
   rw[List.isEmpty_iff]
   exact List.eq_nil_of_length_eq_zero (by omega)
  |bF id =>
   simp only[cE]at hv
   simp only[av]at hx
   split at hv
   ·rename_i hg
    cases hv
    have hu:=hx.2 (by rw[hg];simp)
    obtain⟨vs,⟨_,h1⟩,_⟩:=g.row id _ _ hg
    rw[←hu]at h1
    rcases h1 with⟨h1,A,rfl⟩|⟨gg,cap,cur,rfl,_⟩
    ·exact fin _ A 0 _ (fun _=>List.isEmpty_iff.2 (List.eq_nil_of_length_eq_zero h1)) he
    ·exact fin _ _ _ _ (fun h=>by cases h) he
   ·cases hv
   ·cases hv
  |_=>simp only[cE]at hv<;>cases hv
 ·cases he
theorem z7{draw:Bool}{rid:Nat}{ops:Array Oper}{b:Array Nat}{i IH:Nat}{e:bE}{S:Nat→Prop}{hh:Heap}(hm:su (ma rid S) h)(ha:∀j,IH.testBit j=true→S j)(he:gu draw rid ops b i IH e=true) :
  aE (ma rid fun k=>S k∨k=i) e.v∧su (ma rid fun k=>S k∨k=i) (e.hp h):=by
 have FC:∀j,(IH ||| 2 ^ i).testBit j=true→S j∨j=i:=fun j hj=>by
  rw[Nat.testBit_or,Bool.or_eq_true]at hj
  rcases hj with hj|hj
  ·exact .inl (ha j hj)
  ·rw[Nat.testBit_two_pow]at hj;exact .inr (by simpa using hj:i=j).symm
 have up:su (ma rid fun k=>S k∨k=i) h:=fun id ty cs hb=>(hm id ty cs hb).imp (fun id h1 h2=>.inl (h1 h2))
 cases e with
 |val v=>exact⟨oK (fun j hj=>.inl (ha j hj)) he,up⟩
 |new v os =>
  simp only[gu,Bool.and_eq_true]at he
  refine⟨oK FC he.1.1,fun id ty cs hb=>?_⟩
  simp only[bE.hp]at hb
  split at hb
  ·rename_i o ho
   cases hb
   exact(lK FC he.2 _ _ ho).2 _ _ rfl
  ·exact up id ty cs hb
 |wr v h' =>
  simp only[gu,Bool.and_eq_true]at he
  exact⟨oK FC he.1.2,fun id ty cs hb=>(lK FC he.2 _ _ hb).2 _ _ rfl⟩
theorem Cn{i j:Nat}(h:(2 ^ i-1).testBit j=true):j<i:=by
 rw[Nat.testBit_two_pow_sub_one]at h;simpa using h
def vU(mk:Bool)(rid i id:Nat):Prop:=mk=true→ma rid (fun k=>k<i) id
theorem lg(E:Env P Eqs Sg F){rid n:Nat}{ops:Array Oper}{b:Array Nat}(mk:Bool)(Ow:mk=false→∀(i:Nat) (o:Oper),ops[i]? = some o→makes o.op=false)(hn:ops.size≤128)(kB:∀(i:Nat) (o:Oper),ops[i]? = some o→gZ n o=true){kk:St→Option R}{r:R}{Q:Exit→Act→World→Prop}
  (hQ:∀dX Z ψ a w,kk dX=some r→Ok Z0 w0 O ψ0 Z ψ dX.heap.get w→cG Z ψ dX.heap.get w n (look dX.tmps) a→Q .normal a w) :
  ∀(l:List (Nat×Oper)) (i:Nat) (st:St) (Z:Nat→Prop) (ψ:Nat→Value) (a:Act) (w:World),z6 ops i l→bA P Eqs Sg F rid false ops b l st kk=some r →
   J (vU mk rid i) n Z0 w0 O ψ0 Z ψ (look st.tmps) st.heap.get a w→wpOps P ops Q (l.map Prod.fst) a w
 |[],i,st,Z,ψ,a,w,_,hx,j=>hQ st Z ψ a w hx j.ok j.tr
 |(i',o)::l,i,st,Z,ψ,a,w,hl,hx,j=>by
  obtain⟨rfl,ho,hl⟩:=hl
  have hi:i'<128:=Nat.lt_of_lt_of_le (Array.getElem?_eq_some_iff.1 ho).1 hn
  have RX:=kB i' o ho
  have ih:=lg E (rid:=rid) (b:=b) mk Ow hn kB hQ l (i'+1)
  have up:∀id,vU mk rid i' id→vU mk rid (i'+1) id:=fun id h hm hr=>Nat.lt_succ_of_lt (h hm hr)
  have runs:∀hY:St,look hY.tmps=look st.tmps→hY.heap=st.heap→Region.wanted o (yielded ops a.tmps)=true →
    (match om P (opId rid i') hY o with
    |some dX=>bA P Eqs Sg F rid false ops b l dX kk
    |none=>match tR o with
    |some x=>kP hY.heap (ρ hY.tmps x) fun v h=>bA P Eqs Sg F rid false ops b l (({ hY with heap:=h }:St).put o.dst v) kk
    |none=>match isNil P o with
    |some (x,want)=>tS hY.heap (ρ hY.tmps x) want fun v=>bA P Eqs Sg F rid false ops b l (hY.put o.dst v) kk
    |none=>cM P Eqs Sg F (opId rid i') hY.heap hY.tmps o fun e=>if gu false rid ops b i' (2 ^ i' - 1) e then bA P Eqs Sg F rid false ops b l ({ hY with heap:=match e with | .wr _ h=>h|e=>e.h hY.heap }.put o.dst e.v) kk else none)=some r →
    wpOps P ops Q (((i',o)::l).map Prod.fst) a w:=by
   intro hY h1 h2 hw hx
   split at hx
   ·rename_i dX nC
    simp only[List.map_cons,wpOps,ho,hw,if_true]
    refine .inl ?_
    have YB:makes o.op=true:=by
     unfold om at nC
     split at nC
     ·rename_i El;rw[El];rfl
     ·cases nC
    have adA:mk=true:=by
     cases Mi:mk with
     |true=>rfl
     |false=>rw[Ow Mi i' o ho]at YB;cases YB
    have j1:J (vU mk rid i') n Z0 w0 O ψ0 Z ψ (look hY.tmps) hY.heap.get a w:=by rw[h1,h2];exact j
    obtain⟨V,w',Z',ψ',dk,j'⟩:=Jd (P:=P) (p':=vU mk rid (i'+1)) (fun id hp mQ=>by
     obtain⟨h3,h4⟩:=mQ.parts hi
     have:=hp adA h3
     rw[h4]at this
     exact Nat.lt_irrefl _ this) up (fun _ h3=>by
      have:=((Ga (rid:=rid) (i:=i')).parts hi).2
      rw[this];exact Nat.lt_succ_self _) j1 RX nC
    unfold Oper.wp
    rw[dk]
    exact ih dX Z' ψ' _ w' hl hx j'
   split at hx
   ·rename_i x C2
    simp only[List.map_cons,wpOps,ho,hw,if_true]
    refine .inl ?_
    have El:o.op=.next x false:=by
     unfold tR at C2
     split at C2
     ·rename_i El;cases C2;exact El
     ·cases C2
    have XE:av Z ψ hY.heap.get w (ρ hY.tmps x) (a.eval x):=ql (by rw[h1,h2];exact j.tr) x
    have g1:Good Z ψ hY.heap.get w w0.heap.size O:=by rw[h2];exact j.ok.dL
    obtain⟨v,h',V,w',dk,nx,hr,Sw,VL,pH⟩:=Je (P:=P) (N:=fun _=>False) (ty:=o.type) g1 XE hx
    have Ox:(execOp a.eval o).run P w=.ok (.value V) w':=by
     obtain⟨dst,op,type,pos,after,guard⟩:=o
     simp only at El
     subst El
     simp only at dk
     simp[execOp,dk]
    unfold Oper.wp
    rw[Ox]
    refine ih _ Z ψ _ w' hl Sw ?_
    rw[gO,c7]
    have j1:J (vU mk rid i') n Z0 w0 O ψ0 Z ψ (look hY.tmps) hY.heap.get a w:=by rw[h1,h2];exact j
    refine⟨j1.ok.next (fun id h=>h.elim) nx,(j1.tr.next g1 nx (fun d=>(j1.tm d).imp fun _ _ h=>h)).put RX hr,fun d=>?_,fun k ty cs hb=>(j1.hm k ty cs (pH k ty cs hb)).imp up⟩
    cases kB:o.dst with
    |none=>exact(j1.tm d).imp up
    |some d0 =>
     simp only[iG,dM]
     split
     ·exact VL _
     ·exact(j1.tm d).imp up
   split at hx
   ·rename_i x want YC
    obtain⟨op,t,v,t',et,El,ht,rfl,qm⟩:=Jf YC
    simp only[List.map_cons,wpOps,ho,hw,if_true]
    refine .inl ?_
    have XE:av Z ψ hY.heap.get w (ρ hY.tmps x) (a.eval x):=ql (by rw[h1,h2];exact j.tr) x
    have g1:Good Z ψ hY.heap.get w w0.heap.size O:=by rw[h2];exact j.ok.dL
    obtain⟨c,dk,Sw⟩:=Ov (P:=P) g1 x (.const (.slice none 0 0)) XE ht qm hx
    have Ox:(execOp a.eval o).run P w=.ok (.value (.bool c)) w:=by
     obtain⟨dst,op',type,pos,after,guard⟩:=o
     simp only at El
     subst El
     have e1:a.eval (.const (.slice none 0 0))=.slice none 0 0:=rfl
     simp[execOp,e1,dk.1,dk.2]
    unfold Oper.wp
    rw[Ox]
    refine ih _ Z ψ _ w hl Sw ?_
    rw[gO,c7]
    have j1:J (vU mk rid i') n Z0 w0 O ψ0 Z ψ (look hY.tmps) hY.heap.get a w:=by rw[h1,h2];exact j
    refine⟨j1.ok,j1.tr.put RX (by simp only[av]),fun d=>?_,fun k ty cs hb=>(j1.hm k ty cs hb).imp up⟩
    cases kB:o.dst with
    |none=>exact(j1.tm d).imp up
    |some d0 =>
     simp only[iG,dM]
     split
     ·simp only[aE]
     ·exact(j1.tm d).imp up
   rw[lf]at hx
   obtain⟨e,he,hx⟩:=Option.bind_eq_some_iff.1 hx
   split at hx
   ·rename_i kI
    simp only[List.map_cons,wpOps,ho,hw,if_true]
    refine .inl ?_
    have hh:hY.heap.get=st.heap.get:=by rw[h2]
    have nC:aE (vU mk rid (i'+1)) e.v∧su (vU mk rid (i'+1)) (e.hp st.heap.get):=by
     cases Mi:mk with
     |false =>
      have ht:vU false rid (i'+1)=fun _=>True:=funext fun id=>propext ⟨fun _=>trivial,fun _ h=>by cases h⟩
      rw[ht];exact⟨aE.top _,fun _ _ cs _=>ax.top cs⟩
     |true =>
      have SB:su (ma rid fun k=>k<i') st.heap.get:=fun id ty cs hb=>(j.hm id ty cs hb).imp fun id h1=>h1 Mi
      have h3:=z7 (hh:=hY.heap) SB (fun k hk=>Cn hk) kI
      have hS:∀k,(k<i'∨k=i')→k<i'+1:=fun k hk=>by omega
      exact⟨h3.1.imp fun id h1 _ h2=>hS _ (h1 h2),fun id ty cs hb=>(h3.2 id ty cs hb).imp fun id h1 _ h2=>hS _ (h1 h2)⟩
    refine J.op E (p:=vU mk rid i') (p':=vU mk rid (i'+1)) (rid:=rid) (i:=i') (s:=hY.tmps) (fun hm id hp mQ => ?_) j RX (fun x _=>ql (by rw[h1];exact j.tr) x) (fun x _=>Mh (by rw[h1];exact j.tm) x) (fun id o hg=>by rw[hh]at hg;exact hg) he (fun _ _ _=>hh) up nC.1 nC.2 fun a' w' Z' ψ' j' => ?_
    ·cases Mi:mk with
     |false=>rw[Ow Mi i' o ho]at hm;cases hm
     |true =>
      obtain⟨h3,h4⟩:=mQ.parts hi
      have:=hp Mi h3
      rw[h4]at this
      exact Nat.lt_irrefl _ this
    refine ih _ Z' ψ' a' w' hl hx ?_
    rw[gO,c7]
    have j2:J (vU mk rid (i'+1)) n Z0 w0 O ψ0 Z' ψ' (iG (look hY.tmps) o.dst e.v) (bE.heap e hY.heap).get a' w':=by rw[bE.Gb,h1,h2];exact j'
    exact j2
   ·cases hx
  have um:∀hY:St,look hY.tmps=look st.tmps→hY.heap=st.heap→Region.wanted o (yielded ops a.tmps)=false →
    bA P Eqs Sg F rid false ops b l (hY.put o.dst (.mI [])) kk=some r→wpOps P ops Q (((i',o)::l).map Prod.fst) a w:=by
   intro hY h1 h2 hw hx
   simp only[List.map_cons,wpOps,ho,hw,Bool.false_eq_true,if_false]
   refine ih _ Z ψ _ w hl hx ?_
   rw[gO,c7,h1,h2]
   exact j.skip RX up
  rw[bA]at hx
  simp only[Bool.false_eq_true,if_false]at hx
  split at hx
  ·rename_i hg
   exact runs st rfl rfl (by simp[Region.wanted,hg]) hx
  ·rename_i jj want hg
   split at hx
   ·cases hx
   ·rename_i d hd
    split at hx
    ·rename_i t ht
     have hw:=z5 j.tr hg hd ht
     have hp:∀b,t=b→look (st.put (some d) (.bool b)).tmps=look st.tmps:=fun b hb=>by
      subst hb;rw[gO];exact C0 ht
     cases t<;>simp only[cond_true,cond_false]at hx<;>split at hx<;>rename_i qm
     ·exact um _ (hp false rfl) (c7 _ _ _) (by rw[hw];simp[qm]) hx
     ·exact runs _ (hp false rfl) (c7 _ _ _) (by rw[hw];simp[qm]) hx
     ·exact runs _ (hp true rfl) (c7 _ _ _) (by rw[hw];simp[qm]) hx
     ·exact um _ (hp true rfl) (c7 _ _ _) (by rw[hw];simp[qm]) hx
    ·rename_i vs ht
     exact um st rfl rfl (xl j.tr hg hd ht) hx
    ·cases hx
end Go.Vs
namespace Go.Vs
variable {P:Program} {Eqs:TypeId→Option K} {Sg:FuncId→Option aJ} {F:(f:FuncId)→(g:aJ)→g.A→Option g.B} {R:Type}
variable {Z Z' Z0:Nat→Prop} {ψ ψ' ψ0:Nat→Value} {h h':Hp} {w w' w0:World} {B0:Nat} {O N:Nat→Prop}
theorem j8(hp h:Heap)(i:Nat):∀(ft:List Nat),(eV ft hp h).get i=if i∈ft then(match hp.get i with|some o=>some o|none=>h.get i) else h.get i
 |[]=>by simp[eV]
 |j::r=>by
  have ih:=j8 hp h i r
  unfold eV at ih ⊢
  cases hj:hp.get j with
  |none =>
   rw[List.filterMap_cons,hj]
   simp only[Option.map_none]
   rw[ih]
   by_cases e:i=j
   ·subst e;simp[hj]
   ·simp[e]
  |some o =>
   rw[List.filterMap_cons,hj]
   simp only[Option.map_some,List.cons_append,Heap.get]
   rw[ih]
   by_cases e:j=i
   ·subst e;simp[hj]
   ·have e':¬i=j:=fun h=>e h.symm
    simp[e,e']
mutual
theorem xm{ft:List Nat}:∀{v:AV},p4 ft v=true→aE (fun i=>i∉ft) v
 |.ref id _ _ _,h=>by simp only[aE];simpa[p4] using h
 |.bF id,h=>by simp only[aE];simpa[p4] using h
 |.fn _ cap,h=>by simp only[aE];exact j9 (by simpa only[p4] using h)
 |.agg cs,h=>by simp only[aE];exact j9 (by simpa only[p4] using h)
 |.mI vs,h=>by simp only[aE];exact j9 (by simpa only[p4] using h)
 |.no,_=>by simp only[aE]
 |.bool _,_=>by simp only[aE]
 |.int _ _,_=>by simp only[aE]
 |.str _,_=>by simp only[aE]
 |.kN,_=>by simp only[aE]
 |.fJ,_=>by simp only[aE]
 |.fp _ _ _,_=>by simp only[aE]
 |.sl _ _ _,_=>by simp only[aE]
 |.mp _ _ _,_=>by simp only[aE]
theorem j9{ft:List Nat}:∀{l:List AV},sS ft l=true→ax (fun i=>i∉ft) l
 |[],_=>by simp only[ax]
 |v::r,h=>by
  simp only[sS,Bool.and_eq_true]at h
  simp only[ax]
  exact⟨xm h.1,j9 h.2⟩
end
theorem kb{ft:List Nat}:∀{hh:Heap},sV ft hh=true→∀i o,hh.get i=some o→i∉ft∧∀ty cs,o=.box ty cs→ax (fun i=>i∉ft) cs
 |[],_,i,o,h=>by simp[Heap.get]at h
 |(j,.box ty cs)::r,hc,i,o,h=>by
  simp only[sV,Bool.and_eq_true]at hc
  simp only[Heap.get]at h
  split at h
  ·rename_i e;subst e;cases h
   exact⟨by simpa using hc.1,fun ty cs e=>by cases e;exact j9 hc.2.1⟩
  ·exact kb hc.2.2 i o h
 |(j,.own ok x)::r,hc,i,o,h=>by
  simp only[sV,Bool.and_eq_true]at hc
  simp only[Heap.get]at h
  split at h
  ·rename_i e;subst e;cases h
   exact⟨by simpa using hc.1,fun ty cs e=>by cases e⟩
  ·exact kb hc.2 i o h
theorem Next.frame{hp h1:Heap}{ft:List Nat}(g:Good Z ψ hp.get w B0 O)(hB:B0≤w.heap.size)(bg:∀i ty cs,hp.get i=some (.box ty cs)→ax (fun i=>¬N i) cs)
  (n:Next Z ψ (gG hp ft).get w w.heap.size (Own ψ (gG hp ft).get) N Z' ψ' h1.get w') (hc:sV ft h1=true) :
  ∃dP,Next Z ψ hp.get w B0 O N Z' dP (eV ft hp h1).get w'∧∀i,i∉ft→dP i=ψ' i:=by
 classical
 have gd:∀i,(gG hp ft).get i=if i∈ft then none else hp.get i:=fun i=>nt ft hp i
 have bz:∀b,Own ψ (gG hp ft).get b→Own ψ hp.get b:=fun b ⟨i,h1,h2⟩=>⟨i,by rw[gd]at h1;split at h1;exact absurd rfl h1;exact h1,h2⟩
 have qg:∀i,i∈ft→h1.get i=none:=fun i hi=>by
  cases e:h1.get i with
  |none=>rfl
  |some o=>exact absurd hi (kb hc i o e).1
 have gf:∀i,(eV ft hp h1).get i=if i∈ft then hp.get i else h1.get i:=fun i=>by
  rw[j8]
  by_cases hi:i∈ft
  ·rw[if_pos hi,if_pos hi,qg i hi];cases hp.get i<;>rfl
  ·rw[if_neg hi,if_neg hi]
 let dP:Nat→Value:=fun i=>if i∈ft then ψ i else ψ' i
 have p1:∀i,i∈ft→dP i=ψ i:=fun i hi=>if_pos hi
 have p2:∀i,i∉ft→dP i=ψ' i:=fun i hi=>if_neg hi
 have apart:∀i b,i∈ft→hp.get i≠none→ob (ψ i)=some b→¬Own ψ (gG hp ft).get b:=fun i b hi h2 h3 ⟨j,h4,h5⟩=>by
  rw[gd]at h4
  split at h4
  ·exact h4 rfl
  ·rename_i hj
   have:=g.apart i j b h2 h4 h3 h5
   subst this;exact hj hi
 have cK:∀i b,i∈ft→hp.get i≠none→ob (ψ i)=some b→w'.heap[b]? = w.heap[b]? := fun i b hi h2 h3 =>
  n.keep.block b (g.bM ⟨i,h2,h3⟩) (apart i b hi h2 h3)
 have keep:cW ψ hp.get w w':=⟨n.keep.os,n.keep.tape,n.keep.output,n.keep.size,fun b hb hn=>n.keep.block b hb fun ho=>hn (bz b ho)⟩
 have sm:cp Z w w':=keep.same g
 have ids:∀i,(eV ft hp h1).get i≠none→(hp.get i≠none∧dP i=ψ i)∨N i:=fun i hi=>by
  rw[gf]at hi
  by_cases hf:i∈ft
  ·rw[if_pos hf]at hi;exact .inl ⟨hi,p1 i hf⟩
  ·rw[if_neg hf]at hi
   rcases n.ids i hi with⟨h2,h3⟩|h2
   ·rw[gd,if_neg hf]at h2
    exact .inl ⟨h2,(p2 i hf).trans h3⟩
   ·exact .inr h2
 have nz:∀i b,i∈ft→hp.get i≠none→ob (ψ i)=some b→¬Z' b:=fun i b hi h2 h3 hz=>by
  rcases n.dY b hz with h4|h4|h4
  ·exact(g.live i b h2 h3).1 h4
  ·exact apart i b hi h2 h3 h4
  ·have:=g.bM ⟨i,h2,h3⟩;omega
 refine⟨dP,⟨n.fD,fun b hb=>(n.dY b hb).imp (fun h=>h) (fun h=>h.imp (bz b) fun h=>h),keep,ids,⟨fun i ty cs hb=>?_,fun i ok x hb=>?_,fun i b h2 h3=>?_,fun i j b h2 h3 h4 h5=>?_,n.dL.jx⟩⟩,p2⟩
 ·rw[gf]at hb
  by_cases hf:i∈ft
  ·rw[if_pos hf]at hb
   obtain⟨gg,vs,e1,e2,e3,e4⟩:=g.box i ty cs hb
   refine⟨gg,vs,by rw[p1 i hf,e1],(cK i gg hf (by rw[hb];simp) (by rw[e1];rfl)).trans e2,e3.move n.fD sm (fun j hj bq=>(ids j bq).resolve_right hj) (bg i ty cs hb),e4⟩
  ·rw[if_neg hf]at hb
   obtain⟨gg,vs,e1,e2,e3,e4⟩:=n.dL.box i ty cs hb
   refine⟨gg,vs,by rw[p2 i hf,e1],e2,e3.move (fun _ h=>h) (cp.refl _ _) (fun j hj bq=>?_) ((kb hc i _ hb).2 ty cs rfl),e4⟩
   rw[gf,if_neg hj]at bq
   exact⟨bq,p2 j hj⟩
 ·rw[gf]at hb
  by_cases hf:i∈ft
  ·rw[if_pos hf]at hb
   rw[p1 i hf]
   exact(g.row i ok x hb).kept n.fD sm (fun b jz=>cK i b hf (by rw[hb];simp) jz)
  ·rw[if_neg hf]at hb
   rw[p2 i hf]
   exact n.dL.row i ok x hb
 ·rw[gf]at h2
  by_cases hf:i∈ft
  ·rw[if_pos hf]at h2
   rw[p1 i hf]at h3
   exact⟨nz i b hf h2 h3,(g.live i b h2 h3).2⟩
  ·rw[if_neg hf]at h2
   rw[p2 i hf]at h3
   obtain⟨h4,h5⟩:=n.dL.live i b h2 h3
   refine⟨h4,h5.elim (fun h=>.inl (Nat.le_trans hB h)) fun h=>?_⟩
   obtain⟨j,h6,h7⟩:=bz b h
   exact(g.live j b h6 h7).2
 ·have mixed:∀i j b,i∈ft→j∉ft→(eV ft hp h1).get i≠none→(eV ft hp h1).get j≠none→ob (dP i)=some b→ob (dP j)=some b→False:=fun i j b hi hj h2 h3 h4 h5=>by
   rw[gf,if_pos hi]at h2
   rw[gf,if_neg hj]at h3
   rw[p1 i hi]at h4
   rw[p2 j hj]at h5
   rcases (n.dL.live j b h3 h5).2 with h6|h6
   ·have:=g.bM ⟨i,h2,h4⟩;omega
   ·exact apart i b hi h2 h4 h6
  by_cases hi:i∈ft<;>by_cases hj:j∈ft
  ·rw[gf,if_pos hi]at h2
   rw[gf,if_pos hj]at h3
   rw[p1 i hi]at h4
   rw[p1 j hj]at h5
   exact g.apart i j b h2 h3 h4 h5
  ·exact(mixed i j b hi hj h2 h3 h4 h5).elim
  ·exact(mixed j i b hj hi h3 h2 h5 h4).elim
  ·rw[gf,if_neg hi]at h2
   rw[gf,if_neg hj]at h3
   rw[p2 i hi]at h4
   rw[p2 j hj]at h5
   exact n.dL.apart i j b h2 h3 h4 h5
theorem J.opF(E:Env P Eqs Sg F){rid n i:Nat}{p:Nat→Prop}{T:Nat→AV}{a:Act}{s:List (Nat×AV)}{o:Oper}(hS:makes o.op=true→∀id,p id→¬Of rid i id){hp h1:Heap}{v:AV}{ft:List Nat}(j:J p n Z0 w0 O ψ0 Z ψ T hp.get a w)(hd:gZ n o=true)
  (hT:∀x∈o.op.operands,av Z ψ hp.get w (ρ s x) (a.eval x)) (hTm:∀x∈o.op.operands,aE p (ρ s x)) (he:cM P Eqs Sg F (opId rid i) (gG hp ft) s o some=some (.wr v h1)) (hc:mL ft (.wr v h1)=true)
  {p':Nat→Prop} (Nw:∀k,p k→p' k) (hv:aE p' v) (VY:su p' (eV ft hp h1).get) {next:Act→World→Prop} {Q:Exit→Act→World→Prop}
  (hk:∀a' w' Z' ψ',J p' n Z0 w0 O ψ0 Z' ψ' (iG T o.dst v) (eV ft hp h1).get a' w'→next a' w'):o.wp P a w next Q:=by
 have VZ:∀id,p id→¬(makes o.op=true∧Of rid i id):=fun id h ⟨h1,h2⟩=>hS h1 id h h2
 simp only[mL,Bool.and_eq_true]at hc
 have bz:∀id o,(gG hp ft).get id=some o→hp.get id=some o:=fun id o h=>by rw[nt]at h;split at h;cases h;exact h
 have bq:∀id,(gG hp ft).get id≠none→hp.get id≠none:=fun id h=>by
  obtain⟨o,ho⟩:=Option.ne_none_iff_exists'.1 h
  rw[bz id o ho];simp
 have bg:∀i' ty cs,hp.get i'=some (.box ty cs)→ax (fun id=>¬(makes o.op=true∧Of rid i id)) cs:=fun id ty cs hb=>(j.hm id ty cs hb).imp VZ
 have gs:Good Z ψ (gG hp ft).get w w.heap.size (Own ψ (gG hp ft).get):=(j.ok.dL.sub bz).Eh _
 refine Uv (N:=fun id=>makes o.op=true∧Of rid i id) E gs (Nat.le_refl _) (fun _ _ h=>h) (id:=opId rid i) (fun hm k hk=>⟨hm,Ky hk⟩) (fun x hx=>(hT x hx).pI bz) (fun x hx=>(hTm x hx).imp VZ) (fun id ty cs hb=>bg id ty cs (bz _ _ hb)) (fun _ _ _=>rfl) he fun V w' Z' ψ' nx hr=>?_
 obtain⟨dP,n2,h2⟩:=Next.frame j.ok.dL j.ok.size bg nx hc.2
 have V6:av Z' dP (eV ft hp h1).get w' v V:=hr.move (p:=fun i=>i∉ft) (fun _ h=>h) (cp.refl _ _) (fun k hk bq=>by
  rw[j8,if_neg hk]at bq
  exact⟨bq,h2 k hk⟩) (xm hc.1)
 refine hk _ w' Z' dP ⟨j.ok.next (fun id h=>by have:=h.2;unfold Of at this;omega) n2,(j.tr.next j.ok.dL n2 (fun d=>(j.tm d).imp VZ)).put hd V6,fun d=>?_,VY⟩
 cases kB:o.dst with
 |none=>exact(j.tm d).imp Nw
 |some d0 =>
  simp only[iG,dM]
  split
  ·exact hv
  ·exact(j.tm d).imp Nw
end Go.Vs
namespace Go.Vs
variable {P:Program} {Eqs:TypeId→Option K} {Sg:FuncId→Option aJ} {F:(f:FuncId)→(g:aJ)→g.A→Option g.B} {R:Type}
variable {Z Z' Z0:Nat→Prop} {ψ ψ':Nat→Value} {h h':Hp} {w w' w0:World} {B0:Nat} {O N:Nat→Prop}
variable {rid n:Nat} {ops:Array Oper} {b:Array Nat}
def rl(b:Array Nat)(i j:Nat):Prop:=(b.getD i 0).testBit j=true
theorem C3(b:Array Nat)(j:Nat):∀(l:List Edge) (s:Nat),(l.foldl (fun s e=>if Region.binds .any e then s ||| 2 ^ e.on ||| b.getD e.on 0 else s) s).testBit j=true ↔
  s.testBit j=true∨∃e∈l,Region.binds .any e=true∧(j=e.on∨rl b e.on j)
 |[],s=>by simp
 |e::l,s=>by
  rw[List.foldl_cons,C3 b j l]
  by_cases hb:Region.binds .any e=true
  ·rw[if_pos hb]
   have h2:(2 ^ e.on).testBit j=true↔j=e.on:=by rw[Nat.testBit_two_pow];simp[eq_comm]
   simp only[Nat.testBit_or,Bool.or_eq_true,h2,List.mem_cons,exists_eq_or_imp,hb,true_and,rl]
   constructor
   ·rintro(((h|h)|h)|h)
    ·exact .inl h
    ·exact .inr (.inl (.inl h))
    ·exact .inr (.inl (.inr h))
    ·exact .inr (.inr h)
   ·rintro(h|(h|h)|h)
    ·exact .inl (.inl (.inl h))
    ·exact .inl (.inl (.inr h))
    ·exact .inl (.inr h)
    ·exact .inr h
  ·rw[if_neg hb]
   simp[hb]
theorem yr(hb:tO ops b=true){i j:Nat}{o:Oper}(ho:ops[i]? = some o):rl b i j↔∃e∈o.after.toList,Region.binds .any e=true∧(j=e.on∨rl b e.on j):=by
 have aF:=(Array.getElem?_eq_some_iff.1 ho).1
 have h1:=List.all_eq_true.1 hb i (List.mem_range.2 aF)
 rw[ho]at h1
 simp only[Bool.and_eq_true,beq_iff_eq]at h1
 unfold rl
 rw[h1.2,C3]
 simp[rl]
theorem Jg(hb:tO ops b=true){i:Nat}{o:Oper}(ho:ops[i]? = some o){e:Edge}(he:e∈o.after.toList)(L5:Region.binds .any e=true):e.on<i:=by
 have aF:=(Array.getElem?_eq_some_iff.1 ho).1
 have h1:=List.all_eq_true.1 hb i (List.mem_range.2 aF)
 rw[ho]at h1
 simp only[Bool.and_eq_true]at h1
 have:=List.all_eq_true.1 h1.1 e he
 simpa[L5] using this
theorem z8(hb:tO ops b=true):∀(i j:Nat),i<ops.size→rl b i j→j<i:=by
 intro i
 induction i using Nat.strongRecOn with
 |ind i ih =>
  intro j hi h
  obtain⟨e,he,L5,h1⟩:=(yr hb (Array.getElem?_eq_getElem hi)).1 h
  have Ux:=Jg hb (Array.getElem?_eq_getElem hi) he L5
  rcases h1 with rfl|h1
  ·exact Ux
  ·exact Nat.lt_trans (ih e.on Ux j (by omega) h1) Ux
theorem C4(hb:tO ops b=true):∀(i j k:Nat),i<ops.size→rl b i j→rl b j k→rl b i k:=by
 intro i
 induction i using Nat.strongRecOn with
 |ind i ih =>
  intro j k hi h h'
  obtain⟨e,he,L5,h1⟩:=(yr hb (Array.getElem?_eq_getElem hi)).1 h
  have Ux:=Jg hb (Array.getElem?_eq_getElem hi) he L5
  refine(yr hb (Array.getElem?_eq_getElem hi)).2 ⟨e,he,L5,?_⟩
  rcases h1 with rfl|h1
  ·exact .inr h'
  ·exact .inr (ih e.on Ux j k (by omega) h1 h')
theorem get_filter(f:Nat→Bool):∀(hh:Heap) (i:Nat),Heap.get (hh.filter fun p=>f p.1) i=if f i then hh.get i else none
 |[],i=>by simp[Heap.get]
 |(j,o)::r,i=>by
  rw[List.filter_cons]
  split
  ·rename_i hj
   simp only[Heap.get]
   by_cases e:j=i
   ·subst e;simp only at hj;simp[hj]
   ·simp only[if_neg e];exact get_filter f r i
  ·rename_i hj
   rw[get_filter f r i]
   simp only[Heap.get]
   by_cases e:j=i
   ·subst e;simp only at hj;simp[hj]
   ·simp only[if_neg e]
theorem Mj(rid IH:Nat)(hh:Heap)(id:Nat):(ahead rid IH hh).get id=if pZ rid IH id then hh.get id else none:=by
 unfold ahead
 exact get_filter (fun i=>pZ rid IH i) hh id
theorem Oy(ft:List Nat)(hp:Heap)(e:bE):(gx ft hp e).v=e.v:=by cases e<;>rfl
theorem Ge{id:Nat}{hh:Heap}{s:List (Nat×AV)}{o:Oper}{x:Operand}{e:bE}(hl:iP o.op=some x)(he:cM P Eqs Sg F id hh s o some=some e):∃v,e=.val v:=by
 obtain⟨dst,op,type,pos,after,guard⟩:=o
 cases op<;>simp only[iP]at hl<;>first|(cases hl;done)|skip
 case load t a =>
  simp only[cM,lr]at he
  repeat' (first|(cases he;done)|exact⟨_,(Option.some.inj he).symm⟩|split at he)
  all_goals
   obtain⟨y,_,he⟩:=Option.bind_eq_some_iff.1 he
   split at he<;>first|(cases he;done)|exact⟨_,(Option.some.inj he).symm⟩
 case indexAddr t a i =>
  simp only[cM,dt]at he
  repeat' (first|(cases he;done)|exact⟨_,(Option.some.inj he).symm⟩|split at he)
  all_goals first
   |(obtain⟨y,_,he⟩:=Option.bind_eq_some_iff.1 he;exact⟨_,(Option.some.inj he).symm⟩)
   |(unfold cond at he;split at he<;>first|(cases he;done)|exact⟨_,(Option.some.inj he).symm⟩)
theorem C5{op:Op}{x:Operand}(hl:iP op=some x):mK op=false∧D2 op=false:=by
 cases op<;>simp only[iP]at hl<;>first|(cases hl;done)|exact⟨rfl,rfl⟩
theorem Jh{id:Nat}{hh h2:Heap}{s:List (Nat×AV)}{o:Oper}{x:Operand}(hl:iP o.op=some x)(hg:∀i∈tQ (ρ s x),h2.get i=hh.get i):cM P Eqs Sg F id h2 s o some=cM P Eqs Sg F id hh s o some:=by
 obtain⟨dst,op,type,pos,after,guard⟩:=o
 cases op<;>simp only[iP]at hl<;>first|(cases hl;done)|skip
 case load t a =>
  cases hl
  simp only[cM,lr]
  cases hv:ρ s x with
  |ref i s' j off=>rw[hv]at hg;simp only[tQ,List.mem_singleton,forall_eq]at hg;simp only[hg]
  |_=>rfl
 case indexAddr t a i =>
  cases hl
  simp only[cM,dt]
  cases wR P t with
  |none=>rfl
  |some e =>
   simp only[]
   cases hv:ρ s x with
   |bF k =>
    rw[hv]at hg
    have zt:=hg k (by simp[tQ])
    cases ρ s i<;>first|rfl|simp only[zt]
   |sl ex k xs=>cases ρ s i<;>rfl
   |_=>rfl
def pj(ops:Array Oper)(T:Nat→AV)(o:Oper)(t:Bool):Prop :=
 match o.guard with
 |none=>t=true
 |some (j,want)=>∃d,(ops[j]?).bind (·.dst)=some d∧((∃u,T d=.bool u∧(u==want)=t)∨(∃vs,T d=.mI vs∧t=false))
def Aa(P:Program)(Eqs:TypeId→Option K)(Sg:FuncId→Option aJ)(F:(f:FuncId)→(g:aJ)→g.A→Option g.B)(rid:Nat)(ops:Array Oper)(b:Array Nat)(T:Nat→Nat→AV)(H:Nat→Hp)(E:Nat→Option bE)(k:Nat)(o:Oper):Prop :=
 (∃e s hh,E k=some e∧look s=T k∧(∀id,Heap.get hh id=if pZ rid (b.getD k 0) id then H k id else none)∧(∃e0,cM P Eqs Sg F (opId rid k) (gG hh (gH ops b k s o)) s o some=some e0∧e=gx (gH ops b k s o) hh e0∧mL (gH ops b k s o) e0=true) ∧
  gu true rid ops b k (b.getD k 0) e=true∧pj ops (T k) o true∧T (k+1)=iG (T k) o.dst e.v∧H (k+1)=e.hp (H k)) ∨
 (E k=none∧pj ops (T k) o false∧T (k+1)=iG (T k) o.dst (.mI [])∧H (k+1)=H k)
theorem trace{kk:St→Option R}{r:R}:∀(l:List (Nat×Oper)) (i:Nat) (st:St),z6 ops i l→l.length=ops.size-i→bA P Eqs Sg F rid true ops b l st kk=some r →
  ∃(T:Nat→Nat→AV) (H:Nat→Hp) (E:Nat→Option bE),T i=look st.tmps∧H i=st.heap.get∧(∀k o,i≤k→ops[k]? = some o→Aa P Eqs Sg F rid ops b T H E k o) ∧
   ∃dX,kk dX=some r∧look dX.tmps=T (max i ops.size)∧dX.heap.get=H (max i ops.size)
 |[],i,st,_,hlen,hx=>by
  have Ur:ops.size≤i:=by simp at hlen;omega
  refine⟨fun _=>look st.tmps,fun _=>st.heap.get,fun _=>none,rfl,rfl,fun k o hk ho=>?_,st,hx,rfl,rfl⟩
  have:=(Array.getElem?_eq_some_iff.1 ho).1
  omega
 |(i',o)::l,i,st,hl,hlen,hx=>by
  obtain⟨rfl,ho,hl⟩:=hl
  have aF:=(Array.getElem?_eq_some_iff.1 ho).1
  have ih:=trace (kk:=kk) (r:=r) l (i'+1)
  have YD:l.length=ops.size-(i'+1):=by simp at hlen;omega
  have glue:∀(dX:St) (oe:Option bE),bA P Eqs Sg F rid true ops b l dX kk=some r →
    (∀T H E,T i'=look st.tmps→H i'=st.heap.get→E i'=oe→T (i'+1)=look dX.tmps→H (i'+1)=dX.heap.get→Aa P Eqs Sg F rid ops b T H E i' o) →
    ∃(T:Nat→Nat→AV) (H:Nat→Hp) (E:Nat→Option bE),T i'=look st.tmps∧H i'=st.heap.get∧(∀k o,i'≤k→ops[k]? = some o→Aa P Eqs Sg F rid ops b T H E k o) ∧
     ∃dX,kk dX=some r∧look dX.tmps=T (max i' ops.size)∧dX.heap.get=H (max i' ops.size):=by
   intro dX oe Yd tW
   obtain⟨T,H,E,h1,h2,h3,adB,h4,h5,h6⟩:=ih dX hl YD Yd
   refine⟨fun k=>if k≤i' then look st.tmps else T k,fun k=>if k≤i' then st.heap.get else H k,fun k=>if k=i' then oe else E k,by simp,by simp,fun k o' hk mQ => ?_,adB,h4,?_,?_⟩
   ·by_cases hki:k=i'
    ·subst hki
     rw[ho]at mQ
     cases mQ
     exact tW _ _ _ (by simp) (by simp) (by simp) (by show(if k+1≤k then _ else _)=_;rw[if_neg (by omega)];exact h1) (by show(if k+1≤k then _ else _)=_;rw[if_neg (by omega)];exact h2)
    ·have h7:=h3 k o' (by omega) mQ
     unfold Aa at h7 ⊢
     simp only[show ¬k≤i' by omega,show ¬k+1≤i' by omega,hki,if_false]
     exact h7
   ·rw[h5];simp only[show max (i'+1) ops.size=ops.size by omega,show max i' ops.size=ops.size by omega,show ¬ops.size≤i' by omega,if_false]
   ·rw[h6];simp only[show max (i'+1) ops.size=ops.size by omega,show max i' ops.size=ops.size by omega,show ¬ops.size≤i' by omega,if_false]
  have runs:∀hY:St,look hY.tmps=look st.tmps→hY.heap=st.heap→pj ops (look st.tmps) o true →
    (cM P Eqs Sg F (opId rid i') (gG (ahead rid (b.getD i' 0) hY.heap) (gH ops b i' hY.tmps o)) hY.tmps o fun e=>if(gu true rid ops b i' (b.getD i' 0) (gx (gH ops b i' hY.tmps o) (ahead rid (b.getD i' 0) hY.heap) e)&&mL (gH ops b i' hY.tmps o) e)=true then bA P Eqs Sg F rid true ops b l ({ hY with heap:=match gx (gH ops b i' hY.tmps o) (ahead rid (b.getD i' 0) hY.heap) e with | .wr _ h=>h|e=>e.h hY.heap }.put o.dst e.v) kk else none)=some r →
    ∃(T:Nat→Nat→AV) (H:Nat→Hp) (E:Nat→Option bE),T i'=look st.tmps∧H i'=st.heap.get∧(∀k o,i'≤k→ops[k]? = some o→Aa P Eqs Sg F rid ops b T H E k o) ∧
     ∃dX,kk dX=some r∧look dX.tmps=T (max i' ops.size)∧dX.heap.get=H (max i' ops.size):=by
   intro hY h1 h2 hw hx
   rw[lf]at hx
   obtain⟨e,he,hx⟩:=Option.bind_eq_some_iff.1 hx
   split at hx
   ·rename_i kI
    rw[Bool.and_eq_true]at kI
    generalize Eo:gx (gH ops b i' hY.tmps o) (ahead rid (b.getD i' 0) hY.heap) e=e1 at hx kI
    have ud:e.v=e1.v:=by rw[←Eo];exact(Oy _ _ _).symm
    refine glue _ (some e1) hx fun T H E hT hH hE hT' VR => ?_
    refine .inl ⟨e1,hY.tmps,_,hE,by rw[hT,h1],fun id=>by rw[Mj,hH,h2],⟨e,he,Eo.symm,kI.2⟩,kI.1,by rw[hT];exact hw,?_,?_⟩
    ·rw[hT',gO,hT,ud];simp only[h1]
    ·rw[VR,c7,hH]
     have:(bE.heap e1 hY.heap).get=e1.hp st.heap.get:=by rw[bE.Gb,h2]
     exact this
   ·cases hx
  have um:∀hY:St,look hY.tmps=look st.tmps→hY.heap=st.heap→pj ops (look st.tmps) o false →
    bA P Eqs Sg F rid true ops b l (hY.put o.dst (.mI [])) kk=some r →
    ∃(T:Nat→Nat→AV) (H:Nat→Hp) (E:Nat→Option bE),T i'=look st.tmps∧H i'=st.heap.get∧(∀k o,i'≤k→ops[k]? = some o→Aa P Eqs Sg F rid ops b T H E k o) ∧
     ∃dX,kk dX=some r∧look dX.tmps=T (max i' ops.size)∧dX.heap.get=H (max i' ops.size):=by
   intro hY h1 h2 hw hx
   refine glue _ none hx fun T H E hT hH hE hT' VR=>.inr ⟨hE,by rw[hT];exact hw,?_,?_⟩
   ·rw[hT',gO,hT,h1]
   ·rw[VR,c7,hH,h2]
  rw[bA]at hx
  simp only[if_true]at hx
  split at hx
  ·rename_i hg
   exact runs st rfl rfl (by simp[pj,hg]) hx
  ·rename_i jj want hg
   split at hx
   ·cases hx
   ·rename_i d hd
    split at hx
    ·rename_i t ht
     have hp:∀b,t=b→look (st.put (some d) (.bool b)).tmps=look st.tmps:=fun b hb=>by
      subst hb;rw[gO];exact C0 ht
     have hw:∀c,(t==want)=c→pj ops (look st.tmps) o c:=fun c hc=>by
      unfold pj;rw[hg];exact⟨d,hd,.inl ⟨t,ht,hc⟩⟩
     cases t<;>simp only[cond_true,cond_false]at hx<;>split at hx<;>rename_i qm
     ·exact um _ (hp false rfl) (c7 _ _ _) (hw _ (by simp[qm])) hx
     ·exact runs _ (hp false rfl) (c7 _ _ _) (hw _ (by simp[qm])) hx
     ·exact runs _ (hp true rfl) (c7 _ _ _) (hw _ (by simp[qm])) hx
     ·exact um _ (hp true rfl) (c7 _ _ _) (hw _ (by simp[qm])) hx
    ·rename_i vs ht
     exact um st rfl rfl (by unfold pj;rw[hg];exact⟨d,hd,.inr ⟨vs,ht,rfl⟩⟩) hx
    ·cases hx
def Nf(ops:Array Oper)(j:Nat):Prop:=∃o,ops[j]? = some o∧mK o.op=false∧iP o.op=none
def yu(E:Nat→Option bE)(k:Nat):Prop:=∃v h',E k=some (.wr v h')
def XG(E:Nat→Option bE)(k:Nat):Prop:=∃v os,E k=some (.new v os)
theorem uo{α:Type}(f:α→Option Nat):∀(l:List α),b4 (l.filterMap f)=true→∀(i j:Nat) (x y:α) (d:Nat),l[i]? = some x→l[j]? = some y→f x=some d→f y=some d→i=j
 |[],_,i,j,x,y,d,hi,_,_,_=>by simp at hi
 |a::r,hn,i,j,x,y,d,hi,hj,hx,hy=>by
  have iX:∀(k:Nat) (z:α),r[k]? = some z→f z=some d→d∈r.filterMap f:=fun k z hk hz=>List.mem_filterMap.2 ⟨z,List.mem_of_getElem? hk,hz⟩
  have hr:b4 (r.filterMap f)=true∧∀c,f a=some c→c∉r.filterMap f:=by
   rw[List.filterMap_cons]at hn
   split at hn
   ·rename_i h0;exact⟨hn,fun c hc=>by rw[h0]at hc;cases hc⟩
   ·rename_i c h0
    simp only[b4,Bool.and_eq_true,Bool.not_eq_true']at hn
    refine⟨hn.2,fun c' hc=>?_⟩
    rw[h0]at hc;cases hc
    intro hm
    rw[List.contains_iff_mem.2 hm]at hn;simp at hn
  cases i with
  |zero =>
   cases j with
   |zero=>rfl
   |succ j =>
    simp only[List.getElem?_cons_zero,Option.some.injEq]at hi;subst hi
    exact absurd (iX j y (by simpa using hj) hy) (hr.2 d hx)
  |succ i =>
   cases j with
   |zero =>
    simp only[List.getElem?_cons_zero,Option.some.injEq]at hj;subst hj
    exact absurd (iX i x (by simpa using hi) hx) (hr.2 d hy)
   |succ j=>rw[uo f r hr.1 i j x y d (by simpa using hi) (by simpa using hj) hx hy]
structure Dr(P:Program)(Eqs:TypeId→Option K)(Sg:FuncId→Option aJ)(F:(f:FuncId)→(g:aJ)→g.A→Option g.B)(rid n:Nat)(ops:Array Oper)(b:Array Nat)(T:Nat→Nat→AV)(H:Nat→Hp)(E:Nat→Option bE):Prop where
 size:ops.size≤128
 Nx:tO ops b=true
 pair:zd ops b=true
 adD:∀(i:Nat) (o:Oper),ops[i]? = some o→gZ n o=true
 nodup:b4 (ops.toList.filterMap (·.dst))=true
 step:∀k o,ops[k]? = some o→Aa P Eqs Sg F rid ops b T H E k o
 adE:∀id,H 0 id≠none→id / 32768≠rid+1
section
variable {T:Nat→Nat→AV} {H:Nat→Hp} {E:Nat→Option bE}
theorem Dr.yv(D:Dr P Eqs Sg F rid n ops b T H E){i j:Nat}{x y:Oper}{d:Nat}(hi:ops[i]? = some x)(hj:ops[j]? = some y)(hx:x.dst=some d)(hy:y.dst=some d):i=j :=
 uo (·.dst) ops.toList D.nodup i j x y d (by simpa using hi) (by simpa using hj) hx hy
theorem Dr.Uy(D:Dr P Eqs Sg F rid n ops b T H E){i j:Nat}{x y:Oper}(hi:ops[i]? = some x)(hj:ops[j]? = some y)(zy:i<j):rl b j i∨x.apart ops y=true:=by
 have h1:=List.all_eq_true.1 D.pair j (List.mem_range.2 (Array.getElem?_eq_some_iff.1 hj).1)
 have h2:=List.all_eq_true.1 h1 i (List.mem_range.2 zy)
 rw[hi,hj]at h2
 simp only[Bool.or_eq_true,Bool.and_eq_true]at h2
 exact h2
theorem Dr.SP(D:Dr P Eqs Sg F rid n ops b T H E){k:Nat}{o:Oper}(ho:ops[k]? = some o){e:bE}(he:E k=some e) :
  ∃s hh,look s=T k∧(∀id,Heap.get hh id=if pZ rid (b.getD k 0) id then H k id else none)∧(∃e0,cM P Eqs Sg F (opId rid k) (gG hh (gH ops b k s o)) s o some=some e0∧e=gx (gH ops b k s o) hh e0∧mL (gH ops b k s o) e0=true) ∧
   gu true rid ops b k (b.getD k 0) e=true∧pj ops (T k) o true∧T (k+1)=iG (T k) o.dst e.v∧H (k+1)=e.hp (H k):=by
 rcases D.step k o ho with⟨e',s,hh,h1,h2⟩|⟨h1,_⟩
 ·rw[he]at h1;cases h1;exact⟨s,hh,h2⟩
 ·rw[he]at h1;cases h1
theorem Dr.Ep(D:Dr P Eqs Sg F rid n ops b T H E){k:Nat}{o:Oper}(ho:ops[k]? = some o)(he:E k=none) :
  pj ops (T k) o false∧T (k+1)=iG (T k) o.dst (.mI [])∧H (k+1)=H k:=by
 rcases D.step k o ho with⟨e',s,hh,h1,h2⟩|⟨h1,h2⟩
 ·rw[he]at h1;cases h1
 ·exact h2
theorem Dr.vV(D:Dr P Eqs Sg F rid n ops b T H E){k:Nat}(hk:k<ops.size)(h:XG E k):Nf ops k:=by
 obtain⟨v,os,he⟩:=h
 obtain⟨s,hh,_,_,⟨e0,h3,Un,_⟩,_⟩:=D.SP (Array.getElem?_eq_getElem hk) he
 refine⟨_,Array.getElem?_eq_getElem hk,?_,?_⟩
 ·cases hf:mK (ops[k]).op with
  |false=>rfl
  |true=>obtain⟨v',rfl⟩:=F7 hf h3;cases Un
 ·cases hf:iP (ops[k]).op with
  |none=>rfl
  |some x=>obtain⟨v',rfl⟩:=Ge hf h3;cases Un
theorem Dr.Oz(D:Dr P Eqs Sg F rid n ops b T H E){k:Nat}(hk:k<ops.size)(h:yu E k):Nf ops k:=by
 obtain⟨v,os,he⟩:=h
 obtain⟨s,hh,_,_,⟨e0,h3,Un,_⟩,_⟩:=D.SP (Array.getElem?_eq_getElem hk) he
 refine⟨_,Array.getElem?_eq_getElem hk,?_,?_⟩
 ·cases hf:mK (ops[k]).op with
  |false=>rfl
  |true=>obtain⟨v',rfl⟩:=F7 hf h3;cases Un
 ·cases hf:iP (ops[k]).op with
  |none=>rfl
  |some x=>obtain⟨v',rfl⟩:=Ge hf h3;cases Un
theorem Dr.Ab(D:Dr P Eqs Sg F rid n ops b T H E){k j:Nat}(hk:k<ops.size)(h:yu E k)(hj:Nf ops j)(bq:j≠k):(j<k∧rl b k j)∨(k<j∧rl b j k):=by
 obtain⟨v,os,he⟩:=h
 obtain⟨s,hh,_,_,_,h4,_⟩:=D.SP (Array.getElem?_eq_getElem hk) he
 obtain⟨o,ho,hf,RS⟩:=hj
 have It:=(Array.getElem?_eq_some_iff.1 ho).1
 simp only[gu,Bool.and_eq_true]at h4
 have h5:IG ops b k=true:=by simpa using h4.1.1
 have h6:=List.all_eq_true.1 h5 j (List.mem_range.2 It)
 have hlf:tP ops k j=false:=by unfold tP;rw[ho];simp only[Option.bind_some,RS]
 rw[hlf,Bool.and_false,ho]at h6
 simp only[Bool.or_eq_true,beq_iff_eq,hf,Bool.false_eq_true,or_false]at h6
 rcases h6 with(h6|h6)|h6
 ·exact absurd h6 bq
 ·exact .inr ⟨z8 D.Nx j k It h6,h6⟩
 ·exact .inl ⟨z8 D.Nx k j hk h6,h6⟩
theorem Dr.Ac(D:Dr P Eqs Sg F rid n ops b T H E){p:Nat}:∀(q:Nat),p≤q→q≤ops.size→∀id,(∀k,p≤k→k<q→yu E k→H (k+1) id=H k id)→(∀k,p≤k→k<q→XG E k→¬Of rid k id)→H q id=H p id:=by
 intro q
 induction q with
 |zero=>intro zG _ id _ _;rw[Nat.le_zero.1 zG]
 |succ q ih =>
  intro zG hq id hw bL
  by_cases he:p=q+1
  ·rw[he]
  ·have h1:=ih (by omega) (by omega) id (fun k h1 h2=>hw k h1 (by omega)) (fun k h1 h2=>bL k h1 (by omega))
   rw[←h1]
   have ho:=Array.getElem?_eq_getElem (show q<ops.size by omega)
   cases hE:E q with
   |none=>rw[(D.Ep ho hE).2.2]
   |some e =>
    obtain⟨s,hh,_,_,_,h4,_,_,h7⟩:=D.SP ho hE
    cases e with
    |val v=>rw[h7];rfl
    |wr v h'=>exact hw q (by omega) (by omega) ⟨v,h',hE⟩
    |new v os =>
     rw[h7]
     simp only[bE.hp]
     cases Nu:Heap.get os id with
     |none=>rfl
     |some o' =>
      exfalso
      simp only[gu,Bool.and_eq_true]at h4
      refine bL q (by omega) (by omega) ⟨v,os,hE⟩ ?_
      have:∀(l:Heap),(l.all fun p=>p.1 / 256==(rid+1)*128+q)=true→∀o',l.get id=some o'→Of rid q id:=by
       intro l
       induction l with
       |nil=>intro _ o' h;simp[Heap.get]at h
       |cons a r ihl =>
        intro fg o' hg
        simp only[List.all_cons,Bool.and_eq_true,beq_iff_eq]at fg
        simp only[Heap.get]at hg
        split at hg
        ·rename_i e;rw[←e];exact fg.1
        ·exact ihl fg.2 o' hg
      exact this os h4.1.2 o' Nu
theorem Dr.yw(D:Dr P Eqs Sg F rid n ops b T H E){p:Nat}(q:Nat)(zG:p≤q)(hq:q≤ops.size)(hw:∀k,p≤k→k<q→¬yu E k)(id:Nat)(hn:∀k,p≤k→k<q→XG E k→¬Of rid k id):H q id=H p id :=
 D.Ac q zG hq id (fun k h1 h2 h3=>absurd h3 (hw k h1 h2)) hn
theorem Dr.names(D:Dr P Eqs Sg F rid n ops b T H E):∀(k:Nat),k≤ops.size→∀id,H k id≠none→id / 32768=rid+1→∃j,Of rid j id∧j<k∧j<128∧(XG E j∨∃w,w<k∧yu E w∧(j=w∨rl b w j)):=by
 intro k
 induction k with
 |zero=>intro _ id h1 h2;exact absurd h2 (D.adE id h1)
 |succ k ih =>
  intro hk id h1 h2
  have aF:k<ops.size:=by omega
  have up:H k id≠none→∃j,Of rid j id∧j<k+1∧j<128∧(XG E j∨∃w,w<k+1∧yu E w∧(j=w∨rl b w j)):=fun h=>by
   obtain⟨j,h3,h4,h4',h5⟩:=ih (by omega) id h h2
   exact⟨j,h3,by omega,h4',h5.imp (fun h=>h) fun⟨w,h6,h7⟩=>⟨w,by omega,h7⟩⟩
  have ho:=Array.getElem?_eq_getElem aF
  have OE:=D.size
  cases hE:E k with
  |none=>rw[(D.Ep ho hE).2.2]at h1;exact up h1
  |some e =>
   obtain⟨s,hh,_,_,_,h4,_,_,h7⟩:=D.SP ho hE
   rw[h7]at h1
   cases e with
   |val v=>exact up h1
   |wr v h' =>
    obtain⟨o',mQ⟩:=Option.ne_none_iff_exists'.1 h1
    simp only[gu,Bool.and_eq_true]at h4
    have h5:(b.getD k 0 ||| 2 ^ k).testBit (id / 256%128)=true:=(lK (S:=fun j=>(b.getD k 0 ||| 2 ^ k).testBit j=true) (fun j hj=>hj) h4.2 id o' mQ).1 h2
    rw[Nat.testBit_or,Bool.or_eq_true,Nat.testBit_two_pow]at h5
    refine⟨id / 256%128,Of.of h2 rfl,?_,by omega,.inr ⟨k,by omega,⟨v,h',hE⟩,?_⟩⟩
    ·rcases h5 with h5|h5
     ·have:=z8 D.Nx k _ aF h5;omega
     ·have:=of_decide_eq_true h5;omega
    ·rcases h5 with h5|h5
     ·exact .inr h5
     ·exact .inl (of_decide_eq_true h5).symm
   |new v os =>
    simp only[bE.hp]at h1
    cases Nu:Heap.get os id with
    |none=>rw[Nu]at h1;exact up h1
    |some o' =>
     simp only[gu,Bool.and_eq_true]at h4
     have:∀(l:Heap),(l.all fun p=>p.1 / 256==(rid+1)*128+k)=true→∀o',l.get id=some o'→Of rid k id:=by
      intro l
      induction l with
      |nil=>intro _ o' h;simp[Heap.get]at h
      |cons a r ihl =>
       intro fg o' hg
       simp only[List.all_cons,Bool.and_eq_true,beq_iff_eq]at fg
       simp only[Heap.get]at hg
       split at hg
       ·rename_i e;rw[←e];exact fg.1
       ·exact ihl fg.2 o' hg
     exact⟨k,this os h4.1.2 o' Nu,by omega,by omega,.inl ⟨v,os,hE⟩⟩
theorem Dr.V7(D:Dr P Eqs Sg F rid n ops b T H E){q:Nat}(n8:q<ops.size)(SQ:yu E q):∀id,H q id≠none→ma rid (rl b q) id:=fun id bq OF=>by
 obtain⟨j,h1,h2,h2',h3⟩:=D.names q (by omega) id bq OF
 rw[(h1.parts h2').2]
 rcases h3 with h3|⟨w',h5,h6,h8⟩
 ·rcases D.Ab n8 SQ (D.vV (by omega) h3) (by omega) with⟨_,h9⟩|⟨h9,_⟩
  ·exact h9
  ·omega
 ·have YE:rl b q w':=by
   rcases D.Ab n8 SQ (D.Oz (by omega) h6) (by omega) with⟨_,h9⟩|⟨h9,_⟩
   ·exact h9
   ·omega
  rcases h8 with rfl|h8
  ·exact YE
  ·exact C4 D.Nx q w' j n8 YE h8
theorem Dr.vW(D:Dr P Eqs Sg F rid n ops b T H E){d p:Nat}:∀(q:Nat),p≤q→q≤ops.size→(∀m o,p≤m→m<q→ops[m]? = some o→o.dst≠some d)→T q d=T p d
 |0,h,_,_=>by rw[Nat.le_zero.1 h]
 |q+1,h,hq,hm=>by
  by_cases e:p=q+1
  ·rw[e]
  ·have ho:=Array.getElem?_eq_getElem (show q<ops.size by omega)
   have ih:=D.vW q (by omega) (by omega) fun m o h1 h2=>hm m o h1 (by omega)
   rw[←ih]
   have hd:=hm q _ (by omega) (by omega) ho
   have key:∀v,iG (T q) (ops[q]).dst v d=T q d:=fun v=>by
    cases kB:(ops[q]).dst with
    |none=>rfl
    |some d' =>
     simp only[iG,dM]
     rw[if_neg]
     rintro rfl
     exact hd kB
   rcases D.step q _ ho with⟨e,s,hh,_,_,_,_,_,_,h7,_⟩|⟨_,_,h3,_⟩
   ·rw[h7,key]
   ·rw[h3,key]
theorem Dr.steady(D:Dr P Eqs Sg F rid n ops b T H E){i k:Nat}{o:Oper}{x:Operand}(ho:ops[i]? = some o)(hl:iP o.op=some x)(hk:k<ops.size)(hw:yu E k)(bq:i≠k)(h1:¬rl b i k)(h2:¬rl b k i)
  {s:List (Nat×AV)} (hs:look s=T i) {id:Nat} (bL:id∈tQ (ρ s x)):H (k+1) id=H k id:=by
 have n8:=(Array.getElem?_eq_some_iff.1 ho).1
 obtain⟨v,h',hE⟩:=hw
 have kI:=Array.getElem?_eq_getElem hk
 obtain⟨sk,hh,OG,SR,⟨e0,Un,Eo,tI⟩,h4,_,_,h7⟩:=D.SP kI hE
 simp only[gu,Bool.and_eq_true]at h4
 have h5:IG ops b k=true:=by simpa using h4.1.1
 have h6:=List.all_eq_true.1 h5 i (List.mem_range.2 n8)
 rw[ho,kI]at h6
 have b1:(b.getD i 0).testBit k=false:=Bool.eq_false_iff.2 h1
 have b2:(b.getD k 0).testBit i=false:=Bool.eq_false_iff.2 h2
 have b3:(i==k)=false:=by simp[bq]
 simp only[b1,b2,b3,(C5 hl).1,Bool.false_or,Bool.and_eq_true]at h6
 obtain⟨C6,Kz⟩:=h6
 have YF:gH ops b k sk ops[k]=Vy ops b k sk:=by unfold gH;rw[if_pos C6]
 have m6:ρ sk x=ρ s x:=by
  cases x with
  |tmp d =>
   simp only[ρ,OG,hs]
   unfold tP at Kz
   rw[ho]at Kz
   simp only[Option.bind_some,hl]at Kz
   have hm:∀m o',min k i≤m→m<max k i→ops[m]? = some o'→o'.dst≠some d:=fun m o' g1 g2 g3 hd=>by
    have g4:=List.all_eq_true.1 Kz m (List.mem_range.2 (by omega))
    rw[g3]at g4
    simp[hd,g1,g2]at g4
   rcases Nat.lt_or_ge i k with g|g
   ·exact D.vW k (by omega) (by omega) fun m o' g1 g2=>hm m o' (by omega) (by omega)
   ·exact(D.vW i (by omega) (by omega) fun m o' g1 g2=>hm m o' (by omega) (by omega)).symm
  |_=>rfl
 have iX:id∈gH ops b k sk ops[k]:=by
  rw[YF]
  unfold Vy
  refine List.mem_flatMap.2 ⟨i,List.mem_range.2 n8,?_⟩
  rw[b1,b2,b3,ho]
  simp only[Bool.or_self,Bool.false_eq_true,if_false,Option.bind_some,hl]
  rw[m6];exact bL
 cases e0 with
 |val v0=>cases Eo
 |new v0 os=>cases Eo
 |wr v0 RP =>
  cases Eo
  simp only[mL,Bool.and_eq_true]at tI
  have hn:RP.get id=none:=by
   cases e:RP.get id with
   |none=>rfl
   |some ob=>exact absurd iX (kb tI.2 id ob e).1
  rw[h7]
  show(eV _ hh RP).get id=H k id
  rw[j8,if_pos iX,hn,SR id]
  cases adH:H k id with
  |none=>simp
  |some ob =>
   have h8:=D.V7 hk ⟨_,_,hE⟩ id (by rw[adH];simp)
   have h9:pZ rid (b.getD k 0) id=true:=by
    unfold pZ
    by_cases hr:id / 32768=rid+1
    ·have:=h8 hr
     unfold rl at this
     rw[this];simp
    ·simp[hr]
   rw[if_pos h9]
end
end Go.Vs
namespace Go.Vs
variable {P:Program} {Eqs:TypeId→Option K} {Sg:FuncId→Option aJ} {F:(f:FuncId)→(g:aJ)→g.A→Option g.B} {R:Type}
variable {Z Z' Z0:Nat→Prop} {ψ ψ' ψ0:Nat→Value} {h h':Hp} {w w' w0:World} {B0:Nat} {O N:Nat→Prop}
variable {rid n:Nat} {ops:Array Oper} {b:Array Nat} {T:Nat→Nat→AV} {H:Nat→Hp} {E:Nat→Option bE}
structure Dj(rid:Nat)(ops:Array Oper)(b:Array Nat)(T:Nat→Nat→AV)(H:Nat→Hp)(E:Nat→Option bE)(S:Nat→Prop)(Tc:Nat→AV)(h:Hp):Prop where
 lt:∀i,S i→i<ops.size
 closed:∀i j,S i→rl b i j→S j
 heap:∃q,q≤ops.size∧(∀k,k<q→yu E k→S k)∧(q<ops.size→yu E q∧¬S q)∧∀id,(ma rid S id→h id=H q id)∧(¬ma rid S id→h id=none)
 OH:∀j o d,S j→ops[j]? = some o→o.dst=some d→Tc d=T (j+1) d
 told:∀d,(∀j o,S j→ops[j]? = some o→o.dst≠some d)→Tc d=T 0 d
theorem Dr.OJ(D:Dr P Eqs Sg F rid n ops b T H E){k:Nat}{o:Oper}(ho:ops[k]? = some o){d:Nat}(hd:o.dst≠some d):T (k+1) d=T k d:=by
 have:∀v,iG (T k) o.dst v d=T k d:=fun v=>by
  cases kB:o.dst with
  |none=>rfl
  |some d' =>
   simp only[iG,dM]
   rw[if_neg]
   rintro rfl
   exact hd kB
 rcases D.step k o ho with⟨e,s,hh,_,_,_,_,_,_,h7,_⟩|⟨_,_,h3,_⟩
 ·rw[h7,this]
 ·rw[h3,this]
theorem Dr.uq(D:Dr P Eqs Sg F rid n ops b T H E){d:Nat}:∀(i:Nat),i≤ops.size→(∀k o,k<i→ops[k]? = some o→o.dst≠some d)→T i d=T 0 d
 |0,_,_=>rfl
 |i+1,hi,hk=>by
  rw[D.OJ (Array.getElem?_eq_getElem (show i<ops.size by omega)) (hk i _ (by omega) (Array.getElem?_eq_getElem (by omega)))]
  exact D.uq i (by omega) fun k o h1 h2=>hk k o (by omega) h2
theorem Dr.Er(D:Dr P Eqs Sg F rid n ops b T H E){d j:Nat}{oj:Oper}(hj:ops[j]? = some oj)(hd:oj.dst=some d):∀(i:Nat),i≤ops.size→j<i→T i d=T (j+1) d
 |0,_,h=>by omega
 |i+1,hi,h=>by
  by_cases e:j=i
  ·rw[e]
  ·have ho:=Array.getElem?_eq_getElem (show i<ops.size by omega)
   rw[D.OJ ho (fun hdi=>e (D.yv hj ho hd hdi))]
   exact D.Er hj hd i (by omega) (by omega)
theorem Dr.looks(D:Dr P Eqs Sg F rid n ops b T H E){S:Nat→Prop}{Tc:Nat→AV}(dj:Dj rid ops b T H E S Tc h){i:Nat}{o:Oper}(ho:ops[i]? = some o)(hS:¬S i)(hb:∀j,rl b i j→S j){d:Nat}(hd:d∈o.looksAt ops):Tc d=T i d:=by
 have hi:=(Array.getElem?_eq_some_iff.1 ho).1
 by_cases hex:∃(j:Nat) (oj:Oper),ops[j]? = some oj∧oj.dst=some d
 ·obtain⟨j,oj,hj,XH⟩:=hex
  have cK:¬S j→Tc d=T 0 d:=fun hn=>dj.told d fun j' o' hs mQ OL=>hn (by rw[D.yv hj mQ XH OL];exact hs)
  have Nx:i≤j→T i d=T 0 d:=fun zy=>D.uq i (by omega) fun k o' hk mQ OL=>by have:=D.yv hj mQ XH OL;omega
  rcases Nat.lt_trichotomy j i with aF|rfl|IA
  ·rcases D.Uy hj ho aF with h1|h1
   ·rw[dj.OH j oj d (hb j h1) hj XH,D.Er hj XH i (by omega) aF]
   ·exact absurd hd ((Oper.apart_spec h1).1 d XH)
  ·rw[cK hS,Nx (Nat.le_refl _)]
  ·rcases D.Uy ho hj IA with h1|h1
   ·rw[cK (fun hs=>hS (dj.closed j i hs h1)),Nx (by omega)]
   ·exact absurd hd ((Oper.apart_spec h1).2.2 d XH)
 ·rw[dj.told d fun j o' _ mQ OL=>hex ⟨j,o',mQ,OL⟩,D.uq i (by omega) fun k o' _ mQ OL=>hex ⟨k,o',mQ,OL⟩]
theorem Dr.OM{S:Nat→Prop}{Tc:Nat→AV}(D:Dr P Eqs Sg F rid n ops b T H E)(dj:Dj rid ops b T H E S Tc h){i:Nat}{o:Oper}(ho:ops[i]? = some o)(hS:¬S i){v:AV}(hv:T (i+1)=iG (T i) o.dst v) :
  (∀j o' d,(S j∨j=i)→ops[j]? = some o'→o'.dst=some d→iG Tc o.dst v d=T (j+1) d)∧(∀d,(∀j o',(S j∨j=i)→ops[j]? = some o'→o'.dst≠some d)→iG Tc o.dst v d=T 0 d):=by
 constructor
 ·intro j o' d hj mQ hd
  rcases hj with hj|rfl
  ·have bq:j≠i:=fun e=>hS (e▸hj)
   have:iG Tc o.dst v d=Tc d:=by
    cases kB:o.dst with
    |none=>rfl
    |some d' =>
     simp only[iG,dM]
     rw[if_neg]
     rintro rfl
     exact bq (D.yv mQ ho hd kB)
   rw[this];exact dj.OH j o' d hj mQ hd
  ·rw[ho]at mQ;cases mQ
   rw[hv,hd];simp[iG,dM]
 ·intro d hd
  have:iG Tc o.dst v d=Tc d:=by
   cases kB:o.dst with
   |none=>rfl
   |some d' =>
    simp only[iG,dM]
    rw[if_neg]
    rintro rfl
    exact hd i o (.inr rfl) ho kB
  rw[this];exact dj.told d fun j o' hj=>hd j o' (.inl hj)
theorem uu{i k id:Nat}(h1:Of rid i id)(h2:Of rid k id):i=k:=by unfold Of at h1 h2;omega
section
variable {S:Nat→Prop} {Tc:Nat→AV}
theorem Dr.calm(D:Dr P Eqs Sg F rid n ops b T H E)(dj:Dj rid ops b T H E S Tc h){i q:Nat}(hi:Nf ops i)(hS:¬S i)(hq:q≤ops.size)(hw:∀k,k<q→yu E k→S k):∀k,i≤k→k<q→¬yu E k:=by
 intro k ON hkq hk
 have OG:=hw k hkq hk
 have bq:i≠k:=fun e=>hS (e▸OG)
 rcases D.Ab (by omega) hk hi bq with⟨_,h1⟩|⟨h1,_⟩
 ·exact hS (dj.closed k i OG h1)
 ·omega
theorem Dr.seen(D:Dr P Eqs Sg F rid n ops b T H E)(dj:Dj rid ops b T H E S Tc h){i:Nat}(hi:Nf ops i)(hS:¬S i)(hb:∀j,rl b i j→S j){hh:Heap}(SR:∀id,Heap.get hh id=if pZ rid (b.getD i 0) id then H i id else none) :
  ∀id o,hh.get id=some o→h id=some o:=by
 obtain⟨q,hq,hw,ir,fh⟩:=dj.heap
 have n8:i<ops.size:=by obtain⟨o,ho,hf1,hf2⟩:=hi;exact(Array.getElem?_eq_some_iff.1 ho).1
 have YG:i≤q:=by
  rcases Nat.lt_or_ge q i with h1|h1
  ·obtain⟨h2,h3⟩:=ir (by omega)
   rcases D.Ab (by omega) h2 hi (by omega) with⟨h4,_⟩|⟨_,h4⟩
   ·omega
   ·exact absurd (hb q h4) h3
  ·exact h1
 intro id o bL
 rw[SR]at bL
 split at bL
 ·rename_i kI
  have l9:ma rid S id:=nu hb kI
  rw[(fh id).1 l9,D.yw q YG hq (D.calm dj hi hS hq hw) id fun k hk _ _ ho=>?_,bL]
  have OF:=(ho.parts (by have:=D.size;omega)).1
  obtain⟨j,h1,h2,_⟩:=D.names i (by omega) id (by rw[bL];simp) OF
  have:=uu h1 ho
  omega
 ·cases bL
theorem Dr.Mk(D:Dr P Eqs Sg F rid n ops b T H E)(dj:Dj rid ops b T H E S Tc h){i:Nat}{o:Oper}{x:Operand}(ho:ops[i]? = some o)(hl:iP o.op=some x)(hS:¬S i)(hb:∀j,rl b i j→S j){s:List (Nat×AV)}(hs:look s=T i)
  {hh:Heap} (SR:∀id,Heap.get hh id=if pZ rid (b.getD i 0) id then H i id else none):∀id∈tQ (ρ s x),∀ob,hh.get id=some ob→h id=some ob:=by
 obtain⟨q,hq,hw,ir,fh⟩:=dj.heap
 have n8:=(Array.getElem?_eq_some_iff.1 ho).1
 have OE:=D.size
 intro id bL ob jz
 rw[SR]at jz
 split at jz
 ·rename_i kI
  have l9:ma rid S id:=nu hb kI
  rw[(fh id).1 l9,←jz]
  rcases Nat.lt_or_ge q i with hqi|YG
  ·obtain⟨h2,h3⟩:=ir (by omega)
   have later:∀k,q<k→k<ops.size→Nf ops k→rl b k q:=fun k h4 h5 h6=>by
    rcases D.Ab (by omega) h2 h6 (by omega) with⟨h7,_⟩|⟨_,h7⟩
    ·omega
    ·exact h7
   have YH:∀k,q≤k→k<i→Nf ops k→¬S k:=fun k h4 h5 h6 hk=>by
    rcases Nat.eq_or_lt_of_le h4 with e|h7
    ·exact h3 (e▸hk)
    ·exact h3 (dj.closed k q hk (later k h7 (by omega) h6))
   symm
   refine D.Ac i (by omega) (by omega) id (fun k h4 h5 h6=>?_) (fun k h4 h5 h6 h7=>?_)
   ·have hns:=YH k h4 h5 (D.Oz (by omega) h6)
    exact D.steady ho hl (by omega) h6 (by omega) (fun Ji=>hns (hb k Ji)) (fun Ji=>by have:=z8 D.Nx k i (by omega) Ji;omega) hs bL
   ·have hns:=YH k h4 h5 (D.vV (by omega) h6)
    have h8:=h7.parts (show k<128 by omega)
    have h9:=l9 h8.1
    rw[h8.2]at h9
    exact hns h9
  ·refine D.Ac q YG hq id (fun k h4 h5 h6=>?_) (fun k h4 h5 h6 h7=>?_)
   ·have OG:=hw k h5 h6
    have bq:i≠k:=fun e=>hS (e▸OG)
    exact D.steady ho hl (by omega) h6 bq (fun Ji=>by have:=z8 D.Nx i k n8 Ji;omega) (fun Ji=>hS (dj.closed k i OG Ji)) hs bL
   ·obtain⟨j,h8,h9,_⟩:=D.names i (by omega) id (by rw[jz];simp) (h7.parts (by omega)).1
    have:=uu h8 h7
    omega
 ·cases jz
theorem OO(E:Nat→Option bE)(S:Nat→Prop)(m:Nat):∃q,q≤m∧(∀k,k<q→yu E k→S k)∧(q<m→yu E q∧¬S q):=by
 classical
 induction m with
 |zero=>exact⟨0,Nat.le_refl _,fun k hk=>by omega,fun h=>by omega⟩
 |succ m ih =>
  obtain⟨q,h1,h2,h3⟩:=ih
  by_cases hq:q<m
  ·exact⟨q,by omega,h2,fun _=>h3 hq⟩
  ·have:q=m:=by omega
   subst this
   by_cases hm:yu E q∧¬S q
   ·exact⟨q,by omega,h2,fun _=>hm⟩
   ·refine⟨q+1,by omega,fun k hk hw=>?_,fun h=>by omega⟩
    rcases Nat.lt_or_ge k q with h4|h4
    ·exact h2 k h4 hw
    ·have:k=q:=by omega
     subst this
     exact Classical.not_not.1 fun hn=>hm ⟨hw,hn⟩
theorem Ad{i id:Nat}(hi:i<128):ma rid (fun k=>S k∨k=i) id↔ma rid S id∨Of rid i id:=by
 constructor
 ·intro h1
  by_cases hr:id / 32768=rid+1
  ·rcases h1 hr with h2|h2
   ·exact .inl fun _=>h2
   ·exact .inr (Of.of hr h2)
  ·exact .inl fun h=>absurd h hr
 ·rintro(h1|h1) h2
  ·exact .inl (h1 h2)
  ·exact .inr (h1.parts hi).2
theorem Dr.Gf(D:Dr P Eqs Sg F rid n ops b T H E)(dj:Dj rid ops b T H E S Tc h){i:Nat}(n8:i<ops.size)(hS:¬S i)(hnn:¬XG E i)(YI:¬yu E i) :
  ∃q,q≤ops.size∧(∀k,k<q→yu E k→S k∨k=i)∧(q<ops.size→yu E q∧¬(S q∨q=i))∧∀id,(ma rid (fun k=>S k∨k=i) id→h id=H q id)∧(¬ma rid (fun k=>S k∨k=i) id→h id=none):=by
 obtain⟨q,hq,hw,ir,fh⟩:=dj.heap
 have OE:=D.size
 refine⟨q,hq,fun k h1 h2=>.inl (hw k h1 h2),fun h1=>⟨(ir h1).1,fun h2=>h2.elim (ir h1).2 fun e=>YI (e▸(ir h1).1)⟩,fun id=>⟨fun h1=>?_,fun h1=>(fh id).2 fun h2=>h1 ((Ad (by omega)).2 (.inl h2))⟩⟩
 rcases (Ad (S:=S) (i:=i) (rid:=rid) (by omega)).1 h1 with h2|h2
 ·exact(fh id).1 h2
 ·have hn:¬ma rid S id:=fun h3=>h3.zZ (by omega) hS h2
  rw[(fh id).2 hn]
  symm
  apply Classical.not_not.1
  intro bq
  obtain⟨j,h3,_,_,h4⟩:=D.names q hq id bq (h2.parts (by omega)).1
  have:=uu h3 h2
  subst this
  rcases h4 with h4|⟨w',h5,h6,h7|h7⟩
  ·exact hnn h4
  ·exact YI (h7▸h6)
  ·exact hS (dj.closed w' _ (hw w' h5 h6) h7)
theorem SS{os:Heap}{i:Nat}(fg:(os.all fun p=>p.1 / 256==(rid+1)*128+i)=true):∀id o,os.get id=some o→Of rid i id:=by
 induction os with
 |nil=>intro id o h;simp[Heap.get]at h
 |cons a r ih =>
  intro id o hg
  simp only[List.all_cons,Bool.and_eq_true,beq_iff_eq]at fg
  simp only[Heap.get]at hg
  split at hg
  ·rename_i e;rw[←e];exact fg.1
  ·exact ih fg.2 id o hg
theorem Dr.OP(D:Dr P Eqs Sg F rid n ops b T H E)(dj:Dj rid ops b T H E S Tc h){i:Nat}{o:Oper}(ho:ops[i]? = some o)(hS:¬S i)(hb:∀j,rl b i j→S j){v:AV}{os:Heap}(hE:E i=some (.new v os)) :
  ∃q,q≤ops.size∧(∀k,k<q→yu E k→S k∨k=i)∧(q<ops.size→yu E q∧¬(S q∨q=i))∧∀id,(ma rid (fun k=>S k∨k=i) id→(bE.new v os).hp h id=H q id)∧(¬ma rid (fun k=>S k∨k=i) id→(bE.new v os).hp h id=none):=by
 obtain⟨q,hq,hw,ir,fh⟩:=dj.heap
 have OE:=D.size
 have n8:=(Array.getElem?_eq_some_iff.1 ho).1
 have YI:¬yu E i:=fun⟨v',h',h1⟩=>by rw[hE]at h1;cases h1
 have XI:=D.vV n8 ⟨v,os,hE⟩
 obtain⟨s,hh,_,_,_,h4,_,_,h7⟩:=D.SP ho hE
 simp only[gu,Bool.and_eq_true]at h4
 have sY:=SS (rid:=rid) h4.1.2
 have YG:i<q:=by
  rcases Nat.lt_or_ge i q with h1|h1
  ·exact h1
  ·obtain⟨h2,h3⟩:=ir (by omega)
   have bq:i≠q:=fun e=>YI (e▸h2)
   rcases D.Ab (by omega) h2 XI bq with⟨h4,_⟩|⟨_,h4⟩
   ·omega
   ·exact absurd (hb q h4) h3
 refine⟨q,hq,fun k h1 h2=>.inl (hw k h1 h2),fun h1=>⟨(ir h1).1,fun h2=>h2.elim (ir h1).2 fun e=>YI (e▸(ir h1).1)⟩,fun id=>⟨fun h1=>?_,fun h1=>?_⟩⟩
 ·simp only[bE.hp]
  by_cases h2:Of rid i id
  ·have hn:¬ma rid S id:=fun h3=>h3.zZ (by omega) hS h2
   have e1:H i id=none:=Classical.not_not.1 fun bq=>by
    obtain⟨j,h3,h4,_⟩:=D.names i (by omega) id bq (h2.parts (by omega)).1
    have:=uu h3 h2
    omega
   have e2:H (i+1) id=Heap.get os id:=by
    rw[h7];simp only[bE.hp];rw[e1];cases Heap.get os id<;>rfl
   have e3:H q id=H (i+1) id:=D.yw q YG hq (fun k h3 h4=>D.calm dj XI hS hq hw k (by omega) h4) id fun k h3 _ _ h5=>by
    have:=uu h5 h2;omega
   rw[e3,e2,(fh id).2 hn];cases Heap.get os id<;>rfl
  ·have h3:ma rid S id:=((Ad (by omega)).1 h1).resolve_right h2
   cases Nu:Heap.get os id with
   |some o'=>exact absurd (sY id o' Nu) h2
   |none=>exact(fh id).1 h3
 ·have h2:¬ma rid S id:=fun h2=>h1 ((Ad (by omega)).2 (.inl h2))
  have h3:¬Of rid i id:=fun h2=>h1 ((Ad (by omega)).2 (.inr h2))
  simp only[bE.hp]
  cases Nu:Heap.get os id with
  |some o'=>exact absurd (sY id o' Nu) h3
  |none=>exact(fh id).2 h2
theorem Dr.SU(D:Dr P Eqs Sg F rid n ops b T H E)(dj:Dj rid ops b T H E S Tc h){i:Nat}{o:Oper}(ho:ops[i]? = some o)(hS:¬S i)(hb:∀j,rl b i j→S j){v:AV}{h':Heap}(hE:E i=some (.wr v h')) :
  (∀hh:Heap,(∀id,hh.get id=if pZ rid (b.getD i 0) id then H i id else none)→hh.get=h) ∧
  ∃q,q≤ops.size∧(∀k,k<q→yu E k→S k∨k=i)∧(q<ops.size→yu E q∧¬(S q∨q=i))∧∀id,(ma rid (fun k=>S k∨k=i) id→h'.get id=H q id)∧(¬ma rid (fun k=>S k∨k=i) id→h'.get id=none):=by
 obtain⟨q,hq,hw,ir,fh⟩:=dj.heap
 have OE:=D.size
 have n8:=(Array.getElem?_eq_some_iff.1 ho).1
 have SQ:yu E i:=⟨v,h',hE⟩
 have XI:=D.Oz n8 SQ
 obtain⟨s,hh0,_,_,_,h4,_,_,h7⟩:=D.SP ho hE
 simp only[gu,Bool.and_eq_true]at h4
 have hqi:q=i:=by
  rcases Nat.lt_trichotomy q i with h1|h1|h1
  ·obtain⟨h2,h3⟩:=ir (by omega)
   rcases D.Ab n8 SQ (D.Oz (by omega) h2) (by omega) with⟨_,h5⟩|⟨h5,_⟩
   ·exact absurd (hb q h5) h3
   ·omega
  ·exact h1
  ·exact absurd (hw i h1 SQ) hS
 subst hqi
 have own:∀id,H q id≠none→ma rid (rl b q) id:=fun id bq OF=>by
  obtain⟨j,h1,h2,h2',h3⟩:=D.names q hq id bq OF
  rw[(h1.parts h2').2]
  rcases h3 with h3|⟨w',h5,h6,h8⟩
  ·rcases D.Ab n8 SQ (D.vV (by omega) h3) (by omega) with⟨_,h9⟩|⟨h9,_⟩
   ·exact h9
   ·omega
  ·have YE:rl b q w':=by
    rcases D.Ab n8 SQ (D.Oz (by omega) h6) (by omega) with⟨_,h9⟩|⟨h9,_⟩
    ·exact h9
    ·omega
   rcases h8 with rfl|h8
   ·exact YE
   ·exact C4 D.Nx q w' j n8 YE h8
 refine⟨fun hh SR=>?_,?_⟩
 ·funext id
  rw[SR id]
  cases bL:H q id with
  |none =>
   have:h id=none:=by
    by_cases h1:ma rid S id
    ·rw[(fh id).1 h1,bL]
    ·exact(fh id).2 h1
   rw[this];split<;>rfl
  |some ob =>
   have h1:=own id (by rw[bL];simp)
   have h2:ma rid S id:=fun hr=>hb _ (h1 hr)
   have h3:pZ rid (b.getD q 0) id=true:=by
    unfold pZ
    by_cases hr:id / 32768=rid+1
    ·have:=h1 hr
     unfold rl at this
     rw[this];simp
    ·simp[hr]
   rw[h3,(fh id).1 h2,bL];rfl
 ·obtain⟨q',h1,h2,h3⟩:=OO E (fun k=>S k∨k=q) ops.size
  have Ur:q+1≤q':=by
   rcases Nat.lt_or_ge q q' with h5|h5
   ·exact h5
   ·obtain⟨h6,h8⟩:=h3 (by omega)
    rcases Nat.lt_or_ge q' q with h9|h9
    ·exact absurd (.inl (hw q' h9 h6)) h8
    ·exact absurd (.inr (by omega)) h8
  have e1:H (q+1)=h'.get:=by rw[h7];rfl
  have Cf:∀j,(b.getD q 0 ||| 2 ^ q).testBit j=true→S j∨j=q:=fun j hj=>by
   rw[Nat.testBit_or,Bool.or_eq_true,Nat.testBit_two_pow]at hj
   exact hj.imp (hb j) (fun h=>(of_decide_eq_true h).symm)
  refine⟨q',h1,h2,h3,fun id=>⟨fun h5=>?_,fun h5=>?_⟩⟩
  ·rw[D.yw q' Ur h1 (fun k h6 h8 h9=>?_) id (fun k h6 h8 h9 mO=>?_),e1]
   ·have hk:=h2 k h8 h9
    have OG:S k:=hk.resolve_right (by omega)
    rcases D.Ab (by omega) h9 XI (by omega) with⟨_,xS⟩|⟨xS,_⟩
    ·exact hS (dj.closed k q OG xS)
    ·omega
   ·have hk:=h5 (mO.parts (by omega)).1
    rw[(mO.parts (by omega)).2]at hk
    have OG:S k:=hk.resolve_right (by omega)
    rcases D.Ab n8 SQ (D.vV (by omega) h9) (by omega) with⟨xS,_⟩|⟨_,xS⟩
    ·omega
    ·exact hS (dj.closed k q OG xS)
  ·cases bL:h'.get id with
   |none=>rfl
   |some ob=>exact absurd ((lK Cf h4.2 id ob bL).1) h5
end
section
variable {S:Nat→Prop} {Tc:Nat→AV}
theorem Co{o:Oper}{d:Nat}(h:Operand.tmp d∈o.op.operands):d∈o.looksAt ops :=
 List.mem_append_left _ (List.mem_filterMap.2 ⟨.tmp d,by simpa using h,rfl⟩)
theorem Gg{o:Oper}{j d:Nat}{want:Bool}(hg:o.guard=some (j,want))(hd:(ops[j]?).bind (·.dst)=some d):d∈o.looksAt ops:=by
 unfold Oper.looksAt
 rw[hg]
 exact List.mem_append_right _ (by simp only[hd];simp)
theorem Dr.wanted(D:Dr P Eqs Sg F rid n ops b T H E)(dj:Dj rid ops b T H E S Tc h){a:Act}{i:Nat}{o:Oper}(ho:ops[i]? = some o)(hS:¬S i)(hb:∀j,rl b i j→S j)(t:cG Z ψ h w n Tc a){c:Bool}(hw:pj ops (T i) o c) :
  Region.wanted o (yielded ops a.tmps)=c:=by
 unfold pj at hw
 split at hw
 ·rename_i hg;rw[hw];simp[Region.wanted,hg]
 ·rename_i j want hg
  obtain⟨d,hd,hc⟩:=hw
  have e:=D.looks dj ho hS hb (Gg hg hd)
  rcases hc with⟨u,h1,h2⟩|⟨vs,h1,h2⟩
  ·rw[z5 t hg hd (e.trans h1),h2]
  ·rw[xl t hg hd (e.trans h1),h2]
theorem Dr.Jj(D:Dr P Eqs Sg F rid n ops b T H E)(V:Env P Eqs Sg F){i:Nat}{o:Oper}{a:Act}(ho:ops[i]? = some o)(hS:¬S i)(hb:∀j,rl b i j→S j)(dj:Dj rid ops b T H E S Tc h)(j:J (ma rid S) n Z0 w0 O ψ0 Z ψ Tc h a w)
  {K:Act→World→Prop} {Q:Exit→Act→World→Prop} (hk:∀Tc' h' a' w' Z' ψ',Dj rid ops b T H E (fun k=>S k∨k=i) Tc' h'→J (ma rid fun k=>S k∨k=i) n Z0 w0 O ψ0 Z' ψ' Tc' h' a' w'→K a' w'):wpOp P ops Q i K a w:=by
 have n8:=(Array.getElem?_eq_some_iff.1 ho).1
 have OE:=D.size
 have RX:=D.adD i o ho
 have aF:∀k,(S k∨k=i)→k<ops.size:=fun k hk=>hk.elim (dj.lt k) (fun e=>e▸n8)
 have IP:∀k j,(S k∨k=i)→rl b k j→S j∨j=i:=fun k j hk hj=>.inl (hk.elim (fun h=>dj.closed k j h hj) (fun e=>hb j (e▸hj)))
 unfold wpOp
 rw[ho]
 simp only[]
 cases hE:E i with
 |none =>
  obtain⟨h1,h2,h3⟩:=D.Ep ho hE
  rw[D.wanted dj ho hS hb j.tr h1]
  simp only[Bool.false_eq_true,if_false]
  obtain⟨t1,t2⟩:=D.OM dj ho hS h2
  refine hk _ h _ w Z ψ ⟨aF,IP,D.Gf dj n8 hS (fun⟨v,os,h⟩=>by rw[hE]at h;cases h) (fun⟨v,os,h⟩=>by rw[hE]at h;cases h),t1,t2⟩ (j.skip RX fun id hp hr=>.inl (hp hr))
 |some e =>
  obtain⟨s,hh,h1,h2,h3,h4,h5,h6,h7⟩:=D.SP ho hE
  rw[D.wanted dj ho hS hb j.tr h5]
  simp only[if_true]
  refine .inl ?_
  obtain⟨t1,t2⟩:=D.OM dj ho hS h6
  have hT:∀x∈o.op.operands,av Z ψ h w (ρ s x) (a.eval x)∧aE (ma rid S) (ρ s x):=fun x hx=>by
   cases x with
   |tmp d =>
    have e1:look s d=Tc d:=by rw[h1];exact(D.looks dj ho hS hb (Co hx)).symm
    simp only[ρ,e1]
    exact⟨j.tr.rep d,j.tm d⟩
   |const v=>exact⟨FH v,zY _ v⟩
   |global g=>exact⟨by simp only[ρ,av],by simp only[ρ,aE]⟩
   |func f=>exact⟨by simp only[ρ,av,ak,Act.eval];exact⟨#[],rfl,rfl⟩,by simp only[ρ,aE,ax]⟩
  have nC:=z7 (hh:=[]) j.hm (fun k hk=>hb k hk) h4
  obtain⟨e0,h3,Eo,tI⟩:=h3
  cases e0 with
  |wr v0 RP =>
   simp only[gx]at Eo
   subst Eo
   have mT:=D.SU dj ho hS hb hE
   have SR:=mT.1 hh h2
   subst SR
   refine J.opF V (rid:=rid) (i:=i) (fun _ id hp=>hp.zZ (by omega) hS) j RX (fun x hx=>(hT x hx).1) (fun x hx=>(hT x hx).2) h3 tI (p':=ma rid fun k=>S k∨k=i) (fun id hp hr=>.inl (hp hr)) nC.1 nC.2 fun a' w' Z' ψ' j' => ?_
   exact hk _ _ a' w' Z' ψ' ⟨aF,IP,mT.2,t1,t2⟩ j'
  |val v0 =>
   simp only[gx]at Eo
   subst Eo
   have adK:∃VY:Heap,(∀id o,VY.get id=some o→h id=some o)∧cM P Eqs Sg F (opId rid i) VY s o some=some (.val v0):=by
    cases hf:mK o.op with
    |true=>exact⟨[],fun id o h=>by simp[Heap.get]at h,by rw[Mf hf (h':=gG hh (gH ops b i s o))];exact h3⟩
    |false =>
     cases RS:iP o.op with
     |some x =>
      have YF:gH ops b i s o=[]:=by unfold gH;rw[(C5 RS).2];rfl
      rw[YF]at h3
      have h3':cM P Eqs Sg F (opId rid i) hh s o some=some (.val v0):=h3
      have mP:∀id,(eV (tQ (ρ s x)) hh []).get id=if id∈tQ (ρ s x) then hh.get id else none:=fun id=>by
       rw[j8]
       split
       ·cases hh.get id<;>rfl
       ·rfl
      refine⟨eV (tQ (ρ s x)) hh [],fun id ob bL=>?_,?_⟩
      ·rw[mP]at bL
       split at bL
       ·rename_i hm;exact D.Mk dj ho RS hS hb h1 h2 id hm ob bL
       ·cases bL
      ·rw[Jh RS (hh:=hh) (fun id hm=>by rw[mP,if_pos hm])];exact h3'
     |none=>exact⟨_,fun id ob bL=>D.seen dj ⟨o,ho,hf,RS⟩ hS hb h2 id ob (by rw[nt]at bL;split at bL;cases bL;exact bL),h3⟩
   obtain⟨VY,Fs,KA⟩:=adK
   refine J.op V (rid:=rid) (i:=i) (fun _ id hp=>hp.zZ (by omega) hS) j RX (fun x hx=>(hT x hx).1) (fun x hx=>(hT x hx).2) Fs KA (fun v hw he=>by cases he) (p':=ma rid fun k=>S k∨k=i) (fun id hp hr=>.inl (hp hr)) nC.1 nC.2 fun a' w' Z' ψ' j' => ?_
   exact hk _ _ a' w' Z' ψ' ⟨aF,IP,D.Gf dj n8 hS (fun⟨v,os,h⟩=>by rw[hE]at h;cases h) (fun⟨v,os,h⟩=>by rw[hE]at h;cases h),t1,t2⟩ j'
  |new v0 os =>
   simp only[gx]at Eo
   subst Eo
   have XI:=D.vV n8 ⟨v0,os,hE⟩
   have Fs:∀id ob,(gG hh (gH ops b i s o)).get id=some ob→h id=some ob:=fun id ob bL=>D.seen dj XI hS hb h2 id ob (by rw[nt]at bL;split at bL;cases bL;exact bL)
   refine J.op V (rid:=rid) (i:=i) (fun _ id hp=>hp.zZ (by omega) hS) j RX (fun x hx=>(hT x hx).1) (fun x hx=>(hT x hx).2) Fs h3 (fun v hw he=>by cases he) (p':=ma rid fun k=>S k∨k=i) (fun id hp hr=>.inl (hp hr)) nC.1 nC.2 fun a' w' Z' ψ' j' => ?_
   exact hk _ _ a' w' Z' ψ' ⟨aF,IP,D.OP dj ho hS hb hE,t1,t2⟩ j'
theorem Dr.done(D:Dr P Eqs Sg F rid n ops b T H E)(dj:Dj rid ops b T H E S Tc h)(fg:∀k,k<ops.size→S k):Tc=T ops.size∧h=H ops.size:=by
 constructor
 ·funext d
  by_cases hex:∃(j:Nat) (oj:Oper),ops[j]? = some oj∧oj.dst=some d
  ·obtain⟨j,oj,hj,hd⟩:=hex
   have It:=(Array.getElem?_eq_some_iff.1 hj).1
   rw[dj.OH j oj d (fg j It) hj hd,D.Er hj hd ops.size (Nat.le_refl _) It]
  ·rw[dj.told d fun j o' _ mQ OL=>hex ⟨j,o',mQ,OL⟩,D.uq ops.size (Nat.le_refl _) fun k o' _ mQ OL=>hex ⟨k,o',mQ,OL⟩]
 ·obtain⟨q,hq,_,ir,fh⟩:=dj.heap
  have:q=ops.size:=by
   rcases Nat.lt_or_ge q ops.size with h1|h1
   ·exact absurd (fg q h1) (ir h1).2
   ·omega
  subst this
  funext id
  by_cases l9:ma rid S id
  ·exact(fh id).1 l9
  ·rw[(fh id).2 l9]
   symm
   apply Classical.not_not.1
   intro bq
   apply l9
   intro hr
   obtain⟨j,h1,h2,h3,_⟩:=D.names ops.size (Nat.le_refl _) id bq hr
   rw[(h1.parts h3).2]
   exact fg j h2
def lL(m:Nat)(cj:Array Bool):Nat:=((List.range m).filter fun i => !cj.getD i false).length
theorem Es{m:Nat}{cj:Array Bool}{i:Nat}(hi:i<m)(hs:i<cj.size)(hn:cj.getD i false=false):lL m cj=lL m (cj.setIfInBounds i true)+1:=by
 unfold lL
 have key:∀(l:List Nat),l.Nodup→i∈l→(l.filter fun k => !cj.getD k false).length=(l.filter fun k => !(cj.setIfInBounds i true).getD k false).length+1:=by
  intro l
  induction l with
  |nil=>intro _ h;cases h
  |cons a r ih =>
   intro Fq hm
   rw[List.nodup_cons]at Fq
   rcases List.mem_cons.1 hm with rfl|hm
   ·have h2:(r.filter fun k => !cj.getD k false)=(r.filter fun k => !(cj.setIfInBounds i true).getD k false):=by
     apply List.filter_congr
     intro k hk
     have bq:i≠k:=fun e=>Fq.1 (e▸hk)
     rw[getD_set_ne false bq]
    rw[List.filter_cons,List.filter_cons,hn]
    have h3:(cj.setIfInBounds i true).getD i false=true:=by simp[hs]
    rw[h3,h2];simp
   ·have bq:i≠a:=fun e=>Fq.1 (e▸hm)
    rw[List.filter_cons,List.filter_cons,getD_set_ne false bq]
    split
    ·simp only[List.length_cons];rw[ih Fq.2 hm]
    ·exact ih Fq.2 hm
 exact key _ List.nodup_range (List.mem_range.2 hi)
theorem Dr.any(D:Dr P Eqs Sg F rid n ops b T H E)(V:Env P Eqs Sg F){Q:Exit→Act→World→Prop}(hQ:∀Z ψ a w,J (ma rid fun k=>k<ops.size) n Z0 w0 O ψ0 Z ψ (T ops.size) (H ops.size) a w→Q .normal a w) :
  ∀(fuel:Nat) (cj:Array Bool) (Tc:Nat→AV) (h:Hp) (a:Act) (w:World) (Z:Nat→Prop) (ψ:Nat→Value),cj.size=ops.size→lL ops.size cj=fuel →
   Dj rid ops b T H E (fun k=>cj.getD k false=true) Tc h→J (ma rid fun k=>cj.getD k false=true) n Z0 w0 O ψ0 Z ψ Tc h a w→wpAny P .any ops Q fuel cj a w
 |0,cj,Tc,h,a,w,Z,ψ,hs,hu,dj,j=>by
  have fg:∀k,k<ops.size→cj.getD k false=true:=fun k hk=>by
   unfold lL at hu
   have:=List.filter_eq_nil_iff.1 (List.eq_nil_of_length_eq_zero hu) k (List.mem_range.2 hk)
   simpa using this
  refine⟨?_,?_⟩
  ·apply List.eq_nil_iff_forall_not_mem.2
   intro i hi
   obtain⟨h1,o,h2,_⟩:=mem_ready.1 hi
   have h3:=(Array.getElem?_eq_some_iff.1 h2).1
   have h4:=fg i h3
   rw[Array.getD_eq_getD_getElem?,Array.getElem?_eq_getElem (by omega)]at h1 h4
   simp at h1 h4
   rw[h1]at h4;cases h4
  ·obtain⟨e1,e2⟩:=D.done dj fg
   subst e1;subst e2
   refine hQ Z ψ a w ⟨j.ok,j.tr,fun d=>(j.tm d).imp fun id h1 h2=>dj.lt _ (h1 h2),fun id ty cs hb=>(j.hm id ty cs hb).imp fun id h1 h2=>dj.lt _ (h1 h2)⟩
 |fuel+1,cj,Tc,h,a,w,Z,ψ,hs,hu,dj,j=>by
  have look:∀i,i<ops.size→cj.getD i true=cj.getD i false:=fun i hi=>by
   rw[Array.getD_eq_getD_getElem?,Array.getD_eq_getD_getElem?,Array.getElem?_eq_getElem (by omega)];rfl
  refine⟨fun hr=>?_,fun i hi=>?_⟩
  ·exfalso
   have hex:∃i,i<ops.size∧cj.getD i false=false:=by
    apply Classical.byContradiction
    intro hn
    unfold lL at hu
    rw[List.filter_eq_nil_iff.2]at hu
    ·simp at hu
    ·intro k hk
     have:=fun h=>hn ⟨k,List.mem_range.1 hk,h⟩
     cases hl:cj.getD k false with
     |true=>simp
     |false=>exact absurd hl this
   have key:∀i,i<ops.size→cj.getD i false=false→False:=by
    intro i
    induction i using Nat.strongRecOn with
    |ind i ih =>
     intro hi hl
     have iX:i∈Region.ready .any ops cj:=by
      refine mem_ready.2 ⟨by rw[look i hi];exact hl,_,Array.getElem?_eq_getElem hi,fun e he L5=>?_⟩
      have Ux:=Jg D.Nx (Array.getElem?_eq_getElem hi) (by simpa using he) L5
      cases hle:cj.getD e.on false with
      |true=>rfl
      |false=>exact(ih e.on Ux (by omega) hle).elim
     rw[hr]at iX;cases iX
   obtain⟨i,h1,h2⟩:=hex
   exact key i h1 h2
  ·obtain⟨h1,o,ho,fg⟩:=mem_ready.1 hi
   have n8:=(Array.getElem?_eq_some_iff.1 ho).1
   have hn:cj.getD i false=false:=by rw[←look i n8];exact h1
   have hS:¬(cj.getD i false=true):=by rw[hn];simp
   have hb:∀k,rl b i k→cj.getD k false=true:=fun k hk=>by
    obtain⟨e,he,L5,h2⟩:=(yr D.Nx ho).1 hk
    have h3:=fg e (by simpa using he) L5
    rcases h2 with rfl|h2
    ·exact h3
    ·exact dj.closed e.on k h3 h2
   refine D.Jj V ho hS hb dj j fun Tc' h' a' w' Z' ψ' dj' j' => ?_
   have heq:(fun k=>cj.getD k false=true∨k=i)=(fun k=>(cj.setIfInBounds i true).getD k false=true):=by
    funext k
    apply propext
    by_cases e:i=k
    ·subst e
     simp[show i<cj.size by omega]
    ·rw[getD_set_ne false e]
     constructor
     ·rintro(h|h)
      ·exact h
      ·exact absurd h.symm e
     ·exact .inl
   rw[heq]at dj' j'
   exact D.any V hQ fuel _ Tc' h' a' w' Z' ψ' (by simpa using hs) (by have:=Es n8 (by omega) hn;omega) dj' j'
end
end Go.Vs
namespace Go.Vs
variable {P:Program} {Eqs:TypeId→Option K} {Sg:FuncId→Option aJ} {F:(f:FuncId)→(g:aJ)→g.A→Option g.B} {R:Type}
variable {Z Z' Z0:Nat→Prop} {ψ ψ' ψ0:Nat→Value} {h h':Hp} {w w' w0:World} {B0:Nat} {O N:Nat→Prop}
theorem Ae(f:AV→AV)(hf:f .no=.no):∀(l:List (Nat×AV)) (d:Nat),look (l.map fun p=>(p.1,f p.2)) d=f (look l d)
 |[],d=>by simp[look,hf]
 |(i,v)::r,d=>by
  simp only[List.map_cons,look]
  split
  ·rfl
  ·exact Ae f hf r d
section
variable {rid:Nat}
mutual
theorem vX:∀{a:AV} {v:Value},av Z ψ h w a v→av Z ψ h w (bB rid a) v
 |.ref id s i off,v,hr=>by
  simp only[bB]
  split
  ·simp only[av]
  ·exact hr
 |.bF id,v,hr=>by
  simp only[bB]
  split
  ·simp only[av]
  ·exact hr
 |.fn f cap,v,hr=>by
  simp only[bB,av]at hr ⊢
  obtain⟨vs,e,hl⟩:=hr
  exact⟨vs,e,lM hl⟩
 |.agg cs,v,hr=>by
  simp only[bB,av]at hr ⊢
  obtain⟨vs,e,hl⟩:=hr
  exact⟨vs,e,lM hl⟩
 |.mI cs,v,hr=>by
  simp only[bB,av]at hr ⊢
  obtain⟨vs,e,hl⟩:=hr
  exact⟨vs,e,lM hl⟩
 |.no,v,hr=>by simpa only[bB] using hr
 |.bool _,v,hr=>by simpa only[bB] using hr
 |.int _ _,v,hr=>by simpa only[bB] using hr
 |.str _,v,hr=>by simpa only[bB] using hr
 |.kN,v,hr=>by simpa only[bB] using hr
 |.fJ,v,hr=>by simpa only[bB] using hr
 |.fp _ _ _,v,hr=>by simpa only[bB] using hr
 |.sl _ _ _,v,hr=>by simpa only[bB] using hr
 |.mp _ _ _,v,hr=>by simpa only[bB] using hr
theorem lM:∀{a:List AV} {v:List Value},ak Z ψ h w a v→ak Z ψ h w (lu rid a) v
 |[],v,hr=>by simpa only[lu] using hr
 |x::r,v,hr=>by
  simp only[lu,ak]at hr ⊢
  obtain⟨u,us,e,h1,h2⟩:=hr
  exact⟨u,us,e,vX h1,lM h2⟩
end
mutual
theorem oL:∀(a:AV),aE (ma rid fun _=>False) (bB rid a)
 |.ref id s i off=>by
  simp only[bB]
  split
  ·simp only[aE]
  ·rename_i hn;simp only[aE];exact fun h=>absurd h hn
 |.bF id=>by
  simp only[bB]
  split
  ·simp only[aE]
  ·rename_i hn;simp only[aE];exact fun h=>absurd h hn
 |.fn f cap=>by simp only[bB,aE];exact iu cap
 |.agg cs=>by simp only[bB,aE];exact iu cs
 |.mI cs=>by simp only[bB,aE];exact iu cs
 |.no=>by simp only[bB,aE]
 |.bool _=>by simp only[bB,aE]
 |.int _ _=>by simp only[bB,aE]
 |.str _=>by simp only[bB,aE]
 |.kN=>by simp only[bB,aE]
 |.fJ=>by simp only[bB,aE]
 |.fp _ _ _=>by simp only[bB,aE]
 |.sl _ _ _=>by simp only[bB,aE]
 |.mp _ _ _=>by simp only[bB,aE]
theorem iu:∀(a:List AV),ax (ma rid fun _=>False) (lu rid a)
 |[]=>by simp only[lu,ax]
 |x::r=>by simp only[lu,ax];exact⟨oL x,iu r⟩
end
theorem get_map(f:Ob→Ob):∀(hh:Heap) (i:Nat),Heap.get (hh.map fun p=>(p.1,f p.2)) i=(hh.get i).map f
 |[],i=>rfl
 |(j,o)::r,i=>by
  simp only[List.map_cons,Heap.get]
  split
  ·rfl
  ·exact get_map f r i
def mw(rid:Nat)(hh:Heap):Heap:=(hh.filter fun p=>p.1 / 32768 != rid+1).map fun p=>(p.1,zg rid p.2)
theorem Ml(hh:Heap)(i:Nat):(mw rid hh).get i=if i / 32768=rid+1 then none else(hh.get i).map (zg rid):=by
 unfold mw
 rw[get_map (zg rid),get_filter (fun i=>i / 32768 != rid+1)]
 by_cases e:i / 32768=rid+1<;>simp[e]
theorem hZ{hh:Heap}{i:Nat}{o:Ob}(hg:(mw rid hh).get i=some o):i / 32768≠rid+1∧∃o',hh.get i=some o'∧o=zg rid o':=by
 rw[Ml]at hg
 split at hg
 ·cases hg
 ·rename_i hn
  cases h0:hh.get i with
  |none=>rw[h0]at hg;cases hg
  |some o'=>rw[h0]at hg;cases hg;exact⟨hn,o',rfl,rfl⟩
theorem kc{hh:Heap}{i:Nat}(hg:(mw rid hh).get i≠none):hh.get i≠none:=by
 obtain⟨o,ho⟩:=Option.ne_none_iff_exists'.1 hg
 obtain⟨_,o',h1,_⟩:=hZ ho
 rw[h1];simp
theorem Good.kH{hh:Heap}(g:Good Z ψ hh.get w B0 O):Good Z ψ (mw rid hh).get w B0 O:=by
 refine⟨fun id ty cs hb=>?_,fun id ok xs hb=>?_,fun id b h1 h2=>g.live id b (kc h1) h2,fun id me b h1 h2 h3 h4=>g.apart id me b (kc h1) (kc h2) h3 h4,g.jx⟩
 ·obtain⟨_,o',h1,h2⟩:=hZ hb
  cases o' with
  |own ok xs=>cases h2
  |box xO cs' =>
   cases h2
   obtain⟨gg,vs,h3,h4,h5,h6⟩:=g.box id ty cs' h1
   exact⟨gg,vs,h3,h4,lM (h5.less (fun _ h=>h) (cp.refl _ _) fun i hi=>⟨kc hi,rfl⟩),h6⟩
 ·obtain⟨_,o',h1,h2⟩:=hZ hb
  cases o' with
  |own XB X9=>cases h2;exact g.row id _ _ h1
  |box xO cs'=>cases h2
theorem Ok.sub{hp:Hp}(k:Ok Z0 w0 O ψ0 Z ψ h w)(g:Good Z ψ hp w w0.heap.size O)(hn:∀id,hp id≠none→h id≠none):Ok Z0 w0 O ψ0 Z ψ hp w :=
 ⟨g,k.fD,k.dY,k.os,k.tape,k.output,k.size,k.block,fun i hi bq=>k.fix i hi (hn i bq)⟩
end
theorem Good.Af(g:Good Z ψ h w B0 O)(e:w'.heap=w.heap):Good Z ψ h w' B0 O:=by
 have sm:cp Z w w':=fun b _=>by rw[e]
 refine⟨fun id ty cs hb=>?_,fun id ok xs hb=>?_,g.live,g.apart,fun b hb=>by rw[e];exact g.jx b hb⟩
 ·obtain⟨gg,vs,h1,h2,h3,h4⟩:=g.box id ty cs hb
  exact⟨gg,vs,h1,by rw[e];exact h2,h3.less (fun _ h=>h) sm (fun i hi=>⟨hi,rfl⟩),h4⟩
 ·exact(g.row id ok xs hb).kept (fun _ h=>h) sm (fun gg _=>by rw[e])
theorem Ok.Af(k:Ok Z0 w0 O ψ0 Z ψ h w)(e:w'.heap=w.heap)(e1:w'.os=w.os)(e2:w'.tape=w.tape)(e3:w'.output=w.output):Ok Z0 w0 O ψ0 Z ψ h w' :=
 ⟨k.dL.Af e,k.fD,k.dY,e1.trans k.os,e2.trans k.tape,e3.trans k.output,by rw[e];exact k.size,fun b hb ho=>by rw[e];exact k.block b hb ho,k.fix⟩
theorem cG.Af{n:Nat}{T:Nat→AV}{a:Act}(t:cG Z ψ h w n T a)(e:w'.heap=w.heap):cG Z ψ h w' n T a :=
 ⟨fun d=>(t.rep d).less (fun _ h=>h) (fun b _=>by rw[e]) (fun i hi=>⟨hi,rfl⟩),t.size,t.defers⟩
theorem Et(V:Env P Eqs Sg F)(hm:P.follows .mixedOrders=true){n rid:Nat}{ops:Array Oper}{draw:Bool}{st:St}{kk:St→Option R}{r:R}{a:Act}{Q:Exit→Act→World→Prop}
  (hx:g6 P Eqs Sg F n rid ops draw st kk=some r) (k:Ok Z0 w0 O ψ0 Z ψ st.heap.get w) (t:cG Z ψ st.heap.get w n (look st.tmps) a)
  (hQ:∀dX Z ψ a w,kk dX=some r→Ok Z0 w0 O ψ0 Z ψ dX.heap.get w→cG Z ψ dX.heap.get w n (look dX.tmps) a→Q .normal a w):(Code.region rid ops draw).wp P Q a w:=by
 obtain⟨b,XJ,hx⟩:∃b,b=(if draw then Region.before ops else #[])∧(if(ops.all fun o=>gZ n o)&&(!draw || (tO ops b&&(zd ops b&&b4 (ops.toList.filterMap (·.dst)))))&&decide (ops.size≤128) then
  bA P Eqs Sg F rid draw ops b (ops.toList.zipIdx.map fun p=>(p.2,p.1)) (kH draw rid ops st) kk else none)=some r:=⟨_,rfl,hx⟩
 split at hx
 ·rename_i hc
  simp only[Bool.and_eq_true,decide_eq_true_eq]at hc
  obtain⟨⟨kB,hdr⟩,iQ⟩:=hc
  have C7:∀(i:Nat) (o:Oper),ops[i]? = some o→gZ n o=true:=fun i o ho=>Array.all_eq_true_iff_forall_mem.1 kB o (Array.mem_of_getElem? ho)
  have pk:Ok Z0 w0 O ψ0 Z ψ (mw rid st.heap).get w:=k.sub k.dL.kH fun id=>kc
  have pt:cG Z ψ (mw rid st.heap).get w n (fun d=>bB rid (look st.tmps d)) a :=
   ⟨fun d=>vX ((t.rep d).less (fun _ h=>h) (cp.refl _ _) fun i hi=>⟨kc hi,rfl⟩),t.size,t.defers⟩
  have pm:su (ma rid fun _=>False) (mw rid st.heap).get:=fun i ty cs hb=>by
   obtain⟨_,o',h1,h2⟩:=hZ hb
   cases o' with
   |own ok xs=>cases h2
   |box xO cs'=>cases h2;exact iu cs'
  have C8:look (st.tmps.map fun p=>(p.1,bB rid p.2))=fun d=>bB rid (look st.tmps d):=funext fun d=>Ae (bB rid) (by simp only[bB]) st.tmps d
  cases draw with
  |false =>
   refine wp_region ?_
   rw[←C1 ops]
   cases Ow:ops.any (makes ·.op) with
   |false =>
    have hp:kH false rid ops st=st:=by unfold kH;rw[Ow];rfl
    rw[hp]at hx
    refine lg V (rid:=rid) (n:=n) (b:=_) false (fun _ i o ho=>?_) iQ C7 hQ _ 0 st Z ψ a w (nw ops) hx ⟨k,t,fun d=>?_,fun i ty cs hb=>?_⟩
    ·have:=Array.any_eq_false'.1 Ow o (Array.mem_of_getElem? ho)
     simpa using this
    ·exact(aE.top _).imp fun id _ h=>by cases h
    ·exact(ax.top _).imp fun id _ h=>by cases h
   |true =>
    have hp:kH false rid ops st={ tmps:=st.tmps.map fun p=>(p.1,bB rid p.2),heap:=mw rid st.heap }:=by unfold kH;rw[Ow];rfl
    rw[hp]at hx
    refine lg V (rid:=rid) (n:=n) (b:=_) true (fun h=>by cases h) iQ C7 hQ _ 0 _ Z ψ a w (nw ops) hx ⟨pk,by rw[C8];exact pt,fun d=>?_,fun i ty cs hb=>?_⟩
    ·rw[C8]
     exact(oL _).imp fun id h1 _ h2=>(h1 h2).elim
    ·exact(pm i ty cs hb).imp fun id h1 _ h2=>(h1 h2).elim
  |true =>
   have hp:kH true rid ops st={ tmps:=st.tmps.map fun p=>(p.1,bB rid p.2),heap:=mw rid st.heap }:=by unfold kH;rw[Bool.true_or];rfl
   rw[hp]at hx
   simp only[Bool.not_true,Bool.false_or,Bool.and_eq_true]at hdr
   obtain⟨adM,YJ,Fq⟩:=hdr
   refine wp_region_any hm ?_
   obtain⟨T,H,E,h1,h2,h3,dX,h4,h5,h6⟩:=trace (kk:=kk) (r:=r) (ops.toList.zipIdx.map fun p=>(p.2,p.1)) 0 _ (nw ops) (by simp) hx
   rw[C8]at h1
   have D:Dr P Eqs Sg F rid n ops b T H E:=⟨iQ,adM,YJ,C7,Fq,fun k o ho=>h3 k o (Nat.zero_le _) ho,fun id bL=>by
    rw[h2]at bL
    obtain⟨o,ho⟩:=Option.ne_none_iff_exists'.1 bL
    exact(hZ ho).1⟩
   have xd:∀k,¬((Array.replicate ops.size false).getD k false=true):=fun k hk=>by
    rw[Array.getD_eq_getD_getElem?,Array.getElem?_replicate]at hk
    split at hk<;>simp at hk
   rw[show max 0 ops.size=ops.size by omega]at h5 h6
   have w2:({ w with drawn:=w.drawn+1 }:World).heap=w.heap:=rfl
   refine D.any V (Z0:=Z0) (w0:=w0) (O:=O) (ψ0:=ψ0) (fun Z ψ a w j=>hQ dX Z ψ a w h4 (by rw[h6];exact j.ok) (by rw[h5,h6];exact j.tr)) ops.size _ (T 0) (H 0) a _ Z ψ (by simp) ?_ ?_ ?_
   ·unfold lL
    rw[List.filter_eq_self.2,List.length_range]
    intro k _
    have:=xd k
    simpa using this
   ·refine⟨fun i hi=>(xd i hi).elim,fun i j hi=>(xd i hi).elim,?_,fun j o d hj=>(xd j hj).elim,fun d _=>rfl⟩
    obtain⟨q,hq1,hq2,hq3⟩:=OO E (fun k=>(Array.replicate ops.size false).getD k false=true) ops.size
    refine⟨q,hq1,hq2,hq3,fun id=>⟨fun l9=>?_,fun l9=>?_⟩⟩
    ·symm
     refine D.yw q (Nat.zero_le _) hq1 (fun k _ hk hw=>(xd k (hq2 k hk hw)).elim) id fun k _ hk _ ho=>?_
     have:=l9 (ho.parts (by omega)).1
     exact xd _ this
    ·rw[h2]
     apply Classical.not_not.1
     intro bq
     obtain⟨o,ho⟩:=Option.ne_none_iff_exists'.1 bq
     exact l9 fun hr=>absurd hr (hZ ho).1
   ·rw[h1,h2]
    refine⟨pk.Af w2 rfl rfl rfl,pt.Af w2,fun d=>(oL _).imp fun id h3 h4=>(h3 h4).elim,fun i ty cs hb=>(pm i ty cs hb).imp fun id h3 h4=>(h3 h4).elim⟩
 ·cases hx
end Go.Vs
