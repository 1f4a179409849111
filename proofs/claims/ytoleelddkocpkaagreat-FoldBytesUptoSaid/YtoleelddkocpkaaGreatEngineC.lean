/- The value semantics is sound -/
import Derived.Test.YtoleelddkocpkaaGreatEngineB
import Derived.Maps.RangeRun
import Derived.ChangeMaps
set_option linter.unusedSimpArgs false
set_option linter.unusedVariables false
namespace Go.Vs
variable {P:Program} {Z Z':Nat→Prop} {ψ ψ':Nat→Value} {h h':Hp} {w w':World} {B0:Nat} {O:Nat→Prop} {N:Nat→Prop}
theorem fD:∀(k:K) (x:k.T),(enc k x).length=k.sz
 |.int _,_=>rfl
 |.bool,_=>rfl
 |.str,_=>rfl
 |.sl _,_=>rfl
 |.mp _ _,_=>rfl
 |.fn _,_=>rfl
 |.pair a b,x=>by simp only[enc,List.length_append,K.sz];rw[fD a,fD b]
 |.one k,x=>by simp only[enc,K.sz];exact fD k x
theorem rM(hh:Heap):∀(k:K) (x:k.T),(enc k x).map (cV hh)=enc k x
 |.int _,_=>rfl
 |.bool,_=>rfl
 |.str,_=>rfl
 |.sl _,_=>rfl
 |.mp _ _,_=>rfl
 |.fn _,_=>rfl
 |.pair a b,x=>by simp only[enc,List.map_append];rw[rM hh a,rM hh b]
 |.one k,x=>by simp only[enc];exact rM hh k x
theorem mv:∀(k:K) (x:k.T) (id:Nat),AV.bI id∉enc k x
 |.int _,_,_=>by simp[enc]
 |.bool,_,_=>by simp[enc]
 |.str,_,_=>by simp[enc]
 |.sl _,_,_=>by simp[enc]
 |.mp _ _,_,_=>by simp[enc]
 |.fn _,_,_=>by simp[enc]
 |.pair a b,x,id=>by
  simp only[enc,List.mem_append];rintro(h|h)
  ·exact mv a _ id h
  ·exact mv b _ id h
 |.one k,x,id=>by simp only[enc];exact mv k x id
theorem yh{hh:Heap}{ok:OK}{n:Nat}{xs:ok.T}(hg:hh.get n=some (.own ok xs)):dZ hh ok (.bI n)=some xs:=by simp[dZ,hg]
theorem qc{hh:Heap}:∀(dH:List CK) (n:Nat) (x:rm dH),(∀e∈aX dH n x,hh.get e.1=some e.2)→cQ dH hh (aE dH n x)=some x
 |[],n,x,_=>rfl
 |.val k::r,n,x,hg=>by
  have h1:(aE (.val k::r) n x).take k.sz=enc k x.1:=by simp only[aE];rw[←fD k x.1,List.take_left]
  have h2:(aE (.val k::r) n x).drop k.sz=aE r (n+1) x.2:=by simp only[aE];rw[←fD k x.1,List.drop_left]
  have e:cQ (.val k::r) hh (aE (.val k::r) n x)=(match dr k (((aE (.val k::r) n x).take k.sz).map (cV hh)),cQ r hh ((aE (.val k::r) n x).drop k.sz) with
   |some x,some y=>some ((x,y):k.T×rm r)
   |_,_=>none):=by generalize aE (.val k::r) n x=l;cases l<;>rfl
  have h4:dr k (((aE (.val k::r) n x).take k.sz).map (cV hh))=some x.1:=by rw[h1];exact(congrArg (dr k) (rM hh k x.1)).trans (ve k x.1)
  have h5:cQ r hh ((aE (.val k::r) n x).drop k.sz)=some x.2:=by rw[h2];exact qc r (n+1) x.2 hg
  rw[e];generalize dr k (((aE (.val k::r) n x).take k.sz).map (cV hh))=o1 at h4 ⊢;generalize cQ r hh ((aE (.val k::r) n x).drop k.sz)=o2 at h5 ⊢;subst h4;subst h5;rfl
 |.own ok::r,n,x,hg=>by
  simp only[aX]at hg;have h1:=yh (hg _ abT);have h2:=qc r (n+1) x.2 (fun e he=>hg e (abq _ he));have e:cQ (.own ok::r) hh (aE (.own ok::r) n x)=(match dZ hh ok (.bI n),cQ r hh (aE r (n+1) x.2) with
   |some x,some y=>some ((x,y):ok.T×rm r)
   |_,_=>none):=rfl
  rw[e,h1,h2];rfl
theorem PF{hh:Heap}(b:BK){i n:Nat}{x:b.T}(hg:∀e∈j0 b i n x,hh.get e.1=some e.2):ru b hh i=some x:=by
 cases b with
 |box ty c =>
  grind [j0,II,aE,List.mem_cons_self,ru,qc,List.mem_cons_of_mem]
 |own ok=>exact yh (hg _ (by simp only[j0];exact abT))
theorem zG{hh:Heap}:∀(bs:List BK) (is:List Nat) (n:Nat) (x:zj bs),is.length=bs.length→(∀e∈bE bs is n x,hh.get e.1=some e.2)→dh bs hh is=some x
 |[],[],n,x,_,_=>rfl
 |[],_::_,n,x,hl,_=>by simp at hl
 |_::_,[],n,x,hl,_=>by simp at hl
 |b::r,i::is,n,x,hl,hg=>by
  simp only[bE]at hg;have h2:=PF b (fun e he=>hg e (abO _ he));have h3:=zG r is (n+16) x.2 (by simpa using hl) (fun e he=>hg e (abN _ he));have e:dh (b::r) hh (i::is)=(match ru b hh i,dh r hh is with
    |some x,some y=>some ((x,y):b.T×zj r)
    |_,_=>none):=rfl
  rw[e,h2,h3];rfl
theorem yi{i:Nat}{o:Ob}:∀{hh:Heap},cc (hh.map (·.1))=true→(i,o)∈hh→hh.get i=some o
 |[],_,h=>by cases h
 |(j,o')::r,hn,h=>by
  obtain⟨h1,h2⟩:=nq hn;simp only[Heap.get];rcases abM.1 h with e|h
  ·cases e;simp
  ·rw[if_neg,yi h2 h]
   grind
theorem AR{hh:Heap}:∀(dH:List CK) (n:Nat) (x:rm dH) (id:Nat),AV.bI id∉qJ dH (aE dH n x)
 |[],n,x,id=>by simp[aE,qJ]
 |.val k::r,n,x,id=>by
  have h1:(aE (.val k::r) n x).take k.sz=enc k x.1:=by grind [aE,fD,List.take_left]
  have h2:(aE (.val k::r) n x).drop k.sz=aE r (n+1) x.2:=by grind [aE,fD,List.drop_left]
  have e:qJ (.val k::r) (aE (.val k::r) n x)=(aE (.val k::r) n x).take k.sz++qJ r ((aE (.val k::r) n x).drop k.sz):=by rfl
  rw[e,h1,h2,List.mem_append];rintro(h|h)
  ·exact mv k x.1 id h
  ·exact AR (hh:=hh) r (n+1) x.2 id h
 |.own ok::r,n,x,id=>by simp only[aE,qJ];exact AR (hh:=hh) r (n+1) x.2 id
theorem B4{hh:Heap}:∀(bs:List BK) (is:List Nat) (n:Nat) (x:zj bs) (id:Nat),(∀e∈bE bs is n x,hh.get e.1=some e.2)→AV.bI id∉gq bs hh is
 |[],is,n,x,id,_=>by grind [gq]
 |_::_,[],n,x,id,_=>by simp[gq]
 |b::r,i::is,n,x,id,hg=>by
  simp only[bE]at hg;simp only[gq,List.mem_append];rintro(h|h)
  ·cases b with
   |box ty c =>simp only[Bk]at h;rw[hg (i,.box ty (aE c n x.1)) (List.mem_append_left _ (by grind [j0,List.mem_cons_self]))]at h;exact AR (hh:=hh) c n x.1 id h
   |own ok=>simp[Bk]at h
  ·exact B4 r is (n+16) x.2 id (fun e he=>hg e (abN _ he)) h
theorem FA{hh:Heap}:∀(cap:List AV) (is is':List Nat) (vs:List Value),j4 cap=some is→is'.length=is.length→(∀p∈is.zip is',hh.get p.1≠none∧(h' p.2≠none→ψ' p.2=ψ p.1)) → ar Z ψ hh.get w cap vs→ar Z' ψ' h' w (is'.map fun i=>.ref i 0 0 0) vs
 |[],is,is',vs,h1,hl,_,hr=>by
  simp only[j4]at h1
  cases h1
  cases is' with
  |nil=>simpa only[List.map_nil,ar] using hr
  |cons c r=>simp at hl
 |v::cap,is,is',vs,h1,hl,hp,hr=>by
  simp only[j4]at h1
  split at h1
  ·rename_i i is1 h3 h4
   cases h1
   cases is' with
   |nil=>simp at hl
   |cons c r =>simp only[List.zip_cons_cons]at hp;simp only[List.map_cons,ar]at hr ⊢;obtain⟨u,us,rfl,h7,h8⟩:=hr;obtain⟨sz,rfl⟩:=p4 h3;obtain⟨h5,h6⟩:=hp _ abT;exact⟨u,us,rfl,AP h7 h5 h6,FA cap is1 r us h4 (by simpa using hl) (fun p h=>hp p (abq _ h)) h8⟩
  ·cases h1
theorem uq:∀(cap:List AV) (is:List Nat),j4 cap=some is→is.length=cap.length
 |[],is,h=>by simp only[j4]at h;cases h;rfl
 |v::cap,is,h=>by
  simp only[j4]at h
  split at h
  ·rename_i i is1 h3 h4
   cases h
   simp[uq cap is1 h4]
  ·cases h
theorem uu:∀(cs:List AV) (is:List Nat),pP cs=some is→is.length=cs.length
 |[],is,h=>by simp only[pP]at h;cases h;rfl
 |c::r,is,h=>by
  cases c<;>simp only[pP]at h<;>first|(cases h;done)|skip
  split at h
  ·rename_i is' h1
   cases h
   simp[uu r is' h1]
  ·cases h
theorem FB{hh:Heap}:∀(cs:List AV) (is gL:List Nat) (vs:List Value),pP cs=some is→gL.length=is.length→(∀p∈is.zip gL,hh.get p.1≠none∧(h' p.2≠none→ψ' p.2=ψ p.1)) → ar Z ψ hh.get w cs vs→ar Z' ψ' h' w (gL.map .bI) vs
 |[],is,gL,vs,h,hl,hp,hr=>by
  simp only[pP]at h
  cases h
  have:gL=[]:=abS hl;subst this;simpa only[List.map_nil,ar] using hr
 |c::r,is,gL,vs,h,hl,hp,hr=>by
  cases c<;>simp only[pP]at h<;>first|(cases h;done)|skip
  rename_i i
  split at h
  ·rename_i is' h1
   cases h
   cases gL with
   |nil=>simp at hl
   |cons i' gL =>simp only[List.zip_cons_cons]at hp;obtain⟨h5,h6⟩:=hp _ abT;simp only[List.map_cons,ar]at hr ⊢;obtain⟨u,us,rfl,h3,h4⟩:=hr;refine⟨u,us,rfl,?_,FB r is' gL us h1 (by simpa using hl) (fun p WZ=>hp p (abq _ WZ)) h4⟩;simp only[az]at h3 ⊢;exact⟨h3.1,fun hn=>(h3.2 h5).trans (h6 hn).symm⟩
  ·cases h
theorem lV{hh:Heap}(g:Good Z ψ hh.get w B0 O)(hz:∀b,Z b→Z' b):∀(ps:List PK) (ids gL:List Nat) (s:Nat) (vs:List AV) (us:List Value) (x:IG (ly ps)),gL.length=ids.length→cH ps vs=some ids→fq ps hh vs=some x →(∀id b,AV.bI id∈dm ps vs→hh.get id≠none→ob (ψ id)=some b→Z' b)→(∀p∈ids.zip gL,hh.get p.1≠none∧(h' p.2≠none→ψ' p.2=ψ p.1))→ar Z ψ hh.get w vs us→ar Z' ψ' h' w ((aT ps gL s x).map (·.2)) us
 |[],ids,gL,s,vs,us,x,hl,hi,hv,hf,hp,hr=>by
  cases vs with
  |nil=>simpa only[aT,List.map_nil,ar] using hr
  |cons a r=>simp[cH]at hi
 |.val k::ps,ids,gL,s,vs,us,x,hl,hi,hv,hf,hp,hr=>by
  cases vs with
  |nil=>simp[cH]at hi
  |cons a r =>simp only[cH]at hi;simp only[ar]at hr;obtain⟨u,jh,rfl,h3,h4⟩:=hr;obtain⟨h1,h2⟩:=zF hv;simp only[dm]at hf;simp only[aT,List.map_cons,ar];exact⟨u,jh,rfl,sX g hz (fun id b bL=>hf id b (abO _ bL)) h1 h3,lV g hz ps ids gL (s+1) r jh x.2 hl hi h2 (fun id b bL=>hf id b (abN _ bL)) hp h4⟩
 |.ref::ps,ids,gL,s,vs,us,x,hl,hi,hv,hf,hp,hr=>by
  cases vs with
  |nil=>simp[cH]at hi
  |cons a r =>
   simp only[cH]at hi
   split at hi
   ·rename_i i is h1 h2
    cases hi
    simp only[ar]at hr;obtain⟨u,jh,rfl,h3,h4⟩:=hr
    cases gL with
    |nil=>simp at hl
    |cons i' is' =>simp only[List.zip_cons_cons]at hp;obtain⟨sz,rfl⟩:=p4 h1;obtain⟨h5,h6⟩:=hp _ abT;simp only[aT,List.map_cons,ar];exact⟨u,jh,rfl,AP h3 h5 h6,lV g hz ps is is' (s+1) r jh x (by simpa using hl) h2 hv hf (fun p h=>hp p (abq _ h)) h4⟩
   ·cases hi
 |.own::ps,ids,gL,s,vs,us,x,hl,hi,hv,hf,hp,hr=>by
  cases vs with
  |nil=>simp[cH]at hi
  |cons a r =>
   cases a<;>simp only[cH]at hi<;>first|(cases hi;done)|skip
   rename_i i
   split at hi
   ·rename_i is h2
    cases hi
    simp only[ar]at hr;obtain⟨u,jh,rfl,h3,h4⟩:=hr
    cases gL with
    |nil=>simp at hl
    |cons i' is' =>simp only[List.zip_cons_cons]at hp;obtain⟨h5,h6⟩:=hp _ abT;simp only[aT,List.map_cons,ar];refine⟨u,jh,rfl,?_,lV g hz ps is is' (s+1) r jh x (by simpa using hl) h2 hv hf (fun p h=>hp p (abq _ h)) h4⟩;simp only[az]at h3 ⊢;exact⟨h3.1,fun hn=>(h3.2 h5).trans (h6 hn).symm⟩
   ·cases hi
 |.uP f m::ps,ids,gL,s,vs,us,x,hl,hi,hv,hf,hp,hr=>by
  cases vs with
  |nil=>simp[cH]at hi
  |cons a r =>
   cases a<;>simp only[cH]at hi<;>first|(cases hi;done)|skip
   rename_i f' cap
   split at hi
   ·rename_i hc;obtain⟨rfl,uW⟩:=hc
    split at hi
    ·rename_i a1 b1 h1 h2
     cases hi
     simp only[ar]at hr;obtain⟨u,jh,rfl,h3,h4⟩:=hr;have h5:=uq cap a1 h1;have zt:(a1++b1).zip gL=a1.zip (gL.take m)++b1.zip (gL.drop m):=by
      conv=>lhs;rw[←List.take_append_drop m gL]
      rw[List.zip_append];rw[List.length_take,Nat.min_eq_left]
      ·omega
      ·rw[hl,List.length_append];omega
     rw[zt]at hp;simp only[aT,List.map_cons,ar];refine⟨u,jh,rfl,?_,lV g hz ps b1 (gL.drop m) (s+1) r jh x (by rw[List.length_drop,hl,List.length_append];omega) h2 hv hf (fun p h=>hp p (abN _ h)) h4⟩;simp only[az]at h3 ⊢;obtain⟨ws,h6,h7⟩:=h3;exact⟨ws,h6,FA cap a1 (gL.take m) _ h1 (by rw[List.length_take,Nat.min_eq_left (by rw[hl,List.length_append];omega)];omega) (fun p h=>hp p (abO _ h)) h7⟩
    ·cases hi
   ·cases hi
 |.agg m::ps,ids,gL,s,vs,us,x,hl,hi,hv,hf,hp,hr=>by
  cases vs with
  |nil=>simp[cH]at hi
  |cons a r =>
   cases a<;>simp only[cH]at hi<;>first|(cases hi;done)|skip
   rename_i cs
   split at hi
   ·rename_i uW
    split at hi
    ·rename_i a1 b1 h1 h2
     cases hi
     simp only[ar]at hr;obtain⟨u,jh,rfl,h3,h4⟩:=hr;have h5:=uu cs a1 h1;have zt:(a1++b1).zip gL=a1.zip (gL.take m)++b1.zip (gL.drop m):=by
      conv=>lhs;rw[←List.take_append_drop m gL]
      rw[List.zip_append];rw[List.length_take,Nat.min_eq_left]
      ·omega
      ·rw[hl,List.length_append];omega
     rw[zt]at hp;simp only[aT,List.map_cons,ar];refine⟨u,jh,rfl,?_,lV g hz ps b1 (gL.drop m) (s+1) r jh x (by rw[List.length_drop,hl,List.length_append];omega) h2 hv hf (fun p h=>hp p (abN _ h)) h4⟩;simp only[az]at h3 ⊢;obtain⟨ws,h6,h7⟩:=h3;exact⟨ws,h6,FB cs a1 (gL.take m) _ h1 (by rw[List.length_take,Nat.min_eq_left (by rw[hl,List.length_append];omega)];omega) (fun p h=>hp p (abO _ h)) h7⟩
    ·cases hi
   ·cases hi
theorem PH(hh:Heap)(k:K)(x:k.T):gP k hh (b7 k x)=some x:=by unfold gP;rw[if_pos (BY k x).symm,vf];exact(congrArg (dr k) (rM hh k x)).trans (ve k x)
theorem nw:∀(dH:List CK) (c n:Nat) (x:rm dH),gi dH c=true→(aE dH n x)[nj dH c]? = some (.bI (n+c))
 |[],c,n,x,h=>by simp[gi]at h
 |.val k::r,0,n,x,h=>by simp[gi]at h
 |.val k::r,c+1,n,x,h=>by simp only[aE,nj];have ih:=nw r c (n+1) x.2 (by simpa[gi] using h);have hl:(enc k x.1).length=k.sz:=fD k x.1;generalize enc k x.1=l at hl ⊢;rw[List.getElem?_append_right (by omega),hl,Nat.add_sub_cancel_left,show n+(c+1)=n+1+c by omega];exact ih
 |.own ok::r,0,n,x,h=>by simp[aE,nj]
 |.own ok::r,c+1,n,x,h=>by simp only[aE,nj];rw[Nat.add_comm 1,List.getElem?_cons_succ,show n+(c+1)=n+1+c by omega];exact nw r c (n+1) x.2 (by simpa[gi] using h)
theorem zH:∀(bs:List BK) (b:Nat) (is:List Nat) (n:Nat) (x:zj bs) (ty:TypeId) (c:List CK) (bi:Nat),bs[b]? = some (.box ty c)→is[b]? = some bi→∃xb,(bi,.box ty (aE c (n+16*b) xb))∈bE bs is n x
 |[],b,is,n,x,_,_,bi,h,_=>by simp at h
 |b0::r,b,[],n,x,_,_,bi,_,h=>by simp at h
 |b0::r,0,i::is,n,x,ty,c,bi,h1,h2=>by
  grind [List.getElem?_cons_zero,Option.some.injEq,bE,j0,List.mem_append_left,List.mem_cons_self]
 |b0::r,b+1,i::is,n,x,ty,c,bi,h1,h2=>by
  obtain⟨xb,h3⟩:=zH r b is (n+16) x.2 ty c bi (by simpa using h1) (by simpa using h2)
  grind [bE,List.mem_append_right]
theorem mw{bs:List BK}{hh:Heap}{is:List Nat}{nb:Nat}{xb:zj bs}(hl:is.length=bs.length)(Wo:∀e∈bE bs is nb xb,hh.get e.1=some e.2):∀(rs:List RK) (ids2:List Nat) (m:Nat) (y:mb rs),ry bs rs=true →(∀e∈aq rs m y,hh.get e.1=some e.2)→bM bs rs hh is (aU rs ids2 nb m y)=some y
 |[],ids2,m,y,_,_=>rfl
 |.val k::r,ids2,m,y,hk,hg=>by
  simp only[ry,List.all_cons,Bool.and_eq_true,Ek]at hk;have h1:=PH hh k y.1;have h2:=mw hl Wo r ids2 (m+1) y.2 hk.2 hg;have e:bM bs (.val k::r) hh is (aU (.val k::r) ids2 nb m y)=(match gP k hh (b7 k y.1),bM bs r hh is (aU r ids2 nb (m+1) y.2) with
   |some x,some y=>some ((x,y):k.T×mb r)
   |_,_=>none):=rfl
  rw[e];generalize gP k hh (b7 k y.1)=o1 at h1 ⊢;generalize bM bs r hh is (aU r ids2 nb (m+1) y.2)=o2 at h2 ⊢;subst h1;subst h2;rfl
 |.own ok::r,ids2,m,y,hk,hg=>by
  simp only[ry,List.all_cons,Bool.and_eq_true,Ek]at hk;simp only[aq]at hg;have h1:=yh (hg _ abT);have h2:=mw hl Wo r ids2 (m+1) y.2 hk.2 (fun e he=>hg e (abq _ he));have e:bM bs (.own ok::r) hh is (aU (.own ok::r) ids2 nb m y)=(match dZ hh ok (.bI m),bM bs r hh is (aU r ids2 nb (m+1) y.2) with
   |some x,some y=>some ((x,y):ok.T×mb r)
   |_,_=>none):=rfl
  rw[e];generalize dZ hh ok (.bI m)=o1 at h1 ⊢;generalize bM bs r hh is (aU r ids2 nb (m+1) y.2)=o2 at h2 ⊢;subst h1;subst h2;rfl
 |.eV b alts::r,ids2,m,y,hk,hg=>by
  simp only[ry,List.all_cons,Bool.and_eq_true,Ek]at hk;have h2:=mw hl Wo r ids2 (m+1) y.2 hk.2 hg;have h1:nN bs hh is b alts (vL b nb alts y.1)=some y.1:=by
   cases hy:y.1 with
   |none=>rfl
   |some p =>
    obtain⟨al,i⟩:=p;have h3:=hk.1
    split at h3
    ·rename_i bk hbk;have aK:=(aby.1 hbk).1;have Rx:is[b]? = some (is[b]'(by omega)):=abk (by omega);rw[Bool.and_eq_true,decide_eq_true_eq]at h3;obtain⟨h3,Et⟩:=h3;have h3a:∀a:Fin alts.length,gi bk.dH (alts.get a).1=true:=fun a=>ab7.1 h3 _ (List.get_mem alts a)
     cases bk with
     |own ok=>have:=h3a al;grind [BK.dH,gi]
     |box ty c0 =>
      obtain⟨xb',h4⟩:=zH bs b is nb xb ty c0 _ hbk Rx;have h5:=Wo _ h4;simp only[BK.dH]at h3a;simp only[nN,vL,hbk,Rx,h5,BK.dH];have key:(List.finRange alts.length).find? (fun a=>Bl c0 (aE c0 (nb+16*b) xb') (nb+16*b+(alts.get al).1) (alts.get al).2.1 (alts.get al).2.2 (alts.get a))=some al:=by
       cases hf:(List.finRange alts.length).find? (fun a=>Bl c0 (aE c0 (nb+16*b) xb') (nb+16*b+(alts.get al).1) (alts.get al).2.1 (alts.get al).2.2 (alts.get a)) with
       |none =>have:=List.find?_eq_none.1 hf al (List.mem_finRange al);simp_all [Bl,Bool.and_eq_true,decide_eq_true_eq,trivial,nw,RH]
       |some a' =>
        have hf':=acR hf;obtain⟨h6,_,h7,_⟩:=B3 hf';rw[nw c0 _ _ xb' (h3a a')]at h6;simp only[Option.some.injEq,AV.bI.injEq]at h6;have h8:(alts.get a').1=(alts.get al).1:=by omega
        congr 1;have vU:∀a:Fin alts.length,(alts.map fun a=>(a.1,a.2.2))[a.val]? = some ((alts.get a).1,(alts.get a).2.2):=fun a=>by simp_all
        grind [Fin.ext,List.getElem?_inj]
      rw[key];rfl
    ·cases h3
  have e:bM bs (.eV b alts::r) hh is (aU (.eV b alts::r) ids2 nb m y)=(match nN bs hh is b alts (vL b nb alts y.1),bM bs r hh is (aU r ids2 nb (m+1) y.2) with
   |some x,some y=>some ((x,y):Option (Fin alts.length×Nat)×mb r)
   |_,_=>none):=rfl
  rw[e];generalize nN bs hh is b alts (vL b nb alts y.1)=o1 at h1 ⊢;generalize bM bs r hh is (aU r ids2 nb (m+1) y.2)=o2 at h2 ⊢;subst h1;subst h2;rfl
 |.agg c::r,ids2,m,y,hk,hg=>by
  simp only[ry,List.all_cons,Bool.and_eq_true,Ek]at hk;simp only[aq]at hg;have h1:=qc (hh:=hh) c m y.1 (fun e he=>hg e (abO _ he));have h2:=mw hl Wo r ids2 (m+1) y.2 hk.2 (fun e he=>hg e (abN _ he));have e:bM bs (.agg c::r) hh is (aU (.agg c::r) ids2 nb m y)=(match cQ c hh (aE c m y.1),bM bs r hh is (aU r ids2 nb (m+1) y.2) with
   |some x,some y=>some ((x,y):rm c×mb r)
   |_,_=>none):=rfl
  rw[e];generalize cQ c hh (aE c m y.1)=o1 at h1 ⊢;generalize bM bs r hh is (aU r ids2 nb (m+1) y.2)=o2 at h2 ⊢;subst h1;subst h2;rfl
def qM(g:aO)(x:g.A):Hp:=(bE g.bs (aP g.bs.length) 2000 x.2).get
def kQ(g:aO)(y:g.B):Heap:=bE g.bs (aP g.bs.length) 2000 y.2++aq g.rs 3000 y.1
def G8(g:aO)(x:g.A):List AV:=(aT g.ps (aP g.bs.length) 0 x.1).map (·.2)
def FC(P:Program)(f:FuncId)(g:aO)(x:g.A)(y:g.B):Prop :=∀(Z:Nat→Prop) (ψ0:Nat→Value) (w:World) (kP:List Value),Good Z ψ0 (qM g x) w w.heap.size (Own ψ0 (qM g x))→ar Z ψ0 (qM g x) w (G8 g x) kP → Calls P (f%1000) kP.toArray w fun e w'=>∃v Z' ψ',e=.returned v∧(∀b,Z b→Z' b)∧(∀b,Z' b→Z b∨Own ψ0 (qM g x) b∨w.heap.size≤b)∧cO ψ0 (qM g x) w w' ∧ Good Z' ψ' (kQ g y).get w' w.heap.size (Own ψ0 (qM g x))∧(∀i∈aP g.bs.length,ψ' i=ψ0 i)∧az Z' ψ' (kQ g y).get w' (fg (aU g.rs (aP g.bs.length) 2000 3000 y.1)) v
theorem G9{ψ:Nat→Value}{b:Nat}:¬Own ψ gE b:=fun⟨_,h,_⟩=>h rfl
theorem FC.zero{f:FuncId}{g:aO}{x:g.A}{y:g.B}(hb:g.bs=[])(c:FC P f g x y):acB P f g x y:=by
 obtain⟨ps,bs,rs,_⟩:=g;simp only at hb;subst hb;intro Z w kP hz hr;have e0:qM ⟨ps,[],rs,_⟩ x=gE:=by rfl
 have e1:kQ ⟨ps,[],rs,_⟩ y=aq rs 3000 y.1:=by rfl
 have hO:Own Lq gE=fun _=>False:=funext fun b=>propext ⟨G9,False.elim⟩;unfold FC at c;rw[e0,e1]at c;refine(c Z Lq w kP ⟨fun _ _ _ h=>(by cases h),fun _ _ _ h=>(by cases h),fun _ _ h=>absurd rfl h,fun _ _ _ h=>absurd rfl h,hz⟩ hr).mono fun e w' ⟨v,Z',ψ',h1,h2,h3,h4,h5,_,h6⟩=>?_;exact⟨v,Z',ψ',h1,h2,fun b hb=>(h3 b hb).imp (fun h=>h) fun h=>h.resolve_left G9,h4,by simp_all,h6⟩
theorem I8{bs:List BK}{hh:Heap}{x:zj bs}(hd:dh bs hh []=some x):bs=[]:=by
 cases bs with
 |nil=>rfl
 |cons b r=>cases hd
variable {Eqs:TypeId→Option K} {Sg:FuncId→Option aO} {F:(f:FuncId)→(g:aO)→g.A→Option g.B}
theorem I9{a b:List Nat}(h:cc (a++b)=true):cc a=true:=by
 induction a with
 |nil=>rfl
 |cons i r ih =>simp_all [nq,cc,Bool.and_eq_true,Bool.not_eq_true',absurd,List.mem_append_left,List.contains_iff_mem]
theorem Good.Hc(g:Good Z ψ h w B0 O)(B:Nat):Good Z ψ h w B (Own ψ h) :=⟨g.box,g.row,fun id b h1 h2=>⟨(g.live id b h1 h2).1,.inr ⟨id,h1,h2⟩⟩,g.apart,g.j7⟩
theorem oI:∀(l:List Nat) (hh:Heap) (i:Nat),(hM hh l).get i=if i∈l then none else hh.get i
 |[],hh,i=>by simp[hM]
 |j::r,hh,i=>by
  simp only[hM];rw[oI r (hh.del j) i];by_cases h1:i∈r
  ·simp[h1]
  ·by_cases h2:i=j
   ·subst h2;simp[Heap.gI]
   ·rw[Heap.iS h2];simp[h1,h2]
theorem ia:∀(dH:List CK) (n:Nat) (x:rm dH),(aX dH n x).map (·.1)=cr dH n
 |[],_,_=>rfl
 |.val k::r,n,x=>ia r (n+1) x.2
 |.own ok::r,n,x=>by simp only[aX,cr,List.map_cons];rw[ia r (n+1) x.2]
theorem my:∀(bs:List BK) (is:List Nat) (n:Nat) (x:zj bs),is.length=bs.length→(bE bs is n x).map (·.1)=bZ bs is n
 |[],is,n,x,_=>by cases is<;>rfl
 |b::r,[],n,x,hl=>by simp at hl
 |b::r,i::is,n,x,hl=>by
  simp only[bE,bZ,List.map_append];rw[my r is (n+16) x.2 (by simpa using hl),←List.cons_append];congr 1
  cases b with
  |box ty c=>simp only[j0,List.map_cons,BK.dH];rw[ia]
  |own ok=>simp[j0,BK.dH,cr]
theorem fR:∀(rs:List RK) (m:Nat) (y:mb rs),(aq rs m y).map (·.1)=bC rs m
 |[],_,_=>rfl
 |.own ok::r,m,y=>by simp only[aq,bC,List.map_cons];rw[fR r (m+1) y.2]
 |.val _::r,m,y=>fR r (m+1) y.2
 |.eV _ _::r,m,y=>fR r (m+1) y.2
 |.agg c::r,m,y=>by have e1:(aX c m y.1).map (·.1)=cr c m:=ia c m y.1;simp only[aq,bC,List.map_append];rw[fR r (m+1) y.2];exact congrArg (·++_) e1
theorem qd:∀(dH:List CK) (n:Nat) (x:rm dH),fW dH (aE dH n x)=cr dH n
 |[],_,_=>rfl
 |.val k::r,n,x=>by
  have h2:(aE (.val k::r) n x).drop k.sz=aE r (n+1) x.2:=by simp only[aE];rw[←fD k x.1,List.drop_left]
  have e:fW (.val k::r) (aE (.val k::r) n x)=fW r ((aE (.val k::r) n x).drop k.sz):=by generalize aE (.val k::r) n x=l;cases l<;>rfl
  rw[e,h2,qd r (n+1) x.2];rfl
 |.own ok::r,n,x=>by simp only[aE,fW,pO,cr,List.cons_append,List.nil_append];rw[qd r (n+1) x.2]
theorem zJ{hh:Heap}:∀(bs:List BK) (is:List Nat) (n:Nat) (x:zj bs),is.length=bs.length→(∀e∈bE bs is n x,hh.get e.1=some e.2)→c8 bs hh is=bZ bs is n
 |[],is,n,x,_,_=>by rfl
 |_::_,[],n,x,hl,_=>by simp at hl
 |b::r,i::is,n,x,hl,hg=>by
  simp only[bE]at hg;simp only[c8,bZ];rw[zJ r is (n+16) x.2 (by simpa using hl) (fun e he=>hg e (List.mem_append_right _ he)),←List.cons_append];congr 1
  cases b with
  |box ty c =>
   grind [ni,BK.dH,aE,List.mem_append_left,j0,List.mem_cons_self,qd]
  |own ok=>rfl
theorem kR:∀(rs:List RK) (ids:List Nat) (n m:Nat) (y:mb rs),dP rs (aU rs ids n m y)=bC rs m
 |[],_,_,_,_=>rfl
 |.own ok::r,ids,n,m,y=>by simp only[aU,dP,bC,pO,List.cons_append,List.nil_append];rw[kR r ids n (m+1) y.2]
 |.val _::r,ids,n,m,y=>by simp only[aU,dP,bC];exact kR r ids n (m+1) y.2
 |.eV _ _::r,ids,n,m,y=>by simp only[aU,dP,bC];exact kR r ids n (m+1) y.2
 |.agg c::r,ids,n,m,y=>by have e1:fW c (aE c m y.1)=cr c m:=qd c m y.1;simp only[aU,dP,bC,AV.cells];rw[kR r ids n (m+1) y.2];exact congrArg (·++_) e1
theorem mz:∀(rs:List RK) (ids:List Nat) (n m:Nat) (y:mb rs) (id:Nat),AV.bI id∉gr rs (aU rs ids n m y)
 |[],_,_,_,_,_=>by simp[aU,gr]
 |.own ok::r,ids,n,m,y,id=>by simp only[aU,gr];exact mz r ids n (m+1) y.2 id
 |.val k::r,ids,n,m,y,id=>by
  simp only[aU,gr,List.mem_append];rintro(h|h)
  ·have e:(b7 k y.1).cells=enc k y.1:=vf k y.1;exact mv k y.1 id (e▸h)
  ·exact mz r ids n (m+1) y.2 id h
 |.eV _ _::r,ids,n,m,y,id=>by simp only[aU,gr];exact mz r ids n (m+1) y.2 id
 |.agg c::r,ids,n,m,y,id=>by
  simp only[aU,gr,AV.cells,List.mem_append];rintro(h|h)
  ·exact AR (hh:=[]) c m y.1 id h
  ·exact mz r ids n (m+1) y.2 id h
theorem PI{gg:aO}{x:gg.A}{y:gg.B}{Sc:List Nat}{oc eu:Nat→Value}{id:Nat}(hl:Sc.length=gg.bs.length)(hrs:ry gg.bs gg.rs=true)(B5:cc (rv gg)=true) (Hd:cc (bZ gg.bs Sc id++bC gg.rs (id+128))=true) (Sd:Good Z' eu (kQ gg y).get w' w.heap.size (Own oc (qM gg x))) {v:Value} (ahS:az Z' eu (kQ gg y).get w' (fg (aU gg.rs (aP gg.bs.length) 2000 3000 y.1)) v) :
  ∃L2:List zz,dM L2=bE gg.bs Sc id y.2++aq gg.rs (id+128) y.1∧L2.map (·.1)=bZ gg.bs Sc id++bC gg.rs (id+128) ∧ Good Z' (eX eu L2) (dM L2).get w' w.heap.size (Own oc (qM gg x))∧(∀p∈(aP gg.bs.length).zip Sc,eX eu L2 p.2=eu p.1) ∧ az Z' (eX eu L2) (dM L2).get w' (fg (aU gg.rs Sc id (id+128) y.1)) v:=by
 have hle:(aP gg.bs.length).length=gg.bs.length:=by simp[aP]
 have hn2:cc ((kQ gg y).map (·.1))=true:=by unfold kQ;rw[List.map_append,my _ _ _ _ hle,fR];exact B5
 have Wo:∀e∈bE gg.bs (aP gg.bs.length) 2000 y.2,(kQ gg y).get e.1=some e.2:=fun e he=>yi hn2 (by unfold kQ;exact abO _ he);have hgr:∀e∈aq gg.rs 3000 y.1,(kQ gg y).get e.1=some e.2:=fun e he=>yi hn2 (by unfold kQ;exact abN _ he);have Eo:=zG gg.bs _ 2000 y.2 hle Wo;have hd2:=mw (xb:=y.2) hle Wo gg.rs (aP gg.bs.length) 3000 y.1 hrs hgr
 let vsC:=aU gg.rs (aP gg.bs.length) 2000 3000 y.1
 let L2:List zz:=cw gg.bs (kQ gg y) (aP gg.bs.length) Sc id y.2++cG gg.rs vsC (id+128) y.1
 have eH:dM L2=bE gg.bs Sc id y.2++aq gg.rs (id+128) y.1:=by show dM (_++_)=_;rw[nt,jB _ _ _ _ _ _ Eo hl,gK]
 have eN:L2.map (·.1)=bZ gg.bs Sc id++bC gg.rs (id+128):=by show(_++_:List zz).map _=_;rw[List.map_append,hY _ _ _ _ _ _ Eo hl,fQ]
 have eS:L2.filterMap (·.2.1)=rv gg:=by show(_++_:List zz).filterMap _=_;rw[List.filterMap_append,kN _ _ _ _ _ _ Eo hl,jl _ _ _ _ hd2,zJ _ _ 2000 y.2 hle Wo,kR];rfl
 have hn:cc (L2.map (·.1))=true:=by rw[eN];exact Hd
 have jV:=AO (ψ:=eu) hn;have g3:Good Z' (eX eu L2) (dM L2).get w' w.heap.size (Own oc (qM gg x)):=by
  refine Sd.rename hn (by rw[eS];exact B5) fun e he=>?_;rcases abU.1 he with he|he
  ·exact mr Sd (fun _ h=>h) gg.bs _ _ id y.2 Eo (fun i b bL _ _=>(B4 gg.bs _ 2000 y.2 i Wo bL).elim) (fun s _=>rfl) (fun e he=>jV e (abO _ he)) e he
  ·exact kd gg.rs vsC (id+128) y.1 hd2 (fun s _=>rfl) e he
 refine⟨L2,eH,eN,g3,fun p hp=>?_,?_⟩
 ·obtain⟨o,ho⟩:=kO (hh:=kQ gg y) gg.bs (aP gg.bs.length) Sc id y.2 hle p hp;exact jk hn (abO _ ho)
 ·refine vd (by rw[nT,nT]) (fun vs sS=>?_) ahS;exact td (nb:=id) (is':=Sc) Sd (fun _ h=>h) Eo hl (fun e he=>jV e (abO _ he)) gg.rs vsC (id+128) y.1 vs hd2 (fun i b bL _ _=>(mz gg.rs _ _ _ y.1 i bL).elim) (fun e he=>jV e (abN _ he)) sS
theorem PJ{hh:Heap}{lr:List AV}{kept:List Nat}{te:Hp}{oc Se:Nat→Value}{H2:Heap}(g:Good Z ψ hh.get w B0 O)(hB:B0≤w.heap.size)(Iz:∀s∈kept,(cM hh lr).get s=hh.get s) (bm:∀i ty cs,hh.get i=some (.box ty cs)→aA (fun i=>¬N i) cs) (q8:∀b,Own oc te b→∃s,s∈kept∧hh.get s≠none∧ob (ψ s)=some b) (hz:∀b,rk Z ψ hh.get lr b→Z' b) (Bw:∀b,Z' b→rk Z ψ hh.get lr b∨Own oc te b∨w.heap.size≤b) (keep:cO oc te w w') (g3:Good Z' Se H2.get w' w.heap.size (Own oc te)) (W0:∀i ty cs,H2.get i=some (.box ty cs)→aA (fun j=>H2.get j≠none) cs) (xS:∀i,H2.get i≠none→(i∈kept∧hh.get i≠none∧Se i=ψ i)∨N i) :
  ∃B6,(∀i,H2.get i≠none→B6 i=Se i)∧Next Z ψ hh.get w B0 O N Z' B6 (H2++hM (cM hh lr) kept).get w':=by
 classical
 let B6:Nat→Value:=fun i=>if H2.get i≠none then Se i else ψ i
 have h4:∀i,H2.get i≠none→B6 i=Se i:=fun i hi=>if_pos hi;have hg:∀i,(H2++hM (cM hh lr) kept).get i=(match H2.get i with|some o=>some o|none=>if i∈kept then none else(cM hh lr).get i):=fun i=>by grind [Heap.get_append,oI]
 have BH:∀i,H2.get i≠none→(H2++hM (cM hh lr) kept).get i=H2.get i:=fun i hi=>by
  grind
 have FD:∀i,H2.get i=none→(H2++hM (cM hh lr) kept).get i≠none→i∉kept∧(H2++hM (cM hh lr) kept).get i=hh.get i∧(cM hh lr).get i=hh.get i∧B6 i=ψ i∧hh.get i≠none:=fun i hi bw=>by
  rw[hg,hi]at bw ⊢;simp only at bw ⊢;by_cases hk:i∈kept
  ·simp_all
  ·rw[if_neg hk]at bw ⊢;obtain⟨o,ho⟩:=abQ.1 bw;have:=dW _ _ _ _ ho
   grind
 have acI:∀i b,i∉kept→hh.get i≠none→ob (ψ i)=some b→¬Own oc te b:=fun i b hk hi hb ho=>by obtain⟨s,h1,h2,h3⟩:=q8 b ho;exact hk ((g.apart i s b hi h2 hb h3)▸h1)
 have gd:Good (rk Z ψ hh.get lr) ψ (cM hh lr).get w B0 O:=iU g lr;have acJ:∀b,rk Z ψ hh.get lr b→¬Own oc te b:=fun b hb ho=>by obtain⟨s,h1,h2,h3⟩:=q8 b ho;exact(gd.live s b (by simp_all) h3).1 hb
 have sm:cm (rk Z ψ hh.get lr) w w':=fun b hb=>keep.block b (gd.j7 b hb) (acJ b hb);have acK:∀i,(H2++hM (cM hh lr) kept).get i≠none→(hh.get i≠none∧B6 i=ψ i)∨N i:=fun i hi=>by
  grind
 have kk:cO ψ hh.get w w':=⟨keep.os,keep.tape,keep.output,keep.size,fun b hb uY=>keep.block b hb fun ho=>by obtain⟨s,_,h2,h3⟩:=q8 b ho;exact uY ⟨s,h2,h3⟩⟩;refine⟨B6,h4,fun b hb=>hz b (.inl hb),fun b hb=>?_,kk,acK,⟨fun i ty cs hb=>?_,fun i ok xs hb=>?_,fun i b h1 h2=>?_,fun i i' b h1 h2 h3 h5=>?_,g3.j7⟩⟩
 ·rcases Bw b hb with h1|h1|h1
  ·exact(h1.imp (fun h=>h) fun⟨i,_,h2,h3⟩=>.inl ⟨i,h2,h3⟩)
  ·obtain⟨s,_,h2,h3⟩:=q8 b h1;exact .inr (.inl ⟨s,h2,h3⟩)
  omega
 ·by_cases h2:H2.get i=none
  ·obtain⟨h3,h5,h6,h7,h8⟩:=FD i h2 (by rw[hb];simp);rw[h5]at hb;obtain⟨gg,vs,e1,e2,e3,e4⟩:=gd.box i ty cs (by simp_all);have aK:=(abP.1 e2).1;refine⟨gg,vs,by rw[h7,e1],?_,?_,e4⟩
   ·rw[keep.block gg aK (acI i gg h3 h8 (by rw[e1];rfl))];exact e2
   ·refine e3.move (p:=fun i=>¬N i) hz sm (fun j hp hj=>?_) (bm i ty cs hb)
    grind
  ·rw[BH i h2]at hb;obtain⟨gg,vs,e1,e2,e3,e4⟩:=g3.box i ty cs hb;exact⟨gg,vs,by simp_all,e2,e3.move (p:=fun j=>H2.get j≠none) (fun _ h=>h) (cm.refl _ _) (fun j hp _=>⟨hp,h4 j hp⟩) (W0 i ty cs hb),e4⟩
 ·by_cases h2:H2.get i=none
  ·obtain⟨h3,h5,h6,h7,h8⟩:=FD i h2 (by rw[hb];simp);rw[h5]at hb;rw[h7];exact(gd.row i ok xs (by simp_all)).kept hz sm fun gg Pe=>keep.block gg (g.bO ⟨i,h8,Pe⟩) (acI i gg h3 h8 Pe)
  ·rw[BH i h2]at hb;rw[h4 i h2];exact g3.row i ok xs hb
 ·by_cases h3:H2.get i=none
  ·obtain⟨h5,h6,h7,h8,h9⟩:=FD i h3 h1;rw[h8]at h2;obtain⟨pI,El⟩:=gd.live i b (by simp_all) h2;refine⟨fun hzb=>?_,El⟩;rcases Bw b hzb with R5|R5|R5
   ·exact pI R5
   ·grind
   ·have:=g.bO ⟨i,h9,h2⟩;omega
  ·rw[h4 i h3]at h2;obtain⟨h5,h6⟩:=g3.live i b h3 h2;refine⟨h5,?_⟩;rcases h6 with h6|h6
   ·omega
   ·obtain⟨s,_,h7,h8⟩:=q8 b h6;exact(g.live s b h7 h8).2
 ·have Fm:∀i i',H2.get i=none→H2.get i'≠none→(H2++hM (cM hh lr) kept).get i≠none→ob (B6 i)=some b→ob (B6 i')=some b→False:=fun i i' e1 e2 e3 e4 e5=>by
   obtain⟨h6,_,_,h8,h9⟩:=FD i e1 e3;rw[h8]at e4;rw[h4 i' e2]at e5;rcases (g3.live i' b e2 e5).2 with pI|pI
   ·have:=g.bO ⟨i,h9,e4⟩;omega
   grind
  by_cases e1:H2.get i=none<;>by_cases e2:H2.get i'=none
  ·obtain⟨_,_,_,h8,h9⟩:=FD i e1 h1;obtain⟨_,_,_,h8',h9'⟩:=FD i' e2 h2;rw[h8]at h3;rw[h8']at h5;exact g.apart i i' b h9 h9' h3 h5
  ·grind
  ·grind
  ·rw[h4 i e1]at h3;rw[h4 i' e2]at h5;exact g3.apart i i' b e1 e2 h3 h5
theorem AS{i:Nat}{o:Ob}:∀{hh:Heap},(i,o)∈hh→hh.get i≠none
 |[],h=>by cases h
 |(j,o')::r,h=>by
  simp only[Heap.get]
  split
  ·simp
  ·rename_i hn;rcases abM.1 h with e|h
   ·simp_all
   ·exact AS h
theorem get_mem{i:Nat}{o:Ob}:∀{hh:Heap},hh.get i=some o→(i,o)∈hh
 |[],h=>by simp[Heap.get]at h
 |(j,o')::r,h=>by
  simp only[Heap.get]at h
  split at h
  ·rename_i e;subst e;cases h;exact abT
  ·exact abq _ (get_mem h)
theorem qe{p:Nat→Prop}:∀{a b:List AV},aA p a→aA p b→aA p (a++b)
 |[],b,_,h=>h
 |x::r,b,h,h'=>by simp only[List.cons_append,aA]at h ⊢;exact⟨h.1,qe h.2 h'⟩
theorem kH{p:Nat→Prop}:∀(dH:List CK) (n:Nat) (x:rm dH),(∀e∈aX dH n x,p e.1)→aA p (aE dH n x)
 |[],n,x,_=>by simp only[aE,aA]
 |.val k::r,n,x,h=>by simp only[aE];exact qe (mu p k x.1) (kH r (n+1) x.2 h)
 |.own ok::r,n,x,h=>by simp only[aX]at h;simp only[aE,aA,aI];exact⟨h _ abT,kH r (n+1) x.2 fun e he=>h e (abq _ he)⟩
theorem nC:∀(dH:List CK) (n:Nat) (x:rm dH) (i:Nat) (ty:TypeId) (cs:List AV),(i,Ob.box ty cs)∉aX dH n x
 |[],_,_,_,_,_=>by simp[aX]
 |.val k::r,n,x,i,ty,cs=>nC r (n+1) x.2 i ty cs
 |.own _::r,n,x,i,ty,cs=>by simp_all [aX,List.mem_cons,not_or,nC]
theorem ux{p:Nat→Prop}:∀(bs:List BK) (is:List Nat) (n:Nat) (x:zj bs),(∀e∈bE bs is n x,p e.1)→∀i ty cs,(i,Ob.box ty cs)∈bE bs is n x→aA p cs
 |[],is,n,x,_,i,ty,cs,h=>by cases is<;>simp[bE]at h
 |b::r,[],n,x,_,i,ty,cs,h=>by simp[bE]at h
 |b::r,i0::is,n,x,hp,i,ty,cs,h=>by
  simp only[bE]at h hp;rcases abU.1 h with h|h
  ·cases b with
   |box ty0 c0 =>
    simp only[j0]at h hp;rcases abM.1 h with e|h
    ·cases e
     exact kH c0 n x.1 fun e he=>hp e (abO _ (abq _ he))
    ·exact absurd h (nC _ _ _ _ _ _)
   |own ok=>simp[j0]at h
  ·exact ux r is (n+16) x.2 (fun e he=>hp e (abN _ he)) i ty cs h
theorem nD:∀(dH:List CK) (n i:Nat),i∈cr dH n→n≤i∧i<n+dH.length
 |[],n,i,h=>by simp[cr]at h
 |.val k::r,n,i,h=>by
  have:=nD r (n+1) i (by grind [cr])
  grind
 |.own ok::r,n,i,h=>by
  simp only[cr]at h;simp only[List.length_cons];rcases abM.1 h with rfl|h
  ·omega
  ·have:=nD r (n+1) i h;omega
theorem wi:∀(bs:List BK) (is:List Nat) (n i:Nat),(bs.all fun b=>decide (b.dH.length≤16))=true→i∈bZ bs is n→i∈is∨(n≤i∧i<n+16*bs.length)
 |[],is,n,i,_,h=>by grind [bZ]
 |b::r,[],n,i,_,h=>by simp[bZ]at h
 |b::r,i0::is,n,i,hc,h=>by
  simp only[List.all_cons,Bool.and_eq_true,decide_eq_true_eq]at hc;simp only[bZ]at h;simp only[List.length_cons];rcases abM.1 h with rfl|h
  ·simp_all
  ·rcases abU.1 h with h|h
   ·have:=nD _ _ _ h;omega
   ·rcases wi r is (n+16) i hc.2 h with h1|h1
    ·simp_all
    omega
theorem jE{bs:List BK}:∀(rs:List RK) (m i:Nat),ry bs rs=true→i∈bC rs m→m≤i∧i<m+rs.length+16
 |[],m,i,_,h=>by simp[bC]at h
 |.own ok::r,m,i,hk,h=>by
  simp only[ry,List.all_cons,Bool.and_eq_true]at hk;simp only[bC]at h;simp only[List.length_cons];rcases abM.1 h with rfl|h
  ·omega
  ·have:=jE r (m+1) i hk.2 h;omega
 |.val _::r,m,i,hk,h=>by
  simp only[ry,List.all_cons,Bool.and_eq_true]at hk;have:=jE r (m+1) i hk.2 (by grind [bC])
  grind
 |.eV _ _::r,m,i,hk,h=>by
  simp only[ry,List.all_cons,Bool.and_eq_true]at hk;have:=jE r (m+1) i hk.2 (by grind [bC])
  grind
 |.agg c::r,m,i,hk,h=>by
  simp only[ry,List.all_cons,Bool.and_eq_true,Ek,decide_eq_true_eq]at hk;simp only[bC]at h;simp only[List.length_cons];rcases abU.1 h with h|h
  ·have:=nD c m i h;omega
  ·have:=jE r (m+1) i hk.2 h;omega
theorem zK{hh:Heap}:∀(bs:List BK) (is:List Nat) (i:Nat),is.length=bs.length→i∈is→i∈c8 bs hh is
 |[],is,i,hl,h=>by cases is with
  |nil=>cases h
  |cons a r=>simp at hl
 |b::r,[],i,_,h=>by cases h
 |b::r,i0::is,i,hl,h=>by
  simp only[c8];rcases abM.1 h with rfl|h
  ·refine abO _ ?_
   cases b<;>simp[ni]
  ·exact abN _ (zK r is i (by simpa using hl) h)
theorem Sf{α β:Type}:∀{a:List α} {b:List β},a.length=b.length→∀x∈a,∃y,(x,y)∈a.zip b∧(y,x)∈b.zip a
 |[],b,_,x,h=>by cases h
 |a::r,[],hl,x,_=>by simp at hl
 |a::r,c::q,hl,x,h=>by
  simp only[List.zip_cons_cons];rcases abM.1 h with rfl|h
  ·simp_all
  ·obtain⟨y,h1,h2⟩:=Sf (a:=r) (b:=q) (by simpa using hl) x h
   grind
theorem vg:∀(dH:List CK) (n c:Nat),gi dH c=true→n+c∈cr dH n
 |[],n,c,h=>by simp[gi]at h
 |.own _::r,n,0,_=>by simp[cr]
 |.own _::r,n,c+1,h=>by
  simp only[gi]at h;have:=vg r (n+1) c h
  grind [cr,List.mem_cons_of_mem]
 |.val _::r,n,0,h=>by simp[gi]at h
 |.val _::r,n,c+1,h=>by
  simp only[gi]at h;have:=vg r (n+1) c h
  grind [cr]
theorem zL:∀(bs:List BK) (is:List Nat) (n b i:Nat) (bk:BK),is.length=bs.length→bs[b]? = some bk→i∈cr bk.dH (n+16*b)→i∈bZ bs is n
 |[],_,_,b,_,_,_,h,_=>by simp at h
 |_::_,[],_,_,_,_,hl,_,_=>by simp at hl
 |b0::r,i0::is,n,0,i,bk,hl,hb,hi=>by simp only[List.getElem?_cons_zero,Option.some.injEq]at hb;subst hb;simp only[bZ];exact abq _ (abO _ (by simpa using hi))
 |b0::r,i0::is,n,b+1,i,bk,hl,hb,hi=>by
  simp only[List.getElem?_cons_succ]at hb;simp only[bZ];refine abq _ (abN _ (zL r is (n+16) b i bk (by simpa using hl) hb ?_))
  rwa [show n+16+16*b=n+16*(b+1) by omega]
theorem kS{p:Nat→Prop}{bs:List BK}{is:List Nat}(hl:is.length=bs.length):∀(rs:List RK) (ids:List Nat) (n m:Nat) (y:mb rs),ry bs rs=true→(∀i∈bC rs m,p i)→(∀i∈bZ bs is n,p i)→aA p (aU rs ids n m y)
 |[],_,_,_,_,_,_,_=>by simp only[aU,aA]
 |.val k::r,ids,n,m,y,hr,h1,h2=>by simp only[ry,List.all_cons,Bool.and_eq_true,Ek]at hr;simp only[aU,aA];exact⟨oH p k y.1,kS hl r ids n (m+1) y.2 hr.2 (fun i hi=>h1 i hi) h2⟩
 |.own _::r,ids,n,m,y,hr,h1,h2=>by simp only[ry,List.all_cons,Bool.and_eq_true,Ek]at hr;simp only[aU,aA,aI];exact⟨h1 m (by simp[bC]),kS hl r ids n (m+1) y.2 hr.2 (fun i hi=>h1 i (by grind [bC,List.mem_cons_of_mem])) h2⟩
 |.eV b alts::r,ids,n,m,y,hr,h1,h2=>by
  simp only[ry,List.all_cons,Bool.and_eq_true,Ek]at hr;simp only[aU,aA];refine⟨?_,kS hl r ids n (m+1) y.2 hr.2 (fun i hi=>h1 i hi) h2⟩
  cases hy:y.1 with
  |none=>simp only[vL,aI]
  |some p =>
   obtain⟨al,i⟩:=p;simp only[vL,aI]
   cases hb:bs[b]? with
   |none=>simp_all
   |some bk =>
    rw[hb]at hr;simp only[Bool.and_eq_true]at hr
    grind [zL,vg,List.all_eq_true,List.get_mem]
 |.agg c::r,ids,n,m,y,hr,h1,h2=>by
  simp only[ry,List.all_cons,Bool.and_eq_true,Ek]at hr;simp only[aU,aA,aI];refine⟨kH c m y.1 fun e he=>h1 _ ?_,kS hl r ids n (m+1) y.2 hr.2 (fun i hi=>h1 i (by grind [bC,List.mem_append_right])) h2⟩;simp only[bC];have e1:(aX c m y.1).map (·.1)=cr c m:=ia c m y.1
  grind
theorem LS{p:Nat→Prop}{vs:List AV}(h:aA p vs):aI p (fg vs):=by
 match vs,h with
 |[],h=>grind [fg,aI]
 |[v],h=>grind [fg,aA]
 |_::_::_,h=>grind [fg,aI]
def gY(P:Program)(f:FuncId)(u:Heap→Nat→List AV→Option (Bool×bD)):Prop :=∀{Z:Nat→Prop} {ψ:Nat→Value} {h:Hp} {w:World} {B0:Nat} {O N:Nat→Prop} {hh:Heap} {id:Nat} {e:bD} {vs:List AV} {us:List Value},Good Z ψ h w B0 O→B0≤w.heap.size→(∀id o,hh.get id=some o→h id=some o)→(∀j,j<256→N (id+j))→(∀i ty cs,h i=some (.box ty cs)→aA (fun i=>¬N i) cs)→(∀v hw,e=.wr v hw→hh.get=h) → ar Z ψ h w vs us→aA (fun i=>¬N i) vs→u hh id vs=some (true,e) → Calls P f us.toArray w fun en w'=>∃V Z' ψ',en=.returned V∧Next Z ψ h w B0 O N Z' ψ' (e.hp h) w'∧az Z' ψ' (e.hp h) w' e.v V
theorem W9{R:Type}{n:Nat}(a:Fin n)(f:Fin n→Option R):ack n a f=f a:=by
 have key:∀l:List (Fin n),a∈l→l.foldr (fun j r=>cond (a.val==j.val) (f j) r) none=f a:=by
  intro l
  induction l with
  |nil=>simp_all
  |cons j r ih =>
   grind
 exact key _ (List.mem_finRange a)
theorem ke{R:Type}:∀(rs:List RK) (x:mb rs) (K:mb rs→Option R),j5 rs x K=K x
 |[],_,_=>rfl
 |.val _::r,x,K=>by simp only[j5];rw[ke r x.2];rfl
 |.own _::r,x,K=>by simp only[j5];rw[ke r x.2];rfl
 |.agg _::r,x,K=>by simp only[j5];rw[ke r x.2];rfl
 |.eV _ alts::r,x,K=>by
  simp only[j5];obtain⟨x1,x2⟩:=x
  cases x1 with
  |none=>simp only[rz];rw[ke r x2]
  |some p=>simp only[rz];rw[W9,ke r x2]
theorem LU(hX:∀f g u,Sg f=some g→g.x=some u→gY P (f%1000) u)(hF:∀f g x y,Sg f=some g→F f g x=some y→FC P f g x y)(PL:∀f g,Sg f=some g→jD P (f%1000)) {hh:Heap} {ρC:Operand→Value} {o:Oper} (g:Good Z ψ h w B0 O) (hB:B0≤w.heap.size) (bz:∀id o,hh.get id=some o→h id=some o) {id:Nat} (hN:∀j,j<256→N (id+j)) {e:bD} (bm:∀i ty cs,h i=some (.box ty cs)→aA (fun i=>¬N i) cs) (mX:∀v hw,e=.wr v hw→hh.get=h) {f:FuncId} {cap vs:List AV} {fv:Value} {us:List Value} (YL:az Z ψ h w (.fn f cap) fv) (sS:ar Z ψ h w vs us) (BR:aA (fun i=>¬N i) (vs++cap)) (hex:∀(ws:Array Value),fv=.func (.func f) #[] ws→execOp ρC o=callFunc f (us.toArray++ws)) (he:jy Sg F hh id f (vs++cap) some=some e):YJ P ρC o Z ψ h w B0 O N e:=by
 unfold jy at he
 split at he
 ·cases he
 rename_i gg hSg;simp only[az]at YL;obtain⟨ws,rfl,Sh⟩:=YL;have FE:=PL _ _ hSg;have ji:ar Z ψ h w (vs++cap) (us++ws.toList):=ar.append sS Sh;have He:ar Z ψ hh.get w (vs++cap) (us++ws.toList):=ji.nQ bz;have gs:Good Z ψ hh.get w B0 O:=g.sub bz;have Si:us.toArray++ws=(us++ws.toList).toArray:=by simp
 split at he
 ·rename_i u hu
  split at he
  ·rename_i hf;obtain⟨⟨b,e'⟩,he1,Wh⟩:=ab6.1 he
   cases b with
   |false=>cases Wh
   |true =>
   cases Wh
   have Ja:keyOf Sg hh f (vs++cap)%1000=f:=by rw[ye];exact Nat.mod_eq_of_lt hf
   have hx:gY P f u:=by rw[←Ja];exact hX _ _ _ hSg hu
   rw[Ja]at FE;refine⟨f,us.toArray++ws,by rw[hex ws rfl];exact lL FE _,?_⟩;rw[Si];exact hx g hB bz hN bm mX ji BR he1
  ·cases he
 split at he
 ·rename_i i0 xS Hf
  split at he
  ·rename_i PM;simp only[Bool.and_eq_true,List.isEmpty_iff]at PM;obtain⟨rfl,_⟩:=PM
   split at he
   rotate_left
   ·cases he
   rename_i x b hx hb pU;obtain⟨y,hy,he⟩:=ab6.1 he;simp only[RI,Bool.and_eq_true,decide_eq_true_eq]at Hf;obtain⟨_,_,⟨hlen,hf⟩,_⟩:=Hf;have Eu:=(hF _ _ _ _ hSg hy).zero (I8 hb);have Ja:keyOf Sg hh f (vs++cap)%1000=f:=by rw[ye];exact Nat.mod_eq_of_lt hf
   rw[Ja]at FE;have hN':∀j,j<gg.rs.length+16→N (id+128+j):=fun j hj=>by rw[Nat.add_assoc];exact hN _ (by omega)
   refine⟨f,us.toArray++ws,by rw[hex ws rfl];exact lL FE _,?_⟩;rw[Si];unfold acB at Eu;rw[Ja]at Eu;by_cases uY:uQ (vs++cap)=true
   ·rw[uY,Bool.or_true]at he
    cases he
    have h1:ar Z Lq gE w (Fz gg x) (us++ws.toList):=BX gs (fun _ h=>h) gg.ps 0 _ _ x (fun v hv i b hi _ _=>(rK uY v hv i hi).elim) xS hx He;refine(Eu Z w _ g.j7 h1).mono fun en w' ⟨v,Z',ψ',e1,h2,h3,h4,h5,h6⟩=>?_;obtain⟨wh,n,hr⟩:=yf (nb:=id) pU g hB bm hN' h4 h2 h3 h5 h6;exact⟨v,Z',wh,e1,n,hr⟩
   ·cases hfl:gg.rs.all RK.flat with
    |true =>
     rw[hfl,Bool.true_or]at he
     cases he
     let Zc:Nat→Prop:=fun b=>b<w.heap.size
     have h1:ar Zc Lq gE w (Fz gg x) (us++ws.toList):=BX gs g.j7 gg.ps 0 _ _ x (fun v hv i b hi h1 h2=>gs.bO ⟨i,h1,h2⟩) xS hx He;refine(Eu Zc w _ (fun _ h=>h) h1).mono fun en w' ⟨v,Z',ψ',e1,h2,h3,h4,h5,h6⟩=>?_;have h7:az Z ψ' (aq gg.rs 3000 y.1).get w' (fg (aU gg.rs [] 2000 3000 y.1)) v:=vd rfl (fun vs sS=>Sa gg.rs hfl pU sS) h6;have gz:Good Z ψ' (aq gg.rs 3000 y.1).get w' w.heap.size (fun _=>False):=by
      refine⟨fun i ty cs hb=>absurd hb (tc _ _ _ _ _ _ pU),fun i ok x hb=>?_,fun i b h1 h8=>?_,h5.apart,fun b hb=>aca (g.j7 b hb) h4.size⟩
      ·obtain⟨ty,k,hk,rfl⟩:=yd _ _ _ _ _ x hfl pU hb;obtain⟨vs,h9,pI⟩:=h5.row i _ x hb;exact⟨vs,h9,fun j z hz=>(pI j z hz).flat hk⟩
      ·obtain⟨h9,pI⟩:=h5.live i b h1 h8;exact⟨fun hz=>h9 (h2 b (g.j7 b hz)),pI⟩
     obtain⟨wh,n,hr⟩:=yf (nb:=id) pU g hB bm hN' h4 (fun _ h=>h) (fun _ h=>.inl h) gz h7;exact⟨v,Z,wh,e1,n,hr⟩
    |false =>
     rw[hfl,Bool.false_or,Bool.eq_false_iff.2 uY]at he
     cases he
     have heq:=mX _ _ rfl;subst heq
     let cs:=dm gg.ps (vs++cap)
     have hz0:∀b,rk Z ψ hh.get cs b→Z b∨Own ψ hh.get b:=fun b hb=>hb.imp (fun h=>h) (fun⟨i,_,h2,h3⟩=>⟨i,h2,h3⟩);have gd:Good (rk Z ψ hh.get cs) ψ (cM hh cs).get w B0 O:=iU g cs;have h1:ar (rk Z ψ hh.get cs) Lq gE w (Fz gg x) (us++ws.toList) :=BX gs (fun _ h=>.inl h) gg.ps 0 _ _ x (fun v hv i b hi h1 h2=>.inr ⟨i,wg _ _ xS v hv i hi,h1,h2⟩) xS hx He;refine(Eu _ w _ gd.j7 h1).mono fun en w' ⟨v,Z',ψ',e1,h2,h3,h4,h5,h6⟩=>?_;obtain⟨wh,n,hr⟩:=yf (nb:=id) pU gd hB (fun i ty cs hb=>bm i ty cs (dW _ _ _ _ hb)) hN' h4 h2 h3 h5 h6;have e2:(bD.wr (fg (aU gg.rs [] id (id+128) y.1)) (aq gg.rs (id+128) y.1++cM hh (dm gg.ps (vs++cap)))).hp hh.get=(fun i=>match (aq gg.rs (id+128) y.1).get i with|some o=>some o|none=>(cM hh cs).get i):=by
      funext i;simp only[bD.hp];rw[Heap.get_append]
      cases (aq gg.rs (id+128) y.1).get i<;>rfl
     rw[e2];exact⟨v,Z',wh,e1,n.drop (fun _ h=>.inl h) hz0 (dW _ _),hr⟩
  ·split at he
   rotate_left
   ·cases he
   rename_i x b hx hb Ev;obtain⟨y,hy,he⟩:=ab6.1 he;rw[ke]at he
   cases he
   have heq:=mX _ _ rfl;subst heq;simp only[RI,Bool.and_eq_true,decide_eq_true_eq]at Hf;obtain⟨hrs,⟨hbl,uW⟩,⟨hlen,hf⟩,B5⟩:=Hf;rw[Bool.and_eq_true]at Ev;have Eu:=hF _ _ _ _ hSg hy;have Ja:keyOf Sg hh f (vs++cap)%1000=f:=by rw[ye];exact Nat.mod_eq_of_lt hf
   rw[Ja]at FE;refine⟨f,us.toArray++ws,by rw[hex ws rfl];exact lL FE _,?_⟩;rw[Si];unfold FC at Eu;rw[Ja]at Eu;have hl:i0.length=gg.bs.length:=(jC _ _ _ hb).1;have FF:=(jC _ _ _ hb).2;have hle:(aP gg.bs.length).length=gg.bs.length:=by simp[aP]
   let lr:=dm gg.ps (vs++cap)++gq gg.bs hh i0
   let L1:List zz:=cw gg.bs hh i0 (aP gg.bs.length) 2000 b
   have eH1:dM L1=bE gg.bs (aP gg.bs.length) 2000 b:=jB _ _ _ _ _ _ hb hle;have eN1:L1.map (·.1)=bZ gg.bs (aP gg.bs.length) 2000:=hY _ _ _ _ _ _ hb hle;have eS1:L1.filterMap (·.2.1)=c8 gg.bs hh i0:=kN _ _ _ _ _ _ hb hle;have hn1:cc (L1.map (·.1))=true:=by rw[eN1];exact I9 B5
   have acA:=AO (ψ:=ψ) hn1;have Iz:=(ta Ev.1).2 hh;have zt:∀b,Z b→rk Z ψ hh.get lr b:=fun b hb=>.inl hb;have acN:∀e∈L1,we (rk Z ψ hh.get lr) ψ (cM hh lr).get w (dM L1).get (eX ψ L1) e:=fun e he =>mr gs zt gg.bs _ _ 2000 b hb (fun i b bL h1 h2=>.inr ⟨i,abN _ bL,h1,h2⟩) Iz acA e he;have gin:Good (rk Z ψ hh.get lr) (eX ψ L1) (dM L1).get w B0 O:=yc gs Ev.1 hn1 eS1 acN;have ein:(dM L1).get=qM gg (x,b):=by rw[eH1];rfl
   have aan:∀p∈i0.zip (aP gg.bs.length),(p.2,some p.1)∈L1.map (fun e=>(e.1,e.2.1)):=fun p hp=>by obtain⟨o,ho⟩:=kO (hh:=hh) gg.bs i0 (aP gg.bs.length) 2000 b hl p hp;exact abW.2 ⟨_,ho,rfl⟩
   have acO:∀p∈i0.zip (aP gg.bs.length),eX ψ L1 p.2=ψ p.1:=fun p hp=>by
    obtain⟨⟨i,s,o⟩,ho,he⟩:=abW.1 (aan p hp)
    cases he
    exact jk hn1 ho
   have aao:ar (rk Z ψ hh.get lr) (eX ψ L1) (dM L1).get w (G8 gg (x,b)) (us++ws.toList) :=lV gs zt gg.ps i0 (aP gg.bs.length) 0 _ _ x (by rw[hle,hl]) xS hx (fun i b bL h1 h2=>.inr ⟨i,abO _ bL,h1,h2⟩) (fun p hp=>⟨FF _ (List.of_mem_zip hp).1,fun _=>acO p hp⟩) He;have q8:∀c,Own (eX ψ L1) (qM gg (x,b)) c→∃s,s∈c8 gg.bs hh i0∧hh.get s≠none∧ob (ψ s)=some c:=fun c ⟨i,h1,h2⟩=>by
    rw[←ein]at h1;obtain⟨o,ho⟩:=abQ.1 h1;obtain⟨s,hm⟩:=oG ho;rw[jk hn1 hm]at h2
    cases s with
    |none=>simp[kb,ob]at h2
    |some s =>
     have hs:s∈c8 gg.bs hh i0:=by rw[←eS1];exact aef.2 ⟨_,hm,rfl⟩
     refine⟨s,hs,?_,h2⟩;have h3:=acN _ hm;rw[←Iz s hs]
     cases o with
     |box ty cs=>obtain⟨⟨cs0,h4⟩,_⟩:=h3;rw[h4];simp
     |own ok xs=>rw[show(cM hh lr).get s=some (.own ok xs) from h3];simp
   refine(Eu (rk Z ψ hh.get lr) (eX ψ L1) w (us++ws.toList) (by rw[←ein];exact gin.Hc _) (by rw[←ein];exact aao)).mono fun en w' ⟨v,Z',eu,e1,h2,h3,h4,h5,h6,h7⟩=>?_;obtain⟨L2,eH2,eN2,g3,hzz,aap⟩:=PI (x:=(x,b)) (y:=y) (id:=id) hl hrs B5 Ev.2 h5 h7;have W0:∀i ty cs,(dM L2).get i=some (.box ty cs)→aA (fun j=>(dM L2).get j≠none) cs:=fun i ty cs hg=>by
    have iW:=get_mem hg;rw[eH2]at iW;rcases abU.1 iW with iW|iW
    ·exact ux gg.bs _ id y.2 (fun e he=>by rw[eH2];exact AS (o:=e.2) (abO _ he)) i ty cs iW
    ·exfalso;have:∀(rs:List RK) (m:Nat) (y:mb rs),(i,Ob.box ty cs)∉aq rs m y:=by
      intro rs
      induction rs with
      |nil=>intro m y;simp[aq]
      |cons r rs ih =>
       intro m y
       cases r with
       |agg c=>simp only[aq,List.mem_append,not_or];exact⟨nC _ _ _ _ _ _,ih (m+1) y.2⟩
       |val k=>exact ih (m+1) y.2
       |eV _ _=>exact ih (m+1) y.2
       |own ok=>simp only[aq,List.mem_cons,not_or];exact⟨by simp,ih (m+1) y.2⟩
     exact this _ _ _ iW
   have acQ:∀i,(dM L2).get i≠none→(i∈c8 gg.bs hh i0∧hh.get i≠none∧eX eu L2 i=ψ i)∨N i:=fun i hi=>by
    obtain⟨o,ho⟩:=abQ.1 hi;obtain⟨s,hm⟩:=oG ho;have iW:i∈bZ gg.bs i0 id++bC gg.rs (id+128):=by rw[←eN2];exact abW.2 ⟨_,hm,rfl⟩
    have hNr:∀i,id≤i→i<id+256→N i:=fun i h1 h2=>by
     have:=hN (i-id) (by omega)
     rwa [show id+(i-id)=i by omega]at this
    rcases abU.1 iW with iW|iW
    ·rcases wi _ _ _ _ uW iW with h8|h8
     ·refine .inl ⟨zK _ _ _ hl h8,FF i h8,?_⟩;obtain⟨ee,h9,pI⟩:=Sf (by rw[hle,hl]) i h8;rw[hzz (ee,i) pI];have El:ee∈aP gg.bs.length:=(List.of_mem_zip pI).1;rw[h6 ee El];exact acO (i,ee) h9
     ·exact .inr (hNr i h8.1 (by omega))
    ·have h8:=jE _ _ _ hrs iW;exact .inr (hNr i (by omega) (by omega))
   obtain⟨B6,h8,nx⟩:=PJ (N:=N) gs hB Iz bm q8 h2 h3 h4 g3 W0 acQ;have eH3:(bD.wr (fg (aU gg.rs i0 id (id+128) y.1)) (bE gg.bs i0 id y.2++(aq gg.rs (id+128) y.1++hM (cM hh (dm gg.ps (vs++cap)++gq gg.bs hh i0)) (c8 gg.bs hh i0)))).hp hh.get =(dM L2++hM (cM hh lr) (c8 gg.bs hh i0)).get:=by rw[eH2,List.append_assoc];rfl
   rw[eH3];refine⟨v,Z',B6,e1,nx,?_⟩;refine aap.move (p:=fun j=>(dM L2).get j≠none) (fun _ h=>h) (cm.refl _ _) (fun j hp _=>⟨hp,h8 j hp⟩) ?_;refine LS (kS hl gg.rs _ id (id+128) y.1 hrs (fun i hi=>?_) fun i hi=>?_)
   ·rw[←fR gg.rs (id+128) y.1]at hi;obtain⟨e,he,rfl⟩:=abW.1 hi;rw[eH2];exact AS (o:=e.2) (abN _ he)
   ·rw[←my gg.bs i0 id y.2 hl]at hi;obtain⟨e,he,rfl⟩:=abW.1 hi;rw[eH2];exact AS (o:=e.2) (abO _ he)
 ·cases he
end Go.Vs
namespace Go.Vs
variable {P:Program} {Eqs:TypeId→Option K} {Sg:FuncId→Option aO} {F:(f:FuncId)→(g:aO)→g.A→Option g.B} {R:Type} {k:bD→Option R}
theorem fS{c:Bool}{e:bD}:cond c (k e) none=(cond c (some e) none).bind k:=by grind
theorem fE{c:Bool}{e:bD}:cond c none (k e)=(cond c none (some e)).bind k:=by grind
theorem fF{c:Bool}{e e':bD}:cond c (k e) (k e')=(cond c (some e) (some e')).bind k:=by grind
theorem fT{α:Type}(o:Option α)(f:α→Option R)(g:α→Option bD)(h:∀x,f x=(g x).bind k):o.bind f=(o.bind g).bind k:=by cases o with
 |none=>rfl
 |some x=>exact h x
theorem LV{h:Heap}{id:Nat}{t:TypeId}{s x:AV}:oo P h id t s x k=(oo P h id t s x some).bind k:=by unfold oo;repeat' (first|rfl|exact fS|exact fE | exact fF|(refine fT _ _ _ (fun _=>?_))|split)
theorem PN{h:Heap}{t:TypeId}{s x:AV}:sJ P h t s x k=(sJ P h t s x some).bind k:=by unfold sJ;repeat' (first|rfl|exact fS|exact fE | exact fF|grind [fT]|split)
theorem Sj{h:Heap}{t:TypeId}{s:AV}:mf P h t s k=(mf P h t s some).bind k:=by unfold mf;repeat' (first|rfl|exact fS|exact fE | exact fF|grind [fT]|split)
theorem Ew{h:Heap}{t:TypeId}{s x:AV}:dw P h t s x k=(dw P h t s x some).bind k:=by unfold dw;grind
theorem Sk{x:AV}{lo hi mx:Option AV}:xL x lo hi mx k=(xL x lo hi mx some).bind k:=by unfold xL;grind
theorem PO{h:Heap}{sz:Nat}{x:AV}{lo hi mx:Option AV}:pM h sz x lo hi mx k=(pM h sz x lo hi mx some).bind k:=by unfold pM;grind
theorem Xa{h:Heap}{x:AV}:Fh h x k=(Fh h x some).bind k:=by unfold Fh;grind
theorem Xb{op:BinOp}{t:TypeId}{x y:AV}:zk P Eqs op t x y k=(zk P Eqs op t x y some).bind k:=by unfold zk;repeat' (first|rfl|exact fS|exact fE | exact fF|(refine fT _ _ _ (fun _=>?_))|split)
theorem Jb(rs:List RK)(x:mb rs)(f:mb rs→Option R)(g:mb rs→Option bD)(h:∀z,f z=(g z).bind k):j5 rs x f=(j5 rs x g).bind k:=by grind [ke]
theorem Sn{h:Heap}{id:Nat}{f:FuncId}{vs:List AV}:jy Sg F h id f vs k=(jy Sg F h id f vs some).bind k:=by unfold jy;repeat' (first|rfl|exact fS|exact fE | exact fF|(refine fT _ _ _ (fun _=>?_))|(refine Jb _ _ _ _ (fun _=>?_))|split)
theorem So{id:Nat}{t:TypeId}{vs:List AV}:xQ id t vs k=(xQ id t vs some).bind k:=rfl
theorem PQ{t:TypeId}{ps:List (Nat×AV)}:sM P t ps k=(sM P t ps some).bind k:=by unfold sM;grind
theorem Hg{h:Heap}{id:Nat}{t:TypeId}{n:Nat}{ps:List (Nat×AV)}:vM P h id t n ps k=(vM P h id t n ps some).bind k:=by unfold vM;grind
theorem Sp{lr:Bool}{h:Heap}{id:Nat}{t:TypeId}{n:Nat}{ps:List (Nat×AV)}:xR P lr h id t n ps k=(xR P lr h id t n ps some).bind k:=by unfold xR;rw[Hg,Hg (k:=fun e=>some (if lr then WG e else e)),Option.bind_assoc];rfl
theorem Sq{h:Heap}{s d:TypeId}{x:AV}:Bp P h s d x k=(Bp P h s d x some).bind k:=by unfold Bp;repeat' (first|rfl|exact fS|exact fE | exact fF|(refine fT _ _ _ (fun _=>?_))|split)
theorem Jc{h:Heap}{id:Nat}{t:TypeId}{s:AV}{b:ByteArray}:lT P h id t s b k=(lT P h id t s b some).bind k:=by unfold lT;repeat' (first|rfl|exact fS|exact fE | exact fF|(refine fT _ _ _ (fun _=>?_))|split)
theorem PR{id:Nat}{t:TypeId}{l c:AV}:sI P id t l c k=(sI P id t l c some).bind k:=by unfold sI;repeat' (first|rfl|exact fS|exact fE | exact fF|(refine fT _ _ _ (fun _=>?_))|split)
theorem Sr{h:Heap}{t:TypeId}{d s:AV}:xJ P h t d s k=(xJ P h t d s some).bind k:=by unfold xJ;repeat' (first|rfl|exact fS|exact fE | exact fF|(refine fT _ _ _ (fun _=>?_))|split)
theorem aaq{b:Bool}{vs:List AV}:Pc b vs k=(Pc b vs some).bind k:=by unfold Pc;grind
theorem Ss{h:Heap}{x:AV}:xM h x k=(xM h x some).bind k:=by unfold xM;grind
theorem Jd{id:Nat}{t:TypeId}:lU P Eqs id t k=(lU P Eqs id t some).bind k:=by unfold lU;grind
theorem LW{h:Heap}{t:TypeId}{m i:AV}{ok:Bool}:oq P Eqs h t m i ok k=(oq P Eqs h t m i ok some).bind k:=by unfold oq;grind
theorem LY{h:Heap}{t:TypeId}{m i v:AV}:jg P Eqs h t m i v k=(jg P Eqs h t m i v some).bind k:=by unfold jg;grind
theorem LZ{h:Heap}{t:TypeId}{m i:AV}:ot P Eqs h t m i k=(ot P Eqs h t m i some).bind k:=by unfold ot;grind
theorem L0{id:Nat}{t:TypeId}{x:AV}:ou P id t x k=(ou P id t x some).bind k:=by unfold ou;grind
theorem PS{h:Heap}{x:AV}:sK h x k=(sK h x some).bind k:=by unfold sK;grind
theorem PT{h:Heap}{x:AV}:sL h x k=(sL h x some).bind k:=by unfold sL;grind
theorem lW{id:Nat}{h:Heap}{s:List (Nat×AV)}{o:Oper}:cW P Eqs Sg F id h s o k=(cW P Eqs Sg F id h s o some).bind k:=by
 obtain⟨dst,op,type,pos,after,guard⟩:=o
 cases op<;>simp only[cW] <;>
  repeat' (first|rfl|exact Sp|exact LV|exact PN|exact Sj|exact Ew|exact Sk|exact PO|exact Xa|exact Xb|exact Sn|exact So|exact PQ|exact Hg|exact Sq|exact Jc|exact PR|exact Sr|exact aaq|exact Ss|exact Jd|exact LW|exact LY|exact LZ|exact L0|exact PS|exact PT|exact fS|(refine fT _ _ _ (fun _=>?_))|split)
theorem PU{id:Nat}{h h':Heap}{s:List (Nat×AV)}{o:Oper}(hf:nO o.op=true):cW P Eqs Sg F id h s o k=cW P Eqs Sg F id h' s o k:=by
 obtain⟨dst,op,type,pos,after,guard⟩:=o
 cases op<;>simp[nO]at hf<;>first|rfl|(rename_i u _ _;cases u<;>rfl)
theorem Xc{op:BinOp}{t:TypeId}{x y:AV}{e:bD}(he:zk P Eqs op t x y some=some e):∃v,e=.val v:=by
 unfold zk at he
 grind
theorem Je{id:Nat}{h:Heap}{s:List (Nat×AV)}{o:Oper}{e:bD}(hf:nO o.op=true)(he:cW P Eqs Sg F id h s o some=some e):∃v,e=.val v:=by
 obtain⟨dst,op,type,pos,after,guard⟩:=o
 cases op<;>simp only[nO]at hf<;>first|(cases hf;done)|skip
 case unOp u t x =>
  cases u<;>simp only[cW]at he<;>repeat' (first|(cases he;done)|exact⟨_,(ab2 he).symm⟩|split at he)
 case makeFunc fn first cap =>
  cases fn<;>simp only[cW]at he<;>repeat' (first|(cases he;done)|exact⟨_,(ab2 he).symm⟩|split at he)
 all_goals simp only[cW]at he
 case binOp=>exact Xc he
 case slice =>
  repeat' (first|(cases he;done)|split at he)
  all_goals
   first|unfold xL at he|unfold pM at he
   repeat' (first|(cases he;done)|exact⟨_,(ab2 he).symm⟩|split at he)
   all_goals
    unfold cond at he
    split at he<;>first|(cases he;done)|exact⟨_,(ab2 he).symm⟩
 case build =>
  unfold sM at he
  repeat' (first|(cases he;done)|exact⟨_,(ab2 he).symm⟩|split at he)
 all_goals
  repeat' (first|(cases he;done)|exact⟨_,(ab2 he).symm⟩|split at he)
end Go.Vs
namespace Go.Vs
variable {P:Program} {Eqs:TypeId→Option K} {Sg:FuncId→Option aO} {F:(f:FuncId)→(g:aO)→g.A→Option g.B} {R:Type}
variable {Z Z' Z0:Nat→Prop} {ψ ψ' ψ0:Nat→Value} {h h':Hp} {w w' w0:World} {B0:Nat} {O N:Nat→Prop}
structure Env(P:Program)(Eqs:TypeId→Option K)(Sg:FuncId→Option aO)(F:(f:FuncId)→(g:aO)→g.A→Option g.B):Prop where
 eqs:∀t k,Eqs t=some k→mn P t k
 con:∀f g x y,Sg f=some g→F f g x=some y→FC P f g x y
 spec:∀f g u,Sg f=some g→g.x=some u→gY P (f%1000) u
 Jf:∀f g,Sg f=some g→jD P (f%1000)
theorem Jg{s:List (Nat×AV)}{ρC:Operand→Value}:∀(l:List Operand),(∀x∈l,az Z ψ h w (ρ s x) (ρC x))→ar Z ψ h w (l.map (ρ s)) (l.map ρC)
 |[],_=>by simp[ar]
 |x::r,hx=>by simp only[List.map_cons,ar];exact⟨_,_,rfl,hx x abT,Jg r fun y hy=>hx y (abq _ hy)⟩
theorem FG{s:List (Nat×AV)}{p:Nat→Prop}:∀(l:List Operand),(∀x∈l,aI p (ρ s x))→aA p (l.map (ρ s))
 |[],_=>by simp[aA]
 |x::r,hx=>by simp only[List.map_cons,aA];exact⟨hx x abT,FG r fun y hy=>hx y (abq _ hy)⟩
theorem YM(E:Env P Eqs Sg F){hh:Heap}{a:Act}{s:List (Nat×AV)}{o:Oper}(g:Good Z ψ h w B0 O)(hB:B0≤w.heap.size)(bz:∀id o,hh.get id=some o→h id=some o){id:Nat}(hN:makes o.op=true→∀j,j<256→N (id+j)){e:bD} (np:∀x∈o.op.operands,az Z ψ h w (ρ s x) (a.eval x)) (hm:∀x∈o.op.operands,aI (fun i=>¬N i) (ρ s x)) (bm:∀i ty cs,h i=some (.box ty cs)→aA (fun i=>¬N i) cs) (mX:∀v hw,e=.wr v hw→hh.get=h) (he:cW P Eqs Sg F id hh s o some=some e) {next:Act→World→Prop} {Q:Exit→Act→World→Prop} (hk:∀V w' Z' ψ',Next Z ψ h w B0 O N Z' ψ' (e.hp h) w'→az Z' ψ' (e.hp h) w' e.v V→next (a.put o.dst V) w'):o.wp P a w next Q:=by
 have d:gX P a.eval o Z ψ h w B0 O N e∨YJ P a.eval o Z ψ h w B0 O N e:=by
  cases Lo:wc o with
  |false=>exact .inl (R7 E.eqs g hB bz (fun hm=>by simpa using hN hm 0 (by decide)) np hm bm mX Lo he)
  |true =>
   refine .inr ?_;obtain⟨dst,op,type,pos,after,guard⟩:=o
   cases op<;>simp[wc]at Lo
   rename_i c;obtain⟨callee,args,argTypes⟩:=c
   cases callee<;>simp at Lo
   rename_i fo;simp only[cW]at he
   split at he
   ·rename_i f cap hf;simp only[Op.operands,Call.operands]at np;have h1:=np fo (by simp);rw[hf]at h1;have h2:ar Z ψ h w (args.toList.map (ρ s)) (args.toList.map a.eval):=Jg _ fun x hx=>np x (by simp_all);have hmf:=hm fo (by simp[Op.operands,Call.operands]);rw[hf]at hmf;simp only[aI]at hmf;have hma:aA (fun i=>¬N i) (args.toList.map (ρ s)):=FG _ fun x hx=>hm x (by grind [Op.operands,Call.operands]);refine LU E.spec E.con E.Jf g hB bz (hN rfl) bm mX h1 h2 (qe hma hmf) (fun ws Sh=>?_) he;simp only[execOp,resolve,Sh,Deferred.ofValue];simp only[pure_bind,invoke];congr 1
    grind
   ·cases he
 unfold Oper.wp;rcases d with⟨V,w',Z',ψ',h1,h2,h3⟩|⟨f,args,h1,h2⟩
 ·rcases h1 with h1|⟨h1,rfl⟩
  ·rw[h1];exact hk V w' Z' ψ' h2 h3
  ·rw[h1];exact hk undef w' Z' ψ' h2 h3
 ·rw[h1,Oper.upon_enter];refine h2.mono fun en w' ⟨V,Z',ψ',e1,n,hr⟩=>?_
  grind
structure Ok(Z0:Nat→Prop)(w0:World)(O:Nat→Prop)(ψ0:Nat→Value)(Z:Nat→Prop)(ψ:Nat→Value)(h:Hp)(w:World):Prop where
 dn:Good Z ψ h w w0.heap.size O
 fX:∀b,Z0 b→Z b
 eO:∀b,Z b→Z0 b∨O b∨w0.heap.size≤b
 os:w.os=w0.os
 tape:w.tape=w0.tape
 output:w.output=w0.output
 size:w0.heap.size≤w.heap.size
 block:∀b,b<w0.heap.size→¬O b→w.heap[b]? = w0.heap[b]?
 fix:∀i,i<2000→h i≠none→ψ i=ψ0 i
theorem Ok.next(k:Ok Z0 w0 O ψ0 Z ψ h w)(hN:∀id,N id→2000≤id)(n:Next Z ψ h w w0.heap.size O N Z' ψ' h' w'):Ok Z0 w0 O ψ0 Z' ψ' h' w':=by
 have own:∀b,Own ψ h b→w0.heap.size≤b∨O b:=fun b ⟨id,h1,h2⟩=>(k.dn.live id b h1 h2).2;refine⟨n.dn,fun b hb=>n.fX b (k.fX b hb),fun b hb=>?_,n.keep.os.trans k.os,n.keep.tape.trans k.tape,n.keep.output.trans k.output,ab0 k.size n.keep.size,fun b hb ho=>?_,fun i hi bw=>?_⟩
 ·rcases n.eO b hb with h1|h1|h1
  ·exact k.eO b h1
  ·grind
  ·exact .inr (.inr (ab0 k.size h1))
 ·rw[n.keep.block b (Nat.lt_of_lt_of_le hb k.size) (fun h1=>(own b h1).elim (fun h2=>by omega) ho)];exact k.block b hb ho
 ·rcases n.ids i bw with⟨h1,h2⟩|h1
  ·rw[h2];exact k.fix i hi h1
  grind
structure cS(Z:Nat→Prop)(ψ:Nat→Value)(h:Hp)(w:World)(n:Nat)(T:Nat→AV)(a:Act):Prop where
 rep:∀d,az Z ψ h w (T d) (a.tmps.getD d undef)
 size:a.tmps.size=n
 defers:a.defers=[]
theorem PV:az Z ψ h w (.nM []) undef:=by simp only[az,ar];exact⟨#[],rfl,rfl⟩
def ib(T:Nat→AV)(d:Option Tmp)(v:AV):Nat→AV:=match d with
 |some d=>dS T d v
 |none=>T
theorem ic(st:St)(d:Option Tmp)(v:AV):look (st.put d v).tmps=ib (look st.tmps) d v:=by
 cases d with
 |none=>rfl
 |some d =>
  funext i;simp only[St.put,look,ib,dS]
  grind
theorem da(st:St)(d:Option Tmp)(v:AV):(st.put d v).heap=st.heap:=by cases d<;>rfl
theorem FH{T:List (Nat×AV)}{d:Nat}{v:AV}(hv:look T d=v):dS (look T) d v=look T:=by
 grind [dS]
theorem ig{a:Act}{d:Nat}{v:Value}(hd:d<a.tmps.size)(i:Nat):(a.put (some d) v).tmps.getD i undef=if i=d then v else a.tmps.getD i undef:=by
 simp only[Act.put];by_cases e:i=d
 ·simp_all
 ·simp[e,Array.getElem?_setIfInBounds_ne (Ne.symm e)]
theorem cE(a:Act)(d:Option Tmp)(v:Value):(a.put d v).tmps.size=a.tmps.size:=by cases d<;>simp[Act.put]
theorem put_defers(a:Act)(d:Option Tmp)(v:Value):(a.put d v).defers=a.defers:=by cases d<;>rfl
theorem cS.put{n:Nat}{T:Nat→AV}{a:Act}{o:Oper}{x:AV}{V:Value}(t:cS Z ψ h w n T a)(hd:iQ n o=true)(hx:az Z ψ h w x V):cS Z ψ h w n (ib T o.dst x) (a.put o.dst V):=by
 refine⟨fun d=>?_,by rw[cE];exact t.size,by rw[put_defers];exact t.defers⟩;unfold iQ at hd
 split at hd
 ·rename_i d0 hd0;rw[hd0];rw[ig (by rw[t.size];simpa using hd)];simp only[ib,dS]
  split
  ·exact hx
  ·exact t.rep d
 ·rename_i hd0;rw[hd0];exact t.rep d
theorem cS.next{n:Nat}{T:Nat→AV}{a:Act}(t:cS Z ψ h w n T a)(g:Good Z ψ h w B0 O)(hn:Next Z ψ h w B0 O N Z' ψ' h' w')(hm:∀d,aI (fun i=>¬N i) (T d)):cS Z' ψ' h' w' n T a :=⟨fun d=>hn.rep g (hm d) (t.rep d),t.size,t.defers⟩
theorem rN{n:Nat}{s:List (Nat×AV)}{a:Act}(t:cS Z ψ h w n (look s) a)(x:Operand):az Z ψ h w (ρ s x) (a.eval x):=by
 cases x with
 |tmp i=>exact t.rep i
 |const v=>exact IS v
 |global g=>simp only[ρ,az]
 |func f=>simp only[ρ,az,ar,Act.eval];exact⟨#[],rfl,rfl⟩
theorem B7(p:Nat→Prop)(v:Value):aI p (uO v):=by
 cases v with
 |agg cs=>grind [uO,aI,xZ]
 |_=>grind [uO,BW]
theorem PW{p:Nat→Prop}{s:List (Nat×AV)}(hm:∀d,aI p (look s d))(x:Operand):aI p (ρ s x):=by
 cases x with
 |tmp i=>exact hm i
 |const v=>exact B7 p v
 |global g=>simp only[ρ,aI]
 |func f=>simp only[ρ,aI,aA]
def mY(rid:Nat)(S:Nat→Prop)(id:Nat):Prop:=id / 32768=rid+1→S (id / 256%128)
def Of(rid i id:Nat):Prop:=id / 256=(rid+1)*128+i
theorem Of.parts{rid i id:Nat}(hi:i<128)(h:Of rid i id):id / 32768=rid+1∧id / 256%128=i:=by
 grind [Of]
theorem Of.of{rid i id:Nat}(h:id / 32768=rid+1)(hi:id / 256%128=i):Of rid i id:=by unfold Of;omega
theorem Nu{rid i j:Nat}(hj:j<256):Of rid i (opId rid i+j):=by unfold Of opId;omega
theorem Jh{rid i:Nat}:Of rid i (opId rid i):=by unfold Of opId;omega
theorem mY.B8{rid i id:Nat}{S:Nat→Prop}(hi:i<128)(hs:¬S i)(h:mY rid S id):¬Of rid i id:=fun ho=>by obtain⟨h1,h2⟩:=ho.parts hi;have:=h h1;simp_all
theorem oJ{rid bits id:Nat}{S:Nat→Prop}(hb:∀j,bits.testBit j=true→S j)(h:tX rid bits id=true):mY rid S id:=fun h1=>by simp_all [tX,Bool.or_eq_true,bne_iff_ne,ne_eq]
mutual
theorem qf{rid bits:Nat}{S:Nat→Prop}(hb:∀j,bits.testBit j=true→S j):∀{v:AV},ue rid bits v=true→aI (mY rid S) v
 |.ref id s i off,h=>by simp only[ue]at h;simp only[aI];exact oJ hb h
 |.bI id,h=>by simp only[ue]at h;simp only[aI];exact oJ hb h
 |.fn f cap,h=>by simp only[ue]at h;simp only[aI];exact mA hb h
 |.agg cs,h=>by simp only[ue]at h;simp only[aI];exact mA hb h
 |.nM cs,h=>by simp only[ue]at h;simp only[aI];exact mA hb h
 |.no,_=>by simp only[aI]
 |.bool _,_=>by simp only[aI]
 |.int _ _,_=>by simp only[aI]
 |.str _,_=>by simp only[aI]
 |.lH,_=>by simp only[aI]
 |.fK,_=>by simp only[aI]
 |.fp _ _ _,_=>by simp only[aI]
 |.sl _ _ _,_=>by simp only[aI]
 |.mp _ _ _,_=>by simp only[aI]
theorem mA{rid bits:Nat}{S:Nat→Prop}(hb:∀j,bits.testBit j=true→S j):∀{v:List AV},Br rid bits v=true→aA (mY rid S) v
 |[],_=>by simp only[aA]
 |v::r,h=>by simp only[Br,Bool.and_eq_true]at h;simp only[aA];exact⟨qf hb h.1,mA hb h.2⟩
end
theorem mB{rid bits:Nat}{S:Nat→Prop}(hb:∀j,bits.testBit j=true→S j):∀{hh:Heap},zm rid bits hh=true→∀id o,hh.get id=some o→mY rid S id∧∀ty cs,o=.box ty cs→aA (mY rid S) cs
 |[],_,id,o,hg=>by simp[Heap.get]at hg
 |(i,ob)::r,h,id,o,hg=>by
  simp only[Heap.get]at hg
  split at hg
  ·rename_i e;subst e
   cases hg
   cases ob with
   |box ty cs =>
    simp only[zm,Bool.and_eq_true]at h
    grind [oJ,mA]
   |own ok xs =>
    simp only[zm,Bool.and_eq_true]at h
    grind [oJ]
  ·refine mB hb ?_ id o hg
   cases ob<;>simp only[zm,Bool.and_eq_true]at h<;>exact h.2
def bD.heap(e:bD)(h:Heap):Heap:=match e with
 |.wr _ h'=>h'
 |e=>e.h h
theorem bD.Ji(e:bD)(hh:Heap):(e.heap hh).get=e.hp hh.get:=by
 cases e with
 |val v=>rfl
 |new v os=>grind [bD.heap,bD.h,bD.hp,Heap.get_append,Heap.get]
 |wr v h'=>rfl
def uy(p:Nat→Prop)(h:Hp):Prop:=∀i ty cs,h i=some (.box ty cs)→aA p cs
theorem B9{ops:Array Oper}{o:Oper}{n:Nat}{T:Nat→AV}{a:Act}(t:cS Z ψ h w n T a){j d:Nat}{want:Bool}(hg:o.guard=some (j,want))(hd:(ops[j]?).bind (·.dst)=some d){b:Bool}(hb:T d=.bool b) :
  Region.wanted o (yielded ops a.tmps)=(b==want):=by
 have h1:=t.rep d;rw[hb]at h1;simp only[az]at h1;have h2:a.tmps[d]? = some (.bool b):=by
  rw[Array.getD_eq_getD_getElem?]at h1
  cases e:a.tmps[d]? with
  |none=>rw[e]at h1;simp[undef]at h1
  |some v=>rw[e]at h1;simpa using h1
 unfold Region.wanted yielded;rw[hg];simp only[hd,Option.bind_some,h2]
 cases b<;>cases want<;>rfl
theorem zM{ops:Array Oper}{o:Oper}{n:Nat}{T:Nat→AV}{a:Act}(t:cS Z ψ h w n T a){j d:Nat}{want:Bool}(hg:o.guard=some (j,want))(hd:(ops[j]?).bind (·.dst)=some d){vs:List AV}(hb:T d=.nM vs) :
  Region.wanted o (yielded ops a.tmps)=false:=by
 have h1:=t.rep d;rw[hb]at h1;simp only[az]at h1;obtain⟨us,h1,_⟩:=h1;unfold Region.wanted yielded;rw[hg];simp only[hd,Option.bind_some];rw[Array.getD_eq_getD_getElem?]at h1
 grind
def Ca(ops:Array Oper):Nat→List (Nat×Oper)→Prop
 |_,[]=>True
 |i,(j,o)::r=>j=i∧ops[i]? = some o∧Ca ops (i+1) r
theorem Jj(ops:Array Oper):∀(l:List Oper) (i:Nat),(∀k o,l[k]? = some o→ops[i+k]? = some o)→Ca ops i ((l.zipIdx i).map fun p=>(p.2,p.1))
 |[],_,_=>by simp[Ca]
 |o::r,i,h=>by simp only[List.zipIdx_cons,List.map_cons,Ca];exact⟨trivial,h 0 o rfl,Jj ops r (i+1) fun k o' hk=>by rw[Nat.add_assoc,Nat.add_comm 1 k];simp_all⟩
theorem oK(ops:Array Oper):Ca ops 0 (ops.toList.zipIdx.map fun p=>(p.2,p.1)):=Jj ops _ 0 fun k o hk=>by simpa using hk
theorem FI(ops:Array Oper):(ops.toList.zipIdx.map fun p=>(p.2,p.1)).map Prod.fst=List.range ops.size:=by rw[List.map_map];have:(Prod.fst ∘ fun(p:Oper×Nat)=>(p.2,p.1))=Prod.snd:=rfl;rw[this,List.zipIdx_map_snd,List.range_eq_range',Array.length_toList]
structure J(p:Nat→Prop)(n:Nat)(Z0:Nat→Prop)(w0:World)(O:Nat→Prop)(ψ0:Nat→Value)(Z:Nat→Prop)(ψ:Nat→Value)(T:Nat→AV)(h:Hp)(a:Act)(w:World):Prop where
 ok:Ok Z0 w0 O ψ0 Z ψ h w
 tr:cS Z ψ h w n T a
 tm:∀d,aI p (T d)
 hm:uy p h
theorem J.imp{p q:Nat→Prop}{n:Nat}{T:Nat→AV}{a:Act}(j:J p n Z0 w0 O ψ0 Z ψ T h a w)(G4:∀id,p id→q id):J q n Z0 w0 O ψ0 Z ψ T h a w :=⟨j.ok,j.tr,fun d=>(j.tm d).imp G4,fun id ty cs hb=>(j.hm id ty cs hb).imp G4⟩
theorem J.op(E:Env P Eqs Sg F){rid n i:Nat}{p:Nat→Prop}{T:Nat→AV}{a:Act}{s:List (Nat×AV)}{o:Oper}(hS:makes o.op=true→∀id,p id→¬Of rid i id)(j:J p n Z0 w0 O ψ0 Z ψ T h a w)(hd:iQ n o=true) (hT:∀x∈o.op.operands,az Z ψ h w (ρ s x) (a.eval x)) (hTm:∀x∈o.op.operands,aI p (ρ s x)) {hh:Heap} (bz:∀id o,hh.get id=some o→h id=some o) {e:bD} (he:cW P Eqs Sg F (opId rid i) hh s o some=some e) (mX:∀v hw,e=.wr v hw→hh.get=h) {p':Nat→Prop} (Ry:∀k,p k→p' k) (hv:aI p' e.v) (hh':uy p' (e.hp h)) {next:Act→World→Prop} {Q:Exit→Act→World→Prop} (hk:∀a' w' Z' ψ',J p' n Z0 w0 O ψ0 Z' ψ' (ib T o.dst e.v) (e.hp h) a' w'→next a' w'):o.wp P a w next Q:=by
 have nof:∀id,p id→¬(makes o.op=true∧Of rid i id):=fun id h ⟨h1,h2⟩=>hS h1 id h h2;refine YM (N:=fun id=>makes o.op=true∧Of rid i id) E j.ok.dn j.ok.size bz (id:=opId rid i) (fun hm k hk=>⟨hm,Nu hk⟩) hT (fun x hx=>(hTm x hx).imp nof) (fun id ty cs hb=>(j.hm id ty cs hb).imp nof) mX he fun V w' Z' ψ' nx hr=>?_;refine hk _ w' Z' ψ' ⟨j.ok.next (fun id h=>by grind [Of]) nx,(j.tr.next j.ok.dn nx (fun d=>(j.tm d).imp nof)).put hd hr,fun d=>?_,hh'⟩
 cases mZ:o.dst with
 |none=>exact(j.tm d).imp Ry
 |some d0 =>
  simp only[ib,dS]
  split
  ·exact hv
  ·exact(j.tm d).imp Ry
theorem J.skip{n:Nat}{p p':Nat→Prop}{T:Nat→AV}{a:Act}{o:Oper}(j:J p n Z0 w0 O ψ0 Z ψ T h a w)(hd:iQ n o=true)(Ry:∀k,p k→p' k) :
  J p' n Z0 w0 O ψ0 Z ψ (ib T o.dst (.nM [])) h (a.put o.dst undef) w:=by
 refine⟨j.ok,j.tr.put hd PV,fun d=>?_,fun id ty cs hb=>(j.hm id ty cs hb).imp Ry⟩
 cases mZ:o.dst with
 |none=>exact(j.tm d).imp Ry
 |some d0 =>
  simp only[ib,dS]
  split
  ·simp only[aI,aA]
  ·exact(j.tm d).imp Ry
theorem Xd{hh:Heap}(g:Good Z ψ hh.get w B0 O){m:Nat}{kk vk:K}{es:List (kk.T×vk.T)}(hg:hh.get m=some (.own (.map kk vk) es))(n:Next Z ψ hh.get w B0 O N Z' ψ' h' w')(hzm:∀b,ob (ψ m)=some b→Z' b) (hold:∀b,b<w.heap.size→w'.heap[b]? = w.heap[b]?) {v:AV} {V:Value} (hm:aI (fun id=>¬N id) v) (hr:az Z ψ hh.get w v V):az Z' ψ' h' w' (Am m (.mp kk vk es) v) V:=by
 by_cases hv:v=.bI m
 ·subst hv;simp only[Am,if_true];simp only[az]at hr;have hu:=hr.2 (by rw[hg];simp);obtain⟨r,b5,clock,h1,h2,h3,_⟩:=g.row m (.map kk vk) es hg;rw[h1]at hu;subst hu;have aK:=(abP.1 h2).1;simp only[az,aH];exact⟨some r,rfl,.inr ⟨r,b5,clock,rfl,hzm r (by rw[h1];rfl),(hold r aK).trans h2,h3.imp (fun _ _ h=>h.mono n.fX (fun b hb=>hold b (g.j7 b hb))) (fun _ _ h=>h.mono n.fX (fun b hb=>hold b (g.j7 b hb)))⟩⟩
 ·have hf:Am m (.mp kk vk es) v=v:=by
   unfold Am
   grind
  rw[hf];exact n.rep g hm hr
theorem Su{p:Nat→Prop}{m:Nat}{kk vk:K}{es:List (kk.T×vk.T)}{v:AV}(hm:aI p v):aI p (Am m (.mp kk vk es) v):=by
 unfold Am
 grind [aI]
theorem tf(f:AV→AV)(hf:f .no=.no):∀(l:List (Nat×AV)) (d:Nat),look (l.map fun p=>(p.1,f p.2)) d=f (look l d)
 |[],_=>by simp only[List.map_nil,look];exact hf.symm
 |(i,v)::r,d=>by
  simp only[List.map_cons,look]
  split
  ·rfl
  ·exact tf f hf r d
theorem L3{rid n i:Nat}{p p':Nat→Prop}{st eP:St}{a:Act}{o:Oper}(hS:∀id,p id→¬Of rid i id)(Ry:∀k,p k→p' k)(WZ:p' (opId rid i))(j:J p n Z0 w0 O ψ0 Z ψ (look st.tmps) st.heap.get a w)(hd:iQ n o=true)(qg:pQ P (opId rid i) st o=some eP) :
  ∃V w' Z' ψ',(execOp a.eval o).run P w=.ok (.value V) w'∧J p' n Z0 w0 O ψ0 Z' ψ' (look eP.tmps) eP.heap.get (a.put o.dst V) w':=by
 unfold pQ at qg
 split at qg
 ·rename_i t x Nv
  split at qg
  ·rename_i ka va m hu hx
   split at qg
   ·rename_i kk vk es hg
    cases qg
    have YN:az Z ψ st.heap.get w (.bI m) (a.eval x):=by rw[←hx];exact rN j.tr x
    simp only[az]at YN;have hev:=YN.2 (by rw[hg];simp);have g:=j.ok.dn;obtain⟨r,b5,clock,h1,h2,h3,h4,h5⟩:=g.row m (.map kk vk) es hg;rw[h1]at hev;have aK:=(abP.1 h2).1;have gd:=iU g [.bI m];have acS:∀b,ob (ψ m)=some b→rk Z ψ st.heap.get [.bI m] b:=fun b hb=>.inr ⟨m,by simp,by rw[hg];simp,hb⟩;have hold:∀b,b<w.heap.size→(w.alloc (.mapIter (some r) clock #[] clock)).heap[b]? = w.heap[b]? := fun b hb=>heap_alloc_old w _ hb;have hN:(Of rid i) (opId rid i):=Jh;have n1:=BO (N:=Of rid i) gd j.ok.size (opId rid i) hN (ok:=.iter kk vk) (x:=(none,es)) (v:=.pointer (some ⟨w.heap.size,0,none⟩)) (.mapIter (some r) clock #[] clock) ⟨w.heap.size,r,clock,#[],b5,clock,rfl,heap_alloc_new _ _,acS r (by rw[h1];rfl),(hold r aK).trans h2,h4,rfl,h5,by rw[List.filter_eq_self.2 (fun e _=>by simp)];exact h3.imp (fun _ _ h=>h.mono (fun b hb=>.inl hb) (fun b hb=>hold b (g.j7 b hb))) (fun _ _ h=>h.mono (fun b hb=>.inl hb) (fun b hb=>hold b (g.j7 b hb))),trivial⟩ rfl (fun i' ty cs hb=>aA.imp (p:=p) (q:=fun i'=>i'≠opId rid i) (fun id hp e=>hS id hp (by simp_all)) (j.hm i' ty cs (dW _ _ _ _ hb)));have n2:=n1.drop (Z:=Z) (h:=st.heap.get) (fun b hb=>.inl hb) (fun b hb=>hb.imp (fun h=>h) (fun⟨id,_,h5,h6⟩=>⟨id,h5,h6⟩)) (dW _ _);have lB:(dS (cM st.heap [.bI m]).get (opId rid i) (some (Ob.own (.iter kk vk) (none,es))))=Heap.get ((opId rid i,.own (.iter kk vk) (none,es))::st.heap.del m):=by
     funext k;simp only[cM,drop1,dS,Heap.get]
     grind
    rw[lB]at n2;refine⟨.pointer (some ⟨w.heap.size,0,none⟩),w.alloc (.mapIter (some r) clock #[] clock),rk Z ψ st.heap.get [.bI m],dS ψ (opId rid i) (.pointer (some ⟨w.heap.size,0,none⟩)),?_,?_⟩
    ·simp_all [guard,Instr.range,Sem.run_bind,run_underlying,Result.andThen_ok,gD,Sem.run_pure,execOp]
    ·have bm:∀d,aI (fun id=>¬Of rid i id) (look st.tmps d):=fun d=>(j.tm d).imp hS;refine⟨by rw[da];exact j.ok.next (fun id h=>by grind [Of]) n2,?_,fun d=>?_,fun k ty cs hb=>?_⟩
     ·rw[ic,da];refine cS.put ⟨fun d=>?_,j.tr.size,j.tr.defers⟩ hd ?_
      ·rw[tf _ rfl];exact Xd g hg n2 (fun b hb=>acS b hb) hold (bm d) (j.tr.rep d)
      ·simp only[az];exact⟨⟨rfl,rfl⟩,fun _=>(ba _ _ _).symm⟩
     ·rw[ic];have hb:aI p' (look (st.tmps.map fun q=>(q.1,Am m (.mp kk vk es) q.2)) d):=by rw[tf _ rfl];exact Su ((j.tm d).imp Ry)
      cases mZ:o.dst with
      |none=>exact hb
      |some d0 =>
       simp only[ib,dS]
       grind [aI]
     ·rw[da]at hb;simp only[Heap.get]at hb
      split at hb
      ·cases hb
      ·exact(j.hm k ty cs (Heap.vS hb).1).imp Ry
   ·cases qg
  ·cases qg
 ·cases qg
theorem oL{R:Type}{n:Nat}{f:Nat→Option R}{r:R}(h:tY n f=some r):∀j,j<n→f j=some r:=by
 unfold tY at h
 split at h
 ·grind
 ·cases h
theorem nE{R:Type}{n:Nat}{f:Nat→Option R}{r:R}(hn:0<n)(h:∀j,j<n→f j=some r):tY n f=some r:=by
 unfold tY;have hx:∃r,∀j,j<n→f j=some r:=⟨r,h⟩;rw[dif_pos hx]
 grind
theorem Next.drawn{d:Nat}(n:Next Z ψ h { w with drawn:=d } B0 O N Z' ψ' h' w'):Next Z ψ h w B0 O N Z' ψ' h' w' :=⟨n.fX,n.eO,⟨n.keep.os,n.keep.tape,n.keep.output,n.keep.size,n.keep.block⟩,n.ids,n.dn⟩
theorem Good.drawn{d:Nat}(g:Good Z ψ h w B0 O):Good Z ψ h { w with drawn:=d } B0 O:=by
 have sm:cm Z w ({ w with drawn:=d }:World):=fun _ _=>rfl;refine⟨fun id ty cs hb=>?_,fun id ok xs hb=>?_,g.live,g.apart,g.j7⟩
 ·obtain⟨gg,vs,h1,h2,h3,h4⟩:=g.box id ty cs hb;exact⟨gg,vs,h1,h2,h3.less (fun _ h=>h) sm (fun i hi=>⟨hi,rfl⟩),h4⟩
 ·exact(g.row id ok xs hb).kept (fun _ h=>h) sm (fun gg _=>rfl)
theorem filter_push{l:List MapEntry}(h:l.Pairwise (fun a b=>a.born≠b.born)){seen:Array Nat}{j:Nat}{e:MapEntry}(he:(l.filter fun e => !seen.contains e.born)[j]? = some e) :
  l.filter (fun x => !(seen.push e.born).contains x.born)=(l.filter fun e => !seen.contains e.born).eraseIdx j:=by
 have h2:(l.filter fun e => !seen.contains e.born).Pairwise (fun a b=>a.born≠b.born):=h.sublist List.filter_sublist;rw[←ChangeMaps.filter_eq_eraseIdx (fun x=>x.born==e.born) _ j e he (by simp) (h2.imp fun {a b} bw hc=>bw (by simp_all))]
 grind [List.filter_filter,Array.contains_push]
theorem L4{R:Type}{hh:Heap}(g:Good Z ψ hh.get w B0 O){x:AV}{u:Value}{ty:TypeId}(hx:az Z ψ hh.get w x u){kk:AV→Heap→Option R}{r:R}(he:lJ hh x kk=some r) :
  ∃v h' V w',(Instr.next u false ty).run P w=.ok V w'∧Next Z ψ hh.get w B0 O N Z ψ h'.get w'∧az Z ψ h'.get w' v V∧kk v h'=some r∧(∀p,aI p v)∧∀i ty cs,h'.get i=some (.box ty cs)→hh.get i=some (.box ty cs):=by
 unfold lJ at he
 split at he
 ·rename_i id
  split at he
  ·rename_i kk1 vk pp hg;simp only[az]at hx;have hu:=hx.2 (by rw[hg];simp);obtain⟨b,m,since,seen,b5,clock,h1,h2,h3,h4,h5,h6,h7,h8,h9⟩:=g.row id (.iter kk1 vk) pp hg;rw[h1]at hu;subst hu;subst h6;have aK:=(abP.1 h2).1;have YO:(leftOf b5 seen).toList=b5.toList.filter fun e => !seen.contains e.born:=by unfold leftOf;simp
   have hlen:pp.2.length=(leftOf b5 seen).size:=by rw[h8.1,←YO,Array.length_toList]
   rcases run_next_at (P:=P) w ty b m since since seen b5 since h2 h4 h7 (abX _) with⟨pI,c9⟩|⟨e,iW,w1,Nw,c9⟩
   ·have PM:pp.2.isEmpty=true:=by rw[List.isEmpty_iff];exact abS (by rw[hlen,pI])
    rw[PM]at he;simp only[cond_true]at he;exact⟨_,hh,_,w,c9,Next.refl g,by simp only[az,ar];exact⟨_,rfl,_,_,rfl,rfl,rfl⟩,he,fun p=>by simp only[aI,aA];exact⟨trivial,trivial⟩,fun _ _ _ h=>h⟩
   ·obtain⟨k,hk,hke⟩:=List.mem_iff_getElem.1 iW;have oF:k<pp.2.length:=by rw[hlen,←Array.length_toList];exact hk
    have PM:pp.2.isEmpty=false:=by
     cases hl:pp.2 with
     |nil=>rw[hl]at oF;simp at oF
     |cons _ _=>rfl
    rw[PM]at he;simp only[cond_false]at he;have hj:=oL he k oF;rw[List.getElem?_eq_getElem oF,Option.bind_some]at hj;have aat:(b5.toList.filter fun e => !seen.contains e.born)[k]? = some e:=by rw[←YO,List.getElem?_eq_getElem hk,hke]
    have GZ:=h8.2 k _ e (abk oF) aat;obtain⟨⟨k1,k2,k3⟩,v1,v2,v3⟩:=GZ;have ah2:e∈b5.toList:=(acM.1 (ab3 aat)).1;have gd1:Good Z ψ hh.get w1 B0 O:=by rcases Nw with rfl|rfl;exact g;exact g.drawn
    have Hh:w1.heap=w.heap:=by rcases Nw with rfl|rfl<;>rfl
    have hmb:m≠b:=fun hmb=>by subst hmb;exact(g.live id m (by rw[hg];simp) (by rw[h1];rfl)).1 h3
    have n1:=sZ (N:=N) gd1 (id:=id) (by rw[hg];simp) (r:=b) (by rw[h1];rfl) (by rw[Hh];exact aK) (.mapIter (some m) since (seen.push e.born) since) (ok:=.iter kk1 vk) (x:=(some pp.2[k],pp.2.eraseIdx k)) (fun w' Ln sm=>by
     have sm':cm Z w w':=fun c hc=>(sm c hc).trans (by rw[Hh]);refine⟨b,m,since,seen.push e.born,b5,since,h1,by rw[Ln,Hh];simp[aK],h3,?_,h5,rfl,h7,?_,?_⟩
     ·rw[Ln,Hh,xW _ (fun e=>hmb e.symm)];exact h4
     ·rw[filter_push h5 aat];exact(kM.erase h8 k).mono (fun _ h=>h) sm'
     ·refine⟨e,ah2,by simp,⟨rfl,fun q y e' pI El=>?_⟩⟩
      cases q with
      |zero=>cases pI;cases El;exact⟨⟨k1.mono (fun _ h=>h) sm',k2,k3⟩,v1.mono (fun _ h=>h) sm',v2,v3⟩
      |succ q=>simp at pI)
    have n2:Next Z ψ hh.get w B0 O N Z ψ (dS hh.get id (some (.own (.iter kk1 vk) (some pp.2[k],pp.2.eraseIdx k)))) { w1 with heap:=w1.heap.setIfInBounds b (.mapIter (some m) since (seen.push e.born) since) }:=by
     rcases Nw with rfl|rfl
     ·exact n1
     ·exact n1.drawn
    refine⟨_,hh.set id (.own (.iter kk1 vk) (some pp.2[k],pp.2.eraseIdx k)),_,_,c9,by rw[kE];exact n2,?_,hj,fun p=>?_,fun i ty cs hb=>?_⟩
    ·have sm':cm Z w ({ w1 with heap:=w1.heap.setIfInBounds b (.mapIter (some m) since (seen.push e.born) since) }:World):=n2.same g;simp only[az,ar];exact⟨_,rfl,_,_,rfl,rfl,_,_,rfl,ml (k1.mono (fun _ h=>h) sm') k2 k3,_,_,rfl,ml (v1.mono (fun _ h=>h) sm') v2 v3,rfl⟩
    ·simp only[aI,aA];exact⟨trivial,oH _ _ _,oH _ _ _,trivial⟩
    ·rw[kE]at hb;unfold dS at hb
     split at hb
     ·cases hb
     ·exact hb
  ·cases he
 ·cases he
theorem Jk(op:BinOp)(t:TypeId)(a b:Operand)(x y:Option Addr)(n m c d:Nat):(eqGuard op t a b (.slice x n c) (.slice y m d)).run P w=.ok () w:=by simp_all [eqGuard]
theorem Ex{t e:TypeId}(ht:P.underlying t=some (.slice e))(a:Option Addr)(n c:Nat):(Op.equal t (.slice a n c) (.slice none 0 0)).run P w=.ok a.isNone w:=by
 have key:∀d,(Op.equalIn (d+1) t (.slice a n c) (.slice none 0 0)).run P w=.ok a.isNone w:=fun d=>by cases a<;>simp[Op.equalIn,run_underlying ht]
 exact key 9999
theorem L5{o:Oper}{x:Operand}{want:Bool}(h:isNil P o=some (x,want)):∃op t v t' e,o.op=.binOp op t x (.const v) t'∧P.underlying t=some (.slice e)∧v=.slice none 0 0∧((op=.eql∧want=true)∨(op=.neq∧want=false)):=by
 unfold isNil at h
 split at h
 ·rename_i op t x' v t' Nv;have hv:∀v:Value,xH v=.fK→v=.slice none 0 0:=fun v hv=>by
   unfold xH at hv
   grind
  grind
 ·cases h
theorem Sw{R:Type}{hh:Heap}(g:Good Z ψ hh.get w B0 O){x:AV}{u:Value}{op:BinOp}{t e:TypeId}(xo yo:Operand)(hx:az Z ψ hh.get w x u)(ht:P.underlying t=some (.slice e)){want:Bool}(ho:(op=.eql∧want=true)∨(op=.neq∧want=false)){kk:AV→Option R}{r:R}(he:vP hh x want kk=some r) :
  ∃c:Bool,((eqGuard op t xo yo u (.slice none 0 0)).run P w=.ok () w∧(binOp op t u (.slice none 0 0)).run P w=.ok (.bool c) w)∧kk (.bool c)=some r:=by
 have run:∀(a:Option Addr) (n c:Nat),(eqGuard op t xo yo (.slice a n c) (.slice none 0 0)).run P w=.ok () w∧(binOp op t (.slice a n c) (.slice none 0 0)).run P w=.ok (.bool (a.isNone==want)) w:=fun a n c=>by refine⟨Jk _ _ _ _ _ _ _ _ _ _,?_⟩;rcases ho with⟨rfl,rfl⟩|⟨rfl,rfl⟩<;>simp only[Sem.run_bind,Result.andThen_ok,binOp,Ex ht,Sem.run_pure]<;>cases a.isNone<;>rfl
 have fin:∀(n:Nat) (a:Option Addr) (c:Nat) (xs:Bool),(a=none→xs=true)→cond xs (tY 2 fun j=>kk (.bool ((j==0)==want))) (kk (.bool (!want)))=some r → ∃c':Bool,((eqGuard op t xo yo (.slice a n c) (.slice none 0 0)).run P w=.ok () w∧(binOp op t (.slice a n c) (.slice none 0 0)).run P w=.ok (.bool c') w)∧kk (.bool c')=some r:=fun n a c xs BC h=>by
  refine⟨_,run a n c,?_⟩
  cases xs with
  |true =>
   simp only[cond_true]at h
   cases a with
   |none=>exact oL h 0 (by decide)
   |some a=>exact oL h 1 (by decide)
  |false =>
   simp only[cond_false]at h
   cases a with
   |none=>cases BC rfl
   |some a=>simp_all
 unfold vP at he
 split at he
 ·rename_i hv;have hxn:x=.fK:=by
   cases x<;>simp only[cV]at hv<;>try cases hv
   ·rfl
   grind
  grind [az]
 ·rename_i ex k xs hv
  cases x with
  |sl ex' k' xs' =>
   simp only[cV]at hv
   cases hv
   simp only[az,aH]at hx;obtain⟨⟨v,hv,A,c,rfl,h1,h2,_⟩,_⟩:=hx
   cases hv
   refine fin _ A c _ (fun hA=>?_) he;simp_all
  |bI id =>
   simp only[cV]at hv;simp only[az]at hx
   split at hv
   ·rename_i hg
    cases hv
    have hu:=hx.2 (by rw[hg];simp);obtain⟨vs,⟨_,h1⟩,_⟩:=g.row id _ _ hg;rw[←hu]at h1;rcases h1 with⟨h1,A,rfl⟩|⟨gg,cap,cur,rfl,_⟩
    ·exact fin _ A 0 _ (fun _=>List.isEmpty_iff.2 (abS h1)) he
    ·exact fin _ _ _ _ (fun h=>by cases h) he
   ·cases hv
   ·cases hv
  |_=>grind [cV]
 ·cases he
theorem Cb{draw:Bool}{rid:Nat}{ops:Array Oper}{b:Array Nat}{i LB:Nat}{e:bD}{S:Nat→Prop}{hh:Heap}(hm:uy (mY rid S) h)(ha:∀j,LB.testBit j=true→S j)(he:gQ draw rid ops b i LB e=true) :
  aI (mY rid fun k=>S k∨k=i) e.v∧uy (mY rid fun k=>S k∨k=i) (e.hp h):=by
 have IN:∀j,(LB ||| 2 ^ i).testBit j=true→S j∨j=i:=fun j hj=>by
  grind
 have up:uy (mY rid fun k=>S k∨k=i) h:=fun id ty cs hb=>(hm id ty cs hb).imp (fun id h1 h2=>.inl (h1 h2))
 cases e with
 |val v=>exact⟨qf (fun j hj=>.inl (ha j hj)) he,up⟩
 |new v os =>
  simp only[gQ,Bool.and_eq_true]at he;refine⟨qf IN he.1.1,fun id ty cs hb=>?_⟩;simp only[bD.hp]at hb
  split at hb
  ·rename_i o ho
   cases hb
   exact(mB IN he.2 _ _ ho).2 _ _ rfl
  ·exact up id ty cs hb
 |wr v h' =>simp only[gQ,Bool.and_eq_true]at he;exact⟨qf IN he.1.2,fun id ty cs hb=>(mB IN he.2 _ _ hb).2 _ _ rfl⟩
theorem Ey{i j:Nat}(h:(2 ^ i-1).testBit j=true):j<i:=by simp_all
def yj(mk:Bool)(rid i id:Nat):Prop:=mk=true→mY rid (fun k=>k<i) id
theorem lX(E:Env P Eqs Sg F){rid n:Nat}{ops:Array Oper}{b:Array Nat}(mk:Bool)(Xe:mk=false→∀(i:Nat) (o:Oper),ops[i]? = some o→makes o.op=false)(hn:ops.size≤128)(mZ:∀(i:Nat) (o:Oper),ops[i]? = some o→iQ n o=true){kk:St→Option R}{r:R}{Q:Exit→Act→World→Prop} (hQ:∀eP Z ψ a w,kk eP=some r→Ok Z0 w0 O ψ0 Z ψ eP.heap.get w→cS Z ψ eP.heap.get w n (look eP.tmps) a→Q .normal a w) :
  ∀(l:List (Nat×Oper)) (i:Nat) (st:St) (Z:Nat→Prop) (ψ:Nat→Value) (a:Act) (w:World),Ca ops i l→bG P Eqs Sg F rid false ops b l st kk=some r → J (yj mk rid i) n Z0 w0 O ψ0 Z ψ (look st.tmps) st.heap.get a w→wpOps P ops Q (l.map Prod.fst) a w
 |[],i,st,Z,ψ,a,w,_,hx,j=>hQ st Z ψ a w hx j.ok j.tr
 |(i',o)::l,i,st,Z,ψ,a,w,hl,hx,j=>by
  obtain⟨rfl,ho,hl⟩:=hl;have hi:i'<128:=aca (abP.1 ho).1 hn;have Wp:=mZ i' o ho;have ih:=lX E (rid:=rid) (b:=b) mk Xe hn mZ hQ l (i'+1);have up:∀id,yj mk rid i' id→yj mk rid (i'+1) id:=fun id h hm hr=>Nat.lt_succ_of_lt (h hm hr);have runs:∀iX:St,look iX.tmps=look st.tmps→iX.heap=st.heap→Region.wanted o (yielded ops a.tmps)=true →(match pQ P (opId rid i') iX o with
    |some eP=>bG P Eqs Sg F rid false ops b l eP kk
    |none=>match vO o with
    |some x=>lJ iX.heap (ρ iX.tmps x) fun v h=>bG P Eqs Sg F rid false ops b l (({ iX with heap:=h }:St).put o.dst v) kk
    |none=>match isNil P o with
    |some (x,want)=>vP iX.heap (ρ iX.tmps x) want fun v=>bG P Eqs Sg F rid false ops b l (iX.put o.dst v) kk
    |none=>cW P Eqs Sg F (opId rid i') iX.heap iX.tmps o fun e=>if gQ false rid ops b i' (2 ^ i' - 1) e then bG P Eqs Sg F rid false ops b l ({ iX with heap:=match e with | .wr _ h=>h|e=>e.h iX.heap }.put o.dst e.v) kk else none)=some r →
    wpOps P ops Q (((i',o)::l).map Prod.fst) a w:=by
   intro iX h1 h2 hw hx
   split at hx
   ·rename_i eP qg;simp only[List.map_cons,wpOps,ho,hw,if_true];refine .inl ?_;have anY:makes o.op=true:=by
     unfold pQ at qg
     split at qg
     ·rename_i Nv;rw[Nv];rfl
     ·cases qg
    have ah4:mk=true:=by
     grind
    have j1:J (yj mk rid i') n Z0 w0 O ψ0 Z ψ (look iX.tmps) iX.heap.get a w:=by simp_all
    obtain⟨V,w',Z',ψ',c9,j'⟩:=L3 (P:=P) (p':=yj mk rid (i'+1)) (fun id hp rl=>by obtain⟨h3,h4⟩:=rl.parts hi;have:=hp ah4 h3;omega) up (fun _ h3=>by have:=((Jh (rid:=rid) (i:=i')).parts hi).2;omega) j1 Wp qg;unfold Oper.wp;rw[c9];exact ih eP Z' ψ' _ w' hl hx j'
   split at hx
   ·rename_i x PX;simp only[List.map_cons,wpOps,ho,hw,if_true];refine .inl ?_;have Nv:o.op=.next x false:=by
     grind [vO]
    have YN:az Z ψ iX.heap.get w (ρ iX.tmps x) (a.eval x):=rN (by rw[h1,h2];exact j.tr) x;have g1:Good Z ψ iX.heap.get w w0.heap.size O:=by rw[h2];exact j.ok.dn
    obtain⟨v,h',V,w',c9,nx,hr,WU,Wj,q7⟩:=L4 (P:=P) (N:=fun _=>False) (ty:=o.type) g1 YN hx;have Sx:(execOp a.eval o).run P w=.ok (.value V) w':=by simp_all [guard,execOp]
    unfold Oper.wp;rw[Sx];refine ih _ Z ψ _ w' hl WU ?_;rw[ic,da];have j1:J (yj mk rid i') n Z0 w0 O ψ0 Z ψ (look iX.tmps) iX.heap.get a w:=by simp_all
    refine⟨j1.ok.next (fun id h=>h.elim) nx,(j1.tr.next g1 nx (fun d=>(j1.tm d).imp fun _ _ h=>h)).put Wp hr,fun d=>?_,fun k ty cs hb=>(j1.hm k ty cs (q7 k ty cs hb)).imp up⟩
    cases mZ:o.dst with
    |none=>exact(j1.tm d).imp up
    |some d0 =>
     simp only[ib,dS]
     split
     ·exact Wj _
     ·exact(j1.tm d).imp up
   split at hx
   ·rename_i x want hnl;obtain⟨op,t,v,t',et,Nv,ht,rfl,Cc⟩:=L5 hnl;simp only[List.map_cons,wpOps,ho,hw,if_true];refine .inl ?_;have YN:az Z ψ iX.heap.get w (ρ iX.tmps x) (a.eval x):=rN (by rw[h1,h2];exact j.tr) x;have g1:Good Z ψ iX.heap.get w w0.heap.size O:=by rw[h2];exact j.ok.dn
    obtain⟨c,c9,WU⟩:=Sw (P:=P) g1 x (.const (.slice none 0 0)) YN ht Cc hx;have Sx:(execOp a.eval o).run P w=.ok (.value (.bool c)) w:=by obtain⟨dst,op',type,pos,after,guard⟩:=o;simp only at Nv;subst Nv;have e1:a.eval (.const (.slice none 0 0))=.slice none 0 0:=rfl;simp_all [execOp]
    unfold Oper.wp;rw[Sx];refine ih _ Z ψ _ w hl WU ?_;rw[ic,da];have j1:J (yj mk rid i') n Z0 w0 O ψ0 Z ψ (look iX.tmps) iX.heap.get a w:=by simp_all
    refine⟨j1.ok,j1.tr.put Wp (by rfl),fun d=>?_,fun k ty cs hb=>(j1.hm k ty cs hb).imp up⟩
    cases mZ:o.dst with
    |none=>exact(j1.tm d).imp up
    |some d0 =>
     simp only[ib,dS]
     split
     ·simp only[aI]
     ·exact(j1.tm d).imp up
   rw[lW]at hx;obtain⟨e,he,hx⟩:=ab6.1 hx
   split at hx
   ·rename_i kG;simp only[List.map_cons,wpOps,ho,hw,if_true];refine .inl ?_;have hh:iX.heap.get=st.heap.get:=by rw[h2]
    have qg:aI (yj mk rid (i'+1)) e.v∧uy (yj mk rid (i'+1)) (e.hp st.heap.get):=by
     cases aau:mk with
     |false =>have ht:yj false rid (i'+1)=fun _=>True:=funext fun id=>propext ⟨fun _=>trivial,fun _ h=>by cases h⟩;rw[ht];exact⟨aI.top _,fun _ _ cs _=>aA.top cs⟩
     |true =>
      have YG:uy (mY rid fun k=>k<i') st.heap.get:=fun id ty cs hb=>(j.hm id ty cs hb).imp fun id h1=>h1 aau;have h3:=Cb (hh:=iX.heap) YG (fun k hk=>Ey hk) kG;have hS:∀k,(k<i'∨k=i')→k<i'+1:=fun k hk=>by omega
      exact⟨h3.1.imp fun id h1 _ h2=>hS _ (h1 h2),fun id ty cs hb=>(h3.2 id ty cs hb).imp fun id h1 _ h2=>hS _ (h1 h2)⟩
    refine J.op E (p:=yj mk rid i') (p':=yj mk rid (i'+1)) (rid:=rid) (i:=i') (s:=iX.tmps) (fun hm id hp rl => ?_) j Wp (fun x _=>rN (by rw[h1];exact j.tr) x) (fun x _=>PW (by rw[h1];exact j.tm) x) (fun id o hg=>by simp_all) he (fun _ _ _=>hh) up qg.1 qg.2 fun a' w' Z' ψ' j' => ?_
    ·cases aau:mk with
     |false=>grind
     |true =>obtain⟨h3,h4⟩:=rl.parts hi;have:=hp aau h3;omega
    refine ih _ Z' ψ' a' w' hl hx ?_;rw[ic,da];have j2:J (yj mk rid (i'+1)) n Z0 w0 O ψ0 Z' ψ' (ib (look iX.tmps) o.dst e.v) (bD.heap e iX.heap).get a' w':=by grind [bD.Ji]
    exact j2
   ·cases hx
  have wj:∀iX:St,look iX.tmps=look st.tmps→iX.heap=st.heap→Region.wanted o (yielded ops a.tmps)=false → bG P Eqs Sg F rid false ops b l (iX.put o.dst (.nM [])) kk=some r→wpOps P ops Q (((i',o)::l).map Prod.fst) a w:=by intro iX h1 h2 hw hx;simp only[List.map_cons,wpOps,ho,hw,Bool.false_eq_true,if_false];refine ih _ Z ψ _ w hl hx ?_;rw[ic,da,h1,h2];exact j.skip Wp up
  rw[bG]at hx;simp only[Bool.false_eq_true,if_false]at hx
  split at hx
  ·rename_i hg;exact runs st rfl rfl (by simp[Region.wanted,hg]) hx
  ·rename_i jj want hg
   split at hx
   ·cases hx
   ·rename_i d hd
    split at hx
    ·rename_i t ht;have hw:=B9 j.tr hg hd ht;have hp:∀b,t=b→look (st.put (some d) (.bool b)).tmps=look st.tmps:=fun b hb=>by subst hb;rw[ic];exact FH ht
     cases t<;>simp only[cond_true,cond_false]at hx<;>split at hx<;>rename_i Cc
     ·exact wj _ (hp false rfl) (da _ _ _) (by simp_all) hx
     ·exact runs _ (hp false rfl) (da _ _ _) (by simp_all) hx
     ·exact runs _ (hp true rfl) (da _ _ _) (by simp_all) hx
     ·exact wj _ (hp true rfl) (da _ _ _) (by simp_all) hx
    ·rename_i vs ht;exact wj st rfl rfl (zM j.tr hg hd ht) hx
    ·cases hx
theorem kT(hp h:Heap)(i:Nat):∀(ft:List Nat),(fw ft hp h).get i=if i∈ft then(match hp.get i with|some o=>some o|none=>h.get i) else h.get i
 |[]=>by simp[fw]
 |j::r=>by
  have ih:=kT hp h i r;unfold fw at ih ⊢
  cases hj:hp.get j with
  |none =>
   rw[List.filterMap_cons,hj];simp only[Option.map_none];rw[ih];by_cases e:i=j
   ·subst e;simp[hj]
   ·simp[e]
  |some o =>
   rw[List.filterMap_cons,hj];simp only[Option.map_some,List.cons_append,Heap.get];rw[ih];by_cases e:j=i
   ·subst e;simp[hj]
   ·have e':¬i=j:=fun h=>e h.symm;simp[e,e']
mutual
theorem zN{ft:List Nat}:∀{v:AV},rD ft v=true→aI (fun i=>i∉ft) v
 |.ref id _ _ _,h=>by simp only[aI];simpa[rD] using h
 |.bI id,h=>by simp only[aI];simpa[rD] using h
 |.fn _ cap,h=>by simp only[aI];exact kU (by simpa only[rD] using h)
 |.agg cs,h=>by simp only[aI];exact kU (by simpa only[rD] using h)
 |.nM vs,h=>by simp only[aI];exact kU (by simpa only[rD] using h)
 |.no,_=>by simp only[aI]
 |.bool _,_=>by simp only[aI]
 |.int _ _,_=>by simp only[aI]
 |.str _,_=>by simp only[aI]
 |.lH,_=>by simp only[aI]
 |.fK,_=>by simp only[aI]
 |.fp _ _ _,_=>by simp only[aI]
 |.sl _ _ _,_=>by simp only[aI]
 |.mp _ _ _,_=>by simp only[aI]
theorem kU{ft:List Nat}:∀{l:List AV},uR ft l=true→aA (fun i=>i∉ft) l
 |[],_=>by simp only[aA]
 |v::r,h=>by simp only[uR,Bool.and_eq_true]at h;simp only[aA];exact⟨zN h.1,kU h.2⟩
end
theorem kV{ft:List Nat}:∀{hh:Heap},uU ft hh=true→∀i o,hh.get i=some o→i∉ft∧∀ty cs,o=.box ty cs→aA (fun i=>i∉ft) cs
 |[],_,i,o,h=>by simp[Heap.get]at h
 |(j,.box ty cs)::r,hc,i,o,h=>by
  simp only[uU,Bool.and_eq_true]at hc;simp only[Heap.get]at h
  split at h
  ·rename_i e;subst e;cases h;exact⟨by simpa using hc.1,fun ty cs e=>by cases e;exact kU hc.2.1⟩
  ·exact kV hc.2.2 i o h
 |(j,.own ok x)::r,hc,i,o,h=>by
  simp only[uU,Bool.and_eq_true]at hc;simp only[Heap.get]at h
  split at h
  ·rename_i e;subst e;cases h;exact⟨by simpa using hc.1,fun ty cs e=>by cases e⟩
  ·exact kV hc.2 i o h
theorem Next.frame{hp h1:Heap}{ft:List Nat}(g:Good Z ψ hp.get w B0 O)(hB:B0≤w.heap.size)(bm:∀i ty cs,hp.get i=some (.box ty cs)→aA (fun i=>¬N i) cs) (n:Next Z ψ (hM hp ft).get w w.heap.size (Own ψ (hM hp ft).get) N Z' ψ' h1.get w') (hc:uU ft h1=true) :
  ∃eu,Next Z ψ hp.get w B0 O N Z' eu (fw ft hp h1).get w'∧∀i,i∉ft→eu i=ψ' i:=by
 classical
 have gd:∀i,(hM hp ft).get i=if i∈ft then none else hp.get i:=fun i=>oI ft hp i
 have bz:∀b,Own ψ (hM hp ft).get b→Own ψ hp.get b:=fun b ⟨i,h1,h2⟩=>⟨i,by simp_all,h2⟩;have uY:∀i,i∈ft→h1.get i=none:=fun i hi=>by
  cases e:h1.get i with
  |none=>rfl
  |some o=>grind [absurd,kV]
 have gf:∀i,(fw ft hp h1).get i=if i∈ft then hp.get i else h1.get i:=fun i=>by
  rw[kT]
  grind
 let eu:Nat→Value:=fun i=>if i∈ft then ψ i else ψ' i
 have p1:∀i,i∈ft→eu i=ψ i:=fun i hi=>if_pos hi;have p2:∀i,i∉ft→eu i=ψ' i:=fun i hi=>if_neg hi;have apart:∀i b,i∈ft→hp.get i≠none→ob (ψ i)=some b→¬Own ψ (hM hp ft).get b:=fun i b hi h2 h3 ⟨j,h4,h5⟩=>by
  rw[gd]at h4
  split at h4
  ·exact h4 rfl
  ·rename_i hj;have:=g.apart i j b h2 h4 h3 h5;simp_all
 have cC:∀i b,i∈ft→hp.get i≠none→ob (ψ i)=some b→w'.heap[b]? = w.heap[b]? := fun i b hi h2 h3 =>n.keep.block b (g.bO ⟨i,h2,h3⟩) (apart i b hi h2 h3);have keep:cO ψ hp.get w w':=⟨n.keep.os,n.keep.tape,n.keep.output,n.keep.size,fun b hb hn=>n.keep.block b hb fun ho=>hn (bz b ho)⟩;have sm:cm Z w w':=keep.same g;have ids:∀i,(fw ft hp h1).get i≠none→(hp.get i≠none∧eu i=ψ i)∨N i:=fun i hi=>by
  rw[gf]at hi;by_cases hf:i∈ft
  ·simp_all
  ·rw[if_neg hf]at hi;rcases n.ids i hi with⟨h2,h3⟩|h2
   ·simp_all
   simp_all
 have nz:∀i b,i∈ft→hp.get i≠none→ob (ψ i)=some b→¬Z' b:=fun i b hi h2 h3 hz=>by
  rcases n.eO b hz with h4|h4|h4
  ·exact(g.live i b h2 h3).1 h4
  ·grind
  ·have:=g.bO ⟨i,h2,h3⟩;omega
 refine⟨eu,⟨n.fX,fun b hb=>(n.eO b hb).imp (fun h=>h) (fun h=>h.imp (bz b) fun h=>h),keep,ids,⟨fun i ty cs hb=>?_,fun i ok x hb=>?_,fun i b h2 h3=>?_,fun i j b h2 h3 h4 h5=>?_,n.dn.j7⟩⟩,p2⟩
 ·rw[gf]at hb;by_cases hf:i∈ft
  ·rw[if_pos hf]at hb;obtain⟨gg,vs,e1,e2,e3,e4⟩:=g.box i ty cs hb;refine⟨gg,vs,by simp_all,(cC i gg hf (by rw[hb];simp) (by rw[e1];rfl)).trans e2,e3.move n.fX sm (fun j hj bw=>(ids j bw).resolve_right hj) (bm i ty cs hb),e4⟩
  ·rw[if_neg hf]at hb;obtain⟨gg,vs,e1,e2,e3,e4⟩:=n.dn.box i ty cs hb;refine⟨gg,vs,by simp_all,e2,e3.move (fun _ h=>h) (cm.refl _ _) (fun j hj bw=>?_) ((kV hc i _ hb).2 ty cs rfl),e4⟩;simp_all
 ·rw[gf]at hb;by_cases hf:i∈ft
  ·rw[if_pos hf]at hb;rw[p1 i hf];exact(g.row i ok x hb).kept n.fX sm (fun b oa=>cC i b hf (by rw[hb];simp) oa)
  ·rw[if_neg hf]at hb;rw[p2 i hf];exact n.dn.row i ok x hb
 ·rw[gf]at h2;by_cases hf:i∈ft
  ·rw[if_pos hf]at h2;rw[p1 i hf]at h3;exact⟨nz i b hf h2 h3,(g.live i b h2 h3).2⟩
  ·rw[if_neg hf]at h2;rw[p2 i hf]at h3;obtain⟨h4,h5⟩:=n.dn.live i b h2 h3;refine⟨h4,h5.elim (fun h=>.inl (ab0 hB h)) fun h=>?_⟩;obtain⟨j,h6,h7⟩:=bz b h;exact(g.live j b h6 h7).2
 ·have mixed:∀i j b,i∈ft→j∉ft→(fw ft hp h1).get i≠none→(fw ft hp h1).get j≠none→ob (eu i)=some b→ob (eu j)=some b→False:=fun i j b hi hj h2 h3 h4 h5=>by
   rw[gf,if_pos hi]at h2;rw[gf,if_neg hj]at h3;rw[p1 i hi]at h4;rw[p2 j hj]at h5;rcases (n.dn.live j b h3 h5).2 with h6|h6
   ·have:=g.bO ⟨i,h2,h4⟩;omega
   grind
  by_cases hi:i∈ft<;>by_cases hj:j∈ft
  ·rw[gf,if_pos hi]at h2;rw[gf,if_pos hj]at h3;rw[p1 i hi]at h4;rw[p1 j hj]at h5;exact g.apart i j b h2 h3 h4 h5
  ·grind
  ·grind
  ·rw[gf,if_neg hi]at h2;rw[gf,if_neg hj]at h3;rw[p2 i hi]at h4;rw[p2 j hj]at h5;exact n.dn.apart i j b h2 h3 h4 h5
theorem J.opF(E:Env P Eqs Sg F){rid n i:Nat}{p:Nat→Prop}{T:Nat→AV}{a:Act}{s:List (Nat×AV)}{o:Oper}(hS:makes o.op=true→∀id,p id→¬Of rid i id){hp h1:Heap}{v:AV}{ft:List Nat}(j:J p n Z0 w0 O ψ0 Z ψ T hp.get a w)(hd:iQ n o=true) (hT:∀x∈o.op.operands,az Z ψ hp.get w (ρ s x) (a.eval x)) (hTm:∀x∈o.op.operands,aI p (ρ s x)) (he:cW P Eqs Sg F (opId rid i) (hM hp ft) s o some=some (.wr v h1)) (hc:mh ft (.wr v h1)=true) {p':Nat→Prop} (Ry:∀k,p k→p' k) (hv:aI p' v) (hh':uy p' (fw ft hp h1).get) {next:Act→World→Prop} {Q:Exit→Act→World→Prop} (hk:∀a' w' Z' ψ',J p' n Z0 w0 O ψ0 Z' ψ' (ib T o.dst v) (fw ft hp h1).get a' w'→next a' w'):o.wp P a w next Q:=by
 have nof:∀id,p id→¬(makes o.op=true∧Of rid i id):=fun id h ⟨h1,h2⟩=>hS h1 id h h2;simp only[mh,Bool.and_eq_true]at hc;have bz:∀id o,(hM hp ft).get id=some o→hp.get id=some o:=fun id o h=>by grind [oI]
 have bw:∀id,(hM hp ft).get id≠none→hp.get id≠none:=fun id h=>by obtain⟨o,ho⟩:=abQ.1 h;simp_all
 have bm:∀i' ty cs,hp.get i'=some (.box ty cs)→aA (fun id=>¬(makes o.op=true∧Of rid i id)) cs:=fun id ty cs hb=>(j.hm id ty cs hb).imp nof;have gs:Good Z ψ (hM hp ft).get w w.heap.size (Own ψ (hM hp ft).get):=(j.ok.dn.sub bz).Hc _;refine YM (N:=fun id=>makes o.op=true∧Of rid i id) E gs (abX _) (fun _ _ h=>h) (id:=opId rid i) (fun hm k hk=>⟨hm,Nu hk⟩) (fun x hx=>(hT x hx).nQ bz) (fun x hx=>(hTm x hx).imp nof) (fun id ty cs hb=>bm id ty cs (bz _ _ hb)) (fun _ _ _=>rfl) he fun V w' Z' ψ' nx hr=>?_;obtain⟨eu,n2,h2⟩:=Next.frame j.ok.dn j.ok.size bm nx hc.2;have PY:az Z' eu (fw ft hp h1).get w' v V:=hr.move (p:=fun i=>i∉ft) (fun _ h=>h) (cm.refl _ _) (fun k hk bw=>by rw[kT,if_neg hk]at bw;exact⟨bw,h2 k hk⟩) (zN hc.1);refine hk _ w' Z' eu ⟨j.ok.next (fun id h=>by grind [Of]) n2,(j.tr.next j.ok.dn n2 (fun d=>(j.tm d).imp nof)).put hd PY,fun d=>?_,hh'⟩
 cases mZ:o.dst with
 |none=>exact(j.tm d).imp Ry
 |some d0 =>
  simp only[ib,dS]
  split
  ·exact hv
  ·exact(j.tm d).imp Ry
end Go.Vs
namespace Go.Vs
variable {P:Program} {Eqs:TypeId→Option K} {Sg:FuncId→Option aO} {F:(f:FuncId)→(g:aO)→g.A→Option g.B} {R:Type}
variable {Z Z' Z0:Nat→Prop} {ψ ψ':Nat→Value} {h h':Hp} {w w' w0:World} {B0:Nat} {O N:Nat→Prop}
variable {rid n:Nat} {ops:Array Oper} {b:Array Nat}
def tg(b:Array Nat)(i j:Nat):Prop:=(b.getD i 0).testBit j=true
theorem FJ(b:Array Nat)(j:Nat):∀(l:List Edge) (s:Nat),(l.foldl (fun s e=>if Region.binds .any e then s ||| 2 ^ e.on ||| b.getD e.on 0 else s) s).testBit j=true ↔
  s.testBit j=true∨∃e∈l,Region.binds .any e=true∧(j=e.on∨tg b e.on j)
 |[],s=>by simp
 |e::l,s=>by
  rw[List.foldl_cons,FJ b j l];by_cases hb:Region.binds .any e=true
  ·rw[if_pos hb];have h2:(2 ^ e.on).testBit j=true↔j=e.on:=by grind
   simp only[Nat.testBit_or,Bool.or_eq_true,h2,List.mem_cons,exists_eq_or_imp,hb,true_and,tg]
   grind
  simp_all
theorem AT(hb:vN ops b=true){i j:Nat}{o:Oper}(ho:ops[i]? = some o):tg b i j↔∃e∈o.after.toList,Region.binds .any e=true∧(j=e.on∨tg b e.on j):=by have aK:=(abP.1 ho).1;have h1:=ab7.1 hb i (ab9.2 aK);rw[ho]at h1;simp only[Bool.and_eq_true,beq_iff_eq]at h1;unfold tg;rw[h1.2,FJ];simp[tg]
theorem L6(hb:vN ops b=true){i:Nat}{o:Oper}(ho:ops[i]? = some o){e:Edge}(he:e∈o.after.toList)(Rx:Region.binds .any e=true):e.on<i:=by
 have aK:=(abP.1 ho).1;have h1:=ab7.1 hb i (ab9.2 aK)
 grind
theorem Cd(hb:vN ops b=true):∀(i j:Nat),i<ops.size→tg b i j→j<i:=by
 intro i
 induction i using Nat.strongRecOn with
 |ind i ih =>
  intro j hi h;obtain⟨e,he,Rx,h1⟩:=(AT hb (abZ hi)).1 h;have hon:=L6 hb (abZ hi) he Rx
  grind
theorem FK(hb:vN ops b=true):∀(i j k:Nat),i<ops.size→tg b i j→tg b j k→tg b i k:=by
 intro i
 induction i using Nat.strongRecOn with
 |ind i ih =>
  intro j k hi h h';obtain⟨e,he,Rx,h1⟩:=(AT hb (abZ hi)).1 h;have hon:=L6 hb (abZ hi) he Rx;refine(AT hb (abZ hi)).2 ⟨e,he,Rx,?_⟩
  grind
theorem get_filter(f:Nat→Bool):∀(hh:Heap) (i:Nat),Heap.get (hh.filter fun p=>f p.1) i=if f i then hh.get i else none
 |[],i=>by simp[Heap.get]
 |(j,o)::r,i=>by
  rw[List.filter_cons]
  split
  ·rename_i hj;simp only[Heap.get];by_cases e:j=i
   ·simp_all
   simp_all [if_neg,get_filter]
  ·rename_i hj;rw[get_filter f r i];simp only[Heap.get]
   grind
theorem PZ(rid LB:Nat)(hh:Heap)(id:Nat):(ahead rid LB hh).get id=if tX rid LB id then hh.get id else none:=by unfold ahead;exact get_filter (fun i=>tX rid LB i) hh id
theorem Jl(ft:List Nat)(hp:Heap)(e:bD):(gW ft hp e).v=e.v:=by cases e<;>rfl
theorem Jm{id:Nat}{hh:Heap}{s:List (Nat×AV)}{o:Oper}{x:Operand}{e:bD}(hl:iP o.op=some x)(he:cW P Eqs Sg F id hh s o some=some e):∃v,e=.val v:=by
 obtain⟨dst,op,type,pos,after,guard⟩:=o
 cases op<;>simp only[iP]at hl<;>first|simp_all|skip
 case load t a =>
  simp only[cW,mf]at he
  grind [Option.some.inj,Option.bind_eq_some_iff]
 case indexAddr t a i =>
  simp only[cW,dw]at he
  repeat' (first|(cases he;done)|exact⟨_,(ab2 he).symm⟩|split at he)
  all_goals first
   |grind [Option.bind_eq_some_iff,Option.some.inj]
   |grind
theorem yk{op:Op}{x:Operand}(hl:iP op=some x):nO op=false∧AF op=false:=by cases op<;>simp only[iP]at hl<;>first|(cases hl;done)|exact⟨rfl,rfl⟩
theorem L7{id:Nat}{hh h2:Heap}{s:List (Nat×AV)}{o:Oper}{x:Operand}(hl:iP o.op=some x)(hg:∀i∈kK (ρ s x),h2.get i=hh.get i):cW P Eqs Sg F id h2 s o some=cW P Eqs Sg F id hh s o some:=by
 obtain⟨dst,op,type,pos,after,guard⟩:=o
 cases op<;>simp only[iP]at hl<;>first|(cases hl;done)|skip
 case load t a =>
  cases hl
  simp only[cW,mf]
  cases hv:ρ s x with
  |ref i s' j off=>rw[hv]at hg;simp only[kK,List.mem_singleton,forall_eq]at hg;simp only[hg]
  |_=>rfl
 case indexAddr t a i =>
  cases hl
  simp only[cW,dw]
  cases rp P t with
  |none=>rfl
  |some e =>
   simp only[]
   cases hv:ρ s x with
   |bI k =>
    rw[hv]at hg;have xz:=hg k (by simp[kK])
    cases ρ s i<;>first|rfl|simp only[xz]
   |sl ex k xs=>cases ρ s i<;>rfl
   |_=>rfl
def qN(ops:Array Oper)(T:Nat→AV)(o:Oper)(t:Bool):Prop :=match o.guard with
 |none=>t=true
 |some (j,want)=>∃d,(ops[j]?).bind (·.dst)=some d∧((∃u,T d=.bool u∧(u==want)=t)∨(∃vs,T d=.nM vs∧t=false))
def Ce(P:Program)(Eqs:TypeId→Option K)(Sg:FuncId→Option aO)(F:(f:FuncId)→(g:aO)→g.A→Option g.B)(rid:Nat)(ops:Array Oper)(b:Array Nat)(T:Nat→Nat→AV)(H:Nat→Hp)(E:Nat→Option bD)(k:Nat)(o:Oper):Prop :=(∃e s hh,E k=some e∧look s=T k∧(∀id,Heap.get hh id=if tX rid (b.getD k 0) id then H k id else none)∧(∃e0,cW P Eqs Sg F (opId rid k) (hM hh (gV ops b k s o)) s o some=some e0∧e=gW (gV ops b k s o) hh e0∧mh (gV ops b k s o) e0=true) ∧
  gQ true rid ops b k (b.getD k 0) e=true∧qN ops (T k) o true∧T (k+1)=ib (T k) o.dst e.v∧H (k+1)=e.hp (H k)) ∨
 (E k=none∧qN ops (T k) o false∧T (k+1)=ib (T k) o.dst (.nM [])∧H (k+1)=H k)
theorem trace{kk:St→Option R}{r:R}:∀(l:List (Nat×Oper)) (i:Nat) (st:St),Ca ops i l→l.length=ops.size-i→bG P Eqs Sg F rid true ops b l st kk=some r → ∃(T:Nat→Nat→AV) (H:Nat→Hp) (E:Nat→Option bD),T i=look st.tmps∧H i=st.heap.get∧(∀k o,i≤k→ops[k]? = some o→Ce P Eqs Sg F rid ops b T H E k o) ∧ ∃eP,kk eP=some r∧look eP.tmps=T (max i ops.size)∧eP.heap.get=H (max i ops.size)
 |[],i,st,_,hlen,hx=>by
  have Wl:ops.size≤i:=by grind
  refine⟨fun _=>look st.tmps,fun _=>st.heap.get,fun _=>none,rfl,rfl,fun k o hk ho=>?_,st,hx,rfl,rfl⟩
  grind
 |(i',o)::l,i,st,hl,hlen,hx=>by
  obtain⟨rfl,ho,hl⟩:=hl;have aK:=(abP.1 ho).1;have ih:=trace (kk:=kk) (r:=r) l (i'+1);have acU:l.length=ops.size-(i'+1):=by grind
  have glue:∀(eP:St) (oe:Option bD),bG P Eqs Sg F rid true ops b l eP kk=some r →(∀T H E,T i'=look st.tmps→H i'=st.heap.get→E i'=oe→T (i'+1)=look eP.tmps→H (i'+1)=eP.heap.get→Ce P Eqs Sg F rid ops b T H E i' o) → ∃(T:Nat→Nat→AV) (H:Nat→Hp) (E:Nat→Option bD),T i'=look st.tmps∧H i'=st.heap.get∧(∀k o,i'≤k→ops[k]? = some o→Ce P Eqs Sg F rid ops b T H E k o) ∧ ∃eP,kk eP=some r∧look eP.tmps=T (max i' ops.size)∧eP.heap.get=H (max i' ops.size):=by
   intro eP oe WN zp;obtain⟨T,H,E,h1,h2,h3,ah6,h4,h5,h6⟩:=ih eP hl acU WN;refine⟨fun k=>if k≤i' then look st.tmps else T k,fun k=>if k≤i' then st.heap.get else H k,fun k=>if k=i' then oe else E k,by simp,by simp,fun k o' hk rl => ?_,ah6,h4,?_,?_⟩
   ·by_cases hki:k=i'
    ·grind
    ·have h7:=h3 k o' (by omega) rl;unfold Ce at h7 ⊢;simp only[show ¬k≤i' by omega,show ¬k+1≤i' by omega,hki,if_false];exact h7
   ·grind
   grind
  have runs:∀iX:St,look iX.tmps=look st.tmps→iX.heap=st.heap→qN ops (look st.tmps) o true →(cW P Eqs Sg F (opId rid i') (hM (ahead rid (b.getD i' 0) iX.heap) (gV ops b i' iX.tmps o)) iX.tmps o fun e=>if(gQ true rid ops b i' (b.getD i' 0) (gW (gV ops b i' iX.tmps o) (ahead rid (b.getD i' 0) iX.heap) e)&&mh (gV ops b i' iX.tmps o) e)=true then bG P Eqs Sg F rid true ops b l ({ iX with heap:=match gW (gV ops b i' iX.tmps o) (ahead rid (b.getD i' 0) iX.heap) e with | .wr _ h=>h|e=>e.h iX.heap }.put o.dst e.v) kk else none)=some r →
    ∃(T:Nat→Nat→AV) (H:Nat→Hp) (E:Nat→Option bD),T i'=look st.tmps∧H i'=st.heap.get∧(∀k o,i'≤k→ops[k]? = some o→Ce P Eqs Sg F rid ops b T H E k o) ∧ ∃eP,kk eP=some r∧look eP.tmps=T (max i' ops.size)∧eP.heap.get=H (max i' ops.size):=by
   intro iX h1 h2 hw hx;rw[lW]at hx;obtain⟨e,he,hx⟩:=ab6.1 hx
   split at hx
   ·rename_i kG;rw[Bool.and_eq_true]at kG;generalize FL:gW (gV ops b i' iX.tmps o) (ahead rid (b.getD i' 0) iX.heap) e=e1 at hx kG;have xY:e.v=e1.v:=by grind [Jl]
    refine glue _ (some e1) hx fun T H E hT hH hE hT' hH' => ?_;refine .inl ⟨e1,iX.tmps,_,hE,by rw[hT,h1],fun id=>by rw[PZ,hH,h2],⟨e,he,FL.symm,kG.2⟩,kG.1,by grind,?_,?_⟩
    ·grind [ic]
    ·rw[hH',da,hH];have:(bD.heap e1 iX.heap).get=e1.hp st.heap.get:=by rw[bD.Ji,h2]
     exact this
   ·cases hx
  have wj:∀iX:St,look iX.tmps=look st.tmps→iX.heap=st.heap→qN ops (look st.tmps) o false → bG P Eqs Sg F rid true ops b l (iX.put o.dst (.nM [])) kk=some r → ∃(T:Nat→Nat→AV) (H:Nat→Hp) (E:Nat→Option bD),T i'=look st.tmps∧H i'=st.heap.get∧(∀k o,i'≤k→ops[k]? = some o→Ce P Eqs Sg F rid ops b T H E k o) ∧ ∃eP,kk eP=some r∧look eP.tmps=T (max i' ops.size)∧eP.heap.get=H (max i' ops.size):=by
   intro iX h1 h2 hw hx;refine glue _ none hx fun T H E hT hH hE hT' hH'=>.inr ⟨hE,by grind,?_,?_⟩
   ·grind [ic]
   grind [da]
  rw[bG]at hx;simp only[if_true]at hx
  split at hx
  ·rename_i hg;exact runs st rfl rfl (by simp[qN,hg]) hx
  ·rename_i jj want hg
   split at hx
   ·cases hx
   ·rename_i d hd
    split at hx
    ·rename_i t ht;have hp:∀b,t=b→look (st.put (some d) (.bool b)).tmps=look st.tmps:=fun b hb=>by subst hb;rw[ic];exact FH ht
     have hw:∀c,(t==want)=c→qN ops (look st.tmps) o c:=fun c hc=>by
      grind [qN]
     cases t<;>simp only[cond_true,cond_false]at hx<;>split at hx<;>rename_i Cc
     ·exact wj _ (hp false rfl) (da _ _ _) (hw _ (by simp[Cc])) hx
     ·exact runs _ (hp false rfl) (da _ _ _) (hw _ (by simp[Cc])) hx
     ·exact runs _ (hp true rfl) (da _ _ _) (hw _ (by simp[Cc])) hx
     ·exact wj _ (hp true rfl) (da _ _ _) (hw _ (by simp[Cc])) hx
    ·rename_i vs ht;exact wj st rfl rfl (by unfold qN;grind) hx
    ·cases hx
def Nf(ops:Array Oper)(j:Nat):Prop:=∃o,ops[j]? = some o∧nO o.op=false∧iP o.op=none
def Cf(E:Nat→Option bD)(k:Nat):Prop:=∃v h',E k=some (.wr v h')
def IsN(E:Nat→Option bD)(k:Nat):Prop:=∃v os,E k=some (.new v os)
theorem wm{α:Type}(f:α→Option Nat):∀(l:List α),cc (l.filterMap f)=true→∀(i j:Nat) (x y:α) (d:Nat),l[i]? = some x→l[j]? = some y→f x=some d→f y=some d→i=j
 |[],_,i,j,x,y,d,hi,_,_,_=>by simp at hi
 |a::r,hn,i,j,x,y,d,hi,hj,hx,hy=>by
  have iW:∀(k:Nat) (z:α),r[k]? = some z→f z=some d→d∈r.filterMap f:=fun k z hk hz=>aef.2 ⟨z,ab3 hk,hz⟩;have hr:cc (r.filterMap f)=true∧∀c,f a=some c→c∉r.filterMap f:=by
   rw[List.filterMap_cons]at hn
   split at hn
   ·rename_i h0;exact⟨hn,fun c hc=>by rw[h0]at hc;cases hc⟩
   ·rename_i c h0;simp only[cc,Bool.and_eq_true,Bool.not_eq_true']at hn;refine⟨hn.2,fun c' hc=>?_⟩;rw[h0]at hc;cases hc;intro hm;rw[List.contains_iff_mem.2 hm]at hn;simp at hn
  cases i with
  |zero =>
   cases j with
   |zero=>rfl
   |succ j =>simp only[List.getElem?_cons_zero,Option.some.injEq]at hi;subst hi;exact absurd (iW j y (by simpa using hj) hy) (hr.2 d hx)
  |succ i =>
   cases j with
   |zero =>simp only[List.getElem?_cons_zero,Option.some.injEq]at hj;subst hj;exact absurd (iW i x (by simpa using hi) hx) (hr.2 d hy)
   |succ j=>rw[wm f r hr.1 i j x y d (by simpa using hi) (by simpa using hj) hx hy]
structure Dr(P:Program)(Eqs:TypeId→Option K)(Sg:FuncId→Option aO)(F:(f:FuncId)→(g:aO)→g.A→Option g.B)(rid n:Nat)(ops:Array Oper)(b:Array Nat)(T:Nat→Nat→AV)(H:Nat→Hp)(E:Nat→Option bD):Prop where
 size:ops.size≤128
 Sy:vN ops b=true
 pair:Bq ops b=true
 ah8:∀(i:Nat) (o:Oper),ops[i]? = some o→iQ n o=true
 nodup:cc (ops.toList.filterMap (·.dst))=true
 step:∀k o,ops[k]? = some o→Ce P Eqs Sg F rid ops b T H E k o
 ah9:∀id,H 0 id≠none→id / 32768≠rid+1
section
variable {T:Nat→Nat→AV} {H:Nat→Hp} {E:Nat→Option bD}
theorem Dr.wo(D:Dr P Eqs Sg F rid n ops b T H E){i j:Nat}{x y:Oper}{d:Nat}(hi:ops[i]? = some x)(hj:ops[j]? = some y)(hx:x.dst=some d)(hy:y.dst=some d):i=j :=wm (·.dst) ops.toList D.nodup i j x y d (by simpa using hi) (by simpa using hj) hx hy
theorem Dr.YP(D:Dr P Eqs Sg F rid n ops b T H E){i j:Nat}{x y:Oper}(hi:ops[i]? = some x)(hj:ops[j]? = some y)(Fu:i<j):tg b j i∨x.apart ops y=true:=by have h1:=ab7.1 D.pair j (ab9.2 (abP.1 hj).1);have h2:=ab7.1 h1 i (ab9.2 Fu);rw[hi,hj]at h2;simp only[Bool.or_eq_true,Bool.and_eq_true]at h2;exact h2
theorem Dr.Xf(D:Dr P Eqs Sg F rid n ops b T H E){k:Nat}{o:Oper}(ho:ops[k]? = some o){e:bD}(he:E k=some e) :
  ∃s hh,look s=T k∧(∀id,Heap.get hh id=if tX rid (b.getD k 0) id then H k id else none)∧(∃e0,cW P Eqs Sg F (opId rid k) (hM hh (gV ops b k s o)) s o some=some e0∧e=gW (gV ops b k s o) hh e0∧mh (gV ops b k s o) e0=true) ∧
   gQ true rid ops b k (b.getD k 0) e=true∧qN ops (T k) o true∧T (k+1)=ib (T k) o.dst e.v∧H (k+1)=e.hp (H k):=by
 rcases D.step k o ho with⟨e',s,hh,h1,h2⟩|⟨h1,_⟩
 ·grind
 simp_all
theorem Dr.Hi(D:Dr P Eqs Sg F rid n ops b T H E){k:Nat}{o:Oper}(ho:ops[k]? = some o)(he:E k=none) :
  qN ops (T k) o false∧T (k+1)=ib (T k) o.dst (.nM [])∧H (k+1)=H k:=by
 rcases D.step k o ho with⟨e',s,hh,h1,h2⟩|⟨h1,h2⟩
 ·simp_all
 ·exact h2
theorem Dr.yl(D:Dr P Eqs Sg F rid n ops b T H E){k:Nat}(hk:k<ops.size)(h:IsN E k):Nf ops k:=by
 obtain⟨v,os,he⟩:=h;obtain⟨s,hh,_,_,⟨e0,h3,YE,_⟩,_⟩:=D.Xf (abZ hk) he;refine⟨_,abZ hk,?_,?_⟩
 ·cases hf:nO (ops[k]).op with
  |false=>rfl
  |true=>obtain⟨v',rfl⟩:=Je hf h3;cases YE
 ·cases hf:iP (ops[k]).op with
  |none=>rfl
  |some x=>obtain⟨v',rfl⟩:=Jm hf h3;cases YE
theorem Dr.Sz(D:Dr P Eqs Sg F rid n ops b T H E){k:Nat}(hk:k<ops.size)(h:Cf E k):Nf ops k:=by
 obtain⟨v,os,he⟩:=h;obtain⟨s,hh,_,_,⟨e0,h3,YE,_⟩,_⟩:=D.Xf (abZ hk) he;refine⟨_,abZ hk,?_,?_⟩
 ·cases hf:nO (ops[k]).op with
  |false=>rfl
  |true=>obtain⟨v',rfl⟩:=Je hf h3;cases YE
 ·cases hf:iP (ops[k]).op with
  |none=>rfl
  |some x=>obtain⟨v',rfl⟩:=Jm hf h3;cases YE
theorem Dr.Cg(D:Dr P Eqs Sg F rid n ops b T H E){k j:Nat}(hk:k<ops.size)(h:Cf E k)(hj:Nf ops j)(bw:j≠k):(j<k∧tg b k j)∨(k<j∧tg b j k):=by
 obtain⟨v,os,he⟩:=h;obtain⟨s,hh,_,_,_,h4,_⟩:=D.Xf (abZ hk) he;obtain⟨o,ho,hf,Rv⟩:=hj;have Ps:=(abP.1 ho).1;simp only[gQ,Bool.and_eq_true]at h4;have h5:LA ops b k=true:=by simpa using h4.1.1
 have h6:=ab7.1 h5 j (ab9.2 Ps);have hlf:ow ops k j=false:=by unfold ow IK;rw[ho];simp only[Option.bind_some,Rv,Option.map_none]
 rw[hlf,ho]at h6;simp only[Rv,Option.isSome_none,Bool.and_false,Bool.or_false]at h6;simp only[Bool.or_eq_true,beq_iff_eq,hf,Bool.false_eq_true,or_false]at h6;rcases h6 with(h6|h6)|h6
 ·exact absurd h6 bw
 ·exact .inr ⟨Cd D.Sy j k Ps h6,h6⟩
 ·exact .inl ⟨Cd D.Sy k j hk h6,h6⟩
theorem Dr.Ch(D:Dr P Eqs Sg F rid n ops b T H E){p:Nat}:∀(q:Nat),p≤q→q≤ops.size→∀id,(∀k,p≤k→k<q→Cf E k→H (k+1) id=H k id)→(∀k,p≤k→k<q→IsN E k→¬Of rid k id)→H q id=H p id:=by
 intro q
 induction q with
 |zero=>simp_all
 |succ q ih =>
  intro G4 hq id hw bL;by_cases he:p=q+1
  ·rw[he]
  ·have h1:=ih (by omega) (by omega) id (fun k h1 h2=>hw k h1 (by omega)) (fun k h1 h2=>bL k h1 (by omega));rw[←h1];have ho:=abZ (show q<ops.size by omega)
   cases hE:E q with
   |none=>rw[(D.Hi ho hE).2.2]
   |some e =>
    obtain⟨s,hh,_,_,_,h4,_,_,h7⟩:=D.Xf ho hE
    cases e with
    |val v=>rw[h7];rfl
    |wr v h'=>exact hw q (by omega) (by omega) ⟨v,h',hE⟩
    |new v os =>
     rw[h7];simp only[bD.hp]
     cases hos:Heap.get os id with
     |none=>rfl
     |some o' =>
      exfalso;simp only[gQ,Bool.and_eq_true]at h4;refine bL q (by omega) (by omega) ⟨v,os,hE⟩ ?_;have:∀(l:Heap),(l.all fun p=>p.1 / 256==(rid+1)*128+q)=true→∀o',l.get id=some o'→Of rid q id:=by
       intro l
       induction l with
       |nil=>grind [Heap.get]
       |cons a r ihl =>
        intro jA o' hg;simp only[List.all_cons,Bool.and_eq_true,beq_iff_eq]at jA;simp only[Heap.get]at hg
        split at hg
        ·rename_i e;rw[←e];exact jA.1
        simp_all
      grind
theorem Dr.AU(D:Dr P Eqs Sg F rid n ops b T H E){p:Nat}(q:Nat)(G4:p≤q)(hq:q≤ops.size)(hw:∀k,p≤k→k<q→¬Cf E k)(id:Nat)(hn:∀k,p≤k→k<q→IsN E k→¬Of rid k id):H q id=H p id :=D.Ch q G4 hq id (fun k h1 h2 h3=>absurd h3 (hw k h1 h2)) hn
theorem Dr.names(D:Dr P Eqs Sg F rid n ops b T H E):∀(k:Nat),k≤ops.size→∀id,H k id≠none→id / 32768=rid+1→∃j,Of rid j id∧j<k∧j<128∧(IsN E j∨∃w,w<k∧Cf E w∧(j=w∨tg b w j)):=by
 intro k
 induction k with
 |zero=>intro _ id h1 h2;exact absurd h2 (D.ah9 id h1)
 |succ k ih =>
  intro hk id h1 h2;have aK:k<ops.size:=by omega
  have up:H k id≠none→∃j,Of rid j id∧j<k+1∧j<128∧(IsN E j∨∃w,w<k+1∧Cf E w∧(j=w∨tg b w j)):=fun h=>by
   grind
  have ho:=abZ aK;have SA:=D.size
  cases hE:E k with
  |none=>rw[(D.Hi ho hE).2.2]at h1;exact up h1
  |some e =>
   obtain⟨s,hh,_,_,_,h4,_,_,h7⟩:=D.Xf ho hE;rw[h7]at h1
   cases e with
   |val v=>exact up h1
   |wr v h' =>
    obtain⟨o',rl⟩:=abQ.1 h1;simp only[gQ,Bool.and_eq_true]at h4;have h5:(b.getD k 0 ||| 2 ^ k).testBit (id / 256%128)=true:=(mB (S:=fun j=>(b.getD k 0 ||| 2 ^ k).testBit j=true) (fun j hj=>hj) h4.2 id o' rl).1 h2;rw[Nat.testBit_or,Bool.or_eq_true,Nat.testBit_two_pow]at h5;refine⟨id / 256%128,Of.of h2 rfl,?_,by omega,.inr ⟨k,by omega,⟨v,h',hE⟩,?_⟩⟩
    ·rcases h5 with h5|h5
     ·have:=Cd D.Sy k _ aK h5;omega
     simp_all
    ·rcases h5 with h5|h5
     ·exact .inr h5
     simp_all
   |new v os =>
    simp only[bD.hp]at h1
    cases hos:Heap.get os id with
    |none=>simp_all
    |some o' =>
     simp only[gQ,Bool.and_eq_true]at h4;have:∀(l:Heap),(l.all fun p=>p.1 / 256==(rid+1)*128+k)=true→∀o',l.get id=some o'→Of rid k id:=by
      intro l
      induction l with
      |nil=>grind [Heap.get]
      |cons a r ihl =>
       intro jA o' hg;simp only[List.all_cons,Bool.and_eq_true,beq_iff_eq]at jA;simp only[Heap.get]at hg
       split at hg
       ·rename_i e;rw[←e];exact jA.1
       simp_all
     exact⟨k,this os h4.1.2 o' hos,by omega,by omega,.inl ⟨v,os,hE⟩⟩
theorem Dr.aav(D:Dr P Eqs Sg F rid n ops b T H E){q:Nat}(qO:q<ops.size)(YQ:Cf E q):∀id,H q id≠none→mY rid (tg b q) id:=fun id bw SB=>by
 obtain⟨j,h1,h2,h2',h3⟩:=D.names q (by omega) id bw SB;rw[(h1.parts h2').2];rcases h3 with h3|⟨w',h5,h6,h8⟩
 ·rcases D.Cg qO YQ (D.yl (by omega) h3) (by omega) with⟨_,h9⟩|⟨h9,_⟩
  ·exact h9
  ·omega
 ·have hqw:tg b q w':=by
   rcases D.Cg qO YQ (D.Sz (by omega) h6) (by omega) with⟨_,h9⟩|⟨h9,_⟩
   ·exact h9
   ·omega
  rcases h8 with rfl|h8
  ·exact hqw
  ·exact FK D.Sy q w' j qO hqw h8
theorem Dr.oM(D:Dr P Eqs Sg F rid n ops b T H E){d p:Nat}:∀(q:Nat),p≤q→q≤ops.size→(∀m o,p≤m→m<q→ops[m]? = some o→o.dst≠some d)→T q d=T p d
 |0,h,_,_=>by simp_all
 |q+1,h,hq,hm=>by
  by_cases e:p=q+1
  ·rw[e]
  ·have ho:=abZ (show q<ops.size by omega);have ih:=D.oM q (by omega) (by omega) fun m o h1 h2=>hm m o h1 (by omega);rw[←ih];have hd:=hm q _ (by omega) (by omega) ho;have key:∀v,ib (T q) (ops[q]).dst v d=T q d:=fun v=>by
    cases mZ:(ops[q]).dst with
    |none=>rfl
    |some d' =>
     simp only[ib,dS]
     grind
   rcases D.step q _ ho with⟨e,s,hh,_,_,_,_,_,_,h7,_⟩|⟨_,_,h3,_⟩
   ·rw[h7,key]
   simp_all
theorem Dr.YR(D:Dr P Eqs Sg F rid n ops b T H E){i:Nat}(hi:i≤ops.size){x:Operand}{s:List (Nat×AV)}(hs:look s=T i){id:Nat}(bL:id∈kK (ρ s x)):id∈kK (ρ s (stepOf ops i x)):=by
 unfold stepOf
 split
 rotate_left
 ·exact bL
 rename_i d
 split
 rotate_left
 ·exact bL
 rename_i m hf
 split
 rotate_left
 ·exact bL
 rename_i o ho
 split
 rotate_left
 ·exact bL
 rename_i t e f Nv
 split
 ·exact bL
 rename_i bw;obtain⟨hm,IA,_⟩:=acX.1 hf;have hmi:m<i:=by rw[List.length_take]at hm;omega
 have hd:o.dst=some d:=by
  rw[List.getElem_take]at IA;rw[Array.getElem?_eq_getElem (by omega)]at ho
  cases ho
  simpa using IA
 have uY:∀(q:Nat) (o':Oper),m≤q→ops[q]? = some o'→o'.dst≠some e:=fun q o' hq h1 h2=>by obtain⟨h3,h4⟩:=abP.1 h1;exact bw (List.any_eq_true.2 ⟨q,ab9.2 h3,by rw[h1];simp[h2,hq]⟩)
 have e1:T i d=T (m+1) d:=D.oM i (by omega) hi fun q o' h1 h2 h3 h4=>by have:=D.wo h3 ho h4 hd;omega
 have e2:T i e=T m e:=D.oM i (by omega) hi fun q o' h1 _ h3=>uY q o' h1 h3;simp only[ρ,hs]at bL ⊢;rw[e1]at bL;rw[e2];rcases D.step m o ho with⟨ef,s',hh,_,hs',_,⟨e0,h0,FL,_⟩,_,_,h7,_⟩|⟨_,_,h3,_⟩
 ·rw[h7,hd]at bL;simp only[ib,ba]at bL;rw[FL,Jl]at bL;obtain⟨dst,op,type,pos,after,guard⟩:=o;simp only at Nv;subst Nv;simp only[cW,ρ,hs']at h0
  split at h0
  ·rename_i hx
   split at h0
   ·cases h0
   ·cases h0
    rw[hx];exact bL
  ·split at h0
   ·cases h0
   ·cases h0;cases bL
  ·cases h0
 ·rw[h3,hd]at bL;simp only[ib,ba,kK]at bL
  cases bL
theorem Dr.base(D:Dr P Eqs Sg F rid n ops b T H E){i:Nat}(hi:i≤ops.size){x:Operand}{s:List (Nat×AV)}(hs:look s=T i){id:Nat}(bL:id∈kK (ρ s x)):id∈kK (ρ s (Ly ops i x)):=D.YR hi hs (D.YR hi hs bL)
theorem Dr.steady(D:Dr P Eqs Sg F rid n ops b T H E){i k:Nat}{o:Oper}{x:Operand}(ho:ops[i]? = some o)(hl:iP o.op=some x)(hk:k<ops.size)(hw:Cf E k)(bw:i≠k)(h1:¬tg b i k)(h2:¬tg b k i) {s:List (Nat×AV)} (hs:look s=T i) (P0:sN ops b i s o=false) {id:Nat} (bL:id∈kK (ρ s x)):H (k+1) id=H k id:=by
 have qO:=(abP.1 ho).1;obtain⟨v,h',hE⟩:=hw;have kG:=abZ hk;obtain⟨sk,hh,SC,YS,⟨e0,YE,FL,uW⟩,h4,_,_,h7⟩:=D.Xf kG hE;simp only[gQ,Bool.and_eq_true]at h4;have h5:LA ops b k=true:=by simpa using h4.1.1
 have h6:=ab7.1 h5 i (ab9.2 qO);rw[ho,kG]at h6;have b1:(b.getD i 0).testBit k=false:=Bool.eq_false_iff.2 h1;have b2:(b.getD k 0).testBit i=false:=Bool.eq_false_iff.2 h2;have b3:(i==k)=false:=by simp[bw]
 simp only[b1,b2,b3,(yk hl).1,Bool.false_or,Bool.and_eq_true]at h6;obtain⟨Ci,h8⟩:=h6;have Nx:ow ops k i=true:=by
  simp only[Bool.or_eq_true,Bool.and_eq_true]at h8;rcases h8 with h8|⟨h8,_⟩
  ·exact h8
  unfold sN at P0;rw[hl]at P0;simp only[h8,Bool.true_and]at P0;have GX:(kK (ρ s x)).isEmpty=false:=by cases hq:kK (ρ s x) with
   |nil=>rw[hq]at bL;cases bL
   |cons _ _=>rfl
  simp only[GX,Bool.not_false,Bool.true_and,Bool.not_eq_false']at P0;have h9:=ab7.1 P0 k (ab9.2 hk);rw[kG]at h9;have b4:(k==i)=false:=by simp[Ne.symm bw]
  simpa only[b1,b2,b4,Ci,Bool.not_true,Bool.false_or] using h9
 have hft:gV ops b k sk ops[k]=ZW ops b k sk:=by unfold gV;rw[if_pos Ci]
 have hb:=D.base (by omega) hs bL;generalize hy:Ly ops i x=y at hb;have np:ρ sk y=ρ s y:=by
  cases y with
  |tmp d =>
   simp only[ρ,SC,hs];unfold ow IK at Nx;rw[ho]at Nx;simp only[Option.bind_some,hl,Option.map_some,hy]at Nx;have hm:∀m o',min k i≤m→m<max k i→ops[m]? = some o'→o'.dst≠some d:=fun m o' g1 g2 g3 hd=>by have g4:=ab7.1 Nx m (ab9.2 (by omega));rw[g3]at g4;simp[hd,g1,g2]at g4
   rcases Nat.lt_or_ge i k with g|g
   ·exact D.oM k (by omega) (by omega) fun m o' g1 g2=>hm m o' (by omega) (by omega)
   ·exact(D.oM i (by omega) (by omega) fun m o' g1 g2=>hm m o' (by omega) (by omega)).symm
  |_=>rfl
 have iW:id∈gV ops b k sk ops[k]:=by rw[hft];unfold ZW;refine List.mem_flatMap.2 ⟨i,ab9.2 qO,?_⟩;unfold IK;rw[b1,b2,b3,ho];simp only[Bool.or_self,Bool.false_eq_true,if_false,Option.bind_some,hl,Option.map_some,hy];rw[np];exact hb
 cases e0 with
 |val v0=>cases FL
 |new v0 os=>cases FL
 |wr v0 We =>
  cases FL
  simp only[mh,Bool.and_eq_true]at uW;have hn:We.get id=none:=by
   cases e:We.get id with
   |none=>rfl
   |some ob=>exact absurd iW (kV uW.2 id ob e).1
  rw[h7];show(fw _ hh We).get id=H k id;rw[kT,if_pos iW,hn,YS id]
  cases aib:H k id with
  |none=>simp
  |some ob =>
   have h8:=D.aav hk ⟨_,_,hE⟩ id (by rw[aib];simp);have h9:tX rid (b.getD k 0) id=true:=by
    unfold tX;by_cases hr:id / 32768=rid+1
    ·have:=h8 hr;unfold tg at this;rw[this];simp
    ·simp[hr]
   rw[if_pos h9]
end
end Go.Vs
namespace Go.Vs
variable {P:Program} {Eqs:TypeId→Option K} {Sg:FuncId→Option aO} {F:(f:FuncId)→(g:aO)→g.A→Option g.B} {R:Type}
variable {Z Z' Z0:Nat→Prop} {ψ ψ' ψ0:Nat→Value} {h h':Hp} {w w' w0:World} {B0:Nat} {O N:Nat→Prop}
variable {rid n:Nat} {ops:Array Oper} {b:Array Nat} {T:Nat→Nat→AV} {H:Nat→Hp} {E:Nat→Option bD}
structure Dj(rid:Nat)(ops:Array Oper)(b:Array Nat)(T:Nat→Nat→AV)(H:Nat→Hp)(E:Nat→Option bD)(S:Nat→Prop)(Tc:Nat→AV)(h:Hp):Prop where
 lt:∀i,S i→i<ops.size
 closed:∀i j,S i→tg b i j→S j
 heap:∃q,q≤ops.size∧(∀k,k<q→Cf E k→S k)∧(q<ops.size→Cf E q∧¬S q)∧∀id,(mY rid S id→h id=H q id)∧(¬mY rid S id→h id=none)
 SD:∀j o d,S j→ops[j]? = some o→o.dst=some d→Tc d=T (j+1) d
 told:∀d,(∀j o,S j→ops[j]? = some o→o.dst≠some d)→Tc d=T 0 d
theorem Dr.SF(D:Dr P Eqs Sg F rid n ops b T H E){k:Nat}{o:Oper}(ho:ops[k]? = some o){d:Nat}(hd:o.dst≠some d):T (k+1) d=T k d:=by
 have:∀v,ib (T k) o.dst v d=T k d:=fun v=>by
  cases mZ:o.dst with
  |none=>rfl
  |some d' =>
   simp only[ib,dS]
   grind
 rcases D.step k o ho with⟨e,s,hh,_,_,_,_,_,_,h7,_⟩|⟨_,_,h3,_⟩
 ·rw[h7,this]
 simp_all
theorem Dr.wq(D:Dr P Eqs Sg F rid n ops b T H E){d:Nat}:∀(i:Nat),i≤ops.size→(∀k o,k<i→ops[k]? = some o→o.dst≠some d)→T i d=T 0 d
 |0,_,_=>rfl
 |i+1,hi,hk=>by rw[D.SF (Array.getElem?_eq_getElem (show i<ops.size by omega)) (hk i _ (by omega) (Array.getElem?_eq_getElem (by omega)))];exact D.wq i (by omega) fun k o h1 h2=>hk k o (by omega) h2
theorem Dr.Hj(D:Dr P Eqs Sg F rid n ops b T H E){d j:Nat}{oj:Oper}(hj:ops[j]? = some oj)(hd:oj.dst=some d):∀(i:Nat),i≤ops.size→j<i→T i d=T (j+1) d
 |0,_,h=>by omega
 |i+1,hi,h=>by
  by_cases e:j=i
  ·rw[e]
  ·have ho:=abZ (show i<ops.size by omega);rw[D.SF ho (fun hdi=>e (D.wo hj ho hd hdi))];exact D.Hj hj hd i (by omega) (by omega)
theorem Dr.looks(D:Dr P Eqs Sg F rid n ops b T H E){S:Nat→Prop}{Tc:Nat→AV}(dj:Dj rid ops b T H E S Tc h){i:Nat}{o:Oper}(ho:ops[i]? = some o)(hS:¬S i)(hb:∀j,tg b i j→S j){d:Nat}(hd:d∈o.looksAt ops):Tc d=T i d:=by
 have hi:=(abP.1 ho).1;by_cases hex:∃(j:Nat) (oj:Oper),ops[j]? = some oj∧oj.dst=some d
 ·obtain⟨j,oj,hj,hdj⟩:=hex;have cC:¬S j→Tc d=T 0 d:=fun hn=>dj.told d fun j' o' hs rl SH=>hn (by rw[D.wo hj rl hdj SH];exact hs);have Sy:i≤j→T i d=T 0 d:=fun Fu=>D.wq i (by omega) fun k o' hk rl SH=>by have:=D.wo hj rl hdj SH;omega
  rcases Nat.lt_trichotomy j i with aK|rfl|Ny
  ·rcases D.YP hj ho aK with h1|h1
   ·rw[dj.SD j oj d (hb j h1) hj hdj,D.Hj hj hdj i (by omega) aK]
   grind [absurd,Oper.apart_spec]
  ·simp_all
  ·rcases D.YP ho hj Ny with h1|h1
   ·rw[cC (fun hs=>hS (dj.closed j i hs h1)),Sy (by omega)]
   grind [absurd,Oper.apart_spec]
 ·rw[dj.told d fun j o' _ rl SH=>hex ⟨j,o',rl,SH⟩,D.wq i (by omega) fun k o' _ rl SH=>hex ⟨k,o',rl,SH⟩]
theorem Dr.SI{S:Nat→Prop}{Tc:Nat→AV}(D:Dr P Eqs Sg F rid n ops b T H E)(dj:Dj rid ops b T H E S Tc h){i:Nat}{o:Oper}(ho:ops[i]? = some o)(hS:¬S i){v:AV}(hv:T (i+1)=ib (T i) o.dst v) :
  (∀j o' d,(S j∨j=i)→ops[j]? = some o'→o'.dst=some d→ib Tc o.dst v d=T (j+1) d)∧(∀d,(∀j o',(S j∨j=i)→ops[j]? = some o'→o'.dst≠some d)→ib Tc o.dst v d=T 0 d):=by
 constructor
 ·intro j o' d hj rl hd;rcases hj with hj|rfl
  ·have bw:j≠i:=fun e=>hS (e▸hj);have:ib Tc o.dst v d=Tc d:=by
    cases mZ:o.dst with
    |none=>rfl
    |some d' =>simp only[ib,dS];rw[if_neg];rintro rfl;exact bw (D.wo rl ho hd mZ)
   rw[this];exact dj.SD j o' d hj rl hd
  simp_all [ib,dS]
 ·intro d hd;have:ib Tc o.dst v d=Tc d:=by
   cases mZ:o.dst with
   |none=>rfl
   |some d' =>
    simp only[ib,dS]
    grind
  rw[this];exact dj.told d fun j o' hj=>hd j o' (.inl hj)
theorem wu{i k id:Nat}(h1:Of rid i id)(h2:Of rid k id):i=k:=by grind [Of]
section
variable {S:Nat→Prop} {Tc:Nat→AV}
theorem Dr.calm(D:Dr P Eqs Sg F rid n ops b T H E)(dj:Dj rid ops b T H E S Tc h){i q:Nat}(hi:Nf ops i)(hS:¬S i)(hq:q≤ops.size)(hw:∀k,k<q→Cf E k→S k):∀k,i≤k→k<q→¬Cf E k:=by
 intro k hik hkq hk;have SC:=hw k hkq hk;have bw:i≠k:=fun e=>hS (e▸SC);rcases D.Cg (by omega) hk hi bw with⟨_,h1⟩|⟨h1,_⟩
 ·exact hS (dj.closed k i SC h1)
 ·omega
theorem Dr.seen(D:Dr P Eqs Sg F rid n ops b T H E)(dj:Dj rid ops b T H E S Tc h){i:Nat}(hi:Nf ops i)(hS:¬S i)(hb:∀j,tg b i j→S j){hh:Heap}(YS:∀id,Heap.get hh id=if tX rid (b.getD i 0) id then H i id else none) :
  ∀id o,hh.get id=some o→h id=some o:=by
 obtain⟨q,hq,hw,lC,lB⟩:=dj.heap;have qO:i<ops.size:=by obtain⟨o,ho,hf1,hf2⟩:=hi;grind
 have hiq:i≤q:=by
  rcases Nat.lt_or_ge q i with h1|h1
  ·obtain⟨h2,h3⟩:=lC (by omega);rcases D.Cg (by omega) h2 hi (by omega) with⟨h4,_⟩|⟨_,h4⟩
   ·omega
   simp_all
  ·exact h1
 intro id o bL;rw[YS]at bL
 split at bL
 ·rename_i kG;have te:mY rid S id:=oJ hb kG;rw[(lB id).1 te,D.AU q hiq hq (D.calm dj hi hS hq hw) id fun k hk _ _ ho=>?_,bL];have SB:=(ho.parts (by have:=D.size;omega)).1;obtain⟨j,h1,h2,_⟩:=D.names i (by omega) id (by rw[bL];simp) SB
  grind [wu]
 ·cases bL
theorem Dr.P1(D:Dr P Eqs Sg F rid n ops b T H E)(dj:Dj rid ops b T H E S Tc h){i:Nat}{o:Oper}{x:Operand}(ho:ops[i]? = some o)(hl:iP o.op=some x)(hS:¬S i)(hb:∀j,tg b i j→S j){s:List (Nat×AV)}(hs:look s=T i)(P0:sN ops b i s o=false) {hh:Heap} (YS:∀id,Heap.get hh id=if tX rid (b.getD i 0) id then H i id else none):∀id∈kK (ρ s x),∀ob,hh.get id=some ob→h id=some ob:=by
 obtain⟨q,hq,hw,lC,lB⟩:=dj.heap;have qO:=(abP.1 ho).1;have SA:=D.size;intro id bL ob oa;rw[YS]at oa
 split at oa
 ·rename_i kG;have te:mY rid S id:=oJ hb kG;rw[(lB id).1 te,←oa];rcases Nat.lt_or_ge q i with hqi|hiq
  ·obtain⟨h2,h3⟩:=lC (by omega);have later:∀k,q<k→k<ops.size→Nf ops k→tg b k q:=fun k h4 h5 h6=>by
    rcases D.Cg (by omega) h2 h6 (by omega) with⟨h7,_⟩|⟨_,h7⟩
    ·omega
    ·exact h7
   have acZ:∀k,q≤k→k<i→Nf ops k→¬S k:=fun k h4 h5 h6 hk=>by
    rcases Nat.eq_or_lt_of_le h4 with e|h7
    ·simp_all
    ·exact h3 (dj.closed k q hk (later k h7 (by omega) h6))
   symm
   refine D.Ch i (by omega) (by omega) id (fun k h4 h5 h6=>?_) (fun k h4 h5 h6 h7=>?_)
   ·have hns:=acZ k h4 h5 (D.Sz (by omega) h6);exact D.steady ho hl (by omega) h6 (by omega) (fun L8=>hns (hb k L8)) (fun L8=>by have:=Cd D.Sy k i (by omega) L8;omega) hs P0 bL
   ·have hns:=acZ k h4 h5 (D.yl (by omega) h6);have h8:=h7.parts (show k<128 by omega);have h9:=te h8.1;simp_all
  ·refine D.Ch q hiq hq id (fun k h4 h5 h6=>?_) (fun k h4 h5 h6 h7=>?_)
   ·have SC:=hw k h5 h6;have bw:i≠k:=fun e=>hS (e▸SC);exact D.steady ho hl (by omega) h6 bw (fun L8=>by have:=Cd D.Sy i k qO L8;omega) (fun L8=>hS (dj.closed k i SC L8)) hs P0 bL
   ·obtain⟨j,h8,h9,_⟩:=D.names i (by omega) id (by rw[oa];simp) (h7.parts (by omega)).1
    grind [wu]
 ·cases oa
theorem SJ(E:Nat→Option bD)(S:Nat→Prop)(m:Nat):∃q,q≤m∧(∀k,k<q→Cf E k→S k)∧(q<m→Cf E q∧¬S q):=by
 classical
 induction m with
 |zero=>simp_all
 |succ m ih =>
  grind
theorem Hk{i id:Nat}(hi:i<128):mY rid (fun k=>S k∨k=i) id↔mY rid S id∨Of rid i id:=by
 constructor
 ·intro h1;by_cases hr:id / 32768=rid+1
  ·rcases h1 hr with h2|h2
   ·exact .inl fun _=>h2
   grind [Of.of]
  ·exact .inl fun h=>absurd h hr
 ·rintro(h1|h1) h2
  ·exact .inl (h1 h2)
  ·exact .inr (h1.parts hi).2
theorem Dr.Jn(D:Dr P Eqs Sg F rid n ops b T H E)(dj:Dj rid ops b T H E S Tc h){i:Nat}(qO:i<ops.size)(hS:¬S i)(hnn:¬IsN E i)(hnw:¬Cf E i) :
  ∃q,q≤ops.size∧(∀k,k<q→Cf E k→S k∨k=i)∧(q<ops.size→Cf E q∧¬(S q∨q=i))∧∀id,(mY rid (fun k=>S k∨k=i) id→h id=H q id)∧(¬mY rid (fun k=>S k∨k=i) id→h id=none):=by
 obtain⟨q,hq,hw,lC,lB⟩:=dj.heap;have SA:=D.size;refine⟨q,hq,fun k h1 h2=>.inl (hw k h1 h2),fun h1=>⟨(lC h1).1,fun h2=>h2.elim (lC h1).2 fun e=>hnw (e▸(lC h1).1)⟩,fun id=>⟨fun h1=>?_,fun h1=>(lB id).2 fun h2=>h1 ((Hk (by omega)).2 (.inl h2))⟩⟩;rcases (Hk (S:=S) (i:=i) (rid:=rid) (by omega)).1 h1 with h2|h2
 ·simp_all
 ·have hn:¬mY rid S id:=fun h3=>h3.B8 (by omega) hS h2;rw[(lB id).2 hn]
  symm
  apply Classical.not_not.1;intro bw;obtain⟨j,h3,_,_,h4⟩:=D.names q hq id bw (h2.parts (by omega)).1;have:=wu h3 h2;subst this;rcases h4 with h4|⟨w',h5,h6,h7|h7⟩
  ·exact hnn h4
  ·simp_all
  ·exact hS (dj.closed w' _ (hw w' h5 h6) h7)
theorem Xg{os:Heap}{i:Nat}(jA:(os.all fun p=>p.1 / 256==(rid+1)*128+i)=true):∀id o,os.get id=some o→Of rid i id:=by
 induction os with
 |nil=>grind [id,Heap.get]
 |cons a r ih =>
  intro id o hg;simp only[List.all_cons,Bool.and_eq_true,beq_iff_eq]at jA;simp only[Heap.get]at hg
  split at hg
  ·rename_i e;rw[←e];exact jA.1
  simp_all
theorem Dr.SK(D:Dr P Eqs Sg F rid n ops b T H E)(dj:Dj rid ops b T H E S Tc h){i:Nat}{o:Oper}(ho:ops[i]? = some o)(hS:¬S i)(hb:∀j,tg b i j→S j){v:AV}{os:Heap}(hE:E i=some (.new v os)) :
  ∃q,q≤ops.size∧(∀k,k<q→Cf E k→S k∨k=i)∧(q<ops.size→Cf E q∧¬(S q∨q=i))∧∀id,(mY rid (fun k=>S k∨k=i) id→(bD.new v os).hp h id=H q id)∧(¬mY rid (fun k=>S k∨k=i) id→(bD.new v os).hp h id=none):=by
 obtain⟨q,hq,hw,lC,lB⟩:=dj.heap;have SA:=D.size;have qO:=(abP.1 ho).1;have hnw:¬Cf E i:=fun⟨v',h',h1⟩=>by simp_all
 have hnf:=D.yl qO ⟨v,os,hE⟩;obtain⟨s,hh,_,_,_,h4,_,_,h7⟩:=D.Xf ho hE;simp only[gQ,Bool.and_eq_true]at h4;have q8:=Xg (rid:=rid) h4.1.2;have hiq:i<q:=by
  rcases Nat.lt_or_ge i q with h1|h1
  ·exact h1
  ·obtain⟨h2,h3⟩:=lC (by omega);have bw:i≠q:=fun e=>hnw (e▸h2);rcases D.Cg (by omega) h2 hnf bw with⟨h4,_⟩|⟨_,h4⟩
   ·omega
   simp_all
 refine⟨q,hq,fun k h1 h2=>.inl (hw k h1 h2),fun h1=>⟨(lC h1).1,fun h2=>h2.elim (lC h1).2 fun e=>hnw (e▸(lC h1).1)⟩,fun id=>⟨fun h1=>?_,fun h1=>?_⟩⟩
 ·simp only[bD.hp];by_cases h2:Of rid i id
  ·have hn:¬mY rid S id:=fun h3=>h3.B8 (by omega) hS h2;have e1:H i id=none:=Classical.not_not.1 fun bw=>by
    obtain⟨j,h3,h4,_⟩:=D.names i (by omega) id bw (h2.parts (by omega)).1
    grind [wu]
   have e2:H (i+1) id=Heap.get os id:=by
    grind [bD.hp,Heap.get,id]
   have e3:H q id=H (i+1) id:=D.AU q hiq hq (fun k h3 h4=>D.calm dj hnf hS hq hw k (by omega) h4) id fun k h3 _ _ h5=>by
    grind [wu]
   grind
  grind [mY,id,Hk,Heap.get,absurd]
 grind [mY,id,Hk,Of,bD.hp,Heap.get,absurd]
theorem Dr.Xh(D:Dr P Eqs Sg F rid n ops b T H E)(dj:Dj rid ops b T H E S Tc h){i:Nat}{o:Oper}(ho:ops[i]? = some o)(hS:¬S i)(hb:∀j,tg b i j→S j){v:AV}{h':Heap}(hE:E i=some (.wr v h')) :
  (∀hh:Heap,(∀id,hh.get id=if tX rid (b.getD i 0) id then H i id else none)→hh.get=h) ∧
  ∃q,q≤ops.size∧(∀k,k<q→Cf E k→S k∨k=i)∧(q<ops.size→Cf E q∧¬(S q∨q=i))∧∀id,(mY rid (fun k=>S k∨k=i) id→h'.get id=H q id)∧(¬mY rid (fun k=>S k∨k=i) id→h'.get id=none):=by
 obtain⟨q,hq,hw,lC,lB⟩:=dj.heap;have SA:=D.size;have qO:=(abP.1 ho).1;have YQ:Cf E i:=⟨v,h',hE⟩;have hnf:=D.Sz qO YQ;obtain⟨s,hh0,_,_,_,h4,_,_,h7⟩:=D.Xf ho hE;simp only[gQ,Bool.and_eq_true]at h4;have hqi:q=i:=by
  rcases Nat.lt_trichotomy q i with h1|h1|h1
  ·obtain⟨h2,h3⟩:=lC (by omega);rcases D.Cg qO YQ (D.Sz (by omega) h2) (by omega) with⟨_,h5⟩|⟨h5,_⟩
   ·simp_all
   ·omega
  ·exact h1
  simp_all
 subst hqi;have own:∀id,H q id≠none→mY rid (tg b q) id:=fun id bw SB=>by
  obtain⟨j,h1,h2,h2',h3⟩:=D.names q hq id bw SB;rw[(h1.parts h2').2];rcases h3 with h3|⟨w',h5,h6,h8⟩
  ·rcases D.Cg qO YQ (D.yl (by omega) h3) (by omega) with⟨_,h9⟩|⟨h9,_⟩
   ·exact h9
   ·omega
  ·have hqw:tg b q w':=by
    rcases D.Cg qO YQ (D.Sz (by omega) h6) (by omega) with⟨_,h9⟩|⟨h9,_⟩
    ·exact h9
    ·omega
   rcases h8 with rfl|h8
   ·exact hqw
   ·exact FK D.Sy q w' j qO hqw h8
 refine⟨fun hh YS=>?_,?_⟩
 ·grind [id,mY,ob,tX,tg]
 ·obtain⟨q',h1,h2,h3⟩:=SJ E (fun k=>S k∨k=q) ops.size;have Wl:q+1≤q':=by
   grind
  have e1:H (q+1)=h'.get:=by rw[h7];rfl
  have Eo:∀j,(b.getD q 0 ||| 2 ^ q).testBit j=true→S j∨j=q:=fun j hj=>by rw[Nat.testBit_or,Bool.or_eq_true,Nat.testBit_two_pow]at hj;exact hj.imp (hb j) (fun h=>(of_decide_eq_true h).symm)
  refine⟨q',h1,h2,h3,fun id=>⟨fun h5=>?_,fun h5=>?_⟩⟩
  ·rw[D.AU q' Wl h1 (fun k h6 h8 h9=>?_) id (fun k h6 h8 h9 pI=>?_),e1]
   ·have hk:=h2 k h8 h9;have SC:S k:=hk.resolve_right (by omega);rcases D.Cg (by omega) h9 hnf (by omega) with⟨_,El⟩|⟨El,_⟩
    ·exact hS (dj.closed k q SC El)
    ·omega
   ·have hk:=h5 (pI.parts (by omega)).1;rw[(pI.parts (by omega)).2]at hk;have SC:S k:=hk.resolve_right (by omega);rcases D.Cg qO YQ (D.yl (by omega) h9) (by omega) with⟨El,_⟩|⟨_,El⟩
    ·omega
    ·exact hS (dj.closed k q SC El)
  ·cases bL:h'.get id with
   |none=>rfl
   |some ob=>grind [absurd,mB,id,ob]
end
section
variable {S:Nat→Prop} {Tc:Nat→AV}
theorem Ez{o:Oper}{d:Nat}(h:Operand.tmp d∈o.op.operands):d∈o.looksAt ops :=abO _ (aef.2 ⟨.tmp d,by simpa using h,rfl⟩)
theorem Jo{o:Oper}{j d:Nat}{want:Bool}(hg:o.guard=some (j,want))(hd:(ops[j]?).bind (·.dst)=some d):d∈o.looksAt ops:=by
 grind [Oper.looksAt,List.mem_append_right]
theorem Dr.wanted(D:Dr P Eqs Sg F rid n ops b T H E)(dj:Dj rid ops b T H E S Tc h){a:Act}{i:Nat}{o:Oper}(ho:ops[i]? = some o)(hS:¬S i)(hb:∀j,tg b i j→S j)(t:cS Z ψ h w n Tc a){c:Bool}(hw:qN ops (T i) o c) :
  Region.wanted o (yielded ops a.tmps)=c:=by
 unfold qN at hw
 split at hw
 ·grind [Region.wanted]
 ·rename_i j want hg;obtain⟨d,hd,hc⟩:=hw;have e:=D.looks dj ho hS hb (Jo hg hd)
  grind [B9,zM]
theorem Dr.L9(D:Dr P Eqs Sg F rid n ops b T H E)(V:Env P Eqs Sg F){i:Nat}{o:Oper}{a:Act}(ho:ops[i]? = some o)(hS:¬S i)(hb:∀j,tg b i j→S j)(dj:Dj rid ops b T H E S Tc h)(j:J (mY rid S) n Z0 w0 O ψ0 Z ψ Tc h a w) {K:Act→World→Prop} {Q:Exit→Act→World→Prop} (hk:∀Tc' h' a' w' Z' ψ',Dj rid ops b T H E (fun k=>S k∨k=i) Tc' h'→J (mY rid fun k=>S k∨k=i) n Z0 w0 O ψ0 Z' ψ' Tc' h' a' w'→K a' w'):wpOp P ops Q i K a w:=by
 have qO:=(abP.1 ho).1;have SA:=D.size;have Wp:=D.ah8 i o ho;have aK:∀k,(S k∨k=i)→k<ops.size:=fun k hk=>hk.elim (dj.lt k) (fun e=>e▸qO);have En:∀k j,(S k∨k=i)→tg b k j→S j∨j=i:=fun k j hk hj=>.inl (hk.elim (fun h=>dj.closed k j h hj) (fun e=>hb j (e▸hj)));unfold wpOp;rw[ho];simp only[]
 cases hE:E i with
 |none =>obtain⟨h1,h2,h3⟩:=D.Hi ho hE;rw[D.wanted dj ho hS hb j.tr h1];simp only[Bool.false_eq_true,if_false];obtain⟨t1,t2⟩:=D.SI dj ho hS h2;refine hk _ h _ w Z ψ ⟨aK,En,D.Jn dj qO hS (fun⟨v,os,h⟩=>by rw[hE]at h;cases h) (fun⟨v,os,h⟩=>by rw[hE]at h;cases h),t1,t2⟩ (j.skip Wp fun id hp hr=>.inl (hp hr))
 |some e =>
  obtain⟨s,hh,h1,h2,h3,h4,h5,h6,h7⟩:=D.Xf ho hE;rw[D.wanted dj ho hS hb j.tr h5];simp only[if_true];refine .inl ?_;obtain⟨t1,t2⟩:=D.SI dj ho hS h6;have hT:∀x∈o.op.operands,az Z ψ h w (ρ s x) (a.eval x)∧aI (mY rid S) (ρ s x):=fun x hx=>by
   cases x with
   |tmp d =>
    have e1:look s d=Tc d:=by rw[h1];exact(D.looks dj ho hS hb (Ez hx)).symm
    simp only[ρ,e1];exact⟨j.tr.rep d,j.tm d⟩
   |const v=>exact⟨IS v,B7 _ v⟩
   |global g=>exact⟨by simp only[ρ,az],by simp only[ρ,aI]⟩
   |func f=>exact⟨by simp only[ρ,az,ar,Act.eval];exact⟨#[],rfl,rfl⟩,by simp only[ρ,aI,aA]⟩
  have qg:=Cb (hh:=[]) j.hm (fun k hk=>hb k hk) h4;obtain⟨e0,h3,FL,uW⟩:=h3
  cases e0 with
  |wr v0 We =>simp only[gW]at FL;subst FL;have mX:=D.Xh dj ho hS hb hE;have YS:=mX.1 hh h2;subst YS;refine J.opF V (rid:=rid) (i:=i) (fun _ id hp=>hp.B8 (by omega) hS) j Wp (fun x hx=>(hT x hx).1) (fun x hx=>(hT x hx).2) h3 uW (p':=mY rid fun k=>S k∨k=i) (fun id hp hr=>.inl (hp hr)) qg.1 qg.2 fun a' w' Z' ψ' j' => ?_;exact hk _ _ a' w' Z' ψ' ⟨aK,En,mX.2,t1,t2⟩ j'
  |val v0 =>
   simp only[gW]at FL;subst FL;have aid:∃hh':Heap,(∀id o,hh'.get id=some o→h id=some o)∧cW P Eqs Sg F (opId rid i) hh' s o some=some (.val v0):=by
    cases hf:nO o.op with
    |true=>exact⟨[],fun id o h=>by simp[Heap.get]at h,by rw[PU hf (h':=hM hh (gV ops b i s o))];exact h3⟩
    |false =>
     cases Rv:iP o.op with
     |some x =>
      have P0:sN ops b i s o=false:=by
       cases hq:sN ops b i s o with
       |false=>rfl
       |true=>unfold gV at uW;rw[(yk Rv).2,hq]at uW;simp[mh]at uW
      have hft:gV ops b i s o=[]:=by unfold gV;rw[(yk Rv).2,P0];rfl
      rw[hft]at h3;have h3':cW P Eqs Sg F (opId rid i) hh s o some=some (.val v0):=h3;have vU:∀id,(fw (kK (ρ s x)) hh []).get id=if id∈kK (ρ s x) then hh.get id else none:=fun id=>by
       rw[kT]
       split
       ·cases hh.get id<;>rfl
       ·rfl
      refine⟨fw (kK (ρ s x)) hh [],fun id ob bL=>?_,?_⟩
      ·rw[vU]at bL
       split at bL
       ·rename_i hm;exact D.P1 dj ho Rv hS hb h1 P0 h2 id hm ob bL
       ·cases bL
      ·rw[L7 Rv (hh:=hh) (fun id hm=>by rw[vU,if_pos hm])];exact h3'
     |none=>exact⟨_,fun id ob bL=>D.seen dj ⟨o,ho,hf,Rv⟩ hS hb h2 id ob (by rw[oI]at bL;split at bL;cases bL;exact bL),h3⟩
   obtain⟨hh',Ma,Px⟩:=aid;refine J.op V (rid:=rid) (i:=i) (fun _ id hp=>hp.B8 (by omega) hS) j Wp (fun x hx=>(hT x hx).1) (fun x hx=>(hT x hx).2) Ma Px (fun v hw he=>by cases he) (p':=mY rid fun k=>S k∨k=i) (fun id hp hr=>.inl (hp hr)) qg.1 qg.2 fun a' w' Z' ψ' j' => ?_;exact hk _ _ a' w' Z' ψ' ⟨aK,En,D.Jn dj qO hS (fun⟨v,os,h⟩=>by rw[hE]at h;cases h) (fun⟨v,os,h⟩=>by rw[hE]at h;cases h),t1,t2⟩ j'
  |new v0 os =>simp only[gW]at FL;subst FL;have hnf:=D.yl qO ⟨v0,os,hE⟩;have Ma:∀id ob,(hM hh (gV ops b i s o)).get id=some ob→h id=some ob:=fun id ob bL=>D.seen dj hnf hS hb h2 id ob (by rw[oI]at bL;split at bL;cases bL;exact bL);refine J.op V (rid:=rid) (i:=i) (fun _ id hp=>hp.B8 (by omega) hS) j Wp (fun x hx=>(hT x hx).1) (fun x hx=>(hT x hx).2) Ma h3 (fun v hw he=>by cases he) (p':=mY rid fun k=>S k∨k=i) (fun id hp hr=>.inl (hp hr)) qg.1 qg.2 fun a' w' Z' ψ' j' => ?_;exact hk _ _ a' w' Z' ψ' ⟨aK,En,D.SK dj ho hS hb hE,t1,t2⟩ j'
theorem Dr.done(D:Dr P Eqs Sg F rid n ops b T H E)(dj:Dj rid ops b T H E S Tc h)(jA:∀k,k<ops.size→S k):Tc=T ops.size∧h=H ops.size:=by
 constructor
 ·funext d;by_cases hex:∃(j:Nat) (oj:Oper),ops[j]? = some oj∧oj.dst=some d
  ·obtain⟨j,oj,hj,hd⟩:=hex;have Ps:=(abP.1 hj).1;rw[dj.SD j oj d (jA j Ps) hj hd,D.Hj hj hd ops.size (Nat.le_refl _) Ps]
  ·rw[dj.told d fun j o' _ rl SH=>hex ⟨j,o',rl,SH⟩,D.wq ops.size (Nat.le_refl _) fun k o' _ rl SH=>hex ⟨k,o',rl,SH⟩]
 ·obtain⟨q,hq,_,lC,lB⟩:=dj.heap;have:q=ops.size:=by
   grind
  subst this;funext id;by_cases te:mY rid S id
  ·simp_all
  ·rw[(lB id).2 te]
   symm
   apply Classical.not_not.1;intro bw;apply te;intro hr;obtain⟨j,h1,h2,h3,_⟩:=D.names ops.size (abX _) id bw hr;rw[(h1.parts h3).2];simp_all
def mC(m:Nat)(ct:Array Bool):Nat:=((List.range m).filter fun i => !ct.getD i false).length
theorem Hl{m:Nat}{ct:Array Bool}{i:Nat}(hi:i<m)(hs:i<ct.size)(hn:ct.getD i false=false):mC m ct=mC m (ct.setIfInBounds i true)+1:=by
 unfold mC;have key:∀(l:List Nat),l.Nodup→i∈l→(l.filter fun k => !ct.getD k false).length=(l.filter fun k => !(ct.setIfInBounds i true).getD k false).length+1:=by
  intro l
  induction l with
  |nil=>simp_all
  |cons a r ih =>
   intro Et hm;rw[List.nodup_cons]at Et;rcases abM.1 hm with rfl|hm
   ·have h2:(r.filter fun k => !ct.getD k false)=(r.filter fun k => !(ct.setIfInBounds i true).getD k false):=by apply List.filter_congr;intro k hk;have bw:i≠k:=fun e=>Et.1 (e▸hk);simp_all
    simp_all
   ·have bw:i≠a:=fun e=>Et.1 (e▸hm);rw[List.filter_cons,List.filter_cons,getD_set_ne false bw]
    grind
 grind
theorem Dr.any(D:Dr P Eqs Sg F rid n ops b T H E)(V:Env P Eqs Sg F){Q:Exit→Act→World→Prop}(hQ:∀Z ψ a w,J (mY rid fun k=>k<ops.size) n Z0 w0 O ψ0 Z ψ (T ops.size) (H ops.size) a w→Q .normal a w) :
  ∀(fuel:Nat) (ct:Array Bool) (Tc:Nat→AV) (h:Hp) (a:Act) (w:World) (Z:Nat→Prop) (ψ:Nat→Value),ct.size=ops.size→mC ops.size ct=fuel → Dj rid ops b T H E (fun k=>ct.getD k false=true) Tc h→J (mY rid fun k=>ct.getD k false=true) n Z0 w0 O ψ0 Z ψ Tc h a w→wpAny P .any ops Q fuel ct a w
 |0,ct,Tc,h,a,w,Z,ψ,hs,hu,dj,j=>by
  have jA:∀k,k<ops.size→ct.getD k false=true:=fun k hk=>by unfold mC at hu;have:=List.filter_eq_nil_iff.1 (abS hu) k (ab9.2 hk);simpa using this
  refine⟨?_,?_⟩
  ·apply List.eq_nil_iff_forall_not_mem.2;intro i hi;obtain⟨h1,o,h2,_⟩:=mem_ready.1 hi;have h3:=(abP.1 h2).1;have h4:=jA i h3;rw[Array.getD_eq_getD_getElem?,Array.getElem?_eq_getElem (by omega)]at h1 h4;simp at h1 h4;rw[h1]at h4;cases h4
  ·obtain⟨e1,e2⟩:=D.done dj jA;subst e1;subst e2;refine hQ Z ψ a w ⟨j.ok,j.tr,fun d=>(j.tm d).imp fun id h1 h2=>dj.lt _ (h1 h2),fun id ty cs hb=>(j.hm id ty cs hb).imp fun id h1 h2=>dj.lt _ (h1 h2)⟩
 |fuel+1,ct,Tc,h,a,w,Z,ψ,hs,hu,dj,j=>by
  have look:∀i,i<ops.size→ct.getD i true=ct.getD i false:=fun i hi=>by rw[Array.getD_eq_getD_getElem?,Array.getD_eq_getD_getElem?,Array.getElem?_eq_getElem (by omega)];rfl
  refine⟨fun hr=>?_,fun i hi=>?_⟩
  ·exfalso;have hex:∃i,i<ops.size∧ct.getD i false=false:=by
    apply Classical.byContradiction;intro hn;unfold mC at hu;rw[List.filter_eq_nil_iff.2]at hu
    ·simp at hu
    ·intro k hk;have:=fun h=>hn ⟨k,ab9.1 hk,h⟩
     cases hl:ct.getD k false with
     |true=>simp
     |false=>exact absurd hl this
   have key:∀i,i<ops.size→ct.getD i false=false→False:=by
    intro i
    induction i using Nat.strongRecOn with
    |ind i ih =>
     intro hi hl;have iW:i∈Region.ready .any ops ct:=by
      refine mem_ready.2 ⟨by rw[look i hi];exact hl,_,abZ hi,fun e he Rx=>?_⟩;have hon:=L6 D.Sy (abZ hi) (by simpa using he) Rx
      cases hle:ct.getD e.on false with
      |true=>rfl
      |false=>exact(ih e.on hon (by omega) hle).elim
     rw[hr]at iW;cases iW
   obtain⟨i,h1,h2⟩:=hex;exact key i h1 h2
  ·obtain⟨h1,o,ho,jA⟩:=mem_ready.1 hi;have qO:=(abP.1 ho).1;have hn:ct.getD i false=false:=by rw[←look i qO];exact h1
   have hS:¬(ct.getD i false=true):=by rw[hn];simp
   have hb:∀k,tg b i k→ct.getD k false=true:=fun k hk=>by
    obtain⟨e,he,Rx,h2⟩:=(AT D.Sy ho).1 hk;have h3:=jA e (by simpa using he) Rx;rcases h2 with rfl|h2
    ·exact h3
    ·exact dj.closed e.on k h3 h2
   refine D.L9 V ho hS hb dj j fun Tc' h' a' w' Z' ψ' dj' j' => ?_;have heq:(fun k=>ct.getD k false=true∨k=i)=(fun k=>(ct.setIfInBounds i true).getD k false=true):=by
    funext k;apply propext;by_cases e:i=k
    ·subst e;simp[show i<ct.size by omega]
    ·rw[getD_set_ne false e];constructor
     ·rintro(h|h)
      ·exact h
      ·exact absurd h.symm e
     ·exact .inl
   rw[heq]at dj' j';exact D.any V hQ fuel _ Tc' h' a' w' Z' ψ' (by simpa using hs) (by have:=Hl qO (by omega) hn;omega) dj' j'
end
end Go.Vs
namespace Go.Vs
variable {P:Program} {Eqs:TypeId→Option K} {Sg:FuncId→Option aO} {F:(f:FuncId)→(g:aO)→g.A→Option g.B} {R:Type}
variable {Z Z' Z0:Nat→Prop} {ψ ψ' ψ0:Nat→Value} {h h':Hp} {w w' w0:World} {B0:Nat} {O N:Nat→Prop}
theorem Cj(f:AV→AV)(hf:f .no=.no):∀(l:List (Nat×AV)) (d:Nat),look (l.map fun p=>(p.1,f p.2)) d=f (look l d)
 |[],d=>by simp[look,hf]
 |(i,v)::r,d=>by
  simp only[List.map_cons,look]
  split
  ·rfl
  simp_all [Cj]
section
variable {rid:Nat}
mutual
theorem ym:∀{a:AV} {v:Value},az Z ψ h w a v→az Z ψ h w (bN rid a) v
 |.ref id s i off,v,hr=>by
  simp only[bN]
  split
  ·simp only[az]
  ·exact hr
 |.bI id,v,hr=>by
  simp only[bN]
  split
  ·simp only[az]
  ·exact hr
 |.fn f cap,v,hr=>by simp only[bN,az]at hr ⊢;obtain⟨vs,e,hl⟩:=hr;exact⟨vs,e,mD hl⟩
 |.agg cs,v,hr=>by simp only[bN,az]at hr ⊢;obtain⟨vs,e,hl⟩:=hr;exact⟨vs,e,mD hl⟩
 |.nM cs,v,hr=>by simp only[bN,az]at hr ⊢;obtain⟨vs,e,hl⟩:=hr;exact⟨vs,e,mD hl⟩
 |.no,v,hr=>by simpa only[bN] using hr
 |.bool _,v,hr=>by simpa only[bN] using hr
 |.int _ _,v,hr=>by simpa only[bN] using hr
 |.str _,v,hr=>by simpa only[bN] using hr
 |.lH,v,hr=>by simpa only[bN] using hr
 |.fK,v,hr=>by simpa only[bN] using hr
 |.fp _ _ _,v,hr=>by simpa only[bN] using hr
 |.sl _ _ _,v,hr=>by simpa only[bN] using hr
 |.mp _ _ _,v,hr=>by simpa only[bN] using hr
theorem mD:∀{a:List AV} {v:List Value},ar Z ψ h w a v→ar Z ψ h w (mi rid a) v
 |[],v,hr=>by simpa only[mi] using hr
 |x::r,v,hr=>by simp only[mi,ar]at hr ⊢;obtain⟨u,us,e,h1,h2⟩:=hr;exact⟨u,us,e,ym h1,mD h2⟩
end
mutual
theorem qh:∀(a:AV),aI (mY rid fun _=>False) (bN rid a)
 |.ref id s i off=>by
  simp only[bN]
  split
  ·simp only[aI]
  ·rename_i hn;simp only[aI];exact fun h=>absurd h hn
 |.bI id=>by
  simp only[bN]
  split
  ·simp only[aI]
  ·rename_i hn;simp only[aI];exact fun h=>absurd h hn
 |.fn f cap=>by simp only[bN,aI];exact jm cap
 |.agg cs=>by simp only[bN,aI];exact jm cs
 |.nM cs=>by simp only[bN,aI];exact jm cs
 |.no=>by simp only[bN,aI]
 |.bool _=>by simp only[bN,aI]
 |.int _ _=>by simp only[bN,aI]
 |.str _=>by simp only[bN,aI]
 |.lH=>by simp only[bN,aI]
 |.fK=>by simp only[bN,aI]
 |.fp _ _ _=>by simp only[bN,aI]
 |.sl _ _ _=>by simp only[bN,aI]
 |.mp _ _ _=>by simp only[bN,aI]
theorem jm:∀(a:List AV),aA (mY rid fun _=>False) (mi rid a)
 |[]=>by simp only[mi,aA]
 |x::r=>by simp only[mi,aA];exact⟨qh x,jm r⟩
end
theorem get_map(f:Ob→Ob):∀(hh:Heap) (i:Nat),Heap.get (hh.map fun p=>(p.1,f p.2)) i=(hh.get i).map f
 |[],i=>rfl
 |(j,o)::r,i=>by
  simp only[List.map_cons,Heap.get]
  split
  ·rfl
  ·exact get_map f r i
def nF(rid:Nat)(hh:Heap):Heap:=(hh.filter fun p=>p.1 / 32768 != rid+1).map fun p=>(p.1,Bu rid p.2)
theorem P2(hh:Heap)(i:Nat):(nF rid hh).get i=if i / 32768=rid+1 then none else(hh.get i).map (Bu rid):=by
 unfold nF;rw[get_map (Bu rid),get_filter (fun i=>i / 32768 != rid+1)]
 grind
theorem iY{hh:Heap}{i:Nat}{o:Ob}(hg:(nF rid hh).get i=some o):i / 32768≠rid+1∧∃o',hh.get i=some o'∧o=Bu rid o':=by
 rw[P2]at hg
 split at hg
 ·cases hg
 ·rename_i hn
  cases h0:hh.get i with
  |none=>simp_all
  |some o'=>simp_all
theorem kW{hh:Heap}{i:Nat}(hg:(nF rid hh).get i≠none):hh.get i≠none:=by
 obtain⟨o,ho⟩:=abQ.1 hg
 grind [iY]
theorem Good.mj{hh:Heap}(g:Good Z ψ hh.get w B0 O):Good Z ψ (nF rid hh).get w B0 O:=by
 refine⟨fun id ty cs hb=>?_,fun id ok xs hb=>?_,fun id b h1 h2=>g.live id b (kW h1) h2,fun id ov b h1 h2 h3 h4=>g.apart id ov b (kW h1) (kW h2) h3 h4,g.j7⟩
 ·obtain⟨_,o',h1,h2⟩:=iY hb
  cases o' with
  |own ok xs=>cases h2
  |box It cs' =>
   cases h2
   obtain⟨gg,vs,h3,h4,h5,h6⟩:=g.box id ty cs' h1;exact⟨gg,vs,h3,h4,mD (h5.less (fun _ h=>h) (cm.refl _ _) fun i hi=>⟨kW hi,rfl⟩),h6⟩
 ·obtain⟨_,o',h1,h2⟩:=iY hb
  cases o' with
  |own WD xs'=>cases h2;exact g.row id _ _ h1
  |box It cs'=>cases h2
theorem Ok.sub{hp:Hp}(k:Ok Z0 w0 O ψ0 Z ψ h w)(g:Good Z ψ hp w w0.heap.size O)(hn:∀id,hp id≠none→h id≠none):Ok Z0 w0 O ψ0 Z ψ hp w :=⟨g,k.fX,k.eO,k.os,k.tape,k.output,k.size,k.block,fun i hi bw=>k.fix i hi (hn i bw)⟩
end
theorem Good.Ck(g:Good Z ψ h w B0 O)(e:w'.heap=w.heap):Good Z ψ h w' B0 O:=by
 have sm:cm Z w w':=fun b _=>by rw[e]
 refine⟨fun id ty cs hb=>?_,fun id ok xs hb=>?_,g.live,g.apart,fun b hb=>by rw[e];exact g.j7 b hb⟩
 ·obtain⟨gg,vs,h1,h2,h3,h4⟩:=g.box id ty cs hb;exact⟨gg,vs,h1,by simp_all,h3.less (fun _ h=>h) sm (fun i hi=>⟨hi,rfl⟩),h4⟩
 ·exact(g.row id ok xs hb).kept (fun _ h=>h) sm (fun gg _=>by rw[e])
theorem Ok.Ck(k:Ok Z0 w0 O ψ0 Z ψ h w)(e:w'.heap=w.heap)(e1:w'.os=w.os)(e2:w'.tape=w.tape)(e3:w'.output=w.output):Ok Z0 w0 O ψ0 Z ψ h w' :=⟨k.dn.Ck e,k.fX,k.eO,e1.trans k.os,e2.trans k.tape,e3.trans k.output,by rw[e];exact k.size,fun b hb ho=>by rw[e];exact k.block b hb ho,k.fix⟩
theorem cS.Ck{n:Nat}{T:Nat→AV}{a:Act}(t:cS Z ψ h w n T a)(e:w'.heap=w.heap):cS Z ψ h w' n T a :=⟨fun d=>(t.rep d).less (fun _ h=>h) (fun b _=>by rw[e]) (fun i hi=>⟨hi,rfl⟩),t.size,t.defers⟩
theorem Hm(V:Env P Eqs Sg F)(hm:P.follows .mixedOrders=true){n rid:Nat}{ops:Array Oper}{draw:Bool}{st:St}{kk:St→Option R}{r:R}{a:Act}{Q:Exit→Act→World→Prop} (hx:iR P Eqs Sg F n rid ops draw st kk=some r) (k:Ok Z0 w0 O ψ0 Z ψ st.heap.get w) (t:cS Z ψ st.heap.get w n (look st.tmps) a) (hQ:∀eP Z ψ a w,kk eP=some r→Ok Z0 w0 O ψ0 Z ψ eP.heap.get w→cS Z ψ eP.heap.get w n (look eP.tmps) a→Q .normal a w):(Code.region rid ops draw).wp P Q a w:=by
 obtain⟨b,hbe,hx⟩:∃b,b=(if draw then Region.before ops else #[])∧(if(ops.all fun o=>iQ n o)&&(!draw || (vN ops b&&(Bq ops b&&cc (ops.toList.filterMap (·.dst)))))&&decide (ops.size≤128) then
  bG P Eqs Sg F rid draw ops b (ops.toList.zipIdx.map fun p=>(p.2,p.1)) (mj draw rid ops st) kk else none)=some r:=⟨_,rfl,hx⟩
 split at hx
 ·rename_i hc;simp only[Bool.and_eq_true,decide_eq_true_eq]at hc;obtain⟨⟨mZ,hdr⟩,iH⟩:=hc;have FM:∀(i:Nat) (o:Oper),ops[i]? = some o→iQ n o=true:=fun i o ho=>aco.1 mZ o (acT ho);have pk:Ok Z0 w0 O ψ0 Z ψ (nF rid st.heap).get w:=k.sub k.dn.mj fun id=>kW;have pt:cS Z ψ (nF rid st.heap).get w n (fun d=>bN rid (look st.tmps d)) a :=⟨fun d=>ym ((t.rep d).less (fun _ h=>h) (cm.refl _ _) fun i hi=>⟨kW hi,rfl⟩),t.size,t.defers⟩;have pm:uy (mY rid fun _=>False) (nF rid st.heap).get:=fun i ty cs hb=>by
   obtain⟨_,o',h1,h2⟩:=iY hb
   cases o' with
   |own ok xs=>cases h2
   |box It cs'=>cases h2;exact jm cs'
  have Nz:look (st.tmps.map fun p=>(p.1,bN rid p.2))=fun d=>bN rid (look st.tmps d):=funext fun d=>Cj (bN rid) (by rfl) st.tmps d
  cases draw with
  |false =>
   refine wp_region ?_;rw[←FI ops]
   cases Xe:ops.any (makes ·.op) with
   |false =>
    have hp:mj false rid ops st=st:=by grind [mj]
    rw[hp]at hx;refine lX V (rid:=rid) (n:=n) (b:=_) false (fun _ i o ho=>?_) iH FM hQ _ 0 st Z ψ a w (oK ops) hx ⟨k,t,fun d=>?_,fun i ty cs hb=>?_⟩
    ·grind
    ·exact(aI.top _).imp fun id _ h=>by cases h
    ·exact(aA.top _).imp fun id _ h=>by cases h
   |true =>
    have hp:mj false rid ops st={ tmps:=st.tmps.map fun p=>(p.1,bN rid p.2),heap:=nF rid st.heap }:=by unfold mj;rw[Xe];rfl
    rw[hp]at hx;refine lX V (rid:=rid) (n:=n) (b:=_) true (fun h=>by cases h) iH FM hQ _ 0 _ Z ψ a w (oK ops) hx ⟨pk,by simp_all,fun d=>?_,fun i ty cs hb=>?_⟩
    ·rw[Nz];exact(qh _).imp fun id h1 _ h2=>(h1 h2).elim
    ·exact(pm i ty cs hb).imp fun id h1 _ h2=>(h1 h2).elim
  |true =>
   have hp:mj true rid ops st={ tmps:=st.tmps.map fun p=>(p.1,bN rid p.2),heap:=nF rid st.heap }:=by rfl
   rw[hp]at hx;simp only[Bool.not_true,Bool.false_or,Bool.and_eq_true]at hdr;obtain⟨aif,ac0,Et⟩:=hdr;refine wp_region_any hm ?_;obtain⟨T,H,E,h1,h2,h3,eP,h4,h5,h6⟩:=trace (kk:=kk) (r:=r) (ops.toList.zipIdx.map fun p=>(p.2,p.1)) 0 _ (oK ops) (by simp) hx;rw[Nz]at h1;have D:Dr P Eqs Sg F rid n ops b T H E:=⟨iH,aif,ac0,FM,Et,fun k o ho=>h3 k o (acg _) ho,fun id bL=>by rw[h2]at bL;obtain⟨o,ho⟩:=abQ.1 bL;exact(iY ho).1⟩;have NA:∀k,¬((Array.replicate ops.size false).getD k false=true):=fun k hk=>by
    rw[Array.getD_eq_getD_getElem?,Array.getElem?_replicate]at hk
    grind
   rw[show max 0 ops.size=ops.size by omega]at h5 h6;have w2:({ w with drawn:=w.drawn+1 }:World).heap=w.heap:=rfl;refine D.any V (Z0:=Z0) (w0:=w0) (O:=O) (ψ0:=ψ0) (fun Z ψ a w j=>hQ eP Z ψ a w h4 (by rw[h6];exact j.ok) (by rw[h5,h6];exact j.tr)) ops.size _ (T 0) (H 0) a _ Z ψ (by simp) ?_ ?_ ?_
   ·grind [mC,List.filter_eq_self,List.length_range]
   ·refine⟨fun i hi=>(NA i hi).elim,fun i j hi=>(NA i hi).elim,?_,fun j o d hj=>(NA j hj).elim,fun d _=>rfl⟩;obtain⟨q,hq1,hq2,hq3⟩:=SJ E (fun k=>(Array.replicate ops.size false).getD k false=true) ops.size;refine⟨q,hq1,hq2,hq3,fun id=>⟨fun te=>?_,fun te=>?_⟩⟩
    ·symm
     refine D.AU q (acg _) hq1 (fun k _ hk hw=>(NA k (hq2 k hk hw)).elim) id fun k _ hk _ ho=>?_;have:=te (ho.parts (by omega)).1;simp_all
    ·rw[h2];apply Classical.not_not.1;intro bw;obtain⟨o,ho⟩:=abQ.1 bw;exact te fun hr=>absurd hr (iY ho).1
   ·rw[h1,h2];refine⟨pk.Ck w2 rfl rfl rfl,pt.Ck w2,fun d=>(qh _).imp fun id h3 h4=>(h3 h4).elim,fun i ty cs hb=>(pm i ty cs hb).imp fun id h3 h4=>(h3 h4).elim⟩
 ·cases hx
end Go.Vs
