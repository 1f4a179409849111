/- The value semantics is sound -/
import Derived.Test.YtoleelddkocpkaaGreatEngineB
import Derived.Maps.RangeRun
import Derived.ChangeMaps
set_option linter.unusedSimpArgs false
set_option linter.unusedVariables false
namespace Go.Vs
variable {P:Program} {Z Z':Nat→Prop} {ψ ψ':Nat→Value} {h h':Hp} {w w':World} {B0:Nat} {O:Nat→Prop} {N:Nat→Prop}
theorem fS:∀(k:K) (x:k.T),(enc k x).length=k.sz
 |.int _,_=>rfl
 |.bool,_=>rfl
 |.str,_=>rfl
 |.sl _,_=>rfl
 |.mp _ _,_=>rfl
 |.fn _,_=>rfl
 |.pair a b,x=>by simp only[enc,List.length_append,K.sz];rw[fS a,fS b]
 |.one k,x=>by simp only[enc,K.sz];exact fS k x
theorem sS(hh:Heap):∀(k:K) (x:k.T),(enc k x).map (c9 hh)=enc k x
 |.int _,_=>rfl
 |.bool,_=>rfl
 |.str,_=>rfl
 |.sl _,_=>rfl
 |.mp _ _,_=>rfl
 |.fn _,_=>rfl
 |.pair a b,x=>by simp only[enc,List.map_append];rw[sS hh a,sS hh b]
 |.one k,x=>by simp only[enc];exact sS hh k x
theorem mW:∀(k:K) (x:k.T) (id:Nat),AV.bN id∉enc k x
 |.int _,_,_=>by simp[enc]
 |.bool,_,_=>by simp[enc]
 |.str,_,_=>by simp[enc]
 |.sl _,_,_=>by simp[enc]
 |.mp _ _,_,_=>by simp[enc]
 |.fn _,_,_=>by simp[enc]
 |.pair a b,x,id=>by
  simp only[enc,List.mem_append];rintro(h|h)
  ·exact mW a _ id h
  ·exact mW b _ id h
 |.one k,x,id=>by simp only[enc];exact mW k x id
theorem zj{hh:Heap}{ok:OK}{n:Nat}{xs:ok.T}(hg:hh.get n=some (.own ok xs)):eT hh ok (.bN n)=some xs:=by simp[eT,hg]
theorem qS{hh:Heap}:∀(dV:List CK) (n:Nat) (x:ss dV),(∀e∈aZ dV n x,hh.get e.1=some e.2)→cW dV hh (aG dV n x)=some x
 |[],n,x,_=>rfl
 |.val k::r,n,x,hg=>by
  have h1:(aG (.val k::r) n x).take k.sz=enc k x.1:=by simp only[aG];rw[←fS k x.1,List.take_left]
  have h2:(aG (.val k::r) n x).drop k.sz=aG r (n+1) x.2:=by simp only[aG];rw[←fS k x.1,List.drop_left]
  have e:cW (.val k::r) hh (aG (.val k::r) n x)=(match dz k (((aG (.val k::r) n x).take k.sz).map (c9 hh)),cW r hh ((aG (.val k::r) n x).drop k.sz) with
   |some x,some y=>some ((x,y):k.T×ss r)
   |_,_=>none):=by generalize aG (.val k::r) n x=l;cases l<;>rfl
  have h4:dz k (((aG (.val k::r) n x).take k.sz).map (c9 hh))=some x.1:=by rw[h1];exact(congrArg (dz k) (sS hh k x.1)).trans (wc k x.1)
  have h5:cW r hh ((aG (.val k::r) n x).drop k.sz)=some x.2:=by rw[h2];exact qS r (n+1) x.2 hg
  rw[e];generalize dz k (((aG (.val k::r) n x).take k.sz).map (c9 hh))=o1 at h4 ⊢;generalize cW r hh ((aG (.val k::r) n x).drop k.sz)=o2 at h5 ⊢;subst h4;subst h5;rfl
 |.own ok::r,n,x,hg=>by
  simp only[aZ]at hg;have h1:=zj (hg _ ab4);have h2:=qS r (n+1) x.2 (fun e he=>hg e (abA _ he));have e:cW (.own ok::r) hh (aG (.own ok::r) n x)=(match eT hh ok (.bN n),cW r hh (aG r (n+1) x.2) with
   |some x,some y=>some ((x,y):ok.T×ss r)
   |_,_=>none):=rfl
  rw[e,h1,h2];rfl
theorem QX{hh:Heap}(b:BK){i n:Nat}{x:b.T}(hg:∀e∈kr b i n x,hh.get e.1=some e.2):sy b hh i=some x:=by
 cases b with
 |box ty c =>
  grind [kr,Cj,aG,List.mem_cons_self,sy,qS,List.mem_cons_of_mem]
 |own ok=>exact zj (hg _ (by simp only[kr];exact ab4))
theorem AG{hh:Heap}:∀(bs:List BK) (is:List Nat) (n:Nat) (x:Aq bs),is.length=bs.length→(∀e∈bG bs is n x,hh.get e.1=some e.2)→dy bs hh is=some x
 |[],[],n,x,_,_=>rfl
 |[],_::_,n,x,hl,_=>by simp at hl
 |_::_,[],n,x,hl,_=>by simp at hl
 |b::r,i::is,n,x,hl,hg=>by
  simp only[bG]at hg;have h2:=QX b (fun e he=>hg e (abM _ he));have h3:=AG r is (n+16) x.2 (by simpa using hl) (fun e he=>hg e (abL _ he));have e:dy (b::r) hh (i::is)=(match sy b hh i,dy r hh is with
    |some x,some y=>some ((x,y):b.T×Aq r)
    |_,_=>none):=rfl
  rw[e,h2,h3];rfl
theorem zk{i:Nat}{o:Ob}:∀{hh:Heap},cg (hh.map (·.1))=true→(i,o)∈hh→hh.get i=some o
 |[],_,h=>by cases h
 |(j,o')::r,hn,h=>by
  obtain⟨h1,h2⟩:=nY hn;simp only[Heap.get];rcases abD.1 h with e|h
  ·cases e;simp
  ·rw[if_neg,zk h2 h]
   grind
theorem BR{hh:Heap}:∀(dV:List CK) (n:Nat) (x:ss dV) (id:Nat),AV.bN id∉rH dV (aG dV n x)
 |[],n,x,id=>by simp[aG,rH]
 |.val k::r,n,x,id=>by
  have h1:(aG (.val k::r) n x).take k.sz=enc k x.1:=by grind [aG,fS,List.take_left]
  have h2:(aG (.val k::r) n x).drop k.sz=aG r (n+1) x.2:=by grind [aG,fS,List.drop_left]
  have e:rH (.val k::r) (aG (.val k::r) n x)=(aG (.val k::r) n x).take k.sz++rH r ((aG (.val k::r) n x).drop k.sz):=by rfl
  rw[e,h1,h2,List.mem_append];rintro(h|h)
  ·exact mW k x.1 id h
  ·exact BR (hh:=hh) r (n+1) x.2 id h
 |.own ok::r,n,x,id=>by simp only[aG,rH];exact BR (hh:=hh) r (n+1) x.2 id
theorem CY{hh:Heap}:∀(bs:List BK) (is:List Nat) (n:Nat) (x:Aq bs) (id:Nat),(∀e∈bG bs is n x,hh.get e.1=some e.2)→AV.bN id∉gO bs hh is
 |[],is,n,x,id,_=>by grind [gO]
 |_::_,[],n,x,id,_=>by simp[gO]
 |b::r,i::is,n,x,id,hg=>by
  simp only[bG]at hg;simp only[gO,List.mem_append];rintro(h|h)
  ·cases b with
   |box ty c =>simp only[Ck]at h;rw[hg (i,.box ty (aG c n x.1)) (List.mem_append_left _ (by grind [kr,List.mem_cons_self]))]at h;exact BR (hh:=hh) c n x.1 id h
   |own ok=>simp[Ck]at h
  ·exact CY r is (n+16) x.2 id (fun e he=>hg e (abL _ he)) h
theorem GC{hh:Heap}:∀(cap:List AV) (is is':List Nat) (vs:List Value),ku cap=some is→is'.length=is.length→(∀p∈is.zip is',hh.get p.1≠none∧(h' p.2≠none→ψ' p.2=ψ p.1)) → au Z ψ hh.get w cap vs→au Z' ψ' h' w (is'.map fun i=>.ref i 0 0 0) vs
 |[],is,is',vs,h1,hl,_,hr=>by
  simp only[ku]at h1
  cases h1
  cases is' with
  |nil=>simpa only[List.map_nil,au] using hr
  |cons c r=>simp at hl
 |v::cap,is,is',vs,h1,hl,hp,hr=>by
  simp only[ku]at h1
  split at h1
  ·rename_i i is1 h3 h4
   cases h1
   cases is' with
   |nil=>simp at hl
   |cons c r =>simp only[List.zip_cons_cons]at hp;simp only[List.map_cons,au]at hr ⊢;obtain⟨u,us,rfl,h7,h8⟩:=hr;obtain⟨sz,rfl⟩:=qN h3;obtain⟨h5,h6⟩:=hp _ ab4;exact⟨u,us,rfl,BP h7 h5 h6,GC cap is1 r us h4 (by simpa using hl) (fun p h=>hp p (abA _ h)) h8⟩
  ·cases h1
theorem vp:∀(cap:List AV) (is:List Nat),ku cap=some is→is.length=cap.length
 |[],is,h=>by simp only[ku]at h;cases h;rfl
 |v::cap,is,h=>by
  simp only[ku]at h
  split at h
  ·rename_i i is1 h3 h4
   cases h
   simp[vp cap is1 h4]
  ·cases h
theorem vq:∀(cs:List AV) (is:List Nat),qC cs=some is→is.length=cs.length
 |[],is,h=>by simp only[qC]at h;cases h;rfl
 |c::r,is,h=>by
  cases c<;>simp only[qC]at h<;>first|(cases h;done)|skip
  split at h
  ·rename_i is' h1
   cases h
   simp[vq r is' h1]
  ·cases h
theorem GD{hh:Heap}:∀(cs:List AV) (is g9:List Nat) (vs:List Value),qC cs=some is→g9.length=is.length→(∀p∈is.zip g9,hh.get p.1≠none∧(h' p.2≠none→ψ' p.2=ψ p.1)) → au Z ψ hh.get w cs vs→au Z' ψ' h' w (g9.map .bN) vs
 |[],is,g9,vs,h,hl,hp,hr=>by
  simp only[qC]at h
  cases h
  have:g9=[]:=abY hl;subst this;simpa only[List.map_nil,au] using hr
 |c::r,is,g9,vs,h,hl,hp,hr=>by
  cases c<;>simp only[qC]at h<;>first|(cases h;done)|skip
  rename_i i
  split at h
  ·rename_i is' h1
   cases h
   cases g9 with
   |nil=>simp at hl
   |cons i' g9 =>simp only[List.zip_cons_cons]at hp;obtain⟨h5,h6⟩:=hp _ ab4;simp only[List.map_cons,au]at hr ⊢;obtain⟨u,us,rfl,h3,h4⟩:=hr;refine⟨u,us,rfl,?_,GD r is' g9 us h1 (by simpa using hl) (fun p TP=>hp p (abA _ TP)) h4⟩;simp only[aA]at h3 ⊢;exact⟨h3.1,fun hn=>(h3.2 h5).trans (h6 hn).symm⟩
  ·cases h
theorem mA{hh:Heap}(g:Good Z ψ hh.get w B0 O)(hz:∀b,Z b→Z' b):∀(ps:List PK) (ids g9:List Nat) (s:Nat) (vs:List AV) (us:List Value) (x:JK (lZ ps)),g9.length=ids.length→cM ps vs=some ids→fN ps hh vs=some x →(∀id b,AV.bN id∈dD ps vs→hh.get id≠none→ob (ψ id)=some b→Z' b)→(∀p∈ids.zip g9,hh.get p.1≠none∧(h' p.2≠none→ψ' p.2=ψ p.1))→au Z ψ hh.get w vs us→au Z' ψ' h' w ((aV ps g9 s x).map (·.2)) us
 |[],ids,g9,s,vs,us,x,hl,hi,hv,hf,hp,hr=>by
  cases vs with
  |nil=>simpa only[aV,List.map_nil,au] using hr
  |cons a r=>simp[cM]at hi
 |.val k::ps,ids,g9,s,vs,us,x,hl,hi,hv,hf,hp,hr=>by
  cases vs with
  |nil=>simp[cM]at hi
  |cons a r =>simp only[cM]at hi;simp only[au]at hr;obtain⟨u,jn,rfl,h3,h4⟩:=hr;obtain⟨h1,h2⟩:=AF hv;simp only[dD]at hf;simp only[aV,List.map_cons,au];exact⟨u,jn,rfl,tU g hz (fun id b bM=>hf id b (abM _ bM)) h1 h3,mA g hz ps ids g9 (s+1) r jn x.2 hl hi h2 (fun id b bM=>hf id b (abL _ bM)) hp h4⟩
 |.ref::ps,ids,g9,s,vs,us,x,hl,hi,hv,hf,hp,hr=>by
  cases vs with
  |nil=>simp[cM]at hi
  |cons a r =>
   simp only[cM]at hi
   split at hi
   ·rename_i i is h1 h2
    cases hi
    simp only[au]at hr;obtain⟨u,jn,rfl,h3,h4⟩:=hr
    cases g9 with
    |nil=>simp at hl
    |cons i' is' =>simp only[List.zip_cons_cons]at hp;obtain⟨sz,rfl⟩:=qN h1;obtain⟨h5,h6⟩:=hp _ ab4;simp only[aV,List.map_cons,au];exact⟨u,jn,rfl,BP h3 h5 h6,mA g hz ps is is' (s+1) r jn x (by simpa using hl) h2 hv hf (fun p h=>hp p (abA _ h)) h4⟩
   ·cases hi
 |.own::ps,ids,g9,s,vs,us,x,hl,hi,hv,hf,hp,hr=>by
  cases vs with
  |nil=>simp[cM]at hi
  |cons a r =>
   cases a<;>simp only[cM]at hi<;>first|(cases hi;done)|skip
   rename_i i
   split at hi
   ·rename_i is h2
    cases hi
    simp only[au]at hr;obtain⟨u,jn,rfl,h3,h4⟩:=hr
    cases g9 with
    |nil=>simp at hl
    |cons i' is' =>simp only[List.zip_cons_cons]at hp;obtain⟨h5,h6⟩:=hp _ ab4;simp only[aV,List.map_cons,au];refine⟨u,jn,rfl,?_,mA g hz ps is is' (s+1) r jn x (by simpa using hl) h2 hv hf (fun p h=>hp p (abA _ h)) h4⟩;simp only[aA]at h3 ⊢;exact⟨h3.1,fun hn=>(h3.2 h5).trans (h6 hn).symm⟩
   ·cases hi
 |.wN f m::ps,ids,g9,s,vs,us,x,hl,hi,hv,hf,hp,hr=>by
  cases vs with
  |nil=>simp[cM]at hi
  |cons a r =>
   cases a<;>simp only[cM]at hi<;>first|(cases hi;done)|skip
   rename_i f' cap
   split at hi
   ·rename_i hc;obtain⟨rfl,vR⟩:=hc
    split at hi
    ·rename_i a1 b1 h1 h2
     cases hi
     simp only[au]at hr;obtain⟨u,jn,rfl,h3,h4⟩:=hr;have h5:=vp cap a1 h1;have yC:(a1++b1).zip g9=a1.zip (g9.take m)++b1.zip (g9.drop m):=by
      conv=>lhs;rw[←List.take_append_drop m g9]
      rw[List.zip_append];rw[List.length_take,Nat.min_eq_left]
      ·omega
      ·rw[hl,List.length_append];omega
     rw[yC]at hp;simp only[aV,List.map_cons,au];refine⟨u,jn,rfl,?_,mA g hz ps b1 (g9.drop m) (s+1) r jn x (by rw[List.length_drop,hl,List.length_append];omega) h2 hv hf (fun p h=>hp p (abL _ h)) h4⟩;simp only[aA]at h3 ⊢;obtain⟨ws,h6,h7⟩:=h3;exact⟨ws,h6,GC cap a1 (g9.take m) _ h1 (by rw[List.length_take,Nat.min_eq_left (by rw[hl,List.length_append];omega)];omega) (fun p h=>hp p (abM _ h)) h7⟩
    ·cases hi
   ·cases hi
 |.agg m::ps,ids,g9,s,vs,us,x,hl,hi,hv,hf,hp,hr=>by
  cases vs with
  |nil=>simp[cM]at hi
  |cons a r =>
   cases a<;>simp only[cM]at hi<;>first|(cases hi;done)|skip
   rename_i cs
   split at hi
   ·rename_i vR
    split at hi
    ·rename_i a1 b1 h1 h2
     cases hi
     simp only[au]at hr;obtain⟨u,jn,rfl,h3,h4⟩:=hr;have h5:=vq cs a1 h1;have yC:(a1++b1).zip g9=a1.zip (g9.take m)++b1.zip (g9.drop m):=by
      conv=>lhs;rw[←List.take_append_drop m g9]
      rw[List.zip_append];rw[List.length_take,Nat.min_eq_left]
      ·omega
      ·rw[hl,List.length_append];omega
     rw[yC]at hp;simp only[aV,List.map_cons,au];refine⟨u,jn,rfl,?_,mA g hz ps b1 (g9.drop m) (s+1) r jn x (by rw[List.length_drop,hl,List.length_append];omega) h2 hv hf (fun p h=>hp p (abL _ h)) h4⟩;simp only[aA]at h3 ⊢;obtain⟨ws,h6,h7⟩:=h3;exact⟨ws,h6,GD cs a1 (g9.take m) _ h1 (by rw[List.length_take,Nat.min_eq_left (by rw[hl,List.length_append];omega)];omega) (fun p h=>hp p (abM _ h)) h7⟩
    ·cases hi
   ·cases hi
theorem QY(hh:Heap)(k:K)(x:k.T):ia k hh (b6 k x)=some x:=by unfold ia;rw[if_pos (CU k x).symm,we];exact(congrArg (dz k) (sS hh k x)).trans (wc k x)
theorem oc:∀(dV:List CK) (c n:Nat) (x:ss dV),gK dV c=true→(aG dV n x)[nT dV c]? = some (.bN (n+c))
 |[],c,n,x,h=>by simp[gK]at h
 |.val k::r,0,n,x,h=>by simp[gK]at h
 |.val k::r,c+1,n,x,h=>by simp only[aG,nT];have ih:=oc r c (n+1) x.2 (by simpa[gK] using h);have hl:(enc k x.1).length=k.sz:=fS k x.1;generalize enc k x.1=l at hl ⊢;rw[List.getElem?_append_right (by omega),hl,Nat.add_sub_cancel_left,show n+(c+1)=n+1+c by omega];exact ih
 |.own ok::r,0,n,x,h=>by simp[aG,nT]
 |.own ok::r,c+1,n,x,h=>by simp only[aG,nT];rw[Nat.add_comm 1,List.getElem?_cons_succ,show n+(c+1)=n+1+c by omega];exact oc r c (n+1) x.2 (by simpa[gK] using h)
theorem AH:∀(bs:List BK) (b:Nat) (is:List Nat) (n:Nat) (x:Aq bs) (ty:TypeId) (c:List CK) (bi:Nat),bs[b]? = some (.box ty c)→is[b]? = some bi→∃xb,(bi,.box ty (aG c (n+16*b) xb))∈bG bs is n x
 |[],b,is,n,x,_,_,bi,h,_=>by simp at h
 |b0::r,b,[],n,x,_,_,bi,_,h=>by simp at h
 |b0::r,0,i::is,n,x,ty,c,bi,h1,h2=>by
  grind [List.getElem?_cons_zero,Option.some.injEq,bG,kr,List.mem_append_left,List.mem_cons_self]
 |b0::r,b+1,i::is,n,x,ty,c,bi,h1,h2=>by
  obtain⟨xb,h3⟩:=AH r b is (n+16) x.2 ty c bi (by simpa using h1) (by simpa using h2)
  grind [bG,List.mem_append_right]
theorem mX{bs:List BK}{hh:Heap}{is:List Nat}{nb:Nat}{xb:Aq bs}(hl:is.length=bs.length)(XP:∀e∈bG bs is nb xb,hh.get e.1=some e.2):∀(rs:List RK) (ids2:List Nat) (m:Nat) (y:mJ rs),sD bs rs=true →(∀e∈aq rs m y,hh.get e.1=some e.2)→bO bs rs hh is (aW rs ids2 nb m y)=some y
 |[],ids2,m,y,_,_=>rfl
 |.val k::r,ids2,m,y,hk,hg=>by
  simp only[sD,List.all_cons,Bool.and_eq_true,Ff]at hk;have h1:=QY hh k y.1;have h2:=mX hl XP r ids2 (m+1) y.2 hk.2 hg;have e:bO bs (.val k::r) hh is (aW (.val k::r) ids2 nb m y)=(match ia k hh (b6 k y.1),bO bs r hh is (aW r ids2 nb (m+1) y.2) with
   |some x,some y=>some ((x,y):k.T×mJ r)
   |_,_=>none):=rfl
  rw[e];generalize ia k hh (b6 k y.1)=o1 at h1 ⊢;generalize bO bs r hh is (aW r ids2 nb (m+1) y.2)=o2 at h2 ⊢;subst h1;subst h2;rfl
 |.own ok::r,ids2,m,y,hk,hg=>by
  simp only[sD,List.all_cons,Bool.and_eq_true,Ff]at hk;simp only[aq]at hg;have h1:=zj (hg _ ab4);have h2:=mX hl XP r ids2 (m+1) y.2 hk.2 (fun e he=>hg e (abA _ he));have e:bO bs (.own ok::r) hh is (aW (.own ok::r) ids2 nb m y)=(match eT hh ok (.bN m),bO bs r hh is (aW r ids2 nb (m+1) y.2) with
   |some x,some y=>some ((x,y):ok.T×mJ r)
   |_,_=>none):=rfl
  rw[e];generalize eT hh ok (.bN m)=o1 at h1 ⊢;generalize bO bs r hh is (aW r ids2 nb (m+1) y.2)=o2 at h2 ⊢;subst h1;subst h2;rfl
 |.fz b alts::r,ids2,m,y,hk,hg=>by
  simp only[sD,List.all_cons,Bool.and_eq_true,Ff]at hk;have h2:=mX hl XP r ids2 (m+1) y.2 hk.2 hg;have h1:oH bs hh is b alts (wQ b nb alts y.1)=some y.1:=by
   cases hy:y.1 with
   |none=>rfl
   |some p =>
    obtain⟨al,i⟩:=p;have h3:=hk.1
    split at h3
    ·rename_i bk hbk;have aN:=(abC.1 hbk).1;have S8:is[b]? = some (is[b]'(by omega)):=aa8 (by omega);rw[Bool.and_eq_true,decide_eq_true_eq]at h3;obtain⟨h3,Fq⟩:=h3;have h3a:∀a:Fin alts.length,gK bk.dV (alts.get a).1=true:=fun a=>adp.1 h3 _ (List.get_mem alts a)
     cases bk with
     |own ok=>have:=h3a al;grind [BK.dV,gK]
     |box ty c0 =>
      obtain⟨xb',h4⟩:=AH bs b is nb xb ty c0 _ hbk S8;have h5:=XP _ h4;simp only[BK.dV]at h3a;simp only[oH,wQ,hbk,S8,h5,BK.dV];have key:(List.finRange alts.length).find? (fun a=>Cl c0 (aG c0 (nb+16*b) xb') (nb+16*b+(alts.get al).1) (alts.get al).2.1 (alts.get al).2.2 (alts.get a))=some al:=by
       cases hf:(List.finRange alts.length).find? (fun a=>Cl c0 (aG c0 (nb+16*b) xb') (nb+16*b+(alts.get al).1) (alts.get al).2.1 (alts.get al).2.2 (alts.get a)) with
       |none =>have:=List.find?_eq_none.1 hf al (List.mem_finRange al);simp_all [Cl,Bool.and_eq_true,decide_eq_true_eq,trivial,oc,Tj]
       |some a' =>
        have hf':=adG hf;obtain⟨h6,_,h7,_⟩:=CX hf';rw[oc c0 _ _ xb' (h3a a')]at h6;simp only[Option.some.injEq,AV.bN.injEq]at h6;have h8:(alts.get a').1=(alts.get al).1:=by omega
        congr 1;have sN:∀a:Fin alts.length,(alts.map fun a=>(a.1,a.2.2))[a.val]? = some ((alts.get a).1,(alts.get a).2.2):=fun a=>by simp_all
        grind [Fin.ext,List.getElem?_inj]
      rw[key];rfl
    ·cases h3
  have e:bO bs (.fz b alts::r) hh is (aW (.fz b alts::r) ids2 nb m y)=(match oH bs hh is b alts (wQ b nb alts y.1),bO bs r hh is (aW r ids2 nb (m+1) y.2) with
   |some x,some y=>some ((x,y):Option (Fin alts.length×Nat)×mJ r)
   |_,_=>none):=rfl
  rw[e];generalize oH bs hh is b alts (wQ b nb alts y.1)=o1 at h1 ⊢;generalize bO bs r hh is (aW r ids2 nb (m+1) y.2)=o2 at h2 ⊢;subst h1;subst h2;rfl
 |.agg c::r,ids2,m,y,hk,hg=>by
  simp only[sD,List.all_cons,Bool.and_eq_true,Ff]at hk;simp only[aq]at hg;have h1:=qS (hh:=hh) c m y.1 (fun e he=>hg e (abM _ he));have h2:=mX hl XP r ids2 (m+1) y.2 hk.2 (fun e he=>hg e (abL _ he));have e:bO bs (.agg c::r) hh is (aW (.agg c::r) ids2 nb m y)=(match cW c hh (aG c m y.1),bO bs r hh is (aW r ids2 nb (m+1) y.2) with
   |some x,some y=>some ((x,y):ss c×mJ r)
   |_,_=>none):=rfl
  rw[e];generalize cW c hh (aG c m y.1)=o1 at h1 ⊢;generalize bO bs r hh is (aW r ids2 nb (m+1) y.2)=o2 at h2 ⊢;subst h1;subst h2;rfl
def rK(g:aO)(x:g.A):Hp:=(bG g.bs (aQ g.bs.length) 2000 x.2).get
def lq(g:aO)(y:g.B):Heap:=bG g.bs (aQ g.bs.length) 2000 y.2++aq g.rs 3000 y.1
def Ic(g:aO)(x:g.A):List AV:=(aV g.ps (aQ g.bs.length) 0 x.1).map (·.2)
def GF(P:Program)(f:FuncId)(g:aO)(x:g.A)(y:g.B):Prop :=∀(Z:Nat→Prop) (ψ0:Nat→Value) (w:World) (lp:List Value),Good Z ψ0 (rK g x) w w.heap.size (Own ψ0 (rK g x))→au Z ψ0 (rK g x) w (Ic g x) lp → Calls P (f%1000) lp.toArray w fun e w'=>∃v Z' ψ',e=.returned v∧(∀b,Z b→Z' b)∧(∀b,Z' b→Z b∨Own ψ0 (rK g x) b∨w.heap.size≤b)∧cT ψ0 (rK g x) w w' ∧ Good Z' ψ' (lq g y).get w' w.heap.size (Own ψ0 (rK g x))∧(∀i∈aQ g.bs.length,ψ' i=ψ0 i)∧aA Z' ψ' (lq g y).get w' (fH (aW g.rs (aQ g.bs.length) 2000 3000 y.1)) v
theorem Ie{ψ:Nat→Value}{b:Nat}:¬Own ψ gV b:=fun⟨_,h,_⟩=>h rfl
theorem GF.zero{f:FuncId}{g:aO}{x:g.A}{y:g.B}(hb:g.bs=[])(c:GF P f g x y):ad9 P f g x y:=by
 obtain⟨ps,bs,rs,_⟩:=g;simp only at hb;subst hb;intro Z w lp hz hr;have e0:rK ⟨ps,[],rs,_⟩ x=gV:=by rfl
 have e1:lq ⟨ps,[],rs,_⟩ y=aq rs 3000 y.1:=by rfl
 have hO:Own MG gV=fun _=>False:=funext fun b=>propext ⟨Ie,False.elim⟩;unfold GF at c;rw[e0,e1]at c;refine(c Z MG w lp ⟨fun _ _ _ h=>(by cases h),fun _ _ _ h=>(by cases h),fun _ _ h=>absurd rfl h,fun _ _ _ h=>absurd rfl h,hz⟩ hr).mono fun e w' ⟨v,Z',ψ',h1,h2,h3,h4,h5,_,h6⟩=>?_;exact⟨v,Z',ψ',h1,h2,fun b hb=>(h3 b hb).imp (fun h=>h) fun h=>h.resolve_left Ie,h4,by simp_all,h6⟩
theorem Ka{bs:List BK}{hh:Heap}{x:Aq bs}(hd:dy bs hh []=some x):bs=[]:=by
 cases bs with
 |nil=>rfl
 |cons b r=>cases hd
variable {Eqs:TypeId→Option K} {Sg:FuncId→Option aO} {F:(f:FuncId)→(g:aO)→g.A→Option g.B}
theorem Kb{a b:List Nat}(h:cg (a++b)=true):cg a=true:=by
 induction a with
 |nil=>rfl
 |cons i r ih =>simp_all [nY,cg,Bool.and_eq_true,Bool.not_eq_true',absurd,List.mem_append_left,List.contains_iff_mem]
theorem Good.Ig(g:Good Z ψ h w B0 O)(B:Nat):Good Z ψ h w B (Own ψ h) :=⟨g.box,g.row,fun id b h1 h2=>⟨(g.live id b h1 h2).1,.inr ⟨id,h1,h2⟩⟩,g.apart,g.kz⟩
theorem pJ:∀(l:List Nat) (hh:Heap) (i:Nat),(iv hh l).get i=if i∈l then none else hh.get i
 |[],hh,i=>by simp[iv]
 |j::r,hh,i=>by
  simp only[iv];rw[pJ r (hh.del j) i];by_cases h1:i∈r
  ·simp[h1]
  ·by_cases h2:i=j
   ·subst h2;simp[Heap.g6]
   ·rw[Heap.jo h2];simp[h1,h2]
theorem iA:∀(dV:List CK) (n:Nat) (x:ss dV),(aZ dV n x).map (·.1)=cx dV n
 |[],_,_=>rfl
 |.val k::r,n,x=>iA r (n+1) x.2
 |.own ok::r,n,x=>by simp only[aZ,cx,List.map_cons];rw[iA r (n+1) x.2]
theorem mY:∀(bs:List BK) (is:List Nat) (n:Nat) (x:Aq bs),is.length=bs.length→(bG bs is n x).map (·.1)=b7 bs is n
 |[],is,n,x,_=>by cases is<;>rfl
 |b::r,[],n,x,hl=>by simp at hl
 |b::r,i::is,n,x,hl=>by
  simp only[bG,b7,List.map_append];rw[mY r is (n+16) x.2 (by simpa using hl),←List.cons_append];congr 1
  cases b with
  |box ty c=>simp only[kr,List.map_cons,BK.dV];rw[iA]
  |own ok=>simp[kr,BK.dV,cx]
theorem gu:∀(rs:List RK) (m:Nat) (y:mJ rs),(aq rs m y).map (·.1)=bE rs m
 |[],_,_=>rfl
 |.own ok::r,m,y=>by simp only[aq,bE,List.map_cons];rw[gu r (m+1) y.2]
 |.val _::r,m,y=>gu r (m+1) y.2
 |.fz _ _::r,m,y=>gu r (m+1) y.2
 |.agg c::r,m,y=>by have e1:(aZ c m y.1).map (·.1)=cx c m:=iA c m y.1;simp only[aq,bE,List.map_append];rw[gu r (m+1) y.2];exact congrArg (·++_) e1
theorem qT:∀(dV:List CK) (n:Nat) (x:ss dV),gF dV (aG dV n x)=cx dV n
 |[],_,_=>rfl
 |.val k::r,n,x=>by
  have h2:(aG (.val k::r) n x).drop k.sz=aG r (n+1) x.2:=by simp only[aG];rw[←fS k x.1,List.drop_left]
  have e:gF (.val k::r) (aG (.val k::r) n x)=gF r ((aG (.val k::r) n x).drop k.sz):=by generalize aG (.val k::r) n x=l;cases l<;>rfl
  rw[e,h2,qT r (n+1) x.2];rfl
 |.own ok::r,n,x=>by simp only[aG,gF,qB,cx,List.cons_append,List.nil_append];rw[qT r (n+1) x.2]
theorem AI{hh:Heap}:∀(bs:List BK) (is:List Nat) (n:Nat) (x:Aq bs),is.length=bs.length→(∀e∈bG bs is n x,hh.get e.1=some e.2)→dk bs hh is=b7 bs is n
 |[],is,n,x,_,_=>by rfl
 |_::_,[],n,x,hl,_=>by simp at hl
 |b::r,i::is,n,x,hl,hg=>by
  simp only[bG]at hg;simp only[dk,b7];rw[AI r is (n+16) x.2 (by simpa using hl) (fun e he=>hg e (List.mem_append_right _ he)),←List.cons_append];congr 1
  cases b with
  |box ty c =>
   grind [nS,BK.dV,aG,List.mem_append_left,kr,List.mem_cons_self,qT]
  |own ok=>rfl
theorem lu:∀(rs:List RK) (ids:List Nat) (n m:Nat) (y:mJ rs),eE rs (aW rs ids n m y)=bE rs m
 |[],_,_,_,_=>rfl
 |.own ok::r,ids,n,m,y=>by simp only[aW,eE,bE,qB,List.cons_append,List.nil_append];rw[lu r ids n (m+1) y.2]
 |.val _::r,ids,n,m,y=>by simp only[aW,eE,bE];exact lu r ids n (m+1) y.2
 |.fz _ _::r,ids,n,m,y=>by simp only[aW,eE,bE];exact lu r ids n (m+1) y.2
 |.agg c::r,ids,n,m,y=>by have e1:gF c (aG c m y.1)=cx c m:=qT c m y.1;simp only[aW,eE,bE,AV.cells];rw[lu r ids n (m+1) y.2];exact congrArg (·++_) e1
theorem mZ:∀(rs:List RK) (ids:List Nat) (n m:Nat) (y:mJ rs) (id:Nat),AV.bN id∉gP rs (aW rs ids n m y)
 |[],_,_,_,_,_=>by simp[aW,gP]
 |.own ok::r,ids,n,m,y,id=>by simp only[aW,gP];exact mZ r ids n (m+1) y.2 id
 |.val k::r,ids,n,m,y,id=>by
  simp only[aW,gP,List.mem_append];rintro(h|h)
  ·have e:(b6 k y.1).cells=enc k y.1:=we k y.1;exact mW k y.1 id (e▸h)
  ·exact mZ r ids n (m+1) y.2 id h
 |.fz _ _::r,ids,n,m,y,id=>by simp only[aW,gP];exact mZ r ids n (m+1) y.2 id
 |.agg c::r,ids,n,m,y,id=>by
  simp only[aW,gP,AV.cells,List.mem_append];rintro(h|h)
  ·exact BR (hh:=[]) c m y.1 id h
  ·exact mZ r ids n (m+1) y.2 id h
theorem QZ{gg:aO}{x:gg.A}{y:gg.B}{TQ:List Nat}{oX eY:Nat→Value}{id:Nat}(hl:TQ.length=gg.bs.length)(hrs:sD gg.bs gg.rs=true)(CZ:cg (sB gg)=true) (Ih:cg (b7 gg.bs TQ id++bE gg.rs (id+128))=true) (TR:Good Z' eY (lq gg y).get w' w.heap.size (Own oX (rK gg x))) {v:Value} (ajD:aA Z' eY (lq gg y).get w' (fH (aW gg.rs (aQ gg.bs.length) 2000 3000 y.1)) v) :
  ∃L2:List AD,ep L2=bG gg.bs TQ id y.2++aq gg.rs (id+128) y.1∧L2.map (·.1)=b7 gg.bs TQ id++bE gg.rs (id+128) ∧ Good Z' (fC eY L2) (ep L2).get w' w.heap.size (Own oX (rK gg x))∧(∀p∈(aQ gg.bs.length).zip TQ,fC eY L2 p.2=eY p.1) ∧ aA Z' (fC eY L2) (ep L2).get w' (fH (aW gg.rs TQ id (id+128) y.1)) v:=by
 have hle:(aQ gg.bs.length).length=gg.bs.length:=by simp[aQ]
 have hn2:cg ((lq gg y).map (·.1))=true:=by unfold lq;rw[List.map_append,mY _ _ _ _ hle,gu];exact CZ
 have XP:∀e∈bG gg.bs (aQ gg.bs.length) 2000 y.2,(lq gg y).get e.1=some e.2:=fun e he=>zk hn2 (by unfold lq;exact abM _ he);have hgr:∀e∈aq gg.rs 3000 y.1,(lq gg y).get e.1=some e.2:=fun e he=>zk hn2 (by unfold lq;exact abL _ he);have Fk:=AG gg.bs _ 2000 y.2 hle XP;have hd2:=mX (xb:=y.2) hle XP gg.rs (aQ gg.bs.length) 3000 y.1 hrs hgr
 let vsC:=aW gg.rs (aQ gg.bs.length) 2000 3000 y.1
 let L2:List AD:=cF gg.bs (lq gg y) (aQ gg.bs.length) TQ id y.2++cK gg.rs vsC (id+128) y.1
 have eH:ep L2=bG gg.bs TQ id y.2++aq gg.rs (id+128) y.1:=by show ep (_++_)=_;rw[n8,jR _ _ _ _ _ _ Fk hl,g8]
 have eN:L2.map (·.1)=b7 gg.bs TQ id++bE gg.rs (id+128):=by show(_++_:List AD).map _=_;rw[List.map_append,iy _ _ _ _ _ _ Fk hl,gr]
 have eS:L2.filterMap (·.2.1)=sB gg:=by show(_++_:List AD).filterMap _=_;rw[List.filterMap_append,ll _ _ _ _ _ _ Fk hl,jC _ _ _ _ hd2,AI _ _ 2000 y.2 hle XP,lu];rfl
 have hn:cg (L2.map (·.1))=true:=by rw[eN];exact Ih
 have kg:=BO (ψ:=eY) hn;have g3:Good Z' (fC eY L2) (ep L2).get w' w.heap.size (Own oX (rK gg x)):=by
  refine TR.rename hn (by rw[eS];exact CZ) fun e he=>?_;rcases ab6.1 he with he|he
  ·exact mU TR (fun _ h=>h) gg.bs _ _ id y.2 Fk (fun i b bM _ _=>(CY gg.bs _ 2000 y.2 i XP bM).elim) (fun s _=>rfl) (fun e he=>kg e (abM _ he)) e he
  ·exact kE gg.rs vsC (id+128) y.1 hd2 (fun s _=>rfl) e he
 refine⟨L2,eH,eN,g3,fun p hp=>?_,?_⟩
 ·obtain⟨o,ho⟩:=ln (hh:=lq gg y) gg.bs (aQ gg.bs.length) TQ id y.2 hle p hp;exact jB hn (abM _ ho)
 ·refine wb (by rw[oO,oO]) (fun vs oW=>?_) ajD;exact uh (nb:=id) (is':=TQ) TR (fun _ h=>h) Fk hl (fun e he=>kg e (abM _ he)) gg.rs vsC (id+128) y.1 vs hd2 (fun i b bM _ _=>(mZ gg.rs _ _ _ y.1 i bM).elim) (fun e he=>kg e (abL _ he)) oW
theorem Ra{hh:Heap}{lV:List AV}{kept:List Nat}{uj:Hp}{oX TS:Nat→Value}{H2:Heap}(g:Good Z ψ hh.get w B0 O)(hB:B0≤w.heap.size)(JD:∀s∈kept,(cS hh lV).get s=hh.get s) (bm:∀i ty cs,hh.get i=some (.box ty cs)→aC (fun i=>¬N i) cs) (r9:∀b,Own oX uj b→∃s,s∈kept∧hh.get s≠none∧ob (ψ s)=some b) (hz:∀b,so Z ψ hh.get lV b→Z' b) (Cu:∀b,Z' b→so Z ψ hh.get lV b∨Own oX uj b∨w.heap.size≤b) (keep:cT oX uj w w') (g3:Good Z' TS H2.get w' w.heap.size (Own oX uj)) (TT:∀i ty cs,H2.get i=some (.box ty cs)→aC (fun j=>H2.get j≠none) cs) (yR:∀i,H2.get i≠none→(i∈kept∧hh.get i≠none∧TS i=ψ i)∨N i) :
  ∃C0,(∀i,H2.get i≠none→C0 i=TS i)∧Next Z ψ hh.get w B0 O N Z' C0 (H2++iv (cS hh lV) kept).get w':=by
 classical
 let C0:Nat→Value:=fun i=>if H2.get i≠none then TS i else ψ i
 have h4:∀i,H2.get i≠none→C0 i=TS i:=fun i hi=>if_pos hi;have hg:∀i,(H2++iv (cS hh lV) kept).get i=(match H2.get i with|some o=>some o|none=>if i∈kept then none else(cS hh lV).get i):=fun i=>by grind [Heap.get_append,pJ]
 have CD:∀i,H2.get i≠none→(H2++iv (cS hh lV) kept).get i=H2.get i:=fun i hi=>by
  grind
 have GG:∀i,H2.get i=none→(H2++iv (cS hh lV) kept).get i≠none→i∉kept∧(H2++iv (cS hh lV) kept).get i=hh.get i∧(cS hh lV).get i=hh.get i∧C0 i=ψ i∧hh.get i≠none:=fun i hi bB=>by
  rw[hg,hi]at bB ⊢;simp only at bB ⊢;by_cases hk:i∈kept
  ·simp_all
  ·rw[if_neg hk]at bB ⊢;obtain⟨o,ho⟩:=abS.1 bB;have:=eP _ _ _ _ ho
   grind
 have aeh:∀i b,i∉kept→hh.get i≠none→ob (ψ i)=some b→¬Own oX uj b:=fun i b hk hi hb ho=>by obtain⟨s,h1,h2,h3⟩:=r9 b ho;exact hk ((g.apart i s b hi h2 hb h3)▸h1)
 have gd:Good (so Z ψ hh.get lV) ψ (cS hh lV).get w B0 O:=jq g lV;have aei:∀b,so Z ψ hh.get lV b→¬Own oX uj b:=fun b hb ho=>by obtain⟨s,h1,h2,h3⟩:=r9 b ho;exact(gd.live s b (by simp_all) h3).1 hb
 have sm:cv (so Z ψ hh.get lV) w w':=fun b hb=>keep.block b (gd.kz b hb) (aei b hb);have aej:∀i,(H2++iv (cS hh lV) kept).get i≠none→(hh.get i≠none∧C0 i=ψ i)∨N i:=fun i hi=>by
  grind
 have kk:cT ψ hh.get w w':=⟨keep.os,keep.tape,keep.output,keep.size,fun b hb vT=>keep.block b hb fun ho=>by obtain⟨s,_,h2,h3⟩:=r9 b ho;exact vT ⟨s,h2,h3⟩⟩;refine⟨C0,h4,fun b hb=>hz b (.inl hb),fun b hb=>?_,kk,aej,⟨fun i ty cs hb=>?_,fun i ok xs hb=>?_,fun i b h1 h2=>?_,fun i i' b h1 h2 h3 h5=>?_,g3.kz⟩⟩
 ·rcases Cu b hb with h1|h1|h1
  ·exact(h1.imp (fun h=>h) fun⟨i,_,h2,h3⟩=>.inl ⟨i,h2,h3⟩)
  ·obtain⟨s,_,h2,h3⟩:=r9 b h1;exact .inr (.inl ⟨s,h2,h3⟩)
  omega
 ·by_cases h2:H2.get i=none
  ·obtain⟨h3,h5,h6,h7,h8⟩:=GG i h2 (by rw[hb];simp);rw[h5]at hb;obtain⟨gg,vs,e1,e2,e3,e4⟩:=gd.box i ty cs (by simp_all);have aN:=(abR.1 e2).1;refine⟨gg,vs,by rw[h7,e1],?_,?_,e4⟩
   ·rw[keep.block gg aN (aeh i gg h3 h8 (by rw[e1];rfl))];exact e2
   ·refine e3.move (p:=fun i=>¬N i) hz sm (fun j hp hj=>?_) (bm i ty cs hb)
    grind
  ·rw[CD i h2]at hb;obtain⟨gg,vs,e1,e2,e3,e4⟩:=g3.box i ty cs hb;exact⟨gg,vs,by simp_all,e2,e3.move (p:=fun j=>H2.get j≠none) (fun _ h=>h) (cv.refl _ _) (fun j hp _=>⟨hp,h4 j hp⟩) (TT i ty cs hb),e4⟩
 ·by_cases h2:H2.get i=none
  ·obtain⟨h3,h5,h6,h7,h8⟩:=GG i h2 (by rw[hb];simp);rw[h5]at hb;rw[h7];exact(gd.row i ok xs (by simp_all)).kept hz sm fun gg QC=>keep.block gg (g.bQ ⟨i,h8,QC⟩) (aeh i gg h3 h8 QC)
  ·rw[CD i h2]at hb;rw[h4 i h2];exact g3.row i ok xs hb
 ·by_cases h3:H2.get i=none
  ·obtain⟨h5,h6,h7,h8,h9⟩:=GG i h3 h1;rw[h8]at h2;obtain⟨qq,Fg⟩:=gd.live i b (by simp_all) h2;refine⟨fun hzb=>?_,Fg⟩;rcases Cu b hzb with TI|TI|TI
   ·exact qq TI
   ·grind
   ·have:=g.bQ ⟨i,h9,h2⟩;omega
  ·rw[h4 i h3]at h2;obtain⟨h5,h6⟩:=g3.live i b h3 h2;refine⟨h5,?_⟩;rcases h6 with h6|h6
   ·omega
   ·obtain⟨s,_,h7,h8⟩:=r9 b h6;exact(g.live s b h7 h8).2
 ·have Gp:∀i i',H2.get i=none→H2.get i'≠none→(H2++iv (cS hh lV) kept).get i≠none→ob (C0 i)=some b→ob (C0 i')=some b→False:=fun i i' e1 e2 e3 e4 e5=>by
   obtain⟨h6,_,_,h8,h9⟩:=GG i e1 e3;rw[h8]at e4;rw[h4 i' e2]at e5;rcases (g3.live i' b e2 e5).2 with qq|qq
   ·have:=g.bQ ⟨i,h9,e4⟩;omega
   grind
  by_cases e1:H2.get i=none<;>by_cases e2:H2.get i'=none
  ·obtain⟨_,_,_,h8,h9⟩:=GG i e1 h1;obtain⟨_,_,_,h8',h9'⟩:=GG i' e2 h2;rw[h8]at h3;rw[h8']at h5;exact g.apart i i' b h9 h9' h3 h5
  ·grind
  ·grind
  ·rw[h4 i e1]at h3;rw[h4 i' e2]at h5;exact g3.apart i i' b e1 e2 h3 h5
theorem BS{i:Nat}{o:Ob}:∀{hh:Heap},(i,o)∈hh→hh.get i≠none
 |[],h=>by cases h
 |(j,o')::r,h=>by
  simp only[Heap.get]
  split
  ·simp
  ·rename_i hn;rcases abD.1 h with e|h
   ·simp_all
   ·exact BS h
theorem get_mem{i:Nat}{o:Ob}:∀{hh:Heap},hh.get i=some o→(i,o)∈hh
 |[],h=>by simp[Heap.get]at h
 |(j,o')::r,h=>by
  simp only[Heap.get]at h
  split at h
  ·rename_i e;subst e;cases h;exact ab4
  ·exact abA _ (get_mem h)
theorem qU{p:Nat→Prop}:∀{a b:List AV},aC p a→aC p b→aC p (a++b)
 |[],b,_,h=>h
 |x::r,b,h,h'=>by simp only[List.cons_append,aC]at h ⊢;exact⟨h.1,qU h.2 h'⟩
theorem k9{p:Nat→Prop}:∀(dV:List CK) (n:Nat) (x:ss dV),(∀e∈aZ dV n x,p e.1)→aC p (aG dV n x)
 |[],n,x,_=>by simp only[aG,aC]
 |.val k::r,n,x,h=>by simp only[aG];exact qU (mV p k x.1) (k9 r (n+1) x.2 h)
 |.own ok::r,n,x,h=>by simp only[aZ]at h;simp only[aG,aC,aL];exact⟨h _ ab4,k9 r (n+1) x.2 fun e he=>h e (abA _ he)⟩
theorem od:∀(dV:List CK) (n:Nat) (x:ss dV) (i:Nat) (ty:TypeId) (cs:List AV),(i,Ob.box ty cs)∉aZ dV n x
 |[],_,_,_,_,_=>by simp[aZ]
 |.val k::r,n,x,i,ty,cs=>od r (n+1) x.2 i ty cs
 |.own _::r,n,x,i,ty,cs=>by simp_all [aZ,List.mem_cons,not_or,od]
theorem vu{p:Nat→Prop}:∀(bs:List BK) (is:List Nat) (n:Nat) (x:Aq bs),(∀e∈bG bs is n x,p e.1)→∀i ty cs,(i,Ob.box ty cs)∈bG bs is n x→aC p cs
 |[],is,n,x,_,i,ty,cs,h=>by cases is<;>simp[bG]at h
 |b::r,[],n,x,_,i,ty,cs,h=>by simp[bG]at h
 |b::r,i0::is,n,x,hp,i,ty,cs,h=>by
  simp only[bG]at h hp;rcases ab6.1 h with h|h
  ·cases b with
   |box ty0 c0 =>
    simp only[kr]at h hp;rcases abD.1 h with e|h
    ·cases e
     exact k9 c0 n x.1 fun e he=>hp e (abM _ (abA _ he))
    ·exact absurd h (od _ _ _ _ _ _)
   |own ok=>simp[kr]at h
  ·exact vu r is (n+16) x.2 (fun e he=>hp e (abL _ he)) i ty cs h
theorem og:∀(dV:List CK) (n i:Nat),i∈cx dV n→n≤i∧i<n+dV.length
 |[],n,i,h=>by simp[cx]at h
 |.val k::r,n,i,h=>by
  have:=og r (n+1) i (by grind [cx])
  grind
 |.own ok::r,n,i,h=>by
  simp only[cx]at h;simp only[List.length_cons];rcases abD.1 h with rfl|h
  ·omega
  ·have:=og r (n+1) i h;omega
theorem xh:∀(bs:List BK) (is:List Nat) (n i:Nat),(bs.all fun b=>decide (b.dV.length≤16))=true→i∈b7 bs is n→i∈is∨(n≤i∧i<n+16*bs.length)
 |[],is,n,i,_,h=>by grind [b7]
 |b::r,[],n,i,_,h=>by simp[b7]at h
 |b::r,i0::is,n,i,hc,h=>by
  simp only[List.all_cons,Bool.and_eq_true,decide_eq_true_eq]at hc;simp only[b7]at h;simp only[List.length_cons];rcases abD.1 h with rfl|h
  ·simp_all
  ·rcases ab6.1 h with h|h
   ·have:=og _ _ _ h;omega
   ·rcases xh r is (n+16) i hc.2 h with h1|h1
    ·simp_all
    omega
theorem jU{bs:List BK}:∀(rs:List RK) (m i:Nat),sD bs rs=true→i∈bE rs m→m≤i∧i<m+rs.length+16
 |[],m,i,_,h=>by simp[bE]at h
 |.own ok::r,m,i,hk,h=>by
  simp only[sD,List.all_cons,Bool.and_eq_true]at hk;simp only[bE]at h;simp only[List.length_cons];rcases abD.1 h with rfl|h
  ·omega
  ·have:=jU r (m+1) i hk.2 h;omega
 |.val _::r,m,i,hk,h=>by
  simp only[sD,List.all_cons,Bool.and_eq_true]at hk;have:=jU r (m+1) i hk.2 (by grind [bE])
  grind
 |.fz _ _::r,m,i,hk,h=>by
  simp only[sD,List.all_cons,Bool.and_eq_true]at hk;have:=jU r (m+1) i hk.2 (by grind [bE])
  grind
 |.agg c::r,m,i,hk,h=>by
  simp only[sD,List.all_cons,Bool.and_eq_true,Ff,decide_eq_true_eq]at hk;simp only[bE]at h;simp only[List.length_cons];rcases ab6.1 h with h|h
  ·have:=og c m i h;omega
  ·have:=jU r (m+1) i hk.2 h;omega
theorem AJ{hh:Heap}:∀(bs:List BK) (is:List Nat) (i:Nat),is.length=bs.length→i∈is→i∈dk bs hh is
 |[],is,i,hl,h=>by cases is with
  |nil=>cases h
  |cons a r=>simp at hl
 |b::r,[],i,_,h=>by cases h
 |b::r,i0::is,i,hl,h=>by
  simp only[dk];rcases abD.1 h with rfl|h
  ·refine abM _ ?_
   cases b<;>simp[nS]
  ·exact abL _ (AJ r is i (by simpa using hl) h)
theorem TU{α β:Type}:∀{a:List α} {b:List β},a.length=b.length→∀x∈a,∃y,(x,y)∈a.zip b∧(y,x)∈b.zip a
 |[],b,_,x,h=>by cases h
 |a::r,[],hl,x,_=>by simp at hl
 |a::r,c::q,hl,x,h=>by
  simp only[List.zip_cons_cons];rcases abD.1 h with rfl|h
  ·simp_all
  ·obtain⟨y,h1,h2⟩:=TU (a:=r) (b:=q) (by simpa using hl) x h
   grind
theorem wg:∀(dV:List CK) (n c:Nat),gK dV c=true→n+c∈cx dV n
 |[],n,c,h=>by simp[gK]at h
 |.own _::r,n,0,_=>by simp[cx]
 |.own _::r,n,c+1,h=>by
  simp only[gK]at h;have:=wg r (n+1) c h
  grind [cx,List.mem_cons_of_mem]
 |.val _::r,n,0,h=>by simp[gK]at h
 |.val _::r,n,c+1,h=>by
  simp only[gK]at h;have:=wg r (n+1) c h
  grind [cx]
theorem AK:∀(bs:List BK) (is:List Nat) (n b i:Nat) (bk:BK),is.length=bs.length→bs[b]? = some bk→i∈cx bk.dV (n+16*b)→i∈b7 bs is n
 |[],_,_,b,_,_,_,h,_=>by simp at h
 |_::_,[],_,_,_,_,hl,_,_=>by simp at hl
 |b0::r,i0::is,n,0,i,bk,hl,hb,hi=>by simp only[List.getElem?_cons_zero,Option.some.injEq]at hb;subst hb;simp only[b7];exact abA _ (abM _ (by simpa using hi))
 |b0::r,i0::is,n,b+1,i,bk,hl,hb,hi=>by
  simp only[List.getElem?_cons_succ]at hb;simp only[b7];refine abA _ (abL _ (AK r is (n+16) b i bk (by simpa using hl) hb ?_))
  rwa [show n+16+16*b=n+16*(b+1) by omega]
theorem lx{p:Nat→Prop}{bs:List BK}{is:List Nat}(hl:is.length=bs.length):∀(rs:List RK) (ids:List Nat) (n m:Nat) (y:mJ rs),sD bs rs=true→(∀i∈bE rs m,p i)→(∀i∈b7 bs is n,p i)→aC p (aW rs ids n m y)
 |[],_,_,_,_,_,_,_=>by simp only[aW,aC]
 |.val k::r,ids,n,m,y,hr,h1,h2=>by simp only[sD,List.all_cons,Bool.and_eq_true,Ff]at hr;simp only[aW,aC];exact⟨pI p k y.1,lx hl r ids n (m+1) y.2 hr.2 (fun i hi=>h1 i hi) h2⟩
 |.own _::r,ids,n,m,y,hr,h1,h2=>by simp only[sD,List.all_cons,Bool.and_eq_true,Ff]at hr;simp only[aW,aC,aL];exact⟨h1 m (by simp[bE]),lx hl r ids n (m+1) y.2 hr.2 (fun i hi=>h1 i (by grind [bE,List.mem_cons_of_mem])) h2⟩
 |.fz b alts::r,ids,n,m,y,hr,h1,h2=>by
  simp only[sD,List.all_cons,Bool.and_eq_true,Ff]at hr;simp only[aW,aC];refine⟨?_,lx hl r ids n (m+1) y.2 hr.2 (fun i hi=>h1 i hi) h2⟩
  cases hy:y.1 with
  |none=>simp only[wQ,aL]
  |some p =>
   obtain⟨al,i⟩:=p;simp only[wQ,aL]
   cases hb:bs[b]? with
   |none=>simp_all
   |some bk =>
    rw[hb]at hr;simp only[Bool.and_eq_true]at hr
    grind [AK,wg,List.all_eq_true,List.get_mem]
 |.agg c::r,ids,n,m,y,hr,h1,h2=>by
  simp only[sD,List.all_cons,Bool.and_eq_true,Ff]at hr;simp only[aW,aC,aL];refine⟨k9 c m y.1 fun e he=>h1 _ ?_,lx hl r ids n (m+1) y.2 hr.2 (fun i hi=>h1 i (by grind [bE,List.mem_append_right])) h2⟩;simp only[bE];have e1:(aZ c m y.1).map (·.1)=cx c m:=iA c m y.1
  grind
theorem Na{p:Nat→Prop}{vs:List AV}(h:aC p vs):aL p (fH vs):=by
 match vs,h with
 |[],h=>grind [fH,aL]
 |[v],h=>grind [fH,aC]
 |_::_::_,h=>grind [fH,aL]
def gI(P:Program)(f:FuncId)(u:Heap→Nat→List AV→Option (Bool×bF)):Prop :=∀{Z:Nat→Prop} {ψ:Nat→Value} {h:Hp} {w:World} {B0:Nat} {O N:Nat→Prop} {hh:Heap} {id:Nat} {e:bF} {vs:List AV} {us:List Value},Good Z ψ h w B0 O→B0≤w.heap.size→(∀id o,hh.get id=some o→h id=some o)→(∀j,j<256→N (id+j))→(∀i ty cs,h i=some (.box ty cs)→aC (fun i=>¬N i) cs)→(∀v hw,e=.wr v hw→hh.get=h) → au Z ψ h w vs us→aC (fun i=>¬N i) vs→u hh id vs=some (true,e) → Calls P f us.toArray w fun en w'=>∃V Z' ψ',en=.returned V∧Next Z ψ h w B0 O N Z' ψ' (e.hp h) w'∧aA Z' ψ' (e.hp h) w' e.v V
theorem Yr{R:Type}{n:Nat}(a:Fin n)(f:Fin n→Option R):adU n a f=f a:=by
 have key:∀l:List (Fin n),a∈l→l.foldr (fun j r=>cond (a.val==j.val) (f j) r) none=f a:=by
  intro l
  induction l with
  |nil=>simp_all
  |cons j r ih =>
   grind
 exact key _ (List.mem_finRange a)
theorem kF{R:Type}:∀(rs:List RK) (x:mJ rs) (K:mJ rs→Option R),kx rs x K=K x
 |[],_,_=>rfl
 |.val _::r,x,K=>by simp only[kx];rw[kF r x.2];rfl
 |.own _::r,x,K=>by simp only[kx];rw[kF r x.2];rfl
 |.agg _::r,x,K=>by simp only[kx];rw[kF r x.2];rfl
 |.fz _ alts::r,x,K=>by
  simp only[kx];obtain⟨x1,x2⟩:=x
  cases x1 with
  |none=>simp only[sE];rw[kF r x2]
  |some p=>simp only[sE];rw[Yr,kF r x2]
theorem Nb(hX:∀f g u,Sg f=some g→g.x=some u→gI P (f%1000) u)(hF:∀f g x y,Sg f=some g→F f g x=some y→GF P f g x y)(Rb:∀f g,Sg f=some g→jT P (f%1000)) {hh:Heap} {ρC:Operand→Value} {o:Oper} (g:Good Z ψ h w B0 O) (hB:B0≤w.heap.size) (bz:∀id o,hh.get id=some o→h id=some o) {id:Nat} (hN:∀j,j<256→N (id+j)) {e:bF} (bm:∀i ty cs,h i=some (.box ty cs)→aC (fun i=>¬N i) cs) (mQ:∀v hw,e=.wr v hw→hh.get=h) {f:FuncId} {cap vs:List AV} {fv:Value} {us:List Value} (hfv:aA Z ψ h w (.fn f cap) fv) (oW:au Z ψ h w vs us) (Bp:aC (fun i=>¬N i) (vs++cap)) (hex:∀(ws:Array Value),fv=.func (.func f) #[] ws→execOp ρC o=callFunc f (us.toArray++ws)) (he:jO Sg F hh id f (vs++cap) some=some e):aaf P ρC o Z ψ h w B0 O N e:=by
 unfold jO at he
 split at he
 ·cases he
 rename_i gg hSg;simp only[aA]at hfv;obtain⟨ws,rfl,TV⟩:=hfv;have GH:=Rb _ _ hSg;have jA:au Z ψ h w (vs++cap) (us++ws.toList):=au.append oW TV;have Ii:au Z ψ hh.get w (vs++cap) (us++ws.toList):=jA.oK bz;have gs:Good Z ψ hh.get w B0 O:=g.sub bz;have TW:us.toArray++ws=(us++ws.toList).toArray:=by simp
 split at he
 ·rename_i u hu
  split at he
  ·rename_i hf;obtain⟨⟨b,e'⟩,he1,XJ⟩:=ado.1 he
   cases b with
   |false=>cases XJ
   |true =>
   cases XJ
   have Kc:keyOf Sg hh f (vs++cap)%1000=f:=by rw[zg];exact Nat.mod_eq_of_lt hf
   have hx:gI P f u:=by rw[←Kc];exact hX _ _ _ hSg hu
   rw[Kc]at GH;refine⟨f,us.toArray++ws,by rw[hex ws rfl];exact mj GH _,?_⟩;rw[TW];exact hx g hB bz hN bm mQ jA Bp he1
  ·cases he
 split at he
 ·rename_i i0 yR Ij
  split at he
  ·rename_i Rc;simp only[Bool.and_eq_true,List.isEmpty_iff]at Rc;obtain⟨rfl,_⟩:=Rc
   split at he
   rotate_left
   ·cases he
   rename_i x b hx hb qH;obtain⟨y,hy,he⟩:=ado.1 he;simp only[Tk,Bool.and_eq_true,decide_eq_true_eq]at Ij;obtain⟨_,_,⟨hlen,hf⟩,_⟩:=Ij;have Fs:=(hF _ _ _ _ hSg hy).zero (Ka hb);have Kc:keyOf Sg hh f (vs++cap)%1000=f:=by rw[zg];exact Nat.mod_eq_of_lt hf
   rw[Kc]at GH;have hN':∀j,j<gg.rs.length+16→N (id+128+j):=fun j hj=>by rw[Nat.add_assoc];exact hN _ (by omega)
   refine⟨f,us.toArray++ws,by rw[hex ws rfl];exact mj GH _,?_⟩;rw[TW];unfold ad9 at Fs;rw[Kc]at Fs;by_cases vT:vM (vs++cap)=true
   ·rw[vT,Bool.or_true]at he
    cases he
    have h1:au Z MG gV w (GB gg x) (us++ws.toList):=CT gs (fun _ h=>h) gg.ps 0 _ _ x (fun v hv i b hi _ _=>(sQ vT v hv i hi).elim) yR hx Ii;refine(Fs Z w _ g.kz h1).mono fun en w' ⟨v,Z',ψ',e1,h2,h3,h4,h5,h6⟩=>?_;obtain⟨xg,n,hr⟩:=zh (nb:=id) qH g hB bm hN' h4 h2 h3 h5 h6;exact⟨v,Z',xg,e1,n,hr⟩
   ·cases hfl:gg.rs.all RK.flat with
    |true =>
     rw[hfl,Bool.true_or]at he
     cases he
     let Zc:Nat→Prop:=fun b=>b<w.heap.size
     have h1:au Zc MG gV w (GB gg x) (us++ws.toList):=CT gs g.kz gg.ps 0 _ _ x (fun v hv i b hi h1 h2=>gs.bQ ⟨i,h1,h2⟩) yR hx Ii;refine(Fs Zc w _ (fun _ h=>h) h1).mono fun en w' ⟨v,Z',ψ',e1,h2,h3,h4,h5,h6⟩=>?_;have h7:aA Z ψ' (aq gg.rs 3000 y.1).get w' (fH (aW gg.rs [] 2000 3000 y.1)) v:=wb rfl (fun vs oW=>TN gg.rs hfl qH oW) h6;have gz:Good Z ψ' (aq gg.rs 3000 y.1).get w' w.heap.size (fun _=>False):=by
      refine⟨fun i ty cs hb=>absurd hb (uf _ _ _ _ _ _ qH),fun i ok x hb=>?_,fun i b h1 h8=>?_,h5.apart,fun b hb=>ads (g.kz b hb) h4.size⟩
      ·obtain⟨ty,k,hk,rfl⟩:=ze _ _ _ _ _ x hfl qH hb;obtain⟨vs,h9,qq⟩:=h5.row i _ x hb;exact⟨vs,h9,fun j z hz=>(qq j z hz).flat hk⟩
      ·obtain⟨h9,qq⟩:=h5.live i b h1 h8;exact⟨fun hz=>h9 (h2 b (g.kz b hz)),qq⟩
     obtain⟨xg,n,hr⟩:=zh (nb:=id) qH g hB bm hN' h4 (fun _ h=>h) (fun _ h=>.inl h) gz h7;exact⟨v,Z,xg,e1,n,hr⟩
    |false =>
     rw[hfl,Bool.false_or,Bool.eq_false_iff.2 vT]at he
     cases he
     have heq:=mQ _ _ rfl;subst heq
     let cs:=dD gg.ps (vs++cap)
     have hz0:∀b,so Z ψ hh.get cs b→Z b∨Own ψ hh.get b:=fun b hb=>hb.imp (fun h=>h) (fun⟨i,_,h2,h3⟩=>⟨i,h2,h3⟩);have gd:Good (so Z ψ hh.get cs) ψ (cS hh cs).get w B0 O:=jq g cs;have h1:au (so Z ψ hh.get cs) MG gV w (GB gg x) (us++ws.toList) :=CT gs (fun _ h=>.inl h) gg.ps 0 _ _ x (fun v hv i b hi h1 h2=>.inr ⟨i,xf _ _ yR v hv i hi,h1,h2⟩) yR hx Ii;refine(Fs _ w _ gd.kz h1).mono fun en w' ⟨v,Z',ψ',e1,h2,h3,h4,h5,h6⟩=>?_;obtain⟨xg,n,hr⟩:=zh (nb:=id) qH gd hB (fun i ty cs hb=>bm i ty cs (eP _ _ _ _ hb)) hN' h4 h2 h3 h5 h6;have e2:(bF.wr (fH (aW gg.rs [] id (id+128) y.1)) (aq gg.rs (id+128) y.1++cS hh (dD gg.ps (vs++cap)))).hp hh.get=(fun i=>match (aq gg.rs (id+128) y.1).get i with|some o=>some o|none=>(cS hh cs).get i):=by
      funext i;simp only[bF.hp];rw[Heap.get_append]
      cases (aq gg.rs (id+128) y.1).get i<;>rfl
     rw[e2];exact⟨v,Z',xg,e1,n.drop (fun _ h=>.inl h) hz0 (eP _ _),hr⟩
  ·split at he
   rotate_left
   ·cases he
   rename_i x b hx hb Ft;obtain⟨y,hy,he⟩:=ado.1 he;rw[kF]at he
   cases he
   have heq:=mQ _ _ rfl;subst heq;simp only[Tk,Bool.and_eq_true,decide_eq_true_eq]at Ij;obtain⟨hrs,⟨hbl,vR⟩,⟨hlen,hf⟩,CZ⟩:=Ij;rw[Bool.and_eq_true]at Ft;have Fs:=hF _ _ _ _ hSg hy;have Kc:keyOf Sg hh f (vs++cap)%1000=f:=by rw[zg];exact Nat.mod_eq_of_lt hf
   rw[Kc]at GH;refine⟨f,us.toArray++ws,by rw[hex ws rfl];exact mj GH _,?_⟩;rw[TW];unfold GF at Fs;rw[Kc]at Fs;have hl:i0.length=gg.bs.length:=(jS _ _ _ hb).1;have GI:=(jS _ _ _ hb).2;have hle:(aQ gg.bs.length).length=gg.bs.length:=by simp[aQ]
   let lV:=dD gg.ps (vs++cap)++gO gg.bs hh i0
   let L1:List AD:=cF gg.bs hh i0 (aQ gg.bs.length) 2000 b
   have eH1:ep L1=bG gg.bs (aQ gg.bs.length) 2000 b:=jR _ _ _ _ _ _ hb hle;have eN1:L1.map (·.1)=b7 gg.bs (aQ gg.bs.length) 2000:=iy _ _ _ _ _ _ hb hle;have eS1:L1.filterMap (·.2.1)=dk gg.bs hh i0:=ll _ _ _ _ _ _ hb hle;have hn1:cg (L1.map (·.1))=true:=by rw[eN1];exact Kb CZ
   have ad8:=BO (ψ:=ψ) hn1;have JD:=(uc Ft.1).2 hh;have yC:∀b,Z b→so Z ψ hh.get lV b:=fun b hb=>.inl hb;have aem:∀e∈L1,xe (so Z ψ hh.get lV) ψ (cS hh lV).get w (ep L1).get (fC ψ L1) e:=fun e he =>mU gs yC gg.bs _ _ 2000 b hb (fun i b bM h1 h2=>.inr ⟨i,abL _ bM,h1,h2⟩) JD ad8 e he;have gin:Good (so Z ψ hh.get lV) (fC ψ L1) (ep L1).get w B0 O:=zd gs Ft.1 hn1 eS1 aem;have ein:(ep L1).get=rK gg (x,b):=by rw[eH1];rfl
   have abN:∀p∈i0.zip (aQ gg.bs.length),(p.2,some p.1)∈L1.map (fun e=>(e.1,e.2.1)):=fun p hp=>by obtain⟨o,ho⟩:=ln (hh:=hh) gg.bs i0 (aQ gg.bs.length) 2000 b hl p hp;exact acn.2 ⟨_,ho,rfl⟩
   have aen:∀p∈i0.zip (aQ gg.bs.length),fC ψ L1 p.2=ψ p.1:=fun p hp=>by
    obtain⟨⟨i,s,o⟩,ho,he⟩:=acn.1 (abN p hp)
    cases he
    exact jB hn1 ho
   have abO:au (so Z ψ hh.get lV) (fC ψ L1) (ep L1).get w (Ic gg (x,b)) (us++ws.toList) :=mA gs yC gg.ps i0 (aQ gg.bs.length) 0 _ _ x (by rw[hle,hl]) yR hx (fun i b bM h1 h2=>.inr ⟨i,abM _ bM,h1,h2⟩) (fun p hp=>⟨GI _ (List.of_mem_zip hp).1,fun _=>aen p hp⟩) Ii;have r9:∀c,Own (fC ψ L1) (rK gg (x,b)) c→∃s,s∈dk gg.bs hh i0∧hh.get s≠none∧ob (ψ s)=some c:=fun c ⟨i,h1,h2⟩=>by
    rw[←ein]at h1;obtain⟨o,ho⟩:=abS.1 h1;obtain⟨s,hm⟩:=pH ho;rw[jB hn1 hm]at h2
    cases s with
    |none=>simp[kC,ob]at h2
    |some s =>
     have hs:s∈dk gg.bs hh i0:=by rw[←eS1];exact aeg.2 ⟨_,hm,rfl⟩
     refine⟨s,hs,?_,h2⟩;have h3:=aem _ hm;rw[←JD s hs]
     cases o with
     |box ty cs=>obtain⟨⟨cs0,h4⟩,_⟩:=h3;rw[h4];simp
     |own ok xs=>rw[show(cS hh lV).get s=some (.own ok xs) from h3];simp
   refine(Fs (so Z ψ hh.get lV) (fC ψ L1) w (us++ws.toList) (by rw[←ein];exact gin.Ig _) (by rw[←ein];exact abO)).mono fun en w' ⟨v,Z',eY,e1,h2,h3,h4,h5,h6,h7⟩=>?_;obtain⟨L2,eH2,eN2,g3,hzz,abP⟩:=QZ (x:=(x,b)) (y:=y) (id:=id) hl hrs CZ Ft.2 h5 h7;have TT:∀i ty cs,(ep L2).get i=some (.box ty cs)→aC (fun j=>(ep L2).get j≠none) cs:=fun i ty cs hg=>by
    have js:=get_mem hg;rw[eH2]at js;rcases ab6.1 js with js|js
    ·exact vu gg.bs _ id y.2 (fun e he=>by rw[eH2];exact BS (o:=e.2) (abM _ he)) i ty cs js
    ·exfalso;have:∀(rs:List RK) (m:Nat) (y:mJ rs),(i,Ob.box ty cs)∉aq rs m y:=by
      intro rs
      induction rs with
      |nil=>intro m y;simp[aq]
      |cons r rs ih =>
       intro m y
       cases r with
       |agg c=>simp only[aq,List.mem_append,not_or];exact⟨od _ _ _ _ _ _,ih (m+1) y.2⟩
       |val k=>exact ih (m+1) y.2
       |fz _ _=>exact ih (m+1) y.2
       |own ok=>simp only[aq,List.mem_cons,not_or];exact⟨by simp,ih (m+1) y.2⟩
     exact this _ _ _ js
   have aep:∀i,(ep L2).get i≠none→(i∈dk gg.bs hh i0∧hh.get i≠none∧fC eY L2 i=ψ i)∨N i:=fun i hi=>by
    obtain⟨o,ho⟩:=abS.1 hi;obtain⟨s,hm⟩:=pH ho;have js:i∈b7 gg.bs i0 id++bE gg.rs (id+128):=by rw[←eN2];exact acn.2 ⟨_,hm,rfl⟩
    have hNr:∀i,id≤i→i<id+256→N i:=fun i h1 h2=>by
     have:=hN (i-id) (by omega)
     rwa [show id+(i-id)=i by omega]at this
    rcases ab6.1 js with js|js
    ·rcases xh _ _ _ _ vR js with h8|h8
     ·refine .inl ⟨AJ _ _ _ hl h8,GI i h8,?_⟩;obtain⟨ee,h9,qq⟩:=TU (by rw[hle,hl]) i h8;rw[hzz (ee,i) qq];have Fg:ee∈aQ gg.bs.length:=(List.of_mem_zip qq).1;rw[h6 ee Fg];exact aen (i,ee) h9
     ·exact .inr (hNr i h8.1 (by omega))
    ·have h8:=jU _ _ _ hrs js;exact .inr (hNr i (by omega) (by omega))
   obtain⟨C0,h8,nx⟩:=Ra (N:=N) gs hB JD bm r9 h2 h3 h4 g3 TT aep;have eH3:(bF.wr (fH (aW gg.rs i0 id (id+128) y.1)) (bG gg.bs i0 id y.2++(aq gg.rs (id+128) y.1++iv (cS hh (dD gg.ps (vs++cap)++gO gg.bs hh i0)) (dk gg.bs hh i0)))).hp hh.get =(ep L2++iv (cS hh lV) (dk gg.bs hh i0)).get:=by rw[eH2,List.append_assoc];rfl
   rw[eH3];refine⟨v,Z',C0,e1,nx,?_⟩;refine abP.move (p:=fun j=>(ep L2).get j≠none) (fun _ h=>h) (cv.refl _ _) (fun j hp _=>⟨hp,h8 j hp⟩) ?_;refine Na (lx hl gg.rs _ id (id+128) y.1 hrs (fun i hi=>?_) fun i hi=>?_)
   ·rw[←gu gg.rs (id+128) y.1]at hi;obtain⟨e,he,rfl⟩:=acn.1 hi;rw[eH2];exact BS (o:=e.2) (abL _ he)
   ·rw[←mY gg.bs i0 id y.2 hl]at hi;obtain⟨e,he,rfl⟩:=acn.1 hi;rw[eH2];exact BS (o:=e.2) (abM _ he)
 ·cases he
end Go.Vs
namespace Go.Vs
variable {P:Program} {Eqs:TypeId→Option K} {Sg:FuncId→Option aO} {F:(f:FuncId)→(g:aO)→g.A→Option g.B} {R:Type} {k:bF→Option R}
theorem gx{c:Bool}{e:bF}:cond c (k e) none=(cond c (some e) none).bind k:=by grind
theorem fT{c:Bool}{e:bF}:cond c none (k e)=(cond c none (some e)).bind k:=by grind
theorem fU{c:Bool}{e e':bF}:cond c (k e) (k e')=(cond c (some e) (some e')).bind k:=by grind
theorem gy{α:Type}(o:Option α)(f:α→Option R)(g:α→Option bF)(h:∀x,f x=(g x).bind k):o.bind f=(o.bind g).bind k:=by cases o with
 |none=>rfl
 |some x=>exact h x
theorem Nc{h:Heap}{id:Nat}{t:TypeId}{s x:AV}:o5 P h id t s x k=(o5 P h id t s x some).bind k:=by unfold o5;repeat' (first|rfl|exact gx|exact fT | exact fU|(refine gy _ _ _ (fun _=>?_))|split)
theorem Rd{h:Heap}{t:TypeId}{s x:AV}:tJ P h t s x k=(tJ P h t s x some).bind k:=by unfold tJ;repeat' (first|rfl|exact gx|exact fT | exact fU|grind [gy]|split)
theorem TX{h:Heap}{t:TypeId}{s:AV}:mK P h t s k=(mK P h t s some).bind k:=by unfold mK;repeat' (first|rfl|exact gx|exact fT | exact fU|grind [gy]|split)
theorem Ik{t:TypeId}{s x:AV}:jh P t s x k=(jh P t s x some).bind k:=by unfold jh;grind
theorem Fu{h:Heap}{t:TypeId}{s x:AV}:dN P h t s x k=(dN P h t s x some).bind k:=by unfold dN;grind [Ik]
theorem TY{x:AV}{lo hi mx:Option AV}:yK x lo hi mx k=(yK x lo hi mx some).bind k:=by unfold yK;grind
theorem Re{h:Heap}{sz:Nat}{x:AV}{lo hi mx:Option AV}:qz h sz x lo hi mx k=(qz h sz x lo hi mx some).bind k:=by unfold qz;grind
theorem Ys{h:Heap}{x:AV}:Gj h x k=(Gj h x some).bind k:=by unfold Gj;grind
theorem Yt{op:BinOp}{t:TypeId}{x y:AV}:Ar P Eqs op t x y k=(Ar P Eqs op t x y some).bind k:=by unfold Ar;repeat' (first|rfl|exact gx|exact fT | exact fU|(refine gy _ _ _ (fun _=>?_))|split)
theorem Kd(rs:List RK)(x:mJ rs)(f:mJ rs→Option R)(g:mJ rs→Option bF)(h:∀z,f z=(g z).bind k):kx rs x f=(kx rs x g).bind k:=by grind [kF]
theorem TZ{h:Heap}{id:Nat}{f:FuncId}{vs:List AV}:jO Sg F h id f vs k=(jO Sg F h id f vs some).bind k:=by unfold jO;repeat' (first|rfl|exact gx|exact fT | exact fU|(refine gy _ _ _ (fun _=>?_))|(refine Kd _ _ _ _ (fun _=>?_))|split)
theorem T0{id:Nat}{t:TypeId}{vs:List AV}:yP id t vs k=(yP id t vs some).bind k:=rfl
theorem Rf{t:TypeId}{ps:List (Nat×AV)}:tM P t ps k=(tM P t ps some).bind k:=by unfold tM;grind
theorem Il{h:Heap}{id:Nat}{t:TypeId}{n:Nat}{ps:List (Nat×AV)}:wR P h id t n ps k=(wR P h id t n ps some).bind k:=by unfold wR;grind
theorem T1{lV:Bool}{h:Heap}{id:Nat}{t:TypeId}{n:Nat}{ps:List (Nat×AV)}:yQ P lV h id t n ps k=(yQ P lV h id t n ps some).bind k:=by unfold yQ;rw[Il,Il (k:=fun e=>some (if lV then Yb e else e)),Option.bind_assoc];rfl
theorem T2{h:Heap}{s d:TypeId}{x:AV}:Cp P h s d x k=(Cp P h s d x some).bind k:=by unfold Cp;repeat' (first|rfl|exact gx|exact fT | exact fU|(refine gy _ _ _ (fun _=>?_))|split)
theorem Ke{h:Heap}{id:Nat}{t:TypeId}{s:AV}{b:ByteArray}:my P h id t s b k=(my P h id t s b some).bind k:=by unfold my;repeat' (first|rfl|exact gx|exact fT | exact fU|(refine gy _ _ _ (fun _=>?_))|split)
theorem Rg{id:Nat}{t:TypeId}{l c:AV}:tI P id t l c k=(tI P id t l c some).bind k:=by unfold tI;repeat' (first|rfl|exact gx|exact fT | exact fU|(refine gy _ _ _ (fun _=>?_))|split)
theorem T3{h:Heap}{t:TypeId}{d s:AV}:yI P h t d s k=(yI P h t d s some).bind k:=by unfold yI;repeat' (first|rfl|exact gx|exact fT | exact fU|(refine gy _ _ _ (fun _=>?_))|split)
theorem abQ{b:Bool}{vs:List AV}:QA b vs k=(QA b vs some).bind k:=by unfold QA;grind
theorem T4{h:Heap}{x:AV}:yM h x k=(yM h x some).bind k:=by unfold yM;grind
theorem Kf{id:Nat}{t:TypeId}:mz P Eqs id t k=(mz P Eqs id t some).bind k:=by unfold mz;grind
theorem Nd{h:Heap}{t:TypeId}{m i:AV}{ok:Bool}:o6 P Eqs h t m i ok k=(o6 P Eqs h t m i ok some).bind k:=by unfold o6;grind
theorem Ng{h:Heap}{t:TypeId}{m i v:AV}:jz P Eqs h t m i v k=(jz P Eqs h t m i v some).bind k:=by unfold jz;grind
theorem Nh{h:Heap}{t:TypeId}{m i:AV}:o8 P Eqs h t m i k=(o8 P Eqs h t m i some).bind k:=by unfold o8;grind
theorem Ni{id:Nat}{t:TypeId}{x:AV}:o9 P id t x k=(o9 P id t x some).bind k:=by unfold o9;grind
theorem Rh{h:Heap}{x:AV}:tK h x k=(tK h x some).bind k:=by unfold tK;grind
theorem Ri{h:Heap}{x:AV}:tL h x k=(tL h x some).bind k:=by unfold tL;grind
theorem mB{id:Nat}{h:Heap}{s:List (Nat×AV)}{o:Oper}:da P Eqs Sg F id h s o k=(da P Eqs Sg F id h s o some).bind k:=by
 obtain⟨dst,op,type,pos,after,guard⟩:=o
 cases op<;>simp only[da] <;>
  repeat' (first|rfl|exact T1|exact Nc|exact Rd|exact TX|exact Fu|exact TY|exact Re|exact Ys|exact Yt|exact TZ|exact T0|exact Rf|exact Il|exact T2|exact Ke|exact Rg|exact T3|exact abQ|exact T4|exact Kf|exact Nd|exact Ng|exact Nh|exact Ni|exact Rh|exact Ri|exact gx|(refine gy _ _ _ (fun _=>?_))|split)
theorem Rj{id:Nat}{h h':Heap}{s:List (Nat×AV)}{o:Oper}(hf:oI o.op=true):da P Eqs Sg F id h s o k=da P Eqs Sg F id h' s o k:=by
 obtain⟨dst,op,type,pos,after,guard⟩:=o
 cases op<;>simp[oI]at hf<;>first|rfl|(rename_i u _ _;cases u<;>rfl)
theorem Yu{op:BinOp}{t:TypeId}{x y:AV}{e:bF}(he:Ar P Eqs op t x y some=some e):∃v,e=.val v:=by
 unfold Ar at he
 grind
theorem Kg{id:Nat}{h:Heap}{s:List (Nat×AV)}{o:Oper}{e:bF}(hf:oI o.op=true)(he:da P Eqs Sg F id h s o some=some e):∃v,e=.val v:=by
 obtain⟨dst,op,type,pos,after,guard⟩:=o
 cases op<;>simp only[oI]at hf<;>first|(cases hf;done)|skip
 case unOp u t x =>
  cases u<;>simp only[da]at he<;>repeat' (first|(cases he;done)|exact⟨_,(acP he).symm⟩|split at he)
 case makeFunc fn first cap =>
  cases fn<;>simp only[da]at he<;>repeat' (first|(cases he;done)|exact⟨_,(acP he).symm⟩|split at he)
 all_goals simp only[da]at he
 case binOp=>exact Yu he
 case slice =>
  repeat' (first|(cases he;done)|split at he)
  all_goals
   first|unfold yK at he|unfold qz at he
   repeat' (first|(cases he;done)|exact⟨_,(acP he).symm⟩|split at he)
   all_goals
    unfold cond at he
    split at he<;>first|(cases he;done)|exact⟨_,(acP he).symm⟩
 case build =>
  unfold tM at he
  repeat' (first|(cases he;done)|exact⟨_,(acP he).symm⟩|split at he)
 all_goals
  repeat' (first|(cases he;done)|exact⟨_,(acP he).symm⟩|split at he)
end Go.Vs
namespace Go.Vs
variable {P:Program} {Eqs:TypeId→Option K} {Sg:FuncId→Option aO} {F:(f:FuncId)→(g:aO)→g.A→Option g.B} {R:Type}
variable {Z Z' Z0:Nat→Prop} {ψ ψ' ψ0:Nat→Value} {h h':Hp} {w w' w0:World} {B0:Nat} {O N:Nat→Prop}
structure Env(P:Program)(Eqs:TypeId→Option K)(Sg:FuncId→Option aO)(F:(f:FuncId)→(g:aO)→g.A→Option g.B):Prop where
 eqs:∀t k,Eqs t=some k→mR P t k
 con:∀f g x y,Sg f=some g→F f g x=some y→GF P f g x y
 spec:∀f g u,Sg f=some g→g.x=some u→gI P (f%1000) u
 Kh:∀f g,Sg f=some g→jT P (f%1000)
theorem Ki{s:List (Nat×AV)}{ρC:Operand→Value}:∀(l:List Operand),(∀x∈l,aA Z ψ h w (ρ s x) (ρC x))→au Z ψ h w (l.map (ρ s)) (l.map ρC)
 |[],_=>by simp[au]
 |x::r,hx=>by simp only[List.map_cons,au];exact⟨_,_,rfl,hx x ab4,Ki r fun y hy=>hx y (abA _ hy)⟩
theorem GJ{s:List (Nat×AV)}{p:Nat→Prop}:∀(l:List Operand),(∀x∈l,aL p (ρ s x))→aC p (l.map (ρ s))
 |[],_=>by simp[aC]
 |x::r,hx=>by simp only[List.map_cons,aC];exact⟨hx x ab4,GJ r fun y hy=>hx y (abA _ hy)⟩
theorem aai(E:Env P Eqs Sg F){hh:Heap}{a:Act}{s:List (Nat×AV)}{o:Oper}(g:Good Z ψ h w B0 O)(hB:B0≤w.heap.size)(bz:∀id o,hh.get id=some o→h id=some o){id:Nat}(hN:makes o.op=true→∀j,j<256→N (id+j)){e:bF} (nX:∀x∈o.op.operands,aA Z ψ h w (ρ s x) (a.eval x)) (hm:∀x∈o.op.operands,aL (fun i=>¬N i) (ρ s x)) (bm:∀i ty cs,h i=some (.box ty cs)→aC (fun i=>¬N i) cs) (mQ:∀v hw,e=.wr v hw→hh.get=h) (he:da P Eqs Sg F id hh s o some=some e) {next:Act→World→Prop} {Q:Exit→Act→World→Prop} (hk:∀V w' Z' ψ',Next Z ψ h w B0 O N Z' ψ' (e.hp h) w'→aA Z' ψ' (e.hp h) w' e.v V→next (a.put o.dst V) w'):o.wp P a w next Q:=by
 have d:im P a.eval o Z ψ h w B0 O N e∨aaf P a.eval o Z ψ h w B0 O N e:=by
  cases MF:xd o with
  |false=>exact .inl (TK E.eqs g hB bz (fun hm=>by simpa using hN hm 0 (by decide)) nX hm bm mQ MF he)
  |true =>
   refine .inr ?_;obtain⟨dst,op,type,pos,after,guard⟩:=o
   cases op<;>simp[xd]at MF
   rename_i c;obtain⟨callee,args,argTypes⟩:=c
   cases callee<;>simp at MF
   rename_i fo;simp only[da]at he
   split at he
   ·rename_i f cap hf;simp only[Op.operands,Call.operands]at nX;have h1:=nX fo (by simp);rw[hf]at h1;have h2:au Z ψ h w (args.toList.map (ρ s)) (args.toList.map a.eval):=Ki _ fun x hx=>nX x (by simp_all);have hmf:=hm fo (by simp[Op.operands,Call.operands]);rw[hf]at hmf;simp only[aL]at hmf;have hma:aC (fun i=>¬N i) (args.toList.map (ρ s)):=GJ _ fun x hx=>hm x (by grind [Op.operands,Call.operands]);refine Nb E.spec E.con E.Kh g hB bz (hN rfl) bm mQ h1 h2 (qU hma hmf) (fun ws TV=>?_) he;simp only[execOp,resolve,TV,Deferred.ofValue];simp only[pure_bind,invoke];congr 1
    grind
   ·cases he
 unfold Oper.wp;rcases d with⟨V,w',Z',ψ',h1,h2,h3⟩|⟨f,args,h1,h2⟩
 ·rcases h1 with h1|⟨h1,rfl⟩
  ·rw[h1];exact hk V w' Z' ψ' h2 h3
  ·rw[h1];exact hk undef w' Z' ψ' h2 h3
 ·rw[h1,Oper.upon_enter];refine h2.mono fun en w' ⟨V,Z',ψ',e1,n,hr⟩=>?_
  grind
structure Ok(Z0:Nat→Prop)(w0:World)(O:Nat→Prop)(ψ0:Nat→Value)(Z:Nat→Prop)(ψ:Nat→Value)(h:Hp)(w:World):Prop where
 dE:Good Z ψ h w w0.heap.size O
 gG:∀b,Z0 b→Z b
 fj:∀b,Z b→Z0 b∨O b∨w0.heap.size≤b
 os:w.os=w0.os
 tape:w.tape=w0.tape
 output:w.output=w0.output
 size:w0.heap.size≤w.heap.size
 block:∀b,b<w0.heap.size→¬O b→w.heap[b]? = w0.heap[b]?
 fix:∀i,i<2000→h i≠none→ψ i=ψ0 i
theorem Ok.next(k:Ok Z0 w0 O ψ0 Z ψ h w)(hN:∀id,N id→2000≤id)(n:Next Z ψ h w w0.heap.size O N Z' ψ' h' w'):Ok Z0 w0 O ψ0 Z' ψ' h' w':=by
 have own:∀b,Own ψ h b→w0.heap.size≤b∨O b:=fun b ⟨id,h1,h2⟩=>(k.dE.live id b h1 h2).2;refine⟨n.dE,fun b hb=>n.gG b (k.gG b hb),fun b hb=>?_,n.keep.os.trans k.os,n.keep.tape.trans k.tape,n.keep.output.trans k.output,acE k.size n.keep.size,fun b hb ho=>?_,fun i hi bB=>?_⟩
 ·rcases n.fj b hb with h1|h1|h1
  ·exact k.fj b h1
  ·grind
  ·exact .inr (.inr (acE k.size h1))
 ·rw[n.keep.block b (Nat.lt_of_lt_of_le hb k.size) (fun h1=>(own b h1).elim (fun h2=>by omega) ho)];exact k.block b hb ho
 ·rcases n.ids i bB with⟨h1,h2⟩|h1
  ·rw[h2];exact k.fix i hi h1
  grind
structure cX(Z:Nat→Prop)(ψ:Nat→Value)(h:Hp)(w:World)(n:Nat)(T:Nat→AV)(a:Act):Prop where
 rep:∀d,aA Z ψ h w (T d) (a.tmps.getD d undef)
 size:a.tmps.size=n
 defers:a.defers=[]
theorem Rk:aA Z ψ h w (.oG []) undef:=by simp only[aA,au];exact⟨#[],rfl,rfl⟩
def iB(T:Nat→AV)(d:Option Tmp)(v:AV):Nat→AV:=match d with
 |some d=>dY T d v
 |none=>T
theorem iC(st:St)(d:Option Tmp)(v:AV):look (st.put d v).tmps=iB (look st.tmps) d v:=by
 cases d with
 |none=>rfl
 |some d =>
  funext i;simp only[St.put,look,iB,dY]
  grind
theorem dp(st:St)(d:Option Tmp)(v:AV):(st.put d v).heap=st.heap:=by cases d<;>rfl
theorem GK{T:List (Nat×AV)}{d:Nat}{v:AV}(hv:look T d=v):dY (look T) d v=look T:=by
 grind [dY]
theorem iD{a:Act}{d:Nat}{v:Value}(hd:d<a.tmps.size)(i:Nat):(a.put (some d) v).tmps.getD i undef=if i=d then v else a.tmps.getD i undef:=by
 simp only[Act.put];by_cases e:i=d
 ·simp_all
 ·simp[e,Array.getElem?_setIfInBounds_ne (Ne.symm e)]
theorem cJ(a:Act)(d:Option Tmp)(v:Value):(a.put d v).tmps.size=a.tmps.size:=by cases d<;>simp[Act.put]
theorem put_defers(a:Act)(d:Option Tmp)(v:Value):(a.put d v).defers=a.defers:=by cases d<;>rfl
theorem cX.put{n:Nat}{T:Nat→AV}{a:Act}{o:Oper}{x:AV}{V:Value}(t:cX Z ψ h w n T a)(hd:jl n o=true)(hx:aA Z ψ h w x V):cX Z ψ h w n (iB T o.dst x) (a.put o.dst V):=by
 refine⟨fun d=>?_,by rw[cJ];exact t.size,by rw[put_defers];exact t.defers⟩;unfold jl at hd
 split at hd
 ·rename_i d0 hd0;rw[hd0];rw[iD (by rw[t.size];simpa using hd)];simp only[iB,dY]
  split
  ·exact hx
  ·exact t.rep d
 ·rename_i hd0;rw[hd0];exact t.rep d
theorem cX.next{n:Nat}{T:Nat→AV}{a:Act}(t:cX Z ψ h w n T a)(g:Good Z ψ h w B0 O)(hn:Next Z ψ h w B0 O N Z' ψ' h' w')(hm:∀d,aL (fun i=>¬N i) (T d)):cX Z' ψ' h' w' n T a :=⟨fun d=>hn.rep g (hm d) (t.rep d),t.size,t.defers⟩
theorem sV{n:Nat}{s:List (Nat×AV)}{a:Act}(t:cX Z ψ h w n (look s) a)(x:Operand):aA Z ψ h w (ρ s x) (a.eval x):=by
 cases x with
 |tmp i=>exact t.rep i
 |const v=>exact JV v
 |global g=>simp only[ρ,aA]
 |func f=>simp only[ρ,aA,au,Act.eval];exact⟨#[],rfl,rfl⟩
theorem C1(p:Nat→Prop)(v:Value):aL p (vL v):=by
 cases v with
 |agg cs=>grind [vL,aL,yZ]
 |_=>grind [vL,CS]
theorem Rl{p:Nat→Prop}{s:List (Nat×AV)}(hm:∀d,aL p (look s d))(x:Operand):aL p (ρ s x):=by
 cases x with
 |tmp i=>exact hm i
 |const v=>exact C1 p v
 |global g=>simp only[ρ,aL]
 |func f=>simp only[ρ,aL,aC]
def nN(rid:Nat)(S:Nat→Prop)(id:Nat):Prop:=id / 32768=rid+1→S (id / 256%128)
def Of(rid i id:Nat):Prop:=id / 256=(rid+1)*128+i
theorem Of.parts{rid i id:Nat}(hi:i<128)(h:Of rid i id):id / 32768=rid+1∧id / 256%128=i:=by
 grind [Of]
theorem Of.of{rid i id:Nat}(h:id / 32768=rid+1)(hi:id / 256%128=i):Of rid i id:=by unfold Of;omega
theorem OV{rid i j:Nat}(hj:j<256):Of rid i (opId rid i+j):=by unfold Of opId;omega
theorem Kj{rid i:Nat}:Of rid i (opId rid i):=by unfold Of opId;omega
theorem nN.C2{rid i id:Nat}{S:Nat→Prop}(hi:i<128)(hs:¬S i)(h:nN rid S id):¬Of rid i id:=fun ho=>by obtain⟨h1,h2⟩:=ho.parts hi;have:=h h1;simp_all
theorem pK{rid bits id:Nat}{S:Nat→Prop}(hb:∀j,bits.testBit j=true→S j)(h:u6 rid bits id=true):nN rid S id:=fun h1=>by simp_all [u6,Bool.or_eq_true,bne_iff_ne,ne_eq]
mutual
theorem qV{rid bits:Nat}{S:Nat→Prop}(hb:∀j,bits.testBit j=true→S j):∀{v:AV},ve rid bits v=true→aL (nN rid S) v
 |.ref id s i off,h=>by simp only[ve]at h;simp only[aL];exact pK hb h
 |.bN id,h=>by simp only[ve]at h;simp only[aL];exact pK hb h
 |.fn f cap,h=>by simp only[ve]at h;simp only[aL];exact nc hb h
 |.agg cs,h=>by simp only[ve]at h;simp only[aL];exact nc hb h
 |.oG cs,h=>by simp only[ve]at h;simp only[aL];exact nc hb h
 |.no,_=>by simp only[aL]
 |.bool _,_=>by simp only[aL]
 |.int _ _,_=>by simp only[aL]
 |.str _,_=>by simp only[aL]
 |.mg,_=>by simp only[aL]
 |.gh,_=>by simp only[aL]
 |.fp _ _ _,_=>by simp only[aL]
 |.sl _ _ _,_=>by simp only[aL]
 |.mp _ _ _,_=>by simp only[aL]
theorem nc{rid bits:Nat}{S:Nat→Prop}(hb:∀j,bits.testBit j=true→S j):∀{v:List AV},Cr rid bits v=true→aC (nN rid S) v
 |[],_=>by simp only[aC]
 |v::r,h=>by simp only[Cr,Bool.and_eq_true]at h;simp only[aC];exact⟨qV hb h.1,nc hb h.2⟩
end
theorem ng{rid bits:Nat}{S:Nat→Prop}(hb:∀j,bits.testBit j=true→S j):∀{hh:Heap},As rid bits hh=true→∀id o,hh.get id=some o→nN rid S id∧∀ty cs,o=.box ty cs→aC (nN rid S) cs
 |[],_,id,o,hg=>by simp[Heap.get]at hg
 |(i,ob)::r,h,id,o,hg=>by
  simp only[Heap.get]at hg
  split at hg
  ·rename_i e;subst e
   cases hg
   cases ob with
   |box ty cs =>
    simp only[As,Bool.and_eq_true]at h
    grind [pK,nc]
   |own ok xs =>
    simp only[As,Bool.and_eq_true]at h
    grind [pK]
  ·refine ng hb ?_ id o hg
   cases ob<;>simp only[As,Bool.and_eq_true]at h<;>exact h.2
def bF.heap(e:bF)(h:Heap):Heap:=match e with
 |.wr _ h'=>h'
 |e=>e.h h
theorem bF.Kk(e:bF)(hh:Heap):(e.heap hh).get=e.hp hh.get:=by
 cases e with
 |val v=>rfl
 |new v os=>grind [bF.heap,bF.h,bF.hp,Heap.get_append,Heap.get]
 |wr v h'=>rfl
def vv(p:Nat→Prop)(h:Hp):Prop:=∀i ty cs,h i=some (.box ty cs)→aC p cs
theorem C3{ops:Array Oper}{o:Oper}{n:Nat}{T:Nat→AV}{a:Act}(t:cX Z ψ h w n T a){j d:Nat}{want:Bool}(hg:o.guard=some (j,want))(hd:(ops[j]?).bind (·.dst)=some d){b:Bool}(hb:T d=.bool b) :
  Region.wanted o (yielded ops a.tmps)=(b==want):=by
 have h1:=t.rep d;rw[hb]at h1;simp only[aA]at h1;have h2:a.tmps[d]? = some (.bool b):=by
  rw[Array.getD_eq_getD_getElem?]at h1
  cases e:a.tmps[d]? with
  |none=>rw[e]at h1;simp[undef]at h1
  |some v=>rw[e]at h1;simpa using h1
 unfold Region.wanted yielded;rw[hg];simp only[hd,Option.bind_some,h2]
 cases b<;>cases want<;>rfl
theorem AL{ops:Array Oper}{o:Oper}{n:Nat}{T:Nat→AV}{a:Act}(t:cX Z ψ h w n T a){j d:Nat}{want:Bool}(hg:o.guard=some (j,want))(hd:(ops[j]?).bind (·.dst)=some d){vs:List AV}(hb:T d=.oG vs) :
  Region.wanted o (yielded ops a.tmps)=false:=by
 have h1:=t.rep d;rw[hb]at h1;simp only[aA]at h1;obtain⟨us,h1,_⟩:=h1;unfold Region.wanted yielded;rw[hg];simp only[hd,Option.bind_some];rw[Array.getD_eq_getD_getElem?]at h1
 grind
def C4(ops:Array Oper):Nat→List (Nat×Oper)→Prop
 |_,[]=>True
 |i,(j,o)::r=>j=i∧ops[i]? = some o∧C4 ops (i+1) r
theorem Kl(ops:Array Oper):∀(l:List Oper) (i:Nat),(∀k o,l[k]? = some o→ops[i+k]? = some o)→C4 ops i ((l.zipIdx i).map fun p=>(p.2,p.1))
 |[],_,_=>by simp[C4]
 |o::r,i,h=>by simp only[List.zipIdx_cons,List.map_cons,C4];exact⟨trivial,h 0 o rfl,Kl ops r (i+1) fun k o' hk=>by rw[Nat.add_assoc,Nat.add_comm 1 k];simp_all⟩
theorem pM(ops:Array Oper):C4 ops 0 (ops.toList.zipIdx.map fun p=>(p.2,p.1)):=Kl ops _ 0 fun k o hk=>by simpa using hk
theorem GL(ops:Array Oper):(ops.toList.zipIdx.map fun p=>(p.2,p.1)).map Prod.fst=List.range ops.size:=by rw[List.map_map];have:(Prod.fst ∘ fun(p:Oper×Nat)=>(p.2,p.1))=Prod.snd:=rfl;rw[this,List.zipIdx_map_snd,List.range_eq_range',Array.length_toList]
structure J(p:Nat→Prop)(n:Nat)(Z0:Nat→Prop)(w0:World)(O:Nat→Prop)(ψ0:Nat→Value)(Z:Nat→Prop)(ψ:Nat→Value)(T:Nat→AV)(h:Hp)(a:Act)(w:World):Prop where
 ok:Ok Z0 w0 O ψ0 Z ψ h w
 tr:cX Z ψ h w n T a
 tm:∀d,aL p (T d)
 hm:vv p h
theorem J.imp{p q:Nat→Prop}{n:Nat}{T:Nat→AV}{a:Act}(j:J p n Z0 w0 O ψ0 Z ψ T h a w)(H8:∀id,p id→q id):J q n Z0 w0 O ψ0 Z ψ T h a w :=⟨j.ok,j.tr,fun d=>(j.tm d).imp H8,fun id ty cs hb=>(j.hm id ty cs hb).imp H8⟩
theorem J.op(E:Env P Eqs Sg F){rid n i:Nat}{p:Nat→Prop}{T:Nat→AV}{a:Act}{s:List (Nat×AV)}{o:Oper}(hS:makes o.op=true→∀id,p id→¬Of rid i id)(j:J p n Z0 w0 O ψ0 Z ψ T h a w)(hd:jl n o=true) (hT:∀x∈o.op.operands,aA Z ψ h w (ρ s x) (a.eval x)) (hTm:∀x∈o.op.operands,aL p (ρ s x)) {hh:Heap} (bz:∀id o,hh.get id=some o→h id=some o) {e:bF} (he:da P Eqs Sg F (opId rid i) hh s o some=some e) (mQ:∀v hw,e=.wr v hw→hh.get=h) {p':Nat→Prop} (Ta:∀k,p k→p' k) (hv:aL p' e.v) (hh':vv p' (e.hp h)) {next:Act→World→Prop} {Q:Exit→Act→World→Prop} (hk:∀a' w' Z' ψ',J p' n Z0 w0 O ψ0 Z' ψ' (iB T o.dst e.v) (e.hp h) a' w'→next a' w'):o.wp P a w next Q:=by
 have nof:∀id,p id→¬(makes o.op=true∧Of rid i id):=fun id h ⟨h1,h2⟩=>hS h1 id h h2;refine aai (N:=fun id=>makes o.op=true∧Of rid i id) E j.ok.dE j.ok.size bz (id:=opId rid i) (fun hm k hk=>⟨hm,OV hk⟩) hT (fun x hx=>(hTm x hx).imp nof) (fun id ty cs hb=>(j.hm id ty cs hb).imp nof) mQ he fun V w' Z' ψ' nx hr=>?_;refine hk _ w' Z' ψ' ⟨j.ok.next (fun id h=>by grind [Of]) nx,(j.tr.next j.ok.dE nx (fun d=>(j.tm d).imp nof)).put hd hr,fun d=>?_,hh'⟩
 cases nO:o.dst with
 |none=>exact(j.tm d).imp Ta
 |some d0 =>
  simp only[iB,dY]
  split
  ·exact hv
  ·exact(j.tm d).imp Ta
theorem J.skip{n:Nat}{p p':Nat→Prop}{T:Nat→AV}{a:Act}{o:Oper}(j:J p n Z0 w0 O ψ0 Z ψ T h a w)(hd:jl n o=true)(Ta:∀k,p k→p' k) :
  J p' n Z0 w0 O ψ0 Z ψ (iB T o.dst (.oG [])) h (a.put o.dst undef) w:=by
 refine⟨j.ok,j.tr.put hd Rk,fun d=>?_,fun id ty cs hb=>(j.hm id ty cs hb).imp Ta⟩
 cases nO:o.dst with
 |none=>exact(j.tm d).imp Ta
 |some d0 =>
  simp only[iB,dY]
  split
  ·simp only[aL,aC]
  ·exact(j.tm d).imp Ta
theorem Yv{hh:Heap}(g:Good Z ψ hh.get w B0 O){m:Nat}{kk vk:K}{es:List (kk.T×vk.T)}(hg:hh.get m=some (.own (.map kk vk) es))(n:Next Z ψ hh.get w B0 O N Z' ψ' h' w')(hzm:∀b,ob (ψ m)=some b→Z' b) (hold:∀b,b<w.heap.size→w'.heap[b]? = w.heap[b]?) {v:AV} {V:Value} (hm:aL (fun id=>¬N id) v) (hr:aA Z ψ hh.get w v V):aA Z' ψ' h' w' (Bm m (.mp kk vk es) v) V:=by
 by_cases hv:v=.bN m
 ·subst hv;simp only[Bm,if_true];simp only[aA]at hr;have hu:=hr.2 (by rw[hg];simp);obtain⟨r,b8,clock,h1,h2,h3,_⟩:=g.row m (.map kk vk) es hg;rw[h1]at hu;subst hu;have aN:=(abR.1 h2).1;simp only[aA,aJ];exact⟨some r,rfl,.inr ⟨r,b8,clock,rfl,hzm r (by rw[h1];rfl),(hold r aN).trans h2,h3.imp (fun _ _ h=>h.mono n.gG (fun b hb=>hold b (g.kz b hb))) (fun _ _ h=>h.mono n.gG (fun b hb=>hold b (g.kz b hb)))⟩⟩
 ·have hf:Bm m (.mp kk vk es) v=v:=by
   unfold Bm
   grind
  rw[hf];exact n.rep g hm hr
theorem T5{p:Nat→Prop}{m:Nat}{kk vk:K}{es:List (kk.T×vk.T)}{v:AV}(hm:aL p v):aL p (Bm m (.mp kk vk es) v):=by
 unfold Bm
 grind [aL]
theorem uk(f:AV→AV)(hf:f .no=.no):∀(l:List (Nat×AV)) (d:Nat),look (l.map fun p=>(p.1,f p.2)) d=f (look l d)
 |[],_=>by simp only[List.map_nil,look];exact hf.symm
 |(i,v)::r,d=>by
  simp only[List.map_cons,look]
  split
  ·rfl
  ·exact uk f hf r d
theorem Nj{rid n i:Nat}{p p':Nat→Prop}{st fk:St}{a:Act}{o:Oper}(hS:∀id,p id→¬Of rid i id)(Ta:∀k,p k→p' k)(TP:p' (opId rid i))(j:J p n Z0 w0 O ψ0 Z ψ (look st.tmps) st.heap.get a w)(hd:jl n o=true)(qW:qD P (opId rid i) st o=some fk) :
  ∃V w' Z' ψ',(execOp a.eval o).run P w=.ok (.value V) w'∧J p' n Z0 w0 O ψ0 Z' ψ' (look fk.tmps) fk.heap.get (a.put o.dst V) w':=by
 unfold qD at qW
 split at qW
 ·rename_i t x OX
  split at qW
  ·rename_i ka va m hu hx
   split at qW
   ·rename_i kk vk es hg
    cases qW
    have hxr:aA Z ψ st.heap.get w (.bN m) (a.eval x):=by rw[←hx];exact sV j.tr x
    simp only[aA]at hxr;have hev:=hxr.2 (by rw[hg];simp);have g:=j.ok.dE;obtain⟨r,b8,clock,h1,h2,h3,h4,h5⟩:=g.row m (.map kk vk) es hg;rw[h1]at hev;have aN:=(abR.1 h2).1;have gd:=jq g [.bN m];have aer:∀b,ob (ψ m)=some b→so Z ψ st.heap.get [.bN m] b:=fun b hb=>.inr ⟨m,by simp,by rw[hg];simp,hb⟩;have hold:∀b,b<w.heap.size→(w.alloc (.mapIter (some r) clock #[] clock)).heap[b]? = w.heap[b]? := fun b hb=>heap_alloc_old w _ hb;have hN:(Of rid i) (opId rid i):=Kj;have n1:=CL (N:=Of rid i) gd j.ok.size (opId rid i) hN (ok:=.iter kk vk) (x:=(none,es)) (v:=.pointer (some ⟨w.heap.size,0,none⟩)) (.mapIter (some r) clock #[] clock) ⟨w.heap.size,r,clock,#[],b8,clock,rfl,heap_alloc_new _ _,aer r (by rw[h1];rfl),(hold r aN).trans h2,h4,rfl,h5,by rw[List.filter_eq_self.2 (fun e _=>by simp)];exact h3.imp (fun _ _ h=>h.mono (fun b hb=>.inl hb) (fun b hb=>hold b (g.kz b hb))) (fun _ _ h=>h.mono (fun b hb=>.inl hb) (fun b hb=>hold b (g.kz b hb))),trivial⟩ rfl (fun i' ty cs hb=>aC.imp (p:=p) (q:=fun i'=>i'≠opId rid i) (fun id hp e=>hS id hp (by simp_all)) (j.hm i' ty cs (eP _ _ _ _ hb)));have n2:=n1.drop (Z:=Z) (h:=st.heap.get) (fun b hb=>.inl hb) (fun b hb=>hb.imp (fun h=>h) (fun⟨id,_,h5,h6⟩=>⟨id,h5,h6⟩)) (eP _ _);have l9:(dY (cS st.heap [.bN m]).get (opId rid i) (some (Ob.own (.iter kk vk) (none,es))))=Heap.get ((opId rid i,.own (.iter kk vk) (none,es))::st.heap.del m):=by
     funext k;simp only[cS,drop1,dY,Heap.get]
     grind
    rw[l9]at n2;refine⟨.pointer (some ⟨w.heap.size,0,none⟩),w.alloc (.mapIter (some r) clock #[] clock),so Z ψ st.heap.get [.bN m],dY ψ (opId rid i) (.pointer (some ⟨w.heap.size,0,none⟩)),?_,?_⟩
    ·simp_all [guard,Instr.range,Sem.run_bind,run_underlying,Result.andThen_ok,gT,Sem.run_pure,execOp]
    ·have bm:∀d,aL (fun id=>¬Of rid i id) (look st.tmps d):=fun d=>(j.tm d).imp hS;refine⟨by rw[dp];exact j.ok.next (fun id h=>by grind [Of]) n2,?_,fun d=>?_,fun k ty cs hb=>?_⟩
     ·rw[iC,dp];refine cX.put ⟨fun d=>?_,j.tr.size,j.tr.defers⟩ hd ?_
      ·rw[uk _ rfl];exact Yv g hg n2 (fun b hb=>aer b hb) hold (bm d) (j.tr.rep d)
      ·simp only[aA];exact⟨⟨rfl,rfl⟩,fun _=>(bh _ _ _).symm⟩
     ·rw[iC];have hb:aL p' (look (st.tmps.map fun q=>(q.1,Bm m (.mp kk vk es) q.2)) d):=by rw[uk _ rfl];exact T5 ((j.tm d).imp Ta)
      cases nO:o.dst with
      |none=>exact hb
      |some d0 =>
       simp only[iB,dY]
       grind [aL]
     ·rw[dp]at hb;simp only[Heap.get]at hb
      split at hb
      ·cases hb
      ·exact(j.hm k ty cs (Heap.wX hb).1).imp Ta
   ·cases qW
  ·cases qW
 ·cases qW
theorem pN{R:Type}{n:Nat}{f:Nat→Option R}{r:R}(h:sI n f=some r):∀j,j<n→f j=some r:=by
 unfold sI at h
 split at h
 ·grind
 ·cases h
theorem ml{R:Type}{n:Nat}{f:Nat→Option R}{r:R}(hn:0<n)(h:∀j,j<n→f j=some r):sI n f=some r:=by
 unfold sI;have hx:∃r,∀j,j<n→f j=some r:=⟨r,h⟩;rw[dif_pos hx]
 grind
theorem Next.drawn{d:Nat}(n:Next Z ψ h { w with drawn:=d } B0 O N Z' ψ' h' w'):Next Z ψ h w B0 O N Z' ψ' h' w' :=⟨n.gG,n.fj,⟨n.keep.os,n.keep.tape,n.keep.output,n.keep.size,n.keep.block⟩,n.ids,n.dE⟩
theorem Good.drawn{d:Nat}(g:Good Z ψ h w B0 O):Good Z ψ h { w with drawn:=d } B0 O:=by
 have sm:cv Z w ({ w with drawn:=d }:World):=fun _ _=>rfl;refine⟨fun id ty cs hb=>?_,fun id ok xs hb=>?_,g.live,g.apart,g.kz⟩
 ·obtain⟨gg,vs,h1,h2,h3,h4⟩:=g.box id ty cs hb;exact⟨gg,vs,h1,h2,h3.less (fun _ h=>h) sm (fun i hi=>⟨hi,rfl⟩),h4⟩
 ·exact(g.row id ok xs hb).kept (fun _ h=>h) sm (fun gg _=>rfl)
theorem filter_push{l:List MapEntry}(h:l.Pairwise (fun a b=>a.born≠b.born)){seen:Array Nat}{j:Nat}{e:MapEntry}(he:(l.filter fun e => !seen.contains e.born)[j]? = some e) :
  l.filter (fun x => !(seen.push e.born).contains x.born)=(l.filter fun e => !seen.contains e.born).eraseIdx j:=by
 have h2:(l.filter fun e => !seen.contains e.born).Pairwise (fun a b=>a.born≠b.born):=h.sublist List.filter_sublist;rw[←ChangeMaps.filter_eq_eraseIdx (fun x=>x.born==e.born) _ j e he (by simp) (h2.imp fun {a b} bB hc=>bB (by simp_all))]
 grind [List.filter_filter,Array.contains_push]
theorem Nk{R:Type}{hh:Heap}(g:Good Z ψ hh.get w B0 O){x:AV}{u:Value}{ty:TypeId}(hx:aA Z ψ hh.get w x u){kk:AV→Heap→Option R}{r:R}(he:mh hh x kk=some r) :
  ∃v h' V w',(Instr.next u false ty).run P w=.ok V w'∧Next Z ψ hh.get w B0 O N Z ψ h'.get w'∧aA Z ψ h'.get w' v V∧kk v h'=some r∧(∀p,aL p v)∧∀i ty cs,h'.get i=some (.box ty cs)→hh.get i=some (.box ty cs):=by
 unfold mh at he
 split at he
 ·rename_i id
  split at he
  ·rename_i kk1 vk pp hg;simp only[aA]at hx;have hu:=hx.2 (by rw[hg];simp);obtain⟨b,m,since,seen,b8,clock,h1,h2,h3,h4,h5,h6,h7,h8,h9⟩:=g.row id (.iter kk1 vk) pp hg;rw[h1]at hu;subst hu;subst h6;have aN:=(abR.1 h2).1;have aak:(leftOf b8 seen).toList=b8.toList.filter fun e => !seen.contains e.born:=by unfold leftOf;simp
   have hlen:pp.2.length=(leftOf b8 seen).size:=by rw[h8.1,←aak,Array.length_toList]
   rcases run_next_at (P:=P) w ty b m since since seen b8 since h2 h4 h7 (acf _) with⟨qq,dn⟩|⟨e,js,w1,MH,dn⟩
   ·have Rc:pp.2.isEmpty=true:=by rw[List.isEmpty_iff];exact abY (by rw[hlen,qq])
    rw[Rc]at he;simp only[cond_true]at he;exact⟨_,hh,_,w,dn,Next.refl g,by simp only[aA,au];exact⟨_,rfl,_,_,rfl,rfl,rfl⟩,he,fun p=>by simp only[aL,aC];exact⟨trivial,trivial⟩,fun _ _ _ h=>h⟩
   ·obtain⟨k,hk,hke⟩:=List.mem_iff_getElem.1 js;have qu:k<pp.2.length:=by rw[hlen,←Array.length_toList];exact hk
    have Rc:pp.2.isEmpty=false:=by
     cases hl:pp.2 with
     |nil=>rw[hl]at qu;simp at qu
     |cons _ _=>rfl
    rw[Rc]at he;simp only[cond_false]at he;have hj:=pN he k qu;rw[List.getElem?_eq_getElem qu,Option.bind_some]at hj;have abT:(b8.toList.filter fun e => !seen.contains e.born)[k]? = some e:=by rw[←aak,List.getElem?_eq_getElem hk,hke]
    have H4:=h8.2 k _ e (aa8 qu) abT;obtain⟨⟨k1,k2,k3⟩,v1,v2,v3⟩:=H4;have ajM:e∈b8.toList:=(adE.1 (acI abT)).1;have gd1:Good Z ψ hh.get w1 B0 O:=by rcases MH with rfl|rfl;exact g;exact g.drawn
    have Im:w1.heap=w.heap:=by rcases MH with rfl|rfl<;>rfl
    have hmb:m≠b:=fun hmb=>by subst hmb;exact(g.live id m (by rw[hg];simp) (by rw[h1];rfl)).1 h3
    have n1:=tW (N:=N) gd1 (id:=id) (by rw[hg];simp) (r:=b) (by rw[h1];rfl) (by rw[Im];exact aN) (.mapIter (some m) since (seen.push e.born) since) (ok:=.iter kk1 vk) (x:=(some pp.2[k],pp.2.eraseIdx k)) (fun w' ME sm=>by
     have sm':cv Z w w':=fun c hc=>(sm c hc).trans (by rw[Im]);refine⟨b,m,since,seen.push e.born,b8,since,h1,by rw[ME,Im];simp[aN],h3,?_,h5,rfl,h7,?_,?_⟩
     ·rw[ME,Im,yV _ (fun e=>hmb e.symm)];exact h4
     ·rw[filter_push h5 abT];exact(lk.erase h8 k).mono (fun _ h=>h) sm'
     ·refine⟨e,ajM,by simp,⟨rfl,fun q y e' qq Fg=>?_⟩⟩
      cases q with
      |zero=>cases qq;cases Fg;exact⟨⟨k1.mono (fun _ h=>h) sm',k2,k3⟩,v1.mono (fun _ h=>h) sm',v2,v3⟩
      |succ q=>simp at qq)
    have n2:Next Z ψ hh.get w B0 O N Z ψ (dY hh.get id (some (.own (.iter kk1 vk) (some pp.2[k],pp.2.eraseIdx k)))) { w1 with heap:=w1.heap.setIfInBounds b (.mapIter (some m) since (seen.push e.born) since) }:=by
     rcases MH with rfl|rfl
     ·exact n1
     ·exact n1.drawn
    refine⟨_,hh.set id (.own (.iter kk1 vk) (some pp.2[k],pp.2.eraseIdx k)),_,_,dn,by rw[kX];exact n2,?_,hj,fun p=>?_,fun i ty cs hb=>?_⟩
    ·have sm':cv Z w ({ w1 with heap:=w1.heap.setIfInBounds b (.mapIter (some m) since (seen.push e.born) since) }:World):=n2.same g;simp only[aA,au];exact⟨_,rfl,_,_,rfl,rfl,_,_,rfl,mP (k1.mono (fun _ h=>h) sm') k2 k3,_,_,rfl,mP (v1.mono (fun _ h=>h) sm') v2 v3,rfl⟩
    ·simp only[aL,aC];exact⟨trivial,pI _ _ _,pI _ _ _,trivial⟩
    ·rw[kX]at hb;unfold dY at hb
     split at hb
     ·cases hb
     ·exact hb
  ·cases he
 ·cases he
theorem Km(op:BinOp)(t:TypeId)(a b:Operand)(x y:Option Addr)(n m c d:Nat):(eqGuard op t a b (.slice x n c) (.slice y m d)).run P w=.ok () w:=by simp_all [eqGuard]
theorem Fv{t e:TypeId}(ht:P.underlying t=some (.slice e))(a:Option Addr)(n c:Nat):(Op.equal t (.slice a n c) (.slice none 0 0)).run P w=.ok a.isNone w:=by
 have key:∀d,(Op.equalIn (d+1) t (.slice a n c) (.slice none 0 0)).run P w=.ok a.isNone w:=fun d=>by cases a<;>simp[Op.equalIn,run_underlying ht]
 exact key 9999
theorem Nl{o:Oper}{x:Operand}{want:Bool}(h:isNil P o=some (x,want)):∃op t v t' e,o.op=.binOp op t x (.const v) t'∧P.underlying t=some (.slice e)∧v=.slice none 0 0∧((op=.eql∧want=true)∨(op=.neq∧want=false)):=by
 unfold isNil at h
 split at h
 ·rename_i op t x' v t' OX;have hv:∀v:Value,yG v=.gh→v=.slice none 0 0:=fun v hv=>by
   unfold yG at hv
   grind
  grind
 ·cases h
theorem T6{R:Type}{hh:Heap}(g:Good Z ψ hh.get w B0 O){x:AV}{u:Value}{op:BinOp}{t e:TypeId}(xo yo:Operand)(hx:aA Z ψ hh.get w x u)(ht:P.underlying t=some (.slice e)){want:Bool}(ho:(op=.eql∧want=true)∨(op=.neq∧want=false)){kk:AV→Option R}{r:R}(he:wU hh x want kk=some r) :
  ∃c:Bool,((eqGuard op t xo yo u (.slice none 0 0)).run P w=.ok () w∧(binOp op t u (.slice none 0 0)).run P w=.ok (.bool c) w)∧kk (.bool c)=some r:=by
 have run:∀(a:Option Addr) (n c:Nat),(eqGuard op t xo yo (.slice a n c) (.slice none 0 0)).run P w=.ok () w∧(binOp op t (.slice a n c) (.slice none 0 0)).run P w=.ok (.bool (a.isNone==want)) w:=fun a n c=>by refine⟨Km _ _ _ _ _ _ _ _ _ _,?_⟩;rcases ho with⟨rfl,rfl⟩|⟨rfl,rfl⟩<;>simp only[Sem.run_bind,Result.andThen_ok,binOp,Fv ht,Sem.run_pure]<;>cases a.isNone<;>rfl
 have fin:∀(n:Nat) (a:Option Addr) (c:Nat) (xs:Bool),(a=none→xs=true)→cond xs (sI 2 fun j=>kk (.bool ((j==0)==want))) (kk (.bool (!want)))=some r → ∃c':Bool,((eqGuard op t xo yo (.slice a n c) (.slice none 0 0)).run P w=.ok () w∧(binOp op t (.slice a n c) (.slice none 0 0)).run P w=.ok (.bool c') w)∧kk (.bool c')=some r:=fun n a c xs Ax h=>by
  refine⟨_,run a n c,?_⟩
  cases xs with
  |true =>
   simp only[cond_true]at h
   cases a with
   |none=>exact pN h 0 (by decide)
   |some a=>exact pN h 1 (by decide)
  |false =>
   simp only[cond_false]at h
   cases a with
   |none=>cases Ax rfl
   |some a=>simp_all
 unfold wU at he
 split at he
 ·rename_i hv;have hxn:x=.gh:=by
   cases x<;>simp only[c9]at hv<;>try cases hv
   ·rfl
   grind
  grind [aA]
 ·rename_i ex k xs hv
  cases x with
  |sl ex' k' xs' =>
   simp only[c9]at hv
   cases hv
   simp only[aA,aJ]at hx;obtain⟨⟨v,hv,A,c,rfl,h1,h2,_⟩,_⟩:=hx
   cases hv
   refine fin _ A c _ (fun hA=>?_) he;simp_all
  |bN id =>
   simp only[c9]at hv;simp only[aA]at hx
   split at hv
   ·rename_i hg
    cases hv
    have hu:=hx.2 (by rw[hg];simp);obtain⟨vs,⟨_,h1⟩,_⟩:=g.row id _ _ hg;rw[←hu]at h1;rcases h1 with⟨h1,A,rfl⟩|⟨gg,cap,cur,rfl,_⟩
    ·exact fin _ A 0 _ (fun _=>List.isEmpty_iff.2 (abY h1)) he
    ·exact fin _ _ _ _ (fun h=>by cases h) he
   ·cases hv
   ·cases hv
  |_=>grind [c9]
 ·cases he
theorem C5{draw:Bool}{rid:Nat}{ops:Array Oper}{b:Array Nat}{i MR:Nat}{e:bF}{S:Nat→Prop}{hh:Heap}(hm:vv (nN rid S) h)(ha:∀j,MR.testBit j=true→S j)(he:ib draw rid ops b i MR e=true) :
  aL (nN rid fun k=>S k∨k=i) e.v∧vv (nN rid fun k=>S k∨k=i) (e.hp h):=by
 have JR:∀j,(MR ||| 2 ^ i).testBit j=true→S j∨j=i:=fun j hj=>by
  grind
 have up:vv (nN rid fun k=>S k∨k=i) h:=fun id ty cs hb=>(hm id ty cs hb).imp (fun id h1 h2=>.inl (h1 h2))
 cases e with
 |val v=>exact⟨qV (fun j hj=>.inl (ha j hj)) he,up⟩
 |new v os =>
  simp only[ib,Bool.and_eq_true]at he;refine⟨qV JR he.1.1,fun id ty cs hb=>?_⟩;simp only[bF.hp]at hb
  split at hb
  ·rename_i o ho
   cases hb
   exact(ng JR he.2 _ _ ho).2 _ _ rfl
  ·exact up id ty cs hb
 |wr v h' =>simp only[ib,Bool.and_eq_true]at he;exact⟨qV JR he.1.2,fun id ty cs hb=>(ng JR he.2 _ _ hb).2 _ _ rfl⟩
theorem Fw{i j:Nat}(h:(2 ^ i-1).testBit j=true):j<i:=by simp_all
def zm(mk:Bool)(rid i id:Nat):Prop:=mk=true→nN rid (fun k=>k<i) id
theorem mC(E:Env P Eqs Sg F){rid n:Nat}{ops:Array Oper}{b:Array Nat}(mk:Bool)(Yw:mk=false→∀(i:Nat) (o:Oper),ops[i]? = some o→makes o.op=false)(hn:ops.size≤128)(nO:∀(i:Nat) (o:Oper),ops[i]? = some o→jl n o=true){kk:St→Option R}{r:R}{Q:Exit→Act→World→Prop} (hQ:∀fk Z ψ a w,kk fk=some r→Ok Z0 w0 O ψ0 Z ψ fk.heap.get w→cX Z ψ fk.heap.get w n (look fk.tmps) a→Q .normal a w) :
  ∀(l:List (Nat×Oper)) (i:Nat) (st:St) (Z:Nat→Prop) (ψ:Nat→Value) (a:Act) (w:World),C4 ops i l→bJ P Eqs Sg F rid false ops b l st kk=some r → J (zm mk rid i) n Z0 w0 O ψ0 Z ψ (look st.tmps) st.heap.get a w→wpOps P ops Q (l.map Prod.fst) a w
 |[],i,st,Z,ψ,a,w,_,hx,j=>hQ st Z ψ a w hx j.ok j.tr
 |(i',o)::l,i,st,Z,ψ,a,w,hl,hx,j=>by
  obtain⟨rfl,ho,hl⟩:=hl;have hi:i'<128:=ads (abR.1 ho).1 hn;have XQ:=nO i' o ho;have ih:=mC E (rid:=rid) (b:=b) mk Yw hn nO hQ l (i'+1);have up:∀id,zm mk rid i' id→zm mk rid (i'+1) id:=fun id h hm hr=>Nat.lt_succ_of_lt (h hm hr);have runs:∀jt:St,look jt.tmps=look st.tmps→jt.heap=st.heap→Region.wanted o (yielded ops a.tmps)=true →(match qD P (opId rid i') jt o with
    |some fk=>bJ P Eqs Sg F rid false ops b l fk kk
    |none=>match wT o with
    |some x=>mh jt.heap (ρ jt.tmps x) fun v h=>bJ P Eqs Sg F rid false ops b l (({ jt with heap:=h }:St).put o.dst v) kk
    |none=>match isNil P o with
    |some (x,want)=>wU jt.heap (ρ jt.tmps x) want fun v=>bJ P Eqs Sg F rid false ops b l (jt.put o.dst v) kk
    |none=>da P Eqs Sg F (opId rid i') jt.heap jt.tmps o fun e=>if ib false rid ops b i' (2 ^ i' - 1) e then bJ P Eqs Sg F rid false ops b l ({ jt with heap:=match e with | .wr _ h=>h|e=>e.h jt.heap }.put o.dst e.v) kk else none)=some r →
    wpOps P ops Q (((i',o)::l).map Prod.fst) a w:=by
   intro jt h1 h2 hw hx
   split at hx
   ·rename_i fk qW;simp only[List.map_cons,wpOps,ho,hw,if_true];refine .inl ?_;have apT:makes o.op=true:=by
     unfold qD at qW
     split at qW
     ·rename_i OX;rw[OX];rfl
     ·cases qW
    have ajO:mk=true:=by
     grind
    have j1:J (zm mk rid i') n Z0 w0 O ψ0 Z ψ (look jt.tmps) jt.heap.get a w:=by simp_all
    obtain⟨V,w',Z',ψ',dn,j'⟩:=Nj (P:=P) (p':=zm mk rid (i'+1)) (fun id hp sq=>by obtain⟨h3,h4⟩:=sq.parts hi;have:=hp ajO h3;omega) up (fun _ h3=>by have:=((Kj (rid:=rid) (i:=i')).parts hi).2;omega) j1 XQ qW;unfold Oper.wp;rw[dn];exact ih fk Z' ψ' _ w' hl hx j'
   split at hx
   ·rename_i x Rm;simp only[List.map_cons,wpOps,ho,hw,if_true];refine .inl ?_;have OX:o.op=.next x false:=by
     grind [wT]
    have hxr:aA Z ψ jt.heap.get w (ρ jt.tmps x) (a.eval x):=sV (by rw[h1,h2];exact j.tr) x;have g1:Good Z ψ jt.heap.get w w0.heap.size O:=by rw[h2];exact j.ok.dE
    obtain⟨v,h',V,w',dn,nx,hr,Ym,XL,r8⟩:=Nk (P:=P) (N:=fun _=>False) (ty:=o.type) g1 hxr hx;have T7:(execOp a.eval o).run P w=.ok (.value V) w':=by simp_all [guard,execOp]
    unfold Oper.wp;rw[T7];refine ih _ Z ψ _ w' hl Ym ?_;rw[iC,dp];have j1:J (zm mk rid i') n Z0 w0 O ψ0 Z ψ (look jt.tmps) jt.heap.get a w:=by simp_all
    refine⟨j1.ok.next (fun id h=>h.elim) nx,(j1.tr.next g1 nx (fun d=>(j1.tm d).imp fun _ _ h=>h)).put XQ hr,fun d=>?_,fun k ty cs hb=>(j1.hm k ty cs (r8 k ty cs hb)).imp up⟩
    cases nO:o.dst with
    |none=>exact(j1.tm d).imp up
    |some d0 =>
     simp only[iB,dY]
     split
     ·exact XL _
     ·exact(j1.tm d).imp up
   split at hx
   ·rename_i x want hnl;obtain⟨op,t,v,t',et,OX,ht,rfl,C6⟩:=Nl hnl;simp only[List.map_cons,wpOps,ho,hw,if_true];refine .inl ?_;have hxr:aA Z ψ jt.heap.get w (ρ jt.tmps x) (a.eval x):=sV (by rw[h1,h2];exact j.tr) x;have g1:Good Z ψ jt.heap.get w w0.heap.size O:=by rw[h2];exact j.ok.dE
    obtain⟨c,dn,Ym⟩:=T6 (P:=P) g1 x (.const (.slice none 0 0)) hxr ht C6 hx;have T7:(execOp a.eval o).run P w=.ok (.value (.bool c)) w:=by obtain⟨dst,op',type,pos,after,guard⟩:=o;simp only at OX;subst OX;have e1:a.eval (.const (.slice none 0 0))=.slice none 0 0:=rfl;simp_all [execOp]
    unfold Oper.wp;rw[T7];refine ih _ Z ψ _ w hl Ym ?_;rw[iC,dp];have j1:J (zm mk rid i') n Z0 w0 O ψ0 Z ψ (look jt.tmps) jt.heap.get a w:=by simp_all
    refine⟨j1.ok,j1.tr.put XQ (by rfl),fun d=>?_,fun k ty cs hb=>(j1.hm k ty cs hb).imp up⟩
    cases nO:o.dst with
    |none=>exact(j1.tm d).imp up
    |some d0 =>
     simp only[iB,dY]
     split
     ·simp only[aL]
     ·exact(j1.tm d).imp up
   rw[mB]at hx;obtain⟨e,he,hx⟩:=ado.1 hx
   split at hx
   ·rename_i kZ;simp only[List.map_cons,wpOps,ho,hw,if_true];refine .inl ?_;have hh:jt.heap.get=st.heap.get:=by rw[h2]
    have qW:aL (zm mk rid (i'+1)) e.v∧vv (zm mk rid (i'+1)) (e.hp st.heap.get):=by
     cases abU:mk with
     |false =>have ht:zm false rid (i'+1)=fun _=>True:=funext fun id=>propext ⟨fun _=>trivial,fun _ h=>by cases h⟩;rw[ht];exact⟨aL.top _,fun _ _ cs _=>aC.top cs⟩
     |true =>
      have hm':vv (nN rid fun k=>k<i') st.heap.get:=fun id ty cs hb=>(j.hm id ty cs hb).imp fun id h1=>h1 abU;have h3:=C5 (hh:=jt.heap) hm' (fun k hk=>Fw hk) kZ;have hS:∀k,(k<i'∨k=i')→k<i'+1:=fun k hk=>by omega
      exact⟨h3.1.imp fun id h1 _ h2=>hS _ (h1 h2),fun id ty cs hb=>(h3.2 id ty cs hb).imp fun id h1 _ h2=>hS _ (h1 h2)⟩
    refine J.op E (p:=zm mk rid i') (p':=zm mk rid (i'+1)) (rid:=rid) (i:=i') (s:=jt.tmps) (fun hm id hp sq => ?_) j XQ (fun x _=>sV (by rw[h1];exact j.tr) x) (fun x _=>Rl (by rw[h1];exact j.tm) x) (fun id o hg=>by simp_all) he (fun _ _ _=>hh) up qW.1 qW.2 fun a' w' Z' ψ' j' => ?_
    ·cases abU:mk with
     |false=>grind
     |true =>obtain⟨h3,h4⟩:=sq.parts hi;have:=hp abU h3;omega
    refine ih _ Z' ψ' a' w' hl hx ?_;rw[iC,dp];have j2:J (zm mk rid (i'+1)) n Z0 w0 O ψ0 Z' ψ' (iB (look jt.tmps) o.dst e.v) (bF.heap e jt.heap).get a' w':=by grind [bF.Kk]
    exact j2
   ·cases hx
  have xi:∀jt:St,look jt.tmps=look st.tmps→jt.heap=st.heap→Region.wanted o (yielded ops a.tmps)=false → bJ P Eqs Sg F rid false ops b l (jt.put o.dst (.oG [])) kk=some r→wpOps P ops Q (((i',o)::l).map Prod.fst) a w:=by intro jt h1 h2 hw hx;simp only[List.map_cons,wpOps,ho,hw,Bool.false_eq_true,if_false];refine ih _ Z ψ _ w hl hx ?_;rw[iC,dp,h1,h2];exact j.skip XQ up
  rw[bJ]at hx;simp only[Bool.false_eq_true,if_false]at hx
  split at hx
  ·rename_i hg;exact runs st rfl rfl (by simp[Region.wanted,hg]) hx
  ·rename_i jj want hg
   split at hx
   ·cases hx
   ·rename_i d hd
    split at hx
    ·rename_i t ht;have hw:=C3 j.tr hg hd ht;have hp:∀b,t=b→look (st.put (some d) (.bool b)).tmps=look st.tmps:=fun b hb=>by subst hb;rw[iC];exact GK ht
     cases t<;>simp only[cond_true,cond_false]at hx<;>split at hx<;>rename_i C6
     ·exact xi _ (hp false rfl) (dp _ _ _) (by simp_all) hx
     ·exact runs _ (hp false rfl) (dp _ _ _) (by simp_all) hx
     ·exact runs _ (hp true rfl) (dp _ _ _) (by simp_all) hx
     ·exact xi _ (hp true rfl) (dp _ _ _) (by simp_all) hx
    ·rename_i vs ht;exact xi st rfl rfl (AL j.tr hg hd ht) hx
    ·cases hx
theorem ly(hp h:Heap)(i:Nat):∀(ft:List Nat),(fO ft hp h).get i=if i∈ft then(match hp.get i with|some o=>some o|none=>h.get i) else h.get i
 |[]=>by simp[fO]
 |j::r=>by
  have ih:=ly hp h i r;unfold fO at ih ⊢
  cases hj:hp.get j with
  |none =>
   rw[List.filterMap_cons,hj];simp only[Option.map_none];rw[ih];by_cases e:i=j
   ·subst e;simp[hj]
   ·simp[e]
  |some o =>
   rw[List.filterMap_cons,hj];simp only[Option.map_some,List.cons_append,Heap.get];rw[ih];by_cases e:j=i
   ·subst e;simp[hj]
   ·have e':¬i=j:=fun h=>e h.symm;simp[e,e']
mutual
theorem AM{ft:List Nat}:∀{v:AV},sH ft v=true→aL (fun i=>i∉ft) v
 |.ref id _ _ _,h=>by simp only[aL];simpa[sH] using h
 |.bN id,h=>by simp only[aL];simpa[sH] using h
 |.fn _ cap,h=>by simp only[aL];exact lA (by simpa only[sH] using h)
 |.agg cs,h=>by simp only[aL];exact lA (by simpa only[sH] using h)
 |.oG vs,h=>by simp only[aL];exact lA (by simpa only[sH] using h)
 |.no,_=>by simp only[aL]
 |.bool _,_=>by simp only[aL]
 |.int _ _,_=>by simp only[aL]
 |.str _,_=>by simp only[aL]
 |.mg,_=>by simp only[aL]
 |.gh,_=>by simp only[aL]
 |.fp _ _ _,_=>by simp only[aL]
 |.sl _ _ _,_=>by simp only[aL]
 |.mp _ _ _,_=>by simp only[aL]
theorem lA{ft:List Nat}:∀{l:List AV},vN ft l=true→aC (fun i=>i∉ft) l
 |[],_=>by simp only[aC]
 |v::r,h=>by simp only[vN,Bool.and_eq_true]at h;simp only[aC];exact⟨AM h.1,lA h.2⟩
end
theorem lC{ft:List Nat}:∀{hh:Heap},vO ft hh=true→∀i o,hh.get i=some o→i∉ft∧∀ty cs,o=.box ty cs→aC (fun i=>i∉ft) cs
 |[],_,i,o,h=>by simp[Heap.get]at h
 |(j,.box ty cs)::r,hc,i,o,h=>by
  simp only[vO,Bool.and_eq_true]at hc;simp only[Heap.get]at h
  split at h
  ·rename_i e;subst e;cases h;exact⟨by simpa using hc.1,fun ty cs e=>by cases e;exact lA hc.2.1⟩
  ·exact lC hc.2.2 i o h
 |(j,.own ok x)::r,hc,i,o,h=>by
  simp only[vO,Bool.and_eq_true]at hc;simp only[Heap.get]at h
  split at h
  ·rename_i e;subst e;cases h;exact⟨by simpa using hc.1,fun ty cs e=>by cases e⟩
  ·exact lC hc.2 i o h
theorem Next.frame{hp h1:Heap}{ft:List Nat}(g:Good Z ψ hp.get w B0 O)(hB:B0≤w.heap.size)(bm:∀i ty cs,hp.get i=some (.box ty cs)→aC (fun i=>¬N i) cs) (n:Next Z ψ (iv hp ft).get w w.heap.size (Own ψ (iv hp ft).get) N Z' ψ' h1.get w') (hc:vO ft h1=true) :
  ∃eY,Next Z ψ hp.get w B0 O N Z' eY (fO ft hp h1).get w'∧∀i,i∉ft→eY i=ψ' i:=by
 classical
 have gd:∀i,(iv hp ft).get i=if i∈ft then none else hp.get i:=fun i=>pJ ft hp i
 have bz:∀b,Own ψ (iv hp ft).get b→Own ψ hp.get b:=fun b ⟨i,h1,h2⟩=>⟨i,by simp_all,h2⟩;have vT:∀i,i∈ft→h1.get i=none:=fun i hi=>by
  cases e:h1.get i with
  |none=>rfl
  |some o=>grind [absurd,lC]
 have gf:∀i,(fO ft hp h1).get i=if i∈ft then hp.get i else h1.get i:=fun i=>by
  rw[ly]
  grind
 let eY:Nat→Value:=fun i=>if i∈ft then ψ i else ψ' i
 have p1:∀i,i∈ft→eY i=ψ i:=fun i hi=>if_pos hi;have p2:∀i,i∉ft→eY i=ψ' i:=fun i hi=>if_neg hi;have apart:∀i b,i∈ft→hp.get i≠none→ob (ψ i)=some b→¬Own ψ (iv hp ft).get b:=fun i b hi h2 h3 ⟨j,h4,h5⟩=>by
  rw[gd]at h4
  split at h4
  ·exact h4 rfl
  ·rename_i hj;have:=g.apart i j b h2 h4 h3 h5;simp_all
 have cI:∀i b,i∈ft→hp.get i≠none→ob (ψ i)=some b→w'.heap[b]? = w.heap[b]? := fun i b hi h2 h3 =>n.keep.block b (g.bQ ⟨i,h2,h3⟩) (apart i b hi h2 h3);have keep:cT ψ hp.get w w':=⟨n.keep.os,n.keep.tape,n.keep.output,n.keep.size,fun b hb hn=>n.keep.block b hb fun ho=>hn (bz b ho)⟩;have sm:cv Z w w':=keep.same g;have ids:∀i,(fO ft hp h1).get i≠none→(hp.get i≠none∧eY i=ψ i)∨N i:=fun i hi=>by
  rw[gf]at hi;by_cases hf:i∈ft
  ·simp_all
  ·rw[if_neg hf]at hi;rcases n.ids i hi with⟨h2,h3⟩|h2
   ·simp_all
   simp_all
 have nz:∀i b,i∈ft→hp.get i≠none→ob (ψ i)=some b→¬Z' b:=fun i b hi h2 h3 hz=>by
  rcases n.fj b hz with h4|h4|h4
  ·exact(g.live i b h2 h3).1 h4
  ·grind
  ·have:=g.bQ ⟨i,h2,h3⟩;omega
 refine⟨eY,⟨n.gG,fun b hb=>(n.fj b hb).imp (fun h=>h) (fun h=>h.imp (bz b) fun h=>h),keep,ids,⟨fun i ty cs hb=>?_,fun i ok x hb=>?_,fun i b h2 h3=>?_,fun i j b h2 h3 h4 h5=>?_,n.dE.kz⟩⟩,p2⟩
 ·rw[gf]at hb;by_cases hf:i∈ft
  ·rw[if_pos hf]at hb;obtain⟨gg,vs,e1,e2,e3,e4⟩:=g.box i ty cs hb;refine⟨gg,vs,by simp_all,(cI i gg hf (by rw[hb];simp) (by rw[e1];rfl)).trans e2,e3.move n.gG sm (fun j hj bB=>(ids j bB).resolve_right hj) (bm i ty cs hb),e4⟩
  ·rw[if_neg hf]at hb;obtain⟨gg,vs,e1,e2,e3,e4⟩:=n.dE.box i ty cs hb;refine⟨gg,vs,by simp_all,e2,e3.move (fun _ h=>h) (cv.refl _ _) (fun j hj bB=>?_) ((lC hc i _ hb).2 ty cs rfl),e4⟩;simp_all
 ·rw[gf]at hb;by_cases hf:i∈ft
  ·rw[if_pos hf]at hb;rw[p1 i hf];exact(g.row i ok x hb).kept n.gG sm (fun b oV=>cI i b hf (by rw[hb];simp) oV)
  ·rw[if_neg hf]at hb;rw[p2 i hf];exact n.dE.row i ok x hb
 ·rw[gf]at h2;by_cases hf:i∈ft
  ·rw[if_pos hf]at h2;rw[p1 i hf]at h3;exact⟨nz i b hf h2 h3,(g.live i b h2 h3).2⟩
  ·rw[if_neg hf]at h2;rw[p2 i hf]at h3;obtain⟨h4,h5⟩:=n.dE.live i b h2 h3;refine⟨h4,h5.elim (fun h=>.inl (acE hB h)) fun h=>?_⟩;obtain⟨j,h6,h7⟩:=bz b h;exact(g.live j b h6 h7).2
 ·have mixed:∀i j b,i∈ft→j∉ft→(fO ft hp h1).get i≠none→(fO ft hp h1).get j≠none→ob (eY i)=some b→ob (eY j)=some b→False:=fun i j b hi hj h2 h3 h4 h5=>by
   rw[gf,if_pos hi]at h2;rw[gf,if_neg hj]at h3;rw[p1 i hi]at h4;rw[p2 j hj]at h5;rcases (n.dE.live j b h3 h5).2 with h6|h6
   ·have:=g.bQ ⟨i,h2,h4⟩;omega
   grind
  by_cases hi:i∈ft<;>by_cases hj:j∈ft
  ·rw[gf,if_pos hi]at h2;rw[gf,if_pos hj]at h3;rw[p1 i hi]at h4;rw[p1 j hj]at h5;exact g.apart i j b h2 h3 h4 h5
  ·grind
  ·grind
  ·rw[gf,if_neg hi]at h2;rw[gf,if_neg hj]at h3;rw[p2 i hi]at h4;rw[p2 j hj]at h5;exact n.dE.apart i j b h2 h3 h4 h5
theorem J.opF(E:Env P Eqs Sg F){rid n i:Nat}{p:Nat→Prop}{T:Nat→AV}{a:Act}{s:List (Nat×AV)}{o:Oper}(hS:makes o.op=true→∀id,p id→¬Of rid i id){hp h1:Heap}{v:AV}{ft:List Nat}(j:J p n Z0 w0 O ψ0 Z ψ T hp.get a w)(hd:jl n o=true) (hT:∀x∈o.op.operands,aA Z ψ hp.get w (ρ s x) (a.eval x)) (hTm:∀x∈o.op.operands,aL p (ρ s x)) (he:da P Eqs Sg F (opId rid i) (iv hp ft) s o some=some (.wr v h1)) (hc:mM ft (.wr v h1)=true) {p':Nat→Prop} (Ta:∀k,p k→p' k) (hv:aL p' v) (hh':vv p' (fO ft hp h1).get) {next:Act→World→Prop} {Q:Exit→Act→World→Prop} (hk:∀a' w' Z' ψ',J p' n Z0 w0 O ψ0 Z' ψ' (iB T o.dst v) (fO ft hp h1).get a' w'→next a' w'):o.wp P a w next Q:=by
 have nof:∀id,p id→¬(makes o.op=true∧Of rid i id):=fun id h ⟨h1,h2⟩=>hS h1 id h h2;simp only[mM,Bool.and_eq_true]at hc;have bz:∀id o,(iv hp ft).get id=some o→hp.get id=some o:=fun id o h=>by grind [pJ]
 have bB:∀id,(iv hp ft).get id≠none→hp.get id≠none:=fun id h=>by obtain⟨o,ho⟩:=abS.1 h;simp_all
 have bm:∀i' ty cs,hp.get i'=some (.box ty cs)→aC (fun id=>¬(makes o.op=true∧Of rid i id)) cs:=fun id ty cs hb=>(j.hm id ty cs hb).imp nof;have gs:Good Z ψ (iv hp ft).get w w.heap.size (Own ψ (iv hp ft).get):=(j.ok.dE.sub bz).Ig _;refine aai (N:=fun id=>makes o.op=true∧Of rid i id) E gs (acf _) (fun _ _ h=>h) (id:=opId rid i) (fun hm k hk=>⟨hm,OV hk⟩) (fun x hx=>(hT x hx).oK bz) (fun x hx=>(hTm x hx).imp nof) (fun id ty cs hb=>bm id ty cs (bz _ _ hb)) (fun _ _ _=>rfl) he fun V w' Z' ψ' nx hr=>?_;obtain⟨eY,n2,h2⟩:=Next.frame j.ok.dE j.ok.size bm nx hc.2;have Rn:aA Z' eY (fO ft hp h1).get w' v V:=hr.move (p:=fun i=>i∉ft) (fun _ h=>h) (cv.refl _ _) (fun k hk bB=>by rw[ly,if_neg hk]at bB;exact⟨bB,h2 k hk⟩) (AM hc.1);refine hk _ w' Z' eY ⟨j.ok.next (fun id h=>by grind [Of]) n2,(j.tr.next j.ok.dE n2 (fun d=>(j.tm d).imp nof)).put hd Rn,fun d=>?_,hh'⟩
 cases nO:o.dst with
 |none=>exact(j.tm d).imp Ta
 |some d0 =>
  simp only[iB,dY]
  split
  ·exact hv
  ·exact(j.tm d).imp Ta
end Go.Vs
namespace Go.Vs
variable {P:Program} {Eqs:TypeId→Option K} {Sg:FuncId→Option aO} {F:(f:FuncId)→(g:aO)→g.A→Option g.B} {R:Type}
variable {Z Z' Z0:Nat→Prop} {ψ ψ':Nat→Value} {h h':Hp} {w w' w0:World} {B0:Nat} {O N:Nat→Prop}
variable {rid n:Nat} {ops:Array Oper} {b:Array Nat}
def um(b:Array Nat)(i j:Nat):Prop:=(b.getD i 0).testBit j=true
theorem GM(b:Array Nat)(j:Nat):∀(l:List Edge) (s:Nat),(l.foldl (fun s e=>if Region.binds .any e then s ||| 2 ^ e.on ||| b.getD e.on 0 else s) s).testBit j=true ↔
  s.testBit j=true∨∃e∈l,Region.binds .any e=true∧(j=e.on∨um b e.on j)
 |[],s=>by simp
 |e::l,s=>by
  rw[List.foldl_cons,GM b j l];by_cases hb:Region.binds .any e=true
  ·rw[if_pos hb];have h2:(2 ^ e.on).testBit j=true↔j=e.on:=by grind
   simp only[Nat.testBit_or,Bool.or_eq_true,h2,List.mem_cons,exists_eq_or_imp,hb,true_and,um]
   grind
  simp_all
theorem BT(hb:wS ops b=true){i j:Nat}{o:Oper}(ho:ops[i]? = some o):um b i j↔∃e∈o.after.toList,Region.binds .any e=true∧(j=e.on∨um b e.on j):=by have aN:=(abR.1 ho).1;have h1:=adp.1 hb i (adr.2 aN);rw[ho]at h1;simp only[Bool.and_eq_true,beq_iff_eq]at h1;unfold um;rw[h1.2,GM];simp[um]
theorem Nm(hb:wS ops b=true){i:Nat}{o:Oper}(ho:ops[i]? = some o){e:Edge}(he:e∈o.after.toList)(S8:Region.binds .any e=true):e.on<i:=by
 have aN:=(abR.1 ho).1;have h1:=adp.1 hb i (adr.2 aN)
 grind
theorem C7(hb:wS ops b=true):∀(i j:Nat),i<ops.size→um b i j→j<i:=by
 intro i
 induction i using Nat.strongRecOn with
 |ind i ih =>
  intro j hi h;obtain⟨e,he,S8,h1⟩:=(BT hb (acw hi)).1 h;have hon:=Nm hb (acw hi) he S8
  grind
theorem GN(hb:wS ops b=true):∀(i j k:Nat),i<ops.size→um b i j→um b j k→um b i k:=by
 intro i
 induction i using Nat.strongRecOn with
 |ind i ih =>
  intro j k hi h h';obtain⟨e,he,S8,h1⟩:=(BT hb (acw hi)).1 h;have hon:=Nm hb (acw hi) he S8;refine(BT hb (acw hi)).2 ⟨e,he,S8,?_⟩
  grind
theorem get_filter(f:Nat→Bool):∀(hh:Heap) (i:Nat),Heap.get (hh.filter fun p=>f p.1) i=if f i then hh.get i else none
 |[],i=>by simp[Heap.get]
 |(j,o)::r,i=>by
  rw[List.filter_cons]
  split
  ·rename_i hj;simp only[Heap.get];by_cases e:j=i
   ·simp_all
   simp_all [if_neg,get_filter]
  ·rename_i hj;rw[get_filter f r i];simp only[Heap.get]
   grind
theorem Ro(rid MR:Nat)(hh:Heap)(id:Nat):(ahead rid MR hh).get id=if u6 rid MR id then hh.get id else none:=by unfold ahead;exact get_filter (fun i=>u6 rid MR i) hh id
theorem Kn(ft:List Nat)(hp:Heap)(e:bF):(il ft hp e).v=e.v:=by cases e<;>rfl
theorem Ko{id:Nat}{hh:Heap}{s:List (Nat×AV)}{o:Oper}{x:Operand}{e:bF}(hl:jk o.op=some x)(he:da P Eqs Sg F id hh s o some=some e):∃v,e=.val v:=by
 obtain⟨dst,op,type,pos,after,guard⟩:=o
 cases op<;>simp only[jk]at hl<;>first|simp_all|skip
 case load t a =>
  simp only[da,mK]at he
  grind [Option.some.inj,Option.bind_eq_some_iff]
 case indexAddr t a i =>
  simp only[da,dN,jh]at he
  repeat' (first|(cases he;done)|exact⟨_,(acP he).symm⟩|split at he)
  all_goals first
   |grind [Option.bind_eq_some_iff,Option.some.inj]
   |grind
theorem zn{op:Op}{x:Operand}(hl:jk op=some x):oI op=false∧BE op=false:=by cases op<;>simp only[jk]at hl<;>first|(cases hl;done)|exact⟨rfl,rfl⟩
theorem Nn{id:Nat}{hh h2:Heap}{s:List (Nat×AV)}{o:Oper}{x:Operand}(hl:jk o.op=some x)(hg:∀i∈lh (ρ s x),h2.get i=hh.get i):da P Eqs Sg F id h2 s o some=da P Eqs Sg F id hh s o some:=by
 obtain⟨dst,op,type,pos,after,guard⟩:=o
 cases op<;>simp only[jk]at hl<;>first|(cases hl;done)|skip
 case load t a =>
  cases hl
  simp only[da,mK]
  cases hv:ρ s x with
  |ref i s' j off=>rw[hv]at hg;simp only[lh,List.mem_singleton,forall_eq]at hg;simp only[hg]
  |_=>rfl
 case indexAddr t a i =>
  cases hl
  simp only[da,dN]
  cases su P t with
  |none=>rfl
  |some e =>
   simp only[]
   cases hv:ρ s x with
   |bN k =>
    rw[hv]at hg;have yD:=hg k (by simp[lh])
    cases ρ s i<;>first|rfl|simp only[yD]
   |sl ex k xs=>cases ρ s i<;>rfl
   |_=>rfl
def rL(ops:Array Oper)(T:Nat→AV)(o:Oper)(t:Bool):Prop :=match o.guard with
 |none=>t=true
 |some (j,want)=>∃d,(ops[j]?).bind (·.dst)=some d∧((∃u,T d=.bool u∧(u==want)=t)∨(∃vs,T d=.oG vs∧t=false))
def C8(P:Program)(Eqs:TypeId→Option K)(Sg:FuncId→Option aO)(F:(f:FuncId)→(g:aO)→g.A→Option g.B)(rid:Nat)(ops:Array Oper)(b:Array Nat)(T:Nat→Nat→AV)(H:Nat→Hp)(E:Nat→Option bF)(k:Nat)(o:Oper):Prop :=(∃e s hh,E k=some e∧look s=T k∧(∀id,Heap.get hh id=if u6 rid (b.getD k 0) id then H k id else none)∧(∃e0,da P Eqs Sg F (opId rid k) (iv hh (ij ops b k s o)) s o some=some e0∧e=il (ij ops b k s o) hh e0∧mM (ij ops b k s o) e0=true) ∧
  ib true rid ops b k (b.getD k 0) e=true∧rL ops (T k) o true∧T (k+1)=iB (T k) o.dst e.v∧H (k+1)=e.hp (H k)) ∨
 (E k=none∧rL ops (T k) o false∧T (k+1)=iB (T k) o.dst (.oG [])∧H (k+1)=H k)
theorem trace{kk:St→Option R}{r:R}:∀(l:List (Nat×Oper)) (i:Nat) (st:St),C4 ops i l→l.length=ops.size-i→bJ P Eqs Sg F rid true ops b l st kk=some r → ∃(T:Nat→Nat→AV) (H:Nat→Hp) (E:Nat→Option bF),T i=look st.tmps∧H i=st.heap.get∧(∀k o,i≤k→ops[k]? = some o→C8 P Eqs Sg F rid ops b T H E k o) ∧ ∃fk,kk fk=some r∧look fk.tmps=T (max i ops.size)∧fk.heap.get=H (max i ops.size)
 |[],i,st,_,hlen,hx=>by
  have XM:ops.size≤i:=by grind
  refine⟨fun _=>look st.tmps,fun _=>st.heap.get,fun _=>none,rfl,rfl,fun k o hk ho=>?_,st,hx,rfl,rfl⟩
  grind
 |(i',o)::l,i,st,hl,hlen,hx=>by
  obtain⟨rfl,ho,hl⟩:=hl;have aN:=(abR.1 ho).1;have ih:=trace (kk:=kk) (r:=r) l (i'+1);have aet:l.length=ops.size-(i'+1):=by grind
  have glue:∀(fk:St) (oe:Option bF),bJ P Eqs Sg F rid true ops b l fk kk=some r →(∀T H E,T i'=look st.tmps→H i'=st.heap.get→E i'=oe→T (i'+1)=look fk.tmps→H (i'+1)=fk.heap.get→C8 P Eqs Sg F rid ops b T H E i' o) → ∃(T:Nat→Nat→AV) (H:Nat→Hp) (E:Nat→Option bF),T i'=look st.tmps∧H i'=st.heap.get∧(∀k o,i'≤k→ops[k]? = some o→C8 P Eqs Sg F rid ops b T H E k o) ∧ ∃fk,kk fk=some r∧look fk.tmps=T (max i' ops.size)∧fk.heap.get=H (max i' ops.size):=by
   intro fk oe TB vQ;obtain⟨T,H,E,h1,h2,h3,ajQ,h4,h5,h6⟩:=ih fk hl aet TB;refine⟨fun k=>if k≤i' then look st.tmps else T k,fun k=>if k≤i' then st.heap.get else H k,fun k=>if k=i' then oe else E k,by simp,by simp,fun k o' hk sq => ?_,ajQ,h4,?_,?_⟩
   ·by_cases hki:k=i'
    ·grind
    ·have h7:=h3 k o' (by omega) sq;unfold C8 at h7 ⊢;simp only[show ¬k≤i' by omega,show ¬k+1≤i' by omega,hki,if_false];exact h7
   ·grind
   grind
  have runs:∀jt:St,look jt.tmps=look st.tmps→jt.heap=st.heap→rL ops (look st.tmps) o true →(da P Eqs Sg F (opId rid i') (iv (ahead rid (b.getD i' 0) jt.heap) (ij ops b i' jt.tmps o)) jt.tmps o fun e=>if(ib true rid ops b i' (b.getD i' 0) (il (ij ops b i' jt.tmps o) (ahead rid (b.getD i' 0) jt.heap) e)&&mM (ij ops b i' jt.tmps o) e)=true then bJ P Eqs Sg F rid true ops b l ({ jt with heap:=match il (ij ops b i' jt.tmps o) (ahead rid (b.getD i' 0) jt.heap) e with | .wr _ h=>h|e=>e.h jt.heap }.put o.dst e.v) kk else none)=some r →
    ∃(T:Nat→Nat→AV) (H:Nat→Hp) (E:Nat→Option bF),T i'=look st.tmps∧H i'=st.heap.get∧(∀k o,i'≤k→ops[k]? = some o→C8 P Eqs Sg F rid ops b T H E k o) ∧ ∃fk,kk fk=some r∧look fk.tmps=T (max i' ops.size)∧fk.heap.get=H (max i' ops.size):=by
   intro jt h1 h2 hw hx;rw[mB]at hx;obtain⟨e,he,hx⟩:=ado.1 hx
   split at hx
   ·rename_i kZ;rw[Bool.and_eq_true]at kZ;generalize GO:il (ij ops b i' jt.tmps o) (ahead rid (b.getD i' 0) jt.heap) e=e1 at hx kZ;have yY:e.v=e1.v:=by grind [Kn]
    refine glue _ (some e1) hx fun T H E hT hH hE hT' hH' => ?_;refine .inl ⟨e1,jt.tmps,_,hE,by rw[hT,h1],fun id=>by rw[Ro,hH,h2],⟨e,he,GO.symm,kZ.2⟩,kZ.1,by grind,?_,?_⟩
    ·grind [iC]
    ·rw[hH',dp,hH];have:(bF.heap e1 jt.heap).get=e1.hp st.heap.get:=by rw[bF.Kk,h2]
     exact this
   ·cases hx
  have xi:∀jt:St,look jt.tmps=look st.tmps→jt.heap=st.heap→rL ops (look st.tmps) o false → bJ P Eqs Sg F rid true ops b l (jt.put o.dst (.oG [])) kk=some r → ∃(T:Nat→Nat→AV) (H:Nat→Hp) (E:Nat→Option bF),T i'=look st.tmps∧H i'=st.heap.get∧(∀k o,i'≤k→ops[k]? = some o→C8 P Eqs Sg F rid ops b T H E k o) ∧ ∃fk,kk fk=some r∧look fk.tmps=T (max i' ops.size)∧fk.heap.get=H (max i' ops.size):=by
   intro jt h1 h2 hw hx;refine glue _ none hx fun T H E hT hH hE hT' hH'=>.inr ⟨hE,by grind,?_,?_⟩
   ·grind [iC]
   grind [dp]
  rw[bJ]at hx;simp only[if_true]at hx
  split at hx
  ·rename_i hg;exact runs st rfl rfl (by simp[rL,hg]) hx
  ·rename_i jj want hg
   split at hx
   ·cases hx
   ·rename_i d hd
    split at hx
    ·rename_i t ht;have hp:∀b,t=b→look (st.put (some d) (.bool b)).tmps=look st.tmps:=fun b hb=>by subst hb;rw[iC];exact GK ht
     have hw:∀c,(t==want)=c→rL ops (look st.tmps) o c:=fun c hc=>by
      grind [rL]
     cases t<;>simp only[cond_true,cond_false]at hx<;>split at hx<;>rename_i C6
     ·exact xi _ (hp false rfl) (dp _ _ _) (hw _ (by simp[C6])) hx
     ·exact runs _ (hp false rfl) (dp _ _ _) (hw _ (by simp[C6])) hx
     ·exact runs _ (hp true rfl) (dp _ _ _) (hw _ (by simp[C6])) hx
     ·exact xi _ (hp true rfl) (dp _ _ _) (hw _ (by simp[C6])) hx
    ·rename_i vs ht;exact xi st rfl rfl (by unfold rL;grind) hx
    ·cases hx
def Nf(ops:Array Oper)(j:Nat):Prop:=∃o,ops[j]? = some o∧oI o.op=false∧jk o.op=none
def C9(E:Nat→Option bF)(k:Nat):Prop:=∃v h',E k=some (.wr v h')
def IsN(E:Nat→Option bF)(k:Nat):Prop:=∃v os,E k=some (.new v os)
theorem xj{α:Type}(f:α→Option Nat):∀(l:List α),cg (l.filterMap f)=true→∀(i j:Nat) (x y:α) (d:Nat),l[i]? = some x→l[j]? = some y→f x=some d→f y=some d→i=j
 |[],_,i,j,x,y,d,hi,_,_,_=>by simp at hi
 |a::r,hn,i,j,x,y,d,hi,hj,hx,hy=>by
  have js:∀(k:Nat) (z:α),r[k]? = some z→f z=some d→d∈r.filterMap f:=fun k z hk hz=>aeg.2 ⟨z,acI hk,hz⟩;have hr:cg (r.filterMap f)=true∧∀c,f a=some c→c∉r.filterMap f:=by
   rw[List.filterMap_cons]at hn
   split at hn
   ·rename_i h0;exact⟨hn,fun c hc=>by rw[h0]at hc;cases hc⟩
   ·rename_i c h0;simp only[cg,Bool.and_eq_true,Bool.not_eq_true']at hn;refine⟨hn.2,fun c' hc=>?_⟩;rw[h0]at hc;cases hc;intro hm;rw[List.contains_iff_mem.2 hm]at hn;simp at hn
  cases i with
  |zero =>
   cases j with
   |zero=>rfl
   |succ j =>simp only[List.getElem?_cons_zero,Option.some.injEq]at hi;subst hi;exact absurd (js j y (by simpa using hj) hy) (hr.2 d hx)
  |succ i =>
   cases j with
   |zero =>simp only[List.getElem?_cons_zero,Option.some.injEq]at hj;subst hj;exact absurd (js i x (by simpa using hi) hx) (hr.2 d hy)
   |succ j=>rw[xj f r hr.1 i j x y d (by simpa using hi) (by simpa using hj) hx hy]
structure Dr(P:Program)(Eqs:TypeId→Option K)(Sg:FuncId→Option aO)(F:(f:FuncId)→(g:aO)→g.A→Option g.B)(rid n:Nat)(ops:Array Oper)(b:Array Nat)(T:Nat→Nat→AV)(H:Nat→Hp)(E:Nat→Option bF):Prop where
 size:ops.size≤128
 T8:wS ops b=true
 pair:Cq ops b=true
 ajS:∀(i:Nat) (o:Oper),ops[i]? = some o→jl n o=true
 nodup:cg (ops.toList.filterMap (·.dst))=true
 step:∀k o,ops[k]? = some o→C8 P Eqs Sg F rid ops b T H E k o
 ajT:∀id,H 0 id≠none→id / 32768≠rid+1
section
variable {T:Nat→Nat→AV} {H:Nat→Hp} {E:Nat→Option bF}
theorem Dr.xk(D:Dr P Eqs Sg F rid n ops b T H E){i j:Nat}{x y:Oper}{d:Nat}(hi:ops[i]? = some x)(hj:ops[j]? = some y)(hx:x.dst=some d)(hy:y.dst=some d):i=j :=xj (·.dst) ops.toList D.nodup i j x y d (by simpa using hi) (by simpa using hj) hx hy
theorem Dr.aal(D:Dr P Eqs Sg F rid n ops b T H E){i j:Nat}{x y:Oper}(hi:ops[i]? = some x)(hj:ops[j]? = some y)(Gv:i<j):um b j i∨x.apart ops y=true:=by have h1:=adp.1 D.pair j (adr.2 (abR.1 hj).1);have h2:=adp.1 h1 i (adr.2 Gv);rw[hi,hj]at h2;simp only[Bool.or_eq_true,Bool.and_eq_true]at h2;exact h2
theorem Dr.Yx(D:Dr P Eqs Sg F rid n ops b T H E){k:Nat}{o:Oper}(ho:ops[k]? = some o){e:bF}(he:E k=some e) :
  ∃s hh,look s=T k∧(∀id,Heap.get hh id=if u6 rid (b.getD k 0) id then H k id else none)∧(∃e0,da P Eqs Sg F (opId rid k) (iv hh (ij ops b k s o)) s o some=some e0∧e=il (ij ops b k s o) hh e0∧mM (ij ops b k s o) e0=true) ∧
   ib true rid ops b k (b.getD k 0) e=true∧rL ops (T k) o true∧T (k+1)=iB (T k) o.dst e.v∧H (k+1)=e.hp (H k):=by
 rcases D.step k o ho with⟨e',s,hh,h1,h2⟩|⟨h1,_⟩
 ·grind
 simp_all
theorem Dr.Io(D:Dr P Eqs Sg F rid n ops b T H E){k:Nat}{o:Oper}(ho:ops[k]? = some o)(he:E k=none) :
  rL ops (T k) o false∧T (k+1)=iB (T k) o.dst (.oG [])∧H (k+1)=H k:=by
 rcases D.step k o ho with⟨e',s,hh,h1,h2⟩|⟨h1,h2⟩
 ·simp_all
 ·exact h2
theorem Dr.zo(D:Dr P Eqs Sg F rid n ops b T H E){k:Nat}(hk:k<ops.size)(h:IsN E k):Nf ops k:=by
 obtain⟨v,os,he⟩:=h;obtain⟨s,hh,_,_,⟨e0,h3,he0,_⟩,_⟩:=D.Yx (acw hk) he;refine⟨_,acw hk,?_,?_⟩
 ·cases hf:oI (ops[k]).op with
  |false=>rfl
  |true=>obtain⟨v',rfl⟩:=Kg hf h3;cases he0
 ·cases hf:jk (ops[k]).op with
  |none=>rfl
  |some x=>obtain⟨v',rfl⟩:=Ko hf h3;cases he0
theorem Dr.T9(D:Dr P Eqs Sg F rid n ops b T H E){k:Nat}(hk:k<ops.size)(h:C9 E k):Nf ops k:=by
 obtain⟨v,os,he⟩:=h;obtain⟨s,hh,_,_,⟨e0,h3,he0,_⟩,_⟩:=D.Yx (acw hk) he;refine⟨_,acw hk,?_,?_⟩
 ·cases hf:oI (ops[k]).op with
  |false=>rfl
  |true=>obtain⟨v',rfl⟩:=Kg hf h3;cases he0
 ·cases hf:jk (ops[k]).op with
  |none=>rfl
  |some x=>obtain⟨v',rfl⟩:=Ko hf h3;cases he0
theorem Dr.Da(D:Dr P Eqs Sg F rid n ops b T H E){k j:Nat}(hk:k<ops.size)(h:C9 E k)(hj:Nf ops j)(bB:j≠k):(j<k∧um b k j)∨(k<j∧um b j k):=by
 obtain⟨v,os,he⟩:=h;obtain⟨s,hh,_,_,_,h4,_⟩:=D.Yx (acw hk) he;obtain⟨o,ho,hf,S7⟩:=hj;have M0:=(abR.1 ho).1;simp only[ib,Bool.and_eq_true]at h4;have h5:MQ ops b k=true:=by simpa using h4.1.1
 have h6:=adp.1 h5 j (adr.2 M0);have hlf:pf ops k j=false:=by unfold pf JO;rw[ho];simp only[Option.bind_some,S7,Option.map_none]
 rw[hlf,ho]at h6;simp only[S7,Option.isSome_none,Bool.and_false,Bool.or_false]at h6;simp only[Bool.or_eq_true,beq_iff_eq,hf,Bool.false_eq_true,or_false]at h6;rcases h6 with(h6|h6)|h6
 ·exact absurd h6 bB
 ·exact .inr ⟨C7 D.T8 j k M0 h6,h6⟩
 ·exact .inl ⟨C7 D.T8 k j hk h6,h6⟩
theorem Dr.Db(D:Dr P Eqs Sg F rid n ops b T H E){p:Nat}:∀(q:Nat),p≤q→q≤ops.size→∀id,(∀k,p≤k→k<q→C9 E k→H (k+1) id=H k id)→(∀k,p≤k→k<q→IsN E k→¬Of rid k id)→H q id=H p id:=by
 intro q
 induction q with
 |zero=>simp_all
 |succ q ih =>
  intro H8 hq id hw bM;by_cases he:p=q+1
  ·rw[he]
  ·have h1:=ih (by omega) (by omega) id (fun k h1 h2=>hw k h1 (by omega)) (fun k h1 h2=>bM k h1 (by omega));rw[←h1];have ho:=acw (show q<ops.size by omega)
   cases hE:E q with
   |none=>rw[(D.Io ho hE).2.2]
   |some e =>
    obtain⟨s,hh,_,_,_,h4,_,_,h7⟩:=D.Yx ho hE
    cases e with
    |val v=>rw[h7];rfl
    |wr v h'=>exact hw q (by omega) (by omega) ⟨v,h',hE⟩
    |new v os =>
     rw[h7];simp only[bF.hp]
     cases hos:Heap.get os id with
     |none=>rfl
     |some o' =>
      exfalso;simp only[ib,Bool.and_eq_true]at h4;refine bM q (by omega) (by omega) ⟨v,os,hE⟩ ?_;have:∀(l:Heap),(l.all fun p=>p.1 / 256==(rid+1)*128+q)=true→∀o',l.get id=some o'→Of rid q id:=by
       intro l
       induction l with
       |nil=>grind [Heap.get]
       |cons a r ihl =>
        intro jQ o' hg;simp only[List.all_cons,Bool.and_eq_true,beq_iff_eq]at jQ;simp only[Heap.get]at hg
        split at hg
        ·rename_i e;rw[←e];exact jQ.1
        simp_all
      grind
theorem Dr.BU(D:Dr P Eqs Sg F rid n ops b T H E){p:Nat}(q:Nat)(H8:p≤q)(hq:q≤ops.size)(hw:∀k,p≤k→k<q→¬C9 E k)(id:Nat)(hn:∀k,p≤k→k<q→IsN E k→¬Of rid k id):H q id=H p id :=D.Db q H8 hq id (fun k h1 h2 h3=>absurd h3 (hw k h1 h2)) hn
theorem Dr.names(D:Dr P Eqs Sg F rid n ops b T H E):∀(k:Nat),k≤ops.size→∀id,H k id≠none→id / 32768=rid+1→∃j,Of rid j id∧j<k∧j<128∧(IsN E j∨∃w,w<k∧C9 E w∧(j=w∨um b w j)):=by
 intro k
 induction k with
 |zero=>intro _ id h1 h2;exact absurd h2 (D.ajT id h1)
 |succ k ih =>
  intro hk id h1 h2;have aN:k<ops.size:=by omega
  have up:H k id≠none→∃j,Of rid j id∧j<k+1∧j<128∧(IsN E j∨∃w,w<k+1∧C9 E w∧(j=w∨um b w j)):=fun h=>by
   grind
  have ho:=acw aN;have Ua:=D.size
  cases hE:E k with
  |none=>rw[(D.Io ho hE).2.2]at h1;exact up h1
  |some e =>
   obtain⟨s,hh,_,_,_,h4,_,_,h7⟩:=D.Yx ho hE;rw[h7]at h1
   cases e with
   |val v=>exact up h1
   |wr v h' =>
    obtain⟨o',sq⟩:=abS.1 h1;simp only[ib,Bool.and_eq_true]at h4;have h5:(b.getD k 0 ||| 2 ^ k).testBit (id / 256%128)=true:=(ng (S:=fun j=>(b.getD k 0 ||| 2 ^ k).testBit j=true) (fun j hj=>hj) h4.2 id o' sq).1 h2;rw[Nat.testBit_or,Bool.or_eq_true,Nat.testBit_two_pow]at h5;refine⟨id / 256%128,Of.of h2 rfl,?_,by omega,.inr ⟨k,by omega,⟨v,h',hE⟩,?_⟩⟩
    ·rcases h5 with h5|h5
     ·have:=C7 D.T8 k _ aN h5;omega
     simp_all
    ·rcases h5 with h5|h5
     ·exact .inr h5
     simp_all
   |new v os =>
    simp only[bF.hp]at h1
    cases hos:Heap.get os id with
    |none=>simp_all
    |some o' =>
     simp only[ib,Bool.and_eq_true]at h4;have:∀(l:Heap),(l.all fun p=>p.1 / 256==(rid+1)*128+k)=true→∀o',l.get id=some o'→Of rid k id:=by
      intro l
      induction l with
      |nil=>grind [Heap.get]
      |cons a r ihl =>
       intro jQ o' hg;simp only[List.all_cons,Bool.and_eq_true,beq_iff_eq]at jQ;simp only[Heap.get]at hg
       split at hg
       ·rename_i e;rw[←e];exact jQ.1
       simp_all
     exact⟨k,this os h4.1.2 o' hos,by omega,by omega,.inl ⟨v,os,hE⟩⟩
theorem Dr.abV(D:Dr P Eqs Sg F rid n ops b T H E){q:Nat}(rM:q<ops.size)(hiw:C9 E q):∀id,H q id≠none→nN rid (um b q) id:=fun id bB Ub=>by
 obtain⟨j,h1,h2,h2',h3⟩:=D.names q (by omega) id bB Ub;rw[(h1.parts h2').2];rcases h3 with h3|⟨w',h5,h6,h8⟩
 ·rcases D.Da rM hiw (D.zo (by omega) h3) (by omega) with⟨_,h9⟩|⟨h9,_⟩
  ·exact h9
  ·omega
 ·have hqw:um b q w':=by
   rcases D.Da rM hiw (D.T9 (by omega) h6) (by omega) with⟨_,h9⟩|⟨h9,_⟩
   ·exact h9
   ·omega
  rcases h8 with rfl|h8
  ·exact hqw
  ·exact GN D.T8 q w' j rM hqw h8
theorem Dr.pO(D:Dr P Eqs Sg F rid n ops b T H E){d p:Nat}:∀(q:Nat),p≤q→q≤ops.size→(∀m o,p≤m→m<q→ops[m]? = some o→o.dst≠some d)→T q d=T p d
 |0,h,_,_=>by simp_all
 |q+1,h,hq,hm=>by
  by_cases e:p=q+1
  ·rw[e]
  ·have ho:=acw (show q<ops.size by omega);have ih:=D.pO q (by omega) (by omega) fun m o h1 h2=>hm m o h1 (by omega);rw[←ih];have hd:=hm q _ (by omega) (by omega) ho;have key:∀v,iB (T q) (ops[q]).dst v d=T q d:=fun v=>by
    cases nO:(ops[q]).dst with
    |none=>rfl
    |some d' =>
     simp only[iB,dY]
     grind
   rcases D.step q _ ho with⟨e,s,hh,_,_,_,_,_,_,h7,_⟩|⟨_,_,h3,_⟩
   ·rw[h7,key]
   simp_all
theorem Dr.aan(D:Dr P Eqs Sg F rid n ops b T H E){i:Nat}(hi:i≤ops.size){x:Operand}{s:List (Nat×AV)}(hs:look s=T i){id:Nat}(bM:id∈lh (ρ s x)):id∈lh (ρ s (stepOf ops i x)):=by
 unfold stepOf
 split
 rotate_left
 ·exact bM
 rename_i d
 split
 rotate_left
 ·exact bM
 rename_i m hf
 split
 rotate_left
 ·exact bM
 rename_i o ho
 split
 rotate_left
 ·exact bM
 rename_i t e f OX
 split
 ·exact bM
 rename_i bB;obtain⟨hm,JE,_⟩:=adM.1 hf;have hmi:m<i:=by rw[List.length_take]at hm;omega
 have hd:o.dst=some d:=by
  rw[List.getElem_take]at JE;rw[Array.getElem?_eq_getElem (by omega)]at ho
  cases ho
  simpa using JE
 have vT:∀(q:Nat) (o':Oper),m≤q→ops[q]? = some o'→o'.dst≠some e:=fun q o' hq h1 h2=>by obtain⟨h3,h4⟩:=abR.1 h1;exact bB (List.any_eq_true.2 ⟨q,adr.2 h3,by rw[h1];simp[h2,hq]⟩)
 have e1:T i d=T (m+1) d:=D.pO i (by omega) hi fun q o' h1 h2 h3 h4=>by have:=D.xk h3 ho h4 hd;omega
 have e2:T i e=T m e:=D.pO i (by omega) hi fun q o' h1 _ h3=>vT q o' h1 h3;simp only[ρ,hs]at bM ⊢;rw[e1]at bM;rw[e2];rcases D.step m o ho with⟨ef,s',hh,_,hs',_,⟨e0,h0,GO,_⟩,_,_,h7,_⟩|⟨_,_,h3,_⟩
 ·rw[h7,hd]at bM;simp only[iB,bh]at bM;rw[GO,Kn]at bM;obtain⟨dst,op,type,pos,after,guard⟩:=o;simp only at OX;subst OX;simp only[da,ρ,hs']at h0
  split at h0
  ·rename_i hx
   split at h0
   ·cases h0
   ·cases h0
    rw[hx];exact bM
  ·split at h0
   ·cases h0
   ·cases h0;cases bM
  ·cases h0
 ·rw[h3,hd]at bM;simp only[iB,bh,lh]at bM
  cases bM
theorem Dr.base(D:Dr P Eqs Sg F rid n ops b T H E){i:Nat}(hi:i≤ops.size){x:Operand}{s:List (Nat×AV)}(hs:look s=T i){id:Nat}(bM:id∈lh (ρ s x)):id∈lh (ρ s (MP ops i x)):=D.aan hi hs (D.aan hi hs bM)
theorem Dr.steady(D:Dr P Eqs Sg F rid n ops b T H E){i k:Nat}{o:Oper}{x:Operand}(ho:ops[i]? = some o)(hl:jk o.op=some x)(hk:k<ops.size)(hw:C9 E k)(bB:i≠k)(h1:¬um b i k)(h2:¬um b k i) {s:List (Nat×AV)} (hs:look s=T i) (Rp:tN ops b i s o=false) {id:Nat} (bM:id∈lh (ρ s x)):H (k+1) id=H k id:=by
 have rM:=(abR.1 ho).1;obtain⟨v,h',hE⟩:=hw;have kZ:=acw hk;obtain⟨sk,hh,Uc,hhh,⟨e0,he0,GO,vR⟩,h4,_,_,h7⟩:=D.Yx kZ hE;simp only[ib,Bool.and_eq_true]at h4;have h5:MQ ops b k=true:=by simpa using h4.1.1
 have h6:=adp.1 h5 i (adr.2 rM);rw[ho,kZ]at h6;have b1:(b.getD i 0).testBit k=false:=Bool.eq_false_iff.2 h1;have b2:(b.getD k 0).testBit i=false:=Bool.eq_false_iff.2 h2;have b3:(i==k)=false:=by simp[bB]
 simp only[b1,b2,b3,(zn hl).1,Bool.false_or,Bool.and_eq_true]at h6;obtain⟨Dc,h8⟩:=h6;have OY:pf ops k i=true:=by
  simp only[Bool.or_eq_true,Bool.and_eq_true]at h8;rcases h8 with h8|⟨h8,_⟩
  ·exact h8
  unfold tN at Rp;rw[hl]at Rp;simp only[h8,Bool.true_and]at Rp;have HZ:(lh (ρ s x)).isEmpty=false:=by cases hq:lh (ρ s x) with
   |nil=>rw[hq]at bM;cases bM
   |cons _ _=>rfl
  simp only[HZ,Bool.not_false,Bool.true_and,Bool.not_eq_false']at Rp;have h9:=adp.1 Rp k (adr.2 hk);rw[kZ]at h9;have b4:(k==i)=false:=by simp[Ne.symm bB]
  simpa only[b1,b2,b4,Dc,Bool.not_true,Bool.false_or] using h9
 have hft:ij ops b k sk ops[k]=abw ops b k sk:=by unfold ij;rw[if_pos Dc]
 have hb:=D.base (by omega) hs bM;generalize hy:MP ops i x=y at hb;have nX:ρ sk y=ρ s y:=by
  cases y with
  |tmp d =>
   simp only[ρ,Uc,hs];unfold pf JO at OY;rw[ho]at OY;simp only[Option.bind_some,hl,Option.map_some,hy]at OY;have hm:∀m o',min k i≤m→m<max k i→ops[m]? = some o'→o'.dst≠some d:=fun m o' g1 g2 g3 hd=>by have g4:=adp.1 OY m (adr.2 (by omega));rw[g3]at g4;simp[hd,g1,g2]at g4
   rcases Nat.lt_or_ge i k with g|g
   ·exact D.pO k (by omega) (by omega) fun m o' g1 g2=>hm m o' (by omega) (by omega)
   ·exact(D.pO i (by omega) (by omega) fun m o' g1 g2=>hm m o' (by omega) (by omega)).symm
  |_=>rfl
 have js:id∈ij ops b k sk ops[k]:=by rw[hft];unfold abw;refine List.mem_flatMap.2 ⟨i,adr.2 rM,?_⟩;unfold JO;rw[b1,b2,b3,ho];simp only[Bool.or_self,Bool.false_eq_true,if_false,Option.bind_some,hl,Option.map_some,hy];rw[nX];exact hb
 cases e0 with
 |val v0=>cases GO
 |new v0 os=>cases GO
 |wr v0 XH =>
  cases GO
  simp only[mM,Bool.and_eq_true]at vR;have hn:XH.get id=none:=by
   cases e:XH.get id with
   |none=>rfl
   |some ob=>exact absurd js (lC vR.2 id ob e).1
  rw[h7];show(fO _ hh XH).get id=H k id;rw[ly,if_pos js,hn,hhh id]
  cases ajV:H k id with
  |none=>simp
  |some ob =>
   have h8:=D.abV hk ⟨_,_,hE⟩ id (by rw[ajV];simp);have h9:u6 rid (b.getD k 0) id=true:=by
    unfold u6;by_cases hr:id / 32768=rid+1
    ·have:=h8 hr;unfold um at this;rw[this];simp
    ·simp[hr]
   rw[if_pos h9]
end
end Go.Vs
namespace Go.Vs
variable {P:Program} {Eqs:TypeId→Option K} {Sg:FuncId→Option aO} {F:(f:FuncId)→(g:aO)→g.A→Option g.B} {R:Type}
variable {Z Z' Z0:Nat→Prop} {ψ ψ' ψ0:Nat→Value} {h h':Hp} {w w' w0:World} {B0:Nat} {O N:Nat→Prop}
variable {rid n:Nat} {ops:Array Oper} {b:Array Nat} {T:Nat→Nat→AV} {H:Nat→Hp} {E:Nat→Option bF}
structure Dj(rid:Nat)(ops:Array Oper)(b:Array Nat)(T:Nat→Nat→AV)(H:Nat→Hp)(E:Nat→Option bF)(S:Nat→Prop)(Tc:Nat→AV)(h:Hp):Prop where
 lt:∀i,S i→i<ops.size
 closed:∀i j,S i→um b i j→S j
 heap:∃q,q≤ops.size∧(∀k,k<q→C9 E k→S k)∧(q<ops.size→C9 E q∧¬S q)∧∀id,(nN rid S id→h id=H q id)∧(¬nN rid S id→h id=none)
 Ud:∀j o d,S j→ops[j]? = some o→o.dst=some d→Tc d=T (j+1) d
 told:∀d,(∀j o,S j→ops[j]? = some o→o.dst≠some d)→Tc d=T 0 d
theorem Dr.Ue(D:Dr P Eqs Sg F rid n ops b T H E){k:Nat}{o:Oper}(ho:ops[k]? = some o){d:Nat}(hd:o.dst≠some d):T (k+1) d=T k d:=by
 have:∀v,iB (T k) o.dst v d=T k d:=fun v=>by
  cases nO:o.dst with
  |none=>rfl
  |some d' =>
   simp only[iB,dY]
   grind
 rcases D.step k o ho with⟨e,s,hh,_,_,_,_,_,_,h7,_⟩|⟨_,_,h3,_⟩
 ·rw[h7,this]
 simp_all
theorem Dr.xl(D:Dr P Eqs Sg F rid n ops b T H E){d:Nat}:∀(i:Nat),i≤ops.size→(∀k o,k<i→ops[k]? = some o→o.dst≠some d)→T i d=T 0 d
 |0,_,_=>rfl
 |i+1,hi,hk=>by rw[D.Ue (Array.getElem?_eq_getElem (show i<ops.size by omega)) (hk i _ (by omega) (Array.getElem?_eq_getElem (by omega)))];exact D.xl i (by omega) fun k o h1 h2=>hk k o (by omega) h2
theorem Dr.Ip(D:Dr P Eqs Sg F rid n ops b T H E){d j:Nat}{oj:Oper}(hj:ops[j]? = some oj)(hd:oj.dst=some d):∀(i:Nat),i≤ops.size→j<i→T i d=T (j+1) d
 |0,_,h=>by omega
 |i+1,hi,h=>by
  by_cases e:j=i
  ·rw[e]
  ·have ho:=acw (show i<ops.size by omega);rw[D.Ue ho (fun hdi=>e (D.xk hj ho hd hdi))];exact D.Ip hj hd i (by omega) (by omega)
theorem Dr.looks(D:Dr P Eqs Sg F rid n ops b T H E){S:Nat→Prop}{Tc:Nat→AV}(dj:Dj rid ops b T H E S Tc h){i:Nat}{o:Oper}(ho:ops[i]? = some o)(hS:¬S i)(hb:∀j,um b i j→S j){d:Nat}(hd:d∈o.looksAt ops):Tc d=T i d:=by
 have hi:=(abR.1 ho).1;by_cases hex:∃(j:Nat) (oj:Oper),ops[j]? = some oj∧oj.dst=some d
 ·obtain⟨j,oj,hj,hdj⟩:=hex;have cI:¬S j→Tc d=T 0 d:=fun hn=>dj.told d fun j' o' hs sq Uf=>hn (by rw[D.xk hj sq hdj Uf];exact hs);have T8:i≤j→T i d=T 0 d:=fun Gv=>D.xl i (by omega) fun k o' hk sq Uf=>by have:=D.xk hj sq hdj Uf;omega
  rcases Nat.lt_trichotomy j i with aN|rfl|OZ
  ·rcases D.aal hj ho aN with h1|h1
   ·rw[dj.Ud j oj d (hb j h1) hj hdj,D.Ip hj hdj i (by omega) aN]
   grind [absurd,Oper.apart_spec]
  ·simp_all
  ·rcases D.aal ho hj OZ with h1|h1
   ·rw[cI (fun hs=>hS (dj.closed j i hs h1)),T8 (by omega)]
   grind [absurd,Oper.apart_spec]
 ·rw[dj.told d fun j o' _ sq Uf=>hex ⟨j,o',sq,Uf⟩,D.xl i (by omega) fun k o' _ sq Uf=>hex ⟨k,o',sq,Uf⟩]
theorem Dr.Ug{S:Nat→Prop}{Tc:Nat→AV}(D:Dr P Eqs Sg F rid n ops b T H E)(dj:Dj rid ops b T H E S Tc h){i:Nat}{o:Oper}(ho:ops[i]? = some o)(hS:¬S i){v:AV}(hv:T (i+1)=iB (T i) o.dst v) :
  (∀j o' d,(S j∨j=i)→ops[j]? = some o'→o'.dst=some d→iB Tc o.dst v d=T (j+1) d)∧(∀d,(∀j o',(S j∨j=i)→ops[j]? = some o'→o'.dst≠some d)→iB Tc o.dst v d=T 0 d):=by
 constructor
 ·intro j o' d hj sq hd;rcases hj with hj|rfl
  ·have bB:j≠i:=fun e=>hS (e▸hj);have:iB Tc o.dst v d=Tc d:=by
    cases nO:o.dst with
    |none=>rfl
    |some d' =>simp only[iB,dY];rw[if_neg];rintro rfl;exact bB (D.xk sq ho hd nO)
   rw[this];exact dj.Ud j o' d hj sq hd
  simp_all [iB,dY]
 ·intro d hd;have:iB Tc o.dst v d=Tc d:=by
   cases nO:o.dst with
   |none=>rfl
   |some d' =>
    simp only[iB,dY]
    grind
  rw[this];exact dj.told d fun j o' hj=>hd j o' (.inl hj)
theorem xm{i k id:Nat}(h1:Of rid i id)(h2:Of rid k id):i=k:=by grind [Of]
section
variable {S:Nat→Prop} {Tc:Nat→AV}
theorem Dr.calm(D:Dr P Eqs Sg F rid n ops b T H E)(dj:Dj rid ops b T H E S Tc h){i q:Nat}(hi:Nf ops i)(hS:¬S i)(hq:q≤ops.size)(hw:∀k,k<q→C9 E k→S k):∀k,i≤k→k<q→¬C9 E k:=by
 intro k hik hkq hk;have Uc:=hw k hkq hk;have bB:i≠k:=fun e=>hS (e▸Uc);rcases D.Da (by omega) hk hi bB with⟨_,h1⟩|⟨h1,_⟩
 ·exact hS (dj.closed k i Uc h1)
 ·omega
theorem Dr.seen(D:Dr P Eqs Sg F rid n ops b T H E)(dj:Dj rid ops b T H E S Tc h){i:Nat}(hi:Nf ops i)(hS:¬S i)(hb:∀j,um b i j→S j){hh:Heap}(hhh:∀id,Heap.get hh id=if u6 rid (b.getD i 0) id then H i id else none) :
  ∀id o,hh.get id=some o→h id=some o:=by
 obtain⟨q,hq,hw,ma,l9⟩:=dj.heap;have rM:i<ops.size:=by obtain⟨o,ho,hf1,hf2⟩:=hi;grind
 have hiq:i≤q:=by
  rcases Nat.lt_or_ge q i with h1|h1
  ·obtain⟨h2,h3⟩:=ma (by omega);rcases D.Da (by omega) h2 hi (by omega) with⟨h4,_⟩|⟨_,h4⟩
   ·omega
   simp_all
  ·exact h1
 intro id o bM;rw[hhh]at bM
 split at bM
 ·rename_i kZ;have uj:nN rid S id:=pK hb kZ;rw[(l9 id).1 uj,D.BU q hiq hq (D.calm dj hi hS hq hw) id fun k hk _ _ ho=>?_,bM];have Ub:=(ho.parts (by have:=D.size;omega)).1;obtain⟨j,h1,h2,_⟩:=D.names i (by omega) id (by rw[bM];simp) Ub
  grind [xm]
 ·cases bM
theorem Dr.Rq(D:Dr P Eqs Sg F rid n ops b T H E)(dj:Dj rid ops b T H E S Tc h){i:Nat}{o:Oper}{x:Operand}(ho:ops[i]? = some o)(hl:jk o.op=some x)(hS:¬S i)(hb:∀j,um b i j→S j){s:List (Nat×AV)}(hs:look s=T i)(Rp:tN ops b i s o=false) {hh:Heap} (hhh:∀id,Heap.get hh id=if u6 rid (b.getD i 0) id then H i id else none):∀id∈lh (ρ s x),∀ob,hh.get id=some ob→h id=some ob:=by
 obtain⟨q,hq,hw,ma,l9⟩:=dj.heap;have rM:=(abR.1 ho).1;have Ua:=D.size;intro id bM ob oV;rw[hhh]at oV
 split at oV
 ·rename_i kZ;have uj:nN rid S id:=pK hb kZ;rw[(l9 id).1 uj,←oV];rcases Nat.lt_or_ge q i with hqi|hiq
  ·obtain⟨h2,h3⟩:=ma (by omega);have later:∀k,q<k→k<ops.size→Nf ops k→um b k q:=fun k h4 h5 h6=>by
    rcases D.Da (by omega) h2 h6 (by omega) with⟨h7,_⟩|⟨_,h7⟩
    ·omega
    ·exact h7
   have aey:∀k,q≤k→k<i→Nf ops k→¬S k:=fun k h4 h5 h6 hk=>by
    rcases Nat.eq_or_lt_of_le h4 with e|h7
    ·simp_all
    ·exact h3 (dj.closed k q hk (later k h7 (by omega) h6))
   symm
   refine D.Db i (by omega) (by omega) id (fun k h4 h5 h6=>?_) (fun k h4 h5 h6 h7=>?_)
   ·have hns:=aey k h4 h5 (D.T9 (by omega) h6);exact D.steady ho hl (by omega) h6 (by omega) (fun No=>hns (hb k No)) (fun No=>by have:=C7 D.T8 k i (by omega) No;omega) hs Rp bM
   ·have hns:=aey k h4 h5 (D.zo (by omega) h6);have h8:=h7.parts (show k<128 by omega);have h9:=uj h8.1;simp_all
  ·refine D.Db q hiq hq id (fun k h4 h5 h6=>?_) (fun k h4 h5 h6 h7=>?_)
   ·have Uc:=hw k h5 h6;have bB:i≠k:=fun e=>hS (e▸Uc);exact D.steady ho hl (by omega) h6 bB (fun No=>by have:=C7 D.T8 i k rM No;omega) (fun No=>hS (dj.closed k i Uc No)) hs Rp bM
   ·obtain⟨j,h8,h9,_⟩:=D.names i (by omega) id (by rw[oV];simp) (h7.parts (by omega)).1
    grind [xm]
 ·cases oV
theorem Uh(E:Nat→Option bF)(S:Nat→Prop)(m:Nat):∃q,q≤m∧(∀k,k<q→C9 E k→S k)∧(q<m→C9 E q∧¬S q):=by
 classical
 induction m with
 |zero=>simp_all
 |succ m ih =>
  grind
theorem Iq{i id:Nat}(hi:i<128):nN rid (fun k=>S k∨k=i) id↔nN rid S id∨Of rid i id:=by
 constructor
 ·intro h1;by_cases hr:id / 32768=rid+1
  ·rcases h1 hr with h2|h2
   ·exact .inl fun _=>h2
   grind [Of.of]
  ·exact .inl fun h=>absurd h hr
 ·rintro(h1|h1) h2
  ·exact .inl (h1 h2)
  ·exact .inr (h1.parts hi).2
theorem Dr.Kp(D:Dr P Eqs Sg F rid n ops b T H E)(dj:Dj rid ops b T H E S Tc h){i:Nat}(rM:i<ops.size)(hS:¬S i)(hnn:¬IsN E i)(hnw:¬C9 E i) :
  ∃q,q≤ops.size∧(∀k,k<q→C9 E k→S k∨k=i)∧(q<ops.size→C9 E q∧¬(S q∨q=i))∧∀id,(nN rid (fun k=>S k∨k=i) id→h id=H q id)∧(¬nN rid (fun k=>S k∨k=i) id→h id=none):=by
 obtain⟨q,hq,hw,ma,l9⟩:=dj.heap;have Ua:=D.size;refine⟨q,hq,fun k h1 h2=>.inl (hw k h1 h2),fun h1=>⟨(ma h1).1,fun h2=>h2.elim (ma h1).2 fun e=>hnw (e▸(ma h1).1)⟩,fun id=>⟨fun h1=>?_,fun h1=>(l9 id).2 fun h2=>h1 ((Iq (by omega)).2 (.inl h2))⟩⟩;rcases (Iq (S:=S) (i:=i) (rid:=rid) (by omega)).1 h1 with h2|h2
 ·simp_all
 ·have hn:¬nN rid S id:=fun h3=>h3.C2 (by omega) hS h2;rw[(l9 id).2 hn]
  symm
  apply Classical.not_not.1;intro bB;obtain⟨j,h3,_,_,h4⟩:=D.names q hq id bB (h2.parts (by omega)).1;have:=xm h3 h2;subst this;rcases h4 with h4|⟨w',h5,h6,h7|h7⟩
  ·exact hnn h4
  ·simp_all
  ·exact hS (dj.closed w' _ (hw w' h5 h6) h7)
theorem Yy{os:Heap}{i:Nat}(jQ:(os.all fun p=>p.1 / 256==(rid+1)*128+i)=true):∀id o,os.get id=some o→Of rid i id:=by
 induction os with
 |nil=>grind [id,Heap.get]
 |cons a r ih =>
  intro id o hg;simp only[List.all_cons,Bool.and_eq_true,beq_iff_eq]at jQ;simp only[Heap.get]at hg
  split at hg
  ·rename_i e;rw[←e];exact jQ.1
  simp_all
theorem Dr.Ui(D:Dr P Eqs Sg F rid n ops b T H E)(dj:Dj rid ops b T H E S Tc h){i:Nat}{o:Oper}(ho:ops[i]? = some o)(hS:¬S i)(hb:∀j,um b i j→S j){v:AV}{os:Heap}(hE:E i=some (.new v os)) :
  ∃q,q≤ops.size∧(∀k,k<q→C9 E k→S k∨k=i)∧(q<ops.size→C9 E q∧¬(S q∨q=i))∧∀id,(nN rid (fun k=>S k∨k=i) id→(bF.new v os).hp h id=H q id)∧(¬nN rid (fun k=>S k∨k=i) id→(bF.new v os).hp h id=none):=by
 obtain⟨q,hq,hw,ma,l9⟩:=dj.heap;have Ua:=D.size;have rM:=(abR.1 ho).1;have hnw:¬C9 E i:=fun⟨v',h',h1⟩=>by simp_all
 have hnf:=D.zo rM ⟨v,os,hE⟩;obtain⟨s,hh,_,_,_,h4,_,_,h7⟩:=D.Yx ho hE;simp only[ib,Bool.and_eq_true]at h4;have r9:=Yy (rid:=rid) h4.1.2;have hiq:i<q:=by
  rcases Nat.lt_or_ge i q with h1|h1
  ·exact h1
  ·obtain⟨h2,h3⟩:=ma (by omega);have bB:i≠q:=fun e=>hnw (e▸h2);rcases D.Da (by omega) h2 hnf bB with⟨h4,_⟩|⟨_,h4⟩
   ·omega
   simp_all
 refine⟨q,hq,fun k h1 h2=>.inl (hw k h1 h2),fun h1=>⟨(ma h1).1,fun h2=>h2.elim (ma h1).2 fun e=>hnw (e▸(ma h1).1)⟩,fun id=>⟨fun h1=>?_,fun h1=>?_⟩⟩
 ·simp only[bF.hp];by_cases h2:Of rid i id
  ·have hn:¬nN rid S id:=fun h3=>h3.C2 (by omega) hS h2;have e1:H i id=none:=Classical.not_not.1 fun bB=>by
    obtain⟨j,h3,h4,_⟩:=D.names i (by omega) id bB (h2.parts (by omega)).1
    grind [xm]
   have e2:H (i+1) id=Heap.get os id:=by
    grind [bF.hp,Heap.get,id]
   have e3:H q id=H (i+1) id:=D.BU q hiq hq (fun k h3 h4=>D.calm dj hnf hS hq hw k (by omega) h4) id fun k h3 _ _ h5=>by
    grind [xm]
   grind
  grind [nN,id,Iq,Heap.get,absurd]
 grind [nN,id,Iq,Of,bF.hp,Heap.get,absurd]
theorem Dr.Yz(D:Dr P Eqs Sg F rid n ops b T H E)(dj:Dj rid ops b T H E S Tc h){i:Nat}{o:Oper}(ho:ops[i]? = some o)(hS:¬S i)(hb:∀j,um b i j→S j){v:AV}{h':Heap}(hE:E i=some (.wr v h')) :
  (∀hh:Heap,(∀id,hh.get id=if u6 rid (b.getD i 0) id then H i id else none)→hh.get=h) ∧
  ∃q,q≤ops.size∧(∀k,k<q→C9 E k→S k∨k=i)∧(q<ops.size→C9 E q∧¬(S q∨q=i))∧∀id,(nN rid (fun k=>S k∨k=i) id→h'.get id=H q id)∧(¬nN rid (fun k=>S k∨k=i) id→h'.get id=none):=by
 obtain⟨q,hq,hw,ma,l9⟩:=dj.heap;have Ua:=D.size;have rM:=(abR.1 ho).1;have hiw:C9 E i:=⟨v,h',hE⟩;have hnf:=D.T9 rM hiw;obtain⟨s,hh0,_,_,_,h4,_,_,h7⟩:=D.Yx ho hE;simp only[ib,Bool.and_eq_true]at h4;have hqi:q=i:=by
  rcases Nat.lt_trichotomy q i with h1|h1|h1
  ·obtain⟨h2,h3⟩:=ma (by omega);rcases D.Da rM hiw (D.T9 (by omega) h2) (by omega) with⟨_,h5⟩|⟨h5,_⟩
   ·simp_all
   ·omega
  ·exact h1
  simp_all
 subst hqi;have own:∀id,H q id≠none→nN rid (um b q) id:=fun id bB Ub=>by
  obtain⟨j,h1,h2,h2',h3⟩:=D.names q hq id bB Ub;rw[(h1.parts h2').2];rcases h3 with h3|⟨w',h5,h6,h8⟩
  ·rcases D.Da rM hiw (D.zo (by omega) h3) (by omega) with⟨_,h9⟩|⟨h9,_⟩
   ·exact h9
   ·omega
  ·have hqw:um b q w':=by
    rcases D.Da rM hiw (D.T9 (by omega) h6) (by omega) with⟨_,h9⟩|⟨h9,_⟩
    ·exact h9
    ·omega
   rcases h8 with rfl|h8
   ·exact hqw
   ·exact GN D.T8 q w' j rM hqw h8
 refine⟨fun hh hhh=>?_,?_⟩
 ·grind [id,nN,ob,u6,um]
 ·obtain⟨q',h1,h2,h3⟩:=Uh E (fun k=>S k∨k=q) ops.size;have XM:q+1≤q':=by
   grind
  have e1:H (q+1)=h'.get:=by rw[h7];rfl
  have Fk:∀j,(b.getD q 0 ||| 2 ^ q).testBit j=true→S j∨j=q:=fun j hj=>by rw[Nat.testBit_or,Bool.or_eq_true,Nat.testBit_two_pow]at hj;exact hj.imp (hb j) (fun h=>(of_decide_eq_true h).symm)
  refine⟨q',h1,h2,h3,fun id=>⟨fun h5=>?_,fun h5=>?_⟩⟩
  ·rw[D.BU q' XM h1 (fun k h6 h8 h9=>?_) id (fun k h6 h8 h9 qq=>?_),e1]
   ·have hk:=h2 k h8 h9;have Uc:S k:=hk.resolve_right (by omega);rcases D.Da (by omega) h9 hnf (by omega) with⟨_,Fg⟩|⟨Fg,_⟩
    ·exact hS (dj.closed k q Uc Fg)
    ·omega
   ·have hk:=h5 (qq.parts (by omega)).1;rw[(qq.parts (by omega)).2]at hk;have Uc:S k:=hk.resolve_right (by omega);rcases D.Da rM hiw (D.zo (by omega) h9) (by omega) with⟨Fg,_⟩|⟨_,Fg⟩
    ·omega
    ·exact hS (dj.closed k q Uc Fg)
  ·cases bM:h'.get id with
   |none=>rfl
   |some ob=>grind [absurd,ng,id,ob]
end
section
variable {S:Nat→Prop} {Tc:Nat→AV}
theorem Fx{o:Oper}{d:Nat}(h:Operand.tmp d∈o.op.operands):d∈o.looksAt ops :=abM _ (aeg.2 ⟨.tmp d,by simpa using h,rfl⟩)
theorem Kq{o:Oper}{j d:Nat}{want:Bool}(hg:o.guard=some (j,want))(hd:(ops[j]?).bind (·.dst)=some d):d∈o.looksAt ops:=by
 grind [Oper.looksAt,List.mem_append_right]
theorem Dr.wanted(D:Dr P Eqs Sg F rid n ops b T H E)(dj:Dj rid ops b T H E S Tc h){a:Act}{i:Nat}{o:Oper}(ho:ops[i]? = some o)(hS:¬S i)(hb:∀j,um b i j→S j)(t:cX Z ψ h w n Tc a){c:Bool}(hw:rL ops (T i) o c) :
  Region.wanted o (yielded ops a.tmps)=c:=by
 unfold rL at hw
 split at hw
 ·grind [Region.wanted]
 ·rename_i j want hg;obtain⟨d,hd,hc⟩:=hw;have e:=D.looks dj ho hS hb (Kq hg hd)
  grind [C3,AL]
theorem Dr.Np(D:Dr P Eqs Sg F rid n ops b T H E)(V:Env P Eqs Sg F){i:Nat}{o:Oper}{a:Act}(ho:ops[i]? = some o)(hS:¬S i)(hb:∀j,um b i j→S j)(dj:Dj rid ops b T H E S Tc h)(j:J (nN rid S) n Z0 w0 O ψ0 Z ψ Tc h a w) {K:Act→World→Prop} {Q:Exit→Act→World→Prop} (hk:∀Tc' h' a' w' Z' ψ',Dj rid ops b T H E (fun k=>S k∨k=i) Tc' h'→J (nN rid fun k=>S k∨k=i) n Z0 w0 O ψ0 Z' ψ' Tc' h' a' w'→K a' w'):wpOp P ops Q i K a w:=by
 have rM:=(abR.1 ho).1;have Ua:=D.size;have XQ:=D.ajS i o ho;have aN:∀k,(S k∨k=i)→k<ops.size:=fun k hk=>hk.elim (dj.lt k) (fun e=>e▸rM);have Fi:∀k j,(S k∨k=i)→um b k j→S j∨j=i:=fun k j hk hj=>.inl (hk.elim (fun h=>dj.closed k j h hj) (fun e=>hb j (e▸hj)));unfold wpOp;rw[ho];simp only[]
 cases hE:E i with
 |none =>obtain⟨h1,h2,h3⟩:=D.Io ho hE;rw[D.wanted dj ho hS hb j.tr h1];simp only[Bool.false_eq_true,if_false];obtain⟨t1,t2⟩:=D.Ug dj ho hS h2;refine hk _ h _ w Z ψ ⟨aN,Fi,D.Kp dj rM hS (fun⟨v,os,h⟩=>by rw[hE]at h;cases h) (fun⟨v,os,h⟩=>by rw[hE]at h;cases h),t1,t2⟩ (j.skip XQ fun id hp hr=>.inl (hp hr))
 |some e =>
  obtain⟨s,hh,h1,h2,h3,h4,h5,h6,h7⟩:=D.Yx ho hE;rw[D.wanted dj ho hS hb j.tr h5];simp only[if_true];refine .inl ?_;obtain⟨t1,t2⟩:=D.Ug dj ho hS h6;have hT:∀x∈o.op.operands,aA Z ψ h w (ρ s x) (a.eval x)∧aL (nN rid S) (ρ s x):=fun x hx=>by
   cases x with
   |tmp d =>
    have e1:look s d=Tc d:=by rw[h1];exact(D.looks dj ho hS hb (Fx hx)).symm
    simp only[ρ,e1];exact⟨j.tr.rep d,j.tm d⟩
   |const v=>exact⟨JV v,C1 _ v⟩
   |global g=>exact⟨by simp only[ρ,aA],by simp only[ρ,aL]⟩
   |func f=>exact⟨by simp only[ρ,aA,au,Act.eval];exact⟨#[],rfl,rfl⟩,by simp only[ρ,aL,aC]⟩
  have qW:=C5 (hh:=[]) j.hm (fun k hk=>hb k hk) h4;obtain⟨e0,h3,GO,vR⟩:=h3
  cases e0 with
  |wr v0 XH =>simp only[il]at GO;subst GO;have mQ:=D.Yz dj ho hS hb hE;have hhh:=mQ.1 hh h2;subst hhh;refine J.opF V (rid:=rid) (i:=i) (fun _ id hp=>hp.C2 (by omega) hS) j XQ (fun x hx=>(hT x hx).1) (fun x hx=>(hT x hx).2) h3 vR (p':=nN rid fun k=>S k∨k=i) (fun id hp hr=>.inl (hp hr)) qW.1 qW.2 fun a' w' Z' ψ' j' => ?_;exact hk _ _ a' w' Z' ψ' ⟨aN,Fi,mQ.2,t1,t2⟩ j'
  |val v0 =>
   simp only[il]at GO;subst GO;have ajX:∃hh':Heap,(∀id o,hh'.get id=some o→h id=some o)∧da P Eqs Sg F (opId rid i) hh' s o some=some (.val v0):=by
    cases hf:oI o.op with
    |true=>exact⟨[],fun id o h=>by simp[Heap.get]at h,by rw[Rj hf (h':=iv hh (ij ops b i s o))];exact h3⟩
    |false =>
     cases S7:jk o.op with
     |some x =>
      have Rp:tN ops b i s o=false:=by
       cases hq:tN ops b i s o with
       |false=>rfl
       |true=>unfold ij at vR;rw[(zn S7).2,hq]at vR;simp[mM]at vR
      have hft:ij ops b i s o=[]:=by unfold ij;rw[(zn S7).2,Rp];rfl
      rw[hft]at h3;have h3':da P Eqs Sg F (opId rid i) hh s o some=some (.val v0):=h3;have sN:∀id,(fO (lh (ρ s x)) hh []).get id=if id∈lh (ρ s x) then hh.get id else none:=fun id=>by
       rw[ly]
       split
       ·cases hh.get id<;>rfl
       ·rfl
      refine⟨fO (lh (ρ s x)) hh [],fun id ob bM=>?_,?_⟩
      ·rw[sN]at bM
       split at bM
       ·rename_i hm;exact D.Rq dj ho S7 hS hb h1 Rp h2 id hm ob bM
       ·cases bM
      ·rw[Nn S7 (hh:=hh) (fun id hm=>by rw[sN,if_pos hm])];exact h3'
     |none=>exact⟨_,fun id ob bM=>D.seen dj ⟨o,ho,hf,S7⟩ hS hb h2 id ob (by rw[pJ]at bM;split at bM;cases bM;exact bM),h3⟩
   obtain⟨hh',Nq,QP⟩:=ajX;refine J.op V (rid:=rid) (i:=i) (fun _ id hp=>hp.C2 (by omega) hS) j XQ (fun x hx=>(hT x hx).1) (fun x hx=>(hT x hx).2) Nq QP (fun v hw he=>by cases he) (p':=nN rid fun k=>S k∨k=i) (fun id hp hr=>.inl (hp hr)) qW.1 qW.2 fun a' w' Z' ψ' j' => ?_;exact hk _ _ a' w' Z' ψ' ⟨aN,Fi,D.Kp dj rM hS (fun⟨v,os,h⟩=>by rw[hE]at h;cases h) (fun⟨v,os,h⟩=>by rw[hE]at h;cases h),t1,t2⟩ j'
  |new v0 os =>simp only[il]at GO;subst GO;have hnf:=D.zo rM ⟨v0,os,hE⟩;have Nq:∀id ob,(iv hh (ij ops b i s o)).get id=some ob→h id=some ob:=fun id ob bM=>D.seen dj hnf hS hb h2 id ob (by rw[pJ]at bM;split at bM;cases bM;exact bM);refine J.op V (rid:=rid) (i:=i) (fun _ id hp=>hp.C2 (by omega) hS) j XQ (fun x hx=>(hT x hx).1) (fun x hx=>(hT x hx).2) Nq h3 (fun v hw he=>by cases he) (p':=nN rid fun k=>S k∨k=i) (fun id hp hr=>.inl (hp hr)) qW.1 qW.2 fun a' w' Z' ψ' j' => ?_;exact hk _ _ a' w' Z' ψ' ⟨aN,Fi,D.Ui dj ho hS hb hE,t1,t2⟩ j'
theorem Dr.done(D:Dr P Eqs Sg F rid n ops b T H E)(dj:Dj rid ops b T H E S Tc h)(jQ:∀k,k<ops.size→S k):Tc=T ops.size∧h=H ops.size:=by
 constructor
 ·funext d;by_cases hex:∃(j:Nat) (oj:Oper),ops[j]? = some oj∧oj.dst=some d
  ·obtain⟨j,oj,hj,hd⟩:=hex;have M0:=(abR.1 hj).1;rw[dj.Ud j oj d (jQ j M0) hj hd,D.Ip hj hd ops.size (Nat.le_refl _) M0]
  ·rw[dj.told d fun j o' _ sq Uf=>hex ⟨j,o',sq,Uf⟩,D.xl ops.size (Nat.le_refl _) fun k o' _ sq Uf=>hex ⟨k,o',sq,Uf⟩]
 ·obtain⟨q,hq,_,ma,l9⟩:=dj.heap;have:q=ops.size:=by
   grind
  subst this;funext id;by_cases uj:nN rid S id
  ·simp_all
  ·rw[(l9 id).2 uj]
   symm
   apply Classical.not_not.1;intro bB;apply uj;intro hr;obtain⟨j,h1,h2,h3,_⟩:=D.names ops.size (acf _) id bB hr;rw[(h1.parts h3).2];simp_all
def nh(m:Nat)(cz:Array Bool):Nat:=((List.range m).filter fun i => !cz.getD i false).length
theorem Ir{m:Nat}{cz:Array Bool}{i:Nat}(hi:i<m)(hs:i<cz.size)(hn:cz.getD i false=false):nh m cz=nh m (cz.setIfInBounds i true)+1:=by
 unfold nh;have key:∀(l:List Nat),l.Nodup→i∈l→(l.filter fun k => !cz.getD k false).length=(l.filter fun k => !(cz.setIfInBounds i true).getD k false).length+1:=by
  intro l
  induction l with
  |nil=>simp_all
  |cons a r ih =>
   intro Fq hm;rw[List.nodup_cons]at Fq;rcases abD.1 hm with rfl|hm
   ·have h2:(r.filter fun k => !cz.getD k false)=(r.filter fun k => !(cz.setIfInBounds i true).getD k false):=by apply List.filter_congr;intro k hk;have bB:i≠k:=fun e=>Fq.1 (e▸hk);simp_all
    simp_all
   ·have bB:i≠a:=fun e=>Fq.1 (e▸hm);rw[List.filter_cons,List.filter_cons,getD_set_ne false bB]
    grind
 grind
theorem Dr.any(D:Dr P Eqs Sg F rid n ops b T H E)(V:Env P Eqs Sg F){Q:Exit→Act→World→Prop}(hQ:∀Z ψ a w,J (nN rid fun k=>k<ops.size) n Z0 w0 O ψ0 Z ψ (T ops.size) (H ops.size) a w→Q .normal a w) :
  ∀(fuel:Nat) (cz:Array Bool) (Tc:Nat→AV) (h:Hp) (a:Act) (w:World) (Z:Nat→Prop) (ψ:Nat→Value),cz.size=ops.size→nh ops.size cz=fuel → Dj rid ops b T H E (fun k=>cz.getD k false=true) Tc h→J (nN rid fun k=>cz.getD k false=true) n Z0 w0 O ψ0 Z ψ Tc h a w→wpAny P .any ops Q fuel cz a w
 |0,cz,Tc,h,a,w,Z,ψ,hs,hu,dj,j=>by
  have jQ:∀k,k<ops.size→cz.getD k false=true:=fun k hk=>by unfold nh at hu;have:=List.filter_eq_nil_iff.1 (abY hu) k (adr.2 hk);simpa using this
  refine⟨?_,?_⟩
  ·apply List.eq_nil_iff_forall_not_mem.2;intro i hi;obtain⟨h1,o,h2,_⟩:=mem_ready.1 hi;have h3:=(abR.1 h2).1;have h4:=jQ i h3;rw[Array.getD_eq_getD_getElem?,Array.getElem?_eq_getElem (by omega)]at h1 h4;simp at h1 h4;rw[h1]at h4;cases h4
  ·obtain⟨e1,e2⟩:=D.done dj jQ;subst e1;subst e2;refine hQ Z ψ a w ⟨j.ok,j.tr,fun d=>(j.tm d).imp fun id h1 h2=>dj.lt _ (h1 h2),fun id ty cs hb=>(j.hm id ty cs hb).imp fun id h1 h2=>dj.lt _ (h1 h2)⟩
 |fuel+1,cz,Tc,h,a,w,Z,ψ,hs,hu,dj,j=>by
  have look:∀i,i<ops.size→cz.getD i true=cz.getD i false:=fun i hi=>by rw[Array.getD_eq_getD_getElem?,Array.getD_eq_getD_getElem?,Array.getElem?_eq_getElem (by omega)];rfl
  refine⟨fun hr=>?_,fun i hi=>?_⟩
  ·exfalso;have hex:∃i,i<ops.size∧cz.getD i false=false:=by
    apply Classical.byContradiction;intro hn;unfold nh at hu;rw[List.filter_eq_nil_iff.2]at hu
    ·simp at hu
    ·intro k hk;have:=fun h=>hn ⟨k,adr.1 hk,h⟩
     cases hl:cz.getD k false with
     |true=>simp
     |false=>exact absurd hl this
   have key:∀i,i<ops.size→cz.getD i false=false→False:=by
    intro i
    induction i using Nat.strongRecOn with
    |ind i ih =>
     intro hi hl;have js:i∈Region.ready .any ops cz:=by
      refine mem_ready.2 ⟨by rw[look i hi];exact hl,_,acw hi,fun e he S8=>?_⟩;have hon:=Nm D.T8 (acw hi) (by simpa using he) S8
      cases hle:cz.getD e.on false with
      |true=>rfl
      |false=>exact(ih e.on hon (by omega) hle).elim
     rw[hr]at js;cases js
   obtain⟨i,h1,h2⟩:=hex;exact key i h1 h2
  ·obtain⟨h1,o,ho,jQ⟩:=mem_ready.1 hi;have rM:=(abR.1 ho).1;have hn:cz.getD i false=false:=by rw[←look i rM];exact h1
   have hS:¬(cz.getD i false=true):=by rw[hn];simp
   have hb:∀k,um b i k→cz.getD k false=true:=fun k hk=>by
    obtain⟨e,he,S8,h2⟩:=(BT D.T8 ho).1 hk;have h3:=jQ e (by simpa using he) S8;rcases h2 with rfl|h2
    ·exact h3
    ·exact dj.closed e.on k h3 h2
   refine D.Np V ho hS hb dj j fun Tc' h' a' w' Z' ψ' dj' j' => ?_;have heq:(fun k=>cz.getD k false=true∨k=i)=(fun k=>(cz.setIfInBounds i true).getD k false=true):=by
    funext k;apply propext;by_cases e:i=k
    ·subst e;simp[show i<cz.size by omega]
    ·rw[getD_set_ne false e];constructor
     ·rintro(h|h)
      ·exact h
      ·exact absurd h.symm e
     ·exact .inl
   rw[heq]at dj' j';exact D.any V hQ fuel _ Tc' h' a' w' Z' ψ' (by simpa using hs) (by have:=Ir rM (by omega) hn;omega) dj' j'
end
end Go.Vs
namespace Go.Vs
variable {P:Program} {Eqs:TypeId→Option K} {Sg:FuncId→Option aO} {F:(f:FuncId)→(g:aO)→g.A→Option g.B} {R:Type}
variable {Z Z' Z0:Nat→Prop} {ψ ψ' ψ0:Nat→Value} {h h':Hp} {w w' w0:World} {B0:Nat} {O N:Nat→Prop}
theorem Dd(f:AV→AV)(hf:f .no=.no):∀(l:List (Nat×AV)) (d:Nat),look (l.map fun p=>(p.1,f p.2)) d=f (look l d)
 |[],d=>by simp[look,hf]
 |(i,v)::r,d=>by
  simp only[List.map_cons,look]
  split
  ·rfl
  simp_all [Dd]
section
variable {rid:Nat}
mutual
theorem zp:∀{a:AV} {v:Value},aA Z ψ h w a v→aA Z ψ h w (bP rid a) v
 |.ref id s i off,v,hr=>by
  simp only[bP]
  split
  ·simp only[aA]
  ·exact hr
 |.bN id,v,hr=>by
  simp only[bP]
  split
  ·simp only[aA]
  ·exact hr
 |.fn f cap,v,hr=>by simp only[bP,aA]at hr ⊢;obtain⟨vs,e,hl⟩:=hr;exact⟨vs,e,ni hl⟩
 |.agg cs,v,hr=>by simp only[bP,aA]at hr ⊢;obtain⟨vs,e,hl⟩:=hr;exact⟨vs,e,ni hl⟩
 |.oG cs,v,hr=>by simp only[bP,aA]at hr ⊢;obtain⟨vs,e,hl⟩:=hr;exact⟨vs,e,ni hl⟩
 |.no,v,hr=>by simpa only[bP] using hr
 |.bool _,v,hr=>by simpa only[bP] using hr
 |.int _ _,v,hr=>by simpa only[bP] using hr
 |.str _,v,hr=>by simpa only[bP] using hr
 |.mg,v,hr=>by simpa only[bP] using hr
 |.gh,v,hr=>by simpa only[bP] using hr
 |.fp _ _ _,v,hr=>by simpa only[bP] using hr
 |.sl _ _ _,v,hr=>by simpa only[bP] using hr
 |.mp _ _ _,v,hr=>by simpa only[bP] using hr
theorem ni:∀{a:List AV} {v:List Value},au Z ψ h w a v→au Z ψ h w (mN rid a) v
 |[],v,hr=>by simpa only[mN] using hr
 |x::r,v,hr=>by simp only[mN,au]at hr ⊢;obtain⟨u,us,e,h1,h2⟩:=hr;exact⟨u,us,e,zp h1,ni h2⟩
end
mutual
theorem qX:∀(a:AV),aL (nN rid fun _=>False) (bP rid a)
 |.ref id s i off=>by
  simp only[bP]
  split
  ·simp only[aL]
  ·rename_i hn;simp only[aL];exact fun h=>absurd h hn
 |.bN id=>by
  simp only[bP]
  split
  ·simp only[aL]
  ·rename_i hn;simp only[aL];exact fun h=>absurd h hn
 |.fn f cap=>by simp only[bP,aL];exact jD cap
 |.agg cs=>by simp only[bP,aL];exact jD cs
 |.oG cs=>by simp only[bP,aL];exact jD cs
 |.no=>by simp only[bP,aL]
 |.bool _=>by simp only[bP,aL]
 |.int _ _=>by simp only[bP,aL]
 |.str _=>by simp only[bP,aL]
 |.mg=>by simp only[bP,aL]
 |.gh=>by simp only[bP,aL]
 |.fp _ _ _=>by simp only[bP,aL]
 |.sl _ _ _=>by simp only[bP,aL]
 |.mp _ _ _=>by simp only[bP,aL]
theorem jD:∀(a:List AV),aC (nN rid fun _=>False) (mN rid a)
 |[]=>by simp only[mN,aC]
 |x::r=>by simp only[mN,aC];exact⟨qX x,jD r⟩
end
theorem get_map(f:Ob→Ob):∀(hh:Heap) (i:Nat),Heap.get (hh.map fun p=>(p.1,f p.2)) i=(hh.get i).map f
 |[],i=>rfl
 |(j,o)::r,i=>by
  simp only[List.map_cons,Heap.get]
  split
  ·rfl
  ·exact get_map f r i
def oi(rid:Nat)(hh:Heap):Heap:=(hh.filter fun p=>p.1 / 32768 != rid+1).map fun p=>(p.1,Cs rid p.2)
theorem Rr(hh:Heap)(i:Nat):(oi rid hh).get i=if i / 32768=rid+1 then none else(hh.get i).map (Cs rid):=by
 unfold oi;rw[get_map (Cs rid),get_filter (fun i=>i / 32768 != rid+1)]
 grind
theorem ju{hh:Heap}{i:Nat}{o:Ob}(hg:(oi rid hh).get i=some o):i / 32768≠rid+1∧∃o',hh.get i=some o'∧o=Cs rid o':=by
 rw[Rr]at hg
 split at hg
 ·cases hg
 ·rename_i hn
  cases h0:hh.get i with
  |none=>simp_all
  |some o'=>simp_all
theorem lD{hh:Heap}{i:Nat}(hg:(oi rid hh).get i≠none):hh.get i≠none:=by
 obtain⟨o,ho⟩:=abS.1 hg
 grind [ju]
theorem Good.mO{hh:Heap}(g:Good Z ψ hh.get w B0 O):Good Z ψ (oi rid hh).get w B0 O:=by
 refine⟨fun id ty cs hb=>?_,fun id ok xs hb=>?_,fun id b h1 h2=>g.live id b (lD h1) h2,fun id pe b h1 h2 h3 h4=>g.apart id pe b (lD h1) (lD h2) h3 h4,g.kz⟩
 ·obtain⟨_,o',h1,h2⟩:=ju hb
  cases o' with
  |own ok xs=>cases h2
  |box Jz cs' =>
   cases h2
   obtain⟨gg,vs,h3,h4,h5,h6⟩:=g.box id ty cs' h1;exact⟨gg,vs,h3,h4,ni (h5.less (fun _ h=>h) (cv.refl _ _) fun i hi=>⟨lD hi,rfl⟩),h6⟩
 ·obtain⟨_,o',h1,h2⟩:=ju hb
  cases o' with
  |own X9 xs'=>cases h2;exact g.row id _ _ h1
  |box Jz cs'=>cases h2
theorem Ok.sub{hp:Hp}(k:Ok Z0 w0 O ψ0 Z ψ h w)(g:Good Z ψ hp w w0.heap.size O)(hn:∀id,hp id≠none→h id≠none):Ok Z0 w0 O ψ0 Z ψ hp w :=⟨g,k.gG,k.fj,k.os,k.tape,k.output,k.size,k.block,fun i hi bB=>k.fix i hi (hn i bB)⟩
end
theorem Good.De(g:Good Z ψ h w B0 O)(e:w'.heap=w.heap):Good Z ψ h w' B0 O:=by
 have sm:cv Z w w':=fun b _=>by rw[e]
 refine⟨fun id ty cs hb=>?_,fun id ok xs hb=>?_,g.live,g.apart,fun b hb=>by rw[e];exact g.kz b hb⟩
 ·obtain⟨gg,vs,h1,h2,h3,h4⟩:=g.box id ty cs hb;exact⟨gg,vs,h1,by simp_all,h3.less (fun _ h=>h) sm (fun i hi=>⟨hi,rfl⟩),h4⟩
 ·exact(g.row id ok xs hb).kept (fun _ h=>h) sm (fun gg _=>by rw[e])
theorem Ok.De(k:Ok Z0 w0 O ψ0 Z ψ h w)(e:w'.heap=w.heap)(e1:w'.os=w.os)(e2:w'.tape=w.tape)(e3:w'.output=w.output):Ok Z0 w0 O ψ0 Z ψ h w' :=⟨k.dE.De e,k.gG,k.fj,e1.trans k.os,e2.trans k.tape,e3.trans k.output,by rw[e];exact k.size,fun b hb ho=>by rw[e];exact k.block b hb ho,k.fix⟩
theorem cX.De{n:Nat}{T:Nat→AV}{a:Act}(t:cX Z ψ h w n T a)(e:w'.heap=w.heap):cX Z ψ h w' n T a :=⟨fun d=>(t.rep d).less (fun _ h=>h) (fun b _=>by rw[e]) (fun i hi=>⟨hi,rfl⟩),t.size,t.defers⟩
theorem Is(V:Env P Eqs Sg F)(hm:P.follows .mixedOrders=true){n rid:Nat}{ops:Array Oper}{draw:Bool}{st:St}{kk:St→Option R}{r:R}{a:Act}{Q:Exit→Act→World→Prop} (hx:jm P Eqs Sg F n rid ops draw st kk=some r) (k:Ok Z0 w0 O ψ0 Z ψ st.heap.get w) (t:cX Z ψ st.heap.get w n (look st.tmps) a) (hQ:∀fk Z ψ a w,kk fk=some r→Ok Z0 w0 O ψ0 Z ψ fk.heap.get w→cX Z ψ fk.heap.get w n (look fk.tmps) a→Q .normal a w):(Code.region rid ops draw).wp P Q a w:=by
 obtain⟨b,hbe,hx⟩:∃b,b=(if draw then Region.before ops else #[])∧(if(ops.all fun o=>jl n o)&&(!draw || (wS ops b&&(Cq ops b&&cg (ops.toList.filterMap (·.dst)))))&&decide (ops.size≤128) then
  bJ P Eqs Sg F rid draw ops b (ops.toList.zipIdx.map fun p=>(p.2,p.1)) (mO draw rid ops st) kk else none)=some r:=⟨_,rfl,hx⟩
 split at hx
 ·rename_i hc;simp only[Bool.and_eq_true,decide_eq_true_eq]at hc;obtain⟨⟨nO,hdr⟩,iY⟩:=hc;have GQ:∀(i:Nat) (o:Oper),ops[i]? = some o→jl n o=true:=fun i o ho=>adB.1 nO o (adH ho);have pk:Ok Z0 w0 O ψ0 Z ψ (oi rid st.heap).get w:=k.sub k.dE.mO fun id=>lD;have pt:cX Z ψ (oi rid st.heap).get w n (fun d=>bP rid (look st.tmps d)) a :=⟨fun d=>zp ((t.rep d).less (fun _ h=>h) (cv.refl _ _) fun i hi=>⟨lD hi,rfl⟩),t.size,t.defers⟩;have pm:vv (nN rid fun _=>False) (oi rid st.heap).get:=fun i ty cs hb=>by
   obtain⟨_,o',h1,h2⟩:=ju hb
   cases o' with
   |own ok xs=>cases h2
   |box Jz cs'=>cases h2;exact jD cs'
  have O0:look (st.tmps.map fun p=>(p.1,bP rid p.2))=fun d=>bP rid (look st.tmps d):=funext fun d=>Dd (bP rid) (by rfl) st.tmps d
  cases draw with
  |false =>
   refine wp_region ?_;rw[←GL ops]
   cases Yw:ops.any (makes ·.op) with
   |false =>
    have hp:mO false rid ops st=st:=by grind [mO]
    rw[hp]at hx;refine mC V (rid:=rid) (n:=n) (b:=_) false (fun _ i o ho=>?_) iY GQ hQ _ 0 st Z ψ a w (pM ops) hx ⟨k,t,fun d=>?_,fun i ty cs hb=>?_⟩
    ·grind
    ·exact(aL.top _).imp fun id _ h=>by cases h
    ·exact(aC.top _).imp fun id _ h=>by cases h
   |true =>
    have hp:mO false rid ops st={ tmps:=st.tmps.map fun p=>(p.1,bP rid p.2),heap:=oi rid st.heap }:=by unfold mO;rw[Yw];rfl
    rw[hp]at hx;refine mC V (rid:=rid) (n:=n) (b:=_) true (fun h=>by cases h) iY GQ hQ _ 0 _ Z ψ a w (pM ops) hx ⟨pk,by simp_all,fun d=>?_,fun i ty cs hb=>?_⟩
    ·rw[O0];exact(qX _).imp fun id h1 _ h2=>(h1 h2).elim
    ·exact(pm i ty cs hb).imp fun id h1 _ h2=>(h1 h2).elim
  |true =>
   have hp:mO true rid ops st={ tmps:=st.tmps.map fun p=>(p.1,bP rid p.2),heap:=oi rid st.heap }:=by rfl
   rw[hp]at hx;simp only[Bool.not_true,Bool.false_or,Bool.and_eq_true]at hdr;obtain⟨ajZ,aez,Fq⟩:=hdr;refine wp_region_any hm ?_;obtain⟨T,H,E,h1,h2,h3,fk,h4,h5,h6⟩:=trace (kk:=kk) (r:=r) (ops.toList.zipIdx.map fun p=>(p.2,p.1)) 0 _ (pM ops) (by simp) hx;rw[O0]at h1;have D:Dr P Eqs Sg F rid n ops b T H E:=⟨iY,ajZ,aez,GQ,Fq,fun k o ho=>h3 k o (adx _) ho,fun id bM=>by rw[h2]at bM;obtain⟨o,ho⟩:=abS.1 bM;exact(ju ho).1⟩;have O2:∀k,¬((Array.replicate ops.size false).getD k false=true):=fun k hk=>by
    rw[Array.getD_eq_getD_getElem?,Array.getElem?_replicate]at hk
    grind
   rw[show max 0 ops.size=ops.size by omega]at h5 h6;have w2:({ w with drawn:=w.drawn+1 }:World).heap=w.heap:=rfl;refine D.any V (Z0:=Z0) (w0:=w0) (O:=O) (ψ0:=ψ0) (fun Z ψ a w j=>hQ fk Z ψ a w h4 (by rw[h6];exact j.ok) (by rw[h5,h6];exact j.tr)) ops.size _ (T 0) (H 0) a _ Z ψ (by simp) ?_ ?_ ?_
   ·grind [nh,List.filter_eq_self,List.length_range]
   ·refine⟨fun i hi=>(O2 i hi).elim,fun i j hi=>(O2 i hi).elim,?_,fun j o d hj=>(O2 j hj).elim,fun d _=>rfl⟩;obtain⟨q,hq1,hq2,hq3⟩:=Uh E (fun k=>(Array.replicate ops.size false).getD k false=true) ops.size;refine⟨q,hq1,hq2,hq3,fun id=>⟨fun uj=>?_,fun uj=>?_⟩⟩
    ·symm
     refine D.BU q (adx _) hq1 (fun k _ hk hw=>(O2 k (hq2 k hk hw)).elim) id fun k _ hk _ ho=>?_;have:=uj (ho.parts (by omega)).1;simp_all
    ·rw[h2];apply Classical.not_not.1;intro bB;obtain⟨o,ho⟩:=abS.1 bB;exact uj fun hr=>absurd hr (ju ho).1
   ·rw[h1,h2];refine⟨pk.De w2 rfl rfl rfl,pt.De w2,fun d=>(qX _).imp fun id h3 h4=>(h3 h4).elim,fun i ty cs hb=>(pm i ty cs hb).imp fun id h3 h4=>(h3 h4).elim⟩
 ·cases hx
end Go.Vs
