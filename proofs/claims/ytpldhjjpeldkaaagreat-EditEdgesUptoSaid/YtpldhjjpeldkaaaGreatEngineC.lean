/- The value semantics is sound, at calls and in regions. -/
import Derived.Test.YtpldhjjpeldkaaaGreatEngineB
import Derived.Maps.RangeRun
import Derived.ChangeMaps
set_option linter.unusedSimpArgs false
set_option linter.unusedVariables false
namespace Go.Vs
variable {P:Program} {Z Z':Nat→Prop} {ψ ψ':Nat→Value} {h h':Hp} {w w':World} {B0:Nat} {O:Nat→Prop} {N:Nat→Prop}
theorem fK:∀(k:K) (x:k.T),(enc k x).length=k.sz
 |.int _,_=>rfl
 |.bool,_=>rfl
 |.str,_=>rfl
 |.sl _,_=>rfl
 |.mp _ _,_=>rfl
 |.pair a b,x=>by simp only[enc,List.length_append,K.sz];rw[fK a,fK b]
 |.one k,x=>by simp only[enc,K.sz];exact fK k x
theorem q7(hh:Heap):∀(k:K) (x:k.T),(enc k x).map (cV hh)=enc k x
 |.int _,_=>rfl
 |.bool,_=>rfl
 |.str,_=>rfl
 |.sl _,_=>rfl
 |.mp _ _,_=>rfl
 |.pair a b,x=>by simp only[enc,List.map_append];rw[q7 hh a,q7 hh b]
 |.one k,x=>by simp only[enc];exact q7 hh k x
theorem mj:∀(k:K) (x:k.T) (id:Nat),AV.bO id∉enc k x
 |.int _,_,_=>by simp[enc]
 |.bool,_,_=>by simp[enc]
 |.str,_,_=>by simp[enc]
 |.sl _,_,_=>by simp[enc]
 |.mp _ _,_,_=>by simp[enc]
 |.pair a b,x,id=>by
  simp only[enc,List.mem_append]
  rintro(h|h)
  ·exact mj a _ id h
  ·exact mj b _ id h
 |.one k,x,id=>by simp only[enc];exact mj k x id
theorem w7{hh:Heap}{ok:OK}{n:Nat}{xs:ok.T}(hg:hh.get n=some (.own ok xs)):eg hh ok (.bO n)=some xs:=by
 simp[eg,hg]
theorem pM{hh:Heap}:∀(dw:List CK) (n:Nat) (x:qI dw),(∀e∈aZ dw n x,hh.get e.1=some e.2)→cW dw hh (aD dw n x)=some x
 |[],n,x,_=>rfl
 |.val k::r,n,x,hg=>by
  have h1:(aD (.val k::r) n x).take k.sz=enc k x.1:=by simp only[aD];rw[←fK k x.1,List.take_left]
  have h2:(aD (.val k::r) n x).drop k.sz=aD r (n+1) x.2:=by simp only[aD];rw[←fK k x.1,List.drop_left]
  have e:cW (.val k::r) hh (aD (.val k::r) n x)=(match ep k (((aD (.val k::r) n x).take k.sz).map (cV hh)),cW r hh ((aD (.val k::r) n x).drop k.sz) with
   |some x,some y=>some ((x,y):k.T×qI r)
   |_,_=>none):=by generalize aD (.val k::r) n x=l;cases l<;>rfl
  have h4:ep k (((aD (.val k::r) n x).take k.sz).map (cV hh))=some x.1:=by
   rw[h1];exact(congrArg (ep k) (q7 hh k x.1)).trans (uo k x.1)
  have h5:cW r hh ((aD (.val k::r) n x).drop k.sz)=some x.2:=by
   rw[h2];exact pM r (n+1) x.2 hg
  rw[e]
  generalize ep k (((aD (.val k::r) n x).take k.sz).map (cV hh))=o1 at h4 ⊢
  generalize cW r hh ((aD (.val k::r) n x).drop k.sz)=o2 at h5 ⊢
  subst h4;subst h5;rfl
 |.own ok::r,n,x,hg=>by
  simp only[aZ]at hg
  have h1:=w7 (hg _ List.mem_cons_self)
  have h2:=pM r (n+1) x.2 (fun e he=>hg e (List.mem_cons_of_mem _ he))
  have e:cW (.own ok::r) hh (aD (.own ok::r) n x)=(match eg hh ok (.bO n),cW r hh (aD r (n+1) x.2) with
   |some x,some y=>some ((x,y):ok.T×qI r)
   |_,_=>none):=rfl
  rw[e,h1,h2]
  rfl
theorem MW{hh:Heap}(b:BK){i n:Nat}{x:b.T}(hg:∀e∈jz b i n x,hh.get e.1=some e.2):qm b hh i=some x:=by
 cases b with
 |box ty c =>
  simp only[jz]at hg
  have h1:GG hh i ty=some (aD c n x):=by
   unfold GG
   rw[hg _ List.mem_cons_self]
   simp
  simp only[qm,h1]
  exact pM (hh:=hh) c n x (fun e he=>hg e (List.mem_cons_of_mem _ he))
 |own ok=>exact w7 (hg _ (by simp only[jz];exact List.mem_cons_self))
theorem yF{hh:Heap}:∀(bs:List BK) (is:List Nat) (n:Nat) (x:wI bs),is.length=bs.length→(∀e∈bC bs is n x,hh.get e.1=some e.2)→de bs hh is=some x
 |[],[],n,x,_,_=>rfl
 |[],_::_,n,x,hl,_=>by simp at hl
 |_::_,[],n,x,hl,_=>by simp at hl
 |b::r,i::is,n,x,hl,hg=>by
  simp only[bC]at hg
  have h2:=MW b (fun e he=>hg e (List.mem_append_left _ he))
  have h3:=yF r is (n+16) x.2 (by simpa using hl) (fun e he=>hg e (List.mem_append_right _ he))
  have e:de (b::r) hh (i::is)=(match qm b hh i,de r hh is with
    |some x,some y=>some ((x,y):b.T×wI r)
    |_,_=>none):=rfl
  rw[e,h2,h3]
  rfl
theorem w8{i:Nat}{o:Ob}:∀{hh:Heap},cm (hh.map (·.1))=true→(i,o)∈hh→hh.get i=some o
 |[],_,h=>by cases h
 |(j,o')::r,hn,h=>by
  obtain⟨h1,h2⟩:=mY hn
  simp only[Heap.get]
  rcases List.mem_cons.1 h with e|h
  ·cases e;simp
  ·rw[if_neg,w8 h2 h]
   rintro rfl
   exact h1 (List.mem_map.2 ⟨_,h,rfl⟩)
theorem zT{hh:Heap}:∀(dw:List CK) (n:Nat) (x:qI dw) (id:Nat),AV.bO id∉ql dw (aD dw n x)
 |[],n,x,id=>by simp[aD,ql]
 |.val k::r,n,x,id=>by
  have h1:(aD (.val k::r) n x).take k.sz=enc k x.1:=by simp only[aD];rw[←fK k x.1,List.take_left]
  have h2:(aD (.val k::r) n x).drop k.sz=aD r (n+1) x.2:=by simp only[aD];rw[←fK k x.1,List.drop_left]
  have e:ql (.val k::r) (aD (.val k::r) n x)=(aD (.val k::r) n x).take k.sz++ql r ((aD (.val k::r) n x).drop k.sz):=by generalize aD (.val k::r) n x=l;cases l<;>rfl
  rw[e,h1,h2,List.mem_append]
  rintro(h|h)
  ·exact mj k x.1 id h
  ·exact zT (hh:=hh) r (n+1) x.2 id h
 |.own ok::r,n,x,id=>by simp only[aD,ql];exact zT (hh:=hh) r (n+1) x.2 id
theorem Bb{hh:Heap}:∀(bs:List BK) (is:List Nat) (n:Nat) (x:wI bs) (id:Nat),(∀e∈bC bs is n x,hh.get e.1=some e.2)→AV.bO id∉gx bs hh is
 |[],is,n,x,id,_=>by cases is<;>simp[gx]
 |_::_,[],n,x,id,_=>by simp[gx]
 |b::r,i::is,n,x,id,hg=>by
  simp only[bC]at hg
  simp only[gx,List.mem_append]
  rintro(h|h)
  ·cases b with
   |box ty c =>
    simp only[Ax]at h
    rw[hg (i,.box ty (aD c n x.1)) (List.mem_append_left _ (by simp only[jz];exact List.mem_cons_self))]at h
    exact zT (hh:=hh) c n x.1 id h
   |own ok=>simp[Ax]at h
  ·exact Bb r is (n+16) x.2 id (fun e he=>hg e (List.mem_append_right _ he)) h
theorem DY{hh:Heap}:∀(cap:List AV) (is is':List Nat) (vs:List Value),jZ cap=some is→is'.length=is.length→(∀p∈is.zip is',hh.get p.1≠none∧(h' p.2≠none→ψ' p.2=ψ p.1)) →
  ar Z ψ hh.get w cap vs→ar Z' ψ' h' w (is'.map fun i=>.ref i 0 0 0) vs
 |[],is,is',vs,h1,hl,_,hr=>by
  simp only[jZ]at h1
  cases h1
  cases is' with
  |nil=>simpa only[List.map_nil,ar] using hr
  |cons c r=>simp at hl
 |v::cap,is,is',vs,h1,hl,hp,hr=>by
  simp only[jZ]at h1
  split at h1
  ·rename_i i is1 h3 h4
   cases h1
   cases is' with
   |nil=>simp at hl
   |cons c r =>
    simp only[List.zip_cons_cons]at hp
    simp only[List.map_cons,ar]at hr ⊢
    obtain⟨u,us,rfl,h7,h8⟩:=hr
    obtain⟨sz,rfl⟩:=pH h3
    obtain⟨h5,h6⟩:=hp _ List.mem_cons_self
    exact⟨u,us,rfl,zQ h7 h5 h6,DY cap is1 r us h4 (by simpa using hl) (fun p h=>hp p (List.mem_cons_of_mem _ h)) h8⟩
  ·cases h1
theorem tz:∀(cap:List AV) (is:List Nat),jZ cap=some is→is.length=cap.length
 |[],is,h=>by simp only[jZ]at h;cases h;rfl
 |v::cap,is,h=>by
  simp only[jZ]at h
  split at h
  ·rename_i i is1 h3 h4
   cases h
   simp[tz cap is1 h4]
  ·cases h
theorem tB:∀(cs:List AV) (is:List Nat),o6 cs=some is→is.length=cs.length
 |[],is,h=>by simp only[o6]at h;cases h;rfl
 |c::r,is,h=>by
  cases c<;>simp only[o6]at h<;>first|(cases h;done)|skip
  split at h
  ·rename_i is' h1
   cases h
   simp[tB r is' h1]
  ·cases h
theorem DZ{hh:Heap}:∀(cs:List AV) (is gW:List Nat) (vs:List Value),o6 cs=some is→gW.length=is.length→(∀p∈is.zip gW,hh.get p.1≠none∧(h' p.2≠none→ψ' p.2=ψ p.1)) →
  ar Z ψ hh.get w cs vs→ar Z' ψ' h' w (gW.map .bO) vs
 |[],is,gW,vs,h,hl,hp,hr=>by
  simp only[o6]at h
  cases h
  have:gW=[]:=List.eq_nil_of_length_eq_zero hl
  subst this
  simpa only[List.map_nil,ar] using hr
 |c::r,is,gW,vs,h,hl,hp,hr=>by
  cases c<;>simp only[o6]at h<;>first|(cases h;done)|skip
  rename_i i
  split at h
  ·rename_i is' h1
   cases h
   cases gW with
   |nil=>simp at hl
   |cons i' gW =>
    simp only[List.zip_cons_cons]at hp
    obtain⟨h5,h6⟩:=hp _ List.mem_cons_self
    simp only[List.map_cons,ar]at hr ⊢
    obtain⟨u,us,rfl,h3,h4⟩:=hr
    refine⟨u,us,rfl,?_,DZ r is' gW us h1 (by simpa using hl) (fun p Pd=>hp p (List.mem_cons_of_mem _ Pd)) h4⟩
    simp only[aw]at h3 ⊢
    exact⟨h3.1,fun hn=>(h3.2 h5).trans (h6 hn).symm⟩
  ·cases h
theorem lM{hh:Heap}(g:Good Z ψ hh.get w B0 O)(hz:∀b,Z b→Z' b):∀(ps:List PK) (ids gW:List Nat) (s:Nat) (vs:List AV) (us:List Value) (x:GF (lg ps)),gW.length=ids.length→cO ps vs=some ids→fa ps hh vs=some x →
  (∀id b,AV.bO id∈du ps vs→hh.get id≠none→ob (ψ id)=some b→Z' b)→(∀p∈ids.zip gW,hh.get p.1≠none∧(h' p.2≠none→ψ' p.2=ψ p.1))→ar Z ψ hh.get w vs us→ar Z' ψ' h' w ((aT ps gW s x).map (·.2)) us
 |[],ids,gW,s,vs,us,x,hl,hi,hv,hf,hp,hr=>by
  cases vs with
  |nil=>simpa only[aT,List.map_nil,ar] using hr
  |cons a r=>simp[cO]at hi
 |.val k::ps,ids,gW,s,vs,us,x,hl,hi,hv,hf,hp,hr=>by
  cases vs with
  |nil=>simp[cO]at hi
  |cons a r =>
   simp only[cO]at hi
   simp only[ar]at hr
   obtain⟨u,jv,rfl,h3,h4⟩:=hr
   obtain⟨h1,h2⟩:=yD hv
   simp only[du]at hf
   simp only[aT,List.map_cons,ar]
   exact⟨u,jv,rfl,so g hz (fun id b bT=>hf id b (List.mem_append_left _ bT)) h1 h3,lM g hz ps ids gW (s+1) r jv x.2 hl hi h2 (fun id b bT=>hf id b (List.mem_append_right _ bT)) hp h4⟩
 |.ref::ps,ids,gW,s,vs,us,x,hl,hi,hv,hf,hp,hr=>by
  cases vs with
  |nil=>simp[cO]at hi
  |cons a r =>
   simp only[cO]at hi
   split at hi
   ·rename_i i is h1 h2
    cases hi
    simp only[ar]at hr
    obtain⟨u,jv,rfl,h3,h4⟩:=hr
    cases gW with
    |nil=>simp at hl
    |cons i' is' =>
     simp only[List.zip_cons_cons]at hp
     obtain⟨sz,rfl⟩:=pH h1
     obtain⟨h5,h6⟩:=hp _ List.mem_cons_self
     simp only[aT,List.map_cons,ar]
     exact⟨u,jv,rfl,zQ h3 h5 h6,lM g hz ps is is' (s+1) r jv x (by simpa using hl) h2 hv hf (fun p h=>hp p (List.mem_cons_of_mem _ h)) h4⟩
   ·cases hi
 |.own::ps,ids,gW,s,vs,us,x,hl,hi,hv,hf,hp,hr=>by
  cases vs with
  |nil=>simp[cO]at hi
  |cons a r =>
   cases a<;>simp only[cO]at hi<;>first|(cases hi;done)|skip
   rename_i i
   split at hi
   ·rename_i is h2
    cases hi
    simp only[ar]at hr
    obtain⟨u,jv,rfl,h3,h4⟩:=hr
    cases gW with
    |nil=>simp at hl
    |cons i' is' =>
     simp only[List.zip_cons_cons]at hp
     obtain⟨h5,h6⟩:=hp _ List.mem_cons_self
     simp only[aT,List.map_cons,ar]
     refine⟨u,jv,rfl,?_,lM g hz ps is is' (s+1) r jv x (by simpa using hl) h2 hv hf (fun p h=>hp p (List.mem_cons_of_mem _ h)) h4⟩
     simp only[aw]at h3 ⊢
     exact⟨h3.1,fun hn=>(h3.2 h5).trans (h6 hn).symm⟩
   ·cases hi
 |.GD f m::ps,ids,gW,s,vs,us,x,hl,hi,hv,hf,hp,hr=>by
  cases vs with
  |nil=>simp[cO]at hi
  |cons a r =>
   cases a<;>simp only[cO]at hi<;>first|(cases hi;done)|skip
   rename_i f' cap
   split at hi
   ·rename_i hc
    obtain⟨rfl,uM⟩:=hc
    split at hi
    ·rename_i a1 b1 h1 h2
     cases hi
     simp only[ar]at hr
     obtain⟨u,jv,rfl,h3,h4⟩:=hr
     have h5:=tz cap a1 h1
     have yv:(a1++b1).zip gW=a1.zip (gW.take m)++b1.zip (gW.drop m):=by
      conv=>lhs;rw[←List.take_append_drop m gW]
      rw[List.zip_append]
      rw[List.length_take,Nat.min_eq_left]
      ·omega
      ·rw[hl,List.length_append];omega
     rw[yv]at hp
     simp only[aT,List.map_cons,ar]
     refine⟨u,jv,rfl,?_,lM g hz ps b1 (gW.drop m) (s+1) r jv x (by rw[List.length_drop,hl,List.length_append];omega) h2 hv hf (fun p h=>hp p (List.mem_append_right _ h)) h4⟩
     simp only[aw]at h3 ⊢
     obtain⟨ws,h6,h7⟩:=h3
     exact⟨ws,h6,DY cap a1 (gW.take m) _ h1 (by rw[List.length_take,Nat.min_eq_left (by rw[hl,List.length_append];omega)];omega) (fun p h=>hp p (List.mem_append_left _ h)) h7⟩
    ·cases hi
   ·cases hi
 |.agg m::ps,ids,gW,s,vs,us,x,hl,hi,hv,hf,hp,hr=>by
  cases vs with
  |nil=>simp[cO]at hi
  |cons a r =>
   cases a<;>simp only[cO]at hi<;>first|(cases hi;done)|skip
   rename_i cs
   split at hi
   ·rename_i uM
    split at hi
    ·rename_i a1 b1 h1 h2
     cases hi
     simp only[ar]at hr
     obtain⟨u,jv,rfl,h3,h4⟩:=hr
     have h5:=tB cs a1 h1
     have yv:(a1++b1).zip gW=a1.zip (gW.take m)++b1.zip (gW.drop m):=by
      conv=>lhs;rw[←List.take_append_drop m gW]
      rw[List.zip_append]
      rw[List.length_take,Nat.min_eq_left]
      ·omega
      ·rw[hl,List.length_append];omega
     rw[yv]at hp
     simp only[aT,List.map_cons,ar]
     refine⟨u,jv,rfl,?_,lM g hz ps b1 (gW.drop m) (s+1) r jv x (by rw[List.length_drop,hl,List.length_append];omega) h2 hv hf (fun p h=>hp p (List.mem_append_right _ h)) h4⟩
     simp only[aw]at h3 ⊢
     obtain⟨ws,h6,h7⟩:=h3
     exact⟨ws,h6,DZ cs a1 (gW.take m) _ h1 (by rw[List.length_take,Nat.min_eq_left (by rw[hl,List.length_append];omega)];omega) (fun p h=>hp p (List.mem_append_left _ h)) h7⟩
    ·cases hi
   ·cases hi
theorem MX(hh:Heap)(k:K)(x:k.T):gh k hh (cv k x)=some x:=by
 unfold gh
 rw[if_pos (A7 k x).symm,uq]
 exact(congrArg (ep k) (q7 hh k x)).trans (uo k x)
theorem m8:∀(dw:List CK) (c n:Nat) (x:qI dw),gk dw c=true→(aD dw n x)[mU dw c]? = some (.bO (n+c))
 |[],c,n,x,h=>by simp[gk]at h
 |.val k::r,0,n,x,h=>by simp[gk]at h
 |.val k::r,c+1,n,x,h=>by
  simp only[aD,mU]
  have ih:=m8 r c (n+1) x.2 (by simpa[gk] using h)
  have hl:(enc k x.1).length=k.sz:=fK k x.1
  generalize enc k x.1=l at hl ⊢
  rw[List.getElem?_append_right (by omega),hl,Nat.add_sub_cancel_left,show n+(c+1)=n+1+c by omega]
  exact ih
 |.own ok::r,0,n,x,h=>by simp[aD,mU]
 |.own ok::r,c+1,n,x,h=>by
  simp only[aD,mU]
  rw[Nat.add_comm 1,List.getElem?_cons_succ,show n+(c+1)=n+1+c by omega]
  exact m8 r c (n+1) x.2 (by simpa[gk] using h)
theorem yG:∀(bs:List BK) (b:Nat) (is:List Nat) (n:Nat) (x:wI bs) (ty:TypeId) (c:List CK) (bi:Nat),bs[b]? = some (.box ty c)→is[b]? = some bi→∃xb,(bi,.box ty (aD c (n+16*b) xb))∈bC bs is n x
 |[],b,is,n,x,_,_,bi,h,_=>by simp at h
 |b0::r,b,[],n,x,_,_,bi,_,h=>by simp at h
 |b0::r,0,i::is,n,x,ty,c,bi,h1,h2=>by
  simp only[List.getElem?_cons_zero,Option.some.injEq]at h1 h2
  subst h1;subst h2
  exact⟨x.1,by simp only[bC,jz];exact List.mem_append_left _ List.mem_cons_self⟩
 |b0::r,b+1,i::is,n,x,ty,c,bi,h1,h2=>by
  obtain⟨xb,h3⟩:=yG r b is (n+16) x.2 ty c bi (by simpa using h1) (by simpa using h2)
  refine⟨xb,?_⟩
  simp only[bC]
  rw[show n+16*(b+1)=n+16+16*b by omega]
  exact List.mem_append_right _ h3
theorem ml{bs:List BK}{hh:Heap}{is:List Nat}{nb:Nat}{xb:wI bs}(hl:is.length=bs.length)(SV:∀e∈bC bs is nb xb,hh.get e.1=some e.2):∀(rs:List RK) (ids2:List Nat) (m:Nat) (y:lZ rs),qL bs rs=true →
  (∀e∈an rs m y,hh.get e.1=some e.2)→bP bs rs hh is (aV rs ids2 nb m y)=some y
 |[],ids2,m,y,_,_=>rfl
 |.val k::r,ids2,m,y,hk,hg=>by
  simp only[qL,List.all_cons,Bool.and_eq_true,Db]at hk
  have h1:=MX hh k y.1
  have h2:=ml hl SV r ids2 (m+1) y.2 hk.2 hg
  have e:bP bs (.val k::r) hh is (aV (.val k::r) ids2 nb m y)=(match gh k hh (cv k y.1),bP bs r hh is (aV r ids2 nb (m+1) y.2) with
   |some x,some y=>some ((x,y):k.T×lZ r)
   |_,_=>none):=rfl
  rw[e]
  generalize gh k hh (cv k y.1)=o1 at h1 ⊢
  generalize bP bs r hh is (aV r ids2 nb (m+1) y.2)=o2 at h2 ⊢
  subst h1;subst h2;rfl
 |.own ok::r,ids2,m,y,hk,hg=>by
  simp only[qL,List.all_cons,Bool.and_eq_true,Db]at hk
  simp only[an]at hg
  have h1:=w7 (hg _ List.mem_cons_self)
  have h2:=ml hl SV r ids2 (m+1) y.2 hk.2 (fun e he=>hg e (List.mem_cons_of_mem _ he))
  have e:bP bs (.own ok::r) hh is (aV (.own ok::r) ids2 nb m y)=(match eg hh ok (.bO m),bP bs r hh is (aV r ids2 nb (m+1) y.2) with
   |some x,some y=>some ((x,y):ok.T×lZ r)
   |_,_=>none):=rfl
  rw[e]
  generalize eg hh ok (.bO m)=o1 at h1 ⊢
  generalize bP bs r hh is (aV r ids2 nb (m+1) y.2)=o2 at h2 ⊢
  subst h1;subst h2;rfl
 |.fg b alts::r,ids2,m,y,hk,hg=>by
  simp only[qL,List.all_cons,Bool.and_eq_true,Db]at hk
  have h2:=ml hl SV r ids2 (m+1) y.2 hk.2 hg
  have h1:nE bs hh is b alts (uR b nb alts y.1)=some y.1:=by
   cases hy:y.1 with
   |none=>rfl
   |some p =>
    obtain⟨al,i⟩:=p
    have h3:=hk.1
    split at h3
    ·rename_i bk Zl
     have aM:=(List.getElem?_eq_some_iff.1 Zl).1
     have MY:is[b]? = some (is[b]'(by omega)):=List.getElem?_eq_getElem (by omega)
     rw[Bool.and_eq_true,decide_eq_true_eq]at h3
     obtain⟨h3,C5⟩:=h3
     have Zm:∀a:Fin alts.length,gk bk.dw (alts.get a).1=true:=fun a=>List.all_eq_true.1 h3 _ (List.get_mem alts a)
     cases bk with
     |own ok=>have:=Zm al;simp[BK.dw,gk]at this
     |box ty c0 =>
      obtain⟨xb',h4⟩:=yG bs b is nb xb ty c0 _ Zl MY
      have h5:=SV _ h4
      simp only[BK.dw]at Zm
      simp only[nE,uR,Zl,MY,h5,BK.dw]
      have key:(List.finRange alts.length).find? (fun a=>yl c0 (aD c0 (nb+16*b) xb') (nb+16*b+(alts.get al).1) (alts.get al).2.1 (alts.get al).2.2 (alts.get a))=some al:=by
       cases hf:(List.finRange alts.length).find? (fun a=>yl c0 (aD c0 (nb+16*b) xb') (nb+16*b+(alts.get al).1) (alts.get al).2.1 (alts.get al).2.2 (alts.get a)) with
       |none =>
        have:=List.find?_eq_none.1 hf al (List.mem_finRange al)
        exfalso
        apply this
        simp only[yl,Bool.and_eq_true,decide_eq_true_eq]
        refine⟨?_,trivial,trivial,Zm al⟩
        rw[m8 c0 _ _ xb' (Zm al)]
        simp[OI]
       |some a' =>
        have hf':=List.find?_some hf
        obtain⟨h6,_,h7,_⟩:=Ba hf'
        rw[m8 c0 _ _ xb' (Zm a')]at h6
        simp only[Option.some.injEq,AV.bO.injEq]at h6
        have h8:(alts.get a').1=(alts.get al).1:=by omega
        congr 1
        have nJ:∀a:Fin alts.length,(alts.map fun a=>(a.1,a.2.2))[a.val]? = some ((alts.get a).1,(alts.get a).2.2):=fun a=>by
         rw[List.getElem?_map,List.getElem?_eq_getElem a.isLt];rfl
        have e1:=nJ a'
        have e2:=nJ al
        rw[h8,←h7]at e1
        exact Fin.ext ((List.getElem?_inj (by simp) C5).1 (e1.trans e2.symm))
      rw[key]
      rfl
    ·cases h3
  have e:bP bs (.fg b alts::r) hh is (aV (.fg b alts::r) ids2 nb m y)=(match nE bs hh is b alts (uR b nb alts y.1),bP bs r hh is (aV r ids2 nb (m+1) y.2) with
   |some x,some y=>some ((x,y):Option (Fin alts.length×Nat)×lZ r)
   |_,_=>none):=rfl
  rw[e]
  generalize nE bs hh is b alts (uR b nb alts y.1)=o1 at h1 ⊢
  generalize bP bs r hh is (aV r ids2 nb (m+1) y.2)=o2 at h2 ⊢
  subst h1;subst h2;rfl
 |.agg c::r,ids2,m,y,hk,hg=>by
  simp only[qL,List.all_cons,Bool.and_eq_true,Db]at hk
  simp only[an]at hg
  have h1:=pM (hh:=hh) c m y.1 (fun e he=>hg e (List.mem_append_left _ he))
  have h2:=ml hl SV r ids2 (m+1) y.2 hk.2 (fun e he=>hg e (List.mem_append_right _ he))
  have e:bP bs (.agg c::r) hh is (aV (.agg c::r) ids2 nb m y)=(match cW c hh (aD c m y.1),bP bs r hh is (aV r ids2 nb (m+1) y.2) with
   |some x,some y=>some ((x,y):qI c×lZ r)
   |_,_=>none):=rfl
  rw[e]
  generalize cW c hh (aD c m y.1)=o1 at h1 ⊢
  generalize bP bs r hh is (aV r ids2 nb (m+1) y.2)=o2 at h2 ⊢
  subst h1;subst h2;rfl
end Go.Vs
namespace Go.Vs
variable {P:Program} {Z Z':Nat→Prop} {ψ ψ':Nat→Value} {h h':Hp} {w w':World} {B0:Nat} {O:Nat→Prop} {N:Nat→Prop}
def pN(g:aL)(x:g.A):Hp:=(bC g.bs (aO g.bs.length) 2000 x.2).get
def ke(g:aL)(y:g.B):Heap:=bC g.bs (aO g.bs.length) 2000 y.2++an g.rs 3000 y.1
def Ff(g:aL)(x:g.A):List AV:=(aT g.ps (aO g.bs.length) 0 x.1).map (·.2)
def D0(P:Program)(f:FuncId)(g:aL)(x:g.A)(y:g.B):Prop :=
 ∀(Z:Nat→Prop) (ψ0:Nat→Value) (w:World) (kJ:List Value),Good Z ψ0 (pN g x) w w.heap.size (Own ψ0 (pN g x))→ar Z ψ0 (pN g x) w (Ff g x) kJ →
  Calls P (f%1000) kJ.toArray w fun e w'=>∃v Z' ψ',e=.returned v∧(∀b,Z b→Z' b)∧(∀b,Z' b→Z b∨Own ψ0 (pN g x) b∨w.heap.size≤b)∧dh ψ0 (pN g x) w w' ∧
   Good Z' ψ' (ke g y).get w' w.heap.size (Own ψ0 (pN g x))∧(∀i∈aO g.bs.length,ψ' i=ψ0 i)∧aw Z' ψ' (ke g y).get w' (fC (aV g.rs (aO g.bs.length) 2000 3000 y.1)) v
theorem Fg{ψ:Nat→Value}{b:Nat}:¬Own ψ gG b:=fun⟨_,h,_⟩=>h rfl
theorem vq(ids:List Nat)(n:Nat)(x:wI []):bC [] ids n x=[]:=by cases ids<;>rfl
theorem D0.zero{f:FuncId}{g:aL}{x:g.A}{y:g.B}(hb:g.bs=[])(c:D0 P f g x y):Zd P f g x y:=by
 obtain⟨ps,bs,rs,_⟩:=g
 simp only at hb
 subst hb
 intro Z w kJ hz hr
 have e0:pN ⟨ps,[],rs,_⟩ x=gG:=by unfold pN;rw[vq];rfl
 have e1:ke ⟨ps,[],rs,_⟩ y=an rs 3000 y.1:=by unfold ke;rw[vq];rfl
 have hO:Own Jq gG=fun _=>False:=funext fun b=>propext ⟨Fg,False.elim⟩
 unfold D0 at c
 rw[e0,e1]at c
 refine(c Z Jq w kJ ⟨fun _ _ _ h=>(by cases h),fun _ _ _ h=>(by cases h),fun _ _ h=>absurd rfl h,fun _ _ _ h=>absurd rfl h,hz⟩ hr).mono fun e w' ⟨v,Z',ψ',h1,h2,h3,h4,h5,_,h6⟩=>?_
 exact⟨v,Z',ψ',h1,h2,fun b hb=>(h3 b hb).imp (fun h=>h) fun h=>h.resolve_left Fg,h4,by rw[hO]at h5;exact h5,h6⟩
theorem Hd{bs:List BK}{hh:Heap}{x:wI bs}(hd:de bs hh []=some x):bs=[]:=by
 cases bs with
 |nil=>rfl
 |cons b r=>cases hd
variable {Eqs:TypeId→Option K} {Sg:FuncId→Option aL} {F:(f:FuncId)→(g:aL)→g.A→Option g.B}
theorem He{a b:List Nat}(h:cm (a++b)=true):cm a=true:=by
 induction a with
 |nil=>rfl
 |cons i r ih =>
  obtain⟨h1,h2⟩:=mY h
  simp only[cm,Bool.and_eq_true,Bool.not_eq_true']
  refine⟨?_,ih h2⟩
  cases hc:r.contains i with
  |false=>rfl
  |true=>exact absurd (List.mem_append_left _ (List.contains_iff_mem.1 hc)) h1
theorem Good.Fh(g:Good Z ψ h w B0 O)(B:Nat):Good Z ψ h w B (Own ψ h) :=
 ⟨g.box,g.row,fun id b h1 h2=>⟨(g.live id b h1 h2).1,.inr ⟨id,h1,h2⟩⟩,g.apart,g.j5⟩
theorem ou:∀(l:List Nat) (hh:Heap) (i:Nat),(iu hh l).get i=if i∈l then none else hh.get i
 |[],hh,i=>by simp[iu]
 |j::r,hh,i=>by
  simp only[iu]
  rw[ou r (hh.del j) i]
  by_cases h1:i∈r
  ·simp[h1]
  ·by_cases h2:i=j
   ·subst h2;simp[Heap.gT]
   ·rw[Heap.iQ h2];simp[h1,h2]
theorem iB:∀(dw:List CK) (n:Nat) (x:qI dw),(aZ dw n x).map (·.1)=cw dw n
 |[],_,_=>rfl
 |.val k::r,n,x=>iB r (n+1) x.2
 |.own ok::r,n,x=>by simp only[aZ,cw,List.map_cons];rw[iB r (n+1) x.2]
theorem mn:∀(bs:List BK) (is:List Nat) (n:Nat) (x:wI bs),is.length=bs.length→(bC bs is n x).map (·.1)=cg bs is n
 |[],is,n,x,_=>by cases is<;>rfl
 |b::r,[],n,x,hl=>by simp at hl
 |b::r,i::is,n,x,hl=>by
  simp only[bC,cg,List.map_append]
  rw[mn r is (n+16) x.2 (by simpa using hl),←List.cons_append]
  congr 1
  cases b with
  |box ty c=>simp only[jz,List.map_cons,BK.dw];rw[iB]
  |own ok=>simp[jz,BK.dw,cw]
theorem fT:∀(rs:List RK) (m:Nat) (y:lZ rs),(an rs m y).map (·.1)=bD rs m
 |[],_,_=>rfl
 |.own ok::r,m,y=>by simp only[an,bD,List.map_cons];rw[fT r (m+1) y.2]
 |.val _::r,m,y=>fT r (m+1) y.2
 |.fg _ _::r,m,y=>fT r (m+1) y.2
 |.agg c::r,m,y=>by
  have e1:(aZ c m y.1).map (·.1)=cw c m:=iB c m y.1
  simp only[an,bD,List.map_append]
  rw[fT r (m+1) y.2]
  exact congrArg (·++_) e1
theorem pO:∀(dw:List CK) (n:Nat) (x:qI dw),fW dw (aD dw n x)=cw dw n
 |[],_,_=>rfl
 |.val k::r,n,x=>by
  have h2:(aD (.val k::r) n x).drop k.sz=aD r (n+1) x.2:=by simp only[aD];rw[←fK k x.1,List.drop_left]
  have e:fW (.val k::r) (aD (.val k::r) n x)=fW r ((aD (.val k::r) n x).drop k.sz):=by generalize aD (.val k::r) n x=l;cases l<;>rfl
  rw[e,h2,pO r (n+1) x.2];rfl
 |.own ok::r,n,x=>by simp only[aD,fW,o5,cw,List.cons_append,List.nil_append];rw[pO r (n+1) x.2]
theorem yH{hh:Heap}:∀(bs:List BK) (is:List Nat) (n:Nat) (x:wI bs),is.length=bs.length→(∀e∈bC bs is n x,hh.get e.1=some e.2)→dg bs hh is=cg bs is n
 |[],is,n,x,_,_=>by cases is<;>rfl
 |_::_,[],n,x,hl,_=>by simp at hl
 |b::r,i::is,n,x,hl,hg=>by
  simp only[bC]at hg
  simp only[dg,cg]
  rw[yH r is (n+16) x.2 (by simpa using hl) (fun e he=>hg e (List.mem_append_right _ he)),←List.cons_append]
  congr 1
  cases b with
  |box ty c =>
   simp only[ky,BK.dw]
   rw[hg (i,.box ty (aD c n x.1)) (List.mem_append_left _ (by simp only[jz];exact List.mem_cons_self))]
   simp only[]
   rw[pO]
  |own ok=>simp[ky,BK.dw,cw]
theorem kK:∀(rs:List RK) (ids:List Nat) (n m:Nat) (y:lZ rs),dV rs (aV rs ids n m y)=bD rs m
 |[],_,_,_,_=>rfl
 |.own ok::r,ids,n,m,y=>by simp only[aV,dV,bD,o5,List.cons_append,List.nil_append];rw[kK r ids n (m+1) y.2]
 |.val _::r,ids,n,m,y=>by simp only[aV,dV,bD];exact kK r ids n (m+1) y.2
 |.fg _ _::r,ids,n,m,y=>by simp only[aV,dV,bD];exact kK r ids n (m+1) y.2
 |.agg c::r,ids,n,m,y=>by
  have e1:fW c (aD c m y.1)=cw c m:=pO c m y.1
  simp only[aV,dV,bD,AV.cells]
  rw[kK r ids n (m+1) y.2]
  exact congrArg (·++_) e1
theorem mo:∀(rs:List RK) (ids:List Nat) (n m:Nat) (y:lZ rs) (id:Nat),AV.bO id∉gy rs (aV rs ids n m y)
 |[],_,_,_,_,_=>by simp[aV,gy]
 |.own ok::r,ids,n,m,y,id=>by simp only[aV,gy];exact mo r ids n (m+1) y.2 id
 |.val k::r,ids,n,m,y,id=>by
  simp only[aV,gy,List.mem_append]
  rintro(h|h)
  ·have e:(cv k y.1).cells=enc k y.1:=uq k y.1
   exact mj k y.1 id (e▸h)
  ·exact mo r ids n (m+1) y.2 id h
 |.fg _ _::r,ids,n,m,y,id=>by simp only[aV,gy];exact mo r ids n (m+1) y.2 id
 |.agg c::r,ids,n,m,y,id=>by
  simp only[aV,gy,AV.cells,List.mem_append]
  rintro(h|h)
  ·exact zT (hh:=[]) c m y.1 id h
  ·exact mo r ids n (m+1) y.2 id h
theorem MZ{gg:aL}{x:gg.A}{y:gg.B}{Pe:List Nat}{n3 eF:Nat→Value}{id:Nat}(hl:Pe.length=gg.bs.length)(WH:qL gg.bs gg.rs=true)(vt:cm (qJ gg)=true)
  (Bc:cm (cg gg.bs Pe id++bD gg.rs (id+128))=true) (Pf:Good Z' eF (ke gg y).get w' w.heap.size (Own n3 (pN gg x)))
  {v:Value} (aec:aw Z' eF (ke gg y).get w' (fC (aV gg.rs (aO gg.bs.length) 2000 3000 y.1)) v) :
  ∃L2:List yz,dH L2=bC gg.bs Pe id y.2++an gg.rs (id+128) y.1∧L2.map (·.1)=cg gg.bs Pe id++bD gg.rs (id+128) ∧
   Good Z' (fh eF L2) (dH L2).get w' w.heap.size (Own n3 (pN gg x))∧(∀p∈(aO gg.bs.length).zip Pe,fh eF L2 p.2=eF p.1) ∧
   aw Z' (fh eF L2) (dH L2).get w' (fC (aV gg.rs Pe id (id+128) y.1)) v:=by
 have hle:(aO gg.bs.length).length=gg.bs.length:=by simp[aO]
 have hn2:cm ((ke gg y).map (·.1))=true:=by
  unfold ke
  rw[List.map_append,mn _ _ _ _ hle,fT];exact vt
 have SV:∀e∈bC gg.bs (aO gg.bs.length) 2000 y.2,(ke gg y).get e.1=some e.2:=fun e he=>w8 hn2 (by unfold ke;exact List.mem_append_left _ he)
 have hgr:∀e∈an gg.rs 3000 y.1,(ke gg y).get e.1=some e.2:=fun e he=>w8 hn2 (by unfold ke;exact List.mem_append_right _ he)
 have vj:=yF gg.bs _ 2000 y.2 hle SV
 have TA:=ml (xb:=y.2) hle SV gg.rs (aO gg.bs.length) 3000 y.1 WH hgr
 let vsC:=aV gg.rs (aO gg.bs.length) 2000 3000 y.1
 let L2:List yz:=cI gg.bs (ke gg y) (aO gg.bs.length) Pe id y.2++cM gg.rs vsC (id+128) y.1
 have eH:dH L2=bC gg.bs Pe id y.2++an gg.rs (id+128) y.1:=by
  show dH (_++_)=_
  rw[m0,jC _ _ _ _ _ _ vj hl,gV]
 have eN:L2.map (·.1)=cg gg.bs Pe id++bD gg.rs (id+128):=by
  show(_++_:List yz).map _=_
  rw[List.map_append,iy _ _ _ _ _ _ vj hl,fS]
 have eS:L2.filterMap (·.2.1)=qJ gg:=by
  show(_++_:List yz).filterMap _=_
  rw[List.filterMap_append,kH _ _ _ _ _ _ vj hl,jh _ _ _ _ TA,yH _ _ 2000 y.2 hle SV,kK];rfl
 have hn:cm (L2.map (·.1))=true:=by rw[eN];exact Bc
 have jx:=zP (ψ:=eF) hn
 have g3:Good Z' (fh eF L2) (dH L2).get w' w.heap.size (Own n3 (pN gg x)):=by
  refine Pf.rename hn (by rw[eS];exact vt) fun e he=>?_
  rcases List.mem_append.1 he with he|he
  ·exact mg Pf (fun _ h=>h) gg.bs _ _ id y.2 vj (fun i b bT _ _=>(Bb gg.bs _ 2000 y.2 i SV bT).elim) (fun s _=>rfl) (fun e he=>jx e (List.mem_append_left _ he)) e he
  ·exact kd gg.rs vsC (id+128) y.1 TA (fun s _=>rfl) e he
 refine⟨L2,eH,eN,g3,fun p hp=>?_,?_⟩
 ·obtain⟨o,ho⟩:=kI (hh:=ke gg y) gg.bs (aO gg.bs.length) Pe id y.2 hle p hp
  exact jg hn (List.mem_append_left _ ho)
 ·refine um (by rw[kA,kA]) (fun vs tZ=>?_) aec
  exact sE (nb:=id) (is':=Pe) Pf (fun _ h=>h) vj hl (fun e he=>jx e (List.mem_append_left _ he)) gg.rs vsC (id+128) y.1 vs TA (fun i b bT _ _=>(mo gg.rs _ _ _ y.1 i bT).elim) (fun e he=>jx e (List.mem_append_right _ he)) tZ
theorem M0{hh:Heap}{lf:List AV}{kept:List Nat}{jS:Hp}{n3 Pg:Nat→Value}{H2:Heap}(g:Good Z ψ hh.get w B0 O)(hB:B0≤w.heap.size)(D2:∀s∈kept,(cS hh lf).get s=hh.get s)
  (bu:∀i ty cs,hh.get i=some (.box ty cs)→aE (fun i=>¬N i) cs) (ub:∀b,Own n3 jS b→∃s,s∈kept∧hh.get s≠none∧ob (ψ s)=some b)
  (hz:∀b,qG Z ψ hh.get lf b→Z' b) (AG:∀b,Z' b→qG Z ψ hh.get lf b∨Own n3 jS b∨w.heap.size≤b) (keep:dh n3 jS w w') (g3:Good Z' Pg H2.get w' w.heap.size (Own n3 jS))
  (Ox:∀i ty cs,H2.get i=some (.box ty cs)→aE (fun j=>H2.get j≠none) cs) (tc:∀i,H2.get i≠none→(i∈kept∧hh.get i≠none∧Pg i=ψ i)∨N i) :
  ∃Be,(∀i,H2.get i≠none→Be i=Pg i)∧Next Z ψ hh.get w B0 O N Z' Be (H2++iu (cS hh lf) kept).get w':=by
 classical
 let Be:Nat→Value:=fun i=>if H2.get i≠none then Pg i else ψ i
 have h4:∀i,H2.get i≠none→Be i=Pg i:=fun i hi=>if_pos hi
 have hg:∀i,(H2++iu (cS hh lf) kept).get i=(match H2.get i with|some o=>some o|none=>if i∈kept then none else(cS hh lf).get i):=fun i=>by rw[Heap.get_append,ou];cases H2.get i<;>rfl
 have De:∀i,H2.get i≠none→(H2++iu (cS hh lf) kept).get i=H2.get i:=fun i hi=>by
  rw[hg];cases e:H2.get i with
  |none=>exact absurd e hi
  |some o=>rfl
 have yI:∀i,H2.get i=none→(H2++iu (cS hh lf) kept).get i≠none→i∉kept∧(H2++iu (cS hh lf) kept).get i=hh.get i∧(cS hh lf).get i=hh.get i∧Be i=ψ i∧hh.get i≠none:=fun i hi bp=>by
  rw[hg,hi]at bp ⊢
  simp only at bp ⊢
  by_cases hk:i∈kept
  ·rw[if_pos hk]at bp;exact absurd rfl bp
  ·rw[if_neg hk]at bp ⊢
   obtain⟨o,ho⟩:=Option.ne_none_iff_exists'.1 bp
   have:=eJ _ _ _ _ ho
   exact⟨hk,by rw[ho,this],by rw[ho,this],if_neg (by simp[hi]),by rw[this];simp⟩
 have TB:∀i b,i∉kept→hh.get i≠none→ob (ψ i)=some b→¬Own n3 jS b:=fun i b hk hi hb ho=>by
  obtain⟨s,h1,h2,h3⟩:=ub b ho
  exact hk ((g.apart i s b hi h2 hb h3)▸h1)
 have gd:Good (qG Z ψ hh.get lf) ψ (cS hh lf).get w B0 O:=iR g lf
 have Zn:∀b,qG Z ψ hh.get lf b→¬Own n3 jS b:=fun b hb ho=>by
  obtain⟨s,h1,h2,h3⟩:=ub b ho
  exact(gd.live s b (by rw[D2 s h1];exact h2) h3).1 hb
 have sm:cG (qG Z ψ hh.get lf) w w':=fun b hb=>keep.block b (gd.j5 b hb) (Zn b hb)
 have Zo:∀i,(H2++iu (cS hh lf) kept).get i≠none→(hh.get i≠none∧Be i=ψ i)∨N i:=fun i hi=>by
  by_cases h2:H2.get i=none
  ·obtain⟨_,_,_,h3,h5⟩:=yI i h2 hi
   exact .inl ⟨h5,h3⟩
  ·rcases tc i h2 with⟨_,h3,h5⟩|h3
   ·exact .inl ⟨h3,(h4 i h2).trans h5⟩
   ·exact .inr h3
 have kk:dh ψ hh.get w w':=⟨keep.os,keep.tape,keep.output,keep.size,fun b hb qA=>keep.block b hb fun ho=>by
  obtain⟨s,_,h2,h3⟩:=ub b ho
  exact qA ⟨s,h2,h3⟩⟩
 refine⟨Be,h4,fun b hb=>hz b (.inl hb),fun b hb=>?_,kk,Zo,⟨fun i ty cs hb=>?_,fun i ok xs hb=>?_,fun i b h1 h2=>?_,fun i i' b h1 h2 h3 h5=>?_,g3.j5⟩⟩
 ·rcases AG b hb with h1|h1|h1
  ·exact(h1.imp (fun h=>h) fun⟨i,_,h2,h3⟩=>.inl ⟨i,h2,h3⟩)
  ·obtain⟨s,_,h2,h3⟩:=ub b h1
   exact .inr (.inl ⟨s,h2,h3⟩)
  ·exact .inr (.inr h1)
 ·by_cases h2:H2.get i=none
  ·obtain⟨h3,h5,h6,h7,h8⟩:=yI i h2 (by rw[hb];simp)
   rw[h5]at hb
   obtain⟨gg,vs,e1,e2,e3,e4⟩:=gd.box i ty cs (by rw[h6];exact hb)
   have aM:=(Array.getElem?_eq_some_iff.1 e2).1
   refine⟨gg,vs,by rw[h7,e1],?_,?_,e4⟩
   ·rw[keep.block gg aM (TB i gg h3 h8 (by rw[e1];rfl))];exact e2
   ·refine e3.move (p:=fun i=>¬N i) hz sm (fun j hp hj=>?_) (bu i ty cs hb)
    by_cases h9:H2.get j=none
    ·obtain⟨_,_,mN,zm,Jo⟩:=yI j h9 hj
     exact⟨by rw[mN];exact Jo,zm⟩
    ·rcases tc j h9 with⟨mN,zm,Jo⟩|mN
     ·exact⟨by rw[D2 j mN];exact zm,(h4 j h9).trans Jo⟩
     ·exact absurd mN hp
  ·rw[De i h2]at hb
   obtain⟨gg,vs,e1,e2,e3,e4⟩:=g3.box i ty cs hb
   exact⟨gg,vs,by rw[h4 i h2,e1],e2,e3.move (p:=fun j=>H2.get j≠none) (fun _ h=>h) (cG.refl _ _) (fun j hp _=>⟨hp,h4 j hp⟩) (Ox i ty cs hb),e4⟩
 ·by_cases h2:H2.get i=none
  ·obtain⟨h3,h5,h6,h7,h8⟩:=yI i h2 (by rw[hb];simp)
   rw[h5]at hb
   rw[h7]
   exact(gd.row i ok xs (by rw[h6];exact hb)).kept hz sm fun gg MD=>keep.block gg (g.bX ⟨i,h8,MD⟩) (TB i gg h3 h8 MD)
  ·rw[De i h2]at hb
   rw[h4 i h2]
   exact g3.row i ok xs hb
 ·by_cases h3:H2.get i=none
  ·obtain⟨h5,h6,h7,h8,h9⟩:=yI i h3 h1
   rw[h8]at h2
   obtain⟨mN,zm⟩:=gd.live i b (by rw[h7];exact h9) h2
   refine⟨fun YZ=>?_,zm⟩
   rcases AG b YZ with Jo|Jo|Jo
   ·exact mN Jo
   ·exact TB i b h5 h9 h2 Jo
   ·have:=g.bX ⟨i,h9,h2⟩;omega
  ·rw[h4 i h3]at h2
   obtain⟨h5,h6⟩:=g3.live i b h3 h2
   refine⟨h5,?_⟩
   rcases h6 with h6|h6
   ·exact .inl (by omega)
   ·obtain⟨s,_,h7,h8⟩:=ub b h6
    exact(g.live s b h7 h8).2
 ·have yp:∀i i',H2.get i=none→H2.get i'≠none→(H2++iu (cS hh lf) kept).get i≠none→ob (Be i)=some b→ob (Be i')=some b→False:=fun i i' e1 e2 e3 e4 e5=>by
   obtain⟨h6,_,_,h8,h9⟩:=yI i e1 e3
   rw[h8]at e4;rw[h4 i' e2]at e5
   rcases (g3.live i' b e2 e5).2 with mN|mN
   ·have:=g.bX ⟨i,h9,e4⟩;omega
   ·exact TB i b h6 h9 e4 mN
  by_cases e1:H2.get i=none<;>by_cases e2:H2.get i'=none
  ·obtain⟨_,_,_,h8,h9⟩:=yI i e1 h1
   obtain⟨_,_,_,h8',h9'⟩:=yI i' e2 h2
   rw[h8]at h3;rw[h8']at h5
   exact g.apart i i' b h9 h9' h3 h5
  ·exact(yp i i' e1 e2 h1 h3 h5).elim
  ·exact(yp i' i e2 e1 h2 h5 h3).elim
  ·rw[h4 i e1]at h3;rw[h4 i' e2]at h5
   exact g3.apart i i' b e1 e2 h3 h5
theorem zU{i:Nat}{o:Ob}:∀{hh:Heap},(i,o)∈hh→hh.get i≠none
 |[],h=>by cases h
 |(j,o')::r,h=>by
  simp only[Heap.get]
  split
  ·simp
  ·rename_i hn
   rcases List.mem_cons.1 h with e|h
   ·cases e;exact absurd rfl hn
   ·exact zU h
theorem get_mem{i:Nat}{o:Ob}:∀{hh:Heap},hh.get i=some o→(i,o)∈hh
 |[],h=>by simp[Heap.get]at h
 |(j,o')::r,h=>by
  simp only[Heap.get]at h
  split at h
  ·rename_i e;subst e;cases h;exact List.mem_cons_self
  ·exact List.mem_cons_of_mem _ (get_mem h)
theorem pP{p:Nat→Prop}:∀{a b:List AV},aE p a→aE p b→aE p (a++b)
 |[],b,_,h=>h
 |x::r,b,h,h'=>by simp only[List.cons_append,aE]at h ⊢;exact⟨h.1,pP h.2 h'⟩
theorem kB{p:Nat→Prop}:∀(dw:List CK) (n:Nat) (x:qI dw),(∀e∈aZ dw n x,p e.1)→aE p (aD dw n x)
 |[],n,x,_=>by simp only[aD,aE]
 |.val k::r,n,x,h=>by simp only[aD];exact pP (mi p k x.1) (kB r (n+1) x.2 h)
 |.own ok::r,n,x,h=>by
  simp only[aZ]at h
  simp only[aD,aE,aK]
  exact⟨h _ List.mem_cons_self,kB r (n+1) x.2 fun e he=>h e (List.mem_cons_of_mem _ he)⟩
theorem nc:∀(dw:List CK) (n:Nat) (x:qI dw) (i:Nat) (ty:TypeId) (cs:List AV),(i,Ob.box ty cs)∉aZ dw n x
 |[],_,_,_,_,_=>by simp[aZ]
 |.val k::r,n,x,i,ty,cs=>nc r (n+1) x.2 i ty cs
 |.own _::r,n,x,i,ty,cs=>by
  simp only[aZ,List.mem_cons,not_or]
  exact⟨by simp,nc r (n+1) x.2 i ty cs⟩
theorem tC{p:Nat→Prop}:∀(bs:List BK) (is:List Nat) (n:Nat) (x:wI bs),(∀e∈bC bs is n x,p e.1)→∀i ty cs,(i,Ob.box ty cs)∈bC bs is n x→aE p cs
 |[],is,n,x,_,i,ty,cs,h=>by cases is<;>simp[bC]at h
 |b::r,[],n,x,_,i,ty,cs,h=>by simp[bC]at h
 |b::r,i0::is,n,x,hp,i,ty,cs,h=>by
  simp only[bC]at h hp
  rcases List.mem_append.1 h with h|h
  ·cases b with
   |box ty0 c0 =>
    simp only[jz]at h hp
    rcases List.mem_cons.1 h with e|h
    ·cases e
     exact kB c0 n x.1 fun e he=>hp e (List.mem_append_left _ (List.mem_cons_of_mem _ he))
    ·exact absurd h (nc _ _ _ _ _ _)
   |own ok=>simp[jz]at h
  ·exact tC r is (n+16) x.2 (fun e he=>hp e (List.mem_append_right _ he)) i ty cs h
theorem ng:∀(dw:List CK) (n i:Nat),i∈cw dw n→n≤i∧i<n+dw.length
 |[],n,i,h=>by simp[cw]at h
 |.val k::r,n,i,h=>by
  have:=ng r (n+1) i (by simpa[cw] using h)
  simp only[List.length_cons];omega
 |.own ok::r,n,i,h=>by
  simp only[cw]at h
  simp only[List.length_cons]
  rcases List.mem_cons.1 h with rfl|h
  ·omega
  ·have:=ng r (n+1) i h;omega
theorem vu:∀(bs:List BK) (is:List Nat) (n i:Nat),(bs.all fun b=>decide (b.dw.length≤16))=true→i∈cg bs is n→i∈is∨(n≤i∧i<n+16*bs.length)
 |[],is,n,i,_,h=>by cases is<;>simp[cg]at h
 |b::r,[],n,i,_,h=>by simp[cg]at h
 |b::r,i0::is,n,i,hc,h=>by
  simp only[List.all_cons,Bool.and_eq_true,decide_eq_true_eq]at hc
  simp only[cg]at h
  simp only[List.length_cons]
  rcases List.mem_cons.1 h with rfl|h
  ·exact .inl List.mem_cons_self
  ·rcases List.mem_append.1 h with h|h
   ·have:=ng _ _ _ h;exact .inr (by omega)
   ·rcases vu r is (n+16) i hc.2 h with h1|h1
    ·exact .inl (List.mem_cons_of_mem _ h1)
    ·exact .inr (by omega)
theorem jG{bs:List BK}:∀(rs:List RK) (m i:Nat),qL bs rs=true→i∈bD rs m→m≤i∧i<m+rs.length+16
 |[],m,i,_,h=>by simp[bD]at h
 |.own ok::r,m,i,hk,h=>by
  simp only[qL,List.all_cons,Bool.and_eq_true]at hk
  simp only[bD]at h
  simp only[List.length_cons]
  rcases List.mem_cons.1 h with rfl|h
  ·omega
  ·have:=jG r (m+1) i hk.2 h;omega
 |.val _::r,m,i,hk,h=>by
  simp only[qL,List.all_cons,Bool.and_eq_true]at hk
  have:=jG r (m+1) i hk.2 (by simpa[bD] using h)
  simp only[List.length_cons];omega
 |.fg _ _::r,m,i,hk,h=>by
  simp only[qL,List.all_cons,Bool.and_eq_true]at hk
  have:=jG r (m+1) i hk.2 (by simpa[bD] using h)
  simp only[List.length_cons];omega
 |.agg c::r,m,i,hk,h=>by
  simp only[qL,List.all_cons,Bool.and_eq_true,Db,decide_eq_true_eq]at hk
  simp only[bD]at h
  simp only[List.length_cons]
  rcases List.mem_append.1 h with h|h
  ·have:=ng c m i h;omega
  ·have:=jG r (m+1) i hk.2 h;omega
theorem yJ{hh:Heap}:∀(bs:List BK) (is:List Nat) (i:Nat),is.length=bs.length→i∈is→i∈dg bs hh is
 |[],is,i,hl,h=>by cases is with
  |nil=>cases h
  |cons a r=>simp at hl
 |b::r,[],i,_,h=>by cases h
 |b::r,i0::is,i,hl,h=>by
  simp only[dg]
  rcases List.mem_cons.1 h with rfl|h
  ·refine List.mem_append_left _ ?_
   cases b<;>simp[ky]
  ·exact List.mem_append_right _ (yJ r is i (by simpa using hl) h)
theorem Ph{α β:Type}:∀{a:List α} {b:List β},a.length=b.length→∀x∈a,∃y,(x,y)∈a.zip b∧(y,x)∈b.zip a
 |[],b,_,x,h=>by cases h
 |a::r,[],hl,x,_=>by simp at hl
 |a::r,c::q,hl,x,h=>by
  simp only[List.zip_cons_cons]
  rcases List.mem_cons.1 h with rfl|h
  ·exact⟨c,List.mem_cons_self,List.mem_cons_self⟩
  ·obtain⟨y,h1,h2⟩:=Ph (a:=r) (b:=q) (by simpa using hl) x h
   exact⟨y,List.mem_cons_of_mem _ h1,List.mem_cons_of_mem _ h2⟩
theorem ux:∀(dw:List CK) (n c:Nat),gk dw c=true→n+c∈cw dw n
 |[],n,c,h=>by simp[gk]at h
 |.own _::r,n,0,_=>by simp[cw]
 |.own _::r,n,c+1,h=>by
  simp only[gk]at h
  have:=ux r (n+1) c h
  simp only[cw]
  exact List.mem_cons_of_mem _ (by rwa [show n+(c+1)=n+1+c by omega])
 |.val _::r,n,0,h=>by simp[gk]at h
 |.val _::r,n,c+1,h=>by
  simp only[gk]at h
  have:=ux r (n+1) c h
  simp only[cw]
  rwa [show n+(c+1)=n+1+c by omega]
theorem yK:∀(bs:List BK) (is:List Nat) (n b i:Nat) (bk:BK),is.length=bs.length→bs[b]? = some bk→i∈cw bk.dw (n+16*b)→i∈cg bs is n
 |[],_,_,b,_,_,_,h,_=>by simp at h
 |_::_,[],_,_,_,_,hl,_,_=>by simp at hl
 |b0::r,i0::is,n,0,i,bk,hl,hb,hi=>by
  simp only[List.getElem?_cons_zero,Option.some.injEq]at hb
  subst hb
  simp only[cg]
  exact List.mem_cons_of_mem _ (List.mem_append_left _ (by simpa using hi))
 |b0::r,i0::is,n,b+1,i,bk,hl,hb,hi=>by
  simp only[List.getElem?_cons_succ]at hb
  simp only[cg]
  refine List.mem_cons_of_mem _ (List.mem_append_right _ (yK r is (n+16) b i bk (by simpa using hl) hb ?_))
  rwa [show n+16+16*b=n+16*(b+1) by omega]
theorem kL{p:Nat→Prop}{bs:List BK}{is:List Nat}(hl:is.length=bs.length):∀(rs:List RK) (ids:List Nat) (n m:Nat) (y:lZ rs),qL bs rs=true→(∀i∈bD rs m,p i)→(∀i∈cg bs is n,p i)→aE p (aV rs ids n m y)
 |[],_,_,_,_,_,_,_=>by simp only[aV,aE]
 |.val k::r,ids,n,m,y,hr,h1,h2=>by
  simp only[qL,List.all_cons,Bool.and_eq_true,Db]at hr
  simp only[aV,aE]
  exact⟨ot p k y.1,kL hl r ids n (m+1) y.2 hr.2 (fun i hi=>h1 i hi) h2⟩
 |.own _::r,ids,n,m,y,hr,h1,h2=>by
  simp only[qL,List.all_cons,Bool.and_eq_true,Db]at hr
  simp only[aV,aE,aK]
  exact⟨h1 m (by simp[bD]),kL hl r ids n (m+1) y.2 hr.2 (fun i hi=>h1 i (by simp only[bD];exact List.mem_cons_of_mem _ hi)) h2⟩
 |.fg b alts::r,ids,n,m,y,hr,h1,h2=>by
  simp only[qL,List.all_cons,Bool.and_eq_true,Db]at hr
  simp only[aV,aE]
  refine⟨?_,kL hl r ids n (m+1) y.2 hr.2 (fun i hi=>h1 i hi) h2⟩
  cases hy:y.1 with
  |none=>simp only[uR,aK]
  |some p =>
   obtain⟨al,i⟩:=p
   simp only[uR,aK]
   cases hb:bs[b]? with
   |none=>rw[hb]at hr;exact absurd hr.1 (by simp)
   |some bk =>
    rw[hb]at hr
    simp only[Bool.and_eq_true]at hr
    exact h2 _ (yK bs is n b _ bk hl hb (ux bk.dw (n+16*b) _ (List.all_eq_true.1 hr.1.1 _ (List.get_mem alts al))))
 |.agg c::r,ids,n,m,y,hr,h1,h2=>by
  simp only[qL,List.all_cons,Bool.and_eq_true,Db]at hr
  simp only[aV,aE,aK]
  refine⟨kB c m y.1 fun e he=>h1 _ ?_,kL hl r ids n (m+1) y.2 hr.2 (fun i hi=>h1 i (by simp only[bD];exact List.mem_append_right _ hi)) h2⟩
  simp only[bD]
  have e1:(aZ c m y.1).map (·.1)=cw c m:=iB c m y.1
  exact List.mem_append_left _ (e1▸List.mem_map.2 ⟨e,he,rfl⟩)
theorem JX{p:Nat→Prop}{vs:List AV}(h:aE p vs):aK p (fC vs):=by
 match vs,h with
 |[],h=>simp only[fC,aK];exact h
 |[v],h=>simp only[fC];simp only[aE]at h;exact h.1
 |_::_::_,h=>simp only[fC,aK];exact h
def iU(P:Program)(f:FuncId)(u:Heap→Nat→List AV→Option (Bool×bK)):Prop :=
 ∀{Z:Nat→Prop} {ψ:Nat→Value} {h:Hp} {w:World} {B0:Nat} {O N:Nat→Prop} {hh:Heap} {id:Nat} {e:bK} {vs:List AV} {us:List Value},
  Good Z ψ h w B0 O→B0≤w.heap.size→(∀id o,hh.get id=some o→h id=some o)→(∀j,j<256→N (id+j))→(∀i ty cs,h i=some (.box ty cs)→aE (fun i=>¬N i) cs)→(∀v hw,e=.wr v hw→hh.get=h) →
  ar Z ψ h w vs us→aE (fun i=>¬N i) vs→u hh id vs=some (true,e) →
  Calls P f us.toArray w fun en w'=>∃V Z' ψ',en=.returned V∧Next Z ψ h w B0 O N Z' ψ' (e.hp h) w'∧aw Z' ψ' (e.hp h) w' e.v V
theorem TC{R:Type}{n:Nat}(a:Fin n)(f:Fin n→Option R):YX n a f=f a:=by
 have key:∀l:List (Fin n),a∈l→l.foldr (fun j r=>cond (a.val==j.val) (f j) r) none=f a:=by
  intro l
  induction l with
  |nil=>intro h;cases h
  |cons j r ih =>
   intro h
   simp only[List.foldr_cons]
   by_cases e:a=j
   ·subst e;simp
   ·have:(a.val==j.val)=false:=by simp only[beq_eq_false_iff_ne,ne_eq];exact fun h=>e (Fin.ext h)
    rw[this,cond_false]
    rcases List.mem_cons.1 h with h|h
    ·exact absurd h e
    ·exact ih h
 exact key _ (List.mem_finRange a)
theorem ji{R:Type}:∀(rs:List RK) (x:lZ rs) (K:lZ rs→Option R),j0 rs x K=K x
 |[],_,_=>rfl
 |.val _::r,x,K=>by simp only[j0];rw[ji r x.2];rfl
 |.own _::r,x,K=>by simp only[j0];rw[ji r x.2];rfl
 |.agg _::r,x,K=>by simp only[j0];rw[ji r x.2];rfl
 |.fg _ alts::r,x,K=>by
  simp only[j0]
  obtain⟨x1,x2⟩:=x
  cases x1 with
  |none=>simp only[qM];rw[ji r x2]
  |some p=>simp only[qM];rw[TC,ji r x2]
theorem JY(hX:∀f g u,Sg f=some g→g.x=some u→iU P (f%1000) u)(hF:∀f g x y,Sg f=some g→F f g x=some y→D0 P f g x y)(M1:∀f g,Sg f=some g→jE P (f%1000))
  {hh:Heap} {ρC:Operand→Value} {o:Oper} (g:Good Z ψ h w B0 O) (hB:B0≤w.heap.size) (bz:∀id o,hh.get id=some o→h id=some o) {id:Nat} (hN:∀j,j<256→N (id+j)) {e:bK}
  (bu:∀i ty cs,h i=some (.box ty cs)→aE (fun i=>¬N i) cs) (mW:∀v hw,e=.wr v hw→hh.get=h) {f:FuncId} {cap vs:List AV} {fv:Value} {us:List Value}
  (TD:aw Z ψ h w (.fn f cap) fv) (tZ:ar Z ψ h w vs us) (Fa:aE (fun i=>¬N i) (vs++cap)) (hex:∀(ws:Array Value),fv=.func (.func f) #[] ws→execOp ρC o=callFunc f (us.toArray++ws))
  (he:jA Sg F hh id f (vs++cap) some=some e):Vl P ρC o Z ψ h w B0 O N e:=by
 unfold jA at he
 split at he
 ·cases he
 rename_i gg hSg
 simp only[aw]at TD
 obtain⟨ws,rfl,Pj⟩:=TD
 have D3:=M1 _ _ hSg
 have lz:ar Z ψ h w (vs++cap) (us++ws.toList):=ar.append tZ Pj
 have Fi:ar Z ψ hh.get w (vs++cap) (us++ws.toList):=lz.qz bz
 have gs:Good Z ψ hh.get w B0 O:=g.sub bz
 have Pk:us.toArray++ws=(us++ws.toList).toArray:=by simp
 split at he
 ·rename_i u hu
  split at he
  ·rename_i hf
   obtain⟨⟨b,e'⟩,Zp,SM⟩:=Option.bind_eq_some_iff.1 he
   cases b with
   |false=>cases SM
   |true =>
   cases SM
   have Hf:keyOf Sg f (vs++cap)%1000=f:=by rw[w4];exact Nat.mod_eq_of_lt hf
   have hx:iU P f u:=by rw[←Hf];exact hX _ _ _ hSg hu
   rw[Hf]at D3
   refine⟨f,us.toArray++ws,by rw[hex ws rfl];exact jF D3 _,?_⟩
   rw[Pk]
   exact hx g hB bz hN bu mW lz Fa Zp
  ·cases he
 split at he
 ·rename_i i0 tc Fj
  split at he
  ·rename_i M3
   simp only[Bool.and_eq_true,List.isEmpty_iff]at M3
   obtain⟨rfl,_⟩:=M3
   split at he
   rotate_left
   ·cases he
   rename_i x b hx hb qY
   obtain⟨y,hy,he⟩:=Option.bind_eq_some_iff.1 he
   simp only[OJ,Bool.and_eq_true,decide_eq_true_eq]at Fj
   obtain⟨_,_,⟨hlen,hf⟩,_⟩:=Fj
   have Di:=(hF _ _ _ _ hSg hy).zero (Hd hb)
   have Hf:keyOf Sg f (vs++cap)%1000=f:=by rw[w4];exact Nat.mod_eq_of_lt hf
   rw[Hf]at D3
   have hN':∀j,j<gg.rs.length+16→N (id+128+j):=fun j hj=>by rw[Nat.add_assoc];exact hN _ (by omega)
   refine⟨f,us.toArray++ws,by rw[hex ws rfl];exact jF D3 _,?_⟩
   rw[Pk]
   unfold Zd at Di
   rw[Hf]at Di
   by_cases qA:qK (vs++cap)=true
   ·rw[qA,Bool.or_true]at he
    cases he
    have h1:ar Z Jq gG w (DX gg x) (us++ws.toList):=A6 gs (fun _ h=>h) gg.ps 0 _ _ x (fun v hv i b hi _ _=>(qZ qA v hv i hi).elim) tc hx Fi
    refine(Di Z w _ g.j5 h1).mono fun en w' ⟨v,Z',ψ',e1,h2,h3,h4,h5,h6⟩=>?_
    obtain⟨uu,n,hr⟩:=w5 (nb:=id) qY g hB bu hN' h4 h2 h3 h5 h6
    exact⟨v,Z',uu,e1,n,hr⟩
   ·cases hfl:gg.rs.all RK.flat with
    |true =>
     rw[hfl,Bool.true_or]at he
     cases he
     let Zc:Nat→Prop:=fun b=>b<w.heap.size
     have h1:ar Zc Jq gG w (DX gg x) (us++ws.toList):=A6 gs g.j5 gg.ps 0 _ _ x (fun v hv i b hi h1 h2=>gs.bX ⟨i,h1,h2⟩) tc hx Fi
     refine(Di Zc w _ (fun _ h=>h) h1).mono fun en w' ⟨v,Z',ψ',e1,h2,h3,h4,h5,h6⟩=>?_
     have Zq:=MU gg.rs 3000 y.1 hfl qY
     have h7:aw Z ψ' (an gg.rs 3000 y.1).get w' (fC (aV gg.rs [] 2000 3000 y.1)) v:=um rfl (fun vs tZ=>Pb gg.rs hfl qY tZ) h6
     have gz:Good Z ψ' (an gg.rs 3000 y.1).get w' w.heap.size (fun _=>False):=by
      rw[Zq]
      exact⟨fun _ _ _ hb=>by simp[Heap.get]at hb,fun _ _ _ hb=>by simp[Heap.get]at hb,fun _ _ hb=>by simp[Heap.get]at hb,fun _ _ _ hb=>by simp[Heap.get]at hb,fun b hb=>Nat.lt_of_lt_of_le (g.j5 b hb) h4.size⟩
     obtain⟨uu,n,hr⟩:=w5 (nb:=id) qY g hB bu hN' h4 (fun _ h=>h) (fun _ h=>.inl h) gz h7
     exact⟨v,Z,uu,e1,n,hr⟩
    |false =>
     rw[hfl,Bool.false_or,Bool.eq_false_iff.2 qA]at he
     cases he
     have heq:=mW _ _ rfl
     subst heq
     let cs:=du gg.ps (vs++cap)
     have Tp:∀b,qG Z ψ hh.get cs b→Z b∨Own ψ hh.get b:=fun b hb=>hb.imp (fun h=>h) (fun⟨i,_,h2,h3⟩=>⟨i,h2,h3⟩)
     have gd:Good (qG Z ψ hh.get cs) ψ (cS hh cs).get w B0 O:=iR g cs
     have h1:ar (qG Z ψ hh.get cs) Jq gG w (DX gg x) (us++ws.toList) :=
      A6 gs (fun _ h=>.inl h) gg.ps 0 _ _ x (fun v hv i b hi h1 h2=>.inr ⟨i,vo _ _ tc v hv i hi,h1,h2⟩) tc hx Fi
     refine(Di _ w _ gd.j5 h1).mono fun en w' ⟨v,Z',ψ',e1,h2,h3,h4,h5,h6⟩=>?_
     obtain⟨uu,n,hr⟩:=w5 (nb:=id) qY gd hB (fun i ty cs hb=>bu i ty cs (eJ _ _ _ _ hb)) hN' h4 h2 h3 h5 h6
     have e2:(bK.wr (fC (aV gg.rs [] id (id+128) y.1)) (an gg.rs (id+128) y.1++cS hh (du gg.ps (vs++cap)))).hp hh.get=(fun i=>match (an gg.rs (id+128) y.1).get i with|some o=>some o|none=>(cS hh cs).get i):=by
      funext i
      simp only[bK.hp]
      rw[Heap.get_append]
      cases (an gg.rs (id+128) y.1).get i<;>rfl
     rw[e2]
     exact⟨v,Z',uu,e1,n.drop (fun _ h=>.inl h) Tp (eJ _ _),hr⟩
  ·split at he
   rotate_left
   ·cases he
   rename_i x b hx hb Dk
   obtain⟨y,hy,he⟩:=Option.bind_eq_some_iff.1 he
   rw[ji]at he
   cases he
   have heq:=mW _ _ rfl
   subst heq
   simp only[OJ,Bool.and_eq_true,decide_eq_true_eq]at Fj
   obtain⟨WH,⟨hbl,uM⟩,⟨hlen,hf⟩,vt⟩:=Fj
   rw[Bool.and_eq_true]at Dk
   have Di:=hF _ _ _ _ hSg hy
   have Hf:keyOf Sg f (vs++cap)%1000=f:=by rw[w4];exact Nat.mod_eq_of_lt hf
   rw[Hf]at D3
   refine⟨f,us.toArray++ws,by rw[hex ws rfl];exact jF D3 _,?_⟩
   rw[Pk]
   unfold D0 at Di
   rw[Hf]at Di
   have hl:i0.length=gg.bs.length:=(jD _ _ _ hb).1
   have vv:=(jD _ _ _ hb).2
   have hle:(aO gg.bs.length).length=gg.bs.length:=by simp[aO]
   let lf:=du gg.ps (vs++cap)++gx gg.bs hh i0
   let L1:List yz:=cI gg.bs hh i0 (aO gg.bs.length) 2000 b
   have eH1:dH L1=bC gg.bs (aO gg.bs.length) 2000 b:=jC _ _ _ _ _ _ hb hle
   have eN1:L1.map (·.1)=cg gg.bs (aO gg.bs.length) 2000:=iy _ _ _ _ _ _ hb hle
   have eS1:L1.filterMap (·.2.1)=dg gg.bs hh i0:=kH _ _ _ _ _ _ hb hle
   have Zr:cm (L1.map (·.1))=true:=by rw[eN1];exact He vt
   have WC:=zP (ψ:=ψ) Zr
   have D2:=(sD Dk.1).2 hh
   have yv:∀b,Z b→qG Z ψ hh.get lf b:=fun b hb=>.inl hb
   have Zs:∀e∈L1,vm (qG Z ψ hh.get lf) ψ (cS hh lf).get w (dH L1).get (fh ψ L1) e:=fun e he =>
    mg gs yv gg.bs _ _ 2000 b hb (fun i b bT h1 h2=>.inr ⟨i,List.mem_append_right _ bT,h1,h2⟩) D2 WC e he
   have gin:Good (qG Z ψ hh.get lf) (fh ψ L1) (dH L1).get w B0 O:=wZ gs Dk.1 Zr eS1 Zs
   have ein:(dH L1).get=pN gg (x,b):=by rw[eH1];rfl
   have Pn:∀p∈i0.zip (aO gg.bs.length),(p.2,some p.1)∈L1.map (fun e=>(e.1,e.2.1)):=fun p hp=>by
    obtain⟨o,ho⟩:=kI (hh:=hh) gg.bs i0 (aO gg.bs.length) 2000 b hl p hp
    exact List.mem_map.2 ⟨_,ho,rfl⟩
   have Zt:∀p∈i0.zip (aO gg.bs.length),fh ψ L1 p.2=ψ p.1:=fun p hp=>by
    obtain⟨⟨i,s,o⟩,ho,he⟩:=List.mem_map.1 (Pn p hp)
    cases he
    exact jg Zr ho
   have WI:ar (qG Z ψ hh.get lf) (fh ψ L1) (dH L1).get w (Ff gg (x,b)) (us++ws.toList) :=
    lM gs yv gg.ps i0 (aO gg.bs.length) 0 _ _ x (by rw[hle,hl]) tc hx (fun i b bT h1 h2=>.inr ⟨i,List.mem_append_left _ bT,h1,h2⟩)
     (fun p hp=>⟨vv _ (List.of_mem_zip hp).1,fun _=>Zt p hp⟩) Fi
   have ub:∀c,Own (fh ψ L1) (pN gg (x,b)) c→∃s,s∈dg gg.bs hh i0∧hh.get s≠none∧ob (ψ s)=some c:=fun c ⟨i,h1,h2⟩=>by
    rw[←ein]at h1
    obtain⟨o,ho⟩:=Option.ne_none_iff_exists'.1 h1
    obtain⟨s,hm⟩:=oq ho
    rw[jg Zr hm]at h2
    cases s with
    |none=>simp[kb,ob]at h2
    |some s =>
     have hs:s∈dg gg.bs hh i0:=by rw[←eS1];exact List.mem_filterMap.2 ⟨_,hm,rfl⟩
     refine⟨s,hs,?_,h2⟩
     have h3:=Zs _ hm
     rw[←D2 s hs]
     cases o with
     |box ty cs=>obtain⟨⟨cs0,h4⟩,_⟩:=h3;rw[h4];simp
     |own ok xs=>rw[show(cS hh lf).get s=some (.own ok xs) from h3];simp
   refine(Di (qG Z ψ hh.get lf) (fh ψ L1) w (us++ws.toList) (by rw[←ein];exact gin.Fh _) (by rw[←ein];exact WI)).mono fun en w' ⟨v,Z',eF,e1,h2,h3,h4,h5,h6,h7⟩=>?_
   obtain⟨L2,Zu,eN2,g3,Y4,WJ⟩:=MZ (x:=(x,b)) (y:=y) (id:=id) hl WH vt Dk.2 h5 h7
   have Ox:∀i ty cs,(dH L2).get i=some (.box ty cs)→aE (fun j=>(dH L2).get j≠none) cs:=fun i ty cs hg=>by
    have gH:=get_mem hg
    rw[Zu]at gH
    rcases List.mem_append.1 gH with gH|gH
    ·exact tC gg.bs _ id y.2 (fun e he=>by rw[Zu];exact zU (o:=e.2) (List.mem_append_left _ he)) i ty cs gH
    ·exfalso
     have:∀(rs:List RK) (m:Nat) (y:lZ rs),(i,Ob.box ty cs)∉an rs m y:=by
      intro rs
      induction rs with
      |nil=>intro m y;simp[an]
      |cons r rs ih =>
       intro m y
       cases r with
       |agg c=>simp only[an,List.mem_append,not_or];exact⟨nc _ _ _ _ _ _,ih (m+1) y.2⟩
       |val k=>exact ih (m+1) y.2
       |fg _ _=>exact ih (m+1) y.2
       |own ok=>simp only[an,List.mem_cons,not_or];exact⟨by simp,ih (m+1) y.2⟩
     exact this _ _ _ gH
   have Zv:∀i,(dH L2).get i≠none→(i∈dg gg.bs hh i0∧hh.get i≠none∧fh eF L2 i=ψ i)∨N i:=fun i hi=>by
    obtain⟨o,ho⟩:=Option.ne_none_iff_exists'.1 hi
    obtain⟨s,hm⟩:=oq ho
    have gH:i∈cg gg.bs i0 id++bD gg.rs (id+128):=by rw[←eN2];exact List.mem_map.2 ⟨_,hm,rfl⟩
    have hNr:∀i,id≤i→i<id+256→N i:=fun i h1 h2=>by
     have:=hN (i-id) (by omega)
     rwa [show id+(i-id)=i by omega]at this
    rcases List.mem_append.1 gH with gH|gH
    ·rcases vu _ _ _ _ uM gH with h8|h8
     ·refine .inl ⟨yJ _ _ _ hl h8,vv i h8,?_⟩
      obtain⟨ee,h9,mN⟩:=Ph (by rw[hle,hl]) i h8
      rw[Y4 (ee,i) mN]
      have zm:ee∈aO gg.bs.length:=(List.of_mem_zip mN).1
      rw[h6 ee zm]
      exact Zt (i,ee) h9
     ·exact .inr (hNr i h8.1 (by omega))
    ·have h8:=jG _ _ _ WH gH
     exact .inr (hNr i (by omega) (by omega))
   obtain⟨Be,h8,nx⟩:=M0 (N:=N) gs hB D2 bu ub h2 h3 h4 g3 Ox Zv
   have eH3:(bK.wr (fC (aV gg.rs i0 id (id+128) y.1)) (bC gg.bs i0 id y.2++(an gg.rs (id+128) y.1++iu (cS hh (du gg.ps (vs++cap)++gx gg.bs hh i0)) (dg gg.bs hh i0)))).hp hh.get =
     (dH L2++iu (cS hh lf) (dg gg.bs hh i0)).get:=by
    rw[Zu,List.append_assoc];rfl
   rw[eH3]
   refine⟨v,Z',Be,e1,nx,?_⟩
   refine WJ.move (p:=fun j=>(dH L2).get j≠none) (fun _ h=>h) (cG.refl _ _) (fun j hp _=>⟨hp,h8 j hp⟩) ?_
   refine JX (kL hl gg.rs _ id (id+128) y.1 WH (fun i hi=>?_) fun i hi=>?_)
   ·rw[←fT gg.rs (id+128) y.1]at hi
    obtain⟨e,he,rfl⟩:=List.mem_map.1 hi
    rw[Zu];exact zU (o:=e.2) (List.mem_append_right _ he)
   ·rw[←mn gg.bs i0 id y.2 hl]at hi
    obtain⟨e,he,rfl⟩:=List.mem_map.1 hi
    rw[Zu];exact zU (o:=e.2) (List.mem_append_left _ he)
 ·cases he
end Go.Vs
namespace Go.Vs
variable {P:Program} {Eqs:TypeId→Option K} {Sg:FuncId→Option aL} {F:(f:FuncId)→(g:aL)→g.A→Option g.B} {R:Type} {k:bK→Option R}
theorem b6{c:Bool}{e:bK}:cond c (k e) none=(cond c (some e) none).bind k:=by cases c<;>rfl
theorem bQ{c:Bool}{e:bK}:cond c none (k e)=(cond c none (some e)).bind k:=by cases c<;>rfl
theorem bR{c:Bool}{e e':bK}:cond c (k e) (k e')=(cond c (some e) (some e')).bind k:=by cases c<;>rfl
theorem b7{α:Type}(o:Option α)(f:α→Option R)(g:α→Option bK)(h:∀x,f x=(g x).bind k):o.bind f=(o.bind g).bind k:=by cases o with
 |none=>rfl
 |some x=>exact h x
theorem JZ{h:Heap}{id:Nat}{t:TypeId}{s x:AV}:n8 P h id t s x k=(n8 P h id t s x some).bind k:=by unfold n8;repeat' (first|rfl|exact b6|exact bQ | exact bR|(refine b7 _ _ _ (fun _=>?_))|split)
theorem M4{h:Heap}{t:TypeId}{s x:AV}:rU P h t s x k=(rU P h t s x some).bind k:=by unfold rU;repeat' (first|rfl|exact b6|exact bQ | exact bR|(refine b7 _ _ _ (fun _=>?_))|split)
theorem Po{h:Heap}{t:TypeId}{s:AV}:l8 P h t s k=(l8 P h t s some).bind k:=by unfold l8;repeat' (first|rfl|exact b6|exact bQ | exact bR|(refine b7 _ _ _ (fun _=>?_))|split)
theorem Dl{h:Heap}{t:TypeId}{s x:AV}:dD P h t s x k=(dD P h t s x some).bind k:=by unfold dD;repeat' (first|rfl|exact b6|exact bQ | exact bR|(refine b7 _ _ _ (fun _=>?_))|split)
theorem Pp{x:AV}{lo hi mx:Option AV}:Av x lo hi mx k=(Av x lo hi mx some).bind k:=by unfold Av;repeat' (first|rfl|exact b6|exact bQ | exact bR|(refine b7 _ _ _ (fun _=>?_))|split)
theorem M5{h:Heap}{sz:Nat}{x:AV}{lo hi mx:Option AV}:rW h sz x lo hi mx k=(rW h sz x lo hi mx some).bind k:=by unfold rW;repeat' (first|rfl|exact b6|exact bQ | exact bR|(refine b7 _ _ _ (fun _=>?_))|split)
theorem TE{h:Heap}{x:AV}:DL h x k=(DL h x some).bind k:=by unfold DL;repeat' (first|rfl|exact b6|exact bQ | exact bR|(refine b7 _ _ _ (fun _=>?_))|split)
theorem TF{op:BinOp}{t:TypeId}{x y:AV}:yk P Eqs op t x y k=(yk P Eqs op t x y some).bind k:=by unfold yk;repeat' (first|rfl|exact b6|exact bQ | exact bR|(refine b7 _ _ _ (fun _=>?_))|split)
theorem Hg(rs:List RK)(x:lZ rs)(f:lZ rs→Option R)(g:lZ rs→Option bK)(h:∀z,f z=(g z).bind k):j0 rs x f=(j0 rs x g).bind k:=by rw[ji,ji];exact h x
theorem Pq{h:Heap}{id:Nat}{f:FuncId}{vs:List AV}:jA Sg F h id f vs k=(jA Sg F h id f vs some).bind k:=by unfold jA;repeat' (first|rfl|exact b6|exact bQ | exact bR|(refine b7 _ _ _ (fun _=>?_))|(refine Hg _ _ _ _ (fun _=>?_))|split)
theorem Pr{id:Nat}{t:TypeId}{vs:List AV}:wN id t vs k=(wN id t vs some).bind k:=rfl
theorem M6{t:TypeId}{ps:List (Nat×AV)}:rZ P t ps k=(rZ P t ps some).bind k:=by unfold rZ;repeat' (first|rfl|exact b6|exact bQ | exact bR|(refine b7 _ _ _ (fun _=>?_))|split)
theorem Fk{h:Heap}{id:Nat}{t:TypeId}{n:Nat}{ps:List (Nat×AV)}:uU P h id t n ps k=(uU P h id t n ps some).bind k:=by unfold uU;repeat' (first|rfl|exact b6|exact bQ | exact bR|(refine b7 _ _ _ (fun _=>?_))|split)
theorem Ps{lf:Bool}{h:Heap}{id:Nat}{t:TypeId}{n:Nat}{ps:List (Nat×AV)}:wO P lf h id t n ps k=(wO P lf h id t n ps some).bind k:=by
 unfold wO
 rw[Fk,Fk (k:=fun e=>some (if lf then Ti e else e)),Option.bind_assoc]
 rfl
theorem Pu{s d:TypeId}{x:AV}:AB P s d x k=(AB P s d x some).bind k:=by unfold AB;repeat' (first|rfl|exact b6|exact bQ | exact bR|(refine b7 _ _ _ (fun _=>?_))|split)
theorem WK{b:Bool}{vs:List AV}:MB b vs k=(MB b vs some).bind k:=by unfold MB;repeat' (first|rfl|exact b6|exact bQ | exact bR|(refine b7 _ _ _ (fun _=>?_))|split)
theorem Pv{h:Heap}{x:AV}:wK h x k=(wK h x some).bind k:=by unfold wK;repeat' (first|rfl|exact b6|exact bQ | exact bR|(refine b7 _ _ _ (fun _=>?_))|split)
theorem Hh{id:Nat}{t:TypeId}:lL P Eqs id t k=(lL P Eqs id t some).bind k:=by unfold lL;repeat' (first|rfl|exact b6|exact bQ | exact bR|(refine b7 _ _ _ (fun _=>?_))|split)
theorem J0{h:Heap}{t:TypeId}{m i:AV}{ok:Bool}:oa P Eqs h t m i ok k=(oa P Eqs h t m i ok some).bind k:=by unfold oa;repeat' (first|rfl|exact b6|exact bQ | exact bR|(refine b7 _ _ _ (fun _=>?_))|split)
theorem J1{h:Heap}{t:TypeId}{m i v:AV}:je P Eqs h t m i v k=(je P Eqs h t m i v some).bind k:=by unfold je;repeat' (first|rfl|exact b6|exact bQ | exact bR|(refine b7 _ _ _ (fun _=>?_))|split)
theorem J2{h:Heap}{t:TypeId}{m i:AV}:oc P Eqs h t m i k=(oc P Eqs h t m i some).bind k:=by unfold oc;repeat' (first|rfl|exact b6|exact bQ | exact bR|(refine b7 _ _ _ (fun _=>?_))|split)
theorem J3{id:Nat}{t:TypeId}{x:AV}:od P id t x k=(od P id t x some).bind k:=by unfold od;repeat' (first|rfl|exact b6|exact bQ | exact bR|(refine b7 _ _ _ (fun _=>?_))|split)
theorem M7{h:Heap}{x:AV}:rX h x k=(rX h x some).bind k:=by unfold rX;repeat' (first|rfl|exact b6|exact bQ | exact bR|(refine b7 _ _ _ (fun _=>?_))|split)
theorem M8{h:Heap}{x:AV}:rY h x k=(rY h x some).bind k:=by unfold rY;repeat' (first|rfl|exact b6|exact bQ | exact bR|(refine b7 _ _ _ (fun _=>?_))|split)
theorem lN{id:Nat}{h:Heap}{s:List (Nat×AV)}{o:Oper}:c4 P Eqs Sg F id h s o k=(c4 P Eqs Sg F id h s o some).bind k:=by
 obtain⟨dst,op,type,pos,after,guard⟩:=o
 cases op<;>simp only[c4] <;>
  repeat' (first|rfl|exact Ps|exact JZ|exact M4|exact Po|exact Dl|exact Pp|exact M5|exact TE|exact TF|exact Pq|exact Pr|exact M6|exact Fk|exact Pu|exact WK|exact Pv|exact Hh|exact J0|exact J1|exact J2|exact J3|exact M7|exact M8|exact b6|(refine b7 _ _ _ (fun _=>?_))|split)
theorem M9{id:Nat}{h h':Heap}{s:List (Nat×AV)}{o:Oper}(hf:nF o.op=true):c4 P Eqs Sg F id h s o k=c4 P Eqs Sg F id h' s o k:=by
 obtain⟨dst,op,type,pos,after,guard⟩:=o
 cases op<;>simp[nF]at hf<;>first|rfl|(rename_i u _ _;cases u<;>rfl)
theorem TG{op:BinOp}{t:TypeId}{x y:AV}{e:bK}(he:yk P Eqs op t x y some=some e):∃v,e=.val v:=by
 unfold yk at he
 repeat' (first|(cases he;done)|exact⟨_,(Option.some.inj he).symm⟩|split at he)
 all_goals
  unfold cond at he
  split at he<;>first|(cases he;done)|exact⟨_,(Option.some.inj he).symm⟩
theorem Hi{id:Nat}{h:Heap}{s:List (Nat×AV)}{o:Oper}{e:bK}(hf:nF o.op=true)(he:c4 P Eqs Sg F id h s o some=some e):∃v,e=.val v:=by
 obtain⟨dst,op,type,pos,after,guard⟩:=o
 cases op<;>simp only[nF]at hf<;>first|(cases hf;done)|skip
 case unOp u t x =>
  cases u<;>simp only[c4]at he<;>repeat' (first|(cases he;done)|exact⟨_,(Option.some.inj he).symm⟩|split at he)
 case makeFunc fn first cap =>
  cases fn<;>simp only[c4]at he<;>repeat' (first|(cases he;done)|exact⟨_,(Option.some.inj he).symm⟩|split at he)
 all_goals simp only[c4]at he
 case binOp=>exact TG he
 case build =>
  unfold rZ at he
  repeat' (first|(cases he;done)|exact⟨_,(Option.some.inj he).symm⟩|split at he)
 all_goals
  repeat' (first|(cases he;done)|exact⟨_,(Option.some.inj he).symm⟩|split at he)
end Go.Vs
namespace Go.Vs
variable {P:Program} {Eqs:TypeId→Option K} {Sg:FuncId→Option aL} {F:(f:FuncId)→(g:aL)→g.A→Option g.B} {R:Type}
variable {Z Z' Z0:Nat→Prop} {ψ ψ' ψ0:Nat→Value} {h h':Hp} {w w' w0:World} {B0:Nat} {O N:Nat→Prop}
structure Env(P:Program)(Eqs:TypeId→Option K)(Sg:FuncId→Option aL)(F:(f:FuncId)→(g:aL)→g.A→Option g.B):Prop where
 eqs:∀t k,Eqs t=some k→mb P t k
 con:∀f g x y,Sg f=some g→F f g x=some y→D0 P f g x y
 spec:∀f g u,Sg f=some g→g.x=some u→iU P (f%1000) u
 Hj:∀f g,Sg f=some g→jE P (f%1000)
theorem Hk{s:List (Nat×AV)}{ρC:Operand→Value}:∀(l:List Operand),(∀x∈l,aw Z ψ h w (ρ s x) (ρC x))→ar Z ψ h w (l.map (ρ s)) (l.map ρC)
 |[],_=>by simp[ar]
 |x::r,hx=>by
  simp only[List.map_cons,ar]
  exact⟨_,_,rfl,hx x List.mem_cons_self,Hk r fun y hy=>hx y (List.mem_cons_of_mem _ hy)⟩
theorem D4{s:List (Nat×AV)}{p:Nat→Prop}:∀(l:List Operand),(∀x∈l,aK p (ρ s x))→aE p (l.map (ρ s))
 |[],_=>by simp[aE]
 |x::r,hx=>by
  simp only[List.map_cons,aE]
  exact⟨hx x List.mem_cons_self,D4 r fun y hy=>hx y (List.mem_cons_of_mem _ hy)⟩
theorem Vn(E:Env P Eqs Sg F){hh:Heap}{a:Act}{s:List (Nat×AV)}{o:Oper}(g:Good Z ψ h w B0 O)(hB:B0≤w.heap.size)(bz:∀id o,hh.get id=some o→h id=some o){id:Nat}(hN:makes o.op=true→∀j,j<256→N (id+j)){e:bK}
  (nY:∀x∈o.op.operands,aw Z ψ h w (ρ s x) (a.eval x)) (hm:∀x∈o.op.operands,aK (fun i=>¬N i) (ρ s x)) (bu:∀i ty cs,h i=some (.box ty cs)→aE (fun i=>¬N i) cs) (mW:∀v hw,e=.wr v hw→hh.get=h)
  (he:c4 P Eqs Sg F id hh s o some=some e) {next:Act→World→Prop} {Q:Exit→Act→World→Prop}
  (hk:∀V w' Z' ψ',Next Z ψ h w B0 O N Z' ψ' (e.hp h) w'→aw Z' ψ' (e.hp h) w' e.v V→next (a.put o.dst V) w'):o.wp P a w next Q:=by
 have d:iw P a.eval o Z ψ h w B0 O N e∨Vl P a.eval o Z ψ h w B0 O N e:=by
  cases Jp:vl o with
  |false=>exact .inl (O6 E.eqs g hB bz (fun hm=>by simpa using hN hm 0 (by decide)) nY hm bu mW Jp he)
  |true =>
   refine .inr ?_
   obtain⟨dst,op,type,pos,after,guard⟩:=o
   cases op<;>simp[vl]at Jp
   rename_i c
   obtain⟨callee,args,argTypes⟩:=c
   cases callee<;>simp at Jp
   rename_i fo
   simp only[c4]at he
   split at he
   ·rename_i f cap hf
    simp only[Op.operands,Call.operands]at nY
    have h1:=nY fo (by simp)
    rw[hf]at h1
    have h2:ar Z ψ h w (args.toList.map (ρ s)) (args.toList.map a.eval):=Hk _ fun x hx=>nY x (by simp;exact .inr (by simpa using hx))
    have hmf:=hm fo (by simp[Op.operands,Call.operands])
    rw[hf]at hmf
    simp only[aK]at hmf
    have hma:aE (fun i=>¬N i) (args.toList.map (ρ s)):=D4 _ fun x hx=>hm x (by simp[Op.operands,Call.operands];exact .inr (by simpa using hx))
    refine JY E.spec E.con E.Hj g hB bz (hN rfl) bu mW h1 h2 (pP hma hmf) (fun ws Pj=>?_) he
    simp only[execOp,resolve,Pj,Deferred.ofValue]
    simp only[pure_bind,invoke]
    congr 1
    apply Array.ext'
    simp
   ·cases he
 unfold Oper.wp
 rcases d with⟨V,w',Z',ψ',h1,h2,h3⟩|⟨f,args,h1,h2⟩
 ·rcases h1 with h1|⟨h1,rfl⟩
  ·rw[h1];exact hk V w' Z' ψ' h2 h3
  ·rw[h1];exact hk undef w' Z' ψ' h2 h3
 ·rw[h1,Oper.upon_enter]
  refine h2.mono fun en w' ⟨V,Z',ψ',e1,n,hr⟩=>?_
  subst e1
  exact hk V w' Z' ψ' n hr
structure Ok(Z0:Nat→Prop)(w0:World)(O:Nat→Prop)(ψ0:Nat→Value)(Z:Nat→Prop)(ψ:Nat→Value)(h:Hp)(w:World):Prop where
 eL:Good Z ψ h w w0.heap.size O
 fX:∀b,Z0 b→Z b
 eV:∀b,Z b→Z0 b∨O b∨w0.heap.size≤b
 os:w.os=w0.os
 tape:w.tape=w0.tape
 output:w.output=w0.output
 size:w0.heap.size≤w.heap.size
 block:∀b,b<w0.heap.size→¬O b→w.heap[b]? = w0.heap[b]?
 fix:∀i,i<2000→h i≠none→ψ i=ψ0 i
theorem Ok.next(k:Ok Z0 w0 O ψ0 Z ψ h w)(hN:∀id,N id→2000≤id)(n:Next Z ψ h w w0.heap.size O N Z' ψ' h' w'):Ok Z0 w0 O ψ0 Z' ψ' h' w':=by
 have own:∀b,Own ψ h b→w0.heap.size≤b∨O b:=fun b ⟨id,h1,h2⟩=>(k.eL.live id b h1 h2).2
 refine⟨n.eL,fun b hb=>n.fX b (k.fX b hb),fun b hb=>?_,n.keep.os.trans k.os,n.keep.tape.trans k.tape,n.keep.output.trans k.output,Nat.le_trans k.size n.keep.size,fun b hb ho=>?_,fun i hi bp=>?_⟩
 ·rcases n.eV b hb with h1|h1|h1
  ·exact k.eV b h1
  ·exact .inr (own b h1).symm
  ·exact .inr (.inr (Nat.le_trans k.size h1))
 ·rw[n.keep.block b (Nat.lt_of_lt_of_le hb k.size) (fun h1=>(own b h1).elim (fun h2=>by omega) ho)]
  exact k.block b hb ho
 ·rcases n.ids i bp with⟨h1,h2⟩|h1
  ·rw[h2];exact k.fix i hi h1
  ·have:=hN i h1;omega
structure c8(Z:Nat→Prop)(ψ:Nat→Value)(h:Hp)(w:World)(n:Nat)(T:Nat→AV)(a:Act):Prop where
 rep:∀d,aw Z ψ h w (T d) (a.tmps.getD d undef)
 size:a.tmps.size=n
 defers:a.defers=[]
theorem Na:aw Z ψ h w (.nW []) undef:=by simp only[aw,ar];exact⟨#[],rfl,rfl⟩
def jw(T:Nat→AV)(d:Option Tmp)(v:AV):Nat→AV:=match d with
 |some d=>eC T d v
 |none=>T
theorem iC(st:St)(d:Option Tmp)(v:AV):look (st.put d v).tmps=jw (look st.tmps) d v:=by
 cases d with
 |none=>rfl
 |some d =>
  funext i
  simp only[St.put,look,jw,eC]
  by_cases e:i=d
  ·subst e;simp
  ·rw[if_neg (fun x=>e x.symm),if_neg e]
theorem dn(st:St)(d:Option Tmp)(v:AV):(st.put d v).heap=st.heap:=by cases d<;>rfl
theorem D5{T:List (Nat×AV)}{d:Nat}{v:AV}(hv:look T d=v):eC (look T) d v=look T:=by
 funext i
 unfold eC
 split
 ·rename_i e;subst e;exact hv.symm
 ·rfl
theorem iD{a:Act}{d:Nat}{v:Value}(hd:d<a.tmps.size)(i:Nat):(a.put (some d) v).tmps.getD i undef=if i=d then v else a.tmps.getD i undef:=by
 simp only[Act.put]
 by_cases e:i=d
 ·subst e;simp[hd]
 ·simp[e,Array.getElem?_setIfInBounds_ne (Ne.symm e)]
theorem cH(a:Act)(d:Option Tmp)(v:Value):(a.put d v).tmps.size=a.tmps.size:=by cases d<;>simp[Act.put]
theorem put_defers(a:Act)(d:Option Tmp)(v:Value):(a.put d v).defers=a.defers:=by cases d<;>rfl
theorem c8.put{n:Nat}{T:Nat→AV}{a:Act}{o:Oper}{x:AV}{V:Value}(t:c8 Z ψ h w n T a)(hd:iM n o=true)(hx:aw Z ψ h w x V):c8 Z ψ h w n (jw T o.dst x) (a.put o.dst V):=by
 refine⟨fun d=>?_,by rw[cH];exact t.size,by rw[put_defers];exact t.defers⟩
 unfold iM at hd
 split at hd
 ·rename_i d0 hd0
  rw[hd0]
  rw[iD (by rw[t.size];simpa using hd)]
  simp only[jw,eC]
  split
  ·exact hx
  ·exact t.rep d
 ·rename_i hd0
  rw[hd0];exact t.rep d
theorem c8.next{n:Nat}{T:Nat→AV}{a:Act}(t:c8 Z ψ h w n T a)(g:Good Z ψ h w B0 O)(hn:Next Z ψ h w B0 O N Z' ψ' h' w')(hm:∀d,aK (fun i=>¬N i) (T d)):c8 Z' ψ' h' w' n T a :=
 ⟨fun d=>hn.rep g (hm d) (t.rep d),t.size,t.defers⟩
theorem q8{n:Nat}{s:List (Nat×AV)}{a:Act}(t:c8 Z ψ h w n (look s) a)(x:Operand):aw Z ψ h w (ρ s x) (a.eval x):=by
 cases x with
 |tmp i=>exact t.rep i
 |const v=>exact GQ v
 |global g=>simp only[ρ,aw]
 |func f=>simp only[ρ,aw,ar,Act.eval];exact⟨#[],rfl,rfl⟩
theorem Bf(p:Nat→Prop)(v:Value):aK p (tT v):=by
 cases v with
 |agg cs=>simp only[tT,aK];exact wX p _
 |_=>simp only[tT];exact A5 p _
theorem Nb{p:Nat→Prop}{s:List (Nat×AV)}(hm:∀d,aK p (look s d))(x:Operand):aK p (ρ s x):=by
 cases x with
 |tmp i=>exact hm i
 |const v=>exact Bf p v
 |global g=>simp only[ρ,aK]
 |func f=>simp only[ρ,aK,aE]
def mP(rid:Nat)(S:Nat→Prop)(id:Nat):Prop:=id / 32768=rid+1→S (id / 256%128)
def Of(rid i id:Nat):Prop:=id / 256=(rid+1)*128+i
theorem Of.parts{rid i id:Nat}(hi:i<128)(h:Of rid i id):id / 32768=rid+1∧id / 256%128=i:=by
 unfold Of at h
 constructor<;>omega
theorem Of.of{rid i id:Nat}(h:id / 32768=rid+1)(hi:id / 256%128=i):Of rid i id:=by
 unfold Of;omega
theorem Lo{rid i j:Nat}(hj:j<256):Of rid i (opId rid i+j):=by
 unfold Of opId;omega
theorem Hl{rid i:Nat}:Of rid i (opId rid i):=by unfold Of opId;omega
theorem mP.Bg{rid i id:Nat}{S:Nat→Prop}(hi:i<128)(hs:¬S i)(h:mP rid S id):¬Of rid i id:=fun ho=>by
 obtain⟨h1,h2⟩:=ho.parts hi
 have:=h h1
 rw[h2]at this
 exact hs this
theorem ov{rid bits id:Nat}{S:Nat→Prop}(hb:∀j,bits.testBit j=true→S j)(h:qP rid bits id=true):mP rid S id:=fun h1=>by
 unfold qP at h
 simp only[Bool.or_eq_true,bne_iff_ne,ne_eq]at h
 exact hb _ (h.resolve_left (fun h2=>h2 h1))
mutual
theorem pQ{rid bits:Nat}{S:Nat→Prop}(hb:∀j,bits.testBit j=true→S j):∀{v:AV},ti rid bits v=true→aK (mP rid S) v
 |.ref id s i off,h=>by simp only[ti]at h;simp only[aK];exact ov hb h
 |.bO id,h=>by simp only[ti]at h;simp only[aK];exact ov hb h
 |.fn f cap,h=>by simp only[ti]at h;simp only[aK];exact mq hb h
 |.agg cs,h=>by simp only[ti]at h;simp only[aK];exact mq hb h
 |.nW cs,h=>by simp only[ti]at h;simp only[aK];exact mq hb h
 |.no,_=>by simp only[aK]
 |.bool _,_=>by simp only[aK]
 |.int _ _,_=>by simp only[aK]
 |.str _,_=>by simp only[aK]
 |.lY,_=>by simp only[aK]
 |.gu,_=>by simp only[aK]
 |.fp _ _ _,_=>by simp only[aK]
 |.sl _ _ _,_=>by simp only[aK]
 |.mp _ _ _,_=>by simp only[aK]
theorem mq{rid bits:Nat}{S:Nat→Prop}(hb:∀j,bits.testBit j=true→S j):∀{v:List AV},AE rid bits v=true→aE (mP rid S) v
 |[],_=>by simp only[aE]
 |v::r,h=>by
  simp only[AE,Bool.and_eq_true]at h
  simp only[aE]
  exact⟨pQ hb h.1,mq hb h.2⟩
end
theorem mr{rid bits:Nat}{S:Nat→Prop}(hb:∀j,bits.testBit j=true→S j):∀{hh:Heap},ym rid bits hh=true→∀id o,hh.get id=some o→mP rid S id∧∀ty cs,o=.box ty cs→aE (mP rid S) cs
 |[],_,id,o,hg=>by simp[Heap.get]at hg
 |(i,ob)::r,h,id,o,hg=>by
  simp only[Heap.get]at hg
  split at hg
  ·rename_i e
   subst e
   cases hg
   cases ob with
   |box ty cs =>
    simp only[ym,Bool.and_eq_true]at h
    exact⟨ov hb h.1.1,fun zj cs' he=>by cases he;exact mq hb h.1.2⟩
   |own ok xs =>
    simp only[ym,Bool.and_eq_true]at h
    exact⟨ov hb h.1,fun zj cs' he=>by cases he⟩
  ·refine mr hb ?_ id o hg
   cases ob<;>simp only[ym,Bool.and_eq_true]at h<;>exact h.2
def bK.heap(e:bK)(h:Heap):Heap:=match e with
 |.wr _ h'=>h'
 |e=>e.h h
theorem bK.Hm(e:bK)(hh:Heap):(e.heap hh).get=e.hp hh.get:=by
 cases e with
 |val v=>rfl
 |new v os=>funext i;simp only[bK.heap,bK.h,bK.hp];rw[Heap.get_append];cases Heap.get os i<;>rfl
 |wr v h'=>rfl
def tD(p:Nat→Prop)(h:Hp):Prop:=∀i ty cs,h i=some (.box ty cs)→aE p cs
theorem Bh{ops:Array Oper}{o:Oper}{n:Nat}{T:Nat→AV}{a:Act}(t:c8 Z ψ h w n T a){j d:Nat}{want:Bool}(hg:o.guard=some (j,want))(hd:(ops[j]?).bind (·.dst)=some d){b:Bool}(hb:T d=.bool b) :
  Region.wanted o (yielded ops a.tmps)=(b==want):=by
 have h1:=t.rep d
 rw[hb]at h1
 simp only[aw]at h1
 have h2:a.tmps[d]? = some (.bool b):=by
  rw[Array.getD_eq_getD_getElem?]at h1
  cases e:a.tmps[d]? with
  |none=>rw[e]at h1;simp[undef]at h1
  |some v=>rw[e]at h1;simpa using h1
 unfold Region.wanted yielded
 rw[hg]
 simp only[hd,Option.bind_some,h2]
 cases b<;>cases want<;>rfl
theorem yL{ops:Array Oper}{o:Oper}{n:Nat}{T:Nat→AV}{a:Act}(t:c8 Z ψ h w n T a){j d:Nat}{want:Bool}(hg:o.guard=some (j,want))(hd:(ops[j]?).bind (·.dst)=some d){vs:List AV}(hb:T d=.nW vs) :
  Region.wanted o (yielded ops a.tmps)=false:=by
 have h1:=t.rep d
 rw[hb]at h1
 simp only[aw]at h1
 obtain⟨us,h1,_⟩:=h1
 unfold Region.wanted yielded
 rw[hg]
 simp only[hd,Option.bind_some]
 rw[Array.getD_eq_getD_getElem?]at h1
 cases e:a.tmps[d]? with
 |none=>rfl
 |some v=>rw[e]at h1;simp at h1;subst h1;rfl
def Bi(ops:Array Oper):Nat→List (Nat×Oper)→Prop
 |_,[]=>True
 |i,(j,o)::r=>j=i∧ops[i]? = some o∧Bi ops (i+1) r
theorem Ho(ops:Array Oper):∀(l:List Oper) (i:Nat),(∀k o,l[k]? = some o→ops[i+k]? = some o)→Bi ops i ((l.zipIdx i).map fun p=>(p.2,p.1))
 |[],_,_=>by simp[Bi]
 |o::r,i,h=>by
  simp only[List.zipIdx_cons,List.map_cons,Bi]
  exact⟨trivial,h 0 o rfl,Ho ops r (i+1) fun k o' hk=>by rw[Nat.add_assoc,Nat.add_comm 1 k];exact h (k+1) o' hk⟩
theorem ow(ops:Array Oper):Bi ops 0 (ops.toList.zipIdx.map fun p=>(p.2,p.1)):=Ho ops _ 0 fun k o hk=>by simpa using hk
theorem D6(ops:Array Oper):(ops.toList.zipIdx.map fun p=>(p.2,p.1)).map Prod.fst=List.range ops.size:=by
 rw[List.map_map]
 have:(Prod.fst ∘ fun(p:Oper×Nat)=>(p.2,p.1))=Prod.snd:=rfl
 rw[this,List.zipIdx_map_snd,List.range_eq_range',Array.length_toList]
structure J(p:Nat→Prop)(n:Nat)(Z0:Nat→Prop)(w0:World)(O:Nat→Prop)(ψ0:Nat→Value)(Z:Nat→Prop)(ψ:Nat→Value)(T:Nat→AV)(h:Hp)(a:Act)(w:World):Prop where
 ok:Ok Z0 w0 O ψ0 Z ψ h w
 tr:c8 Z ψ h w n T a
 tm:∀d,aK p (T d)
 hm:tD p h
theorem J.imp{p q:Nat→Prop}{n:Nat}{T:Nat→AV}{a:Act}(j:J p n Z0 w0 O ψ0 Z ψ T h a w)(uO:∀id,p id→q id):J q n Z0 w0 O ψ0 Z ψ T h a w :=
 ⟨j.ok,j.tr,fun d=>(j.tm d).imp uO,fun id ty cs hb=>(j.hm id ty cs hb).imp uO⟩
theorem J.op(E:Env P Eqs Sg F){rid n i:Nat}{p:Nat→Prop}{T:Nat→AV}{a:Act}{s:List (Nat×AV)}{o:Oper}(hS:makes o.op=true→∀id,p id→¬Of rid i id)(j:J p n Z0 w0 O ψ0 Z ψ T h a w)(hd:iM n o=true)
  (hT:∀x∈o.op.operands,aw Z ψ h w (ρ s x) (a.eval x)) (hTm:∀x∈o.op.operands,aK p (ρ s x)) {hh:Heap} (bz:∀id o,hh.get id=some o→h id=some o) {e:bK} (he:c4 P Eqs Sg F (opId rid i) hh s o some=some e) (mW:∀v hw,e=.wr v hw→hh.get=h)
  {p':Nat→Prop} (Oy:∀k,p k→p' k) (hv:aK p' e.v) (WL:tD p' (e.hp h)) {next:Act→World→Prop} {Q:Exit→Act→World→Prop}
  (hk:∀a' w' Z' ψ',J p' n Z0 w0 O ψ0 Z' ψ' (jw T o.dst e.v) (e.hp h) a' w'→next a' w'):o.wp P a w next Q:=by
 have WM:∀id,p id→¬(makes o.op=true∧Of rid i id):=fun id h ⟨h1,h2⟩=>hS h1 id h h2
 refine Vn (N:=fun id=>makes o.op=true∧Of rid i id) E j.ok.eL j.ok.size bz (id:=opId rid i) (fun hm k hk=>⟨hm,Lo hk⟩) hT (fun x hx=>(hTm x hx).imp WM) (fun id ty cs hb=>(j.hm id ty cs hb).imp WM) mW he fun V w' Z' ψ' nx hr=>?_
 refine hk _ w' Z' ψ' ⟨j.ok.next (fun id h=>by have:=h.2;unfold Of at this;omega) nx,(j.tr.next j.ok.eL nx (fun d=>(j.tm d).imp WM)).put hd hr,fun d=>?_,WL⟩
 cases lj:o.dst with
 |none=>exact(j.tm d).imp Oy
 |some d0 =>
  simp only[jw,eC]
  split
  ·exact hv
  ·exact(j.tm d).imp Oy
theorem J.skip{n:Nat}{p p':Nat→Prop}{T:Nat→AV}{a:Act}{o:Oper}(j:J p n Z0 w0 O ψ0 Z ψ T h a w)(hd:iM n o=true)(Oy:∀k,p k→p' k) :
  J p' n Z0 w0 O ψ0 Z ψ (jw T o.dst (.nW [])) h (a.put o.dst undef) w:=by
 refine⟨j.ok,j.tr.put hd Na,fun d=>?_,fun id ty cs hb=>(j.hm id ty cs hb).imp Oy⟩
 cases lj:o.dst with
 |none=>exact(j.tm d).imp Oy
 |some d0 =>
  simp only[jw,eC]
  split
  ·simp only[aK,aE]
  ·exact(j.tm d).imp Oy
theorem TH{hh:Heap}(g:Good Z ψ hh.get w B0 O){m:Nat}{kk vk:K}{es:List (kk.T×vk.T)}(hg:hh.get m=some (.own (.map kk vk) es))(n:Next Z ψ hh.get w B0 O N Z' ψ' h' w')(Zw:∀b,ob (ψ m)=some b→Z' b)
  (hold:∀b,b<w.heap.size→w'.heap[b]? = w.heap[b]?) {v:AV} {V:Value} (hm:aK (fun id=>¬N id) v) (hr:aw Z ψ hh.get w v V):aw Z' ψ' h' w' (GI m (.mp kk vk es) v) V:=by
 by_cases hv:v=.bO m
 ·subst hv
  simp only[GI,if_true]
  simp only[aw]at hr
  have hu:=hr.2 (by rw[hg];simp)
  obtain⟨r,cc,clock,h1,h2,h3,_⟩:=g.row m (.map kk vk) es hg
  rw[h1]at hu
  subst hu
  have aM:=(Array.getElem?_eq_some_iff.1 h2).1
  simp only[aw,aH]
  exact⟨some r,rfl,.inr ⟨r,cc,clock,rfl,Zw r (by rw[h1];rfl),(hold r aM).trans h2,h3.imp (fun _ _ h=>h.mono n.fX (fun b hb=>hold b (g.j5 b hb))) (fun _ _ h=>h.mono n.fX (fun b hb=>hold b (g.j5 b hb)))⟩⟩
 ·have hf:GI m (.mp kk vk es) v=v:=by
   unfold GI
   split
   ·split
    ·rename_i e;subst e;exact absurd rfl hv
    ·rfl
   ·rfl
  rw[hf]
  exact n.rep g hm hr
theorem Pw{p:Nat→Prop}{m:Nat}{kk vk:K}{es:List (kk.T×vk.T)}{v:AV}(hm:aK p v):aK p (GI m (.mp kk vk es) v):=by
 unfold GI
 split
 ·split
  ·simp only[aK]
  ·exact hm
 ·exact hm
theorem w9(f:AV→AV)(hf:f .no=.no):∀(l:List (Nat×AV)) (d:Nat),look (l.map fun p=>(p.1,f p.2)) d=f (look l d)
 |[],_=>by simp only[List.map_nil,look];exact hf.symm
 |(i,v)::r,d=>by
  simp only[List.map_cons,look]
  split
  ·rfl
  ·exact w9 f hf r d
theorem J4{rid n i:Nat}{p p':Nat→Prop}{st eU:St}{a:Act}{o:Oper}(hS:∀id,p id→¬Of rid i id)(Oy:∀k,p k→p' k)(Pd:p' (opId rid i))(j:J p n Z0 w0 O ψ0 Z ψ (look st.tmps) st.heap.get a w)(hd:iM n o=true)(ox:o8 P (opId rid i) st o=some eU) :
  ∃V w' Z' ψ',(execOp a.eval o).run P w=.ok (.value V) w'∧J p' n Z0 w0 O ψ0 Z' ψ' (look eU.tmps) eU.heap.get (a.put o.dst V) w':=by
 unfold o8 at ox
 split at ox
 ·rename_i t x Fl
  split at ox
  ·rename_i ka va m hu hx
   split at ox
   ·rename_i kk vk es hg
    cases ox
    have Vo:aw Z ψ st.heap.get w (.bO m) (a.eval x):=by rw[←hx];exact q8 j.tr x
    simp only[aw]at Vo
    have hev:=Vo.2 (by rw[hg];simp)
    have g:=j.ok.eL
    obtain⟨r,cc,clock,h1,h2,h3,h4,h5⟩:=g.row m (.map kk vk) es hg
    rw[h1]at hev
    have aM:=(Array.getElem?_eq_some_iff.1 h2).1
    have gd:=iR g [.bO m]
    have Zx:∀b,ob (ψ m)=some b→qG Z ψ st.heap.get [.bO m] b:=fun b hb=>.inr ⟨m,by simp,by rw[hg];simp,hb⟩
    have hold:∀b,b<w.heap.size→(w.alloc (.mapIter (some r) clock #[] clock)).heap[b]? = w.heap[b]? := fun b hb=>heap_alloc_old w _ hb
    have hN:(Of rid i) (opId rid i):=Hl
    have n1:=AZ (N:=Of rid i) gd j.ok.size (opId rid i) hN (ok:=.iter kk vk) (x:=(none,es)) (v:=.pointer (some ⟨w.heap.size,0,none⟩)) (.mapIter (some r) clock #[] clock)
     ⟨w.heap.size,r,clock,#[],cc,clock,rfl,heap_alloc_new _ _,Zx r (by rw[h1];rfl),(hold r aM).trans h2,h4,rfl,h5,by
      rw[List.filter_eq_self.2 (fun e _=>by simp)]
      exact h3.imp (fun _ _ h=>h.mono (fun b hb=>.inl hb) (fun b hb=>hold b (g.j5 b hb))) (fun _ _ h=>h.mono (fun b hb=>.inl hb) (fun b hb=>hold b (g.j5 b hb))),trivial⟩ rfl
     (fun i' ty cs hb=>aE.imp (p:=p) (q:=fun i'=>i'≠opId rid i) (fun id hp e=>hS id hp (by rw[e];exact hN)) (j.hm i' ty cs (eJ _ _ _ _ hb)))
    have n2:=n1.drop (Z:=Z) (h:=st.heap.get) (fun b hb=>.inl hb) (fun b hb=>hb.imp (fun h=>h) (fun⟨id,_,h5,h6⟩=>⟨id,h5,h6⟩)) (eJ _ _)
    have fP:(eC (cS st.heap [.bO m]).get (opId rid i) (some (Ob.own (.iter kk vk) (none,es))))=Heap.get ((opId rid i,.own (.iter kk vk) (none,es))::st.heap.del m):=by
     funext k
     simp only[cS,drop1,eC,Heap.get]
     by_cases e:k=opId rid i
     ·subst e;simp
     ·rw[if_neg e,if_neg (fun h=>e h.symm)]
    rw[fP]at n2
    refine⟨.pointer (some ⟨w.heap.size,0,none⟩),w.alloc (.mapIter (some r) clock #[] clock),qG Z ψ st.heap.get [.bO m],eC ψ (opId rid i) (.pointer (some ⟨w.heap.size,0,none⟩)),?_,?_⟩
    ·obtain⟨dst,op,type,pos,after,guard⟩:=o
     simp only at Fl
     subst Fl
     have dy:(Instr.range t (.map (some r))).run P w=.ok (.pointer (some ⟨w.heap.size,0,none⟩)) (w.alloc (.mapIter (some r) clock #[] clock)):=by
      simp only[Instr.range,Sem.run_bind,run_underlying hu,Result.andThen_ok,gF h2 (by simp),Sem.run_pure];rfl
     simp[execOp,hev,dy]
    ·have bu:∀d,aK (fun id=>¬Of rid i id) (look st.tmps d):=fun d=>(j.tm d).imp hS
     refine⟨by rw[dn];exact j.ok.next (fun id h=>by unfold Of at h;omega) n2,?_,fun d=>?_,fun k ty cs hb=>?_⟩
     ·rw[iC,dn]
      refine c8.put ⟨fun d=>?_,j.tr.size,j.tr.defers⟩ hd ?_
      ·rw[w9 _ rfl]
       exact TH g hg n2 (fun b hb=>Zx b hb) hold (bu d) (j.tr.rep d)
      ·simp only[aw]
       exact⟨⟨rfl,rfl⟩,fun _=>(bq _ _ _).symm⟩
     ·rw[iC]
      have hb:aK p' (look (st.tmps.map fun q=>(q.1,GI m (.mp kk vk es) q.2)) d):=by rw[w9 _ rfl];exact Pw ((j.tm d).imp Oy)
      cases lj:o.dst with
      |none=>exact hb
      |some d0 =>
       simp only[jw,eC]
       split
       ·simp only[aK];exact Pd
       ·exact hb
     ·rw[dn]at hb
      simp only[Heap.get]at hb
      split at hb
      ·cases hb
      ·exact(j.hm k ty cs (Heap.u5 hb).1).imp Oy
   ·cases ox
  ·cases ox
 ·cases ox
theorem oy{R:Type}{n:Nat}{f:Nat→Option R}{r:R}(h:ta n f=some r):∀j,j<n→f j=some r:=by
 unfold ta at h
 split at h
 ·rename_i hx;cases h;exact Classical.choose_spec hx
 ·cases h
theorem nh{R:Type}{n:Nat}{f:Nat→Option R}{r:R}(hn:0<n)(h:∀j,j<n→f j=some r):ta n f=some r:=by
 unfold ta
 have hx:∃r,∀j,j<n→f j=some r:=⟨r,h⟩
 rw[dif_pos hx]
 have:=Classical.choose_spec hx 0 hn
 rw[h 0 hn]at this
 exact this.symm
theorem Next.drawn{d:Nat}(n:Next Z ψ h { w with drawn:=d } B0 O N Z' ψ' h' w'):Next Z ψ h w B0 O N Z' ψ' h' w' :=
 ⟨n.fX,n.eV,⟨n.keep.os,n.keep.tape,n.keep.output,n.keep.size,n.keep.block⟩,n.ids,n.eL⟩
theorem Good.drawn{d:Nat}(g:Good Z ψ h w B0 O):Good Z ψ h { w with drawn:=d } B0 O:=by
 have sm:cG Z w ({ w with drawn:=d }:World):=fun _ _=>rfl
 refine⟨fun id ty cs hb=>?_,fun id ok xs hb=>?_,g.live,g.apart,g.j5⟩
 ·obtain⟨gg,vs,h1,h2,h3,h4⟩:=g.box id ty cs hb
  exact⟨gg,vs,h1,h2,h3.less (fun _ h=>h) sm (fun i hi=>⟨hi,rfl⟩),h4⟩
 ·exact(g.row id ok xs hb).kept (fun _ h=>h) sm (fun gg _=>rfl)
theorem filter_push{l:List MapEntry}(h:l.Pairwise (fun a b=>a.born≠b.born)){seen:Array Nat}{j:Nat}{e:MapEntry}(he:(l.filter fun e => !seen.contains e.born)[j]? = some e) :
  l.filter (fun x => !(seen.push e.born).contains x.born)=(l.filter fun e => !seen.contains e.born).eraseIdx j:=by
 have h2:(l.filter fun e => !seen.contains e.born).Pairwise (fun a b=>a.born≠b.born):=h.sublist List.filter_sublist
 rw[←ChangeMaps.filter_eq_eraseIdx (fun x=>x.born==e.born) _ j e he (by simp) (h2.imp fun {a b} bp hc=>bp (by
  simp only[beq_iff_eq]at hc;omega))]
 rw[List.filter_filter]
 congr 1
 funext x
 simp only[Array.contains_push]
 cases seen.contains x.born<;>cases x.born==e.born<;>rfl
theorem J5{R:Type}{hh:Heap}(g:Good Z ψ hh.get w B0 O){x:AV}{u:Value}{ty:TypeId}(hx:aw Z ψ hh.get w x u){kk:AV→Heap→Option R}{r:R}(he:lC hh x kk=some r) :
  ∃v h' V w',(Instr.next u false ty).run P w=.ok V w'∧Next Z ψ hh.get w B0 O N Z ψ h'.get w'∧aw Z ψ h'.get w' v V∧kk v h'=some r∧(∀p,aK p v)∧∀i ty cs,h'.get i=some (.box ty cs)→hh.get i=some (.box ty cs):=by
 unfold lC at he
 split at he
 ·rename_i id
  split at he
  ·rename_i kk1 vk pp hg
   simp only[aw]at hx
   have hu:=hx.2 (by rw[hg];simp)
   obtain⟨b,m,since,seen,cc,clock,h1,h2,h3,h4,h5,h6,h7,h8,h9⟩:=g.row id (.iter kk1 vk) pp hg
   rw[h1]at hu
   subst hu
   subst h6
   have aM:=(Array.getElem?_eq_some_iff.1 h2).1
   have Vp:(leftOf cc seen).toList=cc.toList.filter fun e => !seen.contains e.born:=by unfold leftOf;simp
   have hlen:pp.2.length=(leftOf cc seen).size:=by rw[h8.1,←Vp,Array.length_toList]
   rcases run_next_at (P:=P) w ty b m since since seen cc since h2 h4 h7 (Nat.le_refl _) with⟨mN,dy⟩|⟨e,gH,w1,D7,dy⟩
   ·have M3:pp.2.isEmpty=true:=by rw[List.isEmpty_iff];exact List.eq_nil_of_length_eq_zero (by rw[hlen,mN])
    rw[M3]at he
    simp only[cond_true]at he
    exact⟨_,hh,_,w,dy,Next.refl g,by simp only[aw,ar];exact⟨_,rfl,_,_,rfl,rfl,rfl⟩,he,fun p=>by simp only[aK,aE];exact⟨trivial,trivial⟩,fun _ _ _ h=>h⟩
   ·obtain⟨k,hk,hke⟩:=List.mem_iff_getElem.1 gH
    have nX:k<pp.2.length:=by rw[hlen,←Array.length_toList];exact hk
    have M3:pp.2.isEmpty=false:=by
     cases hl:pp.2 with
     |nil=>rw[hl]at nX;simp at nX
     |cons _ _=>rfl
    rw[M3]at he
    simp only[cond_false]at he
    have hj:=oy he k nX
    rw[List.getElem?_eq_getElem nX,Option.bind_some]at hj
    have WN:(cc.toList.filter fun e => !seen.contains e.born)[k]? = some e:=by rw[←Vp,List.getElem?_eq_getElem hk,hke]
    have GZ:=h8.2 k _ e (List.getElem?_eq_getElem nX) WN
    obtain⟨⟨k1,k2,k3⟩,v1,v2,v3⟩:=GZ
    have ael:e∈cc.toList:=(List.mem_filter.1 (List.mem_of_getElem? WN)).1
    have gd1:Good Z ψ hh.get w1 B0 O:=by rcases D7 with rfl|rfl;exact g;exact g.drawn
    have Fm:w1.heap=w.heap:=by rcases D7 with rfl|rfl<;>rfl
    have hmb:m≠b:=fun hmb=>by
     subst hmb
     exact(g.live id m (by rw[hg];simp) (by rw[h1];rfl)).1 h3
    have n1:=ss (N:=N) gd1 (id:=id) (by rw[hg];simp) (r:=b) (by rw[h1];rfl) (by rw[Fm];exact aM) (.mapIter (some m) since (seen.push e.born) since) (ok:=.iter kk1 vk) (x:=(some pp.2[k],pp.2.eraseIdx k)) (fun w' G4 sm=>by
     have Yz:cG Z w w':=fun c hc=>(sm c hc).trans (by rw[Fm])
     refine⟨b,m,since,seen.push e.born,cc,since,h1,by rw[G4,Fm];simp[aM],h3,?_,h5,rfl,h7,?_,?_⟩
     ·rw[G4,Fm,wV _ (fun e=>hmb e.symm)];exact h4
     ·rw[filter_push h5 WN]
      exact(kG.erase h8 k).mono (fun _ h=>h) Yz
     ·refine⟨e,ael,by simp,⟨rfl,fun q y e' mN zm=>?_⟩⟩
      cases q with
      |zero=>cases mN;cases zm;exact⟨⟨k1.mono (fun _ h=>h) Yz,k2,k3⟩,v1.mono (fun _ h=>h) Yz,v2,v3⟩
      |succ q=>simp at mN)
    have n2:Next Z ψ hh.get w B0 O N Z ψ (eC hh.get id (some (.own (.iter kk1 vk) (some pp.2[k],pp.2.eraseIdx k)))) { w1 with heap:=w1.heap.setIfInBounds b (.mapIter (some m) since (seen.push e.born) since) }:=by
     rcases D7 with rfl|rfl
     ·exact n1
     ·exact n1.drawn
    refine⟨_,hh.set id (.own (.iter kk1 vk) (some pp.2[k],pp.2.eraseIdx k)),_,_,dy,by rw[mV];exact n2,?_,hj,fun p=>?_,fun i ty cs hb=>?_⟩
    ·have Yz:cG Z w ({ w1 with heap:=w1.heap.setIfInBounds b (.mapIter (some m) since (seen.push e.born) since) }:World):=n2.same g
     simp only[aw,ar]
     exact⟨_,rfl,_,_,rfl,rfl,_,_,rfl,ma (k1.mono (fun _ h=>h) Yz) k2 k3,_,_,rfl,ma (v1.mono (fun _ h=>h) Yz) v2 v3,rfl⟩
    ·simp only[aK,aE]
     exact⟨trivial,ot _ _ _,ot _ _ _,trivial⟩
    ·rw[mV]at hb
     unfold eC at hb
     split at hb
     ·cases hb
     ·exact hb
  ·cases he
 ·cases he
theorem Hq(op:BinOp)(t:TypeId)(a b:Operand)(x y:Option Addr)(n m c d:Nat):(eqGuard op t a b (.slice x n c) (.slice y m d)).run P w=.ok () w:=by cases op<;>simp[eqGuard]
theorem Dm{t e:TypeId}(ht:P.underlying t=some (.slice e))(a:Option Addr)(n c:Nat):(Op.equal t (.slice a n c) (.slice none 0 0)).run P w=.ok a.isNone w:=by
 have key:∀d,(Op.equalIn (d+1) t (.slice a n c) (.slice none 0 0)).run P w=.ok a.isNone w:=fun d=>by
  cases a<;>simp[Op.equalIn,run_underlying ht]
 exact key 9999
theorem J6{o:Oper}{x:Operand}{want:Bool}(h:isNil P o=some (x,want)):∃op t v t' e,o.op=.binOp op t x (.const v) t'∧P.underlying t=some (.slice e)∧v=.slice none 0 0∧((op=.eql∧want=true)∨(op=.neq∧want=false)):=by
 unfold isNil at h
 split at h
 ·rename_i op t x' v t' Fl
  have hv:∀v:Value,wH v=.gu→v=.slice none 0 0:=fun v hv=>by
   unfold wH at hv
   split at hv<;>try (first|cases hv|(split at hv<;>cases hv);done)
   all_goals (split at hv<;>first|cases hv|skip)
   ·rename_i hc;obtain⟨rfl,rfl,rfl⟩:=hc;rfl
   all_goals (split at hv<;>cases hv)
  split at h
  ·rename_i e h1 h2 h3;cases h;exact⟨_,_,_,_,_,Fl,h2,hv _ h3,.inl ⟨rfl,rfl⟩⟩
  ·rename_i e h1 h2 h3;cases h;exact⟨_,_,_,_,_,Fl,h2,hv _ h3,.inr ⟨rfl,rfl⟩⟩
  ·cases h
 ·cases h
theorem Px{R:Type}{hh:Heap}(g:Good Z ψ hh.get w B0 O){x:AV}{u:Value}{op:BinOp}{t e:TypeId}(xo yo:Operand)(hx:aw Z ψ hh.get w x u)(ht:P.underlying t=some (.slice e)){want:Bool}(ho:(op=.eql∧want=true)∨(op=.neq∧want=false)){kk:AV→Option R}{r:R}(he:uZ hh x want kk=some r) :
  ∃c:Bool,((eqGuard op t xo yo u (.slice none 0 0)).run P w=.ok () w∧(binOp op t u (.slice none 0 0)).run P w=.ok (.bool c) w)∧kk (.bool c)=some r:=by
 have run:∀(a:Option Addr) (n c:Nat),(eqGuard op t xo yo (.slice a n c) (.slice none 0 0)).run P w=.ok () w∧(binOp op t (.slice a n c) (.slice none 0 0)).run P w=.ok (.bool (a.isNone==want)) w:=fun a n c=>by
  refine⟨Hq _ _ _ _ _ _ _ _ _ _,?_⟩
  rcases ho with⟨rfl,rfl⟩|⟨rfl,rfl⟩<;>simp only[Sem.run_bind,Result.andThen_ok,binOp,Dm ht,Sem.run_pure]<;>cases a.isNone<;>rfl
 have fin:∀(n:Nat) (a:Option Addr) (c:Nat) (xs:Bool),(a=none→xs=true)→cond xs (ta 2 fun j=>kk (.bool ((j==0)==want))) (kk (.bool (!want)))=some r →
   ∃c':Bool,((eqGuard op t xo yo (.slice a n c) (.slice none 0 0)).run P w=.ok () w∧(binOp op t (.slice a n c) (.slice none 0 0)).run P w=.ok (.bool c') w)∧kk (.bool c')=some r:=fun n a c xs si h=>by
  refine⟨_,run a n c,?_⟩
  cases xs with
  |true =>
   simp only[cond_true]at h
   cases a with
   |none=>exact oy h 0 (by decide)
   |some a=>exact oy h 1 (by decide)
  |false =>
   simp only[cond_false]at h
   cases a with
   |none=>cases si rfl
   |some a=>cases want<;>exact h
 unfold uZ at he
 split at he
 ·rename_i hv
  have hxn:x=.gu:=by
   cases x<;>simp only[cV]at hv<;>try cases hv
   ·rfl
   ·split at hv<;>cases hv
  subst hxn
  simp only[aw]at hx
  subst hx
  exact⟨_,run none 0 0,by cases want<;>exact he⟩
 ·rename_i ex k xs hv
  cases x with
  |sl ex' k' Y1 =>
   simp only[cV]at hv
   cases hv
   simp only[aw,aH]at hx
   obtain⟨⟨v,hv,A,c,rfl,h1,h2,_⟩,_⟩:=hx
   cases hv
   refine fin _ A c _ (fun hA=>?_) he
   have:=h2 hA
   rw[List.isEmpty_iff]
   exact List.eq_nil_of_length_eq_zero (by omega)
  |bO id =>
   simp only[cV]at hv
   simp only[aw]at hx
   split at hv
   ·rename_i hg
    cases hv
    have hu:=hx.2 (by rw[hg];simp)
    obtain⟨vs,⟨_,h1⟩,_⟩:=g.row id _ _ hg
    rw[←hu]at h1
    rcases h1 with⟨h1,A,rfl⟩|⟨gg,cap,cur,rfl,_⟩
    ·exact fin _ A 0 _ (fun _=>List.isEmpty_iff.2 (List.eq_nil_of_length_eq_zero h1)) he
    ·exact fin _ _ _ _ (fun h=>by cases h) he
   ·cases hv
   ·cases hv
  |_=>simp only[cV]at hv<;>cases hv
 ·cases he
theorem Bj{draw:Bool}{rid:Nat}{ops:Array Oper}{b:Array Nat}{i Jz:Nat}{e:bK}{S:Nat→Prop}{hh:Heap}(hm:tD (mP rid S) h)(ha:∀j,Jz.testBit j=true→S j)(he:ia draw rid ops b i Jz e=true) :
  aK (mP rid fun k=>S k∨k=i) e.v∧tD (mP rid fun k=>S k∨k=i) (e.hp h):=by
 have GK:∀j,(Jz ||| 2 ^ i).testBit j=true→S j∨j=i:=fun j hj=>by
  rw[Nat.testBit_or,Bool.or_eq_true]at hj
  rcases hj with hj|hj
  ·exact .inl (ha j hj)
  ·rw[Nat.testBit_two_pow]at hj;exact .inr (by simpa using hj:i=j).symm
 have up:tD (mP rid fun k=>S k∨k=i) h:=fun id ty cs hb=>(hm id ty cs hb).imp (fun id h1 h2=>.inl (h1 h2))
 cases e with
 |val v=>exact⟨pQ (fun j hj=>.inl (ha j hj)) he,up⟩
 |new v os =>
  simp only[ia,Bool.and_eq_true]at he
  refine⟨pQ GK he.1.1,fun id ty cs hb=>?_⟩
  simp only[bK.hp]at hb
  split at hb
  ·rename_i o ho
   cases hb
   exact(mr GK he.2 _ _ ho).2 _ _ rfl
  ·exact up id ty cs hb
 |wr v h' =>
  simp only[ia,Bool.and_eq_true]at he
  exact⟨pQ GK he.1.2,fun id ty cs hb=>(mr GK he.2 _ _ hb).2 _ _ rfl⟩
theorem Dn{i j:Nat}(h:(2 ^ i-1).testBit j=true):j<i:=by
 rw[Nat.testBit_two_pow_sub_one]at h;simpa using h
def xc(mk:Bool)(rid i id:Nat):Prop:=mk=true→mP rid (fun k=>k<i) id
theorem lO(E:Env P Eqs Sg F){rid n:Nat}{ops:Array Oper}{b:Array Nat}(mk:Bool)(J7:mk=false→∀(i:Nat) (o:Oper),ops[i]? = some o→makes o.op=false)(hn:ops.size≤128)(lj:∀(i:Nat) (o:Oper),ops[i]? = some o→iM n o=true){kk:St→Option R}{r:R}{Q:Exit→Act→World→Prop}
  (hQ:∀eU Z ψ a w,kk eU=some r→Ok Z0 w0 O ψ0 Z ψ eU.heap.get w→c8 Z ψ eU.heap.get w n (look eU.tmps) a→Q .normal a w) :
  ∀(l:List (Nat×Oper)) (i:Nat) (st:St) (Z:Nat→Prop) (ψ:Nat→Value) (a:Act) (w:World),Bi ops i l→bF P Eqs Sg F rid false ops b l st kk=some r →
   J (xc mk rid i) n Z0 w0 O ψ0 Z ψ (look st.tmps) st.heap.get a w→wpOps P ops Q (l.map Prod.fst) a w
 |[],i,st,Z,ψ,a,w,_,hx,j=>hQ st Z ψ a w hx j.ok j.tr
 |(i',o)::l,i,st,Z,ψ,a,w,hl,hx,j=>by
  obtain⟨rfl,ho,hl⟩:=hl
  have hi:i'<128:=Nat.lt_of_lt_of_le (Array.getElem?_eq_some_iff.1 ho).1 hn
  have SW:=lj i' o ho
  have ih:=lO E (rid:=rid) (b:=b) mk J7 hn lj hQ l (i'+1)
  have up:∀id,xc mk rid i' id→xc mk rid (i'+1) id:=fun id h hm hr=>Nat.lt_succ_of_lt (h hm hr)
  have runs:∀iV:St,look iV.tmps=look st.tmps→iV.heap=st.heap→Region.wanted o (yielded ops a.tmps)=true →
    (match o8 P (opId rid i') iV o with
    |some eU=>bF P Eqs Sg F rid false ops b l eU kk
    |none=>match uY o with
    |some x=>lC iV.heap (ρ iV.tmps x) fun v h=>bF P Eqs Sg F rid false ops b l (({ iV with heap:=h }:St).put o.dst v) kk
    |none=>match isNil P o with
    |some (x,want)=>uZ iV.heap (ρ iV.tmps x) want fun v=>bF P Eqs Sg F rid false ops b l (iV.put o.dst v) kk
    |none=>c4 P Eqs Sg F (opId rid i') iV.heap iV.tmps o fun e=>if ia false rid ops b i' (2 ^ i' - 1) e then bF P Eqs Sg F rid false ops b l ({ iV with heap:=match e with | .wr _ h=>h|e=>e.h iV.heap }.put o.dst e.v) kk else none)=some r →
    wpOps P ops Q (((i',o)::l).map Prod.fst) a w:=by
   intro iV h1 h2 hw hx
   split at hx
   ·rename_i eU ox
    simp only[List.map_cons,wpOps,ho,hw,if_true]
    refine .inl ?_
    have Zy:makes o.op=true:=by
     unfold o8 at ox
     split at ox
     ·rename_i Fl;rw[Fl];rfl
     ·cases ox
    have aen:mk=true:=by
     cases Nc:mk with
     |true=>rfl
     |false=>rw[J7 Nc i' o ho]at Zy;cases Zy
    have j1:J (xc mk rid i') n Z0 w0 O ψ0 Z ψ (look iV.tmps) iV.heap.get a w:=by rw[h1,h2];exact j
    obtain⟨V,w',Z',ψ',dy,j'⟩:=J4 (P:=P) (p':=xc mk rid (i'+1)) (fun id hp nK=>by
     obtain⟨h3,h4⟩:=nK.parts hi
     have:=hp aen h3
     rw[h4]at this
     exact Nat.lt_irrefl _ this) up (fun _ h3=>by
      have:=((Hl (rid:=rid) (i:=i')).parts hi).2
      rw[this];exact Nat.lt_succ_self _) j1 SW ox
    unfold Oper.wp
    rw[dy]
    exact ih eU Z' ψ' _ w' hl hx j'
   split at hx
   ·rename_i x D8
    simp only[List.map_cons,wpOps,ho,hw,if_true]
    refine .inl ?_
    have Fl:o.op=.next x false:=by
     unfold uY at D8
     split at D8
     ·rename_i Fl;cases D8;exact Fl
     ·cases D8
    have Vo:aw Z ψ iV.heap.get w (ρ iV.tmps x) (a.eval x):=q8 (by rw[h1,h2];exact j.tr) x
    have g1:Good Z ψ iV.heap.get w w0.heap.size O:=by rw[h2];exact j.ok.eL
    obtain⟨v,h',V,w',dy,nx,hr,Tt,SP,qy⟩:=J5 (P:=P) (N:=fun _=>False) (ty:=o.type) g1 Vo hx
    have Py:(execOp a.eval o).run P w=.ok (.value V) w':=by
     obtain⟨dst,op,type,pos,after,guard⟩:=o
     simp only at Fl
     subst Fl
     simp only at dy
     simp[execOp,dy]
    unfold Oper.wp
    rw[Py]
    refine ih _ Z ψ _ w' hl Tt ?_
    rw[iC,dn]
    have j1:J (xc mk rid i') n Z0 w0 O ψ0 Z ψ (look iV.tmps) iV.heap.get a w:=by rw[h1,h2];exact j
    refine⟨j1.ok.next (fun id h=>h.elim) nx,(j1.tr.next g1 nx (fun d=>(j1.tm d).imp fun _ _ h=>h)).put SW hr,fun d=>?_,fun k ty cs hb=>(j1.hm k ty cs (qy k ty cs hb)).imp up⟩
    cases lj:o.dst with
    |none=>exact(j1.tm d).imp up
    |some d0 =>
     simp only[jw,eC]
     split
     ·exact SP _
     ·exact(j1.tm d).imp up
   split at hx
   ·rename_i x want Zz
    obtain⟨op,t,v,t',et,Fl,ht,rfl,q9⟩:=J6 Zz
    simp only[List.map_cons,wpOps,ho,hw,if_true]
    refine .inl ?_
    have Vo:aw Z ψ iV.heap.get w (ρ iV.tmps x) (a.eval x):=q8 (by rw[h1,h2];exact j.tr) x
    have g1:Good Z ψ iV.heap.get w w0.heap.size O:=by rw[h2];exact j.ok.eL
    obtain⟨c,dy,Tt⟩:=Px (P:=P) g1 x (.const (.slice none 0 0)) Vo ht q9 hx
    have Py:(execOp a.eval o).run P w=.ok (.value (.bool c)) w:=by
     obtain⟨dst,op',type,pos,after,guard⟩:=o
     simp only at Fl
     subst Fl
     have e1:a.eval (.const (.slice none 0 0))=.slice none 0 0:=rfl
     simp[execOp,e1,dy.1,dy.2]
    unfold Oper.wp
    rw[Py]
    refine ih _ Z ψ _ w hl Tt ?_
    rw[iC,dn]
    have j1:J (xc mk rid i') n Z0 w0 O ψ0 Z ψ (look iV.tmps) iV.heap.get a w:=by rw[h1,h2];exact j
    refine⟨j1.ok,j1.tr.put SW (by simp only[aw]),fun d=>?_,fun k ty cs hb=>(j1.hm k ty cs hb).imp up⟩
    cases lj:o.dst with
    |none=>exact(j1.tm d).imp up
    |some d0 =>
     simp only[jw,eC]
     split
     ·simp only[aK]
     ·exact(j1.tm d).imp up
   rw[lN]at hx
   obtain⟨e,he,hx⟩:=Option.bind_eq_some_iff.1 hx
   split at hx
   ·rename_i mO
    simp only[List.map_cons,wpOps,ho,hw,if_true]
    refine .inl ?_
    have hh:iV.heap.get=st.heap.get:=by rw[h2]
    have ox:aK (xc mk rid (i'+1)) e.v∧tD (xc mk rid (i'+1)) (e.hp st.heap.get):=by
     cases Nc:mk with
     |false =>
      have ht:xc false rid (i'+1)=fun _=>True:=funext fun id=>propext ⟨fun _=>trivial,fun _ h=>by cases h⟩
      rw[ht];exact⟨aK.top _,fun _ _ cs _=>aE.top cs⟩
     |true =>
      have Tx:tD (mP rid fun k=>k<i') st.heap.get:=fun id ty cs hb=>(j.hm id ty cs hb).imp fun id h1=>h1 Nc
      have h3:=Bj (hh:=iV.heap) Tx (fun k hk=>Dn hk) mO
      have hS:∀k,(k<i'∨k=i')→k<i'+1:=fun k hk=>by omega
      exact⟨h3.1.imp fun id h1 _ h2=>hS _ (h1 h2),fun id ty cs hb=>(h3.2 id ty cs hb).imp fun id h1 _ h2=>hS _ (h1 h2)⟩
    refine J.op E (p:=xc mk rid i') (p':=xc mk rid (i'+1)) (rid:=rid) (i:=i') (s:=iV.tmps) (fun hm id hp nK => ?_) j SW (fun x _=>q8 (by rw[h1];exact j.tr) x) (fun x _=>Nb (by rw[h1];exact j.tm) x) (fun id o hg=>by rw[hh]at hg;exact hg) he (fun _ _ _=>hh) up ox.1 ox.2 fun a' w' Z' ψ' j' => ?_
    ·cases Nc:mk with
     |false=>rw[J7 Nc i' o ho]at hm;cases hm
     |true =>
      obtain⟨h3,h4⟩:=nK.parts hi
      have:=hp Nc h3
      rw[h4]at this
      exact Nat.lt_irrefl _ this
    refine ih _ Z' ψ' a' w' hl hx ?_
    rw[iC,dn]
    have j2:J (xc mk rid (i'+1)) n Z0 w0 O ψ0 Z' ψ' (jw (look iV.tmps) o.dst e.v) (bK.heap e iV.heap).get a' w':=by rw[bK.Hm,h1,h2];exact j'
    exact j2
   ·cases hx
  have Bk:∀iV:St,look iV.tmps=look st.tmps→iV.heap=st.heap→Region.wanted o (yielded ops a.tmps)=false →
    bF P Eqs Sg F rid false ops b l (iV.put o.dst (.nW [])) kk=some r→wpOps P ops Q (((i',o)::l).map Prod.fst) a w:=by
   intro iV h1 h2 hw hx
   simp only[List.map_cons,wpOps,ho,hw,Bool.false_eq_true,if_false]
   refine ih _ Z ψ _ w hl hx ?_
   rw[iC,dn,h1,h2]
   exact j.skip SW up
  rw[bF]at hx
  simp only[Bool.false_eq_true,if_false]at hx
  split at hx
  ·rename_i hg
   exact runs st rfl rfl (by simp[Region.wanted,hg]) hx
  ·rename_i jj want hg
   split at hx
   ·cases hx
   ·rename_i d hd
    split at hx
    ·rename_i t ht
     have hw:=Bh j.tr hg hd ht
     have hp:∀b,t=b→look (st.put (some d) (.bool b)).tmps=look st.tmps:=fun b hb=>by
      subst hb;rw[iC];exact D5 ht
     cases t<;>simp only[cond_true,cond_false]at hx<;>split at hx<;>rename_i q9
     ·exact Bk _ (hp false rfl) (dn _ _ _) (by rw[hw];simp[q9]) hx
     ·exact runs _ (hp false rfl) (dn _ _ _) (by rw[hw];simp[q9]) hx
     ·exact runs _ (hp true rfl) (dn _ _ _) (by rw[hw];simp[q9]) hx
     ·exact Bk _ (hp true rfl) (dn _ _ _) (by rw[hw];simp[q9]) hx
    ·rename_i vs ht
     exact Bk st rfl rfl (yL j.tr hg hd ht) hx
    ·cases hx
end Go.Vs
namespace Go.Vs
variable {P:Program} {Eqs:TypeId→Option K} {Sg:FuncId→Option aL} {F:(f:FuncId)→(g:aL)→g.A→Option g.B} {R:Type}
variable {Z Z' Z0:Nat→Prop} {ψ ψ' ψ0:Nat→Value} {h h':Hp} {w w' w0:World} {B0:Nat} {O N:Nat→Prop}
theorem kM(hp h:Heap)(i:Nat):∀(ft:List Nat),(fG ft hp h).get i=if i∈ft then(match hp.get i with|some o=>some o|none=>h.get i) else h.get i
 |[]=>by simp[fG]
 |j::r=>by
  have ih:=kM hp h i r
  unfold fG at ih ⊢
  cases hj:hp.get j with
  |none =>
   rw[List.filterMap_cons,hj]
   simp only[Option.map_none]
   rw[ih]
   by_cases e:i=j
   ·subst e;simp[hj]
   ·simp[e]
  |some o =>
   rw[List.filterMap_cons,hj]
   simp only[Option.map_some,List.cons_append,Heap.get]
   rw[ih]
   by_cases e:j=i
   ·subst e;simp[hj]
   ·have e':¬i=j:=fun h=>e h.symm
    simp[e,e']
mutual
theorem yM{ft:List Nat}:∀{v:AV},qQ ft v=true→aK (fun i=>i∉ft) v
 |.ref id _ _ _,h=>by simp only[aK];simpa[qQ] using h
 |.bO id,h=>by simp only[aK];simpa[qQ] using h
 |.fn _ cap,h=>by simp only[aK];exact kN (by simpa only[qQ] using h)
 |.agg cs,h=>by simp only[aK];exact kN (by simpa only[qQ] using h)
 |.nW vs,h=>by simp only[aK];exact kN (by simpa only[qQ] using h)
 |.no,_=>by simp only[aK]
 |.bool _,_=>by simp only[aK]
 |.int _ _,_=>by simp only[aK]
 |.str _,_=>by simp only[aK]
 |.lY,_=>by simp only[aK]
 |.gu,_=>by simp only[aK]
 |.fp _ _ _,_=>by simp only[aK]
 |.sl _ _ _,_=>by simp only[aK]
 |.mp _ _ _,_=>by simp only[aK]
theorem kN{ft:List Nat}:∀{l:List AV},tW ft l=true→aE (fun i=>i∉ft) l
 |[],_=>by simp only[aE]
 |v::r,h=>by
  simp only[tW,Bool.and_eq_true]at h
  simp only[aE]
  exact⟨yM h.1,kN h.2⟩
end
theorem kO{ft:List Nat}:∀{hh:Heap},tX ft hh=true→∀i o,hh.get i=some o→i∉ft∧∀ty cs,o=.box ty cs→aE (fun i=>i∉ft) cs
 |[],_,i,o,h=>by simp[Heap.get]at h
 |(j,.box ty cs)::r,hc,i,o,h=>by
  simp only[tX,Bool.and_eq_true]at hc
  simp only[Heap.get]at h
  split at h
  ·rename_i e;subst e;cases h
   exact⟨by simpa using hc.1,fun ty cs e=>by cases e;exact kN hc.2.1⟩
  ·exact kO hc.2.2 i o h
 |(j,.own ok x)::r,hc,i,o,h=>by
  simp only[tX,Bool.and_eq_true]at hc
  simp only[Heap.get]at h
  split at h
  ·rename_i e;subst e;cases h
   exact⟨by simpa using hc.1,fun ty cs e=>by cases e⟩
  ·exact kO hc.2 i o h
theorem Next.frame{hp h1:Heap}{ft:List Nat}(g:Good Z ψ hp.get w B0 O)(hB:B0≤w.heap.size)(bu:∀i ty cs,hp.get i=some (.box ty cs)→aE (fun i=>¬N i) cs)
  (n:Next Z ψ (iu hp ft).get w w.heap.size (Own ψ (iu hp ft).get) N Z' ψ' h1.get w') (hc:tX ft h1=true) :
  ∃eF,Next Z ψ hp.get w B0 O N Z' eF (fG ft hp h1).get w'∧∀i,i∉ft→eF i=ψ' i:=by
 classical
 have gd:∀i,(iu hp ft).get i=if i∈ft then none else hp.get i:=fun i=>ou ft hp i
 have bz:∀b,Own ψ (iu hp ft).get b→Own ψ hp.get b:=fun b ⟨i,h1,h2⟩=>⟨i,by rw[gd]at h1;split at h1;exact absurd rfl h1;exact h1,h2⟩
 have qA:∀i,i∈ft→h1.get i=none:=fun i hi=>by
  cases e:h1.get i with
  |none=>rfl
  |some o=>exact absurd hi (kO hc i o e).1
 have gf:∀i,(fG ft hp h1).get i=if i∈ft then hp.get i else h1.get i:=fun i=>by
  rw[kM]
  by_cases hi:i∈ft
  ·rw[if_pos hi,if_pos hi,qA i hi];cases hp.get i<;>rfl
  ·rw[if_neg hi,if_neg hi]
 let eF:Nat→Value:=fun i=>if i∈ft then ψ i else ψ' i
 have p1:∀i,i∈ft→eF i=ψ i:=fun i hi=>if_pos hi
 have p2:∀i,i∉ft→eF i=ψ' i:=fun i hi=>if_neg hi
 have apart:∀i b,i∈ft→hp.get i≠none→ob (ψ i)=some b→¬Own ψ (iu hp ft).get b:=fun i b hi h2 h3 ⟨j,h4,h5⟩=>by
  rw[gd]at h4
  split at h4
  ·exact h4 rfl
  ·rename_i hj
   have:=g.apart i j b h2 h4 h3 h5
   subst this;exact hj hi
 have cY:∀i b,i∈ft→hp.get i≠none→ob (ψ i)=some b→w'.heap[b]? = w.heap[b]? := fun i b hi h2 h3 =>
  n.keep.block b (g.bX ⟨i,h2,h3⟩) (apart i b hi h2 h3)
 have keep:dh ψ hp.get w w':=⟨n.keep.os,n.keep.tape,n.keep.output,n.keep.size,fun b hb hn=>n.keep.block b hb fun ho=>hn (bz b ho)⟩
 have sm:cG Z w w':=keep.same g
 have ids:∀i,(fG ft hp h1).get i≠none→(hp.get i≠none∧eF i=ψ i)∨N i:=fun i hi=>by
  rw[gf]at hi
  by_cases hf:i∈ft
  ·rw[if_pos hf]at hi;exact .inl ⟨hi,p1 i hf⟩
  ·rw[if_neg hf]at hi
   rcases n.ids i hi with⟨h2,h3⟩|h2
   ·rw[gd,if_neg hf]at h2
    exact .inl ⟨h2,(p2 i hf).trans h3⟩
   ·exact .inr h2
 have nz:∀i b,i∈ft→hp.get i≠none→ob (ψ i)=some b→¬Z' b:=fun i b hi h2 h3 hz=>by
  rcases n.eV b hz with h4|h4|h4
  ·exact(g.live i b h2 h3).1 h4
  ·exact apart i b hi h2 h3 h4
  ·have:=g.bX ⟨i,h2,h3⟩;omega
 refine⟨eF,⟨n.fX,fun b hb=>(n.eV b hb).imp (fun h=>h) (fun h=>h.imp (bz b) fun h=>h),keep,ids,⟨fun i ty cs hb=>?_,fun i ok x hb=>?_,fun i b h2 h3=>?_,fun i j b h2 h3 h4 h5=>?_,n.eL.j5⟩⟩,p2⟩
 ·rw[gf]at hb
  by_cases hf:i∈ft
  ·rw[if_pos hf]at hb
   obtain⟨gg,vs,e1,e2,e3,e4⟩:=g.box i ty cs hb
   refine⟨gg,vs,by rw[p1 i hf,e1],(cY i gg hf (by rw[hb];simp) (by rw[e1];rfl)).trans e2,e3.move n.fX sm (fun j hj bp=>(ids j bp).resolve_right hj) (bu i ty cs hb),e4⟩
  ·rw[if_neg hf]at hb
   obtain⟨gg,vs,e1,e2,e3,e4⟩:=n.eL.box i ty cs hb
   refine⟨gg,vs,by rw[p2 i hf,e1],e2,e3.move (fun _ h=>h) (cG.refl _ _) (fun j hj bp=>?_) ((kO hc i _ hb).2 ty cs rfl),e4⟩
   rw[gf,if_neg hj]at bp
   exact⟨bp,p2 j hj⟩
 ·rw[gf]at hb
  by_cases hf:i∈ft
  ·rw[if_pos hf]at hb
   rw[p1 i hf]
   exact(g.row i ok x hb).kept n.fX sm (fun b j7=>cY i b hf (by rw[hb];simp) j7)
  ·rw[if_neg hf]at hb
   rw[p2 i hf]
   exact n.eL.row i ok x hb
 ·rw[gf]at h2
  by_cases hf:i∈ft
  ·rw[if_pos hf]at h2
   rw[p1 i hf]at h3
   exact⟨nz i b hf h2 h3,(g.live i b h2 h3).2⟩
  ·rw[if_neg hf]at h2
   rw[p2 i hf]at h3
   obtain⟨h4,h5⟩:=n.eL.live i b h2 h3
   refine⟨h4,h5.elim (fun h=>.inl (Nat.le_trans hB h)) fun h=>?_⟩
   obtain⟨j,h6,h7⟩:=bz b h
   exact(g.live j b h6 h7).2
 ·have mixed:∀i j b,i∈ft→j∉ft→(fG ft hp h1).get i≠none→(fG ft hp h1).get j≠none→ob (eF i)=some b→ob (eF j)=some b→False:=fun i j b hi hj h2 h3 h4 h5=>by
   rw[gf,if_pos hi]at h2
   rw[gf,if_neg hj]at h3
   rw[p1 i hi]at h4
   rw[p2 j hj]at h5
   rcases (n.eL.live j b h3 h5).2 with h6|h6
   ·have:=g.bX ⟨i,h2,h4⟩;omega
   ·exact apart i b hi h2 h4 h6
  by_cases hi:i∈ft<;>by_cases hj:j∈ft
  ·rw[gf,if_pos hi]at h2
   rw[gf,if_pos hj]at h3
   rw[p1 i hi]at h4
   rw[p1 j hj]at h5
   exact g.apart i j b h2 h3 h4 h5
  ·exact(mixed i j b hi hj h2 h3 h4 h5).elim
  ·exact(mixed j i b hj hi h3 h2 h5 h4).elim
  ·rw[gf,if_neg hi]at h2
   rw[gf,if_neg hj]at h3
   rw[p2 i hi]at h4
   rw[p2 j hj]at h5
   exact n.eL.apart i j b h2 h3 h4 h5
theorem J.opF(E:Env P Eqs Sg F){rid n i:Nat}{p:Nat→Prop}{T:Nat→AV}{a:Act}{s:List (Nat×AV)}{o:Oper}(hS:makes o.op=true→∀id,p id→¬Of rid i id){hp h1:Heap}{v:AV}{ft:List Nat}(j:J p n Z0 w0 O ψ0 Z ψ T hp.get a w)(hd:iM n o=true)
  (hT:∀x∈o.op.operands,aw Z ψ hp.get w (ρ s x) (a.eval x)) (hTm:∀x∈o.op.operands,aK p (ρ s x)) (he:c4 P Eqs Sg F (opId rid i) (iu hp ft) s o some=some (.wr v h1)) (hc:nG ft (.wr v h1)=true)
  {p':Nat→Prop} (Oy:∀k,p k→p' k) (hv:aK p' v) (WL:tD p' (fG ft hp h1).get) {next:Act→World→Prop} {Q:Exit→Act→World→Prop}
  (hk:∀a' w' Z' ψ',J p' n Z0 w0 O ψ0 Z' ψ' (jw T o.dst v) (fG ft hp h1).get a' w'→next a' w'):o.wp P a w next Q:=by
 have WM:∀id,p id→¬(makes o.op=true∧Of rid i id):=fun id h ⟨h1,h2⟩=>hS h1 id h h2
 simp only[nG,Bool.and_eq_true]at hc
 have bz:∀id o,(iu hp ft).get id=some o→hp.get id=some o:=fun id o h=>by rw[ou]at h;split at h;cases h;exact h
 have bp:∀id,(iu hp ft).get id≠none→hp.get id≠none:=fun id h=>by
  obtain⟨o,ho⟩:=Option.ne_none_iff_exists'.1 h
  rw[bz id o ho];simp
 have bu:∀i' ty cs,hp.get i'=some (.box ty cs)→aE (fun id=>¬(makes o.op=true∧Of rid i id)) cs:=fun id ty cs hb=>(j.hm id ty cs hb).imp WM
 have gs:Good Z ψ (iu hp ft).get w w.heap.size (Own ψ (iu hp ft).get):=(j.ok.eL.sub bz).Fh _
 refine Vn (N:=fun id=>makes o.op=true∧Of rid i id) E gs (Nat.le_refl _) (fun _ _ h=>h) (id:=opId rid i) (fun hm k hk=>⟨hm,Lo hk⟩) (fun x hx=>(hT x hx).qz bz) (fun x hx=>(hTm x hx).imp WM) (fun id ty cs hb=>bu id ty cs (bz _ _ hb)) (fun _ _ _=>rfl) he fun V w' Z' ψ' nx hr=>?_
 obtain⟨eF,n2,h2⟩:=Next.frame j.ok.eL j.ok.size bu nx hc.2
 have C6:aw Z' eF (fG ft hp h1).get w' v V:=hr.move (p:=fun i=>i∉ft) (fun _ h=>h) (cG.refl _ _) (fun k hk bp=>by
  rw[kM,if_neg hk]at bp
  exact⟨bp,h2 k hk⟩) (yM hc.1)
 refine hk _ w' Z' eF ⟨j.ok.next (fun id h=>by have:=h.2;unfold Of at this;omega) n2,(j.tr.next j.ok.eL n2 (fun d=>(j.tm d).imp WM)).put hd C6,fun d=>?_,WL⟩
 cases lj:o.dst with
 |none=>exact(j.tm d).imp Oy
 |some d0 =>
  simp only[jw,eC]
  split
  ·exact hv
  ·exact(j.tm d).imp Oy
end Go.Vs
namespace Go.Vs
variable {P:Program} {Eqs:TypeId→Option K} {Sg:FuncId→Option aL} {F:(f:FuncId)→(g:aL)→g.A→Option g.B} {R:Type}
variable {Z Z' Z0:Nat→Prop} {ψ ψ':Nat→Value} {h h':Hp} {w w' w0:World} {B0:Nat} {O N:Nat→Prop}
variable {rid n:Nat} {ops:Array Oper} {b:Array Nat}
def sF(b:Array Nat)(i j:Nat):Prop:=(b.getD i 0).testBit j=true
theorem D9(b:Array Nat)(j:Nat):∀(l:List Edge) (s:Nat),(l.foldl (fun s e=>if Region.binds .any e then s ||| 2 ^ e.on ||| b.getD e.on 0 else s) s).testBit j=true ↔
  s.testBit j=true∨∃e∈l,Region.binds .any e=true∧(j=e.on∨sF b e.on j)
 |[],s=>by simp
 |e::l,s=>by
  rw[List.foldl_cons,D9 b j l]
  by_cases hb:Region.binds .any e=true
  ·rw[if_pos hb]
   have h2:(2 ^ e.on).testBit j=true↔j=e.on:=by rw[Nat.testBit_two_pow];simp[eq_comm]
   simp only[Nat.testBit_or,Bool.or_eq_true,h2,List.mem_cons,exists_eq_or_imp,hb,true_and,sF]
   constructor
   ·rintro(((h|h)|h)|h)
    ·exact .inl h
    ·exact .inr (.inl (.inl h))
    ·exact .inr (.inl (.inr h))
    ·exact .inr (.inr h)
   ·rintro(h|(h|h)|h)
    ·exact .inl (.inl (.inl h))
    ·exact .inl (.inl (.inr h))
    ·exact .inl (.inr h)
    ·exact .inr h
  ·rw[if_neg hb]
   simp[hb]
theorem zX(hb:uV ops b=true){i j:Nat}{o:Oper}(ho:ops[i]? = some o):sF b i j↔∃e∈o.after.toList,Region.binds .any e=true∧(j=e.on∨sF b e.on j):=by
 have aM:=(Array.getElem?_eq_some_iff.1 ho).1
 have h1:=List.all_eq_true.1 hb i (List.mem_range.2 aM)
 rw[ho]at h1
 simp only[Bool.and_eq_true,beq_iff_eq]at h1
 unfold sF
 rw[h1.2,D9]
 simp[sF]
theorem J8(hb:uV ops b=true){i:Nat}{o:Oper}(ho:ops[i]? = some o){e:Edge}(he:e∈o.after.toList)(MY:Region.binds .any e=true):e.on<i:=by
 have aM:=(Array.getElem?_eq_some_iff.1 ho).1
 have h1:=List.all_eq_true.1 hb i (List.mem_range.2 aM)
 rw[ho]at h1
 simp only[Bool.and_eq_true]at h1
 have:=List.all_eq_true.1 h1.1 e he
 simpa[MY] using this
theorem Bl(hb:uV ops b=true):∀(i j:Nat),i<ops.size→sF b i j→j<i:=by
 intro i
 induction i using Nat.strongRecOn with
 |ind i ih =>
  intro j hi h
  obtain⟨e,he,MY,h1⟩:=(zX hb (Array.getElem?_eq_getElem hi)).1 h
  have WO:=J8 hb (Array.getElem?_eq_getElem hi) he MY
  rcases h1 with rfl|h1
  ·exact WO
  ·exact Nat.lt_trans (ih e.on WO j (by omega) h1) WO
theorem Ea(hb:uV ops b=true):∀(i j k:Nat),i<ops.size→sF b i j→sF b j k→sF b i k:=by
 intro i
 induction i using Nat.strongRecOn with
 |ind i ih =>
  intro j k hi h h'
  obtain⟨e,he,MY,h1⟩:=(zX hb (Array.getElem?_eq_getElem hi)).1 h
  have WO:=J8 hb (Array.getElem?_eq_getElem hi) he MY
  refine(zX hb (Array.getElem?_eq_getElem hi)).2 ⟨e,he,MY,?_⟩
  rcases h1 with rfl|h1
  ·exact .inr h'
  ·exact .inr (ih e.on WO j k (by omega) h1 h')
theorem get_filter(f:Nat→Bool):∀(hh:Heap) (i:Nat),Heap.get (hh.filter fun p=>f p.1) i=if f i then hh.get i else none
 |[],i=>by simp[Heap.get]
 |(j,o)::r,i=>by
  rw[List.filter_cons]
  split
  ·rename_i hj
   simp only[Heap.get]
   by_cases e:j=i
   ·subst e;simp only at hj;simp[hj]
   ·simp only[if_neg e];exact get_filter f r i
  ·rename_i hj
   rw[get_filter f r i]
   simp only[Heap.get]
   by_cases e:j=i
   ·subst e;simp only at hj;simp[hj]
   ·simp only[if_neg e]
theorem Nd(rid Jz:Nat)(hh:Heap)(id:Nat):(ahead rid Jz hh).get id=if qP rid Jz id then hh.get id else none:=by
 unfold ahead
 exact get_filter (fun i=>qP rid Jz i) hh id
theorem Pz(ft:List Nat)(hp:Heap)(e:bK):(ij ft hp e).v=e.v:=by cases e<;>rfl
theorem Hr{id:Nat}{hh:Heap}{s:List (Nat×AV)}{o:Oper}{x:Operand}{e:bK}(hl:jB o.op=some x)(he:c4 P Eqs Sg F id hh s o some=some e):∃v,e=.val v:=by
 obtain⟨dst,op,type,pos,after,guard⟩:=o
 cases op<;>simp only[jB]at hl<;>first|(cases hl;done)|skip
 case load t a =>
  simp only[c4,l8]at he
  repeat' (first|(cases he;done)|exact⟨_,(Option.some.inj he).symm⟩|split at he)
  all_goals
   obtain⟨y,_,he⟩:=Option.bind_eq_some_iff.1 he
   split at he<;>first|(cases he;done)|exact⟨_,(Option.some.inj he).symm⟩
 case indexAddr t a i =>
  simp only[c4,dD]at he
  repeat' (first|(cases he;done)|exact⟨_,(Option.some.inj he).symm⟩|split at he)
  all_goals first
   |(obtain⟨y,_,he⟩:=Option.bind_eq_some_iff.1 he;exact⟨_,(Option.some.inj he).symm⟩)
   |(unfold cond at he;split at he<;>first|(cases he;done)|exact⟨_,(Option.some.inj he).symm⟩)
theorem Eb{op:Op}{x:Operand}(hl:jB op=some x):nF op=false∧E0 op=false:=by
 cases op<;>simp only[jB]at hl<;>first|(cases hl;done)|exact⟨rfl,rfl⟩
theorem J9{id:Nat}{hh h2:Heap}{s:List (Nat×AV)}{o:Oper}{x:Operand}(hl:jB o.op=some x)(hg:∀i∈uX (ρ s x),h2.get i=hh.get i):c4 P Eqs Sg F id h2 s o some=c4 P Eqs Sg F id hh s o some:=by
 obtain⟨dst,op,type,pos,after,guard⟩:=o
 cases op<;>simp only[jB]at hl<;>first|(cases hl;done)|skip
 case load t a =>
  cases hl
  simp only[c4,l8]
  cases hv:ρ s x with
  |ref i s' j off=>rw[hv]at hg;simp only[uX,List.mem_singleton,forall_eq]at hg;simp only[hg]
  |_=>rfl
 case indexAddr t a i =>
  cases hl
  simp only[c4,dD]
  cases yj P t with
  |none=>rfl
  |some e =>
   simp only[]
   cases hv:ρ s x with
   |bO k =>
    rw[hv]at hg
    have wE:=hg k (by simp[uX])
    cases ρ s i<;>first|rfl|simp only[wE]
   |sl ex k xs=>cases ρ s i<;>rfl
   |_=>rfl
def qp(ops:Array Oper)(T:Nat→AV)(o:Oper)(t:Bool):Prop :=
 match o.guard with
 |none=>t=true
 |some (j,want)=>∃d,(ops[j]?).bind (·.dst)=some d∧((∃u,T d=.bool u∧(u==want)=t)∨(∃vs,T d=.nW vs∧t=false))
def Bm(P:Program)(Eqs:TypeId→Option K)(Sg:FuncId→Option aL)(F:(f:FuncId)→(g:aL)→g.A→Option g.B)(rid:Nat)(ops:Array Oper)(b:Array Nat)(T:Nat→Nat→AV)(H:Nat→Hp)(E:Nat→Option bK)(k:Nat)(o:Oper):Prop :=
 (∃e s hh,E k=some e∧look s=T k∧(∀id,Heap.get hh id=if qP rid (b.getD k 0) id then H k id else none)∧(∃e0,c4 P Eqs Sg F (opId rid k) (iu hh (iv ops b k s o)) s o some=some e0∧e=ij (iv ops b k s o) hh e0∧nG (iv ops b k s o) e0=true) ∧
  ia true rid ops b k (b.getD k 0) e=true∧qp ops (T k) o true∧T (k+1)=jw (T k) o.dst e.v∧H (k+1)=e.hp (H k)) ∨
 (E k=none∧qp ops (T k) o false∧T (k+1)=jw (T k) o.dst (.nW [])∧H (k+1)=H k)
theorem trace{kk:St→Option R}{r:R}:∀(l:List (Nat×Oper)) (i:Nat) (st:St),Bi ops i l→l.length=ops.size-i→bF P Eqs Sg F rid true ops b l st kk=some r →
  ∃(T:Nat→Nat→AV) (H:Nat→Hp) (E:Nat→Option bK),T i=look st.tmps∧H i=st.heap.get∧(∀k o,i≤k→ops[k]? = some o→Bm P Eqs Sg F rid ops b T H E k o) ∧
   ∃eU,kk eU=some r∧look eU.tmps=T (max i ops.size)∧eU.heap.get=H (max i ops.size)
 |[],i,st,_,hlen,hx=>by
  have Vk:ops.size≤i:=by simp at hlen;omega
  refine⟨fun _=>look st.tmps,fun _=>st.heap.get,fun _=>none,rfl,rfl,fun k o hk ho=>?_,st,hx,rfl,rfl⟩
  have:=(Array.getElem?_eq_some_iff.1 ho).1
  omega
 |(i',o)::l,i,st,hl,hlen,hx=>by
  obtain⟨rfl,ho,hl⟩:=hl
  have aM:=(Array.getElem?_eq_some_iff.1 ho).1
  have ih:=trace (kk:=kk) (r:=r) l (i'+1)
  have ZA:l.length=ops.size-(i'+1):=by simp at hlen;omega
  have glue:∀(eU:St) (oe:Option bK),bF P Eqs Sg F rid true ops b l eU kk=some r →
    (∀T H E,T i'=look st.tmps→H i'=st.heap.get→E i'=oe→T (i'+1)=look eU.tmps→H (i'+1)=eU.heap.get→Bm P Eqs Sg F rid ops b T H E i' o) →
    ∃(T:Nat→Nat→AV) (H:Nat→Hp) (E:Nat→Option bK),T i'=look st.tmps∧H i'=st.heap.get∧(∀k o,i'≤k→ops[k]? = some o→Bm P Eqs Sg F rid ops b T H E k o) ∧
     ∃eU,kk eU=some r∧look eU.tmps=T (max i' ops.size)∧eU.heap.get=H (max i' ops.size):=by
   intro eU oe Y5 u7
   obtain⟨T,H,E,h1,h2,h3,aeo,h4,h5,h6⟩:=ih eU hl ZA Y5
   refine⟨fun k=>if k≤i' then look st.tmps else T k,fun k=>if k≤i' then st.heap.get else H k,fun k=>if k=i' then oe else E k,by simp,by simp,fun k o' hk nK => ?_,aeo,h4,?_,?_⟩
   ·by_cases hki:k=i'
    ·subst hki
     rw[ho]at nK
     cases nK
     exact u7 _ _ _ (by simp) (by simp) (by simp) (by show(if k+1≤k then _ else _)=_;rw[if_neg (by omega)];exact h1) (by show(if k+1≤k then _ else _)=_;rw[if_neg (by omega)];exact h2)
    ·have h7:=h3 k o' (by omega) nK
     unfold Bm at h7 ⊢
     simp only[show ¬k≤i' by omega,show ¬k+1≤i' by omega,hki,if_false]
     exact h7
   ·rw[h5];simp only[show max (i'+1) ops.size=ops.size by omega,show max i' ops.size=ops.size by omega,show ¬ops.size≤i' by omega,if_false]
   ·rw[h6];simp only[show max (i'+1) ops.size=ops.size by omega,show max i' ops.size=ops.size by omega,show ¬ops.size≤i' by omega,if_false]
  have runs:∀iV:St,look iV.tmps=look st.tmps→iV.heap=st.heap→qp ops (look st.tmps) o true →
    (c4 P Eqs Sg F (opId rid i') (iu (ahead rid (b.getD i' 0) iV.heap) (iv ops b i' iV.tmps o)) iV.tmps o fun e=>if(ia true rid ops b i' (b.getD i' 0) (ij (iv ops b i' iV.tmps o) (ahead rid (b.getD i' 0) iV.heap) e)&&nG (iv ops b i' iV.tmps o) e)=true then bF P Eqs Sg F rid true ops b l ({ iV with heap:=match ij (iv ops b i' iV.tmps o) (ahead rid (b.getD i' 0) iV.heap) e with | .wr _ h=>h|e=>e.h iV.heap }.put o.dst e.v) kk else none)=some r →
    ∃(T:Nat→Nat→AV) (H:Nat→Hp) (E:Nat→Option bK),T i'=look st.tmps∧H i'=st.heap.get∧(∀k o,i'≤k→ops[k]? = some o→Bm P Eqs Sg F rid ops b T H E k o) ∧
     ∃eU,kk eU=some r∧look eU.tmps=T (max i' ops.size)∧eU.heap.get=H (max i' ops.size):=by
   intro iV h1 h2 hw hx
   rw[lN]at hx
   obtain⟨e,he,hx⟩:=Option.bind_eq_some_iff.1 hx
   split at hx
   ·rename_i mO
    rw[Bool.and_eq_true]at mO
    generalize Bn:ij (iv ops b i' iV.tmps o) (ahead rid (b.getD i' 0) iV.heap) e=e1 at hx mO
    have vf:e.v=e1.v:=by rw[←Bn];exact(Pz _ _ _).symm
    refine glue _ (some e1) hx fun T H E hT hH hE hT' WG => ?_
    refine .inl ⟨e1,iV.tmps,_,hE,by rw[hT,h1],fun id=>by rw[Nd,hH,h2],⟨e,he,Bn.symm,mO.2⟩,mO.1,by rw[hT];exact hw,?_,?_⟩
    ·rw[hT',iC,hT,vf];simp only[h1]
    ·rw[WG,dn,hH]
     have:(bK.heap e1 iV.heap).get=e1.hp st.heap.get:=by rw[bK.Hm,h2]
     exact this
   ·cases hx
  have Bk:∀iV:St,look iV.tmps=look st.tmps→iV.heap=st.heap→qp ops (look st.tmps) o false →
    bF P Eqs Sg F rid true ops b l (iV.put o.dst (.nW [])) kk=some r →
    ∃(T:Nat→Nat→AV) (H:Nat→Hp) (E:Nat→Option bK),T i'=look st.tmps∧H i'=st.heap.get∧(∀k o,i'≤k→ops[k]? = some o→Bm P Eqs Sg F rid ops b T H E k o) ∧
     ∃eU,kk eU=some r∧look eU.tmps=T (max i' ops.size)∧eU.heap.get=H (max i' ops.size):=by
   intro iV h1 h2 hw hx
   refine glue _ none hx fun T H E hT hH hE hT' WG=>.inr ⟨hE,by rw[hT];exact hw,?_,?_⟩
   ·rw[hT',iC,hT,h1]
   ·rw[WG,dn,hH,h2]
  rw[bF]at hx
  simp only[if_true]at hx
  split at hx
  ·rename_i hg
   exact runs st rfl rfl (by simp[qp,hg]) hx
  ·rename_i jj want hg
   split at hx
   ·cases hx
   ·rename_i d hd
    split at hx
    ·rename_i t ht
     have hp:∀b,t=b→look (st.put (some d) (.bool b)).tmps=look st.tmps:=fun b hb=>by
      subst hb;rw[iC];exact D5 ht
     have hw:∀c,(t==want)=c→qp ops (look st.tmps) o c:=fun c hc=>by
      unfold qp;rw[hg];exact⟨d,hd,.inl ⟨t,ht,hc⟩⟩
     cases t<;>simp only[cond_true,cond_false]at hx<;>split at hx<;>rename_i q9
     ·exact Bk _ (hp false rfl) (dn _ _ _) (hw _ (by simp[q9])) hx
     ·exact runs _ (hp false rfl) (dn _ _ _) (hw _ (by simp[q9])) hx
     ·exact runs _ (hp true rfl) (dn _ _ _) (hw _ (by simp[q9])) hx
     ·exact Bk _ (hp true rfl) (dn _ _ _) (hw _ (by simp[q9])) hx
    ·rename_i vs ht
     exact Bk st rfl rfl (by unfold qp;rw[hg];exact⟨d,hd,.inr ⟨vs,ht,rfl⟩⟩) hx
    ·cases hx
def Nf(ops:Array Oper)(j:Nat):Prop:=∃o,ops[j]? = some o∧nF o.op=false∧jB o.op=none
def zY(E:Nat→Option bK)(k:Nat):Prop:=∃v h',E k=some (.wr v h')
def YA(E:Nat→Option bK)(k:Nat):Prop:=∃v os,E k=some (.new v os)
theorem vx{α:Type}(f:α→Option Nat):∀(l:List α),cm (l.filterMap f)=true→∀(i j:Nat) (x y:α) (d:Nat),l[i]? = some x→l[j]? = some y→f x=some d→f y=some d→i=j
 |[],_,i,j,x,y,d,hi,_,_,_=>by simp at hi
 |a::r,hn,i,j,x,y,d,hi,hj,hx,hy=>by
  have gH:∀(k:Nat) (z:α),r[k]? = some z→f z=some d→d∈r.filterMap f:=fun k z hk hz=>List.mem_filterMap.2 ⟨z,List.mem_of_getElem? hk,hz⟩
  have hr:cm (r.filterMap f)=true∧∀c,f a=some c→c∉r.filterMap f:=by
   rw[List.filterMap_cons]at hn
   split at hn
   ·rename_i h0;exact⟨hn,fun c hc=>by rw[h0]at hc;cases hc⟩
   ·rename_i c h0
    simp only[cm,Bool.and_eq_true,Bool.not_eq_true']at hn
    refine⟨hn.2,fun c' hc=>?_⟩
    rw[h0]at hc;cases hc
    intro hm
    rw[List.contains_iff_mem.2 hm]at hn;simp at hn
  cases i with
  |zero =>
   cases j with
   |zero=>rfl
   |succ j =>
    simp only[List.getElem?_cons_zero,Option.some.injEq]at hi;subst hi
    exact absurd (gH j y (by simpa using hj) hy) (hr.2 d hx)
  |succ i =>
   cases j with
   |zero =>
    simp only[List.getElem?_cons_zero,Option.some.injEq]at hj;subst hj
    exact absurd (gH i x (by simpa using hi) hx) (hr.2 d hy)
   |succ j=>rw[vx f r hr.1 i j x y d (by simpa using hi) (by simpa using hj) hx hy]
structure Dr(P:Program)(Eqs:TypeId→Option K)(Sg:FuncId→Option aL)(F:(f:FuncId)→(g:aL)→g.A→Option g.B)(rid n:Nat)(ops:Array Oper)(b:Array Nat)(T:Nat→Nat→AV)(H:Nat→Hp)(E:Nat→Option bK):Prop where
 size:ops.size≤128
 Oz:uV ops b=true
 pair:AD ops b=true
 aeq:∀(i:Nat) (o:Oper),ops[i]? = some o→iM n o=true
 nodup:cm (ops.toList.filterMap (·.dst))=true
 step:∀k o,ops[k]? = some o→Bm P Eqs Sg F rid ops b T H E k o
 aer:∀id,H 0 id≠none→id / 32768≠rid+1
section
variable {T:Nat→Nat→AV} {H:Nat→Hp} {E:Nat→Option bK}
theorem Dr.zZ(D:Dr P Eqs Sg F rid n ops b T H E){i j:Nat}{x y:Oper}{d:Nat}(hi:ops[i]? = some x)(hj:ops[j]? = some y)(hx:x.dst=some d)(hy:y.dst=some d):i=j :=
 vx (·.dst) ops.toList D.nodup i j x y d (by simpa using hi) (by simpa using hj) hx hy
theorem Dr.Vq(D:Dr P Eqs Sg F rid n ops b T H E){i j:Nat}{x y:Oper}(hi:ops[i]? = some x)(hj:ops[j]? = some y)(AW:i<j):sF b j i∨x.apart ops y=true:=by
 have h1:=List.all_eq_true.1 D.pair j (List.mem_range.2 (Array.getElem?_eq_some_iff.1 hj).1)
 have h2:=List.all_eq_true.1 h1 i (List.mem_range.2 AW)
 rw[hi,hj]at h2
 simp only[Bool.or_eq_true,Bool.and_eq_true]at h2
 exact h2
theorem Dr.TI(D:Dr P Eqs Sg F rid n ops b T H E){k:Nat}{o:Oper}(ho:ops[k]? = some o){e:bK}(he:E k=some e) :
  ∃s hh,look s=T k∧(∀id,Heap.get hh id=if qP rid (b.getD k 0) id then H k id else none)∧(∃e0,c4 P Eqs Sg F (opId rid k) (iu hh (iv ops b k s o)) s o some=some e0∧e=ij (iv ops b k s o) hh e0∧nG (iv ops b k s o) e0=true) ∧
   ia true rid ops b k (b.getD k 0) e=true∧qp ops (T k) o true∧T (k+1)=jw (T k) o.dst e.v∧H (k+1)=e.hp (H k):=by
 rcases D.step k o ho with⟨e',s,hh,h1,h2⟩|⟨h1,_⟩
 ·rw[he]at h1;cases h1;exact⟨s,hh,h2⟩
 ·rw[he]at h1;cases h1
theorem Dr.Fp(D:Dr P Eqs Sg F rid n ops b T H E){k:Nat}{o:Oper}(ho:ops[k]? = some o)(he:E k=none) :
  qp ops (T k) o false∧T (k+1)=jw (T k) o.dst (.nW [])∧H (k+1)=H k:=by
 rcases D.step k o ho with⟨e',s,hh,h1,h2⟩|⟨h1,h2⟩
 ·rw[he]at h1;cases h1
 ·exact h2
theorem Dr.xd(D:Dr P Eqs Sg F rid n ops b T H E){k:Nat}(hk:k<ops.size)(h:YA E k):Nf ops k:=by
 obtain⟨v,os,he⟩:=h
 obtain⟨s,hh,_,_,⟨e0,h3,Vg,_⟩,_⟩:=D.TI (Array.getElem?_eq_getElem hk) he
 refine⟨_,Array.getElem?_eq_getElem hk,?_,?_⟩
 ·cases hf:nF (ops[k]).op with
  |false=>rfl
  |true=>obtain⟨v',rfl⟩:=Hi hf h3;cases Vg
 ·cases hf:jB (ops[k]).op with
  |none=>rfl
  |some x=>obtain⟨v',rfl⟩:=Hr hf h3;cases Vg
theorem Dr.PA(D:Dr P Eqs Sg F rid n ops b T H E){k:Nat}(hk:k<ops.size)(h:zY E k):Nf ops k:=by
 obtain⟨v,os,he⟩:=h
 obtain⟨s,hh,_,_,⟨e0,h3,Vg,_⟩,_⟩:=D.TI (Array.getElem?_eq_getElem hk) he
 refine⟨_,Array.getElem?_eq_getElem hk,?_,?_⟩
 ·cases hf:nF (ops[k]).op with
  |false=>rfl
  |true=>obtain⟨v',rfl⟩:=Hi hf h3;cases Vg
 ·cases hf:jB (ops[k]).op with
  |none=>rfl
  |some x=>obtain⟨v',rfl⟩:=Hr hf h3;cases Vg
theorem Dr.Bo(D:Dr P Eqs Sg F rid n ops b T H E){k j:Nat}(hk:k<ops.size)(h:zY E k)(hj:Nf ops j)(bp:j≠k):(j<k∧sF b k j)∨(k<j∧sF b j k):=by
 obtain⟨v,os,he⟩:=h
 obtain⟨s,hh,_,_,_,h4,_⟩:=D.TI (Array.getElem?_eq_getElem hk) he
 obtain⟨o,ho,hf,SQ⟩:=hj
 have AX:=(Array.getElem?_eq_some_iff.1 ho).1
 simp only[ia,Bool.and_eq_true]at h4
 have h5:Jy ops b k=true:=by simpa using h4.1.1
 have h6:=List.all_eq_true.1 h5 j (List.mem_range.2 AX)
 have hlf:uW ops k j=false:=by unfold uW;rw[ho];simp only[Option.bind_some,SQ]
 rw[hlf,Bool.and_false,ho]at h6
 simp only[Bool.or_eq_true,beq_iff_eq,hf,Bool.false_eq_true,or_false]at h6
 rcases h6 with(h6|h6)|h6
 ·exact absurd h6 bp
 ·exact .inr ⟨Bl D.Oz j k AX h6,h6⟩
 ·exact .inl ⟨Bl D.Oz k j hk h6,h6⟩
theorem Dr.Bp(D:Dr P Eqs Sg F rid n ops b T H E){p:Nat}:∀(q:Nat),p≤q→q≤ops.size→∀id,(∀k,p≤k→k<q→zY E k→H (k+1) id=H k id)→(∀k,p≤k→k<q→YA E k→¬Of rid k id)→H q id=H p id:=by
 intro q
 induction q with
 |zero=>intro uO _ id _ _;rw[Nat.le_zero.1 uO]
 |succ q ih =>
  intro uO hq id hw bT
  by_cases he:p=q+1
  ·rw[he]
  ·have h1:=ih (by omega) (by omega) id (fun k h1 h2=>hw k h1 (by omega)) (fun k h1 h2=>bT k h1 (by omega))
   rw[←h1]
   have ho:=Array.getElem?_eq_getElem (show q<ops.size by omega)
   cases hE:E q with
   |none=>rw[(D.Fp ho hE).2.2]
   |some e =>
    obtain⟨s,hh,_,_,_,h4,_,_,h7⟩:=D.TI ho hE
    cases e with
    |val v=>rw[h7];rfl
    |wr v h'=>exact hw q (by omega) (by omega) ⟨v,h',hE⟩
    |new v os =>
     rw[h7]
     simp only[bK.hp]
     cases Ov:Heap.get os id with
     |none=>rfl
     |some o' =>
      exfalso
      simp only[ia,Bool.and_eq_true]at h4
      refine bT q (by omega) (by omega) ⟨v,os,hE⟩ ?_
      have:∀(l:Heap),(l.all fun p=>p.1 / 256==(rid+1)*128+q)=true→∀o',l.get id=some o'→Of rid q id:=by
       intro l
       induction l with
       |nil=>intro _ o' h;simp[Heap.get]at h
       |cons a r ihl =>
        intro fO o' hg
        simp only[List.all_cons,Bool.and_eq_true,beq_iff_eq]at fO
        simp only[Heap.get]at hg
        split at hg
        ·rename_i e;rw[←e];exact fO.1
        ·exact ihl fO.2 o' hg
      exact this os h4.1.2 o' Ov
theorem Dr.z5(D:Dr P Eqs Sg F rid n ops b T H E){p:Nat}(q:Nat)(uO:p≤q)(hq:q≤ops.size)(hw:∀k,p≤k→k<q→¬zY E k)(id:Nat)(hn:∀k,p≤k→k<q→YA E k→¬Of rid k id):H q id=H p id :=
 D.Bp q uO hq id (fun k h1 h2 h3=>absurd h3 (hw k h1 h2)) hn
theorem Dr.names(D:Dr P Eqs Sg F rid n ops b T H E):∀(k:Nat),k≤ops.size→∀id,H k id≠none→id / 32768=rid+1→∃j,Of rid j id∧j<k∧j<128∧(YA E j∨∃w,w<k∧zY E w∧(j=w∨sF b w j)):=by
 intro k
 induction k with
 |zero=>intro _ id h1 h2;exact absurd h2 (D.aer id h1)
 |succ k ih =>
  intro hk id h1 h2
  have aM:k<ops.size:=by omega
  have up:H k id≠none→∃j,Of rid j id∧j<k+1∧j<128∧(YA E j∨∃w,w<k+1∧zY E w∧(j=w∨sF b w j)):=fun h=>by
   obtain⟨j,h3,h4,h4',h5⟩:=ih (by omega) id h h2
   exact⟨j,h3,by omega,h4',h5.imp (fun h=>h) fun⟨w,h6,h7⟩=>⟨w,by omega,h7⟩⟩
  have ho:=Array.getElem?_eq_getElem aM
  have PB:=D.size
  cases hE:E k with
  |none=>rw[(D.Fp ho hE).2.2]at h1;exact up h1
  |some e =>
   obtain⟨s,hh,_,_,_,h4,_,_,h7⟩:=D.TI ho hE
   rw[h7]at h1
   cases e with
   |val v=>exact up h1
   |wr v h' =>
    obtain⟨o',nK⟩:=Option.ne_none_iff_exists'.1 h1
    simp only[ia,Bool.and_eq_true]at h4
    have h5:(b.getD k 0 ||| 2 ^ k).testBit (id / 256%128)=true:=(mr (S:=fun j=>(b.getD k 0 ||| 2 ^ k).testBit j=true) (fun j hj=>hj) h4.2 id o' nK).1 h2
    rw[Nat.testBit_or,Bool.or_eq_true,Nat.testBit_two_pow]at h5
    refine⟨id / 256%128,Of.of h2 rfl,?_,by omega,.inr ⟨k,by omega,⟨v,h',hE⟩,?_⟩⟩
    ·rcases h5 with h5|h5
     ·have:=Bl D.Oz k _ aM h5;omega
     ·have:=of_decide_eq_true h5;omega
    ·rcases h5 with h5|h5
     ·exact .inr h5
     ·exact .inl (of_decide_eq_true h5).symm
   |new v os =>
    simp only[bK.hp]at h1
    cases Ov:Heap.get os id with
    |none=>rw[Ov]at h1;exact up h1
    |some o' =>
     simp only[ia,Bool.and_eq_true]at h4
     have:∀(l:Heap),(l.all fun p=>p.1 / 256==(rid+1)*128+k)=true→∀o',l.get id=some o'→Of rid k id:=by
      intro l
      induction l with
      |nil=>intro _ o' h;simp[Heap.get]at h
      |cons a r ihl =>
       intro fO o' hg
       simp only[List.all_cons,Bool.and_eq_true,beq_iff_eq]at fO
       simp only[Heap.get]at hg
       split at hg
       ·rename_i e;rw[←e];exact fO.1
       ·exact ihl fO.2 o' hg
     exact⟨k,this os h4.1.2 o' Ov,by omega,by omega,.inl ⟨v,os,hE⟩⟩
theorem Dr.WQ(D:Dr P Eqs Sg F rid n ops b T H E){q:Nat}(lE:q<ops.size)(TJ:zY E q):∀id,H q id≠none→mP rid (sF b q) id:=fun id bp PC=>by
 obtain⟨j,h1,h2,h2',h3⟩:=D.names q (by omega) id bp PC
 rw[(h1.parts h2').2]
 rcases h3 with h3|⟨w',h5,h6,h8⟩
 ·rcases D.Bo lE TJ (D.xd (by omega) h3) (by omega) with⟨_,h9⟩|⟨h9,_⟩
  ·exact h9
  ·omega
 ·have TK:sF b q w':=by
   rcases D.Bo lE TJ (D.PA (by omega) h6) (by omega) with⟨_,h9⟩|⟨h9,_⟩
   ·exact h9
   ·omega
  rcases h8 with rfl|h8
  ·exact TK
  ·exact Ea D.Oz q w' j lE TK h8
theorem Dr.xe(D:Dr P Eqs Sg F rid n ops b T H E){d p:Nat}:∀(q:Nat),p≤q→q≤ops.size→(∀m o,p≤m→m<q→ops[m]? = some o→o.dst≠some d)→T q d=T p d
 |0,h,_,_=>by rw[Nat.le_zero.1 h]
 |q+1,h,hq,hm=>by
  by_cases e:p=q+1
  ·rw[e]
  ·have ho:=Array.getElem?_eq_getElem (show q<ops.size by omega)
   have ih:=D.xe q (by omega) (by omega) fun m o h1 h2=>hm m o h1 (by omega)
   rw[←ih]
   have hd:=hm q _ (by omega) (by omega) ho
   have key:∀v,jw (T q) (ops[q]).dst v d=T q d:=fun v=>by
    cases lj:(ops[q]).dst with
    |none=>rfl
    |some d' =>
     simp only[jw,eC]
     rw[if_neg]
     rintro rfl
     exact hd lj
   rcases D.step q _ ho with⟨e,s,hh,_,_,_,_,_,_,h7,_⟩|⟨_,_,h3,_⟩
   ·rw[h7,key]
   ·rw[h3,key]
theorem Dr.steady(D:Dr P Eqs Sg F rid n ops b T H E){i k:Nat}{o:Oper}{x:Operand}(ho:ops[i]? = some o)(hl:jB o.op=some x)(hk:k<ops.size)(hw:zY E k)(bp:i≠k)(h1:¬sF b i k)(h2:¬sF b k i)
  {s:List (Nat×AV)} (hs:look s=T i) {id:Nat} (bT:id∈uX (ρ s x)):H (k+1) id=H k id:=by
 have lE:=(Array.getElem?_eq_some_iff.1 ho).1
 obtain⟨v,h',hE⟩:=hw
 have mO:=Array.getElem?_eq_getElem hk
 obtain⟨sk,hh,PD,TL,⟨e0,Vg,Bn,uM⟩,h4,_,_,h7⟩:=D.TI mO hE
 simp only[ia,Bool.and_eq_true]at h4
 have h5:Jy ops b k=true:=by simpa using h4.1.1
 have h6:=List.all_eq_true.1 h5 i (List.mem_range.2 lE)
 rw[ho,mO]at h6
 have b1:(b.getD i 0).testBit k=false:=Bool.eq_false_iff.2 h1
 have b2:(b.getD k 0).testBit i=false:=Bool.eq_false_iff.2 h2
 have b3:(i==k)=false:=by simp[bp]
 simp only[b1,b2,b3,(Eb hl).1,Bool.false_or,Bool.and_eq_true]at h6
 obtain⟨z6,Lq⟩:=h6
 have ZB:iv ops b k sk ops[k]=Wp ops b k sk:=by unfold iv;rw[if_pos z6]
 have nY:ρ sk x=ρ s x:=by
  cases x with
  |tmp d =>
   simp only[ρ,PD,hs]
   unfold uW at Lq
   rw[ho]at Lq
   simp only[Option.bind_some,hl]at Lq
   have hm:∀m o',min k i≤m→m<max k i→ops[m]? = some o'→o'.dst≠some d:=fun m o' g1 g2 g3 hd=>by
    have g4:=List.all_eq_true.1 Lq m (List.mem_range.2 (by omega))
    rw[g3]at g4
    simp[hd,g1,g2]at g4
   rcases Nat.lt_or_ge i k with g|g
   ·exact D.xe k (by omega) (by omega) fun m o' g1 g2=>hm m o' (by omega) (by omega)
   ·exact(D.xe i (by omega) (by omega) fun m o' g1 g2=>hm m o' (by omega) (by omega)).symm
  |_=>rfl
 have gH:id∈iv ops b k sk ops[k]:=by
  rw[ZB]
  unfold Wp
  refine List.mem_flatMap.2 ⟨i,List.mem_range.2 lE,?_⟩
  rw[b1,b2,b3,ho]
  simp only[Bool.or_self,Bool.false_eq_true,if_false,Option.bind_some,hl]
  rw[nY];exact bT
 cases e0 with
 |val v0=>cases Bn
 |new v0 os=>cases Bn
 |wr v0 OT =>
  cases Bn
  simp only[nG,Bool.and_eq_true]at uM
  have hn:OT.get id=none:=by
   cases e:OT.get id with
   |none=>rfl
   |some ob=>exact absurd gH (kO uM.2 id ob e).1
  rw[h7]
  show(fG _ hh OT).get id=H k id
  rw[kM,if_pos gH,hn,TL id]
  cases aeu:H k id with
  |none=>simp
  |some ob =>
   have h8:=D.WQ hk ⟨_,_,hE⟩ id (by rw[aeu];simp)
   have h9:qP rid (b.getD k 0) id=true:=by
    unfold qP
    by_cases hr:id / 32768=rid+1
    ·have:=h8 hr
     unfold sF at this
     rw[this];simp
    ·simp[hr]
   rw[if_pos h9]
end
end Go.Vs
namespace Go.Vs
variable {P:Program} {Eqs:TypeId→Option K} {Sg:FuncId→Option aL} {F:(f:FuncId)→(g:aL)→g.A→Option g.B} {R:Type}
variable {Z Z' Z0:Nat→Prop} {ψ ψ' ψ0:Nat→Value} {h h':Hp} {w w' w0:World} {B0:Nat} {O N:Nat→Prop}
variable {rid n:Nat} {ops:Array Oper} {b:Array Nat} {T:Nat→Nat→AV} {H:Nat→Hp} {E:Nat→Option bK}
structure Dj(rid:Nat)(ops:Array Oper)(b:Array Nat)(T:Nat→Nat→AV)(H:Nat→Hp)(E:Nat→Option bK)(S:Nat→Prop)(Tc:Nat→AV)(h:Hp):Prop where
 lt:∀i,S i→i<ops.size
 closed:∀i j,S i→sF b i j→S j
 heap:∃q,q≤ops.size∧(∀k,k<q→zY E k→S k)∧(q<ops.size→zY E q∧¬S q)∧∀id,(mP rid S id→h id=H q id)∧(¬mP rid S id→h id=none)
 PE:∀j o d,S j→ops[j]? = some o→o.dst=some d→Tc d=T (j+1) d
 told:∀d,(∀j o,S j→ops[j]? = some o→o.dst≠some d)→Tc d=T 0 d
theorem Dr.PF(D:Dr P Eqs Sg F rid n ops b T H E){k:Nat}{o:Oper}(ho:ops[k]? = some o){d:Nat}(hd:o.dst≠some d):T (k+1) d=T k d:=by
 have:∀v,jw (T k) o.dst v d=T k d:=fun v=>by
  cases lj:o.dst with
  |none=>rfl
  |some d' =>
   simp only[jw,eC]
   rw[if_neg]
   rintro rfl
   exact hd lj
 rcases D.step k o ho with⟨e,s,hh,_,_,_,_,_,_,h7,_⟩|⟨_,_,h3,_⟩
 ·rw[h7,this]
 ·rw[h3,this]
theorem Dr.vz(D:Dr P Eqs Sg F rid n ops b T H E){d:Nat}:∀(i:Nat),i≤ops.size→(∀k o,k<i→ops[k]? = some o→o.dst≠some d)→T i d=T 0 d
 |0,_,_=>rfl
 |i+1,hi,hk=>by
  rw[D.PF (Array.getElem?_eq_getElem (show i<ops.size by omega)) (hk i _ (by omega) (Array.getElem?_eq_getElem (by omega)))]
  exact D.vz i (by omega) fun k o h1 h2=>hk k o (by omega) h2
theorem Dr.Fq(D:Dr P Eqs Sg F rid n ops b T H E){d j:Nat}{oj:Oper}(hj:ops[j]? = some oj)(hd:oj.dst=some d):∀(i:Nat),i≤ops.size→j<i→T i d=T (j+1) d
 |0,_,h=>by omega
 |i+1,hi,h=>by
  by_cases e:j=i
  ·rw[e]
  ·have ho:=Array.getElem?_eq_getElem (show i<ops.size by omega)
   rw[D.PF ho (fun hdi=>e (D.zZ hj ho hd hdi))]
   exact D.Fq hj hd i (by omega) (by omega)
theorem Dr.looks(D:Dr P Eqs Sg F rid n ops b T H E){S:Nat→Prop}{Tc:Nat→AV}(dj:Dj rid ops b T H E S Tc h){i:Nat}{o:Oper}(ho:ops[i]? = some o)(hS:¬S i)(hb:∀j,sF b i j→S j){d:Nat}(hd:d∈o.looksAt ops):Tc d=T i d:=by
 have hi:=(Array.getElem?_eq_some_iff.1 ho).1
 by_cases hex:∃(j:Nat) (oj:Oper),ops[j]? = some oj∧oj.dst=some d
 ·obtain⟨j,oj,hj,YB⟩:=hex
  have cY:¬S j→Tc d=T 0 d:=fun hn=>dj.told d fun j' o' hs nK PH=>hn (by rw[D.zZ hj nK YB PH];exact hs)
  have Oz:i≤j→T i d=T 0 d:=fun AW=>D.vz i (by omega) fun k o' hk nK PH=>by have:=D.zZ hj nK YB PH;omega
  rcases Nat.lt_trichotomy j i with aM|rfl|z7
  ·rcases D.Vq hj ho aM with h1|h1
   ·rw[dj.PE j oj d (hb j h1) hj YB,D.Fq hj YB i (by omega) aM]
   ·exact absurd hd ((Oper.apart_spec h1).1 d YB)
  ·rw[cY hS,Oz (Nat.le_refl _)]
  ·rcases D.Vq ho hj z7 with h1|h1
   ·rw[cY (fun hs=>hS (dj.closed j i hs h1)),Oz (by omega)]
   ·exact absurd hd ((Oper.apart_spec h1).2.2 d YB)
 ·rw[dj.told d fun j o' _ nK PH=>hex ⟨j,o',nK,PH⟩,D.vz i (by omega) fun k o' _ nK PH=>hex ⟨k,o',nK,PH⟩]
theorem Dr.PI{S:Nat→Prop}{Tc:Nat→AV}(D:Dr P Eqs Sg F rid n ops b T H E)(dj:Dj rid ops b T H E S Tc h){i:Nat}{o:Oper}(ho:ops[i]? = some o)(hS:¬S i){v:AV}(hv:T (i+1)=jw (T i) o.dst v) :
  (∀j o' d,(S j∨j=i)→ops[j]? = some o'→o'.dst=some d→jw Tc o.dst v d=T (j+1) d)∧(∀d,(∀j o',(S j∨j=i)→ops[j]? = some o'→o'.dst≠some d)→jw Tc o.dst v d=T 0 d):=by
 constructor
 ·intro j o' d hj nK hd
  rcases hj with hj|rfl
  ·have bp:j≠i:=fun e=>hS (e▸hj)
   have:jw Tc o.dst v d=Tc d:=by
    cases lj:o.dst with
    |none=>rfl
    |some d' =>
     simp only[jw,eC]
     rw[if_neg]
     rintro rfl
     exact bp (D.zZ nK ho hd lj)
   rw[this];exact dj.PE j o' d hj nK hd
  ·rw[ho]at nK;cases nK
   rw[hv,hd];simp[jw,eC]
 ·intro d hd
  have:jw Tc o.dst v d=Tc d:=by
   cases lj:o.dst with
   |none=>rfl
   |some d' =>
    simp only[jw,eC]
    rw[if_neg]
    rintro rfl
    exact hd i o (.inr rfl) ho lj
  rw[this];exact dj.told d fun j o' hj=>hd j o' (.inl hj)
theorem vA{i k id:Nat}(h1:Of rid i id)(h2:Of rid k id):i=k:=by unfold Of at h1 h2;omega
section
variable {S:Nat→Prop} {Tc:Nat→AV}
theorem Dr.calm(D:Dr P Eqs Sg F rid n ops b T H E)(dj:Dj rid ops b T H E S Tc h){i q:Nat}(hi:Nf ops i)(hS:¬S i)(hq:q≤ops.size)(hw:∀k,k<q→zY E k→S k):∀k,i≤k→k<q→¬zY E k:=by
 intro k PJ hkq hk
 have PD:=hw k hkq hk
 have bp:i≠k:=fun e=>hS (e▸PD)
 rcases D.Bo (by omega) hk hi bp with⟨_,h1⟩|⟨h1,_⟩
 ·exact hS (dj.closed k i PD h1)
 ·omega
theorem Dr.seen(D:Dr P Eqs Sg F rid n ops b T H E)(dj:Dj rid ops b T H E S Tc h){i:Nat}(hi:Nf ops i)(hS:¬S i)(hb:∀j,sF b i j→S j){hh:Heap}(TL:∀id,Heap.get hh id=if qP rid (b.getD i 0) id then H i id else none) :
  ∀id o,hh.get id=some o→h id=some o:=by
 obtain⟨q,hq,hw,jk,fP⟩:=dj.heap
 have lE:i<ops.size:=by obtain⟨o,ho,hf1,hf2⟩:=hi;exact(Array.getElem?_eq_some_iff.1 ho).1
 have ZC:i≤q:=by
  rcases Nat.lt_or_ge q i with h1|h1
  ·obtain⟨h2,h3⟩:=jk (by omega)
   rcases D.Bo (by omega) h2 hi (by omega) with⟨h4,_⟩|⟨_,h4⟩
   ·omega
   ·exact absurd (hb q h4) h3
  ·exact h1
 intro id o bT
 rw[TL]at bT
 split at bT
 ·rename_i mO
  have jS:mP rid S id:=ov hb mO
  rw[(fP id).1 jS,D.z5 q ZC hq (D.calm dj hi hS hq hw) id fun k hk _ _ ho=>?_,bT]
  have PC:=(ho.parts (by have:=D.size;omega)).1
  obtain⟨j,h1,h2,_⟩:=D.names i (by omega) id (by rw[bT];simp) PC
  have:=vA h1 ho
  omega
 ·cases bT
theorem Dr.Ng(D:Dr P Eqs Sg F rid n ops b T H E)(dj:Dj rid ops b T H E S Tc h){i:Nat}{o:Oper}{x:Operand}(ho:ops[i]? = some o)(hl:jB o.op=some x)(hS:¬S i)(hb:∀j,sF b i j→S j){s:List (Nat×AV)}(hs:look s=T i)
  {hh:Heap} (TL:∀id,Heap.get hh id=if qP rid (b.getD i 0) id then H i id else none):∀id∈uX (ρ s x),∀ob,hh.get id=some ob→h id=some ob:=by
 obtain⟨q,hq,hw,jk,fP⟩:=dj.heap
 have lE:=(Array.getElem?_eq_some_iff.1 ho).1
 have PB:=D.size
 intro id bT ob j7
 rw[TL]at j7
 split at j7
 ·rename_i mO
  have jS:mP rid S id:=ov hb mO
  rw[(fP id).1 jS,←j7]
  rcases Nat.lt_or_ge q i with hqi|ZC
  ·obtain⟨h2,h3⟩:=jk (by omega)
   have later:∀k,q<k→k<ops.size→Nf ops k→sF b k q:=fun k h4 h5 h6=>by
    rcases D.Bo (by omega) h2 h6 (by omega) with⟨h7,_⟩|⟨_,h7⟩
    ·omega
    ·exact h7
   have ZD:∀k,q≤k→k<i→Nf ops k→¬S k:=fun k h4 h5 h6 hk=>by
    rcases Nat.eq_or_lt_of_le h4 with e|h7
    ·exact h3 (e▸hk)
    ·exact h3 (dj.closed k q hk (later k h7 (by omega) h6))
   symm
   refine D.Bp i (by omega) (by omega) id (fun k h4 h5 h6=>?_) (fun k h4 h5 h6 h7=>?_)
   ·have hns:=ZD k h4 h5 (D.PA (by omega) h6)
    exact D.steady ho hl (by omega) h6 (by omega) (fun Ka=>hns (hb k Ka)) (fun Ka=>by have:=Bl D.Oz k i (by omega) Ka;omega) hs bT
   ·have hns:=ZD k h4 h5 (D.xd (by omega) h6)
    have h8:=h7.parts (show k<128 by omega)
    have h9:=jS h8.1
    rw[h8.2]at h9
    exact hns h9
  ·refine D.Bp q ZC hq id (fun k h4 h5 h6=>?_) (fun k h4 h5 h6 h7=>?_)
   ·have PD:=hw k h5 h6
    have bp:i≠k:=fun e=>hS (e▸PD)
    exact D.steady ho hl (by omega) h6 bp (fun Ka=>by have:=Bl D.Oz i k lE Ka;omega) (fun Ka=>hS (dj.closed k i PD Ka)) hs bT
   ·obtain⟨j,h8,h9,_⟩:=D.names i (by omega) id (by rw[j7];simp) (h7.parts (by omega)).1
    have:=vA h8 h7
    omega
 ·cases j7
theorem PL(E:Nat→Option bK)(S:Nat→Prop)(m:Nat):∃q,q≤m∧(∀k,k<q→zY E k→S k)∧(q<m→zY E q∧¬S q):=by
 classical
 induction m with
 |zero=>exact⟨0,Nat.le_refl _,fun k hk=>by omega,fun h=>by omega⟩
 |succ m ih =>
  obtain⟨q,h1,h2,h3⟩:=ih
  by_cases hq:q<m
  ·exact⟨q,by omega,h2,fun _=>h3 hq⟩
  ·have:q=m:=by omega
   subst this
   by_cases hm:zY E q∧¬S q
   ·exact⟨q,by omega,h2,fun _=>hm⟩
   ·refine⟨q+1,by omega,fun k hk hw=>?_,fun h=>by omega⟩
    rcases Nat.lt_or_ge k q with h4|h4
    ·exact h2 k h4 hw
    ·have:k=q:=by omega
     subst this
     exact Classical.not_not.1 fun hn=>hm ⟨hw,hn⟩
theorem Bq{i id:Nat}(hi:i<128):mP rid (fun k=>S k∨k=i) id↔mP rid S id∨Of rid i id:=by
 constructor
 ·intro h1
  by_cases hr:id / 32768=rid+1
  ·rcases h1 hr with h2|h2
   ·exact .inl fun _=>h2
   ·exact .inr (Of.of hr h2)
  ·exact .inl fun h=>absurd h hr
 ·rintro(h1|h1) h2
  ·exact .inl (h1 h2)
  ·exact .inr (h1.parts hi).2
theorem Dr.Hs(D:Dr P Eqs Sg F rid n ops b T H E)(dj:Dj rid ops b T H E S Tc h){i:Nat}(lE:i<ops.size)(hS:¬S i)(Tv:¬YA E i)(ZE:¬zY E i) :
  ∃q,q≤ops.size∧(∀k,k<q→zY E k→S k∨k=i)∧(q<ops.size→zY E q∧¬(S q∨q=i))∧∀id,(mP rid (fun k=>S k∨k=i) id→h id=H q id)∧(¬mP rid (fun k=>S k∨k=i) id→h id=none):=by
 obtain⟨q,hq,hw,jk,fP⟩:=dj.heap
 have PB:=D.size
 refine⟨q,hq,fun k h1 h2=>.inl (hw k h1 h2),fun h1=>⟨(jk h1).1,fun h2=>h2.elim (jk h1).2 fun e=>ZE (e▸(jk h1).1)⟩,fun id=>⟨fun h1=>?_,fun h1=>(fP id).2 fun h2=>h1 ((Bq (by omega)).2 (.inl h2))⟩⟩
 rcases (Bq (S:=S) (i:=i) (rid:=rid) (by omega)).1 h1 with h2|h2
 ·exact(fP id).1 h2
 ·have hn:¬mP rid S id:=fun h3=>h3.Bg (by omega) hS h2
  rw[(fP id).2 hn]
  symm
  apply Classical.not_not.1
  intro bp
  obtain⟨j,h3,_,_,h4⟩:=D.names q hq id bp (h2.parts (by omega)).1
  have:=vA h3 h2
  subst this
  rcases h4 with h4|⟨w',h5,h6,h7|h7⟩
  ·exact Tv h4
  ·exact ZE (h7▸h6)
  ·exact hS (dj.closed w' _ (hw w' h5 h6) h7)
theorem TM{os:Heap}{i:Nat}(fO:(os.all fun p=>p.1 / 256==(rid+1)*128+i)=true):∀id o,os.get id=some o→Of rid i id:=by
 induction os with
 |nil=>intro id o h;simp[Heap.get]at h
 |cons a r ih =>
  intro id o hg
  simp only[List.all_cons,Bool.and_eq_true,beq_iff_eq]at fO
  simp only[Heap.get]at hg
  split at hg
  ·rename_i e;rw[←e];exact fO.1
  ·exact ih fO.2 id o hg
theorem Dr.PM(D:Dr P Eqs Sg F rid n ops b T H E)(dj:Dj rid ops b T H E S Tc h){i:Nat}{o:Oper}(ho:ops[i]? = some o)(hS:¬S i)(hb:∀j,sF b i j→S j){v:AV}{os:Heap}(hE:E i=some (.new v os)) :
  ∃q,q≤ops.size∧(∀k,k<q→zY E k→S k∨k=i)∧(q<ops.size→zY E q∧¬(S q∨q=i))∧∀id,(mP rid (fun k=>S k∨k=i) id→(bK.new v os).hp h id=H q id)∧(¬mP rid (fun k=>S k∨k=i) id→(bK.new v os).hp h id=none):=by
 obtain⟨q,hq,hw,jk,fP⟩:=dj.heap
 have PB:=D.size
 have lE:=(Array.getElem?_eq_some_iff.1 ho).1
 have ZE:¬zY E i:=fun⟨v',h',h1⟩=>by rw[hE]at h1;cases h1
 have TN:=D.xd lE ⟨v,os,hE⟩
 obtain⟨s,hh,_,_,_,h4,_,_,h7⟩:=D.TI ho hE
 simp only[ia,Bool.and_eq_true]at h4
 have ub:=TM (rid:=rid) h4.1.2
 have ZC:i<q:=by
  rcases Nat.lt_or_ge i q with h1|h1
  ·exact h1
  ·obtain⟨h2,h3⟩:=jk (by omega)
   have bp:i≠q:=fun e=>ZE (e▸h2)
   rcases D.Bo (by omega) h2 TN bp with⟨h4,_⟩|⟨_,h4⟩
   ·omega
   ·exact absurd (hb q h4) h3
 refine⟨q,hq,fun k h1 h2=>.inl (hw k h1 h2),fun h1=>⟨(jk h1).1,fun h2=>h2.elim (jk h1).2 fun e=>ZE (e▸(jk h1).1)⟩,fun id=>⟨fun h1=>?_,fun h1=>?_⟩⟩
 ·simp only[bK.hp]
  by_cases h2:Of rid i id
  ·have hn:¬mP rid S id:=fun h3=>h3.Bg (by omega) hS h2
   have e1:H i id=none:=Classical.not_not.1 fun bp=>by
    obtain⟨j,h3,h4,_⟩:=D.names i (by omega) id bp (h2.parts (by omega)).1
    have:=vA h3 h2
    omega
   have e2:H (i+1) id=Heap.get os id:=by
    rw[h7];simp only[bK.hp];rw[e1];cases Heap.get os id<;>rfl
   have e3:H q id=H (i+1) id:=D.z5 q ZC hq (fun k h3 h4=>D.calm dj TN hS hq hw k (by omega) h4) id fun k h3 _ _ h5=>by
    have:=vA h5 h2;omega
   rw[e3,e2,(fP id).2 hn];cases Heap.get os id<;>rfl
  ·have h3:mP rid S id:=((Bq (by omega)).1 h1).resolve_right h2
   cases Ov:Heap.get os id with
   |some o'=>exact absurd (ub id o' Ov) h2
   |none=>exact(fP id).1 h3
 ·have h2:¬mP rid S id:=fun h2=>h1 ((Bq (by omega)).2 (.inl h2))
  have h3:¬Of rid i id:=fun h2=>h1 ((Bq (by omega)).2 (.inr h2))
  simp only[bK.hp]
  cases Ov:Heap.get os id with
  |some o'=>exact absurd (ub id o' Ov) h3
  |none=>exact(fP id).2 h2
theorem Dr.TO(D:Dr P Eqs Sg F rid n ops b T H E)(dj:Dj rid ops b T H E S Tc h){i:Nat}{o:Oper}(ho:ops[i]? = some o)(hS:¬S i)(hb:∀j,sF b i j→S j){v:AV}{h':Heap}(hE:E i=some (.wr v h')) :
  (∀hh:Heap,(∀id,hh.get id=if qP rid (b.getD i 0) id then H i id else none)→hh.get=h) ∧
  ∃q,q≤ops.size∧(∀k,k<q→zY E k→S k∨k=i)∧(q<ops.size→zY E q∧¬(S q∨q=i))∧∀id,(mP rid (fun k=>S k∨k=i) id→h'.get id=H q id)∧(¬mP rid (fun k=>S k∨k=i) id→h'.get id=none):=by
 obtain⟨q,hq,hw,jk,fP⟩:=dj.heap
 have PB:=D.size
 have lE:=(Array.getElem?_eq_some_iff.1 ho).1
 have TJ:zY E i:=⟨v,h',hE⟩
 have TN:=D.PA lE TJ
 obtain⟨s,hh0,_,_,_,h4,_,_,h7⟩:=D.TI ho hE
 simp only[ia,Bool.and_eq_true]at h4
 have hqi:q=i:=by
  rcases Nat.lt_trichotomy q i with h1|h1|h1
  ·obtain⟨h2,h3⟩:=jk (by omega)
   rcases D.Bo lE TJ (D.PA (by omega) h2) (by omega) with⟨_,h5⟩|⟨h5,_⟩
   ·exact absurd (hb q h5) h3
   ·omega
  ·exact h1
  ·exact absurd (hw i h1 TJ) hS
 subst hqi
 have own:∀id,H q id≠none→mP rid (sF b q) id:=fun id bp PC=>by
  obtain⟨j,h1,h2,h2',h3⟩:=D.names q hq id bp PC
  rw[(h1.parts h2').2]
  rcases h3 with h3|⟨w',h5,h6,h8⟩
  ·rcases D.Bo lE TJ (D.xd (by omega) h3) (by omega) with⟨_,h9⟩|⟨h9,_⟩
   ·exact h9
   ·omega
  ·have TK:sF b q w':=by
    rcases D.Bo lE TJ (D.PA (by omega) h6) (by omega) with⟨_,h9⟩|⟨h9,_⟩
    ·exact h9
    ·omega
   rcases h8 with rfl|h8
   ·exact TK
   ·exact Ea D.Oz q w' j lE TK h8
 refine⟨fun hh TL=>?_,?_⟩
 ·funext id
  rw[TL id]
  cases bT:H q id with
  |none =>
   have:h id=none:=by
    by_cases h1:mP rid S id
    ·rw[(fP id).1 h1,bT]
    ·exact(fP id).2 h1
   rw[this];split<;>rfl
  |some ob =>
   have h1:=own id (by rw[bT];simp)
   have h2:mP rid S id:=fun hr=>hb _ (h1 hr)
   have h3:qP rid (b.getD q 0) id=true:=by
    unfold qP
    by_cases hr:id / 32768=rid+1
    ·have:=h1 hr
     unfold sF at this
     rw[this];simp
    ·simp[hr]
   rw[h3,(fP id).1 h2,bT];rfl
 ·obtain⟨q',h1,h2,h3⟩:=PL E (fun k=>S k∨k=q) ops.size
  have Vk:q+1≤q':=by
   rcases Nat.lt_or_ge q q' with h5|h5
   ·exact h5
   ·obtain⟨h6,h8⟩:=h3 (by omega)
    rcases Nat.lt_or_ge q' q with h9|h9
    ·exact absurd (.inl (hw q' h9 h6)) h8
    ·exact absurd (.inr (by omega)) h8
  have e1:H (q+1)=h'.get:=by rw[h7];rfl
  have vj:∀j,(b.getD q 0 ||| 2 ^ q).testBit j=true→S j∨j=q:=fun j hj=>by
   rw[Nat.testBit_or,Bool.or_eq_true,Nat.testBit_two_pow]at hj
   exact hj.imp (hb j) (fun h=>(of_decide_eq_true h).symm)
  refine⟨q',h1,h2,h3,fun id=>⟨fun h5=>?_,fun h5=>?_⟩⟩
  ·rw[D.z5 q' Vk h1 (fun k h6 h8 h9=>?_) id (fun k h6 h8 h9 mN=>?_),e1]
   ·have hk:=h2 k h8 h9
    have PD:S k:=hk.resolve_right (by omega)
    rcases D.Bo (by omega) h9 TN (by omega) with⟨_,zm⟩|⟨zm,_⟩
    ·exact hS (dj.closed k q PD zm)
    ·omega
   ·have hk:=h5 (mN.parts (by omega)).1
    rw[(mN.parts (by omega)).2]at hk
    have PD:S k:=hk.resolve_right (by omega)
    rcases D.Bo lE TJ (D.xd (by omega) h9) (by omega) with⟨zm,_⟩|⟨_,zm⟩
    ·omega
    ·exact hS (dj.closed k q PD zm)
  ·cases bT:h'.get id with
   |none=>rfl
   |some ob=>exact absurd ((mr vj h4.2 id ob bT).1) h5
end
section
variable {S:Nat→Prop} {Tc:Nat→AV}
theorem Dp{o:Oper}{d:Nat}(h:Operand.tmp d∈o.op.operands):d∈o.looksAt ops :=
 List.mem_append_left _ (List.mem_filterMap.2 ⟨.tmp d,by simpa using h,rfl⟩)
theorem Ht{o:Oper}{j d:Nat}{want:Bool}(hg:o.guard=some (j,want))(hd:(ops[j]?).bind (·.dst)=some d):d∈o.looksAt ops:=by
 unfold Oper.looksAt
 rw[hg]
 exact List.mem_append_right _ (by simp only[hd];simp)
theorem Dr.wanted(D:Dr P Eqs Sg F rid n ops b T H E)(dj:Dj rid ops b T H E S Tc h){a:Act}{i:Nat}{o:Oper}(ho:ops[i]? = some o)(hS:¬S i)(hb:∀j,sF b i j→S j)(t:c8 Z ψ h w n Tc a){c:Bool}(hw:qp ops (T i) o c) :
  Region.wanted o (yielded ops a.tmps)=c:=by
 unfold qp at hw
 split at hw
 ·rename_i hg;rw[hw];simp[Region.wanted,hg]
 ·rename_i j want hg
  obtain⟨d,hd,hc⟩:=hw
  have e:=D.looks dj ho hS hb (Ht hg hd)
  rcases hc with⟨u,h1,h2⟩|⟨vs,h1,h2⟩
  ·rw[Bh t hg hd (e.trans h1),h2]
  ·rw[yL t hg hd (e.trans h1),h2]
theorem Dr.Kb(D:Dr P Eqs Sg F rid n ops b T H E)(V:Env P Eqs Sg F){i:Nat}{o:Oper}{a:Act}(ho:ops[i]? = some o)(hS:¬S i)(hb:∀j,sF b i j→S j)(dj:Dj rid ops b T H E S Tc h)(j:J (mP rid S) n Z0 w0 O ψ0 Z ψ Tc h a w)
  {K:Act→World→Prop} {Q:Exit→Act→World→Prop} (hk:∀Tc' h' a' w' Z' ψ',Dj rid ops b T H E (fun k=>S k∨k=i) Tc' h'→J (mP rid fun k=>S k∨k=i) n Z0 w0 O ψ0 Z' ψ' Tc' h' a' w'→K a' w'):wpOp P ops Q i K a w:=by
 have lE:=(Array.getElem?_eq_some_iff.1 ho).1
 have PB:=D.size
 have SW:=D.aeq i o ho
 have aM:∀k,(S k∨k=i)→k<ops.size:=fun k hk=>hk.elim (dj.lt k) (fun e=>e▸lE)
 have JG:∀k j,(S k∨k=i)→sF b k j→S j∨j=i:=fun k j hk hj=>.inl (hk.elim (fun h=>dj.closed k j h hj) (fun e=>hb j (e▸hj)))
 unfold wpOp
 rw[ho]
 simp only[]
 cases hE:E i with
 |none =>
  obtain⟨h1,h2,h3⟩:=D.Fp ho hE
  rw[D.wanted dj ho hS hb j.tr h1]
  simp only[Bool.false_eq_true,if_false]
  obtain⟨t1,t2⟩:=D.PI dj ho hS h2
  refine hk _ h _ w Z ψ ⟨aM,JG,D.Hs dj lE hS (fun⟨v,os,h⟩=>by rw[hE]at h;cases h) (fun⟨v,os,h⟩=>by rw[hE]at h;cases h),t1,t2⟩ (j.skip SW fun id hp hr=>.inl (hp hr))
 |some e =>
  obtain⟨s,hh,h1,h2,h3,h4,h5,h6,h7⟩:=D.TI ho hE
  rw[D.wanted dj ho hS hb j.tr h5]
  simp only[if_true]
  refine .inl ?_
  obtain⟨t1,t2⟩:=D.PI dj ho hS h6
  have hT:∀x∈o.op.operands,aw Z ψ h w (ρ s x) (a.eval x)∧aK (mP rid S) (ρ s x):=fun x hx=>by
   cases x with
   |tmp d =>
    have e1:look s d=Tc d:=by rw[h1];exact(D.looks dj ho hS hb (Dp hx)).symm
    simp only[ρ,e1]
    exact⟨j.tr.rep d,j.tm d⟩
   |const v=>exact⟨GQ v,Bf _ v⟩
   |global g=>exact⟨by simp only[ρ,aw],by simp only[ρ,aK]⟩
   |func f=>exact⟨by simp only[ρ,aw,ar,Act.eval];exact⟨#[],rfl,rfl⟩,by simp only[ρ,aK,aE]⟩
  have ox:=Bj (hh:=[]) j.hm (fun k hk=>hb k hk) h4
  obtain⟨e0,h3,Bn,uM⟩:=h3
  cases e0 with
  |wr v0 OT =>
   simp only[ij]at Bn
   subst Bn
   have mW:=D.TO dj ho hS hb hE
   have TL:=mW.1 hh h2
   subst TL
   refine J.opF V (rid:=rid) (i:=i) (fun _ id hp=>hp.Bg (by omega) hS) j SW (fun x hx=>(hT x hx).1) (fun x hx=>(hT x hx).2) h3 uM (p':=mP rid fun k=>S k∨k=i) (fun id hp hr=>.inl (hp hr)) ox.1 ox.2 fun a' w' Z' ψ' j' => ?_
   exact hk _ _ a' w' Z' ψ' ⟨aM,JG,mW.2,t1,t2⟩ j'
  |val v0 =>
   simp only[ij]at Bn
   subst Bn
   have aew:∃WL:Heap,(∀id o,WL.get id=some o→h id=some o)∧c4 P Eqs Sg F (opId rid i) WL s o some=some (.val v0):=by
    cases hf:nF o.op with
    |true=>exact⟨[],fun id o h=>by simp[Heap.get]at h,by rw[M9 hf (h':=iu hh (iv ops b i s o))];exact h3⟩
    |false =>
     cases SQ:jB o.op with
     |some x =>
      have ZB:iv ops b i s o=[]:=by unfold iv;rw[(Eb SQ).2];rfl
      rw[ZB]at h3
      have h3':c4 P Eqs Sg F (opId rid i) hh s o some=some (.val v0):=h3
      have nJ:∀id,(fG (uX (ρ s x)) hh []).get id=if id∈uX (ρ s x) then hh.get id else none:=fun id=>by
       rw[kM]
       split
       ·cases hh.get id<;>rfl
       ·rfl
      refine⟨fG (uX (ρ s x)) hh [],fun id ob bT=>?_,?_⟩
      ·rw[nJ]at bT
       split at bT
       ·rename_i hm;exact D.Ng dj ho SQ hS hb h1 h2 id hm ob bT
       ·cases bT
      ·rw[J9 SQ (hh:=hh) (fun id hm=>by rw[nJ,if_pos hm])];exact h3'
     |none=>exact⟨_,fun id ob bT=>D.seen dj ⟨o,ho,hf,SQ⟩ hS hb h2 id ob (by rw[ou]at bT;split at bT;cases bT;exact bT),h3⟩
   obtain⟨WL,Gx,Lr⟩:=aew
   refine J.op V (rid:=rid) (i:=i) (fun _ id hp=>hp.Bg (by omega) hS) j SW (fun x hx=>(hT x hx).1) (fun x hx=>(hT x hx).2) Gx Lr (fun v hw he=>by cases he) (p':=mP rid fun k=>S k∨k=i) (fun id hp hr=>.inl (hp hr)) ox.1 ox.2 fun a' w' Z' ψ' j' => ?_
   exact hk _ _ a' w' Z' ψ' ⟨aM,JG,D.Hs dj lE hS (fun⟨v,os,h⟩=>by rw[hE]at h;cases h) (fun⟨v,os,h⟩=>by rw[hE]at h;cases h),t1,t2⟩ j'
  |new v0 os =>
   simp only[ij]at Bn
   subst Bn
   have TN:=D.xd lE ⟨v0,os,hE⟩
   have Gx:∀id ob,(iu hh (iv ops b i s o)).get id=some ob→h id=some ob:=fun id ob bT=>D.seen dj TN hS hb h2 id ob (by rw[ou]at bT;split at bT;cases bT;exact bT)
   refine J.op V (rid:=rid) (i:=i) (fun _ id hp=>hp.Bg (by omega) hS) j SW (fun x hx=>(hT x hx).1) (fun x hx=>(hT x hx).2) Gx h3 (fun v hw he=>by cases he) (p':=mP rid fun k=>S k∨k=i) (fun id hp hr=>.inl (hp hr)) ox.1 ox.2 fun a' w' Z' ψ' j' => ?_
   exact hk _ _ a' w' Z' ψ' ⟨aM,JG,D.PM dj ho hS hb hE,t1,t2⟩ j'
theorem Dr.done(D:Dr P Eqs Sg F rid n ops b T H E)(dj:Dj rid ops b T H E S Tc h)(fO:∀k,k<ops.size→S k):Tc=T ops.size∧h=H ops.size:=by
 constructor
 ·funext d
  by_cases hex:∃(j:Nat) (oj:Oper),ops[j]? = some oj∧oj.dst=some d
  ·obtain⟨j,oj,hj,hd⟩:=hex
   have AX:=(Array.getElem?_eq_some_iff.1 hj).1
   rw[dj.PE j oj d (fO j AX) hj hd,D.Fq hj hd ops.size (Nat.le_refl _) AX]
  ·rw[dj.told d fun j o' _ nK PH=>hex ⟨j,o',nK,PH⟩,D.vz ops.size (Nat.le_refl _) fun k o' _ nK PH=>hex ⟨k,o',nK,PH⟩]
 ·obtain⟨q,hq,_,jk,fP⟩:=dj.heap
  have:q=ops.size:=by
   rcases Nat.lt_or_ge q ops.size with h1|h1
   ·exact absurd (fO q h1) (jk h1).2
   ·omega
  subst this
  funext id
  by_cases jS:mP rid S id
  ·exact(fP id).1 jS
  ·rw[(fP id).2 jS]
   symm
   apply Classical.not_not.1
   intro bp
   apply jS
   intro hr
   obtain⟨j,h1,h2,h3,_⟩:=D.names ops.size (Nat.le_refl _) id bp hr
   rw[(h1.parts h3).2]
   exact fO j h2
def mu(m:Nat)(cC:Array Bool):Nat:=((List.range m).filter fun i => !cC.getD i false).length
theorem Fs{m:Nat}{cC:Array Bool}{i:Nat}(hi:i<m)(hs:i<cC.size)(hn:cC.getD i false=false):mu m cC=mu m (cC.setIfInBounds i true)+1:=by
 unfold mu
 have key:∀(l:List Nat),l.Nodup→i∈l→(l.filter fun k => !cC.getD k false).length=(l.filter fun k => !(cC.setIfInBounds i true).getD k false).length+1:=by
  intro l
  induction l with
  |nil=>intro _ h;cases h
  |cons a r ih =>
   intro C5 hm
   rw[List.nodup_cons]at C5
   rcases List.mem_cons.1 hm with rfl|hm
   ·have h2:(r.filter fun k => !cC.getD k false)=(r.filter fun k => !(cC.setIfInBounds i true).getD k false):=by
     apply List.filter_congr
     intro k hk
     have bp:i≠k:=fun e=>C5.1 (e▸hk)
     rw[getD_set_ne false bp]
    rw[List.filter_cons,List.filter_cons,hn]
    have h3:(cC.setIfInBounds i true).getD i false=true:=by simp[hs]
    rw[h3,h2];simp
   ·have bp:i≠a:=fun e=>C5.1 (e▸hm)
    rw[List.filter_cons,List.filter_cons,getD_set_ne false bp]
    split
    ·simp only[List.length_cons];rw[ih C5.2 hm]
    ·exact ih C5.2 hm
 exact key _ List.nodup_range (List.mem_range.2 hi)
theorem Dr.any(D:Dr P Eqs Sg F rid n ops b T H E)(V:Env P Eqs Sg F){Q:Exit→Act→World→Prop}(hQ:∀Z ψ a w,J (mP rid fun k=>k<ops.size) n Z0 w0 O ψ0 Z ψ (T ops.size) (H ops.size) a w→Q .normal a w) :
  ∀(fuel:Nat) (cC:Array Bool) (Tc:Nat→AV) (h:Hp) (a:Act) (w:World) (Z:Nat→Prop) (ψ:Nat→Value),cC.size=ops.size→mu ops.size cC=fuel →
   Dj rid ops b T H E (fun k=>cC.getD k false=true) Tc h→J (mP rid fun k=>cC.getD k false=true) n Z0 w0 O ψ0 Z ψ Tc h a w→wpAny P .any ops Q fuel cC a w
 |0,cC,Tc,h,a,w,Z,ψ,hs,hu,dj,j=>by
  have fO:∀k,k<ops.size→cC.getD k false=true:=fun k hk=>by
   unfold mu at hu
   have:=List.filter_eq_nil_iff.1 (List.eq_nil_of_length_eq_zero hu) k (List.mem_range.2 hk)
   simpa using this
  refine⟨?_,?_⟩
  ·apply List.eq_nil_iff_forall_not_mem.2
   intro i hi
   obtain⟨h1,o,h2,_⟩:=mem_ready.1 hi
   have h3:=(Array.getElem?_eq_some_iff.1 h2).1
   have h4:=fO i h3
   rw[Array.getD_eq_getD_getElem?,Array.getElem?_eq_getElem (by omega)]at h1 h4
   simp at h1 h4
   rw[h1]at h4;cases h4
  ·obtain⟨e1,e2⟩:=D.done dj fO
   subst e1;subst e2
   refine hQ Z ψ a w ⟨j.ok,j.tr,fun d=>(j.tm d).imp fun id h1 h2=>dj.lt _ (h1 h2),fun id ty cs hb=>(j.hm id ty cs hb).imp fun id h1 h2=>dj.lt _ (h1 h2)⟩
 |fuel+1,cC,Tc,h,a,w,Z,ψ,hs,hu,dj,j=>by
  have look:∀i,i<ops.size→cC.getD i true=cC.getD i false:=fun i hi=>by
   rw[Array.getD_eq_getD_getElem?,Array.getD_eq_getD_getElem?,Array.getElem?_eq_getElem (by omega)];rfl
  refine⟨fun hr=>?_,fun i hi=>?_⟩
  ·exfalso
   have hex:∃i,i<ops.size∧cC.getD i false=false:=by
    apply Classical.byContradiction
    intro hn
    unfold mu at hu
    rw[List.filter_eq_nil_iff.2]at hu
    ·simp at hu
    ·intro k hk
     have:=fun h=>hn ⟨k,List.mem_range.1 hk,h⟩
     cases hl:cC.getD k false with
     |true=>simp
     |false=>exact absurd hl this
   have key:∀i,i<ops.size→cC.getD i false=false→False:=by
    intro i
    induction i using Nat.strongRecOn with
    |ind i ih =>
     intro hi hl
     have gH:i∈Region.ready .any ops cC:=by
      refine mem_ready.2 ⟨by rw[look i hi];exact hl,_,Array.getElem?_eq_getElem hi,fun e he MY=>?_⟩
      have WO:=J8 D.Oz (Array.getElem?_eq_getElem hi) (by simpa using he) MY
      cases hle:cC.getD e.on false with
      |true=>rfl
      |false=>exact(ih e.on WO (by omega) hle).elim
     rw[hr]at gH;cases gH
   obtain⟨i,h1,h2⟩:=hex
   exact key i h1 h2
  ·obtain⟨h1,o,ho,fO⟩:=mem_ready.1 hi
   have lE:=(Array.getElem?_eq_some_iff.1 ho).1
   have hn:cC.getD i false=false:=by rw[←look i lE];exact h1
   have hS:¬(cC.getD i false=true):=by rw[hn];simp
   have hb:∀k,sF b i k→cC.getD k false=true:=fun k hk=>by
    obtain⟨e,he,MY,h2⟩:=(zX D.Oz ho).1 hk
    have h3:=fO e (by simpa using he) MY
    rcases h2 with rfl|h2
    ·exact h3
    ·exact dj.closed e.on k h3 h2
   refine D.Kb V ho hS hb dj j fun Tc' h' a' w' Z' ψ' dj' j' => ?_
   have heq:(fun k=>cC.getD k false=true∨k=i)=(fun k=>(cC.setIfInBounds i true).getD k false=true):=by
    funext k
    apply propext
    by_cases e:i=k
    ·subst e
     simp[show i<cC.size by omega]
    ·rw[getD_set_ne false e]
     constructor
     ·rintro(h|h)
      ·exact h
      ·exact absurd h.symm e
     ·exact .inl
   rw[heq]at dj' j'
   exact D.any V hQ fuel _ Tc' h' a' w' Z' ψ' (by simpa using hs) (by have:=Fs lE (by omega) hn;omega) dj' j'
end
end Go.Vs
namespace Go.Vs
variable {P:Program} {Eqs:TypeId→Option K} {Sg:FuncId→Option aL} {F:(f:FuncId)→(g:aL)→g.A→Option g.B} {R:Type}
variable {Z Z' Z0:Nat→Prop} {ψ ψ' ψ0:Nat→Value} {h h':Hp} {w w' w0:World} {B0:Nat} {O N:Nat→Prop}
theorem Br(f:AV→AV)(hf:f .no=.no):∀(l:List (Nat×AV)) (d:Nat),look (l.map fun p=>(p.1,f p.2)) d=f (look l d)
 |[],d=>by simp[look,hf]
 |(i,v)::r,d=>by
  simp only[List.map_cons,look]
  split
  ·rfl
  ·exact Br f hf r d
section
variable {rid:Nat}
mutual
theorem xf:∀{a:AV} {v:Value},aw Z ψ h w a v→aw Z ψ h w (bH rid a) v
 |.ref id s i off,v,hr=>by
  simp only[bH]
  split
  ·simp only[aw]
  ·exact hr
 |.bO id,v,hr=>by
  simp only[bH]
  split
  ·simp only[aw]
  ·exact hr
 |.fn f cap,v,hr=>by
  simp only[bH,aw]at hr ⊢
  obtain⟨vs,e,hl⟩:=hr
  exact⟨vs,e,mv hl⟩
 |.agg cs,v,hr=>by
  simp only[bH,aw]at hr ⊢
  obtain⟨vs,e,hl⟩:=hr
  exact⟨vs,e,mv hl⟩
 |.nW cs,v,hr=>by
  simp only[bH,aw]at hr ⊢
  obtain⟨vs,e,hl⟩:=hr
  exact⟨vs,e,mv hl⟩
 |.no,v,hr=>by simpa only[bH] using hr
 |.bool _,v,hr=>by simpa only[bH] using hr
 |.int _ _,v,hr=>by simpa only[bH] using hr
 |.str _,v,hr=>by simpa only[bH] using hr
 |.lY,v,hr=>by simpa only[bH] using hr
 |.gu,v,hr=>by simpa only[bH] using hr
 |.fp _ _ _,v,hr=>by simpa only[bH] using hr
 |.sl _ _ _,v,hr=>by simpa only[bH] using hr
 |.mp _ _ _,v,hr=>by simpa only[bH] using hr
theorem mv:∀{a:List AV} {v:List Value},ar Z ψ h w a v→ar Z ψ h w (l9 rid a) v
 |[],v,hr=>by simpa only[l9] using hr
 |x::r,v,hr=>by
  simp only[l9,ar]at hr ⊢
  obtain⟨u,us,e,h1,h2⟩:=hr
  exact⟨u,us,e,xf h1,mv h2⟩
end
mutual
theorem pR:∀(a:AV),aK (mP rid fun _=>False) (bH rid a)
 |.ref id s i off=>by
  simp only[bH]
  split
  ·simp only[aK]
  ·rename_i hn;simp only[aK];exact fun h=>absurd h hn
 |.bO id=>by
  simp only[bH]
  split
  ·simp only[aK]
  ·rename_i hn;simp only[aK];exact fun h=>absurd h hn
 |.fn f cap=>by simp only[bH,aK];exact jl cap
 |.agg cs=>by simp only[bH,aK];exact jl cs
 |.nW cs=>by simp only[bH,aK];exact jl cs
 |.no=>by simp only[bH,aK]
 |.bool _=>by simp only[bH,aK]
 |.int _ _=>by simp only[bH,aK]
 |.str _=>by simp only[bH,aK]
 |.lY=>by simp only[bH,aK]
 |.gu=>by simp only[bH,aK]
 |.fp _ _ _=>by simp only[bH,aK]
 |.sl _ _ _=>by simp only[bH,aK]
 |.mp _ _ _=>by simp only[bH,aK]
theorem jl:∀(a:List AV),aE (mP rid fun _=>False) (l9 rid a)
 |[]=>by simp only[l9,aE]
 |x::r=>by simp only[l9,aE];exact⟨pR x,jl r⟩
end
theorem get_map(f:Ob→Ob):∀(hh:Heap) (i:Nat),Heap.get (hh.map fun p=>(p.1,f p.2)) i=(hh.get i).map f
 |[],i=>rfl
 |(j,o)::r,i=>by
  simp only[List.map_cons,Heap.get]
  split
  ·rfl
  ·exact get_map f r i
def ni(rid:Nat)(hh:Heap):Heap:=(hh.filter fun p=>p.1 / 32768 != rid+1).map fun p=>(p.1,AF rid p.2)
theorem Nh(hh:Heap)(i:Nat):(ni rid hh).get i=if i / 32768=rid+1 then none else(hh.get i).map (AF rid):=by
 unfold ni
 rw[get_map (AF rid),get_filter (fun i=>i / 32768 != rid+1)]
 by_cases e:i / 32768=rid+1<;>simp[e]
theorem iW{hh:Heap}{i:Nat}{o:Ob}(hg:(ni rid hh).get i=some o):i / 32768≠rid+1∧∃o',hh.get i=some o'∧o=AF rid o':=by
 rw[Nh]at hg
 split at hg
 ·cases hg
 ·rename_i hn
  cases h0:hh.get i with
  |none=>rw[h0]at hg;cases hg
  |some o'=>rw[h0]at hg;cases hg;exact⟨hn,o',rfl,rfl⟩
theorem kP{hh:Heap}{i:Nat}(hg:(ni rid hh).get i≠none):hh.get i≠none:=by
 obtain⟨o,ho⟩:=Option.ne_none_iff_exists'.1 hg
 obtain⟨_,o',h1,_⟩:=iW ho
 rw[h1];simp
theorem Good.lu{hh:Heap}(g:Good Z ψ hh.get w B0 O):Good Z ψ (ni rid hh).get w B0 O:=by
 refine⟨fun id ty cs hb=>?_,fun id ok xs hb=>?_,fun id b h1 h2=>g.live id b (kP h1) h2,fun id mR b h1 h2 h3 h4=>g.apart id mR b (kP h1) (kP h2) h3 h4,g.j5⟩
 ·obtain⟨_,o',h1,h2⟩:=iW hb
  cases o' with
  |own ok xs=>cases h2
  |box zj cs' =>
   cases h2
   obtain⟨gg,vs,h3,h4,h5,h6⟩:=g.box id ty cs' h1
   exact⟨gg,vs,h3,h4,mv (h5.less (fun _ h=>h) (cG.refl _ _) fun i hi=>⟨kP hi,rfl⟩),h6⟩
 ·obtain⟨_,o',h1,h2⟩:=iW hb
  cases o' with
  |own Yx Y1=>cases h2;exact g.row id _ _ h1
  |box zj cs'=>cases h2
theorem Ok.sub{hp:Hp}(k:Ok Z0 w0 O ψ0 Z ψ h w)(g:Good Z ψ hp w w0.heap.size O)(hn:∀id,hp id≠none→h id≠none):Ok Z0 w0 O ψ0 Z ψ hp w :=
 ⟨g,k.fX,k.eV,k.os,k.tape,k.output,k.size,k.block,fun i hi bp=>k.fix i hi (hn i bp)⟩
end
theorem Good.Bu(g:Good Z ψ h w B0 O)(e:w'.heap=w.heap):Good Z ψ h w' B0 O:=by
 have sm:cG Z w w':=fun b _=>by rw[e]
 refine⟨fun id ty cs hb=>?_,fun id ok xs hb=>?_,g.live,g.apart,fun b hb=>by rw[e];exact g.j5 b hb⟩
 ·obtain⟨gg,vs,h1,h2,h3,h4⟩:=g.box id ty cs hb
  exact⟨gg,vs,h1,by rw[e];exact h2,h3.less (fun _ h=>h) sm (fun i hi=>⟨hi,rfl⟩),h4⟩
 ·exact(g.row id ok xs hb).kept (fun _ h=>h) sm (fun gg _=>by rw[e])
theorem Ok.Bu(k:Ok Z0 w0 O ψ0 Z ψ h w)(e:w'.heap=w.heap)(e1:w'.os=w.os)(e2:w'.tape=w.tape)(e3:w'.output=w.output):Ok Z0 w0 O ψ0 Z ψ h w' :=
 ⟨k.eL.Bu e,k.fX,k.eV,e1.trans k.os,e2.trans k.tape,e3.trans k.output,by rw[e];exact k.size,fun b hb ho=>by rw[e];exact k.block b hb ho,k.fix⟩
theorem c8.Bu{n:Nat}{T:Nat→AV}{a:Act}(t:c8 Z ψ h w n T a)(e:w'.heap=w.heap):c8 Z ψ h w' n T a :=
 ⟨fun d=>(t.rep d).less (fun _ h=>h) (fun b _=>by rw[e]) (fun i hi=>⟨hi,rfl⟩),t.size,t.defers⟩
theorem Ft(V:Env P Eqs Sg F)(hm:P.follows .mixedOrders=true){n rid:Nat}{ops:Array Oper}{draw:Bool}{st:St}{kk:St→Option R}{r:R}{a:Act}{Q:Exit→Act→World→Prop}
  (hx:iO P Eqs Sg F n rid ops draw st kk=some r) (k:Ok Z0 w0 O ψ0 Z ψ st.heap.get w) (t:c8 Z ψ st.heap.get w n (look st.tmps) a)
  (hQ:∀eU Z ψ a w,kk eU=some r→Ok Z0 w0 O ψ0 Z ψ eU.heap.get w→c8 Z ψ eU.heap.get w n (look eU.tmps) a→Q .normal a w):(Code.region rid ops draw).wp P Q a w:=by
 obtain⟨b,YC,hx⟩:∃b,b=(if draw then Region.before ops else #[])∧(if(ops.all fun o=>iM n o)&&(!draw || (uV ops b&&(AD ops b&&cm (ops.toList.filterMap (·.dst)))))&&decide (ops.size≤128) then
  bF P Eqs Sg F rid draw ops b (ops.toList.zipIdx.map fun p=>(p.2,p.1)) (lu draw rid ops st) kk else none)=some r:=⟨_,rfl,hx⟩
 split at hx
 ·rename_i hc
  simp only[Bool.and_eq_true,decide_eq_true_eq]at hc
  obtain⟨⟨lj,hdr⟩,jf⟩:=hc
  have Ec:∀(i:Nat) (o:Oper),ops[i]? = some o→iM n o=true:=fun i o ho=>Array.all_eq_true_iff_forall_mem.1 lj o (Array.mem_of_getElem? ho)
  have pk:Ok Z0 w0 O ψ0 Z ψ (ni rid st.heap).get w:=k.sub k.eL.lu fun id=>kP
  have pt:c8 Z ψ (ni rid st.heap).get w n (fun d=>bH rid (look st.tmps d)) a :=
   ⟨fun d=>xf ((t.rep d).less (fun _ h=>h) (cG.refl _ _) fun i hi=>⟨kP hi,rfl⟩),t.size,t.defers⟩
  have pm:tD (mP rid fun _=>False) (ni rid st.heap).get:=fun i ty cs hb=>by
   obtain⟨_,o',h1,h2⟩:=iW hb
   cases o' with
   |own ok xs=>cases h2
   |box zj cs'=>cases h2;exact jl cs'
  have Ed:look (st.tmps.map fun p=>(p.1,bH rid p.2))=fun d=>bH rid (look st.tmps d):=funext fun d=>Br (bH rid) (by simp only[bH]) st.tmps d
  cases draw with
  |false =>
   refine wp_region ?_
   rw[←D6 ops]
   cases J7:ops.any (makes ·.op) with
   |false =>
    have hp:lu false rid ops st=st:=by unfold lu;rw[J7];rfl
    rw[hp]at hx
    refine lO V (rid:=rid) (n:=n) (b:=_) false (fun _ i o ho=>?_) jf Ec hQ _ 0 st Z ψ a w (ow ops) hx ⟨k,t,fun d=>?_,fun i ty cs hb=>?_⟩
    ·have:=Array.any_eq_false'.1 J7 o (Array.mem_of_getElem? ho)
     simpa using this
    ·exact(aK.top _).imp fun id _ h=>by cases h
    ·exact(aE.top _).imp fun id _ h=>by cases h
   |true =>
    have hp:lu false rid ops st={ tmps:=st.tmps.map fun p=>(p.1,bH rid p.2),heap:=ni rid st.heap }:=by unfold lu;rw[J7];rfl
    rw[hp]at hx
    refine lO V (rid:=rid) (n:=n) (b:=_) true (fun h=>by cases h) jf Ec hQ _ 0 _ Z ψ a w (ow ops) hx ⟨pk,by rw[Ed];exact pt,fun d=>?_,fun i ty cs hb=>?_⟩
    ·rw[Ed]
     exact(pR _).imp fun id h1 _ h2=>(h1 h2).elim
    ·exact(pm i ty cs hb).imp fun id h1 _ h2=>(h1 h2).elim
  |true =>
   have hp:lu true rid ops st={ tmps:=st.tmps.map fun p=>(p.1,bH rid p.2),heap:=ni rid st.heap }:=by unfold lu;rw[Bool.true_or];rfl
   rw[hp]at hx
   simp only[Bool.not_true,Bool.false_or,Bool.and_eq_true]at hdr
   obtain⟨aey,ZF,C5⟩:=hdr
   refine wp_region_any hm ?_
   obtain⟨T,H,E,h1,h2,h3,eU,h4,h5,h6⟩:=trace (kk:=kk) (r:=r) (ops.toList.zipIdx.map fun p=>(p.2,p.1)) 0 _ (ow ops) (by simp) hx
   rw[Ed]at h1
   have D:Dr P Eqs Sg F rid n ops b T H E:=⟨jf,aey,ZF,Ec,C5,fun k o ho=>h3 k o (Nat.zero_le _) ho,fun id bT=>by
    rw[h2]at bT
    obtain⟨o,ho⟩:=Option.ne_none_iff_exists'.1 bT
    exact(iW ho).1⟩
   have yE:∀k,¬((Array.replicate ops.size false).getD k false=true):=fun k hk=>by
    rw[Array.getD_eq_getD_getElem?,Array.getElem?_replicate]at hk
    split at hk<;>simp at hk
   rw[show max 0 ops.size=ops.size by omega]at h5 h6
   have w2:({ w with drawn:=w.drawn+1 }:World).heap=w.heap:=rfl
   refine D.any V (Z0:=Z0) (w0:=w0) (O:=O) (ψ0:=ψ0) (fun Z ψ a w j=>hQ eU Z ψ a w h4 (by rw[h6];exact j.ok) (by rw[h5,h6];exact j.tr)) ops.size _ (T 0) (H 0) a _ Z ψ (by simp) ?_ ?_ ?_
   ·unfold mu
    rw[List.filter_eq_self.2,List.length_range]
    intro k _
    have:=yE k
    simpa using this
   ·refine⟨fun i hi=>(yE i hi).elim,fun i j hi=>(yE i hi).elim,?_,fun j o d hj=>(yE j hj).elim,fun d _=>rfl⟩
    obtain⟨q,hq1,hq2,hq3⟩:=PL E (fun k=>(Array.replicate ops.size false).getD k false=true) ops.size
    refine⟨q,hq1,hq2,hq3,fun id=>⟨fun jS=>?_,fun jS=>?_⟩⟩
    ·symm
     refine D.z5 q (Nat.zero_le _) hq1 (fun k _ hk hw=>(yE k (hq2 k hk hw)).elim) id fun k _ hk _ ho=>?_
     have:=jS (ho.parts (by omega)).1
     exact yE _ this
    ·rw[h2]
     apply Classical.not_not.1
     intro bp
     obtain⟨o,ho⟩:=Option.ne_none_iff_exists'.1 bp
     exact jS fun hr=>absurd hr (iW ho).1
   ·rw[h1,h2]
    refine⟨pk.Bu w2 rfl rfl rfl,pt.Bu w2,fun d=>(pR _).imp fun id h3 h4=>(h3 h4).elim,fun i ty cs hb=>(pm i ty cs hb).imp fun id h3 h4=>(h3 h4).elim⟩
 ·cases hx
end Go.Vs
