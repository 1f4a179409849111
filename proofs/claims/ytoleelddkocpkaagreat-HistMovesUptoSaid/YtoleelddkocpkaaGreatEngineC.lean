/- The value semantics is sound -/
import Derived.Test.YtoleelddkocpkaaGreatEngineB
import Derived.Maps.RangeRun
import Derived.ChangeMaps
set_option linter.unusedSimpArgs false
set_option linter.unusedVariables false
namespace Go.Vs
variable {P:Program} {Z Z':Nat→Prop} {ψ ψ':Nat→Value} {h h':Hp} {w w':World} {B0:Nat} {O:Nat→Prop} {N:Nat→Prop}
theorem fP:∀(k:K) (x:k.T),(enc k x).length=k.sz
 |.int _,_=>rfl
 |.bool,_=>rfl
 |.str,_=>rfl
 |.sl _,_=>rfl
 |.mp _ _,_=>rfl
 |.fn _,_=>rfl
 |.pair a b,x=>by simp only[enc,List.length_append,K.sz];rw[fP a,fP b]
 |.one k,x=>by simp only[enc,K.sz];exact fP k x
theorem sI(hh:Heap):∀(k:K) (x:k.T),(enc k x).map (cY hh)=enc k x
 |.int _,_=>rfl
 |.bool,_=>rfl
 |.str,_=>rfl
 |.sl _,_=>rfl
 |.mp _ _,_=>rfl
 |.fn _,_=>rfl
 |.pair a b,x=>by simp only[enc,List.map_append];rw[sI hh a,sI hh b]
 |.one k,x=>by simp only[enc];exact sI hh k x
theorem mQ:∀(k:K) (x:k.T) (id:Nat),AV.bK id∉enc k x
 |.int _,_,_=>by simp[enc]
 |.bool,_,_=>by simp[enc]
 |.str,_,_=>by simp[enc]
 |.sl _,_,_=>by simp[enc]
 |.mp _ _,_,_=>by simp[enc]
 |.fn _,_,_=>by simp[enc]
 |.pair a b,x,id=>by
  simp only[enc,List.mem_append];rintro(h|h)
  ·exact mQ a _ id h
  ·exact mQ b _ id h
 |.one k,x,id=>by simp only[enc];exact mQ k x id
theorem yZ{hh:Heap}{ok:OK}{n:Nat}{xs:ok.T}(hg:hh.get n=some (.own ok xs)):eQ hh ok (.bK n)=some xs:=by simp[eQ,hg]
theorem qH{hh:Heap}:∀(dR:List CK) (n:Nat) (x:rZ dR),(∀e∈aY dR n x,hh.get e.1=some e.2)→cS dR hh (aG dR n x)=some x
 |[],n,x,_=>rfl
 |.val k::r,n,x,hg=>by
  have h1:(aG (.val k::r) n x).take k.sz=enc k x.1:=by simp only[aG];rw[←fP k x.1,List.take_left]
  have h2:(aG (.val k::r) n x).drop k.sz=aG r (n+1) x.2:=by simp only[aG];rw[←fP k x.1,List.drop_left]
  have e:cS (.val k::r) hh (aG (.val k::r) n x)=(match dv k (((aG (.val k::r) n x).take k.sz).map (cY hh)),cS r hh ((aG (.val k::r) n x).drop k.sz) with
   |some x,some y=>some ((x,y):k.T×rZ r)
   |_,_=>none):=by generalize aG (.val k::r) n x=l;cases l<;>rfl
  have h4:dv k (((aG (.val k::r) n x).take k.sz).map (cY hh))=some x.1:=by rw[h1];exact(congrArg (dv k) (sI hh k x.1)).trans (vP k x.1)
  have h5:cS r hh ((aG (.val k::r) n x).drop k.sz)=some x.2:=by rw[h2];exact qH r (n+1) x.2 hg
  rw[e];generalize dv k (((aG (.val k::r) n x).take k.sz).map (cY hh))=o1 at h4 ⊢;generalize cS r hh ((aG (.val k::r) n x).drop k.sz)=o2 at h5 ⊢;subst h4;subst h5;rfl
 |.own ok::r,n,x,hg=>by
  simp only[aY]at hg;have h1:=yZ (hg _ abV);have h2:=qH r (n+1) x.2 (fun e he=>hg e (abt _ he));have e:cS (.own ok::r) hh (aG (.own ok::r) n x)=(match eQ hh ok (.bK n),cS r hh (aG r (n+1) x.2) with
   |some x,some y=>some ((x,y):ok.T×rZ r)
   |_,_=>none):=rfl
  rw[e,h1,h2];rfl
theorem QE{hh:Heap}(b:BK){i n:Nat}{x:b.T}(hg:∀e∈km b i n x,hh.get e.1=some e.2):sf b hh i=some x:=by
 cases b with
 |box ty c =>
  grind [km,B9,aG,List.mem_cons_self,sf,qH,List.mem_cons_of_mem]
 |own ok=>exact yZ (hg _ (by simp only[km];exact abV))
theorem Ax{hh:Heap}:∀(bs:List BK) (is:List Nat) (n:Nat) (x:Af bs),is.length=bs.length→(∀e∈bG bs is n x,hh.get e.1=some e.2)→du bs hh is=some x
 |[],[],n,x,_,_=>rfl
 |[],_::_,n,x,hl,_=>by simp at hl
 |_::_,[],n,x,hl,_=>by simp at hl
 |b::r,i::is,n,x,hl,hg=>by
  simp only[bG]at hg;have h2:=QE b (fun e he=>hg e (abG _ he));have h3:=Ax r is (n+16) x.2 (by simpa using hl) (fun e he=>hg e (abA _ he));have e:du (b::r) hh (i::is)=(match sf b hh i,du r hh is with
    |some x,some y=>some ((x,y):b.T×Af r)
    |_,_=>none):=rfl
  rw[e,h2,h3];rfl
theorem zc{i:Nat}{o:Ob}:∀{hh:Heap},cf (hh.map (·.1))=true→(i,o)∈hh→hh.get i=some o
 |[],_,h=>by cases h
 |(j,o')::r,hn,h=>by
  obtain⟨h1,h2⟩:=nT hn;simp only[Heap.get];rcases abz.1 h with e|h
  ·cases e;simp
  ·rw[if_neg,zc h2 h]
   grind
theorem BH{hh:Heap}:∀(dR:List CK) (n:Nat) (x:rZ dR) (id:Nat),AV.bK id∉rr dR (aG dR n x)
 |[],n,x,id=>by simp[aG,rr]
 |.val k::r,n,x,id=>by
  have h1:(aG (.val k::r) n x).take k.sz=enc k x.1:=by grind [aG,fP,List.take_left]
  have h2:(aG (.val k::r) n x).drop k.sz=aG r (n+1) x.2:=by grind [aG,fP,List.drop_left]
  have e:rr (.val k::r) (aG (.val k::r) n x)=(aG (.val k::r) n x).take k.sz++rr r ((aG (.val k::r) n x).drop k.sz):=by rfl
  rw[e,h1,h2,List.mem_append];rintro(h|h)
  ·exact mQ k x.1 id h
  ·exact BH (hh:=hh) r (n+1) x.2 id h
 |.own ok::r,n,x,id=>by simp only[aG,rr];exact BH (hh:=hh) r (n+1) x.2 id
theorem CP{hh:Heap}:∀(bs:List BK) (is:List Nat) (n:Nat) (x:Af bs) (id:Nat),(∀e∈bG bs is n x,hh.get e.1=some e.2)→AV.bK id∉gM bs hh is
 |[],is,n,x,id,_=>by grind [gM]
 |_::_,[],n,x,id,_=>by simp[gM]
 |b::r,i::is,n,x,id,hg=>by
  simp only[bG]at hg;simp only[gM,List.mem_append];rintro(h|h)
  ·cases b with
   |box ty c =>simp only[Ca]at h;rw[hg (i,.box ty (aG c n x.1)) (List.mem_append_left _ (by grind [km,List.mem_cons_self]))]at h;exact BH (hh:=hh) c n x.1 id h
   |own ok=>simp[Ca]at h
  ·exact CP r is (n+16) x.2 id (fun e he=>hg e (abA _ he)) h
theorem Gl{hh:Heap}:∀(cap:List AV) (is is':List Nat) (vs:List Value),kq cap=some is→is'.length=is.length→(∀p∈is.zip is',hh.get p.1≠none∧(h' p.2≠none→ψ' p.2=ψ p.1)) → au Z ψ hh.get w cap vs→au Z' ψ' h' w (is'.map fun i=>.ref i 0 0 0) vs
 |[],is,is',vs,h1,hl,_,hr=>by
  simp only[kq]at h1
  cases h1
  cases is' with
  |nil=>simpa only[List.map_nil,au] using hr
  |cons c r=>simp at hl
 |v::cap,is,is',vs,h1,hl,hp,hr=>by
  simp only[kq]at h1
  split at h1
  ·rename_i i is1 h3 h4
   cases h1
   cases is' with
   |nil=>simp at hl
   |cons c r =>simp only[List.zip_cons_cons]at hp;simp only[List.map_cons,au]at hr ⊢;obtain⟨u,us,rfl,h7,h8⟩:=hr;obtain⟨sz,rfl⟩:=qC h3;obtain⟨h5,h6⟩:=hp _ abV;exact⟨u,us,rfl,BF h7 h5 h6,Gl cap is1 r us h4 (by simpa using hl) (fun p h=>hp p (abt _ h)) h8⟩
  ·cases h1
theorem vc:∀(cap:List AV) (is:List Nat),kq cap=some is→is.length=cap.length
 |[],is,h=>by simp only[kq]at h;cases h;rfl
 |v::cap,is,h=>by
  simp only[kq]at h
  split at h
  ·rename_i i is1 h3 h4
   cases h
   simp[vc cap is1 h4]
  ·cases h
theorem vd:∀(cs:List AV) (is:List Nat),qo cs=some is→is.length=cs.length
 |[],is,h=>by simp only[qo]at h;cases h;rfl
 |c::r,is,h=>by
  cases c<;>simp only[qo]at h<;>first|(cases h;done)|skip
  split at h
  ·rename_i is' h1
   cases h
   simp[vd r is' h1]
  ·cases h
theorem Gm{hh:Heap}:∀(cs:List AV) (is g8:List Nat) (vs:List Value),qo cs=some is→g8.length=is.length→(∀p∈is.zip g8,hh.get p.1≠none∧(h' p.2≠none→ψ' p.2=ψ p.1)) → au Z ψ hh.get w cs vs→au Z' ψ' h' w (g8.map .bK) vs
 |[],is,g8,vs,h,hl,hp,hr=>by
  simp only[qo]at h
  cases h
  have:g8=[]:=abN hl;subst this;simpa only[List.map_nil,au] using hr
 |c::r,is,g8,vs,h,hl,hp,hr=>by
  cases c<;>simp only[qo]at h<;>first|(cases h;done)|skip
  rename_i i
  split at h
  ·rename_i is' h1
   cases h
   cases g8 with
   |nil=>simp at hl
   |cons i' g8 =>simp only[List.zip_cons_cons]at hp;obtain⟨h5,h6⟩:=hp _ abV;simp only[List.map_cons,au]at hr ⊢;obtain⟨u,us,rfl,h3,h4⟩:=hr;refine⟨u,us,rfl,?_,Gm r is' g8 us h1 (by simpa using hl) (fun p Tt=>hp p (abt _ Tt)) h4⟩;simp only[az]at h3 ⊢;exact⟨h3.1,fun hn=>(h3.2 h5).trans (h6 hn).symm⟩
  ·cases h
theorem mq{hh:Heap}(g:Good Z ψ hh.get w B0 O)(hz:∀b,Z b→Z' b):∀(ps:List PK) (ids g8:List Nat) (s:Nat) (vs:List AV) (us:List Value) (x:Js (lT ps)),g8.length=ids.length→cI ps vs=some ids→fK ps hh vs=some x →(∀id b,AV.bK id∈dz ps vs→hh.get id≠none→ob (ψ id)=some b→Z' b)→(∀p∈ids.zip g8,hh.get p.1≠none∧(h' p.2≠none→ψ' p.2=ψ p.1))→au Z ψ hh.get w vs us→au Z' ψ' h' w ((aV ps g8 s x).map (·.2)) us
 |[],ids,g8,s,vs,us,x,hl,hi,hv,hf,hp,hr=>by
  cases vs with
  |nil=>simpa only[aV,List.map_nil,au] using hr
  |cons a r=>simp[cI]at hi
 |.val k::ps,ids,g8,s,vs,us,x,hl,hi,hv,hf,hp,hr=>by
  cases vs with
  |nil=>simp[cI]at hi
  |cons a r =>simp only[cI]at hi;simp only[au]at hr;obtain⟨u,jk,rfl,h3,h4⟩:=hr;obtain⟨h1,h2⟩:=Aw hv;simp only[dz]at hf;simp only[aV,List.map_cons,au];exact⟨u,jk,rfl,tJ g hz (fun id b bL=>hf id b (abG _ bL)) h1 h3,mq g hz ps ids g8 (s+1) r jk x.2 hl hi h2 (fun id b bL=>hf id b (abA _ bL)) hp h4⟩
 |.ref::ps,ids,g8,s,vs,us,x,hl,hi,hv,hf,hp,hr=>by
  cases vs with
  |nil=>simp[cI]at hi
  |cons a r =>
   simp only[cI]at hi
   split at hi
   ·rename_i i is h1 h2
    cases hi
    simp only[au]at hr;obtain⟨u,jk,rfl,h3,h4⟩:=hr
    cases g8 with
    |nil=>simp at hl
    |cons i' is' =>simp only[List.zip_cons_cons]at hp;obtain⟨sz,rfl⟩:=qC h1;obtain⟨h5,h6⟩:=hp _ abV;simp only[aV,List.map_cons,au];exact⟨u,jk,rfl,BF h3 h5 h6,mq g hz ps is is' (s+1) r jk x (by simpa using hl) h2 hv hf (fun p h=>hp p (abt _ h)) h4⟩
   ·cases hi
 |.own::ps,ids,g8,s,vs,us,x,hl,hi,hv,hf,hp,hr=>by
  cases vs with
  |nil=>simp[cI]at hi
  |cons a r =>
   cases a<;>simp only[cI]at hi<;>first|(cases hi;done)|skip
   rename_i i
   split at hi
   ·rename_i is h2
    cases hi
    simp only[au]at hr;obtain⟨u,jk,rfl,h3,h4⟩:=hr
    cases g8 with
    |nil=>simp at hl
    |cons i' is' =>simp only[List.zip_cons_cons]at hp;obtain⟨h5,h6⟩:=hp _ abV;simp only[aV,List.map_cons,au];refine⟨u,jk,rfl,?_,mq g hz ps is is' (s+1) r jk x (by simpa using hl) h2 hv hf (fun p h=>hp p (abt _ h)) h4⟩;simp only[az]at h3 ⊢;exact⟨h3.1,fun hn=>(h3.2 h5).trans (h6 hn).symm⟩
   ·cases hi
 |.wz f m::ps,ids,g8,s,vs,us,x,hl,hi,hv,hf,hp,hr=>by
  cases vs with
  |nil=>simp[cI]at hi
  |cons a r =>
   cases a<;>simp only[cI]at hi<;>first|(cases hi;done)|skip
   rename_i f' cap
   split at hi
   ·rename_i hc;obtain⟨rfl,vF⟩:=hc
    split at hi
    ·rename_i a1 b1 h1 h2
     cases hi
     simp only[au]at hr;obtain⟨u,jk,rfl,h3,h4⟩:=hr;have h5:=vc cap a1 h1;have Ao:(a1++b1).zip g8=a1.zip (g8.take m)++b1.zip (g8.drop m):=by
      conv=>lhs;rw[←List.take_append_drop m g8]
      rw[List.zip_append];rw[List.length_take,Nat.min_eq_left]
      ·omega
      ·rw[hl,List.length_append];omega
     rw[Ao]at hp;simp only[aV,List.map_cons,au];refine⟨u,jk,rfl,?_,mq g hz ps b1 (g8.drop m) (s+1) r jk x (by rw[List.length_drop,hl,List.length_append];omega) h2 hv hf (fun p h=>hp p (abA _ h)) h4⟩;simp only[az]at h3 ⊢;obtain⟨ws,h6,h7⟩:=h3;exact⟨ws,h6,Gl cap a1 (g8.take m) _ h1 (by rw[List.length_take,Nat.min_eq_left (by rw[hl,List.length_append];omega)];omega) (fun p h=>hp p (abG _ h)) h7⟩
    ·cases hi
   ·cases hi
 |.agg m::ps,ids,g8,s,vs,us,x,hl,hi,hv,hf,hp,hr=>by
  cases vs with
  |nil=>simp[cI]at hi
  |cons a r =>
   cases a<;>simp only[cI]at hi<;>first|(cases hi;done)|skip
   rename_i cs
   split at hi
   ·rename_i vF
    split at hi
    ·rename_i a1 b1 h1 h2
     cases hi
     simp only[au]at hr;obtain⟨u,jk,rfl,h3,h4⟩:=hr;have h5:=vd cs a1 h1;have Ao:(a1++b1).zip g8=a1.zip (g8.take m)++b1.zip (g8.drop m):=by
      conv=>lhs;rw[←List.take_append_drop m g8]
      rw[List.zip_append];rw[List.length_take,Nat.min_eq_left]
      ·omega
      ·rw[hl,List.length_append];omega
     rw[Ao]at hp;simp only[aV,List.map_cons,au];refine⟨u,jk,rfl,?_,mq g hz ps b1 (g8.drop m) (s+1) r jk x (by rw[List.length_drop,hl,List.length_append];omega) h2 hv hf (fun p h=>hp p (abA _ h)) h4⟩;simp only[az]at h3 ⊢;obtain⟨ws,h6,h7⟩:=h3;exact⟨ws,h6,Gm cs a1 (g8.take m) _ h1 (by rw[List.length_take,Nat.min_eq_left (by rw[hl,List.length_append];omega)];omega) (fun p h=>hp p (abG _ h)) h7⟩
    ·cases hi
   ·cases hi
theorem QF(hh:Heap)(k:K)(x:k.T):hY k hh (cc k x)=some x:=by unfold hY;rw[if_pos (CL k x).symm,vQ];exact(congrArg (dv k) (sI hh k x)).trans (vP k x)
theorem nY:∀(dR:List CK) (c n:Nat) (x:rZ dR),gG dR c=true→(aG dR n x)[nP dR c]? = some (.bK (n+c))
 |[],c,n,x,h=>by simp[gG]at h
 |.val k::r,0,n,x,h=>by simp[gG]at h
 |.val k::r,c+1,n,x,h=>by simp only[aG,nP];have ih:=nY r c (n+1) x.2 (by simpa[gG] using h);have hl:(enc k x.1).length=k.sz:=fP k x.1;generalize enc k x.1=l at hl ⊢;rw[List.getElem?_append_right (by omega),hl,Nat.add_sub_cancel_left,show n+(c+1)=n+1+c by omega];exact ih
 |.own ok::r,0,n,x,h=>by simp[aG,nP]
 |.own ok::r,c+1,n,x,h=>by simp only[aG,nP];rw[Nat.add_comm 1,List.getElem?_cons_succ,show n+(c+1)=n+1+c by omega];exact nY r c (n+1) x.2 (by simpa[gG] using h)
theorem Ay:∀(bs:List BK) (b:Nat) (is:List Nat) (n:Nat) (x:Af bs) (ty:TypeId) (c:List CK) (bi:Nat),bs[b]? = some (.box ty c)→is[b]? = some bi→∃xb,(bi,.box ty (aG c (n+16*b) xb))∈bG bs is n x
 |[],b,is,n,x,_,_,bi,h,_=>by simp at h
 |b0::r,b,[],n,x,_,_,bi,_,h=>by simp at h
 |b0::r,0,i::is,n,x,ty,c,bi,h1,h2=>by
  grind [List.getElem?_cons_zero,Option.some.injEq,bG,km,List.mem_append_left,List.mem_cons_self]
 |b0::r,b+1,i::is,n,x,ty,c,bi,h1,h2=>by
  obtain⟨xb,h3⟩:=Ay r b is (n+16) x.2 ty c bi (by simpa using h1) (by simpa using h2)
  grind [bG,List.mem_append_right]
theorem mR{bs:List BK}{hh:Heap}{is:List Nat}{nb:Nat}{xb:Af bs}(hl:is.length=bs.length)(Xv:∀e∈bG bs is nb xb,hh.get e.1=some e.2):∀(rs:List RK) (ids2:List Nat) (m:Nat) (y:mD rs),sj bs rs=true →(∀e∈aq rs m y,hh.get e.1=some e.2)→bM bs rs hh is (aX rs ids2 nb m y)=some y
 |[],ids2,m,y,_,_=>rfl
 |.val k::r,ids2,m,y,hk,hg=>by
  simp only[sj,List.all_cons,Bool.and_eq_true,E1]at hk;have h1:=QF hh k y.1;have h2:=mR hl Xv r ids2 (m+1) y.2 hk.2 hg;have e:bM bs (.val k::r) hh is (aX (.val k::r) ids2 nb m y)=(match hY k hh (cc k y.1),bM bs r hh is (aX r ids2 nb (m+1) y.2) with
   |some x,some y=>some ((x,y):k.T×mD r)
   |_,_=>none):=rfl
  rw[e];generalize hY k hh (cc k y.1)=o1 at h1 ⊢;generalize bM bs r hh is (aX r ids2 nb (m+1) y.2)=o2 at h2 ⊢;subst h1;subst h2;rfl
 |.own ok::r,ids2,m,y,hk,hg=>by
  simp only[sj,List.all_cons,Bool.and_eq_true,E1]at hk;simp only[aq]at hg;have h1:=yZ (hg _ abV);have h2:=mR hl Xv r ids2 (m+1) y.2 hk.2 (fun e he=>hg e (abt _ he));have e:bM bs (.own ok::r) hh is (aX (.own ok::r) ids2 nb m y)=(match eQ hh ok (.bK m),bM bs r hh is (aX r ids2 nb (m+1) y.2) with
   |some x,some y=>some ((x,y):ok.T×mD r)
   |_,_=>none):=rfl
  rw[e];generalize eQ hh ok (.bK m)=o1 at h1 ⊢;generalize bM bs r hh is (aX r ids2 nb (m+1) y.2)=o2 at h2 ⊢;subst h1;subst h2;rfl
 |.fj b alts::r,ids2,m,y,hk,hg=>by
  simp only[sj,List.all_cons,Bool.and_eq_true,E1]at hk;have h2:=mR hl Xv r ids2 (m+1) y.2 hk.2 hg;have h1:oC bs hh is b alts (wD b nb alts y.1)=some y.1:=by
   cases hy:y.1 with
   |none=>rfl
   |some p =>
    obtain⟨al,i⟩:=p;have h3:=hk.1
    split at h3
    ·rename_i bk hbk;have aO:=(abu.1 hbk).1;have SB:is[b]? = some (is[b]'(by omega)):=abn (by omega);rw[Bool.and_eq_true,decide_eq_true_eq]at h3;obtain⟨h3,E9⟩:=h3;have h3a:∀a:Fin alts.length,gG bk.dR (alts.get a).1=true:=fun a=>adb.1 h3 _ (List.get_mem alts a)
     cases bk with
     |own ok=>have:=h3a al;grind [BK.dR,gG]
     |box ty c0 =>
      obtain⟨xb',h4⟩:=Ay bs b is nb xb ty c0 _ hbk SB;have h5:=Xv _ h4;simp only[BK.dR]at h3a;simp only[oC,wD,hbk,SB,h5,BK.dR];have key:(List.finRange alts.length).find? (fun a=>Cb c0 (aG c0 (nb+16*b) xb') (nb+16*b+(alts.get al).1) (alts.get al).2.1 (alts.get al).2.2 (alts.get a))=some al:=by
       cases hf:(List.finRange alts.length).find? (fun a=>Cb c0 (aG c0 (nb+16*b) xb') (nb+16*b+(alts.get al).1) (alts.get al).2.1 (alts.get al).2.2 (alts.get a)) with
       |none =>have:=List.find?_eq_none.1 hf al (List.mem_finRange al);simp_all [Cb,Bool.and_eq_true,decide_eq_true_eq,trivial,nY,SP]
       |some a' =>
        have hf':=adu hf;obtain⟨h6,_,h7,_⟩:=CO hf';rw[nY c0 _ _ xb' (h3a a')]at h6;simp only[Option.some.injEq,AV.bK.injEq]at h6;have h8:(alts.get a').1=(alts.get al).1:=by omega
        congr 1;have sD:∀a:Fin alts.length,(alts.map fun a=>(a.1,a.2.2))[a.val]? = some ((alts.get a).1,(alts.get a).2.2):=fun a=>by simp_all
        grind [Fin.ext,List.getElem?_inj]
      rw[key];rfl
    ·cases h3
  have e:bM bs (.fj b alts::r) hh is (aX (.fj b alts::r) ids2 nb m y)=(match oC bs hh is b alts (wD b nb alts y.1),bM bs r hh is (aX r ids2 nb (m+1) y.2) with
   |some x,some y=>some ((x,y):Option (Fin alts.length×Nat)×mD r)
   |_,_=>none):=rfl
  rw[e];generalize oC bs hh is b alts (wD b nb alts y.1)=o1 at h1 ⊢;generalize bM bs r hh is (aX r ids2 nb (m+1) y.2)=o2 at h2 ⊢;subst h1;subst h2;rfl
 |.agg c::r,ids2,m,y,hk,hg=>by
  simp only[sj,List.all_cons,Bool.and_eq_true,E1]at hk;simp only[aq]at hg;have h1:=qH (hh:=hh) c m y.1 (fun e he=>hg e (abG _ he));have h2:=mR hl Xv r ids2 (m+1) y.2 hk.2 (fun e he=>hg e (abA _ he));have e:bM bs (.agg c::r) hh is (aX (.agg c::r) ids2 nb m y)=(match cS c hh (aG c m y.1),bM bs r hh is (aX r ids2 nb (m+1) y.2) with
   |some x,some y=>some ((x,y):rZ c×mD r)
   |_,_=>none):=rfl
  rw[e];generalize cS c hh (aG c m y.1)=o1 at h1 ⊢;generalize bM bs r hh is (aX r ids2 nb (m+1) y.2)=o2 at h2 ⊢;subst h1;subst h2;rfl
def ry(g:aN)(x:g.A):Hp:=(bG g.bs (aQ g.bs.length) 2000 x.2).get
def ll(g:aN)(y:g.B):Heap:=bG g.bs (aQ g.bs.length) 2000 y.2++aq g.rs 3000 y.1
def HV(g:aN)(x:g.A):List AV:=(aV g.ps (aQ g.bs.length) 0 x.1).map (·.2)
def Gn(P:Program)(f:FuncId)(g:aN)(x:g.A)(y:g.B):Prop :=∀(Z:Nat→Prop) (ψ0:Nat→Value) (w:World) (lk:List Value),Good Z ψ0 (ry g x) w w.heap.size (Own ψ0 (ry g x))→au Z ψ0 (ry g x) w (HV g x) lk → Calls P (f%1000) lk.toArray w fun e w'=>∃v Z' ψ',e=.returned v∧(∀b,Z b→Z' b)∧(∀b,Z' b→Z b∨Own ψ0 (ry g x) b∨w.heap.size≤b)∧cO ψ0 (ry g x) w w' ∧ Good Z' ψ' (ll g y).get w' w.heap.size (Own ψ0 (ry g x))∧(∀i∈aQ g.bs.length,ψ' i=ψ0 i)∧az Z' ψ' (ll g y).get w' (fD (aX g.rs (aQ g.bs.length) 2000 3000 y.1)) v
theorem HW{ψ:Nat→Value}{b:Nat}:¬Own ψ gT b:=fun⟨_,h,_⟩=>h rfl
theorem Gn.zero{f:FuncId}{g:aN}{x:g.A}{y:g.B}(hb:g.bs=[])(c:Gn P f g x y):adV P f g x y:=by
 obtain⟨ps,bs,rs,_⟩:=g;simp only at hb;subst hb;intro Z w lk hz hr;have e0:ry ⟨ps,[],rs,_⟩ x=gT:=by rfl
 have e1:ll ⟨ps,[],rs,_⟩ y=aq rs 3000 y.1:=by rfl
 have hO:Own Mk gT=fun _=>False:=funext fun b=>propext ⟨HW,False.elim⟩;unfold Gn at c;rw[e0,e1]at c;refine(c Z Mk w lk ⟨fun _ _ _ h=>(by cases h),fun _ _ _ h=>(by cases h),fun _ _ h=>absurd rfl h,fun _ _ _ h=>absurd rfl h,hz⟩ hr).mono fun e w' ⟨v,Z',ψ',h1,h2,h3,h4,h5,_,h6⟩=>?_;exact⟨v,Z',ψ',h1,h2,fun b hb=>(h3 b hb).imp (fun h=>h) fun h=>h.resolve_left HW,h4,by simp_all,h6⟩
theorem JR{bs:List BK}{hh:Heap}{x:Af bs}(hd:du bs hh []=some x):bs=[]:=by
 cases bs with
 |nil=>rfl
 |cons b r=>cases hd
variable {Eqs:TypeId→Option K} {Sg:FuncId→Option aN} {F:(f:FuncId)→(g:aN)→g.A→Option g.B}
theorem JS{a b:List Nat}(h:cf (a++b)=true):cf a=true:=by
 induction a with
 |nil=>rfl
 |cons i r ih =>simp_all [nT,cf,Bool.and_eq_true,Bool.not_eq_true',absurd,List.mem_append_left,List.contains_iff_mem]
theorem Good.HX(g:Good Z ψ h w B0 O)(B:Nat):Good Z ψ h w B (Own ψ h) :=⟨g.box,g.row,fun id b h1 h2=>⟨(g.live id b h1 h2).1,.inr ⟨id,h1,h2⟩⟩,g.apart,g.kx⟩
theorem pw:∀(l:List Nat) (hh:Heap) (i:Nat),(iu hh l).get i=if i∈l then none else hh.get i
 |[],hh,i=>by simp[iu]
 |j::r,hh,i=>by
  simp only[iu];rw[pw r (hh.del j) i];by_cases h1:i∈r
  ·simp[h1]
  ·by_cases h2:i=j
   ·subst h2;simp[Heap.gZ]
   ·rw[Heap.jl h2];simp[h1,h2]
theorem iz:∀(dR:List CK) (n:Nat) (x:rZ dR),(aY dR n x).map (·.1)=cv dR n
 |[],_,_=>rfl
 |.val k::r,n,x=>iz r (n+1) x.2
 |.own ok::r,n,x=>by simp only[aY,cv,List.map_cons];rw[iz r (n+1) x.2]
theorem mS:∀(bs:List BK) (is:List Nat) (n:Nat) (x:Af bs),is.length=bs.length→(bG bs is n x).map (·.1)=b5 bs is n
 |[],is,n,x,_=>by cases is<;>rfl
 |b::r,[],n,x,hl=>by simp at hl
 |b::r,i::is,n,x,hl=>by
  simp only[bG,b5,List.map_append];rw[mS r is (n+16) x.2 (by simpa using hl),←List.cons_append];congr 1
  cases b with
  |box ty c=>simp only[km,List.map_cons,BK.dR];rw[iz]
  |own ok=>simp[km,BK.dR,cv]
theorem gk:∀(rs:List RK) (m:Nat) (y:mD rs),(aq rs m y).map (·.1)=bD rs m
 |[],_,_=>rfl
 |.own ok::r,m,y=>by simp only[aq,bD,List.map_cons];rw[gk r (m+1) y.2]
 |.val _::r,m,y=>gk r (m+1) y.2
 |.fj _ _::r,m,y=>gk r (m+1) y.2
 |.agg c::r,m,y=>by have e1:(aY c m y.1).map (·.1)=cv c m:=iz c m y.1;simp only[aq,bD,List.map_append];rw[gk r (m+1) y.2];exact congrArg (·++_) e1
theorem qI:∀(dR:List CK) (n:Nat) (x:rZ dR),gx dR (aG dR n x)=cv dR n
 |[],_,_=>rfl
 |.val k::r,n,x=>by
  have h2:(aG (.val k::r) n x).drop k.sz=aG r (n+1) x.2:=by simp only[aG];rw[←fP k x.1,List.drop_left]
  have e:gx (.val k::r) (aG (.val k::r) n x)=gx r ((aG (.val k::r) n x).drop k.sz):=by generalize aG (.val k::r) n x=l;cases l<;>rfl
  rw[e,h2,qI r (n+1) x.2];rfl
 |.own ok::r,n,x=>by simp only[aG,gx,qn,cv,List.cons_append,List.nil_append];rw[qI r (n+1) x.2]
theorem Az{hh:Heap}:∀(bs:List BK) (is:List Nat) (n:Nat) (x:Af bs),is.length=bs.length→(∀e∈bG bs is n x,hh.get e.1=some e.2)→de bs hh is=b5 bs is n
 |[],is,n,x,_,_=>by rfl
 |_::_,[],n,x,hl,_=>by simp at hl
 |b::r,i::is,n,x,hl,hg=>by
  simp only[bG]at hg;simp only[de,b5];rw[Az r is (n+16) x.2 (by simpa using hl) (fun e he=>hg e (List.mem_append_right _ he)),←List.cons_append];congr 1
  cases b with
  |box ty c =>
   grind [nO,BK.dR,aG,List.mem_append_left,km,List.mem_cons_self,qI]
  |own ok=>rfl
theorem ln:∀(rs:List RK) (ids:List Nat) (n m:Nat) (y:mD rs),ep rs (aX rs ids n m y)=bD rs m
 |[],_,_,_,_=>rfl
 |.own ok::r,ids,n,m,y=>by simp only[aX,ep,bD,qn,List.cons_append,List.nil_append];rw[ln r ids n (m+1) y.2]
 |.val _::r,ids,n,m,y=>by simp only[aX,ep,bD];exact ln r ids n (m+1) y.2
 |.fj _ _::r,ids,n,m,y=>by simp only[aX,ep,bD];exact ln r ids n (m+1) y.2
 |.agg c::r,ids,n,m,y=>by have e1:gx c (aG c m y.1)=cv c m:=qI c m y.1;simp only[aX,ep,bD,AV.cells];rw[ln r ids n (m+1) y.2];exact congrArg (·++_) e1
theorem mT:∀(rs:List RK) (ids:List Nat) (n m:Nat) (y:mD rs) (id:Nat),AV.bK id∉gN rs (aX rs ids n m y)
 |[],_,_,_,_,_=>by simp[aX,gN]
 |.own ok::r,ids,n,m,y,id=>by simp only[aX,gN];exact mT r ids n (m+1) y.2 id
 |.val k::r,ids,n,m,y,id=>by
  simp only[aX,gN,List.mem_append];rintro(h|h)
  ·have e:(cc k y.1).cells=enc k y.1:=vQ k y.1;exact mQ k y.1 id (e▸h)
  ·exact mT r ids n (m+1) y.2 id h
 |.fj _ _::r,ids,n,m,y,id=>by simp only[aX,gN];exact mT r ids n (m+1) y.2 id
 |.agg c::r,ids,n,m,y,id=>by
  simp only[aX,gN,AV.cells,List.mem_append];rintro(h|h)
  ·exact BH (hh:=[]) c m y.1 id h
  ·exact mT r ids n (m+1) y.2 id h
theorem QG{gg:aN}{x:gg.A}{y:gg.B}{Tu:List Nat}{oR eU:Nat→Value}{id:Nat}(hl:Tu.length=gg.bs.length)(hrs:sj gg.bs gg.rs=true)(CQ:cf (si gg)=true) (HY:cf (b5 gg.bs Tu id++bD gg.rs (id+128))=true) (Tv:Good Z' eU (ll gg y).get w' w.heap.size (Own oR (ry gg x))) {v:Value} (ajt:az Z' eU (ll gg y).get w' (fD (aX gg.rs (aQ gg.bs.length) 2000 3000 y.1)) v) :
  ∃L2:List Au,dX L2=bG gg.bs Tu id y.2++aq gg.rs (id+128) y.1∧L2.map (·.1)=b5 gg.bs Tu id++bD gg.rs (id+128) ∧ Good Z' (fm eU L2) (dX L2).get w' w.heap.size (Own oR (ry gg x))∧(∀p∈(aQ gg.bs.length).zip Tu,fm eU L2 p.2=eU p.1) ∧ az Z' (fm eU L2) (dX L2).get w' (fD (aX gg.rs Tu id (id+128) y.1)) v:=by
 have hle:(aQ gg.bs.length).length=gg.bs.length:=by simp[aQ]
 have hn2:cf ((ll gg y).map (·.1))=true:=by unfold ll;rw[List.map_append,mS _ _ _ _ hle,gk];exact CQ
 have Xv:∀e∈bG gg.bs (aQ gg.bs.length) 2000 y.2,(ll gg y).get e.1=some e.2:=fun e he=>zc hn2 (by unfold ll;exact abG _ he);have hgr:∀e∈aq gg.rs 3000 y.1,(ll gg y).get e.1=some e.2:=fun e he=>zc hn2 (by unfold ll;exact abA _ he);have E5:=Ax gg.bs _ 2000 y.2 hle Xv;have hd2:=mR (xb:=y.2) hle Xv gg.rs (aQ gg.bs.length) 3000 y.1 hrs hgr
 let vsC:=aX gg.rs (aQ gg.bs.length) 2000 3000 y.1
 let L2:List Au:=cz gg.bs (ll gg y) (aQ gg.bs.length) Tu id y.2++cH gg.rs vsC (id+128) y.1
 have eH:dX L2=bG gg.bs Tu id y.2++aq gg.rs (id+128) y.1:=by show dX (_++_)=_;rw[nW,jP _ _ _ _ _ _ E5 hl,g6]
 have eN:L2.map (·.1)=b5 gg.bs Tu id++bD gg.rs (id+128):=by show(_++_:List Au).map _=_;rw[List.map_append,iw _ _ _ _ _ _ E5 hl,gj]
 have eS:L2.filterMap (·.2.1)=si gg:=by show(_++_:List Au).filterMap _=_;rw[List.filterMap_append,lh _ _ _ _ _ _ E5 hl,jA _ _ _ _ hd2,Az _ _ 2000 y.2 hle Xv,ln];rfl
 have hn:cf (L2.map (·.1))=true:=by rw[eN];exact HY
 have kd:=BE (ψ:=eU) hn;have g3:Good Z' (fm eU L2) (dX L2).get w' w.heap.size (Own oR (ry gg x)):=by
  refine Tv.rename hn (by rw[eS];exact CQ) fun e he=>?_;rcases abX.1 he with he|he
  ·exact mO Tv (fun _ h=>h) gg.bs _ _ id y.2 E5 (fun i b bL _ _=>(CP gg.bs _ 2000 y.2 i Xv bL).elim) (fun s _=>rfl) (fun e he=>kd e (abG _ he)) e he
  ·exact kC gg.rs vsC (id+128) y.1 hd2 (fun s _=>rfl) e he
 refine⟨L2,eH,eN,g3,fun p hp=>?_,?_⟩
 ·obtain⟨o,ho⟩:=lj (hh:=ll gg y) gg.bs (aQ gg.bs.length) Tu id y.2 hle p hp;exact jz hn (abG _ ho)
 ·refine vO (by rw[oI,oI]) (fun vs oQ=>?_) ajt;exact tR (nb:=id) (is':=Tu) Tv (fun _ h=>h) E5 hl (fun e he=>kd e (abG _ he)) gg.rs vsC (id+128) y.1 vs hd2 (fun i b bL _ _=>(mT gg.rs _ _ _ y.1 i bL).elim) (fun e he=>kd e (abA _ he)) oQ
theorem QH{hh:Heap}{lQ:List AV}{kept:List Nat}{tS:Hp}{oR Tw:Nat→Value}{H2:Heap}(g:Good Z ψ hh.get w B0 O)(hB:B0≤w.heap.size)(Jl:∀s∈kept,(cM hh lQ).get s=hh.get s) (bj:∀i ty cs,hh.get i=some (.box ty cs)→aC (fun i=>¬N i) cs) (rR:∀b,Own oR tS b→∃s,s∈kept∧hh.get s≠none∧ob (ψ s)=some b) (hz:∀b,rX Z ψ hh.get lQ b→Z' b) (Ck:∀b,Z' b→rX Z ψ hh.get lQ b∨Own oR tS b∨w.heap.size≤b) (keep:cO oR tS w w') (g3:Good Z' Tw H2.get w' w.heap.size (Own oR tS)) (Tx:∀i ty cs,H2.get i=some (.box ty cs)→aC (fun j=>H2.get j≠none) cs) (yJ:∀i,H2.get i≠none→(i∈kept∧hh.get i≠none∧Tw i=ψ i)∨N i) :
  ∃CR,(∀i,H2.get i≠none→CR i=Tw i)∧Next Z ψ hh.get w B0 O N Z' CR (H2++iu (cM hh lQ) kept).get w':=by
 classical
 let CR:Nat→Value:=fun i=>if H2.get i≠none then Tw i else ψ i
 have h4:∀i,H2.get i≠none→CR i=Tw i:=fun i hi=>if_pos hi;have hg:∀i,(H2++iu (cM hh lQ) kept).get i=(match H2.get i with|some o=>some o|none=>if i∈kept then none else(cM hh lQ).get i):=fun i=>by grind [Heap.get_append,pw]
 have Cu:∀i,H2.get i≠none→(H2++iu (cM hh lQ) kept).get i=H2.get i:=fun i hi=>by
  grind
 have Gp:∀i,H2.get i=none→(H2++iu (cM hh lQ) kept).get i≠none→i∉kept∧(H2++iu (cM hh lQ) kept).get i=hh.get i∧(cM hh lQ).get i=hh.get i∧CR i=ψ i∧hh.get i≠none:=fun i hi bz=>by
  rw[hg,hi]at bz ⊢;simp only at bz ⊢;by_cases hk:i∈kept
  ·simp_all
  ·rw[if_neg hk]at bz ⊢;obtain⟨o,ho⟩:=abK.1 bz;have:=eL _ _ _ _ ho
   grind
 have ad2:∀i b,i∉kept→hh.get i≠none→ob (ψ i)=some b→¬Own oR tS b:=fun i b hk hi hb ho=>by obtain⟨s,h1,h2,h3⟩:=rR b ho;exact hk ((g.apart i s b hi h2 hb h3)▸h1)
 have gd:Good (rX Z ψ hh.get lQ) ψ (cM hh lQ).get w B0 O:=jm g lQ;have ad3:∀b,rX Z ψ hh.get lQ b→¬Own oR tS b:=fun b hb ho=>by obtain⟨s,h1,h2,h3⟩:=rR b ho;exact(gd.live s b (by simp_all) h3).1 hb
 have sm:cr (rX Z ψ hh.get lQ) w w':=fun b hb=>keep.block b (gd.kx b hb) (ad3 b hb);have ad4:∀i,(H2++iu (cM hh lQ) kept).get i≠none→(hh.get i≠none∧CR i=ψ i)∨N i:=fun i hi=>by
  grind
 have kk:cO ψ hh.get w w':=⟨keep.os,keep.tape,keep.output,keep.size,fun b hb tG=>keep.block b hb fun ho=>by obtain⟨s,_,h2,h3⟩:=rR b ho;exact tG ⟨s,h2,h3⟩⟩;refine⟨CR,h4,fun b hb=>hz b (.inl hb),fun b hb=>?_,kk,ad4,⟨fun i ty cs hb=>?_,fun i ok xs hb=>?_,fun i b h1 h2=>?_,fun i i' b h1 h2 h3 h5=>?_,g3.kx⟩⟩
 ·rcases Ck b hb with h1|h1|h1
  ·exact(h1.imp (fun h=>h) fun⟨i,_,h2,h3⟩=>.inl ⟨i,h2,h3⟩)
  ·obtain⟨s,_,h2,h3⟩:=rR b h1;exact .inr (.inl ⟨s,h2,h3⟩)
  omega
 ·by_cases h2:H2.get i=none
  ·obtain⟨h3,h5,h6,h7,h8⟩:=Gp i h2 (by rw[hb];simp);rw[h5]at hb;obtain⟨gg,vs,e1,e2,e3,e4⟩:=gd.box i ty cs (by simp_all);have aO:=(abI.1 e2).1;refine⟨gg,vs,by rw[h7,e1],?_,?_,e4⟩
   ·rw[keep.block gg aO (ad2 i gg h3 h8 (by rw[e1];rfl))];exact e2
   ·refine e3.move (p:=fun i=>¬N i) hz sm (fun j hp hj=>?_) (bj i ty cs hb)
    grind
  ·rw[Cu i h2]at hb;obtain⟨gg,vs,e1,e2,e3,e4⟩:=g3.box i ty cs hb;exact⟨gg,vs,by simp_all,e2,e3.move (p:=fun j=>H2.get j≠none) (fun _ h=>h) (cr.refl _ _) (fun j hp _=>⟨hp,h4 j hp⟩) (Tx i ty cs hb),e4⟩
 ·by_cases h2:H2.get i=none
  ·obtain⟨h3,h5,h6,h7,h8⟩:=Gp i h2 (by rw[hb];simp);rw[h5]at hb;rw[h7];exact(gd.row i ok xs (by simp_all)).kept hz sm fun gg Qi=>keep.block gg (g.bO ⟨i,h8,Qi⟩) (ad2 i gg h3 h8 Qi)
  ·rw[Cu i h2]at hb;rw[h4 i h2];exact g3.row i ok xs hb
 ·by_cases h3:H2.get i=none
  ·obtain⟨h5,h6,h7,h8,h9⟩:=Gp i h3 h1;rw[h8]at h2;obtain⟨qg,E2⟩:=gd.live i b (by simp_all) h2;refine⟨fun hzb=>?_,E2⟩;rcases Ck b hzb with Tj|Tj|Tj
   ·exact qg Tj
   ·grind
   ·have:=g.bO ⟨i,h9,h2⟩;omega
  ·rw[h4 i h3]at h2;obtain⟨h5,h6⟩:=g3.live i b h3 h2;refine⟨h5,?_⟩;rcases h6 with h6|h6
   ·omega
   ·obtain⟨s,_,h7,h8⟩:=rR b h6;exact(g.live s b h7 h8).2
 ·have Ga:∀i i',H2.get i=none→H2.get i'≠none→(H2++iu (cM hh lQ) kept).get i≠none→ob (CR i)=some b→ob (CR i')=some b→False:=fun i i' e1 e2 e3 e4 e5=>by
   obtain⟨h6,_,_,h8,h9⟩:=Gp i e1 e3;rw[h8]at e4;rw[h4 i' e2]at e5;rcases (g3.live i' b e2 e5).2 with qg|qg
   ·have:=g.bO ⟨i,h9,e4⟩;omega
   grind
  by_cases e1:H2.get i=none<;>by_cases e2:H2.get i'=none
  ·obtain⟨_,_,_,h8,h9⟩:=Gp i e1 h1;obtain⟨_,_,_,h8',h9'⟩:=Gp i' e2 h2;rw[h8]at h3;rw[h8']at h5;exact g.apart i i' b h9 h9' h3 h5
  ·grind
  ·grind
  ·rw[h4 i e1]at h3;rw[h4 i' e2]at h5;exact g3.apart i i' b e1 e2 h3 h5
theorem BI{i:Nat}{o:Ob}:∀{hh:Heap},(i,o)∈hh→hh.get i≠none
 |[],h=>by cases h
 |(j,o')::r,h=>by
  simp only[Heap.get]
  split
  ·simp
  ·rename_i hn;rcases abz.1 h with e|h
   ·simp_all
   ·exact BI h
theorem get_mem{i:Nat}{o:Ob}:∀{hh:Heap},hh.get i=some o→(i,o)∈hh
 |[],h=>by simp[Heap.get]at h
 |(j,o')::r,h=>by
  simp only[Heap.get]at h
  split at h
  ·rename_i e;subst e;cases h;exact abV
  ·exact abt _ (get_mem h)
theorem qJ{p:Nat→Prop}:∀{a b:List AV},aC p a→aC p b→aC p (a++b)
 |[],b,_,h=>h
 |x::r,b,h,h'=>by simp only[List.cons_append,aC]at h ⊢;exact⟨h.1,qJ h.2 h'⟩
theorem kW{p:Nat→Prop}:∀(dR:List CK) (n:Nat) (x:rZ dR),(∀e∈aY dR n x,p e.1)→aC p (aG dR n x)
 |[],n,x,_=>by simp only[aG,aC]
 |.val k::r,n,x,h=>by simp only[aG];exact qJ (mP p k x.1) (kW r (n+1) x.2 h)
 |.own ok::r,n,x,h=>by simp only[aY]at h;simp only[aG,aC,aJ];exact⟨h _ abV,kW r (n+1) x.2 fun e he=>h e (abt _ he)⟩
theorem n6:∀(dR:List CK) (n:Nat) (x:rZ dR) (i:Nat) (ty:TypeId) (cs:List AV),(i,Ob.box ty cs)∉aY dR n x
 |[],_,_,_,_,_=>by simp[aY]
 |.val k::r,n,x,i,ty,cs=>n6 r (n+1) x.2 i ty cs
 |.own _::r,n,x,i,ty,cs=>by simp_all [aY,List.mem_cons,not_or,n6]
theorem ve{p:Nat→Prop}:∀(bs:List BK) (is:List Nat) (n:Nat) (x:Af bs),(∀e∈bG bs is n x,p e.1)→∀i ty cs,(i,Ob.box ty cs)∈bG bs is n x→aC p cs
 |[],is,n,x,_,i,ty,cs,h=>by cases is<;>simp[bG]at h
 |b::r,[],n,x,_,i,ty,cs,h=>by simp[bG]at h
 |b::r,i0::is,n,x,hp,i,ty,cs,h=>by
  simp only[bG]at h hp;rcases abX.1 h with h|h
  ·cases b with
   |box ty0 c0 =>
    simp only[km]at h hp;rcases abz.1 h with e|h
    ·cases e
     exact kW c0 n x.1 fun e he=>hp e (abG _ (abt _ he))
    ·exact absurd h (n6 _ _ _ _ _ _)
   |own ok=>simp[km]at h
  ·exact ve r is (n+16) x.2 (fun e he=>hp e (abA _ he)) i ty cs h
theorem n8:∀(dR:List CK) (n i:Nat),i∈cv dR n→n≤i∧i<n+dR.length
 |[],n,i,h=>by simp[cv]at h
 |.val k::r,n,i,h=>by
  have:=n8 r (n+1) i (by grind [cv])
  grind
 |.own ok::r,n,i,h=>by
  simp only[cv]at h;simp only[List.length_cons];rcases abz.1 h with rfl|h
  ·omega
  ·have:=n8 r (n+1) i h;omega
theorem wZ:∀(bs:List BK) (is:List Nat) (n i:Nat),(bs.all fun b=>decide (b.dR.length≤16))=true→i∈b5 bs is n→i∈is∨(n≤i∧i<n+16*bs.length)
 |[],is,n,i,_,h=>by grind [b5]
 |b::r,[],n,i,_,h=>by simp[b5]at h
 |b::r,i0::is,n,i,hc,h=>by
  simp only[List.all_cons,Bool.and_eq_true,decide_eq_true_eq]at hc;simp only[b5]at h;simp only[List.length_cons];rcases abz.1 h with rfl|h
  ·simp_all
  ·rcases abX.1 h with h|h
   ·have:=n8 _ _ _ h;omega
   ·rcases wZ r is (n+16) i hc.2 h with h1|h1
    ·simp_all
    omega
theorem jS{bs:List BK}:∀(rs:List RK) (m i:Nat),sj bs rs=true→i∈bD rs m→m≤i∧i<m+rs.length+16
 |[],m,i,_,h=>by simp[bD]at h
 |.own ok::r,m,i,hk,h=>by
  simp only[sj,List.all_cons,Bool.and_eq_true]at hk;simp only[bD]at h;simp only[List.length_cons];rcases abz.1 h with rfl|h
  ·omega
  ·have:=jS r (m+1) i hk.2 h;omega
 |.val _::r,m,i,hk,h=>by
  simp only[sj,List.all_cons,Bool.and_eq_true]at hk;have:=jS r (m+1) i hk.2 (by grind [bD])
  grind
 |.fj _ _::r,m,i,hk,h=>by
  simp only[sj,List.all_cons,Bool.and_eq_true]at hk;have:=jS r (m+1) i hk.2 (by grind [bD])
  grind
 |.agg c::r,m,i,hk,h=>by
  simp only[sj,List.all_cons,Bool.and_eq_true,E1,decide_eq_true_eq]at hk;simp only[bD]at h;simp only[List.length_cons];rcases abX.1 h with h|h
  ·have:=n8 c m i h;omega
  ·have:=jS r (m+1) i hk.2 h;omega
theorem AA{hh:Heap}:∀(bs:List BK) (is:List Nat) (i:Nat),is.length=bs.length→i∈is→i∈de bs hh is
 |[],is,i,hl,h=>by cases is with
  |nil=>cases h
  |cons a r=>simp at hl
 |b::r,[],i,_,h=>by cases h
 |b::r,i0::is,i,hl,h=>by
  simp only[de];rcases abz.1 h with rfl|h
  ·refine abG _ ?_
   cases b<;>simp[nO]
  ·exact abA _ (AA r is i (by simpa using hl) h)
theorem Ty{α β:Type}:∀{a:List α} {b:List β},a.length=b.length→∀x∈a,∃y,(x,y)∈a.zip b∧(y,x)∈b.zip a
 |[],b,_,x,h=>by cases h
 |a::r,[],hl,x,_=>by simp at hl
 |a::r,c::q,hl,x,h=>by
  simp only[List.zip_cons_cons];rcases abz.1 h with rfl|h
  ·simp_all
  ·obtain⟨y,h1,h2⟩:=Ty (a:=r) (b:=q) (by simpa using hl) x h
   grind
theorem vR:∀(dR:List CK) (n c:Nat),gG dR c=true→n+c∈cv dR n
 |[],n,c,h=>by simp[gG]at h
 |.own _::r,n,0,_=>by simp[cv]
 |.own _::r,n,c+1,h=>by
  simp only[gG]at h;have:=vR r (n+1) c h
  grind [cv,List.mem_cons_of_mem]
 |.val _::r,n,0,h=>by simp[gG]at h
 |.val _::r,n,c+1,h=>by
  simp only[gG]at h;have:=vR r (n+1) c h
  grind [cv]
theorem AB:∀(bs:List BK) (is:List Nat) (n b i:Nat) (bk:BK),is.length=bs.length→bs[b]? = some bk→i∈cv bk.dR (n+16*b)→i∈b5 bs is n
 |[],_,_,b,_,_,_,h,_=>by simp at h
 |_::_,[],_,_,_,_,hl,_,_=>by simp at hl
 |b0::r,i0::is,n,0,i,bk,hl,hb,hi=>by simp only[List.getElem?_cons_zero,Option.some.injEq]at hb;subst hb;simp only[b5];exact abt _ (abG _ (by simpa using hi))
 |b0::r,i0::is,n,b+1,i,bk,hl,hb,hi=>by
  simp only[List.getElem?_cons_succ]at hb;simp only[b5];refine abt _ (abA _ (AB r is (n+16) b i bk (by simpa using hl) hb ?_))
  rwa [show n+16+16*b=n+16*(b+1) by omega]
theorem lp{p:Nat→Prop}{bs:List BK}{is:List Nat}(hl:is.length=bs.length):∀(rs:List RK) (ids:List Nat) (n m:Nat) (y:mD rs),sj bs rs=true→(∀i∈bD rs m,p i)→(∀i∈b5 bs is n,p i)→aC p (aX rs ids n m y)
 |[],_,_,_,_,_,_,_=>by simp only[aX,aC]
 |.val k::r,ids,n,m,y,hr,h1,h2=>by simp only[sj,List.all_cons,Bool.and_eq_true,E1]at hr;simp only[aX,aC];exact⟨pn p k y.1,lp hl r ids n (m+1) y.2 hr.2 (fun i hi=>h1 i hi) h2⟩
 |.own _::r,ids,n,m,y,hr,h1,h2=>by simp only[sj,List.all_cons,Bool.and_eq_true,E1]at hr;simp only[aX,aC,aJ];exact⟨h1 m (by simp[bD]),lp hl r ids n (m+1) y.2 hr.2 (fun i hi=>h1 i (by grind [bD,List.mem_cons_of_mem])) h2⟩
 |.fj b alts::r,ids,n,m,y,hr,h1,h2=>by
  simp only[sj,List.all_cons,Bool.and_eq_true,E1]at hr;simp only[aX,aC];refine⟨?_,lp hl r ids n (m+1) y.2 hr.2 (fun i hi=>h1 i hi) h2⟩
  cases hy:y.1 with
  |none=>simp only[wD,aJ]
  |some p =>
   obtain⟨al,i⟩:=p;simp only[wD,aJ]
   cases hb:bs[b]? with
   |none=>simp_all
   |some bk =>
    rw[hb]at hr;simp only[Bool.and_eq_true]at hr
    grind [AB,vR,List.all_eq_true,List.get_mem]
 |.agg c::r,ids,n,m,y,hr,h1,h2=>by
  simp only[sj,List.all_cons,Bool.and_eq_true,E1]at hr;simp only[aX,aC,aJ];refine⟨kW c m y.1 fun e he=>h1 _ ?_,lp hl r ids n (m+1) y.2 hr.2 (fun i hi=>h1 i (by grind [bD,List.mem_append_right])) h2⟩;simp only[bD];have e1:(aY c m y.1).map (·.1)=cv c m:=iz c m y.1
  grind
theorem MN{p:Nat→Prop}{vs:List AV}(h:aC p vs):aJ p (fD vs):=by
 match vs,h with
 |[],h=>grind [fD,aJ]
 |[v],h=>grind [fD,aC]
 |_::_::_,h=>grind [fD,aJ]
def gE(P:Program)(f:FuncId)(u:Heap→Nat→List AV→Option (Bool×bE)):Prop :=∀{Z:Nat→Prop} {ψ:Nat→Value} {h:Hp} {w:World} {B0:Nat} {O N:Nat→Prop} {hh:Heap} {id:Nat} {e:bE} {vs:List AV} {us:List Value},Good Z ψ h w B0 O→B0≤w.heap.size→(∀id o,hh.get id=some o→h id=some o)→(∀j,j<256→N (id+j))→(∀i ty cs,h i=some (.box ty cs)→aC (fun i=>¬N i) cs)→(∀v hw,e=.wr v hw→hh.get=h) → au Z ψ h w vs us→aC (fun i=>¬N i) vs→u hh id vs=some (true,e) → Calls P f us.toArray w fun en w'=>∃V Z' ψ',en=.returned V∧Next Z ψ h w B0 O N Z' ψ' (e.hp h) w'∧az Z' ψ' (e.hp h) w' e.v V
theorem X4{R:Type}{n:Nat}(a:Fin n)(f:Fin n→Option R):adG n a f=f a:=by
 have key:∀l:List (Fin n),a∈l→l.foldr (fun j r=>cond (a.val==j.val) (f j) r) none=f a:=by
  intro l
  induction l with
  |nil=>simp_all
  |cons j r ih =>
   grind
 exact key _ (List.mem_finRange a)
theorem kD{R:Type}:∀(rs:List RK) (x:mD rs) (K:mD rs→Option R),kr rs x K=K x
 |[],_,_=>rfl
 |.val _::r,x,K=>by simp only[kr];rw[kD r x.2];rfl
 |.own _::r,x,K=>by simp only[kr];rw[kD r x.2];rfl
 |.agg _::r,x,K=>by simp only[kr];rw[kD r x.2];rfl
 |.fj _ alts::r,x,K=>by
  simp only[kr];obtain⟨x1,x2⟩:=x
  cases x1 with
  |none=>simp only[so];rw[kD r x2]
  |some p=>simp only[so];rw[X4,kD r x2]
theorem MO(hX:∀f g u,Sg f=some g→g.x=some u→gE P (f%1000) u)(hF:∀f g x y,Sg f=some g→F f g x=some y→Gn P f g x y)(QI:∀f g,Sg f=some g→jR P (f%1000)) {hh:Heap} {ρC:Operand→Value} {o:Oper} (g:Good Z ψ h w B0 O) (hB:B0≤w.heap.size) (bu:∀id o,hh.get id=some o→h id=some o) {id:Nat} (hN:∀j,j<256→N (id+j)) {e:bE} (bj:∀i ty cs,h i=some (.box ty cs)→aC (fun i=>¬N i) cs) (mK:∀v hw,e=.wr v hw→hh.get=h) {f:FuncId} {cap vs:List AV} {fv:Value} {us:List Value} (ZJ:az Z ψ h w (.fn f cap) fv) (oQ:au Z ψ h w vs us) (Bh:aC (fun i=>¬N i) (vs++cap)) (hex:∀(ws:Array Value),fv=.func (.func f) #[] ws→execOp ρC o=callFunc f (us.toArray++ws)) (he:jL Sg F hh id f (vs++cap) some=some e):ZH P ρC o Z ψ h w B0 O N e:=by
 unfold jL at he
 split at he
 ·cases he
 rename_i gg hSg;simp only[az]at ZJ;obtain⟨ws,rfl,Tz⟩:=ZJ;have Gq:=QI _ _ hSg;have jy:au Z ψ h w (vs++cap) (us++ws.toList):=au.append oQ Tz;have HZ:au Z ψ hh.get w (vs++cap) (us++ws.toList):=jy.oF bu;have gs:Good Z ψ hh.get w B0 O:=g.sub bu;have TA:us.toArray++ws=(us++ws.toList).toArray:=by simp
 split at he
 ·rename_i u hu
  split at he
  ·rename_i hf;obtain⟨⟨b,e'⟩,he1,Xp⟩:=ada.1 he
   cases b with
   |false=>cases Xp
   |true =>
   cases Xp
   have JU:keyOf Sg hh f (vs++cap)%1000=f:=by rw[yV];exact Nat.mod_eq_of_lt hf
   have hx:gE P f u:=by rw[←JU];exact hX _ _ _ hSg hu
   rw[JU]at Gq;refine⟨f,us.toArray++ws,by rw[hex ws rfl];exact mb Gq _,?_⟩;rw[TA];exact hx g hB bu hN bj mK jy Bh he1
  ·cases he
 split at he
 ·rename_i i0 yJ H3
  split at he
  ·rename_i QJ;simp only[Bool.and_eq_true,List.isEmpty_iff]at QJ;obtain⟨rfl,_⟩:=QJ
   split at he
   rotate_left
   ·cases he
   rename_i x b hx hb qw;obtain⟨y,hy,he⟩:=ada.1 he;simp only[SQ,Bool.and_eq_true,decide_eq_true_eq]at H3;obtain⟨_,_,⟨hlen,hf⟩,_⟩:=H3;have Fa:=(hF _ _ _ _ hSg hy).zero (JR hb);have JU:keyOf Sg hh f (vs++cap)%1000=f:=by rw[yV];exact Nat.mod_eq_of_lt hf
   rw[JU]at Gq;have hN':∀j,j<gg.rs.length+16→N (id+128+j):=fun j hj=>by rw[Nat.add_assoc];exact hN _ (by omega)
   refine⟨f,us.toArray++ws,by rw[hex ws rfl];exact mb Gq _,?_⟩;rw[TA];unfold adV at Fa;rw[JU]at Fa;by_cases tG:vB (vs++cap)=true
   ·rw[tG,Bool.or_true]at he
    cases he
    have h1:au Z Mk gT w (Gk gg x) (us++ws.toList):=CJ gs (fun _ h=>h) gg.ps 0 _ _ x (fun v hv i b hi _ _=>(sG tG v hv i hi).elim) yJ hx HZ;refine(Fa Z w _ g.kx h1).mono fun en w' ⟨v,Z',ψ',e1,h2,h3,h4,h5,h6⟩=>?_;obtain⟨wY,n,hr⟩:=yW (nb:=id) qw g hB bj hN' h4 h2 h3 h5 h6;exact⟨v,Z',wY,e1,n,hr⟩
   ·cases hfl:gg.rs.all RK.flat with
    |true =>
     rw[hfl,Bool.true_or]at he
     cases he
     let Zc:Nat→Prop:=fun b=>b<w.heap.size
     have h1:au Zc Mk gT w (Gk gg x) (us++ws.toList):=CJ gs g.kx gg.ps 0 _ _ x (fun v hv i b hi h1 h2=>gs.bO ⟨i,h1,h2⟩) yJ hx HZ;refine(Fa Zc w _ (fun _ h=>h) h1).mono fun en w' ⟨v,Z',ψ',e1,h2,h3,h4,h5,h6⟩=>?_;have h7:az Z ψ' (aq gg.rs 3000 y.1).get w' (fD (aX gg.rs [] 2000 3000 y.1)) v:=vO rfl (fun vs oQ=>Tq gg.rs hfl qw oQ) h6;have gz:Good Z ψ' (aq gg.rs 3000 y.1).get w' w.heap.size (fun _=>False):=by
      refine⟨fun i ty cs hb=>absurd hb (tQ _ _ _ _ _ _ qw),fun i ok x hb=>?_,fun i b h1 h8=>?_,h5.apart,fun b hb=>adg (g.kx b hb) h4.size⟩
      ·obtain⟨ty,k,hk,rfl⟩:=yU _ _ _ _ _ x hfl qw hb;obtain⟨vs,h9,qg⟩:=h5.row i _ x hb;exact⟨vs,h9,fun j z hz=>(qg j z hz).flat hk⟩
      ·obtain⟨h9,qg⟩:=h5.live i b h1 h8;exact⟨fun hz=>h9 (h2 b (g.kx b hz)),qg⟩
     obtain⟨wY,n,hr⟩:=yW (nb:=id) qw g hB bj hN' h4 (fun _ h=>h) (fun _ h=>.inl h) gz h7;exact⟨v,Z,wY,e1,n,hr⟩
    |false =>
     rw[hfl,Bool.false_or,Bool.eq_false_iff.2 tG]at he
     cases he
     have heq:=mK _ _ rfl;subst heq
     let cs:=dz gg.ps (vs++cap)
     have hz0:∀b,rX Z ψ hh.get cs b→Z b∨Own ψ hh.get b:=fun b hb=>hb.imp (fun h=>h) (fun⟨i,_,h2,h3⟩=>⟨i,h2,h3⟩);have gd:Good (rX Z ψ hh.get cs) ψ (cM hh cs).get w B0 O:=jm g cs;have h1:au (rX Z ψ hh.get cs) Mk gT w (Gk gg x) (us++ws.toList) :=CJ gs (fun _ h=>.inl h) gg.ps 0 _ _ x (fun v hv i b hi h1 h2=>.inr ⟨i,wX _ _ yJ v hv i hi,h1,h2⟩) yJ hx HZ;refine(Fa _ w _ gd.kx h1).mono fun en w' ⟨v,Z',ψ',e1,h2,h3,h4,h5,h6⟩=>?_;obtain⟨wY,n,hr⟩:=yW (nb:=id) qw gd hB (fun i ty cs hb=>bj i ty cs (eL _ _ _ _ hb)) hN' h4 h2 h3 h5 h6;have e2:(bE.wr (fD (aX gg.rs [] id (id+128) y.1)) (aq gg.rs (id+128) y.1++cM hh (dz gg.ps (vs++cap)))).hp hh.get=(fun i=>match (aq gg.rs (id+128) y.1).get i with|some o=>some o|none=>(cM hh cs).get i):=by
      funext i;simp only[bE.hp];rw[Heap.get_append]
      cases (aq gg.rs (id+128) y.1).get i<;>rfl
     rw[e2];exact⟨v,Z',wY,e1,n.drop (fun _ h=>.inl h) hz0 (eL _ _),hr⟩
  ·split at he
   rotate_left
   ·cases he
   rename_i x b hx hb Fb;obtain⟨y,hy,he⟩:=ada.1 he;rw[kD]at he
   cases he
   have heq:=mK _ _ rfl;subst heq;simp only[SQ,Bool.and_eq_true,decide_eq_true_eq]at H3;obtain⟨hrs,⟨hbl,vF⟩,⟨hlen,hf⟩,CQ⟩:=H3;rw[Bool.and_eq_true]at Fb;have Fa:=hF _ _ _ _ hSg hy;have JU:keyOf Sg hh f (vs++cap)%1000=f:=by rw[yV];exact Nat.mod_eq_of_lt hf
   rw[JU]at Gq;refine⟨f,us.toArray++ws,by rw[hex ws rfl];exact mb Gq _,?_⟩;rw[TA];unfold Gn at Fa;rw[JU]at Fa;have hl:i0.length=gg.bs.length:=(jQ _ _ _ hb).1;have Gs:=(jQ _ _ _ hb).2;have hle:(aQ gg.bs.length).length=gg.bs.length:=by simp[aQ]
   let lQ:=dz gg.ps (vs++cap)++gM gg.bs hh i0
   let L1:List Au:=cz gg.bs hh i0 (aQ gg.bs.length) 2000 b
   have eH1:dX L1=bG gg.bs (aQ gg.bs.length) 2000 b:=jP _ _ _ _ _ _ hb hle;have eN1:L1.map (·.1)=b5 gg.bs (aQ gg.bs.length) 2000:=iw _ _ _ _ _ _ hb hle;have eS1:L1.filterMap (·.2.1)=de gg.bs hh i0:=lh _ _ _ _ _ _ hb hle;have hn1:cf (L1.map (·.1))=true:=by rw[eN1];exact JS CQ
   have adU:=BE (ψ:=ψ) hn1;have Jl:=(tP Fb.1).2 hh;have Ao:∀b,Z b→rX Z ψ hh.get lQ b:=fun b hb=>.inl hb;have ad7:∀e∈L1,wW (rX Z ψ hh.get lQ) ψ (cM hh lQ).get w (dX L1).get (fm ψ L1) e:=fun e he =>mO gs Ao gg.bs _ _ 2000 b hb (fun i b bL h1 h2=>.inr ⟨i,abA _ bL,h1,h2⟩) Jl adU e he;have gin:Good (rX Z ψ hh.get lQ) (fm ψ L1) (dX L1).get w B0 O:=yT gs Fb.1 hn1 eS1 ad7;have ein:(dX L1).get=ry gg (x,b):=by rw[eH1];rfl
   have abv:∀p∈i0.zip (aQ gg.bs.length),(p.2,some p.1)∈L1.map (fun e=>(e.1,e.2.1)):=fun p hp=>by obtain⟨o,ho⟩:=lj (hh:=hh) gg.bs i0 (aQ gg.bs.length) 2000 b hl p hp;exact ace.2 ⟨_,ho,rfl⟩
   have ad8:∀p∈i0.zip (aQ gg.bs.length),fm ψ L1 p.2=ψ p.1:=fun p hp=>by
    obtain⟨⟨i,s,o⟩,ho,he⟩:=ace.1 (abv p hp)
    cases he
    exact jz hn1 ho
   have abw:au (rX Z ψ hh.get lQ) (fm ψ L1) (dX L1).get w (HV gg (x,b)) (us++ws.toList) :=mq gs Ao gg.ps i0 (aQ gg.bs.length) 0 _ _ x (by rw[hle,hl]) yJ hx (fun i b bL h1 h2=>.inr ⟨i,abG _ bL,h1,h2⟩) (fun p hp=>⟨Gs _ (List.of_mem_zip hp).1,fun _=>ad8 p hp⟩) HZ;have rR:∀c,Own (fm ψ L1) (ry gg (x,b)) c→∃s,s∈de gg.bs hh i0∧hh.get s≠none∧ob (ψ s)=some c:=fun c ⟨i,h1,h2⟩=>by
    rw[←ein]at h1;obtain⟨o,ho⟩:=abK.1 h1;obtain⟨s,hm⟩:=pj ho;rw[jz hn1 hm]at h2
    cases s with
    |none=>simp[kA,ob]at h2
    |some s =>
     have hs:s∈de gg.bs hh i0:=by rw[←eS1];exact adR.2 ⟨_,hm,rfl⟩
     refine⟨s,hs,?_,h2⟩;have h3:=ad7 _ hm;rw[←Jl s hs]
     cases o with
     |box ty cs=>obtain⟨⟨cs0,h4⟩,_⟩:=h3;rw[h4];simp
     |own ok xs=>rw[show(cM hh lQ).get s=some (.own ok xs) from h3];simp
   refine(Fa (rX Z ψ hh.get lQ) (fm ψ L1) w (us++ws.toList) (by rw[←ein];exact gin.HX _) (by rw[←ein];exact abw)).mono fun en w' ⟨v,Z',eU,e1,h2,h3,h4,h5,h6,h7⟩=>?_;obtain⟨L2,eH2,eN2,g3,hzz,abx⟩:=QG (x:=(x,b)) (y:=y) (id:=id) hl hrs CQ Fb.2 h5 h7;have Tx:∀i ty cs,(dX L2).get i=some (.box ty cs)→aC (fun j=>(dX L2).get j≠none) cs:=fun i ty cs hg=>by
    have jo:=get_mem hg;rw[eH2]at jo;rcases abX.1 jo with jo|jo
    ·exact ve gg.bs _ id y.2 (fun e he=>by rw[eH2];exact BI (o:=e.2) (abG _ he)) i ty cs jo
    ·exfalso;have:∀(rs:List RK) (m:Nat) (y:mD rs),(i,Ob.box ty cs)∉aq rs m y:=by
      intro rs
      induction rs with
      |nil=>intro m y;simp[aq]
      |cons r rs ih =>
       intro m y
       cases r with
       |agg c=>simp only[aq,List.mem_append,not_or];exact⟨n6 _ _ _ _ _ _,ih (m+1) y.2⟩
       |val k=>exact ih (m+1) y.2
       |fj _ _=>exact ih (m+1) y.2
       |own ok=>simp only[aq,List.mem_cons,not_or];exact⟨by simp,ih (m+1) y.2⟩
     exact this _ _ _ jo
   have aea:∀i,(dX L2).get i≠none→(i∈de gg.bs hh i0∧hh.get i≠none∧fm eU L2 i=ψ i)∨N i:=fun i hi=>by
    obtain⟨o,ho⟩:=abK.1 hi;obtain⟨s,hm⟩:=pj ho;have jo:i∈b5 gg.bs i0 id++bD gg.rs (id+128):=by rw[←eN2];exact ace.2 ⟨_,hm,rfl⟩
    have hNr:∀i,id≤i→i<id+256→N i:=fun i h1 h2=>by
     have:=hN (i-id) (by omega)
     rwa [show id+(i-id)=i by omega]at this
    rcases abX.1 jo with jo|jo
    ·rcases wZ _ _ _ _ vF jo with h8|h8
     ·refine .inl ⟨AA _ _ _ hl h8,Gs i h8,?_⟩;obtain⟨ee,h9,qg⟩:=Ty (by rw[hle,hl]) i h8;rw[hzz (ee,i) qg];have E2:ee∈aQ gg.bs.length:=(List.of_mem_zip qg).1;rw[h6 ee E2];exact ad8 (i,ee) h9
     ·exact .inr (hNr i h8.1 (by omega))
    ·have h8:=jS _ _ _ hrs jo;exact .inr (hNr i (by omega) (by omega))
   obtain⟨CR,h8,nx⟩:=QH (N:=N) gs hB Jl bj rR h2 h3 h4 g3 Tx aea;have eH3:(bE.wr (fD (aX gg.rs i0 id (id+128) y.1)) (bG gg.bs i0 id y.2++(aq gg.rs (id+128) y.1++iu (cM hh (dz gg.ps (vs++cap)++gM gg.bs hh i0)) (de gg.bs hh i0)))).hp hh.get =(dX L2++iu (cM hh lQ) (de gg.bs hh i0)).get:=by rw[eH2,List.append_assoc];rfl
   rw[eH3];refine⟨v,Z',CR,e1,nx,?_⟩;refine abx.move (p:=fun j=>(dX L2).get j≠none) (fun _ h=>h) (cr.refl _ _) (fun j hp _=>⟨hp,h8 j hp⟩) ?_;refine MN (lp hl gg.rs _ id (id+128) y.1 hrs (fun i hi=>?_) fun i hi=>?_)
   ·rw[←gk gg.rs (id+128) y.1]at hi;obtain⟨e,he,rfl⟩:=ace.1 hi;rw[eH2];exact BI (o:=e.2) (abA _ he)
   ·rw[←mS gg.bs i0 id y.2 hl]at hi;obtain⟨e,he,rfl⟩:=ace.1 hi;rw[eH2];exact BI (o:=e.2) (abG _ he)
 ·cases he
end Go.Vs
namespace Go.Vs
variable {P:Program} {Eqs:TypeId→Option K} {Sg:FuncId→Option aN} {F:(f:FuncId)→(g:aN)→g.A→Option g.B} {R:Type} {k:bE→Option R}
theorem gm{c:Bool}{e:bE}:cond c (k e) none=(cond c (some e) none).bind k:=by grind
theorem fQ{c:Bool}{e:bE}:cond c none (k e)=(cond c none (some e)).bind k:=by grind
theorem fR{c:Bool}{e e':bE}:cond c (k e) (k e')=(cond c (some e) (some e')).bind k:=by grind
theorem gq{α:Type}(o:Option α)(f:α→Option R)(g:α→Option bE)(h:∀x,f x=(g x).bind k):o.bind f=(o.bind g).bind k:=by cases o with
 |none=>rfl
 |some x=>exact h x
theorem MP{h:Heap}{id:Nat}{t:TypeId}{s x:AV}:oV P h id t s x k=(oV P h id t s x some).bind k:=by unfold oV;repeat' (first|rfl|exact gm|exact fQ | exact fR|(refine gq _ _ _ (fun _=>?_))|split)
theorem QK{h:Heap}{t:TypeId}{s x:AV}:tv P h t s x k=(tv P h t s x some).bind k:=by unfold tv;repeat' (first|rfl|exact gm|exact fQ | exact fR|grind [gq]|split)
theorem TB{h:Heap}{t:TypeId}{s:AV}:mE P h t s k=(mE P h t s some).bind k:=by unfold mE;repeat' (first|rfl|exact gm|exact fQ | exact fR|grind [gq]|split)
theorem Fc{h:Heap}{t:TypeId}{s x:AV}:dI P h t s x k=(dI P h t s x some).bind k:=by unfold dI;grind
theorem TC{x:AV}{lo hi mx:Option AV}:yC x lo hi mx k=(yC x lo hi mx some).bind k:=by unfold yC;grind
theorem QL{h:Heap}{sz:Nat}{x:AV}{lo hi mx:Option AV}:ql h sz x lo hi mx k=(ql h sz x lo hi mx some).bind k:=by unfold ql;grind
theorem X5{h:Heap}{x:AV}:F5 h x k=(F5 h x some).bind k:=by unfold F5;grind
theorem X6{op:BinOp}{t:TypeId}{x y:AV}:Ag P Eqs op t x y k=(Ag P Eqs op t x y some).bind k:=by unfold Ag;repeat' (first|rfl|exact gm|exact fQ | exact fR|(refine gq _ _ _ (fun _=>?_))|split)
theorem JV(rs:List RK)(x:mD rs)(f:mD rs→Option R)(g:mD rs→Option bE)(h:∀z,f z=(g z).bind k):kr rs x f=(kr rs x g).bind k:=by grind [kD]
theorem TD{h:Heap}{id:Nat}{f:FuncId}{vs:List AV}:jL Sg F h id f vs k=(jL Sg F h id f vs some).bind k:=by unfold jL;repeat' (first|rfl|exact gm|exact fQ | exact fR|(refine gq _ _ _ (fun _=>?_))|(refine JV _ _ _ _ (fun _=>?_))|split)
theorem TE{id:Nat}{t:TypeId}{vs:List AV}:yH id t vs k=(yH id t vs some).bind k:=rfl
theorem QM{t:TypeId}{ps:List (Nat×AV)}:tz P t ps k=(tz P t ps some).bind k:=by unfold tz;grind
theorem H4{h:Heap}{id:Nat}{t:TypeId}{n:Nat}{ps:List (Nat×AV)}:wE P h id t n ps k=(wE P h id t n ps some).bind k:=by unfold wE;grind
theorem TF{lQ:Bool}{h:Heap}{id:Nat}{t:TypeId}{n:Nat}{ps:List (Nat×AV)}:yI P lQ h id t n ps k=(yI P lQ h id t n ps some).bind k:=by unfold yI;rw[H4,H4 (k:=fun e=>some (if lQ then XO e else e)),Option.bind_assoc];rfl
theorem TG{h:Heap}{s d:TypeId}{x:AV}:Cf P h s d x k=(Cf P h s d x some).bind k:=by unfold Cf;repeat' (first|rfl|exact gm|exact fQ | exact fR|(refine gq _ _ _ (fun _=>?_))|split)
theorem JW{h:Heap}{id:Nat}{t:TypeId}{s:AV}{b:ByteArray}:mn P h id t s b k=(mn P h id t s b some).bind k:=by unfold mn;repeat' (first|rfl|exact gm|exact fQ | exact fR|(refine gq _ _ _ (fun _=>?_))|split)
theorem QN{id:Nat}{t:TypeId}{l c:AV}:tu P id t l c k=(tu P id t l c some).bind k:=by unfold tu;repeat' (first|rfl|exact gm|exact fQ | exact fR|(refine gq _ _ _ (fun _=>?_))|split)
theorem TH{h:Heap}{t:TypeId}{d s:AV}:yy P h t d s k=(yy P h t d s some).bind k:=by unfold yy;repeat' (first|rfl|exact gm|exact fQ | exact fR|(refine gq _ _ _ (fun _=>?_))|split)
theorem aby{b:Bool}{vs:List AV}:Qg b vs k=(Qg b vs some).bind k:=by unfold Qg;grind
theorem TI{h:Heap}{x:AV}:yD h x k=(yD h x some).bind k:=by unfold yD;grind
theorem JX{id:Nat}{t:TypeId}:mo P Eqs id t k=(mo P Eqs id t some).bind k:=by unfold mo;grind
theorem MQ{h:Heap}{t:TypeId}{m i:AV}{ok:Bool}:oW P Eqs h t m i ok k=(oW P Eqs h t m i ok some).bind k:=by unfold oW;grind
theorem MR{h:Heap}{t:TypeId}{m i v:AV}:jx P Eqs h t m i v k=(jx P Eqs h t m i v some).bind k:=by unfold jx;grind
theorem MS{h:Heap}{t:TypeId}{m i:AV}:oX P Eqs h t m i k=(oX P Eqs h t m i some).bind k:=by unfold oX;grind
theorem MT{id:Nat}{t:TypeId}{x:AV}:oY P id t x k=(oY P id t x some).bind k:=by unfold oY;grind
theorem QO{h:Heap}{x:AV}:tw h x k=(tw h x some).bind k:=by unfold tw;grind
theorem QP{h:Heap}{x:AV}:tx h x k=(tx h x some).bind k:=by unfold tx;grind
theorem mr{id:Nat}{h:Heap}{s:List (Nat×AV)}{o:Oper}:cZ P Eqs Sg F id h s o k=(cZ P Eqs Sg F id h s o some).bind k:=by
 obtain⟨dst,op,type,pos,after,guard⟩:=o
 cases op<;>simp only[cZ] <;>
  repeat' (first|rfl|exact TF|exact MP|exact QK|exact TB|exact Fc|exact TC|exact QL|exact X5|exact X6|exact TD|exact TE|exact QM|exact H4|exact TG|exact JW|exact QN|exact TH|exact aby|exact TI|exact JX|exact MQ|exact MR|exact MS|exact MT|exact QO|exact QP|exact gm|(refine gq _ _ _ (fun _=>?_))|split)
theorem QQ{id:Nat}{h h':Heap}{s:List (Nat×AV)}{o:Oper}(hf:oD o.op=true):cZ P Eqs Sg F id h s o k=cZ P Eqs Sg F id h' s o k:=by
 obtain⟨dst,op,type,pos,after,guard⟩:=o
 cases op<;>simp[oD]at hf<;>first|rfl|(rename_i u _ _;cases u<;>rfl)
theorem X7{op:BinOp}{t:TypeId}{x y:AV}{e:bE}(he:Ag P Eqs op t x y some=some e):∃v,e=.val v:=by
 unfold Ag at he
 grind
theorem JY{id:Nat}{h:Heap}{s:List (Nat×AV)}{o:Oper}{e:bE}(hf:oD o.op=true)(he:cZ P Eqs Sg F id h s o some=some e):∃v,e=.val v:=by
 obtain⟨dst,op,type,pos,after,guard⟩:=o
 cases op<;>simp only[oD]at hf<;>first|(cases hf;done)|skip
 case unOp u t x =>
  cases u<;>simp only[cZ]at he<;>repeat' (first|(cases he;done)|exact⟨_,(ac7 he).symm⟩|split at he)
 case makeFunc fn first cap =>
  cases fn<;>simp only[cZ]at he<;>repeat' (first|(cases he;done)|exact⟨_,(ac7 he).symm⟩|split at he)
 all_goals simp only[cZ]at he
 case binOp=>exact X7 he
 case slice =>
  repeat' (first|(cases he;done)|split at he)
  all_goals
   first|unfold yC at he|unfold ql at he
   repeat' (first|(cases he;done)|exact⟨_,(ac7 he).symm⟩|split at he)
   all_goals
    unfold cond at he
    split at he<;>first|(cases he;done)|exact⟨_,(ac7 he).symm⟩
 case build =>
  unfold tz at he
  repeat' (first|(cases he;done)|exact⟨_,(ac7 he).symm⟩|split at he)
 all_goals
  repeat' (first|(cases he;done)|exact⟨_,(ac7 he).symm⟩|split at he)
end Go.Vs
namespace Go.Vs
variable {P:Program} {Eqs:TypeId→Option K} {Sg:FuncId→Option aN} {F:(f:FuncId)→(g:aN)→g.A→Option g.B} {R:Type}
variable {Z Z' Z0:Nat→Prop} {ψ ψ' ψ0:Nat→Value} {h h':Hp} {w w' w0:World} {B0:Nat} {O N:Nat→Prop}
structure Env(P:Program)(Eqs:TypeId→Option K)(Sg:FuncId→Option aN)(F:(f:FuncId)→(g:aN)→g.A→Option g.B):Prop where
 eqs:∀t k,Eqs t=some k→mL P t k
 con:∀f g x y,Sg f=some g→F f g x=some y→Gn P f g x y
 spec:∀f g u,Sg f=some g→g.x=some u→gE P (f%1000) u
 JZ:∀f g,Sg f=some g→jR P (f%1000)
theorem J0{s:List (Nat×AV)}{ρC:Operand→Value}:∀(l:List Operand),(∀x∈l,az Z ψ h w (ρ s x) (ρC x))→au Z ψ h w (l.map (ρ s)) (l.map ρC)
 |[],_=>by simp[au]
 |x::r,hx=>by simp only[List.map_cons,au];exact⟨_,_,rfl,hx x abV,J0 r fun y hy=>hx y (abt _ hy)⟩
theorem Gt{s:List (Nat×AV)}{p:Nat→Prop}:∀(l:List Operand),(∀x∈l,aJ p (ρ s x))→aC p (l.map (ρ s))
 |[],_=>by simp[aC]
 |x::r,hx=>by simp only[List.map_cons,aC];exact⟨hx x abV,Gt r fun y hy=>hx y (abt _ hy)⟩
theorem ZK(E:Env P Eqs Sg F){hh:Heap}{a:Act}{s:List (Nat×AV)}{o:Oper}(g:Good Z ψ h w B0 O)(hB:B0≤w.heap.size)(bu:∀id o,hh.get id=some o→h id=some o){id:Nat}(hN:makes o.op=true→∀j,j<256→N (id+j)){e:bE} (nS:∀x∈o.op.operands,az Z ψ h w (ρ s x) (a.eval x)) (hm:∀x∈o.op.operands,aJ (fun i=>¬N i) (ρ s x)) (bj:∀i ty cs,h i=some (.box ty cs)→aC (fun i=>¬N i) cs) (mK:∀v hw,e=.wr v hw→hh.get=h) (he:cZ P Eqs Sg F id hh s o some=some e) {next:Act→World→Prop} {Q:Exit→Act→World→Prop} (hk:∀V w' Z' ψ',Next Z ψ h w B0 O N Z' ψ' (e.hp h) w'→az Z' ψ' (e.hp h) w' e.v V→next (a.put o.dst V) w'):o.wp P a w next Q:=by
 have d:ij P a.eval o Z ψ h w B0 O N e∨ZH P a.eval o Z ψ h w B0 O N e:=by
  cases Mj:wV o with
  |false=>exact .inl (Tl E.eqs g hB bu (fun hm=>by simpa using hN hm 0 (by decide)) nS hm bj mK Mj he)
  |true =>
   refine .inr ?_;obtain⟨dst,op,type,pos,after,guard⟩:=o
   cases op<;>simp[wV]at Mj
   rename_i c;obtain⟨callee,args,argTypes⟩:=c
   cases callee<;>simp at Mj
   rename_i fo;simp only[cZ]at he
   split at he
   ·rename_i f cap hf;simp only[Op.operands,Call.operands]at nS;have h1:=nS fo (by simp);rw[hf]at h1;have h2:au Z ψ h w (args.toList.map (ρ s)) (args.toList.map a.eval):=J0 _ fun x hx=>nS x (by simp_all);have hmf:=hm fo (by simp[Op.operands,Call.operands]);rw[hf]at hmf;simp only[aJ]at hmf;have hma:aC (fun i=>¬N i) (args.toList.map (ρ s)):=Gt _ fun x hx=>hm x (by grind [Op.operands,Call.operands]);refine MO E.spec E.con E.JZ g hB bu (hN rfl) bj mK h1 h2 (qJ hma hmf) (fun ws Tz=>?_) he;simp only[execOp,resolve,Tz,Deferred.ofValue];simp only[pure_bind,invoke];congr 1
    grind
   ·cases he
 unfold Oper.wp;rcases d with⟨V,w',Z',ψ',h1,h2,h3⟩|⟨f,args,h1,h2⟩
 ·rcases h1 with h1|⟨h1,rfl⟩
  ·rw[h1];exact hk V w' Z' ψ' h2 h3
  ·rw[h1];exact hk undef w' Z' ψ' h2 h3
 ·rw[h1,Oper.upon_enter];refine h2.mono fun en w' ⟨V,Z',ψ',e1,n,hr⟩=>?_
  grind
structure Ok(Z0:Nat→Prop)(w0:World)(O:Nat→Prop)(ψ0:Nat→Value)(Z:Nat→Prop)(ψ:Nat→Value)(h:Hp)(w:World):Prop where
 dA:Good Z ψ h w w0.heap.size O
 gy:∀b,Z0 b→Z b
 fb:∀b,Z b→Z0 b∨O b∨w0.heap.size≤b
 os:w.os=w0.os
 tape:w.tape=w0.tape
 output:w.output=w0.output
 size:w0.heap.size≤w.heap.size
 block:∀b,b<w0.heap.size→¬O b→w.heap[b]? = w0.heap[b]?
 fix:∀i,i<2000→h i≠none→ψ i=ψ0 i
theorem Ok.next(k:Ok Z0 w0 O ψ0 Z ψ h w)(hN:∀id,N id→2000≤id)(n:Next Z ψ h w w0.heap.size O N Z' ψ' h' w'):Ok Z0 w0 O ψ0 Z' ψ' h' w':=by
 have own:∀b,Own ψ h b→w0.heap.size≤b∨O b:=fun b ⟨id,h1,h2⟩=>(k.dA.live id b h1 h2).2;refine⟨n.dA,fun b hb=>n.gy b (k.gy b hb),fun b hb=>?_,n.keep.os.trans k.os,n.keep.tape.trans k.tape,n.keep.output.trans k.output,acz k.size n.keep.size,fun b hb ho=>?_,fun i hi bz=>?_⟩
 ·rcases n.fb b hb with h1|h1|h1
  ·exact k.fb b h1
  ·grind
  ·exact .inr (.inr (acz k.size h1))
 ·rw[n.keep.block b (Nat.lt_of_lt_of_le hb k.size) (fun h1=>(own b h1).elim (fun h2=>by omega) ho)];exact k.block b hb ho
 ·rcases n.ids i bz with⟨h1,h2⟩|h1
  ·rw[h2];exact k.fix i hi h1
  grind
structure cT(Z:Nat→Prop)(ψ:Nat→Value)(h:Hp)(w:World)(n:Nat)(T:Nat→AV)(a:Act):Prop where
 rep:∀d,az Z ψ h w (T d) (a.tmps.getD d undef)
 size:a.tmps.size=n
 defers:a.defers=[]
theorem QR:az Z ψ h w (.oz []) undef:=by simp only[az,au];exact⟨#[],rfl,rfl⟩
def iA(T:Nat→AV)(d:Option Tmp)(v:AV):Nat→AV:=match d with
 |some d=>dV T d v
 |none=>T
theorem iB(st:St)(d:Option Tmp)(v:AV):look (st.put d v).tmps=iA (look st.tmps) d v:=by
 cases d with
 |none=>rfl
 |some d =>
  funext i;simp only[St.put,look,iA,dV]
  grind
theorem dh(st:St)(d:Option Tmp)(v:AV):(st.put d v).heap=st.heap:=by cases d<;>rfl
theorem Gu{T:List (Nat×AV)}{d:Nat}{v:AV}(hv:look T d=v):dV (look T) d v=look T:=by
 grind [dV]
theorem iC{a:Act}{d:Nat}{v:Value}(hd:d<a.tmps.size)(i:Nat):(a.put (some d) v).tmps.getD i undef=if i=d then v else a.tmps.getD i undef:=by
 simp only[Act.put];by_cases e:i=d
 ·simp_all
 ·simp[e,Array.getElem?_setIfInBounds_ne (Ne.symm e)]
theorem cG(a:Act)(d:Option Tmp)(v:Value):(a.put d v).tmps.size=a.tmps.size:=by cases d<;>simp[Act.put]
theorem put_defers(a:Act)(d:Option Tmp)(v:Value):(a.put d v).defers=a.defers:=by cases d<;>rfl
theorem cT.put{n:Nat}{T:Nat→AV}{a:Act}{o:Oper}{x:AV}{V:Value}(t:cT Z ψ h w n T a)(hd:jh n o=true)(hx:az Z ψ h w x V):cT Z ψ h w n (iA T o.dst x) (a.put o.dst V):=by
 refine⟨fun d=>?_,by rw[cG];exact t.size,by rw[put_defers];exact t.defers⟩;unfold jh at hd
 split at hd
 ·rename_i d0 hd0;rw[hd0];rw[iC (by rw[t.size];simpa using hd)];simp only[iA,dV]
  split
  ·exact hx
  ·exact t.rep d
 ·rename_i hd0;rw[hd0];exact t.rep d
theorem cT.next{n:Nat}{T:Nat→AV}{a:Act}(t:cT Z ψ h w n T a)(g:Good Z ψ h w B0 O)(hn:Next Z ψ h w B0 O N Z' ψ' h' w')(hm:∀d,aJ (fun i=>¬N i) (T d)):cT Z' ψ' h' w' n T a :=⟨fun d=>hn.rep g (hm d) (t.rep d),t.size,t.defers⟩
theorem sJ{n:Nat}{s:List (Nat×AV)}{a:Act}(t:cT Z ψ h w n (look s) a)(x:Operand):az Z ψ h w (ρ s x) (a.eval x):=by
 cases x with
 |tmp i=>exact t.rep i
 |const v=>exact JB v
 |global g=>simp only[ρ,az]
 |func f=>simp only[ρ,az,au,Act.eval];exact⟨#[],rfl,rfl⟩
theorem CS(p:Nat→Prop)(v:Value):aJ p (vA v):=by
 cases v with
 |agg cs=>grind [vA,aJ,yR]
 |_=>grind [vA,CI]
theorem QS{p:Nat→Prop}{s:List (Nat×AV)}(hm:∀d,aJ p (look s d))(x:Operand):aJ p (ρ s x):=by
 cases x with
 |tmp i=>exact hm i
 |const v=>exact CS p v
 |global g=>simp only[ρ,aJ]
 |func f=>simp only[ρ,aJ,aC]
def nI(rid:Nat)(S:Nat→Prop)(id:Nat):Prop:=id / 32768=rid+1→S (id / 256%128)
def Of(rid i id:Nat):Prop:=id / 256=(rid+1)*128+i
theorem Of.parts{rid i id:Nat}(hi:i<128)(h:Of rid i id):id / 32768=rid+1∧id / 256%128=i:=by
 grind [Of]
theorem Of.of{rid i id:Nat}(h:id / 32768=rid+1)(hi:id / 256%128=i):Of rid i id:=by unfold Of;omega
theorem Oo{rid i j:Nat}(hj:j<256):Of rid i (opId rid i+j):=by unfold Of opId;omega
theorem J1{rid i:Nat}:Of rid i (opId rid i):=by unfold Of opId;omega
theorem nI.CT{rid i id:Nat}{S:Nat→Prop}(hi:i<128)(hs:¬S i)(h:nI rid S id):¬Of rid i id:=fun ho=>by obtain⟨h1,h2⟩:=ho.parts hi;have:=h h1;simp_all
theorem py{rid bits id:Nat}{S:Nat→Prop}(hb:∀j,bits.testBit j=true→S j)(h:uN rid bits id=true):nI rid S id:=fun h1=>by simp_all [uN,Bool.or_eq_true,bne_iff_ne,ne_eq]
mutual
theorem qK{rid bits:Nat}{S:Nat→Prop}(hb:∀j,bits.testBit j=true→S j):∀{v:AV},uV rid bits v=true→aJ (nI rid S) v
 |.ref id s i off,h=>by simp only[uV]at h;simp only[aJ];exact py hb h
 |.bK id,h=>by simp only[uV]at h;simp only[aJ];exact py hb h
 |.fn f cap,h=>by simp only[uV]at h;simp only[aJ];exact mU hb h
 |.agg cs,h=>by simp only[uV]at h;simp only[aJ];exact mU hb h
 |.oz cs,h=>by simp only[uV]at h;simp only[aJ];exact mU hb h
 |.no,_=>by simp only[aJ]
 |.bool _,_=>by simp only[aJ]
 |.int _ _,_=>by simp only[aJ]
 |.str _,_=>by simp only[aJ]
 |.l8,_=>by simp only[aJ]
 |.fW,_=>by simp only[aJ]
 |.fp _ _ _,_=>by simp only[aJ]
 |.sl _ _ _,_=>by simp only[aJ]
 |.mp _ _ _,_=>by simp only[aJ]
theorem mU{rid bits:Nat}{S:Nat→Prop}(hb:∀j,bits.testBit j=true→S j):∀{v:List AV},Ch rid bits v=true→aC (nI rid S) v
 |[],_=>by simp only[aC]
 |v::r,h=>by simp only[Ch,Bool.and_eq_true]at h;simp only[aC];exact⟨qK hb h.1,mU hb h.2⟩
end
theorem mV{rid bits:Nat}{S:Nat→Prop}(hb:∀j,bits.testBit j=true→S j):∀{hh:Heap},Ah rid bits hh=true→∀id o,hh.get id=some o→nI rid S id∧∀ty cs,o=.box ty cs→aC (nI rid S) cs
 |[],_,id,o,hg=>by simp[Heap.get]at hg
 |(i,ob)::r,h,id,o,hg=>by
  simp only[Heap.get]at hg
  split at hg
  ·rename_i e;subst e
   cases hg
   cases ob with
   |box ty cs =>
    simp only[Ah,Bool.and_eq_true]at h
    grind [py,mU]
   |own ok xs =>
    simp only[Ah,Bool.and_eq_true]at h
    grind [py]
  ·refine mV hb ?_ id o hg
   cases ob<;>simp only[Ah,Bool.and_eq_true]at h<;>exact h.2
def bE.heap(e:bE)(h:Heap):Heap:=match e with
 |.wr _ h'=>h'
 |e=>e.h h
theorem bE.J2(e:bE)(hh:Heap):(e.heap hh).get=e.hp hh.get:=by
 cases e with
 |val v=>rfl
 |new v os=>grind [bE.heap,bE.h,bE.hp,Heap.get_append,Heap.get]
 |wr v h'=>rfl
def vf(p:Nat→Prop)(h:Hp):Prop:=∀i ty cs,h i=some (.box ty cs)→aC p cs
theorem CU{ops:Array Oper}{o:Oper}{n:Nat}{T:Nat→AV}{a:Act}(t:cT Z ψ h w n T a){j d:Nat}{want:Bool}(hg:o.guard=some (j,want))(hd:(ops[j]?).bind (·.dst)=some d){b:Bool}(hb:T d=.bool b) :
  Region.wanted o (yielded ops a.tmps)=(b==want):=by
 have h1:=t.rep d;rw[hb]at h1;simp only[az]at h1;have h2:a.tmps[d]? = some (.bool b):=by
  rw[Array.getD_eq_getD_getElem?]at h1
  cases e:a.tmps[d]? with
  |none=>rw[e]at h1;simp[undef]at h1
  |some v=>rw[e]at h1;simpa using h1
 unfold Region.wanted yielded;rw[hg];simp only[hd,Option.bind_some,h2]
 cases b<;>cases want<;>rfl
theorem AD{ops:Array Oper}{o:Oper}{n:Nat}{T:Nat→AV}{a:Act}(t:cT Z ψ h w n T a){j d:Nat}{want:Bool}(hg:o.guard=some (j,want))(hd:(ops[j]?).bind (·.dst)=some d){vs:List AV}(hb:T d=.oz vs) :
  Region.wanted o (yielded ops a.tmps)=false:=by
 have h1:=t.rep d;rw[hb]at h1;simp only[az]at h1;obtain⟨us,h1,_⟩:=h1;unfold Region.wanted yielded;rw[hg];simp only[hd,Option.bind_some];rw[Array.getD_eq_getD_getElem?]at h1
 grind
def CV(ops:Array Oper):Nat→List (Nat×Oper)→Prop
 |_,[]=>True
 |i,(j,o)::r=>j=i∧ops[i]? = some o∧CV ops (i+1) r
theorem J3(ops:Array Oper):∀(l:List Oper) (i:Nat),(∀k o,l[k]? = some o→ops[i+k]? = some o)→CV ops i ((l.zipIdx i).map fun p=>(p.2,p.1))
 |[],_,_=>by simp[CV]
 |o::r,i,h=>by simp only[List.zipIdx_cons,List.map_cons,CV];exact⟨trivial,h 0 o rfl,J3 ops r (i+1) fun k o' hk=>by rw[Nat.add_assoc,Nat.add_comm 1 k];simp_all⟩
theorem pz(ops:Array Oper):CV ops 0 (ops.toList.zipIdx.map fun p=>(p.2,p.1)):=J3 ops _ 0 fun k o hk=>by simpa using hk
theorem Gv(ops:Array Oper):(ops.toList.zipIdx.map fun p=>(p.2,p.1)).map Prod.fst=List.range ops.size:=by rw[List.map_map];have:(Prod.fst ∘ fun(p:Oper×Nat)=>(p.2,p.1))=Prod.snd:=rfl;rw[this,List.zipIdx_map_snd,List.range_eq_range',Array.length_toList]
structure J(p:Nat→Prop)(n:Nat)(Z0:Nat→Prop)(w0:World)(O:Nat→Prop)(ψ0:Nat→Value)(Z:Nat→Prop)(ψ:Nat→Value)(T:Nat→AV)(h:Hp)(a:Act)(w:World):Prop where
 ok:Ok Z0 w0 O ψ0 Z ψ h w
 tr:cT Z ψ h w n T a
 tm:∀d,aJ p (T d)
 hm:vf p h
theorem J.imp{p q:Nat→Prop}{n:Nat}{T:Nat→AV}{a:Act}(j:J p n Z0 w0 O ψ0 Z ψ T h a w)(HR:∀id,p id→q id):J q n Z0 w0 O ψ0 Z ψ T h a w :=⟨j.ok,j.tr,fun d=>(j.tm d).imp HR,fun id ty cs hb=>(j.hm id ty cs hb).imp HR⟩
theorem J.op(E:Env P Eqs Sg F){rid n i:Nat}{p:Nat→Prop}{T:Nat→AV}{a:Act}{s:List (Nat×AV)}{o:Oper}(hS:makes o.op=true→∀id,p id→¬Of rid i id)(j:J p n Z0 w0 O ψ0 Z ψ T h a w)(hd:jh n o=true) (hT:∀x∈o.op.operands,az Z ψ h w (ρ s x) (a.eval x)) (hTm:∀x∈o.op.operands,aJ p (ρ s x)) {hh:Heap} (bu:∀id o,hh.get id=some o→h id=some o) {e:bE} (he:cZ P Eqs Sg F (opId rid i) hh s o some=some e) (mK:∀v hw,e=.wr v hw→hh.get=h) {p':Nat→Prop} (SC:∀k,p k→p' k) (hv:aJ p' e.v) (hh':vf p' (e.hp h)) {next:Act→World→Prop} {Q:Exit→Act→World→Prop} (hk:∀a' w' Z' ψ',J p' n Z0 w0 O ψ0 Z' ψ' (iA T o.dst e.v) (e.hp h) a' w'→next a' w'):o.wp P a w next Q:=by
 have nof:∀id,p id→¬(makes o.op=true∧Of rid i id):=fun id h ⟨h1,h2⟩=>hS h1 id h h2;refine ZK (N:=fun id=>makes o.op=true∧Of rid i id) E j.ok.dA j.ok.size bu (id:=opId rid i) (fun hm k hk=>⟨hm,Oo hk⟩) hT (fun x hx=>(hTm x hx).imp nof) (fun id ty cs hb=>(j.hm id ty cs hb).imp nof) mK he fun V w' Z' ψ' nx hr=>?_;refine hk _ w' Z' ψ' ⟨j.ok.next (fun id h=>by grind [Of]) nx,(j.tr.next j.ok.dA nx (fun d=>(j.tm d).imp nof)).put hd hr,fun d=>?_,hh'⟩
 cases nJ:o.dst with
 |none=>exact(j.tm d).imp SC
 |some d0 =>
  simp only[iA,dV]
  split
  ·exact hv
  ·exact(j.tm d).imp SC
theorem J.skip{n:Nat}{p p':Nat→Prop}{T:Nat→AV}{a:Act}{o:Oper}(j:J p n Z0 w0 O ψ0 Z ψ T h a w)(hd:jh n o=true)(SC:∀k,p k→p' k) :
  J p' n Z0 w0 O ψ0 Z ψ (iA T o.dst (.oz [])) h (a.put o.dst undef) w:=by
 refine⟨j.ok,j.tr.put hd QR,fun d=>?_,fun id ty cs hb=>(j.hm id ty cs hb).imp SC⟩
 cases nJ:o.dst with
 |none=>exact(j.tm d).imp SC
 |some d0 =>
  simp only[iA,dV]
  split
  ·simp only[aJ,aC]
  ·exact(j.tm d).imp SC
theorem X8{hh:Heap}(g:Good Z ψ hh.get w B0 O){m:Nat}{kk vk:K}{es:List (kk.T×vk.T)}(hg:hh.get m=some (.own (.map kk vk) es))(n:Next Z ψ hh.get w B0 O N Z' ψ' h' w')(hzm:∀b,ob (ψ m)=some b→Z' b) (hold:∀b,b<w.heap.size→w'.heap[b]? = w.heap[b]?) {v:AV} {V:Value} (hm:aJ (fun id=>¬N id) v) (hr:az Z ψ hh.get w v V):az Z' ψ' h' w' (Be m (.mp kk vk es) v) V:=by
 by_cases hv:v=.bK m
 ·subst hv;simp only[Be,if_true];simp only[az]at hr;have hu:=hr.2 (by rw[hg];simp);obtain⟨r,b6,clock,h1,h2,h3,_⟩:=g.row m (.map kk vk) es hg;rw[h1]at hu;subst hu;have aO:=(abI.1 h2).1;simp only[az,aI];exact⟨some r,rfl,.inr ⟨r,b6,clock,rfl,hzm r (by rw[h1];rfl),(hold r aO).trans h2,h3.imp (fun _ _ h=>h.mono n.gy (fun b hb=>hold b (g.kx b hb))) (fun _ _ h=>h.mono n.gy (fun b hb=>hold b (g.kx b hb)))⟩⟩
 ·have hf:Be m (.mp kk vk es) v=v:=by
   unfold Be
   grind
  rw[hf];exact n.rep g hm hr
theorem TJ{p:Nat→Prop}{m:Nat}{kk vk:K}{es:List (kk.T×vk.T)}{v:AV}(hm:aJ p v):aJ p (Be m (.mp kk vk es) v):=by
 unfold Be
 grind [aJ]
theorem tT(f:AV→AV)(hf:f .no=.no):∀(l:List (Nat×AV)) (d:Nat),look (l.map fun p=>(p.1,f p.2)) d=f (look l d)
 |[],_=>by simp only[List.map_nil,look];exact hf.symm
 |(i,v)::r,d=>by
  simp only[List.map_cons,look]
  split
  ·rfl
  ·exact tT f hf r d
theorem MU{rid n i:Nat}{p p':Nat→Prop}{st fe:St}{a:Act}{o:Oper}(hS:∀id,p id→¬Of rid i id)(SC:∀k,p k→p' k)(Tt:p' (opId rid i))(j:J p n Z0 w0 O ψ0 Z ψ (look st.tmps) st.heap.get a w)(hd:jh n o=true)(qL:qp P (opId rid i) st o=some fe) :
  ∃V w' Z' ψ',(execOp a.eval o).run P w=.ok (.value V) w'∧J p' n Z0 w0 O ψ0 Z' ψ' (look fe.tmps) fe.heap.get (a.put o.dst V) w':=by
 unfold qp at qL
 split at qL
 ·rename_i t x Oq
  split at qL
  ·rename_i ka va m hu hx
   split at qL
   ·rename_i kk vk es hg
    cases qL
    have ZL:az Z ψ st.heap.get w (.bK m) (a.eval x):=by rw[←hx];exact sJ j.tr x
    simp only[az]at ZL;have hev:=ZL.2 (by rw[hg];simp);have g:=j.ok.dA;obtain⟨r,b6,clock,h1,h2,h3,h4,h5⟩:=g.row m (.map kk vk) es hg;rw[h1]at hev;have aO:=(abI.1 h2).1;have gd:=jm g [.bK m];have aec:∀b,ob (ψ m)=some b→rX Z ψ st.heap.get [.bK m] b:=fun b hb=>.inr ⟨m,by simp,by rw[hg];simp,hb⟩;have hold:∀b,b<w.heap.size→(w.alloc (.mapIter (some r) clock #[] clock)).heap[b]? = w.heap[b]? := fun b hb=>heap_alloc_old w _ hb;have hN:(Of rid i) (opId rid i):=J1;have n1:=CB (N:=Of rid i) gd j.ok.size (opId rid i) hN (ok:=.iter kk vk) (x:=(none,es)) (v:=.pointer (some ⟨w.heap.size,0,none⟩)) (.mapIter (some r) clock #[] clock) ⟨w.heap.size,r,clock,#[],b6,clock,rfl,heap_alloc_new _ _,aec r (by rw[h1];rfl),(hold r aO).trans h2,h4,rfl,h5,by rw[List.filter_eq_self.2 (fun e _=>by simp)];exact h3.imp (fun _ _ h=>h.mono (fun b hb=>.inl hb) (fun b hb=>hold b (g.kx b hb))) (fun _ _ h=>h.mono (fun b hb=>.inl hb) (fun b hb=>hold b (g.kx b hb))),trivial⟩ rfl (fun i' ty cs hb=>aC.imp (p:=p) (q:=fun i'=>i'≠opId rid i) (fun id hp e=>hS id hp (by simp_all)) (j.hm i' ty cs (eL _ _ _ _ hb)));have n2:=n1.drop (Z:=Z) (h:=st.heap.get) (fun b hb=>.inl hb) (fun b hb=>hb.imp (fun h=>h) (fun⟨id,_,h5,h6⟩=>⟨id,h5,h6⟩)) (eL _ _);have lW:(dV (cM st.heap [.bK m]).get (opId rid i) (some (Ob.own (.iter kk vk) (none,es))))=Heap.get ((opId rid i,.own (.iter kk vk) (none,es))::st.heap.del m):=by
     funext k;simp only[cM,drop1,dV,Heap.get]
     grind
    rw[lW]at n2;refine⟨.pointer (some ⟨w.heap.size,0,none⟩),w.alloc (.mapIter (some r) clock #[] clock),rX Z ψ st.heap.get [.bK m],dV ψ (opId rid i) (.pointer (some ⟨w.heap.size,0,none⟩)),?_,?_⟩
    ·simp_all [guard,Instr.range,Sem.run_bind,run_underlying,Result.andThen_ok,gR,Sem.run_pure,execOp]
    ·have bj:∀d,aJ (fun id=>¬Of rid i id) (look st.tmps d):=fun d=>(j.tm d).imp hS;refine⟨by rw[dh];exact j.ok.next (fun id h=>by grind [Of]) n2,?_,fun d=>?_,fun k ty cs hb=>?_⟩
     ·rw[iB,dh];refine cT.put ⟨fun d=>?_,j.tr.size,j.tr.defers⟩ hd ?_
      ·rw[tT _ rfl];exact X8 g hg n2 (fun b hb=>aec b hb) hold (bj d) (j.tr.rep d)
      ·simp only[az];exact⟨⟨rfl,rfl⟩,fun _=>(bf _ _ _).symm⟩
     ·rw[iB];have hb:aJ p' (look (st.tmps.map fun q=>(q.1,Be m (.mp kk vk es) q.2)) d):=by rw[tT _ rfl];exact TJ ((j.tm d).imp SC)
      cases nJ:o.dst with
      |none=>exact hb
      |some d0 =>
       simp only[iA,dV]
       grind [aJ]
     ·rw[dh]at hb;simp only[Heap.get]at hb
      split at hb
      ·cases hb
      ·exact(j.hm k ty cs (Heap.wL hb).1).imp SC
   ·cases qL
  ·cases qL
 ·cases qL
theorem pC{R:Type}{n:Nat}{f:Nat→Option R}{r:R}(h:su n f=some r):∀j,j<n→f j=some r:=by
 unfold su at h
 split at h
 ·grind
 ·cases h
theorem me{R:Type}{n:Nat}{f:Nat→Option R}{r:R}(hn:0<n)(h:∀j,j<n→f j=some r):su n f=some r:=by
 unfold su;have hx:∃r,∀j,j<n→f j=some r:=⟨r,h⟩;rw[dif_pos hx]
 grind
theorem Next.drawn{d:Nat}(n:Next Z ψ h { w with drawn:=d } B0 O N Z' ψ' h' w'):Next Z ψ h w B0 O N Z' ψ' h' w' :=⟨n.gy,n.fb,⟨n.keep.os,n.keep.tape,n.keep.output,n.keep.size,n.keep.block⟩,n.ids,n.dA⟩
theorem Good.drawn{d:Nat}(g:Good Z ψ h w B0 O):Good Z ψ h { w with drawn:=d } B0 O:=by
 have sm:cr Z w ({ w with drawn:=d }:World):=fun _ _=>rfl;refine⟨fun id ty cs hb=>?_,fun id ok xs hb=>?_,g.live,g.apart,g.kx⟩
 ·obtain⟨gg,vs,h1,h2,h3,h4⟩:=g.box id ty cs hb;exact⟨gg,vs,h1,h2,h3.less (fun _ h=>h) sm (fun i hi=>⟨hi,rfl⟩),h4⟩
 ·exact(g.row id ok xs hb).kept (fun _ h=>h) sm (fun gg _=>rfl)
theorem filter_push{l:List MapEntry}(h:l.Pairwise (fun a b=>a.born≠b.born)){seen:Array Nat}{j:Nat}{e:MapEntry}(he:(l.filter fun e => !seen.contains e.born)[j]? = some e) :
  l.filter (fun x => !(seen.push e.born).contains x.born)=(l.filter fun e => !seen.contains e.born).eraseIdx j:=by
 have h2:(l.filter fun e => !seen.contains e.born).Pairwise (fun a b=>a.born≠b.born):=h.sublist List.filter_sublist;rw[←ChangeMaps.filter_eq_eraseIdx (fun x=>x.born==e.born) _ j e he (by simp) (h2.imp fun {a b} bz hc=>bz (by simp_all))]
 grind [List.filter_filter,Array.contains_push]
theorem MV{R:Type}{hh:Heap}(g:Good Z ψ hh.get w B0 O){x:AV}{u:Value}{ty:TypeId}(hx:az Z ψ hh.get w x u){kk:AV→Heap→Option R}{r:R}(he:l9 hh x kk=some r) :
  ∃v h' V w',(Instr.next u false ty).run P w=.ok V w'∧Next Z ψ hh.get w B0 O N Z ψ h'.get w'∧az Z ψ h'.get w' v V∧kk v h'=some r∧(∀p,aJ p v)∧∀i ty cs,h'.get i=some (.box ty cs)→hh.get i=some (.box ty cs):=by
 unfold l9 at he
 split at he
 ·rename_i id
  split at he
  ·rename_i kk1 vk pp hg;simp only[az]at hx;have hu:=hx.2 (by rw[hg];simp);obtain⟨b,m,since,seen,b6,clock,h1,h2,h3,h4,h5,h6,h7,h8,h9⟩:=g.row id (.iter kk1 vk) pp hg;rw[h1]at hu;subst hu;subst h6;have aO:=(abI.1 h2).1;have ZM:(leftOf b6 seen).toList=b6.toList.filter fun e => !seen.contains e.born:=by unfold leftOf;simp
   have hlen:pp.2.length=(leftOf b6 seen).size:=by rw[h8.1,←ZM,Array.length_toList]
   rcases run_next_at (P:=P) w ty b m since since seen b6 since h2 h4 h7 (acb _) with⟨qg,dg⟩|⟨e,jo,w1,Ot,dg⟩
   ·have QJ:pp.2.isEmpty=true:=by rw[List.isEmpty_iff];exact abN (by rw[hlen,qg])
    rw[QJ]at he;simp only[cond_true]at he;exact⟨_,hh,_,w,dg,Next.refl g,by simp only[az,au];exact⟨_,rfl,_,_,rfl,rfl,rfl⟩,he,fun p=>by simp only[aJ,aC];exact⟨trivial,trivial⟩,fun _ _ _ h=>h⟩
   ·obtain⟨k,hk,hke⟩:=List.mem_iff_getElem.1 jo;have qh:k<pp.2.length:=by rw[hlen,←Array.length_toList];exact hk
    have QJ:pp.2.isEmpty=false:=by
     cases hl:pp.2 with
     |nil=>rw[hl]at qh;simp at qh
     |cons _ _=>rfl
    rw[QJ]at he;simp only[cond_false]at he;have hj:=pC he k qh;rw[List.getElem?_eq_getElem qh,Option.bind_some]at hj;have abB:(b6.toList.filter fun e => !seen.contains e.born)[k]? = some e:=by rw[←ZM,List.getElem?_eq_getElem hk,hke]
    have HN:=h8.2 k _ e (abn qh) abB;obtain⟨⟨k1,k2,k3⟩,v1,v2,v3⟩:=HN;have ajD:e∈b6.toList:=(ads.1 (acw abB)).1;have gd1:Good Z ψ hh.get w1 B0 O:=by rcases Ot with rfl|rfl;exact g;exact g.drawn
    have H5:w1.heap=w.heap:=by rcases Ot with rfl|rfl<;>rfl
    have hmb:m≠b:=fun hmb=>by subst hmb;exact(g.live id m (by rw[hg];simp) (by rw[h1];rfl)).1 h3
    have n1:=tL (N:=N) gd1 (id:=id) (by rw[hg];simp) (r:=b) (by rw[h1];rfl) (by rw[H5];exact aO) (.mapIter (some m) since (seen.push e.born) since) (ok:=.iter kk1 vk) (x:=(some pp.2[k],pp.2.eraseIdx k)) (fun w' Mi sm=>by
     have sm':cr Z w w':=fun c hc=>(sm c hc).trans (by rw[H5]);refine⟨b,m,since,seen.push e.born,b6,since,h1,by rw[Mi,H5];simp[aO],h3,?_,h5,rfl,h7,?_,?_⟩
     ·rw[Mi,H5,yO _ (fun e=>hmb e.symm)];exact h4
     ·rw[filter_push h5 abB];exact(lg.erase h8 k).mono (fun _ h=>h) sm'
     ·refine⟨e,ajD,by simp,⟨rfl,fun q y e' qg E2=>?_⟩⟩
      cases q with
      |zero=>cases qg;cases E2;exact⟨⟨k1.mono (fun _ h=>h) sm',k2,k3⟩,v1.mono (fun _ h=>h) sm',v2,v3⟩
      |succ q=>simp at qg)
    have n2:Next Z ψ hh.get w B0 O N Z ψ (dV hh.get id (some (.own (.iter kk1 vk) (some pp.2[k],pp.2.eraseIdx k)))) { w1 with heap:=w1.heap.setIfInBounds b (.mapIter (some m) since (seen.push e.born) since) }:=by
     rcases Ot with rfl|rfl
     ·exact n1
     ·exact n1.drawn
    refine⟨_,hh.set id (.own (.iter kk1 vk) (some pp.2[k],pp.2.eraseIdx k)),_,_,dg,by rw[kU];exact n2,?_,hj,fun p=>?_,fun i ty cs hb=>?_⟩
    ·have sm':cr Z w ({ w1 with heap:=w1.heap.setIfInBounds b (.mapIter (some m) since (seen.push e.born) since) }:World):=n2.same g;simp only[az,au];exact⟨_,rfl,_,_,rfl,rfl,_,_,rfl,mJ (k1.mono (fun _ h=>h) sm') k2 k3,_,_,rfl,mJ (v1.mono (fun _ h=>h) sm') v2 v3,rfl⟩
    ·simp only[aJ,aC];exact⟨trivial,pn _ _ _,pn _ _ _,trivial⟩
    ·rw[kU]at hb;unfold dV at hb
     split at hb
     ·cases hb
     ·exact hb
  ·cases he
 ·cases he
theorem J4(op:BinOp)(t:TypeId)(a b:Operand)(x y:Option Addr)(n m c d:Nat):(eqGuard op t a b (.slice x n c) (.slice y m d)).run P w=.ok () w:=by simp_all [eqGuard]
theorem Fe{t e:TypeId}(ht:P.underlying t=some (.slice e))(a:Option Addr)(n c:Nat):(Op.equal t (.slice a n c) (.slice none 0 0)).run P w=.ok a.isNone w:=by
 have key:∀d,(Op.equalIn (d+1) t (.slice a n c) (.slice none 0 0)).run P w=.ok a.isNone w:=fun d=>by cases a<;>simp[Op.equalIn,run_underlying ht]
 exact key 9999
theorem MW{o:Oper}{x:Operand}{want:Bool}(h:isNil P o=some (x,want)):∃op t v t' e,o.op=.binOp op t x (.const v) t'∧P.underlying t=some (.slice e)∧v=.slice none 0 0∧((op=.eql∧want=true)∨(op=.neq∧want=false)):=by
 unfold isNil at h
 split at h
 ·rename_i op t x' v t' Oq;have hv:∀v:Value,yw v=.fW→v=.slice none 0 0:=fun v hv=>by
   unfold yw at hv
   grind
  grind
 ·cases h
theorem TK{R:Type}{hh:Heap}(g:Good Z ψ hh.get w B0 O){x:AV}{u:Value}{op:BinOp}{t e:TypeId}(xo yo:Operand)(hx:az Z ψ hh.get w x u)(ht:P.underlying t=some (.slice e)){want:Bool}(ho:(op=.eql∧want=true)∨(op=.neq∧want=false)){kk:AV→Option R}{r:R}(he:wH hh x want kk=some r) :
  ∃c:Bool,((eqGuard op t xo yo u (.slice none 0 0)).run P w=.ok () w∧(binOp op t u (.slice none 0 0)).run P w=.ok (.bool c) w)∧kk (.bool c)=some r:=by
 have run:∀(a:Option Addr) (n c:Nat),(eqGuard op t xo yo (.slice a n c) (.slice none 0 0)).run P w=.ok () w∧(binOp op t (.slice a n c) (.slice none 0 0)).run P w=.ok (.bool (a.isNone==want)) w:=fun a n c=>by refine⟨J4 _ _ _ _ _ _ _ _ _ _,?_⟩;rcases ho with⟨rfl,rfl⟩|⟨rfl,rfl⟩<;>simp only[Sem.run_bind,Result.andThen_ok,binOp,Fe ht,Sem.run_pure]<;>cases a.isNone<;>rfl
 have fin:∀(n:Nat) (a:Option Addr) (c:Nat) (xs:Bool),(a=none→xs=true)→cond xs (su 2 fun j=>kk (.bool ((j==0)==want))) (kk (.bool (!want)))=some r → ∃c':Bool,((eqGuard op t xo yo (.slice a n c) (.slice none 0 0)).run P w=.ok () w∧(binOp op t (.slice a n c) (.slice none 0 0)).run P w=.ok (.bool c') w)∧kk (.bool c')=some r:=fun n a c xs Cp h=>by
  refine⟨_,run a n c,?_⟩
  cases xs with
  |true =>
   simp only[cond_true]at h
   cases a with
   |none=>exact pC h 0 (by decide)
   |some a=>exact pC h 1 (by decide)
  |false =>
   simp only[cond_false]at h
   cases a with
   |none=>cases Cp rfl
   |some a=>simp_all
 unfold wH at he
 split at he
 ·rename_i hv;have hxn:x=.fW:=by
   cases x<;>simp only[cY]at hv<;>try cases hv
   ·rfl
   grind
  grind [az]
 ·rename_i ex k xs hv
  cases x with
  |sl ex' k' xs' =>
   simp only[cY]at hv
   cases hv
   simp only[az,aI]at hx;obtain⟨⟨v,hv,A,c,rfl,h1,h2,_⟩,_⟩:=hx
   cases hv
   refine fin _ A c _ (fun hA=>?_) he;simp_all
  |bK id =>
   simp only[cY]at hv;simp only[az]at hx
   split at hv
   ·rename_i hg
    cases hv
    have hu:=hx.2 (by rw[hg];simp);obtain⟨vs,⟨_,h1⟩,_⟩:=g.row id _ _ hg;rw[←hu]at h1;rcases h1 with⟨h1,A,rfl⟩|⟨gg,cap,cur,rfl,_⟩
    ·exact fin _ A 0 _ (fun _=>List.isEmpty_iff.2 (abN h1)) he
    ·exact fin _ _ _ _ (fun h=>by cases h) he
   ·cases hv
   ·cases hv
  |_=>grind [cY]
 ·cases he
theorem CW{draw:Bool}{rid:Nat}{ops:Array Oper}{b:Array Nat}{i Mv:Nat}{e:bE}{S:Nat→Prop}{hh:Heap}(hm:vf (nI rid S) h)(ha:∀j,Mv.testBit j=true→S j)(he:hZ draw rid ops b i Mv e=true) :
  aJ (nI rid fun k=>S k∨k=i) e.v∧vf (nI rid fun k=>S k∨k=i) (e.hp h):=by
 have Jy:∀j,(Mv ||| 2 ^ i).testBit j=true→S j∨j=i:=fun j hj=>by
  grind
 have up:vf (nI rid fun k=>S k∨k=i) h:=fun id ty cs hb=>(hm id ty cs hb).imp (fun id h1 h2=>.inl (h1 h2))
 cases e with
 |val v=>exact⟨qK (fun j hj=>.inl (ha j hj)) he,up⟩
 |new v os =>
  simp only[hZ,Bool.and_eq_true]at he;refine⟨qK Jy he.1.1,fun id ty cs hb=>?_⟩;simp only[bE.hp]at hb
  split at hb
  ·rename_i o ho
   cases hb
   exact(mV Jy he.2 _ _ ho).2 _ _ rfl
  ·exact up id ty cs hb
 |wr v h' =>simp only[hZ,Bool.and_eq_true]at he;exact⟨qK Jy he.1.2,fun id ty cs hb=>(mV Jy he.2 _ _ hb).2 _ _ rfl⟩
theorem Ff{i j:Nat}(h:(2 ^ i-1).testBit j=true):j<i:=by simp_all
def zd(mk:Bool)(rid i id:Nat):Prop:=mk=true→nI rid (fun k=>k<i) id
theorem mu(E:Env P Eqs Sg F){rid n:Nat}{ops:Array Oper}{b:Array Nat}(mk:Bool)(X9:mk=false→∀(i:Nat) (o:Oper),ops[i]? = some o→makes o.op=false)(hn:ops.size≤128)(nJ:∀(i:Nat) (o:Oper),ops[i]? = some o→jh n o=true){kk:St→Option R}{r:R}{Q:Exit→Act→World→Prop} (hQ:∀fe Z ψ a w,kk fe=some r→Ok Z0 w0 O ψ0 Z ψ fe.heap.get w→cT Z ψ fe.heap.get w n (look fe.tmps) a→Q .normal a w) :
  ∀(l:List (Nat×Oper)) (i:Nat) (st:St) (Z:Nat→Prop) (ψ:Nat→Value) (a:Act) (w:World),CV ops i l→bI P Eqs Sg F rid false ops b l st kk=some r → J (zd mk rid i) n Z0 w0 O ψ0 Z ψ (look st.tmps) st.heap.get a w→wpOps P ops Q (l.map Prod.fst) a w
 |[],i,st,Z,ψ,a,w,_,hx,j=>hQ st Z ψ a w hx j.ok j.tr
 |(i',o)::l,i,st,Z,ψ,a,w,hl,hx,j=>by
  obtain⟨rfl,ho,hl⟩:=hl;have hi:i'<128:=adg (abI.1 ho).1 hn;have Xw:=nJ i' o ho;have ih:=mu E (rid:=rid) (b:=b) mk X9 hn nJ hQ l (i'+1);have up:∀id,zd mk rid i' id→zd mk rid (i'+1) id:=fun id h hm hr=>Nat.lt_succ_of_lt (h hm hr);have runs:∀jq:St,look jq.tmps=look st.tmps→jq.heap=st.heap→Region.wanted o (yielded ops a.tmps)=true →(match qp P (opId rid i') jq o with
    |some fe=>bI P Eqs Sg F rid false ops b l fe kk
    |none=>match wG o with
    |some x=>l9 jq.heap (ρ jq.tmps x) fun v h=>bI P Eqs Sg F rid false ops b l (({ jq with heap:=h }:St).put o.dst v) kk
    |none=>match isNil P o with
    |some (x,want)=>wH jq.heap (ρ jq.tmps x) want fun v=>bI P Eqs Sg F rid false ops b l (jq.put o.dst v) kk
    |none=>cZ P Eqs Sg F (opId rid i') jq.heap jq.tmps o fun e=>if hZ false rid ops b i' (2 ^ i' - 1) e then bI P Eqs Sg F rid false ops b l ({ jq with heap:=match e with | .wr _ h=>h|e=>e.h jq.heap }.put o.dst e.v) kk else none)=some r →
    wpOps P ops Q (((i',o)::l).map Prod.fst) a w:=by
   intro jq h1 h2 hw hx
   split at hx
   ·rename_i fe qL;simp only[List.map_cons,wpOps,ho,hw,if_true];refine .inl ?_;have ap8:makes o.op=true:=by
     unfold qp at qL
     split at qL
     ·rename_i Oq;rw[Oq];rfl
     ·cases qL
    have ajF:mk=true:=by
     grind
    have j1:J (zd mk rid i') n Z0 w0 O ψ0 Z ψ (look jq.tmps) jq.heap.get a w:=by simp_all
    obtain⟨V,w',Z',ψ',dg,j'⟩:=MU (P:=P) (p':=zd mk rid (i'+1)) (fun id hp rY=>by obtain⟨h3,h4⟩:=rY.parts hi;have:=hp ajF h3;omega) up (fun _ h3=>by have:=((J1 (rid:=rid) (i:=i')).parts hi).2;omega) j1 Xw qL;unfold Oper.wp;rw[dg];exact ih fe Z' ψ' _ w' hl hx j'
   split at hx
   ·rename_i x QT;simp only[List.map_cons,wpOps,ho,hw,if_true];refine .inl ?_;have Oq:o.op=.next x false:=by
     grind [wG]
    have ZL:az Z ψ jq.heap.get w (ρ jq.tmps x) (a.eval x):=sJ (by rw[h1,h2];exact j.tr) x;have g1:Good Z ψ jq.heap.get w w0.heap.size O:=by rw[h2];exact j.ok.dA
    obtain⟨v,h',V,w',dg,nx,hr,XZ,Xr,rQ⟩:=MV (P:=P) (N:=fun _=>False) (ty:=o.type) g1 ZL hx;have TL:(execOp a.eval o).run P w=.ok (.value V) w':=by simp_all [guard,execOp]
    unfold Oper.wp;rw[TL];refine ih _ Z ψ _ w' hl XZ ?_;rw[iB,dh];have j1:J (zd mk rid i') n Z0 w0 O ψ0 Z ψ (look jq.tmps) jq.heap.get a w:=by simp_all
    refine⟨j1.ok.next (fun id h=>h.elim) nx,(j1.tr.next g1 nx (fun d=>(j1.tm d).imp fun _ _ h=>h)).put Xw hr,fun d=>?_,fun k ty cs hb=>(j1.hm k ty cs (rQ k ty cs hb)).imp up⟩
    cases nJ:o.dst with
    |none=>exact(j1.tm d).imp up
    |some d0 =>
     simp only[iA,dV]
     split
     ·exact Xr _
     ·exact(j1.tm d).imp up
   split at hx
   ·rename_i x want hnl;obtain⟨op,t,v,t',et,Oq,ht,rfl,CX⟩:=MW hnl;simp only[List.map_cons,wpOps,ho,hw,if_true];refine .inl ?_;have ZL:az Z ψ jq.heap.get w (ρ jq.tmps x) (a.eval x):=sJ (by rw[h1,h2];exact j.tr) x;have g1:Good Z ψ jq.heap.get w w0.heap.size O:=by rw[h2];exact j.ok.dA
    obtain⟨c,dg,XZ⟩:=TK (P:=P) g1 x (.const (.slice none 0 0)) ZL ht CX hx;have TL:(execOp a.eval o).run P w=.ok (.value (.bool c)) w:=by obtain⟨dst,op',type,pos,after,guard⟩:=o;simp only at Oq;subst Oq;have e1:a.eval (.const (.slice none 0 0))=.slice none 0 0:=rfl;simp_all [execOp]
    unfold Oper.wp;rw[TL];refine ih _ Z ψ _ w hl XZ ?_;rw[iB,dh];have j1:J (zd mk rid i') n Z0 w0 O ψ0 Z ψ (look jq.tmps) jq.heap.get a w:=by simp_all
    refine⟨j1.ok,j1.tr.put Xw (by rfl),fun d=>?_,fun k ty cs hb=>(j1.hm k ty cs hb).imp up⟩
    cases nJ:o.dst with
    |none=>exact(j1.tm d).imp up
    |some d0 =>
     simp only[iA,dV]
     split
     ·simp only[aJ]
     ·exact(j1.tm d).imp up
   rw[mr]at hx;obtain⟨e,he,hx⟩:=ada.1 hx
   split at hx
   ·rename_i jO;simp only[List.map_cons,wpOps,ho,hw,if_true];refine .inl ?_;have hh:jq.heap.get=st.heap.get:=by rw[h2]
    have qL:aJ (zd mk rid (i'+1)) e.v∧vf (zd mk rid (i'+1)) (e.hp st.heap.get):=by
     cases abC:mk with
     |false =>have ht:zd false rid (i'+1)=fun _=>True:=funext fun id=>propext ⟨fun _=>trivial,fun _ h=>by cases h⟩;rw[ht];exact⟨aJ.top _,fun _ _ cs _=>aC.top cs⟩
     |true =>
      have ZE:vf (nI rid fun k=>k<i') st.heap.get:=fun id ty cs hb=>(j.hm id ty cs hb).imp fun id h1=>h1 abC;have h3:=CW (hh:=jq.heap) ZE (fun k hk=>Ff hk) jO;have hS:∀k,(k<i'∨k=i')→k<i'+1:=fun k hk=>by omega
      exact⟨h3.1.imp fun id h1 _ h2=>hS _ (h1 h2),fun id ty cs hb=>(h3.2 id ty cs hb).imp fun id h1 _ h2=>hS _ (h1 h2)⟩
    refine J.op E (p:=zd mk rid i') (p':=zd mk rid (i'+1)) (rid:=rid) (i:=i') (s:=jq.tmps) (fun hm id hp rY => ?_) j Xw (fun x _=>sJ (by rw[h1];exact j.tr) x) (fun x _=>QS (by rw[h1];exact j.tm) x) (fun id o hg=>by simp_all) he (fun _ _ _=>hh) up qL.1 qL.2 fun a' w' Z' ψ' j' => ?_
    ·cases abC:mk with
     |false=>grind
     |true =>obtain⟨h3,h4⟩:=rY.parts hi;have:=hp abC h3;omega
    refine ih _ Z' ψ' a' w' hl hx ?_;rw[iB,dh];have j2:J (zd mk rid (i'+1)) n Z0 w0 O ψ0 Z' ψ' (iA (look jq.tmps) o.dst e.v) (bE.heap e jq.heap).get a' w':=by grind [bE.J2]
    exact j2
   ·cases hx
  have w4:∀jq:St,look jq.tmps=look st.tmps→jq.heap=st.heap→Region.wanted o (yielded ops a.tmps)=false → bI P Eqs Sg F rid false ops b l (jq.put o.dst (.oz [])) kk=some r→wpOps P ops Q (((i',o)::l).map Prod.fst) a w:=by intro jq h1 h2 hw hx;simp only[List.map_cons,wpOps,ho,hw,Bool.false_eq_true,if_false];refine ih _ Z ψ _ w hl hx ?_;rw[iB,dh,h1,h2];exact j.skip Xw up
  rw[bI]at hx;simp only[Bool.false_eq_true,if_false]at hx
  split at hx
  ·rename_i hg;exact runs st rfl rfl (by simp[Region.wanted,hg]) hx
  ·rename_i jj want hg
   split at hx
   ·cases hx
   ·rename_i d hd
    split at hx
    ·rename_i t ht;have hw:=CU j.tr hg hd ht;have hp:∀b,t=b→look (st.put (some d) (.bool b)).tmps=look st.tmps:=fun b hb=>by subst hb;rw[iB];exact Gu ht
     cases t<;>simp only[cond_true,cond_false]at hx<;>split at hx<;>rename_i CX
     ·exact w4 _ (hp false rfl) (dh _ _ _) (by simp_all) hx
     ·exact runs _ (hp false rfl) (dh _ _ _) (by simp_all) hx
     ·exact runs _ (hp true rfl) (dh _ _ _) (by simp_all) hx
     ·exact w4 _ (hp true rfl) (dh _ _ _) (by simp_all) hx
    ·rename_i vs ht;exact w4 st rfl rfl (AD j.tr hg hd ht) hx
    ·cases hx
theorem lq(hp h:Heap)(i:Nat):∀(ft:List Nat),(fL ft hp h).get i=if i∈ft then(match hp.get i with|some o=>some o|none=>h.get i) else h.get i
 |[]=>by simp[fL]
 |j::r=>by
  have ih:=lq hp h i r;unfold fL at ih ⊢
  cases hj:hp.get j with
  |none =>
   rw[List.filterMap_cons,hj];simp only[Option.map_none];rw[ih];by_cases e:i=j
   ·subst e;simp[hj]
   ·simp[e]
  |some o =>
   rw[List.filterMap_cons,hj];simp only[Option.map_some,List.cons_append,Heap.get];rw[ih];by_cases e:j=i
   ·subst e;simp[hj]
   ·have e':¬i=j:=fun h=>e h.symm;simp[e,e']
mutual
theorem AE{ft:List Nat}:∀{v:AV},ss ft v=true→aJ (fun i=>i∉ft) v
 |.ref id _ _ _,h=>by simp only[aJ];simpa[ss] using h
 |.bK id,h=>by simp only[aJ];simpa[ss] using h
 |.fn _ cap,h=>by simp only[aJ];exact lu (by simpa only[ss] using h)
 |.agg cs,h=>by simp only[aJ];exact lu (by simpa only[ss] using h)
 |.oz vs,h=>by simp only[aJ];exact lu (by simpa only[ss] using h)
 |.no,_=>by simp only[aJ]
 |.bool _,_=>by simp only[aJ]
 |.int _ _,_=>by simp only[aJ]
 |.str _,_=>by simp only[aJ]
 |.l8,_=>by simp only[aJ]
 |.fW,_=>by simp only[aJ]
 |.fp _ _ _,_=>by simp only[aJ]
 |.sl _ _ _,_=>by simp only[aJ]
 |.mp _ _ _,_=>by simp only[aJ]
theorem lu{ft:List Nat}:∀{l:List AV},vC ft l=true→aC (fun i=>i∉ft) l
 |[],_=>by simp only[aC]
 |v::r,h=>by simp only[vC,Bool.and_eq_true]at h;simp only[aC];exact⟨AE h.1,lu h.2⟩
end
theorem lx{ft:List Nat}:∀{hh:Heap},vD ft hh=true→∀i o,hh.get i=some o→i∉ft∧∀ty cs,o=.box ty cs→aC (fun i=>i∉ft) cs
 |[],_,i,o,h=>by simp[Heap.get]at h
 |(j,.box ty cs)::r,hc,i,o,h=>by
  simp only[vD,Bool.and_eq_true]at hc;simp only[Heap.get]at h
  split at h
  ·rename_i e;subst e;cases h;exact⟨by simpa using hc.1,fun ty cs e=>by cases e;exact lu hc.2.1⟩
  ·exact lx hc.2.2 i o h
 |(j,.own ok x)::r,hc,i,o,h=>by
  simp only[vD,Bool.and_eq_true]at hc;simp only[Heap.get]at h
  split at h
  ·rename_i e;subst e;cases h;exact⟨by simpa using hc.1,fun ty cs e=>by cases e⟩
  ·exact lx hc.2 i o h
theorem Next.frame{hp h1:Heap}{ft:List Nat}(g:Good Z ψ hp.get w B0 O)(hB:B0≤w.heap.size)(bj:∀i ty cs,hp.get i=some (.box ty cs)→aC (fun i=>¬N i) cs) (n:Next Z ψ (iu hp ft).get w w.heap.size (Own ψ (iu hp ft).get) N Z' ψ' h1.get w') (hc:vD ft h1=true) :
  ∃eU,Next Z ψ hp.get w B0 O N Z' eU (fL ft hp h1).get w'∧∀i,i∉ft→eU i=ψ' i:=by
 classical
 have gd:∀i,(iu hp ft).get i=if i∈ft then none else hp.get i:=fun i=>pw ft hp i
 have bu:∀b,Own ψ (iu hp ft).get b→Own ψ hp.get b:=fun b ⟨i,h1,h2⟩=>⟨i,by simp_all,h2⟩;have tG:∀i,i∈ft→h1.get i=none:=fun i hi=>by
  cases e:h1.get i with
  |none=>rfl
  |some o=>grind [absurd,lx]
 have gf:∀i,(fL ft hp h1).get i=if i∈ft then hp.get i else h1.get i:=fun i=>by
  rw[lq]
  grind
 let eU:Nat→Value:=fun i=>if i∈ft then ψ i else ψ' i
 have p1:∀i,i∈ft→eU i=ψ i:=fun i hi=>if_pos hi;have p2:∀i,i∉ft→eU i=ψ' i:=fun i hi=>if_neg hi;have apart:∀i b,i∈ft→hp.get i≠none→ob (ψ i)=some b→¬Own ψ (iu hp ft).get b:=fun i b hi h2 h3 ⟨j,h4,h5⟩=>by
  rw[gd]at h4
  split at h4
  ·exact h4 rfl
  ·rename_i hj;have:=g.apart i j b h2 h4 h3 h5;simp_all
 have cF:∀i b,i∈ft→hp.get i≠none→ob (ψ i)=some b→w'.heap[b]? = w.heap[b]? := fun i b hi h2 h3 =>n.keep.block b (g.bO ⟨i,h2,h3⟩) (apart i b hi h2 h3);have keep:cO ψ hp.get w w':=⟨n.keep.os,n.keep.tape,n.keep.output,n.keep.size,fun b hb hn=>n.keep.block b hb fun ho=>hn (bu b ho)⟩;have sm:cr Z w w':=keep.same g;have ids:∀i,(fL ft hp h1).get i≠none→(hp.get i≠none∧eU i=ψ i)∨N i:=fun i hi=>by
  rw[gf]at hi;by_cases hf:i∈ft
  ·simp_all
  ·rw[if_neg hf]at hi;rcases n.ids i hi with⟨h2,h3⟩|h2
   ·simp_all
   simp_all
 have nz:∀i b,i∈ft→hp.get i≠none→ob (ψ i)=some b→¬Z' b:=fun i b hi h2 h3 hz=>by
  rcases n.fb b hz with h4|h4|h4
  ·exact(g.live i b h2 h3).1 h4
  ·grind
  ·have:=g.bO ⟨i,h2,h3⟩;omega
 refine⟨eU,⟨n.gy,fun b hb=>(n.fb b hb).imp (fun h=>h) (fun h=>h.imp (bu b) fun h=>h),keep,ids,⟨fun i ty cs hb=>?_,fun i ok x hb=>?_,fun i b h2 h3=>?_,fun i j b h2 h3 h4 h5=>?_,n.dA.kx⟩⟩,p2⟩
 ·rw[gf]at hb;by_cases hf:i∈ft
  ·rw[if_pos hf]at hb;obtain⟨gg,vs,e1,e2,e3,e4⟩:=g.box i ty cs hb;refine⟨gg,vs,by simp_all,(cF i gg hf (by rw[hb];simp) (by rw[e1];rfl)).trans e2,e3.move n.gy sm (fun j hj bz=>(ids j bz).resolve_right hj) (bj i ty cs hb),e4⟩
  ·rw[if_neg hf]at hb;obtain⟨gg,vs,e1,e2,e3,e4⟩:=n.dA.box i ty cs hb;refine⟨gg,vs,by simp_all,e2,e3.move (fun _ h=>h) (cr.refl _ _) (fun j hj bz=>?_) ((lx hc i _ hb).2 ty cs rfl),e4⟩;simp_all
 ·rw[gf]at hb;by_cases hf:i∈ft
  ·rw[if_pos hf]at hb;rw[p1 i hf];exact(g.row i ok x hb).kept n.gy sm (fun b oP=>cF i b hf (by rw[hb];simp) oP)
  ·rw[if_neg hf]at hb;rw[p2 i hf];exact n.dA.row i ok x hb
 ·rw[gf]at h2;by_cases hf:i∈ft
  ·rw[if_pos hf]at h2;rw[p1 i hf]at h3;exact⟨nz i b hf h2 h3,(g.live i b h2 h3).2⟩
  ·rw[if_neg hf]at h2;rw[p2 i hf]at h3;obtain⟨h4,h5⟩:=n.dA.live i b h2 h3;refine⟨h4,h5.elim (fun h=>.inl (acz hB h)) fun h=>?_⟩;obtain⟨j,h6,h7⟩:=bu b h;exact(g.live j b h6 h7).2
 ·have mixed:∀i j b,i∈ft→j∉ft→(fL ft hp h1).get i≠none→(fL ft hp h1).get j≠none→ob (eU i)=some b→ob (eU j)=some b→False:=fun i j b hi hj h2 h3 h4 h5=>by
   rw[gf,if_pos hi]at h2;rw[gf,if_neg hj]at h3;rw[p1 i hi]at h4;rw[p2 j hj]at h5;rcases (n.dA.live j b h3 h5).2 with h6|h6
   ·have:=g.bO ⟨i,h2,h4⟩;omega
   grind
  by_cases hi:i∈ft<;>by_cases hj:j∈ft
  ·rw[gf,if_pos hi]at h2;rw[gf,if_pos hj]at h3;rw[p1 i hi]at h4;rw[p1 j hj]at h5;exact g.apart i j b h2 h3 h4 h5
  ·grind
  ·grind
  ·rw[gf,if_neg hi]at h2;rw[gf,if_neg hj]at h3;rw[p2 i hi]at h4;rw[p2 j hj]at h5;exact n.dA.apart i j b h2 h3 h4 h5
theorem J.opF(E:Env P Eqs Sg F){rid n i:Nat}{p:Nat→Prop}{T:Nat→AV}{a:Act}{s:List (Nat×AV)}{o:Oper}(hS:makes o.op=true→∀id,p id→¬Of rid i id){hp h1:Heap}{v:AV}{ft:List Nat}(j:J p n Z0 w0 O ψ0 Z ψ T hp.get a w)(hd:jh n o=true) (hT:∀x∈o.op.operands,az Z ψ hp.get w (ρ s x) (a.eval x)) (hTm:∀x∈o.op.operands,aJ p (ρ s x)) (he:cZ P Eqs Sg F (opId rid i) (iu hp ft) s o some=some (.wr v h1)) (hc:mG ft (.wr v h1)=true) {p':Nat→Prop} (SC:∀k,p k→p' k) (hv:aJ p' v) (hh':vf p' (fL ft hp h1).get) {next:Act→World→Prop} {Q:Exit→Act→World→Prop} (hk:∀a' w' Z' ψ',J p' n Z0 w0 O ψ0 Z' ψ' (iA T o.dst v) (fL ft hp h1).get a' w'→next a' w'):o.wp P a w next Q:=by
 have nof:∀id,p id→¬(makes o.op=true∧Of rid i id):=fun id h ⟨h1,h2⟩=>hS h1 id h h2;simp only[mG,Bool.and_eq_true]at hc;have bu:∀id o,(iu hp ft).get id=some o→hp.get id=some o:=fun id o h=>by grind [pw]
 have bz:∀id,(iu hp ft).get id≠none→hp.get id≠none:=fun id h=>by obtain⟨o,ho⟩:=abK.1 h;simp_all
 have bj:∀i' ty cs,hp.get i'=some (.box ty cs)→aC (fun id=>¬(makes o.op=true∧Of rid i id)) cs:=fun id ty cs hb=>(j.hm id ty cs hb).imp nof;have gs:Good Z ψ (iu hp ft).get w w.heap.size (Own ψ (iu hp ft).get):=(j.ok.dA.sub bu).HX _;refine ZK (N:=fun id=>makes o.op=true∧Of rid i id) E gs (acb _) (fun _ _ h=>h) (id:=opId rid i) (fun hm k hk=>⟨hm,Oo hk⟩) (fun x hx=>(hT x hx).oF bu) (fun x hx=>(hTm x hx).imp nof) (fun id ty cs hb=>bj id ty cs (bu _ _ hb)) (fun _ _ _=>rfl) he fun V w' Z' ψ' nx hr=>?_;obtain⟨eU,n2,h2⟩:=Next.frame j.ok.dA j.ok.size bj nx hc.2;have QU:az Z' eU (fL ft hp h1).get w' v V:=hr.move (p:=fun i=>i∉ft) (fun _ h=>h) (cr.refl _ _) (fun k hk bz=>by rw[lq,if_neg hk]at bz;exact⟨bz,h2 k hk⟩) (AE hc.1);refine hk _ w' Z' eU ⟨j.ok.next (fun id h=>by grind [Of]) n2,(j.tr.next j.ok.dA n2 (fun d=>(j.tm d).imp nof)).put hd QU,fun d=>?_,hh'⟩
 cases nJ:o.dst with
 |none=>exact(j.tm d).imp SC
 |some d0 =>
  simp only[iA,dV]
  split
  ·exact hv
  ·exact(j.tm d).imp SC
end Go.Vs
namespace Go.Vs
variable {P:Program} {Eqs:TypeId→Option K} {Sg:FuncId→Option aN} {F:(f:FuncId)→(g:aN)→g.A→Option g.B} {R:Type}
variable {Z Z' Z0:Nat→Prop} {ψ ψ':Nat→Value} {h h':Hp} {w w' w0:World} {B0:Nat} {O N:Nat→Prop}
variable {rid n:Nat} {ops:Array Oper} {b:Array Nat}
def tU(b:Array Nat)(i j:Nat):Prop:=(b.getD i 0).testBit j=true
theorem Gx(b:Array Nat)(j:Nat):∀(l:List Edge) (s:Nat),(l.foldl (fun s e=>if Region.binds .any e then s ||| 2 ^ e.on ||| b.getD e.on 0 else s) s).testBit j=true ↔
  s.testBit j=true∨∃e∈l,Region.binds .any e=true∧(j=e.on∨tU b e.on j)
 |[],s=>by simp
 |e::l,s=>by
  rw[List.foldl_cons,Gx b j l];by_cases hb:Region.binds .any e=true
  ·rw[if_pos hb];have h2:(2 ^ e.on).testBit j=true↔j=e.on:=by grind
   simp only[Nat.testBit_or,Bool.or_eq_true,h2,List.mem_cons,exists_eq_or_imp,hb,true_and,tU]
   grind
  simp_all
theorem BJ(hb:wF ops b=true){i j:Nat}{o:Oper}(ho:ops[i]? = some o):tU b i j↔∃e∈o.after.toList,Region.binds .any e=true∧(j=e.on∨tU b e.on j):=by have aO:=(abI.1 ho).1;have h1:=adb.1 hb i (adf.2 aO);rw[ho]at h1;simp only[Bool.and_eq_true,beq_iff_eq]at h1;unfold tU;rw[h1.2,Gx];simp[tU]
theorem MX(hb:wF ops b=true){i:Nat}{o:Oper}(ho:ops[i]? = some o){e:Edge}(he:e∈o.after.toList)(SB:Region.binds .any e=true):e.on<i:=by
 have aO:=(abI.1 ho).1;have h1:=adb.1 hb i (adf.2 aO)
 grind
theorem CY(hb:wF ops b=true):∀(i j:Nat),i<ops.size→tU b i j→j<i:=by
 intro i
 induction i using Nat.strongRecOn with
 |ind i ih =>
  intro j hi h;obtain⟨e,he,SB,h1⟩:=(BJ hb (acr hi)).1 h;have hon:=MX hb (acr hi) he SB
  grind
theorem Gy(hb:wF ops b=true):∀(i j k:Nat),i<ops.size→tU b i j→tU b j k→tU b i k:=by
 intro i
 induction i using Nat.strongRecOn with
 |ind i ih =>
  intro j k hi h h';obtain⟨e,he,SB,h1⟩:=(BJ hb (acr hi)).1 h;have hon:=MX hb (acr hi) he SB;refine(BJ hb (acr hi)).2 ⟨e,he,SB,?_⟩
  grind
theorem get_filter(f:Nat→Bool):∀(hh:Heap) (i:Nat),Heap.get (hh.filter fun p=>f p.1) i=if f i then hh.get i else none
 |[],i=>by simp[Heap.get]
 |(j,o)::r,i=>by
  rw[List.filter_cons]
  split
  ·rename_i hj;simp only[Heap.get];by_cases e:j=i
   ·simp_all
   simp_all [if_neg,get_filter]
  ·rename_i hj;rw[get_filter f r i];simp only[Heap.get]
   grind
theorem QV(rid Mv:Nat)(hh:Heap)(id:Nat):(ahead rid Mv hh).get id=if uN rid Mv id then hh.get id else none:=by unfold ahead;exact get_filter (fun i=>uN rid Mv i) hh id
theorem J5(ft:List Nat)(hp:Heap)(e:bE):(ig ft hp e).v=e.v:=by cases e<;>rfl
theorem J6{id:Nat}{hh:Heap}{s:List (Nat×AV)}{o:Oper}{x:Operand}{e:bE}(hl:jg o.op=some x)(he:cZ P Eqs Sg F id hh s o some=some e):∃v,e=.val v:=by
 obtain⟨dst,op,type,pos,after,guard⟩:=o
 cases op<;>simp only[jg]at hl<;>first|simp_all|skip
 case load t a =>
  simp only[cZ,mE]at he
  grind [Option.some.inj,Option.bind_eq_some_iff]
 case indexAddr t a i =>
  simp only[cZ,dI]at he
  repeat' (first|(cases he;done)|exact⟨_,(ac7 he).symm⟩|split at he)
  all_goals first
   |grind [Option.bind_eq_some_iff,Option.some.inj]
   |grind
theorem ze{op:Op}{x:Operand}(hl:jg op=some x):oD op=false∧Bw op=false:=by cases op<;>simp only[jg]at hl<;>first|(cases hl;done)|exact⟨rfl,rfl⟩
theorem MY{id:Nat}{hh h2:Heap}{s:List (Nat×AV)}{o:Oper}{x:Operand}(hl:jg o.op=some x)(hg:∀i∈k9 (ρ s x),h2.get i=hh.get i):cZ P Eqs Sg F id h2 s o some=cZ P Eqs Sg F id hh s o some:=by
 obtain⟨dst,op,type,pos,after,guard⟩:=o
 cases op<;>simp only[jg]at hl<;>first|(cases hl;done)|skip
 case load t a =>
  cases hl
  simp only[cZ,mE]
  cases hv:ρ s x with
  |ref i s' j off=>rw[hv]at hg;simp only[k9,List.mem_singleton,forall_eq]at hg;simp only[hg]
  |_=>rfl
 case indexAddr t a i =>
  cases hl
  simp only[cZ,dI]
  cases r8 P t with
  |none=>rfl
  |some e =>
   simp only[]
   cases hv:ρ s x with
   |bK k =>
    rw[hv]at hg;have yv:=hg k (by simp[k9])
    cases ρ s i<;>first|rfl|simp only[yv]
   |sl ex k xs=>cases ρ s i<;>rfl
   |_=>rfl
def rz(ops:Array Oper)(T:Nat→AV)(o:Oper)(t:Bool):Prop :=match o.guard with
 |none=>t=true
 |some (j,want)=>∃d,(ops[j]?).bind (·.dst)=some d∧((∃u,T d=.bool u∧(u==want)=t)∨(∃vs,T d=.oz vs∧t=false))
def CZ(P:Program)(Eqs:TypeId→Option K)(Sg:FuncId→Option aN)(F:(f:FuncId)→(g:aN)→g.A→Option g.B)(rid:Nat)(ops:Array Oper)(b:Array Nat)(T:Nat→Nat→AV)(H:Nat→Hp)(E:Nat→Option bE)(k:Nat)(o:Oper):Prop :=(∃e s hh,E k=some e∧look s=T k∧(∀id,Heap.get hh id=if uN rid (b.getD k 0) id then H k id else none)∧(∃e0,cZ P Eqs Sg F (opId rid k) (iu hh (ic ops b k s o)) s o some=some e0∧e=ig (ic ops b k s o) hh e0∧mG (ic ops b k s o) e0=true) ∧
  hZ true rid ops b k (b.getD k 0) e=true∧rz ops (T k) o true∧T (k+1)=iA (T k) o.dst e.v∧H (k+1)=e.hp (H k)) ∨
 (E k=none∧rz ops (T k) o false∧T (k+1)=iA (T k) o.dst (.oz [])∧H (k+1)=H k)
theorem trace{kk:St→Option R}{r:R}:∀(l:List (Nat×Oper)) (i:Nat) (st:St),CV ops i l→l.length=ops.size-i→bI P Eqs Sg F rid true ops b l st kk=some r → ∃(T:Nat→Nat→AV) (H:Nat→Hp) (E:Nat→Option bE),T i=look st.tmps∧H i=st.heap.get∧(∀k o,i≤k→ops[k]? = some o→CZ P Eqs Sg F rid ops b T H E k o) ∧ ∃fe,kk fe=some r∧look fe.tmps=T (max i ops.size)∧fe.heap.get=H (max i ops.size)
 |[],i,st,_,hlen,hx=>by
  have Xs:ops.size≤i:=by grind
  refine⟨fun _=>look st.tmps,fun _=>st.heap.get,fun _=>none,rfl,rfl,fun k o hk ho=>?_,st,hx,rfl,rfl⟩
  grind
 |(i',o)::l,i,st,hl,hlen,hx=>by
  obtain⟨rfl,ho,hl⟩:=hl;have aO:=(abI.1 ho).1;have ih:=trace (kk:=kk) (r:=r) l (i'+1);have aee:l.length=ops.size-(i'+1):=by grind
  have glue:∀(fe:St) (oe:Option bE),bI P Eqs Sg F rid true ops b l fe kk=some r →(∀T H E,T i'=look st.tmps→H i'=st.heap.get→E i'=oe→T (i'+1)=look fe.tmps→H (i'+1)=fe.heap.get→CZ P Eqs Sg F rid ops b T H E i' o) → ∃(T:Nat→Nat→AV) (H:Nat→Hp) (E:Nat→Option bE),T i'=look st.tmps∧H i'=st.heap.get∧(∀k o,i'≤k→ops[k]? = some o→CZ P Eqs Sg F rid ops b T H E k o) ∧ ∃fe,kk fe=some r∧look fe.tmps=T (max i' ops.size)∧fe.heap.get=H (max i' ops.size):=by
   intro fe oe Tb Ak;obtain⟨T,H,E,h1,h2,h3,ajG,h4,h5,h6⟩:=ih fe hl aee Tb;refine⟨fun k=>if k≤i' then look st.tmps else T k,fun k=>if k≤i' then st.heap.get else H k,fun k=>if k=i' then oe else E k,by simp,by simp,fun k o' hk rY => ?_,ajG,h4,?_,?_⟩
   ·by_cases hki:k=i'
    ·grind
    ·have h7:=h3 k o' (by omega) rY;unfold CZ at h7 ⊢;simp only[show ¬k≤i' by omega,show ¬k+1≤i' by omega,hki,if_false];exact h7
   ·grind
   grind
  have runs:∀jq:St,look jq.tmps=look st.tmps→jq.heap=st.heap→rz ops (look st.tmps) o true →(cZ P Eqs Sg F (opId rid i') (iu (ahead rid (b.getD i' 0) jq.heap) (ic ops b i' jq.tmps o)) jq.tmps o fun e=>if(hZ true rid ops b i' (b.getD i' 0) (ig (ic ops b i' jq.tmps o) (ahead rid (b.getD i' 0) jq.heap) e)&&mG (ic ops b i' jq.tmps o) e)=true then bI P Eqs Sg F rid true ops b l ({ jq with heap:=match ig (ic ops b i' jq.tmps o) (ahead rid (b.getD i' 0) jq.heap) e with | .wr _ h=>h|e=>e.h jq.heap }.put o.dst e.v) kk else none)=some r →
    ∃(T:Nat→Nat→AV) (H:Nat→Hp) (E:Nat→Option bE),T i'=look st.tmps∧H i'=st.heap.get∧(∀k o,i'≤k→ops[k]? = some o→CZ P Eqs Sg F rid ops b T H E k o) ∧ ∃fe,kk fe=some r∧look fe.tmps=T (max i' ops.size)∧fe.heap.get=H (max i' ops.size):=by
   intro jq h1 h2 hw hx;rw[mr]at hx;obtain⟨e,he,hx⟩:=ada.1 hx
   split at hx
   ·rename_i jO;rw[Bool.and_eq_true]at jO;generalize Gz:ig (ic ops b i' jq.tmps o) (ahead rid (b.getD i' 0) jq.heap) e=e1 at hx jO;have yQ:e.v=e1.v:=by grind [J5]
    refine glue _ (some e1) hx fun T H E hT hH hE hT' hH' => ?_;refine .inl ⟨e1,jq.tmps,_,hE,by rw[hT,h1],fun id=>by rw[QV,hH,h2],⟨e,he,Gz.symm,jO.2⟩,jO.1,by grind,?_,?_⟩
    ·grind [iB]
    ·rw[hH',dh,hH];have:(bE.heap e1 jq.heap).get=e1.hp st.heap.get:=by rw[bE.J2,h2]
     exact this
   ·cases hx
  have w4:∀jq:St,look jq.tmps=look st.tmps→jq.heap=st.heap→rz ops (look st.tmps) o false → bI P Eqs Sg F rid true ops b l (jq.put o.dst (.oz [])) kk=some r → ∃(T:Nat→Nat→AV) (H:Nat→Hp) (E:Nat→Option bE),T i'=look st.tmps∧H i'=st.heap.get∧(∀k o,i'≤k→ops[k]? = some o→CZ P Eqs Sg F rid ops b T H E k o) ∧ ∃fe,kk fe=some r∧look fe.tmps=T (max i' ops.size)∧fe.heap.get=H (max i' ops.size):=by
   intro jq h1 h2 hw hx;refine glue _ none hx fun T H E hT hH hE hT' hH'=>.inr ⟨hE,by grind,?_,?_⟩
   ·grind [iB]
   grind [dh]
  rw[bI]at hx;simp only[if_true]at hx
  split at hx
  ·rename_i hg;exact runs st rfl rfl (by simp[rz,hg]) hx
  ·rename_i jj want hg
   split at hx
   ·cases hx
   ·rename_i d hd
    split at hx
    ·rename_i t ht;have hp:∀b,t=b→look (st.put (some d) (.bool b)).tmps=look st.tmps:=fun b hb=>by subst hb;rw[iB];exact Gu ht
     have hw:∀c,(t==want)=c→rz ops (look st.tmps) o c:=fun c hc=>by
      grind [rz]
     cases t<;>simp only[cond_true,cond_false]at hx<;>split at hx<;>rename_i CX
     ·exact w4 _ (hp false rfl) (dh _ _ _) (hw _ (by simp[CX])) hx
     ·exact runs _ (hp false rfl) (dh _ _ _) (hw _ (by simp[CX])) hx
     ·exact runs _ (hp true rfl) (dh _ _ _) (hw _ (by simp[CX])) hx
     ·exact w4 _ (hp true rfl) (dh _ _ _) (hw _ (by simp[CX])) hx
    ·rename_i vs ht;exact w4 st rfl rfl (by unfold rz;grind) hx
    ·cases hx
def Nf(ops:Array Oper)(j:Nat):Prop:=∃o,ops[j]? = some o∧oD o.op=false∧jg o.op=none
def C0(E:Nat→Option bE)(k:Nat):Prop:=∃v h',E k=some (.wr v h')
def IsN(E:Nat→Option bE)(k:Nat):Prop:=∃v os,E k=some (.new v os)
theorem w5{α:Type}(f:α→Option Nat):∀(l:List α),cf (l.filterMap f)=true→∀(i j:Nat) (x y:α) (d:Nat),l[i]? = some x→l[j]? = some y→f x=some d→f y=some d→i=j
 |[],_,i,j,x,y,d,hi,_,_,_=>by simp at hi
 |a::r,hn,i,j,x,y,d,hi,hj,hx,hy=>by
  have jo:∀(k:Nat) (z:α),r[k]? = some z→f z=some d→d∈r.filterMap f:=fun k z hk hz=>adR.2 ⟨z,acw hk,hz⟩;have hr:cf (r.filterMap f)=true∧∀c,f a=some c→c∉r.filterMap f:=by
   rw[List.filterMap_cons]at hn
   split at hn
   ·rename_i h0;exact⟨hn,fun c hc=>by rw[h0]at hc;cases hc⟩
   ·rename_i c h0;simp only[cf,Bool.and_eq_true,Bool.not_eq_true']at hn;refine⟨hn.2,fun c' hc=>?_⟩;rw[h0]at hc;cases hc;intro hm;rw[List.contains_iff_mem.2 hm]at hn;simp at hn
  cases i with
  |zero =>
   cases j with
   |zero=>rfl
   |succ j =>simp only[List.getElem?_cons_zero,Option.some.injEq]at hi;subst hi;exact absurd (jo j y (by simpa using hj) hy) (hr.2 d hx)
  |succ i =>
   cases j with
   |zero =>simp only[List.getElem?_cons_zero,Option.some.injEq]at hj;subst hj;exact absurd (jo i x (by simpa using hi) hx) (hr.2 d hy)
   |succ j=>rw[w5 f r hr.1 i j x y d (by simpa using hi) (by simpa using hj) hx hy]
structure Dr(P:Program)(Eqs:TypeId→Option K)(Sg:FuncId→Option aN)(F:(f:FuncId)→(g:aN)→g.A→Option g.B)(rid n:Nat)(ops:Array Oper)(b:Array Nat)(T:Nat→Nat→AV)(H:Nat→Hp)(E:Nat→Option bE):Prop where
 size:ops.size≤128
 TM:wF ops b=true
 pair:Cg ops b=true
 ajI:∀(i:Nat) (o:Oper),ops[i]? = some o→jh n o=true
 nodup:cf (ops.toList.filterMap (·.dst))=true
 step:∀k o,ops[k]? = some o→CZ P Eqs Sg F rid ops b T H E k o
 ajJ:∀id,H 0 id≠none→id / 32768≠rid+1
section
variable {T:Nat→Nat→AV} {H:Nat→Hp} {E:Nat→Option bE}
theorem Dr.w6(D:Dr P Eqs Sg F rid n ops b T H E){i j:Nat}{x y:Oper}{d:Nat}(hi:ops[i]? = some x)(hj:ops[j]? = some y)(hx:x.dst=some d)(hy:y.dst=some d):i=j :=w5 (·.dst) ops.toList D.nodup i j x y d (by simpa using hi) (by simpa using hj) hx hy
theorem Dr.ZN(D:Dr P Eqs Sg F rid n ops b T H E){i j:Nat}{x y:Oper}(hi:ops[i]? = some x)(hj:ops[j]? = some y)(Gf:i<j):tU b j i∨x.apart ops y=true:=by have h1:=adb.1 D.pair j (adf.2 (abI.1 hj).1);have h2:=adb.1 h1 i (adf.2 Gf);rw[hi,hj]at h2;simp only[Bool.or_eq_true,Bool.and_eq_true]at h2;exact h2
theorem Dr.Ya(D:Dr P Eqs Sg F rid n ops b T H E){k:Nat}{o:Oper}(ho:ops[k]? = some o){e:bE}(he:E k=some e) :
  ∃s hh,look s=T k∧(∀id,Heap.get hh id=if uN rid (b.getD k 0) id then H k id else none)∧(∃e0,cZ P Eqs Sg F (opId rid k) (iu hh (ic ops b k s o)) s o some=some e0∧e=ig (ic ops b k s o) hh e0∧mG (ic ops b k s o) e0=true) ∧
   hZ true rid ops b k (b.getD k 0) e=true∧rz ops (T k) o true∧T (k+1)=iA (T k) o.dst e.v∧H (k+1)=e.hp (H k):=by
 rcases D.step k o ho with⟨e',s,hh,h1,h2⟩|⟨h1,_⟩
 ·grind
 simp_all
theorem Dr.H6(D:Dr P Eqs Sg F rid n ops b T H E){k:Nat}{o:Oper}(ho:ops[k]? = some o)(he:E k=none) :
  rz ops (T k) o false∧T (k+1)=iA (T k) o.dst (.oz [])∧H (k+1)=H k:=by
 rcases D.step k o ho with⟨e',s,hh,h1,h2⟩|⟨h1,h2⟩
 ·simp_all
 ·exact h2
theorem Dr.zg(D:Dr P Eqs Sg F rid n ops b T H E){k:Nat}(hk:k<ops.size)(h:IsN E k):Nf ops k:=by
 obtain⟨v,os,he⟩:=h;obtain⟨s,hh,_,_,⟨e0,h3,ZC,_⟩,_⟩:=D.Ya (acr hk) he;refine⟨_,acr hk,?_,?_⟩
 ·cases hf:oD (ops[k]).op with
  |false=>rfl
  |true=>obtain⟨v',rfl⟩:=JY hf h3;cases ZC
 ·cases hf:jg (ops[k]).op with
  |none=>rfl
  |some x=>obtain⟨v',rfl⟩:=J6 hf h3;cases ZC
theorem Dr.TN(D:Dr P Eqs Sg F rid n ops b T H E){k:Nat}(hk:k<ops.size)(h:C0 E k):Nf ops k:=by
 obtain⟨v,os,he⟩:=h;obtain⟨s,hh,_,_,⟨e0,h3,ZC,_⟩,_⟩:=D.Ya (acr hk) he;refine⟨_,acr hk,?_,?_⟩
 ·cases hf:oD (ops[k]).op with
  |false=>rfl
  |true=>obtain⟨v',rfl⟩:=JY hf h3;cases ZC
 ·cases hf:jg (ops[k]).op with
  |none=>rfl
  |some x=>obtain⟨v',rfl⟩:=J6 hf h3;cases ZC
theorem Dr.C1(D:Dr P Eqs Sg F rid n ops b T H E){k j:Nat}(hk:k<ops.size)(h:C0 E k)(hj:Nf ops j)(bz:j≠k):(j<k∧tU b k j)∨(k<j∧tU b j k):=by
 obtain⟨v,os,he⟩:=h;obtain⟨s,hh,_,_,_,h4,_⟩:=D.Ya (acr hk) he;obtain⟨o,ho,hf,SA⟩:=hj;have ME:=(abI.1 ho).1;simp only[hZ,Bool.and_eq_true]at h4;have h5:Mu ops b k=true:=by simpa using h4.1.1
 have h6:=adb.1 h5 j (adf.2 ME);have hlf:o4 ops k j=false:=by unfold o4 Jv;rw[ho];simp only[Option.bind_some,SA,Option.map_none]
 rw[hlf,ho]at h6;simp only[SA,Option.isSome_none,Bool.and_false,Bool.or_false]at h6;simp only[Bool.or_eq_true,beq_iff_eq,hf,Bool.false_eq_true,or_false]at h6;rcases h6 with(h6|h6)|h6
 ·exact absurd h6 bz
 ·exact .inr ⟨CY D.TM j k ME h6,h6⟩
 ·exact .inl ⟨CY D.TM k j hk h6,h6⟩
theorem Dr.C2(D:Dr P Eqs Sg F rid n ops b T H E){p:Nat}:∀(q:Nat),p≤q→q≤ops.size→∀id,(∀k,p≤k→k<q→C0 E k→H (k+1) id=H k id)→(∀k,p≤k→k<q→IsN E k→¬Of rid k id)→H q id=H p id:=by
 intro q
 induction q with
 |zero=>simp_all
 |succ q ih =>
  intro HR hq id hw bL;by_cases he:p=q+1
  ·rw[he]
  ·have h1:=ih (by omega) (by omega) id (fun k h1 h2=>hw k h1 (by omega)) (fun k h1 h2=>bL k h1 (by omega));rw[←h1];have ho:=acr (show q<ops.size by omega)
   cases hE:E q with
   |none=>rw[(D.H6 ho hE).2.2]
   |some e =>
    obtain⟨s,hh,_,_,_,h4,_,_,h7⟩:=D.Ya ho hE
    cases e with
    |val v=>rw[h7];rfl
    |wr v h'=>exact hw q (by omega) (by omega) ⟨v,h',hE⟩
    |new v os =>
     rw[h7];simp only[bE.hp]
     cases hos:Heap.get os id with
     |none=>rfl
     |some o' =>
      exfalso;simp only[hZ,Bool.and_eq_true]at h4;refine bL q (by omega) (by omega) ⟨v,os,hE⟩ ?_;have:∀(l:Heap),(l.all fun p=>p.1 / 256==(rid+1)*128+q)=true→∀o',l.get id=some o'→Of rid q id:=by
       intro l
       induction l with
       |nil=>grind [Heap.get]
       |cons a r ihl =>
        intro jN o' hg;simp only[List.all_cons,Bool.and_eq_true,beq_iff_eq]at jN;simp only[Heap.get]at hg
        split at hg
        ·rename_i e;rw[←e];exact jN.1
        simp_all
      grind
theorem Dr.BL(D:Dr P Eqs Sg F rid n ops b T H E){p:Nat}(q:Nat)(HR:p≤q)(hq:q≤ops.size)(hw:∀k,p≤k→k<q→¬C0 E k)(id:Nat)(hn:∀k,p≤k→k<q→IsN E k→¬Of rid k id):H q id=H p id :=D.C2 q HR hq id (fun k h1 h2 h3=>absurd h3 (hw k h1 h2)) hn
theorem Dr.names(D:Dr P Eqs Sg F rid n ops b T H E):∀(k:Nat),k≤ops.size→∀id,H k id≠none→id / 32768=rid+1→∃j,Of rid j id∧j<k∧j<128∧(IsN E j∨∃w,w<k∧C0 E w∧(j=w∨tU b w j)):=by
 intro k
 induction k with
 |zero=>intro _ id h1 h2;exact absurd h2 (D.ajJ id h1)
 |succ k ih =>
  intro hk id h1 h2;have aO:k<ops.size:=by omega
  have up:H k id≠none→∃j,Of rid j id∧j<k+1∧j<128∧(IsN E j∨∃w,w<k+1∧C0 E w∧(j=w∨tU b w j)):=fun h=>by
   grind
  have ho:=acr aO;have TO:=D.size
  cases hE:E k with
  |none=>rw[(D.H6 ho hE).2.2]at h1;exact up h1
  |some e =>
   obtain⟨s,hh,_,_,_,h4,_,_,h7⟩:=D.Ya ho hE;rw[h7]at h1
   cases e with
   |val v=>exact up h1
   |wr v h' =>
    obtain⟨o',rY⟩:=abK.1 h1;simp only[hZ,Bool.and_eq_true]at h4;have h5:(b.getD k 0 ||| 2 ^ k).testBit (id / 256%128)=true:=(mV (S:=fun j=>(b.getD k 0 ||| 2 ^ k).testBit j=true) (fun j hj=>hj) h4.2 id o' rY).1 h2;rw[Nat.testBit_or,Bool.or_eq_true,Nat.testBit_two_pow]at h5;refine⟨id / 256%128,Of.of h2 rfl,?_,by omega,.inr ⟨k,by omega,⟨v,h',hE⟩,?_⟩⟩
    ·rcases h5 with h5|h5
     ·have:=CY D.TM k _ aO h5;omega
     simp_all
    ·rcases h5 with h5|h5
     ·exact .inr h5
     simp_all
   |new v os =>
    simp only[bE.hp]at h1
    cases hos:Heap.get os id with
    |none=>simp_all
    |some o' =>
     simp only[hZ,Bool.and_eq_true]at h4;have:∀(l:Heap),(l.all fun p=>p.1 / 256==(rid+1)*128+k)=true→∀o',l.get id=some o'→Of rid k id:=by
      intro l
      induction l with
      |nil=>grind [Heap.get]
      |cons a r ihl =>
       intro jN o' hg;simp only[List.all_cons,Bool.and_eq_true,beq_iff_eq]at jN;simp only[Heap.get]at hg
       split at hg
       ·rename_i e;rw[←e];exact jN.1
       simp_all
     exact⟨k,this os h4.1.2 o' hos,by omega,by omega,.inl ⟨v,os,hE⟩⟩
theorem Dr.abD(D:Dr P Eqs Sg F rid n ops b T H E){q:Nat}(rB:q<ops.size)(ZO:C0 E q):∀id,H q id≠none→nI rid (tU b q) id:=fun id bz TP=>by
 obtain⟨j,h1,h2,h2',h3⟩:=D.names q (by omega) id bz TP;rw[(h1.parts h2').2];rcases h3 with h3|⟨w',h5,h6,h8⟩
 ·rcases D.C1 rB ZO (D.zg (by omega) h3) (by omega) with⟨_,h9⟩|⟨h9,_⟩
  ·exact h9
  ·omega
 ·have hqw:tU b q w':=by
   rcases D.C1 rB ZO (D.TN (by omega) h6) (by omega) with⟨_,h9⟩|⟨h9,_⟩
   ·exact h9
   ·omega
  rcases h8 with rfl|h8
  ·exact hqw
  ·exact Gy D.TM q w' j rB hqw h8
theorem Dr.pG(D:Dr P Eqs Sg F rid n ops b T H E){d p:Nat}:∀(q:Nat),p≤q→q≤ops.size→(∀m o,p≤m→m<q→ops[m]? = some o→o.dst≠some d)→T q d=T p d
 |0,h,_,_=>by simp_all
 |q+1,h,hq,hm=>by
  by_cases e:p=q+1
  ·rw[e]
  ·have ho:=acr (show q<ops.size by omega);have ih:=D.pG q (by omega) (by omega) fun m o h1 h2=>hm m o h1 (by omega);rw[←ih];have hd:=hm q _ (by omega) (by omega) ho;have key:∀v,iA (T q) (ops[q]).dst v d=T q d:=fun v=>by
    cases nJ:(ops[q]).dst with
    |none=>rfl
    |some d' =>
     simp only[iA,dV]
     grind
   rcases D.step q _ ho with⟨e,s,hh,_,_,_,_,_,_,h7,_⟩|⟨_,_,h3,_⟩
   ·rw[h7,key]
   simp_all
theorem Dr.ZP(D:Dr P Eqs Sg F rid n ops b T H E){i:Nat}(hi:i≤ops.size){x:Operand}{s:List (Nat×AV)}(hs:look s=T i){id:Nat}(bL:id∈k9 (ρ s x)):id∈k9 (ρ s (stepOf ops i x)):=by
 unfold stepOf
 split
 rotate_left
 ·exact bL
 rename_i d
 split
 rotate_left
 ·exact bL
 rename_i m hf
 split
 rotate_left
 ·exact bL
 rename_i o ho
 split
 rotate_left
 ·exact bL
 rename_i t e f Oq
 split
 ·exact bL
 rename_i bz;obtain⟨hm,Jm,_⟩:=adz.1 hf;have hmi:m<i:=by rw[List.length_take]at hm;omega
 have hd:o.dst=some d:=by
  rw[List.getElem_take]at Jm;rw[Array.getElem?_eq_getElem (by omega)]at ho
  cases ho
  simpa using Jm
 have tG:∀(q:Nat) (o':Oper),m≤q→ops[q]? = some o'→o'.dst≠some e:=fun q o' hq h1 h2=>by obtain⟨h3,h4⟩:=abI.1 h1;exact bz (List.any_eq_true.2 ⟨q,adf.2 h3,by rw[h1];simp[h2,hq]⟩)
 have e1:T i d=T (m+1) d:=D.pG i (by omega) hi fun q o' h1 h2 h3 h4=>by have:=D.w6 h3 ho h4 hd;omega
 have e2:T i e=T m e:=D.pG i (by omega) hi fun q o' h1 _ h3=>tG q o' h1 h3;simp only[ρ,hs]at bL ⊢;rw[e1]at bL;rw[e2];rcases D.step m o ho with⟨ef,s',hh,_,hs',_,⟨e0,h0,Gz,_⟩,_,_,h7,_⟩|⟨_,_,h3,_⟩
 ·rw[h7,hd]at bL;simp only[iA,bf]at bL;rw[Gz,J5]at bL;obtain⟨dst,op,type,pos,after,guard⟩:=o;simp only at Oq;subst Oq;simp only[cZ,ρ,hs']at h0
  split at h0
  ·rename_i hx
   split at h0
   ·cases h0
   ·cases h0
    rw[hx];exact bL
  ·split at h0
   ·cases h0
   ·cases h0;cases bL
  ·cases h0
 ·rw[h3,hd]at bL;simp only[iA,bf,k9]at bL
  cases bL
theorem Dr.base(D:Dr P Eqs Sg F rid n ops b T H E){i:Nat}(hi:i≤ops.size){x:Operand}{s:List (Nat×AV)}(hs:look s=T i){id:Nat}(bL:id∈k9 (ρ s x)):id∈k9 (ρ s (Mt ops i x)):=D.ZP hi hs (D.ZP hi hs bL)
theorem Dr.steady(D:Dr P Eqs Sg F rid n ops b T H E){i k:Nat}{o:Oper}{x:Operand}(ho:ops[i]? = some o)(hl:jg o.op=some x)(hk:k<ops.size)(hw:C0 E k)(bz:i≠k)(h1:¬tU b i k)(h2:¬tU b k i) {s:List (Nat×AV)} (hs:look s=T i) (QW:tB ops b i s o=false) {id:Nat} (bL:id∈k9 (ρ s x)):H (k+1) id=H k id:=by
 have rB:=(abI.1 ho).1;obtain⟨v,h',hE⟩:=hw;have jO:=acr hk;obtain⟨sk,hh,TQ,ZQ,⟨e0,ZC,Gz,vF⟩,h4,_,_,h7⟩:=D.Ya jO hE;simp only[hZ,Bool.and_eq_true]at h4;have h5:Mu ops b k=true:=by simpa using h4.1.1
 have h6:=adb.1 h5 i (adf.2 rB);rw[ho,jO]at h6;have b1:(b.getD i 0).testBit k=false:=Bool.eq_false_iff.2 h1;have b2:(b.getD k 0).testBit i=false:=Bool.eq_false_iff.2 h2;have b3:(i==k)=false:=by simp[bz]
 simp only[b1,b2,b3,(ze hl).1,Bool.false_or,Bool.and_eq_true]at h6;obtain⟨C3,h8⟩:=h6;have Ou:o4 ops k i=true:=by
  simp only[Bool.or_eq_true,Bool.and_eq_true]at h8;rcases h8 with h8|⟨h8,_⟩
  ·exact h8
  unfold tB at QW;rw[hl]at QW;simp only[h8,Bool.true_and]at QW;have HL:(k9 (ρ s x)).isEmpty=false:=by cases hq:k9 (ρ s x) with
   |nil=>rw[hq]at bL;cases bL
   |cons _ _=>rfl
  simp only[HL,Bool.not_false,Bool.true_and,Bool.not_eq_false']at QW;have h9:=adb.1 QW k (adf.2 hk);rw[jO]at h9;have b4:(k==i)=false:=by simp[Ne.symm bz]
  simpa only[b1,b2,b4,C3,Bool.not_true,Bool.false_or] using h9
 have hft:ic ops b k sk ops[k]=abb ops b k sk:=by unfold ic;rw[if_pos C3]
 have hb:=D.base (by omega) hs bL;generalize hy:Mt ops i x=y at hb;have nS:ρ sk y=ρ s y:=by
  cases y with
  |tmp d =>
   simp only[ρ,TQ,hs];unfold o4 Jv at Ou;rw[ho]at Ou;simp only[Option.bind_some,hl,Option.map_some,hy]at Ou;have hm:∀m o',min k i≤m→m<max k i→ops[m]? = some o'→o'.dst≠some d:=fun m o' g1 g2 g3 hd=>by have g4:=adb.1 Ou m (adf.2 (by omega));rw[g3]at g4;simp[hd,g1,g2]at g4
   rcases Nat.lt_or_ge i k with g|g
   ·exact D.pG k (by omega) (by omega) fun m o' g1 g2=>hm m o' (by omega) (by omega)
   ·exact(D.pG i (by omega) (by omega) fun m o' g1 g2=>hm m o' (by omega) (by omega)).symm
  |_=>rfl
 have jo:id∈ic ops b k sk ops[k]:=by rw[hft];unfold abb;refine List.mem_flatMap.2 ⟨i,adf.2 rB,?_⟩;unfold Jv;rw[b1,b2,b3,ho];simp only[Bool.or_self,Bool.false_eq_true,if_false,Option.bind_some,hl,Option.map_some,hy];rw[nS];exact hb
 cases e0 with
 |val v0=>cases Gz
 |new v0 os=>cases Gz
 |wr v0 Xn =>
  cases Gz
  simp only[mG,Bool.and_eq_true]at vF;have hn:Xn.get id=none:=by
   cases e:Xn.get id with
   |none=>rfl
   |some ob=>exact absurd jo (lx vF.2 id ob e).1
  rw[h7];show(fL _ hh Xn).get id=H k id;rw[lq,if_pos jo,hn,ZQ id]
  cases ajL:H k id with
  |none=>simp
  |some ob =>
   have h8:=D.abD hk ⟨_,_,hE⟩ id (by rw[ajL];simp);have h9:uN rid (b.getD k 0) id=true:=by
    unfold uN;by_cases hr:id / 32768=rid+1
    ·have:=h8 hr;unfold tU at this;rw[this];simp
    ·simp[hr]
   rw[if_pos h9]
end
end Go.Vs
namespace Go.Vs
variable {P:Program} {Eqs:TypeId→Option K} {Sg:FuncId→Option aN} {F:(f:FuncId)→(g:aN)→g.A→Option g.B} {R:Type}
variable {Z Z' Z0:Nat→Prop} {ψ ψ' ψ0:Nat→Value} {h h':Hp} {w w' w0:World} {B0:Nat} {O N:Nat→Prop}
variable {rid n:Nat} {ops:Array Oper} {b:Array Nat} {T:Nat→Nat→AV} {H:Nat→Hp} {E:Nat→Option bE}
structure Dj(rid:Nat)(ops:Array Oper)(b:Array Nat)(T:Nat→Nat→AV)(H:Nat→Hp)(E:Nat→Option bE)(S:Nat→Prop)(Tc:Nat→AV)(h:Hp):Prop where
 lt:∀i,S i→i<ops.size
 closed:∀i j,S i→tU b i j→S j
 heap:∃q,q≤ops.size∧(∀k,k<q→C0 E k→S k)∧(q<ops.size→C0 E q∧¬S q)∧∀id,(nI rid S id→h id=H q id)∧(¬nI rid S id→h id=none)
 TR:∀j o d,S j→ops[j]? = some o→o.dst=some d→Tc d=T (j+1) d
 told:∀d,(∀j o,S j→ops[j]? = some o→o.dst≠some d)→Tc d=T 0 d
theorem Dr.TS(D:Dr P Eqs Sg F rid n ops b T H E){k:Nat}{o:Oper}(ho:ops[k]? = some o){d:Nat}(hd:o.dst≠some d):T (k+1) d=T k d:=by
 have:∀v,iA (T k) o.dst v d=T k d:=fun v=>by
  cases nJ:o.dst with
  |none=>rfl
  |some d' =>
   simp only[iA,dV]
   grind
 rcases D.step k o ho with⟨e,s,hh,_,_,_,_,_,_,h7,_⟩|⟨_,_,h3,_⟩
 ·rw[h7,this]
 simp_all
theorem Dr.w7(D:Dr P Eqs Sg F rid n ops b T H E){d:Nat}:∀(i:Nat),i≤ops.size→(∀k o,k<i→ops[k]? = some o→o.dst≠some d)→T i d=T 0 d
 |0,_,_=>rfl
 |i+1,hi,hk=>by rw[D.TS (Array.getElem?_eq_getElem (show i<ops.size by omega)) (hk i _ (by omega) (Array.getElem?_eq_getElem (by omega)))];exact D.w7 i (by omega) fun k o h1 h2=>hk k o (by omega) h2
theorem Dr.H7(D:Dr P Eqs Sg F rid n ops b T H E){d j:Nat}{oj:Oper}(hj:ops[j]? = some oj)(hd:oj.dst=some d):∀(i:Nat),i≤ops.size→j<i→T i d=T (j+1) d
 |0,_,h=>by omega
 |i+1,hi,h=>by
  by_cases e:j=i
  ·rw[e]
  ·have ho:=acr (show i<ops.size by omega);rw[D.TS ho (fun hdi=>e (D.w6 hj ho hd hdi))];exact D.H7 hj hd i (by omega) (by omega)
theorem Dr.looks(D:Dr P Eqs Sg F rid n ops b T H E){S:Nat→Prop}{Tc:Nat→AV}(dj:Dj rid ops b T H E S Tc h){i:Nat}{o:Oper}(ho:ops[i]? = some o)(hS:¬S i)(hb:∀j,tU b i j→S j){d:Nat}(hd:d∈o.looksAt ops):Tc d=T i d:=by
 have hi:=(abI.1 ho).1;by_cases hex:∃(j:Nat) (oj:Oper),ops[j]? = some oj∧oj.dst=some d
 ·obtain⟨j,oj,hj,hdj⟩:=hex;have cF:¬S j→Tc d=T 0 d:=fun hn=>dj.told d fun j' o' hs rY TT=>hn (by rw[D.w6 hj rY hdj TT];exact hs);have TM:i≤j→T i d=T 0 d:=fun Gf=>D.w7 i (by omega) fun k o' hk rY TT=>by have:=D.w6 hj rY hdj TT;omega
  rcases Nat.lt_trichotomy j i with aO|rfl|Ov
  ·rcases D.ZN hj ho aO with h1|h1
   ·rw[dj.TR j oj d (hb j h1) hj hdj,D.H7 hj hdj i (by omega) aO]
   grind [absurd,Oper.apart_spec]
  ·simp_all
  ·rcases D.ZN ho hj Ov with h1|h1
   ·rw[cF (fun hs=>hS (dj.closed j i hs h1)),TM (by omega)]
   grind [absurd,Oper.apart_spec]
 ·rw[dj.told d fun j o' _ rY TT=>hex ⟨j,o',rY,TT⟩,D.w7 i (by omega) fun k o' _ rY TT=>hex ⟨k,o',rY,TT⟩]
theorem Dr.TU{S:Nat→Prop}{Tc:Nat→AV}(D:Dr P Eqs Sg F rid n ops b T H E)(dj:Dj rid ops b T H E S Tc h){i:Nat}{o:Oper}(ho:ops[i]? = some o)(hS:¬S i){v:AV}(hv:T (i+1)=iA (T i) o.dst v) :
  (∀j o' d,(S j∨j=i)→ops[j]? = some o'→o'.dst=some d→iA Tc o.dst v d=T (j+1) d)∧(∀d,(∀j o',(S j∨j=i)→ops[j]? = some o'→o'.dst≠some d)→iA Tc o.dst v d=T 0 d):=by
 constructor
 ·intro j o' d hj rY hd;rcases hj with hj|rfl
  ·have bz:j≠i:=fun e=>hS (e▸hj);have:iA Tc o.dst v d=Tc d:=by
    cases nJ:o.dst with
    |none=>rfl
    |some d' =>simp only[iA,dV];rw[if_neg];rintro rfl;exact bz (D.w6 rY ho hd nJ)
   rw[this];exact dj.TR j o' d hj rY hd
  simp_all [iA,dV]
 ·intro d hd;have:iA Tc o.dst v d=Tc d:=by
   cases nJ:o.dst with
   |none=>rfl
   |some d' =>
    simp only[iA,dV]
    grind
  rw[this];exact dj.told d fun j o' hj=>hd j o' (.inl hj)
theorem w9{i k id:Nat}(h1:Of rid i id)(h2:Of rid k id):i=k:=by grind [Of]
section
variable {S:Nat→Prop} {Tc:Nat→AV}
theorem Dr.calm(D:Dr P Eqs Sg F rid n ops b T H E)(dj:Dj rid ops b T H E S Tc h){i q:Nat}(hi:Nf ops i)(hS:¬S i)(hq:q≤ops.size)(hw:∀k,k<q→C0 E k→S k):∀k,i≤k→k<q→¬C0 E k:=by
 intro k hik hkq hk;have TQ:=hw k hkq hk;have bz:i≠k:=fun e=>hS (e▸TQ);rcases D.C1 (by omega) hk hi bz with⟨_,h1⟩|⟨h1,_⟩
 ·exact hS (dj.closed k i TQ h1)
 ·omega
theorem Dr.seen(D:Dr P Eqs Sg F rid n ops b T H E)(dj:Dj rid ops b T H E S Tc h){i:Nat}(hi:Nf ops i)(hS:¬S i)(hb:∀j,tU b i j→S j){hh:Heap}(ZQ:∀id,Heap.get hh id=if uN rid (b.getD i 0) id then H i id else none) :
  ∀id o,hh.get id=some o→h id=some o:=by
 obtain⟨q,hq,hw,lY,lW⟩:=dj.heap;have rB:i<ops.size:=by obtain⟨o,ho,hf1,hf2⟩:=hi;grind
 have hiq:i≤q:=by
  rcases Nat.lt_or_ge q i with h1|h1
  ·obtain⟨h2,h3⟩:=lY (by omega);rcases D.C1 (by omega) h2 hi (by omega) with⟨h4,_⟩|⟨_,h4⟩
   ·omega
   simp_all
  ·exact h1
 intro id o bL;rw[ZQ]at bL
 split at bL
 ·rename_i jO;have tS:nI rid S id:=py hb jO;rw[(lW id).1 tS,D.BL q hiq hq (D.calm dj hi hS hq hw) id fun k hk _ _ ho=>?_,bL];have TP:=(ho.parts (by have:=D.size;omega)).1;obtain⟨j,h1,h2,_⟩:=D.names i (by omega) id (by rw[bL];simp) TP
  grind [w9]
 ·cases bL
theorem Dr.QX(D:Dr P Eqs Sg F rid n ops b T H E)(dj:Dj rid ops b T H E S Tc h){i:Nat}{o:Oper}{x:Operand}(ho:ops[i]? = some o)(hl:jg o.op=some x)(hS:¬S i)(hb:∀j,tU b i j→S j){s:List (Nat×AV)}(hs:look s=T i)(QW:tB ops b i s o=false) {hh:Heap} (ZQ:∀id,Heap.get hh id=if uN rid (b.getD i 0) id then H i id else none):∀id∈k9 (ρ s x),∀ob,hh.get id=some ob→h id=some ob:=by
 obtain⟨q,hq,hw,lY,lW⟩:=dj.heap;have rB:=(abI.1 ho).1;have TO:=D.size;intro id bL ob oP;rw[ZQ]at oP
 split at oP
 ·rename_i jO;have tS:nI rid S id:=py hb jO;rw[(lW id).1 tS,←oP];rcases Nat.lt_or_ge q i with hqi|hiq
  ·obtain⟨h2,h3⟩:=lY (by omega);have later:∀k,q<k→k<ops.size→Nf ops k→tU b k q:=fun k h4 h5 h6=>by
    rcases D.C1 (by omega) h2 h6 (by omega) with⟨h7,_⟩|⟨_,h7⟩
    ·omega
    ·exact h7
   have aej:∀k,q≤k→k<i→Nf ops k→¬S k:=fun k h4 h5 h6 hk=>by
    rcases Nat.eq_or_lt_of_le h4 with e|h7
    ·simp_all
    ·exact h3 (dj.closed k q hk (later k h7 (by omega) h6))
   symm
   refine D.C2 i (by omega) (by omega) id (fun k h4 h5 h6=>?_) (fun k h4 h5 h6 h7=>?_)
   ·have hns:=aej k h4 h5 (D.TN (by omega) h6);exact D.steady ho hl (by omega) h6 (by omega) (fun MZ=>hns (hb k MZ)) (fun MZ=>by have:=CY D.TM k i (by omega) MZ;omega) hs QW bL
   ·have hns:=aej k h4 h5 (D.zg (by omega) h6);have h8:=h7.parts (show k<128 by omega);have h9:=tS h8.1;simp_all
  ·refine D.C2 q hiq hq id (fun k h4 h5 h6=>?_) (fun k h4 h5 h6 h7=>?_)
   ·have TQ:=hw k h5 h6;have bz:i≠k:=fun e=>hS (e▸TQ);exact D.steady ho hl (by omega) h6 bz (fun MZ=>by have:=CY D.TM i k rB MZ;omega) (fun MZ=>hS (dj.closed k i TQ MZ)) hs QW bL
   ·obtain⟨j,h8,h9,_⟩:=D.names i (by omega) id (by rw[oP];simp) (h7.parts (by omega)).1
    grind [w9]
 ·cases oP
theorem TV(E:Nat→Option bE)(S:Nat→Prop)(m:Nat):∃q,q≤m∧(∀k,k<q→C0 E k→S k)∧(q<m→C0 E q∧¬S q):=by
 classical
 induction m with
 |zero=>simp_all
 |succ m ih =>
  grind
theorem H8{i id:Nat}(hi:i<128):nI rid (fun k=>S k∨k=i) id↔nI rid S id∨Of rid i id:=by
 constructor
 ·intro h1;by_cases hr:id / 32768=rid+1
  ·rcases h1 hr with h2|h2
   ·exact .inl fun _=>h2
   grind [Of.of]
  ·exact .inl fun h=>absurd h hr
 ·rintro(h1|h1) h2
  ·exact .inl (h1 h2)
  ·exact .inr (h1.parts hi).2
theorem Dr.J7(D:Dr P Eqs Sg F rid n ops b T H E)(dj:Dj rid ops b T H E S Tc h){i:Nat}(rB:i<ops.size)(hS:¬S i)(hnn:¬IsN E i)(hnw:¬C0 E i) :
  ∃q,q≤ops.size∧(∀k,k<q→C0 E k→S k∨k=i)∧(q<ops.size→C0 E q∧¬(S q∨q=i))∧∀id,(nI rid (fun k=>S k∨k=i) id→h id=H q id)∧(¬nI rid (fun k=>S k∨k=i) id→h id=none):=by
 obtain⟨q,hq,hw,lY,lW⟩:=dj.heap;have TO:=D.size;refine⟨q,hq,fun k h1 h2=>.inl (hw k h1 h2),fun h1=>⟨(lY h1).1,fun h2=>h2.elim (lY h1).2 fun e=>hnw (e▸(lY h1).1)⟩,fun id=>⟨fun h1=>?_,fun h1=>(lW id).2 fun h2=>h1 ((H8 (by omega)).2 (.inl h2))⟩⟩;rcases (H8 (S:=S) (i:=i) (rid:=rid) (by omega)).1 h1 with h2|h2
 ·simp_all
 ·have hn:¬nI rid S id:=fun h3=>h3.CT (by omega) hS h2;rw[(lW id).2 hn]
  symm
  apply Classical.not_not.1;intro bz;obtain⟨j,h3,_,_,h4⟩:=D.names q hq id bz (h2.parts (by omega)).1;have:=w9 h3 h2;subst this;rcases h4 with h4|⟨w',h5,h6,h7|h7⟩
  ·exact hnn h4
  ·simp_all
  ·exact hS (dj.closed w' _ (hw w' h5 h6) h7)
theorem Yb{os:Heap}{i:Nat}(jN:(os.all fun p=>p.1 / 256==(rid+1)*128+i)=true):∀id o,os.get id=some o→Of rid i id:=by
 induction os with
 |nil=>grind [id,Heap.get]
 |cons a r ih =>
  intro id o hg;simp only[List.all_cons,Bool.and_eq_true,beq_iff_eq]at jN;simp only[Heap.get]at hg
  split at hg
  ·rename_i e;rw[←e];exact jN.1
  simp_all
theorem Dr.TW(D:Dr P Eqs Sg F rid n ops b T H E)(dj:Dj rid ops b T H E S Tc h){i:Nat}{o:Oper}(ho:ops[i]? = some o)(hS:¬S i)(hb:∀j,tU b i j→S j){v:AV}{os:Heap}(hE:E i=some (.new v os)) :
  ∃q,q≤ops.size∧(∀k,k<q→C0 E k→S k∨k=i)∧(q<ops.size→C0 E q∧¬(S q∨q=i))∧∀id,(nI rid (fun k=>S k∨k=i) id→(bE.new v os).hp h id=H q id)∧(¬nI rid (fun k=>S k∨k=i) id→(bE.new v os).hp h id=none):=by
 obtain⟨q,hq,hw,lY,lW⟩:=dj.heap;have TO:=D.size;have rB:=(abI.1 ho).1;have hnw:¬C0 E i:=fun⟨v',h',h1⟩=>by simp_all
 have hnf:=D.zg rB ⟨v,os,hE⟩;obtain⟨s,hh,_,_,_,h4,_,_,h7⟩:=D.Ya ho hE;simp only[hZ,Bool.and_eq_true]at h4;have rR:=Yb (rid:=rid) h4.1.2;have hiq:i<q:=by
  rcases Nat.lt_or_ge i q with h1|h1
  ·exact h1
  ·obtain⟨h2,h3⟩:=lY (by omega);have bz:i≠q:=fun e=>hnw (e▸h2);rcases D.C1 (by omega) h2 hnf bz with⟨h4,_⟩|⟨_,h4⟩
   ·omega
   simp_all
 refine⟨q,hq,fun k h1 h2=>.inl (hw k h1 h2),fun h1=>⟨(lY h1).1,fun h2=>h2.elim (lY h1).2 fun e=>hnw (e▸(lY h1).1)⟩,fun id=>⟨fun h1=>?_,fun h1=>?_⟩⟩
 ·simp only[bE.hp];by_cases h2:Of rid i id
  ·have hn:¬nI rid S id:=fun h3=>h3.CT (by omega) hS h2;have e1:H i id=none:=Classical.not_not.1 fun bz=>by
    obtain⟨j,h3,h4,_⟩:=D.names i (by omega) id bz (h2.parts (by omega)).1
    grind [w9]
   have e2:H (i+1) id=Heap.get os id:=by
    grind [bE.hp,Heap.get,id]
   have e3:H q id=H (i+1) id:=D.BL q hiq hq (fun k h3 h4=>D.calm dj hnf hS hq hw k (by omega) h4) id fun k h3 _ _ h5=>by
    grind [w9]
   grind
  grind [nI,id,H8,Heap.get,absurd]
 grind [nI,id,H8,Of,bE.hp,Heap.get,absurd]
theorem Dr.Yc(D:Dr P Eqs Sg F rid n ops b T H E)(dj:Dj rid ops b T H E S Tc h){i:Nat}{o:Oper}(ho:ops[i]? = some o)(hS:¬S i)(hb:∀j,tU b i j→S j){v:AV}{h':Heap}(hE:E i=some (.wr v h')) :
  (∀hh:Heap,(∀id,hh.get id=if uN rid (b.getD i 0) id then H i id else none)→hh.get=h) ∧
  ∃q,q≤ops.size∧(∀k,k<q→C0 E k→S k∨k=i)∧(q<ops.size→C0 E q∧¬(S q∨q=i))∧∀id,(nI rid (fun k=>S k∨k=i) id→h'.get id=H q id)∧(¬nI rid (fun k=>S k∨k=i) id→h'.get id=none):=by
 obtain⟨q,hq,hw,lY,lW⟩:=dj.heap;have TO:=D.size;have rB:=(abI.1 ho).1;have ZO:C0 E i:=⟨v,h',hE⟩;have hnf:=D.TN rB ZO;obtain⟨s,hh0,_,_,_,h4,_,_,h7⟩:=D.Ya ho hE;simp only[hZ,Bool.and_eq_true]at h4;have hqi:q=i:=by
  rcases Nat.lt_trichotomy q i with h1|h1|h1
  ·obtain⟨h2,h3⟩:=lY (by omega);rcases D.C1 rB ZO (D.TN (by omega) h2) (by omega) with⟨_,h5⟩|⟨h5,_⟩
   ·simp_all
   ·omega
  ·exact h1
  simp_all
 subst hqi;have own:∀id,H q id≠none→nI rid (tU b q) id:=fun id bz TP=>by
  obtain⟨j,h1,h2,h2',h3⟩:=D.names q hq id bz TP;rw[(h1.parts h2').2];rcases h3 with h3|⟨w',h5,h6,h8⟩
  ·rcases D.C1 rB ZO (D.zg (by omega) h3) (by omega) with⟨_,h9⟩|⟨h9,_⟩
   ·exact h9
   ·omega
  ·have hqw:tU b q w':=by
    rcases D.C1 rB ZO (D.TN (by omega) h6) (by omega) with⟨_,h9⟩|⟨h9,_⟩
    ·exact h9
    ·omega
   rcases h8 with rfl|h8
   ·exact hqw
   ·exact Gy D.TM q w' j rB hqw h8
 refine⟨fun hh ZQ=>?_,?_⟩
 ·grind [id,nI,ob,uN,tU]
 ·obtain⟨q',h1,h2,h3⟩:=TV E (fun k=>S k∨k=q) ops.size;have Xs:q+1≤q':=by
   grind
  have e1:H (q+1)=h'.get:=by rw[h7];rfl
  have E5:∀j,(b.getD q 0 ||| 2 ^ q).testBit j=true→S j∨j=q:=fun j hj=>by rw[Nat.testBit_or,Bool.or_eq_true,Nat.testBit_two_pow]at hj;exact hj.imp (hb j) (fun h=>(of_decide_eq_true h).symm)
  refine⟨q',h1,h2,h3,fun id=>⟨fun h5=>?_,fun h5=>?_⟩⟩
  ·rw[D.BL q' Xs h1 (fun k h6 h8 h9=>?_) id (fun k h6 h8 h9 qg=>?_),e1]
   ·have hk:=h2 k h8 h9;have TQ:S k:=hk.resolve_right (by omega);rcases D.C1 (by omega) h9 hnf (by omega) with⟨_,E2⟩|⟨E2,_⟩
    ·exact hS (dj.closed k q TQ E2)
    ·omega
   ·have hk:=h5 (qg.parts (by omega)).1;rw[(qg.parts (by omega)).2]at hk;have TQ:S k:=hk.resolve_right (by omega);rcases D.C1 rB ZO (D.zg (by omega) h9) (by omega) with⟨E2,_⟩|⟨_,E2⟩
    ·omega
    ·exact hS (dj.closed k q TQ E2)
  ·cases bL:h'.get id with
   |none=>rfl
   |some ob=>grind [absurd,mV,id,ob]
end
section
variable {S:Nat→Prop} {Tc:Nat→AV}
theorem Fg{o:Oper}{d:Nat}(h:Operand.tmp d∈o.op.operands):d∈o.looksAt ops :=abG _ (adR.2 ⟨.tmp d,by simpa using h,rfl⟩)
theorem J8{o:Oper}{j d:Nat}{want:Bool}(hg:o.guard=some (j,want))(hd:(ops[j]?).bind (·.dst)=some d):d∈o.looksAt ops:=by
 grind [Oper.looksAt,List.mem_append_right]
theorem Dr.wanted(D:Dr P Eqs Sg F rid n ops b T H E)(dj:Dj rid ops b T H E S Tc h){a:Act}{i:Nat}{o:Oper}(ho:ops[i]? = some o)(hS:¬S i)(hb:∀j,tU b i j→S j)(t:cT Z ψ h w n Tc a){c:Bool}(hw:rz ops (T i) o c) :
  Region.wanted o (yielded ops a.tmps)=c:=by
 unfold rz at hw
 split at hw
 ·grind [Region.wanted]
 ·rename_i j want hg;obtain⟨d,hd,hc⟩:=hw;have e:=D.looks dj ho hS hb (J8 hg hd)
  grind [CU,AD]
theorem Dr.M0(D:Dr P Eqs Sg F rid n ops b T H E)(V:Env P Eqs Sg F){i:Nat}{o:Oper}{a:Act}(ho:ops[i]? = some o)(hS:¬S i)(hb:∀j,tU b i j→S j)(dj:Dj rid ops b T H E S Tc h)(j:J (nI rid S) n Z0 w0 O ψ0 Z ψ Tc h a w) {K:Act→World→Prop} {Q:Exit→Act→World→Prop} (hk:∀Tc' h' a' w' Z' ψ',Dj rid ops b T H E (fun k=>S k∨k=i) Tc' h'→J (nI rid fun k=>S k∨k=i) n Z0 w0 O ψ0 Z' ψ' Tc' h' a' w'→K a' w'):wpOp P ops Q i K a w:=by
 have rB:=(abI.1 ho).1;have TO:=D.size;have Xw:=D.ajI i o ho;have aO:∀k,(S k∨k=i)→k<ops.size:=fun k hk=>hk.elim (dj.lt k) (fun e=>e▸rB);have E4:∀k j,(S k∨k=i)→tU b k j→S j∨j=i:=fun k j hk hj=>.inl (hk.elim (fun h=>dj.closed k j h hj) (fun e=>hb j (e▸hj)));unfold wpOp;rw[ho];simp only[]
 cases hE:E i with
 |none =>obtain⟨h1,h2,h3⟩:=D.H6 ho hE;rw[D.wanted dj ho hS hb j.tr h1];simp only[Bool.false_eq_true,if_false];obtain⟨t1,t2⟩:=D.TU dj ho hS h2;refine hk _ h _ w Z ψ ⟨aO,E4,D.J7 dj rB hS (fun⟨v,os,h⟩=>by rw[hE]at h;cases h) (fun⟨v,os,h⟩=>by rw[hE]at h;cases h),t1,t2⟩ (j.skip Xw fun id hp hr=>.inl (hp hr))
 |some e =>
  obtain⟨s,hh,h1,h2,h3,h4,h5,h6,h7⟩:=D.Ya ho hE;rw[D.wanted dj ho hS hb j.tr h5];simp only[if_true];refine .inl ?_;obtain⟨t1,t2⟩:=D.TU dj ho hS h6;have hT:∀x∈o.op.operands,az Z ψ h w (ρ s x) (a.eval x)∧aJ (nI rid S) (ρ s x):=fun x hx=>by
   cases x with
   |tmp d =>
    have e1:look s d=Tc d:=by rw[h1];exact(D.looks dj ho hS hb (Fg hx)).symm
    simp only[ρ,e1];exact⟨j.tr.rep d,j.tm d⟩
   |const v=>exact⟨JB v,CS _ v⟩
   |global g=>exact⟨by simp only[ρ,az],by simp only[ρ,aJ]⟩
   |func f=>exact⟨by simp only[ρ,az,au,Act.eval];exact⟨#[],rfl,rfl⟩,by simp only[ρ,aJ,aC]⟩
  have qL:=CW (hh:=[]) j.hm (fun k hk=>hb k hk) h4;obtain⟨e0,h3,Gz,vF⟩:=h3
  cases e0 with
  |wr v0 Xn =>simp only[ig]at Gz;subst Gz;have mK:=D.Yc dj ho hS hb hE;have ZQ:=mK.1 hh h2;subst ZQ;refine J.opF V (rid:=rid) (i:=i) (fun _ id hp=>hp.CT (by omega) hS) j Xw (fun x hx=>(hT x hx).1) (fun x hx=>(hT x hx).2) h3 vF (p':=nI rid fun k=>S k∨k=i) (fun id hp hr=>.inl (hp hr)) qL.1 qL.2 fun a' w' Z' ψ' j' => ?_;exact hk _ _ a' w' Z' ψ' ⟨aO,E4,mK.2,t1,t2⟩ j'
  |val v0 =>
   simp only[ig]at Gz;subst Gz;have ajN:∃hh':Heap,(∀id o,hh'.get id=some o→h id=some o)∧cZ P Eqs Sg F (opId rid i) hh' s o some=some (.val v0):=by
    cases hf:oD o.op with
    |true=>exact⟨[],fun id o h=>by simp[Heap.get]at h,by rw[QQ hf (h':=iu hh (ic ops b i s o))];exact h3⟩
    |false =>
     cases SA:jg o.op with
     |some x =>
      have QW:tB ops b i s o=false:=by
       cases hq:tB ops b i s o with
       |false=>rfl
       |true=>unfold ic at vF;rw[(ze SA).2,hq]at vF;simp[mG]at vF
      have hft:ic ops b i s o=[]:=by unfold ic;rw[(ze SA).2,QW];rfl
      rw[hft]at h3;have h3':cZ P Eqs Sg F (opId rid i) hh s o some=some (.val v0):=h3;have sD:∀id,(fL (k9 (ρ s x)) hh []).get id=if id∈k9 (ρ s x) then hh.get id else none:=fun id=>by
       rw[lq]
       split
       ·cases hh.get id<;>rfl
       ·rfl
      refine⟨fL (k9 (ρ s x)) hh [],fun id ob bL=>?_,?_⟩
      ·rw[sD]at bL
       split at bL
       ·rename_i hm;exact D.QX dj ho SA hS hb h1 QW h2 id hm ob bL
       ·cases bL
      ·rw[MY SA (hh:=hh) (fun id hm=>by rw[sD,if_pos hm])];exact h3'
     |none=>exact⟨_,fun id ob bL=>D.seen dj ⟨o,ho,hf,SA⟩ hS hb h2 id ob (by rw[pw]at bL;split at bL;cases bL;exact bL),h3⟩
   obtain⟨hh',M1,Qw⟩:=ajN;refine J.op V (rid:=rid) (i:=i) (fun _ id hp=>hp.CT (by omega) hS) j Xw (fun x hx=>(hT x hx).1) (fun x hx=>(hT x hx).2) M1 Qw (fun v hw he=>by cases he) (p':=nI rid fun k=>S k∨k=i) (fun id hp hr=>.inl (hp hr)) qL.1 qL.2 fun a' w' Z' ψ' j' => ?_;exact hk _ _ a' w' Z' ψ' ⟨aO,E4,D.J7 dj rB hS (fun⟨v,os,h⟩=>by rw[hE]at h;cases h) (fun⟨v,os,h⟩=>by rw[hE]at h;cases h),t1,t2⟩ j'
  |new v0 os =>simp only[ig]at Gz;subst Gz;have hnf:=D.zg rB ⟨v0,os,hE⟩;have M1:∀id ob,(iu hh (ic ops b i s o)).get id=some ob→h id=some ob:=fun id ob bL=>D.seen dj hnf hS hb h2 id ob (by rw[pw]at bL;split at bL;cases bL;exact bL);refine J.op V (rid:=rid) (i:=i) (fun _ id hp=>hp.CT (by omega) hS) j Xw (fun x hx=>(hT x hx).1) (fun x hx=>(hT x hx).2) M1 h3 (fun v hw he=>by cases he) (p':=nI rid fun k=>S k∨k=i) (fun id hp hr=>.inl (hp hr)) qL.1 qL.2 fun a' w' Z' ψ' j' => ?_;exact hk _ _ a' w' Z' ψ' ⟨aO,E4,D.TW dj ho hS hb hE,t1,t2⟩ j'
theorem Dr.done(D:Dr P Eqs Sg F rid n ops b T H E)(dj:Dj rid ops b T H E S Tc h)(jN:∀k,k<ops.size→S k):Tc=T ops.size∧h=H ops.size:=by
 constructor
 ·funext d;by_cases hex:∃(j:Nat) (oj:Oper),ops[j]? = some oj∧oj.dst=some d
  ·obtain⟨j,oj,hj,hd⟩:=hex;have ME:=(abI.1 hj).1;rw[dj.TR j oj d (jN j ME) hj hd,D.H7 hj hd ops.size (Nat.le_refl _) ME]
  ·rw[dj.told d fun j o' _ rY TT=>hex ⟨j,o',rY,TT⟩,D.w7 ops.size (Nat.le_refl _) fun k o' _ rY TT=>hex ⟨k,o',rY,TT⟩]
 ·obtain⟨q,hq,_,lY,lW⟩:=dj.heap;have:q=ops.size:=by
   grind
  subst this;funext id;by_cases tS:nI rid S id
  ·simp_all
  ·rw[(lW id).2 tS]
   symm
   apply Classical.not_not.1;intro bz;apply tS;intro hr;obtain⟨j,h1,h2,h3,_⟩:=D.names ops.size (acb _) id bz hr;rw[(h1.parts h3).2];simp_all
def mW(m:Nat)(cx:Array Bool):Nat:=((List.range m).filter fun i => !cx.getD i false).length
theorem H9{m:Nat}{cx:Array Bool}{i:Nat}(hi:i<m)(hs:i<cx.size)(hn:cx.getD i false=false):mW m cx=mW m (cx.setIfInBounds i true)+1:=by
 unfold mW;have key:∀(l:List Nat),l.Nodup→i∈l→(l.filter fun k => !cx.getD k false).length=(l.filter fun k => !(cx.setIfInBounds i true).getD k false).length+1:=by
  intro l
  induction l with
  |nil=>simp_all
  |cons a r ih =>
   intro E9 hm;rw[List.nodup_cons]at E9;rcases abz.1 hm with rfl|hm
   ·have h2:(r.filter fun k => !cx.getD k false)=(r.filter fun k => !(cx.setIfInBounds i true).getD k false):=by apply List.filter_congr;intro k hk;have bz:i≠k:=fun e=>E9.1 (e▸hk);simp_all
    simp_all
   ·have bz:i≠a:=fun e=>E9.1 (e▸hm);rw[List.filter_cons,List.filter_cons,getD_set_ne false bz]
    grind
 grind
theorem Dr.any(D:Dr P Eqs Sg F rid n ops b T H E)(V:Env P Eqs Sg F){Q:Exit→Act→World→Prop}(hQ:∀Z ψ a w,J (nI rid fun k=>k<ops.size) n Z0 w0 O ψ0 Z ψ (T ops.size) (H ops.size) a w→Q .normal a w) :
  ∀(fuel:Nat) (cx:Array Bool) (Tc:Nat→AV) (h:Hp) (a:Act) (w:World) (Z:Nat→Prop) (ψ:Nat→Value),cx.size=ops.size→mW ops.size cx=fuel → Dj rid ops b T H E (fun k=>cx.getD k false=true) Tc h→J (nI rid fun k=>cx.getD k false=true) n Z0 w0 O ψ0 Z ψ Tc h a w→wpAny P .any ops Q fuel cx a w
 |0,cx,Tc,h,a,w,Z,ψ,hs,hu,dj,j=>by
  have jN:∀k,k<ops.size→cx.getD k false=true:=fun k hk=>by unfold mW at hu;have:=List.filter_eq_nil_iff.1 (abN hu) k (adf.2 hk);simpa using this
  refine⟨?_,?_⟩
  ·apply List.eq_nil_iff_forall_not_mem.2;intro i hi;obtain⟨h1,o,h2,_⟩:=mem_ready.1 hi;have h3:=(abI.1 h2).1;have h4:=jN i h3;rw[Array.getD_eq_getD_getElem?,Array.getElem?_eq_getElem (by omega)]at h1 h4;simp at h1 h4;rw[h1]at h4;cases h4
  ·obtain⟨e1,e2⟩:=D.done dj jN;subst e1;subst e2;refine hQ Z ψ a w ⟨j.ok,j.tr,fun d=>(j.tm d).imp fun id h1 h2=>dj.lt _ (h1 h2),fun id ty cs hb=>(j.hm id ty cs hb).imp fun id h1 h2=>dj.lt _ (h1 h2)⟩
 |fuel+1,cx,Tc,h,a,w,Z,ψ,hs,hu,dj,j=>by
  have look:∀i,i<ops.size→cx.getD i true=cx.getD i false:=fun i hi=>by rw[Array.getD_eq_getD_getElem?,Array.getD_eq_getD_getElem?,Array.getElem?_eq_getElem (by omega)];rfl
  refine⟨fun hr=>?_,fun i hi=>?_⟩
  ·exfalso;have hex:∃i,i<ops.size∧cx.getD i false=false:=by
    apply Classical.byContradiction;intro hn;unfold mW at hu;rw[List.filter_eq_nil_iff.2]at hu
    ·simp at hu
    ·intro k hk;have:=fun h=>hn ⟨k,adf.1 hk,h⟩
     cases hl:cx.getD k false with
     |true=>simp
     |false=>exact absurd hl this
   have key:∀i,i<ops.size→cx.getD i false=false→False:=by
    intro i
    induction i using Nat.strongRecOn with
    |ind i ih =>
     intro hi hl;have jo:i∈Region.ready .any ops cx:=by
      refine mem_ready.2 ⟨by rw[look i hi];exact hl,_,acr hi,fun e he SB=>?_⟩;have hon:=MX D.TM (acr hi) (by simpa using he) SB
      cases hle:cx.getD e.on false with
      |true=>rfl
      |false=>exact(ih e.on hon (by omega) hle).elim
     rw[hr]at jo;cases jo
   obtain⟨i,h1,h2⟩:=hex;exact key i h1 h2
  ·obtain⟨h1,o,ho,jN⟩:=mem_ready.1 hi;have rB:=(abI.1 ho).1;have hn:cx.getD i false=false:=by rw[←look i rB];exact h1
   have hS:¬(cx.getD i false=true):=by rw[hn];simp
   have hb:∀k,tU b i k→cx.getD k false=true:=fun k hk=>by
    obtain⟨e,he,SB,h2⟩:=(BJ D.TM ho).1 hk;have h3:=jN e (by simpa using he) SB;rcases h2 with rfl|h2
    ·exact h3
    ·exact dj.closed e.on k h3 h2
   refine D.M0 V ho hS hb dj j fun Tc' h' a' w' Z' ψ' dj' j' => ?_;have heq:(fun k=>cx.getD k false=true∨k=i)=(fun k=>(cx.setIfInBounds i true).getD k false=true):=by
    funext k;apply propext;by_cases e:i=k
    ·subst e;simp[show i<cx.size by omega]
    ·rw[getD_set_ne false e];constructor
     ·rintro(h|h)
      ·exact h
      ·exact absurd h.symm e
     ·exact .inl
   rw[heq]at dj' j';exact D.any V hQ fuel _ Tc' h' a' w' Z' ψ' (by simpa using hs) (by have:=H9 rB (by omega) hn;omega) dj' j'
end
end Go.Vs
namespace Go.Vs
variable {P:Program} {Eqs:TypeId→Option K} {Sg:FuncId→Option aN} {F:(f:FuncId)→(g:aN)→g.A→Option g.B} {R:Type}
variable {Z Z' Z0:Nat→Prop} {ψ ψ' ψ0:Nat→Value} {h h':Hp} {w w' w0:World} {B0:Nat} {O N:Nat→Prop}
theorem C4(f:AV→AV)(hf:f .no=.no):∀(l:List (Nat×AV)) (d:Nat),look (l.map fun p=>(p.1,f p.2)) d=f (look l d)
 |[],d=>by simp[look,hf]
 |(i,v)::r,d=>by
  simp only[List.map_cons,look]
  split
  ·rfl
  simp_all [C4]
section
variable {rid:Nat}
mutual
theorem zh:∀{a:AV} {v:Value},az Z ψ h w a v→az Z ψ h w (bN rid a) v
 |.ref id s i off,v,hr=>by
  simp only[bN]
  split
  ·simp only[az]
  ·exact hr
 |.bK id,v,hr=>by
  simp only[bN]
  split
  ·simp only[az]
  ·exact hr
 |.fn f cap,v,hr=>by simp only[bN,az]at hr ⊢;obtain⟨vs,e,hl⟩:=hr;exact⟨vs,e,mX hl⟩
 |.agg cs,v,hr=>by simp only[bN,az]at hr ⊢;obtain⟨vs,e,hl⟩:=hr;exact⟨vs,e,mX hl⟩
 |.oz cs,v,hr=>by simp only[bN,az]at hr ⊢;obtain⟨vs,e,hl⟩:=hr;exact⟨vs,e,mX hl⟩
 |.no,v,hr=>by simpa only[bN] using hr
 |.bool _,v,hr=>by simpa only[bN] using hr
 |.int _ _,v,hr=>by simpa only[bN] using hr
 |.str _,v,hr=>by simpa only[bN] using hr
 |.l8,v,hr=>by simpa only[bN] using hr
 |.fW,v,hr=>by simpa only[bN] using hr
 |.fp _ _ _,v,hr=>by simpa only[bN] using hr
 |.sl _ _ _,v,hr=>by simpa only[bN] using hr
 |.mp _ _ _,v,hr=>by simpa only[bN] using hr
theorem mX:∀{a:List AV} {v:List Value},au Z ψ h w a v→au Z ψ h w (mH rid a) v
 |[],v,hr=>by simpa only[mH] using hr
 |x::r,v,hr=>by simp only[mH,au]at hr ⊢;obtain⟨u,us,e,h1,h2⟩:=hr;exact⟨u,us,e,zh h1,mX h2⟩
end
mutual
theorem qM:∀(a:AV),aJ (nI rid fun _=>False) (bN rid a)
 |.ref id s i off=>by
  simp only[bN]
  split
  ·simp only[aJ]
  ·rename_i hn;simp only[aJ];exact fun h=>absurd h hn
 |.bK id=>by
  simp only[bN]
  split
  ·simp only[aJ]
  ·rename_i hn;simp only[aJ];exact fun h=>absurd h hn
 |.fn f cap=>by simp only[bN,aJ];exact jB cap
 |.agg cs=>by simp only[bN,aJ];exact jB cs
 |.oz cs=>by simp only[bN,aJ];exact jB cs
 |.no=>by simp only[bN,aJ]
 |.bool _=>by simp only[bN,aJ]
 |.int _ _=>by simp only[bN,aJ]
 |.str _=>by simp only[bN,aJ]
 |.l8=>by simp only[bN,aJ]
 |.fW=>by simp only[bN,aJ]
 |.fp _ _ _=>by simp only[bN,aJ]
 |.sl _ _ _=>by simp only[bN,aJ]
 |.mp _ _ _=>by simp only[bN,aJ]
theorem jB:∀(a:List AV),aC (nI rid fun _=>False) (mH rid a)
 |[]=>by simp only[mH,aC]
 |x::r=>by simp only[mH,aC];exact⟨qM x,jB r⟩
end
theorem get_map(f:Ob→Ob):∀(hh:Heap) (i:Nat),Heap.get (hh.map fun p=>(p.1,f p.2)) i=(hh.get i).map f
 |[],i=>rfl
 |(j,o)::r,i=>by
  simp only[List.map_cons,Heap.get]
  split
  ·rfl
  ·exact get_map f r i
def oa(rid:Nat)(hh:Heap):Heap:=(hh.filter fun p=>p.1 / 32768 != rid+1).map fun p=>(p.1,Ci rid p.2)
theorem QY(hh:Heap)(i:Nat):(oa rid hh).get i=if i / 32768=rid+1 then none else(hh.get i).map (Ci rid):=by
 unfold oa;rw[get_map (Ci rid),get_filter (fun i=>i / 32768 != rid+1)]
 grind
theorem jr{hh:Heap}{i:Nat}{o:Ob}(hg:(oa rid hh).get i=some o):i / 32768≠rid+1∧∃o',hh.get i=some o'∧o=Ci rid o':=by
 rw[QY]at hg
 split at hg
 ·cases hg
 ·rename_i hn
  cases h0:hh.get i with
  |none=>simp_all
  |some o'=>simp_all
theorem ly{hh:Heap}{i:Nat}(hg:(oa rid hh).get i≠none):hh.get i≠none:=by
 obtain⟨o,ho⟩:=abK.1 hg
 grind [jr]
theorem Good.mI{hh:Heap}(g:Good Z ψ hh.get w B0 O):Good Z ψ (oa rid hh).get w B0 O:=by
 refine⟨fun id ty cs hb=>?_,fun id ok xs hb=>?_,fun id b h1 h2=>g.live id b (ly h1) h2,fun id oZ b h1 h2 h3 h4=>g.apart id oZ b (ly h1) (ly h2) h3 h4,g.kx⟩
 ·obtain⟨_,o',h1,h2⟩:=jr hb
  cases o' with
  |own ok xs=>cases h2
  |box Jh cs' =>
   cases h2
   obtain⟨gg,vs,h3,h4,h5,h6⟩:=g.box id ty cs' h1;exact⟨gg,vs,h3,h4,mX (h5.less (fun _ h=>h) (cr.refl _ _) fun i hi=>⟨ly hi,rfl⟩),h6⟩
 ·obtain⟨_,o',h1,h2⟩:=jr hb
  cases o' with
  |own XM xs'=>cases h2;exact g.row id _ _ h1
  |box Jh cs'=>cases h2
theorem Ok.sub{hp:Hp}(k:Ok Z0 w0 O ψ0 Z ψ h w)(g:Good Z ψ hp w w0.heap.size O)(hn:∀id,hp id≠none→h id≠none):Ok Z0 w0 O ψ0 Z ψ hp w :=⟨g,k.gy,k.fb,k.os,k.tape,k.output,k.size,k.block,fun i hi bz=>k.fix i hi (hn i bz)⟩
end
theorem Good.C5(g:Good Z ψ h w B0 O)(e:w'.heap=w.heap):Good Z ψ h w' B0 O:=by
 have sm:cr Z w w':=fun b _=>by rw[e]
 refine⟨fun id ty cs hb=>?_,fun id ok xs hb=>?_,g.live,g.apart,fun b hb=>by rw[e];exact g.kx b hb⟩
 ·obtain⟨gg,vs,h1,h2,h3,h4⟩:=g.box id ty cs hb;exact⟨gg,vs,h1,by simp_all,h3.less (fun _ h=>h) sm (fun i hi=>⟨hi,rfl⟩),h4⟩
 ·exact(g.row id ok xs hb).kept (fun _ h=>h) sm (fun gg _=>by rw[e])
theorem Ok.C5(k:Ok Z0 w0 O ψ0 Z ψ h w)(e:w'.heap=w.heap)(e1:w'.os=w.os)(e2:w'.tape=w.tape)(e3:w'.output=w.output):Ok Z0 w0 O ψ0 Z ψ h w' :=⟨k.dA.C5 e,k.gy,k.fb,e1.trans k.os,e2.trans k.tape,e3.trans k.output,by rw[e];exact k.size,fun b hb ho=>by rw[e];exact k.block b hb ho,k.fix⟩
theorem cT.C5{n:Nat}{T:Nat→AV}{a:Act}(t:cT Z ψ h w n T a)(e:w'.heap=w.heap):cT Z ψ h w' n T a :=⟨fun d=>(t.rep d).less (fun _ h=>h) (fun b _=>by rw[e]) (fun i hi=>⟨hi,rfl⟩),t.size,t.defers⟩
theorem Ia(V:Env P Eqs Sg F)(hm:P.follows .mixedOrders=true){n rid:Nat}{ops:Array Oper}{draw:Bool}{st:St}{kk:St→Option R}{r:R}{a:Act}{Q:Exit→Act→World→Prop} (hx:ji P Eqs Sg F n rid ops draw st kk=some r) (k:Ok Z0 w0 O ψ0 Z ψ st.heap.get w) (t:cT Z ψ st.heap.get w n (look st.tmps) a) (hQ:∀fe Z ψ a w,kk fe=some r→Ok Z0 w0 O ψ0 Z ψ fe.heap.get w→cT Z ψ fe.heap.get w n (look fe.tmps) a→Q .normal a w):(Code.region rid ops draw).wp P Q a w:=by
 obtain⟨b,hbe,hx⟩:∃b,b=(if draw then Region.before ops else #[])∧(if(ops.all fun o=>jh n o)&&(!draw || (wF ops b&&(Cg ops b&&cf (ops.toList.filterMap (·.dst)))))&&decide (ops.size≤128) then
  bI P Eqs Sg F rid draw ops b (ops.toList.zipIdx.map fun p=>(p.2,p.1)) (mI draw rid ops st) kk else none)=some r:=⟨_,rfl,hx⟩
 split at hx
 ·rename_i hc;simp only[Bool.and_eq_true,decide_eq_true_eq]at hc;obtain⟨⟨nJ,hdr⟩,iW⟩:=hc;have GA:∀(i:Nat) (o:Oper),ops[i]? = some o→jh n o=true:=fun i o ho=>adp.1 nJ o (adv ho);have pk:Ok Z0 w0 O ψ0 Z ψ (oa rid st.heap).get w:=k.sub k.dA.mI fun id=>ly;have pt:cT Z ψ (oa rid st.heap).get w n (fun d=>bN rid (look st.tmps d)) a :=⟨fun d=>zh ((t.rep d).less (fun _ h=>h) (cr.refl _ _) fun i hi=>⟨ly hi,rfl⟩),t.size,t.defers⟩;have pm:vf (nI rid fun _=>False) (oa rid st.heap).get:=fun i ty cs hb=>by
   obtain⟨_,o',h1,h2⟩:=jr hb
   cases o' with
   |own ok xs=>cases h2
   |box Jh cs'=>cases h2;exact jB cs'
  have Ow:look (st.tmps.map fun p=>(p.1,bN rid p.2))=fun d=>bN rid (look st.tmps d):=funext fun d=>C4 (bN rid) (by rfl) st.tmps d
  cases draw with
  |false =>
   refine wp_region ?_;rw[←Gv ops]
   cases X9:ops.any (makes ·.op) with
   |false =>
    have hp:mI false rid ops st=st:=by grind [mI]
    rw[hp]at hx;refine mu V (rid:=rid) (n:=n) (b:=_) false (fun _ i o ho=>?_) iW GA hQ _ 0 st Z ψ a w (pz ops) hx ⟨k,t,fun d=>?_,fun i ty cs hb=>?_⟩
    ·grind
    ·exact(aJ.top _).imp fun id _ h=>by cases h
    ·exact(aC.top _).imp fun id _ h=>by cases h
   |true =>
    have hp:mI false rid ops st={ tmps:=st.tmps.map fun p=>(p.1,bN rid p.2),heap:=oa rid st.heap }:=by unfold mI;rw[X9];rfl
    rw[hp]at hx;refine mu V (rid:=rid) (n:=n) (b:=_) true (fun h=>by cases h) iW GA hQ _ 0 _ Z ψ a w (pz ops) hx ⟨pk,by simp_all,fun d=>?_,fun i ty cs hb=>?_⟩
    ·rw[Ow];exact(qM _).imp fun id h1 _ h2=>(h1 h2).elim
    ·exact(pm i ty cs hb).imp fun id h1 _ h2=>(h1 h2).elim
  |true =>
   have hp:mI true rid ops st={ tmps:=st.tmps.map fun p=>(p.1,bN rid p.2),heap:=oa rid st.heap }:=by rfl
   rw[hp]at hx;simp only[Bool.not_true,Bool.false_or,Bool.and_eq_true]at hdr;obtain⟨ajP,aek,E9⟩:=hdr;refine wp_region_any hm ?_;obtain⟨T,H,E,h1,h2,h3,fe,h4,h5,h6⟩:=trace (kk:=kk) (r:=r) (ops.toList.zipIdx.map fun p=>(p.2,p.1)) 0 _ (pz ops) (by simp) hx;rw[Ow]at h1;have D:Dr P Eqs Sg F rid n ops b T H E:=⟨iW,ajP,aek,GA,E9,fun k o ho=>h3 k o (adl _) ho,fun id bL=>by rw[h2]at bL;obtain⟨o,ho⟩:=abK.1 bL;exact(jr ho).1⟩;have Ox:∀k,¬((Array.replicate ops.size false).getD k false=true):=fun k hk=>by
    rw[Array.getD_eq_getD_getElem?,Array.getElem?_replicate]at hk
    grind
   rw[show max 0 ops.size=ops.size by omega]at h5 h6;have w2:({ w with drawn:=w.drawn+1 }:World).heap=w.heap:=rfl;refine D.any V (Z0:=Z0) (w0:=w0) (O:=O) (ψ0:=ψ0) (fun Z ψ a w j=>hQ fe Z ψ a w h4 (by rw[h6];exact j.ok) (by rw[h5,h6];exact j.tr)) ops.size _ (T 0) (H 0) a _ Z ψ (by simp) ?_ ?_ ?_
   ·grind [mW,List.filter_eq_self,List.length_range]
   ·refine⟨fun i hi=>(Ox i hi).elim,fun i j hi=>(Ox i hi).elim,?_,fun j o d hj=>(Ox j hj).elim,fun d _=>rfl⟩;obtain⟨q,hq1,hq2,hq3⟩:=TV E (fun k=>(Array.replicate ops.size false).getD k false=true) ops.size;refine⟨q,hq1,hq2,hq3,fun id=>⟨fun tS=>?_,fun tS=>?_⟩⟩
    ·symm
     refine D.BL q (adl _) hq1 (fun k _ hk hw=>(Ox k (hq2 k hk hw)).elim) id fun k _ hk _ ho=>?_;have:=tS (ho.parts (by omega)).1;simp_all
    ·rw[h2];apply Classical.not_not.1;intro bz;obtain⟨o,ho⟩:=abK.1 bz;exact tS fun hr=>absurd hr (jr ho).1
   ·rw[h1,h2];refine⟨pk.C5 w2 rfl rfl rfl,pt.C5 w2,fun d=>(qM _).imp fun id h3 h4=>(h3 h4).elim,fun i ty cs hb=>(pm i ty cs hb).imp fun id h3 h4=>(h3 h4).elim⟩
 ·cases hx
end Go.Vs
