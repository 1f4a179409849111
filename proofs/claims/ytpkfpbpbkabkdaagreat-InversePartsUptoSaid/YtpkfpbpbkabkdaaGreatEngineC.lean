/- The value semantics is sound, at calls and in regions. -/
import Derived.Test.YtpkfpbpbkabkdaaGreatEngineB
import Derived.Maps.RangeRun
import Derived.ChangeMaps
set_option linter.unusedSimpArgs false
set_option linter.unusedVariables false
namespace Go.Vs
variable {P:Program} {Z Z':Nat→Prop} {ψ ψ':Nat→Value} {h h':Hp} {w w':World} {B0:Nat} {O:Nat→Prop} {N:Nat→Prop}
theorem fq:∀(k:K) (x:k.T),(enc k x).length=k.sz
 |.int _,_=>rfl
 |.bool,_=>rfl
 |.str,_=>rfl
 |.sl _,_=>rfl
 |.mp _ _,_=>rfl
 |.pair a b,x=>by simp only[enc,List.length_append,K.sz];rw[fq a,fq b]
 |.one k,x=>by simp only[enc,K.sz];exact fq k x
theorem qW(hh:Heap):∀(k:K) (x:k.T),(enc k x).map (cM hh)=enc k x
 |.int _,_=>rfl
 |.bool,_=>rfl
 |.str,_=>rfl
 |.sl _,_=>rfl
 |.mp _ _,_=>rfl
 |.pair a b,x=>by simp only[enc,List.map_append];rw[qW hh a,qW hh b]
 |.one k,x=>by simp only[enc];exact qW hh k x
theorem lR:∀(k:K) (x:k.T) (id:Nat),AV.bH id∉enc k x
 |.int _,_,_=>by simp[enc]
 |.bool,_,_=>by simp[enc]
 |.str,_,_=>by simp[enc]
 |.sl _,_,_=>by simp[enc]
 |.mp _ _,_,_=>by simp[enc]
 |.pair a b,x,id=>by
  simp only[enc,List.mem_append]
  rintro(h|h)
  ·exact lR a _ id h
  ·exact lR b _ id h
 |.one k,x,id=>by simp only[enc];exact lR k x id
theorem wK{hh:Heap}{ok:OK}{n:Nat}{xs:ok.T}(hg:hh.get n=some (.own ok xs)):dS hh ok (.bH n)=some xs:=by
 simp[dS,hg]
theorem py{hh:Heap}:∀(dt:List CK) (n:Nat) (x:qA dt),(∀e∈bg dt n x,hh.get e.1=some e.2)→cO dt hh (aD dt n x)=some x
 |[],n,x,_=>rfl
 |.val k::r,n,x,hg=>by
  have h1:(aD (.val k::r) n x).take k.sz=enc k x.1:=by simp only[aD];rw[←fq k x.1,List.take_left]
  have h2:(aD (.val k::r) n x).drop k.sz=aD r (n+1) x.2:=by simp only[aD];rw[←fq k x.1,List.drop_left]
  have e:cO (.val k::r) hh (aD (.val k::r) n x)=(match dG k (((aD (.val k::r) n x).take k.sz).map (cM hh)),cO r hh ((aD (.val k::r) n x).drop k.sz) with
   |some x,some y=>some ((x,y):k.T×qA r)
   |_,_=>none):=by generalize aD (.val k::r) n x=l;cases l<;>rfl
  have h4:dG k (((aD (.val k::r) n x).take k.sz).map (cM hh))=some x.1:=by
   rw[h1];exact(congrArg (dG k) (qW hh k x.1)).trans (tS k x.1)
  have h5:cO r hh ((aD (.val k::r) n x).drop k.sz)=some x.2:=by
   rw[h2];exact py r (n+1) x.2 hg
  rw[e]
  generalize dG k (((aD (.val k::r) n x).take k.sz).map (cM hh))=o1 at h4 ⊢
  generalize cO r hh ((aD (.val k::r) n x).drop k.sz)=o2 at h5 ⊢
  subst h4;subst h5;rfl
 |.own ok::r,n,x,hg=>by
  simp only[bg]at hg
  have h1:=wK (hg _ List.mem_cons_self)
  have h2:=py r (n+1) x.2 (fun e he=>hg e (List.mem_cons_of_mem _ he))
  have e:cO (.own ok::r) hh (aD (.own ok::r) n x)=(match dS hh ok (.bH n),cO r hh (aD r (n+1) x.2) with
   |some x,some y=>some ((x,y):ok.T×qA r)
   |_,_=>none):=rfl
  rw[e,h1,h2]
  rfl
theorem M5{hh:Heap}(b:BK){i n:Nat}{x:b.T}(hg:∀e∈ji b i n x,hh.get e.1=some e.2):qf b hh i=some x:=by
 cases b with
 |box ty c =>
  simp only[ji]at hg
  have h1:Dx hh i ty=some (aD c n x):=by
   unfold Dx
   rw[hg _ List.mem_cons_self]
   simp
  simp only[qf,h1]
  exact py (hh:=hh) c n x (fun e he=>hg e (List.mem_cons_of_mem _ he))
 |own ok=>exact wK (hg _ (by simp only[ji];exact List.mem_cons_self))
theorem yi{hh:Heap}:∀(bs:List BK) (is:List Nat) (n:Nat) (x:wg bs),is.length=bs.length→(∀e∈bA bs is n x,hh.get e.1=some e.2)→c7 bs hh is=some x
 |[],[],n,x,_,_=>rfl
 |[],_::_,n,x,hl,_=>by simp at hl
 |_::_,[],n,x,hl,_=>by simp at hl
 |b::r,i::is,n,x,hl,hg=>by
  simp only[bA]at hg
  have h2:=M5 b (fun e he=>hg e (List.mem_append_left _ he))
  have h3:=yi r is (n+16) x.2 (by simpa using hl) (fun e he=>hg e (List.mem_append_right _ he))
  have e:c7 (b::r) hh (i::is)=(match qf b hh i,c7 r hh is with
    |some x,some y=>some ((x,y):b.T×wg r)
    |_,_=>none):=rfl
  rw[e,h2,h3]
  rfl
theorem wL{i:Nat}{o:Ob}:∀{hh:Heap},cc (hh.map (·.1))=true→(i,o)∈hh→hh.get i=some o
 |[],_,h=>by cases h
 |(j,o')::r,hn,h=>by
  obtain⟨h1,h2⟩:=mL hn
  simp only[Heap.get]
  rcases List.mem_cons.1 h with e|h
  ·cases e;simp
  ·rw[if_neg,wL h2 h]
   rintro rfl
   exact h1 (List.mem_map.2 ⟨_,h,rfl⟩)
theorem zy{hh:Heap}:∀(dt:List CK) (n:Nat) (x:qA dt) (id:Nat),AV.bH id∉qe dt (aD dt n x)
 |[],n,x,id=>by simp[aD,qe]
 |.val k::r,n,x,id=>by
  have h1:(aD (.val k::r) n x).take k.sz=enc k x.1:=by simp only[aD];rw[←fq k x.1,List.take_left]
  have h2:(aD (.val k::r) n x).drop k.sz=aD r (n+1) x.2:=by simp only[aD];rw[←fq k x.1,List.drop_left]
  have e:qe (.val k::r) (aD (.val k::r) n x)=(aD (.val k::r) n x).take k.sz++qe r ((aD (.val k::r) n x).drop k.sz):=by generalize aD (.val k::r) n x=l;cases l<;>rfl
  rw[e,h1,h2,List.mem_append]
  rintro(h|h)
  ·exact lR k x.1 id h
  ·exact zy (hh:=hh) r (n+1) x.2 id h
 |.own ok::r,n,x,id=>by simp only[aD,qe];exact zy (hh:=hh) r (n+1) x.2 id
theorem AT{hh:Heap}:∀(bs:List BK) (is:List Nat) (n:Nat) (x:wg bs) (id:Nat),(∀e∈bA bs is n x,hh.get e.1=some e.2)→AV.bH id∉fW bs hh is
 |[],is,n,x,id,_=>by cases is<;>simp[fW]
 |_::_,[],n,x,id,_=>by simp[fW]
 |b::r,i::is,n,x,id,hg=>by
  simp only[bA]at hg
  simp only[fW,List.mem_append]
  rintro(h|h)
  ·cases b with
   |box ty c =>
    simp only[Ag]at h
    rw[hg (i,.box ty (aD c n x.1)) (List.mem_append_left _ (by simp only[ji];exact List.mem_cons_self))]at h
    exact zy (hh:=hh) c n x.1 id h
   |own ok=>simp[Ag]at h
  ·exact AT r is (n+16) x.2 id (fun e he=>hg e (List.mem_append_right _ he)) h
theorem DK{hh:Heap}:∀(cap:List AV) (is is':List Nat) (vs:List Value),jJ cap=some is→is'.length=is.length→(∀p∈is.zip is',hh.get p.1≠none∧(h' p.2≠none→ψ' p.2=ψ p.1)) →
  an Z ψ hh.get w cap vs→an Z' ψ' h' w (is'.map fun i=>.ref i 0 0 0) vs
 |[],is,is',vs,h1,hl,_,hr=>by
  simp only[jJ]at h1
  cases h1
  cases is' with
  |nil=>simpa only[List.map_nil,an] using hr
  |cons c r=>simp at hl
 |v::cap,is,is',vs,h1,hl,hp,hr=>by
  simp only[jJ]at h1
  split at h1
  ·rename_i i is1 h3 h4
   cases h1
   cases is' with
   |nil=>simp at hl
   |cons c r =>
    simp only[List.zip_cons_cons]at hp
    simp only[List.map_cons,an]at hr ⊢
    obtain⟨u,us,rfl,h7,h8⟩:=hr
    obtain⟨sz,rfl⟩:=pn h3
    obtain⟨h5,h6⟩:=hp _ List.mem_cons_self
    exact⟨u,us,rfl,zw h7 h5 h6,DK cap is1 r us h4 (by simpa using hl) (fun p h=>hp p (List.mem_cons_of_mem _ h)) h8⟩
  ·cases h1
theorem sY:∀(cap:List AV) (is:List Nat),jJ cap=some is→is.length=cap.length
 |[],is,h=>by simp only[jJ]at h;cases h;rfl
 |v::cap,is,h=>by
  simp only[jJ]at h
  split at h
  ·rename_i i is1 h3 h4
   cases h
   simp[sY cap is1 h4]
  ·cases h
theorem sZ:∀(cs:List AV) (is:List Nat),oY cs=some is→is.length=cs.length
 |[],is,h=>by simp only[oY]at h;cases h;rfl
 |c::r,is,h=>by
  cases c<;>simp only[oY]at h<;>first|(cases h;done)|skip
  split at h
  ·rename_i is' h1
   cases h
   simp[sZ r is' h1]
  ·cases h
theorem DL{hh:Heap}:∀(cs:List AV) (is gI:List Nat) (vs:List Value),oY cs=some is→gI.length=is.length→(∀p∈is.zip gI,hh.get p.1≠none∧(h' p.2≠none→ψ' p.2=ψ p.1)) →
  an Z ψ hh.get w cs vs→an Z' ψ' h' w (gI.map .bH) vs
 |[],is,gI,vs,h,hl,hp,hr=>by
  simp only[oY]at h
  cases h
  have:gI=[]:=List.eq_nil_of_length_eq_zero hl
  subst this
  simpa only[List.map_nil,an] using hr
 |c::r,is,gI,vs,h,hl,hp,hr=>by
  cases c<;>simp only[oY]at h<;>first|(cases h;done)|skip
  rename_i i
  split at h
  ·rename_i is' h1
   cases h
   cases gI with
   |nil=>simp at hl
   |cons i' gI =>
    simp only[List.zip_cons_cons]at hp
    obtain⟨h5,h6⟩:=hp _ List.mem_cons_self
    simp only[List.map_cons,an]at hr ⊢
    obtain⟨u,us,rfl,h3,h4⟩:=hr
    refine⟨u,us,rfl,?_,DL r is' gI us h1 (by simpa using hl) (fun p PC=>hp p (List.mem_cons_of_mem _ PC)) h4⟩
    simp only[az]at h3 ⊢
    exact⟨h3.1,fun hn=>(h3.2 h5).trans (h6 hn).symm⟩
  ·cases h
theorem lp{hh:Heap}(g:Good Z ψ hh.get w B0 O)(hz:∀b,Z b→Z' b):∀(ps:List PK) (ids gI:List Nat) (s:Nat) (vs:List AV) (us:List Value) (x:Gp (kN ps)),gI.length=ids.length→cF ps vs=some ids→eQ ps hh vs=some x →
  (∀id b,AV.bH id∈dq ps vs→hh.get id≠none→ob (ψ id)=some b→Z' b)→(∀p∈ids.zip gI,hh.get p.1≠none∧(h' p.2≠none→ψ' p.2=ψ p.1))→an Z ψ hh.get w vs us→an Z' ψ' h' w ((aU ps gI s x).map (·.2)) us
 |[],ids,gI,s,vs,us,x,hl,hi,hv,hf,hp,hr=>by
  cases vs with
  |nil=>simpa only[aU,List.map_nil,an] using hr
  |cons a r=>simp[cF]at hi
 |.val k::ps,ids,gI,s,vs,us,x,hl,hi,hv,hf,hp,hr=>by
  cases vs with
  |nil=>simp[cF]at hi
  |cons a r =>
   simp only[cF]at hi
   simp only[an]at hr
   obtain⟨u,iX,rfl,h3,h4⟩:=hr
   obtain⟨h1,h2⟩:=yf hv
   simp only[dq]at hf
   simp only[aU,List.map_cons,an]
   exact⟨u,iX,rfl,rQ g hz (fun id b bO=>hf id b (List.mem_append_left _ bO)) h1 h3,lp g hz ps ids gI (s+1) r iX x.2 hl hi h2 (fun id b bO=>hf id b (List.mem_append_right _ bO)) hp h4⟩
 |.ref::ps,ids,gI,s,vs,us,x,hl,hi,hv,hf,hp,hr=>by
  cases vs with
  |nil=>simp[cF]at hi
  |cons a r =>
   simp only[cF]at hi
   split at hi
   ·rename_i i is h1 h2
    cases hi
    simp only[an]at hr
    obtain⟨u,iX,rfl,h3,h4⟩:=hr
    cases gI with
    |nil=>simp at hl
    |cons i' is' =>
     simp only[List.zip_cons_cons]at hp
     obtain⟨sz,rfl⟩:=pn h1
     obtain⟨h5,h6⟩:=hp _ List.mem_cons_self
     simp only[aU,List.map_cons,an]
     exact⟨u,iX,rfl,zw h3 h5 h6,lp g hz ps is is' (s+1) r iX x (by simpa using hl) h2 hv hf (fun p h=>hp p (List.mem_cons_of_mem _ h)) h4⟩
   ·cases hi
 |.own::ps,ids,gI,s,vs,us,x,hl,hi,hv,hf,hp,hr=>by
  cases vs with
  |nil=>simp[cF]at hi
  |cons a r =>
   cases a<;>simp only[cF]at hi<;>first|(cases hi;done)|skip
   rename_i i
   split at hi
   ·rename_i is h2
    cases hi
    simp only[an]at hr
    obtain⟨u,iX,rfl,h3,h4⟩:=hr
    cases gI with
    |nil=>simp at hl
    |cons i' is' =>
     simp only[List.zip_cons_cons]at hp
     obtain⟨h5,h6⟩:=hp _ List.mem_cons_self
     simp only[aU,List.map_cons,an]
     refine⟨u,iX,rfl,?_,lp g hz ps is is' (s+1) r iX x (by simpa using hl) h2 hv hf (fun p h=>hp p (List.mem_cons_of_mem _ h)) h4⟩
     simp only[az]at h3 ⊢
     exact⟨h3.1,fun hn=>(h3.2 h5).trans (h6 hn).symm⟩
   ·cases hi
 |.Gh f m::ps,ids,gI,s,vs,us,x,hl,hi,hv,hf,hp,hr=>by
  cases vs with
  |nil=>simp[cF]at hi
  |cons a r =>
   cases a<;>simp only[cF]at hi<;>first|(cases hi;done)|skip
   rename_i f' cap
   split at hi
   ·rename_i hc
    obtain⟨rfl,tG⟩:=hc
    split at hi
    ·rename_i a1 b1 h1 h2
     cases hi
     simp only[an]at hr
     obtain⟨u,iX,rfl,h3,h4⟩:=hr
     have h5:=sY cap a1 h1
     have xX:(a1++b1).zip gI=a1.zip (gI.take m)++b1.zip (gI.drop m):=by
      conv=>lhs;rw[←List.take_append_drop m gI]
      rw[List.zip_append]
      rw[List.length_take,Nat.min_eq_left]
      ·omega
      ·rw[hl,List.length_append];omega
     rw[xX]at hp
     simp only[aU,List.map_cons,an]
     refine⟨u,iX,rfl,?_,lp g hz ps b1 (gI.drop m) (s+1) r iX x (by rw[List.length_drop,hl,List.length_append];omega) h2 hv hf (fun p h=>hp p (List.mem_append_right _ h)) h4⟩
     simp only[az]at h3 ⊢
     obtain⟨ws,h6,h7⟩:=h3
     exact⟨ws,h6,DK cap a1 (gI.take m) _ h1 (by rw[List.length_take,Nat.min_eq_left (by rw[hl,List.length_append];omega)];omega) (fun p h=>hp p (List.mem_append_left _ h)) h7⟩
    ·cases hi
   ·cases hi
 |.agg m::ps,ids,gI,s,vs,us,x,hl,hi,hv,hf,hp,hr=>by
  cases vs with
  |nil=>simp[cF]at hi
  |cons a r =>
   cases a<;>simp only[cF]at hi<;>first|(cases hi;done)|skip
   rename_i cs
   split at hi
   ·rename_i tG
    split at hi
    ·rename_i a1 b1 h1 h2
     cases hi
     simp only[an]at hr
     obtain⟨u,iX,rfl,h3,h4⟩:=hr
     have h5:=sZ cs a1 h1
     have xX:(a1++b1).zip gI=a1.zip (gI.take m)++b1.zip (gI.drop m):=by
      conv=>lhs;rw[←List.take_append_drop m gI]
      rw[List.zip_append]
      rw[List.length_take,Nat.min_eq_left]
      ·omega
      ·rw[hl,List.length_append];omega
     rw[xX]at hp
     simp only[aU,List.map_cons,an]
     refine⟨u,iX,rfl,?_,lp g hz ps b1 (gI.drop m) (s+1) r iX x (by rw[List.length_drop,hl,List.length_append];omega) h2 hv hf (fun p h=>hp p (List.mem_append_right _ h)) h4⟩
     simp only[az]at h3 ⊢
     obtain⟨ws,h6,h7⟩:=h3
     exact⟨ws,h6,DL cs a1 (gI.take m) _ h1 (by rw[List.length_take,Nat.min_eq_left (by rw[hl,List.length_append];omega)];omega) (fun p h=>hp p (List.mem_append_left _ h)) h7⟩
    ·cases hi
   ·cases hi
theorem M6(hh:Heap)(k:K)(x:k.T):fT k hh (cj k x)=some x:=by
 unfold fT
 rw[if_pos (AP k x).symm,tT]
 exact(congrArg (dG k) (qW hh k x)).trans (tS k x)
theorem mP:∀(dt:List CK) (c n:Nat) (x:qA dt),fU dt c=true→(aD dt n x)[mI dt c]? = some (.bH (n+c))
 |[],c,n,x,h=>by simp[fU]at h
 |.val k::r,0,n,x,h=>by simp[fU]at h
 |.val k::r,c+1,n,x,h=>by
  simp only[aD,mI]
  have ih:=mP r c (n+1) x.2 (by simpa[fU] using h)
  have hl:(enc k x.1).length=k.sz:=fq k x.1
  generalize enc k x.1=l at hl ⊢
  rw[List.getElem?_append_right (by omega),hl,Nat.add_sub_cancel_left,show n+(c+1)=n+1+c by omega]
  exact ih
 |.own ok::r,0,n,x,h=>by simp[aD,mI]
 |.own ok::r,c+1,n,x,h=>by
  simp only[aD,mI]
  rw[Nat.add_comm 1,List.getElem?_cons_succ,show n+(c+1)=n+1+c by omega]
  exact mP r c (n+1) x.2 (by simpa[fU] using h)
theorem yj:∀(bs:List BK) (b:Nat) (is:List Nat) (n:Nat) (x:wg bs) (ty:TypeId) (c:List CK) (bi:Nat),bs[b]? = some (.box ty c)→is[b]? = some bi→∃xb,(bi,.box ty (aD c (n+16*b) xb))∈bA bs is n x
 |[],b,is,n,x,_,_,bi,h,_=>by simp at h
 |b0::r,b,[],n,x,_,_,bi,_,h=>by simp at h
 |b0::r,0,i::is,n,x,ty,c,bi,h1,h2=>by
  simp only[List.getElem?_cons_zero,Option.some.injEq]at h1 h2
  subst h1;subst h2
  exact⟨x.1,by simp only[bA,ji];exact List.mem_append_left _ List.mem_cons_self⟩
 |b0::r,b+1,i::is,n,x,ty,c,bi,h1,h2=>by
  obtain⟨xb,h3⟩:=yj r b is (n+16) x.2 ty c bi (by simpa using h1) (by simpa using h2)
  refine⟨xb,?_⟩
  simp only[bA]
  rw[show n+16*(b+1)=n+16+16*b by omega]
  exact List.mem_append_right _ h3
theorem lS{bs:List BK}{hh:Heap}{is:List Nat}{nb:Nat}{xb:wg bs}(hl:is.length=bs.length)(TE:∀e∈bA bs is nb xb,hh.get e.1=some e.2):∀(rs:List RK) (ids2:List Nat) (m:Nat) (y:lG rs),qD bs rs=true →
  (∀e∈ak rs m y,hh.get e.1=some e.2)→bJ bs rs hh is (aW rs ids2 nb m y)=some y
 |[],ids2,m,y,_,_=>rfl
 |.val k::r,ids2,m,y,hk,hg=>by
  simp only[qD,List.all_cons,Bool.and_eq_true,CW]at hk
  have h1:=M6 hh k y.1
  have h2:=lS hl TE r ids2 (m+1) y.2 hk.2 hg
  have e:bJ bs (.val k::r) hh is (aW (.val k::r) ids2 nb m y)=(match fT k hh (cj k y.1),bJ bs r hh is (aW r ids2 nb (m+1) y.2) with
   |some x,some y=>some ((x,y):k.T×lG r)
   |_,_=>none):=rfl
  rw[e]
  generalize fT k hh (cj k y.1)=o1 at h1 ⊢
  generalize bJ bs r hh is (aW r ids2 nb (m+1) y.2)=o2 at h2 ⊢
  subst h1;subst h2;rfl
 |.own ok::r,ids2,m,y,hk,hg=>by
  simp only[qD,List.all_cons,Bool.and_eq_true,CW]at hk
  simp only[ak]at hg
  have h1:=wK (hg _ List.mem_cons_self)
  have h2:=lS hl TE r ids2 (m+1) y.2 hk.2 (fun e he=>hg e (List.mem_cons_of_mem _ he))
  have e:bJ bs (.own ok::r) hh is (aW (.own ok::r) ids2 nb m y)=(match dS hh ok (.bH m),bJ bs r hh is (aW r ids2 nb (m+1) y.2) with
   |some x,some y=>some ((x,y):ok.T×lG r)
   |_,_=>none):=rfl
  rw[e]
  generalize dS hh ok (.bH m)=o1 at h1 ⊢
  generalize bJ bs r hh is (aW r ids2 nb (m+1) y.2)=o2 at h2 ⊢
  subst h1;subst h2;rfl
 |.eV b alts::r,ids2,m,y,hk,hg=>by
  simp only[qD,List.all_cons,Bool.and_eq_true,CW]at hk
  have h2:=lS hl TE r ids2 (m+1) y.2 hk.2 hg
  have h1:ni bs hh is b alts (uA b nb alts y.1)=some y.1:=by
   cases hy:y.1 with
   |none=>rfl
   |some p =>
    obtain⟨al,i⟩:=p
    have h3:=hk.1
    split at h3
    ·rename_i bk ZI
     have aF:=(List.getElem?_eq_some_iff.1 ZI).1
     have M7:is[b]? = some (is[b]'(by omega)):=List.getElem?_eq_getElem (by omega)
     rw[Bool.and_eq_true,decide_eq_true_eq]at h3
     obtain⟨h3,DM⟩:=h3
     have ZJ:∀a:Fin alts.length,fU bk.dt (alts.get a).1=true:=fun a=>List.all_eq_true.1 h3 _ (List.get_mem alts a)
     cases bk with
     |own ok=>have:=ZJ al;simp[BK.dt,fU]at this
     |box ty c0 =>
      obtain⟨xb',h4⟩:=yj bs b is nb xb ty c0 _ ZI M7
      have h5:=TE _ h4
      simp only[BK.dt]at ZJ
      simp only[ni,uA,ZI,M7,h5,BK.dt]
      have key:(List.finRange alts.length).find? (fun a=>xQ c0 (aD c0 (nb+16*b) xb') (nb+16*b+(alts.get al).1) (alts.get al).2.1 (alts.get al).2.2 (alts.get a))=some al:=by
       cases hf:(List.finRange alts.length).find? (fun a=>xQ c0 (aD c0 (nb+16*b) xb') (nb+16*b+(alts.get al).1) (alts.get al).2.1 (alts.get al).2.2 (alts.get a)) with
       |none =>
        have:=List.find?_eq_none.1 hf al (List.mem_finRange al)
        exfalso
        apply this
        simp only[xQ,Bool.and_eq_true,decide_eq_true_eq]
        refine⟨?_,trivial,trivial,ZJ al⟩
        rw[mP c0 _ _ xb' (ZJ al)]
        simp[O7]
       |some a' =>
        have hf':=List.find?_some hf
        obtain⟨h6,_,h7,_⟩:=AS hf'
        rw[mP c0 _ _ xb' (ZJ a')]at h6
        simp only[Option.some.injEq,AV.bH.injEq]at h6
        have h8:(alts.get a').1=(alts.get al).1:=by omega
        congr 1
        have ns:∀a:Fin alts.length,(alts.map fun a=>(a.1,a.2.2))[a.val]? = some ((alts.get a).1,(alts.get a).2.2):=fun a=>by
         rw[List.getElem?_map,List.getElem?_eq_getElem a.isLt];rfl
        have e1:=ns a'
        have e2:=ns al
        rw[h8,←h7]at e1
        exact Fin.ext ((List.getElem?_inj (by simp) DM).1 (e1.trans e2.symm))
      rw[key]
      rfl
    ·cases h3
  have e:bJ bs (.eV b alts::r) hh is (aW (.eV b alts::r) ids2 nb m y)=(match ni bs hh is b alts (uA b nb alts y.1),bJ bs r hh is (aW r ids2 nb (m+1) y.2) with
   |some x,some y=>some ((x,y):Option (Fin alts.length×Nat)×lG r)
   |_,_=>none):=rfl
  rw[e]
  generalize ni bs hh is b alts (uA b nb alts y.1)=o1 at h1 ⊢
  generalize bJ bs r hh is (aW r ids2 nb (m+1) y.2)=o2 at h2 ⊢
  subst h1;subst h2;rfl
 |.agg c::r,ids2,m,y,hk,hg=>by
  simp only[qD,List.all_cons,Bool.and_eq_true,CW]at hk
  simp only[ak]at hg
  have h1:=py (hh:=hh) c m y.1 (fun e he=>hg e (List.mem_append_left _ he))
  have h2:=lS hl TE r ids2 (m+1) y.2 hk.2 (fun e he=>hg e (List.mem_append_right _ he))
  have e:bJ bs (.agg c::r) hh is (aW (.agg c::r) ids2 nb m y)=(match cO c hh (aD c m y.1),bJ bs r hh is (aW r ids2 nb (m+1) y.2) with
   |some x,some y=>some ((x,y):qA c×lG r)
   |_,_=>none):=rfl
  rw[e]
  generalize cO c hh (aD c m y.1)=o1 at h1 ⊢
  generalize bJ bs r hh is (aW r ids2 nb (m+1) y.2)=o2 at h2 ⊢
  subst h1;subst h2;rfl
end Go.Vs
namespace Go.Vs
variable {P:Program} {Z Z':Nat→Prop} {ψ ψ':Nat→Value} {h h':Hp} {w w':World} {B0:Nat} {O:Nat→Prop} {N:Nat→Prop}
def pz(g:aN)(x:g.A):Hp:=(bA g.bs (aP g.bs.length) 2000 x.2).get
def jS(g:aN)(y:g.B):Heap:=bA g.bs (aP g.bs.length) 2000 y.2++ak g.rs 3000 y.1
def E0(g:aN)(x:g.A):List AV:=(aU g.ps (aP g.bs.length) 0 x.1).map (·.2)
def DN(P:Program)(f:FuncId)(g:aN)(x:g.A)(y:g.B):Prop :=
 ∀(Z:Nat→Prop) (ψ0:Nat→Value) (w:World) (kh:List Value),Good Z ψ0 (pz g x) w w.heap.size (Own ψ0 (pz g x))→an Z ψ0 (pz g x) w (E0 g x) kh →
  Calls P (f%1000) kh.toArray w fun e w'=>∃v Z' ψ',e=.returned v∧(∀b,Z b→Z' b)∧(∀b,Z' b→Z b∨Own ψ0 (pz g x) b∨w.heap.size≤b)∧c9 ψ0 (pz g x) w w' ∧
   Good Z' ψ' (jS g y).get w' w.heap.size (Own ψ0 (pz g x))∧(∀i∈aP g.bs.length,ψ' i=ψ0 i)∧az Z' ψ' (jS g y).get w' (fe (aW g.rs (aP g.bs.length) 2000 3000 y.1)) v
theorem E1{ψ:Nat→Value}{b:Nat}:¬Own ψ gi b:=fun⟨_,h,_⟩=>h rfl
theorem uW(ids:List Nat)(n:Nat)(x:wg []):bA [] ids n x=[]:=by cases ids<;>rfl
theorem DN.zero{f:FuncId}{g:aN}{x:g.A}{y:g.B}(hb:g.bs=[])(c:DN P f g x y):ZB P f g x y:=by
 obtain⟨ps,bs,rs,_⟩:=g
 simp only at hb
 subst hb
 intro Z w kh hz hr
 have e0:pz ⟨ps,[],rs,_⟩ x=gi:=by unfold pz;rw[uW];rfl
 have e1:jS ⟨ps,[],rs,_⟩ y=ak rs 3000 y.1:=by unfold jS;rw[uW];rfl
 have hO:Own Jm gi=fun _=>False:=funext fun b=>propext ⟨E1,False.elim⟩
 unfold DN at c
 rw[e0,e1]at c
 refine(c Z Jm w kh ⟨fun _ _ _ h=>(by cases h),fun _ _ _ h=>(by cases h),fun _ _ h=>absurd rfl h,fun _ _ _ h=>absurd rfl h,hz⟩ hr).mono fun e w' ⟨v,Z',ψ',h1,h2,h3,h4,h5,_,h6⟩=>?_
 exact⟨v,Z',ψ',h1,h2,fun b hb=>(h3 b hb).imp (fun h=>h) fun h=>h.resolve_left E1,h4,by rw[hO]at h5;exact h5,h6⟩
theorem GS{bs:List BK}{hh:Heap}{x:wg bs}(hd:c7 bs hh []=some x):bs=[]:=by
 cases bs with
 |nil=>rfl
 |cons b r=>cases hd
variable {Eqs:TypeId→Option K} {Sg:FuncId→Option aN} {F:(f:FuncId)→(g:aN)→g.A→Option g.B}
theorem GU{a b:List Nat}(h:cc (a++b)=true):cc a=true:=by
 induction a with
 |nil=>rfl
 |cons i r ih =>
  obtain⟨h1,h2⟩:=mL h
  simp only[cc,Bool.and_eq_true,Bool.not_eq_true']
  refine⟨?_,ih h2⟩
  cases hc:r.contains i with
  |false=>rfl
  |true=>exact absurd (List.mem_append_left _ (List.contains_iff_mem.1 hc)) h1
theorem Good.E2(g:Good Z ψ h w B0 O)(B:Nat):Good Z ψ h w B (Own ψ h) :=
 ⟨g.box,g.row,fun id b h1 h2=>⟨(g.live id b h1 h2).1,.inr ⟨id,h1,h2⟩⟩,g.apart,g.jM⟩
theorem oc:∀(l:List Nat) (hh:Heap) (i:Nat),(gW hh l).get i=if i∈l then none else hh.get i
 |[],hh,i=>by simp[gW]
 |j::r,hh,i=>by
  simp only[gW]
  rw[oc r (hh.del j) i]
  by_cases h1:i∈r
  ·simp[h1]
  ·by_cases h2:i=j
   ·subst h2;simp[Heap.gG]
   ·rw[Heap.iu h2];simp[h1,h2]
theorem g9:∀(dt:List CK) (n:Nat) (x:qA dt),(bg dt n x).map (·.1)=ck dt n
 |[],_,_=>rfl
 |.val k::r,n,x=>g9 r (n+1) x.2
 |.own ok::r,n,x=>by simp only[bg,ck,List.map_cons];rw[g9 r (n+1) x.2]
theorem lT:∀(bs:List BK) (is:List Nat) (n:Nat) (x:wg bs),is.length=bs.length→(bA bs is n x).map (·.1)=bZ bs is n
 |[],is,n,x,_=>by cases is<;>rfl
 |b::r,[],n,x,hl=>by simp at hl
 |b::r,i::is,n,x,hl=>by
  simp only[bA,bZ,List.map_append]
  rw[lT r is (n+16) x.2 (by simpa using hl),←List.cons_append]
  congr 1
  cases b with
  |box ty c=>simp only[ji,List.map_cons,BK.dt];rw[g9]
  |own ok=>simp[ji,BK.dt,ck]
theorem fM:∀(rs:List RK) (m:Nat) (y:lG rs),(ak rs m y).map (·.1)=bB rs m
 |[],_,_=>rfl
 |.own ok::r,m,y=>by simp only[ak,bB,List.map_cons];rw[fM r (m+1) y.2]
 |.val _::r,m,y=>fM r (m+1) y.2
 |.eV _ _::r,m,y=>fM r (m+1) y.2
 |.agg c::r,m,y=>by
  have e1:(bg c m y.1).map (·.1)=ck c m:=g9 c m y.1
  simp only[ak,bB,List.map_append]
  rw[fM r (m+1) y.2]
  exact congrArg (·++_) e1
theorem pC:∀(dt:List CK) (n:Nat) (x:qA dt),fP dt (aD dt n x)=ck dt n
 |[],_,_=>rfl
 |.val k::r,n,x=>by
  have h2:(aD (.val k::r) n x).drop k.sz=aD r (n+1) x.2:=by simp only[aD];rw[←fq k x.1,List.drop_left]
  have e:fP (.val k::r) (aD (.val k::r) n x)=fP r ((aD (.val k::r) n x).drop k.sz):=by generalize aD (.val k::r) n x=l;cases l<;>rfl
  rw[e,h2,pC r (n+1) x.2];rfl
 |.own ok::r,n,x=>by simp only[aD,fP,oX,ck,List.cons_append,List.nil_append];rw[pC r (n+1) x.2]
theorem yk{hh:Heap}:∀(bs:List BK) (is:List Nat) (n:Nat) (x:wg bs),is.length=bs.length→(∀e∈bA bs is n x,hh.get e.1=some e.2)→c8 bs hh is=bZ bs is n
 |[],is,n,x,_,_=>by cases is<;>rfl
 |_::_,[],n,x,hl,_=>by simp at hl
 |b::r,i::is,n,x,hl,hg=>by
  simp only[bA]at hg
  simp only[c8,bZ]
  rw[yk r is (n+16) x.2 (by simpa using hl) (fun e he=>hg e (List.mem_append_right _ he)),←List.cons_append]
  congr 1
  cases b with
  |box ty c =>
   simp only[j6,BK.dt]
   rw[hg (i,.box ty (aD c n x.1)) (List.mem_append_left _ (by simp only[ji];exact List.mem_cons_self))]
   simp only[]
   rw[pC]
  |own ok=>simp[j6,BK.dt,ck]
theorem ki:∀(rs:List RK) (ids:List Nat) (n m:Nat) (y:lG rs),dO rs (aW rs ids n m y)=bB rs m
 |[],_,_,_,_=>rfl
 |.own ok::r,ids,n,m,y=>by simp only[aW,dO,bB,oX,List.cons_append,List.nil_append];rw[ki r ids n (m+1) y.2]
 |.val _::r,ids,n,m,y=>by simp only[aW,dO,bB];exact ki r ids n (m+1) y.2
 |.eV _ _::r,ids,n,m,y=>by simp only[aW,dO,bB];exact ki r ids n (m+1) y.2
 |.agg c::r,ids,n,m,y=>by
  have e1:fP c (aD c m y.1)=ck c m:=pC c m y.1
  simp only[aW,dO,bB,AV.cells]
  rw[ki r ids n (m+1) y.2]
  exact congrArg (·++_) e1
theorem lU:∀(rs:List RK) (ids:List Nat) (n m:Nat) (y:lG rs) (id:Nat),AV.bH id∉fX rs (aW rs ids n m y)
 |[],_,_,_,_,_=>by simp[aW,fX]
 |.own ok::r,ids,n,m,y,id=>by simp only[aW,fX];exact lU r ids n (m+1) y.2 id
 |.val k::r,ids,n,m,y,id=>by
  simp only[aW,fX,List.mem_append]
  rintro(h|h)
  ·have e:(cj k y.1).cells=enc k y.1:=tT k y.1
   exact lR k y.1 id (e▸h)
  ·exact lU r ids n (m+1) y.2 id h
 |.eV _ _::r,ids,n,m,y,id=>by simp only[aW,fX];exact lU r ids n (m+1) y.2 id
 |.agg c::r,ids,n,m,y,id=>by
  simp only[aW,fX,AV.cells,List.mem_append]
  rintro(h|h)
  ·exact zy (hh:=[]) c m y.1 id h
  ·exact lU r ids n (m+1) y.2 id h
theorem M8{gg:aN}{x:gg.A}{y:gg.B}{PD:List Nat}{nN dW:Nat→Value}{id:Nat}(hl:PD.length=gg.bs.length)(Xq:qD gg.bs gg.rs=true)(uX:cc (qB gg)=true)
  (AU:cc (bZ gg.bs PD id++bB gg.rs (id+128))=true) (PE:Good Z' dW (jS gg y).get w' w.heap.size (Own nN (pz gg x)))
  {v:Value} (aeK:az Z' dW (jS gg y).get w' (fe (aW gg.rs (aP gg.bs.length) 2000 3000 y.1)) v) :
  ∃L2:List yc,dD L2=bA gg.bs PD id y.2++ak gg.rs (id+128) y.1∧L2.map (·.1)=bZ gg.bs PD id++bB gg.rs (id+128) ∧
   Good Z' (eX dW L2) (dD L2).get w' w.heap.size (Own nN (pz gg x))∧(∀p∈(aP gg.bs.length).zip PD,eX dW L2 p.2=dW p.1) ∧
   az Z' (eX dW L2) (dD L2).get w' (fe (aW gg.rs PD id (id+128) y.1)) v:=by
 have hle:(aP gg.bs.length).length=gg.bs.length:=by simp[aP]
 have hn2:cc ((jS gg y).map (·.1))=true:=by
  unfold jS
  rw[List.map_append,lT _ _ _ _ hle,fM];exact uX
 have TE:∀e∈bA gg.bs (aP gg.bs.length) 2000 y.2,(jS gg y).get e.1=some e.2:=fun e he=>wL hn2 (by unfold jS;exact List.mem_append_left _ he)
 have hgr:∀e∈ak gg.rs 3000 y.1,(jS gg y).get e.1=some e.2:=fun e he=>wL hn2 (by unfold jS;exact List.mem_append_right _ he)
 have zr:=yi gg.bs _ 2000 y.2 hle TE
 have Uc:=lS (xb:=y.2) hle TE gg.rs (aP gg.bs.length) 3000 y.1 Xq hgr
 let vsC:=aW gg.rs (aP gg.bs.length) 2000 3000 y.1
 let L2:List yc:=cx gg.bs (jS gg y) (aP gg.bs.length) PD id y.2++cE gg.rs vsC (id+128) y.1
 have eH:dD L2=bA gg.bs PD id y.2++ak gg.rs (id+128) y.1:=by
  show dD (_++_)=_
  rw[mN,jn _ _ _ _ _ _ zr hl,gH]
 have eN:L2.map (·.1)=bZ gg.bs PD id++bB gg.rs (id+128):=by
  show(_++_:List yc).map _=_
  rw[List.map_append,gZ _ _ _ _ _ _ zr hl,fL]
 have eS:L2.filterMap (·.2.1)=qB gg:=by
  show(_++_:List yc).filterMap _=_
  rw[List.filterMap_append,kf _ _ _ _ _ _ zr hl,iJ _ _ _ _ Uc,yk _ _ 2000 y.2 hle TE,ki];rfl
 have hn:cc (L2.map (·.1))=true:=by rw[eN];exact AU
 have jg:=zu (ψ:=dW) hn
 have g3:Good Z' (eX dW L2) (dD L2).get w' w.heap.size (Own nN (pz gg x)):=by
  refine PE.rename hn (by rw[eS];exact uX) fun e he=>?_
  rcases List.mem_append.1 he with he|he
  ·exact lO PE (fun _ h=>h) gg.bs _ _ id y.2 zr (fun i b bO _ _=>(AT gg.bs _ 2000 y.2 i TE bO).elim) (fun s _=>rfl) (fun e he=>jg e (List.mem_append_left _ he)) e he
  ·exact jR gg.rs vsC (id+128) y.1 Uc (fun s _=>rfl) e he
 refine⟨L2,eH,eN,g3,fun p hp=>?_,?_⟩
 ·obtain⟨o,ho⟩:=kg (hh:=jS gg y) gg.bs (aP gg.bs.length) PD id y.2 hle p hp
  exact iI hn (List.mem_append_left _ ho)
 ·refine tR (by rw[j8,j8]) (fun vs tH=>?_) aeK
  exact rY (nb:=id) (is':=PD) PE (fun _ h=>h) zr hl (fun e he=>jg e (List.mem_append_left _ he)) gg.rs vsC (id+128) y.1 vs Uc (fun i b bO _ _=>(lU gg.rs _ _ _ y.1 i bO).elim) (fun e he=>jg e (List.mem_append_right _ he)) tH
theorem M9{hh:Heap}{kL:List AV}{kept:List Nat}{my:Hp}{nN PF:Nat→Value}{H2:Heap}(g:Good Z ψ hh.get w B0 O)(hB:B0≤w.heap.size)(Jn:∀s∈kept,(cI hh kL).get s=hh.get s)
  (bu:∀i ty cs,hh.get i=some (.box ty cs)→aC (fun i=>¬N i) cs) (tJ:∀b,Own nN my b→∃s,s∈kept∧hh.get s≠none∧ob (ψ s)=some b)
  (hz:∀b,qy Z ψ hh.get kL b→Z' b) (OJ:∀b,Z' b→qy Z ψ hh.get kL b∨Own nN my b∨w.heap.size≤b) (keep:c9 nN my w w') (g3:Good Z' PF H2.get w' w.heap.size (Own nN my))
  (TF:∀i ty cs,H2.get i=some (.box ty cs)→aC (fun j=>H2.get j≠none) cs) (nr:∀i,H2.get i≠none→(i∈kept∧hh.get i≠none∧PF i=ψ i)∨N i) :
  ∃AW,(∀i,H2.get i≠none→AW i=PF i)∧Next Z ψ hh.get w B0 O N Z' AW (H2++gW (cI hh kL) kept).get w':=by
 classical
 let AW:Nat→Value:=fun i=>if H2.get i≠none then PF i else ψ i
 have h4:∀i,H2.get i≠none→AW i=PF i:=fun i hi=>if_pos hi
 have hg:∀i,(H2++gW (cI hh kL) kept).get i=(match H2.get i with|some o=>some o|none=>if i∈kept then none else(cI hh kL).get i):=fun i=>by rw[Heap.get_append,oc];cases H2.get i<;>rfl
 have CZ:∀i,H2.get i≠none→(H2++gW (cI hh kL) kept).get i=H2.get i:=fun i hi=>by
  rw[hg];cases e:H2.get i with
  |none=>exact absurd e hi
  |some o=>rfl
 have yl:∀i,H2.get i=none→(H2++gW (cI hh kL) kept).get i≠none→i∉kept∧(H2++gW (cI hh kL) kept).get i=hh.get i∧(cI hh kL).get i=hh.get i∧AW i=ψ i∧hh.get i≠none:=fun i hi br=>by
  rw[hg,hi]at br ⊢
  simp only at br ⊢
  by_cases hk:i∈kept
  ·rw[if_pos hk]at br;exact absurd rfl br
  ·rw[if_neg hk]at br ⊢
   obtain⟨o,ho⟩:=Option.ne_none_iff_exists'.1 br
   have:=dZ _ _ _ _ ho
   exact⟨hk,by rw[ho,this],by rw[ho,this],if_neg (by simp[hi]),by rw[this];simp⟩
 have Ud:∀i b,i∉kept→hh.get i≠none→ob (ψ i)=some b→¬Own nN my b:=fun i b hk hi hb ho=>by
  obtain⟨s,h1,h2,h3⟩:=tJ b ho
  exact hk ((g.apart i s b hi h2 hb h3)▸h1)
 have gd:Good (qy Z ψ hh.get kL) ψ (cI hh kL).get w B0 O:=iv g kL
 have ZK:∀b,qy Z ψ hh.get kL b→¬Own nN my b:=fun b hb ho=>by
  obtain⟨s,h1,h2,h3⟩:=tJ b ho
  exact(gd.live s b (by rw[Jn s h1];exact h2) h3).1 hb
 have sm:ct (qy Z ψ hh.get kL) w w':=fun b hb=>keep.block b (gd.jM b hb) (ZK b hb)
 have ZL:∀i,(H2++gW (cI hh kL) kept).get i≠none→(hh.get i≠none∧AW i=ψ i)∨N i:=fun i hi=>by
  by_cases h2:H2.get i=none
  ·obtain⟨_,_,_,h3,h5⟩:=yl i h2 hi
   exact .inl ⟨h5,h3⟩
  ·rcases nr i h2 with⟨_,h3,h5⟩|h3
   ·exact .inl ⟨h3,(h4 i h2).trans h5⟩
   ·exact .inr h3
 have kk:c9 ψ hh.get w w':=⟨keep.os,keep.tape,keep.output,keep.size,fun b hb qS=>keep.block b hb fun ho=>by
  obtain⟨s,_,h2,h3⟩:=tJ b ho
  exact qS ⟨s,h2,h3⟩⟩
 refine⟨AW,h4,fun b hb=>hz b (.inl hb),fun b hb=>?_,kk,ZL,⟨fun i ty cs hb=>?_,fun i ok xs hb=>?_,fun i b h1 h2=>?_,fun i i' b h1 h2 h3 h5=>?_,g3.jM⟩⟩
 ·rcases OJ b hb with h1|h1|h1
  ·exact(h1.imp (fun h=>h) fun⟨i,_,h2,h3⟩=>.inl ⟨i,h2,h3⟩)
  ·obtain⟨s,_,h2,h3⟩:=tJ b h1
   exact .inr (.inl ⟨s,h2,h3⟩)
  ·exact .inr (.inr h1)
 ·by_cases h2:H2.get i=none
  ·obtain⟨h3,h5,h6,h7,h8⟩:=yl i h2 (by rw[hb];simp)
   rw[h5]at hb
   obtain⟨gg,vs,e1,e2,e3,e4⟩:=gd.box i ty cs (by rw[h6];exact hb)
   have aF:=(Array.getElem?_eq_some_iff.1 e2).1
   refine⟨gg,vs,by rw[h7,e1],?_,?_,e4⟩
   ·rw[keep.block gg aF (Ud i gg h3 h8 (by rw[e1];rfl))];exact e2
   ·refine e3.move (p:=fun i=>¬N i) hz sm (fun j hp hj=>?_) (bu i ty cs hb)
    by_cases h9:H2.get j=none
    ·obtain⟨_,_,nq,yV,Jk⟩:=yl j h9 hj
     exact⟨by rw[nq];exact Jk,yV⟩
    ·rcases nr j h9 with⟨nq,yV,Jk⟩|nq
     ·exact⟨by rw[Jn j nq];exact yV,(h4 j h9).trans Jk⟩
     ·exact absurd nq hp
  ·rw[CZ i h2]at hb
   obtain⟨gg,vs,e1,e2,e3,e4⟩:=g3.box i ty cs hb
   exact⟨gg,vs,by rw[h4 i h2,e1],e2,e3.move (p:=fun j=>H2.get j≠none) (fun _ h=>h) (ct.refl _ _) (fun j hp _=>⟨hp,h4 j hp⟩) (TF i ty cs hb),e4⟩
 ·by_cases h2:H2.get i=none
  ·obtain⟨h3,h5,h6,h7,h8⟩:=yl i h2 (by rw[hb];simp)
   rw[h5]at hb
   rw[h7]
   exact(gd.row i ok xs (by rw[h6];exact hb)).kept hz sm fun gg MM=>keep.block gg (g.bP ⟨i,h8,MM⟩) (Ud i gg h3 h8 MM)
  ·rw[CZ i h2]at hb
   rw[h4 i h2]
   exact g3.row i ok xs hb
 ·by_cases h3:H2.get i=none
  ·obtain⟨h5,h6,h7,h8,h9⟩:=yl i h3 h1
   rw[h8]at h2
   obtain⟨nq,yV⟩:=gd.live i b (by rw[h7];exact h9) h2
   refine⟨fun Zp=>?_,yV⟩
   rcases OJ b Zp with Jk|Jk|Jk
   ·exact nq Jk
   ·exact Ud i b h5 h9 h2 Jk
   ·have:=g.bP ⟨i,h9,h2⟩;omega
  ·rw[h4 i h3]at h2
   obtain⟨h5,h6⟩:=g3.live i b h3 h2
   refine⟨h5,?_⟩
   rcases h6 with h6|h6
   ·exact .inl (by omega)
   ·obtain⟨s,_,h7,h8⟩:=tJ b h6
    exact(g.live s b h7 h8).2
 ·have xT:∀i i',H2.get i=none→H2.get i'≠none→(H2++gW (cI hh kL) kept).get i≠none→ob (AW i)=some b→ob (AW i')=some b→False:=fun i i' e1 e2 e3 e4 e5=>by
   obtain⟨h6,_,_,h8,h9⟩:=yl i e1 e3
   rw[h8]at e4;rw[h4 i' e2]at e5
   rcases (g3.live i' b e2 e5).2 with nq|nq
   ·have:=g.bP ⟨i,h9,e4⟩;omega
   ·exact Ud i b h6 h9 e4 nq
  by_cases e1:H2.get i=none<;>by_cases e2:H2.get i'=none
  ·obtain⟨_,_,_,h8,h9⟩:=yl i e1 h1
   obtain⟨_,_,_,h8',h9'⟩:=yl i' e2 h2
   rw[h8]at h3;rw[h8']at h5
   exact g.apart i i' b h9 h9' h3 h5
  ·exact(xT i i' e1 e2 h1 h3 h5).elim
  ·exact(xT i' i e2 e1 h2 h5 h3).elim
  ·rw[h4 i e1]at h3;rw[h4 i' e2]at h5
   exact g3.apart i i' b e1 e2 h3 h5
theorem zz{i:Nat}{o:Ob}:∀{hh:Heap},(i,o)∈hh→hh.get i≠none
 |[],h=>by cases h
 |(j,o')::r,h=>by
  simp only[Heap.get]
  split
  ·simp
  ·rename_i hn
   rcases List.mem_cons.1 h with e|h
   ·cases e;exact absurd rfl hn
   ·exact zz h
theorem get_mem{i:Nat}{o:Ob}:∀{hh:Heap},hh.get i=some o→(i,o)∈hh
 |[],h=>by simp[Heap.get]at h
 |(j,o')::r,h=>by
  simp only[Heap.get]at h
  split at h
  ·rename_i e;subst e;cases h;exact List.mem_cons_self
  ·exact List.mem_cons_of_mem _ (get_mem h)
theorem pG{p:Nat→Prop}:∀{a b:List AV},aC p a→aC p b→aC p (a++b)
 |[],b,_,h=>h
 |x::r,b,h,h'=>by simp only[List.cons_append,aC]at h ⊢;exact⟨h.1,pG h.2 h'⟩
theorem j9{p:Nat→Prop}:∀(dt:List CK) (n:Nat) (x:qA dt),(∀e∈bg dt n x,p e.1)→aC p (aD dt n x)
 |[],n,x,_=>by simp only[aD,aC]
 |.val k::r,n,x,h=>by simp only[aD];exact pG (lQ p k x.1) (j9 r (n+1) x.2 h)
 |.own ok::r,n,x,h=>by
  simp only[bg]at h
  simp only[aD,aC,aJ]
  exact⟨h _ List.mem_cons_self,j9 r (n+1) x.2 fun e he=>h e (List.mem_cons_of_mem _ he)⟩
theorem mQ:∀(dt:List CK) (n:Nat) (x:qA dt) (i:Nat) (ty:TypeId) (cs:List AV),(i,Ob.box ty cs)∉bg dt n x
 |[],_,_,_,_,_=>by simp[bg]
 |.val k::r,n,x,i,ty,cs=>mQ r (n+1) x.2 i ty cs
 |.own _::r,n,x,i,ty,cs=>by
  simp only[bg,List.mem_cons,not_or]
  exact⟨by simp,mQ r (n+1) x.2 i ty cs⟩
theorem s5{p:Nat→Prop}:∀(bs:List BK) (is:List Nat) (n:Nat) (x:wg bs),(∀e∈bA bs is n x,p e.1)→∀i ty cs,(i,Ob.box ty cs)∈bA bs is n x→aC p cs
 |[],is,n,x,_,i,ty,cs,h=>by cases is<;>simp[bA]at h
 |b::r,[],n,x,_,i,ty,cs,h=>by simp[bA]at h
 |b::r,i0::is,n,x,hp,i,ty,cs,h=>by
  simp only[bA]at h hp
  rcases List.mem_append.1 h with h|h
  ·cases b with
   |box ty0 c0 =>
    simp only[ji]at h hp
    rcases List.mem_cons.1 h with e|h
    ·cases e
     exact j9 c0 n x.1 fun e he=>hp e (List.mem_append_left _ (List.mem_cons_of_mem _ he))
    ·exact absurd h (mQ _ _ _ _ _ _)
   |own ok=>simp[ji]at h
  ·exact s5 r is (n+16) x.2 (fun e he=>hp e (List.mem_append_right _ he)) i ty cs h
theorem mR:∀(dt:List CK) (n i:Nat),i∈ck dt n→n≤i∧i<n+dt.length
 |[],n,i,h=>by simp[ck]at h
 |.val k::r,n,i,h=>by
  have:=mR r (n+1) i (by simpa[ck] using h)
  simp only[List.length_cons];omega
 |.own ok::r,n,i,h=>by
  simp only[ck]at h
  simp only[List.length_cons]
  rcases List.mem_cons.1 h with rfl|h
  ·omega
  ·have:=mR r (n+1) i h;omega
theorem uY:∀(bs:List BK) (is:List Nat) (n i:Nat),(bs.all fun b=>decide (b.dt.length≤16))=true→i∈bZ bs is n→i∈is∨(n≤i∧i<n+16*bs.length)
 |[],is,n,i,_,h=>by cases is<;>simp[bZ]at h
 |b::r,[],n,i,_,h=>by simp[bZ]at h
 |b::r,i0::is,n,i,hc,h=>by
  simp only[List.all_cons,Bool.and_eq_true,decide_eq_true_eq]at hc
  simp only[bZ]at h
  simp only[List.length_cons]
  rcases List.mem_cons.1 h with rfl|h
  ·exact .inl List.mem_cons_self
  ·rcases List.mem_append.1 h with h|h
   ·have:=mR _ _ _ h;exact .inr (by omega)
   ·rcases uY r is (n+16) i hc.2 h with h1|h1
    ·exact .inl (List.mem_cons_of_mem _ h1)
    ·exact .inr (by omega)
theorem js{bs:List BK}:∀(rs:List RK) (m i:Nat),qD bs rs=true→i∈bB rs m→m≤i∧i<m+rs.length+16
 |[],m,i,_,h=>by simp[bB]at h
 |.own ok::r,m,i,hk,h=>by
  simp only[qD,List.all_cons,Bool.and_eq_true]at hk
  simp only[bB]at h
  simp only[List.length_cons]
  rcases List.mem_cons.1 h with rfl|h
  ·omega
  ·have:=js r (m+1) i hk.2 h;omega
 |.val _::r,m,i,hk,h=>by
  simp only[qD,List.all_cons,Bool.and_eq_true]at hk
  have:=js r (m+1) i hk.2 (by simpa[bB] using h)
  simp only[List.length_cons];omega
 |.eV _ _::r,m,i,hk,h=>by
  simp only[qD,List.all_cons,Bool.and_eq_true]at hk
  have:=js r (m+1) i hk.2 (by simpa[bB] using h)
  simp only[List.length_cons];omega
 |.agg c::r,m,i,hk,h=>by
  simp only[qD,List.all_cons,Bool.and_eq_true,CW,decide_eq_true_eq]at hk
  simp only[bB]at h
  simp only[List.length_cons]
  rcases List.mem_append.1 h with h|h
  ·have:=mR c m i h;omega
  ·have:=js r (m+1) i hk.2 h;omega
theorem ym{hh:Heap}:∀(bs:List BK) (is:List Nat) (i:Nat),is.length=bs.length→i∈is→i∈c8 bs hh is
 |[],is,i,hl,h=>by cases is with
  |nil=>cases h
  |cons a r=>simp at hl
 |b::r,[],i,_,h=>by cases h
 |b::r,i0::is,i,hl,h=>by
  simp only[c8]
  rcases List.mem_cons.1 h with rfl|h
  ·refine List.mem_append_left _ ?_
   cases b<;>simp[j6]
  ·exact List.mem_append_right _ (ym r is i (by simpa using hl) h)
theorem PH{α β:Type}:∀{a:List α} {b:List β},a.length=b.length→∀x∈a,∃y,(x,y)∈a.zip b∧(y,x)∈b.zip a
 |[],b,_,x,h=>by cases h
 |a::r,[],hl,x,_=>by simp at hl
 |a::r,c::q,hl,x,h=>by
  simp only[List.zip_cons_cons]
  rcases List.mem_cons.1 h with rfl|h
  ·exact⟨c,List.mem_cons_self,List.mem_cons_self⟩
  ·obtain⟨y,h1,h2⟩:=PH (a:=r) (b:=q) (by simpa using hl) x h
   exact⟨y,List.mem_cons_of_mem _ h1,List.mem_cons_of_mem _ h2⟩
theorem tV:∀(dt:List CK) (n c:Nat),fU dt c=true→n+c∈ck dt n
 |[],n,c,h=>by simp[fU]at h
 |.own _::r,n,0,_=>by simp[ck]
 |.own _::r,n,c+1,h=>by
  simp only[fU]at h
  have:=tV r (n+1) c h
  simp only[ck]
  exact List.mem_cons_of_mem _ (by rwa [show n+(c+1)=n+1+c by omega])
 |.val _::r,n,0,h=>by simp[fU]at h
 |.val _::r,n,c+1,h=>by
  simp only[fU]at h
  have:=tV r (n+1) c h
  simp only[ck]
  rwa [show n+(c+1)=n+1+c by omega]
theorem yn:∀(bs:List BK) (is:List Nat) (n b i:Nat) (bk:BK),is.length=bs.length→bs[b]? = some bk→i∈ck bk.dt (n+16*b)→i∈bZ bs is n
 |[],_,_,b,_,_,_,h,_=>by simp at h
 |_::_,[],_,_,_,_,hl,_,_=>by simp at hl
 |b0::r,i0::is,n,0,i,bk,hl,hb,hi=>by
  simp only[List.getElem?_cons_zero,Option.some.injEq]at hb
  subst hb
  simp only[bZ]
  exact List.mem_cons_of_mem _ (List.mem_append_left _ (by simpa using hi))
 |b0::r,i0::is,n,b+1,i,bk,hl,hb,hi=>by
  simp only[List.getElem?_cons_succ]at hb
  simp only[bZ]
  refine List.mem_cons_of_mem _ (List.mem_append_right _ (yn r is (n+16) b i bk (by simpa using hl) hb ?_))
  rwa [show n+16+16*b=n+16*(b+1) by omega]
theorem kj{p:Nat→Prop}{bs:List BK}{is:List Nat}(hl:is.length=bs.length):∀(rs:List RK) (ids:List Nat) (n m:Nat) (y:lG rs),qD bs rs=true→(∀i∈bB rs m,p i)→(∀i∈bZ bs is n,p i)→aC p (aW rs ids n m y)
 |[],_,_,_,_,_,_,_=>by simp only[aW,aC]
 |.val k::r,ids,n,m,y,hr,h1,h2=>by
  simp only[qD,List.all_cons,Bool.and_eq_true,CW]at hr
  simp only[aW,aC]
  exact⟨oa p k y.1,kj hl r ids n (m+1) y.2 hr.2 (fun i hi=>h1 i hi) h2⟩
 |.own _::r,ids,n,m,y,hr,h1,h2=>by
  simp only[qD,List.all_cons,Bool.and_eq_true,CW]at hr
  simp only[aW,aC,aJ]
  exact⟨h1 m (by simp[bB]),kj hl r ids n (m+1) y.2 hr.2 (fun i hi=>h1 i (by simp only[bB];exact List.mem_cons_of_mem _ hi)) h2⟩
 |.eV b alts::r,ids,n,m,y,hr,h1,h2=>by
  simp only[qD,List.all_cons,Bool.and_eq_true,CW]at hr
  simp only[aW,aC]
  refine⟨?_,kj hl r ids n (m+1) y.2 hr.2 (fun i hi=>h1 i hi) h2⟩
  cases hy:y.1 with
  |none=>simp only[uA,aJ]
  |some p =>
   obtain⟨al,i⟩:=p
   simp only[uA,aJ]
   cases hb:bs[b]? with
   |none=>rw[hb]at hr;exact absurd hr.1 (by simp)
   |some bk =>
    rw[hb]at hr
    simp only[Bool.and_eq_true]at hr
    exact h2 _ (yn bs is n b _ bk hl hb (tV bk.dt (n+16*b) _ (List.all_eq_true.1 hr.1.1 _ (List.get_mem alts al))))
 |.agg c::r,ids,n,m,y,hr,h1,h2=>by
  simp only[qD,List.all_cons,Bool.and_eq_true,CW]at hr
  simp only[aW,aC,aJ]
  refine⟨j9 c m y.1 fun e he=>h1 _ ?_,kj hl r ids n (m+1) y.2 hr.2 (fun i hi=>h1 i (by simp only[bB];exact List.mem_append_right _ hi)) h2⟩
  simp only[bB]
  have e1:(bg c m y.1).map (·.1)=ck c m:=g9 c m y.1
  exact List.mem_append_left _ (e1▸List.mem_map.2 ⟨e,he,rfl⟩)
theorem JV{p:Nat→Prop}{vs:List AV}(h:aC p vs):aJ p (fe vs):=by
 match vs,h with
 |[],h=>simp only[fe,aJ];exact h
 |[v],h=>simp only[fe];simp only[aC]at h;exact h.1
 |_::_::_,h=>simp only[fe,aJ];exact h
def iz(P:Program)(f:FuncId)(u:Heap→Nat→List AV→Option (Bool×bI)):Prop :=
 ∀{Z:Nat→Prop} {ψ:Nat→Value} {h:Hp} {w:World} {B0:Nat} {O N:Nat→Prop} {hh:Heap} {id:Nat} {e:bI} {vs:List AV} {us:List Value},
  Good Z ψ h w B0 O→B0≤w.heap.size→(∀id o,hh.get id=some o→h id=some o)→(∀j,j<256→N (id+j))→(∀i ty cs,h i=some (.box ty cs)→aC (fun i=>¬N i) cs)→(∀v hw,e=.wr v hw→hh.get=h) →
  an Z ψ h w vs us→aC (fun i=>¬N i) vs→u hh id vs=some (true,e) →
  Calls P f us.toArray w fun en w'=>∃V Z' ψ',en=.returned V∧Next Z ψ h w B0 O N Z' ψ' (e.hp h) w'∧az Z' ψ' (e.hp h) w' e.v V
theorem Ue{R:Type}{n:Nat}(a:Fin n)(f:Fin n→Option R):Zn n a f=f a:=by
 have key:∀l:List (Fin n),a∈l→l.foldr (fun j r=>cond (a.val==j.val) (f j) r) none=f a:=by
  intro l
  induction l with
  |nil=>intro h;cases h
  |cons j r ih =>
   intro h
   simp only[List.foldr_cons]
   by_cases e:a=j
   ·subst e;simp
   ·have:(a.val==j.val)=false:=by simp only[beq_eq_false_iff_ne,ne_eq];exact fun h=>e (Fin.ext h)
    rw[this,cond_false]
    rcases List.mem_cons.1 h with h|h
    ·exact absurd h e
    ·exact ih h
 exact key _ (List.mem_finRange a)
theorem iK{R:Type}:∀(rs:List RK) (x:lG rs) (K:lG rs→Option R),jK rs x K=K x
 |[],_,_=>rfl
 |.val _::r,x,K=>by simp only[jK];rw[iK r x.2];rfl
 |.own _::r,x,K=>by simp only[jK];rw[iK r x.2];rfl
 |.agg _::r,x,K=>by simp only[jK];rw[iK r x.2];rfl
 |.eV _ alts::r,x,K=>by
  simp only[jK]
  obtain⟨x1,x2⟩:=x
  cases x1 with
  |none=>simp only[qE];rw[iK r x2]
  |some p=>simp only[qE];rw[Ue,iK r x2]
theorem JW(hX:∀f g u,Sg f=some g→g.x=some u→iz P (f%1000) u)(hF:∀f g x y,Sg f=some g→F f g x=some y→DN P f g x y)(Na:∀f g,Sg f=some g→jq P (f%1000))
  {hh:Heap} {ρC:Operand→Value} {o:Oper} (g:Good Z ψ h w B0 O) (hB:B0≤w.heap.size) (bC:∀id o,hh.get id=some o→h id=some o) {id:Nat} (hN:∀j,j<256→N (id+j)) {e:bI}
  (bu:∀i ty cs,h i=some (.box ty cs)→aC (fun i=>¬N i) cs) (nL:∀v hw,e=.wr v hw→hh.get=h) {f:FuncId} {cap vs:List AV} {fv:Value} {us:List Value}
  (Uf:az Z ψ h w (.fn f cap) fv) (tH:an Z ψ h w vs us) (EX:aC (fun i=>¬N i) (vs++cap)) (hex:∀(ws:Array Value),fv=.func (.func f) #[] ws→execOp ρC o=callFunc f (us.toArray++ws))
  (he:jk Sg F hh id f (vs++cap) some=some e):VR P ρC o Z ψ h w B0 O N e:=by
 unfold jk at he
 split at he
 ·cases he
 rename_i gg hSg
 simp only[az]at Uf
 obtain⟨ws,rfl,Xr⟩:=Uf
 have DO:=Na _ _ hSg
 have kU:an Z ψ h w (vs++cap) (us++ws.toList):=an.append tH Xr
 have E3:an Z ψ hh.get w (vs++cap) (us++ws.toList):=kU.qp bC
 have gs:Good Z ψ hh.get w B0 O:=g.sub bC
 have PI:us.toArray++ws=(us++ws.toList).toArray:=by simp
 split at he
 ·rename_i u hu
  split at he
  ·rename_i hf
   obtain⟨⟨b,e'⟩,ZM,Ty⟩:=Option.bind_eq_some_iff.1 he
   cases b with
   |false=>cases Ty
   |true =>
   cases Ty
   have GW:keyOf Sg f (vs++cap)%1000=f:=by rw[wG];exact Nat.mod_eq_of_lt hf
   have hx:iz P f u:=by rw[←GW];exact hX _ _ _ hSg hu
   rw[GW]at DO
   refine⟨f,us.toArray++ws,by rw[hex ws rfl];exact jr DO _,?_⟩
   rw[PI]
   exact hx g hB bC hN bu nL kU EX ZM
  ·cases he
 split at he
 ·rename_i i0 nr E4
  split at he
  ·rename_i Nb
   simp only[Bool.and_eq_true,List.isEmpty_iff]at Nb
   obtain⟨rfl,_⟩:=Nb
   split at he
   rotate_left
   ·cases he
   rename_i x b hx hb qT
   obtain⟨y,hy,he⟩:=Option.bind_eq_some_iff.1 he
   simp only[O8,Bool.and_eq_true,decide_eq_true_eq]at E4
   obtain⟨_,_,⟨hlen,hf⟩,_⟩:=E4
   have C3:=(hF _ _ _ _ hSg hy).zero (GS hb)
   have GW:keyOf Sg f (vs++cap)%1000=f:=by rw[wG];exact Nat.mod_eq_of_lt hf
   rw[GW]at DO
   have hN':∀j,j<gg.rs.length+16→N (id+128+j):=fun j hj=>by rw[Nat.add_assoc];exact hN _ (by omega)
   refine⟨f,us.toArray++ws,by rw[hex ws rfl];exact jr DO _,?_⟩
   rw[PI]
   unfold ZB at C3
   rw[GW]at C3
   by_cases qS:qC (vs++cap)=true
   ·rw[qS,Bool.or_true]at he
    cases he
    have h1:an Z Jm gi w (DJ gg x) (us++ws.toList):=AO gs (fun _ h=>h) gg.ps 0 _ _ x (fun v hv i b hi _ _=>(qU qS v hv i hi).elim) nr hx E3
    refine(C3 Z w _ g.jM h1).mono fun en w' ⟨v,Z',ψ',e1,h2,h3,h4,h5,h6⟩=>?_
    obtain⟨tU,n,hr⟩:=wH (nb:=id) qT g hB bu hN' h4 h2 h3 h5 h6
    exact⟨v,Z',tU,e1,n,hr⟩
   ·cases hfl:gg.rs.all RK.flat with
    |true =>
     rw[hfl,Bool.true_or]at he
     cases he
     let Zc:Nat→Prop:=fun b=>b<w.heap.size
     have h1:an Zc Jm gi w (DJ gg x) (us++ws.toList):=AO gs g.jM gg.ps 0 _ _ x (fun v hv i b hi h1 h2=>gs.bP ⟨i,h1,h2⟩) nr hx E3
     refine(C3 Zc w _ (fun _ h=>h) h1).mono fun en w' ⟨v,Z',ψ',e1,h2,h3,h4,h5,h6⟩=>?_
     have ZN:=M3 gg.rs 3000 y.1 hfl qT
     have h7:az Z ψ' (ak gg.rs 3000 y.1).get w' (fe (aW gg.rs [] 2000 3000 y.1)) v:=tR rfl (fun vs tH=>PA gg.rs hfl qT tH) h6
     have gz:Good Z ψ' (ak gg.rs 3000 y.1).get w' w.heap.size (fun _=>False):=by
      rw[ZN]
      exact⟨fun _ _ _ hb=>by simp[Heap.get]at hb,fun _ _ _ hb=>by simp[Heap.get]at hb,fun _ _ hb=>by simp[Heap.get]at hb,fun _ _ _ hb=>by simp[Heap.get]at hb,fun b hb=>Nat.lt_of_lt_of_le (g.jM b hb) h4.size⟩
     obtain⟨tU,n,hr⟩:=wH (nb:=id) qT g hB bu hN' h4 (fun _ h=>h) (fun _ h=>.inl h) gz h7
     exact⟨v,Z,tU,e1,n,hr⟩
    |false =>
     rw[hfl,Bool.false_or,Bool.eq_false_iff.2 qS]at he
     cases he
     have heq:=nL _ _ rfl
     subst heq
     let cs:=dq gg.ps (vs++cap)
     have T0:∀b,qy Z ψ hh.get cs b→Z b∨Own ψ hh.get b:=fun b hb=>hb.imp (fun h=>h) (fun⟨i,_,h2,h3⟩=>⟨i,h2,h3⟩)
     have gd:Good (qy Z ψ hh.get cs) ψ (cI hh cs).get w B0 O:=iv g cs
     have h1:an (qy Z ψ hh.get cs) Jm gi w (DJ gg x) (us++ws.toList) :=
      AO gs (fun _ h=>.inl h) gg.ps 0 _ _ x (fun v hv i b hi h1 h2=>.inr ⟨i,uV _ _ nr v hv i hi,h1,h2⟩) nr hx E3
     refine(C3 _ w _ gd.jM h1).mono fun en w' ⟨v,Z',ψ',e1,h2,h3,h4,h5,h6⟩=>?_
     obtain⟨tU,n,hr⟩:=wH (nb:=id) qT gd hB (fun i ty cs hb=>bu i ty cs (dZ _ _ _ _ hb)) hN' h4 h2 h3 h5 h6
     have e2:(bI.wr (fe (aW gg.rs [] id (id+128) y.1)) (ak gg.rs (id+128) y.1++cI hh (dq gg.ps (vs++cap)))).hp hh.get=(fun i=>match (ak gg.rs (id+128) y.1).get i with|some o=>some o|none=>(cI hh cs).get i):=by
      funext i
      simp only[bI.hp]
      rw[Heap.get_append]
      cases (ak gg.rs (id+128) y.1).get i<;>rfl
     rw[e2]
     exact⟨v,Z',tU,e1,n.drop (fun _ h=>.inl h) T0 (dZ _ _),hr⟩
  ·split at he
   rotate_left
   ·cases he
   rename_i x b hx hb C4
   obtain⟨y,hy,he⟩:=Option.bind_eq_some_iff.1 he
   rw[iK]at he
   cases he
   have heq:=nL _ _ rfl
   subst heq
   simp only[O8,Bool.and_eq_true,decide_eq_true_eq]at E4
   obtain⟨Xq,⟨hbl,tG⟩,⟨hlen,hf⟩,uX⟩:=E4
   rw[Bool.and_eq_true]at C4
   have C3:=hF _ _ _ _ hSg hy
   have GW:keyOf Sg f (vs++cap)%1000=f:=by rw[wG];exact Nat.mod_eq_of_lt hf
   rw[GW]at DO
   refine⟨f,us.toArray++ws,by rw[hex ws rfl];exact jr DO _,?_⟩
   rw[PI]
   unfold DN at C3
   rw[GW]at C3
   have hl:i0.length=gg.bs.length:=(jo _ _ _ hb).1
   have AX:=(jo _ _ _ hb).2
   have hle:(aP gg.bs.length).length=gg.bs.length:=by simp[aP]
   let kL:=dq gg.ps (vs++cap)++fW gg.bs hh i0
   let L1:List yc:=cx gg.bs hh i0 (aP gg.bs.length) 2000 b
   have eH1:dD L1=bA gg.bs (aP gg.bs.length) 2000 b:=jn _ _ _ _ _ _ hb hle
   have eN1:L1.map (·.1)=bZ gg.bs (aP gg.bs.length) 2000:=gZ _ _ _ _ _ _ hb hle
   have eS1:L1.filterMap (·.2.1)=c8 gg.bs hh i0:=kf _ _ _ _ _ _ hb hle
   have YV:cc (L1.map (·.1))=true:=by rw[eN1];exact GU uX
   have Xm:=zu (ψ:=ψ) YV
   have Jn:=(rX C4.1).2 hh
   have xX:∀b,Z b→qy Z ψ hh.get kL b:=fun b hb=>.inl hb
   have ZO:∀e∈L1,uT (qy Z ψ hh.get kL) ψ (cI hh kL).get w (dD L1).get (eX ψ L1) e:=fun e he =>
    lO gs xX gg.bs _ _ 2000 b hb (fun i b bO h1 h2=>.inr ⟨i,List.mem_append_right _ bO,h1,h2⟩) Jn Xm e he
   have gin:Good (qy Z ψ hh.get kL) (eX ψ L1) (dD L1).get w B0 O:=wF gs C4.1 YV eS1 ZO
   have ein:(dD L1).get=pz gg (x,b):=by rw[eH1];rfl
   have PJ:∀p∈i0.zip (aP gg.bs.length),(p.2,some p.1)∈L1.map (fun e=>(e.1,e.2.1)):=fun p hp=>by
    obtain⟨o,ho⟩:=kg (hh:=hh) gg.bs i0 (aP gg.bs.length) 2000 b hl p hp
    exact List.mem_map.2 ⟨_,ho,rfl⟩
   have ZP:∀p∈i0.zip (aP gg.bs.length),eX ψ L1 p.2=ψ p.1:=fun p hp=>by
    obtain⟨⟨i,s,o⟩,ho,he⟩:=List.mem_map.1 (PJ p hp)
    cases he
    exact iI YV ho
   have Xs:an (qy Z ψ hh.get kL) (eX ψ L1) (dD L1).get w (E0 gg (x,b)) (us++ws.toList) :=
    lp gs xX gg.ps i0 (aP gg.bs.length) 0 _ _ x (by rw[hle,hl]) nr hx (fun i b bO h1 h2=>.inr ⟨i,List.mem_append_left _ bO,h1,h2⟩)
     (fun p hp=>⟨AX _ (List.of_mem_zip hp).1,fun _=>ZP p hp⟩) E3
   have tJ:∀c,Own (eX ψ L1) (pz gg (x,b)) c→∃s,s∈c8 gg.bs hh i0∧hh.get s≠none∧ob (ψ s)=some c:=fun c ⟨i,h1,h2⟩=>by
    rw[←ein]at h1
    obtain⟨o,ho⟩:=Option.ne_none_iff_exists'.1 h1
    obtain⟨s,hm⟩:=n8 ho
    rw[iI YV hm]at h2
    cases s with
    |none=>simp[jP,ob]at h2
    |some s =>
     have hs:s∈c8 gg.bs hh i0:=by rw[←eS1];exact List.mem_filterMap.2 ⟨_,hm,rfl⟩
     refine⟨s,hs,?_,h2⟩
     have h3:=ZO _ hm
     rw[←Jn s hs]
     cases o with
     |box ty cs=>obtain⟨⟨cs0,h4⟩,_⟩:=h3;rw[h4];simp
     |own ok xs=>rw[show(cI hh kL).get s=some (.own ok xs) from h3];simp
   refine(C3 (qy Z ψ hh.get kL) (eX ψ L1) w (us++ws.toList) (by rw[←ein];exact gin.E2 _) (by rw[←ein];exact Xs)).mono fun en w' ⟨v,Z',dW,e1,h2,h3,h4,h5,h6,h7⟩=>?_
   obtain⟨L2,ZQ,eN2,g3,Zu,Xt⟩:=M8 (x:=(x,b)) (y:=y) (id:=id) hl Xq uX C4.2 h5 h7
   have TF:∀i ty cs,(dD L2).get i=some (.box ty cs)→aC (fun j=>(dD L2).get j≠none) cs:=fun i ty cs hg=>by
    have gR:=get_mem hg
    rw[ZQ]at gR
    rcases List.mem_append.1 gR with gR|gR
    ·exact s5 gg.bs _ id y.2 (fun e he=>by rw[ZQ];exact zz (o:=e.2) (List.mem_append_left _ he)) i ty cs gR
    ·exfalso
     have:∀(rs:List RK) (m:Nat) (y:lG rs),(i,Ob.box ty cs)∉ak rs m y:=by
      intro rs
      induction rs with
      |nil=>intro m y;simp[ak]
      |cons r rs ih =>
       intro m y
       cases r with
       |agg c=>simp only[ak,List.mem_append,not_or];exact⟨mQ _ _ _ _ _ _,ih (m+1) y.2⟩
       |val k=>exact ih (m+1) y.2
       |eV _ _=>exact ih (m+1) y.2
       |own ok=>simp only[ak,List.mem_cons,not_or];exact⟨by simp,ih (m+1) y.2⟩
     exact this _ _ _ gR
   have ZR:∀i,(dD L2).get i≠none→(i∈c8 gg.bs hh i0∧hh.get i≠none∧eX dW L2 i=ψ i)∨N i:=fun i hi=>by
    obtain⟨o,ho⟩:=Option.ne_none_iff_exists'.1 hi
    obtain⟨s,hm⟩:=n8 ho
    have gR:i∈bZ gg.bs i0 id++bB gg.rs (id+128):=by rw[←eN2];exact List.mem_map.2 ⟨_,hm,rfl⟩
    have hNr:∀i,id≤i→i<id+256→N i:=fun i h1 h2=>by
     have:=hN (i-id) (by omega)
     rwa [show id+(i-id)=i by omega]at this
    rcases List.mem_append.1 gR with gR|gR
    ·rcases uY _ _ _ _ tG gR with h8|h8
     ·refine .inl ⟨ym _ _ _ hl h8,AX i h8,?_⟩
      obtain⟨ee,h9,nq⟩:=PH (by rw[hle,hl]) i h8
      rw[Zu (ee,i) nq]
      have yV:ee∈aP gg.bs.length:=(List.of_mem_zip nq).1
      rw[h6 ee yV]
      exact ZP (i,ee) h9
     ·exact .inr (hNr i h8.1 (by omega))
    ·have h8:=js _ _ _ Xq gR
     exact .inr (hNr i (by omega) (by omega))
   obtain⟨AW,h8,nx⟩:=M9 (N:=N) gs hB Jn bu tJ h2 h3 h4 g3 TF ZR
   have eH3:(bI.wr (fe (aW gg.rs i0 id (id+128) y.1)) (bA gg.bs i0 id y.2++(ak gg.rs (id+128) y.1++gW (cI hh (dq gg.ps (vs++cap)++fW gg.bs hh i0)) (c8 gg.bs hh i0)))).hp hh.get =
     (dD L2++gW (cI hh kL) (c8 gg.bs hh i0)).get:=by
    rw[ZQ,List.append_assoc];rfl
   rw[eH3]
   refine⟨v,Z',AW,e1,nx,?_⟩
   refine Xt.move (p:=fun j=>(dD L2).get j≠none) (fun _ h=>h) (ct.refl _ _) (fun j hp _=>⟨hp,h8 j hp⟩) ?_
   refine JV (kj hl gg.rs _ id (id+128) y.1 Xq (fun i hi=>?_) fun i hi=>?_)
   ·rw[←fM gg.rs (id+128) y.1]at hi
    obtain⟨e,he,rfl⟩:=List.mem_map.1 hi
    rw[ZQ];exact zz (o:=e.2) (List.mem_append_right _ he)
   ·rw[←lT gg.bs i0 id y.2 hl]at hi
    obtain⟨e,he,rfl⟩:=List.mem_map.1 hi
    rw[ZQ];exact zz (o:=e.2) (List.mem_append_left _ he)
 ·cases he
end Go.Vs
namespace Go.Vs
variable {P:Program} {Eqs:TypeId→Option K} {Sg:FuncId→Option aN} {F:(f:FuncId)→(g:aN)→g.A→Option g.B} {R:Type} {k:bI→Option R}
theorem bR{c:Bool}{e:bI}:cond c (k e) none=(cond c (some e) none).bind k:=by cases c<;>rfl
theorem bK{c:Bool}{e:bI}:cond c none (k e)=(cond c none (some e)).bind k:=by cases c<;>rfl
theorem bL{c:Bool}{e e':bI}:cond c (k e) (k e')=(cond c (some e) (some e')).bind k:=by cases c<;>rfl
theorem bS{α:Type}(o:Option α)(f:α→Option R)(g:α→Option bI)(h:∀x,f x=(g x).bind k):o.bind f=(o.bind g).bind k:=by cases o with
 |none=>rfl
 |some x=>exact h x
theorem JX{h:Heap}{id:Nat}{t:TypeId}{s x:AV}:nS P h id t s x k=(nS P h id t s x some).bind k:=by unfold nS;repeat' (first|rfl|exact bR|exact bK | exact bL|(refine bS _ _ _ (fun _=>?_))|split)
theorem Nc{h:Heap}{t:TypeId}{s x:AV}:rG P h t s x k=(rG P h t s x some).bind k:=by unfold rG;repeat' (first|rfl|exact bR|exact bK | exact bL|(refine bS _ _ _ (fun _=>?_))|split)
theorem PL{h:Heap}{t:TypeId}{s:AV}:lH P h t s k=(lH P h t s some).bind k:=by unfold lH;repeat' (first|rfl|exact bR|exact bK | exact bL|(refine bS _ _ _ (fun _=>?_))|split)
theorem C5{h:Heap}{t:TypeId}{s x:AV}:dy P h t s x k=(dy P h t s x some).bind k:=by unfold dy;repeat' (first|rfl|exact bR|exact bK | exact bL|(refine bS _ _ _ (fun _=>?_))|split)
theorem PM{x:AV}{lo hi mx:Option AV}:wi x lo hi mx k=(wi x lo hi mx some).bind k:=by unfold wi;repeat' (first|rfl|exact bR|exact bK | exact bL|(refine bS _ _ _ (fun _=>?_))|split)
theorem Nd{h:Heap}{sz:Nat}{x:AV}{lo hi mx:Option AV}:oV h sz x lo hi mx k=(oV h sz x lo hi mx some).bind k:=by unfold oV;repeat' (first|rfl|exact bR|exact bK | exact bL|(refine bS _ _ _ (fun _=>?_))|split)
theorem Ug{h:Heap}{x:AV}:Dv h x k=(Dv h x some).bind k:=by unfold Dv;repeat' (first|rfl|exact bR|exact bK | exact bL|(refine bS _ _ _ (fun _=>?_))|split)
theorem Uh{op:BinOp}{t:TypeId}{x y:AV}:xO P Eqs op t x y k=(xO P Eqs op t x y some).bind k:=by unfold xO;repeat' (first|rfl|exact bR|exact bK | exact bL|(refine bS _ _ _ (fun _=>?_))|split)
theorem GX(rs:List RK)(x:lG rs)(f:lG rs→Option R)(g:lG rs→Option bI)(h:∀z,f z=(g z).bind k):jK rs x f=(jK rs x g).bind k:=by rw[iK,iK];exact h x
theorem PN{h:Heap}{id:Nat}{f:FuncId}{vs:List AV}:jk Sg F h id f vs k=(jk Sg F h id f vs some).bind k:=by unfold jk;repeat' (first|rfl|exact bR|exact bK | exact bL|(refine bS _ _ _ (fun _=>?_))|(refine GX _ _ _ _ (fun _=>?_))|split)
theorem PO{id:Nat}{t:TypeId}{vs:List AV}:wq id t vs k=(wq id t vs some).bind k:=rfl
theorem Ng{t:TypeId}{ps:List (Nat×AV)}:rJ P t ps k=(rJ P t ps some).bind k:=by unfold rJ;repeat' (first|rfl|exact bR|exact bK | exact bL|(refine bS _ _ _ (fun _=>?_))|split)
theorem E5{h:Heap}{id:Nat}{t:TypeId}{n:Nat}{ps:List (Nat×AV)}:uB P h id t n ps k=(uB P h id t n ps some).bind k:=by unfold uB;repeat' (first|rfl|exact bR|exact bK | exact bL|(refine bS _ _ _ (fun _=>?_))|split)
theorem PQ{kL:Bool}{h:Heap}{id:Nat}{t:TypeId}{n:Nat}{ps:List (Nat×AV)}:wu P kL h id t n ps k=(wu P kL h id t n ps some).bind k:=by
 unfold wu
 rw[E5,E5 (k:=fun e=>some (if kL then TU e else e)),Option.bind_assoc]
 rfl
theorem PR{s d:TypeId}{x:AV}:Aj P s d x k=(Aj P s d x some).bind k:=by unfold Aj;repeat' (first|rfl|exact bR|exact bK | exact bL|(refine bS _ _ _ (fun _=>?_))|split)
theorem Xu{b:Bool}{vs:List AV}:MK b vs k=(MK b vs some).bind k:=by unfold MK;repeat' (first|rfl|exact bR|exact bK | exact bL|(refine bS _ _ _ (fun _=>?_))|split)
theorem PS{h:Heap}{x:AV}:wj h x k=(wj h x some).bind k:=by unfold wj;repeat' (first|rfl|exact bR|exact bK | exact bL|(refine bS _ _ _ (fun _=>?_))|split)
theorem GY{id:Nat}{t:TypeId}:ln P Eqs id t k=(ln P Eqs id t some).bind k:=by unfold ln;repeat' (first|rfl|exact bR|exact bK | exact bL|(refine bS _ _ _ (fun _=>?_))|split)
theorem JY{h:Heap}{t:TypeId}{m i:AV}{ok:Bool}:nT P Eqs h t m i ok k=(nT P Eqs h t m i ok some).bind k:=by unfold nT;repeat' (first|rfl|exact bR|exact bK | exact bL|(refine bS _ _ _ (fun _=>?_))|split)
theorem JZ{h:Heap}{t:TypeId}{m i v:AV}:iH P Eqs h t m i v k=(iH P Eqs h t m i v some).bind k:=by unfold iH;repeat' (first|rfl|exact bR|exact bK | exact bL|(refine bS _ _ _ (fun _=>?_))|split)
theorem J0{h:Heap}{t:TypeId}{m i:AV}:nV P Eqs h t m i k=(nV P Eqs h t m i some).bind k:=by unfold nV;repeat' (first|rfl|exact bR|exact bK | exact bL|(refine bS _ _ _ (fun _=>?_))|split)
theorem J1{id:Nat}{t:TypeId}{x:AV}:nW P id t x k=(nW P id t x some).bind k:=by unfold nW;repeat' (first|rfl|exact bR|exact bK | exact bL|(refine bS _ _ _ (fun _=>?_))|split)
theorem Nh{h:Heap}{x:AV}:rH h x k=(rH h x some).bind k:=by unfold rH;repeat' (first|rfl|exact bR|exact bK | exact bL|(refine bS _ _ _ (fun _=>?_))|split)
theorem Ni{h:Heap}{x:AV}:rI h x k=(rI h x some).bind k:=by unfold rI;repeat' (first|rfl|exact bR|exact bK | exact bL|(refine bS _ _ _ (fun _=>?_))|split)
theorem lq{id:Nat}{h:Heap}{s:List (Nat×AV)}{o:Oper}:cV P Eqs Sg F id h s o k=(cV P Eqs Sg F id h s o some).bind k:=by
 obtain⟨dst,op,type,pos,after,guard⟩:=o
 cases op<;>simp only[cV] <;>
  repeat' (first|rfl|exact PQ|exact JX|exact Nc|exact PL|exact C5|exact PM|exact Nd|exact Ug|exact Uh|exact PN|exact PO|exact Ng|exact E5|exact PR|exact Xu|exact PS|exact GY|exact JY|exact JZ|exact J0|exact J1|exact Nh|exact Ni|exact bR|(refine bS _ _ _ (fun _=>?_))|split)
theorem Nj{id:Nat}{h h':Heap}{s:List (Nat×AV)}{o:Oper}(hf:nj o.op=true):cV P Eqs Sg F id h s o k=cV P Eqs Sg F id h' s o k:=by
 obtain⟨dst,op,type,pos,after,guard⟩:=o
 cases op<;>simp[nj]at hf<;>first|rfl|(rename_i u _ _;cases u<;>rfl)
theorem Ui{op:BinOp}{t:TypeId}{x y:AV}{e:bI}(he:xO P Eqs op t x y some=some e):∃v,e=.val v:=by
 unfold xO at he
 repeat' (first|(cases he;done)|exact⟨_,(Option.some.inj he).symm⟩|split at he)
 all_goals
  unfold cond at he
  split at he<;>first|(cases he;done)|exact⟨_,(Option.some.inj he).symm⟩
theorem GZ{id:Nat}{h:Heap}{s:List (Nat×AV)}{o:Oper}{e:bI}(hf:nj o.op=true)(he:cV P Eqs Sg F id h s o some=some e):∃v,e=.val v:=by
 obtain⟨dst,op,type,pos,after,guard⟩:=o
 cases op<;>simp only[nj]at hf<;>first|(cases hf;done)|skip
 case unOp u t x =>
  cases u<;>simp only[cV]at he<;>repeat' (first|(cases he;done)|exact⟨_,(Option.some.inj he).symm⟩|split at he)
 case makeFunc fn first cap =>
  cases fn<;>simp only[cV]at he<;>repeat' (first|(cases he;done)|exact⟨_,(Option.some.inj he).symm⟩|split at he)
 all_goals simp only[cV]at he
 case binOp=>exact Ui he
 case slice =>
  repeat' (first|(cases he;done)|split at he)
  all_goals
   first|unfold wi at he|unfold oV at he
   repeat' (first|(cases he;done)|exact⟨_,(Option.some.inj he).symm⟩|split at he)
   all_goals
    unfold cond at he
    split at he<;>first|(cases he;done)|exact⟨_,(Option.some.inj he).symm⟩
 case build =>
  unfold rJ at he
  repeat' (first|(cases he;done)|exact⟨_,(Option.some.inj he).symm⟩|split at he)
 all_goals
  repeat' (first|(cases he;done)|exact⟨_,(Option.some.inj he).symm⟩|split at he)
end Go.Vs
namespace Go.Vs
variable {P:Program} {Eqs:TypeId→Option K} {Sg:FuncId→Option aN} {F:(f:FuncId)→(g:aN)→g.A→Option g.B} {R:Type}
variable {Z Z' Z0:Nat→Prop} {ψ ψ' ψ0:Nat→Value} {h h':Hp} {w w' w0:World} {B0:Nat} {O N:Nat→Prop}
structure Env(P:Program)(Eqs:TypeId→Option K)(Sg:FuncId→Option aN)(F:(f:FuncId)→(g:aN)→g.A→Option g.B):Prop where
 eqs:∀t k,Eqs t=some k→lL P t k
 con:∀f g x y,Sg f=some g→F f g x=some y→DN P f g x y
 spec:∀f g u,Sg f=some g→g.x=some u→iz P (f%1000) u
 G1:∀f g,Sg f=some g→jq P (f%1000)
theorem G2{s:List (Nat×AV)}{ρC:Operand→Value}:∀(l:List Operand),(∀x∈l,az Z ψ h w (ρ s x) (ρC x))→an Z ψ h w (l.map (ρ s)) (l.map ρC)
 |[],_=>by simp[an]
 |x::r,hx=>by
  simp only[List.map_cons,an]
  exact⟨_,_,rfl,hx x List.mem_cons_self,G2 r fun y hy=>hx y (List.mem_cons_of_mem _ hy)⟩
theorem DP{s:List (Nat×AV)}{p:Nat→Prop}:∀(l:List Operand),(∀x∈l,aJ p (ρ s x))→aC p (l.map (ρ s))
 |[],_=>by simp[aC]
 |x::r,hx=>by
  simp only[List.map_cons,aC]
  exact⟨hx x List.mem_cons_self,DP r fun y hy=>hx y (List.mem_cons_of_mem _ hy)⟩
theorem VT(E:Env P Eqs Sg F){hh:Heap}{a:Act}{s:List (Nat×AV)}{o:Oper}(g:Good Z ψ h w B0 O)(hB:B0≤w.heap.size)(bC:∀id o,hh.get id=some o→h id=some o){id:Nat}(hN:makes o.op=true→∀j,j<256→N (id+j)){e:bI}
  (nM:∀x∈o.op.operands,az Z ψ h w (ρ s x) (a.eval x)) (hm:∀x∈o.op.operands,aJ (fun i=>¬N i) (ρ s x)) (bu:∀i ty cs,h i=some (.box ty cs)→aC (fun i=>¬N i) cs) (nL:∀v hw,e=.wr v hw→hh.get=h)
  (he:cV P Eqs Sg F id hh s o some=some e) {next:Act→World→Prop} {Q:Exit→Act→World→Prop}
  (hk:∀V w' Z' ψ',Next Z ψ h w B0 O N Z' ψ' (e.hp h) w'→az Z' ψ' (e.hp h) w' e.v V→next (a.put o.dst V) w'):o.wp P a w next Q:=by
 have d:gY P a.eval o Z ψ h w B0 O N e∨VR P a.eval o Z ψ h w B0 O N e:=by
  cases Jl:uS o with
  |false=>exact .inl (Pw E.eqs g hB bC (fun hm=>by simpa using hN hm 0 (by decide)) nM hm bu nL Jl he)
  |true =>
   refine .inr ?_
   obtain⟨dst,op,type,pos,after,guard⟩:=o
   cases op<;>simp[uS]at Jl
   rename_i c
   obtain⟨callee,args,argTypes⟩:=c
   cases callee<;>simp at Jl
   rename_i fo
   simp only[cV]at he
   split at he
   ·rename_i f cap hf
    simp only[Op.operands,Call.operands]at nM
    have h1:=nM fo (by simp)
    rw[hf]at h1
    have h2:an Z ψ h w (args.toList.map (ρ s)) (args.toList.map a.eval):=G2 _ fun x hx=>nM x (by simp;exact .inr (by simpa using hx))
    have hmf:=hm fo (by simp[Op.operands,Call.operands])
    rw[hf]at hmf
    simp only[aJ]at hmf
    have hma:aC (fun i=>¬N i) (args.toList.map (ρ s)):=DP _ fun x hx=>hm x (by simp[Op.operands,Call.operands];exact .inr (by simpa using hx))
    refine JW E.spec E.con E.G1 g hB bC (hN rfl) bu nL h1 h2 (pG hma hmf) (fun ws Xr=>?_) he
    simp only[execOp,resolve,Xr,Deferred.ofValue]
    simp only[pure_bind,invoke]
    congr 1
    apply Array.ext'
    simp
   ·cases he
 unfold Oper.wp
 rcases d with⟨V,w',Z',ψ',h1,h2,h3⟩|⟨f,args,h1,h2⟩
 ·rcases h1 with h1|⟨h1,rfl⟩
  ·rw[h1];exact hk V w' Z' ψ' h2 h3
  ·rw[h1];exact hk undef w' Z' ψ' h2 h3
 ·rw[h1,Oper.upon_enter]
  refine h2.mono fun en w' ⟨V,Z',ψ',e1,n,hr⟩=>?_
  subst e1
  exact hk V w' Z' ψ' n hr
structure Ok(Z0:Nat→Prop)(w0:World)(O:Nat→Prop)(ψ0:Nat→Value)(Z:Nat→Prop)(ψ:Nat→Value)(h:Hp)(w:World):Prop where
 dV:Good Z ψ h w w0.heap.size O
 fQ:∀b,Z0 b→Z b
 eL:∀b,Z b→Z0 b∨O b∨w0.heap.size≤b
 os:w.os=w0.os
 tape:w.tape=w0.tape
 output:w.output=w0.output
 size:w0.heap.size≤w.heap.size
 block:∀b,b<w0.heap.size→¬O b→w.heap[b]? = w0.heap[b]?
 fix:∀i,i<2000→h i≠none→ψ i=ψ0 i
theorem Ok.next(k:Ok Z0 w0 O ψ0 Z ψ h w)(hN:∀id,N id→2000≤id)(n:Next Z ψ h w w0.heap.size O N Z' ψ' h' w'):Ok Z0 w0 O ψ0 Z' ψ' h' w':=by
 have own:∀b,Own ψ h b→w0.heap.size≤b∨O b:=fun b ⟨id,h1,h2⟩=>(k.dV.live id b h1 h2).2
 refine⟨n.dV,fun b hb=>n.fQ b (k.fQ b hb),fun b hb=>?_,n.keep.os.trans k.os,n.keep.tape.trans k.tape,n.keep.output.trans k.output,Nat.le_trans k.size n.keep.size,fun b hb ho=>?_,fun i hi br=>?_⟩
 ·rcases n.eL b hb with h1|h1|h1
  ·exact k.eL b h1
  ·exact .inr (own b h1).symm
  ·exact .inr (.inr (Nat.le_trans k.size h1))
 ·rw[n.keep.block b (Nat.lt_of_lt_of_le hb k.size) (fun h1=>(own b h1).elim (fun h2=>by omega) ho)]
  exact k.block b hb ho
 ·rcases n.ids i br with⟨h1,h2⟩|h1
  ·rw[h2];exact k.fix i hi h1
  ·have:=hN i h1;omega
structure cP(Z:Nat→Prop)(ψ:Nat→Value)(h:Hp)(w:World)(n:Nat)(T:Nat→AV)(a:Act):Prop where
 rep:∀d,az Z ψ h w (T d) (a.tmps.getD d undef)
 size:a.tmps.size=n
 defers:a.defers=[]
theorem Nk:az Z ψ h w (.nh []) undef:=by simp only[az,an];exact⟨#[],rfl,rfl⟩
def iY(T:Nat→AV)(d:Option Tmp)(v:AV):Nat→AV:=match d with
 |some d=>ed T d v
 |none=>T
theorem hM(st:St)(d:Option Tmp)(v:AV):look (st.put d v).tmps=iY (look st.tmps) d v:=by
 cases d with
 |none=>rfl
 |some d =>
  funext i
  simp only[St.put,look,iY,ed]
  by_cases e:i=d
  ·subst e;simp
  ·rw[if_neg (fun x=>e x.symm),if_neg e]
theorem de(st:St)(d:Option Tmp)(v:AV):(st.put d v).heap=st.heap:=by cases d<;>rfl
theorem DQ{T:List (Nat×AV)}{d:Nat}{v:AV}(hv:look T d=v):ed (look T) d v=look T:=by
 funext i
 unfold ed
 split
 ·rename_i e;subst e;exact hv.symm
 ·rfl
theorem hY{a:Act}{d:Nat}{v:Value}(hd:d<a.tmps.size)(i:Nat):(a.put (some d) v).tmps.getD i undef=if i=d then v else a.tmps.getD i undef:=by
 simp only[Act.put]
 by_cases e:i=d
 ·subst e;simp[hd]
 ·simp[e,Array.getElem?_setIfInBounds_ne (Ne.symm e)]
theorem cv(a:Act)(d:Option Tmp)(v:Value):(a.put d v).tmps.size=a.tmps.size:=by cases d<;>simp[Act.put]
theorem put_defers(a:Act)(d:Option Tmp)(v:Value):(a.put d v).defers=a.defers:=by cases d<;>rfl
theorem cP.put{n:Nat}{T:Nat→AV}{a:Act}{o:Oper}{x:AV}{V:Value}(t:cP Z ψ h w n T a)(hd:im n o=true)(hx:az Z ψ h w x V):cP Z ψ h w n (iY T o.dst x) (a.put o.dst V):=by
 refine⟨fun d=>?_,by rw[cv];exact t.size,by rw[put_defers];exact t.defers⟩
 unfold im at hd
 split at hd
 ·rename_i d0 hd0
  rw[hd0]
  rw[hY (by rw[t.size];simpa using hd)]
  simp only[iY,ed]
  split
  ·exact hx
  ·exact t.rep d
 ·rename_i hd0
  rw[hd0];exact t.rep d
theorem cP.next{n:Nat}{T:Nat→AV}{a:Act}(t:cP Z ψ h w n T a)(g:Good Z ψ h w B0 O)(hn:Next Z ψ h w B0 O N Z' ψ' h' w')(hm:∀d,aJ (fun i=>¬N i) (T d)):cP Z' ψ' h' w' n T a :=
 ⟨fun d=>hn.rep g (hm d) (t.rep d),t.size,t.defers⟩
theorem qX{n:Nat}{s:List (Nat×AV)}{a:Act}(t:cP Z ψ h w n (look s) a)(x:Operand):az Z ψ h w (ρ s x) (a.eval x):=by
 cases x with
 |tmp i=>exact t.rep i
 |const v=>exact GB v
 |global g=>simp only[ρ,az]
 |func f=>simp only[ρ,az,an,Act.eval];exact⟨#[],rfl,rfl⟩
theorem AY(p:Nat→Prop)(v:Value):aJ p (tz v):=by
 cases v with
 |agg cs=>simp only[tz,aJ];exact wD p _
 |_=>simp only[tz];exact AM p _
theorem Nl{p:Nat→Prop}{s:List (Nat×AV)}(hm:∀d,aJ p (look s d))(x:Operand):aJ p (ρ s x):=by
 cases x with
 |tmp i=>exact hm i
 |const v=>exact AY p v
 |global g=>simp only[ρ,aJ]
 |func f=>simp only[ρ,aJ,aC]
def mz(rid:Nat)(S:Nat→Prop)(id:Nat):Prop:=id / 32768=rid+1→S (id / 256%128)
def Of(rid i id:Nat):Prop:=id / 256=(rid+1)*128+i
theorem Of.parts{rid i id:Nat}(hi:i<128)(h:Of rid i id):id / 32768=rid+1∧id / 256%128=i:=by
 unfold Of at h
 constructor<;>omega
theorem Of.of{rid i id:Nat}(h:id / 32768=rid+1)(hi:id / 256%128=i):Of rid i id:=by
 unfold Of;omega
theorem Lr{rid i j:Nat}(hj:j<256):Of rid i (opId rid i+j):=by
 unfold Of opId;omega
theorem G3{rid i:Nat}:Of rid i (opId rid i):=by unfold Of opId;omega
theorem mz.AZ{rid i id:Nat}{S:Nat→Prop}(hi:i<128)(hs:¬S i)(h:mz rid S id):¬Of rid i id:=fun ho=>by
 obtain⟨h1,h2⟩:=ho.parts hi
 have:=h h1
 rw[h2]at this
 exact hs this
theorem od{rid bits id:Nat}{S:Nat→Prop}(hb:∀j,bits.testBit j=true→S j)(h:qI rid bits id=true):mz rid S id:=fun h1=>by
 unfold qI at h
 simp only[Bool.or_eq_true,bne_iff_ne,ne_eq]at h
 exact hb _ (h.resolve_left (fun h2=>h2 h1))
mutual
theorem pH{rid bits:Nat}{S:Nat→Prop}(hb:∀j,bits.testBit j=true→S j):∀{v:AV},sO rid bits v=true→aJ (mz rid S) v
 |.ref id s i off,h=>by simp only[sO]at h;simp only[aJ];exact od hb h
 |.bH id,h=>by simp only[sO]at h;simp only[aJ];exact od hb h
 |.fn f cap,h=>by simp only[sO]at h;simp only[aJ];exact lV hb h
 |.agg cs,h=>by simp only[sO]at h;simp only[aJ];exact lV hb h
 |.nh cs,h=>by simp only[sO]at h;simp only[aJ];exact lV hb h
 |.no,_=>by simp only[aJ]
 |.bool _,_=>by simp only[aJ]
 |.int _ _,_=>by simp only[aJ]
 |.str _,_=>by simp only[aJ]
 |.kX,_=>by simp only[aJ]
 |.fV,_=>by simp only[aJ]
 |.fp _ _ _,_=>by simp only[aJ]
 |.sl _ _ _,_=>by simp only[aJ]
 |.mp _ _ _,_=>by simp only[aJ]
theorem lV{rid bits:Nat}{S:Nat→Prop}(hb:∀j,bits.testBit j=true→S j):∀{v:List AV},Al rid bits v=true→aC (mz rid S) v
 |[],_=>by simp only[aC]
 |v::r,h=>by
  simp only[Al,Bool.and_eq_true]at h
  simp only[aC]
  exact⟨pH hb h.1,lV hb h.2⟩
end
theorem lW{rid bits:Nat}{S:Nat→Prop}(hb:∀j,bits.testBit j=true→S j):∀{hh:Heap},xR rid bits hh=true→∀id o,hh.get id=some o→mz rid S id∧∀ty cs,o=.box ty cs→aC (mz rid S) cs
 |[],_,id,o,hg=>by simp[Heap.get]at hg
 |(i,ob)::r,h,id,o,hg=>by
  simp only[Heap.get]at hg
  split at hg
  ·rename_i e
   subst e
   cases hg
   cases ob with
   |box ty cs =>
    simp only[xR,Bool.and_eq_true]at h
    exact⟨od hb h.1.1,fun yS cs' he=>by cases he;exact lV hb h.1.2⟩
   |own ok xs =>
    simp only[xR,Bool.and_eq_true]at h
    exact⟨od hb h.1,fun yS cs' he=>by cases he⟩
  ·refine lW hb ?_ id o hg
   cases ob<;>simp only[xR,Bool.and_eq_true]at h<;>exact h.2
def bI.heap(e:bI)(h:Heap):Heap:=match e with
 |.wr _ h'=>h'
 |e=>e.h h
theorem bI.G4(e:bI)(hh:Heap):(e.heap hh).get=e.hp hh.get:=by
 cases e with
 |val v=>rfl
 |new v os=>funext i;simp only[bI.heap,bI.h,bI.hp];rw[Heap.get_append];cases Heap.get os i<;>rfl
 |wr v h'=>rfl
def s6(p:Nat→Prop)(h:Hp):Prop:=∀i ty cs,h i=some (.box ty cs)→aC p cs
theorem A1{ops:Array Oper}{o:Oper}{n:Nat}{T:Nat→AV}{a:Act}(t:cP Z ψ h w n T a){j d:Nat}{want:Bool}(hg:o.guard=some (j,want))(hd:(ops[j]?).bind (·.dst)=some d){b:Bool}(hb:T d=.bool b) :
  Region.wanted o (yielded ops a.tmps)=(b==want):=by
 have h1:=t.rep d
 rw[hb]at h1
 simp only[az]at h1
 have h2:a.tmps[d]? = some (.bool b):=by
  rw[Array.getD_eq_getD_getElem?]at h1
  cases e:a.tmps[d]? with
  |none=>rw[e]at h1;simp[undef]at h1
  |some v=>rw[e]at h1;simpa using h1
 unfold Region.wanted yielded
 rw[hg]
 simp only[hd,Option.bind_some,h2]
 cases b<;>cases want<;>rfl
theorem yp{ops:Array Oper}{o:Oper}{n:Nat}{T:Nat→AV}{a:Act}(t:cP Z ψ h w n T a){j d:Nat}{want:Bool}(hg:o.guard=some (j,want))(hd:(ops[j]?).bind (·.dst)=some d){vs:List AV}(hb:T d=.nh vs) :
  Region.wanted o (yielded ops a.tmps)=false:=by
 have h1:=t.rep d
 rw[hb]at h1
 simp only[az]at h1
 obtain⟨us,h1,_⟩:=h1
 unfold Region.wanted yielded
 rw[hg]
 simp only[hd,Option.bind_some]
 rw[Array.getD_eq_getD_getElem?]at h1
 cases e:a.tmps[d]? with
 |none=>rfl
 |some v=>rw[e]at h1;simp at h1;subst h1;rfl
def A2(ops:Array Oper):Nat→List (Nat×Oper)→Prop
 |_,[]=>True
 |i,(j,o)::r=>j=i∧ops[i]? = some o∧A2 ops (i+1) r
theorem G5(ops:Array Oper):∀(l:List Oper) (i:Nat),(∀k o,l[k]? = some o→ops[i+k]? = some o)→A2 ops i ((l.zipIdx i).map fun p=>(p.2,p.1))
 |[],_,_=>by simp[A2]
 |o::r,i,h=>by
  simp only[List.zipIdx_cons,List.map_cons,A2]
  exact⟨trivial,h 0 o rfl,G5 ops r (i+1) fun k o' hk=>by rw[Nat.add_assoc,Nat.add_comm 1 k];exact h (k+1) o' hk⟩
theorem og(ops:Array Oper):A2 ops 0 (ops.toList.zipIdx.map fun p=>(p.2,p.1)):=G5 ops _ 0 fun k o hk=>by simpa using hk
theorem DR(ops:Array Oper):(ops.toList.zipIdx.map fun p=>(p.2,p.1)).map Prod.fst=List.range ops.size:=by
 rw[List.map_map]
 have:(Prod.fst ∘ fun(p:Oper×Nat)=>(p.2,p.1))=Prod.snd:=rfl
 rw[this,List.zipIdx_map_snd,List.range_eq_range',Array.length_toList]
structure J(p:Nat→Prop)(n:Nat)(Z0:Nat→Prop)(w0:World)(O:Nat→Prop)(ψ0:Nat→Value)(Z:Nat→Prop)(ψ:Nat→Value)(T:Nat→AV)(h:Hp)(a:Act)(w:World):Prop where
 ok:Ok Z0 w0 O ψ0 Z ψ h w
 tr:cP Z ψ h w n T a
 tm:∀d,aJ p (T d)
 hm:s6 p h
theorem J.imp{p q:Nat→Prop}{n:Nat}{T:Nat→AV}{a:Act}(j:J p n Z0 w0 O ψ0 Z ψ T h a w)(AI:∀id,p id→q id):J q n Z0 w0 O ψ0 Z ψ T h a w :=
 ⟨j.ok,j.tr,fun d=>(j.tm d).imp AI,fun id ty cs hb=>(j.hm id ty cs hb).imp AI⟩
theorem J.op(E:Env P Eqs Sg F){rid n i:Nat}{p:Nat→Prop}{T:Nat→AV}{a:Act}{s:List (Nat×AV)}{o:Oper}(hS:makes o.op=true→∀id,p id→¬Of rid i id)(j:J p n Z0 w0 O ψ0 Z ψ T h a w)(hd:im n o=true)
  (hT:∀x∈o.op.operands,az Z ψ h w (ρ s x) (a.eval x)) (hTm:∀x∈o.op.operands,aJ p (ρ s x)) {hh:Heap} (bC:∀id o,hh.get id=some o→h id=some o) {e:bI} (he:cV P Eqs Sg F (opId rid i) hh s o some=some e) (nL:∀v hw,e=.wr v hw→hh.get=h)
  {p':Nat→Prop} (OP:∀k,p k→p' k) (hv:aJ p' e.v) (Xv:s6 p' (e.hp h)) {next:Act→World→Prop} {Q:Exit→Act→World→Prop}
  (hk:∀a' w' Z' ψ',J p' n Z0 w0 O ψ0 Z' ψ' (iY T o.dst e.v) (e.hp h) a' w'→next a' w'):o.wp P a w next Q:=by
 have Xw:∀id,p id→¬(makes o.op=true∧Of rid i id):=fun id h ⟨h1,h2⟩=>hS h1 id h h2
 refine VT (N:=fun id=>makes o.op=true∧Of rid i id) E j.ok.dV j.ok.size bC (id:=opId rid i) (fun hm k hk=>⟨hm,Lr hk⟩) hT (fun x hx=>(hTm x hx).imp Xw) (fun id ty cs hb=>(j.hm id ty cs hb).imp Xw) nL he fun V w' Z' ψ' nx hr=>?_
 refine hk _ w' Z' ψ' ⟨j.ok.next (fun id h=>by have:=h.2;unfold Of at this;omega) nx,(j.tr.next j.ok.dV nx (fun d=>(j.tm d).imp Xw)).put hd hr,fun d=>?_,Xv⟩
 cases kP:o.dst with
 |none=>exact(j.tm d).imp OP
 |some d0 =>
  simp only[iY,ed]
  split
  ·exact hv
  ·exact(j.tm d).imp OP
theorem J.skip{n:Nat}{p p':Nat→Prop}{T:Nat→AV}{a:Act}{o:Oper}(j:J p n Z0 w0 O ψ0 Z ψ T h a w)(hd:im n o=true)(OP:∀k,p k→p' k) :
  J p' n Z0 w0 O ψ0 Z ψ (iY T o.dst (.nh [])) h (a.put o.dst undef) w:=by
 refine⟨j.ok,j.tr.put hd Nk,fun d=>?_,fun id ty cs hb=>(j.hm id ty cs hb).imp OP⟩
 cases kP:o.dst with
 |none=>exact(j.tm d).imp OP
 |some d0 =>
  simp only[iY,ed]
  split
  ·simp only[aJ,aC]
  ·exact(j.tm d).imp OP
theorem Uj{hh:Heap}(g:Good Z ψ hh.get w B0 O){m:Nat}{kk vk:K}{es:List (kk.T×vk.T)}(hg:hh.get m=some (.own (.map kk vk) es))(n:Next Z ψ hh.get w B0 O N Z' ψ' h' w')(hzm:∀b,ob (ψ m)=some b→Z' b)
  (hold:∀b,b<w.heap.size→w'.heap[b]? = w.heap[b]?) {v:AV} {V:Value} (hm:aJ (fun id=>¬N id) v) (hr:az Z ψ hh.get w v V):az Z' ψ' h' w' (yT m (.mp kk vk es) v) V:=by
 by_cases hv:v=.bH m
 ·subst hv
  simp only[yT,if_true]
  simp only[az]at hr
  have hu:=hr.2 (by rw[hg];simp)
  obtain⟨r,bW,clock,h1,h2,h3,_⟩:=g.row m (.map kk vk) es hg
  rw[h1]at hu
  subst hu
  have aF:=(Array.getElem?_eq_some_iff.1 h2).1
  simp only[az,aI]
  exact⟨some r,rfl,.inr ⟨r,bW,clock,rfl,hzm r (by rw[h1];rfl),(hold r aF).trans h2,h3.imp (fun _ _ h=>h.mono n.fQ (fun b hb=>hold b (g.jM b hb))) (fun _ _ h=>h.mono n.fQ (fun b hb=>hold b (g.jM b hb)))⟩⟩
 ·have hf:yT m (.mp kk vk es) v=v:=by
   unfold yT
   split
   ·split
    ·rename_i e;subst e;exact absurd rfl hv
    ·rfl
   ·rfl
  rw[hf]
  exact n.rep g hm hr
theorem PT{p:Nat→Prop}{m:Nat}{kk vk:K}{es:List (kk.T×vk.T)}{v:AV}(hm:aJ p v):aJ p (yT m (.mp kk vk es) v):=by
 unfold yT
 split
 ·split
  ·simp only[aJ]
  ·exact hm
 ·exact hm
theorem rZ(f:AV→AV)(hf:f .no=.no):∀(l:List (Nat×AV)) (d:Nat),look (l.map fun p=>(p.1,f p.2)) d=f (look l d)
 |[],_=>by simp only[List.map_nil,look];exact hf.symm
 |(i,v)::r,d=>by
  simp only[List.map_cons,look]
  split
  ·rfl
  ·exact rZ f hf r d
theorem J2{rid n i:Nat}{p p':Nat→Prop}{st eJ:St}{a:Act}{o:Oper}(hS:∀id,p id→¬Of rid i id)(OP:∀k,p k→p' k)(PC:p' (opId rid i))(j:J p n Z0 w0 O ψ0 Z ψ (look st.tmps) st.heap.get a w)(hd:im n o=true)(oi:oZ P (opId rid i) st o=some eJ) :
  ∃V w' Z' ψ',(execOp a.eval o).run P w=.ok (.value V) w'∧J p' n Z0 w0 O ψ0 Z' ψ' (look eJ.tmps) eJ.heap.get (a.put o.dst V) w':=by
 unfold oZ at oi
 split at oi
 ·rename_i t x E6
  split at oi
  ·rename_i ka va m hu hx
   split at oi
   ·rename_i kk vk es hg
    cases oi
    have YW:az Z ψ st.heap.get w (.bH m) (a.eval x):=by rw[←hx];exact qX j.tr x
    simp only[az]at YW
    have hev:=YW.2 (by rw[hg];simp)
    have g:=j.ok.dV
    obtain⟨r,bW,clock,h1,h2,h3,h4,h5⟩:=g.row m (.map kk vk) es hg
    rw[h1]at hev
    have aF:=(Array.getElem?_eq_some_iff.1 h2).1
    have gd:=iv g [.bH m]
    have ZS:∀b,ob (ψ m)=some b→qy Z ψ st.heap.get [.bH m] b:=fun b hb=>.inr ⟨m,by simp,by rw[hg];simp,hb⟩
    have hold:∀b,b<w.heap.size→(w.alloc (.mapIter (some r) clock #[] clock)).heap[b]? = w.heap[b]? := fun b hb=>heap_alloc_old w _ hb
    have hN:(Of rid i) (opId rid i):=G3
    have n1:=AG (N:=Of rid i) gd j.ok.size (opId rid i) hN (ok:=.iter kk vk) (x:=(none,es)) (v:=.pointer (some ⟨w.heap.size,0,none⟩)) (.mapIter (some r) clock #[] clock)
     ⟨w.heap.size,r,clock,#[],bW,clock,rfl,heap_alloc_new _ _,ZS r (by rw[h1];rfl),(hold r aF).trans h2,h4,rfl,h5,by
      rw[List.filter_eq_self.2 (fun e _=>by simp)]
      exact h3.imp (fun _ _ h=>h.mono (fun b hb=>.inl hb) (fun b hb=>hold b (g.jM b hb))) (fun _ _ h=>h.mono (fun b hb=>.inl hb) (fun b hb=>hold b (g.jM b hb))),trivial⟩ rfl
     (fun i' ty cs hb=>aC.imp (p:=p) (q:=fun i'=>i'≠opId rid i) (fun id hp e=>hS id hp (by rw[e];exact hN)) (j.hm i' ty cs (dZ _ _ _ _ hb)))
    have n2:=n1.drop (Z:=Z) (h:=st.heap.get) (fun b hb=>.inl hb) (fun b hb=>hb.imp (fun h=>h) (fun⟨id,_,h5,h6⟩=>⟨id,h5,h6⟩)) (dZ _ _)
    have fE:(ed (cI st.heap [.bH m]).get (opId rid i) (some (Ob.own (.iter kk vk) (none,es))))=Heap.get ((opId rid i,.own (.iter kk vk) (none,es))::st.heap.del m):=by
     funext k
     simp only[cI,drop1,ed,Heap.get]
     by_cases e:k=opId rid i
     ·subst e;simp
     ·rw[if_neg e,if_neg (fun h=>e h.symm)]
    rw[fE]at n2
    refine⟨.pointer (some ⟨w.heap.size,0,none⟩),w.alloc (.mapIter (some r) clock #[] clock),qy Z ψ st.heap.get [.bH m],ed ψ (opId rid i) (.pointer (some ⟨w.heap.size,0,none⟩)),?_,?_⟩
    ·obtain⟨dst,op,type,pos,after,guard⟩:=o
     simp only at E6
     subst E6
     have dv:(Instr.range t (.map (some r))).run P w=.ok (.pointer (some ⟨w.heap.size,0,none⟩)) (w.alloc (.mapIter (some r) clock #[] clock)):=by
      simp only[Instr.range,Sem.run_bind,run_underlying hu,Result.andThen_ok,gh h2 (by simp),Sem.run_pure];rfl
     simp[execOp,hev,dv]
    ·have bu:∀d,aJ (fun id=>¬Of rid i id) (look st.tmps d):=fun d=>(j.tm d).imp hS
     refine⟨by rw[de];exact j.ok.next (fun id h=>by unfold Of at h;omega) n2,?_,fun d=>?_,fun k ty cs hb=>?_⟩
     ·rw[hM,de]
      refine cP.put ⟨fun d=>?_,j.tr.size,j.tr.defers⟩ hd ?_
      ·rw[rZ _ rfl]
       exact Uj g hg n2 (fun b hb=>ZS b hb) hold (bu d) (j.tr.rep d)
      ·simp only[az]
       exact⟨⟨rfl,rfl⟩,fun _=>(bw _ _ _).symm⟩
     ·rw[hM]
      have hb:aJ p' (look (st.tmps.map fun q=>(q.1,yT m (.mp kk vk es) q.2)) d):=by rw[rZ _ rfl];exact PT ((j.tm d).imp OP)
      cases kP:o.dst with
      |none=>exact hb
      |some d0 =>
       simp only[iY,ed]
       split
       ·simp only[aJ];exact PC
       ·exact hb
     ·rw[de]at hb
      simp only[Heap.get]at hb
      split at hb
      ·cases hb
      ·exact(j.hm k ty cs (Heap.uI hb).1).imp OP
   ·cases oi
  ·cases oi
 ·cases oi
theorem om{R:Type}{n:Nat}{f:Nat→Option R}{r:R}(h:sK n f=some r):∀j,j<n→f j=some r:=by
 unfold sK at h
 split at h
 ·rename_i hx;cases h;exact Classical.choose_spec hx
 ·cases h
theorem mS{R:Type}{n:Nat}{f:Nat→Option R}{r:R}(hn:0<n)(h:∀j,j<n→f j=some r):sK n f=some r:=by
 unfold sK
 have hx:∃r,∀j,j<n→f j=some r:=⟨r,h⟩
 rw[dif_pos hx]
 have:=Classical.choose_spec hx 0 hn
 rw[h 0 hn]at this
 exact this.symm
theorem Next.drawn{d:Nat}(n:Next Z ψ h { w with drawn:=d } B0 O N Z' ψ' h' w'):Next Z ψ h w B0 O N Z' ψ' h' w' :=
 ⟨n.fQ,n.eL,⟨n.keep.os,n.keep.tape,n.keep.output,n.keep.size,n.keep.block⟩,n.ids,n.dV⟩
theorem Good.drawn{d:Nat}(g:Good Z ψ h w B0 O):Good Z ψ h { w with drawn:=d } B0 O:=by
 have sm:ct Z w ({ w with drawn:=d }:World):=fun _ _=>rfl
 refine⟨fun id ty cs hb=>?_,fun id ok xs hb=>?_,g.live,g.apart,g.jM⟩
 ·obtain⟨gg,vs,h1,h2,h3,h4⟩:=g.box id ty cs hb
  exact⟨gg,vs,h1,h2,h3.less (fun _ h=>h) sm (fun i hi=>⟨hi,rfl⟩),h4⟩
 ·exact(g.row id ok xs hb).kept (fun _ h=>h) sm (fun gg _=>rfl)
theorem filter_push{l:List MapEntry}(h:l.Pairwise (fun a b=>a.born≠b.born)){seen:Array Nat}{j:Nat}{e:MapEntry}(he:(l.filter fun e => !seen.contains e.born)[j]? = some e) :
  l.filter (fun x => !(seen.push e.born).contains x.born)=(l.filter fun e => !seen.contains e.born).eraseIdx j:=by
 have h2:(l.filter fun e => !seen.contains e.born).Pairwise (fun a b=>a.born≠b.born):=h.sublist List.filter_sublist
 rw[←ChangeMaps.filter_eq_eraseIdx (fun x=>x.born==e.born) _ j e he (by simp) (h2.imp fun {a b} br hc=>br (by
  simp only[beq_iff_eq]at hc;omega))]
 rw[List.filter_filter]
 congr 1
 funext x
 simp only[Array.contains_push]
 cases seen.contains x.born<;>cases x.born==e.born<;>rfl
theorem J3{R:Type}{hh:Heap}(g:Good Z ψ hh.get w B0 O){x:AV}{u:Value}{ty:TypeId}(hx:az Z ψ hh.get w x u){kk:AV→Heap→Option R}{r:R}(he:kZ hh x kk=some r) :
  ∃v h' V w',(Instr.next u false ty).run P w=.ok V w'∧Next Z ψ hh.get w B0 O N Z ψ h'.get w'∧az Z ψ h'.get w' v V∧kk v h'=some r∧(∀p,aJ p v)∧∀i ty cs,h'.get i=some (.box ty cs)→hh.get i=some (.box ty cs):=by
 unfold kZ at he
 split at he
 ·rename_i id
  split at he
  ·rename_i kk1 vk pp hg
   simp only[az]at hx
   have hu:=hx.2 (by rw[hg];simp)
   obtain⟨b,m,since,seen,bW,clock,h1,h2,h3,h4,h5,h6,h7,h8,h9⟩:=g.row id (.iter kk1 vk) pp hg
   rw[h1]at hu
   subst hu
   subst h6
   have aF:=(Array.getElem?_eq_some_iff.1 h2).1
   have VU:(leftOf bW seen).toList=bW.toList.filter fun e => !seen.contains e.born:=by unfold leftOf;simp
   have hlen:pp.2.length=(leftOf bW seen).size:=by rw[h8.1,←VU,Array.length_toList]
   rcases run_next_at (P:=P) w ty b m since since seen bW since h2 h4 h7 (Nat.le_refl _) with⟨nq,dv⟩|⟨e,gR,w1,J4,dv⟩
   ·have Nb:pp.2.isEmpty=true:=by rw[List.isEmpty_iff];exact List.eq_nil_of_length_eq_zero (by rw[hlen,nq])
    rw[Nb]at he
    simp only[cond_true]at he
    exact⟨_,hh,_,w,dv,Next.refl g,by simp only[az,an];exact⟨_,rfl,_,_,rfl,rfl,rfl⟩,he,fun p=>by simp only[aJ,aC];exact⟨trivial,trivial⟩,fun _ _ _ h=>h⟩
   ·obtain⟨k,hk,hke⟩:=List.mem_iff_getElem.1 gR
    have oT:k<pp.2.length:=by rw[hlen,←Array.length_toList];exact hk
    have Nb:pp.2.isEmpty=false:=by
     cases hl:pp.2 with
     |nil=>rw[hl]at oT;simp at oT
     |cons _ _=>rfl
    rw[Nb]at he
    simp only[cond_false]at he
    have hj:=om he k oT
    rw[List.getElem?_eq_getElem oT,Option.bind_some]at hj
    have Xx:(bW.toList.filter fun e => !seen.contains e.born)[k]? = some e:=by rw[←VU,List.getElem?_eq_getElem hk,hke]
    have ES:=h8.2 k _ e (List.getElem?_eq_getElem oT) Xx
    obtain⟨⟨k1,k2,k3⟩,v1,v2,v3⟩:=ES
    have aeT:e∈bW.toList:=(List.mem_filter.1 (List.mem_of_getElem? Xx)).1
    have gd1:Good Z ψ hh.get w1 B0 O:=by rcases J4 with rfl|rfl;exact g;exact g.drawn
    have E7:w1.heap=w.heap:=by rcases J4 with rfl|rfl<;>rfl
    have hmb:m≠b:=fun hmb=>by
     subst hmb
     exact(g.live id m (by rw[hg];simp) (by rw[h1];rfl)).1 h3
    have n1:=rS (N:=N) gd1 (id:=id) (by rw[hg];simp) (r:=b) (by rw[h1];rfl) (by rw[E7];exact aF) (.mapIter (some m) since (seen.push e.born) since) (ok:=.iter kk1 vk) (x:=(some pp.2[k],pp.2.eraseIdx k)) (fun w' JM sm=>by
     have YX:ct Z w w':=fun c hc=>(sm c hc).trans (by rw[E7])
     refine⟨b,m,since,seen.push e.born,bW,since,h1,by rw[JM,E7];simp[aF],h3,?_,h5,rfl,h7,?_,?_⟩
     ·rw[JM,E7,wB _ (fun e=>hmb e.symm)];exact h4
     ·rw[filter_push h5 Xx]
      exact(ke.erase h8 k).mono (fun _ h=>h) YX
     ·refine⟨e,aeT,by simp,⟨rfl,fun q y e' nq yV=>?_⟩⟩
      cases q with
      |zero=>cases nq;cases yV;exact⟨⟨k1.mono (fun _ h=>h) YX,k2,k3⟩,v1.mono (fun _ h=>h) YX,v2,v3⟩
      |succ q=>simp at nq)
    have n2:Next Z ψ hh.get w B0 O N Z ψ (ed hh.get id (some (.own (.iter kk1 vk) (some pp.2[k],pp.2.eraseIdx k)))) { w1 with heap:=w1.heap.setIfInBounds b (.mapIter (some m) since (seen.push e.born) since) }:=by
     rcases J4 with rfl|rfl
     ·exact n1
     ·exact n1.drawn
    refine⟨_,hh.set id (.own (.iter kk1 vk) (some pp.2[k],pp.2.eraseIdx k)),_,_,dv,by rw[mJ];exact n2,?_,hj,fun p=>?_,fun i ty cs hb=>?_⟩
    ·have YX:ct Z w ({ w1 with heap:=w1.heap.setIfInBounds b (.mapIter (some m) since (seen.push e.born) since) }:World):=n2.same g
     simp only[az,an]
     exact⟨_,rfl,_,_,rfl,rfl,_,_,rfl,lK (k1.mono (fun _ h=>h) YX) k2 k3,_,_,rfl,lK (v1.mono (fun _ h=>h) YX) v2 v3,rfl⟩
    ·simp only[aJ,aC]
     exact⟨trivial,oa _ _ _,oa _ _ _,trivial⟩
    ·rw[mJ]at hb
     unfold ed at hb
     split at hb
     ·cases hb
     ·exact hb
  ·cases he
 ·cases he
theorem G6(op:BinOp)(t:TypeId)(a b:Operand)(x y:Option Addr)(n m c d:Nat):(eqGuard op t a b (.slice x n c) (.slice y m d)).run P w=.ok () w:=by cases op<;>simp[eqGuard]
theorem C6{t e:TypeId}(ht:P.underlying t=some (.slice e))(a:Option Addr)(n c:Nat):(Op.equal t (.slice a n c) (.slice none 0 0)).run P w=.ok a.isNone w:=by
 have key:∀d,(Op.equalIn (d+1) t (.slice a n c) (.slice none 0 0)).run P w=.ok a.isNone w:=fun d=>by
  cases a<;>simp[Op.equalIn,run_underlying ht]
 exact key 9999
theorem J5{o:Oper}{x:Operand}{want:Bool}(h:isNil P o=some (x,want)):∃op t v t' e,o.op=.binOp op t x (.const v) t'∧P.underlying t=some (.slice e)∧v=.slice none 0 0∧((op=.eql∧want=true)∨(op=.neq∧want=false)):=by
 unfold isNil at h
 split at h
 ·rename_i op t x' v t' E6
  have hv:∀v:Value,we v=.fV→v=.slice none 0 0:=fun v hv=>by
   unfold we at hv
   split at hv<;>try (first|cases hv|(split at hv<;>cases hv);done)
   all_goals (split at hv<;>first|cases hv|skip)
   ·rename_i hc;obtain⟨rfl,rfl,rfl⟩:=hc;rfl
   all_goals (split at hv<;>cases hv)
  split at h
  ·rename_i e h1 h2 h3;cases h;exact⟨_,_,_,_,_,E6,h2,hv _ h3,.inl ⟨rfl,rfl⟩⟩
  ·rename_i e h1 h2 h3;cases h;exact⟨_,_,_,_,_,E6,h2,hv _ h3,.inr ⟨rfl,rfl⟩⟩
  ·cases h
 ·cases h
theorem PU{R:Type}{hh:Heap}(g:Good Z ψ hh.get w B0 O){x:AV}{u:Value}{op:BinOp}{t e:TypeId}(xo yo:Operand)(hx:az Z ψ hh.get w x u)(ht:P.underlying t=some (.slice e)){want:Bool}(ho:(op=.eql∧want=true)∨(op=.neq∧want=false)){kk:AV→Option R}{r:R}(he:uG hh x want kk=some r) :
  ∃c:Bool,((eqGuard op t xo yo u (.slice none 0 0)).run P w=.ok () w∧(binOp op t u (.slice none 0 0)).run P w=.ok (.bool c) w)∧kk (.bool c)=some r:=by
 have run:∀(a:Option Addr) (n c:Nat),(eqGuard op t xo yo (.slice a n c) (.slice none 0 0)).run P w=.ok () w∧(binOp op t (.slice a n c) (.slice none 0 0)).run P w=.ok (.bool (a.isNone==want)) w:=fun a n c=>by
  refine⟨G6 _ _ _ _ _ _ _ _ _ _,?_⟩
  rcases ho with⟨rfl,rfl⟩|⟨rfl,rfl⟩<;>simp only[Sem.run_bind,Result.andThen_ok,binOp,C6 ht,Sem.run_pure]<;>cases a.isNone<;>rfl
 have fin:∀(n:Nat) (a:Option Addr) (c:Nat) (xs:Bool),(a=none→xs=true)→cond xs (sK 2 fun j=>kk (.bool ((j==0)==want))) (kk (.bool (!want)))=some r →
   ∃c':Bool,((eqGuard op t xo yo (.slice a n c) (.slice none 0 0)).run P w=.ok () w∧(binOp op t (.slice a n c) (.slice none 0 0)).run P w=.ok (.bool c') w)∧kk (.bool c')=some r:=fun n a c xs rO h=>by
  refine⟨_,run a n c,?_⟩
  cases xs with
  |true =>
   simp only[cond_true]at h
   cases a with
   |none=>exact om h 0 (by decide)
   |some a=>exact om h 1 (by decide)
  |false =>
   simp only[cond_false]at h
   cases a with
   |none=>cases rO rfl
   |some a=>cases want<;>exact h
 unfold uG at he
 split at he
 ·rename_i hv
  have hxn:x=.fV:=by
   cases x<;>simp only[cM]at hv<;>try cases hv
   ·rfl
   ·split at hv<;>cases hv
  subst hxn
  simp only[az]at hx
  subst hx
  exact⟨_,run none 0 0,by cases want<;>exact he⟩
 ·rename_i ex k xs hv
  cases x with
  |sl ex' k' Zr =>
   simp only[cM]at hv
   cases hv
   simp only[az,aI]at hx
   obtain⟨⟨v,hv,A,c,rfl,h1,h2,_⟩,_⟩:=hx
   cases hv
   refine fin _ A c _ (fun hA=>?_) he
   have:=h2 hA
   rw[List.isEmpty_iff]
   exact List.eq_nil_of_length_eq_zero (by omega)
  |bH id =>
   simp only[cM]at hv
   simp only[az]at hx
   split at hv
   ·rename_i hg
    cases hv
    have hu:=hx.2 (by rw[hg];simp)
    obtain⟨vs,⟨_,h1⟩,_⟩:=g.row id _ _ hg
    rw[←hu]at h1
    rcases h1 with⟨h1,A,rfl⟩|⟨gg,cap,cur,rfl,_⟩
    ·exact fin _ A 0 _ (fun _=>List.isEmpty_iff.2 (List.eq_nil_of_length_eq_zero h1)) he
    ·exact fin _ _ _ _ (fun h=>by cases h) he
   ·cases hv
   ·cases hv
  |_=>simp only[cM]at hv<;>cases hv
 ·cases he
theorem A3{draw:Bool}{rid:Nat}{ops:Array Oper}{b:Array Nat}{i Jx:Nat}{e:bI}{S:Nat→Prop}{hh:Heap}(hm:s6 (mz rid S) h)(ha:∀j,Jx.testBit j=true→S j)(he:gP draw rid ops b i Jx e=true) :
  aJ (mz rid fun k=>S k∨k=i) e.v∧s6 (mz rid fun k=>S k∨k=i) (e.hp h):=by
 have Gv:∀j,(Jx ||| 2 ^ i).testBit j=true→S j∨j=i:=fun j hj=>by
  rw[Nat.testBit_or,Bool.or_eq_true]at hj
  rcases hj with hj|hj
  ·exact .inl (ha j hj)
  ·rw[Nat.testBit_two_pow]at hj;exact .inr (by simpa using hj:i=j).symm
 have up:s6 (mz rid fun k=>S k∨k=i) h:=fun id ty cs hb=>(hm id ty cs hb).imp (fun id h1 h2=>.inl (h1 h2))
 cases e with
 |val v=>exact⟨pH (fun j hj=>.inl (ha j hj)) he,up⟩
 |new v os =>
  simp only[gP,Bool.and_eq_true]at he
  refine⟨pH Gv he.1.1,fun id ty cs hb=>?_⟩
  simp only[bI.hp]at hb
  split at hb
  ·rename_i o ho
   cases hb
   exact(lW Gv he.2 _ _ ho).2 _ _ rfl
  ·exact up id ty cs hb
 |wr v h' =>
  simp only[gP,Bool.and_eq_true]at he
  exact⟨pH Gv he.1.2,fun id ty cs hb=>(lW Gv he.2 _ _ hb).2 _ _ rfl⟩
theorem C7{i j:Nat}(h:(2 ^ i-1).testBit j=true):j<i:=by
 rw[Nat.testBit_two_pow_sub_one]at h;simpa using h
def wM(mk:Bool)(rid i id:Nat):Prop:=mk=true→mz rid (fun k=>k<i) id
theorem lr(E:Env P Eqs Sg F){rid n:Nat}{ops:Array Oper}{b:Array Nat}(mk:Bool)(PV:mk=false→∀(i:Nat) (o:Oper),ops[i]? = some o→makes o.op=false)(hn:ops.size≤128)(kP:∀(i:Nat) (o:Oper),ops[i]? = some o→im n o=true){kk:St→Option R}{r:R}{Q:Exit→Act→World→Prop}
  (hQ:∀eJ Z ψ a w,kk eJ=some r→Ok Z0 w0 O ψ0 Z ψ eJ.heap.get w→cP Z ψ eJ.heap.get w n (look eJ.tmps) a→Q .normal a w) :
  ∀(l:List (Nat×Oper)) (i:Nat) (st:St) (Z:Nat→Prop) (ψ:Nat→Value) (a:Act) (w:World),A2 ops i l→bD P Eqs Sg F rid false ops b l st kk=some r →
   J (wM mk rid i) n Z0 w0 O ψ0 Z ψ (look st.tmps) st.heap.get a w→wpOps P ops Q (l.map Prod.fst) a w
 |[],i,st,Z,ψ,a,w,_,hx,j=>hQ st Z ψ a w hx j.ok j.tr
 |(i',o)::l,i,st,Z,ψ,a,w,hl,hx,j=>by
  obtain⟨rfl,ho,hl⟩:=hl
  have hi:i'<128:=Nat.lt_of_lt_of_le (Array.getElem?_eq_some_iff.1 ho).1 hn
  have TG:=kP i' o ho
  have ih:=lr E (rid:=rid) (b:=b) mk PV hn kP hQ l (i'+1)
  have up:∀id,wM mk rid i' id→wM mk rid (i'+1) id:=fun id h hm hr=>Nat.lt_succ_of_lt (h hm hr)
  have runs:∀iA:St,look iA.tmps=look st.tmps→iA.heap=st.heap→Region.wanted o (yielded ops a.tmps)=true →
    (match oZ P (opId rid i') iA o with
    |some eJ=>bD P Eqs Sg F rid false ops b l eJ kk
    |none=>match uF o with
    |some x=>kZ iA.heap (ρ iA.tmps x) fun v h=>bD P Eqs Sg F rid false ops b l (({ iA with heap:=h }:St).put o.dst v) kk
    |none=>match isNil P o with
    |some (x,want)=>uG iA.heap (ρ iA.tmps x) want fun v=>bD P Eqs Sg F rid false ops b l (iA.put o.dst v) kk
    |none=>cV P Eqs Sg F (opId rid i') iA.heap iA.tmps o fun e=>if gP false rid ops b i' (2 ^ i' - 1) e then bD P Eqs Sg F rid false ops b l ({ iA with heap:=match e with | .wr _ h=>h|e=>e.h iA.heap }.put o.dst e.v) kk else none)=some r →
    wpOps P ops Q (((i',o)::l).map Prod.fst) a w:=by
   intro iA h1 h2 hw hx
   split at hx
   ·rename_i eJ oi
    simp only[List.map_cons,wpOps,ho,hw,if_true]
    refine .inl ?_
    have ZT:makes o.op=true:=by
     unfold oZ at oi
     split at oi
     ·rename_i E6;rw[E6];rfl
     ·cases oi
    have aeV:mk=true:=by
     cases Nm:mk with
     |true=>rfl
     |false=>rw[PV Nm i' o ho]at ZT;cases ZT
    have j1:J (wM mk rid i') n Z0 w0 O ψ0 Z ψ (look iA.tmps) iA.heap.get a w:=by rw[h1,h2];exact j
    obtain⟨V,w',Z',ψ',dv,j'⟩:=J2 (P:=P) (p':=wM mk rid (i'+1)) (fun id hp nt=>by
     obtain⟨h3,h4⟩:=nt.parts hi
     have:=hp aeV h3
     rw[h4]at this
     exact Nat.lt_irrefl _ this) up (fun _ h3=>by
      have:=((G3 (rid:=rid) (i:=i')).parts hi).2
      rw[this];exact Nat.lt_succ_self _) j1 TG oi
    unfold Oper.wp
    rw[dv]
    exact ih eJ Z' ψ' _ w' hl hx j'
   split at hx
   ·rename_i x DS
    simp only[List.map_cons,wpOps,ho,hw,if_true]
    refine .inl ?_
    have E6:o.op=.next x false:=by
     unfold uF at DS
     split at DS
     ·rename_i E6;cases DS;exact E6
     ·cases DS
    have YW:az Z ψ iA.heap.get w (ρ iA.tmps x) (a.eval x):=qX (by rw[h1,h2];exact j.tr) x
    have g1:Good Z ψ iA.heap.get w w0.heap.size O:=by rw[h2];exact j.ok.dV
    obtain⟨v,h',V,w',dv,nx,hr,T4,Xi,qo⟩:=J3 (P:=P) (N:=fun _=>False) (ty:=o.type) g1 YW hx
    have PW:(execOp a.eval o).run P w=.ok (.value V) w':=by
     obtain⟨dst,op,type,pos,after,guard⟩:=o
     simp only at E6
     subst E6
     simp only at dv
     simp[execOp,dv]
    unfold Oper.wp
    rw[PW]
    refine ih _ Z ψ _ w' hl T4 ?_
    rw[hM,de]
    have j1:J (wM mk rid i') n Z0 w0 O ψ0 Z ψ (look iA.tmps) iA.heap.get a w:=by rw[h1,h2];exact j
    refine⟨j1.ok.next (fun id h=>h.elim) nx,(j1.tr.next g1 nx (fun d=>(j1.tm d).imp fun _ _ h=>h)).put TG hr,fun d=>?_,fun k ty cs hb=>(j1.hm k ty cs (qo k ty cs hb)).imp up⟩
    cases kP:o.dst with
    |none=>exact(j1.tm d).imp up
    |some d0 =>
     simp only[iY,ed]
     split
     ·exact Xi _
     ·exact(j1.tm d).imp up
   split at hx
   ·rename_i x want ZU
    obtain⟨op,t,v,t',et,E6,ht,rfl,qY⟩:=J5 ZU
    simp only[List.map_cons,wpOps,ho,hw,if_true]
    refine .inl ?_
    have YW:az Z ψ iA.heap.get w (ρ iA.tmps x) (a.eval x):=qX (by rw[h1,h2];exact j.tr) x
    have g1:Good Z ψ iA.heap.get w w0.heap.size O:=by rw[h2];exact j.ok.dV
    obtain⟨c,dv,T4⟩:=PU (P:=P) g1 x (.const (.slice none 0 0)) YW ht qY hx
    have PW:(execOp a.eval o).run P w=.ok (.value (.bool c)) w:=by
     obtain⟨dst,op',type,pos,after,guard⟩:=o
     simp only at E6
     subst E6
     have e1:a.eval (.const (.slice none 0 0))=.slice none 0 0:=rfl
     simp[execOp,e1,dv.1,dv.2]
    unfold Oper.wp
    rw[PW]
    refine ih _ Z ψ _ w hl T4 ?_
    rw[hM,de]
    have j1:J (wM mk rid i') n Z0 w0 O ψ0 Z ψ (look iA.tmps) iA.heap.get a w:=by rw[h1,h2];exact j
    refine⟨j1.ok,j1.tr.put TG (by simp only[az]),fun d=>?_,fun k ty cs hb=>(j1.hm k ty cs hb).imp up⟩
    cases kP:o.dst with
    |none=>exact(j1.tm d).imp up
    |some d0 =>
     simp only[iY,ed]
     split
     ·simp only[aJ]
     ·exact(j1.tm d).imp up
   rw[lq]at hx
   obtain⟨e,he,hx⟩:=Option.bind_eq_some_iff.1 hx
   split at hx
   ·rename_i mw
    simp only[List.map_cons,wpOps,ho,hw,if_true]
    refine .inl ?_
    have hh:iA.heap.get=st.heap.get:=by rw[h2]
    have oi:aJ (wM mk rid (i'+1)) e.v∧s6 (wM mk rid (i'+1)) (e.hp st.heap.get):=by
     cases Nm:mk with
     |false =>
      have ht:wM false rid (i'+1)=fun _=>True:=funext fun id=>propext ⟨fun _=>trivial,fun _ h=>by cases h⟩
      rw[ht];exact⟨aJ.top _,fun _ _ cs _=>aC.top cs⟩
     |true =>
      have T9:s6 (mz rid fun k=>k<i') st.heap.get:=fun id ty cs hb=>(j.hm id ty cs hb).imp fun id h1=>h1 Nm
      have h3:=A3 (hh:=iA.heap) T9 (fun k hk=>C7 hk) mw
      have hS:∀k,(k<i'∨k=i')→k<i'+1:=fun k hk=>by omega
      exact⟨h3.1.imp fun id h1 _ h2=>hS _ (h1 h2),fun id ty cs hb=>(h3.2 id ty cs hb).imp fun id h1 _ h2=>hS _ (h1 h2)⟩
    refine J.op E (p:=wM mk rid i') (p':=wM mk rid (i'+1)) (rid:=rid) (i:=i') (s:=iA.tmps) (fun hm id hp nt => ?_) j TG (fun x _=>qX (by rw[h1];exact j.tr) x) (fun x _=>Nl (by rw[h1];exact j.tm) x) (fun id o hg=>by rw[hh]at hg;exact hg) he (fun _ _ _=>hh) up oi.1 oi.2 fun a' w' Z' ψ' j' => ?_
    ·cases Nm:mk with
     |false=>rw[PV Nm i' o ho]at hm;cases hm
     |true =>
      obtain⟨h3,h4⟩:=nt.parts hi
      have:=hp Nm h3
      rw[h4]at this
      exact Nat.lt_irrefl _ this
    refine ih _ Z' ψ' a' w' hl hx ?_
    rw[hM,de]
    have j2:J (wM mk rid (i'+1)) n Z0 w0 O ψ0 Z' ψ' (iY (look iA.tmps) o.dst e.v) (bI.heap e iA.heap).get a' w':=by rw[bI.G4,h1,h2];exact j'
    exact j2
   ·cases hx
  have uZ:∀iA:St,look iA.tmps=look st.tmps→iA.heap=st.heap→Region.wanted o (yielded ops a.tmps)=false →
    bD P Eqs Sg F rid false ops b l (iA.put o.dst (.nh [])) kk=some r→wpOps P ops Q (((i',o)::l).map Prod.fst) a w:=by
   intro iA h1 h2 hw hx
   simp only[List.map_cons,wpOps,ho,hw,Bool.false_eq_true,if_false]
   refine ih _ Z ψ _ w hl hx ?_
   rw[hM,de,h1,h2]
   exact j.skip TG up
  rw[bD]at hx
  simp only[Bool.false_eq_true,if_false]at hx
  split at hx
  ·rename_i hg
   exact runs st rfl rfl (by simp[Region.wanted,hg]) hx
  ·rename_i jj want hg
   split at hx
   ·cases hx
   ·rename_i d hd
    split at hx
    ·rename_i t ht
     have hw:=A1 j.tr hg hd ht
     have hp:∀b,t=b→look (st.put (some d) (.bool b)).tmps=look st.tmps:=fun b hb=>by
      subst hb;rw[hM];exact DQ ht
     cases t<;>simp only[cond_true,cond_false]at hx<;>split at hx<;>rename_i qY
     ·exact uZ _ (hp false rfl) (de _ _ _) (by rw[hw];simp[qY]) hx
     ·exact runs _ (hp false rfl) (de _ _ _) (by rw[hw];simp[qY]) hx
     ·exact runs _ (hp true rfl) (de _ _ _) (by rw[hw];simp[qY]) hx
     ·exact uZ _ (hp true rfl) (de _ _ _) (by rw[hw];simp[qY]) hx
    ·rename_i vs ht
     exact uZ st rfl rfl (yp j.tr hg hd ht) hx
    ·cases hx
end Go.Vs
namespace Go.Vs
variable {P:Program} {Eqs:TypeId→Option K} {Sg:FuncId→Option aN} {F:(f:FuncId)→(g:aN)→g.A→Option g.B} {R:Type}
variable {Z Z' Z0:Nat→Prop} {ψ ψ' ψ0:Nat→Value} {h h':Hp} {w w' w0:World} {B0:Nat} {O N:Nat→Prop}
theorem kl(hp h:Heap)(i:Nat):∀(ft:List Nat),(fj ft hp h).get i=if i∈ft then(match hp.get i with|some o=>some o|none=>h.get i) else h.get i
 |[]=>by simp[fj]
 |j::r=>by
  have ih:=kl hp h i r
  unfold fj at ih ⊢
  cases hj:hp.get j with
  |none =>
   rw[List.filterMap_cons,hj]
   simp only[Option.map_none]
   rw[ih]
   by_cases e:i=j
   ·subst e;simp[hj]
   ·simp[e]
  |some o =>
   rw[List.filterMap_cons,hj]
   simp only[Option.map_some,List.cons_append,Heap.get]
   rw[ih]
   by_cases e:j=i
   ·subst e;simp[hj]
   ·have e':¬i=j:=fun h=>e h.symm
    simp[e,e']
mutual
theorem yq{ft:List Nat}:∀{v:AV},qJ ft v=true→aJ (fun i=>i∉ft) v
 |.ref id _ _ _,h=>by simp only[aJ];simpa[qJ] using h
 |.bH id,h=>by simp only[aJ];simpa[qJ] using h
 |.fn _ cap,h=>by simp only[aJ];exact km (by simpa only[qJ] using h)
 |.agg cs,h=>by simp only[aJ];exact km (by simpa only[qJ] using h)
 |.nh vs,h=>by simp only[aJ];exact km (by simpa only[qJ] using h)
 |.no,_=>by simp only[aJ]
 |.bool _,_=>by simp only[aJ]
 |.int _ _,_=>by simp only[aJ]
 |.str _,_=>by simp only[aJ]
 |.kX,_=>by simp only[aJ]
 |.fV,_=>by simp only[aJ]
 |.fp _ _ _,_=>by simp only[aJ]
 |.sl _ _ _,_=>by simp only[aJ]
 |.mp _ _ _,_=>by simp only[aJ]
theorem km{ft:List Nat}:∀{l:List AV},tD ft l=true→aC (fun i=>i∉ft) l
 |[],_=>by simp only[aC]
 |v::r,h=>by
  simp only[tD,Bool.and_eq_true]at h
  simp only[aC]
  exact⟨yq h.1,km h.2⟩
end
theorem kq{ft:List Nat}:∀{hh:Heap},tE ft hh=true→∀i o,hh.get i=some o→i∉ft∧∀ty cs,o=.box ty cs→aC (fun i=>i∉ft) cs
 |[],_,i,o,h=>by simp[Heap.get]at h
 |(j,.box ty cs)::r,hc,i,o,h=>by
  simp only[tE,Bool.and_eq_true]at hc
  simp only[Heap.get]at h
  split at h
  ·rename_i e;subst e;cases h
   exact⟨by simpa using hc.1,fun ty cs e=>by cases e;exact km hc.2.1⟩
  ·exact kq hc.2.2 i o h
 |(j,.own ok x)::r,hc,i,o,h=>by
  simp only[tE,Bool.and_eq_true]at hc
  simp only[Heap.get]at h
  split at h
  ·rename_i e;subst e;cases h
   exact⟨by simpa using hc.1,fun ty cs e=>by cases e⟩
  ·exact kq hc.2 i o h
theorem Next.frame{hp h1:Heap}{ft:List Nat}(g:Good Z ψ hp.get w B0 O)(hB:B0≤w.heap.size)(bu:∀i ty cs,hp.get i=some (.box ty cs)→aC (fun i=>¬N i) cs)
  (n:Next Z ψ (gW hp ft).get w w.heap.size (Own ψ (gW hp ft).get) N Z' ψ' h1.get w') (hc:tE ft h1=true) :
  ∃dW,Next Z ψ hp.get w B0 O N Z' dW (fj ft hp h1).get w'∧∀i,i∉ft→dW i=ψ' i:=by
 classical
 have gd:∀i,(gW hp ft).get i=if i∈ft then none else hp.get i:=fun i=>oc ft hp i
 have bC:∀b,Own ψ (gW hp ft).get b→Own ψ hp.get b:=fun b ⟨i,h1,h2⟩=>⟨i,by rw[gd]at h1;split at h1;exact absurd rfl h1;exact h1,h2⟩
 have qS:∀i,i∈ft→h1.get i=none:=fun i hi=>by
  cases e:h1.get i with
  |none=>rfl
  |some o=>exact absurd hi (kq hc i o e).1
 have gf:∀i,(fj ft hp h1).get i=if i∈ft then hp.get i else h1.get i:=fun i=>by
  rw[kl]
  by_cases hi:i∈ft
  ·rw[if_pos hi,if_pos hi,qS i hi];cases hp.get i<;>rfl
  ·rw[if_neg hi,if_neg hi]
 let dW:Nat→Value:=fun i=>if i∈ft then ψ i else ψ' i
 have p1:∀i,i∈ft→dW i=ψ i:=fun i hi=>if_pos hi
 have p2:∀i,i∉ft→dW i=ψ' i:=fun i hi=>if_neg hi
 have apart:∀i b,i∈ft→hp.get i≠none→ob (ψ i)=some b→¬Own ψ (gW hp ft).get b:=fun i b hi h2 h3 ⟨j,h4,h5⟩=>by
  rw[gd]at h4
  split at h4
  ·exact h4 rfl
  ·rename_i hj
   have:=g.apart i j b h2 h4 h3 h5
   subst this;exact hj hi
 have cT:∀i b,i∈ft→hp.get i≠none→ob (ψ i)=some b→w'.heap[b]? = w.heap[b]? := fun i b hi h2 h3 =>
  n.keep.block b (g.bP ⟨i,h2,h3⟩) (apart i b hi h2 h3)
 have keep:c9 ψ hp.get w w':=⟨n.keep.os,n.keep.tape,n.keep.output,n.keep.size,fun b hb hn=>n.keep.block b hb fun ho=>hn (bC b ho)⟩
 have sm:ct Z w w':=keep.same g
 have ids:∀i,(fj ft hp h1).get i≠none→(hp.get i≠none∧dW i=ψ i)∨N i:=fun i hi=>by
  rw[gf]at hi
  by_cases hf:i∈ft
  ·rw[if_pos hf]at hi;exact .inl ⟨hi,p1 i hf⟩
  ·rw[if_neg hf]at hi
   rcases n.ids i hi with⟨h2,h3⟩|h2
   ·rw[gd,if_neg hf]at h2
    exact .inl ⟨h2,(p2 i hf).trans h3⟩
   ·exact .inr h2
 have nz:∀i b,i∈ft→hp.get i≠none→ob (ψ i)=some b→¬Z' b:=fun i b hi h2 h3 hz=>by
  rcases n.eL b hz with h4|h4|h4
  ·exact(g.live i b h2 h3).1 h4
  ·exact apart i b hi h2 h3 h4
  ·have:=g.bP ⟨i,h2,h3⟩;omega
 refine⟨dW,⟨n.fQ,fun b hb=>(n.eL b hb).imp (fun h=>h) (fun h=>h.imp (bC b) fun h=>h),keep,ids,⟨fun i ty cs hb=>?_,fun i ok x hb=>?_,fun i b h2 h3=>?_,fun i j b h2 h3 h4 h5=>?_,n.dV.jM⟩⟩,p2⟩
 ·rw[gf]at hb
  by_cases hf:i∈ft
  ·rw[if_pos hf]at hb
   obtain⟨gg,vs,e1,e2,e3,e4⟩:=g.box i ty cs hb
   refine⟨gg,vs,by rw[p1 i hf,e1],(cT i gg hf (by rw[hb];simp) (by rw[e1];rfl)).trans e2,e3.move n.fQ sm (fun j hj br=>(ids j br).resolve_right hj) (bu i ty cs hb),e4⟩
  ·rw[if_neg hf]at hb
   obtain⟨gg,vs,e1,e2,e3,e4⟩:=n.dV.box i ty cs hb
   refine⟨gg,vs,by rw[p2 i hf,e1],e2,e3.move (fun _ h=>h) (ct.refl _ _) (fun j hj br=>?_) ((kq hc i _ hb).2 ty cs rfl),e4⟩
   rw[gf,if_neg hj]at br
   exact⟨br,p2 j hj⟩
 ·rw[gf]at hb
  by_cases hf:i∈ft
  ·rw[if_pos hf]at hb
   rw[p1 i hf]
   exact(g.row i ok x hb).kept n.fQ sm (fun b jE=>cT i b hf (by rw[hb];simp) jE)
  ·rw[if_neg hf]at hb
   rw[p2 i hf]
   exact n.dV.row i ok x hb
 ·rw[gf]at h2
  by_cases hf:i∈ft
  ·rw[if_pos hf]at h2
   rw[p1 i hf]at h3
   exact⟨nz i b hf h2 h3,(g.live i b h2 h3).2⟩
  ·rw[if_neg hf]at h2
   rw[p2 i hf]at h3
   obtain⟨h4,h5⟩:=n.dV.live i b h2 h3
   refine⟨h4,h5.elim (fun h=>.inl (Nat.le_trans hB h)) fun h=>?_⟩
   obtain⟨j,h6,h7⟩:=bC b h
   exact(g.live j b h6 h7).2
 ·have mixed:∀i j b,i∈ft→j∉ft→(fj ft hp h1).get i≠none→(fj ft hp h1).get j≠none→ob (dW i)=some b→ob (dW j)=some b→False:=fun i j b hi hj h2 h3 h4 h5=>by
   rw[gf,if_pos hi]at h2
   rw[gf,if_neg hj]at h3
   rw[p1 i hi]at h4
   rw[p2 j hj]at h5
   rcases (n.dV.live j b h3 h5).2 with h6|h6
   ·have:=g.bP ⟨i,h2,h4⟩;omega
   ·exact apart i b hi h2 h4 h6
  by_cases hi:i∈ft<;>by_cases hj:j∈ft
  ·rw[gf,if_pos hi]at h2
   rw[gf,if_pos hj]at h3
   rw[p1 i hi]at h4
   rw[p1 j hj]at h5
   exact g.apart i j b h2 h3 h4 h5
  ·exact(mixed i j b hi hj h2 h3 h4 h5).elim
  ·exact(mixed j i b hj hi h3 h2 h5 h4).elim
  ·rw[gf,if_neg hi]at h2
   rw[gf,if_neg hj]at h3
   rw[p2 i hi]at h4
   rw[p2 j hj]at h5
   exact n.dV.apart i j b h2 h3 h4 h5
theorem J.opF(E:Env P Eqs Sg F){rid n i:Nat}{p:Nat→Prop}{T:Nat→AV}{a:Act}{s:List (Nat×AV)}{o:Oper}(hS:makes o.op=true→∀id,p id→¬Of rid i id){hp h1:Heap}{v:AV}{ft:List Nat}(j:J p n Z0 w0 O ψ0 Z ψ T hp.get a w)(hd:im n o=true)
  (hT:∀x∈o.op.operands,az Z ψ hp.get w (ρ s x) (a.eval x)) (hTm:∀x∈o.op.operands,aJ p (ρ s x)) (he:cV P Eqs Sg F (opId rid i) (gW hp ft) s o some=some (.wr v h1)) (hc:nk ft (.wr v h1)=true)
  {p':Nat→Prop} (OP:∀k,p k→p' k) (hv:aJ p' v) (Xv:s6 p' (fj ft hp h1).get) {next:Act→World→Prop} {Q:Exit→Act→World→Prop}
  (hk:∀a' w' Z' ψ',J p' n Z0 w0 O ψ0 Z' ψ' (iY T o.dst v) (fj ft hp h1).get a' w'→next a' w'):o.wp P a w next Q:=by
 have Xw:∀id,p id→¬(makes o.op=true∧Of rid i id):=fun id h ⟨h1,h2⟩=>hS h1 id h h2
 simp only[nk,Bool.and_eq_true]at hc
 have bC:∀id o,(gW hp ft).get id=some o→hp.get id=some o:=fun id o h=>by rw[oc]at h;split at h;cases h;exact h
 have br:∀id,(gW hp ft).get id≠none→hp.get id≠none:=fun id h=>by
  obtain⟨o,ho⟩:=Option.ne_none_iff_exists'.1 h
  rw[bC id o ho];simp
 have bu:∀i' ty cs,hp.get i'=some (.box ty cs)→aC (fun id=>¬(makes o.op=true∧Of rid i id)) cs:=fun id ty cs hb=>(j.hm id ty cs hb).imp Xw
 have gs:Good Z ψ (gW hp ft).get w w.heap.size (Own ψ (gW hp ft).get):=(j.ok.dV.sub bC).E2 _
 refine VT (N:=fun id=>makes o.op=true∧Of rid i id) E gs (Nat.le_refl _) (fun _ _ h=>h) (id:=opId rid i) (fun hm k hk=>⟨hm,Lr hk⟩) (fun x hx=>(hT x hx).qp bC) (fun x hx=>(hTm x hx).imp Xw) (fun id ty cs hb=>bu id ty cs (bC _ _ hb)) (fun _ _ _=>rfl) he fun V w' Z' ψ' nx hr=>?_
 obtain⟨dW,n2,h2⟩:=Next.frame j.ok.dV j.ok.size bu nx hc.2
 have VV:az Z' dW (fj ft hp h1).get w' v V:=hr.move (p:=fun i=>i∉ft) (fun _ h=>h) (ct.refl _ _) (fun k hk br=>by
  rw[kl,if_neg hk]at br
  exact⟨br,h2 k hk⟩) (yq hc.1)
 refine hk _ w' Z' dW ⟨j.ok.next (fun id h=>by have:=h.2;unfold Of at this;omega) n2,(j.tr.next j.ok.dV n2 (fun d=>(j.tm d).imp Xw)).put hd VV,fun d=>?_,Xv⟩
 cases kP:o.dst with
 |none=>exact(j.tm d).imp OP
 |some d0 =>
  simp only[iY,ed]
  split
  ·exact hv
  ·exact(j.tm d).imp OP
end Go.Vs
namespace Go.Vs
variable {P:Program} {Eqs:TypeId→Option K} {Sg:FuncId→Option aN} {F:(f:FuncId)→(g:aN)→g.A→Option g.B} {R:Type}
variable {Z Z' Z0:Nat→Prop} {ψ ψ':Nat→Value} {h h':Hp} {w w' w0:World} {B0:Nat} {O N:Nat→Prop}
variable {rid n:Nat} {ops:Array Oper} {b:Array Nat}
def r8(b:Array Nat)(i j:Nat):Prop:=(b.getD i 0).testBit j=true
theorem DT(b:Array Nat)(j:Nat):∀(l:List Edge) (s:Nat),(l.foldl (fun s e=>if Region.binds .any e then s ||| 2 ^ e.on ||| b.getD e.on 0 else s) s).testBit j=true ↔
  s.testBit j=true∨∃e∈l,Region.binds .any e=true∧(j=e.on∨r8 b e.on j)
 |[],s=>by simp
 |e::l,s=>by
  rw[List.foldl_cons,DT b j l]
  by_cases hb:Region.binds .any e=true
  ·rw[if_pos hb]
   have h2:(2 ^ e.on).testBit j=true↔j=e.on:=by rw[Nat.testBit_two_pow];simp[eq_comm]
   simp only[Nat.testBit_or,Bool.or_eq_true,h2,List.mem_cons,exists_eq_or_imp,hb,true_and,r8]
   constructor
   ·rintro(((h|h)|h)|h)
    ·exact .inl h
    ·exact .inr (.inl (.inl h))
    ·exact .inr (.inl (.inr h))
    ·exact .inr (.inr h)
   ·rintro(h|(h|h)|h)
    ·exact .inl (.inl (.inl h))
    ·exact .inl (.inl (.inr h))
    ·exact .inl (.inr h)
    ·exact .inr h
  ·rw[if_neg hb]
   simp[hb]
theorem zB(hb:uC ops b=true){i j:Nat}{o:Oper}(ho:ops[i]? = some o):r8 b i j↔∃e∈o.after.toList,Region.binds .any e=true∧(j=e.on∨r8 b e.on j):=by
 have aF:=(Array.getElem?_eq_some_iff.1 ho).1
 have h1:=List.all_eq_true.1 hb i (List.mem_range.2 aF)
 rw[ho]at h1
 simp only[Bool.and_eq_true,beq_iff_eq]at h1
 unfold r8
 rw[h1.2,DT]
 simp[r8]
theorem J6(hb:uC ops b=true){i:Nat}{o:Oper}(ho:ops[i]? = some o){e:Edge}(he:e∈o.after.toList)(M7:Region.binds .any e=true):e.on<i:=by
 have aF:=(Array.getElem?_eq_some_iff.1 ho).1
 have h1:=List.all_eq_true.1 hb i (List.mem_range.2 aF)
 rw[ho]at h1
 simp only[Bool.and_eq_true]at h1
 have:=List.all_eq_true.1 h1.1 e he
 simpa[M7] using this
theorem A4(hb:uC ops b=true):∀(i j:Nat),i<ops.size→r8 b i j→j<i:=by
 intro i
 induction i using Nat.strongRecOn with
 |ind i ih =>
  intro j hi h
  obtain⟨e,he,M7,h1⟩:=(zB hb (Array.getElem?_eq_getElem hi)).1 h
  have Xy:=J6 hb (Array.getElem?_eq_getElem hi) he M7
  rcases h1 with rfl|h1
  ·exact Xy
  ·exact Nat.lt_trans (ih e.on Xy j (by omega) h1) Xy
theorem DU(hb:uC ops b=true):∀(i j k:Nat),i<ops.size→r8 b i j→r8 b j k→r8 b i k:=by
 intro i
 induction i using Nat.strongRecOn with
 |ind i ih =>
  intro j k hi h h'
  obtain⟨e,he,M7,h1⟩:=(zB hb (Array.getElem?_eq_getElem hi)).1 h
  have Xy:=J6 hb (Array.getElem?_eq_getElem hi) he M7
  refine(zB hb (Array.getElem?_eq_getElem hi)).2 ⟨e,he,M7,?_⟩
  rcases h1 with rfl|h1
  ·exact .inr h'
  ·exact .inr (ih e.on Xy j k (by omega) h1 h')
theorem get_filter(f:Nat→Bool):∀(hh:Heap) (i:Nat),Heap.get (hh.filter fun p=>f p.1) i=if f i then hh.get i else none
 |[],i=>by simp[Heap.get]
 |(j,o)::r,i=>by
  rw[List.filter_cons]
  split
  ·rename_i hj
   simp only[Heap.get]
   by_cases e:j=i
   ·subst e;simp only at hj;simp[hj]
   ·simp only[if_neg e];exact get_filter f r i
  ·rename_i hj
   rw[get_filter f r i]
   simp only[Heap.get]
   by_cases e:j=i
   ·subst e;simp only at hj;simp[hj]
   ·simp only[if_neg e]
theorem Nn(rid Jx:Nat)(hh:Heap)(id:Nat):(ahead rid Jx hh).get id=if qI rid Jx id then hh.get id else none:=by
 unfold ahead
 exact get_filter (fun i=>qI rid Jx i) hh id
theorem PX(ft:List Nat)(hp:Heap)(e:bI):(gQ ft hp e).v=e.v:=by cases e<;>rfl
theorem G7{id:Nat}{hh:Heap}{s:List (Nat×AV)}{o:Oper}{x:Operand}{e:bI}(hl:jl o.op=some x)(he:cV P Eqs Sg F id hh s o some=some e):∃v,e=.val v:=by
 obtain⟨dst,op,type,pos,after,guard⟩:=o
 cases op<;>simp only[jl]at hl<;>first|(cases hl;done)|skip
 case load t a =>
  simp only[cV,lH]at he
  repeat' (first|(cases he;done)|exact⟨_,(Option.some.inj he).symm⟩|split at he)
  all_goals
   obtain⟨y,_,he⟩:=Option.bind_eq_some_iff.1 he
   split at he<;>first|(cases he;done)|exact⟨_,(Option.some.inj he).symm⟩
 case indexAddr t a i =>
  simp only[cV,dy]at he
  repeat' (first|(cases he;done)|exact⟨_,(Option.some.inj he).symm⟩|split at he)
  all_goals first
   |(obtain⟨y,_,he⟩:=Option.bind_eq_some_iff.1 he;exact⟨_,(Option.some.inj he).symm⟩)
   |(unfold cond at he;split at he<;>first|(cases he;done)|exact⟨_,(Option.some.inj he).symm⟩)
theorem DV{op:Op}{x:Operand}(hl:jl op=some x):nj op=false∧EL op=false:=by
 cases op<;>simp only[jl]at hl<;>first|(cases hl;done)|exact⟨rfl,rfl⟩
theorem J7{id:Nat}{hh h2:Heap}{s:List (Nat×AV)}{o:Oper}{x:Operand}(hl:jl o.op=some x)(hg:∀i∈uE (ρ s x),h2.get i=hh.get i):cV P Eqs Sg F id h2 s o some=cV P Eqs Sg F id hh s o some:=by
 obtain⟨dst,op,type,pos,after,guard⟩:=o
 cases op<;>simp only[jl]at hl<;>first|(cases hl;done)|skip
 case load t a =>
  cases hl
  simp only[cV,lH]
  cases hv:ρ s x with
  |ref i s' j off=>rw[hv]at hg;simp only[uE,List.mem_singleton,forall_eq]at hg;simp only[hg]
  |_=>rfl
 case indexAddr t a i =>
  cases hl
  simp only[cV,dy]
  cases xN P t with
  |none=>rfl
  |some e =>
   simp only[]
   cases hv:ρ s x with
   |bH k =>
    rw[hv]at hg
    have AA:=hg k (by simp[uE])
    cases ρ s i<;>first|rfl|simp only[AA]
   |sl ex k xs=>cases ρ s i<;>rfl
   |_=>rfl
def qi(ops:Array Oper)(T:Nat→AV)(o:Oper)(t:Bool):Prop :=
 match o.guard with
 |none=>t=true
 |some (j,want)=>∃d,(ops[j]?).bind (·.dst)=some d∧((∃u,T d=.bool u∧(u==want)=t)∨(∃vs,T d=.nh vs∧t=false))
def A5(P:Program)(Eqs:TypeId→Option K)(Sg:FuncId→Option aN)(F:(f:FuncId)→(g:aN)→g.A→Option g.B)(rid:Nat)(ops:Array Oper)(b:Array Nat)(T:Nat→Nat→AV)(H:Nat→Hp)(E:Nat→Option bI)(k:Nat)(o:Oper):Prop :=
 (∃e s hh,E k=some e∧look s=T k∧(∀id,Heap.get hh id=if qI rid (b.getD k 0) id then H k id else none)∧(∃e0,cV P Eqs Sg F (opId rid k) (gW hh (gX ops b k s o)) s o some=some e0∧e=gQ (gX ops b k s o) hh e0∧nk (gX ops b k s o) e0=true) ∧
  gP true rid ops b k (b.getD k 0) e=true∧qi ops (T k) o true∧T (k+1)=iY (T k) o.dst e.v∧H (k+1)=e.hp (H k)) ∨
 (E k=none∧qi ops (T k) o false∧T (k+1)=iY (T k) o.dst (.nh [])∧H (k+1)=H k)
theorem trace{kk:St→Option R}{r:R}:∀(l:List (Nat×Oper)) (i:Nat) (st:St),A2 ops i l→l.length=ops.size-i→bD P Eqs Sg F rid true ops b l st kk=some r →
  ∃(T:Nat→Nat→AV) (H:Nat→Hp) (E:Nat→Option bI),T i=look st.tmps∧H i=st.heap.get∧(∀k o,i≤k→ops[k]? = some o→A5 P Eqs Sg F rid ops b T H E k o) ∧
   ∃eJ,kk eJ=some r∧look eJ.tmps=T (max i ops.size)∧eJ.heap.get=H (max i ops.size)
 |[],i,st,_,hlen,hx=>by
  have VQ:ops.size≤i:=by simp at hlen;omega
  refine⟨fun _=>look st.tmps,fun _=>st.heap.get,fun _=>none,rfl,rfl,fun k o hk ho=>?_,st,hx,rfl,rfl⟩
  have:=(Array.getElem?_eq_some_iff.1 ho).1
  omega
 |(i',o)::l,i,st,hl,hlen,hx=>by
  obtain⟨rfl,ho,hl⟩:=hl
  have aF:=(Array.getElem?_eq_some_iff.1 ho).1
  have ih:=trace (kk:=kk) (r:=r) l (i'+1)
  have ZV:l.length=ops.size-(i'+1):=by simp at hlen;omega
  have glue:∀(eJ:St) (oe:Option bI),bD P Eqs Sg F rid true ops b l eJ kk=some r →
    (∀T H E,T i'=look st.tmps→H i'=st.heap.get→E i'=oe→T (i'+1)=look eJ.tmps→H (i'+1)=eJ.heap.get→A5 P Eqs Sg F rid ops b T H E i' o) →
    ∃(T:Nat→Nat→AV) (H:Nat→Hp) (E:Nat→Option bI),T i'=look st.tmps∧H i'=st.heap.get∧(∀k o,i'≤k→ops[k]? = some o→A5 P Eqs Sg F rid ops b T H E k o) ∧
     ∃eJ,kk eJ=some r∧look eJ.tmps=T (max i' ops.size)∧eJ.heap.get=H (max i' ops.size):=by
   intro eJ oe Zv uK
   obtain⟨T,H,E,h1,h2,h3,aeW,h4,h5,h6⟩:=ih eJ hl ZV Zv
   refine⟨fun k=>if k≤i' then look st.tmps else T k,fun k=>if k≤i' then st.heap.get else H k,fun k=>if k=i' then oe else E k,by simp,by simp,fun k o' hk nt => ?_,aeW,h4,?_,?_⟩
   ·by_cases hki:k=i'
    ·subst hki
     rw[ho]at nt
     cases nt
     exact uK _ _ _ (by simp) (by simp) (by simp) (by show(if k+1≤k then _ else _)=_;rw[if_neg (by omega)];exact h1) (by show(if k+1≤k then _ else _)=_;rw[if_neg (by omega)];exact h2)
    ·have h7:=h3 k o' (by omega) nt
     unfold A5 at h7 ⊢
     simp only[show ¬k≤i' by omega,show ¬k+1≤i' by omega,hki,if_false]
     exact h7
   ·rw[h5];simp only[show max (i'+1) ops.size=ops.size by omega,show max i' ops.size=ops.size by omega,show ¬ops.size≤i' by omega,if_false]
   ·rw[h6];simp only[show max (i'+1) ops.size=ops.size by omega,show max i' ops.size=ops.size by omega,show ¬ops.size≤i' by omega,if_false]
  have runs:∀iA:St,look iA.tmps=look st.tmps→iA.heap=st.heap→qi ops (look st.tmps) o true →
    (cV P Eqs Sg F (opId rid i') (gW (ahead rid (b.getD i' 0) iA.heap) (gX ops b i' iA.tmps o)) iA.tmps o fun e=>if(gP true rid ops b i' (b.getD i' 0) (gQ (gX ops b i' iA.tmps o) (ahead rid (b.getD i' 0) iA.heap) e)&&nk (gX ops b i' iA.tmps o) e)=true then bD P Eqs Sg F rid true ops b l ({ iA with heap:=match gQ (gX ops b i' iA.tmps o) (ahead rid (b.getD i' 0) iA.heap) e with | .wr _ h=>h|e=>e.h iA.heap }.put o.dst e.v) kk else none)=some r →
    ∃(T:Nat→Nat→AV) (H:Nat→Hp) (E:Nat→Option bI),T i'=look st.tmps∧H i'=st.heap.get∧(∀k o,i'≤k→ops[k]? = some o→A5 P Eqs Sg F rid ops b T H E k o) ∧
     ∃eJ,kk eJ=some r∧look eJ.tmps=T (max i' ops.size)∧eJ.heap.get=H (max i' ops.size):=by
   intro iA h1 h2 hw hx
   rw[lq]at hx
   obtain⟨e,he,hx⟩:=Option.bind_eq_some_iff.1 hx
   split at hx
   ·rename_i mw
    rw[Bool.and_eq_true]at mw
    generalize zF:gQ (gX ops b i' iA.tmps o) (ahead rid (b.getD i' 0) iA.heap) e=e1 at hx mw
    have uQ:e.v=e1.v:=by rw[←zF];exact(PX _ _ _).symm
    refine glue _ (some e1) hx fun T H E hT hH hE hT' Xp => ?_
    refine .inl ⟨e1,iA.tmps,_,hE,by rw[hT,h1],fun id=>by rw[Nn,hH,h2],⟨e,he,zF.symm,mw.2⟩,mw.1,by rw[hT];exact hw,?_,?_⟩
    ·rw[hT',hM,hT,uQ];simp only[h1]
    ·rw[Xp,de,hH]
     have:(bI.heap e1 iA.heap).get=e1.hp st.heap.get:=by rw[bI.G4,h2]
     exact this
   ·cases hx
  have uZ:∀iA:St,look iA.tmps=look st.tmps→iA.heap=st.heap→qi ops (look st.tmps) o false →
    bD P Eqs Sg F rid true ops b l (iA.put o.dst (.nh [])) kk=some r →
    ∃(T:Nat→Nat→AV) (H:Nat→Hp) (E:Nat→Option bI),T i'=look st.tmps∧H i'=st.heap.get∧(∀k o,i'≤k→ops[k]? = some o→A5 P Eqs Sg F rid ops b T H E k o) ∧
     ∃eJ,kk eJ=some r∧look eJ.tmps=T (max i' ops.size)∧eJ.heap.get=H (max i' ops.size):=by
   intro iA h1 h2 hw hx
   refine glue _ none hx fun T H E hT hH hE hT' Xp=>.inr ⟨hE,by rw[hT];exact hw,?_,?_⟩
   ·rw[hT',hM,hT,h1]
   ·rw[Xp,de,hH,h2]
  rw[bD]at hx
  simp only[if_true]at hx
  split at hx
  ·rename_i hg
   exact runs st rfl rfl (by simp[qi,hg]) hx
  ·rename_i jj want hg
   split at hx
   ·cases hx
   ·rename_i d hd
    split at hx
    ·rename_i t ht
     have hp:∀b,t=b→look (st.put (some d) (.bool b)).tmps=look st.tmps:=fun b hb=>by
      subst hb;rw[hM];exact DQ ht
     have hw:∀c,(t==want)=c→qi ops (look st.tmps) o c:=fun c hc=>by
      unfold qi;rw[hg];exact⟨d,hd,.inl ⟨t,ht,hc⟩⟩
     cases t<;>simp only[cond_true,cond_false]at hx<;>split at hx<;>rename_i qY
     ·exact uZ _ (hp false rfl) (de _ _ _) (hw _ (by simp[qY])) hx
     ·exact runs _ (hp false rfl) (de _ _ _) (hw _ (by simp[qY])) hx
     ·exact runs _ (hp true rfl) (de _ _ _) (hw _ (by simp[qY])) hx
     ·exact uZ _ (hp true rfl) (de _ _ _) (hw _ (by simp[qY])) hx
    ·rename_i vs ht
     exact uZ st rfl rfl (by unfold qi;rw[hg];exact⟨d,hd,.inr ⟨vs,ht,rfl⟩⟩) hx
    ·cases hx
def Nf(ops:Array Oper)(j:Nat):Prop:=∃o,ops[j]? = some o∧nj o.op=false∧jl o.op=none
def zG(E:Nat→Option bI)(k:Nat):Prop:=∃v h',E k=some (.wr v h')
def YY(E:Nat→Option bI)(k:Nat):Prop:=∃v os,E k=some (.new v os)
theorem u4{α:Type}(f:α→Option Nat):∀(l:List α),cc (l.filterMap f)=true→∀(i j:Nat) (x y:α) (d:Nat),l[i]? = some x→l[j]? = some y→f x=some d→f y=some d→i=j
 |[],_,i,j,x,y,d,hi,_,_,_=>by simp at hi
 |a::r,hn,i,j,x,y,d,hi,hj,hx,hy=>by
  have gR:∀(k:Nat) (z:α),r[k]? = some z→f z=some d→d∈r.filterMap f:=fun k z hk hz=>List.mem_filterMap.2 ⟨z,List.mem_of_getElem? hk,hz⟩
  have hr:cc (r.filterMap f)=true∧∀c,f a=some c→c∉r.filterMap f:=by
   rw[List.filterMap_cons]at hn
   split at hn
   ·rename_i h0;exact⟨hn,fun c hc=>by rw[h0]at hc;cases hc⟩
   ·rename_i c h0
    simp only[cc,Bool.and_eq_true,Bool.not_eq_true']at hn
    refine⟨hn.2,fun c' hc=>?_⟩
    rw[h0]at hc;cases hc
    intro hm
    rw[List.contains_iff_mem.2 hm]at hn;simp at hn
  cases i with
  |zero =>
   cases j with
   |zero=>rfl
   |succ j =>
    simp only[List.getElem?_cons_zero,Option.some.injEq]at hi;subst hi
    exact absurd (gR j y (by simpa using hj) hy) (hr.2 d hx)
  |succ i =>
   cases j with
   |zero =>
    simp only[List.getElem?_cons_zero,Option.some.injEq]at hj;subst hj
    exact absurd (gR i x (by simpa using hi) hx) (hr.2 d hy)
   |succ j=>rw[u4 f r hr.1 i j x y d (by simpa using hi) (by simpa using hj) hx hy]
structure Dr(P:Program)(Eqs:TypeId→Option K)(Sg:FuncId→Option aN)(F:(f:FuncId)→(g:aN)→g.A→Option g.B)(rid n:Nat)(ops:Array Oper)(b:Array Nat)(T:Nat→Nat→AV)(H:Nat→Hp)(E:Nat→Option bI):Prop where
 size:ops.size≤128
 OQ:uC ops b=true
 pair:Ak ops b=true
 aeY:∀(i:Nat) (o:Oper),ops[i]? = some o→im n o=true
 nodup:cc (ops.toList.filterMap (·.dst))=true
 step:∀k o,ops[k]? = some o→A5 P Eqs Sg F rid ops b T H E k o
 aeZ:∀id,H 0 id≠none→id / 32768≠rid+1
section
variable {T:Nat→Nat→AV} {H:Nat→Hp} {E:Nat→Option bI}
theorem Dr.zH(D:Dr P Eqs Sg F rid n ops b T H E){i j:Nat}{x y:Oper}{d:Nat}(hi:ops[i]? = some x)(hj:ops[j]? = some y)(hx:x.dst=some d)(hy:y.dst=some d):i=j :=
 u4 (·.dst) ops.toList D.nodup i j x y d (by simpa using hi) (by simpa using hj) hx hy
theorem Dr.VW(D:Dr P Eqs Sg F rid n ops b T H E){i j:Nat}{x y:Oper}(hi:ops[i]? = some x)(hj:ops[j]? = some y)(zq:i<j):r8 b j i∨x.apart ops y=true:=by
 have h1:=List.all_eq_true.1 D.pair j (List.mem_range.2 (Array.getElem?_eq_some_iff.1 hj).1)
 have h2:=List.all_eq_true.1 h1 i (List.mem_range.2 zq)
 rw[hi,hj]at h2
 simp only[Bool.or_eq_true,Bool.and_eq_true]at h2
 exact h2
theorem Dr.Uk(D:Dr P Eqs Sg F rid n ops b T H E){k:Nat}{o:Oper}(ho:ops[k]? = some o){e:bI}(he:E k=some e) :
  ∃s hh,look s=T k∧(∀id,Heap.get hh id=if qI rid (b.getD k 0) id then H k id else none)∧(∃e0,cV P Eqs Sg F (opId rid k) (gW hh (gX ops b k s o)) s o some=some e0∧e=gQ (gX ops b k s o) hh e0∧nk (gX ops b k s o) e0=true) ∧
   gP true rid ops b k (b.getD k 0) e=true∧qi ops (T k) o true∧T (k+1)=iY (T k) o.dst e.v∧H (k+1)=e.hp (H k):=by
 rcases D.step k o ho with⟨e',s,hh,h1,h2⟩|⟨h1,_⟩
 ·rw[he]at h1;cases h1;exact⟨s,hh,h2⟩
 ·rw[he]at h1;cases h1
theorem Dr.E8(D:Dr P Eqs Sg F rid n ops b T H E){k:Nat}{o:Oper}(ho:ops[k]? = some o)(he:E k=none) :
  qi ops (T k) o false∧T (k+1)=iY (T k) o.dst (.nh [])∧H (k+1)=H k:=by
 rcases D.step k o ho with⟨e',s,hh,h1,h2⟩|⟨h1,h2⟩
 ·rw[he]at h1;cases h1
 ·exact h2
theorem Dr.wN(D:Dr P Eqs Sg F rid n ops b T H E){k:Nat}(hk:k<ops.size)(h:YY E k):Nf ops k:=by
 obtain⟨v,os,he⟩:=h
 obtain⟨s,hh,_,_,⟨e0,h3,VM,_⟩,_⟩:=D.Uk (Array.getElem?_eq_getElem hk) he
 refine⟨_,Array.getElem?_eq_getElem hk,?_,?_⟩
 ·cases hf:nj (ops[k]).op with
  |false=>rfl
  |true=>obtain⟨v',rfl⟩:=GZ hf h3;cases VM
 ·cases hf:jl (ops[k]).op with
  |none=>rfl
  |some x=>obtain⟨v',rfl⟩:=G7 hf h3;cases VM
theorem Dr.PY(D:Dr P Eqs Sg F rid n ops b T H E){k:Nat}(hk:k<ops.size)(h:zG E k):Nf ops k:=by
 obtain⟨v,os,he⟩:=h
 obtain⟨s,hh,_,_,⟨e0,h3,VM,_⟩,_⟩:=D.Uk (Array.getElem?_eq_getElem hk) he
 refine⟨_,Array.getElem?_eq_getElem hk,?_,?_⟩
 ·cases hf:nj (ops[k]).op with
  |false=>rfl
  |true=>obtain⟨v',rfl⟩:=GZ hf h3;cases VM
 ·cases hf:jl (ops[k]).op with
  |none=>rfl
  |some x=>obtain⟨v',rfl⟩:=G7 hf h3;cases VM
theorem Dr.A6(D:Dr P Eqs Sg F rid n ops b T H E){k j:Nat}(hk:k<ops.size)(h:zG E k)(hj:Nf ops j)(br:j≠k):(j<k∧r8 b k j)∨(k<j∧r8 b j k):=by
 obtain⟨v,os,he⟩:=h
 obtain⟨s,hh,_,_,_,h4,_⟩:=D.Uk (Array.getElem?_eq_getElem hk) he
 obtain⟨o,ho,hf,TA⟩:=hj
 have Jj:=(Array.getElem?_eq_some_iff.1 ho).1
 simp only[gP,Bool.and_eq_true]at h4
 have h5:Jw ops b k=true:=by simpa using h4.1.1
 have h6:=List.all_eq_true.1 h5 j (List.mem_range.2 Jj)
 have hlf:uD ops k j=false:=by unfold uD;rw[ho];simp only[Option.bind_some,TA]
 rw[hlf,Bool.and_false,ho]at h6
 simp only[Bool.or_eq_true,beq_iff_eq,hf,Bool.false_eq_true,or_false]at h6
 rcases h6 with(h6|h6)|h6
 ·exact absurd h6 br
 ·exact .inr ⟨A4 D.OQ j k Jj h6,h6⟩
 ·exact .inl ⟨A4 D.OQ k j hk h6,h6⟩
theorem Dr.A7(D:Dr P Eqs Sg F rid n ops b T H E){p:Nat}:∀(q:Nat),p≤q→q≤ops.size→∀id,(∀k,p≤k→k<q→zG E k→H (k+1) id=H k id)→(∀k,p≤k→k<q→YY E k→¬Of rid k id)→H q id=H p id:=by
 intro q
 induction q with
 |zero=>intro AI _ id _ _;rw[Nat.le_zero.1 AI]
 |succ q ih =>
  intro AI hq id hw bO
  by_cases he:p=q+1
  ·rw[he]
  ·have h1:=ih (by omega) (by omega) id (fun k h1 h2=>hw k h1 (by omega)) (fun k h1 h2=>bO k h1 (by omega))
   rw[←h1]
   have ho:=Array.getElem?_eq_getElem (show q<ops.size by omega)
   cases hE:E q with
   |none=>rw[(D.E8 ho hE).2.2]
   |some e =>
    obtain⟨s,hh,_,_,_,h4,_,_,h7⟩:=D.Uk ho hE
    cases e with
    |val v=>rw[h7];rfl
    |wr v h'=>exact hw q (by omega) (by omega) ⟨v,h',hE⟩
    |new v os =>
     rw[h7]
     simp only[bI.hp]
     cases ON:Heap.get os id with
     |none=>rfl
     |some o' =>
      exfalso
      simp only[gP,Bool.and_eq_true]at h4
      refine bO q (by omega) (by omega) ⟨v,os,hE⟩ ?_
      have:∀(l:Heap),(l.all fun p=>p.1 / 256==(rid+1)*128+q)=true→∀o',l.get id=some o'→Of rid q id:=by
       intro l
       induction l with
       |nil=>intro _ o' h;simp[Heap.get]at h
       |cons a r ihl =>
        intro eW o' hg
        simp only[List.all_cons,Bool.and_eq_true,beq_iff_eq]at eW
        simp only[Heap.get]at hg
        split at hg
        ·rename_i e;rw[←e];exact eW.1
        ·exact ihl eW.2 o' hg
      exact this os h4.1.2 o' ON
theorem Dr.zJ(D:Dr P Eqs Sg F rid n ops b T H E){p:Nat}(q:Nat)(AI:p≤q)(hq:q≤ops.size)(hw:∀k,p≤k→k<q→¬zG E k)(id:Nat)(hn:∀k,p≤k→k<q→YY E k→¬Of rid k id):H q id=H p id :=
 D.A7 q AI hq id (fun k h1 h2 h3=>absurd h3 (hw k h1 h2)) hn
theorem Dr.names(D:Dr P Eqs Sg F rid n ops b T H E):∀(k:Nat),k≤ops.size→∀id,H k id≠none→id / 32768=rid+1→∃j,Of rid j id∧j<k∧j<128∧(YY E j∨∃w,w<k∧zG E w∧(j=w∨r8 b w j)):=by
 intro k
 induction k with
 |zero=>intro _ id h1 h2;exact absurd h2 (D.aeZ id h1)
 |succ k ih =>
  intro hk id h1 h2
  have aF:k<ops.size:=by omega
  have up:H k id≠none→∃j,Of rid j id∧j<k+1∧j<128∧(YY E j∨∃w,w<k+1∧zG E w∧(j=w∨r8 b w j)):=fun h=>by
   obtain⟨j,h3,h4,h4',h5⟩:=ih (by omega) id h h2
   exact⟨j,h3,by omega,h4',h5.imp (fun h=>h) fun⟨w,h6,h7⟩=>⟨w,by omega,h7⟩⟩
  have ho:=Array.getElem?_eq_getElem aF
  have PZ:=D.size
  cases hE:E k with
  |none=>rw[(D.E8 ho hE).2.2]at h1;exact up h1
  |some e =>
   obtain⟨s,hh,_,_,_,h4,_,_,h7⟩:=D.Uk ho hE
   rw[h7]at h1
   cases e with
   |val v=>exact up h1
   |wr v h' =>
    obtain⟨o',nt⟩:=Option.ne_none_iff_exists'.1 h1
    simp only[gP,Bool.and_eq_true]at h4
    have h5:(b.getD k 0 ||| 2 ^ k).testBit (id / 256%128)=true:=(lW (S:=fun j=>(b.getD k 0 ||| 2 ^ k).testBit j=true) (fun j hj=>hj) h4.2 id o' nt).1 h2
    rw[Nat.testBit_or,Bool.or_eq_true,Nat.testBit_two_pow]at h5
    refine⟨id / 256%128,Of.of h2 rfl,?_,by omega,.inr ⟨k,by omega,⟨v,h',hE⟩,?_⟩⟩
    ·rcases h5 with h5|h5
     ·have:=A4 D.OQ k _ aF h5;omega
     ·have:=of_decide_eq_true h5;omega
    ·rcases h5 with h5|h5
     ·exact .inr h5
     ·exact .inl (of_decide_eq_true h5).symm
   |new v os =>
    simp only[bI.hp]at h1
    cases ON:Heap.get os id with
    |none=>rw[ON]at h1;exact up h1
    |some o' =>
     simp only[gP,Bool.and_eq_true]at h4
     have:∀(l:Heap),(l.all fun p=>p.1 / 256==(rid+1)*128+k)=true→∀o',l.get id=some o'→Of rid k id:=by
      intro l
      induction l with
      |nil=>intro _ o' h;simp[Heap.get]at h
      |cons a r ihl =>
       intro eW o' hg
       simp only[List.all_cons,Bool.and_eq_true,beq_iff_eq]at eW
       simp only[Heap.get]at hg
       split at hg
       ·rename_i e;rw[←e];exact eW.1
       ·exact ihl eW.2 o' hg
     exact⟨k,this os h4.1.2 o' ON,by omega,by omega,.inl ⟨v,os,hE⟩⟩
theorem Dr.Xz(D:Dr P Eqs Sg F rid n ops b T H E){q:Nat}(nE:q<ops.size)(Ul:zG E q):∀id,H q id≠none→mz rid (r8 b q) id:=fun id br P0=>by
 obtain⟨j,h1,h2,h2',h3⟩:=D.names q (by omega) id br P0
 rw[(h1.parts h2').2]
 rcases h3 with h3|⟨w',h5,h6,h8⟩
 ·rcases D.A6 nE Ul (D.wN (by omega) h3) (by omega) with⟨_,h9⟩|⟨h9,_⟩
  ·exact h9
  ·omega
 ·have ZW:r8 b q w':=by
   rcases D.A6 nE Ul (D.PY (by omega) h6) (by omega) with⟨_,h9⟩|⟨h9,_⟩
   ·exact h9
   ·omega
  rcases h8 with rfl|h8
  ·exact ZW
  ·exact DU D.OQ q w' j nE ZW h8
theorem Dr.wO(D:Dr P Eqs Sg F rid n ops b T H E){d p:Nat}:∀(q:Nat),p≤q→q≤ops.size→(∀m o,p≤m→m<q→ops[m]? = some o→o.dst≠some d)→T q d=T p d
 |0,h,_,_=>by rw[Nat.le_zero.1 h]
 |q+1,h,hq,hm=>by
  by_cases e:p=q+1
  ·rw[e]
  ·have ho:=Array.getElem?_eq_getElem (show q<ops.size by omega)
   have ih:=D.wO q (by omega) (by omega) fun m o h1 h2=>hm m o h1 (by omega)
   rw[←ih]
   have hd:=hm q _ (by omega) (by omega) ho
   have key:∀v,iY (T q) (ops[q]).dst v d=T q d:=fun v=>by
    cases kP:(ops[q]).dst with
    |none=>rfl
    |some d' =>
     simp only[iY,ed]
     rw[if_neg]
     rintro rfl
     exact hd kP
   rcases D.step q _ ho with⟨e,s,hh,_,_,_,_,_,_,h7,_⟩|⟨_,_,h3,_⟩
   ·rw[h7,key]
   ·rw[h3,key]
theorem Dr.steady(D:Dr P Eqs Sg F rid n ops b T H E){i k:Nat}{o:Oper}{x:Operand}(ho:ops[i]? = some o)(hl:jl o.op=some x)(hk:k<ops.size)(hw:zG E k)(br:i≠k)(h1:¬r8 b i k)(h2:¬r8 b k i)
  {s:List (Nat×AV)} (hs:look s=T i) {id:Nat} (bO:id∈uE (ρ s x)):H (k+1) id=H k id:=by
 have nE:=(Array.getElem?_eq_some_iff.1 ho).1
 obtain⟨v,h',hE⟩:=hw
 have mw:=Array.getElem?_eq_getElem hk
 obtain⟨sk,hh,P1,Um,⟨e0,VM,zF,tG⟩,h4,_,_,h7⟩:=D.Uk mw hE
 simp only[gP,Bool.and_eq_true]at h4
 have h5:Jw ops b k=true:=by simpa using h4.1.1
 have h6:=List.all_eq_true.1 h5 i (List.mem_range.2 nE)
 rw[ho,mw]at h6
 have b1:(b.getD i 0).testBit k=false:=Bool.eq_false_iff.2 h1
 have b2:(b.getD k 0).testBit i=false:=Bool.eq_false_iff.2 h2
 have b3:(i==k)=false:=by simp[br]
 simp only[b1,b2,b3,(DV hl).1,Bool.false_or,Bool.and_eq_true]at h6
 obtain⟨DW,Ls⟩:=h6
 have ZX:gX ops b k sk ops[k]=WZ ops b k sk:=by unfold gX;rw[if_pos DW]
 have nM:ρ sk x=ρ s x:=by
  cases x with
  |tmp d =>
   simp only[ρ,P1,hs]
   unfold uD at Ls
   rw[ho]at Ls
   simp only[Option.bind_some,hl]at Ls
   have hm:∀m o',min k i≤m→m<max k i→ops[m]? = some o'→o'.dst≠some d:=fun m o' g1 g2 g3 hd=>by
    have g4:=List.all_eq_true.1 Ls m (List.mem_range.2 (by omega))
    rw[g3]at g4
    simp[hd,g1,g2]at g4
   rcases Nat.lt_or_ge i k with g|g
   ·exact D.wO k (by omega) (by omega) fun m o' g1 g2=>hm m o' (by omega) (by omega)
   ·exact(D.wO i (by omega) (by omega) fun m o' g1 g2=>hm m o' (by omega) (by omega)).symm
  |_=>rfl
 have gR:id∈gX ops b k sk ops[k]:=by
  rw[ZX]
  unfold WZ
  refine List.mem_flatMap.2 ⟨i,List.mem_range.2 nE,?_⟩
  rw[b1,b2,b3,ho]
  simp only[Bool.or_self,Bool.false_eq_true,if_false,Option.bind_some,hl]
  rw[nM];exact bO
 cases e0 with
 |val v0=>cases zF
 |new v0 os=>cases zF
 |wr v0 Tx =>
  cases zF
  simp only[nk,Bool.and_eq_true]at tG
  have hn:Tx.get id=none:=by
   cases e:Tx.get id with
   |none=>rfl
   |some ob=>exact absurd gR (kq tG.2 id ob e).1
  rw[h7]
  show(fj _ hh Tx).get id=H k id
  rw[kl,if_pos gR,hn,Um id]
  cases ae2:H k id with
  |none=>simp
  |some ob =>
   have h8:=D.Xz hk ⟨_,_,hE⟩ id (by rw[ae2];simp)
   have h9:qI rid (b.getD k 0) id=true:=by
    unfold qI
    by_cases hr:id / 32768=rid+1
    ·have:=h8 hr
     unfold r8 at this
     rw[this];simp
    ·simp[hr]
   rw[if_pos h9]
end
end Go.Vs
namespace Go.Vs
variable {P:Program} {Eqs:TypeId→Option K} {Sg:FuncId→Option aN} {F:(f:FuncId)→(g:aN)→g.A→Option g.B} {R:Type}
variable {Z Z' Z0:Nat→Prop} {ψ ψ' ψ0:Nat→Value} {h h':Hp} {w w' w0:World} {B0:Nat} {O N:Nat→Prop}
variable {rid n:Nat} {ops:Array Oper} {b:Array Nat} {T:Nat→Nat→AV} {H:Nat→Hp} {E:Nat→Option bI}
structure Dj(rid:Nat)(ops:Array Oper)(b:Array Nat)(T:Nat→Nat→AV)(H:Nat→Hp)(E:Nat→Option bI)(S:Nat→Prop)(Tc:Nat→AV)(h:Hp):Prop where
 lt:∀i,S i→i<ops.size
 closed:∀i j,S i→r8 b i j→S j
 heap:∃q,q≤ops.size∧(∀k,k<q→zG E k→S k)∧(q<ops.size→zG E q∧¬S q)∧∀id,(mz rid S id→h id=H q id)∧(¬mz rid S id→h id=none)
 P2:∀j o d,S j→ops[j]? = some o→o.dst=some d→Tc d=T (j+1) d
 told:∀d,(∀j o,S j→ops[j]? = some o→o.dst≠some d)→Tc d=T 0 d
theorem Dr.P3(D:Dr P Eqs Sg F rid n ops b T H E){k:Nat}{o:Oper}(ho:ops[k]? = some o){d:Nat}(hd:o.dst≠some d):T (k+1) d=T k d:=by
 have:∀v,iY (T k) o.dst v d=T k d:=fun v=>by
  cases kP:o.dst with
  |none=>rfl
  |some d' =>
   simp only[iY,ed]
   rw[if_neg]
   rintro rfl
   exact hd kP
 rcases D.step k o ho with⟨e,s,hh,_,_,_,_,_,_,h7,_⟩|⟨_,_,h3,_⟩
 ·rw[h7,this]
 ·rw[h3,this]
theorem Dr.u5(D:Dr P Eqs Sg F rid n ops b T H E){d:Nat}:∀(i:Nat),i≤ops.size→(∀k o,k<i→ops[k]? = some o→o.dst≠some d)→T i d=T 0 d
 |0,_,_=>rfl
 |i+1,hi,hk=>by
  rw[D.P3 (Array.getElem?_eq_getElem (show i<ops.size by omega)) (hk i _ (by omega) (Array.getElem?_eq_getElem (by omega)))]
  exact D.u5 i (by omega) fun k o h1 h2=>hk k o (by omega) h2
theorem Dr.E9(D:Dr P Eqs Sg F rid n ops b T H E){d j:Nat}{oj:Oper}(hj:ops[j]? = some oj)(hd:oj.dst=some d):∀(i:Nat),i≤ops.size→j<i→T i d=T (j+1) d
 |0,_,h=>by omega
 |i+1,hi,h=>by
  by_cases e:j=i
  ·rw[e]
  ·have ho:=Array.getElem?_eq_getElem (show i<ops.size by omega)
   rw[D.P3 ho (fun hdi=>e (D.zH hj ho hd hdi))]
   exact D.E9 hj hd i (by omega) (by omega)
theorem Dr.looks(D:Dr P Eqs Sg F rid n ops b T H E){S:Nat→Prop}{Tc:Nat→AV}(dj:Dj rid ops b T H E S Tc h){i:Nat}{o:Oper}(ho:ops[i]? = some o)(hS:¬S i)(hb:∀j,r8 b i j→S j){d:Nat}(hd:d∈o.looksAt ops):Tc d=T i d:=by
 have hi:=(Array.getElem?_eq_some_iff.1 ho).1
 by_cases hex:∃(j:Nat) (oj:Oper),ops[j]? = some oj∧oj.dst=some d
 ·obtain⟨j,oj,hj,YZ⟩:=hex
  have cT:¬S j→Tc d=T 0 d:=fun hn=>dj.told d fun j' o' hs nt P4=>hn (by rw[D.zH hj nt YZ P4];exact hs)
  have OQ:i≤j→T i d=T 0 d:=fun zq=>D.u5 i (by omega) fun k o' hk nt P4=>by have:=D.zH hj nt YZ P4;omega
  rcases Nat.lt_trichotomy j i with aF|rfl|Jo
  ·rcases D.VW hj ho aF with h1|h1
   ·rw[dj.P2 j oj d (hb j h1) hj YZ,D.E9 hj YZ i (by omega) aF]
   ·exact absurd hd ((Oper.apart_spec h1).1 d YZ)
  ·rw[cT hS,OQ (Nat.le_refl _)]
  ·rcases D.VW ho hj Jo with h1|h1
   ·rw[cT (fun hs=>hS (dj.closed j i hs h1)),OQ (by omega)]
   ·exact absurd hd ((Oper.apart_spec h1).2.2 d YZ)
 ·rw[dj.told d fun j o' _ nt P4=>hex ⟨j,o',nt,P4⟩,D.u5 i (by omega) fun k o' _ nt P4=>hex ⟨k,o',nt,P4⟩]
theorem Dr.P5{S:Nat→Prop}{Tc:Nat→AV}(D:Dr P Eqs Sg F rid n ops b T H E)(dj:Dj rid ops b T H E S Tc h){i:Nat}{o:Oper}(ho:ops[i]? = some o)(hS:¬S i){v:AV}(hv:T (i+1)=iY (T i) o.dst v) :
  (∀j o' d,(S j∨j=i)→ops[j]? = some o'→o'.dst=some d→iY Tc o.dst v d=T (j+1) d)∧(∀d,(∀j o',(S j∨j=i)→ops[j]? = some o'→o'.dst≠some d)→iY Tc o.dst v d=T 0 d):=by
 constructor
 ·intro j o' d hj nt hd
  rcases hj with hj|rfl
  ·have br:j≠i:=fun e=>hS (e▸hj)
   have:iY Tc o.dst v d=Tc d:=by
    cases kP:o.dst with
    |none=>rfl
    |some d' =>
     simp only[iY,ed]
     rw[if_neg]
     rintro rfl
     exact br (D.zH nt ho hd kP)
   rw[this];exact dj.P2 j o' d hj nt hd
  ·rw[ho]at nt;cases nt
   rw[hv,hd];simp[iY,ed]
 ·intro d hd
  have:iY Tc o.dst v d=Tc d:=by
   cases kP:o.dst with
   |none=>rfl
   |some d' =>
    simp only[iY,ed]
    rw[if_neg]
    rintro rfl
    exact hd i o (.inr rfl) ho kP
  rw[this];exact dj.told d fun j o' hj=>hd j o' (.inl hj)
theorem u6{i k id:Nat}(h1:Of rid i id)(h2:Of rid k id):i=k:=by unfold Of at h1 h2;omega
section
variable {S:Nat→Prop} {Tc:Nat→AV}
theorem Dr.calm(D:Dr P Eqs Sg F rid n ops b T H E)(dj:Dj rid ops b T H E S Tc h){i q:Nat}(hi:Nf ops i)(hS:¬S i)(hq:q≤ops.size)(hw:∀k,k<q→zG E k→S k):∀k,i≤k→k<q→¬zG E k:=by
 intro k P6 hkq hk
 have P1:=hw k hkq hk
 have br:i≠k:=fun e=>hS (e▸P1)
 rcases D.A6 (by omega) hk hi br with⟨_,h1⟩|⟨h1,_⟩
 ·exact hS (dj.closed k i P1 h1)
 ·omega
theorem Dr.seen(D:Dr P Eqs Sg F rid n ops b T H E)(dj:Dj rid ops b T H E S Tc h){i:Nat}(hi:Nf ops i)(hS:¬S i)(hb:∀j,r8 b i j→S j){hh:Heap}(Um:∀id,Heap.get hh id=if qI rid (b.getD i 0) id then H i id else none) :
  ∀id o,hh.get id=some o→h id=some o:=by
 obtain⟨q,hq,hw,iL,fE⟩:=dj.heap
 have nE:i<ops.size:=by obtain⟨o,ho,hf1,hf2⟩:=hi;exact(Array.getElem?_eq_some_iff.1 ho).1
 have ZY:i≤q:=by
  rcases Nat.lt_or_ge q i with h1|h1
  ·obtain⟨h2,h3⟩:=iL (by omega)
   rcases D.A6 (by omega) h2 hi (by omega) with⟨h4,_⟩|⟨_,h4⟩
   ·omega
   ·exact absurd (hb q h4) h3
  ·exact h1
 intro id o bO
 rw[Um]at bO
 split at bO
 ·rename_i mw
  have my:mz rid S id:=od hb mw
  rw[(fE id).1 my,D.zJ q ZY hq (D.calm dj hi hS hq hw) id fun k hk _ _ ho=>?_,bO]
  have P0:=(ho.parts (by have:=D.size;omega)).1
  obtain⟨j,h1,h2,_⟩:=D.names i (by omega) id (by rw[bO];simp) P0
  have:=u6 h1 ho
  omega
 ·cases bO
theorem Dr.No(D:Dr P Eqs Sg F rid n ops b T H E)(dj:Dj rid ops b T H E S Tc h){i:Nat}{o:Oper}{x:Operand}(ho:ops[i]? = some o)(hl:jl o.op=some x)(hS:¬S i)(hb:∀j,r8 b i j→S j){s:List (Nat×AV)}(hs:look s=T i)
  {hh:Heap} (Um:∀id,Heap.get hh id=if qI rid (b.getD i 0) id then H i id else none):∀id∈uE (ρ s x),∀ob,hh.get id=some ob→h id=some ob:=by
 obtain⟨q,hq,hw,iL,fE⟩:=dj.heap
 have nE:=(Array.getElem?_eq_some_iff.1 ho).1
 have PZ:=D.size
 intro id bO ob jE
 rw[Um]at jE
 split at jE
 ·rename_i mw
  have my:mz rid S id:=od hb mw
  rw[(fE id).1 my,←jE]
  rcases Nat.lt_or_ge q i with hqi|ZY
  ·obtain⟨h2,h3⟩:=iL (by omega)
   have later:∀k,q<k→k<ops.size→Nf ops k→r8 b k q:=fun k h4 h5 h6=>by
    rcases D.A6 (by omega) h2 h6 (by omega) with⟨h7,_⟩|⟨_,h7⟩
    ·omega
    ·exact h7
   have ZZ:∀k,q≤k→k<i→Nf ops k→¬S k:=fun k h4 h5 h6 hk=>by
    rcases Nat.eq_or_lt_of_le h4 with e|h7
    ·exact h3 (e▸hk)
    ·exact h3 (dj.closed k q hk (later k h7 (by omega) h6))
   symm
   refine D.A7 i (by omega) (by omega) id (fun k h4 h5 h6=>?_) (fun k h4 h5 h6 h7=>?_)
   ·have hns:=ZZ k h4 h5 (D.PY (by omega) h6)
    exact D.steady ho hl (by omega) h6 (by omega) (fun J8=>hns (hb k J8)) (fun J8=>by have:=A4 D.OQ k i (by omega) J8;omega) hs bO
   ·have hns:=ZZ k h4 h5 (D.wN (by omega) h6)
    have h8:=h7.parts (show k<128 by omega)
    have h9:=my h8.1
    rw[h8.2]at h9
    exact hns h9
  ·refine D.A7 q ZY hq id (fun k h4 h5 h6=>?_) (fun k h4 h5 h6 h7=>?_)
   ·have P1:=hw k h5 h6
    have br:i≠k:=fun e=>hS (e▸P1)
    exact D.steady ho hl (by omega) h6 br (fun J8=>by have:=A4 D.OQ i k nE J8;omega) (fun J8=>hS (dj.closed k i P1 J8)) hs bO
   ·obtain⟨j,h8,h9,_⟩:=D.names i (by omega) id (by rw[jE];simp) (h7.parts (by omega)).1
    have:=u6 h8 h7
    omega
 ·cases jE
theorem P7(E:Nat→Option bI)(S:Nat→Prop)(m:Nat):∃q,q≤m∧(∀k,k<q→zG E k→S k)∧(q<m→zG E q∧¬S q):=by
 classical
 induction m with
 |zero=>exact⟨0,Nat.le_refl _,fun k hk=>by omega,fun h=>by omega⟩
 |succ m ih =>
  obtain⟨q,h1,h2,h3⟩:=ih
  by_cases hq:q<m
  ·exact⟨q,by omega,h2,fun _=>h3 hq⟩
  ·have:q=m:=by omega
   subst this
   by_cases hm:zG E q∧¬S q
   ·exact⟨q,by omega,h2,fun _=>hm⟩
   ·refine⟨q+1,by omega,fun k hk hw=>?_,fun h=>by omega⟩
    rcases Nat.lt_or_ge k q with h4|h4
    ·exact h2 k h4 hw
    ·have:k=q:=by omega
     subst this
     exact Classical.not_not.1 fun hn=>hm ⟨hw,hn⟩
theorem A8{i id:Nat}(hi:i<128):mz rid (fun k=>S k∨k=i) id↔mz rid S id∨Of rid i id:=by
 constructor
 ·intro h1
  by_cases hr:id / 32768=rid+1
  ·rcases h1 hr with h2|h2
   ·exact .inl fun _=>h2
   ·exact .inr (Of.of hr h2)
  ·exact .inl fun h=>absurd h hr
 ·rintro(h1|h1) h2
  ·exact .inl (h1 h2)
  ·exact .inr (h1.parts hi).2
theorem Dr.G8(D:Dr P Eqs Sg F rid n ops b T H E)(dj:Dj rid ops b T H E S Tc h){i:Nat}(nE:i<ops.size)(hS:¬S i)(hnn:¬YY E i)(hnw:¬zG E i) :
  ∃q,q≤ops.size∧(∀k,k<q→zG E k→S k∨k=i)∧(q<ops.size→zG E q∧¬(S q∨q=i))∧∀id,(mz rid (fun k=>S k∨k=i) id→h id=H q id)∧(¬mz rid (fun k=>S k∨k=i) id→h id=none):=by
 obtain⟨q,hq,hw,iL,fE⟩:=dj.heap
 have PZ:=D.size
 refine⟨q,hq,fun k h1 h2=>.inl (hw k h1 h2),fun h1=>⟨(iL h1).1,fun h2=>h2.elim (iL h1).2 fun e=>hnw (e▸(iL h1).1)⟩,fun id=>⟨fun h1=>?_,fun h1=>(fE id).2 fun h2=>h1 ((A8 (by omega)).2 (.inl h2))⟩⟩
 rcases (A8 (S:=S) (i:=i) (rid:=rid) (by omega)).1 h1 with h2|h2
 ·exact(fE id).1 h2
 ·have hn:¬mz rid S id:=fun h3=>h3.AZ (by omega) hS h2
  rw[(fE id).2 hn]
  symm
  apply Classical.not_not.1
  intro br
  obtain⟨j,h3,_,_,h4⟩:=D.names q hq id br (h2.parts (by omega)).1
  have:=u6 h3 h2
  subst this
  rcases h4 with h4|⟨w',h5,h6,h7|h7⟩
  ·exact hnn h4
  ·exact hnw (h7▸h6)
  ·exact hS (dj.closed w' _ (hw w' h5 h6) h7)
theorem Un{os:Heap}{i:Nat}(eW:(os.all fun p=>p.1 / 256==(rid+1)*128+i)=true):∀id o,os.get id=some o→Of rid i id:=by
 induction os with
 |nil=>intro id o h;simp[Heap.get]at h
 |cons a r ih =>
  intro id o hg
  simp only[List.all_cons,Bool.and_eq_true,beq_iff_eq]at eW
  simp only[Heap.get]at hg
  split at hg
  ·rename_i e;rw[←e];exact eW.1
  ·exact ih eW.2 id o hg
theorem Dr.P8(D:Dr P Eqs Sg F rid n ops b T H E)(dj:Dj rid ops b T H E S Tc h){i:Nat}{o:Oper}(ho:ops[i]? = some o)(hS:¬S i)(hb:∀j,r8 b i j→S j){v:AV}{os:Heap}(hE:E i=some (.new v os)) :
  ∃q,q≤ops.size∧(∀k,k<q→zG E k→S k∨k=i)∧(q<ops.size→zG E q∧¬(S q∨q=i))∧∀id,(mz rid (fun k=>S k∨k=i) id→(bI.new v os).hp h id=H q id)∧(¬mz rid (fun k=>S k∨k=i) id→(bI.new v os).hp h id=none):=by
 obtain⟨q,hq,hw,iL,fE⟩:=dj.heap
 have PZ:=D.size
 have nE:=(Array.getElem?_eq_some_iff.1 ho).1
 have hnw:¬zG E i:=fun⟨v',h',h1⟩=>by rw[hE]at h1;cases h1
 have Y0:=D.wN nE ⟨v,os,hE⟩
 obtain⟨s,hh,_,_,_,h4,_,_,h7⟩:=D.Uk ho hE
 simp only[gP,Bool.and_eq_true]at h4
 have tJ:=Un (rid:=rid) h4.1.2
 have ZY:i<q:=by
  rcases Nat.lt_or_ge i q with h1|h1
  ·exact h1
  ·obtain⟨h2,h3⟩:=iL (by omega)
   have br:i≠q:=fun e=>hnw (e▸h2)
   rcases D.A6 (by omega) h2 Y0 br with⟨h4,_⟩|⟨_,h4⟩
   ·omega
   ·exact absurd (hb q h4) h3
 refine⟨q,hq,fun k h1 h2=>.inl (hw k h1 h2),fun h1=>⟨(iL h1).1,fun h2=>h2.elim (iL h1).2 fun e=>hnw (e▸(iL h1).1)⟩,fun id=>⟨fun h1=>?_,fun h1=>?_⟩⟩
 ·simp only[bI.hp]
  by_cases h2:Of rid i id
  ·have hn:¬mz rid S id:=fun h3=>h3.AZ (by omega) hS h2
   have e1:H i id=none:=Classical.not_not.1 fun br=>by
    obtain⟨j,h3,h4,_⟩:=D.names i (by omega) id br (h2.parts (by omega)).1
    have:=u6 h3 h2
    omega
   have e2:H (i+1) id=Heap.get os id:=by
    rw[h7];simp only[bI.hp];rw[e1];cases Heap.get os id<;>rfl
   have e3:H q id=H (i+1) id:=D.zJ q ZY hq (fun k h3 h4=>D.calm dj Y0 hS hq hw k (by omega) h4) id fun k h3 _ _ h5=>by
    have:=u6 h5 h2;omega
   rw[e3,e2,(fE id).2 hn];cases Heap.get os id<;>rfl
  ·have h3:mz rid S id:=((A8 (by omega)).1 h1).resolve_right h2
   cases ON:Heap.get os id with
   |some o'=>exact absurd (tJ id o' ON) h2
   |none=>exact(fE id).1 h3
 ·have h2:¬mz rid S id:=fun h2=>h1 ((A8 (by omega)).2 (.inl h2))
  have h3:¬Of rid i id:=fun h2=>h1 ((A8 (by omega)).2 (.inr h2))
  simp only[bI.hp]
  cases ON:Heap.get os id with
  |some o'=>exact absurd (tJ id o' ON) h3
  |none=>exact(fE id).2 h2
theorem Dr.Uo(D:Dr P Eqs Sg F rid n ops b T H E)(dj:Dj rid ops b T H E S Tc h){i:Nat}{o:Oper}(ho:ops[i]? = some o)(hS:¬S i)(hb:∀j,r8 b i j→S j){v:AV}{h':Heap}(hE:E i=some (.wr v h')) :
  (∀hh:Heap,(∀id,hh.get id=if qI rid (b.getD i 0) id then H i id else none)→hh.get=h) ∧
  ∃q,q≤ops.size∧(∀k,k<q→zG E k→S k∨k=i)∧(q<ops.size→zG E q∧¬(S q∨q=i))∧∀id,(mz rid (fun k=>S k∨k=i) id→h'.get id=H q id)∧(¬mz rid (fun k=>S k∨k=i) id→h'.get id=none):=by
 obtain⟨q,hq,hw,iL,fE⟩:=dj.heap
 have PZ:=D.size
 have nE:=(Array.getElem?_eq_some_iff.1 ho).1
 have Ul:zG E i:=⟨v,h',hE⟩
 have Y0:=D.PY nE Ul
 obtain⟨s,hh0,_,_,_,h4,_,_,h7⟩:=D.Uk ho hE
 simp only[gP,Bool.and_eq_true]at h4
 have hqi:q=i:=by
  rcases Nat.lt_trichotomy q i with h1|h1|h1
  ·obtain⟨h2,h3⟩:=iL (by omega)
   rcases D.A6 nE Ul (D.PY (by omega) h2) (by omega) with⟨_,h5⟩|⟨h5,_⟩
   ·exact absurd (hb q h5) h3
   ·omega
  ·exact h1
  ·exact absurd (hw i h1 Ul) hS
 subst hqi
 have own:∀id,H q id≠none→mz rid (r8 b q) id:=fun id br P0=>by
  obtain⟨j,h1,h2,h2',h3⟩:=D.names q hq id br P0
  rw[(h1.parts h2').2]
  rcases h3 with h3|⟨w',h5,h6,h8⟩
  ·rcases D.A6 nE Ul (D.wN (by omega) h3) (by omega) with⟨_,h9⟩|⟨h9,_⟩
   ·exact h9
   ·omega
  ·have ZW:r8 b q w':=by
    rcases D.A6 nE Ul (D.PY (by omega) h6) (by omega) with⟨_,h9⟩|⟨h9,_⟩
    ·exact h9
    ·omega
   rcases h8 with rfl|h8
   ·exact ZW
   ·exact DU D.OQ q w' j nE ZW h8
 refine⟨fun hh Um=>?_,?_⟩
 ·funext id
  rw[Um id]
  cases bO:H q id with
  |none =>
   have:h id=none:=by
    by_cases h1:mz rid S id
    ·rw[(fE id).1 h1,bO]
    ·exact(fE id).2 h1
   rw[this];split<;>rfl
  |some ob =>
   have h1:=own id (by rw[bO];simp)
   have h2:mz rid S id:=fun hr=>hb _ (h1 hr)
   have h3:qI rid (b.getD q 0) id=true:=by
    unfold qI
    by_cases hr:id / 32768=rid+1
    ·have:=h1 hr
     unfold r8 at this
     rw[this];simp
    ·simp[hr]
   rw[h3,(fE id).1 h2,bO];rfl
 ·obtain⟨q',h1,h2,h3⟩:=P7 E (fun k=>S k∨k=q) ops.size
  have VQ:q+1≤q':=by
   rcases Nat.lt_or_ge q q' with h5|h5
   ·exact h5
   ·obtain⟨h6,h8⟩:=h3 (by omega)
    rcases Nat.lt_or_ge q' q with h9|h9
    ·exact absurd (.inl (hw q' h9 h6)) h8
    ·exact absurd (.inr (by omega)) h8
  have e1:H (q+1)=h'.get:=by rw[h7];rfl
  have zr:∀j,(b.getD q 0 ||| 2 ^ q).testBit j=true→S j∨j=q:=fun j hj=>by
   rw[Nat.testBit_or,Bool.or_eq_true,Nat.testBit_two_pow]at hj
   exact hj.imp (hb j) (fun h=>(of_decide_eq_true h).symm)
  refine⟨q',h1,h2,h3,fun id=>⟨fun h5=>?_,fun h5=>?_⟩⟩
  ·rw[D.zJ q' VQ h1 (fun k h6 h8 h9=>?_) id (fun k h6 h8 h9 nq=>?_),e1]
   ·have hk:=h2 k h8 h9
    have P1:S k:=hk.resolve_right (by omega)
    rcases D.A6 (by omega) h9 Y0 (by omega) with⟨_,yV⟩|⟨yV,_⟩
    ·exact hS (dj.closed k q P1 yV)
    ·omega
   ·have hk:=h5 (nq.parts (by omega)).1
    rw[(nq.parts (by omega)).2]at hk
    have P1:S k:=hk.resolve_right (by omega)
    rcases D.A6 nE Ul (D.wN (by omega) h9) (by omega) with⟨yV,_⟩|⟨_,yV⟩
    ·omega
    ·exact hS (dj.closed k q P1 yV)
  ·cases bO:h'.get id with
   |none=>rfl
   |some ob=>exact absurd ((lW zr h4.2 id ob bO).1) h5
end
section
variable {S:Nat→Prop} {Tc:Nat→AV}
theorem C8{o:Oper}{d:Nat}(h:Operand.tmp d∈o.op.operands):d∈o.looksAt ops :=
 List.mem_append_left _ (List.mem_filterMap.2 ⟨.tmp d,by simpa using h,rfl⟩)
theorem G9{o:Oper}{j d:Nat}{want:Bool}(hg:o.guard=some (j,want))(hd:(ops[j]?).bind (·.dst)=some d):d∈o.looksAt ops:=by
 unfold Oper.looksAt
 rw[hg]
 exact List.mem_append_right _ (by simp only[hd];simp)
theorem Dr.wanted(D:Dr P Eqs Sg F rid n ops b T H E)(dj:Dj rid ops b T H E S Tc h){a:Act}{i:Nat}{o:Oper}(ho:ops[i]? = some o)(hS:¬S i)(hb:∀j,r8 b i j→S j)(t:cP Z ψ h w n Tc a){c:Bool}(hw:qi ops (T i) o c) :
  Region.wanted o (yielded ops a.tmps)=c:=by
 unfold qi at hw
 split at hw
 ·rename_i hg;rw[hw];simp[Region.wanted,hg]
 ·rename_i j want hg
  obtain⟨d,hd,hc⟩:=hw
  have e:=D.looks dj ho hS hb (G9 hg hd)
  rcases hc with⟨u,h1,h2⟩|⟨vs,h1,h2⟩
  ·rw[A1 t hg hd (e.trans h1),h2]
  ·rw[yp t hg hd (e.trans h1),h2]
theorem Dr.J9(D:Dr P Eqs Sg F rid n ops b T H E)(V:Env P Eqs Sg F){i:Nat}{o:Oper}{a:Act}(ho:ops[i]? = some o)(hS:¬S i)(hb:∀j,r8 b i j→S j)(dj:Dj rid ops b T H E S Tc h)(j:J (mz rid S) n Z0 w0 O ψ0 Z ψ Tc h a w)
  {K:Act→World→Prop} {Q:Exit→Act→World→Prop} (hk:∀Tc' h' a' w' Z' ψ',Dj rid ops b T H E (fun k=>S k∨k=i) Tc' h'→J (mz rid fun k=>S k∨k=i) n Z0 w0 O ψ0 Z' ψ' Tc' h' a' w'→K a' w'):wpOp P ops Q i K a w:=by
 have nE:=(Array.getElem?_eq_some_iff.1 ho).1
 have PZ:=D.size
 have TG:=D.aeY i o ho
 have aF:∀k,(S k∨k=i)→k<ops.size:=fun k hk=>hk.elim (dj.lt k) (fun e=>e▸nE)
 have JE:∀k j,(S k∨k=i)→r8 b k j→S j∨j=i:=fun k j hk hj=>.inl (hk.elim (fun h=>dj.closed k j h hj) (fun e=>hb j (e▸hj)))
 unfold wpOp
 rw[ho]
 simp only[]
 cases hE:E i with
 |none =>
  obtain⟨h1,h2,h3⟩:=D.E8 ho hE
  rw[D.wanted dj ho hS hb j.tr h1]
  simp only[Bool.false_eq_true,if_false]
  obtain⟨t1,t2⟩:=D.P5 dj ho hS h2
  refine hk _ h _ w Z ψ ⟨aF,JE,D.G8 dj nE hS (fun⟨v,os,h⟩=>by rw[hE]at h;cases h) (fun⟨v,os,h⟩=>by rw[hE]at h;cases h),t1,t2⟩ (j.skip TG fun id hp hr=>.inl (hp hr))
 |some e =>
  obtain⟨s,hh,h1,h2,h3,h4,h5,h6,h7⟩:=D.Uk ho hE
  rw[D.wanted dj ho hS hb j.tr h5]
  simp only[if_true]
  refine .inl ?_
  obtain⟨t1,t2⟩:=D.P5 dj ho hS h6
  have hT:∀x∈o.op.operands,az Z ψ h w (ρ s x) (a.eval x)∧aJ (mz rid S) (ρ s x):=fun x hx=>by
   cases x with
   |tmp d =>
    have e1:look s d=Tc d:=by rw[h1];exact(D.looks dj ho hS hb (C8 hx)).symm
    simp only[ρ,e1]
    exact⟨j.tr.rep d,j.tm d⟩
   |const v=>exact⟨GB v,AY _ v⟩
   |global g=>exact⟨by simp only[ρ,az],by simp only[ρ,aJ]⟩
   |func f=>exact⟨by simp only[ρ,az,an,Act.eval];exact⟨#[],rfl,rfl⟩,by simp only[ρ,aJ,aC]⟩
  have oi:=A3 (hh:=[]) j.hm (fun k hk=>hb k hk) h4
  obtain⟨e0,h3,zF,tG⟩:=h3
  cases e0 with
  |wr v0 Tx =>
   simp only[gQ]at zF
   subst zF
   have nL:=D.Uo dj ho hS hb hE
   have Um:=nL.1 hh h2
   subst Um
   refine J.opF V (rid:=rid) (i:=i) (fun _ id hp=>hp.AZ (by omega) hS) j TG (fun x hx=>(hT x hx).1) (fun x hx=>(hT x hx).2) h3 tG (p':=mz rid fun k=>S k∨k=i) (fun id hp hr=>.inl (hp hr)) oi.1 oi.2 fun a' w' Z' ψ' j' => ?_
   exact hk _ _ a' w' Z' ψ' ⟨aF,JE,nL.2,t1,t2⟩ j'
  |val v0 =>
   simp only[gQ]at zF
   subst zF
   have ae4:∃Xv:Heap,(∀id o,Xv.get id=some o→h id=some o)∧cV P Eqs Sg F (opId rid i) Xv s o some=some (.val v0):=by
    cases hf:nj o.op with
    |true=>exact⟨[],fun id o h=>by simp[Heap.get]at h,by rw[Nj hf (h':=gW hh (gX ops b i s o))];exact h3⟩
    |false =>
     cases TA:jl o.op with
     |some x =>
      have ZX:gX ops b i s o=[]:=by unfold gX;rw[(DV TA).2];rfl
      rw[ZX]at h3
      have h3':cV P Eqs Sg F (opId rid i) hh s o some=some (.val v0):=h3
      have ns:∀id,(fj (uE (ρ s x)) hh []).get id=if id∈uE (ρ s x) then hh.get id else none:=fun id=>by
       rw[kl]
       split
       ·cases hh.get id<;>rfl
       ·rfl
      refine⟨fj (uE (ρ s x)) hh [],fun id ob bO=>?_,?_⟩
      ·rw[ns]at bO
       split at bO
       ·rename_i hm;exact D.No dj ho TA hS hb h1 h2 id hm ob bO
       ·cases bO
      ·rw[J7 TA (hh:=hh) (fun id hm=>by rw[ns,if_pos hm])];exact h3'
     |none=>exact⟨_,fun id ob bO=>D.seen dj ⟨o,ho,hf,TA⟩ hS hb h2 id ob (by rw[oc]at bO;split at bO;cases bO;exact bO),h3⟩
   obtain⟨Xv,Fa,Lt⟩:=ae4
   refine J.op V (rid:=rid) (i:=i) (fun _ id hp=>hp.AZ (by omega) hS) j TG (fun x hx=>(hT x hx).1) (fun x hx=>(hT x hx).2) Fa Lt (fun v hw he=>by cases he) (p':=mz rid fun k=>S k∨k=i) (fun id hp hr=>.inl (hp hr)) oi.1 oi.2 fun a' w' Z' ψ' j' => ?_
   exact hk _ _ a' w' Z' ψ' ⟨aF,JE,D.G8 dj nE hS (fun⟨v,os,h⟩=>by rw[hE]at h;cases h) (fun⟨v,os,h⟩=>by rw[hE]at h;cases h),t1,t2⟩ j'
  |new v0 os =>
   simp only[gQ]at zF
   subst zF
   have Y0:=D.wN nE ⟨v0,os,hE⟩
   have Fa:∀id ob,(gW hh (gX ops b i s o)).get id=some ob→h id=some ob:=fun id ob bO=>D.seen dj Y0 hS hb h2 id ob (by rw[oc]at bO;split at bO;cases bO;exact bO)
   refine J.op V (rid:=rid) (i:=i) (fun _ id hp=>hp.AZ (by omega) hS) j TG (fun x hx=>(hT x hx).1) (fun x hx=>(hT x hx).2) Fa h3 (fun v hw he=>by cases he) (p':=mz rid fun k=>S k∨k=i) (fun id hp hr=>.inl (hp hr)) oi.1 oi.2 fun a' w' Z' ψ' j' => ?_
   exact hk _ _ a' w' Z' ψ' ⟨aF,JE,D.P8 dj ho hS hb hE,t1,t2⟩ j'
theorem Dr.done(D:Dr P Eqs Sg F rid n ops b T H E)(dj:Dj rid ops b T H E S Tc h)(eW:∀k,k<ops.size→S k):Tc=T ops.size∧h=H ops.size:=by
 constructor
 ·funext d
  by_cases hex:∃(j:Nat) (oj:Oper),ops[j]? = some oj∧oj.dst=some d
  ·obtain⟨j,oj,hj,hd⟩:=hex
   have Jj:=(Array.getElem?_eq_some_iff.1 hj).1
   rw[dj.P2 j oj d (eW j Jj) hj hd,D.E9 hj hd ops.size (Nat.le_refl _) Jj]
  ·rw[dj.told d fun j o' _ nt P4=>hex ⟨j,o',nt,P4⟩,D.u5 ops.size (Nat.le_refl _) fun k o' _ nt P4=>hex ⟨k,o',nt,P4⟩]
 ·obtain⟨q,hq,_,iL,fE⟩:=dj.heap
  have:q=ops.size:=by
   rcases Nat.lt_or_ge q ops.size with h1|h1
   ·exact absurd (eW q h1) (iL h1).2
   ·omega
  subst this
  funext id
  by_cases my:mz rid S id
  ·exact(fE id).1 my
  ·rw[(fE id).2 my]
   symm
   apply Classical.not_not.1
   intro br
   apply my
   intro hr
   obtain⟨j,h1,h2,h3,_⟩:=D.names ops.size (Nat.le_refl _) id br hr
   rw[(h1.parts h3).2]
   exact eW j h2
def lX(m:Nat)(cq:Array Bool):Nat:=((List.range m).filter fun i => !cq.getD i false).length
theorem Fb{m:Nat}{cq:Array Bool}{i:Nat}(hi:i<m)(hs:i<cq.size)(hn:cq.getD i false=false):lX m cq=lX m (cq.setIfInBounds i true)+1:=by
 unfold lX
 have key:∀(l:List Nat),l.Nodup→i∈l→(l.filter fun k => !cq.getD k false).length=(l.filter fun k => !(cq.setIfInBounds i true).getD k false).length+1:=by
  intro l
  induction l with
  |nil=>intro _ h;cases h
  |cons a r ih =>
   intro DM hm
   rw[List.nodup_cons]at DM
   rcases List.mem_cons.1 hm with rfl|hm
   ·have h2:(r.filter fun k => !cq.getD k false)=(r.filter fun k => !(cq.setIfInBounds i true).getD k false):=by
     apply List.filter_congr
     intro k hk
     have br:i≠k:=fun e=>DM.1 (e▸hk)
     rw[getD_set_ne false br]
    rw[List.filter_cons,List.filter_cons,hn]
    have h3:(cq.setIfInBounds i true).getD i false=true:=by simp[hs]
    rw[h3,h2];simp
   ·have br:i≠a:=fun e=>DM.1 (e▸hm)
    rw[List.filter_cons,List.filter_cons,getD_set_ne false br]
    split
    ·simp only[List.length_cons];rw[ih DM.2 hm]
    ·exact ih DM.2 hm
 exact key _ List.nodup_range (List.mem_range.2 hi)
theorem Dr.any(D:Dr P Eqs Sg F rid n ops b T H E)(V:Env P Eqs Sg F){Q:Exit→Act→World→Prop}(hQ:∀Z ψ a w,J (mz rid fun k=>k<ops.size) n Z0 w0 O ψ0 Z ψ (T ops.size) (H ops.size) a w→Q .normal a w) :
  ∀(fuel:Nat) (cq:Array Bool) (Tc:Nat→AV) (h:Hp) (a:Act) (w:World) (Z:Nat→Prop) (ψ:Nat→Value),cq.size=ops.size→lX ops.size cq=fuel →
   Dj rid ops b T H E (fun k=>cq.getD k false=true) Tc h→J (mz rid fun k=>cq.getD k false=true) n Z0 w0 O ψ0 Z ψ Tc h a w→wpAny P .any ops Q fuel cq a w
 |0,cq,Tc,h,a,w,Z,ψ,hs,hu,dj,j=>by
  have eW:∀k,k<ops.size→cq.getD k false=true:=fun k hk=>by
   unfold lX at hu
   have:=List.filter_eq_nil_iff.1 (List.eq_nil_of_length_eq_zero hu) k (List.mem_range.2 hk)
   simpa using this
  refine⟨?_,?_⟩
  ·apply List.eq_nil_iff_forall_not_mem.2
   intro i hi
   obtain⟨h1,o,h2,_⟩:=mem_ready.1 hi
   have h3:=(Array.getElem?_eq_some_iff.1 h2).1
   have h4:=eW i h3
   rw[Array.getD_eq_getD_getElem?,Array.getElem?_eq_getElem (by omega)]at h1 h4
   simp at h1 h4
   rw[h1]at h4;cases h4
  ·obtain⟨e1,e2⟩:=D.done dj eW
   subst e1;subst e2
   refine hQ Z ψ a w ⟨j.ok,j.tr,fun d=>(j.tm d).imp fun id h1 h2=>dj.lt _ (h1 h2),fun id ty cs hb=>(j.hm id ty cs hb).imp fun id h1 h2=>dj.lt _ (h1 h2)⟩
 |fuel+1,cq,Tc,h,a,w,Z,ψ,hs,hu,dj,j=>by
  have look:∀i,i<ops.size→cq.getD i true=cq.getD i false:=fun i hi=>by
   rw[Array.getD_eq_getD_getElem?,Array.getD_eq_getD_getElem?,Array.getElem?_eq_getElem (by omega)];rfl
  refine⟨fun hr=>?_,fun i hi=>?_⟩
  ·exfalso
   have hex:∃i,i<ops.size∧cq.getD i false=false:=by
    apply Classical.byContradiction
    intro hn
    unfold lX at hu
    rw[List.filter_eq_nil_iff.2]at hu
    ·simp at hu
    ·intro k hk
     have:=fun h=>hn ⟨k,List.mem_range.1 hk,h⟩
     cases hl:cq.getD k false with
     |true=>simp
     |false=>exact absurd hl this
   have key:∀i,i<ops.size→cq.getD i false=false→False:=by
    intro i
    induction i using Nat.strongRecOn with
    |ind i ih =>
     intro hi hl
     have gR:i∈Region.ready .any ops cq:=by
      refine mem_ready.2 ⟨by rw[look i hi];exact hl,_,Array.getElem?_eq_getElem hi,fun e he M7=>?_⟩
      have Xy:=J6 D.OQ (Array.getElem?_eq_getElem hi) (by simpa using he) M7
      cases hle:cq.getD e.on false with
      |true=>rfl
      |false=>exact(ih e.on Xy (by omega) hle).elim
     rw[hr]at gR;cases gR
   obtain⟨i,h1,h2⟩:=hex
   exact key i h1 h2
  ·obtain⟨h1,o,ho,eW⟩:=mem_ready.1 hi
   have nE:=(Array.getElem?_eq_some_iff.1 ho).1
   have hn:cq.getD i false=false:=by rw[←look i nE];exact h1
   have hS:¬(cq.getD i false=true):=by rw[hn];simp
   have hb:∀k,r8 b i k→cq.getD k false=true:=fun k hk=>by
    obtain⟨e,he,M7,h2⟩:=(zB D.OQ ho).1 hk
    have h3:=eW e (by simpa using he) M7
    rcases h2 with rfl|h2
    ·exact h3
    ·exact dj.closed e.on k h3 h2
   refine D.J9 V ho hS hb dj j fun Tc' h' a' w' Z' ψ' dj' j' => ?_
   have heq:(fun k=>cq.getD k false=true∨k=i)=(fun k=>(cq.setIfInBounds i true).getD k false=true):=by
    funext k
    apply propext
    by_cases e:i=k
    ·subst e
     simp[show i<cq.size by omega]
    ·rw[getD_set_ne false e]
     constructor
     ·rintro(h|h)
      ·exact h
      ·exact absurd h.symm e
     ·exact .inl
   rw[heq]at dj' j'
   exact D.any V hQ fuel _ Tc' h' a' w' Z' ψ' (by simpa using hs) (by have:=Fb nE (by omega) hn;omega) dj' j'
end
end Go.Vs
namespace Go.Vs
variable {P:Program} {Eqs:TypeId→Option K} {Sg:FuncId→Option aN} {F:(f:FuncId)→(g:aN)→g.A→Option g.B} {R:Type}
variable {Z Z' Z0:Nat→Prop} {ψ ψ' ψ0:Nat→Value} {h h':Hp} {w w' w0:World} {B0:Nat} {O N:Nat→Prop}
theorem A9(f:AV→AV)(hf:f .no=.no):∀(l:List (Nat×AV)) (d:Nat),look (l.map fun p=>(p.1,f p.2)) d=f (look l d)
 |[],d=>by simp[look,hf]
 |(i,v)::r,d=>by
  simp only[List.map_cons,look]
  split
  ·rfl
  ·exact A9 f hf r d
section
variable {rid:Nat}
mutual
theorem wP:∀{a:AV} {v:Value},az Z ψ h w a v→az Z ψ h w (bE rid a) v
 |.ref id s i off,v,hr=>by
  simp only[bE]
  split
  ·simp only[az]
  ·exact hr
 |.bH id,v,hr=>by
  simp only[bE]
  split
  ·simp only[az]
  ·exact hr
 |.fn f cap,v,hr=>by
  simp only[bE,az]at hr ⊢
  obtain⟨vs,e,hl⟩:=hr
  exact⟨vs,e,lY hl⟩
 |.agg cs,v,hr=>by
  simp only[bE,az]at hr ⊢
  obtain⟨vs,e,hl⟩:=hr
  exact⟨vs,e,lY hl⟩
 |.nh cs,v,hr=>by
  simp only[bE,az]at hr ⊢
  obtain⟨vs,e,hl⟩:=hr
  exact⟨vs,e,lY hl⟩
 |.no,v,hr=>by simpa only[bE] using hr
 |.bool _,v,hr=>by simpa only[bE] using hr
 |.int _ _,v,hr=>by simpa only[bE] using hr
 |.str _,v,hr=>by simpa only[bE] using hr
 |.kX,v,hr=>by simpa only[bE] using hr
 |.fV,v,hr=>by simpa only[bE] using hr
 |.fp _ _ _,v,hr=>by simpa only[bE] using hr
 |.sl _ _ _,v,hr=>by simpa only[bE] using hr
 |.mp _ _ _,v,hr=>by simpa only[bE] using hr
theorem lY:∀{a:List AV} {v:List Value},an Z ψ h w a v→an Z ψ h w (lJ rid a) v
 |[],v,hr=>by simpa only[lJ] using hr
 |x::r,v,hr=>by
  simp only[lJ,an]at hr ⊢
  obtain⟨u,us,e,h1,h2⟩:=hr
  exact⟨u,us,e,wP h1,lY h2⟩
end
mutual
theorem pI:∀(a:AV),aJ (mz rid fun _=>False) (bE rid a)
 |.ref id s i off=>by
  simp only[bE]
  split
  ·simp only[aJ]
  ·rename_i hn;simp only[aJ];exact fun h=>absurd h hn
 |.bH id=>by
  simp only[bE]
  split
  ·simp only[aJ]
  ·rename_i hn;simp only[aJ];exact fun h=>absurd h hn
 |.fn f cap=>by simp only[bE,aJ];exact iM cap
 |.agg cs=>by simp only[bE,aJ];exact iM cs
 |.nh cs=>by simp only[bE,aJ];exact iM cs
 |.no=>by simp only[bE,aJ]
 |.bool _=>by simp only[bE,aJ]
 |.int _ _=>by simp only[bE,aJ]
 |.str _=>by simp only[bE,aJ]
 |.kX=>by simp only[bE,aJ]
 |.fV=>by simp only[bE,aJ]
 |.fp _ _ _=>by simp only[bE,aJ]
 |.sl _ _ _=>by simp only[bE,aJ]
 |.mp _ _ _=>by simp only[bE,aJ]
theorem iM:∀(a:List AV),aC (mz rid fun _=>False) (lJ rid a)
 |[]=>by simp only[lJ,aC]
 |x::r=>by simp only[lJ,aC];exact⟨pI x,iM r⟩
end
theorem get_map(f:Ob→Ob):∀(hh:Heap) (i:Nat),Heap.get (hh.map fun p=>(p.1,f p.2)) i=(hh.get i).map f
 |[],i=>rfl
 |(j,o)::r,i=>by
  simp only[List.map_cons,Heap.get]
  split
  ·rfl
  ·exact get_map f r i
def mT(rid:Nat)(hh:Heap):Heap:=(hh.filter fun p=>p.1 / 32768 != rid+1).map fun p=>(p.1,Am rid p.2)
theorem Np(hh:Heap)(i:Nat):(mT rid hh).get i=if i / 32768=rid+1 then none else(hh.get i).map (Am rid):=by
 unfold mT
 rw[get_map (Am rid),get_filter (fun i=>i / 32768 != rid+1)]
 by_cases e:i / 32768=rid+1<;>simp[e]
theorem iB{hh:Heap}{i:Nat}{o:Ob}(hg:(mT rid hh).get i=some o):i / 32768≠rid+1∧∃o',hh.get i=some o'∧o=Am rid o':=by
 rw[Np]at hg
 split at hg
 ·cases hg
 ·rename_i hn
  cases h0:hh.get i with
  |none=>rw[h0]at hg;cases hg
  |some o'=>rw[h0]at hg;cases hg;exact⟨hn,o',rfl,rfl⟩
theorem kr{hh:Heap}{i:Nat}(hg:(mT rid hh).get i≠none):hh.get i≠none:=by
 obtain⟨o,ho⟩:=Option.ne_none_iff_exists'.1 hg
 obtain⟨_,o',h1,_⟩:=iB ho
 rw[h1];simp
theorem Good.kT{hh:Heap}(g:Good Z ψ hh.get w B0 O):Good Z ψ (mT rid hh).get w B0 O:=by
 refine⟨fun id ty cs hb=>?_,fun id ok xs hb=>?_,fun id b h1 h2=>g.live id b (kr h1) h2,fun id mC b h1 h2 h3 h4=>g.apart id mC b (kr h1) (kr h2) h3 h4,g.jM⟩
 ·obtain⟨_,o',h1,h2⟩:=iB hb
  cases o' with
  |own ok xs=>cases h2
  |box yS cs' =>
   cases h2
   obtain⟨gg,vs,h3,h4,h5,h6⟩:=g.box id ty cs' h1
   exact⟨gg,vs,h3,h4,lY (h5.less (fun _ h=>h) (ct.refl _ _) fun i hi=>⟨kr hi,rfl⟩),h6⟩
 ·obtain⟨_,o',h1,h2⟩:=iB hb
  cases o' with
  |own YT Zr=>cases h2;exact g.row id _ _ h1
  |box yS cs'=>cases h2
theorem Ok.sub{hp:Hp}(k:Ok Z0 w0 O ψ0 Z ψ h w)(g:Good Z ψ hp w w0.heap.size O)(hn:∀id,hp id≠none→h id≠none):Ok Z0 w0 O ψ0 Z ψ hp w :=
 ⟨g,k.fQ,k.eL,k.os,k.tape,k.output,k.size,k.block,fun i hi br=>k.fix i hi (hn i br)⟩
end
theorem Good.Ba(g:Good Z ψ h w B0 O)(e:w'.heap=w.heap):Good Z ψ h w' B0 O:=by
 have sm:ct Z w w':=fun b _=>by rw[e]
 refine⟨fun id ty cs hb=>?_,fun id ok xs hb=>?_,g.live,g.apart,fun b hb=>by rw[e];exact g.jM b hb⟩
 ·obtain⟨gg,vs,h1,h2,h3,h4⟩:=g.box id ty cs hb
  exact⟨gg,vs,h1,by rw[e];exact h2,h3.less (fun _ h=>h) sm (fun i hi=>⟨hi,rfl⟩),h4⟩
 ·exact(g.row id ok xs hb).kept (fun _ h=>h) sm (fun gg _=>by rw[e])
theorem Ok.Ba(k:Ok Z0 w0 O ψ0 Z ψ h w)(e:w'.heap=w.heap)(e1:w'.os=w.os)(e2:w'.tape=w.tape)(e3:w'.output=w.output):Ok Z0 w0 O ψ0 Z ψ h w' :=
 ⟨k.dV.Ba e,k.fQ,k.eL,e1.trans k.os,e2.trans k.tape,e3.trans k.output,by rw[e];exact k.size,fun b hb ho=>by rw[e];exact k.block b hb ho,k.fix⟩
theorem cP.Ba{n:Nat}{T:Nat→AV}{a:Act}(t:cP Z ψ h w n T a)(e:w'.heap=w.heap):cP Z ψ h w' n T a :=
 ⟨fun d=>(t.rep d).less (fun _ h=>h) (fun b _=>by rw[e]) (fun i hi=>⟨hi,rfl⟩),t.size,t.defers⟩
theorem Fc(V:Env P Eqs Sg F)(hm:P.follows .mixedOrders=true){n rid:Nat}{ops:Array Oper}{draw:Bool}{st:St}{kk:St→Option R}{r:R}{a:Act}{Q:Exit→Act→World→Prop}
  (hx:iq P Eqs Sg F n rid ops draw st kk=some r) (k:Ok Z0 w0 O ψ0 Z ψ st.heap.get w) (t:cP Z ψ st.heap.get w n (look st.tmps) a)
  (hQ:∀eJ Z ψ a w,kk eJ=some r→Ok Z0 w0 O ψ0 Z ψ eJ.heap.get w→cP Z ψ eJ.heap.get w n (look eJ.tmps) a→Q .normal a w):(Code.region rid ops draw).wp P Q a w:=by
 obtain⟨b,Y1,hx⟩:∃b,b=(if draw then Region.before ops else #[])∧(if(ops.all fun o=>im n o)&&(!draw || (uC ops b&&(Ak ops b&&cc (ops.toList.filterMap (·.dst)))))&&decide (ops.size≤128) then
  bD P Eqs Sg F rid draw ops b (ops.toList.zipIdx.map fun p=>(p.2,p.1)) (kT draw rid ops st) kk else none)=some r:=⟨_,rfl,hx⟩
 split at hx
 ·rename_i hc
  simp only[Bool.and_eq_true,decide_eq_true_eq]at hc
  obtain⟨⟨kP,hdr⟩,jm⟩:=hc
  have DX:∀(i:Nat) (o:Oper),ops[i]? = some o→im n o=true:=fun i o ho=>Array.all_eq_true_iff_forall_mem.1 kP o (Array.mem_of_getElem? ho)
  have pk:Ok Z0 w0 O ψ0 Z ψ (mT rid st.heap).get w:=k.sub k.dV.kT fun id=>kr
  have pt:cP Z ψ (mT rid st.heap).get w n (fun d=>bE rid (look st.tmps d)) a :=
   ⟨fun d=>wP ((t.rep d).less (fun _ h=>h) (ct.refl _ _) fun i hi=>⟨kr hi,rfl⟩),t.size,t.defers⟩
  have pm:s6 (mz rid fun _=>False) (mT rid st.heap).get:=fun i ty cs hb=>by
   obtain⟨_,o',h1,h2⟩:=iB hb
   cases o' with
   |own ok xs=>cases h2
   |box yS cs'=>cases h2;exact iM cs'
  have DY:look (st.tmps.map fun p=>(p.1,bE rid p.2))=fun d=>bE rid (look st.tmps d):=funext fun d=>A9 (bE rid) (by simp only[bE]) st.tmps d
  cases draw with
  |false =>
   refine wp_region ?_
   rw[←DR ops]
   cases PV:ops.any (makes ·.op) with
   |false =>
    have hp:kT false rid ops st=st:=by unfold kT;rw[PV];rfl
    rw[hp]at hx
    refine lr V (rid:=rid) (n:=n) (b:=_) false (fun _ i o ho=>?_) jm DX hQ _ 0 st Z ψ a w (og ops) hx ⟨k,t,fun d=>?_,fun i ty cs hb=>?_⟩
    ·have:=Array.any_eq_false'.1 PV o (Array.mem_of_getElem? ho)
     simpa using this
    ·exact(aJ.top _).imp fun id _ h=>by cases h
    ·exact(aC.top _).imp fun id _ h=>by cases h
   |true =>
    have hp:kT false rid ops st={ tmps:=st.tmps.map fun p=>(p.1,bE rid p.2),heap:=mT rid st.heap }:=by unfold kT;rw[PV];rfl
    rw[hp]at hx
    refine lr V (rid:=rid) (n:=n) (b:=_) true (fun h=>by cases h) jm DX hQ _ 0 _ Z ψ a w (og ops) hx ⟨pk,by rw[DY];exact pt,fun d=>?_,fun i ty cs hb=>?_⟩
    ·rw[DY]
     exact(pI _).imp fun id h1 _ h2=>(h1 h2).elim
    ·exact(pm i ty cs hb).imp fun id h1 _ h2=>(h1 h2).elim
  |true =>
   have hp:kT true rid ops st={ tmps:=st.tmps.map fun p=>(p.1,bE rid p.2),heap:=mT rid st.heap }:=by unfold kT;rw[Bool.true_or];rfl
   rw[hp]at hx
   simp only[Bool.not_true,Bool.false_or,Bool.and_eq_true]at hdr
   obtain⟨ae6,aab,DM⟩:=hdr
   refine wp_region_any hm ?_
   obtain⟨T,H,E,h1,h2,h3,eJ,h4,h5,h6⟩:=trace (kk:=kk) (r:=r) (ops.toList.zipIdx.map fun p=>(p.2,p.1)) 0 _ (og ops) (by simp) hx
   rw[DY]at h1
   have D:Dr P Eqs Sg F rid n ops b T H E:=⟨jm,ae6,aab,DX,DM,fun k o ho=>h3 k o (Nat.zero_le _) ho,fun id bO=>by
    rw[h2]at bO
    obtain⟨o,ho⟩:=Option.ne_none_iff_exists'.1 bO
    exact(iB ho).1⟩
   have yg:∀k,¬((Array.replicate ops.size false).getD k false=true):=fun k hk=>by
    rw[Array.getD_eq_getD_getElem?,Array.getElem?_replicate]at hk
    split at hk<;>simp at hk
   rw[show max 0 ops.size=ops.size by omega]at h5 h6
   have w2:({ w with drawn:=w.drawn+1 }:World).heap=w.heap:=rfl
   refine D.any V (Z0:=Z0) (w0:=w0) (O:=O) (ψ0:=ψ0) (fun Z ψ a w j=>hQ eJ Z ψ a w h4 (by rw[h6];exact j.ok) (by rw[h5,h6];exact j.tr)) ops.size _ (T 0) (H 0) a _ Z ψ (by simp) ?_ ?_ ?_
   ·unfold lX
    rw[List.filter_eq_self.2,List.length_range]
    intro k _
    have:=yg k
    simpa using this
   ·refine⟨fun i hi=>(yg i hi).elim,fun i j hi=>(yg i hi).elim,?_,fun j o d hj=>(yg j hj).elim,fun d _=>rfl⟩
    obtain⟨q,hq1,hq2,hq3⟩:=P7 E (fun k=>(Array.replicate ops.size false).getD k false=true) ops.size
    refine⟨q,hq1,hq2,hq3,fun id=>⟨fun my=>?_,fun my=>?_⟩⟩
    ·symm
     refine D.zJ q (Nat.zero_le _) hq1 (fun k _ hk hw=>(yg k (hq2 k hk hw)).elim) id fun k _ hk _ ho=>?_
     have:=my (ho.parts (by omega)).1
     exact yg _ this
    ·rw[h2]
     apply Classical.not_not.1
     intro br
     obtain⟨o,ho⟩:=Option.ne_none_iff_exists'.1 br
     exact my fun hr=>absurd hr (iB ho).1
   ·rw[h1,h2]
    refine⟨pk.Ba w2 rfl rfl rfl,pt.Ba w2,fun d=>(pI _).imp fun id h3 h4=>(h3 h4).elim,fun i ty cs hb=>(pm i ty cs hb).imp fun id h3 h4=>(h3 h4).elim⟩
 ·cases hx
end Go.Vs
