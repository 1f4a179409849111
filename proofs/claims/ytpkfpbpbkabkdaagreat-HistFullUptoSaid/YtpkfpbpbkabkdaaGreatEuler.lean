/- Faces, parts, and Euler's formula. -/
import Derived.Test.YtpkfpbpbkabkdaaGreatSplits
set_option linter.unusedVariables false
namespace Go.Cy
variable {α:Type}
def Path(f:α→α):List α→α→Prop
 |[],_=>True
 |x::r,z=>f x=r.head?.getD z∧Path f r z
theorem Path.app{f:α→α}:∀{a b:List α} {z:α},Path f (a++b) z↔Path f a (b.head?.getD z)∧Path f b z
 |[],b,z=>by simp[Path]
 |x::r,b,z=>by
  have ih:=Path.app (f:=f) (a:=r) (b:=b) (z:=z)
  simp only[List.cons_append,Path]
  rw[ih]
  have:(r++b).head?.getD z=r.head?.getD (b.head?.getD z):=by cases r<;>simp
  rw[this,and_assoc]
theorem Path.congr{f g:α→α}:∀{a:List α} {z:α},(∀x∈a,g x=f x)→Path f a z→Path g a z
 |[],_,_,_=>trivial
 |x::r,z,h,p=>⟨(h x (List.mem_cons_self ..)).trans p.1,Path.congr (fun y hy=>h y (List.mem_cons_of_mem _ hy)) p.2⟩
def jW(f:α→α):List α→Prop
 |[]=>False
 |x::r=>Path f (x::r) x
theorem jW.two{f:α→α}{x y:α}{a b:List α}:jW f ((x::a)++(y::b))↔Path f (x::a) y∧Path f (y::b) x:=by
 show Path f ((x::a)++(y::b)) x↔_
 rw[Path.app];rfl
theorem jW.CT{f:α→α}:∀{a b:List α},jW f (a++b)→jW f (b++a)
 |[],b,h=>by simpa using h
 |x::a,[],h=>by simpa using h
 |x::a,y::b,h=>jW.two.2 ⟨(jW.two.1 h).2,(jW.two.1 h).1⟩
theorem jW.ne{f:α→α}{c:List α}(h:jW f c):c≠[]:=by rintro rfl;exact h
theorem jW.congr{f g:α→α}{c:List α}(h:∀x∈c,g x=f x)(k:jW f c):jW g c:=by
 cases c with
 |nil=>exact k
 |cons x r=>exact Path.congr h k
theorem Path.step{f:α→α}:∀{a:List α} {z x:α},Path f a z→x∈a→f x∈a∨f x=z
 |y::r,z,x,p,hx=>by
  rcases List.mem_cons.1 hx with rfl|hx
  ·cases r with
   |nil=>exact .inr p.1
   |cons u r=>exact .inl (by have:=p.1;simp at this;rw[this];simp)
  ·rcases Path.step p.2 hx with h|h
   ·exact .inl (List.mem_cons_of_mem _ h)
   ·exact .inr h
theorem jW.step{f:α→α}{c:List α}(h:jW f c){x:α}(hx:x∈c):f x∈c:=by
 cases c with
 |nil=>exact h.elim
 |cons y r =>
  rcases Path.step (show Path f (y::r) y from h) hx with k|k
  ·exact k
  ·rw[k];simp
def it(f:α→α):Nat→α→α
 |0,x=>x
 |n+1,x=>it f n (f x)
theorem jW.it{f:α→α}{c:List α}(h:jW f c):∀(n:Nat) {x:α},x∈c→it f n x∈c
 |0,_,hx=>hx
 |n+1,_,hx=>jW.it h n (h.step hx)
theorem Path.reach{f:α→α}:∀{r:List α} {x z:α},Path f (x::r) z→∀y∈x::r,∃n,it f n x=y
 |[],x,z,_,y,hy=>by simp at hy;exact⟨0,hy.symm⟩
 |u::r,x,z,p,y,hy=>by
  rcases List.mem_cons.1 hy with rfl|hy
  ·exact⟨0,rfl⟩
  ·have h1:f x=u:=p.1
   obtain⟨n,hn⟩:=Path.reach p.2 y hy
   exact⟨n+1,by show it f n (f x)=y;rw[h1];exact hn⟩
theorem jW.head{f:α→α}{c:List α}(h:jW f c){x:α}(hx:x∈c):∃r,jW f (x::r)∧(x::r).Perm c:=by
 obtain⟨a,b,rfl⟩:=List.append_of_mem hx
 exact⟨b++a,jW.CT h,List.perm_append_comm (l₁:=x::b) (l₂:=a)⟩
theorem jW.reach{f:α→α}{c:List α}(h:jW f c){x y:α}(hx:x∈c)(hy:y∈c):∃n,Cy.it f n x=y:=by
 obtain⟨r,h1,h2⟩:=h.head hx
 exact Path.reach (show Path f (x::r) x from h1) y (h2.mem_iff.2 hy)
theorem jW.same{f:α→α}{c c':List α}(h:jW f c)(h':jW f c'){x:α}(hx:x∈c)(T3:x∈c'){y:α}(hy:y∈c):y∈c':=by
 obtain⟨n,hn⟩:=h.reach hx hy
 rw[←hn];exact h'.it n T3
structure Dl(f:α→α)(D:List α)(cs:List (List α)):Prop where
 c:∀c∈cs,jW f c
 p:cs.flatten.Perm D
theorem fE(p q:List (List α))(c:List α):(p++c::q).flatten.Perm (c++(p++q).flatten):=by
 simp only[List.flatten_append,List.flatten_cons]
 rw[←List.append_assoc,←List.append_assoc]
 exact List.Perm.append_right _ List.perm_append_comm
theorem Dl.count{f:α→α}:∀{cs cs':List (List α)} {D:List α},D.Nodup→Dl f D cs→Dl f D cs'→cs.length=cs'.length
 |[],cs',D,hn,h,h'=>by
  have hD:D=[]:=by have:=h.p;simp at this;exact this.symm▸rfl
  subst hD
  cases cs' with
  |nil=>rfl
  |cons c r =>
   have:=h'.p.length_eq
   have h1:=(h'.c c (by simp)).ne
   cases c with
   |nil=>exact absurd rfl h1
   |cons x c=>simp at this
 |c::r,cs',D,hn,h,h'=>by
  have hc:=h.c c (by simp)
  obtain⟨x,c0,rfl⟩:∃x c0,c=x::c0:=by
   cases c with
   |nil=>exact hc.elim
   |cons x c0=>exact⟨x,c0,rfl⟩
  have hx:x∈cs'.flatten:=h'.p.mem_iff.2 (h.p.mem_iff.1 (by simp))
  obtain⟨c',TJ,Wp⟩:=List.mem_flatten.1 hx
  obtain⟨p,q,rfl⟩:=List.append_of_mem TJ
  have Wq:=h'.c c' (by simp)
  have n1:(x::c0).Nodup:=by
   have:=h.p.nodup_iff.2 hn
   rw[List.flatten_cons]at this
   exact(List.nodup_append.1 this).1
  have n2:c'.Nodup:=by
   have:=(fE p q c').nodup_iff.1 (h'.p.nodup_iff.2 hn)
   exact(List.nodup_append.1 this).1
  have pc:(x::c0).Perm c':=(List.perm_ext_iff_of_nodup n1 n2).2 fun y=>⟨fun hy=>hc.same Wq (by simp) Wp hy,fun hy=>Wq.same hc Wp (by simp) hy⟩
  have pd:((x::c0)++r.flatten).Perm ((x::c0)++(p++q).flatten):=by
   have e1:((x::c0)++r.flatten).Perm D:=by have:=h.p;rwa [List.flatten_cons]at this
   have e2:(c'++(p++q).flatten).Perm D:=(fE p q c').symm.trans h'.p
   exact e1.trans (e2.symm.trans (List.Perm.append_right _ pc.symm))
  have pr:=(List.perm_append_left_iff _).1 pd
  have OQ:r.flatten.Nodup:=by
   have:=h.p.nodup_iff.2 hn
   rw[List.flatten_cons]at this
   exact(List.nodup_append.1 this).2.1
  have ih:=Dl.count (cs:=r) (cs':=p++q) (D:=r.flatten) OQ ⟨fun c hc=>h.c c (by simp[hc]),List.Perm.refl _⟩ ⟨fun c hc=>h'.c c (by
   rcases List.mem_append.1 hc with k|k<;>simp[k]),pr.symm⟩
  simp at ih ⊢;omega
theorem Path.jT{f g:α→α}:∀{a:List α} {z z':α},Path f a z→z∉a.tail→(∀u∈a,f u≠z→g u=f u)→(∀u∈a,f u=z→g u=z')→Path g a z'
 |[],_,_,_,_,_,_=>trivial
 |[x],z,z',p,hz,h1,h2=>⟨h2 x (by simp) p.1,trivial⟩
 |x::y::r,z,z',p,hz,h1,h2=>by
  have e:f x=y:=p.1
  have aU:y≠z:=fun k=>hz (by simp[k])
  refine⟨(h1 x (by simp) (by rw[e];exact aU)).trans e,?_⟩
  exact Path.jT p.2 (fun k=>hz (List.mem_cons_of_mem _ k)) (fun u hu=>h1 u (List.mem_cons_of_mem _ hu)) (fun u hu=>h2 u (List.mem_cons_of_mem _ hu))
def nz:List α→Nat
 |[]=>0
 |_::_=>1
def jU(l:List α):List (List α):=match l with | []=>[]|x::r=>[x::r]
theorem sw(l:List α):(jU l).flatten=l:=by cases l<;>simp[jU]
theorem BT(l:List α):(jU l).length=nz l:=by cases l<;>rfl
theorem ll{l:List α}{z:α}(h:z∈l.tail):z∈l:=List.mem_of_mem_tail h
section
variable [DecidableEq α]
def tT(f':α→α)(x y:α)(z:α):α :=
 if f' z=x then(if f' y=y then f' x else f' y) else if f' z=y then(if f' x=x then f' y else f' x) else f' z
theorem Dl.Nb{f' f:α→α}{x y:α}{D:List α}{cs':List (List α)}{c:List α}(ON:x≠y)(hn:(x::y::D).Nodup)(h:Dl f' (x::y::D) cs')(hf:∀z∈D,f z=tT f' x y z)(hc:c∈cs')(hx:x∈c)(hy:y∈c) :
  ∃cs,Dl f D cs∧cs.length+1=cs'.length+(if f' x=y then 0 else 1)+(if f' y=x then 0 else 1):=by
 obtain⟨p,q,rfl⟩:=List.append_of_mem hc
 have TG:=h.c c hc
 obtain⟨r,h1,h2⟩:=TG.head hx
 have hyr:y∈r:=by
  rcases List.mem_cons.1 (h2.mem_iff.2 hy) with k|k
  ·exact absurd k.symm ON
  ·exact k
 obtain⟨B,A,rfl⟩:=List.append_of_mem hyr
 have h3:jW f' ((x::B)++(y::A)):=h1
 obtain⟨⟨fx,pB⟩,⟨fy,pA⟩⟩:=jW.two.1 h3
 have pd:(x::y::(B++A++(p++q).flatten)).Perm (x::y::D):=by
  refine List.Perm.trans ?_ h.p
  refine List.Perm.trans ?_ (fE p q c).symm
  refine List.Perm.trans ?_ (List.Perm.append_right _ h2)
  show(x::y::(B++A++(p++q).flatten)).Perm (x::((B++y::A)++(p++q).flatten))
  refine List.Perm.cons x ?_
  rw[List.append_assoc B (y::A),List.cons_append,List.append_assoc]
  exact List.perm_middle.symm
 have pD:=(pd.cons_inv).cons_inv
 have nd:=pd.nodup_iff.2 hn
 have nx:x∉B++A++(p++q).flatten:=fun k=>(List.nodup_cons.1 nd).1 (List.mem_cons_of_mem _ k)
 have ny:y∉B++A++(p++q).flatten:=(List.nodup_cons.1 (List.nodup_cons.1 nd).2).1
 have xB:x∉B:=fun k=>nx (by simp[k])
 have xA:x∉A:=fun k=>nx (by simp[k])
 have yB:y∉B:=fun k=>ny (by simp[k])
 have yA:y∉A:=fun k=>ny (by simp[k])
 have Nc:∀z∈B++A++(p++q).flatten,z∈D:=fun z hz=>pD.mem_iff.1 hz
 have cB:∀c∈jU B,jW f c:=fun c hc=>by
  cases B with
  |nil=>simp[jU]at hc
  |cons b B =>
   have hc:c=b::B:=by simpa[jU] using hc
   subst hc
   have fx:f' x=b:=fx
   have bx:b≠x:=fun k=>xB (by simp[k])
   refine Path.jT pB (fun k=>yB (ll k)) (fun u hu aU=>?_) (fun u hu heq=>?_)
   ·rw[hf u (Nc u (by simp at hu ⊢;rcases hu with k|k<;>simp[k]))]
    unfold tT
    have:f' u≠x:=fun k=>by
     rcases pB.step hu with m|m
     ·exact xB (k▸m)
     ·exact aU m
    rw[if_neg this,if_neg aU]
   ·rw[hf u (Nc u (by simp at hu ⊢;rcases hu with k|k<;>simp[k]))]
    unfold tT
    rw[if_neg (by rw[heq];exact fun k=>ON k.symm),if_pos heq,if_neg (by rw[fx];exact bx),fx]
 have cA:∀c∈jU A,jW f c:=fun c hc=>by
  cases A with
  |nil=>simp[jU]at hc
  |cons a A =>
   have hc:c=a::A:=by simpa[jU] using hc
   subst hc
   have fy:f' y=a:=fy
   have ay:a≠y:=fun k=>yA (by simp[k])
   refine Path.jT pA (fun k=>xA (ll k)) (fun u hu aU=>?_) (fun u hu heq=>?_)
   ·rw[hf u (Nc u (by simp at hu ⊢;rcases hu with k|k<;>simp[k]))]
    unfold tT
    have:f' u≠y:=fun k=>by
     rcases pA.step hu with m|m
     ·exact yA (k▸m)
     ·exact aU m
    rw[if_neg aU,if_neg this]
   ·rw[hf u (Nc u (by simp at hu ⊢;rcases hu with k|k<;>simp[k]))]
    unfold tT
    rw[if_pos heq,if_neg (by rw[fy];exact ay),fy]
 have cR:∀c∈p++q,jW f c:=fun c hc=>by
  have TJ:c∈p++((x::B)++(y::A))::q:=by
   rcases List.mem_append.1 hc with k|k<;>simp[k]
  have zF:jW f' c:=h.c c (by rcases List.mem_append.1 hc with k|k<;>simp[k])
  refine zF.congr fun z hz=>?_
  have Wr:∀u∈c,u∈(p++q).flatten:=fun u hu=>List.mem_flatten.2 ⟨c,hc,hu⟩
  have hm:=Wr _ (zF.step hz)
  rw[hf z (Nc z (List.mem_append_right _ (Wr z hz)))]
  unfold tT
  rw[if_neg (fun k=>nx (List.mem_append_right _ (by rw[←k];exact hm))),if_neg (fun k=>ny (List.mem_append_right _ (by rw[←k];exact hm)))]
 refine⟨jU B++(jU A++(p++q)),⟨fun c hc=>?_,?_⟩,?_⟩
 ·rcases List.mem_append.1 hc with k|k
  ·exact cB c k
  rcases List.mem_append.1 k with k|k
  ·exact cA c k
  ·exact cR c k
 ·rw[List.flatten_append,List.flatten_append,sw,sw,←List.append_assoc]
  exact pD
 ·have eB:(if f' x=y then 0 else 1)=nz B:=by
   cases B with
   |nil=>exact if_pos fx
   |cons b B=>exact if_neg (fun k=>yB (by rw[←k,show f' x=b from fx];simp))
  have eA:(if f' y=x then 0 else 1)=nz A:=by
   cases A with
   |nil=>exact if_pos fy
   |cons a A=>exact if_neg (fun k=>xA (by rw[←k,show f' y=a from fy];simp))
  rw[eB,eA]
  simp only[List.length_append,BT,List.length_cons]
  omega
theorem Dl.Nd{f' f:α→α}{x y:α}{D:List α}{cs':List (List α)}{c:List α}(ON:x≠y)(hn:(x::y::D).Nodup)(h:Dl f' (x::y::D) cs')(hf:∀z∈D,f z=tT f' x y z)(hc:c∈cs')(hx:x∈c)(hy:y∉c) :
  ∃cs,Dl f D cs∧cs.length+2=cs'.length+(if f' x=x∧f' y=y then 0 else 1):=by
 obtain⟨p,q,rfl⟩:=List.append_of_mem hc
 have TG:=h.c c hc
 obtain⟨B,h1,h2⟩:=TG.head hx
 have hyc:y∈(p++q).flatten:=by
  have:y∈(p++c::q).flatten:=h.p.mem_iff.2 (by simp)
  rcases List.mem_append.1 ((fE p q c).mem_iff.1 this) with k|k
  ·exact absurd k hy
  ·exact k
 obtain⟨c2,ud,aas⟩:=List.mem_flatten.1 hyc
 have aat:c2∈p++c::q:=by rcases List.mem_append.1 ud with k|k<;>simp[k]
 obtain⟨A,h3,h4⟩:=(h.c c2 aat).head aas
 obtain⟨p2,q2,xU⟩:=List.append_of_mem ud
 obtain⟨fx,pB⟩:=(show Path f' (x::B) x from h1)
 obtain⟨fy,pA⟩:=(show Path f' (y::A) y from h3)
 have pd:(x::y::(B++A++(p2++q2).flatten)).Perm (x::y::D):=by
  refine List.Perm.trans ?_ h.p
  refine List.Perm.trans ?_ (fE p q c).symm
  rw[xU]
  refine List.Perm.trans ?_ (List.Perm.append_right _ h2)
  refine List.Perm.trans ?_ (List.Perm.append_left _ (fE p2 q2 c2).symm)
  refine List.Perm.trans ?_ (List.Perm.append_left _ (List.Perm.append_right _ h4))
  show(x::y::(B++A++(p2++q2).flatten)).Perm (x::(B++(y::(A++(p2++q2).flatten))))
  refine List.Perm.cons x ?_
  rw[List.append_assoc]
  exact List.perm_middle.symm
 have pD:=(pd.cons_inv).cons_inv
 have nd:=pd.nodup_iff.2 hn
 have nx:x∉B++A++(p2++q2).flatten:=fun k=>(List.nodup_cons.1 nd).1 (List.mem_cons_of_mem _ k)
 have ny:y∉B++A++(p2++q2).flatten:=(List.nodup_cons.1 (List.nodup_cons.1 nd).2).1
 have xB:x∉B:=fun k=>nx (by simp[k])
 have xA:x∉A:=fun k=>nx (by simp[k])
 have yB:y∉B:=fun k=>ny (by simp[k])
 have yA:y∉A:=fun k=>ny (by simp[k])
 have Nc:∀z∈B++A++(p2++q2).flatten,z∈D:=fun z hz=>pD.mem_iff.1 hz
 have nB:∀u∈B,f' u≠x→f u=f' u:=fun u hu aU=>by
  rw[hf u (Nc u (by simp[hu]))]
  unfold tT
  have:f' u≠y:=fun k=>by
   rcases pB.step hu with m|m
   ·exact yB (k▸m)
   ·exact aU m
  rw[if_neg aU,if_neg this]
 have nA:∀u∈A,f' u≠y→f u=f' u:=fun u hu aU=>by
  rw[hf u (Nc u (by simp[hu]))]
  unfold tT
  have:f' u≠x:=fun k=>by
   rcases pA.step hu with m|m
   ·exact xA (k▸m)
   ·exact aU m
  rw[if_neg this,if_neg aU]
 have eB:∀u∈B,f' u=x→f u=if f' y=y then f' x else f' y:=fun u hu heq=>by
  rw[hf u (Nc u (by simp[hu]))]
  unfold tT
  rw[if_pos heq]
 have eA:∀u∈A,f' u=y→f u=if f' x=x then f' y else f' x:=fun u hu heq=>by
  rw[hf u (Nc u (by simp[hu]))]
  unfold tT
  rw[if_neg (by rw[heq];exact fun k=>ON k.symm),if_pos heq]
 have cBA:∀c∈jU (B++A),jW f c:=fun c hc=>by
  cases B with
  |nil =>
   cases A with
   |nil=>simp[jU]at hc
   |cons a A =>
    have hc:c=a::A:=by simpa[jU] using hc
    subst hc
    refine Path.jT pA (fun k=>yA (ll k)) nA (fun u hu heq=>?_)
    rw[eA u hu heq,if_pos (show f' x=x from fx)];exact fy
  |cons b B =>
   have fxb:f' x=b:=fx
   have bx:b≠x:=fun k=>xB (by simp[k])
   cases A with
   |nil =>
    have hc:c=b::B:=by simpa[jU] using hc
    subst hc
    refine Path.jT pB (fun k=>xB (ll k)) nB (fun u hu heq=>?_)
    rw[eB u hu heq,if_pos (show f' y=y from fy)];exact fxb
   |cons a A =>
    have hc:c=(b::B)++(a::A):=by simpa[jU] using hc
    subst hc
    have fya:f' y=a:=fy
    have ay:a≠y:=fun k=>yA (by simp[k])
    refine jW.two.2 ⟨Path.jT pB (fun k=>xB (ll k)) nB (fun u hu heq=>?_),Path.jT pA (fun k=>yA (ll k)) nA (fun u hu heq=>?_)⟩
    ·rw[eB u hu heq,if_neg (by rw[fya];exact ay)];exact fya
    ·rw[eA u hu heq,if_neg (by rw[fxb];exact bx)];exact fxb
 have cR:∀c∈p2++q2,jW f c:=fun c hc=>by
  have CO:c∈p++q:=by rw[xU];rcases List.mem_append.1 hc with k|k<;>simp[k]
  have zF:jW f' c:=h.c c (by rcases List.mem_append.1 CO with k|k<;>simp[k])
  refine zF.congr fun z hz=>?_
  have Wr:∀u∈c,u∈(p2++q2).flatten:=fun u hu=>List.mem_flatten.2 ⟨c,hc,hu⟩
  have hm:=Wr _ (zF.step hz)
  rw[hf z (Nc z (List.mem_append_right _ (Wr z hz)))]
  unfold tT
  rw[if_neg (fun k=>nx (List.mem_append_right _ (by rw[←k];exact hm))),if_neg (fun k=>ny (List.mem_append_right _ (by rw[←k];exact hm)))]
 refine⟨jU (B++A)++(p2++q2),⟨fun c hc=>?_,?_⟩,?_⟩
 ·rcases List.mem_append.1 hc with k|k
  ·exact cBA c k
  ·exact cR c k
 ·rw[List.flatten_append,sw]
  exact pD
 ·have eBA:(if f' x=x∧f' y=y then 0 else 1)=nz (B++A):=by
   cases B with
   |nil =>
    cases A with
    |nil=>exact if_pos ⟨fx,fy⟩
    |cons a A=>exact if_neg (fun k=>yA (by rw[←k.2,show f' y=a from fy];simp))
   |cons b B=>exact if_neg (fun k=>xB (by rw[←k.1,show f' x=b from fx];simp))
  rw[eBA]
  have hl:(p++q).length=(p2++c2::q2).length:=by rw[xU]
  simp only[List.length_append,BT,List.length_cons]at hl ⊢
  omega
end
end Go.Cy
set_option linter.unusedSimpArgs false
namespace Go.Vs
open Go.Proofs Go.Cy
def skip(x:ab)(s:ab→ab)(z:ab):ab:=if s z=x then s x else s z
def g9(row:List ab)(x:ab):ab:=(iD row x 1).getD zD
theorem tU{row:List ab}(hn:row.Nodup){i:Nat}{x:ab}(hx:row[i]? = some x):g9 row x=(row[(i+1)%row.length]?).getD zD:=by
 unfold g9 iD
 rw[if_pos (List.mem_of_getElem? hx),PH hn hx,Int.toNat_natCast]
theorem BU{row:List ab}(hn:row.Nodup):∀(r p:List ab),row=p++r→Path (g9 row) r (row.head?.getD zD)
 |[],_,_=>trivial
 |x::r,p,h=>by
  refine⟨?_,BU hn r (p++[x]) (by rw[h];simp)⟩
  have hx:row[p.length]? = some x:=by rw[h];simp
  rw[tU hn hx]
  cases r with
  |nil =>
   have hl:row.length=p.length+1:=by rw[h];simp
   rw[hl,Nat.mod_self]
   show(row[0]?).getD zD=row.head?.getD zD
   rw[List.head?_eq_getElem?]
  |cons y r =>
   have hl:p.length+1<row.length:=by rw[h];simp
   rw[Nat.mod_eq_of_lt hl]
   have:row[p.length+1]? = some y:=by rw[h];simp
   rw[this];rfl
theorem zG{row:List ab}(hn:row.Nodup)(h0:row≠[]):jW (g9 row) row:=by
 have:=BU hn row [] rfl
 cases row with
 |nil=>exact absurd rfl h0
 |cons x r=>exact this
theorem zH{f g:ab→ab}:∀{a:List ab} {z:ab},Path f a z→Path g a z→∀x∈a,f x=g x
 |y::r,z,p,q,x,hx=>by
  rcases List.mem_cons.1 hx with rfl|hx
  ·exact p.1.trans q.1.symm
  ·exact zH p.2 q.2 x hx
theorem Kx{f g:ab→ab}{c:List ab}(h:jW f c)(k:jW g c):∀x∈c,f x=g x:=by
 cases c with
 |nil=>exact h.elim
 |cons y r=>exact zH h k
theorem Ng{f:ab→ab}{row:List ab}{j:Nat}(h:jW f (CT row j)):jW f row:=by
 unfold CT at h
 have:=jW.CT h
 rwa [List.take_append_drop]at this
theorem mW{row:List ab}(hn:row.Nodup){x:ab}(hx:x∈row):g9 row x∈row:=(zG hn (List.ne_nil_of_mem hx)).step hx
theorem BV{f:ab→ab}:∀{a:List ab} {z:ab},Path f a z→a≠[]→∃l,l∈a∧f l=z
 |[x],z,p,_=>⟨x,by simp,p.1⟩
 |x::y::r,z,p,_=>by
  obtain⟨l,h1,h2⟩:=BV p.2 (by simp)
  exact⟨l,List.mem_cons_of_mem _ h1,h2⟩
theorem Ky{row:List ab}(hn:row.Nodup){x y:ab}(hx:x∈row)(hy:y∈row)(h:g9 row x=g9 row y):x=y:=by
 obtain⟨i,hi⟩:=List.getElem?_of_mem hx
 obtain⟨j,hj⟩:=List.getElem?_of_mem hy
 have ng:=(List.getElem?_eq_some_iff.1 hi).1
 have FQ:=(List.getElem?_eq_some_iff.1 hj).1
 have hp:0<row.length:=by omega
 rw[tU hn hi,tU hn hj,List.getElem?_eq_getElem (Nat.mod_lt _ hp),List.getElem?_eq_getElem (Nat.mod_lt _ hp)]at h
 have h2:(i+1)%row.length=(j+1)%row.length:=BR hn (by simpa using h)
 have h3:i=j:=by
  by_cases a:i+1<row.length<;>by_cases b:j+1<row.length
  ·rw[Nat.mod_eq_of_lt a,Nat.mod_eq_of_lt b]at h2;omega
  ·have:j+1=row.length:=by omega
   rw[Nat.mod_eq_of_lt a,this,Nat.mod_self]at h2;omega
  ·have:i+1=row.length:=by omega
   rw[Nat.mod_eq_of_lt b,this,Nat.mod_self]at h2;omega
  ·omega
 subst h3
 rw[hi]at hj;exact Option.some.inj hj
theorem Kz{row:List ab}(hn:row.Nodup){x z:ab}(hx:x∈row)(hz:z∈row)(hzx:z≠x):g9 (hY row x) z=skip x (g9 row) z:=by
 obtain⟨A,B,rfl⟩:=List.append_of_mem hx
 obtain⟨k,hk⟩:=List.getElem?_of_mem hx
 have he:(A++x::B).filter (fun e=>decide (e≠x))=A++B:=by
  have X1:(A++x::B)[A.length]? = some x:=by simp
  rw[vf hn X1];simp
 have Be:(x::(B++A)).Nodup:=by
  have p:(A++x::B).Perm (x::(B++A)):=List.perm_middle.trans (List.Perm.cons x List.perm_append_comm)
  exact p.nodup_iff.1 hn
 have Af:z∈B++A:=by
  rcases List.mem_append.1 hz with k|k
  ·exact List.mem_append_right _ k
  ·rcases List.mem_cons.1 k with k|k
   ·exact absurd k hzx
   ·exact List.mem_append_left _ k
 have c1:jW (g9 (A++x::B)) (x::(B++A)):=by
  have:=(zG hn (List.ne_nil_of_mem hx)).CT
  simpa using this
 obtain⟨fx,pL⟩:=(show Path (g9 (A++x::B)) (x::(B++A)) x from c1)
 have c2:jW (skip x (g9 (A++x::B))) (B++A):=by
  generalize hL:B++A=L at *
  cases L with
  |nil=>simp at Af
  |cons l L =>
   have fx:g9 (A++x::B) x=l:=fx
   have uU:x∉l::L:=(List.nodup_cons.1 Be).1
   refine Path.jT pL (fun k=>uU (ll k)) (fun u hu aU=>?_) (fun u hu heq=>?_)
   ·unfold skip;rw[if_neg aU]
   ·unfold skip;rw[if_pos heq,fx]
 have hr:hY (A++x::B) x=cM (A++B):=by unfold hY;rw[he]
 obtain⟨j,hj,hjr⟩:=Fb (A++B)
 have nAB:(A++B).Nodup:=(List.perm_append_comm (l₁:=B) (l₂:=A)).nodup_iff.1 (List.nodup_cons.1 Be).2
 have aaw:(hY (A++x::B) x).Nodup:=by rw[hr];exact(mU _).nodup_iff.2 nAB
 have YO:z∈hY (A++x::B) x:=by
  rw[hr,EU]
  rcases List.mem_append.1 Af with k|k
  ·exact List.mem_append_right _ k
  ·exact List.mem_append_left _ k
 have c3:jW (g9 (hY (A++x::B) x)) (A++B):=by
  have:=zG aaw (List.ne_nil_of_mem YO)
  generalize g9 (hY (A++x::B) x)=g at *
  rw[hr,hjr]at this
  exact Ng this
 exact Kx (jW.CT c3) c2 z Af
def sg(d:ak)(x:ab):ab:=(pP d x).getD zD
def ph(d:ak)(x:ab):ab:=(ML d x).getD zD
theorem zJ{d:ak}(h:Rw d.1){v:ah}{x:ab}(hv:v∈d.1)(hx:x∈v.2.1):pP d x=iD v.2.1 x 1:=by
 unfold pP fa
 rw[iH h hv hx]
 show iD (cZ d v.1) x 1=_
 rw[jn h.s hv]
theorem mX{d:ak}(h:Rw d.1){v:ah}{x:ab}(hv:v∈d.1)(hx:x∈v.2.1):sg d x=g9 v.2.1 x:=by
 unfold sg g9;rw[zJ h hv hx]
theorem Hl{d:ak}(h:Rw d.1){x:ab}(hx:x∈an d.1):pP d x=some (sg d x):=by
 obtain⟨v,hv,j0⟩:=aV.1 hx
 have:pP d x=some (g9 v.2.1 x):=by
  rw[zJ h hv j0]
  unfold g9 iD
  rw[if_pos j0]
  have hp:0<v.2.1.length:=List.length_pos_of_mem j0
  rw[List.getElem?_eq_getElem (Nat.mod_lt _ hp)];rfl
 rw[mX h hv j0,this]
theorem PL{d:ak}(h:Rw d.1){x:ab}(hx:x∈an d.1):sg d x∈an d.1:=by
 obtain⟨v,hv,j0⟩:=aV.1 hx
 rw[mX h hv j0]
 exact aV.2 ⟨v,hv,mW (h.ring hv) j0⟩
theorem Nh{d:ak}(h:Rw d.1){x y:ab}(hx:x∈an d.1)(hy:y∈an d.1)(he:sg d x=sg d y):x=y:=by
 obtain⟨v,hv,j0⟩:=aV.1 hx
 obtain⟨w,hw,hyw⟩:=aV.1 hy
 rw[mX h hv j0,mX h hw hyw]at he
 have h1:=mW (h.ring hv) j0
 have h2:=mW (h.ring hw) hyw
 rw[←he]at h2
 have hwv:=h.one hv hw h1 h2
 subst hwv
 exact Ky (h.ring hw) j0 hyw he
theorem og{d:ak}(h:Rw d.1){x z:ab}(hx:x∈an d.1)(hz:z∈an (az d x).1):sg (az d x) z=skip x (sg d) z:=by
 obtain⟨p,q⟩:=ed h hx
 obtain⟨v,hv,j0⟩:=aV.1 hx
 have Ws:z∈an d.1:=p.mem_iff.2 (List.mem_cons_of_mem _ hz)
 have hzx:z≠x:=fun k=>(List.nodup_cons.1 (p.nodup_iff.1 h.n)).1 (k▸hz)
 obtain⟨w,hw,Dm⟩:=aV.1 hz
 have hr:=jo h hv j0
 have Gl:w∈d.1.map (uX v.1 (hY v.2.1 x)):=by rw[hr]at hw;exact hw
 obtain⟨u,hu,TK⟩:=List.mem_map.1 Gl
 rw[mX q hw Dm]
 by_cases Oo:u.1=v.1
 ·have Oo:u=v:=by
   have h1:=jS h.s hv
   have h2:=jS h.s hu
   rw[Oo,h1]at h2
   exact(Option.some.inj h2).symm
  subst Oo
  have mf:w.2.1=hY u.2.1 x:=by rw[←TK];unfold uX;rw[if_pos rfl]
  rw[mf]at Dm ⊢
  have Hm:z∈u.2.1:=(qF j0 (h.ring hu)).mem_iff.2 (List.mem_cons_of_mem _ Dm)
  rw[Kz (h.ring hu) j0 Hm hzx]
  unfold skip
  rw[mX h hu Hm,mX h hu j0]
 ·have mf:w=u:=by rw[←TK];unfold uX;rw[if_neg Oo]
  subst mf
  unfold skip
  rw[mX h hu Dm,if_neg]
  intro k
  have:=mW (h.ring hu) Dm
  rw[k]at this
  exact Oo (congrArg Prod.fst (h.one hv hu j0 this))
theorem Ff{d e:ak}(h:d.1=e.1)(x:ab):pP d x=pP e x:=by
 obtain⟨a,b⟩:=d
 obtain⟨c,f⟩:=e
 simp only at h
 subst h
 rfl
theorem kl{x:ab}(h:x.2=0∨x.2=1):ao (ao x)=x:=by
 obtain⟨x1,x2⟩:=x
 simp only at h
 rcases h with rfl|rfl<;>rfl
theorem Wf.side{d:ak}(h:Wf d){x:ab}(hx:x∈an d.1):x.2=0∨x.2=1:=by
 obtain⟨e,_,_,k⟩:=dP.1 (h.pd.mem_iff.1 hx);exact k
theorem Wf.other{d:ak}(h:Wf d){x:ab}(hx:x∈an d.1):ao x∈an d.1:=by
 obtain⟨e,he,h1,h2⟩:=dP.1 (h.pd.mem_iff.1 hx)
 refine h.pd.mem_iff.2 (dP.2 ⟨e,he,h1,?_⟩)
 obtain⟨_,k⟩:=g8 h2
 rcases k with⟨_,k⟩|⟨_,k⟩
 ·exact .inr k
 ·exact .inl k
theorem Fg{d:ak}{x:ab}(hx:x∈an d.1):(fa d x).isSome=true:=by
 obtain⟨v,hv,j0⟩:=aV.1 hx
 unfold fa F2
 rw[Option.isSome_map,List.find?_isSome]
 exact⟨v,hv,by simpa using j0⟩
theorem lR{d:ak}{x:ab}(hx:x∈an d.1):ph d x=sg d (ao x):=by
 unfold ph ML sg
 rw[if_pos (Fg hx)]
theorem Fh{d:ak}(h:Wf d){x:ab}(hx:x∈an d.1):ML d x=some (ph d x):=by
 rw[lR hx]
 unfold ML
 rw[if_pos (Fg hx)]
 exact Hl h.rw (h.other hx)
theorem Ni{d:ak}(h:Wf d){x:ab}(hx:x∈an d.1):ph d x∈an d.1:=by
 rw[lR hx];exact PL h.rw (h.other hx)
theorem Sz{d:ak}(h:Wf d){x y:ab}(hx:x∈an d.1)(hy:y∈an d.1)(he:ph d x=ph d y):x=y:=by
 rw[lR hx,lR hy]at he
 have:=Nh h.rw (h.other hx) (h.other hy) he
 rw[←kl (h.side hx),←kl (h.side hy),this]
theorem Fi{α:Type}[DecidableEq α]:∀{l D:List α},l.Nodup→(∀x∈l,x∈D)→l.length≤D.length
 |[],_,_,_=>Nat.zero_le _
 |x::r,D,hn,hs=>by
  have h1:=List.nodup_cons.1 hn
  have hx:=hs x (List.mem_cons_self ..)
  have ih:=Fi (l:=r) (D:=D.erase x) h1.2 (fun y hy=>(List.mem_erase_of_ne (fun k=>h1.1 (by rw[←k];exact hy))).2 (hs y (List.mem_cons_of_mem _ hy)))
  rw[List.length_erase_of_mem hx]at ih
  have:=List.length_pos_of_mem hx
  simp;omega
theorem Nj{d:ak}(h:Wf d){out:List ab}{y:ab}(hn:out.Nodup)(hs:∀z∈out,z∈an d.1)(hp:Path (ph d) out y):y∉out.tail:=fun hy=>by
 cases out with
 |nil=>simp at hy
 |cons x r =>
  have hy:y∈r:=hy
  obtain⟨p,q,rfl⟩:=List.append_of_mem hy
  have key:∀(x:ab) (p:List ab),Path (ph d) (x::(p++y::q)) y→(x::(p++y::q)).Nodup→(∀z∈x::(p++y::q),z∈an d.1)→False:=by
   intro x p
   induction p generalizing x with
   |nil =>
    intro hp hn hs
    have h1:ph d x=y:=hp.1
    obtain⟨l,h2,h3⟩:=BV hp.2 (by simp)
    have:=Sz h (hs x (by simp)) (hs l (List.mem_cons_of_mem _ h2)) (h1.trans h3.symm)
    subst this
    exact(List.nodup_cons.1 hn).1 h2
   |cons u p ih =>
    intro hp hn hs
    exact ih u hp.2 (List.nodup_cons.1 hn).2 (fun z hz=>hs z (List.mem_cons_of_mem _ hz))
  exact key x p hp hn hs
theorem Wf.Fj{d:ak}(h:Wf d):(an d.1).length≤80:=by
 have h2:=h.pd.length_eq
 have h3:=h.ne
 have:(ends d.2).length=2*d.2.length:=by
  clear h2 h3 h
  generalize d.2=l
  induction l with
  |nil=>rfl
  |cons e r ih=>rw[jm];simp[ih];omega
 omega
theorem zK{d:ak}(h:Wf d)(x:ab):∀(n:Nat) (y:ab) (r:List ab),(x::r).length+n=82→(x::r).Nodup→(∀z∈x::r,z∈an d.1)→Path (ph d) (x::r) y→y∈an d.1 →
  ∃r',uY d x n y (x::r)=x::r'∧(x::r').Nodup∧(∀z∈x::r',z∈an d.1)∧jW (ph d) (x::r')
 |0,y,r,hl,hn,hs,hp,hy=>by
  have:=Fi hn hs
  have:=h.Fj
  omega
 |n+1,y,r,hl,hn,hs,hp,hy=>by
  unfold uY
  by_cases he:y=x
  ·subst he
   rw[if_pos rfl]
   exact⟨r,rfl,hn,hs,hp⟩
  ·rw[if_neg he]
   have hyr:y∉x::r:=fun k=>by
    rcases List.mem_cons.1 k with k|k
    ·exact he k
    ·exact Nj h hn hs hp k
   have e:(ML d y).getD zD=ph d y:=rfl
   rw[e]
   refine zK h x n (ph d y) (r++[y]) (by simp at hl ⊢;omega) ?_ (fun z hz=>?_) ?_ (Ni h hy)
   ·show((x::r)++[y]).Nodup
    refine List.nodup_append.2 ⟨hn,by simp,fun a ha b hb=>?_⟩
    simp at hb;subst hb
    exact fun k=>hyr (k▸ha)
   ·have hz:z∈(x::r)++[y]:=hz
    rcases List.mem_append.1 hz with k|k
    ·exact hs z k
    ·simp at k;rw[k];exact hy
   ·show Path (ph d) ((x::r)++[y]) (ph d y)
    exact Path.app.2 ⟨hp,rfl,trivial⟩
theorem zL{d:ak}(h:Wf d){x:ab}(hx:x∈an d.1):∃r,aW d x=x::r∧(x::r).Nodup∧(∀z∈x::r,z∈an d.1)∧jW (ph d) (x::r):=by
 unfold aW
 rw[Fh h hx]
 exact zK h x 81 (ph d x) [] rfl (by simp) (fun z hz=>by simp at hz;rw[hz];exact hx) ⟨rfl,trivial⟩ (Ni h hx)
theorem pV{d:ak}(h:Wf d):∀(l:List ab) (out:List (List ab)),(∀x∈l,x∈an d.1)→(∀c∈out,jW (ph d) c)→out.flatten.Nodup→(∀x∈out.flatten,x∈an d.1) →
  (∀c∈jw d l out out.flatten,jW (ph d) c)∧(jw d l out out.flatten).flatten.Nodup∧(∀x∈(jw d l out out.flatten).flatten,x∈an d.1)∧(∀x,x∈l∨x∈out.flatten→x∈(jw d l out out.flatten).flatten)
 |[],out,_,h1,h2,h3=>⟨h1,h2,h3,fun x k=>k.resolve_left (by simp)⟩
 |x::l,out,hl,h1,h2,h3=>by
  unfold jw
  by_cases hx:x∈out.flatten
  ·rw[if_pos hx]
   obtain⟨a,b,c,e⟩:=pV h l out (fun y hy=>hl y (List.mem_cons_of_mem _ hy)) h1 h2 h3
   refine⟨a,b,c,fun y hy=>e y ?_⟩
   rcases hy with hy|hy
   ·rcases List.mem_cons.1 hy with rfl|hy
    ·exact .inr hx
    ·exact .inl hy
   ·exact .inr hy
  ·rw[if_neg hx]
   obtain⟨r,t1,t2,t3,t4⟩:=zL h (hl x (List.mem_cons_self ..))
   have ef:out.flatten++aW d x=(out++[aW d x]).flatten:=by simp
   rw[ef]
   have aaz:∀y∈aW d x,y∉out.flatten:=fun y hy k=>by
    obtain⟨c,hc,hyc⟩:=List.mem_flatten.1 k
    rw[t1]at hy
    exact hx (List.mem_flatten.2 ⟨c,hc,t4.same (h1 c hc) hy hyc (List.mem_cons_self ..)⟩)
   obtain⟨a,b,c,e⟩:=pV h l (out++[aW d x]) (fun y hy=>hl y (List.mem_cons_of_mem _ hy))
    (fun c hc=>by
     rcases List.mem_append.1 hc with k|k
     ·exact h1 c k
     ·simp at k;rw[k,t1];exact t4)
    (by
     rw[←ef]
     refine List.nodup_append.2 ⟨h2,by rw[t1];exact t2,fun u hu w hw k=>aaz w hw (k▸hu)⟩)
    (fun y hy=>by
     rw[←ef]at hy
     rcases List.mem_append.1 hy with k|k
     ·exact h3 y k
     ·rw[t1]at k;exact t3 y k)
   refine⟨a,b,c,fun y hy=>e y ?_⟩
   rw[←ef]
   rcases hy with hy|hy
   ·rcases List.mem_cons.1 hy with rfl|hy
    ·exact .inr (List.mem_append_right _ (by rw[t1];simp))
    ·exact .inl hy
   ·exact .inr (List.mem_append_left _ hy)
theorem km:∀l:List aq,iE l=ends l
 |[]=>rfl
 |e::r=>by rw[jm,iE,km r]
theorem bO{d:ak}(h:Wf d):Dl (ph d) (an d.1) (cQ d):=by
 obtain⟨a,b,c,e⟩:=pV h (iE d.2) [] (fun x hx=>h.pd.mem_iff.2 (by rw[←km];exact hx)) (by simp) (by simp) (by simp)
 refine⟨a,(List.perm_ext_iff_of_nodup b h.rw.n).2 fun x=>⟨c x,fun hx=>e x (.inl (by rw[km];exact h.pd.mem_iff.1 hx))⟩⟩
end Go.Vs
namespace Go.Vs
open Go.Proofs Go.Cy
def cT(d:ak)(x:ID):ak:=aP (az (az d (x,0)) (x,1)) zI x
theorem Ho{d:ak}(h:Wf d)(x y:ab)(e:ID):(aP (az (az d x) y) zI e).1=(az (az d x) y).1:=tR (jq (jq h.gv x) y)
theorem zM(x:ID):ao (x,0)=(x,1):=rfl
theorem Nk(x:ID):ao (x,1)=(x,0):=rfl
structure bF(d':ak)(x:ID):Prop where
 wf:Wf d'
 e:(aO d'.2 x).isSome=true
theorem bF.x0{d':ak}{x:ID}(h:bF d' x):(x,0)∈an d'.1:=h.wf.mi h.e (.inl rfl)
theorem bF.x1{d':ak}{x:ID}(h:bF d' x):(x,1)∈an d'.1:=h.wf.mi h.e (.inr rfl)
theorem bF.p1{d':ak}{x:ID}(h:bF d' x):(an d'.1).Perm ((x,0)::an (az d' (x,0)).1)∧Rw (az d' (x,0)).1:=ed h.wf.rw h.x0
theorem bF.TL{d':ak}{x:ID}(h:bF d' x):(x,1)∈an (az d' (x,0)).1:=by
 rcases List.mem_cons.1 (h.p1.1.mem_iff.1 h.x1) with k|k
 ·cases k
 ·exact k
theorem bF.p2{d':ak}{x:ID}(h:bF d' x):(an (az d' (x,0)).1).Perm ((x,1)::an (az (az d' (x,0)) (x,1)).1)∧Rw (az (az d' (x,0)) (x,1)).1:=ed h.p1.2 h.TL
theorem bF.v{d':ak}{x:ID}(h:bF d' x):(cT d' x).1=(az (az d' (x,0)) (x,1)).1:=Ho h.wf _ _ _
theorem bF.w{d':ak}{x:ID}(h:bF d' x):Wf (cT d' x):=h.wf.cut h.e
theorem bF.p{d':ak}{x:ID}(h:bF d' x):(an d'.1).Perm ((x,0)::(x,1)::an (cT d' x).1):=by
 rw[h.v];exact h.p1.1.trans (List.Perm.cons _ h.p2.1)
theorem bF.sg{d':ak}{x:ID}(h:bF d' x){z:ab}(hz:z∈an (cT d' x).1):sg (cT d' x) z=skip (x,1) (skip (x,0) (sg d')) z:=by
 have e1:Vs.sg (cT d' x) z=Vs.sg (az (az d' (x,0)) (x,1)) z:=by unfold Vs.sg;rw[Ff h.v]
 rw[h.v]at hz
 have vE:z∈an (az d' (x,0)).1:=h.p2.1.mem_iff.2 (List.mem_cons_of_mem _ hz)
 rw[e1,og h.p1.2 h.TL hz]
 unfold skip
 rw[og h.wf.rw h.x0 vE,og h.wf.rw h.x0 h.TL]
 rfl
theorem bF.ph{d':ak}{x:ID}(h:bF d' x){z:ab}(hz:z∈an (cT d' x).1):ph (cT d' x) z=tT (ph d') (x,0) (x,1) z:=by
 have KP:z∈an d'.1:=h.p.mem_iff.2 (List.mem_cons_of_mem _ (List.mem_cons_of_mem _ hz))
 have ho:=h.w.other hz
 have ma:ao z∈an d'.1:=h.p.mem_iff.2 (List.mem_cons_of_mem _ (List.mem_cons_of_mem _ ho))
 have nd:=h.p.nodup_iff.1 h.wf.rw.n
 have GH:ao z≠(x,1):=fun k=>(List.nodup_cons.1 (List.nodup_cons.1 nd).2).1 (k▸ho)
 rw[lR hz,h.sg ho]
 unfold tT
 rw[lR KP,lR h.x0,lR h.x1,zM,Nk]
 generalize hW:ao z=w at *
 have inj:Vs.sg d' (x,1)=(x,0)→Vs.sg d' w≠(x,0):=fun k1 k2=>GH (Nh h.wf.rw ma h.x1 (k2.trans k1.symm))
 unfold skip
 by_cases c1:Vs.sg d' w=(x,0)
 ·rw[if_pos c1]
  by_cases c2:Vs.sg d' (x,0)=(x,1)
  ·rw[if_pos c2,if_pos c2]
   by_cases c3:Vs.sg d' (x,1)=(x,0)
   ·exact absurd c1 (inj c3)
   ·rw[if_neg c3,if_pos c1]
  ·rw[if_neg c2,if_neg c2,if_pos c1]
 ·rw[if_neg c1]
  by_cases c2:Vs.sg d' w=(x,1)
  ·rw[if_pos c2,if_neg c1]
  ·rw[if_neg c2,if_neg c1]
def al(l:List ah):Nat:=l.countP fun v=>v.2.1.isEmpty
theorem BW{row:List ab}(hn:row.Nodup){x:ab}(hx:x∈row):g9 row x=x↔row.length=1:=by
 obtain⟨i,hi⟩:=List.getElem?_of_mem hx
 have ng:=(List.getElem?_eq_some_iff.1 hi).1
 have hp:0<row.length:=by omega
 rw[tU hn hi,List.getElem?_eq_getElem (Nat.mod_lt _ hp)]
 constructor
 ·intro h
  have h1:row[(i+1)%row.length]? = some x:=by rw[List.getElem?_eq_getElem (Nat.mod_lt _ hp)];exact congrArg some (by simpa using h)
  have h2:=BS hn h1 hi
  by_cases c:i+1<row.length
  ·rw[Nat.mod_eq_of_lt c]at h2;omega
  ·have:i+1=row.length:=by omega
   rw[this,Nat.mod_self]at h2;omega
 ·intro h
  have h0:i=0:=by omega
  subst h0
  have:(0+1)%row.length=0:=by rw[h]
  simp only[this]
  obtain⟨h1,h2⟩:=List.getElem?_eq_some_iff.1 hi
  simpa using h2
theorem zN{d:ak}(h:Rw d.1){x:ab}(hx:x∈an d.1):al (az d x).1=al d.1+if sg d x=x then 1 else 0:=by
 obtain⟨v,hv,j0⟩:=aV.1 hx
 obtain⟨a,b,h1,_,_,h2⟩:=pT h.s hv
 have e1:(az d x).1=a++(v.1,(hY v.2.1 x,v.2.2))::b:=by rw[jo h hv j0];exact h2 _
 have p:=qF j0 (h.ring hv)
 have hl:=p.length_eq
 have v0:v.2.1.isEmpty=false:=by
  cases hq:v.2.1 with
  |nil=>rw[hq]at j0;simp at j0
  |cons _ _=>rfl
 have v1:(hY v.2.1 x).isEmpty=decide (sg d x=x):=by
  rw[Bool.eq_iff_iff,List.isEmpty_iff,decide_eq_true_eq,mX h hv j0,BW (h.ring hv) j0,←List.length_eq_zero_iff]
  simp at hl;omega
 rw[e1]
 conv=>rhs;rw[h1]
 unfold al
 rw[List.countP_append,List.countP_append,List.countP_cons,List.countP_cons]
 simp only[v0,v1]
 by_cases c:sg d x=x
 ·simp[c];omega
 ·simp[c]
def ft(d:ak):Nat:=(cQ d).length+al d.1
def Nl(d:ak)(x y:ab):Prop:=∃c∈cQ d,x∈c∧y∈c
theorem bF.al{d':ak}{x:ID}(h:bF d' x):Vs.al (cT d' x).1=Vs.al d'.1+(if Vs.ph d' (x,1)=(x,0) then 1 else 0)+(if Vs.ph d' (x,0)=(x,1)∨(Vs.ph d' (x,0)=(x,0)∧Vs.ph d' (x,1)=(x,1)) then 1 else 0):=by
 rw[h.v,zN h.p1.2 h.TL,zN h.wf.rw h.x0]
 have e0:Vs.ph d' (x,0)=Vs.sg d' (x,1):=lR h.x0
 have e1:Vs.ph d' (x,1)=Vs.sg d' (x,0):=lR h.x1
 rw[e0,e1,og h.wf.rw h.x0 h.TL]
 unfold skip
 congr 1
 by_cases c:Vs.sg d' (x,1)=(x,0)
 ·rw[if_pos c]
  by_cases k:Vs.sg d' (x,0)=(x,1)
  ·rw[if_pos k,if_pos (.inr ⟨c,k⟩)]
  ·rw[if_neg k,if_neg]
   rintro(m|⟨_,m⟩)
   ·rw[c]at m;cases m
   ·exact k m
 ·rw[if_neg c]
  by_cases k:Vs.sg d' (x,1)=(x,1)
  ·rw[if_pos k,if_pos (.inl k)]
  ·rw[if_neg k,if_neg]
   rintro(m|⟨m,_⟩)
   ·exact k m
   ·exact c m
theorem Wt(x:ID):((x,0):ab)≠(x,1):=fun k=>by cases k
theorem bF.same{d':ak}{x:ID}(h:bF d' x)(hf:Nl d' (x,0) (x,1)):ft (cT d' x)=ft d'+1∧(cQ (cT d' x)).length+1=(cQ d').length+(if Vs.ph d' (x,0)=(x,1) then 0 else 1)+(if Vs.ph d' (x,1)=(x,0) then 0 else 1):=by
 obtain⟨c,hc,h0,h1⟩:=hf
 have nd:=h.p.nodup_iff.1 h.wf.rw.n
 have dec:Dl (Vs.ph d') ((x,0)::(x,1)::an (cT d' x).1) (cQ d'):=⟨(bO h.wf).c,(bO h.wf).p.trans h.p⟩
 obtain⟨cs,k1,k2⟩:=Dl.Nb (Wt x) nd dec (fun z hz=>h.ph hz) hc h0 h1
 have k3:=Dl.count (h.w.rw.n) (bO h.w) k1
 have k4:=h.al
 have zF:=(bO h.wf).c c hc
 have n0:¬(Vs.ph d' (x,0)=(x,0)):=fun k=>by
  obtain⟨n,hn⟩:=zF.reach h0 h1
  have:∀n,it (Vs.ph d') n (x,0)=(x,0):=fun n=>by
   induction n with
   |zero=>rfl
   |succ n ih=>show it (Vs.ph d') n (Vs.ph d' (x,0))=_;rw[k];exact ih
  rw[this]at hn;cases hn
 refine⟨?_,by rw[k3];exact k2⟩
 unfold ft
 rw[k3,k4]
 by_cases c0:Vs.ph d' (x,0)=(x,1)
 ·rw[if_pos c0]at k2
  rw[if_pos (Or.inl c0)]
  by_cases c1:Vs.ph d' (x,1)=(x,0)
  ·rw[if_pos c1]at k2 ⊢;omega
  ·rw[if_neg c1]at k2 ⊢;omega
 ·rw[if_neg c0]at k2
  rw[if_neg (show ¬(Vs.ph d' (x,0)=(x,1)∨(Vs.ph d' (x,0)=(x,0)∧Vs.ph d' (x,1)=(x,1))) from fun m=>m.elim c0 fun m=>n0 m.1)]
  by_cases c1:Vs.ph d' (x,1)=(x,0)
  ·rw[if_pos c1]at k2 ⊢;omega
  ·rw[if_neg c1]at k2 ⊢;omega
theorem bF.diff{d':ak}{x:ID}(h:bF d' x)(hf:¬Nl d' (x,0) (x,1)):ft (cT d' x)+1=ft d':=by
 have hm:(x,0)∈(cQ d').flatten:=(bO h.wf).p.mem_iff.2 h.x0
 obtain⟨c,hc,h0⟩:=List.mem_flatten.1 hm
 have h1:(x,1)∉c:=fun k=>hf ⟨c,hc,h0,k⟩
 have nd:=h.p.nodup_iff.1 h.wf.rw.n
 have dec:Dl (Vs.ph d') ((x,0)::(x,1)::an (cT d' x).1) (cQ d'):=⟨(bO h.wf).c,(bO h.wf).p.trans h.p⟩
 obtain⟨cs,k1,k2⟩:=Dl.Nd (Wt x) nd dec (fun z hz=>h.ph hz) hc h0 h1
 have k3:=Dl.count (h.w.rw.n) (bO h.w) k1
 have k4:=h.al
 have zF:=(bO h.wf).c c hc
 have n0:¬(Vs.ph d' (x,0)=(x,1)):=fun k=>h1 (k▸zF.step h0)
 have n1:¬(Vs.ph d' (x,1)=(x,0)):=fun k=>by
  have RI:(x,1)∈(cQ d').flatten:=(bO h.wf).p.mem_iff.2 h.x1
  obtain⟨c2,ud,h2⟩:=List.mem_flatten.1 RI
  have:=((bO h.wf).c c2 ud).step h2
  rw[k]at this
  exact hf ⟨c2,ud,this,h2⟩
 unfold ft
 rw[k3,k4,if_neg n1]
 by_cases c:Vs.ph d' (x,0)=(x,0)∧Vs.ph d' (x,1)=(x,1)
 ·rw[if_pos c]at k2;rw[if_pos (.inr c)];omega
 ·rw[if_neg c]at k2;rw[if_neg (fun m=>m.elim n0 c)];omega
end Go.Vs
namespace Go.Vs
open Go.Proofs Go.Cy
def Fk(d:ak)(a b:ID):Prop:=∃z∈an d.1,fa d z=some a∧fa d (ao z)=some b
inductive cx (d:ak):ID→ID→Prop
 |refl (a:ID):cx d a a
 |tail {a b c:ID}:cx d a b→Fk d b c→cx d a c
theorem cx.trans{d:ak}{a b c:ID}(h:cx d a b)(k:cx d b c):cx d a c:=by
 induction k with
 |refl=>exact h
 |tail _ j ih=>exact ih.tail j
theorem Fk.symm{d:ak}(hw:Wf d){a b:ID}(h:Fk d a b):Fk d b a:=by
 obtain⟨z,hz,h1,h2⟩:=h
 exact⟨ao z,hw.other hz,h2,by rw[kl (hw.side hz)];exact h1⟩
theorem Fk.conn{d:ak}{a b:ID}(h:Fk d a b):cx d a b:=(cx.refl a).tail h
theorem cx.symm{d:ak}(hw:Wf d){a b:ID}(h:cx d a b):cx d b a:=by
 induction h with
 |refl=>exact .refl _
 |tail _ j ih=>exact(j.symm hw).conn.trans ih
structure tV(d:ak)(R:List ID):Prop where
 n:R.Nodup
 v:∀r∈R,∃v∈d.1,v.1=r
 i:∀r∈R,∀s∈R,cx d r s→r=s
 c:∀v∈d.1,∃r∈R,cx d v.1 r
theorem C2{d:ak}(hw:Wf d):∀{R R':List ID},R.Nodup→(∀r∈R,∀s∈R,cx d r s→r=s)→(∀r∈R,∃s∈R',cx d r s)→R.length≤R'.length
 |[],_,_,_,_=>Nat.zero_le _
 |r::R,R',hn,hi,hc=>by
  obtain⟨s,hs,RH⟩:=hc r (List.mem_cons_self ..)
  have h1:=List.nodup_cons.1 hn
  have ih:=C2 hw (R:=R) (R':=R'.erase s) h1.2 (fun a ha b hb=>hi a (List.mem_cons_of_mem _ ha) b (List.mem_cons_of_mem _ hb)) (fun a ha=>by
   obtain⟨t,ht,vM⟩:=hc a (List.mem_cons_of_mem _ ha)
   refine⟨t,(List.mem_erase_of_ne (fun k=>?_)).2 ht,vM⟩
   subst k
   have:=hi a (List.mem_cons_of_mem _ ha) r (List.mem_cons_self ..) (vM.trans (RH.symm hw))
   exact h1.1 (this▸ha))
  rw[List.length_erase_of_mem hs]at ih
  have:=List.length_pos_of_mem hs
  simp;omega
theorem tV.len{d:ak}(hw:Wf d){R R':List ID}(h:tV d R)(h':tV d R'):R.length=R'.length:=by
 refine Nat.le_antisymm (C2 hw h.n h.i fun r hr=>?_) (C2 hw h'.n h'.i fun r hr=>?_)
 ·obtain⟨v,hv,rfl⟩:=h.v r hr;exact h'.c v hv
 ·obtain⟨v,hv,rfl⟩:=h'.v r hr;exact h.c v hv
theorem tW{d:ak}(hw:Wf d){z:ab}(hz:z∈an d.1):∃v∈d.1,z∈v.2.1∧fa d z=some v.1:=by
 obtain⟨v,hv,TM⟩:=aV.1 hz
 exact⟨v,hv,TM,iH hw.rw hv TM⟩
theorem zO{d:ak}(h:Rw d.1){x z:ab}(hx:x∈an d.1)(hz:z∈an (az d x).1):fa (az d x) z=fa d z:=by
 obtain⟨p,q⟩:=ed h hx
 obtain⟨v,hv,j0⟩:=aV.1 hx
 obtain⟨w,hw,Dm⟩:=aV.1 hz
 have hr:=jo h hv j0
 have Gl:w∈d.1.map (uX v.1 (hY v.2.1 x)):=by rw[hr]at hw;exact hw
 obtain⟨u,hu,TK⟩:=List.mem_map.1 Gl
 have bw:w.1=u.1:=by rw[←TK];exact pS _ _ _
 have Hm:z∈u.2.1:=by
  by_cases Oo:u.1=v.1
  ·have Oo:u=v:=by
    have h1:=jS h.s hv
    have h2:=jS h.s hu
    rw[Oo,h1]at h2
    exact(Option.some.inj h2).symm
   subst Oo
   have mf:w.2.1=hY u.2.1 x:=by rw[←TK];unfold uX;rw[if_pos rfl]
   rw[mf]at Dm
   exact(qF j0 (h.ring hu)).mem_iff.2 (List.mem_cons_of_mem _ Dm)
  ·have mf:w=u:=by rw[←TK];unfold uX;rw[if_neg Oo]
   rw[←mf];exact Dm
 show F2 (az d x).1 z=F2 d.1 z
 rw[iH q hw Dm,iH h hu Hm,bw]
theorem bF.at{d':ak}{x:ID}(h:bF d' x){z:ab}(hz:z∈an (cT d' x).1):fa (cT d' x) z=fa d' z:=by
 have e:fa (cT d' x) z=fa (az (az d' (x,0)) (x,1)) z:=by unfold fa;rw[h.v]
 rw[h.v]at hz
 have vE:z∈an (az d' (x,0)).1:=h.p2.1.mem_iff.2 (List.mem_cons_of_mem _ hz)
 rw[e,zO h.p1.2 h.TL hz,zO h.wf.rw h.x0 vE]
theorem bF.sub{d':ak}{x:ID}(h:bF d' x){z:ab}(hz:z∈an (cT d' x).1):z∈an d'.1:=h.p.mem_iff.2 (List.mem_cons_of_mem _ (List.mem_cons_of_mem _ hz))
theorem bF.TN{d':ak}{x:ID}(h:bF d' x){a b:ID}(k:Fk (cT d' x) a b):Fk d' a b:=by
 obtain⟨z,hz,h1,h2⟩:=k
 exact⟨z,h.sub hz,by rw[←h.at hz];exact h1,by rw[←h.at (h.w.other hz)];exact h2⟩
theorem bF.conn{d':ak}{x:ID}(h:bF d' x){a b:ID}(k:cx (cT d' x) a b):cx d' a b:=by
 induction k with
 |refl=>exact .refl _
 |tail _ j ih=>exact ih.tail (h.TN j)
theorem bF.aaA{d':ak}{x u w:ID}(h:bF d' x)(hu:fa d' (x,0)=some u)(hw:fa d' (x,1)=some w){a b:ID}(k:Fk d' a b):Fk (cT d' x) a b∨(a=u∧b=w)∨(a=w∧b=u):=by
 obtain⟨z,hz,h1,h2⟩:=k
 rcases List.mem_cons.1 (h.p.mem_iff.1 hz) with rfl|Af
 ·rw[zM]at h2
  rw[hu]at h1;rw[hw]at h2
  cases h1;cases h2
  exact .inr (.inl ⟨rfl,rfl⟩)
 rcases List.mem_cons.1 Af with rfl|FN
 ·rw[Nk]at h2
  rw[hw]at h1;rw[hu]at h2
  cases h1;cases h2
  exact .inr (.inr ⟨rfl,rfl⟩)
 ·exact .inl ⟨z,FN,by rw[h.at FN];exact h1,by rw[h.at (h.w.other FN)];exact h2⟩
theorem bF.Nm{d':ak}{x u w:ID}(h:bF d' x)(hu:fa d' (x,0)=some u)(hw:fa d' (x,1)=some w){a b:ID}(k:cx d' a b) :
  cx (cT d' x) a b∨(cx (cT d' x) a u∧cx (cT d' x) w b)∨(cx (cT d' x) a w∧cx (cT d' x) u b):=by
 induction k with
 |refl=>exact .inl (.refl _)
 |tail _ j ih =>
  rcases h.aaA hu hw j with j|⟨rfl,rfl⟩|⟨rfl,rfl⟩
  ·rcases ih with k|⟨k,m⟩|⟨k,m⟩
   ·exact .inl (k.tail j)
   ·exact .inr (.inl ⟨k,m.tail j⟩)
   ·exact .inr (.inr ⟨k,m.tail j⟩)
  ·rcases ih with k|⟨k,m⟩|⟨k,m⟩
   ·exact .inr (.inl ⟨k,.refl _⟩)
   ·exact .inr (.inl ⟨k,.refl _⟩)
   ·exact .inl k
  ·rcases ih with k|⟨k,m⟩|⟨k,m⟩
   ·exact .inr (.inr ⟨k,.refl _⟩)
   ·exact .inl k
   ·exact .inr (.inr ⟨k,.refl _⟩)
theorem bF.ids{d':ak}{x:ID}(h:bF d' x):(cT d' x).1.map (·.1)=d'.1.map (·.1):=by
 rw[h.v]
 unfold az Vs.bV
 simp only[List.map_map]
 refine List.map_congr_left fun v hv=>?_
 simp only[Function.comp,pS]
theorem bF.Hq{d':ak}{x:ID}(h:bF d' x){r:ID}:(∃v∈(cT d' x).1,v.1=r)↔∃v∈d'.1,v.1=r:=by
 have e:∀l:List ah,(∃v∈l,v.1=r)↔r∈l.map (·.1):=fun l=>by rw[List.mem_map]
 rw[e,e,h.ids]
theorem bF.PM{d':ak}{x u w:ID}(h:bF d' x)(hu:fa d' (x,0)=some u)(hw:fa d' (x,1)=some w)(k:cx (cT d' x) u w){R:List ID}(hr:tV d' R):tV (cT d' x) R:=by
 have key:∀{a b:ID},cx d' a b→cx (cT d' x) a b:=fun {a b} m=>by
  rcases h.Nm hu hw m with m|⟨m,q⟩|⟨m,q⟩
  ·exact m
  ·exact(m.trans k).trans q
  ·exact(m.trans (k.symm h.w)).trans q
 refine⟨hr.n,fun r Oq=>h.Hq.2 (hr.v r Oq),fun r Oq s hs m=>hr.i r Oq s hs (h.conn m),fun v hv=>?_⟩
 obtain⟨v',xM,he⟩:=h.Hq.1 ⟨v,hv,rfl⟩
 obtain⟨r,h1,h2⟩:=hr.c v' xM
 exact⟨r,h1,by rw[←he];exact key h2⟩
theorem bF.IP{d':ak}{x:ID}(h:bF d' x):∃u w,fa d' (x,0)=some u∧fa d' (x,1)=some w∧(∃v∈d'.1,v.1=u)∧∃v∈d'.1,v.1=w:=by
 obtain⟨v,hv,_,h1⟩:=tW h.wf h.x0
 obtain⟨v2,vC,_,h2⟩:=tW h.wf h.x1
 exact⟨v.1,v2.1,h1,h2,⟨v,hv,rfl⟩,⟨v2,vC,rfl⟩⟩
theorem bF.Q7{d':ak}{x u w:ID}(h:bF d' x)(hu:fa d' (x,0)=some u)(hw:fa d' (x,1)=some w)(k:¬cx (cT d' x) u w){R:List ID}(hr:tV d' R):∃R2,tV (cT d' x) R2∧R2.length=R.length+1:=by
 have uv:∃v∈d'.1,v.1=u:=by
  obtain⟨v,hv,_,h1⟩:=tW h.wf h.x0
  rw[hu]at h1;cases h1;exact⟨v,hv,rfl⟩
 have wv:∃v∈d'.1,v.1=w:=by
  obtain⟨v,hv,_,h1⟩:=tW h.wf h.x1
  rw[hw]at h1;cases h1;exact⟨v,hv,rfl⟩
 have uw:cx d' u w:=Fk.conn ⟨(x,0),h.x0,hu,by rw[zM];exact hw⟩
 obtain⟨v0,Rs,hvu⟩:=uv
 obtain⟨r,Oq,X8⟩:=hr.c v0 Rs
 rw[hvu]at X8
 have sep:∀s∈R.erase r,s∈R∧¬cx d' s u∧¬cx d' s w:=fun s hs=>by
  have h1:=List.mem_of_mem_erase hs
  have h2:s≠r:=fun e=>by
   subst e
   exact absurd hs (List.Nodup.not_mem_erase hr.n)
  exact⟨h1,fun m=>h2 (hr.i s h1 r Oq (m.trans X8)),fun m=>h2 (hr.i s h1 r Oq ((m.trans (uw.symm h.wf)).trans X8))⟩
 refine⟨u::w::R.erase r,⟨?_,?_,?_,?_⟩,?_⟩
 ·refine List.nodup_cons.2 ⟨fun m=>?_,List.nodup_cons.2 ⟨fun m=>(sep w m).2.2 (.refl _),hr.n.erase r⟩⟩
  rcases List.mem_cons.1 m with m|m
  ·exact k (m▸.refl _)
  ·exact(sep u m).2.1 (.refl _)
 ·intro s hs
  rcases List.mem_cons.1 hs with rfl|hs
  ·exact h.Hq.2 ⟨v0,Rs,hvu⟩
  rcases List.mem_cons.1 hs with rfl|hs
  ·exact h.Hq.2 wv
  ·exact h.Hq.2 (hr.v s (sep s hs).1)
 ·intro a ha b hb m
  rcases List.mem_cons.1 ha with ea|ha
  ·rcases List.mem_cons.1 hb with eb|hb
   ·rw[ea,eb]
   rcases List.mem_cons.1 hb with eb|hb
   ·exact absurd (ea▸eb▸m) k
   ·exact absurd ((h.conn (ea▸m)).symm h.wf) (sep b hb).2.1
  rcases List.mem_cons.1 ha with ea|ha
  ·rcases List.mem_cons.1 hb with eb|hb
   ·exact absurd ((ea▸eb▸m).symm h.w) k
   rcases List.mem_cons.1 hb with eb|hb
   ·rw[ea,eb]
   ·exact absurd ((h.conn (ea▸m)).symm h.wf) (sep b hb).2.2
  ·rcases List.mem_cons.1 hb with eb|hb
   ·exact absurd (eb▸h.conn m) (sep a ha).2.1
   rcases List.mem_cons.1 hb with eb|hb
   ·exact absurd (eb▸h.conn m) (sep a ha).2.2
   ·exact hr.i a (sep a ha).1 b (sep b hb).1 (h.conn m)
 ·intro v hv
  obtain⟨v',xM,he⟩:=h.Hq.1 ⟨v,hv,rfl⟩
  obtain⟨s,h1,h2⟩:=hr.c v' xM
  rw[he]at h2
  by_cases hsr:s=r
  ·subst hsr
   rcases h.Nm hu hw (h2.trans (X8.symm h.wf)) with m|⟨m,_⟩|⟨m,_⟩
   ·exact⟨u,by simp,m⟩
   ·exact⟨u,by simp,m⟩
   ·exact⟨w,by simp,m⟩
  ·have Rx:s∈R.erase r:=(List.mem_erase_of_ne hsr).2 h1
   rcases h.Nm hu hw h2 with m|⟨_,q⟩|⟨_,q⟩
   ·exact⟨s,by simp[Rx],m⟩
   ·exact absurd ((h.conn q).symm h.wf) (sep s Rx).2.2
   ·exact absurd ((h.conn q).symm h.wf) (sep s Rx).2.1
 ·have:=List.length_pos_of_mem Oq
  simp only[List.length_cons,List.length_erase_of_mem Oq];omega
theorem bF.KA{d':ak}{x u w:ID}(h:bF d' x)(hu:fa d' (x,0)=some u)(hw:fa d' (x,1)=some w)(hf:¬Nl d' (x,0) (x,1)):cx (cT d' x) u w:=by
 have hm:(x,0)∈(cQ d').flatten:=(bO h.wf).p.mem_iff.2 h.x0
 obtain⟨c,hc,h0⟩:=List.mem_flatten.1 hm
 have h1:(x,1)∉c:=fun k=>hf ⟨c,hc,h0,k⟩
 have zF:=(bO h.wf).c c hc
 obtain⟨B,k1,k2⟩:=zF.head h0
 have hcd:∀z∈c,z∈an d'.1:=fun z hz=>(bO h.wf).p.mem_iff.1 (List.mem_flatten.2 ⟨c,hc,hz⟩)
 have cn:c.Nodup:=by
  obtain⟨p,q,e⟩:=List.append_of_mem hc
  have:=(bO h.wf).p.nodup_iff.2 h.wf.rw.n
  rw[e]at this
  exact(List.nodup_append.1 ((fE p q c).nodup_iff.1 this)).1
 have bn:=k2.nodup_iff.2 cn
 have Wu:∀z∈an d'.1,fa d' (Vs.ph d' z)=fa d' (ao z):=fun z hz=>by
  have ho:=h.wf.other hz
  obtain⟨v,hv,TM⟩:=aV.1 ho
  rw[lR hz,mX h.wf.rw hv TM]
  show F2 d'.1 _=F2 d'.1 _
  rw[iH h.wf.rw hv (mW (h.wf.rw.ring hv) TM),iH h.wf.rw hv TM]
 have inC:∀z∈B,z∈an (cT d' x).1:=fun z hz=>by
  have TE:z∈c:=k2.mem_iff.1 (List.mem_cons_of_mem _ hz)
  rcases List.mem_cons.1 (h.p.mem_iff.1 (hcd z TE)) with e|e
  ·exact absurd (e▸hz) (List.nodup_cons.1 bn).1
  rcases List.mem_cons.1 e with e|e
  ·exact absurd (e▸TE) h1
  ·exact e
 have walk:∀(B:List ab) (a e:ID) (z:ab),(∀y∈B,y∈an (cT d' x).1)→Path (Vs.ph d') B z→fa d' z=some e→(∀y,B.head? = some y→fa d' y=some a)→(B=[]→a=e)→cx (cT d' x) a e:=by
  intro B
  induction B with
  |nil=>intro a e z _ _ _ _ h5;rw[h5 rfl];exact .refl _
  |cons y r ih =>
   intro a e z hB hp hz ha _
   have hy:=hB y (by simp)
   have Wm:=h.sub hy
   obtain⟨v,hv,On,vM⟩:=tW h.wf (h.wf.other Wm)
   have TN:Fk (cT d' x) a v.1:=⟨y,hy,by rw[h.at hy];exact ha y rfl,by rw[h.at (h.w.other hy)];exact vM⟩
   have gR:fa d' (r.head?.getD z)=some v.1:=by
    rw[←show Vs.ph d' y=r.head?.getD z from hp.1,Wu y Wm];exact vM
   refine TN.conn.trans (ih v.1 e z (fun q hq=>hB q (List.mem_cons_of_mem _ hq)) hp.2 hz (fun q hq=>?_) (fun hr=>?_))
   ·rw[hq]at gR;exact gR
   ·subst hr
    have:fa d' z=some v.1:=gR
    rw[hz]at this;exact(Option.some.inj this).symm
 obtain⟨fx,pB⟩:=(show Path (Vs.ph d') ((x,0)::B) (x,0) from k1)
 have Hr:fa d' (B.head?.getD (x,0))=some w:=by
  rw[←fx,Wu _ h.x0,zM];exact hw
 refine(walk B w u (x,0) inC pB hu (fun y hy=>by rw[hy]at Hr;exact Hr) (fun hB=>?_)).symm h.w
 subst hB
 have:fa d' (x,0)=some w:=Hr
 rw[hu]at this;exact(Option.some.inj this).symm
theorem Fl{d:ak}(h:an d.1=[]){a b:ID}(k:cx d a b):a=b:=by
 induction k with
 |refl=>rfl
 |tail _ j _=>obtain⟨z,hz,_⟩:=j;rw[h]at hz;simp at hz
theorem bM.ids{l:List ah}(h:bM l):(l.map (·.1)).Nodup:=by
 unfold List.Nodup
 rw[List.pairwise_map]
 exact h.imp fun {a b} k e=>by rw[e,bQ]at k;cases k
theorem IQ:∀(n:Nat) (d:ak),Wf d→d.2.length=n→∀R,tV d R→∃k,d.1.length+ft d+2*k=2*R.length+d.2.length
 |0,d,hw,hl,R,hr=>by
  have he:d.2=[]:=by simpa using hl
  have hd:an d.1=[]:=by
   have:=hw.pd
   rw[he]at this
   exact List.perm_nil.1 this
  have RM:tV d (d.1.map (·.1)):=⟨hw.sv.ids,fun r hr=>by obtain⟨v,hv,rfl⟩:=List.mem_map.1 hr;exact⟨v,hv,rfl⟩,fun r _ s _ k=>Fl hd k,fun v hv=>⟨v.1,List.mem_map.2 ⟨v,hv,rfl⟩,.refl _⟩⟩
  have hlen:=hr.len hw RM
  have hf:cQ d=[]:=by unfold cQ;rw[he];rfl
  have ha:al d.1=d.1.length:=by
   unfold al
   rw[List.countP_eq_length]
   intro v hv
   rw[List.isEmpty_iff]
   cases hq:v.2.1 with
   |nil=>rfl
   |cons y r =>
    have:y∈an d.1:=aV.2 ⟨v,hv,by rw[hq];simp⟩
    rw[hd]at this;simp at this
  refine⟨0,?_⟩
  unfold ft
  rw[hf,ha,hlen,he]
  simp;omega
 |n+1,d,hw,hl,R,hr=>by
  obtain⟨e,r,he⟩:∃e r,d.2=e::r:=by
   cases hq:d.2 with
   |nil=>rw[hq]at hl;simp at hl
   |cons e r=>exact⟨e,r,rfl⟩
  have hc:bF d e.1:=⟨hw,by unfold aO;rw[he];simp⟩
  obtain⟨u,w,hu,X9,_,_⟩:=hc.IP
  have hv:(cT d e.1).1.length=d.1.length:=by
   have:=congrArg List.length hc.ids
   simpa using this
  have FO:(cT d e.1).2.length=n:=by
   have h1:=hc.w.pd.length_eq
   have h2:=hw.pd.length_eq
   have h3:=hc.p.length_eq
   have e2:∀l:List aq,(ends l).length=2*l.length:=fun l=>by
    induction l with
    |nil=>rfl
    |cons e r ih=>rw[jm];simp[ih];omega
   rw[e2]at h1 h2
   simp at h3;omega
  by_cases hf:Nl d (e.1,0) (e.1,1)
  ·have h1:=(hc.same hf).1
   by_cases k:cx (cT d e.1) u w
   ·obtain⟨g,hg⟩:=IQ n (cT d e.1) hc.w FO R (hc.PM hu X9 k hr)
    exact⟨g+1,by omega⟩
   ·obtain⟨R2,h2,h3⟩:=hc.Q7 hu X9 k hr
    obtain⟨g,hg⟩:=IQ n (cT d e.1) hc.w FO R2 h2
    exact⟨g,by omega⟩
  ·have h1:=hc.diff hf
   obtain⟨g,hg⟩:=IQ n (cT d e.1) hc.w FO R (hc.PM hu X9 (hc.KA hu X9 hf) hr)
   exact⟨g,by omega⟩
end Go.Vs
namespace Go.Vs
open Go.Proofs Go.Cy
def cr(d:ak)(i:Nat):ID:=((d.1[i]?).getD zV).1
theorem lS{d:ak}{i:Nat}{v:ah}(h:d.1[i]? = some v):cr d i=v.1:=by unfold cr;rw[h];rfl
theorem iJ{d:ak}(hs:bM d.1){i j:Nat}(hi:i<d.1.length)(hj:j<d.1.length)(h:cr d i=cr d j):i=j:=by
 have h1:=List.getElem?_eq_getElem hi
 have h2:=List.getElem?_eq_getElem hj
 rw[lS h1,lS h2]at h
 rw[jk hs h1 rfl,jk hs h2 rfl,h]
theorem Nn{x:ID}:∀{l:List ah} {i:Nat} {v:ah} (k:Int),l[i]? = some v→v.1=x→(∀j u,j<i→l[j]? = some u→u.1≠x)→Si x l k=k+i
 |w::r,0,v,k,h,hv,_=>by
  simp at h;subst h
  rw[Si,if_pos hv];simp
 |w::r,i+1,v,k,h,hv,hn=>by
  have h0:=hn 0 w (by omega) (by simp)
  rw[Si,if_neg h0,Nn (i:=i) (v:=v) (k+1) (by simpa using h) hv (fun j u hj hu=>hn (j+1) u (by omega) (by simpa using hu))]
  omega
theorem No{d:ak}(hs:bM d.1){i:Nat}(hi:i<d.1.length):Si (cr d i) d.1 0=(i:Int):=by
 have h:=List.getElem?_eq_getElem hi
 have:=Nn (x:=cr d i) (l:=d.1) (i:=i) (v:=d.1[i]) 0 h (lS h).symm (fun j u hj hu he=>by
  have h1:=iJ hs (show j<d.1.length by omega) hi ((lS hu).trans he)
  omega)
 omega
theorem Hs{d:ak}(hw:Wf d){z:ab}(hz:z∈an d.1):∃i,i<d.1.length∧fa d z=some (cr d i):=by
 obtain⟨v,hv,_,h⟩:=tW hw hz
 obtain⟨i,hi,he⟩:=List.getElem_of_mem hv
 refine⟨i,hi,?_⟩
 rw[h,lS (List.getElem?_eq_getElem hi),he]
structure C3(d:ak)(L:List Int):Prop where
 n:L.length=d.1.length
 i:∀i,i<d.1.length→∃j:Nat,j≤i∧L.getD i 0=(j:Int)∧cx d (cr d i) (cr d j)
def eF(d:ak)(L:List Int)(i:Nat):Prop:=∀j,j<d.1.length→cx d (cr d i) (cr d j)→L.getD i 0≤(j:Int)
structure Fm(d:ak)(L:List Int):Prop where
 l:C3 d L
 r:∀i,i<d.1.length→eF d L i
theorem Fp{L:List Int}{a i:Nat}(x:Int):(L.set a x).getD i 0=if a=i∧a<L.length then x else L.getD i 0:=by
 simp only[List.getD]
 rw[List.getElem?_set]
 by_cases h:a=i
 ·subst h
  by_cases k:a<L.length
  ·simp[k]
  ·simp[k]
 ·simp[h]
def AK(a b:Nat)(L:List Int):List Int:=(L.set a (min (L.getD a 0) (L.getD b 0))).set b (min (L.getD a 0) (L.getD b 0))
theorem Np{L:List Int}{a b:Nat}(ha:a<L.length)(hb:b<L.length)(i:Nat):(AK a b L).getD i 0=if i=a∨i=b then min (L.getD a 0) (L.getD b 0) else L.getD i 0:=by
 unfold AK
 rw[Fp,Fp,List.length_set]
 by_cases h1:b=i
 ·rw[if_pos ⟨h1,hb⟩,if_pos (.inr h1.symm)]
 ·rw[if_neg (fun k=>h1 k.1)]
  by_cases h2:a=i
  ·rw[if_pos ⟨h2,ha⟩,if_pos (.inl h2.symm)]
  ·rw[if_neg (fun k=>h2 k.1),if_neg (fun k=>k.elim (fun m=>h2 m.symm) (fun m=>h1 m.symm))]
theorem KB{d:ak}(hw:Wf d){L:List Int}(h:C3 d L){a b:Nat}(ha:a<d.1.length)(hb:b<d.1.length)(Ai:cx d (cr d a) (cr d b)):C3 d (AK a b L)∧(∀i,i<d.1.length→eF d L i→eF d (AK a b L) i)∧(eF d L a→eF d (AK a b L) b)∧(eF d L b→eF d (AK a b L) a):=by
 have N4:a<L.length:=by rw[h.n];exact ha
 have hlb:b<L.length:=by rw[h.n];exact hb
 have gl:=Np N4 hlb
 obtain⟨ja,a1,a2,a3⟩:=h.i a ha
 obtain⟨jb,b1,b2,b3⟩:=h.i b hb
 have hba:=Ai.symm hw
 refine⟨⟨by unfold AK;simp[h.n],fun i hi=>?_⟩,fun i hi hr j hj hc=>?_,fun hr j hj hc=>?_,fun hr j hj hc=>?_⟩
 ·rw[gl]
  by_cases Ht:i=a∨i=b
  ·rw[if_pos Ht]
   have conn:cx d (cr d i) (cr d a)∧cx d (cr d i) (cr d b):=by
    rcases Ht with rfl|rfl
    ·exact⟨.refl _,Ai⟩
    ·exact⟨hba,.refl _⟩
   by_cases hle:L.getD a 0≤L.getD b 0
   ·refine⟨ja,?_,by rw[←a2];omega,conn.1.trans a3⟩
    rcases Ht with rfl|rfl
    ·exact a1
    ·rw[a2,b2]at hle;omega
   ·refine⟨jb,?_,by rw[←b2];omega,conn.2.trans b3⟩
    rcases Ht with rfl|rfl
    ·rw[a2,b2]at hle;omega
    ·exact b1
  ·rw[if_neg Ht];exact h.i i hi
 ·rw[gl]
  split
  ·rename_i Ht
   have:=hr j hj hc
   rcases Ht with rfl|rfl<;>omega
  ·exact hr j hj hc
 ·rw[gl,if_pos (.inr rfl)]
  have:=hr j hj (Ai.trans hc)
  omega
 ·rw[gl,if_pos (.inl rfl)]
  have:=hr j hj (hba.trans hc)
  omega
theorem SA{d:ak}(hw:Wf d){e:aq}(he:e∈d.2)(L:List Int):∃a b,a<d.1.length∧b<d.1.length∧fa d (e.1,0)=some (cr d a)∧fa d (e.1,1)=some (cr d b)∧Kb d e L=AK a b L:=by
 have h0:(e.1,0)∈an d.1:=hw.pd.mem_iff.2 (dP.2 ⟨e,he,rfl,.inl rfl⟩)
 have h1:(e.1,1)∈an d.1:=hw.pd.mem_iff.2 (dP.2 ⟨e,he,rfl,.inr rfl⟩)
 obtain⟨a,ha,ea⟩:=Hs hw h0
 obtain⟨b,hb,eb⟩:=Hs hw h1
 refine⟨a,b,ha,hb,ea,eb,?_⟩
 unfold Kb AK
 rw[ea,eb]
 simp only[Option.getD_some,No hw.sv ha,No hw.sv hb,Int.toNat_natCast]
 rw[if_pos ⟨by omega,by omega⟩]
theorem sx{d:ak}(hw:Wf d):∀(l:List aq) {L:List Int},(∀e∈l,e∈d.2)→C3 d L→C3 d (oz d l L)∧(∀i,i<d.1.length→eF d L i→eF d (oz d l L) i) ∧
  (∀e∈l,∀a b,a<d.1.length→b<d.1.length→((fa d (e.1,0)=some (cr d a)∧fa d (e.1,1)=some (cr d b))∨(fa d (e.1,0)=some (cr d b)∧fa d (e.1,1)=some (cr d a)))→eF d L a→eF d (oz d l L) b)
 |[],L,_,h=>⟨h,fun i hi hr=>hr,fun e he=>by simp at he⟩
 |e::r,L,hl,h=>by
  have he:=hl e (List.mem_cons_self ..)
  obtain⟨a,b,ha,hb,ea,eb,el⟩:=SA hw he L
  have h0:(e.1,0)∈an d.1:=hw.pd.mem_iff.2 (dP.2 ⟨e,he,rfl,.inl rfl⟩)
  have Ai:cx d (cr d a) (cr d b):=Fk.conn ⟨(e.1,0),h0,ea,by rw[zM];exact eb⟩
  obtain⟨s1,s2,s3,s4⟩:=KB hw h ha hb Ai
  obtain⟨t1,t2,t3⟩:=sx hw r (L:=AK a b L) (fun e he=>hl e (List.mem_cons_of_mem _ he)) s1
  show C3 d (oz d r (Kb d e L))∧_∧_
  rw[el]
  refine⟨t1,fun i hi hr=>?_,fun f hf p q hp hq xU hr=>?_⟩
  ·show eF d (oz d r (Kb d e L)) i
   rw[el];exact t2 i hi (s2 i hi hr)
  ·show eF d (oz d r (Kb d e L)) q
   rw[el]
   rcases List.mem_cons.1 hf with rfl|hf
   ·refine t2 q hq ?_
    rcases xU with⟨k1,k2⟩|⟨k1,k2⟩
    ·rw[ea]at k1;rw[eb]at k2
     have:=iJ hw.sv ha hp (Option.some.inj k1);subst this
     have:=iJ hw.sv hb hq (Option.some.inj k2);subst this
     exact s3 hr
    ·rw[ea]at k1;rw[eb]at k2
     have:=iJ hw.sv ha hq (Option.some.inj k1);subst this
     have:=iJ hw.sv hb hp (Option.some.inj k2);subst this
     exact s4 hr
   ·exact t3 f hf p q hp hq xU (s2 p hp hr)
theorem Hu{d:ak}(i:Nat)(hi:i<d.1.length):∃m,m<d.1.length∧cx d (cr d i) (cr d m)∧∀j,j<d.1.length→cx d (cr d i) (cr d j)→m≤j:=by
 induction i using Nat.strongRecOn with
 |ind i ih =>
  by_cases h:∃j,j<i∧cx d (cr d i) (cr d j)∧cx d (cr d j) (cr d i)
  ·obtain⟨j,hj,hc,ud⟩:=h
   obtain⟨m,h1,h2,h3⟩:=ih j hj (by omega)
   exact⟨m,h1,hc.trans h2,fun k hk hck=>h3 k hk (ud.trans hck)⟩
  ·by_cases hs:∃j,j<i∧cx d (cr d i) (cr d j)
   ·obtain⟨j,hj,hc⟩:=hs
    have key:∀n,n≤i→(∃m,m<n∧cx d (cr d i) (cr d m))→∃m,m<d.1.length∧cx d (cr d i) (cr d m)∧∀j,j<d.1.length→cx d (cr d i) (cr d j)→m≤j:=by
     intro n
     induction n with
     |zero=>rintro _ ⟨m,hm,_⟩;omega
     |succ n ihn =>
      rintro hn ⟨m,hm,CO⟩
      by_cases hb:∃m,m<n∧cx d (cr d i) (cr d m)
      ·exact ihn (by omega) hb
      ·have:m=n:=Classical.byContradiction fun k=>hb ⟨m,by omega,CO⟩
       subst this
       refine⟨m,by omega,CO,fun j hj J4=>Classical.byContradiction fun k=>hb ⟨j,by omega,J4⟩⟩
    exact key i (Nat.le_refl _) ⟨j,hj,hc⟩
   ·refine⟨i,hi,.refl _,fun j hj hc=>Classical.byContradiction fun k=>hs ⟨j,by omega,hc⟩⟩
theorem KC{d:ak}(P:ID→Prop){x y:ID}(h:cx d x y)(hx:P x)(hy:¬P y):∃a b,Fk d a b∧P a∧¬P b:=by
 induction h with
 |refl=>exact absurd hx hy
 | @tail b c k j ih =>
  by_cases hb:P b
  ·exact⟨_,_,j,hb,hy⟩
  ·exact ih hb
open Classical in
theorem Fq{P Q:Nat→Prop}:∀{l:List Nat},(∀i∈l,P i→Q i)→(∃i∈l,Q i∧¬P i)→l.countP (fun i=>decide (P i))<l.countP (fun i=>decide (Q i))
 |[],_,h=>by obtain⟨i,hi,_⟩:=h;simp at hi
 |x::r,h,⟨i,hi,hq,hp⟩=>by
  have mono:r.countP (fun i=>decide (P i))≤r.countP (fun i=>decide (Q i)):=by
   have hr:∀i∈r,P i→Q i:=fun i hi=>h i (List.mem_cons_of_mem _ hi)
   clear h hi
   induction r with
   |nil=>simp
   |cons y r ih =>
    rw[List.countP_cons,List.countP_cons]
    have:=ih (fun i hi=>hr i (List.mem_cons_of_mem _ hi))
    have h2:=hr y (List.mem_cons_self ..)
    by_cases hy:P y
    ·simp[hy,h2 hy];exact this
    ·simp[hy];omega
  rw[List.countP_cons,List.countP_cons]
  rcases List.mem_cons.1 hi with rfl|hi
  ·simp[hq,hp];omega
  ·have:=Fq (l:=r) (fun i hi=>h i (List.mem_cons_of_mem _ hi)) ⟨i,hi,hq,hp⟩
   have hx:=h x (List.mem_cons_self ..)
   by_cases hpx:P x
   ·simp[hpx,hx hpx];exact this
   ·simp[hpx];omega
theorem Hv{d:ak}(hw:Wf d){L:List Int}(h:C3 d L)(hn:∃i,i<d.1.length∧¬eF d L i):∃i,i<d.1.length∧eF d (oz d d.2 L) i∧¬eF d L i:=by
 obtain⟨i,hi,hr⟩:=hn
 obtain⟨m,m1,m2,m3⟩:=Hu i hi
 have hm:eF d L m:=fun j hj hc=>by
  obtain⟨q,q1,q2,_⟩:=h.i m m1
  have:=m3 j hj (m2.trans hc)
  rw[q2];omega
 let P:ID→Prop:=fun x=>∃k,k<d.1.length∧cr d k=x∧eF d L k
 have hx:P (cr d m):=⟨m,m1,rfl,hm⟩
 have hy:¬P (cr d i):=fun⟨k,k1,k2,k3⟩=>by
  have:=iJ hw.sv k1 hi k2
  exact hr (this▸k3)
 obtain⟨a,b,⟨z,hz,za,zb⟩,⟨p,p1,p2,p3⟩,hb⟩:=KC P (m2.symm hw) hx hy
 obtain⟨q,q1,q2⟩:=Hs hw (hw.other hz)
 rw[zb]at q2
 have hbq:b=cr d q:=Option.some.inj q2
 obtain⟨e,he,e1,e2⟩:=dP.1 (hw.pd.mem_iff.1 hz)
 refine⟨q,q1,?_,fun k=>hb ⟨q,q1,hbq.symm,k⟩⟩
 refine(sx hw d.2 (fun _ h=>h) h).2.2 e he p q p1 q1 ?_ p3
 rw[p2,←hbq]
 obtain⟨z1,z2⟩:=z
 simp only at e1 e2
 subst e1
 rcases e2 with rfl|rfl
 ·exact .inl ⟨za,zb⟩
 ·exact .inr ⟨zb,za⟩
open Classical in
theorem zP{d:ak}(hw:Wf d):∀(n:Nat) {L:List Int},C3 d L→d.1.length≤n+(List.range d.1.length).countP (fun i=>decide (eF d L i))→Fm d (Py d n L)
 |0,L,h,hc=>by
  refine⟨h,fun i hi=>?_⟩
  have h1:(List.range d.1.length).countP (fun i=>decide (eF d L i))=(List.range d.1.length).length:=by
   have:=List.countP_le_length (p:=fun i=>decide (eF d L i)) (l:=List.range d.1.length)
   simp at this ⊢;omega
  have:=List.countP_eq_length.1 h1 i (List.mem_range.2 hi)
  exact of_decide_eq_true this
 |n+1,L,h,hc=>by
  obtain⟨s1,s2,_⟩:=sx hw d.2 (fun _ h=>h) h
  show Fm d (Py d n (oz d d.2 L))
  refine zP hw n s1 ?_
  by_cases hn:∃i,i<d.1.length∧¬eF d L i
  ·obtain⟨i,hi,h1,h2⟩:=Hv hw h hn
   have:=Fq (P:=eF d L) (Q:=eF d (oz d d.2 L)) (l:=List.range d.1.length) (fun i hi=>s2 i (List.mem_range.1 hi)) ⟨i,List.mem_range.2 hi,h1,h2⟩
   omega
  ·have:(List.range d.1.length).countP (fun i=>decide (eF d (oz d d.2 L) i))=(List.range d.1.length).length:=by
    rw[List.countP_eq_length]
    intro i hi
    have hi:=List.mem_range.1 hi
    exact decide_eq_true (s2 i hi (Classical.byContradiction fun k=>hn ⟨i,hi,k⟩))
   rw[this];simp
theorem SB(d:ak):C3 d (Pz d.1.length):=by
 refine⟨by unfold Pz;simp,fun i hi=>⟨i,Nat.le_refl _,?_,.refl _⟩⟩
 unfold Pz
 simp[List.getD,hi]
theorem ep{d:ak}(hw:Wf d):Fm d (labels d):=zP hw d.1.length (SB d) (by omega)
theorem Fm.uniq{d:ak}(hw:Wf d){L M:List Int}(h:Fm d L)(k:Fm d M):L=M:=by
 apply List.ext_getElem?
 intro i
 by_cases hi:i<d.1.length
 ·have e1:L[i]? = some (L.getD i 0):=by rw[List.getElem?_eq_getElem (by rw[h.l.n];exact hi)];simp[List.getD,h.l.n,hi]
  have e2:M[i]? = some (M.getD i 0):=by rw[List.getElem?_eq_getElem (by rw[k.l.n];exact hi)];simp[List.getD,k.l.n,hi]
  obtain⟨a,a1,a2,a3⟩:=h.l.i i hi
  obtain⟨b,b1,b2,b3⟩:=k.l.i i hi
  have h1:=h.r i hi b (by omega) b3
  have h2:=k.r i hi a (by omega) a3
  rw[e1,e2];congr 1;omega
 ·rw[List.getElem?_eq_none (by rw[h.l.n];omega),List.getElem?_eq_none (by rw[k.l.n];omega)]
def j4(d:ak)(L:List Int):List ID:=((List.range d.1.length).filter fun i=>decide (L.getD i 0=(i:Int))).map (cr d)
theorem lT{d:ak}(hw:Wf d){L:List Int}(h:Fm d L):tV d (j4 d L):=by
 have mem:∀{r:ID},r∈j4 d L↔∃i,i<d.1.length∧L.getD i 0=(i:Int)∧cr d i=r:=fun {r}=>by
  unfold j4
  rw[List.mem_map]
  constructor
  ·rintro⟨i,hi,rfl⟩
   rw[List.mem_filter,List.mem_range]at hi
   exact⟨i,hi.1,by simpa using hi.2,rfl⟩
  ·rintro⟨i,h1,h2,rfl⟩
   exact⟨i,by rw[List.mem_filter,List.mem_range];exact⟨h1,by simpa using h2⟩,rfl⟩
 refine⟨?_,fun r hr=>?_,fun r hr s hs hc=>?_,fun v hv=>?_⟩
 ·unfold j4 List.Nodup
  rw[List.pairwise_map]
  have hp:((List.range d.1.length).filter fun i=>decide (L.getD i 0=(i:Int))).Nodup:=List.nodup_range.filter _
  refine List.Pairwise.imp_of_mem (fun {a b} ha hb aU e=>aU ?_) hp
  exact iJ hw.sv (List.mem_range.1 (List.mem_filter.1 ha).1) (List.mem_range.1 (List.mem_filter.1 hb).1) e
 ·obtain⟨i,hi,_,rfl⟩:=mem.1 hr
  exact⟨d.1[i],List.getElem_mem hi,(lS (List.getElem?_eq_getElem hi)).symm⟩
 ·obtain⟨i,hi,h1,rfl⟩:=mem.1 hr
  obtain⟨j,hj,h2,rfl⟩:=mem.1 hs
  have k1:=h.r i hi j hj hc
  have k2:=h.r j hj i hi (hc.symm hw)
  have:i=j:=by omega
  rw[this]
 ·obtain⟨i,hi,he⟩:=List.getElem_of_mem hv
  have bw:cr d i=v.1:=by rw[lS (List.getElem?_eq_getElem hi),he]
  obtain⟨j,j1,j2,j3⟩:=h.l.i i hi
  refine⟨cr d j,mem.2 ⟨j,by omega,?_,rfl⟩,by rw[←bw];exact j3⟩
  obtain⟨k,k1,k2,k3⟩:=h.l.i j (by omega)
  have h1:=h.r i hi k (by omega) (j3.trans k3)
  rw[j2]at h1
  rw[k2]
  have:j=k:=by omega
  rw[this]
theorem vi:∀(l:List Int) (i:Nat) (n:Nat),n+l.length≤1000000→si l (i:Int) (n:Int)=((n+((List.range l.length).filter fun j=>decide (l.getD j 0=((i+j:Nat):Int))).length:Nat):Int)
 |[],i,n,_=>by simp[si]
 |x::r,i,n,h=>by
  simp at h
  have e:((List.range (x::r).length).filter fun j=>decide ((x::r).getD j 0=((i+j:Nat):Int))).length=(if x=(i:Int) then 1 else 0)+((List.range r.length).filter fun j=>decide (r.getD j 0=((i+1+j:Nat):Int))).length:=by
   rw[List.length_cons,List.range_succ_eq_map,List.filter_cons]
   have e2:((List.range r.length).map Nat.succ).filter (fun j=>decide ((x::r).getD j 0=((i+j:Nat):Int)))=((List.range r.length).filter fun j=>decide (r.getD j 0=((i+1+j:Nat):Int))).map Nat.succ:=by
    rw[List.filter_map]
    congr 1
    apply List.filter_congr
    intro j _
    simp only[Function.comp,Nat.succ_eq_add_one,List.getD_cons_succ]
    rw[show i+(j+1)=i+1+j by omega]
   rw[e2]
   simp only[List.getD_cons_zero,Nat.add_zero]
   by_cases hx:x=(i:Int)
   ·simp[hx];omega
   ·simp[hx]
  rw[e]
  unfold si
  have hi:((i:Int)+1)=((i+1:Nat):Int):=by omega
  rw[hi]
  by_cases hx:x=(i:Int)
  ·rw[if_pos hx,if_pos hx]
   have hw:IntKind.wrap .i64 ((n:Int)+1)=((n+1:Nat):Int):=by rw[wrap_small (by omega) (by omega)];omega
   rw[hw,vi r (i+1) (n+1) (by omega)]
   congr 1;omega
  ·rw[if_neg hx,if_neg hx,vi r (i+1) n (by omega)]
   congr 1;omega
theorem qJ{d:ak}(hw:Wf d):fS d=((j4 d (labels d)).length:Int):=by
 have h:=ep hw
 have hn:=hw.nv
 unfold fS
 have:=vi (labels d) 0 0 (by rw[h.l.n];omega)
 simp only[Nat.zero_add]at this
 have e:si (labels d) 0 0=si (labels d) ((0:Nat):Int) ((0:Nat):Int):=rfl
 rw[e,this]
 unfold j4
 rw[List.length_map,h.l.n]
theorem vj:∀(l:List ah) (n:Nat),n+l.length≤1000000→ze l (n:Int)=((n+al l:Nat):Int)
 |[],n,_=>by simp[ze,al]
 |v::r,n,h=>by
  simp at h
  unfold ze al
  rw[List.countP_cons]
  by_cases hv:v.2.1.length=0
  ·have:v.2.1.isEmpty=true:=by rw[List.isEmpty_iff];simpa using hv
   have hw:IntKind.wrap .i64 ((n:Int)+1)=((n+1:Nat):Int):=by rw[wrap_small (by omega) (by omega)];omega
   rw[if_pos hv,hw,vj r (n+1) (by omega),this]
   unfold al
   congr 1;simp;omega
  ·have:v.2.1.isEmpty=false:=by
    cases hq:v.2.1 with
    |nil=>rw[hq]at hv;exact absurd rfl hv
    |cons _ _=>rfl
   rw[if_neg hv,vj r n (by omega),this]
   unfold al
   simp
theorem tX{d:ak}(hw:Wf d):(cQ d).length≤80:=by
 have h:=bO hw
 have h1:=h.p.length_eq
 have h2:=hw.Fj
 have h3:(cQ d).length≤(cQ d).flatten.length:=by
  have hc:=h.c
  generalize cQ d=cs at hc
  induction cs with
  |nil=>simp
  |cons c r ih =>
   have:=ih (fun c TJ=>hc c (List.mem_cons_of_mem _ TJ))
   have h1:=(hc c (List.mem_cons_self ..)).ne
   have:0<c.length:=Nat.pos_of_ne_zero fun k=>h1 (List.length_eq_zero_iff.1 k)
   simp only[List.length_cons,List.flatten_cons,List.length_append];omega
 omega
theorem KD{d:ak}(hw:Wf d):G7 d=((ft d:Nat):Int):=by
 unfold G7 ft
 have:=hw.nv
 have:=tX hw
 exact vj d.1 (cQ d).length (by omega)
theorem Nq{d:ak}(hw:Wf d){R:List ID}(hr:tV d R):∃k:Nat,nV d=(k:Int)∧d.1.length+ft d+2*k=2*R.length+d.2.length:=by
 have hl:=(lT hw (ep hw)).len hw hr
 obtain⟨k,hk⟩:=IQ d.2.length d hw rfl R hr
 refine⟨k,?_,hk⟩
 have hn:=hw.nv;have he:=hw.ne
 have hf:=tX hw
 have ha:al d.1≤d.1.length:=List.countP_le_length
 have hR:R.length≤d.1.length:=by
  rw[←hl];unfold j4
  rw[List.length_map]
  exact Nat.le_trans (List.length_filter_le _ _) (by simp)
 have Uv:ft d=(cQ d).length+al d.1:=rfl
 unfold nV
 rw[qJ hw,KD hw,hl]
 rw[wrap_small (n:=2*((R.length:Nat):Int)) (by omega) (by omega)]
 rw[wrap_small (n:=2*((R.length:Nat):Int)-((d.1.length:Nat):Int)) (by omega) (by omega)]
 rw[wrap_small (n:=2*((R.length:Nat):Int)-((d.1.length:Nat):Int)+((d.2.length:Nat):Int)) (by omega) (by omega)]
 have e:2*((R.length:Nat):Int)-((d.1.length:Nat):Int)+((d.2.length:Nat):Int)-((ft d:Nat):Int)=2*(k:Int):=by omega
 rw[e,wrap_small (n:=2*(k:Int)) (by omega) (by omega)]
 have e2:Int.tdiv (2*(k:Int)) 2=(k:Int):=by
  rw[Int.tdiv_eq_ediv_of_nonneg (by omega)];omega
 rw[e2,wrap_small (by omega) (by omega)]
end Go.Vs
