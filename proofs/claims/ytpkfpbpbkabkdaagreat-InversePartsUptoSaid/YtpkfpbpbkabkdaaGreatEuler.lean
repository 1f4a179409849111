/- Faces, parts, and Euler's formula. -/
import Derived.Test.YtpkfpbpbkabkdaaGreatSplits
set_option linter.unusedVariables false
namespace Go.Cy
variable {α:Type}
def Path(f:α→α):List α→α→Prop
 |[],_=>True
 |x::r,z=>f x=r.head?.getD z∧Path f r z
theorem Path.app{f:α→α}:∀{a b:List α} {z:α},Path f (a++b) z↔Path f a (b.head?.getD z)∧Path f b z
 |[],b,z=>by simp[Path]
 |x::r,b,z=>by
  have ih:=Path.app (f:=f) (a:=r) (b:=b) (z:=z)
  simp only[List.cons_append,Path]
  rw[ih]
  have:(r++b).head?.getD z=r.head?.getD (b.head?.getD z):=by cases r<;>simp
  rw[this,and_assoc]
theorem Path.congr{f g:α→α}:∀{a:List α} {z:α},(∀x∈a,g x=f x)→Path f a z→Path g a z
 |[],_,_,_=>trivial
 |x::r,z,h,p=>⟨(h x (List.mem_cons_self ..)).trans p.1,Path.congr (fun y hy=>h y (List.mem_cons_of_mem _ hy)) p.2⟩
def kM(f:α→α):List α→Prop
 |[]=>False
 |x::r=>Path f (x::r) x
theorem kM.two{f:α→α}{x y:α}{a b:List α}:kM f ((x::a)++(y::b))↔Path f (x::a) y∧Path f (y::b) x:=by
 show Path f ((x::a)++(y::b)) x↔_
 rw[Path.app];rfl
theorem kM.CT{f:α→α}:∀{a b:List α},kM f (a++b)→kM f (b++a)
 |[],b,h=>by simpa using h
 |x::a,[],h=>by simpa using h
 |x::a,y::b,h=>kM.two.2 ⟨(kM.two.1 h).2,(kM.two.1 h).1⟩
theorem kM.ne{f:α→α}{c:List α}(h:kM f c):c≠[]:=by rintro rfl;exact h
theorem kM.congr{f g:α→α}{c:List α}(h:∀x∈c,g x=f x)(k:kM f c):kM g c:=by
 cases c with
 |nil=>exact k
 |cons x r=>exact Path.congr h k
theorem Path.step{f:α→α}:∀{a:List α} {z x:α},Path f a z→x∈a→f x∈a∨f x=z
 |y::r,z,x,p,hx=>by
  rcases List.mem_cons.1 hx with rfl|hx
  ·cases r with
   |nil=>exact .inr p.1
   |cons u r=>exact .inl (by have:=p.1;simp at this;rw[this];simp)
  ·rcases Path.step p.2 hx with h|h
   ·exact .inl (List.mem_cons_of_mem _ h)
   ·exact .inr h
theorem kM.step{f:α→α}{c:List α}(h:kM f c){x:α}(hx:x∈c):f x∈c:=by
 cases c with
 |nil=>exact h.elim
 |cons y r =>
  rcases Path.step (show Path f (y::r) y from h) hx with k|k
  ·exact k
  ·rw[k];simp
def it(f:α→α):Nat→α→α
 |0,x=>x
 |n+1,x=>it f n (f x)
theorem kM.it{f:α→α}{c:List α}(h:kM f c):∀(n:Nat) {x:α},x∈c→it f n x∈c
 |0,_,hx=>hx
 |n+1,_,hx=>kM.it h n (h.step hx)
theorem Path.reach{f:α→α}:∀{r:List α} {x z:α},Path f (x::r) z→∀y∈x::r,∃n,it f n x=y
 |[],x,z,_,y,hy=>by simp at hy;exact⟨0,hy.symm⟩
 |u::r,x,z,p,y,hy=>by
  rcases List.mem_cons.1 hy with rfl|hy
  ·exact⟨0,rfl⟩
  ·have h1:f x=u:=p.1
   obtain⟨n,hn⟩:=Path.reach p.2 y hy
   exact⟨n+1,by show it f n (f x)=y;rw[h1];exact hn⟩
theorem kM.head{f:α→α}{c:List α}(h:kM f c){x:α}(hx:x∈c):∃r,kM f (x::r)∧(x::r).Perm c:=by
 obtain⟨a,b,rfl⟩:=List.append_of_mem hx
 exact⟨b++a,kM.CT h,List.perm_append_comm (l₁:=x::b) (l₂:=a)⟩
theorem kM.reach{f:α→α}{c:List α}(h:kM f c){x y:α}(hx:x∈c)(hy:y∈c):∃n,Cy.it f n x=y:=by
 obtain⟨r,h1,h2⟩:=h.head hx
 exact Path.reach (show Path f (x::r) x from h1) y (h2.mem_iff.2 hy)
theorem kM.same{f:α→α}{c c':List α}(h:kM f c)(h':kM f c'){x:α}(hx:x∈c)(Zv:x∈c'){y:α}(hy:y∈c):y∈c':=by
 obtain⟨n,hn⟩:=h.reach hx hy
 rw[←hn];exact h'.it n Zv
structure Gl(f:α→α)(D:List α)(cs:List (List α)):Prop where
 c:∀c∈cs,kM f c
 p:cs.flatten.Perm D
theorem gF(p q:List (List α))(c:List α):(p++c::q).flatten.Perm (c++(p++q).flatten):=by
 simp only[List.flatten_append,List.flatten_cons]
 rw[←List.append_assoc,←List.append_assoc]
 exact List.Perm.append_right _ List.perm_append_comm
theorem Gl.count{f:α→α}:∀{cs cs':List (List α)} {D:List α},D.Nodup→Gl f D cs→Gl f D cs'→cs.length=cs'.length
 |[],cs',D,hn,h,h'=>by
  have hD:D=[]:=by have:=h.p;simp at this;exact this.symm▸rfl
  subst hD
  cases cs' with
  |nil=>rfl
  |cons c r =>
   have:=h'.p.length_eq
   have h1:=(h'.c c (by simp)).ne
   cases c with
   |nil=>exact absurd rfl h1
   |cons x c=>simp at this
 |c::r,cs',D,hn,h,h'=>by
  have hc:=h.c c (by simp)
  obtain⟨x,c0,rfl⟩:∃x c0,c=x::c0:=by
   cases c with
   |nil=>exact hc.elim
   |cons x c0=>exact⟨x,c0,rfl⟩
  have hx:x∈cs'.flatten:=h'.p.mem_iff.2 (h.p.mem_iff.1 (by simp))
  obtain⟨c',Y9,ace⟩:=List.mem_flatten.1 hx
  obtain⟨p,q,rfl⟩:=List.append_of_mem Y9
  have acf:=h'.c c' (by simp)
  have n1:(x::c0).Nodup:=by
   have:=h.p.nodup_iff.2 hn
   rw[List.flatten_cons]at this
   exact(List.nodup_append.1 this).1
  have n2:c'.Nodup:=by
   have:=(gF p q c').nodup_iff.1 (h'.p.nodup_iff.2 hn)
   exact(List.nodup_append.1 this).1
  have pc:(x::c0).Perm c':=(List.perm_ext_iff_of_nodup n1 n2).2 fun y=>⟨fun hy=>hc.same acf (by simp) ace hy,fun hy=>acf.same hc ace (by simp) hy⟩
  have pd:((x::c0)++r.flatten).Perm ((x::c0)++(p++q).flatten):=by
   have e1:((x::c0)++r.flatten).Perm D:=by have:=h.p;rwa [List.flatten_cons]at this
   have e2:(c'++(p++q).flatten).Perm D:=(gF p q c').symm.trans h'.p
   exact e1.trans (e2.symm.trans (List.Perm.append_right _ pc.symm))
  have pr:=(List.perm_append_left_iff _).1 pd
  have Ua:r.flatten.Nodup:=by
   have:=h.p.nodup_iff.2 hn
   rw[List.flatten_cons]at this
   exact(List.nodup_append.1 this).2.1
  have ih:=Gl.count (cs:=r) (cs':=p++q) (D:=r.flatten) Ua ⟨fun c hc=>h.c c (by simp[hc]),List.Perm.refl _⟩ ⟨fun c hc=>h'.c c (by
   rcases List.mem_append.1 hc with k|k<;>simp[k]),pr.symm⟩
  simp at ih ⊢;omega
theorem Path.kJ{f g:α→α}:∀{a:List α} {z z':α},Path f a z→z∉a.tail→(∀u∈a,f u≠z→g u=f u)→(∀u∈a,f u=z→g u=z')→Path g a z'
 |[],_,_,_,_,_,_=>trivial
 |[x],z,z',p,hz,h1,h2=>⟨h2 x (by simp) p.1,trivial⟩
 |x::y::r,z,z',p,hz,h1,h2=>by
  have e:f x=y:=p.1
  have br:y≠z:=fun k=>hz (by simp[k])
  refine⟨(h1 x (by simp) (by rw[e];exact br)).trans e,?_⟩
  exact Path.kJ p.2 (fun k=>hz (List.mem_cons_of_mem _ k)) (fun u hu=>h1 u (List.mem_cons_of_mem _ hu)) (fun u hu=>h2 u (List.mem_cons_of_mem _ hu))
def nz:List α→Nat
 |[]=>0
 |_::_=>1
def kK(l:List α):List (List α):=match l with | []=>[]|x::r=>[x::r]
theorem uk(l:List α):(kK l).flatten=l:=by cases l<;>simp[kK]
theorem Et(l:List α):(kK l).length=nz l:=by cases l<;>rfl
theorem mq{l:List α}{z:α}(h:z∈l.tail):z∈l:=List.mem_of_mem_tail h
section
variable [DecidableEq α]
def vR(f':α→α)(x y:α)(z:α):α :=
 if f' z=x then(if f' y=y then f' x else f' y) else if f' z=y then(if f' x=x then f' y else f' x) else f' z
theorem Gl.Sh{f' f:α→α}{x y:α}{D:List α}{cs':List (List α)}{c:List α}(T7:x≠y)(hn:(x::y::D).Nodup)(h:Gl f' (x::y::D) cs')(hf:∀z∈D,f z=vR f' x y z)(hc:c∈cs')(hx:x∈c)(hy:y∈c) :
  ∃cs,Gl f D cs∧cs.length+1=cs'.length+(if f' x=y then 0 else 1)+(if f' y=x then 0 else 1):=by
 obtain⟨p,q,rfl⟩:=List.append_of_mem hc
 have Y7:=h.c c hc
 obtain⟨r,h1,h2⟩:=Y7.head hx
 have hyr:y∈r:=by
  rcases List.mem_cons.1 (h2.mem_iff.2 hy) with k|k
  ·exact absurd k.symm T7
  ·exact k
 obtain⟨B,A,rfl⟩:=List.append_of_mem hyr
 have h3:kM f' ((x::B)++(y::A)):=h1
 obtain⟨⟨fx,pB⟩,⟨fy,pA⟩⟩:=kM.two.1 h3
 have pd:(x::y::(B++A++(p++q).flatten)).Perm (x::y::D):=by
  refine List.Perm.trans ?_ h.p
  refine List.Perm.trans ?_ (gF p q c).symm
  refine List.Perm.trans ?_ (List.Perm.append_right _ h2)
  show(x::y::(B++A++(p++q).flatten)).Perm (x::((B++y::A)++(p++q).flatten))
  refine List.Perm.cons x ?_
  rw[List.append_assoc B (y::A),List.cons_append,List.append_assoc]
  exact List.perm_middle.symm
 have pD:=(pd.cons_inv).cons_inv
 have nd:=pd.nodup_iff.2 hn
 have nx:x∉B++A++(p++q).flatten:=fun k=>(List.nodup_cons.1 nd).1 (List.mem_cons_of_mem _ k)
 have ny:y∉B++A++(p++q).flatten:=(List.nodup_cons.1 (List.nodup_cons.1 nd).2).1
 have xB:x∉B:=fun k=>nx (by simp[k])
 have xA:x∉A:=fun k=>nx (by simp[k])
 have yB:y∉B:=fun k=>ny (by simp[k])
 have yA:y∉A:=fun k=>ny (by simp[k])
 have Si:∀z∈B++A++(p++q).flatten,z∈D:=fun z hz=>pD.mem_iff.1 hz
 have cB:∀c∈kK B,kM f c:=fun c hc=>by
  cases B with
  |nil=>simp[kK]at hc
  |cons b B =>
   have hc:c=b::B:=by simpa[kK] using hc
   subst hc
   have fx:f' x=b:=fx
   have bx:b≠x:=fun k=>xB (by simp[k])
   refine Path.kJ pB (fun k=>yB (mq k)) (fun u hu br=>?_) (fun u hu heq=>?_)
   ·rw[hf u (Si u (by simp at hu ⊢;rcases hu with k|k<;>simp[k]))]
    unfold vR
    have:f' u≠x:=fun k=>by
     rcases pB.step hu with m|m
     ·exact xB (k▸m)
     ·exact br m
    rw[if_neg this,if_neg br]
   ·rw[hf u (Si u (by simp at hu ⊢;rcases hu with k|k<;>simp[k]))]
    unfold vR
    rw[if_neg (by rw[heq];exact fun k=>T7 k.symm),if_pos heq,if_neg (by rw[fx];exact bx),fx]
 have cA:∀c∈kK A,kM f c:=fun c hc=>by
  cases A with
  |nil=>simp[kK]at hc
  |cons a A =>
   have hc:c=a::A:=by simpa[kK] using hc
   subst hc
   have fy:f' y=a:=fy
   have ay:a≠y:=fun k=>yA (by simp[k])
   refine Path.kJ pA (fun k=>xA (mq k)) (fun u hu br=>?_) (fun u hu heq=>?_)
   ·rw[hf u (Si u (by simp at hu ⊢;rcases hu with k|k<;>simp[k]))]
    unfold vR
    have:f' u≠y:=fun k=>by
     rcases pA.step hu with m|m
     ·exact yA (k▸m)
     ·exact br m
    rw[if_neg br,if_neg this]
   ·rw[hf u (Si u (by simp at hu ⊢;rcases hu with k|k<;>simp[k]))]
    unfold vR
    rw[if_pos heq,if_neg (by rw[fy];exact ay),fy]
 have cR:∀c∈p++q,kM f c:=fun c hc=>by
  have Y9:c∈p++((x::B)++(y::A))::q:=by
   rcases List.mem_append.1 hc with k|k<;>simp[k]
  have Cl:kM f' c:=h.c c (by rcases List.mem_append.1 hc with k|k<;>simp[k])
  refine Cl.congr fun z hz=>?_
  have hzf:∀u∈c,u∈(p++q).flatten:=fun u hu=>List.mem_flatten.2 ⟨c,hc,hu⟩
  have hm:=hzf _ (Cl.step hz)
  rw[hf z (Si z (List.mem_append_right _ (hzf z hz)))]
  unfold vR
  rw[if_neg (fun k=>nx (List.mem_append_right _ (by rw[←k];exact hm))),if_neg (fun k=>ny (List.mem_append_right _ (by rw[←k];exact hm)))]
 refine⟨kK B++(kK A++(p++q)),⟨fun c hc=>?_,?_⟩,?_⟩
 ·rcases List.mem_append.1 hc with k|k
  ·exact cB c k
  rcases List.mem_append.1 k with k|k
  ·exact cA c k
  ·exact cR c k
 ·rw[List.flatten_append,List.flatten_append,uk,uk,←List.append_assoc]
  exact pD
 ·have eB:(if f' x=y then 0 else 1)=nz B:=by
   cases B with
   |nil=>exact if_pos fx
   |cons b B=>exact if_neg (fun k=>yB (by rw[←k,show f' x=b from fx];simp))
  have eA:(if f' y=x then 0 else 1)=nz A:=by
   cases A with
   |nil=>exact if_pos fy
   |cons a A=>exact if_neg (fun k=>xA (by rw[←k,show f' y=a from fy];simp))
  rw[eB,eA]
  simp only[List.length_append,Et,List.length_cons]
  omega
theorem Gl.Sj{f' f:α→α}{x y:α}{D:List α}{cs':List (List α)}{c:List α}(T7:x≠y)(hn:(x::y::D).Nodup)(h:Gl f' (x::y::D) cs')(hf:∀z∈D,f z=vR f' x y z)(hc:c∈cs')(hx:x∈c)(hy:y∉c) :
  ∃cs,Gl f D cs∧cs.length+2=cs'.length+(if f' x=x∧f' y=y then 0 else 1):=by
 obtain⟨p,q,rfl⟩:=List.append_of_mem hc
 have Y7:=h.c c hc
 obtain⟨B,h1,h2⟩:=Y7.head hx
 have hyc:y∈(p++q).flatten:=by
  have:y∈(p++c::q).flatten:=h.p.mem_iff.2 (by simp)
  rcases List.mem_append.1 ((gF p q c).mem_iff.1 this) with k|k
  ·exact absurd k hy
  ·exact k
 obtain⟨c2,ux,ahy⟩:=List.mem_flatten.1 hyc
 have ahz:c2∈p++c::q:=by rcases List.mem_append.1 ux with k|k<;>simp[k]
 obtain⟨A,h3,h4⟩:=(h.c c2 ahz).head ahy
 obtain⟨p2,q2,AI⟩:=List.append_of_mem ux
 obtain⟨fx,pB⟩:=(show Path f' (x::B) x from h1)
 obtain⟨fy,pA⟩:=(show Path f' (y::A) y from h3)
 have pd:(x::y::(B++A++(p2++q2).flatten)).Perm (x::y::D):=by
  refine List.Perm.trans ?_ h.p
  refine List.Perm.trans ?_ (gF p q c).symm
  rw[AI]
  refine List.Perm.trans ?_ (List.Perm.append_right _ h2)
  refine List.Perm.trans ?_ (List.Perm.append_left _ (gF p2 q2 c2).symm)
  refine List.Perm.trans ?_ (List.Perm.append_left _ (List.Perm.append_right _ h4))
  show(x::y::(B++A++(p2++q2).flatten)).Perm (x::(B++(y::(A++(p2++q2).flatten))))
  refine List.Perm.cons x ?_
  rw[List.append_assoc]
  exact List.perm_middle.symm
 have pD:=(pd.cons_inv).cons_inv
 have nd:=pd.nodup_iff.2 hn
 have nx:x∉B++A++(p2++q2).flatten:=fun k=>(List.nodup_cons.1 nd).1 (List.mem_cons_of_mem _ k)
 have ny:y∉B++A++(p2++q2).flatten:=(List.nodup_cons.1 (List.nodup_cons.1 nd).2).1
 have xB:x∉B:=fun k=>nx (by simp[k])
 have xA:x∉A:=fun k=>nx (by simp[k])
 have yB:y∉B:=fun k=>ny (by simp[k])
 have yA:y∉A:=fun k=>ny (by simp[k])
 have Si:∀z∈B++A++(p2++q2).flatten,z∈D:=fun z hz=>pD.mem_iff.1 hz
 have nB:∀u∈B,f' u≠x→f u=f' u:=fun u hu br=>by
  rw[hf u (Si u (by simp[hu]))]
  unfold vR
  have:f' u≠y:=fun k=>by
   rcases pB.step hu with m|m
   ·exact yB (k▸m)
   ·exact br m
  rw[if_neg br,if_neg this]
 have nA:∀u∈A,f' u≠y→f u=f' u:=fun u hu br=>by
  rw[hf u (Si u (by simp[hu]))]
  unfold vR
  have:f' u≠x:=fun k=>by
   rcases pA.step hu with m|m
   ·exact xA (k▸m)
   ·exact br m
  rw[if_neg this,if_neg br]
 have eB:∀u∈B,f' u=x→f u=if f' y=y then f' x else f' y:=fun u hu heq=>by
  rw[hf u (Si u (by simp[hu]))]
  unfold vR
  rw[if_pos heq]
 have eA:∀u∈A,f' u=y→f u=if f' x=x then f' y else f' x:=fun u hu heq=>by
  rw[hf u (Si u (by simp[hu]))]
  unfold vR
  rw[if_neg (by rw[heq];exact fun k=>T7 k.symm),if_pos heq]
 have cBA:∀c∈kK (B++A),kM f c:=fun c hc=>by
  cases B with
  |nil =>
   cases A with
   |nil=>simp[kK]at hc
   |cons a A =>
    have hc:c=a::A:=by simpa[kK] using hc
    subst hc
    refine Path.kJ pA (fun k=>yA (mq k)) nA (fun u hu heq=>?_)
    rw[eA u hu heq,if_pos (show f' x=x from fx)];exact fy
  |cons b B =>
   have fxb:f' x=b:=fx
   have bx:b≠x:=fun k=>xB (by simp[k])
   cases A with
   |nil =>
    have hc:c=b::B:=by simpa[kK] using hc
    subst hc
    refine Path.kJ pB (fun k=>xB (mq k)) nB (fun u hu heq=>?_)
    rw[eB u hu heq,if_pos (show f' y=y from fy)];exact fxb
   |cons a A =>
    have hc:c=(b::B)++(a::A):=by simpa[kK] using hc
    subst hc
    have fya:f' y=a:=fy
    have ay:a≠y:=fun k=>yA (by simp[k])
    refine kM.two.2 ⟨Path.kJ pB (fun k=>xB (mq k)) nB (fun u hu heq=>?_),Path.kJ pA (fun k=>yA (mq k)) nA (fun u hu heq=>?_)⟩
    ·rw[eB u hu heq,if_neg (by rw[fya];exact ay)];exact fya
    ·rw[eA u hu heq,if_neg (by rw[fxb];exact bx)];exact fxb
 have cR:∀c∈p2++q2,kM f c:=fun c hc=>by
  have FA:c∈p++q:=by rw[AI];rcases List.mem_append.1 hc with k|k<;>simp[k]
  have Cl:kM f' c:=h.c c (by rcases List.mem_append.1 FA with k|k<;>simp[k])
  refine Cl.congr fun z hz=>?_
  have hzf:∀u∈c,u∈(p2++q2).flatten:=fun u hu=>List.mem_flatten.2 ⟨c,hc,hu⟩
  have hm:=hzf _ (Cl.step hz)
  rw[hf z (Si z (List.mem_append_right _ (hzf z hz)))]
  unfold vR
  rw[if_neg (fun k=>nx (List.mem_append_right _ (by rw[←k];exact hm))),if_neg (fun k=>ny (List.mem_append_right _ (by rw[←k];exact hm)))]
 refine⟨kK (B++A)++(p2++q2),⟨fun c hc=>?_,?_⟩,?_⟩
 ·rcases List.mem_append.1 hc with k|k
  ·exact cBA c k
  ·exact cR c k
 ·rw[List.flatten_append,uk]
  exact pD
 ·have eBA:(if f' x=x∧f' y=y then 0 else 1)=nz (B++A):=by
   cases B with
   |nil =>
    cases A with
    |nil=>exact if_pos ⟨fx,fy⟩
    |cons a A=>exact if_neg (fun k=>yA (by rw[←k.2,show f' y=a from fy];simp))
   |cons b B=>exact if_neg (fun k=>xB (by rw[←k.1,show f' x=b from fx];simp))
  rw[eBA]
  have hl:(p++q).length=(p2++c2::q2).length:=by rw[AI]
  simp only[List.length_append,Et,List.length_cons]at hl ⊢
  omega
end
end Go.Cy
set_option linter.unusedSimpArgs false
namespace Go.Vs
open Go.Proofs Go.Cy
def skip(x:ae)(s:ae→ae)(z:ae):ae:=if s z=x then s x else s z
def iW(row:List ae)(x:ae):ae:=(cz row x 1).getD zD
theorem vS{row:List ae}(hn:row.Nodup){i:Nat}{x:ae}(hx:row[i]? = some x):iW row x=(row[(i+1)%row.length]?).getD zD:=by
 unfold iW cz
 rw[if_pos (List.mem_of_getElem? hx),UY hn hx,Int.toNat_natCast]
theorem Eu{row:List ae}(hn:row.Nodup):∀(r p:List ae),row=p++r→Path (iW row) r (row.head?.getD zD)
 |[],_,_=>trivial
 |x::r,p,h=>by
  refine⟨?_,Eu hn r (p++[x]) (by rw[h];simp)⟩
  have hx:row[p.length]? = some x:=by rw[h];simp
  rw[vS hn hx]
  cases r with
  |nil =>
   have hl:row.length=p.length+1:=by rw[h];simp
   rw[hl,Nat.mod_self]
   show(row[0]?).getD zD=row.head?.getD zD
   rw[List.head?_eq_getElem?]
  |cons y r =>
   have hl:p.length+1<row.length:=by rw[h];simp
   rw[Nat.mod_eq_of_lt hl]
   have:row[p.length+1]? = some y:=by rw[h];simp
   rw[this];rfl
theorem Cm{row:List ae}(hn:row.Nodup)(h0:row≠[]):kM (iW row) row:=by
 have:=Eu hn row [] rfl
 cases row with
 |nil=>exact absurd rfl h0
 |cons x r=>exact this
theorem Cn{f g:ae→ae}:∀{a:List ae} {z:ae},Path f a z→Path g a z→∀x∈a,f x=g x
 |y::r,z,p,q,x,hx=>by
  rcases List.mem_cons.1 hx with rfl|hx
  ·exact p.1.trans q.1.symm
  ·exact Cn p.2 q.2 x hx
theorem Oc{f g:ae→ae}{c:List ae}(h:kM f c)(k:kM g c):∀x∈c,f x=g x:=by
 cases c with
 |nil=>exact h.elim
 |cons y r=>exact Cn h k
theorem Sk{f:ae→ae}{row:List ae}{j:Nat}(h:kM f (CT row j)):kM f row:=by
 unfold CT at h
 have:=kM.CT h
 rwa [List.take_append_drop]at this
theorem oM{row:List ae}(hn:row.Nodup){x:ae}(hx:x∈row):iW row x∈row:=(Cm hn (List.ne_nil_of_mem hx)).step hx
theorem Ev{f:ae→ae}:∀{a:List ae} {z:ae},Path f a z→a≠[]→∃l,l∈a∧f l=z
 |[x],z,p,_=>⟨x,by simp,p.1⟩
 |x::y::r,z,p,_=>by
  obtain⟨l,h1,h2⟩:=Ev p.2 (by simp)
  exact⟨l,List.mem_cons_of_mem _ h1,h2⟩
theorem Od{row:List ae}(hn:row.Nodup){x y:ae}(hx:x∈row)(hy:y∈row)(h:iW row x=iW row y):x=y:=by
 obtain⟨i,hi⟩:=List.getElem?_of_mem hx
 obtain⟨j,hj⟩:=List.getElem?_of_mem hy
 have nE:=(List.getElem?_eq_some_iff.1 hi).1
 have Jj:=(List.getElem?_eq_some_iff.1 hj).1
 have hp:0<row.length:=by omega
 rw[vS hn hi,vS hn hj,List.getElem?_eq_getElem (Nat.mod_lt _ hp),List.getElem?_eq_getElem (Nat.mod_lt _ hp)]at h
 have h2:(i+1)%row.length=(j+1)%row.length:=Ep hn (by simpa using h)
 have h3:i=j:=by
  by_cases a:i+1<row.length<;>by_cases b:j+1<row.length
  ·rw[Nat.mod_eq_of_lt a,Nat.mod_eq_of_lt b]at h2;omega
  ·have:j+1=row.length:=by omega
   rw[Nat.mod_eq_of_lt a,this,Nat.mod_self]at h2;omega
  ·have:i+1=row.length:=by omega
   rw[Nat.mod_eq_of_lt b,this,Nat.mod_self]at h2;omega
  ·omega
 subst h3
 rw[hi]at hj;exact Option.some.inj hj
theorem Oe{row:List ae}(hn:row.Nodup){x z:ae}(hx:x∈row)(hz:z∈row)(hzx:z≠x):iW (cC row x) z=skip x (iW row) z:=by
 obtain⟨A,B,rfl⟩:=List.append_of_mem hx
 obtain⟨k,hk⟩:=List.getElem?_of_mem hx
 have he:(A++x::B).filter (fun e=>decide (e≠x))=A++B:=by
  have hx2:(A++x::B)[A.length]? = some x:=by simp
  rw[xw hn hx2];simp
 have DS:(x::(B++A)).Nodup:=by
  have p:(A++x::B).Perm (x::(B++A)):=List.perm_middle.trans (List.Perm.cons x List.perm_append_comm)
  exact p.nodup_iff.1 hn
 have CR:z∈B++A:=by
  rcases List.mem_append.1 hz with k|k
  ·exact List.mem_append_right _ k
  ·rcases List.mem_cons.1 k with k|k
   ·exact absurd k hzx
   ·exact List.mem_append_left _ k
 have c1:kM (iW (A++x::B)) (x::(B++A)):=by
  have:=(Cm hn (List.ne_nil_of_mem hx)).CT
  simpa using this
 obtain⟨fx,pL⟩:=(show Path (iW (A++x::B)) (x::(B++A)) x from c1)
 have c2:kM (skip x (iW (A++x::B))) (B++A):=by
  generalize hL:B++A=L at *
  cases L with
  |nil=>simp at CR
  |cons l L =>
   have fx:iW (A++x::B) x=l:=fx
   have xe:x∉l::L:=(List.nodup_cons.1 DS).1
   refine Path.kJ pL (fun k=>xe (mq k)) (fun u hu br=>?_) (fun u hu heq=>?_)
   ·unfold skip;rw[if_neg br]
   ·unfold skip;rw[if_pos heq,fx]
 have hr:cC (A++x::B) x=cw (A++B):=by unfold cC;rw[he]
 obtain⟨j,hj,hjr⟩:=Iz (A++B)
 have nAB:(A++B).Nodup:=(List.perm_append_comm (l₁:=B) (l₂:=A)).nodup_iff.1 (List.nodup_cons.1 DS).2
 have ahC:(cC (A++x::B) x).Nodup:=by rw[hr];exact(jY _).nodup_iff.2 nAB
 have hzm:z∈cC (A++x::B) x:=by
  rw[hr,Ib]
  rcases List.mem_append.1 CR with k|k
  ·exact List.mem_append_right _ k
  ·exact List.mem_append_left _ k
 have c3:kM (iW (cC (A++x::B) x)) (A++B):=by
  have:=Cm ahC (List.ne_nil_of_mem hzm)
  generalize iW (cC (A++x::B) x)=g at *
  rw[hr,hjr]at this
  exact Sk this
 exact Oc (kM.CT c3) c2 z CR
def sg(d:aj)(x:ae):ae:=(oE d x).getD zD
def ph(d:aj)(x:ae):ae:=(Ie d x).getD zD
theorem Co{d:aj}(h:Rw d.1){v:ah}{x:ae}(hv:v∈d.1)(hx:x∈v.2.1):oE d x=cz v.2.1 x 1:=by
 unfold oE bM
 rw[iG h hv hx]
 show cz (aS d v.1) x 1=_
 rw[iS h.s hv]
theorem oO{d:aj}(h:Rw d.1){v:ah}{x:ae}(hv:v∈d.1)(hx:x∈v.2.1):sg d x=iW v.2.1 x:=by
 unfold sg iW;rw[Co h hv hx]
theorem KF{d:aj}(h:Rw d.1){x:ae}(hx:x∈au d.1):oE d x=some (sg d x):=by
 obtain⟨v,hv,jI⟩:=bh.1 hx
 have:oE d x=some (iW v.2.1 x):=by
  rw[Co h hv jI]
  unfold iW cz
  rw[if_pos jI]
  have hp:0<v.2.1.length:=List.length_pos_of_mem jI
  rw[List.getElem?_eq_getElem (Nat.mod_lt _ hp)];rfl
 rw[oO h hv jI,this]
theorem U4{d:aj}(h:Rw d.1){x:ae}(hx:x∈au d.1):sg d x∈au d.1:=by
 obtain⟨v,hv,jI⟩:=bh.1 hx
 rw[oO h hv jI]
 exact bh.2 ⟨v,hv,oM (h.ring hv) jI⟩
theorem Sn{d:aj}(h:Rw d.1){x y:ae}(hx:x∈au d.1)(hy:y∈au d.1)(he:sg d x=sg d y):x=y:=by
 obtain⟨v,hv,jI⟩:=bh.1 hx
 obtain⟨w,hw,hyw⟩:=bh.1 hy
 rw[oO h hv jI,oO h hw hyw]at he
 have h1:=oM (h.ring hv) jI
 have h2:=oM (h.ring hw) hyw
 rw[←he]at h2
 have hwv:=h.one hv hw h1 h2
 subst hwv
 exact Od (h.ring hw) jI hyw he
theorem qb{d:aj}(h:Rw d.1){x z:ae}(hx:x∈au d.1)(hz:z∈au (aG d x).1):sg (aG d x) z=skip x (sg d) z:=by
 obtain⟨p,q⟩:=fz h hx
 obtain⟨v,hv,jI⟩:=bh.1 hx
 have hzd:z∈au d.1:=p.mem_iff.2 (List.mem_cons_of_mem _ hz)
 have hzx:z≠x:=fun k=>(List.nodup_cons.1 (p.nodup_iff.1 h.n)).1 (k▸hz)
 obtain⟨w,hw,Gm⟩:=bh.1 hz
 have hr:=j0 h hv jI
 have JM:w∈d.1.map (su v.1 (cC v.2.1 x)):=by rw[hr]at hw;exact hw
 obtain⟨u,hu,Za⟩:=List.mem_map.1 JM
 rw[oO q hw Gm]
 by_cases TP:u.1=v.1
 ·have TP:u=v:=by
   have h1:=kI h.s hv
   have h2:=kI h.s hu
   rw[TP,h1]at h2
   exact(Option.some.inj h2).symm
  subst TP
  have nL:w.2.1=cC u.2.1 x:=by rw[←Za];unfold su;rw[if_pos rfl]
  rw[nL]at Gm ⊢
  have KG:z∈u.2.1:=(sF jI (h.ring hu)).mem_iff.2 (List.mem_cons_of_mem _ Gm)
  rw[Oe (h.ring hu) jI KG hzx]
  unfold skip
  rw[oO h hu KG,oO h hu jI]
 ·have nL:w=u:=by rw[←Za];unfold su;rw[if_neg TP]
  subst nL
  unfold skip
  rw[oO h hu Gm,if_neg]
  intro k
  have:=oM (h.ring hu) Gm
  rw[k]at this
  exact TP (congrArg Prod.fst (h.one hv hu jI this))
theorem IF{d e:aj}(h:d.1=e.1)(x:ae):oE d x=oE e x:=by
 obtain⟨a,b⟩:=d
 obtain⟨c,f⟩:=e
 simp only at h
 subst h
 rfl
theorem lk{x:ae}(h:x.2=0∨x.2=1):ar (ar x)=x:=by
 obtain⟨x1,x2⟩:=x
 simp only at h
 rcases h with rfl|rfl<;>rfl
theorem Wf.side{d:aj}(h:Wf d){x:ae}(hx:x∈au d.1):x.2=0∨x.2=1:=by
 obtain⟨e,_,_,k⟩:=cQ.1 (h.pd.mem_iff.1 hx);exact k
theorem Wf.other{d:aj}(h:Wf d){x:ae}(hx:x∈au d.1):ar x∈au d.1:=by
 obtain⟨e,he,h1,h2⟩:=cQ.1 (h.pd.mem_iff.1 hx)
 refine h.pd.mem_iff.2 (cQ.2 ⟨e,he,h1,?_⟩)
 obtain⟨_,k⟩:=iV h2
 rcases k with⟨_,k⟩|⟨_,k⟩
 ·exact .inr k
 ·exact .inl k
theorem IG{d:aj}{x:ae}(hx:x∈au d.1):(bM d x).isSome=true:=by
 obtain⟨v,hv,jI⟩:=bh.1 hx
 unfold bM FJ
 rw[Option.isSome_map,List.find?_isSome]
 exact⟨v,hv,by simpa using jI⟩
theorem mZ{d:aj}{x:ae}(hx:x∈au d.1):ph d x=sg d (ar x):=by
 unfold ph Ie sg
 rw[if_pos (IG hx)]
theorem IH{d:aj}(h:Wf d){x:ae}(hx:x∈au d.1):Ie d x=some (ph d x):=by
 rw[mZ hx]
 unfold Ie
 rw[if_pos (IG hx)]
 exact KF h.rw (h.other hx)
theorem So{d:aj}(h:Wf d){x:ae}(hx:x∈au d.1):ph d x∈au d.1:=by
 rw[mZ hx];exact U4 h.rw (h.other hx)
theorem Yd{d:aj}(h:Wf d){x y:ae}(hx:x∈au d.1)(hy:y∈au d.1)(he:ph d x=ph d y):x=y:=by
 rw[mZ hx,mZ hy]at he
 have:=Sn h.rw (h.other hx) (h.other hy) he
 rw[←lk (h.side hx),←lk (h.side hy),this]
theorem II{α:Type}[DecidableEq α]:∀{l D:List α},l.Nodup→(∀x∈l,x∈D)→l.length≤D.length
 |[],_,_,_=>Nat.zero_le _
 |x::r,D,hn,hs=>by
  have h1:=List.nodup_cons.1 hn
  have hx:=hs x (List.mem_cons_self ..)
  have ih:=II (l:=r) (D:=D.erase x) h1.2 (fun y hy=>(List.mem_erase_of_ne (fun k=>h1.1 (by rw[←k];exact hy))).2 (hs y (List.mem_cons_of_mem _ hy)))
  rw[List.length_erase_of_mem hx]at ih
  have:=List.length_pos_of_mem hx
  simp;omega
theorem Sp{d:aj}(h:Wf d){out:List ae}{y:ae}(hn:out.Nodup)(hs:∀z∈out,z∈au d.1)(hp:Path (ph d) out y):y∉out.tail:=fun hy=>by
 cases out with
 |nil=>simp at hy
 |cons x r =>
  have hy:y∈r:=hy
  obtain⟨p,q,rfl⟩:=List.append_of_mem hy
  have key:∀(x:ae) (p:List ae),Path (ph d) (x::(p++y::q)) y→(x::(p++y::q)).Nodup→(∀z∈x::(p++y::q),z∈au d.1)→False:=by
   intro x p
   induction p generalizing x with
   |nil =>
    intro hp hn hs
    have h1:ph d x=y:=hp.1
    obtain⟨l,h2,h3⟩:=Ev hp.2 (by simp)
    have:=Yd h (hs x (by simp)) (hs l (List.mem_cons_of_mem _ h2)) (h1.trans h3.symm)
    subst this
    exact(List.nodup_cons.1 hn).1 h2
   |cons u p ih =>
    intro hp hn hs
    exact ih u hp.2 (List.nodup_cons.1 hn).2 (fun z hz=>hs z (List.mem_cons_of_mem _ hz))
  exact key x p hp hn hs
theorem Wf.IJ{d:aj}(h:Wf d):(au d.1).length≤80:=by
 have h2:=h.pd.length_eq
 have h3:=h.ne
 have:(ends d.2).length=2*d.2.length:=by
  clear h2 h3 h
  generalize d.2=l
  induction l with
  |nil=>rfl
  |cons e r ih=>rw[jZ];simp[ih];omega
 omega
theorem Cp{d:aj}(h:Wf d)(x:ae):∀(n:Nat) (y:ae) (r:List ae),(x::r).length+n=82→(x::r).Nodup→(∀z∈x::r,z∈au d.1)→Path (ph d) (x::r) y→y∈au d.1 →
  ∃r',rr d x n y (x::r)=x::r'∧(x::r').Nodup∧(∀z∈x::r',z∈au d.1)∧kM (ph d) (x::r')
 |0,y,r,hl,hn,hs,hp,hy=>by
  have:=II hn hs
  have:=h.IJ
  omega
 |n+1,y,r,hl,hn,hs,hp,hy=>by
  unfold rr
  by_cases he:y=x
  ·subst he
   rw[if_pos rfl]
   exact⟨r,rfl,hn,hs,hp⟩
  ·rw[if_neg he]
   have hyr:y∉x::r:=fun k=>by
    rcases List.mem_cons.1 k with k|k
    ·exact he k
    ·exact Sp h hn hs hp k
   have e:(Ie d y).getD zD=ph d y:=rfl
   rw[e]
   refine Cp h x n (ph d y) (r++[y]) (by simp at hl ⊢;omega) ?_ (fun z hz=>?_) ?_ (So h hy)
   ·show((x::r)++[y]).Nodup
    refine List.nodup_append.2 ⟨hn,by simp,fun a ha b hb=>?_⟩
    simp at hb;subst hb
    exact fun k=>hyr (k▸ha)
   ·have hz:z∈(x::r)++[y]:=hz
    rcases List.mem_append.1 hz with k|k
    ·exact hs z k
    ·simp at k;rw[k];exact hy
   ·show Path (ph d) ((x::r)++[y]) (ph d y)
    exact Path.app.2 ⟨hp,rfl,trivial⟩
theorem Cq{d:aj}(h:Wf d){x:ae}(hx:x∈au d.1):∃r,bq d x=x::r∧(x::r).Nodup∧(∀z∈x::r,z∈au d.1)∧kM (ph d) (x::r):=by
 unfold bq
 rw[IH h hx]
 exact Cp h x 81 (ph d x) [] rfl (by simp) (fun z hz=>by simp at hz;rw[hz];exact hx) ⟨rfl,trivial⟩ (So h hx)
theorem rD{d:aj}(h:Wf d):∀(l:List ae) (out:List (List ae)),(∀x∈l,x∈au d.1)→(∀c∈out,kM (ph d) c)→out.flatten.Nodup→(∀x∈out.flatten,x∈au d.1) →
  (∀c∈il d l out out.flatten,kM (ph d) c)∧(il d l out out.flatten).flatten.Nodup∧(∀x∈(il d l out out.flatten).flatten,x∈au d.1)∧(∀x,x∈l∨x∈out.flatten→x∈(il d l out out.flatten).flatten)
 |[],out,_,h1,h2,h3=>⟨h1,h2,h3,fun x k=>k.resolve_left (by simp)⟩
 |x::l,out,hl,h1,h2,h3=>by
  unfold il
  by_cases hx:x∈out.flatten
  ·rw[if_pos hx]
   obtain⟨a,b,c,e⟩:=rD h l out (fun y hy=>hl y (List.mem_cons_of_mem _ hy)) h1 h2 h3
   refine⟨a,b,c,fun y hy=>e y ?_⟩
   rcases hy with hy|hy
   ·rcases List.mem_cons.1 hy with rfl|hy
    ·exact .inr hx
    ·exact .inl hy
   ·exact .inr hy
  ·rw[if_neg hx]
   obtain⟨r,t1,t2,t3,t4⟩:=Cq h (hl x (List.mem_cons_self ..))
   have ef:out.flatten++bq d x=(out++[bq d x]).flatten:=by simp
   rw[ef]
   have ahF:∀y∈bq d x,y∉out.flatten:=fun y hy k=>by
    obtain⟨c,hc,hyc⟩:=List.mem_flatten.1 k
    rw[t1]at hy
    exact hx (List.mem_flatten.2 ⟨c,hc,t4.same (h1 c hc) hy hyc (List.mem_cons_self ..)⟩)
   obtain⟨a,b,c,e⟩:=rD h l (out++[bq d x]) (fun y hy=>hl y (List.mem_cons_of_mem _ hy))
    (fun c hc=>by
     rcases List.mem_append.1 hc with k|k
     ·exact h1 c k
     ·simp at k;rw[k,t1];exact t4)
    (by
     rw[←ef]
     refine List.nodup_append.2 ⟨h2,by rw[t1];exact t2,fun u hu w hw k=>ahF w hw (k▸hu)⟩)
    (fun y hy=>by
     rw[←ef]at hy
     rcases List.mem_append.1 hy with k|k
     ·exact h3 y k
     ·rw[t1]at k;exact t3 y k)
   refine⟨a,b,c,fun y hy=>e y ?_⟩
   rw[←ef]
   rcases hy with hy|hy
   ·rcases List.mem_cons.1 hy with rfl|hy
    ·exact .inr (List.mem_append_right _ (by rw[t1];simp))
    ·exact .inl hy
   ·exact .inr (List.mem_append_left _ hy)
theorem ll:∀l:List ai,eU l=ends l
 |[]=>rfl
 |e::r=>by rw[jZ,eU,ll r]
theorem b8{d:aj}(h:Wf d):Gl (ph d) (au d.1) (cW d):=by
 obtain⟨a,b,c,e⟩:=rD h (eU d.2) [] (fun x hx=>h.pd.mem_iff.2 (by rw[←ll];exact hx)) (by simp) (by simp) (by simp)
 refine⟨a,(List.perm_ext_iff_of_nodup b h.rw.n).2 fun x=>⟨c x,fun hx=>e x (.inl (by rw[ll];exact h.pd.mem_iff.1 hx))⟩⟩
end Go.Vs
namespace Go.Vs
open Go.Proofs Go.Cy
def dp(d:aj)(x:ID):aj:=bf (aG (aG d (x,0)) (x,1)) zI x
theorem KH{d:aj}(h:Wf d)(x y:ae)(e:ID):(bf (aG (aG d x) y) zI e).1=(aG (aG d x) y).1:=vP (j4 (j4 h.gv x) y)
theorem Cr(x:ID):ar (x,0)=(x,1):=rfl
theorem Sq(x:ID):ar (x,1)=(x,0):=rfl
structure bV(d':aj)(x:ID):Prop where
 wf:Wf d'
 e:(aT d'.2 x).isSome=true
theorem bV.x0{d':aj}{x:ID}(h:bV d' x):(x,0)∈au d'.1:=h.wf.kR h.e (.inl rfl)
theorem bV.x1{d':aj}{x:ID}(h:bV d' x):(x,1)∈au d'.1:=h.wf.kR h.e (.inr rfl)
theorem bV.p1{d':aj}{x:ID}(h:bV d' x):(au d'.1).Perm ((x,0)::au (aG d' (x,0)).1)∧Rw (aG d' (x,0)).1:=fz h.wf.rw h.x0
theorem bV.Zb{d':aj}{x:ID}(h:bV d' x):(x,1)∈au (aG d' (x,0)).1:=by
 rcases List.mem_cons.1 (h.p1.1.mem_iff.1 h.x1) with k|k
 ·cases k
 ·exact k
theorem bV.p2{d':aj}{x:ID}(h:bV d' x):(au (aG d' (x,0)).1).Perm ((x,1)::au (aG (aG d' (x,0)) (x,1)).1)∧Rw (aG (aG d' (x,0)) (x,1)).1:=fz h.p1.2 h.Zb
theorem bV.v{d':aj}{x:ID}(h:bV d' x):(dp d' x).1=(aG (aG d' (x,0)) (x,1)).1:=KH h.wf _ _ _
theorem bV.w{d':aj}{x:ID}(h:bV d' x):Wf (dp d' x):=h.wf.cut h.e
theorem bV.p{d':aj}{x:ID}(h:bV d' x):(au d'.1).Perm ((x,0)::(x,1)::au (dp d' x).1):=by
 rw[h.v];exact h.p1.1.trans (List.Perm.cons _ h.p2.1)
theorem bV.sg{d':aj}{x:ID}(h:bV d' x){z:ae}(hz:z∈au (dp d' x).1):sg (dp d' x) z=skip (x,1) (skip (x,0) (sg d')) z:=by
 have e1:Vs.sg (dp d' x) z=Vs.sg (aG (aG d' (x,0)) (x,1)) z:=by unfold Vs.sg;rw[IF h.v]
 rw[h.v]at hz
 have xX:z∈au (aG d' (x,0)).1:=h.p2.1.mem_iff.2 (List.mem_cons_of_mem _ hz)
 rw[e1,qb h.p1.2 h.Zb hz]
 unfold skip
 rw[qb h.wf.rw h.x0 xX,qb h.wf.rw h.x0 h.Zb]
 rfl
theorem bV.ph{d':aj}{x:ID}(h:bV d' x){z:ae}(hz:z∈au (dp d' x).1):ph (dp d' x) z=vR (ph d') (x,0) (x,1) z:=by
 have OJ:z∈au d'.1:=h.p.mem_iff.2 (List.mem_cons_of_mem _ (List.mem_cons_of_mem _ hz))
 have ho:=h.w.other hz
 have nt:ar z∈au d'.1:=h.p.mem_iff.2 (List.mem_cons_of_mem _ (List.mem_cons_of_mem _ ho))
 have nd:=h.p.nodup_iff.1 h.wf.rw.n
 have J4:ar z≠(x,1):=fun k=>(List.nodup_cons.1 (List.nodup_cons.1 nd).2).1 (k▸ho)
 rw[mZ hz,h.sg ho]
 unfold vR
 rw[mZ OJ,mZ h.x0,mZ h.x1,Cr,Sq]
 generalize hW:ar z=w at *
 have inj:Vs.sg d' (x,1)=(x,0)→Vs.sg d' w≠(x,0):=fun k1 k2=>J4 (Sn h.wf.rw nt h.x1 (k2.trans k1.symm))
 unfold skip
 by_cases c1:Vs.sg d' w=(x,0)
 ·rw[if_pos c1]
  by_cases c2:Vs.sg d' (x,0)=(x,1)
  ·rw[if_pos c2,if_pos c2]
   by_cases c3:Vs.sg d' (x,1)=(x,0)
   ·exact absurd c1 (inj c3)
   ·rw[if_neg c3,if_pos c1]
  ·rw[if_neg c2,if_neg c2,if_pos c1]
 ·rw[if_neg c1]
  by_cases c2:Vs.sg d' w=(x,1)
  ·rw[if_pos c2,if_neg c1]
  ·rw[if_neg c2,if_neg c1]
def al(l:List ah):Nat:=l.countP fun v=>v.2.1.isEmpty
theorem Ew{row:List ae}(hn:row.Nodup){x:ae}(hx:x∈row):iW row x=x↔row.length=1:=by
 obtain⟨i,hi⟩:=List.getElem?_of_mem hx
 have nE:=(List.getElem?_eq_some_iff.1 hi).1
 have hp:0<row.length:=by omega
 rw[vS hn hi,List.getElem?_eq_getElem (Nat.mod_lt _ hp)]
 constructor
 ·intro h
  have h1:row[(i+1)%row.length]? = some x:=by rw[List.getElem?_eq_getElem (Nat.mod_lt _ hp)];exact congrArg some (by simpa using h)
  have h2:=Er hn h1 hi
  by_cases c:i+1<row.length
  ·rw[Nat.mod_eq_of_lt c]at h2;omega
  ·have:i+1=row.length:=by omega
   rw[this,Nat.mod_self]at h2;omega
 ·intro h
  have h0:i=0:=by omega
  subst h0
  have:(0+1)%row.length=0:=by rw[h]
  simp only[this]
  obtain⟨h1,h2⟩:=List.getElem?_eq_some_iff.1 hi
  simpa using h2
theorem Cs{d:aj}(h:Rw d.1){x:ae}(hx:x∈au d.1):al (aG d x).1=al d.1+if sg d x=x then 1 else 0:=by
 obtain⟨v,hv,jI⟩:=bh.1 hx
 obtain⟨a,b,h1,_,_,h2⟩:=rB h.s hv
 have e1:(aG d x).1=a++(v.1,(cC v.2.1 x,v.2.2))::b:=by rw[j0 h hv jI];exact h2 _
 have p:=sF jI (h.ring hv)
 have hl:=p.length_eq
 have v0:v.2.1.isEmpty=false:=by
  cases hq:v.2.1 with
  |nil=>rw[hq]at jI;simp at jI
  |cons _ _=>rfl
 have v1:(cC v.2.1 x).isEmpty=decide (sg d x=x):=by
  rw[Bool.eq_iff_iff,List.isEmpty_iff,decide_eq_true_eq,oO h hv jI,Ew (h.ring hv) jI,←List.length_eq_zero_iff]
  simp at hl;omega
 rw[e1]
 conv=>rhs;rw[h1]
 unfold al
 rw[List.countP_append,List.countP_append,List.countP_cons,List.countP_cons]
 simp only[v0,v1]
 by_cases c:sg d x=x
 ·simp[c];omega
 ·simp[c]
def ft(d:aj):Nat:=(cW d).length+al d.1
def Sr(d:aj)(x y:ae):Prop:=∃c∈cW d,x∈c∧y∈c
theorem bV.al{d':aj}{x:ID}(h:bV d' x):Vs.al (dp d' x).1=Vs.al d'.1+(if Vs.ph d' (x,1)=(x,0) then 1 else 0)+(if Vs.ph d' (x,0)=(x,1)∨(Vs.ph d' (x,0)=(x,0)∧Vs.ph d' (x,1)=(x,1)) then 1 else 0):=by
 rw[h.v,Cs h.p1.2 h.Zb,Cs h.wf.rw h.x0]
 have e0:Vs.ph d' (x,0)=Vs.sg d' (x,1):=mZ h.x0
 have e1:Vs.ph d' (x,1)=Vs.sg d' (x,0):=mZ h.x1
 rw[e0,e1,qb h.wf.rw h.x0 h.Zb]
 unfold skip
 congr 1
 by_cases c:Vs.sg d' (x,1)=(x,0)
 ·rw[if_pos c]
  by_cases k:Vs.sg d' (x,0)=(x,1)
  ·rw[if_pos k,if_pos (.inr ⟨c,k⟩)]
  ·rw[if_neg k,if_neg]
   rintro(m|⟨_,m⟩)
   ·rw[c]at m;cases m
   ·exact k m
 ·rw[if_neg c]
  by_cases k:Vs.sg d' (x,1)=(x,1)
  ·rw[if_pos k,if_pos (.inl k)]
  ·rw[if_neg k,if_neg]
   rintro(m|⟨m,_⟩)
   ·exact k m
   ·exact c m
theorem aci(x:ID):((x,0):ae)≠(x,1):=fun k=>by cases k
theorem bV.same{d':aj}{x:ID}(h:bV d' x)(hf:Sr d' (x,0) (x,1)):ft (dp d' x)=ft d'+1∧(cW (dp d' x)).length+1=(cW d').length+(if Vs.ph d' (x,0)=(x,1) then 0 else 1)+(if Vs.ph d' (x,1)=(x,0) then 0 else 1):=by
 obtain⟨c,hc,h0,h1⟩:=hf
 have nd:=h.p.nodup_iff.1 h.wf.rw.n
 have dec:Gl (Vs.ph d') ((x,0)::(x,1)::au (dp d' x).1) (cW d'):=⟨(b8 h.wf).c,(b8 h.wf).p.trans h.p⟩
 obtain⟨cs,k1,k2⟩:=Gl.Sh (aci x) nd dec (fun z hz=>h.ph hz) hc h0 h1
 have k3:=Gl.count (h.w.rw.n) (b8 h.w) k1
 have k4:=h.al
 have Cl:=(b8 h.wf).c c hc
 have n0:¬(Vs.ph d' (x,0)=(x,0)):=fun k=>by
  obtain⟨n,hn⟩:=Cl.reach h0 h1
  have:∀n,it (Vs.ph d') n (x,0)=(x,0):=fun n=>by
   induction n with
   |zero=>rfl
   |succ n ih=>show it (Vs.ph d') n (Vs.ph d' (x,0))=_;rw[k];exact ih
  rw[this]at hn;cases hn
 refine⟨?_,by rw[k3];exact k2⟩
 unfold ft
 rw[k3,k4]
 by_cases c0:Vs.ph d' (x,0)=(x,1)
 ·rw[if_pos c0]at k2
  rw[if_pos (Or.inl c0)]
  by_cases c1:Vs.ph d' (x,1)=(x,0)
  ·rw[if_pos c1]at k2 ⊢;omega
  ·rw[if_neg c1]at k2 ⊢;omega
 ·rw[if_neg c0]at k2
  rw[if_neg (show ¬(Vs.ph d' (x,0)=(x,1)∨(Vs.ph d' (x,0)=(x,0)∧Vs.ph d' (x,1)=(x,1))) from fun m=>m.elim c0 fun m=>n0 m.1)]
  by_cases c1:Vs.ph d' (x,1)=(x,0)
  ·rw[if_pos c1]at k2 ⊢;omega
  ·rw[if_neg c1]at k2 ⊢;omega
theorem bV.diff{d':aj}{x:ID}(h:bV d' x)(hf:¬Sr d' (x,0) (x,1)):ft (dp d' x)+1=ft d':=by
 have hm:(x,0)∈(cW d').flatten:=(b8 h.wf).p.mem_iff.2 h.x0
 obtain⟨c,hc,h0⟩:=List.mem_flatten.1 hm
 have h1:(x,1)∉c:=fun k=>hf ⟨c,hc,h0,k⟩
 have nd:=h.p.nodup_iff.1 h.wf.rw.n
 have dec:Gl (Vs.ph d') ((x,0)::(x,1)::au (dp d' x).1) (cW d'):=⟨(b8 h.wf).c,(b8 h.wf).p.trans h.p⟩
 obtain⟨cs,k1,k2⟩:=Gl.Sj (aci x) nd dec (fun z hz=>h.ph hz) hc h0 h1
 have k3:=Gl.count (h.w.rw.n) (b8 h.w) k1
 have k4:=h.al
 have Cl:=(b8 h.wf).c c hc
 have n0:¬(Vs.ph d' (x,0)=(x,1)):=fun k=>h1 (k▸Cl.step h0)
 have n1:¬(Vs.ph d' (x,1)=(x,0)):=fun k=>by
  have TF:(x,1)∈(cW d').flatten:=(b8 h.wf).p.mem_iff.2 h.x1
  obtain⟨c2,ux,h2⟩:=List.mem_flatten.1 TF
  have:=((b8 h.wf).c c2 ux).step h2
  rw[k]at this
  exact hf ⟨c2,ux,this,h2⟩
 unfold ft
 rw[k3,k4,if_neg n1]
 by_cases c:Vs.ph d' (x,0)=(x,0)∧Vs.ph d' (x,1)=(x,1)
 ·rw[if_pos c]at k2;rw[if_pos (.inr c)];omega
 ·rw[if_neg c]at k2;rw[if_neg (fun m=>m.elim n0 c)];omega
end Go.Vs
namespace Go.Vs
open Go.Proofs Go.Cy
def IK(d:aj)(a b:ID):Prop:=∃z∈au d.1,bM d z=some a∧bM d (ar z)=some b
inductive cS (d:aj):ID→ID→Prop
 |refl (a:ID):cS d a a
 |tail {a b c:ID}:cS d a b→IK d b c→cS d a c
theorem cS.trans{d:aj}{a b c:ID}(h:cS d a b)(k:cS d b c):cS d a c:=by
 induction k with
 |refl=>exact h
 |tail _ j ih=>exact ih.tail j
theorem IK.symm{d:aj}(hw:Wf d){a b:ID}(h:IK d a b):IK d b a:=by
 obtain⟨z,hz,h1,h2⟩:=h
 exact⟨ar z,hw.other hz,h2,by rw[lk (hw.side hz)];exact h1⟩
theorem IK.conn{d:aj}{a b:ID}(h:IK d a b):cS d a b:=(cS.refl a).tail h
theorem cS.symm{d:aj}(hw:Wf d){a b:ID}(h:cS d a b):cS d b a:=by
 induction h with
 |refl=>exact .refl _
 |tail _ j ih=>exact(j.symm hw).conn.trans ih
structure vT(d:aj)(R:List ID):Prop where
 n:R.Nodup
 v:∀r∈R,∃v∈d.1,v.1=r
 i:∀r∈R,∀s∈R,cS d r s→r=s
 c:∀v∈d.1,∃r∈R,cS d v.1 r
theorem FZ{d:aj}(hw:Wf d):∀{R R':List ID},R.Nodup→(∀r∈R,∀s∈R,cS d r s→r=s)→(∀r∈R,∃s∈R',cS d r s)→R.length≤R'.length
 |[],_,_,_,_=>Nat.zero_le _
 |r::R,R',hn,hi,hc=>by
  obtain⟨s,hs,Xq⟩:=hc r (List.mem_cons_self ..)
  have h1:=List.nodup_cons.1 hn
  have ih:=FZ hw (R:=R) (R':=R'.erase s) h1.2 (fun a ha b hb=>hi a (List.mem_cons_of_mem _ ha) b (List.mem_cons_of_mem _ hb)) (fun a ha=>by
   obtain⟨t,ht,yh⟩:=hc a (List.mem_cons_of_mem _ ha)
   refine⟨t,(List.mem_erase_of_ne (fun k=>?_)).2 ht,yh⟩
   subst k
   have:=hi a (List.mem_cons_of_mem _ ha) r (List.mem_cons_self ..) (yh.trans (Xq.symm hw))
   exact h1.1 (this▸ha))
  rw[List.length_erase_of_mem hs]at ih
  have:=List.length_pos_of_mem hs
  simp;omega
theorem vT.len{d:aj}(hw:Wf d){R R':List ID}(h:vT d R)(h':vT d R'):R.length=R'.length:=by
 refine Nat.le_antisymm (FZ hw h.n h.i fun r hr=>?_) (FZ hw h'.n h'.i fun r hr=>?_)
 ·obtain⟨v,hv,rfl⟩:=h.v r hr;exact h'.c v hv
 ·obtain⟨v,hv,rfl⟩:=h'.v r hr;exact h.c v hv
theorem vU{d:aj}(hw:Wf d){z:ae}(hz:z∈au d.1):∃v∈d.1,z∈v.2.1∧bM d z=some v.1:=by
 obtain⟨v,hv,Zd⟩:=bh.1 hz
 exact⟨v,hv,Zd,iG hw.rw hv Zd⟩
theorem Ct{d:aj}(h:Rw d.1){x z:ae}(hx:x∈au d.1)(hz:z∈au (aG d x).1):bM (aG d x) z=bM d z:=by
 obtain⟨p,q⟩:=fz h hx
 obtain⟨v,hv,jI⟩:=bh.1 hx
 obtain⟨w,hw,Gm⟩:=bh.1 hz
 have hr:=j0 h hv jI
 have JM:w∈d.1.map (su v.1 (cC v.2.1 x)):=by rw[hr]at hw;exact hw
 obtain⟨u,hu,Za⟩:=List.mem_map.1 JM
 have bO:w.1=u.1:=by rw[←Za];exact ry _ _ _
 have KG:z∈u.2.1:=by
  by_cases TP:u.1=v.1
  ·have TP:u=v:=by
    have h1:=kI h.s hv
    have h2:=kI h.s hu
    rw[TP,h1]at h2
    exact(Option.some.inj h2).symm
   subst TP
   have nL:w.2.1=cC u.2.1 x:=by rw[←Za];unfold su;rw[if_pos rfl]
   rw[nL]at Gm
   exact(sF jI (h.ring hu)).mem_iff.2 (List.mem_cons_of_mem _ Gm)
  ·have nL:w=u:=by rw[←Za];unfold su;rw[if_neg TP]
   rw[←nL];exact Gm
 show FJ (aG d x).1 z=FJ d.1 z
 rw[iG q hw Gm,iG h hu KG,bO]
theorem bV.at{d':aj}{x:ID}(h:bV d' x){z:ae}(hz:z∈au (dp d' x).1):bM (dp d' x) z=bM d' z:=by
 have e:bM (dp d' x) z=bM (aG (aG d' (x,0)) (x,1)) z:=by unfold bM;rw[h.v]
 rw[h.v]at hz
 have xX:z∈au (aG d' (x,0)).1:=h.p2.1.mem_iff.2 (List.mem_cons_of_mem _ hz)
 rw[e,Ct h.p1.2 h.Zb hz,Ct h.wf.rw h.x0 xX]
theorem bV.sub{d':aj}{x:ID}(h:bV d' x){z:ae}(hz:z∈au (dp d' x).1):z∈au d'.1:=h.p.mem_iff.2 (List.mem_cons_of_mem _ (List.mem_cons_of_mem _ hz))
theorem bV.Ze{d':aj}{x:ID}(h:bV d' x){a b:ID}(k:IK (dp d' x) a b):IK d' a b:=by
 obtain⟨z,hz,h1,h2⟩:=k
 exact⟨z,h.sub hz,by rw[←h.at hz];exact h1,by rw[←h.at (h.w.other hz)];exact h2⟩
theorem bV.conn{d':aj}{x:ID}(h:bV d' x){a b:ID}(k:cS (dp d' x) a b):cS d' a b:=by
 induction k with
 |refl=>exact .refl _
 |tail _ j ih=>exact ih.tail (h.Ze j)
theorem bV.ahG{d':aj}{x u w:ID}(h:bV d' x)(hu:bM d' (x,0)=some u)(hw:bM d' (x,1)=some w){a b:ID}(k:IK d' a b):IK (dp d' x) a b∨(a=u∧b=w)∨(a=w∧b=u):=by
 obtain⟨z,hz,h1,h2⟩:=k
 rcases List.mem_cons.1 (h.p.mem_iff.1 hz) with rfl|CR
 ·rw[Cr]at h2
  rw[hu]at h1;rw[hw]at h2
  cases h1;cases h2
  exact .inr (.inl ⟨rfl,rfl⟩)
 rcases List.mem_cons.1 CR with rfl|Jg
 ·rw[Sq]at h2
  rw[hw]at h1;rw[hu]at h2
  cases h1;cases h2
  exact .inr (.inr ⟨rfl,rfl⟩)
 ·exact .inl ⟨z,Jg,by rw[h.at Jg];exact h1,by rw[h.at (h.w.other Jg)];exact h2⟩
theorem bV.Ss{d':aj}{x u w:ID}(h:bV d' x)(hu:bM d' (x,0)=some u)(hw:bM d' (x,1)=some w){a b:ID}(k:cS d' a b) :
  cS (dp d' x) a b∨(cS (dp d' x) a u∧cS (dp d' x) w b)∨(cS (dp d' x) a w∧cS (dp d' x) u b):=by
 induction k with
 |refl=>exact .inl (.refl _)
 |tail _ j ih =>
  rcases h.ahG hu hw j with j|⟨rfl,rfl⟩|⟨rfl,rfl⟩
  ·rcases ih with k|⟨k,m⟩|⟨k,m⟩
   ·exact .inl (k.tail j)
   ·exact .inr (.inl ⟨k,m.tail j⟩)
   ·exact .inr (.inr ⟨k,m.tail j⟩)
  ·rcases ih with k|⟨k,m⟩|⟨k,m⟩
   ·exact .inr (.inl ⟨k,.refl _⟩)
   ·exact .inr (.inl ⟨k,.refl _⟩)
   ·exact .inl k
  ·rcases ih with k|⟨k,m⟩|⟨k,m⟩
   ·exact .inr (.inr ⟨k,.refl _⟩)
   ·exact .inl k
   ·exact .inr (.inr ⟨k,.refl _⟩)
theorem bV.ids{d':aj}{x:ID}(h:bV d' x):(dp d' x).1.map (·.1)=d'.1.map (·.1):=by
 rw[h.v]
 unfold aG Vs.cf
 simp only[List.map_map]
 refine List.map_congr_left fun v hv=>?_
 simp only[Function.comp,ry]
theorem bV.KI{d':aj}{x:ID}(h:bV d' x){r:ID}:(∃v∈(dp d' x).1,v.1=r)↔∃v∈d'.1,v.1=r:=by
 have e:∀l:List ah,(∃v∈l,v.1=r)↔r∈l.map (·.1):=fun l=>by rw[List.mem_map]
 rw[e,e,h.ids]
theorem bV.U5{d':aj}{x u w:ID}(h:bV d' x)(hu:bM d' (x,0)=some u)(hw:bM d' (x,1)=some w)(k:cS (dp d' x) u w){R:List ID}(hr:vT d' R):vT (dp d' x) R:=by
 have key:∀{a b:ID},cS d' a b→cS (dp d' x) a b:=fun {a b} m=>by
  rcases h.Ss hu hw m with m|⟨m,q⟩|⟨m,q⟩
  ·exact m
  ·exact(m.trans k).trans q
  ·exact(m.trans (k.symm h.w)).trans q
 refine⟨hr.n,fun r zj=>h.KI.2 (hr.v r zj),fun r zj s hs m=>hr.i r zj s hs (h.conn m),fun v hv=>?_⟩
 obtain⟨v',AB,he⟩:=h.KI.1 ⟨v,hv,rfl⟩
 obtain⟨r,h1,h2⟩:=hr.c v' AB
 exact⟨r,h1,by rw[←he];exact key h2⟩
theorem bV.Mi{d':aj}{x:ID}(h:bV d' x):∃u w,bM d' (x,0)=some u∧bM d' (x,1)=some w∧(∃v∈d'.1,v.1=u)∧∃v∈d'.1,v.1=w:=by
 obtain⟨v,hv,_,h1⟩:=vU h.wf h.x0
 obtain⟨v2,xV,_,h2⟩:=vU h.wf h.x1
 exact⟨v.1,v2.1,h1,h2,⟨v,hv,rfl⟩,⟨v2,xV,rfl⟩⟩
theorem bV.WH{d':aj}{x u w:ID}(h:bV d' x)(hu:bM d' (x,0)=some u)(hw:bM d' (x,1)=some w)(k:¬cS (dp d' x) u w){R:List ID}(hr:vT d' R):∃R2,vT (dp d' x) R2∧R2.length=R.length+1:=by
 have uv:∃v∈d'.1,v.1=u:=by
  obtain⟨v,hv,_,h1⟩:=vU h.wf h.x0
  rw[hu]at h1;cases h1;exact⟨v,hv,rfl⟩
 have wv:∃v∈d'.1,v.1=w:=by
  obtain⟨v,hv,_,h1⟩:=vU h.wf h.x1
  rw[hw]at h1;cases h1;exact⟨v,hv,rfl⟩
 have uw:cS d' u w:=IK.conn ⟨(x,0),h.x0,hu,by rw[Cr];exact hw⟩
 obtain⟨v0,Xc,hvu⟩:=uv
 obtain⟨r,zj,hur⟩:=hr.c v0 Xc
 rw[hvu]at hur
 have sep:∀s∈R.erase r,s∈R∧¬cS d' s u∧¬cS d' s w:=fun s hs=>by
  have h1:=List.mem_of_mem_erase hs
  have h2:s≠r:=fun e=>by
   subst e
   exact absurd hs (List.Nodup.not_mem_erase hr.n)
  exact⟨h1,fun m=>h2 (hr.i s h1 r zj (m.trans hur)),fun m=>h2 (hr.i s h1 r zj ((m.trans (uw.symm h.wf)).trans hur))⟩
 refine⟨u::w::R.erase r,⟨?_,?_,?_,?_⟩,?_⟩
 ·refine List.nodup_cons.2 ⟨fun m=>?_,List.nodup_cons.2 ⟨fun m=>(sep w m).2.2 (.refl _),hr.n.erase r⟩⟩
  rcases List.mem_cons.1 m with m|m
  ·exact k (m▸.refl _)
  ·exact(sep u m).2.1 (.refl _)
 ·intro s hs
  rcases List.mem_cons.1 hs with rfl|hs
  ·exact h.KI.2 ⟨v0,Xc,hvu⟩
  rcases List.mem_cons.1 hs with rfl|hs
  ·exact h.KI.2 wv
  ·exact h.KI.2 (hr.v s (sep s hs).1)
 ·intro a ha b hb m
  rcases List.mem_cons.1 ha with ea|ha
  ·rcases List.mem_cons.1 hb with eb|hb
   ·rw[ea,eb]
   rcases List.mem_cons.1 hb with eb|hb
   ·exact absurd (ea▸eb▸m) k
   ·exact absurd ((h.conn (ea▸m)).symm h.wf) (sep b hb).2.1
  rcases List.mem_cons.1 ha with ea|ha
  ·rcases List.mem_cons.1 hb with eb|hb
   ·exact absurd ((ea▸eb▸m).symm h.w) k
   rcases List.mem_cons.1 hb with eb|hb
   ·rw[ea,eb]
   ·exact absurd ((h.conn (ea▸m)).symm h.wf) (sep b hb).2.2
  ·rcases List.mem_cons.1 hb with eb|hb
   ·exact absurd (eb▸h.conn m) (sep a ha).2.1
   rcases List.mem_cons.1 hb with eb|hb
   ·exact absurd (eb▸h.conn m) (sep a ha).2.2
   ·exact hr.i a (sep a ha).1 b (sep b hb).1 (h.conn m)
 ·intro v hv
  obtain⟨v',AB,he⟩:=h.KI.1 ⟨v,hv,rfl⟩
  obtain⟨s,h1,h2⟩:=hr.c v' AB
  rw[he]at h2
  by_cases hsr:s=r
  ·subst hsr
   rcases h.Ss hu hw (h2.trans (hur.symm h.wf)) with m|⟨m,_⟩|⟨m,_⟩
   ·exact⟨u,by simp,m⟩
   ·exact⟨u,by simp,m⟩
   ·exact⟨w,by simp,m⟩
  ·have Xf:s∈R.erase r:=(List.mem_erase_of_ne hsr).2 h1
   rcases h.Ss hu hw h2 with m|⟨_,q⟩|⟨_,q⟩
   ·exact⟨s,by simp[Xf],m⟩
   ·exact absurd ((h.conn q).symm h.wf) (sep s Xf).2.2
   ·exact absurd ((h.conn q).symm h.wf) (sep s Xf).2.1
 ·have:=List.length_pos_of_mem zj
  simp only[List.length_cons,List.length_erase_of_mem zj];omega
theorem bV.Og{d':aj}{x u w:ID}(h:bV d' x)(hu:bM d' (x,0)=some u)(hw:bM d' (x,1)=some w)(hf:¬Sr d' (x,0) (x,1)):cS (dp d' x) u w:=by
 have hm:(x,0)∈(cW d').flatten:=(b8 h.wf).p.mem_iff.2 h.x0
 obtain⟨c,hc,h0⟩:=List.mem_flatten.1 hm
 have h1:(x,1)∉c:=fun k=>hf ⟨c,hc,h0,k⟩
 have Cl:=(b8 h.wf).c c hc
 obtain⟨B,k1,k2⟩:=Cl.head h0
 have hcd:∀z∈c,z∈au d'.1:=fun z hz=>(b8 h.wf).p.mem_iff.1 (List.mem_flatten.2 ⟨c,hc,hz⟩)
 have cn:c.Nodup:=by
  obtain⟨p,q,e⟩:=List.append_of_mem hc
  have:=(b8 h.wf).p.nodup_iff.2 h.wf.rw.n
  rw[e]at this
  exact(List.nodup_append.1 ((gF p q c).nodup_iff.1 this)).1
 have bn:=k2.nodup_iff.2 cn
 have acj:∀z∈au d'.1,bM d' (Vs.ph d' z)=bM d' (ar z):=fun z hz=>by
  have ho:=h.wf.other hz
  obtain⟨v,hv,Zd⟩:=bh.1 ho
  rw[mZ hz,oO h.wf.rw hv Zd]
  show FJ d'.1 _=FJ d'.1 _
  rw[iG h.wf.rw hv (oM (h.wf.rw.ring hv) Zd),iG h.wf.rw hv Zd]
 have inC:∀z∈B,z∈au (dp d' x).1:=fun z hz=>by
  have Y5:z∈c:=k2.mem_iff.1 (List.mem_cons_of_mem _ hz)
  rcases List.mem_cons.1 (h.p.mem_iff.1 (hcd z Y5)) with e|e
  ·exact absurd (e▸hz) (List.nodup_cons.1 bn).1
  rcases List.mem_cons.1 e with e|e
  ·exact absurd (e▸Y5) h1
  ·exact e
 have walk:∀(B:List ae) (a e:ID) (z:ae),(∀y∈B,y∈au (dp d' x).1)→Path (Vs.ph d') B z→bM d' z=some e→(∀y,B.head? = some y→bM d' y=some a)→(B=[]→a=e)→cS (dp d' x) a e:=by
  intro B
  induction B with
  |nil=>intro a e z _ _ _ _ h5;rw[h5 rfl];exact .refl _
  |cons y r ih =>
   intro a e z hB hp hz ha _
   have hy:=hB y (by simp)
   have hyd:=h.sub hy
   obtain⟨v,hv,TO,yh⟩:=vU h.wf (h.wf.other hyd)
   have Ze:IK (dp d' x) a v.1:=⟨y,hy,by rw[h.at hy];exact ha y rfl,by rw[h.at (h.w.other hy)];exact yh⟩
   have iL:bM d' (r.head?.getD z)=some v.1:=by
    rw[←show Vs.ph d' y=r.head?.getD z from hp.1,acj y hyd];exact yh
   refine Ze.conn.trans (ih v.1 e z (fun q hq=>hB q (List.mem_cons_of_mem _ hq)) hp.2 hz (fun q hq=>?_) (fun hr=>?_))
   ·rw[hq]at iL;exact iL
   ·subst hr
    have:bM d' z=some v.1:=iL
    rw[hz]at this;exact(Option.some.inj this).symm
 obtain⟨fx,pB⟩:=(show Path (Vs.ph d') ((x,0)::B) (x,0) from k1)
 have KJ:bM d' (B.head?.getD (x,0))=some w:=by
  rw[←fx,acj _ h.x0,Cr];exact hw
 refine(walk B w u (x,0) inC pB hu (fun y hy=>by rw[hy]at KJ;exact KJ) (fun hB=>?_)).symm h.w
 subst hB
 have:bM d' (x,0)=some w:=KJ
 rw[hu]at this;exact(Option.some.inj this).symm
theorem IL{d:aj}(h:au d.1=[]){a b:ID}(k:cS d a b):a=b:=by
 induction k with
 |refl=>rfl
 |tail _ j _=>obtain⟨z,hz,_⟩:=j;rw[h]at hz;simp at hz
theorem bY.ids{l:List ah}(h:bY l):(l.map (·.1)).Nodup:=by
 unfold List.Nodup
 rw[List.pairwise_map]
 exact h.imp fun {a b} k e=>by rw[e,cd]at k;cases k
theorem Mj:∀(n:Nat) (d:aj),Wf d→d.2.length=n→∀R,vT d R→∃k,d.1.length+ft d+2*k=2*R.length+d.2.length
 |0,d,hw,hl,R,hr=>by
  have he:d.2=[]:=by simpa using hl
  have hd:au d.1=[]:=by
   have:=hw.pd
   rw[he]at this
   exact List.perm_nil.1 this
  have Xt:vT d (d.1.map (·.1)):=⟨hw.sv.ids,fun r hr=>by obtain⟨v,hv,rfl⟩:=List.mem_map.1 hr;exact⟨v,hv,rfl⟩,fun r _ s _ k=>IL hd k,fun v hv=>⟨v.1,List.mem_map.2 ⟨v,hv,rfl⟩,.refl _⟩⟩
  have hlen:=hr.len hw Xt
  have hf:cW d=[]:=by unfold cW;rw[he];rfl
  have ha:al d.1=d.1.length:=by
   unfold al
   rw[List.countP_eq_length]
   intro v hv
   rw[List.isEmpty_iff]
   cases hq:v.2.1 with
   |nil=>rfl
   |cons y r =>
    have:y∈au d.1:=bh.2 ⟨v,hv,by rw[hq];simp⟩
    rw[hd]at this;simp at this
  refine⟨0,?_⟩
  unfold ft
  rw[hf,ha,hlen,he]
  simp;omega
 |n+1,d,hw,hl,R,hr=>by
  obtain⟨e,r,he⟩:∃e r,d.2=e::r:=by
   cases hq:d.2 with
   |nil=>rw[hq]at hl;simp at hl
   |cons e r=>exact⟨e,r,rfl⟩
  have hc:bV d e.1:=⟨hw,by unfold aT;rw[he];simp⟩
  obtain⟨u,w,hu,hwt,_,_⟩:=hc.Mi
  have hv:(dp d e.1).1.length=d.1.length:=by
   have:=congrArg List.length hc.ids
   simpa using this
  have Jh:(dp d e.1).2.length=n:=by
   have h1:=hc.w.pd.length_eq
   have h2:=hw.pd.length_eq
   have h3:=hc.p.length_eq
   have e2:∀l:List ai,(ends l).length=2*l.length:=fun l=>by
    induction l with
    |nil=>rfl
    |cons e r ih=>rw[jZ];simp[ih];omega
   rw[e2]at h1 h2
   simp at h3;omega
  by_cases hf:Sr d (e.1,0) (e.1,1)
  ·have h1:=(hc.same hf).1
   by_cases k:cS (dp d e.1) u w
   ·obtain⟨g,hg⟩:=Mj n (dp d e.1) hc.w Jh R (hc.U5 hu hwt k hr)
    exact⟨g+1,by omega⟩
   ·obtain⟨R2,h2,h3⟩:=hc.WH hu hwt k hr
    obtain⟨g,hg⟩:=Mj n (dp d e.1) hc.w Jh R2 h2
    exact⟨g,by omega⟩
  ·have h1:=hc.diff hf
   obtain⟨g,hg⟩:=Mj n (dp d e.1) hc.w Jh R (hc.U5 hu hwt (hc.Og hu hwt hf) hr)
   exact⟨g,by omega⟩
end Go.Vs
namespace Go.Vs
open Go.Proofs Go.Cy
def cK(d:aj)(i:Nat):ID:=((d.1[i]?).getD zV).1
theorem m0{d:aj}{i:Nat}{v:ah}(h:d.1[i]? = some v):cK d i=v.1:=by unfold cK;rw[h];rfl
theorem jA{d:aj}(hs:bY d.1){i j:Nat}(hi:i<d.1.length)(hj:j<d.1.length)(h:cK d i=cK d j):i=j:=by
 have h1:=List.getElem?_eq_getElem hi
 have h2:=List.getElem?_eq_getElem hj
 rw[m0 h1,m0 h2]at h
 rw[jX hs h1 rfl,jX hs h2 rfl,h]
theorem Su{x:ID}:∀{l:List ah} {i:Nat} {v:ah} (k:Int),l[i]? = some v→v.1=x→(∀j u,j<i→l[j]? = some u→u.1≠x)→zU x l k=k+i
 |w::r,0,v,k,h,hv,_=>by
  simp at h;subst h
  rw[zU,if_pos hv];simp
 |w::r,i+1,v,k,h,hv,hn=>by
  have h0:=hn 0 w (by omega) (by simp)
  rw[zU,if_neg h0,Su (i:=i) (v:=v) (k+1) (by simpa using h) hv (fun j u hj hu=>hn (j+1) u (by omega) (by simpa using hu))]
  omega
theorem Sw{d:aj}(hs:bY d.1){i:Nat}(hi:i<d.1.length):zU (cK d i) d.1 0=(i:Int):=by
 have h:=List.getElem?_eq_getElem hi
 have:=Su (x:=cK d i) (l:=d.1) (i:=i) (v:=d.1[i]) 0 h (m0 h).symm (fun j u hj hu he=>by
  have h1:=jA hs (show j<d.1.length by omega) hi ((m0 hu).trans he)
  omega)
 omega
theorem KK{d:aj}(hw:Wf d){z:ae}(hz:z∈au d.1):∃i,i<d.1.length∧bM d z=some (cK d i):=by
 obtain⟨v,hv,_,h⟩:=vU hw hz
 obtain⟨i,hi,he⟩:=List.getElem_of_mem hv
 refine⟨i,hi,?_⟩
 rw[h,m0 (List.getElem?_eq_getElem hi),he]
structure F2(d:aj)(L:List Int):Prop where
 n:L.length=d.1.length
 i:∀i,i<d.1.length→∃j:Nat,j≤i∧L.getD i 0=(j:Int)∧cS d (cK d i) (cK d j)
def fJ(d:aj)(L:List Int)(i:Nat):Prop:=∀j,j<d.1.length→cS d (cK d i) (cK d j)→L.getD i 0≤(j:Int)
structure IM(d:aj)(L:List Int):Prop where
 l:F2 d L
 r:∀i,i<d.1.length→fJ d L i
theorem IN{L:List Int}{a i:Nat}(x:Int):(L.set a x).getD i 0=if a=i∧a<L.length then x else L.getD i 0:=by
 simp only[List.getD]
 rw[List.getElem?_set]
 by_cases h:a=i
 ·subst h
  by_cases k:a<L.length
  ·simp[k]
  ·simp[k]
 ·simp[h]
def Dn(a b:Nat)(L:List Int):List Int:=(L.set a (min (L.getD a 0) (L.getD b 0))).set b (min (L.getD a 0) (L.getD b 0))
theorem Sx{L:List Int}{a b:Nat}(ha:a<L.length)(hb:b<L.length)(i:Nat):(Dn a b L).getD i 0=if i=a∨i=b then min (L.getD a 0) (L.getD b 0) else L.getD i 0:=by
 unfold Dn
 rw[IN,IN,List.length_set]
 by_cases h1:b=i
 ·rw[if_pos ⟨h1,hb⟩,if_pos (.inr h1.symm)]
 ·rw[if_neg (fun k=>h1 k.1)]
  by_cases h2:a=i
  ·rw[if_pos ⟨h2,ha⟩,if_pos (.inl h2.symm)]
  ·rw[if_neg (fun k=>h2 k.1),if_neg (fun k=>k.elim (fun m=>h2 m.symm) (fun m=>h1 m.symm))]
theorem Oh{d:aj}(hw:Wf d){L:List Int}(h:F2 d L){a b:Nat}(ha:a<d.1.length)(hb:b<d.1.length)(nO:cS d (cK d a) (cK d b)):F2 d (Dn a b L)∧(∀i,i<d.1.length→fJ d L i→fJ d (Dn a b L) i)∧(fJ d L a→fJ d (Dn a b L) b)∧(fJ d L b→fJ d (Dn a b L) a):=by
 have TA:a<L.length:=by rw[h.n];exact ha
 have KM:b<L.length:=by rw[h.n];exact hb
 have gl:=Sx TA KM
 obtain⟨ja,a1,a2,a3⟩:=h.i a ha
 obtain⟨jb,b1,b2,b3⟩:=h.i b hb
 have hba:=nO.symm hw
 refine⟨⟨by unfold Dn;simp[h.n],fun i hi=>?_⟩,fun i hi hr j hj hc=>?_,fun hr j hj hc=>?_,fun hr j hj hc=>?_⟩
 ·rw[gl]
  by_cases KN:i=a∨i=b
  ·rw[if_pos KN]
   have conn:cS d (cK d i) (cK d a)∧cS d (cK d i) (cK d b):=by
    rcases KN with rfl|rfl
    ·exact⟨.refl _,nO⟩
    ·exact⟨hba,.refl _⟩
   by_cases hle:L.getD a 0≤L.getD b 0
   ·refine⟨ja,?_,by rw[←a2];omega,conn.1.trans a3⟩
    rcases KN with rfl|rfl
    ·exact a1
    ·rw[a2,b2]at hle;omega
   ·refine⟨jb,?_,by rw[←b2];omega,conn.2.trans b3⟩
    rcases KN with rfl|rfl
    ·rw[a2,b2]at hle;omega
    ·exact b1
  ·rw[if_neg KN];exact h.i i hi
 ·rw[gl]
  split
  ·rename_i KN
   have:=hr j hj hc
   rcases KN with rfl|rfl<;>omega
  ·exact hr j hj hc
 ·rw[gl,if_pos (.inr rfl)]
  have:=hr j hj (nO.trans hc)
  omega
 ·rw[gl,if_pos (.inl rfl)]
  have:=hr j hj (hba.trans hc)
  omega
theorem Ye{d:aj}(hw:Wf d){e:ai}(he:e∈d.2)(L:List Int):∃a b,a<d.1.length∧b<d.1.length∧bM d (e.1,0)=some (cK d a)∧bM d (e.1,1)=some (cK d b)∧FM d e L=Dn a b L:=by
 have h0:(e.1,0)∈au d.1:=hw.pd.mem_iff.2 (cQ.2 ⟨e,he,rfl,.inl rfl⟩)
 have h1:(e.1,1)∈au d.1:=hw.pd.mem_iff.2 (cQ.2 ⟨e,he,rfl,.inr rfl⟩)
 obtain⟨a,ha,ea⟩:=KK hw h0
 obtain⟨b,hb,eb⟩:=KK hw h1
 refine⟨a,b,ha,hb,ea,eb,?_⟩
 unfold FM Dn
 rw[ea,eb]
 simp only[Option.getD_some,Sw hw.sv ha,Sw hw.sv hb,Int.toNat_natCast]
 rw[if_pos ⟨by omega,by omega⟩]
theorem um{d:aj}(hw:Wf d):∀(l:List ai) {L:List Int},(∀e∈l,e∈d.2)→F2 d L→F2 d (jG d l L)∧(∀i,i<d.1.length→fJ d L i→fJ d (jG d l L) i) ∧
  (∀e∈l,∀a b,a<d.1.length→b<d.1.length→((bM d (e.1,0)=some (cK d a)∧bM d (e.1,1)=some (cK d b))∨(bM d (e.1,0)=some (cK d b)∧bM d (e.1,1)=some (cK d a)))→fJ d L a→fJ d (jG d l L) b)
 |[],L,_,h=>⟨h,fun i hi hr=>hr,fun e he=>by simp at he⟩
 |e::r,L,hl,h=>by
  have he:=hl e (List.mem_cons_self ..)
  obtain⟨a,b,ha,hb,ea,eb,el⟩:=Ye hw he L
  have h0:(e.1,0)∈au d.1:=hw.pd.mem_iff.2 (cQ.2 ⟨e,he,rfl,.inl rfl⟩)
  have nO:cS d (cK d a) (cK d b):=IK.conn ⟨(e.1,0),h0,ea,by rw[Cr];exact eb⟩
  obtain⟨s1,s2,s3,s4⟩:=Oh hw h ha hb nO
  obtain⟨t1,t2,t3⟩:=um hw r (L:=Dn a b L) (fun e he=>hl e (List.mem_cons_of_mem _ he)) s1
  show F2 d (jG d r (FM d e L))∧_∧_
  rw[el]
  refine⟨t1,fun i hi hr=>?_,fun f hf p q hp hq AI hr=>?_⟩
  ·show fJ d (jG d r (FM d e L)) i
   rw[el];exact t2 i hi (s2 i hi hr)
  ·show fJ d (jG d r (FM d e L)) q
   rw[el]
   rcases List.mem_cons.1 hf with rfl|hf
   ·refine t2 q hq ?_
    rcases AI with⟨k1,k2⟩|⟨k1,k2⟩
    ·rw[ea]at k1;rw[eb]at k2
     have:=jA hw.sv ha hp (Option.some.inj k1);subst this
     have:=jA hw.sv hb hq (Option.some.inj k2);subst this
     exact s3 hr
    ·rw[ea]at k1;rw[eb]at k2
     have:=jA hw.sv ha hq (Option.some.inj k1);subst this
     have:=jA hw.sv hb hp (Option.some.inj k2);subst this
     exact s4 hr
   ·exact t3 f hf p q hp hq AI (s2 p hp hr)
theorem KO{d:aj}(i:Nat)(hi:i<d.1.length):∃m,m<d.1.length∧cS d (cK d i) (cK d m)∧∀j,j<d.1.length→cS d (cK d i) (cK d j)→m≤j:=by
 induction i using Nat.strongRecOn with
 |ind i ih =>
  by_cases h:∃j,j<i∧cS d (cK d i) (cK d j)∧cS d (cK d j) (cK d i)
  ·obtain⟨j,hj,hc,ux⟩:=h
   obtain⟨m,h1,h2,h3⟩:=ih j hj (by omega)
   exact⟨m,h1,hc.trans h2,fun k hk hck=>h3 k hk (ux.trans hck)⟩
  ·by_cases hs:∃j,j<i∧cS d (cK d i) (cK d j)
   ·obtain⟨j,hj,hc⟩:=hs
    have key:∀n,n≤i→(∃m,m<n∧cS d (cK d i) (cK d m))→∃m,m<d.1.length∧cS d (cK d i) (cK d m)∧∀j,j<d.1.length→cS d (cK d i) (cK d j)→m≤j:=by
     intro n
     induction n with
     |zero=>rintro _ ⟨m,hm,_⟩;omega
     |succ n ihn =>
      rintro hn ⟨m,hm,FA⟩
      by_cases hb:∃m,m<n∧cS d (cK d i) (cK d m)
      ·exact ihn (by omega) hb
      ·have:m=n:=Classical.byContradiction fun k=>hb ⟨m,by omega,FA⟩
       subst this
       refine⟨m,by omega,FA,fun j hj NK=>Classical.byContradiction fun k=>hb ⟨j,by omega,NK⟩⟩
    exact key i (Nat.le_refl _) ⟨j,hj,hc⟩
   ·refine⟨i,hi,.refl _,fun j hj hc=>Classical.byContradiction fun k=>hs ⟨j,by omega,hc⟩⟩
theorem Oi{d:aj}(P:ID→Prop){x y:ID}(h:cS d x y)(hx:P x)(hy:¬P y):∃a b,IK d a b∧P a∧¬P b:=by
 induction h with
 |refl=>exact absurd hx hy
 | @tail b c k j ih =>
  by_cases hb:P b
  ·exact⟨_,_,j,hb,hy⟩
  ·exact ih hb
open Classical in
theorem IP{P Q:Nat→Prop}:∀{l:List Nat},(∀i∈l,P i→Q i)→(∃i∈l,Q i∧¬P i)→l.countP (fun i=>decide (P i))<l.countP (fun i=>decide (Q i))
 |[],_,h=>by obtain⟨i,hi,_⟩:=h;simp at hi
 |x::r,h,⟨i,hi,hq,hp⟩=>by
  have mono:r.countP (fun i=>decide (P i))≤r.countP (fun i=>decide (Q i)):=by
   have hr:∀i∈r,P i→Q i:=fun i hi=>h i (List.mem_cons_of_mem _ hi)
   clear h hi
   induction r with
   |nil=>simp
   |cons y r ih =>
    rw[List.countP_cons,List.countP_cons]
    have:=ih (fun i hi=>hr i (List.mem_cons_of_mem _ hi))
    have h2:=hr y (List.mem_cons_self ..)
    by_cases hy:P y
    ·simp[hy,h2 hy];exact this
    ·simp[hy];omega
  rw[List.countP_cons,List.countP_cons]
  rcases List.mem_cons.1 hi with rfl|hi
  ·simp[hq,hp];omega
  ·have:=IP (l:=r) (fun i hi=>h i (List.mem_cons_of_mem _ hi)) ⟨i,hi,hq,hp⟩
   have hx:=h x (List.mem_cons_self ..)
   by_cases hpx:P x
   ·simp[hpx,hx hpx];exact this
   ·simp[hpx];omega
theorem KP{d:aj}(hw:Wf d){L:List Int}(h:F2 d L)(hn:∃i,i<d.1.length∧¬fJ d L i):∃i,i<d.1.length∧fJ d (jG d d.2 L) i∧¬fJ d L i:=by
 obtain⟨i,hi,hr⟩:=hn
 obtain⟨m,m1,m2,m3⟩:=KO i hi
 have hm:fJ d L m:=fun j hj hc=>by
  obtain⟨q,q1,q2,_⟩:=h.i m m1
  have:=m3 j hj (m2.trans hc)
  rw[q2];omega
 let P:ID→Prop:=fun x=>∃k,k<d.1.length∧cK d k=x∧fJ d L k
 have hx:P (cK d m):=⟨m,m1,rfl,hm⟩
 have hy:¬P (cK d i):=fun⟨k,k1,k2,k3⟩=>by
  have:=jA hw.sv k1 hi k2
  exact hr (this▸k3)
 obtain⟨a,b,⟨z,hz,za,zb⟩,⟨p,p1,p2,p3⟩,hb⟩:=Oi P (m2.symm hw) hx hy
 obtain⟨q,q1,q2⟩:=KK hw (hw.other hz)
 rw[zb]at q2
 have hbq:b=cK d q:=Option.some.inj q2
 obtain⟨e,he,e1,e2⟩:=cQ.1 (hw.pd.mem_iff.1 hz)
 refine⟨q,q1,?_,fun k=>hb ⟨q,q1,hbq.symm,k⟩⟩
 refine(um hw d.2 (fun _ h=>h) h).2.2 e he p q p1 q1 ?_ p3
 rw[p2,←hbq]
 obtain⟨z1,z2⟩:=z
 simp only at e1 e2
 subst e1
 rcases e2 with rfl|rfl
 ·exact .inl ⟨za,zb⟩
 ·exact .inr ⟨zb,za⟩
open Classical in
theorem Cu{d:aj}(hw:Wf d):∀(n:Nat) {L:List Int},F2 d L→d.1.length≤n+(List.range d.1.length).countP (fun i=>decide (fJ d L i))→IM d (Ig d n L)
 |0,L,h,hc=>by
  refine⟨h,fun i hi=>?_⟩
  have h1:(List.range d.1.length).countP (fun i=>decide (fJ d L i))=(List.range d.1.length).length:=by
   have:=List.countP_le_length (p:=fun i=>decide (fJ d L i)) (l:=List.range d.1.length)
   simp at this ⊢;omega
  have:=List.countP_eq_length.1 h1 i (List.mem_range.2 hi)
  exact of_decide_eq_true this
 |n+1,L,h,hc=>by
  obtain⟨s1,s2,_⟩:=um hw d.2 (fun _ h=>h) h
  show IM d (Ig d n (jG d d.2 L))
  refine Cu hw n s1 ?_
  by_cases hn:∃i,i<d.1.length∧¬fJ d L i
  ·obtain⟨i,hi,h1,h2⟩:=KP hw h hn
   have:=IP (P:=fJ d L) (Q:=fJ d (jG d d.2 L)) (l:=List.range d.1.length) (fun i hi=>s2 i (List.mem_range.1 hi)) ⟨i,List.mem_range.2 hi,h1,h2⟩
   omega
  ·have:(List.range d.1.length).countP (fun i=>decide (fJ d (jG d d.2 L) i))=(List.range d.1.length).length:=by
    rw[List.countP_eq_length]
    intro i hi
    have hi:=List.mem_range.1 hi
    exact decide_eq_true (s2 i hi (Classical.byContradiction fun k=>hn ⟨i,hi,k⟩))
   rw[this];simp
theorem Yf(d:aj):F2 d (Dk d.1.length):=by
 refine⟨by unfold Dk;simp,fun i hi=>⟨i,Nat.le_refl _,?_,.refl _⟩⟩
 unfold Dk
 simp[List.getD,hi]
theorem fC{d:aj}(hw:Wf d):IM d (labels d):=Cu hw d.1.length (Yf d) (by omega)
theorem IM.uniq{d:aj}(hw:Wf d){L M:List Int}(h:IM d L)(k:IM d M):L=M:=by
 apply List.ext_getElem?
 intro i
 by_cases hi:i<d.1.length
 ·have e1:L[i]? = some (L.getD i 0):=by rw[List.getElem?_eq_getElem (by rw[h.l.n];exact hi)];simp[List.getD,h.l.n,hi]
  have e2:M[i]? = some (M.getD i 0):=by rw[List.getElem?_eq_getElem (by rw[k.l.n];exact hi)];simp[List.getD,k.l.n,hi]
  obtain⟨a,a1,a2,a3⟩:=h.l.i i hi
  obtain⟨b,b1,b2,b3⟩:=k.l.i i hi
  have h1:=h.r i hi b (by omega) b3
  have h2:=k.r i hi a (by omega) a3
  rw[e1,e2];congr 1;omega
 ·rw[List.getElem?_eq_none (by rw[h.l.n];omega),List.getElem?_eq_none (by rw[k.l.n];omega)]
def kS(d:aj)(L:List Int):List ID:=((List.range d.1.length).filter fun i=>decide (L.getD i 0=(i:Int))).map (cK d)
theorem m6{d:aj}(hw:Wf d){L:List Int}(h:IM d L):vT d (kS d L):=by
 have mem:∀{r:ID},r∈kS d L↔∃i,i<d.1.length∧L.getD i 0=(i:Int)∧cK d i=r:=fun {r}=>by
  unfold kS
  rw[List.mem_map]
  constructor
  ·rintro⟨i,hi,rfl⟩
   rw[List.mem_filter,List.mem_range]at hi
   exact⟨i,hi.1,by simpa using hi.2,rfl⟩
  ·rintro⟨i,h1,h2,rfl⟩
   exact⟨i,by rw[List.mem_filter,List.mem_range];exact⟨h1,by simpa using h2⟩,rfl⟩
 refine⟨?_,fun r hr=>?_,fun r hr s hs hc=>?_,fun v hv=>?_⟩
 ·unfold kS List.Nodup
  rw[List.pairwise_map]
  have hp:((List.range d.1.length).filter fun i=>decide (L.getD i 0=(i:Int))).Nodup:=List.nodup_range.filter _
  refine List.Pairwise.imp_of_mem (fun {a b} ha hb br e=>br ?_) hp
  exact jA hw.sv (List.mem_range.1 (List.mem_filter.1 ha).1) (List.mem_range.1 (List.mem_filter.1 hb).1) e
 ·obtain⟨i,hi,_,rfl⟩:=mem.1 hr
  exact⟨d.1[i],List.getElem_mem hi,(m0 (List.getElem?_eq_getElem hi)).symm⟩
 ·obtain⟨i,hi,h1,rfl⟩:=mem.1 hr
  obtain⟨j,hj,h2,rfl⟩:=mem.1 hs
  have k1:=h.r i hi j hj hc
  have k2:=h.r j hj i hi (hc.symm hw)
  have:i=j:=by omega
  rw[this]
 ·obtain⟨i,hi,he⟩:=List.getElem_of_mem hv
  have bO:cK d i=v.1:=by rw[m0 (List.getElem?_eq_getElem hi),he]
  obtain⟨j,j1,j2,j3⟩:=h.l.i i hi
  refine⟨cK d j,mem.2 ⟨j,by omega,?_,rfl⟩,by rw[←bO];exact j3⟩
  obtain⟨k,k1,k2,k3⟩:=h.l.i j (by omega)
  have h1:=h.r i hi k (by omega) (j3.trans k3)
  rw[j2]at h1
  rw[k2]
  have:j=k:=by omega
  rw[this]
theorem xC:∀(l:List Int) (i:Nat) (n:Nat),n+l.length≤1000000→pU l (i:Int) (n:Int)=((n+((List.range l.length).filter fun j=>decide (l.getD j 0=((i+j:Nat):Int))).length:Nat):Int)
 |[],i,n,_=>by simp[pU]
 |x::r,i,n,h=>by
  simp at h
  have e:((List.range (x::r).length).filter fun j=>decide ((x::r).getD j 0=((i+j:Nat):Int))).length=(if x=(i:Int) then 1 else 0)+((List.range r.length).filter fun j=>decide (r.getD j 0=((i+1+j:Nat):Int))).length:=by
   rw[List.length_cons,List.range_succ_eq_map,List.filter_cons]
   have e2:((List.range r.length).map Nat.succ).filter (fun j=>decide ((x::r).getD j 0=((i+j:Nat):Int)))=((List.range r.length).filter fun j=>decide (r.getD j 0=((i+1+j:Nat):Int))).map Nat.succ:=by
    rw[List.filter_map]
    congr 1
    apply List.filter_congr
    intro j _
    simp only[Function.comp,Nat.succ_eq_add_one,List.getD_cons_succ]
    rw[show i+(j+1)=i+1+j by omega]
   rw[e2]
   simp only[List.getD_cons_zero,Nat.add_zero]
   by_cases hx:x=(i:Int)
   ·simp[hx];omega
   ·simp[hx]
  rw[e]
  unfold pU
  have hi:((i:Int)+1)=((i+1:Nat):Int):=by omega
  rw[hi]
  by_cases hx:x=(i:Int)
  ·rw[if_pos hx,if_pos hx]
   have hw:IntKind.wrap .i64 ((n:Int)+1)=((n+1:Nat):Int):=by rw[wrap_small (by omega) (by omega)];omega
   rw[hw,xC r (i+1) (n+1) (by omega)]
   congr 1;omega
  ·rw[if_neg hx,if_neg hx,xC r (i+1) n (by omega)]
   congr 1;omega
theorem sH{d:aj}(hw:Wf d):eZ d=((kS d (labels d)).length:Int):=by
 have h:=fC hw
 have hn:=hw.nv
 unfold eZ
 have:=xC (labels d) 0 0 (by rw[h.l.n];omega)
 simp only[Nat.zero_add]at this
 have e:pU (labels d) 0 0=pU (labels d) ((0:Nat):Int) ((0:Nat):Int):=rfl
 rw[e,this]
 unfold kS
 rw[List.length_map,h.l.n]
theorem xD:∀(l:List ah) (n:Nat),n+l.length≤1000000→ru l (n:Int)=((n+al l:Nat):Int)
 |[],n,_=>by simp[ru,al]
 |v::r,n,h=>by
  simp at h
  unfold ru al
  rw[List.countP_cons]
  by_cases hv:v.2.1.length=0
  ·have:v.2.1.isEmpty=true:=by rw[List.isEmpty_iff];simpa using hv
   have hw:IntKind.wrap .i64 ((n:Int)+1)=((n+1:Nat):Int):=by rw[wrap_small (by omega) (by omega)];omega
   rw[if_pos hv,hw,xD r (n+1) (by omega),this]
   unfold al
   congr 1;simp;omega
  ·have:v.2.1.isEmpty=false:=by
    cases hq:v.2.1 with
    |nil=>rw[hq]at hv;exact absurd rfl hv
    |cons _ _=>rfl
   rw[if_neg hv,xD r n (by omega),this]
   unfold al
   simp
theorem vV{d:aj}(hw:Wf d):(cW d).length≤80:=by
 have h:=b8 hw
 have h1:=h.p.length_eq
 have h2:=hw.IJ
 have h3:(cW d).length≤(cW d).flatten.length:=by
  have hc:=h.c
  generalize cW d=cs at hc
  induction cs with
  |nil=>simp
  |cons c r ih =>
   have:=ih (fun c Y9=>hc c (List.mem_cons_of_mem _ Y9))
   have h1:=(hc c (List.mem_cons_self ..)).ne
   have:0<c.length:=Nat.pos_of_ne_zero fun k=>h1 (List.length_eq_zero_iff.1 k)
   simp only[List.length_cons,List.flatten_cons,List.length_append];omega
 omega
theorem Oj{d:aj}(hw:Wf d):B7 d=((ft d:Nat):Int):=by
 unfold B7 ft
 have:=hw.nv
 have:=vV hw
 exact xD d.1 (cW d).length (by omega)
theorem Sy{d:aj}(hw:Wf d){R:List ID}(hr:vT d R):∃k:Nat,fS d=(k:Int)∧d.1.length+ft d+2*k=2*R.length+d.2.length:=by
 have hl:=(m6 hw (fC hw)).len hw hr
 obtain⟨k,hk⟩:=Mj d.2.length d hw rfl R hr
 refine⟨k,?_,hk⟩
 have hn:=hw.nv;have he:=hw.ne
 have hf:=vV hw
 have ha:al d.1≤d.1.length:=List.countP_le_length
 have hR:R.length≤d.1.length:=by
  rw[←hl];unfold kS
  rw[List.length_map]
  exact Nat.le_trans (List.length_filter_le _ _) (by simp)
 have ZX:ft d=(cW d).length+al d.1:=rfl
 unfold fS
 rw[sH hw,Oj hw,hl]
 rw[wrap_small (n:=2*((R.length:Nat):Int)) (by omega) (by omega)]
 rw[wrap_small (n:=2*((R.length:Nat):Int)-((d.1.length:Nat):Int)) (by omega) (by omega)]
 rw[wrap_small (n:=2*((R.length:Nat):Int)-((d.1.length:Nat):Int)+((d.2.length:Nat):Int)) (by omega) (by omega)]
 have e:2*((R.length:Nat):Int)-((d.1.length:Nat):Int)+((d.2.length:Nat):Int)-((ft d:Nat):Int)=2*(k:Int):=by omega
 rw[e,wrap_small (n:=2*(k:Int)) (by omega) (by omega)]
 have e2:Int.tdiv (2*(k:Int)) 2=(k:Int):=by
  rw[Int.tdiv_eq_ediv_of_nonneg (by omega)];omega
 rw[e2,wrap_small (by omega) (by omega)]
end Go.Vs
