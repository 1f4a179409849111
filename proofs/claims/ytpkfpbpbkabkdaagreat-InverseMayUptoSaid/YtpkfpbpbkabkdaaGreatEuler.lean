/- Faces, parts, and Euler's formula. -/
import Derived.Test.YtpkfpbpbkabkdaaGreatSplits
set_option linter.unusedVariables false
namespace Go.Cy
variable {α:Type}
def Path(f:α→α):List α→α→Prop
 |[],_=>True
 |x::r,z=>f x=r.head?.getD z∧Path f r z
theorem Path.app{f:α→α}:∀{a b:List α} {z:α},Path f (a++b) z↔Path f a (b.head?.getD z)∧Path f b z
 |[],b,z=>by simp[Path]
 |x::r,b,z=>by
  have ih:=Path.app (f:=f) (a:=r) (b:=b) (z:=z)
  simp only[List.cons_append,Path]
  rw[ih]
  have:(r++b).head?.getD z=r.head?.getD (b.head?.getD z):=by cases r<;>simp
  rw[this,and_assoc]
theorem Path.congr{f g:α→α}:∀{a:List α} {z:α},(∀x∈a,g x=f x)→Path f a z→Path g a z
 |[],_,_,_=>trivial
 |x::r,z,h,p=>⟨(h x (List.mem_cons_self ..)).trans p.1,Path.congr (fun y hy=>h y (List.mem_cons_of_mem _ hy)) p.2⟩
def kN(f:α→α):List α→Prop
 |[]=>False
 |x::r=>Path f (x::r) x
theorem kN.two{f:α→α}{x y:α}{a b:List α}:kN f ((x::a)++(y::b))↔Path f (x::a) y∧Path f (y::b) x:=by
 show Path f ((x::a)++(y::b)) x↔_
 rw[Path.app];rfl
theorem kN.CM{f:α→α}:∀{a b:List α},kN f (a++b)→kN f (b++a)
 |[],b,h=>by simpa using h
 |x::a,[],h=>by simpa using h
 |x::a,y::b,h=>kN.two.2 ⟨(kN.two.1 h).2,(kN.two.1 h).1⟩
theorem kN.ne{f:α→α}{c:List α}(h:kN f c):c≠[]:=by rintro rfl;exact h
theorem kN.congr{f g:α→α}{c:List α}(h:∀x∈c,g x=f x)(k:kN f c):kN g c:=by
 cases c with
 |nil=>exact k
 |cons x r=>exact Path.congr h k
theorem Path.step{f:α→α}:∀{a:List α} {z x:α},Path f a z→x∈a→f x∈a∨f x=z
 |y::r,z,x,p,hx=>by
  rcases List.mem_cons.1 hx with rfl|hx
  ·cases r with
   |nil=>exact .inr p.1
   |cons u r=>exact .inl (by have:=p.1;simp at this;rw[this];simp)
  ·rcases Path.step p.2 hx with h|h
   ·exact .inl (List.mem_cons_of_mem _ h)
   ·exact .inr h
theorem kN.step{f:α→α}{c:List α}(h:kN f c){x:α}(hx:x∈c):f x∈c:=by
 cases c with
 |nil=>exact h.elim
 |cons y r =>
  rcases Path.step (show Path f (y::r) y from h) hx with k|k
  ·exact k
  ·rw[k];simp
def it(f:α→α):Nat→α→α
 |0,x=>x
 |n+1,x=>it f n (f x)
theorem kN.it{f:α→α}{c:List α}(h:kN f c):∀(n:Nat) {x:α},x∈c→it f n x∈c
 |0,_,hx=>hx
 |n+1,_,hx=>kN.it h n (h.step hx)
theorem Path.reach{f:α→α}:∀{r:List α} {x z:α},Path f (x::r) z→∀y∈x::r,∃n,it f n x=y
 |[],x,z,_,y,hy=>by simp at hy;exact⟨0,hy.symm⟩
 |u::r,x,z,p,y,hy=>by
  rcases List.mem_cons.1 hy with rfl|hy
  ·exact⟨0,rfl⟩
  ·have h1:f x=u:=p.1
   obtain⟨n,hn⟩:=Path.reach p.2 y hy
   exact⟨n+1,by show it f n (f x)=y;rw[h1];exact hn⟩
theorem kN.head{f:α→α}{c:List α}(h:kN f c){x:α}(hx:x∈c):∃r,kN f (x::r)∧(x::r).Perm c:=by
 obtain⟨a,b,rfl⟩:=List.append_of_mem hx
 exact⟨b++a,kN.CM h,List.perm_append_comm (l₁:=x::b) (l₂:=a)⟩
theorem kN.reach{f:α→α}{c:List α}(h:kN f c){x y:α}(hx:x∈c)(hy:y∈c):∃n,Cy.it f n x=y:=by
 obtain⟨r,h1,h2⟩:=h.head hx
 exact Path.reach (show Path f (x::r) x from h1) y (h2.mem_iff.2 hy)
theorem kN.same{f:α→α}{c c':List α}(h:kN f c)(h':kN f c'){x:α}(hx:x∈c)(Zb:x∈c'){y:α}(hy:y∈c):y∈c':=by
 obtain⟨n,hn⟩:=h.reach hx hy
 rw[←hn];exact h'.it n Zb
structure Gd(f:α→α)(D:List α)(cs:List (List α)):Prop where
 c:∀c∈cs,kN f c
 p:cs.flatten.Perm D
theorem gG(p q:List (List α))(c:List α):(p++c::q).flatten.Perm (c++(p++q).flatten):=by
 simp only[List.flatten_append,List.flatten_cons]
 rw[←List.append_assoc,←List.append_assoc]
 exact List.Perm.append_right _ List.perm_append_comm
theorem Gd.count{f:α→α}:∀{cs cs':List (List α)} {D:List α},D.Nodup→Gd f D cs→Gd f D cs'→cs.length=cs'.length
 |[],cs',D,hn,h,h'=>by
  have hD:D=[]:=by have:=h.p;simp at this;exact this.symm▸rfl
  subst hD
  cases cs' with
  |nil=>rfl
  |cons c r =>
   have:=h'.p.length_eq
   have h1:=(h'.c c (by simp)).ne
   cases c with
   |nil=>exact absurd rfl h1
   |cons x c=>simp at this
 |c::r,cs',D,hn,h,h'=>by
  have hc:=h.c c (by simp)
  obtain⟨x,c0,rfl⟩:∃x c0,c=x::c0:=by
   cases c with
   |nil=>exact hc.elim
   |cons x c0=>exact⟨x,c0,rfl⟩
  have hx:x∈cs'.flatten:=h'.p.mem_iff.2 (h.p.mem_iff.1 (by simp))
  obtain⟨c',YR,abQ⟩:=List.mem_flatten.1 hx
  obtain⟨p,q,rfl⟩:=List.append_of_mem YR
  have abR:=h'.c c' (by simp)
  have n1:(x::c0).Nodup:=by
   have:=h.p.nodup_iff.2 hn
   rw[List.flatten_cons]at this
   exact(List.nodup_append.1 this).1
  have n2:c'.Nodup:=by
   have:=(gG p q c').nodup_iff.1 (h'.p.nodup_iff.2 hn)
   exact(List.nodup_append.1 this).1
  have pc:(x::c0).Perm c':=(List.perm_ext_iff_of_nodup n1 n2).2 fun y=>⟨fun hy=>hc.same abR (by simp) abQ hy,fun hy=>abR.same hc abQ (by simp) hy⟩
  have pd:((x::c0)++r.flatten).Perm ((x::c0)++(p++q).flatten):=by
   have e1:((x::c0)++r.flatten).Perm D:=by have:=h.p;rwa [List.flatten_cons]at this
   have e2:(c'++(p++q).flatten).Perm D:=(gG p q c').symm.trans h'.p
   exact e1.trans (e2.symm.trans (List.Perm.append_right _ pc.symm))
  have pr:=(List.perm_append_left_iff _).1 pd
  have TT:r.flatten.Nodup:=by
   have:=h.p.nodup_iff.2 hn
   rw[List.flatten_cons]at this
   exact(List.nodup_append.1 this).2.1
  have ih:=Gd.count (cs:=r) (cs':=p++q) (D:=r.flatten) TT ⟨fun c hc=>h.c c (by simp[hc]),List.Perm.refl _⟩ ⟨fun c hc=>h'.c c (by
   rcases List.mem_append.1 hc with k|k<;>simp[k]),pr.symm⟩
  simp at ih ⊢;omega
theorem Path.kK{f g:α→α}:∀{a:List α} {z z':α},Path f a z→z∉a.tail→(∀u∈a,f u≠z→g u=f u)→(∀u∈a,f u=z→g u=z')→Path g a z'
 |[],_,_,_,_,_,_=>trivial
 |[x],z,z',p,hz,h1,h2=>⟨h2 x (by simp) p.1,trivial⟩
 |x::y::r,z,z',p,hz,h1,h2=>by
  have e:f x=y:=p.1
  have br:y≠z:=fun k=>hz (by simp[k])
  refine⟨(h1 x (by simp) (by rw[e];exact br)).trans e,?_⟩
  exact Path.kK p.2 (fun k=>hz (List.mem_cons_of_mem _ k)) (fun u hu=>h1 u (List.mem_cons_of_mem _ hu)) (fun u hu=>h2 u (List.mem_cons_of_mem _ hu))
def nz:List α→Nat
 |[]=>0
 |_::_=>1
def kL(l:List α):List (List α):=match l with | []=>[]|x::r=>[x::r]
theorem uo(l:List α):(kL l).flatten=l:=by cases l<;>simp[kL]
theorem Ej(l:List α):(kL l).length=nz l:=by cases l<;>rfl
theorem mw{l:List α}{z:α}(h:z∈l.tail):z∈l:=List.mem_of_mem_tail h
section
variable [DecidableEq α]
def vQ(f':α→α)(x y:α)(z:α):α :=
 if f' z=x then(if f' y=y then f' x else f' y) else if f' z=y then(if f' x=x then f' y else f' x) else f' z
theorem Gd.RT{f' f:α→α}{x y:α}{D:List α}{cs':List (List α)}{c:List α}(TQ:x≠y)(hn:(x::y::D).Nodup)(h:Gd f' (x::y::D) cs')(hf:∀z∈D,f z=vQ f' x y z)(hc:c∈cs')(hx:x∈c)(hy:y∈c) :
  ∃cs,Gd f D cs∧cs.length+1=cs'.length+(if f' x=y then 0 else 1)+(if f' y=x then 0 else 1):=by
 obtain⟨p,q,rfl⟩:=List.append_of_mem hc
 have YP:=h.c c hc
 obtain⟨r,h1,h2⟩:=YP.head hx
 have hyr:y∈r:=by
  rcases List.mem_cons.1 (h2.mem_iff.2 hy) with k|k
  ·exact absurd k.symm TQ
  ·exact k
 obtain⟨B,A,rfl⟩:=List.append_of_mem hyr
 have h3:kN f' ((x::B)++(y::A)):=h1
 obtain⟨⟨fx,pB⟩,⟨fy,pA⟩⟩:=kN.two.1 h3
 have pd:(x::y::(B++A++(p++q).flatten)).Perm (x::y::D):=by
  refine List.Perm.trans ?_ h.p
  refine List.Perm.trans ?_ (gG p q c).symm
  refine List.Perm.trans ?_ (List.Perm.append_right _ h2)
  show(x::y::(B++A++(p++q).flatten)).Perm (x::((B++y::A)++(p++q).flatten))
  refine List.Perm.cons x ?_
  rw[List.append_assoc B (y::A),List.cons_append,List.append_assoc]
  exact List.perm_middle.symm
 have pD:=(pd.cons_inv).cons_inv
 have nd:=pd.nodup_iff.2 hn
 have nx:x∉B++A++(p++q).flatten:=fun k=>(List.nodup_cons.1 nd).1 (List.mem_cons_of_mem _ k)
 have ny:y∉B++A++(p++q).flatten:=(List.nodup_cons.1 (List.nodup_cons.1 nd).2).1
 have xB:x∉B:=fun k=>nx (by simp[k])
 have xA:x∉A:=fun k=>nx (by simp[k])
 have yB:y∉B:=fun k=>ny (by simp[k])
 have yA:y∉A:=fun k=>ny (by simp[k])
 have RU:∀z∈B++A++(p++q).flatten,z∈D:=fun z hz=>pD.mem_iff.1 hz
 have cB:∀c∈kL B,kN f c:=fun c hc=>by
  cases B with
  |nil=>simp[kL]at hc
  |cons b B =>
   have hc:c=b::B:=by simpa[kL] using hc
   subst hc
   have fx:f' x=b:=fx
   have bx:b≠x:=fun k=>xB (by simp[k])
   refine Path.kK pB (fun k=>yB (mw k)) (fun u hu br=>?_) (fun u hu heq=>?_)
   ·rw[hf u (RU u (by simp at hu ⊢;rcases hu with k|k<;>simp[k]))]
    unfold vQ
    have:f' u≠x:=fun k=>by
     rcases pB.step hu with m|m
     ·exact xB (k▸m)
     ·exact br m
    rw[if_neg this,if_neg br]
   ·rw[hf u (RU u (by simp at hu ⊢;rcases hu with k|k<;>simp[k]))]
    unfold vQ
    rw[if_neg (by rw[heq];exact fun k=>TQ k.symm),if_pos heq,if_neg (by rw[fx];exact bx),fx]
 have cA:∀c∈kL A,kN f c:=fun c hc=>by
  cases A with
  |nil=>simp[kL]at hc
  |cons a A =>
   have hc:c=a::A:=by simpa[kL] using hc
   subst hc
   have fy:f' y=a:=fy
   have ay:a≠y:=fun k=>yA (by simp[k])
   refine Path.kK pA (fun k=>xA (mw k)) (fun u hu br=>?_) (fun u hu heq=>?_)
   ·rw[hf u (RU u (by simp at hu ⊢;rcases hu with k|k<;>simp[k]))]
    unfold vQ
    have:f' u≠y:=fun k=>by
     rcases pA.step hu with m|m
     ·exact yA (k▸m)
     ·exact br m
    rw[if_neg br,if_neg this]
   ·rw[hf u (RU u (by simp at hu ⊢;rcases hu with k|k<;>simp[k]))]
    unfold vQ
    rw[if_pos heq,if_neg (by rw[fy];exact ay),fy]
 have cR:∀c∈p++q,kN f c:=fun c hc=>by
  have YR:c∈p++((x::B)++(y::A))::q:=by
   rcases List.mem_append.1 hc with k|k<;>simp[k]
  have Cd:kN f' c:=h.c c (by rcases List.mem_append.1 hc with k|k<;>simp[k])
  refine Cd.congr fun z hz=>?_
  have hzf:∀u∈c,u∈(p++q).flatten:=fun u hu=>List.mem_flatten.2 ⟨c,hc,hu⟩
  have hm:=hzf _ (Cd.step hz)
  rw[hf z (RU z (List.mem_append_right _ (hzf z hz)))]
  unfold vQ
  rw[if_neg (fun k=>nx (List.mem_append_right _ (by rw[←k];exact hm))),if_neg (fun k=>ny (List.mem_append_right _ (by rw[←k];exact hm)))]
 refine⟨kL B++(kL A++(p++q)),⟨fun c hc=>?_,?_⟩,?_⟩
 ·rcases List.mem_append.1 hc with k|k
  ·exact cB c k
  rcases List.mem_append.1 k with k|k
  ·exact cA c k
  ·exact cR c k
 ·rw[List.flatten_append,List.flatten_append,uo,uo,←List.append_assoc]
  exact pD
 ·have eB:(if f' x=y then 0 else 1)=nz B:=by
   cases B with
   |nil=>exact if_pos fx
   |cons b B=>exact if_neg (fun k=>yB (by rw[←k,show f' x=b from fx];simp))
  have eA:(if f' y=x then 0 else 1)=nz A:=by
   cases A with
   |nil=>exact if_pos fy
   |cons a A=>exact if_neg (fun k=>xA (by rw[←k,show f' y=a from fy];simp))
  rw[eB,eA]
  simp only[List.length_append,Ej,List.length_cons]
  omega
theorem Gd.RV{f' f:α→α}{x y:α}{D:List α}{cs':List (List α)}{c:List α}(TQ:x≠y)(hn:(x::y::D).Nodup)(h:Gd f' (x::y::D) cs')(hf:∀z∈D,f z=vQ f' x y z)(hc:c∈cs')(hx:x∈c)(hy:y∉c) :
  ∃cs,Gd f D cs∧cs.length+2=cs'.length+(if f' x=x∧f' y=y then 0 else 1):=by
 obtain⟨p,q,rfl⟩:=List.append_of_mem hc
 have YP:=h.c c hc
 obtain⟨B,h1,h2⟩:=YP.head hx
 have hyc:y∈(p++q).flatten:=by
  have:y∈(p++c::q).flatten:=h.p.mem_iff.2 (by simp)
  rcases List.mem_append.1 ((gG p q c).mem_iff.1 this) with k|k
  ·exact absurd k hy
  ·exact k
 obtain⟨c2,uy,ag1⟩:=List.mem_flatten.1 hyc
 have ag2:c2∈p++c::q:=by rcases List.mem_append.1 uy with k|k<;>simp[k]
 obtain⟨A,h3,h4⟩:=(h.c c2 ag2).head ag1
 obtain⟨p2,q2,AA⟩:=List.append_of_mem uy
 obtain⟨fx,pB⟩:=(show Path f' (x::B) x from h1)
 obtain⟨fy,pA⟩:=(show Path f' (y::A) y from h3)
 have pd:(x::y::(B++A++(p2++q2).flatten)).Perm (x::y::D):=by
  refine List.Perm.trans ?_ h.p
  refine List.Perm.trans ?_ (gG p q c).symm
  rw[AA]
  refine List.Perm.trans ?_ (List.Perm.append_right _ h2)
  refine List.Perm.trans ?_ (List.Perm.append_left _ (gG p2 q2 c2).symm)
  refine List.Perm.trans ?_ (List.Perm.append_left _ (List.Perm.append_right _ h4))
  show(x::y::(B++A++(p2++q2).flatten)).Perm (x::(B++(y::(A++(p2++q2).flatten))))
  refine List.Perm.cons x ?_
  rw[List.append_assoc]
  exact List.perm_middle.symm
 have pD:=(pd.cons_inv).cons_inv
 have nd:=pd.nodup_iff.2 hn
 have nx:x∉B++A++(p2++q2).flatten:=fun k=>(List.nodup_cons.1 nd).1 (List.mem_cons_of_mem _ k)
 have ny:y∉B++A++(p2++q2).flatten:=(List.nodup_cons.1 (List.nodup_cons.1 nd).2).1
 have xB:x∉B:=fun k=>nx (by simp[k])
 have xA:x∉A:=fun k=>nx (by simp[k])
 have yB:y∉B:=fun k=>ny (by simp[k])
 have yA:y∉A:=fun k=>ny (by simp[k])
 have RU:∀z∈B++A++(p2++q2).flatten,z∈D:=fun z hz=>pD.mem_iff.1 hz
 have nB:∀u∈B,f' u≠x→f u=f' u:=fun u hu br=>by
  rw[hf u (RU u (by simp[hu]))]
  unfold vQ
  have:f' u≠y:=fun k=>by
   rcases pB.step hu with m|m
   ·exact yB (k▸m)
   ·exact br m
  rw[if_neg br,if_neg this]
 have nA:∀u∈A,f' u≠y→f u=f' u:=fun u hu br=>by
  rw[hf u (RU u (by simp[hu]))]
  unfold vQ
  have:f' u≠x:=fun k=>by
   rcases pA.step hu with m|m
   ·exact xA (k▸m)
   ·exact br m
  rw[if_neg this,if_neg br]
 have eB:∀u∈B,f' u=x→f u=if f' y=y then f' x else f' y:=fun u hu heq=>by
  rw[hf u (RU u (by simp[hu]))]
  unfold vQ
  rw[if_pos heq]
 have eA:∀u∈A,f' u=y→f u=if f' x=x then f' y else f' x:=fun u hu heq=>by
  rw[hf u (RU u (by simp[hu]))]
  unfold vQ
  rw[if_neg (by rw[heq];exact fun k=>TQ k.symm),if_pos heq]
 have cBA:∀c∈kL (B++A),kN f c:=fun c hc=>by
  cases B with
  |nil =>
   cases A with
   |nil=>simp[kL]at hc
   |cons a A =>
    have hc:c=a::A:=by simpa[kL] using hc
    subst hc
    refine Path.kK pA (fun k=>yA (mw k)) nA (fun u hu heq=>?_)
    rw[eA u hu heq,if_pos (show f' x=x from fx)];exact fy
  |cons b B =>
   have fxb:f' x=b:=fx
   have bx:b≠x:=fun k=>xB (by simp[k])
   cases A with
   |nil =>
    have hc:c=b::B:=by simpa[kL] using hc
    subst hc
    refine Path.kK pB (fun k=>xB (mw k)) nB (fun u hu heq=>?_)
    rw[eB u hu heq,if_pos (show f' y=y from fy)];exact fxb
   |cons a A =>
    have hc:c=(b::B)++(a::A):=by simpa[kL] using hc
    subst hc
    have fya:f' y=a:=fy
    have ay:a≠y:=fun k=>yA (by simp[k])
    refine kN.two.2 ⟨Path.kK pB (fun k=>xB (mw k)) nB (fun u hu heq=>?_),Path.kK pA (fun k=>yA (mw k)) nA (fun u hu heq=>?_)⟩
    ·rw[eB u hu heq,if_neg (by rw[fya];exact ay)];exact fya
    ·rw[eA u hu heq,if_neg (by rw[fxb];exact bx)];exact fxb
 have cR:∀c∈p2++q2,kN f c:=fun c hc=>by
  have Fp:c∈p++q:=by rw[AA];rcases List.mem_append.1 hc with k|k<;>simp[k]
  have Cd:kN f' c:=h.c c (by rcases List.mem_append.1 Fp with k|k<;>simp[k])
  refine Cd.congr fun z hz=>?_
  have hzf:∀u∈c,u∈(p2++q2).flatten:=fun u hu=>List.mem_flatten.2 ⟨c,hc,hu⟩
  have hm:=hzf _ (Cd.step hz)
  rw[hf z (RU z (List.mem_append_right _ (hzf z hz)))]
  unfold vQ
  rw[if_neg (fun k=>nx (List.mem_append_right _ (by rw[←k];exact hm))),if_neg (fun k=>ny (List.mem_append_right _ (by rw[←k];exact hm)))]
 refine⟨kL (B++A)++(p2++q2),⟨fun c hc=>?_,?_⟩,?_⟩
 ·rcases List.mem_append.1 hc with k|k
  ·exact cBA c k
  ·exact cR c k
 ·rw[List.flatten_append,uo]
  exact pD
 ·have eBA:(if f' x=x∧f' y=y then 0 else 1)=nz (B++A):=by
   cases B with
   |nil =>
    cases A with
    |nil=>exact if_pos ⟨fx,fy⟩
    |cons a A=>exact if_neg (fun k=>yA (by rw[←k.2,show f' y=a from fy];simp))
   |cons b B=>exact if_neg (fun k=>xB (by rw[←k.1,show f' x=b from fx];simp))
  rw[eBA]
  have hl:(p++q).length=(p2++c2::q2).length:=by rw[AA]
  simp only[List.length_append,Ej,List.length_cons]at hl ⊢
  omega
end
end Go.Cy
set_option linter.unusedSimpArgs false
namespace Go.Vs
open Go.Proofs Go.Cy
def skip(x:ae)(s:ae→ae)(z:ae):ae:=if s z=x then s x else s z
def iX(row:List ae)(x:ae):ae:=(cz row x 1).getD zD
theorem vR{row:List ae}(hn:row.Nodup){i:Nat}{x:ae}(hx:row[i]? = some x):iX row x=(row[(i+1)%row.length]?).getD zD:=by
 unfold iX cz
 rw[if_pos (List.mem_of_getElem? hx),UH hn hx,Int.toNat_natCast]
theorem Ek{row:List ae}(hn:row.Nodup):∀(r p:List ae),row=p++r→Path (iX row) r (row.head?.getD zD)
 |[],_,_=>trivial
 |x::r,p,h=>by
  refine⟨?_,Ek hn r (p++[x]) (by rw[h];simp)⟩
  have hx:row[p.length]? = some x:=by rw[h];simp
  rw[vR hn hx]
  cases r with
  |nil =>
   have hl:row.length=p.length+1:=by rw[h];simp
   rw[hl,Nat.mod_self]
   show(row[0]?).getD zD=row.head?.getD zD
   rw[List.head?_eq_getElem?]
  |cons y r =>
   have hl:p.length+1<row.length:=by rw[h];simp
   rw[Nat.mod_eq_of_lt hl]
   have:row[p.length+1]? = some y:=by rw[h];simp
   rw[this];rfl
theorem Ce{row:List ae}(hn:row.Nodup)(h0:row≠[]):kN (iX row) row:=by
 have:=Ek hn row [] rfl
 cases row with
 |nil=>exact absurd rfl h0
 |cons x r=>exact this
theorem Cf{f g:ae→ae}:∀{a:List ae} {z:ae},Path f a z→Path g a z→∀x∈a,f x=g x
 |y::r,z,p,q,x,hx=>by
  rcases List.mem_cons.1 hx with rfl|hx
  ·exact p.1.trans q.1.symm
  ·exact Cf p.2 q.2 x hx
theorem NR{f g:ae→ae}{c:List ae}(h:kN f c)(k:kN g c):∀x∈c,f x=g x:=by
 cases c with
 |nil=>exact h.elim
 |cons y r=>exact Cf h k
theorem RW{f:ae→ae}{row:List ae}{j:Nat}(h:kN f (CM row j)):kN f row:=by
 unfold CM at h
 have:=kN.CM h
 rwa [List.take_append_drop]at this
theorem oM{row:List ae}(hn:row.Nodup){x:ae}(hx:x∈row):iX row x∈row:=(Ce hn (List.ne_nil_of_mem hx)).step hx
theorem El{f:ae→ae}:∀{a:List ae} {z:ae},Path f a z→a≠[]→∃l,l∈a∧f l=z
 |[x],z,p,_=>⟨x,by simp,p.1⟩
 |x::y::r,z,p,_=>by
  obtain⟨l,h1,h2⟩:=El p.2 (by simp)
  exact⟨l,List.mem_cons_of_mem _ h1,h2⟩
theorem NS{row:List ae}(hn:row.Nodup){x y:ae}(hx:x∈row)(hy:y∈row)(h:iX row x=iX row y):x=y:=by
 obtain⟨i,hi⟩:=List.getElem?_of_mem hx
 obtain⟨j,hj⟩:=List.getElem?_of_mem hy
 have nF:=(List.getElem?_eq_some_iff.1 hi).1
 have I4:=(List.getElem?_eq_some_iff.1 hj).1
 have hp:0<row.length:=by omega
 rw[vR hn hi,vR hn hj,List.getElem?_eq_getElem (Nat.mod_lt _ hp),List.getElem?_eq_getElem (Nat.mod_lt _ hp)]at h
 have h2:(i+1)%row.length=(j+1)%row.length:=Eh hn (by simpa using h)
 have h3:i=j:=by
  by_cases a:i+1<row.length<;>by_cases b:j+1<row.length
  ·rw[Nat.mod_eq_of_lt a,Nat.mod_eq_of_lt b]at h2;omega
  ·have:j+1=row.length:=by omega
   rw[Nat.mod_eq_of_lt a,this,Nat.mod_self]at h2;omega
  ·have:i+1=row.length:=by omega
   rw[Nat.mod_eq_of_lt b,this,Nat.mod_self]at h2;omega
  ·omega
 subst h3
 rw[hi]at hj;exact Option.some.inj hj
theorem NT{row:List ae}(hn:row.Nodup){x z:ae}(hx:x∈row)(hz:z∈row)(hzx:z≠x):iX (cC row x) z=skip x (iX row) z:=by
 obtain⟨A,B,rfl⟩:=List.append_of_mem hx
 obtain⟨k,hk⟩:=List.getElem?_of_mem hx
 have he:(A++x::B).filter (fun e=>decide (e≠x))=A++B:=by
  have hx2:(A++x::B)[A.length]? = some x:=by simp
  rw[xt hn hx2];simp
 have DK:(x::(B++A)).Nodup:=by
  have p:(A++x::B).Perm (x::(B++A)):=List.perm_middle.trans (List.Perm.cons x List.perm_append_comm)
  exact p.nodup_iff.1 hn
 have CJ:z∈B++A:=by
  rcases List.mem_append.1 hz with k|k
  ·exact List.mem_append_right _ k
  ·rcases List.mem_cons.1 k with k|k
   ·exact absurd k hzx
   ·exact List.mem_append_left _ k
 have c1:kN (iX (A++x::B)) (x::(B++A)):=by
  have:=(Ce hn (List.ne_nil_of_mem hx)).CM
  simpa using this
 obtain⟨fx,pL⟩:=(show Path (iX (A++x::B)) (x::(B++A)) x from c1)
 have c2:kN (skip x (iX (A++x::B))) (B++A):=by
  generalize hL:B++A=L at *
  cases L with
  |nil=>simp at CJ
  |cons l L =>
   have fx:iX (A++x::B) x=l:=fx
   have xd:x∉l::L:=(List.nodup_cons.1 DK).1
   refine Path.kK pL (fun k=>xd (mw k)) (fun u hu br=>?_) (fun u hu heq=>?_)
   ·unfold skip;rw[if_neg br]
   ·unfold skip;rw[if_pos heq,fx]
 have hr:cC (A++x::B) x=cw (A++B):=by unfold cC;rw[he]
 obtain⟨j,hj,hjr⟩:=Ij (A++B)
 have nAB:(A++B).Nodup:=(List.perm_append_comm (l₁:=B) (l₂:=A)).nodup_iff.1 (List.nodup_cons.1 DK).2
 have ag5:(cC (A++x::B) x).Nodup:=by rw[hr];exact(j4 _).nodup_iff.2 nAB
 have hzm:z∈cC (A++x::B) x:=by
  rw[hr,HV]
  rcases List.mem_append.1 CJ with k|k
  ·exact List.mem_append_right _ k
  ·exact List.mem_append_left _ k
 have c3:kN (iX (cC (A++x::B) x)) (A++B):=by
  have:=Ce ag5 (List.ne_nil_of_mem hzm)
  generalize iX (cC (A++x::B) x)=g at *
  rw[hr,hjr]at this
  exact RW this
 exact NR (kN.CM c3) c2 z CJ
def sg(d:aj)(x:ae):ae:=(oF d x).getD zD
def ph(d:aj)(x:ae):ae:=(HX d x).getD zD
theorem Cg{d:aj}(h:Rw d.1){v:ah}{x:ae}(hv:v∈d.1)(hx:x∈v.2.1):oF d x=cz v.2.1 x 1:=by
 unfold oF bM
 rw[iH h hv hx]
 show cz (aS d v.1) x 1=_
 rw[iU h.s hv]
theorem oO{d:aj}(h:Rw d.1){v:ah}{x:ae}(hv:v∈d.1)(hx:x∈v.2.1):sg d x=iX v.2.1 x:=by
 unfold sg iX;rw[Cg h hv hx]
theorem Km{d:aj}(h:Rw d.1){x:ae}(hx:x∈au d.1):oF d x=some (sg d x):=by
 obtain⟨v,hv,jL⟩:=bg.1 hx
 have:oF d x=some (iX v.2.1 x):=by
  rw[Cg h hv jL]
  unfold iX cz
  rw[if_pos jL]
  have hp:0<v.2.1.length:=List.length_pos_of_mem jL
  rw[List.getElem?_eq_getElem (Nat.mod_lt _ hp)];rfl
 rw[oO h hv jL,this]
theorem UL{d:aj}(h:Rw d.1){x:ae}(hx:x∈au d.1):sg d x∈au d.1:=by
 obtain⟨v,hv,jL⟩:=bg.1 hx
 rw[oO h hv jL]
 exact bg.2 ⟨v,hv,oM (h.ring hv) jL⟩
theorem RX{d:aj}(h:Rw d.1){x y:ae}(hx:x∈au d.1)(hy:y∈au d.1)(he:sg d x=sg d y):x=y:=by
 obtain⟨v,hv,jL⟩:=bg.1 hx
 obtain⟨w,hw,hyw⟩:=bg.1 hy
 rw[oO h hv jL,oO h hw hyw]at he
 have h1:=oM (h.ring hv) jL
 have h2:=oM (h.ring hw) hyw
 rw[←he]at h2
 have hwv:=h.one hv hw h1 h2
 subst hwv
 exact NS (h.ring hw) jL hyw he
theorem p6{d:aj}(h:Rw d.1){x z:ae}(hx:x∈au d.1)(hz:z∈au (aE d x).1):sg (aE d x) z=skip x (sg d) z:=by
 obtain⟨p,q⟩:=fz h hx
 obtain⟨v,hv,jL⟩:=bg.1 hx
 have hzd:z∈au d.1:=p.mem_iff.2 (List.mem_cons_of_mem _ hz)
 have hzx:z≠x:=fun k=>(List.nodup_cons.1 (p.nodup_iff.1 h.n)).1 (k▸hz)
 obtain⟨w,hw,Ge⟩:=bg.1 hz
 have hr:=j6 h hv jL
 have Ju:w∈d.1.map (sw v.1 (cC v.2.1 x)):=by rw[hr]at hw;exact hw
 obtain⟨u,hu,YS⟩:=List.mem_map.1 Ju
 rw[oO q hw Ge]
 by_cases Ty:u.1=v.1
 ·have Ty:u=v:=by
   have h1:=kJ h.s hv
   have h2:=kJ h.s hu
   rw[Ty,h1]at h2
   exact(Option.some.inj h2).symm
  subst Ty
  have nM:w.2.1=cC u.2.1 x:=by rw[←YS];unfold sw;rw[if_pos rfl]
  rw[nM]at Ge ⊢
  have Kn:z∈u.2.1:=(sG jL (h.ring hu)).mem_iff.2 (List.mem_cons_of_mem _ Ge)
  rw[NT (h.ring hu) jL Kn hzx]
  unfold skip
  rw[oO h hu Kn,oO h hu jL]
 ·have nM:w=u:=by rw[←YS];unfold sw;rw[if_neg Ty]
  subst nM
  unfold skip
  rw[oO h hu Ge,if_neg]
  intro k
  have:=oM (h.ring hu) Ge
  rw[k]at this
  exact Ty (congrArg Prod.fst (h.one hv hu jL this))
theorem Il{d e:aj}(h:d.1=e.1)(x:ae):oF d x=oF e x:=by
 obtain⟨a,b⟩:=d
 obtain⟨c,f⟩:=e
 simp only at h
 subst h
 rfl
theorem ln{x:ae}(h:x.2=0∨x.2=1):aq (aq x)=x:=by
 obtain⟨x1,x2⟩:=x
 simp only at h
 rcases h with rfl|rfl<;>rfl
theorem Wf.side{d:aj}(h:Wf d){x:ae}(hx:x∈au d.1):x.2=0∨x.2=1:=by
 obtain⟨e,_,_,k⟩:=cP.1 (h.pd.mem_iff.1 hx);exact k
theorem Wf.other{d:aj}(h:Wf d){x:ae}(hx:x∈au d.1):aq x∈au d.1:=by
 obtain⟨e,he,h1,h2⟩:=cP.1 (h.pd.mem_iff.1 hx)
 refine h.pd.mem_iff.2 (cP.2 ⟨e,he,h1,?_⟩)
 obtain⟨_,k⟩:=iW h2
 rcases k with⟨_,k⟩|⟨_,k⟩
 ·exact .inr k
 ·exact .inl k
theorem Im{d:aj}{x:ae}(hx:x∈au d.1):(bM d x).isSome=true:=by
 obtain⟨v,hv,jL⟩:=bg.1 hx
 unfold bM FB
 rw[Option.isSome_map,List.find?_isSome]
 exact⟨v,hv,by simpa using jL⟩
theorem m0{d:aj}{x:ae}(hx:x∈au d.1):ph d x=sg d (aq x):=by
 unfold ph HX sg
 rw[if_pos (Im hx)]
theorem Io{d:aj}(h:Wf d){x:ae}(hx:x∈au d.1):HX d x=some (ph d x):=by
 rw[m0 hx]
 unfold HX
 rw[if_pos (Im hx)]
 exact Km h.rw (h.other hx)
theorem RY{d:aj}(h:Wf d){x:ae}(hx:x∈au d.1):ph d x∈au d.1:=by
 rw[m0 hx];exact UL h.rw (h.other hx)
theorem XV{d:aj}(h:Wf d){x y:ae}(hx:x∈au d.1)(hy:y∈au d.1)(he:ph d x=ph d y):x=y:=by
 rw[m0 hx,m0 hy]at he
 have:=RX h.rw (h.other hx) (h.other hy) he
 rw[←ln (h.side hx),←ln (h.side hy),this]
theorem Ip{α:Type}[DecidableEq α]:∀{l D:List α},l.Nodup→(∀x∈l,x∈D)→l.length≤D.length
 |[],_,_,_=>Nat.zero_le _
 |x::r,D,hn,hs=>by
  have h1:=List.nodup_cons.1 hn
  have hx:=hs x (List.mem_cons_self ..)
  have ih:=Ip (l:=r) (D:=D.erase x) h1.2 (fun y hy=>(List.mem_erase_of_ne (fun k=>h1.1 (by rw[←k];exact hy))).2 (hs y (List.mem_cons_of_mem _ hy)))
  rw[List.length_erase_of_mem hx]at ih
  have:=List.length_pos_of_mem hx
  simp;omega
theorem RZ{d:aj}(h:Wf d){out:List ae}{y:ae}(hn:out.Nodup)(hs:∀z∈out,z∈au d.1)(hp:Path (ph d) out y):y∉out.tail:=fun hy=>by
 cases out with
 |nil=>simp at hy
 |cons x r =>
  have hy:y∈r:=hy
  obtain⟨p,q,rfl⟩:=List.append_of_mem hy
  have key:∀(x:ae) (p:List ae),Path (ph d) (x::(p++y::q)) y→(x::(p++y::q)).Nodup→(∀z∈x::(p++y::q),z∈au d.1)→False:=by
   intro x p
   induction p generalizing x with
   |nil =>
    intro hp hn hs
    have h1:ph d x=y:=hp.1
    obtain⟨l,h2,h3⟩:=El hp.2 (by simp)
    have:=XV h (hs x (by simp)) (hs l (List.mem_cons_of_mem _ h2)) (h1.trans h3.symm)
    subst this
    exact(List.nodup_cons.1 hn).1 h2
   |cons u p ih =>
    intro hp hn hs
    exact ih u hp.2 (List.nodup_cons.1 hn).2 (fun z hz=>hs z (List.mem_cons_of_mem _ hz))
  exact key x p hp hn hs
theorem Wf.Iq{d:aj}(h:Wf d):(au d.1).length≤80:=by
 have h2:=h.pd.length_eq
 have h3:=h.ne
 have:(ends d.2).length=2*d.2.length:=by
  clear h2 h3 h
  generalize d.2=l
  induction l with
  |nil=>rfl
  |cons e r ih=>rw[j5];simp[ih];omega
 omega
theorem Ch{d:aj}(h:Wf d)(x:ae):∀(n:Nat) (y:ae) (r:List ae),(x::r).length+n=82→(x::r).Nodup→(∀z∈x::r,z∈au d.1)→Path (ph d) (x::r) y→y∈au d.1 →
  ∃r',ru d x n y (x::r)=x::r'∧(x::r').Nodup∧(∀z∈x::r',z∈au d.1)∧kN (ph d) (x::r')
 |0,y,r,hl,hn,hs,hp,hy=>by
  have:=Ip hn hs
  have:=h.Iq
  omega
 |n+1,y,r,hl,hn,hs,hp,hy=>by
  unfold ru
  by_cases he:y=x
  ·subst he
   rw[if_pos rfl]
   exact⟨r,rfl,hn,hs,hp⟩
  ·rw[if_neg he]
   have hyr:y∉x::r:=fun k=>by
    rcases List.mem_cons.1 k with k|k
    ·exact he k
    ·exact RZ h hn hs hp k
   have e:(HX d y).getD zD=ph d y:=rfl
   rw[e]
   refine Ch h x n (ph d y) (r++[y]) (by simp at hl ⊢;omega) ?_ (fun z hz=>?_) ?_ (RY h hy)
   ·show((x::r)++[y]).Nodup
    refine List.nodup_append.2 ⟨hn,by simp,fun a ha b hb=>?_⟩
    simp at hb;subst hb
    exact fun k=>hyr (k▸ha)
   ·have hz:z∈(x::r)++[y]:=hz
    rcases List.mem_append.1 hz with k|k
    ·exact hs z k
    ·simp at k;rw[k];exact hy
   ·show Path (ph d) ((x::r)++[y]) (ph d y)
    exact Path.app.2 ⟨hp,rfl,trivial⟩
theorem Ci{d:aj}(h:Wf d){x:ae}(hx:x∈au d.1):∃r,bp d x=x::r∧(x::r).Nodup∧(∀z∈x::r,z∈au d.1)∧kN (ph d) (x::r):=by
 unfold bp
 rw[Io h hx]
 exact Ch h x 81 (ph d x) [] rfl (by simp) (fun z hz=>by simp at hz;rw[hz];exact hx) ⟨rfl,trivial⟩ (RY h hx)
theorem rD{d:aj}(h:Wf d):∀(l:List ae) (out:List (List ae)),(∀x∈l,x∈au d.1)→(∀c∈out,kN (ph d) c)→out.flatten.Nodup→(∀x∈out.flatten,x∈au d.1) →
  (∀c∈im d l out out.flatten,kN (ph d) c)∧(im d l out out.flatten).flatten.Nodup∧(∀x∈(im d l out out.flatten).flatten,x∈au d.1)∧(∀x,x∈l∨x∈out.flatten→x∈(im d l out out.flatten).flatten)
 |[],out,_,h1,h2,h3=>⟨h1,h2,h3,fun x k=>k.resolve_left (by simp)⟩
 |x::l,out,hl,h1,h2,h3=>by
  unfold im
  by_cases hx:x∈out.flatten
  ·rw[if_pos hx]
   obtain⟨a,b,c,e⟩:=rD h l out (fun y hy=>hl y (List.mem_cons_of_mem _ hy)) h1 h2 h3
   refine⟨a,b,c,fun y hy=>e y ?_⟩
   rcases hy with hy|hy
   ·rcases List.mem_cons.1 hy with rfl|hy
    ·exact .inr hx
    ·exact .inl hy
   ·exact .inr hy
  ·rw[if_neg hx]
   obtain⟨r,t1,t2,t3,t4⟩:=Ci h (hl x (List.mem_cons_self ..))
   have ef:out.flatten++bp d x=(out++[bp d x]).flatten:=by simp
   rw[ef]
   have ag8:∀y∈bp d x,y∉out.flatten:=fun y hy k=>by
    obtain⟨c,hc,hyc⟩:=List.mem_flatten.1 k
    rw[t1]at hy
    exact hx (List.mem_flatten.2 ⟨c,hc,t4.same (h1 c hc) hy hyc (List.mem_cons_self ..)⟩)
   obtain⟨a,b,c,e⟩:=rD h l (out++[bp d x]) (fun y hy=>hl y (List.mem_cons_of_mem _ hy))
    (fun c hc=>by
     rcases List.mem_append.1 hc with k|k
     ·exact h1 c k
     ·simp at k;rw[k,t1];exact t4)
    (by
     rw[←ef]
     refine List.nodup_append.2 ⟨h2,by rw[t1];exact t2,fun u hu w hw k=>ag8 w hw (k▸hu)⟩)
    (fun y hy=>by
     rw[←ef]at hy
     rcases List.mem_append.1 hy with k|k
     ·exact h3 y k
     ·rw[t1]at k;exact t3 y k)
   refine⟨a,b,c,fun y hy=>e y ?_⟩
   rw[←ef]
   rcases hy with hy|hy
   ·rcases List.mem_cons.1 hy with rfl|hy
    ·exact .inr (List.mem_append_right _ (by rw[t1];simp))
    ·exact .inl hy
   ·exact .inr (List.mem_append_left _ hy)
theorem lp:∀l:List ai,eT l=ends l
 |[]=>rfl
 |e::r=>by rw[j5,eT,lp r]
theorem b6{d:aj}(h:Wf d):Gd (ph d) (au d.1) (cV d):=by
 obtain⟨a,b,c,e⟩:=rD h (eT d.2) [] (fun x hx=>h.pd.mem_iff.2 (by rw[←lp];exact hx)) (by simp) (by simp) (by simp)
 refine⟨a,(List.perm_ext_iff_of_nodup b h.rw.n).2 fun x=>⟨c x,fun hx=>e x (.inl (by rw[lp];exact h.pd.mem_iff.1 hx))⟩⟩
end Go.Vs
namespace Go.Vs
open Go.Proofs Go.Cy
def dr(d:aj)(x:ID):aj:=aY (aE (aE d (x,0)) (x,1)) zI x
theorem Ko{d:aj}(h:Wf d)(x y:ae)(e:ID):(aY (aE (aE d x) y) zI e).1=(aE (aE d x) y).1:=vO (j7 (j7 h.gv x) y)
theorem Cj(x:ID):aq (x,0)=(x,1):=rfl
theorem R1(x:ID):aq (x,1)=(x,0):=rfl
structure bU(d':aj)(x:ID):Prop where
 wf:Wf d'
 e:(aT d'.2 x).isSome=true
theorem bU.x0{d':aj}{x:ID}(h:bU d' x):(x,0)∈au d'.1:=h.wf.kS h.e (.inl rfl)
theorem bU.x1{d':aj}{x:ID}(h:bU d' x):(x,1)∈au d'.1:=h.wf.kS h.e (.inr rfl)
theorem bU.p1{d':aj}{x:ID}(h:bU d' x):(au d'.1).Perm ((x,0)::au (aE d' (x,0)).1)∧Rw (aE d' (x,0)).1:=fz h.wf.rw h.x0
theorem bU.YT{d':aj}{x:ID}(h:bU d' x):(x,1)∈au (aE d' (x,0)).1:=by
 rcases List.mem_cons.1 (h.p1.1.mem_iff.1 h.x1) with k|k
 ·cases k
 ·exact k
theorem bU.p2{d':aj}{x:ID}(h:bU d' x):(au (aE d' (x,0)).1).Perm ((x,1)::au (aE (aE d' (x,0)) (x,1)).1)∧Rw (aE (aE d' (x,0)) (x,1)).1:=fz h.p1.2 h.YT
theorem bU.v{d':aj}{x:ID}(h:bU d' x):(dr d' x).1=(aE (aE d' (x,0)) (x,1)).1:=Ko h.wf _ _ _
theorem bU.w{d':aj}{x:ID}(h:bU d' x):Wf (dr d' x):=h.wf.cut h.e
theorem bU.p{d':aj}{x:ID}(h:bU d' x):(au d'.1).Perm ((x,0)::(x,1)::au (dr d' x).1):=by
 rw[h.v];exact h.p1.1.trans (List.Perm.cons _ h.p2.1)
theorem bU.sg{d':aj}{x:ID}(h:bU d' x){z:ae}(hz:z∈au (dr d' x).1):sg (dr d' x) z=skip (x,1) (skip (x,0) (sg d')) z:=by
 have e1:Vs.sg (dr d' x) z=Vs.sg (aE (aE d' (x,0)) (x,1)) z:=by unfold Vs.sg;rw[Il h.v]
 rw[h.v]at hz
 have xV:z∈au (aE d' (x,0)).1:=h.p2.1.mem_iff.2 (List.mem_cons_of_mem _ hz)
 rw[e1,p6 h.p1.2 h.YT hz]
 unfold skip
 rw[p6 h.wf.rw h.x0 xV,p6 h.wf.rw h.x0 h.YT]
 rfl
theorem bU.ph{d':aj}{x:ID}(h:bU d' x){z:ae}(hz:z∈au (dr d' x).1):ph (dr d' x) z=vQ (ph d') (x,0) (x,1) z:=by
 have Oe:z∈au d'.1:=h.p.mem_iff.2 (List.mem_cons_of_mem _ (List.mem_cons_of_mem _ hz))
 have ho:=h.w.other hz
 have nu:aq z∈au d'.1:=h.p.mem_iff.2 (List.mem_cons_of_mem _ (List.mem_cons_of_mem _ ho))
 have nd:=h.p.nodup_iff.1 h.wf.rw.n
 have JM:aq z≠(x,1):=fun k=>(List.nodup_cons.1 (List.nodup_cons.1 nd).2).1 (k▸ho)
 rw[m0 hz,h.sg ho]
 unfold vQ
 rw[m0 Oe,m0 h.x0,m0 h.x1,Cj,R1]
 generalize hW:aq z=w at *
 have inj:Vs.sg d' (x,1)=(x,0)→Vs.sg d' w≠(x,0):=fun k1 k2=>JM (RX h.wf.rw nu h.x1 (k2.trans k1.symm))
 unfold skip
 by_cases c1:Vs.sg d' w=(x,0)
 ·rw[if_pos c1]
  by_cases c2:Vs.sg d' (x,0)=(x,1)
  ·rw[if_pos c2,if_pos c2]
   by_cases c3:Vs.sg d' (x,1)=(x,0)
   ·exact absurd c1 (inj c3)
   ·rw[if_neg c3,if_pos c1]
  ·rw[if_neg c2,if_neg c2,if_pos c1]
 ·rw[if_neg c1]
  by_cases c2:Vs.sg d' w=(x,1)
  ·rw[if_pos c2,if_neg c1]
  ·rw[if_neg c2,if_neg c1]
def al(l:List ah):Nat:=l.countP fun v=>v.2.1.isEmpty
theorem Em{row:List ae}(hn:row.Nodup){x:ae}(hx:x∈row):iX row x=x↔row.length=1:=by
 obtain⟨i,hi⟩:=List.getElem?_of_mem hx
 have nF:=(List.getElem?_eq_some_iff.1 hi).1
 have hp:0<row.length:=by omega
 rw[vR hn hi,List.getElem?_eq_getElem (Nat.mod_lt _ hp)]
 constructor
 ·intro h
  have h1:row[(i+1)%row.length]? = some x:=by rw[List.getElem?_eq_getElem (Nat.mod_lt _ hp)];exact congrArg some (by simpa using h)
  have h2:=Ei hn h1 hi
  by_cases c:i+1<row.length
  ·rw[Nat.mod_eq_of_lt c]at h2;omega
  ·have:i+1=row.length:=by omega
   rw[this,Nat.mod_self]at h2;omega
 ·intro h
  have h0:i=0:=by omega
  subst h0
  have:(0+1)%row.length=0:=by rw[h]
  simp only[this]
  obtain⟨h1,h2⟩:=List.getElem?_eq_some_iff.1 hi
  simpa using h2
theorem Ck{d:aj}(h:Rw d.1){x:ae}(hx:x∈au d.1):al (aE d x).1=al d.1+if sg d x=x then 1 else 0:=by
 obtain⟨v,hv,jL⟩:=bg.1 hx
 obtain⟨a,b,h1,_,_,h2⟩:=rB h.s hv
 have e1:(aE d x).1=a++(v.1,(cC v.2.1 x,v.2.2))::b:=by rw[j6 h hv jL];exact h2 _
 have p:=sG jL (h.ring hv)
 have hl:=p.length_eq
 have v0:v.2.1.isEmpty=false:=by
  cases hq:v.2.1 with
  |nil=>rw[hq]at jL;simp at jL
  |cons _ _=>rfl
 have v1:(cC v.2.1 x).isEmpty=decide (sg d x=x):=by
  rw[Bool.eq_iff_iff,List.isEmpty_iff,decide_eq_true_eq,oO h hv jL,Em (h.ring hv) jL,←List.length_eq_zero_iff]
  simp at hl;omega
 rw[e1]
 conv=>rhs;rw[h1]
 unfold al
 rw[List.countP_append,List.countP_append,List.countP_cons,List.countP_cons]
 simp only[v0,v1]
 by_cases c:sg d x=x
 ·simp[c];omega
 ·simp[c]
def ft(d:aj):Nat:=(cV d).length+al d.1
def R4(d:aj)(x y:ae):Prop:=∃c∈cV d,x∈c∧y∈c
theorem bU.al{d':aj}{x:ID}(h:bU d' x):Vs.al (dr d' x).1=Vs.al d'.1+(if Vs.ph d' (x,1)=(x,0) then 1 else 0)+(if Vs.ph d' (x,0)=(x,1)∨(Vs.ph d' (x,0)=(x,0)∧Vs.ph d' (x,1)=(x,1)) then 1 else 0):=by
 rw[h.v,Ck h.p1.2 h.YT,Ck h.wf.rw h.x0]
 have e0:Vs.ph d' (x,0)=Vs.sg d' (x,1):=m0 h.x0
 have e1:Vs.ph d' (x,1)=Vs.sg d' (x,0):=m0 h.x1
 rw[e0,e1,p6 h.wf.rw h.x0 h.YT]
 unfold skip
 congr 1
 by_cases c:Vs.sg d' (x,1)=(x,0)
 ·rw[if_pos c]
  by_cases k:Vs.sg d' (x,0)=(x,1)
  ·rw[if_pos k,if_pos (.inr ⟨c,k⟩)]
  ·rw[if_neg k,if_neg]
   rintro(m|⟨_,m⟩)
   ·rw[c]at m;cases m
   ·exact k m
 ·rw[if_neg c]
  by_cases k:Vs.sg d' (x,1)=(x,1)
  ·rw[if_pos k,if_pos (.inl k)]
  ·rw[if_neg k,if_neg]
   rintro(m|⟨m,_⟩)
   ·exact k m
   ·exact c m
theorem abU(x:ID):((x,0):ae)≠(x,1):=fun k=>by cases k
theorem bU.same{d':aj}{x:ID}(h:bU d' x)(hf:R4 d' (x,0) (x,1)):ft (dr d' x)=ft d'+1∧(cV (dr d' x)).length+1=(cV d').length+(if Vs.ph d' (x,0)=(x,1) then 0 else 1)+(if Vs.ph d' (x,1)=(x,0) then 0 else 1):=by
 obtain⟨c,hc,h0,h1⟩:=hf
 have nd:=h.p.nodup_iff.1 h.wf.rw.n
 have dec:Gd (Vs.ph d') ((x,0)::(x,1)::au (dr d' x).1) (cV d'):=⟨(b6 h.wf).c,(b6 h.wf).p.trans h.p⟩
 obtain⟨cs,k1,k2⟩:=Gd.RT (abU x) nd dec (fun z hz=>h.ph hz) hc h0 h1
 have k3:=Gd.count (h.w.rw.n) (b6 h.w) k1
 have k4:=h.al
 have Cd:=(b6 h.wf).c c hc
 have n0:¬(Vs.ph d' (x,0)=(x,0)):=fun k=>by
  obtain⟨n,hn⟩:=Cd.reach h0 h1
  have:∀n,it (Vs.ph d') n (x,0)=(x,0):=fun n=>by
   induction n with
   |zero=>rfl
   |succ n ih=>show it (Vs.ph d') n (Vs.ph d' (x,0))=_;rw[k];exact ih
  rw[this]at hn;cases hn
 refine⟨?_,by rw[k3];exact k2⟩
 unfold ft
 rw[k3,k4]
 by_cases c0:Vs.ph d' (x,0)=(x,1)
 ·rw[if_pos c0]at k2
  rw[if_pos (Or.inl c0)]
  by_cases c1:Vs.ph d' (x,1)=(x,0)
  ·rw[if_pos c1]at k2 ⊢;omega
  ·rw[if_neg c1]at k2 ⊢;omega
 ·rw[if_neg c0]at k2
  rw[if_neg (show ¬(Vs.ph d' (x,0)=(x,1)∨(Vs.ph d' (x,0)=(x,0)∧Vs.ph d' (x,1)=(x,1))) from fun m=>m.elim c0 fun m=>n0 m.1)]
  by_cases c1:Vs.ph d' (x,1)=(x,0)
  ·rw[if_pos c1]at k2 ⊢;omega
  ·rw[if_neg c1]at k2 ⊢;omega
theorem bU.diff{d':aj}{x:ID}(h:bU d' x)(hf:¬R4 d' (x,0) (x,1)):ft (dr d' x)+1=ft d':=by
 have hm:(x,0)∈(cV d').flatten:=(b6 h.wf).p.mem_iff.2 h.x0
 obtain⟨c,hc,h0⟩:=List.mem_flatten.1 hm
 have h1:(x,1)∉c:=fun k=>hf ⟨c,hc,h0,k⟩
 have nd:=h.p.nodup_iff.1 h.wf.rw.n
 have dec:Gd (Vs.ph d') ((x,0)::(x,1)::au (dr d' x).1) (cV d'):=⟨(b6 h.wf).c,(b6 h.wf).p.trans h.p⟩
 obtain⟨cs,k1,k2⟩:=Gd.RV (abU x) nd dec (fun z hz=>h.ph hz) hc h0 h1
 have k3:=Gd.count (h.w.rw.n) (b6 h.w) k1
 have k4:=h.al
 have Cd:=(b6 h.wf).c c hc
 have n0:¬(Vs.ph d' (x,0)=(x,1)):=fun k=>h1 (k▸Cd.step h0)
 have n1:¬(Vs.ph d' (x,1)=(x,0)):=fun k=>by
  have Tk:(x,1)∈(cV d').flatten:=(b6 h.wf).p.mem_iff.2 h.x1
  obtain⟨c2,uy,h2⟩:=List.mem_flatten.1 Tk
  have:=((b6 h.wf).c c2 uy).step h2
  rw[k]at this
  exact hf ⟨c2,uy,this,h2⟩
 unfold ft
 rw[k3,k4,if_neg n1]
 by_cases c:Vs.ph d' (x,0)=(x,0)∧Vs.ph d' (x,1)=(x,1)
 ·rw[if_pos c]at k2;rw[if_pos (.inr c)];omega
 ·rw[if_neg c]at k2;rw[if_neg (fun m=>m.elim n0 c)];omega
end Go.Vs
namespace Go.Vs
open Go.Proofs Go.Cy
def Ir(d:aj)(a b:ID):Prop:=∃z∈au d.1,bM d z=some a∧bM d (aq z)=some b
inductive cQ (d:aj):ID→ID→Prop
 |refl (a:ID):cQ d a a
 |tail {a b c:ID}:cQ d a b→Ir d b c→cQ d a c
theorem cQ.trans{d:aj}{a b c:ID}(h:cQ d a b)(k:cQ d b c):cQ d a c:=by
 induction k with
 |refl=>exact h
 |tail _ j ih=>exact ih.tail j
theorem Ir.symm{d:aj}(hw:Wf d){a b:ID}(h:Ir d a b):Ir d b a:=by
 obtain⟨z,hz,h1,h2⟩:=h
 exact⟨aq z,hw.other hz,h2,by rw[ln (hw.side hz)];exact h1⟩
theorem Ir.conn{d:aj}{a b:ID}(h:Ir d a b):cQ d a b:=(cQ.refl a).tail h
theorem cQ.symm{d:aj}(hw:Wf d){a b:ID}(h:cQ d a b):cQ d b a:=by
 induction h with
 |refl=>exact .refl _
 |tail _ j ih=>exact(j.symm hw).conn.trans ih
structure vS(d:aj)(R:List ID):Prop where
 n:R.Nodup
 v:∀r∈R,∃v∈d.1,v.1=r
 i:∀r∈R,∀s∈R,cQ d r s→r=s
 c:∀v∈d.1,∃r∈R,cQ d v.1 r
theorem FO{d:aj}(hw:Wf d):∀{R R':List ID},R.Nodup→(∀r∈R,∀s∈R,cQ d r s→r=s)→(∀r∈R,∃s∈R',cQ d r s)→R.length≤R'.length
 |[],_,_,_,_=>Nat.zero_le _
 |r::R,R',hn,hi,hc=>by
  obtain⟨s,hs,Xb⟩:=hc r (List.mem_cons_self ..)
  have h1:=List.nodup_cons.1 hn
  have ih:=FO hw (R:=R) (R':=R'.erase s) h1.2 (fun a ha b hb=>hi a (List.mem_cons_of_mem _ ha) b (List.mem_cons_of_mem _ hb)) (fun a ha=>by
   obtain⟨t,ht,yf⟩:=hc a (List.mem_cons_of_mem _ ha)
   refine⟨t,(List.mem_erase_of_ne (fun k=>?_)).2 ht,yf⟩
   subst k
   have:=hi a (List.mem_cons_of_mem _ ha) r (List.mem_cons_self ..) (yf.trans (Xb.symm hw))
   exact h1.1 (this▸ha))
  rw[List.length_erase_of_mem hs]at ih
  have:=List.length_pos_of_mem hs
  simp;omega
theorem vS.len{d:aj}(hw:Wf d){R R':List ID}(h:vS d R)(h':vS d R'):R.length=R'.length:=by
 refine Nat.le_antisymm (FO hw h.n h.i fun r hr=>?_) (FO hw h'.n h'.i fun r hr=>?_)
 ·obtain⟨v,hv,rfl⟩:=h.v r hr;exact h'.c v hv
 ·obtain⟨v,hv,rfl⟩:=h'.v r hr;exact h.c v hv
theorem vT{d:aj}(hw:Wf d){z:ae}(hz:z∈au d.1):∃v∈d.1,z∈v.2.1∧bM d z=some v.1:=by
 obtain⟨v,hv,YU⟩:=bg.1 hz
 exact⟨v,hv,YU,iH hw.rw hv YU⟩
theorem Cl{d:aj}(h:Rw d.1){x z:ae}(hx:x∈au d.1)(hz:z∈au (aE d x).1):bM (aE d x) z=bM d z:=by
 obtain⟨p,q⟩:=fz h hx
 obtain⟨v,hv,jL⟩:=bg.1 hx
 obtain⟨w,hw,Ge⟩:=bg.1 hz
 have hr:=j6 h hv jL
 have Ju:w∈d.1.map (sw v.1 (cC v.2.1 x)):=by rw[hr]at hw;exact hw
 obtain⟨u,hu,YS⟩:=List.mem_map.1 Ju
 have bO:w.1=u.1:=by rw[←YS];exact ry _ _ _
 have Kn:z∈u.2.1:=by
  by_cases Ty:u.1=v.1
  ·have Ty:u=v:=by
    have h1:=kJ h.s hv
    have h2:=kJ h.s hu
    rw[Ty,h1]at h2
    exact(Option.some.inj h2).symm
   subst Ty
   have nM:w.2.1=cC u.2.1 x:=by rw[←YS];unfold sw;rw[if_pos rfl]
   rw[nM]at Ge
   exact(sG jL (h.ring hu)).mem_iff.2 (List.mem_cons_of_mem _ Ge)
  ·have nM:w=u:=by rw[←YS];unfold sw;rw[if_neg Ty]
   rw[←nM];exact Ge
 show FB (aE d x).1 z=FB d.1 z
 rw[iH q hw Ge,iH h hu Kn,bO]
theorem bU.at{d':aj}{x:ID}(h:bU d' x){z:ae}(hz:z∈au (dr d' x).1):bM (dr d' x) z=bM d' z:=by
 have e:bM (dr d' x) z=bM (aE (aE d' (x,0)) (x,1)) z:=by unfold bM;rw[h.v]
 rw[h.v]at hz
 have xV:z∈au (aE d' (x,0)).1:=h.p2.1.mem_iff.2 (List.mem_cons_of_mem _ hz)
 rw[e,Cl h.p1.2 h.YT hz,Cl h.wf.rw h.x0 xV]
theorem bU.sub{d':aj}{x:ID}(h:bU d' x){z:ae}(hz:z∈au (dr d' x).1):z∈au d'.1:=h.p.mem_iff.2 (List.mem_cons_of_mem _ (List.mem_cons_of_mem _ hz))
theorem bU.YV{d':aj}{x:ID}(h:bU d' x){a b:ID}(k:Ir (dr d' x) a b):Ir d' a b:=by
 obtain⟨z,hz,h1,h2⟩:=k
 exact⟨z,h.sub hz,by rw[←h.at hz];exact h1,by rw[←h.at (h.w.other hz)];exact h2⟩
theorem bU.conn{d':aj}{x:ID}(h:bU d' x){a b:ID}(k:cQ (dr d' x) a b):cQ d' a b:=by
 induction k with
 |refl=>exact .refl _
 |tail _ j ih=>exact ih.tail (h.YV j)
theorem bU.ag9{d':aj}{x u w:ID}(h:bU d' x)(hu:bM d' (x,0)=some u)(hw:bM d' (x,1)=some w){a b:ID}(k:Ir d' a b):Ir (dr d' x) a b∨(a=u∧b=w)∨(a=w∧b=u):=by
 obtain⟨z,hz,h1,h2⟩:=k
 rcases List.mem_cons.1 (h.p.mem_iff.1 hz) with rfl|CJ
 ·rw[Cj]at h2
  rw[hu]at h1;rw[hw]at h2
  cases h1;cases h2
  exact .inr (.inl ⟨rfl,rfl⟩)
 rcases List.mem_cons.1 CJ with rfl|I0
 ·rw[R1]at h2
  rw[hw]at h1;rw[hu]at h2
  cases h1;cases h2
  exact .inr (.inr ⟨rfl,rfl⟩)
 ·exact .inl ⟨z,I0,by rw[h.at I0];exact h1,by rw[h.at (h.w.other I0)];exact h2⟩
theorem bU.R5{d':aj}{x u w:ID}(h:bU d' x)(hu:bM d' (x,0)=some u)(hw:bM d' (x,1)=some w){a b:ID}(k:cQ d' a b) :
  cQ (dr d' x) a b∨(cQ (dr d' x) a u∧cQ (dr d' x) w b)∨(cQ (dr d' x) a w∧cQ (dr d' x) u b):=by
 induction k with
 |refl=>exact .inl (.refl _)
 |tail _ j ih =>
  rcases h.ag9 hu hw j with j|⟨rfl,rfl⟩|⟨rfl,rfl⟩
  ·rcases ih with k|⟨k,m⟩|⟨k,m⟩
   ·exact .inl (k.tail j)
   ·exact .inr (.inl ⟨k,m.tail j⟩)
   ·exact .inr (.inr ⟨k,m.tail j⟩)
  ·rcases ih with k|⟨k,m⟩|⟨k,m⟩
   ·exact .inr (.inl ⟨k,.refl _⟩)
   ·exact .inr (.inl ⟨k,.refl _⟩)
   ·exact .inl k
  ·rcases ih with k|⟨k,m⟩|⟨k,m⟩
   ·exact .inr (.inr ⟨k,.refl _⟩)
   ·exact .inl k
   ·exact .inr (.inr ⟨k,.refl _⟩)
theorem bU.ids{d':aj}{x:ID}(h:bU d' x):(dr d' x).1.map (·.1)=d'.1.map (·.1):=by
 rw[h.v]
 unfold aE Vs.cc
 simp only[List.map_map]
 refine List.map_congr_left fun v hv=>?_
 simp only[Function.comp,ry]
theorem bU.Kp{d':aj}{x:ID}(h:bU d' x){r:ID}:(∃v∈(dr d' x).1,v.1=r)↔∃v∈d'.1,v.1=r:=by
 have e:∀l:List ah,(∃v∈l,v.1=r)↔r∈l.map (·.1):=fun l=>by rw[List.mem_map]
 rw[e,e,h.ids]
theorem bU.UM{d':aj}{x u w:ID}(h:bU d' x)(hu:bM d' (x,0)=some u)(hw:bM d' (x,1)=some w)(k:cQ (dr d' x) u w){R:List ID}(hr:vS d' R):vS (dr d' x) R:=by
 have key:∀{a b:ID},cQ d' a b→cQ (dr d' x) a b:=fun {a b} m=>by
  rcases h.R5 hu hw m with m|⟨m,q⟩|⟨m,q⟩
  ·exact m
  ·exact(m.trans k).trans q
  ·exact(m.trans (k.symm h.w)).trans q
 refine⟨hr.n,fun r BT=>h.Kp.2 (hr.v r BT),fun r BT s hs m=>hr.i r BT s hs (h.conn m),fun v hv=>?_⟩
 obtain⟨v',Au,he⟩:=h.Kp.1 ⟨v,hv,rfl⟩
 obtain⟨r,h1,h2⟩:=hr.c v' Au
 exact⟨r,h1,by rw[←he];exact key h2⟩
theorem bU.LS{d':aj}{x:ID}(h:bU d' x):∃u w,bM d' (x,0)=some u∧bM d' (x,1)=some w∧(∃v∈d'.1,v.1=u)∧∃v∈d'.1,v.1=w:=by
 obtain⟨v,hv,_,h1⟩:=vT h.wf h.x0
 obtain⟨v2,xT,_,h2⟩:=vT h.wf h.x1
 exact⟨v.1,v2.1,h1,h2,⟨v,hv,rfl⟩,⟨v2,xT,rfl⟩⟩
theorem bU.Wr{d':aj}{x u w:ID}(h:bU d' x)(hu:bM d' (x,0)=some u)(hw:bM d' (x,1)=some w)(k:¬cQ (dr d' x) u w){R:List ID}(hr:vS d' R):∃R2,vS (dr d' x) R2∧R2.length=R.length+1:=by
 have uv:∃v∈d'.1,v.1=u:=by
  obtain⟨v,hv,_,h1⟩:=vT h.wf h.x0
  rw[hu]at h1;cases h1;exact⟨v,hv,rfl⟩
 have wv:∃v∈d'.1,v.1=w:=by
  obtain⟨v,hv,_,h1⟩:=vT h.wf h.x1
  rw[hw]at h1;cases h1;exact⟨v,hv,rfl⟩
 have uw:cQ d' u w:=Ir.conn ⟨(x,0),h.x0,hu,by rw[Cj];exact hw⟩
 obtain⟨v0,WQ,hvu⟩:=uv
 obtain⟨r,BT,hur⟩:=hr.c v0 WQ
 rw[hvu]at hur
 have sep:∀s∈R.erase r,s∈R∧¬cQ d' s u∧¬cQ d' s w:=fun s hs=>by
  have h1:=List.mem_of_mem_erase hs
  have h2:s≠r:=fun e=>by
   subst e
   exact absurd hs (List.Nodup.not_mem_erase hr.n)
  exact⟨h1,fun m=>h2 (hr.i s h1 r BT (m.trans hur)),fun m=>h2 (hr.i s h1 r BT ((m.trans (uw.symm h.wf)).trans hur))⟩
 refine⟨u::w::R.erase r,⟨?_,?_,?_,?_⟩,?_⟩
 ·refine List.nodup_cons.2 ⟨fun m=>?_,List.nodup_cons.2 ⟨fun m=>(sep w m).2.2 (.refl _),hr.n.erase r⟩⟩
  rcases List.mem_cons.1 m with m|m
  ·exact k (m▸.refl _)
  ·exact(sep u m).2.1 (.refl _)
 ·intro s hs
  rcases List.mem_cons.1 hs with rfl|hs
  ·exact h.Kp.2 ⟨v0,WQ,hvu⟩
  rcases List.mem_cons.1 hs with rfl|hs
  ·exact h.Kp.2 wv
  ·exact h.Kp.2 (hr.v s (sep s hs).1)
 ·intro a ha b hb m
  rcases List.mem_cons.1 ha with ea|ha
  ·rcases List.mem_cons.1 hb with eb|hb
   ·rw[ea,eb]
   rcases List.mem_cons.1 hb with eb|hb
   ·exact absurd (ea▸eb▸m) k
   ·exact absurd ((h.conn (ea▸m)).symm h.wf) (sep b hb).2.1
  rcases List.mem_cons.1 ha with ea|ha
  ·rcases List.mem_cons.1 hb with eb|hb
   ·exact absurd ((ea▸eb▸m).symm h.w) k
   rcases List.mem_cons.1 hb with eb|hb
   ·rw[ea,eb]
   ·exact absurd ((h.conn (ea▸m)).symm h.wf) (sep b hb).2.2
  ·rcases List.mem_cons.1 hb with eb|hb
   ·exact absurd (eb▸h.conn m) (sep a ha).2.1
   rcases List.mem_cons.1 hb with eb|hb
   ·exact absurd (eb▸h.conn m) (sep a ha).2.2
   ·exact hr.i a (sep a ha).1 b (sep b hb).1 (h.conn m)
 ·intro v hv
  obtain⟨v',Au,he⟩:=h.Kp.1 ⟨v,hv,rfl⟩
  obtain⟨s,h1,h2⟩:=hr.c v' Au
  rw[he]at h2
  by_cases hsr:s=r
  ·subst hsr
   rcases h.R5 hu hw (h2.trans (hur.symm h.wf)) with m|⟨m,_⟩|⟨m,_⟩
   ·exact⟨u,by simp,m⟩
   ·exact⟨u,by simp,m⟩
   ·exact⟨w,by simp,m⟩
  ·have WT:s∈R.erase r:=(List.mem_erase_of_ne hsr).2 h1
   rcases h.R5 hu hw h2 with m|⟨_,q⟩|⟨_,q⟩
   ·exact⟨s,by simp[WT],m⟩
   ·exact absurd ((h.conn q).symm h.wf) (sep s WT).2.2
   ·exact absurd ((h.conn q).symm h.wf) (sep s WT).2.1
 ·have:=List.length_pos_of_mem BT
  simp only[List.length_cons,List.length_erase_of_mem BT];omega
theorem bU.NU{d':aj}{x u w:ID}(h:bU d' x)(hu:bM d' (x,0)=some u)(hw:bM d' (x,1)=some w)(hf:¬R4 d' (x,0) (x,1)):cQ (dr d' x) u w:=by
 have hm:(x,0)∈(cV d').flatten:=(b6 h.wf).p.mem_iff.2 h.x0
 obtain⟨c,hc,h0⟩:=List.mem_flatten.1 hm
 have h1:(x,1)∉c:=fun k=>hf ⟨c,hc,h0,k⟩
 have Cd:=(b6 h.wf).c c hc
 obtain⟨B,k1,k2⟩:=Cd.head h0
 have hcd:∀z∈c,z∈au d'.1:=fun z hz=>(b6 h.wf).p.mem_iff.1 (List.mem_flatten.2 ⟨c,hc,hz⟩)
 have cn:c.Nodup:=by
  obtain⟨p,q,e⟩:=List.append_of_mem hc
  have:=(b6 h.wf).p.nodup_iff.2 h.wf.rw.n
  rw[e]at this
  exact(List.nodup_append.1 ((gG p q c).nodup_iff.1 this)).1
 have bn:=k2.nodup_iff.2 cn
 have abV:∀z∈au d'.1,bM d' (Vs.ph d' z)=bM d' (aq z):=fun z hz=>by
  have ho:=h.wf.other hz
  obtain⟨v,hv,YU⟩:=bg.1 ho
  rw[m0 hz,oO h.wf.rw hv YU]
  show FB d'.1 _=FB d'.1 _
  rw[iH h.wf.rw hv (oM (h.wf.rw.ring hv) YU),iH h.wf.rw hv YU]
 have inC:∀z∈B,z∈au (dr d' x).1:=fun z hz=>by
  have YN:z∈c:=k2.mem_iff.1 (List.mem_cons_of_mem _ hz)
  rcases List.mem_cons.1 (h.p.mem_iff.1 (hcd z YN)) with e|e
  ·exact absurd (e▸hz) (List.nodup_cons.1 bn).1
  rcases List.mem_cons.1 e with e|e
  ·exact absurd (e▸YN) h1
  ·exact e
 have walk:∀(B:List ae) (a e:ID) (z:ae),(∀y∈B,y∈au (dr d' x).1)→Path (Vs.ph d') B z→bM d' z=some e→(∀y,B.head? = some y→bM d' y=some a)→(B=[]→a=e)→cQ (dr d' x) a e:=by
  intro B
  induction B with
  |nil=>intro a e z _ _ _ _ h5;rw[h5 rfl];exact .refl _
  |cons y r ih =>
   intro a e z hB hp hz ha _
   have hy:=hB y (by simp)
   have hyd:=h.sub hy
   obtain⟨v,hv,Tx,yf⟩:=vT h.wf (h.wf.other hyd)
   have YV:Ir (dr d' x) a v.1:=⟨y,hy,by rw[h.at hy];exact ha y rfl,by rw[h.at (h.w.other hy)];exact yf⟩
   have iM:bM d' (r.head?.getD z)=some v.1:=by
    rw[←show Vs.ph d' y=r.head?.getD z from hp.1,abV y hyd];exact yf
   refine YV.conn.trans (ih v.1 e z (fun q hq=>hB q (List.mem_cons_of_mem _ hq)) hp.2 hz (fun q hq=>?_) (fun hr=>?_))
   ·rw[hq]at iM;exact iM
   ·subst hr
    have:bM d' z=some v.1:=iM
    rw[hz]at this;exact(Option.some.inj this).symm
 obtain⟨fx,pB⟩:=(show Path (Vs.ph d') ((x,0)::B) (x,0) from k1)
 have Kq:bM d' (B.head?.getD (x,0))=some w:=by
  rw[←fx,abV _ h.x0,Cj];exact hw
 refine(walk B w u (x,0) inC pB hu (fun y hy=>by rw[hy]at Kq;exact Kq) (fun hB=>?_)).symm h.w
 subst hB
 have:bM d' (x,0)=some w:=Kq
 rw[hu]at this;exact(Option.some.inj this).symm
theorem Is{d:aj}(h:au d.1=[]){a b:ID}(k:cQ d a b):a=b:=by
 induction k with
 |refl=>rfl
 |tail _ j _=>obtain⟨z,hz,_⟩:=j;rw[h]at hz;simp at hz
theorem bY.ids{l:List ah}(h:bY l):(l.map (·.1)).Nodup:=by
 unfold List.Nodup
 rw[List.pairwise_map]
 exact h.imp fun {a b} k e=>by rw[e,b8]at k;cases k
theorem LU:∀(n:Nat) (d:aj),Wf d→d.2.length=n→∀R,vS d R→∃k,d.1.length+ft d+2*k=2*R.length+d.2.length
 |0,d,hw,hl,R,hr=>by
  have he:d.2=[]:=by simpa using hl
  have hd:au d.1=[]:=by
   have:=hw.pd
   rw[he]at this
   exact List.perm_nil.1 this
  have Xe:vS d (d.1.map (·.1)):=⟨hw.sv.ids,fun r hr=>by obtain⟨v,hv,rfl⟩:=List.mem_map.1 hr;exact⟨v,hv,rfl⟩,fun r _ s _ k=>Is hd k,fun v hv=>⟨v.1,List.mem_map.2 ⟨v,hv,rfl⟩,.refl _⟩⟩
  have hlen:=hr.len hw Xe
  have hf:cV d=[]:=by unfold cV;rw[he];rfl
  have ha:al d.1=d.1.length:=by
   unfold al
   rw[List.countP_eq_length]
   intro v hv
   rw[List.isEmpty_iff]
   cases hq:v.2.1 with
   |nil=>rfl
   |cons y r =>
    have:y∈au d.1:=bg.2 ⟨v,hv,by rw[hq];simp⟩
    rw[hd]at this;simp at this
  refine⟨0,?_⟩
  unfold ft
  rw[hf,ha,hlen,he]
  simp;omega
 |n+1,d,hw,hl,R,hr=>by
  obtain⟨e,r,he⟩:∃e r,d.2=e::r:=by
   cases hq:d.2 with
   |nil=>rw[hq]at hl;simp at hl
   |cons e r=>exact⟨e,r,rfl⟩
  have hc:bU d e.1:=⟨hw,by unfold aT;rw[he];simp⟩
  obtain⟨u,w,hu,hwt,_,_⟩:=hc.LS
  have hv:(dr d e.1).1.length=d.1.length:=by
   have:=congrArg List.length hc.ids
   simpa using this
  have I2:(dr d e.1).2.length=n:=by
   have h1:=hc.w.pd.length_eq
   have h2:=hw.pd.length_eq
   have h3:=hc.p.length_eq
   have e2:∀l:List ai,(ends l).length=2*l.length:=fun l=>by
    induction l with
    |nil=>rfl
    |cons e r ih=>rw[j5];simp[ih];omega
   rw[e2]at h1 h2
   simp at h3;omega
  by_cases hf:R4 d (e.1,0) (e.1,1)
  ·have h1:=(hc.same hf).1
   by_cases k:cQ (dr d e.1) u w
   ·obtain⟨g,hg⟩:=LU n (dr d e.1) hc.w I2 R (hc.UM hu hwt k hr)
    exact⟨g+1,by omega⟩
   ·obtain⟨R2,h2,h3⟩:=hc.Wr hu hwt k hr
    obtain⟨g,hg⟩:=LU n (dr d e.1) hc.w I2 R2 h2
    exact⟨g,by omega⟩
  ·have h1:=hc.diff hf
   obtain⟨g,hg⟩:=LU n (dr d e.1) hc.w I2 R (hc.UM hu hwt (hc.NU hu hwt hf) hr)
   exact⟨g,by omega⟩
end Go.Vs
namespace Go.Vs
open Go.Proofs Go.Cy
def cJ(d:aj)(i:Nat):ID:=((d.1[i]?).getD zV).1
theorem m6{d:aj}{i:Nat}{v:ah}(h:d.1[i]? = some v):cJ d i=v.1:=by unfold cJ;rw[h];rfl
theorem jC{d:aj}(hs:bY d.1){i j:Nat}(hi:i<d.1.length)(hj:j<d.1.length)(h:cJ d i=cJ d j):i=j:=by
 have h1:=List.getElem?_eq_getElem hi
 have h2:=List.getElem?_eq_getElem hj
 rw[m6 h1,m6 h2]at h
 rw[j0 hs h1 rfl,j0 hs h2 rfl,h]
theorem R6{x:ID}:∀{l:List ah} {i:Nat} {v:ah} (k:Int),l[i]? = some v→v.1=x→(∀j u,j<i→l[j]? = some u→u.1≠x)→zN x l k=k+i
 |w::r,0,v,k,h,hv,_=>by
  simp at h;subst h
  rw[zN,if_pos hv];simp
 |w::r,i+1,v,k,h,hv,hn=>by
  have h0:=hn 0 w (by omega) (by simp)
  rw[zN,if_neg h0,R6 (i:=i) (v:=v) (k+1) (by simpa using h) hv (fun j u hj hu=>hn (j+1) u (by omega) (by simpa using hu))]
  omega
theorem R7{d:aj}(hs:bY d.1){i:Nat}(hi:i<d.1.length):zN (cJ d i) d.1 0=(i:Int):=by
 have h:=List.getElem?_eq_getElem hi
 have:=R6 (x:=cJ d i) (l:=d.1) (i:=i) (v:=d.1[i]) 0 h (m6 h).symm (fun j u hj hu he=>by
  have h1:=jC hs (show j<d.1.length by omega) hi ((m6 hu).trans he)
  omega)
 omega
theorem Kr{d:aj}(hw:Wf d){z:ae}(hz:z∈au d.1):∃i,i<d.1.length∧bM d z=some (cJ d i):=by
 obtain⟨v,hv,_,h⟩:=vT hw hz
 obtain⟨i,hi,he⟩:=List.getElem_of_mem hv
 refine⟨i,hi,?_⟩
 rw[h,m6 (List.getElem?_eq_getElem hi),he]
structure FP(d:aj)(L:List Int):Prop where
 n:L.length=d.1.length
 i:∀i,i<d.1.length→∃j:Nat,j≤i∧L.getD i 0=(j:Int)∧cQ d (cJ d i) (cJ d j)
def fH(d:aj)(L:List Int)(i:Nat):Prop:=∀j,j<d.1.length→cQ d (cJ d i) (cJ d j)→L.getD i 0≤(j:Int)
structure It(d:aj)(L:List Int):Prop where
 l:FP d L
 r:∀i,i<d.1.length→fH d L i
theorem Iu{L:List Int}{a i:Nat}(x:Int):(L.set a x).getD i 0=if a=i∧a<L.length then x else L.getD i 0:=by
 simp only[List.getD]
 rw[List.getElem?_set]
 by_cases h:a=i
 ·subst h
  by_cases k:a<L.length
  ·simp[k]
  ·simp[k]
 ·simp[h]
def De(a b:Nat)(L:List Int):List Int:=(L.set a (min (L.getD a 0) (L.getD b 0))).set b (min (L.getD a 0) (L.getD b 0))
theorem R8{L:List Int}{a b:Nat}(ha:a<L.length)(hb:b<L.length)(i:Nat):(De a b L).getD i 0=if i=a∨i=b then min (L.getD a 0) (L.getD b 0) else L.getD i 0:=by
 unfold De
 rw[Iu,Iu,List.length_set]
 by_cases h1:b=i
 ·rw[if_pos ⟨h1,hb⟩,if_pos (.inr h1.symm)]
 ·rw[if_neg (fun k=>h1 k.1)]
  by_cases h2:a=i
  ·rw[if_pos ⟨h2,ha⟩,if_pos (.inl h2.symm)]
  ·rw[if_neg (fun k=>h2 k.1),if_neg (fun k=>k.elim (fun m=>h2 m.symm) (fun m=>h1 m.symm))]
theorem NV{d:aj}(hw:Wf d){L:List Int}(h:FP d L){a b:Nat}(ha:a<d.1.length)(hb:b<d.1.length)(nP:cQ d (cJ d a) (cJ d b)):FP d (De a b L)∧(∀i,i<d.1.length→fH d L i→fH d (De a b L) i)∧(fH d L a→fH d (De a b L) b)∧(fH d L b→fH d (De a b L) a):=by
 have Tf:a<L.length:=by rw[h.n];exact ha
 have Ks:b<L.length:=by rw[h.n];exact hb
 have gl:=R8 Tf Ks
 obtain⟨ja,a1,a2,a3⟩:=h.i a ha
 obtain⟨jb,b1,b2,b3⟩:=h.i b hb
 have hba:=nP.symm hw
 refine⟨⟨by unfold De;simp[h.n],fun i hi=>?_⟩,fun i hi hr j hj hc=>?_,fun hr j hj hc=>?_,fun hr j hj hc=>?_⟩
 ·rw[gl]
  by_cases Kt:i=a∨i=b
  ·rw[if_pos Kt]
   have conn:cQ d (cJ d i) (cJ d a)∧cQ d (cJ d i) (cJ d b):=by
    rcases Kt with rfl|rfl
    ·exact⟨.refl _,nP⟩
    ·exact⟨hba,.refl _⟩
   by_cases hle:L.getD a 0≤L.getD b 0
   ·refine⟨ja,?_,by rw[←a2];omega,conn.1.trans a3⟩
    rcases Kt with rfl|rfl
    ·exact a1
    ·rw[a2,b2]at hle;omega
   ·refine⟨jb,?_,by rw[←b2];omega,conn.2.trans b3⟩
    rcases Kt with rfl|rfl
    ·rw[a2,b2]at hle;omega
    ·exact b1
  ·rw[if_neg Kt];exact h.i i hi
 ·rw[gl]
  split
  ·rename_i Kt
   have:=hr j hj hc
   rcases Kt with rfl|rfl<;>omega
  ·exact hr j hj hc
 ·rw[gl,if_pos (.inr rfl)]
  have:=hr j hj (nP.trans hc)
  omega
 ·rw[gl,if_pos (.inl rfl)]
  have:=hr j hj (hba.trans hc)
  omega
theorem XW{d:aj}(hw:Wf d){e:ai}(he:e∈d.2)(L:List Int):∃a b,a<d.1.length∧b<d.1.length∧bM d (e.1,0)=some (cJ d a)∧bM d (e.1,1)=some (cJ d b)∧FE d e L=De a b L:=by
 have h0:(e.1,0)∈au d.1:=hw.pd.mem_iff.2 (cP.2 ⟨e,he,rfl,.inl rfl⟩)
 have h1:(e.1,1)∈au d.1:=hw.pd.mem_iff.2 (cP.2 ⟨e,he,rfl,.inr rfl⟩)
 obtain⟨a,ha,ea⟩:=Kr hw h0
 obtain⟨b,hb,eb⟩:=Kr hw h1
 refine⟨a,b,ha,hb,ea,eb,?_⟩
 unfold FE De
 rw[ea,eb]
 simp only[Option.getD_some,R7 hw.sv ha,R7 hw.sv hb,Int.toNat_natCast]
 rw[if_pos ⟨by omega,by omega⟩]
theorem uq{d:aj}(hw:Wf d):∀(l:List ai) {L:List Int},(∀e∈l,e∈d.2)→FP d L→FP d (jK d l L)∧(∀i,i<d.1.length→fH d L i→fH d (jK d l L) i) ∧
  (∀e∈l,∀a b,a<d.1.length→b<d.1.length→((bM d (e.1,0)=some (cJ d a)∧bM d (e.1,1)=some (cJ d b))∨(bM d (e.1,0)=some (cJ d b)∧bM d (e.1,1)=some (cJ d a)))→fH d L a→fH d (jK d l L) b)
 |[],L,_,h=>⟨h,fun i hi hr=>hr,fun e he=>by simp at he⟩
 |e::r,L,hl,h=>by
  have he:=hl e (List.mem_cons_self ..)
  obtain⟨a,b,ha,hb,ea,eb,el⟩:=XW hw he L
  have h0:(e.1,0)∈au d.1:=hw.pd.mem_iff.2 (cP.2 ⟨e,he,rfl,.inl rfl⟩)
  have nP:cQ d (cJ d a) (cJ d b):=Ir.conn ⟨(e.1,0),h0,ea,by rw[Cj];exact eb⟩
  obtain⟨s1,s2,s3,s4⟩:=NV hw h ha hb nP
  obtain⟨t1,t2,t3⟩:=uq hw r (L:=De a b L) (fun e he=>hl e (List.mem_cons_of_mem _ he)) s1
  show FP d (jK d r (FE d e L))∧_∧_
  rw[el]
  refine⟨t1,fun i hi hr=>?_,fun f hf p q hp hq AA hr=>?_⟩
  ·show fH d (jK d r (FE d e L)) i
   rw[el];exact t2 i hi (s2 i hi hr)
  ·show fH d (jK d r (FE d e L)) q
   rw[el]
   rcases List.mem_cons.1 hf with rfl|hf
   ·refine t2 q hq ?_
    rcases AA with⟨k1,k2⟩|⟨k1,k2⟩
    ·rw[ea]at k1;rw[eb]at k2
     have:=jC hw.sv ha hp (Option.some.inj k1);subst this
     have:=jC hw.sv hb hq (Option.some.inj k2);subst this
     exact s3 hr
    ·rw[ea]at k1;rw[eb]at k2
     have:=jC hw.sv ha hq (Option.some.inj k1);subst this
     have:=jC hw.sv hb hp (Option.some.inj k2);subst this
     exact s4 hr
   ·exact t3 f hf p q hp hq AA (s2 p hp hr)
theorem Ku{d:aj}(i:Nat)(hi:i<d.1.length):∃m,m<d.1.length∧cQ d (cJ d i) (cJ d m)∧∀j,j<d.1.length→cQ d (cJ d i) (cJ d j)→m≤j:=by
 induction i using Nat.strongRecOn with
 |ind i ih =>
  by_cases h:∃j,j<i∧cQ d (cJ d i) (cJ d j)∧cQ d (cJ d j) (cJ d i)
  ·obtain⟨j,hj,hc,uy⟩:=h
   obtain⟨m,h1,h2,h3⟩:=ih j hj (by omega)
   exact⟨m,h1,hc.trans h2,fun k hk hck=>h3 k hk (uy.trans hck)⟩
  ·by_cases hs:∃j,j<i∧cQ d (cJ d i) (cJ d j)
   ·obtain⟨j,hj,hc⟩:=hs
    have key:∀n,n≤i→(∃m,m<n∧cQ d (cJ d i) (cJ d m))→∃m,m<d.1.length∧cQ d (cJ d i) (cJ d m)∧∀j,j<d.1.length→cQ d (cJ d i) (cJ d j)→m≤j:=by
     intro n
     induction n with
     |zero=>rintro _ ⟨m,hm,_⟩;omega
     |succ n ihn =>
      rintro hn ⟨m,hm,Fp⟩
      by_cases hb:∃m,m<n∧cQ d (cJ d i) (cJ d m)
      ·exact ihn (by omega) hb
      ·have:m=n:=Classical.byContradiction fun k=>hb ⟨m,by omega,Fp⟩
       subst this
       refine⟨m,by omega,Fp,fun j hj No=>Classical.byContradiction fun k=>hb ⟨j,by omega,No⟩⟩
    exact key i (Nat.le_refl _) ⟨j,hj,hc⟩
   ·refine⟨i,hi,.refl _,fun j hj hc=>Classical.byContradiction fun k=>hs ⟨j,by omega,hc⟩⟩
theorem NW{d:aj}(P:ID→Prop){x y:ID}(h:cQ d x y)(hx:P x)(hy:¬P y):∃a b,Ir d a b∧P a∧¬P b:=by
 induction h with
 |refl=>exact absurd hx hy
 | @tail b c k j ih =>
  by_cases hb:P b
  ·exact⟨_,_,j,hb,hy⟩
  ·exact ih hb
open Classical in
theorem Ix{P Q:Nat→Prop}:∀{l:List Nat},(∀i∈l,P i→Q i)→(∃i∈l,Q i∧¬P i)→l.countP (fun i=>decide (P i))<l.countP (fun i=>decide (Q i))
 |[],_,h=>by obtain⟨i,hi,_⟩:=h;simp at hi
 |x::r,h,⟨i,hi,hq,hp⟩=>by
  have mono:r.countP (fun i=>decide (P i))≤r.countP (fun i=>decide (Q i)):=by
   have hr:∀i∈r,P i→Q i:=fun i hi=>h i (List.mem_cons_of_mem _ hi)
   clear h hi
   induction r with
   |nil=>simp
   |cons y r ih =>
    rw[List.countP_cons,List.countP_cons]
    have:=ih (fun i hi=>hr i (List.mem_cons_of_mem _ hi))
    have h2:=hr y (List.mem_cons_self ..)
    by_cases hy:P y
    ·simp[hy,h2 hy];exact this
    ·simp[hy];omega
  rw[List.countP_cons,List.countP_cons]
  rcases List.mem_cons.1 hi with rfl|hi
  ·simp[hq,hp];omega
  ·have:=Ix (l:=r) (fun i hi=>h i (List.mem_cons_of_mem _ hi)) ⟨i,hi,hq,hp⟩
   have hx:=h x (List.mem_cons_self ..)
   by_cases hpx:P x
   ·simp[hpx,hx hpx];exact this
   ·simp[hpx];omega
theorem Kv{d:aj}(hw:Wf d){L:List Int}(h:FP d L)(hn:∃i,i<d.1.length∧¬fH d L i):∃i,i<d.1.length∧fH d (jK d d.2 L) i∧¬fH d L i:=by
 obtain⟨i,hi,hr⟩:=hn
 obtain⟨m,m1,m2,m3⟩:=Ku i hi
 have hm:fH d L m:=fun j hj hc=>by
  obtain⟨q,q1,q2,_⟩:=h.i m m1
  have:=m3 j hj (m2.trans hc)
  rw[q2];omega
 let P:ID→Prop:=fun x=>∃k,k<d.1.length∧cJ d k=x∧fH d L k
 have hx:P (cJ d m):=⟨m,m1,rfl,hm⟩
 have hy:¬P (cJ d i):=fun⟨k,k1,k2,k3⟩=>by
  have:=jC hw.sv k1 hi k2
  exact hr (this▸k3)
 obtain⟨a,b,⟨z,hz,za,zb⟩,⟨p,p1,p2,p3⟩,hb⟩:=NW P (m2.symm hw) hx hy
 obtain⟨q,q1,q2⟩:=Kr hw (hw.other hz)
 rw[zb]at q2
 have hbq:b=cJ d q:=Option.some.inj q2
 obtain⟨e,he,e1,e2⟩:=cP.1 (hw.pd.mem_iff.1 hz)
 refine⟨q,q1,?_,fun k=>hb ⟨q,q1,hbq.symm,k⟩⟩
 refine(uq hw d.2 (fun _ h=>h) h).2.2 e he p q p1 q1 ?_ p3
 rw[p2,←hbq]
 obtain⟨z1,z2⟩:=z
 simp only at e1 e2
 subst e1
 rcases e2 with rfl|rfl
 ·exact .inl ⟨za,zb⟩
 ·exact .inr ⟨zb,za⟩
open Classical in
theorem Cm{d:aj}(hw:Wf d):∀(n:Nat) {L:List Int},FP d L→d.1.length≤n+(List.range d.1.length).countP (fun i=>decide (fH d L i))→It d (HY d n L)
 |0,L,h,hc=>by
  refine⟨h,fun i hi=>?_⟩
  have h1:(List.range d.1.length).countP (fun i=>decide (fH d L i))=(List.range d.1.length).length:=by
   have:=List.countP_le_length (p:=fun i=>decide (fH d L i)) (l:=List.range d.1.length)
   simp at this ⊢;omega
  have:=List.countP_eq_length.1 h1 i (List.mem_range.2 hi)
  exact of_decide_eq_true this
 |n+1,L,h,hc=>by
  obtain⟨s1,s2,_⟩:=uq hw d.2 (fun _ h=>h) h
  show It d (HY d n (jK d d.2 L))
  refine Cm hw n s1 ?_
  by_cases hn:∃i,i<d.1.length∧¬fH d L i
  ·obtain⟨i,hi,h1,h2⟩:=Kv hw h hn
   have:=Ix (P:=fH d L) (Q:=fH d (jK d d.2 L)) (l:=List.range d.1.length) (fun i hi=>s2 i (List.mem_range.1 hi)) ⟨i,List.mem_range.2 hi,h1,h2⟩
   omega
  ·have:(List.range d.1.length).countP (fun i=>decide (fH d (jK d d.2 L) i))=(List.range d.1.length).length:=by
    rw[List.countP_eq_length]
    intro i hi
    have hi:=List.mem_range.1 hi
    exact decide_eq_true (s2 i hi (Classical.byContradiction fun k=>hn ⟨i,hi,k⟩))
   rw[this];simp
theorem XX(d:aj):FP d (Db d.1.length):=by
 refine⟨by unfold Db;simp,fun i hi=>⟨i,Nat.le_refl _,?_,.refl _⟩⟩
 unfold Db
 simp[List.getD,hi]
theorem fC{d:aj}(hw:Wf d):It d (labels d):=Cm hw d.1.length (XX d) (by omega)
theorem It.uniq{d:aj}(hw:Wf d){L M:List Int}(h:It d L)(k:It d M):L=M:=by
 apply List.ext_getElem?
 intro i
 by_cases hi:i<d.1.length
 ·have e1:L[i]? = some (L.getD i 0):=by rw[List.getElem?_eq_getElem (by rw[h.l.n];exact hi)];simp[List.getD,h.l.n,hi]
  have e2:M[i]? = some (M.getD i 0):=by rw[List.getElem?_eq_getElem (by rw[k.l.n];exact hi)];simp[List.getD,k.l.n,hi]
  obtain⟨a,a1,a2,a3⟩:=h.l.i i hi
  obtain⟨b,b1,b2,b3⟩:=k.l.i i hi
  have h1:=h.r i hi b (by omega) b3
  have h2:=k.r i hi a (by omega) a3
  rw[e1,e2];congr 1;omega
 ·rw[List.getElem?_eq_none (by rw[h.l.n];omega),List.getElem?_eq_none (by rw[k.l.n];omega)]
def kT(d:aj)(L:List Int):List ID:=((List.range d.1.length).filter fun i=>decide (L.getD i 0=(i:Int))).map (cJ d)
theorem m8{d:aj}(hw:Wf d){L:List Int}(h:It d L):vS d (kT d L):=by
 have mem:∀{r:ID},r∈kT d L↔∃i,i<d.1.length∧L.getD i 0=(i:Int)∧cJ d i=r:=fun {r}=>by
  unfold kT
  rw[List.mem_map]
  constructor
  ·rintro⟨i,hi,rfl⟩
   rw[List.mem_filter,List.mem_range]at hi
   exact⟨i,hi.1,by simpa using hi.2,rfl⟩
  ·rintro⟨i,h1,h2,rfl⟩
   exact⟨i,by rw[List.mem_filter,List.mem_range];exact⟨h1,by simpa using h2⟩,rfl⟩
 refine⟨?_,fun r hr=>?_,fun r hr s hs hc=>?_,fun v hv=>?_⟩
 ·unfold kT List.Nodup
  rw[List.pairwise_map]
  have hp:((List.range d.1.length).filter fun i=>decide (L.getD i 0=(i:Int))).Nodup:=List.nodup_range.filter _
  refine List.Pairwise.imp_of_mem (fun {a b} ha hb br e=>br ?_) hp
  exact jC hw.sv (List.mem_range.1 (List.mem_filter.1 ha).1) (List.mem_range.1 (List.mem_filter.1 hb).1) e
 ·obtain⟨i,hi,_,rfl⟩:=mem.1 hr
  exact⟨d.1[i],List.getElem_mem hi,(m6 (List.getElem?_eq_getElem hi)).symm⟩
 ·obtain⟨i,hi,h1,rfl⟩:=mem.1 hr
  obtain⟨j,hj,h2,rfl⟩:=mem.1 hs
  have k1:=h.r i hi j hj hc
  have k2:=h.r j hj i hi (hc.symm hw)
  have:i=j:=by omega
  rw[this]
 ·obtain⟨i,hi,he⟩:=List.getElem_of_mem hv
  have bO:cJ d i=v.1:=by rw[m6 (List.getElem?_eq_getElem hi),he]
  obtain⟨j,j1,j2,j3⟩:=h.l.i i hi
  refine⟨cJ d j,mem.2 ⟨j,by omega,?_,rfl⟩,by rw[←bO];exact j3⟩
  obtain⟨k,k1,k2,k3⟩:=h.l.i j (by omega)
  have h1:=h.r i hi k (by omega) (j3.trans k3)
  rw[j2]at h1
  rw[k2]
  have:j=k:=by omega
  rw[this]
theorem xy:∀(l:List Int) (i:Nat) (n:Nat),n+l.length≤1000000→pT l (i:Int) (n:Int)=((n+((List.range l.length).filter fun j=>decide (l.getD j 0=((i+j:Nat):Int))).length:Nat):Int)
 |[],i,n,_=>by simp[pT]
 |x::r,i,n,h=>by
  simp at h
  have e:((List.range (x::r).length).filter fun j=>decide ((x::r).getD j 0=((i+j:Nat):Int))).length=(if x=(i:Int) then 1 else 0)+((List.range r.length).filter fun j=>decide (r.getD j 0=((i+1+j:Nat):Int))).length:=by
   rw[List.length_cons,List.range_succ_eq_map,List.filter_cons]
   have e2:((List.range r.length).map Nat.succ).filter (fun j=>decide ((x::r).getD j 0=((i+j:Nat):Int)))=((List.range r.length).filter fun j=>decide (r.getD j 0=((i+1+j:Nat):Int))).map Nat.succ:=by
    rw[List.filter_map]
    congr 1
    apply List.filter_congr
    intro j _
    simp only[Function.comp,Nat.succ_eq_add_one,List.getD_cons_succ]
    rw[show i+(j+1)=i+1+j by omega]
   rw[e2]
   simp only[List.getD_cons_zero,Nat.add_zero]
   by_cases hx:x=(i:Int)
   ·simp[hx];omega
   ·simp[hx]
  rw[e]
  unfold pT
  have hi:((i:Int)+1)=((i+1:Nat):Int):=by omega
  rw[hi]
  by_cases hx:x=(i:Int)
  ·rw[if_pos hx,if_pos hx]
   have hw:IntKind.wrap .i64 ((n:Int)+1)=((n+1:Nat):Int):=by rw[wrap_small (by omega) (by omega)];omega
   rw[hw,xy r (i+1) (n+1) (by omega)]
   congr 1;omega
  ·rw[if_neg hx,if_neg hx,xy r (i+1) n (by omega)]
   congr 1;omega
theorem sJ{d:aj}(hw:Wf d):eY d=((kT d (labels d)).length:Int):=by
 have h:=fC hw
 have hn:=hw.nv
 unfold eY
 have:=xy (labels d) 0 0 (by rw[h.l.n];omega)
 simp only[Nat.zero_add]at this
 have e:pT (labels d) 0 0=pT (labels d) ((0:Nat):Int) ((0:Nat):Int):=rfl
 rw[e,this]
 unfold kT
 rw[List.length_map,h.l.n]
theorem xz:∀(l:List ah) (n:Nat),n+l.length≤1000000→rv l (n:Int)=((n+al l:Nat):Int)
 |[],n,_=>by simp[rv,al]
 |v::r,n,h=>by
  simp at h
  unfold rv al
  rw[List.countP_cons]
  by_cases hv:v.2.1.length=0
  ·have:v.2.1.isEmpty=true:=by rw[List.isEmpty_iff];simpa using hv
   have hw:IntKind.wrap .i64 ((n:Int)+1)=((n+1:Nat):Int):=by rw[wrap_small (by omega) (by omega)];omega
   rw[if_pos hv,hw,xz r (n+1) (by omega),this]
   unfold al
   congr 1;simp;omega
  ·have:v.2.1.isEmpty=false:=by
    cases hq:v.2.1 with
    |nil=>rw[hq]at hv;exact absurd rfl hv
    |cons _ _=>rfl
   rw[if_neg hv,xz r n (by omega),this]
   unfold al
   simp
theorem vU{d:aj}(hw:Wf d):(cV d).length≤80:=by
 have h:=b6 hw
 have h1:=h.p.length_eq
 have h2:=hw.Iq
 have h3:(cV d).length≤(cV d).flatten.length:=by
  have hc:=h.c
  generalize cV d=cs at hc
  induction cs with
  |nil=>simp
  |cons c r ih =>
   have:=ih (fun c YR=>hc c (List.mem_cons_of_mem _ YR))
   have h1:=(hc c (List.mem_cons_self ..)).ne
   have:0<c.length:=Nat.pos_of_ne_zero fun k=>h1 (List.length_eq_zero_iff.1 k)
   simp only[List.length_cons,List.flatten_cons,List.length_append];omega
 omega
theorem NX{d:aj}(hw:Wf d):BU d=((ft d:Nat):Int):=by
 unfold BU ft
 have:=hw.nv
 have:=vU hw
 exact xz d.1 (cV d).length (by omega)
theorem R9{d:aj}(hw:Wf d){R:List ID}(hr:vS d R):∃k:Nat,fR d=(k:Int)∧d.1.length+ft d+2*k=2*R.length+d.2.length:=by
 have hl:=(m8 hw (fC hw)).len hw hr
 obtain⟨k,hk⟩:=LU d.2.length d hw rfl R hr
 refine⟨k,?_,hk⟩
 have hn:=hw.nv;have he:=hw.ne
 have hf:=vU hw
 have ha:al d.1≤d.1.length:=List.countP_le_length
 have hR:R.length≤d.1.length:=by
  rw[←hl];unfold kT
  rw[List.length_map]
  exact Nat.le_trans (List.length_filter_le _ _) (by simp)
 have ZF:ft d=(cV d).length+al d.1:=rfl
 unfold fR
 rw[sJ hw,NX hw,hl]
 rw[wrap_small (n:=2*((R.length:Nat):Int)) (by omega) (by omega)]
 rw[wrap_small (n:=2*((R.length:Nat):Int)-((d.1.length:Nat):Int)) (by omega) (by omega)]
 rw[wrap_small (n:=2*((R.length:Nat):Int)-((d.1.length:Nat):Int)+((d.2.length:Nat):Int)) (by omega) (by omega)]
 have e:2*((R.length:Nat):Int)-((d.1.length:Nat):Int)+((d.2.length:Nat):Int)-((ft d:Nat):Int)=2*(k:Int):=by omega
 rw[e,wrap_small (n:=2*(k:Int)) (by omega) (by omega)]
 have e2:Int.tdiv (2*(k:Int)) 2=(k:Int):=by
  rw[Int.tdiv_eq_ediv_of_nonneg (by omega)];omega
 rw[e2,wrap_small (by omega) (by omega)]
end Go.Vs
