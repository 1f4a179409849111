/- Faces, parts, and Euler's formula. -/
import Derived.Test.YtpldhjjpeldkaaaGreatSplits
set_option linter.unusedVariables false
namespace Go.Cy
variable {α:Type}
def Path(f:α→α):List α→α→Prop
 |[],_=>True
 |x::r,z=>f x=r.head?.getD z∧Path f r z
theorem Path.app{f:α→α}:∀{a b:List α} {z:α},Path f (a++b) z↔Path f a (b.head?.getD z)∧Path f b z
 |[],b,z=>by simp[Path]
 |x::r,b,z=>by
  have ih:=Path.app (f:=f) (a:=r) (b:=b) (z:=z)
  simp only[List.cons_append,Path]
  rw[ih]
  have:(r++b).head?.getD z=r.head?.getD (b.head?.getD z):=by cases r<;>simp
  rw[this,and_assoc]
theorem Path.congr{f g:α→α}:∀{a:List α} {z:α},(∀x∈a,g x=f x)→Path f a z→Path g a z
 |[],_,_,_=>trivial
 |x::r,z,h,p=>⟨(h x (List.mem_cons_self ..)).trans p.1,Path.congr (fun y hy=>h y (List.mem_cons_of_mem _ hy)) p.2⟩
def gS(f:α→α):List α→Prop
 |[]=>False
 |x::r=>Path f (x::r) x
theorem gS.two{f:α→α}{x y:α}{a b:List α}:gS f ((x::a)++(y::b))↔Path f (x::a) y∧Path f (y::b) x:=by
 show Path f ((x::a)++(y::b)) x↔_
 rw[Path.app];rfl
theorem gS.qv{f:α→α}:∀{a b:List α},gS f (a++b)→gS f (b++a)
 |[],b,h=>by simpa using h
 |x::a,[],h=>by simpa using h
 |x::a,y::b,h=>gS.two.2 ⟨(gS.two.1 h).2,(gS.two.1 h).1⟩
theorem gS.ne{f:α→α}{c:List α}(h:gS f c):c≠[]:=by rintro rfl;exact h
theorem gS.congr{f g:α→α}{c:List α}(h:∀x∈c,g x=f x)(k:gS f c):gS g c:=by
 cases c with
 |nil=>exact k
 |cons x r=>exact Path.congr h k
theorem Path.step{f:α→α}:∀{a:List α} {z x:α},Path f a z→x∈a→f x∈a∨f x=z
 |y::r,z,x,p,hx=>by
  rcases List.mem_cons.1 hx with rfl|hx
  ·cases r with
   |nil=>exact .inr p.1
   |cons u r=>exact .inl (by have:=p.1;simp at this;rw[this];simp)
  ·rcases Path.step p.2 hx with h|h
   ·exact .inl (List.mem_cons_of_mem _ h)
   ·exact .inr h
theorem gS.step{f:α→α}{c:List α}(h:gS f c){x:α}(hx:x∈c):f x∈c:=by
 cases c with
 |nil=>exact h.elim
 |cons y r =>
  rcases Path.step (show Path f (y::r) y from h) hx with k|k
  ·exact k
  ·rw[k];simp
def it(f:α→α):Nat→α→α
 |0,x=>x
 |n+1,x=>it f n (f x)
theorem gS.it{f:α→α}{c:List α}(h:gS f c):∀(n:Nat) {x:α},x∈c→it f n x∈c
 |0,_,hx=>hx
 |n+1,_,hx=>gS.it h n (h.step hx)
theorem Path.reach{f:α→α}:∀{r:List α} {x z:α},Path f (x::r) z→∀y∈x::r,∃n,it f n x=y
 |[],x,z,_,y,hy=>by simp at hy;exact⟨0,hy.symm⟩
 |u::r,x,z,p,y,hy=>by
  rcases List.mem_cons.1 hy with rfl|hy
  ·exact⟨0,rfl⟩
  ·have h1:f x=u:=p.1
   obtain⟨n,hn⟩:=Path.reach p.2 y hy
   exact⟨n+1,by show it f n (f x)=y;rw[h1];exact hn⟩
theorem gS.head{f:α→α}{c:List α}(h:gS f c){x:α}(hx:x∈c):∃r,gS f (x::r)∧(x::r).Perm c:=by
 obtain⟨a,b,rfl⟩:=List.append_of_mem hx
 exact⟨b++a,gS.qv h,List.perm_append_comm (l₁:=x::b) (l₂:=a)⟩
theorem gS.reach{f:α→α}{c:List α}(h:gS f c){x y:α}(hx:x∈c)(hy:y∈c):∃n,Cy.it f n x=y:=by
 obtain⟨r,h1,h2⟩:=h.head hx
 exact Path.reach (show Path f (x::r) x from h1) y (h2.mem_iff.2 hy)
theorem gS.same{f:α→α}{c c':List α}(h:gS f c)(h':gS f c'){x:α}(hx:x∈c)(Y5:x∈c'){y:α}(hy:y∈c):y∈c':=by
 obtain⟨n,hn⟩:=h.reach hx hy
 rw[←hn];exact h'.it n Y5
structure EE(f:α→α)(D:List α)(cs:List (List α)):Prop where
 c:∀c∈cs,gS f c
 p:cs.flatten.Perm D
theorem fF(p q:List (List α))(c:List α):(p++c::q).flatten.Perm (c++(p++q).flatten):=by
 simp only[List.flatten_append,List.flatten_cons]
 rw[←List.append_assoc,←List.append_assoc]
 exact List.Perm.append_right _ List.perm_append_comm
theorem EE.count{f:α→α}:∀{cs cs':List (List α)} {D:List α},D.Nodup→EE f D cs→EE f D cs'→cs.length=cs'.length
 |[],cs',D,hn,h,h'=>by
  have hD:D=[]:=by have:=h.p;simp at this;exact this.symm▸rfl
  subst hD
  cases cs' with
  |nil=>rfl
  |cons c r =>
   have:=h'.p.length_eq
   have h1:=(h'.c c (by simp)).ne
   cases c with
   |nil=>exact absurd rfl h1
   |cons x c=>simp at this
 |c::r,cs',D,hn,h,h'=>by
  have hc:=h.c c (by simp)
  obtain⟨x,c0,rfl⟩:∃x c0,c=x::c0:=by
   cases c with
   |nil=>exact hc.elim
   |cons x c0=>exact⟨x,c0,rfl⟩
  have hx:x∈cs'.flatten:=h'.p.mem_iff.2 (h.p.mem_iff.1 (by simp))
  obtain⟨c',YI,abF⟩:=List.mem_flatten.1 hx
  obtain⟨p,q,rfl⟩:=List.append_of_mem YI
  have abG:=h'.c c' (by simp)
  have n1:(x::c0).Nodup:=by
   have:=h.p.nodup_iff.2 hn
   rw[List.flatten_cons]at this
   exact(List.nodup_append.1 this).1
  have n2:c'.Nodup:=by
   have:=(fF p q c').nodup_iff.1 (h'.p.nodup_iff.2 hn)
   exact(List.nodup_append.1 this).1
  have pc:(x::c0).Perm c':=(List.perm_ext_iff_of_nodup n1 n2).2 fun y=>⟨fun hy=>hc.same abG (by simp) abF hy,fun hy=>abG.same hc abF (by simp) hy⟩
  have pd:((x::c0)++r.flatten).Perm ((x::c0)++(p++q).flatten):=by
   have e1:((x::c0)++r.flatten).Perm D:=by have:=h.p;rwa [List.flatten_cons]at this
   have e2:(c'++(p++q).flatten).Perm D:=(fF p q c').symm.trans h'.p
   exact e1.trans (e2.symm.trans (List.Perm.append_right _ pc.symm))
  have pr:=(List.perm_append_left_iff _).1 pd
  have Ty:r.flatten.Nodup:=by
   have:=h.p.nodup_iff.2 hn
   rw[List.flatten_cons]at this
   exact(List.nodup_append.1 this).2.1
  have ih:=EE.count (cs:=r) (cs':=p++q) (D:=r.flatten) Ty ⟨fun c hc=>h.c c (by simp[hc]),List.Perm.refl _⟩ ⟨fun c hc=>h'.c c (by
   rcases List.mem_append.1 hc with k|k<;>simp[k]),pr.symm⟩
  simp at ih ⊢;omega
theorem Path.gR{f g:α→α}:∀{a:List α} {z z':α},Path f a z→z∉a.tail→(∀u∈a,f u≠z→g u=f u)→(∀u∈a,f u=z→g u=z')→Path g a z'
 |[],_,_,_,_,_,_=>trivial
 |[x],z,z',p,hz,h1,h2=>⟨h2 x (by simp) p.1,trivial⟩
 |x::y::r,z,z',p,hz,h1,h2=>by
  have e:f x=y:=p.1
  have bp:y≠z:=fun k=>hz (by simp[k])
  refine⟨(h1 x (by simp) (by rw[e];exact bp)).trans e,?_⟩
  exact Path.gR p.2 (fun k=>hz (List.mem_cons_of_mem _ k)) (fun u hu=>h1 u (List.mem_cons_of_mem _ hu)) (fun u hu=>h2 u (List.mem_cons_of_mem _ hu))
def nz:List α→Nat
 |[]=>0
 |_::_=>1
def kZ(l:List α):List (List α):=match l with | []=>[]|x::r=>[x::r]
theorem uH(l:List α):(kZ l).flatten=l:=by cases l<;>simp[kZ]
theorem EF(l:List α):(kZ l).length=nz l:=by cases l<;>rfl
theorem mJ{l:List α}{z:α}(h:z∈l.tail):z∈l:=List.mem_of_mem_tail h
section
variable [DecidableEq α]
def rO(f':α→α)(x y:α)(z:α):α :=
 if f' z=x then(if f' y=y then f' x else f' y) else if f' z=y then(if f' x=x then f' y else f' x) else f' z
theorem EE.RL{f' f:α→α}{x y:α}{D:List α}{cs':List (List α)}{c:List α}(Fb:x≠y)(hn:(x::y::D).Nodup)(h:EE f' (x::y::D) cs')(hf:∀z∈D,f z=rO f' x y z)(hc:c∈cs')(hx:x∈c)(hy:y∈c) :
  ∃cs,EE f D cs∧cs.length+1=cs'.length+(if f' x=y then 0 else 1)+(if f' y=x then 0 else 1):=by
 obtain⟨p,q,rfl⟩:=List.append_of_mem hc
 have VM:=h.c c hc
 obtain⟨r,h1,h2⟩:=VM.head hx
 have hyr:y∈r:=by
  rcases List.mem_cons.1 (h2.mem_iff.2 hy) with k|k
  ·exact absurd k.symm Fb
  ·exact k
 obtain⟨B,A,rfl⟩:=List.append_of_mem hyr
 have h3:gS f' ((x::B)++(y::A)):=h1
 obtain⟨⟨fx,pB⟩,⟨fy,pA⟩⟩:=gS.two.1 h3
 have pd:(x::y::(B++A++(p++q).flatten)).Perm (x::y::D):=by
  refine List.Perm.trans ?_ h.p
  refine List.Perm.trans ?_ (fF p q c).symm
  refine List.Perm.trans ?_ (List.Perm.append_right _ h2)
  show(x::y::(B++A++(p++q).flatten)).Perm (x::((B++y::A)++(p++q).flatten))
  refine List.Perm.cons x ?_
  rw[List.append_assoc B (y::A),List.cons_append,List.append_assoc]
  exact List.perm_middle.symm
 have pD:=(pd.cons_inv).cons_inv
 have nd:=pd.nodup_iff.2 hn
 have nx:x∉B++A++(p++q).flatten:=fun k=>(List.nodup_cons.1 nd).1 (List.mem_cons_of_mem _ k)
 have ny:y∉B++A++(p++q).flatten:=(List.nodup_cons.1 (List.nodup_cons.1 nd).2).1
 have xB:x∉B:=fun k=>nx (by simp[k])
 have xA:x∉A:=fun k=>nx (by simp[k])
 have yB:y∉B:=fun k=>ny (by simp[k])
 have yA:y∉A:=fun k=>ny (by simp[k])
 have RM:∀z∈B++A++(p++q).flatten,z∈D:=fun z hz=>pD.mem_iff.1 hz
 have cB:∀c∈kZ B,gS f c:=fun c hc=>by
  cases B with
  |nil=>simp[kZ]at hc
  |cons b B =>
   have hc:c=b::B:=by simpa[kZ] using hc
   subst hc
   have fx:f' x=b:=fx
   have bx:b≠x:=fun k=>xB (by simp[k])
   refine Path.gR pB (fun k=>yB (mJ k)) (fun u hu bp=>?_) (fun u hu heq=>?_)
   ·rw[hf u (RM u (by simp at hu ⊢;rcases hu with k|k<;>simp[k]))]
    unfold rO
    have:f' u≠x:=fun k=>by
     rcases pB.step hu with m|m
     ·exact xB (k▸m)
     ·exact bp m
    rw[if_neg this,if_neg bp]
   ·rw[hf u (RM u (by simp at hu ⊢;rcases hu with k|k<;>simp[k]))]
    unfold rO
    rw[if_neg (by rw[heq];exact fun k=>Fb k.symm),if_pos heq,if_neg (by rw[fx];exact bx),fx]
 have cA:∀c∈kZ A,gS f c:=fun c hc=>by
  cases A with
  |nil=>simp[kZ]at hc
  |cons a A =>
   have hc:c=a::A:=by simpa[kZ] using hc
   subst hc
   have fy:f' y=a:=fy
   have ay:a≠y:=fun k=>yA (by simp[k])
   refine Path.gR pA (fun k=>xA (mJ k)) (fun u hu bp=>?_) (fun u hu heq=>?_)
   ·rw[hf u (RM u (by simp at hu ⊢;rcases hu with k|k<;>simp[k]))]
    unfold rO
    have:f' u≠y:=fun k=>by
     rcases pA.step hu with m|m
     ·exact yA (k▸m)
     ·exact bp m
    rw[if_neg bp,if_neg this]
   ·rw[hf u (RM u (by simp at hu ⊢;rcases hu with k|k<;>simp[k]))]
    unfold rO
    rw[if_pos heq,if_neg (by rw[fy];exact ay),fy]
 have cR:∀c∈p++q,gS f c:=fun c hc=>by
  have YI:c∈p++((x::B)++(y::A))::q:=by
   rcases List.mem_append.1 hc with k|k<;>simp[k]
  have CB:gS f' c:=h.c c (by rcases List.mem_append.1 hc with k|k<;>simp[k])
  refine CB.congr fun z hz=>?_
  have hzf:∀u∈c,u∈(p++q).flatten:=fun u hu=>List.mem_flatten.2 ⟨c,hc,hu⟩
  have hm:=hzf _ (CB.step hz)
  rw[hf z (RM z (List.mem_append_right _ (hzf z hz)))]
  unfold rO
  rw[if_neg (fun k=>nx (List.mem_append_right _ (by rw[←k];exact hm))),if_neg (fun k=>ny (List.mem_append_right _ (by rw[←k];exact hm)))]
 refine⟨kZ B++(kZ A++(p++q)),⟨fun c hc=>?_,?_⟩,?_⟩
 ·rcases List.mem_append.1 hc with k|k
  ·exact cB c k
  rcases List.mem_append.1 k with k|k
  ·exact cA c k
  ·exact cR c k
 ·rw[List.flatten_append,List.flatten_append,uH,uH,←List.append_assoc]
  exact pD
 ·have eB:(if f' x=y then 0 else 1)=nz B:=by
   cases B with
   |nil=>exact if_pos fx
   |cons b B=>exact if_neg (fun k=>yB (by rw[←k,show f' x=b from fx];simp))
  have eA:(if f' y=x then 0 else 1)=nz A:=by
   cases A with
   |nil=>exact if_pos fy
   |cons a A=>exact if_neg (fun k=>xA (by rw[←k,show f' y=a from fy];simp))
  rw[eB,eA]
  simp only[List.length_append,EF,List.length_cons]
  omega
theorem EE.RN{f' f:α→α}{x y:α}{D:List α}{cs':List (List α)}{c:List α}(Fb:x≠y)(hn:(x::y::D).Nodup)(h:EE f' (x::y::D) cs')(hf:∀z∈D,f z=rO f' x y z)(hc:c∈cs')(hx:x∈c)(hy:y∉c) :
  ∃cs,EE f D cs∧cs.length+2=cs'.length+(if f' x=x∧f' y=y then 0 else 1):=by
 obtain⟨p,q,rfl⟩:=List.append_of_mem hc
 have VM:=h.c c hc
 obtain⟨B,h1,h2⟩:=VM.head hx
 have hyc:y∈(p++q).flatten:=by
  have:y∈(p++c::q).flatten:=h.p.mem_iff.2 (by simp)
  rcases List.mem_append.1 ((fF p q c).mem_iff.1 this) with k|k
  ·exact absurd k hy
  ·exact k
 obtain⟨c2,uN,aha⟩:=List.mem_flatten.1 hyc
 have ahb:c2∈p++c::q:=by rcases List.mem_append.1 uN with k|k<;>simp[k]
 obtain⟨A,h3,h4⟩:=(h.c c2 ahb).head aha
 obtain⟨p2,q2,uO⟩:=List.append_of_mem uN
 obtain⟨fx,pB⟩:=(show Path f' (x::B) x from h1)
 obtain⟨fy,pA⟩:=(show Path f' (y::A) y from h3)
 have pd:(x::y::(B++A++(p2++q2).flatten)).Perm (x::y::D):=by
  refine List.Perm.trans ?_ h.p
  refine List.Perm.trans ?_ (fF p q c).symm
  rw[uO]
  refine List.Perm.trans ?_ (List.Perm.append_right _ h2)
  refine List.Perm.trans ?_ (List.Perm.append_left _ (fF p2 q2 c2).symm)
  refine List.Perm.trans ?_ (List.Perm.append_left _ (List.Perm.append_right _ h4))
  show(x::y::(B++A++(p2++q2).flatten)).Perm (x::(B++(y::(A++(p2++q2).flatten))))
  refine List.Perm.cons x ?_
  rw[List.append_assoc]
  exact List.perm_middle.symm
 have pD:=(pd.cons_inv).cons_inv
 have nd:=pd.nodup_iff.2 hn
 have nx:x∉B++A++(p2++q2).flatten:=fun k=>(List.nodup_cons.1 nd).1 (List.mem_cons_of_mem _ k)
 have ny:y∉B++A++(p2++q2).flatten:=(List.nodup_cons.1 (List.nodup_cons.1 nd).2).1
 have xB:x∉B:=fun k=>nx (by simp[k])
 have xA:x∉A:=fun k=>nx (by simp[k])
 have yB:y∉B:=fun k=>ny (by simp[k])
 have yA:y∉A:=fun k=>ny (by simp[k])
 have RM:∀z∈B++A++(p2++q2).flatten,z∈D:=fun z hz=>pD.mem_iff.1 hz
 have nB:∀u∈B,f' u≠x→f u=f' u:=fun u hu bp=>by
  rw[hf u (RM u (by simp[hu]))]
  unfold rO
  have:f' u≠y:=fun k=>by
   rcases pB.step hu with m|m
   ·exact yB (k▸m)
   ·exact bp m
  rw[if_neg bp,if_neg this]
 have nA:∀u∈A,f' u≠y→f u=f' u:=fun u hu bp=>by
  rw[hf u (RM u (by simp[hu]))]
  unfold rO
  have:f' u≠x:=fun k=>by
   rcases pA.step hu with m|m
   ·exact xA (k▸m)
   ·exact bp m
  rw[if_neg this,if_neg bp]
 have eB:∀u∈B,f' u=x→f u=if f' y=y then f' x else f' y:=fun u hu heq=>by
  rw[hf u (RM u (by simp[hu]))]
  unfold rO
  rw[if_pos heq]
 have eA:∀u∈A,f' u=y→f u=if f' x=x then f' y else f' x:=fun u hu heq=>by
  rw[hf u (RM u (by simp[hu]))]
  unfold rO
  rw[if_neg (by rw[heq];exact fun k=>Fb k.symm),if_pos heq]
 have cBA:∀c∈kZ (B++A),gS f c:=fun c hc=>by
  cases B with
  |nil =>
   cases A with
   |nil=>simp[kZ]at hc
   |cons a A =>
    have hc:c=a::A:=by simpa[kZ] using hc
    subst hc
    refine Path.gR pA (fun k=>yA (mJ k)) nA (fun u hu heq=>?_)
    rw[eA u hu heq,if_pos (show f' x=x from fx)];exact fy
  |cons b B =>
   have fxb:f' x=b:=fx
   have bx:b≠x:=fun k=>xB (by simp[k])
   cases A with
   |nil =>
    have hc:c=b::B:=by simpa[kZ] using hc
    subst hc
    refine Path.gR pB (fun k=>xB (mJ k)) nB (fun u hu heq=>?_)
    rw[eB u hu heq,if_pos (show f' y=y from fy)];exact fxb
   |cons a A =>
    have hc:c=(b::B)++(a::A):=by simpa[kZ] using hc
    subst hc
    have fya:f' y=a:=fy
    have ay:a≠y:=fun k=>yA (by simp[k])
    refine gS.two.2 ⟨Path.gR pB (fun k=>xB (mJ k)) nB (fun u hu heq=>?_),Path.gR pA (fun k=>yA (mJ k)) nA (fun u hu heq=>?_)⟩
    ·rw[eB u hu heq,if_neg (by rw[fya];exact ay)];exact fya
    ·rw[eA u hu heq,if_neg (by rw[fxb];exact bx)];exact fxb
 have cR:∀c∈p2++q2,gS f c:=fun c hc=>by
  have FI:c∈p++q:=by rw[uO];rcases List.mem_append.1 hc with k|k<;>simp[k]
  have CB:gS f' c:=h.c c (by rcases List.mem_append.1 FI with k|k<;>simp[k])
  refine CB.congr fun z hz=>?_
  have hzf:∀u∈c,u∈(p2++q2).flatten:=fun u hu=>List.mem_flatten.2 ⟨c,hc,hu⟩
  have hm:=hzf _ (CB.step hz)
  rw[hf z (RM z (List.mem_append_right _ (hzf z hz)))]
  unfold rO
  rw[if_neg (fun k=>nx (List.mem_append_right _ (by rw[←k];exact hm))),if_neg (fun k=>ny (List.mem_append_right _ (by rw[←k];exact hm)))]
 refine⟨kZ (B++A)++(p2++q2),⟨fun c hc=>?_,?_⟩,?_⟩
 ·rcases List.mem_append.1 hc with k|k
  ·exact cBA c k
  ·exact cR c k
 ·rw[List.flatten_append,uH]
  exact pD
 ·have eBA:(if f' x=x∧f' y=y then 0 else 1)=nz (B++A):=by
   cases B with
   |nil =>
    cases A with
    |nil=>exact if_pos ⟨fx,fy⟩
    |cons a A=>exact if_neg (fun k=>yA (by rw[←k.2,show f' y=a from fy];simp))
   |cons b B=>exact if_neg (fun k=>xB (by rw[←k.1,show f' x=b from fx];simp))
  rw[eBA]
  have hl:(p++q).length=(p2++c2::q2).length:=by rw[uO]
  simp only[List.length_append,EF,List.length_cons]at hl ⊢
  omega
end
end Go.Cy
set_option linter.unusedSimpArgs false
namespace Go.Vs
open Go.Proofs Go.Cy
def skip(x:ab)(s:ab→ab)(z:ab):ab:=if s z=x then s x else s z
def cy(row:List ab)(x:ab):ab:=(dd row x 1).getD zD
theorem mK{row:List ab}(hn:row.Nodup){i:Nat}{x:ab}(hx:row[i]? = some x):cy row x=(row[(i+1)%row.length]?).getD zD:=by
 unfold cy dd
 rw[if_pos (List.mem_of_getElem? hx),F9 hn hx,Int.toNat_natCast]
theorem EG{row:List ab}(hn:row.Nodup):∀(r p:List ab),row=p++r→Path (cy row) r (row.head?.getD zD)
 |[],_,_=>trivial
 |x::r,p,h=>by
  refine⟨?_,EG hn r (p++[x]) (by rw[h];simp)⟩
  have hx:row[p.length]? = some x:=by rw[h];simp
  rw[mK hn hx]
  cases r with
  |nil =>
   have hl:row.length=p.length+1:=by rw[h];simp
   rw[hl,Nat.mod_self]
   show(row[0]?).getD zD=row.head?.getD zD
   rw[List.head?_eq_getElem?]
  |cons y r =>
   have hl:p.length+1<row.length:=by rw[h];simp
   rw[Nat.mod_eq_of_lt hl]
   have:row[p.length+1]? = some y:=by rw[h];simp
   rw[this];rfl
theorem k9{row:List ab}(hn:row.Nodup)(h0:row≠[]):gS (cy row) row:=by
 have:=EG hn row [] rfl
 cases row with
 |nil=>exact absurd rfl h0
 |cons x r=>exact this
theorem CC{f g:ab→ab}:∀{a:List ab} {z:ab},Path f a z→Path g a z→∀x∈a,f x=g x
 |y::r,z,p,q,x,hx=>by
  rcases List.mem_cons.1 hx with rfl|hx
  ·exact p.1.trans q.1.symm
  ·exact CC p.2 q.2 x hx
theorem xV{f g:ab→ab}{c:List ab}(h:gS f c)(k:gS g c):∀x∈c,f x=g x:=by
 cases c with
 |nil=>exact h.elim
 |cons y r=>exact CC h k
theorem wu{f:ab→ab}{row:List ab}{j:Nat}(h:gS f (qv row j)):gS f row:=by
 unfold qv at h
 have:=gS.qv h
 rwa [List.take_append_drop]at this
theorem hM{row:List ab}(hn:row.Nodup){x:ab}(hx:x∈row):cy row x∈row:=(k9 hn (List.ne_nil_of_mem hx)).step hx
theorem lT{f:ab→ab}:∀{a:List ab} {z:ab},Path f a z→a≠[]→∃l,l∈a∧f l=z
 |[x],z,p,_=>⟨x,by simp,p.1⟩
 |x::y::r,z,p,_=>by
  obtain⟨l,h1,h2⟩:=lT p.2 (by simp)
  exact⟨l,List.mem_cons_of_mem _ h1,h2⟩
theorem EH{row:List ab}(hn:row.Nodup){x y:ab}(hx:x∈row)(hy:y∈row)(h:cy row x=cy row y):x=y:=by
 obtain⟨i,hi⟩:=List.getElem?_of_mem hx
 obtain⟨j,hj⟩:=List.getElem?_of_mem hy
 have lE:=(List.getElem?_eq_some_iff.1 hi).1
 have AX:=(List.getElem?_eq_some_iff.1 hj).1
 have hp:0<row.length:=by omega
 rw[mK hn hi,mK hn hj,List.getElem?_eq_getElem (Nat.mod_lt _ hp),List.getElem?_eq_getElem (Nat.mod_lt _ hp)]at h
 have h2:(i+1)%row.length=(j+1)%row.length:=xS hn (by simpa using h)
 have h3:i=j:=by
  by_cases a:i+1<row.length<;>by_cases b:j+1<row.length
  ·rw[Nat.mod_eq_of_lt a,Nat.mod_eq_of_lt b]at h2;omega
  ·have:j+1=row.length:=by omega
   rw[Nat.mod_eq_of_lt a,this,Nat.mod_self]at h2;omega
  ·have:i+1=row.length:=by omega
   rw[Nat.mod_eq_of_lt b,this,Nat.mod_self]at h2;omega
  ·omega
 subst h3
 rw[hi]at hj;exact Option.some.inj hj
theorem EI{row:List ab}(hn:row.Nodup){x z:ab}(hx:x∈row)(hz:z∈row)(hzx:z≠x):cy (c6 row x) z=skip x (cy row) z:=by
 obtain⟨A,B,rfl⟩:=List.append_of_mem hx
 obtain⟨k,hk⟩:=List.getElem?_of_mem hx
 have he:(A++x::B).filter (fun e=>decide (e≠x))=A++B:=by
  have hx2:(A++x::B)[A.length]? = some x:=by simp
  rw[xO hn hx2];simp
 have D8:(x::(B++A)).Nodup:=by
  have p:(A++x::B).Perm (x::(B++A)):=List.perm_middle.trans (List.Perm.cons x List.perm_append_comm)
  exact p.nodup_iff.1 hn
 have C3:z∈B++A:=by
  rcases List.mem_append.1 hz with k|k
  ·exact List.mem_append_right _ k
  ·rcases List.mem_cons.1 k with k|k
   ·exact absurd k hzx
   ·exact List.mem_append_left _ k
 have c1:gS (cy (A++x::B)) (x::(B++A)):=by
  have:=(k9 hn (List.ne_nil_of_mem hx)).qv
  simpa using this
 obtain⟨fx,pL⟩:=(show Path (cy (A++x::B)) (x::(B++A)) x from c1)
 have c2:gS (skip x (cy (A++x::B))) (B++A):=by
  generalize hL:B++A=L at *
  cases L with
  |nil=>simp at C3
  |cons l L =>
   have fx:cy (A++x::B) x=l:=fx
   have xz:x∉l::L:=(List.nodup_cons.1 D8).1
   refine Path.gR pL (fun k=>xz (mJ k)) (fun u hu bp=>?_) (fun u hu heq=>?_)
   ·unfold skip;rw[if_neg bp]
   ·unfold skip;rw[if_pos heq,fx]
 have hr:c6 (A++x::B) x=bZ (A++B):=by unfold c6;rw[he]
 obtain⟨j,hj,hjr⟩:=kY (A++B)
 have nAB:(A++B).Nodup:=(List.perm_append_comm (l₁:=B) (l₂:=A)).nodup_iff.1 (List.nodup_cons.1 D8).2
 have ahd:(c6 (A++x::B) x).Nodup:=by rw[hr];exact(gZ _).nodup_iff.2 nAB
 have Zw:z∈c6 (A++x::B) x:=by
  rw[hr,jL]
  rcases List.mem_append.1 C3 with k|k
  ·exact List.mem_append_right _ k
  ·exact List.mem_append_left _ k
 have c3:gS (cy (c6 (A++x::B) x)) (A++B):=by
  have:=k9 ahd (List.ne_nil_of_mem Zw)
  generalize cy (c6 (A++x::B) x)=g at *
  rw[hr,hjr]at this
  exact wu this
 exact xV (gS.qv c3) c2 z C3
def sg(d:ai)(x:ab):ab:=(jW d x).getD zD
def ph(d:ai)(x:ab):ab:=(Gy d x).getD zD
theorem CD{d:ai}(h:Rw d.1){v:ag}{x:ab}(hv:v∈d.1)(hx:x∈v.2.1):jW d x=dd v.2.1 x 1:=by
 unfold jW bY
 rw[cQ h hv hx]
 show dd (bA d v.1) x 1=_
 rw[g8 h.s hv]
theorem eY{d:ai}(h:Rw d.1){v:ag}{x:ab}(hv:v∈d.1)(hx:x∈v.2.1):sg d x=cy v.2.1 x:=by
 unfold sg cy;rw[CD h hv hx]
theorem KF{d:ai}(h:Rw d.1){x:ab}(hx:x∈ak d.1):jW d x=some (sg d x):=by
 obtain⟨v,hv,js⟩:=aG.1 hx
 have:jW d x=some (cy v.2.1 x):=by
  rw[CD h hv js]
  unfold cy dd
  rw[if_pos js]
  have hp:0<v.2.1.length:=List.length_pos_of_mem js
  rw[List.getElem?_eq_getElem (Nat.mod_lt _ hp)];rfl
 rw[eY h hv js,this]
theorem Ur{d:ai}(h:Rw d.1){x:ab}(hx:x∈ak d.1):sg d x∈ak d.1:=by
 obtain⟨v,hv,js⟩:=aG.1 hx
 rw[eY h hv js]
 exact aG.2 ⟨v,hv,hM (h.ring hv) js⟩
theorem RO{d:ai}(h:Rw d.1){x y:ab}(hx:x∈ak d.1)(hy:y∈ak d.1)(he:sg d x=sg d y):x=y:=by
 obtain⟨v,hv,js⟩:=aG.1 hx
 obtain⟨w,hw,Jt⟩:=aG.1 hy
 rw[eY h hv js,eY h hw Jt]at he
 have h1:=hM (h.ring hv) js
 have h2:=hM (h.ring hw) Jt
 rw[←he]at h2
 have hwv:=h.one hv hw h1 h2
 subst hwv
 exact EH (h.ring hw) js Jt he
theorem qg{d:ai}(h:Rw d.1){x z:ab}(hx:x∈ak d.1)(hz:z∈ak (az d x).1):sg (az d x) z=skip x (sg d) z:=by
 obtain⟨p,q⟩:=dB h hx
 obtain⟨v,hv,js⟩:=aG.1 hx
 have hzd:z∈ak d.1:=p.mem_iff.2 (List.mem_cons_of_mem _ hz)
 have hzx:z≠x:=fun k=>(List.nodup_cons.1 (p.nodup_iff.1 h.n)).1 (k▸hz)
 obtain⟨w,hw,GB⟩:=aG.1 hz
 have hr:=da h hv js
 have G4:w∈d.1.map (gr v.1 (c6 v.2.1 x)):=by rw[hr]at hw;exact hw
 obtain⟨u,hu,YJ⟩:=List.mem_map.1 G4
 rw[eY q hw GB]
 by_cases Td:u.1=v.1
 ·have Td:u=v:=by
   have h1:=dS h.s hv
   have h2:=dS h.s hu
   rw[Td,h1]at h2
   exact(Option.some.inj h2).symm
  subst Td
  have mW:w.2.1=c6 u.2.1 x:=by rw[←YJ];unfold gr;rw[if_pos rfl]
  rw[mW]at GB ⊢
  have DG:z∈u.2.1:=(sV js (h.ring hu)).mem_iff.2 (List.mem_cons_of_mem _ GB)
  rw[EI (h.ring hu) js DG hzx]
  unfold skip
  rw[eY h hu DG,eY h hu js]
 ·have mW:w=u:=by rw[←YJ];unfold gr;rw[if_neg Td]
  subst mW
  unfold skip
  rw[eY h hu GB,if_neg]
  intro k
  have:=hM (h.ring hu) GB
  rw[k]at this
  exact Td (congrArg Prod.fst (h.one hv hu js this))
theorem IU{d e:ai}(h:d.1=e.1)(x:ab):jW d x=jW e x:=by
 obtain⟨a,b⟩:=d
 obtain⟨c,f⟩:=e
 simp only at h
 subst h
 rfl
theorem bN{x:ab}(h:x.2=0∨x.2=1):af (af x)=x:=by
 obtain⟨x1,x2⟩:=x
 simp only at h
 rcases h with rfl|rfl<;>rfl
theorem Wf.side{d:ai}(h:Wf d){x:ab}(hx:x∈ak d.1):x.2=0∨x.2=1:=by
 obtain⟨e,_,_,k⟩:=eQ.1 (h.pd.mem_iff.1 hx);exact k
theorem Wf.other{d:ai}(h:Wf d){x:ab}(hx:x∈ak d.1):af x∈ak d.1:=by
 obtain⟨e,he,h1,h2⟩:=eQ.1 (h.pd.mem_iff.1 hx)
 refine h.pd.mem_iff.2 (eQ.2 ⟨e,he,h1,?_⟩)
 obtain⟨_,k⟩:=g9 h2
 rcases k with⟨_,k⟩|⟨_,k⟩
 ·exact .inr k
 ·exact .inl k
theorem wx{d:ai}{x:ab}(hx:x∈ak d.1):(bY d x).isSome=true:=by
 obtain⟨v,hv,js⟩:=aG.1 hx
 unfold bY C7
 rw[Option.isSome_map,List.find?_isSome]
 exact⟨v,hv,by simpa using js⟩
theorem ig{d:ai}{x:ab}(hx:x∈ak d.1):ph d x=sg d (af x):=by
 unfold ph Gy sg
 rw[if_pos (wx hx)]
theorem IV{d:ai}(h:Wf d){x:ab}(hx:x∈ak d.1):Gy d x=some (ph d x):=by
 rw[ig hx]
 unfold Gy
 rw[if_pos (wx hx)]
 exact KF h.rw (h.other hx)
theorem RP{d:ai}(h:Wf d){x:ab}(hx:x∈ak d.1):ph d x∈ak d.1:=by
 rw[ig hx];exact Ur h.rw (h.other hx)
theorem KG{d:ai}(h:Wf d){x y:ab}(hx:x∈ak d.1)(hy:y∈ak d.1)(he:ph d x=ph d y):x=y:=by
 rw[ig hx,ig hy]at he
 have:=RO h.rw (h.other hx) (h.other hy) he
 rw[←bN (h.side hx),←bN (h.side hy),this]
theorem IW{α:Type}[DecidableEq α]:∀{l D:List α},l.Nodup→(∀x∈l,x∈D)→l.length≤D.length
 |[],_,_,_=>Nat.zero_le _
 |x::r,D,hn,hs=>by
  have h1:=List.nodup_cons.1 hn
  have hx:=hs x (List.mem_cons_self ..)
  have ih:=IW (l:=r) (D:=D.erase x) h1.2 (fun y hy=>(List.mem_erase_of_ne (fun k=>h1.1 (by rw[←k];exact hy))).2 (hs y (List.mem_cons_of_mem _ hy)))
  rw[List.length_erase_of_mem hx]at ih
  have:=List.length_pos_of_mem hx
  simp;omega
theorem RQ{d:ai}(h:Wf d){out:List ab}{y:ab}(hn:out.Nodup)(hs:∀z∈out,z∈ak d.1)(hp:Path (ph d) out y):y∉out.tail:=fun hy=>by
 cases out with
 |nil=>simp at hy
 |cons x r =>
  have hy:y∈r:=hy
  obtain⟨p,q,rfl⟩:=List.append_of_mem hy
  have key:∀(x:ab) (p:List ab),Path (ph d) (x::(p++y::q)) y→(x::(p++y::q)).Nodup→(∀z∈x::(p++y::q),z∈ak d.1)→False:=by
   intro x p
   induction p generalizing x with
   |nil =>
    intro hp hn hs
    have h1:ph d x=y:=hp.1
    obtain⟨l,h2,h3⟩:=lT hp.2 (by simp)
    have:=KG h (hs x (by simp)) (hs l (List.mem_cons_of_mem _ h2)) (h1.trans h3.symm)
    subst this
    exact(List.nodup_cons.1 hn).1 h2
   |cons u p ih =>
    intro hp hn hs
    exact ih u hp.2 (List.nodup_cons.1 hn).2 (fun z hz=>hs z (List.mem_cons_of_mem _ hz))
  exact key x p hp hn hs
theorem Wf.IX{d:ai}(h:Wf d):(ak d.1).length≤80:=by
 have h2:=h.pd.length_eq
 have h3:=h.ne
 have:(ends d.2).length=2*d.2.length:=by
  clear h2 h3 h
  generalize d.2=l
  induction l with
  |nil=>rfl
  |cons e r ih=>rw[kq];simp[ih];omega
 omega
theorem CE{d:ai}(h:Wf d)(x:ab):∀(n:Nat) (y:ab) (r:List ab),(x::r).length+n=82→(x::r).Nodup→(∀z∈x::r,z∈ak d.1)→Path (ph d) (x::r) y→y∈ak d.1 →
  ∃r',rE d x n y (x::r)=x::r'∧(x::r').Nodup∧(∀z∈x::r',z∈ak d.1)∧gS (ph d) (x::r')
 |0,y,r,hl,hn,hs,hp,hy=>by
  have:=IW hn hs
  have:=h.IX
  omega
 |n+1,y,r,hl,hn,hs,hp,hy=>by
  unfold rE
  by_cases he:y=x
  ·subst he
   rw[if_pos rfl]
   exact⟨r,rfl,hn,hs,hp⟩
  ·rw[if_neg he]
   have hyr:y∉x::r:=fun k=>by
    rcases List.mem_cons.1 k with k|k
    ·exact he k
    ·exact RQ h hn hs hp k
   have e:(Gy d y).getD zD=ph d y:=rfl
   rw[e]
   refine CE h x n (ph d y) (r++[y]) (by simp at hl ⊢;omega) ?_ (fun z hz=>?_) ?_ (RP h hy)
   ·show((x::r)++[y]).Nodup
    refine List.nodup_append.2 ⟨hn,by simp,fun a ha b hb=>?_⟩
    simp at hb;subst hb
    exact fun k=>hyr (k▸ha)
   ·have hz:z∈(x::r)++[y]:=hz
    rcases List.mem_append.1 hz with k|k
    ·exact hs z k
    ·simp at k;rw[k];exact hy
   ·show Path (ph d) ((x::r)++[y]) (ph d y)
    exact Path.app.2 ⟨hp,rfl,trivial⟩
theorem uI{d:ai}(h:Wf d){x:ab}(hx:x∈ak d.1):∃r,bf d x=x::r∧(x::r).Nodup∧(∀z∈x::r,z∈ak d.1)∧gS (ph d) (x::r):=by
 unfold bf
 rw[IV h hx]
 exact CE h x 81 (ph d x) [] rfl (by simp) (fun z hz=>by simp at hz;rw[hz];exact hx) ⟨rfl,trivial⟩ (RP h hx)
theorem rP{d:ai}(h:Wf d):∀(l:List ab) (out:List (List ab)),(∀x∈l,x∈ak d.1)→(∀c∈out,gS (ph d) c)→out.flatten.Nodup→(∀x∈out.flatten,x∈ak d.1) →
  (∀c∈iL d l out out.flatten,gS (ph d) c)∧(iL d l out out.flatten).flatten.Nodup∧(∀x∈(iL d l out out.flatten).flatten,x∈ak d.1)∧(∀x,x∈l∨x∈out.flatten→x∈(iL d l out out.flatten).flatten)
 |[],out,_,h1,h2,h3=>⟨h1,h2,h3,fun x k=>k.resolve_left (by simp)⟩
 |x::l,out,hl,h1,h2,h3=>by
  unfold iL
  by_cases hx:x∈out.flatten
  ·rw[if_pos hx]
   obtain⟨a,b,c,e⟩:=rP h l out (fun y hy=>hl y (List.mem_cons_of_mem _ hy)) h1 h2 h3
   refine⟨a,b,c,fun y hy=>e y ?_⟩
   rcases hy with hy|hy
   ·rcases List.mem_cons.1 hy with rfl|hy
    ·exact .inr hx
    ·exact .inl hy
   ·exact .inr hy
  ·rw[if_neg hx]
   obtain⟨r,t1,t2,t3,t4⟩:=uI h (hl x (List.mem_cons_self ..))
   have ef:out.flatten++bf d x=(out++[bf d x]).flatten:=by simp
   rw[ef]
   have ahf:∀y∈bf d x,y∉out.flatten:=fun y hy k=>by
    obtain⟨c,hc,hyc⟩:=List.mem_flatten.1 k
    rw[t1]at hy
    exact hx (List.mem_flatten.2 ⟨c,hc,t4.same (h1 c hc) hy hyc (List.mem_cons_self ..)⟩)
   obtain⟨a,b,c,e⟩:=rP h l (out++[bf d x]) (fun y hy=>hl y (List.mem_cons_of_mem _ hy))
    (fun c hc=>by
     rcases List.mem_append.1 hc with k|k
     ·exact h1 c k
     ·simp at k;rw[k,t1];exact t4)
    (by
     rw[←ef]
     refine List.nodup_append.2 ⟨h2,by rw[t1];exact t2,fun u hu w hw k=>ahf w hw (k▸hu)⟩)
    (fun y hy=>by
     rw[←ef]at hy
     rcases List.mem_append.1 hy with k|k
     ·exact h3 y k
     ·rw[t1]at k;exact t3 y k)
   refine⟨a,b,c,fun y hy=>e y ?_⟩
   rw[←ef]
   rcases hy with hy|hy
   ·rcases List.mem_cons.1 hy with rfl|hy
    ·exact .inr (List.mem_append_right _ (by rw[t1];simp))
    ·exact .inl hy
   ·exact .inr (List.mem_append_left _ hy)
theorem lK:∀l:List ah,fe l=ends l
 |[]=>rfl
 |e::r=>by rw[kq,fe,lK r]
theorem bE{d:ai}(h:Wf d):EE (ph d) (ak d.1) (bU d):=by
 obtain⟨a,b,c,e⟩:=rP h (fe d.2) [] (fun x hx=>h.pd.mem_iff.2 (by rw[←lK];exact hx)) (by simp) (by simp) (by simp)
 refine⟨a,(List.perm_ext_iff_of_nodup b h.rw.n).2 fun x=>⟨c x,fun hx=>e x (.inl (by rw[lK];exact h.pd.mem_iff.1 hx))⟩⟩
end Go.Vs
namespace Go.Vs
open Go.Proofs Go.Cy
def bW(d:ai)(x:ID):ai:=aJ (az (az d (x,0)) (x,1)) zI x
theorem KH{d:ai}(h:Wf d)(x y:ab)(e:ID):(aJ (az (az d x) y) zI e).1=(az (az d x) y).1:=qc (kr (kr h.gv x) y)
theorem CF(x:ID):af (x,0)=(x,1):=rfl
theorem RR(x:ID):af (x,1)=(x,0):=rfl
structure bV(d':ai)(x:ID):Prop where
 wf:Wf d'
 e:(aU d'.2 x).isSome=true
theorem bV.x0{d':ai}{x:ID}(h:bV d' x):(x,0)∈ak d'.1:=h.wf.mI h.e (.inl rfl)
theorem bV.x1{d':ai}{x:ID}(h:bV d' x):(x,1)∈ak d'.1:=h.wf.mI h.e (.inr rfl)
theorem bV.p1{d':ai}{x:ID}(h:bV d' x):(ak d'.1).Perm ((x,0)::ak (az d' (x,0)).1)∧Rw (az d' (x,0)).1:=dB h.wf.rw h.x0
theorem bV.YK{d':ai}{x:ID}(h:bV d' x):(x,1)∈ak (az d' (x,0)).1:=by
 rcases List.mem_cons.1 (h.p1.1.mem_iff.1 h.x1) with k|k
 ·cases k
 ·exact k
theorem bV.p2{d':ai}{x:ID}(h:bV d' x):(ak (az d' (x,0)).1).Perm ((x,1)::ak (az (az d' (x,0)) (x,1)).1)∧Rw (az (az d' (x,0)) (x,1)).1:=dB h.p1.2 h.YK
theorem bV.v{d':ai}{x:ID}(h:bV d' x):(bW d' x).1=(az (az d' (x,0)) (x,1)).1:=KH h.wf _ _ _
theorem bV.w{d':ai}{x:ID}(h:bV d' x):Wf (bW d' x):=h.wf.cut h.e
theorem bV.p{d':ai}{x:ID}(h:bV d' x):(ak d'.1).Perm ((x,0)::(x,1)::ak (bW d' x).1):=by
 rw[h.v];exact h.p1.1.trans (List.Perm.cons _ h.p2.1)
theorem bV.sg{d':ai}{x:ID}(h:bV d' x){z:ab}(hz:z∈ak (bW d' x).1):sg (bW d' x) z=skip (x,1) (skip (x,0) (sg d')) z:=by
 have e1:Vs.sg (bW d' x) z=Vs.sg (az (az d' (x,0)) (x,1)) z:=by unfold Vs.sg;rw[IU h.v]
 rw[h.v]at hz
 have yv:z∈ak (az d' (x,0)).1:=h.p2.1.mem_iff.2 (List.mem_cons_of_mem _ hz)
 rw[e1,qg h.p1.2 h.YK hz]
 unfold skip
 rw[qg h.wf.rw h.x0 yv,qg h.wf.rw h.x0 h.YK]
 rfl
theorem bV.ph{d':ai}{x:ID}(h:bV d' x){z:ab}(hz:z∈ak (bW d' x).1):ph (bW d' x) z=rO (ph d') (x,0) (x,1) z:=by
 have AG:z∈ak d'.1:=h.p.mem_iff.2 (List.mem_cons_of_mem _ (List.mem_cons_of_mem _ hz))
 have ho:=h.w.other hz
 have nK:af z∈ak d'.1:=h.p.mem_iff.2 (List.mem_cons_of_mem _ (List.mem_cons_of_mem _ ho))
 have nd:=h.p.nodup_iff.1 h.wf.rw.n
 have D7:af z≠(x,1):=fun k=>(List.nodup_cons.1 (List.nodup_cons.1 nd).2).1 (k▸ho)
 rw[ig hz,h.sg ho]
 unfold rO
 rw[ig AG,ig h.x0,ig h.x1,CF,RR]
 generalize hW:af z=w at *
 have inj:Vs.sg d' (x,1)=(x,0)→Vs.sg d' w≠(x,0):=fun k1 k2=>D7 (RO h.wf.rw nK h.x1 (k2.trans k1.symm))
 unfold skip
 by_cases c1:Vs.sg d' w=(x,0)
 ·rw[if_pos c1]
  by_cases c2:Vs.sg d' (x,0)=(x,1)
  ·rw[if_pos c2,if_pos c2]
   by_cases c3:Vs.sg d' (x,1)=(x,0)
   ·exact absurd c1 (inj c3)
   ·rw[if_neg c3,if_pos c1]
  ·rw[if_neg c2,if_neg c2,if_pos c1]
 ·rw[if_neg c1]
  by_cases c2:Vs.sg d' w=(x,1)
  ·rw[if_pos c2,if_neg c1]
  ·rw[if_neg c2,if_neg c1]
def al(l:List ag):Nat:=l.countP fun v=>v.2.1.isEmpty
theorem EJ{row:List ab}(hn:row.Nodup){x:ab}(hx:x∈row):cy row x=x↔row.length=1:=by
 obtain⟨i,hi⟩:=List.getElem?_of_mem hx
 have lE:=(List.getElem?_eq_some_iff.1 hi).1
 have hp:0<row.length:=by omega
 rw[mK hn hi,List.getElem?_eq_getElem (Nat.mod_lt _ hp)]
 constructor
 ·intro h
  have h1:row[(i+1)%row.length]? = some x:=by rw[List.getElem?_eq_getElem (Nat.mod_lt _ hp)];exact congrArg some (by simpa using h)
  have h2:=xT hn h1 hi
  by_cases c:i+1<row.length
  ·rw[Nat.mod_eq_of_lt c]at h2;omega
  ·have:i+1=row.length:=by omega
   rw[this,Nat.mod_self]at h2;omega
 ·intro h
  have h0:i=0:=by omega
  subst h0
  have:(0+1)%row.length=0:=by rw[h]
  simp only[this]
  obtain⟨h1,h2⟩:=List.getElem?_eq_some_iff.1 hi
  simpa using h2
theorem CG{d:ai}(h:Rw d.1){x:ab}(hx:x∈ak d.1):al (az d x).1=al d.1+if sg d x=x then 1 else 0:=by
 obtain⟨v,hv,js⟩:=aG.1 hx
 obtain⟨a,b,h1,_,_,h2⟩:=mH h.s hv
 have e1:(az d x).1=a++(v.1,(c6 v.2.1 x,v.2.2))::b:=by rw[da h hv js];exact h2 _
 have p:=sV js (h.ring hv)
 have hl:=p.length_eq
 have v0:v.2.1.isEmpty=false:=by
  cases hq:v.2.1 with
  |nil=>rw[hq]at js;simp at js
  |cons _ _=>rfl
 have v1:(c6 v.2.1 x).isEmpty=decide (sg d x=x):=by
  rw[Bool.eq_iff_iff,List.isEmpty_iff,decide_eq_true_eq,eY h hv js,EJ (h.ring hv) js,←List.length_eq_zero_iff]
  simp at hl;omega
 rw[e1]
 conv=>rhs;rw[h1]
 unfold al
 rw[List.countP_append,List.countP_append,List.countP_cons,List.countP_cons]
 simp only[v0,v1]
 by_cases c:sg d x=x
 ·simp[c];omega
 ·simp[c]
def ft(d:ai):Nat:=(bU d).length+al d.1
def Gb(d:ai)(x y:ab):Prop:=∃c∈bU d,x∈c∧y∈c
theorem bV.al{d':ai}{x:ID}(h:bV d' x):Vs.al (bW d' x).1=Vs.al d'.1+(if Vs.ph d' (x,1)=(x,0) then 1 else 0)+(if Vs.ph d' (x,0)=(x,1)∨(Vs.ph d' (x,0)=(x,0)∧Vs.ph d' (x,1)=(x,1)) then 1 else 0):=by
 rw[h.v,CG h.p1.2 h.YK,CG h.wf.rw h.x0]
 have e0:Vs.ph d' (x,0)=Vs.sg d' (x,1):=ig h.x0
 have e1:Vs.ph d' (x,1)=Vs.sg d' (x,0):=ig h.x1
 rw[e0,e1,qg h.wf.rw h.x0 h.YK]
 unfold skip
 congr 1
 by_cases c:Vs.sg d' (x,1)=(x,0)
 ·rw[if_pos c]
  by_cases k:Vs.sg d' (x,0)=(x,1)
  ·rw[if_pos k,if_pos (.inr ⟨c,k⟩)]
  ·rw[if_neg k,if_neg]
   rintro(m|⟨_,m⟩)
   ·rw[c]at m;cases m
   ·exact k m
 ·rw[if_neg c]
  by_cases k:Vs.sg d' (x,1)=(x,1)
  ·rw[if_pos k,if_pos (.inl k)]
  ·rw[if_neg k,if_neg]
   rintro(m|⟨m,_⟩)
   ·exact k m
   ·exact c m
theorem Us(x:ID):((x,0):ab)≠(x,1):=fun k=>by cases k
theorem bV.same{d':ai}{x:ID}(h:bV d' x)(hf:Gb d' (x,0) (x,1)):ft (bW d' x)=ft d'+1∧(bU (bW d' x)).length+1=(bU d').length+(if Vs.ph d' (x,0)=(x,1) then 0 else 1)+(if Vs.ph d' (x,1)=(x,0) then 0 else 1):=by
 obtain⟨c,hc,h0,h1⟩:=hf
 have nd:=h.p.nodup_iff.1 h.wf.rw.n
 have dec:EE (Vs.ph d') ((x,0)::(x,1)::ak (bW d' x).1) (bU d'):=⟨(bE h.wf).c,(bE h.wf).p.trans h.p⟩
 obtain⟨cs,k1,k2⟩:=EE.RL (Us x) nd dec (fun z hz=>h.ph hz) hc h0 h1
 have k3:=EE.count (h.w.rw.n) (bE h.w) k1
 have k4:=h.al
 have CB:=(bE h.wf).c c hc
 have n0:¬(Vs.ph d' (x,0)=(x,0)):=fun k=>by
  obtain⟨n,hn⟩:=CB.reach h0 h1
  have:∀n,it (Vs.ph d') n (x,0)=(x,0):=fun n=>by
   induction n with
   |zero=>rfl
   |succ n ih=>show it (Vs.ph d') n (Vs.ph d' (x,0))=_;rw[k];exact ih
  rw[this]at hn;cases hn
 refine⟨?_,by rw[k3];exact k2⟩
 unfold ft
 rw[k3,k4]
 by_cases c0:Vs.ph d' (x,0)=(x,1)
 ·rw[if_pos c0]at k2
  rw[if_pos (Or.inl c0)]
  by_cases c1:Vs.ph d' (x,1)=(x,0)
  ·rw[if_pos c1]at k2 ⊢;omega
  ·rw[if_neg c1]at k2 ⊢;omega
 ·rw[if_neg c0]at k2
  rw[if_neg (show ¬(Vs.ph d' (x,0)=(x,1)∨(Vs.ph d' (x,0)=(x,0)∧Vs.ph d' (x,1)=(x,1))) from fun m=>m.elim c0 fun m=>n0 m.1)]
  by_cases c1:Vs.ph d' (x,1)=(x,0)
  ·rw[if_pos c1]at k2 ⊢;omega
  ·rw[if_neg c1]at k2 ⊢;omega
theorem bV.diff{d':ai}{x:ID}(h:bV d' x)(hf:¬Gb d' (x,0) (x,1)):ft (bW d' x)+1=ft d':=by
 have hm:(x,0)∈(bU d').flatten:=(bE h.wf).p.mem_iff.2 h.x0
 obtain⟨c,hc,h0⟩:=List.mem_flatten.1 hm
 have h1:(x,1)∉c:=fun k=>hf ⟨c,hc,h0,k⟩
 have nd:=h.p.nodup_iff.1 h.wf.rw.n
 have dec:EE (Vs.ph d') ((x,0)::(x,1)::ak (bW d' x).1) (bU d'):=⟨(bE h.wf).c,(bE h.wf).p.trans h.p⟩
 obtain⟨cs,k1,k2⟩:=EE.RN (Us x) nd dec (fun z hz=>h.ph hz) hc h0 h1
 have k3:=EE.count (h.w.rw.n) (bE h.w) k1
 have k4:=h.al
 have CB:=(bE h.wf).c c hc
 have n0:¬(Vs.ph d' (x,0)=(x,1)):=fun k=>h1 (k▸CB.step h0)
 have n1:¬(Vs.ph d' (x,1)=(x,0)):=fun k=>by
  have Ox:(x,1)∈(bU d').flatten:=(bE h.wf).p.mem_iff.2 h.x1
  obtain⟨c2,uN,h2⟩:=List.mem_flatten.1 Ox
  have:=((bE h.wf).c c2 uN).step h2
  rw[k]at this
  exact hf ⟨c2,uN,this,h2⟩
 unfold ft
 rw[k3,k4,if_neg n1]
 by_cases c:Vs.ph d' (x,0)=(x,0)∧Vs.ph d' (x,1)=(x,1)
 ·rw[if_pos c]at k2;rw[if_pos (.inr c)];omega
 ·rw[if_neg c]at k2;rw[if_neg (fun m=>m.elim n0 c)];omega
end Go.Vs
namespace Go.Vs
open Go.Proofs Go.Cy
def zh(d:ai)(a b:ID):Prop:=∃z∈ak d.1,bY d z=some a∧bY d (af z)=some b
inductive cr (d:ai):ID→ID→Prop
 |refl (a:ID):cr d a a
 |tail {a b c:ID}:cr d a b→zh d b c→cr d a c
theorem cr.trans{d:ai}{a b c:ID}(h:cr d a b)(k:cr d b c):cr d a c:=by
 induction k with
 |refl=>exact h
 |tail _ j ih=>exact ih.tail j
theorem zh.symm{d:ai}(hw:Wf d){a b:ID}(h:zh d a b):zh d b a:=by
 obtain⟨z,hz,h1,h2⟩:=h
 exact⟨af z,hw.other hz,h2,by rw[bN (hw.side hz)];exact h1⟩
theorem zh.conn{d:ai}{a b:ID}(h:zh d a b):cr d a b:=(cr.refl a).tail h
theorem cr.symm{d:ai}(hw:Wf d){a b:ID}(h:cr d a b):cr d b a:=by
 induction h with
 |refl=>exact .refl _
 |tail _ j ih=>exact(j.symm hw).conn.trans ih
structure nT(d:ai)(R:List ID):Prop where
 n:R.Nodup
 v:∀r∈R,∃v∈d.1,v.1=r
 i:∀r∈R,∀s∈R,cr d r s→r=s
 c:∀v∈d.1,∃r∈R,cr d v.1 r
theorem Gc{d:ai}(hw:Wf d):∀{R R':List ID},R.Nodup→(∀r∈R,∀s∈R,cr d r s→r=s)→(∀r∈R,∃s∈R',cr d r s)→R.length≤R'.length
 |[],_,_,_,_=>Nat.zero_le _
 |r::R,R',hn,hi,hc=>by
  obtain⟨s,hs,WH⟩:=hc r (List.mem_cons_self ..)
  have h1:=List.nodup_cons.1 hn
  have ih:=Gc hw (R:=R) (R':=R'.erase s) h1.2 (fun a ha b hb=>hi a (List.mem_cons_of_mem _ ha) b (List.mem_cons_of_mem _ hb)) (fun a ha=>by
   obtain⟨t,ht,vp⟩:=hc a (List.mem_cons_of_mem _ ha)
   refine⟨t,(List.mem_erase_of_ne (fun k=>?_)).2 ht,vp⟩
   subst k
   have:=hi a (List.mem_cons_of_mem _ ha) r (List.mem_cons_self ..) (vp.trans (WH.symm hw))
   exact h1.1 (this▸ha))
  rw[List.length_erase_of_mem hs]at ih
  have:=List.length_pos_of_mem hs
  simp;omega
theorem nT.len{d:ai}(hw:Wf d){R R':List ID}(h:nT d R)(h':nT d R'):R.length=R'.length:=by
 refine Nat.le_antisymm (Gc hw h.n h.i fun r hr=>?_) (Gc hw h'.n h'.i fun r hr=>?_)
 ·obtain⟨v,hv,rfl⟩:=h.v r hr;exact h'.c v hv
 ·obtain⟨v,hv,rfl⟩:=h'.v r hr;exact h.c v hv
theorem rQ{d:ai}(hw:Wf d){z:ab}(hz:z∈ak d.1):∃v∈d.1,z∈v.2.1∧bY d z=some v.1:=by
 obtain⟨v,hv,YL⟩:=aG.1 hz
 exact⟨v,hv,YL,cQ hw.rw hv YL⟩
theorem CH{d:ai}(h:Rw d.1){x z:ab}(hx:x∈ak d.1)(hz:z∈ak (az d x).1):bY (az d x) z=bY d z:=by
 obtain⟨p,q⟩:=dB h hx
 obtain⟨v,hv,js⟩:=aG.1 hx
 obtain⟨w,hw,GB⟩:=aG.1 hz
 have hr:=da h hv js
 have G4:w∈d.1.map (gr v.1 (c6 v.2.1 x)):=by rw[hr]at hw;exact hw
 obtain⟨u,hu,YJ⟩:=List.mem_map.1 G4
 have bT:w.1=u.1:=by rw[←YJ];exact rK _ _ _
 have DG:z∈u.2.1:=by
  by_cases Td:u.1=v.1
  ·have Td:u=v:=by
    have h1:=dS h.s hv
    have h2:=dS h.s hu
    rw[Td,h1]at h2
    exact(Option.some.inj h2).symm
   subst Td
   have mW:w.2.1=c6 u.2.1 x:=by rw[←YJ];unfold gr;rw[if_pos rfl]
   rw[mW]at GB
   exact(sV js (h.ring hu)).mem_iff.2 (List.mem_cons_of_mem _ GB)
  ·have mW:w=u:=by rw[←YJ];unfold gr;rw[if_neg Td]
   rw[←mW];exact GB
 show C7 (az d x).1 z=C7 d.1 z
 rw[cQ q hw GB,cQ h hu DG,bT]
theorem bV.at{d':ai}{x:ID}(h:bV d' x){z:ab}(hz:z∈ak (bW d' x).1):bY (bW d' x) z=bY d' z:=by
 have e:bY (bW d' x) z=bY (az (az d' (x,0)) (x,1)) z:=by unfold bY;rw[h.v]
 rw[h.v]at hz
 have yv:z∈ak (az d' (x,0)).1:=h.p2.1.mem_iff.2 (List.mem_cons_of_mem _ hz)
 rw[e,CH h.p1.2 h.YK hz,CH h.wf.rw h.x0 yv]
theorem bV.sub{d':ai}{x:ID}(h:bV d' x){z:ab}(hz:z∈ak (bW d' x).1):z∈ak d'.1:=h.p.mem_iff.2 (List.mem_cons_of_mem _ (List.mem_cons_of_mem _ hz))
theorem bV.Ut{d':ai}{x:ID}(h:bV d' x){a b:ID}(k:zh (bW d' x) a b):zh d' a b:=by
 obtain⟨z,hz,h1,h2⟩:=k
 exact⟨z,h.sub hz,by rw[←h.at hz];exact h1,by rw[←h.at (h.w.other hz)];exact h2⟩
theorem bV.conn{d':ai}{x:ID}(h:bV d' x){a b:ID}(k:cr (bW d' x) a b):cr d' a b:=by
 induction k with
 |refl=>exact .refl _
 |tail _ j ih=>exact ih.tail (h.Ut j)
theorem bV.ahg{d':ai}{x u w:ID}(h:bV d' x)(hu:bY d' (x,0)=some u)(hw:bY d' (x,1)=some w){a b:ID}(k:zh d' a b):zh (bW d' x) a b∨(a=u∧b=w)∨(a=w∧b=u):=by
 obtain⟨z,hz,h1,h2⟩:=k
 rcases List.mem_cons.1 (h.p.mem_iff.1 hz) with rfl|C3
 ·rw[CF]at h2
  rw[hu]at h1;rw[hw]at h2
  cases h1;cases h2
  exact .inr (.inl ⟨rfl,rfl⟩)
 rcases List.mem_cons.1 C3 with rfl|Jl
 ·rw[RR]at h2
  rw[hw]at h1;rw[hu]at h2
  cases h1;cases h2
  exact .inr (.inr ⟨rfl,rfl⟩)
 ·exact .inl ⟨z,Jl,by rw[h.at Jl];exact h1,by rw[h.at (h.w.other Jl)];exact h2⟩
theorem bV.RS{d':ai}{x u w:ID}(h:bV d' x)(hu:bY d' (x,0)=some u)(hw:bY d' (x,1)=some w){a b:ID}(k:cr d' a b) :
  cr (bW d' x) a b∨(cr (bW d' x) a u∧cr (bW d' x) w b)∨(cr (bW d' x) a w∧cr (bW d' x) u b):=by
 induction k with
 |refl=>exact .inl (.refl _)
 |tail _ j ih =>
  rcases h.ahg hu hw j with j|⟨rfl,rfl⟩|⟨rfl,rfl⟩
  ·rcases ih with k|⟨k,m⟩|⟨k,m⟩
   ·exact .inl (k.tail j)
   ·exact .inr (.inl ⟨k,m.tail j⟩)
   ·exact .inr (.inr ⟨k,m.tail j⟩)
  ·rcases ih with k|⟨k,m⟩|⟨k,m⟩
   ·exact .inr (.inl ⟨k,.refl _⟩)
   ·exact .inr (.inl ⟨k,.refl _⟩)
   ·exact .inl k
  ·rcases ih with k|⟨k,m⟩|⟨k,m⟩
   ·exact .inr (.inr ⟨k,.refl _⟩)
   ·exact .inl k
   ·exact .inr (.inr ⟨k,.refl _⟩)
theorem bV.ids{d':ai}{x:ID}(h:bV d' x):(bW d' x).1.map (·.1)=d'.1.map (·.1):=by
 rw[h.v]
 unfold az Vs.bM
 simp only[List.map_map]
 refine List.map_congr_left fun v hv=>?_
 simp only[Function.comp,rK]
theorem bV.KI{d':ai}{x:ID}(h:bV d' x){r:ID}:(∃v∈(bW d' x).1,v.1=r)↔∃v∈d'.1,v.1=r:=by
 have e:∀l:List ag,(∃v∈l,v.1=r)↔r∈l.map (·.1):=fun l=>by rw[List.mem_map]
 rw[e,e,h.ids]
theorem bV.zG{d':ai}{x u w:ID}(h:bV d' x)(hu:bY d' (x,0)=some u)(hw:bY d' (x,1)=some w)(k:cr (bW d' x) u w){R:List ID}(hr:nT d' R):nT (bW d' x) R:=by
 have key:∀{a b:ID},cr d' a b→cr (bW d' x) a b:=fun {a b} m=>by
  rcases h.RS hu hw m with m|⟨m,q⟩|⟨m,q⟩
  ·exact m
  ·exact(m.trans k).trans q
  ·exact(m.trans (k.symm h.w)).trans q
 refine⟨hr.n,fun r Cj=>h.KI.2 (hr.v r Cj),fun r Cj s hs m=>hr.i r Cj s hs (h.conn m),fun v hv=>?_⟩
 obtain⟨v',AT,he⟩:=h.KI.1 ⟨v,hv,rfl⟩
 obtain⟨r,h1,h2⟩:=hr.c v' AT
 exact⟨r,h1,by rw[←he];exact key h2⟩
theorem bV.Gd{d':ai}{x:ID}(h:bV d' x):∃u w,bY d' (x,0)=some u∧bY d' (x,1)=some w∧(∃v∈d'.1,v.1=u)∧∃v∈d'.1,v.1=w:=by
 obtain⟨v,hv,_,h1⟩:=rQ h.wf h.x0
 obtain⟨v2,yr,_,h2⟩:=rQ h.wf h.x1
 exact⟨v.1,v2.1,h1,h2,⟨v,hv,rfl⟩,⟨v2,yr,rfl⟩⟩
theorem bV.L9{d':ai}{x u w:ID}(h:bV d' x)(hu:bY d' (x,0)=some u)(hw:bY d' (x,1)=some w)(k:¬cr (bW d' x) u w){R:List ID}(hr:nT d' R):∃R2,nT (bW d' x) R2∧R2.length=R.length+1:=by
 have uv:∃v∈d'.1,v.1=u:=by
  obtain⟨v,hv,_,h1⟩:=rQ h.wf h.x0
  rw[hu]at h1;cases h1;exact⟨v,hv,rfl⟩
 have wv:∃v∈d'.1,v.1=w:=by
  obtain⟨v,hv,_,h1⟩:=rQ h.wf h.x1
  rw[hw]at h1;cases h1;exact⟨v,hv,rfl⟩
 have uw:cr d' u w:=zh.conn ⟨(x,0),h.x0,hu,by rw[CF];exact hw⟩
 obtain⟨v0,Wu,hvu⟩:=uv
 obtain⟨r,Cj,hur⟩:=hr.c v0 Wu
 rw[hvu]at hur
 have sep:∀s∈R.erase r,s∈R∧¬cr d' s u∧¬cr d' s w:=fun s hs=>by
  have h1:=List.mem_of_mem_erase hs
  have h2:s≠r:=fun e=>by
   subst e
   exact absurd hs (List.Nodup.not_mem_erase hr.n)
  exact⟨h1,fun m=>h2 (hr.i s h1 r Cj (m.trans hur)),fun m=>h2 (hr.i s h1 r Cj ((m.trans (uw.symm h.wf)).trans hur))⟩
 refine⟨u::w::R.erase r,⟨?_,?_,?_,?_⟩,?_⟩
 ·refine List.nodup_cons.2 ⟨fun m=>?_,List.nodup_cons.2 ⟨fun m=>(sep w m).2.2 (.refl _),hr.n.erase r⟩⟩
  rcases List.mem_cons.1 m with m|m
  ·exact k (m▸.refl _)
  ·exact(sep u m).2.1 (.refl _)
 ·intro s hs
  rcases List.mem_cons.1 hs with rfl|hs
  ·exact h.KI.2 ⟨v0,Wu,hvu⟩
  rcases List.mem_cons.1 hs with rfl|hs
  ·exact h.KI.2 wv
  ·exact h.KI.2 (hr.v s (sep s hs).1)
 ·intro a ha b hb m
  rcases List.mem_cons.1 ha with ea|ha
  ·rcases List.mem_cons.1 hb with eb|hb
   ·rw[ea,eb]
   rcases List.mem_cons.1 hb with eb|hb
   ·exact absurd (ea▸eb▸m) k
   ·exact absurd ((h.conn (ea▸m)).symm h.wf) (sep b hb).2.1
  rcases List.mem_cons.1 ha with ea|ha
  ·rcases List.mem_cons.1 hb with eb|hb
   ·exact absurd ((ea▸eb▸m).symm h.w) k
   rcases List.mem_cons.1 hb with eb|hb
   ·rw[ea,eb]
   ·exact absurd ((h.conn (ea▸m)).symm h.wf) (sep b hb).2.2
  ·rcases List.mem_cons.1 hb with eb|hb
   ·exact absurd (eb▸h.conn m) (sep a ha).2.1
   rcases List.mem_cons.1 hb with eb|hb
   ·exact absurd (eb▸h.conn m) (sep a ha).2.2
   ·exact hr.i a (sep a ha).1 b (sep b hb).1 (h.conn m)
 ·intro v hv
  obtain⟨v',AT,he⟩:=h.KI.1 ⟨v,hv,rfl⟩
  obtain⟨s,h1,h2⟩:=hr.c v' AT
  rw[he]at h2
  by_cases hsr:s=r
  ·subst hsr
   rcases h.RS hu hw (h2.trans (hur.symm h.wf)) with m|⟨m,_⟩|⟨m,_⟩
   ·exact⟨u,by simp,m⟩
   ·exact⟨u,by simp,m⟩
   ·exact⟨w,by simp,m⟩
  ·have Wx:s∈R.erase r:=(List.mem_erase_of_ne hsr).2 h1
   rcases h.RS hu hw h2 with m|⟨_,q⟩|⟨_,q⟩
   ·exact⟨s,by simp[Wx],m⟩
   ·exact absurd ((h.conn q).symm h.wf) (sep s Wx).2.2
   ·exact absurd ((h.conn q).symm h.wf) (sep s Wx).2.1
 ·have:=List.length_pos_of_mem Cj
  simp only[List.length_cons,List.length_erase_of_mem Cj];omega
theorem bV.xW{d':ai}{x u w:ID}(h:bV d' x)(hu:bY d' (x,0)=some u)(hw:bY d' (x,1)=some w)(hf:¬Gb d' (x,0) (x,1)):cr (bW d' x) u w:=by
 have hm:(x,0)∈(bU d').flatten:=(bE h.wf).p.mem_iff.2 h.x0
 obtain⟨c,hc,h0⟩:=List.mem_flatten.1 hm
 have h1:(x,1)∉c:=fun k=>hf ⟨c,hc,h0,k⟩
 have CB:=(bE h.wf).c c hc
 obtain⟨B,k1,k2⟩:=CB.head h0
 have hcd:∀z∈c,z∈ak d'.1:=fun z hz=>(bE h.wf).p.mem_iff.1 (List.mem_flatten.2 ⟨c,hc,hz⟩)
 have cn:c.Nodup:=by
  obtain⟨p,q,e⟩:=List.append_of_mem hc
  have:=(bE h.wf).p.nodup_iff.2 h.wf.rw.n
  rw[e]at this
  exact(List.nodup_append.1 ((fF p q c).nodup_iff.1 this)).1
 have bn:=k2.nodup_iff.2 cn
 have abK:∀z∈ak d'.1,bY d' (Vs.ph d' z)=bY d' (af z):=fun z hz=>by
  have ho:=h.wf.other hz
  obtain⟨v,hv,YL⟩:=aG.1 ho
  rw[ig hz,eY h.wf.rw hv YL]
  show C7 d'.1 _=C7 d'.1 _
  rw[cQ h.wf.rw hv (hM (h.wf.rw.ring hv) YL),cQ h.wf.rw hv YL]
 have inC:∀z∈B,z∈ak (bW d' x).1:=fun z hz=>by
  have VH:z∈c:=k2.mem_iff.1 (List.mem_cons_of_mem _ hz)
  rcases List.mem_cons.1 (h.p.mem_iff.1 (hcd z VH)) with e|e
  ·exact absurd (e▸hz) (List.nodup_cons.1 bn).1
  rcases List.mem_cons.1 e with e|e
  ·exact absurd (e▸VH) h1
  ·exact e
 have walk:∀(B:List ab) (a e:ID) (z:ab),(∀y∈B,y∈ak (bW d' x).1)→Path (Vs.ph d') B z→bY d' z=some e→(∀y,B.head? = some y→bY d' y=some a)→(B=[]→a=e)→cr (bW d' x) a e:=by
  intro B
  induction B with
  |nil=>intro a e z _ _ _ _ h5;rw[h5 rfl];exact .refl _
  |cons y r ih =>
   intro a e z hB hp hz ha _
   have hy:=hB y (by simp)
   have IS:=h.sub hy
   obtain⟨v,hv,Tb,vp⟩:=rQ h.wf (h.wf.other IS)
   have Ut:zh (bW d' x) a v.1:=⟨y,hy,by rw[h.at hy];exact ha y rfl,by rw[h.at (h.w.other hy)];exact vp⟩
   have jk:bY d' (r.head?.getD z)=some v.1:=by
    rw[←show Vs.ph d' y=r.head?.getD z from hp.1,abK y IS];exact vp
   refine Ut.conn.trans (ih v.1 e z (fun q hq=>hB q (List.mem_cons_of_mem _ hq)) hp.2 hz (fun q hq=>?_) (fun hr=>?_))
   ·rw[hq]at jk;exact jk
   ·subst hr
    have:bY d' z=some v.1:=jk
    rw[hz]at this;exact(Option.some.inj this).symm
 obtain⟨fx,pB⟩:=(show Path (Vs.ph d') ((x,0)::B) (x,0) from k1)
 have KJ:bY d' (B.head?.getD (x,0))=some w:=by
  rw[←fx,abK _ h.x0,CF];exact hw
 refine(walk B w u (x,0) inC pB hu (fun y hy=>by rw[hy]at KJ;exact KJ) (fun hB=>?_)).symm h.w
 subst hB
 have:bY d' (x,0)=some w:=KJ
 rw[hu]at this;exact(Option.some.inj this).symm
theorem IY{d:ai}(h:ak d.1=[]){a b:ID}(k:cr d a b):a=b:=by
 induction k with
 |refl=>rfl
 |tail _ j _=>obtain⟨z,hz,_⟩:=j;rw[h]at hz;simp at hz
theorem cf.ids{l:List ag}(h:cf l):(l.map (·.1)).Nodup:=by
 unfold List.Nodup
 rw[List.pairwise_map]
 exact h.imp fun {a b} k e=>by rw[e,cq]at k;cases k
theorem Ma:∀(n:Nat) (d:ai),Wf d→d.2.length=n→∀R,nT d R→∃k,d.1.length+ft d+2*k=2*R.length+d.2.length
 |0,d,hw,hl,R,hr=>by
  have he:d.2=[]:=by simpa using hl
  have hd:ak d.1=[]:=by
   have:=hw.pd
   rw[he]at this
   exact List.perm_nil.1 this
  have WJ:nT d (d.1.map (·.1)):=⟨hw.sv.ids,fun r hr=>by obtain⟨v,hv,rfl⟩:=List.mem_map.1 hr;exact⟨v,hv,rfl⟩,fun r _ s _ k=>IY hd k,fun v hv=>⟨v.1,List.mem_map.2 ⟨v,hv,rfl⟩,.refl _⟩⟩
  have hlen:=hr.len hw WJ
  have hf:bU d=[]:=by unfold bU;rw[he];rfl
  have ha:al d.1=d.1.length:=by
   unfold al
   rw[List.countP_eq_length]
   intro v hv
   rw[List.isEmpty_iff]
   cases hq:v.2.1 with
   |nil=>rfl
   |cons y r =>
    have:y∈ak d.1:=aG.2 ⟨v,hv,by rw[hq];simp⟩
    rw[hd]at this;simp at this
  refine⟨0,?_⟩
  unfold ft
  rw[hf,ha,hlen,he]
  simp;omega
 |n+1,d,hw,hl,R,hr=>by
  obtain⟨e,r,he⟩:∃e r,d.2=e::r:=by
   cases hq:d.2 with
   |nil=>rw[hq]at hl;simp at hl
   |cons e r=>exact⟨e,r,rfl⟩
  have hc:bV d e.1:=⟨hw,by unfold aU;rw[he];simp⟩
  obtain⟨u,w,hu,Ju,_,_⟩:=hc.Gd
  have hv:(bW d e.1).1.length=d.1.length:=by
   have:=congrArg List.length hc.ids
   simpa using this
  have Jm:(bW d e.1).2.length=n:=by
   have h1:=hc.w.pd.length_eq
   have h2:=hw.pd.length_eq
   have h3:=hc.p.length_eq
   have e2:∀l:List ah,(ends l).length=2*l.length:=fun l=>by
    induction l with
    |nil=>rfl
    |cons e r ih=>rw[kq];simp[ih];omega
   rw[e2]at h1 h2
   simp at h3;omega
  by_cases hf:Gb d (e.1,0) (e.1,1)
  ·have h1:=(hc.same hf).1
   by_cases k:cr (bW d e.1) u w
   ·obtain⟨g,hg⟩:=Ma n (bW d e.1) hc.w Jm R (hc.zG hu Ju k hr)
    exact⟨g+1,by omega⟩
   ·obtain⟨R2,h2,h3⟩:=hc.L9 hu Ju k hr
    obtain⟨g,hg⟩:=Ma n (bW d e.1) hc.w Jm R2 h2
    exact⟨g,by omega⟩
  ·have h1:=hc.diff hf
   obtain⟨g,hg⟩:=Ma n (bW d e.1) hc.w Jm R (hc.zG hu Ju (hc.xW hu Ju hf) hr)
   exact⟨g,by omega⟩
end Go.Vs
namespace Go.Vs
open Go.Proofs Go.Cy
def cU(d:ai)(i:Nat):ID:=((d.1[i]?).getD zV).1
theorem gm{d:ai}{i:Nat}{v:ag}(h:d.1[i]? = some v):cU d i=v.1:=by unfold cU;rw[h];rfl
theorem jQ{d:ai}(hs:cf d.1){i j:Nat}(hi:i<d.1.length)(hj:j<d.1.length)(h:cU d i=cU d j):i=j:=by
 have h1:=List.getElem?_eq_getElem hi
 have h2:=List.getElem?_eq_getElem hj
 rw[gm h1,gm h2]at h
 rw[kl hs h1 rfl,kl hs h2 rfl,h]
theorem RT{x:ID}:∀{l:List ag} {i:Nat} {v:ag} (k:Int),l[i]? = some v→v.1=x→(∀j u,j<i→l[j]? = some u→u.1≠x)→yY x l k=k+i
 |w::r,0,v,k,h,hv,_=>by
  simp at h;subst h
  rw[yY,if_pos hv];simp
 |w::r,i+1,v,k,h,hv,hn=>by
  have h0:=hn 0 w (by omega) (by simp)
  rw[yY,if_neg h0,RT (i:=i) (v:=v) (k+1) (by simpa using h) hv (fun j u hj hu=>hn (j+1) u (by omega) (by simpa using hu))]
  omega
theorem Ge{d:ai}(hs:cf d.1){i:Nat}(hi:i<d.1.length):yY (cU d i) d.1 0=(i:Int):=by
 have h:=List.getElem?_eq_getElem hi
 have:=RT (x:=cU d i) (l:=d.1) (i:=i) (v:=d.1[i]) 0 h (gm h).symm (fun j u hj hu he=>by
  have h1:=jQ hs (show j<d.1.length by omega) hi ((gm hu).trans he)
  omega)
 omega
theorem KK{d:ai}(hw:Wf d){z:ab}(hz:z∈ak d.1):∃i,i<d.1.length∧bY d z=some (cU d i):=by
 obtain⟨v,hv,_,h⟩:=rQ hw hz
 obtain⟨i,hi,he⟩:=List.getElem_of_mem hv
 refine⟨i,hi,?_⟩
 rw[h,gm (List.getElem?_eq_getElem hi),he]
structure Gf(d:ai)(L:List Int):Prop where
 n:L.length=d.1.length
 i:∀i,i<d.1.length→∃j:Nat,j≤i∧L.getD i 0=(j:Int)∧cr d (cU d i) (cU d j)
def fQ(d:ai)(L:List Int)(i:Nat):Prop:=∀j,j<d.1.length→cr d (cU d i) (cU d j)→L.getD i 0≤(j:Int)
structure IZ(d:ai)(L:List Int):Prop where
 l:Gf d L
 r:∀i,i<d.1.length→fQ d L i
theorem I0{L:List Int}{a i:Nat}(x:Int):(L.set a x).getD i 0=if a=i∧a<L.length then x else L.getD i 0:=by
 simp only[List.getD]
 rw[List.getElem?_set]
 by_cases h:a=i
 ·subst h
  by_cases k:a<L.length
  ·simp[k]
  ·simp[k]
 ·simp[h]
def DH(a b:Nat)(L:List Int):List Int:=(L.set a (min (L.getD a 0) (L.getD b 0))).set b (min (L.getD a 0) (L.getD b 0))
theorem RU{L:List Int}{a b:Nat}(ha:a<L.length)(hb:b<L.length)(i:Nat):(DH a b L).getD i 0=if i=a∨i=b then min (L.getD a 0) (L.getD b 0) else L.getD i 0:=by
 unfold DH
 rw[I0,I0,List.length_set]
 by_cases h1:b=i
 ·rw[if_pos ⟨h1,hb⟩,if_pos (.inr h1.symm)]
 ·rw[if_neg (fun k=>h1 k.1)]
  by_cases h2:a=i
  ·rw[if_pos ⟨h2,ha⟩,if_pos (.inl h2.symm)]
  ·rw[if_neg (fun k=>h2 k.1),if_neg (fun k=>k.elim (fun m=>h2 m.symm) (fun m=>h1 m.symm))]
theorem N4{d:ai}(hw:Wf d){L:List Int}(h:Gf d L){a b:Nat}(ha:a<d.1.length)(hb:b<d.1.length)(yW:cr d (cU d a) (cU d b)):Gf d (DH a b L)∧(∀i,i<d.1.length→fQ d L i→fQ d (DH a b L) i)∧(fQ d L a→fQ d (DH a b L) b)∧(fQ d L b→fQ d (DH a b L) a):=by
 have SQ:a<L.length:=by rw[h.n];exact ha
 have hlb:b<L.length:=by rw[h.n];exact hb
 have gl:=RU SQ hlb
 obtain⟨ja,a1,a2,a3⟩:=h.i a ha
 obtain⟨jb,b1,b2,b3⟩:=h.i b hb
 have hba:=yW.symm hw
 refine⟨⟨by unfold DH;simp[h.n],fun i hi=>?_⟩,fun i hi hr j hj hc=>?_,fun hr j hj hc=>?_,fun hr j hj hc=>?_⟩
 ·rw[gl]
  by_cases KM:i=a∨i=b
  ·rw[if_pos KM]
   have conn:cr d (cU d i) (cU d a)∧cr d (cU d i) (cU d b):=by
    rcases KM with rfl|rfl
    ·exact⟨.refl _,yW⟩
    ·exact⟨hba,.refl _⟩
   by_cases hle:L.getD a 0≤L.getD b 0
   ·refine⟨ja,?_,by rw[←a2];omega,conn.1.trans a3⟩
    rcases KM with rfl|rfl
    ·exact a1
    ·rw[a2,b2]at hle;omega
   ·refine⟨jb,?_,by rw[←b2];omega,conn.2.trans b3⟩
    rcases KM with rfl|rfl
    ·rw[a2,b2]at hle;omega
    ·exact b1
  ·rw[if_neg KM];exact h.i i hi
 ·rw[gl]
  split
  ·rename_i KM
   have:=hr j hj hc
   rcases KM with rfl|rfl<;>omega
  ·exact hr j hj hc
 ·rw[gl,if_pos (.inr rfl)]
  have:=hr j hj (yW.trans hc)
  omega
 ·rw[gl,if_pos (.inl rfl)]
  have:=hr j hj (hba.trans hc)
  omega
theorem XN{d:ai}(hw:Wf d){e:ah}(he:e∈d.2)(L:List Int):∃a b,a<d.1.length∧b<d.1.length∧bY d (e.1,0)=some (cU d a)∧bY d (e.1,1)=some (cU d b)∧FU d e L=DH a b L:=by
 have h0:(e.1,0)∈ak d.1:=hw.pd.mem_iff.2 (eQ.2 ⟨e,he,rfl,.inl rfl⟩)
 have h1:(e.1,1)∈ak d.1:=hw.pd.mem_iff.2 (eQ.2 ⟨e,he,rfl,.inr rfl⟩)
 obtain⟨a,ha,ea⟩:=KK hw h0
 obtain⟨b,hb,eb⟩:=KK hw h1
 refine⟨a,b,ha,hb,ea,eb,?_⟩
 unfold FU DH
 rw[ea,eb]
 simp only[Option.getD_some,Ge hw.sv ha,Ge hw.sv hb,Int.toNat_natCast]
 rw[if_pos ⟨by omega,by omega⟩]
theorem uJ{d:ai}(hw:Wf d):∀(l:List ah) {L:List Int},(∀e∈l,e∈d.2)→Gf d L→Gf d (jX d l L)∧(∀i,i<d.1.length→fQ d L i→fQ d (jX d l L) i) ∧
  (∀e∈l,∀a b,a<d.1.length→b<d.1.length→((bY d (e.1,0)=some (cU d a)∧bY d (e.1,1)=some (cU d b))∨(bY d (e.1,0)=some (cU d b)∧bY d (e.1,1)=some (cU d a)))→fQ d L a→fQ d (jX d l L) b)
 |[],L,_,h=>⟨h,fun i hi hr=>hr,fun e he=>by simp at he⟩
 |e::r,L,hl,h=>by
  have he:=hl e (List.mem_cons_self ..)
  obtain⟨a,b,ha,hb,ea,eb,el⟩:=XN hw he L
  have h0:(e.1,0)∈ak d.1:=hw.pd.mem_iff.2 (eQ.2 ⟨e,he,rfl,.inl rfl⟩)
  have yW:cr d (cU d a) (cU d b):=zh.conn ⟨(e.1,0),h0,ea,by rw[CF];exact eb⟩
  obtain⟨s1,s2,s3,s4⟩:=N4 hw h ha hb yW
  obtain⟨t1,t2,t3⟩:=uJ hw r (L:=DH a b L) (fun e he=>hl e (List.mem_cons_of_mem _ he)) s1
  show Gf d (jX d r (FU d e L))∧_∧_
  rw[el]
  refine⟨t1,fun i hi hr=>?_,fun f hf p q hp hq uO hr=>?_⟩
  ·show fQ d (jX d r (FU d e L)) i
   rw[el];exact t2 i hi (s2 i hi hr)
  ·show fQ d (jX d r (FU d e L)) q
   rw[el]
   rcases List.mem_cons.1 hf with rfl|hf
   ·refine t2 q hq ?_
    rcases uO with⟨k1,k2⟩|⟨k1,k2⟩
    ·rw[ea]at k1;rw[eb]at k2
     have:=jQ hw.sv ha hp (Option.some.inj k1);subst this
     have:=jQ hw.sv hb hq (Option.some.inj k2);subst this
     exact s3 hr
    ·rw[ea]at k1;rw[eb]at k2
     have:=jQ hw.sv ha hq (Option.some.inj k1);subst this
     have:=jQ hw.sv hb hp (Option.some.inj k2);subst this
     exact s4 hr
   ·exact t3 f hf p q hp hq uO (s2 p hp hr)
theorem KN{d:ai}(i:Nat)(hi:i<d.1.length):∃m,m<d.1.length∧cr d (cU d i) (cU d m)∧∀j,j<d.1.length→cr d (cU d i) (cU d j)→m≤j:=by
 induction i using Nat.strongRecOn with
 |ind i ih =>
  by_cases h:∃j,j<i∧cr d (cU d i) (cU d j)∧cr d (cU d j) (cU d i)
  ·obtain⟨j,hj,hc,uN⟩:=h
   obtain⟨m,h1,h2,h3⟩:=ih j hj (by omega)
   exact⟨m,h1,hc.trans h2,fun k hk hck=>h3 k hk (uN.trans hck)⟩
  ·by_cases hs:∃j,j<i∧cr d (cU d i) (cU d j)
   ·obtain⟨j,hj,hc⟩:=hs
    have key:∀n,n≤i→(∃m,m<n∧cr d (cU d i) (cU d m))→∃m,m<d.1.length∧cr d (cU d i) (cU d m)∧∀j,j<d.1.length→cr d (cU d i) (cU d j)→m≤j:=by
     intro n
     induction n with
     |zero=>rintro _ ⟨m,hm,_⟩;omega
     |succ n ihn =>
      rintro hn ⟨m,hm,FI⟩
      by_cases hb:∃m,m<n∧cr d (cU d i) (cU d m)
      ·exact ihn (by omega) hb
      ·have:m=n:=Classical.byContradiction fun k=>hb ⟨m,by omega,FI⟩
       subst this
       refine⟨m,by omega,FI,fun j hj Nz=>Classical.byContradiction fun k=>hb ⟨j,by omega,Nz⟩⟩
    exact key i (Nat.le_refl _) ⟨j,hj,hc⟩
   ·refine⟨i,hi,.refl _,fun j hj hc=>Classical.byContradiction fun k=>hs ⟨j,by omega,hc⟩⟩
theorem N5{d:ai}(P:ID→Prop){x y:ID}(h:cr d x y)(hx:P x)(hy:¬P y):∃a b,zh d a b∧P a∧¬P b:=by
 induction h with
 |refl=>exact absurd hx hy
 | @tail b c k j ih =>
  by_cases hb:P b
  ·exact⟨_,_,j,hb,hy⟩
  ·exact ih hb
open Classical in
theorem I2{P Q:Nat→Prop}:∀{l:List Nat},(∀i∈l,P i→Q i)→(∃i∈l,Q i∧¬P i)→l.countP (fun i=>decide (P i))<l.countP (fun i=>decide (Q i))
 |[],_,h=>by obtain⟨i,hi,_⟩:=h;simp at hi
 |x::r,h,⟨i,hi,hq,hp⟩=>by
  have mono:r.countP (fun i=>decide (P i))≤r.countP (fun i=>decide (Q i)):=by
   have hr:∀i∈r,P i→Q i:=fun i hi=>h i (List.mem_cons_of_mem _ hi)
   clear h hi
   induction r with
   |nil=>simp
   |cons y r ih =>
    rw[List.countP_cons,List.countP_cons]
    have:=ih (fun i hi=>hr i (List.mem_cons_of_mem _ hi))
    have h2:=hr y (List.mem_cons_self ..)
    by_cases hy:P y
    ·simp[hy,h2 hy];exact this
    ·simp[hy];omega
  rw[List.countP_cons,List.countP_cons]
  rcases List.mem_cons.1 hi with rfl|hi
  ·simp[hq,hp];omega
  ·have:=I2 (l:=r) (fun i hi=>h i (List.mem_cons_of_mem _ hi)) ⟨i,hi,hq,hp⟩
   have hx:=h x (List.mem_cons_self ..)
   by_cases hpx:P x
   ·simp[hpx,hx hpx];exact this
   ·simp[hpx];omega
theorem KO{d:ai}(hw:Wf d){L:List Int}(h:Gf d L)(hn:∃i,i<d.1.length∧¬fQ d L i):∃i,i<d.1.length∧fQ d (jX d d.2 L) i∧¬fQ d L i:=by
 obtain⟨i,hi,hr⟩:=hn
 obtain⟨m,m1,m2,m3⟩:=KN i hi
 have hm:fQ d L m:=fun j hj hc=>by
  obtain⟨q,q1,q2,_⟩:=h.i m m1
  have:=m3 j hj (m2.trans hc)
  rw[q2];omega
 let P:ID→Prop:=fun x=>∃k,k<d.1.length∧cU d k=x∧fQ d L k
 have hx:P (cU d m):=⟨m,m1,rfl,hm⟩
 have hy:¬P (cU d i):=fun⟨k,k1,k2,k3⟩=>by
  have:=jQ hw.sv k1 hi k2
  exact hr (this▸k3)
 obtain⟨a,b,⟨z,hz,za,zb⟩,⟨p,p1,p2,p3⟩,hb⟩:=N5 P (m2.symm hw) hx hy
 obtain⟨q,q1,q2⟩:=KK hw (hw.other hz)
 rw[zb]at q2
 have hbq:b=cU d q:=Option.some.inj q2
 obtain⟨e,he,e1,e2⟩:=eQ.1 (hw.pd.mem_iff.1 hz)
 refine⟨q,q1,?_,fun k=>hb ⟨q,q1,hbq.symm,k⟩⟩
 refine(uJ hw d.2 (fun _ h=>h) h).2.2 e he p q p1 q1 ?_ p3
 rw[p2,←hbq]
 obtain⟨z1,z2⟩:=z
 simp only at e1 e2
 subst e1
 rcases e2 with rfl|rfl
 ·exact .inl ⟨za,zb⟩
 ·exact .inr ⟨zb,za⟩
open Classical in
theorem CI{d:ai}(hw:Wf d):∀(n:Nat) {L:List Int},Gf d L→d.1.length≤n+(List.range d.1.length).countP (fun i=>decide (fQ d L i))→IZ d (Iy d n L)
 |0,L,h,hc=>by
  refine⟨h,fun i hi=>?_⟩
  have h1:(List.range d.1.length).countP (fun i=>decide (fQ d L i))=(List.range d.1.length).length:=by
   have:=List.countP_le_length (p:=fun i=>decide (fQ d L i)) (l:=List.range d.1.length)
   simp at this ⊢;omega
  have:=List.countP_eq_length.1 h1 i (List.mem_range.2 hi)
  exact of_decide_eq_true this
 |n+1,L,h,hc=>by
  obtain⟨s1,s2,_⟩:=uJ hw d.2 (fun _ h=>h) h
  show IZ d (Iy d n (jX d d.2 L))
  refine CI hw n s1 ?_
  by_cases hn:∃i,i<d.1.length∧¬fQ d L i
  ·obtain⟨i,hi,h1,h2⟩:=KO hw h hn
   have:=I2 (P:=fQ d L) (Q:=fQ d (jX d d.2 L)) (l:=List.range d.1.length) (fun i hi=>s2 i (List.mem_range.1 hi)) ⟨i,List.mem_range.2 hi,h1,h2⟩
   omega
  ·have:(List.range d.1.length).countP (fun i=>decide (fQ d (jX d d.2 L) i))=(List.range d.1.length).length:=by
    rw[List.countP_eq_length]
    intro i hi
    have hi:=List.mem_range.1 hi
    exact decide_eq_true (s2 i hi (Classical.byContradiction fun k=>hn ⟨i,hi,k⟩))
   rw[this];simp
theorem XO(d:ai):Gf d (DD d.1.length):=by
 refine⟨by unfold DD;simp,fun i hi=>⟨i,Nat.le_refl _,?_,.refl _⟩⟩
 unfold DD
 simp[List.getD,hi]
theorem dU{d:ai}(hw:Wf d):IZ d (labels d):=CI hw d.1.length (XO d) (by omega)
theorem IZ.uniq{d:ai}(hw:Wf d){L M:List Int}(h:IZ d L)(k:IZ d M):L=M:=by
 apply List.ext_getElem?
 intro i
 by_cases hi:i<d.1.length
 ·have e1:L[i]? = some (L.getD i 0):=by rw[List.getElem?_eq_getElem (by rw[h.l.n];exact hi)];simp[List.getD,h.l.n,hi]
  have e2:M[i]? = some (M.getD i 0):=by rw[List.getElem?_eq_getElem (by rw[k.l.n];exact hi)];simp[List.getD,k.l.n,hi]
  obtain⟨a,a1,a2,a3⟩:=h.l.i i hi
  obtain⟨b,b1,b2,b3⟩:=k.l.i i hi
  have h1:=h.r i hi b (by omega) b3
  have h2:=k.r i hi a (by omega) a3
  rw[e1,e2];congr 1;omega
 ·rw[List.getElem?_eq_none (by rw[h.l.n];omega),List.getElem?_eq_none (by rw[k.l.n];omega)]
def lr(d:ai)(L:List Int):List ID:=((List.range d.1.length).filter fun i=>decide (L.getD i 0=(i:Int))).map (cU d)
theorem la{d:ai}(hw:Wf d){L:List Int}(h:IZ d L):nT d (lr d L):=by
 have mem:∀{r:ID},r∈lr d L↔∃i,i<d.1.length∧L.getD i 0=(i:Int)∧cU d i=r:=fun {r}=>by
  unfold lr
  rw[List.mem_map]
  constructor
  ·rintro⟨i,hi,rfl⟩
   rw[List.mem_filter,List.mem_range]at hi
   exact⟨i,hi.1,by simpa using hi.2,rfl⟩
  ·rintro⟨i,h1,h2,rfl⟩
   exact⟨i,by rw[List.mem_filter,List.mem_range];exact⟨h1,by simpa using h2⟩,rfl⟩
 refine⟨?_,fun r hr=>?_,fun r hr s hs hc=>?_,fun v hv=>?_⟩
 ·unfold lr List.Nodup
  rw[List.pairwise_map]
  have hp:((List.range d.1.length).filter fun i=>decide (L.getD i 0=(i:Int))).Nodup:=List.nodup_range.filter _
  refine List.Pairwise.imp_of_mem (fun {a b} ha hb bp e=>bp ?_) hp
  exact jQ hw.sv (List.mem_range.1 (List.mem_filter.1 ha).1) (List.mem_range.1 (List.mem_filter.1 hb).1) e
 ·obtain⟨i,hi,_,rfl⟩:=mem.1 hr
  exact⟨d.1[i],List.getElem_mem hi,(gm (List.getElem?_eq_getElem hi)).symm⟩
 ·obtain⟨i,hi,h1,rfl⟩:=mem.1 hr
  obtain⟨j,hj,h2,rfl⟩:=mem.1 hs
  have k1:=h.r i hi j hj hc
  have k2:=h.r j hj i hi (hc.symm hw)
  have:i=j:=by omega
  rw[this]
 ·obtain⟨i,hi,he⟩:=List.getElem_of_mem hv
  have bT:cU d i=v.1:=by rw[gm (List.getElem?_eq_getElem hi),he]
  obtain⟨j,j1,j2,j3⟩:=h.l.i i hi
  refine⟨cU d j,mem.2 ⟨j,by omega,?_,rfl⟩,by rw[←bT];exact j3⟩
  obtain⟨k,k1,k2,k3⟩:=h.l.i j (by omega)
  have h1:=h.r i hi k (by omega) (j3.trans k3)
  rw[j2]at h1
  rw[k2]
  have:j=k:=by omega
  rw[this]
theorem xX:∀(l:List Int) (i:Nat) (n:Nat),n+l.length≤1000000→p4 l (i:Int) (n:Int)=((n+((List.range l.length).filter fun j=>decide (l.getD j 0=((i+j:Nat):Int))).length:Nat):Int)
 |[],i,n,_=>by simp[p4]
 |x::r,i,n,h=>by
  simp at h
  have e:((List.range (x::r).length).filter fun j=>decide ((x::r).getD j 0=((i+j:Nat):Int))).length=(if x=(i:Int) then 1 else 0)+((List.range r.length).filter fun j=>decide (r.getD j 0=((i+1+j:Nat):Int))).length:=by
   rw[List.length_cons,List.range_succ_eq_map,List.filter_cons]
   have e2:((List.range r.length).map Nat.succ).filter (fun j=>decide ((x::r).getD j 0=((i+j:Nat):Int)))=((List.range r.length).filter fun j=>decide (r.getD j 0=((i+1+j:Nat):Int))).map Nat.succ:=by
    rw[List.filter_map]
    congr 1
    apply List.filter_congr
    intro j _
    simp only[Function.comp,Nat.succ_eq_add_one,List.getD_cons_succ]
    rw[show i+(j+1)=i+1+j by omega]
   rw[e2]
   simp only[List.getD_cons_zero,Nat.add_zero]
   by_cases hx:x=(i:Int)
   ·simp[hx];omega
   ·simp[hx]
  rw[e]
  unfold p4
  have hi:((i:Int)+1)=((i+1:Nat):Int):=by omega
  rw[hi]
  by_cases hx:x=(i:Int)
  ·rw[if_pos hx,if_pos hx]
   have hw:IntKind.wrap .i64 ((n:Int)+1)=((n+1:Nat):Int):=by rw[wrap_small (by omega) (by omega)];omega
   rw[hw,xX r (i+1) (n+1) (by omega)]
   congr 1;omega
  ·rw[if_neg hx,if_neg hx,xX r (i+1) n (by omega)]
   congr 1;omega
theorem s5{d:ai}(hw:Wf d):fj d=((lr d (labels d)).length:Int):=by
 have h:=dU hw
 have hn:=hw.nv
 unfold fj
 have:=xX (labels d) 0 0 (by rw[h.l.n];omega)
 simp only[Nat.zero_add]at this
 have e:p4 (labels d) 0 0=p4 (labels d) ((0:Nat):Int) ((0:Nat):Int):=rfl
 rw[e,this]
 unfold lr
 rw[List.length_map,h.l.n]
theorem xY:∀(l:List ag) (n:Nat),n+l.length≤1000000→rF l (n:Int)=((n+al l:Nat):Int)
 |[],n,_=>by simp[rF,al]
 |v::r,n,h=>by
  simp at h
  unfold rF al
  rw[List.countP_cons]
  by_cases hv:v.2.1.length=0
  ·have:v.2.1.isEmpty=true:=by rw[List.isEmpty_iff];simpa using hv
   have hw:IntKind.wrap .i64 ((n:Int)+1)=((n+1:Nat):Int):=by rw[wrap_small (by omega) (by omega)];omega
   rw[if_pos hv,hw,xY r (n+1) (by omega),this]
   unfold al
   congr 1;simp;omega
  ·have:v.2.1.isEmpty=false:=by
    cases hq:v.2.1 with
    |nil=>rw[hq]at hv;exact absurd rfl hv
    |cons _ _=>rfl
   rw[if_neg hv,xY r n (by omega),this]
   unfold al
   simp
theorem wy{d:ai}(hw:Wf d):(bU d).length≤80:=by
 have h:=bE hw
 have h1:=h.p.length_eq
 have h2:=hw.IX
 have h3:(bU d).length≤(bU d).flatten.length:=by
  have hc:=h.c
  generalize bU d=cs at hc
  induction cs with
  |nil=>simp
  |cons c r ih =>
   have:=ih (fun c YI=>hc c (List.mem_cons_of_mem _ YI))
   have h1:=(hc c (List.mem_cons_self ..)).ne
   have:0<c.length:=Nat.pos_of_ne_zero fun k=>h1 (List.length_eq_zero_iff.1 k)
   simp only[List.length_cons,List.flatten_cons,List.length_append];omega
 omega
theorem N6{d:ai}(hw:Wf d):Ck d=((ft d:Nat):Int):=by
 unfold Ck ft
 have:=hw.nv
 have:=wy hw
 exact xY d.1 (bU d).length (by omega)
theorem CJ{d:ai}(hw:Wf d){R:List ID}(hr:nT d R):∃k:Nat,bB d=(k:Int)∧d.1.length+ft d+2*k=2*R.length+d.2.length:=by
 have hl:=(la hw (dU hw)).len hw hr
 obtain⟨k,hk⟩:=Ma d.2.length d hw rfl R hr
 refine⟨k,?_,hk⟩
 have hn:=hw.nv;have he:=hw.ne
 have hf:=wy hw
 have ha:al d.1≤d.1.length:=List.countP_le_length
 have hR:R.length≤d.1.length:=by
  rw[←hl];unfold lr
  rw[List.length_map]
  exact Nat.le_trans (List.length_filter_le _ _) (by simp)
 have ZB:ft d=(bU d).length+al d.1:=rfl
 unfold bB
 rw[s5 hw,N6 hw,hl]
 rw[wrap_small (n:=2*((R.length:Nat):Int)) (by omega) (by omega)]
 rw[wrap_small (n:=2*((R.length:Nat):Int)-((d.1.length:Nat):Int)) (by omega) (by omega)]
 rw[wrap_small (n:=2*((R.length:Nat):Int)-((d.1.length:Nat):Int)+((d.2.length:Nat):Int)) (by omega) (by omega)]
 have e:2*((R.length:Nat):Int)-((d.1.length:Nat):Int)+((d.2.length:Nat):Int)-((ft d:Nat):Int)=2*(k:Int):=by omega
 rw[e,wrap_small (n:=2*(k:Int)) (by omega) (by omega)]
 have e2:Int.tdiv (2*(k:Int)) 2=(k:Int):=by
  rw[Int.tdiv_eq_ediv_of_nonneg (by omega)];omega
 rw[e2,wrap_small (by omega) (by omega)]
end Go.Vs
