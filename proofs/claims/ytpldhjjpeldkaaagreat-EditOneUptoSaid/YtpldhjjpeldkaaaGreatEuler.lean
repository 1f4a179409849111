/- Faces, parts, and Euler's formula. -/
import Derived.Test.YtpldhjjpeldkaaaGreatSplits
set_option linter.unusedVariables false
namespace Go.Cy
variable {α:Type}
def Path(f:α→α):List α→α→Prop
 | [],_=>True
 | x::r,z=>f x=r.head?.getD z∧Path f r z
theorem Path.app{f:α→α}:∀{a b:List α} {z:α},Path f (a++b) z↔Path f a (b.head?.getD z)∧Path f b z
 | [],b,z=>by simp [Path]
 | x::r,b,z=>by
  have ih:=Path.app (f:=f) (a:=r) (b:=b) (z:=z)
  simp only [List.cons_append,Path]
  rw [ih]
  have:(r++b).head?.getD z=r.head?.getD (b.head?.getD z):=by cases r<;>simp
  rw [this,and_assoc]
theorem Path.congr{f g:α→α}:∀{a:List α} {z:α},(∀x∈a,g x=f x)→Path f a z→Path g a z
 | [],_,_,_=>trivial
 | x::r,z,h,p=>⟨(h x (List.mem_cons_self ..)).trans p.1,Path.congr (fun y hy=>h y (List.mem_cons_of_mem _ hy)) p.2⟩
def kf(f:α→α):List α→Prop
 | []=>False
 | x::r=>Path f (x::r) x
theorem kf.two{f:α→α}{x y:α}{a b:List α}:kf f ((x::a)++(y::b))↔Path f (x::a) y∧Path f (y::b) x:=by
 show Path f ((x::a)++(y::b)) x↔_
 rw [Path.app];rfl
theorem kf.BL{f:α→α}:∀{a b:List α},kf f (a++b)→kf f (b++a)
 | [],b,h=>by simpa using h
 | x::a,[],h=>by simpa using h
 | x::a,y::b,h=>kf.two.2 ⟨(kf.two.1 h).2,(kf.two.1 h).1⟩
theorem kf.ne{f:α→α}{c:List α}(h:kf f c):c≠[]:=by rintro rfl;exact h
theorem kf.congr{f g:α→α}{c:List α}(h:∀x∈c,g x=f x)(k:kf f c):kf g c:=by
 cases c with
 | nil=>exact k
 | cons x r=>exact Path.congr h k
theorem Path.step{f:α→α}:∀{a:List α} {z x:α},Path f a z→x∈a→f x∈a∨f x=z
 | y::r,z,x,p,hx=>by
  rcases List.mem_cons.1 hx with rfl | hx
  ·cases r with
   | nil=>exact .inr p.1
   | cons u r=>exact .inl (by have:=p.1;simp at this;rw [this];simp)
  ·rcases Path.step p.2 hx with h | h
   ·exact .inl (List.mem_cons_of_mem _ h)
   ·exact .inr h
theorem kf.step{f:α→α}{c:List α}(h:kf f c){x:α}(hx:x∈c):f x∈c:=by
 cases c with
 | nil=>exact h.elim
 | cons y r =>
  rcases Path.step (show Path f (y::r) y from h) hx with k | k
  ·exact k
  ·rw [k];simp
def it(f:α→α):Nat→α→α
 | 0,x=>x
 | n+1,x=>it f n (f x)
theorem kf.it{f:α→α}{c:List α}(h:kf f c):∀(n:Nat) {x:α},x∈c→it f n x∈c
 | 0,_,hx=>hx
 | n+1,_,hx=>kf.it h n (h.step hx)
theorem Path.reach{f:α→α}:∀{r:List α} {x z:α},Path f (x::r) z→∀y∈x::r,∃n,it f n x=y
 | [],x,z,_,y,hy=>by simp at hy;exact ⟨0,hy.symm⟩
 | u::r,x,z,p,y,hy=>by
  rcases List.mem_cons.1 hy with rfl | hy
  ·exact ⟨0,rfl⟩
  ·have h1:f x=u:=p.1
   obtain ⟨n,hn⟩:=Path.reach p.2 y hy
   exact ⟨n+1,by show it f n (f x)=y;rw [h1];exact hn⟩
theorem kf.head{f:α→α}{c:List α}(h:kf f c){x:α}(hx:x∈c):∃r,kf f (x::r)∧(x::r).Perm c:=by
 obtain ⟨a,b,rfl⟩:=List.append_of_mem hx
 exact ⟨b++a,kf.BL h,List.perm_append_comm (l₁:=x::b) (l₂:=a)⟩
theorem kf.reach{f:α→α}{c:List α}(h:kf f c){x y:α}(hx:x∈c)(hy:y∈c):∃n,Cy.it f n x=y:=by
 obtain ⟨r,h1,h2⟩:=h.head hx
 exact Path.reach (show Path f (x::r) x from h1) y (h2.mem_iff.2 hy)
theorem kf.same{f:α→α}{c c':List α}(h:kf f c)(h':kf f c'){x:α}(hx:x∈c)(WR:x∈c'){y:α}(hy:y∈c):y∈c':=by
 obtain ⟨n,hn⟩:=h.reach hx hy
 rw [←hn];exact h'.it n WR
structure Hg(f:α→α)(D:List α)(cs:List (List α)):Prop where
 c:∀c∈cs,kf f c
 p:cs.flatten.Perm D
theorem fR(p q:List (List α))(c:List α):(p++c::q).flatten.Perm (c++(p++q).flatten):=by
 simp only [List.flatten_append,List.flatten_cons]
 rw [←List.append_assoc,←List.append_assoc]
 exact List.Perm.append_right _ List.perm_append_comm
theorem Hg.count{f:α→α}:∀{cs cs':List (List α)} {D:List α},D.Nodup→Hg f D cs→Hg f D cs'→cs.length=cs'.length
 | [],cs',D,hn,h,h'=>by
  have hD:D=[]:=by have:=h.p;simp at this;exact this.symm▸rfl
  subst hD
  cases cs' with
  | nil=>rfl
  | cons c r =>
   have:=h'.p.length_eq
   have h1:=(h'.c c (by simp)).ne
   cases c with
   | nil=>exact absurd rfl h1
   | cons x c=>simp at this
 | c::r,cs',D,hn,h,h'=>by
  have hc:=h.c c (by simp)
  obtain ⟨x,c0,rfl⟩:∃x c0,c=x::c0:=by
   cases c with
   | nil=>exact hc.elim
   | cons x c0=>exact ⟨x,c0,rfl⟩
  have hx:x∈cs'.flatten:=h'.p.mem_iff.2 (h.p.mem_iff.1 (by simp))
  obtain ⟨c',Wu,Zt⟩:=List.mem_flatten.1 hx
  obtain ⟨p,q,rfl⟩:=List.append_of_mem Wu
  have Zu:=h'.c c' (by simp)
  have n1:(x::c0).Nodup:=by
   have:=h.p.nodup_iff.2 hn
   rw [List.flatten_cons] at this
   exact (List.nodup_append.1 this).1
  have n2:c'.Nodup:=by
   have:=(fR p q c').nodup_iff.1 (h'.p.nodup_iff.2 hn)
   exact (List.nodup_append.1 this).1
  have pc:(x::c0).Perm c':=(List.perm_ext_iff_of_nodup n1 n2).2 fun y=>⟨fun hy=>hc.same Zu (by simp) Zt hy,fun hy=>Zu.same hc Zt (by simp) hy⟩
  have pd:((x::c0)++r.flatten).Perm ((x::c0)++(p++q).flatten):=by
   have e1:((x::c0)++r.flatten).Perm D:=by have:=h.p;rwa [List.flatten_cons] at this
   have e2:(c'++(p++q).flatten).Perm D:=(fR p q c').symm.trans h'.p
   exact e1.trans (e2.symm.trans (List.Perm.append_right _ pc.symm))
  have pr:=(List.perm_append_left_iff _).1 pd
  have Rv:r.flatten.Nodup:=by
   have:=h.p.nodup_iff.2 hn
   rw [List.flatten_cons] at this
   exact (List.nodup_append.1 this).2.1
  have ih:=Hg.count (cs:=r) (cs':=p++q) (D:=r.flatten) Rv ⟨fun c hc=>h.c c (by simp [hc]),List.Perm.refl _⟩ ⟨fun c hc=>h'.c c (by
   rcases List.mem_append.1 hc with k | k<;>simp [k]),pr.symm⟩
  simp at ih ⊢;omega
theorem Path.kc{f g:α→α}:∀{a:List α} {z z':α},Path f a z→z∉a.tail→(∀u∈a,f u≠z→g u=f u)→(∀u∈a,f u=z→g u=z')→Path g a z'
 | [],_,_,_,_,_,_=>trivial
 | [x],z,z',p,hz,h1,h2=>⟨h2 x (by simp) p.1,trivial⟩
 | x::y::r,z,z',p,hz,h1,h2=>by
  have e:f x=y:=p.1
  have bj:y≠z:=fun k=>hz (by simp [k])
  refine ⟨(h1 x (by simp) (by rw [e];exact bj)).trans e,?_⟩
  exact Path.kc p.2 (fun k=>hz (List.mem_cons_of_mem _ k)) (fun u hu=>h1 u (List.mem_cons_of_mem _ hu)) (fun u hu=>h2 u (List.mem_cons_of_mem _ hu))
def nz:List α→Nat
 | []=>0
 | _::_=>1
def kd(l:List α):List (List α):=match l with | []=>[] | x::r=>[x::r]
theorem tn(l:List α):(kd l).flatten=l:=by cases l<;>simp [kd]
theorem Di(l:List α):(kd l).length=nz l:=by cases l<;>rfl
theorem lG{l:List α}{z:α}(h:z∈l.tail):z∈l:=List.mem_of_mem_tail h
section
variable [DecidableEq α]
def uR(f':α→α)(x y:α)(z:α):α :=
 if f' z=x then (if f' y=y then f' x else f' y) else if f' z=y then (if f' x=x then f' y else f' x) else f' z
theorem Hg.P6{f' f:α→α}{x y:α}{D:List α}{cs':List (List α)}{c:List α}(Rs:x≠y)(hn:(x::y::D).Nodup)(h:Hg f' (x::y::D) cs')(hf:∀z∈D,f z=uR f' x y z)(hc:c∈cs')(hx:x∈c)(hy:y∈c) :
  ∃cs,Hg f D cs∧cs.length+1=cs'.length+(if f' x=y then 0 else 1)+(if f' y=x then 0 else 1):=by
 obtain ⟨p,q,rfl⟩:=List.append_of_mem hc
 have Ws:=h.c c hc
 obtain ⟨r,h1,h2⟩:=Ws.head hx
 have hyr:y∈r:=by
  rcases List.mem_cons.1 (h2.mem_iff.2 hy) with k | k
  ·exact absurd k.symm Rs
  ·exact k
 obtain ⟨B,A,rfl⟩:=List.append_of_mem hyr
 have h3:kf f' ((x::B)++(y::A)):=h1
 obtain ⟨⟨fx,pB⟩,⟨fy,pA⟩⟩:=kf.two.1 h3
 have pd:(x::y::(B++A++(p++q).flatten)).Perm (x::y::D):=by
  refine List.Perm.trans ?_ h.p
  refine List.Perm.trans ?_ (fR p q c).symm
  refine List.Perm.trans ?_ (List.Perm.append_right _ h2)
  show (x::y::(B++A++(p++q).flatten)).Perm (x::((B++y::A)++(p++q).flatten))
  refine List.Perm.cons x ?_
  rw [List.append_assoc B (y::A),List.cons_append,List.append_assoc]
  exact List.perm_middle.symm
 have pD:=(pd.cons_inv).cons_inv
 have nd:=pd.nodup_iff.2 hn
 have nx:x∉B++A++(p++q).flatten:=fun k=>(List.nodup_cons.1 nd).1 (List.mem_cons_of_mem _ k)
 have ny:y∉B++A++(p++q).flatten:=(List.nodup_cons.1 (List.nodup_cons.1 nd).2).1
 have xB:x∉B:=fun k=>nx (by simp [k])
 have xA:x∉A:=fun k=>nx (by simp [k])
 have yB:y∉B:=fun k=>ny (by simp [k])
 have yA:y∉A:=fun k=>ny (by simp [k])
 have P7:∀z∈B++A++(p++q).flatten,z∈D:=fun z hz=>pD.mem_iff.1 hz
 have cB:∀c∈kd B,kf f c:=fun c hc=>by
  cases B with
  | nil=>simp [kd] at hc
  | cons b B =>
   have hc:c=b::B:=by simpa [kd] using hc
   subst hc
   have fx:f' x=b:=fx
   have bx:b≠x:=fun k=>xB (by simp [k])
   refine Path.kc pB (fun k=>yB (lG k)) (fun u hu bj => ?_) (fun u hu heq => ?_)
   ·rw [hf u (P7 u (by simp at hu ⊢;rcases hu with k | k<;>simp [k]))]
    unfold uR
    have:f' u≠x:=fun k=>by
     rcases pB.step hu with m | m
     ·exact xB (k▸m)
     ·exact bj m
    rw [if_neg this,if_neg bj]
   ·rw [hf u (P7 u (by simp at hu ⊢;rcases hu with k | k<;>simp [k]))]
    unfold uR
    rw [if_neg (by rw [heq];exact fun k=>Rs k.symm),if_pos heq,if_neg (by rw [fx];exact bx),fx]
 have cA:∀c∈kd A,kf f c:=fun c hc=>by
  cases A with
  | nil=>simp [kd] at hc
  | cons a A =>
   have hc:c=a::A:=by simpa [kd] using hc
   subst hc
   have fy:f' y=a:=fy
   have ay:a≠y:=fun k=>yA (by simp [k])
   refine Path.kc pA (fun k=>xA (lG k)) (fun u hu bj => ?_) (fun u hu heq => ?_)
   ·rw [hf u (P7 u (by simp at hu ⊢;rcases hu with k | k<;>simp [k]))]
    unfold uR
    have:f' u≠y:=fun k=>by
     rcases pA.step hu with m | m
     ·exact yA (k▸m)
     ·exact bj m
    rw [if_neg bj,if_neg this]
   ·rw [hf u (P7 u (by simp at hu ⊢;rcases hu with k | k<;>simp [k]))]
    unfold uR
    rw [if_pos heq,if_neg (by rw [fy];exact ay),fy]
 have cR:∀c∈p++q,kf f c:=fun c hc=>by
  have Wu:c∈p++((x::B)++(y::A))::q:=by
   rcases List.mem_append.1 hc with k | k<;>simp [k]
  have Bc:kf f' c:=h.c c (by rcases List.mem_append.1 hc with k | k<;>simp [k])
  refine Bc.congr fun z hz => ?_
  have Zv:∀u∈c,u∈(p++q).flatten:=fun u hu=>List.mem_flatten.2 ⟨c,hc,hu⟩
  have hm:=Zv _ (Bc.step hz)
  rw [hf z (P7 z (List.mem_append_right _ (Zv z hz)))]
  unfold uR
  rw [if_neg (fun k=>nx (List.mem_append_right _ (by rw [←k];exact hm))),if_neg (fun k=>ny (List.mem_append_right _ (by rw [←k];exact hm)))]
 refine ⟨kd B++(kd A++(p++q)),⟨fun c hc => ?_,?_⟩,?_⟩
 ·rcases List.mem_append.1 hc with k | k
  ·exact cB c k
  rcases List.mem_append.1 k with k | k
  ·exact cA c k
  ·exact cR c k
 ·rw [List.flatten_append,List.flatten_append,tn,tn,←List.append_assoc]
  exact pD
 ·have eB:(if f' x=y then 0 else 1)=nz B:=by
   cases B with
   | nil=>exact if_pos fx
   | cons b B=>exact if_neg (fun k=>yB (by rw [←k,show f' x=b from fx];simp))
  have eA:(if f' y=x then 0 else 1)=nz A:=by
   cases A with
   | nil=>exact if_pos fy
   | cons a A=>exact if_neg (fun k=>xA (by rw [←k,show f' y=a from fy];simp))
  rw [eB,eA]
  simp only [List.length_append,Di,List.length_cons]
  omega
theorem Hg.P8{f' f:α→α}{x y:α}{D:List α}{cs':List (List α)}{c:List α}(Rs:x≠y)(hn:(x::y::D).Nodup)(h:Hg f' (x::y::D) cs')(hf:∀z∈D,f z=uR f' x y z)(hc:c∈cs')(hx:x∈c)(hy:y∉c) :
  ∃cs,Hg f D cs∧cs.length+2=cs'.length+(if f' x=x∧f' y=y then 0 else 1):=by
 obtain ⟨p,q,rfl⟩:=List.append_of_mem hc
 have Ws:=h.c c hc
 obtain ⟨B,h1,h2⟩:=Ws.head hx
 have hyc:y∈(p++q).flatten:=by
  have:y∈(p++c::q).flatten:=h.p.mem_iff.2 (by simp)
  rcases List.mem_append.1 ((fR p q c).mem_iff.1 this) with k | k
  ·exact absurd k hy
  ·exact k
 obtain ⟨c2,tw,aeR⟩:=List.mem_flatten.1 hyc
 have aeS:c2∈p++c::q:=by rcases List.mem_append.1 tw with k | k<;>simp [k]
 obtain ⟨A,h3,h4⟩:=(h.c c2 aeS).head aeR
 obtain ⟨p2,q2,zp⟩:=List.append_of_mem tw
 obtain ⟨fx,pB⟩:=(show Path f' (x::B) x from h1)
 obtain ⟨fy,pA⟩:=(show Path f' (y::A) y from h3)
 have pd:(x::y::(B++A++(p2++q2).flatten)).Perm (x::y::D):=by
  refine List.Perm.trans ?_ h.p
  refine List.Perm.trans ?_ (fR p q c).symm
  rw [zp]
  refine List.Perm.trans ?_ (List.Perm.append_right _ h2)
  refine List.Perm.trans ?_ (List.Perm.append_left _ (fR p2 q2 c2).symm)
  refine List.Perm.trans ?_ (List.Perm.append_left _ (List.Perm.append_right _ h4))
  show (x::y::(B++A++(p2++q2).flatten)).Perm (x::(B++(y::(A++(p2++q2).flatten))))
  refine List.Perm.cons x ?_
  rw [List.append_assoc]
  exact List.perm_middle.symm
 have pD:=(pd.cons_inv).cons_inv
 have nd:=pd.nodup_iff.2 hn
 have nx:x∉B++A++(p2++q2).flatten:=fun k=>(List.nodup_cons.1 nd).1 (List.mem_cons_of_mem _ k)
 have ny:y∉B++A++(p2++q2).flatten:=(List.nodup_cons.1 (List.nodup_cons.1 nd).2).1
 have xB:x∉B:=fun k=>nx (by simp [k])
 have xA:x∉A:=fun k=>nx (by simp [k])
 have yB:y∉B:=fun k=>ny (by simp [k])
 have yA:y∉A:=fun k=>ny (by simp [k])
 have P7:∀z∈B++A++(p2++q2).flatten,z∈D:=fun z hz=>pD.mem_iff.1 hz
 have nB:∀u∈B,f' u≠x→f u=f' u:=fun u hu bj=>by
  rw [hf u (P7 u (by simp [hu]))]
  unfold uR
  have:f' u≠y:=fun k=>by
   rcases pB.step hu with m | m
   ·exact yB (k▸m)
   ·exact bj m
  rw [if_neg bj,if_neg this]
 have nA:∀u∈A,f' u≠y→f u=f' u:=fun u hu bj=>by
  rw [hf u (P7 u (by simp [hu]))]
  unfold uR
  have:f' u≠x:=fun k=>by
   rcases pA.step hu with m | m
   ·exact xA (k▸m)
   ·exact bj m
  rw [if_neg this,if_neg bj]
 have eB:∀u∈B,f' u=x→f u=if f' y=y then f' x else f' y:=fun u hu heq=>by
  rw [hf u (P7 u (by simp [hu]))]
  unfold uR
  rw [if_pos heq]
 have eA:∀u∈A,f' u=y→f u=if f' x=x then f' y else f' x:=fun u hu heq=>by
  rw [hf u (P7 u (by simp [hu]))]
  unfold uR
  rw [if_neg (by rw [heq];exact fun k=>Rs k.symm),if_pos heq]
 have cBA:∀c∈kd (B++A),kf f c:=fun c hc=>by
  cases B with
  | nil =>
   cases A with
   | nil=>simp [kd] at hc
   | cons a A =>
    have hc:c=a::A:=by simpa [kd] using hc
    subst hc
    refine Path.kc pA (fun k=>yA (lG k)) nA (fun u hu heq => ?_)
    rw [eA u hu heq,if_pos (show f' x=x from fx)];exact fy
  | cons b B =>
   have fxb:f' x=b:=fx
   have bx:b≠x:=fun k=>xB (by simp [k])
   cases A with
   | nil =>
    have hc:c=b::B:=by simpa [kd] using hc
    subst hc
    refine Path.kc pB (fun k=>xB (lG k)) nB (fun u hu heq => ?_)
    rw [eB u hu heq,if_pos (show f' y=y from fy)];exact fxb
   | cons a A =>
    have hc:c=(b::B)++(a::A):=by simpa [kd] using hc
    subst hc
    have fya:f' y=a:=fy
    have ay:a≠y:=fun k=>yA (by simp [k])
    refine kf.two.2 ⟨Path.kc pB (fun k=>xB (lG k)) nB (fun u hu heq => ?_),Path.kc pA (fun k=>yA (lG k)) nA (fun u hu heq => ?_)⟩
    ·rw [eB u hu heq,if_neg (by rw [fya];exact ay)];exact fya
    ·rw [eA u hu heq,if_neg (by rw [fxb];exact bx)];exact fxb
 have cR:∀c∈p2++q2,kf f c:=fun c hc=>by
  have Ep:c∈p++q:=by rw [zp];rcases List.mem_append.1 hc with k | k<;>simp [k]
  have Bc:kf f' c:=h.c c (by rcases List.mem_append.1 Ep with k | k<;>simp [k])
  refine Bc.congr fun z hz => ?_
  have Zv:∀u∈c,u∈(p2++q2).flatten:=fun u hu=>List.mem_flatten.2 ⟨c,hc,hu⟩
  have hm:=Zv _ (Bc.step hz)
  rw [hf z (P7 z (List.mem_append_right _ (Zv z hz)))]
  unfold uR
  rw [if_neg (fun k=>nx (List.mem_append_right _ (by rw [←k];exact hm))),if_neg (fun k=>ny (List.mem_append_right _ (by rw [←k];exact hm)))]
 refine ⟨kd (B++A)++(p2++q2),⟨fun c hc => ?_,?_⟩,?_⟩
 ·rcases List.mem_append.1 hc with k | k
  ·exact cBA c k
  ·exact cR c k
 ·rw [List.flatten_append,tn]
  exact pD
 ·have eBA:(if f' x=x∧f' y=y then 0 else 1)=nz (B++A):=by
   cases B with
   | nil =>
    cases A with
    | nil=>exact if_pos ⟨fx,fy⟩
    | cons a A=>exact if_neg (fun k=>yA (by rw [←k.2,show f' y=a from fy];simp))
   | cons b B=>exact if_neg (fun k=>xB (by rw [←k.1,show f' x=b from fx];simp))
  rw [eBA]
  have hl:(p++q).length=(p2++c2::q2).length:=by rw [zp]
  simp only [List.length_append,Di,List.length_cons] at hl ⊢
  omega
end
end Go.Cy
set_option linter.unusedSimpArgs false
namespace Go.Vs
open Go.Proofs Go.Cy
def skip(x:ae)(s:ae→ae)(z:ae):ae:=if s z=x then s x else s z
def iA(row:List ae)(x:ae):ae:=(dw row x 1).getD zD
theorem uS{row:List ae}(hn:row.Nodup){i:Nat}{x:ae}(hx:row[i]? = some x):iA row x=(row[(i+1) % row.length]?).getD zD:=by
 unfold iA dw
 rw [if_pos (List.mem_of_getElem? hx),Sk hn hx,Int.toNat_natCast]
theorem Dk{row:List ae}(hn:row.Nodup):∀(r p:List ae),row=p++r→Path (iA row) r (row.head?.getD zD)
 | [],_,_=>trivial
 | x::r,p,h=>by
  refine ⟨?_,Dk hn r (p++[x]) (by rw [h];simp)⟩
  have hx:row[p.length]? = some x:=by rw [h];simp
  rw [uS hn hx]
  cases r with
  | nil =>
   have hl:row.length=p.length+1:=by rw [h];simp
   rw [hl,Nat.mod_self]
   show (row[0]?).getD zD=row.head?.getD zD
   rw [List.head?_eq_getElem?]
  | cons y r =>
   have hl:p.length+1<row.length:=by rw [h];simp
   rw [Nat.mod_eq_of_lt hl]
   have:row[p.length+1]? = some y:=by rw [h];simp
   rw [this];rfl
theorem Be{row:List ae}(hn:row.Nodup)(h0:row≠[]):kf (iA row) row:=by
 have:=Dk hn row [] rfl
 cases row with
 | nil=>exact absurd rfl h0
 | cons x r=>exact this
theorem Bf{f g:ae→ae}:∀{a:List ae} {z:ae},Path f a z→Path g a z→∀x∈a,f x=g x
 | y::r,z,p,q,x,hx=>by
  rcases List.mem_cons.1 hx with rfl | hx
  ·exact p.1.trans q.1.symm
  ·exact Bf p.2 q.2 x hx
theorem Mj{f g:ae→ae}{c:List ae}(h:kf f c)(k:kf g c):∀x∈c,f x=g x:=by
 cases c with
 | nil=>exact h.elim
 | cons y r=>exact Bf h k
theorem P9{f:ae→ae}{row:List ae}{j:Nat}(h:kf f (BL row j)):kf f row:=by
 unfold BL at h
 have:=kf.BL h
 rwa [List.take_append_drop] at this
theorem nF{row:List ae}(hn:row.Nodup){x:ae}(hx:x∈row):iA row x∈row:=(Be hn (List.ne_nil_of_mem hx)).step hx
theorem Dl{f:ae→ae}:∀{a:List ae} {z:ae},Path f a z→a≠[]→∃l,l∈a∧f l=z
 | [x],z,p,_=>⟨x,by simp,p.1⟩
 | x::y::r,z,p,_=>by
  obtain ⟨l,h1,h2⟩:=Dl p.2 (by simp)
  exact ⟨l,List.mem_cons_of_mem _ h1,h2⟩
theorem Mk{row:List ae}(hn:row.Nodup){x y:ae}(hx:x∈row)(hy:y∈row)(h:iA row x=iA row y):x=y:=by
 obtain ⟨i,hi⟩:=List.getElem?_of_mem hx
 obtain ⟨j,hj⟩:=List.getElem?_of_mem hy
 have mC:=(List.getElem?_eq_some_iff.1 hi).1
 have HM:=(List.getElem?_eq_some_iff.1 hj).1
 have hp:0<row.length:=by omega
 rw [uS hn hi,uS hn hj,List.getElem?_eq_getElem (Nat.mod_lt _ hp),List.getElem?_eq_getElem (Nat.mod_lt _ hp)] at h
 have h2:(i+1) % row.length=(j+1) % row.length:=Dg hn (by simpa using h)
 have h3:i=j:=by
  by_cases a:i+1<row.length<;>by_cases b:j+1<row.length
  ·rw [Nat.mod_eq_of_lt a,Nat.mod_eq_of_lt b] at h2;omega
  ·have:j+1=row.length:=by omega
   rw [Nat.mod_eq_of_lt a,this,Nat.mod_self] at h2;omega
  ·have:i+1=row.length:=by omega
   rw [Nat.mod_eq_of_lt b,this,Nat.mod_self] at h2;omega
  ·omega
 subst h3
 rw [hi] at hj;exact Option.some.inj hj
theorem Ml{row:List ae}(hn:row.Nodup){x z:ae}(hx:x∈row)(hz:z∈row)(hzx:z≠x):iA (gM row x) z=skip x (iA row) z:=by
 obtain ⟨A,B,rfl⟩:=List.append_of_mem hx
 obtain ⟨k,hk⟩:=List.getElem?_of_mem hx
 have he:(A++x::B).filter (fun e=>decide (e≠x))=A++B:=by
  have hx2:(A++x::B)[A.length]? = some x:=by simp
  rw [wm hn hx2];simp
 have CG:(x::(B++A)).Nodup:=by
  have p:(A++x::B).Perm (x::(B++A)):=List.perm_middle.trans (List.Perm.cons x List.perm_append_comm)
  exact p.nodup_iff.1 hn
 have BF:z∈B++A:=by
  rcases List.mem_append.1 hz with k | k
  ·exact List.mem_append_right _ k
  ·rcases List.mem_cons.1 k with k | k
   ·exact absurd k hzx
   ·exact List.mem_append_left _ k
 have c1:kf (iA (A++x::B)) (x::(B++A)):=by
  have:=(Be hn (List.ne_nil_of_mem hx)).BL
  simpa using this
 obtain ⟨fx,pL⟩:=(show Path (iA (A++x::B)) (x::(B++A)) x from c1)
 have c2:kf (skip x (iA (A++x::B))) (B++A):=by
  generalize hL:B++A=L at *
  cases L with
  | nil=>simp at BF
  | cons l L =>
   have fx:iA (A++x::B) x=l:=fx
   have vW:x∉l::L:=(List.nodup_cons.1 CG).1
   refine Path.kc pL (fun k=>vW (lG k)) (fun u hu bj => ?_) (fun u hu heq => ?_)
   ·unfold skip;rw [if_neg bj]
   ·unfold skip;rw [if_pos heq,fx]
 have hr:gM (A++x::B) x=cp (A++B):=by unfold gM;rw [he]
 obtain ⟨j,hj,hjr⟩:=He (A++B)
 have nAB:(A++B).Nodup:=(List.perm_append_comm (l₁:=B) (l₂:=A)).nodup_iff.1 (List.nodup_cons.1 CG).2
 have aeV:(gM (A++x::B) x).Nodup:=by rw [hr];exact (nC _).nodup_iff.2 nAB
 have hzm:z∈gM (A++x::B) x:=by
  rw [hr,GJ]
  rcases List.mem_append.1 BF with k | k
  ·exact List.mem_append_right _ k
  ·exact List.mem_append_left _ k
 have c3:kf (iA (gM (A++x::B) x)) (A++B):=by
  have:=Be aeV (List.ne_nil_of_mem hzm)
  generalize iA (gM (A++x::B) x)=g at *
  rw [hr,hjr] at this
  exact P9 this
 exact Mj (kf.BL c3) c2 z BF
def sg(d:aj)(x:ae):ae:=(nr d x).getD zD
def ph(d:aj)(x:ae):ae:=(GM d x).getD zD
theorem Bg{d:aj}(h:Rw d.1){v:ai}{x:ae}(hv:v∈d.1)(hx:x∈v.2.1):nr d x=dw v.2.1 x 1:=by
 unfold nr ct
 rw [mI h hv hx]
 show dw (bJ d v.1) x 1=_
 rw [jD h.s hv]
theorem ss{d:aj}(h:Rw d.1){v:ai}{x:ae}(hv:v∈d.1)(hx:x∈v.2.1):sg d x=iA v.2.1 x:=by
 unfold sg iA;rw [Bg h hv hx]
theorem Jc{d:aj}(h:Rw d.1){x:ae}(hx:x∈av d.1):nr d x=some (sg d x):=by
 obtain ⟨v,hv,kl⟩:=bz.1 hx
 have:nr d x=some (iA v.2.1 x):=by
  rw [Bg h hv kl]
  unfold iA dw
  rw [if_pos kl]
  have hp:0<v.2.1.length:=List.length_pos_of_mem kl
  rw [List.getElem?_eq_getElem (Nat.mod_lt _ hp)];rfl
 rw [ss h hv kl,this]
theorem Sp{d:aj}(h:Rw d.1){x:ae}(hx:x∈av d.1):sg d x∈av d.1:=by
 obtain ⟨v,hv,kl⟩:=bz.1 hx
 rw [ss h hv kl]
 exact bz.2 ⟨v,hv,nF (h.ring hv) kl⟩
theorem Qa{d:aj}(h:Rw d.1){x y:ae}(hx:x∈av d.1)(hy:y∈av d.1)(he:sg d x=sg d y):x=y:=by
 obtain ⟨v,hv,kl⟩:=bz.1 hx
 obtain ⟨w,hw,hyw⟩:=bz.1 hy
 rw [ss h hv kl,ss h hw hyw] at he
 have h1:=nF (h.ring hv) kl
 have h2:=nF (h.ring hw) hyw
 rw [←he] at h2
 have hwv:=h.one hv hw h1 h2
 subst hwv
 exact Mk (h.ring hw) kl hyw he
theorem oO{d:aj}(h:Rw d.1){x z:ae}(hx:x∈av d.1)(hz:z∈av (aD d x).1):sg (aD d x) z=skip x (sg d) z:=by
 obtain ⟨p,q⟩:=eV h hx
 obtain ⟨v,hv,kl⟩:=bz.1 hx
 have hzd:z∈av d.1:=p.mem_iff.2 (List.mem_cons_of_mem _ hz)
 have hzx:z≠x:=fun k=>(List.nodup_cons.1 (p.nodup_iff.1 h.n)).1 (k▸hz)
 obtain ⟨w,hw,Rb⟩:=bz.1 hz
 have hr:=jE h hv kl
 have Ih:w∈d.1.map (q8 v.1 (gM v.2.1 x)):=by rw [hr] at hw;exact hw
 obtain ⟨u,hu,Wv⟩:=List.mem_map.1 Ih
 rw [ss q hw Rb]
 by_cases Rc:u.1=v.1
 ·have Rc:u=v:=by
   have h1:=nE h.s hv
   have h2:=nE h.s hu
   rw [Rc,h1] at h2
   exact (Option.some.inj h2).symm
  subst Rc
  have lQ:w.2.1=gM u.2.1 x:=by rw [←Wv];unfold q8;rw [if_pos rfl]
  rw [lQ] at Rb ⊢
  have hzu:z∈u.2.1:=(rl kl (h.ring hu)).mem_iff.2 (List.mem_cons_of_mem _ Rb)
  rw [Ml (h.ring hu) kl hzu hzx]
  unfold skip
  rw [ss h hu hzu,ss h hu kl]
 ·have lQ:w=u:=by rw [←Wv];unfold q8;rw [if_neg Rc]
  subst lQ
  unfold skip
  rw [ss h hu Rb,if_neg]
  intro k
  have:=nF (h.ring hu) Rb
  rw [k] at this
  exact Rc (congrArg Prod.fst (h.one hv hu kl this))
theorem Hh{d e:aj}(h:d.1=e.1)(x:ae):nr d x=nr e x:=by
 obtain ⟨a,b⟩:=d
 obtain ⟨c,f⟩:=e
 simp only at h
 subst h
 rfl
theorem oP{x:ae}(h:x.2=0∨x.2=1):au (au x)=x:=by
 obtain ⟨x1,x2⟩:=x
 simp only at h
 rcases h with rfl | rfl<;>rfl
theorem Wf.side{d:aj}(h:Wf d){x:ae}(hx:x∈av d.1):x.2=0∨x.2=1:=by
 obtain ⟨e,_,_,k⟩:=dP.1 (h.pd.mem_iff.1 hx);exact k
theorem Wf.other{d:aj}(h:Wf d){x:ae}(hx:x∈av d.1):au x∈av d.1:=by
 obtain ⟨e,he,h1,h2⟩:=dP.1 (h.pd.mem_iff.1 hx)
 refine h.pd.mem_iff.2 (dP.2 ⟨e,he,h1,?_⟩)
 obtain ⟨_,k⟩:=rr h2
 rcases k with ⟨_,k⟩ | ⟨_,k⟩
 ·exact .inr k
 ·exact .inl k
theorem Hi{d:aj}{x:ae}(hx:x∈av d.1):(ct d x).isSome=true:=by
 obtain ⟨v,hv,kl⟩:=bz.1 hx
 unfold ct GK
 rw [Option.isSome_map,List.find?_isSome]
 exact ⟨v,hv,by simpa using kl⟩
theorem qx{d:aj}{x:ae}(hx:x∈av d.1):ph d x=sg d (au x):=by
 unfold ph GM sg
 rw [if_pos (Hi hx)]
theorem Hj{d:aj}(h:Wf d){x:ae}(hx:x∈av d.1):GM d x=some (ph d x):=by
 rw [qx hx]
 unfold GM
 rw [if_pos (Hi hx)]
 exact Jc h.rw (h.other hx)
theorem Qb{d:aj}(h:Wf d){x:ae}(hx:x∈av d.1):ph d x∈av d.1:=by
 rw [qx hx];exact Sp h.rw (h.other hx)
theorem Vp{d:aj}(h:Wf d){x y:ae}(hx:x∈av d.1)(hy:y∈av d.1)(he:ph d x=ph d y):x=y:=by
 rw [qx hx,qx hy] at he
 have:=Qa h.rw (h.other hx) (h.other hy) he
 rw [←oP (h.side hx),←oP (h.side hy),this]
theorem Hk{α:Type}[DecidableEq α]:∀{l D:List α},l.Nodup→(∀x∈l,x∈D)→l.length≤D.length
 | [],_,_,_=>Nat.zero_le _
 | x::r,D,hn,hs=>by
  have h1:=List.nodup_cons.1 hn
  have hx:=hs x (List.mem_cons_self ..)
  have ih:=Hk (l:=r) (D:=D.erase x) h1.2 (fun y hy=>(List.mem_erase_of_ne (fun k=>h1.1 (by rw [←k];exact hy))).2 (hs y (List.mem_cons_of_mem _ hy)))
  rw [List.length_erase_of_mem hx] at ih
  have:=List.length_pos_of_mem hx
  simp;omega
theorem Qc{d:aj}(h:Wf d){out:List ae}{y:ae}(hn:out.Nodup)(hs:∀z∈out,z∈av d.1)(hp:Path (ph d) out y):y∉out.tail:=fun hy=>by
 cases out with
 | nil=>simp at hy
 | cons x r =>
  have hy:y∈r:=hy
  obtain ⟨p,q,rfl⟩:=List.append_of_mem hy
  have key:∀(x:ae) (p:List ae),Path (ph d) (x::(p++y::q)) y→(x::(p++y::q)).Nodup→(∀z∈x::(p++y::q),z∈av d.1)→False:=by
   intro x p
   induction p generalizing x with
   | nil =>
    intro hp hn hs
    have h1:ph d x=y:=hp.1
    obtain ⟨l,h2,h3⟩:=Dl hp.2 (by simp)
    have:=Vp h (hs x (by simp)) (hs l (List.mem_cons_of_mem _ h2)) (h1.trans h3.symm)
    subst this
    exact (List.nodup_cons.1 hn).1 h2
   | cons u p ih =>
    intro hp hn hs
    exact ih u hp.2 (List.nodup_cons.1 hn).2 (fun z hz=>hs z (List.mem_cons_of_mem _ hz))
  exact key x p hp hn hs
theorem Wf.Hl{d:aj}(h:Wf d):(av d.1).length≤80:=by
 have h2:=h.pd.length_eq
 have h3:=h.ne
 have:(ends d.2).length=2 * d.2.length:=by
  clear h2 h3 h
  generalize d.2=l
  induction l with
  | nil=>rfl
  | cons e r ih=>rw [jC];simp [ih];omega
 omega
theorem Bh{d:aj}(h:Wf d)(x:ae):∀(n:Nat) (y:ae) (r:List ae),(x::r).length+n=82→(x::r).Nodup→(∀z∈x::r,z∈av d.1)→Path (ph d) (x::r) y→y∈av d.1 →
  ∃r',qn d x n y (x::r)=x::r'∧(x::r').Nodup∧(∀z∈x::r',z∈av d.1)∧kf (ph d) (x::r')
 | 0,y,r,hl,hn,hs,hp,hy=>by
  have:=Hk hn hs
  have:=h.Hl
  omega
 | n+1,y,r,hl,hn,hs,hp,hy=>by
  unfold qn
  by_cases he:y=x
  ·subst he
   rw [if_pos rfl]
   exact ⟨r,rfl,hn,hs,hp⟩
  ·rw [if_neg he]
   have hyr:y∉x::r:=fun k=>by
    rcases List.mem_cons.1 k with k | k
    ·exact he k
    ·exact Qc h hn hs hp k
   have e:(GM d y).getD zD=ph d y:=rfl
   rw [e]
   refine Bh h x n (ph d y) (r++[y]) (by simp at hl ⊢;omega) ?_ (fun z hz => ?_) ?_ (Qb h hy)
   ·show ((x::r)++[y]).Nodup
    refine List.nodup_append.2 ⟨hn,by simp,fun a ha b hb => ?_⟩
    simp at hb;subst hb
    exact fun k=>hyr (k▸ha)
   ·have hz:z∈(x::r)++[y]:=hz
    rcases List.mem_append.1 hz with k | k
    ·exact hs z k
    ·simp at k;rw [k];exact hy
   ·show Path (ph d) ((x::r)++[y]) (ph d y)
    exact Path.app.2 ⟨hp,rfl,trivial⟩
theorem Bi{d:aj}(h:Wf d){x:ae}(hx:x∈av d.1):∃r,bf d x=x::r∧(x::r).Nodup∧(∀z∈x::r,z∈av d.1)∧kf (ph d) (x::r):=by
 unfold bf
 rw [Hj h hx]
 exact Bh h x 81 (ph d x) [] rfl (by simp) (fun z hz=>by simp at hz;rw [hz];exact hx) ⟨rfl,trivial⟩ (Qb h hx)
theorem qy{d:aj}(h:Wf d):∀(l:List ae) (out:List (List ae)),(∀x∈l,x∈av d.1)→(∀c∈out,kf (ph d) c)→out.flatten.Nodup→(∀x∈out.flatten,x∈av d.1) →
  (∀c∈gS d l out out.flatten,kf (ph d) c)∧(gS d l out out.flatten).flatten.Nodup∧(∀x∈(gS d l out out.flatten).flatten,x∈av d.1)∧(∀x,x∈l∨x∈out.flatten→x∈(gS d l out out.flatten).flatten)
 | [],out,_,h1,h2,h3=>⟨h1,h2,h3,fun x k=>k.resolve_left (by simp)⟩
 | x::l,out,hl,h1,h2,h3=>by
  unfold gS
  by_cases hx:x∈out.flatten
  ·rw [if_pos hx]
   obtain ⟨a,b,c,e⟩:=qy h l out (fun y hy=>hl y (List.mem_cons_of_mem _ hy)) h1 h2 h3
   refine ⟨a,b,c,fun y hy=>e y ?_⟩
   rcases hy with hy | hy
   ·rcases List.mem_cons.1 hy with rfl | hy
    ·exact .inr hx
    ·exact .inl hy
   ·exact .inr hy
  ·rw [if_neg hx]
   obtain ⟨r,t1,t2,t3,t4⟩:=Bi h (hl x (List.mem_cons_self ..))
   have ef:out.flatten++bf d x=(out++[bf d x]).flatten:=by simp
   rw [ef]
   have aeX:∀y∈bf d x,y∉out.flatten:=fun y hy k=>by
    obtain ⟨c,hc,hyc⟩:=List.mem_flatten.1 k
    rw [t1] at hy
    exact hx (List.mem_flatten.2 ⟨c,hc,t4.same (h1 c hc) hy hyc (List.mem_cons_self ..)⟩)
   obtain ⟨a,b,c,e⟩:=qy h l (out++[bf d x]) (fun y hy=>hl y (List.mem_cons_of_mem _ hy))
    (fun c hc=>by
     rcases List.mem_append.1 hc with k | k
     ·exact h1 c k
     ·simp at k;rw [k,t1];exact t4)
    (by
     rw [←ef]
     refine List.nodup_append.2 ⟨h2,by rw [t1];exact t2,fun u hu w hw k=>aeX w hw (k▸hu)⟩)
    (fun y hy=>by
     rw [←ef] at hy
     rcases List.mem_append.1 hy with k | k
     ·exact h3 y k
     ·rw [t1] at k;exact t3 y k)
   refine ⟨a,b,c,fun y hy=>e y ?_⟩
   rw [←ef]
   rcases hy with hy | hy
   ·rcases List.mem_cons.1 hy with rfl | hy
    ·exact .inr (List.mem_append_right _ (by rw [t1];simp))
    ·exact .inl hy
   ·exact .inr (List.mem_append_left _ hy)
theorem kH:∀l:List ah,dZ l=ends l
 | []=>rfl
 | e::r=>by rw [jC,dZ,kH r]
theorem cI{d:aj}(h:Wf d):Hg (ph d) (av d.1) (dF d):=by
 obtain ⟨a,b,c,e⟩:=qy h (dZ d.2) [] (fun x hx=>h.pd.mem_iff.2 (by rw [←kH];exact hx)) (by simp) (by simp) (by simp)
 refine ⟨a,(List.perm_ext_iff_of_nodup b h.rw.n).2 fun x=>⟨c x,fun hx=>e x (.inl (by rw [kH];exact h.pd.mem_iff.1 hx))⟩⟩
end Go.Vs
namespace Go.Vs
open Go.Proofs Go.Cy
def dQ(d:aj)(x:ID):aj:=bw (aD (aD d (x,0)) (x,1)) zI x
theorem Jd{d:aj}(h:Wf d)(x y:ae)(e:ID):(bw (aD (aD d x) y) zI e).1=(aD (aD d x) y).1:=uQ (jF (jF h.gv x) y)
theorem Bj(x:ID):au (x,0)=(x,1):=rfl
theorem Qd(x:ID):au (x,1)=(x,0):=rfl
structure bS(d':aj)(x:ID):Prop where
 wf:Wf d'
 e:(aW d'.2 x).isSome=true
theorem bS.x0{d':aj}{x:ID}(h:bS d' x):(x,0)∈av d'.1:=h.wf.mJ h.e (.inl rfl)
theorem bS.x1{d':aj}{x:ID}(h:bS d' x):(x,1)∈av d'.1:=h.wf.mJ h.e (.inr rfl)
theorem bS.p1{d':aj}{x:ID}(h:bS d' x):(av d'.1).Perm ((x,0)::av (aD d' (x,0)).1)∧Rw (aD d' (x,0)).1:=eV h.wf.rw h.x0
theorem bS.Ww{d':aj}{x:ID}(h:bS d' x):(x,1)∈av (aD d' (x,0)).1:=by
 rcases List.mem_cons.1 (h.p1.1.mem_iff.1 h.x1) with k | k
 ·cases k
 ·exact k
theorem bS.p2{d':aj}{x:ID}(h:bS d' x):(av (aD d' (x,0)).1).Perm ((x,1)::av (aD (aD d' (x,0)) (x,1)).1)∧Rw (aD (aD d' (x,0)) (x,1)).1:=eV h.p1.2 h.Ww
theorem bS.v{d':aj}{x:ID}(h:bS d' x):(dQ d' x).1=(aD (aD d' (x,0)) (x,1)).1:=Jd h.wf _ _ _
theorem bS.w{d':aj}{x:ID}(h:bS d' x):Wf (dQ d' x):=h.wf.cut h.e
theorem bS.p{d':aj}{x:ID}(h:bS d' x):(av d'.1).Perm ((x,0)::(x,1)::av (dQ d' x).1):=by
 rw [h.v];exact h.p1.1.trans (List.Perm.cons _ h.p2.1)
theorem bS.sg{d':aj}{x:ID}(h:bS d' x){z:ae}(hz:z∈av (dQ d' x).1):sg (dQ d' x) z=skip (x,1) (skip (x,0) (sg d')) z:=by
 have e1:Vs.sg (dQ d' x) z=Vs.sg (aD (aD d' (x,0)) (x,1)) z:=by unfold Vs.sg;rw [Hh h.v]
 rw [h.v] at hz
 have wN:z∈av (aD d' (x,0)).1:=h.p2.1.mem_iff.2 (List.mem_cons_of_mem _ hz)
 rw [e1,oO h.p1.2 h.Ww hz]
 unfold skip
 rw [oO h.wf.rw h.x0 wN,oO h.wf.rw h.x0 h.Ww]
 rfl
theorem bS.ph{d':aj}{x:ID}(h:bS d' x){z:ae}(hz:z∈av (dQ d' x).1):ph (dQ d' x) z=uR (ph d') (x,0) (x,1) z:=by
 have MC:z∈av d'.1:=h.p.mem_iff.2 (List.mem_cons_of_mem _ (List.mem_cons_of_mem _ hz))
 have ho:=h.w.other hz
 have my:au z∈av d'.1:=h.p.mem_iff.2 (List.mem_cons_of_mem _ (List.mem_cons_of_mem _ ho))
 have nd:=h.p.nodup_iff.1 h.wf.rw.n
 have IB:au z≠(x,1):=fun k=>(List.nodup_cons.1 (List.nodup_cons.1 nd).2).1 (k▸ho)
 rw [qx hz,h.sg ho]
 unfold uR
 rw [qx MC,qx h.x0,qx h.x1,Bj,Qd]
 generalize hW:au z=w at *
 have inj:Vs.sg d' (x,1)=(x,0)→Vs.sg d' w≠(x,0):=fun k1 k2=>IB (Qa h.wf.rw my h.x1 (k2.trans k1.symm))
 unfold skip
 by_cases c1:Vs.sg d' w=(x,0)
 ·rw [if_pos c1]
  by_cases c2:Vs.sg d' (x,0)=(x,1)
  ·rw [if_pos c2,if_pos c2]
   by_cases c3:Vs.sg d' (x,1)=(x,0)
   ·exact absurd c1 (inj c3)
   ·rw [if_neg c3,if_pos c1]
  ·rw [if_neg c2,if_neg c2,if_pos c1]
 ·rw [if_neg c1]
  by_cases c2:Vs.sg d' w=(x,1)
  ·rw [if_pos c2,if_neg c1]
  ·rw [if_neg c2,if_neg c1]
def al(l:List ai):Nat:=l.countP fun v=>v.2.1.isEmpty
theorem Mm{row:List ae}(hn:row.Nodup){x:ae}(hx:x∈row):iA row x=x↔row.length=1:=by
 obtain ⟨i,hi⟩:=List.getElem?_of_mem hx
 have mC:=(List.getElem?_eq_some_iff.1 hi).1
 have hp:0<row.length:=by omega
 rw [uS hn hi,List.getElem?_eq_getElem (Nat.mod_lt _ hp)]
 constructor
 ·intro h
  have h1:row[(i+1) % row.length]? = some x:=by rw [List.getElem?_eq_getElem (Nat.mod_lt _ hp)];exact congrArg some (by simpa using h)
  have h2:=Dh hn h1 hi
  by_cases c:i+1<row.length
  ·rw [Nat.mod_eq_of_lt c] at h2;omega
  ·have:i+1=row.length:=by omega
   rw [this,Nat.mod_self] at h2;omega
 ·intro h
  have h0:i=0:=by omega
  subst h0
  have:(0+1) % row.length=0:=by rw [h]
  simp only [this]
  obtain ⟨h1,h2⟩:=List.getElem?_eq_some_iff.1 hi
  simpa using h2
theorem Bk{d:aj}(h:Rw d.1){x:ae}(hx:x∈av d.1):al (aD d x).1=al d.1+if sg d x=x then 1 else 0:=by
 obtain ⟨v,hv,kl⟩:=bz.1 hx
 obtain ⟨a,b,h1,_,_,h2⟩:=tj h.s hv
 have e1:(aD d x).1=a++(v.1,(gM v.2.1 x,v.2.2))::b:=by rw [jE h hv kl];exact h2 _
 have p:=rl kl (h.ring hv)
 have hl:=p.length_eq
 have v0:v.2.1.isEmpty=false:=by
  cases hq:v.2.1 with
  | nil=>rw [hq] at kl;simp at kl
  | cons _ _=>rfl
 have v1:(gM v.2.1 x).isEmpty=decide (sg d x=x):=by
  rw [Bool.eq_iff_iff,List.isEmpty_iff,decide_eq_true_eq,ss h hv kl,Mm (h.ring hv) kl,←List.length_eq_zero_iff]
  simp at hl;omega
 rw [e1]
 conv=>rhs;rw [h1]
 unfold al
 rw [List.countP_append,List.countP_append,List.countP_cons,List.countP_cons]
 simp only [v0,v1]
 by_cases c:sg d x=x
 ·simp [c];omega
 ·simp [c]
def ft(d:aj):Nat:=(dF d).length+al d.1
def Sq(d:aj)(x y:ae):Prop:=∃c∈dF d,x∈c∧y∈c
theorem bS.al{d':aj}{x:ID}(h:bS d' x):Vs.al (dQ d' x).1=Vs.al d'.1+(if Vs.ph d' (x,1)=(x,0) then 1 else 0)+(if Vs.ph d' (x,0)=(x,1)∨(Vs.ph d' (x,0)=(x,0)∧Vs.ph d' (x,1)=(x,1)) then 1 else 0):=by
 rw [h.v,Bk h.p1.2 h.Ww,Bk h.wf.rw h.x0]
 have e0:Vs.ph d' (x,0)=Vs.sg d' (x,1):=qx h.x0
 have e1:Vs.ph d' (x,1)=Vs.sg d' (x,0):=qx h.x1
 rw [e0,e1,oO h.wf.rw h.x0 h.Ww]
 unfold skip
 congr 1
 by_cases c:Vs.sg d' (x,1)=(x,0)
 ·rw [if_pos c]
  by_cases k:Vs.sg d' (x,0)=(x,1)
  ·rw [if_pos k,if_pos (.inr ⟨c,k⟩)]
  ·rw [if_neg k,if_neg]
   rintro (m | ⟨_,m⟩)
   ·rw [c] at m;cases m
   ·exact k m
 ·rw [if_neg c]
  by_cases k:Vs.sg d' (x,1)=(x,1)
  ·rw [if_pos k,if_pos (.inl k)]
  ·rw [if_neg k,if_neg]
   rintro (m | ⟨m,_⟩)
   ·exact k m
   ·exact c m
theorem Zw(x:ID):((x,0):ae)≠(x,1):=fun k=>by cases k
theorem bS.same{d':aj}{x:ID}(h:bS d' x)(hf:Sq d' (x,0) (x,1)):ft (dQ d' x)=ft d'+1∧(dF (dQ d' x)).length+1=(dF d').length+(if Vs.ph d' (x,0)=(x,1) then 0 else 1)+(if Vs.ph d' (x,1)=(x,0) then 0 else 1):=by
 obtain ⟨c,hc,h0,h1⟩:=hf
 have nd:=h.p.nodup_iff.1 h.wf.rw.n
 have dec:Hg (Vs.ph d') ((x,0)::(x,1)::av (dQ d' x).1) (dF d'):=⟨(cI h.wf).c,(cI h.wf).p.trans h.p⟩
 obtain ⟨cs,k1,k2⟩:=Hg.P6 (Zw x) nd dec (fun z hz=>h.ph hz) hc h0 h1
 have k3:=Hg.count (h.w.rw.n) (cI h.w) k1
 have k4:=h.al
 have Bc:=(cI h.wf).c c hc
 have n0:¬(Vs.ph d' (x,0)=(x,0)):=fun k=>by
  obtain ⟨n,hn⟩:=Bc.reach h0 h1
  have:∀n,it (Vs.ph d') n (x,0)=(x,0):=fun n=>by
   induction n with
   | zero=>rfl
   | succ n ih=>show it (Vs.ph d') n (Vs.ph d' (x,0))=_;rw [k];exact ih
  rw [this] at hn;cases hn
 refine ⟨?_,by rw [k3];exact k2⟩
 unfold ft
 rw [k3,k4]
 by_cases c0:Vs.ph d' (x,0)=(x,1)
 ·rw [if_pos c0] at k2
  rw [if_pos (Or.inl c0)]
  by_cases c1:Vs.ph d' (x,1)=(x,0)
  ·rw [if_pos c1] at k2 ⊢;omega
  ·rw [if_neg c1] at k2 ⊢;omega
 ·rw [if_neg c0] at k2
  rw [if_neg (show ¬(Vs.ph d' (x,0)=(x,1)∨(Vs.ph d' (x,0)=(x,0)∧Vs.ph d' (x,1)=(x,1))) from fun m=>m.elim c0 fun m=>n0 m.1)]
  by_cases c1:Vs.ph d' (x,1)=(x,0)
  ·rw [if_pos c1] at k2 ⊢;omega
  ·rw [if_neg c1] at k2 ⊢;omega
theorem bS.diff{d':aj}{x:ID}(h:bS d' x)(hf:¬Sq d' (x,0) (x,1)):ft (dQ d' x)+1=ft d':=by
 have hm:(x,0)∈(dF d').flatten:=(cI h.wf).p.mem_iff.2 h.x0
 obtain ⟨c,hc,h0⟩:=List.mem_flatten.1 hm
 have h1:(x,1)∉c:=fun k=>hf ⟨c,hc,h0,k⟩
 have nd:=h.p.nodup_iff.1 h.wf.rw.n
 have dec:Hg (Vs.ph d') ((x,0)::(x,1)::av (dQ d' x).1) (dF d'):=⟨(cI h.wf).c,(cI h.wf).p.trans h.p⟩
 obtain ⟨cs,k1,k2⟩:=Hg.P8 (Zw x) nd dec (fun z hz=>h.ph hz) hc h0 h1
 have k3:=Hg.count (h.w.rw.n) (cI h.w) k1
 have k4:=h.al
 have Bc:=(cI h.wf).c c hc
 have n0:¬(Vs.ph d' (x,0)=(x,1)):=fun k=>h1 (k▸Bc.step h0)
 have n1:¬(Vs.ph d' (x,1)=(x,0)):=fun k=>by
  have Q0:(x,1)∈(dF d').flatten:=(cI h.wf).p.mem_iff.2 h.x1
  obtain ⟨c2,tw,h2⟩:=List.mem_flatten.1 Q0
  have:=((cI h.wf).c c2 tw).step h2
  rw [k] at this
  exact hf ⟨c2,tw,this,h2⟩
 unfold ft
 rw [k3,k4,if_neg n1]
 by_cases c:Vs.ph d' (x,0)=(x,0)∧Vs.ph d' (x,1)=(x,1)
 ·rw [if_pos c] at k2;rw [if_pos (.inr c)];omega
 ·rw [if_neg c] at k2;rw [if_neg (fun m=>m.elim n0 c)];omega
end Go.Vs
namespace Go.Vs
open Go.Proofs Go.Cy
def Je(d:aj)(a b:ID):Prop:=∃z∈av d.1,ct d z=some a∧ct d (au z)=some b
inductive cV (d:aj):ID→ID→Prop
 | refl (a:ID):cV d a a
 | tail {a b c:ID}:cV d a b→Je d b c→cV d a c
theorem cV.trans{d:aj}{a b c:ID}(h:cV d a b)(k:cV d b c):cV d a c:=by
 induction k with
 | refl=>exact h
 | tail _ j ih=>exact ih.tail j
theorem Je.symm{d:aj}(hw:Wf d){a b:ID}(h:Je d a b):Je d b a:=by
 obtain ⟨z,hz,h1,h2⟩:=h
 exact ⟨au z,hw.other hz,h2,by rw [oP (hw.side hz)];exact h1⟩
theorem Je.conn{d:aj}{a b:ID}(h:Je d a b):cV d a b:=(cV.refl a).tail h
theorem cV.symm{d:aj}(hw:Wf d){a b:ID}(h:cV d a b):cV d b a:=by
 induction h with
 | refl=>exact .refl _
 | tail _ j ih=>exact (j.symm hw).conn.trans ih
structure Bl(d:aj)(R:List ID):Prop where
 n:R.Nodup
 v:∀r∈R,∃v∈d.1,v.1=r
 i:∀r∈R,∀s∈R,cV d r s→r=s
 c:∀v∈d.1,∃r∈R,cV d v.1 r
theorem EN{d:aj}(hw:Wf d):∀{R R':List ID},R.Nodup→(∀r∈R,∀s∈R,cV d r s→r=s)→(∀r∈R,∃s∈R',cV d r s)→R.length≤R'.length
 | [],_,_,_,_=>Nat.zero_le _
 | r::R,R',hn,hi,hc=>by
  obtain ⟨s,hs,Us⟩:=hc r (List.mem_cons_self ..)
  have h1:=List.nodup_cons.1 hn
  have ih:=EN hw (R:=R) (R':=R'.erase s) h1.2 (fun a ha b hb=>hi a (List.mem_cons_of_mem _ ha) b (List.mem_cons_of_mem _ hb)) (fun a ha=>by
   obtain ⟨t,ht,Cx⟩:=hc a (List.mem_cons_of_mem _ ha)
   refine ⟨t,(List.mem_erase_of_ne (fun k => ?_)).2 ht,Cx⟩
   subst k
   have:=hi a (List.mem_cons_of_mem _ ha) r (List.mem_cons_self ..) (Cx.trans (Us.symm hw))
   exact h1.1 (this▸ha))
  rw [List.length_erase_of_mem hs] at ih
  have:=List.length_pos_of_mem hs
  simp;omega
theorem Bl.len{d:aj}(hw:Wf d){R R':List ID}(h:Bl d R)(h':Bl d R'):R.length=R'.length:=by
 refine Nat.le_antisymm (EN hw h.n h.i fun r hr => ?_) (EN hw h'.n h'.i fun r hr => ?_)
 ·obtain ⟨v,hv,rfl⟩:=h.v r hr;exact h'.c v hv
 ·obtain ⟨v,hv,rfl⟩:=h'.v r hr;exact h.c v hv
theorem Dm{d:aj}(hw:Wf d){z:ae}(hz:z∈av d.1):∃v∈d.1,z∈v.2.1∧ct d z=some v.1:=by
 obtain ⟨v,hv,Wx⟩:=bz.1 hz
 exact ⟨v,hv,Wx,mI hw.rw hv Wx⟩
theorem Bm{d:aj}(h:Rw d.1){x z:ae}(hx:x∈av d.1)(hz:z∈av (aD d x).1):ct (aD d x) z=ct d z:=by
 obtain ⟨p,q⟩:=eV h hx
 obtain ⟨v,hv,kl⟩:=bz.1 hx
 obtain ⟨w,hw,Rb⟩:=bz.1 hz
 have hr:=jE h hv kl
 have Ih:w∈d.1.map (q8 v.1 (gM v.2.1 x)):=by rw [hr] at hw;exact hw
 obtain ⟨u,hu,Wv⟩:=List.mem_map.1 Ih
 have bO:w.1=u.1:=by rw [←Wv];exact qu _ _ _
 have hzu:z∈u.2.1:=by
  by_cases Rc:u.1=v.1
  ·have Rc:u=v:=by
    have h1:=nE h.s hv
    have h2:=nE h.s hu
    rw [Rc,h1] at h2
    exact (Option.some.inj h2).symm
   subst Rc
   have lQ:w.2.1=gM u.2.1 x:=by rw [←Wv];unfold q8;rw [if_pos rfl]
   rw [lQ] at Rb
   exact (rl kl (h.ring hu)).mem_iff.2 (List.mem_cons_of_mem _ Rb)
  ·have lQ:w=u:=by rw [←Wv];unfold q8;rw [if_neg Rc]
   rw [←lQ];exact Rb
 show GK (aD d x).1 z=GK d.1 z
 rw [mI q hw Rb,mI h hu hzu,bO]
theorem bS.at{d':aj}{x:ID}(h:bS d' x){z:ae}(hz:z∈av (dQ d' x).1):ct (dQ d' x) z=ct d' z:=by
 have e:ct (dQ d' x) z=ct (aD (aD d' (x,0)) (x,1)) z:=by unfold ct;rw [h.v]
 rw [h.v] at hz
 have wN:z∈av (aD d' (x,0)).1:=h.p2.1.mem_iff.2 (List.mem_cons_of_mem _ hz)
 rw [e,Bm h.p1.2 h.Ww hz,Bm h.wf.rw h.x0 wN]
theorem bS.sub{d':aj}{x:ID}(h:bS d' x){z:ae}(hz:z∈av (dQ d' x).1):z∈av d'.1:=h.p.mem_iff.2 (List.mem_cons_of_mem _ (List.mem_cons_of_mem _ hz))
theorem bS.adj{d':aj}{x:ID}(h:bS d' x){a b:ID}(k:Je (dQ d' x) a b):Je d' a b:=by
 obtain ⟨z,hz,h1,h2⟩:=k
 exact ⟨z,h.sub hz,by rw [←h.at hz];exact h1,by rw [←h.at (h.w.other hz)];exact h2⟩
theorem bS.conn{d':aj}{x:ID}(h:bS d' x){a b:ID}(k:cV (dQ d' x) a b):cV d' a b:=by
 induction k with
 | refl=>exact .refl _
 | tail _ j ih=>exact ih.tail (h.adj j)
theorem bS.aeZ{d':aj}{x u w:ID}(h:bS d' x)(hu:ct d' (x,0)=some u)(hw:ct d' (x,1)=some w){a b:ID}(k:Je d' a b):Je (dQ d' x) a b∨(a=u∧b=w)∨(a=w∧b=u):=by
 obtain ⟨z,hz,h1,h2⟩:=k
 rcases List.mem_cons.1 (h.p.mem_iff.1 hz) with rfl | BF
 ·rw [Bj] at h2
  rw [hu] at h1;rw [hw] at h2
  cases h1;cases h2
  exact .inr (.inl ⟨rfl,rfl⟩)
 rcases List.mem_cons.1 BF with rfl | HJ
 ·rw [Qd] at h2
  rw [hw] at h1;rw [hu] at h2
  cases h1;cases h2
  exact .inr (.inr ⟨rfl,rfl⟩)
 ·exact .inl ⟨z,HJ,by rw [h.at HJ];exact h1,by rw [h.at (h.w.other HJ)];exact h2⟩
theorem bS.Qe{d':aj}{x u w:ID}(h:bS d' x)(hu:ct d' (x,0)=some u)(hw:ct d' (x,1)=some w){a b:ID}(k:cV d' a b) :
  cV (dQ d' x) a b∨(cV (dQ d' x) a u∧cV (dQ d' x) w b)∨(cV (dQ d' x) a w∧cV (dQ d' x) u b):=by
 induction k with
 | refl=>exact .inl (.refl _)
 | tail _ j ih =>
  rcases h.aeZ hu hw j with j | ⟨rfl,rfl⟩ | ⟨rfl,rfl⟩
  ·rcases ih with k | ⟨k,m⟩ | ⟨k,m⟩
   ·exact .inl (k.tail j)
   ·exact .inr (.inl ⟨k,m.tail j⟩)
   ·exact .inr (.inr ⟨k,m.tail j⟩)
  ·rcases ih with k | ⟨k,m⟩ | ⟨k,m⟩
   ·exact .inr (.inl ⟨k,.refl _⟩)
   ·exact .inr (.inl ⟨k,.refl _⟩)
   ·exact .inl k
  ·rcases ih with k | ⟨k,m⟩ | ⟨k,m⟩
   ·exact .inr (.inr ⟨k,.refl _⟩)
   ·exact .inl k
   ·exact .inr (.inr ⟨k,.refl _⟩)
theorem bS.ids{d':aj}{x:ID}(h:bS d' x):(dQ d' x).1.map (·.1)=d'.1.map (·.1):=by
 rw [h.v]
 unfold aD Vs.b6
 simp only [List.map_map]
 refine List.map_congr_left fun v hv => ?_
 simp only [Function.comp,qu]
theorem bS.Mn{d':aj}{x:ID}(h:bS d' x){r:ID}:(∃v∈(dQ d' x).1,v.1=r)↔∃v∈d'.1,v.1=r:=by
 have e:∀l:List ai,(∃v∈l,v.1=r)↔r∈l.map (·.1):=fun l=>by rw [List.mem_map]
 rw [e,e,h.ids]
theorem bS.Zx{d':aj}{x u w:ID}(h:bS d' x)(hu:ct d' (x,0)=some u)(hw:ct d' (x,1)=some w)(k:cV (dQ d' x) u w){R:List ID}(hr:Bl d' R):Bl (dQ d' x) R:=by
 have key:∀{a b:ID},cV d' a b→cV (dQ d' x) a b:=fun {a b} m=>by
  rcases h.Qe hu hw m with m | ⟨m,q⟩ | ⟨m,q⟩
  ·exact m
  ·exact (m.trans k).trans q
  ·exact (m.trans (k.symm h.w)).trans q
 refine ⟨hr.n,fun r Cd=>h.Mn.2 (hr.v r Cd),fun r Cd s hs m=>hr.i r Cd s hs (h.conn m),fun v hv => ?_⟩
 obtain ⟨v',zj,he⟩:=h.Mn.1 ⟨v,hv,rfl⟩
 obtain ⟨r,h1,h2⟩:=hr.c v' zj
 exact ⟨r,h1,by rw [←he];exact key h2⟩
theorem bS.Sr{d':aj}{x:ID}(h:bS d' x):∃u w,ct d' (x,0)=some u∧ct d' (x,1)=some w∧(∃v∈d'.1,v.1=u)∧∃v∈d'.1,v.1=w:=by
 obtain ⟨v,hv,_,h1⟩:=Dm h.wf h.x0
 obtain ⟨v2,wL,_,h2⟩:=Dm h.wf h.x1
 exact ⟨v.1,v2.1,h1,h2,⟨v,hv,rfl⟩,⟨v2,wL,rfl⟩⟩
theorem bS.Zy{d':aj}{x u w:ID}(h:bS d' x)(hu:ct d' (x,0)=some u)(hw:ct d' (x,1)=some w)(k:¬cV (dQ d' x) u w){R:List ID}(hr:Bl d' R):∃R2,Bl (dQ d' x) R2∧R2.length=R.length+1:=by
 have uv:∃v∈d'.1,v.1=u:=by
  obtain ⟨v,hv,_,h1⟩:=Dm h.wf h.x0
  rw [hu] at h1;cases h1;exact ⟨v,hv,rfl⟩
 have wv:∃v∈d'.1,v.1=w:=by
  obtain ⟨v,hv,_,h1⟩:=Dm h.wf h.x1
  rw [hw] at h1;cases h1;exact ⟨v,hv,rfl⟩
 have uw:cV d' u w:=Je.conn ⟨(x,0),h.x0,hu,by rw [Bj];exact hw⟩
 obtain ⟨v0,Uf,hvu⟩:=uv
 obtain ⟨r,Cd,hur⟩:=hr.c v0 Uf
 rw [hvu] at hur
 have sep:∀s∈R.erase r,s∈R∧¬cV d' s u∧¬cV d' s w:=fun s hs=>by
  have h1:=List.mem_of_mem_erase hs
  have h2:s≠r:=fun e=>by
   subst e
   exact absurd hs (List.Nodup.not_mem_erase hr.n)
  exact ⟨h1,fun m=>h2 (hr.i s h1 r Cd (m.trans hur)),fun m=>h2 (hr.i s h1 r Cd ((m.trans (uw.symm h.wf)).trans hur))⟩
 refine ⟨u::w::R.erase r,⟨?_,?_,?_,?_⟩,?_⟩
 ·refine List.nodup_cons.2 ⟨fun m => ?_,List.nodup_cons.2 ⟨fun m=>(sep w m).2.2 (.refl _),hr.n.erase r⟩⟩
  rcases List.mem_cons.1 m with m | m
  ·exact k (m▸.refl _)
  ·exact (sep u m).2.1 (.refl _)
 ·intro s hs
  rcases List.mem_cons.1 hs with rfl | hs
  ·exact h.Mn.2 ⟨v0,Uf,hvu⟩
  rcases List.mem_cons.1 hs with rfl | hs
  ·exact h.Mn.2 wv
  ·exact h.Mn.2 (hr.v s (sep s hs).1)
 ·intro a ha b hb m
  rcases List.mem_cons.1 ha with ea | ha
  ·rcases List.mem_cons.1 hb with eb | hb
   ·rw [ea,eb]
   rcases List.mem_cons.1 hb with eb | hb
   ·exact absurd (ea▸eb▸m) k
   ·exact absurd ((h.conn (ea▸m)).symm h.wf) (sep b hb).2.1
  rcases List.mem_cons.1 ha with ea | ha
  ·rcases List.mem_cons.1 hb with eb | hb
   ·exact absurd ((ea▸eb▸m).symm h.w) k
   rcases List.mem_cons.1 hb with eb | hb
   ·rw [ea,eb]
   ·exact absurd ((h.conn (ea▸m)).symm h.wf) (sep b hb).2.2
  ·rcases List.mem_cons.1 hb with eb | hb
   ·exact absurd (eb▸h.conn m) (sep a ha).2.1
   rcases List.mem_cons.1 hb with eb | hb
   ·exact absurd (eb▸h.conn m) (sep a ha).2.2
   ·exact hr.i a (sep a ha).1 b (sep b hb).1 (h.conn m)
 ·intro v hv
  obtain ⟨v',zj,he⟩:=h.Mn.1 ⟨v,hv,rfl⟩
  obtain ⟨s,h1,h2⟩:=hr.c v' zj
  rw [he] at h2
  by_cases hsr:s=r
  ·subst hsr
   rcases h.Qe hu hw (h2.trans (hur.symm h.wf)) with m | ⟨m,_⟩ | ⟨m,_⟩
   ·exact ⟨u,by simp,m⟩
   ·exact ⟨u,by simp,m⟩
   ·exact ⟨w,by simp,m⟩
  ·have Ui:s∈R.erase r:=(List.mem_erase_of_ne hsr).2 h1
   rcases h.Qe hu hw h2 with m | ⟨_,q⟩ | ⟨_,q⟩
   ·exact ⟨s,by simp [Ui],m⟩
   ·exact absurd ((h.conn q).symm h.wf) (sep s Ui).2.2
   ·exact absurd ((h.conn q).symm h.wf) (sep s Ui).2.1
 ·have:=List.length_pos_of_mem Cd
  simp only [List.length_cons,List.length_erase_of_mem Cd];omega
theorem bS.Mo{d':aj}{x u w:ID}(h:bS d' x)(hu:ct d' (x,0)=some u)(hw:ct d' (x,1)=some w)(hf:¬Sq d' (x,0) (x,1)):cV (dQ d' x) u w:=by
 have hm:(x,0)∈(dF d').flatten:=(cI h.wf).p.mem_iff.2 h.x0
 obtain ⟨c,hc,h0⟩:=List.mem_flatten.1 hm
 have h1:(x,1)∉c:=fun k=>hf ⟨c,hc,h0,k⟩
 have Bc:=(cI h.wf).c c hc
 obtain ⟨B,k1,k2⟩:=Bc.head h0
 have hcd:∀z∈c,z∈av d'.1:=fun z hz=>(cI h.wf).p.mem_iff.1 (List.mem_flatten.2 ⟨c,hc,hz⟩)
 have cn:c.Nodup:=by
  obtain ⟨p,q,e⟩:=List.append_of_mem hc
  have:=(cI h.wf).p.nodup_iff.2 h.wf.rw.n
  rw [e] at this
  exact (List.nodup_append.1 ((fR p q c).nodup_iff.1 this)).1
 have bn:=k2.nodup_iff.2 cn
 have Zz:∀z∈av d'.1,ct d' (Vs.ph d' z)=ct d' (au z):=fun z hz=>by
  have ho:=h.wf.other hz
  obtain ⟨v,hv,Wx⟩:=bz.1 ho
  rw [qx hz,ss h.wf.rw hv Wx]
  show GK d'.1 _=GK d'.1 _
  rw [mI h.wf.rw hv (nF (h.wf.rw.ring hv) Wx),mI h.wf.rw hv Wx]
 have inC:∀z∈B,z∈av (dQ d' x).1:=fun z hz=>by
  have Wq:z∈c:=k2.mem_iff.1 (List.mem_cons_of_mem _ hz)
  rcases List.mem_cons.1 (h.p.mem_iff.1 (hcd z Wq)) with e | e
  ·exact absurd (e▸hz) (List.nodup_cons.1 bn).1
  rcases List.mem_cons.1 e with e | e
  ·exact absurd (e▸Wq) h1
  ·exact e
 have walk:∀(B:List ae) (a e:ID) (z:ae),(∀y∈B,y∈av (dQ d' x).1)→Path (Vs.ph d') B z→ct d' z=some e→(∀y,B.head? = some y→ct d' y=some a)→(B=[]→a=e)→cV (dQ d' x) a e:=by
  intro B
  induction B with
  | nil=>intro a e z _ _ _ _ h5;rw [h5 rfl];exact .refl _
  | cons y r ih =>
   intro a e z hB hp hz ha _
   have hy:=hB y (by simp)
   have Zr:=h.sub hy
   obtain ⟨v,hv,Zn,Cx⟩:=Dm h.wf (h.wf.other Zr)
   have adj:Je (dQ d' x) a v.1:=⟨y,hy,by rw [h.at hy];exact ha y rfl,by rw [h.at (h.w.other hy)];exact Cx⟩
   have iq:ct d' (r.head?.getD z)=some v.1:=by
    rw [←show Vs.ph d' y=r.head?.getD z from hp.1,Zz y Zr];exact Cx
   refine adj.conn.trans (ih v.1 e z (fun q hq=>hB q (List.mem_cons_of_mem _ hq)) hp.2 hz (fun q hq => ?_) (fun hr => ?_))
   ·rw [hq] at iq;exact iq
   ·subst hr
    have:ct d' z=some v.1:=iq
    rw [hz] at this;exact (Option.some.inj this).symm
 obtain ⟨fx,pB⟩:=(show Path (Vs.ph d') ((x,0)::B) (x,0) from k1)
 have Jf:ct d' (B.head?.getD (x,0))=some w:=by
  rw [←fx,Zz _ h.x0,Bj];exact hw
 refine (walk B w u (x,0) inC pB hu (fun y hy=>by rw [hy] at Jf;exact Jf) (fun hB => ?_)).symm h.w
 subst hB
 have:ct d' (x,0)=some w:=Jf
 rw [hu] at this;exact (Option.some.inj this).symm
theorem Hm{d:aj}(h:av d.1=[]){a b:ID}(k:cV d a b):a=b:=by
 induction k with
 | refl=>rfl
 | tail _ j _=>obtain ⟨z,hz,_⟩:=j;rw [h] at hz;simp at hz
theorem bV.ids{l:List ai}(h:bV l):(l.map (·.1)).Nodup:=by
 unfold List.Nodup
 rw [List.pairwise_map]
 exact h.imp fun {a b} k e=>by rw [e,b5] at k;cases k
theorem Ky:∀(n:Nat) (d:aj),Wf d→d.2.length=n→∀R,Bl d R→∃k,d.1.length+ft d+2 * k=2 * R.length+d.2.length
 | 0,d,hw,hl,R,hr=>by
  have he:d.2=[]:=by simpa using hl
  have hd:av d.1=[]:=by
   have:=hw.pd
   rw [he] at this
   exact List.perm_nil.1 this
  have Uv:Bl d (d.1.map (·.1)):=⟨hw.sv.ids,fun r hr=>by obtain ⟨v,hv,rfl⟩:=List.mem_map.1 hr;exact ⟨v,hv,rfl⟩,fun r _ s _ k=>Hm hd k,fun v hv=>⟨v.1,List.mem_map.2 ⟨v,hv,rfl⟩,.refl _⟩⟩
  have hlen:=hr.len hw Uv
  have hf:dF d=[]:=by unfold dF;rw [he];rfl
  have ha:al d.1=d.1.length:=by
   unfold al
   rw [List.countP_eq_length]
   intro v hv
   rw [List.isEmpty_iff]
   cases hq:v.2.1 with
   | nil=>rfl
   | cons y r =>
    have:y∈av d.1:=bz.2 ⟨v,hv,by rw [hq];simp⟩
    rw [hd] at this;simp at this
  refine ⟨0,?_⟩
  unfold ft
  rw [hf,ha,hlen,he]
  simp;omega
 | n+1,d,hw,hl,R,hr=>by
  obtain ⟨e,r,he⟩:∃e r,d.2=e::r:=by
   cases hq:d.2 with
   | nil=>rw [hq] at hl;simp at hl
   | cons e r=>exact ⟨e,r,rfl⟩
  have hc:bS d e.1:=⟨hw,by unfold aW;rw [he];simp⟩
  obtain ⟨u,w,hu,hwt,_,_⟩:=hc.Sr
  have hv:(dQ d e.1).1.length=d.1.length:=by
   have:=congrArg List.length hc.ids
   simpa using this
  have HK:(dQ d e.1).2.length=n:=by
   have h1:=hc.w.pd.length_eq
   have h2:=hw.pd.length_eq
   have h3:=hc.p.length_eq
   have e2:∀l:List ah,(ends l).length=2 * l.length:=fun l=>by
    induction l with
    | nil=>rfl
    | cons e r ih=>rw [jC];simp [ih];omega
   rw [e2] at h1 h2
   simp at h3;omega
  by_cases hf:Sq d (e.1,0) (e.1,1)
  ·have h1:=(hc.same hf).1
   by_cases k:cV (dQ d e.1) u w
   ·obtain ⟨g,hg⟩:=Ky n (dQ d e.1) hc.w HK R (hc.Zx hu hwt k hr)
    exact ⟨g+1,by omega⟩
   ·obtain ⟨R2,h2,h3⟩:=hc.Zy hu hwt k hr
    obtain ⟨g,hg⟩:=Ky n (dQ d e.1) hc.w HK R2 h2
    exact ⟨g,by omega⟩
  ·have h1:=hc.diff hf
   obtain ⟨g,hg⟩:=Ky n (dQ d e.1) hc.w HK R (hc.Zx hu hwt (hc.Mo hu hwt hf) hr)
   exact ⟨g,by omega⟩
end Go.Vs
namespace Go.Vs
open Go.Proofs Go.Cy
def cE(d:aj)(i:Nat):ID:=((d.1[i]?).getD zV).1
theorem mg{d:aj}{i:Nat}{v:ai}(h:d.1[i]? = some v):cE d i=v.1:=by unfold cE;rw [h];rfl
theorem iW{d:aj}(hs:bV d.1){i j:Nat}(hi:i<d.1.length)(hj:j<d.1.length)(h:cE d i=cE d j):i=j:=by
 have h1:=List.getElem?_eq_getElem hi
 have h2:=List.getElem?_eq_getElem hj
 rw [mg h1,mg h2] at h
 rw [jA hs h1 rfl,jA hs h2 rfl,h]
theorem Qf{x:ID}:∀{l:List ai} {i:Nat} {v:ai} (k:Int),l[i]? = some v→v.1=x→(∀j u,j<i→l[j]? = some u→u.1≠x)→yx x l k=k+i
 | w::r,0,v,k,h,hv,_=>by
  simp at h;subst h
  rw [yx,if_pos hv];simp
 | w::r,i+1,v,k,h,hv,hn=>by
  have h0:=hn 0 w (by omega) (by simp)
  rw [yx,if_neg h0,Qf (i:=i) (v:=v) (k+1) (by simpa using h) hv (fun j u hj hu=>hn (j+1) u (by omega) (by simpa using hu))]
  omega
theorem Qg{d:aj}(hs:bV d.1){i:Nat}(hi:i<d.1.length):yx (cE d i) d.1 0=(i:Int):=by
 have h:=List.getElem?_eq_getElem hi
 have:=Qf (x:=cE d i) (l:=d.1) (i:=i) (v:=d.1[i]) 0 h (mg h).symm (fun j u hj hu he=>by
  have h1:=iW hs (show j<d.1.length by omega) hi ((mg hu).trans he)
  omega)
 omega
theorem Jg{d:aj}(hw:Wf d){z:ae}(hz:z∈av d.1):∃i,i<d.1.length∧ct d z=some (cE d i):=by
 obtain ⟨v,hv,_,h⟩:=Dm hw hz
 obtain ⟨i,hi,he⟩:=List.getElem_of_mem hv
 refine ⟨i,hi,?_⟩
 rw [h,mg (List.getElem?_eq_getElem hi),he]
structure EO(d:aj)(L:List Int):Prop where
 n:L.length=d.1.length
 i:∀i,i<d.1.length→∃j:Nat,j≤i∧L.getD i 0=(j:Int)∧cV d (cE d i) (cE d j)
def fa(d:aj)(L:List Int)(i:Nat):Prop:=∀j,j<d.1.length→cV d (cE d i) (cE d j)→L.getD i 0≤(j:Int)
structure Ho(d:aj)(L:List Int):Prop where
 l:EO d L
 r:∀i,i<d.1.length→fa d L i
theorem Hq{L:List Int}{a i:Nat}(x:Int):(L.set a x).getD i 0=if a=i∧a<L.length then x else L.getD i 0:=by
 simp only [List.getD]
 rw [List.getElem?_set]
 by_cases h:a=i
 ·subst h
  by_cases k:a<L.length
  ·simp [k]
  ·simp [k]
 ·simp [h]
def Cg(a b:Nat)(L:List Int):List Int:=(L.set a (min (L.getD a 0) (L.getD b 0))).set b (min (L.getD a 0) (L.getD b 0))
theorem Qh{L:List Int}{a b:Nat}(ha:a<L.length)(hb:b<L.length)(i:Nat):(Cg a b L).getD i 0=if i=a∨i=b then min (L.getD a 0) (L.getD b 0) else L.getD i 0:=by
 unfold Cg
 rw [Hq,Hq,List.length_set]
 by_cases h1:b=i
 ·rw [if_pos ⟨h1,hb⟩,if_pos (.inr h1.symm)]
 ·rw [if_neg (fun k=>h1 k.1)]
  by_cases h2:a=i
  ·rw [if_pos ⟨h2,ha⟩,if_pos (.inl h2.symm)]
  ·rw [if_neg (fun k=>h2 k.1),if_neg (fun k=>k.elim (fun m=>h2 m.symm) (fun m=>h1 m.symm))]
theorem Mp{d:aj}(hw:Wf d){L:List Int}(h:EO d L){a b:Nat}(ha:a<d.1.length)(hb:b<d.1.length)(r9:cV d (cE d a) (cE d b)):EO d (Cg a b L)∧(∀i,i<d.1.length→fa d L i→fa d (Cg a b L) i)∧(fa d L a→fa d (Cg a b L) b)∧(fa d L b→fa d (Cg a b L) a):=by
 have QU:a<L.length:=by rw [h.n];exact ha
 have Qi:b<L.length:=by rw [h.n];exact hb
 have gl:=Qh QU Qi
 obtain ⟨ja,a1,a2,a3⟩:=h.i a ha
 obtain ⟨jb,b1,b2,b3⟩:=h.i b hb
 have hba:=r9.symm hw
 refine ⟨⟨by unfold Cg;simp [h.n],fun i hi => ?_⟩,fun i hi hr j hj hc => ?_,fun hr j hj hc => ?_,fun hr j hj hc => ?_⟩
 ·rw [gl]
  by_cases Jh:i=a∨i=b
  ·rw [if_pos Jh]
   have conn:cV d (cE d i) (cE d a)∧cV d (cE d i) (cE d b):=by
    rcases Jh with rfl | rfl
    ·exact ⟨.refl _,r9⟩
    ·exact ⟨hba,.refl _⟩
   by_cases hle:L.getD a 0≤L.getD b 0
   ·refine ⟨ja,?_,by rw [←a2];omega,conn.1.trans a3⟩
    rcases Jh with rfl | rfl
    ·exact a1
    ·rw [a2,b2] at hle;omega
   ·refine ⟨jb,?_,by rw [←b2];omega,conn.2.trans b3⟩
    rcases Jh with rfl | rfl
    ·rw [a2,b2] at hle;omega
    ·exact b1
  ·rw [if_neg Jh];exact h.i i hi
 ·rw [gl]
  split
  ·rename_i Jh
   have:=hr j hj hc
   rcases Jh with rfl | rfl<;>omega
  ·exact hr j hj hc
 ·rw [gl,if_pos (.inr rfl)]
  have:=hr j hj (r9.trans hc)
  omega
 ·rw [gl,if_pos (.inl rfl)]
  have:=hr j hj (hba.trans hc)
  omega
theorem Vq{d:aj}(hw:Wf d){e:ah}(he:e∈d.2)(L:List Int):∃a b,a<d.1.length∧b<d.1.length∧ct d (e.1,0)=some (cE d a)∧ct d (e.1,1)=some (cE d b)∧EB d e L=Cg a b L:=by
 have h0:(e.1,0)∈av d.1:=hw.pd.mem_iff.2 (dP.2 ⟨e,he,rfl,.inl rfl⟩)
 have h1:(e.1,1)∈av d.1:=hw.pd.mem_iff.2 (dP.2 ⟨e,he,rfl,.inr rfl⟩)
 obtain ⟨a,ha,ea⟩:=Jg hw h0
 obtain ⟨b,hb,eb⟩:=Jg hw h1
 refine ⟨a,b,ha,hb,ea,eb,?_⟩
 unfold EB Cg
 rw [ea,eb]
 simp only [Option.getD_some,Qg hw.sv ha,Qg hw.sv hb,Int.toNat_natCast]
 rw [if_pos ⟨by omega,by omega⟩]
theorem tp{d:aj}(hw:Wf d):∀(l:List ah) {L:List Int},(∀e∈l,e∈d.2)→EO d L→EO d (jh d l L)∧(∀i,i<d.1.length→fa d L i→fa d (jh d l L) i) ∧
  (∀e∈l,∀a b,a<d.1.length→b<d.1.length→((ct d (e.1,0)=some (cE d a)∧ct d (e.1,1)=some (cE d b))∨(ct d (e.1,0)=some (cE d b)∧ct d (e.1,1)=some (cE d a)))→fa d L a→fa d (jh d l L) b)
 | [],L,_,h=>⟨h,fun i hi hr=>hr,fun e he=>by simp at he⟩
 | e::r,L,hl,h=>by
  have he:=hl e (List.mem_cons_self ..)
  obtain ⟨a,b,ha,hb,ea,eb,el⟩:=Vq hw he L
  have h0:(e.1,0)∈av d.1:=hw.pd.mem_iff.2 (dP.2 ⟨e,he,rfl,.inl rfl⟩)
  have r9:cV d (cE d a) (cE d b):=Je.conn ⟨(e.1,0),h0,ea,by rw [Bj];exact eb⟩
  obtain ⟨s1,s2,s3,s4⟩:=Mp hw h ha hb r9
  obtain ⟨t1,t2,t3⟩:=tp hw r (L:=Cg a b L) (fun e he=>hl e (List.mem_cons_of_mem _ he)) s1
  show EO d (jh d r (EB d e L))∧_∧_
  rw [el]
  refine ⟨t1,fun i hi hr => ?_,fun f hf p q hp hq zp hr => ?_⟩
  ·show fa d (jh d r (EB d e L)) i
   rw [el];exact t2 i hi (s2 i hi hr)
  ·show fa d (jh d r (EB d e L)) q
   rw [el]
   rcases List.mem_cons.1 hf with rfl | hf
   ·refine t2 q hq ?_
    rcases zp with ⟨k1,k2⟩ | ⟨k1,k2⟩
    ·rw [ea] at k1;rw [eb] at k2
     have:=iW hw.sv ha hp (Option.some.inj k1);subst this
     have:=iW hw.sv hb hq (Option.some.inj k2);subst this
     exact s3 hr
    ·rw [ea] at k1;rw [eb] at k2
     have:=iW hw.sv ha hq (Option.some.inj k1);subst this
     have:=iW hw.sv hb hp (Option.some.inj k2);subst this
     exact s4 hr
   ·exact t3 f hf p q hp hq zp (s2 p hp hr)
theorem Ji{d:aj}(i:Nat)(hi:i<d.1.length):∃m,m<d.1.length∧cV d (cE d i) (cE d m)∧∀j,j<d.1.length→cV d (cE d i) (cE d j)→m≤j:=by
 induction i using Nat.strongRecOn with
 | ind i ih =>
  by_cases h:∃j,j<i∧cV d (cE d i) (cE d j)∧cV d (cE d j) (cE d i)
  ·obtain ⟨j,hj,hc,tw⟩:=h
   obtain ⟨m,h1,h2,h3⟩:=ih j hj (by omega)
   exact ⟨m,h1,hc.trans h2,fun k hk hck=>h3 k hk (tw.trans hck)⟩
  ·by_cases hs:∃j,j<i∧cV d (cE d i) (cE d j)
   ·obtain ⟨j,hj,hc⟩:=hs
    have key:∀n,n≤i→(∃m,m<n∧cV d (cE d i) (cE d m))→∃m,m<d.1.length∧cV d (cE d i) (cE d m)∧∀j,j<d.1.length→cV d (cE d i) (cE d j)→m≤j:=by
     intro n
     induction n with
     | zero=>rintro _ ⟨m,hm,_⟩;omega
     | succ n ihn =>
      rintro hn ⟨m,hm,Ep⟩
      by_cases hb:∃m,m<n∧cV d (cE d i) (cE d m)
      ·exact ihn (by omega) hb
      ·have:m=n:=Classical.byContradiction fun k=>hb ⟨m,by omega,Ep⟩
       subst this
       refine ⟨m,by omega,Ep,fun j hj LO=>Classical.byContradiction fun k=>hb ⟨j,by omega,LO⟩⟩
    exact key i (Nat.le_refl _) ⟨j,hj,hc⟩
   ·refine ⟨i,hi,.refl _,fun j hj hc=>Classical.byContradiction fun k=>hs ⟨j,by omega,hc⟩⟩
theorem Mq{d:aj}(P:ID→Prop){x y:ID}(h:cV d x y)(hx:P x)(hy:¬P y):∃a b,Je d a b∧P a∧¬P b:=by
 induction h with
 | refl=>exact absurd hx hy
 | @tail b c k j ih =>
  by_cases hb:P b
  ·exact ⟨_,_,j,hb,hy⟩
  ·exact ih hb
open Classical in
theorem Hr{P Q:Nat→Prop}:∀{l:List Nat},(∀i∈l,P i→Q i)→(∃i∈l,Q i∧¬P i)→l.countP (fun i=>decide (P i))<l.countP (fun i=>decide (Q i))
 | [],_,h=>by obtain ⟨i,hi,_⟩:=h;simp at hi
 | x::r,h,⟨i,hi,hq,hp⟩=>by
  have mono:r.countP (fun i=>decide (P i))≤r.countP (fun i=>decide (Q i)):=by
   have hr:∀i∈r,P i→Q i:=fun i hi=>h i (List.mem_cons_of_mem _ hi)
   clear h hi
   induction r with
   | nil=>simp
   | cons y r ih =>
    rw [List.countP_cons,List.countP_cons]
    have:=ih (fun i hi=>hr i (List.mem_cons_of_mem _ hi))
    have h2:=hr y (List.mem_cons_self ..)
    by_cases hy:P y
    ·simp [hy,h2 hy];exact this
    ·simp [hy];omega
  rw [List.countP_cons,List.countP_cons]
  rcases List.mem_cons.1 hi with rfl | hi
  ·simp [hq,hp];omega
  ·have:=Hr (l:=r) (fun i hi=>h i (List.mem_cons_of_mem _ hi)) ⟨i,hi,hq,hp⟩
   have hx:=h x (List.mem_cons_self ..)
   by_cases hpx:P x
   ·simp [hpx,hx hpx];exact this
   ·simp [hpx];omega
theorem Jj{d:aj}(hw:Wf d){L:List Int}(h:EO d L)(hn:∃i,i<d.1.length∧¬fa d L i):∃i,i<d.1.length∧fa d (jh d d.2 L) i∧¬fa d L i:=by
 obtain ⟨i,hi,hr⟩:=hn
 obtain ⟨m,m1,m2,m3⟩:=Ji i hi
 have hm:fa d L m:=fun j hj hc=>by
  obtain ⟨q,q1,q2,_⟩:=h.i m m1
  have:=m3 j hj (m2.trans hc)
  rw [q2];omega
 let P:ID→Prop:=fun x=>∃k,k<d.1.length∧cE d k=x∧fa d L k
 have hx:P (cE d m):=⟨m,m1,rfl,hm⟩
 have hy:¬P (cE d i):=fun ⟨k,k1,k2,k3⟩=>by
  have:=iW hw.sv k1 hi k2
  exact hr (this▸k3)
 obtain ⟨a,b,⟨z,hz,za,zb⟩,⟨p,p1,p2,p3⟩,hb⟩:=Mq P (m2.symm hw) hx hy
 obtain ⟨q,q1,q2⟩:=Jg hw (hw.other hz)
 rw [zb] at q2
 have hbq:b=cE d q:=Option.some.inj q2
 obtain ⟨e,he,e1,e2⟩:=dP.1 (hw.pd.mem_iff.1 hz)
 refine ⟨q,q1,?_,fun k=>hb ⟨q,q1,hbq.symm,k⟩⟩
 refine (tp hw d.2 (fun _ h=>h) h).2.2 e he p q p1 q1 ?_ p3
 rw [p2,←hbq]
 obtain ⟨z1,z2⟩:=z
 simp only at e1 e2
 subst e1
 rcases e2 with rfl | rfl
 ·exact .inl ⟨za,zb⟩
 ·exact .inr ⟨zb,za⟩
open Classical in
theorem Bn{d:aj}(hw:Wf d):∀(n:Nat) {L:List Int},EO d L→d.1.length≤n+(List.range d.1.length).countP (fun i=>decide (fa d L i))→Ho d (GN d n L)
 | 0,L,h,hc=>by
  refine ⟨h,fun i hi => ?_⟩
  have h1:(List.range d.1.length).countP (fun i=>decide (fa d L i))=(List.range d.1.length).length:=by
   have:=List.countP_le_length (p:=fun i=>decide (fa d L i)) (l:=List.range d.1.length)
   simp at this ⊢;omega
  have:=List.countP_eq_length.1 h1 i (List.mem_range.2 hi)
  exact of_decide_eq_true this
 | n+1,L,h,hc=>by
  obtain ⟨s1,s2,_⟩:=tp hw d.2 (fun _ h=>h) h
  show Ho d (GN d n (jh d d.2 L))
  refine Bn hw n s1 ?_
  by_cases hn:∃i,i<d.1.length∧¬fa d L i
  ·obtain ⟨i,hi,h1,h2⟩:=Jj hw h hn
   have:=Hr (P:=fa d L) (Q:=fa d (jh d d.2 L)) (l:=List.range d.1.length) (fun i hi=>s2 i (List.mem_range.1 hi)) ⟨i,List.mem_range.2 hi,h1,h2⟩
   omega
  ·have:(List.range d.1.length).countP (fun i=>decide (fa d (jh d d.2 L) i))=(List.range d.1.length).length:=by
    rw [List.countP_eq_length]
    intro i hi
    have hi:=List.mem_range.1 hi
    exact decide_eq_true (s2 i hi (Classical.byContradiction fun k=>hn ⟨i,hi,k⟩))
   rw [this];simp
theorem Vr(d:aj):EO d (Ce d.1.length):=by
 refine ⟨by unfold Ce;simp,fun i hi=>⟨i,Nat.le_refl _,?_,.refl _⟩⟩
 unfold Ce
 simp [List.getD,hi]
theorem ib{d:aj}(hw:Wf d):Ho d (labels d):=Bn hw d.1.length (Vr d) (by omega)
theorem Ho.uniq{d:aj}(hw:Wf d){L M:List Int}(h:Ho d L)(k:Ho d M):L=M:=by
 apply List.ext_getElem?
 intro i
 by_cases hi:i<d.1.length
 ·have e1:L[i]? = some (L.getD i 0):=by rw [List.getElem?_eq_getElem (by rw [h.l.n];exact hi)];simp [List.getD,h.l.n,hi]
  have e2:M[i]? = some (M.getD i 0):=by rw [List.getElem?_eq_getElem (by rw [k.l.n];exact hi)];simp [List.getD,k.l.n,hi]
  obtain ⟨a,a1,a2,a3⟩:=h.l.i i hi
  obtain ⟨b,b1,b2,b3⟩:=k.l.i i hi
  have h1:=h.r i hi b (by omega) b3
  have h2:=k.r i hi a (by omega) a3
  rw [e1,e2];congr 1;omega
 ·rw [List.getElem?_eq_none (by rw [h.l.n];omega),List.getElem?_eq_none (by rw [k.l.n];omega)]
def km(d:aj)(L:List Int):List ID:=((List.range d.1.length).filter fun i=>decide (L.getD i 0=(i:Int))).map (cE d)
theorem xt{d:aj}(hw:Wf d){L:List Int}(h:Ho d L):Bl d (km d L):=by
 have mem:∀{r:ID},r∈km d L↔∃i,i<d.1.length∧L.getD i 0=(i:Int)∧cE d i=r:=fun {r}=>by
  unfold km
  rw [List.mem_map]
  constructor
  ·rintro ⟨i,hi,rfl⟩
   rw [List.mem_filter,List.mem_range] at hi
   exact ⟨i,hi.1,by simpa using hi.2,rfl⟩
  ·rintro ⟨i,h1,h2,rfl⟩
   exact ⟨i,by rw [List.mem_filter,List.mem_range];exact ⟨h1,by simpa using h2⟩,rfl⟩
 refine ⟨?_,fun r hr => ?_,fun r hr s hs hc => ?_,fun v hv => ?_⟩
 ·unfold km List.Nodup
  rw [List.pairwise_map]
  have hp:((List.range d.1.length).filter fun i=>decide (L.getD i 0=(i:Int))).Nodup:=List.nodup_range.filter _
  refine List.Pairwise.imp_of_mem (fun {a b} ha hb bj e=>bj ?_) hp
  exact iW hw.sv (List.mem_range.1 (List.mem_filter.1 ha).1) (List.mem_range.1 (List.mem_filter.1 hb).1) e
 ·obtain ⟨i,hi,_,rfl⟩:=mem.1 hr
  exact ⟨d.1[i],List.getElem_mem hi,(mg (List.getElem?_eq_getElem hi)).symm⟩
 ·obtain ⟨i,hi,h1,rfl⟩:=mem.1 hr
  obtain ⟨j,hj,h2,rfl⟩:=mem.1 hs
  have k1:=h.r i hi j hj hc
  have k2:=h.r j hj i hi (hc.symm hw)
  have:i=j:=by omega
  rw [this]
 ·obtain ⟨i,hi,he⟩:=List.getElem_of_mem hv
  have bO:cE d i=v.1:=by rw [mg (List.getElem?_eq_getElem hi),he]
  obtain ⟨j,j1,j2,j3⟩:=h.l.i i hi
  refine ⟨cE d j,mem.2 ⟨j,by omega,?_,rfl⟩,by rw [←bO];exact j3⟩
  obtain ⟨k,k1,k2,k3⟩:=h.l.i j (by omega)
  have h1:=h.r i hi k (by omega) (j3.trans k3)
  rw [j2] at h1
  rw [k2]
  have:j=k:=by omega
  rw [this]
theorem wq:∀(l:List Int) (i:Nat) (n:Nat),n+l.length≤1000000→oG l (i:Int) (n:Int)=((n+((List.range l.length).filter fun j=>decide (l.getD j 0=((i+j:Nat):Int))).length:Nat):Int)
 | [],i,n,_=>by simp [oG]
 | x::r,i,n,h=>by
  simp at h
  have e:((List.range (x::r).length).filter fun j=>decide ((x::r).getD j 0=((i+j:Nat):Int))).length=(if x=(i:Int) then 1 else 0)+((List.range r.length).filter fun j=>decide (r.getD j 0=((i+1+j:Nat):Int))).length:=by
   rw [List.length_cons,List.range_succ_eq_map,List.filter_cons]
   have e2:((List.range r.length).map Nat.succ).filter (fun j=>decide ((x::r).getD j 0=((i+j:Nat):Int)))=((List.range r.length).filter fun j=>decide (r.getD j 0=((i+1+j:Nat):Int))).map Nat.succ:=by
    rw [List.filter_map]
    congr 1
    apply List.filter_congr
    intro j _
    simp only [Function.comp,Nat.succ_eq_add_one,List.getD_cons_succ]
    rw [show i+(j+1)=i+1+j by omega]
   rw [e2]
   simp only [List.getD_cons_zero,Nat.add_zero]
   by_cases hx:x=(i:Int)
   ·simp [hx];omega
   ·simp [hx]
  rw [e]
  unfold oG
  have hi:((i:Int)+1)=((i+1:Nat):Int):=by omega
  rw [hi]
  by_cases hx:x=(i:Int)
  ·rw [if_pos hx,if_pos hx]
   have hw:IntKind.wrap .i64 ((n:Int)+1)=((n+1:Nat):Int):=by rw [wrap_small (by omega) (by omega)];omega
   rw [hw,wq r (i+1) (n+1) (by omega)]
   congr 1;omega
  ·rw [if_neg hx,if_neg hx,wq r (i+1) n (by omega)]
   congr 1;omega
theorem wu{d:aj}(hw:Wf d):fO d=((km d (labels d)).length:Int):=by
 have h:=ib hw
 have hn:=hw.nv
 unfold fO
 have:=wq (labels d) 0 0 (by rw [h.l.n];omega)
 simp only [Nat.zero_add] at this
 have e:oG (labels d) 0 0=oG (labels d) ((0:Nat):Int) ((0:Nat):Int):=rfl
 rw [e,this]
 unfold km
 rw [List.length_map,h.l.n]
theorem wx:∀(l:List ai) (n:Nat),n+l.length≤1000000→qo l (n:Int)=((n+al l:Nat):Int)
 | [],n,_=>by simp [qo,al]
 | v::r,n,h=>by
  simp at h
  unfold qo al
  rw [List.countP_cons]
  by_cases hv:v.2.1.length=0
  ·have:v.2.1.isEmpty=true:=by rw [List.isEmpty_iff];simpa using hv
   have hw:IntKind.wrap .i64 ((n:Int)+1)=((n+1:Nat):Int):=by rw [wrap_small (by omega) (by omega)];omega
   rw [if_pos hv,hw,wx r (n+1) (by omega),this]
   unfold al
   congr 1;simp;omega
  ·have:v.2.1.isEmpty=false:=by
    cases hq:v.2.1 with
    | nil=>rw [hq] at hv;exact absurd rfl hv
    | cons _ _=>rfl
   rw [if_neg hv,wx r n (by omega),this]
   unfold al
   simp
theorem uT{d:aj}(hw:Wf d):(dF d).length≤80:=by
 have h:=cI hw
 have h1:=h.p.length_eq
 have h2:=hw.Hl
 have h3:(dF d).length≤(dF d).flatten.length:=by
  have hc:=h.c
  generalize dF d=cs at hc
  induction cs with
  | nil=>simp
  | cons c r ih =>
   have:=ih (fun c Wu=>hc c (List.mem_cons_of_mem _ Wu))
   have h1:=(hc c (List.mem_cons_self ..)).ne
   have:0<c.length:=Nat.pos_of_ne_zero fun k=>h1 (List.length_eq_zero_iff.1 k)
   simp only [List.length_cons,List.flatten_cons,List.length_append];omega
 omega
theorem Mr{d:aj}(hw:Wf d):AU d=((ft d:Nat):Int):=by
 unfold AU ft
 have:=hw.nv
 have:=uT hw
 exact wx d.1 (dF d).length (by omega)
theorem Qj{d:aj}(hw:Wf d){R:List ID}(hr:Bl d R):∃k:Nat,fP d=(k:Int)∧d.1.length+ft d+2 * k=2 * R.length+d.2.length:=by
 have hl:=(xt hw (ib hw)).len hw hr
 obtain ⟨k,hk⟩:=Ky d.2.length d hw rfl R hr
 refine ⟨k,?_,hk⟩
 have hn:=hw.nv;have he:=hw.ne
 have hf:=uT hw
 have ha:al d.1≤d.1.length:=List.countP_le_length
 have hR:R.length≤d.1.length:=by
  rw [←hl];unfold km
  rw [List.length_map]
  exact Nat.le_trans (List.length_filter_le _ _) (by simp)
 have Xu:ft d=(dF d).length+al d.1:=rfl
 unfold fP
 rw [wu hw,Mr hw,hl]
 rw [wrap_small (n:=2 * ((R.length:Nat):Int)) (by omega) (by omega)]
 rw [wrap_small (n:=2 * ((R.length:Nat):Int) - ((d.1.length:Nat):Int)) (by omega) (by omega)]
 rw [wrap_small (n:=2 * ((R.length:Nat):Int) - ((d.1.length:Nat):Int)+((d.2.length:Nat):Int)) (by omega) (by omega)]
 have e:2 * ((R.length:Nat):Int) - ((d.1.length:Nat):Int)+((d.2.length:Nat):Int) - ((ft d:Nat):Int)=2 * (k:Int):=by omega
 rw [e,wrap_small (n:=2 * (k:Int)) (by omega) (by omega)]
 have e2:Int.tdiv (2 * (k:Int)) 2=(k:Int):=by
  rw [Int.tdiv_eq_ediv_of_nonneg (by omega)];omega
 rw [e2,wrap_small (by omega) (by omega)]
end Go.Vs
