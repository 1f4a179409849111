/- Faces -/
import Derived.Test.YtpkfpbpbkabkdaaGreatSplits
set_option linter.unusedVariables false
set_option linter.unusedSimpArgs false
namespace Go.Cy
variable {α:Type}
def Path(f:α→α):List α→α→Prop
 |[],_=>True
 |x::r,z=>f x=r.head?.getD z∧Path f r z
theorem Path.app{f:α→α}:∀{a b:List α} {z:α},Path f (a++b) z↔Path f a (b.head?.getD z)∧Path f b z
 |[],b,z=>by simp[Path]
 |x::r,b,z=>by
  have ih:=Path.app (f:=f) (a:=r) (b:=b) (z:=z);simp only[List.cons_append,Path];rw[ih];have:(r++b).head?.getD z=r.head?.getD (b.head?.getD z):=by cases r<;>simp
  rw[this,and_assoc]
theorem Path.congr{f g:α→α}:∀{a:List α} {z:α},(∀x∈a,g x=f x)→Path f a z→Path g a z
 |[],_,_,_=>trivial
 |x::r,z,h,p=>⟨(h x (acr ..)).trans p.1,Path.congr (fun y hy=>h y (aaY _ hy)) p.2⟩
def kQ(f:α→α):List α→Prop
 |[]=>False
 |x::r=>Path f (x::r) x
theorem kQ.two{f:α→α}{x y:α}{a b:List α}:kQ f ((x::a)++(y::b))↔Path f (x::a) y∧Path f (y::b) x:=by show Path f ((x::a)++(y::b)) x↔_;rw[Path.app];rfl
theorem kQ.Dy{f:α→α}:∀{a b:List α},kQ f (a++b)→kQ f (b++a)
 |[],b,h=>by simpa using h
 |x::a,[],h=>by simpa using h
 |x::a,y::b,h=>kQ.two.2 ⟨(kQ.two.1 h).2,(kQ.two.1 h).1⟩
theorem kQ.ne{f:α→α}{c:List α}(h:kQ f c):c≠[]:=by rintro rfl;exact h
theorem kQ.congr{f g:α→α}{c:List α}(h:∀x∈c,g x=f x)(k:kQ f c):kQ g c:=by
 cases c with
 |nil=>exact k
 |cons x r=>exact Path.congr h k
theorem Path.step{f:α→α}:∀{a:List α} {z x:α},Path f a z→x∈a→f x∈a∨f x=z
 |y::r,z,x,p,hx=>by
  rcases aa1.1 hx with rfl|hx
  ·cases r with
   |nil=>exact .inr p.1
   |cons u r=>exact .inl (by have:=p.1;simp at this;rw[this];simp)
  ·rcases Path.step p.2 hx with h|h
   ·exact .inl (aaY _ h)
   ·exact .inr h
theorem kQ.step{f:α→α}{c:List α}(h:kQ f c){x:α}(hx:x∈c):f x∈c:=by
 cases c with
 |nil=>exact h.elim
 |cons y r =>
  rcases Path.step (show Path f (y::r) y from h) hx with k|k
  ·exact k
  ·rw[k];simp
def it(f:α→α):Nat→α→α
 |0,x=>x
 |n+1,x=>it f n (f x)
theorem kQ.it{f:α→α}{c:List α}(h:kQ f c):∀(n:Nat) {x:α},x∈c→it f n x∈c
 |0,_,hx=>hx
 |n+1,_,hx=>kQ.it h n (h.step hx)
theorem Path.reach{f:α→α}:∀{r:List α} {x z:α},Path f (x::r) z→∀y∈x::r,∃n,it f n x=y
 |[],x,z,_,y,hy=>by simp at hy;exact⟨0,hy.symm⟩
 |u::r,x,z,p,y,hy=>by
  rcases aa1.1 hy with rfl|hy
  ·exact⟨0,rfl⟩
  ·have h1:f x=u:=p.1;obtain⟨n,hn⟩:=Path.reach p.2 y hy;exact⟨n+1,by show it f n (f x)=y;rw[h1];exact hn⟩
theorem kQ.head{f:α→α}{c:List α}(h:kQ f c){x:α}(hx:x∈c):∃r,kQ f (x::r)∧(x::r).Perm c:=by obtain⟨a,b,rfl⟩:=aeD hx;exact⟨b++a,kQ.Dy h,aeR (l₁:=x::b) (l₂:=a)⟩
theorem kQ.reach{f:α→α}{c:List α}(h:kQ f c){x y:α}(hx:x∈c)(hy:y∈c):∃n,Cy.it f n x=y:=by obtain⟨r,h1,h2⟩:=h.head hx;exact Path.reach (show Path f (x::r) x from h1) y (h2.mem_iff.2 hy)
theorem kQ.same{f:α→α}{c c':List α}(h:kQ f c)(h':kQ f c'){x:α}(hx:x∈c)(hx':x∈c'){y:α}(hy:y∈c):y∈c':=by obtain⟨n,hn⟩:=h.reach hx hy;rw[←hn];exact h'.it n hx'
structure G8(f:α→α)(D:List α)(cs:List (List α)):Prop where
 c:∀c∈cs,kQ f c
 p:cs.flatten.Perm D
theorem gH(p q:List (List α))(c:List α):(p++c::q).flatten.Perm (c++(p++q).flatten):=by simp only[List.flatten_append,List.flatten_cons];rw[←List.append_assoc,←List.append_assoc];exact aej _ aeR
theorem G8.count{f:α→α}:∀{cs cs':List (List α)} {D:List α},D.Nodup→G8 f D cs→G8 f D cs'→cs.length=cs'.length
 |[],cs',D,hn,h,h'=>by
  have hD:D=[]:=by have:=h.p;simp at this;exact this.symm▸rfl
  subst hD
  cases cs' with
  |nil=>rfl
  |cons c r =>
   have:=h'.p.length_eq;have h1:=(h'.c c (by simp)).ne
   cases c with
   |nil=>exact absurd rfl h1
   |cons x c=>simp at this
 |c::r,cs',D,hn,h,h'=>by
  have hc:=h.c c (by simp);obtain⟨x,c0,rfl⟩:∃x c0,c=x::c0:=by
   cases c with
   |nil=>exact hc.elim
   |cons x c0=>exact⟨x,c0,rfl⟩
  have hx:x∈cs'.flatten:=h'.p.mem_iff.2 (h.p.mem_iff.1 (by simp));obtain⟨c',ZZ,adb⟩:=aeE.1 hx;obtain⟨p,q,rfl⟩:=aeD ZZ;have ade:=h'.c c' (by simp);have n1:(x::c0).Nodup:=by have:=h.p.nodup_iff.2 hn;rw[List.flatten_cons]at this;exact(aeB.1 this).1
  have n2:c'.Nodup:=by have:=(gH p q c').nodup_iff.1 (h'.p.nodup_iff.2 hn);exact(aeB.1 this).1
  have pc:(x::c0).Perm c':=(List.perm_ext_iff_of_nodup n1 n2).2 fun y=>⟨fun hy=>hc.same ade (by simp) adb hy,fun hy=>ade.same hc adb (by simp) hy⟩;have pd:((x::c0)++r.flatten).Perm ((x::c0)++(p++q).flatten):=by
   have e1:((x::c0)++r.flatten).Perm D:=by have:=h.p;rwa [List.flatten_cons]at this
   have e2:(c'++(p++q).flatten).Perm D:=(gH p q c').symm.trans h'.p;exact e1.trans (e2.symm.trans (aej _ pc.symm))
  have pr:=(List.perm_append_left_iff _).1 pd;have UT:r.flatten.Nodup:=by have:=h.p.nodup_iff.2 hn;rw[List.flatten_cons]at this;exact(aeB.1 this).2.1
  have ih:=G8.count (cs:=r) (cs':=p++q) (D:=r.flatten) UT ⟨fun c hc=>h.c c (by simp[hc]),aeX _⟩ ⟨fun c hc=>h'.c c (by rcases acw.1 hc with k|k<;>simp[k]),pr.symm⟩;simp at ih ⊢;omega
theorem Path.kN{f g:α→α}:∀{a:List α} {z z':α},Path f a z→z∉a.tail→(∀u∈a,f u≠z→g u=f u)→(∀u∈a,f u=z→g u=z')→Path g a z'
 |[],_,_,_,_,_,_=>trivial
 |[x],z,z',p,hz,h1,h2=>⟨h2 x (by simp) p.1,trivial⟩
 |x::y::r,z,z',p,hz,h1,h2=>by have e:f x=y:=p.1;have bw:y≠z:=fun k=>hz (by simp[k]);refine⟨(h1 x (by simp) (by rw[e];exact bw)).trans e,?_⟩;exact Path.kN p.2 (fun k=>hz (aaY _ k)) (fun u hu=>h1 u (aaY _ hu)) (fun u hu=>h2 u (aaY _ hu))
def nz:List α→Nat
 |[]=>0
 |_::_=>1
def kO(l:List α):List (List α):=match l with | []=>[]|x::r=>[x::r]
theorem uG(l:List α):(kO l).flatten=l:=by cases l<;>simp[kO]
theorem E3(l:List α):(kO l).length=nz l:=by cases l<;>rfl
theorem mE{l:List α}{z:α}(h:z∈l.tail):z∈l:=List.mem_of_mem_tail h
section
variable [DecidableEq α]
def wi(f':α→α)(x y:α)(z:α):α :=if f' z=x then(if f' y=y then f' x else f' y) else if f' z=y then(if f' x=x then f' y else f' x) else f' z
theorem G8.Tf{f' f:α→α}{x y:α}{D:List α}{cs':List (List α)}{c:List α}(UQ:x≠y)(hn:(x::y::D).Nodup)(h:G8 f' (x::y::D) cs')(hf:∀z∈D,f z=wi f' x y z)(hc:c∈cs')(hx:x∈c)(hy:y∈c) :
  ∃cs,G8 f D cs∧cs.length+1=cs'.length+(if f' x=y then 0 else 1)+(if f' y=x then 0 else 1):=by
 obtain⟨p,q,rfl⟩:=aeD hc;have ZX:=h.c c hc;obtain⟨r,h1,h2⟩:=ZX.head hx;have hyr:y∈r:=by
  rcases aa1.1 (h2.mem_iff.2 hy) with k|k
  ·exact absurd k.symm UQ
  ·exact k
 obtain⟨B,A,rfl⟩:=aeD hyr;have h3:kQ f' ((x::B)++(y::A)):=h1;obtain⟨⟨fx,pB⟩,⟨fy,pA⟩⟩:=kQ.two.1 h3;have pd:(x::y::(B++A++(p++q).flatten)).Perm (x::y::D):=by refine List.Perm.trans ?_ h.p;refine List.Perm.trans ?_ (gH p q c).symm;refine List.Perm.trans ?_ (aej _ h2);show(x::y::(B++A++(p++q).flatten)).Perm (x::((B++y::A)++(p++q).flatten));refine List.Perm.cons x ?_;rw[List.append_assoc B (y::A),List.cons_append,List.append_assoc];exact aeQ.symm
 have pD:=(pd.cons_inv).cons_inv;have nd:=pd.nodup_iff.2 hn;have nx:x∉B++A++(p++q).flatten:=fun k=>(ac9.1 nd).1 (aaY _ k);have ny:y∉B++A++(p++q).flatten:=(ac9.1 (ac9.1 nd).2).1;have xB:x∉B:=fun k=>nx (by simp[k]);have xA:x∉A:=fun k=>nx (by simp[k]);have yB:y∉B:=fun k=>ny (by simp[k]);have yA:y∉A:=fun k=>ny (by simp[k]);have Tg:∀z∈B++A++(p++q).flatten,z∈D:=fun z hz=>pD.mem_iff.1 hz;have cB:∀c∈kO B,kQ f c:=fun c hc=>by
  cases B with
  |nil=>simp[kO]at hc
  |cons b B =>
   have hc:c=b::B:=by simpa[kO] using hc
   subst hc;have fx:f' x=b:=fx;have bx:b≠x:=fun k=>xB (by simp[k]);refine Path.kN pB (fun k=>yB (mE k)) (fun u hu bw=>?_) (fun u hu heq=>?_)
   ·rw[hf u (Tg u (by simp at hu ⊢;rcases hu with k|k<;>simp[k]))];unfold wi;have:f' u≠x:=fun k=>by
     rcases pB.step hu with m|m
     ·exact xB (k▸m)
     ·exact bw m
    rw[if_neg this,if_neg bw]
   ·rw[hf u (Tg u (by simp at hu ⊢;rcases hu with k|k<;>simp[k]))];unfold wi;rw[if_neg (by rw[heq];exact fun k=>UQ k.symm),if_pos heq,if_neg (by rw[fx];exact bx),fx]
 have cA:∀c∈kO A,kQ f c:=fun c hc=>by
  cases A with
  |nil=>simp[kO]at hc
  |cons a A =>
   have hc:c=a::A:=by simpa[kO] using hc
   subst hc;have fy:f' y=a:=fy;have ay:a≠y:=fun k=>yA (by simp[k]);refine Path.kN pA (fun k=>xA (mE k)) (fun u hu bw=>?_) (fun u hu heq=>?_)
   ·rw[hf u (Tg u (by simp at hu ⊢;rcases hu with k|k<;>simp[k]))];unfold wi;have:f' u≠y:=fun k=>by
     rcases pA.step hu with m|m
     ·exact yA (k▸m)
     ·exact bw m
    rw[if_neg bw,if_neg this]
   ·rw[hf u (Tg u (by simp at hu ⊢;rcases hu with k|k<;>simp[k]))];unfold wi;rw[if_pos heq,if_neg (by rw[fy];exact ay),fy]
 have cR:∀c∈p++q,kQ f c:=fun c hc=>by
  have ZZ:c∈p++((x::B)++(y::A))::q:=by rcases acw.1 hc with k|k<;>simp[k]
  have CV:kQ f' c:=h.c c (by rcases acw.1 hc with k|k<;>simp[k]);refine CV.congr fun z hz=>?_;have hzf:∀u∈c,u∈(p++q).flatten:=fun u hu=>aeE.2 ⟨c,hc,hu⟩;have hm:=hzf _ (CV.step hz);rw[hf z (Tg z (List.mem_append_right _ (hzf z hz)))];unfold wi;rw[if_neg (fun k=>nx (List.mem_append_right _ (by rw[←k];exact hm))),if_neg (fun k=>ny (List.mem_append_right _ (by rw[←k];exact hm)))]
 refine⟨kO B++(kO A++(p++q)),⟨fun c hc=>?_,?_⟩,?_⟩
 ·rcases acw.1 hc with k|k
  ·exact cB c k
  rcases acw.1 k with k|k
  ·exact cA c k
  ·exact cR c k
 ·rw[List.flatten_append,List.flatten_append,uG,uG,←List.append_assoc];exact pD
 ·have eB:(if f' x=y then 0 else 1)=nz B:=by
   cases B with
   |nil=>exact if_pos fx
   |cons b B=>exact if_neg (fun k=>yB (by rw[←k,show f' x=b from fx];simp))
  have eA:(if f' y=x then 0 else 1)=nz A:=by
   cases A with
   |nil=>exact if_pos fy
   |cons a A=>exact if_neg (fun k=>xA (by rw[←k,show f' y=a from fy];simp))
  rw[eB,eA];simp only[List.length_append,E3,List.length_cons];omega
theorem G8.Th{f' f:α→α}{x y:α}{D:List α}{cs':List (List α)}{c:List α}(UQ:x≠y)(hn:(x::y::D).Nodup)(h:G8 f' (x::y::D) cs')(hf:∀z∈D,f z=wi f' x y z)(hc:c∈cs')(hx:x∈c)(hy:y∉c) :
  ∃cs,G8 f D cs∧cs.length+2=cs'.length+(if f' x=x∧f' y=y then 0 else 1):=by
 obtain⟨p,q,rfl⟩:=aeD hc;have ZX:=h.c c hc;obtain⟨B,h1,h2⟩:=ZX.head hx;have hyc:y∈(p++q).flatten:=by
  have:y∈(p++c::q).flatten:=h.p.mem_iff.2 (by simp);rcases acw.1 ((gH p q c).mem_iff.1 this) with k|k
  ·exact absurd k hy
  ·exact k
 obtain⟨c2,o4,aiI⟩:=aeE.1 hyc;have aiJ:c2∈p++c::q:=by rcases acw.1 o4 with k|k<;>simp[k]
 obtain⟨A,h3,h4⟩:=(h.c c2 aiJ).head aiI;obtain⟨p2,q2,Bb⟩:=aeD o4;obtain⟨fx,pB⟩:=(show Path f' (x::B) x from h1);obtain⟨fy,pA⟩:=(show Path f' (y::A) y from h3);have pd:(x::y::(B++A++(p2++q2).flatten)).Perm (x::y::D):=by refine List.Perm.trans ?_ h.p;refine List.Perm.trans ?_ (gH p q c).symm;rw[Bb];refine List.Perm.trans ?_ (aej _ h2);refine List.Perm.trans ?_ (List.Perm.append_left _ (gH p2 q2 c2).symm);refine List.Perm.trans ?_ (List.Perm.append_left _ (aej _ h4));show(x::y::(B++A++(p2++q2).flatten)).Perm (x::(B++(y::(A++(p2++q2).flatten))));refine List.Perm.cons x ?_;rw[List.append_assoc];exact aeQ.symm
 have pD:=(pd.cons_inv).cons_inv;have nd:=pd.nodup_iff.2 hn;have nx:x∉B++A++(p2++q2).flatten:=fun k=>(ac9.1 nd).1 (aaY _ k);have ny:y∉B++A++(p2++q2).flatten:=(ac9.1 (ac9.1 nd).2).1;have xB:x∉B:=fun k=>nx (by simp[k]);have xA:x∉A:=fun k=>nx (by simp[k]);have yB:y∉B:=fun k=>ny (by simp[k]);have yA:y∉A:=fun k=>ny (by simp[k]);have Tg:∀z∈B++A++(p2++q2).flatten,z∈D:=fun z hz=>pD.mem_iff.1 hz;have nB:∀u∈B,f' u≠x→f u=f' u:=fun u hu bw=>by
  rw[hf u (Tg u (by simp[hu]))];unfold wi;have:f' u≠y:=fun k=>by
   rcases pB.step hu with m|m
   ·exact yB (k▸m)
   ·exact bw m
  rw[if_neg bw,if_neg this]
 have nA:∀u∈A,f' u≠y→f u=f' u:=fun u hu bw=>by
  rw[hf u (Tg u (by simp[hu]))];unfold wi;have:f' u≠x:=fun k=>by
   rcases pA.step hu with m|m
   ·exact xA (k▸m)
   ·exact bw m
  rw[if_neg this,if_neg bw]
 have eB:∀u∈B,f' u=x→f u=if f' y=y then f' x else f' y:=fun u hu heq=>by rw[hf u (Tg u (by simp[hu]))];unfold wi;rw[if_pos heq]
 have eA:∀u∈A,f' u=y→f u=if f' x=x then f' y else f' x:=fun u hu heq=>by rw[hf u (Tg u (by simp[hu]))];unfold wi;rw[if_neg (by rw[heq];exact fun k=>UQ k.symm),if_pos heq]
 have cBA:∀c∈kO (B++A),kQ f c:=fun c hc=>by
  cases B with
  |nil =>
   cases A with
   |nil=>simp[kO]at hc
   |cons a A =>
    have hc:c=a::A:=by simpa[kO] using hc
    subst hc;refine Path.kN pA (fun k=>yA (mE k)) nA (fun u hu heq=>?_);rw[eA u hu heq,if_pos (show f' x=x from fx)];exact fy
  |cons b B =>
   have fxb:f' x=b:=fx;have bx:b≠x:=fun k=>xB (by simp[k])
   cases A with
   |nil =>
    have hc:c=b::B:=by simpa[kO] using hc
    subst hc;refine Path.kN pB (fun k=>xB (mE k)) nB (fun u hu heq=>?_);rw[eB u hu heq,if_pos (show f' y=y from fy)];exact fxb
   |cons a A =>
    have hc:c=(b::B)++(a::A):=by simpa[kO] using hc
    subst hc;have fya:f' y=a:=fy;have ay:a≠y:=fun k=>yA (by simp[k]);refine kQ.two.2 ⟨Path.kN pB (fun k=>xB (mE k)) nB (fun u hu heq=>?_),Path.kN pA (fun k=>yA (mE k)) nA (fun u hu heq=>?_)⟩
    ·rw[eB u hu heq,if_neg (by rw[fya];exact ay)];exact fya
    ·rw[eA u hu heq,if_neg (by rw[fxb];exact bx)];exact fxb
 have cR:∀c∈p2++q2,kQ f c:=fun c hc=>by
  have Ow:c∈p++q:=by rw[Bb];rcases acw.1 hc with k|k<;>simp[k]
  have CV:kQ f' c:=h.c c (by rcases acw.1 Ow with k|k<;>simp[k]);refine CV.congr fun z hz=>?_;have hzf:∀u∈c,u∈(p2++q2).flatten:=fun u hu=>aeE.2 ⟨c,hc,hu⟩;have hm:=hzf _ (CV.step hz);rw[hf z (Tg z (List.mem_append_right _ (hzf z hz)))];unfold wi;rw[if_neg (fun k=>nx (List.mem_append_right _ (by rw[←k];exact hm))),if_neg (fun k=>ny (List.mem_append_right _ (by rw[←k];exact hm)))]
 refine⟨kO (B++A)++(p2++q2),⟨fun c hc=>?_,?_⟩,?_⟩
 ·rcases acw.1 hc with k|k
  ·exact cBA c k
  ·exact cR c k
 ·rw[List.flatten_append,uG];exact pD
 ·have eBA:(if f' x=x∧f' y=y then 0 else 1)=nz (B++A):=by
   cases B with
   |nil =>
    cases A with
    |nil=>exact if_pos ⟨fx,fy⟩
    |cons a A=>exact if_neg (fun k=>yA (by rw[←k.2,show f' y=a from fy];simp))
   |cons b B=>exact if_neg (fun k=>xB (by rw[←k.1,show f' x=b from fx];simp))
  rw[eBA];have hl:(p++q).length=(p2++c2::q2).length:=by rw[Bb]
  simp only[List.length_append,E3,List.length_cons]at hl ⊢;omega
end
end Go.Cy
namespace Go.Vs
open Go.Proofs Go.Cy
def skip(x:ae)(s:ae→ae)(z:ae):ae:=if s z=x then s x else s z
def jc(row:List ae)(x:ae):ae:=(cE row x 1).getD zD
theorem wj{row:List ae}(hn:row.Nodup){i:Nat}{x:ae}(hx:row[i]? = some x):jc row x=(row[(i+1)%row.length]?).getD zD:=by unfold jc cE;rw[if_pos (List.mem_of_getElem? hx),VN hn hx,Int.toNat_natCast]
theorem E4{row:List ae}(hn:row.Nodup):∀(r p:List ae),row=p++r→Path (jc row) r (row.head?.getD zD)
 |[],_,_=>trivial
 |x::r,p,h=>by
  refine⟨?_,E4 hn r (p++[x]) (by rw[h];simp)⟩;have hx:row[p.length]? = some x:=by rw[h];simp
  rw[wj hn hx]
  cases r with
  |nil =>
   have hl:row.length=p.length+1:=by rw[h];simp
   rw[hl,Nat.mod_self];show(row[0]?).getD zD=row.head?.getD zD;rw[List.head?_eq_getElem?]
  |cons y r =>
   have hl:p.length+1<row.length:=by rw[h];simp
   rw[Nat.mod_eq_of_lt hl];have:row[p.length+1]? = some y:=by rw[h];simp
   rw[this];rfl
theorem CW{row:List ae}(hn:row.Nodup)(h0:row≠[]):kQ (jc row) row:=by
 have:=E4 hn row [] rfl
 cases row with
 |nil=>exact absurd rfl h0
 |cons x r=>exact this
theorem CX{f g:ae→ae}:∀{a:List ae} {z:ae},Path f a z→Path g a z→∀x∈a,f x=g x
 |y::r,z,p,q,x,hx=>by
  rcases aa1.1 hx with rfl|hx
  ·exact p.1.trans q.1.symm
  ·exact CX p.2 q.2 x hx
theorem O9{f g:ae→ae}{c:List ae}(h:kQ f c)(k:kQ g c):∀x∈c,f x=g x:=by
 cases c with
 |nil=>exact h.elim
 |cons y r=>exact CX h k
theorem Ti{f:ae→ae}{row:List ae}{j:Nat}(h:kQ f (Dy row j)):kQ f row:=by
 unfold Dy at h;have:=kQ.Dy h
 rwa [List.take_append_drop]at this
theorem oU{row:List ae}(hn:row.Nodup){x:ae}(hx:x∈row):jc row x∈row:=(CW hn (List.ne_nil_of_mem hx)).step hx
theorem E5{f:ae→ae}:∀{a:List ae} {z:ae},Path f a z→a≠[]→∃l,l∈a∧f l=z
 |[x],z,p,_=>⟨x,by simp,p.1⟩
 |x::y::r,z,p,_=>by obtain⟨l,h1,h2⟩:=E5 p.2 (by simp);exact⟨l,aaY _ h1,h2⟩
theorem Pb{row:List ae}(hn:row.Nodup){x y:ae}(hx:x∈row)(hy:y∈row)(h:jc row x=jc row y):x=y:=by
 obtain⟨i,hi⟩:=aeN hx;obtain⟨j,hj⟩:=aeN hy;have ng:=(aaW.1 hi).1;have J0:=(aaW.1 hj).1;have hp:0<row.length:=by omega
 rw[wj hn hi,wj hn hj,List.getElem?_eq_getElem (Nat.mod_lt _ hp),List.getElem?_eq_getElem (Nat.mod_lt _ hp)]at h;have h2:(i+1)%row.length=(j+1)%row.length:=E0 hn (by simpa using h);have h3:i=j:=by
  by_cases a:i+1<row.length<;>by_cases b:j+1<row.length
  ·rw[Nat.mod_eq_of_lt a,Nat.mod_eq_of_lt b]at h2;omega
  ·have:j+1=row.length:=by omega
   rw[Nat.mod_eq_of_lt a,this,Nat.mod_self]at h2;omega
  ·have:i+1=row.length:=by omega
   rw[Nat.mod_eq_of_lt b,this,Nat.mod_self]at h2;omega
  ·omega
 subst h3;rw[hi]at hj;exact acv hj
theorem Pc{row:List ae}(hn:row.Nodup){x z:ae}(hx:x∈row)(hz:z∈row)(hzx:z≠x):jc (cy row x) z=skip x (jc row) z:=by
 obtain⟨A,B,rfl⟩:=aeD hx;obtain⟨k,hk⟩:=aeN hx;have he:(A++x::B).filter (fun e=>decide (e≠x))=A++B:=by
  have hx2:(A++x::B)[A.length]? = some x:=by simp
  rw[xT hn hx2];simp
 have Eo:(x::(B++A)).Nodup:=by have p:(A++x::B).Perm (x::(B++A)):=aeQ.trans (List.Perm.cons x aeR);exact p.nodup_iff.1 hn
 have Dt:z∈B++A:=by
  rcases acw.1 hz with k|k
  ·exact aco _ k
  ·rcases aa1.1 k with k|k
   ·exact absurd k hzx
   ·exact aa2 _ k
 have c1:kQ (jc (A++x::B)) (x::(B++A)):=by have:=(CW hn (List.ne_nil_of_mem hx)).Dy;simpa using this
 obtain⟨fx,pL⟩:=(show Path (jc (A++x::B)) (x::(B++A)) x from c1);have c2:kQ (skip x (jc (A++x::B))) (B++A):=by
  generalize hL:B++A=L at *
  cases L with
  |nil=>simp at Dt
  |cons l L =>
   have fx:jc (A++x::B) x=l:=fx;have vU:x∉l::L:=(ac9.1 Eo).1;refine Path.kN pL (fun k=>vU (mE k)) (fun u hu bw=>?_) (fun u hu heq=>?_)
   ·unfold skip;rw[if_neg bw]
   ·unfold skip;rw[if_pos heq,fx]
 have hr:cy (A++x::B) x=cx (A++B):=by unfold cy;rw[he]
 obtain⟨j,hj,hjr⟩:=Jg (A++B);have nAB:(A++B).Nodup:=(aeR (l₁:=B) (l₂:=A)).nodup_iff.1 (ac9.1 Eo).2;have aiM:(cy (A++x::B) x).Nodup:=by rw[hr];exact(j4 _).nodup_iff.2 nAB
 have hzm:z∈cy (A++x::B) x:=by
  rw[hr,IX];rcases acw.1 Dt with k|k
  ·exact aco _ k
  ·exact aa2 _ k
 have c3:kQ (jc (cy (A++x::B) x)) (A++B):=by have:=CW aiM (List.ne_nil_of_mem hzm);generalize jc (cy (A++x::B) x)=g at *;rw[hr,hjr]at this;exact Ti this
 exact O9 (kQ.Dy c3) c2 z Dt
def sg(d:aj)(x:ae):ae:=(oM d x).getD zD
def ph(d:aj)(x:ae):ae:=(IY d x).getD zD
theorem CY{d:aj}(h:Rw d.1){v:ah}{x:ae}(hv:v∈d.1)(hx:x∈v.2.1):oM d x=cE v.2.1 x 1:=by unfold oM bP;rw[iM h hv hx];show cE (aW d v.1) x 1=_;rw[iX h.s hv]
theorem oV{d:aj}(h:Rw d.1){v:ah}{x:ae}(hv:v∈d.1)(hx:x∈v.2.1):sg d x=jc v.2.1 x:=by unfold sg jc;rw[CY h hv hx]
theorem Ln{d:aj}(h:Rw d.1){x:ae}(hx:x∈ax d.1):oM d x=some (sg d x):=by
 obtain⟨v,hv,jG⟩:=bh.1 hx;have:oM d x=some (jc v.2.1 x):=by rw[CY h hv jG];unfold jc cE;rw[if_pos jG];have hp:0<v.2.1.length:=aeJ jG;rw[List.getElem?_eq_getElem (Nat.mod_lt _ hp)];rfl
 rw[oV h hv jG,this]
theorem VQ{d:aj}(h:Rw d.1){x:ae}(hx:x∈ax d.1):sg d x∈ax d.1:=by obtain⟨v,hv,jG⟩:=bh.1 hx;rw[oV h hv jG];exact bh.2 ⟨v,hv,oU (h.ring hv) jG⟩
theorem Tj{d:aj}(h:Rw d.1){x y:ae}(hx:x∈ax d.1)(hy:y∈ax d.1)(he:sg d x=sg d y):x=y:=by obtain⟨v,hv,jG⟩:=bh.1 hx;obtain⟨w,hw,hyw⟩:=bh.1 hy;rw[oV h hv jG,oV h hw hyw]at he;have h1:=oU (h.ring hv) jG;have h2:=oU (h.ring hw) hyw;rw[←he]at h2;have hwv:=h.one hv hw h1 h2;subst hwv;exact Pb (h.ring hw) jG hyw he
theorem qk{d:aj}(h:Rw d.1){x z:ae}(hx:x∈ax d.1)(hz:z∈ax (aJ d x).1):sg (aJ d x) z=skip x (sg d) z:=by
 obtain⟨p,q⟩:=fG h hx;obtain⟨v,hv,jG⟩:=bh.1 hx;have hzd:z∈ax d.1:=p.mem_iff.2 (aaY _ hz);have hzx:z≠x:=fun k=>(ac9.1 (p.nodup_iff.1 h.n)).1 (k▸hz);obtain⟨w,hw,G9⟩:=bh.1 hz;have hr:=j6 h hv jG;have Kq:w∈d.1.map (sH v.1 (cy v.2.1 x)):=by rw[hr]at hw;exact hw
 obtain⟨u,hu,hwu⟩:=adD.1 Kq;rw[oV q hw G9];by_cases Ux:u.1=v.1
 ·have Ux:u=v:=by have h1:=iq h.s hv;have h2:=iq h.s hu;rw[Ux,h1]at h2;exact(acv h2).symm
  subst Ux;have nT:w.2.1=cy u.2.1 x:=by rw[←hwu];unfold sH;rw[if_pos rfl]
  rw[nT]at G9 ⊢;have Lo:z∈u.2.1:=(sP jG (h.ring hu)).mem_iff.2 (aaY _ G9);rw[Pc (h.ring hu) jG Lo hzx];unfold skip;rw[oV h hu Lo,oV h hu jG]
 ·have nT:w=u:=by rw[←hwu];unfold sH;rw[if_neg Ux]
  subst nT;unfold skip;rw[oV h hu G9,if_neg];intro k;have:=oU (h.ring hu) G9;rw[k]at this;exact Ux (congrArg Prod.fst (h.one hv hu jG this))
theorem Jk{d e:aj}(h:d.1=e.1)(x:ae):oM d x=oM e x:=by obtain⟨a,b⟩:=d;obtain⟨c,f⟩:=e;simp only at h;subst h;rfl
theorem lu{x:ae}(h:x.2=0∨x.2=1):au (au x)=x:=by obtain⟨x1,x2⟩:=x;simp only at h;rcases h with rfl|rfl<;>rfl
theorem Wf.side{d:aj}(h:Wf d){x:ae}(hx:x∈ax d.1):x.2=0∨x.2=1:=by obtain⟨e,_,_,k⟩:=cH.1 (h.pd.mem_iff.1 hx);exact k
theorem Wf.other{d:aj}(h:Wf d){x:ae}(hx:x∈ax d.1):au x∈ax d.1:=by
 obtain⟨e,he,h1,h2⟩:=cH.1 (h.pd.mem_iff.1 hx);refine h.pd.mem_iff.2 (cH.2 ⟨e,he,h1,?_⟩);obtain⟨_,k⟩:=iZ h2;rcases k with⟨_,k⟩|⟨_,k⟩
 ·exact .inr k
 ·exact .inl k
theorem Jl{d:aj}{x:ae}(hx:x∈ax d.1):(bP d x).isSome=true:=by obtain⟨v,hv,jG⟩:=bh.1 hx;unfold bP Gt;rw[Option.isSome_map,List.find?_isSome];exact⟨v,hv,by simpa using jG⟩
theorem nm{d:aj}{x:ae}(hx:x∈ax d.1):ph d x=sg d (au x):=by unfold ph IY sg;rw[if_pos (Jl hx)]
theorem Jm{d:aj}(h:Wf d){x:ae}(hx:x∈ax d.1):IY d x=some (ph d x):=by rw[nm hx];unfold IY;rw[if_pos (Jl hx)];exact Ln h.rw (h.other hx)
theorem Tk{d:aj}(h:Wf d){x:ae}(hx:x∈ax d.1):ph d x∈ax d.1:=by rw[nm hx];exact VQ h.rw (h.other hx)
theorem Y0{d:aj}(h:Wf d){x y:ae}(hx:x∈ax d.1)(hy:y∈ax d.1)(he:ph d x=ph d y):x=y:=by rw[nm hx,nm hy]at he;have:=Tj h.rw (h.other hx) (h.other hy) he;rw[←lu (h.side hx),←lu (h.side hy),this]
theorem Jn{α:Type}[DecidableEq α]:∀{l D:List α},l.Nodup→(∀x∈l,x∈D)→l.length≤D.length
 |[],_,_,_=>aeH _
 |x::r,D,hn,hs=>by have h1:=ac9.1 hn;have hx:=hs x (acr ..);have ih:=Jn (l:=r) (D:=D.erase x) h1.2 (fun y hy=>(ae0 (fun k=>h1.1 (by rw[←k];exact hy))).2 (hs y (aaY _ hy)));rw[List.length_erase_of_mem hx]at ih;have:=aeJ hx;simp;omega
theorem Tl{d:aj}(h:Wf d){out:List ae}{y:ae}(hn:out.Nodup)(hs:∀z∈out,z∈ax d.1)(hp:Path (ph d) out y):y∉out.tail:=fun hy=>by
 cases out with
 |nil=>simp at hy
 |cons x r =>
  have hy:y∈r:=hy;obtain⟨p,q,rfl⟩:=aeD hy;have key:∀(x:ae) (p:List ae),Path (ph d) (x::(p++y::q)) y→(x::(p++y::q)).Nodup→(∀z∈x::(p++y::q),z∈ax d.1)→False:=by
   intro x p
   induction p generalizing x with
   |nil =>intro hp hn hs;have h1:ph d x=y:=hp.1;obtain⟨l,h2,h3⟩:=E5 hp.2 (by simp);have:=Y0 h (hs x (by simp)) (hs l (aaY _ h2)) (h1.trans h3.symm);subst this;exact(ac9.1 hn).1 h2
   |cons u p ih =>intro hp hn hs;exact ih u hp.2 (ac9.1 hn).2 (fun z hz=>hs z (aaY _ hz))
  exact key x p hp hn hs
theorem Wf.Jo{d:aj}(h:Wf d):(ax d.1).length≤80:=by
 have h2:=h.pd.length_eq;have h3:=h.ne;have:(ends d.2).length=2*d.2.length:=by
  clear h2 h3 h;generalize d.2=l
  induction l with
  |nil=>rfl
  |cons e r ih=>rw[j5];simp[ih];omega
 omega
theorem CZ{d:aj}(h:Wf d)(x:ae):∀(n:Nat) (y:ae) (r:List ae),(x::r).length+n=82→(x::r).Nodup→(∀z∈x::r,z∈ax d.1)→Path (ph d) (x::r) y→y∈ax d.1 → ∃r',rD d x n y (x::r)=x::r'∧(x::r').Nodup∧(∀z∈x::r',z∈ax d.1)∧kQ (ph d) (x::r')
 |0,y,r,hl,hn,hs,hp,hy=>by have:=Jn hn hs;have:=h.Jo;omega
 |n+1,y,r,hl,hn,hs,hp,hy=>by
  unfold rD;by_cases he:y=x
  ·subst he;rw[if_pos rfl];exact⟨r,rfl,hn,hs,hp⟩
  ·rw[if_neg he];have hyr:y∉x::r:=fun k=>by
    rcases aa1.1 k with k|k
    ·exact he k
    ·exact Tl h hn hs hp k
   have e:(IY d y).getD zD=ph d y:=rfl;rw[e];refine CZ h x n (ph d y) (r++[y]) (by simp at hl ⊢;omega) ?_ (fun z hz=>?_) ?_ (Tk h hy)
   ·show((x::r)++[y]).Nodup;refine aeB.2 ⟨hn,by simp,fun a ha b hb=>?_⟩;simp at hb;subst hb;exact fun k=>hyr (k▸ha)
   ·have hz:z∈(x::r)++[y]:=hz;rcases acw.1 hz with k|k
    ·exact hs z k
    ·simp at k;rw[k];exact hy
   ·show Path (ph d) ((x::r)++[y]) (ph d y);exact Path.app.2 ⟨hp,rfl,trivial⟩
theorem C0{d:aj}(h:Wf d){x:ae}(hx:x∈ax d.1):∃r,bu d x=x::r∧(x::r).Nodup∧(∀z∈x::r,z∈ax d.1)∧kQ (ph d) (x::r):=by unfold bu;rw[Jm h hx];exact CZ h x 81 (ph d x) [] rfl (by simp) (fun z hz=>by simp at hz;rw[hz];exact hx) ⟨rfl,trivial⟩ (Tk h hx)
theorem rL{d:aj}(h:Wf d):∀(l:List ae) (out:List (List ae)),(∀x∈l,x∈ax d.1)→(∀c∈out,kQ (ph d) c)→out.flatten.Nodup→(∀x∈out.flatten,x∈ax d.1) →(∀c∈iy d l out out.flatten,kQ (ph d) c)∧(iy d l out out.flatten).flatten.Nodup∧(∀x∈(iy d l out out.flatten).flatten,x∈ax d.1)∧(∀x,x∈l∨x∈out.flatten→x∈(iy d l out out.flatten).flatten)
 |[],out,_,h1,h2,h3=>⟨h1,h2,h3,fun x k=>k.resolve_left (by simp)⟩
 |x::l,out,hl,h1,h2,h3=>by
  unfold iy;by_cases hx:x∈out.flatten
  ·rw[if_pos hx];obtain⟨a,b,c,e⟩:=rL h l out (fun y hy=>hl y (aaY _ hy)) h1 h2 h3;refine⟨a,b,c,fun y hy=>e y ?_⟩;rcases hy with hy|hy
   ·rcases aa1.1 hy with rfl|hy
    ·exact .inr hx
    ·exact .inl hy
   ·exact .inr hy
  ·rw[if_neg hx];obtain⟨r,t1,t2,t3,t4⟩:=C0 h (hl x (acr ..));have ef:out.flatten++bu d x=(out++[bu d x]).flatten:=by simp
   rw[ef];have aiO:∀y∈bu d x,y∉out.flatten:=fun y hy k=>by obtain⟨c,hc,hyc⟩:=aeE.1 k;rw[t1]at hy;exact hx (aeE.2 ⟨c,hc,t4.same (h1 c hc) hy hyc (acr ..)⟩)
   obtain⟨a,b,c,e⟩:=rL h l (out++[bu d x]) (fun y hy=>hl y (aaY _ hy)) (fun c hc=>by
     rcases acw.1 hc with k|k
     ·exact h1 c k
     ·simp at k;rw[k,t1];exact t4)
    (by rw[←ef];refine aeB.2 ⟨h2,by rw[t1];exact t2,fun u hu w hw k=>aiO w hw (k▸hu)⟩)
    (fun y hy=>by
     rw[←ef]at hy;rcases acw.1 hy with k|k
     ·exact h3 y k
     ·rw[t1]at k;exact t3 y k)
   refine⟨a,b,c,fun y hy=>e y ?_⟩;rw[←ef];rcases hy with hy|hy
   ·rcases aa1.1 hy with rfl|hy
    ·exact .inr (aco _ (by rw[t1];simp))
    ·exact .inl hy
   ·exact .inr (aa2 _ hy)
theorem lx:∀l:List ai,eW l=ends l
 |[]=>rfl
 |e::r=>by rw[j5,eW,lx r]
theorem cj{d:aj}(h:Wf d):G8 (ph d) (ax d.1) (c6 d):=by obtain⟨a,b,c,e⟩:=rL h (eW d.2) [] (fun x hx=>h.pd.mem_iff.2 (by rw[←lx];exact hx)) (by simp) (by simp) (by simp);refine⟨a,(List.perm_ext_iff_of_nodup b h.rw.n).2 fun x=>⟨c x,fun hx=>e x (.inl (by rw[lx];exact h.pd.mem_iff.1 hx))⟩⟩
def dw(d:aj)(x:ID):aj:=bj (aJ (aJ d (x,0)) (x,1)) zI x
theorem Lq{d:aj}(h:Wf d)(x y:ae)(e:ID):(bj (aJ (aJ d x) y) zI e).1=(aJ (aJ d x) y).1:=wg (j7 (j7 h.gv x) y)
theorem C1(x:ID):au (x,0)=(x,1):=rfl
theorem Tn(x:ID):au (x,1)=(x,0):=rfl
structure b5(d':aj)(x:ID):Prop where
 wf:Wf d'
 e:(aX d'.2 x).isSome=true
theorem b5.x0{d':aj}{x:ID}(h:b5 d' x):(x,0)∈ax d'.1:=h.wf.jB h.e (.inl rfl)
theorem b5.x1{d':aj}{x:ID}(h:b5 d' x):(x,1)∈ax d'.1:=h.wf.jB h.e (.inr rfl)
theorem b5.p1{d':aj}{x:ID}(h:b5 d' x):(ax d'.1).Perm ((x,0)::ax (aJ d' (x,0)).1)∧Rw (aJ d' (x,0)).1:=fG h.wf.rw h.x0
theorem b5.x1'{d':aj}{x:ID}(h:b5 d' x):(x,1)∈ax (aJ d' (x,0)).1:=by
 rcases aa1.1 (h.p1.1.mem_iff.1 h.x1) with k|k
 ·cases k
 ·exact k
theorem b5.p2{d':aj}{x:ID}(h:b5 d' x):(ax (aJ d' (x,0)).1).Perm ((x,1)::ax (aJ (aJ d' (x,0)) (x,1)).1)∧Rw (aJ (aJ d' (x,0)) (x,1)).1:=fG h.p1.2 h.x1'
theorem b5.v{d':aj}{x:ID}(h:b5 d' x):(dw d' x).1=(aJ (aJ d' (x,0)) (x,1)).1:=Lq h.wf _ _ _
theorem b5.w{d':aj}{x:ID}(h:b5 d' x):Wf (dw d' x):=h.wf.cut h.e
theorem b5.p{d':aj}{x:ID}(h:b5 d' x):(ax d'.1).Perm ((x,0)::(x,1)::ax (dw d' x).1):=by rw[h.v];exact h.p1.1.trans (List.Perm.cons _ h.p2.1)
theorem b5.sg{d':aj}{x:ID}(h:b5 d' x){z:ae}(hz:z∈ax (dw d' x).1):sg (dw d' x) z=skip (x,1) (skip (x,0) (sg d')) z:=by
 have e1:Vs.sg (dw d' x) z=Vs.sg (aJ (aJ d' (x,0)) (x,1)) z:=by unfold Vs.sg;rw[Jk h.v]
 rw[h.v]at hz;have yC:z∈ax (aJ d' (x,0)).1:=h.p2.1.mem_iff.2 (aaY _ hz);rw[e1,qk h.p1.2 h.x1' hz];unfold skip;rw[qk h.wf.rw h.x0 yC,qk h.wf.rw h.x0 h.x1'];rfl
theorem b5.ph{d':aj}{x:ID}(h:b5 d' x){z:ae}(hz:z∈ax (dw d' x).1):ph (dw d' x) z=wi (ph d') (x,0) (x,1) z:=by
 have Pz:z∈ax d'.1:=h.p.mem_iff.2 (aaY _ (aaY _ hz));have ho:=h.w.other hz;have nK:au z∈ax d'.1:=h.p.mem_iff.2 (aaY _ (aaY _ ho));have nd:=h.p.nodup_iff.1 h.wf.rw.n;have KH:au z≠(x,1):=fun k=>(ac9.1 (ac9.1 nd).2).1 (k▸ho);rw[nm hz,h.sg ho];unfold wi;rw[nm Pz,nm h.x0,nm h.x1,C1,Tn];generalize hW:au z=w at *;have inj:Vs.sg d' (x,1)=(x,0)→Vs.sg d' w≠(x,0):=fun k1 k2=>KH (Tj h.wf.rw nK h.x1 (k2.trans k1.symm));unfold skip;by_cases c1:Vs.sg d' w=(x,0)
 ·rw[if_pos c1];by_cases c2:Vs.sg d' (x,0)=(x,1)
  ·rw[if_pos c2,if_pos c2];by_cases c3:Vs.sg d' (x,1)=(x,0)
   ·exact absurd c1 (inj c3)
   ·rw[if_neg c3,if_pos c1]
  ·rw[if_neg c2,if_neg c2,if_pos c1]
 ·rw[if_neg c1];by_cases c2:Vs.sg d' w=(x,1)
  ·rw[if_pos c2,if_neg c1]
  ·rw[if_neg c2,if_neg c1]
def al(l:List ah):Nat:=l.countP fun v=>v.2.1.isEmpty
theorem E6{row:List ae}(hn:row.Nodup){x:ae}(hx:x∈row):jc row x=x↔row.length=1:=by
 obtain⟨i,hi⟩:=aeN hx;have ng:=(aaW.1 hi).1;have hp:0<row.length:=by omega
 rw[wj hn hi,List.getElem?_eq_getElem (Nat.mod_lt _ hp)];constructor
 ·intro h;have h1:row[(i+1)%row.length]? = some x:=by rw[List.getElem?_eq_getElem (Nat.mod_lt _ hp)];exact congrArg some (by simpa using h)
  have h2:=E1 hn h1 hi;by_cases c:i+1<row.length
  ·rw[Nat.mod_eq_of_lt c]at h2;omega
  ·have:i+1=row.length:=by omega
   rw[this,Nat.mod_self]at h2;omega
 ·intro h;have h0:i=0:=by omega
  subst h0;have:(0+1)%row.length=0:=by rw[h]
  simp only[this];obtain⟨h1,h2⟩:=aaW.1 hi;simpa using h2
theorem C2{d:aj}(h:Rw d.1){x:ae}(hx:x∈ax d.1):al (aJ d x).1=al d.1+if sg d x=x then 1 else 0:=by
 obtain⟨v,hv,jG⟩:=bh.1 hx;obtain⟨a,b,h1,_,_,h2⟩:=rJ h.s hv;have e1:(aJ d x).1=a++(v.1,(cy v.2.1 x,v.2.2))::b:=by rw[j6 h hv jG];exact h2 _
 have p:=sP jG (h.ring hv);have hl:=p.length_eq;have v0:v.2.1.isEmpty=false:=by
  cases hq:v.2.1 with
  |nil=>rw[hq]at jG;simp at jG
  |cons _ _=>rfl
 have v1:(cy v.2.1 x).isEmpty=decide (sg d x=x):=by rw[Bool.eq_iff_iff,List.isEmpty_iff,decide_eq_true_eq,oV h hv jG,E6 (h.ring hv) jG,←List.length_eq_zero_iff];simp at hl;omega
 rw[e1]
 conv=>rhs;rw[h1]
 unfold al;rw[List.countP_append,List.countP_append,List.countP_cons,List.countP_cons];simp only[v0,v1];by_cases c:sg d x=x
 ·simp[c];omega
 ·simp[c]
def ft(d:aj):Nat:=(c6 d).length+al d.1
def Tp(d:aj)(x y:ae):Prop:=∃c∈c6 d,x∈c∧y∈c
theorem b5.al{d':aj}{x:ID}(h:b5 d' x):Vs.al (dw d' x).1=Vs.al d'.1+(if Vs.ph d' (x,1)=(x,0) then 1 else 0)+(if Vs.ph d' (x,0)=(x,1)∨(Vs.ph d' (x,0)=(x,0)∧Vs.ph d' (x,1)=(x,1)) then 1 else 0):=by
 rw[h.v,C2 h.p1.2 h.x1',C2 h.wf.rw h.x0];have e0:Vs.ph d' (x,0)=Vs.sg d' (x,1):=nm h.x0;have e1:Vs.ph d' (x,1)=Vs.sg d' (x,0):=nm h.x1;rw[e0,e1,qk h.wf.rw h.x0 h.x1'];unfold skip;congr 1;by_cases c:Vs.sg d' (x,1)=(x,0)
 ·rw[if_pos c];by_cases k:Vs.sg d' (x,0)=(x,1)
  ·rw[if_pos k,if_pos (.inr ⟨c,k⟩)]
  ·rw[if_neg k,if_neg];rintro(m|⟨_,m⟩)
   ·rw[c]at m;cases m
   ·exact k m
 ·rw[if_neg c];by_cases k:Vs.sg d' (x,1)=(x,1)
  ·rw[if_pos k,if_pos (.inl k)]
  ·rw[if_neg k,if_neg];rintro(m|⟨m,_⟩)
   ·exact k m
   ·exact c m
theorem adh(x:ID):((x,0):ae)≠(x,1):=fun k=>by cases k
theorem b5.same{d':aj}{x:ID}(h:b5 d' x)(hf:Tp d' (x,0) (x,1)):ft (dw d' x)=ft d'+1∧(c6 (dw d' x)).length+1=(c6 d').length+(if Vs.ph d' (x,0)=(x,1) then 0 else 1)+(if Vs.ph d' (x,1)=(x,0) then 0 else 1):=by
 obtain⟨c,hc,h0,h1⟩:=hf;have nd:=h.p.nodup_iff.1 h.wf.rw.n;have dec:G8 (Vs.ph d') ((x,0)::(x,1)::ax (dw d' x).1) (c6 d'):=⟨(cj h.wf).c,(cj h.wf).p.trans h.p⟩;obtain⟨cs,k1,k2⟩:=G8.Tf (adh x) nd dec (fun z hz=>h.ph hz) hc h0 h1;have k3:=G8.count (h.w.rw.n) (cj h.w) k1;have k4:=h.al;have CV:=(cj h.wf).c c hc;have n0:¬(Vs.ph d' (x,0)=(x,0)):=fun k=>by
  obtain⟨n,hn⟩:=CV.reach h0 h1;have:∀n,it (Vs.ph d') n (x,0)=(x,0):=fun n=>by
   induction n with
   |zero=>rfl
   |succ n ih=>show it (Vs.ph d') n (Vs.ph d' (x,0))=_;rw[k];exact ih
  rw[this]at hn;cases hn
 refine⟨?_,by rw[k3];exact k2⟩;unfold ft;rw[k3,k4];by_cases c0:Vs.ph d' (x,0)=(x,1)
 ·rw[if_pos c0]at k2;rw[if_pos (Or.inl c0)];by_cases c1:Vs.ph d' (x,1)=(x,0)
  ·rw[if_pos c1]at k2 ⊢;omega
  ·rw[if_neg c1]at k2 ⊢;omega
 ·rw[if_neg c0]at k2;rw[if_neg (show ¬(Vs.ph d' (x,0)=(x,1)∨(Vs.ph d' (x,0)=(x,0)∧Vs.ph d' (x,1)=(x,1))) from fun m=>m.elim c0 fun m=>n0 m.1)];by_cases c1:Vs.ph d' (x,1)=(x,0)
  ·rw[if_pos c1]at k2 ⊢;omega
  ·rw[if_neg c1]at k2 ⊢;omega
theorem b5.diff{d':aj}{x:ID}(h:b5 d' x)(hf:¬Tp d' (x,0) (x,1)):ft (dw d' x)+1=ft d':=by
 have hm:(x,0)∈(c6 d').flatten:=(cj h.wf).p.mem_iff.2 h.x0;obtain⟨c,hc,h0⟩:=aeE.1 hm;have h1:(x,1)∉c:=fun k=>hf ⟨c,hc,h0,k⟩;have nd:=h.p.nodup_iff.1 h.wf.rw.n;have dec:G8 (Vs.ph d') ((x,0)::(x,1)::ax (dw d' x).1) (c6 d'):=⟨(cj h.wf).c,(cj h.wf).p.trans h.p⟩;obtain⟨cs,k1,k2⟩:=G8.Th (adh x) nd dec (fun z hz=>h.ph hz) hc h0 h1;have k3:=G8.count (h.w.rw.n) (cj h.w) k1;have k4:=h.al;have CV:=(cj h.wf).c c hc;have n0:¬(Vs.ph d' (x,0)=(x,1)):=fun k=>h1 (k▸CV.step h0);have n1:¬(Vs.ph d' (x,1)=(x,0)):=fun k=>by have Uo:(x,1)∈(c6 d').flatten:=(cj h.wf).p.mem_iff.2 h.x1;obtain⟨c2,o4,h2⟩:=aeE.1 Uo;have:=((cj h.wf).c c2 o4).step h2;rw[k]at this;exact hf ⟨c2,o4,this,h2⟩
 unfold ft;rw[k3,k4,if_neg n1];by_cases c:Vs.ph d' (x,0)=(x,0)∧Vs.ph d' (x,1)=(x,1)
 ·rw[if_pos c]at k2;rw[if_pos (.inr c)];omega
 ·rw[if_neg c]at k2;rw[if_neg (fun m=>m.elim n0 c)];omega
def Jp(d:aj)(a b:ID):Prop:=∃z∈ax d.1,bP d z=some a∧bP d (au z)=some b
inductive cV (d:aj):ID→ID→Prop
 |refl (a:ID):cV d a a
 |tail {a b c:ID}:cV d a b→Jp d b c→cV d a c
theorem cV.trans{d:aj}{a b c:ID}(h:cV d a b)(k:cV d b c):cV d a c:=by
 induction k with
 |refl=>exact h
 |tail _ j ih=>exact ih.tail j
theorem Jp.symm{d:aj}(hw:Wf d){a b:ID}(h:Jp d a b):Jp d b a:=by obtain⟨z,hz,h1,h2⟩:=h;exact⟨au z,hw.other hz,h2,by rw[lu (hw.side hz)];exact h1⟩
theorem Jp.conn{d:aj}{a b:ID}(h:Jp d a b):cV d a b:=(cV.refl a).tail h
theorem cV.symm{d:aj}(hw:Wf d){a b:ID}(h:cV d a b):cV d b a:=by
 induction h with
 |refl=>exact .refl _
 |tail _ j ih=>exact(j.symm hw).conn.trans ih
structure wm(d:aj)(R:List ID):Prop where
 n:R.Nodup
 v:∀r∈R,∃v∈d.1,v.1=r
 i:∀r∈R,∀s∈R,cV d r s→r=s
 c:∀v∈d.1,∃r∈R,cV d v.1 r
theorem GJ{d:aj}(hw:Wf d):∀{R R':List ID},R.Nodup→(∀r∈R,∀s∈R,cV d r s→r=s)→(∀r∈R,∃s∈R',cV d r s)→R.length≤R'.length
 |[],_,_,_,_=>aeH _
 |r::R,R',hn,hi,hc=>by obtain⟨s,hs,Ye⟩:=hc r (acr ..);have h1:=ac9.1 hn;have ih:=GJ hw (R:=R) (R':=R'.erase s) h1.2 (fun a ha b hb=>hi a (aaY _ ha) b (aaY _ hb)) (fun a ha=>by obtain⟨t,ht,yK⟩:=hc a (aaY _ ha);refine⟨t,(ae0 (fun k=>?_)).2 ht,yK⟩;subst k;have:=hi a (aaY _ ha) r (acr ..) (yK.trans (Ye.symm hw));exact h1.1 (this▸ha));rw[List.length_erase_of_mem hs]at ih;have:=aeJ hs;simp;omega
theorem wm.len{d:aj}(hw:Wf d){R R':List ID}(h:wm d R)(h':wm d R'):R.length=R'.length:=by
 refine Nat.le_antisymm (GJ hw h.n h.i fun r hr=>?_) (GJ hw h'.n h'.i fun r hr=>?_)
 ·obtain⟨v,hv,rfl⟩:=h.v r hr;exact h'.c v hv
 ·obtain⟨v,hv,rfl⟩:=h'.v r hr;exact h.c v hv
theorem wo{d:aj}(hw:Wf d){z:ae}(hz:z∈ax d.1):∃v∈d.1,z∈v.2.1∧bP d z=some v.1:=by obtain⟨v,hv,hzv⟩:=bh.1 hz;exact⟨v,hv,hzv,iM hw.rw hv hzv⟩
theorem C3{d:aj}(h:Rw d.1){x z:ae}(hx:x∈ax d.1)(hz:z∈ax (aJ d x).1):bP (aJ d x) z=bP d z:=by
 obtain⟨p,q⟩:=fG h hx;obtain⟨v,hv,jG⟩:=bh.1 hx;obtain⟨w,hw,G9⟩:=bh.1 hz;have hr:=j6 h hv jG;have Kq:w∈d.1.map (sH v.1 (cy v.2.1 x)):=by rw[hr]at hw;exact hw
 obtain⟨u,hu,hwu⟩:=adD.1 Kq;have bR:w.1=u.1:=by rw[←hwu];exact rH _ _ _
 have Lo:z∈u.2.1:=by
  by_cases Ux:u.1=v.1
  ·have Ux:u=v:=by have h1:=iq h.s hv;have h2:=iq h.s hu;rw[Ux,h1]at h2;exact(acv h2).symm
   subst Ux;have nT:w.2.1=cy u.2.1 x:=by rw[←hwu];unfold sH;rw[if_pos rfl]
   rw[nT]at G9;exact(sP jG (h.ring hu)).mem_iff.2 (aaY _ G9)
  ·have nT:w=u:=by rw[←hwu];unfold sH;rw[if_neg Ux]
   rw[←nT];exact G9
 show Gt (aJ d x).1 z=Gt d.1 z;rw[iM q hw G9,iM h hu Lo,bR]
theorem b5.at{d':aj}{x:ID}(h:b5 d' x){z:ae}(hz:z∈ax (dw d' x).1):bP (dw d' x) z=bP d' z:=by
 have e:bP (dw d' x) z=bP (aJ (aJ d' (x,0)) (x,1)) z:=by unfold bP;rw[h.v]
 rw[h.v]at hz;have yC:z∈ax (aJ d' (x,0)).1:=h.p2.1.mem_iff.2 (aaY _ hz);rw[e,C3 h.p1.2 h.x1' hz,C3 h.wf.rw h.x0 yC]
theorem b5.sub{d':aj}{x:ID}(h:b5 d' x){z:ae}(hz:z∈ax (dw d' x).1):z∈ax d'.1:=h.p.mem_iff.2 (aaY _ (aaY _ hz))
theorem b5.adj{d':aj}{x:ID}(h:b5 d' x){a b:ID}(k:Jp (dw d' x) a b):Jp d' a b:=by obtain⟨z,hz,h1,h2⟩:=k;exact⟨z,h.sub hz,by rw[←h.at hz];exact h1,by rw[←h.at (h.w.other hz)];exact h2⟩
theorem b5.conn{d':aj}{x:ID}(h:b5 d' x){a b:ID}(k:cV (dw d' x) a b):cV d' a b:=by
 induction k with
 |refl=>exact .refl _
 |tail _ j ih=>exact ih.tail (h.adj j)
theorem b5.aiP{d':aj}{x u w:ID}(h:b5 d' x)(hu:bP d' (x,0)=some u)(hw:bP d' (x,1)=some w){a b:ID}(k:Jp d' a b):Jp (dw d' x) a b∨(a=u∧b=w)∨(a=w∧b=u):=by
 obtain⟨z,hz,h1,h2⟩:=k;rcases aa1.1 (h.p.mem_iff.1 hz) with rfl|Dt
 ·rw[C1]at h2;rw[hu]at h1;rw[hw]at h2
  cases h1;cases h2
  exact .inr (.inl ⟨rfl,rfl⟩)
 rcases aa1.1 Dt with rfl|JX
 ·rw[Tn]at h2;rw[hw]at h1;rw[hu]at h2
  cases h1;cases h2
  exact .inr (.inr ⟨rfl,rfl⟩)
 ·exact .inl ⟨z,JX,by rw[h.at JX];exact h1,by rw[h.at (h.w.other JX)];exact h2⟩
theorem b5.Tq{d':aj}{x u w:ID}(h:b5 d' x)(hu:bP d' (x,0)=some u)(hw:bP d' (x,1)=some w){a b:ID}(k:cV d' a b) :
  cV (dw d' x) a b∨(cV (dw d' x) a u∧cV (dw d' x) w b)∨(cV (dw d' x) a w∧cV (dw d' x) u b):=by
 induction k with
 |refl=>exact .inl (.refl _)
 |tail _ j ih =>
  rcases h.aiP hu hw j with j|⟨rfl,rfl⟩|⟨rfl,rfl⟩
  ·rcases ih with k|⟨k,m⟩|⟨k,m⟩
   ·exact .inl (k.tail j)
   ·exact .inr (.inl ⟨k,m.tail j⟩)
   ·exact .inr (.inr ⟨k,m.tail j⟩)
  ·rcases ih with k|⟨k,m⟩|⟨k,m⟩
   ·exact .inr (.inl ⟨k,.refl _⟩)
   ·exact .inr (.inl ⟨k,.refl _⟩)
   ·exact .inl k
  ·rcases ih with k|⟨k,m⟩|⟨k,m⟩
   ·exact .inr (.inr ⟨k,.refl _⟩)
   ·exact .inl k
   ·exact .inr (.inr ⟨k,.refl _⟩)
theorem b5.ids{d':aj}{x:ID}(h:b5 d' x):(dw d' x).1.map (·.1)=d'.1.map (·.1):=by rw[h.v];unfold aJ Vs.cp;simp only[List.map_map];refine ae1 fun v hv=>?_;simp only[Function.comp,rH]
theorem b5.Lr{d':aj}{x:ID}(h:b5 d' x){r:ID}:(∃v∈(dw d' x).1,v.1=r)↔∃v∈d'.1,v.1=r:=by
 have e:∀l:List ah,(∃v∈l,v.1=r)↔r∈l.map (·.1):=fun l=>by rw[List.mem_map]
 rw[e,e,h.ids]
theorem b5.VR{d':aj}{x u w:ID}(h:b5 d' x)(hu:bP d' (x,0)=some u)(hw:bP d' (x,1)=some w)(k:cV (dw d' x) u w){R:List ID}(hr:wm d' R):wm (dw d' x) R:=by
 have key:∀{a b:ID},cV d' a b→cV (dw d' x) a b:=fun {a b} m=>by
  rcases h.Tq hu hw m with m|⟨m,q⟩|⟨m,q⟩
  ·exact m
  ·exact(m.trans k).trans q
  ·exact(m.trans (k.symm h.w)).trans q
 refine⟨hr.n,fun r zO=>h.Lr.2 (hr.v r zO),fun r zO s hs m=>hr.i r zO s hs (h.conn m),fun v hv=>?_⟩;obtain⟨v',A5,he⟩:=h.Lr.1 ⟨v,hv,rfl⟩;obtain⟨r,h1,h2⟩:=hr.c v' A5;exact⟨r,h1,by rw[←he];exact key h2⟩
theorem b5.MZ{d':aj}{x:ID}(h:b5 d' x):∃u w,bP d' (x,0)=some u∧bP d' (x,1)=some w∧(∃v∈d'.1,v.1=u)∧∃v∈d'.1,v.1=w:=by obtain⟨v,hv,_,h1⟩:=wo h.wf h.x0;obtain⟨v2,yw,_,h2⟩:=wo h.wf h.x1;exact⟨v.1,v2.1,h1,h2,⟨v,hv,rfl⟩,⟨v2,yw,rfl⟩⟩
theorem b5.XC{d':aj}{x u w:ID}(h:b5 d' x)(hu:bP d' (x,0)=some u)(hw:bP d' (x,1)=some w)(k:¬cV (dw d' x) u w){R:List ID}(hr:wm d' R):∃R2,wm (dw d' x) R2∧R2.length=R.length+1:=by
 have uv:∃v∈d'.1,v.1=u:=by obtain⟨v,hv,_,h1⟩:=wo h.wf h.x0;rw[hu]at h1;cases h1;exact⟨v,hv,rfl⟩
 have wv:∃v∈d'.1,v.1=w:=by obtain⟨v,hv,_,h1⟩:=wo h.wf h.x1;rw[hw]at h1;cases h1;exact⟨v,hv,rfl⟩
 have uw:cV d' u w:=Jp.conn ⟨(x,0),h.x0,hu,by rw[C1];exact hw⟩;obtain⟨v0,X1,hvu⟩:=uv;obtain⟨r,zO,hur⟩:=hr.c v0 X1;rw[hvu]at hur;have sep:∀s∈R.erase r,s∈R∧¬cV d' s u∧¬cV d' s w:=fun s hs=>by
  have h1:=aeZ hs;have h2:s≠r:=fun e=>by subst e;exact absurd hs (List.Nodup.not_mem_erase hr.n)
  exact⟨h1,fun m=>h2 (hr.i s h1 r zO (m.trans hur)),fun m=>h2 (hr.i s h1 r zO ((m.trans (uw.symm h.wf)).trans hur))⟩
 refine⟨u::w::R.erase r,⟨?_,?_,?_,?_⟩,?_⟩
 ·refine ac9.2 ⟨fun m=>?_,ac9.2 ⟨fun m=>(sep w m).2.2 (.refl _),hr.n.erase r⟩⟩;rcases aa1.1 m with m|m
  ·exact k (m▸.refl _)
  ·exact(sep u m).2.1 (.refl _)
 ·intro s hs;rcases aa1.1 hs with rfl|hs
  ·exact h.Lr.2 ⟨v0,X1,hvu⟩
  rcases aa1.1 hs with rfl|hs
  ·exact h.Lr.2 wv
  ·exact h.Lr.2 (hr.v s (sep s hs).1)
 ·intro a ha b hb m;rcases aa1.1 ha with ea|ha
  ·rcases aa1.1 hb with eb|hb
   ·rw[ea,eb]
   rcases aa1.1 hb with eb|hb
   ·exact absurd (ea▸eb▸m) k
   ·exact absurd ((h.conn (ea▸m)).symm h.wf) (sep b hb).2.1
  rcases aa1.1 ha with ea|ha
  ·rcases aa1.1 hb with eb|hb
   ·exact absurd ((ea▸eb▸m).symm h.w) k
   rcases aa1.1 hb with eb|hb
   ·rw[ea,eb]
   ·exact absurd ((h.conn (ea▸m)).symm h.wf) (sep b hb).2.2
  ·rcases aa1.1 hb with eb|hb
   ·exact absurd (eb▸h.conn m) (sep a ha).2.1
   rcases aa1.1 hb with eb|hb
   ·exact absurd (eb▸h.conn m) (sep a ha).2.2
   ·exact hr.i a (sep a ha).1 b (sep b hb).1 (h.conn m)
 ·intro v hv;obtain⟨v',A5,he⟩:=h.Lr.1 ⟨v,hv,rfl⟩;obtain⟨s,h1,h2⟩:=hr.c v' A5;rw[he]at h2;by_cases hsr:s=r
  ·subst hsr;rcases h.Tq hu hw (h2.trans (hur.symm h.wf)) with m|⟨m,_⟩|⟨m,_⟩
   ·exact⟨u,by simp,m⟩
   ·exact⟨u,by simp,m⟩
   ·exact⟨w,by simp,m⟩
  ·have X4:s∈R.erase r:=(ae0 hsr).2 h1;rcases h.Tq hu hw h2 with m|⟨_,q⟩|⟨_,q⟩
   ·exact⟨s,by simp[X4],m⟩
   ·exact absurd ((h.conn q).symm h.wf) (sep s X4).2.2
   ·exact absurd ((h.conn q).symm h.wf) (sep s X4).2.1
 ·have:=aeJ zO;simp only[List.length_cons,List.length_erase_of_mem zO];omega
theorem b5.Pd{d':aj}{x u w:ID}(h:b5 d' x)(hu:bP d' (x,0)=some u)(hw:bP d' (x,1)=some w)(hf:¬Tp d' (x,0) (x,1)):cV (dw d' x) u w:=by
 have hm:(x,0)∈(c6 d').flatten:=(cj h.wf).p.mem_iff.2 h.x0;obtain⟨c,hc,h0⟩:=aeE.1 hm;have h1:(x,1)∉c:=fun k=>hf ⟨c,hc,h0,k⟩;have CV:=(cj h.wf).c c hc;obtain⟨B,k1,k2⟩:=CV.head h0;have hcd:∀z∈c,z∈ax d'.1:=fun z hz=>(cj h.wf).p.mem_iff.1 (aeE.2 ⟨c,hc,hz⟩);have cn:c.Nodup:=by obtain⟨p,q,e⟩:=aeD hc;have:=(cj h.wf).p.nodup_iff.2 h.wf.rw.n;rw[e]at this;exact(aeB.1 ((gH p q c).nodup_iff.1 this)).1
 have bn:=k2.nodup_iff.2 cn;have adi:∀z∈ax d'.1,bP d' (Vs.ph d' z)=bP d' (au z):=fun z hz=>by have ho:=h.wf.other hz;obtain⟨v,hv,hzv⟩:=bh.1 ho;rw[nm hz,oV h.wf.rw hv hzv];show Gt d'.1 _=Gt d'.1 _;rw[iM h.wf.rw hv (oU (h.wf.rw.ring hv) hzv),iM h.wf.rw hv hzv]
 have inC:∀z∈B,z∈ax (dw d' x).1:=fun z hz=>by
  have ZV:z∈c:=k2.mem_iff.1 (aaY _ hz);rcases aa1.1 (h.p.mem_iff.1 (hcd z ZV)) with e|e
  ·exact absurd (e▸hz) (ac9.1 bn).1
  rcases aa1.1 e with e|e
  ·exact absurd (e▸ZV) h1
  ·exact e
 have walk:∀(B:List ae) (a e:ID) (z:ae),(∀y∈B,y∈ax (dw d' x).1)→Path (Vs.ph d') B z→bP d' z=some e→(∀y,B.head? = some y→bP d' y=some a)→(B=[]→a=e)→cV (dw d' x) a e:=by
  intro B
  induction B with
  |nil=>intro a e z _ _ _ _ h5;rw[h5 rfl];exact .refl _
  |cons y r ih =>
   intro a e z hB hp hz ha _;have hy:=hB y (by simp);have hyd:=h.sub hy;obtain⟨v,hv,Uw,yK⟩:=wo h.wf (h.wf.other hyd);have adj:Jp (dw d' x) a v.1:=⟨y,hy,by rw[h.at hy];exact ha y rfl,by rw[h.at (h.w.other hy)];exact yK⟩;have iS:bP d' (r.head?.getD z)=some v.1:=by rw[←show Vs.ph d' y=r.head?.getD z from hp.1,adi y hyd];exact yK
   refine adj.conn.trans (ih v.1 e z (fun q hq=>hB q (aaY _ hq)) hp.2 hz (fun q hq=>?_) (fun hr=>?_))
   ·rw[hq]at iS;exact iS
   ·subst hr;have:bP d' z=some v.1:=iS;rw[hz]at this;exact(acv this).symm
 obtain⟨fx,pB⟩:=(show Path (Vs.ph d') ((x,0)::B) (x,0) from k1);have Ls:bP d' (B.head?.getD (x,0))=some w:=by rw[←fx,adi _ h.x0,C1];exact hw
 refine(walk B w u (x,0) inC pB hu (fun y hy=>by rw[hy]at Ls;exact Ls) (fun hB=>?_)).symm h.w;subst hB;have:bP d' (x,0)=some w:=Ls;rw[hu]at this;exact(acv this).symm
theorem Jq{d:aj}(h:ax d.1=[]){a b:ID}(k:cV d a b):a=b:=by
 induction k with
 |refl=>rfl
 |tail _ j _=>obtain⟨z,hz,_⟩:=j;rw[h]at hz;simp at hz
theorem cc.ids{l:List ah}(h:cc l):(l.map (·.1)).Nodup:=by unfold List.Nodup;rw[List.pairwise_map];exact h.imp fun {a b} k e=>by rw[e,cm]at k;cases k
theorem M0:∀(n:Nat) (d:aj),Wf d→d.2.length=n→∀R,wm d R→∃k,d.1.length+ft d+2*k=2*R.length+d.2.length
 |0,d,hw,hl,R,hr=>by
  have he:d.2=[]:=by simpa using hl
  have hd:ax d.1=[]:=by have:=hw.pd;rw[he]at this;exact List.perm_nil.1 this
  have Yh:wm d (d.1.map (·.1)):=⟨hw.sv.ids,fun r hr=>by obtain⟨v,hv,rfl⟩:=adD.1 hr;exact⟨v,hv,rfl⟩,fun r _ s _ k=>Jq hd k,fun v hv=>⟨v.1,adD.2 ⟨v,hv,rfl⟩,.refl _⟩⟩;have hlen:=hr.len hw Yh;have hf:c6 d=[]:=by unfold c6;rw[he];rfl
  have ha:al d.1=d.1.length:=by
   unfold al;rw[List.countP_eq_length];intro v hv;rw[List.isEmpty_iff]
   cases hq:v.2.1 with
   |nil=>rfl
   |cons y r =>have:y∈ax d.1:=bh.2 ⟨v,hv,by rw[hq];simp⟩;rw[hd]at this;simp at this
  refine⟨0,?_⟩;unfold ft;rw[hf,ha,hlen,he];simp;omega
 |n+1,d,hw,hl,R,hr=>by
  obtain⟨e,r,he⟩:∃e r,d.2=e::r:=by
   cases hq:d.2 with
   |nil=>rw[hq]at hl;simp at hl
   |cons e r=>exact⟨e,r,rfl⟩
  have hc:b5 d e.1:=⟨hw,by unfold aX;rw[he];simp⟩;obtain⟨u,w,hu,hwt,_,_⟩:=hc.MZ;have hv:(dw d e.1).1.length=d.1.length:=by have:=congrArg List.length hc.ids;simpa using this
  have JY:(dw d e.1).2.length=n:=by
   have h1:=hc.w.pd.length_eq;have h2:=hw.pd.length_eq;have h3:=hc.p.length_eq;have e2:∀l:List ai,(ends l).length=2*l.length:=fun l=>by
    induction l with
    |nil=>rfl
    |cons e r ih=>rw[j5];simp[ih];omega
   rw[e2]at h1 h2;simp at h3;omega
  by_cases hf:Tp d (e.1,0) (e.1,1)
  ·have h1:=(hc.same hf).1;by_cases k:cV (dw d e.1) u w
   ·obtain⟨g,hg⟩:=M0 n (dw d e.1) hc.w JY R (hc.VR hu hwt k hr);exact⟨g+1,by omega⟩
   ·obtain⟨R2,h2,h3⟩:=hc.XC hu hwt k hr;obtain⟨g,hg⟩:=M0 n (dw d e.1) hc.w JY R2 h2;exact⟨g,by omega⟩
  ·have h1:=hc.diff hf;obtain⟨g,hg⟩:=M0 n (dw d e.1) hc.w JY R (hc.VR hu hwt (hc.Pd hu hwt hf) hr);exact⟨g,by omega⟩
def cP(d:aj)(i:Nat):ID:=((d.1[i]?).getD zV).1
theorem np{d:aj}{i:Nat}{v:ah}(h:d.1[i]? = some v):cP d i=v.1:=by unfold cP;rw[h];rfl
theorem jC{d:aj}(hs:cc d.1){i j:Nat}(hi:i<d.1.length)(hj:j<d.1.length)(h:cP d i=cP d j):i=j:=by have h1:=aaV hi;have h2:=aaV hj;rw[np h1,np h2]at h;rw[j0 hs h1 rfl,j0 hs h2 rfl,h]
theorem Ts{x:ID}:∀{l:List ah} {i:Nat} {v:ah} (k:Int),l[i]? = some v→v.1=x→(∀j u,j<i→l[j]? = some u→u.1≠x)→Au x l k=k+i
 |w::r,0,v,k,h,hv,_=>by simp at h;subst h;rw[Au,if_pos hv];simp
 |w::r,i+1,v,k,h,hv,hn=>by have h0:=hn 0 w (by omega) (by simp);rw[Au,if_neg h0,Ts (i:=i) (v:=v) (k+1) (by simpa using h) hv (fun j u hj hu=>hn (j+1) u (by omega) (by simpa using hu))];omega
theorem Tt{d:aj}(hs:cc d.1){i:Nat}(hi:i<d.1.length):Au (cP d i) d.1 0=(i:Int):=by have h:=aaV hi;have:=Ts (x:=cP d i) (l:=d.1) (i:=i) (v:=d.1[i]) 0 h (np h).symm (fun j u hj hu he=>by have h1:=jC hs (show j<d.1.length by omega) hi ((np hu).trans he);omega);omega
theorem Lt{d:aj}(hw:Wf d){z:ae}(hz:z∈ax d.1):∃i,i<d.1.length∧bP d z=some (cP d i):=by obtain⟨v,hv,_,h⟩:=wo hw hz;obtain⟨i,hi,he⟩:=aeP hv;refine⟨i,hi,?_⟩;rw[h,np (List.getElem?_eq_getElem hi),he]
structure GK(d:aj)(L:List Int):Prop where
 n:L.length=d.1.length
 i:∀i,i<d.1.length→∃j:Nat,j≤i∧L.getD i 0=(j:Int)∧cV d (cP d i) (cP d j)
def fN(d:aj)(L:List Int)(i:Nat):Prop:=∀j,j<d.1.length→cV d (cP d i) (cP d j)→L.getD i 0≤(j:Int)
structure Js(d:aj)(L:List Int):Prop where
 l:GK d L
 r:∀i,i<d.1.length→fN d L i
theorem Jt{L:List Int}{a i:Nat}(x:Int):(L.set a x).getD i 0=if a=i∧a<L.length then x else L.getD i 0:=by
 simp only[List.getD];rw[List.getElem?_set];by_cases h:a=i
 ·subst h;by_cases k:a<L.length
  ·simp[k]
  ·simp[k]
 ·simp[h]
def DY(a b:Nat)(L:List Int):List Int:=(L.set a (min (L.getD a 0) (L.getD b 0))).set b (min (L.getD a 0) (L.getD b 0))
theorem Tu{L:List Int}{a b:Nat}(ha:a<L.length)(hb:b<L.length)(i:Nat):(DY a b L).getD i 0=if i=a∨i=b then min (L.getD a 0) (L.getD b 0) else L.getD i 0:=by
 unfold DY;rw[Jt,Jt,List.length_set];by_cases h1:b=i
 ·rw[if_pos ⟨h1,hb⟩,if_pos (.inr h1.symm)]
 ·rw[if_neg (fun k=>h1 k.1)];by_cases h2:a=i
  ·rw[if_pos ⟨h2,ha⟩,if_pos (.inl h2.symm)]
  ·rw[if_neg (fun k=>h2 k.1),if_neg (fun k=>k.elim (fun m=>h2 m.symm) (fun m=>h1 m.symm))]
theorem Pe{d:aj}(hw:Wf d){L:List Int}(h:GK d L){a b:Nat}(ha:a<d.1.length)(hb:b<d.1.length)(mJ:cV d (cP d a) (cP d b)):GK d (DY a b L)∧(∀i,i<d.1.length→fN d L i→fN d (DY a b L) i)∧(fN d L a→fN d (DY a b L) b)∧(fN d L b→fN d (DY a b L) a):=by
 have PE:a<L.length:=by rw[h.n];exact ha
 have xf:b<L.length:=by rw[h.n];exact hb
 have gl:=Tu PE xf;obtain⟨ja,a1,a2,a3⟩:=h.i a ha;obtain⟨jb,b1,b2,b3⟩:=h.i b hb;have hba:=mJ.symm hw;refine⟨⟨by unfold DY;simp[h.n],fun i hi=>?_⟩,fun i hi hr j hj hc=>?_,fun hr j hj hc=>?_,fun hr j hj hc=>?_⟩
 ·rw[gl];by_cases Lu:i=a∨i=b
  ·rw[if_pos Lu];have conn:cV d (cP d i) (cP d a)∧cV d (cP d i) (cP d b):=by
    rcases Lu with rfl|rfl
    ·exact⟨.refl _,mJ⟩
    ·exact⟨hba,.refl _⟩
   by_cases hle:L.getD a 0≤L.getD b 0
   ·refine⟨ja,?_,by rw[←a2];omega,conn.1.trans a3⟩;rcases Lu with rfl|rfl
    ·exact a1
    ·rw[a2,b2]at hle;omega
   ·refine⟨jb,?_,by rw[←b2];omega,conn.2.trans b3⟩;rcases Lu with rfl|rfl
    ·rw[a2,b2]at hle;omega
    ·exact b1
  ·rw[if_neg Lu];exact h.i i hi
 ·rw[gl]
  split
  ·rename_i Lu;have:=hr j hj hc;rcases Lu with rfl|rfl<;>omega
  ·exact hr j hj hc
 ·rw[gl,if_pos (.inr rfl)];have:=hr j hj (mJ.trans hc);omega
 ·rw[gl,if_pos (.inl rfl)];have:=hr j hj (hba.trans hc);omega
theorem Y1{d:aj}(hw:Wf d){e:ai}(he:e∈d.2)(L:List Int):∃a b,a<d.1.length∧b<d.1.length∧bP d (e.1,0)=some (cP d a)∧bP d (e.1,1)=some (cP d b)∧Gz d e L=DY a b L:=by have h0:(e.1,0)∈ax d.1:=hw.pd.mem_iff.2 (cH.2 ⟨e,he,rfl,.inl rfl⟩);have h1:(e.1,1)∈ax d.1:=hw.pd.mem_iff.2 (cH.2 ⟨e,he,rfl,.inr rfl⟩);obtain⟨a,ha,ea⟩:=Lt hw h0;obtain⟨b,hb,eb⟩:=Lt hw h1;refine⟨a,b,ha,hb,ea,eb,?_⟩;unfold Gz DY;rw[ea,eb];simp only[Option.getD_some,Tt hw.sv ha,Tt hw.sv hb,Int.toNat_natCast];rw[if_pos ⟨by omega,by omega⟩]
theorem uH{d:aj}(hw:Wf d):∀(l:List ai) {L:List Int},(∀e∈l,e∈d.2)→GK d L→GK d (jK d l L)∧(∀i,i<d.1.length→fN d L i→fN d (jK d l L) i) ∧(∀e∈l,∀a b,a<d.1.length→b<d.1.length→((bP d (e.1,0)=some (cP d a)∧bP d (e.1,1)=some (cP d b))∨(bP d (e.1,0)=some (cP d b)∧bP d (e.1,1)=some (cP d a)))→fN d L a→fN d (jK d l L) b)
 |[],L,_,h=>⟨h,fun i hi hr=>hr,fun e he=>by simp at he⟩
 |e::r,L,hl,h=>by
  have he:=hl e (acr ..);obtain⟨a,b,ha,hb,ea,eb,el⟩:=Y1 hw he L;have h0:(e.1,0)∈ax d.1:=hw.pd.mem_iff.2 (cH.2 ⟨e,he,rfl,.inl rfl⟩);have mJ:cV d (cP d a) (cP d b):=Jp.conn ⟨(e.1,0),h0,ea,by rw[C1];exact eb⟩;obtain⟨s1,s2,s3,s4⟩:=Pe hw h ha hb mJ;obtain⟨t1,t2,t3⟩:=uH hw r (L:=DY a b L) (fun e he=>hl e (aaY _ he)) s1;show GK d (jK d r (Gz d e L))∧_∧_;rw[el];refine⟨t1,fun i hi hr=>?_,fun f hf p q hp hq Bb hr=>?_⟩
  ·show fN d (jK d r (Gz d e L)) i;rw[el];exact t2 i hi (s2 i hi hr)
  ·show fN d (jK d r (Gz d e L)) q;rw[el];rcases aa1.1 hf with rfl|hf
   ·refine t2 q hq ?_;rcases Bb with⟨k1,k2⟩|⟨k1,k2⟩
    ·rw[ea]at k1;rw[eb]at k2;have:=jC hw.sv ha hp (acv k1);subst this;have:=jC hw.sv hb hq (acv k2);subst this;exact s3 hr
    ·rw[ea]at k1;rw[eb]at k2;have:=jC hw.sv ha hq (acv k1);subst this;have:=jC hw.sv hb hp (acv k2);subst this;exact s4 hr
   ·exact t3 f hf p q hp hq Bb (s2 p hp hr)
theorem Lv{d:aj}(i:Nat)(hi:i<d.1.length):∃m,m<d.1.length∧cV d (cP d i) (cP d m)∧∀j,j<d.1.length→cV d (cP d i) (cP d j)→m≤j:=by
 induction i using Nat.strongRecOn with
 |ind i ih =>
  by_cases h:∃j,j<i∧cV d (cP d i) (cP d j)∧cV d (cP d j) (cP d i)
  ·obtain⟨j,hj,hc,o4⟩:=h;obtain⟨m,h1,h2,h3⟩:=ih j hj (by omega);exact⟨m,h1,hc.trans h2,fun k hk hck=>h3 k hk (o4.trans hck)⟩
  ·by_cases hs:∃j,j<i∧cV d (cP d i) (cP d j)
   ·obtain⟨j,hj,hc⟩:=hs;have key:∀n,n≤i→(∃m,m<n∧cV d (cP d i) (cP d m))→∃m,m<d.1.length∧cV d (cP d i) (cP d m)∧∀j,j<d.1.length→cV d (cP d i) (cP d j)→m≤j:=by
     intro n
     induction n with
     |zero=>rintro _ ⟨m,hm,_⟩;omega
     |succ n ihn =>
      rintro hn ⟨m,hm,Ow⟩;by_cases hb:∃m,m<n∧cV d (cP d i) (cP d m)
      ·exact ihn (by omega) hb
      ·have:m=n:=Classical.byContradiction fun k=>hb ⟨m,by omega,Ow⟩;subst this;refine⟨m,by omega,Ow,fun j hj Oz=>Classical.byContradiction fun k=>hb ⟨j,by omega,Oz⟩⟩
    exact key i (ada _) ⟨j,hj,hc⟩
   ·refine⟨i,hi,.refl _,fun j hj hc=>Classical.byContradiction fun k=>hs ⟨j,by omega,hc⟩⟩
theorem Pf{d:aj}(P:ID→Prop){x y:ID}(h:cV d x y)(hx:P x)(hy:¬P y):∃a b,Jp d a b∧P a∧¬P b:=by
 induction h with
 |refl=>exact absurd hx hy
 | @tail b c k j ih =>
  by_cases hb:P b
  ·exact⟨_,_,j,hb,hy⟩
  ·exact ih hb
open Classical in
theorem Ju{P Q:Nat→Prop}:∀{l:List Nat},(∀i∈l,P i→Q i)→(∃i∈l,Q i∧¬P i)→l.countP (fun i=>decide (P i))<l.countP (fun i=>decide (Q i))
 |[],_,h=>by obtain⟨i,hi,_⟩:=h;simp at hi
 |x::r,h,⟨i,hi,hq,hp⟩=>by
  have mono:r.countP (fun i=>decide (P i))≤r.countP (fun i=>decide (Q i)):=by
   have hr:∀i∈r,P i→Q i:=fun i hi=>h i (aaY _ hi);clear h hi
   induction r with
   |nil=>simp
   |cons y r ih =>
    rw[List.countP_cons,List.countP_cons];have:=ih (fun i hi=>hr i (aaY _ hi));have h2:=hr y (acr ..);by_cases hy:P y
    ·simp[hy,h2 hy];exact this
    ·simp[hy];omega
  rw[List.countP_cons,List.countP_cons];rcases aa1.1 hi with rfl|hi
  ·simp[hq,hp];omega
  ·have:=Ju (l:=r) (fun i hi=>h i (aaY _ hi)) ⟨i,hi,hq,hp⟩;have hx:=h x (acr ..);by_cases hpx:P x
   ·simp[hpx,hx hpx];exact this
   ·simp[hpx];omega
theorem Lw{d:aj}(hw:Wf d){L:List Int}(h:GK d L)(hn:∃i,i<d.1.length∧¬fN d L i):∃i,i<d.1.length∧fN d (jK d d.2 L) i∧¬fN d L i:=by
 obtain⟨i,hi,hr⟩:=hn;obtain⟨m,m1,m2,m3⟩:=Lv i hi;have hm:fN d L m:=fun j hj hc=>by obtain⟨q,q1,q2,_⟩:=h.i m m1;have:=m3 j hj (m2.trans hc);rw[q2];omega
 let P:ID→Prop:=fun x=>∃k,k<d.1.length∧cP d k=x∧fN d L k
 have hx:P (cP d m):=⟨m,m1,rfl,hm⟩;have hy:¬P (cP d i):=fun⟨k,k1,k2,k3⟩=>by have:=jC hw.sv k1 hi k2;exact hr (this▸k3)
 obtain⟨a,b,⟨z,hz,za,zb⟩,⟨p,p1,p2,p3⟩,hb⟩:=Pf P (m2.symm hw) hx hy;obtain⟨q,q1,q2⟩:=Lt hw (hw.other hz);rw[zb]at q2;have hbq:b=cP d q:=acv q2;obtain⟨e,he,e1,e2⟩:=cH.1 (hw.pd.mem_iff.1 hz);refine⟨q,q1,?_,fun k=>hb ⟨q,q1,hbq.symm,k⟩⟩;refine(uH hw d.2 (fun _ h=>h) h).2.2 e he p q p1 q1 ?_ p3;rw[p2,←hbq];obtain⟨z1,z2⟩:=z;simp only at e1 e2;subst e1;rcases e2 with rfl|rfl
 ·exact .inl ⟨za,zb⟩
 ·exact .inr ⟨zb,za⟩
open Classical in
theorem C4{d:aj}(hw:Wf d):∀(n:Nat) {L:List Int},GK d L→d.1.length≤n+(List.range d.1.length).countP (fun i=>decide (fN d L i))→Js d (IZ d n L)
 |0,L,h,hc=>by
  refine⟨h,fun i hi=>?_⟩;have h1:(List.range d.1.length).countP (fun i=>decide (fN d L i))=(List.range d.1.length).length:=by have:=aeM (p:=fun i=>decide (fN d L i)) (l:=List.range d.1.length);simp at this ⊢;omega
  have:=List.countP_eq_length.1 h1 i (adP.2 hi);exact of_decide_eq_true this
 |n+1,L,h,hc=>by
  obtain⟨s1,s2,_⟩:=uH hw d.2 (fun _ h=>h) h;show Js d (IZ d n (jK d d.2 L));refine C4 hw n s1 ?_;by_cases hn:∃i,i<d.1.length∧¬fN d L i
  ·obtain⟨i,hi,h1,h2⟩:=Lw hw h hn;have:=Ju (P:=fN d L) (Q:=fN d (jK d d.2 L)) (l:=List.range d.1.length) (fun i hi=>s2 i (adP.1 hi)) ⟨i,adP.2 hi,h1,h2⟩;omega
  ·have:(List.range d.1.length).countP (fun i=>decide (fN d (jK d d.2 L) i))=(List.range d.1.length).length:=by rw[List.countP_eq_length];intro i hi;have hi:=adP.1 hi;exact decide_eq_true (s2 i hi (Classical.byContradiction fun k=>hn ⟨i,hi,k⟩))
   rw[this];simp
theorem Y2(d:aj):GK d (DV d.1.length):=by refine⟨by unfold DV;simp,fun i hi=>⟨i,ada _,?_,.refl _⟩⟩;unfold DV;simp[List.getD,hi]
theorem fJ{d:aj}(hw:Wf d):Js d (labels d):=C4 hw d.1.length (Y2 d) (by omega)
theorem Js.uniq{d:aj}(hw:Wf d){L M:List Int}(h:Js d L)(k:Js d M):L=M:=by
 apply aeO;intro i;by_cases hi:i<d.1.length
 ·have e1:L[i]? = some (L.getD i 0):=by rw[List.getElem?_eq_getElem (by rw[h.l.n];exact hi)];simp[List.getD,h.l.n,hi]
  have e2:M[i]? = some (M.getD i 0):=by rw[List.getElem?_eq_getElem (by rw[k.l.n];exact hi)];simp[List.getD,k.l.n,hi]
  obtain⟨a,a1,a2,a3⟩:=h.l.i i hi;obtain⟨b,b1,b2,b3⟩:=k.l.i i hi;have h1:=h.r i hi b (by omega) b3;have h2:=k.r i hi a (by omega) a3;rw[e1,e2];congr 1;omega
 ·rw[List.getElem?_eq_none (by rw[h.l.n];omega),List.getElem?_eq_none (by rw[k.l.n];omega)]
def kX(d:aj)(L:List Int):List ID:=((List.range d.1.length).filter fun i=>decide (L.getD i 0=(i:Int))).map (cP d)
theorem nq{d:aj}(hw:Wf d){L:List Int}(h:Js d L):wm d (kX d L):=by
 have mem:∀{r:ID},r∈kX d L↔∃i,i<d.1.length∧L.getD i 0=(i:Int)∧cP d i=r:=fun {r}=>by
  unfold kX;rw[List.mem_map];constructor
  ·rintro⟨i,hi,rfl⟩;rw[List.mem_filter,List.mem_range]at hi;exact⟨i,hi.1,by simpa using hi.2,rfl⟩
  ·rintro⟨i,h1,h2,rfl⟩;exact⟨i,by rw[List.mem_filter,List.mem_range];exact⟨h1,by simpa using h2⟩,rfl⟩
 refine⟨?_,fun r hr=>?_,fun r hr s hs hc=>?_,fun v hv=>?_⟩
 ·unfold kX List.Nodup;rw[List.pairwise_map];have hp:((List.range d.1.length).filter fun i=>decide (L.getD i 0=(i:Int))).Nodup:=List.nodup_range.filter _;refine List.Pairwise.imp_of_mem (fun {a b} ha hb bw e=>bw ?_) hp;exact jC hw.sv (adP.1 (aeL.1 ha).1) (adP.1 (aeL.1 hb).1) e
 ·obtain⟨i,hi,_,rfl⟩:=mem.1 hr;exact⟨d.1[i],adg hi,(np (aaV hi)).symm⟩
 ·obtain⟨i,hi,h1,rfl⟩:=mem.1 hr;obtain⟨j,hj,h2,rfl⟩:=mem.1 hs;have k1:=h.r i hi j hj hc;have k2:=h.r j hj i hi (hc.symm hw);have:i=j:=by omega
  rw[this]
 ·obtain⟨i,hi,he⟩:=aeP hv;have bR:cP d i=v.1:=by rw[np (List.getElem?_eq_getElem hi),he]
  obtain⟨j,j1,j2,j3⟩:=h.l.i i hi;refine⟨cP d j,mem.2 ⟨j,by omega,?_,rfl⟩,by rw[←bR];exact j3⟩;obtain⟨k,k1,k2,k3⟩:=h.l.i j (by omega);have h1:=h.r i hi k (by omega) (j3.trans k3);rw[j2]at h1;rw[k2];have:j=k:=by omega
  rw[this]
theorem xX:∀(l:List Int) (i:Nat) (n:Nat),n+l.length≤1000000→p7 l (i:Int) (n:Int)=((n+((List.range l.length).filter fun j=>decide (l.getD j 0=((i+j:Nat):Int))).length:Nat):Int)
 |[],i,n,_=>by simp[p7]
 |x::r,i,n,h=>by
  simp at h;have e:((List.range (x::r).length).filter fun j=>decide ((x::r).getD j 0=((i+j:Nat):Int))).length=(if x=(i:Int) then 1 else 0)+((List.range r.length).filter fun j=>decide (r.getD j 0=((i+1+j:Nat):Int))).length:=by
   rw[List.length_cons,List.range_succ_eq_map,List.filter_cons];have e2:((List.range r.length).map Nat.succ).filter (fun j=>decide ((x::r).getD j 0=((i+j:Nat):Int)))=((List.range r.length).filter fun j=>decide (r.getD j 0=((i+1+j:Nat):Int))).map Nat.succ:=by rw[List.filter_map];congr 1;apply List.filter_congr;intro j _;simp only[Function.comp,Nat.succ_eq_add_one,List.getD_cons_succ];rw[show i+(j+1)=i+1+j by omega]
   rw[e2];simp only[List.getD_cons_zero,Nat.add_zero];by_cases hx:x=(i:Int)
   ·simp[hx];omega
   ·simp[hx]
  rw[e];unfold p7;have hi:((i:Int)+1)=((i+1:Nat):Int):=by omega
  rw[hi];by_cases hx:x=(i:Int)
  ·rw[if_pos hx,if_pos hx];have hw:IntKind.wrap .i64 ((n:Int)+1)=((n+1:Nat):Int):=by rw[wrap_small (by omega) (by omega)];omega
   rw[hw,xX r (i+1) (n+1) (by omega)];congr 1;omega
  ·rw[if_neg hx,if_neg hx,xX r (i+1) n (by omega)];congr 1;omega
theorem sR{d:aj}(hw:Wf d):fe d=((kX d (labels d)).length:Int):=by have h:=fJ hw;have hn:=hw.nv;unfold fe;have:=xX (labels d) 0 0 (by rw[h.l.n];omega);simp only[Nat.zero_add]at this;have e:p7 (labels d) 0 0=p7 (labels d) ((0:Nat):Int) ((0:Nat):Int):=rfl;rw[e,this];unfold kX;rw[List.length_map,h.l.n]
theorem xY:∀(l:List ah) (n:Nat),n+l.length≤1000000→rE l (n:Int)=((n+al l:Nat):Int)
 |[],n,_=>by simp[rE,al]
 |v::r,n,h=>by
  simp at h;unfold rE al;rw[List.countP_cons];by_cases hv:v.2.1.length=0
  ·have:v.2.1.isEmpty=true:=by rw[List.isEmpty_iff];simpa using hv
   have hw:IntKind.wrap .i64 ((n:Int)+1)=((n+1:Nat):Int):=by rw[wrap_small (by omega) (by omega)];omega
   rw[if_pos hv,hw,xY r (n+1) (by omega),this];unfold al;congr 1;simp;omega
  ·have:v.2.1.isEmpty=false:=by
    cases hq:v.2.1 with
    |nil=>rw[hq]at hv;exact absurd rfl hv
    |cons _ _=>rfl
   rw[if_neg hv,xY r n (by omega),this];unfold al;simp
theorem wq{d:aj}(hw:Wf d):(c6 d).length≤80:=by
 have h:=cj hw;have h1:=h.p.length_eq;have h2:=hw.Jo;have h3:(c6 d).length≤(c6 d).flatten.length:=by
  have hc:=h.c;generalize c6 d=cs at hc
  induction cs with
  |nil=>simp
  |cons c r ih =>have:=ih (fun c ZZ=>hc c (aaY _ ZZ));have h1:=(hc c (acr ..)).ne;have:0<c.length:=Nat.pos_of_ne_zero fun k=>h1 (List.length_eq_zero_iff.1 k);simp only[List.length_cons,List.flatten_cons,List.length_append];omega
 omega
theorem Pg{d:aj}(hw:Wf d):CF d=((ft d:Nat):Int):=by unfold CF ft;have:=hw.nv;have:=wq hw;exact xY d.1 (c6 d).length (by omega)
theorem Tv{d:aj}(hw:Wf d){R:List ID}(hr:wm d R):∃k:Nat,fX d=(k:Int)∧d.1.length+ft d+2*k=2*R.length+d.2.length:=by
 have hl:=(nq hw (fJ hw)).len hw hr;obtain⟨k,hk⟩:=M0 d.2.length d hw rfl R hr;refine⟨k,?_,hk⟩;have hn:=hw.nv;have he:=hw.ne;have hf:=wq hw;have ha:al d.1≤d.1.length:=aeM;have hR:R.length≤d.1.length:=by rw[←hl];unfold kX;rw[List.length_map];exact adC (adL _ _) (by simp)
 have hft:ft d=(c6 d).length+al d.1:=rfl;unfold fX;rw[sR hw,Pg hw,hl];rw[wrap_small (n:=2*((R.length:Nat):Int)) (by omega) (by omega)];rw[wrap_small (n:=2*((R.length:Nat):Int)-((d.1.length:Nat):Int)) (by omega) (by omega)];rw[wrap_small (n:=2*((R.length:Nat):Int)-((d.1.length:Nat):Int)+((d.2.length:Nat):Int)) (by omega) (by omega)];have e:2*((R.length:Nat):Int)-((d.1.length:Nat):Int)+((d.2.length:Nat):Int)-((ft d:Nat):Int)=2*(k:Int):=by omega
 rw[e,wrap_small (n:=2*(k:Int)) (by omega) (by omega)];have e2:Int.tdiv (2*(k:Int)) 2=(k:Int):=by rw[Int.tdiv_eq_ediv_of_nonneg (by omega)];omega
 rw[e2,wrap_small (by omega) (by omega)]
end Go.Vs
