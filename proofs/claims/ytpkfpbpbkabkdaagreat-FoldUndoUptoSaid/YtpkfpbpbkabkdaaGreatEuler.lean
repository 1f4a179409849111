/- Faces -/
import Derived.Test.YtpkfpbpbkabkdaaGreatSplits
set_option linter.unusedVariables false
set_option linter.unusedSimpArgs false
namespace Go.Cy
variable {α:Type}
def Path(f:α→α):List α→α→Prop
 |[],_=>True
 |x::r,z=>f x=r.head?.getD z∧Path f r z
theorem Path.app{f:α→α}:∀{a b:List α} {z:α},Path f (a++b) z↔Path f a (b.head?.getD z)∧Path f b z
 |[],b,z=>by simp[Path]
 |x::r,b,z=>by
  have ih:=Path.app (f:=f) (a:=r) (b:=b) (z:=z);simp only[List.cons_append,Path];rw[ih];have:(r++b).head?.getD z=r.head?.getD (b.head?.getD z):=by cases r<;>simp
  rw[this,and_assoc]
theorem Path.congr{f g:α→α}:∀{a:List α} {z:α},(∀x∈a,g x=f x)→Path f a z→Path g a z
 |[],_,_,_=>trivial
 |x::r,z,h,p=>⟨(h x (abu ..)).trans p.1,Path.congr (fun y hy=>h y (aa5 _ hy)) p.2⟩
def jF(f:α→α):List α→Prop
 |[]=>False
 |x::r=>Path f (x::r) x
theorem jF.two{f:α→α}{x y:α}{a b:List α}:jF f ((x::a)++(y::b))↔Path f (x::a) y∧Path f (y::b) x:=by show Path f ((x::a)++(y::b)) x↔_;rw[Path.app];rfl
theorem jF.kK{f:α→α}:∀{a b:List α},jF f (a++b)→jF f (b++a)
 |[],b,h=>by simpa using h
 |x::a,[],h=>by simpa using h
 |x::a,y::b,h=>jF.two.2 ⟨(jF.two.1 h).2,(jF.two.1 h).1⟩
theorem jF.ne{f:α→α}{c:List α}(h:jF f c):c≠[]:=by rintro rfl;exact h
theorem jF.congr{f g:α→α}{c:List α}(h:∀x∈c,g x=f x)(k:jF f c):jF g c:=by
 cases c with
 |nil=>exact k
 |cons x r=>exact Path.congr h k
theorem Path.step{f:α→α}:∀{a:List α} {z x:α},Path f a z→x∈a→f x∈a∨f x=z
 |y::r,z,x,p,hx=>by
  rcases abn.1 hx with rfl|hx
  ·cases r with
   |nil=>exact .inr p.1
   |cons u r=>exact .inl (by have:=p.1;simp at this;rw[this];simp)
  ·rcases Path.step p.2 hx with h|h
   ·exact .inl (aa5 _ h)
   ·exact .inr h
theorem jF.step{f:α→α}{c:List α}(h:jF f c){x:α}(hx:x∈c):f x∈c:=by
 cases c with
 |nil=>exact h.elim
 |cons y r =>
  rcases Path.step (show Path f (y::r) y from h) hx with k|k
  ·exact k
  ·rw[k];simp
def it(f:α→α):Nat→α→α
 |0,x=>x
 |n+1,x=>it f n (f x)
theorem jF.it{f:α→α}{c:List α}(h:jF f c):∀(n:Nat) {x:α},x∈c→it f n x∈c
 |0,_,hx=>hx
 |n+1,_,hx=>jF.it h n (h.step hx)
theorem Path.reach{f:α→α}:∀{r:List α} {x z:α},Path f (x::r) z→∀y∈x::r,∃n,it f n x=y
 |[],x,z,_,y,hy=>by simp at hy;exact⟨0,hy.symm⟩
 |u::r,x,z,p,y,hy=>by
  rcases abn.1 hy with rfl|hy
  ·exact⟨0,rfl⟩
  ·have h1:f x=u:=p.1;obtain⟨n,hn⟩:=Path.reach p.2 y hy;exact⟨n+1,by show it f n (f x)=y;rw[h1];exact hn⟩
theorem jF.head{f:α→α}{c:List α}(h:jF f c){x:α}(hx:x∈c):∃r,jF f (x::r)∧(x::r).Perm c:=by obtain⟨a,b,rfl⟩:=ady hx;exact⟨b++a,jF.kK h,adF (l₁:=x::b) (l₂:=a)⟩
theorem jF.reach{f:α→α}{c:List α}(h:jF f c){x y:α}(hx:x∈c)(hy:y∈c):∃n,Cy.it f n x=y:=by obtain⟨r,h1,h2⟩:=h.head hx;exact Path.reach (show Path f (x::r) x from h1) y (h2.mem_iff.2 hy)
theorem jF.same{f:α→α}{c c':List α}(h:jF f c)(h':jF f c'){x:α}(hx:x∈c)(hx':x∈c'){y:α}(hy:y∈c):y∈c':=by obtain⟨n,hn⟩:=h.reach hx hy;rw[←hn];exact h'.it n hx'
structure HY(f:α→α)(D:List α)(cs:List (List α)):Prop where
 c:∀c∈cs,jF f c
 p:cs.flatten.Perm D
theorem gE(p q:List (List α))(c:List α):(p++c::q).flatten.Perm (c++(p++q).flatten):=by simp only[List.flatten_append,List.flatten_cons];rw[←List.append_assoc,←List.append_assoc];exact ac9 _ adF
theorem HY.count{f:α→α}:∀{cs cs':List (List α)} {D:List α},D.Nodup→HY f D cs→HY f D cs'→cs.length=cs'.length
 |[],cs',D,hn,h,h'=>by
  have hD:D=[]:=by have:=h.p;simp at this;exact this.symm▸rfl
  subst hD
  cases cs' with
  |nil=>rfl
  |cons c r =>
   have:=h'.p.length_eq;have h1:=(h'.c c (by simp)).ne
   cases c with
   |nil=>exact absurd rfl h1
   |cons x c=>simp at this
 |c::r,cs',D,hn,h,h'=>by
  have hc:=h.c c (by simp);obtain⟨x,c0,rfl⟩:∃x c0,c=x::c0:=by
   cases c with
   |nil=>exact hc.elim
   |cons x c0=>exact⟨x,c0,rfl⟩
  have hx:x∈cs'.flatten:=h'.p.mem_iff.2 (h.p.mem_iff.1 (by simp));obtain⟨c',hc',agZ⟩:=adA.1 hx;obtain⟨p,q,rfl⟩:=ady hc';have ag0:=h'.c c' (by simp);have n1:(x::c0).Nodup:=by have:=h.p.nodup_iff.2 hn;rw[List.flatten_cons]at this;exact(acV.1 this).1
  have n2:c'.Nodup:=by have:=(gE p q c').nodup_iff.1 (h'.p.nodup_iff.2 hn);exact(acV.1 this).1
  have pc:(x::c0).Perm c':=(List.perm_ext_iff_of_nodup n1 n2).2 fun y=>⟨fun hy=>hc.same ag0 (by simp) agZ hy,fun hy=>ag0.same hc agZ (by simp) hy⟩;have pd:((x::c0)++r.flatten).Perm ((x::c0)++(p++q).flatten):=by
   have e1:((x::c0)++r.flatten).Perm D:=by have:=h.p;rwa [List.flatten_cons]at this
   have e2:(c'++(p++q).flatten).Perm D:=(gE p q c').symm.trans h'.p;exact e1.trans (e2.symm.trans (ac9 _ pc.symm))
  have pr:=(List.perm_append_left_iff _).1 pd;have YE:r.flatten.Nodup:=by have:=h.p.nodup_iff.2 hn;rw[List.flatten_cons]at this;exact(acV.1 this).2.1
  have ih:=HY.count (cs:=r) (cs':=p++q) (D:=r.flatten) YE ⟨fun c hc=>h.c c (by simp[hc]),adW _⟩ ⟨fun c hc=>h'.c c (by rcases abH.1 hc with k|k<;>simp[k]),pr.symm⟩;simp at ih ⊢;omega
theorem Path.iG{f g:α→α}:∀{a:List α} {z z':α},Path f a z→z∉a.tail→(∀u∈a,f u≠z→g u=f u)→(∀u∈a,f u=z→g u=z')→Path g a z'
 |[],_,_,_,_,_,_=>trivial
 |[x],z,z',p,hz,h1,h2=>⟨h2 x (by simp) p.1,trivial⟩
 |x::y::r,z,z',p,hz,h1,h2=>by have e:f x=y:=p.1;have bp:y≠z:=fun k=>hz (by simp[k]);refine⟨(h1 x (by simp) (by rw[e];exact bp)).trans e,?_⟩;exact Path.iG p.2 (fun k=>hz (aa5 _ k)) (fun u hu=>h1 u (aa5 _ hu)) (fun u hu=>h2 u (aa5 _ hu))
def nz:List α→Nat
 |[]=>0
 |_::_=>1
def mn(l:List α):List (List α):=match l with | []=>[]|x::r=>[x::r]
theorem xf(l:List α):(mn l).flatten=l:=by cases l<;>simp[mn]
theorem HZ(l:List α):(mn l).length=nz l:=by cases l<;>rfl
theorem oE{l:List α}{z:α}(h:z∈l.tail):z∈l:=ad3 h
section
variable [DecidableEq α]
def uf(f':α→α)(x y:α)(z:α):α :=if f' z=x then(if f' y=y then f' x else f' y) else if f' z=y then(if f' x=x then f' y else f' x) else f' z
theorem HY.WN{f' f:α→α}{x y:α}{D:List α}{cs':List (List α)}{c:List α}(TB:x≠y)(hn:(x::y::D).Nodup)(h:HY f' (x::y::D) cs')(hf:∀z∈D,f z=uf f' x y z)(hc:c∈cs')(hx:x∈c)(hy:y∈c) :
  ∃cs,HY f D cs∧cs.length+1=cs'.length+(if f' x=y then 0 else 1)+(if f' y=x then 0 else 1):=by
 obtain⟨p,q,rfl⟩:=ady hc;have hcc:=h.c c hc;obtain⟨r,h1,h2⟩:=hcc.head hx;have hyr:y∈r:=by
  rcases abn.1 (h2.mem_iff.2 hy) with k|k
  ·exact absurd k.symm TB
  ·exact k
 obtain⟨B,A,rfl⟩:=ady hyr;have h3:jF f' ((x::B)++(y::A)):=h1;obtain⟨⟨fx,pB⟩,⟨fy,pA⟩⟩:=jF.two.1 h3;have pd:(x::y::(B++A++(p++q).flatten)).Perm (x::y::D):=by refine List.Perm.trans ?_ h.p;refine List.Perm.trans ?_ (gE p q c).symm;refine List.Perm.trans ?_ (ac9 _ h2);show(x::y::(B++A++(p++q).flatten)).Perm (x::((B++y::A)++(p++q).flatten));refine List.Perm.cons x ?_;rw[List.append_assoc B (y::A),List.cons_append,List.append_assoc];exact adE.symm
 have pD:=(pd.cons_inv).cons_inv;have nd:=pd.nodup_iff.2 hn;have nx:x∉B++A++(p++q).flatten:=fun k=>(abx.1 nd).1 (aa5 _ k);have ny:y∉B++A++(p++q).flatten:=(abx.1 (abx.1 nd).2).1;have xB:x∉B:=fun k=>nx (by simp[k]);have xA:x∉A:=fun k=>nx (by simp[k]);have yB:y∉B:=fun k=>ny (by simp[k]);have yA:y∉A:=fun k=>ny (by simp[k]);have WO:∀z∈B++A++(p++q).flatten,z∈D:=fun z hz=>pD.mem_iff.1 hz;have cB:∀c∈mn B,jF f c:=fun c hc=>by
  cases B with
  |nil=>simp[mn]at hc
  |cons b B =>
   have hc:c=b::B:=by simpa[mn] using hc
   subst hc;have fx:f' x=b:=fx;have bx:b≠x:=fun k=>xB (by simp[k]);refine Path.iG pB (fun k=>yB (oE k)) (fun u hu bp=>?_) (fun u hu heq=>?_)
   ·rw[hf u (WO u (by simp at hu ⊢;rcases hu with k|k<;>simp[k]))];unfold uf;have:f' u≠x:=fun k=>by
     rcases pB.step hu with m|m
     ·exact xB (k▸m)
     ·exact bp m
    rw[if_neg this,if_neg bp]
   ·rw[hf u (WO u (by simp at hu ⊢;rcases hu with k|k<;>simp[k]))];unfold uf;rw[if_neg (by rw[heq];exact fun k=>TB k.symm),if_pos heq,if_neg (by rw[fx];exact bx),fx]
 have cA:∀c∈mn A,jF f c:=fun c hc=>by
  cases A with
  |nil=>simp[mn]at hc
  |cons a A =>
   have hc:c=a::A:=by simpa[mn] using hc
   subst hc;have fy:f' y=a:=fy;have ay:a≠y:=fun k=>yA (by simp[k]);refine Path.iG pA (fun k=>xA (oE k)) (fun u hu bp=>?_) (fun u hu heq=>?_)
   ·rw[hf u (WO u (by simp at hu ⊢;rcases hu with k|k<;>simp[k]))];unfold uf;have:f' u≠y:=fun k=>by
     rcases pA.step hu with m|m
     ·exact yA (k▸m)
     ·exact bp m
    rw[if_neg bp,if_neg this]
   ·rw[hf u (WO u (by simp at hu ⊢;rcases hu with k|k<;>simp[k]))];unfold uf;rw[if_pos heq,if_neg (by rw[fy];exact ay),fy]
 have cR:∀c∈p++q,jF f c:=fun c hc=>by
  have hc':c∈p++((x::B)++(y::A))::q:=by rcases abH.1 hc with k|k<;>simp[k]
  have Ft:jF f' c:=h.c c (by rcases abH.1 hc with k|k<;>simp[k]);refine Ft.congr fun z hz=>?_;have hzf:∀u∈c,u∈(p++q).flatten:=fun u hu=>adA.2 ⟨c,hc,hu⟩;have hm:=hzf _ (Ft.step hz);rw[hf z (WO z (List.mem_append_right _ (hzf z hz)))];unfold uf;rw[if_neg (fun k=>nx (List.mem_append_right _ (by rw[←k];exact hm))),if_neg (fun k=>ny (List.mem_append_right _ (by rw[←k];exact hm)))]
 refine⟨mn B++(mn A++(p++q)),⟨fun c hc=>?_,?_⟩,?_⟩
 ·rcases abH.1 hc with k|k
  ·exact cB c k
  rcases abH.1 k with k|k
  ·exact cA c k
  ·exact cR c k
 ·rw[List.flatten_append,List.flatten_append,xf,xf,←List.append_assoc];exact pD
 ·have eB:(if f' x=y then 0 else 1)=nz B:=by
   cases B with
   |nil=>exact if_pos fx
   |cons b B=>exact if_neg (fun k=>yB (by rw[←k,show f' x=b from fx];simp))
  have eA:(if f' y=x then 0 else 1)=nz A:=by
   cases A with
   |nil=>exact if_pos fy
   |cons a A=>exact if_neg (fun k=>xA (by rw[←k,show f' y=a from fy];simp))
  rw[eB,eA];simp only[List.length_append,HZ,List.length_cons];omega
theorem HY.WQ{f' f:α→α}{x y:α}{D:List α}{cs':List (List α)}{c:List α}(TB:x≠y)(hn:(x::y::D).Nodup)(h:HY f' (x::y::D) cs')(hf:∀z∈D,f z=uf f' x y z)(hc:c∈cs')(hx:x∈c)(hy:y∉c) :
  ∃cs,HY f D cs∧cs.length+2=cs'.length+(if f' x=x∧f' y=y then 0 else 1):=by
 obtain⟨p,q,rfl⟩:=ady hc;have hcc:=h.c c hc;obtain⟨B,h1,h2⟩:=hcc.head hx;have hyc:y∈(p++q).flatten:=by
  have:y∈(p++c::q).flatten:=h.p.mem_iff.2 (by simp);rcases abH.1 ((gE p q c).mem_iff.1 this) with k|k
  ·exact absurd k hy
  ·exact k
 obtain⟨c2,q9,amV⟩:=adA.1 hyc;have amW:c2∈p++c::q:=by rcases abH.1 q9 with k|k<;>simp[k]
 obtain⟨A,h3,h4⟩:=(h.c c2 amW).head amV;obtain⟨p2,q2,xq⟩:=ady q9;obtain⟨fx,pB⟩:=(show Path f' (x::B) x from h1);obtain⟨fy,pA⟩:=(show Path f' (y::A) y from h3);have pd:(x::y::(B++A++(p2++q2).flatten)).Perm (x::y::D):=by refine List.Perm.trans ?_ h.p;refine List.Perm.trans ?_ (gE p q c).symm;rw[xq];refine List.Perm.trans ?_ (ac9 _ h2);refine List.Perm.trans ?_ (List.Perm.append_left _ (gE p2 q2 c2).symm);refine List.Perm.trans ?_ (List.Perm.append_left _ (ac9 _ h4));show(x::y::(B++A++(p2++q2).flatten)).Perm (x::(B++(y::(A++(p2++q2).flatten))));refine List.Perm.cons x ?_;rw[List.append_assoc];exact adE.symm
 have pD:=(pd.cons_inv).cons_inv;have nd:=pd.nodup_iff.2 hn;have nx:x∉B++A++(p2++q2).flatten:=fun k=>(abx.1 nd).1 (aa5 _ k);have ny:y∉B++A++(p2++q2).flatten:=(abx.1 (abx.1 nd).2).1;have xB:x∉B:=fun k=>nx (by simp[k]);have xA:x∉A:=fun k=>nx (by simp[k]);have yB:y∉B:=fun k=>ny (by simp[k]);have yA:y∉A:=fun k=>ny (by simp[k]);have WO:∀z∈B++A++(p2++q2).flatten,z∈D:=fun z hz=>pD.mem_iff.1 hz;have nB:∀u∈B,f' u≠x→f u=f' u:=fun u hu bp=>by
  rw[hf u (WO u (by simp[hu]))];unfold uf;have:f' u≠y:=fun k=>by
   rcases pB.step hu with m|m
   ·exact yB (k▸m)
   ·exact bp m
  rw[if_neg bp,if_neg this]
 have nA:∀u∈A,f' u≠y→f u=f' u:=fun u hu bp=>by
  rw[hf u (WO u (by simp[hu]))];unfold uf;have:f' u≠x:=fun k=>by
   rcases pA.step hu with m|m
   ·exact xA (k▸m)
   ·exact bp m
  rw[if_neg this,if_neg bp]
 have eB:∀u∈B,f' u=x→f u=if f' y=y then f' x else f' y:=fun u hu heq=>by rw[hf u (WO u (by simp[hu]))];unfold uf;rw[if_pos heq]
 have eA:∀u∈A,f' u=y→f u=if f' x=x then f' y else f' x:=fun u hu heq=>by rw[hf u (WO u (by simp[hu]))];unfold uf;rw[if_neg (by rw[heq];exact fun k=>TB k.symm),if_pos heq]
 have cBA:∀c∈mn (B++A),jF f c:=fun c hc=>by
  cases B with
  |nil =>
   cases A with
   |nil=>simp[mn]at hc
   |cons a A =>
    have hc:c=a::A:=by simpa[mn] using hc
    subst hc;refine Path.iG pA (fun k=>yA (oE k)) nA (fun u hu heq=>?_);rw[eA u hu heq,if_pos (show f' x=x from fx)];exact fy
  |cons b B =>
   have fxb:f' x=b:=fx;have bx:b≠x:=fun k=>xB (by simp[k])
   cases A with
   |nil =>
    have hc:c=b::B:=by simpa[mn] using hc
    subst hc;refine Path.iG pB (fun k=>xB (oE k)) nB (fun u hu heq=>?_);rw[eB u hu heq,if_pos (show f' y=y from fy)];exact fxb
   |cons a A =>
    have hc:c=(b::B)++(a::A):=by simpa[mn] using hc
    subst hc;have fya:f' y=a:=fy;have ay:a≠y:=fun k=>yA (by simp[k]);refine jF.two.2 ⟨Path.iG pB (fun k=>xB (oE k)) nB (fun u hu heq=>?_),Path.iG pA (fun k=>yA (oE k)) nA (fun u hu heq=>?_)⟩
    ·rw[eB u hu heq,if_neg (by rw[fya];exact ay)];exact fya
    ·rw[eA u hu heq,if_neg (by rw[fxb];exact bx)];exact fxb
 have cR:∀c∈p2++q2,jF f c:=fun c hc=>by
  have So:c∈p++q:=by rw[xq];rcases abH.1 hc with k|k<;>simp[k]
  have Ft:jF f' c:=h.c c (by rcases abH.1 So with k|k<;>simp[k]);refine Ft.congr fun z hz=>?_;have hzf:∀u∈c,u∈(p2++q2).flatten:=fun u hu=>adA.2 ⟨c,hc,hu⟩;have hm:=hzf _ (Ft.step hz);rw[hf z (WO z (List.mem_append_right _ (hzf z hz)))];unfold uf;rw[if_neg (fun k=>nx (List.mem_append_right _ (by rw[←k];exact hm))),if_neg (fun k=>ny (List.mem_append_right _ (by rw[←k];exact hm)))]
 refine⟨mn (B++A)++(p2++q2),⟨fun c hc=>?_,?_⟩,?_⟩
 ·rcases abH.1 hc with k|k
  ·exact cBA c k
  ·exact cR c k
 ·rw[List.flatten_append,xf];exact pD
 ·have eBA:(if f' x=x∧f' y=y then 0 else 1)=nz (B++A):=by
   cases B with
   |nil =>
    cases A with
    |nil=>exact if_pos ⟨fx,fy⟩
    |cons a A=>exact if_neg (fun k=>yA (by rw[←k.2,show f' y=a from fy];simp))
   |cons b B=>exact if_neg (fun k=>xB (by rw[←k.1,show f' x=b from fx];simp))
  rw[eBA];have hl:(p++q).length=(p2++c2::q2).length:=by rw[xq]
  simp only[List.length_append,HZ,List.length_cons]at hl ⊢;omega
end
end Go.Cy
namespace Go.Vs
open Go.Proofs Go.Cy
def skip(x:ab)(s:ab→ab)(z:ab):ab:=if s z=x then s x else s z
def dN(row:List ab)(x:ab):ab:=(cK row x 1).getD zD
theorem qQ{row:List ab}(hn:row.Nodup){i:Nat}{x:ab}(hx:row[i]? = some x):dN row x=(row[(i+1)%row.length]?).getD zD:=by unfold dN cK;rw[if_pos (List.mem_of_getElem? hx),yW hn hx,Int.toNat_natCast]
theorem H3{row:List ab}(hn:row.Nodup):∀(r p:List ab),row=p++r→Path (dN row) r (row.head?.getD zD)
 |[],_,_=>trivial
 |x::r,p,h=>by
  refine⟨?_,H3 hn r (p++[x]) (by rw[h];simp)⟩;have hx:row[p.length]? = some x:=by rw[h];simp
  rw[qQ hn hx]
  cases r with
  |nil =>
   have hl:row.length=p.length+1:=by rw[h];simp
   rw[hl,Nat.mod_self];show(row[0]?).getD zD=row.head?.getD zD;rw[List.head?_eq_getElem?]
  |cons y r =>
   have hl:p.length+1<row.length:=by rw[h];simp
   rw[Nat.mod_eq_of_lt hl];have:row[p.length+1]? = some y:=by rw[h];simp
   rw[this];rfl
theorem ug{row:List ab}(hn:row.Nodup)(h0:row≠[]):jF (dN row) row:=by
 have:=H3 hn row [] rfl
 cases row with
 |nil=>exact absurd rfl h0
 |cons x r=>exact this
theorem Fu{f g:ab→ab}:∀{a:List ab} {z:ab},Path f a z→Path g a z→∀x∈a,f x=g x
 |y::r,z,p,q,x,hx=>by
  rcases abn.1 hx with rfl|hx
  ·exact p.1.trans q.1.symm
  ·exact Fu p.2 q.2 x hx
theorem H4{f g:ab→ab}{c:List ab}(h:jF f c)(k:jF g c):∀x∈c,f x=g x:=by
 cases c with
 |nil=>exact h.elim
 |cons y r=>exact Fu h k
theorem Mn{f:ab→ab}{row:List ab}{j:Nat}(h:jF f (kK row j)):jF f row:=by
 unfold kK at h;have:=jF.kK h
 rwa [List.take_append_drop]at this
theorem j6{row:List ab}(hn:row.Nodup){x:ab}(hx:x∈row):dN row x∈row:=(ug hn (adX hx)).step hx
theorem ns{f:ab→ab}:∀{a:List ab} {z:ab},Path f a z→a≠[]→∃l,l∈a∧f l=z
 |[x],z,p,_=>⟨x,by simp,p.1⟩
 |x::y::r,z,p,_=>by obtain⟨l,h1,h2⟩:=ns p.2 (by simp);exact⟨l,aa5 _ h1,h2⟩
theorem SX{row:List ab}(hn:row.Nodup){x y:ab}(hx:x∈row)(hy:y∈row)(h:dN row x=dN row y):x=y:=by
 obtain⟨i,hi⟩:=adD hx;obtain⟨j,hj⟩:=adD hy;have rf:=(abg.1 hi).1;have M8:=(abg.1 hj).1;have hp:0<row.length:=by omega
 rw[qQ hn hi,qQ hn hj,List.getElem?_eq_getElem (Nat.mod_lt _ hp),List.getElem?_eq_getElem (Nat.mod_lt _ hp)]at h;have h2:(i+1)%row.length=(j+1)%row.length:=AG hn (by simpa using h);have h3:i=j:=by
  by_cases a:i+1<row.length<;>by_cases b:j+1<row.length
  ·rw[Nat.mod_eq_of_lt a,Nat.mod_eq_of_lt b]at h2;omega
  ·have:j+1=row.length:=by omega
   rw[Nat.mod_eq_of_lt a,this,Nat.mod_self]at h2;omega
  ·have:i+1=row.length:=by omega
   rw[Nat.mod_eq_of_lt b,this,Nat.mod_self]at h2;omega
  ·omega
 subst h3;rw[hi]at hj;exact abK hj
theorem SY{row:List ab}(hn:row.Nodup){x z:ab}(hx:x∈row)(hz:z∈row)(hzx:z≠x):dN (bw row x) z=skip x (dN row) z:=by
 obtain⟨A,B,rfl⟩:=ady hx;obtain⟨k,hk⟩:=adD hx;have he:(A++x::B).filter (fun e=>decide (e≠x))=A++B:=by
  have Yi:(A++x::B)[A.length]? = some x:=by simp
  rw[AD hn Yi];simp
 have Hj:(x::(B++A)).Nodup:=by have p:(A++x::B).Perm (x::(B++A)):=adE.trans (List.Perm.cons x adF);exact p.nodup_iff.1 hn
 have Gb:z∈B++A:=by
  rcases abH.1 hz with k|k
  ·exact abo _ k
  ·rcases abn.1 k with k|k
   ·exact absurd k hzx
   ·exact abt _ k
 have c1:jF (dN (A++x::B)) (x::(B++A)):=by have:=(ug hn (adX hx)).kK;simpa using this
 obtain⟨fx,pL⟩:=(show Path (dN (A++x::B)) (x::(B++A)) x from c1);have c2:jF (skip x (dN (A++x::B))) (B++A):=by
  generalize hL:B++A=L at *
  cases L with
  |nil=>simp at Gb
  |cons l L =>
   have fx:dN (A++x::B) x=l:=fx;have yJ:x∉l::L:=(abx.1 Hj).1;refine Path.iG pL (fun k=>yJ (oE k)) (fun u hu bp=>?_) (fun u hu heq=>?_)
   ·unfold skip;rw[if_neg bp]
   ·unfold skip;rw[if_pos heq,fx]
 have hr:bw (A++x::B) x=bG (A++B):=by unfold bw;rw[he]
 obtain⟨j,hj,hjr⟩:=ml (A++B);have nAB:(A++B).Nodup:=(adF (l₁:=B) (l₂:=A)).nodup_iff.1 (abx.1 Hj).2;have amZ:(bw (A++x::B) x).Nodup:=by rw[hr];exact(fF _).nodup_iff.2 nAB
 have hzm:z∈bw (A++x::B) x:=by
  rw[hr,kz];rcases abH.1 Gb with k|k
  ·exact abo _ k
  ·exact abt _ k
 have c3:jF (dN (bw (A++x::B) x)) (A++B):=by have:=ug amZ (adX hzm);generalize dN (bw (A++x::B) x)=g at *;rw[hr,hjr]at this;exact Mn this
 exact H4 (jF.kK c3) c2 z Gb
def sg(d:ak)(x:ab):ab:=(kN d x).getD zD
def ph(d:ak)(x:ab):ab:=(Kb d x).getD zD
theorem Fv{d:ak}(h:Rw d.1){v:ai}{x:ab}(hv:v∈d.1)(hx:x∈v.2.1):kN d x=cK v.2.1 x 1:=by unfold kN bM;rw[du h hv hx];show cK (aW d v.1) x 1=_;rw[gm h.s hv]
theorem jx{d:ak}(h:Rw d.1){v:ai}{x:ab}(hv:v∈d.1)(hx:x∈v.2.1):sg d x=dN v.2.1 x:=by unfold sg dN;rw[Fv h hv hx]
theorem OF{d:ak}(h:Rw d.1){x:ab}(hx:x∈an d.1):kN d x=some (sg d x):=by
 obtain⟨v,hv,kb⟩:=aM.1 hx;have:kN d x=some (dN v.2.1 x):=by rw[Fv h hv kb];unfold dN cK;rw[if_pos kb];have hp:0<v.2.1.length:=adI kb;rw[List.getElem?_eq_getElem (Nat.mod_lt _ hp)];rfl
 rw[jx h hv kb,this]
theorem Zu{d:ak}(h:Rw d.1){x:ab}(hx:x∈an d.1):sg d x∈an d.1:=by obtain⟨v,hv,kb⟩:=aM.1 hx;rw[jx h hv kb];exact aM.2 ⟨v,hv,j6 (h.ring hv) kb⟩
theorem WR{d:ak}(h:Rw d.1){x y:ab}(hx:x∈an d.1)(hy:y∈an d.1)(he:sg d x=sg d y):x=y:=by obtain⟨v,hv,kb⟩:=aM.1 hx;obtain⟨w,hw,hyw⟩:=aM.1 hy;rw[jx h hv kb,jx h hw hyw]at he;have h1:=j6 (h.ring hv) kb;have h2:=j6 (h.ring hw) hyw;rw[←he]at h2;have hwv:=h.one hv hw h1 h2;subst hwv;exact SX (h.ring hw) kb hyw he
theorem sf{d:ak}(h:Rw d.1){x z:ab}(hx:x∈an d.1)(hz:z∈an (au d x).1):sg (au d x) z=skip x (sg d) z:=by
 obtain⟨p,q⟩:=c9 h hx;obtain⟨v,hv,kb⟩:=aM.1 hx;have hzd:z∈an d.1:=p.mem_iff.2 (aa5 _ hz);have hzx:z≠x:=fun k=>(abx.1 (p.nodup_iff.1 h.n)).1 (k▸hz);obtain⟨w,hw,Kd⟩:=aM.1 hz;have hr:=db h hv kb;have Ny:w∈d.1.map (iX v.1 (bw v.2.1 x)):=by rw[hr]at hw;exact hw
 obtain⟨u,hu,hwu⟩:=abY.1 Ny;rw[jx q hw Kd];by_cases Ym:u.1=v.1
 ·have Ym:u=v:=by have h1:=dM h.s hv;have h2:=dM h.s hu;rw[Ym,h1]at h2;exact(abK h2).symm
  subst Ym;have nc:w.2.1=bw u.2.1 x:=by rw[←hwu];unfold iX;rw[if_pos rfl]
  rw[nc]at Kd ⊢;have GN:z∈u.2.1:=(qO kb (h.ring hu)).mem_iff.2 (aa5 _ Kd);rw[SY (h.ring hu) kb GN hzx];unfold skip;rw[jx h hu GN,jx h hu kb]
 ·have nc:w=u:=by rw[←hwu];unfold iX;rw[if_neg Ym]
  subst nc;unfold skip;rw[jx h hu Kd,if_neg];intro k;have:=j6 (h.ring hu) Kd;rw[k]at this;exact Ym (congrArg Prod.fst (h.one hv hu kb this))
theorem Mo{d e:ak}(h:d.1=e.1)(x:ab):kN d x=kN e x:=by obtain⟨a,b⟩:=d;obtain⟨c,f⟩:=e;simp only at h;subst h;rfl
theorem bX{x:ab}(h:x.2=0∨x.2=1):ag (ag x)=x:=by obtain⟨x1,x2⟩:=x;simp only at h;rcases h with rfl|rfl<;>rfl
theorem Wf.side{d:ak}(h:Wf d){x:ab}(hx:x∈an d.1):x.2=0∨x.2=1:=by obtain⟨e,_,_,k⟩:=dr.1 (h.pd.mem_iff.1 hx);exact k
theorem Wf.other{d:ak}(h:Wf d){x:ab}(hx:x∈an d.1):ag x∈an d.1:=by
 obtain⟨e,he,h1,h2⟩:=dr.1 (h.pd.mem_iff.1 hx);refine h.pd.mem_iff.2 (dr.2 ⟨e,he,h1,?_⟩);obtain⟨_,k⟩:=iR h2;rcases k with⟨_,k⟩|⟨_,k⟩
 ·exact .inr k
 ·exact .inl k
theorem Fw{d:ak}{x:ab}(hx:x∈an d.1):(bM d x).isSome=true:=by obtain⟨v,hv,kb⟩:=aM.1 hx;unfold bM E2;rw[Option.isSome_map,List.find?_isSome];exact⟨v,hv,by simpa using kb⟩
theorem iY{d:ak}{x:ab}(hx:x∈an d.1):ph d x=sg d (ag x):=by unfold ph Kb sg;rw[if_pos (Fw hx)]
theorem Mp{d:ak}(h:Wf d){x:ab}(hx:x∈an d.1):Kb d x=some (ph d x):=by rw[iY hx];unfold Kb;rw[if_pos (Fw hx)];exact OF h.rw (h.other hx)
theorem WS{d:ak}(h:Wf d){x:ab}(hx:x∈an d.1):ph d x∈an d.1:=by rw[iY hx];exact Zu h.rw (h.other hx)
theorem OG{d:ak}(h:Wf d){x y:ab}(hx:x∈an d.1)(hy:y∈an d.1)(he:ph d x=ph d y):x=y:=by rw[iY hx,iY hy]at he;have:=WR h.rw (h.other hx) (h.other hy) he;rw[←bX (h.side hx),←bX (h.side hy),this]
theorem Mq{α:Type}[DecidableEq α]:∀{l D:List α},l.Nodup→(∀x∈l,x∈D)→l.length≤D.length
 |[],_,_,_=>adL _
 |x::r,D,hn,hs=>by have h1:=abx.1 hn;have hx:=hs x (abu ..);have ih:=Mq (l:=r) (D:=D.erase x) h1.2 (fun y hy=>(ad5 (fun k=>h1.1 (by rw[←k];exact hy))).2 (hs y (aa5 _ hy)));rw[List.length_erase_of_mem hx]at ih;have:=adI hx;simp;omega
theorem WT{d:ak}(h:Wf d){out:List ab}{y:ab}(hn:out.Nodup)(hs:∀z∈out,z∈an d.1)(hp:Path (ph d) out y):y∉out.tail:=fun hy=>by
 cases out with
 |nil=>simp at hy
 |cons x r =>
  have hy:y∈r:=hy;obtain⟨p,q,rfl⟩:=ady hy;have key:∀(x:ab) (p:List ab),Path (ph d) (x::(p++y::q)) y→(x::(p++y::q)).Nodup→(∀z∈x::(p++y::q),z∈an d.1)→False:=by
   intro x p
   induction p generalizing x with
   |nil =>intro hp hn hs;have h1:ph d x=y:=hp.1;obtain⟨l,h2,h3⟩:=ns hp.2 (by simp);have:=OG h (hs x (by simp)) (hs l (aa5 _ h2)) (h1.trans h3.symm);subst this;exact(abx.1 hn).1 h2
   |cons u p ih =>intro hp hn hs;exact ih u hp.2 (abx.1 hn).2 (fun z hz=>hs z (aa5 _ hz))
  exact key x p hp hn hs
theorem Wf.Mr{d:ak}(h:Wf d):(an d.1).length≤80:=by
 have h2:=h.pd.length_eq;have h3:=h.ne;have:(ends d.2).length=2*d.2.length:=by
  clear h2 h3 h;generalize d.2=l
  induction l with
  |nil=>rfl
  |cons e r ih=>rw[ll];simp[ih];omega
 omega
theorem Fx{d:ak}(h:Wf d)(x:ab):∀(n:Nat) (y:ab) (r:List ab),(x::r).length+n=82→(x::r).Nodup→(∀z∈x::r,z∈an d.1)→Path (ph d) (x::r) y→y∈an d.1 → ∃r',tY d x n y (x::r)=x::r'∧(x::r').Nodup∧(∀z∈x::r',z∈an d.1)∧jF (ph d) (x::r')
 |0,y,r,hl,hn,hs,hp,hy=>by have:=Mq hn hs;have:=h.Mr;omega
 |n+1,y,r,hl,hn,hs,hp,hy=>by
  unfold tY;by_cases he:y=x
  ·subst he;rw[if_pos rfl];exact⟨r,rfl,hn,hs,hp⟩
  ·rw[if_neg he];have hyr:y∉x::r:=fun k=>by
    rcases abn.1 k with k|k
    ·exact he k
    ·exact WT h hn hs hp k
   have e:(Kb d y).getD zD=ph d y:=rfl;rw[e];refine Fx h x n (ph d y) (r++[y]) (by simp at hl ⊢;omega) ?_ (fun z hz=>?_) ?_ (WS h hy)
   ·show((x::r)++[y]).Nodup;refine acV.2 ⟨hn,by simp,fun a ha b hb=>?_⟩;simp at hb;subst hb;exact fun k=>hyr (k▸ha)
   ·have hz:z∈(x::r)++[y]:=hz;rcases abH.1 hz with k|k
    ·exact hs z k
    ·simp at k;rw[k];exact hy
   ·show Path (ph d) ((x::r)++[y]) (ph d y);exact Path.app.2 ⟨hp,rfl,trivial⟩
theorem xg{d:ak}(h:Wf d){x:ab}(hx:x∈an d.1):∃r,bz d x=x::r∧(x::r).Nodup∧(∀z∈x::r,z∈an d.1)∧jF (ph d) (x::r):=by unfold bz;rw[Mp h hx];exact Fx h x 81 (ph d x) [] rfl (by simp) (fun z hz=>by simp at hz;rw[hz];exact hx) ⟨rfl,trivial⟩ (WS h hx)
theorem uh{d:ak}(h:Wf d):∀(l:List ab) (out:List (List ab)),(∀x∈l,x∈an d.1)→(∀c∈out,jF (ph d) c)→out.flatten.Nodup→(∀x∈out.flatten,x∈an d.1) →(∀c∈jE d l out out.flatten,jF (ph d) c)∧(jE d l out out.flatten).flatten.Nodup∧(∀x∈(jE d l out out.flatten).flatten,x∈an d.1)∧(∀x,x∈l∨x∈out.flatten→x∈(jE d l out out.flatten).flatten)
 |[],out,_,h1,h2,h3=>⟨h1,h2,h3,fun x k=>k.resolve_left (by simp)⟩
 |x::l,out,hl,h1,h2,h3=>by
  unfold jE;by_cases hx:x∈out.flatten
  ·rw[if_pos hx];obtain⟨a,b,c,e⟩:=uh h l out (fun y hy=>hl y (aa5 _ hy)) h1 h2 h3;refine⟨a,b,c,fun y hy=>e y ?_⟩;rcases hy with hy|hy
   ·rcases abn.1 hy with rfl|hy
    ·exact .inr hx
    ·exact .inl hy
   ·exact .inr hy
  ·rw[if_neg hx];obtain⟨r,t1,t2,t3,t4⟩:=xg h (hl x (abu ..));have ef:out.flatten++bz d x=(out++[bz d x]).flatten:=by simp
   rw[ef];have am1:∀y∈bz d x,y∉out.flatten:=fun y hy k=>by obtain⟨c,hc,hyc⟩:=adA.1 k;rw[t1]at hy;exact hx (adA.2 ⟨c,hc,t4.same (h1 c hc) hy hyc (abu ..)⟩)
   obtain⟨a,b,c,e⟩:=uh h l (out++[bz d x]) (fun y hy=>hl y (aa5 _ hy)) (fun c hc=>by
     rcases abH.1 hc with k|k
     ·exact h1 c k
     ·simp at k;rw[k,t1];exact t4)
    (by rw[←ef];refine acV.2 ⟨h2,by rw[t1];exact t2,fun u hu w hw k=>am1 w hw (k▸hu)⟩)
    (fun y hy=>by
     rw[←ef]at hy;rcases abH.1 hy with k|k
     ·exact h3 y k
     ·rw[t1]at k;exact t3 y k)
   refine⟨a,b,c,fun y hy=>e y ?_⟩;rw[←ef];rcases hy with hy|hy
   ·rcases abn.1 hy with rfl|hy
    ·exact .inr (abo _ (by rw[t1];simp))
    ·exact .inl hy
   ·exact .inr (abt _ hy)
theorem mW:∀l:List aj,fW l=ends l
 |[]=>rfl
 |e::r=>by rw[ll,fW,mW r]
theorem bO{d:ak}(h:Wf d):HY (ph d) (an d.1) (cg d):=by obtain⟨a,b,c,e⟩:=uh h (fW d.2) [] (fun x hx=>h.pd.mem_iff.2 (by rw[←mW];exact hx)) (by simp) (by simp) (by simp);refine⟨a,(List.perm_ext_iff_of_nodup b h.rw.n).2 fun x=>⟨c x,fun hx=>e x (.inl (by rw[mW];exact h.pd.mem_iff.1 hx))⟩⟩
def cp(d:ak)(x:ID):ak:=aH (au (au d (x,0)) (x,1)) zI x
theorem OH{d:ak}(h:Wf d)(x y:ab)(e:ID):(aH (au (au d x) y) zI e).1=(au (au d x) y).1:=lK (iF (iF h.gv x) y)
theorem Fy(x:ID):ag (x,0)=(x,1):=rfl
theorem WU(x:ID):ag (x,1)=(x,0):=rfl
structure cm(d':ak)(x:ID):Prop where
 wf:Wf d'
 e:(aP d'.2 x).isSome=true
theorem cm.x0{d':ak}{x:ID}(h:cm d' x):(x,0)∈an d'.1:=h.wf.gq h.e (.inl rfl)
theorem cm.x1{d':ak}{x:ID}(h:cm d' x):(x,1)∈an d'.1:=h.wf.gq h.e (.inr rfl)
theorem cm.p1{d':ak}{x:ID}(h:cm d' x):(an d'.1).Perm ((x,0)::an (au d' (x,0)).1)∧Rw (au d' (x,0)).1:=c9 h.wf.rw h.x0
theorem cm.x1'{d':ak}{x:ID}(h:cm d' x):(x,1)∈an (au d' (x,0)).1:=by
 rcases abn.1 (h.p1.1.mem_iff.1 h.x1) with k|k
 ·cases k
 ·exact k
theorem cm.p2{d':ak}{x:ID}(h:cm d' x):(an (au d' (x,0)).1).Perm ((x,1)::an (au (au d' (x,0)) (x,1)).1)∧Rw (au (au d' (x,0)) (x,1)).1:=c9 h.p1.2 h.x1'
theorem cm.v{d':ak}{x:ID}(h:cm d' x):(cp d' x).1=(au (au d' (x,0)) (x,1)).1:=OH h.wf _ _ _
theorem cm.w{d':ak}{x:ID}(h:cm d' x):Wf (cp d' x):=h.wf.cut h.e
theorem cm.p{d':ak}{x:ID}(h:cm d' x):(an d'.1).Perm ((x,0)::(x,1)::an (cp d' x).1):=by rw[h.v];exact h.p1.1.trans (List.Perm.cons _ h.p2.1)
theorem cm.sg{d':ak}{x:ID}(h:cm d' x){z:ab}(hz:z∈an (cp d' x).1):sg (cp d' x) z=skip (x,1) (skip (x,0) (sg d')) z:=by
 have e1:Vs.sg (cp d' x) z=Vs.sg (au (au d' (x,0)) (x,1)) z:=by unfold Vs.sg;rw[Mo h.v]
 rw[h.v]at hz;have Bc:z∈an (au d' (x,0)).1:=h.p2.1.mem_iff.2 (aa5 _ hz);rw[e1,sf h.p1.2 h.x1' hz];unfold skip;rw[sf h.wf.rw h.x0 Bc,sf h.wf.rw h.x0 h.x1'];rfl
theorem cm.ph{d':ak}{x:ID}(h:cm d' x){z:ab}(hz:z∈an (cp d' x).1):ph (cp d' x) z=uf (ph d') (x,0) (x,1) z:=by
 have Dc:z∈an d'.1:=h.p.mem_iff.2 (aa5 _ (aa5 _ hz));have ho:=h.w.other hz;have pP:ag z∈an d'.1:=h.p.mem_iff.2 (aa5 _ (aa5 _ ho));have nd:=h.p.nodup_iff.1 h.wf.rw.n;have Gv:ag z≠(x,1):=fun k=>(abx.1 (abx.1 nd).2).1 (k▸ho);rw[iY hz,h.sg ho];unfold uf;rw[iY Dc,iY h.x0,iY h.x1,Fy,WU];generalize hW:ag z=w at *;have inj:Vs.sg d' (x,1)=(x,0)→Vs.sg d' w≠(x,0):=fun k1 k2=>Gv (WR h.wf.rw pP h.x1 (k2.trans k1.symm));unfold skip;by_cases c1:Vs.sg d' w=(x,0)
 ·rw[if_pos c1];by_cases c2:Vs.sg d' (x,0)=(x,1)
  ·rw[if_pos c2,if_pos c2];by_cases c3:Vs.sg d' (x,1)=(x,0)
   ·exact absurd c1 (inj c3)
   ·rw[if_neg c3,if_pos c1]
  ·rw[if_neg c2,if_neg c2,if_pos c1]
 ·rw[if_neg c1];by_cases c2:Vs.sg d' w=(x,1)
  ·rw[if_pos c2,if_neg c1]
  ·rw[if_neg c2,if_neg c1]
def al(l:List ai):Nat:=l.countP fun v=>v.2.1.isEmpty
theorem H5{row:List ab}(hn:row.Nodup){x:ab}(hx:x∈row):dN row x=x↔row.length=1:=by
 obtain⟨i,hi⟩:=adD hx;have rf:=(abg.1 hi).1;have hp:0<row.length:=by omega
 rw[qQ hn hi,List.getElem?_eq_getElem (Nat.mod_lt _ hp)];constructor
 ·intro h;have h1:row[(i+1)%row.length]? = some x:=by rw[List.getElem?_eq_getElem (Nat.mod_lt _ hp)];exact congrArg some (by simpa using h)
  have h2:=nr hn h1 hi;by_cases c:i+1<row.length
  ·rw[Nat.mod_eq_of_lt c]at h2;omega
  ·have:i+1=row.length:=by omega
   rw[this,Nat.mod_self]at h2;omega
 ·intro h;have h0:i=0:=by omega
  subst h0;have:(0+1)%row.length=0:=by rw[h]
  simp only[this];obtain⟨h1,h2⟩:=abg.1 hi;simpa using h2
theorem Fz{d:ak}(h:Rw d.1){x:ab}(hx:x∈an d.1):al (au d x).1=al d.1+if sg d x=x then 1 else 0:=by
 obtain⟨v,hv,kb⟩:=aM.1 hx;obtain⟨a,b,h1,_,_,h2⟩:=mE h.s hv;have e1:(au d x).1=a++(v.1,(bw v.2.1 x,v.2.2))::b:=by rw[db h hv kb];exact h2 _
 have p:=qO kb (h.ring hv);have hl:=p.length_eq;have v0:v.2.1.isEmpty=false:=by
  cases hq:v.2.1 with
  |nil=>rw[hq]at kb;simp at kb
  |cons _ _=>rfl
 have v1:(bw v.2.1 x).isEmpty=decide (sg d x=x):=by rw[Bool.eq_iff_iff,List.isEmpty_iff,decide_eq_true_eq,jx h hv kb,H5 (h.ring hv) kb,←List.length_eq_zero_iff];simp at hl;omega
 rw[e1]
 conv=>rhs;rw[h1]
 unfold al;rw[List.countP_append,List.countP_append,List.countP_cons,List.countP_cons];simp only[v0,v1];by_cases c:sg d x=x
 ·simp[c];omega
 ·simp[c]
def ft(d:ak):Nat:=(cg d).length+al d.1
def JK(d:ak)(x y:ab):Prop:=∃c∈cg d,x∈c∧y∈c
theorem cm.al{d':ak}{x:ID}(h:cm d' x):Vs.al (cp d' x).1=Vs.al d'.1+(if Vs.ph d' (x,1)=(x,0) then 1 else 0)+(if Vs.ph d' (x,0)=(x,1)∨(Vs.ph d' (x,0)=(x,0)∧Vs.ph d' (x,1)=(x,1)) then 1 else 0):=by
 rw[h.v,Fz h.p1.2 h.x1',Fz h.wf.rw h.x0];have e0:Vs.ph d' (x,0)=Vs.sg d' (x,1):=iY h.x0;have e1:Vs.ph d' (x,1)=Vs.sg d' (x,0):=iY h.x1;rw[e0,e1,sf h.wf.rw h.x0 h.x1'];unfold skip;congr 1;by_cases c:Vs.sg d' (x,1)=(x,0)
 ·rw[if_pos c];by_cases k:Vs.sg d' (x,0)=(x,1)
  ·rw[if_pos k,if_pos (.inr ⟨c,k⟩)]
  ·rw[if_neg k,if_neg];rintro(m|⟨_,m⟩)
   ·rw[c]at m;cases m
   ·exact k m
 ·rw[if_neg c];by_cases k:Vs.sg d' (x,1)=(x,1)
  ·rw[if_pos k,if_pos (.inl k)]
  ·rw[if_neg k,if_neg];rintro(m|⟨m,_⟩)
   ·exact k m
   ·exact c m
theorem Zv(x:ID):((x,0):ab)≠(x,1):=fun k=>by cases k
theorem cm.same{d':ak}{x:ID}(h:cm d' x)(hf:JK d' (x,0) (x,1)):ft (cp d' x)=ft d'+1∧(cg (cp d' x)).length+1=(cg d').length+(if Vs.ph d' (x,0)=(x,1) then 0 else 1)+(if Vs.ph d' (x,1)=(x,0) then 0 else 1):=by
 obtain⟨c,hc,h0,h1⟩:=hf;have nd:=h.p.nodup_iff.1 h.wf.rw.n;have dec:HY (Vs.ph d') ((x,0)::(x,1)::an (cp d' x).1) (cg d'):=⟨(bO h.wf).c,(bO h.wf).p.trans h.p⟩;obtain⟨cs,k1,k2⟩:=HY.WN (Zv x) nd dec (fun z hz=>h.ph hz) hc h0 h1;have k3:=HY.count (h.w.rw.n) (bO h.w) k1;have k4:=h.al;have Ft:=(bO h.wf).c c hc;have n0:¬(Vs.ph d' (x,0)=(x,0)):=fun k=>by
  obtain⟨n,hn⟩:=Ft.reach h0 h1;have:∀n,it (Vs.ph d') n (x,0)=(x,0):=fun n=>by
   induction n with
   |zero=>rfl
   |succ n ih=>show it (Vs.ph d') n (Vs.ph d' (x,0))=_;rw[k];exact ih
  rw[this]at hn;cases hn
 refine⟨?_,by rw[k3];exact k2⟩;unfold ft;rw[k3,k4];by_cases c0:Vs.ph d' (x,0)=(x,1)
 ·rw[if_pos c0]at k2;rw[if_pos (Or.inl c0)];by_cases c1:Vs.ph d' (x,1)=(x,0)
  ·rw[if_pos c1]at k2 ⊢;omega
  ·rw[if_neg c1]at k2 ⊢;omega
 ·rw[if_neg c0]at k2;rw[if_neg (show ¬(Vs.ph d' (x,0)=(x,1)∨(Vs.ph d' (x,0)=(x,0)∧Vs.ph d' (x,1)=(x,1))) from fun m=>m.elim c0 fun m=>n0 m.1)];by_cases c1:Vs.ph d' (x,1)=(x,0)
  ·rw[if_pos c1]at k2 ⊢;omega
  ·rw[if_neg c1]at k2 ⊢;omega
theorem cm.diff{d':ak}{x:ID}(h:cm d' x)(hf:¬JK d' (x,0) (x,1)):ft (cp d' x)+1=ft d':=by
 have hm:(x,0)∈(cg d').flatten:=(bO h.wf).p.mem_iff.2 h.x0;obtain⟨c,hc,h0⟩:=adA.1 hm;have h1:(x,1)∉c:=fun k=>hf ⟨c,hc,h0,k⟩;have nd:=h.p.nodup_iff.1 h.wf.rw.n;have dec:HY (Vs.ph d') ((x,0)::(x,1)::an (cp d' x).1) (cg d'):=⟨(bO h.wf).c,(bO h.wf).p.trans h.p⟩;obtain⟨cs,k1,k2⟩:=HY.WQ (Zv x) nd dec (fun z hz=>h.ph hz) hc h0 h1;have k3:=HY.count (h.w.rw.n) (bO h.w) k1;have k4:=h.al;have Ft:=(bO h.wf).c c hc;have n0:¬(Vs.ph d' (x,0)=(x,1)):=fun k=>h1 (k▸Ft.step h0);have n1:¬(Vs.ph d' (x,1)=(x,0)):=fun k=>by have Ct:(x,1)∈(cg d').flatten:=(bO h.wf).p.mem_iff.2 h.x1;obtain⟨c2,q9,h2⟩:=adA.1 Ct;have:=((bO h.wf).c c2 q9).step h2;rw[k]at this;exact hf ⟨c2,q9,this,h2⟩
 unfold ft;rw[k3,k4,if_neg n1];by_cases c:Vs.ph d' (x,0)=(x,0)∧Vs.ph d' (x,1)=(x,1)
 ·rw[if_pos c]at k2;rw[if_pos (.inr c)];omega
 ·rw[if_neg c]at k2;rw[if_neg (fun m=>m.elim n0 c)];omega
def BS(d:ak)(a b:ID):Prop:=∃z∈an d.1,bM d z=some a∧bM d (ag z)=some b
inductive cJ (d:ak):ID→ID→Prop
 |refl (a:ID):cJ d a a
 |tail {a b c:ID}:cJ d a b→BS d b c→cJ d a c
theorem cJ.trans{d:ak}{a b c:ID}(h:cJ d a b)(k:cJ d b c):cJ d a c:=by
 induction k with
 |refl=>exact h
 |tail _ j ih=>exact ih.tail j
theorem BS.symm{d:ak}(hw:Wf d){a b:ID}(h:BS d a b):BS d b a:=by obtain⟨z,hz,h1,h2⟩:=h;exact⟨ag z,hw.other hz,h2,by rw[bX (hw.side hz)];exact h1⟩
theorem BS.conn{d:ak}{a b:ID}(h:BS d a b):cJ d a b:=(cJ.refl a).tail h
theorem cJ.symm{d:ak}(hw:Wf d){a b:ID}(h:cJ d a b):cJ d b a:=by
 induction h with
 |refl=>exact .refl _
 |tail _ j ih=>exact(j.symm hw).conn.trans ih
structure qb(d:ak)(R:List ID):Prop where
 n:R.Nodup
 v:∀r∈R,∃v∈d.1,v.1=r
 i:∀r∈R,∀s∈R,cJ d r s→r=s
 c:∀v∈d.1,∃r∈R,cJ d v.1 r
theorem JM{d:ak}(hw:Wf d):∀{R R':List ID},R.Nodup→(∀r∈R,∀s∈R,cJ d r s→r=s)→(∀r∈R,∃s∈R',cJ d r s)→R.length≤R'.length
 |[],_,_,_,_=>adL _
 |r::R,R',hn,hi,hc=>by obtain⟨s,hs,Yc⟩:=hc r (abu ..);have h1:=abx.1 hn;have ih:=JM hw (R:=R) (R':=R'.erase s) h1.2 (fun a ha b hb=>hi a (aa5 _ ha) b (aa5 _ hb)) (fun a ha=>by obtain⟨t,ht,Bl⟩:=hc a (aa5 _ ha);refine⟨t,(ad5 (fun k=>?_)).2 ht,Bl⟩;subst k;have:=hi a (aa5 _ ha) r (abu ..) (Bl.trans (Yc.symm hw));exact h1.1 (this▸ha));rw[List.length_erase_of_mem hs]at ih;have:=adI hs;simp;omega
theorem qb.len{d:ak}(hw:Wf d){R R':List ID}(h:qb d R)(h':qb d R'):R.length=R'.length:=by
 refine Nat.le_antisymm (JM hw h.n h.i fun r hr=>?_) (JM hw h'.n h'.i fun r hr=>?_)
 ·obtain⟨v,hv,rfl⟩:=h.v r hr;exact h'.c v hv
 ·obtain⟨v,hv,rfl⟩:=h'.v r hr;exact h.c v hv
theorem uj{d:ak}(hw:Wf d){z:ab}(hz:z∈an d.1):∃v∈d.1,z∈v.2.1∧bM d z=some v.1:=by obtain⟨v,hv,hzv⟩:=aM.1 hz;exact⟨v,hv,hzv,du hw.rw hv hzv⟩
theorem FA{d:ak}(h:Rw d.1){x z:ab}(hx:x∈an d.1)(hz:z∈an (au d x).1):bM (au d x) z=bM d z:=by
 obtain⟨p,q⟩:=c9 h hx;obtain⟨v,hv,kb⟩:=aM.1 hx;obtain⟨w,hw,Kd⟩:=aM.1 hz;have hr:=db h hv kb;have Ny:w∈d.1.map (iX v.1 (bw v.2.1 x)):=by rw[hr]at hw;exact hw
 obtain⟨u,hu,hwu⟩:=abY.1 Ny;have bV:w.1=u.1:=by rw[←hwu];exact qa _ _ _
 have GN:z∈u.2.1:=by
  by_cases Ym:u.1=v.1
  ·have Ym:u=v:=by have h1:=dM h.s hv;have h2:=dM h.s hu;rw[Ym,h1]at h2;exact(abK h2).symm
   subst Ym;have nc:w.2.1=bw u.2.1 x:=by rw[←hwu];unfold iX;rw[if_pos rfl]
   rw[nc]at Kd;exact(qO kb (h.ring hu)).mem_iff.2 (aa5 _ Kd)
  ·have nc:w=u:=by rw[←hwu];unfold iX;rw[if_neg Ym]
   rw[←nc];exact Kd
 show E2 (au d x).1 z=E2 d.1 z;rw[du q hw Kd,du h hu GN,bV]
theorem cm.at{d':ak}{x:ID}(h:cm d' x){z:ab}(hz:z∈an (cp d' x).1):bM (cp d' x) z=bM d' z:=by
 have e:bM (cp d' x) z=bM (au (au d' (x,0)) (x,1)) z:=by unfold bM;rw[h.v]
 rw[h.v]at hz;have Bc:z∈an (au d' (x,0)).1:=h.p2.1.mem_iff.2 (aa5 _ hz);rw[e,FA h.p1.2 h.x1' hz,FA h.wf.rw h.x0 Bc]
theorem cm.sub{d':ak}{x:ID}(h:cm d' x){z:ab}(hz:z∈an (cp d' x).1):z∈an d'.1:=h.p.mem_iff.2 (aa5 _ (aa5 _ hz))
theorem cm.Zw{d':ak}{x:ID}(h:cm d' x){a b:ID}(k:BS (cp d' x) a b):BS d' a b:=by obtain⟨z,hz,h1,h2⟩:=k;exact⟨z,h.sub hz,by rw[←h.at hz];exact h1,by rw[←h.at (h.w.other hz)];exact h2⟩
theorem cm.conn{d':ak}{x:ID}(h:cm d' x){a b:ID}(k:cJ (cp d' x) a b):cJ d' a b:=by
 induction k with
 |refl=>exact .refl _
 |tail _ j ih=>exact ih.tail (h.Zw j)
theorem cm.am2{d':ak}{x u w:ID}(h:cm d' x)(hu:bM d' (x,0)=some u)(hw:bM d' (x,1)=some w){a b:ID}(k:BS d' a b):BS (cp d' x) a b∨(a=u∧b=w)∨(a=w∧b=u):=by
 obtain⟨z,hz,h1,h2⟩:=k;rcases abn.1 (h.p.mem_iff.1 hz) with rfl|Gb
 ·rw[Fy]at h2;rw[hu]at h1;rw[hw]at h2
  cases h1;cases h2
  exact .inr (.inl ⟨rfl,rfl⟩)
 rcases abn.1 Gb with rfl|M5
 ·rw[WU]at h2;rw[hw]at h1;rw[hu]at h2
  cases h1;cases h2
  exact .inr (.inr ⟨rfl,rfl⟩)
 ·exact .inl ⟨z,M5,by rw[h.at M5];exact h1,by rw[h.at (h.w.other M5)];exact h2⟩
theorem cm.WV{d':ak}{x u w:ID}(h:cm d' x)(hu:bM d' (x,0)=some u)(hw:bM d' (x,1)=some w){a b:ID}(k:cJ d' a b) :
  cJ (cp d' x) a b∨(cJ (cp d' x) a u∧cJ (cp d' x) w b)∨(cJ (cp d' x) a w∧cJ (cp d' x) u b):=by
 induction k with
 |refl=>exact .inl (.refl _)
 |tail _ j ih =>
  rcases h.am2 hu hw j with j|⟨rfl,rfl⟩|⟨rfl,rfl⟩
  ·rcases ih with k|⟨k,m⟩|⟨k,m⟩
   ·exact .inl (k.tail j)
   ·exact .inr (.inl ⟨k,m.tail j⟩)
   ·exact .inr (.inr ⟨k,m.tail j⟩)
  ·rcases ih with k|⟨k,m⟩|⟨k,m⟩
   ·exact .inr (.inl ⟨k,.refl _⟩)
   ·exact .inr (.inl ⟨k,.refl _⟩)
   ·exact .inl k
  ·rcases ih with k|⟨k,m⟩|⟨k,m⟩
   ·exact .inr (.inr ⟨k,.refl _⟩)
   ·exact .inl k
   ·exact .inr (.inr ⟨k,.refl _⟩)
theorem cm.ids{d':ak}{x:ID}(h:cm d' x):(cp d' x).1.map (·.1)=d'.1.map (·.1):=by rw[h.v];unfold au Vs.cj;simp only[List.map_map];refine acM fun v hv=>?_;simp only[Function.comp,qa]
theorem cm.OJ{d':ak}{x:ID}(h:cm d' x){r:ID}:(∃v∈(cp d' x).1,v.1=r)↔∃v∈d'.1,v.1=r:=by
 have e:∀l:List ai,(∃v∈l,v.1=r)↔r∈l.map (·.1):=fun l=>by rw[List.mem_map]
 rw[e,e,h.ids]
theorem cm.Cf{d':ak}{x u w:ID}(h:cm d' x)(hu:bM d' (x,0)=some u)(hw:bM d' (x,1)=some w)(k:cJ (cp d' x) u w){R:List ID}(hr:qb d' R):qb (cp d' x) R:=by
 have key:∀{a b:ID},cJ d' a b→cJ (cp d' x) a b:=fun {a b} m=>by
  rcases h.WV hu hw m with m|⟨m,q⟩|⟨m,q⟩
  ·exact m
  ·exact(m.trans k).trans q
  ·exact(m.trans (k.symm h.w)).trans q
 refine⟨hr.n,fun r E3=>h.OJ.2 (hr.v r E3),fun r E3 s hs m=>hr.i r E3 s hs (h.conn m),fun v hv=>?_⟩;obtain⟨v',Du,he⟩:=h.OJ.1 ⟨v,hv,rfl⟩;obtain⟨r,h1,h2⟩:=hr.c v' Du;exact⟨r,h1,by rw[←he];exact key h2⟩
theorem cm.JN{d':ak}{x:ID}(h:cm d' x):∃u w,bM d' (x,0)=some u∧bM d' (x,1)=some w∧(∃v∈d'.1,v.1=u)∧∃v∈d'.1,v.1=w:=by obtain⟨v,hv,_,h1⟩:=uj h.wf h.x0;obtain⟨v2,A8,_,h2⟩:=uj h.wf h.x1;exact⟨v.1,v2.1,h1,h2,⟨v,hv,rfl⟩,⟨v2,A8,rfl⟩⟩
theorem cm.Qv{d':ak}{x u w:ID}(h:cm d' x)(hu:bM d' (x,0)=some u)(hw:bM d' (x,1)=some w)(k:¬cJ (cp d' x) u w){R:List ID}(hr:qb d' R):∃R2,qb (cp d' x) R2∧R2.length=R.length+1:=by
 have uv:∃v∈d'.1,v.1=u:=by obtain⟨v,hv,_,h1⟩:=uj h.wf h.x0;rw[hu]at h1;cases h1;exact⟨v,hv,rfl⟩
 have wv:∃v∈d'.1,v.1=w:=by obtain⟨v,hv,_,h1⟩:=uj h.wf h.x1;rw[hw]at h1;cases h1;exact⟨v,hv,rfl⟩
 have uw:cJ d' u w:=BS.conn ⟨(x,0),h.x0,hu,by rw[Fy];exact hw⟩;obtain⟨v0,X2,hvu⟩:=uv;obtain⟨r,E3,hur⟩:=hr.c v0 X2;rw[hvu]at hur;have sep:∀s∈R.erase r,s∈R∧¬cJ d' s u∧¬cJ d' s w:=fun s hs=>by
  have h1:=adZ hs;have h2:s≠r:=fun e=>by subst e;exact absurd hs (List.Nodup.not_mem_erase hr.n)
  exact⟨h1,fun m=>h2 (hr.i s h1 r E3 (m.trans hur)),fun m=>h2 (hr.i s h1 r E3 ((m.trans (uw.symm h.wf)).trans hur))⟩
 refine⟨u::w::R.erase r,⟨?_,?_,?_,?_⟩,?_⟩
 ·refine abx.2 ⟨fun m=>?_,abx.2 ⟨fun m=>(sep w m).2.2 (.refl _),hr.n.erase r⟩⟩;rcases abn.1 m with m|m
  ·exact k (m▸.refl _)
  ·exact(sep u m).2.1 (.refl _)
 ·intro s hs;rcases abn.1 hs with rfl|hs
  ·exact h.OJ.2 ⟨v0,X2,hvu⟩
  rcases abn.1 hs with rfl|hs
  ·exact h.OJ.2 wv
  ·exact h.OJ.2 (hr.v s (sep s hs).1)
 ·intro a ha b hb m;rcases abn.1 ha with ea|ha
  ·rcases abn.1 hb with eb|hb
   ·rw[ea,eb]
   rcases abn.1 hb with eb|hb
   ·exact absurd (ea▸eb▸m) k
   ·exact absurd ((h.conn (ea▸m)).symm h.wf) (sep b hb).2.1
  rcases abn.1 ha with ea|ha
  ·rcases abn.1 hb with eb|hb
   ·exact absurd ((ea▸eb▸m).symm h.w) k
   rcases abn.1 hb with eb|hb
   ·rw[ea,eb]
   ·exact absurd ((h.conn (ea▸m)).symm h.wf) (sep b hb).2.2
  ·rcases abn.1 hb with eb|hb
   ·exact absurd (eb▸h.conn m) (sep a ha).2.1
   rcases abn.1 hb with eb|hb
   ·exact absurd (eb▸h.conn m) (sep a ha).2.2
   ·exact hr.i a (sep a ha).1 b (sep b hb).1 (h.conn m)
 ·intro v hv;obtain⟨v',Du,he⟩:=h.OJ.1 ⟨v,hv,rfl⟩;obtain⟨s,h1,h2⟩:=hr.c v' Du;rw[he]at h2;by_cases hsr:s=r
  ·subst hsr;rcases h.WV hu hw (h2.trans (hur.symm h.wf)) with m|⟨m,_⟩|⟨m,_⟩
   ·exact⟨u,by simp,m⟩
   ·exact⟨u,by simp,m⟩
   ·exact⟨w,by simp,m⟩
  ·have Yx:s∈R.erase r:=(ad5 hsr).2 h1;rcases h.WV hu hw h2 with m|⟨_,q⟩|⟨_,q⟩
   ·exact⟨s,by simp[Yx],m⟩
   ·exact absurd ((h.conn q).symm h.wf) (sep s Yx).2.2
   ·exact absurd ((h.conn q).symm h.wf) (sep s Yx).2.1
 ·have:=adI E3;simp only[List.length_cons,List.length_erase_of_mem E3];omega
theorem cm.AJ{d':ak}{x u w:ID}(h:cm d' x)(hu:bM d' (x,0)=some u)(hw:bM d' (x,1)=some w)(hf:¬JK d' (x,0) (x,1)):cJ (cp d' x) u w:=by
 have hm:(x,0)∈(cg d').flatten:=(bO h.wf).p.mem_iff.2 h.x0;obtain⟨c,hc,h0⟩:=adA.1 hm;have h1:(x,1)∉c:=fun k=>hf ⟨c,hc,h0,k⟩;have Ft:=(bO h.wf).c c hc;obtain⟨B,k1,k2⟩:=Ft.head h0;have hcd:∀z∈c,z∈an d'.1:=fun z hz=>(bO h.wf).p.mem_iff.1 (adA.2 ⟨c,hc,hz⟩);have cn:c.Nodup:=by obtain⟨p,q,e⟩:=ady hc;have:=(bO h.wf).p.nodup_iff.2 h.wf.rw.n;rw[e]at this;exact(acV.1 ((gE p q c).nodup_iff.1 this)).1
 have bn:=k2.nodup_iff.2 cn;have ag3:∀z∈an d'.1,bM d' (Vs.ph d' z)=bM d' (ag z):=fun z hz=>by have ho:=h.wf.other hz;obtain⟨v,hv,hzv⟩:=aM.1 ho;rw[iY hz,jx h.wf.rw hv hzv];show E2 d'.1 _=E2 d'.1 _;rw[du h.wf.rw hv (j6 (h.wf.rw.ring hv) hzv),du h.wf.rw hv hzv]
 have inC:∀z∈B,z∈an (cp d' x).1:=fun z hz=>by
  have hzc:z∈c:=k2.mem_iff.1 (aa5 _ hz);rcases abn.1 (h.p.mem_iff.1 (hcd z hzc)) with e|e
  ·exact absurd (e▸hz) (abx.1 bn).1
  rcases abn.1 e with e|e
  ·exact absurd (e▸hzc) h1
  ·exact e
 have walk:∀(B:List ab) (a e:ID) (z:ab),(∀y∈B,y∈an (cp d' x).1)→Path (Vs.ph d') B z→bM d' z=some e→(∀y,B.head? = some y→bM d' y=some a)→(B=[]→a=e)→cJ (cp d' x) a e:=by
  intro B
  induction B with
  |nil=>intro a e z _ _ _ _ h5;rw[h5 rfl];exact .refl _
  |cons y r ih =>
   intro a e z hB hp hz ha _;have hy:=hB y (by simp);have TN:=h.sub hy;obtain⟨v,hv,Yl,Bl⟩:=uj h.wf (h.wf.other TN);have Zw:BS (cp d' x) a v.1:=⟨y,hy,by rw[h.at hy];exact ha y rfl,by rw[h.at (h.w.other hy)];exact Bl⟩;have jX:bM d' (r.head?.getD z)=some v.1:=by rw[←show Vs.ph d' y=r.head?.getD z from hp.1,ag3 y TN];exact Bl
   refine Zw.conn.trans (ih v.1 e z (fun q hq=>hB q (aa5 _ hq)) hp.2 hz (fun q hq=>?_) (fun hr=>?_))
   ·rw[hq]at jX;exact jX
   ·subst hr;have:bM d' z=some v.1:=jX;rw[hz]at this;exact(abK this).symm
 obtain⟨fx,pB⟩:=(show Path (Vs.ph d') ((x,0)::B) (x,0) from k1);have OL:bM d' (B.head?.getD (x,0))=some w:=by rw[←fx,ag3 _ h.x0,Fy];exact hw
 refine(walk B w u (x,0) inC pB hu (fun y hy=>by rw[hy]at OL;exact OL) (fun hB=>?_)).symm h.w;subst hB;have:bM d' (x,0)=some w:=OL;rw[hu]at this;exact(abK this).symm
theorem Mt{d:ak}(h:an d.1=[]){a b:ID}(k:cJ d a b):a=b:=by
 induction k with
 |refl=>rfl
 |tail _ j _=>obtain⟨z,hz,_⟩:=j;rw[h]at hz;simp at hz
theorem cq.ids{l:List ai}(h:cq l):(l.map (·.1)).Nodup:=by unfold List.Nodup;rw[List.pairwise_map];exact h.imp fun {a b} k e=>by rw[e,cy]at k;cases k
theorem Qw:∀(n:Nat) (d:ak),Wf d→d.2.length=n→∀R,qb d R→∃k,d.1.length+ft d+2*k=2*R.length+d.2.length
 |0,d,hw,hl,R,hr=>by
  have he:d.2=[]:=by simpa using hl
  have hd:an d.1=[]:=by have:=hw.pd;rw[he]at this;exact List.perm_nil.1 this
  have abW:qb d (d.1.map (·.1)):=⟨hw.sv.ids,fun r hr=>by obtain⟨v,hv,rfl⟩:=abY.1 hr;exact⟨v,hv,rfl⟩,fun r _ s _ k=>Mt hd k,fun v hv=>⟨v.1,abY.2 ⟨v,hv,rfl⟩,.refl _⟩⟩;have hlen:=hr.len hw abW;have hf:cg d=[]:=by unfold cg;rw[he];rfl
  have ha:al d.1=d.1.length:=by
   unfold al;rw[List.countP_eq_length];intro v hv;rw[List.isEmpty_iff]
   cases hq:v.2.1 with
   |nil=>rfl
   |cons y r =>have:y∈an d.1:=aM.2 ⟨v,hv,by rw[hq];simp⟩;rw[hd]at this;simp at this
  refine⟨0,?_⟩;unfold ft;rw[hf,ha,hlen,he];simp;omega
 |n+1,d,hw,hl,R,hr=>by
  obtain⟨e,r,he⟩:∃e r,d.2=e::r:=by
   cases hq:d.2 with
   |nil=>rw[hq]at hl;simp at hl
   |cons e r=>exact⟨e,r,rfl⟩
  have hc:cm d e.1:=⟨hw,by unfold aP;rw[he];simp⟩;obtain⟨u,w,hu,hwt,_,_⟩:=hc.JN;have hv:(cp d e.1).1.length=d.1.length:=by have:=congrArg List.length hc.ids;simpa using this
  have M6:(cp d e.1).2.length=n:=by
   have h1:=hc.w.pd.length_eq;have h2:=hw.pd.length_eq;have h3:=hc.p.length_eq;have e2:∀l:List aj,(ends l).length=2*l.length:=fun l=>by
    induction l with
    |nil=>rfl
    |cons e r ih=>rw[ll];simp[ih];omega
   rw[e2]at h1 h2;simp at h3;omega
  by_cases hf:JK d (e.1,0) (e.1,1)
  ·have h1:=(hc.same hf).1;by_cases k:cJ (cp d e.1) u w
   ·obtain⟨g,hg⟩:=Qw n (cp d e.1) hc.w M6 R (hc.Cf hu hwt k hr);exact⟨g+1,by omega⟩
   ·obtain⟨R2,h2,h3⟩:=hc.Qv hu hwt k hr;obtain⟨g,hg⟩:=Qw n (cp d e.1) hc.w M6 R2 h2;exact⟨g,by omega⟩
  ·have h1:=hc.diff hf;obtain⟨g,hg⟩:=Qw n (cp d e.1) hc.w M6 R (hc.Cf hu hwt (hc.AJ hu hwt hf) hr);exact⟨g,by omega⟩
def dk(d:ak)(i:Nat):ID:=((d.1[i]?).getD zV).1
theorem pn{d:ak}{i:Nat}{v:ai}(h:d.1[i]? = some v):dk d i=v.1:=by unfold dk;rw[h];rfl
theorem kI{d:ak}(hs:cq d.1){i j:Nat}(hi:i<d.1.length)(hj:j<d.1.length)(h:dk d i=dk d j):i=j:=by have h1:=aba hi;have h2:=aba hj;rw[pn h1,pn h2]at h;rw[lj hs h1 rfl,lj hs h2 rfl,h]
theorem WW{x:ID}:∀{l:List ai} {i:Nat} {v:ai} (k:Int),l[i]? = some v→v.1=x→(∀j u,j<i→l[j]? = some u→u.1≠x)→CM x l k=k+i
 |w::r,0,v,k,h,hv,_=>by simp at h;subst h;rw[CM,if_pos hv];simp
 |w::r,i+1,v,k,h,hv,hn=>by have h0:=hn 0 w (by omega) (by simp);rw[CM,if_neg h0,WW (i:=i) (v:=v) (k+1) (by simpa using h) hv (fun j u hj hu=>hn (j+1) u (by omega) (by simpa using hu))];omega
theorem WX{d:ak}(hs:cq d.1){i:Nat}(hi:i<d.1.length):CM (dk d i) d.1 0=(i:Int):=by have h:=aba hi;have:=WW (x:=dk d i) (l:=d.1) (i:=i) (v:=d.1[i]) 0 h (pn h).symm (fun j u hj hu he=>by have h1:=kI hs (show j<d.1.length by omega) hi ((pn hu).trans he);omega);omega
theorem OM{d:ak}(hw:Wf d){z:ab}(hz:z∈an d.1):∃i,i<d.1.length∧bM d z=some (dk d i):=by obtain⟨v,hv,_,h⟩:=uj hw hz;obtain⟨i,hi,he⟩:=adJ hv;refine⟨i,hi,?_⟩;rw[h,pn (List.getElem?_eq_getElem hi),he]
structure JO(d:ak)(L:List Int):Prop where
 n:L.length=d.1.length
 i:∀i,i<d.1.length→∃j:Nat,j≤i∧L.getD i 0=(j:Int)∧cJ d (dk d i) (dk d j)
def gT(d:ak)(L:List Int)(i:Nat):Prop:=∀j,j<d.1.length→cJ d (dk d i) (dk d j)→L.getD i 0≤(j:Int)
structure Mu(d:ak)(L:List Int):Prop where
 l:JO d L
 r:∀i,i<d.1.length→gT d L i
theorem Mv{L:List Int}{a i:Nat}(x:Int):(L.set a x).getD i 0=if a=i∧a<L.length then x else L.getD i 0:=by
 simp only[List.getD];rw[List.getElem?_set];by_cases h:a=i
 ·subst h;by_cases k:a<L.length
  ·simp[k]
  ·simp[k]
 ·simp[h]
def GO(a b:Nat)(L:List Int):List Int:=(L.set a (min (L.getD a 0) (L.getD b 0))).set b (min (L.getD a 0) (L.getD b 0))
theorem WY{L:List Int}{a b:Nat}(ha:a<L.length)(hb:b<L.length)(i:Nat):(GO a b L).getD i 0=if i=a∨i=b then min (L.getD a 0) (L.getD b 0) else L.getD i 0:=by
 unfold GO;rw[Mv,Mv,List.length_set];by_cases h1:b=i
 ·rw[if_pos ⟨h1,hb⟩,if_pos (.inr h1.symm)]
 ·rw[if_neg (fun k=>h1 k.1)];by_cases h2:a=i
  ·rw[if_pos ⟨h2,ha⟩,if_pos (.inl h2.symm)]
  ·rw[if_neg (fun k=>h2 k.1),if_neg (fun k=>k.elim (fun m=>h2 m.symm) (fun m=>h1 m.symm))]
theorem SZ{d:ak}(hw:Wf d){L:List Int}(h:JO d L){a b:Nat}(ha:a<d.1.length)(hb:b<d.1.length)(rT:cJ d (dk d a) (dk d b)):JO d (GO a b L)∧(∀i,i<d.1.length→gT d L i→gT d (GO a b L) i)∧(gT d L a→gT d (GO a b L) b)∧(gT d L b→gT d (GO a b L) a):=by
 have TA:a<L.length:=by rw[h.n];exact ha
 have RV:b<L.length:=by rw[h.n];exact hb
 have gl:=WY TA RV;obtain⟨ja,a1,a2,a3⟩:=h.i a ha;obtain⟨jb,b1,b2,b3⟩:=h.i b hb;have hba:=rT.symm hw;refine⟨⟨by unfold GO;simp[h.n],fun i hi=>?_⟩,fun i hi hr j hj hc=>?_,fun hr j hj hc=>?_,fun hr j hj hc=>?_⟩
 ·rw[gl];by_cases ON:i=a∨i=b
  ·rw[if_pos ON];have conn:cJ d (dk d i) (dk d a)∧cJ d (dk d i) (dk d b):=by
    rcases ON with rfl|rfl
    ·exact⟨.refl _,rT⟩
    ·exact⟨hba,.refl _⟩
   by_cases hle:L.getD a 0≤L.getD b 0
   ·refine⟨ja,?_,by rw[←a2];omega,conn.1.trans a3⟩;rcases ON with rfl|rfl
    ·exact a1
    ·rw[a2,b2]at hle;omega
   ·refine⟨jb,?_,by rw[←b2];omega,conn.2.trans b3⟩;rcases ON with rfl|rfl
    ·rw[a2,b2]at hle;omega
    ·exact b1
  ·rw[if_neg ON];exact h.i i hi
 ·rw[gl]
  split
  ·rename_i ON;have:=hr j hj hc;rcases ON with rfl|rfl<;>omega
  ·exact hr j hj hc
 ·rw[gl,if_pos (.inr rfl)];have:=hr j hj (rT.trans hc);omega
 ·rw[gl,if_pos (.inl rfl)];have:=hr j hj (hba.trans hc);omega
theorem acF{d:ak}(hw:Wf d){e:aj}(he:e∈d.2)(L:List Int):∃a b,a<d.1.length∧b<d.1.length∧bM d (e.1,0)=some (dk d a)∧bM d (e.1,1)=some (dk d b)∧Jy d e L=GO a b L:=by have h0:(e.1,0)∈an d.1:=hw.pd.mem_iff.2 (dr.2 ⟨e,he,rfl,.inl rfl⟩);have h1:(e.1,1)∈an d.1:=hw.pd.mem_iff.2 (dr.2 ⟨e,he,rfl,.inr rfl⟩);obtain⟨a,ha,ea⟩:=OM hw h0;obtain⟨b,hb,eb⟩:=OM hw h1;refine⟨a,b,ha,hb,ea,eb,?_⟩;unfold Jy GO;rw[ea,eb];simp only[Option.getD_some,WX hw.sv ha,WX hw.sv hb,Int.toNat_natCast];rw[if_pos ⟨by omega,by omega⟩]
theorem xh{d:ak}(hw:Wf d):∀(l:List aj) {L:List Int},(∀e∈l,e∈d.2)→JO d L→JO d (kO d l L)∧(∀i,i<d.1.length→gT d L i→gT d (kO d l L) i) ∧(∀e∈l,∀a b,a<d.1.length→b<d.1.length→((bM d (e.1,0)=some (dk d a)∧bM d (e.1,1)=some (dk d b))∨(bM d (e.1,0)=some (dk d b)∧bM d (e.1,1)=some (dk d a)))→gT d L a→gT d (kO d l L) b)
 |[],L,_,h=>⟨h,fun i hi hr=>hr,fun e he=>by simp at he⟩
 |e::r,L,hl,h=>by
  have he:=hl e (abu ..);obtain⟨a,b,ha,hb,ea,eb,el⟩:=acF hw he L;have h0:(e.1,0)∈an d.1:=hw.pd.mem_iff.2 (dr.2 ⟨e,he,rfl,.inl rfl⟩);have rT:cJ d (dk d a) (dk d b):=BS.conn ⟨(e.1,0),h0,ea,by rw[Fy];exact eb⟩;obtain⟨s1,s2,s3,s4⟩:=SZ hw h ha hb rT;obtain⟨t1,t2,t3⟩:=xh hw r (L:=GO a b L) (fun e he=>hl e (aa5 _ he)) s1;show JO d (kO d r (Jy d e L))∧_∧_;rw[el];refine⟨t1,fun i hi hr=>?_,fun f hf p q hp hq xq hr=>?_⟩
  ·show gT d (kO d r (Jy d e L)) i;rw[el];exact t2 i hi (s2 i hi hr)
  ·show gT d (kO d r (Jy d e L)) q;rw[el];rcases abn.1 hf with rfl|hf
   ·refine t2 q hq ?_;rcases xq with⟨k1,k2⟩|⟨k1,k2⟩
    ·rw[ea]at k1;rw[eb]at k2;have:=kI hw.sv ha hp (abK k1);subst this;have:=kI hw.sv hb hq (abK k2);subst this;exact s3 hr
    ·rw[ea]at k1;rw[eb]at k2;have:=kI hw.sv ha hq (abK k1);subst this;have:=kI hw.sv hb hp (abK k2);subst this;exact s4 hr
   ·exact t3 f hf p q hp hq xq (s2 p hp hr)
theorem OO{d:ak}(i:Nat)(hi:i<d.1.length):∃m,m<d.1.length∧cJ d (dk d i) (dk d m)∧∀j,j<d.1.length→cJ d (dk d i) (dk d j)→m≤j:=by
 induction i using Nat.strongRecOn with
 |ind i ih =>
  by_cases h:∃j,j<i∧cJ d (dk d i) (dk d j)∧cJ d (dk d j) (dk d i)
  ·obtain⟨j,hj,hc,q9⟩:=h;obtain⟨m,h1,h2,h3⟩:=ih j hj (by omega);exact⟨m,h1,hc.trans h2,fun k hk hck=>h3 k hk (q9.trans hck)⟩
  ·by_cases hs:∃j,j<i∧cJ d (dk d i) (dk d j)
   ·obtain⟨j,hj,hc⟩:=hs;have key:∀n,n≤i→(∃m,m<n∧cJ d (dk d i) (dk d m))→∃m,m<d.1.length∧cJ d (dk d i) (dk d m)∧∀j,j<d.1.length→cJ d (dk d i) (dk d j)→m≤j:=by
     intro n
     induction n with
     |zero=>rintro _ ⟨m,hm,_⟩;omega
     |succ n ihn =>
      rintro hn ⟨m,hm,So⟩;by_cases hb:∃m,m<n∧cJ d (dk d i) (dk d m)
      ·exact ihn (by omega) hb
      ·have:m=n:=Classical.byContradiction fun k=>hb ⟨m,by omega,So⟩;subst this;refine⟨m,by omega,So,fun j hj Sq=>Classical.byContradiction fun k=>hb ⟨j,by omega,Sq⟩⟩
    exact key i (abZ _) ⟨j,hj,hc⟩
   ·refine⟨i,hi,.refl _,fun j hj hc=>Classical.byContradiction fun k=>hs ⟨j,by omega,hc⟩⟩
theorem S4{d:ak}(P:ID→Prop){x y:ID}(h:cJ d x y)(hx:P x)(hy:¬P y):∃a b,BS d a b∧P a∧¬P b:=by
 induction h with
 |refl=>exact absurd hx hy
 | @tail b c k j ih =>
  by_cases hb:P b
  ·exact⟨_,_,j,hb,hy⟩
  ·exact ih hb
open Classical in
theorem Mw{P Q:Nat→Prop}:∀{l:List Nat},(∀i∈l,P i→Q i)→(∃i∈l,Q i∧¬P i)→l.countP (fun i=>decide (P i))<l.countP (fun i=>decide (Q i))
 |[],_,h=>by obtain⟨i,hi,_⟩:=h;simp at hi
 |x::r,h,⟨i,hi,hq,hp⟩=>by
  have mono:r.countP (fun i=>decide (P i))≤r.countP (fun i=>decide (Q i)):=by
   have hr:∀i∈r,P i→Q i:=fun i hi=>h i (aa5 _ hi);clear h hi
   induction r with
   |nil=>simp
   |cons y r ih =>
    rw[List.countP_cons,List.countP_cons];have:=ih (fun i hi=>hr i (aa5 _ hi));have h2:=hr y (abu ..);by_cases hy:P y
    ·simp[hy,h2 hy];exact this
    ·simp[hy];omega
  rw[List.countP_cons,List.countP_cons];rcases abn.1 hi with rfl|hi
  ·simp[hq,hp];omega
  ·have:=Mw (l:=r) (fun i hi=>h i (aa5 _ hi)) ⟨i,hi,hq,hp⟩;have hx:=h x (abu ..);by_cases hpx:P x
   ·simp[hpx,hx hpx];exact this
   ·simp[hpx];omega
theorem OP{d:ak}(hw:Wf d){L:List Int}(h:JO d L)(hn:∃i,i<d.1.length∧¬gT d L i):∃i,i<d.1.length∧gT d (kO d d.2 L) i∧¬gT d L i:=by
 obtain⟨i,hi,hr⟩:=hn;obtain⟨m,m1,m2,m3⟩:=OO i hi;have hm:gT d L m:=fun j hj hc=>by obtain⟨q,q1,q2,_⟩:=h.i m m1;have:=m3 j hj (m2.trans hc);rw[q2];omega
 let P:ID→Prop:=fun x=>∃k,k<d.1.length∧dk d k=x∧gT d L k
 have hx:P (dk d m):=⟨m,m1,rfl,hm⟩;have hy:¬P (dk d i):=fun⟨k,k1,k2,k3⟩=>by have:=kI hw.sv k1 hi k2;exact hr (this▸k3)
 obtain⟨a,b,⟨z,hz,za,zb⟩,⟨p,p1,p2,p3⟩,hb⟩:=S4 P (m2.symm hw) hx hy;obtain⟨q,q1,q2⟩:=OM hw (hw.other hz);rw[zb]at q2;have hbq:b=dk d q:=abK q2;obtain⟨e,he,e1,e2⟩:=dr.1 (hw.pd.mem_iff.1 hz);refine⟨q,q1,?_,fun k=>hb ⟨q,q1,hbq.symm,k⟩⟩;refine(xh hw d.2 (fun _ h=>h) h).2.2 e he p q p1 q1 ?_ p3;rw[p2,←hbq];obtain⟨z1,z2⟩:=z;simp only at e1 e2;subst e1;rcases e2 with rfl|rfl
 ·exact .inl ⟨za,zb⟩
 ·exact .inr ⟨zb,za⟩
open Classical in
theorem FB{d:ak}(hw:Wf d):∀(n:Nat) {L:List Int},JO d L→d.1.length≤n+(List.range d.1.length).countP (fun i=>decide (gT d L i))→Mu d (L4 d n L)
 |0,L,h,hc=>by
  refine⟨h,fun i hi=>?_⟩;have h1:(List.range d.1.length).countP (fun i=>decide (gT d L i))=(List.range d.1.length).length:=by have:=adQ (p:=fun i=>decide (gT d L i)) (l:=List.range d.1.length);simp at this ⊢;omega
  have:=List.countP_eq_length.1 h1 i (adz.2 hi);exact of_decide_eq_true this
 |n+1,L,h,hc=>by
  obtain⟨s1,s2,_⟩:=xh hw d.2 (fun _ h=>h) h;show Mu d (L4 d n (kO d d.2 L));refine FB hw n s1 ?_;by_cases hn:∃i,i<d.1.length∧¬gT d L i
  ·obtain⟨i,hi,h1,h2⟩:=OP hw h hn;have:=Mw (P:=gT d L) (Q:=gT d (kO d d.2 L)) (l:=List.range d.1.length) (fun i hi=>s2 i (adz.1 hi)) ⟨i,adz.2 hi,h1,h2⟩;omega
  ·have:(List.range d.1.length).countP (fun i=>decide (gT d (kO d d.2 L) i))=(List.range d.1.length).length:=by rw[List.countP_eq_length];intro i hi;have hi:=adz.1 hi;exact decide_eq_true (s2 i hi (Classical.byContradiction fun k=>hn ⟨i,hi,k⟩))
   rw[this];simp
theorem acG(d:ak):JO d (GJ d.1.length):=by refine⟨by unfold GJ;simp,fun i hi=>⟨i,abZ _,?_,.refl _⟩⟩;unfold GJ;simp[List.getD,hi]
theorem fQ{d:ak}(hw:Wf d):Mu d (labels d):=FB hw d.1.length (acG d) (by omega)
theorem Mu.uniq{d:ak}(hw:Wf d){L M:List Int}(h:Mu d L)(k:Mu d M):L=M:=by
 apply adG;intro i;by_cases hi:i<d.1.length
 ·have e1:L[i]? = some (L.getD i 0):=by rw[List.getElem?_eq_getElem (by rw[h.l.n];exact hi)];simp[List.getD,h.l.n,hi]
  have e2:M[i]? = some (M.getD i 0):=by rw[List.getElem?_eq_getElem (by rw[k.l.n];exact hi)];simp[List.getD,k.l.n,hi]
  obtain⟨a,a1,a2,a3⟩:=h.l.i i hi;obtain⟨b,b1,b2,b3⟩:=k.l.i i hi;have h1:=h.r i hi b (by omega) b3;have h2:=k.r i hi a (by omega) a3;rw[e1,e2];congr 1;omega
 ·rw[List.getElem?_eq_none (by rw[h.l.n];omega),List.getElem?_eq_none (by rw[k.l.n];omega)]
def mF(d:ak)(L:List Int):List ID:=((List.range d.1.length).filter fun i=>decide (L.getD i 0=(i:Int))).map (dk d)
theorem mo{d:ak}(hw:Wf d){L:List Int}(h:Mu d L):qb d (mF d L):=by
 have mem:∀{r:ID},r∈mF d L↔∃i,i<d.1.length∧L.getD i 0=(i:Int)∧dk d i=r:=fun {r}=>by
  unfold mF;rw[List.mem_map];constructor
  ·rintro⟨i,hi,rfl⟩;rw[List.mem_filter,List.mem_range]at hi;exact⟨i,hi.1,by simpa using hi.2,rfl⟩
  ·rintro⟨i,h1,h2,rfl⟩;exact⟨i,by rw[List.mem_filter,List.mem_range];exact⟨h1,by simpa using h2⟩,rfl⟩
 refine⟨?_,fun r hr=>?_,fun r hr s hs hc=>?_,fun v hv=>?_⟩
 ·unfold mF List.Nodup;rw[List.pairwise_map];have hp:((List.range d.1.length).filter fun i=>decide (L.getD i 0=(i:Int))).Nodup:=List.nodup_range.filter _;refine List.Pairwise.imp_of_mem (fun {a b} ha hb bp e=>bp ?_) hp;exact kI hw.sv (adz.1 (adC.1 ha).1) (adz.1 (adC.1 hb).1) e
 ·obtain⟨i,hi,_,rfl⟩:=mem.1 hr;exact⟨d.1[i],acB hi,(pn (aba hi)).symm⟩
 ·obtain⟨i,hi,h1,rfl⟩:=mem.1 hr;obtain⟨j,hj,h2,rfl⟩:=mem.1 hs;have k1:=h.r i hi j hj hc;have k2:=h.r j hj i hi (hc.symm hw);have:i=j:=by omega
  rw[this]
 ·obtain⟨i,hi,he⟩:=adJ hv;have bV:dk d i=v.1:=by rw[pn (List.getElem?_eq_getElem hi),he]
  obtain⟨j,j1,j2,j3⟩:=h.l.i i hi;refine⟨dk d j,mem.2 ⟨j,by omega,?_,rfl⟩,by rw[←bV];exact j3⟩;obtain⟨k,k1,k2,k3⟩:=h.l.i j (by omega);have h1:=h.r i hi k (by omega) (j3.trans k3);rw[j2]at h1;rw[k2];have:j=k:=by omega
  rw[this]
theorem AK:∀(l:List Int) (i:Nat) (n:Nat),n+l.length≤1000000→rU l (i:Int) (n:Int)=((n+((List.range l.length).filter fun j=>decide (l.getD j 0=((i+j:Nat):Int))).length:Nat):Int)
 |[],i,n,_=>by simp[rU]
 |x::r,i,n,h=>by
  simp at h;have e:((List.range (x::r).length).filter fun j=>decide ((x::r).getD j 0=((i+j:Nat):Int))).length=(if x=(i:Int) then 1 else 0)+((List.range r.length).filter fun j=>decide (r.getD j 0=((i+1+j:Nat):Int))).length:=by
   rw[List.length_cons,List.range_succ_eq_map,List.filter_cons];have e2:((List.range r.length).map Nat.succ).filter (fun j=>decide ((x::r).getD j 0=((i+j:Nat):Int)))=((List.range r.length).filter fun j=>decide (r.getD j 0=((i+1+j:Nat):Int))).map Nat.succ:=by rw[List.filter_map];congr 1;apply List.filter_congr;intro j _;simp only[Function.comp,Nat.succ_eq_add_one,List.getD_cons_succ];rw[show i+(j+1)=i+1+j by omega]
   rw[e2];simp only[List.getD_cons_zero,Nat.add_zero];by_cases hx:x=(i:Int)
   ·simp[hx];omega
   ·simp[hx]
  rw[e];unfold rU;have hi:((i:Int)+1)=((i+1:Nat):Int):=by omega
  rw[hi];by_cases hx:x=(i:Int)
  ·rw[if_pos hx,if_pos hx];have hw:IntKind.wrap .i64 ((n:Int)+1)=((n+1:Nat):Int):=by rw[wrap_small (by omega) (by omega)];omega
   rw[hw,AK r (i+1) (n+1) (by omega)];congr 1;omega
  ·rw[if_neg hx,if_neg hx,AK r (i+1) n (by omega)];congr 1;omega
theorem vj{d:ak}(hw:Wf d):gi d=((mF d (labels d)).length:Int):=by have h:=fQ hw;have hn:=hw.nv;unfold gi;have:=AK (labels d) 0 0 (by rw[h.l.n];omega);simp only[Nat.zero_add]at this;have e:rU (labels d) 0 0=rU (labels d) ((0:Nat):Int) ((0:Nat):Int):=rfl;rw[e,this];unfold mF;rw[List.length_map,h.l.n]
theorem AL:∀(l:List ai) (n:Nat),n+l.length≤1000000→tZ l (n:Int)=((n+al l:Nat):Int)
 |[],n,_=>by simp[tZ,al]
 |v::r,n,h=>by
  simp at h;unfold tZ al;rw[List.countP_cons];by_cases hv:v.2.1.length=0
  ·have:v.2.1.isEmpty=true:=by rw[List.isEmpty_iff];simpa using hv
   have hw:IntKind.wrap .i64 ((n:Int)+1)=((n+1:Nat):Int):=by rw[wrap_small (by omega) (by omega)];omega
   rw[if_pos hv,hw,AL r (n+1) (by omega),this];unfold al;congr 1;simp;omega
  ·have:v.2.1.isEmpty=false:=by
    cases hq:v.2.1 with
    |nil=>rw[hq]at hv;exact absurd rfl hv
    |cons _ _=>rfl
   rw[if_neg hv,AL r n (by omega),this];unfold al;simp
theorem yY{d:ak}(hw:Wf d):(cg d).length≤80:=by
 have h:=bO hw;have h1:=h.p.length_eq;have h2:=hw.Mr;have h3:(cg d).length≤(cg d).flatten.length:=by
  have hc:=h.c;generalize cg d=cs at hc
  induction cs with
  |nil=>simp
  |cons c r ih =>have:=ih (fun c hc'=>hc c (aa5 _ hc'));have h1:=(hc c (abu ..)).ne;have:0<c.length:=Nat.pos_of_ne_zero fun k=>h1 (List.length_eq_zero_iff.1 k);simp only[List.length_cons,List.flatten_cons,List.length_append];omega
 omega
theorem S5{d:ak}(hw:Wf d):E4 d=((ft d:Nat):Int):=by unfold E4 ft;have:=hw.nv;have:=yY hw;exact AL d.1 (cg d).length (by omega)
theorem FC{d:ak}(hw:Wf d){R:List ID}(hr:qb d R):∃k:Nat,bN d=(k:Int)∧d.1.length+ft d+2*k=2*R.length+d.2.length:=by
 have hl:=(mo hw (fQ hw)).len hw hr;obtain⟨k,hk⟩:=Qw d.2.length d hw rfl R hr;refine⟨k,?_,hk⟩;have hn:=hw.nv;have he:=hw.ne;have hf:=yY hw;have ha:al d.1≤d.1.length:=adQ;have hR:R.length≤d.1.length:=by rw[←hl];unfold mF;rw[List.length_map];exact acH (adx _ _) (by simp)
 have hft:ft d=(cg d).length+al d.1:=rfl;unfold bN;rw[vj hw,S5 hw,hl];rw[wrap_small (n:=2*((R.length:Nat):Int)) (by omega) (by omega)];rw[wrap_small (n:=2*((R.length:Nat):Int)-((d.1.length:Nat):Int)) (by omega) (by omega)];rw[wrap_small (n:=2*((R.length:Nat):Int)-((d.1.length:Nat):Int)+((d.2.length:Nat):Int)) (by omega) (by omega)];have e:2*((R.length:Nat):Int)-((d.1.length:Nat):Int)+((d.2.length:Nat):Int)-((ft d:Nat):Int)=2*(k:Int):=by omega
 rw[e,wrap_small (n:=2*(k:Int)) (by omega) (by omega)];have e2:Int.tdiv (2*(k:Int)) 2=(k:Int):=by rw[Int.tdiv_eq_ediv_of_nonneg (by omega)];omega
 rw[e2,wrap_small (by omega) (by omega)]
end Go.Vs
