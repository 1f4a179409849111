/- Faces -/
import Derived.Test.YtpkfpbpbkabkdaaGreatSplits
set_option linter.unusedVariables false
set_option linter.unusedSimpArgs false
namespace Go.Cy
variable {α:Type}
def Path(f:α→α):List α→α→Prop
 |[],_=>True
 |x::r,z=>f x=r.head?.getD z∧Path f r z
theorem Path.app{f:α→α}:∀{a b:List α} {z:α},Path f (a++b) z↔Path f a (b.head?.getD z)∧Path f b z
 |[],b,z=>by simp[Path]
 |x::r,b,z=>by
  have ih:=Path.app (f:=f) (a:=r) (b:=b) (z:=z);simp only[List.cons_append,Path];rw[ih];have:(r++b).head?.getD z=r.head?.getD (b.head?.getD z):=by cases r<;>simp
  rw[this,and_assoc]
theorem Path.congr{f g:α→α}:∀{a:List α} {z:α},(∀x∈a,g x=f x)→Path f a z→Path g a z
 |[],_,_,_=>trivial
 |x::r,z,h,p=>⟨(h x (abp ..)).trans p.1,Path.congr (fun y hy=>h y (aa1 _ hy)) p.2⟩
def jv(f:α→α):List α→Prop
 |[]=>False
 |x::r=>Path f (x::r) x
theorem jv.two{f:α→α}{x y:α}{a b:List α}:jv f ((x::a)++(y::b))↔Path f (x::a) y∧Path f (y::b) x:=by show Path f ((x::a)++(y::b)) x↔_;rw[Path.app];rfl
theorem jv.kF{f:α→α}:∀{a b:List α},jv f (a++b)→jv f (b++a)
 |[],b,h=>by simpa using h
 |x::a,[],h=>by simpa using h
 |x::a,y::b,h=>jv.two.2 ⟨(jv.two.1 h).2,(jv.two.1 h).1⟩
theorem jv.ne{f:α→α}{c:List α}(h:jv f c):c≠[]:=by rintro rfl;exact h
theorem jv.congr{f g:α→α}{c:List α}(h:∀x∈c,g x=f x)(k:jv f c):jv g c:=by
 cases c with
 |nil=>exact k
 |cons x r=>exact Path.congr h k
theorem Path.step{f:α→α}:∀{a:List α} {z x:α},Path f a z→x∈a→f x∈a∨f x=z
 |y::r,z,x,p,hx=>by
  rcases abd.1 hx with rfl|hx
  ·cases r with
   |nil=>exact .inr p.1
   |cons u r=>exact .inl (by have:=p.1;simp at this;rw[this];simp)
  ·rcases Path.step p.2 hx with h|h
   ·exact .inl (aa1 _ h)
   ·exact .inr h
theorem jv.step{f:α→α}{c:List α}(h:jv f c){x:α}(hx:x∈c):f x∈c:=by
 cases c with
 |nil=>exact h.elim
 |cons y r =>
  rcases Path.step (show Path f (y::r) y from h) hx with k|k
  ·exact k
  ·rw[k];simp
def it(f:α→α):Nat→α→α
 |0,x=>x
 |n+1,x=>it f n (f x)
theorem jv.it{f:α→α}{c:List α}(h:jv f c):∀(n:Nat) {x:α},x∈c→it f n x∈c
 |0,_,hx=>hx
 |n+1,_,hx=>jv.it h n (h.step hx)
theorem Path.reach{f:α→α}:∀{r:List α} {x z:α},Path f (x::r) z→∀y∈x::r,∃n,it f n x=y
 |[],x,z,_,y,hy=>by simp at hy;exact⟨0,hy.symm⟩
 |u::r,x,z,p,y,hy=>by
  rcases abd.1 hy with rfl|hy
  ·exact⟨0,rfl⟩
  ·have h1:f x=u:=p.1;obtain⟨n,hn⟩:=Path.reach p.2 y hy;exact⟨n+1,by show it f n (f x)=y;rw[h1];exact hn⟩
theorem jv.head{f:α→α}{c:List α}(h:jv f c){x:α}(hx:x∈c):∃r,jv f (x::r)∧(x::r).Perm c:=by obtain⟨a,b,rfl⟩:=ada hx;exact⟨b++a,jv.kF h,adk (l₁:=x::b) (l₂:=a)⟩
theorem jv.reach{f:α→α}{c:List α}(h:jv f c){x y:α}(hx:x∈c)(hy:y∈c):∃n,Cy.it f n x=y:=by obtain⟨r,h1,h2⟩:=h.head hx;exact Path.reach (show Path f (x::r) x from h1) y (h2.mem_iff.2 hy)
theorem jv.same{f:α→α}{c c':List α}(h:jv f c)(h':jv f c'){x:α}(hx:x∈c)(hx':x∈c'){y:α}(hy:y∈c):y∈c':=by obtain⟨n,hn⟩:=h.reach hx hy;rw[←hn];exact h'.it n hx'
structure HK(f:α→α)(D:List α)(cs:List (List α)):Prop where
 c:∀c∈cs,jv f c
 p:cs.flatten.Perm D
theorem gx(p q:List (List α))(c:List α):(p++c::q).flatten.Perm (c++(p++q).flatten):=by simp only[List.flatten_append,List.flatten_cons];rw[←List.append_assoc,←List.append_assoc];exact ac7 _ adk
theorem HK.count{f:α→α}:∀{cs cs':List (List α)} {D:List α},D.Nodup→HK f D cs→HK f D cs'→cs.length=cs'.length
 |[],cs',D,hn,h,h'=>by
  have hD:D=[]:=by have:=h.p;simp at this;exact this.symm▸rfl
  subst hD
  cases cs' with
  |nil=>rfl
  |cons c r =>
   have:=h'.p.length_eq;have h1:=(h'.c c (by simp)).ne
   cases c with
   |nil=>exact absurd rfl h1
   |cons x c=>simp at this
 |c::r,cs',D,hn,h,h'=>by
  have hc:=h.c c (by simp);obtain⟨x,c0,rfl⟩:∃x c0,c=x::c0:=by
   cases c with
   |nil=>exact hc.elim
   |cons x c0=>exact⟨x,c0,rfl⟩
  have hx:x∈cs'.flatten:=h'.p.mem_iff.2 (h.p.mem_iff.1 (by simp));obtain⟨c',hc',agi⟩:=ade.1 hx;obtain⟨p,q,rfl⟩:=ada hc';have agj:=h'.c c' (by simp);have n1:(x::c0).Nodup:=by have:=h.p.nodup_iff.2 hn;rw[List.flatten_cons]at this;exact(ac6.1 this).1
  have n2:c'.Nodup:=by have:=(gx p q c').nodup_iff.1 (h'.p.nodup_iff.2 hn);exact(ac6.1 this).1
  have pc:(x::c0).Perm c':=(List.perm_ext_iff_of_nodup n1 n2).2 fun y=>⟨fun hy=>hc.same agj (by simp) agi hy,fun hy=>agj.same hc agi (by simp) hy⟩;have pd:((x::c0)++r.flatten).Perm ((x::c0)++(p++q).flatten):=by
   have e1:((x::c0)++r.flatten).Perm D:=by have:=h.p;rwa [List.flatten_cons]at this
   have e2:(c'++(p++q).flatten).Perm D:=(gx p q c').symm.trans h'.p;exact e1.trans (e2.symm.trans (ac7 _ pc.symm))
  have pr:=(List.perm_append_left_iff _).1 pd;have Yc:r.flatten.Nodup:=by have:=h.p.nodup_iff.2 hn;rw[List.flatten_cons]at this;exact(ac6.1 this).2.1
  have ih:=HK.count (cs:=r) (cs':=p++q) (D:=r.flatten) Yc ⟨fun c hc=>h.c c (by simp[hc]),adE _⟩ ⟨fun c hc=>h'.c c (by rcases abw.1 hc with k|k<;>simp[k]),pr.symm⟩;simp at ih ⊢;omega
theorem Path.iA{f g:α→α}:∀{a:List α} {z z':α},Path f a z→z∉a.tail→(∀u∈a,f u≠z→g u=f u)→(∀u∈a,f u=z→g u=z')→Path g a z'
 |[],_,_,_,_,_,_=>trivial
 |[x],z,z',p,hz,h1,h2=>⟨h2 x (by simp) p.1,trivial⟩
 |x::y::r,z,z',p,hz,h1,h2=>by have e:f x=y:=p.1;have bq:y≠z:=fun k=>hz (by simp[k]);refine⟨(h1 x (by simp) (by rw[e];exact bq)).trans e,?_⟩;exact Path.iA p.2 (fun k=>hz (aa1 _ k)) (fun u hu=>h1 u (aa1 _ hu)) (fun u hu=>h2 u (aa1 _ hu))
def nz:List α→Nat
 |[]=>0
 |_::_=>1
def mf(l:List α):List (List α):=match l with | []=>[]|x::r=>[x::r]
theorem wU(l:List α):(mf l).flatten=l:=by cases l<;>simp[mf]
theorem HL(l:List α):(mf l).length=nz l:=by cases l<;>rfl
theorem ou{l:List α}{z:α}(h:z∈l.tail):z∈l:=adZ h
section
variable [DecidableEq α]
def tM(f':α→α)(x y:α)(z:α):α :=if f' z=x then(if f' y=y then f' x else f' y) else if f' z=y then(if f' x=x then f' y else f' x) else f' z
theorem HK.Wj{f' f:α→α}{x y:α}{D:List α}{cs':List (List α)}{c:List α}(SU:x≠y)(hn:(x::y::D).Nodup)(h:HK f' (x::y::D) cs')(hf:∀z∈D,f z=tM f' x y z)(hc:c∈cs')(hx:x∈c)(hy:y∈c) :
  ∃cs,HK f D cs∧cs.length+1=cs'.length+(if f' x=y then 0 else 1)+(if f' y=x then 0 else 1):=by
 obtain⟨p,q,rfl⟩:=ada hc;have hcc:=h.c c hc;obtain⟨r,h1,h2⟩:=hcc.head hx;have hyr:y∈r:=by
  rcases abd.1 (h2.mem_iff.2 hy) with k|k
  ·exact absurd k.symm SU
  ·exact k
 obtain⟨B,A,rfl⟩:=ada hyr;have h3:jv f' ((x::B)++(y::A)):=h1;obtain⟨⟨fx,pB⟩,⟨fy,pA⟩⟩:=jv.two.1 h3;have pd:(x::y::(B++A++(p++q).flatten)).Perm (x::y::D):=by refine List.Perm.trans ?_ h.p;refine List.Perm.trans ?_ (gx p q c).symm;refine List.Perm.trans ?_ (ac7 _ h2);show(x::y::(B++A++(p++q).flatten)).Perm (x::((B++y::A)++(p++q).flatten));refine List.Perm.cons x ?_;rw[List.append_assoc B (y::A),List.cons_append,List.append_assoc];exact adj.symm
 have pD:=(pd.cons_inv).cons_inv;have nd:=pd.nodup_iff.2 hn;have nx:x∉B++A++(p++q).flatten:=fun k=>(abv.1 nd).1 (aa1 _ k);have ny:y∉B++A++(p++q).flatten:=(abv.1 (abv.1 nd).2).1;have xB:x∉B:=fun k=>nx (by simp[k]);have xA:x∉A:=fun k=>nx (by simp[k]);have yB:y∉B:=fun k=>ny (by simp[k]);have yA:y∉A:=fun k=>ny (by simp[k]);have Wl:∀z∈B++A++(p++q).flatten,z∈D:=fun z hz=>pD.mem_iff.1 hz;have cB:∀c∈mf B,jv f c:=fun c hc=>by
  cases B with
  |nil=>simp[mf]at hc
  |cons b B =>
   have hc:c=b::B:=by simpa[mf] using hc
   subst hc;have fx:f' x=b:=fx;have bx:b≠x:=fun k=>xB (by simp[k]);refine Path.iA pB (fun k=>yB (ou k)) (fun u hu bq=>?_) (fun u hu heq=>?_)
   ·rw[hf u (Wl u (by simp at hu ⊢;rcases hu with k|k<;>simp[k]))];unfold tM;have:f' u≠x:=fun k=>by
     rcases pB.step hu with m|m
     ·exact xB (k▸m)
     ·exact bq m
    rw[if_neg this,if_neg bq]
   ·rw[hf u (Wl u (by simp at hu ⊢;rcases hu with k|k<;>simp[k]))];unfold tM;rw[if_neg (by rw[heq];exact fun k=>SU k.symm),if_pos heq,if_neg (by rw[fx];exact bx),fx]
 have cA:∀c∈mf A,jv f c:=fun c hc=>by
  cases A with
  |nil=>simp[mf]at hc
  |cons a A =>
   have hc:c=a::A:=by simpa[mf] using hc
   subst hc;have fy:f' y=a:=fy;have ay:a≠y:=fun k=>yA (by simp[k]);refine Path.iA pA (fun k=>xA (ou k)) (fun u hu bq=>?_) (fun u hu heq=>?_)
   ·rw[hf u (Wl u (by simp at hu ⊢;rcases hu with k|k<;>simp[k]))];unfold tM;have:f' u≠y:=fun k=>by
     rcases pA.step hu with m|m
     ·exact yA (k▸m)
     ·exact bq m
    rw[if_neg bq,if_neg this]
   ·rw[hf u (Wl u (by simp at hu ⊢;rcases hu with k|k<;>simp[k]))];unfold tM;rw[if_pos heq,if_neg (by rw[fy];exact ay),fy]
 have cR:∀c∈p++q,jv f c:=fun c hc=>by
  have hc':c∈p++((x::B)++(y::A))::q:=by rcases abw.1 hc with k|k<;>simp[k]
  have Fh:jv f' c:=h.c c (by rcases abw.1 hc with k|k<;>simp[k]);refine Fh.congr fun z hz=>?_;have hzf:∀u∈c,u∈(p++q).flatten:=fun u hu=>ade.2 ⟨c,hc,hu⟩;have hm:=hzf _ (Fh.step hz);rw[hf z (Wl z (List.mem_append_right _ (hzf z hz)))];unfold tM;rw[if_neg (fun k=>nx (List.mem_append_right _ (by rw[←k];exact hm))),if_neg (fun k=>ny (List.mem_append_right _ (by rw[←k];exact hm)))]
 refine⟨mf B++(mf A++(p++q)),⟨fun c hc=>?_,?_⟩,?_⟩
 ·rcases abw.1 hc with k|k
  ·exact cB c k
  rcases abw.1 k with k|k
  ·exact cA c k
  ·exact cR c k
 ·rw[List.flatten_append,List.flatten_append,wU,wU,←List.append_assoc];exact pD
 ·have eB:(if f' x=y then 0 else 1)=nz B:=by
   cases B with
   |nil=>exact if_pos fx
   |cons b B=>exact if_neg (fun k=>yB (by rw[←k,show f' x=b from fx];simp))
  have eA:(if f' y=x then 0 else 1)=nz A:=by
   cases A with
   |nil=>exact if_pos fy
   |cons a A=>exact if_neg (fun k=>xA (by rw[←k,show f' y=a from fy];simp))
  rw[eB,eA];simp only[List.length_append,HL,List.length_cons];omega
theorem HK.Wm{f' f:α→α}{x y:α}{D:List α}{cs':List (List α)}{c:List α}(SU:x≠y)(hn:(x::y::D).Nodup)(h:HK f' (x::y::D) cs')(hf:∀z∈D,f z=tM f' x y z)(hc:c∈cs')(hx:x∈c)(hy:y∉c) :
  ∃cs,HK f D cs∧cs.length+2=cs'.length+(if f' x=x∧f' y=y then 0 else 1):=by
 obtain⟨p,q,rfl⟩:=ada hc;have hcc:=h.c c hc;obtain⟨B,h1,h2⟩:=hcc.head hx;have hyc:y∈(p++q).flatten:=by
  have:y∈(p++c::q).flatten:=h.p.mem_iff.2 (by simp);rcases abw.1 ((gx p q c).mem_iff.1 this) with k|k
  ·exact absurd k hy
  ·exact k
 obtain⟨c2,qS,al9⟩:=ade.1 hyc;have ama:c2∈p++c::q:=by rcases abw.1 qS with k|k<;>simp[k]
 obtain⟨A,h3,h4⟩:=(h.c c2 ama).head al9;obtain⟨p2,q2,w8⟩:=ada qS;obtain⟨fx,pB⟩:=(show Path f' (x::B) x from h1);obtain⟨fy,pA⟩:=(show Path f' (y::A) y from h3);have pd:(x::y::(B++A++(p2++q2).flatten)).Perm (x::y::D):=by refine List.Perm.trans ?_ h.p;refine List.Perm.trans ?_ (gx p q c).symm;rw[w8];refine List.Perm.trans ?_ (ac7 _ h2);refine List.Perm.trans ?_ (List.Perm.append_left _ (gx p2 q2 c2).symm);refine List.Perm.trans ?_ (List.Perm.append_left _ (ac7 _ h4));show(x::y::(B++A++(p2++q2).flatten)).Perm (x::(B++(y::(A++(p2++q2).flatten))));refine List.Perm.cons x ?_;rw[List.append_assoc];exact adj.symm
 have pD:=(pd.cons_inv).cons_inv;have nd:=pd.nodup_iff.2 hn;have nx:x∉B++A++(p2++q2).flatten:=fun k=>(abv.1 nd).1 (aa1 _ k);have ny:y∉B++A++(p2++q2).flatten:=(abv.1 (abv.1 nd).2).1;have xB:x∉B:=fun k=>nx (by simp[k]);have xA:x∉A:=fun k=>nx (by simp[k]);have yB:y∉B:=fun k=>ny (by simp[k]);have yA:y∉A:=fun k=>ny (by simp[k]);have Wl:∀z∈B++A++(p2++q2).flatten,z∈D:=fun z hz=>pD.mem_iff.1 hz;have nB:∀u∈B,f' u≠x→f u=f' u:=fun u hu bq=>by
  rw[hf u (Wl u (by simp[hu]))];unfold tM;have:f' u≠y:=fun k=>by
   rcases pB.step hu with m|m
   ·exact yB (k▸m)
   ·exact bq m
  rw[if_neg bq,if_neg this]
 have nA:∀u∈A,f' u≠y→f u=f' u:=fun u hu bq=>by
  rw[hf u (Wl u (by simp[hu]))];unfold tM;have:f' u≠x:=fun k=>by
   rcases pA.step hu with m|m
   ·exact xA (k▸m)
   ·exact bq m
  rw[if_neg this,if_neg bq]
 have eB:∀u∈B,f' u=x→f u=if f' y=y then f' x else f' y:=fun u hu heq=>by rw[hf u (Wl u (by simp[hu]))];unfold tM;rw[if_pos heq]
 have eA:∀u∈A,f' u=y→f u=if f' x=x then f' y else f' x:=fun u hu heq=>by rw[hf u (Wl u (by simp[hu]))];unfold tM;rw[if_neg (by rw[heq];exact fun k=>SU k.symm),if_pos heq]
 have cBA:∀c∈mf (B++A),jv f c:=fun c hc=>by
  cases B with
  |nil =>
   cases A with
   |nil=>simp[mf]at hc
   |cons a A =>
    have hc:c=a::A:=by simpa[mf] using hc
    subst hc;refine Path.iA pA (fun k=>yA (ou k)) nA (fun u hu heq=>?_);rw[eA u hu heq,if_pos (show f' x=x from fx)];exact fy
  |cons b B =>
   have fxb:f' x=b:=fx;have bx:b≠x:=fun k=>xB (by simp[k])
   cases A with
   |nil =>
    have hc:c=b::B:=by simpa[mf] using hc
    subst hc;refine Path.iA pB (fun k=>xB (ou k)) nB (fun u hu heq=>?_);rw[eB u hu heq,if_pos (show f' y=y from fy)];exact fxb
   |cons a A =>
    have hc:c=(b::B)++(a::A):=by simpa[mf] using hc
    subst hc;have fya:f' y=a:=fy;have ay:a≠y:=fun k=>yA (by simp[k]);refine jv.two.2 ⟨Path.iA pB (fun k=>xB (ou k)) nB (fun u hu heq=>?_),Path.iA pA (fun k=>yA (ou k)) nA (fun u hu heq=>?_)⟩
    ·rw[eB u hu heq,if_neg (by rw[fya];exact ay)];exact fya
    ·rw[eA u hu heq,if_neg (by rw[fxb];exact bx)];exact fxb
 have cR:∀c∈p2++q2,jv f c:=fun c hc=>by
  have RN:c∈p++q:=by rw[w8];rcases abw.1 hc with k|k<;>simp[k]
  have Fh:jv f' c:=h.c c (by rcases abw.1 RN with k|k<;>simp[k]);refine Fh.congr fun z hz=>?_;have hzf:∀u∈c,u∈(p2++q2).flatten:=fun u hu=>ade.2 ⟨c,hc,hu⟩;have hm:=hzf _ (Fh.step hz);rw[hf z (Wl z (List.mem_append_right _ (hzf z hz)))];unfold tM;rw[if_neg (fun k=>nx (List.mem_append_right _ (by rw[←k];exact hm))),if_neg (fun k=>ny (List.mem_append_right _ (by rw[←k];exact hm)))]
 refine⟨mf (B++A)++(p2++q2),⟨fun c hc=>?_,?_⟩,?_⟩
 ·rcases abw.1 hc with k|k
  ·exact cBA c k
  ·exact cR c k
 ·rw[List.flatten_append,wU];exact pD
 ·have eBA:(if f' x=x∧f' y=y then 0 else 1)=nz (B++A):=by
   cases B with
   |nil =>
    cases A with
    |nil=>exact if_pos ⟨fx,fy⟩
    |cons a A=>exact if_neg (fun k=>yA (by rw[←k.2,show f' y=a from fy];simp))
   |cons b B=>exact if_neg (fun k=>xB (by rw[←k.1,show f' x=b from fx];simp))
  rw[eBA];have hl:(p++q).length=(p2++c2::q2).length:=by rw[w8]
  simp only[List.length_append,HL,List.length_cons]at hl ⊢;omega
end
end Go.Cy
namespace Go.Vs
open Go.Proofs Go.Cy
def skip(x:ae)(s:ae→ae)(z:ae):ae:=if s z=x then s x else s z
def dL(row:List ae)(x:ae):ae:=(cT row x 1).getD zD
theorem qI{row:List ae}(hn:row.Nodup){i:Nat}{x:ae}(hx:row[i]? = some x):dL row x=(row[(i+1)%row.length]?).getD zD:=by unfold dL cT;rw[if_pos (List.mem_of_getElem? hx),yH hn hx,Int.toNat_natCast]
theorem HM{row:List ae}(hn:row.Nodup):∀(r p:List ae),row=p++r→Path (dL row) r (row.head?.getD zD)
 |[],_,_=>trivial
 |x::r,p,h=>by
  refine⟨?_,HM hn r (p++[x]) (by rw[h];simp)⟩;have hx:row[p.length]? = some x:=by rw[h];simp
  rw[qI hn hx]
  cases r with
  |nil =>
   have hl:row.length=p.length+1:=by rw[h];simp
   rw[hl,Nat.mod_self];show(row[0]?).getD zD=row.head?.getD zD;rw[List.head?_eq_getElem?]
  |cons y r =>
   have hl:p.length+1<row.length:=by rw[h];simp
   rw[Nat.mod_eq_of_lt hl];have:row[p.length+1]? = some y:=by rw[h];simp
   rw[this];rfl
theorem tN{row:List ae}(hn:row.Nodup)(h0:row≠[]):jv (dL row) row:=by
 have:=HM hn row [] rfl
 cases row with
 |nil=>exact absurd rfl h0
 |cons x r=>exact this
theorem Fi{f g:ae→ae}:∀{a:List ae} {z:ae},Path f a z→Path g a z→∀x∈a,f x=g x
 |y::r,z,p,q,x,hx=>by
  rcases abd.1 hx with rfl|hx
  ·exact p.1.trans q.1.symm
  ·exact Fi p.2 q.2 x hx
theorem HN{f g:ae→ae}{c:List ae}(h:jv f c)(k:jv g c):∀x∈c,f x=g x:=by
 cases c with
 |nil=>exact h.elim
 |cons y r=>exact Fi h k
theorem L5{f:ae→ae}{row:List ae}{j:Nat}(h:jv f (kF row j)):jv f row:=by
 unfold kF at h;have:=jv.kF h
 rwa [List.take_append_drop]at this
theorem jT{row:List ae}(hn:row.Nodup){x:ae}(hx:x∈row):dL row x∈row:=(tN hn (adH hx)).step hx
theorem ni{f:ae→ae}:∀{a:List ae} {z:ae},Path f a z→a≠[]→∃l,l∈a∧f l=z
 |[x],z,p,_=>⟨x,by simp,p.1⟩
 |x::y::r,z,p,_=>by obtain⟨l,h1,h2⟩:=ni p.2 (by simp);exact⟨l,aa1 _ h1,h2⟩
theorem Sj{row:List ae}(hn:row.Nodup){x y:ae}(hx:x∈row)(hy:y∈row)(h:dL row x=dL row y):x=y:=by
 obtain⟨i,hi⟩:=adi hx;obtain⟨j,hj⟩:=adi hy;have pM:=(aa2.1 hi).1;have MP:=(aa2.1 hj).1;have hp:0<row.length:=by omega
 rw[qI hn hi,qI hn hj,List.getElem?_eq_getElem (Nat.mod_lt _ hp),List.getElem?_eq_getElem (Nat.mod_lt _ hp)]at h;have h2:(i+1)%row.length=(j+1)%row.length:=Az hn (by simpa using h);have h3:i=j:=by
  by_cases a:i+1<row.length<;>by_cases b:j+1<row.length
  ·rw[Nat.mod_eq_of_lt a,Nat.mod_eq_of_lt b]at h2;omega
  ·have:j+1=row.length:=by omega
   rw[Nat.mod_eq_of_lt a,this,Nat.mod_self]at h2;omega
  ·have:i+1=row.length:=by omega
   rw[Nat.mod_eq_of_lt b,this,Nat.mod_self]at h2;omega
  ·omega
 subst h3;rw[hi]at hj;exact aby hj
theorem Sk{row:List ae}(hn:row.Nodup){x z:ae}(hx:x∈row)(hz:z∈row)(hzx:z≠x):dL (bz row x) z=skip x (dL row) z:=by
 obtain⟨A,B,rfl⟩:=ada hx;obtain⟨k,hk⟩:=adi hx;have he:(A++x::B).filter (fun e=>decide (e≠x))=A++B:=by
  have XP:(A++x::B)[A.length]? = some x:=by simp
  rw[Aw hn XP];simp
 have G6:(x::(B++A)).Nodup:=by have p:(A++x::B).Perm (x::(B++A)):=adj.trans (List.Perm.cons x adk);exact p.nodup_iff.1 hn
 have FV:z∈B++A:=by
  rcases abw.1 hz with k|k
  ·exact abg _ k
  ·rcases abd.1 k with k|k
   ·exact absurd k hzx
   ·exact abi _ k
 have c1:jv (dL (A++x::B)) (x::(B++A)):=by have:=(tN hn (adH hx)).kF;simpa using this
 obtain⟨fx,pL⟩:=(show Path (dL (A++x::B)) (x::(B++A)) x from c1);have c2:jv (skip x (dL (A++x::B))) (B++A):=by
  generalize hL:B++A=L at *
  cases L with
  |nil=>simp at FV
  |cons l L =>
   have fx:dL (A++x::B) x=l:=fx;have yr:x∉l::L:=(abv.1 G6).1;refine Path.iA pL (fun k=>yr (ou k)) (fun u hu bq=>?_) (fun u hu heq=>?_)
   ·unfold skip;rw[if_neg bq]
   ·unfold skip;rw[if_pos heq,fx]
 have hr:bz (A++x::B) x=bB (A++B):=by unfold bz;rw[he]
 obtain⟨j,hj,hjr⟩:=mb (A++B);have nAB:(A++B).Nodup:=(adk (l₁:=B) (l₂:=A)).nodup_iff.1 (abv.1 G6).2;have amd:(bz (A++x::B) x).Nodup:=by rw[hr];exact(fw _).nodup_iff.2 nAB
 have hzm:z∈bz (A++x::B) x:=by
  rw[hr,kq];rcases abw.1 FV with k|k
  ·exact abg _ k
  ·exact abi _ k
 have c3:jv (dL (bz (A++x::B) x)) (A++B):=by have:=tN amd (adH hzm);generalize dL (bz (A++x::B) x)=g at *;rw[hr,hjr]at this;exact L5 this
 exact HN (jv.kF c3) c2 z FV
def sg(d:ak)(x:ae):ae:=(kI d x).getD zD
def ph(d:ak)(x:ae):ae:=(J2 d x).getD zD
theorem Fj{d:ak}(h:Rw d.1){v:ai}{x:ae}(hv:v∈d.1)(hx:x∈v.2.1):kI d x=cT v.2.1 x 1:=by unfold kI bJ;rw[dq h hv hx];show cT (aV d v.1) x 1=_;rw[gk h.s hv]
theorem jn{d:ak}(h:Rw d.1){v:ai}{x:ae}(hv:v∈d.1)(hx:x∈v.2.1):sg d x=dL v.2.1 x:=by unfold sg dL;rw[Fj h hv hx]
theorem Od{d:ak}(h:Rw d.1){x:ae}(hx:x∈aq d.1):kI d x=some (sg d x):=by
 obtain⟨v,hv,j6⟩:=aM.1 hx;have:kI d x=some (dL v.2.1 x):=by rw[Fj h hv j6];unfold dL cT;rw[if_pos j6];have hp:0<v.2.1.length:=adn j6;rw[List.getElem?_eq_getElem (Nat.mod_lt _ hp)];rfl
 rw[jn h hv j6,this]
theorem Y0{d:ak}(h:Rw d.1){x:ae}(hx:x∈aq d.1):sg d x∈aq d.1:=by obtain⟨v,hv,j6⟩:=aM.1 hx;rw[jn h hv j6];exact aM.2 ⟨v,hv,jT (h.ring hv) j6⟩
theorem Wn{d:ak}(h:Rw d.1){x y:ae}(hx:x∈aq d.1)(hy:y∈aq d.1)(he:sg d x=sg d y):x=y:=by obtain⟨v,hv,j6⟩:=aM.1 hx;obtain⟨w,hw,hyw⟩:=aM.1 hy;rw[jn h hv j6,jn h hw hyw]at he;have h1:=jT (h.ring hv) j6;have h2:=jT (h.ring hw) hyw;rw[←he]at h2;have hwv:=h.one hv hw h1 h2;subst hwv;exact Sj (h.ring hw) j6 hyw he
theorem rP{d:ak}(h:Rw d.1){x z:ae}(hx:x∈aq d.1)(hz:z∈aq (av d x).1):sg (av d x) z=skip x (sg d) z:=by
 obtain⟨p,q⟩:=cZ h hx;obtain⟨v,hv,j6⟩:=aM.1 hx;have hzd:z∈aq d.1:=p.mem_iff.2 (aa1 _ hz);have hzx:z≠x:=fun k=>(abv.1 (p.nodup_iff.1 h.n)).1 (k▸hz);obtain⟨w,hw,J4⟩:=aM.1 hz;have hr:=c9 h hv j6;have Nc:w∈d.1.map (iM v.1 (bz v.2.1 x)):=by rw[hr]at hw;exact hw
 obtain⟨u,hu,hwu⟩:=aca.1 Nc;rw[jn q hw J4];by_cases XT:u.1=v.1
 ·have XT:u=v:=by have h1:=eW h.s hv;have h2:=eW h.s hu;rw[XT,h1]at h2;exact(aby h2).symm
  subst XT;have mU:w.2.1=bz u.2.1 x:=by rw[←hwu];unfold iM;rw[if_pos rfl]
  rw[mU]at J4 ⊢;have GA:z∈u.2.1:=(qG j6 (h.ring hu)).mem_iff.2 (aa1 _ J4);rw[Sk (h.ring hu) j6 GA hzx];unfold skip;rw[jn h hu GA,jn h hu j6]
 ·have mU:w=u:=by rw[←hwu];unfold iM;rw[if_neg XT]
  subst mU;unfold skip;rw[jn h hu J4,if_neg];intro k;have:=jT (h.ring hu) J4;rw[k]at this;exact XT (congrArg Prod.fst (h.one hv hu j6 this))
theorem L6{d e:ak}(h:d.1=e.1)(x:ae):kI d x=kI e x:=by obtain⟨a,b⟩:=d;obtain⟨c,f⟩:=e;simp only at h;subst h;rfl
theorem bU{x:ae}(h:x.2=0∨x.2=1):ah (ah x)=x:=by obtain⟨x1,x2⟩:=x;simp only at h;rcases h with rfl|rfl<;>rfl
theorem Wf.side{d:ak}(h:Wf d){x:ae}(hx:x∈aq d.1):x.2=0∨x.2=1:=by obtain⟨e,_,_,k⟩:=cO.1 (h.pd.mem_iff.1 hx);exact k
theorem Wf.other{d:ak}(h:Wf d){x:ae}(hx:x∈aq d.1):ah x∈aq d.1:=by
 obtain⟨e,he,h1,h2⟩:=cO.1 (h.pd.mem_iff.1 hx);refine h.pd.mem_iff.2 (cO.2 ⟨e,he,h1,?_⟩);obtain⟨_,k⟩:=iJ h2;rcases k with⟨_,k⟩|⟨_,k⟩
 ·exact .inr k
 ·exact .inl k
theorem Fk{d:ak}{x:ae}(hx:x∈aq d.1):(bJ d x).isSome=true:=by obtain⟨v,hv,j6⟩:=aM.1 hx;unfold bJ EU;rw[Option.isSome_map,List.find?_isSome];exact⟨v,hv,by simpa using j6⟩
theorem iO{d:ak}{x:ae}(hx:x∈aq d.1):ph d x=sg d (ah x):=by unfold ph J2 sg;rw[if_pos (Fk hx)]
theorem L7{d:ak}(h:Wf d){x:ae}(hx:x∈aq d.1):J2 d x=some (ph d x):=by rw[iO hx];unfold J2;rw[if_pos (Fk hx)];exact Od h.rw (h.other hx)
theorem Wo{d:ak}(h:Wf d){x:ae}(hx:x∈aq d.1):ph d x∈aq d.1:=by rw[iO hx];exact Y0 h.rw (h.other hx)
theorem Oe{d:ak}(h:Wf d){x y:ae}(hx:x∈aq d.1)(hy:y∈aq d.1)(he:ph d x=ph d y):x=y:=by rw[iO hx,iO hy]at he;have:=Wn h.rw (h.other hx) (h.other hy) he;rw[←bU (h.side hx),←bU (h.side hy),this]
theorem L8{α:Type}[DecidableEq α]:∀{l D:List α},l.Nodup→(∀x∈l,x∈D)→l.length≤D.length
 |[],_,_,_=>adq _
 |x::r,D,hn,hs=>by have h1:=abv.1 hn;have hx:=hs x (abp ..);have ih:=L8 (l:=r) (D:=D.erase x) h1.2 (fun y hy=>(ad3 (fun k=>h1.1 (by rw[←k];exact hy))).2 (hs y (aa1 _ hy)));rw[List.length_erase_of_mem hx]at ih;have:=adn hx;simp;omega
theorem Wp{d:ak}(h:Wf d){out:List ae}{y:ae}(hn:out.Nodup)(hs:∀z∈out,z∈aq d.1)(hp:Path (ph d) out y):y∉out.tail:=fun hy=>by
 cases out with
 |nil=>simp at hy
 |cons x r =>
  have hy:y∈r:=hy;obtain⟨p,q,rfl⟩:=ada hy;have key:∀(x:ae) (p:List ae),Path (ph d) (x::(p++y::q)) y→(x::(p++y::q)).Nodup→(∀z∈x::(p++y::q),z∈aq d.1)→False:=by
   intro x p
   induction p generalizing x with
   |nil =>intro hp hn hs;have h1:ph d x=y:=hp.1;obtain⟨l,h2,h3⟩:=ni hp.2 (by simp);have:=Oe h (hs x (by simp)) (hs l (aa1 _ h2)) (h1.trans h3.symm);subst this;exact(abv.1 hn).1 h2
   |cons u p ih =>intro hp hn hs;exact ih u hp.2 (abv.1 hn).2 (fun z hz=>hs z (aa1 _ hz))
  exact key x p hp hn hs
theorem Wf.L9{d:ak}(h:Wf d):(aq d.1).length≤80:=by
 have h2:=h.pd.length_eq;have h3:=h.ne;have:(ends d.2).length=2*d.2.length:=by
  clear h2 h3 h;generalize d.2=l
  induction l with
  |nil=>rfl
  |cons e r ih=>rw[la];simp[ih];omega
 omega
theorem Fl{d:ak}(h:Wf d)(x:ae):∀(n:Nat) (y:ae) (r:List ae),(x::r).length+n=82→(x::r).Nodup→(∀z∈x::r,z∈aq d.1)→Path (ph d) (x::r) y→y∈aq d.1 → ∃r',tH d x n y (x::r)=x::r'∧(x::r').Nodup∧(∀z∈x::r',z∈aq d.1)∧jv (ph d) (x::r')
 |0,y,r,hl,hn,hs,hp,hy=>by have:=L8 hn hs;have:=h.L9;omega
 |n+1,y,r,hl,hn,hs,hp,hy=>by
  unfold tH;by_cases he:y=x
  ·subst he;rw[if_pos rfl];exact⟨r,rfl,hn,hs,hp⟩
  ·rw[if_neg he];have hyr:y∉x::r:=fun k=>by
    rcases abd.1 k with k|k
    ·exact he k
    ·exact Wp h hn hs hp k
   have e:(J2 d y).getD zD=ph d y:=rfl;rw[e];refine Fl h x n (ph d y) (r++[y]) (by simp at hl ⊢;omega) ?_ (fun z hz=>?_) ?_ (Wo h hy)
   ·show((x::r)++[y]).Nodup;refine ac6.2 ⟨hn,by simp,fun a ha b hb=>?_⟩;simp at hb;subst hb;exact fun k=>hyr (k▸ha)
   ·have hz:z∈(x::r)++[y]:=hz;rcases abw.1 hz with k|k
    ·exact hs z k
    ·simp at k;rw[k];exact hy
   ·show Path (ph d) ((x::r)++[y]) (ph d y);exact Path.app.2 ⟨hp,rfl,trivial⟩
theorem wV{d:ak}(h:Wf d){x:ae}(hx:x∈aq d.1):∃r,bw d x=x::r∧(x::r).Nodup∧(∀z∈x::r,z∈aq d.1)∧jv (ph d) (x::r):=by unfold bw;rw[L7 h hx];exact Fl h x 81 (ph d x) [] rfl (by simp) (fun z hz=>by simp at hz;rw[hz];exact hx) ⟨rfl,trivial⟩ (Wo h hx)
theorem tO{d:ak}(h:Wf d):∀(l:List ae) (out:List (List ae)),(∀x∈l,x∈aq d.1)→(∀c∈out,jv (ph d) c)→out.flatten.Nodup→(∀x∈out.flatten,x∈aq d.1) →(∀c∈ju d l out out.flatten,jv (ph d) c)∧(ju d l out out.flatten).flatten.Nodup∧(∀x∈(ju d l out out.flatten).flatten,x∈aq d.1)∧(∀x,x∈l∨x∈out.flatten→x∈(ju d l out out.flatten).flatten)
 |[],out,_,h1,h2,h3=>⟨h1,h2,h3,fun x k=>k.resolve_left (by simp)⟩
 |x::l,out,hl,h1,h2,h3=>by
  unfold ju;by_cases hx:x∈out.flatten
  ·rw[if_pos hx];obtain⟨a,b,c,e⟩:=tO h l out (fun y hy=>hl y (aa1 _ hy)) h1 h2 h3;refine⟨a,b,c,fun y hy=>e y ?_⟩;rcases hy with hy|hy
   ·rcases abd.1 hy with rfl|hy
    ·exact .inr hx
    ·exact .inl hy
   ·exact .inr hy
  ·rw[if_neg hx];obtain⟨r,t1,t2,t3,t4⟩:=wV h (hl x (abp ..));have ef:out.flatten++bw d x=(out++[bw d x]).flatten:=by simp
   rw[ef];have amg:∀y∈bw d x,y∉out.flatten:=fun y hy k=>by obtain⟨c,hc,hyc⟩:=ade.1 k;rw[t1]at hy;exact hx (ade.2 ⟨c,hc,t4.same (h1 c hc) hy hyc (abp ..)⟩)
   obtain⟨a,b,c,e⟩:=tO h l (out++[bw d x]) (fun y hy=>hl y (aa1 _ hy)) (fun c hc=>by
     rcases abw.1 hc with k|k
     ·exact h1 c k
     ·simp at k;rw[k,t1];exact t4)
    (by rw[←ef];refine ac6.2 ⟨h2,by rw[t1];exact t2,fun u hu w hw k=>amg w hw (k▸hu)⟩)
    (fun y hy=>by
     rw[←ef]at hy;rcases abw.1 hy with k|k
     ·exact h3 y k
     ·rw[t1]at k;exact t3 y k)
   refine⟨a,b,c,fun y hy=>e y ?_⟩;rw[←ef];rcases hy with hy|hy
   ·rcases abd.1 hy with rfl|hy
    ·exact .inr (abg _ (by rw[t1];simp))
    ·exact .inl hy
   ·exact .inr (abi _ hy)
theorem mQ:∀l:List an,fT l=ends l
 |[]=>rfl
 |e::r=>by rw[la,fT,mQ r]
theorem bL{d:ak}(h:Wf d):HK (ph d) (aq d.1) (b5 d):=by obtain⟨a,b,c,e⟩:=tO h (fT d.2) [] (fun x hx=>h.pd.mem_iff.2 (by rw[←mQ];exact hx)) (by simp) (by simp) (by simp);refine⟨a,(List.perm_ext_iff_of_nodup b h.rw.n).2 fun x=>⟨c x,fun hx=>e x (.inl (by rw[mQ];exact h.pd.mem_iff.1 hx))⟩⟩
def cj(d:ak)(x:ID):ak:=aF (av (av d (x,0)) (x,1)) zI x
theorem Og{d:ak}(h:Wf d)(x y:ae)(e:ID):(aF (av (av d x) y) zI e).1=(av (av d x) y).1:=lE (iz (iz h.gv x) y)
theorem Fm(x:ID):ah (x,0)=(x,1):=rfl
theorem Wq(x:ID):ah (x,1)=(x,0):=rfl
structure cf(d':ak)(x:ID):Prop where
 wf:Wf d'
 e:(aL d'.2 x).isSome=true
theorem cf.x0{d':ak}{x:ID}(h:cf d' x):(x,0)∈aq d'.1:=h.wf.g9 h.e (.inl rfl)
theorem cf.x1{d':ak}{x:ID}(h:cf d' x):(x,1)∈aq d'.1:=h.wf.g9 h.e (.inr rfl)
theorem cf.p1{d':ak}{x:ID}(h:cf d' x):(aq d'.1).Perm ((x,0)::aq (av d' (x,0)).1)∧Rw (av d' (x,0)).1:=cZ h.wf.rw h.x0
theorem cf.x1'{d':ak}{x:ID}(h:cf d' x):(x,1)∈aq (av d' (x,0)).1:=by
 rcases abd.1 (h.p1.1.mem_iff.1 h.x1) with k|k
 ·cases k
 ·exact k
theorem cf.p2{d':ak}{x:ID}(h:cf d' x):(aq (av d' (x,0)).1).Perm ((x,1)::aq (av (av d' (x,0)) (x,1)).1)∧Rw (av (av d' (x,0)) (x,1)).1:=cZ h.p1.2 h.x1'
theorem cf.v{d':ak}{x:ID}(h:cf d' x):(cj d' x).1=(av (av d' (x,0)) (x,1)).1:=Og h.wf _ _ _
theorem cf.w{d':ak}{x:ID}(h:cf d' x):Wf (cj d' x):=h.wf.cut h.e
theorem cf.p{d':ak}{x:ID}(h:cf d' x):(aq d'.1).Perm ((x,0)::(x,1)::aq (cj d' x).1):=by rw[h.v];exact h.p1.1.trans (List.Perm.cons _ h.p2.1)
theorem cf.sg{d':ak}{x:ID}(h:cf d' x){z:ae}(hz:z∈aq (cj d' x).1):sg (cj d' x) z=skip (x,1) (skip (x,0) (sg d')) z:=by
 have e1:Vs.sg (cj d' x) z=Vs.sg (av (av d' (x,0)) (x,1)) z:=by unfold Vs.sg;rw[L6 h.v]
 rw[h.v]at hz;have A9:z∈aq (av d' (x,0)).1:=h.p2.1.mem_iff.2 (aa1 _ hz);rw[e1,rP h.p1.2 h.x1' hz];unfold skip;rw[rP h.wf.rw h.x0 A9,rP h.wf.rw h.x0 h.x1'];rfl
theorem cf.ph{d':ak}{x:ID}(h:cf d' x){z:ae}(hz:z∈aq (cj d' x).1):ph (cj d' x) z=tM (ph d') (x,0) (x,1) z:=by
 have C9:z∈aq d'.1:=h.p.mem_iff.2 (aa1 _ (aa1 _ hz));have ho:=h.w.other hz;have pG:ah z∈aq d'.1:=h.p.mem_iff.2 (aa1 _ (aa1 _ ho));have nd:=h.p.nodup_iff.1 h.wf.rw.n;have Gg:ah z≠(x,1):=fun k=>(abv.1 (abv.1 nd).2).1 (k▸ho);rw[iO hz,h.sg ho];unfold tM;rw[iO C9,iO h.x0,iO h.x1,Fm,Wq];generalize hW:ah z=w at *;have inj:Vs.sg d' (x,1)=(x,0)→Vs.sg d' w≠(x,0):=fun k1 k2=>Gg (Wn h.wf.rw pG h.x1 (k2.trans k1.symm));unfold skip;by_cases c1:Vs.sg d' w=(x,0)
 ·rw[if_pos c1];by_cases c2:Vs.sg d' (x,0)=(x,1)
  ·rw[if_pos c2,if_pos c2];by_cases c3:Vs.sg d' (x,1)=(x,0)
   ·exact absurd c1 (inj c3)
   ·rw[if_neg c3,if_pos c1]
  ·rw[if_neg c2,if_neg c2,if_pos c1]
 ·rw[if_neg c1];by_cases c2:Vs.sg d' w=(x,1)
  ·rw[if_pos c2,if_neg c1]
  ·rw[if_neg c2,if_neg c1]
def al(l:List ai):Nat:=l.countP fun v=>v.2.1.isEmpty
theorem HO{row:List ae}(hn:row.Nodup){x:ae}(hx:x∈row):dL row x=x↔row.length=1:=by
 obtain⟨i,hi⟩:=adi hx;have pM:=(aa2.1 hi).1;have hp:0<row.length:=by omega
 rw[qI hn hi,List.getElem?_eq_getElem (Nat.mod_lt _ hp)];constructor
 ·intro h;have h1:row[(i+1)%row.length]? = some x:=by rw[List.getElem?_eq_getElem (Nat.mod_lt _ hp)];exact congrArg some (by simpa using h)
  have h2:=nh hn h1 hi;by_cases c:i+1<row.length
  ·rw[Nat.mod_eq_of_lt c]at h2;omega
  ·have:i+1=row.length:=by omega
   rw[this,Nat.mod_self]at h2;omega
 ·intro h;have h0:i=0:=by omega
  subst h0;have:(0+1)%row.length=0:=by rw[h]
  simp only[this];obtain⟨h1,h2⟩:=aa2.1 hi;simpa using h2
theorem Fp{d:ak}(h:Rw d.1){x:ae}(hx:x∈aq d.1):al (av d x).1=al d.1+if sg d x=x then 1 else 0:=by
 obtain⟨v,hv,j6⟩:=aM.1 hx;obtain⟨a,b,h1,_,_,h2⟩:=mw h.s hv;have e1:(av d x).1=a++(v.1,(bz v.2.1 x,v.2.2))::b:=by rw[c9 h hv j6];exact h2 _
 have p:=qG j6 (h.ring hv);have hl:=p.length_eq;have v0:v.2.1.isEmpty=false:=by
  cases hq:v.2.1 with
  |nil=>rw[hq]at j6;simp at j6
  |cons _ _=>rfl
 have v1:(bz v.2.1 x).isEmpty=decide (sg d x=x):=by rw[Bool.eq_iff_iff,List.isEmpty_iff,decide_eq_true_eq,jn h hv j6,HO (h.ring hv) j6,←List.length_eq_zero_iff];simp at hl;omega
 rw[e1]
 conv=>rhs;rw[h1]
 unfold al;rw[List.countP_append,List.countP_append,List.countP_cons,List.countP_cons];simp only[v0,v1];by_cases c:sg d x=x
 ·simp[c];omega
 ·simp[c]
def ft(d:ak):Nat:=(b5 d).length+al d.1
def Jy(d:ak)(x y:ae):Prop:=∃c∈b5 d,x∈c∧y∈c
theorem cf.al{d':ak}{x:ID}(h:cf d' x):Vs.al (cj d' x).1=Vs.al d'.1+(if Vs.ph d' (x,1)=(x,0) then 1 else 0)+(if Vs.ph d' (x,0)=(x,1)∨(Vs.ph d' (x,0)=(x,0)∧Vs.ph d' (x,1)=(x,1)) then 1 else 0):=by
 rw[h.v,Fp h.p1.2 h.x1',Fp h.wf.rw h.x0];have e0:Vs.ph d' (x,0)=Vs.sg d' (x,1):=iO h.x0;have e1:Vs.ph d' (x,1)=Vs.sg d' (x,0):=iO h.x1;rw[e0,e1,rP h.wf.rw h.x0 h.x1'];unfold skip;congr 1;by_cases c:Vs.sg d' (x,1)=(x,0)
 ·rw[if_pos c];by_cases k:Vs.sg d' (x,0)=(x,1)
  ·rw[if_pos k,if_pos (.inr ⟨c,k⟩)]
  ·rw[if_neg k,if_neg];rintro(m|⟨_,m⟩)
   ·rw[c]at m;cases m
   ·exact k m
 ·rw[if_neg c];by_cases k:Vs.sg d' (x,1)=(x,1)
  ·rw[if_pos k,if_pos (.inl k)]
  ·rw[if_neg k,if_neg];rintro(m|⟨m,_⟩)
   ·exact k m
   ·exact c m
theorem Y1(x:ID):((x,0):ae)≠(x,1):=fun k=>by cases k
theorem cf.same{d':ak}{x:ID}(h:cf d' x)(hf:Jy d' (x,0) (x,1)):ft (cj d' x)=ft d'+1∧(b5 (cj d' x)).length+1=(b5 d').length+(if Vs.ph d' (x,0)=(x,1) then 0 else 1)+(if Vs.ph d' (x,1)=(x,0) then 0 else 1):=by
 obtain⟨c,hc,h0,h1⟩:=hf;have nd:=h.p.nodup_iff.1 h.wf.rw.n;have dec:HK (Vs.ph d') ((x,0)::(x,1)::aq (cj d' x).1) (b5 d'):=⟨(bL h.wf).c,(bL h.wf).p.trans h.p⟩;obtain⟨cs,k1,k2⟩:=HK.Wj (Y1 x) nd dec (fun z hz=>h.ph hz) hc h0 h1;have k3:=HK.count (h.w.rw.n) (bL h.w) k1;have k4:=h.al;have Fh:=(bL h.wf).c c hc;have n0:¬(Vs.ph d' (x,0)=(x,0)):=fun k=>by
  obtain⟨n,hn⟩:=Fh.reach h0 h1;have:∀n,it (Vs.ph d') n (x,0)=(x,0):=fun n=>by
   induction n with
   |zero=>rfl
   |succ n ih=>show it (Vs.ph d') n (Vs.ph d' (x,0))=_;rw[k];exact ih
  rw[this]at hn;cases hn
 refine⟨?_,by rw[k3];exact k2⟩;unfold ft;rw[k3,k4];by_cases c0:Vs.ph d' (x,0)=(x,1)
 ·rw[if_pos c0]at k2;rw[if_pos (Or.inl c0)];by_cases c1:Vs.ph d' (x,1)=(x,0)
  ·rw[if_pos c1]at k2 ⊢;omega
  ·rw[if_neg c1]at k2 ⊢;omega
 ·rw[if_neg c0]at k2;rw[if_neg (show ¬(Vs.ph d' (x,0)=(x,1)∨(Vs.ph d' (x,0)=(x,0)∧Vs.ph d' (x,1)=(x,1))) from fun m=>m.elim c0 fun m=>n0 m.1)];by_cases c1:Vs.ph d' (x,1)=(x,0)
  ·rw[if_pos c1]at k2 ⊢;omega
  ·rw[if_neg c1]at k2 ⊢;omega
theorem cf.diff{d':ak}{x:ID}(h:cf d' x)(hf:¬Jy d' (x,0) (x,1)):ft (cj d' x)+1=ft d':=by
 have hm:(x,0)∈(b5 d').flatten:=(bL h.wf).p.mem_iff.2 h.x0;obtain⟨c,hc,h0⟩:=ade.1 hm;have h1:(x,1)∉c:=fun k=>hf ⟨c,hc,h0,k⟩;have nd:=h.p.nodup_iff.1 h.wf.rw.n;have dec:HK (Vs.ph d') ((x,0)::(x,1)::aq (cj d' x).1) (b5 d'):=⟨(bL h.wf).c,(bL h.wf).p.trans h.p⟩;obtain⟨cs,k1,k2⟩:=HK.Wm (Y1 x) nd dec (fun z hz=>h.ph hz) hc h0 h1;have k3:=HK.count (h.w.rw.n) (bL h.w) k1;have k4:=h.al;have Fh:=(bL h.wf).c c hc;have n0:¬(Vs.ph d' (x,0)=(x,1)):=fun k=>h1 (k▸Fh.step h0);have n1:¬(Vs.ph d' (x,1)=(x,0)):=fun k=>by have zH:(x,1)∈(b5 d').flatten:=(bL h.wf).p.mem_iff.2 h.x1;obtain⟨c2,qS,h2⟩:=ade.1 zH;have:=((bL h.wf).c c2 qS).step h2;rw[k]at this;exact hf ⟨c2,qS,this,h2⟩
 unfold ft;rw[k3,k4,if_neg n1];by_cases c:Vs.ph d' (x,0)=(x,0)∧Vs.ph d' (x,1)=(x,1)
 ·rw[if_pos c]at k2;rw[if_pos (.inr c)];omega
 ·rw[if_neg c]at k2;rw[if_neg (fun m=>m.elim n0 c)];omega
def BO(d:ak)(a b:ID):Prop:=∃z∈aq d.1,bJ d z=some a∧bJ d (ah z)=some b
inductive cI (d:ak):ID→ID→Prop
 |refl (a:ID):cI d a a
 |tail {a b c:ID}:cI d a b→BO d b c→cI d a c
theorem cI.trans{d:ak}{a b c:ID}(h:cI d a b)(k:cI d b c):cI d a c:=by
 induction k with
 |refl=>exact h
 |tail _ j ih=>exact ih.tail j
theorem BO.symm{d:ak}(hw:Wf d){a b:ID}(h:BO d a b):BO d b a:=by obtain⟨z,hz,h1,h2⟩:=h;exact⟨ah z,hw.other hz,h2,by rw[bU (hw.side hz)];exact h1⟩
theorem BO.conn{d:ak}{a b:ID}(h:BO d a b):cI d a b:=(cI.refl a).tail h
theorem cI.symm{d:ak}(hw:Wf d){a b:ID}(h:cI d a b):cI d b a:=by
 induction h with
 |refl=>exact .refl _
 |tail _ j ih=>exact(j.symm hw).conn.trans ih
structure pT(d:ak)(R:List ID):Prop where
 n:R.Nodup
 v:∀r∈R,∃v∈d.1,v.1=r
 i:∀r∈R,∀s∈R,cI d r s→r=s
 c:∀v∈d.1,∃r∈R,cI d v.1 r
theorem Jz{d:ak}(hw:Wf d):∀{R R':List ID},R.Nodup→(∀r∈R,∀s∈R,cI d r s→r=s)→(∀r∈R,∃s∈R',cI d r s)→R.length≤R'.length
 |[],_,_,_,_=>adq _
 |r::R,R',hn,hi,hc=>by obtain⟨s,hs,XJ⟩:=hc r (abp ..);have h1:=abv.1 hn;have ih:=Jz hw (R:=R) (R':=R'.erase s) h1.2 (fun a ha b hb=>hi a (aa1 _ ha) b (aa1 _ hb)) (fun a ha=>by obtain⟨t,ht,Bi⟩:=hc a (aa1 _ ha);refine⟨t,(ad3 (fun k=>?_)).2 ht,Bi⟩;subst k;have:=hi a (aa1 _ ha) r (abp ..) (Bi.trans (XJ.symm hw));exact h1.1 (this▸ha));rw[List.length_erase_of_mem hs]at ih;have:=adn hs;simp;omega
theorem pT.len{d:ak}(hw:Wf d){R R':List ID}(h:pT d R)(h':pT d R'):R.length=R'.length:=by
 refine Nat.le_antisymm (Jz hw h.n h.i fun r hr=>?_) (Jz hw h'.n h'.i fun r hr=>?_)
 ·obtain⟨v,hv,rfl⟩:=h.v r hr;exact h'.c v hv
 ·obtain⟨v,hv,rfl⟩:=h'.v r hr;exact h.c v hv
theorem tR{d:ak}(hw:Wf d){z:ae}(hz:z∈aq d.1):∃v∈d.1,z∈v.2.1∧bJ d z=some v.1:=by obtain⟨v,hv,hzv⟩:=aM.1 hz;exact⟨v,hv,hzv,dq hw.rw hv hzv⟩
theorem Fq{d:ak}(h:Rw d.1){x z:ae}(hx:x∈aq d.1)(hz:z∈aq (av d x).1):bJ (av d x) z=bJ d z:=by
 obtain⟨p,q⟩:=cZ h hx;obtain⟨v,hv,j6⟩:=aM.1 hx;obtain⟨w,hw,J4⟩:=aM.1 hz;have hr:=c9 h hv j6;have Nc:w∈d.1.map (iM v.1 (bz v.2.1 x)):=by rw[hr]at hw;exact hw
 obtain⟨u,hu,hwu⟩:=aca.1 Nc;have bR:w.1=u.1:=by rw[←hwu];exact pR _ _ _
 have GA:z∈u.2.1:=by
  by_cases XT:u.1=v.1
  ·have XT:u=v:=by have h1:=eW h.s hv;have h2:=eW h.s hu;rw[XT,h1]at h2;exact(aby h2).symm
   subst XT;have mU:w.2.1=bz u.2.1 x:=by rw[←hwu];unfold iM;rw[if_pos rfl]
   rw[mU]at J4;exact(qG j6 (h.ring hu)).mem_iff.2 (aa1 _ J4)
  ·have mU:w=u:=by rw[←hwu];unfold iM;rw[if_neg XT]
   rw[←mU];exact J4
 show EU (av d x).1 z=EU d.1 z;rw[dq q hw J4,dq h hu GA,bR]
theorem cf.at{d':ak}{x:ID}(h:cf d' x){z:ae}(hz:z∈aq (cj d' x).1):bJ (cj d' x) z=bJ d' z:=by
 have e:bJ (cj d' x) z=bJ (av (av d' (x,0)) (x,1)) z:=by unfold bJ;rw[h.v]
 rw[h.v]at hz;have A9:z∈aq (av d' (x,0)).1:=h.p2.1.mem_iff.2 (aa1 _ hz);rw[e,Fq h.p1.2 h.x1' hz,Fq h.wf.rw h.x0 A9]
theorem cf.sub{d':ak}{x:ID}(h:cf d' x){z:ae}(hz:z∈aq (cj d' x).1):z∈aq d'.1:=h.p.mem_iff.2 (aa1 _ (aa1 _ hz))
theorem cf.Y2{d':ak}{x:ID}(h:cf d' x){a b:ID}(k:BO (cj d' x) a b):BO d' a b:=by obtain⟨z,hz,h1,h2⟩:=k;exact⟨z,h.sub hz,by rw[←h.at hz];exact h1,by rw[←h.at (h.w.other hz)];exact h2⟩
theorem cf.conn{d':ak}{x:ID}(h:cf d' x){a b:ID}(k:cI (cj d' x) a b):cI d' a b:=by
 induction k with
 |refl=>exact .refl _
 |tail _ j ih=>exact ih.tail (h.Y2 j)
theorem cf.amh{d':ak}{x u w:ID}(h:cf d' x)(hu:bJ d' (x,0)=some u)(hw:bJ d' (x,1)=some w){a b:ID}(k:BO d' a b):BO (cj d' x) a b∨(a=u∧b=w)∨(a=w∧b=u):=by
 obtain⟨z,hz,h1,h2⟩:=k;rcases abd.1 (h.p.mem_iff.1 hz) with rfl|FV
 ·rw[Fm]at h2;rw[hu]at h1;rw[hw]at h2
  cases h1;cases h2
  exact .inr (.inl ⟨rfl,rfl⟩)
 rcases abd.1 FV with rfl|MM
 ·rw[Wq]at h2;rw[hw]at h1;rw[hu]at h2
  cases h1;cases h2
  exact .inr (.inr ⟨rfl,rfl⟩)
 ·exact .inl ⟨z,MM,by rw[h.at MM];exact h1,by rw[h.at (h.w.other MM)];exact h2⟩
theorem cf.Wr{d':ak}{x u w:ID}(h:cf d' x)(hu:bJ d' (x,0)=some u)(hw:bJ d' (x,1)=some w){a b:ID}(k:cI d' a b) :
  cI (cj d' x) a b∨(cI (cj d' x) a u∧cI (cj d' x) w b)∨(cI (cj d' x) a w∧cI (cj d' x) u b):=by
 induction k with
 |refl=>exact .inl (.refl _)
 |tail _ j ih =>
  rcases h.amh hu hw j with j|⟨rfl,rfl⟩|⟨rfl,rfl⟩
  ·rcases ih with k|⟨k,m⟩|⟨k,m⟩
   ·exact .inl (k.tail j)
   ·exact .inr (.inl ⟨k,m.tail j⟩)
   ·exact .inr (.inr ⟨k,m.tail j⟩)
  ·rcases ih with k|⟨k,m⟩|⟨k,m⟩
   ·exact .inr (.inl ⟨k,.refl _⟩)
   ·exact .inr (.inl ⟨k,.refl _⟩)
   ·exact .inl k
  ·rcases ih with k|⟨k,m⟩|⟨k,m⟩
   ·exact .inr (.inr ⟨k,.refl _⟩)
   ·exact .inl k
   ·exact .inr (.inr ⟨k,.refl _⟩)
theorem cf.ids{d':ak}{x:ID}(h:cf d' x):(cj d' x).1.map (·.1)=d'.1.map (·.1):=by rw[h.v];unfold av Vs.b8;simp only[List.map_map];refine ac2 fun v hv=>?_;simp only[Function.comp,pR]
theorem cf.Oh{d':ak}{x:ID}(h:cf d' x){r:ID}:(∃v∈(cj d' x).1,v.1=r)↔∃v∈d'.1,v.1=r:=by
 have e:∀l:List ai,(∃v∈l,v.1=r)↔r∈l.map (·.1):=fun l=>by rw[List.mem_map]
 rw[e,e,h.ids]
theorem cf.Cc{d':ak}{x u w:ID}(h:cf d' x)(hu:bJ d' (x,0)=some u)(hw:bJ d' (x,1)=some w)(k:cI (cj d' x) u w){R:List ID}(hr:pT d' R):pT (cj d' x) R:=by
 have key:∀{a b:ID},cI d' a b→cI (cj d' x) a b:=fun {a b} m=>by
  rcases h.Wr hu hw m with m|⟨m,q⟩|⟨m,q⟩
  ·exact m
  ·exact(m.trans k).trans q
  ·exact(m.trans (k.symm h.w)).trans q
 refine⟨hr.n,fun r Cb=>h.Oh.2 (hr.v r Cb),fun r Cb s hs m=>hr.i r Cb s hs (h.conn m),fun v hv=>?_⟩;obtain⟨v',Dp,he⟩:=h.Oh.1 ⟨v,hv,rfl⟩;obtain⟨r,h1,h2⟩:=hr.c v' Dp;exact⟨r,h1,by rw[←he];exact key h2⟩
theorem cf.JA{d':ak}{x:ID}(h:cf d' x):∃u w,bJ d' (x,0)=some u∧bJ d' (x,1)=some w∧(∃v∈d'.1,v.1=u)∧∃v∈d'.1,v.1=w:=by obtain⟨v,hv,_,h1⟩:=tR h.wf h.x0;obtain⟨v2,A5,_,h2⟩:=tR h.wf h.x1;exact⟨v.1,v2.1,h1,h2,⟨v,hv,rfl⟩,⟨v2,A5,rfl⟩⟩
theorem cf.P3{d':ak}{x u w:ID}(h:cf d' x)(hu:bJ d' (x,0)=some u)(hw:bJ d' (x,1)=some w)(k:¬cI (cj d' x) u w){R:List ID}(hr:pT d' R):∃R2,pT (cj d' x) R2∧R2.length=R.length+1:=by
 have uv:∃v∈d'.1,v.1=u:=by obtain⟨v,hv,_,h1⟩:=tR h.wf h.x0;rw[hu]at h1;cases h1;exact⟨v,hv,rfl⟩
 have wv:∃v∈d'.1,v.1=w:=by obtain⟨v,hv,_,h1⟩:=tR h.wf h.x1;rw[hw]at h1;cases h1;exact⟨v,hv,rfl⟩
 have uw:cI d' u w:=BO.conn ⟨(x,0),h.x0,hu,by rw[Fm];exact hw⟩;obtain⟨v0,Xz,hvu⟩:=uv;obtain⟨r,Cb,hur⟩:=hr.c v0 Xz;rw[hvu]at hur;have sep:∀s∈R.erase r,s∈R∧¬cI d' s u∧¬cI d' s w:=fun s hs=>by
  have h1:=adV hs;have h2:s≠r:=fun e=>by subst e;exact absurd hs (List.Nodup.not_mem_erase hr.n)
  exact⟨h1,fun m=>h2 (hr.i s h1 r Cb (m.trans hur)),fun m=>h2 (hr.i s h1 r Cb ((m.trans (uw.symm h.wf)).trans hur))⟩
 refine⟨u::w::R.erase r,⟨?_,?_,?_,?_⟩,?_⟩
 ·refine abv.2 ⟨fun m=>?_,abv.2 ⟨fun m=>(sep w m).2.2 (.refl _),hr.n.erase r⟩⟩;rcases abd.1 m with m|m
  ·exact k (m▸.refl _)
  ·exact(sep u m).2.1 (.refl _)
 ·intro s hs;rcases abd.1 hs with rfl|hs
  ·exact h.Oh.2 ⟨v0,Xz,hvu⟩
  rcases abd.1 hs with rfl|hs
  ·exact h.Oh.2 wv
  ·exact h.Oh.2 (hr.v s (sep s hs).1)
 ·intro a ha b hb m;rcases abd.1 ha with ea|ha
  ·rcases abd.1 hb with eb|hb
   ·rw[ea,eb]
   rcases abd.1 hb with eb|hb
   ·exact absurd (ea▸eb▸m) k
   ·exact absurd ((h.conn (ea▸m)).symm h.wf) (sep b hb).2.1
  rcases abd.1 ha with ea|ha
  ·rcases abd.1 hb with eb|hb
   ·exact absurd ((ea▸eb▸m).symm h.w) k
   rcases abd.1 hb with eb|hb
   ·rw[ea,eb]
   ·exact absurd ((h.conn (ea▸m)).symm h.wf) (sep b hb).2.2
  ·rcases abd.1 hb with eb|hb
   ·exact absurd (eb▸h.conn m) (sep a ha).2.1
   rcases abd.1 hb with eb|hb
   ·exact absurd (eb▸h.conn m) (sep a ha).2.2
   ·exact hr.i a (sep a ha).1 b (sep b hb).1 (h.conn m)
 ·intro v hv;obtain⟨v',Dp,he⟩:=h.Oh.1 ⟨v,hv,rfl⟩;obtain⟨s,h1,h2⟩:=hr.c v' Dp;rw[he]at h2;by_cases hsr:s=r
  ·subst hsr;rcases h.Wr hu hw (h2.trans (hur.symm h.wf)) with m|⟨m,_⟩|⟨m,_⟩
   ·exact⟨u,by simp,m⟩
   ·exact⟨u,by simp,m⟩
   ·exact⟨w,by simp,m⟩
  ·have X5:s∈R.erase r:=(ad3 hsr).2 h1;rcases h.Wr hu hw h2 with m|⟨_,q⟩|⟨_,q⟩
   ·exact⟨s,by simp[X5],m⟩
   ·exact absurd ((h.conn q).symm h.wf) (sep s X5).2.2
   ·exact absurd ((h.conn q).symm h.wf) (sep s X5).2.1
 ·have:=adn Cb;simp only[List.length_cons,List.length_erase_of_mem Cb];omega
theorem cf.AD{d':ak}{x u w:ID}(h:cf d' x)(hu:bJ d' (x,0)=some u)(hw:bJ d' (x,1)=some w)(hf:¬Jy d' (x,0) (x,1)):cI (cj d' x) u w:=by
 have hm:(x,0)∈(b5 d').flatten:=(bL h.wf).p.mem_iff.2 h.x0;obtain⟨c,hc,h0⟩:=ade.1 hm;have h1:(x,1)∉c:=fun k=>hf ⟨c,hc,h0,k⟩;have Fh:=(bL h.wf).c c hc;obtain⟨B,k1,k2⟩:=Fh.head h0;have hcd:∀z∈c,z∈aq d'.1:=fun z hz=>(bL h.wf).p.mem_iff.1 (ade.2 ⟨c,hc,hz⟩);have cn:c.Nodup:=by obtain⟨p,q,e⟩:=ada hc;have:=(bL h.wf).p.nodup_iff.2 h.wf.rw.n;rw[e]at this;exact(ac6.1 ((gx p q c).nodup_iff.1 this)).1
 have bn:=k2.nodup_iff.2 cn;have agm:∀z∈aq d'.1,bJ d' (Vs.ph d' z)=bJ d' (ah z):=fun z hz=>by have ho:=h.wf.other hz;obtain⟨v,hv,hzv⟩:=aM.1 ho;rw[iO hz,jn h.wf.rw hv hzv];show EU d'.1 _=EU d'.1 _;rw[dq h.wf.rw hv (jT (h.wf.rw.ring hv) hzv),dq h.wf.rw hv hzv]
 have inC:∀z∈B,z∈aq (cj d' x).1:=fun z hz=>by
  have hzc:z∈c:=k2.mem_iff.1 (aa1 _ hz);rcases abd.1 (h.p.mem_iff.1 (hcd z hzc)) with e|e
  ·exact absurd (e▸hz) (abv.1 bn).1
  rcases abd.1 e with e|e
  ·exact absurd (e▸hzc) h1
  ·exact e
 have walk:∀(B:List ae) (a e:ID) (z:ae),(∀y∈B,y∈aq (cj d' x).1)→Path (Vs.ph d') B z→bJ d' z=some e→(∀y,B.head? = some y→bJ d' y=some a)→(B=[]→a=e)→cI (cj d' x) a e:=by
  intro B
  induction B with
  |nil=>intro a e z _ _ _ _ h5;rw[h5 rfl];exact .refl _
  |cons y r ih =>
   intro a e z hB hp hz ha _;have hy:=hB y (by simp);have Tb:=h.sub hy;obtain⟨v,hv,XS,Bi⟩:=tR h.wf (h.wf.other Tb);have Y2:BO (cj d' x) a v.1:=⟨y,hy,by rw[h.at hy];exact ha y rfl,by rw[h.at (h.w.other hy)];exact Bi⟩;have jO:bJ d' (r.head?.getD z)=some v.1:=by rw[←show Vs.ph d' y=r.head?.getD z from hp.1,agm y Tb];exact Bi
   refine Y2.conn.trans (ih v.1 e z (fun q hq=>hB q (aa1 _ hq)) hp.2 hz (fun q hq=>?_) (fun hr=>?_))
   ·rw[hq]at jO;exact jO
   ·subst hr;have:bJ d' z=some v.1:=jO;rw[hz]at this;exact(aby this).symm
 obtain⟨fx,pB⟩:=(show Path (Vs.ph d') ((x,0)::B) (x,0) from k1);have Oi:bJ d' (B.head?.getD (x,0))=some w:=by rw[←fx,agm _ h.x0,Fm];exact hw
 refine(walk B w u (x,0) inC pB hu (fun y hy=>by rw[hy]at Oi;exact Oi) (fun hB=>?_)).symm h.w;subst hB;have:bJ d' (x,0)=some w:=Oi;rw[hu]at this;exact(aby this).symm
theorem Ma{d:ak}(h:aq d.1=[]){a b:ID}(k:cI d a b):a=b:=by
 induction k with
 |refl=>rfl
 |tail _ j _=>obtain⟨z,hz,_⟩:=j;rw[h]at hz;simp at hz
theorem cd.ids{l:List ai}(h:cd l):(l.map (·.1)).Nodup:=by unfold List.Nodup;rw[List.pairwise_map];exact h.imp fun {a b} k e=>by rw[e,cv]at k;cases k
theorem P4:∀(n:Nat) (d:ak),Wf d→d.2.length=n→∀R,pT d R→∃k,d.1.length+ft d+2*k=2*R.length+d.2.length
 |0,d,hw,hl,R,hr=>by
  have he:d.2=[]:=by simpa using hl
  have hd:aq d.1=[]:=by have:=hw.pd;rw[he]at this;exact List.perm_nil.1 this
  have abt:pT d (d.1.map (·.1)):=⟨hw.sv.ids,fun r hr=>by obtain⟨v,hv,rfl⟩:=aca.1 hr;exact⟨v,hv,rfl⟩,fun r _ s _ k=>Ma hd k,fun v hv=>⟨v.1,aca.2 ⟨v,hv,rfl⟩,.refl _⟩⟩;have hlen:=hr.len hw abt;have hf:b5 d=[]:=by unfold b5;rw[he];rfl
  have ha:al d.1=d.1.length:=by
   unfold al;rw[List.countP_eq_length];intro v hv;rw[List.isEmpty_iff]
   cases hq:v.2.1 with
   |nil=>rfl
   |cons y r =>have:y∈aq d.1:=aM.2 ⟨v,hv,by rw[hq];simp⟩;rw[hd]at this;simp at this
  refine⟨0,?_⟩;unfold ft;rw[hf,ha,hlen,he];simp;omega
 |n+1,d,hw,hl,R,hr=>by
  obtain⟨e,r,he⟩:∃e r,d.2=e::r:=by
   cases hq:d.2 with
   |nil=>rw[hq]at hl;simp at hl
   |cons e r=>exact⟨e,r,rfl⟩
  have hc:cf d e.1:=⟨hw,by unfold aL;rw[he];simp⟩;obtain⟨u,w,hu,hwt,_,_⟩:=hc.JA;have hv:(cj d e.1).1.length=d.1.length:=by have:=congrArg List.length hc.ids;simpa using this
  have MN:(cj d e.1).2.length=n:=by
   have h1:=hc.w.pd.length_eq;have h2:=hw.pd.length_eq;have h3:=hc.p.length_eq;have e2:∀l:List an,(ends l).length=2*l.length:=fun l=>by
    induction l with
    |nil=>rfl
    |cons e r ih=>rw[la];simp[ih];omega
   rw[e2]at h1 h2;simp at h3;omega
  by_cases hf:Jy d (e.1,0) (e.1,1)
  ·have h1:=(hc.same hf).1;by_cases k:cI (cj d e.1) u w
   ·obtain⟨g,hg⟩:=P4 n (cj d e.1) hc.w MN R (hc.Cc hu hwt k hr);exact⟨g+1,by omega⟩
   ·obtain⟨R2,h2,h3⟩:=hc.P3 hu hwt k hr;obtain⟨g,hg⟩:=P4 n (cj d e.1) hc.w MN R2 h2;exact⟨g,by omega⟩
  ·have h1:=hc.diff hf;obtain⟨g,hg⟩:=P4 n (cj d e.1) hc.w MN R (hc.Cc hu hwt (hc.AD hu hwt hf) hr);exact⟨g,by omega⟩
def dh(d:ak)(i:Nat):ID:=((d.1[i]?).getD zV).1
theorem o4{d:ak}{i:Nat}{v:ai}(h:d.1[i]? = some v):dh d i=v.1:=by unfold dh;rw[h];rfl
theorem kD{d:ak}(hs:cd d.1){i j:Nat}(hi:i<d.1.length)(hj:j<d.1.length)(h:dh d i=dh d j):i=j:=by have h1:=aa4 hi;have h2:=aa4 hj;rw[o4 h1,o4 h2]at h;rw[kZ hs h1 rfl,kZ hs h2 rfl,h]
theorem Ws{x:ID}:∀{l:List ai} {i:Nat} {v:ai} (k:Int),l[i]? = some v→v.1=x→(∀j u,j<i→l[j]? = some u→u.1≠x)→CJ x l k=k+i
 |w::r,0,v,k,h,hv,_=>by simp at h;subst h;rw[CJ,if_pos hv];simp
 |w::r,i+1,v,k,h,hv,hn=>by have h0:=hn 0 w (by omega) (by simp);rw[CJ,if_neg h0,Ws (i:=i) (v:=v) (k+1) (by simpa using h) hv (fun j u hj hu=>hn (j+1) u (by omega) (by simpa using hu))];omega
theorem Wt{d:ak}(hs:cd d.1){i:Nat}(hi:i<d.1.length):CJ (dh d i) d.1 0=(i:Int):=by have h:=aa4 hi;have:=Ws (x:=dh d i) (l:=d.1) (i:=i) (v:=d.1[i]) 0 h (o4 h).symm (fun j u hj hu he=>by have h1:=kD hs (show j<d.1.length by omega) hi ((o4 hu).trans he);omega);omega
theorem Oj{d:ak}(hw:Wf d){z:ae}(hz:z∈aq d.1):∃i,i<d.1.length∧bJ d z=some (dh d i):=by obtain⟨v,hv,_,h⟩:=tR hw hz;obtain⟨i,hi,he⟩:=ado hv;refine⟨i,hi,?_⟩;rw[h,o4 (List.getElem?_eq_getElem hi),he]
structure JB(d:ak)(L:List Int):Prop where
 n:L.length=d.1.length
 i:∀i,i<d.1.length→∃j:Nat,j≤i∧L.getD i 0=(j:Int)∧cI d (dh d i) (dh d j)
def gQ(d:ak)(L:List Int)(i:Nat):Prop:=∀j,j<d.1.length→cI d (dh d i) (dh d j)→L.getD i 0≤(j:Int)
structure Mb(d:ak)(L:List Int):Prop where
 l:JB d L
 r:∀i,i<d.1.length→gQ d L i
theorem Mc{L:List Int}{a i:Nat}(x:Int):(L.set a x).getD i 0=if a=i∧a<L.length then x else L.getD i 0:=by
 simp only[List.getD];rw[List.getElem?_set];by_cases h:a=i
 ·subst h;by_cases k:a<L.length
  ·simp[k]
  ·simp[k]
 ·simp[h]
def GB(a b:Nat)(L:List Int):List Int:=(L.set a (min (L.getD a 0) (L.getD b 0))).set b (min (L.getD a 0) (L.getD b 0))
theorem Wu{L:List Int}{a b:Nat}(ha:a<L.length)(hb:b<L.length)(i:Nat):(GB a b L).getD i 0=if i=a∨i=b then min (L.getD a 0) (L.getD b 0) else L.getD i 0:=by
 unfold GB;rw[Mc,Mc,List.length_set];by_cases h1:b=i
 ·rw[if_pos ⟨h1,hb⟩,if_pos (.inr h1.symm)]
 ·rw[if_neg (fun k=>h1 k.1)];by_cases h2:a=i
  ·rw[if_pos ⟨h2,ha⟩,if_pos (.inl h2.symm)]
  ·rw[if_neg (fun k=>h2 k.1),if_neg (fun k=>k.elim (fun m=>h2 m.symm) (fun m=>h1 m.symm))]
theorem Sn{d:ak}(hw:Wf d){L:List Int}(h:JB d L){a b:Nat}(ha:a<d.1.length)(hb:b<d.1.length)(mI:cI d (dh d a) (dh d b)):JB d (GB a b L)∧(∀i,i<d.1.length→gQ d L i→gQ d (GB a b L) i)∧(gQ d L a→gQ d (GB a b L) b)∧(gQ d L b→gQ d (GB a b L) a):=by
 have SS:a<L.length:=by rw[h.n];exact ha
 have zN:b<L.length:=by rw[h.n];exact hb
 have gl:=Wu SS zN;obtain⟨ja,a1,a2,a3⟩:=h.i a ha;obtain⟨jb,b1,b2,b3⟩:=h.i b hb;have hba:=mI.symm hw;refine⟨⟨by unfold GB;simp[h.n],fun i hi=>?_⟩,fun i hi hr j hj hc=>?_,fun hr j hj hc=>?_,fun hr j hj hc=>?_⟩
 ·rw[gl];by_cases Ol:i=a∨i=b
  ·rw[if_pos Ol];have conn:cI d (dh d i) (dh d a)∧cI d (dh d i) (dh d b):=by
    rcases Ol with rfl|rfl
    ·exact⟨.refl _,mI⟩
    ·exact⟨hba,.refl _⟩
   by_cases hle:L.getD a 0≤L.getD b 0
   ·refine⟨ja,?_,by rw[←a2];omega,conn.1.trans a3⟩;rcases Ol with rfl|rfl
    ·exact a1
    ·rw[a2,b2]at hle;omega
   ·refine⟨jb,?_,by rw[←b2];omega,conn.2.trans b3⟩;rcases Ol with rfl|rfl
    ·rw[a2,b2]at hle;omega
    ·exact b1
  ·rw[if_neg Ol];exact h.i i hi
 ·rw[gl]
  split
  ·rename_i Ol;have:=hr j hj hc;rcases Ol with rfl|rfl<;>omega
  ·exact hr j hj hc
 ·rw[gl,if_pos (.inr rfl)];have:=hr j hj (mI.trans hc);omega
 ·rw[gl,if_pos (.inl rfl)];have:=hr j hj (hba.trans hc);omega
theorem ab8{d:ak}(hw:Wf d){e:an}(he:e∈d.2)(L:List Int):∃a b,a<d.1.length∧b<d.1.length∧bJ d (e.1,0)=some (dh d a)∧bJ d (e.1,1)=some (dh d b)∧Jl d e L=GB a b L:=by have h0:(e.1,0)∈aq d.1:=hw.pd.mem_iff.2 (cO.2 ⟨e,he,rfl,.inl rfl⟩);have h1:(e.1,1)∈aq d.1:=hw.pd.mem_iff.2 (cO.2 ⟨e,he,rfl,.inr rfl⟩);obtain⟨a,ha,ea⟩:=Oj hw h0;obtain⟨b,hb,eb⟩:=Oj hw h1;refine⟨a,b,ha,hb,ea,eb,?_⟩;unfold Jl GB;rw[ea,eb];simp only[Option.getD_some,Wt hw.sv ha,Wt hw.sv hb,Int.toNat_natCast];rw[if_pos ⟨by omega,by omega⟩]
theorem wW{d:ak}(hw:Wf d):∀(l:List an) {L:List Int},(∀e∈l,e∈d.2)→JB d L→JB d (kJ d l L)∧(∀i,i<d.1.length→gQ d L i→gQ d (kJ d l L) i) ∧(∀e∈l,∀a b,a<d.1.length→b<d.1.length→((bJ d (e.1,0)=some (dh d a)∧bJ d (e.1,1)=some (dh d b))∨(bJ d (e.1,0)=some (dh d b)∧bJ d (e.1,1)=some (dh d a)))→gQ d L a→gQ d (kJ d l L) b)
 |[],L,_,h=>⟨h,fun i hi hr=>hr,fun e he=>by simp at he⟩
 |e::r,L,hl,h=>by
  have he:=hl e (abp ..);obtain⟨a,b,ha,hb,ea,eb,el⟩:=ab8 hw he L;have h0:(e.1,0)∈aq d.1:=hw.pd.mem_iff.2 (cO.2 ⟨e,he,rfl,.inl rfl⟩);have mI:cI d (dh d a) (dh d b):=BO.conn ⟨(e.1,0),h0,ea,by rw[Fm];exact eb⟩;obtain⟨s1,s2,s3,s4⟩:=Sn hw h ha hb mI;obtain⟨t1,t2,t3⟩:=wW hw r (L:=GB a b L) (fun e he=>hl e (aa1 _ he)) s1;show JB d (kJ d r (Jl d e L))∧_∧_;rw[el];refine⟨t1,fun i hi hr=>?_,fun f hf p q hp hq w8 hr=>?_⟩
  ·show gQ d (kJ d r (Jl d e L)) i;rw[el];exact t2 i hi (s2 i hi hr)
  ·show gQ d (kJ d r (Jl d e L)) q;rw[el];rcases abd.1 hf with rfl|hf
   ·refine t2 q hq ?_;rcases w8 with⟨k1,k2⟩|⟨k1,k2⟩
    ·rw[ea]at k1;rw[eb]at k2;have:=kD hw.sv ha hp (aby k1);subst this;have:=kD hw.sv hb hq (aby k2);subst this;exact s3 hr
    ·rw[ea]at k1;rw[eb]at k2;have:=kD hw.sv ha hq (aby k1);subst this;have:=kD hw.sv hb hp (aby k2);subst this;exact s4 hr
   ·exact t3 f hf p q hp hq w8 (s2 p hp hr)
theorem Om{d:ak}(i:Nat)(hi:i<d.1.length):∃m,m<d.1.length∧cI d (dh d i) (dh d m)∧∀j,j<d.1.length→cI d (dh d i) (dh d j)→m≤j:=by
 induction i using Nat.strongRecOn with
 |ind i ih =>
  by_cases h:∃j,j<i∧cI d (dh d i) (dh d j)∧cI d (dh d j) (dh d i)
  ·obtain⟨j,hj,hc,qS⟩:=h;obtain⟨m,h1,h2,h3⟩:=ih j hj (by omega);exact⟨m,h1,hc.trans h2,fun k hk hck=>h3 k hk (qS.trans hck)⟩
  ·by_cases hs:∃j,j<i∧cI d (dh d i) (dh d j)
   ·obtain⟨j,hj,hc⟩:=hs;have key:∀n,n≤i→(∃m,m<n∧cI d (dh d i) (dh d m))→∃m,m<d.1.length∧cI d (dh d i) (dh d m)∧∀j,j<d.1.length→cI d (dh d i) (dh d j)→m≤j:=by
     intro n
     induction n with
     |zero=>rintro _ ⟨m,hm,_⟩;omega
     |succ n ihn =>
      rintro hn ⟨m,hm,RN⟩;by_cases hb:∃m,m<n∧cI d (dh d i) (dh d m)
      ·exact ihn (by omega) hb
      ·have:m=n:=Classical.byContradiction fun k=>hb ⟨m,by omega,RN⟩;subst this;refine⟨m,by omega,RN,fun j hj RP=>Classical.byContradiction fun k=>hb ⟨j,by omega,RP⟩⟩
    exact key i (ack _) ⟨j,hj,hc⟩
   ·refine⟨i,hi,.refl _,fun j hj hc=>Classical.byContradiction fun k=>hs ⟨j,by omega,hc⟩⟩
theorem So{d:ak}(P:ID→Prop){x y:ID}(h:cI d x y)(hx:P x)(hy:¬P y):∃a b,BO d a b∧P a∧¬P b:=by
 induction h with
 |refl=>exact absurd hx hy
 | @tail b c k j ih =>
  by_cases hb:P b
  ·exact⟨_,_,j,hb,hy⟩
  ·exact ih hb
open Classical in
theorem Md{P Q:Nat→Prop}:∀{l:List Nat},(∀i∈l,P i→Q i)→(∃i∈l,Q i∧¬P i)→l.countP (fun i=>decide (P i))<l.countP (fun i=>decide (Q i))
 |[],_,h=>by obtain⟨i,hi,_⟩:=h;simp at hi
 |x::r,h,⟨i,hi,hq,hp⟩=>by
  have mono:r.countP (fun i=>decide (P i))≤r.countP (fun i=>decide (Q i)):=by
   have hr:∀i∈r,P i→Q i:=fun i hi=>h i (aa1 _ hi);clear h hi
   induction r with
   |nil=>simp
   |cons y r ih =>
    rw[List.countP_cons,List.countP_cons];have:=ih (fun i hi=>hr i (aa1 _ hi));have h2:=hr y (abp ..);by_cases hy:P y
    ·simp[hy,h2 hy];exact this
    ·simp[hy];omega
  rw[List.countP_cons,List.countP_cons];rcases abd.1 hi with rfl|hi
  ·simp[hq,hp];omega
  ·have:=Md (l:=r) (fun i hi=>h i (aa1 _ hi)) ⟨i,hi,hq,hp⟩;have hx:=h x (abp ..);by_cases hpx:P x
   ·simp[hpx,hx hpx];exact this
   ·simp[hpx];omega
theorem On{d:ak}(hw:Wf d){L:List Int}(h:JB d L)(hn:∃i,i<d.1.length∧¬gQ d L i):∃i,i<d.1.length∧gQ d (kJ d d.2 L) i∧¬gQ d L i:=by
 obtain⟨i,hi,hr⟩:=hn;obtain⟨m,m1,m2,m3⟩:=Om i hi;have hm:gQ d L m:=fun j hj hc=>by obtain⟨q,q1,q2,_⟩:=h.i m m1;have:=m3 j hj (m2.trans hc);rw[q2];omega
 let P:ID→Prop:=fun x=>∃k,k<d.1.length∧dh d k=x∧gQ d L k
 have hx:P (dh d m):=⟨m,m1,rfl,hm⟩;have hy:¬P (dh d i):=fun⟨k,k1,k2,k3⟩=>by have:=kD hw.sv k1 hi k2;exact hr (this▸k3)
 obtain⟨a,b,⟨z,hz,za,zb⟩,⟨p,p1,p2,p3⟩,hb⟩:=So P (m2.symm hw) hx hy;obtain⟨q,q1,q2⟩:=Oj hw (hw.other hz);rw[zb]at q2;have hbq:b=dh d q:=aby q2;obtain⟨e,he,e1,e2⟩:=cO.1 (hw.pd.mem_iff.1 hz);refine⟨q,q1,?_,fun k=>hb ⟨q,q1,hbq.symm,k⟩⟩;refine(wW hw d.2 (fun _ h=>h) h).2.2 e he p q p1 q1 ?_ p3;rw[p2,←hbq];obtain⟨z1,z2⟩:=z;simp only at e1 e2;subst e1;rcases e2 with rfl|rfl
 ·exact .inl ⟨za,zb⟩
 ·exact .inr ⟨zb,za⟩
open Classical in
theorem Fs{d:ak}(hw:Wf d):∀(n:Nat) {L:List Int},JB d L→d.1.length≤n+(List.range d.1.length).countP (fun i=>decide (gQ d L i))→Mb d (LI d n L)
 |0,L,h,hc=>by
  refine⟨h,fun i hi=>?_⟩;have h1:(List.range d.1.length).countP (fun i=>decide (gQ d L i))=(List.range d.1.length).length:=by have:=adu (p:=fun i=>decide (gQ d L i)) (l:=List.range d.1.length);simp at this ⊢;omega
  have:=List.countP_eq_length.1 h1 i (adb.2 hi);exact of_decide_eq_true this
 |n+1,L,h,hc=>by
  obtain⟨s1,s2,_⟩:=wW hw d.2 (fun _ h=>h) h;show Mb d (LI d n (kJ d d.2 L));refine Fs hw n s1 ?_;by_cases hn:∃i,i<d.1.length∧¬gQ d L i
  ·obtain⟨i,hi,h1,h2⟩:=On hw h hn;have:=Md (P:=gQ d L) (Q:=gQ d (kJ d d.2 L)) (l:=List.range d.1.length) (fun i hi=>s2 i (adb.1 hi)) ⟨i,adb.2 hi,h1,h2⟩;omega
  ·have:(List.range d.1.length).countP (fun i=>decide (gQ d (kJ d d.2 L) i))=(List.range d.1.length).length:=by rw[List.countP_eq_length];intro i hi;have hi:=adb.1 hi;exact decide_eq_true (s2 i hi (Classical.byContradiction fun k=>hn ⟨i,hi,k⟩))
   rw[this];simp
theorem ab9(d:ak):JB d (Gv d.1.length):=by refine⟨by unfold Gv;simp,fun i hi=>⟨i,ack _,?_,.refl _⟩⟩;unfold Gv;simp[List.getD,hi]
theorem fL{d:ak}(hw:Wf d):Mb d (labels d):=Fs hw d.1.length (ab9 d) (by omega)
theorem Mb.uniq{d:ak}(hw:Wf d){L M:List Int}(h:Mb d L)(k:Mb d M):L=M:=by
 apply adl;intro i;by_cases hi:i<d.1.length
 ·have e1:L[i]? = some (L.getD i 0):=by rw[List.getElem?_eq_getElem (by rw[h.l.n];exact hi)];simp[List.getD,h.l.n,hi]
  have e2:M[i]? = some (M.getD i 0):=by rw[List.getElem?_eq_getElem (by rw[k.l.n];exact hi)];simp[List.getD,k.l.n,hi]
  obtain⟨a,a1,a2,a3⟩:=h.l.i i hi;obtain⟨b,b1,b2,b3⟩:=k.l.i i hi;have h1:=h.r i hi b (by omega) b3;have h2:=k.r i hi a (by omega) a3;rw[e1,e2];congr 1;omega
 ·rw[List.getElem?_eq_none (by rw[h.l.n];omega),List.getElem?_eq_none (by rw[k.l.n];omega)]
def my(d:ak)(L:List Int):List ID:=((List.range d.1.length).filter fun i=>decide (L.getD i 0=(i:Int))).map (dh d)
theorem mg{d:ak}(hw:Wf d){L:List Int}(h:Mb d L):pT d (my d L):=by
 have mem:∀{r:ID},r∈my d L↔∃i,i<d.1.length∧L.getD i 0=(i:Int)∧dh d i=r:=fun {r}=>by
  unfold my;rw[List.mem_map];constructor
  ·rintro⟨i,hi,rfl⟩;rw[List.mem_filter,List.mem_range]at hi;exact⟨i,hi.1,by simpa using hi.2,rfl⟩
  ·rintro⟨i,h1,h2,rfl⟩;exact⟨i,by rw[List.mem_filter,List.mem_range];exact⟨h1,by simpa using h2⟩,rfl⟩
 refine⟨?_,fun r hr=>?_,fun r hr s hs hc=>?_,fun v hv=>?_⟩
 ·unfold my List.Nodup;rw[List.pairwise_map];have hp:((List.range d.1.length).filter fun i=>decide (L.getD i 0=(i:Int))).Nodup:=List.nodup_range.filter _;refine List.Pairwise.imp_of_mem (fun {a b} ha hb bq e=>bq ?_) hp;exact kD hw.sv (adb.1 (adg.1 ha).1) (adb.1 (adg.1 hb).1) e
 ·obtain⟨i,hi,_,rfl⟩:=mem.1 hr;exact⟨d.1[i],acm hi,(o4 (aa4 hi)).symm⟩
 ·obtain⟨i,hi,h1,rfl⟩:=mem.1 hr;obtain⟨j,hj,h2,rfl⟩:=mem.1 hs;have k1:=h.r i hi j hj hc;have k2:=h.r j hj i hi (hc.symm hw);have:i=j:=by omega
  rw[this]
 ·obtain⟨i,hi,he⟩:=ado hv;have bR:dh d i=v.1:=by rw[o4 (List.getElem?_eq_getElem hi),he]
  obtain⟨j,j1,j2,j3⟩:=h.l.i i hi;refine⟨dh d j,mem.2 ⟨j,by omega,?_,rfl⟩,by rw[←bR];exact j3⟩;obtain⟨k,k1,k2,k3⟩:=h.l.i j (by omega);have h1:=h.r i hi k (by omega) (j3.trans k3);rw[j2]at h1;rw[k2];have:j=k:=by omega
  rw[this]
theorem AE:∀(l:List Int) (i:Nat) (n:Nat),n+l.length≤1000000→rI l (i:Int) (n:Int)=((n+((List.range l.length).filter fun j=>decide (l.getD j 0=((i+j:Nat):Int))).length:Nat):Int)
 |[],i,n,_=>by simp[rI]
 |x::r,i,n,h=>by
  simp at h;have e:((List.range (x::r).length).filter fun j=>decide ((x::r).getD j 0=((i+j:Nat):Int))).length=(if x=(i:Int) then 1 else 0)+((List.range r.length).filter fun j=>decide (r.getD j 0=((i+1+j:Nat):Int))).length:=by
   rw[List.length_cons,List.range_succ_eq_map,List.filter_cons];have e2:((List.range r.length).map Nat.succ).filter (fun j=>decide ((x::r).getD j 0=((i+j:Nat):Int)))=((List.range r.length).filter fun j=>decide (r.getD j 0=((i+1+j:Nat):Int))).map Nat.succ:=by rw[List.filter_map];congr 1;apply List.filter_congr;intro j _;simp only[Function.comp,Nat.succ_eq_add_one,List.getD_cons_succ];rw[show i+(j+1)=i+1+j by omega]
   rw[e2];simp only[List.getD_cons_zero,Nat.add_zero];by_cases hx:x=(i:Int)
   ·simp[hx];omega
   ·simp[hx]
  rw[e];unfold rI;have hi:((i:Int)+1)=((i+1:Nat):Int):=by omega
  rw[hi];by_cases hx:x=(i:Int)
  ·rw[if_pos hx,if_pos hx];have hw:IntKind.wrap .i64 ((n:Int)+1)=((n+1:Nat):Int):=by rw[wrap_small (by omega) (by omega)];omega
   rw[hw,AE r (i+1) (n+1) (by omega)];congr 1;omega
  ·rw[if_neg hx,if_neg hx,AE r (i+1) n (by omega)];congr 1;omega
theorem uU{d:ak}(hw:Wf d):gh d=((my d (labels d)).length:Int):=by have h:=fL hw;have hn:=hw.nv;unfold gh;have:=AE (labels d) 0 0 (by rw[h.l.n];omega);simp only[Nat.zero_add]at this;have e:rI (labels d) 0 0=rI (labels d) ((0:Nat):Int) ((0:Nat):Int):=rfl;rw[e,this];unfold my;rw[List.length_map,h.l.n]
theorem AF:∀(l:List ai) (n:Nat),n+l.length≤1000000→tI l (n:Int)=((n+al l:Nat):Int)
 |[],n,_=>by simp[tI,al]
 |v::r,n,h=>by
  simp at h;unfold tI al;rw[List.countP_cons];by_cases hv:v.2.1.length=0
  ·have:v.2.1.isEmpty=true:=by rw[List.isEmpty_iff];simpa using hv
   have hw:IntKind.wrap .i64 ((n:Int)+1)=((n+1:Nat):Int):=by rw[wrap_small (by omega) (by omega)];omega
   rw[if_pos hv,hw,AF r (n+1) (by omega),this];unfold al;congr 1;simp;omega
  ·have:v.2.1.isEmpty=false:=by
    cases hq:v.2.1 with
    |nil=>rw[hq]at hv;exact absurd rfl hv
    |cons _ _=>rfl
   rw[if_neg hv,AF r n (by omega),this];unfold al;simp
theorem yJ{d:ak}(hw:Wf d):(b5 d).length≤80:=by
 have h:=bL hw;have h1:=h.p.length_eq;have h2:=hw.L9;have h3:(b5 d).length≤(b5 d).flatten.length:=by
  have hc:=h.c;generalize b5 d=cs at hc
  induction cs with
  |nil=>simp
  |cons c r ih =>have:=ih (fun c hc'=>hc c (aa1 _ hc'));have h1:=(hc c (abp ..)).ne;have:0<c.length:=Nat.pos_of_ne_zero fun k=>h1 (List.length_eq_zero_iff.1 k);simp only[List.length_cons,List.flatten_cons,List.length_append];omega
 omega
theorem Sp{d:ak}(hw:Wf d):EV d=((ft d:Nat):Int):=by unfold EV ft;have:=hw.nv;have:=yJ hw;exact AF d.1 (b5 d).length (by omega)
theorem Ft{d:ak}(hw:Wf d){R:List ID}(hr:pT d R):∃k:Nat,bK d=(k:Int)∧d.1.length+ft d+2*k=2*R.length+d.2.length:=by
 have hl:=(mg hw (fL hw)).len hw hr;obtain⟨k,hk⟩:=P4 d.2.length d hw rfl R hr;refine⟨k,?_,hk⟩;have hn:=hw.nv;have he:=hw.ne;have hf:=yJ hw;have ha:al d.1≤d.1.length:=adu;have hR:R.length≤d.1.length:=by rw[←hl];unfold my;rw[List.length_map];exact acN (ac9 _ _) (by simp)
 have hft:ft d=(b5 d).length+al d.1:=rfl;unfold bK;rw[uU hw,Sp hw,hl];rw[wrap_small (n:=2*((R.length:Nat):Int)) (by omega) (by omega)];rw[wrap_small (n:=2*((R.length:Nat):Int)-((d.1.length:Nat):Int)) (by omega) (by omega)];rw[wrap_small (n:=2*((R.length:Nat):Int)-((d.1.length:Nat):Int)+((d.2.length:Nat):Int)) (by omega) (by omega)];have e:2*((R.length:Nat):Int)-((d.1.length:Nat):Int)+((d.2.length:Nat):Int)-((ft d:Nat):Int)=2*(k:Int):=by omega
 rw[e,wrap_small (n:=2*(k:Int)) (by omega) (by omega)];have e2:Int.tdiv (2*(k:Int)) 2=(k:Int):=by rw[Int.tdiv_eq_ediv_of_nonneg (by omega)];omega
 rw[e2,wrap_small (by omega) (by omega)]
end Go.Vs
