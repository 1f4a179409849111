/- Faces -/
import Derived.Test.YtpkfpbpbkabkdaaGreatSplits
set_option linter.unusedVariables false
set_option linter.unusedSimpArgs false
namespace Go.Cy
variable {α:Type}
def Path(f:α→α):List α→α→Prop
 |[],_=>True
 |x::r,z=>f x=r.head?.getD z∧Path f r z
theorem Path.app{f:α→α}:∀{a b:List α} {z:α},Path f (a++b) z↔Path f a (b.head?.getD z)∧Path f b z
 |[],b,z=>by simp[Path]
 |x::r,b,z=>by
  have ih:=Path.app (f:=f) (a:=r) (b:=b) (z:=z);simp only[List.cons_append,Path];rw[ih];have:(r++b).head?.getD z=r.head?.getD (b.head?.getD z):=by cases r<;>simp
  rw[this,and_assoc]
theorem Path.congr{f g:α→α}:∀{a:List α} {z:α},(∀x∈a,g x=f x)→Path f a z→Path g a z
 |[],_,_,_=>trivial
 |x::r,z,h,p=>⟨(h x (ac9 ..)).trans p.1,Path.congr (fun y hy=>h y (acm _ hy)) p.2⟩
def kq(f:α→α):List α→Prop
 |[]=>False
 |x::r=>Path f (x::r) x
theorem kq.two{f:α→α}{x y:α}{a b:List α}:kq f ((x::a)++(y::b))↔Path f (x::a) y∧Path f (y::b) x:=by show Path f ((x::a)++(y::b)) x↔_;rw[Path.app];rfl
theorem kq.Cr{f:α→α}:∀{a b:List α},kq f (a++b)→kq f (b++a)
 |[],b,h=>by simpa using h
 |x::a,[],h=>by simpa using h
 |x::a,y::b,h=>kq.two.2 ⟨(kq.two.1 h).2,(kq.two.1 h).1⟩
theorem kq.ne{f:α→α}{c:List α}(h:kq f c):c≠[]:=by rintro rfl;exact h
theorem kq.congr{f g:α→α}{c:List α}(h:∀x∈c,g x=f x)(k:kq f c):kq g c:=by
 cases c with
 |nil=>exact k
 |cons x r=>exact Path.congr h k
theorem Path.step{f:α→α}:∀{a:List α} {z x:α},Path f a z→x∈a→f x∈a∨f x=z
 |y::r,z,x,p,hx=>by
  rcases acn.1 hx with rfl|hx
  ·cases r with
   |nil=>exact .inr p.1
   |cons u r=>exact .inl (by have:=p.1;simp at this;rw[this];simp)
  ·rcases Path.step p.2 hx with h|h
   ·exact .inl (acm _ h)
   ·exact .inr h
theorem kq.step{f:α→α}{c:List α}(h:kq f c){x:α}(hx:x∈c):f x∈c:=by
 cases c with
 |nil=>exact h.elim
 |cons y r =>
  rcases Path.step (show Path f (y::r) y from h) hx with k|k
  ·exact k
  ·rw[k];simp
def it(f:α→α):Nat→α→α
 |0,x=>x
 |n+1,x=>it f n (f x)
theorem kq.it{f:α→α}{c:List α}(h:kq f c):∀(n:Nat) {x:α},x∈c→it f n x∈c
 |0,_,hx=>hx
 |n+1,_,hx=>kq.it h n (h.step hx)
theorem Path.reach{f:α→α}:∀{r:List α} {x z:α},Path f (x::r) z→∀y∈x::r,∃n,it f n x=y
 |[],x,z,_,y,hy=>by simp at hy;exact⟨0,hy.symm⟩
 |u::r,x,z,p,y,hy=>by
  rcases acn.1 hy with rfl|hy
  ·exact⟨0,rfl⟩
  ·have h1:f x=u:=p.1;obtain⟨n,hn⟩:=Path.reach p.2 y hy;exact⟨n+1,by show it f n (f x)=y;rw[h1];exact hn⟩
theorem kq.head{f:α→α}{c:List α}(h:kq f c){x:α}(hx:x∈c):∃r,kq f (x::r)∧(x::r).Perm c:=by obtain⟨a,b,rfl⟩:=adA hx;exact⟨b++a,kq.Cr h,adP (l₁:=x::b) (l₂:=a)⟩
theorem kq.reach{f:α→α}{c:List α}(h:kq f c){x y:α}(hx:x∈c)(hy:y∈c):∃n,Cy.it f n x=y:=by obtain⟨r,h1,h2⟩:=h.head hx;exact Path.reach (show Path f (x::r) x from h1) y (h2.mem_iff.2 hy)
theorem kq.same{f:α→α}{c c':List α}(h:kq f c)(h':kq f c'){x:α}(hx:x∈c)(YQ:x∈c'){y:α}(hy:y∈c):y∈c':=by obtain⟨n,hn⟩:=h.reach hx hy;rw[←hn];exact h'.it n YQ
structure FN(f:α→α)(D:List α)(cs:List (List α)):Prop where
 c:∀c∈cs,kq f c
 p:cs.flatten.Perm D
theorem fY(p q:List (List α))(c:List α):(p++c::q).flatten.Perm (c++(p++q).flatten):=by simp only[List.flatten_append,List.flatten_cons];rw[←List.append_assoc,←List.append_assoc];exact adx _ adP
theorem FN.count{f:α→α}:∀{cs cs':List (List α)} {D:List α},D.Nodup→FN f D cs→FN f D cs'→cs.length=cs'.length
 |[],cs',D,hn,h,h'=>by
  have hD:D=[]:=by have:=h.p;simp at this;exact this.symm▸rfl
  subst hD
  cases cs' with
  |nil=>rfl
  |cons c r =>
   have:=h'.p.length_eq;have h1:=(h'.c c (by simp)).ne
   cases c with
   |nil=>exact absurd rfl h1
   |cons x c=>simp at this
 |c::r,cs',D,hn,h,h'=>by
  have hc:=h.c c (by simp);obtain⟨x,c0,rfl⟩:∃x c0,c=x::c0:=by
   cases c with
   |nil=>exact hc.elim
   |cons x c0=>exact⟨x,c0,rfl⟩
  have hx:x∈cs'.flatten:=h'.p.mem_iff.2 (h.p.mem_iff.1 (by simp));obtain⟨c',Yw,abO⟩:=adB.1 hx;obtain⟨p,q,rfl⟩:=adA Yw;have abP:=h'.c c' (by simp);have n1:(x::c0).Nodup:=by have:=h.p.nodup_iff.2 hn;rw[List.flatten_cons]at this;exact(adz.1 this).1
  have n2:c'.Nodup:=by have:=(fY p q c').nodup_iff.1 (h'.p.nodup_iff.2 hn);exact(adz.1 this).1
  have pc:(x::c0).Perm c':=(List.perm_ext_iff_of_nodup n1 n2).2 fun y=>⟨fun hy=>hc.same abP (by simp) abO hy,fun hy=>abP.same hc abO (by simp) hy⟩;have pd:((x::c0)++r.flatten).Perm ((x::c0)++(p++q).flatten):=by
   have e1:((x::c0)++r.flatten).Perm D:=by have:=h.p;rwa [List.flatten_cons]at this
   have e2:(c'++(p++q).flatten).Perm D:=(fY p q c').symm.trans h'.p;exact e1.trans (e2.symm.trans (adx _ pc.symm))
  have pr:=(List.perm_append_left_iff _).1 pd;have Th:r.flatten.Nodup:=by have:=h.p.nodup_iff.2 hn;rw[List.flatten_cons]at this;exact(adz.1 this).2.1
  have ih:=FN.count (cs:=r) (cs':=p++q) (D:=r.flatten) Th ⟨fun c hc=>h.c c (by simp[hc]),adW _⟩ ⟨fun c hc=>h'.c c (by rcases adb.1 hc with k|k<;>simp[k]),pr.symm⟩;simp at ih ⊢;omega
theorem Path.kj{f g:α→α}:∀{a:List α} {z z':α},Path f a z→z∉a.tail→(∀u∈a,f u≠z→g u=f u)→(∀u∈a,f u=z→g u=z')→Path g a z'
 |[],_,_,_,_,_,_=>trivial
 |[x],z,z',p,hz,h1,h2=>⟨h2 x (by simp) p.1,trivial⟩
 |x::y::r,z,z',p,hz,h1,h2=>by have e:f x=y:=p.1;have bq:y≠z:=fun k=>hz (by simp[k]);refine⟨(h1 x (by simp) (by rw[e];exact bq)).trans e,?_⟩;exact Path.kj p.2 (fun k=>hz (acm _ k)) (fun u hu=>h1 u (acm _ hu)) (fun u hu=>h2 u (acm _ hu))
def nz:List α→Nat
 |[]=>0
 |_::_=>1
def kl(l:List α):List (List α):=match l with | []=>[]|x::r=>[x::r]
theorem tH(l:List α):(kl l).flatten=l:=by cases l<;>simp[kl]
theorem D2(l:List α):(kl l).length=nz l:=by cases l<;>rfl
theorem lY{l:List α}{z:α}(h:z∈l.tail):z∈l:=List.mem_of_mem_tail h
section
variable [DecidableEq α]
def vu(f':α→α)(x y:α)(z:α):α :=if f' z=x then(if f' y=y then f' x else f' y) else if f' z=y then(if f' x=x then f' y else f' x) else f' z
theorem FN.Ru{f' f:α→α}{x y:α}{D:List α}{cs':List (List α)}{c:List α}(Te:x≠y)(hn:(x::y::D).Nodup)(h:FN f' (x::y::D) cs')(hf:∀z∈D,f z=vu f' x y z)(hc:c∈cs')(hx:x∈c)(hy:y∈c) :
  ∃cs,FN f D cs∧cs.length+1=cs'.length+(if f' x=y then 0 else 1)+(if f' y=x then 0 else 1):=by
 obtain⟨p,q,rfl⟩:=adA hc;have Yu:=h.c c hc;obtain⟨r,h1,h2⟩:=Yu.head hx;have hyr:y∈r:=by
  rcases acn.1 (h2.mem_iff.2 hy) with k|k
  ·exact absurd k.symm Te
  ·exact k
 obtain⟨B,A,rfl⟩:=adA hyr;have h3:kq f' ((x::B)++(y::A)):=h1;obtain⟨⟨fx,pB⟩,⟨fy,pA⟩⟩:=kq.two.1 h3;have pd:(x::y::(B++A++(p++q).flatten)).Perm (x::y::D):=by refine List.Perm.trans ?_ h.p;refine List.Perm.trans ?_ (fY p q c).symm;refine List.Perm.trans ?_ (adx _ h2);show(x::y::(B++A++(p++q).flatten)).Perm (x::((B++y::A)++(p++q).flatten));refine List.Perm.cons x ?_;rw[List.append_assoc B (y::A),List.cons_append,List.append_assoc];exact adO.symm
 have pD:=(pd.cons_inv).cons_inv;have nd:=pd.nodup_iff.2 hn;have nx:x∉B++A++(p++q).flatten:=fun k=>(adf.1 nd).1 (acm _ k);have ny:y∉B++A++(p++q).flatten:=(adf.1 (adf.1 nd).2).1;have xB:x∉B:=fun k=>nx (by simp[k]);have xA:x∉A:=fun k=>nx (by simp[k]);have yB:y∉B:=fun k=>ny (by simp[k]);have yA:y∉A:=fun k=>ny (by simp[k]);have Rv:∀z∈B++A++(p++q).flatten,z∈D:=fun z hz=>pD.mem_iff.1 hz;have cB:∀c∈kl B,kq f c:=fun c hc=>by
  cases B with
  |nil=>simp[kl]at hc
  |cons b B =>
   have hc:c=b::B:=by simpa[kl] using hc
   subst hc;have fx:f' x=b:=fx;have bx:b≠x:=fun k=>xB (by simp[k]);refine Path.kj pB (fun k=>yB (lY k)) (fun u hu bq=>?_) (fun u hu heq=>?_)
   ·rw[hf u (Rv u (by simp at hu ⊢;rcases hu with k|k<;>simp[k]))];unfold vu;have:f' u≠x:=fun k=>by
     rcases pB.step hu with m|m
     ·exact xB (k▸m)
     ·exact bq m
    rw[if_neg this,if_neg bq]
   ·rw[hf u (Rv u (by simp at hu ⊢;rcases hu with k|k<;>simp[k]))];unfold vu;rw[if_neg (by rw[heq];exact fun k=>Te k.symm),if_pos heq,if_neg (by rw[fx];exact bx),fx]
 have cA:∀c∈kl A,kq f c:=fun c hc=>by
  cases A with
  |nil=>simp[kl]at hc
  |cons a A =>
   have hc:c=a::A:=by simpa[kl] using hc
   subst hc;have fy:f' y=a:=fy;have ay:a≠y:=fun k=>yA (by simp[k]);refine Path.kj pA (fun k=>xA (lY k)) (fun u hu bq=>?_) (fun u hu heq=>?_)
   ·rw[hf u (Rv u (by simp at hu ⊢;rcases hu with k|k<;>simp[k]))];unfold vu;have:f' u≠y:=fun k=>by
     rcases pA.step hu with m|m
     ·exact yA (k▸m)
     ·exact bq m
    rw[if_neg bq,if_neg this]
   ·rw[hf u (Rv u (by simp at hu ⊢;rcases hu with k|k<;>simp[k]))];unfold vu;rw[if_pos heq,if_neg (by rw[fy];exact ay),fy]
 have cR:∀c∈p++q,kq f c:=fun c hc=>by
  have Yw:c∈p++((x::B)++(y::A))::q:=by rcases adb.1 hc with k|k<;>simp[k]
  have BS:kq f' c:=h.c c (by rcases adb.1 hc with k|k<;>simp[k]);refine BS.congr fun z hz=>?_;have hzf:∀u∈c,u∈(p++q).flatten:=fun u hu=>adB.2 ⟨c,hc,hu⟩;have hm:=hzf _ (BS.step hz);rw[hf z (Rv z (List.mem_append_right _ (hzf z hz)))];unfold vu;rw[if_neg (fun k=>nx (List.mem_append_right _ (by rw[←k];exact hm))),if_neg (fun k=>ny (List.mem_append_right _ (by rw[←k];exact hm)))]
 refine⟨kl B++(kl A++(p++q)),⟨fun c hc=>?_,?_⟩,?_⟩
 ·rcases adb.1 hc with k|k
  ·exact cB c k
  rcases adb.1 k with k|k
  ·exact cA c k
  ·exact cR c k
 ·rw[List.flatten_append,List.flatten_append,tH,tH,←List.append_assoc];exact pD
 ·have eB:(if f' x=y then 0 else 1)=nz B:=by
   cases B with
   |nil=>exact if_pos fx
   |cons b B=>exact if_neg (fun k=>yB (by rw[←k,show f' x=b from fx];simp))
  have eA:(if f' y=x then 0 else 1)=nz A:=by
   cases A with
   |nil=>exact if_pos fy
   |cons a A=>exact if_neg (fun k=>xA (by rw[←k,show f' y=a from fy];simp))
  rw[eB,eA];simp only[List.length_append,D2,List.length_cons];omega
theorem FN.Rx{f' f:α→α}{x y:α}{D:List α}{cs':List (List α)}{c:List α}(Te:x≠y)(hn:(x::y::D).Nodup)(h:FN f' (x::y::D) cs')(hf:∀z∈D,f z=vu f' x y z)(hc:c∈cs')(hx:x∈c)(hy:y∉c) :
  ∃cs,FN f D cs∧cs.length+2=cs'.length+(if f' x=x∧f' y=y then 0 else 1):=by
 obtain⟨p,q,rfl⟩:=adA hc;have Yu:=h.c c hc;obtain⟨B,h1,h2⟩:=Yu.head hx;have hyc:y∈(p++q).flatten:=by
  have:y∈(p++c::q).flatten:=h.p.mem_iff.2 (by simp);rcases adb.1 ((fY p q c).mem_iff.1 this) with k|k
  ·exact absurd k hy
  ·exact k
 obtain⟨c2,oa,ahf⟩:=adB.1 hyc;have ahg:c2∈p++c::q:=by rcases adb.1 oa with k|k<;>simp[k]
 obtain⟨A,h3,h4⟩:=(h.c c2 ahg).head ahf;obtain⟨p2,q2,z8⟩:=adA oa;obtain⟨fx,pB⟩:=(show Path f' (x::B) x from h1);obtain⟨fy,pA⟩:=(show Path f' (y::A) y from h3);have pd:(x::y::(B++A++(p2++q2).flatten)).Perm (x::y::D):=by refine List.Perm.trans ?_ h.p;refine List.Perm.trans ?_ (fY p q c).symm;rw[z8];refine List.Perm.trans ?_ (adx _ h2);refine List.Perm.trans ?_ (List.Perm.append_left _ (fY p2 q2 c2).symm);refine List.Perm.trans ?_ (List.Perm.append_left _ (adx _ h4));show(x::y::(B++A++(p2++q2).flatten)).Perm (x::(B++(y::(A++(p2++q2).flatten))));refine List.Perm.cons x ?_;rw[List.append_assoc];exact adO.symm
 have pD:=(pd.cons_inv).cons_inv;have nd:=pd.nodup_iff.2 hn;have nx:x∉B++A++(p2++q2).flatten:=fun k=>(adf.1 nd).1 (acm _ k);have ny:y∉B++A++(p2++q2).flatten:=(adf.1 (adf.1 nd).2).1;have xB:x∉B:=fun k=>nx (by simp[k]);have xA:x∉A:=fun k=>nx (by simp[k]);have yB:y∉B:=fun k=>ny (by simp[k]);have yA:y∉A:=fun k=>ny (by simp[k]);have Rv:∀z∈B++A++(p2++q2).flatten,z∈D:=fun z hz=>pD.mem_iff.1 hz;have nB:∀u∈B,f' u≠x→f u=f' u:=fun u hu bq=>by
  rw[hf u (Rv u (by simp[hu]))];unfold vu;have:f' u≠y:=fun k=>by
   rcases pB.step hu with m|m
   ·exact yB (k▸m)
   ·exact bq m
  rw[if_neg bq,if_neg this]
 have nA:∀u∈A,f' u≠y→f u=f' u:=fun u hu bq=>by
  rw[hf u (Rv u (by simp[hu]))];unfold vu;have:f' u≠x:=fun k=>by
   rcases pA.step hu with m|m
   ·exact xA (k▸m)
   ·exact bq m
  rw[if_neg this,if_neg bq]
 have eB:∀u∈B,f' u=x→f u=if f' y=y then f' x else f' y:=fun u hu heq=>by rw[hf u (Rv u (by simp[hu]))];unfold vu;rw[if_pos heq]
 have eA:∀u∈A,f' u=y→f u=if f' x=x then f' y else f' x:=fun u hu heq=>by rw[hf u (Rv u (by simp[hu]))];unfold vu;rw[if_neg (by rw[heq];exact fun k=>Te k.symm),if_pos heq]
 have cBA:∀c∈kl (B++A),kq f c:=fun c hc=>by
  cases B with
  |nil =>
   cases A with
   |nil=>simp[kl]at hc
   |cons a A =>
    have hc:c=a::A:=by simpa[kl] using hc
    subst hc;refine Path.kj pA (fun k=>yA (lY k)) nA (fun u hu heq=>?_);rw[eA u hu heq,if_pos (show f' x=x from fx)];exact fy
  |cons b B =>
   have fxb:f' x=b:=fx;have bx:b≠x:=fun k=>xB (by simp[k])
   cases A with
   |nil =>
    have hc:c=b::B:=by simpa[kl] using hc
    subst hc;refine Path.kj pB (fun k=>xB (lY k)) nB (fun u hu heq=>?_);rw[eB u hu heq,if_pos (show f' y=y from fy)];exact fxb
   |cons a A =>
    have hc:c=(b::B)++(a::A):=by simpa[kl] using hc
    subst hc;have fya:f' y=a:=fy;have ay:a≠y:=fun k=>yA (by simp[k]);refine kq.two.2 ⟨Path.kj pB (fun k=>xB (lY k)) nB (fun u hu heq=>?_),Path.kj pA (fun k=>yA (lY k)) nA (fun u hu heq=>?_)⟩
    ·rw[eB u hu heq,if_neg (by rw[fya];exact ay)];exact fya
    ·rw[eA u hu heq,if_neg (by rw[fxb];exact bx)];exact fxb
 have cR:∀c∈p2++q2,kq f c:=fun c hc=>by
  have M6:c∈p++q:=by rw[z8];rcases adb.1 hc with k|k<;>simp[k]
  have BS:kq f' c:=h.c c (by rcases adb.1 M6 with k|k<;>simp[k]);refine BS.congr fun z hz=>?_;have hzf:∀u∈c,u∈(p2++q2).flatten:=fun u hu=>adB.2 ⟨c,hc,hu⟩;have hm:=hzf _ (BS.step hz);rw[hf z (Rv z (List.mem_append_right _ (hzf z hz)))];unfold vu;rw[if_neg (fun k=>nx (List.mem_append_right _ (by rw[←k];exact hm))),if_neg (fun k=>ny (List.mem_append_right _ (by rw[←k];exact hm)))]
 refine⟨kl (B++A)++(p2++q2),⟨fun c hc=>?_,?_⟩,?_⟩
 ·rcases adb.1 hc with k|k
  ·exact cBA c k
  ·exact cR c k
 ·rw[List.flatten_append,tH];exact pD
 ·have eBA:(if f' x=x∧f' y=y then 0 else 1)=nz (B++A):=by
   cases B with
   |nil =>
    cases A with
    |nil=>exact if_pos ⟨fx,fy⟩
    |cons a A=>exact if_neg (fun k=>yA (by rw[←k.2,show f' y=a from fy];simp))
   |cons b B=>exact if_neg (fun k=>xB (by rw[←k.1,show f' x=b from fx];simp))
  rw[eBA];have hl:(p++q).length=(p2++c2::q2).length:=by rw[z8]
  simp only[List.length_append,D2,List.length_cons]at hl ⊢;omega
end
end Go.Cy
namespace Go.Vs
open Go.Proofs Go.Cy
def skip(x:ab)(s:ab→ab)(z:ab):ab:=if s z=x then s x else s z
def iE(row:List ab)(x:ab):ab:=(dF row x 1).getD zD
theorem vv{row:List ab}(hn:row.Nodup){i:Nat}{x:ab}(hx:row[i]? = some x):iE row x=(row[(i+1)%row.length]?).getD zD:=by unfold iE dF;rw[if_pos (List.mem_of_getElem? hx),Uc hn hx,Int.toNat_natCast]
theorem D3{row:List ab}(hn:row.Nodup):∀(r p:List ab),row=p++r→Path (iE row) r (row.head?.getD zD)
 |[],_,_=>trivial
 |x::r,p,h=>by
  refine⟨?_,D3 hn r (p++[x]) (by rw[h];simp)⟩;have hx:row[p.length]? = some x:=by rw[h];simp
  rw[vv hn hx]
  cases r with
  |nil =>
   have hl:row.length=p.length+1:=by rw[h];simp
   rw[hl,Nat.mod_self];show(row[0]?).getD zD=row.head?.getD zD;rw[List.head?_eq_getElem?]
  |cons y r =>
   have hl:p.length+1<row.length:=by rw[h];simp
   rw[Nat.mod_eq_of_lt hl];have:row[p.length+1]? = some y:=by rw[h];simp
   rw[this];rfl
theorem BT{row:List ab}(hn:row.Nodup)(h0:row≠[]):kq (iE row) row:=by
 have:=D3 hn row [] rfl
 cases row with
 |nil=>exact absurd rfl h0
 |cons x r=>exact this
theorem BU{f g:ab→ab}:∀{a:List ab} {z:ab},Path f a z→Path g a z→∀x∈a,f x=g x
 |y::r,z,p,q,x,hx=>by
  rcases acn.1 hx with rfl|hx
  ·exact p.1.trans q.1.symm
  ·exact BU p.2 q.2 x hx
theorem ND{f g:ab→ab}{c:List ab}(h:kq f c)(k:kq g c):∀x∈c,f x=g x:=by
 cases c with
 |nil=>exact h.elim
 |cons y r=>exact BU h k
theorem Ry{f:ab→ab}{row:List ab}{j:Nat}(h:kq f (Cr row j)):kq f row:=by
 unfold Cr at h;have:=kq.Cr h
 rwa [List.take_append_drop]at this
theorem nW{row:List ab}(hn:row.Nodup){x:ab}(hx:x∈row):iE row x∈row:=(BT hn (List.ne_nil_of_mem hx)).step hx
theorem D4{f:ab→ab}:∀{a:List ab} {z:ab},Path f a z→a≠[]→∃l,l∈a∧f l=z
 |[x],z,p,_=>⟨x,by simp,p.1⟩
 |x::y::r,z,p,_=>by obtain⟨l,h1,h2⟩:=D4 p.2 (by simp);exact⟨l,acm _ h1,h2⟩
theorem NF{row:List ab}(hn:row.Nodup){x y:ab}(hx:x∈row)(hy:y∈row)(h:iE row x=iE row y):x=y:=by
 obtain⟨i,hi⟩:=adJ hx;obtain⟨j,hj⟩:=adJ hy;have oc:=(ack.1 hi).1;have IN:=(ack.1 hj).1;have hp:0<row.length:=by omega
 rw[vv hn hi,vv hn hj,List.getElem?_eq_getElem (Nat.mod_lt _ hp),List.getElem?_eq_getElem (Nat.mod_lt _ hp)]at h;have h2:(i+1)%row.length=(j+1)%row.length:=D0 hn (by simpa using h);have h3:i=j:=by
  by_cases a:i+1<row.length<;>by_cases b:j+1<row.length
  ·rw[Nat.mod_eq_of_lt a,Nat.mod_eq_of_lt b]at h2;omega
  ·have:j+1=row.length:=by omega
   rw[Nat.mod_eq_of_lt a,this,Nat.mod_self]at h2;omega
  ·have:i+1=row.length:=by omega
   rw[Nat.mod_eq_of_lt b,this,Nat.mod_self]at h2;omega
  ·omega
 subst h3;rw[hi]at hj;exact ada hj
theorem NG{row:List ab}(hn:row.Nodup){x z:ab}(hx:x∈row)(hz:z∈row)(hzx:z≠x):iE (gS row x) z=skip x (iE row) z:=by
 obtain⟨A,B,rfl⟩:=adA hx;obtain⟨k,hk⟩:=adJ hx;have he:(A++x::B).filter (fun e=>decide (e≠x))=A++B:=by
  have hx2:(A++x::B)[A.length]? = some x:=by simp
  rw[wS hn hx2];simp
 have Dh:(x::(B++A)).Nodup:=by have p:(A++x::B).Perm (x::(B++A)):=adO.trans (List.Perm.cons x adP);exact p.nodup_iff.1 hn
 have Cm:z∈B++A:=by
  rcases adb.1 hz with k|k
  ·exact acW _ k
  ·rcases acn.1 k with k|k
   ·exact absurd k hzx
   ·exact acr _ k
 have c1:kq (iE (A++x::B)) (x::(B++A)):=by have:=(BT hn (List.ne_nil_of_mem hx)).Cr;simpa using this
 obtain⟨fx,pL⟩:=(show Path (iE (A++x::B)) (x::(B++A)) x from c1);have c2:kq (skip x (iE (A++x::B))) (B++A):=by
  generalize hL:B++A=L at *
  cases L with
  |nil=>simp at Cm
  |cons l L =>
   have fx:iE (A++x::B) x=l:=fx;have u9:x∉l::L:=(adf.1 Dh).1;refine Path.kj pL (fun k=>u9 (lY k)) (fun u hu bq=>?_) (fun u hu heq=>?_)
   ·unfold skip;rw[if_neg bq]
   ·unfold skip;rw[if_pos heq,fx]
 have hr:gS (A++x::B) x=cI (A++B):=by unfold gS;rw[he]
 obtain⟨j,hj,hjr⟩:=H6 (A++B);have nAB:(A++B).Nodup:=(adP (l₁:=B) (l₂:=A)).nodup_iff.1 (adf.1 Dh).2;have ahj:(gS (A++x::B) x).Nodup:=by rw[hr];exact(nT _).nodup_iff.2 nAB
 have hzm:z∈gS (A++x::B) x:=by
  rw[hr,HI];rcases adb.1 Cm with k|k
  ·exact acW _ k
  ·exact acr _ k
 have c3:kq (iE (gS (A++x::B) x)) (A++B):=by have:=BT ahj (List.ne_nil_of_mem hzm);generalize iE (gS (A++x::B) x)=g at *;rw[hr,hjr]at this;exact Ry this
 exact ND (kq.Cr c3) c2 z Cm
def sg(d:aj)(x:ab):ab:=(nN d x).getD zD
def ph(d:aj)(x:ab):ab:=(HL d x).getD zD
theorem BV{d:aj}(h:Rw d.1){v:ag}{x:ab}(hv:v∈d.1)(hx:x∈v.2.1):nN d x=dF v.2.1 x 1:=by unfold nN cm;rw[jg h hv hx];show dF (bJ d v.1) x 1=_;rw[jI h.s hv]
theorem nX{d:aj}(h:Rw d.1){v:ag}{x:ab}(hv:v∈d.1)(hx:x∈v.2.1):sg d x=iE v.2.1 x:=by unfold sg iE;rw[BV h hv hx]
theorem Kd{d:aj}(h:Rw d.1){x:ab}(hx:x∈ar d.1):nN d x=some (sg d x):=by
 obtain⟨v,hv,kA⟩:=br.1 hx;have:nN d x=some (iE v.2.1 x):=by rw[BV h hv kA];unfold iE dF;rw[if_pos kA];have hp:0<v.2.1.length:=adN kA;rw[List.getElem?_eq_getElem (Nat.mod_lt _ hp)];rfl
 rw[nX h hv kA,this]
theorem Uf{d:aj}(h:Rw d.1){x:ab}(hx:x∈ar d.1):sg d x∈ar d.1:=by obtain⟨v,hv,kA⟩:=br.1 hx;rw[nX h hv kA];exact br.2 ⟨v,hv,nW (h.ring hv) kA⟩
theorem Rz{d:aj}(h:Rw d.1){x y:ab}(hx:x∈ar d.1)(hy:y∈ar d.1)(he:sg d x=sg d y):x=y:=by obtain⟨v,hv,kA⟩:=br.1 hx;obtain⟨w,hw,hyw⟩:=br.1 hy;rw[nX h hv kA,nX h hw hyw]at he;have h1:=nW (h.ring hv) kA;have h2:=nW (h.ring hw) hyw;rw[←he]at h2;have hwv:=h.one hv hw h1 h2;subst hwv;exact NF (h.ring hw) kA hyw he
theorem o4{d:aj}(h:Rw d.1){x z:ab}(hx:x∈ar d.1)(hz:z∈ar (aB d x).1):sg (aB d x) z=skip x (sg d) z:=by
 obtain⟨p,q⟩:=eY h hx;obtain⟨v,hv,kA⟩:=br.1 hx;have hzd:z∈ar d.1:=p.mem_iff.2 (acm _ hz);have hzx:z≠x:=fun k=>(adf.1 (p.nodup_iff.1 h.n)).1 (k▸hz);obtain⟨w,hw,FO⟩:=br.1 hz;have hr:=jJ h hv kA;have Jg:w∈d.1.map (rG v.1 (gS v.2.1 x)):=by rw[hr]at hw;exact hw
 obtain⟨u,hu,Yx⟩:=adq.1 Jg;rw[nX q hw FO];by_cases SP:u.1=v.1
 ·have SP:u=v:=by have h1:=ki h.s hv;have h2:=ki h.s hu;rw[SP,h1]at h2;exact(ada h2).symm
  subst SP;have me:w.2.1=gS u.2.1 x:=by rw[←Yx];unfold rG;rw[if_pos rfl]
  rw[me]at FO ⊢;have Ke:z∈u.2.1:=(rM kA (h.ring hu)).mem_iff.2 (acm _ FO);rw[NG (h.ring hu) kA Ke hzx];unfold skip;rw[nX h hu Ke,nX h hu kA]
 ·have me:w=u:=by rw[←Yx];unfold rG;rw[if_neg SP]
  subst me;unfold skip;rw[nX h hu FO,if_neg];intro k;have:=nW (h.ring hu) FO;rw[k]at this;exact SP (congrArg Prod.fst (h.one hv hu kA this))
theorem H9{d e:aj}(h:d.1=e.1)(x:ab):nN d x=nN e x:=by obtain⟨a,b⟩:=d;obtain⟨c,f⟩:=e;simp only at h;subst h;rfl
theorem kU{x:ab}(h:x.2=0∨x.2=1):ao (ao x)=x:=by obtain⟨x1,x2⟩:=x;simp only at h;rcases h with rfl|rfl<;>rfl
theorem Wf.side{d:aj}(h:Wf d){x:ab}(hx:x∈ar d.1):x.2=0∨x.2=1:=by obtain⟨e,_,_,k⟩:=eJ.1 (h.pd.mem_iff.1 hx);exact k
theorem Wf.other{d:aj}(h:Wf d){x:ab}(hx:x∈ar d.1):ao x∈ar d.1:=by
 obtain⟨e,he,h1,h2⟩:=eJ.1 (h.pd.mem_iff.1 hx);refine h.pd.mem_iff.2 (eJ.2 ⟨e,he,h1,?_⟩);obtain⟨_,k⟩:=iD h2;rcases k with⟨_,k⟩|⟨_,k⟩
 ·exact .inr k
 ·exact .inl k
theorem Ia{d:aj}{x:ab}(hx:x∈ar d.1):(cm d x).isSome=true:=by obtain⟨v,hv,kA⟩:=br.1 hx;unfold cm Fb;rw[Option.isSome_map,List.find?_isSome];exact⟨v,hv,by simpa using kA⟩
theorem mB{d:aj}{x:ab}(hx:x∈ar d.1):ph d x=sg d (ao x):=by unfold ph HL sg;rw[if_pos (Ia hx)]
theorem Ib{d:aj}(h:Wf d){x:ab}(hx:x∈ar d.1):HL d x=some (ph d x):=by rw[mB hx];unfold HL;rw[if_pos (Ia hx)];exact Kd h.rw (h.other hx)
theorem RA{d:aj}(h:Wf d){x:ab}(hx:x∈ar d.1):ph d x∈ar d.1:=by rw[mB hx];exact Uf h.rw (h.other hx)
theorem Xy{d:aj}(h:Wf d){x y:ab}(hx:x∈ar d.1)(hy:y∈ar d.1)(he:ph d x=ph d y):x=y:=by rw[mB hx,mB hy]at he;have:=Rz h.rw (h.other hx) (h.other hy) he;rw[←kU (h.side hx),←kU (h.side hy),this]
theorem Ic{α:Type}[DecidableEq α]:∀{l D:List α},l.Nodup→(∀x∈l,x∈D)→l.length≤D.length
 |[],_,_,_=>adD _
 |x::r,D,hn,hs=>by have h1:=adf.1 hn;have hx:=hs x (ac9 ..);have ih:=Ic (l:=r) (D:=D.erase x) h1.2 (fun y hy=>(ad0 (fun k=>h1.1 (by rw[←k];exact hy))).2 (hs y (acm _ hy)));rw[List.length_erase_of_mem hx]at ih;have:=adN hx;simp;omega
theorem RB{d:aj}(h:Wf d){out:List ab}{y:ab}(hn:out.Nodup)(hs:∀z∈out,z∈ar d.1)(hp:Path (ph d) out y):y∉out.tail:=fun hy=>by
 cases out with
 |nil=>simp at hy
 |cons x r =>
  have hy:y∈r:=hy;obtain⟨p,q,rfl⟩:=adA hy;have key:∀(x:ab) (p:List ab),Path (ph d) (x::(p++y::q)) y→(x::(p++y::q)).Nodup→(∀z∈x::(p++y::q),z∈ar d.1)→False:=by
   intro x p
   induction p generalizing x with
   |nil =>intro hp hn hs;have h1:ph d x=y:=hp.1;obtain⟨l,h2,h3⟩:=D4 hp.2 (by simp);have:=Xy h (hs x (by simp)) (hs l (acm _ h2)) (h1.trans h3.symm);subst this;exact(adf.1 hn).1 h2
   |cons u p ih =>intro hp hn hs;exact ih u hp.2 (adf.1 hn).2 (fun z hz=>hs z (acm _ hz))
  exact key x p hp hn hs
theorem Wf.Ie{d:aj}(h:Wf d):(ar d.1).length≤80:=by
 have h2:=h.pd.length_eq;have h3:=h.ne;have:(ends d.2).length=2*d.2.length:=by
  clear h2 h3 h;generalize d.2=l
  induction l with
  |nil=>rfl
  |cons e r ih=>rw[jH];simp[ih];omega
 omega
theorem BW{d:aj}(h:Wf d)(x:ab):∀(n:Nat) (y:ab) (r:List ab),(x::r).length+n=82→(x::r).Nodup→(∀z∈x::r,z∈ar d.1)→Path (ph d) (x::r) y→y∈ar d.1 → ∃r',qK d x n y (x::r)=x::r'∧(x::r').Nodup∧(∀z∈x::r',z∈ar d.1)∧kq (ph d) (x::r')
 |0,y,r,hl,hn,hs,hp,hy=>by have:=Ic hn hs;have:=h.Ie;omega
 |n+1,y,r,hl,hn,hs,hp,hy=>by
  unfold qK;by_cases he:y=x
  ·subst he;rw[if_pos rfl];exact⟨r,rfl,hn,hs,hp⟩
  ·rw[if_neg he];have hyr:y∉x::r:=fun k=>by
    rcases acn.1 k with k|k
    ·exact he k
    ·exact RB h hn hs hp k
   have e:(HL d y).getD zD=ph d y:=rfl;rw[e];refine BW h x n (ph d y) (r++[y]) (by simp at hl ⊢;omega) ?_ (fun z hz=>?_) ?_ (RA h hy)
   ·show((x::r)++[y]).Nodup;refine adz.2 ⟨hn,by simp,fun a ha b hb=>?_⟩;simp at hb;subst hb;exact fun k=>hyr (k▸ha)
   ·have hz:z∈(x::r)++[y]:=hz;rcases adb.1 hz with k|k
    ·exact hs z k
    ·simp at k;rw[k];exact hy
   ·show Path (ph d) ((x::r)++[y]) (ph d y);exact Path.app.2 ⟨hp,rfl,trivial⟩
theorem BX{d:aj}(h:Wf d){x:ab}(hx:x∈ar d.1):∃r,bh d x=x::r∧(x::r).Nodup∧(∀z∈x::r,z∈ar d.1)∧kq (ph d) (x::r):=by unfold bh;rw[Ib h hx];exact BW h x 81 (ph d x) [] rfl (by simp) (fun z hz=>by simp at hz;rw[hz];exact hx) ⟨rfl,trivial⟩ (RA h hx)
theorem qP{d:aj}(h:Wf d):∀(l:List ab) (out:List (List ab)),(∀x∈l,x∈ar d.1)→(∀c∈out,kq (ph d) c)→out.flatten.Nodup→(∀x∈out.flatten,x∈ar d.1) →(∀c∈g6 d l out out.flatten,kq (ph d) c)∧(g6 d l out out.flatten).flatten.Nodup∧(∀x∈(g6 d l out out.flatten).flatten,x∈ar d.1)∧(∀x,x∈l∨x∈out.flatten→x∈(g6 d l out out.flatten).flatten)
 |[],out,_,h1,h2,h3=>⟨h1,h2,h3,fun x k=>k.resolve_left (by simp)⟩
 |x::l,out,hl,h1,h2,h3=>by
  unfold g6;by_cases hx:x∈out.flatten
  ·rw[if_pos hx];obtain⟨a,b,c,e⟩:=qP h l out (fun y hy=>hl y (acm _ hy)) h1 h2 h3;refine⟨a,b,c,fun y hy=>e y ?_⟩;rcases hy with hy|hy
   ·rcases acn.1 hy with rfl|hy
    ·exact .inr hx
    ·exact .inl hy
   ·exact .inr hy
  ·rw[if_neg hx];obtain⟨r,t1,t2,t3,t4⟩:=BX h (hl x (ac9 ..));have ef:out.flatten++bh d x=(out++[bh d x]).flatten:=by simp
   rw[ef];have ahm:∀y∈bh d x,y∉out.flatten:=fun y hy k=>by obtain⟨c,hc,hyc⟩:=adB.1 k;rw[t1]at hy;exact hx (adB.2 ⟨c,hc,t4.same (h1 c hc) hy hyc (ac9 ..)⟩)
   obtain⟨a,b,c,e⟩:=qP h l (out++[bh d x]) (fun y hy=>hl y (acm _ hy)) (fun c hc=>by
     rcases adb.1 hc with k|k
     ·exact h1 c k
     ·simp at k;rw[k,t1];exact t4)
    (by rw[←ef];refine adz.2 ⟨h2,by rw[t1];exact t2,fun u hu w hw k=>ahm w hw (k▸hu)⟩)
    (fun y hy=>by
     rw[←ef]at hy;rcases adb.1 hy with k|k
     ·exact h3 y k
     ·rw[t1]at k;exact t3 y k)
   refine⟨a,b,c,fun y hy=>e y ?_⟩;rw[←ef];rcases hy with hy|hy
   ·rcases acn.1 hy with rfl|hy
    ·exact .inr (acW _ (by rw[t1];simp))
    ·exact .inl hy
   ·exact .inr (acr _ hy)
theorem kV:∀l:List ah,ep l=ends l
 |[]=>rfl
 |e::r=>by rw[jH,ep,kV r]
theorem b5{d:aj}(h:Wf d):FN (ph d) (ar d.1) (cO d):=by obtain⟨a,b,c,e⟩:=qP h (ep d.2) [] (fun x hx=>h.pd.mem_iff.2 (by rw[←kV];exact hx)) (by simp) (by simp) (by simp);refine⟨a,(List.perm_ext_iff_of_nodup b h.rw.n).2 fun x=>⟨c x,fun hx=>e x (.inl (by rw[kV];exact h.pd.mem_iff.1 hx))⟩⟩
def de(d:aj)(x:ID):aj:=aS (aB (aB d (x,0)) (x,1)) zI x
theorem Kf{d:aj}(h:Wf d)(x y:ab)(e:ID):(aS (aB (aB d x) y) zI e).1=(aB (aB d x) y).1:=vq (jK (jK h.gv x) y)
theorem BY(x:ID):ao (x,0)=(x,1):=rfl
theorem RC(x:ID):ao (x,1)=(x,0):=rfl
structure bT(d':aj)(x:ID):Prop where
 wf:Wf d'
 e:(aV d'.2 x).isSome=true
theorem bT.x0{d':aj}{x:ID}(h:bT d' x):(x,0)∈ar d'.1:=h.wf.mW h.e (.inl rfl)
theorem bT.x1{d':aj}{x:ID}(h:bT d' x):(x,1)∈ar d'.1:=h.wf.mW h.e (.inr rfl)
theorem bT.p1{d':aj}{x:ID}(h:bT d' x):(ar d'.1).Perm ((x,0)::ar (aB d' (x,0)).1)∧Rw (aB d' (x,0)).1:=eY h.wf.rw h.x0
theorem bT.Yy{d':aj}{x:ID}(h:bT d' x):(x,1)∈ar (aB d' (x,0)).1:=by
 rcases acn.1 (h.p1.1.mem_iff.1 h.x1) with k|k
 ·cases k
 ·exact k
theorem bT.p2{d':aj}{x:ID}(h:bT d' x):(ar (aB d' (x,0)).1).Perm ((x,1)::ar (aB (aB d' (x,0)) (x,1)).1)∧Rw (aB (aB d' (x,0)) (x,1)).1:=eY h.p1.2 h.Yy
theorem bT.v{d':aj}{x:ID}(h:bT d' x):(de d' x).1=(aB (aB d' (x,0)) (x,1)).1:=Kf h.wf _ _ _
theorem bT.w{d':aj}{x:ID}(h:bT d' x):Wf (de d' x):=h.wf.cut h.e
theorem bT.p{d':aj}{x:ID}(h:bT d' x):(ar d'.1).Perm ((x,0)::(x,1)::ar (de d' x).1):=by rw[h.v];exact h.p1.1.trans (List.Perm.cons _ h.p2.1)
theorem bT.sg{d':aj}{x:ID}(h:bT d' x){z:ab}(hz:z∈ar (de d' x).1):sg (de d' x) z=skip (x,1) (skip (x,0) (sg d')) z:=by
 have e1:Vs.sg (de d' x) z=Vs.sg (aB (aB d' (x,0)) (x,1)) z:=by unfold Vs.sg;rw[H9 h.v]
 rw[h.v]at hz;have xl:z∈ar (aB d' (x,0)).1:=h.p2.1.mem_iff.2 (acm _ hz);rw[e1,o4 h.p1.2 h.Yy hz];unfold skip;rw[o4 h.wf.rw h.x0 xl,o4 h.wf.rw h.x0 h.Yy];rfl
theorem bT.ph{d':aj}{x:ID}(h:bT d' x){z:ab}(hz:z∈ar (de d' x).1):ph (de d' x) z=vu (ph d') (x,0) (x,1) z:=by
 have NY:z∈ar d'.1:=h.p.mem_iff.2 (acm _ (acm _ hz));have ho:=h.w.other hz;have mO:ao z∈ar d'.1:=h.p.mem_iff.2 (acm _ (acm _ ho));have nd:=h.p.nodup_iff.1 h.wf.rw.n;have Jy:ao z≠(x,1):=fun k=>(adf.1 (adf.1 nd).2).1 (k▸ho);rw[mB hz,h.sg ho];unfold vu;rw[mB NY,mB h.x0,mB h.x1,BY,RC];generalize hW:ao z=w at *;have inj:Vs.sg d' (x,1)=(x,0)→Vs.sg d' w≠(x,0):=fun k1 k2=>Jy (Rz h.wf.rw mO h.x1 (k2.trans k1.symm));unfold skip;by_cases c1:Vs.sg d' w=(x,0)
 ·rw[if_pos c1];by_cases c2:Vs.sg d' (x,0)=(x,1)
  ·rw[if_pos c2,if_pos c2];by_cases c3:Vs.sg d' (x,1)=(x,0)
   ·exact absurd c1 (inj c3)
   ·rw[if_neg c3,if_pos c1]
  ·rw[if_neg c2,if_neg c2,if_pos c1]
 ·rw[if_neg c1];by_cases c2:Vs.sg d' w=(x,1)
  ·rw[if_pos c2,if_neg c1]
  ·rw[if_neg c2,if_neg c1]
def al(l:List ag):Nat:=l.countP fun v=>v.2.1.isEmpty
theorem D5{row:List ab}(hn:row.Nodup){x:ab}(hx:x∈row):iE row x=x↔row.length=1:=by
 obtain⟨i,hi⟩:=adJ hx;have oc:=(ack.1 hi).1;have hp:0<row.length:=by omega
 rw[vv hn hi,List.getElem?_eq_getElem (Nat.mod_lt _ hp)];constructor
 ·intro h;have h1:row[(i+1)%row.length]? = some x:=by rw[List.getElem?_eq_getElem (Nat.mod_lt _ hp)];exact congrArg some (by simpa using h)
  have h2:=D1 hn h1 hi;by_cases c:i+1<row.length
  ·rw[Nat.mod_eq_of_lt c]at h2;omega
  ·have:i+1=row.length:=by omega
   rw[this,Nat.mod_self]at h2;omega
 ·intro h;have h0:i=0:=by omega
  subst h0;have:(0+1)%row.length=0:=by rw[h]
  simp only[this];obtain⟨h1,h2⟩:=ack.1 hi;simpa using h2
theorem BZ{d:aj}(h:Rw d.1){x:ab}(hx:x∈ar d.1):al (aB d x).1=al d.1+if sg d x=x then 1 else 0:=by
 obtain⟨v,hv,kA⟩:=br.1 hx;obtain⟨a,b,h1,_,_,h2⟩:=qN h.s hv;have e1:(aB d x).1=a++(v.1,(gS v.2.1 x,v.2.2))::b:=by rw[jJ h hv kA];exact h2 _
 have p:=rM kA (h.ring hv);have hl:=p.length_eq;have v0:v.2.1.isEmpty=false:=by
  cases hq:v.2.1 with
  |nil=>rw[hq]at kA;simp at kA
  |cons _ _=>rfl
 have v1:(gS v.2.1 x).isEmpty=decide (sg d x=x):=by rw[Bool.eq_iff_iff,List.isEmpty_iff,decide_eq_true_eq,nX h hv kA,D5 (h.ring hv) kA,←List.length_eq_zero_iff];simp at hl;omega
 rw[e1]
 conv=>rhs;rw[h1]
 unfold al;rw[List.countP_append,List.countP_append,List.countP_cons,List.countP_cons];simp only[v0,v1];by_cases c:sg d x=x
 ·simp[c];omega
 ·simp[c]
def ft(d:aj):Nat:=(cO d).length+al d.1
def RD(d:aj)(x y:ab):Prop:=∃c∈cO d,x∈c∧y∈c
theorem bT.al{d':aj}{x:ID}(h:bT d' x):Vs.al (de d' x).1=Vs.al d'.1+(if Vs.ph d' (x,1)=(x,0) then 1 else 0)+(if Vs.ph d' (x,0)=(x,1)∨(Vs.ph d' (x,0)=(x,0)∧Vs.ph d' (x,1)=(x,1)) then 1 else 0):=by
 rw[h.v,BZ h.p1.2 h.Yy,BZ h.wf.rw h.x0];have e0:Vs.ph d' (x,0)=Vs.sg d' (x,1):=mB h.x0;have e1:Vs.ph d' (x,1)=Vs.sg d' (x,0):=mB h.x1;rw[e0,e1,o4 h.wf.rw h.x0 h.Yy];unfold skip;congr 1;by_cases c:Vs.sg d' (x,1)=(x,0)
 ·rw[if_pos c];by_cases k:Vs.sg d' (x,0)=(x,1)
  ·rw[if_pos k,if_pos (.inr ⟨c,k⟩)]
  ·rw[if_neg k,if_neg];rintro(m|⟨_,m⟩)
   ·rw[c]at m;cases m
   ·exact k m
 ·rw[if_neg c];by_cases k:Vs.sg d' (x,1)=(x,1)
  ·rw[if_pos k,if_pos (.inl k)]
  ·rw[if_neg k,if_neg];rintro(m|⟨m,_⟩)
   ·exact k m
   ·exact c m
theorem abS(x:ID):((x,0):ab)≠(x,1):=fun k=>by cases k
theorem bT.same{d':aj}{x:ID}(h:bT d' x)(hf:RD d' (x,0) (x,1)):ft (de d' x)=ft d'+1∧(cO (de d' x)).length+1=(cO d').length+(if Vs.ph d' (x,0)=(x,1) then 0 else 1)+(if Vs.ph d' (x,1)=(x,0) then 0 else 1):=by
 obtain⟨c,hc,h0,h1⟩:=hf;have nd:=h.p.nodup_iff.1 h.wf.rw.n;have dec:FN (Vs.ph d') ((x,0)::(x,1)::ar (de d' x).1) (cO d'):=⟨(b5 h.wf).c,(b5 h.wf).p.trans h.p⟩;obtain⟨cs,k1,k2⟩:=FN.Ru (abS x) nd dec (fun z hz=>h.ph hz) hc h0 h1;have k3:=FN.count (h.w.rw.n) (b5 h.w) k1;have k4:=h.al;have BS:=(b5 h.wf).c c hc;have n0:¬(Vs.ph d' (x,0)=(x,0)):=fun k=>by
  obtain⟨n,hn⟩:=BS.reach h0 h1;have:∀n,it (Vs.ph d') n (x,0)=(x,0):=fun n=>by
   induction n with
   |zero=>rfl
   |succ n ih=>show it (Vs.ph d') n (Vs.ph d' (x,0))=_;rw[k];exact ih
  rw[this]at hn;cases hn
 refine⟨?_,by rw[k3];exact k2⟩;unfold ft;rw[k3,k4];by_cases c0:Vs.ph d' (x,0)=(x,1)
 ·rw[if_pos c0]at k2;rw[if_pos (Or.inl c0)];by_cases c1:Vs.ph d' (x,1)=(x,0)
  ·rw[if_pos c1]at k2 ⊢;omega
  ·rw[if_neg c1]at k2 ⊢;omega
 ·rw[if_neg c0]at k2;rw[if_neg (show ¬(Vs.ph d' (x,0)=(x,1)∨(Vs.ph d' (x,0)=(x,0)∧Vs.ph d' (x,1)=(x,1))) from fun m=>m.elim c0 fun m=>n0 m.1)];by_cases c1:Vs.ph d' (x,1)=(x,0)
  ·rw[if_pos c1]at k2 ⊢;omega
  ·rw[if_neg c1]at k2 ⊢;omega
theorem bT.diff{d':aj}{x:ID}(h:bT d' x)(hf:¬RD d' (x,0) (x,1)):ft (de d' x)+1=ft d':=by
 have hm:(x,0)∈(cO d').flatten:=(b5 h.wf).p.mem_iff.2 h.x0;obtain⟨c,hc,h0⟩:=adB.1 hm;have h1:(x,1)∉c:=fun k=>hf ⟨c,hc,h0,k⟩;have nd:=h.p.nodup_iff.1 h.wf.rw.n;have dec:FN (Vs.ph d') ((x,0)::(x,1)::ar (de d' x).1) (cO d'):=⟨(b5 h.wf).c,(b5 h.wf).p.trans h.p⟩;obtain⟨cs,k1,k2⟩:=FN.Rx (abS x) nd dec (fun z hz=>h.ph hz) hc h0 h1;have k3:=FN.count (h.w.rw.n) (b5 h.w) k1;have k4:=h.al;have BS:=(b5 h.wf).c c hc;have n0:¬(Vs.ph d' (x,0)=(x,1)):=fun k=>h1 (k▸BS.step h0);have n1:¬(Vs.ph d' (x,1)=(x,0)):=fun k=>by have WB:(x,1)∈(cO d').flatten:=(b5 h.wf).p.mem_iff.2 h.x1;obtain⟨c2,oa,h2⟩:=adB.1 WB;have:=((b5 h.wf).c c2 oa).step h2;rw[k]at this;exact hf ⟨c2,oa,this,h2⟩
 unfold ft;rw[k3,k4,if_neg n1];by_cases c:Vs.ph d' (x,0)=(x,0)∧Vs.ph d' (x,1)=(x,1)
 ·rw[if_pos c]at k2;rw[if_pos (.inr c)];omega
 ·rw[if_neg c]at k2;rw[if_neg (fun m=>m.elim n0 c)];omega
def Ig(d:aj)(a b:ID):Prop:=∃z∈ar d.1,cm d z=some a∧cm d (ao z)=some b
inductive cJ (d:aj):ID→ID→Prop
 |refl (a:ID):cJ d a a
 |tail {a b c:ID}:cJ d a b→Ig d b c→cJ d a c
theorem cJ.trans{d:aj}{a b c:ID}(h:cJ d a b)(k:cJ d b c):cJ d a c:=by
 induction k with
 |refl=>exact h
 |tail _ j ih=>exact ih.tail j
theorem Ig.symm{d:aj}(hw:Wf d){a b:ID}(h:Ig d a b):Ig d b a:=by obtain⟨z,hz,h1,h2⟩:=h;exact⟨ao z,hw.other hz,h2,by rw[kU (hw.side hz)];exact h1⟩
theorem Ig.conn{d:aj}{a b:ID}(h:Ig d a b):cJ d a b:=(cJ.refl a).tail h
theorem cJ.symm{d:aj}(hw:Wf d){a b:ID}(h:cJ d a b):cJ d b a:=by
 induction h with
 |refl=>exact .refl _
 |tail _ j ih=>exact(j.symm hw).conn.trans ih
structure vw(d:aj)(R:List ID):Prop where
 n:R.Nodup
 v:∀r∈R,∃v∈d.1,v.1=r
 i:∀r∈R,∀s∈R,cJ d r s→r=s
 c:∀v∈d.1,∃r∈R,cJ d v.1 r
theorem Ft{d:aj}(hw:Wf d):∀{R R':List ID},R.Nodup→(∀r∈R,∀s∈R,cJ d r s→r=s)→(∀r∈R,∃s∈R',cJ d r s)→R.length≤R'.length
 |[],_,_,_,_=>adD _
 |r::R,R',hn,hi,hc=>by obtain⟨s,hs,WA⟩:=hc r (ac9 ..);have h1:=adf.1 hn;have ih:=Ft hw (R:=R) (R':=R'.erase s) h1.2 (fun a ha b hb=>hi a (acm _ ha) b (acm _ hb)) (fun a ha=>by obtain⟨t,ht,xx⟩:=hc a (acm _ ha);refine⟨t,(ad0 (fun k=>?_)).2 ht,xx⟩;subst k;have:=hi a (acm _ ha) r (ac9 ..) (xx.trans (WA.symm hw));exact h1.1 (this▸ha));rw[List.length_erase_of_mem hs]at ih;have:=adN hs;simp;omega
theorem vw.len{d:aj}(hw:Wf d){R R':List ID}(h:vw d R)(h':vw d R'):R.length=R'.length:=by
 refine Nat.le_antisymm (Ft hw h.n h.i fun r hr=>?_) (Ft hw h'.n h'.i fun r hr=>?_)
 ·obtain⟨v,hv,rfl⟩:=h.v r hr;exact h'.c v hv
 ·obtain⟨v,hv,rfl⟩:=h'.v r hr;exact h.c v hv
theorem vx{d:aj}(hw:Wf d){z:ab}(hz:z∈ar d.1):∃v∈d.1,z∈v.2.1∧cm d z=some v.1:=by obtain⟨v,hv,Yz⟩:=br.1 hz;exact⟨v,hv,Yz,jg hw.rw hv Yz⟩
theorem B2{d:aj}(h:Rw d.1){x z:ab}(hx:x∈ar d.1)(hz:z∈ar (aB d x).1):cm (aB d x) z=cm d z:=by
 obtain⟨p,q⟩:=eY h hx;obtain⟨v,hv,kA⟩:=br.1 hx;obtain⟨w,hw,FO⟩:=br.1 hz;have hr:=jJ h hv kA;have Jg:w∈d.1.map (rG v.1 (gS v.2.1 x)):=by rw[hr]at hw;exact hw
 obtain⟨u,hu,Yx⟩:=adq.1 Jg;have bL:w.1=u.1:=by rw[←Yx];exact qM _ _ _
 have Ke:z∈u.2.1:=by
  by_cases SP:u.1=v.1
  ·have SP:u=v:=by have h1:=ki h.s hv;have h2:=ki h.s hu;rw[SP,h1]at h2;exact(ada h2).symm
   subst SP;have me:w.2.1=gS u.2.1 x:=by rw[←Yx];unfold rG;rw[if_pos rfl]
   rw[me]at FO;exact(rM kA (h.ring hu)).mem_iff.2 (acm _ FO)
  ·have me:w=u:=by rw[←Yx];unfold rG;rw[if_neg SP]
   rw[←me];exact FO
 show Fb (aB d x).1 z=Fb d.1 z;rw[jg q hw FO,jg h hu Ke,bL]
theorem bT.at{d':aj}{x:ID}(h:bT d' x){z:ab}(hz:z∈ar (de d' x).1):cm (de d' x) z=cm d' z:=by
 have e:cm (de d' x) z=cm (aB (aB d' (x,0)) (x,1)) z:=by unfold cm;rw[h.v]
 rw[h.v]at hz;have xl:z∈ar (aB d' (x,0)).1:=h.p2.1.mem_iff.2 (acm _ hz);rw[e,B2 h.p1.2 h.Yy hz,B2 h.wf.rw h.x0 xl]
theorem bT.sub{d':aj}{x:ID}(h:bT d' x){z:ab}(hz:z∈ar (de d' x).1):z∈ar d'.1:=h.p.mem_iff.2 (acm _ (acm _ hz))
theorem bT.YA{d':aj}{x:ID}(h:bT d' x){a b:ID}(k:Ig (de d' x) a b):Ig d' a b:=by obtain⟨z,hz,h1,h2⟩:=k;exact⟨z,h.sub hz,by rw[←h.at hz];exact h1,by rw[←h.at (h.w.other hz)];exact h2⟩
theorem bT.conn{d':aj}{x:ID}(h:bT d' x){a b:ID}(k:cJ (de d' x) a b):cJ d' a b:=by
 induction k with
 |refl=>exact .refl _
 |tail _ j ih=>exact ih.tail (h.YA j)
theorem bT.ahn{d':aj}{x u w:ID}(h:bT d' x)(hu:cm d' (x,0)=some u)(hw:cm d' (x,1)=some w){a b:ID}(k:Ig d' a b):Ig (de d' x) a b∨(a=u∧b=w)∨(a=w∧b=u):=by
 obtain⟨z,hz,h1,h2⟩:=k;rcases acn.1 (h.p.mem_iff.1 hz) with rfl|Cm
 ·rw[BY]at h2;rw[hu]at h1;rw[hw]at h2
  cases h1;cases h2
  exact .inr (.inl ⟨rfl,rfl⟩)
 rcases acn.1 Cm with rfl|IK
 ·rw[RC]at h2;rw[hw]at h1;rw[hu]at h2
  cases h1;cases h2
  exact .inr (.inr ⟨rfl,rfl⟩)
 ·exact .inl ⟨z,IK,by rw[h.at IK];exact h1,by rw[h.at (h.w.other IK)];exact h2⟩
theorem bT.RE{d':aj}{x u w:ID}(h:bT d' x)(hu:cm d' (x,0)=some u)(hw:cm d' (x,1)=some w){a b:ID}(k:cJ d' a b) :
  cJ (de d' x) a b∨(cJ (de d' x) a u∧cJ (de d' x) w b)∨(cJ (de d' x) a w∧cJ (de d' x) u b):=by
 induction k with
 |refl=>exact .inl (.refl _)
 |tail _ j ih =>
  rcases h.ahn hu hw j with j|⟨rfl,rfl⟩|⟨rfl,rfl⟩
  ·rcases ih with k|⟨k,m⟩|⟨k,m⟩
   ·exact .inl (k.tail j)
   ·exact .inr (.inl ⟨k,m.tail j⟩)
   ·exact .inr (.inr ⟨k,m.tail j⟩)
  ·rcases ih with k|⟨k,m⟩|⟨k,m⟩
   ·exact .inr (.inl ⟨k,.refl _⟩)
   ·exact .inr (.inl ⟨k,.refl _⟩)
   ·exact .inl k
  ·rcases ih with k|⟨k,m⟩|⟨k,m⟩
   ·exact .inr (.inr ⟨k,.refl _⟩)
   ·exact .inl k
   ·exact .inr (.inr ⟨k,.refl _⟩)
theorem bT.ids{d':aj}{x:ID}(h:bT d' x):(de d' x).1.map (·.1)=d'.1.map (·.1):=by rw[h.v];unfold aB Vs.b8;simp only[List.map_map];refine ad1 fun v hv=>?_;simp only[Function.comp,qM]
theorem bT.Kg{d':aj}{x:ID}(h:bT d' x){r:ID}:(∃v∈(de d' x).1,v.1=r)↔∃v∈d'.1,v.1=r:=by
 have e:∀l:List ag,(∃v∈l,v.1=r)↔r∈l.map (·.1):=fun l=>by rw[List.mem_map]
 rw[e,e,h.ids]
theorem bT.Ug{d':aj}{x u w:ID}(h:bT d' x)(hu:cm d' (x,0)=some u)(hw:cm d' (x,1)=some w)(k:cJ (de d' x) u w){R:List ID}(hr:vw d' R):vw (de d' x) R:=by
 have key:∀{a b:ID},cJ d' a b→cJ (de d' x) a b:=fun {a b} m=>by
  rcases h.RE hu hw m with m|⟨m,q⟩|⟨m,q⟩
  ·exact m
  ·exact(m.trans k).trans q
  ·exact(m.trans (k.symm h.w)).trans q
 refine⟨hr.n,fun r BA=>h.Kg.2 (hr.v r BA),fun r BA s hs m=>hr.i r BA s hs (h.conn m),fun v hv=>?_⟩;obtain⟨v',zU,he⟩:=h.Kg.1 ⟨v,hv,rfl⟩;obtain⟨r,h1,h2⟩:=hr.c v' zU;exact⟨r,h1,by rw[←he];exact key h2⟩
theorem bT.LF{d':aj}{x:ID}(h:bT d' x):∃u w,cm d' (x,0)=some u∧cm d' (x,1)=some w∧(∃v∈d'.1,v.1=u)∧∃v∈d'.1,v.1=w:=by obtain⟨v,hv,_,h1⟩:=vx h.wf h.x0;obtain⟨v2,xg,_,h2⟩:=vx h.wf h.x1;exact⟨v.1,v2.1,h1,h2,⟨v,hv,rfl⟩,⟨v2,xg,rfl⟩⟩
theorem bT.VO{d':aj}{x u w:ID}(h:bT d' x)(hu:cm d' (x,0)=some u)(hw:cm d' (x,1)=some w)(k:¬cJ (de d' x) u w){R:List ID}(hr:vw d' R):∃R2,vw (de d' x) R2∧R2.length=R.length+1:=by
 have uv:∃v∈d'.1,v.1=u:=by obtain⟨v,hv,_,h1⟩:=vx h.wf h.x0;rw[hu]at h1;cases h1;exact⟨v,hv,rfl⟩
 have wv:∃v∈d'.1,v.1=w:=by obtain⟨v,hv,_,h1⟩:=vx h.wf h.x1;rw[hw]at h1;cases h1;exact⟨v,hv,rfl⟩
 have uw:cJ d' u w:=Ig.conn ⟨(x,0),h.x0,hu,by rw[BY];exact hw⟩;obtain⟨v0,Wn,hvu⟩:=uv;obtain⟨r,BA,hur⟩:=hr.c v0 Wn;rw[hvu]at hur;have sep:∀s∈R.erase r,s∈R∧¬cJ d' s u∧¬cJ d' s w:=fun s hs=>by
  have h1:=adY hs;have h2:s≠r:=fun e=>by subst e;exact absurd hs (List.Nodup.not_mem_erase hr.n)
  exact⟨h1,fun m=>h2 (hr.i s h1 r BA (m.trans hur)),fun m=>h2 (hr.i s h1 r BA ((m.trans (uw.symm h.wf)).trans hur))⟩
 refine⟨u::w::R.erase r,⟨?_,?_,?_,?_⟩,?_⟩
 ·refine adf.2 ⟨fun m=>?_,adf.2 ⟨fun m=>(sep w m).2.2 (.refl _),hr.n.erase r⟩⟩;rcases acn.1 m with m|m
  ·exact k (m▸.refl _)
  ·exact(sep u m).2.1 (.refl _)
 ·intro s hs;rcases acn.1 hs with rfl|hs
  ·exact h.Kg.2 ⟨v0,Wn,hvu⟩
  rcases acn.1 hs with rfl|hs
  ·exact h.Kg.2 wv
  ·exact h.Kg.2 (hr.v s (sep s hs).1)
 ·intro a ha b hb m;rcases acn.1 ha with ea|ha
  ·rcases acn.1 hb with eb|hb
   ·rw[ea,eb]
   rcases acn.1 hb with eb|hb
   ·exact absurd (ea▸eb▸m) k
   ·exact absurd ((h.conn (ea▸m)).symm h.wf) (sep b hb).2.1
  rcases acn.1 ha with ea|ha
  ·rcases acn.1 hb with eb|hb
   ·exact absurd ((ea▸eb▸m).symm h.w) k
   rcases acn.1 hb with eb|hb
   ·rw[ea,eb]
   ·exact absurd ((h.conn (ea▸m)).symm h.wf) (sep b hb).2.2
  ·rcases acn.1 hb with eb|hb
   ·exact absurd (eb▸h.conn m) (sep a ha).2.1
   rcases acn.1 hb with eb|hb
   ·exact absurd (eb▸h.conn m) (sep a ha).2.2
   ·exact hr.i a (sep a ha).1 b (sep b hb).1 (h.conn m)
 ·intro v hv;obtain⟨v',zU,he⟩:=h.Kg.1 ⟨v,hv,rfl⟩;obtain⟨s,h1,h2⟩:=hr.c v' zU;rw[he]at h2;by_cases hsr:s=r
  ·subst hsr;rcases h.RE hu hw (h2.trans (hur.symm h.wf)) with m|⟨m,_⟩|⟨m,_⟩
   ·exact⟨u,by simp,m⟩
   ·exact⟨u,by simp,m⟩
   ·exact⟨w,by simp,m⟩
  ·have Wq:s∈R.erase r:=(ad0 hsr).2 h1;rcases h.RE hu hw h2 with m|⟨_,q⟩|⟨_,q⟩
   ·exact⟨s,by simp[Wq],m⟩
   ·exact absurd ((h.conn q).symm h.wf) (sep s Wq).2.2
   ·exact absurd ((h.conn q).symm h.wf) (sep s Wq).2.1
 ·have:=adN BA;simp only[List.length_cons,List.length_erase_of_mem BA];omega
theorem bT.NH{d':aj}{x u w:ID}(h:bT d' x)(hu:cm d' (x,0)=some u)(hw:cm d' (x,1)=some w)(hf:¬RD d' (x,0) (x,1)):cJ (de d' x) u w:=by
 have hm:(x,0)∈(cO d').flatten:=(b5 h.wf).p.mem_iff.2 h.x0;obtain⟨c,hc,h0⟩:=adB.1 hm;have h1:(x,1)∉c:=fun k=>hf ⟨c,hc,h0,k⟩;have BS:=(b5 h.wf).c c hc;obtain⟨B,k1,k2⟩:=BS.head h0;have hcd:∀z∈c,z∈ar d'.1:=fun z hz=>(b5 h.wf).p.mem_iff.1 (adB.2 ⟨c,hc,hz⟩);have cn:c.Nodup:=by obtain⟨p,q,e⟩:=adA hc;have:=(b5 h.wf).p.nodup_iff.2 h.wf.rw.n;rw[e]at this;exact(adz.1 ((fY p q c).nodup_iff.1 this)).1
 have bn:=k2.nodup_iff.2 cn;have abT:∀z∈ar d'.1,cm d' (Vs.ph d' z)=cm d' (ao z):=fun z hz=>by have ho:=h.wf.other hz;obtain⟨v,hv,Yz⟩:=br.1 ho;rw[mB hz,nX h.wf.rw hv Yz];show Fb d'.1 _=Fb d'.1 _;rw[jg h.wf.rw hv (nW (h.wf.rw.ring hv) Yz),jg h.wf.rw hv Yz]
 have inC:∀z∈B,z∈ar (de d' x).1:=fun z hz=>by
  have Ys:z∈c:=k2.mem_iff.1 (acm _ hz);rcases acn.1 (h.p.mem_iff.1 (hcd z Ys)) with e|e
  ·exact absurd (e▸hz) (adf.1 bn).1
  rcases acn.1 e with e|e
  ·exact absurd (e▸Ys) h1
  ·exact e
 have walk:∀(B:List ab) (a e:ID) (z:ab),(∀y∈B,y∈ar (de d' x).1)→Path (Vs.ph d') B z→cm d' z=some e→(∀y,B.head? = some y→cm d' y=some a)→(B=[]→a=e)→cJ (de d' x) a e:=by
  intro B
  induction B with
  |nil=>intro a e z _ _ _ _ h5;rw[h5 rfl];exact .refl _
  |cons y r ih =>
   intro a e z hB hp hz ha _;have hy:=hB y (by simp);have hyd:=h.sub hy;obtain⟨v,hv,SO,xx⟩:=vx h.wf (h.wf.other hyd);have YA:Ig (de d' x) a v.1:=⟨y,hy,by rw[h.at hy];exact ha y rfl,by rw[h.at (h.w.other hy)];exact xx⟩;have iw:cm d' (r.head?.getD z)=some v.1:=by rw[←show Vs.ph d' y=r.head?.getD z from hp.1,abT y hyd];exact xx
   refine YA.conn.trans (ih v.1 e z (fun q hq=>hB q (acm _ hq)) hp.2 hz (fun q hq=>?_) (fun hr=>?_))
   ·rw[hq]at iw;exact iw
   ·subst hr;have:cm d' z=some v.1:=iw;rw[hz]at this;exact(ada this).symm
 obtain⟨fx,pB⟩:=(show Path (Vs.ph d') ((x,0)::B) (x,0) from k1);have Kh:cm d' (B.head?.getD (x,0))=some w:=by rw[←fx,abT _ h.x0,BY];exact hw
 refine(walk B w u (x,0) inC pB hu (fun y hy=>by rw[hy]at Kh;exact Kh) (fun hB=>?_)).symm h.w;subst hB;have:cm d' (x,0)=some w:=Kh;rw[hu]at this;exact(ada this).symm
theorem Ih{d:aj}(h:ar d.1=[]){a b:ID}(k:cJ d a b):a=b:=by
 induction k with
 |refl=>rfl
 |tail _ j _=>obtain⟨z,hz,_⟩:=j;rw[h]at hz;simp at hz
theorem bY.ids{l:List ag}(h:bY l):(l.map (·.1)).Nodup:=by unfold List.Nodup;rw[List.pairwise_map];exact h.imp fun {a b} k e=>by rw[e,b7]at k;cases k
theorem LG:∀(n:Nat) (d:aj),Wf d→d.2.length=n→∀R,vw d R→∃k,d.1.length+ft d+2*k=2*R.length+d.2.length
 |0,d,hw,hl,R,hr=>by
  have he:d.2=[]:=by simpa using hl
  have hd:ar d.1=[]:=by have:=hw.pd;rw[he]at this;exact List.perm_nil.1 this
  have WG:vw d (d.1.map (·.1)):=⟨hw.sv.ids,fun r hr=>by obtain⟨v,hv,rfl⟩:=adq.1 hr;exact⟨v,hv,rfl⟩,fun r _ s _ k=>Ih hd k,fun v hv=>⟨v.1,adq.2 ⟨v,hv,rfl⟩,.refl _⟩⟩;have hlen:=hr.len hw WG;have hf:cO d=[]:=by unfold cO;rw[he];rfl
  have ha:al d.1=d.1.length:=by
   unfold al;rw[List.countP_eq_length];intro v hv;rw[List.isEmpty_iff]
   cases hq:v.2.1 with
   |nil=>rfl
   |cons y r =>have:y∈ar d.1:=br.2 ⟨v,hv,by rw[hq];simp⟩;rw[hd]at this;simp at this
  refine⟨0,?_⟩;unfold ft;rw[hf,ha,hlen,he];simp;omega
 |n+1,d,hw,hl,R,hr=>by
  obtain⟨e,r,he⟩:∃e r,d.2=e::r:=by
   cases hq:d.2 with
   |nil=>rw[hq]at hl;simp at hl
   |cons e r=>exact⟨e,r,rfl⟩
  have hc:bT d e.1:=⟨hw,by unfold aV;rw[he];simp⟩;obtain⟨u,w,hu,hwt,_,_⟩:=hc.LF;have hv:(de d e.1).1.length=d.1.length:=by have:=congrArg List.length hc.ids;simpa using this
  have IL:(de d e.1).2.length=n:=by
   have h1:=hc.w.pd.length_eq;have h2:=hw.pd.length_eq;have h3:=hc.p.length_eq;have e2:∀l:List ah,(ends l).length=2*l.length:=fun l=>by
    induction l with
    |nil=>rfl
    |cons e r ih=>rw[jH];simp[ih];omega
   rw[e2]at h1 h2;simp at h3;omega
  by_cases hf:RD d (e.1,0) (e.1,1)
  ·have h1:=(hc.same hf).1;by_cases k:cJ (de d e.1) u w
   ·obtain⟨g,hg⟩:=LG n (de d e.1) hc.w IL R (hc.Ug hu hwt k hr);exact⟨g+1,by omega⟩
   ·obtain⟨R2,h2,h3⟩:=hc.VO hu hwt k hr;obtain⟨g,hg⟩:=LG n (de d e.1) hc.w IL R2 h2;exact⟨g,by omega⟩
  ·have h1:=hc.diff hf;obtain⟨g,hg⟩:=LG n (de d e.1) hc.w IL R (hc.Ug hu hwt (hc.NH hu hwt hf) hr);exact⟨g,by omega⟩
def cC(d:aj)(i:Nat):ID:=((d.1[i]?).getD zV).1
theorem mC{d:aj}{i:Nat}{v:ag}(h:d.1[i]? = some v):cC d i=v.1:=by unfold cC;rw[h];rfl
theorem jh{d:aj}(hs:bY d.1){i j:Nat}(hi:i<d.1.length)(hj:j<d.1.length)(h:cC d i=cC d j):i=j:=by have h1:=aci hi;have h2:=aci hj;rw[mC h1,mC h2]at h;rw[jF hs h1 rfl,jF hs h2 rfl,h]
theorem RF{x:ID}:∀{l:List ag} {i:Nat} {v:ag} (k:Int),l[i]? = some v→v.1=x→(∀j u,j<i→l[j]? = some u→u.1≠x)→zd x l k=k+i
 |w::r,0,v,k,h,hv,_=>by simp at h;subst h;rw[zd,if_pos hv];simp
 |w::r,i+1,v,k,h,hv,hn=>by have h0:=hn 0 w (by omega) (by simp);rw[zd,if_neg h0,RF (i:=i) (v:=v) (k+1) (by simpa using h) hv (fun j u hj hu=>hn (j+1) u (by omega) (by simpa using hu))];omega
theorem RG{d:aj}(hs:bY d.1){i:Nat}(hi:i<d.1.length):zd (cC d i) d.1 0=(i:Int):=by have h:=aci hi;have:=RF (x:=cC d i) (l:=d.1) (i:=i) (v:=d.1[i]) 0 h (mC h).symm (fun j u hj hu he=>by have h1:=jh hs (show j<d.1.length by omega) hi ((mC hu).trans he);omega);omega
theorem Ki{d:aj}(hw:Wf d){z:ab}(hz:z∈ar d.1):∃i,i<d.1.length∧cm d z=some (cC d i):=by obtain⟨v,hv,_,h⟩:=vx hw hz;obtain⟨i,hi,he⟩:=adM hv;refine⟨i,hi,?_⟩;rw[h,mC (List.getElem?_eq_getElem hi),he]
structure Fu(d:aj)(L:List Int):Prop where
 n:L.length=d.1.length
 i:∀i,i<d.1.length→∃j:Nat,j≤i∧L.getD i 0=(j:Int)∧cJ d (cC d i) (cC d j)
def fj(d:aj)(L:List Int)(i:Nat):Prop:=∀j,j<d.1.length→cJ d (cC d i) (cC d j)→L.getD i 0≤(j:Int)
structure Ii(d:aj)(L:List Int):Prop where
 l:Fu d L
 r:∀i,i<d.1.length→fj d L i
theorem Ij{L:List Int}{a i:Nat}(x:Int):(L.set a x).getD i 0=if a=i∧a<L.length then x else L.getD i 0:=by
 simp only[List.getD];rw[List.getElem?_set];by_cases h:a=i
 ·subst h;by_cases k:a<L.length
  ·simp[k]
  ·simp[k]
 ·simp[h]
def CT(a b:Nat)(L:List Int):List Int:=(L.set a (min (L.getD a 0) (L.getD b 0))).set b (min (L.getD a 0) (L.getD b 0))
theorem RH{L:List Int}{a b:Nat}(ha:a<L.length)(hb:b<L.length)(i:Nat):(CT a b L).getD i 0=if i=a∨i=b then min (L.getD a 0) (L.getD b 0) else L.getD i 0:=by
 unfold CT;rw[Ij,Ij,List.length_set];by_cases h1:b=i
 ·rw[if_pos ⟨h1,hb⟩,if_pos (.inr h1.symm)]
 ·rw[if_neg (fun k=>h1 k.1)];by_cases h2:a=i
  ·rw[if_pos ⟨h2,ha⟩,if_pos (.inl h2.symm)]
  ·rw[if_neg (fun k=>h2 k.1),if_neg (fun k=>k.elim (fun m=>h2 m.symm) (fun m=>h1 m.symm))]
theorem NI{d:aj}(hw:Wf d){L:List Int}(h:Fu d L){a b:Nat}(ha:a<d.1.length)(hb:b<d.1.length)(Cq:cJ d (cC d a) (cC d b)):Fu d (CT a b L)∧(∀i,i<d.1.length→fj d L i→fj d (CT a b L) i)∧(fj d L a→fj d (CT a b L) b)∧(fj d L b→fj d (CT a b L) a):=by
 have N3:a<L.length:=by rw[h.n];exact ha
 have MI:b<L.length:=by rw[h.n];exact hb
 have gl:=RH N3 MI;obtain⟨ja,a1,a2,a3⟩:=h.i a ha;obtain⟨jb,b1,b2,b3⟩:=h.i b hb;have hba:=Cq.symm hw;refine⟨⟨by unfold CT;simp[h.n],fun i hi=>?_⟩,fun i hi hr j hj hc=>?_,fun hr j hj hc=>?_,fun hr j hj hc=>?_⟩
 ·rw[gl];by_cases Kj:i=a∨i=b
  ·rw[if_pos Kj];have conn:cJ d (cC d i) (cC d a)∧cJ d (cC d i) (cC d b):=by
    rcases Kj with rfl|rfl
    ·exact⟨.refl _,Cq⟩
    ·exact⟨hba,.refl _⟩
   by_cases hle:L.getD a 0≤L.getD b 0
   ·refine⟨ja,?_,by rw[←a2];omega,conn.1.trans a3⟩;rcases Kj with rfl|rfl
    ·exact a1
    ·rw[a2,b2]at hle;omega
   ·refine⟨jb,?_,by rw[←b2];omega,conn.2.trans b3⟩;rcases Kj with rfl|rfl
    ·rw[a2,b2]at hle;omega
    ·exact b1
  ·rw[if_neg Kj];exact h.i i hi
 ·rw[gl]
  split
  ·rename_i Kj;have:=hr j hj hc;rcases Kj with rfl|rfl<;>omega
  ·exact hr j hj hc
 ·rw[gl,if_pos (.inr rfl)];have:=hr j hj (Cq.trans hc);omega
 ·rw[gl,if_pos (.inl rfl)];have:=hr j hj (hba.trans hc);omega
theorem Xz{d:aj}(hw:Wf d){e:ah}(he:e∈d.2)(L:List Int):∃a b,a<d.1.length∧b<d.1.length∧cm d (e.1,0)=some (cC d a)∧cm d (e.1,1)=some (cC d b)∧Ff d e L=CT a b L:=by have h0:(e.1,0)∈ar d.1:=hw.pd.mem_iff.2 (eJ.2 ⟨e,he,rfl,.inl rfl⟩);have h1:(e.1,1)∈ar d.1:=hw.pd.mem_iff.2 (eJ.2 ⟨e,he,rfl,.inr rfl⟩);obtain⟨a,ha,ea⟩:=Ki hw h0;obtain⟨b,hb,eb⟩:=Ki hw h1;refine⟨a,b,ha,hb,ea,eb,?_⟩;unfold Ff CT;rw[ea,eb];simp only[Option.getD_some,RG hw.sv ha,RG hw.sv hb,Int.toNat_natCast];rw[if_pos ⟨by omega,by omega⟩]
theorem tI{d:aj}(hw:Wf d):∀(l:List ah) {L:List Int},(∀e∈l,e∈d.2)→Fu d L→Fu d (jq d l L)∧(∀i,i<d.1.length→fj d L i→fj d (jq d l L) i) ∧(∀e∈l,∀a b,a<d.1.length→b<d.1.length→((cm d (e.1,0)=some (cC d a)∧cm d (e.1,1)=some (cC d b))∨(cm d (e.1,0)=some (cC d b)∧cm d (e.1,1)=some (cC d a)))→fj d L a→fj d (jq d l L) b)
 |[],L,_,h=>⟨h,fun i hi hr=>hr,fun e he=>by simp at he⟩
 |e::r,L,hl,h=>by
  have he:=hl e (ac9 ..);obtain⟨a,b,ha,hb,ea,eb,el⟩:=Xz hw he L;have h0:(e.1,0)∈ar d.1:=hw.pd.mem_iff.2 (eJ.2 ⟨e,he,rfl,.inl rfl⟩);have Cq:cJ d (cC d a) (cC d b):=Ig.conn ⟨(e.1,0),h0,ea,by rw[BY];exact eb⟩;obtain⟨s1,s2,s3,s4⟩:=NI hw h ha hb Cq;obtain⟨t1,t2,t3⟩:=tI hw r (L:=CT a b L) (fun e he=>hl e (acm _ he)) s1;show Fu d (jq d r (Ff d e L))∧_∧_;rw[el];refine⟨t1,fun i hi hr=>?_,fun f hf p q hp hq z8 hr=>?_⟩
  ·show fj d (jq d r (Ff d e L)) i;rw[el];exact t2 i hi (s2 i hi hr)
  ·show fj d (jq d r (Ff d e L)) q;rw[el];rcases acn.1 hf with rfl|hf
   ·refine t2 q hq ?_;rcases z8 with⟨k1,k2⟩|⟨k1,k2⟩
    ·rw[ea]at k1;rw[eb]at k2;have:=jh hw.sv ha hp (ada k1);subst this;have:=jh hw.sv hb hq (ada k2);subst this;exact s3 hr
    ·rw[ea]at k1;rw[eb]at k2;have:=jh hw.sv ha hq (ada k1);subst this;have:=jh hw.sv hb hp (ada k2);subst this;exact s4 hr
   ·exact t3 f hf p q hp hq z8 (s2 p hp hr)
theorem Kk{d:aj}(i:Nat)(hi:i<d.1.length):∃m,m<d.1.length∧cJ d (cC d i) (cC d m)∧∀j,j<d.1.length→cJ d (cC d i) (cC d j)→m≤j:=by
 induction i using Nat.strongRecOn with
 |ind i ih =>
  by_cases h:∃j,j<i∧cJ d (cC d i) (cC d j)∧cJ d (cC d j) (cC d i)
  ·obtain⟨j,hj,hc,oa⟩:=h;obtain⟨m,h1,h2,h3⟩:=ih j hj (by omega);exact⟨m,h1,hc.trans h2,fun k hk hck=>h3 k hk (oa.trans hck)⟩
  ·by_cases hs:∃j,j<i∧cJ d (cC d i) (cC d j)
   ·obtain⟨j,hj,hc⟩:=hs;have key:∀n,n≤i→(∃m,m<n∧cJ d (cC d i) (cC d m))→∃m,m<d.1.length∧cJ d (cC d i) (cC d m)∧∀j,j<d.1.length→cJ d (cC d i) (cC d j)→m≤j:=by
     intro n
     induction n with
     |zero=>rintro _ ⟨m,hm,_⟩;omega
     |succ n ihn =>
      rintro hn ⟨m,hm,M6⟩;by_cases hb:∃m,m<n∧cJ d (cC d i) (cC d m)
      ·exact ihn (by omega) hb
      ·have:m=n:=Classical.byContradiction fun k=>hb ⟨m,by omega,M6⟩;subst this;refine⟨m,by omega,M6,fun j hj M8=>Classical.byContradiction fun k=>hb ⟨j,by omega,M8⟩⟩
    exact key i (adg _) ⟨j,hj,hc⟩
   ·refine⟨i,hi,.refl _,fun j hj hc=>Classical.byContradiction fun k=>hs ⟨j,by omega,hc⟩⟩
theorem NJ{d:aj}(P:ID→Prop){x y:ID}(h:cJ d x y)(hx:P x)(hy:¬P y):∃a b,Ig d a b∧P a∧¬P b:=by
 induction h with
 |refl=>exact absurd hx hy
 | @tail b c k j ih =>
  by_cases hb:P b
  ·exact⟨_,_,j,hb,hy⟩
  ·exact ih hb
open Classical in
theorem Ik{P Q:Nat→Prop}:∀{l:List Nat},(∀i∈l,P i→Q i)→(∃i∈l,Q i∧¬P i)→l.countP (fun i=>decide (P i))<l.countP (fun i=>decide (Q i))
 |[],_,h=>by obtain⟨i,hi,_⟩:=h;simp at hi
 |x::r,h,⟨i,hi,hq,hp⟩=>by
  have mono:r.countP (fun i=>decide (P i))≤r.countP (fun i=>decide (Q i)):=by
   have hr:∀i∈r,P i→Q i:=fun i hi=>h i (acm _ hi);clear h hi
   induction r with
   |nil=>simp
   |cons y r ih =>
    rw[List.countP_cons,List.countP_cons];have:=ih (fun i hi=>hr i (acm _ hi));have h2:=hr y (ac9 ..);by_cases hy:P y
    ·simp[hy,h2 hy];exact this
    ·simp[hy];omega
  rw[List.countP_cons,List.countP_cons];rcases acn.1 hi with rfl|hi
  ·simp[hq,hp];omega
  ·have:=Ik (l:=r) (fun i hi=>h i (acm _ hi)) ⟨i,hi,hq,hp⟩;have hx:=h x (ac9 ..);by_cases hpx:P x
   ·simp[hpx,hx hpx];exact this
   ·simp[hpx];omega
theorem Kl{d:aj}(hw:Wf d){L:List Int}(h:Fu d L)(hn:∃i,i<d.1.length∧¬fj d L i):∃i,i<d.1.length∧fj d (jq d d.2 L) i∧¬fj d L i:=by
 obtain⟨i,hi,hr⟩:=hn;obtain⟨m,m1,m2,m3⟩:=Kk i hi;have hm:fj d L m:=fun j hj hc=>by obtain⟨q,q1,q2,_⟩:=h.i m m1;have:=m3 j hj (m2.trans hc);rw[q2];omega
 let P:ID→Prop:=fun x=>∃k,k<d.1.length∧cC d k=x∧fj d L k
 have hx:P (cC d m):=⟨m,m1,rfl,hm⟩;have hy:¬P (cC d i):=fun⟨k,k1,k2,k3⟩=>by have:=jh hw.sv k1 hi k2;exact hr (this▸k3)
 obtain⟨a,b,⟨z,hz,za,zb⟩,⟨p,p1,p2,p3⟩,hb⟩:=NJ P (m2.symm hw) hx hy;obtain⟨q,q1,q2⟩:=Ki hw (hw.other hz);rw[zb]at q2;have hbq:b=cC d q:=ada q2;obtain⟨e,he,e1,e2⟩:=eJ.1 (hw.pd.mem_iff.1 hz);refine⟨q,q1,?_,fun k=>hb ⟨q,q1,hbq.symm,k⟩⟩;refine(tI hw d.2 (fun _ h=>h) h).2.2 e he p q p1 q1 ?_ p3;rw[p2,←hbq];obtain⟨z1,z2⟩:=z;simp only at e1 e2;subst e1;rcases e2 with rfl|rfl
 ·exact .inl ⟨za,zb⟩
 ·exact .inr ⟨zb,za⟩
open Classical in
theorem B3{d:aj}(hw:Wf d):∀(n:Nat) {L:List Int},Fu d L→d.1.length≤n+(List.range d.1.length).countP (fun i=>decide (fj d L i))→Ii d (HM d n L)
 |0,L,h,hc=>by
  refine⟨h,fun i hi=>?_⟩;have h1:(List.range d.1.length).countP (fun i=>decide (fj d L i))=(List.range d.1.length).length:=by have:=adI (p:=fun i=>decide (fj d L i)) (l:=List.range d.1.length);simp at this ⊢;omega
  have:=List.countP_eq_length.1 h1 i (adw.2 hi);exact of_decide_eq_true this
 |n+1,L,h,hc=>by
  obtain⟨s1,s2,_⟩:=tI hw d.2 (fun _ h=>h) h;show Ii d (HM d n (jq d d.2 L));refine B3 hw n s1 ?_;by_cases hn:∃i,i<d.1.length∧¬fj d L i
  ·obtain⟨i,hi,h1,h2⟩:=Kl hw h hn;have:=Ik (P:=fj d L) (Q:=fj d (jq d d.2 L)) (l:=List.range d.1.length) (fun i hi=>s2 i (adw.1 hi)) ⟨i,adw.2 hi,h1,h2⟩;omega
  ·have:(List.range d.1.length).countP (fun i=>decide (fj d (jq d d.2 L) i))=(List.range d.1.length).length:=by rw[List.countP_eq_length];intro i hi;have hi:=adw.1 hi;exact decide_eq_true (s2 i hi (Classical.byContradiction fun k=>hn ⟨i,hi,k⟩))
   rw[this];simp
theorem XA(d:aj):Fu d (CR d.1.length):=by refine⟨by unfold CR;simp,fun i hi=>⟨i,adg _,?_,.refl _⟩⟩;unfold CR;simp[List.getD,hi]
theorem fa{d:aj}(hw:Wf d):Ii d (labels d):=B3 hw d.1.length (XA d) (by omega)
theorem Ii.uniq{d:aj}(hw:Wf d){L M:List Int}(h:Ii d L)(k:Ii d M):L=M:=by
 apply adK;intro i;by_cases hi:i<d.1.length
 ·have e1:L[i]? = some (L.getD i 0):=by rw[List.getElem?_eq_getElem (by rw[h.l.n];exact hi)];simp[List.getD,h.l.n,hi]
  have e2:M[i]? = some (M.getD i 0):=by rw[List.getElem?_eq_getElem (by rw[k.l.n];exact hi)];simp[List.getD,k.l.n,hi]
  obtain⟨a,a1,a2,a3⟩:=h.l.i i hi;obtain⟨b,b1,b2,b3⟩:=k.l.i i hi;have h1:=h.r i hi b (by omega) b3;have h2:=k.r i hi a (by omega) a3;rw[e1,e2];congr 1;omega
 ·rw[List.getElem?_eq_none (by rw[h.l.n];omega),List.getElem?_eq_none (by rw[k.l.n];omega)]
def kB(d:aj)(L:List Int):List ID:=((List.range d.1.length).filter fun i=>decide (L.getD i 0=(i:Int))).map (cC d)
theorem mD{d:aj}(hw:Wf d){L:List Int}(h:Ii d L):vw d (kB d L):=by
 have mem:∀{r:ID},r∈kB d L↔∃i,i<d.1.length∧L.getD i 0=(i:Int)∧cC d i=r:=fun {r}=>by
  unfold kB;rw[List.mem_map];constructor
  ·rintro⟨i,hi,rfl⟩;rw[List.mem_filter,List.mem_range]at hi;exact⟨i,hi.1,by simpa using hi.2,rfl⟩
  ·rintro⟨i,h1,h2,rfl⟩;exact⟨i,by rw[List.mem_filter,List.mem_range];exact⟨h1,by simpa using h2⟩,rfl⟩
 refine⟨?_,fun r hr=>?_,fun r hr s hs hc=>?_,fun v hv=>?_⟩
 ·unfold kB List.Nodup;rw[List.pairwise_map];have hp:((List.range d.1.length).filter fun i=>decide (L.getD i 0=(i:Int))).Nodup:=List.nodup_range.filter _;refine List.Pairwise.imp_of_mem (fun {a b} ha hb bq e=>bq ?_) hp;exact jh hw.sv (adw.1 (adR.1 ha).1) (adw.1 (adR.1 hb).1) e
 ·obtain⟨i,hi,_,rfl⟩:=mem.1 hr;exact⟨d.1[i],adr hi,(mC (aci hi)).symm⟩
 ·obtain⟨i,hi,h1,rfl⟩:=mem.1 hr;obtain⟨j,hj,h2,rfl⟩:=mem.1 hs;have k1:=h.r i hi j hj hc;have k2:=h.r j hj i hi (hc.symm hw);have:i=j:=by omega
  rw[this]
 ·obtain⟨i,hi,he⟩:=adM hv;have bL:cC d i=v.1:=by rw[mC (List.getElem?_eq_getElem hi),he]
  obtain⟨j,j1,j2,j3⟩:=h.l.i i hi;refine⟨cC d j,mem.2 ⟨j,by omega,?_,rfl⟩,by rw[←bL];exact j3⟩;obtain⟨k,k1,k2,k3⟩:=h.l.i j (by omega);have h1:=h.r i hi k (by omega) (j3.trans k3);rw[j2]at h1;rw[k2];have:j=k:=by omega
  rw[this]
theorem wU:∀(l:List Int) (i:Nat) (n:Nat),n+l.length≤1000000→oT l (i:Int) (n:Int)=((n+((List.range l.length).filter fun j=>decide (l.getD j 0=((i+j:Nat):Int))).length:Nat):Int)
 |[],i,n,_=>by simp[oT]
 |x::r,i,n,h=>by
  simp at h;have e:((List.range (x::r).length).filter fun j=>decide ((x::r).getD j 0=((i+j:Nat):Int))).length=(if x=(i:Int) then 1 else 0)+((List.range r.length).filter fun j=>decide (r.getD j 0=((i+1+j:Nat):Int))).length:=by
   rw[List.length_cons,List.range_succ_eq_map,List.filter_cons];have e2:((List.range r.length).map Nat.succ).filter (fun j=>decide ((x::r).getD j 0=((i+j:Nat):Int)))=((List.range r.length).filter fun j=>decide (r.getD j 0=((i+1+j:Nat):Int))).map Nat.succ:=by rw[List.filter_map];congr 1;apply List.filter_congr;intro j _;simp only[Function.comp,Nat.succ_eq_add_one,List.getD_cons_succ];rw[show i+(j+1)=i+1+j by omega]
   rw[e2];simp only[List.getD_cons_zero,Nat.add_zero];by_cases hx:x=(i:Int)
   ·simp[hx];omega
   ·simp[hx]
  rw[e];unfold oT;have hi:((i:Int)+1)=((i+1:Nat):Int):=by omega
  rw[hi];by_cases hx:x=(i:Int)
  ·rw[if_pos hx,if_pos hx];have hw:IntKind.wrap .i64 ((n:Int)+1)=((n+1:Nat):Int):=by rw[wrap_small (by omega) (by omega)];omega
   rw[hw,wU r (i+1) (n+1) (by omega)];congr 1;omega
  ·rw[if_neg hx,if_neg hx,wU r (i+1) n (by omega)];congr 1;omega
theorem rQ{d:aj}(hw:Wf d):eF d=((kB d (labels d)).length:Int):=by have h:=fa hw;have hn:=hw.nv;unfold eF;have:=wU (labels d) 0 0 (by rw[h.l.n];omega);simp only[Nat.zero_add]at this;have e:oT (labels d) 0 0=oT (labels d) ((0:Nat):Int) ((0:Nat):Int):=rfl;rw[e,this];unfold kB;rw[List.length_map,h.l.n]
theorem wV:∀(l:List ag) (n:Nat),n+l.length≤1000000→qL l (n:Int)=((n+al l:Nat):Int)
 |[],n,_=>by simp[qL,al]
 |v::r,n,h=>by
  simp at h;unfold qL al;rw[List.countP_cons];by_cases hv:v.2.1.length=0
  ·have:v.2.1.isEmpty=true:=by rw[List.isEmpty_iff];simpa using hv
   have hw:IntKind.wrap .i64 ((n:Int)+1)=((n+1:Nat):Int):=by rw[wrap_small (by omega) (by omega)];omega
   rw[if_pos hv,hw,wV r (n+1) (by omega),this];unfold al;congr 1;simp;omega
  ·have:v.2.1.isEmpty=false:=by
    cases hq:v.2.1 with
    |nil=>rw[hq]at hv;exact absurd rfl hv
    |cons _ _=>rfl
   rw[if_neg hv,wV r n (by omega),this];unfold al;simp
theorem vz{d:aj}(hw:Wf d):(cO d).length≤80:=by
 have h:=b5 hw;have h1:=h.p.length_eq;have h2:=hw.Ie;have h3:(cO d).length≤(cO d).flatten.length:=by
  have hc:=h.c;generalize cO d=cs at hc
  induction cs with
  |nil=>simp
  |cons c r ih =>have:=ih (fun c Yw=>hc c (acm _ Yw));have h1:=(hc c (ac9 ..)).ne;have:0<c.length:=Nat.pos_of_ne_zero fun k=>h1 (List.length_eq_zero_iff.1 k);simp only[List.length_cons,List.flatten_cons,List.length_append];omega
 omega
theorem NK{d:aj}(hw:Wf d):BB d=((ft d:Nat):Int):=by unfold BB ft;have:=hw.nv;have:=vz hw;exact wV d.1 (cO d).length (by omega)
theorem RI{d:aj}(hw:Wf d){R:List ID}(hr:vw d R):∃k:Nat,jc d=(k:Int)∧d.1.length+ft d+2*k=2*R.length+d.2.length:=by
 have hl:=(mD hw (fa hw)).len hw hr;obtain⟨k,hk⟩:=LG d.2.length d hw rfl R hr;refine⟨k,?_,hk⟩;have hn:=hw.nv;have he:=hw.ne;have hf:=vz hw;have ha:al d.1≤d.1.length:=adI;have hR:R.length≤d.1.length:=by rw[←hl];unfold kB;rw[List.length_map];exact adk (adv _ _) (by simp)
 have Zl:ft d=(cO d).length+al d.1:=rfl;unfold jc;rw[rQ hw,NK hw,hl];rw[wrap_small (n:=2*((R.length:Nat):Int)) (by omega) (by omega)];rw[wrap_small (n:=2*((R.length:Nat):Int)-((d.1.length:Nat):Int)) (by omega) (by omega)];rw[wrap_small (n:=2*((R.length:Nat):Int)-((d.1.length:Nat):Int)+((d.2.length:Nat):Int)) (by omega) (by omega)];have e:2*((R.length:Nat):Int)-((d.1.length:Nat):Int)+((d.2.length:Nat):Int)-((ft d:Nat):Int)=2*(k:Int):=by omega
 rw[e,wrap_small (n:=2*(k:Int)) (by omega) (by omega)];have e2:Int.tdiv (2*(k:Int)) 2=(k:Int):=by rw[Int.tdiv_eq_ediv_of_nonneg (by omega)];omega
 rw[e2,wrap_small (by omega) (by omega)]
end Go.Vs
