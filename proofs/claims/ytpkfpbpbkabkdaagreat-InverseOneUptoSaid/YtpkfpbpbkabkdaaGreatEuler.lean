/- Faces -/
import Derived.Test.YtpkfpbpbkabkdaaGreatSplits
set_option linter.unusedVariables false
namespace Go.Cy
variable {α:Type}
def Path(f:α→α):List α→α→Prop
 |[],_=>True
 |x::r,z=>f x=r.head?.getD z∧Path f r z
theorem Path.app{f:α→α}:∀{a b:List α} {z:α},Path f (a++b) z↔Path f a (b.head?.getD z)∧Path f b z
 |[],b,z=>by simp[Path]
 |x::r,b,z=>by
  have ih:=Path.app (f:=f) (a:=r) (b:=b) (z:=z);simp only[List.cons_append,Path];rw[ih];have:(r++b).head?.getD z=r.head?.getD (b.head?.getD z):=by cases r<;>simp
  rw[this,and_assoc]
theorem Path.congr{f g:α→α}:∀{a:List α} {z:α},(∀x∈a,g x=f x)→Path f a z→Path g a z
 |[],_,_,_=>trivial
 |x::r,z,h,p=>⟨(h x (ac4 ..)).trans p.1,Path.congr (fun y hy=>h y (acm _ hy)) p.2⟩
def kP(f:α→α):List α→Prop
 |[]=>False
 |x::r=>Path f (x::r) x
theorem kP.two{f:α→α}{x y:α}{a b:List α}:kP f ((x::a)++(y::b))↔Path f (x::a) y∧Path f (y::b) x:=by show Path f ((x::a)++(y::b)) x↔_;rw[Path.app];rfl
theorem kP.Dp{f:α→α}:∀{a b:List α},kP f (a++b)→kP f (b++a)
 |[],b,h=>by simpa using h
 |x::a,[],h=>by simpa using h
 |x::a,y::b,h=>kP.two.2 ⟨(kP.two.1 h).2,(kP.two.1 h).1⟩
theorem kP.ne{f:α→α}{c:List α}(h:kP f c):c≠[]:=by rintro rfl;exact h
theorem kP.congr{f g:α→α}{c:List α}(h:∀x∈c,g x=f x)(k:kP f c):kP g c:=by
 cases c with
 |nil=>exact k
 |cons x r=>exact Path.congr h k
theorem Path.step{f:α→α}:∀{a:List α} {z x:α},Path f a z→x∈a→f x∈a∨f x=z
 |y::r,z,x,p,hx=>by
  rcases acp.1 hx with rfl|hx
  ·cases r with
   |nil=>exact .inr p.1
   |cons u r=>exact .inl (by have:=p.1;simp at this;rw[this];simp)
  ·rcases Path.step p.2 hx with h|h
   ·exact .inl (acm _ h)
   ·exact .inr h
theorem kP.step{f:α→α}{c:List α}(h:kP f c){x:α}(hx:x∈c):f x∈c:=by
 cases c with
 |nil=>exact h.elim
 |cons y r =>
  rcases Path.step (show Path f (y::r) y from h) hx with k|k
  ·exact k
  ·rw[k];simp
def it(f:α→α):Nat→α→α
 |0,x=>x
 |n+1,x=>it f n (f x)
theorem kP.it{f:α→α}{c:List α}(h:kP f c):∀(n:Nat) {x:α},x∈c→it f n x∈c
 |0,_,hx=>hx
 |n+1,_,hx=>kP.it h n (h.step hx)
theorem Path.reach{f:α→α}:∀{r:List α} {x z:α},Path f (x::r) z→∀y∈x::r,∃n,it f n x=y
 |[],x,z,_,y,hy=>by simp at hy;exact⟨0,hy.symm⟩
 |u::r,x,z,p,y,hy=>by
  rcases acp.1 hy with rfl|hy
  ·exact⟨0,rfl⟩
  ·have h1:f x=u:=p.1;obtain⟨n,hn⟩:=Path.reach p.2 y hy;exact⟨n+1,by show it f n (f x)=y;rw[h1];exact hn⟩
theorem kP.head{f:α→α}{c:List α}(h:kP f c){x:α}(hx:x∈c):∃r,kP f (x::r)∧(x::r).Perm c:=by obtain⟨a,b,rfl⟩:=aeC hx;exact⟨b++a,kP.Dp h,aeQ (l₁:=x::b) (l₂:=a)⟩
theorem kP.reach{f:α→α}{c:List α}(h:kP f c){x y:α}(hx:x∈c)(hy:y∈c):∃n,Cy.it f n x=y:=by obtain⟨r,h1,h2⟩:=h.head hx;exact Path.reach (show Path f (x::r) x from h1) y (h2.mem_iff.2 hy)
theorem kP.same{f:α→α}{c c':List α}(h:kP f c)(h':kP f c'){x:α}(hx:x∈c)(hx':x∈c'){y:α}(hy:y∈c):y∈c':=by obtain⟨n,hn⟩:=h.reach hx hy;rw[←hn];exact h'.it n hx'
structure G4(f:α→α)(D:List α)(cs:List (List α)):Prop where
 c:∀c∈cs,kP f c
 p:cs.flatten.Perm D
theorem gG(p q:List (List α))(c:List α):(p++c::q).flatten.Perm (c++(p++q).flatten):=by simp only[List.flatten_append,List.flatten_cons];rw[←List.append_assoc,←List.append_assoc];exact aex _ aeQ
theorem G4.count{f:α→α}:∀{cs cs':List (List α)} {D:List α},D.Nodup→G4 f D cs→G4 f D cs'→cs.length=cs'.length
 |[],cs',D,hn,h,h'=>by
  have hD:D=[]:=by have:=h.p;simp at this;exact this.symm▸rfl
  subst hD
  cases cs' with
  |nil=>rfl
  |cons c r =>
   have:=h'.p.length_eq;have h1:=(h'.c c (by simp)).ne
   cases c with
   |nil=>exact absurd rfl h1
   |cons x c=>simp at this
 |c::r,cs',D,hn,h,h'=>by
  have hc:=h.c c (by simp);obtain⟨x,c0,rfl⟩:∃x c0,c=x::c0:=by
   cases c with
   |nil=>exact hc.elim
   |cons x c0=>exact⟨x,c0,rfl⟩
  have hx:x∈cs'.flatten:=h'.p.mem_iff.2 (h.p.mem_iff.1 (by simp));obtain⟨c',ZV,ac6⟩:=aeD.1 hx;obtain⟨p,q,rfl⟩:=aeC ZV;have ac7:=h'.c c' (by simp);have n1:(x::c0).Nodup:=by have:=h.p.nodup_iff.2 hn;rw[List.flatten_cons]at this;exact(aeA.1 this).1
  have n2:c'.Nodup:=by have:=(gG p q c').nodup_iff.1 (h'.p.nodup_iff.2 hn);exact(aeA.1 this).1
  have pc:(x::c0).Perm c':=(List.perm_ext_iff_of_nodup n1 n2).2 fun y=>⟨fun hy=>hc.same ac7 (by simp) ac6 hy,fun hy=>ac7.same hc ac6 (by simp) hy⟩;have pd:((x::c0)++r.flatten).Perm ((x::c0)++(p++q).flatten):=by
   have e1:((x::c0)++r.flatten).Perm D:=by have:=h.p;rwa [List.flatten_cons]at this
   have e2:(c'++(p++q).flatten).Perm D:=(gG p q c').symm.trans h'.p;exact e1.trans (e2.symm.trans (aex _ pc.symm))
  have pr:=(List.perm_append_left_iff _).1 pd;have UP:r.flatten.Nodup:=by have:=h.p.nodup_iff.2 hn;rw[List.flatten_cons]at this;exact(aeA.1 this).2.1
  have ih:=G4.count (cs:=r) (cs':=p++q) (D:=r.flatten) UP ⟨fun c hc=>h.c c (by simp[hc]),aeW _⟩ ⟨fun c hc=>h'.c c (by rcases ac8.1 hc with k|k<;>simp[k]),pr.symm⟩;simp at ih ⊢;omega
theorem Path.kM{f g:α→α}:∀{a:List α} {z z':α},Path f a z→z∉a.tail→(∀u∈a,f u≠z→g u=f u)→(∀u∈a,f u=z→g u=z')→Path g a z'
 |[],_,_,_,_,_,_=>trivial
 |[x],z,z',p,hz,h1,h2=>⟨h2 x (by simp) p.1,trivial⟩
 |x::y::r,z,z',p,hz,h1,h2=>by have e:f x=y:=p.1;have bw:y≠z:=fun k=>hz (by simp[k]);refine⟨(h1 x (by simp) (by rw[e];exact bw)).trans e,?_⟩;exact Path.kM p.2 (fun k=>hz (acm _ k)) (fun u hu=>h1 u (acm _ hu)) (fun u hu=>h2 u (acm _ hu))
def nz:List α→Nat
 |[]=>0
 |_::_=>1
def kN(l:List α):List (List α):=match l with | []=>[]|x::r=>[x::r]
theorem uC(l:List α):(kN l).flatten=l:=by cases l<;>simp[kN]
theorem EZ(l:List α):(kN l).length=nz l:=by cases l<;>rfl
theorem mB{l:List α}{z:α}(h:z∈l.tail):z∈l:=List.mem_of_mem_tail h
section
variable [DecidableEq α]
def wg(f':α→α)(x y:α)(z:α):α :=if f' z=x then(if f' y=y then f' x else f' y) else if f' z=y then(if f' x=x then f' y else f' x) else f' z
theorem G4.S8{f' f:α→α}{x y:α}{D:List α}{cs':List (List α)}{c:List α}(UM:x≠y)(hn:(x::y::D).Nodup)(h:G4 f' (x::y::D) cs')(hf:∀z∈D,f z=wg f' x y z)(hc:c∈cs')(hx:x∈c)(hy:y∈c) :
  ∃cs,G4 f D cs∧cs.length+1=cs'.length+(if f' x=y then 0 else 1)+(if f' y=x then 0 else 1):=by
 obtain⟨p,q,rfl⟩:=aeC hc;have ZT:=h.c c hc;obtain⟨r,h1,h2⟩:=ZT.head hx;have hyr:y∈r:=by
  rcases acp.1 (h2.mem_iff.2 hy) with k|k
  ·exact absurd k.symm UM
  ·exact k
 obtain⟨B,A,rfl⟩:=aeC hyr;have h3:kP f' ((x::B)++(y::A)):=h1;obtain⟨⟨fx,pB⟩,⟨fy,pA⟩⟩:=kP.two.1 h3;have pd:(x::y::(B++A++(p++q).flatten)).Perm (x::y::D):=by refine List.Perm.trans ?_ h.p;refine List.Perm.trans ?_ (gG p q c).symm;refine List.Perm.trans ?_ (aex _ h2);show(x::y::(B++A++(p++q).flatten)).Perm (x::((B++y::A)++(p++q).flatten));refine List.Perm.cons x ?_;rw[List.append_assoc B (y::A),List.cons_append,List.append_assoc];exact aeP.symm
 have pD:=(pd.cons_inv).cons_inv;have nd:=pd.nodup_iff.2 hn;have nx:x∉B++A++(p++q).flatten:=fun k=>(adi.1 nd).1 (acm _ k);have ny:y∉B++A++(p++q).flatten:=(adi.1 (adi.1 nd).2).1;have xB:x∉B:=fun k=>nx (by simp[k]);have xA:x∉A:=fun k=>nx (by simp[k]);have yB:y∉B:=fun k=>ny (by simp[k]);have yA:y∉A:=fun k=>ny (by simp[k]);have Ta:∀z∈B++A++(p++q).flatten,z∈D:=fun z hz=>pD.mem_iff.1 hz;have cB:∀c∈kN B,kP f c:=fun c hc=>by
  cases B with
  |nil=>simp[kN]at hc
  |cons b B =>
   have hc:c=b::B:=by simpa[kN] using hc
   subst hc;have fx:f' x=b:=fx;have bx:b≠x:=fun k=>xB (by simp[k]);refine Path.kM pB (fun k=>yB (mB k)) (fun u hu bw=>?_) (fun u hu heq=>?_)
   ·rw[hf u (Ta u (by simp at hu ⊢;rcases hu with k|k<;>simp[k]))];unfold wg;have:f' u≠x:=fun k=>by
     rcases pB.step hu with m|m
     ·exact xB (k▸m)
     ·exact bw m
    rw[if_neg this,if_neg bw]
   ·rw[hf u (Ta u (by simp at hu ⊢;rcases hu with k|k<;>simp[k]))];unfold wg;rw[if_neg (by rw[heq];exact fun k=>UM k.symm),if_pos heq,if_neg (by rw[fx];exact bx),fx]
 have cA:∀c∈kN A,kP f c:=fun c hc=>by
  cases A with
  |nil=>simp[kN]at hc
  |cons a A =>
   have hc:c=a::A:=by simpa[kN] using hc
   subst hc;have fy:f' y=a:=fy;have ay:a≠y:=fun k=>yA (by simp[k]);refine Path.kM pA (fun k=>xA (mB k)) (fun u hu bw=>?_) (fun u hu heq=>?_)
   ·rw[hf u (Ta u (by simp at hu ⊢;rcases hu with k|k<;>simp[k]))];unfold wg;have:f' u≠y:=fun k=>by
     rcases pA.step hu with m|m
     ·exact yA (k▸m)
     ·exact bw m
    rw[if_neg bw,if_neg this]
   ·rw[hf u (Ta u (by simp at hu ⊢;rcases hu with k|k<;>simp[k]))];unfold wg;rw[if_pos heq,if_neg (by rw[fy];exact ay),fy]
 have cR:∀c∈p++q,kP f c:=fun c hc=>by
  have ZV:c∈p++((x::B)++(y::A))::q:=by rcases ac8.1 hc with k|k<;>simp[k]
  have CP:kP f' c:=h.c c (by rcases ac8.1 hc with k|k<;>simp[k]);refine CP.congr fun z hz=>?_;have hzf:∀u∈c,u∈(p++q).flatten:=fun u hu=>aeD.2 ⟨c,hc,hu⟩;have hm:=hzf _ (CP.step hz);rw[hf z (Ta z (List.mem_append_right _ (hzf z hz)))];unfold wg;rw[if_neg (fun k=>nx (List.mem_append_right _ (by rw[←k];exact hm))),if_neg (fun k=>ny (List.mem_append_right _ (by rw[←k];exact hm)))]
 refine⟨kN B++(kN A++(p++q)),⟨fun c hc=>?_,?_⟩,?_⟩
 ·rcases ac8.1 hc with k|k
  ·exact cB c k
  rcases ac8.1 k with k|k
  ·exact cA c k
  ·exact cR c k
 ·rw[List.flatten_append,List.flatten_append,uC,uC,←List.append_assoc];exact pD
 ·have eB:(if f' x=y then 0 else 1)=nz B:=by
   cases B with
   |nil=>exact if_pos fx
   |cons b B=>exact if_neg (fun k=>yB (by rw[←k,show f' x=b from fx];simp))
  have eA:(if f' y=x then 0 else 1)=nz A:=by
   cases A with
   |nil=>exact if_pos fy
   |cons a A=>exact if_neg (fun k=>xA (by rw[←k,show f' y=a from fy];simp))
  rw[eB,eA];simp only[List.length_append,EZ,List.length_cons];omega
theorem G4.Tb{f' f:α→α}{x y:α}{D:List α}{cs':List (List α)}{c:List α}(UM:x≠y)(hn:(x::y::D).Nodup)(h:G4 f' (x::y::D) cs')(hf:∀z∈D,f z=wg f' x y z)(hc:c∈cs')(hx:x∈c)(hy:y∉c) :
  ∃cs,G4 f D cs∧cs.length+2=cs'.length+(if f' x=x∧f' y=y then 0 else 1):=by
 obtain⟨p,q,rfl⟩:=aeC hc;have ZT:=h.c c hc;obtain⟨B,h1,h2⟩:=ZT.head hx;have hyc:y∈(p++q).flatten:=by
  have:y∈(p++c::q).flatten:=h.p.mem_iff.2 (by simp);rcases ac8.1 ((gG p q c).mem_iff.1 this) with k|k
  ·exact absurd k hy
  ·exact k
 obtain⟨c2,oY,aiD⟩:=aeD.1 hyc;have aiE:c2∈p++c::q:=by rcases ac8.1 oY with k|k<;>simp[k]
 obtain⟨A,h3,h4⟩:=(h.c c2 aiE).head aiD;obtain⟨p2,q2,A5⟩:=aeC oY;obtain⟨fx,pB⟩:=(show Path f' (x::B) x from h1);obtain⟨fy,pA⟩:=(show Path f' (y::A) y from h3);have pd:(x::y::(B++A++(p2++q2).flatten)).Perm (x::y::D):=by refine List.Perm.trans ?_ h.p;refine List.Perm.trans ?_ (gG p q c).symm;rw[A5];refine List.Perm.trans ?_ (aex _ h2);refine List.Perm.trans ?_ (List.Perm.append_left _ (gG p2 q2 c2).symm);refine List.Perm.trans ?_ (List.Perm.append_left _ (aex _ h4));show(x::y::(B++A++(p2++q2).flatten)).Perm (x::(B++(y::(A++(p2++q2).flatten))));refine List.Perm.cons x ?_;rw[List.append_assoc];exact aeP.symm
 have pD:=(pd.cons_inv).cons_inv;have nd:=pd.nodup_iff.2 hn;have nx:x∉B++A++(p2++q2).flatten:=fun k=>(adi.1 nd).1 (acm _ k);have ny:y∉B++A++(p2++q2).flatten:=(adi.1 (adi.1 nd).2).1;have xB:x∉B:=fun k=>nx (by simp[k]);have xA:x∉A:=fun k=>nx (by simp[k]);have yB:y∉B:=fun k=>ny (by simp[k]);have yA:y∉A:=fun k=>ny (by simp[k]);have Ta:∀z∈B++A++(p2++q2).flatten,z∈D:=fun z hz=>pD.mem_iff.1 hz;have nB:∀u∈B,f' u≠x→f u=f' u:=fun u hu bw=>by
  rw[hf u (Ta u (by simp[hu]))];unfold wg;have:f' u≠y:=fun k=>by
   rcases pB.step hu with m|m
   ·exact yB (k▸m)
   ·exact bw m
  rw[if_neg bw,if_neg this]
 have nA:∀u∈A,f' u≠y→f u=f' u:=fun u hu bw=>by
  rw[hf u (Ta u (by simp[hu]))];unfold wg;have:f' u≠x:=fun k=>by
   rcases pA.step hu with m|m
   ·exact xA (k▸m)
   ·exact bw m
  rw[if_neg this,if_neg bw]
 have eB:∀u∈B,f' u=x→f u=if f' y=y then f' x else f' y:=fun u hu heq=>by rw[hf u (Ta u (by simp[hu]))];unfold wg;rw[if_pos heq]
 have eA:∀u∈A,f' u=y→f u=if f' x=x then f' y else f' x:=fun u hu heq=>by rw[hf u (Ta u (by simp[hu]))];unfold wg;rw[if_neg (by rw[heq];exact fun k=>UM k.symm),if_pos heq]
 have cBA:∀c∈kN (B++A),kP f c:=fun c hc=>by
  cases B with
  |nil =>
   cases A with
   |nil=>simp[kN]at hc
   |cons a A =>
    have hc:c=a::A:=by simpa[kN] using hc
    subst hc;refine Path.kM pA (fun k=>yA (mB k)) nA (fun u hu heq=>?_);rw[eA u hu heq,if_pos (show f' x=x from fx)];exact fy
  |cons b B =>
   have fxb:f' x=b:=fx;have bx:b≠x:=fun k=>xB (by simp[k])
   cases A with
   |nil =>
    have hc:c=b::B:=by simpa[kN] using hc
    subst hc;refine Path.kM pB (fun k=>xB (mB k)) nB (fun u hu heq=>?_);rw[eB u hu heq,if_pos (show f' y=y from fy)];exact fxb
   |cons a A =>
    have hc:c=(b::B)++(a::A):=by simpa[kN] using hc
    subst hc;have fya:f' y=a:=fy;have ay:a≠y:=fun k=>yA (by simp[k]);refine kP.two.2 ⟨Path.kM pB (fun k=>xB (mB k)) nB (fun u hu heq=>?_),Path.kM pA (fun k=>yA (mB k)) nA (fun u hu heq=>?_)⟩
    ·rw[eB u hu heq,if_neg (by rw[fya];exact ay)];exact fya
    ·rw[eA u hu heq,if_neg (by rw[fxb];exact bx)];exact fxb
 have cR:∀c∈p2++q2,kP f c:=fun c hc=>by
  have Ot:c∈p++q:=by rw[A5];rcases ac8.1 hc with k|k<;>simp[k]
  have CP:kP f' c:=h.c c (by rcases ac8.1 Ot with k|k<;>simp[k]);refine CP.congr fun z hz=>?_;have hzf:∀u∈c,u∈(p2++q2).flatten:=fun u hu=>aeD.2 ⟨c,hc,hu⟩;have hm:=hzf _ (CP.step hz);rw[hf z (Ta z (List.mem_append_right _ (hzf z hz)))];unfold wg;rw[if_neg (fun k=>nx (List.mem_append_right _ (by rw[←k];exact hm))),if_neg (fun k=>ny (List.mem_append_right _ (by rw[←k];exact hm)))]
 refine⟨kN (B++A)++(p2++q2),⟨fun c hc=>?_,?_⟩,?_⟩
 ·rcases ac8.1 hc with k|k
  ·exact cBA c k
  ·exact cR c k
 ·rw[List.flatten_append,uC];exact pD
 ·have eBA:(if f' x=x∧f' y=y then 0 else 1)=nz (B++A):=by
   cases B with
   |nil =>
    cases A with
    |nil=>exact if_pos ⟨fx,fy⟩
    |cons a A=>exact if_neg (fun k=>yA (by rw[←k.2,show f' y=a from fy];simp))
   |cons b B=>exact if_neg (fun k=>xB (by rw[←k.1,show f' x=b from fx];simp))
  rw[eBA];have hl:(p++q).length=(p2++c2::q2).length:=by rw[A5]
  simp only[List.length_append,EZ,List.length_cons]at hl ⊢;omega
end
end Go.Cy
set_option linter.unusedSimpArgs false
namespace Go.Vs
open Go.Proofs Go.Cy
def skip(x:ae)(s:ae→ae)(z:ae):ae:=if s z=x then s x else s z
def iX(row:List ae)(x:ae):ae:=(cC row x 1).getD zD
theorem wh{row:List ae}(hn:row.Nodup){i:Nat}{x:ae}(hx:row[i]? = some x):iX row x=(row[(i+1)%row.length]?).getD zD:=by unfold iX cC;rw[if_pos (List.mem_of_getElem? hx),VI hn hx,Int.toNat_natCast]
theorem E0{row:List ae}(hn:row.Nodup):∀(r p:List ae),row=p++r→Path (iX row) r (row.head?.getD zD)
 |[],_,_=>trivial
 |x::r,p,h=>by
  refine⟨?_,E0 hn r (p++[x]) (by rw[h];simp)⟩;have hx:row[p.length]? = some x:=by rw[h];simp
  rw[wh hn hx]
  cases r with
  |nil =>
   have hl:row.length=p.length+1:=by rw[h];simp
   rw[hl,Nat.mod_self];show(row[0]?).getD zD=row.head?.getD zD;rw[List.head?_eq_getElem?]
  |cons y r =>
   have hl:p.length+1<row.length:=by rw[h];simp
   rw[Nat.mod_eq_of_lt hl];have:row[p.length+1]? = some y:=by rw[h];simp
   rw[this];rfl
theorem CQ{row:List ae}(hn:row.Nodup)(h0:row≠[]):kP (iX row) row:=by
 have:=E0 hn row [] rfl
 cases row with
 |nil=>exact absurd rfl h0
 |cons x r=>exact this
theorem CR{f g:ae→ae}:∀{a:List ae} {z:ae},Path f a z→Path g a z→∀x∈a,f x=g x
 |y::r,z,p,q,x,hx=>by
  rcases acp.1 hx with rfl|hx
  ·exact p.1.trans q.1.symm
  ·exact CR p.2 q.2 x hx
theorem O6{f g:ae→ae}{c:List ae}(h:kP f c)(k:kP g c):∀x∈c,f x=g x:=by
 cases c with
 |nil=>exact h.elim
 |cons y r=>exact CR h k
theorem Td{f:ae→ae}{row:List ae}{j:Nat}(h:kP f (Dp row j)):kP f row:=by
 unfold Dp at h;have:=kP.Dp h
 rwa [List.take_append_drop]at this
theorem oS{row:List ae}(hn:row.Nodup){x:ae}(hx:x∈row):iX row x∈row:=(CQ hn (List.ne_nil_of_mem hx)).step hx
theorem E1{f:ae→ae}:∀{a:List ae} {z:ae},Path f a z→a≠[]→∃l,l∈a∧f l=z
 |[x],z,p,_=>⟨x,by simp,p.1⟩
 |x::y::r,z,p,_=>by obtain⟨l,h1,h2⟩:=E1 p.2 (by simp);exact⟨l,acm _ h1,h2⟩
theorem O7{row:List ae}(hn:row.Nodup){x y:ae}(hx:x∈row)(hy:y∈row)(h:iX row x=iX row y):x=y:=by
 obtain⟨i,hi⟩:=aeM hx;obtain⟨j,hj⟩:=aeM hy;have m0:=(aci.1 hi).1;have JW:=(aci.1 hj).1;have hp:0<row.length:=by omega
 rw[wh hn hi,wh hn hj,List.getElem?_eq_getElem (Nat.mod_lt _ hp),List.getElem?_eq_getElem (Nat.mod_lt _ hp)]at h;have h2:(i+1)%row.length=(j+1)%row.length:=EW hn (by simpa using h);have h3:i=j:=by
  by_cases a:i+1<row.length<;>by_cases b:j+1<row.length
  ·rw[Nat.mod_eq_of_lt a,Nat.mod_eq_of_lt b]at h2;omega
  ·have:j+1=row.length:=by omega
   rw[Nat.mod_eq_of_lt a,this,Nat.mod_self]at h2;omega
  ·have:i+1=row.length:=by omega
   rw[Nat.mod_eq_of_lt b,this,Nat.mod_self]at h2;omega
  ·omega
 subst h3;rw[hi]at hj;exact ac5 hj
theorem O8{row:List ae}(hn:row.Nodup){x z:ae}(hx:x∈row)(hz:z∈row)(hzx:z≠x):iX (cx row x) z=skip x (iX row) z:=by
 obtain⟨A,B,rfl⟩:=aeC hx;obtain⟨k,hk⟩:=aeM hx;have he:(A++x::B).filter (fun e=>decide (e≠x))=A++B:=by
  have hx2:(A++x::B)[A.length]? = some x:=by simp
  rw[xO hn hx2];simp
 have Ei:(x::(B++A)).Nodup:=by have p:(A++x::B).Perm (x::(B++A)):=aeP.trans (List.Perm.cons x aeQ);exact p.nodup_iff.1 hn
 have Dk:z∈B++A:=by
  rcases ac8.1 hz with k|k
  ·exact ac2 _ k
  ·rcases acp.1 k with k|k
   ·exact absurd k hzx
   ·exact acq _ k
 have c1:kP (iX (A++x::B)) (x::(B++A)):=by have:=(CQ hn (List.ne_nil_of_mem hx)).Dp;simpa using this
 obtain⟨fx,pL⟩:=(show Path (iX (A++x::B)) (x::(B++A)) x from c1);have c2:kP (skip x (iX (A++x::B))) (B++A):=by
  generalize hL:B++A=L at *
  cases L with
  |nil=>simp at Dk
  |cons l L =>
   have fx:iX (A++x::B) x=l:=fx;have vS:x∉l::L:=(adi.1 Ei).1;refine Path.kM pL (fun k=>vS (mB k)) (fun u hu bw=>?_) (fun u hu heq=>?_)
   ·unfold skip;rw[if_neg bw]
   ·unfold skip;rw[if_pos heq,fx]
 have hr:cx (A++x::B) x=cw (A++B):=by unfold cx;rw[he]
 obtain⟨j,hj,hjr⟩:=Jc (A++B);have nAB:(A++B).Nodup:=(aeQ (l₁:=B) (l₂:=A)).nodup_iff.1 (adi.1 Ei).2;have aiH:(cx (A++x::B) x).Nodup:=by rw[hr];exact(j0 _).nodup_iff.2 nAB
 have hzm:z∈cx (A++x::B) x:=by
  rw[hr,IT];rcases ac8.1 Dk with k|k
  ·exact ac2 _ k
  ·exact acq _ k
 have c3:kP (iX (cx (A++x::B) x)) (A++B):=by have:=CQ aiH (List.ne_nil_of_mem hzm);generalize iX (cx (A++x::B) x)=g at *;rw[hr,hjr]at this;exact Td this
 exact O6 (kP.Dp c3) c2 z Dk
def sg(d:aj)(x:ae):ae:=(oK d x).getD zD
def ph(d:aj)(x:ae):ae:=(IU d x).getD zD
theorem CS{d:aj}(h:Rw d.1){v:ah}{x:ae}(hv:v∈d.1)(hx:x∈v.2.1):oK d x=cC v.2.1 x 1:=by unfold oK bP;rw[iJ h hv hx];show cC (aW d v.1) x 1=_;rw[iU h.s hv]
theorem oT{d:aj}(h:Rw d.1){v:ah}{x:ae}(hv:v∈d.1)(hx:x∈v.2.1):sg d x=iX v.2.1 x:=by unfold sg iX;rw[CS h hv hx]
theorem Lk{d:aj}(h:Rw d.1){x:ae}(hx:x∈ax d.1):oK d x=some (sg d x):=by
 obtain⟨v,hv,jF⟩:=bh.1 hx;have:oK d x=some (iX v.2.1 x):=by rw[CS h hv jF];unfold iX cC;rw[if_pos jF];have hp:0<v.2.1.length:=aeI jF;rw[List.getElem?_eq_getElem (Nat.mod_lt _ hp)];rfl
 rw[oT h hv jF,this]
theorem VM{d:aj}(h:Rw d.1){x:ae}(hx:x∈ax d.1):sg d x∈ax d.1:=by obtain⟨v,hv,jF⟩:=bh.1 hx;rw[oT h hv jF];exact bh.2 ⟨v,hv,oS (h.ring hv) jF⟩
theorem Te{d:aj}(h:Rw d.1){x y:ae}(hx:x∈ax d.1)(hy:y∈ax d.1)(he:sg d x=sg d y):x=y:=by obtain⟨v,hv,jF⟩:=bh.1 hx;obtain⟨w,hw,hyw⟩:=bh.1 hy;rw[oT h hv jF,oT h hw hyw]at he;have h1:=oS (h.ring hv) jF;have h2:=oS (h.ring hw) hyw;rw[←he]at h2;have hwv:=h.one hv hw h1 h2;subst hwv;exact O7 (h.ring hw) jF hyw he
theorem qi{d:aj}(h:Rw d.1){x z:ae}(hx:x∈ax d.1)(hz:z∈ax (aJ d x).1):sg (aJ d x) z=skip x (sg d) z:=by
 obtain⟨p,q⟩:=fF h hx;obtain⟨v,hv,jF⟩:=bh.1 hx;have hzd:z∈ax d.1:=p.mem_iff.2 (acm _ hz);have hzx:z≠x:=fun k=>(adi.1 (p.nodup_iff.1 h.n)).1 (k▸hz);obtain⟨w,hw,G5⟩:=bh.1 hz;have hr:=j5 h hv jF;have Kn:w∈d.1.map (sB v.1 (cx v.2.1 x)):=by rw[hr]at hw;exact hw
 obtain⟨u,hu,ZW⟩:=adE.1 Kn;rw[oT q hw G5];by_cases Ut:u.1=v.1
 ·have Ut:u=v:=by have h1:=ij h.s hv;have h2:=ij h.s hu;rw[Ut,h1]at h2;exact(ac5 h2).symm
  subst Ut;have nS:w.2.1=cx u.2.1 x:=by rw[←ZW];unfold sB;rw[if_pos rfl]
  rw[nS]at G5 ⊢;have Ll:z∈u.2.1:=(sK jF (h.ring hu)).mem_iff.2 (acm _ G5);rw[O8 (h.ring hu) jF Ll hzx];unfold skip;rw[oT h hu Ll,oT h hu jF]
 ·have nS:w=u:=by rw[←ZW];unfold sB;rw[if_neg Ut]
  subst nS;unfold skip;rw[oT h hu G5,if_neg];intro k;have:=oS (h.ring hu) G5;rw[k]at this;exact Ut (congrArg Prod.fst (h.one hv hu jF this))
theorem Jg{d e:aj}(h:d.1=e.1)(x:ae):oK d x=oK e x:=by obtain⟨a,b⟩:=d;obtain⟨c,f⟩:=e;simp only at h;subst h;rfl
theorem lq{x:ae}(h:x.2=0∨x.2=1):au (au x)=x:=by obtain⟨x1,x2⟩:=x;simp only at h;rcases h with rfl|rfl<;>rfl
theorem Wf.side{d:aj}(h:Wf d){x:ae}(hx:x∈ax d.1):x.2=0∨x.2=1:=by obtain⟨e,_,_,k⟩:=cG.1 (h.pd.mem_iff.1 hx);exact k
theorem Wf.other{d:aj}(h:Wf d){x:ae}(hx:x∈ax d.1):au x∈ax d.1:=by
 obtain⟨e,he,h1,h2⟩:=cG.1 (h.pd.mem_iff.1 hx);refine h.pd.mem_iff.2 (cG.2 ⟨e,he,h1,?_⟩);obtain⟨_,k⟩:=iW h2;rcases k with⟨_,k⟩|⟨_,k⟩
 ·exact .inr k
 ·exact .inl k
theorem Jh{d:aj}{x:ae}(hx:x∈ax d.1):(bP d x).isSome=true:=by obtain⟨v,hv,jF⟩:=bh.1 hx;unfold bP Gn;rw[Option.isSome_map,List.find?_isSome];exact⟨v,hv,by simpa using jF⟩
theorem nj{d:aj}{x:ae}(hx:x∈ax d.1):ph d x=sg d (au x):=by unfold ph IU sg;rw[if_pos (Jh hx)]
theorem Ji{d:aj}(h:Wf d){x:ae}(hx:x∈ax d.1):IU d x=some (ph d x):=by rw[nj hx];unfold IU;rw[if_pos (Jh hx)];exact Lk h.rw (h.other hx)
theorem Tf{d:aj}(h:Wf d){x:ae}(hx:x∈ax d.1):ph d x∈ax d.1:=by rw[nj hx];exact VM h.rw (h.other hx)
theorem YW{d:aj}(h:Wf d){x y:ae}(hx:x∈ax d.1)(hy:y∈ax d.1)(he:ph d x=ph d y):x=y:=by rw[nj hx,nj hy]at he;have:=Te h.rw (h.other hx) (h.other hy) he;rw[←lq (h.side hx),←lq (h.side hy),this]
theorem Jj{α:Type}[DecidableEq α]:∀{l D:List α},l.Nodup→(∀x∈l,x∈D)→l.length≤D.length
 |[],_,_,_=>aeG _
 |x::r,D,hn,hs=>by have h1:=adi.1 hn;have hx:=hs x (ac4 ..);have ih:=Jj (l:=r) (D:=D.erase x) h1.2 (fun y hy=>(aeZ (fun k=>h1.1 (by rw[←k];exact hy))).2 (hs y (acm _ hy)));rw[List.length_erase_of_mem hx]at ih;have:=aeI hx;simp;omega
theorem Tg{d:aj}(h:Wf d){out:List ae}{y:ae}(hn:out.Nodup)(hs:∀z∈out,z∈ax d.1)(hp:Path (ph d) out y):y∉out.tail:=fun hy=>by
 cases out with
 |nil=>simp at hy
 |cons x r =>
  have hy:y∈r:=hy;obtain⟨p,q,rfl⟩:=aeC hy;have key:∀(x:ae) (p:List ae),Path (ph d) (x::(p++y::q)) y→(x::(p++y::q)).Nodup→(∀z∈x::(p++y::q),z∈ax d.1)→False:=by
   intro x p
   induction p generalizing x with
   |nil =>intro hp hn hs;have h1:ph d x=y:=hp.1;obtain⟨l,h2,h3⟩:=E1 hp.2 (by simp);have:=YW h (hs x (by simp)) (hs l (acm _ h2)) (h1.trans h3.symm);subst this;exact(adi.1 hn).1 h2
   |cons u p ih =>intro hp hn hs;exact ih u hp.2 (adi.1 hn).2 (fun z hz=>hs z (acm _ hz))
  exact key x p hp hn hs
theorem Wf.Jk{d:aj}(h:Wf d):(ax d.1).length≤80:=by
 have h2:=h.pd.length_eq;have h3:=h.ne;have:(ends d.2).length=2*d.2.length:=by
  clear h2 h3 h;generalize d.2=l
  induction l with
  |nil=>rfl
  |cons e r ih=>rw[j4];simp[ih];omega
 omega
theorem CT{d:aj}(h:Wf d)(x:ae):∀(n:Nat) (y:ae) (r:List ae),(x::r).length+n=82→(x::r).Nodup→(∀z∈x::r,z∈ax d.1)→Path (ph d) (x::r) y→y∈ax d.1 → ∃r',rz d x n y (x::r)=x::r'∧(x::r').Nodup∧(∀z∈x::r',z∈ax d.1)∧kP (ph d) (x::r')
 |0,y,r,hl,hn,hs,hp,hy=>by have:=Jj hn hs;have:=h.Jk;omega
 |n+1,y,r,hl,hn,hs,hp,hy=>by
  unfold rz;by_cases he:y=x
  ·subst he;rw[if_pos rfl];exact⟨r,rfl,hn,hs,hp⟩
  ·rw[if_neg he];have hyr:y∉x::r:=fun k=>by
    rcases acp.1 k with k|k
    ·exact he k
    ·exact Tg h hn hs hp k
   have e:(IU d y).getD zD=ph d y:=rfl;rw[e];refine CT h x n (ph d y) (r++[y]) (by simp at hl ⊢;omega) ?_ (fun z hz=>?_) ?_ (Tf h hy)
   ·show((x::r)++[y]).Nodup;refine aeA.2 ⟨hn,by simp,fun a ha b hb=>?_⟩;simp at hb;subst hb;exact fun k=>hyr (k▸ha)
   ·have hz:z∈(x::r)++[y]:=hz;rcases ac8.1 hz with k|k
    ·exact hs z k
    ·simp at k;rw[k];exact hy
   ·show Path (ph d) ((x::r)++[y]) (ph d y);exact Path.app.2 ⟨hp,rfl,trivial⟩
theorem CU{d:aj}(h:Wf d){x:ae}(hx:x∈ax d.1):∃r,bu d x=x::r∧(x::r).Nodup∧(∀z∈x::r,z∈ax d.1)∧kP (ph d) (x::r):=by unfold bu;rw[Ji h hx];exact CT h x 81 (ph d x) [] rfl (by simp) (fun z hz=>by simp at hz;rw[hz];exact hx) ⟨rfl,trivial⟩ (Tf h hx)
theorem rI{d:aj}(h:Wf d):∀(l:List ae) (out:List (List ae)),(∀x∈l,x∈ax d.1)→(∀c∈out,kP (ph d) c)→out.flatten.Nodup→(∀x∈out.flatten,x∈ax d.1) →(∀c∈iu d l out out.flatten,kP (ph d) c)∧(iu d l out out.flatten).flatten.Nodup∧(∀x∈(iu d l out out.flatten).flatten,x∈ax d.1)∧(∀x,x∈l∨x∈out.flatten→x∈(iu d l out out.flatten).flatten)
 |[],out,_,h1,h2,h3=>⟨h1,h2,h3,fun x k=>k.resolve_left (by simp)⟩
 |x::l,out,hl,h1,h2,h3=>by
  unfold iu;by_cases hx:x∈out.flatten
  ·rw[if_pos hx];obtain⟨a,b,c,e⟩:=rI h l out (fun y hy=>hl y (acm _ hy)) h1 h2 h3;refine⟨a,b,c,fun y hy=>e y ?_⟩;rcases hy with hy|hy
   ·rcases acp.1 hy with rfl|hy
    ·exact .inr hx
    ·exact .inl hy
   ·exact .inr hy
  ·rw[if_neg hx];obtain⟨r,t1,t2,t3,t4⟩:=CU h (hl x (ac4 ..));have ef:out.flatten++bu d x=(out++[bu d x]).flatten:=by simp
   rw[ef];have aiJ:∀y∈bu d x,y∉out.flatten:=fun y hy k=>by obtain⟨c,hc,hyc⟩:=aeD.1 k;rw[t1]at hy;exact hx (aeD.2 ⟨c,hc,t4.same (h1 c hc) hy hyc (ac4 ..)⟩)
   obtain⟨a,b,c,e⟩:=rI h l (out++[bu d x]) (fun y hy=>hl y (acm _ hy)) (fun c hc=>by
     rcases ac8.1 hc with k|k
     ·exact h1 c k
     ·simp at k;rw[k,t1];exact t4)
    (by rw[←ef];refine aeA.2 ⟨h2,by rw[t1];exact t2,fun u hu w hw k=>aiJ w hw (k▸hu)⟩)
    (fun y hy=>by
     rw[←ef]at hy;rcases ac8.1 hy with k|k
     ·exact h3 y k
     ·rw[t1]at k;exact t3 y k)
   refine⟨a,b,c,fun y hy=>e y ?_⟩;rw[←ef];rcases hy with hy|hy
   ·rcases acp.1 hy with rfl|hy
    ·exact .inr (ac2 _ (by rw[t1];simp))
    ·exact .inl hy
   ·exact .inr (acq _ hy)
theorem lu:∀l:List ai,eV l=ends l
 |[]=>rfl
 |e::r=>by rw[j4,eV,lu r]
theorem cg{d:aj}(h:Wf d):G4 (ph d) (ax d.1) (cZ d):=by obtain⟨a,b,c,e⟩:=rI h (eV d.2) [] (fun x hx=>h.pd.mem_iff.2 (by rw[←lu];exact hx)) (by simp) (by simp) (by simp);refine⟨a,(List.perm_ext_iff_of_nodup b h.rw.n).2 fun x=>⟨c x,fun hx=>e x (.inl (by rw[lu];exact h.pd.mem_iff.1 hx))⟩⟩
def dv(d:aj)(x:ID):aj:=bj (aJ (aJ d (x,0)) (x,1)) zI x
theorem Lm{d:aj}(h:Wf d)(x y:ae)(e:ID):(bj (aJ (aJ d x) y) zI e).1=(aJ (aJ d x) y).1:=wc (j6 (j6 h.gv x) y)
theorem CV(x:ID):au (x,0)=(x,1):=rfl
theorem Th(x:ID):au (x,1)=(x,0):=rfl
structure b4(d':aj)(x:ID):Prop where
 wf:Wf d'
 e:(aX d'.2 x).isSome=true
theorem b4.x0{d':aj}{x:ID}(h:b4 d' x):(x,0)∈ax d'.1:=h.wf.jA h.e (.inl rfl)
theorem b4.x1{d':aj}{x:ID}(h:b4 d' x):(x,1)∈ax d'.1:=h.wf.jA h.e (.inr rfl)
theorem b4.p1{d':aj}{x:ID}(h:b4 d' x):(ax d'.1).Perm ((x,0)::ax (aJ d' (x,0)).1)∧Rw (aJ d' (x,0)).1:=fF h.wf.rw h.x0
theorem b4.ZX{d':aj}{x:ID}(h:b4 d' x):(x,1)∈ax (aJ d' (x,0)).1:=by
 rcases acp.1 (h.p1.1.mem_iff.1 h.x1) with k|k
 ·cases k
 ·exact k
theorem b4.p2{d':aj}{x:ID}(h:b4 d' x):(ax (aJ d' (x,0)).1).Perm ((x,1)::ax (aJ (aJ d' (x,0)) (x,1)).1)∧Rw (aJ (aJ d' (x,0)) (x,1)).1:=fF h.p1.2 h.ZX
theorem b4.v{d':aj}{x:ID}(h:b4 d' x):(dv d' x).1=(aJ (aJ d' (x,0)) (x,1)).1:=Lm h.wf _ _ _
theorem b4.w{d':aj}{x:ID}(h:b4 d' x):Wf (dv d' x):=h.wf.cut h.e
theorem b4.p{d':aj}{x:ID}(h:b4 d' x):(ax d'.1).Perm ((x,0)::(x,1)::ax (dv d' x).1):=by rw[h.v];exact h.p1.1.trans (List.Perm.cons _ h.p2.1)
theorem b4.sg{d':aj}{x:ID}(h:b4 d' x){z:ae}(hz:z∈ax (dv d' x).1):sg (dv d' x) z=skip (x,1) (skip (x,0) (sg d')) z:=by
 have e1:Vs.sg (dv d' x) z=Vs.sg (aJ (aJ d' (x,0)) (x,1)) z:=by unfold Vs.sg;rw[Jg h.v]
 rw[h.v]at hz;have yw:z∈ax (aJ d' (x,0)).1:=h.p2.1.mem_iff.2 (acm _ hz);rw[e1,qi h.p1.2 h.ZX hz];unfold skip;rw[qi h.wf.rw h.x0 yw,qi h.wf.rw h.x0 h.ZX];rfl
theorem b4.ph{d':aj}{x:ID}(h:b4 d' x){z:ae}(hz:z∈ax (dv d' x).1):ph (dv d' x) z=wg (ph d') (x,0) (x,1) z:=by
 have Pw:z∈ax d'.1:=h.p.mem_iff.2 (acm _ (acm _ hz));have ho:=h.w.other hz;have nJ:au z∈ax d'.1:=h.p.mem_iff.2 (acm _ (acm _ ho));have nd:=h.p.nodup_iff.1 h.wf.rw.n;have KE:au z≠(x,1):=fun k=>(adi.1 (adi.1 nd).2).1 (k▸ho);rw[nj hz,h.sg ho];unfold wg;rw[nj Pw,nj h.x0,nj h.x1,CV,Th];generalize hW:au z=w at *;have inj:Vs.sg d' (x,1)=(x,0)→Vs.sg d' w≠(x,0):=fun k1 k2=>KE (Te h.wf.rw nJ h.x1 (k2.trans k1.symm));unfold skip;by_cases c1:Vs.sg d' w=(x,0)
 ·rw[if_pos c1];by_cases c2:Vs.sg d' (x,0)=(x,1)
  ·rw[if_pos c2,if_pos c2];by_cases c3:Vs.sg d' (x,1)=(x,0)
   ·exact absurd c1 (inj c3)
   ·rw[if_neg c3,if_pos c1]
  ·rw[if_neg c2,if_neg c2,if_pos c1]
 ·rw[if_neg c1];by_cases c2:Vs.sg d' w=(x,1)
  ·rw[if_pos c2,if_neg c1]
  ·rw[if_neg c2,if_neg c1]
def al(l:List ah):Nat:=l.countP fun v=>v.2.1.isEmpty
theorem E2{row:List ae}(hn:row.Nodup){x:ae}(hx:x∈row):iX row x=x↔row.length=1:=by
 obtain⟨i,hi⟩:=aeM hx;have m0:=(aci.1 hi).1;have hp:0<row.length:=by omega
 rw[wh hn hi,List.getElem?_eq_getElem (Nat.mod_lt _ hp)];constructor
 ·intro h;have h1:row[(i+1)%row.length]? = some x:=by rw[List.getElem?_eq_getElem (Nat.mod_lt _ hp)];exact congrArg some (by simpa using h)
  have h2:=EX hn h1 hi;by_cases c:i+1<row.length
  ·rw[Nat.mod_eq_of_lt c]at h2;omega
  ·have:i+1=row.length:=by omega
   rw[this,Nat.mod_self]at h2;omega
 ·intro h;have h0:i=0:=by omega
  subst h0;have:(0+1)%row.length=0:=by rw[h]
  simp only[this];obtain⟨h1,h2⟩:=aci.1 hi;simpa using h2
theorem CW{d:aj}(h:Rw d.1){x:ae}(hx:x∈ax d.1):al (aJ d x).1=al d.1+if sg d x=x then 1 else 0:=by
 obtain⟨v,hv,jF⟩:=bh.1 hx;obtain⟨a,b,h1,_,_,h2⟩:=rG h.s hv;have e1:(aJ d x).1=a++(v.1,(cx v.2.1 x,v.2.2))::b:=by rw[j5 h hv jF];exact h2 _
 have p:=sK jF (h.ring hv);have hl:=p.length_eq;have v0:v.2.1.isEmpty=false:=by
  cases hq:v.2.1 with
  |nil=>rw[hq]at jF;simp at jF
  |cons _ _=>rfl
 have v1:(cx v.2.1 x).isEmpty=decide (sg d x=x):=by rw[Bool.eq_iff_iff,List.isEmpty_iff,decide_eq_true_eq,oT h hv jF,E2 (h.ring hv) jF,←List.length_eq_zero_iff];simp at hl;omega
 rw[e1]
 conv=>rhs;rw[h1]
 unfold al;rw[List.countP_append,List.countP_append,List.countP_cons,List.countP_cons];simp only[v0,v1];by_cases c:sg d x=x
 ·simp[c];omega
 ·simp[c]
def ft(d:aj):Nat:=(cZ d).length+al d.1
def Ti(d:aj)(x y:ae):Prop:=∃c∈cZ d,x∈c∧y∈c
theorem b4.al{d':aj}{x:ID}(h:b4 d' x):Vs.al (dv d' x).1=Vs.al d'.1+(if Vs.ph d' (x,1)=(x,0) then 1 else 0)+(if Vs.ph d' (x,0)=(x,1)∨(Vs.ph d' (x,0)=(x,0)∧Vs.ph d' (x,1)=(x,1)) then 1 else 0):=by
 rw[h.v,CW h.p1.2 h.ZX,CW h.wf.rw h.x0];have e0:Vs.ph d' (x,0)=Vs.sg d' (x,1):=nj h.x0;have e1:Vs.ph d' (x,1)=Vs.sg d' (x,0):=nj h.x1;rw[e0,e1,qi h.wf.rw h.x0 h.ZX];unfold skip;congr 1;by_cases c:Vs.sg d' (x,1)=(x,0)
 ·rw[if_pos c];by_cases k:Vs.sg d' (x,0)=(x,1)
  ·rw[if_pos k,if_pos (.inr ⟨c,k⟩)]
  ·rw[if_neg k,if_neg];rintro(m|⟨_,m⟩)
   ·rw[c]at m;cases m
   ·exact k m
 ·rw[if_neg c];by_cases k:Vs.sg d' (x,1)=(x,1)
  ·rw[if_pos k,if_pos (.inl k)]
  ·rw[if_neg k,if_neg];rintro(m|⟨m,_⟩)
   ·exact k m
   ·exact c m
theorem ada(x:ID):((x,0):ae)≠(x,1):=fun k=>by cases k
theorem b4.same{d':aj}{x:ID}(h:b4 d' x)(hf:Ti d' (x,0) (x,1)):ft (dv d' x)=ft d'+1∧(cZ (dv d' x)).length+1=(cZ d').length+(if Vs.ph d' (x,0)=(x,1) then 0 else 1)+(if Vs.ph d' (x,1)=(x,0) then 0 else 1):=by
 obtain⟨c,hc,h0,h1⟩:=hf;have nd:=h.p.nodup_iff.1 h.wf.rw.n;have dec:G4 (Vs.ph d') ((x,0)::(x,1)::ax (dv d' x).1) (cZ d'):=⟨(cg h.wf).c,(cg h.wf).p.trans h.p⟩;obtain⟨cs,k1,k2⟩:=G4.S8 (ada x) nd dec (fun z hz=>h.ph hz) hc h0 h1;have k3:=G4.count (h.w.rw.n) (cg h.w) k1;have k4:=h.al;have CP:=(cg h.wf).c c hc;have n0:¬(Vs.ph d' (x,0)=(x,0)):=fun k=>by
  obtain⟨n,hn⟩:=CP.reach h0 h1;have:∀n,it (Vs.ph d') n (x,0)=(x,0):=fun n=>by
   induction n with
   |zero=>rfl
   |succ n ih=>show it (Vs.ph d') n (Vs.ph d' (x,0))=_;rw[k];exact ih
  rw[this]at hn;cases hn
 refine⟨?_,by rw[k3];exact k2⟩;unfold ft;rw[k3,k4];by_cases c0:Vs.ph d' (x,0)=(x,1)
 ·rw[if_pos c0]at k2;rw[if_pos (Or.inl c0)];by_cases c1:Vs.ph d' (x,1)=(x,0)
  ·rw[if_pos c1]at k2 ⊢;omega
  ·rw[if_neg c1]at k2 ⊢;omega
 ·rw[if_neg c0]at k2;rw[if_neg (show ¬(Vs.ph d' (x,0)=(x,1)∨(Vs.ph d' (x,0)=(x,0)∧Vs.ph d' (x,1)=(x,1))) from fun m=>m.elim c0 fun m=>n0 m.1)];by_cases c1:Vs.ph d' (x,1)=(x,0)
  ·rw[if_pos c1]at k2 ⊢;omega
  ·rw[if_neg c1]at k2 ⊢;omega
theorem b4.diff{d':aj}{x:ID}(h:b4 d' x)(hf:¬Ti d' (x,0) (x,1)):ft (dv d' x)+1=ft d':=by
 have hm:(x,0)∈(cZ d').flatten:=(cg h.wf).p.mem_iff.2 h.x0;obtain⟨c,hc,h0⟩:=aeD.1 hm;have h1:(x,1)∉c:=fun k=>hf ⟨c,hc,h0,k⟩;have nd:=h.p.nodup_iff.1 h.wf.rw.n;have dec:G4 (Vs.ph d') ((x,0)::(x,1)::ax (dv d' x).1) (cZ d'):=⟨(cg h.wf).c,(cg h.wf).p.trans h.p⟩;obtain⟨cs,k1,k2⟩:=G4.Tb (ada x) nd dec (fun z hz=>h.ph hz) hc h0 h1;have k3:=G4.count (h.w.rw.n) (cg h.w) k1;have k4:=h.al;have CP:=(cg h.wf).c c hc;have n0:¬(Vs.ph d' (x,0)=(x,1)):=fun k=>h1 (k▸CP.step h0);have n1:¬(Vs.ph d' (x,1)=(x,0)):=fun k=>by have Uk:(x,1)∈(cZ d').flatten:=(cg h.wf).p.mem_iff.2 h.x1;obtain⟨c2,oY,h2⟩:=aeD.1 Uk;have:=((cg h.wf).c c2 oY).step h2;rw[k]at this;exact hf ⟨c2,oY,this,h2⟩
 unfold ft;rw[k3,k4,if_neg n1];by_cases c:Vs.ph d' (x,0)=(x,0)∧Vs.ph d' (x,1)=(x,1)
 ·rw[if_pos c]at k2;rw[if_pos (.inr c)];omega
 ·rw[if_neg c]at k2;rw[if_neg (fun m=>m.elim n0 c)];omega
def Jl(d:aj)(a b:ID):Prop:=∃z∈ax d.1,bP d z=some a∧bP d (au z)=some b
inductive cU (d:aj):ID→ID→Prop
 |refl (a:ID):cU d a a
 |tail {a b c:ID}:cU d a b→Jl d b c→cU d a c
theorem cU.trans{d:aj}{a b c:ID}(h:cU d a b)(k:cU d b c):cU d a c:=by
 induction k with
 |refl=>exact h
 |tail _ j ih=>exact ih.tail j
theorem Jl.symm{d:aj}(hw:Wf d){a b:ID}(h:Jl d a b):Jl d b a:=by obtain⟨z,hz,h1,h2⟩:=h;exact⟨au z,hw.other hz,h2,by rw[lq (hw.side hz)];exact h1⟩
theorem Jl.conn{d:aj}{a b:ID}(h:Jl d a b):cU d a b:=(cU.refl a).tail h
theorem cU.symm{d:aj}(hw:Wf d){a b:ID}(h:cU d a b):cU d b a:=by
 induction h with
 |refl=>exact .refl _
 |tail _ j ih=>exact(j.symm hw).conn.trans ih
structure wi(d:aj)(R:List ID):Prop where
 n:R.Nodup
 v:∀r∈R,∃v∈d.1,v.1=r
 i:∀r∈R,∀s∈R,cU d r s→r=s
 c:∀v∈d.1,∃r∈R,cU d v.1 r
theorem GF{d:aj}(hw:Wf d):∀{R R':List ID},R.Nodup→(∀r∈R,∀s∈R,cU d r s→r=s)→(∀r∈R,∃s∈R',cU d r s)→R.length≤R'.length
 |[],_,_,_,_=>aeG _
 |r::R,R',hn,hi,hc=>by obtain⟨s,hs,Ya⟩:=hc r (ac4 ..);have h1:=adi.1 hn;have ih:=GF hw (R:=R) (R':=R'.erase s) h1.2 (fun a ha b hb=>hi a (acm _ ha) b (acm _ hb)) (fun a ha=>by obtain⟨t,ht,yG⟩:=hc a (acm _ ha);refine⟨t,(aeZ (fun k=>?_)).2 ht,yG⟩;subst k;have:=hi a (acm _ ha) r (ac4 ..) (yG.trans (Ya.symm hw));exact h1.1 (this▸ha));rw[List.length_erase_of_mem hs]at ih;have:=aeI hs;simp;omega
theorem wi.len{d:aj}(hw:Wf d){R R':List ID}(h:wi d R)(h':wi d R'):R.length=R'.length:=by
 refine Nat.le_antisymm (GF hw h.n h.i fun r hr=>?_) (GF hw h'.n h'.i fun r hr=>?_)
 ·obtain⟨v,hv,rfl⟩:=h.v r hr;exact h'.c v hv
 ·obtain⟨v,hv,rfl⟩:=h'.v r hr;exact h.c v hv
theorem wj{d:aj}(hw:Wf d){z:ae}(hz:z∈ax d.1):∃v∈d.1,z∈v.2.1∧bP d z=some v.1:=by obtain⟨v,hv,ZY⟩:=bh.1 hz;exact⟨v,hv,ZY,iJ hw.rw hv ZY⟩
theorem CX{d:aj}(h:Rw d.1){x z:ae}(hx:x∈ax d.1)(hz:z∈ax (aJ d x).1):bP (aJ d x) z=bP d z:=by
 obtain⟨p,q⟩:=fF h hx;obtain⟨v,hv,jF⟩:=bh.1 hx;obtain⟨w,hw,G5⟩:=bh.1 hz;have hr:=j5 h hv jF;have Kn:w∈d.1.map (sB v.1 (cx v.2.1 x)):=by rw[hr]at hw;exact hw
 obtain⟨u,hu,ZW⟩:=adE.1 Kn;have bS:w.1=u.1:=by rw[←ZW];exact rE _ _ _
 have Ll:z∈u.2.1:=by
  by_cases Ut:u.1=v.1
  ·have Ut:u=v:=by have h1:=ij h.s hv;have h2:=ij h.s hu;rw[Ut,h1]at h2;exact(ac5 h2).symm
   subst Ut;have nS:w.2.1=cx u.2.1 x:=by rw[←ZW];unfold sB;rw[if_pos rfl]
   rw[nS]at G5;exact(sK jF (h.ring hu)).mem_iff.2 (acm _ G5)
  ·have nS:w=u:=by rw[←ZW];unfold sB;rw[if_neg Ut]
   rw[←nS];exact G5
 show Gn (aJ d x).1 z=Gn d.1 z;rw[iJ q hw G5,iJ h hu Ll,bS]
theorem b4.at{d':aj}{x:ID}(h:b4 d' x){z:ae}(hz:z∈ax (dv d' x).1):bP (dv d' x) z=bP d' z:=by
 have e:bP (dv d' x) z=bP (aJ (aJ d' (x,0)) (x,1)) z:=by unfold bP;rw[h.v]
 rw[h.v]at hz;have yw:z∈ax (aJ d' (x,0)).1:=h.p2.1.mem_iff.2 (acm _ hz);rw[e,CX h.p1.2 h.ZX hz,CX h.wf.rw h.x0 yw]
theorem b4.sub{d':aj}{x:ID}(h:b4 d' x){z:ae}(hz:z∈ax (dv d' x).1):z∈ax d'.1:=h.p.mem_iff.2 (acm _ (acm _ hz))
theorem b4.ZZ{d':aj}{x:ID}(h:b4 d' x){a b:ID}(k:Jl (dv d' x) a b):Jl d' a b:=by obtain⟨z,hz,h1,h2⟩:=k;exact⟨z,h.sub hz,by rw[←h.at hz];exact h1,by rw[←h.at (h.w.other hz)];exact h2⟩
theorem b4.conn{d':aj}{x:ID}(h:b4 d' x){a b:ID}(k:cU (dv d' x) a b):cU d' a b:=by
 induction k with
 |refl=>exact .refl _
 |tail _ j ih=>exact ih.tail (h.ZZ j)
theorem b4.aiK{d':aj}{x u w:ID}(h:b4 d' x)(hu:bP d' (x,0)=some u)(hw:bP d' (x,1)=some w){a b:ID}(k:Jl d' a b):Jl (dv d' x) a b∨(a=u∧b=w)∨(a=w∧b=u):=by
 obtain⟨z,hz,h1,h2⟩:=k;rcases acp.1 (h.p.mem_iff.1 hz) with rfl|Dk
 ·rw[CV]at h2;rw[hu]at h1;rw[hw]at h2
  cases h1;cases h2
  exact .inr (.inl ⟨rfl,rfl⟩)
 rcases acp.1 Dk with rfl|JS
 ·rw[Th]at h2;rw[hw]at h1;rw[hu]at h2
  cases h1;cases h2
  exact .inr (.inr ⟨rfl,rfl⟩)
 ·exact .inl ⟨z,JS,by rw[h.at JS];exact h1,by rw[h.at (h.w.other JS)];exact h2⟩
theorem b4.Tj{d':aj}{x u w:ID}(h:b4 d' x)(hu:bP d' (x,0)=some u)(hw:bP d' (x,1)=some w){a b:ID}(k:cU d' a b) :
  cU (dv d' x) a b∨(cU (dv d' x) a u∧cU (dv d' x) w b)∨(cU (dv d' x) a w∧cU (dv d' x) u b):=by
 induction k with
 |refl=>exact .inl (.refl _)
 |tail _ j ih =>
  rcases h.aiK hu hw j with j|⟨rfl,rfl⟩|⟨rfl,rfl⟩
  ·rcases ih with k|⟨k,m⟩|⟨k,m⟩
   ·exact .inl (k.tail j)
   ·exact .inr (.inl ⟨k,m.tail j⟩)
   ·exact .inr (.inr ⟨k,m.tail j⟩)
  ·rcases ih with k|⟨k,m⟩|⟨k,m⟩
   ·exact .inr (.inl ⟨k,.refl _⟩)
   ·exact .inr (.inl ⟨k,.refl _⟩)
   ·exact .inl k
  ·rcases ih with k|⟨k,m⟩|⟨k,m⟩
   ·exact .inr (.inr ⟨k,.refl _⟩)
   ·exact .inl k
   ·exact .inr (.inr ⟨k,.refl _⟩)
theorem b4.ids{d':aj}{x:ID}(h:b4 d' x):(dv d' x).1.map (·.1)=d'.1.map (·.1):=by rw[h.v];unfold aJ Vs.cm;simp only[List.map_map];refine ae0 fun v hv=>?_;simp only[Function.comp,rE]
theorem b4.Ln{d':aj}{x:ID}(h:b4 d' x){r:ID}:(∃v∈(dv d' x).1,v.1=r)↔∃v∈d'.1,v.1=r:=by
 have e:∀l:List ah,(∃v∈l,v.1=r)↔r∈l.map (·.1):=fun l=>by rw[List.mem_map]
 rw[e,e,h.ids]
theorem b4.VN{d':aj}{x u w:ID}(h:b4 d' x)(hu:bP d' (x,0)=some u)(hw:bP d' (x,1)=some w)(k:cU (dv d' x) u w){R:List ID}(hr:wi d' R):wi (dv d' x) R:=by
 have key:∀{a b:ID},cU d' a b→cU (dv d' x) a b:=fun {a b} m=>by
  rcases h.Tj hu hw m with m|⟨m,q⟩|⟨m,q⟩
  ·exact m
  ·exact(m.trans k).trans q
  ·exact(m.trans (k.symm h.w)).trans q
 refine⟨hr.n,fun r zK=>h.Ln.2 (hr.v r zK),fun r zK s hs m=>hr.i r zK s hs (h.conn m),fun v hv=>?_⟩;obtain⟨v',AY,he⟩:=h.Ln.1 ⟨v,hv,rfl⟩;obtain⟨r,h1,h2⟩:=hr.c v' AY;exact⟨r,h1,by rw[←he];exact key h2⟩
theorem b4.MX{d':aj}{x:ID}(h:b4 d' x):∃u w,bP d' (x,0)=some u∧bP d' (x,1)=some w∧(∃v∈d'.1,v.1=u)∧∃v∈d'.1,v.1=w:=by obtain⟨v,hv,_,h1⟩:=wj h.wf h.x0;obtain⟨v2,yq,_,h2⟩:=wj h.wf h.x1;exact⟨v.1,v2.1,h1,h2,⟨v,hv,rfl⟩,⟨v2,yq,rfl⟩⟩
theorem b4.Xy{d':aj}{x u w:ID}(h:b4 d' x)(hu:bP d' (x,0)=some u)(hw:bP d' (x,1)=some w)(k:¬cU (dv d' x) u w){R:List ID}(hr:wi d' R):∃R2,wi (dv d' x) R2∧R2.length=R.length+1:=by
 have uv:∃v∈d'.1,v.1=u:=by obtain⟨v,hv,_,h1⟩:=wj h.wf h.x0;rw[hu]at h1;cases h1;exact⟨v,hv,rfl⟩
 have wv:∃v∈d'.1,v.1=w:=by obtain⟨v,hv,_,h1⟩:=wj h.wf h.x1;rw[hw]at h1;cases h1;exact⟨v,hv,rfl⟩
 have uw:cU d' u w:=Jl.conn ⟨(x,0),h.x0,hu,by rw[CV];exact hw⟩;obtain⟨v0,XX,hvu⟩:=uv;obtain⟨r,zK,hur⟩:=hr.c v0 XX;rw[hvu]at hur;have sep:∀s∈R.erase r,s∈R∧¬cU d' s u∧¬cU d' s w:=fun s hs=>by
  have h1:=aeY hs;have h2:s≠r:=fun e=>by subst e;exact absurd hs (List.Nodup.not_mem_erase hr.n)
  exact⟨h1,fun m=>h2 (hr.i s h1 r zK (m.trans hur)),fun m=>h2 (hr.i s h1 r zK ((m.trans (uw.symm h.wf)).trans hur))⟩
 refine⟨u::w::R.erase r,⟨?_,?_,?_,?_⟩,?_⟩
 ·refine adi.2 ⟨fun m=>?_,adi.2 ⟨fun m=>(sep w m).2.2 (.refl _),hr.n.erase r⟩⟩;rcases acp.1 m with m|m
  ·exact k (m▸.refl _)
  ·exact(sep u m).2.1 (.refl _)
 ·intro s hs;rcases acp.1 hs with rfl|hs
  ·exact h.Ln.2 ⟨v0,XX,hvu⟩
  rcases acp.1 hs with rfl|hs
  ·exact h.Ln.2 wv
  ·exact h.Ln.2 (hr.v s (sep s hs).1)
 ·intro a ha b hb m;rcases acp.1 ha with ea|ha
  ·rcases acp.1 hb with eb|hb
   ·rw[ea,eb]
   rcases acp.1 hb with eb|hb
   ·exact absurd (ea▸eb▸m) k
   ·exact absurd ((h.conn (ea▸m)).symm h.wf) (sep b hb).2.1
  rcases acp.1 ha with ea|ha
  ·rcases acp.1 hb with eb|hb
   ·exact absurd ((ea▸eb▸m).symm h.w) k
   rcases acp.1 hb with eb|hb
   ·rw[ea,eb]
   ·exact absurd ((h.conn (ea▸m)).symm h.wf) (sep b hb).2.2
  ·rcases acp.1 hb with eb|hb
   ·exact absurd (eb▸h.conn m) (sep a ha).2.1
   rcases acp.1 hb with eb|hb
   ·exact absurd (eb▸h.conn m) (sep a ha).2.2
   ·exact hr.i a (sep a ha).1 b (sep b hb).1 (h.conn m)
 ·intro v hv;obtain⟨v',AY,he⟩:=h.Ln.1 ⟨v,hv,rfl⟩;obtain⟨s,h1,h2⟩:=hr.c v' AY;rw[he]at h2;by_cases hsr:s=r
  ·subst hsr;rcases h.Tj hu hw (h2.trans (hur.symm h.wf)) with m|⟨m,_⟩|⟨m,_⟩
   ·exact⟨u,by simp,m⟩
   ·exact⟨u,by simp,m⟩
   ·exact⟨w,by simp,m⟩
  ·have X0:s∈R.erase r:=(aeZ hsr).2 h1;rcases h.Tj hu hw h2 with m|⟨_,q⟩|⟨_,q⟩
   ·exact⟨s,by simp[X0],m⟩
   ·exact absurd ((h.conn q).symm h.wf) (sep s X0).2.2
   ·exact absurd ((h.conn q).symm h.wf) (sep s X0).2.1
 ·have:=aeI zK;simp only[List.length_cons,List.length_erase_of_mem zK];omega
theorem b4.O9{d':aj}{x u w:ID}(h:b4 d' x)(hu:bP d' (x,0)=some u)(hw:bP d' (x,1)=some w)(hf:¬Ti d' (x,0) (x,1)):cU (dv d' x) u w:=by
 have hm:(x,0)∈(cZ d').flatten:=(cg h.wf).p.mem_iff.2 h.x0;obtain⟨c,hc,h0⟩:=aeD.1 hm;have h1:(x,1)∉c:=fun k=>hf ⟨c,hc,h0,k⟩;have CP:=(cg h.wf).c c hc;obtain⟨B,k1,k2⟩:=CP.head h0;have hcd:∀z∈c,z∈ax d'.1:=fun z hz=>(cg h.wf).p.mem_iff.1 (aeD.2 ⟨c,hc,hz⟩);have cn:c.Nodup:=by obtain⟨p,q,e⟩:=aeC hc;have:=(cg h.wf).p.nodup_iff.2 h.wf.rw.n;rw[e]at this;exact(aeA.1 ((gG p q c).nodup_iff.1 this)).1
 have bn:=k2.nodup_iff.2 cn;have adb:∀z∈ax d'.1,bP d' (Vs.ph d' z)=bP d' (au z):=fun z hz=>by have ho:=h.wf.other hz;obtain⟨v,hv,ZY⟩:=bh.1 ho;rw[nj hz,oT h.wf.rw hv ZY];show Gn d'.1 _=Gn d'.1 _;rw[iJ h.wf.rw hv (oS (h.wf.rw.ring hv) ZY),iJ h.wf.rw hv ZY]
 have inC:∀z∈B,z∈ax (dv d' x).1:=fun z hz=>by
  have ZR:z∈c:=k2.mem_iff.1 (acm _ hz);rcases acp.1 (h.p.mem_iff.1 (hcd z ZR)) with e|e
  ·exact absurd (e▸hz) (adi.1 bn).1
  rcases acp.1 e with e|e
  ·exact absurd (e▸ZR) h1
  ·exact e
 have walk:∀(B:List ae) (a e:ID) (z:ae),(∀y∈B,y∈ax (dv d' x).1)→Path (Vs.ph d') B z→bP d' z=some e→(∀y,B.head? = some y→bP d' y=some a)→(B=[]→a=e)→cU (dv d' x) a e:=by
  intro B
  induction B with
  |nil=>intro a e z _ _ _ _ h5;rw[h5 rfl];exact .refl _
  |cons y r ih =>
   intro a e z hB hp hz ha _;have hy:=hB y (by simp);have hyd:=h.sub hy;obtain⟨v,hv,Us,yG⟩:=wj h.wf (h.wf.other hyd);have ZZ:Jl (dv d' x) a v.1:=⟨y,hy,by rw[h.at hy];exact ha y rfl,by rw[h.at (h.w.other hy)];exact yG⟩;have iP:bP d' (r.head?.getD z)=some v.1:=by rw[←show Vs.ph d' y=r.head?.getD z from hp.1,adb y hyd];exact yG
   refine ZZ.conn.trans (ih v.1 e z (fun q hq=>hB q (acm _ hq)) hp.2 hz (fun q hq=>?_) (fun hr=>?_))
   ·rw[hq]at iP;exact iP
   ·subst hr;have:bP d' z=some v.1:=iP;rw[hz]at this;exact(ac5 this).symm
 obtain⟨fx,pB⟩:=(show Path (Vs.ph d') ((x,0)::B) (x,0) from k1);have Lo:bP d' (B.head?.getD (x,0))=some w:=by rw[←fx,adb _ h.x0,CV];exact hw
 refine(walk B w u (x,0) inC pB hu (fun y hy=>by rw[hy]at Lo;exact Lo) (fun hB=>?_)).symm h.w;subst hB;have:bP d' (x,0)=some w:=Lo;rw[hu]at this;exact(ac5 this).symm
theorem Jm{d:aj}(h:ax d.1=[]){a b:ID}(k:cU d a b):a=b:=by
 induction k with
 |refl=>rfl
 |tail _ j _=>obtain⟨z,hz,_⟩:=j;rw[h]at hz;simp at hz
theorem b8.ids{l:List ah}(h:b8 l):(l.map (·.1)).Nodup:=by unfold List.Nodup;rw[List.pairwise_map];exact h.imp fun {a b} k e=>by rw[e,ck]at k;cases k
theorem MY:∀(n:Nat) (d:aj),Wf d→d.2.length=n→∀R,wi d R→∃k,d.1.length+ft d+2*k=2*R.length+d.2.length
 |0,d,hw,hl,R,hr=>by
  have he:d.2=[]:=by simpa using hl
  have hd:ax d.1=[]:=by have:=hw.pd;rw[he]at this;exact List.perm_nil.1 this
  have Yd:wi d (d.1.map (·.1)):=⟨hw.sv.ids,fun r hr=>by obtain⟨v,hv,rfl⟩:=adE.1 hr;exact⟨v,hv,rfl⟩,fun r _ s _ k=>Jm hd k,fun v hv=>⟨v.1,adE.2 ⟨v,hv,rfl⟩,.refl _⟩⟩;have hlen:=hr.len hw Yd;have hf:cZ d=[]:=by unfold cZ;rw[he];rfl
  have ha:al d.1=d.1.length:=by
   unfold al;rw[List.countP_eq_length];intro v hv;rw[List.isEmpty_iff]
   cases hq:v.2.1 with
   |nil=>rfl
   |cons y r =>have:y∈ax d.1:=bh.2 ⟨v,hv,by rw[hq];simp⟩;rw[hd]at this;simp at this
  refine⟨0,?_⟩;unfold ft;rw[hf,ha,hlen,he];simp;omega
 |n+1,d,hw,hl,R,hr=>by
  obtain⟨e,r,he⟩:∃e r,d.2=e::r:=by
   cases hq:d.2 with
   |nil=>rw[hq]at hl;simp at hl
   |cons e r=>exact⟨e,r,rfl⟩
  have hc:b4 d e.1:=⟨hw,by unfold aX;rw[he];simp⟩;obtain⟨u,w,hu,hwt,_,_⟩:=hc.MX;have hv:(dv d e.1).1.length=d.1.length:=by have:=congrArg List.length hc.ids;simpa using this
  have JU:(dv d e.1).2.length=n:=by
   have h1:=hc.w.pd.length_eq;have h2:=hw.pd.length_eq;have h3:=hc.p.length_eq;have e2:∀l:List ai,(ends l).length=2*l.length:=fun l=>by
    induction l with
    |nil=>rfl
    |cons e r ih=>rw[j4];simp[ih];omega
   rw[e2]at h1 h2;simp at h3;omega
  by_cases hf:Ti d (e.1,0) (e.1,1)
  ·have h1:=(hc.same hf).1;by_cases k:cU (dv d e.1) u w
   ·obtain⟨g,hg⟩:=MY n (dv d e.1) hc.w JU R (hc.VN hu hwt k hr);exact⟨g+1,by omega⟩
   ·obtain⟨R2,h2,h3⟩:=hc.Xy hu hwt k hr;obtain⟨g,hg⟩:=MY n (dv d e.1) hc.w JU R2 h2;exact⟨g,by omega⟩
  ·have h1:=hc.diff hf;obtain⟨g,hg⟩:=MY n (dv d e.1) hc.w JU R (hc.VN hu hwt (hc.O9 hu hwt hf) hr);exact⟨g,by omega⟩
def cO(d:aj)(i:Nat):ID:=((d.1[i]?).getD zV).1
theorem nk{d:aj}{i:Nat}{v:ah}(h:d.1[i]? = some v):cO d i=v.1:=by unfold cO;rw[h];rfl
theorem jB{d:aj}(hs:b8 d.1){i j:Nat}(hi:i<d.1.length)(hj:j<d.1.length)(h:cO d i=cO d j):i=j:=by have h1:=aaY hi;have h2:=aaY hj;rw[nk h1,nk h2]at h;rw[jZ hs h1 rfl,jZ hs h2 rfl,h]
theorem Tk{x:ID}:∀{l:List ah} {i:Nat} {v:ah} (k:Int),l[i]? = some v→v.1=x→(∀j u,j<i→l[j]? = some u→u.1≠x)→Ao x l k=k+i
 |w::r,0,v,k,h,hv,_=>by simp at h;subst h;rw[Ao,if_pos hv];simp
 |w::r,i+1,v,k,h,hv,hn=>by have h0:=hn 0 w (by omega) (by simp);rw[Ao,if_neg h0,Tk (i:=i) (v:=v) (k+1) (by simpa using h) hv (fun j u hj hu=>hn (j+1) u (by omega) (by simpa using hu))];omega
theorem Tl{d:aj}(hs:b8 d.1){i:Nat}(hi:i<d.1.length):Ao (cO d i) d.1 0=(i:Int):=by have h:=aaY hi;have:=Tk (x:=cO d i) (l:=d.1) (i:=i) (v:=d.1[i]) 0 h (nk h).symm (fun j u hj hu he=>by have h1:=jB hs (show j<d.1.length by omega) hi ((nk hu).trans he);omega);omega
theorem Lq{d:aj}(hw:Wf d){z:ae}(hz:z∈ax d.1):∃i,i<d.1.length∧bP d z=some (cO d i):=by obtain⟨v,hv,_,h⟩:=wj hw hz;obtain⟨i,hi,he⟩:=aeO hv;refine⟨i,hi,?_⟩;rw[h,nk (List.getElem?_eq_getElem hi),he]
structure GG(d:aj)(L:List Int):Prop where
 n:L.length=d.1.length
 i:∀i,i<d.1.length→∃j:Nat,j≤i∧L.getD i 0=(j:Int)∧cU d (cO d i) (cO d j)
def fM(d:aj)(L:List Int)(i:Nat):Prop:=∀j,j<d.1.length→cU d (cO d i) (cO d j)→L.getD i 0≤(j:Int)
structure Jn(d:aj)(L:List Int):Prop where
 l:GG d L
 r:∀i,i<d.1.length→fM d L i
theorem Jo{L:List Int}{a i:Nat}(x:Int):(L.set a x).getD i 0=if a=i∧a<L.length then x else L.getD i 0:=by
 simp only[List.getD];rw[List.getElem?_set];by_cases h:a=i
 ·subst h;by_cases k:a<L.length
  ·simp[k]
  ·simp[k]
 ·simp[h]
def DR(a b:Nat)(L:List Int):List Int:=(L.set a (min (L.getD a 0) (L.getD b 0))).set b (min (L.getD a 0) (L.getD b 0))
theorem Tn{L:List Int}{a b:Nat}(ha:a<L.length)(hb:b<L.length)(i:Nat):(DR a b L).getD i 0=if i=a∨i=b then min (L.getD a 0) (L.getD b 0) else L.getD i 0:=by
 unfold DR;rw[Jo,Jo,List.length_set];by_cases h1:b=i
 ·rw[if_pos ⟨h1,hb⟩,if_pos (.inr h1.symm)]
 ·rw[if_neg (fun k=>h1 k.1)];by_cases h2:a=i
  ·rw[if_pos ⟨h2,ha⟩,if_pos (.inl h2.symm)]
  ·rw[if_neg (fun k=>h2 k.1),if_neg (fun k=>k.elim (fun m=>h2 m.symm) (fun m=>h1 m.symm))]
theorem Pb{d:aj}(hw:Wf d){L:List Int}(h:GG d L){a b:Nat}(ha:a<d.1.length)(hb:b<d.1.length)(mH:cU d (cO d a) (cO d b)):GG d (DR a b L)∧(∀i,i<d.1.length→fM d L i→fM d (DR a b L) i)∧(fM d L a→fM d (DR a b L) b)∧(fM d L b→fM d (DR a b L) a):=by
 have Uf:a<L.length:=by rw[h.n];exact ha
 have Lr:b<L.length:=by rw[h.n];exact hb
 have gl:=Tn Uf Lr;obtain⟨ja,a1,a2,a3⟩:=h.i a ha;obtain⟨jb,b1,b2,b3⟩:=h.i b hb;have hba:=mH.symm hw;refine⟨⟨by unfold DR;simp[h.n],fun i hi=>?_⟩,fun i hi hr j hj hc=>?_,fun hr j hj hc=>?_,fun hr j hj hc=>?_⟩
 ·rw[gl];by_cases Ls:i=a∨i=b
  ·rw[if_pos Ls];have conn:cU d (cO d i) (cO d a)∧cU d (cO d i) (cO d b):=by
    rcases Ls with rfl|rfl
    ·exact⟨.refl _,mH⟩
    ·exact⟨hba,.refl _⟩
   by_cases hle:L.getD a 0≤L.getD b 0
   ·refine⟨ja,?_,by rw[←a2];omega,conn.1.trans a3⟩;rcases Ls with rfl|rfl
    ·exact a1
    ·rw[a2,b2]at hle;omega
   ·refine⟨jb,?_,by rw[←b2];omega,conn.2.trans b3⟩;rcases Ls with rfl|rfl
    ·rw[a2,b2]at hle;omega
    ·exact b1
  ·rw[if_neg Ls];exact h.i i hi
 ·rw[gl]
  split
  ·rename_i Ls;have:=hr j hj hc;rcases Ls with rfl|rfl<;>omega
  ·exact hr j hj hc
 ·rw[gl,if_pos (.inr rfl)];have:=hr j hj (mH.trans hc);omega
 ·rw[gl,if_pos (.inl rfl)];have:=hr j hj (hba.trans hc);omega
theorem YX{d:aj}(hw:Wf d){e:ai}(he:e∈d.2)(L:List Int):∃a b,a<d.1.length∧b<d.1.length∧bP d (e.1,0)=some (cO d a)∧bP d (e.1,1)=some (cO d b)∧Gu d e L=DR a b L:=by have h0:(e.1,0)∈ax d.1:=hw.pd.mem_iff.2 (cG.2 ⟨e,he,rfl,.inl rfl⟩);have h1:(e.1,1)∈ax d.1:=hw.pd.mem_iff.2 (cG.2 ⟨e,he,rfl,.inr rfl⟩);obtain⟨a,ha,ea⟩:=Lq hw h0;obtain⟨b,hb,eb⟩:=Lq hw h1;refine⟨a,b,ha,hb,ea,eb,?_⟩;unfold Gu DR;rw[ea,eb];simp only[Option.getD_some,Tl hw.sv ha,Tl hw.sv hb,Int.toNat_natCast];rw[if_pos ⟨by omega,by omega⟩]
theorem uD{d:aj}(hw:Wf d):∀(l:List ai) {L:List Int},(∀e∈l,e∈d.2)→GG d L→GG d (jJ d l L)∧(∀i,i<d.1.length→fM d L i→fM d (jJ d l L) i) ∧(∀e∈l,∀a b,a<d.1.length→b<d.1.length→((bP d (e.1,0)=some (cO d a)∧bP d (e.1,1)=some (cO d b))∨(bP d (e.1,0)=some (cO d b)∧bP d (e.1,1)=some (cO d a)))→fM d L a→fM d (jJ d l L) b)
 |[],L,_,h=>⟨h,fun i hi hr=>hr,fun e he=>by simp at he⟩
 |e::r,L,hl,h=>by
  have he:=hl e (ac4 ..);obtain⟨a,b,ha,hb,ea,eb,el⟩:=YX hw he L;have h0:(e.1,0)∈ax d.1:=hw.pd.mem_iff.2 (cG.2 ⟨e,he,rfl,.inl rfl⟩);have mH:cU d (cO d a) (cO d b):=Jl.conn ⟨(e.1,0),h0,ea,by rw[CV];exact eb⟩;obtain⟨s1,s2,s3,s4⟩:=Pb hw h ha hb mH;obtain⟨t1,t2,t3⟩:=uD hw r (L:=DR a b L) (fun e he=>hl e (acm _ he)) s1;show GG d (jJ d r (Gu d e L))∧_∧_;rw[el];refine⟨t1,fun i hi hr=>?_,fun f hf p q hp hq A5 hr=>?_⟩
  ·show fM d (jJ d r (Gu d e L)) i;rw[el];exact t2 i hi (s2 i hi hr)
  ·show fM d (jJ d r (Gu d e L)) q;rw[el];rcases acp.1 hf with rfl|hf
   ·refine t2 q hq ?_;rcases A5 with⟨k1,k2⟩|⟨k1,k2⟩
    ·rw[ea]at k1;rw[eb]at k2;have:=jB hw.sv ha hp (ac5 k1);subst this;have:=jB hw.sv hb hq (ac5 k2);subst this;exact s3 hr
    ·rw[ea]at k1;rw[eb]at k2;have:=jB hw.sv ha hq (ac5 k1);subst this;have:=jB hw.sv hb hp (ac5 k2);subst this;exact s4 hr
   ·exact t3 f hf p q hp hq A5 (s2 p hp hr)
theorem Lt{d:aj}(i:Nat)(hi:i<d.1.length):∃m,m<d.1.length∧cU d (cO d i) (cO d m)∧∀j,j<d.1.length→cU d (cO d i) (cO d j)→m≤j:=by
 induction i using Nat.strongRecOn with
 |ind i ih =>
  by_cases h:∃j,j<i∧cU d (cO d i) (cO d j)∧cU d (cO d j) (cO d i)
  ·obtain⟨j,hj,hc,oY⟩:=h;obtain⟨m,h1,h2,h3⟩:=ih j hj (by omega);exact⟨m,h1,hc.trans h2,fun k hk hck=>h3 k hk (oY.trans hck)⟩
  ·by_cases hs:∃j,j<i∧cU d (cO d i) (cO d j)
   ·obtain⟨j,hj,hc⟩:=hs;have key:∀n,n≤i→(∃m,m<n∧cU d (cO d i) (cO d m))→∃m,m<d.1.length∧cU d (cO d i) (cO d m)∧∀j,j<d.1.length→cU d (cO d i) (cO d j)→m≤j:=by
     intro n
     induction n with
     |zero=>rintro _ ⟨m,hm,_⟩;omega
     |succ n ihn =>
      rintro hn ⟨m,hm,Ot⟩;by_cases hb:∃m,m<n∧cU d (cO d i) (cO d m)
      ·exact ihn (by omega) hb
      ·have:m=n:=Classical.byContradiction fun k=>hb ⟨m,by omega,Ot⟩;subst this;refine⟨m,by omega,Ot,fun j hj Ow=>Classical.byContradiction fun k=>hb ⟨j,by omega,Ow⟩⟩
    exact key i (adj _) ⟨j,hj,hc⟩
   ·refine⟨i,hi,.refl _,fun j hj hc=>Classical.byContradiction fun k=>hs ⟨j,by omega,hc⟩⟩
theorem Pc{d:aj}(P:ID→Prop){x y:ID}(h:cU d x y)(hx:P x)(hy:¬P y):∃a b,Jl d a b∧P a∧¬P b:=by
 induction h with
 |refl=>exact absurd hx hy
 | @tail b c k j ih =>
  by_cases hb:P b
  ·exact⟨_,_,j,hb,hy⟩
  ·exact ih hb
open Classical in
theorem Jp{P Q:Nat→Prop}:∀{l:List Nat},(∀i∈l,P i→Q i)→(∃i∈l,Q i∧¬P i)→l.countP (fun i=>decide (P i))<l.countP (fun i=>decide (Q i))
 |[],_,h=>by obtain⟨i,hi,_⟩:=h;simp at hi
 |x::r,h,⟨i,hi,hq,hp⟩=>by
  have mono:r.countP (fun i=>decide (P i))≤r.countP (fun i=>decide (Q i)):=by
   have hr:∀i∈r,P i→Q i:=fun i hi=>h i (acm _ hi);clear h hi
   induction r with
   |nil=>simp
   |cons y r ih =>
    rw[List.countP_cons,List.countP_cons];have:=ih (fun i hi=>hr i (acm _ hi));have h2:=hr y (ac4 ..);by_cases hy:P y
    ·simp[hy,h2 hy];exact this
    ·simp[hy];omega
  rw[List.countP_cons,List.countP_cons];rcases acp.1 hi with rfl|hi
  ·simp[hq,hp];omega
  ·have:=Jp (l:=r) (fun i hi=>h i (acm _ hi)) ⟨i,hi,hq,hp⟩;have hx:=h x (ac4 ..);by_cases hpx:P x
   ·simp[hpx,hx hpx];exact this
   ·simp[hpx];omega
theorem Lu{d:aj}(hw:Wf d){L:List Int}(h:GG d L)(hn:∃i,i<d.1.length∧¬fM d L i):∃i,i<d.1.length∧fM d (jJ d d.2 L) i∧¬fM d L i:=by
 obtain⟨i,hi,hr⟩:=hn;obtain⟨m,m1,m2,m3⟩:=Lt i hi;have hm:fM d L m:=fun j hj hc=>by obtain⟨q,q1,q2,_⟩:=h.i m m1;have:=m3 j hj (m2.trans hc);rw[q2];omega
 let P:ID→Prop:=fun x=>∃k,k<d.1.length∧cO d k=x∧fM d L k
 have hx:P (cO d m):=⟨m,m1,rfl,hm⟩;have hy:¬P (cO d i):=fun⟨k,k1,k2,k3⟩=>by have:=jB hw.sv k1 hi k2;exact hr (this▸k3)
 obtain⟨a,b,⟨z,hz,za,zb⟩,⟨p,p1,p2,p3⟩,hb⟩:=Pc P (m2.symm hw) hx hy;obtain⟨q,q1,q2⟩:=Lq hw (hw.other hz);rw[zb]at q2;have hbq:b=cO d q:=ac5 q2;obtain⟨e,he,e1,e2⟩:=cG.1 (hw.pd.mem_iff.1 hz);refine⟨q,q1,?_,fun k=>hb ⟨q,q1,hbq.symm,k⟩⟩;refine(uD hw d.2 (fun _ h=>h) h).2.2 e he p q p1 q1 ?_ p3;rw[p2,←hbq];obtain⟨z1,z2⟩:=z;simp only at e1 e2;subst e1;rcases e2 with rfl|rfl
 ·exact .inl ⟨za,zb⟩
 ·exact .inr ⟨zb,za⟩
open Classical in
theorem CY{d:aj}(hw:Wf d):∀(n:Nat) {L:List Int},GG d L→d.1.length≤n+(List.range d.1.length).countP (fun i=>decide (fM d L i))→Jn d (IV d n L)
 |0,L,h,hc=>by
  refine⟨h,fun i hi=>?_⟩;have h1:(List.range d.1.length).countP (fun i=>decide (fM d L i))=(List.range d.1.length).length:=by have:=aeL (p:=fun i=>decide (fM d L i)) (l:=List.range d.1.length);simp at this ⊢;omega
  have:=List.countP_eq_length.1 h1 i (aey.2 hi);exact of_decide_eq_true this
 |n+1,L,h,hc=>by
  obtain⟨s1,s2,_⟩:=uD hw d.2 (fun _ h=>h) h;show Jn d (IV d n (jJ d d.2 L));refine CY hw n s1 ?_;by_cases hn:∃i,i<d.1.length∧¬fM d L i
  ·obtain⟨i,hi,h1,h2⟩:=Lu hw h hn;have:=Jp (P:=fM d L) (Q:=fM d (jJ d d.2 L)) (l:=List.range d.1.length) (fun i hi=>s2 i (aey.1 hi)) ⟨i,aey.2 hi,h1,h2⟩;omega
  ·have:(List.range d.1.length).countP (fun i=>decide (fM d (jJ d d.2 L) i))=(List.range d.1.length).length:=by rw[List.countP_eq_length];intro i hi;have hi:=aey.1 hi;exact decide_eq_true (s2 i hi (Classical.byContradiction fun k=>hn ⟨i,hi,k⟩))
   rw[this];simp
theorem YY(d:aj):GG d (DO d.1.length):=by refine⟨by unfold DO;simp,fun i hi=>⟨i,adj _,?_,.refl _⟩⟩;unfold DO;simp[List.getD,hi]
theorem fH{d:aj}(hw:Wf d):Jn d (labels d):=CY hw d.1.length (YY d) (by omega)
theorem Jn.uniq{d:aj}(hw:Wf d){L M:List Int}(h:Jn d L)(k:Jn d M):L=M:=by
 apply aeN;intro i;by_cases hi:i<d.1.length
 ·have e1:L[i]? = some (L.getD i 0):=by rw[List.getElem?_eq_getElem (by rw[h.l.n];exact hi)];simp[List.getD,h.l.n,hi]
  have e2:M[i]? = some (M.getD i 0):=by rw[List.getElem?_eq_getElem (by rw[k.l.n];exact hi)];simp[List.getD,k.l.n,hi]
  obtain⟨a,a1,a2,a3⟩:=h.l.i i hi;obtain⟨b,b1,b2,b3⟩:=k.l.i i hi;have h1:=h.r i hi b (by omega) b3;have h2:=k.r i hi a (by omega) a3;rw[e1,e2];congr 1;omega
 ·rw[List.getElem?_eq_none (by rw[h.l.n];omega),List.getElem?_eq_none (by rw[k.l.n];omega)]
def kW(d:aj)(L:List Int):List ID:=((List.range d.1.length).filter fun i=>decide (L.getD i 0=(i:Int))).map (cO d)
theorem nm{d:aj}(hw:Wf d){L:List Int}(h:Jn d L):wi d (kW d L):=by
 have mem:∀{r:ID},r∈kW d L↔∃i,i<d.1.length∧L.getD i 0=(i:Int)∧cO d i=r:=fun {r}=>by
  unfold kW;rw[List.mem_map];constructor
  ·rintro⟨i,hi,rfl⟩;rw[List.mem_filter,List.mem_range]at hi;exact⟨i,hi.1,by simpa using hi.2,rfl⟩
  ·rintro⟨i,h1,h2,rfl⟩;exact⟨i,by rw[List.mem_filter,List.mem_range];exact⟨h1,by simpa using h2⟩,rfl⟩
 refine⟨?_,fun r hr=>?_,fun r hr s hs hc=>?_,fun v hv=>?_⟩
 ·unfold kW List.Nodup;rw[List.pairwise_map];have hp:((List.range d.1.length).filter fun i=>decide (L.getD i 0=(i:Int))).Nodup:=List.nodup_range.filter _;refine List.Pairwise.imp_of_mem (fun {a b} ha hb bw e=>bw ?_) hp;exact jB hw.sv (aey.1 (aeK.1 ha).1) (aey.1 (aeK.1 hb).1) e
 ·obtain⟨i,hi,_,rfl⟩:=mem.1 hr;exact⟨d.1[i],adv hi,(nk (aaY hi)).symm⟩
 ·obtain⟨i,hi,h1,rfl⟩:=mem.1 hr;obtain⟨j,hj,h2,rfl⟩:=mem.1 hs;have k1:=h.r i hi j hj hc;have k2:=h.r j hj i hi (hc.symm hw);have:i=j:=by omega
  rw[this]
 ·obtain⟨i,hi,he⟩:=aeO hv;have bS:cO d i=v.1:=by rw[nk (List.getElem?_eq_getElem hi),he]
  obtain⟨j,j1,j2,j3⟩:=h.l.i i hi;refine⟨cO d j,mem.2 ⟨j,by omega,?_,rfl⟩,by rw[←bS];exact j3⟩;obtain⟨k,k1,k2,k3⟩:=h.l.i j (by omega);have h1:=h.r i hi k (by omega) (j3.trans k3);rw[j2]at h1;rw[k2];have:j=k:=by omega
  rw[this]
theorem xT:∀(l:List Int) (i:Nat) (n:Nat),n+l.length≤1000000→p4 l (i:Int) (n:Int)=((n+((List.range l.length).filter fun j=>decide (l.getD j 0=((i+j:Nat):Int))).length:Nat):Int)
 |[],i,n,_=>by simp[p4]
 |x::r,i,n,h=>by
  simp at h;have e:((List.range (x::r).length).filter fun j=>decide ((x::r).getD j 0=((i+j:Nat):Int))).length=(if x=(i:Int) then 1 else 0)+((List.range r.length).filter fun j=>decide (r.getD j 0=((i+1+j:Nat):Int))).length:=by
   rw[List.length_cons,List.range_succ_eq_map,List.filter_cons];have e2:((List.range r.length).map Nat.succ).filter (fun j=>decide ((x::r).getD j 0=((i+j:Nat):Int)))=((List.range r.length).filter fun j=>decide (r.getD j 0=((i+1+j:Nat):Int))).map Nat.succ:=by rw[List.filter_map];congr 1;apply List.filter_congr;intro j _;simp only[Function.comp,Nat.succ_eq_add_one,List.getD_cons_succ];rw[show i+(j+1)=i+1+j by omega]
   rw[e2];simp only[List.getD_cons_zero,Nat.add_zero];by_cases hx:x=(i:Int)
   ·simp[hx];omega
   ·simp[hx]
  rw[e];unfold p4;have hi:((i:Int)+1)=((i+1:Nat):Int):=by omega
  rw[hi];by_cases hx:x=(i:Int)
  ·rw[if_pos hx,if_pos hx];have hw:IntKind.wrap .i64 ((n:Int)+1)=((n+1:Nat):Int):=by rw[wrap_small (by omega) (by omega)];omega
   rw[hw,xT r (i+1) (n+1) (by omega)];congr 1;omega
  ·rw[if_neg hx,if_neg hx,xT r (i+1) n (by omega)];congr 1;omega
theorem sM{d:aj}(hw:Wf d):fb d=((kW d (labels d)).length:Int):=by have h:=fH hw;have hn:=hw.nv;unfold fb;have:=xT (labels d) 0 0 (by rw[h.l.n];omega);simp only[Nat.zero_add]at this;have e:p4 (labels d) 0 0=p4 (labels d) ((0:Nat):Int) ((0:Nat):Int):=rfl;rw[e,this];unfold kW;rw[List.length_map,h.l.n]
theorem xU:∀(l:List ah) (n:Nat),n+l.length≤1000000→rB l (n:Int)=((n+al l:Nat):Int)
 |[],n,_=>by simp[rB,al]
 |v::r,n,h=>by
  simp at h;unfold rB al;rw[List.countP_cons];by_cases hv:v.2.1.length=0
  ·have:v.2.1.isEmpty=true:=by rw[List.isEmpty_iff];simpa using hv
   have hw:IntKind.wrap .i64 ((n:Int)+1)=((n+1:Nat):Int):=by rw[wrap_small (by omega) (by omega)];omega
   rw[if_pos hv,hw,xU r (n+1) (by omega),this];unfold al;congr 1;simp;omega
  ·have:v.2.1.isEmpty=false:=by
    cases hq:v.2.1 with
    |nil=>rw[hq]at hv;exact absurd rfl hv
    |cons _ _=>rfl
   rw[if_neg hv,xU r n (by omega),this];unfold al;simp
theorem wm{d:aj}(hw:Wf d):(cZ d).length≤80:=by
 have h:=cg hw;have h1:=h.p.length_eq;have h2:=hw.Jk;have h3:(cZ d).length≤(cZ d).flatten.length:=by
  have hc:=h.c;generalize cZ d=cs at hc
  induction cs with
  |nil=>simp
  |cons c r ih =>have:=ih (fun c ZV=>hc c (acm _ ZV));have h1:=(hc c (ac4 ..)).ne;have:0<c.length:=Nat.pos_of_ne_zero fun k=>h1 (List.length_eq_zero_iff.1 k);simp only[List.length_cons,List.flatten_cons,List.length_append];omega
 omega
theorem Pd{d:aj}(hw:Wf d):Cz d=((ft d:Nat):Int):=by unfold Cz ft;have:=hw.nv;have:=wm hw;exact xU d.1 (cZ d).length (by omega)
theorem Tp{d:aj}(hw:Wf d){R:List ID}(hr:wi d R):∃k:Nat,fW d=(k:Int)∧d.1.length+ft d+2*k=2*R.length+d.2.length:=by
 have hl:=(nm hw (fH hw)).len hw hr;obtain⟨k,hk⟩:=MY d.2.length d hw rfl R hr;refine⟨k,?_,hk⟩;have hn:=hw.nv;have he:=hw.ne;have hf:=wm hw;have ha:al d.1≤d.1.length:=aeL;have hR:R.length≤d.1.length:=by rw[←hl];unfold kW;rw[List.length_map];exact adC (aew _ _) (by simp)
 have hft:ft d=(cZ d).length+al d.1:=rfl;unfold fW;rw[sM hw,Pd hw,hl];rw[wrap_small (n:=2*((R.length:Nat):Int)) (by omega) (by omega)];rw[wrap_small (n:=2*((R.length:Nat):Int)-((d.1.length:Nat):Int)) (by omega) (by omega)];rw[wrap_small (n:=2*((R.length:Nat):Int)-((d.1.length:Nat):Int)+((d.2.length:Nat):Int)) (by omega) (by omega)];have e:2*((R.length:Nat):Int)-((d.1.length:Nat):Int)+((d.2.length:Nat):Int)-((ft d:Nat):Int)=2*(k:Int):=by omega
 rw[e,wrap_small (n:=2*(k:Int)) (by omega) (by omega)];have e2:Int.tdiv (2*(k:Int)) 2=(k:Int):=by rw[Int.tdiv_eq_ediv_of_nonneg (by omega)];omega
 rw[e2,wrap_small (by omega) (by omega)]
end Go.Vs
