/- Faces -/
import Derived.Test.YtpkfpbpbkabkdaaGreatSplits
set_option linter.unusedVariables false
set_option linter.unusedSimpArgs false
namespace Go.Cy
variable {α:Type}
def Path(f:α→α):List α→α→Prop
 |[],_=>True
 |x::r,z=>f x=r.head?.getD z∧Path f r z
theorem Path.app{f:α→α}:∀{a b:List α} {z:α},Path f (a++b) z↔Path f a (b.head?.getD z)∧Path f b z
 |[],b,z=>by simp[Path]
 |x::r,b,z=>by
  have ih:=Path.app (f:=f) (a:=r) (b:=b) (z:=z);simp only[List.cons_append,Path];rw[ih];have:(r++b).head?.getD z=r.head?.getD (b.head?.getD z):=by cases r<;>simp
  rw[this,and_assoc]
theorem Path.congr{f g:α→α}:∀{a:List α} {z:α},(∀x∈a,g x=f x)→Path f a z→Path g a z
 |[],_,_,_=>trivial
 |x::r,z,h,p=>⟨(h x (abZ ..)).trans p.1,Path.congr (fun y hy=>h y (abq _ hy)) p.2⟩
def jL(f:α→α):List α→Prop
 |[]=>False
 |x::r=>Path f (x::r) x
theorem jL.two{f:α→α}{x y:α}{a b:List α}:jL f ((x::a)++(y::b))↔Path f (x::a) y∧Path f (y::b) x:=by show Path f ((x::a)++(y::b)) x↔_;rw[Path.app];rfl
theorem jL.Gb{f:α→α}:∀{a b:List α},jL f (a++b)→jL f (b++a)
 |[],b,h=>by simpa using h
 |x::a,[],h=>by simpa using h
 |x::a,y::b,h=>jL.two.2 ⟨(jL.two.1 h).2,(jL.two.1 h).1⟩
theorem jL.ne{f:α→α}{c:List α}(h:jL f c):c≠[]:=by rintro rfl;exact h
theorem jL.congr{f g:α→α}{c:List α}(h:∀x∈c,g x=f x)(k:jL f c):jL g c:=by
 cases c with
 |nil=>exact k
 |cons x r=>exact Path.congr h k
theorem Path.step{f:α→α}:∀{a:List α} {z x:α},Path f a z→x∈a→f x∈a∨f x=z
 |y::r,z,x,p,hx=>by
  rcases abw.1 hx with rfl|hx
  ·cases r with
   |nil=>exact .inr p.1
   |cons u r=>exact .inl (by have:=p.1;simp at this;rw[this];simp)
  ·rcases Path.step p.2 hx with h|h
   ·exact .inl (abq _ h)
   ·exact .inr h
theorem jL.step{f:α→α}{c:List α}(h:jL f c){x:α}(hx:x∈c):f x∈c:=by
 cases c with
 |nil=>exact h.elim
 |cons y r =>
  rcases Path.step (show Path f (y::r) y from h) hx with k|k
  ·exact k
  ·rw[k];simp
def it(f:α→α):Nat→α→α
 |0,x=>x
 |n+1,x=>it f n (f x)
theorem jL.it{f:α→α}{c:List α}(h:jL f c):∀(n:Nat) {x:α},x∈c→it f n x∈c
 |0,_,hx=>hx
 |n+1,_,hx=>jL.it h n (h.step hx)
theorem Path.reach{f:α→α}:∀{r:List α} {x z:α},Path f (x::r) z→∀y∈x::r,∃n,it f n x=y
 |[],x,z,_,y,hy=>by simp at hy;exact⟨0,hy.symm⟩
 |u::r,x,z,p,y,hy=>by
  rcases abw.1 hy with rfl|hy
  ·exact⟨0,rfl⟩
  ·have h1:f x=u:=p.1;obtain⟨n,hn⟩:=Path.reach p.2 y hy;exact⟨n+1,by show it f n (f x)=y;rw[h1];exact hn⟩
theorem jL.head{f:α→α}{c:List α}(h:jL f c){x:α}(hx:x∈c):∃r,jL f (x::r)∧(x::r).Perm c:=by obtain⟨a,b,rfl⟩:=adM hx;exact⟨b++a,jL.Gb h,ad0 (l₁:=x::b) (l₂:=a)⟩
theorem jL.reach{f:α→α}{c:List α}(h:jL f c){x y:α}(hx:x∈c)(hy:y∈c):∃n,Cy.it f n x=y:=by obtain⟨r,h1,h2⟩:=h.head hx;exact Path.reach (show Path f (x::r) x from h1) y (h2.mem_iff.2 hy)
theorem jL.same{f:α→α}{c c':List α}(h:jL f c)(h':jL f c'){x:α}(hx:x∈c)(T6:x∈c'){y:α}(hy:y∈c):y∈c':=by obtain⟨n,hn⟩:=h.reach hx hy;rw[←hn];exact h'.it n T6
structure EV(f:α→α)(D:List α)(cs:List (List α)):Prop where
 c:∀c∈cs,jL f c
 p:cs.flatten.Perm D
theorem gy(p q:List (List α))(c:List α):(p++c::q).flatten.Perm (c++(p++q).flatten):=by simp only[List.flatten_append,List.flatten_cons];rw[←List.append_assoc,←List.append_assoc];exact ada _ ad0
theorem EV.count{f:α→α}:∀{cs cs':List (List α)} {D:List α},D.Nodup→EV f D cs→EV f D cs'→cs.length=cs'.length
 |[],cs',D,hn,h,h'=>by
  have hD:D=[]:=by have:=h.p;simp at this;exact this.symm▸rfl
  subst hD
  cases cs' with
  |nil=>rfl
  |cons c r =>
   have:=h'.p.length_eq;have h1:=(h'.c c (by simp)).ne
   cases c with
   |nil=>exact absurd rfl h1
   |cons x c=>simp at this
 |c::r,cs',D,hn,h,h'=>by
  have hc:=h.c c (by simp);obtain⟨x,c0,rfl⟩:∃x c0,c=x::c0:=by
   cases c with
   |nil=>exact hc.elim
   |cons x c0=>exact⟨x,c0,rfl⟩
  have hx:x∈cs'.flatten:=h'.p.mem_iff.2 (h.p.mem_iff.1 (by simp));obtain⟨c',Zm,ab3⟩:=adN.1 hx;obtain⟨p,q,rfl⟩:=adM Zm;have ab4:=h'.c c' (by simp);have n1:(x::c0).Nodup:=by have:=h.p.nodup_iff.2 hn;rw[List.flatten_cons]at this;exact(adK.1 this).1
  have n2:c'.Nodup:=by have:=(gy p q c').nodup_iff.1 (h'.p.nodup_iff.2 hn);exact(adK.1 this).1
  have pc:(x::c0).Perm c':=(List.perm_ext_iff_of_nodup n1 n2).2 fun y=>⟨fun hy=>hc.same ab4 (by simp) ab3 hy,fun hy=>ab4.same hc ab3 (by simp) hy⟩;have pd:((x::c0)++r.flatten).Perm ((x::c0)++(p++q).flatten):=by
   have e1:((x::c0)++r.flatten).Perm D:=by have:=h.p;rwa [List.flatten_cons]at this
   have e2:(c'++(p++q).flatten).Perm D:=(gy p q c').symm.trans h'.p;exact e1.trans (e2.symm.trans (ada _ pc.symm))
  have pr:=(List.perm_append_left_iff _).1 pd;have Uj:r.flatten.Nodup:=by have:=h.p.nodup_iff.2 hn;rw[List.flatten_cons]at this;exact(adK.1 this).2.1
  have ih:=EV.count (cs:=r) (cs':=p++q) (D:=r.flatten) Uj ⟨fun c hc=>h.c c (by simp[hc]),ad7 _⟩ ⟨fun c hc=>h'.c c (by rcases ab0.1 hc with k|k<;>simp[k]),pr.symm⟩;simp at ih ⊢;omega
theorem Path.kV{f g:α→α}:∀{a:List α} {z z':α},Path f a z→z∉a.tail→(∀u∈a,f u≠z→g u=f u)→(∀u∈a,f u=z→g u=z')→Path g a z'
 |[],_,_,_,_,_,_=>trivial
 |[x],z,z',p,hz,h1,h2=>⟨h2 x (by simp) p.1,trivial⟩
 |x::y::r,z,z',p,hz,h1,h2=>by have e:f x=y:=p.1;have aW:y≠z:=fun k=>hz (by simp[k]);refine⟨(h1 x (by simp) (by rw[e];exact aW)).trans e,?_⟩;exact Path.kV p.2 (fun k=>hz (abq _ k)) (fun u hu=>h1 u (abq _ hu)) (fun u hu=>h2 u (abq _ hu))
def nz:List α→Nat
 |[]=>0
 |_::_=>1
def kW(l:List α):List (List α):=match l with | []=>[]|x::r=>[x::r]
theorem uK(l:List α):(kW l).flatten=l:=by cases l<;>simp[kW]
theorem EW(l:List α):(kW l).length=nz l:=by cases l<;>rfl
theorem mM{l:List α}{z:α}(h:z∈l.tail):z∈l:=List.mem_of_mem_tail h
section
variable [DecidableEq α]
def wx(f':α→α)(x y:α)(z:α):α :=if f' z=x then(if f' y=y then f' x else f' y) else if f' z=y then(if f' x=x then f' y else f' x) else f' z
theorem EV.R4{f' f:α→α}{x y:α}{D:List α}{cs':List (List α)}{c:List α}(Ug:x≠y)(hn:(x::y::D).Nodup)(h:EV f' (x::y::D) cs')(hf:∀z∈D,f z=wx f' x y z)(hc:c∈cs')(hx:x∈c)(hy:y∈c) :
  ∃cs,EV f D cs∧cs.length+1=cs'.length+(if f' x=y then 0 else 1)+(if f' y=x then 0 else 1):=by
 obtain⟨p,q,rfl⟩:=adM hc;have P1:=h.c c hc;obtain⟨r,h1,h2⟩:=P1.head hx;have hyr:y∈r:=by
  rcases abw.1 (h2.mem_iff.2 hy) with k|k
  ·exact absurd k.symm Ug
  ·exact k
 obtain⟨B,A,rfl⟩:=adM hyr;have h3:jL f' ((x::B)++(y::A)):=h1;obtain⟨⟨fx,pB⟩,⟨fy,pA⟩⟩:=jL.two.1 h3;have pd:(x::y::(B++A++(p++q).flatten)).Perm (x::y::D):=by refine List.Perm.trans ?_ h.p;refine List.Perm.trans ?_ (gy p q c).symm;refine List.Perm.trans ?_ (ada _ h2);show(x::y::(B++A++(p++q).flatten)).Perm (x::((B++y::A)++(p++q).flatten));refine List.Perm.cons x ?_;rw[List.append_assoc B (y::A),List.cons_append,List.append_assoc];exact adR.symm
 have pD:=(pd.cons_inv).cons_inv;have nd:=pd.nodup_iff.2 hn;have nx:x∉B++A++(p++q).flatten:=fun k=>(ab6.1 nd).1 (abq _ k);have ny:y∉B++A++(p++q).flatten:=(ab6.1 (ab6.1 nd).2).1;have xB:x∉B:=fun k=>nx (by simp[k]);have xA:x∉A:=fun k=>nx (by simp[k]);have yB:y∉B:=fun k=>ny (by simp[k]);have yA:y∉A:=fun k=>ny (by simp[k]);have R5:∀z∈B++A++(p++q).flatten,z∈D:=fun z hz=>pD.mem_iff.1 hz;have cB:∀c∈kW B,jL f c:=fun c hc=>by
  cases B with
  |nil=>simp[kW]at hc
  |cons b B =>
   have hc:c=b::B:=by simpa[kW] using hc
   subst hc;have fx:f' x=b:=fx;have bx:b≠x:=fun k=>xB (by simp[k]);refine Path.kV pB (fun k=>yB (mM k)) (fun u hu aW=>?_) (fun u hu heq=>?_)
   ·rw[hf u (R5 u (by simp at hu ⊢;rcases hu with k|k<;>simp[k]))];unfold wx;have:f' u≠x:=fun k=>by
     rcases pB.step hu with m|m
     ·exact xB (k▸m)
     ·exact aW m
    rw[if_neg this,if_neg aW]
   ·rw[hf u (R5 u (by simp at hu ⊢;rcases hu with k|k<;>simp[k]))];unfold wx;rw[if_neg (by rw[heq];exact fun k=>Ug k.symm),if_pos heq,if_neg (by rw[fx];exact bx),fx]
 have cA:∀c∈kW A,jL f c:=fun c hc=>by
  cases A with
  |nil=>simp[kW]at hc
  |cons a A =>
   have hc:c=a::A:=by simpa[kW] using hc
   subst hc;have fy:f' y=a:=fy;have ay:a≠y:=fun k=>yA (by simp[k]);refine Path.kV pA (fun k=>xA (mM k)) (fun u hu aW=>?_) (fun u hu heq=>?_)
   ·rw[hf u (R5 u (by simp at hu ⊢;rcases hu with k|k<;>simp[k]))];unfold wx;have:f' u≠y:=fun k=>by
     rcases pA.step hu with m|m
     ·exact yA (k▸m)
     ·exact aW m
    rw[if_neg aW,if_neg this]
   ·rw[hf u (R5 u (by simp at hu ⊢;rcases hu with k|k<;>simp[k]))];unfold wx;rw[if_pos heq,if_neg (by rw[fy];exact ay),fy]
 have cR:∀c∈p++q,jL f c:=fun c hc=>by
  have Zm:c∈p++((x::B)++(y::A))::q:=by rcases ab0.1 hc with k|k<;>simp[k]
  have Cu:jL f' c:=h.c c (by rcases ab0.1 hc with k|k<;>simp[k]);refine Cu.congr fun z hz=>?_;have hzf:∀u∈c,u∈(p++q).flatten:=fun u hu=>adN.2 ⟨c,hc,hu⟩;have hm:=hzf _ (Cu.step hz);rw[hf z (R5 z (List.mem_append_right _ (hzf z hz)))];unfold wx;rw[if_neg (fun k=>nx (List.mem_append_right _ (by rw[←k];exact hm))),if_neg (fun k=>ny (List.mem_append_right _ (by rw[←k];exact hm)))]
 refine⟨kW B++(kW A++(p++q)),⟨fun c hc=>?_,?_⟩,?_⟩
 ·rcases ab0.1 hc with k|k
  ·exact cB c k
  rcases ab0.1 k with k|k
  ·exact cA c k
  ·exact cR c k
 ·rw[List.flatten_append,List.flatten_append,uK,uK,←List.append_assoc];exact pD
 ·have eB:(if f' x=y then 0 else 1)=nz B:=by
   cases B with
   |nil=>exact if_pos fx
   |cons b B=>exact if_neg (fun k=>yB (by rw[←k,show f' x=b from fx];simp))
  have eA:(if f' y=x then 0 else 1)=nz A:=by
   cases A with
   |nil=>exact if_pos fy
   |cons a A=>exact if_neg (fun k=>xA (by rw[←k,show f' y=a from fy];simp))
  rw[eB,eA];simp only[List.length_append,EW,List.length_cons];omega
theorem EV.R6{f' f:α→α}{x y:α}{D:List α}{cs':List (List α)}{c:List α}(Ug:x≠y)(hn:(x::y::D).Nodup)(h:EV f' (x::y::D) cs')(hf:∀z∈D,f z=wx f' x y z)(hc:c∈cs')(hx:x∈c)(hy:y∉c) :
  ∃cs,EV f D cs∧cs.length+2=cs'.length+(if f' x=x∧f' y=y then 0 else 1):=by
 obtain⟨p,q,rfl⟩:=adM hc;have P1:=h.c c hc;obtain⟨B,h1,h2⟩:=P1.head hx;have hyc:y∈(p++q).flatten:=by
  have:y∈(p++c::q).flatten:=h.p.mem_iff.2 (by simp);rcases ab0.1 ((gy p q c).mem_iff.1 this) with k|k
  ·exact absurd k hy
  ·exact k
 obtain⟨c2,nN,agH⟩:=adN.1 hyc;have agI:c2∈p++c::q:=by rcases ab0.1 nN with k|k<;>simp[k]
 obtain⟨A,h3,h4⟩:=(h.c c2 agI).head agH;obtain⟨p2,q2,zo⟩:=adM nN;obtain⟨fx,pB⟩:=(show Path f' (x::B) x from h1);obtain⟨fy,pA⟩:=(show Path f' (y::A) y from h3);have pd:(x::y::(B++A++(p2++q2).flatten)).Perm (x::y::D):=by refine List.Perm.trans ?_ h.p;refine List.Perm.trans ?_ (gy p q c).symm;rw[zo];refine List.Perm.trans ?_ (ada _ h2);refine List.Perm.trans ?_ (List.Perm.append_left _ (gy p2 q2 c2).symm);refine List.Perm.trans ?_ (List.Perm.append_left _ (ada _ h4));show(x::y::(B++A++(p2++q2).flatten)).Perm (x::(B++(y::(A++(p2++q2).flatten))));refine List.Perm.cons x ?_;rw[List.append_assoc];exact adR.symm
 have pD:=(pd.cons_inv).cons_inv;have nd:=pd.nodup_iff.2 hn;have nx:x∉B++A++(p2++q2).flatten:=fun k=>(ab6.1 nd).1 (abq _ k);have ny:y∉B++A++(p2++q2).flatten:=(ab6.1 (ab6.1 nd).2).1;have xB:x∉B:=fun k=>nx (by simp[k]);have xA:x∉A:=fun k=>nx (by simp[k]);have yB:y∉B:=fun k=>ny (by simp[k]);have yA:y∉A:=fun k=>ny (by simp[k]);have R5:∀z∈B++A++(p2++q2).flatten,z∈D:=fun z hz=>pD.mem_iff.1 hz;have nB:∀u∈B,f' u≠x→f u=f' u:=fun u hu aW=>by
  rw[hf u (R5 u (by simp[hu]))];unfold wx;have:f' u≠y:=fun k=>by
   rcases pB.step hu with m|m
   ·exact yB (k▸m)
   ·exact aW m
  rw[if_neg aW,if_neg this]
 have nA:∀u∈A,f' u≠y→f u=f' u:=fun u hu aW=>by
  rw[hf u (R5 u (by simp[hu]))];unfold wx;have:f' u≠x:=fun k=>by
   rcases pA.step hu with m|m
   ·exact xA (k▸m)
   ·exact aW m
  rw[if_neg this,if_neg aW]
 have eB:∀u∈B,f' u=x→f u=if f' y=y then f' x else f' y:=fun u hu heq=>by rw[hf u (R5 u (by simp[hu]))];unfold wx;rw[if_pos heq]
 have eA:∀u∈A,f' u=y→f u=if f' x=x then f' y else f' x:=fun u hu heq=>by rw[hf u (R5 u (by simp[hu]))];unfold wx;rw[if_neg (by rw[heq];exact fun k=>Ug k.symm),if_pos heq]
 have cBA:∀c∈kW (B++A),jL f c:=fun c hc=>by
  cases B with
  |nil =>
   cases A with
   |nil=>simp[kW]at hc
   |cons a A =>
    have hc:c=a::A:=by simpa[kW] using hc
    subst hc;refine Path.kV pA (fun k=>yA (mM k)) nA (fun u hu heq=>?_);rw[eA u hu heq,if_pos (show f' x=x from fx)];exact fy
  |cons b B =>
   have fxb:f' x=b:=fx;have bx:b≠x:=fun k=>xB (by simp[k])
   cases A with
   |nil =>
    have hc:c=b::B:=by simpa[kW] using hc
    subst hc;refine Path.kV pB (fun k=>xB (mM k)) nB (fun u hu heq=>?_);rw[eB u hu heq,if_pos (show f' y=y from fy)];exact fxb
   |cons a A =>
    have hc:c=(b::B)++(a::A):=by simpa[kW] using hc
    subst hc;have fya:f' y=a:=fy;have ay:a≠y:=fun k=>yA (by simp[k]);refine jL.two.2 ⟨Path.kV pB (fun k=>xB (mM k)) nB (fun u hu heq=>?_),Path.kV pA (fun k=>yA (mM k)) nA (fun u hu heq=>?_)⟩
    ·rw[eB u hu heq,if_neg (by rw[fya];exact ay)];exact fya
    ·rw[eA u hu heq,if_neg (by rw[fxb];exact bx)];exact fxb
 have cR:∀c∈p2++q2,jL f c:=fun c hc=>by
  have Oe:c∈p++q:=by rw[zo];rcases ab0.1 hc with k|k<;>simp[k]
  have Cu:jL f' c:=h.c c (by rcases ab0.1 Oe with k|k<;>simp[k]);refine Cu.congr fun z hz=>?_;have hzf:∀u∈c,u∈(p2++q2).flatten:=fun u hu=>adN.2 ⟨c,hc,hu⟩;have hm:=hzf _ (Cu.step hz);rw[hf z (R5 z (List.mem_append_right _ (hzf z hz)))];unfold wx;rw[if_neg (fun k=>nx (List.mem_append_right _ (by rw[←k];exact hm))),if_neg (fun k=>ny (List.mem_append_right _ (by rw[←k];exact hm)))]
 refine⟨kW (B++A)++(p2++q2),⟨fun c hc=>?_,?_⟩,?_⟩
 ·rcases ab0.1 hc with k|k
  ·exact cBA c k
  ·exact cR c k
 ·rw[List.flatten_append,uK];exact pD
 ·have eBA:(if f' x=x∧f' y=y then 0 else 1)=nz (B++A):=by
   cases B with
   |nil =>
    cases A with
    |nil=>exact if_pos ⟨fx,fy⟩
    |cons a A=>exact if_neg (fun k=>yA (by rw[←k.2,show f' y=a from fy];simp))
   |cons b B=>exact if_neg (fun k=>xB (by rw[←k.1,show f' x=b from fx];simp))
  rw[eBA];have hl:(p++q).length=(p2++c2::q2).length:=by rw[zo]
  simp only[List.length_append,EW,List.length_cons]at hl ⊢;omega
end
end Go.Cy
namespace Go.Vs
open Go.Proofs Go.Cy
def skip(x:ab)(s:ab→ab)(z:ab):ab:=if s z=x then s x else s z
def c6(row:List ab)(x:ab):ab:=(jc row x 1).getD zD
theorem oU{row:List ab}(hn:row.Nodup){i:Nat}{x:ab}(hx:row[i]? = some x):c6 row x=(row[(i+1)%row.length]?).getD zD:=by unfold c6 jc;rw[if_pos (List.mem_of_getElem? hx),U4 hn hx,Int.toNat_natCast]
theorem EX{row:List ab}(hn:row.Nodup):∀(r p:List ab),row=p++r→Path (c6 row) r (row.head?.getD zD)
 |[],_,_=>trivial
 |x::r,p,h=>by
  refine⟨?_,EX hn r (p++[x]) (by rw[h];simp)⟩;have hx:row[p.length]? = some x:=by rw[h];simp
  rw[oU hn hx]
  cases r with
  |nil =>
   have hl:row.length=p.length+1:=by rw[h];simp
   rw[hl,Nat.mod_self];show(row[0]?).getD zD=row.head?.getD zD;rw[List.head?_eq_getElem?]
  |cons y r =>
   have hl:p.length+1<row.length:=by rw[h];simp
   rw[Nat.mod_eq_of_lt hl];have:row[p.length+1]? = some y:=by rw[h];simp
   rw[this];rfl
theorem rK{row:List ab}(hn:row.Nodup)(h0:row≠[]):jL (c6 row) row:=by
 have:=EX hn row [] rfl
 cases row with
 |nil=>exact absurd rfl h0
 |cons x r=>exact this
theorem Cv{f g:ab→ab}:∀{a:List ab} {z:ab},Path f a z→Path g a z→∀x∈a,f x=g x
 |y::r,z,p,q,x,hx=>by
  rcases abw.1 hx with rfl|hx
  ·exact p.1.trans q.1.symm
  ·exact Cv p.2 q.2 x hx
theorem EY{f g:ab→ab}{c:List ab}(h:jL f c)(k:jL g c):∀x∈c,f x=g x:=by
 cases c with
 |nil=>exact h.elim
 |cons y r=>exact Cv h k
theorem IX{f:ab→ab}{row:List ab}{j:Nat}(h:jL f (Gb row j)):jL f row:=by
 unfold Gb at h;have:=jL.Gb h
 rwa [List.take_append_drop]at this
theorem kd{row:List ab}(hn:row.Nodup){x:ab}(hx:x∈row):c6 row x∈row:=(rK hn (ad6 hx)).step hx
theorem EZ{f:ab→ab}:∀{a:List ab} {z:ab},Path f a z→a≠[]→∃l,l∈a∧f l=z
 |[x],z,p,_=>⟨x,by simp,p.1⟩
 |x::y::r,z,p,_=>by obtain⟨l,h1,h2⟩:=EZ p.2 (by simp);exact⟨l,abq _ h1,h2⟩
theorem OX{row:List ab}(hn:row.Nodup){x y:ab}(hx:x∈row)(hy:y∈row)(h:c6 row x=c6 row y):x=y:=by
 obtain⟨i,hi⟩:=adX hx;obtain⟨j,hj⟩:=adX hy;have o5:=(abr.1 hi).1;have JE:=(abr.1 hj).1;have hp:0<row.length:=by omega
 rw[oU hn hi,oU hn hj,List.getElem?_eq_getElem (Nat.mod_lt _ hp),List.getElem?_eq_getElem (Nat.mod_lt _ hp)]at h;have h2:(i+1)%row.length=(j+1)%row.length:=EU hn (by simpa using h);have h3:i=j:=by
  by_cases a:i+1<row.length<;>by_cases b:j+1<row.length
  ·rw[Nat.mod_eq_of_lt a,Nat.mod_eq_of_lt b]at h2;omega
  ·have:j+1=row.length:=by omega
   rw[Nat.mod_eq_of_lt a,this,Nat.mod_self]at h2;omega
  ·have:i+1=row.length:=by omega
   rw[Nat.mod_eq_of_lt b,this,Nat.mod_self]at h2;omega
  ·omega
 subst h3;rw[hi]at hj;exact ab5 hj
theorem OY{row:List ab}(hn:row.Nodup){x z:ab}(hx:x∈row)(hz:z∈row)(hzx:z≠x):c6 (jl row x) z=skip x (c6 row) z:=by
 obtain⟨A,B,rfl⟩:=adM hx;obtain⟨k,hk⟩:=adX hx;have he:(A++x::B).filter (fun e=>decide (e≠x))=A++B:=by
  have ZJ:(A++x::B)[A.length]? = some x:=by simp
  rw[xK hn ZJ];simp
 have El:(x::(B++A)).Nodup:=by have p:(A++x::B).Perm (x::(B++A)):=adR.trans (List.Perm.cons x ad0);exact p.nodup_iff.1 hn
 have zG:z∈B++A:=by
  rcases ab0.1 hz with k|k
  ·exact abx _ k
  ·rcases abw.1 k with k|k
   ·exact absurd k hzx
   ·exact abK _ k
 have c1:jL (c6 (A++x::B)) (x::(B++A)):=by have:=(rK hn (ad6 hx)).Gb;simpa using this
 obtain⟨fx,pL⟩:=(show Path (c6 (A++x::B)) (x::(B++A)) x from c1);have c2:jL (skip x (c6 (A++x::B))) (B++A):=by
  generalize hL:B++A=L at *
  cases L with
  |nil=>simp at zG
  |cons l L =>
   have fx:c6 (A++x::B) x=l:=fx;have ug:x∉l::L:=(ab6.1 El).1;refine Path.kV pL (fun k=>ug (mM k)) (fun u hu aW=>?_) (fun u hu heq=>?_)
   ·unfold skip;rw[if_neg aW]
   ·unfold skip;rw[if_pos heq,fx]
 have hr:jl (A++x::B) x=cq (A++B):=by unfold jl;rw[he]
 obtain⟨j,hj,hjr⟩:=yY (A++B);have nAB:(A++B).Nodup:=(ad0 (l₁:=B) (l₂:=A)).nodup_iff.1 (ab6.1 El).2;have agL:(jl (A++x::B) x).Nodup:=by rw[hr];exact(j7 _).nodup_iff.2 nAB
 have hzm:z∈jl (A++x::B) x:=by
  rw[hr,oL];rcases ab0.1 zG with k|k
  ·exact abx _ k
  ·exact abK _ k
 have c3:jL (c6 (jl (A++x::B) x)) (A++B):=by have:=rK agL (ad6 hzm);generalize c6 (jl (A++x::B) x)=g at *;rw[hr,hjr]at this;exact IX this
 exact EY (jL.Gb c3) c2 z zG
def sg(d:ak)(x:ab):ab:=(ln d x).getD zD
def ph(d:ak)(x:ab):ab:=(Pw d x).getD zD
theorem Cw{d:ak}(h:Rw d.1){v:ai}{x:ab}(hv:v∈d.1)(hx:x∈v.2.1):ln d x=jc v.2.1 x 1:=by unfold ln ed;rw[dS h hv hx];show jc (cM d v.1) x 1=_;rw[j8 h.s hv]
theorem jh{d:ak}(h:Rw d.1){v:ai}{x:ab}(hv:v∈d.1)(hx:x∈v.2.1):sg d x=c6 v.2.1 x:=by unfold sg c6;rw[Cw h hv hx]
theorem K7{d:ak}(h:Rw d.1){x:ab}(hx:x∈aj d.1):ln d x=some (sg d x):=by
 obtain⟨v,hv,lg⟩:=aT.1 hx;have:ln d x=some (c6 v.2.1 x):=by rw[Cw h hv lg];unfold c6 jc;rw[if_pos lg];have hp:0<v.2.1.length:=adZ lg;rw[List.getElem?_eq_getElem (Nat.mod_lt _ hp)];rfl
 rw[jh h hv lg,this]
theorem U7{d:ak}(h:Rw d.1){x:ab}(hx:x∈aj d.1):sg d x∈aj d.1:=by obtain⟨v,hv,lg⟩:=aT.1 hx;rw[jh h hv lg];exact aT.2 ⟨v,hv,kd (h.ring hv) lg⟩
theorem R7{d:ak}(h:Rw d.1){x y:ab}(hx:x∈aj d.1)(hy:y∈aj d.1)(he:sg d x=sg d y):x=y:=by obtain⟨v,hv,lg⟩:=aT.1 hx;obtain⟨w,hw,hyw⟩:=aT.1 hy;rw[jh h hv lg,jh h hw hyw]at he;have h1:=kd (h.ring hv) lg;have h2:=kd (h.ring hw) hyw;rw[←he]at h2;have hwv:=h.one hv hw h1 h2;subst hwv;exact OX (h.ring hw) lg hyw he
theorem qf{d:ak}(h:Rw d.1){x z:ab}(hx:x∈aj d.1)(hz:z∈aj (aE d x).1):sg (aE d x) z=skip x (sg d) z:=by
 obtain⟨p,q⟩:=fi h hx;obtain⟨v,hv,lg⟩:=aT.1 hx;have hzd:z∈aj d.1:=p.mem_iff.2 (abq _ hz);have hzx:z≠x:=fun k=>(ab6.1 (p.nodup_iff.1 h.n)).1 (k▸hz);obtain⟨w,hw,GO⟩:=aT.1 hz;have hr:=j9 h hv lg;have JF:w∈d.1.map (xu v.1 (jl v.2.1 x)):=by rw[hr]at hw;exact hw
 obtain⟨u,hu,Zn⟩:=acx.1 JF;rw[jh q hw GO];by_cases TQ:u.1=v.1
 ·have TQ:u=v:=by have h1:=jJ h.s hv;have h2:=jJ h.s hu;rw[TQ,h1]at h2;exact(ab5 h2).symm
  subst TQ;have lZ:w.2.1=jl u.2.1 x:=by rw[←Zn];unfold xu;rw[if_pos rfl]
  rw[lZ]at GO ⊢;have Du:z∈u.2.1:=(sX lg (h.ring hu)).mem_iff.2 (abq _ GO);rw[OY (h.ring hu) lg Du hzx];unfold skip;rw[jh h hu Du,jh h hu lg]
 ·have lZ:w=u:=by rw[←Zn];unfold xu;rw[if_neg TQ]
  subst lZ;unfold skip;rw[jh h hu GO,if_neg];intro k;have:=kd (h.ring hu) GO;rw[k]at this;exact TQ (congrArg Prod.fst (h.one hv hu lg this))
theorem IY{d e:ak}(h:d.1=e.1)(x:ab):ln d x=ln e x:=by obtain⟨a,b⟩:=d;obtain⟨c,f⟩:=e;simp only at h;subst h;rfl
theorem bP{x:ab}(h:x.2=0∨x.2=1):ag (ag x)=x:=by obtain⟨x1,x2⟩:=x;simp only at h;rcases h with rfl|rfl<;>rfl
theorem Wf.side{d:ak}(h:Wf d){x:ab}(hx:x∈aj d.1):x.2=0∨x.2=1:=by obtain⟨e,_,_,k⟩:=eP.1 (h.pd.mem_iff.1 hx);exact k
theorem Wf.other{d:ak}(h:Wf d){x:ab}(hx:x∈aj d.1):ag x∈aj d.1:=by
 obtain⟨e,he,h1,h2⟩:=eP.1 (h.pd.mem_iff.1 hx);refine h.pd.mem_iff.2 (eP.2 ⟨e,he,h1,?_⟩);obtain⟨_,k⟩:=gN h2;rcases k with⟨_,k⟩|⟨_,k⟩
 ·exact .inr k
 ·exact .inl k
theorem Cx{d:ak}{x:ab}(hx:x∈aj d.1):(ed d x).isSome=true:=by obtain⟨v,hv,lg⟩:=aT.1 hx;unfold ed Gc;rw[Option.isSome_map,List.find?_isSome];exact⟨v,hv,by simpa using lg⟩
theorem ji{d:ak}{x:ab}(hx:x∈aj d.1):ph d x=sg d (ag x):=by unfold ph Pw sg;rw[if_pos (Cx hx)]
theorem IZ{d:ak}(h:Wf d){x:ab}(hx:x∈aj d.1):Pw d x=some (ph d x):=by rw[ji hx];unfold Pw;rw[if_pos (Cx hx)];exact K7 h.rw (h.other hx)
theorem R8{d:ak}(h:Wf d){x:ab}(hx:x∈aj d.1):ph d x∈aj d.1:=by rw[ji hx];exact U7 h.rw (h.other hx)
theorem Yl{d:ak}(h:Wf d){x y:ab}(hx:x∈aj d.1)(hy:y∈aj d.1)(he:ph d x=ph d y):x=y:=by rw[ji hx,ji hy]at he;have:=R7 h.rw (h.other hx) (h.other hy) he;rw[←bP (h.side hx),←bP (h.side hy),this]
theorem I0{α:Type}[DecidableEq α]:∀{l D:List α},l.Nodup→(∀x∈l,x∈D)→l.length≤D.length
 |[],_,_,_=>adO _
 |x::r,D,hn,hs=>by have h1:=ab6.1 hn;have hx:=hs x (abZ ..);have ih:=I0 (l:=r) (D:=D.erase x) h1.2 (fun y hy=>(aec (fun k=>h1.1 (by rw[←k];exact hy))).2 (hs y (abq _ hy)));rw[List.length_erase_of_mem hx]at ih;have:=adZ hx;simp;omega
theorem R9{d:ak}(h:Wf d){out:List ab}{y:ab}(hn:out.Nodup)(hs:∀z∈out,z∈aj d.1)(hp:Path (ph d) out y):y∉out.tail:=fun hy=>by
 cases out with
 |nil=>simp at hy
 |cons x r =>
  have hy:y∈r:=hy;obtain⟨p,q,rfl⟩:=adM hy;have key:∀(x:ab) (p:List ab),Path (ph d) (x::(p++y::q)) y→(x::(p++y::q)).Nodup→(∀z∈x::(p++y::q),z∈aj d.1)→False:=by
   intro x p
   induction p generalizing x with
   |nil =>intro hp hn hs;have h1:ph d x=y:=hp.1;obtain⟨l,h2,h3⟩:=EZ hp.2 (by simp);have:=Yl h (hs x (by simp)) (hs l (abq _ h2)) (h1.trans h3.symm);subst this;exact(ab6.1 hn).1 h2
   |cons u p ih =>intro hp hn hs;exact ih u hp.2 (ab6.1 hn).2 (fun z hz=>hs z (abq _ hz))
  exact key x p hp hn hs
theorem Wf.I2{d:ak}(h:Wf d):(aj d.1).length≤80:=by
 have h2:=h.pd.length_eq;have h3:=h.ne;have:(ends d.2).length=2*d.2.length:=by
  clear h2 h3 h;generalize d.2=l
  induction l with
  |nil=>rfl
  |cons e r ih=>rw[fL];simp[ih];omega
 omega
theorem Cz{d:ak}(h:Wf d)(x:ab):∀(n:Nat) (y:ab) (r:List ab),(x::r).length+n=82→(x::r).Nodup→(∀z∈x::r,z∈aj d.1)→Path (ph d) (x::r) y→y∈aj d.1 → ∃r',xw d x n y (x::r)=x::r'∧(x::r').Nodup∧(∀z∈x::r',z∈aj d.1)∧jL (ph d) (x::r')
 |0,y,r,hl,hn,hs,hp,hy=>by have:=I0 hn hs;have:=h.I2;omega
 |n+1,y,r,hl,hn,hs,hp,hy=>by
  unfold xw;by_cases he:y=x
  ·subst he;rw[if_pos rfl];exact⟨r,rfl,hn,hs,hp⟩
  ·rw[if_neg he];have hyr:y∉x::r:=fun k=>by
    rcases abw.1 k with k|k
    ·exact he k
    ·exact R9 h hn hs hp k
   have e:(Pw d y).getD zD=ph d y:=rfl;rw[e];refine Cz h x n (ph d y) (r++[y]) (by simp at hl ⊢;omega) ?_ (fun z hz=>?_) ?_ (R8 h hy)
   ·show((x::r)++[y]).Nodup;refine adK.2 ⟨hn,by simp,fun a ha b hb=>?_⟩;simp at hb;subst hb;exact fun k=>hyr (k▸ha)
   ·have hz:z∈(x::r)++[y]:=hz;rcases ab0.1 hz with k|k
    ·exact hs z k
    ·simp at k;rw[k];exact hy
   ·show Path (ph d) ((x::r)++[y]) (ph d y);exact Path.app.2 ⟨hp,rfl,trivial⟩
theorem CA{d:ak}(h:Wf d){x:ab}(hx:x∈aj d.1):∃r,bf d x=x::r∧(x::r).Nodup∧(∀z∈x::r,z∈aj d.1)∧jL (ph d) (x::r):=by unfold bf;rw[IZ h hx];exact Cz h x 81 (ph d x) [] rfl (by simp) (fun z hz=>by simp at hz;rw[hz];exact hx) ⟨rfl,trivial⟩ (R8 h hx)
theorem rL{d:ak}(h:Wf d):∀(l:List ab) (out:List (List ab)),(∀x∈l,x∈aj d.1)→(∀c∈out,jL (ph d) c)→out.flatten.Nodup→(∀x∈out.flatten,x∈aj d.1) →(∀c∈kq d l out out.flatten,jL (ph d) c)∧(kq d l out out.flatten).flatten.Nodup∧(∀x∈(kq d l out out.flatten).flatten,x∈aj d.1)∧(∀x,x∈l∨x∈out.flatten→x∈(kq d l out out.flatten).flatten)
 |[],out,_,h1,h2,h3=>⟨h1,h2,h3,fun x k=>k.resolve_left (by simp)⟩
 |x::l,out,hl,h1,h2,h3=>by
  unfold kq;by_cases hx:x∈out.flatten
  ·rw[if_pos hx];obtain⟨a,b,c,e⟩:=rL h l out (fun y hy=>hl y (abq _ hy)) h1 h2 h3;refine⟨a,b,c,fun y hy=>e y ?_⟩;rcases hy with hy|hy
   ·rcases abw.1 hy with rfl|hy
    ·exact .inr hx
    ·exact .inl hy
   ·exact .inr hy
  ·rw[if_neg hx];obtain⟨r,t1,t2,t3,t4⟩:=CA h (hl x (abZ ..));have ef:out.flatten++bf d x=(out++[bf d x]).flatten:=by simp
   rw[ef];have agO:∀y∈bf d x,y∉out.flatten:=fun y hy k=>by obtain⟨c,hc,hyc⟩:=adN.1 k;rw[t1]at hy;exact hx (adN.2 ⟨c,hc,t4.same (h1 c hc) hy hyc (abZ ..)⟩)
   obtain⟨a,b,c,e⟩:=rL h l (out++[bf d x]) (fun y hy=>hl y (abq _ hy)) (fun c hc=>by
     rcases ab0.1 hc with k|k
     ·exact h1 c k
     ·simp at k;rw[k,t1];exact t4)
    (by rw[←ef];refine adK.2 ⟨h2,by rw[t1];exact t2,fun u hu w hw k=>agO w hw (k▸hu)⟩)
    (fun y hy=>by
     rw[←ef]at hy;rcases ab0.1 hy with k|k
     ·exact h3 y k
     ·rw[t1]at k;exact t3 y k)
   refine⟨a,b,c,fun y hy=>e y ?_⟩;rw[←ef];rcases hy with hy|hy
   ·rcases abw.1 hy with rfl|hy
    ·exact .inr (abx _ (by rw[t1];simp))
    ·exact .inl hy
   ·exact .inr (abK _ hy)
theorem lD:∀l:List aq,jF l=ends l
 |[]=>rfl
 |e::r=>by rw[fL,jF,lD r]
theorem bH{d:ak}(h:Wf d):EV (ph d) (aj d.1) (bR d):=by obtain⟨a,b,c,e⟩:=rL h (jF d.2) [] (fun x hx=>h.pd.mem_iff.2 (by rw[←lD];exact hx)) (by simp) (by simp) (by simp);refine⟨a,(List.perm_ext_iff_of_nodup b h.rw.n).2 fun x=>⟨c x,fun hx=>e x (.inl (by rw[lD];exact h.pd.mem_iff.1 hx))⟩⟩
def cO(d:ak)(x:ID):ak:=aI (aE (aE d (x,0)) (x,1)) zI x
theorem K8{d:ak}(h:Wf d)(x y:ab)(e:ID):(aI (aE (aE d x) y) zI e).1=(aE (aE d x) y).1:=sY (kb (kb h.gv x) y)
theorem CB(x:ID):ag (x,0)=(x,1):=rfl
theorem Sa(x:ID):ag (x,1)=(x,0):=rfl
structure bN(d':ak)(x:ID):Prop where
 wf:Wf d'
 e:(aV d'.2 x).isSome=true
theorem bN.x0{d':ak}{x:ID}(h:bN d' x):(x,0)∈aj d'.1:=h.wf.mL h.e (.inl rfl)
theorem bN.x1{d':ak}{x:ID}(h:bN d' x):(x,1)∈aj d'.1:=h.wf.mL h.e (.inr rfl)
theorem bN.p1{d':ak}{x:ID}(h:bN d' x):(aj d'.1).Perm ((x,0)::aj (aE d' (x,0)).1)∧Rw (aE d' (x,0)).1:=fi h.wf.rw h.x0
theorem bN.Zo{d':ak}{x:ID}(h:bN d' x):(x,1)∈aj (aE d' (x,0)).1:=by
 rcases abw.1 (h.p1.1.mem_iff.1 h.x1) with k|k
 ·cases k
 ·exact k
theorem bN.p2{d':ak}{x:ID}(h:bN d' x):(aj (aE d' (x,0)).1).Perm ((x,1)::aj (aE (aE d' (x,0)) (x,1)).1)∧Rw (aE (aE d' (x,0)) (x,1)).1:=fi h.p1.2 h.Zo
theorem bN.v{d':ak}{x:ID}(h:bN d' x):(cO d' x).1=(aE (aE d' (x,0)) (x,1)).1:=K8 h.wf _ _ _
theorem bN.w{d':ak}{x:ID}(h:bN d' x):Wf (cO d' x):=h.wf.cut h.e
theorem bN.p{d':ak}{x:ID}(h:bN d' x):(aj d'.1).Perm ((x,0)::(x,1)::aj (cO d' x).1):=by rw[h.v];exact h.p1.1.trans (List.Perm.cons _ h.p2.1)
theorem bN.sg{d':ak}{x:ID}(h:bN d' x){z:ab}(hz:z∈aj (cO d' x).1):sg (cO d' x) z=skip (x,1) (skip (x,0) (sg d')) z:=by
 have e1:Vs.sg (cO d' x) z=Vs.sg (aE (aE d' (x,0)) (x,1)) z:=by unfold Vs.sg;rw[IY h.v]
 rw[h.v]at hz;have ve:z∈aj (aE d' (x,0)).1:=h.p2.1.mem_iff.2 (abq _ hz);rw[e1,qf h.p1.2 h.Zo hz];unfold skip;rw[qf h.wf.rw h.x0 ve,qf h.wf.rw h.x0 h.Zo];rfl
theorem bN.ph{d':ak}{x:ID}(h:bN d' x){z:ab}(hz:z∈aj (cO d' x).1):ph (cO d' x) z=wx (ph d') (x,0) (x,1) z:=by
 have AE:z∈aj d'.1:=h.p.mem_iff.2 (abq _ (abq _ hz));have ho:=h.w.other hz;have nL:ag z∈aj d'.1:=h.p.mem_iff.2 (abq _ (abq _ ho));have nd:=h.p.nodup_iff.1 h.wf.rw.n;have Km:ag z≠(x,1):=fun k=>(ab6.1 (ab6.1 nd).2).1 (k▸ho);rw[ji hz,h.sg ho];unfold wx;rw[ji AE,ji h.x0,ji h.x1,CB,Sa];generalize hW:ag z=w at *;have inj:Vs.sg d' (x,1)=(x,0)→Vs.sg d' w≠(x,0):=fun k1 k2=>Km (R7 h.wf.rw nL h.x1 (k2.trans k1.symm));unfold skip;by_cases c1:Vs.sg d' w=(x,0)
 ·rw[if_pos c1];by_cases c2:Vs.sg d' (x,0)=(x,1)
  ·rw[if_pos c2,if_pos c2];by_cases c3:Vs.sg d' (x,1)=(x,0)
   ·exact absurd c1 (inj c3)
   ·rw[if_neg c3,if_pos c1]
  ·rw[if_neg c2,if_neg c2,if_pos c1]
 ·rw[if_neg c1];by_cases c2:Vs.sg d' w=(x,1)
  ·rw[if_pos c2,if_neg c1]
  ·rw[if_neg c2,if_neg c1]
def al(l:List ai):Nat:=l.countP fun v=>v.2.1.isEmpty
theorem E0{row:List ab}(hn:row.Nodup){x:ab}(hx:x∈row):c6 row x=x↔row.length=1:=by
 obtain⟨i,hi⟩:=adX hx;have o5:=(abr.1 hi).1;have hp:0<row.length:=by omega
 rw[oU hn hi,List.getElem?_eq_getElem (Nat.mod_lt _ hp)];constructor
 ·intro h;have h1:row[(i+1)%row.length]? = some x:=by rw[List.getElem?_eq_getElem (Nat.mod_lt _ hp)];exact congrArg some (by simpa using h)
  have h2:=xN hn h1 hi;by_cases c:i+1<row.length
  ·rw[Nat.mod_eq_of_lt c]at h2;omega
  ·have:i+1=row.length:=by omega
   rw[this,Nat.mod_self]at h2;omega
 ·intro h;have h0:i=0:=by omega
  subst h0;have:(0+1)%row.length=0:=by rw[h]
  simp only[this];obtain⟨h1,h2⟩:=abr.1 hi;simpa using h2
theorem CC{d:ak}(h:Rw d.1){x:ab}(hx:x∈aj d.1):al (aE d x).1=al d.1+if sg d x=x then 1 else 0:=by
 obtain⟨v,hv,lg⟩:=aT.1 hx;obtain⟨a,b,h1,_,_,h2⟩:=mK h.s hv;have e1:(aE d x).1=a++(v.1,(jl v.2.1 x,v.2.2))::b:=by rw[j9 h hv lg];exact h2 _
 have p:=sX lg (h.ring hv);have hl:=p.length_eq;have v0:v.2.1.isEmpty=false:=by
  cases hq:v.2.1 with
  |nil=>rw[hq]at lg;simp at lg
  |cons _ _=>rfl
 have v1:(jl v.2.1 x).isEmpty=decide (sg d x=x):=by rw[Bool.eq_iff_iff,List.isEmpty_iff,decide_eq_true_eq,jh h hv lg,E0 (h.ring hv) lg,←List.length_eq_zero_iff];simp at hl;omega
 rw[e1]
 conv=>rhs;rw[h1]
 unfold al;rw[List.countP_append,List.countP_append,List.countP_cons,List.countP_cons];simp only[v0,v1];by_cases c:sg d x=x
 ·simp[c];omega
 ·simp[c]
def ft(d:ak):Nat:=(bR d).length+al d.1
def K9(d:ak)(x y:ab):Prop:=∃c∈bR d,x∈c∧y∈c
theorem bN.al{d':ak}{x:ID}(h:bN d' x):Vs.al (cO d' x).1=Vs.al d'.1+(if Vs.ph d' (x,1)=(x,0) then 1 else 0)+(if Vs.ph d' (x,0)=(x,1)∨(Vs.ph d' (x,0)=(x,0)∧Vs.ph d' (x,1)=(x,1)) then 1 else 0):=by
 rw[h.v,CC h.p1.2 h.Zo,CC h.wf.rw h.x0];have e0:Vs.ph d' (x,0)=Vs.sg d' (x,1):=ji h.x0;have e1:Vs.ph d' (x,1)=Vs.sg d' (x,0):=ji h.x1;rw[e0,e1,qf h.wf.rw h.x0 h.Zo];unfold skip;congr 1;by_cases c:Vs.sg d' (x,1)=(x,0)
 ·rw[if_pos c];by_cases k:Vs.sg d' (x,0)=(x,1)
  ·rw[if_pos k,if_pos (.inr ⟨c,k⟩)]
  ·rw[if_neg k,if_neg];rintro(m|⟨_,m⟩)
   ·rw[c]at m;cases m
   ·exact k m
 ·rw[if_neg c];by_cases k:Vs.sg d' (x,1)=(x,1)
  ·rw[if_pos k,if_pos (.inl k)]
  ·rw[if_neg k,if_neg];rintro(m|⟨m,_⟩)
   ·exact k m
   ·exact c m
theorem ab7(x:ID):((x,0):ab)≠(x,1):=fun k=>by cases k
theorem bN.same{d':ak}{x:ID}(h:bN d' x)(hf:K9 d' (x,0) (x,1)):ft (cO d' x)=ft d'+1∧(bR (cO d' x)).length+1=(bR d').length+(if Vs.ph d' (x,0)=(x,1) then 0 else 1)+(if Vs.ph d' (x,1)=(x,0) then 0 else 1):=by
 obtain⟨c,hc,h0,h1⟩:=hf;have nd:=h.p.nodup_iff.1 h.wf.rw.n;have dec:EV (Vs.ph d') ((x,0)::(x,1)::aj (cO d' x).1) (bR d'):=⟨(bH h.wf).c,(bH h.wf).p.trans h.p⟩;obtain⟨cs,k1,k2⟩:=EV.R4 (ab7 x) nd dec (fun z hz=>h.ph hz) hc h0 h1;have k3:=EV.count (h.w.rw.n) (bH h.w) k1;have k4:=h.al;have Cu:=(bH h.wf).c c hc;have n0:¬(Vs.ph d' (x,0)=(x,0)):=fun k=>by
  obtain⟨n,hn⟩:=Cu.reach h0 h1;have:∀n,it (Vs.ph d') n (x,0)=(x,0):=fun n=>by
   induction n with
   |zero=>rfl
   |succ n ih=>show it (Vs.ph d') n (Vs.ph d' (x,0))=_;rw[k];exact ih
  rw[this]at hn;cases hn
 refine⟨?_,by rw[k3];exact k2⟩;unfold ft;rw[k3,k4];by_cases c0:Vs.ph d' (x,0)=(x,1)
 ·rw[if_pos c0]at k2;rw[if_pos (Or.inl c0)];by_cases c1:Vs.ph d' (x,1)=(x,0)
  ·rw[if_pos c1]at k2 ⊢;omega
  ·rw[if_neg c1]at k2 ⊢;omega
 ·rw[if_neg c0]at k2;rw[if_neg (show ¬(Vs.ph d' (x,0)=(x,1)∨(Vs.ph d' (x,0)=(x,0)∧Vs.ph d' (x,1)=(x,1))) from fun m=>m.elim c0 fun m=>n0 m.1)];by_cases c1:Vs.ph d' (x,1)=(x,0)
  ·rw[if_pos c1]at k2 ⊢;omega
  ·rw[if_neg c1]at k2 ⊢;omega
theorem bN.diff{d':ak}{x:ID}(h:bN d' x)(hf:¬K9 d' (x,0) (x,1)):ft (cO d' x)+1=ft d':=by
 have hm:(x,0)∈(bR d').flatten:=(bH h.wf).p.mem_iff.2 h.x0;obtain⟨c,hc,h0⟩:=adN.1 hm;have h1:(x,1)∉c:=fun k=>hf ⟨c,hc,h0,k⟩;have nd:=h.p.nodup_iff.1 h.wf.rw.n;have dec:EV (Vs.ph d') ((x,0)::(x,1)::aj (cO d' x).1) (bR d'):=⟨(bH h.wf).c,(bH h.wf).p.trans h.p⟩;obtain⟨cs,k1,k2⟩:=EV.R6 (ab7 x) nd dec (fun z hz=>h.ph hz) hc h0 h1;have k3:=EV.count (h.w.rw.n) (bH h.w) k1;have k4:=h.al;have Cu:=(bH h.wf).c c hc;have n0:¬(Vs.ph d' (x,0)=(x,1)):=fun k=>h1 (k▸Cu.step h0);have n1:¬(Vs.ph d' (x,1)=(x,0)):=fun k=>by have Um:(x,1)∈(bR d').flatten:=(bH h.wf).p.mem_iff.2 h.x1;obtain⟨c2,nN,h2⟩:=adN.1 Um;have:=((bH h.wf).c c2 nN).step h2;rw[k]at this;exact hf ⟨c2,nN,this,h2⟩
 unfold ft;rw[k3,k4,if_neg n1];by_cases c:Vs.ph d' (x,0)=(x,0)∧Vs.ph d' (x,1)=(x,1)
 ·rw[if_pos c]at k2;rw[if_pos (.inr c)];omega
 ·rw[if_neg c]at k2;rw[if_neg (fun m=>m.elim n0 c)];omega
def y0(d:ak)(a b:ID):Prop:=∃z∈aj d.1,ed d z=some a∧ed d (ag z)=some b
inductive cg (d:ak):ID→ID→Prop
 |refl (a:ID):cg d a a
 |tail {a b c:ID}:cg d a b→y0 d b c→cg d a c
theorem cg.trans{d:ak}{a b c:ID}(h:cg d a b)(k:cg d b c):cg d a c:=by
 induction k with
 |refl=>exact h
 |tail _ j ih=>exact ih.tail j
theorem y0.symm{d:ak}(hw:Wf d){a b:ID}(h:y0 d a b):y0 d b a:=by obtain⟨z,hz,h1,h2⟩:=h;exact⟨ag z,hw.other hz,h2,by rw[bP (hw.side hz)];exact h1⟩
theorem y0.conn{d:ak}{a b:ID}(h:y0 d a b):cg d a b:=(cg.refl a).tail h
theorem cg.symm{d:ak}(hw:Wf d){a b:ID}(h:cg d a b):cg d b a:=by
 induction h with
 |refl=>exact .refl _
 |tail _ j ih=>exact(j.symm hw).conn.trans ih
structure nT(d:ak)(R:List ID):Prop where
 n:R.Nodup
 v:∀r∈R,∃v∈d.1,v.1=r
 i:∀r∈R,∀s∈R,cg d r s→r=s
 c:∀v∈d.1,∃r∈R,cg d v.1 r
theorem Gn{d:ak}(hw:Wf d):∀{R R':List ID},R.Nodup→(∀r∈R,∀s∈R,cg d r s→r=s)→(∀r∈R,∃s∈R',cg d r s)→R.length≤R'.length
 |[],_,_,_,_=>adO _
 |r::R,R',hn,hi,hc=>by obtain⟨s,hs,XF⟩:=hc r (abZ ..);have h1:=ab6.1 hn;have ih:=Gn hw (R:=R) (R':=R'.erase s) h1.2 (fun a ha b hb=>hi a (abq _ ha) b (abq _ hb)) (fun a ha=>by obtain⟨t,ht,yx⟩:=hc a (abq _ ha);refine⟨t,(aec (fun k=>?_)).2 ht,yx⟩;subst k;have:=hi a (abq _ ha) r (abZ ..) (yx.trans (XF.symm hw));exact h1.1 (this▸ha));rw[List.length_erase_of_mem hs]at ih;have:=adZ hs;simp;omega
theorem nT.len{d:ak}(hw:Wf d){R R':List ID}(h:nT d R)(h':nT d R'):R.length=R'.length:=by
 refine Nat.le_antisymm (Gn hw h.n h.i fun r hr=>?_) (Gn hw h'.n h'.i fun r hr=>?_)
 ·obtain⟨v,hv,rfl⟩:=h.v r hr;exact h'.c v hv
 ·obtain⟨v,hv,rfl⟩:=h'.v r hr;exact h.c v hv
theorem rM{d:ak}(hw:Wf d){z:ab}(hz:z∈aj d.1):∃v∈d.1,z∈v.2.1∧ed d z=some v.1:=by obtain⟨v,hv,Zp⟩:=aT.1 hz;exact⟨v,hv,Zp,dS hw.rw hv Zp⟩
theorem CD{d:ak}(h:Rw d.1){x z:ab}(hx:x∈aj d.1)(hz:z∈aj (aE d x).1):ed (aE d x) z=ed d z:=by
 obtain⟨p,q⟩:=fi h hx;obtain⟨v,hv,lg⟩:=aT.1 hx;obtain⟨w,hw,GO⟩:=aT.1 hz;have hr:=j9 h hv lg;have JF:w∈d.1.map (xu v.1 (jl v.2.1 x)):=by rw[hr]at hw;exact hw
 obtain⟨u,hu,Zn⟩:=acx.1 JF;have br:w.1=u.1:=by rw[←Zn];exact rI _ _ _
 have Du:z∈u.2.1:=by
  by_cases TQ:u.1=v.1
  ·have TQ:u=v:=by have h1:=jJ h.s hv;have h2:=jJ h.s hu;rw[TQ,h1]at h2;exact(ab5 h2).symm
   subst TQ;have lZ:w.2.1=jl u.2.1 x:=by rw[←Zn];unfold xu;rw[if_pos rfl]
   rw[lZ]at GO;exact(sX lg (h.ring hu)).mem_iff.2 (abq _ GO)
  ·have lZ:w=u:=by rw[←Zn];unfold xu;rw[if_neg TQ]
   rw[←lZ];exact GO
 show Gc (aE d x).1 z=Gc d.1 z;rw[dS q hw GO,dS h hu Du,br]
theorem bN.at{d':ak}{x:ID}(h:bN d' x){z:ab}(hz:z∈aj (cO d' x).1):ed (cO d' x) z=ed d' z:=by
 have e:ed (cO d' x) z=ed (aE (aE d' (x,0)) (x,1)) z:=by unfold ed;rw[h.v]
 rw[h.v]at hz;have ve:z∈aj (aE d' (x,0)).1:=h.p2.1.mem_iff.2 (abq _ hz);rw[e,CD h.p1.2 h.Zo hz,CD h.wf.rw h.x0 ve]
theorem bN.sub{d':ak}{x:ID}(h:bN d' x){z:ab}(hz:z∈aj (cO d' x).1):z∈aj d'.1:=h.p.mem_iff.2 (abq _ (abq _ hz))
theorem bN.U8{d':ak}{x:ID}(h:bN d' x){a b:ID}(k:y0 (cO d' x) a b):y0 d' a b:=by obtain⟨z,hz,h1,h2⟩:=k;exact⟨z,h.sub hz,by rw[←h.at hz];exact h1,by rw[←h.at (h.w.other hz)];exact h2⟩
theorem bN.conn{d':ak}{x:ID}(h:bN d' x){a b:ID}(k:cg (cO d' x) a b):cg d' a b:=by
 induction k with
 |refl=>exact .refl _
 |tail _ j ih=>exact ih.tail (h.U8 j)
theorem bN.agP{d':ak}{x u w:ID}(h:bN d' x)(hu:ed d' (x,0)=some u)(hw:ed d' (x,1)=some w){a b:ID}(k:y0 d' a b):y0 (cO d' x) a b∨(a=u∧b=w)∨(a=w∧b=u):=by
 obtain⟨z,hz,h1,h2⟩:=k;rcases abw.1 (h.p.mem_iff.1 hz) with rfl|zG
 ·rw[CB]at h2;rw[hu]at h1;rw[hw]at h2
  cases h1;cases h2
  exact .inr (.inl ⟨rfl,rfl⟩)
 rcases abw.1 zG with rfl|JC
 ·rw[Sa]at h2;rw[hw]at h1;rw[hu]at h2
  cases h1;cases h2
  exact .inr (.inr ⟨rfl,rfl⟩)
 ·exact .inl ⟨z,JC,by rw[h.at JC];exact h1,by rw[h.at (h.w.other JC)];exact h2⟩
theorem bN.Sb{d':ak}{x u w:ID}(h:bN d' x)(hu:ed d' (x,0)=some u)(hw:ed d' (x,1)=some w){a b:ID}(k:cg d' a b) :
  cg (cO d' x) a b∨(cg (cO d' x) a u∧cg (cO d' x) w b)∨(cg (cO d' x) a w∧cg (cO d' x) u b):=by
 induction k with
 |refl=>exact .inl (.refl _)
 |tail _ j ih =>
  rcases h.agP hu hw j with j|⟨rfl,rfl⟩|⟨rfl,rfl⟩
  ·rcases ih with k|⟨k,m⟩|⟨k,m⟩
   ·exact .inl (k.tail j)
   ·exact .inr (.inl ⟨k,m.tail j⟩)
   ·exact .inr (.inr ⟨k,m.tail j⟩)
  ·rcases ih with k|⟨k,m⟩|⟨k,m⟩
   ·exact .inr (.inl ⟨k,.refl _⟩)
   ·exact .inr (.inl ⟨k,.refl _⟩)
   ·exact .inl k
  ·rcases ih with k|⟨k,m⟩|⟨k,m⟩
   ·exact .inr (.inr ⟨k,.refl _⟩)
   ·exact .inl k
   ·exact .inr (.inr ⟨k,.refl _⟩)
theorem bN.ids{d':ak}{x:ID}(h:bN d' x):(cO d' x).1.map (·.1)=d'.1.map (·.1):=by rw[h.v];unfold aE Vs.cf;simp only[List.map_map];refine aed fun v hv=>?_;simp only[Function.comp,rI]
theorem bN.La{d':ak}{x:ID}(h:bN d' x){r:ID}:(∃v∈(cO d' x).1,v.1=r)↔∃v∈d'.1,v.1=r:=by
 have e:∀l:List ai,(∃v∈l,v.1=r)↔r∈l.map (·.1):=fun l=>by rw[List.mem_map]
 rw[e,e,h.ids]
theorem bN.Dv{d':ak}{x u w:ID}(h:bN d' x)(hu:ed d' (x,0)=some u)(hw:ed d' (x,1)=some w)(k:cg (cO d' x) u w){R:List ID}(hr:nT d' R):nT (cO d' x) R:=by
 have key:∀{a b:ID},cg d' a b→cg (cO d' x) a b:=fun {a b} m=>by
  rcases h.Sb hu hw m with m|⟨m,q⟩|⟨m,q⟩
  ·exact m
  ·exact(m.trans k).trans q
  ·exact(m.trans (k.symm h.w)).trans q
 refine⟨hr.n,fun r I3=>h.La.2 (hr.v r I3),fun r I3 s hs m=>hr.i r I3 s hs (h.conn m),fun v hv=>?_⟩;obtain⟨v',zn,he⟩:=h.La.1 ⟨v,hv,rfl⟩;obtain⟨r,h1,h2⟩:=hr.c v' zn;exact⟨r,h1,by rw[←he];exact key h2⟩
theorem bN.Gp{d':ak}{x:ID}(h:bN d' x):∃u w,ed d' (x,0)=some u∧ed d' (x,1)=some w∧(∃v∈d'.1,v.1=u)∧∃v∈d'.1,v.1=w:=by obtain⟨v,hv,_,h1⟩:=rM h.wf h.x0;obtain⟨v2,yj,_,h2⟩:=rM h.wf h.x1;exact⟨v.1,v2.1,h1,h2,⟨v,hv,rfl⟩,⟨v2,yj,rfl⟩⟩
theorem bN.Sc{d':ak}{x u w:ID}(h:bN d' x)(hu:ed d' (x,0)=some u)(hw:ed d' (x,1)=some w)(k:¬cg (cO d' x) u w){R:List ID}(hr:nT d' R):∃R2,nT (cO d' x) R2∧R2.length=R.length+1:=by
 have uv:∃v∈d'.1,v.1=u:=by obtain⟨v,hv,_,h1⟩:=rM h.wf h.x0;rw[hu]at h1;cases h1;exact⟨v,hv,rfl⟩
 have wv:∃v∈d'.1,v.1=w:=by obtain⟨v,hv,_,h1⟩:=rM h.wf h.x1;rw[hw]at h1;cases h1;exact⟨v,hv,rfl⟩
 have uw:cg d' u w:=y0.conn ⟨(x,0),h.x0,hu,by rw[CB];exact hw⟩;obtain⟨v0,T2,hvu⟩:=uv;obtain⟨r,I3,hur⟩:=hr.c v0 T2;rw[hvu]at hur;have sep:∀s∈R.erase r,s∈R∧¬cg d' s u∧¬cg d' s w:=fun s hs=>by
  have h1:=aea hs;have h2:s≠r:=fun e=>by subst e;exact absurd hs (List.Nodup.not_mem_erase hr.n)
  exact⟨h1,fun m=>h2 (hr.i s h1 r I3 (m.trans hur)),fun m=>h2 (hr.i s h1 r I3 ((m.trans (uw.symm h.wf)).trans hur))⟩
 refine⟨u::w::R.erase r,⟨?_,?_,?_,?_⟩,?_⟩
 ·refine ab6.2 ⟨fun m=>?_,ab6.2 ⟨fun m=>(sep w m).2.2 (.refl _),hr.n.erase r⟩⟩;rcases abw.1 m with m|m
  ·exact k (m▸.refl _)
  ·exact(sep u m).2.1 (.refl _)
 ·intro s hs;rcases abw.1 hs with rfl|hs
  ·exact h.La.2 ⟨v0,T2,hvu⟩
  rcases abw.1 hs with rfl|hs
  ·exact h.La.2 wv
  ·exact h.La.2 (hr.v s (sep s hs).1)
 ·intro a ha b hb m;rcases abw.1 ha with ea|ha
  ·rcases abw.1 hb with eb|hb
   ·rw[ea,eb]
   rcases abw.1 hb with eb|hb
   ·exact absurd (ea▸eb▸m) k
   ·exact absurd ((h.conn (ea▸m)).symm h.wf) (sep b hb).2.1
  rcases abw.1 ha with ea|ha
  ·rcases abw.1 hb with eb|hb
   ·exact absurd ((ea▸eb▸m).symm h.w) k
   rcases abw.1 hb with eb|hb
   ·rw[ea,eb]
   ·exact absurd ((h.conn (ea▸m)).symm h.wf) (sep b hb).2.2
  ·rcases abw.1 hb with eb|hb
   ·exact absurd (eb▸h.conn m) (sep a ha).2.1
   rcases abw.1 hb with eb|hb
   ·exact absurd (eb▸h.conn m) (sep a ha).2.2
   ·exact hr.i a (sep a ha).1 b (sep b hb).1 (h.conn m)
 ·intro v hv;obtain⟨v',zn,he⟩:=h.La.1 ⟨v,hv,rfl⟩;obtain⟨s,h1,h2⟩:=hr.c v' zn;rw[he]at h2;by_cases hsr:s=r
  ·subst hsr;rcases h.Sb hu hw (h2.trans (hur.symm h.wf)) with m|⟨m,_⟩|⟨m,_⟩
   ·exact⟨u,by simp,m⟩
   ·exact⟨u,by simp,m⟩
   ·exact⟨w,by simp,m⟩
  ·have T7:s∈R.erase r:=(aec hsr).2 h1;rcases h.Sb hu hw h2 with m|⟨_,q⟩|⟨_,q⟩
   ·exact⟨s,by simp[T7],m⟩
   ·exact absurd ((h.conn q).symm h.wf) (sep s T7).2.2
   ·exact absurd ((h.conn q).symm h.wf) (sep s T7).2.1
 ·have:=adZ I3;simp only[List.length_cons,List.length_erase_of_mem I3];omega
theorem bN.E1{d':ak}{x u w:ID}(h:bN d' x)(hu:ed d' (x,0)=some u)(hw:ed d' (x,1)=some w)(hf:¬K9 d' (x,0) (x,1)):cg (cO d' x) u w:=by
 have hm:(x,0)∈(bR d').flatten:=(bH h.wf).p.mem_iff.2 h.x0;obtain⟨c,hc,h0⟩:=adN.1 hm;have h1:(x,1)∉c:=fun k=>hf ⟨c,hc,h0,k⟩;have Cu:=(bH h.wf).c c hc;obtain⟨B,k1,k2⟩:=Cu.head h0;have hcd:∀z∈c,z∈aj d'.1:=fun z hz=>(bH h.wf).p.mem_iff.1 (adN.2 ⟨c,hc,hz⟩);have cn:c.Nodup:=by obtain⟨p,q,e⟩:=adM hc;have:=(bH h.wf).p.nodup_iff.2 h.wf.rw.n;rw[e]at this;exact(adK.1 ((gy p q c).nodup_iff.1 this)).1
 have bn:=k2.nodup_iff.2 cn;have ab8:∀z∈aj d'.1,ed d' (Vs.ph d' z)=ed d' (ag z):=fun z hz=>by have ho:=h.wf.other hz;obtain⟨v,hv,Zp⟩:=aT.1 ho;rw[ji hz,jh h.wf.rw hv Zp];show Gc d'.1 _=Gc d'.1 _;rw[dS h.wf.rw hv (kd (h.wf.rw.ring hv) Zp),dS h.wf.rw hv Zp]
 have inC:∀z∈B,z∈aj (cO d' x).1:=fun z hz=>by
  have Zi:z∈c:=k2.mem_iff.1 (abq _ hz);rcases abw.1 (h.p.mem_iff.1 (hcd z Zi)) with e|e
  ·exact absurd (e▸hz) (ab6.1 bn).1
  rcases abw.1 e with e|e
  ·exact absurd (e▸Zi) h1
  ·exact e
 have walk:∀(B:List ab) (a e:ID) (z:ab),(∀y∈B,y∈aj (cO d' x).1)→Path (Vs.ph d') B z→ed d' z=some e→(∀y,B.head? = some y→ed d' y=some a)→(B=[]→a=e)→cg (cO d' x) a e:=by
  intro B
  induction B with
  |nil=>intro a e z _ _ _ _ h5;rw[h5 rfl];exact .refl _
  |cons y r ih =>
   intro a e z hB hp hz ha _;have hy:=hB y (by simp);have hyd:=h.sub hy;obtain⟨v,hv,TP,yx⟩:=rM h.wf (h.wf.other hyd);have U8:y0 (cO d' x) a v.1:=⟨y,hy,by rw[h.at hy];exact ha y rfl,by rw[h.at (h.w.other hy)];exact yx⟩;have iX:ed d' (r.head?.getD z)=some v.1:=by rw[←show Vs.ph d' y=r.head?.getD z from hp.1,ab8 y hyd];exact yx
   refine U8.conn.trans (ih v.1 e z (fun q hq=>hB q (abq _ hq)) hp.2 hz (fun q hq=>?_) (fun hr=>?_))
   ·rw[hq]at iX;exact iX
   ·subst hr;have:ed d' z=some v.1:=iX;rw[hz]at this;exact(ab5 this).symm
 obtain⟨fx,pB⟩:=(show Path (Vs.ph d') ((x,0)::B) (x,0) from k1);have Lb:ed d' (B.head?.getD (x,0))=some w:=by rw[←fx,ab8 _ h.x0,CB];exact hw
 refine(walk B w u (x,0) inC pB hu (fun y hy=>by rw[hy]at Lb;exact Lb) (fun hB=>?_)).symm h.w;subst hB;have:ed d' (x,0)=some w:=Lb;rw[hu]at this;exact(ab5 this).symm
theorem I4{d:ak}(h:aj d.1=[]){a b:ID}(k:cg d a b):a=b:=by
 induction k with
 |refl=>rfl
 |tail _ j _=>obtain⟨z,hz,_⟩:=j;rw[h]at hz;simp at hz
theorem bY.ids{l:List ai}(h:bY l):(l.map (·.1)).Nodup:=by unfold List.Nodup;rw[List.pairwise_map];exact h.imp fun {a b} k e=>by rw[e,bV]at k;cases k
theorem MC:∀(n:Nat) (d:ak),Wf d→d.2.length=n→∀R,nT d R→∃k,d.1.length+ft d+2*k=2*R.length+d.2.length
 |0,d,hw,hl,R,hr=>by
  have he:d.2=[]:=by simpa using hl
  have hd:aj d.1=[]:=by have:=hw.pd;rw[he]at this;exact List.perm_nil.1 this
  have XH:nT d (d.1.map (·.1)):=⟨hw.sv.ids,fun r hr=>by obtain⟨v,hv,rfl⟩:=acx.1 hr;exact⟨v,hv,rfl⟩,fun r _ s _ k=>I4 hd k,fun v hv=>⟨v.1,acx.2 ⟨v,hv,rfl⟩,.refl _⟩⟩;have hlen:=hr.len hw XH;have hf:bR d=[]:=by unfold bR;rw[he];rfl
  have ha:al d.1=d.1.length:=by
   unfold al;rw[List.countP_eq_length];intro v hv;rw[List.isEmpty_iff]
   cases hq:v.2.1 with
   |nil=>rfl
   |cons y r =>have:y∈aj d.1:=aT.2 ⟨v,hv,by rw[hq];simp⟩;rw[hd]at this;simp at this
  refine⟨0,?_⟩;unfold ft;rw[hf,ha,hlen,he];simp;omega
 |n+1,d,hw,hl,R,hr=>by
  obtain⟨e,r,he⟩:∃e r,d.2=e::r:=by
   cases hq:d.2 with
   |nil=>rw[hq]at hl;simp at hl
   |cons e r=>exact⟨e,r,rfl⟩
  have hc:bN d e.1:=⟨hw,by unfold aV;rw[he];simp⟩;obtain⟨u,w,hu,hwt,_,_⟩:=hc.Gp;have hv:(cO d e.1).1.length=d.1.length:=by have:=congrArg List.length hc.ids;simpa using this
  have wJ:(cO d e.1).2.length=n:=by
   have h1:=hc.w.pd.length_eq;have h2:=hw.pd.length_eq;have h3:=hc.p.length_eq;have e2:∀l:List aq,(ends l).length=2*l.length:=fun l=>by
    induction l with
    |nil=>rfl
    |cons e r ih=>rw[fL];simp[ih];omega
   rw[e2]at h1 h2;simp at h3;omega
  by_cases hf:K9 d (e.1,0) (e.1,1)
  ·have h1:=(hc.same hf).1;by_cases k:cg (cO d e.1) u w
   ·obtain⟨g,hg⟩:=MC n (cO d e.1) hc.w wJ R (hc.Dv hu hwt k hr);exact⟨g+1,by omega⟩
   ·obtain⟨R2,h2,h3⟩:=hc.Sc hu hwt k hr;obtain⟨g,hg⟩:=MC n (cO d e.1) hc.w wJ R2 h2;exact⟨g,by omega⟩
  ·have h1:=hc.diff hf;obtain⟨g,hg⟩:=MC n (cO d e.1) hc.w wJ R (hc.Dv hu hwt (hc.E1 hu hwt hf) hr);exact⟨g,by omega⟩
def cF(d:ak)(i:Nat):ID:=((d.1[i]?).getD zV).1
theorem nw{d:ak}{i:Nat}{v:ai}(h:d.1[i]? = some v):cF d i=v.1:=by unfold cF;rw[h];rfl
theorem jM{d:ak}(hs:bY d.1){i j:Nat}(hi:i<d.1.length)(hj:j<d.1.length)(h:cF d i=cF d j):i=j:=by have h1:=abv hi;have h2:=abv hj;rw[nw h1,nw h2]at h;rw[j6 hs h1 rfl,j6 hs h2 rfl,h]
theorem Sd{x:ID}:∀{l:List ai} {i:Nat} {v:ai} (k:Int),l[i]? = some v→v.1=x→(∀j u,j<i→l[j]? = some u→u.1≠x)→X7 x l k=k+i
 |w::r,0,v,k,h,hv,_=>by simp at h;subst h;rw[X7,if_pos hv];simp
 |w::r,i+1,v,k,h,hv,hn=>by have h0:=hn 0 w (by omega) (by simp);rw[X7,if_neg h0,Sd (i:=i) (v:=v) (k+1) (by simpa using h) hv (fun j u hj hu=>hn (j+1) u (by omega) (by simpa using hu))];omega
theorem Se{d:ak}(hs:bY d.1){i:Nat}(hi:i<d.1.length):X7 (cF d i) d.1 0=(i:Int):=by have h:=abv hi;have:=Sd (x:=cF d i) (l:=d.1) (i:=i) (v:=d.1[i]) 0 h (nw h).symm (fun j u hj hu he=>by have h1:=jM hs (show j<d.1.length by omega) hi ((nw hu).trans he);omega);omega
theorem Lc{d:ak}(hw:Wf d){z:ab}(hz:z∈aj d.1):∃i,i<d.1.length∧ed d z=some (cF d i):=by obtain⟨v,hv,_,h⟩:=rM hw hz;obtain⟨i,hi,he⟩:=adY hv;refine⟨i,hi,?_⟩;rw[h,nw (List.getElem?_eq_getElem hi),he]
structure Gq(d:ak)(L:List Int):Prop where
 n:L.length=d.1.length
 i:∀i,i<d.1.length→∃j:Nat,j≤i∧L.getD i 0=(j:Int)∧cg d (cF d i) (cF d j)
def fE(d:ak)(L:List Int)(i:Nat):Prop:=∀j,j<d.1.length→cg d (cF d i) (cF d j)→L.getD i 0≤(j:Int)
structure I5(d:ak)(L:List Int):Prop where
 l:Gq d L
 r:∀i,i<d.1.length→fE d L i
theorem I6{L:List Int}{a i:Nat}(x:Int):(L.set a x).getD i 0=if a=i∧a<L.length then x else L.getD i 0:=by
 simp only[List.getD];rw[List.getElem?_set];by_cases h:a=i
 ·subst h;by_cases k:a<L.length
  ·simp[k]
  ·simp[k]
 ·simp[h]
def Dx(a b:Nat)(L:List Int):List Int:=(L.set a (min (L.getD a 0) (L.getD b 0))).set b (min (L.getD a 0) (L.getD b 0))
theorem Sf{L:List Int}{a b:Nat}(ha:a<L.length)(hb:b<L.length)(i:Nat):(Dx a b L).getD i 0=if i=a∨i=b then min (L.getD a 0) (L.getD b 0) else L.getD i 0:=by
 unfold Dx;rw[I6,I6,List.length_set];by_cases h1:b=i
 ·rw[if_pos ⟨h1,hb⟩,if_pos (.inr h1.symm)]
 ·rw[if_neg (fun k=>h1 k.1)];by_cases h2:a=i
  ·rw[if_pos ⟨h2,ha⟩,if_pos (.inl h2.symm)]
  ·rw[if_neg (fun k=>h2 k.1),if_neg (fun k=>k.elim (fun m=>h2 m.symm) (fun m=>h1 m.symm))]
theorem OZ{d:ak}(hw:Wf d){L:List Int}(h:Gq d L){a b:Nat}(ha:a<d.1.length)(hb:b<d.1.length)(yS:cg d (cF d a) (cF d b)):Gq d (Dx a b L)∧(∀i,i<d.1.length→fE d L i→fE d (Dx a b L) i)∧(fE d L a→fE d (Dx a b L) b)∧(fE d L b→fE d (Dx a b L) a):=by
 have Ps:a<L.length:=by rw[h.n];exact ha
 have NY:b<L.length:=by rw[h.n];exact hb
 have gl:=Sf Ps NY;obtain⟨ja,a1,a2,a3⟩:=h.i a ha;obtain⟨jb,b1,b2,b3⟩:=h.i b hb;have hba:=yS.symm hw;refine⟨⟨by unfold Dx;simp[h.n],fun i hi=>?_⟩,fun i hi hr j hj hc=>?_,fun hr j hj hc=>?_,fun hr j hj hc=>?_⟩
 ·rw[gl];by_cases Ld:i=a∨i=b
  ·rw[if_pos Ld];have conn:cg d (cF d i) (cF d a)∧cg d (cF d i) (cF d b):=by
    rcases Ld with rfl|rfl
    ·exact⟨.refl _,yS⟩
    ·exact⟨hba,.refl _⟩
   by_cases hle:L.getD a 0≤L.getD b 0
   ·refine⟨ja,?_,by rw[←a2];omega,conn.1.trans a3⟩;rcases Ld with rfl|rfl
    ·exact a1
    ·rw[a2,b2]at hle;omega
   ·refine⟨jb,?_,by rw[←b2];omega,conn.2.trans b3⟩;rcases Ld with rfl|rfl
    ·rw[a2,b2]at hle;omega
    ·exact b1
  ·rw[if_neg Ld];exact h.i i hi
 ·rw[gl]
  split
  ·rename_i Ld;have:=hr j hj hc;rcases Ld with rfl|rfl<;>omega
  ·exact hr j hj hc
 ·rw[gl,if_pos (.inr rfl)];have:=hr j hj (yS.trans hc);omega
 ·rw[gl,if_pos (.inl rfl)];have:=hr j hj (hba.trans hc);omega
theorem Ym{d:ak}(hw:Wf d){e:aq}(he:e∈d.2)(L:List Int):∃a b,a<d.1.length∧b<d.1.length∧ed d (e.1,0)=some (cF d a)∧ed d (e.1,1)=some (cF d b)∧Ot d e L=Dx a b L:=by have h0:(e.1,0)∈aj d.1:=hw.pd.mem_iff.2 (eP.2 ⟨e,he,rfl,.inl rfl⟩);have h1:(e.1,1)∈aj d.1:=hw.pd.mem_iff.2 (eP.2 ⟨e,he,rfl,.inr rfl⟩);obtain⟨a,ha,ea⟩:=Lc hw h0;obtain⟨b,hb,eb⟩:=Lc hw h1;refine⟨a,b,ha,hb,ea,eb,?_⟩;unfold Ot Dx;rw[ea,eb];simp only[Option.getD_some,Se hw.sv ha,Se hw.sv hb,Int.toNat_natCast];rw[if_pos ⟨by omega,by omega⟩]
theorem uL{d:ak}(hw:Wf d):∀(l:List aq) {L:List Int},(∀e∈l,e∈d.2)→Gq d L→Gq d (qx d l L)∧(∀i,i<d.1.length→fE d L i→fE d (qx d l L) i) ∧(∀e∈l,∀a b,a<d.1.length→b<d.1.length→((ed d (e.1,0)=some (cF d a)∧ed d (e.1,1)=some (cF d b))∨(ed d (e.1,0)=some (cF d b)∧ed d (e.1,1)=some (cF d a)))→fE d L a→fE d (qx d l L) b)
 |[],L,_,h=>⟨h,fun i hi hr=>hr,fun e he=>by simp at he⟩
 |e::r,L,hl,h=>by
  have he:=hl e (abZ ..);obtain⟨a,b,ha,hb,ea,eb,el⟩:=Ym hw he L;have h0:(e.1,0)∈aj d.1:=hw.pd.mem_iff.2 (eP.2 ⟨e,he,rfl,.inl rfl⟩);have yS:cg d (cF d a) (cF d b):=y0.conn ⟨(e.1,0),h0,ea,by rw[CB];exact eb⟩;obtain⟨s1,s2,s3,s4⟩:=OZ hw h ha hb yS;obtain⟨t1,t2,t3⟩:=uL hw r (L:=Dx a b L) (fun e he=>hl e (abq _ he)) s1;show Gq d (qx d r (Ot d e L))∧_∧_;rw[el];refine⟨t1,fun i hi hr=>?_,fun f hf p q hp hq zo hr=>?_⟩
  ·show fE d (qx d r (Ot d e L)) i;rw[el];exact t2 i hi (s2 i hi hr)
  ·show fE d (qx d r (Ot d e L)) q;rw[el];rcases abw.1 hf with rfl|hf
   ·refine t2 q hq ?_;rcases zo with⟨k1,k2⟩|⟨k1,k2⟩
    ·rw[ea]at k1;rw[eb]at k2;have:=jM hw.sv ha hp (ab5 k1);subst this;have:=jM hw.sv hb hq (ab5 k2);subst this;exact s3 hr
    ·rw[ea]at k1;rw[eb]at k2;have:=jM hw.sv ha hq (ab5 k1);subst this;have:=jM hw.sv hb hp (ab5 k2);subst this;exact s4 hr
   ·exact t3 f hf p q hp hq zo (s2 p hp hr)
theorem Le{d:ak}(i:Nat)(hi:i<d.1.length):∃m,m<d.1.length∧cg d (cF d i) (cF d m)∧∀j,j<d.1.length→cg d (cF d i) (cF d j)→m≤j:=by
 induction i using Nat.strongRecOn with
 |ind i ih =>
  by_cases h:∃j,j<i∧cg d (cF d i) (cF d j)∧cg d (cF d j) (cF d i)
  ·obtain⟨j,hj,hc,nN⟩:=h;obtain⟨m,h1,h2,h3⟩:=ih j hj (by omega);exact⟨m,h1,hc.trans h2,fun k hk hck=>h3 k hk (nN.trans hck)⟩
  ·by_cases hs:∃j,j<i∧cg d (cF d i) (cF d j)
   ·obtain⟨j,hj,hc⟩:=hs;have key:∀n,n≤i→(∃m,m<n∧cg d (cF d i) (cF d m))→∃m,m<d.1.length∧cg d (cF d i) (cF d m)∧∀j,j<d.1.length→cg d (cF d i) (cF d j)→m≤j:=by
     intro n
     induction n with
     |zero=>rintro _ ⟨m,hm,_⟩;omega
     |succ n ihn =>
      rintro hn ⟨m,hm,Oe⟩;by_cases hb:∃m,m<n∧cg d (cF d i) (cF d m)
      ·exact ihn (by omega) hb
      ·have:m=n:=Classical.byContradiction fun k=>hb ⟨m,by omega,Oe⟩;subst this;refine⟨m,by omega,Oe,fun j hj Oh=>Classical.byContradiction fun k=>hb ⟨j,by omega,Oh⟩⟩
    exact key i (acn _) ⟨j,hj,hc⟩
   ·refine⟨i,hi,.refl _,fun j hj hc=>Classical.byContradiction fun k=>hs ⟨j,by omega,hc⟩⟩
theorem O0{d:ak}(P:ID→Prop){x y:ID}(h:cg d x y)(hx:P x)(hy:¬P y):∃a b,y0 d a b∧P a∧¬P b:=by
 induction h with
 |refl=>exact absurd hx hy
 | @tail b c k j ih =>
  by_cases hb:P b
  ·exact⟨_,_,j,hb,hy⟩
  ·exact ih hb
open Classical in
theorem I7{P Q:Nat→Prop}:∀{l:List Nat},(∀i∈l,P i→Q i)→(∃i∈l,Q i∧¬P i)→l.countP (fun i=>decide (P i))<l.countP (fun i=>decide (Q i))
 |[],_,h=>by obtain⟨i,hi,_⟩:=h;simp at hi
 |x::r,h,⟨i,hi,hq,hp⟩=>by
  have mono:r.countP (fun i=>decide (P i))≤r.countP (fun i=>decide (Q i)):=by
   have hr:∀i∈r,P i→Q i:=fun i hi=>h i (abq _ hi);clear h hi
   induction r with
   |nil=>simp
   |cons y r ih =>
    rw[List.countP_cons,List.countP_cons];have:=ih (fun i hi=>hr i (abq _ hi));have h2:=hr y (abZ ..);by_cases hy:P y
    ·simp[hy,h2 hy];exact this
    ·simp[hy];omega
  rw[List.countP_cons,List.countP_cons];rcases abw.1 hi with rfl|hi
  ·simp[hq,hp];omega
  ·have:=I7 (l:=r) (fun i hi=>h i (abq _ hi)) ⟨i,hi,hq,hp⟩;have hx:=h x (abZ ..);by_cases hpx:P x
   ·simp[hpx,hx hpx];exact this
   ·simp[hpx];omega
theorem Lf{d:ak}(hw:Wf d){L:List Int}(h:Gq d L)(hn:∃i,i<d.1.length∧¬fE d L i):∃i,i<d.1.length∧fE d (qx d d.2 L) i∧¬fE d L i:=by
 obtain⟨i,hi,hr⟩:=hn;obtain⟨m,m1,m2,m3⟩:=Le i hi;have hm:fE d L m:=fun j hj hc=>by obtain⟨q,q1,q2,_⟩:=h.i m m1;have:=m3 j hj (m2.trans hc);rw[q2];omega
 let P:ID→Prop:=fun x=>∃k,k<d.1.length∧cF d k=x∧fE d L k
 have hx:P (cF d m):=⟨m,m1,rfl,hm⟩;have hy:¬P (cF d i):=fun⟨k,k1,k2,k3⟩=>by have:=jM hw.sv k1 hi k2;exact hr (this▸k3)
 obtain⟨a,b,⟨z,hz,za,zb⟩,⟨p,p1,p2,p3⟩,hb⟩:=O0 P (m2.symm hw) hx hy;obtain⟨q,q1,q2⟩:=Lc hw (hw.other hz);rw[zb]at q2;have hbq:b=cF d q:=ab5 q2;obtain⟨e,he,e1,e2⟩:=eP.1 (hw.pd.mem_iff.1 hz);refine⟨q,q1,?_,fun k=>hb ⟨q,q1,hbq.symm,k⟩⟩;refine(uL hw d.2 (fun _ h=>h) h).2.2 e he p q p1 q1 ?_ p3;rw[p2,←hbq];obtain⟨z1,z2⟩:=z;simp only at e1 e2;subst e1;rcases e2 with rfl|rfl
 ·exact .inl ⟨za,zb⟩
 ·exact .inr ⟨zb,za⟩
open Classical in
theorem CE{d:ak}(hw:Wf d):∀(n:Nat) {L:List Int},Gq d L→d.1.length≤n+(List.range d.1.length).countP (fun i=>decide (fE d L i))→I5 d (UW d n L)
 |0,L,h,hc=>by
  refine⟨h,fun i hi=>?_⟩;have h1:(List.range d.1.length).countP (fun i=>decide (fE d L i))=(List.range d.1.length).length:=by have:=adV (p:=fun i=>decide (fE d L i)) (l:=List.range d.1.length);simp at this ⊢;omega
  have:=List.countP_eq_length.1 h1 i (adJ.2 hi);exact of_decide_eq_true this
 |n+1,L,h,hc=>by
  obtain⟨s1,s2,_⟩:=uL hw d.2 (fun _ h=>h) h;show I5 d (UW d n (qx d d.2 L));refine CE hw n s1 ?_;by_cases hn:∃i,i<d.1.length∧¬fE d L i
  ·obtain⟨i,hi,h1,h2⟩:=Lf hw h hn;have:=I7 (P:=fE d L) (Q:=fE d (qx d d.2 L)) (l:=List.range d.1.length) (fun i hi=>s2 i (adJ.1 hi)) ⟨i,adJ.2 hi,h1,h2⟩;omega
  ·have:(List.range d.1.length).countP (fun i=>decide (fE d (qx d d.2 L) i))=(List.range d.1.length).length:=by rw[List.countP_eq_length];intro i hi;have hi:=adJ.1 hi;exact decide_eq_true (s2 i hi (Classical.byContradiction fun k=>hn ⟨i,hi,k⟩))
   rw[this];simp
theorem Yn(d:ak):Gq d (UX d.1.length):=by refine⟨by unfold UX;simp,fun i hi=>⟨i,acn _,?_,.refl _⟩⟩;unfold UX;simp[List.getD,hi]
theorem ep{d:ak}(hw:Wf d):I5 d (labels d):=CE hw d.1.length (Yn d) (by omega)
theorem I5.uniq{d:ak}(hw:Wf d){L M:List Int}(h:I5 d L)(k:I5 d M):L=M:=by
 apply adQ;intro i;by_cases hi:i<d.1.length
 ·have e1:L[i]? = some (L.getD i 0):=by rw[List.getElem?_eq_getElem (by rw[h.l.n];exact hi)];simp[List.getD,h.l.n,hi]
  have e2:M[i]? = some (M.getD i 0):=by rw[List.getElem?_eq_getElem (by rw[k.l.n];exact hi)];simp[List.getD,k.l.n,hi]
  obtain⟨a,a1,a2,a3⟩:=h.l.i i hi;obtain⟨b,b1,b2,b3⟩:=k.l.i i hi;have h1:=h.r i hi b (by omega) b3;have h2:=k.r i hi a (by omega) a3;rw[e1,e2];congr 1;omega
 ·rw[List.getElem?_eq_none (by rw[h.l.n];omega),List.getElem?_eq_none (by rw[k.l.n];omega)]
def lh(d:ak)(L:List Int):List ID:=((List.range d.1.length).filter fun i=>decide (L.getD i 0=(i:Int))).map (cF d)
theorem kX{d:ak}(hw:Wf d){L:List Int}(h:I5 d L):nT d (lh d L):=by
 have mem:∀{r:ID},r∈lh d L↔∃i,i<d.1.length∧L.getD i 0=(i:Int)∧cF d i=r:=fun {r}=>by
  unfold lh;rw[List.mem_map];constructor
  ·rintro⟨i,hi,rfl⟩;rw[List.mem_filter,List.mem_range]at hi;exact⟨i,hi.1,by simpa using hi.2,rfl⟩
  ·rintro⟨i,h1,h2,rfl⟩;exact⟨i,by rw[List.mem_filter,List.mem_range];exact⟨h1,by simpa using h2⟩,rfl⟩
 refine⟨?_,fun r hr=>?_,fun r hr s hs hc=>?_,fun v hv=>?_⟩
 ·unfold lh List.Nodup;rw[List.pairwise_map];have hp:((List.range d.1.length).filter fun i=>decide (L.getD i 0=(i:Int))).Nodup:=List.nodup_range.filter _;refine List.Pairwise.imp_of_mem (fun {a b} ha hb aW e=>aW ?_) hp;exact jM hw.sv (adJ.1 (ad4.1 ha).1) (adJ.1 (ad4.1 hb).1) e
 ·obtain⟨i,hi,_,rfl⟩:=mem.1 hr;exact⟨d.1[i],acC hi,(nw (abv hi)).symm⟩
 ·obtain⟨i,hi,h1,rfl⟩:=mem.1 hr;obtain⟨j,hj,h2,rfl⟩:=mem.1 hs;have k1:=h.r i hi j hj hc;have k2:=h.r j hj i hi (hc.symm hw);have:i=j:=by omega
  rw[this]
 ·obtain⟨i,hi,he⟩:=adY hv;have br:cF d i=v.1:=by rw[nw (List.getElem?_eq_getElem hi),he]
  obtain⟨j,j1,j2,j3⟩:=h.l.i i hi;refine⟨cF d j,mem.2 ⟨j,by omega,?_,rfl⟩,by rw[←br];exact j3⟩;obtain⟨k,k1,k2,k3⟩:=h.l.i j (by omega);have h1:=h.r i hi k (by omega) (j3.trans k3);rw[j2]at h1;rw[k2];have:j=k:=by omega
  rw[this]
theorem xR:∀(l:List Int) (i:Nat) (n:Nat),n+l.length≤1000000→uD l (i:Int) (n:Int)=((n+((List.range l.length).filter fun j=>decide (l.getD j 0=((i+j:Nat):Int))).length:Nat):Int)
 |[],i,n,_=>by simp[uD]
 |x::r,i,n,h=>by
  simp at h;have e:((List.range (x::r).length).filter fun j=>decide ((x::r).getD j 0=((i+j:Nat):Int))).length=(if x=(i:Int) then 1 else 0)+((List.range r.length).filter fun j=>decide (r.getD j 0=((i+1+j:Nat):Int))).length:=by
   rw[List.length_cons,List.range_succ_eq_map,List.filter_cons];have e2:((List.range r.length).map Nat.succ).filter (fun j=>decide ((x::r).getD j 0=((i+j:Nat):Int)))=((List.range r.length).filter fun j=>decide (r.getD j 0=((i+1+j:Nat):Int))).map Nat.succ:=by rw[List.filter_map];congr 1;apply List.filter_congr;intro j _;simp only[Function.comp,Nat.succ_eq_add_one,List.getD_cons_succ];rw[show i+(j+1)=i+1+j by omega]
   rw[e2];simp only[List.getD_cons_zero,Nat.add_zero];by_cases hx:x=(i:Int)
   ·simp[hx];omega
   ·simp[hx]
  rw[e];unfold uD;have hi:((i:Int)+1)=((i+1:Nat):Int):=by omega
  rw[hi];by_cases hx:x=(i:Int)
  ·rw[if_pos hx,if_pos hx];have hw:IntKind.wrap .i64 ((n:Int)+1)=((n+1:Nat):Int):=by rw[wrap_small (by omega) (by omega)];omega
   rw[hw,xR r (i+1) (n+1) (by omega)];congr 1;omega
  ·rw[if_neg hx,if_neg hx,xR r (i+1) n (by omega)];congr 1;omega
theorem tc{d:ak}(hw:Wf d):gX d=((lh d (labels d)).length:Int):=by have h:=ep hw;have hn:=hw.nv;unfold gX;have:=xR (labels d) 0 0 (by rw[h.l.n];omega);simp only[Nat.zero_add]at this;have e:uD (labels d) 0 0=uD (labels d) ((0:Nat):Int) ((0:Nat):Int):=rfl;rw[e,this];unfold lh;rw[List.length_map,h.l.n]
theorem xS:∀(l:List ai) (n:Nat),n+l.length≤1000000→Ce l (n:Int)=((n+al l:Nat):Int)
 |[],n,_=>by simp[Ce,al]
 |v::r,n,h=>by
  simp at h;unfold Ce al;rw[List.countP_cons];by_cases hv:v.2.1.length=0
  ·have:v.2.1.isEmpty=true:=by rw[List.isEmpty_iff];simpa using hv
   have hw:IntKind.wrap .i64 ((n:Int)+1)=((n+1:Nat):Int):=by rw[wrap_small (by omega) (by omega)];omega
   rw[if_pos hv,hw,xS r (n+1) (by omega),this];unfold al;congr 1;simp;omega
  ·have:v.2.1.isEmpty=false:=by
    cases hq:v.2.1 with
    |nil=>rw[hq]at hv;exact absurd rfl hv
    |cons _ _=>rfl
   rw[if_neg hv,xS r n (by omega),this];unfold al;simp
theorem wy{d:ak}(hw:Wf d):(bR d).length≤80:=by
 have h:=bH hw;have h1:=h.p.length_eq;have h2:=hw.I2;have h3:(bR d).length≤(bR d).flatten.length:=by
  have hc:=h.c;generalize bR d=cs at hc
  induction cs with
  |nil=>simp
  |cons c r ih =>have:=ih (fun c Zm=>hc c (abq _ Zm));have h1:=(hc c (abZ ..)).ne;have:0<c.length:=Nat.pos_of_ne_zero fun k=>h1 (List.length_eq_zero_iff.1 k);simp only[List.length_cons,List.flatten_cons,List.length_append];omega
 omega
theorem O2{d:ak}(hw:Wf d):KR d=((ft d:Nat):Int):=by unfold KR ft;have:=hw.nv;have:=wy hw;exact xS d.1 (bR d).length (by omega)
theorem CF{d:ak}(hw:Wf d){R:List ID}(hr:nT d R):∃k:Nat,bK d=(k:Int)∧d.1.length+ft d+2*k=2*R.length+d.2.length:=by
 have hl:=(kX hw (ep hw)).len hw hr;obtain⟨k,hk⟩:=MC d.2.length d hw rfl R hr;refine⟨k,?_,hk⟩;have hn:=hw.nv;have he:=hw.ne;have hf:=wy hw;have ha:al d.1≤d.1.length:=adV;have hR:R.length≤d.1.length:=by rw[←hl];unfold lh;rw[List.length_map];exact acB (adI _ _) (by simp)
 have hft:ft d=(bR d).length+al d.1:=rfl;unfold bK;rw[tc hw,O2 hw,hl];rw[wrap_small (n:=2*((R.length:Nat):Int)) (by omega) (by omega)];rw[wrap_small (n:=2*((R.length:Nat):Int)-((d.1.length:Nat):Int)) (by omega) (by omega)];rw[wrap_small (n:=2*((R.length:Nat):Int)-((d.1.length:Nat):Int)+((d.2.length:Nat):Int)) (by omega) (by omega)];have e:2*((R.length:Nat):Int)-((d.1.length:Nat):Int)+((d.2.length:Nat):Int)-((ft d:Nat):Int)=2*(k:Int):=by omega
 rw[e,wrap_small (n:=2*(k:Int)) (by omega) (by omega)];have e2:Int.tdiv (2*(k:Int)) 2=(k:Int):=by rw[Int.tdiv_eq_ediv_of_nonneg (by omega)];omega
 rw[e2,wrap_small (by omega) (by omega)]
end Go.Vs
