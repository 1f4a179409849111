/- Faces -/
import Derived.Test.YtoleelddkocpkaaGreatSplits
set_option linter.unusedVariables false
set_option linter.unusedSimpArgs false
namespace Go.Cy
variable {α:Type}
def Path(f:α→α):List α→α→Prop
 |[],_=>True
 |x::r,z=>f x=r.head?.getD z∧Path f r z
theorem Path.app{f:α→α}:∀{a b:List α} {z:α},Path f (a++b) z↔Path f a (b.head?.getD z)∧Path f b z
 |[],b,z=>by simp[Path]
 |x::r,b,z=>by simp_all [Path.app,List.cons_append,Path,and_assoc]
theorem Path.congr{f g:α→α}:∀{a:List α} {z:α},(∀x∈a,g x=f x)→Path f a z→Path g a z
 |[],_,_,_=>trivial
 |x::r,z,h,p=>⟨(h x (abT ..)).trans p.1,Path.congr (fun y hy=>h y (abq _ hy)) p.2⟩
def jQ(f:α→α):List α→Prop
 |[]=>False
 |x::r=>Path f (x::r) x
theorem jQ.two{f:α→α}{x y:α}{a b:List α}:jQ f ((x::a)++(y::b))↔Path f (x::a) y∧Path f (y::b) x:=by show Path f ((x::a)++(y::b)) x↔_;rw[Path.app];rfl
theorem jQ.Eg{f:α→α}:∀{a b:List α},jQ f (a++b)→jQ f (b++a)
 |[],b,h=>by simpa using h
 |x::a,[],h=>by simpa using h
 |x::a,y::b,h=>jQ.two.2 ⟨(jQ.two.1 h).2,(jQ.two.1 h).1⟩
theorem jQ.ne{f:α→α}{c:List α}(h:jQ f c):c≠[]:=by rintro rfl;exact h
theorem jQ.congr{f g:α→α}{c:List α}(h:∀x∈c,g x=f x)(k:jQ f c):jQ g c:=by
 cases c with
 |nil=>exact k
 |cons x r=>exact Path.congr h k
theorem Path.step{f:α→α}:∀{a:List α} {z x:α},Path f a z→x∈a→f x∈a∨f x=z
 |y::r,z,x,p,hx=>by
  rcases abM.1 hx with rfl|hx
  ·cases r with
   |nil=>exact .inr p.1
   |cons u r=>exact .inl (by have:=p.1;simp at this;rw[this];simp)
  ·rcases Path.step p.2 hx with h|h
   ·exact .inl (abq _ h)
   ·exact .inr h
theorem jQ.step{f:α→α}{c:List α}(h:jQ f c){x:α}(hx:x∈c):f x∈c:=by
 cases c with
 |nil=>exact h.elim
 |cons y r =>
  rcases Path.step (show Path f (y::r) y from h) hx with k|k
  ·exact k
  simp_all
def it(f:α→α):Nat→α→α
 |0,x=>x
 |n+1,x=>it f n (f x)
theorem jQ.it{f:α→α}{c:List α}(h:jQ f c):∀(n:Nat) {x:α},x∈c→it f n x∈c
 |0,_,hx=>hx
 |n+1,_,hx=>jQ.it h n (h.step hx)
theorem Path.reach{f:α→α}:∀{r:List α} {x z:α},Path f (x::r) z→∀y∈x::r,∃n,it f n x=y
 |[],x,z,_,y,hy=>by simp at hy;exact⟨0,hy.symm⟩
 |u::r,x,z,p,y,hy=>by
  rcases abM.1 hy with rfl|hy
  ·exact⟨0,rfl⟩
  ·have h1:f x=u:=p.1;obtain⟨n,hn⟩:=Path.reach p.2 y hy;exact⟨n+1,by show it f n (f x)=y;rw[h1];exact hn⟩
theorem jQ.head{f:α→α}{c:List α}(h:jQ f c){x:α}(hx:x∈c):∃r,jQ f (x::r)∧(x::r).Perm c:=by
 obtain⟨a,b,rfl⟩:=acb hx
 grind [jQ.Eg,List.perm_append_comm]
theorem jQ.reach{f:α→α}{c:List α}(h:jQ f c){x y:α}(hx:x∈c)(hy:y∈c):∃n,Cy.it f n x=y:=by obtain⟨r,h1,h2⟩:=h.head hx;exact Path.reach (show Path f (x::r) x from h1) y (h2.mem_iff.2 hy)
theorem jQ.same{f:α→α}{c c':List α}(h:jQ f c)(h':jQ f c'){x:α}(hx:x∈c)(WN:x∈c'){y:α}(hy:y∈c):y∈c':=by obtain⟨n,hn⟩:=h.reach hx hy;rw[←hn];exact h'.it n WN
structure Gs(f:α→α)(D:List α)(cs:List (List α)):Prop where
 c:∀c∈cs,jQ f c
 p:cs.flatten.Perm D
theorem sw(p q:List (List α))(c:List α):(p++c::q).flatten.Perm (c++(p++q).flatten):=by
 grind [List.flatten_append,List.flatten_cons,List.append_assoc,List.Perm.append_right,List.perm_append_comm]
theorem Gs.count{f:α→α}:∀{cs cs':List (List α)} {D:List α},D.Nodup→Gs f D cs→Gs f D cs'→cs.length=cs'.length
 |[],cs',D,hn,h,h'=>by
  have hD:D=[]:=by have:=h.p;simp at this;exact this.symm▸rfl
  subst hD
  cases cs' with
  |nil=>rfl
  |cons c r =>
   have:=h'.p.length_eq;have h1:=(h'.c c (by simp)).ne
   cases c with
   |nil=>exact absurd rfl h1
   |cons x c=>simp at this
 |c::r,cs',D,hn,h,h'=>by
  have hc:=h.c c (by simp);obtain⟨x,c0,rfl⟩:∃x c0,c=x::c0:=by
   cases c with
   |nil=>exact hc.elim
   |cons x c0=>exact⟨x,c0,rfl⟩
  have hx:x∈cs'.flatten:=h'.p.mem_iff.2 (h.p.mem_iff.1 (by simp));obtain⟨c',hc',ae4⟩:=ace.1 hx;obtain⟨p,q,rfl⟩:=acb hc';have ae5:=h'.c c' (by simp);have n1:(x::c0).Nodup:=by have:=h.p.nodup_iff.2 hn;rw[List.flatten_cons]at this;exact(acf.1 this).1
  have n2:c'.Nodup:=by have:=(sw p q c').nodup_iff.1 (h'.p.nodup_iff.2 hn);exact(acf.1 this).1
  have pc:(x::c0).Perm c':=(List.perm_ext_iff_of_nodup n1 n2).2 fun y=>⟨fun hy=>hc.same ae5 (by simp) ae4 hy,fun hy=>ae5.same hc ae4 (by simp) hy⟩;have pd:((x::c0)++r.flatten).Perm ((x::c0)++(p++q).flatten):=by
   have e1:((x::c0)++r.flatten).Perm D:=by have:=h.p;rwa [List.flatten_cons]at this
   have e2:(c'++(p++q).flatten).Perm D:=(sw p q c').symm.trans h'.p;exact e1.trans (e2.symm.trans (ach _ pc.symm))
  have pr:=(List.perm_append_left_iff _).1 pd;have WX:r.flatten.Nodup:=by have:=h.p.nodup_iff.2 hn;rw[List.flatten_cons]at this;exact(acf.1 this).2.1
  have ih:=Gs.count (cs:=r) (cs':=p++q) (D:=r.flatten) WX ⟨fun c hc=>h.c c (by simp[hc]),ac4 _⟩ ⟨fun c hc=>h'.c c (by rcases abU.1 hc with k|k<;>simp[k]),pr.symm⟩;simp at ih ⊢;omega
theorem Path.ln{f g:α→α}:∀{a:List α} {z z':α},Path f a z→z∉a.tail→(∀u∈a,f u≠z→g u=f u)→(∀u∈a,f u=z→g u=z')→Path g a z'
 |[],_,_,_,_,_,_=>trivial
 |[x],z,z',p,hz,h1,h2=>⟨h2 x (by simp) p.1,trivial⟩
 |x::y::r,z,z',p,hz,h1,h2=>by have e:f x=y:=p.1;have bw:y≠z:=fun k=>hz (by simp[k]);refine⟨(h1 x (by simp) (by rw[e];exact bw)).trans e,?_⟩;exact Path.ln p.2 (fun k=>hz (abq _ k)) (fun u hu=>h1 u (abq _ hu)) (fun u hu=>h2 u (abq _ hu))
def nz:List α→Nat
 |[]=>0
 |_::_=>1
def lp(l:List α):List (List α):=match l with | []=>[]|x::r=>[x::r]
theorem Dz(l:List α):(lp l).flatten=l:=by cases l<;>simp[lp]
theorem Gt(l:List α):(lp l).length=nz l:=by cases l<;>rfl
theorem mU{l:List α}{z:α}(h:z∈l.tail):z∈l:=List.mem_of_mem_tail h
section
variable [DecidableEq α]
def xl(f':α→α)(x y:α)(z:α):α :=if f' z=x then(if f' y=y then f' x else f' y) else if f' z=y then(if f' x=x then f' y else f' x) else f' z
theorem Gs.UM{f' f:α→α}{x y:α}{D:List α}{cs':List (List α)}{c:List α}(hxy:x≠y)(hn:(x::y::D).Nodup)(h:Gs f' (x::y::D) cs')(hf:∀z∈D,f z=xl f' x y z)(hc:c∈cs')(hx:x∈c)(hy:y∈c) :
  ∃cs,Gs f D cs∧cs.length+1=cs'.length+(if f' x=y then 0 else 1)+(if f' y=x then 0 else 1):=by
 obtain⟨p,q,rfl⟩:=acb hc;have R6:=h.c c hc;obtain⟨r,h1,h2⟩:=R6.head hx;have hyr:y∈r:=by
  grind
 obtain⟨B,A,rfl⟩:=acb hyr;have h3:jQ f' ((x::B)++(y::A)):=h1;obtain⟨⟨fx,pB⟩,⟨fy,pA⟩⟩:=jQ.two.1 h3;have pd:(x::y::(B++A++(p++q).flatten)).Perm (x::y::D):=by
  refine List.Perm.trans ?_ h.p
  grind
 have pD:=(pd.cons_inv).cons_inv;have nd:=pd.nodup_iff.2 hn;have nx:x∉B++A++(p++q).flatten:=fun k=>(abR.1 nd).1 (abq _ k);have ny:y∉B++A++(p++q).flatten:=(abR.1 (abR.1 nd).2).1;have xB:x∉B:=fun k=>nx (by simp[k]);have xA:x∉A:=fun k=>nx (by simp[k]);have yB:y∉B:=fun k=>ny (by simp[k]);have yA:y∉A:=fun k=>ny (by simp[k]);have UN:∀z∈B++A++(p++q).flatten,z∈D:=fun z hz=>pD.mem_iff.1 hz;have cB:∀c∈lp B,jQ f c:=fun c hc=>by
  cases B with
  |nil=>simp[lp]at hc
  |cons b B =>
   have hc:c=b::B:=by grind [lp]
   subst hc;have fx:f' x=b:=fx;have bx:b≠x:=fun k=>xB (by simp[k]);refine Path.ln pB (fun k=>yB (mU k)) (fun u hu bw=>?_) (fun u hu heq=>?_)
   ·rw[hf u (UN u (by grind))];unfold xl;have:f' u≠x:=fun k=>by
     rcases pB.step hu with m|m
     ·simp_all
     ·exact bw m
    simp_all
   ·rw[hf u (UN u (by grind))];simp_all [xl,if_neg,if_pos]
 have cA:∀c∈lp A,jQ f c:=fun c hc=>by
  cases A with
  |nil=>simp[lp]at hc
  |cons a A =>
   have hc:c=a::A:=by grind [lp]
   subst hc;have fy:f' y=a:=fy;have ay:a≠y:=fun k=>yA (by simp[k]);refine Path.ln pA (fun k=>xA (mU k)) (fun u hu bw=>?_) (fun u hu heq=>?_)
   ·rw[hf u (UN u (by grind))];unfold xl;have:f' u≠y:=fun k=>by
     rcases pA.step hu with m|m
     ·simp_all
     ·exact bw m
    simp_all
   ·rw[hf u (UN u (by grind))];simp_all [xl,if_pos,if_neg]
 have cR:∀c∈p++q,jQ f c:=fun c hc=>by
  have hc':c∈p++((x::B)++(y::A))::q:=by
   grind
  have DA:jQ f' c:=h.c c (by grind);refine DA.congr fun z hz=>?_;have hzf:∀u∈c,u∈(p++q).flatten:=fun u hu=>ace.2 ⟨c,hc,hu⟩;have hm:=hzf _ (DA.step hz);rw[hf z (UN z (List.mem_append_right _ (hzf z hz)))];unfold xl;rw[if_neg (fun k=>nx (List.mem_append_right _ (by simp_all))),if_neg (fun k=>ny (List.mem_append_right _ (by simp_all)))]
 refine⟨lp B++(lp A++(p++q)),⟨fun c hc=>?_,?_⟩,?_⟩
 ·grind
 ·grind [List.flatten_append,Dz,List.append_assoc]
 ·have eB:(if f' x=y then 0 else 1)=nz B:=by
   cases B with
   |nil=>exact if_pos fx
   |cons b B=>exact if_neg (fun k=>yB (by simp_all))
  have eA:(if f' y=x then 0 else 1)=nz A:=by
   cases A with
   |nil=>exact if_pos fy
   |cons a A=>exact if_neg (fun k=>xA (by simp_all))
  grind [List.length_append,Gt,List.length_cons]
theorem Gs.UO{f' f:α→α}{x y:α}{D:List α}{cs':List (List α)}{c:List α}(hxy:x≠y)(hn:(x::y::D).Nodup)(h:Gs f' (x::y::D) cs')(hf:∀z∈D,f z=xl f' x y z)(hc:c∈cs')(hx:x∈c)(hy:y∉c) :
  ∃cs,Gs f D cs∧cs.length+2=cs'.length+(if f' x=x∧f' y=y then 0 else 1):=by
 obtain⟨p,q,rfl⟩:=acb hc;have R6:=h.c c hc;obtain⟨B,h1,h2⟩:=R6.head hx;have hyc:y∈(p++q).flatten:=by have:y∈(p++c::q).flatten:=h.p.mem_iff.2 (by simp);simp_all
 obtain⟨c2,oE,akI⟩:=ace.1 hyc;have akJ:c2∈p++c::q:=by grind
 obtain⟨A,h3,h4⟩:=(h.c c2 akJ).head akI;obtain⟨p2,q2,G4⟩:=acb oE;obtain⟨fx,pB⟩:=(show Path f' (x::B) x from h1);obtain⟨fy,pA⟩:=(show Path f' (y::A) y from h3);have pd:(x::y::(B++A++(p2++q2).flatten)).Perm (x::y::D):=by
  refine List.Perm.trans ?_ h.p
  grind [sw,p,c,List.Perm.append_right,List.Perm.append_left,List.append_assoc]
 have pD:=(pd.cons_inv).cons_inv;have nd:=pd.nodup_iff.2 hn;have nx:x∉B++A++(p2++q2).flatten:=fun k=>(abR.1 nd).1 (abq _ k);have ny:y∉B++A++(p2++q2).flatten:=(abR.1 (abR.1 nd).2).1;have xB:x∉B:=fun k=>nx (by simp[k]);have xA:x∉A:=fun k=>nx (by simp[k]);have yB:y∉B:=fun k=>ny (by simp[k]);have yA:y∉A:=fun k=>ny (by simp[k]);have UN:∀z∈B++A++(p2++q2).flatten,z∈D:=fun z hz=>pD.mem_iff.1 hz;have nB:∀u∈B,f' u≠x→f u=f' u:=fun u hu bw=>by
  rw[hf u (UN u (by simp[hu]))];unfold xl;have:f' u≠y:=fun k=>by
   rcases pB.step hu with m|m
   ·simp_all
   ·exact bw m
  simp_all
 have nA:∀u∈A,f' u≠y→f u=f' u:=fun u hu bw=>by
  rw[hf u (UN u (by simp[hu]))];unfold xl;have:f' u≠x:=fun k=>by
   rcases pA.step hu with m|m
   ·simp_all
   ·exact bw m
  simp_all
 have eB:∀u∈B,f' u=x→f u=if f' y=y then f' x else f' y:=fun u hu heq=>by rw[hf u (UN u (by simp[hu]))];unfold xl;simp_all
 have eA:∀u∈A,f' u=y→f u=if f' x=x then f' y else f' x:=fun u hu heq=>by
  rw[hf u (UN u (by simp[hu]))];unfold xl
  grind
 have cBA:∀c∈lp (B++A),jQ f c:=fun c hc=>by
  cases B with
  |nil =>
   cases A with
   |nil=>simp[lp]at hc
   |cons a A =>
    have hc:c=a::A:=by grind [lp]
    subst hc;refine Path.ln pA (fun k=>yA (mU k)) nA (fun u hu heq=>?_)
    grind
  |cons b B =>
   have fxb:f' x=b:=fx;have bx:b≠x:=fun k=>xB (by simp[k])
   cases A with
   |nil =>
    have hc:c=b::B:=by grind [lp]
    subst hc;refine Path.ln pB (fun k=>xB (mU k)) nB (fun u hu heq=>?_)
    grind
   |cons a A =>
    have hc:c=(b::B)++(a::A):=by simpa[lp] using hc
    subst hc;have fya:f' y=a:=fy;have ay:a≠y:=fun k=>yA (by simp[k]);refine jQ.two.2 ⟨Path.ln pB (fun k=>xB (mU k)) nB (fun u hu heq=>?_),Path.ln pA (fun k=>yA (mU k)) nA (fun u hu heq=>?_)⟩
    ·grind
    grind
 have cR:∀c∈p2++q2,jQ f c:=fun c hc=>by
  have Wt:c∈p++q:=by grind
  have DA:jQ f' c:=h.c c (by grind);refine DA.congr fun z hz=>?_;have hzf:∀u∈c,u∈(p2++q2).flatten:=fun u hu=>ace.2 ⟨c,hc,hu⟩;have hm:=hzf _ (DA.step hz);rw[hf z (UN z (List.mem_append_right _ (hzf z hz)))];unfold xl;rw[if_neg (fun k=>nx (List.mem_append_right _ (by grind))),if_neg (fun k=>ny (List.mem_append_right _ (by grind)))]
 refine⟨lp (B++A)++(p2++q2),⟨fun c hc=>?_,?_⟩,?_⟩
 ·grind
 ·rw[List.flatten_append,Dz];exact pD
 ·have eBA:(if f' x=x∧f' y=y then 0 else 1)=nz (B++A):=by
   cases B with
   |nil =>
    cases A with
    |nil=>exact if_pos ⟨fx,fy⟩
    |cons a A=>exact if_neg (fun k=>yA (by simp_all))
   |cons b B=>exact if_neg (fun k=>xB (by grind))
  grind [p,List.length_append,Gt,List.length_cons]
end
end Go.Cy
namespace Go.Vs
open Go.Proofs Go.Cy
def skip(x:ab)(s:ab→ab)(z:ab):ab:=if s z=x then s x else s z
def de(row:List ab)(x:ab):ab:=(dp row x 1).getD zD
theorem pe{row:List ab}(hn:row.Nodup){i:Nat}{x:ab}(hx:row[i]? = some x):de row x=(row[(i+1)%row.length]?).getD zD:=by unfold de dp;rw[if_pos (List.mem_of_getElem? hx),XL hn hx,Int.toNat_natCast]
theorem Gu{row:List ab}(hn:row.Nodup):∀(r p:List ab),row=p++r→Path (de row) r (row.head?.getD zD)
 |[],_,_=>trivial
 |x::r,p,h=>by
  refine⟨?_,Gu hn r (p++[x]) (by rw[h];simp)⟩;have hx:row[p.length]? = some x:=by rw[h];simp
  rw[pe hn hx]
  cases r with
  |nil =>
   have hl:row.length=p.length+1:=by rw[h];simp
   rw[hl,Nat.mod_self];show(row[0]?).getD zD=row.head?.getD zD;rw[List.head?_eq_getElem?]
  |cons y r =>
   have hl:p.length+1<row.length:=by rw[h];simp
   rw[Nat.mod_eq_of_lt hl];have:row[p.length+1]? = some y:=by rw[h];simp
   rw[this];rfl
theorem sx{row:List ab}(hn:row.Nodup)(h0:row≠[]):jQ (de row) row:=by
 have:=Gu hn row [] rfl
 cases row with
 |nil=>simp_all
 |cons x r=>exact this
theorem DB{f g:ab→ab}:∀{a:List ab} {z:ab},Path f a z→Path g a z→∀x∈a,f x=g x
 |y::r,z,p,q,x,hx=>by
  rcases abM.1 hx with rfl|hx
  ·exact p.1.trans q.1.symm
  ·exact DB p.2 q.2 x hx
theorem Gv{f g:ab→ab}{c:List ab}(h:jQ f c)(k:jQ g c):∀x∈c,f x=g x:=by
 cases c with
 |nil=>exact h.elim
 |cons y r=>exact DB h k
theorem KO{f:ab→ab}{row:List ab}{j:Nat}(h:jQ f (Eg row j)):jQ f row:=by
 grind [Eg,jQ.Eg,List.take_append_drop]
theorem kB{row:List ab}(hn:row.Nodup){x:ab}(hx:x∈row):de row x∈row:=(sx hn (ac3 hx)).step hx
theorem Gx{f:ab→ab}:∀{a:List ab} {z:ab},Path f a z→a≠[]→∃l,l∈a∧f l=z
 |[x],z,p,_=>⟨x,by simp,p.1⟩
 |x::y::r,z,p,_=>by obtain⟨l,h1,h2⟩:=Gx p.2 (by simp);exact⟨l,abq _ h1,h2⟩
theorem QQ{row:List ab}(hn:row.Nodup){x y:ab}(hx:x∈row)(hy:y∈row)(h:de row x=de row y):x=y:=by
 obtain⟨i,hi⟩:=acx hx;obtain⟨j,hj⟩:=acx hy;have qO:=(aby.1 hi).1;have Ps:=(aby.1 hj).1;have hp:0<row.length:=by omega
 rw[pe hn hi,pe hn hj,List.getElem?_eq_getElem (Nat.mod_lt _ hp),List.getElem?_eq_getElem (Nat.mod_lt _ hp)]at h;have h2:(i+1)%row.length=(j+1)%row.length:=Gq hn (by simpa using h);have h3:i=j:=by
  by_cases a:i+1<row.length<;>by_cases b:j+1<row.length
  ·grind [Nat.mod_eq_of_lt]
  ·grind [Nat.mod_eq_of_lt,Nat.mod_self]
  ·grind [Nat.mod_eq_of_lt,Nat.mod_self]
  ·omega
 simp_all
theorem QR{row:List ab}(hn:row.Nodup){x z:ab}(hx:x∈row)(hz:z∈row)(hzx:z≠x):de (iz row x) z=skip x (de row) z:=by
 obtain⟨A,B,rfl⟩:=acb hx;obtain⟨k,hk⟩:=acx hx;have he:(A++x::B).filter (fun e=>decide (e≠x))=A++B:=by
  have hx2:(A++x::B)[A.length]? = some x:=by simp
  rw[yO hn hx2];simp
 have PX:(x::(B++A)).Nodup:=by have p:(A++x::B).Perm (x::(B++A)):=List.perm_middle.trans (List.Perm.cons x List.perm_append_comm);exact p.nodup_iff.1 hn
 have Ee:z∈B++A:=by
  rcases abU.1 hz with k|k
  ·exact abN _ k
  ·rcases abM.1 k with k|k
   ·exact absurd k hzx
   ·exact abO _ k
 have c1:jQ (de (A++x::B)) (x::(B++A)):=by have:=(sx hn (ac3 hx)).Eg;simpa using this
 obtain⟨fx,pL⟩:=(show Path (de (A++x::B)) (x::(B++A)) x from c1);have c2:jQ (skip x (de (A++x::B))) (B++A):=by
  generalize hL:B++A=L at *
  cases L with
  |nil=>simp at Ee
  |cons l L =>
   have fx:de (A++x::B) x=l:=fx;have zy:x∉l::L:=(abR.1 PX).1;refine Path.ln pL (fun k=>zy (mU k)) (fun u hu bw=>?_) (fun u hu heq=>?_)
   ·unfold skip;rw[if_neg bw]
   ·unfold skip;rw[if_pos heq,fx]
 have hr:iz (A++x::B) x=cj (A++B):=by unfold iz;rw[he]
 obtain⟨j,hj,hjr⟩:=Ag (A++B);have nAB:(A++B).Nodup:=(List.perm_append_comm (l₁:=B) (l₂:=A)).nodup_iff.1 (abR.1 PX).2;have akL:(iz (A++x::B) x).Nodup:=by rw[hr];exact(kq _).nodup_iff.2 nAB
 have hzm:z∈iz (A++x::B) x:=by
  rw[hr,oX];rcases abU.1 Ee with k|k
  ·exact abN _ k
  ·exact abO _ k
 have c3:jQ (de (iz (A++x::B) x)) (A++B):=by have:=sx akL (ac3 hzm);generalize de (iz (A++x::B) x)=g at *;rw[hr,hjr]at this;exact KO this
 exact Gv (jQ.Eg c3) c2 z Ee
def sg(d:ak)(x:ab):ab:=(jY d x).getD zD
def ph(d:ak)(x:ab):ab:=(IB d x).getD zD
theorem DC{d:ak}(h:Rw d.1){v:ai}{x:ab}(hv:v∈d.1)(hx:x∈v.2.1):jY d x=dp v.2.1 x 1:=by unfold jY b8;rw[eJ h hv hx];show dp (bF d v.1) x 1=_;rw[ku h.s hv]
theorem jR{d:ak}(h:Rw d.1){v:ai}{x:ab}(hv:v∈d.1)(hx:x∈v.2.1):sg d x=de v.2.1 x:=by
 grind [sg,de,DC]
theorem MF{d:ak}(h:Rw d.1){x:ab}(hx:x∈an d.1):jY d x=some (sg d x):=by
 obtain⟨v,hv,od⟩:=aS.1 hx;have:jY d x=some (de v.2.1 x):=by
  rw[DC h hv od];unfold de dp;rw[if_pos od]
  grind [List.length_pos_of_mem,List.getElem?_eq_getElem,Nat.mod_lt]
 grind [jR]
theorem XO{d:ak}(h:Rw d.1){x:ab}(hx:x∈an d.1):sg d x∈an d.1:=by obtain⟨v,hv,od⟩:=aS.1 hx;rw[jR h hv od];exact aS.2 ⟨v,hv,kB (h.ring hv) od⟩
theorem UP{d:ak}(h:Rw d.1){x y:ab}(hx:x∈an d.1)(hy:y∈an d.1)(he:sg d x=sg d y):x=y:=by obtain⟨v,hv,od⟩:=aS.1 hx;obtain⟨w,hw,hyw⟩:=aS.1 hy;rw[jR h hv od,jR h hw hyw]at he;have h1:=kB (h.ring hv) od;have h2:=kB (h.ring hw) hyw;rw[←he]at h2;have hwv:=h.one hv hw h1 h2;subst hwv;exact QQ (h.ring hw) od hyw he
theorem qA{d:ak}(h:Rw d.1){x z:ab}(hx:x∈an d.1)(hz:z∈an (aF d x).1):sg (aF d x) z=skip x (sg d) z:=by
 obtain⟨p,q⟩:=fJ h hx;obtain⟨v,hv,od⟩:=aS.1 hx;have hzd:z∈an d.1:=p.mem_iff.2 (abq _ hz);have hzx:z≠x:=fun k=>(abR.1 (p.nodup_iff.1 h.n)).1 (k▸hz);obtain⟨w,hw,Lt⟩:=aS.1 hz;have hr:=kx h hv od;have Ln:w∈d.1.map (tF v.1 (iz v.2.1 x)):=by rw[hr]at hw;exact hw
 obtain⟨u,hu,hwu⟩:=abW.1 Ln;rw[jR q hw Lt];by_cases huv:u.1=v.1
 ·have huv:u=v:=by have h1:=jO h.s hv;have h2:=jO h.s hu;simp_all
  subst huv;have mX:w.2.1=iz u.2.1 x:=by rw[←hwu];unfold tF;simp_all
  rw[mX]at Lt ⊢;have H7:z∈u.2.1:=(tL od (h.ring hu)).mem_iff.2 (abq _ Lt);rw[QR (h.ring hu) od H7 hzx]
  grind [skip,jR]
 ·have mX:w=u:=by simp_all [tF,if_neg]
  subst mX;unfold skip;rw[jR h hu Lt,if_neg];intro k;have:=kB (h.ring hu) Lt;rw[k]at this;exact huv (congrArg Prod.fst (h.one hv hu od this))
theorem KP{d e:ak}(h:d.1=e.1)(x:ab):jY d x=jY e x:=by obtain⟨a,b⟩:=d;obtain⟨c,f⟩:=e;simp only at h;subst h;rfl
theorem bW{x:ab}(h:x.2=0∨x.2=1):ag (ag x)=x:=by obtain⟨x1,x2⟩:=x;simp only at h;rcases h with rfl|rfl<;>rfl
theorem Wf.side{d:ak}(h:Wf d){x:ab}(hx:x∈an d.1):x.2=0∨x.2=1:=by obtain⟨e,_,_,k⟩:=dO.1 (h.pd.mem_iff.1 hx);exact k
theorem Wf.other{d:ak}(h:Wf d){x:ab}(hx:x∈an d.1):ag x∈an d.1:=by
 obtain⟨e,he,h1,h2⟩:=dO.1 (h.pd.mem_iff.1 hx);refine h.pd.mem_iff.2 (dO.2 ⟨e,he,h1,?_⟩)
 grind [gO]
theorem DD{d:ak}{x:ab}(hx:x∈an d.1):(b8 d x).isSome=true:=by
 grind [aS,b8,Eh,Option.isSome_map,List.find?_isSome]
theorem ju{d:ak}{x:ab}(hx:x∈an d.1):ph d x=sg d (ag x):=by unfold ph IB sg;rw[if_pos (DD hx)]
theorem KQ{d:ak}(h:Wf d){x:ab}(hx:x∈an d.1):IB d x=some (ph d x):=by rw[ju hx];unfold IB;rw[if_pos (DD hx)];exact MF h.rw (h.other hx)
theorem UQ{d:ak}(h:Wf d){x:ab}(hx:x∈an d.1):ph d x∈an d.1:=by rw[ju hx];exact XO h.rw (h.other hx)
theorem aa5{d:ak}(h:Wf d){x y:ab}(hx:x∈an d.1)(hy:y∈an d.1)(he:ph d x=ph d y):x=y:=by rw[ju hx,ju hy]at he;have:=UP h.rw (h.other hx) (h.other hy) he;rw[←bW (h.side hx),←bW (h.side hy),this]
theorem KR{α:Type}[DecidableEq α]:∀{l D:List α},l.Nodup→(∀x∈l,x∈D)→l.length≤D.length
 |[],_,_,_=>acg _
 |x::r,D,hn,hs=>by
  have h1:=abR.1 hn;have hx:=hs x (abT ..);have ih:=KR (l:=r) (D:=D.erase x) h1.2 (fun y hy=>(aea (fun k=>h1.1 (by simp_all))).2 (hs y (abq _ hy)))
  grind
theorem UR{d:ak}(h:Wf d){out:List ab}{y:ab}(hn:out.Nodup)(hs:∀z∈out,z∈an d.1)(hp:Path (ph d) out y):y∉out.tail:=fun hy=>by
 cases out with
 |nil=>simp at hy
 |cons x r =>
  have hy:y∈r:=hy;obtain⟨p,q,rfl⟩:=acb hy;have key:∀(x:ab) (p:List ab),Path (ph d) (x::(p++y::q)) y→(x::(p++y::q)).Nodup→(∀z∈x::(p++y::q),z∈an d.1)→False:=by
   intro x p
   induction p generalizing x with
   |nil =>intro hp hn hs;have h1:ph d x=y:=hp.1;obtain⟨l,h2,h3⟩:=Gx hp.2 (by simp);have:=aa5 h (hs x (by simp)) (hs l (abq _ h2)) (h1.trans h3.symm);simp_all
   |cons u p ih =>intro hp hn hs;exact ih u hp.2 (abR.1 hn).2 (fun z hz=>hs z (abq _ hz))
  grind
theorem Wf.KS{d:ak}(h:Wf d):(an d.1).length≤80:=by
 have h2:=h.pd.length_eq;have h3:=h.ne;have:(ends d.2).length=2*d.2.length:=by
  clear h2 h3 h;generalize d.2=l
  induction l with
  |nil=>rfl
  |cons e r ih=>grind [fV]
 omega
theorem DE{d:ak}(h:Wf d)(x:ab):∀(n:Nat) (y:ab) (r:List ab),(x::r).length+n=82→(x::r).Nodup→(∀z∈x::r,z∈an d.1)→Path (ph d) (x::r) y→y∈an d.1 → ∃r',so d x n y (x::r)=x::r'∧(x::r').Nodup∧(∀z∈x::r',z∈an d.1)∧jQ (ph d) (x::r')
 |0,y,r,hl,hn,hs,hp,hy=>by have:=KR hn hs;have:=h.KS;omega
 |n+1,y,r,hl,hn,hs,hp,hy=>by
  unfold so;by_cases he:y=x
  ·subst he;rw[if_pos rfl];exact⟨r,rfl,hn,hs,hp⟩
  ·rw[if_neg he];have hyr:y∉x::r:=fun k=>by
    rcases abM.1 k with k|k
    ·exact he k
    ·exact UR h hn hs hp k
   have e:(IB d y).getD zD=ph d y:=rfl;rw[e];refine DE h x n (ph d y) (r++[y]) (by simp at hl ⊢;omega) ?_ (fun z hz=>?_) ?_ (UQ h hy)
   ·show((x::r)++[y]).Nodup;refine acf.2 ⟨hn,by simp,fun a ha b hb=>?_⟩;simp at hb;subst hb;exact fun k=>hyr (k▸ha)
   ·have hz:z∈(x::r)++[y]:=hz;rcases abU.1 hz with k|k
    ·exact hs z k
    ·simp at k;rw[k];exact hy
   ·show Path (ph d) ((x::r)++[y]) (ph d y);exact Path.app.2 ⟨hp,rfl,trivial⟩
theorem DF{d:ak}(h:Wf d){x:ab}(hx:x∈an d.1):∃r,bh d x=x::r∧(x::r).Nodup∧(∀z∈x::r,z∈an d.1)∧jQ (ph d) (x::r):=by unfold bh;rw[KQ h hx];exact DE h x 81 (ph d x) [] rfl (by simp) (fun z hz=>by simp_all) ⟨rfl,trivial⟩ (UQ h hx)
theorem sy{d:ak}(h:Wf d):∀(l:List ab) (out:List (List ab)),(∀x∈l,x∈an d.1)→(∀c∈out,jQ (ph d) c)→out.flatten.Nodup→(∀x∈out.flatten,x∈an d.1) →(∀c∈iL d l out out.flatten,jQ (ph d) c)∧(iL d l out out.flatten).flatten.Nodup∧(∀x∈(iL d l out out.flatten).flatten,x∈an d.1)∧(∀x,x∈l∨x∈out.flatten→x∈(iL d l out out.flatten).flatten)
 |[],out,_,h1,h2,h3=>⟨h1,h2,h3,fun x k=>k.resolve_left (by simp)⟩
 |x::l,out,hl,h1,h2,h3=>by
  unfold iL;by_cases hx:x∈out.flatten
  ·rw[if_pos hx];obtain⟨a,b,c,e⟩:=sy h l out (fun y hy=>hl y (abq _ hy)) h1 h2 h3
   grind
  ·rw[if_neg hx];obtain⟨r,t1,t2,t3,t4⟩:=DF h (hl x (abT ..));have ef:out.flatten++bh d x=(out++[bh d x]).flatten:=by simp
   rw[ef];have aoF:∀y∈bh d x,y∉out.flatten:=fun y hy k=>by obtain⟨c,hc,hyc⟩:=ace.1 k;rw[t1]at hy;exact hx (ace.2 ⟨c,hc,t4.same (h1 c hc) hy hyc (abT ..)⟩)
   obtain⟨a,b,c,e⟩:=sy h l (out++[bh d x]) (fun y hy=>hl y (abq _ hy)) (fun c hc=>by
     grind)
    (by
     grind)
    (fun y hy=>by
     grind)
   grind
theorem lS:∀l:List aj,eT l=ends l
 |[]=>rfl
 |e::r=>by rw[fV,eT,lS r]
theorem bQ{d:ak}(h:Wf d):Gs (ph d) (an d.1) (bU d):=by obtain⟨a,b,c,e⟩:=sy h (eT d.2) [] (fun x hx=>h.pd.mem_iff.2 (by grind [lS])) (by simp) (by simp) (by simp);refine⟨a,(List.perm_ext_iff_of_nodup b h.rw.n).2 fun x=>⟨c x,fun hx=>e x (.inl (by rw[lS];exact h.pd.mem_iff.1 hx))⟩⟩
def cZ(d:ak)(x:ID):ak:=aJ (aF (aF d (x,0)) (x,1)) zI x
theorem MG{d:ak}(h:Wf d)(x y:ab)(e:ID):(aJ (aF (aF d x) y) zI e).1=(aF (aF d x) y).1:=tM (ky (ky h.gv x) y)
theorem DG(x:ID):ag (x,0)=(x,1):=rfl
theorem US(x:ID):ag (x,1)=(x,0):=rfl
structure bV(d':ak)(x:ID):Prop where
 wf:Wf d'
 e:(aY d'.2 x).isSome=true
theorem bV.x0{d':ak}{x:ID}(h:bV d' x):(x,0)∈an d'.1:=h.wf.kA h.e (.inl rfl)
theorem bV.x1{d':ak}{x:ID}(h:bV d' x):(x,1)∈an d'.1:=h.wf.kA h.e (.inr rfl)
theorem bV.p1{d':ak}{x:ID}(h:bV d' x):(an d'.1).Perm ((x,0)::an (aF d' (x,0)).1)∧Rw (aF d' (x,0)).1:=fJ h.wf.rw h.x0
theorem bV.x1'{d':ak}{x:ID}(h:bV d' x):(x,1)∈an (aF d' (x,0)).1:=by
 rcases abM.1 (h.p1.1.mem_iff.1 h.x1) with k|k
 ·cases k
 ·exact k
theorem bV.p2{d':ak}{x:ID}(h:bV d' x):(an (aF d' (x,0)).1).Perm ((x,1)::an (aF (aF d' (x,0)) (x,1)).1)∧Rw (aF (aF d' (x,0)) (x,1)).1:=fJ h.p1.2 h.x1'
theorem bV.v{d':ak}{x:ID}(h:bV d' x):(cZ d' x).1=(aF (aF d' (x,0)) (x,1)).1:=MG h.wf _ _ _
theorem bV.w{d':ak}{x:ID}(h:bV d' x):Wf (cZ d' x):=h.wf.cut h.e
theorem bV.p{d':ak}{x:ID}(h:bV d' x):(an d'.1).Perm ((x,0)::(x,1)::an (cZ d' x).1):=by rw[h.v];exact h.p1.1.trans (List.Perm.cons _ h.p2.1)
theorem bV.sg{d':ak}{x:ID}(h:bV d' x){z:ab}(hz:z∈an (cZ d' x).1):sg (cZ d' x) z=skip (x,1) (skip (x,0) (sg d')) z:=by
 have e1:Vs.sg (cZ d' x) z=Vs.sg (aF (aF d' (x,0)) (x,1)) z:=by unfold Vs.sg;rw[KP h.v]
 rw[h.v]at hz;have zt:z∈an (aF d' (x,0)).1:=h.p2.1.mem_iff.2 (abq _ hz);rw[e1,qA h.p1.2 h.x1' hz];unfold skip;rw[qA h.wf.rw h.x0 zt,qA h.wf.rw h.x0 h.x1'];rfl
theorem bV.ph{d':ak}{x:ID}(h:bV d' x){z:ab}(hz:z∈an (cZ d' x).1):ph (cZ d' x) z=xl (ph d') (x,0) (x,1) z:=by
 have Bw:z∈an d'.1:=h.p.mem_iff.2 (abq _ (abq _ hz));have ho:=h.w.other hz;have rl:ag z∈an d'.1:=h.p.mem_iff.2 (abq _ (abq _ ho));have nd:=h.p.nodup_iff.1 h.wf.rw.n;have Nw:ag z≠(x,1):=fun k=>(abR.1 (abR.1 nd).2).1 (k▸ho);rw[ju hz,h.sg ho];unfold xl;rw[ju Bw,ju h.x0,ju h.x1,DG,US];generalize hW:ag z=w at *;have inj:Vs.sg d' (x,1)=(x,0)→Vs.sg d' w≠(x,0):=fun k1 k2=>Nw (UP h.wf.rw rl h.x1 (k2.trans k1.symm));unfold skip
 grind
def al(l:List ai):Nat:=l.countP fun v=>v.2.1.isEmpty
theorem Gy{row:List ab}(hn:row.Nodup){x:ab}(hx:x∈row):de row x=x↔row.length=1:=by
 obtain⟨i,hi⟩:=acx hx;have qO:=(aby.1 hi).1;have hp:0<row.length:=by omega
 rw[pe hn hi,List.getElem?_eq_getElem (Nat.mod_lt _ hp)];constructor
 ·intro h;have h1:row[(i+1)%row.length]? = some x:=by grind
  have h2:=yR hn h1 hi;by_cases c:i+1<row.length
  ·grind [Nat.mod_eq_of_lt]
  grind [Nat.mod_self]
 grind
theorem DH{d:ak}(h:Rw d.1){x:ab}(hx:x∈an d.1):al (aF d x).1=al d.1+if sg d x=x then 1 else 0:=by
 obtain⟨v,hv,od⟩:=aS.1 hx;obtain⟨a,b,h1,_,_,h2⟩:=mT h.s hv;have e1:(aF d x).1=a++(v.1,(iz v.2.1 x,v.2.2))::b:=by rw[kx h hv od];exact h2 _
 have p:=tL od (h.ring hv);have hl:=p.length_eq;have v0:v.2.1.isEmpty=false:=by
  grind
 have v1:(iz v.2.1 x).isEmpty=decide (sg d x=x):=by rw[Bool.eq_iff_iff,List.isEmpty_iff,decide_eq_true_eq,jR h hv od,Gy (h.ring hv) od,←List.length_eq_zero_iff];simp_all
 rw[e1]
 conv=>rhs;rw[h1]
 unfold al;rw[List.countP_append,List.countP_append,List.countP_cons,List.countP_cons];simp only[v0,v1]
 grind
def ft(d:ak):Nat:=(bU d).length+al d.1
def MH(d:ak)(x y:ab):Prop:=∃c∈bU d,x∈c∧y∈c
theorem bV.al{d':ak}{x:ID}(h:bV d' x):Vs.al (cZ d' x).1=Vs.al d'.1+(if Vs.ph d' (x,1)=(x,0) then 1 else 0)+(if Vs.ph d' (x,0)=(x,1)∨(Vs.ph d' (x,0)=(x,0)∧Vs.ph d' (x,1)=(x,1)) then 1 else 0):=by
 rw[h.v,DH h.p1.2 h.x1',DH h.wf.rw h.x0];have e0:Vs.ph d' (x,0)=Vs.sg d' (x,1):=ju h.x0;have e1:Vs.ph d' (x,1)=Vs.sg d' (x,0):=ju h.x1;rw[e0,e1,qA h.wf.rw h.x0 h.x1'];unfold skip
 grind
theorem ae8(x:ID):((x,0):ab)≠(x,1):=fun k=>by cases k
theorem bV.same{d':ak}{x:ID}(h:bV d' x)(hf:MH d' (x,0) (x,1)):ft (cZ d' x)=ft d'+1∧(bU (cZ d' x)).length+1=(bU d').length+(if Vs.ph d' (x,0)=(x,1) then 0 else 1)+(if Vs.ph d' (x,1)=(x,0) then 0 else 1):=by
 obtain⟨c,hc,h0,h1⟩:=hf;have nd:=h.p.nodup_iff.1 h.wf.rw.n;have dec:Gs (Vs.ph d') ((x,0)::(x,1)::an (cZ d' x).1) (bU d'):=⟨(bQ h.wf).c,(bQ h.wf).p.trans h.p⟩;obtain⟨cs,k1,k2⟩:=Gs.UM (ae8 x) nd dec (fun z hz=>h.ph hz) hc h0 h1;have k3:=Gs.count (h.w.rw.n) (bQ h.w) k1;have k4:=h.al;have DA:=(bQ h.wf).c c hc;have n0:¬(Vs.ph d' (x,0)=(x,0)):=fun k=>by
  obtain⟨n,hn⟩:=DA.reach h0 h1;have:∀n,it (Vs.ph d') n (x,0)=(x,0):=fun n=>by
   induction n with
   |zero=>rfl
   |succ n ih=>grind [it,Vs.ph]
  simp_all
 refine⟨?_,by omega⟩;unfold ft
 grind
theorem bV.diff{d':ak}{x:ID}(h:bV d' x)(hf:¬MH d' (x,0) (x,1)):ft (cZ d' x)+1=ft d':=by
 have hm:(x,0)∈(bU d').flatten:=(bQ h.wf).p.mem_iff.2 h.x0;obtain⟨c,hc,h0⟩:=ace.1 hm;have h1:(x,1)∉c:=fun k=>hf ⟨c,hc,h0,k⟩;have nd:=h.p.nodup_iff.1 h.wf.rw.n;have dec:Gs (Vs.ph d') ((x,0)::(x,1)::an (cZ d' x).1) (bU d'):=⟨(bQ h.wf).c,(bQ h.wf).p.trans h.p⟩;obtain⟨cs,k1,k2⟩:=Gs.UO (ae8 x) nd dec (fun z hz=>h.ph hz) hc h0 h1;have k3:=Gs.count (h.w.rw.n) (bQ h.w) k1;have k4:=h.al;have DA:=(bQ h.wf).c c hc;have n0:¬(Vs.ph d' (x,0)=(x,1)):=fun k=>h1 (k▸DA.step h0);have n1:¬(Vs.ph d' (x,1)=(x,0)):=fun k=>by have W0:(x,1)∈(bU d').flatten:=(bQ h.wf).p.mem_iff.2 h.x1;obtain⟨c2,oE,h2⟩:=ace.1 W0;have:=((bQ h.wf).c c2 oE).step h2;rw[k]at this;exact hf ⟨c2,oE,this,h2⟩
 unfold ft
 grind
def Ai(d:ak)(a b:ID):Prop:=∃z∈an d.1,b8 d z=some a∧b8 d (ag z)=some b
inductive ck (d:ak):ID→ID→Prop
 |refl (a:ID):ck d a a
 |tail {a b c:ID}:ck d a b→Ai d b c→ck d a c
theorem ck.trans{d:ak}{a b c:ID}(h:ck d a b)(k:ck d b c):ck d a c:=by
 induction k with
 |refl=>exact h
 |tail _ j ih=>exact ih.tail j
theorem Ai.symm{d:ak}(hw:Wf d){a b:ID}(h:Ai d a b):Ai d b a:=by obtain⟨z,hz,h1,h2⟩:=h;exact⟨ag z,hw.other hz,h2,by rw[bW (hw.side hz)];exact h1⟩
theorem Ai.conn{d:ak}{a b:ID}(h:Ai d a b):ck d a b:=(ck.refl a).tail h
theorem ck.symm{d:ak}(hw:Wf d){a b:ID}(h:ck d a b):ck d b a:=by
 induction h with
 |refl=>exact .refl _
 |tail _ j ih=>exact(j.symm hw).conn.trans ih
structure n6(d:ak)(R:List ID):Prop where
 n:R.Nodup
 v:∀r∈R,∃v∈d.1,v.1=r
 i:∀r∈R,∀s∈R,ck d r s→r=s
 c:∀v∈d.1,∃r∈R,ck d v.1 r
theorem H8{d:ak}(hw:Wf d):∀{R R':List ID},R.Nodup→(∀r∈R,∀s∈R,ck d r s→r=s)→(∀r∈R,∃s∈R',ck d r s)→R.length≤R'.length
 |[],_,_,_,_=>acg _
 |r::R,R',hn,hi,hc=>by
  obtain⟨s,hs,hrs⟩:=hc r (abT ..);have h1:=abR.1 hn;have ih:=H8 hw (R:=R) (R':=R'.erase s) h1.2 (fun a ha b hb=>hi a (abq _ ha) b (abq _ hb)) (fun a ha=>by obtain⟨t,ht,Ar⟩:=hc a (abq _ ha);refine⟨t,(aea (fun k=>?_)).2 ht,Ar⟩;subst k;have:=hi a (abq _ ha) r (abT ..) (Ar.trans (hrs.symm hw));simp_all)
  grind
theorem n6.len{d:ak}(hw:Wf d){R R':List ID}(h:n6 d R)(h':n6 d R'):R.length=R'.length:=by
 refine Nat.le_antisymm (H8 hw h.n h.i fun r hr=>?_) (H8 hw h'.n h'.i fun r hr=>?_)
 ·obtain⟨v,hv,rfl⟩:=h.v r hr;exact h'.c v hv
 ·obtain⟨v,hv,rfl⟩:=h'.v r hr;exact h.c v hv
theorem sB{d:ak}(hw:Wf d){z:ab}(hz:z∈an d.1):∃v∈d.1,z∈v.2.1∧b8 d z=some v.1:=by obtain⟨v,hv,hzv⟩:=aS.1 hz;exact⟨v,hv,hzv,eJ hw.rw hv hzv⟩
theorem DI{d:ak}(h:Rw d.1){x z:ab}(hx:x∈an d.1)(hz:z∈an (aF d x).1):b8 (aF d x) z=b8 d z:=by
 obtain⟨p,q⟩:=fJ h hx;obtain⟨v,hv,od⟩:=aS.1 hx;obtain⟨w,hw,Lt⟩:=aS.1 hz;have hr:=kx h hv od;have Ln:w∈d.1.map (tF v.1 (iz v.2.1 x)):=by rw[hr]at hw;exact hw
 obtain⟨u,hu,hwu⟩:=abW.1 Ln;have bL:w.1=u.1:=by grind [sr]
 have H7:z∈u.2.1:=by
  by_cases huv:u.1=v.1
  ·have huv:u=v:=by have h1:=jO h.s hv;have h2:=jO h.s hu;simp_all
   subst huv;have mX:w.2.1=iz u.2.1 x:=by rw[←hwu];unfold tF;simp_all
   rw[mX]at Lt;exact(tL od (h.ring hu)).mem_iff.2 (abq _ Lt)
  simp_all [tF,if_neg]
 show Eh (aF d x).1 z=Eh d.1 z
 grind [eJ]
theorem bV.at{d':ak}{x:ID}(h:bV d' x){z:ab}(hz:z∈an (cZ d' x).1):b8 (cZ d' x) z=b8 d' z:=by
 have e:b8 (cZ d' x) z=b8 (aF (aF d' (x,0)) (x,1)) z:=by unfold b8;rw[h.v]
 rw[h.v]at hz;have zt:z∈an (aF d' (x,0)).1:=h.p2.1.mem_iff.2 (abq _ hz);rw[e,DI h.p1.2 h.x1' hz,DI h.wf.rw h.x0 zt]
theorem bV.sub{d':ak}{x:ID}(h:bV d' x){z:ab}(hz:z∈an (cZ d' x).1):z∈an d'.1:=h.p.mem_iff.2 (abq _ (abq _ hz))
theorem bV.XP{d':ak}{x:ID}(h:bV d' x){a b:ID}(k:Ai (cZ d' x) a b):Ai d' a b:=by obtain⟨z,hz,h1,h2⟩:=k;exact⟨z,h.sub hz,by rw[←h.at hz];exact h1,by rw[←h.at (h.w.other hz)];exact h2⟩
theorem bV.conn{d':ak}{x:ID}(h:bV d' x){a b:ID}(k:ck (cZ d' x) a b):ck d' a b:=by
 induction k with
 |refl=>exact .refl _
 |tail _ j ih=>exact ih.tail (h.XP j)
theorem bV.akP{d':ak}{x u w:ID}(h:bV d' x)(hu:b8 d' (x,0)=some u)(hw:b8 d' (x,1)=some w){a b:ID}(k:Ai d' a b):Ai (cZ d' x) a b∨(a=u∧b=w)∨(a=w∧b=u):=by
 obtain⟨z,hz,h1,h2⟩:=k;rcases abM.1 (h.p.mem_iff.1 hz) with rfl|Ee
 ·rw[DG]at h2;rw[hu]at h1;rw[hw]at h2
  cases h1;cases h2
  exact .inr (.inl ⟨rfl,rfl⟩)
 rcases abM.1 Ee with rfl|Ph
 ·rw[US]at h2;rw[hw]at h1;rw[hu]at h2
  cases h1;cases h2
  exact .inr (.inr ⟨rfl,rfl⟩)
 ·exact .inl ⟨z,Ph,by rw[h.at Ph];exact h1,by rw[h.at (h.w.other Ph)];exact h2⟩
theorem bV.UT{d':ak}{x u w:ID}(h:bV d' x)(hu:b8 d' (x,0)=some u)(hw:b8 d' (x,1)=some w){a b:ID}(k:ck d' a b) :
  ck (cZ d' x) a b∨(ck (cZ d' x) a u∧ck (cZ d' x) w b)∨(ck (cZ d' x) a w∧ck (cZ d' x) u b):=by
 induction k with
 |refl=>exact .inl (.refl _)
 |tail _ j ih =>
  rcases h.akP hu hw j with j|⟨rfl,rfl⟩|⟨rfl,rfl⟩
  ·rcases ih with k|⟨k,m⟩|⟨k,m⟩
   ·exact .inl (k.tail j)
   ·exact .inr (.inl ⟨k,m.tail j⟩)
   ·exact .inr (.inr ⟨k,m.tail j⟩)
  ·rcases ih with k|⟨k,m⟩|⟨k,m⟩
   ·exact .inr (.inl ⟨k,.refl _⟩)
   ·exact .inr (.inl ⟨k,.refl _⟩)
   simp_all
  ·rcases ih with k|⟨k,m⟩|⟨k,m⟩
   ·exact .inr (.inr ⟨k,.refl _⟩)
   ·exact .inl k
   ·exact .inr (.inr ⟨k,.refl _⟩)
theorem bV.ids{d':ak}{x:ID}(h:bV d' x):(cZ d' x).1.map (·.1)=d'.1.map (·.1):=by rw[h.v];unfold aF Vs.cf;simp only[List.map_map];simp_all [List.map_congr_left,v,Function.comp,sr]
theorem bV.H9{d':ak}{x:ID}(h:bV d' x){r:ID}:(∃v∈(cZ d' x).1,v.1=r)↔∃v∈d'.1,v.1=r:=by
 have e:∀l:List ai,(∃v∈l,v.1=r)↔r∈l.map (·.1):=fun l=>by simp_all
 rw[e,e,h.ids]
theorem bV.EM{d':ak}{x u w:ID}(h:bV d' x)(hu:b8 d' (x,0)=some u)(hw:b8 d' (x,1)=some w)(k:ck (cZ d' x) u w){R:List ID}(hr:n6 d' R):n6 (cZ d' x) R:=by
 have key:∀{a b:ID},ck d' a b→ck (cZ d' x) a b:=fun {a b} m=>by
  rcases h.UT hu hw m with m|⟨m,q⟩|⟨m,q⟩
  ·exact m
  ·exact(m.trans k).trans q
  ·exact(m.trans (k.symm h.w)).trans q
 refine⟨hr.n,fun r xF=>h.H9.2 (hr.v r xF),fun r xF s hs m=>hr.i r xF s hs (h.conn m),fun v hv=>?_⟩;obtain⟨v',AK,he⟩:=h.H9.1 ⟨v,hv,rfl⟩;obtain⟨r,h1,h2⟩:=hr.c v' AK
 grind
theorem bV.Ia{d':ak}{x:ID}(h:bV d' x):∃u w,b8 d' (x,0)=some u∧b8 d' (x,1)=some w∧(∃v∈d'.1,v.1=u)∧∃v∈d'.1,v.1=w:=by
 obtain⟨v,hv,_,h1⟩:=sB h.wf h.x0;obtain⟨v2,AJ,_,h2⟩:=sB h.wf h.x1
 grind
theorem bV.UU{d':ak}{x u w:ID}(h:bV d' x)(hu:b8 d' (x,0)=some u)(hw:b8 d' (x,1)=some w)(k:¬ck (cZ d' x) u w){R:List ID}(hr:n6 d' R):∃R2,n6 (cZ d' x) R2∧R2.length=R.length+1:=by
 have uv:∃v∈d'.1,v.1=u:=by
  obtain⟨v,hv,_,h1⟩:=sB h.wf h.x0
  grind
 have wv:∃v∈d'.1,v.1=w:=by
  obtain⟨v,hv,_,h1⟩:=sB h.wf h.x1
  grind
 have uw:ck d' u w:=Ai.conn ⟨(x,0),h.x0,hu,by grind [DG]⟩;obtain⟨v0,YD,hvu⟩:=uv;obtain⟨r,xF,hur⟩:=hr.c v0 YD;rw[hvu]at hur;have sep:∀s∈R.erase r,s∈R∧¬ck d' s u∧¬ck d' s w:=fun s hs=>by
  have h1:=ad5 hs;have h2:s≠r:=fun e=>by subst e;exact absurd hs (List.Nodup.not_mem_erase hr.n)
  exact⟨h1,fun m=>h2 (hr.i s h1 r xF (m.trans hur)),fun m=>h2 (hr.i s h1 r xF ((m.trans (uw.symm h.wf)).trans hur))⟩
 refine⟨u::w::R.erase r,⟨?_,?_,?_,?_⟩,?_⟩
 ·refine abR.2 ⟨fun m=>?_,abR.2 ⟨fun m=>(sep w m).2.2 (.refl _),hr.n.erase r⟩⟩;rcases abM.1 m with m|m
  ·exact k (m▸.refl _)
  simp_all
 ·intro s hs;rcases abM.1 hs with rfl|hs
  ·exact h.H9.2 ⟨v0,YD,hvu⟩
  rcases abM.1 hs with rfl|hs
  ·exact h.H9.2 wv
  ·exact h.H9.2 (hr.v s (sep s hs).1)
 ·intro a ha b hb m;rcases abM.1 ha with ea|ha
  ·rcases abM.1 hb with eb|hb
   ·rw[ea,eb]
   rcases abM.1 hb with eb|hb
   ·simp_all
   ·exact absurd ((h.conn (ea▸m)).symm h.wf) (sep b hb).2.1
  rcases abM.1 ha with ea|ha
  ·rcases abM.1 hb with eb|hb
   ·exact absurd ((ea▸eb▸m).symm h.w) k
   rcases abM.1 hb with eb|hb
   ·rw[ea,eb]
   ·exact absurd ((h.conn (ea▸m)).symm h.wf) (sep b hb).2.2
  ·rcases abM.1 hb with eb|hb
   ·exact absurd (eb▸h.conn m) (sep a ha).2.1
   rcases abM.1 hb with eb|hb
   ·exact absurd (eb▸h.conn m) (sep a ha).2.2
   ·exact hr.i a (sep a ha).1 b (sep b hb).1 (h.conn m)
 ·intro v hv;obtain⟨v',AK,he⟩:=h.H9.1 ⟨v,hv,rfl⟩;obtain⟨s,h1,h2⟩:=hr.c v' AK;rw[he]at h2;by_cases hsr:s=r
  ·subst hsr;rcases h.UT hu hw (h2.trans (hur.symm h.wf)) with m|⟨m,_⟩|⟨m,_⟩
   ·simp_all
   ·simp_all
   simp_all
  ·have hse:s∈R.erase r:=(aea hsr).2 h1;rcases h.UT hu hw h2 with m|⟨_,q⟩|⟨_,q⟩
   ·grind
   ·simp_all
   simp_all
 grind
theorem bV.Gz{d':ak}{x u w:ID}(h:bV d' x)(hu:b8 d' (x,0)=some u)(hw:b8 d' (x,1)=some w)(hf:¬MH d' (x,0) (x,1)):ck (cZ d' x) u w:=by
 have hm:(x,0)∈(bU d').flatten:=(bQ h.wf).p.mem_iff.2 h.x0;obtain⟨c,hc,h0⟩:=ace.1 hm;have h1:(x,1)∉c:=fun k=>hf ⟨c,hc,h0,k⟩;have DA:=(bQ h.wf).c c hc;obtain⟨B,k1,k2⟩:=DA.head h0;have hcd:∀z∈c,z∈an d'.1:=fun z hz=>(bQ h.wf).p.mem_iff.1 (ace.2 ⟨c,hc,hz⟩);have cn:c.Nodup:=by
  obtain⟨p,q,e⟩:=acb hc;have:=(bQ h.wf).p.nodup_iff.2 h.wf.rw.n
  grind
 have bn:=k2.nodup_iff.2 cn;have akQ:∀z∈an d'.1,b8 d' (Vs.ph d' z)=b8 d' (ag z):=fun z hz=>by have ho:=h.wf.other hz;obtain⟨v,hv,hzv⟩:=aS.1 ho;rw[ju hz,jR h.wf.rw hv hzv];show Eh d'.1 _=Eh d'.1 _;rw[eJ h.wf.rw hv (kB (h.wf.rw.ring hv) hzv),eJ h.wf.rw hv hzv]
 have inC:∀z∈B,z∈an (cZ d' x).1:=fun z hz=>by
  have hzc:z∈c:=k2.mem_iff.1 (abq _ hz);rcases abM.1 (h.p.mem_iff.1 (hcd z hzc)) with e|e
  ·simp_all
  grind
 have walk:∀(B:List ab) (a e:ID) (z:ab),(∀y∈B,y∈an (cZ d' x).1)→Path (Vs.ph d') B z→b8 d' z=some e→(∀y,B.head? = some y→b8 d' y=some a)→(B=[]→a=e)→ck (cZ d' x) a e:=by
  intro B
  induction B with
  |nil=>intro a e z _ _ _ _ h5;rw[h5 rfl];exact .refl _
  |cons y r ih =>
   intro a e z hB hp hz ha _;have hy:=hB y (by simp);have hyd:=h.sub hy;obtain⟨v,hv,Wy,Ar⟩:=sB h.wf (h.wf.other hyd);have XP:Ai (cZ d' x) a v.1:=⟨y,hy,by rw[h.at hy];exact ha y rfl,by rw[h.at (h.w.other hy)];exact Ar⟩;have lC:b8 d' (r.head?.getD z)=some v.1:=by rw[←show Vs.ph d' y=r.head?.getD z from hp.1,akQ y hyd];exact Ar
   refine XP.conn.trans (ih v.1 e z (fun q hq=>hB q (abq _ hq)) hp.2 hz (fun q hq=>?_) (fun hr=>?_))
   ·simp_all
   simp_all
 obtain⟨fx,pB⟩:=(show Path (Vs.ph d') ((x,0)::B) (x,0) from k1);have akR:b8 d' (B.head?.getD (x,0))=some w:=by
  grind [DG]
 refine(walk B w u (x,0) inC pB hu (fun y hy=>by simp_all) (fun hB=>?_)).symm h.w;simp_all
theorem KT{d:ak}(h:an d.1=[]){a b:ID}(k:ck d a b):a=b:=by
 induction k with
 |refl=>rfl
 |tail _ j _=>obtain⟨z,hz,_⟩:=j;simp_all
theorem b6.ids{l:List ai}(h:b6 l):(l.map (·.1)).Nodup:=by unfold List.Nodup;rw[List.pairwise_map];exact h.imp fun {a b} k e=>by grind [bY]
theorem Oj:∀(n:Nat) (d:ak),Wf d→d.2.length=n→∀R,n6 d R→∃k,d.1.length+ft d+2*k=2*R.length+d.2.length
 |0,d,hw,hl,R,hr=>by
  have he:d.2=[]:=by simpa using hl
  have hd:an d.1=[]:=by have:=hw.pd;rw[he]at this;exact List.perm_nil.1 this
  have aap:n6 d (d.1.map (·.1)):=⟨hw.sv.ids,fun r hr=>by simp_all,fun r _ s _ k=>KT hd k,fun v hv=>⟨v.1,abW.2 ⟨v,hv,rfl⟩,.refl _⟩⟩;have hlen:=hr.len hw aap;have hf:bU d=[]:=by unfold bU;rw[he];rfl
  have ha:al d.1=d.1.length:=by
   unfold al;rw[List.countP_eq_length];intro v hv;rw[List.isEmpty_iff]
   cases hq:v.2.1 with
   |nil=>rfl
   |cons y r =>have:y∈an d.1:=aS.2 ⟨v,hv,by rw[hq];simp⟩;simp_all
  refine⟨0,?_⟩
  grind [ft]
 |n+1,d,hw,hl,R,hr=>by
  obtain⟨e,r,he⟩:∃e r,d.2=e::r:=by
   cases hq:d.2 with
   |nil=>simp_all
   |cons e r=>simp_all
  have hc:bV d e.1:=⟨hw,by grind [aY]⟩;obtain⟨u,w,hu,hwt,_,_⟩:=hc.Ia;have hv:(cZ d e.1).1.length=d.1.length:=by have:=congrArg List.length hc.ids;simp_all
  have xC:(cZ d e.1).2.length=n:=by
   have h1:=hc.w.pd.length_eq;have h2:=hw.pd.length_eq;have h3:=hc.p.length_eq;have e2:∀l:List aj,(ends l).length=2*l.length:=fun l=>by
    induction l with
    |nil=>rfl
    |cons e r ih=>grind [fV]
   grind
  by_cases hf:MH d (e.1,0) (e.1,1)
  ·have h1:=(hc.same hf).1;by_cases k:ck (cZ d e.1) u w
   ·obtain⟨g,hg⟩:=Oj n (cZ d e.1) hc.w xC R (hc.EM hu hwt k hr);exact⟨g+1,by omega⟩
   ·obtain⟨R2,h2,h3⟩:=hc.UU hu hwt k hr;obtain⟨g,hg⟩:=Oj n (cZ d e.1) hc.w xC R2 h2
    grind
  ·have h1:=hc.diff hf;obtain⟨g,hg⟩:=Oj n (cZ d e.1) hc.w xC R (hc.EM hu hwt (hc.Gz hu hwt hf) hr)
   grind
def cP(d:ak)(i:Nat):ID:=((d.1[i]?).getD zV).1
theorem qB{d:ak}{i:Nat}{v:ai}(h:d.1[i]? = some v):cP d i=v.1:=by grind [cP]
theorem jS{d:ak}(hs:b6 d.1){i j:Nat}(hi:i<d.1.length)(hj:j<d.1.length)(h:cP d i=cP d j):i=j:=by have h1:=abk hi;have h2:=abk hj;rw[qB h1,qB h2]at h;rw[km hs h1 rfl,km hs h2 rfl,h]
theorem UW{x:ID}:∀{l:List ai} {i:Nat} {v:ai} (k:Int),l[i]? = some v→v.1=x→(∀j u,j<i→l[j]? = some u→u.1≠x)→A7 x l k=k+i
 |w::r,0,v,k,h,hv,_=>by simp_all [A7,if_pos]
 |w::r,i+1,v,k,h,hv,hn=>by have h0:=hn 0 w (by omega) (by simp);rw[A7,if_neg h0,UW (i:=i) (v:=v) (k+1) (by simpa using h) hv (fun j u hj hu=>hn (j+1) u (by omega) (by simpa using hu))];omega
theorem UX{d:ak}(hs:b6 d.1){i:Nat}(hi:i<d.1.length):A7 (cP d i) d.1 0=(i:Int):=by
 grind [List.getElem?_eq_getElem,UW,cP,qB,jS,trans]
theorem MI{d:ak}(hw:Wf d){z:ab}(hz:z∈an d.1):∃i,i<d.1.length∧b8 d z=some (cP d i):=by
 obtain⟨v,hv,_,h⟩:=sB hw hz;obtain⟨i,hi,he⟩:=acY hv;refine⟨i,hi,?_⟩
 grind [qB,List.getElem?_eq_getElem]
structure Ib(d:ak)(L:List Int):Prop where
 n:L.length=d.1.length
 i:∀i,i<d.1.length→∃j:Nat,j≤i∧L.getD i 0=(j:Int)∧ck d (cP d i) (cP d j)
def gj(d:ak)(L:List Int)(i:Nat):Prop:=∀j,j<d.1.length→ck d (cP d i) (cP d j)→L.getD i 0≤(j:Int)
structure KU(d:ak)(L:List Int):Prop where
 l:Ib d L
 r:∀i,i<d.1.length→gj d L i
def EN(a b:Nat)(L:List Int):List Int:=(L.set a (min (L.getD a 0) (L.getD b 0))).set b (min (L.getD a 0) (L.getD b 0))
theorem UY{L:List Int}{a b:Nat}(ha:a<L.length)(hb:b<L.length)(i:Nat):(EN a b L).getD i 0=if i=a∨i=b then min (L.getD a 0) (L.getD b 0) else L.getD i 0:=by
 unfold EN
 grind
theorem QS{d:ak}(hw:Wf d){L:List Int}(h:Ib d L){a b:Nat}(ha:a<d.1.length)(hb:b<d.1.length)(z8:ck d (cP d a) (cP d b)):Ib d (EN a b L)∧(∀i,i<d.1.length→gj d L i→gj d (EN a b L) i)∧(gj d L a→gj d (EN a b L) b)∧(gj d L b→gj d (EN a b L) a):=by
 have Rv:a<L.length:=by rw[h.n];exact ha
 have P0:b<L.length:=by rw[h.n];exact hb
 have gl:=UY Rv P0;obtain⟨ja,a1,a2,a3⟩:=h.i a ha;obtain⟨jb,b1,b2,b3⟩:=h.i b hb;have hba:=z8.symm hw;refine⟨⟨by unfold EN;simp[h.n],fun i hi=>?_⟩,fun i hi hr j hj hc=>?_,fun hr j hj hc=>?_,fun hr j hj hc=>?_⟩
 ·rw[gl];by_cases XQ:i=a∨i=b
  ·rw[if_pos XQ];have conn:ck d (cP d i) (cP d a)∧ck d (cP d i) (cP d b):=by
    rcases XQ with rfl|rfl
    ·exact⟨.refl _,z8⟩
    ·exact⟨hba,.refl _⟩
   by_cases hle:L.getD a 0≤L.getD b 0
   ·refine⟨ja,?_,by omega,conn.1.trans a3⟩;omega
   ·refine⟨jb,?_,by omega,conn.2.trans b3⟩;omega
  ·rw[if_neg XQ];exact h.i i hi
 ·rw[gl]
  split
  ·rename_i XQ;have:=hr j hj hc
   grind
  ·exact hr j hj hc
 ·rw[gl,if_pos (.inr rfl)];have:=hr j hj (z8.trans hc);omega
 ·rw[gl,if_pos (.inl rfl)];have:=hr j hj (hba.trans hc);omega
theorem aa6{d:ak}(hw:Wf d){e:aj}(he:e∈d.2)(L:List Int):∃a b,a<d.1.length∧b<d.1.length∧b8 d (e.1,0)=some (cP d a)∧b8 d (e.1,1)=some (cP d b)∧HU d e L=EN a b L:=by have h0:(e.1,0)∈an d.1:=hw.pd.mem_iff.2 (dO.2 ⟨e,he,rfl,.inl rfl⟩);have h1:(e.1,1)∈an d.1:=hw.pd.mem_iff.2 (dO.2 ⟨e,he,rfl,.inr rfl⟩);obtain⟨a,ha,ea⟩:=MI hw h0;obtain⟨b,hb,eb⟩:=MI hw h1;refine⟨a,b,ha,hb,ea,eb,?_⟩;unfold HU EN;rw[ea,eb];simp only[Option.getD_some,UX hw.sv ha,UX hw.sv hb,Int.toNat_natCast];rfl
theorem vF{d:ak}(hw:Wf d):∀(l:List aj) {L:List Int},(∀e∈l,e∈d.2)→Ib d L→Ib d (jZ d l L)∧(∀i,i<d.1.length→gj d L i→gj d (jZ d l L) i) ∧(∀e∈l,∀a b,a<d.1.length→b<d.1.length→((b8 d (e.1,0)=some (cP d a)∧b8 d (e.1,1)=some (cP d b))∨(b8 d (e.1,0)=some (cP d b)∧b8 d (e.1,1)=some (cP d a)))→gj d L a→gj d (jZ d l L) b)
 |[],L,_,h=>⟨h,fun i hi hr=>hr,fun e he=>by simp at he⟩
 |e::r,L,hl,h=>by
  have he:=hl e (abT ..);obtain⟨a,b,ha,hb,ea,eb,el⟩:=aa6 hw he L;have h0:(e.1,0)∈an d.1:=hw.pd.mem_iff.2 (dO.2 ⟨e,he,rfl,.inl rfl⟩);have z8:ck d (cP d a) (cP d b):=Ai.conn ⟨(e.1,0),h0,ea,by grind [DG]⟩;obtain⟨s1,s2,s3,s4⟩:=QS hw h ha hb z8;obtain⟨t1,t2,t3⟩:=vF hw r (L:=EN a b L) (fun e he=>hl e (abq _ he)) s1;show Ib d (jZ d r (HU d e L))∧_∧_;rw[el];refine⟨t1,fun i hi hr=>?_,fun f hf p q hp hq G4 hr=>?_⟩
  ·grind [gj,jZ,HU]
  ·show gj d (jZ d r (HU d e L)) q;rw[el];rcases abM.1 hf with rfl|hf
   ·refine t2 q hq ?_;rcases G4 with⟨k1,k2⟩|⟨k1,k2⟩
    ·rw[ea]at k1;rw[eb]at k2;have:=jS hw.sv ha hp (ab2 k1);subst this;have:=jS hw.sv hb hq (ab2 k2);simp_all
    ·rw[ea]at k1;rw[eb]at k2;have:=jS hw.sv ha hq (ab2 k1);subst this;have:=jS hw.sv hb hp (ab2 k2);simp_all
   grind
theorem MJ{d:ak}(i:Nat)(hi:i<d.1.length):∃m,m<d.1.length∧ck d (cP d i) (cP d m)∧∀j,j<d.1.length→ck d (cP d i) (cP d j)→m≤j:=by
 induction i using Nat.strongRecOn with
 |ind i ih =>
  by_cases h:∃j,j<i∧ck d (cP d i) (cP d j)∧ck d (cP d j) (cP d i)
  ·obtain⟨j,hj,hc,oE⟩:=h;obtain⟨m,h1,h2,h3⟩:=ih j hj (by omega);exact⟨m,h1,hc.trans h2,fun k hk hck=>h3 k hk (oE.trans hck)⟩
  ·by_cases hs:∃j,j<i∧ck d (cP d i) (cP d j)
   ·obtain⟨j,hj,hc⟩:=hs;have key:∀n,n≤i→(∃m,m<n∧ck d (cP d i) (cP d m))→∃m,m<d.1.length∧ck d (cP d i) (cP d m)∧∀j,j<d.1.length→ck d (cP d i) (cP d j)→m≤j:=by
     intro n
     induction n with
     |zero=>omega
     |succ n ihn =>
      rintro hn ⟨m,hm,Wt⟩;by_cases hb:∃m,m<n∧ck d (cP d i) (cP d m)
      ·grind
      grind
    exact key i (abX _) ⟨j,hj,hc⟩
   ·refine⟨i,hi,.refl _,fun j hj hc=>Classical.byContradiction fun k=>hs ⟨j,by omega,hc⟩⟩
theorem QT{d:ak}(P:ID→Prop){x y:ID}(h:ck d x y)(hx:P x)(hy:¬P y):∃a b,Ai d a b∧P a∧¬P b:=by
 induction h with
 |refl=>simp_all
 | @tail b c k j ih =>
  grind
open Classical in
theorem KV{P Q:Nat→Prop}:∀{l:List Nat},(∀i∈l,P i→Q i)→(∃i∈l,Q i∧¬P i)→l.countP (fun i=>decide (P i))<l.countP (fun i=>decide (Q i))
 |[],_,h=>by simp_all
 |x::r,h,⟨i,hi,hq,hp⟩=>by
  have mono:r.countP (fun i=>decide (P i))≤r.countP (fun i=>decide (Q i)):=by
   have hr:∀i∈r,P i→Q i:=fun i hi=>h i (abq _ hi);clear h hi
   induction r with
   |nil=>simp
   |cons y r ih =>
    grind
  rw[List.countP_cons,List.countP_cons];rcases abM.1 hi with rfl|hi
  ·grind
  ·have:=KV (l:=r) (fun i hi=>h i (abq _ hi)) ⟨i,hi,hq,hp⟩
   grind
theorem MK{d:ak}(hw:Wf d){L:List Int}(h:Ib d L)(hn:∃i,i<d.1.length∧¬gj d L i):∃i,i<d.1.length∧gj d (jZ d d.2 L) i∧¬gj d L i:=by
 obtain⟨i,hi,hr⟩:=hn;obtain⟨m,m1,m2,m3⟩:=MJ i hi;have hm:gj d L m:=fun j hj hc=>by obtain⟨q,q1,q2,_⟩:=h.i m m1;have:=m3 j hj (m2.trans hc);rw[q2];omega
 let P:ID→Prop:=fun x=>∃k,k<d.1.length∧cP d k=x∧gj d L k
 have hx:P (cP d m):=⟨m,m1,rfl,hm⟩;have hy:¬P (cP d i):=fun⟨k,k1,k2,k3⟩=>by have:=jS hw.sv k1 hi k2;simp_all
 obtain⟨a,b,⟨z,hz,za,zb⟩,⟨p,p1,p2,p3⟩,hb⟩:=QT P (m2.symm hw) hx hy;obtain⟨q,q1,q2⟩:=MI hw (hw.other hz);rw[zb]at q2;have hbq:b=cP d q:=ab2 q2;obtain⟨e,he,e1,e2⟩:=dO.1 (hw.pd.mem_iff.1 hz);refine⟨q,q1,?_,fun k=>hb ⟨q,q1,hbq.symm,k⟩⟩;refine(vF hw d.2 (fun _ h=>h) h).2.2 e he p q p1 q1 ?_ p3;rw[p2,←hbq];obtain⟨z1,z2⟩:=z;simp only at e1 e2;subst e1;rcases e2 with rfl|rfl
 ·exact .inl ⟨za,zb⟩
 ·exact .inr ⟨zb,za⟩
open Classical in
theorem DJ{d:ak}(hw:Wf d):∀(n:Nat) {L:List Int},Ib d L→d.1.length≤n+(List.range d.1.length).countP (fun i=>decide (gj d L i))→KU d (Kt d n L)
 |0,L,h,hc=>by
  refine⟨h,fun i hi=>?_⟩;have h1:(List.range d.1.length).countP (fun i=>decide (gj d L i))=(List.range d.1.length).length:=by
   grind
  have:=List.countP_eq_length.1 h1 i (ab9.2 hi);exact of_decide_eq_true this
 |n+1,L,h,hc=>by
  obtain⟨s1,s2,_⟩:=vF hw d.2 (fun _ h=>h) h;show KU d (Kt d n (jZ d d.2 L));refine DJ hw n s1 ?_;by_cases hn:∃i,i<d.1.length∧¬gj d L i
  ·obtain⟨i,hi,h1,h2⟩:=MK hw h hn;have:=KV (P:=gj d L) (Q:=gj d (jZ d d.2 L)) (l:=List.range d.1.length) (fun i hi=>s2 i (ab9.1 hi)) ⟨i,ab9.2 hi,h1,h2⟩;omega
  ·have:(List.range d.1.length).countP (fun i=>decide (gj d (jZ d d.2 L) i))=(List.range d.1.length).length:=by rw[List.countP_eq_length];simp_all
   simp_all
theorem aa7(d:ak):Ib d (EK d.1.length):=by
 refine⟨by unfold EK;simp,fun i hi=>⟨i,abX _,?_,.refl _⟩⟩
 grind [EK,List.getD]
theorem eL{d:ak}(hw:Wf d):KU d (labels d):=DJ hw d.1.length (aa7 d) (by omega)
theorem KU.uniq{d:ak}(hw:Wf d){L M:List Int}(h:KU d L)(k:KU d M):L=M:=by
 apply acm;intro i;by_cases hi:i<d.1.length
 ·have e1:L[i]? = some (L.getD i 0):=by rw[List.getElem?_eq_getElem (by rw[h.l.n];exact hi)];grind
  have e2:M[i]? = some (M.getD i 0):=by rw[List.getElem?_eq_getElem (by rw[k.l.n];exact hi)];grind
  obtain⟨a,a1,a2,a3⟩:=h.l.i i hi;obtain⟨b,b1,b2,b3⟩:=k.l.i i hi;have h1:=h.r i hi b (by omega) b3;have h2:=k.r i hi a (by omega) a3
  grind
 ·rw[List.getElem?_eq_none (by rw[h.l.n];omega),List.getElem?_eq_none (by rw[k.l.n];omega)]
def mV(d:ak)(L:List Int):List ID:=((List.range d.1.length).filter fun i=>decide (L.getD i 0=(i:Int))).map (cP d)
theorem lq{d:ak}(hw:Wf d){L:List Int}(h:KU d L):n6 d (mV d L):=by
 have mem:∀{r:ID},r∈mV d L↔∃i,i<d.1.length∧L.getD i 0=(i:Int)∧cP d i=r:=fun {r}=>by
  unfold mV
  grind
 refine⟨?_,fun r hr=>?_,fun r hr s hs hc=>?_,fun v hv=>?_⟩
 ·unfold mV List.Nodup;rw[List.pairwise_map];have hp:((List.range d.1.length).filter fun i=>decide (L.getD i 0=(i:Int))).Nodup:=List.nodup_range.filter _;refine List.Pairwise.imp_of_mem (fun {a b} ha hb bw e=>bw ?_) hp;exact jS hw.sv (ab9.1 (acM.1 ha).1) (ab9.1 (acM.1 hb).1) e
 ·obtain⟨i,hi,_,rfl⟩:=mem.1 hr;exact⟨d.1[i],ab4 hi,(qB (abk hi)).symm⟩
 ·obtain⟨i,hi,h1,rfl⟩:=mem.1 hr;obtain⟨j,hj,h2,rfl⟩:=mem.1 hs;have k1:=h.r i hi j hj hc;have k2:=h.r j hj i hi (hc.symm hw)
  grind
 ·obtain⟨i,hi,he⟩:=acY hv;have bL:cP d i=v.1:=by rw[qB (List.getElem?_eq_getElem hi),he]
  obtain⟨j,j1,j2,j3⟩:=h.l.i i hi;refine⟨cP d j,mem.2 ⟨j,by omega,?_,rfl⟩,by simp_all⟩;obtain⟨k,k1,k2,k3⟩:=h.l.i j (by omega);have h1:=h.r i hi k (by omega) (j3.trans k3);omega
theorem yT:∀(l:List Int) (i:Nat) (n:Nat),n+l.length≤1000000→qo l (i:Int) (n:Int)=((n+((List.range l.length).filter fun j=>decide (l.getD j 0=((i+j:Nat):Int))).length:Nat):Int)
 |[],i,n,_=>by simp[qo]
 |x::r,i,n,h=>by
  simp at h;have e:((List.range (x::r).length).filter fun j=>decide ((x::r).getD j 0=((i+j:Nat):Int))).length=(if x=(i:Int) then 1 else 0)+((List.range r.length).filter fun j=>decide (r.getD j 0=((i+1+j:Nat):Int))).length:=by
   rw[List.length_cons,List.range_succ_eq_map,List.filter_cons];have e2:((List.range r.length).map Nat.succ).filter (fun j=>decide ((x::r).getD j 0=((i+j:Nat):Int)))=((List.range r.length).filter fun j=>decide (r.getD j 0=((i+1+j:Nat):Int))).map Nat.succ:=by
    rw[List.filter_map];congr 1;apply List.filter_congr
    grind
   grind
  rw[e];unfold qo;have hi:((i:Int)+1)=((i+1:Nat):Int):=by omega
  rw[hi];by_cases hx:x=(i:Int)
  ·rw[if_pos hx,if_pos hx];have hw:IntKind.wrap .i64 ((n:Int)+1)=((n+1:Nat):Int):=by grind [wrap_small]
   rw[hw,yT r (i+1) (n+1) (by omega)];congr 1;omega
  ·rw[if_neg hx,if_neg hx,yT r (i+1) n (by omega)];congr 1;omega
theorem tR{d:ak}(hw:Wf d):eZ d=((mV d (labels d)).length:Int):=by have h:=eL hw;have hn:=hw.nv;unfold eZ;have:=yT (labels d) 0 0 (by rw[h.l.n];omega);simp only[Nat.zero_add]at this;have e:qo (labels d) 0 0=qo (labels d) ((0:Nat):Int) ((0:Nat):Int):=rfl;rw[e,this];unfold mV;rw[List.length_map,h.l.n]
theorem yU:∀(l:List ai) (n:Nat),n+l.length≤1000000→vx l (n:Int)=((n+al l:Nat):Int)
 |[],n,_=>by rfl
 |v::r,n,h=>by
  simp at h;unfold vx al;rw[List.countP_cons];by_cases hv:v.2.1.length=0
  ·have:v.2.1.isEmpty=true:=by simp_all
   have hw:IntKind.wrap .i64 ((n:Int)+1)=((n+1:Nat):Int):=by grind [wrap_small]
   rw[if_pos hv,hw,yU r (n+1) (by omega),this]
   grind [al]
  ·have:v.2.1.isEmpty=false:=by simp_all
   rw[if_neg hv,yU r n (by omega),this];unfold al;simp
theorem xm{d:ak}(hw:Wf d):(bU d).length≤80:=by
 have h:=bQ hw;have h1:=h.p.length_eq;have h2:=hw.KS;have h3:(bU d).length≤(bU d).flatten.length:=by
  have hc:=h.c;generalize bU d=cs at hc
  induction cs with
  |nil=>simp
  |cons c r ih =>
   have:=ih (fun c hc'=>hc c (abq _ hc'));have h1:=(hc c (abT ..)).ne
   grind [Nat.pos_of_ne_zero,List.length_eq_zero_iff,List.length_cons,List.flatten_cons,List.length_append]
 omega
theorem QU{d:ak}(hw:Wf d):Dd d=((ft d:Nat):Int):=by
 unfold Dd ft;have:=hw.nv
 grind [xm,yU,bU]
theorem DK{d:ak}(hw:Wf d){R:List ID}(hr:n6 d R):∃k:Nat,bP d=(k:Int)∧d.1.length+ft d+2*k=2*R.length+d.2.length:=by
 have hl:=(lq hw (eL hw)).len hw hr;obtain⟨k,hk⟩:=Oj d.2.length d hw rfl R hr;refine⟨k,?_,hk⟩;have hn:=hw.nv;have he:=hw.ne;have hf:=xm hw;have ha:al d.1≤d.1.length:=acL;have hR:R.length≤d.1.length:=by
  grind [mV,List.length_map,Nat.le_trans,List.length_filter_le]
 have hft:ft d=(bU d).length+al d.1:=rfl;unfold bP;rw[tR hw,QU hw,hl];rw[wrap_small (n:=2*((R.length:Nat):Int)) (by omega) (by omega)]
 grind [wrap_small,ft,Int.tdiv,Int.tdiv_eq_ediv_of_nonneg]
end Go.Vs
