/- Faces -/
import Derived.Test.YtoleelddkocpkaaGreatSplits
set_option linter.unusedVariables false
set_option linter.unusedSimpArgs false
namespace Go.Cy
variable {α:Type}
def Path(f:α→α):List α→α→Prop
 |[],_=>True
 |x::r,z=>f x=r.head?.getD z∧Path f r z
theorem Path.app{f:α→α}:∀{a b:List α} {z:α},Path f (a++b) z↔Path f a (b.head?.getD z)∧Path f b z
 |[],b,z=>by simp[Path]
 |x::r,b,z=>by simp_all [Path.app,List.cons_append,Path,and_assoc]
theorem Path.congr{f g:α→α}:∀{a:List α} {z:α},(∀x∈a,g x=f x)→Path f a z→Path g a z
 |[],_,_,_=>trivial
 |x::r,z,h,p=>⟨(h x (acD ..)).trans p.1,Path.congr (fun y hy=>h y (abg _ hy)) p.2⟩
def ln(f:α→α):List α→Prop
 |[]=>False
 |x::r=>Path f (x::r) x
theorem ln.two{f:α→α}{x y:α}{a b:List α}:ln f ((x::a)++(y::b))↔Path f (x::a) y∧Path f (y::b) x:=by show Path f ((x::a)++(y::b)) x↔_;rw[Path.app];rfl
theorem ln.Gv{f:α→α}:∀{a b:List α},ln f (a++b)→ln f (b++a)
 |[],b,h=>by simpa using h
 |x::a,[],h=>by simpa using h
 |x::a,y::b,h=>ln.two.2 ⟨(ln.two.1 h).2,(ln.two.1 h).1⟩
theorem ln.ne{f:α→α}{c:List α}(h:ln f c):c≠[]:=by rintro rfl;exact h
theorem ln.congr{f g:α→α}{c:List α}(h:∀x∈c,g x=f x)(k:ln f c):ln g c:=by
 cases c with
 |nil=>exact k
 |cons x r=>exact Path.congr h k
theorem Path.step{f:α→α}:∀{a:List α} {z x:α},Path f a z→x∈a→f x∈a∨f x=z
 |y::r,z,x,p,hx=>by
  rcases abq.1 hx with rfl|hx
  ·cases r with
   |nil=>exact .inr p.1
   |cons u r=>exact .inl (by have:=p.1;simp at this;rw[this];simp)
  ·rcases Path.step p.2 hx with h|h
   ·exact .inl (abg _ h)
   ·exact .inr h
theorem ln.step{f:α→α}{c:List α}(h:ln f c){x:α}(hx:x∈c):f x∈c:=by
 cases c with
 |nil=>exact h.elim
 |cons y r =>
  rcases Path.step (show Path f (y::r) y from h) hx with k|k
  ·exact k
  simp_all
def it(f:α→α):Nat→α→α
 |0,x=>x
 |n+1,x=>it f n (f x)
theorem ln.it{f:α→α}{c:List α}(h:ln f c):∀(n:Nat) {x:α},x∈c→it f n x∈c
 |0,_,hx=>hx
 |n+1,_,hx=>ln.it h n (h.step hx)
theorem Path.reach{f:α→α}:∀{r:List α} {x z:α},Path f (x::r) z→∀y∈x::r,∃n,it f n x=y
 |[],x,z,_,y,hy=>by simp at hy;exact⟨0,hy.symm⟩
 |u::r,x,z,p,y,hy=>by
  rcases abq.1 hy with rfl|hy
  ·exact⟨0,rfl⟩
  ·have h1:f x=u:=p.1;obtain⟨n,hn⟩:=Path.reach p.2 y hy;exact⟨n+1,by show it f n (f x)=y;rw[h1];exact hn⟩
theorem ln.head{f:α→α}{c:List α}(h:ln f c){x:α}(hx:x∈c):∃r,ln f (x::r)∧(x::r).Perm c:=by
 obtain⟨a,b,rfl⟩:=adm hx
 grind [ln.Gv,List.perm_append_comm]
theorem ln.reach{f:α→α}{c:List α}(h:ln f c){x y:α}(hx:x∈c)(hy:y∈c):∃n,Cy.it f n x=y:=by obtain⟨r,h1,h2⟩:=h.head hx;exact Path.reach (show Path f (x::r) x from h1) y (h2.mem_iff.2 hy)
theorem ln.same{f:α→α}{c c':List α}(h:ln f c)(h':ln f c'){x:α}(hx:x∈c)(Us:x∈c'){y:α}(hy:y∈c):y∈c':=by obtain⟨n,hn⟩:=h.reach hx hy;rw[←hn];exact h'.it n Us
structure Kj(f:α→α)(D:List α)(cs:List (List α)):Prop where
 c:∀c∈cs,ln f c
 p:cs.flatten.Perm D
theorem uA(p q:List (List α))(c:List α):(p++c::q).flatten.Perm (c++(p++q).flatten):=by
 grind [List.flatten_append,List.flatten_cons,List.append_assoc,List.Perm.append_right,List.perm_append_comm]
theorem Kj.count{f:α→α}:∀{cs cs':List (List α)} {D:List α},D.Nodup→Kj f D cs→Kj f D cs'→cs.length=cs'.length
 |[],cs',D,hn,h,h'=>by
  have hD:D=[]:=by have:=h.p;simp at this;exact this.symm▸rfl
  subst hD
  cases cs' with
  |nil=>rfl
  |cons c r =>
   have:=h'.p.length_eq;have h1:=(h'.c c (by simp)).ne
   cases c with
   |nil=>exact absurd rfl h1
   |cons x c=>simp at this
 |c::r,cs',D,hn,h,h'=>by
  have hc:=h.c c (by simp);obtain⟨x,c0,rfl⟩:∃x c0,c=x::c0:=by
   cases c with
   |nil=>exact hc.elim
   |cons x c0=>exact⟨x,c0,rfl⟩
  have hx:x∈cs'.flatten:=h'.p.mem_iff.2 (h.p.mem_iff.1 (by simp));obtain⟨c',hc',ahH⟩:=adC.1 hx;obtain⟨p,q,rfl⟩:=adm hc';have ahI:=h'.c c' (by simp);have n1:(x::c0).Nodup:=by have:=h.p.nodup_iff.2 hn;rw[List.flatten_cons]at this;exact(adz.1 this).1
  have n2:c'.Nodup:=by have:=(uA p q c').nodup_iff.1 (h'.p.nodup_iff.2 hn);exact(adz.1 this).1
  have pc:(x::c0).Perm c':=(List.perm_ext_iff_of_nodup n1 n2).2 fun y=>⟨fun hy=>hc.same ahI (by simp) ahH hy,fun hy=>ahI.same hc ahH (by simp) hy⟩;have pd:((x::c0)++r.flatten).Perm ((x::c0)++(p++q).flatten):=by
   have e1:((x::c0)++r.flatten).Perm D:=by have:=h.p;rwa [List.flatten_cons]at this
   have e2:(c'++(p++q).flatten).Perm D:=(uA p q c').symm.trans h'.p;exact e1.trans (e2.symm.trans (ad1 _ pc.symm))
  have pr:=(List.perm_append_left_iff _).1 pd;have Zk:r.flatten.Nodup:=by have:=h.p.nodup_iff.2 hn;rw[List.flatten_cons]at this;exact(adz.1 this).2.1
  have ih:=Kj.count (cs:=r) (cs':=p++q) (D:=r.flatten) Zk ⟨fun c hc=>h.c c (by simp[hc]),aeJ _⟩ ⟨fun c hc=>h'.c c (by rcases abY.1 hc with k|k<;>simp[k]),pr.symm⟩;simp at ih ⊢;omega
theorem Path.mb{f g:α→α}:∀{a:List α} {z z':α},Path f a z→z∉a.tail→(∀u∈a,f u≠z→g u=f u)→(∀u∈a,f u=z→g u=z')→Path g a z'
 |[],_,_,_,_,_,_=>trivial
 |[x],z,z',p,hz,h1,h2=>⟨h2 x (by simp) p.1,trivial⟩
 |x::y::r,z,z',p,hz,h1,h2=>by have e:f x=y:=p.1;have bA:y≠z:=fun k=>hz (by simp[k]);refine⟨(h1 x (by simp) (by rw[e];exact bA)).trans e,?_⟩;exact Path.mb p.2 (fun k=>hz (abg _ k)) (fun u hu=>h1 u (abg _ hu)) (fun u hu=>h2 u (abg _ hu))
def nz:List α→Nat
 |[]=>0
 |_::_=>1
def mf(l:List α):List (List α):=match l with | []=>[]|x::r=>[x::r]
theorem FC(l:List α):(mf l).flatten=l:=by cases l<;>simp[mf]
theorem IK(l:List α):(mf l).length=nz l:=by cases l<;>rfl
theorem ou{l:List α}{z:α}(h:z∈l.tail):z∈l:=List.mem_of_mem_tail h
section
variable [DecidableEq α]
def zJ(f':α→α)(x y:α)(z:α):α :=if f' z=x then(if f' y=y then f' x else f' y) else if f' z=y then(if f' x=x then f' y else f' x) else f' z
theorem Kj.Xd{f' f:α→α}{x y:α}{D:List α}{cs':List (List α)}{c:List α}(hxy:x≠y)(hn:(x::y::D).Nodup)(h:Kj f' (x::y::D) cs')(hf:∀z∈D,f z=zJ f' x y z)(hc:c∈cs')(hx:x∈c)(hy:y∈c) :
  ∃cs,Kj f D cs∧cs.length+1=cs'.length+(if f' x=y then 0 else 1)+(if f' y=x then 0 else 1):=by
 obtain⟨p,q,rfl⟩:=adm hc;have UA:=h.c c hc;obtain⟨r,h1,h2⟩:=UA.head hx;have hyr:y∈r:=by
  grind
 obtain⟨B,A,rfl⟩:=adm hyr;have h3:ln f' ((x::B)++(y::A)):=h1;obtain⟨⟨fx,pB⟩,⟨fy,pA⟩⟩:=ln.two.1 h3;have pd:(x::y::(B++A++(p++q).flatten)).Perm (x::y::D):=by
  refine List.Perm.trans ?_ h.p
  grind
 have pD:=(pd.cons_inv).cons_inv;have nd:=pd.nodup_iff.2 hn;have nx:x∉B++A++(p++q).flatten:=fun k=>(acC.1 nd).1 (abg _ k);have ny:y∉B++A++(p++q).flatten:=(acC.1 (acC.1 nd).2).1;have xB:x∉B:=fun k=>nx (by simp[k]);have xA:x∉A:=fun k=>nx (by simp[k]);have yB:y∉B:=fun k=>ny (by simp[k]);have yA:y∉A:=fun k=>ny (by simp[k]);have Xe:∀z∈B++A++(p++q).flatten,z∈D:=fun z hz=>pD.mem_iff.1 hz;have cB:∀c∈mf B,ln f c:=fun c hc=>by
  cases B with
  |nil=>simp[mf]at hc
  |cons b B =>
   have hc:c=b::B:=by grind [mf]
   subst hc;have fx:f' x=b:=fx;have bx:b≠x:=fun k=>xB (by simp[k]);refine Path.mb pB (fun k=>yB (ou k)) (fun u hu bA=>?_) (fun u hu heq=>?_)
   ·rw[hf u (Xe u (by grind))];unfold zJ;have:f' u≠x:=fun k=>by
     rcases pB.step hu with m|m
     ·simp_all
     ·exact bA m
    simp_all
   ·rw[hf u (Xe u (by grind))];simp_all [zJ,if_neg,if_pos]
 have cA:∀c∈mf A,ln f c:=fun c hc=>by
  cases A with
  |nil=>simp[mf]at hc
  |cons a A =>
   have hc:c=a::A:=by grind [mf]
   subst hc;have fy:f' y=a:=fy;have ay:a≠y:=fun k=>yA (by simp[k]);refine Path.mb pA (fun k=>xA (ou k)) (fun u hu bA=>?_) (fun u hu heq=>?_)
   ·rw[hf u (Xe u (by grind))];unfold zJ;have:f' u≠y:=fun k=>by
     rcases pA.step hu with m|m
     ·simp_all
     ·exact bA m
    simp_all
   ·rw[hf u (Xe u (by grind))];simp_all [zJ,if_pos,if_neg]
 have cR:∀c∈p++q,ln f c:=fun c hc=>by
  have hc':c∈p++((x::B)++(y::A))::q:=by
   grind
  have FD:ln f' c:=h.c c (by grind);refine FD.congr fun z hz=>?_;have hzf:∀u∈c,u∈(p++q).flatten:=fun u hu=>adC.2 ⟨c,hc,hu⟩;have hm:=hzf _ (FD.step hz);rw[hf z (Xe z (List.mem_append_right _ (hzf z hz)))];unfold zJ;rw[if_neg (fun k=>nx (List.mem_append_right _ (by simp_all))),if_neg (fun k=>ny (List.mem_append_right _ (by simp_all)))]
 refine⟨mf B++(mf A++(p++q)),⟨fun c hc=>?_,?_⟩,?_⟩
 ·grind
 ·grind [List.flatten_append,FC,List.append_assoc]
 ·have eB:(if f' x=y then 0 else 1)=nz B:=by
   cases B with
   |nil=>exact if_pos fx
   |cons b B=>exact if_neg (fun k=>yB (by simp_all))
  have eA:(if f' y=x then 0 else 1)=nz A:=by
   cases A with
   |nil=>exact if_pos fy
   |cons a A=>exact if_neg (fun k=>xA (by simp_all))
  grind [List.length_append,IK,List.length_cons]
theorem Kj.Xf{f' f:α→α}{x y:α}{D:List α}{cs':List (List α)}{c:List α}(hxy:x≠y)(hn:(x::y::D).Nodup)(h:Kj f' (x::y::D) cs')(hf:∀z∈D,f z=zJ f' x y z)(hc:c∈cs')(hx:x∈c)(hy:y∉c) :
  ∃cs,Kj f D cs∧cs.length+2=cs'.length+(if f' x=x∧f' y=y then 0 else 1):=by
 obtain⟨p,q,rfl⟩:=adm hc;have UA:=h.c c hc;obtain⟨B,h1,h2⟩:=UA.head hx;have hyc:y∈(p++q).flatten:=by have:y∈(p++c::q).flatten:=h.p.mem_iff.2 (by simp);simp_all
 obtain⟨c2,rp,amY⟩:=adC.1 hyc;have amZ:c2∈p++c::q:=by grind
 obtain⟨A,h3,h4⟩:=(h.c c2 amZ).head amY;obtain⟨p2,q2,Lb⟩:=adm rp;obtain⟨fx,pB⟩:=(show Path f' (x::B) x from h1);obtain⟨fy,pA⟩:=(show Path f' (y::A) y from h3);have pd:(x::y::(B++A++(p2++q2).flatten)).Perm (x::y::D):=by
  refine List.Perm.trans ?_ h.p
  grind [uA,p,c,List.Perm.append_right,List.Perm.append_left,List.append_assoc]
 have pD:=(pd.cons_inv).cons_inv;have nd:=pd.nodup_iff.2 hn;have nx:x∉B++A++(p2++q2).flatten:=fun k=>(acC.1 nd).1 (abg _ k);have ny:y∉B++A++(p2++q2).flatten:=(acC.1 (acC.1 nd).2).1;have xB:x∉B:=fun k=>nx (by simp[k]);have xA:x∉A:=fun k=>nx (by simp[k]);have yB:y∉B:=fun k=>ny (by simp[k]);have yA:y∉A:=fun k=>ny (by simp[k]);have Xe:∀z∈B++A++(p2++q2).flatten,z∈D:=fun z hz=>pD.mem_iff.1 hz;have nB:∀u∈B,f' u≠x→f u=f' u:=fun u hu bA=>by
  rw[hf u (Xe u (by simp[hu]))];unfold zJ;have:f' u≠y:=fun k=>by
   rcases pB.step hu with m|m
   ·simp_all
   ·exact bA m
  simp_all
 have nA:∀u∈A,f' u≠y→f u=f' u:=fun u hu bA=>by
  rw[hf u (Xe u (by simp[hu]))];unfold zJ;have:f' u≠x:=fun k=>by
   rcases pA.step hu with m|m
   ·simp_all
   ·exact bA m
  simp_all
 have eB:∀u∈B,f' u=x→f u=if f' y=y then f' x else f' y:=fun u hu heq=>by rw[hf u (Xe u (by simp[hu]))];unfold zJ;simp_all
 have eA:∀u∈A,f' u=y→f u=if f' x=x then f' y else f' x:=fun u hu heq=>by
  rw[hf u (Xe u (by simp[hu]))];unfold zJ
  grind
 have cBA:∀c∈mf (B++A),ln f c:=fun c hc=>by
  cases B with
  |nil =>
   cases A with
   |nil=>simp[mf]at hc
   |cons a A =>
    have hc:c=a::A:=by grind [mf]
    subst hc;refine Path.mb pA (fun k=>yA (ou k)) nA (fun u hu heq=>?_)
    grind
  |cons b B =>
   have fxb:f' x=b:=fx;have bx:b≠x:=fun k=>xB (by simp[k])
   cases A with
   |nil =>
    have hc:c=b::B:=by grind [mf]
    subst hc;refine Path.mb pB (fun k=>xB (ou k)) nB (fun u hu heq=>?_)
    grind
   |cons a A =>
    have hc:c=(b::B)++(a::A):=by simpa[mf] using hc
    subst hc;have fya:f' y=a:=fy;have ay:a≠y:=fun k=>yA (by simp[k]);refine ln.two.2 ⟨Path.mb pB (fun k=>xB (ou k)) nB (fun u hu heq=>?_),Path.mb pA (fun k=>yA (ou k)) nA (fun u hu heq=>?_)⟩
    ·grind
    grind
 have cR:∀c∈p2++q2,ln f c:=fun c hc=>by
  have YP:c∈p++q:=by grind
  have FD:ln f' c:=h.c c (by grind);refine FD.congr fun z hz=>?_;have hzf:∀u∈c,u∈(p2++q2).flatten:=fun u hu=>adC.2 ⟨c,hc,hu⟩;have hm:=hzf _ (FD.step hz);rw[hf z (Xe z (List.mem_append_right _ (hzf z hz)))];unfold zJ;rw[if_neg (fun k=>nx (List.mem_append_right _ (by grind))),if_neg (fun k=>ny (List.mem_append_right _ (by grind)))]
 refine⟨mf (B++A)++(p2++q2),⟨fun c hc=>?_,?_⟩,?_⟩
 ·grind
 ·rw[List.flatten_append,FC];exact pD
 ·have eBA:(if f' x=x∧f' y=y then 0 else 1)=nz (B++A):=by
   cases B with
   |nil =>
    cases A with
    |nil=>exact if_pos ⟨fx,fy⟩
    |cons a A=>exact if_neg (fun k=>yA (by simp_all))
   |cons b B=>exact if_neg (fun k=>xB (by grind))
  grind [p,List.length_append,IK,List.length_cons]
end
end Go.Cy
namespace Go.Vs
open Go.Proofs Go.Cy
def skip(x:ag)(s:ag→ag)(z:ag):ag:=if s z=x then s x else s z
def gx(row:List ag)(x:ag):ag:=(fR row x 1).getD zD
theorem qO{row:List ag}(hn:row.Nodup){i:Nat}{x:ag}(hx:row[i]? = some x):gx row x=(row[(i+1)%row.length]?).getD zD:=by unfold gx fR;rw[if_pos (List.mem_of_getElem? hx),ZX hn hx,Int.toNat_natCast]
theorem IL{row:List ag}(hn:row.Nodup):∀(r p:List ag),row=p++r→Path (gx row) r (row.head?.getD zD)
 |[],_,_=>trivial
 |x::r,p,h=>by
  refine⟨?_,IL hn r (p++[x]) (by rw[h];simp)⟩;have hx:row[p.length]? = some x:=by rw[h];simp
  rw[qO hn hx]
  cases r with
  |nil =>
   have hl:row.length=p.length+1:=by rw[h];simp
   rw[hl,Nat.mod_self];show(row[0]?).getD zD=row.head?.getD zD;rw[List.head?_eq_getElem?]
  |cons y r =>
   have hl:p.length+1<row.length:=by rw[h];simp
   rw[Nat.mod_eq_of_lt hl];have:row[p.length+1]? = some y:=by rw[h];simp
   rw[this];rfl
theorem FE{row:List ag}(hn:row.Nodup)(h0:row≠[]):ln (gx row) row:=by
 have:=IL hn row [] rfl
 cases row with
 |nil=>simp_all
 |cons x r=>exact this
theorem FF{f g:ag→ag}:∀{a:List ag} {z:ag},Path f a z→Path g a z→∀x∈a,f x=g x
 |y::r,z,p,q,x,hx=>by
  rcases abq.1 hx with rfl|hx
  ·exact p.1.trans q.1.symm
  ·exact FF p.2 q.2 x hx
theorem Tv{f g:ag→ag}{c:List ag}(h:ln f c)(k:ln g c):∀x∈c,f x=g x:=by
 cases c with
 |nil=>exact h.elim
 |cons y r=>exact FF h k
theorem Xg{f:ag→ag}{row:List ag}{j:Nat}(h:ln f (Gv row j)):ln f row:=by
 grind [Gv,ln.Gv,List.take_append_drop]
theorem ng{row:List ag}(hn:row.Nodup){x:ag}(hx:x∈row):gx row x∈row:=(FE hn (List.ne_nil_of_mem hx)).step hx
theorem IM{f:ag→ag}:∀{a:List ag} {z:ag},Path f a z→a≠[]→∃l,l∈a∧f l=z
 |[x],z,p,_=>⟨x,by simp,p.1⟩
 |x::y::r,z,p,_=>by obtain⟨l,h1,h2⟩:=IM p.2 (by simp);exact⟨l,abg _ h1,h2⟩
theorem Tw{row:List ag}(hn:row.Nodup){x y:ag}(hx:x∈row)(hy:y∈row)(h:gx row x=gx row y):x=y:=by
 obtain⟨i,hi⟩:=aeo hx;obtain⟨j,hj⟩:=aeo hy;have nP:=(abp.1 hi).1;have GH:=(abp.1 hj).1;have hp:0<row.length:=by omega
 rw[qO hn hi,qO hn hj,List.getElem?_eq_getElem (Nat.mod_lt _ hp),List.getElem?_eq_getElem (Nat.mod_lt _ hp)]at h;have h2:(i+1)%row.length=(j+1)%row.length:=II hn (by simpa using h);have h3:i=j:=by
  by_cases a:i+1<row.length<;>by_cases b:j+1<row.length
  ·grind [Nat.mod_eq_of_lt]
  ·grind [Nat.mod_eq_of_lt,Nat.mod_self]
  ·grind [Nat.mod_eq_of_lt,Nat.mod_self]
  ·omega
 simp_all
theorem Tx{row:List ag}(hn:row.Nodup){x z:ag}(hx:x∈row)(hz:z∈row)(hzx:z≠x):gx (j0 row x) z=skip x (gx row) z:=by
 obtain⟨A,B,rfl⟩:=adm hx;obtain⟨k,hk⟩:=aeo hx;have he:(A++x::B).filter (fun e=>decide (e≠x))=A++B:=by
  have hx2:(A++x::B)[A.length]? = some x:=by simp
  rw[Bh hn hx2];simp
 have SA:(x::(B++A)).Nodup:=by have p:(A++x::B).Perm (x::(B++A)):=List.perm_middle.trans (List.Perm.cons x List.perm_append_comm);exact p.nodup_iff.1 hn
 have CQ:z∈B++A:=by
  rcases abY.1 hz with k|k
  ·exact abw _ k
  ·rcases abq.1 k with k|k
   ·exact absurd k hzx
   ·exact abr _ k
 have c1:ln (gx (A++x::B)) (x::(B++A)):=by have:=(FE hn (List.ne_nil_of_mem hx)).Gv;simpa using this
 obtain⟨fx,pL⟩:=(show Path (gx (A++x::B)) (x::(B++A)) x from c1);have c2:ln (skip x (gx (A++x::B))) (B++A):=by
  generalize hL:B++A=L at *
  cases L with
  |nil=>simp at CQ
  |cons l L =>
   have fx:gx (A++x::B) x=l:=fx;have vR:x∉l::L:=(acC.1 SA).1;refine Path.mb pL (fun k=>vR (ou k)) (fun u hu bA=>?_) (fun u hu heq=>?_)
   ·unfold skip;rw[if_neg bA]
   ·unfold skip;rw[if_pos heq,fx]
 have hr:j0 (A++x::B) x=cZ (A++B):=by unfold j0;rw[he]
 obtain⟨j,hj,hjr⟩:=MR (A++B);have nAB:(A++B).Nodup:=(List.perm_append_comm (l₁:=B) (l₂:=A)).nodup_iff.1 (acC.1 SA).2;have am1:(j0 (A++x::B) x).Nodup:=by rw[hr];exact(qN _).nodup_iff.2 nAB
 have hzm:z∈j0 (A++x::B) x:=by
  rw[hr,Mv];rcases abY.1 CQ with k|k
  ·exact abw _ k
  ·exact abr _ k
 have c3:ln (gx (j0 (A++x::B) x)) (A++B):=by have:=FE am1 (List.ne_nil_of_mem hzm);generalize gx (j0 (A++x::B) x)=g at *;rw[hr,hjr]at this;exact Xg this
 exact Tv (ln.Gv c3) c2 z CQ
def sg(d:ar)(x:ag):ag:=(kH d x).getD zD
def ph(d:ar)(x:ag):ag:=(KO d x).getD zD
theorem FG{d:ar}(h:Rw d.1){v:an}{x:ag}(hv:v∈d.1)(hx:x∈v.2.1):kH d x=fR v.2.1 x 1:=by unfold kH dA;rw[fk h hv hx];show fR (dd d v.1) x 1=_;rw[lh h.s hv]
theorem kr{d:ar}(h:Rw d.1){v:an}{x:ag}(hv:v∈d.1)(hx:x∈v.2.1):sg d x=gx v.2.1 x:=by
 grind [sg,gx,FG]
theorem Pe{d:ar}(h:Rw d.1){x:ag}(hx:x∈av d.1):kH d x=some (sg d x):=by
 obtain⟨v,hv,pW⟩:=aS.1 hx;have:kH d x=some (gx v.2.1 x):=by
  rw[FG h hv pW];unfold gx fR;rw[if_pos pW]
  grind [List.length_pos_of_mem,List.getElem?_eq_getElem,Nat.mod_lt]
 grind [kr]
theorem aaa{d:ar}(h:Rw d.1){x:ag}(hx:x∈av d.1):sg d x∈av d.1:=by obtain⟨v,hv,pW⟩:=aS.1 hx;rw[kr h hv pW];exact aS.2 ⟨v,hv,ng (h.ring hv) pW⟩
theorem Xh{d:ar}(h:Rw d.1){x y:ag}(hx:x∈av d.1)(hy:y∈av d.1)(he:sg d x=sg d y):x=y:=by obtain⟨v,hv,pW⟩:=aS.1 hx;obtain⟨w,hw,hyw⟩:=aS.1 hy;rw[kr h hv pW,kr h hw hyw]at he;have h1:=ng (h.ring hv) pW;have h2:=ng (h.ring hw) hyw;rw[←he]at h2;have hwv:=h.one hv hw h1 h2;subst hwv;exact Tw (h.ring hw) pW hyw he
theorem sw{d:ar}(h:Rw d.1){x z:ag}(hx:x∈av d.1)(hz:z∈av (aN d x).1):sg (aN d x) z=skip x (sg d) z:=by
 obtain⟨p,q⟩:=gk h hx;obtain⟨v,hv,pW⟩:=aS.1 hx;have hzd:z∈av d.1:=p.mem_iff.2 (abg _ hz);have hzx:z≠x:=fun k=>(acC.1 (p.nodup_iff.1 h.n)).1 (k▸hz);obtain⟨w,hw,NP⟩:=aS.1 hz;have hr:=lj h hv pW;have NG:w∈d.1.map (A4 v.1 (j0 v.2.1 x)):=by rw[hr]at hw;exact hw
 obtain⟨u,hu,hwu⟩:=acE.1 NG;rw[kr q hw NP];by_cases huv:u.1=v.1
 ·have huv:u=v:=by have h1:=ma h.s hv;have h2:=ma h.s hu;simp_all
  subst huv;have nD:w.2.1=j0 u.2.1 x:=by rw[←hwu];unfold A4;simp_all
  rw[nD]at NP ⊢;have Kk:z∈u.2.1:=(vG pW (h.ring hu)).mem_iff.2 (abg _ NP);rw[Tx (h.ring hu) pW Kk hzx]
  grind [skip,kr]
 ·have nD:w=u:=by simp_all [A4,if_neg]
  subst nD;unfold skip;rw[kr h hu NP,if_neg];intro k;have:=ng (h.ring hu) NP;rw[k]at this;exact huv (congrArg Prod.fst (h.one hv hu pW this))
theorem MU{d e:ar}(h:d.1=e.1)(x:ag):kH d x=kH e x:=by obtain⟨a,b⟩:=d;obtain⟨c,f⟩:=e;simp only at h;subst h;rfl
theorem bZ{x:ag}(h:x.2=0∨x.2=1):aw (aw x)=x:=by obtain⟨x1,x2⟩:=x;simp only at h;rcases h with rfl|rfl<;>rfl
theorem Wf.side{d:ar}(h:Wf d){x:ag}(hx:x∈av d.1):x.2=0∨x.2=1:=by obtain⟨e,_,_,k⟩:=cy.1 (h.pd.mem_iff.1 hx);exact k
theorem Wf.other{d:ar}(h:Wf d){x:ag}(hx:x∈av d.1):aw x∈av d.1:=by
 obtain⟨e,he,h1,h2⟩:=cy.1 (h.pd.mem_iff.1 hx);refine h.pd.mem_iff.2 (cy.2 ⟨e,he,h1,?_⟩)
 grind [iP]
theorem FH{d:ar}{x:ag}(hx:x∈av d.1):(dA d x).isSome=true:=by
 grind [aS,dA,Gx,Option.isSome_map,List.find?_isSome]
theorem jX{d:ar}{x:ag}(hx:x∈av d.1):ph d x=sg d (aw x):=by unfold ph KO sg;rw[if_pos (FH hx)]
theorem MV{d:ar}(h:Wf d){x:ag}(hx:x∈av d.1):KO d x=some (ph d x):=by rw[jX hx];unfold KO;rw[if_pos (FH hx)];exact Pe h.rw (h.other hx)
theorem Xi{d:ar}(h:Wf d){x:ag}(hx:x∈av d.1):ph d x∈av d.1:=by rw[jX hx];exact aaa h.rw (h.other hx)
theorem adG{d:ar}(h:Wf d){x y:ag}(hx:x∈av d.1)(hy:y∈av d.1)(he:ph d x=ph d y):x=y:=by rw[jX hx,jX hy]at he;have:=Xh h.rw (h.other hx) (h.other hy) he;rw[←bZ (h.side hx),←bZ (h.side hy),this]
theorem MW{α:Type}[DecidableEq α]:∀{l D:List α},l.Nodup→(∀x∈l,x∈D)→l.length≤D.length
 |[],_,_,_=>ac6 _
 |x::r,D,hn,hs=>by
  have h1:=acC.1 hn;have hx:=hs x (acD ..);have ih:=MW (l:=r) (D:=D.erase x) h1.2 (fun y hy=>(aeR (fun k=>h1.1 (by simp_all))).2 (hs y (abg _ hy)))
  grind
theorem Xk{d:ar}(h:Wf d){out:List ag}{y:ag}(hn:out.Nodup)(hs:∀z∈out,z∈av d.1)(hp:Path (ph d) out y):y∉out.tail:=fun hy=>by
 cases out with
 |nil=>simp at hy
 |cons x r =>
  have hy:y∈r:=hy;obtain⟨p,q,rfl⟩:=adm hy;have key:∀(x:ag) (p:List ag),Path (ph d) (x::(p++y::q)) y→(x::(p++y::q)).Nodup→(∀z∈x::(p++y::q),z∈av d.1)→False:=by
   intro x p
   induction p generalizing x with
   |nil =>intro hp hn hs;have h1:ph d x=y:=hp.1;obtain⟨l,h2,h3⟩:=IM hp.2 (by simp);have:=adG h (hs x (by simp)) (hs l (abg _ h2)) (h1.trans h3.symm);simp_all
   |cons u p ih =>intro hp hn hs;exact ih u hp.2 (acC.1 hn).2 (fun z hz=>hs z (abg _ hz))
  grind
theorem Wf.MX{d:ar}(h:Wf d):(av d.1).length≤80:=by
 have h2:=h.pd.length_eq;have h3:=h.ne;have:(ends d.2).length=2*d.2.length:=by
  clear h2 h3 h;generalize d.2=l
  induction l with
  |nil=>rfl
  |cons e r ih=>grind [eY]
 omega
theorem FI{d:ar}(h:Wf d)(x:ag):∀(n:Nat) (y:ag) (r:List ag),(x::r).length+n=82→(x::r).Nodup→(∀z∈x::r,z∈av d.1)→Path (ph d) (x::r) y→y∈av d.1 → ∃r',um d x n y (x::r)=x::r'∧(x::r').Nodup∧(∀z∈x::r',z∈av d.1)∧ln (ph d) (x::r')
 |0,y,r,hl,hn,hs,hp,hy=>by have:=MW hn hs;have:=h.MX;omega
 |n+1,y,r,hl,hn,hs,hp,hy=>by
  unfold um;by_cases he:y=x
  ·subst he;rw[if_pos rfl];exact⟨r,rfl,hn,hs,hp⟩
  ·rw[if_neg he];have hyr:y∉x::r:=fun k=>by
    rcases abq.1 k with k|k
    ·exact he k
    ·exact Xk h hn hs hp k
   have e:(KO d y).getD zD=ph d y:=rfl;rw[e];refine FI h x n (ph d y) (r++[y]) (by simp at hl ⊢;omega) ?_ (fun z hz=>?_) ?_ (Xi h hy)
   ·show((x::r)++[y]).Nodup;refine adz.2 ⟨hn,by simp,fun a ha b hb=>?_⟩;simp at hb;subst hb;exact fun k=>hyr (k▸ha)
   ·have hz:z∈(x::r)++[y]:=hz;rcases abY.1 hz with k|k
    ·exact hs z k
    ·simp at k;rw[k];exact hy
   ·show Path (ph d) ((x::r)++[y]) (ph d y);exact Path.app.2 ⟨hp,rfl,trivial⟩
theorem FJ{d:ar}(h:Wf d){x:ag}(hx:x∈av d.1):∃r,bp d x=x::r∧(x::r).Nodup∧(∀z∈x::r,z∈av d.1)∧ln (ph d) (x::r):=by unfold bp;rw[MV h hx];exact FI h x 81 (ph d x) [] rfl (by simp) (fun z hz=>by simp_all) ⟨rfl,trivial⟩ (Xi h hx)
theorem uB{d:ar}(h:Wf d):∀(l:List ag) (out:List (List ag)),(∀x∈l,x∈av d.1)→(∀c∈out,ln (ph d) c)→out.flatten.Nodup→(∀x∈out.flatten,x∈av d.1) →(∀c∈jx d l out out.flatten,ln (ph d) c)∧(jx d l out out.flatten).flatten.Nodup∧(∀x∈(jx d l out out.flatten).flatten,x∈av d.1)∧(∀x,x∈l∨x∈out.flatten→x∈(jx d l out out.flatten).flatten)
 |[],out,_,h1,h2,h3=>⟨h1,h2,h3,fun x k=>k.resolve_left (by simp)⟩
 |x::l,out,hl,h1,h2,h3=>by
  unfold jx;by_cases hx:x∈out.flatten
  ·rw[if_pos hx];obtain⟨a,b,c,e⟩:=uB h l out (fun y hy=>hl y (abg _ hy)) h1 h2 h3
   grind
  ·rw[if_neg hx];obtain⟨r,t1,t2,t3,t4⟩:=FJ h (hl x (acD ..));have ef:out.flatten++bp d x=(out++[bp d x]).flatten:=by simp
   rw[ef];have arh:∀y∈bp d x,y∉out.flatten:=fun y hy k=>by obtain⟨c,hc,hyc⟩:=adC.1 k;rw[t1]at hy;exact hx (adC.2 ⟨c,hc,t4.same (h1 c hc) hy hyc (acD ..)⟩)
   obtain⟨a,b,c,e⟩:=uB h l (out++[bp d x]) (fun y hy=>hl y (abg _ hy)) (fun c hc=>by
     grind)
    (by
     grind)
    (fun y hy=>by
     grind)
   grind
theorem mQ:∀l:List aj,fE l=ends l
 |[]=>rfl
 |e::r=>by rw[eY,fE,mQ r]
theorem bX{d:ar}(h:Wf d):Kj (ph d) (av d.1) (cv d):=by obtain⟨a,b,c,e⟩:=uB h (fE d.2) [] (fun x hx=>h.pd.mem_iff.2 (by grind [mQ])) (by simp) (by simp) (by simp);refine⟨a,(List.perm_ext_iff_of_nodup b h.rw.n).2 fun x=>⟨c x,fun hx=>e x (.inl (by rw[mQ];exact h.pd.mem_iff.1 hx))⟩⟩
def dR(d:ar)(x:ID):ar:=bj (aN (aN d (x,0)) (x,1)) zI x
theorem Pf{d:ar}(h:Wf d)(x y:ag)(e:ID):(bj (aN (aN d x) y) zI e).1=(aN (aN d x) y).1:=zF (lk (lk h.gv x) y)
theorem FK(x:ID):aw (x,0)=(x,1):=rfl
theorem Xl(x:ID):aw (x,1)=(x,0):=rfl
structure b5(d':ar)(x:ID):Prop where
 wf:Wf d'
 e:(ba d'.2 x).isSome=true
theorem b5.x0{d':ar}{x:ID}(h:b5 d' x):(x,0)∈av d'.1:=h.wf.mn h.e (.inl rfl)
theorem b5.x1{d':ar}{x:ID}(h:b5 d' x):(x,1)∈av d'.1:=h.wf.mn h.e (.inr rfl)
theorem b5.p1{d':ar}{x:ID}(h:b5 d' x):(av d'.1).Perm ((x,0)::av (aN d' (x,0)).1)∧Rw (aN d' (x,0)).1:=gk h.wf.rw h.x0
theorem b5.x1'{d':ar}{x:ID}(h:b5 d' x):(x,1)∈av (aN d' (x,0)).1:=by
 rcases abq.1 (h.p1.1.mem_iff.1 h.x1) with k|k
 ·cases k
 ·exact k
theorem b5.p2{d':ar}{x:ID}(h:b5 d' x):(av (aN d' (x,0)).1).Perm ((x,1)::av (aN (aN d' (x,0)) (x,1)).1)∧Rw (aN (aN d' (x,0)) (x,1)).1:=gk h.p1.2 h.x1'
theorem b5.v{d':ar}{x:ID}(h:b5 d' x):(dR d' x).1=(aN (aN d' (x,0)) (x,1)).1:=Pf h.wf _ _ _
theorem b5.w{d':ar}{x:ID}(h:b5 d' x):Wf (dR d' x):=h.wf.cut h.e
theorem b5.p{d':ar}{x:ID}(h:b5 d' x):(av d'.1).Perm ((x,0)::(x,1)::av (dR d' x).1):=by rw[h.v];exact h.p1.1.trans (List.Perm.cons _ h.p2.1)
theorem b5.sg{d':ar}{x:ID}(h:b5 d' x){z:ag}(hz:z∈av (dR d' x).1):sg (dR d' x) z=skip (x,1) (skip (x,0) (sg d')) z:=by
 have e1:Vs.sg (dR d' x) z=Vs.sg (aN (aN d' (x,0)) (x,1)) z:=by unfold Vs.sg;rw[MU h.v]
 rw[h.v]at hz;have Ae:z∈av (aN d' (x,0)).1:=h.p2.1.mem_iff.2 (abg _ hz);rw[e1,sw h.p1.2 h.x1' hz];unfold skip;rw[sw h.wf.rw h.x0 Ae,sw h.wf.rw h.x0 h.x1'];rfl
theorem b5.ph{d':ar}{x:ID}(h:b5 d' x){z:ag}(hz:z∈av (dR d' x).1):ph (dR d' x) z=zJ (ph d') (x,0) (x,1) z:=by
 have DI:z∈av d'.1:=h.p.mem_iff.2 (abg _ (abg _ hz));have ho:=h.w.other hz;have mC:aw z∈av d'.1:=h.p.mem_iff.2 (abg _ (abg _ ho));have nd:=h.p.nodup_iff.1 h.wf.rw.n;have Qa:aw z≠(x,1):=fun k=>(acC.1 (acC.1 nd).2).1 (k▸ho);rw[jX hz,h.sg ho];unfold zJ;rw[jX DI,jX h.x0,jX h.x1,FK,Xl];generalize hW:aw z=w at *;have inj:Vs.sg d' (x,1)=(x,0)→Vs.sg d' w≠(x,0):=fun k1 k2=>Qa (Xh h.wf.rw mC h.x1 (k2.trans k1.symm));unfold skip
 grind
def al(l:List an):Nat:=l.countP fun v=>v.2.1.isEmpty
theorem IN{row:List ag}(hn:row.Nodup){x:ag}(hx:x∈row):gx row x=x↔row.length=1:=by
 obtain⟨i,hi⟩:=aeo hx;have nP:=(abp.1 hi).1;have hp:0<row.length:=by omega
 rw[qO hn hi,List.getElem?_eq_getElem (Nat.mod_lt _ hp)];constructor
 ·intro h;have h1:row[(i+1)%row.length]? = some x:=by grind
  have h2:=IJ hn h1 hi;by_cases c:i+1<row.length
  ·grind [Nat.mod_eq_of_lt]
  grind [Nat.mod_self]
 grind
theorem FL{d:ar}(h:Rw d.1){x:ag}(hx:x∈av d.1):al (aN d x).1=al d.1+if sg d x=x then 1 else 0:=by
 obtain⟨v,hv,pW⟩:=aS.1 hx;obtain⟨a,b,h1,_,_,h2⟩:=uy h.s hv;have e1:(aN d x).1=a++(v.1,(j0 v.2.1 x,v.2.2))::b:=by rw[lj h hv pW];exact h2 _
 have p:=vG pW (h.ring hv);have hl:=p.length_eq;have v0:v.2.1.isEmpty=false:=by
  grind
 have v1:(j0 v.2.1 x).isEmpty=decide (sg d x=x):=by rw[Bool.eq_iff_iff,List.isEmpty_iff,decide_eq_true_eq,kr h hv pW,IN (h.ring hv) pW,←List.length_eq_zero_iff];simp_all
 rw[e1]
 conv=>rhs;rw[h1]
 unfold al;rw[List.countP_append,List.countP_append,List.countP_cons,List.countP_cons];simp only[v0,v1]
 grind
def ft(d:ar):Nat:=(cv d).length+al d.1
def Xm(d:ar)(x y:ag):Prop:=∃c∈cv d,x∈c∧y∈c
theorem b5.al{d':ar}{x:ID}(h:b5 d' x):Vs.al (dR d' x).1=Vs.al d'.1+(if Vs.ph d' (x,1)=(x,0) then 1 else 0)+(if Vs.ph d' (x,0)=(x,1)∨(Vs.ph d' (x,0)=(x,0)∧Vs.ph d' (x,1)=(x,1)) then 1 else 0):=by
 rw[h.v,FL h.p1.2 h.x1',FL h.wf.rw h.x0];have e0:Vs.ph d' (x,0)=Vs.sg d' (x,1):=jX h.x0;have e1:Vs.ph d' (x,1)=Vs.sg d' (x,0):=jX h.x1;rw[e0,e1,sw h.wf.rw h.x0 h.x1'];unfold skip
 grind
theorem ahL(x:ID):((x,0):ag)≠(x,1):=fun k=>by cases k
theorem b5.same{d':ar}{x:ID}(h:b5 d' x)(hf:Xm d' (x,0) (x,1)):ft (dR d' x)=ft d'+1∧(cv (dR d' x)).length+1=(cv d').length+(if Vs.ph d' (x,0)=(x,1) then 0 else 1)+(if Vs.ph d' (x,1)=(x,0) then 0 else 1):=by
 obtain⟨c,hc,h0,h1⟩:=hf;have nd:=h.p.nodup_iff.1 h.wf.rw.n;have dec:Kj (Vs.ph d') ((x,0)::(x,1)::av (dR d' x).1) (cv d'):=⟨(bX h.wf).c,(bX h.wf).p.trans h.p⟩;obtain⟨cs,k1,k2⟩:=Kj.Xd (ahL x) nd dec (fun z hz=>h.ph hz) hc h0 h1;have k3:=Kj.count (h.w.rw.n) (bX h.w) k1;have k4:=h.al;have FD:=(bX h.wf).c c hc;have n0:¬(Vs.ph d' (x,0)=(x,0)):=fun k=>by
  obtain⟨n,hn⟩:=FD.reach h0 h1;have:∀n,it (Vs.ph d') n (x,0)=(x,0):=fun n=>by
   induction n with
   |zero=>rfl
   |succ n ih=>grind [it,Vs.ph]
  simp_all
 refine⟨?_,by omega⟩;unfold ft
 grind
theorem b5.diff{d':ar}{x:ID}(h:b5 d' x)(hf:¬Xm d' (x,0) (x,1)):ft (dR d' x)+1=ft d':=by
 have hm:(x,0)∈(cv d').flatten:=(bX h.wf).p.mem_iff.2 h.x0;obtain⟨c,hc,h0⟩:=adC.1 hm;have h1:(x,1)∉c:=fun k=>hf ⟨c,hc,h0,k⟩;have nd:=h.p.nodup_iff.1 h.wf.rw.n;have dec:Kj (Vs.ph d') ((x,0)::(x,1)::av (dR d' x).1) (cv d'):=⟨(bX h.wf).c,(bX h.wf).p.trans h.p⟩;obtain⟨cs,k1,k2⟩:=Kj.Xf (ahL x) nd dec (fun z hz=>h.ph hz) hc h0 h1;have k3:=Kj.count (h.w.rw.n) (bX h.w) k1;have k4:=h.al;have FD:=(bX h.wf).c c hc;have n0:¬(Vs.ph d' (x,0)=(x,1)):=fun k=>h1 (k▸FD.step h0);have n1:¬(Vs.ph d' (x,1)=(x,0)):=fun k=>by have Af:(x,1)∈(cv d').flatten:=(bX h.wf).p.mem_iff.2 h.x1;obtain⟨c2,rp,h2⟩:=adC.1 Af;have:=((bX h.wf).c c2 rp).step h2;rw[k]at this;exact hf ⟨c2,rp,this,h2⟩
 unfold ft
 grind
def Cm(d:ar)(a b:ID):Prop:=∃z∈av d.1,dA d z=some a∧dA d (aw z)=some b
inductive cJ (d:ar):ID→ID→Prop
 |refl (a:ID):cJ d a a
 |tail {a b c:ID}:cJ d a b→Cm d b c→cJ d a c
theorem cJ.trans{d:ar}{a b c:ID}(h:cJ d a b)(k:cJ d b c):cJ d a c:=by
 induction k with
 |refl=>exact h
 |tail _ j ih=>exact ih.tail j
theorem Cm.symm{d:ar}(hw:Wf d){a b:ID}(h:Cm d a b):Cm d b a:=by obtain⟨z,hz,h1,h2⟩:=h;exact⟨aw z,hw.other hz,h2,by rw[bZ (hw.side hz)];exact h1⟩
theorem Cm.conn{d:ar}{a b:ID}(h:Cm d a b):cJ d a b:=(cJ.refl a).tail h
theorem cJ.symm{d:ar}(hw:Wf d){a b:ID}(h:cJ d a b):cJ d b a:=by
 induction h with
 |refl=>exact .refl _
 |tail _ j ih=>exact(j.symm hw).conn.trans ih
structure qP(d:ar)(R:List ID):Prop where
 n:R.Nodup
 v:∀r∈R,∃v∈d.1,v.1=r
 i:∀r∈R,∀s∈R,cJ d r s→r=s
 c:∀v∈d.1,∃r∈R,cJ d v.1 r
theorem Kl{d:ar}(hw:Wf d):∀{R R':List ID},R.Nodup→(∀r∈R,∀s∈R,cJ d r s→r=s)→(∀r∈R,∃s∈R',cJ d r s)→R.length≤R'.length
 |[],_,_,_,_=>ac6 _
 |r::R,R',hn,hi,hc=>by
  obtain⟨s,hs,hrs⟩:=hc r (acD ..);have h1:=acC.1 hn;have ih:=Kl hw (R:=R) (R':=R'.erase s) h1.2 (fun a ha b hb=>hi a (abg _ ha) b (abg _ hb)) (fun a ha=>by obtain⟨t,ht,Cx⟩:=hc a (abg _ ha);refine⟨t,(aeR (fun k=>?_)).2 ht,Cx⟩;subst k;have:=hi a (abg _ ha) r (acD ..) (Cx.trans (hrs.symm hw));simp_all)
  grind
theorem qP.len{d:ar}(hw:Wf d){R R':List ID}(h:qP d R)(h':qP d R'):R.length=R'.length:=by
 refine Nat.le_antisymm (Kl hw h.n h.i fun r hr=>?_) (Kl hw h'.n h'.i fun r hr=>?_)
 ·obtain⟨v,hv,rfl⟩:=h.v r hr;exact h'.c v hv
 ·obtain⟨v,hv,rfl⟩:=h'.v r hr;exact h.c v hv
theorem uC{d:ar}(hw:Wf d){z:ag}(hz:z∈av d.1):∃v∈d.1,z∈v.2.1∧dA d z=some v.1:=by obtain⟨v,hv,hzv⟩:=aS.1 hz;exact⟨v,hv,hzv,fk hw.rw hv hzv⟩
theorem FM{d:ar}(h:Rw d.1){x z:ag}(hx:x∈av d.1)(hz:z∈av (aN d x).1):dA (aN d x) z=dA d z:=by
 obtain⟨p,q⟩:=gk h hx;obtain⟨v,hv,pW⟩:=aS.1 hx;obtain⟨w,hw,NP⟩:=aS.1 hz;have hr:=lj h hv pW;have NG:w∈d.1.map (A4 v.1 (j0 v.2.1 x)):=by rw[hr]at hw;exact hw
 obtain⟨u,hu,hwu⟩:=acE.1 NG;have bM:w.1=u.1:=by grind [uq]
 have Kk:z∈u.2.1:=by
  by_cases huv:u.1=v.1
  ·have huv:u=v:=by have h1:=ma h.s hv;have h2:=ma h.s hu;simp_all
   subst huv;have nD:w.2.1=j0 u.2.1 x:=by rw[←hwu];unfold A4;simp_all
   rw[nD]at NP;exact(vG pW (h.ring hu)).mem_iff.2 (abg _ NP)
  simp_all [A4,if_neg]
 show Gx (aN d x).1 z=Gx d.1 z
 grind [fk]
theorem b5.at{d':ar}{x:ID}(h:b5 d' x){z:ag}(hz:z∈av (dR d' x).1):dA (dR d' x) z=dA d' z:=by
 have e:dA (dR d' x) z=dA (aN (aN d' (x,0)) (x,1)) z:=by unfold dA;rw[h.v]
 rw[h.v]at hz;have Ae:z∈av (aN d' (x,0)).1:=h.p2.1.mem_iff.2 (abg _ hz);rw[e,FM h.p1.2 h.x1' hz,FM h.wf.rw h.x0 Ae]
theorem b5.sub{d':ar}{x:ID}(h:b5 d' x){z:ag}(hz:z∈av (dR d' x).1):z∈av d'.1:=h.p.mem_iff.2 (abg _ (abg _ hz))
theorem b5.adj{d':ar}{x:ID}(h:b5 d' x){a b:ID}(k:Cm (dR d' x) a b):Cm d' a b:=by obtain⟨z,hz,h1,h2⟩:=k;exact⟨z,h.sub hz,by rw[←h.at hz];exact h1,by rw[←h.at (h.w.other hz)];exact h2⟩
theorem b5.conn{d':ar}{x:ID}(h:b5 d' x){a b:ID}(k:cJ (dR d' x) a b):cJ d' a b:=by
 induction k with
 |refl=>exact .refl _
 |tail _ j ih=>exact ih.tail (h.adj j)
theorem b5.am5{d':ar}{x u w:ID}(h:b5 d' x)(hu:dA d' (x,0)=some u)(hw:dA d' (x,1)=some w){a b:ID}(k:Cm d' a b):Cm (dR d' x) a b∨(a=u∧b=w)∨(a=w∧b=u):=by
 obtain⟨z,hz,h1,h2⟩:=k;rcases abq.1 (h.p.mem_iff.1 hz) with rfl|CQ
 ·rw[FK]at h2;rw[hu]at h1;rw[hw]at h2
  cases h1;cases h2
  exact .inr (.inl ⟨rfl,rfl⟩)
 rcases abq.1 CQ with rfl|P0
 ·rw[Xl]at h2;rw[hw]at h1;rw[hu]at h2
  cases h1;cases h2
  exact .inr (.inr ⟨rfl,rfl⟩)
 ·exact .inl ⟨z,P0,by rw[h.at P0];exact h1,by rw[h.at (h.w.other P0)];exact h2⟩
theorem b5.Xn{d':ar}{x u w:ID}(h:b5 d' x)(hu:dA d' (x,0)=some u)(hw:dA d' (x,1)=some w){a b:ID}(k:cJ d' a b) :
  cJ (dR d' x) a b∨(cJ (dR d' x) a u∧cJ (dR d' x) w b)∨(cJ (dR d' x) a w∧cJ (dR d' x) u b):=by
 induction k with
 |refl=>exact .inl (.refl _)
 |tail _ j ih =>
  rcases h.am5 hu hw j with j|⟨rfl,rfl⟩|⟨rfl,rfl⟩
  ·rcases ih with k|⟨k,m⟩|⟨k,m⟩
   ·exact .inl (k.tail j)
   ·exact .inr (.inl ⟨k,m.tail j⟩)
   ·exact .inr (.inr ⟨k,m.tail j⟩)
  ·rcases ih with k|⟨k,m⟩|⟨k,m⟩
   ·exact .inr (.inl ⟨k,.refl _⟩)
   ·exact .inr (.inl ⟨k,.refl _⟩)
   simp_all
  ·rcases ih with k|⟨k,m⟩|⟨k,m⟩
   ·exact .inr (.inr ⟨k,.refl _⟩)
   ·exact .inl k
   ·exact .inr (.inr ⟨k,.refl _⟩)
theorem b5.ids{d':ar}{x:ID}(h:b5 d' x):(dR d' x).1.map (·.1)=d'.1.map (·.1):=by rw[h.v];unfold aN Vs.cE;simp only[List.map_map];simp_all [List.map_congr_left,v,Function.comp,uq]
theorem b5.CI{d':ar}{x:ID}(h:b5 d' x){r:ID}:(∃v∈(dR d' x).1,v.1=r)↔∃v∈d'.1,v.1=r:=by
 have e:∀l:List an,(∃v∈l,v.1=r)↔r∈l.map (·.1):=fun l=>by simp_all
 rw[e,e,h.ids]
theorem b5.Pg{d':ar}{x u w:ID}(h:b5 d' x)(hu:dA d' (x,0)=some u)(hw:dA d' (x,1)=some w)(k:cJ (dR d' x) u w){R:List ID}(hr:qP d' R):qP (dR d' x) R:=by
 have key:∀{a b:ID},cJ d' a b→cJ (dR d' x) a b:=fun {a b} m=>by
  rcases h.Xn hu hw m with m|⟨m,q⟩|⟨m,q⟩
  ·exact m
  ·exact(m.trans k).trans q
  ·exact(m.trans (k.symm h.w)).trans q
 refine⟨hr.n,fun r A3=>h.CI.2 (hr.v r A3),fun r A3 s hs m=>hr.i r A3 s hs (h.conn m),fun v hv=>?_⟩;obtain⟨v',CR,he⟩:=h.CI.1 ⟨v,hv,rfl⟩;obtain⟨r,h1,h2⟩:=hr.c v' CR
 grind
theorem b5.QR{d':ar}{x:ID}(h:b5 d' x):∃u w,dA d' (x,0)=some u∧dA d' (x,1)=some w∧(∃v∈d'.1,v.1=u)∧∃v∈d'.1,v.1=w:=by
 obtain⟨v,hv,_,h1⟩:=uC h.wf h.x0;obtain⟨v2,CP,_,h2⟩:=uC h.wf h.x1
 grind
theorem b5.abS{d':ar}{x u w:ID}(h:b5 d' x)(hu:dA d' (x,0)=some u)(hw:dA d' (x,1)=some w)(k:¬cJ (dR d' x) u w){R:List ID}(hr:qP d' R):∃R2,qP (dR d' x) R2∧R2.length=R.length+1:=by
 have uv:∃v∈d'.1,v.1=u:=by
  obtain⟨v,hv,_,h1⟩:=uC h.wf h.x0
  grind
 have wv:∃v∈d'.1,v.1=w:=by
  obtain⟨v,hv,_,h1⟩:=uC h.wf h.x1
  grind
 have uw:cJ d' u w:=Cm.conn ⟨(x,0),h.x0,hu,by grind [FK]⟩;obtain⟨v0,hv0,hvu⟩:=uv;obtain⟨r,A3,hur⟩:=hr.c v0 hv0;rw[hvu]at hur;have sep:∀s∈R.erase r,s∈R∧¬cJ d' s u∧¬cJ d' s w:=fun s hs=>by
  have h1:=aeQ hs;have h2:s≠r:=fun e=>by subst e;exact absurd hs (List.Nodup.not_mem_erase hr.n)
  exact⟨h1,fun m=>h2 (hr.i s h1 r A3 (m.trans hur)),fun m=>h2 (hr.i s h1 r A3 ((m.trans (uw.symm h.wf)).trans hur))⟩
 refine⟨u::w::R.erase r,⟨?_,?_,?_,?_⟩,?_⟩
 ·refine acC.2 ⟨fun m=>?_,acC.2 ⟨fun m=>(sep w m).2.2 (.refl _),hr.n.erase r⟩⟩;rcases abq.1 m with m|m
  ·exact k (m▸.refl _)
  simp_all
 ·intro s hs;rcases abq.1 hs with rfl|hs
  ·exact h.CI.2 ⟨v0,hv0,hvu⟩
  rcases abq.1 hs with rfl|hs
  ·exact h.CI.2 wv
  ·exact h.CI.2 (hr.v s (sep s hs).1)
 ·intro a ha b hb m;rcases abq.1 ha with ea|ha
  ·rcases abq.1 hb with eb|hb
   ·rw[ea,eb]
   rcases abq.1 hb with eb|hb
   ·simp_all
   ·exact absurd ((h.conn (ea▸m)).symm h.wf) (sep b hb).2.1
  rcases abq.1 ha with ea|ha
  ·rcases abq.1 hb with eb|hb
   ·exact absurd ((ea▸eb▸m).symm h.w) k
   rcases abq.1 hb with eb|hb
   ·rw[ea,eb]
   ·exact absurd ((h.conn (ea▸m)).symm h.wf) (sep b hb).2.2
  ·rcases abq.1 hb with eb|hb
   ·exact absurd (eb▸h.conn m) (sep a ha).2.1
   rcases abq.1 hb with eb|hb
   ·exact absurd (eb▸h.conn m) (sep a ha).2.2
   ·exact hr.i a (sep a ha).1 b (sep b hb).1 (h.conn m)
 ·intro v hv;obtain⟨v',CR,he⟩:=h.CI.1 ⟨v,hv,rfl⟩;obtain⟨s,h1,h2⟩:=hr.c v' CR;rw[he]at h2;by_cases hsr:s=r
  ·subst hsr;rcases h.Xn hu hw (h2.trans (hur.symm h.wf)) with m|⟨m,_⟩|⟨m,_⟩
   ·simp_all
   ·simp_all
   simp_all
  ·have N3:s∈R.erase r:=(aeR hsr).2 h1;rcases h.Xn hu hw h2 with m|⟨_,q⟩|⟨_,q⟩
   ·grind
   ·simp_all
   simp_all
 grind
theorem b5.Ty{d':ar}{x u w:ID}(h:b5 d' x)(hu:dA d' (x,0)=some u)(hw:dA d' (x,1)=some w)(hf:¬Xm d' (x,0) (x,1)):cJ (dR d' x) u w:=by
 have hm:(x,0)∈(cv d').flatten:=(bX h.wf).p.mem_iff.2 h.x0;obtain⟨c,hc,h0⟩:=adC.1 hm;have h1:(x,1)∉c:=fun k=>hf ⟨c,hc,h0,k⟩;have FD:=(bX h.wf).c c hc;obtain⟨B,k1,k2⟩:=FD.head h0;have hcd:∀z∈c,z∈av d'.1:=fun z hz=>(bX h.wf).p.mem_iff.1 (adC.2 ⟨c,hc,hz⟩);have cn:c.Nodup:=by
  obtain⟨p,q,e⟩:=adm hc;have:=(bX h.wf).p.nodup_iff.2 h.wf.rw.n
  grind
 have bn:=k2.nodup_iff.2 cn;have am6:∀z∈av d'.1,dA d' (Vs.ph d' z)=dA d' (aw z):=fun z hz=>by have ho:=h.wf.other hz;obtain⟨v,hv,hzv⟩:=aS.1 ho;rw[jX hz,kr h.wf.rw hv hzv];show Gx d'.1 _=Gx d'.1 _;rw[fk h.wf.rw hv (ng (h.wf.rw.ring hv) hzv),fk h.wf.rw hv hzv]
 have inC:∀z∈B,z∈av (dR d' x).1:=fun z hz=>by
  have hzc:z∈c:=k2.mem_iff.1 (abg _ hz);rcases abq.1 (h.p.mem_iff.1 (hcd z hzc)) with e|e
  ·simp_all
  grind
 have walk:∀(B:List ag) (a e:ID) (z:ag),(∀y∈B,y∈av (dR d' x).1)→Path (Vs.ph d') B z→dA d' z=some e→(∀y,B.head? = some y→dA d' y=some a)→(B=[]→a=e)→cJ (dR d' x) a e:=by
  intro B
  induction B with
  |nil=>intro a e z _ _ _ _ h5;rw[h5 rfl];exact .refl _
  |cons y r ih =>
   intro a e z hB hp hz ha _;have hy:=hB y (by simp);have hyd:=h.sub hy;obtain⟨v,hv,YW,Cx⟩:=uC h.wf (h.wf.other hyd);have adj:Cm (dR d' x) a v.1:=⟨y,hy,by rw[h.at hy];exact ha y rfl,by rw[h.at (h.w.other hy)];exact Cx⟩;have mr:dA d' (r.head?.getD z)=some v.1:=by rw[←show Vs.ph d' y=r.head?.getD z from hp.1,am6 y hyd];exact Cx
   refine adj.conn.trans (ih v.1 e z (fun q hq=>hB q (abg _ hq)) hp.2 hz (fun q hq=>?_) (fun hr=>?_))
   ·simp_all
   simp_all
 obtain⟨fx,pB⟩:=(show Path (Vs.ph d') ((x,0)::B) (x,0) from k1);have am7:dA d' (B.head?.getD (x,0))=some w:=by
  grind [FK]
 refine(walk B w u (x,0) inC pB hu (fun y hy=>by simp_all) (fun hB=>?_)).symm h.w;simp_all
theorem MY{d:ar}(h:av d.1=[]){a b:ID}(k:cJ d a b):a=b:=by
 induction k with
 |refl=>rfl
 |tail _ j _=>obtain⟨z,hz,_⟩:=j;simp_all
theorem cg.ids{l:List an}(h:cg l):(l.map (·.1)).Nodup:=by unfold List.Nodup;rw[List.pairwise_map];exact h.imp fun {a b} k e=>by grind [cm]
theorem QS:∀(n:Nat) (d:ar),Wf d→d.2.length=n→∀R,qP d R→∃k,d.1.length+ft d+2*k=2*R.length+d.2.length
 |0,d,hw,hl,R,hr=>by
  have he:d.2=[]:=by simpa using hl
  have hd:av d.1=[]:=by have:=hw.pd;rw[he]at this;exact List.perm_nil.1 this
  have acV:qP d (d.1.map (·.1)):=⟨hw.sv.ids,fun r hr=>by simp_all,fun r _ s _ k=>MY hd k,fun v hv=>⟨v.1,acE.2 ⟨v,hv,rfl⟩,.refl _⟩⟩;have hlen:=hr.len hw acV;have hf:cv d=[]:=by unfold cv;rw[he];rfl
  have ha:al d.1=d.1.length:=by
   unfold al;rw[List.countP_eq_length];intro v hv;rw[List.isEmpty_iff]
   cases hq:v.2.1 with
   |nil=>rfl
   |cons y r =>have:y∈av d.1:=aS.2 ⟨v,hv,by rw[hq];simp⟩;simp_all
  refine⟨0,?_⟩
  grind [ft]
 |n+1,d,hw,hl,R,hr=>by
  obtain⟨e,r,he⟩:∃e r,d.2=e::r:=by
   cases hq:d.2 with
   |nil=>simp_all
   |cons e r=>simp_all
  have hc:b5 d e.1:=⟨hw,by grind [ba]⟩;obtain⟨u,w,hu,hwt,_,_⟩:=hc.QR;have hv:(dR d e.1).1.length=d.1.length:=by have:=congrArg List.length hc.ids;simp_all
  have uX:(dR d e.1).2.length=n:=by
   have h1:=hc.w.pd.length_eq;have h2:=hw.pd.length_eq;have h3:=hc.p.length_eq;have e2:∀l:List aj,(ends l).length=2*l.length:=fun l=>by
    induction l with
    |nil=>rfl
    |cons e r ih=>grind [eY]
   grind
  by_cases hf:Xm d (e.1,0) (e.1,1)
  ·have h1:=(hc.same hf).1;by_cases k:cJ (dR d e.1) u w
   ·obtain⟨g,hg⟩:=QS n (dR d e.1) hc.w uX R (hc.Pg hu hwt k hr);exact⟨g+1,by omega⟩
   ·obtain⟨R2,h2,h3⟩:=hc.abS hu hwt k hr;obtain⟨g,hg⟩:=QS n (dR d e.1) hc.w uX R2 h2
    grind
  ·have h1:=hc.diff hf;obtain⟨g,hg⟩:=QS n (dR d e.1) hc.w uX R (hc.Pg hu hwt (hc.Ty hu hwt hf) hr)
   grind
def di(d:ar)(i:Nat):ID:=((d.1[i]?).getD zV).1
theorem sx{d:ar}{i:Nat}{v:an}(h:d.1[i]? = some v):di d i=v.1:=by grind [di]
theorem ku{d:ar}(hs:cg d.1){i j:Nat}(hi:i<d.1.length)(hj:j<d.1.length)(h:di d i=di d j):i=j:=by have h1:=abf hi;have h2:=abf hj;rw[sx h1,sx h2]at h;rw[k9 hs h1 rfl,k9 hs h2 rfl,h]
theorem Xo{x:ID}:∀{l:List an} {i:Nat} {v:an} (k:Int),l[i]? = some v→v.1=x→(∀j u,j<i→l[j]? = some u→u.1≠x)→Db x l k=k+i
 |w::r,0,v,k,h,hv,_=>by simp_all [Db,if_pos]
 |w::r,i+1,v,k,h,hv,hn=>by have h0:=hn 0 w (by omega) (by simp);rw[Db,if_neg h0,Xo (i:=i) (v:=v) (k+1) (by simpa using h) hv (fun j u hj hu=>hn (j+1) u (by omega) (by simpa using hu))];omega
theorem Xp{d:ar}(hs:cg d.1){i:Nat}(hi:i<d.1.length):Db (di d i) d.1 0=(i:Int):=by
 grind [List.getElem?_eq_getElem,Xo,di,sx,ku,trans]
theorem Ph{d:ar}(hw:Wf d){z:ag}(hz:z∈av d.1):∃i,i<d.1.length∧dA d z=some (di d i):=by
 obtain⟨v,hv,_,h⟩:=uC hw hz;obtain⟨i,hi,he⟩:=aeL hv;refine⟨i,hi,?_⟩
 grind [sx,List.getElem?_eq_getElem]
structure Km(d:ar)(L:List Int):Prop where
 n:L.length=d.1.length
 i:∀i,i<d.1.length→∃j:Nat,j≤i∧L.getD i 0=(j:Int)∧cJ d (di d i) (di d j)
def ij(d:ar)(L:List Int)(i:Nat):Prop:=∀j,j<d.1.length→cJ d (di d i) (di d j)→L.getD i 0≤(j:Int)
structure MZ(d:ar)(L:List Int):Prop where
 l:Km d L
 r:∀i,i<d.1.length→ij d L i
def G7(a b:Nat)(L:List Int):List Int:=(L.set a (min (L.getD a 0) (L.getD b 0))).set b (min (L.getD a 0) (L.getD b 0))
theorem Xq{L:List Int}{a b:Nat}(ha:a<L.length)(hb:b<L.length)(i:Nat):(G7 a b L).getD i 0=if i=a∨i=b then min (L.getD a 0) (L.getD b 0) else L.getD i 0:=by
 unfold G7
 grind
theorem Tz{d:ar}(hw:Wf d){L:List Int}(h:Km d L){a b:Nat}(ha:a<d.1.length)(hb:b<d.1.length)(Fc:cJ d (di d a) (di d b)):Km d (G7 a b L)∧(∀i,i<d.1.length→ij d L i→ij d (G7 a b L) i)∧(ij d L a→ij d (G7 a b L) b)∧(ij d L b→ij d (G7 a b L) a):=by
 have T2:a<L.length:=by rw[h.n];exact ha
 have SC:b<L.length:=by rw[h.n];exact hb
 have gl:=Xq T2 SC;obtain⟨ja,a1,a2,a3⟩:=h.i a ha;obtain⟨jb,b1,b2,b3⟩:=h.i b hb;have hba:=Fc.symm hw;refine⟨⟨by unfold G7;simp[h.n],fun i hi=>?_⟩,fun i hi hr j hj hc=>?_,fun hr j hj hc=>?_,fun hr j hj hc=>?_⟩
 ·rw[gl];by_cases aac:i=a∨i=b
  ·rw[if_pos aac];have conn:cJ d (di d i) (di d a)∧cJ d (di d i) (di d b):=by
    rcases aac with rfl|rfl
    ·exact⟨.refl _,Fc⟩
    ·exact⟨hba,.refl _⟩
   by_cases hle:L.getD a 0≤L.getD b 0
   ·refine⟨ja,?_,by omega,conn.1.trans a3⟩;omega
   ·refine⟨jb,?_,by omega,conn.2.trans b3⟩;omega
  ·rw[if_neg aac];exact h.i i hi
 ·rw[gl]
  split
  ·rename_i aac;have:=hr j hj hc
   grind
  ·exact hr j hj hc
 ·rw[gl,if_pos (.inr rfl)];have:=hr j hj (Fc.trans hc);omega
 ·rw[gl,if_pos (.inl rfl)];have:=hr j hj (hba.trans hc);omega
theorem adH{d:ar}(hw:Wf d){e:aj}(he:e∈d.2)(L:List Int):∃a b,a<d.1.length∧b<d.1.length∧dA d (e.1,0)=some (di d a)∧dA d (e.1,1)=some (di d b)∧Ka d e L=G7 a b L:=by have h0:(e.1,0)∈av d.1:=hw.pd.mem_iff.2 (cy.2 ⟨e,he,rfl,.inl rfl⟩);have h1:(e.1,1)∈av d.1:=hw.pd.mem_iff.2 (cy.2 ⟨e,he,rfl,.inr rfl⟩);obtain⟨a,ha,ea⟩:=Ph hw h0;obtain⟨b,hb,eb⟩:=Ph hw h1;refine⟨a,b,ha,hb,ea,eb,?_⟩;unfold Ka G7;rw[ea,eb];simp only[Option.getD_some,Xp hw.sv ha,Xp hw.sv hb,Int.toNat_natCast];rfl
theorem xM{d:ar}(hw:Wf d):∀(l:List aj) {L:List Int},(∀e∈l,e∈d.2)→Km d L→Km d (kI d l L)∧(∀i,i<d.1.length→ij d L i→ij d (kI d l L) i) ∧(∀e∈l,∀a b,a<d.1.length→b<d.1.length→((dA d (e.1,0)=some (di d a)∧dA d (e.1,1)=some (di d b))∨(dA d (e.1,0)=some (di d b)∧dA d (e.1,1)=some (di d a)))→ij d L a→ij d (kI d l L) b)
 |[],L,_,h=>⟨h,fun i hi hr=>hr,fun e he=>by simp at he⟩
 |e::r,L,hl,h=>by
  have he:=hl e (acD ..);obtain⟨a,b,ha,hb,ea,eb,el⟩:=adH hw he L;have h0:(e.1,0)∈av d.1:=hw.pd.mem_iff.2 (cy.2 ⟨e,he,rfl,.inl rfl⟩);have Fc:cJ d (di d a) (di d b):=Cm.conn ⟨(e.1,0),h0,ea,by grind [FK]⟩;obtain⟨s1,s2,s3,s4⟩:=Tz hw h ha hb Fc;obtain⟨t1,t2,t3⟩:=xM hw r (L:=G7 a b L) (fun e he=>hl e (abg _ he)) s1;show Km d (kI d r (Ka d e L))∧_∧_;rw[el];refine⟨t1,fun i hi hr=>?_,fun f hf p q hp hq Lb hr=>?_⟩
  ·grind [ij,kI,Ka]
  ·show ij d (kI d r (Ka d e L)) q;rw[el];rcases abq.1 hf with rfl|hf
   ·refine t2 q hq ?_;rcases Lb with⟨k1,k2⟩|⟨k1,k2⟩
    ·rw[ea]at k1;rw[eb]at k2;have:=ku hw.sv ha hp (acP k1);subst this;have:=ku hw.sv hb hq (acP k2);simp_all
    ·rw[ea]at k1;rw[eb]at k2;have:=ku hw.sv ha hq (acP k1);subst this;have:=ku hw.sv hb hp (acP k2);simp_all
   grind
theorem Pj{d:ar}(i:Nat)(hi:i<d.1.length):∃m,m<d.1.length∧cJ d (di d i) (di d m)∧∀j,j<d.1.length→cJ d (di d i) (di d j)→m≤j:=by
 induction i using Nat.strongRecOn with
 |ind i ih =>
  by_cases h:∃j,j<i∧cJ d (di d i) (di d j)∧cJ d (di d j) (di d i)
  ·obtain⟨j,hj,hc,rp⟩:=h;obtain⟨m,h1,h2,h3⟩:=ih j hj (by omega);exact⟨m,h1,hc.trans h2,fun k hk hck=>h3 k hk (rp.trans hck)⟩
  ·by_cases hs:∃j,j<i∧cJ d (di d i) (di d j)
   ·obtain⟨j,hj,hc⟩:=hs;have key:∀n,n≤i→(∃m,m<n∧cJ d (di d i) (di d m))→∃m,m<d.1.length∧cJ d (di d i) (di d m)∧∀j,j<d.1.length→cJ d (di d i) (di d j)→m≤j:=by
     intro n
     induction n with
     |zero=>omega
     |succ n ihn =>
      rintro hn ⟨m,hm,YP⟩;by_cases hb:∃m,m<n∧cJ d (di d i) (di d m)
      ·grind
      grind
    exact key i (abX _) ⟨j,hj,hc⟩
   ·refine⟨i,hi,.refl _,fun j hj hc=>Classical.byContradiction fun k=>hs ⟨j,by omega,hc⟩⟩
theorem TA{d:ar}(P:ID→Prop){x y:ID}(h:cJ d x y)(hx:P x)(hy:¬P y):∃a b,Cm d a b∧P a∧¬P b:=by
 induction h with
 |refl=>simp_all
 | @tail b c k j ih =>
  grind
open Classical in
theorem M0{P Q:Nat→Prop}:∀{l:List Nat},(∀i∈l,P i→Q i)→(∃i∈l,Q i∧¬P i)→l.countP (fun i=>decide (P i))<l.countP (fun i=>decide (Q i))
 |[],_,h=>by simp_all
 |x::r,h,⟨i,hi,hq,hp⟩=>by
  have mono:r.countP (fun i=>decide (P i))≤r.countP (fun i=>decide (Q i)):=by
   have hr:∀i∈r,P i→Q i:=fun i hi=>h i (abg _ hi);clear h hi
   induction r with
   |nil=>simp
   |cons y r ih =>
    grind
  rw[List.countP_cons,List.countP_cons];rcases abq.1 hi with rfl|hi
  ·grind
  ·have:=M0 (l:=r) (fun i hi=>h i (abg _ hi)) ⟨i,hi,hq,hp⟩
   grind
theorem Pk{d:ar}(hw:Wf d){L:List Int}(h:Km d L)(hn:∃i,i<d.1.length∧¬ij d L i):∃i,i<d.1.length∧ij d (kI d d.2 L) i∧¬ij d L i:=by
 obtain⟨i,hi,hr⟩:=hn;obtain⟨m,m1,m2,m3⟩:=Pj i hi;have hm:ij d L m:=fun j hj hc=>by obtain⟨q,q1,q2,_⟩:=h.i m m1;have:=m3 j hj (m2.trans hc);rw[q2];omega
 let P:ID→Prop:=fun x=>∃k,k<d.1.length∧di d k=x∧ij d L k
 have hx:P (di d m):=⟨m,m1,rfl,hm⟩;have hy:¬P (di d i):=fun⟨k,k1,k2,k3⟩=>by have:=ku hw.sv k1 hi k2;simp_all
 obtain⟨a,b,⟨z,hz,za,zb⟩,⟨p,p1,p2,p3⟩,hb⟩:=TA P (m2.symm hw) hx hy;obtain⟨q,q1,q2⟩:=Ph hw (hw.other hz);rw[zb]at q2;have hbq:b=di d q:=acP q2;obtain⟨e,he,e1,e2⟩:=cy.1 (hw.pd.mem_iff.1 hz);refine⟨q,q1,?_,fun k=>hb ⟨q,q1,hbq.symm,k⟩⟩;refine(xM hw d.2 (fun _ h=>h) h).2.2 e he p q p1 q1 ?_ p3;rw[p2,←hbq];obtain⟨z1,z2⟩:=z;simp only at e1 e2;subst e1;rcases e2 with rfl|rfl
 ·exact .inl ⟨za,zb⟩
 ·exact .inr ⟨zb,za⟩
open Classical in
theorem FN{d:ar}(hw:Wf d):∀(n:Nat) {L:List Int},Km d L→d.1.length≤n+(List.range d.1.length).countP (fun i=>decide (ij d L i))→MZ d (Mw d n L)
 |0,L,h,hc=>by
  refine⟨h,fun i hi=>?_⟩;have h1:(List.range d.1.length).countP (fun i=>decide (ij d L i))=(List.range d.1.length).length:=by
   grind
  have:=List.countP_eq_length.1 h1 i (ac7.2 hi);exact of_decide_eq_true this
 |n+1,L,h,hc=>by
  obtain⟨s1,s2,_⟩:=xM hw d.2 (fun _ h=>h) h;show MZ d (Mw d n (kI d d.2 L));refine FN hw n s1 ?_;by_cases hn:∃i,i<d.1.length∧¬ij d L i
  ·obtain⟨i,hi,h1,h2⟩:=Pk hw h hn;have:=M0 (P:=ij d L) (Q:=ij d (kI d d.2 L)) (l:=List.range d.1.length) (fun i hi=>s2 i (ac7.1 hi)) ⟨i,ac7.2 hi,h1,h2⟩;omega
  ·have:(List.range d.1.length).countP (fun i=>decide (ij d (kI d d.2 L) i))=(List.range d.1.length).length:=by rw[List.countP_eq_length];simp_all
   simp_all
theorem adI(d:ar):Km d (G4 d.1.length):=by
 refine⟨by unfold G4;simp,fun i hi=>⟨i,abX _,?_,.refl _⟩⟩
 grind [G4,List.getD]
theorem fm{d:ar}(hw:Wf d):MZ d (labels d):=FN hw d.1.length (adI d) (by omega)
theorem MZ.uniq{d:ar}(hw:Wf d){L M:List Int}(h:MZ d L)(k:MZ d M):L=M:=by
 apply adO;intro i;by_cases hi:i<d.1.length
 ·have e1:L[i]? = some (L.getD i 0):=by rw[List.getElem?_eq_getElem (by rw[h.l.n];exact hi)];grind
  have e2:M[i]? = some (M.getD i 0):=by rw[List.getElem?_eq_getElem (by rw[k.l.n];exact hi)];grind
  obtain⟨a,a1,a2,a3⟩:=h.l.i i hi;obtain⟨b,b1,b2,b3⟩:=k.l.i i hi;have h1:=h.r i hi b (by omega) b3;have h2:=k.r i hi a (by omega) a3
  grind
 ·rw[List.getElem?_eq_none (by rw[h.l.n];omega),List.getElem?_eq_none (by rw[k.l.n];omega)]
def ov(d:ar)(L:List Int):List ID:=((List.range d.1.length).filter fun i=>decide (L.getD i 0=(i:Int))).map (di d)
theorem mg{d:ar}(hw:Wf d){L:List Int}(h:MZ d L):qP d (ov d L):=by
 have mem:∀{r:ID},r∈ov d L↔∃i,i<d.1.length∧L.getD i 0=(i:Int)∧di d i=r:=fun {r}=>by
  unfold ov
  grind
 refine⟨?_,fun r hr=>?_,fun r hr s hs hc=>?_,fun v hv=>?_⟩
 ·unfold ov List.Nodup;rw[List.pairwise_map];have hp:((List.range d.1.length).filter fun i=>decide (L.getD i 0=(i:Int))).Nodup:=List.nodup_range.filter _;refine List.Pairwise.imp_of_mem (fun {a b} ha hb bA e=>bA ?_) hp;exact ku hw.sv (ac7.1 (aeC.1 ha).1) (ac7.1 (aeC.1 hb).1) e
 ·obtain⟨i,hi,_,rfl⟩:=mem.1 hr;exact⟨d.1[i],acG hi,(sx (abf hi)).symm⟩
 ·obtain⟨i,hi,h1,rfl⟩:=mem.1 hr;obtain⟨j,hj,h2,rfl⟩:=mem.1 hs;have k1:=h.r i hi j hj hc;have k2:=h.r j hj i hi (hc.symm hw)
  grind
 ·obtain⟨i,hi,he⟩:=aeL hv;have bM:di d i=v.1:=by rw[sx (List.getElem?_eq_getElem hi),he]
  obtain⟨j,j1,j2,j3⟩:=h.l.i i hi;refine⟨di d j,mem.2 ⟨j,by omega,?_,rfl⟩,by simp_all⟩;obtain⟨k,k1,k2,k3⟩:=h.l.i j (by omega);have h1:=h.r i hi k (by omega) (j3.trans k3);omega
theorem Bl:∀(l:List Int) (i:Nat) (n:Nat),n+l.length≤1000000→si l (i:Int) (n:Int)=((n+((List.range l.length).filter fun j=>decide (l.getD j 0=((i+j:Nat):Int))).length:Nat):Int)
 |[],i,n,_=>by simp[si]
 |x::r,i,n,h=>by
  simp at h;have e:((List.range (x::r).length).filter fun j=>decide ((x::r).getD j 0=((i+j:Nat):Int))).length=(if x=(i:Int) then 1 else 0)+((List.range r.length).filter fun j=>decide (r.getD j 0=((i+1+j:Nat):Int))).length:=by
   rw[List.length_cons,List.range_succ_eq_map,List.filter_cons];have e2:((List.range r.length).map Nat.succ).filter (fun j=>decide ((x::r).getD j 0=((i+j:Nat):Int)))=((List.range r.length).filter fun j=>decide (r.getD j 0=((i+1+j:Nat):Int))).map Nat.succ:=by
    rw[List.filter_map];congr 1;apply List.filter_congr
    grind
   grind
  rw[e];unfold si;have hi:((i:Int)+1)=((i+1:Nat):Int):=by omega
  rw[hi];by_cases hx:x=(i:Int)
  ·rw[if_pos hx,if_pos hx];have hw:IntKind.wrap .i64 ((n:Int)+1)=((n+1:Nat):Int):=by grind [wrap_small]
   rw[hw,Bl r (i+1) (n+1) (by omega)];congr 1;omega
  ·rw[if_neg hx,if_neg hx,Bl r (i+1) n (by omega)];congr 1;omega
theorem vK{d:ar}(hw:Wf d):fM d=((ov d (labels d)).length:Int):=by have h:=fm hw;have hn:=hw.nv;unfold fM;have:=Bl (labels d) 0 0 (by rw[h.l.n];omega);simp only[Nat.zero_add]at this;have e:si (labels d) 0 0=si (labels d) ((0:Nat):Int) ((0:Nat):Int):=rfl;rw[e,this];unfold ov;rw[List.length_map,h.l.n]
theorem Bm:∀(l:List an) (n:Nat),n+l.length≤1000000→xG l (n:Int)=((n+al l:Nat):Int)
 |[],n,_=>by rfl
 |v::r,n,h=>by
  simp at h;unfold xG al;rw[List.countP_cons];by_cases hv:v.2.1.length=0
  ·have:v.2.1.isEmpty=true:=by simp_all
   have hw:IntKind.wrap .i64 ((n:Int)+1)=((n+1:Nat):Int):=by grind [wrap_small]
   rw[if_pos hv,hw,Bm r (n+1) (by omega),this]
   grind [al]
  ·have:v.2.1.isEmpty=false:=by simp_all
   rw[if_neg hv,Bm r n (by omega),this];unfold al;simp
theorem zK{d:ar}(hw:Wf d):(cv d).length≤80:=by
 have h:=bX hw;have h1:=h.p.length_eq;have h2:=hw.MX;have h3:(cv d).length≤(cv d).flatten.length:=by
  have hc:=h.c;generalize cv d=cs at hc
  induction cs with
  |nil=>simp
  |cons c r ih =>
   have:=ih (fun c hc'=>hc c (abg _ hc'));have h1:=(hc c (acD ..)).ne
   grind [Nat.pos_of_ne_zero,List.length_eq_zero_iff,List.length_cons,List.flatten_cons,List.length_append]
 omega
theorem TB{d:ar}(hw:Wf d):Fk d=((ft d:Nat):Int):=by
 unfold Fk ft;have:=hw.nv
 grind [zK,Bm,cv]
theorem M1{d:ar}(hw:Wf d){R:List ID}(hr:qP d R):∃k:Nat,cX d=(k:Int)∧d.1.length+ft d+2*k=2*R.length+d.2.length:=by
 have hl:=(mg hw (fm hw)).len hw hr;obtain⟨k,hk⟩:=QS d.2.length d hw rfl R hr;refine⟨k,?_,hk⟩;have hn:=hw.nv;have he:=hw.ne;have hf:=zK hw;have ha:al d.1≤d.1.length:=aew;have hR:R.length≤d.1.length:=by
  grind [ov,List.length_map,Nat.le_trans,List.length_filter_le]
 have hft:ft d=(cv d).length+al d.1:=rfl;unfold cX;rw[vK hw,TB hw,hl];rw[wrap_small (n:=2*((R.length:Nat):Int)) (by omega) (by omega)]
 grind [wrap_small,ft,Int.tdiv,Int.tdiv_eq_ediv_of_nonneg]
end Go.Vs
