/- Faces -/
import Derived.Test.YtoleelddkocpkaaGreatSplits
set_option linter.unusedVariables false
set_option linter.unusedSimpArgs false
namespace Go.Cy
variable {α:Type}
def Path(f:α→α):List α→α→Prop
 |[],_=>True
 |x::r,z=>f x=r.head?.getD z∧Path f r z
theorem Path.app{f:α→α}:∀{a b:List α} {z:α},Path f (a++b) z↔Path f a (b.head?.getD z)∧Path f b z
 |[],b,z=>by simp[Path]
 |x::r,b,z=>by simp_all [Path.app,List.cons_append,Path,and_assoc]
theorem Path.congr{f g:α→α}:∀{a:List α} {z:α},(∀x∈a,g x=f x)→Path f a z→Path g a z
 |[],_,_,_=>trivial
 |x::r,z,h,p=>⟨(h x (aco ..)).trans p.1,Path.congr (fun y hy=>h y (abC _ hy)) p.2⟩
def jX(f:α→α):List α→Prop
 |[]=>False
 |x::r=>Path f (x::r) x
theorem jX.two{f:α→α}{x y:α}{a b:List α}:jX f ((x::a)++(y::b))↔Path f (x::a) y∧Path f (y::b) x:=by show Path f ((x::a)++(y::b)) x↔_;rw[Path.app];rfl
theorem jX.E1{f:α→α}:∀{a b:List α},jX f (a++b)→jX f (b++a)
 |[],b,h=>by simpa using h
 |x::a,[],h=>by simpa using h
 |x::a,y::b,h=>jX.two.2 ⟨(jX.two.1 h).2,(jX.two.1 h).1⟩
theorem jX.ne{f:α→α}{c:List α}(h:jX f c):c≠[]:=by rintro rfl;exact h
theorem jX.congr{f g:α→α}{c:List α}(h:∀x∈c,g x=f x)(k:jX f c):jX g c:=by
 cases c with
 |nil=>exact k
 |cons x r=>exact Path.congr h k
theorem Path.step{f:α→α}:∀{a:List α} {z x:α},Path f a z→x∈a→f x∈a∨f x=z
 |y::r,z,x,p,hx=>by
  rcases abL.1 hx with rfl|hx
  ·cases r with
   |nil=>exact .inr p.1
   |cons u r=>exact .inl (by have:=p.1;simp at this;rw[this];simp)
  ·rcases Path.step p.2 hx with h|h
   ·exact .inl (abC _ h)
   ·exact .inr h
theorem jX.step{f:α→α}{c:List α}(h:jX f c){x:α}(hx:x∈c):f x∈c:=by
 cases c with
 |nil=>exact h.elim
 |cons y r =>
  rcases Path.step (show Path f (y::r) y from h) hx with k|k
  ·exact k
  simp_all
def it(f:α→α):Nat→α→α
 |0,x=>x
 |n+1,x=>it f n (f x)
theorem jX.it{f:α→α}{c:List α}(h:jX f c):∀(n:Nat) {x:α},x∈c→it f n x∈c
 |0,_,hx=>hx
 |n+1,_,hx=>jX.it h n (h.step hx)
theorem Path.reach{f:α→α}:∀{r:List α} {x z:α},Path f (x::r) z→∀y∈x::r,∃n,it f n x=y
 |[],x,z,_,y,hy=>by simp at hy;exact⟨0,hy.symm⟩
 |u::r,x,z,p,y,hy=>by
  rcases abL.1 hy with rfl|hy
  ·exact⟨0,rfl⟩
  ·have h1:f x=u:=p.1;obtain⟨n,hn⟩:=Path.reach p.2 y hy;exact⟨n+1,by show it f n (f x)=y;rw[h1];exact hn⟩
theorem jX.head{f:α→α}{c:List α}(h:jX f c){x:α}(hx:x∈c):∃r,jX f (x::r)∧(x::r).Perm c:=by
 obtain⟨a,b,rfl⟩:=ac7 hx
 grind [jX.E1,List.perm_append_comm]
theorem jX.reach{f:α→α}{c:List α}(h:jX f c){x y:α}(hx:x∈c)(hy:y∈c):∃n,Cy.it f n x=y:=by obtain⟨r,h1,h2⟩:=h.head hx;exact Path.reach (show Path f (x::r) x from h1) y (h2.mem_iff.2 hy)
theorem jX.same{f:α→α}{c c':List α}(h:jX f c)(h':jX f c'){x:α}(hx:x∈c)(XZ:x∈c'){y:α}(hy:y∈c):y∈c':=by obtain⟨n,hn⟩:=h.reach hx hy;rw[←hn];exact h'.it n XZ
structure Hl(f:α→α)(D:List α)(cs:List (List α)):Prop where
 c:∀c∈cs,jX f c
 p:cs.flatten.Perm D
theorem sR(p q:List (List α))(c:List α):(p++c::q).flatten.Perm (c++(p++q).flatten):=by
 grind [List.flatten_append,List.flatten_cons,List.append_assoc,List.Perm.append_right,List.perm_append_comm]
theorem Hl.count{f:α→α}:∀{cs cs':List (List α)} {D:List α},D.Nodup→Hl f D cs→Hl f D cs'→cs.length=cs'.length
 |[],cs',D,hn,h,h'=>by
  have hD:D=[]:=by have:=h.p;simp at this;exact this.symm▸rfl
  subst hD
  cases cs' with
  |nil=>rfl
  |cons c r =>
   have:=h'.p.length_eq;have h1:=(h'.c c (by simp)).ne
   cases c with
   |nil=>exact absurd rfl h1
   |cons x c=>simp at this
 |c::r,cs',D,hn,h,h'=>by
  have hc:=h.c c (by simp);obtain⟨x,c0,rfl⟩:∃x c0,c=x::c0:=by
   cases c with
   |nil=>exact hc.elim
   |cons x c0=>exact⟨x,c0,rfl⟩
  have hx:x∈cs'.flatten:=h'.p.mem_iff.2 (h.p.mem_iff.1 (by simp));obtain⟨c',hc',agf⟩:=ac9.1 hx;obtain⟨p,q,rfl⟩:=ac7 hc';have agh:=h'.c c' (by simp);have n1:(x::c0).Nodup:=by have:=h.p.nodup_iff.2 hn;rw[List.flatten_cons]at this;exact(ada.1 this).1
  have n2:c'.Nodup:=by have:=(sR p q c').nodup_iff.1 (h'.p.nodup_iff.2 hn);exact(ada.1 this).1
  have pc:(x::c0).Perm c':=(List.perm_ext_iff_of_nodup n1 n2).2 fun y=>⟨fun hy=>hc.same agh (by simp) agf hy,fun hy=>agh.same hc agf (by simp) hy⟩;have pd:((x::c0)++r.flatten).Perm ((x::c0)++(p++q).flatten):=by
   have e1:((x::c0)++r.flatten).Perm D:=by have:=h.p;rwa [List.flatten_cons]at this
   have e2:(c'++(p++q).flatten).Perm D:=(sR p q c').symm.trans h'.p;exact e1.trans (e2.symm.trans (ade _ pc.symm))
  have pr:=(List.perm_append_left_iff _).1 pd;have X8:r.flatten.Nodup:=by have:=h.p.nodup_iff.2 hn;rw[List.flatten_cons]at this;exact(ada.1 this).2.1
  have ih:=Hl.count (cs:=r) (cs':=p++q) (D:=r.flatten) X8 ⟨fun c hc=>h.c c (by simp[hc]),adS _⟩ ⟨fun c hc=>h'.c c (by rcases acS.1 hc with k|k<;>simp[k]),pr.symm⟩;simp at ih ⊢;omega
theorem Path.lz{f g:α→α}:∀{a:List α} {z z':α},Path f a z→z∉a.tail→(∀u∈a,f u≠z→g u=f u)→(∀u∈a,f u=z→g u=z')→Path g a z'
 |[],_,_,_,_,_,_=>trivial
 |[x],z,z',p,hz,h1,h2=>⟨h2 x (by simp) p.1,trivial⟩
 |x::y::r,z,z',p,hz,h1,h2=>by have e:f x=y:=p.1;have bw:y≠z:=fun k=>hz (by simp[k]);refine⟨(h1 x (by simp) (by rw[e];exact bw)).trans e,?_⟩;exact Path.lz p.2 (fun k=>hz (abC _ k)) (fun u hu=>h1 u (abC _ hu)) (fun u hu=>h2 u (abC _ hu))
def nz:List α→Nat
 |[]=>0
 |_::_=>1
def lA(l:List α):List (List α):=match l with | []=>[]|x::r=>[x::r]
theorem Ej(l:List α):(lA l).flatten=l:=by cases l<;>simp[lA]
theorem Hm(l:List α):(lA l).length=nz l:=by cases l<;>rfl
theorem nk{l:List α}{z:α}(h:z∈l.tail):z∈l:=List.mem_of_mem_tail h
section
variable [DecidableEq α]
def ya(f':α→α)(x y:α)(z:α):α :=if f' z=x then(if f' y=y then f' x else f' y) else if f' z=y then(if f' x=x then f' y else f' x) else f' z
theorem Hl.VS{f' f:α→α}{x y:α}{D:List α}{cs':List (List α)}{c:List α}(hxy:x≠y)(hn:(x::y::D).Nodup)(h:Hl f' (x::y::D) cs')(hf:∀z∈D,f z=ya f' x y z)(hc:c∈cs')(hx:x∈c)(hy:y∈c) :
  ∃cs,Hl f D cs∧cs.length+1=cs'.length+(if f' x=y then 0 else 1)+(if f' y=x then 0 else 1):=by
 obtain⟨p,q,rfl⟩:=ac7 hc;have S7:=h.c c hc;obtain⟨r,h1,h2⟩:=S7.head hx;have hyr:y∈r:=by
  grind
 obtain⟨B,A,rfl⟩:=ac7 hyr;have h3:jX f' ((x::B)++(y::A)):=h1;obtain⟨⟨fx,pB⟩,⟨fy,pA⟩⟩:=jX.two.1 h3;have pd:(x::y::(B++A++(p++q).flatten)).Perm (x::y::D):=by
  refine List.Perm.trans ?_ h.p
  grind
 have pD:=(pd.cons_inv).cons_inv;have nd:=pd.nodup_iff.2 hn;have nx:x∉B++A++(p++q).flatten:=fun k=>(acg.1 nd).1 (abC _ k);have ny:y∉B++A++(p++q).flatten:=(acg.1 (acg.1 nd).2).1;have xB:x∉B:=fun k=>nx (by simp[k]);have xA:x∉A:=fun k=>nx (by simp[k]);have yB:y∉B:=fun k=>ny (by simp[k]);have yA:y∉A:=fun k=>ny (by simp[k]);have VT:∀z∈B++A++(p++q).flatten,z∈D:=fun z hz=>pD.mem_iff.1 hz;have cB:∀c∈lA B,jX f c:=fun c hc=>by
  cases B with
  |nil=>simp[lA]at hc
  |cons b B =>
   have hc:c=b::B:=by grind [lA]
   subst hc;have fx:f' x=b:=fx;have bx:b≠x:=fun k=>xB (by simp[k]);refine Path.lz pB (fun k=>yB (nk k)) (fun u hu bw=>?_) (fun u hu heq=>?_)
   ·rw[hf u (VT u (by grind))];unfold ya;have:f' u≠x:=fun k=>by
     rcases pB.step hu with m|m
     ·simp_all
     ·exact bw m
    simp_all
   ·rw[hf u (VT u (by grind))];simp_all [ya,if_neg,if_pos]
 have cA:∀c∈lA A,jX f c:=fun c hc=>by
  cases A with
  |nil=>simp[lA]at hc
  |cons a A =>
   have hc:c=a::A:=by grind [lA]
   subst hc;have fy:f' y=a:=fy;have ay:a≠y:=fun k=>yA (by simp[k]);refine Path.lz pA (fun k=>xA (nk k)) (fun u hu bw=>?_) (fun u hu heq=>?_)
   ·rw[hf u (VT u (by grind))];unfold ya;have:f' u≠y:=fun k=>by
     rcases pA.step hu with m|m
     ·simp_all
     ·exact bw m
    simp_all
   ·rw[hf u (VT u (by grind))];simp_all [ya,if_pos,if_neg]
 have cR:∀c∈p++q,jX f c:=fun c hc=>by
  have hc':c∈p++((x::B)++(y::A))::q:=by
   grind
  have Ek:jX f' c:=h.c c (by grind);refine Ek.congr fun z hz=>?_;have hzf:∀u∈c,u∈(p++q).flatten:=fun u hu=>ac9.2 ⟨c,hc,hu⟩;have hm:=hzf _ (Ek.step hz);rw[hf z (VT z (List.mem_append_right _ (hzf z hz)))];unfold ya;rw[if_neg (fun k=>nx (List.mem_append_right _ (by simp_all))),if_neg (fun k=>ny (List.mem_append_right _ (by simp_all)))]
 refine⟨lA B++(lA A++(p++q)),⟨fun c hc=>?_,?_⟩,?_⟩
 ·grind
 ·grind [List.flatten_append,Ej,List.append_assoc]
 ·have eB:(if f' x=y then 0 else 1)=nz B:=by
   cases B with
   |nil=>exact if_pos fx
   |cons b B=>exact if_neg (fun k=>yB (by simp_all))
  have eA:(if f' y=x then 0 else 1)=nz A:=by
   cases A with
   |nil=>exact if_pos fy
   |cons a A=>exact if_neg (fun k=>xA (by simp_all))
  grind [List.length_append,Hm,List.length_cons]
theorem Hl.VU{f' f:α→α}{x y:α}{D:List α}{cs':List (List α)}{c:List α}(hxy:x≠y)(hn:(x::y::D).Nodup)(h:Hl f' (x::y::D) cs')(hf:∀z∈D,f z=ya f' x y z)(hc:c∈cs')(hx:x∈c)(hy:y∉c) :
  ∃cs,Hl f D cs∧cs.length+2=cs'.length+(if f' x=x∧f' y=y then 0 else 1):=by
 obtain⟨p,q,rfl⟩:=ac7 hc;have S7:=h.c c hc;obtain⟨B,h1,h2⟩:=S7.head hx;have hyc:y∈(p++q).flatten:=by have:y∈(p++c::q).flatten:=h.p.mem_iff.2 (by simp);simp_all
 obtain⟨c2,oV,amd⟩:=ac9.1 hyc;have ame:c2∈p++c::q:=by grind
 obtain⟨A,h3,h4⟩:=(h.c c2 ame).head amd;obtain⟨p2,q2,HV⟩:=ac7 oV;obtain⟨fx,pB⟩:=(show Path f' (x::B) x from h1);obtain⟨fy,pA⟩:=(show Path f' (y::A) y from h3);have pd:(x::y::(B++A++(p2++q2).flatten)).Perm (x::y::D):=by
  refine List.Perm.trans ?_ h.p
  grind [sR,p,c,List.Perm.append_right,List.Perm.append_left,List.append_assoc]
 have pD:=(pd.cons_inv).cons_inv;have nd:=pd.nodup_iff.2 hn;have nx:x∉B++A++(p2++q2).flatten:=fun k=>(acg.1 nd).1 (abC _ k);have ny:y∉B++A++(p2++q2).flatten:=(acg.1 (acg.1 nd).2).1;have xB:x∉B:=fun k=>nx (by simp[k]);have xA:x∉A:=fun k=>nx (by simp[k]);have yB:y∉B:=fun k=>ny (by simp[k]);have yA:y∉A:=fun k=>ny (by simp[k]);have VT:∀z∈B++A++(p2++q2).flatten,z∈D:=fun z hz=>pD.mem_iff.1 hz;have nB:∀u∈B,f' u≠x→f u=f' u:=fun u hu bw=>by
  rw[hf u (VT u (by simp[hu]))];unfold ya;have:f' u≠y:=fun k=>by
   rcases pB.step hu with m|m
   ·simp_all
   ·exact bw m
  simp_all
 have nA:∀u∈A,f' u≠y→f u=f' u:=fun u hu bw=>by
  rw[hf u (VT u (by simp[hu]))];unfold ya;have:f' u≠x:=fun k=>by
   rcases pA.step hu with m|m
   ·simp_all
   ·exact bw m
  simp_all
 have eB:∀u∈B,f' u=x→f u=if f' y=y then f' x else f' y:=fun u hu heq=>by rw[hf u (VT u (by simp[hu]))];unfold ya;simp_all
 have eA:∀u∈A,f' u=y→f u=if f' x=x then f' y else f' x:=fun u hu heq=>by
  rw[hf u (VT u (by simp[hu]))];unfold ya
  grind
 have cBA:∀c∈lA (B++A),jX f c:=fun c hc=>by
  cases B with
  |nil =>
   cases A with
   |nil=>simp[lA]at hc
   |cons a A =>
    have hc:c=a::A:=by grind [lA]
    subst hc;refine Path.lz pA (fun k=>yA (nk k)) nA (fun u hu heq=>?_)
    grind
  |cons b B =>
   have fxb:f' x=b:=fx;have bx:b≠x:=fun k=>xB (by simp[k])
   cases A with
   |nil =>
    have hc:c=b::B:=by grind [lA]
    subst hc;refine Path.lz pB (fun k=>xB (nk k)) nB (fun u hu heq=>?_)
    grind
   |cons a A =>
    have hc:c=(b::B)++(a::A):=by simpa[lA] using hc
    subst hc;have fya:f' y=a:=fy;have ay:a≠y:=fun k=>yA (by simp[k]);refine jX.two.2 ⟨Path.lz pB (fun k=>xB (nk k)) nB (fun u hu heq=>?_),Path.lz pA (fun k=>yA (nk k)) nA (fun u hu heq=>?_)⟩
    ·grind
    grind
 have cR:∀c∈p2++q2,jX f c:=fun c hc=>by
  have XF:c∈p++q:=by grind
  have Ek:jX f' c:=h.c c (by grind);refine Ek.congr fun z hz=>?_;have hzf:∀u∈c,u∈(p2++q2).flatten:=fun u hu=>ac9.2 ⟨c,hc,hu⟩;have hm:=hzf _ (Ek.step hz);rw[hf z (VT z (List.mem_append_right _ (hzf z hz)))];unfold ya;rw[if_neg (fun k=>nx (List.mem_append_right _ (by grind))),if_neg (fun k=>ny (List.mem_append_right _ (by grind)))]
 refine⟨lA (B++A)++(p2++q2),⟨fun c hc=>?_,?_⟩,?_⟩
 ·grind
 ·rw[List.flatten_append,Ej];exact pD
 ·have eBA:(if f' x=x∧f' y=y then 0 else 1)=nz (B++A):=by
   cases B with
   |nil =>
    cases A with
    |nil=>exact if_pos ⟨fx,fy⟩
    |cons a A=>exact if_neg (fun k=>yA (by simp_all))
   |cons b B=>exact if_neg (fun k=>xB (by grind))
  grind [p,List.length_append,Hm,List.length_cons]
end
end Go.Cy
namespace Go.Vs
open Go.Proofs Go.Cy
def skip(x:ae)(s:ae→ae)(z:ae):ae:=if s z=x then s x else s z
def dk(row:List ae)(x:ae):ae:=(dw row x 1).getD zD
theorem pQ{row:List ae}(hn:row.Nodup){i:Nat}{x:ae}(hx:row[i]? = some x):dk row x=(row[(i+1)%row.length]?).getD zD:=by unfold dk dw;rw[if_pos (List.mem_of_getElem? hx),YJ hn hx,Int.toNat_natCast]
theorem Ho{row:List ae}(hn:row.Nodup):∀(r p:List ae),row=p++r→Path (dk row) r (row.head?.getD zD)
 |[],_,_=>trivial
 |x::r,p,h=>by
  refine⟨?_,Ho hn r (p++[x]) (by rw[h];simp)⟩;have hx:row[p.length]? = some x:=by rw[h];simp
  rw[pQ hn hx]
  cases r with
  |nil =>
   have hl:row.length=p.length+1:=by rw[h];simp
   rw[hl,Nat.mod_self];show(row[0]?).getD zD=row.head?.getD zD;rw[List.head?_eq_getElem?]
  |cons y r =>
   have hl:p.length+1<row.length:=by rw[h];simp
   rw[Nat.mod_eq_of_lt hl];have:row[p.length+1]? = some y:=by rw[h];simp
   rw[this];rfl
theorem sS{row:List ae}(hn:row.Nodup)(h0:row≠[]):jX (dk row) row:=by
 have:=Ho hn row [] rfl
 cases row with
 |nil=>simp_all
 |cons x r=>exact this
theorem El{f g:ae→ae}:∀{a:List ae} {z:ae},Path f a z→Path g a z→∀x∈a,f x=g x
 |y::r,z,p,q,x,hx=>by
  rcases abL.1 hx with rfl|hx
  ·exact p.1.trans q.1.symm
  ·exact El p.2 q.2 x hx
theorem Hq{f g:ae→ae}{c:List ae}(h:jX f c)(k:jX g c):∀x∈c,f x=g x:=by
 cases c with
 |nil=>exact h.elim
 |cons y r=>exact El h k
theorem LC{f:ae→ae}{row:List ae}{j:Nat}(h:jX f (E1 row j)):jX f row:=by
 grind [E1,jX.E1,List.take_append_drop]
theorem kI{row:List ae}(hn:row.Nodup){x:ae}(hx:x∈row):dk row x∈row:=(sS hn (adE hx)).step hx
theorem Hr{f:ae→ae}:∀{a:List ae} {z:ae},Path f a z→a≠[]→∃l,l∈a∧f l=z
 |[x],z,p,_=>⟨x,by simp,p.1⟩
 |x::y::r,z,p,_=>by obtain⟨l,h1,h2⟩:=Hr p.2 (by simp);exact⟨l,abC _ h1,h2⟩
theorem RU{row:List ae}(hn:row.Nodup){x y:ae}(hx:x∈row)(hy:y∈row)(h:dk row x=dk row y):x=y:=by
 obtain⟨i,hi⟩:=adj hx;obtain⟨j,hj⟩:=adj hy;have o8:=(abJ.1 hi).1;have Qq:=(abJ.1 hj).1;have hp:0<row.length:=by omega
 rw[pQ hn hi,pQ hn hj,List.getElem?_eq_getElem (Nat.mod_lt _ hp),List.getElem?_eq_getElem (Nat.mod_lt _ hp)]at h;have h2:(i+1)%row.length=(j+1)%row.length:=Hk hn (by simpa using h);have h3:i=j:=by
  by_cases a:i+1<row.length<;>by_cases b:j+1<row.length
  ·grind [Nat.mod_eq_of_lt]
  ·grind [Nat.mod_eq_of_lt,Nat.mod_self]
  ·grind [Nat.mod_eq_of_lt,Nat.mod_self]
  ·omega
 simp_all
theorem RV{row:List ae}(hn:row.Nodup){x z:ae}(hx:x∈row)(hz:z∈row)(hzx:z≠x):dk (iL row x) z=skip x (dk row) z:=by
 obtain⟨A,B,rfl⟩:=ac7 hx;obtain⟨k,hk⟩:=adj hx;have he:(A++x::B).filter (fun e=>decide (e≠x))=A++B:=by
  have hx2:(A++x::B)[A.length]? = some x:=by simp
  rw[zK hn hx2];simp
 have QS:(x::(B++A)).Nodup:=by have p:(A++x::B).Perm (x::(B++A)):=List.perm_middle.trans (List.Perm.cons x List.perm_append_comm);exact p.nodup_iff.1 hn
 have EY:z∈B++A:=by
  rcases acS.1 hz with k|k
  ·exact abV _ k
  ·rcases abL.1 k with k|k
   ·exact absurd k hzx
   ·exact ab1 _ k
 have c1:jX (dk (A++x::B)) (x::(B++A)):=by have:=(sS hn (adE hx)).E1;simpa using this
 obtain⟨fx,pL⟩:=(show Path (dk (A++x::B)) (x::(B++A)) x from c1);have c2:jX (skip x (dk (A++x::B))) (B++A):=by
  generalize hL:B++A=L at *
  cases L with
  |nil=>simp at EY
  |cons l L =>
   have fx:dk (A++x::B) x=l:=fx;have Am:x∉l::L:=(acg.1 QS).1;refine Path.lz pL (fun k=>Am (nk k)) (fun u hu bw=>?_) (fun u hu heq=>?_)
   ·unfold skip;rw[if_neg bw]
   ·unfold skip;rw[if_pos heq,fx]
 have hr:iL (A++x::B) x=cc (A++B):=by unfold iL;rw[he]
 obtain⟨j,hj,hjr⟩:=AX (A++B);have nAB:(A++B).Nodup:=(List.perm_append_comm (l₁:=B) (l₂:=A)).nodup_iff.1 (acg.1 QS).2;have amg:(iL (A++x::B) x).Nodup:=by rw[hr];exact(kB _).nodup_iff.2 nAB
 have hzm:z∈iL (A++x::B) x:=by
  rw[hr,pH];rcases acS.1 EY with k|k
  ·exact abV _ k
  ·exact ab1 _ k
 have c3:jX (dk (iL (A++x::B) x)) (A++B):=by have:=sS amg (adE hzm);generalize dk (iL (A++x::B) x)=g at *;rw[hr,hjr]at this;exact LC this
 exact Hq (jX.E1 c3) c2 z EY
def sg(d:an)(x:ae):ae:=(j9 d x).getD zD
def ph(d:an)(x:ae):ae:=(Jy d x).getD zD
theorem Em{d:an}(h:Rw d.1){v:ai}{x:ae}(hv:v∈d.1)(hx:x∈v.2.1):j9 d x=dw v.2.1 x 1:=by unfold j9 cg;rw[eL h hv hx];show dw (bI d v.1) x 1=_;rw[kD h.s hv]
theorem jY{d:an}(h:Rw d.1){v:ai}{x:ae}(hv:v∈d.1)(hx:x∈v.2.1):sg d x=dk v.2.1 x:=by
 grind [sg,dk,Em]
theorem Ns{d:an}(h:Rw d.1){x:ae}(hx:x∈aq d.1):j9 d x=some (sg d x):=by
 obtain⟨v,hv,oG⟩:=aU.1 hx;have:j9 d x=some (dk v.2.1 x):=by
  rw[Em h hv oG];unfold dk dw;rw[if_pos oG]
  grind [List.length_pos_of_mem,List.getElem?_eq_getElem,Nat.mod_lt]
 grind [jY]
theorem YM{d:an}(h:Rw d.1){x:ae}(hx:x∈aq d.1):sg d x∈aq d.1:=by obtain⟨v,hv,oG⟩:=aU.1 hx;rw[jY h hv oG];exact aU.2 ⟨v,hv,kI (h.ring hv) oG⟩
theorem VV{d:an}(h:Rw d.1){x y:ae}(hx:x∈aq d.1)(hy:y∈aq d.1)(he:sg d x=sg d y):x=y:=by obtain⟨v,hv,oG⟩:=aU.1 hx;obtain⟨w,hw,hyw⟩:=aU.1 hy;rw[jY h hv oG,jY h hw hyw]at he;have h1:=kI (h.ring hv) oG;have h2:=kI (h.ring hw) hyw;rw[←he]at h2;have hwv:=h.one hv hw h1 h2;subst hwv;exact RU (h.ring hw) oG hyw he
theorem qV{d:an}(h:Rw d.1){x z:ae}(hx:x∈aq d.1)(hz:z∈aq (aJ d x).1):sg (aJ d x) z=skip x (sg d) z:=by
 obtain⟨p,q⟩:=fN h hx;obtain⟨v,hv,oG⟩:=aU.1 hx;have hzd:z∈aq d.1:=p.mem_iff.2 (abC _ hz);have hzx:z≠x:=fun k=>(acg.1 (p.nodup_iff.1 h.n)).1 (k▸hz);obtain⟨w,hw,Mj⟩:=aU.1 hz;have hr:=kE h hv oG;have Md:w∈d.1.map (uf v.1 (iL v.2.1 x)):=by rw[hr]at hw;exact hw
 obtain⟨u,hu,hwu⟩:=acU.1 Md;rw[jY q hw Mj];by_cases huv:u.1=v.1
 ·have huv:u=v:=by have h1:=jV h.s hv;have h2:=jV h.s hu;simp_all
  subst huv;have nq:w.2.1=iL u.2.1 x:=by rw[←hwu];unfold uf;simp_all
  rw[nq]at Mj ⊢;have I6:z∈u.2.1:=(uo oG (h.ring hu)).mem_iff.2 (abC _ Mj);rw[RV (h.ring hu) oG I6 hzx]
  grind [skip,jY]
 ·have nq:w=u:=by simp_all [uf,if_neg]
  subst nq;unfold skip;rw[jY h hu Mj,if_neg];intro k;have:=kI (h.ring hu) Mj;rw[k]at this;exact huv (congrArg Prod.fst (h.one hv hu oG this))
theorem LD{d e:an}(h:d.1=e.1)(x:ae):j9 d x=j9 e x:=by obtain⟨a,b⟩:=d;obtain⟨c,f⟩:=e;simp only at h;subst h;rfl
theorem bY{x:ae}(h:x.2=0∨x.2=1):aj (aj x)=x:=by obtain⟨x1,x2⟩:=x;simp only at h;rcases h with rfl|rfl<;>rfl
theorem Wf.side{d:an}(h:Wf d){x:ae}(hx:x∈aq d.1):x.2=0∨x.2=1:=by obtain⟨e,_,_,k⟩:=c7.1 (h.pd.mem_iff.1 hx);exact k
theorem Wf.other{d:an}(h:Wf d){x:ae}(hx:x∈aq d.1):aj x∈aq d.1:=by
 obtain⟨e,he,h1,h2⟩:=c7.1 (h.pd.mem_iff.1 hx);refine h.pd.mem_iff.2 (c7.2 ⟨e,he,h1,?_⟩)
 grind [gX]
theorem En{d:an}{x:ae}(hx:x∈aq d.1):(cg d x).isSome=true:=by
 grind [aU,cg,E2,Option.isSome_map,List.find?_isSome]
theorem jD{d:an}{x:ae}(hx:x∈aq d.1):ph d x=sg d (aj x):=by unfold ph Jy sg;rw[if_pos (En hx)]
theorem LF{d:an}(h:Wf d){x:ae}(hx:x∈aq d.1):Jy d x=some (ph d x):=by rw[jD hx];unfold Jy;rw[if_pos (En hx)];exact Ns h.rw (h.other hx)
theorem VW{d:an}(h:Wf d){x:ae}(hx:x∈aq d.1):ph d x∈aq d.1:=by rw[jD hx];exact YM h.rw (h.other hx)
theorem ab7{d:an}(h:Wf d){x y:ae}(hx:x∈aq d.1)(hy:y∈aq d.1)(he:ph d x=ph d y):x=y:=by rw[jD hx,jD hy]at he;have:=VV h.rw (h.other hx) (h.other hy) he;rw[←bY (h.side hx),←bY (h.side hy),this]
theorem LG{α:Type}[DecidableEq α]:∀{l D:List α},l.Nodup→(∀x∈l,x∈D)→l.length≤D.length
 |[],_,_,_=>adb _
 |x::r,D,hn,hs=>by
  have h1:=acg.1 hn;have hx:=hs x (aco ..);have ih:=LG (l:=r) (D:=D.erase x) h1.2 (fun y hy=>(ad0 (fun k=>h1.1 (by simp_all))).2 (hs y (abC _ hy)))
  grind
theorem VX{d:an}(h:Wf d){out:List ae}{y:ae}(hn:out.Nodup)(hs:∀z∈out,z∈aq d.1)(hp:Path (ph d) out y):y∉out.tail:=fun hy=>by
 cases out with
 |nil=>simp at hy
 |cons x r =>
  have hy:y∈r:=hy;obtain⟨p,q,rfl⟩:=ac7 hy;have key:∀(x:ae) (p:List ae),Path (ph d) (x::(p++y::q)) y→(x::(p++y::q)).Nodup→(∀z∈x::(p++y::q),z∈aq d.1)→False:=by
   intro x p
   induction p generalizing x with
   |nil =>intro hp hn hs;have h1:ph d x=y:=hp.1;obtain⟨l,h2,h3⟩:=Hr hp.2 (by simp);have:=ab7 h (hs x (by simp)) (hs l (abC _ h2)) (h1.trans h3.symm);simp_all
   |cons u p ih =>intro hp hn hs;exact ih u hp.2 (acg.1 hn).2 (fun z hz=>hs z (abC _ hz))
  grind
theorem Wf.LH{d:an}(h:Wf d):(aq d.1).length≤80:=by
 have h2:=h.pd.length_eq;have h3:=h.ne;have:(ends d.2).length=2*d.2.length:=by
  clear h2 h3 h;generalize d.2=l
  induction l with
  |nil=>rfl
  |cons e r ih=>grind [gi]
 omega
theorem Eo{d:an}(h:Wf d)(x:ae):∀(n:Nat) (y:ae) (r:List ae),(x::r).length+n=82→(x::r).Nodup→(∀z∈x::r,z∈aq d.1)→Path (ph d) (x::r) y→y∈aq d.1 → ∃r',sM d x n y (x::r)=x::r'∧(x::r').Nodup∧(∀z∈x::r',z∈aq d.1)∧jX (ph d) (x::r')
 |0,y,r,hl,hn,hs,hp,hy=>by have:=LG hn hs;have:=h.LH;omega
 |n+1,y,r,hl,hn,hs,hp,hy=>by
  unfold sM;by_cases he:y=x
  ·subst he;rw[if_pos rfl];exact⟨r,rfl,hn,hs,hp⟩
  ·rw[if_neg he];have hyr:y∉x::r:=fun k=>by
    rcases abL.1 k with k|k
    ·exact he k
    ·exact VX h hn hs hp k
   have e:(Jy d y).getD zD=ph d y:=rfl;rw[e];refine Eo h x n (ph d y) (r++[y]) (by simp at hl ⊢;omega) ?_ (fun z hz=>?_) ?_ (VW h hy)
   ·show((x::r)++[y]).Nodup;refine ada.2 ⟨hn,by simp,fun a ha b hb=>?_⟩;simp at hb;subst hb;exact fun k=>hyr (k▸ha)
   ·have hz:z∈(x::r)++[y]:=hz;rcases acS.1 hz with k|k
    ·exact hs z k
    ·simp at k;rw[k];exact hy
   ·show Path (ph d) ((x::r)++[y]) (ph d y);exact Path.app.2 ⟨hp,rfl,trivial⟩
theorem Ep{d:an}(h:Wf d){x:ae}(hx:x∈aq d.1):∃r,bq d x=x::r∧(x::r).Nodup∧(∀z∈x::r,z∈aq d.1)∧jX (ph d) (x::r):=by unfold bq;rw[LF h hx];exact Eo h x 81 (ph d x) [] rfl (by simp) (fun z hz=>by simp_all) ⟨rfl,trivial⟩ (VW h hx)
theorem sV{d:an}(h:Wf d):∀(l:List ae) (out:List (List ae)),(∀x∈l,x∈aq d.1)→(∀c∈out,jX (ph d) c)→out.flatten.Nodup→(∀x∈out.flatten,x∈aq d.1) →(∀c∈iY d l out out.flatten,jX (ph d) c)∧(iY d l out out.flatten).flatten.Nodup∧(∀x∈(iY d l out out.flatten).flatten,x∈aq d.1)∧(∀x,x∈l∨x∈out.flatten→x∈(iY d l out out.flatten).flatten)
 |[],out,_,h1,h2,h3=>⟨h1,h2,h3,fun x k=>k.resolve_left (by simp)⟩
 |x::l,out,hl,h1,h2,h3=>by
  unfold iY;by_cases hx:x∈out.flatten
  ·rw[if_pos hx];obtain⟨a,b,c,e⟩:=sV h l out (fun y hy=>hl y (abC _ hy)) h1 h2 h3
   grind
  ·rw[if_neg hx];obtain⟨r,t1,t2,t3,t4⟩:=Ep h (hl x (aco ..));have ef:out.flatten++bq d x=(out++[bq d x]).flatten:=by simp
   rw[ef];have aqn:∀y∈bq d x,y∉out.flatten:=fun y hy k=>by obtain⟨c,hc,hyc⟩:=ac9.1 k;rw[t1]at hy;exact hx (ac9.2 ⟨c,hc,t4.same (h1 c hc) hy hyc (aco ..)⟩)
   obtain⟨a,b,c,e⟩:=sV h l (out++[bq d x]) (fun y hy=>hl y (abC _ hy)) (fun c hc=>by
     grind)
    (by
     grind)
    (fun y hy=>by
     grind)
   grind
theorem lY:∀l:List ak,eV l=ends l
 |[]=>rfl
 |e::r=>by rw[gi,eV,lY r]
theorem bQ{d:an}(h:Wf d):Hl (ph d) (aq d.1) (bV d):=by obtain⟨a,b,c,e⟩:=sV h (eV d.2) [] (fun x hx=>h.pd.mem_iff.2 (by grind [lY])) (by simp) (by simp) (by simp);refine⟨a,(List.perm_ext_iff_of_nodup b h.rw.n).2 fun x=>⟨c x,fun hx=>e x (.inl (by rw[lY];exact h.pd.mem_iff.1 hx))⟩⟩
def c8(d:an)(x:ID):an:=aO (aJ (aJ d (x,0)) (x,1)) zI x
theorem Nt{d:an}(h:Wf d)(x y:ae)(e:ID):(aO (aJ (aJ d x) y) zI e).1=(aJ (aJ d x) y).1:=uq (kF (kF h.gv x) y)
theorem Er(x:ID):aj (x,0)=(x,1):=rfl
theorem VY(x:ID):aj (x,1)=(x,0):=rfl
structure bW(d':an)(x:ID):Prop where
 wf:Wf d'
 e:(aY d'.2 x).isSome=true
theorem bW.x0{d':an}{x:ID}(h:bW d' x):(x,0)∈aq d'.1:=h.wf.kH h.e (.inl rfl)
theorem bW.x1{d':an}{x:ID}(h:bW d' x):(x,1)∈aq d'.1:=h.wf.kH h.e (.inr rfl)
theorem bW.p1{d':an}{x:ID}(h:bW d' x):(aq d'.1).Perm ((x,0)::aq (aJ d' (x,0)).1)∧Rw (aJ d' (x,0)).1:=fN h.wf.rw h.x0
theorem bW.x1'{d':an}{x:ID}(h:bW d' x):(x,1)∈aq (aJ d' (x,0)).1:=by
 rcases abL.1 (h.p1.1.mem_iff.1 h.x1) with k|k
 ·cases k
 ·exact k
theorem bW.p2{d':an}{x:ID}(h:bW d' x):(aq (aJ d' (x,0)).1).Perm ((x,1)::aq (aJ (aJ d' (x,0)) (x,1)).1)∧Rw (aJ (aJ d' (x,0)) (x,1)).1:=fN h.p1.2 h.x1'
theorem bW.v{d':an}{x:ID}(h:bW d' x):(c8 d' x).1=(aJ (aJ d' (x,0)) (x,1)).1:=Nt h.wf _ _ _
theorem bW.w{d':an}{x:ID}(h:bW d' x):Wf (c8 d' x):=h.wf.cut h.e
theorem bW.p{d':an}{x:ID}(h:bW d' x):(aq d'.1).Perm ((x,0)::(x,1)::aq (c8 d' x).1):=by rw[h.v];exact h.p1.1.trans (List.Perm.cons _ h.p2.1)
theorem bW.sg{d':an}{x:ID}(h:bW d' x){z:ae}(hz:z∈aq (c8 d' x).1):sg (c8 d' x) z=skip (x,1) (skip (x,0) (sg d')) z:=by
 have e1:Vs.sg (c8 d' x) z=Vs.sg (aJ (aJ d' (x,0)) (x,1)) z:=by unfold Vs.sg;rw[LD h.v]
 rw[h.v]at hz;have Ai:z∈aq (aJ d' (x,0)).1:=h.p2.1.mem_iff.2 (abC _ hz);rw[e1,qV h.p1.2 h.x1' hz];unfold skip;rw[qV h.wf.rw h.x0 Ai,qV h.wf.rw h.x0 h.x1'];rfl
theorem bW.ph{d':an}{x:ID}(h:bW d' x){z:ae}(hz:z∈aq (c8 d' x).1):ph (c8 d' x) z=ya (ph d') (x,0) (x,1) z:=by
 have Cf:z∈aq d'.1:=h.p.mem_iff.2 (abC _ (abC _ hz));have ho:=h.w.other hz;have rK:aj z∈aq d'.1:=h.p.mem_iff.2 (abC _ (abC _ ho));have nd:=h.p.nodup_iff.1 h.wf.rw.n;have Oi:aj z≠(x,1):=fun k=>(acg.1 (acg.1 nd).2).1 (k▸ho);rw[jD hz,h.sg ho];unfold ya;rw[jD Cf,jD h.x0,jD h.x1,Er,VY];generalize hW:aj z=w at *;have inj:Vs.sg d' (x,1)=(x,0)→Vs.sg d' w≠(x,0):=fun k1 k2=>Oi (VV h.wf.rw rK h.x1 (k2.trans k1.symm));unfold skip
 grind
def al(l:List ai):Nat:=l.countP fun v=>v.2.1.isEmpty
theorem Hs{row:List ae}(hn:row.Nodup){x:ae}(hx:x∈row):dk row x=x↔row.length=1:=by
 obtain⟨i,hi⟩:=adj hx;have o8:=(abJ.1 hi).1;have hp:0<row.length:=by omega
 rw[pQ hn hi,List.getElem?_eq_getElem (Nat.mod_lt _ hp)];constructor
 ·intro h;have h1:row[(i+1)%row.length]? = some x:=by grind
  have h2:=zN hn h1 hi;by_cases c:i+1<row.length
  ·grind [Nat.mod_eq_of_lt]
  grind [Nat.mod_self]
 grind
theorem Es{d:an}(h:Rw d.1){x:ae}(hx:x∈aq d.1):al (aJ d x).1=al d.1+if sg d x=x then 1 else 0:=by
 obtain⟨v,hv,oG⟩:=aU.1 hx;obtain⟨a,b,h1,_,_,h2⟩:=nj h.s hv;have e1:(aJ d x).1=a++(v.1,(iL v.2.1 x,v.2.2))::b:=by rw[kE h hv oG];exact h2 _
 have p:=uo oG (h.ring hv);have hl:=p.length_eq;have v0:v.2.1.isEmpty=false:=by
  grind
 have v1:(iL v.2.1 x).isEmpty=decide (sg d x=x):=by rw[Bool.eq_iff_iff,List.isEmpty_iff,decide_eq_true_eq,jY h hv oG,Hs (h.ring hv) oG,←List.length_eq_zero_iff];simp_all
 rw[e1]
 conv=>rhs;rw[h1]
 unfold al;rw[List.countP_append,List.countP_append,List.countP_cons,List.countP_cons];simp only[v0,v1]
 grind
def ft(d:an):Nat:=(bV d).length+al d.1
def Nu(d:an)(x y:ae):Prop:=∃c∈bV d,x∈c∧y∈c
theorem bW.al{d':an}{x:ID}(h:bW d' x):Vs.al (c8 d' x).1=Vs.al d'.1+(if Vs.ph d' (x,1)=(x,0) then 1 else 0)+(if Vs.ph d' (x,0)=(x,1)∨(Vs.ph d' (x,0)=(x,0)∧Vs.ph d' (x,1)=(x,1)) then 1 else 0):=by
 rw[h.v,Es h.p1.2 h.x1',Es h.wf.rw h.x0];have e0:Vs.ph d' (x,0)=Vs.sg d' (x,1):=jD h.x0;have e1:Vs.ph d' (x,1)=Vs.sg d' (x,0):=jD h.x1;rw[e0,e1,qV h.wf.rw h.x0 h.x1'];unfold skip
 grind
theorem agk(x:ID):((x,0):ae)≠(x,1):=fun k=>by cases k
theorem bW.same{d':an}{x:ID}(h:bW d' x)(hf:Nu d' (x,0) (x,1)):ft (c8 d' x)=ft d'+1∧(bV (c8 d' x)).length+1=(bV d').length+(if Vs.ph d' (x,0)=(x,1) then 0 else 1)+(if Vs.ph d' (x,1)=(x,0) then 0 else 1):=by
 obtain⟨c,hc,h0,h1⟩:=hf;have nd:=h.p.nodup_iff.1 h.wf.rw.n;have dec:Hl (Vs.ph d') ((x,0)::(x,1)::aq (c8 d' x).1) (bV d'):=⟨(bQ h.wf).c,(bQ h.wf).p.trans h.p⟩;obtain⟨cs,k1,k2⟩:=Hl.VS (agk x) nd dec (fun z hz=>h.ph hz) hc h0 h1;have k3:=Hl.count (h.w.rw.n) (bQ h.w) k1;have k4:=h.al;have Ek:=(bQ h.wf).c c hc;have n0:¬(Vs.ph d' (x,0)=(x,0)):=fun k=>by
  obtain⟨n,hn⟩:=Ek.reach h0 h1;have:∀n,it (Vs.ph d') n (x,0)=(x,0):=fun n=>by
   induction n with
   |zero=>rfl
   |succ n ih=>grind [it,Vs.ph]
  simp_all
 refine⟨?_,by omega⟩;unfold ft
 grind
theorem bW.diff{d':an}{x:ID}(h:bW d' x)(hf:¬Nu d' (x,0) (x,1)):ft (c8 d' x)+1=ft d':=by
 have hm:(x,0)∈(bV d').flatten:=(bQ h.wf).p.mem_iff.2 h.x0;obtain⟨c,hc,h0⟩:=ac9.1 hm;have h1:(x,1)∉c:=fun k=>hf ⟨c,hc,h0,k⟩;have nd:=h.p.nodup_iff.1 h.wf.rw.n;have dec:Hl (Vs.ph d') ((x,0)::(x,1)::aq (c8 d' x).1) (bV d'):=⟨(bQ h.wf).c,(bQ h.wf).p.trans h.p⟩;obtain⟨cs,k1,k2⟩:=Hl.VU (agk x) nd dec (fun z hz=>h.ph hz) hc h0 h1;have k3:=Hl.count (h.w.rw.n) (bQ h.w) k1;have k4:=h.al;have Ek:=(bQ h.wf).c c hc;have n0:¬(Vs.ph d' (x,0)=(x,1)):=fun k=>h1 (k▸Ek.step h0);have n1:¬(Vs.ph d' (x,1)=(x,0)):=fun k=>by have Sq:(x,1)∈(bV d').flatten:=(bQ h.wf).p.mem_iff.2 h.x1;obtain⟨c2,oV,h2⟩:=ac9.1 Sq;have:=((bQ h.wf).c c2 oV).step h2;rw[k]at this;exact hf ⟨c2,oV,this,h2⟩
 unfold ft
 grind
def AZ(d:an)(a b:ID):Prop:=∃z∈aq d.1,cg d z=some a∧cg d (aj z)=some b
inductive cv (d:an):ID→ID→Prop
 |refl (a:ID):cv d a a
 |tail {a b c:ID}:cv d a b→AZ d b c→cv d a c
theorem cv.trans{d:an}{a b c:ID}(h:cv d a b)(k:cv d b c):cv d a c:=by
 induction k with
 |refl=>exact h
 |tail _ j ih=>exact ih.tail j
theorem AZ.symm{d:an}(hw:Wf d){a b:ID}(h:AZ d a b):AZ d b a:=by obtain⟨z,hz,h1,h2⟩:=h;exact⟨aj z,hw.other hz,h2,by rw[bY (hw.side hz)];exact h1⟩
theorem AZ.conn{d:an}{a b:ID}(h:AZ d a b):cv d a b:=(cv.refl a).tail h
theorem cv.symm{d:an}(hw:Wf d){a b:ID}(h:cv d a b):cv d b a:=by
 induction h with
 |refl=>exact .refl _
 |tail _ j ih=>exact(j.symm hw).conn.trans ih
structure ox(d:an)(R:List ID):Prop where
 n:R.Nodup
 v:∀r∈R,∃v∈d.1,v.1=r
 i:∀r∈R,∀s∈R,cv d r s→r=s
 c:∀v∈d.1,∃r∈R,cv d v.1 r
theorem I7{d:an}(hw:Wf d):∀{R R':List ID},R.Nodup→(∀r∈R,∀s∈R,cv d r s→r=s)→(∀r∈R,∃s∈R',cv d r s)→R.length≤R'.length
 |[],_,_,_,_=>adb _
 |r::R,R',hn,hi,hc=>by
  obtain⟨s,hs,hrs⟩:=hc r (aco ..);have h1:=acg.1 hn;have ih:=I7 hw (R:=R) (R':=R'.erase s) h1.2 (fun a ha b hb=>hi a (abC _ ha) b (abC _ hb)) (fun a ha=>by obtain⟨t,ht,A7⟩:=hc a (abC _ ha);refine⟨t,(ad0 (fun k=>?_)).2 ht,A7⟩;subst k;have:=hi a (abC _ ha) r (aco ..) (A7.trans (hrs.symm hw));simp_all)
  grind
theorem ox.len{d:an}(hw:Wf d){R R':List ID}(h:ox d R)(h':ox d R'):R.length=R'.length:=by
 refine Nat.le_antisymm (I7 hw h.n h.i fun r hr=>?_) (I7 hw h'.n h'.i fun r hr=>?_)
 ·obtain⟨v,hv,rfl⟩:=h.v r hr;exact h'.c v hv
 ·obtain⟨v,hv,rfl⟩:=h'.v r hr;exact h.c v hv
theorem sW{d:an}(hw:Wf d){z:ae}(hz:z∈aq d.1):∃v∈d.1,z∈v.2.1∧cg d z=some v.1:=by obtain⟨v,hv,hzv⟩:=aU.1 hz;exact⟨v,hv,hzv,eL hw.rw hv hzv⟩
theorem Et{d:an}(h:Rw d.1){x z:ae}(hx:x∈aq d.1)(hz:z∈aq (aJ d x).1):cg (aJ d x) z=cg d z:=by
 obtain⟨p,q⟩:=fN h hx;obtain⟨v,hv,oG⟩:=aU.1 hx;obtain⟨w,hw,Mj⟩:=aU.1 hz;have hr:=kE h hv oG;have Md:w∈d.1.map (uf v.1 (iL v.2.1 x)):=by rw[hr]at hw;exact hw
 obtain⟨u,hu,hwu⟩:=acU.1 Md;have bM:w.1=u.1:=by grind [sN]
 have I6:z∈u.2.1:=by
  by_cases huv:u.1=v.1
  ·have huv:u=v:=by have h1:=jV h.s hv;have h2:=jV h.s hu;simp_all
   subst huv;have nq:w.2.1=iL u.2.1 x:=by rw[←hwu];unfold uf;simp_all
   rw[nq]at Mj;exact(uo oG (h.ring hu)).mem_iff.2 (abC _ Mj)
  simp_all [uf,if_neg]
 show E2 (aJ d x).1 z=E2 d.1 z
 grind [eL]
theorem bW.at{d':an}{x:ID}(h:bW d' x){z:ae}(hz:z∈aq (c8 d' x).1):cg (c8 d' x) z=cg d' z:=by
 have e:cg (c8 d' x) z=cg (aJ (aJ d' (x,0)) (x,1)) z:=by unfold cg;rw[h.v]
 rw[h.v]at hz;have Ai:z∈aq (aJ d' (x,0)).1:=h.p2.1.mem_iff.2 (abC _ hz);rw[e,Et h.p1.2 h.x1' hz,Et h.wf.rw h.x0 Ai]
theorem bW.sub{d':an}{x:ID}(h:bW d' x){z:ae}(hz:z∈aq (c8 d' x).1):z∈aq d'.1:=h.p.mem_iff.2 (abC _ (abC _ hz))
theorem bW.YN{d':an}{x:ID}(h:bW d' x){a b:ID}(k:AZ (c8 d' x) a b):AZ d' a b:=by obtain⟨z,hz,h1,h2⟩:=k;exact⟨z,h.sub hz,by rw[←h.at hz];exact h1,by rw[←h.at (h.w.other hz)];exact h2⟩
theorem bW.conn{d':an}{x:ID}(h:bW d' x){a b:ID}(k:cv (c8 d' x) a b):cv d' a b:=by
 induction k with
 |refl=>exact .refl _
 |tail _ j ih=>exact ih.tail (h.YN j)
theorem bW.amk{d':an}{x u w:ID}(h:bW d' x)(hu:cg d' (x,0)=some u)(hw:cg d' (x,1)=some w){a b:ID}(k:AZ d' a b):AZ (c8 d' x) a b∨(a=u∧b=w)∨(a=w∧b=u):=by
 obtain⟨z,hz,h1,h2⟩:=k;rcases abL.1 (h.p.mem_iff.1 hz) with rfl|EY
 ·rw[Er]at h2;rw[hu]at h1;rw[hw]at h2
  cases h1;cases h2
  exact .inr (.inl ⟨rfl,rfl⟩)
 rcases abL.1 EY with rfl|Qi
 ·rw[VY]at h2;rw[hw]at h1;rw[hu]at h2
  cases h1;cases h2
  exact .inr (.inr ⟨rfl,rfl⟩)
 ·exact .inl ⟨z,Qi,by rw[h.at Qi];exact h1,by rw[h.at (h.w.other Qi)];exact h2⟩
theorem bW.VZ{d':an}{x u w:ID}(h:bW d' x)(hu:cg d' (x,0)=some u)(hw:cg d' (x,1)=some w){a b:ID}(k:cv d' a b) :
  cv (c8 d' x) a b∨(cv (c8 d' x) a u∧cv (c8 d' x) w b)∨(cv (c8 d' x) a w∧cv (c8 d' x) u b):=by
 induction k with
 |refl=>exact .inl (.refl _)
 |tail _ j ih =>
  rcases h.amk hu hw j with j|⟨rfl,rfl⟩|⟨rfl,rfl⟩
  ·rcases ih with k|⟨k,m⟩|⟨k,m⟩
   ·exact .inl (k.tail j)
   ·exact .inr (.inl ⟨k,m.tail j⟩)
   ·exact .inr (.inr ⟨k,m.tail j⟩)
  ·rcases ih with k|⟨k,m⟩|⟨k,m⟩
   ·exact .inr (.inl ⟨k,.refl _⟩)
   ·exact .inr (.inl ⟨k,.refl _⟩)
   simp_all
  ·rcases ih with k|⟨k,m⟩|⟨k,m⟩
   ·exact .inr (.inr ⟨k,.refl _⟩)
   ·exact .inl k
   ·exact .inr (.inr ⟨k,.refl _⟩)
theorem bW.ids{d':an}{x:ID}(h:bW d' x):(c8 d' x).1.map (·.1)=d'.1.map (·.1):=by rw[h.v];unfold aJ Vs.cp;simp only[List.map_map];simp_all [List.map_congr_left,v,Function.comp,sN]
theorem bW.I8{d':an}{x:ID}(h:bW d' x){r:ID}:(∃v∈(c8 d' x).1,v.1=r)↔∃v∈d'.1,v.1=r:=by
 have e:∀l:List ai,(∃v∈l,v.1=r)↔r∈l.map (·.1):=fun l=>by simp_all
 rw[e,e,h.ids]
theorem bW.FA{d':an}{x u w:ID}(h:bW d' x)(hu:cg d' (x,0)=some u)(hw:cg d' (x,1)=some w)(k:cv (c8 d' x) u w){R:List ID}(hr:ox d' R):ox (c8 d' x) R:=by
 have key:∀{a b:ID},cv d' a b→cv (c8 d' x) a b:=fun {a b} m=>by
  rcases h.VZ hu hw m with m|⟨m,q⟩|⟨m,q⟩
  ·exact m
  ·exact(m.trans k).trans q
  ·exact(m.trans (k.symm h.w)).trans q
 refine⟨hr.n,fun r uN=>h.I8.2 (hr.v r uN),fun r uN s hs m=>hr.i r uN s hs (h.conn m),fun v hv=>?_⟩;obtain⟨v',Bv,he⟩:=h.I8.1 ⟨v,hv,rfl⟩;obtain⟨r,h1,h2⟩:=hr.c v' Bv
 grind
theorem bW.I9{d':an}{x:ID}(h:bW d' x):∃u w,cg d' (x,0)=some u∧cg d' (x,1)=some w∧(∃v∈d'.1,v.1=u)∧∃v∈d'.1,v.1=w:=by
 obtain⟨v,hv,_,h1⟩:=sW h.wf h.x0;obtain⟨v2,Bu,_,h2⟩:=sW h.wf h.x1
 grind
theorem bW.V5{d':an}{x u w:ID}(h:bW d' x)(hu:cg d' (x,0)=some u)(hw:cg d' (x,1)=some w)(k:¬cv (c8 d' x) u w){R:List ID}(hr:ox d' R):∃R2,ox (c8 d' x) R2∧R2.length=R.length+1:=by
 have uv:∃v∈d'.1,v.1=u:=by
  obtain⟨v,hv,_,h1⟩:=sW h.wf h.x0
  grind
 have wv:∃v∈d'.1,v.1=w:=by
  obtain⟨v,hv,_,h1⟩:=sW h.wf h.x1
  grind
 have uw:cv d' u w:=AZ.conn ⟨(x,0),h.x0,hu,by grind [Er]⟩;obtain⟨v0,ZC,hvu⟩:=uv;obtain⟨r,uN,hur⟩:=hr.c v0 ZC;rw[hvu]at hur;have sep:∀s∈R.erase r,s∈R∧¬cv d' s u∧¬cv d' s w:=fun s hs=>by
  have h1:=adW hs;have h2:s≠r:=fun e=>by subst e;exact absurd hs (List.Nodup.not_mem_erase hr.n)
  exact⟨h1,fun m=>h2 (hr.i s h1 r uN (m.trans hur)),fun m=>h2 (hr.i s h1 r uN ((m.trans (uw.symm h.wf)).trans hur))⟩
 refine⟨u::w::R.erase r,⟨?_,?_,?_,?_⟩,?_⟩
 ·refine acg.2 ⟨fun m=>?_,acg.2 ⟨fun m=>(sep w m).2.2 (.refl _),hr.n.erase r⟩⟩;rcases abL.1 m with m|m
  ·exact k (m▸.refl _)
  simp_all
 ·intro s hs;rcases abL.1 hs with rfl|hs
  ·exact h.I8.2 ⟨v0,ZC,hvu⟩
  rcases abL.1 hs with rfl|hs
  ·exact h.I8.2 wv
  ·exact h.I8.2 (hr.v s (sep s hs).1)
 ·intro a ha b hb m;rcases abL.1 ha with ea|ha
  ·rcases abL.1 hb with eb|hb
   ·rw[ea,eb]
   rcases abL.1 hb with eb|hb
   ·simp_all
   ·exact absurd ((h.conn (ea▸m)).symm h.wf) (sep b hb).2.1
  rcases abL.1 ha with ea|ha
  ·rcases abL.1 hb with eb|hb
   ·exact absurd ((ea▸eb▸m).symm h.w) k
   rcases abL.1 hb with eb|hb
   ·rw[ea,eb]
   ·exact absurd ((h.conn (ea▸m)).symm h.wf) (sep b hb).2.2
  ·rcases abL.1 hb with eb|hb
   ·exact absurd (eb▸h.conn m) (sep a ha).2.1
   rcases abL.1 hb with eb|hb
   ·exact absurd (eb▸h.conn m) (sep a ha).2.2
   ·exact hr.i a (sep a ha).1 b (sep b hb).1 (h.conn m)
 ·intro v hv;obtain⟨v',Bv,he⟩:=h.I8.1 ⟨v,hv,rfl⟩;obtain⟨s,h1,h2⟩:=hr.c v' Bv;rw[he]at h2;by_cases hsr:s=r
  ·subst hsr;rcases h.VZ hu hw (h2.trans (hur.symm h.wf)) with m|⟨m,_⟩|⟨m,_⟩
   ·simp_all
   ·simp_all
   simp_all
  ·have hse:s∈R.erase r:=(ad0 hsr).2 h1;rcases h.VZ hu hw h2 with m|⟨_,q⟩|⟨_,q⟩
   ·grind
   ·simp_all
   simp_all
 grind
theorem bW.Ht{d':an}{x u w:ID}(h:bW d' x)(hu:cg d' (x,0)=some u)(hw:cg d' (x,1)=some w)(hf:¬Nu d' (x,0) (x,1)):cv (c8 d' x) u w:=by
 have hm:(x,0)∈(bV d').flatten:=(bQ h.wf).p.mem_iff.2 h.x0;obtain⟨c,hc,h0⟩:=ac9.1 hm;have h1:(x,1)∉c:=fun k=>hf ⟨c,hc,h0,k⟩;have Ek:=(bQ h.wf).c c hc;obtain⟨B,k1,k2⟩:=Ek.head h0;have hcd:∀z∈c,z∈aq d'.1:=fun z hz=>(bQ h.wf).p.mem_iff.1 (ac9.2 ⟨c,hc,hz⟩);have cn:c.Nodup:=by
  obtain⟨p,q,e⟩:=ac7 hc;have:=(bQ h.wf).p.nodup_iff.2 h.wf.rw.n
  grind
 have bn:=k2.nodup_iff.2 cn;have aml:∀z∈aq d'.1,cg d' (Vs.ph d' z)=cg d' (aj z):=fun z hz=>by have ho:=h.wf.other hz;obtain⟨v,hv,hzv⟩:=aU.1 ho;rw[jD hz,jY h.wf.rw hv hzv];show E2 d'.1 _=E2 d'.1 _;rw[eL h.wf.rw hv (kI (h.wf.rw.ring hv) hzv),eL h.wf.rw hv hzv]
 have inC:∀z∈B,z∈aq (c8 d' x).1:=fun z hz=>by
  have hzc:z∈c:=k2.mem_iff.1 (abC _ hz);rcases abL.1 (h.p.mem_iff.1 (hcd z hzc)) with e|e
  ·simp_all
  grind
 have walk:∀(B:List ae) (a e:ID) (z:ae),(∀y∈B,y∈aq (c8 d' x).1)→Path (Vs.ph d') B z→cg d' z=some e→(∀y,B.head? = some y→cg d' y=some a)→(B=[]→a=e)→cv (c8 d' x) a e:=by
  intro B
  induction B with
  |nil=>intro a e z _ _ _ _ h5;rw[h5 rfl];exact .refl _
  |cons y r ih =>
   intro a e z hB hp hz ha _;have hy:=hB y (by simp);have hyd:=h.sub hy;obtain⟨v,hv,XK,A7⟩:=sW h.wf (h.wf.other hyd);have YN:AZ (c8 d' x) a v.1:=⟨y,hy,by rw[h.at hy];exact ha y rfl,by rw[h.at (h.w.other hy)];exact A7⟩;have lL:cg d' (r.head?.getD z)=some v.1:=by rw[←show Vs.ph d' y=r.head?.getD z from hp.1,aml y hyd];exact A7
   refine YN.conn.trans (ih v.1 e z (fun q hq=>hB q (abC _ hq)) hp.2 hz (fun q hq=>?_) (fun hr=>?_))
   ·simp_all
   simp_all
 obtain⟨fx,pB⟩:=(show Path (Vs.ph d') ((x,0)::B) (x,0) from k1);have amm:cg d' (B.head?.getD (x,0))=some w:=by
  grind [Er]
 refine(walk B w u (x,0) inC pB hu (fun y hy=>by simp_all) (fun hB=>?_)).symm h.w;simp_all
theorem LI{d:an}(h:aq d.1=[]){a b:ID}(k:cv d a b):a=b:=by
 induction k with
 |refl=>rfl
 |tail _ j _=>obtain⟨z,hz,_⟩:=j;simp_all
theorem bZ.ids{l:List ai}(h:bZ l):(l.map (·.1)).Nodup:=by unfold List.Nodup;rw[List.pairwise_map];exact h.imp fun {a b} k e=>by grind [b6]
theorem Pj:∀(n:Nat) (d:an),Wf d→d.2.length=n→∀R,ox d R→∃k,d.1.length+ft d+2*k=2*R.length+d.2.length
 |0,d,hw,hl,R,hr=>by
  have he:d.2=[]:=by simpa using hl
  have hd:aq d.1=[]:=by have:=hw.pd;rw[he]at this;exact List.perm_nil.1 this
  have abo:ox d (d.1.map (·.1)):=⟨hw.sv.ids,fun r hr=>by simp_all,fun r _ s _ k=>LI hd k,fun v hv=>⟨v.1,acU.2 ⟨v,hv,rfl⟩,.refl _⟩⟩;have hlen:=hr.len hw abo;have hf:bV d=[]:=by unfold bV;rw[he];rfl
  have ha:al d.1=d.1.length:=by
   unfold al;rw[List.countP_eq_length];intro v hv;rw[List.isEmpty_iff]
   cases hq:v.2.1 with
   |nil=>rfl
   |cons y r =>have:y∈aq d.1:=aU.2 ⟨v,hv,by rw[hq];simp⟩;simp_all
  refine⟨0,?_⟩
  grind [ft]
 |n+1,d,hw,hl,R,hr=>by
  obtain⟨e,r,he⟩:∃e r,d.2=e::r:=by
   cases hq:d.2 with
   |nil=>simp_all
   |cons e r=>simp_all
  have hc:bW d e.1:=⟨hw,by grind [aY]⟩;obtain⟨u,w,hu,hwt,_,_⟩:=hc.I9;have hv:(c8 d e.1).1.length=d.1.length:=by have:=congrArg List.length hc.ids;simp_all
  have yn:(c8 d e.1).2.length=n:=by
   have h1:=hc.w.pd.length_eq;have h2:=hw.pd.length_eq;have h3:=hc.p.length_eq;have e2:∀l:List ak,(ends l).length=2*l.length:=fun l=>by
    induction l with
    |nil=>rfl
    |cons e r ih=>grind [gi]
   grind
  by_cases hf:Nu d (e.1,0) (e.1,1)
  ·have h1:=(hc.same hf).1;by_cases k:cv (c8 d e.1) u w
   ·obtain⟨g,hg⟩:=Pj n (c8 d e.1) hc.w yn R (hc.FA hu hwt k hr);exact⟨g+1,by omega⟩
   ·obtain⟨R2,h2,h3⟩:=hc.V5 hu hwt k hr;obtain⟨g,hg⟩:=Pj n (c8 d e.1) hc.w yn R2 h2
    grind
  ·have h1:=hc.diff hf;obtain⟨g,hg⟩:=Pj n (c8 d e.1) hc.w yn R (hc.FA hu hwt (hc.Ht hu hwt hf) hr)
   grind
def cQ(d:an)(i:Nat):ID:=((d.1[i]?).getD zV).1
theorem qW{d:an}{i:Nat}{v:ai}(h:d.1[i]? = some v):cQ d i=v.1:=by grind [cQ]
theorem jZ{d:an}(hs:bZ d.1){i j:Nat}(hi:i<d.1.length)(hj:j<d.1.length)(h:cQ d i=cQ d j):i=j:=by have h1:=aby hi;have h2:=aby hj;rw[qW h1,qW h2]at h;rw[kA hs h1 rfl,kA hs h2 rfl,h]
theorem V6{x:ID}:∀{l:List ai} {i:Nat} {v:ai} (k:Int),l[i]? = some v→v.1=x→(∀j u,j<i→l[j]? = some u→u.1≠x)→BR x l k=k+i
 |w::r,0,v,k,h,hv,_=>by simp_all [BR,if_pos]
 |w::r,i+1,v,k,h,hv,hn=>by have h0:=hn 0 w (by omega) (by simp);rw[BR,if_neg h0,V6 (i:=i) (v:=v) (k+1) (by simpa using h) hv (fun j u hj hu=>hn (j+1) u (by omega) (by simpa using hu))];omega
theorem V7{d:an}(hs:bZ d.1){i:Nat}(hi:i<d.1.length):BR (cQ d i) d.1 0=(i:Int):=by
 grind [List.getElem?_eq_getElem,V6,cQ,qW,jZ,trans]
theorem Nv{d:an}(hw:Wf d){z:ae}(hz:z∈aq d.1):∃i,i<d.1.length∧cg d z=some (cQ d i):=by
 obtain⟨v,hv,_,h⟩:=sW hw hz;obtain⟨i,hi,he⟩:=adv hv;refine⟨i,hi,?_⟩
 grind [qW,List.getElem?_eq_getElem]
structure Ja(d:an)(L:List Int):Prop where
 n:L.length=d.1.length
 i:∀i,i<d.1.length→∃j:Nat,j≤i∧L.getD i 0=(j:Int)∧cv d (cQ d i) (cQ d j)
def gu(d:an)(L:List Int)(i:Nat):Prop:=∀j,j<d.1.length→cv d (cQ d i) (cQ d j)→L.getD i 0≤(j:Int)
structure LJ(d:an)(L:List Int):Prop where
 l:Ja d L
 r:∀i,i<d.1.length→gu d L i
def FB(a b:Nat)(L:List Int):List Int:=(L.set a (min (L.getD a 0) (L.getD b 0))).set b (min (L.getD a 0) (L.getD b 0))
theorem V8{L:List Int}{a b:Nat}(ha:a<L.length)(hb:b<L.length)(i:Nat):(FB a b L).getD i 0=if i=a∨i=b then min (L.getD a 0) (L.getD b 0) else L.getD i 0:=by
 unfold FB
 grind
theorem RW{d:an}(hw:Wf d){L:List Int}(h:Ja d L){a b:Nat}(ha:a<d.1.length)(hb:b<d.1.length)(rm:cv d (cQ d a) (cQ d b)):Ja d (FB a b L)∧(∀i,i<d.1.length→gu d L i→gu d (FB a b L) i)∧(gu d L a→gu d (FB a b L) b)∧(gu d L b→gu d (FB a b L) a):=by
 have So:a<L.length:=by rw[h.n];exact ha
 have yV:b<L.length:=by rw[h.n];exact hb
 have gl:=V8 So yV;obtain⟨ja,a1,a2,a3⟩:=h.i a ha;obtain⟨jb,b1,b2,b3⟩:=h.i b hb;have hba:=rm.symm hw;refine⟨⟨by unfold FB;simp[h.n],fun i hi=>?_⟩,fun i hi hr j hj hc=>?_,fun hr j hj hc=>?_,fun hr j hj hc=>?_⟩
 ·rw[gl];by_cases YO:i=a∨i=b
  ·rw[if_pos YO];have conn:cv d (cQ d i) (cQ d a)∧cv d (cQ d i) (cQ d b):=by
    rcases YO with rfl|rfl
    ·exact⟨.refl _,rm⟩
    ·exact⟨hba,.refl _⟩
   by_cases hle:L.getD a 0≤L.getD b 0
   ·refine⟨ja,?_,by omega,conn.1.trans a3⟩;omega
   ·refine⟨jb,?_,by omega,conn.2.trans b3⟩;omega
  ·rw[if_neg YO];exact h.i i hi
 ·rw[gl]
  split
  ·rename_i YO;have:=hr j hj hc
   grind
  ·exact hr j hj hc
 ·rw[gl,if_pos (.inr rfl)];have:=hr j hj (rm.trans hc);omega
 ·rw[gl,if_pos (.inl rfl)];have:=hr j hj (hba.trans hc);omega
theorem ab8{d:an}(hw:Wf d){e:ak}(he:e∈d.2)(L:List Int):∃a b,a<d.1.length∧b<d.1.length∧cg d (e.1,0)=some (cQ d a)∧cg d (e.1,1)=some (cQ d b)∧IV d e L=FB a b L:=by have h0:(e.1,0)∈aq d.1:=hw.pd.mem_iff.2 (c7.2 ⟨e,he,rfl,.inl rfl⟩);have h1:(e.1,1)∈aq d.1:=hw.pd.mem_iff.2 (c7.2 ⟨e,he,rfl,.inr rfl⟩);obtain⟨a,ha,ea⟩:=Nv hw h0;obtain⟨b,hb,eb⟩:=Nv hw h1;refine⟨a,b,ha,hb,ea,eb,?_⟩;unfold IV FB;rw[ea,eb];simp only[Option.getD_some,V7 hw.sv ha,V7 hw.sv hb,Int.toNat_natCast];rfl
theorem wh{d:an}(hw:Wf d):∀(l:List ak) {L:List Int},(∀e∈l,e∈d.2)→Ja d L→Ja d (kb d l L)∧(∀i,i<d.1.length→gu d L i→gu d (kb d l L) i) ∧(∀e∈l,∀a b,a<d.1.length→b<d.1.length→((cg d (e.1,0)=some (cQ d a)∧cg d (e.1,1)=some (cQ d b))∨(cg d (e.1,0)=some (cQ d b)∧cg d (e.1,1)=some (cQ d a)))→gu d L a→gu d (kb d l L) b)
 |[],L,_,h=>⟨h,fun i hi hr=>hr,fun e he=>by simp at he⟩
 |e::r,L,hl,h=>by
  have he:=hl e (aco ..);obtain⟨a,b,ha,hb,ea,eb,el⟩:=ab8 hw he L;have h0:(e.1,0)∈aq d.1:=hw.pd.mem_iff.2 (c7.2 ⟨e,he,rfl,.inl rfl⟩);have rm:cv d (cQ d a) (cQ d b):=AZ.conn ⟨(e.1,0),h0,ea,by grind [Er]⟩;obtain⟨s1,s2,s3,s4⟩:=RW hw h ha hb rm;obtain⟨t1,t2,t3⟩:=wh hw r (L:=FB a b L) (fun e he=>hl e (abC _ he)) s1;show Ja d (kb d r (IV d e L))∧_∧_;rw[el];refine⟨t1,fun i hi hr=>?_,fun f hf p q hp hq HV hr=>?_⟩
  ·grind [gu,kb,IV]
  ·show gu d (kb d r (IV d e L)) q;rw[el];rcases abL.1 hf with rfl|hf
   ·refine t2 q hq ?_;rcases HV with⟨k1,k2⟩|⟨k1,k2⟩
    ·rw[ea]at k1;rw[eb]at k2;have:=jZ hw.sv ha hp (ac0 k1);subst this;have:=jZ hw.sv hb hq (ac0 k2);simp_all
    ·rw[ea]at k1;rw[eb]at k2;have:=jZ hw.sv ha hq (ac0 k1);subst this;have:=jZ hw.sv hb hp (ac0 k2);simp_all
   grind
theorem Nw{d:an}(i:Nat)(hi:i<d.1.length):∃m,m<d.1.length∧cv d (cQ d i) (cQ d m)∧∀j,j<d.1.length→cv d (cQ d i) (cQ d j)→m≤j:=by
 induction i using Nat.strongRecOn with
 |ind i ih =>
  by_cases h:∃j,j<i∧cv d (cQ d i) (cQ d j)∧cv d (cQ d j) (cQ d i)
  ·obtain⟨j,hj,hc,oV⟩:=h;obtain⟨m,h1,h2,h3⟩:=ih j hj (by omega);exact⟨m,h1,hc.trans h2,fun k hk hck=>h3 k hk (oV.trans hck)⟩
  ·by_cases hs:∃j,j<i∧cv d (cQ d i) (cQ d j)
   ·obtain⟨j,hj,hc⟩:=hs;have key:∀n,n≤i→(∃m,m<n∧cv d (cQ d i) (cQ d m))→∃m,m<d.1.length∧cv d (cQ d i) (cQ d m)∧∀j,j<d.1.length→cv d (cQ d i) (cQ d j)→m≤j:=by
     intro n
     induction n with
     |zero=>omega
     |succ n ihn =>
      rintro hn ⟨m,hm,XF⟩;by_cases hb:∃m,m<n∧cv d (cQ d i) (cQ d m)
      ·grind
      grind
    exact key i (acW _) ⟨j,hj,hc⟩
   ·refine⟨i,hi,.refl _,fun j hj hc=>Classical.byContradiction fun k=>hs ⟨j,by omega,hc⟩⟩
theorem RX{d:an}(P:ID→Prop){x y:ID}(h:cv d x y)(hx:P x)(hy:¬P y):∃a b,AZ d a b∧P a∧¬P b:=by
 induction h with
 |refl=>simp_all
 | @tail b c k j ih =>
  grind
open Classical in
theorem LK{P Q:Nat→Prop}:∀{l:List Nat},(∀i∈l,P i→Q i)→(∃i∈l,Q i∧¬P i)→l.countP (fun i=>decide (P i))<l.countP (fun i=>decide (Q i))
 |[],_,h=>by simp_all
 |x::r,h,⟨i,hi,hq,hp⟩=>by
  have mono:r.countP (fun i=>decide (P i))≤r.countP (fun i=>decide (Q i)):=by
   have hr:∀i∈r,P i→Q i:=fun i hi=>h i (abC _ hi);clear h hi
   induction r with
   |nil=>simp
   |cons y r ih =>
    grind
  rw[List.countP_cons,List.countP_cons];rcases abL.1 hi with rfl|hi
  ·grind
  ·have:=LK (l:=r) (fun i hi=>h i (abC _ hi)) ⟨i,hi,hq,hp⟩
   grind
theorem Nx{d:an}(hw:Wf d){L:List Int}(h:Ja d L)(hn:∃i,i<d.1.length∧¬gu d L i):∃i,i<d.1.length∧gu d (kb d d.2 L) i∧¬gu d L i:=by
 obtain⟨i,hi,hr⟩:=hn;obtain⟨m,m1,m2,m3⟩:=Nw i hi;have hm:gu d L m:=fun j hj hc=>by obtain⟨q,q1,q2,_⟩:=h.i m m1;have:=m3 j hj (m2.trans hc);rw[q2];omega
 let P:ID→Prop:=fun x=>∃k,k<d.1.length∧cQ d k=x∧gu d L k
 have hx:P (cQ d m):=⟨m,m1,rfl,hm⟩;have hy:¬P (cQ d i):=fun⟨k,k1,k2,k3⟩=>by have:=jZ hw.sv k1 hi k2;simp_all
 obtain⟨a,b,⟨z,hz,za,zb⟩,⟨p,p1,p2,p3⟩,hb⟩:=RX P (m2.symm hw) hx hy;obtain⟨q,q1,q2⟩:=Nv hw (hw.other hz);rw[zb]at q2;have hbq:b=cQ d q:=ac0 q2;obtain⟨e,he,e1,e2⟩:=c7.1 (hw.pd.mem_iff.1 hz);refine⟨q,q1,?_,fun k=>hb ⟨q,q1,hbq.symm,k⟩⟩;refine(wh hw d.2 (fun _ h=>h) h).2.2 e he p q p1 q1 ?_ p3;rw[p2,←hbq];obtain⟨z1,z2⟩:=z;simp only at e1 e2;subst e1;rcases e2 with rfl|rfl
 ·exact .inl ⟨za,zb⟩
 ·exact .inr ⟨zb,za⟩
open Classical in
theorem Eu{d:an}(hw:Wf d):∀(n:Nat) {L:List Int},Ja d L→d.1.length≤n+(List.range d.1.length).countP (fun i=>decide (gu d L i))→LJ d (Lg d n L)
 |0,L,h,hc=>by
  refine⟨h,fun i hi=>?_⟩;have h1:(List.range d.1.length).countP (fun i=>decide (gu d L i))=(List.range d.1.length).length:=by
   grind
  have:=List.countP_eq_length.1 h1 i (ac5.2 hi);exact of_decide_eq_true this
 |n+1,L,h,hc=>by
  obtain⟨s1,s2,_⟩:=wh hw d.2 (fun _ h=>h) h;show LJ d (Lg d n (kb d d.2 L));refine Eu hw n s1 ?_;by_cases hn:∃i,i<d.1.length∧¬gu d L i
  ·obtain⟨i,hi,h1,h2⟩:=Nx hw h hn;have:=LK (P:=gu d L) (Q:=gu d (kb d d.2 L)) (l:=List.range d.1.length) (fun i hi=>s2 i (ac5.1 hi)) ⟨i,ac5.2 hi,h1,h2⟩;omega
  ·have:(List.range d.1.length).countP (fun i=>decide (gu d (kb d d.2 L) i))=(List.range d.1.length).length:=by rw[List.countP_eq_length];simp_all
   simp_all
theorem ab9(d:an):Ja d (Fy d.1.length):=by
 refine⟨by unfold Fy;simp,fun i hi=>⟨i,acW _,?_,.refl _⟩⟩
 grind [Fy,List.getD]
theorem eO{d:an}(hw:Wf d):LJ d (labels d):=Eu hw d.1.length (ab9 d) (by omega)
theorem LJ.uniq{d:an}(hw:Wf d){L M:List Int}(h:LJ d L)(k:LJ d M):L=M:=by
 apply adf;intro i;by_cases hi:i<d.1.length
 ·have e1:L[i]? = some (L.getD i 0):=by rw[List.getElem?_eq_getElem (by rw[h.l.n];exact hi)];grind
  have e2:M[i]? = some (M.getD i 0):=by rw[List.getElem?_eq_getElem (by rw[k.l.n];exact hi)];grind
  obtain⟨a,a1,a2,a3⟩:=h.l.i i hi;obtain⟨b,b1,b2,b3⟩:=k.l.i i hi;have h1:=h.r i hi b (by omega) b3;have h2:=k.r i hi a (by omega) a3
  grind
 ·rw[List.getElem?_eq_none (by rw[h.l.n];omega),List.getElem?_eq_none (by rw[k.l.n];omega)]
def nm(d:an)(L:List Int):List ID:=((List.range d.1.length).filter fun i=>decide (L.getD i 0=(i:Int))).map (cQ d)
theorem lB{d:an}(hw:Wf d){L:List Int}(h:LJ d L):ox d (nm d L):=by
 have mem:∀{r:ID},r∈nm d L↔∃i,i<d.1.length∧L.getD i 0=(i:Int)∧cQ d i=r:=fun {r}=>by
  unfold nm
  grind
 refine⟨?_,fun r hr=>?_,fun r hr s hs hc=>?_,fun v hv=>?_⟩
 ·unfold nm List.Nodup;rw[List.pairwise_map];have hp:((List.range d.1.length).filter fun i=>decide (L.getD i 0=(i:Int))).Nodup:=List.nodup_range.filter _;refine List.Pairwise.imp_of_mem (fun {a b} ha hb bw e=>bw ?_) hp;exact jZ hw.sv (ac5.1 (adl.1 ha).1) (ac5.1 (adl.1 hb).1) e
 ·obtain⟨i,hi,_,rfl⟩:=mem.1 hr;exact⟨d.1[i],acv hi,(qW (aby hi)).symm⟩
 ·obtain⟨i,hi,h1,rfl⟩:=mem.1 hr;obtain⟨j,hj,h2,rfl⟩:=mem.1 hs;have k1:=h.r i hi j hj hc;have k2:=h.r j hj i hi (hc.symm hw)
  grind
 ·obtain⟨i,hi,he⟩:=adv hv;have bM:cQ d i=v.1:=by rw[qW (List.getElem?_eq_getElem hi),he]
  obtain⟨j,j1,j2,j3⟩:=h.l.i i hi;refine⟨cQ d j,mem.2 ⟨j,by omega,?_,rfl⟩,by simp_all⟩;obtain⟨k,k1,k2,k3⟩:=h.l.i j (by omega);have h1:=h.r i hi k (by omega) (j3.trans k3);omega
theorem zP:∀(l:List Int) (i:Nat) (n:Nat),n+l.length≤1000000→qM l (i:Int) (n:Int)=((n+((List.range l.length).filter fun j=>decide (l.getD j 0=((i+j:Nat):Int))).length:Nat):Int)
 |[],i,n,_=>by simp[qM]
 |x::r,i,n,h=>by
  simp at h;have e:((List.range (x::r).length).filter fun j=>decide ((x::r).getD j 0=((i+j:Nat):Int))).length=(if x=(i:Int) then 1 else 0)+((List.range r.length).filter fun j=>decide (r.getD j 0=((i+1+j:Nat):Int))).length:=by
   rw[List.length_cons,List.range_succ_eq_map,List.filter_cons];have e2:((List.range r.length).map Nat.succ).filter (fun j=>decide ((x::r).getD j 0=((i+j:Nat):Int)))=((List.range r.length).filter fun j=>decide (r.getD j 0=((i+1+j:Nat):Int))).map Nat.succ:=by
    rw[List.filter_map];congr 1;apply List.filter_congr
    grind
   grind
  rw[e];unfold qM;have hi:((i:Int)+1)=((i+1:Nat):Int):=by omega
  rw[hi];by_cases hx:x=(i:Int)
  ·rw[if_pos hx,if_pos hx];have hw:IntKind.wrap .i64 ((n:Int)+1)=((n+1:Nat):Int):=by grind [wrap_small]
   rw[hw,zP r (i+1) (n+1) (by omega)];congr 1;omega
  ·rw[if_neg hx,if_neg hx,zP r (i+1) n (by omega)];congr 1;omega
theorem uA{d:an}(hw:Wf d):fe d=((nm d (labels d)).length:Int):=by have h:=eO hw;have hn:=hw.nv;unfold fe;have:=zP (labels d) 0 0 (by rw[h.l.n];omega);simp only[Nat.zero_add]at this;have e:qM (labels d) 0 0=qM (labels d) ((0:Nat):Int) ((0:Nat):Int):=rfl;rw[e,this];unfold nm;rw[List.length_map,h.l.n]
theorem zQ:∀(l:List ai) (n:Nat),n+l.length≤1000000→vZ l (n:Int)=((n+al l:Nat):Int)
 |[],n,_=>by rfl
 |v::r,n,h=>by
  simp at h;unfold vZ al;rw[List.countP_cons];by_cases hv:v.2.1.length=0
  ·have:v.2.1.isEmpty=true:=by simp_all
   have hw:IntKind.wrap .i64 ((n:Int)+1)=((n+1:Nat):Int):=by grind [wrap_small]
   rw[if_pos hv,hw,zQ r (n+1) (by omega),this]
   grind [al]
  ·have:v.2.1.isEmpty=false:=by simp_all
   rw[if_neg hv,zQ r n (by omega),this];unfold al;simp
theorem yc{d:an}(hw:Wf d):(bV d).length≤80:=by
 have h:=bQ hw;have h1:=h.p.length_eq;have h2:=hw.LH;have h3:(bV d).length≤(bV d).flatten.length:=by
  have hc:=h.c;generalize bV d=cs at hc
  induction cs with
  |nil=>simp
  |cons c r ih =>
   have:=ih (fun c hc'=>hc c (abC _ hc'));have h1:=(hc c (aco ..)).ne
   grind [Nat.pos_of_ne_zero,List.length_eq_zero_iff,List.length_cons,List.flatten_cons,List.length_append]
 omega
theorem RY{d:an}(hw:Wf d):D2 d=((ft d:Nat):Int):=by
 unfold D2 ft;have:=hw.nv
 grind [yc,zQ,bV]
theorem Ev{d:an}(hw:Wf d){R:List ID}(hr:ox d R):∃k:Nat,bH d=(k:Int)∧d.1.length+ft d+2*k=2*R.length+d.2.length:=by
 have hl:=(lB hw (eO hw)).len hw hr;obtain⟨k,hk⟩:=Pj d.2.length d hw rfl R hr;refine⟨k,?_,hk⟩;have hn:=hw.nv;have he:=hw.ne;have hf:=yc hw;have ha:al d.1≤d.1.length:=adk;have hR:R.length≤d.1.length:=by
  grind [nm,List.length_map,Nat.le_trans,List.length_filter_le]
 have hft:ft d=(bV d).length+al d.1:=rfl;unfold bH;rw[uA hw,RY hw,hl];rw[wrap_small (n:=2*((R.length:Nat):Int)) (by omega) (by omega)]
 grind [wrap_small,ft,Int.tdiv,Int.tdiv_eq_ediv_of_nonneg]
end Go.Vs
