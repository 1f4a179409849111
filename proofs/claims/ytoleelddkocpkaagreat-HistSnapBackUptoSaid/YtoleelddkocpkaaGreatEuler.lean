/- Faces -/
import Derived.Test.YtoleelddkocpkaaGreatSplits
set_option linter.unusedVariables false
set_option linter.unusedSimpArgs false
namespace Go.Cy
variable {α:Type}
def Path(f:α→α):List α→α→Prop
 |[],_=>True
 |x::r,z=>f x=r.head?.getD z∧Path f r z
theorem Path.app{f:α→α}:∀{a b:List α} {z:α},Path f (a++b) z↔Path f a (b.head?.getD z)∧Path f b z
 |[],b,z=>by simp[Path]
 |x::r,b,z=>by simp_all [Path.app,List.cons_append,Path,and_assoc]
theorem Path.congr{f g:α→α}:∀{a:List α} {z:α},(∀x∈a,g x=f x)→Path f a z→Path g a z
 |[],_,_,_=>trivial
 |x::r,z,h,p=>⟨(h x (ab4 ..)).trans p.1,Path.congr (fun y hy=>h y (abA _ hy)) p.2⟩
def kc(f:α→α):List α→Prop
 |[]=>False
 |x::r=>Path f (x::r) x
theorem kc.two{f:α→α}{x y:α}{a b:List α}:kc f ((x::a)++(y::b))↔Path f (x::a) y∧Path f (y::b) x:=by show Path f ((x::a)++(y::b)) x↔_;rw[Path.app];rfl
theorem kc.Fa{f:α→α}:∀{a b:List α},kc f (a++b)→kc f (b++a)
 |[],b,h=>by simpa using h
 |x::a,[],h=>by simpa using h
 |x::a,y::b,h=>kc.two.2 ⟨(kc.two.1 h).2,(kc.two.1 h).1⟩
theorem kc.ne{f:α→α}{c:List α}(h:kc f c):c≠[]:=by rintro rfl;exact h
theorem kc.congr{f g:α→α}{c:List α}(h:∀x∈c,g x=f x)(k:kc f c):kc g c:=by
 cases c with
 |nil=>exact k
 |cons x r=>exact Path.congr h k
theorem Path.step{f:α→α}:∀{a:List α} {z x:α},Path f a z→x∈a→f x∈a∨f x=z
 |y::r,z,x,p,hx=>by
  rcases abD.1 hx with rfl|hx
  ·cases r with
   |nil=>exact .inr p.1
   |cons u r=>exact .inl (by have:=p.1;simp at this;rw[this];simp)
  ·rcases Path.step p.2 hx with h|h
   ·exact .inl (abA _ h)
   ·exact .inr h
theorem kc.step{f:α→α}{c:List α}(h:kc f c){x:α}(hx:x∈c):f x∈c:=by
 cases c with
 |nil=>exact h.elim
 |cons y r =>
  rcases Path.step (show Path f (y::r) y from h) hx with k|k
  ·exact k
  simp_all
def it(f:α→α):Nat→α→α
 |0,x=>x
 |n+1,x=>it f n (f x)
theorem kc.it{f:α→α}{c:List α}(h:kc f c):∀(n:Nat) {x:α},x∈c→it f n x∈c
 |0,_,hx=>hx
 |n+1,_,hx=>kc.it h n (h.step hx)
theorem Path.reach{f:α→α}:∀{r:List α} {x z:α},Path f (x::r) z→∀y∈x::r,∃n,it f n x=y
 |[],x,z,_,y,hy=>by simp at hy;exact⟨0,hy.symm⟩
 |u::r,x,z,p,y,hy=>by
  rcases abD.1 hy with rfl|hy
  ·exact⟨0,rfl⟩
  ·have h1:f x=u:=p.1;obtain⟨n,hn⟩:=Path.reach p.2 y hy;exact⟨n+1,by show it f n (f x)=y;rw[h1];exact hn⟩
theorem kc.head{f:α→α}{c:List α}(h:kc f c){x:α}(hx:x∈c):∃r,kc f (x::r)∧(x::r).Perm c:=by
 obtain⟨a,b,rfl⟩:=adt hx
 grind [kc.Fa,List.perm_append_comm]
theorem kc.reach{f:α→α}{c:List α}(h:kc f c){x y:α}(hx:x∈c)(hy:y∈c):∃n,Cy.it f n x=y:=by obtain⟨r,h1,h2⟩:=h.head hx;exact Path.reach (show Path f (x::r) x from h1) y (h2.mem_iff.2 hy)
theorem kc.same{f:α→α}{c c':List α}(h:kc f c)(h':kc f c'){x:α}(hx:x∈c)(TB:x∈c'){y:α}(hy:y∈c):y∈c':=by obtain⟨n,hn⟩:=h.reach hx hy;rw[←hn];exact h'.it n TB
structure Hw(f:α→α)(D:List α)(cs:List (List α)):Prop where
 c:∀c∈cs,kc f c
 p:cs.flatten.Perm D
theorem tx(p q:List (List α))(c:List α):(p++c::q).flatten.Perm (c++(p++q).flatten):=by
 grind [List.flatten_append,List.flatten_cons,List.append_assoc,List.Perm.append_right,List.perm_append_comm]
theorem Hw.count{f:α→α}:∀{cs cs':List (List α)} {D:List α},D.Nodup→Hw f D cs→Hw f D cs'→cs.length=cs'.length
 |[],cs',D,hn,h,h'=>by
  have hD:D=[]:=by have:=h.p;simp at this;exact this.symm▸rfl
  subst hD
  cases cs' with
  |nil=>rfl
  |cons c r =>
   have:=h'.p.length_eq;have h1:=(h'.c c (by simp)).ne
   cases c with
   |nil=>exact absurd rfl h1
   |cons x c=>simp at this
 |c::r,cs',D,hn,h,h'=>by
  have hc:=h.c c (by simp);obtain⟨x,c0,rfl⟩:∃x c0,c=x::c0:=by
   cases c with
   |nil=>exact hc.elim
   |cons x c0=>exact⟨x,c0,rfl⟩
  have hx:x∈cs'.flatten:=h'.p.mem_iff.2 (h.p.mem_iff.1 (by simp));obtain⟨c',hc',agE⟩:=adv.1 hx;obtain⟨p,q,rfl⟩:=adt hc';have agF:=h'.c c' (by simp);have n1:(x::c0).Nodup:=by have:=h.p.nodup_iff.2 hn;rw[List.flatten_cons]at this;exact(adw.1 this).1
  have n2:c'.Nodup:=by have:=(tx p q c').nodup_iff.1 (h'.p.nodup_iff.2 hn);exact(adw.1 this).1
  have pc:(x::c0).Perm c':=(List.perm_ext_iff_of_nodup n1 n2).2 fun y=>⟨fun hy=>hc.same agF (by simp) agE hy,fun hy=>agF.same hc agE (by simp) hy⟩;have pd:((x::c0)++r.flatten).Perm ((x::c0)++(p++q).flatten):=by
   have e1:((x::c0)++r.flatten).Perm D:=by have:=h.p;rwa [List.flatten_cons]at this
   have e2:(c'++(p++q).flatten).Perm D:=(tx p q c').symm.trans h'.p;exact e1.trans (e2.symm.trans (ady _ pc.symm))
  have pr:=(List.perm_append_left_iff _).1 pd;have Yp:r.flatten.Nodup:=by have:=h.p.nodup_iff.2 hn;rw[List.flatten_cons]at this;exact(adw.1 this).2.1
  have ih:=Hw.count (cs:=r) (cs':=p++q) (D:=r.flatten) Yp ⟨fun c hc=>h.c c (by simp[hc]),adR _⟩ ⟨fun c hc=>h'.c c (by rcases ab6.1 hc with k|k<;>simp[k]),pr.symm⟩;simp at ih ⊢;omega
theorem Path.lS{f g:α→α}:∀{a:List α} {z z':α},Path f a z→z∉a.tail→(∀u∈a,f u≠z→g u=f u)→(∀u∈a,f u=z→g u=z')→Path g a z'
 |[],_,_,_,_,_,_=>trivial
 |[x],z,z',p,hz,h1,h2=>⟨h2 x (by simp) p.1,trivial⟩
 |x::y::r,z,z',p,hz,h1,h2=>by have e:f x=y:=p.1;have bB:y≠z:=fun k=>hz (by simp[k]);refine⟨(h1 x (by simp) (by rw[e];exact bB)).trans e,?_⟩;exact Path.lS p.2 (fun k=>hz (abA _ k)) (fun u hu=>h1 u (abA _ hu)) (fun u hu=>h2 u (abA _ hu))
def nz:List α→Nat
 |[]=>0
 |_::_=>1
def lT(l:List α):List (List α):=match l with | []=>[]|x::r=>[x::r]
theorem Et(l:List α):(lT l).flatten=l:=by cases l<;>simp[lT]
theorem Hy(l:List α):(lT l).length=nz l:=by cases l<;>rfl
theorem nI{l:List α}{z:α}(h:z∈l.tail):z∈l:=List.mem_of_mem_tail h
section
variable [DecidableEq α]
def ym(f':α→α)(x y:α)(z:α):α :=if f' z=x then(if f' y=y then f' x else f' y) else if f' z=y then(if f' x=x then f' y else f' x) else f' z
theorem Hw.Wm{f' f:α→α}{x y:α}{D:List α}{cs':List (List α)}{c:List α}(hxy:x≠y)(hn:(x::y::D).Nodup)(h:Hw f' (x::y::D) cs')(hf:∀z∈D,f z=ym f' x y z)(hc:c∈cs')(hx:x∈c)(hy:y∈c) :
  ∃cs,Hw f D cs∧cs.length+1=cs'.length+(if f' x=y then 0 else 1)+(if f' y=x then 0 else 1):=by
 obtain⟨p,q,rfl⟩:=adt hc;have TJ:=h.c c hc;obtain⟨r,h1,h2⟩:=TJ.head hx;have hyr:y∈r:=by
  grind
 obtain⟨B,A,rfl⟩:=adt hyr;have h3:kc f' ((x::B)++(y::A)):=h1;obtain⟨⟨fx,pB⟩,⟨fy,pA⟩⟩:=kc.two.1 h3;have pd:(x::y::(B++A++(p++q).flatten)).Perm (x::y::D):=by
  refine List.Perm.trans ?_ h.p
  grind
 have pD:=(pd.cons_inv).cons_inv;have nd:=pd.nodup_iff.2 hn;have nx:x∉B++A++(p++q).flatten:=fun k=>(ab1.1 nd).1 (abA _ k);have ny:y∉B++A++(p++q).flatten:=(ab1.1 (ab1.1 nd).2).1;have xB:x∉B:=fun k=>nx (by simp[k]);have xA:x∉A:=fun k=>nx (by simp[k]);have yB:y∉B:=fun k=>ny (by simp[k]);have yA:y∉A:=fun k=>ny (by simp[k]);have Wn:∀z∈B++A++(p++q).flatten,z∈D:=fun z hz=>pD.mem_iff.1 hz;have cB:∀c∈lT B,kc f c:=fun c hc=>by
  cases B with
  |nil=>simp[lT]at hc
  |cons b B =>
   have hc:c=b::B:=by grind [lT]
   subst hc;have fx:f' x=b:=fx;have bx:b≠x:=fun k=>xB (by simp[k]);refine Path.lS pB (fun k=>yB (nI k)) (fun u hu bB=>?_) (fun u hu heq=>?_)
   ·rw[hf u (Wn u (by grind))];unfold ym;have:f' u≠x:=fun k=>by
     rcases pB.step hu with m|m
     ·simp_all
     ·exact bB m
    simp_all
   ·rw[hf u (Wn u (by grind))];simp_all [ym,if_neg,if_pos]
 have cA:∀c∈lT A,kc f c:=fun c hc=>by
  cases A with
  |nil=>simp[lT]at hc
  |cons a A =>
   have hc:c=a::A:=by grind [lT]
   subst hc;have fy:f' y=a:=fy;have ay:a≠y:=fun k=>yA (by simp[k]);refine Path.lS pA (fun k=>xA (nI k)) (fun u hu bB=>?_) (fun u hu heq=>?_)
   ·rw[hf u (Wn u (by grind))];unfold ym;have:f' u≠y:=fun k=>by
     rcases pA.step hu with m|m
     ·simp_all
     ·exact bB m
    simp_all
   ·rw[hf u (Wn u (by grind))];simp_all [ym,if_pos,if_neg]
 have cR:∀c∈p++q,kc f c:=fun c hc=>by
  have hc':c∈p++((x::B)++(y::A))::q:=by
   grind
  have Eu:kc f' c:=h.c c (by grind);refine Eu.congr fun z hz=>?_;have hzf:∀u∈c,u∈(p++q).flatten:=fun u hu=>adv.2 ⟨c,hc,hu⟩;have hm:=hzf _ (Eu.step hz);rw[hf z (Wn z (List.mem_append_right _ (hzf z hz)))];unfold ym;rw[if_neg (fun k=>nx (List.mem_append_right _ (by simp_all))),if_neg (fun k=>ny (List.mem_append_right _ (by simp_all)))]
 refine⟨lT B++(lT A++(p++q)),⟨fun c hc=>?_,?_⟩,?_⟩
 ·grind
 ·grind [List.flatten_append,Et,List.append_assoc]
 ·have eB:(if f' x=y then 0 else 1)=nz B:=by
   cases B with
   |nil=>exact if_pos fx
   |cons b B=>exact if_neg (fun k=>yB (by simp_all))
  have eA:(if f' y=x then 0 else 1)=nz A:=by
   cases A with
   |nil=>exact if_pos fy
   |cons a A=>exact if_neg (fun k=>xA (by simp_all))
  grind [List.length_append,Hy,List.length_cons]
theorem Hw.Wo{f' f:α→α}{x y:α}{D:List α}{cs':List (List α)}{c:List α}(hxy:x≠y)(hn:(x::y::D).Nodup)(h:Hw f' (x::y::D) cs')(hf:∀z∈D,f z=ym f' x y z)(hc:c∈cs')(hx:x∈c)(hy:y∉c) :
  ∃cs,Hw f D cs∧cs.length+2=cs'.length+(if f' x=x∧f' y=y then 0 else 1):=by
 obtain⟨p,q,rfl⟩:=adt hc;have TJ:=h.c c hc;obtain⟨B,h1,h2⟩:=TJ.head hx;have hyc:y∈(p++q).flatten:=by have:y∈(p++c::q).flatten:=h.p.mem_iff.2 (by simp);simp_all
 obtain⟨c2,pC,ams⟩:=adv.1 hyc;have amt:c2∈p++c::q:=by grind
 obtain⟨A,h3,h4⟩:=(h.c c2 amt).head ams;obtain⟨p2,q2,H8⟩:=adt pC;obtain⟨fx,pB⟩:=(show Path f' (x::B) x from h1);obtain⟨fy,pA⟩:=(show Path f' (y::A) y from h3);have pd:(x::y::(B++A++(p2++q2).flatten)).Perm (x::y::D):=by
  refine List.Perm.trans ?_ h.p
  grind [tx,p,c,List.Perm.append_right,List.Perm.append_left,List.append_assoc]
 have pD:=(pd.cons_inv).cons_inv;have nd:=pd.nodup_iff.2 hn;have nx:x∉B++A++(p2++q2).flatten:=fun k=>(ab1.1 nd).1 (abA _ k);have ny:y∉B++A++(p2++q2).flatten:=(ab1.1 (ab1.1 nd).2).1;have xB:x∉B:=fun k=>nx (by simp[k]);have xA:x∉A:=fun k=>nx (by simp[k]);have yB:y∉B:=fun k=>ny (by simp[k]);have yA:y∉A:=fun k=>ny (by simp[k]);have Wn:∀z∈B++A++(p2++q2).flatten,z∈D:=fun z hz=>pD.mem_iff.1 hz;have nB:∀u∈B,f' u≠x→f u=f' u:=fun u hu bB=>by
  rw[hf u (Wn u (by simp[hu]))];unfold ym;have:f' u≠y:=fun k=>by
   rcases pB.step hu with m|m
   ·simp_all
   ·exact bB m
  simp_all
 have nA:∀u∈A,f' u≠y→f u=f' u:=fun u hu bB=>by
  rw[hf u (Wn u (by simp[hu]))];unfold ym;have:f' u≠x:=fun k=>by
   rcases pA.step hu with m|m
   ·simp_all
   ·exact bB m
  simp_all
 have eB:∀u∈B,f' u=x→f u=if f' y=y then f' x else f' y:=fun u hu heq=>by rw[hf u (Wn u (by simp[hu]))];unfold ym;simp_all
 have eA:∀u∈A,f' u=y→f u=if f' x=x then f' y else f' x:=fun u hu heq=>by
  rw[hf u (Wn u (by simp[hu]))];unfold ym
  grind
 have cBA:∀c∈lT (B++A),kc f c:=fun c hc=>by
  cases B with
  |nil =>
   cases A with
   |nil=>simp[lT]at hc
   |cons a A =>
    have hc:c=a::A:=by grind [lT]
    subst hc;refine Path.lS pA (fun k=>yA (nI k)) nA (fun u hu heq=>?_)
    grind
  |cons b B =>
   have fxb:f' x=b:=fx;have bx:b≠x:=fun k=>xB (by simp[k])
   cases A with
   |nil =>
    have hc:c=b::B:=by grind [lT]
    subst hc;refine Path.lS pB (fun k=>xB (nI k)) nB (fun u hu heq=>?_)
    grind
   |cons a A =>
    have hc:c=(b::B)++(a::A):=by simpa[lT] using hc
    subst hc;have fya:f' y=a:=fy;have ay:a≠y:=fun k=>yA (by simp[k]);refine kc.two.2 ⟨Path.lS pB (fun k=>xB (nI k)) nB (fun u hu heq=>?_),Path.lS pA (fun k=>yA (nI k)) nA (fun u hu heq=>?_)⟩
    ·grind
    grind
 have cR:∀c∈p2++q2,kc f c:=fun c hc=>by
  have XW:c∈p++q:=by grind
  have Eu:kc f' c:=h.c c (by grind);refine Eu.congr fun z hz=>?_;have hzf:∀u∈c,u∈(p2++q2).flatten:=fun u hu=>adv.2 ⟨c,hc,hu⟩;have hm:=hzf _ (Eu.step hz);rw[hf z (Wn z (List.mem_append_right _ (hzf z hz)))];unfold ym;rw[if_neg (fun k=>nx (List.mem_append_right _ (by grind))),if_neg (fun k=>ny (List.mem_append_right _ (by grind)))]
 refine⟨lT (B++A)++(p2++q2),⟨fun c hc=>?_,?_⟩,?_⟩
 ·grind
 ·rw[List.flatten_append,Et];exact pD
 ·have eBA:(if f' x=x∧f' y=y then 0 else 1)=nz (B++A):=by
   cases B with
   |nil =>
    cases A with
    |nil=>exact if_pos ⟨fx,fy⟩
    |cons a A=>exact if_neg (fun k=>yA (by simp_all))
   |cons b B=>exact if_neg (fun k=>xB (by grind))
  grind [p,List.length_append,Hy,List.length_cons]
end
end Go.Cy
namespace Go.Vs
open Go.Proofs Go.Cy
def skip(x:ab)(s:ab→ab)(z:ab):ab:=if s z=x then s x else s z
def du(row:List ab)(x:ab):ab:=(dG row x 1).getD zD
theorem qe{row:List ab}(hn:row.Nodup){i:Nat}{x:ab}(hx:row[i]? = some x):du row x=(row[(i+1)%row.length]?).getD zD:=by unfold du dG;rw[if_pos (List.mem_of_getElem? hx),Y5 hn hx,Int.toNat_natCast]
theorem Hz{row:List ab}(hn:row.Nodup):∀(r p:List ab),row=p++r→Path (du row) r (row.head?.getD zD)
 |[],_,_=>trivial
 |x::r,p,h=>by
  refine⟨?_,Hz hn r (p++[x]) (by rw[h];simp)⟩;have hx:row[p.length]? = some x:=by rw[h];simp
  rw[qe hn hx]
  cases r with
  |nil =>
   have hl:row.length=p.length+1:=by rw[h];simp
   rw[hl,Nat.mod_self];show(row[0]?).getD zD=row.head?.getD zD;rw[List.head?_eq_getElem?]
  |cons y r =>
   have hl:p.length+1<row.length:=by rw[h];simp
   rw[Nat.mod_eq_of_lt hl];have:row[p.length+1]? = some y:=by rw[h];simp
   rw[this];rfl
theorem tz{row:List ab}(hn:row.Nodup)(h0:row≠[]):kc (du row) row:=by
 have:=Hz hn row [] rfl
 cases row with
 |nil=>simp_all
 |cons x r=>exact this
theorem Ev{f g:ab→ab}:∀{a:List ab} {z:ab},Path f a z→Path g a z→∀x∈a,f x=g x
 |y::r,z,p,q,x,hx=>by
  rcases abD.1 hx with rfl|hx
  ·exact p.1.trans q.1.symm
  ·exact Ev p.2 q.2 x hx
theorem HA{f g:ab→ab}{c:List ab}(h:kc f c)(k:kc g c):∀x∈c,f x=g x:=by
 cases c with
 |nil=>exact h.elim
 |cons y r=>exact Ev h k
theorem LZ{f:ab→ab}{row:List ab}{j:Nat}(h:kc f (Fa row j)):kc f row:=by
 grind [Fa,kc.Fa,List.take_append_drop]
theorem kV{row:List ab}(hn:row.Nodup){x:ab}(hx:x∈row):du row x∈row:=(tz hn (adP hx)).step hx
theorem HB{f:ab→ab}:∀{a:List ab} {z:ab},Path f a z→a≠[]→∃l,l∈a∧f l=z
 |[x],z,p,_=>⟨x,by simp,p.1⟩
 |x::y::r,z,p,_=>by obtain⟨l,h1,h2⟩:=HB p.2 (by simp);exact⟨l,abA _ h1,h2⟩
theorem So{row:List ab}(hn:row.Nodup){x y:ab}(hx:x∈row)(hy:y∈row)(h:du row x=du row y):x=y:=by
 obtain⟨i,hi⟩:=adC hx;obtain⟨j,hj⟩:=adC hy;have rM:=(abC.1 hi).1;have M0:=(abC.1 hj).1;have hp:0<row.length:=by omega
 rw[qe hn hi,qe hn hj,List.getElem?_eq_getElem (Nat.mod_lt _ hp),List.getElem?_eq_getElem (Nat.mod_lt _ hp)]at h;have h2:(i+1)%row.length=(j+1)%row.length:=Hv hn (by simpa using h);have h3:i=j:=by
  by_cases a:i+1<row.length<;>by_cases b:j+1<row.length
  ·grind [Nat.mod_eq_of_lt]
  ·grind [Nat.mod_eq_of_lt,Nat.mod_self]
  ·grind [Nat.mod_eq_of_lt,Nat.mod_self]
  ·omega
 simp_all
theorem Sp{row:List ab}(hn:row.Nodup){x z:ab}(hx:x∈row)(hz:z∈row)(hzx:z≠x):du (iP row x) z=skip x (du row) z:=by
 obtain⟨A,B,rfl⟩:=adt hx;obtain⟨k,hk⟩:=adC hx;have he:(A++x::B).filter (fun e=>decide (e≠x))=A++B:=by
  have hx2:(A++x::B)[A.length]? = some x:=by simp
  rw[zX hn hx2];simp
 have Rm:(x::(B++A)).Nodup:=by have p:(A++x::B).Perm (x::(B++A)):=List.perm_middle.trans (List.Perm.cons x List.perm_append_comm);exact p.nodup_iff.1 hn
 have BJ:z∈B++A:=by
  rcases ab6.1 hz with k|k
  ·exact abL _ k
  ·rcases abD.1 k with k|k
   ·exact absurd k hzx
   ·exact abM _ k
 have c1:kc (du (A++x::B)) (x::(B++A)):=by have:=(tz hn (adP hx)).Fa;simpa using this
 obtain⟨fx,pL⟩:=(show Path (du (A++x::B)) (x::(B++A)) x from c1);have c2:kc (skip x (du (A++x::B))) (B++A):=by
  generalize hL:B++A=L at *
  cases L with
  |nil=>simp at BJ
  |cons l L =>
   have fx:du (A++x::B) x=l:=fx;have yE:x∉l::L:=(ab1.1 Rm).1;refine Path.lS pL (fun k=>yE (nI k)) (fun u hu bB=>?_) (fun u hu heq=>?_)
   ·unfold skip;rw[if_neg bB]
   ·unfold skip;rw[if_pos heq,fx]
 have hr:iP (A++x::B) x=cp (A++B):=by unfold iP;rw[he]
 obtain⟨j,hj,hjr⟩:=Bc (A++B);have nAB:(A++B).Nodup:=(List.perm_append_comm (l₁:=B) (l₂:=A)).nodup_iff.1 (ab1.1 Rm).2;have amv:(iP (A++x::B) x).Nodup:=by rw[hr];exact(kO _).nodup_iff.2 nAB
 have hzm:z∈iP (A++x::B) x:=by
  rw[hr,pY];rcases ab6.1 BJ with k|k
  ·exact abL _ k
  ·exact abM _ k
 have c3:kc (du (iP (A++x::B) x)) (A++B):=by have:=tz amv (adP hzm);generalize du (iP (A++x::B) x)=g at *;rw[hr,hjr]at this;exact LZ this
 exact HA (kc.Fa c3) c2 z BJ
def sg(d:ak)(x:ab):ab:=(km d x).getD zD
def ph(d:ak)(x:ab):ab:=(JF d x).getD zD
theorem Ew{d:ak}(h:Rw d.1){v:ai}{x:ab}(hv:v∈d.1)(hx:x∈v.2.1):km d x=dG v.2.1 x 1:=by unfold km cf;rw[fh h hv hx];show dG (bI d v.1) x 1=_;rw[kQ h.s hv]
theorem kd{d:ak}(h:Rw d.1){v:ai}{x:ab}(hv:v∈d.1)(hx:x∈v.2.1):sg d x=du v.2.1 x:=by
 grind [sg,du,Ew]
theorem NX{d:ak}(h:Rw d.1){x:ab}(hx:x∈an d.1):km d x=some (sg d x):=by
 obtain⟨v,hv,oY⟩:=aS.1 hx;have:km d x=some (du v.2.1 x):=by
  rw[Ew h hv oY];unfold du dG;rw[if_pos oY]
  grind [List.length_pos_of_mem,List.getElem?_eq_getElem,Nat.mod_lt]
 grind [kd]
theorem Y8{d:ak}(h:Rw d.1){x:ab}(hx:x∈an d.1):sg d x∈an d.1:=by obtain⟨v,hv,oY⟩:=aS.1 hx;rw[kd h hv oY];exact aS.2 ⟨v,hv,kV (h.ring hv) oY⟩
theorem Wp{d:ak}(h:Rw d.1){x y:ab}(hx:x∈an d.1)(hy:y∈an d.1)(he:sg d x=sg d y):x=y:=by obtain⟨v,hv,oY⟩:=aS.1 hx;obtain⟨w,hw,hyw⟩:=aS.1 hy;rw[kd h hv oY,kd h hw hyw]at he;have h1:=kV (h.ring hv) oY;have h2:=kV (h.ring hw) hyw;rw[←he]at h2;have hwv:=h.one hv hw h1 h2;subst hwv;exact So (h.ring hw) oY hyw he
theorem ry{d:ak}(h:Rw d.1){x z:ab}(hx:x∈an d.1)(hz:z∈an (aH d x).1):sg (aH d x) z=skip x (sg d) z:=by
 obtain⟨p,q⟩:=fX h hx;obtain⟨v,hv,oY⟩:=aS.1 hx;have hzd:z∈an d.1:=p.mem_iff.2 (abA _ hz);have hzx:z≠x:=fun k=>(ab1.1 (p.nodup_iff.1 h.n)).1 (k▸hz);obtain⟨w,hw,MK⟩:=aS.1 hz;have hr:=kR h hv oY;have ME:w∈d.1.map (uH v.1 (iP v.2.1 x)):=by rw[hr]at hw;exact hw
 obtain⟨u,hu,hwu⟩:=acn.1 ME;rw[kd q hw MK];by_cases huv:u.1=v.1
 ·have huv:u=v:=by have h1:=j8 h.s hv;have h2:=j8 h.s hu;simp_all
  subst huv;have mQ:w.2.1=iP u.2.1 x:=by rw[←hwu];unfold uH;simp_all
  rw[mQ]at MK ⊢;have Jf:z∈u.2.1:=(uN oY (h.ring hu)).mem_iff.2 (abA _ MK);rw[Sp (h.ring hu) oY Jf hzx]
  grind [skip,kd]
 ·have mQ:w=u:=by simp_all [uH,if_neg]
  subst mQ;unfold skip;rw[kd h hu MK,if_neg];intro k;have:=kV (h.ring hu) MK;rw[k]at this;exact huv (congrArg Prod.fst (h.one hv hu oY this))
theorem L0{d e:ak}(h:d.1=e.1)(x:ab):km d x=km e x:=by obtain⟨a,b⟩:=d;obtain⟨c,f⟩:=e;simp only at h;subst h;rfl
theorem bY{x:ab}(h:x.2=0∨x.2=1):aj (aj x)=x:=by obtain⟨x1,x2⟩:=x;simp only at h;rcases h with rfl|rfl<;>rfl
theorem Wf.side{d:ak}(h:Wf d){x:ab}(hx:x∈an d.1):x.2=0∨x.2=1:=by obtain⟨e,_,_,k⟩:=eC.1 (h.pd.mem_iff.1 hx);exact k
theorem Wf.other{d:ak}(h:Wf d){x:ab}(hx:x∈an d.1):aj x∈an d.1:=by
 obtain⟨e,he,h1,h2⟩:=eC.1 (h.pd.mem_iff.1 hx);refine h.pd.mem_iff.2 (eC.2 ⟨e,he,h1,?_⟩)
 grind [hZ]
theorem Ex{d:ak}{x:ab}(hx:x∈an d.1):(cf d x).isSome=true:=by
 grind [aS,cf,Fb,Option.isSome_map,List.find?_isSome]
theorem jJ{d:ak}{x:ab}(hx:x∈an d.1):ph d x=sg d (aj x):=by unfold ph JF sg;rw[if_pos (Ex hx)]
theorem L3{d:ak}(h:Wf d){x:ab}(hx:x∈an d.1):JF d x=some (ph d x):=by rw[jJ hx];unfold JF;rw[if_pos (Ex hx)];exact NX h.rw (h.other hx)
theorem Wq{d:ak}(h:Wf d){x:ab}(hx:x∈an d.1):ph d x∈an d.1:=by rw[jJ hx];exact Y8 h.rw (h.other hx)
theorem acA{d:ak}(h:Wf d){x y:ab}(hx:x∈an d.1)(hy:y∈an d.1)(he:ph d x=ph d y):x=y:=by rw[jJ hx,jJ hy]at he;have:=Wp h.rw (h.other hx) (h.other hy) he;rw[←bY (h.side hx),←bY (h.side hy),this]
theorem L4{α:Type}[DecidableEq α]:∀{l D:List α},l.Nodup→(∀x∈l,x∈D)→l.length≤D.length
 |[],_,_,_=>adx _
 |x::r,D,hn,hs=>by
  have h1:=ab1.1 hn;have hx:=hs x (ab4 ..);have ih:=L4 (l:=r) (D:=D.erase x) h1.2 (fun y hy=>(adX (fun k=>h1.1 (by simp_all))).2 (hs y (abA _ hy)))
  grind
theorem Wr{d:ak}(h:Wf d){out:List ab}{y:ab}(hn:out.Nodup)(hs:∀z∈out,z∈an d.1)(hp:Path (ph d) out y):y∉out.tail:=fun hy=>by
 cases out with
 |nil=>simp at hy
 |cons x r =>
  have hy:y∈r:=hy;obtain⟨p,q,rfl⟩:=adt hy;have key:∀(x:ab) (p:List ab),Path (ph d) (x::(p++y::q)) y→(x::(p++y::q)).Nodup→(∀z∈x::(p++y::q),z∈an d.1)→False:=by
   intro x p
   induction p generalizing x with
   |nil =>intro hp hn hs;have h1:ph d x=y:=hp.1;obtain⟨l,h2,h3⟩:=HB hp.2 (by simp);have:=acA h (hs x (by simp)) (hs l (abA _ h2)) (h1.trans h3.symm);simp_all
   |cons u p ih =>intro hp hn hs;exact ih u hp.2 (ab1.1 hn).2 (fun z hz=>hs z (abA _ hz))
  grind
theorem Wf.L5{d:ak}(h:Wf d):(an d.1).length≤80:=by
 have h2:=h.pd.length_eq;have h3:=h.ne;have:(ends d.2).length=2*d.2.length:=by
  clear h2 h3 h;generalize d.2=l
  induction l with
  |nil=>rfl
  |cons e r ih=>grind [gE]
 omega
theorem Ey{d:ak}(h:Wf d)(x:ab):∀(n:Nat) (y:ab) (r:List ab),(x::r).length+n=82→(x::r).Nodup→(∀z∈x::r,z∈an d.1)→Path (ph d) (x::r) y→y∈an d.1 → ∃r',tp d x n y (x::r)=x::r'∧(x::r').Nodup∧(∀z∈x::r',z∈an d.1)∧kc (ph d) (x::r')
 |0,y,r,hl,hn,hs,hp,hy=>by have:=L4 hn hs;have:=h.L5;omega
 |n+1,y,r,hl,hn,hs,hp,hy=>by
  unfold tp;by_cases he:y=x
  ·subst he;rw[if_pos rfl];exact⟨r,rfl,hn,hs,hp⟩
  ·rw[if_neg he];have hyr:y∉x::r:=fun k=>by
    rcases abD.1 k with k|k
    ·exact he k
    ·exact Wr h hn hs hp k
   have e:(JF d y).getD zD=ph d y:=rfl;rw[e];refine Ey h x n (ph d y) (r++[y]) (by simp at hl ⊢;omega) ?_ (fun z hz=>?_) ?_ (Wq h hy)
   ·show((x::r)++[y]).Nodup;refine adw.2 ⟨hn,by simp,fun a ha b hb=>?_⟩;simp at hb;subst hb;exact fun k=>hyr (k▸ha)
   ·have hz:z∈(x::r)++[y]:=hz;rcases ab6.1 hz with k|k
    ·exact hs z k
    ·simp at k;rw[k];exact hy
   ·show Path (ph d) ((x::r)++[y]) (ph d y);exact Path.app.2 ⟨hp,rfl,trivial⟩
theorem Ez{d:ak}(h:Wf d){x:ab}(hx:x∈an d.1):∃r,bp d x=x::r∧(x::r).Nodup∧(∀z∈x::r,z∈an d.1)∧kc (ph d) (x::r):=by unfold bp;rw[L3 h hx];exact Ey h x 81 (ph d x) [] rfl (by simp) (fun z hz=>by simp_all) ⟨rfl,trivial⟩ (Wq h hx)
theorem tB{d:ak}(h:Wf d):∀(l:List ab) (out:List (List ab)),(∀x∈l,x∈an d.1)→(∀c∈out,kc (ph d) c)→out.flatten.Nodup→(∀x∈out.flatten,x∈an d.1) →(∀c∈jf d l out out.flatten,kc (ph d) c)∧(jf d l out out.flatten).flatten.Nodup∧(∀x∈(jf d l out out.flatten).flatten,x∈an d.1)∧(∀x,x∈l∨x∈out.flatten→x∈(jf d l out out.flatten).flatten)
 |[],out,_,h1,h2,h3=>⟨h1,h2,h3,fun x k=>k.resolve_left (by simp)⟩
 |x::l,out,hl,h1,h2,h3=>by
  unfold jf;by_cases hx:x∈out.flatten
  ·rw[if_pos hx];obtain⟨a,b,c,e⟩:=tB h l out (fun y hy=>hl y (abA _ hy)) h1 h2 h3
   grind
  ·rw[if_neg hx];obtain⟨r,t1,t2,t3,t4⟩:=Ez h (hl x (ab4 ..));have ef:out.flatten++bp d x=(out++[bp d x]).flatten:=by simp
   rw[ef];have aqB:∀y∈bp d x,y∉out.flatten:=fun y hy k=>by obtain⟨c,hc,hyc⟩:=adv.1 k;rw[t1]at hy;exact hx (adv.2 ⟨c,hc,t4.same (h1 c hc) hy hyc (ab4 ..)⟩)
   obtain⟨a,b,c,e⟩:=tB h l (out++[bp d x]) (fun y hy=>hl y (abA _ hy)) (fun c hc=>by
     grind)
    (by
     grind)
    (fun y hy=>by
     grind)
   grind
theorem mw:∀l:List ag,fw l=ends l
 |[]=>rfl
 |e::r=>by rw[gE,fw,mw r]
theorem bR{d:ak}(h:Wf d):Hw (ph d) (an d.1) (bW d):=by obtain⟨a,b,c,e⟩:=tB h (fw d.2) [] (fun x hx=>h.pd.mem_iff.2 (by grind [mw])) (by simp) (by simp) (by simp);refine⟨a,(List.perm_ext_iff_of_nodup b h.rw.n).2 fun x=>⟨c x,fun hx=>e x (.inl (by rw[mw];exact h.pd.mem_iff.1 hx))⟩⟩
def dg(d:ak)(x:ID):ak:=aM (aH (aH d (x,0)) (x,1)) zI x
theorem NY{d:ak}(h:Wf d)(x y:ab)(e:ID):(aM (aH (aH d x) y) zI e).1=(aH (aH d x) y).1:=uO (kS (kS h.gv x) y)
theorem EA(x:ID):aj (x,0)=(x,1):=rfl
theorem Ws(x:ID):aj (x,1)=(x,0):=rfl
structure bX(d':ak)(x:ID):Prop where
 wf:Wf d'
 e:(ba d'.2 x).isSome=true
theorem bX.x0{d':ak}{x:ID}(h:bX d' x):(x,0)∈an d'.1:=h.wf.kU h.e (.inl rfl)
theorem bX.x1{d':ak}{x:ID}(h:bX d' x):(x,1)∈an d'.1:=h.wf.kU h.e (.inr rfl)
theorem bX.p1{d':ak}{x:ID}(h:bX d' x):(an d'.1).Perm ((x,0)::an (aH d' (x,0)).1)∧Rw (aH d' (x,0)).1:=fX h.wf.rw h.x0
theorem bX.x1'{d':ak}{x:ID}(h:bX d' x):(x,1)∈an (aH d' (x,0)).1:=by
 rcases abD.1 (h.p1.1.mem_iff.1 h.x1) with k|k
 ·cases k
 ·exact k
theorem bX.p2{d':ak}{x:ID}(h:bX d' x):(an (aH d' (x,0)).1).Perm ((x,1)::an (aH (aH d' (x,0)) (x,1)).1)∧Rw (aH (aH d' (x,0)) (x,1)).1:=fX h.p1.2 h.x1'
theorem bX.v{d':ak}{x:ID}(h:bX d' x):(dg d' x).1=(aH (aH d' (x,0)) (x,1)).1:=NY h.wf _ _ _
theorem bX.w{d':ak}{x:ID}(h:bX d' x):Wf (dg d' x):=h.wf.cut h.e
theorem bX.p{d':ak}{x:ID}(h:bX d' x):(an d'.1).Perm ((x,0)::(x,1)::an (dg d' x).1):=by rw[h.v];exact h.p1.1.trans (List.Perm.cons _ h.p2.1)
theorem bX.sg{d':ak}{x:ID}(h:bX d' x){z:ab}(hz:z∈an (dg d' x).1):sg (dg d' x) z=skip (x,1) (skip (x,0) (sg d')) z:=by
 have e1:Vs.sg (dg d' x) z=Vs.sg (aH (aH d' (x,0)) (x,1)) z:=by unfold Vs.sg;rw[L0 h.v]
 rw[h.v]at hz;have yC:z∈an (aH d' (x,0)).1:=h.p2.1.mem_iff.2 (abA _ hz);rw[e1,ry h.p1.2 h.x1' hz];unfold skip;rw[ry h.wf.rw h.x0 yC,ry h.wf.rw h.x0 h.x1'];rfl
theorem bX.ph{d':ak}{x:ID}(h:bX d' x){z:ab}(hz:z∈an (dg d' x).1):ph (dg d' x) z=ym (ph d') (x,0) (x,1) z:=by
 have Cu:z∈an d'.1:=h.p.mem_iff.2 (abA _ (abA _ hz));have ho:=h.w.other hz;have sq:aj z∈an d'.1:=h.p.mem_iff.2 (abA _ (abA _ ho));have nd:=h.p.nodup_iff.1 h.wf.rw.n;have MH:aj z≠(x,1):=fun k=>(ab1.1 (ab1.1 nd).2).1 (k▸ho);rw[jJ hz,h.sg ho];unfold ym;rw[jJ Cu,jJ h.x0,jJ h.x1,EA,Ws];generalize hW:aj z=w at *;have inj:Vs.sg d' (x,1)=(x,0)→Vs.sg d' w≠(x,0):=fun k1 k2=>MH (Wp h.wf.rw sq h.x1 (k2.trans k1.symm));unfold skip
 grind
def al(l:List ai):Nat:=l.countP fun v=>v.2.1.isEmpty
theorem HC{row:List ab}(hn:row.Nodup){x:ab}(hx:x∈row):du row x=x↔row.length=1:=by
 obtain⟨i,hi⟩:=adC hx;have rM:=(abC.1 hi).1;have hp:0<row.length:=by omega
 rw[qe hn hi,List.getElem?_eq_getElem (Nat.mod_lt _ hp)];constructor
 ·intro h;have h1:row[(i+1)%row.length]? = some x:=by grind
  have h2:=z5 hn h1 hi;by_cases c:i+1<row.length
  ·grind [Nat.mod_eq_of_lt]
  grind [Nat.mod_self]
 grind
theorem EB{d:ak}(h:Rw d.1){x:ab}(hx:x∈an d.1):al (aH d x).1=al d.1+if sg d x=x then 1 else 0:=by
 obtain⟨v,hv,oY⟩:=aS.1 hx;obtain⟨a,b,h1,_,_,h2⟩:=nH h.s hv;have e1:(aH d x).1=a++(v.1,(iP v.2.1 x,v.2.2))::b:=by rw[kR h hv oY];exact h2 _
 have p:=uN oY (h.ring hv);have hl:=p.length_eq;have v0:v.2.1.isEmpty=false:=by
  grind
 have v1:(iP v.2.1 x).isEmpty=decide (sg d x=x):=by rw[Bool.eq_iff_iff,List.isEmpty_iff,decide_eq_true_eq,kd h hv oY,HC (h.ring hv) oY,←List.length_eq_zero_iff];simp_all
 rw[e1]
 conv=>rhs;rw[h1]
 unfold al;rw[List.countP_append,List.countP_append,List.countP_cons,List.countP_cons];simp only[v0,v1]
 grind
def ft(d:ak):Nat:=(bW d).length+al d.1
def NZ(d:ak)(x y:ab):Prop:=∃c∈bW d,x∈c∧y∈c
theorem bX.al{d':ak}{x:ID}(h:bX d' x):Vs.al (dg d' x).1=Vs.al d'.1+(if Vs.ph d' (x,1)=(x,0) then 1 else 0)+(if Vs.ph d' (x,0)=(x,1)∨(Vs.ph d' (x,0)=(x,0)∧Vs.ph d' (x,1)=(x,1)) then 1 else 0):=by
 rw[h.v,EB h.p1.2 h.x1',EB h.wf.rw h.x0];have e0:Vs.ph d' (x,0)=Vs.sg d' (x,1):=jJ h.x0;have e1:Vs.ph d' (x,1)=Vs.sg d' (x,0):=jJ h.x1;rw[e0,e1,ry h.wf.rw h.x0 h.x1'];unfold skip
 grind
theorem agI(x:ID):((x,0):ab)≠(x,1):=fun k=>by cases k
theorem bX.same{d':ak}{x:ID}(h:bX d' x)(hf:NZ d' (x,0) (x,1)):ft (dg d' x)=ft d'+1∧(bW (dg d' x)).length+1=(bW d').length+(if Vs.ph d' (x,0)=(x,1) then 0 else 1)+(if Vs.ph d' (x,1)=(x,0) then 0 else 1):=by
 obtain⟨c,hc,h0,h1⟩:=hf;have nd:=h.p.nodup_iff.1 h.wf.rw.n;have dec:Hw (Vs.ph d') ((x,0)::(x,1)::an (dg d' x).1) (bW d'):=⟨(bR h.wf).c,(bR h.wf).p.trans h.p⟩;obtain⟨cs,k1,k2⟩:=Hw.Wm (agI x) nd dec (fun z hz=>h.ph hz) hc h0 h1;have k3:=Hw.count (h.w.rw.n) (bR h.w) k1;have k4:=h.al;have Eu:=(bR h.wf).c c hc;have n0:¬(Vs.ph d' (x,0)=(x,0)):=fun k=>by
  obtain⟨n,hn⟩:=Eu.reach h0 h1;have:∀n,it (Vs.ph d') n (x,0)=(x,0):=fun n=>by
   induction n with
   |zero=>rfl
   |succ n ih=>grind [it,Vs.ph]
  simp_all
 refine⟨?_,by omega⟩;unfold ft
 grind
theorem bX.diff{d':ak}{x:ID}(h:bX d' x)(hf:¬NZ d' (x,0) (x,1)):ft (dg d' x)+1=ft d':=by
 have hm:(x,0)∈(bW d').flatten:=(bR h.wf).p.mem_iff.2 h.x0;obtain⟨c,hc,h0⟩:=adv.1 hm;have h1:(x,1)∉c:=fun k=>hf ⟨c,hc,h0,k⟩;have nd:=h.p.nodup_iff.1 h.wf.rw.n;have dec:Hw (Vs.ph d') ((x,0)::(x,1)::an (dg d' x).1) (bW d'):=⟨(bR h.wf).c,(bR h.wf).p.trans h.p⟩;obtain⟨cs,k1,k2⟩:=Hw.Wo (agI x) nd dec (fun z hz=>h.ph hz) hc h0 h1;have k3:=Hw.count (h.w.rw.n) (bR h.w) k1;have k4:=h.al;have Eu:=(bR h.wf).c c hc;have n0:¬(Vs.ph d' (x,0)=(x,1)):=fun k=>h1 (k▸Eu.step h0);have n1:¬(Vs.ph d' (x,1)=(x,0)):=fun k=>by have TT:(x,1)∈(bW d').flatten:=(bR h.wf).p.mem_iff.2 h.x1;obtain⟨c2,pC,h2⟩:=adv.1 TT;have:=((bR h.wf).c c2 pC).step h2;rw[k]at this;exact hf ⟨c2,pC,this,h2⟩
 unfold ft
 grind
def Bf(d:ak)(a b:ID):Prop:=∃z∈an d.1,cf d z=some a∧cf d (aj z)=some b
inductive cq (d:ak):ID→ID→Prop
 |refl (a:ID):cq d a a
 |tail {a b c:ID}:cq d a b→Bf d b c→cq d a c
theorem cq.trans{d:ak}{a b c:ID}(h:cq d a b)(k:cq d b c):cq d a c:=by
 induction k with
 |refl=>exact h
 |tail _ j ih=>exact ih.tail j
theorem Bf.symm{d:ak}(hw:Wf d){a b:ID}(h:Bf d a b):Bf d b a:=by obtain⟨z,hz,h1,h2⟩:=h;exact⟨aj z,hw.other hz,h2,by rw[bY (hw.side hz)];exact h1⟩
theorem Bf.conn{d:ak}{a b:ID}(h:Bf d a b):cq d a b:=(cq.refl a).tail h
theorem cq.symm{d:ak}(hw:Wf d){a b:ID}(h:cq d a b):cq d b a:=by
 induction h with
 |refl=>exact .refl _
 |tail _ j ih=>exact(j.symm hw).conn.trans ih
structure oS(d:ak)(R:List ID):Prop where
 n:R.Nodup
 v:∀r∈R,∃v∈d.1,v.1=r
 i:∀r∈R,∀s∈R,cq d r s→r=s
 c:∀v∈d.1,∃r∈R,cq d v.1 r
theorem Jg{d:ak}(hw:Wf d):∀{R R':List ID},R.Nodup→(∀r∈R,∀s∈R,cq d r s→r=s)→(∀r∈R,∃s∈R',cq d r s)→R.length≤R'.length
 |[],_,_,_,_=>adx _
 |r::R,R',hn,hi,hc=>by
  obtain⟨s,hs,hrs⟩:=hc r (ab4 ..);have h1:=ab1.1 hn;have ih:=Jg hw (R:=R) (R':=R'.erase s) h1.2 (fun a ha b hb=>hi a (abA _ ha) b (abA _ hb)) (fun a ha=>by obtain⟨t,ht,Bq⟩:=hc a (abA _ ha);refine⟨t,(adX (fun k=>?_)).2 ht,Bq⟩;subst k;have:=hi a (abA _ ha) r (ab4 ..) (Bq.trans (hrs.symm hw));simp_all)
  grind
theorem oS.len{d:ak}(hw:Wf d){R R':List ID}(h:oS d R)(h':oS d R'):R.length=R'.length:=by
 refine Nat.le_antisymm (Jg hw h.n h.i fun r hr=>?_) (Jg hw h'.n h'.i fun r hr=>?_)
 ·obtain⟨v,hv,rfl⟩:=h.v r hr;exact h'.c v hv
 ·obtain⟨v,hv,rfl⟩:=h'.v r hr;exact h.c v hv
theorem tC{d:ak}(hw:Wf d){z:ab}(hz:z∈an d.1):∃v∈d.1,z∈v.2.1∧cf d z=some v.1:=by obtain⟨v,hv,hzv⟩:=aS.1 hz;exact⟨v,hv,hzv,fh hw.rw hv hzv⟩
theorem EC{d:ak}(h:Rw d.1){x z:ab}(hx:x∈an d.1)(hz:z∈an (aH d x).1):cf (aH d x) z=cf d z:=by
 obtain⟨p,q⟩:=fX h hx;obtain⟨v,hv,oY⟩:=aS.1 hx;obtain⟨w,hw,MK⟩:=aS.1 hz;have hr:=kR h hv oY;have ME:w∈d.1.map (uH v.1 (iP v.2.1 x)):=by rw[hr]at hw;exact hw
 obtain⟨u,hu,hwu⟩:=acn.1 ME;have bM:w.1=u.1:=by grind [tv]
 have Jf:z∈u.2.1:=by
  by_cases huv:u.1=v.1
  ·have huv:u=v:=by have h1:=j8 h.s hv;have h2:=j8 h.s hu;simp_all
   subst huv;have mQ:w.2.1=iP u.2.1 x:=by rw[←hwu];unfold uH;simp_all
   rw[mQ]at MK;exact(uN oY (h.ring hu)).mem_iff.2 (abA _ MK)
  simp_all [uH,if_neg]
 show Fb (aH d x).1 z=Fb d.1 z
 grind [fh]
theorem bX.at{d':ak}{x:ID}(h:bX d' x){z:ab}(hz:z∈an (dg d' x).1):cf (dg d' x) z=cf d' z:=by
 have e:cf (dg d' x) z=cf (aH (aH d' (x,0)) (x,1)) z:=by unfold cf;rw[h.v]
 rw[h.v]at hz;have yC:z∈an (aH d' (x,0)).1:=h.p2.1.mem_iff.2 (abA _ hz);rw[e,EC h.p1.2 h.x1' hz,EC h.wf.rw h.x0 yC]
theorem bX.sub{d':ak}{x:ID}(h:bX d' x){z:ab}(hz:z∈an (dg d' x).1):z∈an d'.1:=h.p.mem_iff.2 (abA _ (abA _ hz))
theorem bX.Y9{d':ak}{x:ID}(h:bX d' x){a b:ID}(k:Bf (dg d' x) a b):Bf d' a b:=by obtain⟨z,hz,h1,h2⟩:=k;exact⟨z,h.sub hz,by rw[←h.at hz];exact h1,by rw[←h.at (h.w.other hz)];exact h2⟩
theorem bX.conn{d':ak}{x:ID}(h:bX d' x){a b:ID}(k:cq (dg d' x) a b):cq d' a b:=by
 induction k with
 |refl=>exact .refl _
 |tail _ j ih=>exact ih.tail (h.Y9 j)
theorem bX.amz{d':ak}{x u w:ID}(h:bX d' x)(hu:cf d' (x,0)=some u)(hw:cf d' (x,1)=some w){a b:ID}(k:Bf d' a b):Bf (dg d' x) a b∨(a=u∧b=w)∨(a=w∧b=u):=by
 obtain⟨z,hz,h1,h2⟩:=k;rcases abD.1 (h.p.mem_iff.1 hz) with rfl|BJ
 ·rw[EA]at h2;rw[hu]at h1;rw[hw]at h2
  cases h1;cases h2
  exact .inr (.inl ⟨rfl,rfl⟩)
 rcases abD.1 BJ with rfl|ON
 ·rw[Ws]at h2;rw[hw]at h1;rw[hu]at h2
  cases h1;cases h2
  exact .inr (.inr ⟨rfl,rfl⟩)
 ·exact .inl ⟨z,ON,by rw[h.at ON];exact h1,by rw[h.at (h.w.other ON)];exact h2⟩
theorem bX.Wt{d':ak}{x u w:ID}(h:bX d' x)(hu:cf d' (x,0)=some u)(hw:cf d' (x,1)=some w){a b:ID}(k:cq d' a b) :
  cq (dg d' x) a b∨(cq (dg d' x) a u∧cq (dg d' x) w b)∨(cq (dg d' x) a w∧cq (dg d' x) u b):=by
 induction k with
 |refl=>exact .inl (.refl _)
 |tail _ j ih =>
  rcases h.amz hu hw j with j|⟨rfl,rfl⟩|⟨rfl,rfl⟩
  ·rcases ih with k|⟨k,m⟩|⟨k,m⟩
   ·exact .inl (k.tail j)
   ·exact .inr (.inl ⟨k,m.tail j⟩)
   ·exact .inr (.inr ⟨k,m.tail j⟩)
  ·rcases ih with k|⟨k,m⟩|⟨k,m⟩
   ·exact .inr (.inl ⟨k,.refl _⟩)
   ·exact .inr (.inl ⟨k,.refl _⟩)
   simp_all
  ·rcases ih with k|⟨k,m⟩|⟨k,m⟩
   ·exact .inr (.inr ⟨k,.refl _⟩)
   ·exact .inl k
   ·exact .inr (.inr ⟨k,.refl _⟩)
theorem bX.ids{d':ak}{x:ID}(h:bX d' x):(dg d' x).1.map (·.1)=d'.1.map (·.1):=by rw[h.v];unfold aH Vs.ck;simp only[List.map_map];simp_all [List.map_congr_left,v,Function.comp,tv]
theorem bX.ED{d':ak}{x:ID}(h:bX d' x){r:ID}:(∃v∈(dg d' x).1,v.1=r)↔∃v∈d'.1,v.1=r:=by
 have e:∀l:List ai,(∃v∈l,v.1=r)↔r∈l.map (·.1):=fun l=>by simp_all
 rw[e,e,h.ids]
theorem bX.FJ{d':ak}{x u w:ID}(h:bX d' x)(hu:cf d' (x,0)=some u)(hw:cf d' (x,1)=some w)(k:cq (dg d' x) u w){R:List ID}(hr:oS d' R):oS (dg d' x) R:=by
 have key:∀{a b:ID},cq d' a b→cq (dg d' x) a b:=fun {a b} m=>by
  rcases h.Wt hu hw m with m|⟨m,q⟩|⟨m,q⟩
  ·exact m
  ·exact(m.trans k).trans q
  ·exact(m.trans (k.symm h.w)).trans q
 refine⟨hr.n,fun r ya=>h.ED.2 (hr.v r ya),fun r ya s hs m=>hr.i r ya s hs (h.conn m),fun v hv=>?_⟩;obtain⟨v',BL,he⟩:=h.ED.1 ⟨v,hv,rfl⟩;obtain⟨r,h1,h2⟩:=hr.c v' BL
 grind
theorem bX.Jh{d':ak}{x:ID}(h:bX d' x):∃u w,cf d' (x,0)=some u∧cf d' (x,1)=some w∧(∃v∈d'.1,v.1=u)∧∃v∈d'.1,v.1=w:=by
 obtain⟨v,hv,_,h1⟩:=tC h.wf h.x0;obtain⟨v2,BI,_,h2⟩:=tC h.wf h.x1
 grind
theorem bX.Wu{d':ak}{x u w:ID}(h:bX d' x)(hu:cf d' (x,0)=some u)(hw:cf d' (x,1)=some w)(k:¬cq (dg d' x) u w){R:List ID}(hr:oS d' R):∃R2,oS (dg d' x) R2∧R2.length=R.length+1:=by
 have uv:∃v∈d'.1,v.1=u:=by
  obtain⟨v,hv,_,h1⟩:=tC h.wf h.x0
  grind
 have wv:∃v∈d'.1,v.1=w:=by
  obtain⟨v,hv,_,h1⟩:=tC h.wf h.x1
  grind
 have uw:cq d' u w:=Bf.conn ⟨(x,0),h.x0,hu,by grind [EA]⟩;obtain⟨v0,ZZ,hvu⟩:=uv;obtain⟨r,ya,hur⟩:=hr.c v0 ZZ;rw[hvu]at hur;have sep:∀s∈R.erase r,s∈R∧¬cq d' s u∧¬cq d' s w:=fun s hs=>by
  have h1:=adW hs;have h2:s≠r:=fun e=>by subst e;exact absurd hs (List.Nodup.not_mem_erase hr.n)
  exact⟨h1,fun m=>h2 (hr.i s h1 r ya (m.trans hur)),fun m=>h2 (hr.i s h1 r ya ((m.trans (uw.symm h.wf)).trans hur))⟩
 refine⟨u::w::R.erase r,⟨?_,?_,?_,?_⟩,?_⟩
 ·refine ab1.2 ⟨fun m=>?_,ab1.2 ⟨fun m=>(sep w m).2.2 (.refl _),hr.n.erase r⟩⟩;rcases abD.1 m with m|m
  ·exact k (m▸.refl _)
  simp_all
 ·intro s hs;rcases abD.1 hs with rfl|hs
  ·exact h.ED.2 ⟨v0,ZZ,hvu⟩
  rcases abD.1 hs with rfl|hs
  ·exact h.ED.2 wv
  ·exact h.ED.2 (hr.v s (sep s hs).1)
 ·intro a ha b hb m;rcases abD.1 ha with ea|ha
  ·rcases abD.1 hb with eb|hb
   ·rw[ea,eb]
   rcases abD.1 hb with eb|hb
   ·simp_all
   ·exact absurd ((h.conn (ea▸m)).symm h.wf) (sep b hb).2.1
  rcases abD.1 ha with ea|ha
  ·rcases abD.1 hb with eb|hb
   ·exact absurd ((ea▸eb▸m).symm h.w) k
   rcases abD.1 hb with eb|hb
   ·rw[ea,eb]
   ·exact absurd ((h.conn (ea▸m)).symm h.wf) (sep b hb).2.2
  ·rcases abD.1 hb with eb|hb
   ·exact absurd (eb▸h.conn m) (sep a ha).2.1
   rcases abD.1 hb with eb|hb
   ·exact absurd (eb▸h.conn m) (sep a ha).2.2
   ·exact hr.i a (sep a ha).1 b (sep b hb).1 (h.conn m)
 ·intro v hv;obtain⟨v',BL,he⟩:=h.ED.1 ⟨v,hv,rfl⟩;obtain⟨s,h1,h2⟩:=hr.c v' BL;rw[he]at h2;by_cases hsr:s=r
  ·subst hsr;rcases h.Wt hu hw (h2.trans (hur.symm h.wf)) with m|⟨m,_⟩|⟨m,_⟩
   ·simp_all
   ·simp_all
   simp_all
  ·have hse:s∈R.erase r:=(adX hsr).2 h1;rcases h.Wt hu hw h2 with m|⟨_,q⟩|⟨_,q⟩
   ·grind
   ·simp_all
   simp_all
 grind
theorem bX.HD{d':ak}{x u w:ID}(h:bX d' x)(hu:cf d' (x,0)=some u)(hw:cf d' (x,1)=some w)(hf:¬NZ d' (x,0) (x,1)):cq (dg d' x) u w:=by
 have hm:(x,0)∈(bW d').flatten:=(bR h.wf).p.mem_iff.2 h.x0;obtain⟨c,hc,h0⟩:=adv.1 hm;have h1:(x,1)∉c:=fun k=>hf ⟨c,hc,h0,k⟩;have Eu:=(bR h.wf).c c hc;obtain⟨B,k1,k2⟩:=Eu.head h0;have hcd:∀z∈c,z∈an d'.1:=fun z hz=>(bR h.wf).p.mem_iff.1 (adv.2 ⟨c,hc,hz⟩);have cn:c.Nodup:=by
  obtain⟨p,q,e⟩:=adt hc;have:=(bR h.wf).p.nodup_iff.2 h.wf.rw.n
  grind
 have bn:=k2.nodup_iff.2 cn;have amA:∀z∈an d'.1,cf d' (Vs.ph d' z)=cf d' (aj z):=fun z hz=>by have ho:=h.wf.other hz;obtain⟨v,hv,hzv⟩:=aS.1 ho;rw[jJ hz,kd h.wf.rw hv hzv];show Fb d'.1 _=Fb d'.1 _;rw[fh h.wf.rw hv (kV (h.wf.rw.ring hv) hzv),fh h.wf.rw hv hzv]
 have inC:∀z∈B,z∈an (dg d' x).1:=fun z hz=>by
  have hzc:z∈c:=k2.mem_iff.1 (abA _ hz);rcases abD.1 (h.p.mem_iff.1 (hcd z hzc)) with e|e
  ·simp_all
  grind
 have walk:∀(B:List ab) (a e:ID) (z:ab),(∀y∈B,y∈an (dg d' x).1)→Path (Vs.ph d') B z→cf d' z=some e→(∀y,B.head? = some y→cf d' y=some a)→(B=[]→a=e)→cq (dg d' x) a e:=by
  intro B
  induction B with
  |nil=>intro a e z _ _ _ _ h5;rw[h5 rfl];exact .refl _
  |cons y r ih =>
   intro a e z hB hp hz ha _;have hy:=hB y (by simp);have hyd:=h.sub hy;obtain⟨v,hv,X3,Bq⟩:=tC h.wf (h.wf.other hyd);have Y9:Bf (dg d' x) a v.1:=⟨y,hy,by rw[h.at hy];exact ha y rfl,by rw[h.at (h.w.other hy)];exact Bq⟩;have ma:cf d' (r.head?.getD z)=some v.1:=by rw[←show Vs.ph d' y=r.head?.getD z from hp.1,amA y hyd];exact Bq
   refine Y9.conn.trans (ih v.1 e z (fun q hq=>hB q (abA _ hq)) hp.2 hz (fun q hq=>?_) (fun hr=>?_))
   ·simp_all
   simp_all
 obtain⟨fx,pB⟩:=(show Path (Vs.ph d') ((x,0)::B) (x,0) from k1);have amB:cf d' (B.head?.getD (x,0))=some w:=by
  grind [EA]
 refine(walk B w u (x,0) inC pB hu (fun y hy=>by simp_all) (fun hB=>?_)).symm h.w;simp_all
theorem L6{d:ak}(h:an d.1=[]){a b:ID}(k:cq d a b):a=b:=by
 induction k with
 |refl=>rfl
 |tail _ j _=>obtain⟨z,hz,_⟩:=j;simp_all
theorem cc.ids{l:List ai}(h:cc l):(l.map (·.1)).Nodup:=by unfold List.Nodup;rw[List.pairwise_map];exact h.imp fun {a b} k e=>by grind [b5]
theorem PO:∀(n:Nat) (d:ak),Wf d→d.2.length=n→∀R,oS d R→∃k,d.1.length+ft d+2*k=2*R.length+d.2.length
 |0,d,hw,hl,R,hr=>by
  have he:d.2=[]:=by simpa using hl
  have hd:an d.1=[]:=by have:=hw.pd;rw[he]at this;exact List.perm_nil.1 this
  have abP:oS d (d.1.map (·.1)):=⟨hw.sv.ids,fun r hr=>by simp_all,fun r _ s _ k=>L6 hd k,fun v hv=>⟨v.1,acn.2 ⟨v,hv,rfl⟩,.refl _⟩⟩;have hlen:=hr.len hw abP;have hf:bW d=[]:=by unfold bW;rw[he];rfl
  have ha:al d.1=d.1.length:=by
   unfold al;rw[List.countP_eq_length];intro v hv;rw[List.isEmpty_iff]
   cases hq:v.2.1 with
   |nil=>rfl
   |cons y r =>have:y∈an d.1:=aS.2 ⟨v,hv,by rw[hq];simp⟩;simp_all
  refine⟨0,?_⟩
  grind [ft]
 |n+1,d,hw,hl,R,hr=>by
  obtain⟨e,r,he⟩:∃e r,d.2=e::r:=by
   cases hq:d.2 with
   |nil=>simp_all
   |cons e r=>simp_all
  have hc:bX d e.1:=⟨hw,by grind [ba]⟩;obtain⟨u,w,hu,hwt,_,_⟩:=hc.Jh;have hv:(dg d e.1).1.length=d.1.length:=by have:=congrArg List.length hc.ids;simp_all
  have vl:(dg d e.1).2.length=n:=by
   have h1:=hc.w.pd.length_eq;have h2:=hw.pd.length_eq;have h3:=hc.p.length_eq;have e2:∀l:List ag,(ends l).length=2*l.length:=fun l=>by
    induction l with
    |nil=>rfl
    |cons e r ih=>grind [gE]
   grind
  by_cases hf:NZ d (e.1,0) (e.1,1)
  ·have h1:=(hc.same hf).1;by_cases k:cq (dg d e.1) u w
   ·obtain⟨g,hg⟩:=PO n (dg d e.1) hc.w vl R (hc.FJ hu hwt k hr);exact⟨g+1,by omega⟩
   ·obtain⟨R2,h2,h3⟩:=hc.Wu hu hwt k hr;obtain⟨g,hg⟩:=PO n (dg d e.1) hc.w vl R2 h2
    grind
  ·have h1:=hc.diff hf;obtain⟨g,hg⟩:=PO n (dg d e.1) hc.w vl R (hc.FJ hu hwt (hc.HD hu hwt hf) hr)
   grind
def cU(d:ak)(i:Nat):ID:=((d.1[i]?).getD zV).1
theorem rz{d:ak}{i:Nat}{v:ai}(h:d.1[i]? = some v):cU d i=v.1:=by grind [cU]
theorem ke{d:ak}(hs:cc d.1){i j:Nat}(hi:i<d.1.length)(hj:j<d.1.length)(h:cU d i=cU d j):i=j:=by have h1:=aa8 hi;have h2:=aa8 hj;rw[rz h1,rz h2]at h;rw[kN hs h1 rfl,kN hs h2 rfl,h]
theorem Wv{x:ID}:∀{l:List ai} {i:Nat} {v:ai} (k:Int),l[i]? = some v→v.1=x→(∀j u,j<i→l[j]? = some u→u.1≠x)→B7 x l k=k+i
 |w::r,0,v,k,h,hv,_=>by simp_all [B7,if_pos]
 |w::r,i+1,v,k,h,hv,hn=>by have h0:=hn 0 w (by omega) (by simp);rw[B7,if_neg h0,Wv (i:=i) (v:=v) (k+1) (by simpa using h) hv (fun j u hj hu=>hn (j+1) u (by omega) (by simpa using hu))];omega
theorem Ww{d:ak}(hs:cc d.1){i:Nat}(hi:i<d.1.length):B7 (cU d i) d.1 0=(i:Int):=by
 grind [List.getElem?_eq_getElem,Wv,cU,rz,ke,trans]
theorem N0{d:ak}(hw:Wf d){z:ab}(hz:z∈an d.1):∃i,i<d.1.length∧cf d z=some (cU d i):=by
 obtain⟨v,hv,_,h⟩:=tC hw hz;obtain⟨i,hi,he⟩:=adN hv;refine⟨i,hi,?_⟩
 grind [rz,List.getElem?_eq_getElem]
structure Ji(d:ak)(L:List Int):Prop where
 n:L.length=d.1.length
 i:∀i,i<d.1.length→∃j:Nat,j≤i∧L.getD i 0=(j:Int)∧cq d (cU d i) (cU d j)
def gL(d:ak)(L:List Int)(i:Nat):Prop:=∀j,j<d.1.length→cq d (cU d i) (cU d j)→L.getD i 0≤(j:Int)
structure L7(d:ak)(L:List Int):Prop where
 l:Ji d L
 r:∀i,i<d.1.length→gL d L i
def FK(a b:Nat)(L:List Int):List Int:=(L.set a (min (L.getD a 0) (L.getD b 0))).set b (min (L.getD a 0) (L.getD b 0))
theorem Wx{L:List Int}{a b:Nat}(ha:a<L.length)(hb:b<L.length)(i:Nat):(FK a b L).getD i 0=if i=a∨i=b then min (L.getD a 0) (L.getD b 0) else L.getD i 0:=by
 unfold FK
 grind
theorem Sq{d:ak}(hw:Wf d){L:List Int}(h:Ji d L){a b:Nat}(ha:a<d.1.length)(hb:b<d.1.length)(zH:cq d (cU d a) (cU d b)):Ji d (FK a b L)∧(∀i,i<d.1.length→gL d L i→gL d (FK a b L) i)∧(gL d L a→gL d (FK a b L) b)∧(gL d L b→gL d (FK a b L) a):=by
 have S7:a<L.length:=by rw[h.n];exact ha
 have Rp:b<L.length:=by rw[h.n];exact hb
 have gl:=Wx S7 Rp;obtain⟨ja,a1,a2,a3⟩:=h.i a ha;obtain⟨jb,b1,b2,b3⟩:=h.i b hb;have hba:=zH.symm hw;refine⟨⟨by unfold FK;simp[h.n],fun i hi=>?_⟩,fun i hi hr j hj hc=>?_,fun hr j hj hc=>?_,fun hr j hj hc=>?_⟩
 ·rw[gl];by_cases Za:i=a∨i=b
  ·rw[if_pos Za];have conn:cq d (cU d i) (cU d a)∧cq d (cU d i) (cU d b):=by
    rcases Za with rfl|rfl
    ·exact⟨.refl _,zH⟩
    ·exact⟨hba,.refl _⟩
   by_cases hle:L.getD a 0≤L.getD b 0
   ·refine⟨ja,?_,by omega,conn.1.trans a3⟩;omega
   ·refine⟨jb,?_,by omega,conn.2.trans b3⟩;omega
  ·rw[if_neg Za];exact h.i i hi
 ·rw[gl]
  split
  ·rename_i Za;have:=hr j hj hc
   grind
  ·exact hr j hj hc
 ·rw[gl,if_pos (.inr rfl)];have:=hr j hj (zH.trans hc);omega
 ·rw[gl,if_pos (.inl rfl)];have:=hr j hj (hba.trans hc);omega
theorem acB{d:ak}(hw:Wf d){e:ag}(he:e∈d.2)(L:List Int):∃a b,a<d.1.length∧b<d.1.length∧cf d (e.1,0)=some (cU d a)∧cf d (e.1,1)=some (cU d b)∧I5 d e L=FK a b L:=by have h0:(e.1,0)∈an d.1:=hw.pd.mem_iff.2 (eC.2 ⟨e,he,rfl,.inl rfl⟩);have h1:(e.1,1)∈an d.1:=hw.pd.mem_iff.2 (eC.2 ⟨e,he,rfl,.inr rfl⟩);obtain⟨a,ha,ea⟩:=N0 hw h0;obtain⟨b,hb,eb⟩:=N0 hw h1;refine⟨a,b,ha,hb,ea,eb,?_⟩;unfold I5 FK;rw[ea,eb];simp only[Option.getD_some,Ww hw.sv ha,Ww hw.sv hb,Int.toNat_natCast];rfl
theorem wH{d:ak}(hw:Wf d):∀(l:List ag) {L:List Int},(∀e∈l,e∈d.2)→Ji d L→Ji d (kq d l L)∧(∀i,i<d.1.length→gL d L i→gL d (kq d l L) i) ∧(∀e∈l,∀a b,a<d.1.length→b<d.1.length→((cf d (e.1,0)=some (cU d a)∧cf d (e.1,1)=some (cU d b))∨(cf d (e.1,0)=some (cU d b)∧cf d (e.1,1)=some (cU d a)))→gL d L a→gL d (kq d l L) b)
 |[],L,_,h=>⟨h,fun i hi hr=>hr,fun e he=>by simp at he⟩
 |e::r,L,hl,h=>by
  have he:=hl e (ab4 ..);obtain⟨a,b,ha,hb,ea,eb,el⟩:=acB hw he L;have h0:(e.1,0)∈an d.1:=hw.pd.mem_iff.2 (eC.2 ⟨e,he,rfl,.inl rfl⟩);have zH:cq d (cU d a) (cU d b):=Bf.conn ⟨(e.1,0),h0,ea,by grind [EA]⟩;obtain⟨s1,s2,s3,s4⟩:=Sq hw h ha hb zH;obtain⟨t1,t2,t3⟩:=wH hw r (L:=FK a b L) (fun e he=>hl e (abA _ he)) s1;show Ji d (kq d r (I5 d e L))∧_∧_;rw[el];refine⟨t1,fun i hi hr=>?_,fun f hf p q hp hq H8 hr=>?_⟩
  ·grind [gL,kq,I5]
  ·show gL d (kq d r (I5 d e L)) q;rw[el];rcases abD.1 hf with rfl|hf
   ·refine t2 q hq ?_;rcases H8 with⟨k1,k2⟩|⟨k1,k2⟩
    ·rw[ea]at k1;rw[eb]at k2;have:=ke hw.sv ha hp (acP k1);subst this;have:=ke hw.sv hb hq (acP k2);simp_all
    ·rw[ea]at k1;rw[eb]at k2;have:=ke hw.sv ha hq (acP k1);subst this;have:=ke hw.sv hb hp (acP k2);simp_all
   grind
theorem N1{d:ak}(i:Nat)(hi:i<d.1.length):∃m,m<d.1.length∧cq d (cU d i) (cU d m)∧∀j,j<d.1.length→cq d (cU d i) (cU d j)→m≤j:=by
 induction i using Nat.strongRecOn with
 |ind i ih =>
  by_cases h:∃j,j<i∧cq d (cU d i) (cU d j)∧cq d (cU d j) (cU d i)
  ·obtain⟨j,hj,hc,pC⟩:=h;obtain⟨m,h1,h2,h3⟩:=ih j hj (by omega);exact⟨m,h1,hc.trans h2,fun k hk hck=>h3 k hk (pC.trans hck)⟩
  ·by_cases hs:∃j,j<i∧cq d (cU d i) (cU d j)
   ·obtain⟨j,hj,hc⟩:=hs;have key:∀n,n≤i→(∃m,m<n∧cq d (cU d i) (cU d m))→∃m,m<d.1.length∧cq d (cU d i) (cU d m)∧∀j,j<d.1.length→cq d (cU d i) (cU d j)→m≤j:=by
     intro n
     induction n with
     |zero=>omega
     |succ n ihn =>
      rintro hn ⟨m,hm,XW⟩;by_cases hb:∃m,m<n∧cq d (cU d i) (cU d m)
      ·grind
      grind
    exact key i (acf _) ⟨j,hj,hc⟩
   ·refine⟨i,hi,.refl _,fun j hj hc=>Classical.byContradiction fun k=>hs ⟨j,by omega,hc⟩⟩
theorem Sr{d:ak}(P:ID→Prop){x y:ID}(h:cq d x y)(hx:P x)(hy:¬P y):∃a b,Bf d a b∧P a∧¬P b:=by
 induction h with
 |refl=>simp_all
 | @tail b c k j ih =>
  grind
open Classical in
theorem L8{P Q:Nat→Prop}:∀{l:List Nat},(∀i∈l,P i→Q i)→(∃i∈l,Q i∧¬P i)→l.countP (fun i=>decide (P i))<l.countP (fun i=>decide (Q i))
 |[],_,h=>by simp_all
 |x::r,h,⟨i,hi,hq,hp⟩=>by
  have mono:r.countP (fun i=>decide (P i))≤r.countP (fun i=>decide (Q i)):=by
   have hr:∀i∈r,P i→Q i:=fun i hi=>h i (abA _ hi);clear h hi
   induction r with
   |nil=>simp
   |cons y r ih =>
    grind
  rw[List.countP_cons,List.countP_cons];rcases abD.1 hi with rfl|hi
  ·grind
  ·have:=L8 (l:=r) (fun i hi=>h i (abA _ hi)) ⟨i,hi,hq,hp⟩
   grind
theorem N2{d:ak}(hw:Wf d){L:List Int}(h:Ji d L)(hn:∃i,i<d.1.length∧¬gL d L i):∃i,i<d.1.length∧gL d (kq d d.2 L) i∧¬gL d L i:=by
 obtain⟨i,hi,hr⟩:=hn;obtain⟨m,m1,m2,m3⟩:=N1 i hi;have hm:gL d L m:=fun j hj hc=>by obtain⟨q,q1,q2,_⟩:=h.i m m1;have:=m3 j hj (m2.trans hc);rw[q2];omega
 let P:ID→Prop:=fun x=>∃k,k<d.1.length∧cU d k=x∧gL d L k
 have hx:P (cU d m):=⟨m,m1,rfl,hm⟩;have hy:¬P (cU d i):=fun⟨k,k1,k2,k3⟩=>by have:=ke hw.sv k1 hi k2;simp_all
 obtain⟨a,b,⟨z,hz,za,zb⟩,⟨p,p1,p2,p3⟩,hb⟩:=Sr P (m2.symm hw) hx hy;obtain⟨q,q1,q2⟩:=N0 hw (hw.other hz);rw[zb]at q2;have hbq:b=cU d q:=acP q2;obtain⟨e,he,e1,e2⟩:=eC.1 (hw.pd.mem_iff.1 hz);refine⟨q,q1,?_,fun k=>hb ⟨q,q1,hbq.symm,k⟩⟩;refine(wH hw d.2 (fun _ h=>h) h).2.2 e he p q p1 q1 ?_ p3;rw[p2,←hbq];obtain⟨z1,z2⟩:=z;simp only at e1 e2;subst e1;rcases e2 with rfl|rfl
 ·exact .inl ⟨za,zb⟩
 ·exact .inr ⟨zb,za⟩
open Classical in
theorem EE{d:ak}(hw:Wf d):∀(n:Nat) {L:List Int},Ji d L→d.1.length≤n+(List.range d.1.length).countP (fun i=>decide (gL d L i))→L7 d (Ly d n L)
 |0,L,h,hc=>by
  refine⟨h,fun i hi=>?_⟩;have h1:(List.range d.1.length).countP (fun i=>decide (gL d L i))=(List.range d.1.length).length:=by
   grind
  have:=List.countP_eq_length.1 h1 i (adr.2 hi);exact of_decide_eq_true this
 |n+1,L,h,hc=>by
  obtain⟨s1,s2,_⟩:=wH hw d.2 (fun _ h=>h) h;show L7 d (Ly d n (kq d d.2 L));refine EE hw n s1 ?_;by_cases hn:∃i,i<d.1.length∧¬gL d L i
  ·obtain⟨i,hi,h1,h2⟩:=N2 hw h hn;have:=L8 (P:=gL d L) (Q:=gL d (kq d d.2 L)) (l:=List.range d.1.length) (fun i hi=>s2 i (adr.1 hi)) ⟨i,adr.2 hi,h1,h2⟩;omega
  ·have:(List.range d.1.length).countP (fun i=>decide (gL d (kq d d.2 L) i))=(List.range d.1.length).length:=by rw[List.countP_eq_length];simp_all
   simp_all
theorem acC(d:ak):Ji d (FH d.1.length):=by
 refine⟨by unfold FH;simp,fun i hi=>⟨i,acf _,?_,.refl _⟩⟩
 grind [FH,List.getD]
theorem fi{d:ak}(hw:Wf d):L7 d (labels d):=EE hw d.1.length (acC d) (by omega)
theorem L7.uniq{d:ak}(hw:Wf d){L M:List Int}(h:L7 d L)(k:L7 d M):L=M:=by
 apply adz;intro i;by_cases hi:i<d.1.length
 ·have e1:L[i]? = some (L.getD i 0):=by rw[List.getElem?_eq_getElem (by rw[h.l.n];exact hi)];grind
  have e2:M[i]? = some (M.getD i 0):=by rw[List.getElem?_eq_getElem (by rw[k.l.n];exact hi)];grind
  obtain⟨a,a1,a2,a3⟩:=h.l.i i hi;obtain⟨b,b1,b2,b3⟩:=k.l.i i hi;have h1:=h.r i hi b (by omega) b3;have h2:=k.r i hi a (by omega) a3
  grind
 ·rw[List.getElem?_eq_none (by rw[h.l.n];omega),List.getElem?_eq_none (by rw[k.l.n];omega)]
def nJ(d:ak)(L:List Int):List ID:=((List.range d.1.length).filter fun i=>decide (L.getD i 0=(i:Int))).map (cU d)
theorem lU{d:ak}(hw:Wf d){L:List Int}(h:L7 d L):oS d (nJ d L):=by
 have mem:∀{r:ID},r∈nJ d L↔∃i,i<d.1.length∧L.getD i 0=(i:Int)∧cU d i=r:=fun {r}=>by
  unfold nJ
  grind
 refine⟨?_,fun r hr=>?_,fun r hr s hs hc=>?_,fun v hv=>?_⟩
 ·unfold nJ List.Nodup;rw[List.pairwise_map];have hp:((List.range d.1.length).filter fun i=>decide (L.getD i 0=(i:Int))).Nodup:=List.nodup_range.filter _;refine List.Pairwise.imp_of_mem (fun {a b} ha hb bB e=>bB ?_) hp;exact ke hw.sv (adr.1 (adE.1 ha).1) (adr.1 (adE.1 hb).1) e
 ·obtain⟨i,hi,_,rfl⟩:=mem.1 hr;exact⟨d.1[i],acV hi,(rz (aa8 hi)).symm⟩
 ·obtain⟨i,hi,h1,rfl⟩:=mem.1 hr;obtain⟨j,hj,h2,rfl⟩:=mem.1 hs;have k1:=h.r i hi j hj hc;have k2:=h.r j hj i hi (hc.symm hw)
  grind
 ·obtain⟨i,hi,he⟩:=adN hv;have bM:cU d i=v.1:=by rw[rz (List.getElem?_eq_getElem hi),he]
  obtain⟨j,j1,j2,j3⟩:=h.l.i i hi;refine⟨cU d j,mem.2 ⟨j,by omega,?_,rfl⟩,by simp_all⟩;obtain⟨k,k1,k2,k3⟩:=h.l.i j (by omega);have h1:=h.r i hi k (by omega) (j3.trans k3);omega
theorem z7:∀(l:List Int) (i:Nat) (n:Nat),n+l.length≤1000000→ri l (i:Int) (n:Int)=((n+((List.range l.length).filter fun j=>decide (l.getD j 0=((i+j:Nat):Int))).length:Nat):Int)
 |[],i,n,_=>by simp[ri]
 |x::r,i,n,h=>by
  simp at h;have e:((List.range (x::r).length).filter fun j=>decide ((x::r).getD j 0=((i+j:Nat):Int))).length=(if x=(i:Int) then 1 else 0)+((List.range r.length).filter fun j=>decide (r.getD j 0=((i+1+j:Nat):Int))).length:=by
   rw[List.length_cons,List.range_succ_eq_map,List.filter_cons];have e2:((List.range r.length).map Nat.succ).filter (fun j=>decide ((x::r).getD j 0=((i+j:Nat):Int)))=((List.range r.length).filter fun j=>decide (r.getD j 0=((i+1+j:Nat):Int))).map Nat.succ:=by
    rw[List.filter_map];congr 1;apply List.filter_congr
    grind
   grind
  rw[e];unfold ri;have hi:((i:Int)+1)=((i+1:Nat):Int):=by omega
  rw[hi];by_cases hx:x=(i:Int)
  ·rw[if_pos hx,if_pos hx];have hw:IntKind.wrap .i64 ((n:Int)+1)=((n+1:Nat):Int):=by grind [wrap_small]
   rw[hw,z7 r (i+1) (n+1) (by omega)];congr 1;omega
  ·rw[if_neg hx,if_neg hx,z7 r (i+1) n (by omega)];congr 1;omega
theorem uV{d:ak}(hw:Wf d):fE d=((nJ d (labels d)).length:Int):=by have h:=fi hw;have hn:=hw.nv;unfold fE;have:=z7 (labels d) 0 0 (by rw[h.l.n];omega);simp only[Nat.zero_add]at this;have e:ri (labels d) 0 0=ri (labels d) ((0:Nat):Int) ((0:Nat):Int):=rfl;rw[e,this];unfold nJ;rw[List.length_map,h.l.n]
theorem z8:∀(l:List ai) (n:Nat),n+l.length≤1000000→wA l (n:Int)=((n+al l:Nat):Int)
 |[],n,_=>by rfl
 |v::r,n,h=>by
  simp at h;unfold wA al;rw[List.countP_cons];by_cases hv:v.2.1.length=0
  ·have:v.2.1.isEmpty=true:=by simp_all
   have hw:IntKind.wrap .i64 ((n:Int)+1)=((n+1:Nat):Int):=by grind [wrap_small]
   rw[if_pos hv,hw,z8 r (n+1) (by omega),this]
   grind [al]
  ·have:v.2.1.isEmpty=false:=by simp_all
   rw[if_neg hv,z8 r n (by omega),this];unfold al;simp
theorem yn{d:ak}(hw:Wf d):(bW d).length≤80:=by
 have h:=bR hw;have h1:=h.p.length_eq;have h2:=hw.L5;have h3:(bW d).length≤(bW d).flatten.length:=by
  have hc:=h.c;generalize bW d=cs at hc
  induction cs with
  |nil=>simp
  |cons c r ih =>
   have:=ih (fun c hc'=>hc c (abA _ hc'));have h1:=(hc c (ab4 ..)).ne
   grind [Nat.pos_of_ne_zero,List.length_eq_zero_iff,List.length_cons,List.flatten_cons,List.length_append]
 omega
theorem Ss{d:ak}(hw:Wf d):Eb d=((ft d:Nat):Int):=by
 unfold Eb ft;have:=hw.nv
 grind [yn,z8,bW]
theorem EF{d:ak}(hw:Wf d){R:List ID}(hr:oS d R):∃k:Nat,bL d=(k:Int)∧d.1.length+ft d+2*k=2*R.length+d.2.length:=by
 have hl:=(lU hw (fi hw)).len hw hr;obtain⟨k,hk⟩:=PO d.2.length d hw rfl R hr;refine⟨k,?_,hk⟩;have hn:=hw.nv;have he:=hw.ne;have hf:=yn hw;have ha:al d.1≤d.1.length:=adD;have hR:R.length≤d.1.length:=by
  grind [nJ,List.length_map,Nat.le_trans,List.length_filter_le]
 have hft:ft d=(bW d).length+al d.1:=rfl;unfold bL;rw[uV hw,Ss hw,hl];rw[wrap_small (n:=2*((R.length:Nat):Int)) (by omega) (by omega)]
 grind [wrap_small,ft,Int.tdiv,Int.tdiv_eq_ediv_of_nonneg]
end Go.Vs
