/- Faces -/
import Derived.Test.YtoleelddkocpkaaGreatSplits
set_option linter.unusedVariables false
set_option linter.unusedSimpArgs false
namespace Go.Cy
variable {α:Type}
def Path(f:α→α):List α→α→Prop
 |[],_=>True
 |x::r,z=>f x=r.head?.getD z∧Path f r z
theorem Path.app{f:α→α}:∀{a b:List α} {z:α},Path f (a++b) z↔Path f a (b.head?.getD z)∧Path f b z
 |[],b,z=>by simp[Path]
 |x::r,b,z=>by simp_all [Path.app,List.cons_append,Path,and_assoc]
theorem Path.congr{f g:α→α}:∀{a:List α} {z:α},(∀x∈a,g x=f x)→Path f a z→Path g a z
 |[],_,_,_=>trivial
 |x::r,z,h,p=>⟨(h x (abV ..)).trans p.1,Path.congr (fun y hy=>h y (abt _ hy)) p.2⟩
def j7(f:α→α):List α→Prop
 |[]=>False
 |x::r=>Path f (x::r) x
theorem j7.two{f:α→α}{x y:α}{a b:List α}:j7 f ((x::a)++(y::b))↔Path f (x::a) y∧Path f (y::b) x:=by show Path f ((x::a)++(y::b)) x↔_;rw[Path.app];rfl
theorem j7.EX{f:α→α}:∀{a b:List α},j7 f (a++b)→j7 f (b++a)
 |[],b,h=>by simpa using h
 |x::a,[],h=>by simpa using h
 |x::a,y::b,h=>j7.two.2 ⟨(j7.two.1 h).2,(j7.two.1 h).1⟩
theorem j7.ne{f:α→α}{c:List α}(h:j7 f c):c≠[]:=by rintro rfl;exact h
theorem j7.congr{f g:α→α}{c:List α}(h:∀x∈c,g x=f x)(k:j7 f c):j7 g c:=by
 cases c with
 |nil=>exact k
 |cons x r=>exact Path.congr h k
theorem Path.step{f:α→α}:∀{a:List α} {z x:α},Path f a z→x∈a→f x∈a∨f x=z
 |y::r,z,x,p,hx=>by
  rcases abz.1 hx with rfl|hx
  ·cases r with
   |nil=>exact .inr p.1
   |cons u r=>exact .inl (by have:=p.1;simp at this;rw[this];simp)
  ·rcases Path.step p.2 hx with h|h
   ·exact .inl (abt _ h)
   ·exact .inr h
theorem j7.step{f:α→α}{c:List α}(h:j7 f c){x:α}(hx:x∈c):f x∈c:=by
 cases c with
 |nil=>exact h.elim
 |cons y r =>
  rcases Path.step (show Path f (y::r) y from h) hx with k|k
  ·exact k
  simp_all
def it(f:α→α):Nat→α→α
 |0,x=>x
 |n+1,x=>it f n (f x)
theorem j7.it{f:α→α}{c:List α}(h:j7 f c):∀(n:Nat) {x:α},x∈c→it f n x∈c
 |0,_,hx=>hx
 |n+1,_,hx=>j7.it h n (h.step hx)
theorem Path.reach{f:α→α}:∀{r:List α} {x z:α},Path f (x::r) z→∀y∈x::r,∃n,it f n x=y
 |[],x,z,_,y,hy=>by simp at hy;exact⟨0,hy.symm⟩
 |u::r,x,z,p,y,hy=>by
  rcases abz.1 hy with rfl|hy
  ·exact⟨0,rfl⟩
  ·have h1:f x=u:=p.1;obtain⟨n,hn⟩:=Path.reach p.2 y hy;exact⟨n+1,by show it f n (f x)=y;rw[h1];exact hn⟩
theorem j7.head{f:α→α}{c:List α}(h:j7 f c){x:α}(hx:x∈c):∃r,j7 f (x::r)∧(x::r).Perm c:=by
 obtain⟨a,b,rfl⟩:=adh hx
 grind [j7.EX,List.perm_append_comm]
theorem j7.reach{f:α→α}{c:List α}(h:j7 f c){x y:α}(hx:x∈c)(hy:y∈c):∃n,Cy.it f n x=y:=by obtain⟨r,h1,h2⟩:=h.head hx;exact Path.reach (show Path f (x::r) x from h1) y (h2.mem_iff.2 hy)
theorem j7.same{f:α→α}{c c':List α}(h:j7 f c)(h':j7 f c'){x:α}(hx:x∈c)(Tb:x∈c'){y:α}(hy:y∈c):y∈c':=by obtain⟨n,hn⟩:=h.reach hx hy;rw[←hn];exact h'.it n Tb
structure Hh(f:α→α)(D:List α)(cs:List (List α)):Prop where
 c:∀c∈cs,j7 f c
 p:cs.flatten.Perm D
theorem td(p q:List (List α))(c:List α):(p++c::q).flatten.Perm (c++(p++q).flatten):=by
 grind [List.flatten_append,List.flatten_cons,List.append_assoc,List.Perm.append_right,List.perm_append_comm]
theorem Hh.count{f:α→α}:∀{cs cs':List (List α)} {D:List α},D.Nodup→Hh f D cs→Hh f D cs'→cs.length=cs'.length
 |[],cs',D,hn,h,h'=>by
  have hD:D=[]:=by have:=h.p;simp at this;exact this.symm▸rfl
  subst hD
  cases cs' with
  |nil=>rfl
  |cons c r =>
   have:=h'.p.length_eq;have h1:=(h'.c c (by simp)).ne
   cases c with
   |nil=>exact absurd rfl h1
   |cons x c=>simp at this
 |c::r,cs',D,hn,h,h'=>by
  have hc:=h.c c (by simp);obtain⟨x,c0,rfl⟩:∃x c0,c=x::c0:=by
   cases c with
   |nil=>exact hc.elim
   |cons x c0=>exact⟨x,c0,rfl⟩
  have hx:x∈cs'.flatten:=h'.p.mem_iff.2 (h.p.mem_iff.1 (by simp));obtain⟨c',hc',ago⟩:=adj.1 hx;obtain⟨p,q,rfl⟩:=adh hc';have agp:=h'.c c' (by simp);have n1:(x::c0).Nodup:=by have:=h.p.nodup_iff.2 hn;rw[List.flatten_cons]at this;exact(adk.1 this).1
  have n2:c'.Nodup:=by have:=(td p q c').nodup_iff.1 (h'.p.nodup_iff.2 hn);exact(adk.1 this).1
  have pc:(x::c0).Perm c':=(List.perm_ext_iff_of_nodup n1 n2).2 fun y=>⟨fun hy=>hc.same agp (by simp) ago hy,fun hy=>agp.same hc ago (by simp) hy⟩;have pd:((x::c0)++r.flatten).Perm ((x::c0)++(p++q).flatten):=by
   have e1:((x::c0)++r.flatten).Perm D:=by have:=h.p;rwa [List.flatten_cons]at this
   have e2:(c'++(p++q).flatten).Perm D:=(td p q c').symm.trans h'.p;exact e1.trans (e2.symm.trans (adm _ pc.symm))
  have pr:=(List.perm_append_left_iff _).1 pd;have X2:r.flatten.Nodup:=by have:=h.p.nodup_iff.2 hn;rw[List.flatten_cons]at this;exact(adk.1 this).2.1
  have ih:=Hh.count (cs:=r) (cs':=p++q) (D:=r.flatten) X2 ⟨fun c hc=>h.c c (by simp[hc]),adD _⟩ ⟨fun c hc=>h'.c c (by rcases abX.1 hc with k|k<;>simp[k]),pr.symm⟩;simp at ih ⊢;omega
theorem Path.lN{f g:α→α}:∀{a:List α} {z z':α},Path f a z→z∉a.tail→(∀u∈a,f u≠z→g u=f u)→(∀u∈a,f u=z→g u=z')→Path g a z'
 |[],_,_,_,_,_,_=>trivial
 |[x],z,z',p,hz,h1,h2=>⟨h2 x (by simp) p.1,trivial⟩
 |x::y::r,z,z',p,hz,h1,h2=>by have e:f x=y:=p.1;have bz:y≠z:=fun k=>hz (by simp[k]);refine⟨(h1 x (by simp) (by rw[e];exact bz)).trans e,?_⟩;exact Path.lN p.2 (fun k=>hz (abt _ k)) (fun u hu=>h1 u (abt _ hu)) (fun u hu=>h2 u (abt _ hu))
def nz:List α→Nat
 |[]=>0
 |_::_=>1
def lO(l:List α):List (List α):=match l with | []=>[]|x::r=>[x::r]
theorem Ek(l:List α):(lO l).flatten=l:=by cases l<;>simp[lO]
theorem Hi(l:List α):(lO l).length=nz l:=by cases l<;>rfl
theorem nD{l:List α}{z:α}(h:z∈l.tail):z∈l:=List.mem_of_mem_tail h
section
variable [DecidableEq α]
def yf(f':α→α)(x y:α)(z:α):α :=if f' z=x then(if f' y=y then f' x else f' y) else if f' z=y then(if f' x=x then f' y else f' x) else f' z
theorem Hh.VV{f' f:α→α}{x y:α}{D:List α}{cs':List (List α)}{c:List α}(hxy:x≠y)(hn:(x::y::D).Nodup)(h:Hh f' (x::y::D) cs')(hf:∀z∈D,f z=yf f' x y z)(hc:c∈cs')(hx:x∈c)(hy:y∈c) :
  ∃cs,Hh f D cs∧cs.length+1=cs'.length+(if f' x=y then 0 else 1)+(if f' y=x then 0 else 1):=by
 obtain⟨p,q,rfl⟩:=adh hc;have Tk:=h.c c hc;obtain⟨r,h1,h2⟩:=Tk.head hx;have hyr:y∈r:=by
  grind
 obtain⟨B,A,rfl⟩:=adh hyr;have h3:j7 f' ((x::B)++(y::A)):=h1;obtain⟨⟨fx,pB⟩,⟨fy,pA⟩⟩:=j7.two.1 h3;have pd:(x::y::(B++A++(p++q).flatten)).Perm (x::y::D):=by
  refine List.Perm.trans ?_ h.p
  grind
 have pD:=(pd.cons_inv).cons_inv;have nd:=pd.nodup_iff.2 hn;have nx:x∉B++A++(p++q).flatten:=fun k=>(abP.1 nd).1 (abt _ k);have ny:y∉B++A++(p++q).flatten:=(abP.1 (abP.1 nd).2).1;have xB:x∉B:=fun k=>nx (by simp[k]);have xA:x∉A:=fun k=>nx (by simp[k]);have yB:y∉B:=fun k=>ny (by simp[k]);have yA:y∉A:=fun k=>ny (by simp[k]);have VW:∀z∈B++A++(p++q).flatten,z∈D:=fun z hz=>pD.mem_iff.1 hz;have cB:∀c∈lO B,j7 f c:=fun c hc=>by
  cases B with
  |nil=>simp[lO]at hc
  |cons b B =>
   have hc:c=b::B:=by grind [lO]
   subst hc;have fx:f' x=b:=fx;have bx:b≠x:=fun k=>xB (by simp[k]);refine Path.lN pB (fun k=>yB (nD k)) (fun u hu bz=>?_) (fun u hu heq=>?_)
   ·rw[hf u (VW u (by grind))];unfold yf;have:f' u≠x:=fun k=>by
     rcases pB.step hu with m|m
     ·simp_all
     ·exact bz m
    simp_all
   ·rw[hf u (VW u (by grind))];simp_all [yf,if_neg,if_pos]
 have cA:∀c∈lO A,j7 f c:=fun c hc=>by
  cases A with
  |nil=>simp[lO]at hc
  |cons a A =>
   have hc:c=a::A:=by grind [lO]
   subst hc;have fy:f' y=a:=fy;have ay:a≠y:=fun k=>yA (by simp[k]);refine Path.lN pA (fun k=>xA (nD k)) (fun u hu bz=>?_) (fun u hu heq=>?_)
   ·rw[hf u (VW u (by grind))];unfold yf;have:f' u≠y:=fun k=>by
     rcases pA.step hu with m|m
     ·simp_all
     ·exact bz m
    simp_all
   ·rw[hf u (VW u (by grind))];simp_all [yf,if_pos,if_neg]
 have cR:∀c∈p++q,j7 f c:=fun c hc=>by
  have hc':c∈p++((x::B)++(y::A))::q:=by
   grind
  have El:j7 f' c:=h.c c (by grind);refine El.congr fun z hz=>?_;have hzf:∀u∈c,u∈(p++q).flatten:=fun u hu=>adj.2 ⟨c,hc,hu⟩;have hm:=hzf _ (El.step hz);rw[hf z (VW z (List.mem_append_right _ (hzf z hz)))];unfold yf;rw[if_neg (fun k=>nx (List.mem_append_right _ (by simp_all))),if_neg (fun k=>ny (List.mem_append_right _ (by simp_all)))]
 refine⟨lO B++(lO A++(p++q)),⟨fun c hc=>?_,?_⟩,?_⟩
 ·grind
 ·grind [List.flatten_append,Ek,List.append_assoc]
 ·have eB:(if f' x=y then 0 else 1)=nz B:=by
   cases B with
   |nil=>exact if_pos fx
   |cons b B=>exact if_neg (fun k=>yB (by simp_all))
  have eA:(if f' y=x then 0 else 1)=nz A:=by
   cases A with
   |nil=>exact if_pos fy
   |cons a A=>exact if_neg (fun k=>xA (by simp_all))
  grind [List.length_append,Hi,List.length_cons]
theorem Hh.VX{f' f:α→α}{x y:α}{D:List α}{cs':List (List α)}{c:List α}(hxy:x≠y)(hn:(x::y::D).Nodup)(h:Hh f' (x::y::D) cs')(hf:∀z∈D,f z=yf f' x y z)(hc:c∈cs')(hx:x∈c)(hy:y∉c) :
  ∃cs,Hh f D cs∧cs.length+2=cs'.length+(if f' x=x∧f' y=y then 0 else 1):=by
 obtain⟨p,q,rfl⟩:=adh hc;have Tk:=h.c c hc;obtain⟨B,h1,h2⟩:=Tk.head hx;have hyc:y∈(p++q).flatten:=by have:y∈(p++c::q).flatten:=h.p.mem_iff.2 (by simp);simp_all
 obtain⟨c2,pf,amk⟩:=adj.1 hyc;have aml:c2∈p++c::q:=by grind
 obtain⟨A,h3,h4⟩:=(h.c c2 aml).head amk;obtain⟨p2,q2,HR⟩:=adh pf;obtain⟨fx,pB⟩:=(show Path f' (x::B) x from h1);obtain⟨fy,pA⟩:=(show Path f' (y::A) y from h3);have pd:(x::y::(B++A++(p2++q2).flatten)).Perm (x::y::D):=by
  refine List.Perm.trans ?_ h.p
  grind [td,p,c,List.Perm.append_right,List.Perm.append_left,List.append_assoc]
 have pD:=(pd.cons_inv).cons_inv;have nd:=pd.nodup_iff.2 hn;have nx:x∉B++A++(p2++q2).flatten:=fun k=>(abP.1 nd).1 (abt _ k);have ny:y∉B++A++(p2++q2).flatten:=(abP.1 (abP.1 nd).2).1;have xB:x∉B:=fun k=>nx (by simp[k]);have xA:x∉A:=fun k=>nx (by simp[k]);have yB:y∉B:=fun k=>ny (by simp[k]);have yA:y∉A:=fun k=>ny (by simp[k]);have VW:∀z∈B++A++(p2++q2).flatten,z∈D:=fun z hz=>pD.mem_iff.1 hz;have nB:∀u∈B,f' u≠x→f u=f' u:=fun u hu bz=>by
  rw[hf u (VW u (by simp[hu]))];unfold yf;have:f' u≠y:=fun k=>by
   rcases pB.step hu with m|m
   ·simp_all
   ·exact bz m
  simp_all
 have nA:∀u∈A,f' u≠y→f u=f' u:=fun u hu bz=>by
  rw[hf u (VW u (by simp[hu]))];unfold yf;have:f' u≠x:=fun k=>by
   rcases pA.step hu with m|m
   ·simp_all
   ·exact bz m
  simp_all
 have eB:∀u∈B,f' u=x→f u=if f' y=y then f' x else f' y:=fun u hu heq=>by rw[hf u (VW u (by simp[hu]))];unfold yf;simp_all
 have eA:∀u∈A,f' u=y→f u=if f' x=x then f' y else f' x:=fun u hu heq=>by
  rw[hf u (VW u (by simp[hu]))];unfold yf
  grind
 have cBA:∀c∈lO (B++A),j7 f c:=fun c hc=>by
  cases B with
  |nil =>
   cases A with
   |nil=>simp[lO]at hc
   |cons a A =>
    have hc:c=a::A:=by grind [lO]
    subst hc;refine Path.lN pA (fun k=>yA (nD k)) nA (fun u hu heq=>?_)
    grind
  |cons b B =>
   have fxb:f' x=b:=fx;have bx:b≠x:=fun k=>xB (by simp[k])
   cases A with
   |nil =>
    have hc:c=b::B:=by grind [lO]
    subst hc;refine Path.lN pB (fun k=>xB (nD k)) nB (fun u hu heq=>?_)
    grind
   |cons a A =>
    have hc:c=(b::B)++(a::A):=by simpa[lO] using hc
    subst hc;have fya:f' y=a:=fy;have ay:a≠y:=fun k=>yA (by simp[k]);refine j7.two.2 ⟨Path.lN pB (fun k=>xB (nD k)) nB (fun u hu heq=>?_),Path.lN pA (fun k=>yA (nD k)) nA (fun u hu heq=>?_)⟩
    ·grind
    grind
 have cR:∀c∈p2++q2,j7 f c:=fun c hc=>by
  have XB:c∈p++q:=by grind
  have El:j7 f' c:=h.c c (by grind);refine El.congr fun z hz=>?_;have hzf:∀u∈c,u∈(p2++q2).flatten:=fun u hu=>adj.2 ⟨c,hc,hu⟩;have hm:=hzf _ (El.step hz);rw[hf z (VW z (List.mem_append_right _ (hzf z hz)))];unfold yf;rw[if_neg (fun k=>nx (List.mem_append_right _ (by grind))),if_neg (fun k=>ny (List.mem_append_right _ (by grind)))]
 refine⟨lO (B++A)++(p2++q2),⟨fun c hc=>?_,?_⟩,?_⟩
 ·grind
 ·rw[List.flatten_append,Ek];exact pD
 ·have eBA:(if f' x=x∧f' y=y then 0 else 1)=nz (B++A):=by
   cases B with
   |nil =>
    cases A with
    |nil=>exact if_pos ⟨fx,fy⟩
    |cons a A=>exact if_neg (fun k=>yA (by simp_all))
   |cons b B=>exact if_neg (fun k=>xB (by grind))
  grind [p,List.length_append,Hi,List.length_cons]
end
end Go.Cy
namespace Go.Vs
open Go.Proofs Go.Cy
def skip(x:ab)(s:ab→ab)(z:ab):ab:=if s z=x then s x else s z
def dn(row:List ab)(x:ab):ab:=(dB row x 1).getD zD
theorem pZ{row:List ab}(hn:row.Nodup){i:Nat}{x:ab}(hx:row[i]? = some x):dn row x=(row[(i+1)%row.length]?).getD zD:=by unfold dn dB;rw[if_pos (List.mem_of_getElem? hx),YH hn hx,Int.toNat_natCast]
theorem Hj{row:List ab}(hn:row.Nodup):∀(r p:List ab),row=p++r→Path (dn row) r (row.head?.getD zD)
 |[],_,_=>trivial
 |x::r,p,h=>by
  refine⟨?_,Hj hn r (p++[x]) (by rw[h];simp)⟩;have hx:row[p.length]? = some x:=by rw[h];simp
  rw[pZ hn hx]
  cases r with
  |nil =>
   have hl:row.length=p.length+1:=by rw[h];simp
   rw[hl,Nat.mod_self];show(row[0]?).getD zD=row.head?.getD zD;rw[List.head?_eq_getElem?]
  |cons y r =>
   have hl:p.length+1<row.length:=by rw[h];simp
   rw[Nat.mod_eq_of_lt hl];have:row[p.length+1]? = some y:=by rw[h];simp
   rw[this];rfl
theorem te{row:List ab}(hn:row.Nodup)(h0:row≠[]):j7 (dn row) row:=by
 have:=Hj hn row [] rfl
 cases row with
 |nil=>simp_all
 |cons x r=>exact this
theorem Em{f g:ab→ab}:∀{a:List ab} {z:ab},Path f a z→Path g a z→∀x∈a,f x=g x
 |y::r,z,p,q,x,hx=>by
  rcases abz.1 hx with rfl|hx
  ·exact p.1.trans q.1.symm
  ·exact Em p.2 q.2 x hx
theorem Hk{f g:ab→ab}{c:List ab}(h:j7 f c)(k:j7 g c):∀x∈c,f x=g x:=by
 cases c with
 |nil=>exact h.elim
 |cons y r=>exact Em h k
theorem LA{f:ab→ab}{row:List ab}{j:Nat}(h:j7 f (EX row j)):j7 f row:=by
 grind [EX,j7.EX,List.take_append_drop]
theorem kS{row:List ab}(hn:row.Nodup){x:ab}(hx:x∈row):dn row x∈row:=(te hn (adC hx)).step hx
theorem Hl{f:ab→ab}:∀{a:List ab} {z:ab},Path f a z→a≠[]→∃l,l∈a∧f l=z
 |[x],z,p,_=>⟨x,by simp,p.1⟩
 |x::y::r,z,p,_=>by obtain⟨l,h1,h2⟩:=Hl p.2 (by simp);exact⟨l,abt _ h1,h2⟩
theorem RY{row:List ab}(hn:row.Nodup){x y:ab}(hx:x∈row)(hy:y∈row)(h:dn row x=dn row y):x=y:=by
 obtain⟨i,hi⟩:=adq hx;obtain⟨j,hj⟩:=adq hy;have rB:=(abu.1 hi).1;have ME:=(abu.1 hj).1;have hp:0<row.length:=by omega
 rw[pZ hn hi,pZ hn hj,List.getElem?_eq_getElem (Nat.mod_lt _ hp),List.getElem?_eq_getElem (Nat.mod_lt _ hp)]at h;have h2:(i+1)%row.length=(j+1)%row.length:=Hg hn (by simpa using h);have h3:i=j:=by
  by_cases a:i+1<row.length<;>by_cases b:j+1<row.length
  ·grind [Nat.mod_eq_of_lt]
  ·grind [Nat.mod_eq_of_lt,Nat.mod_self]
  ·grind [Nat.mod_eq_of_lt,Nat.mod_self]
  ·omega
 simp_all
theorem RZ{row:List ab}(hn:row.Nodup){x z:ab}(hx:x∈row)(hz:z∈row)(hzx:z≠x):dn (iM row x) z=skip x (dn row) z:=by
 obtain⟨A,B,rfl⟩:=adh hx;obtain⟨k,hk⟩:=adq hx;have he:(A++x::B).filter (fun e=>decide (e≠x))=A++B:=by
  have hx2:(A++x::B)[A.length]? = some x:=by simp
  rw[zM hn hx2];simp
 have QT:(x::(B++A)).Nodup:=by have p:(A++x::B).Perm (x::(B++A)):=List.perm_middle.trans (List.Perm.cons x List.perm_append_comm);exact p.nodup_iff.1 hn
 have EV:z∈B++A:=by
  rcases abX.1 hz with k|k
  ·exact abA _ k
  ·rcases abz.1 k with k|k
   ·exact absurd k hzx
   ·exact abG _ k
 have c1:j7 (dn (A++x::B)) (x::(B++A)):=by have:=(te hn (adC hx)).EX;simpa using this
 obtain⟨fx,pL⟩:=(show Path (dn (A++x::B)) (x::(B++A)) x from c1);have c2:j7 (skip x (dn (A++x::B))) (B++A):=by
  generalize hL:B++A=L at *
  cases L with
  |nil=>simp at EV
  |cons l L =>
   have fx:dn (A++x::B) x=l:=fx;have As:x∉l::L:=(abP.1 QT).1;refine Path.lN pL (fun k=>As (nD k)) (fun u hu bz=>?_) (fun u hu heq=>?_)
   ·unfold skip;rw[if_neg bz]
   ·unfold skip;rw[if_pos heq,fx]
 have hr:iM (A++x::B) x=cp (A++B):=by unfold iM;rw[he]
 obtain⟨j,hj,hjr⟩:=A3 (A++B);have nAB:(A++B).Nodup:=(List.perm_append_comm (l₁:=B) (l₂:=A)).nodup_iff.1 (abP.1 QT).2;have amn:(iM (A++x::B) x).Nodup:=by rw[hr];exact(kL _).nodup_iff.2 nAB
 have hzm:z∈iM (A++x::B) x:=by
  rw[hr,pQ];rcases abX.1 EV with k|k
  ·exact abA _ k
  ·exact abG _ k
 have c3:j7 (dn (iM (A++x::B) x)) (A++B):=by have:=te amn (adC hzm);generalize dn (iM (A++x::B) x)=g at *;rw[hr,hjr]at this;exact LA this
 exact Hk (j7.EX c3) c2 z EV
def sg(d:ak)(x:ab):ab:=(kj d x).getD zD
def ph(d:ak)(x:ab):ab:=(Jn d x).getD zD
theorem En{d:ak}(h:Rw d.1){v:ai}{x:ab}(hv:v∈d.1)(hx:x∈v.2.1):kj d x=dB v.2.1 x 1:=by unfold kj cd;rw[eZ h hv hx];show dB (bH d v.1) x 1=_;rw[kN h.s hv]
theorem j8{d:ak}(h:Rw d.1){v:ai}{x:ab}(hv:v∈d.1)(hx:x∈v.2.1):sg d x=dn v.2.1 x:=by
 grind [sg,dn,En]
theorem Nz{d:ak}(h:Rw d.1){x:ab}(hx:x∈an d.1):kj d x=some (sg d x):=by
 obtain⟨v,hv,oS⟩:=aU.1 hx;have:kj d x=some (dn v.2.1 x):=by
  rw[En h hv oS];unfold dn dB;rw[if_pos oS]
  grind [List.length_pos_of_mem,List.getElem?_eq_getElem,Nat.mod_lt]
 grind [j8]
theorem YK{d:ak}(h:Rw d.1){x:ab}(hx:x∈an d.1):sg d x∈an d.1:=by obtain⟨v,hv,oS⟩:=aU.1 hx;rw[j8 h hv oS];exact aU.2 ⟨v,hv,kS (h.ring hv) oS⟩
theorem VY{d:ak}(h:Rw d.1){x y:ab}(hx:x∈an d.1)(hy:y∈an d.1)(he:sg d x=sg d y):x=y:=by obtain⟨v,hv,oS⟩:=aU.1 hx;obtain⟨w,hw,hyw⟩:=aU.1 hy;rw[j8 h hv oS,j8 h hw hyw]at he;have h1:=kS (h.ring hv) oS;have h2:=kS (h.ring hw) hyw;rw[←he]at h2;have hwv:=h.one hv hw h1 h2;subst hwv;exact RY (h.ring hw) oS hyw he
theorem rh{d:ak}(h:Rw d.1){x z:ab}(hx:x∈an d.1)(hz:z∈an (aH d x).1):sg (aH d x) z=skip x (sg d) z:=by
 obtain⟨p,q⟩:=fU h hx;obtain⟨v,hv,oS⟩:=aU.1 hx;have hzd:z∈an d.1:=p.mem_iff.2 (abt _ hz);have hzx:z≠x:=fun k=>(abP.1 (p.nodup_iff.1 h.n)).1 (k▸hz);obtain⟨w,hw,Mn⟩:=aU.1 hz;have hr:=kO h hv oS;have Mi:w∈d.1.map (uu v.1 (iM v.2.1 x)):=by rw[hr]at hw;exact hw
 obtain⟨u,hu,hwu⟩:=ace.1 Mi;rw[j8 q hw Mn];by_cases huv:u.1=v.1
 ·have huv:u=v:=by have h1:=j5 h.s hv;have h2:=j5 h.s hu;simp_all
  subst huv;have mK:w.2.1=iM u.2.1 x:=by rw[←hwu];unfold uu;simp_all
  rw[mK]at Mn ⊢;have IX:z∈u.2.1:=(uC oS (h.ring hu)).mem_iff.2 (abt _ Mn);rw[RZ (h.ring hu) oS IX hzx]
  grind [skip,j8]
 ·have mK:w=u:=by simp_all [uu,if_neg]
  subst mK;unfold skip;rw[j8 h hu Mn,if_neg];intro k;have:=kS (h.ring hu) Mn;rw[k]at this;exact huv (congrArg Prod.fst (h.one hv hu oS this))
theorem LB{d e:ak}(h:d.1=e.1)(x:ab):kj d x=kj e x:=by obtain⟨a,b⟩:=d;obtain⟨c,f⟩:=e;simp only at h;subst h;rfl
theorem bX{x:ab}(h:x.2=0∨x.2=1):aj (aj x)=x:=by obtain⟨x1,x2⟩:=x;simp only at h;rcases h with rfl|rfl<;>rfl
theorem Wf.side{d:ak}(h:Wf d){x:ab}(hx:x∈an d.1):x.2=0∨x.2=1:=by obtain⟨e,_,_,k⟩:=dZ.1 (h.pd.mem_iff.1 hx);exact k
theorem Wf.other{d:ak}(h:Wf d){x:ab}(hx:x∈an d.1):aj x∈an d.1:=by
 obtain⟨e,he,h1,h2⟩:=dZ.1 (h.pd.mem_iff.1 hx);refine h.pd.mem_iff.2 (dZ.2 ⟨e,he,h1,?_⟩)
 grind [hP]
theorem Eo{d:ak}{x:ab}(hx:x∈an d.1):(cd d x).isSome=true:=by
 grind [aU,cd,EY,Option.isSome_map,List.find?_isSome]
theorem jI{d:ak}{x:ab}(hx:x∈an d.1):ph d x=sg d (aj x):=by unfold ph Jn sg;rw[if_pos (Eo hx)]
theorem LC{d:ak}(h:Wf d){x:ab}(hx:x∈an d.1):Jn d x=some (ph d x):=by rw[jI hx];unfold Jn;rw[if_pos (Eo hx)];exact Nz h.rw (h.other hx)
theorem VZ{d:ak}(h:Wf d){x:ab}(hx:x∈an d.1):ph d x∈an d.1:=by rw[jI hx];exact YK h.rw (h.other hx)
theorem aci{d:ak}(h:Wf d){x y:ab}(hx:x∈an d.1)(hy:y∈an d.1)(he:ph d x=ph d y):x=y:=by rw[jI hx,jI hy]at he;have:=VY h.rw (h.other hx) (h.other hy) he;rw[←bX (h.side hx),←bX (h.side hy),this]
theorem LD{α:Type}[DecidableEq α]:∀{l D:List α},l.Nodup→(∀x∈l,x∈D)→l.length≤D.length
 |[],_,_,_=>adl _
 |x::r,D,hn,hs=>by
  have h1:=abP.1 hn;have hx:=hs x (abV ..);have ih:=LD (l:=r) (D:=D.erase x) h1.2 (fun y hy=>(adI (fun k=>h1.1 (by simp_all))).2 (hs y (abt _ hy)))
  grind
theorem V5{d:ak}(h:Wf d){out:List ab}{y:ab}(hn:out.Nodup)(hs:∀z∈out,z∈an d.1)(hp:Path (ph d) out y):y∉out.tail:=fun hy=>by
 cases out with
 |nil=>simp at hy
 |cons x r =>
  have hy:y∈r:=hy;obtain⟨p,q,rfl⟩:=adh hy;have key:∀(x:ab) (p:List ab),Path (ph d) (x::(p++y::q)) y→(x::(p++y::q)).Nodup→(∀z∈x::(p++y::q),z∈an d.1)→False:=by
   intro x p
   induction p generalizing x with
   |nil =>intro hp hn hs;have h1:ph d x=y:=hp.1;obtain⟨l,h2,h3⟩:=Hl hp.2 (by simp);have:=aci h (hs x (by simp)) (hs l (abt _ h2)) (h1.trans h3.symm);simp_all
   |cons u p ih =>intro hp hn hs;exact ih u hp.2 (abP.1 hn).2 (fun z hz=>hs z (abt _ hz))
  grind
theorem Wf.LF{d:ak}(h:Wf d):(an d.1).length≤80:=by
 have h2:=h.pd.length_eq;have h3:=h.ne;have:(ends d.2).length=2*d.2.length:=by
  clear h2 h3 h;generalize d.2=l
  induction l with
  |nil=>rfl
  |cons e r ih=>grind [gu]
 omega
theorem Ep{d:ak}(h:Wf d)(x:ab):∀(n:Nat) (y:ab) (r:List ab),(x::r).length+n=82→(x::r).Nodup→(∀z∈x::r,z∈an d.1)→Path (ph d) (x::r) y→y∈an d.1 → ∃r',s6 d x n y (x::r)=x::r'∧(x::r').Nodup∧(∀z∈x::r',z∈an d.1)∧j7 (ph d) (x::r')
 |0,y,r,hl,hn,hs,hp,hy=>by have:=LD hn hs;have:=h.LF;omega
 |n+1,y,r,hl,hn,hs,hp,hy=>by
  unfold s6;by_cases he:y=x
  ·subst he;rw[if_pos rfl];exact⟨r,rfl,hn,hs,hp⟩
  ·rw[if_neg he];have hyr:y∉x::r:=fun k=>by
    rcases abz.1 k with k|k
    ·exact he k
    ·exact V5 h hn hs hp k
   have e:(Jn d y).getD zD=ph d y:=rfl;rw[e];refine Ep h x n (ph d y) (r++[y]) (by simp at hl ⊢;omega) ?_ (fun z hz=>?_) ?_ (VZ h hy)
   ·show((x::r)++[y]).Nodup;refine adk.2 ⟨hn,by simp,fun a ha b hb=>?_⟩;simp at hb;subst hb;exact fun k=>hyr (k▸ha)
   ·have hz:z∈(x::r)++[y]:=hz;rcases abX.1 hz with k|k
    ·exact hs z k
    ·simp at k;rw[k];exact hy
   ·show Path (ph d) ((x::r)++[y]) (ph d y);exact Path.app.2 ⟨hp,rfl,trivial⟩
theorem Er{d:ak}(h:Wf d){x:ab}(hx:x∈an d.1):∃r,bm d x=x::r∧(x::r).Nodup∧(∀z∈x::r,z∈an d.1)∧j7 (ph d) (x::r):=by unfold bm;rw[LC h hx];exact Ep h x 81 (ph d x) [] rfl (by simp) (fun z hz=>by simp_all) ⟨rfl,trivial⟩ (VZ h hx)
theorem tf{d:ak}(h:Wf d):∀(l:List ab) (out:List (List ab)),(∀x∈l,x∈an d.1)→(∀c∈out,j7 (ph d) c)→out.flatten.Nodup→(∀x∈out.flatten,x∈an d.1) →(∀c∈jc d l out out.flatten,j7 (ph d) c)∧(jc d l out out.flatten).flatten.Nodup∧(∀x∈(jc d l out out.flatten).flatten,x∈an d.1)∧(∀x,x∈l∨x∈out.flatten→x∈(jc d l out out.flatten).flatten)
 |[],out,_,h1,h2,h3=>⟨h1,h2,h3,fun x k=>k.resolve_left (by simp)⟩
 |x::l,out,hl,h1,h2,h3=>by
  unfold jc;by_cases hx:x∈out.flatten
  ·rw[if_pos hx];obtain⟨a,b,c,e⟩:=tf h l out (fun y hy=>hl y (abt _ hy)) h1 h2 h3
   grind
  ·rw[if_neg hx];obtain⟨r,t1,t2,t3,t4⟩:=Er h (hl x (abV ..));have ef:out.flatten++bm d x=(out++[bm d x]).flatten:=by simp
   rw[ef];have aqM:∀y∈bm d x,y∉out.flatten:=fun y hy k=>by obtain⟨c,hc,hyc⟩:=adj.1 k;rw[t1]at hy;exact hx (adj.2 ⟨c,hc,t4.same (h1 c hc) hy hyc (abV ..)⟩)
   obtain⟨a,b,c,e⟩:=tf h l (out++[bm d x]) (fun y hy=>hl y (abt _ hy)) (fun c hc=>by
     grind)
    (by
     grind)
    (fun y hy=>by
     grind)
   grind
theorem ml:∀l:List ag,fi l=ends l
 |[]=>rfl
 |e::r=>by rw[gu,fi,ml r]
theorem bQ{d:ak}(h:Wf d):Hh (ph d) (an d.1) (bV d):=by obtain⟨a,b,c,e⟩:=tf h (fi d.2) [] (fun x hx=>h.pd.mem_iff.2 (by grind [ml])) (by simp) (by simp) (by simp);refine⟨a,(List.perm_ext_iff_of_nodup b h.rw.n).2 fun x=>⟨c x,fun hx=>e x (.inl (by rw[ml];exact h.pd.mem_iff.1 hx))⟩⟩
def da(d:ak)(x:ID):ak:=aM (aH (aH d (x,0)) (x,1)) zI x
theorem NA{d:ak}(h:Wf d)(x y:ab)(e:ID):(aM (aH (aH d x) y) zI e).1=(aH (aH d x) y).1:=uD (kP (kP h.gv x) y)
theorem Es(x:ID):aj (x,0)=(x,1):=rfl
theorem V6(x:ID):aj (x,1)=(x,0):=rfl
structure bW(d':ak)(x:ID):Prop where
 wf:Wf d'
 e:(aZ d'.2 x).isSome=true
theorem bW.x0{d':ak}{x:ID}(h:bW d' x):(x,0)∈an d'.1:=h.wf.kR h.e (.inl rfl)
theorem bW.x1{d':ak}{x:ID}(h:bW d' x):(x,1)∈an d'.1:=h.wf.kR h.e (.inr rfl)
theorem bW.p1{d':ak}{x:ID}(h:bW d' x):(an d'.1).Perm ((x,0)::an (aH d' (x,0)).1)∧Rw (aH d' (x,0)).1:=fU h.wf.rw h.x0
theorem bW.x1'{d':ak}{x:ID}(h:bW d' x):(x,1)∈an (aH d' (x,0)).1:=by
 rcases abz.1 (h.p1.1.mem_iff.1 h.x1) with k|k
 ·cases k
 ·exact k
theorem bW.p2{d':ak}{x:ID}(h:bW d' x):(an (aH d' (x,0)).1).Perm ((x,1)::an (aH (aH d' (x,0)) (x,1)).1)∧Rw (aH (aH d' (x,0)) (x,1)).1:=fU h.p1.2 h.x1'
theorem bW.v{d':ak}{x:ID}(h:bW d' x):(da d' x).1=(aH (aH d' (x,0)) (x,1)).1:=NA h.wf _ _ _
theorem bW.w{d':ak}{x:ID}(h:bW d' x):Wf (da d' x):=h.wf.cut h.e
theorem bW.p{d':ak}{x:ID}(h:bW d' x):(an d'.1).Perm ((x,0)::(x,1)::an (da d' x).1):=by rw[h.v];exact h.p1.1.trans (List.Perm.cons _ h.p2.1)
theorem bW.sg{d':ak}{x:ID}(h:bW d' x){z:ab}(hz:z∈an (da d' x).1):sg (da d' x) z=skip (x,1) (skip (x,0) (sg d')) z:=by
 have e1:Vs.sg (da d' x) z=Vs.sg (aH (aH d' (x,0)) (x,1)) z:=by unfold Vs.sg;rw[LB h.v]
 rw[h.v]at hz;have Ao:z∈an (aH d' (x,0)).1:=h.p2.1.mem_iff.2 (abt _ hz);rw[e1,rh h.p1.2 h.x1' hz];unfold skip;rw[rh h.wf.rw h.x0 Ao,rh h.wf.rw h.x0 h.x1'];rfl
theorem bW.ph{d':ak}{x:ID}(h:bW d' x){z:ab}(hz:z∈an (da d' x).1):ph (da d' x) z=yf (ph d') (x,0) (x,1) z:=by
 have Ck:z∈an d'.1:=h.p.mem_iff.2 (abt _ (abt _ hz));have ho:=h.w.other hz;have rY:aj z∈an d'.1:=h.p.mem_iff.2 (abt _ (abt _ ho));have nd:=h.p.nodup_iff.1 h.wf.rw.n;have Ot:aj z≠(x,1):=fun k=>(abP.1 (abP.1 nd).2).1 (k▸ho);rw[jI hz,h.sg ho];unfold yf;rw[jI Ck,jI h.x0,jI h.x1,Es,V6];generalize hW:aj z=w at *;have inj:Vs.sg d' (x,1)=(x,0)→Vs.sg d' w≠(x,0):=fun k1 k2=>Ot (VY h.wf.rw rY h.x1 (k2.trans k1.symm));unfold skip
 grind
def al(l:List ai):Nat:=l.countP fun v=>v.2.1.isEmpty
theorem Hm{row:List ab}(hn:row.Nodup){x:ab}(hx:x∈row):dn row x=x↔row.length=1:=by
 obtain⟨i,hi⟩:=adq hx;have rB:=(abu.1 hi).1;have hp:0<row.length:=by omega
 rw[pZ hn hi,List.getElem?_eq_getElem (Nat.mod_lt _ hp)];constructor
 ·intro h;have h1:row[(i+1)%row.length]? = some x:=by grind
  have h2:=zP hn h1 hi;by_cases c:i+1<row.length
  ·grind [Nat.mod_eq_of_lt]
  grind [Nat.mod_self]
 grind
theorem Et{d:ak}(h:Rw d.1){x:ab}(hx:x∈an d.1):al (aH d x).1=al d.1+if sg d x=x then 1 else 0:=by
 obtain⟨v,hv,oS⟩:=aU.1 hx;obtain⟨a,b,h1,_,_,h2⟩:=nC h.s hv;have e1:(aH d x).1=a++(v.1,(iM v.2.1 x,v.2.2))::b:=by rw[kO h hv oS];exact h2 _
 have p:=uC oS (h.ring hv);have hl:=p.length_eq;have v0:v.2.1.isEmpty=false:=by
  grind
 have v1:(iM v.2.1 x).isEmpty=decide (sg d x=x):=by rw[Bool.eq_iff_iff,List.isEmpty_iff,decide_eq_true_eq,j8 h hv oS,Hm (h.ring hv) oS,←List.length_eq_zero_iff];simp_all
 rw[e1]
 conv=>rhs;rw[h1]
 unfold al;rw[List.countP_append,List.countP_append,List.countP_cons,List.countP_cons];simp only[v0,v1]
 grind
def ft(d:ak):Nat:=(bV d).length+al d.1
def NB(d:ak)(x y:ab):Prop:=∃c∈bV d,x∈c∧y∈c
theorem bW.al{d':ak}{x:ID}(h:bW d' x):Vs.al (da d' x).1=Vs.al d'.1+(if Vs.ph d' (x,1)=(x,0) then 1 else 0)+(if Vs.ph d' (x,0)=(x,1)∨(Vs.ph d' (x,0)=(x,0)∧Vs.ph d' (x,1)=(x,1)) then 1 else 0):=by
 rw[h.v,Et h.p1.2 h.x1',Et h.wf.rw h.x0];have e0:Vs.ph d' (x,0)=Vs.sg d' (x,1):=jI h.x0;have e1:Vs.ph d' (x,1)=Vs.sg d' (x,0):=jI h.x1;rw[e0,e1,rh h.wf.rw h.x0 h.x1'];unfold skip
 grind
theorem ags(x:ID):((x,0):ab)≠(x,1):=fun k=>by cases k
theorem bW.same{d':ak}{x:ID}(h:bW d' x)(hf:NB d' (x,0) (x,1)):ft (da d' x)=ft d'+1∧(bV (da d' x)).length+1=(bV d').length+(if Vs.ph d' (x,0)=(x,1) then 0 else 1)+(if Vs.ph d' (x,1)=(x,0) then 0 else 1):=by
 obtain⟨c,hc,h0,h1⟩:=hf;have nd:=h.p.nodup_iff.1 h.wf.rw.n;have dec:Hh (Vs.ph d') ((x,0)::(x,1)::an (da d' x).1) (bV d'):=⟨(bQ h.wf).c,(bQ h.wf).p.trans h.p⟩;obtain⟨cs,k1,k2⟩:=Hh.VV (ags x) nd dec (fun z hz=>h.ph hz) hc h0 h1;have k3:=Hh.count (h.w.rw.n) (bQ h.w) k1;have k4:=h.al;have El:=(bQ h.wf).c c hc;have n0:¬(Vs.ph d' (x,0)=(x,0)):=fun k=>by
  obtain⟨n,hn⟩:=El.reach h0 h1;have:∀n,it (Vs.ph d') n (x,0)=(x,0):=fun n=>by
   induction n with
   |zero=>rfl
   |succ n ih=>grind [it,Vs.ph]
  simp_all
 refine⟨?_,by omega⟩;unfold ft
 grind
theorem bW.diff{d':ak}{x:ID}(h:bW d' x)(hf:¬NB d' (x,0) (x,1)):ft (da d' x)+1=ft d':=by
 have hm:(x,0)∈(bV d').flatten:=(bQ h.wf).p.mem_iff.2 h.x0;obtain⟨c,hc,h0⟩:=adj.1 hm;have h1:(x,1)∉c:=fun k=>hf ⟨c,hc,h0,k⟩;have nd:=h.p.nodup_iff.1 h.wf.rw.n;have dec:Hh (Vs.ph d') ((x,0)::(x,1)::an (da d' x).1) (bV d'):=⟨(bQ h.wf).c,(bQ h.wf).p.trans h.p⟩;obtain⟨cs,k1,k2⟩:=Hh.VX (ags x) nd dec (fun z hz=>h.ph hz) hc h0 h1;have k3:=Hh.count (h.w.rw.n) (bQ h.w) k1;have k4:=h.al;have El:=(bQ h.wf).c c hc;have n0:¬(Vs.ph d' (x,0)=(x,1)):=fun k=>h1 (k▸El.step h0);have n1:¬(Vs.ph d' (x,1)=(x,0)):=fun k=>by have Tx:(x,1)∈(bV d').flatten:=(bQ h.wf).p.mem_iff.2 h.x1;obtain⟨c2,pf,h2⟩:=adj.1 Tx;have:=((bQ h.wf).c c2 pf).step h2;rw[k]at this;exact hf ⟨c2,pf,this,h2⟩
 unfold ft
 grind
def A5(d:ak)(a b:ID):Prop:=∃z∈an d.1,cd d z=some a∧cd d (aj z)=some b
inductive cq (d:ak):ID→ID→Prop
 |refl (a:ID):cq d a a
 |tail {a b c:ID}:cq d a b→A5 d b c→cq d a c
theorem cq.trans{d:ak}{a b c:ID}(h:cq d a b)(k:cq d b c):cq d a c:=by
 induction k with
 |refl=>exact h
 |tail _ j ih=>exact ih.tail j
theorem A5.symm{d:ak}(hw:Wf d){a b:ID}(h:A5 d a b):A5 d b a:=by obtain⟨z,hz,h1,h2⟩:=h;exact⟨aj z,hw.other hz,h2,by rw[bX (hw.side hz)];exact h1⟩
theorem A5.conn{d:ak}{a b:ID}(h:A5 d a b):cq d a b:=(cq.refl a).tail h
theorem cq.symm{d:ak}(hw:Wf d){a b:ID}(h:cq d a b):cq d b a:=by
 induction h with
 |refl=>exact .refl _
 |tail _ j ih=>exact(j.symm hw).conn.trans ih
structure oM(d:ak)(R:List ID):Prop where
 n:R.Nodup
 v:∀r∈R,∃v∈d.1,v.1=r
 i:∀r∈R,∀s∈R,cq d r s→r=s
 c:∀v∈d.1,∃r∈R,cq d v.1 r
theorem IY{d:ak}(hw:Wf d):∀{R R':List ID},R.Nodup→(∀r∈R,∀s∈R,cq d r s→r=s)→(∀r∈R,∃s∈R',cq d r s)→R.length≤R'.length
 |[],_,_,_,_=>adl _
 |r::R,R',hn,hi,hc=>by
  obtain⟨s,hs,hrs⟩:=hc r (abV ..);have h1:=abP.1 hn;have ih:=IY hw (R:=R) (R':=R'.erase s) h1.2 (fun a ha b hb=>hi a (abt _ ha) b (abt _ hb)) (fun a ha=>by obtain⟨t,ht,Bi⟩:=hc a (abt _ ha);refine⟨t,(adI (fun k=>?_)).2 ht,Bi⟩;subst k;have:=hi a (abt _ ha) r (abV ..) (Bi.trans (hrs.symm hw));simp_all)
  grind
theorem oM.len{d:ak}(hw:Wf d){R R':List ID}(h:oM d R)(h':oM d R'):R.length=R'.length:=by
 refine Nat.le_antisymm (IY hw h.n h.i fun r hr=>?_) (IY hw h'.n h'.i fun r hr=>?_)
 ·obtain⟨v,hv,rfl⟩:=h.v r hr;exact h'.c v hv
 ·obtain⟨v,hv,rfl⟩:=h'.v r hr;exact h.c v hv
theorem tg{d:ak}(hw:Wf d){z:ab}(hz:z∈an d.1):∃v∈d.1,z∈v.2.1∧cd d z=some v.1:=by obtain⟨v,hv,hzv⟩:=aU.1 hz;exact⟨v,hv,hzv,eZ hw.rw hv hzv⟩
theorem Eu{d:ak}(h:Rw d.1){x z:ab}(hx:x∈an d.1)(hz:z∈an (aH d x).1):cd (aH d x) z=cd d z:=by
 obtain⟨p,q⟩:=fU h hx;obtain⟨v,hv,oS⟩:=aU.1 hx;obtain⟨w,hw,Mn⟩:=aU.1 hz;have hr:=kO h hv oS;have Mi:w∈d.1.map (uu v.1 (iM v.2.1 x)):=by rw[hr]at hw;exact hw
 obtain⟨u,hu,hwu⟩:=ace.1 Mi;have bL:w.1=u.1:=by grind [s8]
 have IX:z∈u.2.1:=by
  by_cases huv:u.1=v.1
  ·have huv:u=v:=by have h1:=j5 h.s hv;have h2:=j5 h.s hu;simp_all
   subst huv;have mK:w.2.1=iM u.2.1 x:=by rw[←hwu];unfold uu;simp_all
   rw[mK]at Mn;exact(uC oS (h.ring hu)).mem_iff.2 (abt _ Mn)
  simp_all [uu,if_neg]
 show EY (aH d x).1 z=EY d.1 z
 grind [eZ]
theorem bW.at{d':ak}{x:ID}(h:bW d' x){z:ab}(hz:z∈an (da d' x).1):cd (da d' x) z=cd d' z:=by
 have e:cd (da d' x) z=cd (aH (aH d' (x,0)) (x,1)) z:=by unfold cd;rw[h.v]
 rw[h.v]at hz;have Ao:z∈an (aH d' (x,0)).1:=h.p2.1.mem_iff.2 (abt _ hz);rw[e,Eu h.p1.2 h.x1' hz,Eu h.wf.rw h.x0 Ao]
theorem bW.sub{d':ak}{x:ID}(h:bW d' x){z:ab}(hz:z∈an (da d' x).1):z∈an d'.1:=h.p.mem_iff.2 (abt _ (abt _ hz))
theorem bW.YL{d':ak}{x:ID}(h:bW d' x){a b:ID}(k:A5 (da d' x) a b):A5 d' a b:=by obtain⟨z,hz,h1,h2⟩:=k;exact⟨z,h.sub hz,by rw[←h.at hz];exact h1,by rw[←h.at (h.w.other hz)];exact h2⟩
theorem bW.conn{d':ak}{x:ID}(h:bW d' x){a b:ID}(k:cq (da d' x) a b):cq d' a b:=by
 induction k with
 |refl=>exact .refl _
 |tail _ j ih=>exact ih.tail (h.YL j)
theorem bW.amr{d':ak}{x u w:ID}(h:bW d' x)(hu:cd d' (x,0)=some u)(hw:cd d' (x,1)=some w){a b:ID}(k:A5 d' a b):A5 (da d' x) a b∨(a=u∧b=w)∨(a=w∧b=u):=by
 obtain⟨z,hz,h1,h2⟩:=k;rcases abz.1 (h.p.mem_iff.1 hz) with rfl|EV
 ·rw[Es]at h2;rw[hu]at h1;rw[hw]at h2
  cases h1;cases h2
  exact .inr (.inl ⟨rfl,rfl⟩)
 rcases abz.1 EV with rfl|Ql
 ·rw[V6]at h2;rw[hw]at h1;rw[hu]at h2
  cases h1;cases h2
  exact .inr (.inr ⟨rfl,rfl⟩)
 ·exact .inl ⟨z,Ql,by rw[h.at Ql];exact h1,by rw[h.at (h.w.other Ql)];exact h2⟩
theorem bW.V7{d':ak}{x u w:ID}(h:bW d' x)(hu:cd d' (x,0)=some u)(hw:cd d' (x,1)=some w){a b:ID}(k:cq d' a b) :
  cq (da d' x) a b∨(cq (da d' x) a u∧cq (da d' x) w b)∨(cq (da d' x) a w∧cq (da d' x) u b):=by
 induction k with
 |refl=>exact .inl (.refl _)
 |tail _ j ih =>
  rcases h.amr hu hw j with j|⟨rfl,rfl⟩|⟨rfl,rfl⟩
  ·rcases ih with k|⟨k,m⟩|⟨k,m⟩
   ·exact .inl (k.tail j)
   ·exact .inr (.inl ⟨k,m.tail j⟩)
   ·exact .inr (.inr ⟨k,m.tail j⟩)
  ·rcases ih with k|⟨k,m⟩|⟨k,m⟩
   ·exact .inr (.inl ⟨k,.refl _⟩)
   ·exact .inr (.inl ⟨k,.refl _⟩)
   simp_all
  ·rcases ih with k|⟨k,m⟩|⟨k,m⟩
   ·exact .inr (.inr ⟨k,.refl _⟩)
   ·exact .inl k
   ·exact .inr (.inr ⟨k,.refl _⟩)
theorem bW.ids{d':ak}{x:ID}(h:bW d' x):(da d' x).1.map (·.1)=d'.1.map (·.1):=by rw[h.v];unfold aH Vs.cj;simp only[List.map_map];simp_all [List.map_congr_left,v,Function.comp,s8]
theorem bW.Ev{d':ak}{x:ID}(h:bW d' x){r:ID}:(∃v∈(da d' x).1,v.1=r)↔∃v∈d'.1,v.1=r:=by
 have e:∀l:List ai,(∃v∈l,v.1=r)↔r∈l.map (·.1):=fun l=>by simp_all
 rw[e,e,h.ids]
theorem bW.Fv{d':ak}{x u w:ID}(h:bW d' x)(hu:cd d' (x,0)=some u)(hw:cd d' (x,1)=some w)(k:cq (da d' x) u w){R:List ID}(hr:oM d' R):oM (da d' x) R:=by
 have key:∀{a b:ID},cq d' a b→cq (da d' x) a b:=fun {a b} m=>by
  rcases h.V7 hu hw m with m|⟨m,q⟩|⟨m,q⟩
  ·exact m
  ·exact(m.trans k).trans q
  ·exact(m.trans (k.symm h.w)).trans q
 refine⟨hr.n,fun r xT=>h.Ev.2 (hr.v r xT),fun r xT s hs m=>hr.i r xT s hs (h.conn m),fun v hv=>?_⟩;obtain⟨v',BB,he⟩:=h.Ev.1 ⟨v,hv,rfl⟩;obtain⟨r,h1,h2⟩:=hr.c v' BB
 grind
theorem bW.IZ{d':ak}{x:ID}(h:bW d' x):∃u w,cd d' (x,0)=some u∧cd d' (x,1)=some w∧(∃v∈d'.1,v.1=u)∧∃v∈d'.1,v.1=w:=by
 obtain⟨v,hv,_,h1⟩:=tg h.wf h.x0;obtain⟨v2,BA,_,h2⟩:=tg h.wf h.x1
 grind
theorem bW.V8{d':ak}{x u w:ID}(h:bW d' x)(hu:cd d' (x,0)=some u)(hw:cd d' (x,1)=some w)(k:¬cq (da d' x) u w){R:List ID}(hr:oM d' R):∃R2,oM (da d' x) R2∧R2.length=R.length+1:=by
 have uv:∃v∈d'.1,v.1=u:=by
  obtain⟨v,hv,_,h1⟩:=tg h.wf h.x0
  grind
 have wv:∃v∈d'.1,v.1=w:=by
  obtain⟨v,hv,_,h1⟩:=tg h.wf h.x1
  grind
 have uw:cq d' u w:=A5.conn ⟨(x,0),h.x0,hu,by grind [Es]⟩;obtain⟨v0,ZB,hvu⟩:=uv;obtain⟨r,xT,hur⟩:=hr.c v0 ZB;rw[hvu]at hur;have sep:∀s∈R.erase r,s∈R∧¬cq d' s u∧¬cq d' s w:=fun s hs=>by
  have h1:=adH hs;have h2:s≠r:=fun e=>by subst e;exact absurd hs (List.Nodup.not_mem_erase hr.n)
  exact⟨h1,fun m=>h2 (hr.i s h1 r xT (m.trans hur)),fun m=>h2 (hr.i s h1 r xT ((m.trans (uw.symm h.wf)).trans hur))⟩
 refine⟨u::w::R.erase r,⟨?_,?_,?_,?_⟩,?_⟩
 ·refine abP.2 ⟨fun m=>?_,abP.2 ⟨fun m=>(sep w m).2.2 (.refl _),hr.n.erase r⟩⟩;rcases abz.1 m with m|m
  ·exact k (m▸.refl _)
  simp_all
 ·intro s hs;rcases abz.1 hs with rfl|hs
  ·exact h.Ev.2 ⟨v0,ZB,hvu⟩
  rcases abz.1 hs with rfl|hs
  ·exact h.Ev.2 wv
  ·exact h.Ev.2 (hr.v s (sep s hs).1)
 ·intro a ha b hb m;rcases abz.1 ha with ea|ha
  ·rcases abz.1 hb with eb|hb
   ·rw[ea,eb]
   rcases abz.1 hb with eb|hb
   ·simp_all
   ·exact absurd ((h.conn (ea▸m)).symm h.wf) (sep b hb).2.1
  rcases abz.1 ha with ea|ha
  ·rcases abz.1 hb with eb|hb
   ·exact absurd ((ea▸eb▸m).symm h.w) k
   rcases abz.1 hb with eb|hb
   ·rw[ea,eb]
   ·exact absurd ((h.conn (ea▸m)).symm h.wf) (sep b hb).2.2
  ·rcases abz.1 hb with eb|hb
   ·exact absurd (eb▸h.conn m) (sep a ha).2.1
   rcases abz.1 hb with eb|hb
   ·exact absurd (eb▸h.conn m) (sep a ha).2.2
   ·exact hr.i a (sep a ha).1 b (sep b hb).1 (h.conn m)
 ·intro v hv;obtain⟨v',BB,he⟩:=h.Ev.1 ⟨v,hv,rfl⟩;obtain⟨s,h1,h2⟩:=hr.c v' BB;rw[he]at h2;by_cases hsr:s=r
  ·subst hsr;rcases h.V7 hu hw (h2.trans (hur.symm h.wf)) with m|⟨m,_⟩|⟨m,_⟩
   ·simp_all
   ·simp_all
   simp_all
  ·have hse:s∈R.erase r:=(adI hsr).2 h1;rcases h.V7 hu hw h2 with m|⟨_,q⟩|⟨_,q⟩
   ·grind
   ·simp_all
   simp_all
 grind
theorem bW.Ho{d':ak}{x u w:ID}(h:bW d' x)(hu:cd d' (x,0)=some u)(hw:cd d' (x,1)=some w)(hf:¬NB d' (x,0) (x,1)):cq (da d' x) u w:=by
 have hm:(x,0)∈(bV d').flatten:=(bQ h.wf).p.mem_iff.2 h.x0;obtain⟨c,hc,h0⟩:=adj.1 hm;have h1:(x,1)∉c:=fun k=>hf ⟨c,hc,h0,k⟩;have El:=(bQ h.wf).c c hc;obtain⟨B,k1,k2⟩:=El.head h0;have hcd:∀z∈c,z∈an d'.1:=fun z hz=>(bQ h.wf).p.mem_iff.1 (adj.2 ⟨c,hc,hz⟩);have cn:c.Nodup:=by
  obtain⟨p,q,e⟩:=adh hc;have:=(bQ h.wf).p.nodup_iff.2 h.wf.rw.n
  grind
 have bn:=k2.nodup_iff.2 cn;have ams:∀z∈an d'.1,cd d' (Vs.ph d' z)=cd d' (aj z):=fun z hz=>by have ho:=h.wf.other hz;obtain⟨v,hv,hzv⟩:=aU.1 ho;rw[jI hz,j8 h.wf.rw hv hzv];show EY d'.1 _=EY d'.1 _;rw[eZ h.wf.rw hv (kS (h.wf.rw.ring hv) hzv),eZ h.wf.rw hv hzv]
 have inC:∀z∈B,z∈an (da d' x).1:=fun z hz=>by
  have hzc:z∈c:=k2.mem_iff.1 (abt _ hz);rcases abz.1 (h.p.mem_iff.1 (hcd z hzc)) with e|e
  ·simp_all
  grind
 have walk:∀(B:List ab) (a e:ID) (z:ab),(∀y∈B,y∈an (da d' x).1)→Path (Vs.ph d') B z→cd d' z=some e→(∀y,B.head? = some y→cd d' y=some a)→(B=[]→a=e)→cq (da d' x) a e:=by
  intro B
  induction B with
  |nil=>intro a e z _ _ _ _ h5;rw[h5 rfl];exact .refl _
  |cons y r ih =>
   intro a e z hB hp hz ha _;have hy:=hB y (by simp);have hyd:=h.sub hy;obtain⟨v,hv,XG,Bi⟩:=tg h.wf (h.wf.other hyd);have YL:A5 (da d' x) a v.1:=⟨y,hy,by rw[h.at hy];exact ha y rfl,by rw[h.at (h.w.other hy)];exact Bi⟩;have lY:cd d' (r.head?.getD z)=some v.1:=by rw[←show Vs.ph d' y=r.head?.getD z from hp.1,ams y hyd];exact Bi
   refine YL.conn.trans (ih v.1 e z (fun q hq=>hB q (abt _ hq)) hp.2 hz (fun q hq=>?_) (fun hr=>?_))
   ·simp_all
   simp_all
 obtain⟨fx,pB⟩:=(show Path (Vs.ph d') ((x,0)::B) (x,0) from k1);have amt:cd d' (B.head?.getD (x,0))=some w:=by
  grind [Es]
 refine(walk B w u (x,0) inC pB hu (fun y hy=>by simp_all) (fun hB=>?_)).symm h.w;simp_all
theorem LG{d:ak}(h:an d.1=[]){a b:ID}(k:cq d a b):a=b:=by
 induction k with
 |refl=>rfl
 |tail _ j _=>obtain⟨z,hz,_⟩:=j;simp_all
theorem b7.ids{l:List ai}(h:b7 l):(l.map (·.1)).Nodup:=by unfold List.Nodup;rw[List.pairwise_map];exact h.imp fun {a b} k e=>by grind [bZ]
theorem Pq:∀(n:Nat) (d:ak),Wf d→d.2.length=n→∀R,oM d R→∃k,d.1.length+ft d+2*k=2*R.length+d.2.length
 |0,d,hw,hl,R,hr=>by
  have he:d.2=[]:=by simpa using hl
  have hd:an d.1=[]:=by have:=hw.pd;rw[he]at this;exact List.perm_nil.1 this
  have abx:oM d (d.1.map (·.1)):=⟨hw.sv.ids,fun r hr=>by simp_all,fun r _ s _ k=>LG hd k,fun v hv=>⟨v.1,ace.2 ⟨v,hv,rfl⟩,.refl _⟩⟩;have hlen:=hr.len hw abx;have hf:bV d=[]:=by unfold bV;rw[he];rfl
  have ha:al d.1=d.1.length:=by
   unfold al;rw[List.countP_eq_length];intro v hv;rw[List.isEmpty_iff]
   cases hq:v.2.1 with
   |nil=>rfl
   |cons y r =>have:y∈an d.1:=aU.2 ⟨v,hv,by rw[hq];simp⟩;simp_all
  refine⟨0,?_⟩
  grind [ft]
 |n+1,d,hw,hl,R,hr=>by
  obtain⟨e,r,he⟩:∃e r,d.2=e::r:=by
   cases hq:d.2 with
   |nil=>simp_all
   |cons e r=>simp_all
  have hc:bW d e.1:=⟨hw,by grind [aZ]⟩;obtain⟨u,w,hu,hwt,_,_⟩:=hc.IZ;have hv:(da d e.1).1.length=d.1.length:=by have:=congrArg List.length hc.ids;simp_all
  have wA:(da d e.1).2.length=n:=by
   have h1:=hc.w.pd.length_eq;have h2:=hw.pd.length_eq;have h3:=hc.p.length_eq;have e2:∀l:List ag,(ends l).length=2*l.length:=fun l=>by
    induction l with
    |nil=>rfl
    |cons e r ih=>grind [gu]
   grind
  by_cases hf:NB d (e.1,0) (e.1,1)
  ·have h1:=(hc.same hf).1;by_cases k:cq (da d e.1) u w
   ·obtain⟨g,hg⟩:=Pq n (da d e.1) hc.w wA R (hc.Fv hu hwt k hr);exact⟨g+1,by omega⟩
   ·obtain⟨R2,h2,h3⟩:=hc.V8 hu hwt k hr;obtain⟨g,hg⟩:=Pq n (da d e.1) hc.w wA R2 h2
    grind
  ·have h1:=hc.diff hf;obtain⟨g,hg⟩:=Pq n (da d e.1) hc.w wA R (hc.Fv hu hwt (hc.Ho hu hwt hf) hr)
   grind
def cQ(d:ak)(i:Nat):ID:=((d.1[i]?).getD zV).1
theorem ri{d:ak}{i:Nat}{v:ai}(h:d.1[i]? = some v):cQ d i=v.1:=by grind [cQ]
theorem j9{d:ak}(hs:b7 d.1){i j:Nat}(hi:i<d.1.length)(hj:j<d.1.length)(h:cQ d i=cQ d j):i=j:=by have h1:=abn hi;have h2:=abn hj;rw[ri h1,ri h2]at h;rw[kK hs h1 rfl,kK hs h2 rfl,h]
theorem V9{x:ID}:∀{l:List ai} {i:Nat} {v:ai} (k:Int),l[i]? = some v→v.1=x→(∀j u,j<i→l[j]? = some u→u.1≠x)→BW x l k=k+i
 |w::r,0,v,k,h,hv,_=>by simp_all [BW,if_pos]
 |w::r,i+1,v,k,h,hv,hn=>by have h0:=hn 0 w (by omega) (by simp);rw[BW,if_neg h0,V9 (i:=i) (v:=v) (k+1) (by simpa using h) hv (fun j u hj hu=>hn (j+1) u (by omega) (by simpa using hu))];omega
theorem Wa{d:ak}(hs:b7 d.1){i:Nat}(hi:i<d.1.length):BW (cQ d i) d.1 0=(i:Int):=by
 grind [List.getElem?_eq_getElem,V9,cQ,ri,j9,trans]
theorem NC{d:ak}(hw:Wf d){z:ab}(hz:z∈an d.1):∃i,i<d.1.length∧cd d z=some (cQ d i):=by
 obtain⟨v,hv,_,h⟩:=tg hw hz;obtain⟨i,hi,he⟩:=adA hv;refine⟨i,hi,?_⟩
 grind [ri,List.getElem?_eq_getElem]
structure I0(d:ak)(L:List Int):Prop where
 n:L.length=d.1.length
 i:∀i,i<d.1.length→∃j:Nat,j≤i∧L.getD i 0=(j:Int)∧cq d (cQ d i) (cQ d j)
def gI(d:ak)(L:List Int)(i:Nat):Prop:=∀j,j<d.1.length→cq d (cQ d i) (cQ d j)→L.getD i 0≤(j:Int)
structure LH(d:ak)(L:List Int):Prop where
 l:I0 d L
 r:∀i,i<d.1.length→gI d L i
def Fw(a b:Nat)(L:List Int):List Int:=(L.set a (min (L.getD a 0) (L.getD b 0))).set b (min (L.getD a 0) (L.getD b 0))
theorem Wb{L:List Int}{a b:Nat}(ha:a<L.length)(hb:b<L.length)(i:Nat):(Fw a b L).getD i 0=if i=a∨i=b then min (L.getD a 0) (L.getD b 0) else L.getD i 0:=by
 unfold Fw
 grind
theorem R1{d:ak}(hw:Wf d){L:List Int}(h:I0 d L){a b:Nat}(ha:a<d.1.length)(hb:b<d.1.length)(AW:cq d (cQ d a) (cQ d b)):I0 d (Fw a b L)∧(∀i,i<d.1.length→gI d L i→gI d (Fw a b L) i)∧(gI d L a→gI d (Fw a b L) b)∧(gI d L b→gI d (Fw a b L) a):=by
 have SA:a<L.length:=by rw[h.n];exact ha
 have QW:b<L.length:=by rw[h.n];exact hb
 have gl:=Wb SA QW;obtain⟨ja,a1,a2,a3⟩:=h.i a ha;obtain⟨jb,b1,b2,b3⟩:=h.i b hb;have hba:=AW.symm hw;refine⟨⟨by unfold Fw;simp[h.n],fun i hi=>?_⟩,fun i hi hr j hj hc=>?_,fun hr j hj hc=>?_,fun hr j hj hc=>?_⟩
 ·rw[gl];by_cases YM:i=a∨i=b
  ·rw[if_pos YM];have conn:cq d (cQ d i) (cQ d a)∧cq d (cQ d i) (cQ d b):=by
    rcases YM with rfl|rfl
    ·exact⟨.refl _,AW⟩
    ·exact⟨hba,.refl _⟩
   by_cases hle:L.getD a 0≤L.getD b 0
   ·refine⟨ja,?_,by omega,conn.1.trans a3⟩;omega
   ·refine⟨jb,?_,by omega,conn.2.trans b3⟩;omega
  ·rw[if_neg YM];exact h.i i hi
 ·rw[gl]
  split
  ·rename_i YM;have:=hr j hj hc
   grind
  ·exact hr j hj hc
 ·rw[gl,if_pos (.inr rfl)];have:=hr j hj (AW.trans hc);omega
 ·rw[gl,if_pos (.inl rfl)];have:=hr j hj (hba.trans hc);omega
theorem acj{d:ak}(hw:Wf d){e:ag}(he:e∈d.2)(L:List Int):∃a b,a<d.1.length∧b<d.1.length∧cd d (e.1,0)=some (cQ d a)∧cd d (e.1,1)=some (cQ d b)∧IL d e L=Fw a b L:=by have h0:(e.1,0)∈an d.1:=hw.pd.mem_iff.2 (dZ.2 ⟨e,he,rfl,.inl rfl⟩);have h1:(e.1,1)∈an d.1:=hw.pd.mem_iff.2 (dZ.2 ⟨e,he,rfl,.inr rfl⟩);obtain⟨a,ha,ea⟩:=NC hw h0;obtain⟨b,hb,eb⟩:=NC hw h1;refine⟨a,b,ha,hb,ea,eb,?_⟩;unfold IL Fw;rw[ea,eb];simp only[Option.getD_some,Wa hw.sv ha,Wa hw.sv hb,Int.toNat_natCast];rfl
theorem wq{d:ak}(hw:Wf d):∀(l:List ag) {L:List Int},(∀e∈l,e∈d.2)→I0 d L→I0 d (kl d l L)∧(∀i,i<d.1.length→gI d L i→gI d (kl d l L) i) ∧(∀e∈l,∀a b,a<d.1.length→b<d.1.length→((cd d (e.1,0)=some (cQ d a)∧cd d (e.1,1)=some (cQ d b))∨(cd d (e.1,0)=some (cQ d b)∧cd d (e.1,1)=some (cQ d a)))→gI d L a→gI d (kl d l L) b)
 |[],L,_,h=>⟨h,fun i hi hr=>hr,fun e he=>by simp at he⟩
 |e::r,L,hl,h=>by
  have he:=hl e (abV ..);obtain⟨a,b,ha,hb,ea,eb,el⟩:=acj hw he L;have h0:(e.1,0)∈an d.1:=hw.pd.mem_iff.2 (dZ.2 ⟨e,he,rfl,.inl rfl⟩);have AW:cq d (cQ d a) (cQ d b):=A5.conn ⟨(e.1,0),h0,ea,by grind [Es]⟩;obtain⟨s1,s2,s3,s4⟩:=R1 hw h ha hb AW;obtain⟨t1,t2,t3⟩:=wq hw r (L:=Fw a b L) (fun e he=>hl e (abt _ he)) s1;show I0 d (kl d r (IL d e L))∧_∧_;rw[el];refine⟨t1,fun i hi hr=>?_,fun f hf p q hp hq HR hr=>?_⟩
  ·grind [gI,kl,IL]
  ·show gI d (kl d r (IL d e L)) q;rw[el];rcases abz.1 hf with rfl|hf
   ·refine t2 q hq ?_;rcases HR with⟨k1,k2⟩|⟨k1,k2⟩
    ·rw[ea]at k1;rw[eb]at k2;have:=j9 hw.sv ha hp (ac7 k1);subst this;have:=j9 hw.sv hb hq (ac7 k2);simp_all
    ·rw[ea]at k1;rw[eb]at k2;have:=j9 hw.sv ha hq (ac7 k1);subst this;have:=j9 hw.sv hb hp (ac7 k2);simp_all
   grind
theorem ND{d:ak}(i:Nat)(hi:i<d.1.length):∃m,m<d.1.length∧cq d (cQ d i) (cQ d m)∧∀j,j<d.1.length→cq d (cQ d i) (cQ d j)→m≤j:=by
 induction i using Nat.strongRecOn with
 |ind i ih =>
  by_cases h:∃j,j<i∧cq d (cQ d i) (cQ d j)∧cq d (cQ d j) (cQ d i)
  ·obtain⟨j,hj,hc,pf⟩:=h;obtain⟨m,h1,h2,h3⟩:=ih j hj (by omega);exact⟨m,h1,hc.trans h2,fun k hk hck=>h3 k hk (pf.trans hck)⟩
  ·by_cases hs:∃j,j<i∧cq d (cQ d i) (cQ d j)
   ·obtain⟨j,hj,hc⟩:=hs;have key:∀n,n≤i→(∃m,m<n∧cq d (cQ d i) (cQ d m))→∃m,m<d.1.length∧cq d (cQ d i) (cQ d m)∧∀j,j<d.1.length→cq d (cQ d i) (cQ d j)→m≤j:=by
     intro n
     induction n with
     |zero=>omega
     |succ n ihn =>
      rintro hn ⟨m,hm,XB⟩;by_cases hb:∃m,m<n∧cq d (cQ d i) (cQ d m)
      ·grind
      grind
    exact key i (acb _) ⟨j,hj,hc⟩
   ·refine⟨i,hi,.refl _,fun j hj hc=>Classical.byContradiction fun k=>hs ⟨j,by omega,hc⟩⟩
theorem R4{d:ak}(P:ID→Prop){x y:ID}(h:cq d x y)(hx:P x)(hy:¬P y):∃a b,A5 d a b∧P a∧¬P b:=by
 induction h with
 |refl=>simp_all
 | @tail b c k j ih =>
  grind
open Classical in
theorem LI{P Q:Nat→Prop}:∀{l:List Nat},(∀i∈l,P i→Q i)→(∃i∈l,Q i∧¬P i)→l.countP (fun i=>decide (P i))<l.countP (fun i=>decide (Q i))
 |[],_,h=>by simp_all
 |x::r,h,⟨i,hi,hq,hp⟩=>by
  have mono:r.countP (fun i=>decide (P i))≤r.countP (fun i=>decide (Q i)):=by
   have hr:∀i∈r,P i→Q i:=fun i hi=>h i (abt _ hi);clear h hi
   induction r with
   |nil=>simp
   |cons y r ih =>
    grind
  rw[List.countP_cons,List.countP_cons];rcases abz.1 hi with rfl|hi
  ·grind
  ·have:=LI (l:=r) (fun i hi=>h i (abt _ hi)) ⟨i,hi,hq,hp⟩
   grind
theorem NF{d:ak}(hw:Wf d){L:List Int}(h:I0 d L)(hn:∃i,i<d.1.length∧¬gI d L i):∃i,i<d.1.length∧gI d (kl d d.2 L) i∧¬gI d L i:=by
 obtain⟨i,hi,hr⟩:=hn;obtain⟨m,m1,m2,m3⟩:=ND i hi;have hm:gI d L m:=fun j hj hc=>by obtain⟨q,q1,q2,_⟩:=h.i m m1;have:=m3 j hj (m2.trans hc);rw[q2];omega
 let P:ID→Prop:=fun x=>∃k,k<d.1.length∧cQ d k=x∧gI d L k
 have hx:P (cQ d m):=⟨m,m1,rfl,hm⟩;have hy:¬P (cQ d i):=fun⟨k,k1,k2,k3⟩=>by have:=j9 hw.sv k1 hi k2;simp_all
 obtain⟨a,b,⟨z,hz,za,zb⟩,⟨p,p1,p2,p3⟩,hb⟩:=R4 P (m2.symm hw) hx hy;obtain⟨q,q1,q2⟩:=NC hw (hw.other hz);rw[zb]at q2;have hbq:b=cQ d q:=ac7 q2;obtain⟨e,he,e1,e2⟩:=dZ.1 (hw.pd.mem_iff.1 hz);refine⟨q,q1,?_,fun k=>hb ⟨q,q1,hbq.symm,k⟩⟩;refine(wq hw d.2 (fun _ h=>h) h).2.2 e he p q p1 q1 ?_ p3;rw[p2,←hbq];obtain⟨z1,z2⟩:=z;simp only at e1 e2;subst e1;rcases e2 with rfl|rfl
 ·exact .inl ⟨za,zb⟩
 ·exact .inr ⟨zb,za⟩
open Classical in
theorem Ew{d:ak}(hw:Wf d):∀(n:Nat) {L:List Int},I0 d L→d.1.length≤n+(List.range d.1.length).countP (fun i=>decide (gI d L i))→LH d (Ld d n L)
 |0,L,h,hc=>by
  refine⟨h,fun i hi=>?_⟩;have h1:(List.range d.1.length).countP (fun i=>decide (gI d L i))=(List.range d.1.length).length:=by
   grind
  have:=List.countP_eq_length.1 h1 i (adf.2 hi);exact of_decide_eq_true this
 |n+1,L,h,hc=>by
  obtain⟨s1,s2,_⟩:=wq hw d.2 (fun _ h=>h) h;show LH d (Ld d n (kl d d.2 L));refine Ew hw n s1 ?_;by_cases hn:∃i,i<d.1.length∧¬gI d L i
  ·obtain⟨i,hi,h1,h2⟩:=NF hw h hn;have:=LI (P:=gI d L) (Q:=gI d (kl d d.2 L)) (l:=List.range d.1.length) (fun i hi=>s2 i (adf.1 hi)) ⟨i,adf.2 hi,h1,h2⟩;omega
  ·have:(List.range d.1.length).countP (fun i=>decide (gI d (kl d d.2 L) i))=(List.range d.1.length).length:=by rw[List.countP_eq_length];simp_all
   simp_all
theorem ack(d:ak):I0 d (Ft d.1.length):=by
 refine⟨by unfold Ft;simp,fun i hi=>⟨i,acb _,?_,.refl _⟩⟩
 grind [Ft,List.getD]
theorem fa{d:ak}(hw:Wf d):LH d (labels d):=Ew hw d.1.length (ack d) (by omega)
theorem LH.uniq{d:ak}(hw:Wf d){L M:List Int}(h:LH d L)(k:LH d M):L=M:=by
 apply adn;intro i;by_cases hi:i<d.1.length
 ·have e1:L[i]? = some (L.getD i 0):=by rw[List.getElem?_eq_getElem (by rw[h.l.n];exact hi)];grind
  have e2:M[i]? = some (M.getD i 0):=by rw[List.getElem?_eq_getElem (by rw[k.l.n];exact hi)];grind
  obtain⟨a,a1,a2,a3⟩:=h.l.i i hi;obtain⟨b,b1,b2,b3⟩:=k.l.i i hi;have h1:=h.r i hi b (by omega) b3;have h2:=k.r i hi a (by omega) a3
  grind
 ·rw[List.getElem?_eq_none (by rw[h.l.n];omega),List.getElem?_eq_none (by rw[k.l.n];omega)]
def nE(d:ak)(L:List Int):List ID:=((List.range d.1.length).filter fun i=>decide (L.getD i 0=(i:Int))).map (cQ d)
theorem lP{d:ak}(hw:Wf d){L:List Int}(h:LH d L):oM d (nE d L):=by
 have mem:∀{r:ID},r∈nE d L↔∃i,i<d.1.length∧L.getD i 0=(i:Int)∧cQ d i=r:=fun {r}=>by
  unfold nE
  grind
 refine⟨?_,fun r hr=>?_,fun r hr s hs hc=>?_,fun v hv=>?_⟩
 ·unfold nE List.Nodup;rw[List.pairwise_map];have hp:((List.range d.1.length).filter fun i=>decide (L.getD i 0=(i:Int))).Nodup:=List.nodup_range.filter _;refine List.Pairwise.imp_of_mem (fun {a b} ha hb bz e=>bz ?_) hp;exact j9 hw.sv (adf.1 (ads.1 ha).1) (adf.1 (ads.1 hb).1) e
 ·obtain⟨i,hi,_,rfl⟩:=mem.1 hr;exact⟨d.1[i],ac8 hi,(ri (abn hi)).symm⟩
 ·obtain⟨i,hi,h1,rfl⟩:=mem.1 hr;obtain⟨j,hj,h2,rfl⟩:=mem.1 hs;have k1:=h.r i hi j hj hc;have k2:=h.r j hj i hi (hc.symm hw)
  grind
 ·obtain⟨i,hi,he⟩:=adA hv;have bL:cQ d i=v.1:=by rw[ri (List.getElem?_eq_getElem hi),he]
  obtain⟨j,j1,j2,j3⟩:=h.l.i i hi;refine⟨cQ d j,mem.2 ⟨j,by omega,?_,rfl⟩,by simp_all⟩;obtain⟨k,k1,k2,k3⟩:=h.l.i j (by omega);have h1:=h.r i hi k (by omega) (j3.trans k3);omega
theorem zR:∀(l:List Int) (i:Nat) (n:Nat),n+l.length≤1000000→qW l (i:Int) (n:Int)=((n+((List.range l.length).filter fun j=>decide (l.getD j 0=((i+j:Nat):Int))).length:Nat):Int)
 |[],i,n,_=>by simp[qW]
 |x::r,i,n,h=>by
  simp at h;have e:((List.range (x::r).length).filter fun j=>decide ((x::r).getD j 0=((i+j:Nat):Int))).length=(if x=(i:Int) then 1 else 0)+((List.range r.length).filter fun j=>decide (r.getD j 0=((i+1+j:Nat):Int))).length:=by
   rw[List.length_cons,List.range_succ_eq_map,List.filter_cons];have e2:((List.range r.length).map Nat.succ).filter (fun j=>decide ((x::r).getD j 0=((i+j:Nat):Int)))=((List.range r.length).filter fun j=>decide (r.getD j 0=((i+1+j:Nat):Int))).map Nat.succ:=by
    rw[List.filter_map];congr 1;apply List.filter_congr
    grind
   grind
  rw[e];unfold qW;have hi:((i:Int)+1)=((i+1:Nat):Int):=by omega
  rw[hi];by_cases hx:x=(i:Int)
  ·rw[if_pos hx,if_pos hx];have hw:IntKind.wrap .i64 ((n:Int)+1)=((n+1:Nat):Int):=by grind [wrap_small]
   rw[hw,zR r (i+1) (n+1) (by omega)];congr 1;omega
  ·rw[if_neg hx,if_neg hx,zR r (i+1) n (by omega)];congr 1;omega
theorem uI{d:ak}(hw:Wf d):fw d=((nE d (labels d)).length:Int):=by have h:=fa hw;have hn:=hw.nv;unfold fw;have:=zR (labels d) 0 0 (by rw[h.l.n];omega);simp only[Nat.zero_add]at this;have e:qW (labels d) 0 0=qW (labels d) ((0:Nat):Int) ((0:Nat):Int):=rfl;rw[e,this];unfold nE;rw[List.length_map,h.l.n]
theorem zT:∀(l:List ai) (n:Nat),n+l.length≤1000000→wc l (n:Int)=((n+al l:Nat):Int)
 |[],n,_=>by rfl
 |v::r,n,h=>by
  simp at h;unfold wc al;rw[List.countP_cons];by_cases hv:v.2.1.length=0
  ·have:v.2.1.isEmpty=true:=by simp_all
   have hw:IntKind.wrap .i64 ((n:Int)+1)=((n+1:Nat):Int):=by grind [wrap_small]
   rw[if_pos hv,hw,zT r (n+1) (by omega),this]
   grind [al]
  ·have:v.2.1.isEmpty=false:=by simp_all
   rw[if_neg hv,zT r n (by omega),this];unfold al;simp
theorem yg{d:ak}(hw:Wf d):(bV d).length≤80:=by
 have h:=bQ hw;have h1:=h.p.length_eq;have h2:=hw.LF;have h3:(bV d).length≤(bV d).flatten.length:=by
  have hc:=h.c;generalize bV d=cs at hc
  induction cs with
  |nil=>simp
  |cons c r ih =>
   have:=ih (fun c hc'=>hc c (abt _ hc'));have h1:=(hc c (abV ..)).ne
   grind [Nat.pos_of_ne_zero,List.length_eq_zero_iff,List.length_cons,List.flatten_cons,List.length_append]
 omega
theorem R5{d:ak}(hw:Wf d):D3 d=((ft d:Nat):Int):=by
 unfold D3 ft;have:=hw.nv
 grind [yg,zT,bV]
theorem Ex{d:ak}(hw:Wf d){R:List ID}(hr:oM d R):∃k:Nat,bP d=(k:Int)∧d.1.length+ft d+2*k=2*R.length+d.2.length:=by
 have hl:=(lP hw (fa hw)).len hw hr;obtain⟨k,hk⟩:=Pq d.2.length d hw rfl R hr;refine⟨k,?_,hk⟩;have hn:=hw.nv;have he:=hw.ne;have hf:=yg hw;have ha:al d.1≤d.1.length:=adr;have hR:R.length≤d.1.length:=by
  grind [nE,List.length_map,Nat.le_trans,List.length_filter_le]
 have hft:ft d=(bV d).length+al d.1:=rfl;unfold bP;rw[uI hw,R5 hw,hl];rw[wrap_small (n:=2*((R.length:Nat):Int)) (by omega) (by omega)]
 grind [wrap_small,ft,Int.tdiv,Int.tdiv_eq_ediv_of_nonneg]
end Go.Vs
