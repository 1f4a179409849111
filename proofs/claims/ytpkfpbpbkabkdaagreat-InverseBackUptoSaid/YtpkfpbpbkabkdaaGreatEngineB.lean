/- The value semantics is sound -/
import Derived.Test.YtpkfpbpbkabkdaaGreatEngineA
import Derived.Laws.StructEq
import Derived.Laws.Slices
import Derived.Laws.Strings
import Derived.MapKept
set_option linter.unusedSimpArgs false
set_option linter.unusedVariables false
namespace Go.Vs
variable {P:Program} {Z Z':Nat→Prop} {ψ ψ':Nat→Value} {h h':Hp} {w w':World} {B0:Nat} {O:Nat→Prop} {N:Nat→Prop}
def bU.hp(h:Hp):bU→Hp
 |.val _=>h
 |.new _ os=>fun i=>match Heap.get os i with
  |some o=>some o
  |none=>h i
 |.wr _ h'=>h'.get
theorem jC(id:Nat)(o:Ob)(h:Hp):(fun i=>match Heap.get [(id,o)] i with|some o=>some o|none=>h i)=fq h id (some o):=by
 funext i;simp only[Heap.get,fq];by_cases e:i=id
 ·subst e;simp
 ·rw[if_neg (fun x=>e x.symm),if_neg e]
theorem oK(hh:Heap)(id:Nat)(o:Ob):(hh.set id o).get=fq hh.get id (some o):=by
 funext i;by_cases e:i=id
 ·subst e;rw[Heap.Ie,bD]
 ·rw[Heap.MX e,dH _ _ e]
theorem xm(hh:Heap)(id:Nat):(hh.del id).get=fq hh.get id none:=by
 funext i;by_cases e:i=id
 ·subst e;rw[Heap.iB,bD]
 ·rw[Heap.jA e,dH _ _ e]
theorem Df(hh:Heap)(id:Nat)(o:Ob):Heap.get ((id,o)::hh)=fq hh.get id (some o):=by
 funext i;simp only[Heap.get,fq];by_cases e:i=id
 ·subst e;simp
 ·rw[if_neg (fun x=>e x.symm),if_neg e]
def iY(P:Program)(ρC:Operand→Value)(o:Oper)(Z:Nat→Prop)(ψ:Nat→Value)(h:Hp)(w:World)(B0:Nat)(O N:Nat→Prop)(e:bU):Prop :=∃V w' Z' ψ',((execOp ρC o).run P w=.ok (.value V) w'∨((execOp ρC o).run P w=.ok .skip w'∧V=undef))∧Next Z ψ h w B0 O N Z' ψ' (e.hp h) w'∧aD Z' ψ' (e.hp h) w' e.v V
theorem iY.val{ρC:Operand→Value}{o:Oper}{x:AV}(g:Good Z ψ h w B0 O){V:Value}(hr:(execOp ρC o).run P w=.ok (.value V) w)(hx:aD Z ψ h w x V):iY P ρC o Z ψ h w B0 O N (.val x) :=⟨V,w,Z,ψ,.inl hr,Next.refl g,hx⟩
theorem Tj{ty:TypeId}{k:K}{xs:List k.T}{id n:Nat}{x:k.T}(g:Good Z ψ h w B0 O)(hg:h id=some (.own (.row ty k) xs))(hx:xs[n]? = some x) :
  ∃gg us,XQ (ψ id)=gg∧aP Z w k x us∧∀(j:Nat) u,us[j]? = some u→w.cell? ⟨gg,n*k.sz+j,none⟩=some u:=by
 obtain⟨vs,ho,hv⟩:=g.row id (.row ty k) xs hg;have hn:n<xs.length:=(aa9.1 hx).1;obtain⟨hl,e⟩:=ho;rcases e with⟨h0,_⟩|⟨gg,cap,cur,e1,_,e3,_,_,_,e7⟩
 ·omega
 ·refine⟨gg,_,by rw[e1];rfl,hv n x hx,fun j u hu=>?_⟩;rw[List.getElem?_take]at hu
  split at hu
  ·rw[List.getElem?_drop,←e7,List.getElem?_take]at hu
   split at hu
   ·simp only[World.cell?,e3];simpa using hu
   ·cases hu
  ·cases hu
theorem vZ{hh:Heap}(g:Good Z ψ h w B0 O)(bI:∀id o,hh.get id=some o→h id=some o){t:TypeId}{a:AV}{v:Value}{e:bU}(hv:aD Z ψ h w a v)(he:nq P hh t a some=some e) :
  ∃x V,e=.val x∧(Instr.loadAt t v).run P w=.ok V w∧aD Z ψ h w x V:=by
 unfold nq at he
 split at he
 ·rename_i id s i off;simp only[aD]at hv;obtain⟨a,rfl,ha⟩:=hv
  split at he
  ·rename_i ty cs hg;have Dg:=bI _ _ hg;have J7:=ha (by rw[Dg];simp);obtain⟨gg,vs,e1,e2,e3,e4⟩:=g.box id ty cs Dg
   split at he
   ·rename_i hi;subst hi
    split at he
    ·rename_i x hx
     cases he
     rw[e1]at J7;simp only[XQ,Nat.zero_mul,Nat.zero_add]at J7;subst J7;obtain⟨V,h1,h2⟩:=kO (a:=⟨gg,off,none⟩) (e3.drop off) (fun j u hu=>by rw[dm];simp only[World.cell?,e2];rw[List.getElem?_drop]at hu;simpa using hu) hx;exact⟨x,V,rfl,h1,h2⟩
    ·cases he
   ·cases he
  ·rename_i ty kk xs hg;have Dg:=bI _ _ hg;have J7:=ha (by rw[Dg];simp)
   split at he
   ·rename_i hs;subst hs;obtain⟨x,hx,he⟩:=ac0.1 he
    split at he
    ·rename_i y hy
     cases he
     obtain⟨gg,us,h1,h2,h3⟩:=Tj g Dg hx;rw[h1]at J7;subst J7;obtain⟨V,h4,h5⟩:=kO (a:=⟨gg,i*kk.sz+off,none⟩) ((js (ψ:=ψ) (h:=h) h2).drop off) (fun j u hu=>by rw[dm,Nat.add_assoc];exact h3 _ _ (by rw[List.getElem?_drop]at hu;exact hu)) hy;exact⟨y,V,rfl,h4,h5⟩
    ·cases he
   ·cases he
  ·cases he
 ·rename_i kk x off
  split at he
  ·rename_i y hy
   cases he
   simp only[aD]at hv;obtain⟨a,us,rfl,_,h2,h3⟩:=hv;obtain⟨V,h4,h5⟩:=kO ((js (ψ:=ψ) (h:=h) h2).drop off) (fun j u hu=>h3 j u (by rw[List.getElem?_drop]at hu;exact hu)) hy;exact⟨y,V,rfl,h4,h5⟩
  ·cases he
 ·cases he
theorem pC{t e:TypeId}(he:AR P t=some e):P.underlying t=some (.slice e):=by
 unfold AR at he
 split at he
 ·cases he;assumption
 ·cases he
theorem pG{t e:TypeId}(ht:P.underlying t=some (.slice e)){i:TypeInfo}(hi:P.info? e=some i)(a:Addr)(n c:Nat)(k:IntKind)(j:Int)(h0:0≤j)(h1:j<n) :
  (Instr.indexAt t (.slice (some a) n c) (.int k j)).run P w=.ok (.pointer (some (a.add (j.toNat*P.cellsOf e)))) w:=by
 simp[Instr.indexAt,asIntOf,run_underlying ht,h0,h1,eE hi]
theorem Qz{α:Type}{xs:List α}{i:Int}{x:α}(hx:bh xs i=some x):0≤i∧i<xs.length∧xs[i.toNat]? = some x:=by
 unfold bh at hx
 split at hx
 ·rename_i h0;have:=(aa9.1 hx).1;exact⟨h0,by omega,hx⟩
 ·cases hx
theorem rZ{hh:Heap}(g:Good Z ψ h w B0 O)(bI:∀id o,hh.get id=some o→h id=some o){t:TypeId}{x i:AV}{v u:Value}{e:bU}(hv:aD Z ψ h w x v)(hu:aD Z ψ h w i u)(he:eC P hh t x i some=some e) :
  ∃y V,e=.val y∧(Instr.indexAt t v u).run P w=.ok V w∧aD Z ψ h w y V:=by
 unfold eC at he
 split at he
 ·cases he
 ·rename_i et het;have ht:=pC het
  ·skip
   split at he
   ·rename_i ex OP xs ik n;simp only[aD]at hv hu;subst hu
    split at he
    ·rename_i hs;obtain⟨y,hy,he⟩:=ac0.1 he
     cases he
     obtain⟨h0,h1,h2⟩:=Qz hy;obtain⟨hk,_⟩:=hv;simp only[aP]at hk;obtain⟨v',Dh,A,c,rfl,_,_,MI⟩:=hk
     cases Dh
     obtain⟨a,us,rfl,hz,hr,hc⟩:=MI _ _ h2;have hi:∃i,P.info? et=some i:=by
      cases hi:P.info? et with
      |some i=>exact⟨i,rfl⟩
      |none=>exfalso;have:=OP.jz;simp[Program.cellsOf,hi]at hs;omega
     obtain⟨inf,hi⟩:=hi;refine⟨_,_,rfl,pG ht hi a xs.length c ik n h0 h1,?_⟩;simp only[aD];refine⟨_,us,rfl,by rw[gE];exact hz,hr,fun j u hu=>?_⟩;rw[xf,hs];exact hc j u (by simpa using hu)
    ·cases he
   ·rename_i id ik n
    split at he
    ·rename_i ty OP xs hg;have Dg:=bI _ _ hg
     split at he
     ·rename_i hs
      cases De:(decide (0≤n)&&decide (n<(xs.length:Int))) with
      |false=>rw[De]at he;cases he
      |true =>
       rw[De]at he
       cases he
       simp only[Bool.and_eq_true,decide_eq_true_eq]at De;simp only[aD]at hv hu;subst hu;have hvv:=hv.2 (by rw[Dg];simp);obtain⟨vs,⟨_,e⟩,_⟩:=g.row id (.row ty OP) xs Dg;rcases e with⟨h0,_⟩|⟨gg,cap,cur,e1,_,e3,_⟩
       ·omega
       ·have hi:∃i,P.info? et=some i:=by
         cases hi:P.info? et with
         |some i=>exact⟨i,rfl⟩
         |none=>exfalso;have:=OP.jz;simp[Program.cellsOf,hi]at hs;omega
        obtain⟨inf,hi⟩:=hi;rw[hvv,e1];refine⟨_,_,rfl,pG ht hi _ xs.length cap ik n De.1 De.2,?_⟩;simp only[aD];refine⟨_,rfl,fun _=>?_⟩;rw[e1,hs,dm];simp[XQ]
     ·cases he
    ·cases he
   ·cases he
theorem vh{t:TypeId}(h:P.cellsOf t≠0):∃i,P.info? t=some i:=by
 cases hi:P.info? t with
 |some i=>exact⟨i,rfl⟩
 |none=>exact absurd (by simp[Program.cellsOf,hi]) h
theorem vj{t:TypeId}{f n:Nat}{ft:TypeId}(hf:iW P t f=some (n,ft))(hc:P.cellsOf ft≠0)(a:Addr) :
  (Instr.fieldAt t (.pointer (some a)) f).run P w=.ok (.pointer (some (a.add n))) w:=by
 unfold iW at hf
 split at hf
 ·rename_i fs ht;obtain⟨fd,hfd,he⟩:=ac1.1 hf
  cases he
  obtain⟨i,hi⟩:=vh hc;have hs:=eE (P:=P) (w:=w) hi;simp only[Instr.fieldAt,Sem.run_bind,run_underlying ht,Result.andThen_ok,hfd,Instr.sureAddr,Sem.run_pure,fieldPlace,hs];rw[if_neg hc];rfl
 ·cases hf
theorem vl{t:TypeId}{f n:Nat}{ft:TypeId}(hf:iW P t f=some (n,ft))(hc:P.cellsOf ft≠0){id s i off:Nat}{v:Value}(hv:aD Z ψ h w (.ref id s i off) v) :
  ∃V,(Instr.fieldAt t v f).run P w=.ok V w∧aD Z ψ h w (.ref id s i (off+n)) V:=by
 simp only[aD]at hv ⊢;obtain⟨a,rfl,ha⟩:=hv;refine⟨_,vj hf hc a,_,rfl,fun bQ=>?_⟩;rw[ha bQ,dm,Nat.add_assoc]
theorem xn{t:TypeId}{f n:Nat}{ft:TypeId}(hf:iW P t f=some (n,ft))(hc:P.cellsOf ft≠0){k:K}{x:k.T}{off:Nat}{v:Value}(hv:aD Z ψ h w (.fp k x off) v) :
  ∃V,(Instr.fieldAt t v f).run P w=.ok V w∧aD Z ψ h w (.fp k x (off+n)) V:=by
 simp only[aD]at hv ⊢;obtain⟨a,us,rfl,hz,hr,GD⟩:=hv;refine⟨_,vj hf hc a,_,us,rfl,by rw[gE];exact hz,hr,fun j u hu=>?_⟩;rw[xf];exact GD (n+j) u (by rw[←Nat.add_assoc];exact hu)
theorem Kf{t ft:TypeId}{f n:Nat}(hf:iW P t f=some (n,ft)){cs:List AV}{x:AV}{v:Value}(hv:aD Z ψ h w (.agg cs) v)(hx:fk P ft (cs.drop n)=some x) :
  ∃V,(Instr.field t v f).run P w=.ok V w∧aD Z ψ h w x V:=by
 simp only[aD]at hv;obtain⟨vs,rfl,hl⟩:=hv;have hd:=hl.drop n;have hlen:=hd.length;unfold iW at hf
 split at hf
 ·rename_i fs ht;obtain⟨fd,hfd,he⟩:=ac1.1 hf
  cases he
  unfold fk at hx
  split at hx
  ·rename_i hb
   split at hx
   ·rename_i hle
    cases hx
    obtain⟨i,hi⟩:=AY hb;refine⟨.agg (vs.extract fd.offset (fd.offset+P.cellsOf fd.type)),?_,?_⟩
    ·simp[Instr.field,run_underlying ht,hfd,asAgg,part,il hb,eE hi]
    ·simp only[aD];refine⟨_,rfl,?_⟩;rw[Array.toList_extract,List.extract_eq_take_drop,Nat.add_sub_cancel_left];exact hd.take _
   ·cases hx
  ·rename_i hb
   split at hx
   ·rename_i c r hcr
    cases hx
    rw[hcr]at hd;simp only[aw]at hd;obtain⟨u,us,hu,h1,_⟩:=hd;refine⟨u,?_,h1⟩;have hg:vs[fd.offset]? = some u:=by
     have:(vs.toList.drop fd.offset)[0]? = some u:=by rw[hu];rfl
     rw[List.getElem?_drop]at this;simpa using this
    simp[Instr.field,run_underlying ht,hfd,asAgg,part,il hb,hg]
   ·cases hx
  ·cases hx
 ·cases hf
theorem QA{hh:Heap}(g:Good Z ψ h w B0 O)(bI:∀id o,hh.get id=some o→h id=some o){x:AV}{v:Value}{e:bU}(hv:aD Z ψ h w x v)(he:Gz hh x some=some e) :
  ∃n:Nat,e=.val (.int .i64 (n:Int))∧((∃s,x=.str s∧v=.string s∧n=s.size)∨∃A c,v=.slice A n c):=by
 unfold Gz at he
 split at he
 ·rename_i s hs
  cases he
  have hx:x=.str s:=by
   cases x with
   |bT id=>simp only[di]at hs;split at hs<;>cases hs
   |str s'=>simp only[di]at hs;exact hs
   |_=>simp only[di]at hs<;>cases hs
  subst hx;simp only[aD]at hv;exact⟨_,rfl,.inl ⟨s,rfl,hv,rfl⟩⟩
 ·rename_i ex k xs hs
  cases he
  have Tk:=GC (Z':=fun b=>Z b∨Own ψ h b) (g.sub bI) (fun b hb=>.inl hb) (fun id b _ bq hb=>.inr (by obtain⟨o,ho⟩:=ab8.1 bq;exact⟨id,by rw[bI id o ho];simp,hb⟩)) (hv.sq bI);rw[hs]at Tk;simp only[aD,aP]at Tk;obtain⟨⟨v',Dh,A,c,rfl,_⟩,_⟩:=Tk
  cases Dh
  exact⟨_,rfl,.inr ⟨A,c,rfl⟩⟩
 ·rename_i hs
  cases he
  have hx:x=.ia:=by
   cases x with
   |bT id=>simp only[di]at hs;split at hs<;>cases hs
   |ia=>rfl
   |_=>simp only[di]at hs<;>cases hs
  subst hx;simp only[aD]at hv;exact⟨0,rfl,.inr ⟨_,_,hv⟩⟩
 ·cases he
def fG(Z:Nat→Prop)(ψ:Nat→Value)(h:Hp)(w:World):Option AV→Option Value→Prop
 |none,none=>True
 |some a,some v=>aD Z ψ h w a v
 |_,_=>False
theorem cM(k:IntKind)(i:Int)(y:Nat)(code:BoundsCode)(h0:0≤i)(h1:i≤y):(Instr.sliceBound (.int k i) y code).run P w=.ok i.toNat w:=by simp[Instr.sliceBound,asIntOf,h0,h1]
theorem v5{b:Bool}{n c:Nat}(hc:n≤c){lo hi mx:Option AV}{OV vU mx':Option Value}{l u:Int}(h1:fG Z ψ h w lo OV)(h2:fG Z ψ h w hi vU)(h3:fG Z ψ h w mx mx') (hb:pZ n lo hi=some (l,u)) (ho:bu n l u=true) (hm:mx=none∨(mx=some (.int .i64 u)∧hi≠none)) :
  (Instr.sliceBounds b n c OV vU mx').run P w=.ok (l.toNat,u.toNat,if mx=none then c else u.toNat) w:=by
 simp only[bu,Bool.and_eq_true,decide_eq_true_eq]at ho;obtain⟨h4,h5,h6⟩:=ho;have huc:u≤(c:Int):=by omega
 unfold pZ at hb;rcases hm with rfl|⟨rfl,bq⟩
 ·cases mx' with
  |some _=>exact h3.elim
  |none =>
   split at hb
   all_goals first|(cases hb;done)|skip
   ·cases hb
    cases OV with
    |some _=>exact h1.elim
    |none =>
     cases vU with
     |some _=>exact h2.elim
     |none=>simp[Instr.sliceBounds]
   ·cases hb
    cases OV with
    |none=>exact h1.elim
    |some v =>
     simp only[fG,aD]at h1;subst h1
     cases vU with
     |some _=>exact h2.elim
     |none=>simp[Instr.sliceBounds,cM .i64 l n _ h4 h5]
   ·cases hb
    cases OV with
    |some _=>exact h1.elim
    |none =>
     cases vU with
     |none=>exact h2.elim
     |some v =>
      simp only[fG,aD]at h2;subst h2
      cases b<;>simp[Instr.sliceBounds,cM .i64 u c _ (by omega) huc]
   ·cases hb
    cases OV with
    |none=>exact h1.elim
    |some v =>
     simp only[fG,aD]at h1;subst h1
     cases vU with
     |none=>exact h2.elim
     |some v =>
      simp only[fG,aD]at h2;subst h2;have hx:l≤((u.toNat:Nat):Int):=by omega
      cases b<;>simp[Instr.sliceBounds,cM .i64 u c _ (by omega) huc,cM .i64 l u.toNat _ h4 hx]
 ·cases mx' with
  |none=>exact h3.elim
  |some m =>
   simp only[fG,aD]at h3;subst h3;have huu:u≤((u.toNat:Nat):Int):=by omega
   have hx:l≤((u.toNat:Nat):Int):=by omega
   split at hb
   all_goals first|(cases hb;done)|skip
   ·exact absurd rfl bq
   ·exact absurd rfl bq
   ·cases hb
    cases OV with
    |some _=>exact h1.elim
    |none =>
     cases vU with
     |none=>exact h2.elim
     |some v =>
      simp only[fG,aD]at h2;subst h2
      cases b<;>simp[Instr.sliceBounds,cM .i64 u c _ (by omega) huc,cM .i64 u u.toNat _ (by omega) huu]
   ·cases hb
    cases OV with
    |none=>exact h1.elim
    |some v =>
     simp only[fG,aD]at h1;subst h1
     cases vU with
     |none=>exact h2.elim
     |some v =>
      simp only[fG,aD]at h2;subst h2
      cases b<;>simp[Instr.sliceBounds,cM .i64 u c _ (by omega) huc,cM .i64 u u.toNat _ (by omega) huu,cM .i64 l u.toNat _ h4 hx]
theorem Di{t e:TypeId}(ht:P.underlying t=some (.slice e)){kk:K}(jV:P.cellsOf e=kk.sz){xs:List kk.T}{v:Value}(hr:aP Z w (.sl kk) xs [v]){lo hi mx:Option AV}{OV vU mx':Option Value}{l u:Int} (h1:fG Z' ψ h w lo OV) (h2:fG Z' ψ h w hi vU) (h3:fG Z' ψ h w mx mx') (hb:pZ xs.length lo hi=some (l,u)) (ho:bu xs.length l u=true) (hm:mx=none∨(mx=some (.int .i64 u)∧hi≠none)) :
  ∃V,(Instr.sliceAt t v OV vU mx').run P w=.ok V w∧aP Z w (.sl kk) (cut xs l u) [V]∧(mx≠none→∃A c,V=.slice A c c):=by
 simp only[aP]at hr;obtain⟨v',Dh,A,c,rfl,hl,hn,MI⟩:=hr
 cases Dh
 have ep:=v5 (P:=P) (w:=w) (b:=true) hl h1 h2 h3 hb ho hm;simp only[bu,Bool.and_eq_true,decide_eq_true_eq]at ho;obtain⟨h4,h5,h6⟩:=ho;obtain⟨i,hi⟩:=vh (P:=P) (t:=e) (by have:=kk.jz;omega);generalize OX:(if mx=none then c else u.toNat)=m at ep;have SC:u.toNat≤m:=by
  rcases hm with rfl|⟨rfl,_⟩
  ·simp at OX;omega
  ·simp at OX;omega
 have hmc:m≤c:=by
  rcases hm with rfl|⟨rfl,_⟩
  ·simp at OX;omega
  ·simp at OX;omega
 have ue:(cut xs l u).length=u.toNat-l.toNat:=by unfold cut;rw[List.length_drop,List.length_take];omega
 refine⟨.slice (if m=l.toNat then A else A.map (·.add (l.toNat*P.cellsOf e))) (u.toNat-l.toNat) (m-l.toNat),?_,?_,?_⟩
 ·simp[Instr.sliceAt,Instr.slice,run_underlying ht,ep,eE hi]
 ·simp only[aP];refine⟨_,rfl,_,_,by rw[ue],by rw[ue];omega,fun hA=>?_,fun j x hx=>?_⟩
  ·split at hA
   ·have:=hn hA;omega
   ·cases A with
    |none=>have:=hn rfl;omega
    |some a=>cases hA
  ·have hj:j<u.toNat-l.toNat:=by rw[←ue];exact(aa9.1 hx).1
   have hx':xs[l.toNat+j]? = some x:=by unfold cut at hx;rw[List.getElem?_drop,List.getElem?_take,if_pos (by omega)]at hx;exact hx
   obtain⟨a,us,rfl,hz,hr,hc⟩:=MI _ _ hx';refine⟨a.add (l.toNat*P.cellsOf e),us,by rw[if_neg (by omega)];rfl,by rw[gE];exact hz,hr,fun q y hy=>?_⟩;rw[xf,jV];have:=hc q y hy;rw[Nat.add_mul]at this;rw[←Nat.add_assoc];exact this
 ·intro bq;rcases hm with rfl|⟨rfl,_⟩
  ·exact absurd rfl bq
  ·simp at OX;exact⟨_,_,by rw[←OX]⟩
theorem Kg{hh:Heap}(g:Good Z ψ h w B0 O)(_:∀id o,hh.get id=some o→h id=some o){t e:TypeId}(ht:P.underlying t=some (.slice e)){x:AV}{v:Value}{lo hi mx:Option AV}{OV vU mx':Option Value}{ef:bU} (hv:aD Z ψ h w x v) (h1:fG Z ψ h w lo OV) (h2:fG Z ψ h w hi vU) (h3:fG Z ψ h w mx mx') (mT:∀y hw,ef=.wr y hw→hh.get=h) (he:qR hh (P.cellsOf e) x lo hi mx some=some ef) (XW:(P.info? e).isSome=true) :
  ∃V Z',(Instr.sliceAt t v OV vU mx').run P w=.ok V w∧Next Z ψ h w B0 O N Z' ψ (ef.hp h) w∧aD Z' ψ (ef.hp h) w ef.v V:=by
 unfold qR at he
 split at he
 ·
  simp only[aD]at hv;subst hv
  split at he
  ·rename_i l u hb
   cases ho:bu 0 l u with
   |false=>rw[ho]at he;cases he
   |true =>
    rw[ho]at he
    cases he
    have ep:=v5 (P:=P) (w:=w) (b:=true) (aci 0) h1 h2 h3 hb ho (.inl rfl);simp only[bu,Bool.and_eq_true,decide_eq_true_eq]at ho;have hl0:l.toNat=0:=by omega
    have hu0:u.toNat=0:=by omega
    obtain⟨i,hi⟩:=ab3.1 XW;refine⟨.slice none 0 0,Z,?_,Next.refl g,by simp only[bU.v,aD]⟩;rw[hl0,hu0]at ep;simp[Instr.sliceAt,Instr.slice,run_underlying ht,ep,eE hi]
  ·cases he
 ·
  rename_i ex kk xs;simp only[aD]at hv
  split at he
  ·rename_i jV
   split at he
   ·rename_i l u hb
    split at he
    ·cases ho:bu xs.length l u with
     |false=>rw[ho]at he;cases he
     |true =>
      rw[ho]at he
      cases he
      obtain⟨V,h4,h5,_⟩:=Di (P:=P) ht jV hv.1 h1 h2 h3 hb ho (.inl rfl);exact⟨V,Z,h4,Next.refl g,by simp only[bU.v,bU.hp,aD];exact⟨h5,by simp⟩⟩
    ·rename_i m
     cases ho:(bu xs.length l u&&(hi.isSome&&decide (m=u))) with
     |false=>rw[ho]at he;cases he
     |true =>
      rw[ho]at he
      cases he
      simp only[Bool.and_eq_true,decide_eq_true_eq]at ho;obtain⟨ho,hhi,rfl⟩:=ho;obtain⟨V,h4,h5,h6⟩:=Di (P:=P) ht jV hv.1 h1 h2 h3 hb ho (.inr ⟨rfl,by intro e;rw[e]at hhi;cases hhi⟩);exact⟨V,Z,h4,Next.refl g,by simp only[bU.v,bU.hp,aD];exact⟨h5,fun _=>h6 (by simp)⟩⟩
    ·cases he
   ·cases he
  ·cases he
 ·cases he
def nC(P:Program)(t:TypeId)(k:K):Prop :=∀(Z:Nat→Prop) (w:World) (x y:k.T) (xs ys:Array Value),aP Z w k x xs.toList→aP Z w k y ys.toList →(Op.equal t (.agg xs) (.agg ys)).run P w=.ok (tU k x y) w∧(∀(op:BinOp) (a b:Operand),(eqGuard op t a b (.agg xs) (.agg ys)).run P w=.ok () w)∧∀e:Bool,(Instr.checkKey e 10000 t (.agg xs)).run P w=.ok () w
theorem zk(op:BinOp)(t:TypeId)(a b:Operand)(k k':IntKind)(x y:Int):(eqGuard op t a b (.int k x) (.int k' y)).run P w=.ok () w:=by cases op<;>simp[eqGuard]
theorem QB(op:BinOp)(t:TypeId)(a b:Operand)(x y:ByteArray):(eqGuard op t a b (.string x) (.string y)).run P w=.ok () w:=by cases op<;>simp[eqGuard]
theorem M4(op:BinOp)(t:TypeId)(a b:Operand)(x y:Bool):(eqGuard op t a b (.bool x) (.bool y)).run P w=.ok () w:=by cases op<;>simp[eqGuard]
theorem GH(op:BinOp)(t:TypeId)(a b:Operand)(x y:Option Addr):(eqGuard op t a b (.pointer x) (.pointer y)).run P w=.ok () w:=by cases op<;>simp[eqGuard]
def cq:AV→Value
 |.bool b=>.bool b
 |.int k n=>.int k n
 |.str s=>.string s
 |_=>undef
theorem kP(k:IntKind)(n:Int):aD Z ψ h w (.int k n) (cq (.int k n)):=by simp only[aD,cq]
theorem fH(b:Bool):aD Z ψ h w (.bool b) (cq (.bool b)):=by simp only[aD,cq]
theorem ln{t e:TypeId}(ht:P.underlying t=some (.pointer e))(a:Option Addr):(Op.equal t (.pointer a) (.pointer none)).run P w=.ok a.isNone w:=by
 have key:∀d,(Op.equalIn (d+1) t (.pointer a) (.pointer none)).run P w=.ok a.isNone w:=fun d=>by cases a<;>simp[Op.equalIn,run_underlying ht]
 exact key 9999
theorem Tl{op:BinOp}{t:TypeId}{k:IntKind}{a b:Int}{v:AV}(hv:aa2 op k a b=some v):∃V,(binOp op t (.int k a) (.int k b)).run P w=.ok V w∧aD Z ψ h w v V:=by
 cases op<;>simp only[aa2]at hv<;>cases hv<;>first
  |(refine⟨cq (.int _ _),?_,kP _ _⟩;simp[binOp,Op.intArith,Op.intCmp,cq];done)
  |(refine⟨cq (.bool _),?_,fH _⟩;simp[binOp,Op.intArith,Op.intCmp,cq];done)
  |(refine⟨cq (.int _ _),?_,kP _ _⟩;simp only[binOp,cq,ne_eq,not_true_eq_false,if_false];rfl)
theorem QC{Eqs:TypeId→Option K}(FN:∀t k,Eqs t=some k→nC P t k){op:BinOp}{t:TypeId}{xo yo:Operand}{x y:AV}{u v:Value}{e:bU}(hu:aD Z ψ h w x u)(hv:aD Z ψ h w y v)(he:AS P Eqs op t x y some=some e) :
  ∃r V,e=.val r∧((do eqGuard op t xo yo u v;binOp op t u v:Sem Value)).run P w=.ok V w∧aD Z ψ h w r V:=by
 unfold AS at he
 split at he
 ·rename_i k a k' b;simp only[aD]at hu hv;subst hu;subst hv
  split at he
  ·cases hb:decide (b<0) with
   |true=>rw[hb]at he;cases he
   |false =>
    rw[hb]at he;cases he;have hb':¬b<0:=by simpa using hb
    exact⟨_,cq (.int _ _),rfl,by simp[zk,binOp,Op.shift,hb',cq,J3],kP _ _⟩
  ·cases hb:decide (b<0) with
   |true=>rw[hb]at he;cases he
   |false =>
    rw[hb]at he;cases he;have hb':¬b<0:=by simpa using hb
    exact⟨_,cq (.int _ _),rfl,by simp[zk,binOp,Op.shift,hb',cq,mC],kP _ _⟩
  split at he
  ·rename_i hk;subst hk;simp only[Sem.run_bind,zk,Result.andThen_ok]
   split at he
   ·cases hb:(b==0) with
    |true=>rw[hb]at he;cases he
    |false =>
     rw[hb]at he;cases he;have hb':b≠0:=by simpa using hb
     exact⟨_,cq (.int _ _),rfl,by simp[binOp,Op.intDiv,hb',cq],kP _ _⟩
   ·cases hb:(b==0) with
    |true=>rw[hb]at he;cases he
    |false =>
     rw[hb]at he;cases he;have hb':b≠0:=by simpa using hb
     exact⟨_,cq (.int _ _),rfl,by simp[binOp,Op.intDiv,hb',cq],kP _ _⟩
   ·split at he
    ·rename_i v hv
     cases he
     obtain⟨V,h1,h2⟩:=Tl (P:=P) (t:=t) (w:=w) (Z:=Z) (ψ:=ψ) (h:=h) hv;exact⟨_,V,rfl,h1,h2⟩
    ·cases he
  ·cases he
 ·rename_i a b;simp only[aD]at hu hv;subst hu;subst hv;simp only[Sem.run_bind,QB,Result.andThen_ok]
  cases op<;>simp only[ads]at he<;>first|(cases he;done)|(cases he;exact⟨_,cq (.bool _),rfl,by simp[binOp,Op.stringOp,←beq_toListBytes,cq],fH _⟩)
 ·rename_i a b;simp only[aD]at hu hv;subst hu;subst hv;simp only[Sem.run_bind,M4,Result.andThen_ok];have key:(P.underlying t).map Ia=some true→P.underlying t=some .bool:=fun hm=>by
   obtain⟨d,hd,he⟩:=ac1.1 hm
   cases d<;>simp[Ia]at he
   exact hd
  split at he
  ·rename_i hm
   cases he
   exact⟨_,cq (.bool _),rfl,by simp[binOp,Op.equal,Op.maxDepth,run_equalIn_bool' (P:=P) w 9999 t a b (key hm),cq],fH _⟩
  ·rename_i hm
   cases he
   exact⟨_,cq (.bool _),rfl,by simp[binOp,Op.equal,Op.maxDepth,run_equalIn_bool' (P:=P) w 9999 t a b (key hm),cq],fH _⟩
  ·cases he
 ·rename_i a b
  split at he
  ·cases he
  ·rename_i k hk;simp only[aD]at hu hv;obtain⟨xs,rfl,hx⟩:=hu;obtain⟨ys,rfl,hy⟩:=hv
   split at he
   ·rename_i x y hdx hdy
    cases he
    obtain⟨h1,h2,_⟩:=FN t k hk Z w x y xs ys (eO hdx hx) (eO hdy hy);exact⟨_,cq (.bool _),rfl,by simp only[Sem.run_bind,h2,Result.andThen_ok,binOp,h1,Sem.run_pure,cq],fH _⟩
   ·rename_i x y hdx hdy
    cases he
    obtain⟨h1,h2,_⟩:=FN t k hk Z w x y xs ys (eO hdx hx) (eO hdy hy);exact⟨_,cq (.bool _),rfl,by simp only[Sem.run_bind,h2,Result.andThen_ok,binOp,h1,Sem.run_pure,cq],fH _⟩
   ·cases he
 ·simp only[aD]at hu hv;subst hu;subst hv;have key:(P.underlying t).map ze=some true→∃e,P.underlying t=some (.pointer e):=fun hm=>by
   obtain⟨d,hd,he⟩:=ac1.1 hm
   cases d<;>simp[ze]at he
   exact⟨_,hd⟩
  simp only[Sem.run_bind,GH,Result.andThen_ok]
  split at he
  ·rename_i hm
   cases he
   obtain⟨et,ht⟩:=key hm;exact⟨_,cq (.bool _),rfl,by simp only[binOp,Sem.run_bind,ln ht,Result.andThen_ok,Sem.run_pure,cq,Option.isNone_none,Option.isNone_some,Bool.not_true,Bool.not_false],fH _⟩
  ·rename_i hm
   cases he
   obtain⟨et,ht⟩:=key hm;exact⟨_,cq (.bool _),rfl,by simp only[binOp,Sem.run_bind,ln ht,Result.andThen_ok,Sem.run_pure,cq,Option.isNone_none,Option.isNone_some,Bool.not_true,Bool.not_false],fH _⟩
  ·cases he
 ·simp only[aD]at hu hv;obtain⟨a,rfl,_⟩:=hu;subst hv;have key:(P.underlying t).map ze=some true→∃e,P.underlying t=some (.pointer e):=fun hm=>by
   obtain⟨d,hd,he⟩:=ac1.1 hm
   cases d<;>simp[ze]at he
   exact⟨_,hd⟩
  simp only[Sem.run_bind,GH,Result.andThen_ok]
  split at he
  ·rename_i hm
   cases he
   obtain⟨et,ht⟩:=key hm;exact⟨_,cq (.bool _),rfl,by simp only[binOp,Sem.run_bind,ln ht,Result.andThen_ok,Sem.run_pure,cq,Option.isNone_none,Option.isNone_some,Bool.not_true,Bool.not_false],fH _⟩
  ·rename_i hm
   cases he
   obtain⟨et,ht⟩:=key hm;exact⟨_,cq (.bool _),rfl,by simp only[binOp,Sem.run_bind,ln ht,Result.andThen_ok,Sem.run_pure,cq,Option.isNone_none,Option.isNone_some,Bool.not_true,Bool.not_false],fH _⟩
  ·cases he
 ·cases he
theorem QD{a:AV}{v:Value}(hp:yZ a=true)(hr:aD Z ψ h w a v):v.oneCell'=true:=by
 cases a with
 |no=>cases hp
 |agg cs=>cases hp
 |o8 cs=>cases hp
 |bool b=>simp only[aD]at hr;subst hr;rfl
 |int k n=>simp only[aD]at hr;subst hr;rfl
 |str s=>simp only[aD]at hr;subst hr;rfl
 |mB=>simp only[aD]at hr;subst hr;rfl
 |ia=>simp only[aD]at hr;subst hr;rfl
 |ref id s i off=>simp only[aD]at hr;obtain⟨a,rfl,_⟩:=hr;rfl
 |fp k x off=>simp only[aD]at hr;obtain⟨a,us,rfl,_⟩:=hr;rfl
 |sl ex k xs=>simp only[aD,aP]at hr;obtain⟨⟨v',hv,A,c,rfl,_⟩,_⟩:=hr;cases hv;rfl
 |bT id=>simp only[aD]at hr;exact hr.1.2
 |mp kk vk es=>simp only[aD,aP]at hr;obtain⟨A,hv,_⟩:=hr;cases hv;rfl
 |fn f cap=>simp only[aD]at hr;obtain⟨vs,rfl,_⟩:=hr;rfl
theorem v7:∀{cs:List AV} {vs:List Value},cs.all yZ=true→aw Z ψ h w cs vs→∀u∈vs,u.oneCell'=true
 |[],_,_,hr,u,hu=>by simp only[aw]at hr;subst hr;simp at hu
 |c::r,_,hp,hr,u,hu=>by
  simp only[List.all_cons,Bool.and_eq_true]at hp;simp only[aw]at hr;obtain⟨v,us,rfl,h1,h2⟩:=hr;rcases abi.1 hu with rfl|hu
  ·exact QD hp.1 h1
  ·exact v7 hp.2 h2 u hu
theorem Kh{a:AV}(hp:a.cells.all yZ=true):a≠.no:=by rintro rfl;simp[AV.cells,yZ]at hp
theorem uf{id:Nat}:∀{cs:List AV},MR id cs=true→AV.bT id∉cs
 |[],_=>by simp
 |c::r,hn=>by
  intro hm
  cases c with
  |bT i =>
   simp only[MR,Bool.and_eq_true,Bool.not_eq_true',beq_eq_false_iff_ne]at hn;rcases abi.1 hm with e|hm
   ·cases e;exact hn.1 rfl
   ·exact uf hn.2 hm
  |_ =>
   simp only[MR]at hn;rcases abi.1 hm with e|hm
   ·cases e
   ·exact uf hn hm
theorem A5{hh:Heap}(g:Good Z ψ hh.get w B0 O){t:TypeId}{a x:AV}{u v:Value}{e:bU}(hu:aD Z ψ hh.get w a u)(hv:aD Z ψ hh.get w x v)(he:tV P hh t a x some=some e) :
  ∃hw w' Z',e=.wr .no hw∧(Instr.storeAt t u v).run P w=.ok () w'∧Next Z ψ hh.get w B0 O N Z' ψ hw.get w':=by
 unfold tV at he
 split at he
 ·rename_i hc;obtain⟨hlen,XX,s5⟩:=hc;obtain⟨inf,XX⟩:=ab3.1 XX;have SA:=hv.cells (Kh s5);have s6:=v7 s5 SA;have ue:=SA.length;simp only[Array.length_toList]at ue
  split at he
  ·rename_i id s i off;simp only[aD]at hu;obtain⟨a,rfl,ha⟩:=hu
   split at he
   ·rename_i ty cs hg
    split at he
    ·rename_i hc;obtain⟨rfl,adC⟩:=hc
     cases he
     have J7:=ha (by rw[hg];simp);obtain⟨w',h1,h2⟩:=C7 (P:=P) (N:=N) g hg XX SA s6 (by omega) adC (a:=a) (by rw[J7];simp);exact⟨_,w',Z,rfl,h1,by rw[oK];exact h2⟩
    ·cases he
   ·rename_i ty kk xs hg;obtain⟨y,hx,Xt⟩:=ac0.1 he;clear he
    split at Xt
    ·rename_i hc;obtain⟨rfl,adC,sr⟩:=hc
     split at Xt
     ·rename_i z hz
      cases Xt
      have J7:=ha (by rw[hg];simp);have bQ:=uf sr;have gd:=jB g x.cells;have hgd:(dg hh x.cells).get id=some (.own (.row ty kk) xs):=by rw[qW _ _ _ bQ];exact hg
      have abc:=qd (Z':=sF Z ψ hh.get x.cells) g (fun b hb=>.inl hb) (fun i b hm bq hb=>.inr ⟨i,hm,bq,hb⟩) SA;obtain⟨w',h1,h2⟩:=C9 (P:=P) (N:=N) gd hgd XX hx (y:=z) (off:=off) (V:=v) (by omega) (by omega) (a:=a) J7 (fun us Ki=>by
       have h3:=(js (ψ:=ψ) (h:=hh.get) Ki);have h4:=eO hz (abc.fh off h3)
       rwa [ud _ _ _ (by rw[Array.length_toList,Ki.len];omega),Array.length_toList]at h4) s6
      refine⟨_,w',sF Z ψ hh.get x.cells,rfl,h1,?_⟩;rw[show((stored hh x.cells).2.set id (.own (.row ty kk) (xs.set i z))).get=fq (dg hh x.cells).get id (some (.own (.row ty kk) (xs.set i z))) from oK _ _ _];exact h2.drop (fun b hb=>.inl hb) (fun b hb=>hb.imp (fun h=>h) (fun⟨i,_,h5,h6⟩=>⟨i,h5,h6⟩)) (fm _ _)
     ·cases Xt
    ·cases Xt
   ·cases he
  ·cases he
 ·cases he
theorem Tn{a:AV}{v:Value}(ha:a.isAgg=true)(hr:aD Z ψ h w a v):∃vs,v=.agg vs:=by
 cases a<;>simp[AV.isAgg]at ha
 simp only[aD]at hr;obtain⟨vs,rfl,_⟩:=hr;exact⟨vs,rfl⟩
theorem GI{a:AV}{v:Value}(ha:a.isAgg=false)(sr:a≠.no)(hr:aD Z ψ h w a v):v.cells=#[v]:=by
 cases a with
 |no=>exact absurd rfl sr
 |agg cs=>simp[AV.isAgg]at ha
 |bool b=>simp only[aD]at hr;subst hr;rfl
 |int k n=>simp only[aD]at hr;subst hr;rfl
 |str s=>simp only[aD]at hr;subst hr;rfl
 |mB=>simp only[aD]at hr;subst hr;rfl
 |ia=>simp only[aD]at hr;subst hr;rfl
 |ref id s i off=>simp only[aD]at hr;obtain⟨a,rfl,_⟩:=hr;rfl
 |fp k x off=>simp only[aD]at hr;obtain⟨a,us,rfl,_⟩:=hr;rfl
 |sl ex k xs=>simp only[aD,aP]at hr;obtain⟨⟨v',hv,A,c,rfl,_⟩,_⟩:=hr;cases hv;rfl
 |bT id=>simp only[aD]at hr;exact hr.1.1
 |mp kk vk es=>simp only[aD,aP]at hr;obtain⟨A,hv,_⟩:=hr;cases hv;rfl
 |fn f cap=>simp only[aD]at hr;obtain⟨vs,rfl,_⟩:=hr;rfl
 |o8 cs=>simp only[aD]at hr;obtain⟨vs,rfl,_⟩:=hr;rfl
theorem wa{hh:Heap}{k:K}{a:AV}{x:k.T}{v:Value}(g:Good Z ψ hh.get w B0 O)(hz:∀b,Z b→Z' b)(hb:∀id b,AV.bT id∈a.cells→hh.get id≠none→ob (ψ id)=some b→Z' b) (hx:hM k hh a=some x) (hr:aD Z ψ hh.get w a v):aP Z' w k x v.cells.toList∧(k.isAgg=true→∃vs,v=.agg vs)∧(k.isAgg=false→v.cells=#[v]):=by
 unfold hM at hx
 split at hx
 ·rename_i ZN;have sr:=GG hx;have hv:=qd g hz hb (hr.cells sr);exact⟨eO hx hv,fun h=>Tn (by rw[←ZN];exact h) hr,fun h=>GI (by rw[←ZN];exact h) sr hr⟩
 ·cases hx
theorem ug{hh:Heap}{k:K}{a:AV}{x:k.T}{v:Value}(g:Good Z ψ hh.get w B0 O)(hz:∀b,Z b→Z' b)(hb:∀id b,AV.bT id∈a.cells→hh.get id≠none→ob (ψ id)=some b→Z' b) (hx:hM k hh a=some x) (hr:aD Z ψ hh.get w a v):aD Z' ψ' h' w (cJ k x) v:=by obtain⟨h1,h2,h3⟩:=wa g hz hb hx hr;exact nt h1 h2 h3
theorem aP.flat:∀{k:K} {x:k.T} {vs:List Value},k.flat=true→aP Z w k x vs→aP Z' w' k x vs
 |.int _,_,_,_,h=>h
 |.bool,_,_,_,h=>h
 |.str,_,_,_,h=>h
 |.sl k,_,_,hf,_=>by simp[K.flat]at hf
 |.pair a b,x,_,hf,h=>by simp only[K.flat,Bool.and_eq_true]at hf;simp only[aP]at h ⊢;obtain⟨us,ws,rfl,h1,h2⟩:=h;exact⟨us,ws,rfl,aP.flat hf.1 h1,aP.flat hf.2 h2⟩
 |.one k,x,_,hf,h=>by simp only[aP]at h ⊢;exact aP.flat (k:=k) (by simpa only[K.flat] using hf) h
theorem Cd:∀(k:K) (x y:k.T),k.flat=true→(tU k x y=true↔x=y)
 |.int _,x,y,_=>by simp only[tU];exact beq_iff_eq (α:=Int)
 |.bool,x,y,_=>by simp only[tU];exact beq_iff_eq (α:=Bool)
 |.str,x,y,_=>by simp only[tU];exact MapKept.bytes_beq x y
 |.sl _,_,_,hf=>by simp[K.flat]at hf
 |.mp _ _,_,_,hf=>by simp[K.flat]at hf
 |.pair a b,x,y,hf=>by simp only[K.flat,Bool.and_eq_true]at hf;simp only[tU,Bool.and_eq_true];rw[Cd a _ _ hf.1,Cd b _ _ hf.2];exact⟨fun h=>Prod.ext h.1 h.2,fun h=>⟨congrArg Prod.fst h,congrArg Prod.snd h⟩⟩
 |.one k,x,y,hf=>by simp only[tU];exact Cd k x y (by simpa only[K.flat] using hf)
theorem qY:∀{k:K} {x:k.T} {us vs:List Value},k.flat=true→aP Z w k x us→aP Z' w' k x vs→us=vs
 |.int _,_,_,_,_,h1,h2=>by simp only[aP]at h1 h2;rw[h1,h2]
 |.bool,_,_,_,_,h1,h2=>by simp only[aP]at h1 h2;rw[h1,h2]
 |.str,_,_,_,_,h1,h2=>by simp only[aP]at h1 h2;rw[h1,h2]
 |.sl _,_,_,_,hf,_,_=>by simp[K.flat]at hf
 |.mp _ _,_,_,_,hf,_,_=>by simp[K.flat]at hf
 |.pair a b,x,_,_,hf,h1,h2=>by simp only[K.flat,Bool.and_eq_true]at hf;simp only[aP]at h1 h2;obtain⟨a1,a2,rfl,h3,h4⟩:=h1;obtain⟨b1,b2,rfl,h5,h6⟩:=h2;rw[qY hf.1 h3 h5,qY hf.2 h4 h6]
 |.one k,x,_,_,hf,h1,h2=>by simp only[aP]at h1 h2;exact qY (k:=k) (by simpa only[K.flat] using hf) h1 h2
theorem uh:∀{k:K} {x:k.T} {us:List Value},k.flat=true→aP Z w k x us→∀u∈us,∀n,Instr.sameBits n u u=true
 |.int _,x,_,_,h1,u,hu,n=>by simp only[aP]at h1;subst h1;simp only[List.mem_singleton]at hu;subst hu;cases n<;>simp[Instr.sameBits]<;>exact beq_self_eq_true (α:=Int) x
 |.bool,x,_,_,h1,u,hu,n=>by simp only[aP]at h1;subst h1;simp only[List.mem_singleton]at hu;subst hu;cases n<;>simp[Instr.sameBits]<;>exact beq_self_eq_true (α:=Bool) x
 |.str,x,_,_,h1,u,hu,n=>by simp only[aP]at h1;subst h1;simp only[List.mem_singleton]at hu;subst hu;cases n<;>simp[Instr.sameBits]<;>exact(MapKept.bytes_beq x x).2 rfl
 |.sl _,_,_,hf,_,_,_,_=>by simp[K.flat]at hf
 |.mp _ _,_,_,hf,_,_,_,_=>by simp[K.flat]at hf
 |.pair a b,x,_,hf,h1,u,hu,n=>by
  simp only[K.flat,Bool.and_eq_true]at hf;simp only[aP]at h1;obtain⟨a1,a2,rfl,h3,h4⟩:=h1;rcases abG.1 hu with hu|hu
  ·exact uh hf.1 h3 u hu n
  ·exact uh hf.2 h4 u hu n
 |.one k,x,_,hf,h1,u,hu,n=>by simp only[aP]at h1;exact uh (k:=k) (by simpa only[K.flat] using hf) h1 u hu n
def MJ(b:Bool)(v:Value):Prop:=(b=true→∃vs,v=.agg vs)∧(b=false→v.cells=#[v])
theorem QE{b:Bool}{u v:Value}(h1:MJ b u)(h2:MJ b v)(h:u.cells.toList=v.cells.toList):u=v:=by
 cases b with
 |true =>
  obtain⟨a,rfl⟩:=h1.1 rfl;obtain⟨c,rfl⟩:=h2.1 rfl;have:a=c:=by simpa[Value.cells] using h
  rw[this]
 |false =>rw[h1.2 rfl,h2.2 rfl]at h;simpa using h
theorem Tp{k:K}{x:k.T}{u:Value}(hf:k.flat=true)(hr:aP Z w k x u.cells.toList)(hs:MJ k.isAgg u):Instr.sameBits 10000 u u=true:=by
 have hb:=uh hf hr
 cases hk:k.isAgg with
 |false=>exact hb u (by rw[hs.2 hk];simp) _
 |true =>obtain⟨a,rfl⟩:=hs.1 hk;show Instr.sameBits (9999+1) (.agg a) (.agg a)=true;simp only[Instr.sameBits,beq_self_eq_true,Bool.true_and,List.all_eq_true];intro p hp;obtain⟨i,hi,he⟩:=List.mem_iff_getElem.1 hp;simp only[List.getElem_zip]at he;subst he;exact hb _ (acy (l:=(Value.agg a).cells.toList) (by simpa[Value.cells] using hi)) _
def Keys(Z:Nat→Prop)(w:World)(k:K)(ys:List k.T)(l:List MapEntry):Prop:=ys.length=l.length∧∀(i:Nat) y e,ys[i]? = some y→l[i]? = some e→aP Z w k y e.key.cells.toList∧MJ k.isAgg e.key
theorem Keys.tail{k:K}{y:k.T}{ys:List k.T}{e:MapEntry}{l:List MapEntry}(h:Keys Z w k (y::ys) (e::l)):Keys Z w k ys l:=⟨by simpa using h.1,fun i a b h1 h2=>h.2 (i+1) a b (by simpa using h1) (by simpa using h2)⟩
theorem Kj{k:K}{x:k.T}{d:TypeDesc}{kv:Value}(hs:∀y Xu,aP Z w k y Xu.cells.toList→MJ k.isAgg Xu→Instr.sameNow d kv Xu=some (tU k x y)):∀(l:List MapEntry) (ys:List k.T) (i:Nat),Keys Z w k ys l → Instr.findNow d kv l i=some ((ys.findIdx? (tU k x)).map fun j=>(i+j,((l[j]?).map (·.val)).getD undef))
 |[],ys,i,h=>by have:ys=[]:=acf (by simpa using h.1);subst this;rfl
 |e::l,[],i,h=>by have:=h.1;simp at this
 |e::l,y::ys,i,h=>by
  obtain⟨h1,h2⟩:=h.2 0 y e rfl rfl;have ih:=Kj hs l ys (i+1) h.tail;simp only[Instr.findNow,hs y _ h1 h2,List.findIdx?_cons]
  cases tU k x y with
  |true=>simp
  |false =>
   simp only[ih,Bool.false_eq_true,if_false]
   cases ys.findIdx? (tU k x) with
   |none=>rfl
   |some j=>simp;omega
theorem A6{k:K}{x:k.T}{t:TypeId}{kv:Value}(hs:∀y Xu,aP Z w k y Xu.cells.toList→MJ k.isAgg Xu→(Op.equal t kv Xu).run P w=.ok (tU k x y) w):∀(l:List MapEntry) (ys:List k.T) (i:Nat),Keys Z w k ys l →(Instr.findAsking t kv l i).run P w=.ok ((ys.findIdx? (tU k x)).map fun j=>(i+j,((l[j]?).map (·.val)).getD undef)) w
 |[],ys,i,h=>by have:ys=[]:=acf (by simpa using h.1);subst this;rfl
 |e::l,[],i,h=>by have:=h.1;simp at this
 |e::l,y::ys,i,h=>by
  obtain⟨h1,h2⟩:=h.2 0 y e rfl rfl;have ih:=A6 hs l ys (i+1) h.tail;simp only[Instr.findAsking,Sem.run_bind,hs y _ h1 h2,Result.andThen_ok,List.findIdx?_cons]
  cases tU k x y with
  |true=>simp
  |false =>
   simp only[ih,Bool.false_eq_true,if_false]
   cases ys.findIdx? (tU k x) with
   |none=>rfl
   |some j=>simp;omega
structure Tq(P:Program)(t:TypeId)(k:K):Prop where
 flat:k.flat=true
 check:∀(Z:Nat→Prop) (w:World) (x:k.T) (kv:Value) (e:Bool),aP Z w k x kv.cells.toList→MJ k.isAgg kv→(Instr.checkKey e 10000 t kv).run P w=.ok () w
 find:∀(Z:Nat→Prop) (w:World) (x:k.T) (kv:Value) (l:List MapEntry) (ys:List k.T),aP Z w k x kv.cells.toList→MJ k.isAgg kv→Keys Z w k ys l →
  (Instr.findKey t kv l).run P w=.ok ((ys.findIdx? (tU k x)).map fun j=>(j,((l[j]?).map (·.val)).getD undef)) w
theorem qZ{t:TypeId}{k:K}{d:TypeDesc}(hf:k.flat=true)(hk:k.isAgg=false)(hd:P.underlying t=some d)(hc:∀(Z:Nat→Prop) (w:World) (x:k.T) (kv:Value),aP Z w k x [kv]→MapKept.IsKey d kv) (hs:∀(Z:Nat→Prop) (w:World) (x y:k.T) (u v:Value),aP Z w k x [u]→aP Z w k y [v]→Instr.sameNow d u v=some (tU k x y)):Tq P t k:=by
 have one:∀{Z:Nat→Prop} {w:World} {x:k.T} {kv:Value},aP Z w k x kv.cells.toList→MJ k.isAgg kv→aP Z w k x [kv]:=fun {Z w x kv} h1 h2=>by rw[h2.2 hk]at h1;exact h1
 refine⟨hf,fun Z w x kv e h1 h2=>MapKept.run_checkKey hd (hc Z w x kv (one h1 h2)) e 9999,fun Z w x kv l ys h1 h2 h3=>?_⟩;have:=Kj (Z:=Z) (w:=w) (x:=x) (d:=d) (kv:=kv) (fun y Xu h4 h5=>hs Z w x y kv Xu (one h1 h2) (one h4 h5)) l ys 0 h3;simp only[Nat.zero_add]at this;exact MapKept.run_findKey hd this
theorem Kk(d:TypeDesc)(a:Array Value)(v:Value):Instr.sameNow d (.agg a) v=none:=by cases d<;>cases v<;>rfl
theorem zm{Eqs:TypeId→Option K}(FN:∀t k,Eqs t=some k→nC P t k){t:TypeId}{k:K}(hk:OR P Eqs t k=true):Tq P t k:=by
 unfold OR at hk;rw[Bool.and_eq_true]at hk;obtain⟨hf,hk⟩:=hk
 split at hk
 ·rename_i ik ik' hd;simp only[decide_eq_true_eq]at hk;subst hk;exact qZ hf rfl hd (fun Z w x kv hr=>by simp only[aP]at hr;cases hr;simp[MapKept.IsKey]) (fun Z w x y u v h1 h2=>by simp only[aP]at h1 h2;cases h1;cases h2;simp[Instr.sameNow,tU])
 ·rename_i hd;exact qZ hf rfl hd (fun Z w x kv hr=>by simp only[aP]at hr;cases hr;simp[MapKept.IsKey]) (fun Z w x y u v h1 h2=>by simp only[aP]at h1 h2;cases h1;cases h2;simp[Instr.sameNow,tU])
 ·rename_i hd;exact qZ hf rfl hd (fun Z w x kv hr=>by simp only[aP]at hr;cases hr;simp[MapKept.IsKey]) (fun Z w x y u v h1 h2=>by simp only[aP]at h1 h2;cases h1;cases h2;simp[Instr.sameNow,tU])
 ·simp only[Bool.and_eq_true,decide_eq_true_eq]at hk;obtain⟨ZN,hk⟩:=hk;have fact:=FN _ _ hk;have agg:∀{b:Bool} {u:Value},b=true→MJ b u→∃a,u=.agg a:=fun hb h=>h.1 hb;refine⟨hf,fun Z w x kv e h1 h2=>?_,fun Z w x kv l ys h1 h2 h3=>?_⟩
  ·obtain⟨a,rfl⟩:=agg ZN h2;exact(fact Z w x x a a h1 h1).2.2 e
  ·obtain⟨a,rfl⟩:=agg ZN h2;have h4:=A6 (P:=P) (t:=t) (Z:=Z) (w:=w) (x:=x) (kv:=.agg a) (fun y Xu h4 h5=>by obtain⟨b,rfl⟩:=agg ZN h5;exact(fact Z w x y a b h1 h4).1) l ys 0 h3;simp only[Nat.zero_add]at h4
   cases l with
   |nil =>
    have:ys=[]:=acf (by simpa using h3.1);subst this
    cases hu:P.underlying t with
    |none =>have hc:=(fact Z w x x a a h1 h1).2.2 true;exfalso;unfold Instr.checkKey at hc;simp[underlying,hu]at hc
    |some d=>simp[Instr.findKey,run_underlying hu,Instr.findNow]
   |cons e l =>
    cases hu:P.underlying t with
    |none =>have hc:=(fact Z w x x a a h1 h1).2.2 true;exfalso;unfold Instr.checkKey at hc;simp[underlying,hu]at hc
    |some d=>simp only[Instr.findKey,Sem.run_bind,run_underlying hu,Result.andThen_ok,Instr.findNow,Kk];exact h4
section
variable {kk vk:K} {es:List (kk.T×vk.T)} {l:List MapEntry}
abbrev lG(Z:Nat→Prop)(w:World)(kk vk:K)(es:List (kk.T×vk.T))(l:List MapEntry):Prop:=Ic (aP Z w kk) (aP Z w vk) kk.isAgg vk.isAgg es l
theorem lG.keys(h:lG Z w kk vk es l):Keys Z w kk (es.map (·.1)) l :=⟨by rw[List.length_map];exact h.1,fun i y e h1 h2=>by rw[List.getElem?_map]at h1;obtain⟨x,h3,rfl⟩:=ac1.1 h1;exact(h.2 i x e h3 h2).1⟩
theorem Dk{x:kk.T}:(es.map (·.1)).findIdx? (tU kk x)=vO kk x es:=by unfold vO;rw[List.findIdx?_map];rfl
theorem Ii{x:kk.T}{i:Nat}(h:vO kk x es=some i):i<es.length:=by unfold vO at h;exact(List.findIdx?_eq_some_iff_getElem.1 h).1
theorem XY{x:kk.T}{i:Nat}(h:vO kk x es=some i):∃e,es[i]? = some e∧tU kk x e.1=true:=by unfold vO at h;obtain⟨h1,h2,_⟩:=List.findIdx?_eq_some_iff_getElem.1 h;exact⟨_,abb h1,h2⟩
def Ts(Z:Nat→Prop)(w:World)(kk vk:K)(x:kk.T×vk.T)(e:MapEntry):Prop:=(aP Z w kk x.1 e.key.cells.toList∧MJ kk.isAgg e.key)∧aP Z w vk x.2 e.val.cells.toList∧MJ vk.isAgg e.val
theorem lG.set(h:lG Z w kk vk es l)(i:Nat){x:kk.T×vk.T}{f:MapEntry→MapEntry}(ho:∀e,l[i]? = some e→Ts Z w kk vk x (f e)):lG Z w kk vk (es.set i x) (l.modify i f):=by
 refine⟨by simp[h.1],fun j y e h1 h2=>?_⟩;rw[List.getElem?_modify]at h2;obtain⟨e0,h3,h4⟩:=ac1.1 h2;by_cases Ce:i=j
 ·subst Ce;rw[if_pos rfl]at h4;have aH:i<es.length:=by rw[h.1];exact(aa9.1 h3).1
  rw[List.getElem?_set_self aH]at h1
  cases h1
  subst h4;exact ho e0 h3
 ·rw[if_neg Ce]at h4;rw[List.getElem?_set_ne Ce]at h1;subst h4;exact h.2 j y e0 h1 h3
theorem lG.push(h:lG Z w kk vk es l){x:kk.T×vk.T}{e:MapEntry}(ho:Ts Z w kk vk x e):lG Z w kk vk (es++[x]) (l++[e]):=by
 refine⟨by simp[h.1],fun j y e' h1 h2=>?_⟩;by_cases hj:j<es.length
 ·rw[List.getElem?_append_left hj]at h1;rw[List.getElem?_append_left (by rw[←h.1];exact hj)]at h2;exact h.2 j y e' h1 h2
 ·rw[List.getElem?_append_right (by omega)]at h1;rw[List.getElem?_append_right (by have:=h.1;omega),←h.1]at h2;by_cases h0:j-es.length=0
  ·rw[h0]at h1 h2;cases h1;cases h2;exact ho
  ·rw[List.getElem?_eq_none (by simp;omega)]at h1;cases h1
theorem lG.erase(h:lG Z w kk vk es l)(i:Nat):lG Z w kk vk (es.eraseIdx i) (l.eraseIdx i):=by
 refine⟨by rw[List.length_eraseIdx,List.length_eraseIdx,h.1],fun j y e h1 h2=>?_⟩;rw[List.getElem?_eraseIdx]at h1 h2
 split at h1
 ·rename_i hj;rw[if_pos hj]at h2;exact h.2 j y e h1 h2
 ·rename_i hj;rw[if_neg hj]at h2;exact h.2 (j+1) y e h1 h2
theorem lG.mono(h:lG Z w kk vk es l)(hz:∀b,Z b→Z' b)(hs:cV Z w w'):lG Z' w' kk vk es l:=Ic.imp (fun _ _ h=>h.mono hz hs) (fun _ _ h=>h.mono hz hs) h
end
theorem wb{Eqs:TypeId→Option K}{t:TypeId}{kk vk:K}(h:mapOf P Eqs t=some (kk,vk)):∃a b,P.underlying t=some (.map a b)∧OR P Eqs a kk=true∧OQ P b vk=true:=by
 unfold mapOf at h
 split at h
 ·rename_i a b hu
  split at h
  ·split at h
   ·rename_i hc
    cases h
    rw[Bool.and_eq_true]at hc;exact⟨a,b,hu,hc.1,hc.2⟩
   ·cases h
  ·cases h
 ·cases h
theorem M5{b:TypeId}{vk:K}(h:OQ P b vk=true):∃z,(zeroValue b).run P w=.ok z w∧aP Z w vk (pW vk) z.cells.toList∧MJ vk.isAgg z:=by
 unfold OQ at h
 split at h
 ·rename_i i hi
  split at h
  ·rename_i z hz;refine⟨z,xl hi hz,?_⟩;unfold S5 at h
   split at h
   ·simp only[decide_eq_true_eq]at h;obtain⟨rfl,rfl⟩:=h;exact⟨by simp only[aP];rfl,fun h=>(by cases h),fun _=>rfl⟩
   ·rename_i b;simp only[Bool.not_eq_true']at h;subst h;exact⟨by simp only[aP];rfl,fun h=>(by cases h),fun _=>rfl⟩
   ·simp only[decide_eq_true_eq]at h;subst h;exact⟨by simp only[aP];rfl,fun h=>(by cases h),fun _=>rfl⟩
   ·simp only[decide_eq_true_eq]at h;obtain⟨rfl,rfl,rfl⟩:=h;exact⟨by simp only[aP];exact⟨_,rfl,none,0,rfl,aci _,fun _=>rfl,fun i x hx=>by simp[pW]at hx⟩,fun h=>(by cases h),fun _=>rfl⟩
   ·cases h
  ·cases h
 ·cases h
theorem OY{hh:Heap}(g:Good Z ψ h w B0 O)(bI:∀id o,hh.get id=some o→h id=some o){m:AV}{u:Value}{kk vk:K}{es:List (kk.T×vk.T)}(hm:aD Z ψ h w m u)(hv:di hh m=.mp kk vk es) :
  ∃A,u=.map A∧((A=none∧es=[])∨∃r cv clock,A=some r∧w.heap[r]? = some (.map cv clock)∧lG Z w kk vk es cv.toList):=by
 cases m with
 |mp OP XN Tt =>
  simp only[di]at hv
  cases hv
  simp only[aD,aP]at hm;obtain⟨A,h1,h2⟩:=hm
  cases h1
  refine⟨A,rfl,h2.imp (fun h=>h) fun⟨m,cv,clock,h3,_,h4,h5⟩=>⟨m,cv,clock,h3,h4,h5⟩⟩
 |bT id =>
  simp only[di]at hv
  split at hv
  ·cases hv
  ·rename_i OP XN Tt hg
   cases hv
   have Dg:=bI _ _ hg;simp only[aD]at hm;have:=hm.2 (by rw[Dg];simp);subst this;obtain⟨r,cv,clock,h1,h2,h3,_⟩:=g.row id (.map kk vk) es Dg;exact⟨some r,h1,.inr ⟨r,cv,clock,rfl,h2,h3⟩⟩
  ·cases hv
 |_=>simp only[di]at hv;cases hv
theorem M6{hh:Heap}(g:Good Z ψ h w B0 O)(bI:∀id o,hh.get id=some o→h id=some o){k:K}(hf:k.flat=true){a:AV}{x:k.T}{v:Value}(hx:hM k hh a=some x)(hr:aD Z ψ h w a v):aP Z w k x v.cells.toList∧MJ k.isAgg v:=by obtain⟨h1,h2,h3⟩:=wa (Z':=fun b=>b<w.heap.size) (g.sub bI) (fun b hb=>g.kN b hb) (fun id b _ h1 h2=>(g.sub bI).cc ⟨id,h1,h2⟩) hx (hr.less (fun _ h=>h) (cV.refl _ _) (fun id bQ=>by obtain⟨o,ho⟩:=ab8.1 bQ;exact⟨by rw[bI id o ho];simp,rfl⟩));exact⟨h1.flat hf,h2,h3⟩
theorem Ij{Eqs:TypeId→Option K}(FN:∀t k,Eqs t=some k→nC P t k){hh:Heap}(g:Good Z ψ h w B0 O)(bI:∀id o,hh.get id=some o→h id=some o){t:TypeId}{m i:AV}{u v:Value}{ok:Bool}{e:bU} (hm:aD Z ψ h w m u) (hi:aD Z ψ h w i v) (he:p6 P Eqs hh t m i ok some=some e):∃y V,e=.val y∧(Instr.lookup t u v ok).run P w=.ok V w∧aD Z ψ h w y V:=by
 unfold p6 at he
 split at he
 ·rename_i ka va kk vk es hmo hv
  split at he
  ·rename_i hc;obtain⟨rfl,rfl⟩:=hc
   split at he
   ·rename_i x hx
    cases he
    obtain⟨a,b,hu,hk,hz⟩:=wb hmo;have K:=zm FN hk;obtain⟨F3,pH⟩:=M6 g bI K.flat hx hi;obtain⟨z,A4,FM,MH⟩:=M5 (Z:=Z) (w:=w) hz;have fin:∀(l:List MapEntry),lG Z w kk vk es l→∃V,((∃j,(Instr.findKey a v l).run P w=.ok (some (j,V)) w∧(j5 kk x es).isSome=true)∨((Instr.findKey a v l).run P w=.ok none w∧(zeroValue b).run P w=.ok V w∧(j5 kk x es).isSome=false)) ∧ aP Z w vk ((j5 kk x es).getD (pW vk)) V.cells.toList∧MJ vk.isAgg V:=by
     intro l hE;have hf:=K.find Z w x v l (es.map (·.1)) F3 pH hE.keys;rw[Dk]at hf
     cases GJ:vO kk x es with
     |none =>rw[GJ]at hf;exact⟨z,.inr ⟨hf,A4,by simp[j5,GJ]⟩,by simpa[j5,GJ] using FM,MH⟩
     |some j =>
      rw[GJ]at hf;have hj:=Ii GJ;have h1:es[j]? = some es[j]:=abb hj;have MK:j<l.length:=by rw[←hE.1];exact hj
      have h2:l[j]? = some l[j]:=abb MK;obtain⟨_,h3,h4⟩:=hE.2 j _ _ h1 h2;refine⟨l[j].val,.inl ⟨j,?_,by simp[j5,GJ,h1]⟩,by simpa[j5,GJ,h1] using h3,h4⟩;rw[hf];simp only[Option.map_some,h2,Option.getD_some]
    have out:∀V:Value,aP Z w vk ((j5 kk x es).getD (pW vk)) V.cells.toList→MJ vk.isAgg V→aD Z ψ h w (cond ok (AV.o8 [cJ vk ((j5 kk x es).getD (pW vk)),.bool (j5 kk x es).isSome]) (cJ vk ((j5 kk x es).getD (pW vk)))) (if ok then .tuple #[V,.bool (j5 kk x es).isSome] else V):=by
     intro V h1 h2;have h3:aD Z ψ h w (cJ vk ((j5 kk x es).getD (pW vk))) V:=nt h1 h2.1 h2.2
     cases ok with
     |false=>exact h3
     |true=>simp only[cond_true,if_true,aD,aw];exact⟨_,rfl,V,[.bool (j5 kk x es).isSome],by simp,h3,_,[],rfl,rfl,rfl⟩
    obtain⟨A,rfl,hA⟩:=OY g bI hm hv;rcases hA with⟨rfl,rfl⟩|⟨r,cv,clock,rfl,h3,h4⟩
    ·obtain⟨V,h5,h6,h7⟩:=fin [] ⟨rfl,fun i x e h=>by simp at h⟩;refine⟨_,_,rfl,?_,out V h6 h7⟩;simp only[Instr.lookup,Sem.run_bind,run_underlying hu,Result.andThen_ok,Sem.run_pure,K.check Z w x v _ F3 pH];rcases h5 with⟨j,h8,h9⟩|⟨h8,h9,ox⟩
     ·simp[h8,h9]
     ·simp[h8,h9,ox]
    ·obtain⟨V,h5,h6,h7⟩:=fin cv.toList h4;refine⟨_,_,rfl,?_,out V h6 h7⟩;simp only[Instr.lookup,Sem.run_bind,run_underlying hu,Result.andThen_ok,Sem.run_pure,MapKept.run_getObj_map h3,K.check Z w x v _ F3 pH];rcases h5 with⟨j,h8,h9⟩|⟨h8,h9,ox⟩
     ·simp[h8,h9]
     ·simp[h8,h9,ox]
   ·cases he
  ·cases he
 ·cases he
end Go.Vs
namespace Go.Vs
variable {P:Program} {Z Z':Nat→Prop} {ψ ψ':Nat→Value} {h h':Hp} {w w':World} {B0:Nat} {O:Nat→Prop} {N:Nat→Prop}
theorem zn{r b:Nat}(o:Obj)(bq:r≠b):(w.heap.setIfInBounds r o)[b]? = w.heap[b]? := by rw[Array.getElem?_setIfInBounds];simp[bq]
theorem dF.aiV{r:Nat}(ho:Own ψ h r)(o:Obj):dF ψ h w { w with heap:=w.heap.setIfInBounds r o } :=⟨rfl,rfl,rfl,by simp,fun b _ hb=>zn o (fun e=>hb (e▸ho))⟩
theorem uj{hp:Hp}(g:Good Z ψ hp w B0 O){id:Nat}(bQ:hp id≠none){r:Nat}(hr:ob (ψ id)=some r)(aH:r<w.heap.size)(o:Obj){ok:OK}{x:ok.T} (hx:∀w':World,w'.heap=w.heap.setIfInBounds r o→cV Z w w'→kG Z w' ok (ψ id) x) :
  Next Z ψ hp w B0 O N Z ψ (fq hp id (some (.own ok x))) { w with heap:=w.heap.setIfInBounds r o }:=by
 have ho:Own ψ hp r:=⟨id,bQ,hr⟩;have kk:=dF.aiV (w:=w) ho o;refine g.write id bQ kk (fun b hb _=>zn o (fun e=>hb (by rw[hr,e]))) _ (fun _ _ he=>by cases he) (fun ok' x' he=>?_)
 cases he
 exact hx _ rfl (kk.same g)
theorem A7{l:List MapEntry}{i:Nat}{f:MapEntry→MapEntry}(hf:∀e,(f e).born=e.born):(l.modify i f).map (·.born)=l.map (·.born):=by
 apply adh;intro j;simp only[List.getElem?_map,List.getElem?_modify]
 cases l[j]? with
 |none=>rfl
 |some e=>simp only[Option.map_some];split<;>simp[hf]
theorem zo{l:List MapEntry}:l.Pairwise (fun a b=>a.born≠b.born)↔(l.map (·.born)).Pairwise (·≠·):=by rw[List.pairwise_map]
theorem xp{Eqs:TypeId→Option K}(FN:∀t k,Eqs t=some k→nC P t k){hh:Heap}(g:Good Z ψ hh.get w B0 O){t:TypeId}{m i v:AV}{u1 u2 u3:Value}{e:bU} (hm:aD Z ψ hh.get w m u1) (hi:aD Z ψ hh.get w i u2) (hv:aD Z ψ hh.get w v u3) (he:jK P Eqs hh t m i v some=some e) :
  ∃hw w' Z',e=.wr (.o8 []) hw∧(Instr.mapUpdate t u1 u2 u3).run P w=.ok () w'∧Next Z ψ hh.get w B0 O N Z' ψ hw.get w':=by
 unfold jK at he
 split at he
 ·rename_i ka va id hmo
  split at he
  ·rename_i kk vk es hg
   split at he
   ·rename_i hc;obtain⟨rfl,rfl⟩:=hc
    split at he
    ·rename_i x y hx hy sr
     cases he
     obtain⟨a,b,hu,hk,_⟩:=wb hmo;have K:=zm FN hk;obtain⟨F3,pH⟩:=M6 g (fun _ _ h=>h) K.flat hx hi;simp only[aD]at hm;have Xv:=hm.2 (by rw[hg];simp);obtain⟨r,cv,clock,h1,h2,h3,h4,h5⟩:=g.row id (.map kk vk) es hg;rw[h1]at Xv;subst Xv;have bQ:AV.bT id∉v.cells:=fun hc=>by have:=acZ.1 sr _ hc;simp at this
     have gd:=jB g v.cells;have hgd:(dg hh v.cells).get id=some (.own (.map kk vk) es):=by rw[qW _ _ _ bQ];exact hg
     obtain⟨xq,AZ,hv3⟩:=wa (Z':=sF Z ψ hh.get v.cells) g (fun b hb=>.inl hb) (fun id b h1 h2 h3=>.inr ⟨id,h1,h2,h3⟩) hy hv;have adD:aP (sF Z ψ hh.get v.cells) w kk x u2.cells.toList:=F3.flat K.flat;have aH:=(abq.1 h2).1;have oy:ob (ψ id)=some r:=by rw[h1];rfl
     have hE:lG (sF Z ψ hh.get v.cells) w kk vk es cv.toList:=lG.mono h3 (fun b hb=>.inl hb) (cV.refl _ _);have hf:=K.find Z w x u2 cv.toList (es.map (·.1)) F3 pH (lG.keys h3);rw[Dk]at hf;have fin:∀(o:Obj) (Tt:List (kk.T×vk.T)) (oL:Array MapEntry) (Dl:Nat),o=.map oL Dl→lG (sF Z ψ hh.get v.cells) w kk vk Tt oL.toList→(oL.toList.map (·.born)).Pairwise (·≠·)→(∀e∈oL.toList,e.born<Dl) → Next Z ψ hh.get w B0 O N (sF Z ψ hh.get v.cells) ψ ((dg hh v.cells).set id (.own (.map kk vk) Tt)).get { w with heap:=w.heap.setIfInBounds r o }:=by rintro o Tt oL Dl rfl h6 h7 h8;rw[oK];have n:=uj (N:=N) gd (by rw[hgd];simp) oy aH (.map oL Dl) (ok:=.map kk vk) (x:=Tt) (fun w' M7 sm=>⟨r,oL,Dl,h1,by rw[M7];simp[aH],lG.mono h6 (fun _ h=>h) sm,zo.2 h7,h8⟩);exact n.drop (fun b hb=>.inl hb) (fun b hb=>hb.imp (fun h=>h) (fun⟨i,_,h5,h6⟩=>⟨i,h5,h6⟩)) (fm _ _)
     cases GJ:vO kk x es with
     |none =>
      rw[GJ]at hf;refine⟨_,{ w with heap:=w.heap.setIfInBounds r (.map (cv.push { key:=u2,val:=u3,born:=clock }) (clock+1)) },sF Z ψ hh.get v.cells,rfl,?_,?_⟩
      rotate_left
      ·rw[show oD kk x y es=es++[(x,y)] by simp[oD,GJ]];refine fin _ _ (cv.push { key:=u2,val:=u3,born:=clock }) (clock+1) rfl ?_ ?_ ?_
       ·rw[Array.toList_push];exact hE.push ⟨⟨adD,pH⟩,xq,AZ,hv3⟩
       ·rw[Array.toList_push,List.map_append,List.pairwise_append];refine⟨zo.1 h4,by simp,fun a ha b hb=>?_⟩;simp only[List.map_cons,List.map_nil,List.mem_singleton]at hb;obtain⟨e,he,rfl⟩:=ace.1 ha;have:=h5 e he;omega
       ·intro e he;rw[Array.toList_push]at he;rcases abG.1 he with he|he
        ·have:=h5 e he;omega
        ·simp only[List.mem_singleton]at he;subst he;exact Nat.lt_succ_self _
      ·simp only[Instr.mapUpdate,Sem.run_bind,run_underlying hu,Result.andThen_ok,MapKept.run_getObj_map h2,K.check Z w x u2 _ F3 pH,hf,Option.map_none,MapKept.run_setObj_map _ h2]
     |some j =>
      rw[GJ]at hf;have hj:=Ii GJ;obtain⟨e0,ZO,heq⟩:=XY GJ;have MK:j<cv.toList.length:=by rw[←h3.1];exact hj
      have hl:cv.toList[j]? = some cv.toList[j]:=abb MK;have SD:cv[j]? = some cv.toList[j]:=by rw[←hl];simp
      obtain⟨⟨adE,aiW⟩,_⟩:=h3.2 j _ _ ZO hl;have vd:cv.toList[j].key=u2:=by refine QE aiW pH ?_;rw[←(Cd kk x e0.1 K.flat).1 heq]at adE;exact qY K.flat adE F3
      have ZP:(Instr.keyThatStays u2 u2).run P w=.ok u2 w:=by simp[Instr.keyThatStays,Tp K.flat F3 pH]
      refine⟨_,{ w with heap:=w.heap.setIfInBounds r (.map (cv.modify j fun e=>{ e with key:=u2,val:=u3 }) clock) },sF Z ψ hh.get v.cells,rfl,?_,?_⟩
      rotate_left
      ·rw[show oD kk x y es=es.set j (x,y) by simp[oD,GJ]];refine fin _ _ (cv.modify j fun e=>{ e with key:=u2,val:=u3 }) clock rfl ?_ ?_ ?_
       ·rw[Array.toList_modify];exact hE.set j (fun e he=>⟨⟨adD,pH⟩,xq,AZ,hv3⟩)
       ·rw[Array.toList_modify,A7 (f:=fun e:MapEntry=>{ e with key:=u2,val:=u3 }) (fun _=>rfl)];exact zo.1 h4
       ·intro e he;have:e.born∈(cv.modify j fun e=>{ e with key:=u2,val:=u3 }).toList.map (·.born):=ace.2 ⟨e,he,rfl⟩;rw[Array.toList_modify,A7 (f:=fun e:MapEntry=>{ e with key:=u2,val:=u3 }) (fun _=>rfl)]at this;obtain⟨e',he',h6⟩:=ace.1 this;rw[←h6];exact h5 e' he'
      ·simp only[Instr.mapUpdate,Sem.run_bind,run_underlying hu,Result.andThen_ok,MapKept.run_getObj_map h2,K.check Z w x u2 _ F3 pH,hf,Option.map_some,SD,Option.getD_some,vd,ZP,MapKept.run_setObj_map _ h2]
    ·cases he
   ·cases he
  ·cases he
 ·cases he
theorem xt{Eqs:TypeId→Option K}(FN:∀t k,Eqs t=some k→nC P t k){hh:Heap}(g:Good Z ψ hh.get w B0 O){t ty:TypeId}{ts:List TypeId}{m i:AV}{u1 u2:Value}{e:bU} (hm:aD Z ψ hh.get w m u1) (hi:aD Z ψ hh.get w i u2) (he:p7 P Eqs hh t m i some=some e) :
  ∃hw w',e=.wr (.o8 []) hw∧(Builtin.delete_ (t::ts).toArray ty #[u1,u2]).run P w=.ok (.tuple #[]) w'∧Next Z ψ hh.get w B0 O N Z ψ hw.get w':=by
 unfold p7 at he
 split at he
 ·rename_i ka va id hmo
  split at he
  ·rename_i kk vk es hg
   split at he
   ·rename_i hc;obtain⟨rfl,rfl⟩:=hc
    split at he
    ·rename_i x hx
     cases he
     obtain⟨a,b,hu,hk,_⟩:=wb hmo;have K:=zm FN hk;obtain⟨F3,pH⟩:=M6 g (fun _ _ h=>h) K.flat hx hi;simp only[aD]at hm;have Xv:=hm.2 (by rw[hg];simp);obtain⟨r,cv,clock,h1,h2,h3,h4,h5⟩:=g.row id (.map kk vk) es hg;rw[h1]at Xv;subst Xv;have aH:=(abq.1 h2).1;have oy:ob (ψ id)=some r:=by rw[h1];rfl
     have hf:=K.find Z w x u2 cv.toList (es.map (·.1)) F3 pH (lG.keys h3);rw[Dk]at hf;have fin:∀(o:Obj) (Tt:List (kk.T×vk.T)) (oL:Array MapEntry),o=.map oL clock→lG Z w kk vk Tt oL.toList→oL.toList.Sublist cv.toList → Next Z ψ hh.get w B0 O N Z ψ (hh.set id (.own (.map kk vk) Tt)).get { w with heap:=w.heap.setIfInBounds r o }:=by rintro o Tt oL rfl h6 h7;rw[oK];exact uj (N:=N) g (by rw[hg];simp) oy aH (.map oL clock) (ok:=.map kk vk) (x:=Tt) (fun w' M7 sm=>⟨r,oL,clock,h1,by rw[M7];simp[aH],lG.mono h6 (fun _ h=>h) sm,h4.sublist h7,fun e he=>h5 e (h7.subset he)⟩)
     cases GJ:vO kk x es with
     |none =>
      rw[GJ]at hf;refine⟨_,{ w with heap:=w.heap.setIfInBounds r (.map cv clock) },rfl,?_,?_⟩
      rotate_left
      ·rw[show S4 kk x es=es by simp[S4,GJ]];exact fin _ _ cv rfl h3 (List.Sublist.refl _)
      ·simp[Builtin.delete_,run_underlying hu,MapKept.run_getObj_map h2,K.check Z w x u2 _ F3 pH,hf,MapKept.run_setObj_map _ h2]
     |some j =>
      rw[GJ]at hf;have hj:=Ii GJ;refine⟨_,{ w with heap:=w.heap.setIfInBounds r (.map (cv.eraseIdxIfInBounds j) clock) },rfl,?_,?_⟩
      rotate_left
      ·rw[show S4 kk x es=es.eraseIdx j by simp[S4,GJ]];refine fin _ _ (cv.eraseIdxIfInBounds j) rfl ?_ ?_
       ·rw[Array.toList_eraseIdxIfInBounds];exact lG.erase h3 j
       ·rw[Array.toList_eraseIdxIfInBounds];exact List.eraseIdx_sublist _ _
      ·simp[Builtin.delete_,run_underlying hu,MapKept.run_getObj_map h2,K.check Z w x u2 _ F3 pH,hf,MapKept.run_setObj_map _ h2]
    ·cases he
   ·cases he
  ·cases he
 ·cases he
theorem M8{hh:Heap}(g:Good Z ψ h w B0 O)(bI:∀id o,hh.get id=some o→h id=some o){t ty:TypeId}{x:AV}{u:Value}{e:bU}(ht:MS P t=true)(hx:aD Z ψ h w x u)(he:zc hh x some=some e) :
  ∃n:Nat,e=.val (.int .i64 (n:Int))∧(Builtin.len_ #[t] ty #[u]).run P w=.ok (.int .i64 (n:Int)) w:=by
 unfold zc at he
 split at he
 ·rename_i kk vk es hv
  cases he
  have hu:∃a b,P.underlying t=some (.map a b):=by
   unfold MS at ht
   split at ht
   ·exact⟨_,_,by assumption⟩
   ·cases ht
  obtain⟨a,b,hu⟩:=hu;obtain⟨A,rfl,hA⟩:=OY g bI hx hv;rcases hA with⟨rfl,rfl⟩|⟨r,cv,clock,rfl,h3,h4⟩
  ·exact⟨0,rfl,by simp[Builtin.len_,run_underlying hu,goInt]⟩
  ·refine⟨es.length,rfl,?_⟩;have:cv.size=es.length:=by rw[h4.1];simp
   simp[Builtin.len_,run_underlying hu,MapKept.run_getObj_map h3,goInt,this]
 ·cases he
theorem Dm(g:Good Z ψ h w B0 O)(hB:B0≤w.heap.size)(id:Nat)(hN:N id){ok:OK}{x:ok.T}{v:Value}(o:Obj)(ho:kG Z (w.alloc o) ok v x)(hb:ob v=some w.heap.size) (bC:∀i ty cs,h i=some (.box ty cs)→aI (fun i=>i≠id) cs):Next Z ψ h w B0 O N Z (fq ψ id v) (fq h id (some (.own ok x))) (w.alloc o) :=J9 g hB id hN (dF.alloc _ _ _ _) (fun b hb=>heap_alloc_old w _ (g.cc hb)) ho (fun b zp=>by rw[hb]at zp;cases zp;exact aci _) bC
theorem F4{Eqs:TypeId→Option K}(g:Good Z ψ h w B0 O)(hB:B0≤w.heap.size){id:Nat}(hN:N id){t:TypeId}{e:bU}(bC:∀i ty cs,h i=some (.box ty cs)→aI (fun i=>i≠id) cs)(he:mS P Eqs id t some=some e) :
  ∃v w' ψ',(Instr.makeMap t none).run P w=.ok v w'∧Next Z ψ h w B0 O N Z ψ' (e.hp h) w'∧aD Z ψ' (e.hp h) w' e.v v:=by
 unfold mS at he
 split at he
 ·rename_i kk vk hmo
  cases he
  refine⟨.map (some w.heap.size),w.alloc (.map #[] 0),fq ψ id (.map (some w.heap.size)),rfl,?_,?_⟩
  ·simp only[bU.hp];rw[jC];exact Dm g hB id hN (ok:=.map kk vk) (x:=[]) _ ⟨w.heap.size,#[],0,rfl,heap_alloc_new _ _,⟨rfl,fun i x e h=>by simp at h⟩,by simp,by simp⟩ rfl bC
  ·simp only[bU.v,bU.hp,aD];exact⟨⟨rfl,rfl⟩,fun _=>(bD _ _ _).symm⟩
 ·cases he
theorem Ik(g:Good Z ψ h w B0 O)(hB:B0≤w.heap.size){id:Nat}(hN:N id){t:TypeId}{x:AV}{u:Value}{e:bU}(hx:aD Z ψ h w x u)(bC:∀i ty cs,h i=some (.box ty cs)→aI (fun i=>i≠id) cs)(he:qa P id t x some=some e) :
  ∃v w' ψ',(Instr.range t u).run P w=.ok v w'∧Next Z ψ h w B0 O N Z ψ' (e.hp h) w'∧aD Z ψ' (e.hp h) w' e.v v:=by
 unfold qa at he
 split at he
 ·rename_i sv hu
  cases he
  simp only[aD]at hx;subst hx;refine⟨.pointer (some ⟨w.heap.size,0,none⟩),w.alloc (.stringIter sv 0),fq ψ id (.pointer (some ⟨w.heap.size,0,none⟩)),?_,?_,?_⟩
  ·simp only[Instr.range,Sem.run_bind,run_underlying hu,Result.andThen_ok,Sem.run_pure];rfl
  ·simp only[bU.hp];rw[jC];exact Dm g hB id hN (ok:=.pV) (x:=(sv,0)) _ ⟨w.heap.size,rfl,heap_alloc_new _ _⟩ rfl bC
  ·simp only[bU.v,bU.hp,aD];exact⟨⟨rfl,rfl⟩,fun _=>(bD _ _ _).symm⟩
 ·cases he
theorem im{r:Nat}{o:Obj}(hb:w.heap[r]? = some o)(hc:∀c e f,o≠.cells c e f):(getObj r).run P w=.ok o w:=by cases o<;>first|(exact absurd rfl (hc _ _ _))|simp[getObj,Sem.run,hb]
theorem Dn{r:Nat}{o o':Obj}(hb:w.heap[r]? = some o)(hc:∀c e f,o≠.cells c e f):(setObj r o').run P w=.ok () { w with heap:=w.heap.setIfInBounds r o' }:=by cases o<;>first|(exact absurd rfl (hc _ _ _))|simp[setObj,Sem.run,hb]
theorem Kl{hh:Heap}(g:Good Z ψ h w B0 O)(bI:∀id o,hh.get id=some o→h id=some o){ty:TypeId}{x:AV}{u:Value}{e:bU}(hx:aD Z ψ h w x u)(mT:∀v hw,e=.wr v hw→hh.get=h)(he:tW hh x some=some e) :
  ∃v w',(Instr.next u true ty).run P w=.ok v w'∧Next Z ψ h w B0 O N Z ψ (e.hp h) w'∧aD Z ψ (e.hp h) w' e.v v:=by
 unfold tW at he
 split at he
 ·rename_i id
  split at he
  ·rename_i x hg;have Dg:=bI _ _ hg;simp only[aD]at hx;have hu:=hx.2 (by rw[Dg];simp);obtain⟨r,h1,h2⟩:=g.row id .pV x Dg;rw[h1]at hu;subst hu
   cases hc:decide (x.2<x.1.size) with
   |true =>
    rw[hc]at he;cases he;have heq:=mT _ _ rfl;simp only[decide_eq_true_eq]at hc;have aH:=(abq.1 h2).1;refine⟨.tuple #[.bool true,goInt x.2,.int .i32 (Utf8.decode x.1 x.2).1],{ w with heap:=w.heap.setIfInBounds r (.stringIter x.1 (x.2+(Utf8.decode x.1 x.2).2)) },?_,?_,?_⟩
    ·simp only[Instr.next,Sem.run_bind,im h2 (by simp),Result.andThen_ok,hc,if_true,Dn h2 (by simp),Sem.run_pure]
    ·simp only[bU.hp];rw[oK,heq];exact uj (N:=N) g (by rw[Dg];simp) (by rw[h1];rfl) aH _ (ok:=.pV) (x:=(x.1,x.2+CU x.1 x.2)) (fun w' M7 _=>⟨r,h1,by rw[M7];simp[aH,CU]⟩)
    ·simp only[bU.v,aD,aw];exact⟨_,rfl,_,_,rfl,rfl,_,_,rfl,rfl,_,_,rfl,rfl,rfl⟩
   |false =>
    rw[hc]at he;cases he;simp only[decide_eq_false_iff_not]at hc;refine⟨.tuple #[.bool false],w,?_,Next.refl g,?_⟩
    ·simp only[Instr.next,Sem.run_bind,im h2 (by simp),Result.andThen_ok,hc,if_false,Sem.run_pure]
    ·simp only[bU.v,aD,aw];exact⟨_,rfl,_,_,rfl,rfl,rfl⟩
  ·cases he
 ·cases he
theorem find_born{l:List MapEntry}(h:l.Pairwise (fun a b=>a.born≠b.born)){e:MapEntry}(he:e∈l):l.find? (fun x=>x.born==e.born)=some e:=by
 induction l with
 |nil=>cases he
 |cons a r ih =>
  obtain⟨h1,h2⟩:=List.pairwise_cons.1 h;rw[List.find?_cons];rcases abi.1 he with rfl|he
  ·simp
  ·have:(a.born==e.born)=false:=by simpa using h1 e he
   rw[this];exact ih h2 he
theorem Km{hh:Heap}(g:Good Z ψ h w B0 O)(bI:∀id o,hh.get id=some o→h id=some o){x:AV}{u:Value}{e:bU}(hx:aD Z ψ h w x u)(he:tX hh x some=some e) :
  ∃y v,e=.val y∧(Instr.entry u).run P w=.ok v w∧aD Z ψ h w y v:=by
 unfold tX at he
 split at he
 ·rename_i id
  split at he
  ·rename_i kk vk c rest hg
   cases he
   have Dg:=bI _ _ hg;simp only[aD]at hx;have hu:=hx.2 (by rw[Dg];simp);obtain⟨r,m,since,seen,cv,clock,h1,h2,h3,h4,h5,h6,h7,h8,h9⟩:=g.row id (.iter kk vk) (some c,rest) Dg;rw[h1]at hu;subst hu;obtain⟨en,ox,BR,ML⟩:=h9;obtain⟨⟨k1,k2,k3⟩,v1,v2,v3⟩:=ML.2 0 c en rfl rfl;refine⟨_,.tuple #[en.key,en.val],rfl,?_,?_⟩
   ·have hf:cv.find? (·.born==en.born)=some en:=by
     have:=find_born h5 ox
     rwa [←Array.find?_toList]
    simp only[Instr.entry,Sem.run_bind,im h2 (by simp),Result.andThen_ok,BR,Sem.run_pure,im h4 (by simp),hf];simp
   ·simp only[aD,aw];exact⟨_,rfl,_,_,rfl,nt k1 k2 k3,_,_,rfl,nt v1 v2 v3,rfl⟩
  ·cases he
 ·cases he
mutual
theorem aQ.imp{p q:Nat→Prop}(w5:∀i,p i→q i):∀{a:AV},aQ p a→aQ q a
 |.no,_=>by simp only[aQ]
 |.bool b,_=>by simp only[aQ]
 |.int k n,_=>by simp only[aQ]
 |.str s,_=>by simp only[aQ]
 |.mB,_=>by simp only[aQ]
 |.ia,_=>by simp only[aQ]
 |.ref id s i off,h=>by simp only[aQ]at h ⊢;exact w5 _ h
 |.fp k x off,_=>by simp only[aQ]
 |.sl ex k xs,_=>by simp only[aQ]
 |.mp kk vk es,_=>by simp only[aQ]
 |.bT id,h=>by simp only[aQ]at h ⊢;exact w5 _ h
 |.fn f cap,h=>by simp only[aQ]at h ⊢;exact aI.imp w5 h
 |.agg cs,h=>by simp only[aQ]at h ⊢;exact aI.imp w5 h
 |.o8 cs,h=>by simp only[aQ]at h ⊢;exact aI.imp w5 h
theorem aI.imp{p q:Nat→Prop}(w5:∀i,p i→q i):∀{a:List AV},aI p a→aI q a
 |[],_=>by simp only[aI]
 |a::r,h=>by simp only[aI]at h ⊢;exact⟨aQ.imp w5 h.1,aI.imp w5 h.2⟩
end
theorem aQ.cells{p:Nat→Prop}{a:AV}(h:aQ p a):aI p a.cells:=by
 cases a with
 |agg cs=>simpa only[AV.cells,aQ] using h
 |_=>simp only[AV.cells,aI];exact⟨h,trivial⟩
theorem Dp:∀{cs:List AV},J4 cs=true→∀id,AV.bT id∉cs
 |[],_,id=>by simp
 |c::r,hn,id=>by
  intro hm
  cases c with
  |bT i=>simp[J4]at hn
  |_ =>
   simp only[J4]at hn;rcases abi.1 hm with e|hm
   ·cases e
   ·exact Dp hn id hm
theorem s8:∀{vs:List AV},sJ vs=true→∀v∈vs,∀id,AV.bT id∉v.cells
 |[],_,v,hv=>by simp at hv
 |a::r,hn,v,hv=>by
  simp only[sJ,Bool.and_eq_true]at hn;rcases abi.1 hv with rfl|hv
  ·exact Dp hn.1
  ·exact s8 hn.2 v hv
def xu(o:Oper):Bool :=match o.op with
 |.call { callee:=.value _,.. }=>true
 |_=>false
theorem M9{s:List (Nat×AV)}{ρC:Operand→Value}{x:Option Operand}(hx:∀y,x=some y→aD Z ψ h w (ρ s y) (ρC y)):fG Z ψ h w (x.map (ρ s)) (x.map ρC):=by
 cases x with
 |none=>trivial
 |some y=>exact hx y rfl
theorem Dq{s:List (Nat×AV)}{ρC:Operand→Value}:∀(ps:List (Nat×Operand)),(∀p∈ps,aD Z ψ h w (ρ s p.2) (ρC p.2))→(∀p∈ps,ρ s p.2≠.no)→vg Z ψ h w (ps.map fun p=>(p.1,ρ s p.2)) (ps.map fun p=>(p.1,ρC p.2))
 |[],_,_=>trivial
 |p::r,h1,h2=>⟨rfl,h2 p (by simp),h1 p (by simp),Dq r (fun q hq=>h1 q (aa6 _ hq)) (fun q hq=>h2 q (aa6 _ hq))⟩
theorem GK{k:K}{hh:Heap}:∀{ps:List (Nat×AV)} {i:Nat} {xs:List k.T},sO k hh i ps=some xs→∀p∈ps,p.2≠.no
 |[],_,_,_,p,hp=>by simp at hp
 |(j,v)::r,i,xs,hl,p,hp=>by
  simp only[sO]at hl
  split at hl
  ·split at hl
   ·rename_i x ys h1 h2;rcases abi.1 hp with rfl|hp
    ·exact GG h1
    ·exact GK h2 p hp
   ·cases hl
  ·cases hl
theorem abd{α:Type}{l:List α}(h:l.length=0+1+1):∃x y,l=[x,y]:=by
 cases l with
 |nil=>simp at h
 |cons a r=>cases r with
  |nil=>simp at h
  |cons b s=>cases s with
   |nil=>exact⟨a,b,rfl⟩
   |cons c q=>simp at h
theorem Na{a:AV}(h:ZJ a=true):a≠.no:=by rintro rfl;cases h
section
variable {Eqs:TypeId→Option K} {Sg:FuncId→Option aX} {F:(f:FuncId)→(g:aX)→g.A→Option g.B}
theorem Il{hh:Heap}{ρC:Operand→Value}{o:Oper}(g:Good Z ψ h w B0 O)(hB:B0≤w.heap.size)(bI:∀id o,hh.get id=some o→h id=some o){id:Nat}(hN:N id){t:TypeId}{s x:AV}{u v:Value}{e:bU} (hs:aD Z ψ h w s u) (hx:aD Z ψ h w x v) (Im:aQ (fun i=>¬N i) s) (bC:∀i ty cs,h i=some (.box ty cs)→aI (fun i=>¬N i) cs) (mT:∀v hw,e=.wr v hw→hh.get=h) (he:p4 P hh id t s x some=some e) (ep:∀V w',(Builtin.append_ #[t,t] o.type #[u,v]).run P w=.ok V w'→(execOp ρC o).run P w=.ok (.value V) w'):iY P ρC o Z ψ h w B0 O N e:=by
 have Xw:∀i ty cs,h i=some (.box ty cs)→aI (fun i=>i≠id) cs:=fun i ty cs hb=>(bC i ty cs hb).imp (fun j hj e=>hj (by rw[e];exact hN));unfold p4 at he
 split at he
 ·cases he
 ·rename_i et het;have ht:=pC het
  split at he
  ·cases he
  ·rename_i kk Nb
   split at he
   ·rename_i ys QF nD;obtain⟨inf,z,MI⟩:=cT nD
    split at he
    ·
     cases hc:aU 0 ys.length with
     |false=>rw[hc]at he;cases he
     |true =>rw[hc]at he;cases he;simp only[aU,decide_eq_true_eq]at hc;simp only[aD]at hs;subst hs;obtain⟨V,w',h1,h2,h3⟩:=rY (P:=P) (ty:=o.type) g bI hB hN ht MI QF hx (by omega) Xw;refine⟨V,w',Z,_,.inl (ep V w' h1),by simp only[bU.hp];rw[jC];exact h2,?_⟩;simp only[bU.v,bU.hp,aD];exact⟨h3,fun _=>(bD _ _ _).symm⟩
    ·
     rename_i dq
     split at he
     ·rename_i e' k' xs hg
      split at he
      ·rename_i hc;obtain⟨rfl,rfl⟩:=hc
       cases qP:aU xs.length ys.length with
       |false=>rw[qP]at he;cases he
       |true =>rw[qP]at he;cases he;simp only[aU,decide_eq_true_eq]at qP;have heq:=mT _ _ rfl;have Dg:=bI _ _ hg;simp only[aD]at hs;have hu:=hs.2 (by rw[Dg];simp);subst hu;simp only[aQ]at Im;obtain⟨V,w',h1,h2,h3⟩:=BS (P:=P) (ty:=o.type) g bI hB hN (fun e=>Im (by rw[e];exact hN)) ht MI Dg QF hx qP Xw;refine⟨V,w',Z,_,.inl (ep V w' h1),by simp only[bU.hp];rw[oK,xm,heq];exact h2,?_⟩;simp only[bU.v,bU.hp,aD];exact⟨h3,fun _=>(bD _ _ _).symm⟩
      ·cases he
     ·cases he
    ·
     rename_i ex k' xs
     split at he
     ·rename_i hc;subst hc
      cases qP:(ex&&((!ys.isEmpty || xs.isEmpty)&&aU xs.length ys.length)) with
      |false=>rw[qP]at he;cases he
      |true =>rw[qP]at he;cases he;simp only[Bool.and_eq_true,Bool.or_eq_true,aU,decide_eq_true_eq,Bool.not_eq_true',List.isEmpty_eq_false_iff,List.isEmpty_iff]at qP;obtain⟨rfl,bq,XZ⟩:=qP;obtain⟨V,w',h1,h2,h3⟩:=Db (P:=P) (ty:=o.type) g bI hB hN ht MI hs QF hx (bq.imp List.length_pos_iff.2 (fun h=>h)) XZ Xw;refine⟨V,w',Z,_,.inl (ep V w' h1),by simp only[bU.hp];rw[jC];exact h2,?_⟩;simp only[bU.v,bU.hp,aD];exact⟨h3,fun _=>(bD _ _ _).symm⟩
     ·cases he
    ·cases he
   ·cases he
theorem Dt{ρC:Operand→Value}{o:Oper}(g:Good Z ψ h w B0 O)(hB:B0≤w.heap.size){id:Nat}(hN:N id){t:TypeId}{vs:List AV}{us:Array Value}{e:bU}(hr:aw Z ψ h w vs us.toList)(h1:∀u∈us.toList,u.oneCell'=true) (hm:aI (fun i=>¬N i) vs) (bC:∀i ty cs,h i=some (.box ty cs)→aI (fun i=>¬N i) cs) (he:zh id t vs some=some e) (ep:(execOp ρC o).run P w=.ok (.value (.pointer (some ⟨w.heap.size,0,none⟩))) (w.alloc (.cells us t))):iY P ρC o Z ψ h w B0 O N e:=by
 unfold zh at he
 cases he
 have bq:∀i,¬N i→i≠id:=fun j hj e=>hj (by rw[e];exact hN);have n:=C6 (N:=N) g hB id t hN hr h1 (fun i ty cs hb=>(bC i ty cs hb).imp bq) (hm.imp bq);refine⟨_,_,Z,_,.inl ep,by simp only[bU.hp];rw[jC];exact n,?_⟩;simp only[bU.v,bU.hp,aD];exact⟨_,rfl,fun _=>by rw[bD];simp[XQ]⟩
theorem QG{hh:Heap}{ρC:Operand→Value}{s:List (Nat×AV)}{o:Oper}(g:Good Z ψ h w B0 O)(hB:B0≤w.heap.size)(bI:∀id o,hh.get id=some o→h id=some o){id:Nat}(hN:N id){t:TypeId}{n:Nat}{ps:Array (Nat×Operand)}{e:bU} (pT:∀p∈ps.toList,aD Z ψ h w (ρ s p.2) (ρC p.2)) (bC:∀i ty cs,h i=some (.box ty cs)→aI (fun i=>¬N i) cs) (mj:Bool) {e0:bU} (X0:e=if mj then XP e0 else e0) (mT:∀v hw,e=.wr v hw→hh.get=h) (he:w9 P hh id t n (ps.toList.map fun p=>(p.1,ρ s p.2)) some=some e0)
  (ep:∀V w',(Instr.buildSlice t n (ps.map fun p=>(p.1,ρC p.2))).run P w=.ok V w'→(execOp ρC o).run P w=.ok (.value V) w'):iY P ρC o Z ψ h w B0 O N e:=by
 have Xw:∀i ty cs,h i=some (.box ty cs)→aI (fun i=>i≠id) cs:=fun i ty cs hb=>(bC i ty cs hb).imp (fun j hj e=>hj (by rw[e];exact hN));unfold w9 at he
 split at he
 ·cases he
 ·rename_i et het;have ht:=pC het
  split at he
  ·cases he
  ·rename_i k hk
   split at he
   ·cases he
   ·cases he
   ·rename_i xs qe nD;obtain⟨inf,z,MI⟩:=cT nD;have Nc:=Dq (Z:=Z) (ψ:=ψ) (h:=h) (w:=w) ps.toList pT (fun p hp=>GK qe (p.1,ρ s p.2) (ace.2 ⟨p,hp,rfl⟩));have OZ:vg Z ψ hh.get w (ps.toList.map fun p=>(p.1,ρ s p.2)) (ps.map fun p=>(p.1,ρC p.2)).toList:=by rw[Array.toList_map];exact Nc.sq bI
    split at he
    ·rename_i hc;obtain⟨rfl,hn⟩:=hc
     cases sr:sJ ((ps.toList.map fun p=>(p.1,ρ s p.2)).map (·.2)) with
     |true =>
      rw[sr]at he;cases he;have aiX:=s8 sr;obtain⟨V,w',h1,h2,h3⟩:=Kd (P:=P) (N:=N) g (g.sub bI) (fun _ h=>h) hB hN ht MI (fun p hp i b hm=>absurd hm (aiX p.2 (ace.2 ⟨p,hp,rfl⟩) i)) OZ qe hn Xw
      cases mj with
      |false =>have X0:e=.new (.bT id) [(id,.own (.row et k) xs)]:=X0;subst X0;refine⟨V,w',Z,_,.inl (ep V w' h1),by simp only[bU.hp];rw[jC];exact h2,?_⟩;simp only[bU.v,bU.hp,aD];exact⟨h3.1,fun _=>(bD _ _ _).symm⟩
      |true =>
       have X0:e=.new (.sl true k xs) []:=X0;subst X0;obtain⟨m1,m2⟩:=Ti g hB h2 h3.2.1 h3.2.2.1 h3.2.2.2;have e1:(bU.new (.sl true k xs) []).hp h=h:=by funext i;simp[bU.hp,Heap.get]
       refine⟨V,w',_,_,.inl (ep V w' h1),by rw[e1];exact m1,?_⟩;rw[e1];exact m2
     |false =>
      rw[sr]at he;cases he;have X0:e=.wr (.bT id) ((id,.own (.row et k) xs)::dg hh ((ps.toList.map fun p=>(p.1,ρ s p.2)).flatMap (·.2.cells))):=by rw[X0];cases mj<;>rfl
      subst X0;have heq:=mT _ _ rfl;subst heq
      let cs:=(ps.toList.map fun p=>(p.1,ρ s p.2)).flatMap (·.2.cells)
      have gd:=jB g cs;obtain⟨V,w',h1,h2,h3⟩:=Kd (P:=P) (N:=N) gd g (fun b hb=>.inl hb) hB hN ht MI (fun p hp i b hm bq hb=>.inr ⟨i,List.mem_flatMap.2 ⟨p,hp,hm⟩,bq,hb⟩) OZ qe hn (fun i ty cs' hb=>Xw i ty cs' (fm _ _ _ _ hb));refine⟨V,w',sF Z ψ hh.get cs,fq ψ id V,.inl (ep V w' h1),?_,?_⟩
      ·simp only[bU.hp];rw[Df];exact h2.drop (fun b hb=>.inl hb) (fun b hb=>hb.imp (fun h=>h) (fun⟨i,_,h5,h6⟩=>⟨i,h5,h6⟩)) (fm _ _)
      ·simp only[bU.v,bU.hp,aD];exact⟨h3.1,fun _=>(bD _ _ _).symm⟩
    ·cases he
theorem QH{mj:Bool}{h:Heap}{id:Nat}{t:TypeId}{n:Nat}{ps:List (Nat×AV)}{e:bU}(he:zi P mj h id t n ps some=some e):∃e0,w9 P h id t n ps some=some e0∧e=if mj then XP e0 else e0:=by
 unfold zi w9 at he;unfold w9
 split at he
 ·cases he
 split at he
 ·cases he
 split at he
 ·cases he
 ·cases he
 split at he
 ·rename_i hc;rw[if_pos hc]
  cases sr:sJ (ps.map (·.2)) with
  |true=>rw[sr]at he;exact⟨_,rfl,(abZ he).symm⟩
  |false=>rw[sr]at he;exact⟨_,rfl,(abZ he).symm⟩
 ·cases he
theorem Du(p:Nat→Prop)(v:Value):aQ p (yX v):=by
 cases v with
 |pointer a=>simp only[yX];split<;>simp only[aQ]
 |slice a n c=>simp only[yX];split<;>simp only[aQ]
 |func fn first cap =>
  cases fn with
  |func f=>simp only[yX];split<;>simp only[aQ,aI]
  |_=>simp only[yX,aQ]
 |_=>simp only[yX,aQ]
theorem zq(p:Nat→Prop):∀vs:List Value,aI p (vs.map yX)
 |[]=>by simp[aI]
 |v::r=>by simp only[List.map_cons,aI];exact⟨Du p v,zq p r⟩
theorem QI(p:Nat→Prop)(v:Value):aI p (vN v).cells:=by
 cases v with
 |agg cs=>simp only[vN,AV.cells];exact zq p _
 |_=>simp only[vN];rw[GF];simp only[aI];exact⟨Du p _,trivial⟩
theorem Tu(FN:∀t k,Eqs t=some k→nC P t k){hh:Heap}{ρC:Operand→Value}{s:List (Nat×AV)}{o:Oper}(g:Good Z ψ h w B0 O)(hB:B0≤w.heap.size)(bI:∀id o,hh.get id=some o→h id=some o){id:Nat}(hN:makes o.op=true→N id){e:bU} (pT:∀x∈o.op.operands,aD Z ψ h w (ρ s x) (ρC x)) (hm:∀x∈o.op.operands,aQ (fun i=>¬N i) (ρ s x)) (bC:∀i ty cs,h i=some (.box ty cs)→aI (fun i=>¬N i) cs) (mT:∀v hw,e=.wr v hw→hh.get=h) (MM:xu o=false) (he:dv P Eqs Sg F id hh s o some=some e):iY P ρC o Z ψ h w B0 O N e:=by
 obtain⟨dst,op,type,pos,after,guard⟩:=o;have two:∀{a b:Operand},(∀x∈(#[a,b]:Array Operand),aD Z ψ h w (ρ s x) (ρC x))→aD Z ψ h w (ρ s a) (ρC a)∧aD Z ψ h w (ρ s b) (ρC b):=fun hx=>⟨hx _ (by simp),hx _ (by simp)⟩
 cases op<;>simp only[dv]at he<;>simp only[Op.operands]at pT hm<;>first|(cases he;done)|skip
 case move x=>cases he;exact iY.val g (V:=ρC x) (by simp[execOp]) (pT x (by simp))
 case assign x=>cases he;exact iY.val g (V:=ρC x) (by simp[execOp]) (pT x (by simp))
 case pick c a b =>
  have h1:=pT c (by simp);have h2:=pT a (by simp);have h3:=pT b (by simp)
  split at he
  ·rename_i t ht
   cases he
   rw[ht]at h1;simp only[aD]at h1;refine iY.val g (V:=if t then ρC a else ρC b) (by simp[execOp,h1,asBool]) ?_;unfold ZI
   split
   ·rename_i p q hp hq;rw[hp]at h2;rw[hq]at h3;simp only[aD]at h2 h3 ⊢
    cases t<;>simp[h2,h3]
   ·cases t
    ·exact h3
    ·exact h2
  ·cases he
 case alloc t =>
  split at he
  ·rename_i z hz;obtain⟨i,zv,hi,hzz,rfl,h1⟩:=qX hz;exact Dt (us:=zv.cells) g hB (hN rfl) (Dd zv) h1 (QI _ zv) bC he (by simp[execOp,Instr.alloc,xl hi hzz,newVar,newRow,newObj,Sem.run])
  ·cases he
 case box t x =>
  have h1:=pT x (by simp)
  split at he
  ·rename_i hp;have hc:=h1.cells (Kh hp);exact Dt (us:=(ρC x).cells) g hB (hN rfl) hc (v7 hp hc) (hm x (by simp)).cells bC he (by simp[execOp,Instr.box,newVar,newRow,newObj,Sem.run])
  ·cases he
 case build t ps =>
  unfold tY at he
  split at he
  ·rename_i z fs hz hf
   split at he
   ·rename_i cs adF fX
    cases he
    simp only[Bool.and_eq_true]at fX;obtain⟨fX,hnn⟩:=fX;have adG:fs.toList.all (fun f=>(P.info? f.type).isSome)=true:=fX;have abe:∀p∈ps.toList,aD Z ψ h w (ρ s p.2) (ρC p.2):=fun p hp=>pT p.2 (by simp;exact⟨p.1,by simpa using hp⟩);have Nc:=Dq (Z:=Z) (ψ:=ψ) (h:=h) (w:=w) ps.toList abe (fun p hp=>Na (acZ.1 hnn (p.1,ρ s p.2) (ace.2 ⟨p,hp,rfl⟩)));obtain⟨V,h1,h2⟩:=Qw (P:=P) (qs:=ps.map fun p=>(p.1,ρC p.2)) hz hf adG (by rw[Array.toList_map];exact Nc) adF;exact iY.val g (V:=V) (by simp only[execOp,Sem.run_bind];rw[h1];simp) h2
   ·cases he
  ·cases he
 case buildSlice t n ps =>
  have abe:∀p∈ps.toList,aD Z ψ h w (ρ s p.2) (ρC p.2):=fun p hp=>pT p.2 (by simp;exact⟨p.1,by simpa using hp⟩);obtain⟨e0,h0,h1⟩:=QH he;exact QG g hB bI (hN rfl) abe bC (ZK Sg t _) h1 mT h0 (fun V w' h1=>by simp only[execOp,Sem.run_bind];rw[h1];simp)
 case load t a =>
  obtain⟨x,V,rfl,h1,h2⟩:=vZ g bI (pT a (by simp)) he;exact iY.val g (V:=V) (by simp[execOp,h1]) h2
 case store t a v =>
  obtain⟨h1,h2⟩:=two pT;have hw:∃hw,e=.wr .no hw:=by obtain⟨hw,_,_,h3,_⟩:=A5 (P:=P) (N:=N) (g.sub bI) (h1.sq bI) (h2.sq bI) he;exact⟨hw,h3⟩
  obtain⟨hw,rfl⟩:=hw;have heq:=mT _ _ rfl;subst heq;obtain⟨M7,w',Z',h3,h4,h5⟩:=A5 (P:=P) (N:=N) g h1 h2 he
  cases h3
  exact⟨undef,w',Z',ψ,.inr ⟨by simp[execOp,h4],rfl⟩,h5,by simp only[bU.v,aD]⟩
 case nilCheck x =>
  have h1:=pT x (by simp)
  split at he
  ·rename_i id s i off hx
   cases he
   rw[hx]at h1;have h2:=h1;simp only[aD]at h1;obtain⟨a,ha,_⟩:=h1;exact iY.val g (V:=ρC x) (by simp[execOp,ha]) h2
  ·rename_i k y off hx
   cases he
   rw[hx]at h1;have h2:=h1;simp only[aD]at h1;obtain⟨a,us,ha,_⟩:=h1;exact iY.val g (V:=ρC x) (by simp[execOp,ha]) h2
  ·rename_i f cap hx
   cases he
   rw[hx]at h1;have h2:=h1;simp only[aD]at h1;obtain⟨vs,ha,_⟩:=h1;exact iY.val g (V:=ρC x) (by simp[execOp,ha]) h2
  ·cases he
 case binOp op t x y yt =>
  obtain⟨h1,h2⟩:=two pT;obtain⟨r,V,rfl,h3,h4⟩:=QC FN (xo:=x) (yo:=y) h1 h2 he;exact iY.val g (V:=V) (by simp only[execOp,Sem.run_bind]at h3 ⊢;rw[h3];simp) h4
 case unOp op t x =>
  have h1:=pT x (by simp)
  cases op<;>simp only at he<;>first|(cases he;done)|skip
  split at he
  ·rename_i b hx
   cases he
   rw[hx]at h1;simp only[aD]at h1;exact iY.val g (V:=.bool (!b)) (by simp[execOp,h1,Op.unary]) (by simp only[aD])
  ·cases he
 case convert src dst x =>
  have h1:=pT x (by simp);unfold CZ at he
  split at he
  ·rename_i k1 k2 k3 n hs hd hx
   cases he
   rw[hx]at h1;simp only[aD]at h1;exact iY.val g (V:=.int k2 (k2.wrap n)) (by simp[execOp,h1,convert,run_underlying hs,run_underlying hd,Conv.intToInt]) (by simp only[aD])
  ·rename_i sv hs hd hx
   cases he
   rw[hx]at h1;have h2:=h1;simp only[aD]at h1;exact iY.val g (V:=ρC x) (by simp[execOp,h1,convert,run_underlying hs,run_underlying hd]) h2
  ·cases he
 case makeFunc fn first cap =>
  cases fn<;>simp only at he<;>first|(cases he;done)|skip
  rename_i f
  split at he
  ·rename_i hf
   cases he
   have h0:first=#[]:=adp hf
   subst h0;have hl:∀l:List Operand,(∀x∈l,aD Z ψ h w (ρ s x) (ρC x))→aw Z ψ h w (l.map (ρ s)) (l.map ρC):=by
    intro l
    induction l with
    |nil=>intro _;simp[aw]
    |cons a r ih=>intro ha;simp only[List.map_cons,aw];exact⟨_,_,rfl,ha a (by simp),ih (fun x hx=>ha x (aa6 _ hx))⟩
   exact iY.val g (V:=.func (.func f) #[] (cap.map ρC)) (by simp[execOp,Instr.makeFunc]) (by simp only[aD];exact⟨_,rfl,by rw[Array.toList_map];exact hl _ (fun x hx=>pT x (by simp;simpa using hx))⟩)
  ·cases he
 case slice t x lo hi mx =>
  have h1:=pT x (by simp);have h2:fG Z ψ h w (lo.map (ρ s)) (lo.map ρC):=M9 (fun y hy=>pT y (by subst hy;simp));have h3:fG Z ψ h w (hi.map (ρ s)) (hi.map ρC):=M9 (fun y hy=>pT y (by subst hy;simp));have h4:fG Z ψ h w (mx.map (ρ s)) (mx.map ρC):=M9 (fun y hy=>pT y (by subst hy;simp))
  split at he
  ·rename_i ht;unfold y0 at he
   split at he
   ·rename_i sv hx hmx
    split at he
    ·rename_i l u hb
     cases ho:bu sv.size l u with
     |false=>rw[ho]at he;cases he
     |true =>
      rw[ho]at he;cases he;rw[hx]at h1;simp only[aD]at h1;have hm0:mx=none:=by cases mx with
       |none=>rfl
       |some m=>simp at hmx
      subst hm0;have ep:=v5 (P:=P) (w:=w) (b:=false) (aci sv.size) h2 h3 (mx:=none) (mx':=none) trivial hb ho (.inl rfl);exact iY.val g (V:=.string (aa3 sv l u)) (by simp[execOp,Instr.sliceAt,Instr.slice,run_underlying ht,h1,ep,aa3]) (by simp only[aD])
    ·cases he
   ·cases he
  ·rename_i et ht
   split at he
   ·rename_i XW;obtain⟨V,Z',h5,h6,h7⟩:=Kg (P:=P) (N:=N) g bI ht h1 h2 h3 h4 mT he XW;exact⟨V,w,Z',ψ,.inl (by simp[execOp,h5]),h6,h7⟩
   ·cases he
  ·cases he
 case fieldAddr t x f =>
  have h1:=pT x (by simp)
  split at he
  ·rename_i n ft id sz i off hf hx
   split at he
   ·cases he
   ·rename_i hc
    cases he
    rw[hx]at h1;obtain⟨V,h2,h3⟩:=vl (P:=P) hf hc h1;exact iY.val g (V:=V) (by simp[execOp,h2]) h3
  ·rename_i n ft k y off hf hx
   split at he
   ·cases he
   ·rename_i hc
    cases he
    rw[hx]at h1;obtain⟨V,h2,h3⟩:=xn (P:=P) hf hc h1;exact iY.val g (V:=V) (by simp[execOp,h2]) h3
  ·cases he
 case field t x f =>
  have h1:=pT x (by simp)
  split at he
  ·rename_i n ft cs hf hx
   split at he
   ·rename_i v hv
    cases he
    rw[hx]at h1;obtain⟨V,h2,h3⟩:=Kf (P:=P) hf h1 hv;exact iY.val g (V:=V) (by simp[execOp,h2]) h3
   ·cases he
  ·cases he
 case indexAddr t x i =>
  obtain⟨h1,h2⟩:=two pT;obtain⟨y,V,rfl,h3,h4⟩:=rZ g bI h1 h2 he;exact iY.val g (V:=V) (by simp[execOp,h3]) h4
 case index t x i =>
  obtain⟨h1,h2⟩:=two pT
  split at he
  ·rename_i sv ik n ht hx hi;obtain⟨c,hc,Xt⟩:=ac0.1 he
   cases Xt
   rw[hx]at h1;rw[hi]at h2;simp only[aD]at h1 h2;exact iY.val g (V:=.int .u8 (c.toNat:Int)) (by simp[execOp,Instr.index,asIntOf,run_underlying ht,h1,h2,hc]) (by simp only[aD])
  ·cases he
 case extract t i =>
  have h1:=pT t (by simp)
  split at he
  ·rename_i vs hx
   split at he
   ·rename_i v hv
    cases he
    rw[hx]at h1;simp only[aD]at h1;obtain⟨us,hu,hl⟩:=h1;obtain⟨u,h2,h3⟩:=hl.get i hv;exact iY.val g (V:=u) (by simp[execOp,Instr.extract,hu,show us[i]? = some u by simpa using h2]) h3
   ·cases he
  ·cases he
 case makeMap t r =>
  cases r with
  |some r=>cases he
  |none =>simp only at he;have Xw:∀i ty cs,h i=some (.box ty cs)→aI (fun i=>i≠id) cs:=fun i ty cs hb=>(bC i ty cs hb).imp (fun j hj e=>hj (by rw[e];exact hN rfl));obtain⟨V,w',ψ',h1,h2,h3⟩:=F4 g hB (hN rfl) Xw he;exact⟨V,w',Z,ψ',.inl (by simp[execOp,h1]),h2,h3⟩
 case lookup t m i ok =>
  obtain⟨h1,h2⟩:=two pT;obtain⟨y,V,rfl,h3,h4⟩:=Ij FN g bI h1 h2 he;exact iY.val g (V:=V) (by simp[execOp,h3]) h4
 case mapUpdate t m i v =>
  have h1:=pT m (by simp);have h2:=pT i (by simp);have h3:=pT v (by simp);have hw:∃hw,e=.wr (.o8 []) hw:=by obtain⟨hw,_,_,h4,_⟩:=xp (N:=N) FN (g.sub bI) (h1.sq bI) (h2.sq bI) (h3.sq bI) he;exact⟨hw,h4⟩
  obtain⟨hw,rfl⟩:=hw;have heq:=mT _ _ rfl;subst heq;obtain⟨M7,w',Z',h4,h5,h6⟩:=xp (N:=N) FN g h1 h2 h3 he
  cases h4
  exact⟨undef,w',Z',ψ,.inr ⟨by simp[execOp,h5],rfl⟩,h6,by simp only[bU.v,aD,aw];exact⟨#[],rfl,rfl⟩⟩
 case range t x =>
  have Xw:∀i ty cs,h i=some (.box ty cs)→aI (fun i=>i≠id) cs:=fun i ty cs hb=>(bC i ty cs hb).imp (fun j hj e=>hj (by rw[e];exact hN rfl));obtain⟨V,w',ψ',h1,h2,h3⟩:=Ik g hB (hN rfl) (pT x (by simp)) Xw he;exact⟨V,w',Z,ψ',.inl (by simp[execOp,h1]),h2,h3⟩
 case next x b =>
  cases b with
  |false=>cases he
  |true =>obtain⟨V,w',h1,h2,h3⟩:=Kl (P:=P) (N:=N) (ty:=type) g bI (pT x (by simp)) mT he;exact⟨V,w',Z,ψ,.inl (by simp[execOp,h1]),h2,h3⟩
 case entry x =>
  obtain⟨y,V,rfl,h1,h2⟩:=Km (P:=P) g bI (pT x (by simp)) he;exact iY.val g (V:=V) (by simp[execOp,h1]) h2
 case call c =>
  obtain⟨callee,args,argTypes⟩:=c
  cases callee with
  |value f=>simp[xu]at MM
  |invoke r m=>simp only at he;cases he
  |builtin b =>
   have mz:∀x∈args.toList,aD Z ψ h w (ρ s x) (ρC x):=fun x hx=>pT x (by simp only[Call.operands];exact Array.mem_append.2 (.inr (by simpa using hx)));have Tv:∀x∈args.toList,aQ (fun i=>¬N i) (ρ s x):=fun x hx=>hm x (by simp only[Call.operands];exact Array.mem_append.2 (.inr (by simpa using hx)));obtain⟨args⟩:=args;obtain⟨argTypes⟩:=argTypes;simp only at he mz Tv
   cases b<;>simp only at he<;>first|(cases he;done)|skip
   case append =>
    split at he
    ·rename_i l1 l2 x y t t'
     split at he
     ·rename_i htt;subst htt;exact Il g hB bI (hN rfl) (mz x (by simp)) (mz y (by simp)) (Tv x (by simp)) bC mT he (fun V w' h1=>by simp only[execOp,resolve,invoke,builtin,Sem.run_bind,Sem.run_pure,Result.andThen_ok,List.map_toArray,List.map_cons,List.map_nil,h1])
     ·cases he
    ·cases he
   case delete =>
    split at he
    ·rename_i l1 l2 m x t ts;have h1:=mz m (by simp);have h2:=mz x (by simp);have hw:∃hw,e=.wr (.o8 []) hw:=by obtain⟨hw,_,h4,_⟩:=xt (N:=N) (ty:=type) (ts:=ts) FN (g.sub bI) (h1.sq bI) (h2.sq bI) he;exact⟨hw,h4⟩
     obtain⟨hw,rfl⟩:=hw;have heq:=mT _ _ rfl;subst heq;obtain⟨M7,w',h4,h5,h6⟩:=xt (N:=N) (ty:=type) (ts:=ts) FN g h1 h2 he
     cases h4
     exact⟨.tuple #[],w',Z,ψ,.inl (by simp only[execOp,resolve,invoke,builtin,Sem.run_bind,Sem.run_pure,Result.andThen_ok,List.map_toArray,List.map_cons,List.map_nil,h5]),h6,by simp only[bU.v,aD,aw];exact⟨#[],rfl,rfl⟩⟩
    ·cases he
   case len =>
    split at he
    ·rename_i l1 l2 x t
     split at he
     ·rename_i htm;obtain⟨n,rfl,h1⟩:=M8 (P:=P) (ty:=type) g bI htm (mz x (by simp)) he;exact iY.val g (V:=.int .i64 (n:Int)) (by simp only[execOp,resolve,invoke,builtin,Sem.run_bind,Sem.run_pure,Result.andThen_ok,List.map_toArray,List.map_cons,List.map_nil,h1]) (by simp only[aD])
     split at he
     ·rename_i aH;obtain⟨n,rfl,h1⟩:=QA g bI (mz x (by simp)) he;refine iY.val g (V:=.int .i64 (n:Int)) ?_ (by simp only[aD]);rcases h1 with⟨sv,h2,h3,rfl⟩|⟨A,c,h3⟩
      ·unfold aa4 at aH;rw[h2]at aH
       split at aH
       ·rename_i hu _;simp[execOp,resolve,invoke,builtin,Builtin.len_,run_underlying hu,h3,goInt]
       ·cases aH
       ·rename_i h9;exact(h9 _ rfl).elim
       ·cases aH
      ·have hu:∃e,P.underlying t=some (.slice e):=by
        have h4:=mz x (by simp);rw[h3]at h4;unfold aa4 at aH
        split at aH
        ·rename_i sv _ hxx;rw[hxx]at h4;simp only[aD]at h4;cases h4
        ·cases aH
        ·rename_i e _ hu _;exact⟨_,hu⟩
        ·cases aH
       obtain⟨e,hu⟩:=hu;simp[execOp,resolve,invoke,builtin,Builtin.len_,run_underlying hu,h3,goInt]
     ·cases he
    ·cases he
   all_goals
    unfold Qr at he
    split at he
    ·rename_i k a k' b SF;have hl:=congrArg List.length SF;simp only[List.length_map,List.length_cons,List.length_nil]at hl;obtain⟨x,y,rfl⟩:=abd hl;simp only[List.map_cons,List.map_nil,List.cons.injEq,and_true]at SF;have h1:=mz x (by simp);have h2:=mz y (by simp);rw[SF.1]at h1;rw[SF.2]at h2;simp only[aD]at h1 h2
     split at he
     ·rename_i hk;subst hk
      cases he
      refine iY.val g (V:=cq (.int _ _)) ?_ (kP _ _)
      first
       |(simp[execOp,resolve,invoke,builtin,Builtin.max_,Builtin.max2,h1,h2,cq];simp only[Int.max_def];split<;>split<;>omega)
       |(simp[execOp,resolve,invoke,builtin,Builtin.min_,Builtin.min2,h1,h2,cq];simp only[Int.min_def];split<;>split<;>omega)
     ·cases he
    ·cases he
end
end Go.Vs
namespace Go.Vs
variable {P:Program} {Z Z' Zf:Nat→Prop} {ψ ψ':Nat→Value} {h h':Hp} {w w':World} {B0:Nat} {O:Nat→Prop} {N:Nat→Prop}
abbrev A8:=Nat×Option Nat×Ob
def eI(L:List A8):Heap:=L.map fun e=>(e.1,e.2.2)
def kQ(ψ:Nat→Value):Option Nat→Value
 |some s=>ψ s
 |none=>.slice none 0 0
def fY(ψ:Nat→Value):List A8→Nat→Value
 |[],_=>undef
 |(i,s,_)::r,n=>if i=n then kQ ψ s else fY ψ r n
theorem qf{L:List A8}{i:Nat}{o:Ob}(hg:(eI L).get i=some o):∃s,(i,s,o)∈L:=by
 induction L with
 |nil=>simp[eI,Heap.get]at hg
 |cons e r ih =>
  obtain⟨j,s,o'⟩:=e;simp only[eI,List.map_cons,Heap.get]at hg
  split at hg
  ·rename_i e;subst e;cases hg;exact⟨s,abo⟩
  ·obtain⟨s',hs⟩:=ih hg;exact⟨s',aa6 _ hs⟩
theorem oM{i:Nat}{r:List Nat}(h:cG (i::r)=true):i∉r∧cG r=true:=by simp only[cG,Bool.and_eq_true,Bool.not_eq_true']at h;exact⟨fun hm=>by rw[List.contains_iff_mem.2 hm]at h;simp at h,h.2⟩
theorem jL{L:List A8}(hn:cG (L.map (·.1))=true){i:Nat}{s:Option Nat}{o:Ob}(hm:(i,s,o)∈L):fY ψ L i=kQ ψ s:=by
 induction L with
 |nil=>cases hm
 |cons e r ih =>
  obtain⟨j,s',o'⟩:=e;obtain⟨h1,h2⟩:=oM hn;simp only[fY];rcases abi.1 hm with he|hm
  ·cases he;simp
  ·rw[if_neg,ih h2 hm];rintro rfl;exact h1 (ace.2 ⟨_,hm,rfl⟩)
theorem X1{L:List A8}(hs:cG (L.filterMap (·.2.1))=true){i j s:Nat}{o o':Ob}(h1:(i,some s,o)∈L)(h2:(j,some s,o')∈L):i=j∧o=o':=by
 induction L with
 |nil=>cases h1
 |cons e r ih =>
  obtain⟨k,s',o''⟩:=e;have mem:∀{k:Nat} {o:Ob},(k,some s,o)∈r→s∈r.filterMap (·.2.1):=fun h=>ad5.2 ⟨_,h,rfl⟩;rw[List.filterMap_cons]at hs
  cases s' with
  |none =>simp only[]at hs;exact ih hs ((abi.1 h1).resolve_left (by simp)) ((abi.1 h2).resolve_left (by simp))
  |some s' =>
   simp only[]at hs;obtain⟨h3,h4⟩:=oM hs;rcases abi.1 h1 with e1|m1<;>rcases abi.1 h2 with e2|m2
   ·cases e1;cases e2;exact⟨rfl,rfl⟩
   ·cases e1;exact absurd (mem m2) h3
   ·cases e2;exact absurd (mem m1) h3
   ·exact ih h4 m1 m2
def Kn:(ok:OK)→ok.T→Prop
 |.row _ _,xs=>xs=[]
 |_,_=>False
theorem Kn.owns:∀{ok:OK} {xs:ok.T},Kn ok xs→kG Z w ok (.slice none 0 0) xs
 |.row ty k,xs,h=>by have h:xs=[]:=h;subst h;exact⟨[],⟨by simp,.inl ⟨rfl,none,rfl⟩⟩,fun i x hx=>by simp at hx⟩
 |.map _ _,_,h=>h.elim
 |.iter _ _,_,h=>h.elim
 |.pV,_,h=>h.elim
def xw(Z:Nat→Prop)(ψ:Nat→Value)(h:Hp)(w:World)(h':Hp)(ψ':Nat→Value):A8→Prop
 |(_,some s,.own ok xs)=>h s=some (.own ok xs)
 |(_,none,.own ok xs)=>Kn ok xs
 |(_,some s,.box ty cs')=>(∃cs,h s=some (.box ty cs))∧∀gg vs,ψ s=.pointer (some ⟨gg,0,none⟩)→w.heap[gg]? = some (.cells vs ty (0,0))→aw Z ψ' h' w cs' vs.toList
 |(_,none,.box _ _)=>False
theorem Good.rename(g:Good Z ψ h w B0 O){L:List A8}(hn:cG (L.map (·.1))=true)(hs:cG (L.filterMap (·.2.1))=true)(nD:∀e∈L,xw Z ψ h w (eI L).get (fY ψ L) e) :
  Good Z (fY ψ L) (eI L).get w B0 O:=by
 have src:∀id b,(eI L).get id≠none→ob (fY ψ L id)=some b→∃s o,(id,some s,o)∈L∧h s≠none∧ob (ψ s)=some b:=fun id b h1 h2=>by
  obtain⟨o,ho⟩:=ab8.1 h1;obtain⟨s,hm⟩:=qf ho;rw[jL hn hm]at h2
  cases s with
  |none=>simp[kQ,ob]at h2
  |some s =>
   have h3:=nD _ hm;refine⟨s,o,hm,?_,h2⟩
   cases o with
   |box ty cs=>obtain⟨⟨cs0,h4⟩,_⟩:=h3;rw[h4];simp
   |own ok xs=>rw[show h s=some (.own ok xs) from h3];simp
 refine⟨fun id ty cs hb=>?_,fun id ok xs hb=>?_,fun id b h1 h2=>?_,fun id oE b h1 h2 h3 h4=>?_,g.kN⟩
 ·obtain⟨s,hm⟩:=qf hb;have h3:=nD _ hm;rw[jL hn hm]
  cases s with
  |none=>exact h3.elim
  |some s =>obtain⟨⟨cs0,h4⟩,h5⟩:=h3;obtain⟨gg,vs,h6,h7,h8,h9⟩:=g.box s ty cs0 h4;exact⟨gg,vs,h6,h7,h5 gg vs h6 h7,h9⟩
 ·obtain⟨s,hm⟩:=qf hb;have h3:=nD _ hm;rw[jL hn hm]
  cases s with
  |none=>exact Kn.owns h3
  |some s=>exact g.row s ok xs h3
 ·obtain⟨s,o,hm,h3,h4⟩:=src id b h1 h2;exact g.live s b h3 h4
 ·obtain⟨s,o,hm,h5,h6⟩:=src id b h1 h3;obtain⟨s',o',X2,h5',h6'⟩:=src oE b h2 h4;have:=g.apart s s' b h5 h5' h6 h6';subst this;exact(X1 hs hm X2).1
def Cf(hh:Heap)(i:Nat):List AV:=match hh.get i with
 |some (.box _ cs)=>cs
 |_=>[]
def eQ:(dW:List CK)→Nat→List AV→sH dW→List A8
 |[],_,_,_=>[]
 |.val k::r,n,cs,x=>eQ r (n+1) (cs.drop k.sz) x.2
 |.own ok::r,n,cs,x=>(n,(qT (cs.headD .no)).head?,.own ok x.1)::eQ r (n+1) cs.tail x.2
def eY:(b:BK)→Heap→Nat→Nat→Nat→b.T→List A8
 |.box ty c,hh,i,i',n,x=>(i',some i,.box ty (aJ c n x))::eQ c n (Cf hh i) x
 |.own ok,_,i,i',_,x=>[(i',some i,.own ok x)]
def cY:(bs:List BK)→Heap→List Nat→List Nat→Nat→yY bs→List A8
 |b::r,hh,i::is,i'::is',n,x=>eY b hh i i' n x.1++cY r hh is is' (n+16) x.2
 |_,_,_,_,_,_=>[]
theorem oO:∀(dW:List CK) (n:Nat) (cs:List AV) (x:sH dW),eI (eQ dW n cs x)=bp dW n x
 |[],_,_,_=>rfl
 |.val k::r,n,cs,x=>oO r (n+1) _ x.2
 |.own ok::r,n,cs,x=>by simp only[eQ,bp,eI,List.map_cons];rw[←oO r (n+1) cs.tail x.2];rfl
theorem mE:∀(dW:List CK) (n:Nat) (cs:List AV) (x:sH dW),(eQ dW n cs x).map (·.1)=cK dW n
 |[],_,_,_=>rfl
 |.val k::r,n,cs,x=>mE r (n+1) _ x.2
 |.own ok::r,n,cs,x=>by simp only[eQ,cK,List.map_cons];rw[mE r (n+1) cs.tail x.2]
theorem zr(c:AV):(qT c).head?.toList=qT c:=by cases c<;>rfl
theorem eZ{α β:Type}(f:α→Option β)(a:α)(l:List α):(a::l).filterMap f=(f a).toList++l.filterMap f:=by rw[List.filterMap_cons];cases f a<;>rfl
theorem q6{k:K}{r:List CK}{hh:Heap}{cs:List AV}{x:sH (.val k::r)}(hd:dk (.val k::r) hh cs=some x):dZ k ((cs.take k.sz).map (di hh))=some x.1∧dk r hh (cs.drop k.sz)=some x.2:=by
 have e:dk (.val k::r) hh cs=(match dZ k ((cs.take k.sz).map (di hh)),dk r hh (cs.drop k.sz) with
  |some x,some y=>some ((x,y):k.T×sH r)
  |_,_=>none):=by cases cs<;>rfl
 rw[e]at hd;clear e;generalize dZ k ((cs.take k.sz).map (di hh))=o1 at hd ⊢;generalize dk r hh (cs.drop k.sz)=o2 at hd ⊢
 cases o1 with
 |none=>cases hd
 |some x1 =>
  cases o2 with
  |none=>cases hd
  |some y1=>have:=abZ hd;subst this;exact⟨rfl,rfl⟩
theorem nE{ok:OK}{r:List CK}{hh:Heap}{cs:List AV}{x:sH (.own ok::r)}(hd:dk (.own ok::r) hh cs=some x):∃c cs',cs=c::cs'∧fg hh ok c=some x.1∧dk r hh cs'=some x.2:=by
 cases cs with
 |nil=>cases hd
 |cons c cs =>
  refine⟨c,cs,rfl,?_⟩;have e:dk (.own ok::r) hh (c::cs)=(match fg hh ok c,dk r hh cs with
   |some x,some y=>some ((x,y):ok.T×sH r)
   |_,_=>none):=rfl
  rw[e]at hd;clear e;generalize fg hh ok c=o1 at hd ⊢;generalize dk r hh cs=o2 at hd ⊢
  cases o1 with
  |none=>cases hd
  |some x1 =>
   cases o2 with
   |none=>cases hd
   |some y1=>have:=abZ hd;subst this;exact⟨rfl,rfl⟩
theorem q7:∀(dW:List CK) (n:Nat) (hh:Heap) (cs:List AV) (x:sH dW),dk dW hh cs=some x→(eQ dW n cs x).filterMap (·.2.1)=gZ dW cs
 |[],_,_,cs,_,_=>by cases cs<;>rfl
 |.val k::r,n,hh,cs,x,hd=>by
  obtain⟨_,h2⟩:=q6 hd;have e:gZ (.val k::r) cs=gZ r (cs.drop k.sz):=by cases cs<;>rfl
  rw[e];exact q7 r (n+1) hh _ x.2 h2
 |.own ok::r,n,hh,cs,x,hd=>by obtain⟨c,cs',rfl,_,h2⟩:=nE hd;simp only[eQ,gZ];rw[eZ];simp only[List.headD_cons,List.tail_cons];rw[zr,q7 r (n+1) hh cs' x.2 h2]
theorem nF{hh:Heap}{ok:OK}{c:AV}{xs:ok.T}(ho:fg hh ok c=some xs):(c=.ia∧Kn ok xs)∨∃id,c=.bT id∧hh.get id=some (.own ok xs):=by
 unfold fg at ho
 split at ho
 ·cases ok with
  |row _ _=>cases ho;exact .inl ⟨rfl,rfl⟩
  |_=>cases ho
 ·rename_i id
  split at ho
  ·rename_i BO k' xs' hg
   split at ho
   ·rename_i e;subst e
    cases ho
    exact .inr ⟨id,rfl,hg⟩
   ·cases ho
  ·cases ho
 ·cases ho
theorem Io{hh:Heap}{ok:OK}{c:AV}{xs:ok.T}{v:Value}(ho:fg hh ok c=some xs)(hr:aD Z ψ hh.get w c v){n:Nat}(j0:h' n≠none→ψ' n=kQ ψ (qT c).head?):aD Z' ψ' h' w' (.bT n) v:=by
 rcases nF ho with⟨rfl,_⟩|⟨id,rfl,hg⟩
 ·simp only[aD]at hr ⊢;subst hr;exact⟨⟨rfl,rfl⟩,fun hn=>(j0 hn).symm⟩
 ·simp only[aD]at hr ⊢;refine⟨hr.1,fun hn=>?_⟩;rw[j0 hn];exact hr.2 (by rw[hg];simp)
theorem uk{hh:Heap}(g:Good Z ψ hh.get w B0 O)(hz:∀b,Z b→Z' b):∀(dW:List CK) (n:Nat) (cs:List AV) (x:sH dW) (vs:List Value),dk dW hh cs=some x →(∀id b,AV.bT id∈rU dW cs→hh.get id≠none→ob (ψ id)=some b→Z' b)→(∀e∈eQ dW n cs x,h' e.1≠none→ψ' e.1=kQ ψ e.2.1) → aw Z ψ hh.get w cs vs→aw Z' ψ' h' w (aJ dW n x) vs
 |[],n,cs,x,vs,hd,_,_,hr=>by
  cases cs with
  |nil=>simpa only[aJ,aw] using hr
  |cons c cs=>cases hd
 |.val k::r,n,cs,x,vs,hd,hf,j0,hr=>by
  obtain⟨h1,h2⟩:=q6 hd;have e:rU (.val k::r) cs=cs.take k.sz++rU r (cs.drop k.sz):=by cases cs<;>rfl
  rw[e]at hf;have uc:aw Z ψ hh.get w (cs.take k.sz++cs.drop k.sz) vs:=by rw[List.take_append_drop];exact hr
  obtain⟨us,ws,rfl,h3,h4⟩:=aw.split uc;simp only[aJ];have h5:=qd (Z':=Z') g hz (fun id b bQ=>hf id b (abn _ bQ)) h3;exact aw.append (js (eO h1 h5)) (uk g hz r (n+1) (cs.drop k.sz) x.2 ws h2 (fun id b bQ=>hf id b (abj _ bQ)) j0 h4)
 |.own ok::r,n,cs,x,vs,hd,hf,j0,hr=>by obtain⟨c,cs',rfl,h1,h2⟩:=nE hd;simp only[aw]at hr;obtain⟨v,us,rfl,h3,h4⟩:=hr;simp only[aJ,aw];refine⟨v,us,rfl,Io h1 h3 (fun hn=>j0 (n,_,_) (by simp only[eQ];exact abo) hn),?_⟩;exact uk g hz r (n+1) cs' x.2 us h2 hf (fun e he=>j0 e (by simp only[eQ];exact aa6 _ he)) h4
theorem gG{b:BK}{r:List BK}{hh:Heap}{i:Nat}{is:List Nat}{x:yY (b::r)}(hd:dD (b::r) hh (i::is)=some x):rW b hh i=some x.1∧dD r hh is=some x.2:=by
 have e:dD (b::r) hh (i::is)=(match rW b hh i,dD r hh is with
   |some x,some y=>some ((x,y):b.T×yY r)
   |_,_=>none):=rfl
 rw[e]at hd;clear e;generalize rW b hh i=o1 at hd ⊢;generalize dD r hh is=o2 at hd ⊢
 cases o1 with
 |none=>cases hd
 |some x1 =>
  cases o2 with
  |none=>cases hd
  |some y1=>have:=abZ hd;subst this;exact⟨rfl,rfl⟩
theorem um{ty:TypeId}{c:List CK}{hh:Heap}{i:Nat}{x:sH c}(hd:rW (.box ty c) hh i=some x):∃cs,hh.get i=some (.box ty cs)∧dk c hh cs=some x:=by
 simp only[rW]at hd
 cases hb:CV hh i ty with
 |none=>rw[hb]at hd;cases hd
 |some cs =>
  rw[hb]at hd;refine⟨cs,?_,hd⟩;unfold CV at hb
  split at hb
  ·rename_i BO cs' hg
   split at hb
   ·rename_i e;cases hb;rw[hg,e]
   ·cases hb
  ·cases hb
theorem kR{hh:Heap}{ok:OK}{i:Nat}{x:ok.T}(h:fg hh ok (.bT i)=some x):hh.get i=some (.own ok x):=by
 rcases nF h with⟨h,_⟩|⟨id,h,hg⟩
 ·cases h
 ·cases h;exact hg
theorem GL{ok:OK}{hh:Heap}{i:Nat}{x:ok.T}(hd:rW (.own ok) hh i=some x):hh.get i=some (.own ok x):=kR hd
theorem q8{hh:Heap}{i:Nat}{ty:TypeId}{cs:List AV}(hg:hh.get i=some (.box ty cs)):Cf hh i=cs:=by unfold Cf;rw[hg]
theorem Ip(b:BK){hh:Heap}{i i' n:Nat}(x:b.T):eI (eY b hh i i' n x)=j6 b i' n x:=by
 cases b with
 |box ty c=>simp only[eY,j6];rw[←oO c n (Cf hh i) x];simp[eI]
 |own ok=>simp[eY,j6,eI]
theorem F5(b:BK){hh:Heap}{i i' n:Nat}(x:b.T):(eY b hh i i' n x).map (·.1)=i'::cK b.dW n:=by
 cases b with
 |box ty c=>simp only[eY,List.map_cons,BK.dW];rw[mE]
 |own ok=>simp[eY,BK.dW,cK]
theorem Ko(b:BK){hh:Heap}{i i' n:Nat}{x:b.T}(hd:rW b hh i=some x):(eY b hh i i' n x).filterMap (·.2.1)=ll b hh i:=by
 cases b with
 |box ty c =>obtain⟨cs,h1,h2⟩:=um hd;simp only[eY,ll];rw[eZ,q8 h1,q7 c n hh cs x h2,h1];rfl
 |own ok=>simp[eY,ll]
theorem j9:∀(bs:List BK) (hh:Heap) (is is':List Nat) (n:Nat) (x:yY bs),dD bs hh is=some x→is'.length=bs.length→eI (cY bs hh is is' n x)=bG bs is' n x
 |[],hh,is,is',n,x,_,hl=>by cases is'<;>simp[cY,bG,eI]
 |b::r,hh,[],is',n,x,hd,_=>by cases hd
 |b::r,hh,i::is,[],n,x,_,hl=>by simp at hl
 |b::r,hh,i::is,i'::is',n,x,hd,hl=>by obtain⟨_,h3⟩:=gG hd;have ih:=j9 r hh is is' (n+16) x.2 h3 (by simpa using hl);simp only[cY,bG];rw[←ih,←Ip b (hh:=hh) (i:=i) x.1];simp[eI]
theorem iZ:∀(bs:List BK) (hh:Heap) (is is':List Nat) (n:Nat) (x:yY bs),dD bs hh is=some x→is'.length=bs.length→(cY bs hh is is' n x).map (·.1)=cy bs is' n
 |[],hh,is,is',n,x,_,hl=>by cases is'<;>simp[cY,cy]
 |b::r,hh,[],is',n,x,hd,_=>by cases hd
 |b::r,hh,i::is,[],n,x,_,hl=>by simp at hl
 |b::r,hh,i::is,i'::is',n,x,hd,hl=>by obtain⟨_,h3⟩:=gG hd;have ih:=iZ r hh is is' (n+16) x.2 h3 (by simpa using hl);simp only[cY,cy,List.map_append];rw[ih,F5,List.cons_append]
theorem lH:∀(bs:List BK) (hh:Heap) (is is':List Nat) (n:Nat) (x:yY bs),dD bs hh is=some x→is'.length=bs.length→(cY bs hh is is' n x).filterMap (·.2.1)=dE bs hh is
 |[],hh,is,is',n,x,_,hl=>by cases is'<;>cases is<;>simp[cY,dE]
 |b::r,hh,[],is',n,x,hd,_=>by cases hd
 |b::r,hh,i::is,[],n,x,_,hl=>by simp at hl
 |b::r,hh,i::is,i'::is',n,x,hd,hl=>by obtain⟨h1,h3⟩:=gG hd;have ih:=lH r hh is is' (n+16) x.2 h3 (by simpa using hl);simp only[cY,dE];rw[List.filterMap_append,ih,Ko b h1]
theorem uo{hd:Hp}{hh:Heap}:∀(dW:List CK) (n:Nat) (cs:List AV) (x:sH dW),dk dW hh cs=some x→(∀s∈gZ dW cs,hd s=hh.get s)→∀e∈eQ dW n cs x,xw Z ψ hd w h' ψ' e
 |[],n,cs,x,_,_,e,he=>by simp[eQ]at he
 |.val k::r,n,cs,x,Xx,hk,e,he=>by
  obtain⟨_,h2⟩:=q6 Xx;have e0:gZ (.val k::r) cs=gZ r (cs.drop k.sz):=by cases cs<;>rfl
  rw[e0]at hk;exact uo r (n+1) _ x.2 h2 hk e he
 |.own ok::r,n,cs,x,Xx,hk,e,he=>by
  obtain⟨c,cs',rfl,h1,h2⟩:=nE Xx;simp only[eQ,List.headD_cons,List.tail_cons]at he;simp only[gZ]at hk;rcases abi.1 he with rfl|he
  ·rcases nF h1 with⟨rfl,h3⟩|⟨id,rfl,h3⟩
   ·exact h3
   ·show hd id=some (.own ok x.1);rw[hk id (List.mem_append_left _ (by simp[qT])),h3]
  ·exact uo r (n+1) cs' x.2 h2 (fun s hs=>hk s (abj _ hs)) e he
theorem Nd{hd:Hp}{hh:Heap}(g:Good Z ψ hh.get w B0 O)(hz:∀b,Z b→Z' b)(b:BK){i i' n:Nat}{x:b.T}(Xx:rW b hh i=some x) (hf:∀id g,AV.bT id∈CW b hh i→hh.get id≠none→ob (ψ id)=some g→Z' g) (hk:∀s∈ll b hh i,hd s=hh.get s) (j0:∀e∈eY b hh i i' n x,h' e.1≠none→ψ' e.1=kQ ψ e.2.1) :
  ∀e∈eY b hh i i' n x,xw Z' ψ hd w h' ψ' e:=by
 intro e he
 cases b with
 |box ty c =>
  obtain⟨cs,h1,h2⟩:=um Xx;simp only[CW,ll,h1]at hf hk;have abf:∀e∈eQ c n cs x,h' e.1≠none→ψ' e.1=kQ ψ e.2.1:=fun e he=>j0 e (by simp only[eY];rw[q8 h1];exact aa6 _ he);simp only[eY]at he;rcases abi.1 he with rfl|he
  ·refine⟨⟨cs,by rw[hk i List.mem_cons_self,h1]⟩,fun gg vs h4 h5=>?_⟩;obtain⟨gg',jc,h6,h7,h8,_⟩:=g.box i ty cs h1;rw[h6]at h4
   cases h4
   rw[h5]at h7
   cases h7
   exact uk g hz c n cs x _ h2 hf abf h8
  ·rw[q8 h1]at he;exact uo c n cs x h2 (fun s hs=>hk s (aa6 _ hs)) e he
 |own ok =>have h1:=GL Xx;simp only[eY,List.mem_singleton]at he;subst he;show hd i=some (.own ok x);rw[hk i (by simp[ll]),h1]
theorem nG{hd:Hp}{hh:Heap}(g:Good Z ψ hh.get w B0 O)(hz:∀b,Z b→Z' b):∀(bs:List BK) (is is':List Nat) (n:Nat) (x:yY bs),dD bs hh is=some x →(∀id b,AV.bT id∈ic bs hh is→hh.get id≠none→ob (ψ id)=some b→Z' b)→(∀s∈dE bs hh is,hd s=hh.get s)→(∀e∈cY bs hh is is' n x,h' e.1≠none→ψ' e.1=kQ ψ e.2.1) → ∀e∈cY bs hh is is' n x,xw Z' ψ hd w h' ψ' e
 |[],is,is',n,x,_,_,_,_,e,he=>by simp[cY]at he
 |b::r,[],is',n,x,Xx,_,_,_,e,he=>by cases Xx
 |b::r,i::is,[],n,x,_,_,_,_,e,he=>by simp[cY]at he
 |b::r,i::is,i'::is',n,x,Xx,hf,hk,j0,e,he=>by
  obtain⟨h1,h3⟩:=gG Xx;simp only[ic,dE]at hf hk;simp only[cY]at he j0;rcases abG.1 he with he|he
  ·exact Nd g hz b h1 (fun id g bQ=>hf id g (abn _ bQ)) (fun s hs=>hk s (abn _ hs)) (fun e he=>j0 e (abn _ he)) e he
  ·exact nG g hz r is is' (n+16) x.2 h3 (fun id b bQ=>hf id b (abj _ bQ)) (fun s hs=>hk s (abj _ hs)) (fun e he=>j0 e (abj _ he)) e he
theorem uq{kept:List Nat}{mj:List AV}(hk:zg kept mj=true):cG kept=true∧∀(hh:Heap) s,s∈kept→(dg hh mj).get s=hh.get s:=by unfold zg at hk;rw[Bool.and_eq_true]at hk;exact⟨hk.1,fun hh s hs=>qW _ _ _ (uf (acZ.1 hk.2 s hs))⟩
theorem zt{hh:Heap}{mj:List AV}{kept:List Nat}(g:Good Z ψ hh.get w B0 O)(hk:zg kept mj=true){L:List A8}(hn:cG (L.map (·.1))=true)(hs:L.filterMap (·.2.1)=kept) (nD:∀e∈L,xw (sF Z ψ hh.get mj) ψ (dg hh mj).get w (eI L).get (fY ψ L) e):Good (sF Z ψ hh.get mj) (fY ψ L) (eI L).get w B0 O :=(jB g mj).rename hn (by rw[hs];exact(uq hk).1) nD
theorem Cg{L:List A8}(hn:cG (L.map (·.1))=true):∀e∈L,(eI L).get e.1≠none→fY ψ L e.1=kQ ψ e.2.1:=fun⟨i,s,o⟩ he _=>jL hn he
theorem oP(A B:List A8):eI (A++B)=eI A++eI B:=by simp[eI]
theorem Ch{hh:Heap}{i s i':Nat}{v:Value}(hr:aD Z ψ hh.get w (.ref i s 0 0) v)(hi:hh.get i≠none)(j0:h' i'≠none→ψ' i'=ψ i):aD Z' ψ' h' w' (.ref i' 0 0 0) v:=by simp only[aD]at hr ⊢;obtain⟨a,rfl,ha⟩:=hr;refine⟨a,rfl,fun hn=>?_⟩;rw[j0 hn,ha hi];simp
theorem q9{v:AV}{i:Nat}(h:GA v=some i):∃s,v=.ref i s 0 0:=by
 unfold GA at h
 split at h
 ·cases h;exact⟨_,rfl⟩
 ·cases h
theorem kb{hh:Heap}:∀(bs:List BK) (is:List Nat) (x:yY bs),dD bs hh is=some x→is.length=bs.length∧∀i∈is,hh.get i≠none
 |[],[],_,_=>⟨rfl,fun i hi=>by cases hi⟩
 |[],_::_,_,h=>by cases h
 |_::_,[],_,h=>by cases h
 |b::r,i::is,x,h=>by
  obtain⟨h1,h3⟩:=gG h;obtain⟨h4,h5⟩:=kb r is x.2 h3;refine⟨by simp[h4],fun j hj=>?_⟩;rcases abi.1 hj with rfl|hj
  ·cases b with
   |box ty c=>obtain⟨cs,h1,_⟩:=um h1;rw[h1];simp
   |own ok=>rw[GL h1];simp
  ·exact h5 j hj
theorem lJ{hh:Heap}:∀(bs:List BK) (is is':List Nat) (n:Nat) (x:yY bs),is.length=bs.length→∀p∈is.zip is',∃o,(p.2,some p.1,o)∈cY bs hh is is' n x
 |[],is,is',n,x,hl,p,hp=>by
  cases is with
  |nil=>simp at hp
  |cons a r=>simp at hl
 |b::r,[],is',n,x,hl,p,hp=>by simp at hp
 |b::r,i::is,[],n,x,hl,p,hp=>by simp at hp
 |b::r,i::is,i'::is',n,x,hl,p,hp=>by
  simp only[List.zip_cons_cons]at hp;simp only[cY];rcases abi.1 hp with rfl|hp
  ·cases b with
   |box ty c=>exact⟨_,abn _ (by simp only[eY];exact abo)⟩
   |own ok=>exact⟨_,abn _ (by simp only[eY];exact abo)⟩
  ·obtain⟨o,ho⟩:=lJ r is is' (n+16) x.2 (by simpa using hl) p hp;exact⟨o,abj _ ho⟩
theorem O0{hd:Hp}{hh:Heap}{ok:OK}{c:AV}{xs:ok.T}(ho:fg hh ok c=some xs)(hk:∀s∈qT c,hd s=hh.get s){n:Nat}:xw Z ψ hd w h' ψ' (n,(qT c).head?,.own ok xs):=by
 rcases nF ho with⟨rfl,h3⟩|⟨id,rfl,h3⟩
 ·exact h3
 ·show hd id=some (.own ok xs);rw[hk id (by simp[qT]),h3]
end Go.Vs
namespace Go.Vs
variable {P:Program} {Z Z':Nat→Prop} {ψ ψ':Nat→Value} {h h':Hp} {w w':World} {B0:Nat} {O:Nat→Prop} {N:Nat→Prop}
def iq:Hp:=fun _=>none
def MN:Nat→Value:=fun _=>undef
def GM(g:aX)(x:J2 (mn g.ps)):List AV:=(ba g.ps [] 0 x).map (·.2)
def adH(P:Program)(f:FuncId)(g:aX)(x:g.A)(y:g.B):Prop :=∀(Z:Nat→Prop) (w:World) (lK:List Value),(∀b,Z b→b<w.heap.size)→aw Z MN iq w (GM g x.1) lK → Calls P (f%1000) lK.toArray w fun e w'=>∃v Z' ψ',e=.returned v∧(∀b,Z b→Z' b)∧(∀b,Z' b→Z b∨w.heap.size≤b)∧dF MN iq w w' ∧ Good Z' ψ' (ar g.rs 3000 y.1).get w' w.heap.size (fun _=>False)∧aD Z' ψ' (ar g.rs 3000 y.1).get w' (gq (bj g.rs [] 2000 3000 y.1)) v
theorem A9{p:PK}{ps:List PK}{vs:List AV}(hi:dd (p::ps) vs=some []):∃a r,vs=a::r∧dd ps r=some []∧(p≠.ref∧p≠.own)∧(∀f n,p=.JU f n→a=.fn f [])∧(∀n,p=.agg n→a=.agg []):=by
 cases vs with
 |nil=>cases p<;>simp[dd]at hi
 |cons a r =>
  cases p with
  |val k=>exact⟨a,r,rfl,by simpa only[dd] using hi,by simp,by simp,by simp⟩
  |ref =>
   simp only[dd]at hi
   split at hi<;>simp at hi
  |own =>
   cases a<;>simp only[dd]at hi<;>first|(cases hi;done)|skip
   split at hi<;>simp at hi
  |JU f n =>
   cases a<;>simp only[dd]at hi<;>first|(cases hi;done)|skip
   rename_i f' cap
   split at hi
   ·rename_i hc;obtain⟨rfl,ue⟩:=hc
    split at hi
    ·rename_i a1 b1 h1 h2;simp only[Option.some.injEq,List.append_eq_nil_iff]at hi;obtain⟨rfl,rfl⟩:=hi;have aa8:cap=[]:=by
      cases cap with
      |nil=>rfl
      |cons c cs=>simp only[kK]at h1;split at h1<;>simp at h1
     subst aa8;exact⟨_,r,rfl,h2,by simp,by rintro f n ⟨⟩;rfl,by simp⟩
    ·cases hi
   ·cases hi
  |agg n =>
   cases a<;>simp only[dd]at hi<;>first|(cases hi;done)|skip
   rename_i cs
   split at hi
   ·split at hi
    ·rename_i a1 b1 h1 h2;simp only[Option.some.injEq,List.append_eq_nil_iff]at hi;obtain⟨rfl,rfl⟩:=hi;have Qy:cs=[]:=by
      cases cs with
      |nil=>rfl
      |cons c cs=>cases c<;>simp only[qU]at h1<;>first|(cases h1;done)|(split at h1<;>simp at h1)
     subst Qy;exact⟨_,r,rfl,h2,by simp,by simp,fun _ _=>rfl⟩
    ·cases hi
   ·cases hi
theorem Ba{k:K}{ps:List PK}{hh:Heap}{a:AV}{r:List AV}{x:k.T×J2 (mn ps)}(hv:fR (.val k::ps) hh (a::r)=some x):hM k hh a=some x.1∧fR ps hh r=some x.2:=by
 have e:fR (.val k::ps) hh (a::r)=(match hM k hh a,fR ps hh r with
  |some x,some y=>some ((x,y):k.T×J2 (mn ps))
  |_,_=>none):=rfl
 rw[e]at hv;clear e;generalize hM k hh a=o1 at hv ⊢;generalize fR ps hh r=o2 at hv ⊢
 cases o1 with
 |none=>cases hv
 |some x1 =>
  cases o2 with
  |none=>cases hv
  |some y1 =>have:=abZ hv;subst this;exact⟨rfl,rfl⟩
theorem Dv{hh:Heap}(g:Good Z ψ hh.get w B0 O)(hz:∀b,Z b→Z' b)(ps:List PK):∀(s:Nat) (vs:List AV) (us:List Value) (x:J2 (mn ps)),(∀v∈vs,∀id b,AV.bT id∈v.cells→hh.get id≠none→ob (ψ id)=some b→Z' b) → dd ps vs=some []→fR ps hh vs=some x→aw Z ψ hh.get w vs us→aw Z' MN iq w ((ba ps [] s x).map (·.2)) us:=by
 induction ps with
 |nil =>
  intro s vs us x _ hi hv hr
  cases vs with
  |nil=>simpa only[ba,List.map_nil,aw] using hr
  |cons a r=>simp[dd]at hi
 |cons p ps ih =>
  intro s vs us x hb hi hv hr;obtain⟨a,r,rfl,vU,X3,abg,abh⟩:=A9 hi;simp only[aw]at hr;obtain⟨u,jU,rfl,h3,h4⟩:=hr
  cases p with
  |val k =>obtain⟨h1,h2⟩:=Ba hv;simp only[ba,List.map_cons,aw];exact⟨u,jU,rfl,ug (Z':=Z') (ψ':=MN) (h':=iq) g hz (hb a abo) h1 h3,ih (s+1) r jU x.2 (fun v hv=>hb v (aa6 _ hv)) vU h2 h4⟩
  |ref=>exact absurd rfl X3.1
  |own=>exact absurd rfl X3.2
  |JU f n =>have ha:=abg f n rfl;subst ha;have h2:fR ps hh r=some x:=hv;simp only[ba,List.map_cons,aw,List.take_nil,List.map_nil,List.drop_nil];simp only[aD,aw]at h3 ⊢;exact⟨u,jU,rfl,h3,ih (s+1) r jU x (fun v hv=>hb v (aa6 _ hv)) vU h2 h4⟩
  |agg n =>have ha:=abh n rfl;subst ha;have h2:fR ps hh r=some x:=hv;simp only[ba,List.map_cons,aw,List.take_nil,List.map_nil,List.drop_nil];simp only[aD,aw]at h3 ⊢;exact⟨u,jU,rfl,h3,ih (s+1) r jU x (fun v hv=>hb v (aa6 _ hv)) vU h2 h4⟩
theorem Good.adI(g:Good Z ψ h w B0 O)(k:dF MN iq w w')(hz:∀b,Z b→Z' b)(C3:∀b,Z' b→Z b∨w.heap.size≤b)(ai1:∀b,Z' b→b<w'.heap.size) (hold:∀id,¬N id→h' id=h id∧ψ' id=ψ id) (bC:∀id ty cs,h id=some (.box ty cs)→aI (fun i=>¬N i) cs) (Td:∀id ty cs,N id→h' id=some (.box ty cs)→False) (qe:∀id ok xs,N id→h' id=some (.own ok xs)→kG Z' w' ok (ψ' id) xs) (C5:∀id b,N id→h' id≠none→ob (ψ' id)=some b→w.heap.size≤b∧¬Z' b) (MZ:∀id oE b,N id→N oE→h' id≠none→h' oE≠none→ob (ψ' id)=some b→ob (ψ' oE)=some b→id=oE) (hB:B0≤w.heap.size) :
  Next Z ψ h w B0 O N Z' ψ' h' w':=by
 have dq:∀b,b<w.heap.size→w'.heap[b]? = w.heap[b]? := fun b hb=>k.block b hb (fun⟨id,h1,_⟩=>h1 rfl);have sm:cV Z w w':=fun b hb=>dq b (g.kN b hb);have pn:∀id,h' id≠none→(h id≠none∧ψ' id=ψ id)∨N id:=fun id bQ=>by
  by_cases hn:N id
  ·exact .inr hn
  ·obtain⟨e1,e2⟩:=hold id hn;exact .inl ⟨by rwa [e1]at bQ,e2⟩
 have AX:∀id b,¬N id→h' id≠none→ob (ψ' id)=some b→Own ψ h b:=fun id b hn h1 h2=>by obtain⟨e1,e2⟩:=hold id hn;exact⟨id,by rwa [e1]at h1,by rwa [e2]at h2⟩
 have kk:dF ψ h w w':=⟨k.os,k.tape,k.output,k.size,fun b hb _=>dq b hb⟩;refine⟨hz,fun b hb=>(C3 b hb).imp (fun h=>h) .inr,kk,pn,⟨fun id ty cs hb=>?_,fun id ok xs hb=>?_,fun id b h1 h2=>?_,fun id oE b h1 h2 h3 h4=>?_,ai1⟩⟩
 ·by_cases hn:N id
  ·exact(Td id ty cs hn hb).elim
  ·obtain⟨e1,e2⟩:=hold id hn;rw[e1]at hb;obtain⟨gg,vs,h1,h2,h3,h4⟩:=g.box id ty cs hb;exact⟨gg,vs,by rw[e2,h1],(dq gg (abq.1 h2).1).trans h2,h3.move hz sm (fun i hp bQ=>(pn i bQ).resolve_right hp) (bC id ty cs hb),h4⟩
 ·by_cases hn:N id
  ·exact qe id ok xs hn hb
  ·obtain⟨e1,e2⟩:=hold id hn;rw[e1]at hb;rw[e2];exact(g.row id ok xs hb).kept hz sm (fun gg Qt=>dq gg (g.cc ⟨id,by rw[hb];simp,Qt⟩))
 ·by_cases hn:N id
  ·obtain⟨h3,h4⟩:=C5 id b hn h1 h2;exact⟨h4,.inl (by omega)⟩
  ·obtain⟨e1,e2⟩:=hold id hn;rw[e1]at h1;rw[e2]at h2;have h3:=g.live id b h1 h2;refine⟨fun hzb=>?_,h3.2⟩;rcases C3 b hzb with h4|h4
   ·exact h3.1 h4
   ·have:=g.cc ⟨id,h1,h2⟩;omega
 ·by_cases hn:N id<;>by_cases M0:N oE
  ·exact MZ id oE b hn M0 h1 h2 h3 h4
  ·have:=(C5 id b hn h1 h3).1;have:=g.cc (AX oE b M0 h2 h4);omega
  ·have:=(C5 oE b M0 h2 h4).1;have:=g.cc (AX id b hn h1 h3);omega
  ·obtain⟨e1,e2⟩:=hold id hn;obtain⟨e3,e4⟩:=hold oE M0;rw[e1]at h1;rw[e2]at h3;rw[e3]at h2;rw[e4]at h4;exact g.apart id oE b h1 h2 h3 h4
theorem bO{r:RK}{rs:List RK}(h:(r::rs).all RK.plain=true):rs.all RK.plain=true:=by simp only[List.all_cons,Bool.and_eq_true]at h;exact h.2
theorem QJ{c:List CK}{rs:List RK}(h:(RK.agg c::rs).all RK.plain=true):c.length≤16:=by simp only[List.all_cons,Bool.and_eq_true,RK.plain,decide_eq_true_eq]at h;exact h.1
theorem nH:∀(c:List CK) (a:Nat) (x:sH c) (i:Nat),i<a→(bp c a x).get i=none
 |[],_,_,_,_=>rfl
 |.val _::r,a,x,i,h=>by simp only[bp];exact nH r (a+1) x.2 i (by omega)
 |.own ok::r,a,x,i,h=>by simp only[bp,Heap.get];rw[if_neg (by omega)];exact nH r (a+1) x.2 i (by omega)
theorem wc:∀(c:List CK) (a:Nat) (x:sH c) (i:Nat),a+c.length≤i→(bp c a x).get i=none
 |[],_,_,_,_=>rfl
 |.val _::r,a,x,i,h=>by simp only[List.length_cons]at h;simp only[bp];exact wc r (a+1) x.2 i (by omega)
 |.own ok::r,a,x,i,h=>by simp only[List.length_cons]at h;simp only[bp,Heap.get];rw[if_neg (by omega)];exact wc r (a+1) x.2 i (by omega)
theorem wh:∀(c:List CK) (a b:Nat) (x:sH c) (j:Nat),(bp c a x).get (a+j)=(bp c b x).get (b+j)
 |[],_,_,_,_=>rfl
 |.val _::r,a,b,x,0=>by simp only[bp];rw[nH _ _ _ _ (by omega),nH _ _ _ _ (by omega)]
 |.own ok::r,a,b,x,0=>by simp[bp,Heap.get]
 |.val _::r,a,b,x,j+1=>by simp only[bp];rw[show a+(j+1)=a+1+j by omega,show b+(j+1)=b+1+j by omega];exact wh r (a+1) (b+1) x.2 j
 |.own ok::r,a,b,x,j+1=>by simp only[bp,Heap.get];rw[if_neg (by omega),if_neg (by omega),show a+(j+1)=a+1+j by omega,show b+(j+1)=b+1+j by omega];exact wh r (a+1) (b+1) x.2 j
theorem pI:∀(c:List CK) (a:Nat) (x:sH c) (i:Nat) (ty:TypeId) (cs:List AV),(bp c a x).get i≠some (.box ty cs)
 |[],_,_,_,_,_=>by simp[bp,Heap.get]
 |.val _::r,a,x,i,ty,cs=>by simp only[bp];exact pI r (a+1) x.2 i ty cs
 |.own ok::r,a,x,i,ty,cs=>by
  simp only[bp,Heap.get]
  split
  ·simp
  ·exact pI r (a+1) x.2 i ty cs
theorem ta:∀(rs:List RK) (a:Nat) (y:np rs) (i:Nat),rs.all RK.plain=true→i<a→(ar rs a y).get i=none
 |[],a,y,i,_,h=>rfl
 |.val k::r,a,y,i,hp,h=>by simp only[ar];exact ta r (a+1) y.2 i (bO hp) (by omega)
 |.own ok::r,a,y,i,hp,h=>by simp only[ar,Heap.get];rw[if_neg (by omega)];exact ta r (a+1) y.2 i (bO hp) (by omega)
 |.fW _ _::r,a,y,i,hp,h=>by simp only[ar];exact ta r (a+1) y.2 i (bO hp) (by omega)
 |.agg c::r,a,y,i,hp,h=>by have h1:(bp c a y.1).get i=none:=nH c a y.1 i h;have h2:=ta r (a+1) y.2 i (bO hp) (by omega);show Heap.get (bp c a y.1++ar r (a+1) y.2) i=none;rw[Heap.get_append,h1,h2]
theorem Kp:∀(rs:List RK) (a:Nat) (y:np rs) (i:Nat),rs.all RK.plain=true→a+rs.length+16≤i→(ar rs a y).get i=none
 |[],a,y,i,_,h=>rfl
 |.val k::r,a,y,i,hp,h=>by simp only[List.length_cons]at h;simp only[ar];exact Kp r (a+1) y.2 i (bO hp) (by omega)
 |.own ok::r,a,y,i,hp,h=>by simp only[List.length_cons]at h;simp only[ar,Heap.get];rw[if_neg (by omega)];exact Kp r (a+1) y.2 i (bO hp) (by omega)
 |.fW _ _::r,a,y,i,hp,h=>by simp only[List.length_cons]at h;simp only[ar];exact Kp r (a+1) y.2 i (bO hp) (by omega)
 |.agg c::r,a,y,i,hp,h=>by simp only[List.length_cons]at h;have hc:=QJ hp;have h1:(bp c a y.1).get i=none:=wc c a y.1 i (by omega);have h2:=Kp r (a+1) y.2 i (bO hp) (by omega);show Heap.get (bp c a y.1++ar r (a+1) y.2) i=none;rw[Heap.get_append,h1,h2]
theorem Kq:∀(rs:List RK) (a b:Nat) (y:np rs) (j:Nat),rs.all RK.plain=true→(ar rs a y).get (a+j)=(ar rs b y).get (b+j)
 |[],_,_,_,_,_=>rfl
 |.val k::r,a,b,y,0,hp=>by simp only[ar];rw[ta _ _ _ _ (bO hp) (by omega),ta _ _ _ _ (bO hp) (by omega)]
 |.fW _ _::r,a,b,y,0,hp=>by simp only[ar];rw[ta _ _ _ _ (bO hp) (by omega),ta _ _ _ _ (bO hp) (by omega)]
 |.own ok::r,a,b,y,0,hp=>by simp[ar,Heap.get]
 |.val k::r,a,b,y,j+1,hp=>by simp only[ar];rw[show a+(j+1)=a+1+j by omega,show b+(j+1)=b+1+j by omega];exact Kq r (a+1) (b+1) y.2 j (bO hp)
 |.fW _ _::r,a,b,y,j+1,hp=>by simp only[ar];rw[show a+(j+1)=a+1+j by omega,show b+(j+1)=b+1+j by omega];exact Kq r (a+1) (b+1) y.2 j (bO hp)
 |.own ok::r,a,b,y,j+1,hp=>by simp only[ar,Heap.get];rw[if_neg (by omega),if_neg (by omega),show a+(j+1)=a+1+j by omega,show b+(j+1)=b+1+j by omega];exact Kq r (a+1) (b+1) y.2 j (bO hp)
 |.agg c::r,a,b,y,j,hp=>by
  have h1:(bp c a y.1).get (a+j)=(bp c b y.1).get (b+j):=wh c a b y.1 j;have h2:(ar r (a+1) y.2).get (a+j)=(ar r (b+1) y.2).get (b+j):=by
   cases j with
   |zero=>rw[ta _ _ _ _ (bO hp) (by omega),ta _ _ _ _ (bO hp) (by omega)]
   |succ j =>rw[show a+(j+1)=a+1+j by omega,show b+(j+1)=b+1+j by omega];exact Kq r (a+1) (b+1) y.2 j (bO hp)
  show Heap.get (bp c a y.1++ar r (a+1) y.2) (a+j)=Heap.get (bp c b y.1++ar r (b+1) y.2) (b+j);rw[Heap.get_append,Heap.get_append,h1,h2]
theorem xx:∀(rs:List RK) (a:Nat) (y:np rs) (i:Nat) (ty:TypeId) (cs:List AV),rs.all RK.plain=true→(ar rs a y).get i≠some (.box ty cs)
 |[],_,_,_,_,_,_=>by simp[ar,Heap.get]
 |.val k::r,a,y,i,ty,cs,hp=>by simp only[ar];exact xx r (a+1) y.2 i ty cs (bO hp)
 |.fW _ _::r,a,y,i,ty,cs,hp=>by simp only[ar];exact xx r (a+1) y.2 i ty cs (bO hp)
 |.own ok::r,a,y,i,ty,cs,hp=>by
  simp only[ar,Heap.get]
  split
  ·simp
  ·exact xx r (a+1) y.2 i ty cs (bO hp)
 |.agg c::r,a,y,i,ty,cs,hp=>by
  have h1:(bp c a y.1).get i≠some (.box ty cs):=pI c a y.1 i ty cs;show Heap.get (bp c a y.1++ar r (a+1) y.2) i≠some (.box ty cs);rw[Heap.get_append]
  split
  ·rename_i o ho;rw[ho]at h1;exact h1
  ·exact xx r (a+1) y.2 i ty cs (bO hp)
theorem nI(p:Nat→Prop):∀(k:K) (x:k.T),aI p (enc k x)
 |.int _,_=>by simp only[enc,aI,aQ];exact⟨trivial,trivial⟩
 |.bool,_=>by simp only[enc,aI,aQ];exact⟨trivial,trivial⟩
 |.str,_=>by simp only[enc,aI,aQ];exact⟨trivial,trivial⟩
 |.sl _,_=>by simp only[enc,aI,aQ];exact⟨trivial,trivial⟩
 |.mp _ _,_=>by simp only[enc,aI,aQ];exact⟨trivial,trivial⟩
 |.pair a b,x=>by
  simp only[enc];have h1:=nI p a x.1;have h2:=nI p b x.2
  revert h1
  generalize enc a x.1=l
  induction l with
  |nil=>intro _;exact h2
  |cons c r ih=>intro h;simp only[List.cons_append,aI]at h ⊢;exact⟨h.1,ih h.2⟩
 |.one k,x=>by simp only[enc];exact nI p k x
theorem qg(p:Nat→Prop):∀(k:K) (x:k.T),aQ p (cJ k x)
 |.int _,_=>by simp only[cJ,aQ]
 |.bool,_=>by simp only[cJ,aQ]
 |.str,_=>by simp only[cJ,aQ]
 |.sl _,_=>by simp only[cJ,aQ]
 |.mp _ _,_=>by simp only[cJ,aQ]
 |.pair a b,x=>by simp only[cJ,aQ];exact nI p (.pair a b) x
 |.one k,x=>by simp only[cJ,aQ];exact nI p (.one k) x
theorem Tw{k:K}{x:k.T}{v:Value}(hr:aD Z ψ h w (cJ k x) v):aD Z ψ' h' w (cJ k x) v :=hr.move (p:=fun _=>False) (fun _ h=>h) (cV.refl _ _) (fun _ hp _=>hp.elim) (qg _ k x)
theorem X4(r:RK)(rs:List RK)(b:Nat)(y:np (r::rs))(i:Nat)(hi:(ar rs (b+1) y.2).get i≠none):(ar (r::rs) b y).get i≠none:=by
 cases r with
 |val k=>exact hi
 |fW _ _=>exact hi
 |own ok=>simp only[ar,Heap.get];split<;>simp_all
 |agg c =>
  show Heap.get (bp c b y.1++ar rs (b+1) y.2) i≠none;rw[Heap.get_append]
  split
  ·simp
  ·exact hi
theorem Ng(c:List CK):∀{H:Hp} {a b:Nat} {x:sH c} {vs:List Value},(∀j,(bp c b x).get (b+j)≠none→h' (b+j)≠none→H (a+j)≠none∧ψ' (b+j)=ψ (a+j)) → aw Z ψ H w (aJ c a x) vs→aw Z ψ' h' w (aJ c b x) vs:=by
 induction c with
 |nil=>intro H a b x vs _ hr;simpa only[aJ,aw] using hr
 |cons k c ih =>
  intro H a b x vs hH hr
  cases k with
  |val k =>have uc:aw Z ψ H w (enc k x.1++aJ c (a+1) x.2) vs:=hr;obtain⟨us,ws,rfl,h1,h2⟩:=uc.split;show aw Z ψ' h' w (enc k x.1++aJ c (b+1) x.2) (us++ws);refine(h1.move (p:=fun _=>False) (fun _ h=>h) (cV.refl _ _) (fun _ hp _=>hp.elim) (nI _ k x.1)).append (ih (fun j hj bq=>?_) h2);have:=hH (j+1);rw[show b+(j+1)=b+1+j by omega,show a+(j+1)=a+1+j by omega]at this;exact this hj bq
  |own ok =>
   have uc:aw Z ψ H w (.bT a::aJ c (a+1) x.2) vs:=hr;simp only[aw]at uc;obtain⟨v,us,rfl,h1,h2⟩:=uc;show aw Z ψ' h' w (.bT b::aJ c (b+1) x.2) (v::us);simp only[aw];refine⟨v,us,rfl,?_,ih (fun j hj bq=>?_) h2⟩
   ·simp only[aD]at h1 ⊢;refine⟨h1.1,fun bq=>?_⟩;obtain⟨h3,h4⟩:=hH 0 (by simp[bp,Heap.get]) bq;rw[Nat.add_zero,Nat.add_zero]at h4;rw[h4];exact h1.2 h3
   ·have:=hH (j+1);rw[show b+(j+1)=b+1+j by omega,show a+(j+1)=a+1+j by omega]at this;refine this ?_ bq;have e:(bp (.own ok::c) b x).get (b+1+j)=(bp c (b+1) x.2).get (b+1+j):=by simp only[bp,Heap.get];rw[if_neg (by omega)]
    rw[e];exact hj
theorem Tx(rs:List RK):∀{H:Hp} {n m a b:Nat} {y:np rs} {vs:List Value},rs.all RK.plain=true→(∀j,(ar rs b y).get (b+j)≠none→h' (b+j)≠none→H (a+j)≠none∧ψ' (b+j)=ψ (a+j)) → aw Z ψ H w (bj rs [] n a y) vs→aw Z ψ' h' w (bj rs [] m b y) vs:=by
 induction rs with
 |nil=>intro H n m a b y vs _ _ hr;simpa only[bj,aw] using hr
 |cons r rs ih =>
  intro H n m a b y vs hp hH hr;have hpa:=hp;simp only[List.all_cons,Bool.and_eq_true]at hp;have hH':∀j,(ar rs (b+1) y.2).get (b+1+j)≠none→h' (b+1+j)≠none→H (a+1+j)≠none∧ψ' (b+1+j)=ψ (a+1+j):=fun j hj bq=>by have:=hH (j+1);rw[show b+(j+1)=b+1+j by omega,show a+(j+1)=a+1+j by omega]at this;exact this (X4 _ _ _ _ _ hj) bq
  cases r with
  |val k =>simp only[bj,aw]at hr ⊢;obtain⟨v,us,rfl,h1,h2⟩:=hr;exact⟨v,us,rfl,Tw h1,ih hp.2 hH' h2⟩
  |own ok =>simp only[bj,aw]at hr ⊢;obtain⟨v,us,rfl,h1,h2⟩:=hr;refine⟨v,us,rfl,?_,ih hp.2 hH' h2⟩;simp only[aD]at h1 ⊢;refine⟨h1.1,fun bq=>?_⟩;obtain⟨h3,h4⟩:=hH 0 (by simp[ar,Heap.get]) bq;rw[Nat.add_zero,Nat.add_zero]at h4;rw[h4];exact h1.2 h3
  |fW b c=>simp[RK.plain]at hp
  |agg c =>
   simp only[bj,aw]at hr ⊢;obtain⟨v,us,rfl,h1,h2⟩:=hr;refine⟨v,us,rfl,?_,ih hp.2 hH' h2⟩;simp only[aD]at h1 ⊢;obtain⟨ws,rfl,h3⟩:=h1;refine⟨ws,rfl,Ng c (fun j hj bq=>hH j ?_ bq) h3⟩;show Heap.get (bp c b y.1++ar rs (b+1) y.2) (b+j)≠none;rw[Heap.get_append]
   split
   ·simp
   ·rename_i Bb;exact absurd Bb hj
theorem wi{ZQ ZR:Nat→Value}{adJ adK:Hp}{adL adM:Nat→Prop}{l l':List AV}{V:Value}(hl:l.length=l'.length)(hm:∀vs,aw adL ZQ adJ w l vs→aw adM ZR adK w l' vs)(hr:aD adL ZQ adJ w (gq l) V):aD adM ZR adK w (gq l') V:=by
 match l,l',hl with
 |[a],[a'],_ =>
  simp only[gq]at hr ⊢;have:=hm [V] (by simp only[aw];exact⟨V,[],rfl,hr,rfl⟩);simp only[aw]at this;obtain⟨v,us,e,h1,_⟩:=this
  cases e;exact h1
 |[],[],_ =>simp only[gq,aD]at hr ⊢;obtain⟨us,rfl,h1⟩:=hr;exact⟨us,rfl,hm _ h1⟩
 |a::b::r,a'::b'::r',_ =>simp only[gq,aD]at hr ⊢;obtain⟨us,rfl,h1⟩:=hr;exact⟨us,rfl,hm _ h1⟩
theorem lp(rs:List RK):∀(ids:List Nat) (n m:Nat) (y:np rs),(bj rs ids n m y).length=rs.length:=by
 induction rs with
 |nil=>intros;rfl
 |cons r rs ih=>intro ids n m y;cases r<;>simp[bj,ih]
theorem Ci:∀(k:K) (x:k.T) (r:List AV),dec k (enc k x++r)=some (x,r)
 |.int _,x,r=>by simp only[enc,List.cons_append,List.nil_append,dec,H7,if_true];rfl
 |.bool,x,r=>by simp only[enc,List.cons_append,List.nil_append,dec,B8];rfl
 |.str,x,r=>by simp only[enc,List.cons_append,List.nil_append,dec,H8];rfl
 |.sl k,x,r=>by simp only[enc,List.cons_append,List.nil_append,dec,ON];rfl
 |.mp kk vk,x,r=>by simp only[enc,List.cons_append,List.nil_append,dec,OO];rfl
 |.pair a b,x,r=>by simp only[enc,dec,List.append_assoc];rw[Ci a x.1 (enc b x.2++r)];simp only[];rw[Ci b x.2 r];rfl
 |.one k,x,r=>by simp only[enc,dec];exact Ci k x r
theorem wj(k:K)(x:k.T):dZ k (enc k x)=some x:=by unfold dZ;have:=Ci k x [];rw[List.append_nil]at this;rw[this]
theorem wm:∀(k:K) (x:k.T),(cJ k x).cells=enc k x
 |.int _,_=>rfl
 |.bool,_=>rfl
 |.str,_=>rfl
 |.sl _,_=>rfl
 |.mp _ _,_=>rfl
 |.pair a b,x=>rfl
 |.one k,x=>rfl
theorem O2:∀(k:K) (x:k.T),cJ k x≠.no
 |.int _,_=>by simp[cJ]
 |.bool,_=>by simp[cJ]
 |.str,_=>by simp[cJ]
 |.sl _,_=>by simp[cJ]
 |.mp _ _,_=>by simp[cJ]
 |.pair a b,x=>by simp[cJ]
 |.one k,x=>by simp[cJ]
theorem Dx:∀(k:K) (x:k.T),(cJ k x).isAgg=k.isAgg
 |.int _,_=>rfl
 |.bool,_=>rfl
 |.str,_=>rfl
 |.sl _,_=>rfl
 |.mp _ _,_=>rfl
 |.pair a b,x=>rfl
 |.one k,x=>rfl
theorem QK{k:K}{x:k.T}{v:Value}(hr:aD Z ψ h w (cJ k x) v):aP Z w k x v.cells.toList:=by have h1:=hr.cells (O2 k x);rw[wm]at h1;exact eO (wj k x) h1
theorem Nh{k:K}{x:k.T}{v:Value}(hr:aD Z ψ h w (cJ k x) v):(k.isAgg=true→∃vs,v=.agg vs)∧(k.isAgg=false→v.cells=#[v]) :=⟨fun h=>Tn (by rw[Dx];exact h) hr,fun h=>GI (by rw[Dx];exact h) (O2 k x) hr⟩
theorem Ty(rs:List RK):∀{H:Hp} {n m a b:Nat} {y:np rs} {vs:List Value},rs.all RK.flat=true→rs.all RK.plain=true→aw Z ψ H w (bj rs [] n a y) vs→aw Z' ψ' h' w' (bj rs [] m b y) vs:=by
 induction rs with
 |nil=>intro H n m a b y vs _ _ hr;simpa only[bj,aw] using hr
 |cons r rs ih =>
  intro H n m a b y vs hf hp hr;simp only[List.all_cons,Bool.and_eq_true]at hp hf
  cases r with
  |val k =>simp only[bj,aw]at hr ⊢;obtain⟨v,us,rfl,h1,h2⟩:=hr;have hk:k.flat=true:=hf.1;obtain⟨h3,h4⟩:=Nh h1;exact⟨v,us,rfl,nt ((QK h1).flat hk) h3 h4,ih hf.2 hp.2 h2⟩
  |own ok=>simp[RK.flat]at hf
  |fW b c=>simp[RK.plain]at hp
  |agg c=>simp[RK.flat]at hf
theorem QL(rs:List RK):∀(a:Nat) (y:np rs),rs.all RK.flat=true→rs.all RK.plain=true→ar rs a y=[]:=by
 induction rs with
 |nil=>intros;rfl
 |cons r rs ih =>
  intro a y hf hp;simp only[List.all_cons,Bool.and_eq_true]at hp hf
  cases r with
  |val k=>simp only[ar];exact ih _ _ hf.2 hp.2
  |own ok=>simp[RK.flat]at hf
  |fW b c=>simp[RK.plain]at hp
  |agg c=>simp[RK.flat]at hf
theorem xy:∀(ps:List PK) (vs:List AV),dd ps vs=some []→∀v∈vs,∀id,AV.bT id∈v.cells→AV.bT id∈dV ps vs
 |[],vs,hi,v,hv,id,bQ=>by
  cases vs with
  |nil=>cases hv
  |cons a r=>simp[dd]at hi
 |p::ps,vs,hi,v,hv,id,bQ=>by
  obtain⟨a,r,rfl,vU,X3,abg,abh⟩:=A9 hi;rcases abi.1 hv with rfl|hv
  ·cases p with
   |val k=>simp only[dV];exact abn _ bQ
   |ref=>exact absurd rfl X3.1
   |own=>exact absurd rfl X3.2
   |JU f n=>rw[abg f n rfl]at bQ;simp[AV.cells]at bQ
   |agg n=>rw[abh n rfl]at bQ;simp[AV.cells]at bQ
  ·have:=xy ps r vU v hv id bQ
   cases p with
   |val k=>simp only[dV];exact abj _ this
   |ref=>exact absurd rfl X3.1
   |own=>exact absurd rfl X3.2
   |JU f n=>simpa only[dV] using this
   |agg n=>simpa only[dV] using this
theorem Dy(f:FuncId)(vs:List AV):vR f vs%1000=f%1000:=by
 induction vs with
 |nil=>rfl
 |cons v r ih =>
  cases v with
  |fn g cap=>exact Nat.add_mul_mod_self_left f 1000 _
  |_=>simp only[vR];exact ih
theorem zu{Sg:FuncId→Option aX}(f:FuncId)(vs:List AV):keyOf Sg f vs%1000=f%1000:=by
 unfold keyOf
 split
 ·exact(Nat.add_mul_mod_self_right (vR f vs) 500 1000).trans (Dy f vs)
 ·exact Dy f vs
theorem Next.imp{N':Nat→Prop}(n:Next Z ψ h w B0 O N Z' ψ' h' w')(hi:∀i,N i→N' i):Next Z ψ h w B0 O N' Z' ψ' h' w' :=⟨n.g6,n.fN,n.keep,fun id bQ=>(n.ids id bQ).imp (fun h=>h) (hi id),n.fi⟩
theorem zw{rs:List RK}{y:np rs}(hp:rs.all RK.plain=true){id nb:Nat}(g:Good Z ψ h w B0 O)(hB:B0≤w.heap.size) (bC:∀i ty cs,h i=some (.box ty cs)→aI (fun i=>¬N i) cs) (hN:∀j,j<rs.length+16→N (id+j)) (k:dF MN iq w w') (hz:∀b,Z b→Z' b) (C3:∀b,Z' b→Z b∨w.heap.size≤b) (gc:Good Z' ψ' (ar rs 3000 y).get w' w.heap.size (fun _=>False)) {v:Value} (hr:aD Z' ψ' (ar rs 3000 y).get w' (gq (bj rs [] 2000 3000 y)) v) :
  ∃wq,Next Z ψ h w B0 O N Z' wq (fun i=>match (ar rs id y).get i with|some o=>some o|none=>h i) w' ∧
   aD Z' wq (fun i=>match (ar rs id y).get i with|some o=>some o|none=>h i) w' (gq (bj rs [] nb id y)) v:=by
 classical
 let H:Hp:=fun i=>match (ar rs id y).get i with|some o=>some o|none=>h i
 let NN:Nat→Prop:=fun i=>(ar rs id y).get i≠none
 let wq:Nat→Value:=fun i=>if NN i then ψ' (3000+(i-id)) else ψ i
 have hNN:∀i,NN i→∃j,j<rs.length+16∧i=id+j:=fun i hi=>by have h1:¬i<id:=fun aH=>hi (ta rs id y i hp aH);have h2:¬id+rs.length+16≤i:=fun ZS=>hi (Kp rs id y i hp ZS);exact⟨i-id,by omega,by omega⟩
 have Bc:∀i,NN i→(ar rs 3000 y).get (3000+(i-id))=(ar rs id y).get i:=fun i hi=>by obtain⟨j,_,rfl⟩:=hNN i hi;rw[show id+j-id=j by omega];exact Kq rs 3000 id y j hp
 have hH:∀i,NN i→H i=(ar rs 3000 y).get (3000+(i-id)):=fun i hi=>by
  rw[Bc i hi];show(match (ar rs id y).get i with|some o=>some o|none=>h i)=_
  cases e:(ar rs id y).get i with
  |none=>exact absurd e hi
  |some o=>rfl
 have j0:∀i,NN i→wq i=ψ' (3000+(i-id)):=fun i hi=>if_pos hi;have adN:∀i,NN i→N i:=fun i hi=>by obtain⟨j,hj,rfl⟩:=hNN i hi;exact hN j hj
 have n:=Good.adI (N:=NN) (ψ':=wq) (h':=H) g k hz C3 gc.kN (fun i hi=>by
   have e:(ar rs id y).get i=none:=Classical.not_not.1 hi;refine⟨?_,if_neg hi⟩;show(match (ar rs id y).get i with|some o=>some o|none=>h i)=h i;rw[e])
  (fun i ty cs hb=>(bC i ty cs hb).imp (fun i hi hni=>hi (adN i hni)))
  (fun i ty cs hi hb=>by rw[hH i hi]at hb;exact xx _ _ _ _ _ _ hp hb)
  (fun i ok xs hi hb=>by rw[hH i hi]at hb;rw[j0 i hi];exact gc.row _ _ _ hb)
  (fun i b hi h1 h2=>by rw[hH i hi]at h1;rw[j0 i hi]at h2;obtain⟨h3,h4⟩:=gc.live _ b h1 h2;exact⟨h4.resolve_right (fun h=>h),h3⟩)
  (fun i i' b hi vU h1 h2 h3 h4=>by rw[hH i hi]at h1;rw[hH i' vU]at h2;rw[j0 i hi]at h3;rw[j0 i' vU]at h4;have:=gc.apart _ _ b h1 h2 h3 h4;obtain⟨j,_,rfl⟩:=hNN i hi;obtain⟨j',_,rfl⟩:=hNN i' vU;omega) hB
 refine⟨wq,n.imp adN,?_⟩;refine wi (by rw[lp,lp]) (fun vs vW=>?_) hr;refine Tx (h':=H) (ψ':=wq) rs (n:=2000) (a:=3000) hp (fun j hn bq=>?_) vW
 replace hn:NN (id+j):=hn
 have e1:=hH _ hn;have e2:=j0 _ hn;rw[show id+j-id=j by omega]at e1 e2;exact⟨by rw[←e1];exact bq,e2⟩
def kc(P:Program)(f:FuncId):Prop:=∃fn,P.funcs[f]? = some fn∧(fn.name== "runtime.NumGoroutine")=false∧fn.body.isSome=true
theorem kd{f:FuncId}(hc:kc P f)(args:Array Value):(callFunc f args).run P w=.ok (.enter f args) w:=by obtain⟨fn,h1,h2,h3⟩:=hc;obtain⟨c,hc⟩:=ab3.1 h3;simp[callFunc,h1,hc,show ¬fn.name= "runtime.NumGoroutine" by simpa using h2]
def ZT(P:Program)(ρC:Operand→Value)(o:Oper)(Z:Nat→Prop)(ψ:Nat→Value)(h:Hp)(w:World)(B0:Nat)(O N:Nat→Prop)(e:bU):Prop :=∃f args,(execOp ρC o).run P w=.ok (.enter f args) w∧Calls P f args w fun en w'=>∃V Z' ψ',en=.returned V∧Next Z ψ h w B0 O N Z' ψ' (e.hp h) w'∧aD Z' ψ' (e.hp h) w' e.v V
def db:(rs:List RK)→List AV→Nat→np rs→List A8
 |[],_,_,_=>[]
 |.own ok::r,vs,m,x=>(m,(qT (vs.headD .no)).head?,.own ok x.1)::db r vs.tail (m+1) x.2
 |.val _::r,vs,m,x=>db r vs.tail (m+1) x.2
 |.fW _ _::r,vs,m,x=>db r vs.tail (m+1) x.2
 |.agg c::r,vs,m,x=>eQ c m (vs.headD .no).cells x.1++db r vs.tail (m+1) x.2
theorem iC:∀(rs:List RK) (vs:List AV) (m:Nat) (x:np rs),eI (db rs vs m x)=ar rs m x
 |[],_,_,_=>rfl
 |.own ok::r,vs,m,x=>by simp only[db,ar];rw[←iC r vs.tail (m+1) x.2];rfl
 |.val _::r,vs,m,x=>iC r vs.tail (m+1) x.2
 |.fW _ _::r,vs,m,x=>iC r vs.tail (m+1) x.2
 |.agg c::r,vs,m,x=>by have e1:eI (eQ c m (vs.headD .no).cells x.1)=bp c m x.1:=oO c m _ x.1;have e2:=iC r vs.tail (m+1) x.2;simp only[db,ar];rw[oP,e2];exact congrArg (·++_) e1
theorem gT:∀(rs:List RK) (vs:List AV) (m:Nat) (x:np rs),(db rs vs m x).map (·.1)=bH rs m
 |[],_,_,_=>rfl
 |.own ok::r,vs,m,x=>by simp only[db,bH,List.map_cons];rw[gT r vs.tail (m+1) x.2]
 |.val _::r,vs,m,x=>gT r vs.tail (m+1) x.2
 |.fW _ _::r,vs,m,x=>gT r vs.tail (m+1) x.2
 |.agg c::r,vs,m,x=>by have e1:(eQ c m (vs.headD .no).cells x.1).map (·.1)=cK c m:=mE c m _ x.1;have e2:=gT r vs.tail (m+1) x.2;simp only[db,bH,List.map_append];rw[e2];exact congrArg (·++_) e1
theorem rf{bs:List BK}{k:K}{r:List RK}{hh:Heap}{ids:List Nat}{vs:List AV}{x:np (.val k::r)}(hd:bV bs (.val k::r) hh ids vs=some x):∃v jc,vs=v::jc∧hM k hh v=some x.1∧bV bs r hh ids jc=some x.2:=by
 cases vs with
 |nil=>cases hd
 |cons v vs =>
  have e:bV bs (.val k::r) hh ids (v::vs)=(match hM k hh v,bV bs r hh ids vs with
   |some x,some y=>some ((x,y):k.T×np r)
   |_,_=>none):=rfl
  rw[e]at hd;clear e;refine⟨v,vs,rfl,?_⟩;generalize hM k hh v=o1 at hd ⊢;generalize bV bs r hh ids vs=o2 at hd ⊢
  cases o1 with
  |none=>cases hd
  |some x1 =>
   cases o2 with
   |none=>cases hd
   |some y1=>have:=abZ hd;subst this;exact⟨rfl,rfl⟩
theorem rh{bs:List BK}{ok:OK}{r:List RK}{hh:Heap}{ids:List Nat}{vs:List AV}{x:np (.own ok::r)}(hd:bV bs (.own ok::r) hh ids vs=some x):∃v jc,vs=v::jc∧fg hh ok v=some x.1∧bV bs r hh ids jc=some x.2:=by
 cases vs with
 |nil=>cases hd
 |cons v vs =>
  have e:bV bs (.own ok::r) hh ids (v::vs)=(match fg hh ok v,bV bs r hh ids vs with
   |some x,some y=>some ((x,y):ok.T×np r)
   |_,_=>none):=rfl
  rw[e]at hd;clear e;refine⟨v,vs,rfl,?_⟩;generalize fg hh ok v=o1 at hd ⊢;generalize bV bs r hh ids vs=o2 at hd ⊢
  cases o1 with
  |none=>cases hd
  |some x1 =>
   cases o2 with
   |none=>cases hd
   |some y1=>have:=abZ hd;subst this;exact⟨rfl,rfl⟩
theorem oQ{bs:List BK}{b:Nat}{alts:List (Nat×Nat×Nat)}{r:List RK}{hh:Heap}{ids:List Nat}{vs:List AV}{x:np (.fW b alts::r)}(hd:bV bs (.fW b alts::r) hh ids vs=some x):∃v jc,vs=v::jc∧o9 bs hh ids b alts v=some x.1∧bV bs r hh ids jc=some x.2:=by
 cases vs with
 |nil=>cases hd
 |cons v vs =>
  have e:bV bs (.fW b alts::r) hh ids (v::vs)=(match o9 bs hh ids b alts v,bV bs r hh ids vs with
   |some x,some y=>some ((x,y):Option (Fin alts.length×Nat)×np r)
   |_,_=>none):=rfl
  rw[e]at hd;clear e;refine⟨v,vs,rfl,?_⟩;generalize o9 bs hh ids b alts v=o1 at hd ⊢;generalize bV bs r hh ids vs=o2 at hd ⊢
  cases o1 with
  |none=>cases hd
  |some x1 =>
   cases o2 with
   |none=>cases hd
   |some y1=>have:=abZ hd;subst this;exact⟨rfl,rfl⟩
theorem ri{bs:List BK}{c:List CK}{r:List RK}{hh:Heap}{ids:List Nat}{vs:List AV}{x:np (.agg c::r)}(hd:bV bs (.agg c::r) hh ids vs=some x):∃cs jc,vs=.agg cs::jc∧dk c hh cs=some x.1∧bV bs r hh ids jc=some x.2:=by
 cases vs with
 |nil=>cases hd
 |cons v vs =>
  have e:bV bs (.agg c::r) hh ids (v::vs)=(match CX c hh v,bV bs r hh ids vs with
   |some x,some y=>some ((x,y):sH c×np r)
   |_,_=>none):=rfl
  rw[e]at hd;clear e;have key:CX c hh v=some x.1∧bV bs r hh ids vs=some x.2:=by
   generalize CX c hh v=o1 at hd ⊢;generalize bV bs r hh ids vs=o2 at hd ⊢
   cases o1 with
   |none=>cases hd
   |some x1 =>
    cases o2 with
    |none=>cases hd
    |some y1=>have:=abZ hd;subst this;exact⟨rfl,rfl⟩
  obtain⟨h1,h2⟩:=key;unfold CX at h1
  split at h1
  ·exact⟨_,vs,rfl,h1,h2⟩
  ·cases h1
theorem je{bs:List BK}{hh:Heap}{ids:List Nat}:∀(rs:List RK) (vs:List AV) (x:np rs),bV bs rs hh ids vs=some x→vs.length=rs.length
 |[],[],_,_=>rfl
 |[],_::_,_,h=>by cases h
 |.val k::r,vs,x,h=>by obtain⟨v,jc,rfl,_,h2⟩:=rf h;simp[je r jc x.2 h2]
 |.own ok::r,vs,x,h=>by obtain⟨v,jc,rfl,_,h2⟩:=rh h;simp[je r jc x.2 h2]
 |.fW _ _::r,vs,x,h=>by obtain⟨v,jc,rfl,_,h2⟩:=oQ h;simp[je r jc x.2 h2]
 |.agg _::r,vs,x,h=>by obtain⟨v,jc,rfl,_,h2⟩:=ri h;simp[je r jc x.2 h2]
theorem jM{bs:List BK}{hh:Heap}{ids:List Nat}:∀(rs:List RK) (vs:List AV) (m:Nat) (x:np rs),bV bs rs hh ids vs=some x→(db rs vs m x).filterMap (·.2.1)=eX rs vs
 |[],vs,_,_,_=>by cases vs<;>rfl
 |.own ok::r,vs,m,x,h=>by obtain⟨v,jc,rfl,_,h2⟩:=rh h;simp only[db,eX,List.headD_cons,List.tail_cons];rw[eZ,jM r jc (m+1) x.2 h2];simp only[];rw[zr]
 |.val k::r,vs,m,x,h=>by obtain⟨v,jc,rfl,_,h2⟩:=rf h;simp only[db,eX,List.tail_cons];exact jM r jc (m+1) x.2 h2
 |.fW _ _::r,vs,m,x,h=>by obtain⟨v,jc,rfl,_,h2⟩:=oQ h;simp only[db,eX,List.tail_cons];exact jM r jc (m+1) x.2 h2
 |.agg c::r,vs,m,x,h=>by obtain⟨cs,jc,rfl,h1,h2⟩:=ri h;simp only[db,eX,List.headD_cons,List.tail_cons,AV.cells];have e1:(eQ c m cs x.1).filterMap (·.2.1)=gZ c cs:=q7 c m hh cs x.1 h1;rw[List.filterMap_append,jM r jc (m+1) x.2 h2];exact congrArg (·++_) e1
theorem kS{hd:Hp}{bs:List BK}{hh:Heap}{ids:List Nat}:∀(rs:List RK) (vs:List AV) (m:Nat) (x:np rs),bV bs rs hh ids vs=some x→(∀s∈eX rs vs,hd s=hh.get s)→∀e∈db rs vs m x,xw Z ψ hd w h' ψ' e
 |[],_,_,_,_,_,e,he=>by simp[db]at he
 |.own ok::r,vs,m,x,h,hk,e,he=>by
  obtain⟨v,jc,rfl,h1,h2⟩:=rh h;simp only[db,eX,List.headD_cons,List.tail_cons]at he hk;rcases abi.1 he with rfl|he
  ·exact O0 h1 fun s hs=>hk s (abn _ hs)
  ·exact kS r jc (m+1) x.2 h2 (fun s hs=>hk s (abj _ hs)) e he
 |.val k::r,vs,m,x,h,hk,e,he=>by obtain⟨v,jc,rfl,h1,h2⟩:=rf h;exact kS r jc (m+1) x.2 h2 hk e he
 |.fW _ _::r,vs,m,x,h,hk,e,he=>by obtain⟨v,jc,rfl,h1,h2⟩:=oQ h;exact kS r jc (m+1) x.2 h2 hk e he
 |.agg c::r,vs,m,x,h,hk,e,he=>by
  obtain⟨cs,jc,rfl,h1,h2⟩:=ri h;simp only[db,eX,List.headD_cons,List.tail_cons,AV.cells]at he hk;rcases abG.1 he with he|he
  ·exact uo c m cs x.1 h1 (fun s hs=>hk s (abn _ hs)) e he
  ·exact kS r jc (m+1) x.2 h2 (fun s hs=>hk s (abj _ hs)) e he
theorem zx{hh:Heap}{id:Nat}:∀(dW:List CK) (c n:Nat) (cs:List AV) (x:sH dW),dk dW hh cs=some x→hZ dW c=true→cs[oJ dW c]? = some (.bT id)→hh.get id≠none∧∃o,(n+c,some id,o)∈eQ dW n cs x
 |[],c,n,cs,x,_,h,_=>by simp[hZ]at h
 |.val k::r,0,n,cs,x,_,h,_=>by simp[hZ]at h
 |.val k::r,c+1,n,cs,x,hd,h,hc=>by obtain⟨_,h2⟩:=q6 hd;obtain⟨h3,o,h4⟩:=zx r c (n+1) (cs.drop k.sz) x.2 h2 (by simpa[hZ] using h) (by rw[List.getElem?_drop];simpa[oJ] using hc);exact⟨h3,o,by rw[show n+(c+1)=n+1+c by omega];exact h4⟩
 |.own ok::r,0,n,cs,x,hd,h,hc=>by
  obtain⟨c0,cs',rfl,h1,h2⟩:=nE hd;simp only[oJ,List.getElem?_cons_zero,Option.some.injEq]at hc;subst hc;rcases nF h1 with⟨h3,_⟩|⟨oE,h3,h4⟩
  ·cases h3
  ·cases h3
   exact⟨by rw[h4];simp,_,by simp only[eQ,List.headD_cons,qT,List.head?_cons];exact abo⟩
 |.own ok::r,c+1,n,cs,x,hd,h,hc=>by obtain⟨c0,cs',rfl,h1,h2⟩:=nE hd;obtain⟨h3,o,h4⟩:=zx r c (n+1) cs' x.2 h2 (by simpa[hZ] using h) (by simp only[oJ]at hc;rw[Nat.add_comm]at hc;simpa using hc);exact⟨h3,o,by rw[show n+(c+1)=n+1+c by omega];simp only[eQ,List.tail_cons];exact aa6 _ h4⟩
theorem Dz{hh:Heap}{id c:Nat}:∀(bs:List BK) (b n:Nat) (is is':List Nat) (x:yY bs) (bk:BK) (bi:Nat) (ty:TypeId) (cs:List AV),dD bs hh is=some x→is'.length=bs.length→bs[b]? = some bk→is[b]? = some bi→hh.get bi=some (.box ty cs) → hZ bk.dW c=true→cs[oJ bk.dW c]? = some (.bT id)→hh.get id≠none∧∃o,(n+16*b+c,some id,o)∈cY bs hh is is' n x
 |[],b,n,is,is',x,bk,bi,ty,cs,_,_,h,_,_,_,_=>by simp at h
 |b0::r,b,n,[],is',x,bk,bi,ty,cs,hd,_,_,_,_,_,_=>by cases hd
 |b0::r,b,n,i::is,[],x,bk,bi,ty,cs,_,hl,_,_,_,_,_=>by simp at hl
 |b0::r,0,n,i::is,i'::is',x,bk,bi,ty,cs,hd,hl,h1,h2,h3,h4,h5=>by
  obtain⟨g0,g3⟩:=gG hd;simp only[List.getElem?_cons_zero,Option.some.injEq]at h1 h2;subst h1;subst h2
  cases b0 with
  |own ok=>simp[BK.dW,hZ]at h4
  |box ty0 c0 =>
   obtain⟨cs',g1,g2⟩:=um g0;rw[g1]at h3
   cases h3
   obtain⟨h6,o,h7⟩:=zx c0 c n cs x.1 g2 h4 h5;refine⟨h6,o,?_⟩;simp only[cY,eY];rw[q8 g1];exact abn _ (aa6 _ (by simpa using h7))
 |b0::r,b+1,n,i::is,i'::is',x,bk,bi,ty,cs,hd,hl,h1,h2,h3,h4,h5=>by obtain⟨_,g3⟩:=gG hd;obtain⟨h6,o,h7⟩:=Dz r b (n+16) is is' x.2 bk bi ty cs g3 (by simpa using hl) (by simpa using h1) (by simpa using h2) h3 h4 h5;refine⟨h6,o,?_⟩;rw[show n+16*(b+1)+c=n+16+16*b+c by omega];simp only[cY];exact abj _ h7
theorem DA{c:List CK}{cs:List AV}{id s off:Nat}{a:Nat×Nat×Nat}(h:AT c cs id s off a=true):cs[oJ c a.1]? = some (.bT id)∧s=a.2.1∧off=a.2.2∧hZ c a.1=true:=by
 simp only[AT,Bool.and_eq_true,decide_eq_true_eq]at h;obtain⟨h1,h2,h3,h4⟩:=h;refine⟨?_,h2,h3,h4⟩;unfold S6 at h1
 split at h1
 ·rename_i e;rw[e];simp only[beq_iff_eq]at h1;rw[h1]
 ·cases h1
theorem QM{bs:List BK}{hh:Heap}{ids:List Nat}{b:Nat}{alts:List (Nat×Nat×Nat)}{v:AV}{x:Option (Fin alts.length×Nat)}(hd:o9 bs hh ids b alts v=some x):(v=.mB∧x=none) ∨ ∃id i a bi bk ty cs,v=.ref id (alts.get a).2.1 i (alts.get a).2.2∧x=some (a,i)∧ids[b]? = some bi∧bs[b]? = some bk∧hh.get bi=some (.box ty cs)∧cs[oJ bk.dW (alts.get a).1]? = some (.bT id)∧hZ bk.dW (alts.get a).1=true:=by
 unfold o9 at hd
 split at hd
 ·cases hd;exact .inl ⟨rfl,rfl⟩
 ·rename_i id s i off
  split at hd
  ·rename_i bi bk h1 h2
   split at hd
   ·rename_i ty cs h3
    split at hd
    ·rename_i a h4
     cases hd
     have h4':AT bk.dW cs id s off (alts.get a)=true:=by simpa using adi (p:=fun a=>AT bk.dW cs id s off (alts.get a)) h4
     obtain⟨h5,rfl,rfl,h6⟩:=DA h4';exact .inr ⟨id,i,a,bi,bk,ty,cs,rfl,rfl,h1,h2,h3,h5,h6⟩
    ·cases hd
   ·cases hd
  ·cases hd
 ·cases hd
theorem uu{bs:List BK}{hh:Heap}{ids is' ids2:List Nat}{nb:Nat}{yb:yY bs}(g:Good Z ψ hh.get w B0 O)(hz:∀b,Z b→Z' b)(hb:dD bs hh ids=some yb)(hl:is'.length=bs.length) (Tz:∀e∈cY bs hh ids is' nb yb,h' e.1≠none→ψ' e.1=kQ ψ e.2.1):∀(rs:List RK) (vs:List AV) (m:Nat) (x:np rs) (us:List Value),bV bs rs hh ids vs=some x →(∀id b,AV.bT id∈ig rs vs→hh.get id≠none→ob (ψ id)=some b→Z' b)→(∀e∈db rs vs m x,h' e.1≠none→ψ' e.1=kQ ψ e.2.1)→aw Z ψ hh.get w vs us→aw Z' ψ' h' w (bj rs ids2 nb m x) us
 |[],vs,m,x,us,hd,_,_,hr=>by have:=je [] vs x hd;have hv:vs=[]:=acf this;subst hv;simpa only[bj,aw] using hr
 |.val k::r,vs,m,x,us,hd,hf,j0,hr=>by obtain⟨v,jc,rfl,h1,h2⟩:=rf hd;simp only[aw]at hr;obtain⟨u,jU,rfl,h3,h4⟩:=hr;simp only[bj,aw];simp only[ig]at hf;exact⟨u,jU,rfl,ug g hz (fun id b bQ=>hf id b (abn _ bQ)) h1 h3,uu g hz hb hl Tz r jc (m+1) x.2 jU h2 (fun id b bQ=>hf id b (abj _ bQ)) j0 h4⟩
 |.own ok::r,vs,m,x,us,hd,hf,j0,hr=>by obtain⟨v,jc,rfl,h1,h2⟩:=rh hd;simp only[aw]at hr;obtain⟨u,jU,rfl,h3,h4⟩:=hr;simp only[bj,aw];simp only[db,List.headD_cons,List.tail_cons]at j0;exact⟨u,jU,rfl,Io h1 h3 (fun hn=>j0 _ abo hn),uu g hz hb hl Tz r jc (m+1) x.2 jU h2 hf (fun e he=>j0 e (aa6 _ he)) h4⟩
 |.fW b alts::r,vs,m,x,us,hd,hf,j0,hr=>by
  obtain⟨v,jc,rfl,h1,h2⟩:=oQ hd;simp only[aw]at hr;obtain⟨u,jU,rfl,h3,h4⟩:=hr;simp only[bj,aw];refine⟨u,jU,rfl,?_,uu g hz hb hl Tz r jc (m+1) x.2 jU h2 hf j0 h4⟩;rcases QM h1 with⟨rfl,h5⟩|⟨id,i,al,bi,bk,ty,cs,rfl,h5,h6,h7,h8,h9,ox⟩
  ·have:x.1=none:=h5;rw[this];simpa only[w8,aD] using h3
  ·have:x.1=some (al,i):=h5;rw[this];obtain⟨BR,o,ML⟩:=Dz bs b nb ids is' yb bk bi ty cs hb hl h7 h6 h8 ox h9;simp only[w8,aD]at h3 ⊢;obtain⟨ad,Xy,ZU⟩:=h3;refine⟨ad,Xy,fun hn=>?_⟩;rw[Tz _ ML hn,ZU BR];rfl
 |.agg c::r,vs,m,x,us,hd,hf,j0,hr=>by obtain⟨cs,jc,rfl,h1,h2⟩:=ri hd;simp only[aw]at hr;obtain⟨u,jU,rfl,h3,h4⟩:=hr;simp only[bj,aw];simp only[ig,AV.cells]at hf;simp only[db,List.headD_cons,List.tail_cons,AV.cells]at j0;refine⟨u,jU,rfl,?_,uu g hz hb hl Tz r jc (m+1) x.2 jU h2 (fun id b bQ=>hf id b (abj _ bQ)) (fun e he=>j0 e (abj _ he)) h4⟩;simp only[aD]at h3 ⊢;obtain⟨ws,rfl,h5⟩:=h3;exact⟨ws,rfl,uk g hz c m cs x.1 _ h1 (fun id b bQ=>hf id b (abn _ bQ)) (fun e he=>j0 e (abn _ he)) h5⟩
end Go.Vs
