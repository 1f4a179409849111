/- The value semantics is sound -/
import Derived.Test.YtpkfpbpbkabkdaaGreatEngineA
import Derived.Laws.StructEq
import Derived.Laws.Slices
import Derived.Laws.Strings
import Derived.MapKept
set_option linter.unusedSimpArgs false
set_option linter.unusedVariables false
namespace Go.Vs
variable {P:Program} {Z Z':Nat→Prop} {ψ ψ':Nat→Value} {h h':Hp} {w w':World} {B0:Nat} {O:Nat→Prop} {N:Nat→Prop}
def bW.hp(h:Hp):bW→Hp
 |.val _=>h
 |.new _ os=>fun i=>match Heap.get os i with
  |some o=>some o
  |none=>h i
 |.wr _ h'=>h'.get
theorem jC(id:Nat)(o:Ob)(h:Hp):(fun i=>match Heap.get [(id,o)] i with|some o=>some o|none=>h i)=fq h id (some o):=by
 funext i;simp only[Heap.get,fq];by_cases e:i=id
 ·subst e;simp
 ·rw[if_neg (fun x=>e x.symm),if_neg e]
theorem oM(hh:Heap)(id:Nat)(o:Ob):(hh.set id o).get=fq hh.get id (some o):=by
 funext i;by_cases e:i=id
 ·subst e;rw[Heap.Ij,bD]
 ·rw[Heap.M3 e,dH _ _ e]
theorem xq(hh:Heap)(id:Nat):(hh.del id).get=fq hh.get id none:=by
 funext i;by_cases e:i=id
 ·subst e;rw[Heap.iB,bD]
 ·rw[Heap.jA e,dH _ _ e]
theorem Dm(hh:Heap)(id:Nat)(o:Ob):Heap.get ((id,o)::hh)=fq hh.get id (some o):=by
 funext i;simp only[Heap.get,fq];by_cases e:i=id
 ·subst e;simp
 ·rw[if_neg (fun x=>e x.symm),if_neg e]
def iY(P:Program)(ρC:Operand→Value)(o:Oper)(Z:Nat→Prop)(ψ:Nat→Value)(h:Hp)(w:World)(B0:Nat)(O N:Nat→Prop)(e:bW):Prop :=∃V w' Z' ψ',((execOp ρC o).run P w=.ok (.value V) w'∨((execOp ρC o).run P w=.ok .skip w'∧V=undef))∧Next Z ψ h w B0 O N Z' ψ' (e.hp h) w'∧aD Z' ψ' (e.hp h) w' e.v V
theorem iY.val{ρC:Operand→Value}{o:Oper}{x:AV}(g:Good Z ψ h w B0 O){V:Value}(hr:(execOp ρC o).run P w=.ok (.value V) w)(hx:aD Z ψ h w x V):iY P ρC o Z ψ h w B0 O N (.val x) :=⟨V,w,Z,ψ,.inl hr,Next.refl g,hx⟩
theorem Tw{ty:TypeId}{k:K}{xs:List k.T}{id n:Nat}{x:k.T}(g:Good Z ψ h w B0 O)(hg:h id=some (.own (.row ty k) xs))(hx:xs[n]? = some x) :
  ∃gg us,XZ (ψ id)=gg∧aP Z w k x us∧∀(j:Nat) u,us[j]? = some u→w.cell? ⟨gg,n*k.sz+j,none⟩=some u:=by
 obtain⟨vs,ho,hv⟩:=g.row id (.row ty k) xs hg;have hn:n<xs.length:=(aa2.1 hx).1;obtain⟨hl,e⟩:=ho;rcases e with⟨h0,_⟩|⟨gg,cap,cur,e1,_,e3,_,_,_,e7⟩
 ·omega
 ·refine⟨gg,_,by rw[e1];rfl,hv n x hx,fun j u hu=>?_⟩;rw[List.getElem?_take]at hu
  split at hu
  ·rw[List.getElem?_drop,←e7,List.getElem?_take]at hu
   split at hu
   ·simp only[World.cell?,e3];simpa using hu
   ·cases hu
  ·cases hu
theorem v7{hh:Heap}(g:Good Z ψ h w B0 O)(bI:∀id o,hh.get id=some o→h id=some o){t:TypeId}{a:AV}{v:Value}{e:bW}(hv:aD Z ψ h w a v)(he:nr P hh t a some=some e) :
  ∃x V,e=.val x∧(Instr.loadAt t v).run P w=.ok V w∧aD Z ψ h w x V:=by
 unfold nr at he
 split at he
 ·rename_i id s i off;simp only[aD]at hv;obtain⟨a,rfl,ha⟩:=hv
  split at he
  ·rename_i ty cs hg;have Dn:=bI _ _ hg;have Kb:=ha (by rw[Dn];simp);obtain⟨gg,vs,e1,e2,e3,e4⟩:=g.box id ty cs Dn
   split at he
   ·rename_i hi;subst hi
    split at he
    ·rename_i x hx
     cases he
     rw[e1]at Kb;simp only[XZ,Nat.zero_mul,Nat.zero_add]at Kb;subst Kb;obtain⟨V,h1,h2⟩:=kP (a:=⟨gg,off,none⟩) (e3.drop off) (fun j u hu=>by rw[dm];simp only[World.cell?,e2];rw[List.getElem?_drop]at hu;simpa using hu) hx;exact⟨x,V,rfl,h1,h2⟩
    ·cases he
   ·cases he
  ·rename_i ty kk xs hg;have Dn:=bI _ _ hg;have Kb:=ha (by rw[Dn];simp)
   split at he
   ·rename_i hs;subst hs;obtain⟨x,hx,he⟩:=ac4.1 he
    split at he
    ·rename_i y hy
     cases he
     obtain⟨gg,us,h1,h2,h3⟩:=Tw g Dn hx;rw[h1]at Kb;subst Kb;obtain⟨V,h4,h5⟩:=kP (a:=⟨gg,i*kk.sz+off,none⟩) ((js (ψ:=ψ) (h:=h) h2).drop off) (fun j u hu=>by rw[dm,Nat.add_assoc];exact h3 _ _ (by rw[List.getElem?_drop]at hu;exact hu)) hy;exact⟨y,V,rfl,h4,h5⟩
    ·cases he
   ·cases he
  ·cases he
 ·rename_i kk x off
  split at he
  ·rename_i y hy
   cases he
   simp only[aD]at hv;obtain⟨a,us,rfl,_,h2,h3⟩:=hv;obtain⟨V,h4,h5⟩:=kP ((js (ψ:=ψ) (h:=h) h2).drop off) (fun j u hu=>h3 j u (by rw[List.getElem?_drop]at hu;exact hu)) hy;exact⟨y,V,rfl,h4,h5⟩
  ·cases he
 ·cases he
theorem pH{t e:TypeId}(he:AX P t=some e):P.underlying t=some (.slice e):=by
 unfold AX at he
 split at he
 ·cases he;assumption
 ·cases he
theorem pI{t e:TypeId}(ht:P.underlying t=some (.slice e)){i:TypeInfo}(hi:P.info? e=some i)(a:Addr)(n c:Nat)(k:IntKind)(j:Int)(h0:0≤j)(h1:j<n) :
  (Instr.indexAt t (.slice (some a) n c) (.int k j)).run P w=.ok (.pointer (some (a.add (j.toNat*P.cellsOf e)))) w:=by
 simp[Instr.indexAt,asIntOf,run_underlying ht,h0,h1,eE hi]
theorem QL{α:Type}{xs:List α}{i:Int}{x:α}(hx:bh xs i=some x):0≤i∧i<xs.length∧xs[i.toNat]? = some x:=by
 unfold bh at hx
 split at hx
 ·rename_i h0;have:=(aa2.1 hx).1;exact⟨h0,by omega,hx⟩
 ·cases hx
theorem sd{hh:Heap}(g:Good Z ψ h w B0 O)(bI:∀id o,hh.get id=some o→h id=some o){t:TypeId}{x i:AV}{v u:Value}{e:bW}(hv:aD Z ψ h w x v)(hu:aD Z ψ h w i u)(he:eC P hh t x i some=some e) :
  ∃y V,e=.val y∧(Instr.indexAt t v u).run P w=.ok V w∧aD Z ψ h w y V:=by
 unfold eC at he
 split at he
 ·cases he
 ·rename_i et het;have ht:=pH het
  ·skip
   split at he
   ·rename_i ex OZ xs ik n;simp only[aD]at hv hu;subst hu
    split at he
    ·rename_i hs;obtain⟨y,hy,he⟩:=ac4.1 he
     cases he
     obtain⟨h0,h1,h2⟩:=QL hy;obtain⟨hk,_⟩:=hv;simp only[aP]at hk;obtain⟨v',Dp,A,c,rfl,_,_,MN⟩:=hk
     cases Dp
     obtain⟨a,us,rfl,hz,hr,hc⟩:=MN _ _ h2;have hi:∃i,P.info? et=some i:=by
      cases hi:P.info? et with
      |some i=>exact⟨i,rfl⟩
      |none=>exfalso;have:=OZ.jz;simp[Program.cellsOf,hi]at hs;omega
     obtain⟨inf,hi⟩:=hi;refine⟨_,_,rfl,pI ht hi a xs.length c ik n h0 h1,?_⟩;simp only[aD];refine⟨_,us,rfl,by rw[gE];exact hz,hr,fun j u hu=>?_⟩;rw[xi,hs];exact hc j u (by simpa using hu)
    ·cases he
   ·rename_i id ik n
    split at he
    ·rename_i ty OZ xs hg;have Dn:=bI _ _ hg
     split at he
     ·rename_i hs
      cases Dl:(decide (0≤n)&&decide (n<(xs.length:Int))) with
      |false=>rw[Dl]at he;cases he
      |true =>
       rw[Dl]at he
       cases he
       simp only[Bool.and_eq_true,decide_eq_true_eq]at Dl;simp only[aD]at hv hu;subst hu;have hvv:=hv.2 (by rw[Dn];simp);obtain⟨vs,⟨_,e⟩,_⟩:=g.row id (.row ty OZ) xs Dn;rcases e with⟨h0,_⟩|⟨gg,cap,cur,e1,_,e3,_⟩
       ·omega
       ·have hi:∃i,P.info? et=some i:=by
         cases hi:P.info? et with
         |some i=>exact⟨i,rfl⟩
         |none=>exfalso;have:=OZ.jz;simp[Program.cellsOf,hi]at hs;omega
        obtain⟨inf,hi⟩:=hi;rw[hvv,e1];refine⟨_,_,rfl,pI ht hi _ xs.length cap ik n Dl.1 Dl.2,?_⟩;simp only[aD];refine⟨_,rfl,fun _=>?_⟩;rw[e1,hs,dm];simp[XZ]
     ·cases he
    ·cases he
   ·cases he
theorem vj{t:TypeId}(h:P.cellsOf t≠0):∃i,P.info? t=some i:=by
 cases hi:P.info? t with
 |some i=>exact⟨i,rfl⟩
 |none=>exact absurd (by simp[Program.cellsOf,hi]) h
theorem vl{t:TypeId}{f n:Nat}{ft:TypeId}(hf:iW P t f=some (n,ft))(hc:P.cellsOf ft≠0)(a:Addr) :
  (Instr.fieldAt t (.pointer (some a)) f).run P w=.ok (.pointer (some (a.add n))) w:=by
 unfold iW at hf
 split at hf
 ·rename_i fs ht;obtain⟨fd,hfd,he⟩:=ac5.1 hf
  cases he
  obtain⟨i,hi⟩:=vj hc;have hs:=eE (P:=P) (w:=w) hi;simp only[Instr.fieldAt,Sem.run_bind,run_underlying ht,Result.andThen_ok,hfd,Instr.sureAddr,Sem.run_pure,fieldPlace,hs];rw[if_neg hc];rfl
 ·cases hf
theorem vm{t:TypeId}{f n:Nat}{ft:TypeId}(hf:iW P t f=some (n,ft))(hc:P.cellsOf ft≠0){id s i off:Nat}{v:Value}(hv:aD Z ψ h w (.ref id s i off) v) :
  ∃V,(Instr.fieldAt t v f).run P w=.ok V w∧aD Z ψ h w (.ref id s i (off+n)) V:=by
 simp only[aD]at hv ⊢;obtain⟨a,rfl,ha⟩:=hv;refine⟨_,vl hf hc a,_,rfl,fun bR=>?_⟩;rw[ha bR,dm,Nat.add_assoc]
theorem xt{t:TypeId}{f n:Nat}{ft:TypeId}(hf:iW P t f=some (n,ft))(hc:P.cellsOf ft≠0){k:K}{x:k.T}{off:Nat}{v:Value}(hv:aD Z ψ h w (.fp k x off) v) :
  ∃V,(Instr.fieldAt t v f).run P w=.ok V w∧aD Z ψ h w (.fp k x (off+n)) V:=by
 simp only[aD]at hv ⊢;obtain⟨a,us,rfl,hz,hr,GL⟩:=hv;refine⟨_,vl hf hc a,_,us,rfl,by rw[gE];exact hz,hr,fun j u hu=>?_⟩;rw[xi];exact GL (n+j) u (by rw[←Nat.add_assoc];exact hu)
theorem Kj{t ft:TypeId}{f n:Nat}(hf:iW P t f=some (n,ft)){cs:List AV}{x:AV}{v:Value}(hv:aD Z ψ h w (.agg cs) v)(hx:fk P ft (cs.drop n)=some x) :
  ∃V,(Instr.field t v f).run P w=.ok V w∧aD Z ψ h w x V:=by
 simp only[aD]at hv;obtain⟨vs,rfl,hl⟩:=hv;have hd:=hl.drop n;have hlen:=hd.length;unfold iW at hf
 split at hf
 ·rename_i fs ht;obtain⟨fd,hfd,he⟩:=ac5.1 hf
  cases he
  unfold fk at hx
  split at hx
  ·rename_i hb
   split at hx
   ·rename_i hle
    cases hx
    obtain⟨i,hi⟩:=A4 hb;refine⟨.agg (vs.extract fd.offset (fd.offset+P.cellsOf fd.type)),?_,?_⟩
    ·simp[Instr.field,run_underlying ht,hfd,asAgg,part,il hb,eE hi]
    ·simp only[aD];refine⟨_,rfl,?_⟩;rw[Array.toList_extract,List.extract_eq_take_drop,Nat.add_sub_cancel_left];exact hd.take _
   ·cases hx
  ·rename_i hb
   split at hx
   ·rename_i c r hcr
    cases hx
    rw[hcr]at hd;simp only[ax]at hd;obtain⟨u,us,hu,h1,_⟩:=hd;refine⟨u,?_,h1⟩;have hg:vs[fd.offset]? = some u:=by
     have:(vs.toList.drop fd.offset)[0]? = some u:=by rw[hu];rfl
     rw[List.getElem?_drop]at this;simpa using this
    simp[Instr.field,run_underlying ht,hfd,asAgg,part,il hb,hg]
   ·cases hx
  ·cases hx
 ·cases hf
theorem QM{hh:Heap}(g:Good Z ψ h w B0 O)(bI:∀id o,hh.get id=some o→h id=some o){x:AV}{v:Value}{e:bW}(hv:aD Z ψ h w x v)(he:GH hh x some=some e) :
  ∃n:Nat,e=.val (.int .i64 (n:Int))∧((∃s,x=.str s∧v=.string s∧n=s.size)∨∃A c,v=.slice A n c):=by
 unfold GH at he
 split at he
 ·rename_i s hs
  cases he
  have hx:x=.str s:=by
   cases x with
   |bV id=>simp only[di]at hs;split at hs<;>cases hs
   |str s'=>simp only[di]at hs;exact hs
   |_=>simp only[di]at hs<;>cases hs
  subst hx;simp only[aD]at hv;exact⟨_,rfl,.inl ⟨s,rfl,hv,rfl⟩⟩
 ·rename_i ex k xs hs
  cases he
  have Tx:=GK (Z':=fun b=>Z b∨Own ψ h b) (g.sub bI) (fun b hb=>.inl hb) (fun id b _ bq hb=>.inr (by obtain⟨o,ho⟩:=abN.1 bq;exact⟨id,by rw[bI id o ho];simp,hb⟩)) (hv.ss bI);rw[hs]at Tx;simp only[aD,aP]at Tx;obtain⟨⟨v',Dp,A,c,rfl,_⟩,_⟩:=Tx
  cases Dp
  exact⟨_,rfl,.inr ⟨A,c,rfl⟩⟩
 ·rename_i hs
  cases he
  have hx:x=.ib:=by
   cases x with
   |bV id=>simp only[di]at hs;split at hs<;>cases hs
   |ib=>rfl
   |_=>simp only[di]at hs<;>cases hs
  subst hx;simp only[aD]at hv;exact⟨0,rfl,.inr ⟨_,_,hv⟩⟩
 ·cases he
def fG(Z:Nat→Prop)(ψ:Nat→Value)(h:Hp)(w:World):Option AV→Option Value→Prop
 |none,none=>True
 |some a,some v=>aD Z ψ h w a v
 |_,_=>False
theorem cM(k:IntKind)(i:Int)(y:Nat)(code:BoundsCode)(h0:0≤i)(h1:i≤y):(Instr.sliceBound (.int k i) y code).run P w=.ok i.toNat w:=by simp[Instr.sliceBound,asIntOf,h0,h1]
theorem wa{b:Bool}{n c:Nat}(hc:n≤c){lo hi mx:Option AV}{O6 vW mx':Option Value}{l u:Int}(h1:fG Z ψ h w lo O6)(h2:fG Z ψ h w hi vW)(h3:fG Z ψ h w mx mx') (hb:p6 n lo hi=some (l,u)) (ho:bu n l u=true) (hm:mx=none∨(mx=some (.int .i64 u)∧hi≠none)) :
  (Instr.sliceBounds b n c O6 vW mx').run P w=.ok (l.toNat,u.toNat,if mx=none then c else u.toNat) w:=by
 simp only[bu,Bool.and_eq_true,decide_eq_true_eq]at ho;obtain⟨h4,h5,h6⟩:=ho;have huc:u≤(c:Int):=by omega
 unfold p6 at hb;rcases hm with rfl|⟨rfl,bq⟩
 ·cases mx' with
  |some _=>exact h3.elim
  |none =>
   split at hb
   all_goals first|(cases hb;done)|skip
   ·cases hb
    cases O6 with
    |some _=>exact h1.elim
    |none =>
     cases vW with
     |some _=>exact h2.elim
     |none=>simp[Instr.sliceBounds]
   ·cases hb
    cases O6 with
    |none=>exact h1.elim
    |some v =>
     simp only[fG,aD]at h1;subst h1
     cases vW with
     |some _=>exact h2.elim
     |none=>simp[Instr.sliceBounds,cM .i64 l n _ h4 h5]
   ·cases hb
    cases O6 with
    |some _=>exact h1.elim
    |none =>
     cases vW with
     |none=>exact h2.elim
     |some v =>
      simp only[fG,aD]at h2;subst h2
      cases b<;>simp[Instr.sliceBounds,cM .i64 u c _ (by omega) huc]
   ·cases hb
    cases O6 with
    |none=>exact h1.elim
    |some v =>
     simp only[fG,aD]at h1;subst h1
     cases vW with
     |none=>exact h2.elim
     |some v =>
      simp only[fG,aD]at h2;subst h2;have hx:l≤((u.toNat:Nat):Int):=by omega
      cases b<;>simp[Instr.sliceBounds,cM .i64 u c _ (by omega) huc,cM .i64 l u.toNat _ h4 hx]
 ·cases mx' with
  |none=>exact h3.elim
  |some m =>
   simp only[fG,aD]at h3;subst h3;have huu:u≤((u.toNat:Nat):Int):=by omega
   have hx:l≤((u.toNat:Nat):Int):=by omega
   split at hb
   all_goals first|(cases hb;done)|skip
   ·exact absurd rfl bq
   ·exact absurd rfl bq
   ·cases hb
    cases O6 with
    |some _=>exact h1.elim
    |none =>
     cases vW with
     |none=>exact h2.elim
     |some v =>
      simp only[fG,aD]at h2;subst h2
      cases b<;>simp[Instr.sliceBounds,cM .i64 u c _ (by omega) huc,cM .i64 u u.toNat _ (by omega) huu]
   ·cases hb
    cases O6 with
    |none=>exact h1.elim
    |some v =>
     simp only[fG,aD]at h1;subst h1
     cases vW with
     |none=>exact h2.elim
     |some v =>
      simp only[fG,aD]at h2;subst h2
      cases b<;>simp[Instr.sliceBounds,cM .i64 u c _ (by omega) huc,cM .i64 u u.toNat _ (by omega) huu,cM .i64 l u.toNat _ h4 hx]
theorem Dq{t e:TypeId}(ht:P.underlying t=some (.slice e)){kk:K}(jV:P.cellsOf e=kk.sz){xs:List kk.T}{v:Value}(hr:aP Z w (.sl kk) xs [v]){lo hi mx:Option AV}{O6 vW mx':Option Value}{l u:Int} (h1:fG Z' ψ h w lo O6) (h2:fG Z' ψ h w hi vW) (h3:fG Z' ψ h w mx mx') (hb:p6 xs.length lo hi=some (l,u)) (ho:bu xs.length l u=true) (hm:mx=none∨(mx=some (.int .i64 u)∧hi≠none)) :
  ∃V,(Instr.sliceAt t v O6 vW mx').run P w=.ok V w∧aP Z w (.sl kk) (cut xs l u) [V]∧(mx≠none→∃A c,V=.slice A c c):=by
 simp only[aP]at hr;obtain⟨v',Dp,A,c,rfl,hl,hn,MN⟩:=hr
 cases Dp
 have ep:=wa (P:=P) (w:=w) (b:=true) hl h1 h2 h3 hb ho hm;simp only[bu,Bool.and_eq_true,decide_eq_true_eq]at ho;obtain⟨h4,h5,h6⟩:=ho;obtain⟨i,hi⟩:=vj (P:=P) (t:=e) (by have:=kk.jz;omega);generalize O7:(if mx=none then c else u.toNat)=m at ep;have SR:u.toNat≤m:=by
  rcases hm with rfl|⟨rfl,_⟩
  ·simp at O7;omega
  ·simp at O7;omega
 have hmc:m≤c:=by
  rcases hm with rfl|⟨rfl,_⟩
  ·simp at O7;omega
  ·simp at O7;omega
 have uf:(cut xs l u).length=u.toNat-l.toNat:=by unfold cut;rw[List.length_drop,List.length_take];omega
 refine⟨.slice (if m=l.toNat then A else A.map (·.add (l.toNat*P.cellsOf e))) (u.toNat-l.toNat) (m-l.toNat),?_,?_,?_⟩
 ·simp[Instr.sliceAt,Instr.slice,run_underlying ht,ep,eE hi]
 ·simp only[aP];refine⟨_,rfl,_,_,by rw[uf],by rw[uf];omega,fun hA=>?_,fun j x hx=>?_⟩
  ·split at hA
   ·have:=hn hA;omega
   ·cases A with
    |none=>have:=hn rfl;omega
    |some a=>cases hA
  ·have hj:j<u.toNat-l.toNat:=by rw[←uf];exact(aa2.1 hx).1
   have hx':xs[l.toNat+j]? = some x:=by unfold cut at hx;rw[List.getElem?_drop,List.getElem?_take,if_pos (by omega)]at hx;exact hx
   obtain⟨a,us,rfl,hz,hr,hc⟩:=MN _ _ hx';refine⟨a.add (l.toNat*P.cellsOf e),us,by rw[if_neg (by omega)];rfl,by rw[gE];exact hz,hr,fun q y hy=>?_⟩;rw[xi,jV];have:=hc q y hy;rw[Nat.add_mul]at this;rw[←Nat.add_assoc];exact this
 ·intro bq;rcases hm with rfl|⟨rfl,_⟩
  ·exact absurd rfl bq
  ·simp at O7;exact⟨_,_,by rw[←O7]⟩
theorem Kk{hh:Heap}(g:Good Z ψ h w B0 O)(_:∀id o,hh.get id=some o→h id=some o){t e:TypeId}(ht:P.underlying t=some (.slice e)){x:AV}{v:Value}{lo hi mx:Option AV}{O6 vW mx':Option Value}{ef:bW} (hv:aD Z ψ h w x v) (h1:fG Z ψ h w lo O6) (h2:fG Z ψ h w hi vW) (h3:fG Z ψ h w mx mx') (mU:∀y hw,ef=.wr y hw→hh.get=h) (he:qU hh (P.cellsOf e) x lo hi mx some=some ef) (X5:(P.info? e).isSome=true) :
  ∃V Z',(Instr.sliceAt t v O6 vW mx').run P w=.ok V w∧Next Z ψ h w B0 O N Z' ψ (ef.hp h) w∧aD Z' ψ (ef.hp h) w ef.v V:=by
 unfold qU at he
 split at he
 ·
  simp only[aD]at hv;subst hv
  split at he
  ·rename_i l u hb
   cases ho:bu 0 l u with
   |false=>rw[ho]at he;cases he
   |true =>
    rw[ho]at he
    cases he
    have ep:=wa (P:=P) (w:=w) (b:=true) (ack 0) h1 h2 h3 hb ho (.inl rfl);simp only[bu,Bool.and_eq_true,decide_eq_true_eq]at ho;have hl0:l.toNat=0:=by omega
    have hu0:u.toNat=0:=by omega
    obtain⟨i,hi⟩:=abC.1 X5;refine⟨.slice none 0 0,Z,?_,Next.refl g,by simp only[bW.v,aD]⟩;rw[hl0,hu0]at ep;simp[Instr.sliceAt,Instr.slice,run_underlying ht,ep,eE hi]
  ·cases he
 ·
  rename_i ex kk xs;simp only[aD]at hv
  split at he
  ·rename_i jV
   split at he
   ·rename_i l u hb
    split at he
    ·cases ho:bu xs.length l u with
     |false=>rw[ho]at he;cases he
     |true =>
      rw[ho]at he
      cases he
      obtain⟨V,h4,h5,_⟩:=Dq (P:=P) ht jV hv.1 h1 h2 h3 hb ho (.inl rfl);exact⟨V,Z,h4,Next.refl g,by simp only[bW.v,bW.hp,aD];exact⟨h5,by simp⟩⟩
    ·rename_i m
     cases ho:(bu xs.length l u&&(hi.isSome&&decide (m=u))) with
     |false=>rw[ho]at he;cases he
     |true =>
      rw[ho]at he
      cases he
      simp only[Bool.and_eq_true,decide_eq_true_eq]at ho;obtain⟨ho,hhi,rfl⟩:=ho;obtain⟨V,h4,h5,h6⟩:=Dq (P:=P) ht jV hv.1 h1 h2 h3 hb ho (.inr ⟨rfl,by intro e;rw[e]at hhi;cases hhi⟩);exact⟨V,Z,h4,Next.refl g,by simp only[bW.v,bW.hp,aD];exact⟨h5,fun _=>h6 (by simp)⟩⟩
    ·cases he
   ·cases he
  ·cases he
 ·cases he
def nD(P:Program)(t:TypeId)(k:K):Prop :=∀(Z:Nat→Prop) (w:World) (x y:k.T) (xs ys:Array Value),aP Z w k x xs.toList→aP Z w k y ys.toList →(Op.equal t (.agg xs) (.agg ys)).run P w=.ok (tV k x y) w∧(∀(op:BinOp) (a b:Operand),(eqGuard op t a b (.agg xs) (.agg ys)).run P w=.ok () w)∧∀e:Bool,(Instr.checkKey e 10000 t (.agg xs)).run P w=.ok () w
theorem zo(op:BinOp)(t:TypeId)(a b:Operand)(k k':IntKind)(x y:Int):(eqGuard op t a b (.int k x) (.int k' y)).run P w=.ok () w:=by cases op<;>simp[eqGuard]
theorem QN(op:BinOp)(t:TypeId)(a b:Operand)(x y:ByteArray):(eqGuard op t a b (.string x) (.string y)).run P w=.ok () w:=by cases op<;>simp[eqGuard]
theorem M9(op:BinOp)(t:TypeId)(a b:Operand)(x y:Bool):(eqGuard op t a b (.bool x) (.bool y)).run P w=.ok () w:=by cases op<;>simp[eqGuard]
theorem GO(op:BinOp)(t:TypeId)(a b:Operand)(x y:Option Addr):(eqGuard op t a b (.pointer x) (.pointer y)).run P w=.ok () w:=by cases op<;>simp[eqGuard]
def cr:AV→Value
 |.bool b=>.bool b
 |.int k n=>.int k n
 |.str s=>.string s
 |_=>undef
theorem kQ(k:IntKind)(n:Int):aD Z ψ h w (.int k n) (cr (.int k n)):=by simp only[aD,cr]
theorem fH(b:Bool):aD Z ψ h w (.bool b) (cr (.bool b)):=by simp only[aD,cr]
theorem lp{t e:TypeId}(ht:P.underlying t=some (.pointer e))(a:Option Addr):(Op.equal t (.pointer a) (.pointer none)).run P w=.ok a.isNone w:=by
 have key:∀d,(Op.equalIn (d+1) t (.pointer a) (.pointer none)).run P w=.ok a.isNone w:=fun d=>by cases a<;>simp[Op.equalIn,run_underlying ht]
 exact key 9999
theorem Ty{op:BinOp}{t:TypeId}{k:IntKind}{a b:Int}{v:AV}(hv:aa9 op k a b=some v):∃V,(binOp op t (.int k a) (.int k b)).run P w=.ok V w∧aD Z ψ h w v V:=by
 cases op<;>simp only[aa9]at hv<;>cases hv<;>first
  |(refine⟨cr (.int _ _),?_,kQ _ _⟩;simp[binOp,Op.intArith,Op.intCmp,cr];done)
  |(refine⟨cr (.bool _),?_,fH _⟩;simp[binOp,Op.intArith,Op.intCmp,cr];done)
  |(refine⟨cr (.int _ _),?_,kQ _ _⟩;simp only[binOp,cr,ne_eq,not_true_eq_false,if_false];rfl)
theorem QO{Eqs:TypeId→Option K}(FY:∀t k,Eqs t=some k→nD P t k){op:BinOp}{t:TypeId}{xo yo:Operand}{x y:AV}{u v:Value}{e:bW}(hu:aD Z ψ h w x u)(hv:aD Z ψ h w y v)(he:AY P Eqs op t x y some=some e) :
  ∃r V,e=.val r∧((do eqGuard op t xo yo u v;binOp op t u v:Sem Value)).run P w=.ok V w∧aD Z ψ h w r V:=by
 unfold AY at he
 split at he
 ·rename_i k a k' b;simp only[aD]at hu hv;subst hu;subst hv
  split at he
  ·cases hb:decide (b<0) with
   |true=>rw[hb]at he;cases he
   |false =>
    rw[hb]at he;cases he;have hb':¬b<0:=by simpa using hb
    exact⟨_,cr (.int _ _),rfl,by simp[zo,binOp,Op.shift,hb',cr,J7],kQ _ _⟩
  ·cases hb:decide (b<0) with
   |true=>rw[hb]at he;cases he
   |false =>
    rw[hb]at he;cases he;have hb':¬b<0:=by simpa using hb
    exact⟨_,cr (.int _ _),rfl,by simp[zo,binOp,Op.shift,hb',cr,mD],kQ _ _⟩
  split at he
  ·rename_i hk;subst hk;simp only[Sem.run_bind,zo,Result.andThen_ok]
   split at he
   ·cases hb:(b==0) with
    |true=>rw[hb]at he;cases he
    |false =>
     rw[hb]at he;cases he;have hb':b≠0:=by simpa using hb
     exact⟨_,cr (.int _ _),rfl,by simp[binOp,Op.intDiv,hb',cr],kQ _ _⟩
   ·cases hb:(b==0) with
    |true=>rw[hb]at he;cases he
    |false =>
     rw[hb]at he;cases he;have hb':b≠0:=by simpa using hb
     exact⟨_,cr (.int _ _),rfl,by simp[binOp,Op.intDiv,hb',cr],kQ _ _⟩
   ·split at he
    ·rename_i v hv
     cases he
     obtain⟨V,h1,h2⟩:=Ty (P:=P) (t:=t) (w:=w) (Z:=Z) (ψ:=ψ) (h:=h) hv;exact⟨_,V,rfl,h1,h2⟩
    ·cases he
  ·cases he
 ·rename_i a b;simp only[aD]at hu hv;subst hu;subst hv;simp only[Sem.run_bind,QN,Result.andThen_ok]
  cases op<;>simp only[adz]at he<;>first|(cases he;done)|(cases he;exact⟨_,cr (.bool _),rfl,by simp[binOp,Op.stringOp,←beq_toListBytes,cr],fH _⟩)
 ·rename_i a b;simp only[aD]at hu hv;subst hu;subst hv;simp only[Sem.run_bind,M9,Result.andThen_ok];have key:(P.underlying t).map Ig=some true→P.underlying t=some .bool:=fun hm=>by
   obtain⟨d,hd,he⟩:=ac5.1 hm
   cases d<;>simp[Ig]at he
   exact hd
  split at he
  ·rename_i hm
   cases he
   exact⟨_,cr (.bool _),rfl,by simp[binOp,Op.equal,Op.maxDepth,run_equalIn_bool' (P:=P) w 9999 t a b (key hm),cr],fH _⟩
  ·rename_i hm
   cases he
   exact⟨_,cr (.bool _),rfl,by simp[binOp,Op.equal,Op.maxDepth,run_equalIn_bool' (P:=P) w 9999 t a b (key hm),cr],fH _⟩
  ·cases he
 ·rename_i a b
  split at he
  ·cases he
  ·rename_i k hk;simp only[aD]at hu hv;obtain⟨xs,rfl,hx⟩:=hu;obtain⟨ys,rfl,hy⟩:=hv
   split at he
   ·rename_i x y hdx hdy
    cases he
    obtain⟨h1,h2,_⟩:=FY t k hk Z w x y xs ys (eO hdx hx) (eO hdy hy);exact⟨_,cr (.bool _),rfl,by simp only[Sem.run_bind,h2,Result.andThen_ok,binOp,h1,Sem.run_pure,cr],fH _⟩
   ·rename_i x y hdx hdy
    cases he
    obtain⟨h1,h2,_⟩:=FY t k hk Z w x y xs ys (eO hdx hx) (eO hdy hy);exact⟨_,cr (.bool _),rfl,by simp only[Sem.run_bind,h2,Result.andThen_ok,binOp,h1,Sem.run_pure,cr],fH _⟩
   ·cases he
 ·simp only[aD]at hu hv;subst hu;subst hv;have key:(P.underlying t).map zi=some true→∃e,P.underlying t=some (.pointer e):=fun hm=>by
   obtain⟨d,hd,he⟩:=ac5.1 hm
   cases d<;>simp[zi]at he
   exact⟨_,hd⟩
  simp only[Sem.run_bind,GO,Result.andThen_ok]
  split at he
  ·rename_i hm
   cases he
   obtain⟨et,ht⟩:=key hm;exact⟨_,cr (.bool _),rfl,by simp only[binOp,Sem.run_bind,lp ht,Result.andThen_ok,Sem.run_pure,cr,Option.isNone_none,Option.isNone_some,Bool.not_true,Bool.not_false],fH _⟩
  ·rename_i hm
   cases he
   obtain⟨et,ht⟩:=key hm;exact⟨_,cr (.bool _),rfl,by simp only[binOp,Sem.run_bind,lp ht,Result.andThen_ok,Sem.run_pure,cr,Option.isNone_none,Option.isNone_some,Bool.not_true,Bool.not_false],fH _⟩
  ·cases he
 ·simp only[aD]at hu hv;obtain⟨a,rfl,_⟩:=hu;subst hv;have key:(P.underlying t).map zi=some true→∃e,P.underlying t=some (.pointer e):=fun hm=>by
   obtain⟨d,hd,he⟩:=ac5.1 hm
   cases d<;>simp[zi]at he
   exact⟨_,hd⟩
  simp only[Sem.run_bind,GO,Result.andThen_ok]
  split at he
  ·rename_i hm
   cases he
   obtain⟨et,ht⟩:=key hm;exact⟨_,cr (.bool _),rfl,by simp only[binOp,Sem.run_bind,lp ht,Result.andThen_ok,Sem.run_pure,cr,Option.isNone_none,Option.isNone_some,Bool.not_true,Bool.not_false],fH _⟩
  ·rename_i hm
   cases he
   obtain⟨et,ht⟩:=key hm;exact⟨_,cr (.bool _),rfl,by simp only[binOp,Sem.run_bind,lp ht,Result.andThen_ok,Sem.run_pure,cr,Option.isNone_none,Option.isNone_some,Bool.not_true,Bool.not_false],fH _⟩
  ·cases he
 ·cases he
theorem QP{a:AV}{v:Value}(hp:ze a=true)(hr:aD Z ψ h w a v):v.oneCell'=true:=by
 cases a with
 |no=>cases hp
 |agg cs=>cases hp
 |pe cs=>cases hp
 |bool b=>simp only[aD]at hr;subst hr;rfl
 |int k n=>simp only[aD]at hr;subst hr;rfl
 |str s=>simp only[aD]at hr;subst hr;rfl
 |mC=>simp only[aD]at hr;subst hr;rfl
 |ib=>simp only[aD]at hr;subst hr;rfl
 |ref id s i off=>simp only[aD]at hr;obtain⟨a,rfl,_⟩:=hr;rfl
 |fp k x off=>simp only[aD]at hr;obtain⟨a,us,rfl,_⟩:=hr;rfl
 |sl ex k xs=>simp only[aD,aP]at hr;obtain⟨⟨v',hv,A,c,rfl,_⟩,_⟩:=hr;cases hv;rfl
 |bV id=>simp only[aD]at hr;exact hr.1.2
 |mp kk vk es=>simp only[aD,aP]at hr;obtain⟨A,hv,_⟩:=hr;cases hv;rfl
 |fn f cap=>simp only[aD]at hr;obtain⟨vs,rfl,_⟩:=hr;rfl
theorem wb:∀{cs:List AV} {vs:List Value},cs.all ze=true→ax Z ψ h w cs vs→∀u∈vs,u.oneCell'=true
 |[],_,_,hr,u,hu=>by simp only[ax]at hr;subst hr;simp at hu
 |c::r,_,hp,hr,u,hu=>by
  simp only[List.all_cons,Bool.and_eq_true]at hp;simp only[ax]at hr;obtain⟨v,us,rfl,h1,h2⟩:=hr;rcases abd.1 hu with rfl|hu
  ·exact QP hp.1 h1
  ·exact wb hp.2 h2 u hu
theorem Kl{a:AV}(hp:a.cells.all ze=true):a≠.no:=by rintro rfl;simp[AV.cells,ze]at hp
theorem ug{id:Nat}:∀{cs:List AV},MW id cs=true→AV.bV id∉cs
 |[],_=>by simp
 |c::r,hn=>by
  intro hm
  cases c with
  |bV i =>
   simp only[MW,Bool.and_eq_true,Bool.not_eq_true',beq_eq_false_iff_ne]at hn;rcases abd.1 hm with e|hm
   ·cases e;exact hn.1 rfl
   ·exact ug hn.2 hm
  |_ =>
   simp only[MW]at hn;rcases abd.1 hm with e|hm
   ·cases e
   ·exact ug hn hm
theorem Ba{hh:Heap}(g:Good Z ψ hh.get w B0 O){t:TypeId}{a x:AV}{u v:Value}{e:bW}(hu:aD Z ψ hh.get w a u)(hv:aD Z ψ hh.get w x v)(he:tW P hh t a x some=some e) :
  ∃hw w' Z',e=.wr .no hw∧(Instr.storeAt t u v).run P w=.ok () w'∧Next Z ψ hh.get w B0 O N Z' ψ hw.get w':=by
 unfold tW at he
 split at he
 ·rename_i hc;obtain⟨hlen,X6,s8⟩:=hc;obtain⟨inf,X6⟩:=abC.1 X6;have SP:=hv.cells (Kl s8);have ta:=wb s8 SP;have uf:=SP.length;simp only[Array.length_toList]at uf
  split at he
  ·rename_i id s i off;simp only[aD]at hu;obtain⟨a,rfl,ha⟩:=hu
   split at he
   ·rename_i ty cs hg
    split at he
    ·rename_i hc;obtain⟨rfl,adJ⟩:=hc
     cases he
     have Kb:=ha (by rw[hg];simp);obtain⟨w',h1,h2⟩:=Dd (P:=P) (N:=N) g hg X6 SP ta (by omega) adJ (a:=a) (by rw[Kb];simp);exact⟨_,w',Z,rfl,h1,by rw[oM];exact h2⟩
    ·cases he
   ·rename_i ty kk xs hg;obtain⟨y,hx,XC⟩:=ac4.1 he;clear he
    split at XC
    ·rename_i hc;obtain⟨rfl,adJ,su⟩:=hc
     split at XC
     ·rename_i z hz
      cases XC
      have Kb:=ha (by rw[hg];simp);have bR:=ug su;have gd:=jB g x.cells;have hgd:(dg hh x.cells).get id=some (.own (.row ty kk) xs):=by rw[qZ _ _ _ bR];exact hg
      have abj:=qf (Z':=sH Z ψ hh.get x.cells) g (fun b hb=>.inl hb) (fun i b hm bq hb=>.inr ⟨i,hm,bq,hb⟩) SP;obtain⟨w',h1,h2⟩:=Df (P:=P) (N:=N) gd hgd X6 hx (y:=z) (off:=off) (V:=v) (by omega) (by omega) (a:=a) Kb (fun us Km=>by
       have h3:=(js (ψ:=ψ) (h:=hh.get) Km);have h4:=eO hz (abj.fh off h3)
       rwa [ue _ _ _ (by rw[Array.length_toList,Km.len];omega),Array.length_toList]at h4) ta
      refine⟨_,w',sH Z ψ hh.get x.cells,rfl,h1,?_⟩;rw[show((stored hh x.cells).2.set id (.own (.row ty kk) (xs.set i z))).get=fq (dg hh x.cells).get id (some (.own (.row ty kk) (xs.set i z))) from oM _ _ _];exact h2.drop (fun b hb=>.inl hb) (fun b hb=>hb.imp (fun h=>h) (fun⟨i,_,h5,h6⟩=>⟨i,h5,h6⟩)) (fm _ _)
     ·cases XC
    ·cases XC
   ·cases he
  ·cases he
 ·cases he
theorem Tz{a:AV}{v:Value}(ha:a.isAgg=true)(hr:aD Z ψ h w a v):∃vs,v=.agg vs:=by
 cases a<;>simp[AV.isAgg]at ha
 simp only[aD]at hr;obtain⟨vs,rfl,_⟩:=hr;exact⟨vs,rfl⟩
theorem GQ{a:AV}{v:Value}(ha:a.isAgg=false)(su:a≠.no)(hr:aD Z ψ h w a v):v.cells=#[v]:=by
 cases a with
 |no=>exact absurd rfl su
 |agg cs=>simp[AV.isAgg]at ha
 |bool b=>simp only[aD]at hr;subst hr;rfl
 |int k n=>simp only[aD]at hr;subst hr;rfl
 |str s=>simp only[aD]at hr;subst hr;rfl
 |mC=>simp only[aD]at hr;subst hr;rfl
 |ib=>simp only[aD]at hr;subst hr;rfl
 |ref id s i off=>simp only[aD]at hr;obtain⟨a,rfl,_⟩:=hr;rfl
 |fp k x off=>simp only[aD]at hr;obtain⟨a,us,rfl,_⟩:=hr;rfl
 |sl ex k xs=>simp only[aD,aP]at hr;obtain⟨⟨v',hv,A,c,rfl,_⟩,_⟩:=hr;cases hv;rfl
 |bV id=>simp only[aD]at hr;exact hr.1.1
 |mp kk vk es=>simp only[aD,aP]at hr;obtain⟨A,hv,_⟩:=hr;cases hv;rfl
 |fn f cap=>simp only[aD]at hr;obtain⟨vs,rfl,_⟩:=hr;rfl
 |pe cs=>simp only[aD]at hr;obtain⟨vs,rfl,_⟩:=hr;rfl
theorem wc{hh:Heap}{k:K}{a:AV}{x:k.T}{v:Value}(g:Good Z ψ hh.get w B0 O)(hz:∀b,Z b→Z' b)(hb:∀id b,AV.bV id∈a.cells→hh.get id≠none→ob (ψ id)=some b→Z' b) (hx:hZ k hh a=some x) (hr:aD Z ψ hh.get w a v):aP Z' w k x v.cells.toList∧(k.isAgg=true→∃vs,v=.agg vs)∧(k.isAgg=false→v.cells=#[v]):=by
 unfold hZ at hx
 split at hx
 ·rename_i ZV;have su:=GN hx;have hv:=qf g hz hb (hr.cells su);exact⟨eO hx hv,fun h=>Tz (by rw[←ZV];exact h) hr,fun h=>GQ (by rw[←ZV];exact h) su hr⟩
 ·cases hx
theorem uh{hh:Heap}{k:K}{a:AV}{x:k.T}{v:Value}(g:Good Z ψ hh.get w B0 O)(hz:∀b,Z b→Z' b)(hb:∀id b,AV.bV id∈a.cells→hh.get id≠none→ob (ψ id)=some b→Z' b) (hx:hZ k hh a=some x) (hr:aD Z ψ hh.get w a v):aD Z' ψ' h' w (cJ k x) v:=by obtain⟨h1,h2,h3⟩:=wc g hz hb hx hr;exact nu h1 h2 h3
theorem aP.flat:∀{k:K} {x:k.T} {vs:List Value},k.flat=true→aP Z w k x vs→aP Z' w' k x vs
 |.int _,_,_,_,h=>h
 |.bool,_,_,_,h=>h
 |.str,_,_,_,h=>h
 |.sl k,_,_,hf,_=>by simp[K.flat]at hf
 |.pair a b,x,_,hf,h=>by simp only[K.flat,Bool.and_eq_true]at hf;simp only[aP]at h ⊢;obtain⟨us,ws,rfl,h1,h2⟩:=h;exact⟨us,ws,rfl,aP.flat hf.1 h1,aP.flat hf.2 h2⟩
 |.one k,x,_,hf,h=>by simp only[aP]at h ⊢;exact aP.flat (k:=k) (by simpa only[K.flat] using hf) h
theorem Cj:∀(k:K) (x y:k.T),k.flat=true→(tV k x y=true↔x=y)
 |.int _,x,y,_=>by simp only[tV];exact beq_iff_eq (α:=Int)
 |.bool,x,y,_=>by simp only[tV];exact beq_iff_eq (α:=Bool)
 |.str,x,y,_=>by simp only[tV];exact MapKept.bytes_beq x y
 |.sl _,_,_,hf=>by simp[K.flat]at hf
 |.mp _ _,_,_,hf=>by simp[K.flat]at hf
 |.pair a b,x,y,hf=>by simp only[K.flat,Bool.and_eq_true]at hf;simp only[tV,Bool.and_eq_true];rw[Cj a _ _ hf.1,Cj b _ _ hf.2];exact⟨fun h=>Prod.ext h.1 h.2,fun h=>⟨congrArg Prod.fst h,congrArg Prod.snd h⟩⟩
 |.one k,x,y,hf=>by simp only[tV];exact Cj k x y (by simpa only[K.flat] using hf)
theorem q7:∀{k:K} {x:k.T} {us vs:List Value},k.flat=true→aP Z w k x us→aP Z' w' k x vs→us=vs
 |.int _,_,_,_,_,h1,h2=>by simp only[aP]at h1 h2;rw[h1,h2]
 |.bool,_,_,_,_,h1,h2=>by simp only[aP]at h1 h2;rw[h1,h2]
 |.str,_,_,_,_,h1,h2=>by simp only[aP]at h1 h2;rw[h1,h2]
 |.sl _,_,_,_,hf,_,_=>by simp[K.flat]at hf
 |.mp _ _,_,_,_,hf,_,_=>by simp[K.flat]at hf
 |.pair a b,x,_,_,hf,h1,h2=>by simp only[K.flat,Bool.and_eq_true]at hf;simp only[aP]at h1 h2;obtain⟨a1,a2,rfl,h3,h4⟩:=h1;obtain⟨b1,b2,rfl,h5,h6⟩:=h2;rw[q7 hf.1 h3 h5,q7 hf.2 h4 h6]
 |.one k,x,_,_,hf,h1,h2=>by simp only[aP]at h1 h2;exact q7 (k:=k) (by simpa only[K.flat] using hf) h1 h2
theorem uj:∀{k:K} {x:k.T} {us:List Value},k.flat=true→aP Z w k x us→∀u∈us,∀n,Instr.sameBits n u u=true
 |.int _,x,_,_,h1,u,hu,n=>by simp only[aP]at h1;subst h1;simp only[List.mem_singleton]at hu;subst hu;cases n<;>simp[Instr.sameBits]<;>exact beq_self_eq_true (α:=Int) x
 |.bool,x,_,_,h1,u,hu,n=>by simp only[aP]at h1;subst h1;simp only[List.mem_singleton]at hu;subst hu;cases n<;>simp[Instr.sameBits]<;>exact beq_self_eq_true (α:=Bool) x
 |.str,x,_,_,h1,u,hu,n=>by simp only[aP]at h1;subst h1;simp only[List.mem_singleton]at hu;subst hu;cases n<;>simp[Instr.sameBits]<;>exact(MapKept.bytes_beq x x).2 rfl
 |.sl _,_,_,hf,_,_,_,_=>by simp[K.flat]at hf
 |.mp _ _,_,_,hf,_,_,_,_=>by simp[K.flat]at hf
 |.pair a b,x,_,hf,h1,u,hu,n=>by
  simp only[K.flat,Bool.and_eq_true]at hf;simp only[aP]at h1;obtain⟨a1,a2,rfl,h3,h4⟩:=h1;rcases abw.1 hu with hu|hu
  ·exact uj hf.1 h3 u hu n
  ·exact uj hf.2 h4 u hu n
 |.one k,x,_,hf,h1,u,hu,n=>by simp only[aP]at h1;exact uj (k:=k) (by simpa only[K.flat] using hf) h1 u hu n
def MO(b:Bool)(v:Value):Prop:=(b=true→∃vs,v=.agg vs)∧(b=false→v.cells=#[v])
theorem QQ{b:Bool}{u v:Value}(h1:MO b u)(h2:MO b v)(h:u.cells.toList=v.cells.toList):u=v:=by
 cases b with
 |true =>
  obtain⟨a,rfl⟩:=h1.1 rfl;obtain⟨c,rfl⟩:=h2.1 rfl;have:a=c:=by simpa[Value.cells] using h
  rw[this]
 |false =>rw[h1.2 rfl,h2.2 rfl]at h;simpa using h
theorem TA{k:K}{x:k.T}{u:Value}(hf:k.flat=true)(hr:aP Z w k x u.cells.toList)(hs:MO k.isAgg u):Instr.sameBits 10000 u u=true:=by
 have hb:=uj hf hr
 cases hk:k.isAgg with
 |false=>exact hb u (by rw[hs.2 hk];simp) _
 |true =>obtain⟨a,rfl⟩:=hs.1 hk;show Instr.sameBits (9999+1) (.agg a) (.agg a)=true;simp only[Instr.sameBits,beq_self_eq_true,Bool.true_and,List.all_eq_true];intro p hp;obtain⟨i,hi,he⟩:=List.mem_iff_getElem.1 hp;simp only[List.getElem_zip]at he;subst he;exact hb _ (acm (l:=(Value.agg a).cells.toList) (by simpa[Value.cells] using hi)) _
def Keys(Z:Nat→Prop)(w:World)(k:K)(ys:List k.T)(l:List MapEntry):Prop:=ys.length=l.length∧∀(i:Nat) y e,ys[i]? = some y→l[i]? = some e→aP Z w k y e.key.cells.toList∧MO k.isAgg e.key
theorem Keys.tail{k:K}{y:k.T}{ys:List k.T}{e:MapEntry}{l:List MapEntry}(h:Keys Z w k (y::ys) (e::l)):Keys Z w k ys l:=⟨by simpa using h.1,fun i a b h1 h2=>h.2 (i+1) a b (by simpa using h1) (by simpa using h2)⟩
theorem Kn{k:K}{x:k.T}{d:TypeDesc}{kv:Value}(hs:∀y XD,aP Z w k y XD.cells.toList→MO k.isAgg XD→Instr.sameNow d kv XD=some (tV k x y)):∀(l:List MapEntry) (ys:List k.T) (i:Nat),Keys Z w k ys l → Instr.findNow d kv l i=some ((ys.findIdx? (tV k x)).map fun j=>(i+j,((l[j]?).map (·.val)).getD undef))
 |[],ys,i,h=>by have:ys=[]:=acg (by simpa using h.1);subst this;rfl
 |e::l,[],i,h=>by have:=h.1;simp at this
 |e::l,y::ys,i,h=>by
  obtain⟨h1,h2⟩:=h.2 0 y e rfl rfl;have ih:=Kn hs l ys (i+1) h.tail;simp only[Instr.findNow,hs y _ h1 h2,List.findIdx?_cons]
  cases tV k x y with
  |true=>simp
  |false =>
   simp only[ih,Bool.false_eq_true,if_false]
   cases ys.findIdx? (tV k x) with
   |none=>rfl
   |some j=>simp;omega
theorem Bb{k:K}{x:k.T}{t:TypeId}{kv:Value}(hs:∀y XD,aP Z w k y XD.cells.toList→MO k.isAgg XD→(Op.equal t kv XD).run P w=.ok (tV k x y) w):∀(l:List MapEntry) (ys:List k.T) (i:Nat),Keys Z w k ys l →(Instr.findAsking t kv l i).run P w=.ok ((ys.findIdx? (tV k x)).map fun j=>(i+j,((l[j]?).map (·.val)).getD undef)) w
 |[],ys,i,h=>by have:ys=[]:=acg (by simpa using h.1);subst this;rfl
 |e::l,[],i,h=>by have:=h.1;simp at this
 |e::l,y::ys,i,h=>by
  obtain⟨h1,h2⟩:=h.2 0 y e rfl rfl;have ih:=Bb hs l ys (i+1) h.tail;simp only[Instr.findAsking,Sem.run_bind,hs y _ h1 h2,Result.andThen_ok,List.findIdx?_cons]
  cases tV k x y with
  |true=>simp
  |false =>
   simp only[ih,Bool.false_eq_true,if_false]
   cases ys.findIdx? (tV k x) with
   |none=>rfl
   |some j=>simp;omega
structure TB(P:Program)(t:TypeId)(k:K):Prop where
 flat:k.flat=true
 check:∀(Z:Nat→Prop) (w:World) (x:k.T) (kv:Value) (e:Bool),aP Z w k x kv.cells.toList→MO k.isAgg kv→(Instr.checkKey e 10000 t kv).run P w=.ok () w
 find:∀(Z:Nat→Prop) (w:World) (x:k.T) (kv:Value) (l:List MapEntry) (ys:List k.T),aP Z w k x kv.cells.toList→MO k.isAgg kv→Keys Z w k ys l →
  (Instr.findKey t kv l).run P w=.ok ((ys.findIdx? (tV k x)).map fun j=>(j,((l[j]?).map (·.val)).getD undef)) w
theorem q8{t:TypeId}{k:K}{d:TypeDesc}(hf:k.flat=true)(hk:k.isAgg=false)(hd:P.underlying t=some d)(hc:∀(Z:Nat→Prop) (w:World) (x:k.T) (kv:Value),aP Z w k x [kv]→MapKept.IsKey d kv) (hs:∀(Z:Nat→Prop) (w:World) (x y:k.T) (u v:Value),aP Z w k x [u]→aP Z w k y [v]→Instr.sameNow d u v=some (tV k x y)):TB P t k:=by
 have one:∀{Z:Nat→Prop} {w:World} {x:k.T} {kv:Value},aP Z w k x kv.cells.toList→MO k.isAgg kv→aP Z w k x [kv]:=fun {Z w x kv} h1 h2=>by rw[h2.2 hk]at h1;exact h1
 refine⟨hf,fun Z w x kv e h1 h2=>MapKept.run_checkKey hd (hc Z w x kv (one h1 h2)) e 9999,fun Z w x kv l ys h1 h2 h3=>?_⟩;have:=Kn (Z:=Z) (w:=w) (x:=x) (d:=d) (kv:=kv) (fun y XD h4 h5=>hs Z w x y kv XD (one h1 h2) (one h4 h5)) l ys 0 h3;simp only[Nat.zero_add]at this;exact MapKept.run_findKey hd this
theorem Ko(d:TypeDesc)(a:Array Value)(v:Value):Instr.sameNow d (.agg a) v=none:=by cases d<;>cases v<;>rfl
theorem zp{Eqs:TypeId→Option K}(FY:∀t k,Eqs t=some k→nD P t k){t:TypeId}{k:K}(hk:O2 P Eqs t k=true):TB P t k:=by
 unfold O2 at hk;rw[Bool.and_eq_true]at hk;obtain⟨hf,hk⟩:=hk
 split at hk
 ·rename_i ik ik' hd;simp only[decide_eq_true_eq]at hk;subst hk;exact q8 hf rfl hd (fun Z w x kv hr=>by simp only[aP]at hr;cases hr;simp[MapKept.IsKey]) (fun Z w x y u v h1 h2=>by simp only[aP]at h1 h2;cases h1;cases h2;simp[Instr.sameNow,tV])
 ·rename_i hd;exact q8 hf rfl hd (fun Z w x kv hr=>by simp only[aP]at hr;cases hr;simp[MapKept.IsKey]) (fun Z w x y u v h1 h2=>by simp only[aP]at h1 h2;cases h1;cases h2;simp[Instr.sameNow,tV])
 ·rename_i hd;exact q8 hf rfl hd (fun Z w x kv hr=>by simp only[aP]at hr;cases hr;simp[MapKept.IsKey]) (fun Z w x y u v h1 h2=>by simp only[aP]at h1 h2;cases h1;cases h2;simp[Instr.sameNow,tV])
 ·simp only[Bool.and_eq_true,decide_eq_true_eq]at hk;obtain⟨ZV,hk⟩:=hk;have fact:=FY _ _ hk;have agg:∀{b:Bool} {u:Value},b=true→MO b u→∃a,u=.agg a:=fun hb h=>h.1 hb;refine⟨hf,fun Z w x kv e h1 h2=>?_,fun Z w x kv l ys h1 h2 h3=>?_⟩
  ·obtain⟨a,rfl⟩:=agg ZV h2;exact(fact Z w x x a a h1 h1).2.2 e
  ·obtain⟨a,rfl⟩:=agg ZV h2;have h4:=Bb (P:=P) (t:=t) (Z:=Z) (w:=w) (x:=x) (kv:=.agg a) (fun y XD h4 h5=>by obtain⟨b,rfl⟩:=agg ZV h5;exact(fact Z w x y a b h1 h4).1) l ys 0 h3;simp only[Nat.zero_add]at h4
   cases l with
   |nil =>
    have:ys=[]:=acg (by simpa using h3.1);subst this
    cases hu:P.underlying t with
    |none =>have hc:=(fact Z w x x a a h1 h1).2.2 true;exfalso;unfold Instr.checkKey at hc;simp[underlying,hu]at hc
    |some d=>simp[Instr.findKey,run_underlying hu,Instr.findNow]
   |cons e l =>
    cases hu:P.underlying t with
    |none =>have hc:=(fact Z w x x a a h1 h1).2.2 true;exfalso;unfold Instr.checkKey at hc;simp[underlying,hu]at hc
    |some d=>simp only[Instr.findKey,Sem.run_bind,run_underlying hu,Result.andThen_ok,Instr.findNow,Ko];exact h4
section
variable {kk vk:K} {es:List (kk.T×vk.T)} {l:List MapEntry}
abbrev lG(Z:Nat→Prop)(w:World)(kk vk:K)(es:List (kk.T×vk.T))(l:List MapEntry):Prop:=Ii (aP Z w kk) (aP Z w vk) kk.isAgg vk.isAgg es l
theorem lG.keys(h:lG Z w kk vk es l):Keys Z w kk (es.map (·.1)) l :=⟨by rw[List.length_map];exact h.1,fun i y e h1 h2=>by rw[List.getElem?_map]at h1;obtain⟨x,h3,rfl⟩:=ac5.1 h1;exact(h.2 i x e h3 h2).1⟩
theorem Dt{x:kk.T}:(es.map (·.1)).findIdx? (tV kk x)=vR kk x es:=by unfold vR;rw[List.findIdx?_map];rfl
theorem Im{x:kk.T}{i:Nat}(h:vR kk x es=some i):i<es.length:=by unfold vR at h;exact(List.findIdx?_eq_some_iff_getElem.1 h).1
theorem X7{x:kk.T}{i:Nat}(h:vR kk x es=some i):∃e,es[i]? = some e∧tV kk x e.1=true:=by unfold vR at h;obtain⟨h1,h2,_⟩:=List.findIdx?_eq_some_iff_getElem.1 h;exact⟨_,aa4 h1,h2⟩
def TC(Z:Nat→Prop)(w:World)(kk vk:K)(x:kk.T×vk.T)(e:MapEntry):Prop:=(aP Z w kk x.1 e.key.cells.toList∧MO kk.isAgg e.key)∧aP Z w vk x.2 e.val.cells.toList∧MO vk.isAgg e.val
theorem lG.set(h:lG Z w kk vk es l)(i:Nat){x:kk.T×vk.T}{f:MapEntry→MapEntry}(ho:∀e,l[i]? = some e→TC Z w kk vk x (f e)):lG Z w kk vk (es.set i x) (l.modify i f):=by
 refine⟨by simp[h.1],fun j y e h1 h2=>?_⟩;rw[List.getElem?_modify]at h2;obtain⟨e0,h3,h4⟩:=ac5.1 h2;by_cases Ck:i=j
 ·subst Ck;rw[if_pos rfl]at h4;have aG:i<es.length:=by rw[h.1];exact(aa2.1 h3).1
  rw[List.getElem?_set_self aG]at h1
  cases h1
  subst h4;exact ho e0 h3
 ·rw[if_neg Ck]at h4;rw[List.getElem?_set_ne Ck]at h1;subst h4;exact h.2 j y e0 h1 h3
theorem lG.push(h:lG Z w kk vk es l){x:kk.T×vk.T}{e:MapEntry}(ho:TC Z w kk vk x e):lG Z w kk vk (es++[x]) (l++[e]):=by
 refine⟨by simp[h.1],fun j y e' h1 h2=>?_⟩;by_cases hj:j<es.length
 ·rw[List.getElem?_append_left hj]at h1;rw[List.getElem?_append_left (by rw[←h.1];exact hj)]at h2;exact h.2 j y e' h1 h2
 ·rw[List.getElem?_append_right (by omega)]at h1;rw[List.getElem?_append_right (by have:=h.1;omega),←h.1]at h2;by_cases h0:j-es.length=0
  ·rw[h0]at h1 h2;cases h1;cases h2;exact ho
  ·rw[List.getElem?_eq_none (by simp;omega)]at h1;cases h1
theorem lG.erase(h:lG Z w kk vk es l)(i:Nat):lG Z w kk vk (es.eraseIdx i) (l.eraseIdx i):=by
 refine⟨by rw[List.length_eraseIdx,List.length_eraseIdx,h.1],fun j y e h1 h2=>?_⟩;rw[List.getElem?_eraseIdx]at h1 h2
 split at h1
 ·rename_i hj;rw[if_pos hj]at h2;exact h.2 j y e h1 h2
 ·rename_i hj;rw[if_neg hj]at h2;exact h.2 (j+1) y e h1 h2
theorem lG.mono(h:lG Z w kk vk es l)(hz:∀b,Z b→Z' b)(hs:cU Z w w'):lG Z' w' kk vk es l:=Ii.imp (fun _ _ h=>h.mono hz hs) (fun _ _ h=>h.mono hz hs) h
end
theorem wh{Eqs:TypeId→Option K}{t:TypeId}{kk vk:K}(h:mapOf P Eqs t=some (kk,vk)):∃a b,P.underlying t=some (.map a b)∧O2 P Eqs a kk=true∧O0 P b vk=true:=by
 unfold mapOf at h
 split at h
 ·rename_i a b hu
  split at h
  ·split at h
   ·rename_i hc
    cases h
    rw[Bool.and_eq_true]at hc;exact⟨a,b,hu,hc.1,hc.2⟩
   ·cases h
  ·cases h
 ·cases h
theorem Na{b:TypeId}{vk:K}(h:O0 P b vk=true):∃z,(zeroValue b).run P w=.ok z w∧aP Z w vk (p4 vk) z.cells.toList∧MO vk.isAgg z:=by
 unfold O0 at h
 split at h
 ·rename_i i hi
  split at h
  ·rename_i z hz;refine⟨z,xp hi hz,?_⟩;unfold Ti at h
   split at h
   ·simp only[decide_eq_true_eq]at h;obtain⟨rfl,rfl⟩:=h;exact⟨by simp only[aP];rfl,fun h=>(by cases h),fun _=>rfl⟩
   ·rename_i b;simp only[Bool.not_eq_true']at h;subst h;exact⟨by simp only[aP];rfl,fun h=>(by cases h),fun _=>rfl⟩
   ·simp only[decide_eq_true_eq]at h;subst h;exact⟨by simp only[aP];rfl,fun h=>(by cases h),fun _=>rfl⟩
   ·simp only[decide_eq_true_eq]at h;obtain⟨rfl,rfl,rfl⟩:=h;exact⟨by simp only[aP];exact⟨_,rfl,none,0,rfl,ack _,fun _=>rfl,fun i x hx=>by simp[p4]at hx⟩,fun h=>(by cases h),fun _=>rfl⟩
   ·cases h
  ·cases h
 ·cases h
theorem O8{hh:Heap}(g:Good Z ψ h w B0 O)(bI:∀id o,hh.get id=some o→h id=some o){m:AV}{u:Value}{kk vk:K}{es:List (kk.T×vk.T)}(hm:aD Z ψ h w m u)(hv:di hh m=.mp kk vk es) :
  ∃A,u=.map A∧((A=none∧es=[])∨∃r cw clock,A=some r∧w.heap[r]? = some (.map cw clock)∧lG Z w kk vk es cw.toList):=by
 cases m with
 |mp OZ XW TD =>
  simp only[di]at hv
  cases hv
  simp only[aD,aP]at hm;obtain⟨A,h1,h2⟩:=hm
  cases h1
  refine⟨A,rfl,h2.imp (fun h=>h) fun⟨m,cw,clock,h3,_,h4,h5⟩=>⟨m,cw,clock,h3,h4,h5⟩⟩
 |bV id =>
  simp only[di]at hv
  split at hv
  ·cases hv
  ·rename_i OZ XW TD hg
   cases hv
   have Dn:=bI _ _ hg;simp only[aD]at hm;have:=hm.2 (by rw[Dn];simp);subst this;obtain⟨r,cw,clock,h1,h2,h3,_⟩:=g.row id (.map kk vk) es Dn;exact⟨some r,h1,.inr ⟨r,cw,clock,rfl,h2,h3⟩⟩
  ·cases hv
 |_=>simp only[di]at hv;cases hv
theorem Nb{hh:Heap}(g:Good Z ψ h w B0 O)(bI:∀id o,hh.get id=some o→h id=some o){k:K}(hf:k.flat=true){a:AV}{x:k.T}{v:Value}(hx:hZ k hh a=some x)(hr:aD Z ψ h w a v):aP Z w k x v.cells.toList∧MO k.isAgg v:=by obtain⟨h1,h2,h3⟩:=wc (Z':=fun b=>b<w.heap.size) (g.sub bI) (fun b hb=>g.kO b hb) (fun id b _ h1 h2=>(g.sub bI).cc ⟨id,h1,h2⟩) hx (hr.less (fun _ h=>h) (cU.refl _ _) (fun id bR=>by obtain⟨o,ho⟩:=abN.1 bR;exact⟨by rw[bI id o ho];simp,rfl⟩));exact⟨h1.flat hf,h2,h3⟩
theorem Io{Eqs:TypeId→Option K}(FY:∀t k,Eqs t=some k→nD P t k){hh:Heap}(g:Good Z ψ h w B0 O)(bI:∀id o,hh.get id=some o→h id=some o){t:TypeId}{m i:AV}{u v:Value}{ok:Bool}{e:bW} (hm:aD Z ψ h w m u) (hi:aD Z ψ h w i v) (he:qa P Eqs hh t m i ok some=some e):∃y V,e=.val y∧(Instr.lookup t u v ok).run P w=.ok V w∧aD Z ψ h w y V:=by
 unfold qa at he
 split at he
 ·rename_i ka va kk vk es hmo hv
  split at he
  ·rename_i hc;obtain⟨rfl,rfl⟩:=hc
   split at he
   ·rename_i x hx
    cases he
    obtain⟨a,b,hu,hk,hz⟩:=wh hmo;have K:=zp FY hk;obtain⟨Ga,pJ⟩:=Nb g bI K.flat hx hi;obtain⟨z,A9,FV,MM⟩:=Na (Z:=Z) (w:=w) hz;have fin:∀(l:List MapEntry),lG Z w kk vk es l→∃V,((∃j,(Instr.findKey a v l).run P w=.ok (some (j,V)) w∧(j7 kk x es).isSome=true)∨((Instr.findKey a v l).run P w=.ok none w∧(zeroValue b).run P w=.ok V w∧(j7 kk x es).isSome=false)) ∧ aP Z w vk ((j7 kk x es).getD (p4 vk)) V.cells.toList∧MO vk.isAgg V:=by
     intro l hE;have hf:=K.find Z w x v l (es.map (·.1)) Ga pJ hE.keys;rw[Dt]at hf
     cases GR:vR kk x es with
     |none =>rw[GR]at hf;exact⟨z,.inr ⟨hf,A9,by simp[j7,GR]⟩,by simpa[j7,GR] using FV,MM⟩
     |some j =>
      rw[GR]at hf;have hj:=Im GR;have h1:es[j]? = some es[j]:=aa4 hj;have MP:j<l.length:=by rw[←hE.1];exact hj
      have h2:l[j]? = some l[j]:=aa4 MP;obtain⟨_,h3,h4⟩:=hE.2 j _ _ h1 h2;refine⟨l[j].val,.inl ⟨j,?_,by simp[j7,GR,h1]⟩,by simpa[j7,GR,h1] using h3,h4⟩;rw[hf];simp only[Option.map_some,h2,Option.getD_some]
    have out:∀V:Value,aP Z w vk ((j7 kk x es).getD (p4 vk)) V.cells.toList→MO vk.isAgg V→aD Z ψ h w (cond ok (AV.pe [cJ vk ((j7 kk x es).getD (p4 vk)),.bool (j7 kk x es).isSome]) (cJ vk ((j7 kk x es).getD (p4 vk)))) (if ok then .tuple #[V,.bool (j7 kk x es).isSome] else V):=by
     intro V h1 h2;have h3:aD Z ψ h w (cJ vk ((j7 kk x es).getD (p4 vk))) V:=nu h1 h2.1 h2.2
     cases ok with
     |false=>exact h3
     |true=>simp only[cond_true,if_true,aD,ax];exact⟨_,rfl,V,[.bool (j7 kk x es).isSome],by simp,h3,_,[],rfl,rfl,rfl⟩
    obtain⟨A,rfl,hA⟩:=O8 g bI hm hv;rcases hA with⟨rfl,rfl⟩|⟨r,cw,clock,rfl,h3,h4⟩
    ·obtain⟨V,h5,h6,h7⟩:=fin [] ⟨rfl,fun i x e h=>by simp at h⟩;refine⟨_,_,rfl,?_,out V h6 h7⟩;simp only[Instr.lookup,Sem.run_bind,run_underlying hu,Result.andThen_ok,Sem.run_pure,K.check Z w x v _ Ga pJ];rcases h5 with⟨j,h8,h9⟩|⟨h8,h9,oC⟩
     ·simp[h8,h9]
     ·simp[h8,h9,oC]
    ·obtain⟨V,h5,h6,h7⟩:=fin cw.toList h4;refine⟨_,_,rfl,?_,out V h6 h7⟩;simp only[Instr.lookup,Sem.run_bind,run_underlying hu,Result.andThen_ok,Sem.run_pure,MapKept.run_getObj_map h3,K.check Z w x v _ Ga pJ];rcases h5 with⟨j,h8,h9⟩|⟨h8,h9,oC⟩
     ·simp[h8,h9]
     ·simp[h8,h9,oC]
   ·cases he
  ·cases he
 ·cases he
end Go.Vs
namespace Go.Vs
variable {P:Program} {Z Z':Nat→Prop} {ψ ψ':Nat→Value} {h h':Hp} {w w':World} {B0:Nat} {O:Nat→Prop} {N:Nat→Prop}
theorem zq{r b:Nat}(o:Obj)(bq:r≠b):(w.heap.setIfInBounds r o)[b]? = w.heap[b]? := by rw[Array.getElem?_setIfInBounds];simp[bq]
theorem dF.ai7{r:Nat}(ho:Own ψ h r)(o:Obj):dF ψ h w { w with heap:=w.heap.setIfInBounds r o } :=⟨rfl,rfl,rfl,by simp,fun b _ hb=>zq o (fun e=>hb (e▸ho))⟩
theorem uk{hp:Hp}(g:Good Z ψ hp w B0 O){id:Nat}(bR:hp id≠none){r:Nat}(hr:ob (ψ id)=some r)(aG:r<w.heap.size)(o:Obj){ok:OK}{x:ok.T} (hx:∀w':World,w'.heap=w.heap.setIfInBounds r o→cU Z w w'→kH Z w' ok (ψ id) x) :
  Next Z ψ hp w B0 O N Z ψ (fq hp id (some (.own ok x))) { w with heap:=w.heap.setIfInBounds r o }:=by
 have ho:Own ψ hp r:=⟨id,bR,hr⟩;have kk:=dF.ai7 (w:=w) ho o;refine g.write id bR kk (fun b hb _=>zq o (fun e=>hb (by rw[hr,e]))) _ (fun _ _ he=>by cases he) (fun ok' x' he=>?_)
 cases he
 exact hx _ rfl (kk.same g)
theorem Bc{l:List MapEntry}{i:Nat}{f:MapEntry→MapEntry}(hf:∀e,(f e).born=e.born):(l.modify i f).map (·.born)=l.map (·.born):=by
 apply adl;intro j;simp only[List.getElem?_map,List.getElem?_modify]
 cases l[j]? with
 |none=>rfl
 |some e=>simp only[Option.map_some];split<;>simp[hf]
theorem zr{l:List MapEntry}:l.Pairwise (fun a b=>a.born≠b.born)↔(l.map (·.born)).Pairwise (·≠·):=by rw[List.pairwise_map]
theorem xu{Eqs:TypeId→Option K}(FY:∀t k,Eqs t=some k→nD P t k){hh:Heap}(g:Good Z ψ hh.get w B0 O){t:TypeId}{m i v:AV}{u1 u2 u3:Value}{e:bW} (hm:aD Z ψ hh.get w m u1) (hi:aD Z ψ hh.get w i u2) (hv:aD Z ψ hh.get w v u3) (he:jK P Eqs hh t m i v some=some e) :
  ∃hw w' Z',e=.wr (.pe []) hw∧(Instr.mapUpdate t u1 u2 u3).run P w=.ok () w'∧Next Z ψ hh.get w B0 O N Z' ψ hw.get w':=by
 unfold jK at he
 split at he
 ·rename_i ka va id hmo
  split at he
  ·rename_i kk vk es hg
   split at he
   ·rename_i hc;obtain⟨rfl,rfl⟩:=hc
    split at he
    ·rename_i x y hx hy su
     cases he
     obtain⟨a,b,hu,hk,_⟩:=wh hmo;have K:=zp FY hk;obtain⟨Ga,pJ⟩:=Nb g (fun _ _ h=>h) K.flat hx hi;simp only[aD]at hm;have XE:=hm.2 (by rw[hg];simp);obtain⟨r,cw,clock,h1,h2,h3,h4,h5⟩:=g.row id (.map kk vk) es hg;rw[h1]at XE;subst XE;have bR:AV.bV id∉v.cells:=fun hc=>by have:=ac3.1 su _ hc;simp at this
     have gd:=jB g v.cells;have hgd:(dg hh v.cells).get id=some (.own (.map kk vk) es):=by rw[qZ _ _ _ bR];exact hg
     obtain⟨xw,A5,hv3⟩:=wc (Z':=sH Z ψ hh.get v.cells) g (fun b hb=>.inl hb) (fun id b h1 h2 h3=>.inr ⟨id,h1,h2,h3⟩) hy hv;have adK:aP (sH Z ψ hh.get v.cells) w kk x u2.cells.toList:=Ga.flat K.flat;have aG:=(abq.1 h2).1;have oD:ob (ψ id)=some r:=by rw[h1];rfl
     have hE:lG (sH Z ψ hh.get v.cells) w kk vk es cw.toList:=lG.mono h3 (fun b hb=>.inl hb) (cU.refl _ _);have hf:=K.find Z w x u2 cw.toList (es.map (·.1)) Ga pJ (lG.keys h3);rw[Dt]at hf;have fin:∀(o:Obj) (TD:List (kk.T×vk.T)) (oO:Array MapEntry) (Du:Nat),o=.map oO Du→lG (sH Z ψ hh.get v.cells) w kk vk TD oO.toList→(oO.toList.map (·.born)).Pairwise (·≠·)→(∀e∈oO.toList,e.born<Du) → Next Z ψ hh.get w B0 O N (sH Z ψ hh.get v.cells) ψ ((dg hh v.cells).set id (.own (.map kk vk) TD)).get { w with heap:=w.heap.setIfInBounds r o }:=by rintro o TD oO Du rfl h6 h7 h8;rw[oM];have n:=uk (N:=N) gd (by rw[hgd];simp) oD aG (.map oO Du) (ok:=.map kk vk) (x:=TD) (fun w' Nc sm=>⟨r,oO,Du,h1,by rw[Nc];simp[aG],lG.mono h6 (fun _ h=>h) sm,zr.2 h7,h8⟩);exact n.drop (fun b hb=>.inl hb) (fun b hb=>hb.imp (fun h=>h) (fun⟨i,_,h5,h6⟩=>⟨i,h5,h6⟩)) (fm _ _)
     cases GR:vR kk x es with
     |none =>
      rw[GR]at hf;refine⟨_,{ w with heap:=w.heap.setIfInBounds r (.map (cw.push { key:=u2,val:=u3,born:=clock }) (clock+1)) },sH Z ψ hh.get v.cells,rfl,?_,?_⟩
      rotate_left
      ·rw[show oG kk x y es=es++[(x,y)] by simp[oG,GR]];refine fin _ _ (cw.push { key:=u2,val:=u3,born:=clock }) (clock+1) rfl ?_ ?_ ?_
       ·rw[Array.toList_push];exact hE.push ⟨⟨adK,pJ⟩,xw,A5,hv3⟩
       ·rw[Array.toList_push,List.map_append,List.pairwise_append];refine⟨zr.1 h4,by simp,fun a ha b hb=>?_⟩;simp only[List.map_cons,List.map_nil,List.mem_singleton]at hb;obtain⟨e,he,rfl⟩:=aca.1 ha;have:=h5 e he;omega
       ·intro e he;rw[Array.toList_push]at he;rcases abw.1 he with he|he
        ·have:=h5 e he;omega
        ·simp only[List.mem_singleton]at he;subst he;exact Nat.lt_succ_self _
      ·simp only[Instr.mapUpdate,Sem.run_bind,run_underlying hu,Result.andThen_ok,MapKept.run_getObj_map h2,K.check Z w x u2 _ Ga pJ,hf,Option.map_none,MapKept.run_setObj_map _ h2]
     |some j =>
      rw[GR]at hf;have hj:=Im GR;obtain⟨e0,ZW,heq⟩:=X7 GR;have MP:j<cw.toList.length:=by rw[←h3.1];exact hj
      have hl:cw.toList[j]? = some cw.toList[j]:=aa4 MP;have SS:cw[j]? = some cw.toList[j]:=by rw[←hl];simp
      obtain⟨⟨adL,ai8⟩,_⟩:=h3.2 j _ _ ZW hl;have ve:cw.toList[j].key=u2:=by refine QQ ai8 pJ ?_;rw[←(Cj kk x e0.1 K.flat).1 heq]at adL;exact q7 K.flat adL Ga
      have ZX:(Instr.keyThatStays u2 u2).run P w=.ok u2 w:=by simp[Instr.keyThatStays,TA K.flat Ga pJ]
      refine⟨_,{ w with heap:=w.heap.setIfInBounds r (.map (cw.modify j fun e=>{ e with key:=u2,val:=u3 }) clock) },sH Z ψ hh.get v.cells,rfl,?_,?_⟩
      rotate_left
      ·rw[show oG kk x y es=es.set j (x,y) by simp[oG,GR]];refine fin _ _ (cw.modify j fun e=>{ e with key:=u2,val:=u3 }) clock rfl ?_ ?_ ?_
       ·rw[Array.toList_modify];exact hE.set j (fun e he=>⟨⟨adK,pJ⟩,xw,A5,hv3⟩)
       ·rw[Array.toList_modify,Bc (f:=fun e:MapEntry=>{ e with key:=u2,val:=u3 }) (fun _=>rfl)];exact zr.1 h4
       ·intro e he;have:e.born∈(cw.modify j fun e=>{ e with key:=u2,val:=u3 }).toList.map (·.born):=aca.2 ⟨e,he,rfl⟩;rw[Array.toList_modify,Bc (f:=fun e:MapEntry=>{ e with key:=u2,val:=u3 }) (fun _=>rfl)]at this;obtain⟨e',he',h6⟩:=aca.1 this;rw[←h6];exact h5 e' he'
      ·simp only[Instr.mapUpdate,Sem.run_bind,run_underlying hu,Result.andThen_ok,MapKept.run_getObj_map h2,K.check Z w x u2 _ Ga pJ,hf,Option.map_some,SS,Option.getD_some,ve,ZX,MapKept.run_setObj_map _ h2]
    ·cases he
   ·cases he
  ·cases he
 ·cases he
theorem xx{Eqs:TypeId→Option K}(FY:∀t k,Eqs t=some k→nD P t k){hh:Heap}(g:Good Z ψ hh.get w B0 O){t ty:TypeId}{ts:List TypeId}{m i:AV}{u1 u2:Value}{e:bW} (hm:aD Z ψ hh.get w m u1) (hi:aD Z ψ hh.get w i u2) (he:qb P Eqs hh t m i some=some e) :
  ∃hw w',e=.wr (.pe []) hw∧(Builtin.delete_ (t::ts).toArray ty #[u1,u2]).run P w=.ok (.tuple #[]) w'∧Next Z ψ hh.get w B0 O N Z ψ hw.get w':=by
 unfold qb at he
 split at he
 ·rename_i ka va id hmo
  split at he
  ·rename_i kk vk es hg
   split at he
   ·rename_i hc;obtain⟨rfl,rfl⟩:=hc
    split at he
    ·rename_i x hx
     cases he
     obtain⟨a,b,hu,hk,_⟩:=wh hmo;have K:=zp FY hk;obtain⟨Ga,pJ⟩:=Nb g (fun _ _ h=>h) K.flat hx hi;simp only[aD]at hm;have XE:=hm.2 (by rw[hg];simp);obtain⟨r,cw,clock,h1,h2,h3,h4,h5⟩:=g.row id (.map kk vk) es hg;rw[h1]at XE;subst XE;have aG:=(abq.1 h2).1;have oD:ob (ψ id)=some r:=by rw[h1];rfl
     have hf:=K.find Z w x u2 cw.toList (es.map (·.1)) Ga pJ (lG.keys h3);rw[Dt]at hf;have fin:∀(o:Obj) (TD:List (kk.T×vk.T)) (oO:Array MapEntry),o=.map oO clock→lG Z w kk vk TD oO.toList→oO.toList.Sublist cw.toList → Next Z ψ hh.get w B0 O N Z ψ (hh.set id (.own (.map kk vk) TD)).get { w with heap:=w.heap.setIfInBounds r o }:=by rintro o TD oO rfl h6 h7;rw[oM];exact uk (N:=N) g (by rw[hg];simp) oD aG (.map oO clock) (ok:=.map kk vk) (x:=TD) (fun w' Nc sm=>⟨r,oO,clock,h1,by rw[Nc];simp[aG],lG.mono h6 (fun _ h=>h) sm,h4.sublist h7,fun e he=>h5 e (h7.subset he)⟩)
     cases GR:vR kk x es with
     |none =>
      rw[GR]at hf;refine⟨_,{ w with heap:=w.heap.setIfInBounds r (.map cw clock) },rfl,?_,?_⟩
      rotate_left
      ·rw[show Th kk x es=es by simp[Th,GR]];exact fin _ _ cw rfl h3 (List.Sublist.refl _)
      ·simp[Builtin.delete_,run_underlying hu,MapKept.run_getObj_map h2,K.check Z w x u2 _ Ga pJ,hf,MapKept.run_setObj_map _ h2]
     |some j =>
      rw[GR]at hf;have hj:=Im GR;refine⟨_,{ w with heap:=w.heap.setIfInBounds r (.map (cw.eraseIdxIfInBounds j) clock) },rfl,?_,?_⟩
      rotate_left
      ·rw[show Th kk x es=es.eraseIdx j by simp[Th,GR]];refine fin _ _ (cw.eraseIdxIfInBounds j) rfl ?_ ?_
       ·rw[Array.toList_eraseIdxIfInBounds];exact lG.erase h3 j
       ·rw[Array.toList_eraseIdxIfInBounds];exact List.eraseIdx_sublist _ _
      ·simp[Builtin.delete_,run_underlying hu,MapKept.run_getObj_map h2,K.check Z w x u2 _ Ga pJ,hf,MapKept.run_setObj_map _ h2]
    ·cases he
   ·cases he
  ·cases he
 ·cases he
theorem Nd{hh:Heap}(g:Good Z ψ h w B0 O)(bI:∀id o,hh.get id=some o→h id=some o){t ty:TypeId}{x:AV}{u:Value}{e:bW}(ht:MX P t=true)(hx:aD Z ψ h w x u)(he:zh hh x some=some e) :
  ∃n:Nat,e=.val (.int .i64 (n:Int))∧(Builtin.len_ #[t] ty #[u]).run P w=.ok (.int .i64 (n:Int)) w:=by
 unfold zh at he
 split at he
 ·rename_i kk vk es hv
  cases he
  have hu:∃a b,P.underlying t=some (.map a b):=by
   unfold MX at ht
   split at ht
   ·exact⟨_,_,by assumption⟩
   ·cases ht
  obtain⟨a,b,hu⟩:=hu;obtain⟨A,rfl,hA⟩:=O8 g bI hx hv;rcases hA with⟨rfl,rfl⟩|⟨r,cw,clock,rfl,h3,h4⟩
  ·exact⟨0,rfl,by simp[Builtin.len_,run_underlying hu,goInt]⟩
  ·refine⟨es.length,rfl,?_⟩;have:cw.size=es.length:=by rw[h4.1];simp
   simp[Builtin.len_,run_underlying hu,MapKept.run_getObj_map h3,goInt,this]
 ·cases he
theorem Dv(g:Good Z ψ h w B0 O)(hB:B0≤w.heap.size)(id:Nat)(hN:N id){ok:OK}{x:ok.T}{v:Value}(o:Obj)(ho:kH Z (w.alloc o) ok v x)(hb:ob v=some w.heap.size) (bC:∀i ty cs,h i=some (.box ty cs)→aJ (fun i=>i≠id) cs):Next Z ψ h w B0 O N Z (fq ψ id v) (fq h id (some (.own ok x))) (w.alloc o) :=Kd g hB id hN (dF.alloc _ _ _ _) (fun b hb=>heap_alloc_old w _ (g.cc hb)) ho (fun b zt=>by rw[hb]at zt;cases zt;exact ack _) bC
theorem Gb{Eqs:TypeId→Option K}(g:Good Z ψ h w B0 O)(hB:B0≤w.heap.size){id:Nat}(hN:N id){t:TypeId}{e:bW}(bC:∀i ty cs,h i=some (.box ty cs)→aJ (fun i=>i≠id) cs)(he:mT P Eqs id t some=some e) :
  ∃v w' ψ',(Instr.makeMap t none).run P w=.ok v w'∧Next Z ψ h w B0 O N Z ψ' (e.hp h) w'∧aD Z ψ' (e.hp h) w' e.v v:=by
 unfold mT at he
 split at he
 ·rename_i kk vk hmo
  cases he
  refine⟨.map (some w.heap.size),w.alloc (.map #[] 0),fq ψ id (.map (some w.heap.size)),rfl,?_,?_⟩
  ·simp only[bW.hp];rw[jC];exact Dv g hB id hN (ok:=.map kk vk) (x:=[]) _ ⟨w.heap.size,#[],0,rfl,heap_alloc_new _ _,⟨rfl,fun i x e h=>by simp at h⟩,by simp,by simp⟩ rfl bC
  ·simp only[bW.v,bW.hp,aD];exact⟨⟨rfl,rfl⟩,fun _=>(bD _ _ _).symm⟩
 ·cases he
theorem Ip(g:Good Z ψ h w B0 O)(hB:B0≤w.heap.size){id:Nat}(hN:N id){t:TypeId}{x:AV}{u:Value}{e:bW}(hx:aD Z ψ h w x u)(bC:∀i ty cs,h i=some (.box ty cs)→aJ (fun i=>i≠id) cs)(he:qc P id t x some=some e) :
  ∃v w' ψ',(Instr.range t u).run P w=.ok v w'∧Next Z ψ h w B0 O N Z ψ' (e.hp h) w'∧aD Z ψ' (e.hp h) w' e.v v:=by
 unfold qc at he
 split at he
 ·rename_i sv hu
  cases he
  simp only[aD]at hx;subst hx;refine⟨.pointer (some ⟨w.heap.size,0,none⟩),w.alloc (.stringIter sv 0),fq ψ id (.pointer (some ⟨w.heap.size,0,none⟩)),?_,?_,?_⟩
  ·simp only[Instr.range,Sem.run_bind,run_underlying hu,Result.andThen_ok,Sem.run_pure];rfl
  ·simp only[bW.hp];rw[jC];exact Dv g hB id hN (ok:=.pZ) (x:=(sv,0)) _ ⟨w.heap.size,rfl,heap_alloc_new _ _⟩ rfl bC
  ·simp only[bW.v,bW.hp,aD];exact⟨⟨rfl,rfl⟩,fun _=>(bD _ _ _).symm⟩
 ·cases he
theorem im{r:Nat}{o:Obj}(hb:w.heap[r]? = some o)(hc:∀c e f,o≠.cells c e f):(getObj r).run P w=.ok o w:=by cases o<;>first|(exact absurd rfl (hc _ _ _))|simp[getObj,Sem.run,hb]
theorem Dx{r:Nat}{o o':Obj}(hb:w.heap[r]? = some o)(hc:∀c e f,o≠.cells c e f):(setObj r o').run P w=.ok () { w with heap:=w.heap.setIfInBounds r o' }:=by cases o<;>first|(exact absurd rfl (hc _ _ _))|simp[setObj,Sem.run,hb]
theorem Kp{hh:Heap}(g:Good Z ψ h w B0 O)(bI:∀id o,hh.get id=some o→h id=some o){ty:TypeId}{x:AV}{u:Value}{e:bW}(hx:aD Z ψ h w x u)(mU:∀v hw,e=.wr v hw→hh.get=h)(he:tX hh x some=some e) :
  ∃v w',(Instr.next u true ty).run P w=.ok v w'∧Next Z ψ h w B0 O N Z ψ (e.hp h) w'∧aD Z ψ (e.hp h) w' e.v v:=by
 unfold tX at he
 split at he
 ·rename_i id
  split at he
  ·rename_i x hg;have Dn:=bI _ _ hg;simp only[aD]at hx;have hu:=hx.2 (by rw[Dn];simp);obtain⟨r,h1,h2⟩:=g.row id .pZ x Dn;rw[h1]at hu;subst hu
   cases hc:decide (x.2<x.1.size) with
   |true =>
    rw[hc]at he;cases he;have heq:=mU _ _ rfl;simp only[decide_eq_true_eq]at hc;have aG:=(abq.1 h2).1;refine⟨.tuple #[.bool true,goInt x.2,.int .i32 (Utf8.decode x.1 x.2).1],{ w with heap:=w.heap.setIfInBounds r (.stringIter x.1 (x.2+(Utf8.decode x.1 x.2).2)) },?_,?_,?_⟩
    ·simp only[Instr.next,Sem.run_bind,im h2 (by simp),Result.andThen_ok,hc,if_true,Dx h2 (by simp),Sem.run_pure]
    ·simp only[bW.hp];rw[oM,heq];exact uk (N:=N) g (by rw[Dn];simp) (by rw[h1];rfl) aG _ (ok:=.pZ) (x:=(x.1,x.2+C0 x.1 x.2)) (fun w' Nc _=>⟨r,h1,by rw[Nc];simp[aG,C0]⟩)
    ·simp only[bW.v,aD,ax];exact⟨_,rfl,_,_,rfl,rfl,_,_,rfl,rfl,_,_,rfl,rfl,rfl⟩
   |false =>
    rw[hc]at he;cases he;simp only[decide_eq_false_iff_not]at hc;refine⟨.tuple #[.bool false],w,?_,Next.refl g,?_⟩
    ·simp only[Instr.next,Sem.run_bind,im h2 (by simp),Result.andThen_ok,hc,if_false,Sem.run_pure]
    ·simp only[bW.v,aD,ax];exact⟨_,rfl,_,_,rfl,rfl,rfl⟩
  ·cases he
 ·cases he
theorem find_born{l:List MapEntry}(h:l.Pairwise (fun a b=>a.born≠b.born)){e:MapEntry}(he:e∈l):l.find? (fun x=>x.born==e.born)=some e:=by
 induction l with
 |nil=>cases he
 |cons a r ih =>
  obtain⟨h1,h2⟩:=List.pairwise_cons.1 h;rw[List.find?_cons];rcases abd.1 he with rfl|he
  ·simp
  ·have:(a.born==e.born)=false:=by simpa using h1 e he
   rw[this];exact ih h2 he
theorem Kq{hh:Heap}(g:Good Z ψ h w B0 O)(bI:∀id o,hh.get id=some o→h id=some o){x:AV}{u:Value}{e:bW}(hx:aD Z ψ h w x u)(he:tY hh x some=some e) :
  ∃y v,e=.val y∧(Instr.entry u).run P w=.ok v w∧aD Z ψ h w y v:=by
 unfold tY at he
 split at he
 ·rename_i id
  split at he
  ·rename_i kk vk c rest hg
   cases he
   have Dn:=bI _ _ hg;simp only[aD]at hx;have hu:=hx.2 (by rw[Dn];simp);obtain⟨r,m,since,seen,cw,clock,h1,h2,h3,h4,h5,h6,h7,h8,h9⟩:=g.row id (.iter kk vk) (some c,rest) Dn;rw[h1]at hu;subst hu;obtain⟨en,oC,BW,MQ⟩:=h9;obtain⟨⟨k1,k2,k3⟩,v1,v2,v3⟩:=MQ.2 0 c en rfl rfl;refine⟨_,.tuple #[en.key,en.val],rfl,?_,?_⟩
   ·have hf:cw.find? (·.born==en.born)=some en:=by
     have:=find_born h5 oC
     rwa [←Array.find?_toList]
    simp only[Instr.entry,Sem.run_bind,im h2 (by simp),Result.andThen_ok,BW,Sem.run_pure,im h4 (by simp),hf];simp
   ·simp only[aD,ax];exact⟨_,rfl,_,_,rfl,nu k1 k2 k3,_,_,rfl,nu v1 v2 v3,rfl⟩
  ·cases he
 ·cases he
mutual
theorem aQ.imp{p q:Nat→Prop}(w8:∀i,p i→q i):∀{a:AV},aQ p a→aQ q a
 |.no,_=>by simp only[aQ]
 |.bool b,_=>by simp only[aQ]
 |.int k n,_=>by simp only[aQ]
 |.str s,_=>by simp only[aQ]
 |.mC,_=>by simp only[aQ]
 |.ib,_=>by simp only[aQ]
 |.ref id s i off,h=>by simp only[aQ]at h ⊢;exact w8 _ h
 |.fp k x off,_=>by simp only[aQ]
 |.sl ex k xs,_=>by simp only[aQ]
 |.mp kk vk es,_=>by simp only[aQ]
 |.bV id,h=>by simp only[aQ]at h ⊢;exact w8 _ h
 |.fn f cap,h=>by simp only[aQ]at h ⊢;exact aJ.imp w8 h
 |.agg cs,h=>by simp only[aQ]at h ⊢;exact aJ.imp w8 h
 |.pe cs,h=>by simp only[aQ]at h ⊢;exact aJ.imp w8 h
theorem aJ.imp{p q:Nat→Prop}(w8:∀i,p i→q i):∀{a:List AV},aJ p a→aJ q a
 |[],_=>by simp only[aJ]
 |a::r,h=>by simp only[aJ]at h ⊢;exact⟨aQ.imp w8 h.1,aJ.imp w8 h.2⟩
end
theorem aQ.cells{p:Nat→Prop}{a:AV}(h:aQ p a):aJ p a.cells:=by
 cases a with
 |agg cs=>simpa only[AV.cells,aQ] using h
 |_=>simp only[AV.cells,aJ];exact⟨h,trivial⟩
theorem Dy:∀{cs:List AV},J8 cs=true→∀id,AV.bV id∉cs
 |[],_,id=>by simp
 |c::r,hn,id=>by
  intro hm
  cases c with
  |bV i=>simp[J8]at hn
  |_ =>
   simp only[J8]at hn;rcases abd.1 hm with e|hm
   ·cases e
   ·exact Dy hn id hm
theorem tc:∀{vs:List AV},sL vs=true→∀v∈vs,∀id,AV.bV id∉v.cells
 |[],_,v,hv=>by simp at hv
 |a::r,hn,v,hv=>by
  simp only[sL,Bool.and_eq_true]at hn;rcases abd.1 hv with rfl|hv
  ·exact Dy hn.1
  ·exact tc hn.2 v hv
def xy(o:Oper):Bool :=match o.op with
 |.call { callee:=.value _,.. }=>true
 |_=>false
theorem Ng{s:List (Nat×AV)}{ρC:Operand→Value}{x:Option Operand}(hx:∀y,x=some y→aD Z ψ h w (ρ s y) (ρC y)):fG Z ψ h w (x.map (ρ s)) (x.map ρC):=by
 cases x with
 |none=>trivial
 |some y=>exact hx y rfl
theorem Dz{s:List (Nat×AV)}{ρC:Operand→Value}:∀(ps:List (Nat×Operand)),(∀p∈ps,aD Z ψ h w (ρ s p.2) (ρC p.2))→(∀p∈ps,ρ s p.2≠.no)→vh Z ψ h w (ps.map fun p=>(p.1,ρ s p.2)) (ps.map fun p=>(p.1,ρC p.2))
 |[],_,_=>trivial
 |p::r,h1,h2=>⟨rfl,h2 p (by simp),h1 p (by simp),Dz r (fun q hq=>h1 q (aa1 _ hq)) (fun q hq=>h2 q (aa1 _ hq))⟩
theorem GS{k:K}{hh:Heap}:∀{ps:List (Nat×AV)} {i:Nat} {xs:List k.T},sQ k hh i ps=some xs→∀p∈ps,p.2≠.no
 |[],_,_,_,p,hp=>by simp at hp
 |(j,v)::r,i,xs,hl,p,hp=>by
  simp only[sQ]at hl
  split at hl
  ·split at hl
   ·rename_i x ys h1 h2;rcases abd.1 hp with rfl|hp
    ·exact GN h1
    ·exact GS h2 p hp
   ·cases hl
  ·cases hl
theorem abk{α:Type}{l:List α}(h:l.length=0+1+1):∃x y,l=[x,y]:=by
 cases l with
 |nil=>simp at h
 |cons a r=>cases r with
  |nil=>simp at h
  |cons b s=>cases s with
   |nil=>exact⟨a,b,rfl⟩
   |cons c q=>simp at h
theorem Nh{a:AV}(h:ZR a=true):a≠.no:=by rintro rfl;cases h
section
variable {Eqs:TypeId→Option K} {Sg:FuncId→Option aX} {F:(f:FuncId)→(g:aX)→g.A→Option g.B}
theorem Iq{hh:Heap}{ρC:Operand→Value}{o:Oper}(g:Good Z ψ h w B0 O)(hB:B0≤w.heap.size)(bI:∀id o,hh.get id=some o→h id=some o){id:Nat}(hN:N id){t:TypeId}{s x:AV}{u v:Value}{e:bW} (hs:aD Z ψ h w s u) (hx:aD Z ψ h w x v) (Ir:aQ (fun i=>¬N i) s) (bC:∀i ty cs,h i=some (.box ty cs)→aJ (fun i=>¬N i) cs) (mU:∀v hw,e=.wr v hw→hh.get=h) (he:p7 P hh id t s x some=some e) (ep:∀V w',(Builtin.append_ #[t,t] o.type #[u,v]).run P w=.ok V w'→(execOp ρC o).run P w=.ok (.value V) w'):iY P ρC o Z ψ h w B0 O N e:=by
 have XF:∀i ty cs,h i=some (.box ty cs)→aJ (fun i=>i≠id) cs:=fun i ty cs hb=>(bC i ty cs hb).imp (fun j hj e=>hj (by rw[e];exact hN));unfold p7 at he
 split at he
 ·cases he
 ·rename_i et het;have ht:=pH het
  split at he
  ·cases he
  ·rename_i kk Ni
   split at he
   ·rename_i ys QR nE;obtain⟨inf,z,MN⟩:=cS nE
    split at he
    ·
     cases hc:aU 0 ys.length with
     |false=>rw[hc]at he;cases he
     |true =>rw[hc]at he;cases he;simp only[aU,decide_eq_true_eq]at hc;simp only[aD]at hs;subst hs;obtain⟨V,w',h1,h2,h3⟩:=r9 (P:=P) (ty:=o.type) g bI hB hN ht MN QR hx (by omega) XF;refine⟨V,w',Z,_,.inl (ep V w' h1),by simp only[bW.hp];rw[jC];exact h2,?_⟩;simp only[bW.v,bW.hp,aD];exact⟨h3,fun _=>(bD _ _ _).symm⟩
    ·
     rename_i dr
     split at he
     ·rename_i e' k' xs hg
      split at he
      ·rename_i hc;obtain⟨rfl,rfl⟩:=hc
       cases qS:aU xs.length ys.length with
       |false=>rw[qS]at he;cases he
       |true =>rw[qS]at he;cases he;simp only[aU,decide_eq_true_eq]at qS;have heq:=mU _ _ rfl;have Dn:=bI _ _ hg;simp only[aD]at hs;have hu:=hs.2 (by rw[Dn];simp);subst hu;simp only[aQ]at Ir;obtain⟨V,w',h1,h2,h3⟩:=BX (P:=P) (ty:=o.type) g bI hB hN (fun e=>Ir (by rw[e];exact hN)) ht MN Dn QR hx qS XF;refine⟨V,w',Z,_,.inl (ep V w' h1),by simp only[bW.hp];rw[oM,xq,heq];exact h2,?_⟩;simp only[bW.v,bW.hp,aD];exact⟨h3,fun _=>(bD _ _ _).symm⟩
      ·cases he
     ·cases he
    ·
     rename_i ex k' xs
     split at he
     ·rename_i hc;subst hc
      cases qS:(ex&&((!ys.isEmpty || xs.isEmpty)&&aU xs.length ys.length)) with
      |false=>rw[qS]at he;cases he
      |true =>rw[qS]at he;cases he;simp only[Bool.and_eq_true,Bool.or_eq_true,aU,decide_eq_true_eq,Bool.not_eq_true',List.isEmpty_eq_false_iff,List.isEmpty_iff]at qS;obtain⟨rfl,bq,X8⟩:=qS;obtain⟨V,w',h1,h2,h3⟩:=Dh (P:=P) (ty:=o.type) g bI hB hN ht MN hs QR hx (bq.imp List.length_pos_iff.2 (fun h=>h)) X8 XF;refine⟨V,w',Z,_,.inl (ep V w' h1),by simp only[bW.hp];rw[jC];exact h2,?_⟩;simp only[bW.v,bW.hp,aD];exact⟨h3,fun _=>(bD _ _ _).symm⟩
     ·cases he
    ·cases he
   ·cases he
theorem DA{ρC:Operand→Value}{o:Oper}(g:Good Z ψ h w B0 O)(hB:B0≤w.heap.size){id:Nat}(hN:N id){t:TypeId}{vs:List AV}{us:Array Value}{e:bW}(hr:ax Z ψ h w vs us.toList)(h1:∀u∈us.toList,u.oneCell'=true) (hm:aJ (fun i=>¬N i) vs) (bC:∀i ty cs,h i=some (.box ty cs)→aJ (fun i=>¬N i) cs) (he:zk id t vs some=some e) (ep:(execOp ρC o).run P w=.ok (.value (.pointer (some ⟨w.heap.size,0,none⟩))) (w.alloc (.cells us t))):iY P ρC o Z ψ h w B0 O N e:=by
 unfold zk at he
 cases he
 have bq:∀i,¬N i→i≠id:=fun j hj e=>hj (by rw[e];exact hN);have n:=Dc (N:=N) g hB id t hN hr h1 (fun i ty cs hb=>(bC i ty cs hb).imp bq) (hm.imp bq);refine⟨_,_,Z,_,.inl ep,by simp only[bW.hp];rw[jC];exact n,?_⟩;simp only[bW.v,bW.hp,aD];exact⟨_,rfl,fun _=>by rw[bD];simp[XZ]⟩
theorem QS{hh:Heap}{ρC:Operand→Value}{s:List (Nat×AV)}{o:Oper}(g:Good Z ψ h w B0 O)(hB:B0≤w.heap.size)(bI:∀id o,hh.get id=some o→h id=some o){id:Nat}(hN:N id){t:TypeId}{n:Nat}{ps:Array (Nat×Operand)}{e:bW} (pV:∀p∈ps.toList,aD Z ψ h w (ρ s p.2) (ρC p.2)) (bC:∀i ty cs,h i=some (.box ty cs)→aJ (fun i=>¬N i) cs) (mj:Bool) {e0:bW} (X9:e=if mj then XY e0 else e0) (mU:∀v hw,e=.wr v hw→hh.get=h) (he:xe P hh id t n (ps.toList.map fun p=>(p.1,ρ s p.2)) some=some e0)
  (ep:∀V w',(Instr.buildSlice t n (ps.map fun p=>(p.1,ρC p.2))).run P w=.ok V w'→(execOp ρC o).run P w=.ok (.value V) w'):iY P ρC o Z ψ h w B0 O N e:=by
 have XF:∀i ty cs,h i=some (.box ty cs)→aJ (fun i=>i≠id) cs:=fun i ty cs hb=>(bC i ty cs hb).imp (fun j hj e=>hj (by rw[e];exact hN));unfold xe at he
 split at he
 ·cases he
 ·rename_i et het;have ht:=pH het
  split at he
  ·cases he
  ·rename_i k hk
   split at he
   ·cases he
   ·cases he
   ·rename_i xs qg nE;obtain⟨inf,z,MN⟩:=cS nE;have Nj:=Dz (Z:=Z) (ψ:=ψ) (h:=h) (w:=w) ps.toList pV (fun p hp=>GS qg (p.1,ρ s p.2) (aca.2 ⟨p,hp,rfl⟩));have O9:vh Z ψ hh.get w (ps.toList.map fun p=>(p.1,ρ s p.2)) (ps.map fun p=>(p.1,ρC p.2)).toList:=by rw[Array.toList_map];exact Nj.ss bI
    split at he
    ·rename_i hc;obtain⟨rfl,hn⟩:=hc
     cases su:sL ((ps.toList.map fun p=>(p.1,ρ s p.2)).map (·.2)) with
     |true =>
      rw[su]at he;cases he;have ai9:=tc su;obtain⟨V,w',h1,h2,h3⟩:=Kh (P:=P) (N:=N) g (g.sub bI) (fun _ h=>h) hB hN ht MN (fun p hp i b hm=>absurd hm (ai9 p.2 (aca.2 ⟨p,hp,rfl⟩) i)) O9 qg hn XF
      cases mj with
      |false =>have X9:e=.new (.bV id) [(id,.own (.row et k) xs)]:=X9;subst X9;refine⟨V,w',Z,_,.inl (ep V w' h1),by simp only[bW.hp];rw[jC];exact h2,?_⟩;simp only[bW.v,bW.hp,aD];exact⟨h3.1,fun _=>(bD _ _ _).symm⟩
      |true =>
       have X9:e=.new (.sl true k xs) []:=X9;subst X9;obtain⟨m1,m2⟩:=Tv g hB h2 h3.2.1 h3.2.2.1 h3.2.2.2;have e1:(bW.new (.sl true k xs) []).hp h=h:=by funext i;simp[bW.hp,Heap.get]
       refine⟨V,w',_,_,.inl (ep V w' h1),by rw[e1];exact m1,?_⟩;rw[e1];exact m2
     |false =>
      rw[su]at he;cases he;have X9:e=.wr (.bV id) ((id,.own (.row et k) xs)::dg hh ((ps.toList.map fun p=>(p.1,ρ s p.2)).flatMap (·.2.cells))):=by rw[X9];cases mj<;>rfl
      subst X9;have heq:=mU _ _ rfl;subst heq
      let cs:=(ps.toList.map fun p=>(p.1,ρ s p.2)).flatMap (·.2.cells)
      have gd:=jB g cs;obtain⟨V,w',h1,h2,h3⟩:=Kh (P:=P) (N:=N) gd g (fun b hb=>.inl hb) hB hN ht MN (fun p hp i b hm bq hb=>.inr ⟨i,List.mem_flatMap.2 ⟨p,hp,hm⟩,bq,hb⟩) O9 qg hn (fun i ty cs' hb=>XF i ty cs' (fm _ _ _ _ hb));refine⟨V,w',sH Z ψ hh.get cs,fq ψ id V,.inl (ep V w' h1),?_,?_⟩
      ·simp only[bW.hp];rw[Dm];exact h2.drop (fun b hb=>.inl hb) (fun b hb=>hb.imp (fun h=>h) (fun⟨i,_,h5,h6⟩=>⟨i,h5,h6⟩)) (fm _ _)
      ·simp only[bW.v,bW.hp,aD];exact⟨h3.1,fun _=>(bD _ _ _).symm⟩
    ·cases he
theorem QT{mj:Bool}{h:Heap}{id:Nat}{t:TypeId}{n:Nat}{ps:List (Nat×AV)}{e:bW}(he:zm P mj h id t n ps some=some e):∃e0,xe P h id t n ps some=some e0∧e=if mj then XY e0 else e0:=by
 unfold zm xe at he;unfold xe
 split at he
 ·cases he
 split at he
 ·cases he
 split at he
 ·cases he
 ·cases he
 split at he
 ·rename_i hc;rw[if_pos hc]
  cases su:sL (ps.map (·.2)) with
  |true=>rw[su]at he;exact⟨_,rfl,(aby he).symm⟩
  |false=>rw[su]at he;exact⟨_,rfl,(aby he).symm⟩
 ·cases he
theorem DB(p:Nat→Prop)(v:Value):aQ p (y0 v):=by
 cases v with
 |pointer a=>simp only[y0];split<;>simp only[aQ]
 |slice a n c=>simp only[y0];split<;>simp only[aQ]
 |func fn first cap =>
  cases fn with
  |func f=>simp only[y0];split<;>simp only[aQ,aJ]
  |_=>simp only[y0,aQ]
 |_=>simp only[y0,aQ]
theorem zu(p:Nat→Prop):∀vs:List Value,aJ p (vs.map y0)
 |[]=>by simp[aJ]
 |v::r=>by simp only[List.map_cons,aJ];exact⟨DB p v,zu p r⟩
theorem QU(p:Nat→Prop)(v:Value):aJ p (vO v).cells:=by
 cases v with
 |agg cs=>simp only[vO,AV.cells];exact zu p _
 |_=>simp only[vO];rw[GM];simp only[aJ];exact⟨DB p _,trivial⟩
theorem TE(FY:∀t k,Eqs t=some k→nD P t k){hh:Heap}{ρC:Operand→Value}{s:List (Nat×AV)}{o:Oper}(g:Good Z ψ h w B0 O)(hB:B0≤w.heap.size)(bI:∀id o,hh.get id=some o→h id=some o){id:Nat}(hN:makes o.op=true→N id){e:bW} (pV:∀x∈o.op.operands,aD Z ψ h w (ρ s x) (ρC x)) (hm:∀x∈o.op.operands,aQ (fun i=>¬N i) (ρ s x)) (bC:∀i ty cs,h i=some (.box ty cs)→aJ (fun i=>¬N i) cs) (mU:∀v hw,e=.wr v hw→hh.get=h) (MR:xy o=false) (he:dw P Eqs Sg F id hh s o some=some e):iY P ρC o Z ψ h w B0 O N e:=by
 obtain⟨dst,op,type,pos,after,guard⟩:=o;have two:∀{a b:Operand},(∀x∈(#[a,b]:Array Operand),aD Z ψ h w (ρ s x) (ρC x))→aD Z ψ h w (ρ s a) (ρC a)∧aD Z ψ h w (ρ s b) (ρC b):=fun hx=>⟨hx _ (by simp),hx _ (by simp)⟩
 cases op<;>simp only[dw]at he<;>simp only[Op.operands]at pV hm<;>first|(cases he;done)|skip
 case move x=>cases he;exact iY.val g (V:=ρC x) (by simp[execOp]) (pV x (by simp))
 case assign x=>cases he;exact iY.val g (V:=ρC x) (by simp[execOp]) (pV x (by simp))
 case pick c a b =>
  have h1:=pV c (by simp);have h2:=pV a (by simp);have h3:=pV b (by simp)
  split at he
  ·rename_i t ht
   cases he
   rw[ht]at h1;simp only[aD]at h1;refine iY.val g (V:=if t then ρC a else ρC b) (by simp[execOp,h1,asBool]) ?_;unfold ZQ
   split
   ·rename_i p q hp hq;rw[hp]at h2;rw[hq]at h3;simp only[aD]at h2 h3 ⊢
    cases t<;>simp[h2,h3]
   ·cases t
    ·exact h3
    ·exact h2
  ·cases he
 case alloc t =>
  split at he
  ·rename_i z hz;obtain⟨i,zv,hi,hzz,rfl,h1⟩:=q6 hz;exact DA (us:=zv.cells) g hB (hN rfl) (Dk zv) h1 (QU _ zv) bC he (by simp[execOp,Instr.alloc,xp hi hzz,newVar,newRow,newObj,Sem.run])
  ·cases he
 case box t x =>
  have h1:=pV x (by simp)
  split at he
  ·rename_i hp;have hc:=h1.cells (Kl hp);exact DA (us:=(ρC x).cells) g hB (hN rfl) hc (wb hp hc) (hm x (by simp)).cells bC he (by simp[execOp,Instr.box,newVar,newRow,newObj,Sem.run])
  ·cases he
 case build t ps =>
  unfold tZ at he
  split at he
  ·rename_i z fs hz hf
   split at he
   ·rename_i cs adM fX
    cases he
    simp only[Bool.and_eq_true]at fX;obtain⟨fX,hnn⟩:=fX;have adN:fs.toList.all (fun f=>(P.info? f.type).isSome)=true:=fX;have abl:∀p∈ps.toList,aD Z ψ h w (ρ s p.2) (ρC p.2):=fun p hp=>pV p.2 (by simp;exact⟨p.1,by simpa using hp⟩);have Nj:=Dz (Z:=Z) (ψ:=ψ) (h:=h) (w:=w) ps.toList abl (fun p hp=>Nh (ac3.1 hnn (p.1,ρ s p.2) (aca.2 ⟨p,hp,rfl⟩)));obtain⟨V,h1,h2⟩:=QI (P:=P) (qs:=ps.map fun p=>(p.1,ρC p.2)) hz hf adN (by rw[Array.toList_map];exact Nj) adM;exact iY.val g (V:=V) (by simp only[execOp,Sem.run_bind];rw[h1];simp) h2
   ·cases he
  ·cases he
 case buildSlice t n ps =>
  have abl:∀p∈ps.toList,aD Z ψ h w (ρ s p.2) (ρC p.2):=fun p hp=>pV p.2 (by simp;exact⟨p.1,by simpa using hp⟩);obtain⟨e0,h0,h1⟩:=QT he;exact QS g hB bI (hN rfl) abl bC (ZS Sg t _) h1 mU h0 (fun V w' h1=>by simp only[execOp,Sem.run_bind];rw[h1];simp)
 case load t a =>
  obtain⟨x,V,rfl,h1,h2⟩:=v7 g bI (pV a (by simp)) he;exact iY.val g (V:=V) (by simp[execOp,h1]) h2
 case store t a v =>
  obtain⟨h1,h2⟩:=two pV;have hw:∃hw,e=.wr .no hw:=by obtain⟨hw,_,_,h3,_⟩:=Ba (P:=P) (N:=N) (g.sub bI) (h1.ss bI) (h2.ss bI) he;exact⟨hw,h3⟩
  obtain⟨hw,rfl⟩:=hw;have heq:=mU _ _ rfl;subst heq;obtain⟨Nc,w',Z',h3,h4,h5⟩:=Ba (P:=P) (N:=N) g h1 h2 he
  cases h3
  exact⟨undef,w',Z',ψ,.inr ⟨by simp[execOp,h4],rfl⟩,h5,by simp only[bW.v,aD]⟩
 case nilCheck x =>
  have h1:=pV x (by simp)
  split at he
  ·rename_i id s i off hx
   cases he
   rw[hx]at h1;have h2:=h1;simp only[aD]at h1;obtain⟨a,ha,_⟩:=h1;exact iY.val g (V:=ρC x) (by simp[execOp,ha]) h2
  ·rename_i k y off hx
   cases he
   rw[hx]at h1;have h2:=h1;simp only[aD]at h1;obtain⟨a,us,ha,_⟩:=h1;exact iY.val g (V:=ρC x) (by simp[execOp,ha]) h2
  ·rename_i f cap hx
   cases he
   rw[hx]at h1;have h2:=h1;simp only[aD]at h1;obtain⟨vs,ha,_⟩:=h1;exact iY.val g (V:=ρC x) (by simp[execOp,ha]) h2
  ·cases he
 case binOp op t x y yt =>
  obtain⟨h1,h2⟩:=two pV;obtain⟨r,V,rfl,h3,h4⟩:=QO FY (xo:=x) (yo:=y) h1 h2 he;exact iY.val g (V:=V) (by simp only[execOp,Sem.run_bind]at h3 ⊢;rw[h3];simp) h4
 case unOp op t x =>
  have h1:=pV x (by simp)
  cases op<;>simp only at he<;>first|(cases he;done)|skip
  split at he
  ·rename_i b hx
   cases he
   rw[hx]at h1;simp only[aD]at h1;exact iY.val g (V:=.bool (!b)) (by simp[execOp,h1,Op.unary]) (by simp only[aD])
  ·cases he
 case convert src dst x =>
  have h1:=pV x (by simp);unfold C5 at he
  split at he
  ·rename_i k1 k2 k3 n hs hd hx
   cases he
   rw[hx]at h1;simp only[aD]at h1;exact iY.val g (V:=.int k2 (k2.wrap n)) (by simp[execOp,h1,convert,run_underlying hs,run_underlying hd,Conv.intToInt]) (by simp only[aD])
  ·rename_i sv hs hd hx
   cases he
   rw[hx]at h1;have h2:=h1;simp only[aD]at h1;exact iY.val g (V:=ρC x) (by simp[execOp,h1,convert,run_underlying hs,run_underlying hd]) h2
  ·cases he
 case makeFunc fn first cap =>
  cases fn<;>simp only at he<;>first|(cases he;done)|skip
  rename_i f
  split at he
  ·rename_i hf
   cases he
   have h0:first=#[]:=adt hf
   subst h0;have hl:∀l:List Operand,(∀x∈l,aD Z ψ h w (ρ s x) (ρC x))→ax Z ψ h w (l.map (ρ s)) (l.map ρC):=by
    intro l
    induction l with
    |nil=>intro _;simp[ax]
    |cons a r ih=>intro ha;simp only[List.map_cons,ax];exact⟨_,_,rfl,ha a (by simp),ih (fun x hx=>ha x (aa1 _ hx))⟩
   exact iY.val g (V:=.func (.func f) #[] (cap.map ρC)) (by simp[execOp,Instr.makeFunc]) (by simp only[aD];exact⟨_,rfl,by rw[Array.toList_map];exact hl _ (fun x hx=>pV x (by simp;simpa using hx))⟩)
  ·cases he
 case slice t x lo hi mx =>
  have h1:=pV x (by simp);have h2:fG Z ψ h w (lo.map (ρ s)) (lo.map ρC):=Ng (fun y hy=>pV y (by subst hy;simp));have h3:fG Z ψ h w (hi.map (ρ s)) (hi.map ρC):=Ng (fun y hy=>pV y (by subst hy;simp));have h4:fG Z ψ h w (mx.map (ρ s)) (mx.map ρC):=Ng (fun y hy=>pV y (by subst hy;simp))
  split at he
  ·rename_i ht;unfold zg at he
   split at he
   ·rename_i sv hx hmx
    split at he
    ·rename_i l u hb
     cases ho:bu sv.size l u with
     |false=>rw[ho]at he;cases he
     |true =>
      rw[ho]at he;cases he;rw[hx]at h1;simp only[aD]at h1;have hm0:mx=none:=by cases mx with
       |none=>rfl
       |some m=>simp at hmx
      subst hm0;have ep:=wa (P:=P) (w:=w) (b:=false) (ack sv.size) h2 h3 (mx:=none) (mx':=none) trivial hb ho (.inl rfl);exact iY.val g (V:=.string (aba sv l u)) (by simp[execOp,Instr.sliceAt,Instr.slice,run_underlying ht,h1,ep,aba]) (by simp only[aD])
    ·cases he
   ·cases he
  ·rename_i et ht
   split at he
   ·rename_i X5;obtain⟨V,Z',h5,h6,h7⟩:=Kk (P:=P) (N:=N) g bI ht h1 h2 h3 h4 mU he X5;exact⟨V,w,Z',ψ,.inl (by simp[execOp,h5]),h6,h7⟩
   ·cases he
  ·cases he
 case fieldAddr t x f =>
  have h1:=pV x (by simp)
  split at he
  ·rename_i n ft id sz i off hf hx
   split at he
   ·cases he
   ·rename_i hc
    cases he
    rw[hx]at h1;obtain⟨V,h2,h3⟩:=vm (P:=P) hf hc h1;exact iY.val g (V:=V) (by simp[execOp,h2]) h3
  ·rename_i n ft k y off hf hx
   split at he
   ·cases he
   ·rename_i hc
    cases he
    rw[hx]at h1;obtain⟨V,h2,h3⟩:=xt (P:=P) hf hc h1;exact iY.val g (V:=V) (by simp[execOp,h2]) h3
  ·cases he
 case field t x f =>
  have h1:=pV x (by simp)
  split at he
  ·rename_i n ft cs hf hx
   split at he
   ·rename_i v hv
    cases he
    rw[hx]at h1;obtain⟨V,h2,h3⟩:=Kj (P:=P) hf h1 hv;exact iY.val g (V:=V) (by simp[execOp,h2]) h3
   ·cases he
  ·cases he
 case indexAddr t x i =>
  obtain⟨h1,h2⟩:=two pV;obtain⟨y,V,rfl,h3,h4⟩:=sd g bI h1 h2 he;exact iY.val g (V:=V) (by simp[execOp,h3]) h4
 case index t x i =>
  obtain⟨h1,h2⟩:=two pV
  split at he
  ·rename_i sv ik n ht hx hi;obtain⟨c,hc,XC⟩:=ac4.1 he
   cases XC
   rw[hx]at h1;rw[hi]at h2;simp only[aD]at h1 h2;exact iY.val g (V:=.int .u8 (c.toNat:Int)) (by simp[execOp,Instr.index,asIntOf,run_underlying ht,h1,h2,hc]) (by simp only[aD])
  ·cases he
 case extract t i =>
  have h1:=pV t (by simp)
  split at he
  ·rename_i vs hx
   split at he
   ·rename_i v hv
    cases he
    rw[hx]at h1;simp only[aD]at h1;obtain⟨us,hu,hl⟩:=h1;obtain⟨u,h2,h3⟩:=hl.get i hv;exact iY.val g (V:=u) (by simp[execOp,Instr.extract,hu,show us[i]? = some u by simpa using h2]) h3
   ·cases he
  ·cases he
 case makeMap t r =>
  cases r with
  |some r=>cases he
  |none =>simp only at he;have XF:∀i ty cs,h i=some (.box ty cs)→aJ (fun i=>i≠id) cs:=fun i ty cs hb=>(bC i ty cs hb).imp (fun j hj e=>hj (by rw[e];exact hN rfl));obtain⟨V,w',ψ',h1,h2,h3⟩:=Gb g hB (hN rfl) XF he;exact⟨V,w',Z,ψ',.inl (by simp[execOp,h1]),h2,h3⟩
 case lookup t m i ok =>
  obtain⟨h1,h2⟩:=two pV;obtain⟨y,V,rfl,h3,h4⟩:=Io FY g bI h1 h2 he;exact iY.val g (V:=V) (by simp[execOp,h3]) h4
 case mapUpdate t m i v =>
  have h1:=pV m (by simp);have h2:=pV i (by simp);have h3:=pV v (by simp);have hw:∃hw,e=.wr (.pe []) hw:=by obtain⟨hw,_,_,h4,_⟩:=xu (N:=N) FY (g.sub bI) (h1.ss bI) (h2.ss bI) (h3.ss bI) he;exact⟨hw,h4⟩
  obtain⟨hw,rfl⟩:=hw;have heq:=mU _ _ rfl;subst heq;obtain⟨Nc,w',Z',h4,h5,h6⟩:=xu (N:=N) FY g h1 h2 h3 he
  cases h4
  exact⟨undef,w',Z',ψ,.inr ⟨by simp[execOp,h5],rfl⟩,h6,by simp only[bW.v,aD,ax];exact⟨#[],rfl,rfl⟩⟩
 case range t x =>
  have XF:∀i ty cs,h i=some (.box ty cs)→aJ (fun i=>i≠id) cs:=fun i ty cs hb=>(bC i ty cs hb).imp (fun j hj e=>hj (by rw[e];exact hN rfl));obtain⟨V,w',ψ',h1,h2,h3⟩:=Ip g hB (hN rfl) (pV x (by simp)) XF he;exact⟨V,w',Z,ψ',.inl (by simp[execOp,h1]),h2,h3⟩
 case next x b =>
  cases b with
  |false=>cases he
  |true =>obtain⟨V,w',h1,h2,h3⟩:=Kp (P:=P) (N:=N) (ty:=type) g bI (pV x (by simp)) mU he;exact⟨V,w',Z,ψ,.inl (by simp[execOp,h1]),h2,h3⟩
 case entry x =>
  obtain⟨y,V,rfl,h1,h2⟩:=Kq (P:=P) g bI (pV x (by simp)) he;exact iY.val g (V:=V) (by simp[execOp,h1]) h2
 case call c =>
  obtain⟨callee,args,argTypes⟩:=c
  cases callee with
  |value f=>simp[xy]at MR
  |invoke r m=>simp only at he;cases he
  |builtin b =>
   have mA:∀x∈args.toList,aD Z ψ h w (ρ s x) (ρC x):=fun x hx=>pV x (by simp only[Call.operands];exact Array.mem_append.2 (.inr (by simpa using hx)));have TF:∀x∈args.toList,aQ (fun i=>¬N i) (ρ s x):=fun x hx=>hm x (by simp only[Call.operands];exact Array.mem_append.2 (.inr (by simpa using hx)));obtain⟨args⟩:=args;obtain⟨argTypes⟩:=argTypes;simp only at he mA TF
   cases b<;>simp only at he<;>first|(cases he;done)|skip
   case append =>
    split at he
    ·rename_i l1 l2 x y t t'
     split at he
     ·rename_i htt;subst htt;exact Iq g hB bI (hN rfl) (mA x (by simp)) (mA y (by simp)) (TF x (by simp)) bC mU he (fun V w' h1=>by simp only[execOp,resolve,invoke,builtin,Sem.run_bind,Sem.run_pure,Result.andThen_ok,List.map_toArray,List.map_cons,List.map_nil,h1])
     ·cases he
    ·cases he
   case delete =>
    split at he
    ·rename_i l1 l2 m x t ts;have h1:=mA m (by simp);have h2:=mA x (by simp);have hw:∃hw,e=.wr (.pe []) hw:=by obtain⟨hw,_,h4,_⟩:=xx (N:=N) (ty:=type) (ts:=ts) FY (g.sub bI) (h1.ss bI) (h2.ss bI) he;exact⟨hw,h4⟩
     obtain⟨hw,rfl⟩:=hw;have heq:=mU _ _ rfl;subst heq;obtain⟨Nc,w',h4,h5,h6⟩:=xx (N:=N) (ty:=type) (ts:=ts) FY g h1 h2 he
     cases h4
     exact⟨.tuple #[],w',Z,ψ,.inl (by simp only[execOp,resolve,invoke,builtin,Sem.run_bind,Sem.run_pure,Result.andThen_ok,List.map_toArray,List.map_cons,List.map_nil,h5]),h6,by simp only[bW.v,aD,ax];exact⟨#[],rfl,rfl⟩⟩
    ·cases he
   case len =>
    split at he
    ·rename_i l1 l2 x t
     split at he
     ·rename_i htm;obtain⟨n,rfl,h1⟩:=Nd (P:=P) (ty:=type) g bI htm (mA x (by simp)) he;exact iY.val g (V:=.int .i64 (n:Int)) (by simp only[execOp,resolve,invoke,builtin,Sem.run_bind,Sem.run_pure,Result.andThen_ok,List.map_toArray,List.map_cons,List.map_nil,h1]) (by simp only[aD])
     split at he
     ·rename_i aG;obtain⟨n,rfl,h1⟩:=QM g bI (mA x (by simp)) he;refine iY.val g (V:=.int .i64 (n:Int)) ?_ (by simp only[aD]);rcases h1 with⟨sv,h2,h3,rfl⟩|⟨A,c,h3⟩
      ·unfold abb at aG;rw[h2]at aG
       split at aG
       ·rename_i hu _;simp[execOp,resolve,invoke,builtin,Builtin.len_,run_underlying hu,h3,goInt]
       ·cases aG
       ·rename_i h9;exact(h9 _ rfl).elim
       ·cases aG
      ·have hu:∃e,P.underlying t=some (.slice e):=by
        have h4:=mA x (by simp);rw[h3]at h4;unfold abb at aG
        split at aG
        ·rename_i sv _ hxx;rw[hxx]at h4;simp only[aD]at h4;cases h4
        ·cases aG
        ·rename_i e _ hu _;exact⟨_,hu⟩
        ·cases aG
       obtain⟨e,hu⟩:=hu;simp[execOp,resolve,invoke,builtin,Builtin.len_,run_underlying hu,h3,goInt]
     ·cases he
    ·cases he
   all_goals
    unfold QD at he
    split at he
    ·rename_i k a k' b SU;have hl:=congrArg List.length SU;simp only[List.length_map,List.length_cons,List.length_nil]at hl;obtain⟨x,y,rfl⟩:=abk hl;simp only[List.map_cons,List.map_nil,List.cons.injEq,and_true]at SU;have h1:=mA x (by simp);have h2:=mA y (by simp);rw[SU.1]at h1;rw[SU.2]at h2;simp only[aD]at h1 h2
     split at he
     ·rename_i hk;subst hk
      cases he
      refine iY.val g (V:=cr (.int _ _)) ?_ (kQ _ _)
      first
       |(simp[execOp,resolve,invoke,builtin,Builtin.max_,Builtin.max2,h1,h2,cr];simp only[Int.max_def];split<;>split<;>omega)
       |(simp[execOp,resolve,invoke,builtin,Builtin.min_,Builtin.min2,h1,h2,cr];simp only[Int.min_def];split<;>split<;>omega)
     ·cases he
    ·cases he
end
end Go.Vs
namespace Go.Vs
variable {P:Program} {Z Z' Zf:Nat→Prop} {ψ ψ':Nat→Value} {h h':Hp} {w w':World} {B0:Nat} {O:Nat→Prop} {N:Nat→Prop}
abbrev Be:=Nat×Option Nat×Ob
def eI(L:List Be):Heap:=L.map fun e=>(e.1,e.2.2)
def kR(ψ:Nat→Value):Option Nat→Value
 |some s=>ψ s
 |none=>.slice none 0 0
def fY(ψ:Nat→Value):List Be→Nat→Value
 |[],_=>undef
 |(i,s,_)::r,n=>if i=n then kR ψ s else fY ψ r n
theorem qh{L:List Be}{i:Nat}{o:Ob}(hg:(eI L).get i=some o):∃s,(i,s,o)∈L:=by
 induction L with
 |nil=>simp[eI,Heap.get]at hg
 |cons e r ih =>
  obtain⟨j,s,o'⟩:=e;simp only[eI,List.map_cons,Heap.get]at hg
  split at hg
  ·rename_i e;subst e;cases hg;exact⟨s,abp⟩
  ·obtain⟨s',hs⟩:=ih hg;exact⟨s',aa1 _ hs⟩
theorem oP{i:Nat}{r:List Nat}(h:cG (i::r)=true):i∉r∧cG r=true:=by simp only[cG,Bool.and_eq_true,Bool.not_eq_true']at h;exact⟨fun hm=>by rw[List.contains_iff_mem.2 hm]at h;simp at h,h.2⟩
theorem jL{L:List Be}(hn:cG (L.map (·.1))=true){i:Nat}{s:Option Nat}{o:Ob}(hm:(i,s,o)∈L):fY ψ L i=kR ψ s:=by
 induction L with
 |nil=>cases hm
 |cons e r ih =>
  obtain⟨j,s',o'⟩:=e;obtain⟨h1,h2⟩:=oP hn;simp only[fY];rcases abd.1 hm with he|hm
  ·cases he;simp
  ·rw[if_neg,ih h2 hm];rintro rfl;exact h1 (aca.2 ⟨_,hm,rfl⟩)
theorem Ya{L:List Be}(hs:cG (L.filterMap (·.2.1))=true){i j s:Nat}{o o':Ob}(h1:(i,some s,o)∈L)(h2:(j,some s,o')∈L):i=j∧o=o':=by
 induction L with
 |nil=>cases h1
 |cons e r ih =>
  obtain⟨k,s',o''⟩:=e;have mem:∀{k:Nat} {o:Ob},(k,some s,o)∈r→s∈r.filterMap (·.2.1):=fun h=>ad8.2 ⟨_,h,rfl⟩;rw[List.filterMap_cons]at hs
  cases s' with
  |none =>simp only[]at hs;exact ih hs ((abd.1 h1).resolve_left (by simp)) ((abd.1 h2).resolve_left (by simp))
  |some s' =>
   simp only[]at hs;obtain⟨h3,h4⟩:=oP hs;rcases abd.1 h1 with e1|m1<;>rcases abd.1 h2 with e2|m2
   ·cases e1;cases e2;exact⟨rfl,rfl⟩
   ·cases e1;exact absurd (mem m2) h3
   ·cases e2;exact absurd (mem m1) h3
   ·exact ih h4 m1 m2
def Kr:(ok:OK)→ok.T→Prop
 |.row _ _,xs=>xs=[]
 |_,_=>False
theorem Kr.owns:∀{ok:OK} {xs:ok.T},Kr ok xs→kH Z w ok (.slice none 0 0) xs
 |.row ty k,xs,h=>by have h:xs=[]:=h;subst h;exact⟨[],⟨by simp,.inl ⟨rfl,none,rfl⟩⟩,fun i x hx=>by simp at hx⟩
 |.map _ _,_,h=>h.elim
 |.iter _ _,_,h=>h.elim
 |.pZ,_,h=>h.elim
def xz(Z:Nat→Prop)(ψ:Nat→Value)(h:Hp)(w:World)(h':Hp)(ψ':Nat→Value):Be→Prop
 |(_,some s,.own ok xs)=>h s=some (.own ok xs)
 |(_,none,.own ok xs)=>Kr ok xs
 |(_,some s,.box ty cs')=>(∃cs,h s=some (.box ty cs))∧∀gg vs,ψ s=.pointer (some ⟨gg,0,none⟩)→w.heap[gg]? = some (.cells vs ty (0,0))→ax Z ψ' h' w cs' vs.toList
 |(_,none,.box _ _)=>False
theorem Good.rename(g:Good Z ψ h w B0 O){L:List Be}(hn:cG (L.map (·.1))=true)(hs:cG (L.filterMap (·.2.1))=true)(nE:∀e∈L,xz Z ψ h w (eI L).get (fY ψ L) e) :
  Good Z (fY ψ L) (eI L).get w B0 O:=by
 have src:∀id b,(eI L).get id≠none→ob (fY ψ L id)=some b→∃s o,(id,some s,o)∈L∧h s≠none∧ob (ψ s)=some b:=fun id b h1 h2=>by
  obtain⟨o,ho⟩:=abN.1 h1;obtain⟨s,hm⟩:=qh ho;rw[jL hn hm]at h2
  cases s with
  |none=>simp[kR,ob]at h2
  |some s =>
   have h3:=nE _ hm;refine⟨s,o,hm,?_,h2⟩
   cases o with
   |box ty cs=>obtain⟨⟨cs0,h4⟩,_⟩:=h3;rw[h4];simp
   |own ok xs=>rw[show h s=some (.own ok xs) from h3];simp
 refine⟨fun id ty cs hb=>?_,fun id ok xs hb=>?_,fun id b h1 h2=>?_,fun id oH b h1 h2 h3 h4=>?_,g.kO⟩
 ·obtain⟨s,hm⟩:=qh hb;have h3:=nE _ hm;rw[jL hn hm]
  cases s with
  |none=>exact h3.elim
  |some s =>obtain⟨⟨cs0,h4⟩,h5⟩:=h3;obtain⟨gg,vs,h6,h7,h8,h9⟩:=g.box s ty cs0 h4;exact⟨gg,vs,h6,h7,h5 gg vs h6 h7,h9⟩
 ·obtain⟨s,hm⟩:=qh hb;have h3:=nE _ hm;rw[jL hn hm]
  cases s with
  |none=>exact Kr.owns h3
  |some s=>exact g.row s ok xs h3
 ·obtain⟨s,o,hm,h3,h4⟩:=src id b h1 h2;exact g.live s b h3 h4
 ·obtain⟨s,o,hm,h5,h6⟩:=src id b h1 h3;obtain⟨s',o',Yb,h5',h6'⟩:=src oH b h2 h4;have:=g.apart s s' b h5 h5' h6 h6';subst this;exact(Ya hs hm Yb).1
def Cl(hh:Heap)(i:Nat):List AV:=match hh.get i with
 |some (.box _ cs)=>cs
 |_=>[]
def eQ:(dW:List CK)→Nat→List AV→sJ dW→List Be
 |[],_,_,_=>[]
 |.val k::r,n,cs,x=>eQ r (n+1) (cs.drop k.sz) x.2
 |.own ok::r,n,cs,x=>(n,(qW (cs.headD .no)).head?,.own ok x.1)::eQ r (n+1) cs.tail x.2
def eY:(b:BK)→Heap→Nat→Nat→Nat→b.T→List Be
 |.box ty c,hh,i,i',n,x=>(i',some i,.box ty (aK c n x))::eQ c n (Cl hh i) x
 |.own ok,_,i,i',_,x=>[(i',some i,.own ok x)]
def cY:(bs:List BK)→Heap→List Nat→List Nat→Nat→zc bs→List Be
 |b::r,hh,i::is,i'::is',n,x=>eY b hh i i' n x.1++cY r hh is is' (n+16) x.2
 |_,_,_,_,_,_=>[]
theorem oQ:∀(dW:List CK) (n:Nat) (cs:List AV) (x:sJ dW),eI (eQ dW n cs x)=bp dW n x
 |[],_,_,_=>rfl
 |.val k::r,n,cs,x=>oQ r (n+1) _ x.2
 |.own ok::r,n,cs,x=>by simp only[eQ,bp,eI,List.map_cons];rw[←oQ r (n+1) cs.tail x.2];rfl
theorem mF:∀(dW:List CK) (n:Nat) (cs:List AV) (x:sJ dW),(eQ dW n cs x).map (·.1)=cK dW n
 |[],_,_,_=>rfl
 |.val k::r,n,cs,x=>mF r (n+1) _ x.2
 |.own ok::r,n,cs,x=>by simp only[eQ,cK,List.map_cons];rw[mF r (n+1) cs.tail x.2]
theorem zw(c:AV):(qW c).head?.toList=qW c:=by cases c<;>rfl
theorem eZ{α β:Type}(f:α→Option β)(a:α)(l:List α):(a::l).filterMap f=(f a).toList++l.filterMap f:=by rw[List.filterMap_cons];cases f a<;>rfl
theorem q9{k:K}{r:List CK}{hh:Heap}{cs:List AV}{x:sJ (.val k::r)}(hd:dk (.val k::r) hh cs=some x):dZ k ((cs.take k.sz).map (di hh))=some x.1∧dk r hh (cs.drop k.sz)=some x.2:=by
 have e:dk (.val k::r) hh cs=(match dZ k ((cs.take k.sz).map (di hh)),dk r hh (cs.drop k.sz) with
  |some x,some y=>some ((x,y):k.T×sJ r)
  |_,_=>none):=by cases cs<;>rfl
 rw[e]at hd;clear e;generalize dZ k ((cs.take k.sz).map (di hh))=o1 at hd ⊢;generalize dk r hh (cs.drop k.sz)=o2 at hd ⊢
 cases o1 with
 |none=>cases hd
 |some x1 =>
  cases o2 with
  |none=>cases hd
  |some y1=>have:=aby hd;subst this;exact⟨rfl,rfl⟩
theorem nF{ok:OK}{r:List CK}{hh:Heap}{cs:List AV}{x:sJ (.own ok::r)}(hd:dk (.own ok::r) hh cs=some x):∃c cs',cs=c::cs'∧fg hh ok c=some x.1∧dk r hh cs'=some x.2:=by
 cases cs with
 |nil=>cases hd
 |cons c cs =>
  refine⟨c,cs,rfl,?_⟩;have e:dk (.own ok::r) hh (c::cs)=(match fg hh ok c,dk r hh cs with
   |some x,some y=>some ((x,y):ok.T×sJ r)
   |_,_=>none):=rfl
  rw[e]at hd;clear e;generalize fg hh ok c=o1 at hd ⊢;generalize dk r hh cs=o2 at hd ⊢
  cases o1 with
  |none=>cases hd
  |some x1 =>
   cases o2 with
   |none=>cases hd
   |some y1=>have:=aby hd;subst this;exact⟨rfl,rfl⟩
theorem rf:∀(dW:List CK) (n:Nat) (hh:Heap) (cs:List AV) (x:sJ dW),dk dW hh cs=some x→(eQ dW n cs x).filterMap (·.2.1)=gZ dW cs
 |[],_,_,cs,_,_=>by cases cs<;>rfl
 |.val k::r,n,hh,cs,x,hd=>by
  obtain⟨_,h2⟩:=q9 hd;have e:gZ (.val k::r) cs=gZ r (cs.drop k.sz):=by cases cs<;>rfl
  rw[e];exact rf r (n+1) hh _ x.2 h2
 |.own ok::r,n,hh,cs,x,hd=>by obtain⟨c,cs',rfl,_,h2⟩:=nF hd;simp only[eQ,gZ];rw[eZ];simp only[List.headD_cons,List.tail_cons];rw[zw,rf r (n+1) hh cs' x.2 h2]
theorem nG{hh:Heap}{ok:OK}{c:AV}{xs:ok.T}(ho:fg hh ok c=some xs):(c=.ib∧Kr ok xs)∨∃id,c=.bV id∧hh.get id=some (.own ok xs):=by
 unfold fg at ho
 split at ho
 ·cases ok with
  |row _ _=>cases ho;exact .inl ⟨rfl,rfl⟩
  |_=>cases ho
 ·rename_i id
  split at ho
  ·rename_i BT k' xs' hg
   split at ho
   ·rename_i e;subst e
    cases ho
    exact .inr ⟨id,rfl,hg⟩
   ·cases ho
  ·cases ho
 ·cases ho
theorem Is{hh:Heap}{ok:OK}{c:AV}{xs:ok.T}{v:Value}(ho:fg hh ok c=some xs)(hr:aD Z ψ hh.get w c v){n:Nat}(j0:h' n≠none→ψ' n=kR ψ (qW c).head?):aD Z' ψ' h' w' (.bV n) v:=by
 rcases nG ho with⟨rfl,_⟩|⟨id,rfl,hg⟩
 ·simp only[aD]at hr ⊢;subst hr;exact⟨⟨rfl,rfl⟩,fun hn=>(j0 hn).symm⟩
 ·simp only[aD]at hr ⊢;refine⟨hr.1,fun hn=>?_⟩;rw[j0 hn];exact hr.2 (by rw[hg];simp)
theorem um{hh:Heap}(g:Good Z ψ hh.get w B0 O)(hz:∀b,Z b→Z' b):∀(dW:List CK) (n:Nat) (cs:List AV) (x:sJ dW) (vs:List Value),dk dW hh cs=some x →(∀id b,AV.bV id∈rY dW cs→hh.get id≠none→ob (ψ id)=some b→Z' b)→(∀e∈eQ dW n cs x,h' e.1≠none→ψ' e.1=kR ψ e.2.1) → ax Z ψ hh.get w cs vs→ax Z' ψ' h' w (aK dW n x) vs
 |[],n,cs,x,vs,hd,_,_,hr=>by
  cases cs with
  |nil=>simpa only[aK,ax] using hr
  |cons c cs=>cases hd
 |.val k::r,n,cs,x,vs,hd,hf,j0,hr=>by
  obtain⟨h1,h2⟩:=q9 hd;have e:rY (.val k::r) cs=cs.take k.sz++rY r (cs.drop k.sz):=by cases cs<;>rfl
  rw[e]at hf;have ud:ax Z ψ hh.get w (cs.take k.sz++cs.drop k.sz) vs:=by rw[List.take_append_drop];exact hr
  obtain⟨us,ws,rfl,h3,h4⟩:=ax.split ud;simp only[aK];have h5:=qf (Z':=Z') g hz (fun id b bR=>hf id b (abi _ bR)) h3;exact ax.append (js (eO h1 h5)) (um g hz r (n+1) (cs.drop k.sz) x.2 ws h2 (fun id b bR=>hf id b (abg _ bR)) j0 h4)
 |.own ok::r,n,cs,x,vs,hd,hf,j0,hr=>by obtain⟨c,cs',rfl,h1,h2⟩:=nF hd;simp only[ax]at hr;obtain⟨v,us,rfl,h3,h4⟩:=hr;simp only[aK,ax];refine⟨v,us,rfl,Is h1 h3 (fun hn=>j0 (n,_,_) (by simp only[eQ];exact abp) hn),?_⟩;exact um g hz r (n+1) cs' x.2 us h2 hf (fun e he=>j0 e (by simp only[eQ];exact aa1 _ he)) h4
theorem gG{b:BK}{r:List BK}{hh:Heap}{i:Nat}{is:List Nat}{x:zc (b::r)}(hd:dD (b::r) hh (i::is)=some x):rZ b hh i=some x.1∧dD r hh is=some x.2:=by
 have e:dD (b::r) hh (i::is)=(match rZ b hh i,dD r hh is with
   |some x,some y=>some ((x,y):b.T×zc r)
   |_,_=>none):=rfl
 rw[e]at hd;clear e;generalize rZ b hh i=o1 at hd ⊢;generalize dD r hh is=o2 at hd ⊢
 cases o1 with
 |none=>cases hd
 |some x1 =>
  cases o2 with
  |none=>cases hd
  |some y1=>have:=aby hd;subst this;exact⟨rfl,rfl⟩
theorem uo{ty:TypeId}{c:List CK}{hh:Heap}{i:Nat}{x:sJ c}(hd:rZ (.box ty c) hh i=some x):∃cs,hh.get i=some (.box ty cs)∧dk c hh cs=some x:=by
 simp only[rZ]at hd
 cases hb:C1 hh i ty with
 |none=>rw[hb]at hd;cases hd
 |some cs =>
  rw[hb]at hd;refine⟨cs,?_,hd⟩;unfold C1 at hb
  split at hb
  ·rename_i BT cs' hg
   split at hb
   ·rename_i e;cases hb;rw[hg,e]
   ·cases hb
  ·cases hb
theorem kS{hh:Heap}{ok:OK}{i:Nat}{x:ok.T}(h:fg hh ok (.bV i)=some x):hh.get i=some (.own ok x):=by
 rcases nG h with⟨h,_⟩|⟨id,h,hg⟩
 ·cases h
 ·cases h;exact hg
theorem GU{ok:OK}{hh:Heap}{i:Nat}{x:ok.T}(hd:rZ (.own ok) hh i=some x):hh.get i=some (.own ok x):=kS hd
theorem rh{hh:Heap}{i:Nat}{ty:TypeId}{cs:List AV}(hg:hh.get i=some (.box ty cs)):Cl hh i=cs:=by unfold Cl;rw[hg]
theorem It(b:BK){hh:Heap}{i i' n:Nat}(x:b.T):eI (eY b hh i i' n x)=j8 b i' n x:=by
 cases b with
 |box ty c=>simp only[eY,j8];rw[←oQ c n (Cl hh i) x];simp[eI]
 |own ok=>simp[eY,j8,eI]
theorem Gc(b:BK){hh:Heap}{i i' n:Nat}(x:b.T):(eY b hh i i' n x).map (·.1)=i'::cK b.dW n:=by
 cases b with
 |box ty c=>simp only[eY,List.map_cons,BK.dW];rw[mF]
 |own ok=>simp[eY,BK.dW,cK]
theorem Ks(b:BK){hh:Heap}{i i' n:Nat}{x:b.T}(hd:rZ b hh i=some x):(eY b hh i i' n x).filterMap (·.2.1)=ln b hh i:=by
 cases b with
 |box ty c =>obtain⟨cs,h1,h2⟩:=uo hd;simp only[eY,ln];rw[eZ,rh h1,rf c n hh cs x h2,h1];rfl
 |own ok=>simp[eY,ln]
theorem kc:∀(bs:List BK) (hh:Heap) (is is':List Nat) (n:Nat) (x:zc bs),dD bs hh is=some x→is'.length=bs.length→eI (cY bs hh is is' n x)=bG bs is' n x
 |[],hh,is,is',n,x,_,hl=>by cases is'<;>simp[cY,bG,eI]
 |b::r,hh,[],is',n,x,hd,_=>by cases hd
 |b::r,hh,i::is,[],n,x,_,hl=>by simp at hl
 |b::r,hh,i::is,i'::is',n,x,hd,hl=>by obtain⟨_,h3⟩:=gG hd;have ih:=kc r hh is is' (n+16) x.2 h3 (by simpa using hl);simp only[cY,bG];rw[←ih,←It b (hh:=hh) (i:=i) x.1];simp[eI]
theorem iZ:∀(bs:List BK) (hh:Heap) (is is':List Nat) (n:Nat) (x:zc bs),dD bs hh is=some x→is'.length=bs.length→(cY bs hh is is' n x).map (·.1)=cy bs is' n
 |[],hh,is,is',n,x,_,hl=>by cases is'<;>simp[cY,cy]
 |b::r,hh,[],is',n,x,hd,_=>by cases hd
 |b::r,hh,i::is,[],n,x,_,hl=>by simp at hl
 |b::r,hh,i::is,i'::is',n,x,hd,hl=>by obtain⟨_,h3⟩:=gG hd;have ih:=iZ r hh is is' (n+16) x.2 h3 (by simpa using hl);simp only[cY,cy,List.map_append];rw[ih,Gc,List.cons_append]
theorem lH:∀(bs:List BK) (hh:Heap) (is is':List Nat) (n:Nat) (x:zc bs),dD bs hh is=some x→is'.length=bs.length→(cY bs hh is is' n x).filterMap (·.2.1)=dE bs hh is
 |[],hh,is,is',n,x,_,hl=>by cases is'<;>cases is<;>simp[cY,dE]
 |b::r,hh,[],is',n,x,hd,_=>by cases hd
 |b::r,hh,i::is,[],n,x,_,hl=>by simp at hl
 |b::r,hh,i::is,i'::is',n,x,hd,hl=>by obtain⟨h1,h3⟩:=gG hd;have ih:=lH r hh is is' (n+16) x.2 h3 (by simpa using hl);simp only[cY,dE];rw[List.filterMap_append,ih,Ks b h1]
theorem uq{hd:Hp}{hh:Heap}:∀(dW:List CK) (n:Nat) (cs:List AV) (x:sJ dW),dk dW hh cs=some x→(∀s∈gZ dW cs,hd s=hh.get s)→∀e∈eQ dW n cs x,xz Z ψ hd w h' ψ' e
 |[],n,cs,x,_,_,e,he=>by simp[eQ]at he
 |.val k::r,n,cs,x,XG,hk,e,he=>by
  obtain⟨_,h2⟩:=q9 XG;have e0:gZ (.val k::r) cs=gZ r (cs.drop k.sz):=by cases cs<;>rfl
  rw[e0]at hk;exact uq r (n+1) _ x.2 h2 hk e he
 |.own ok::r,n,cs,x,XG,hk,e,he=>by
  obtain⟨c,cs',rfl,h1,h2⟩:=nF XG;simp only[eQ,List.headD_cons,List.tail_cons]at he;simp only[gZ]at hk;rcases abd.1 he with rfl|he
  ·rcases nG h1 with⟨rfl,h3⟩|⟨id,rfl,h3⟩
   ·exact h3
   ·show hd id=some (.own ok x.1);rw[hk id (List.mem_append_left _ (by simp[qW])),h3]
  ·exact uq r (n+1) cs' x.2 h2 (fun s hs=>hk s (abg _ hs)) e he
theorem Nk{hd:Hp}{hh:Heap}(g:Good Z ψ hh.get w B0 O)(hz:∀b,Z b→Z' b)(b:BK){i i' n:Nat}{x:b.T}(XG:rZ b hh i=some x) (hf:∀id g,AV.bV id∈C2 b hh i→hh.get id≠none→ob (ψ id)=some g→Z' g) (hk:∀s∈ln b hh i,hd s=hh.get s) (j0:∀e∈eY b hh i i' n x,h' e.1≠none→ψ' e.1=kR ψ e.2.1) :
  ∀e∈eY b hh i i' n x,xz Z' ψ hd w h' ψ' e:=by
 intro e he
 cases b with
 |box ty c =>
  obtain⟨cs,h1,h2⟩:=uo XG;simp only[C2,ln,h1]at hf hk;have abm:∀e∈eQ c n cs x,h' e.1≠none→ψ' e.1=kR ψ e.2.1:=fun e he=>j0 e (by simp only[eY];rw[rh h1];exact aa1 _ he);simp only[eY]at he;rcases abd.1 he with rfl|he
  ·refine⟨⟨cs,by rw[hk i List.mem_cons_self,h1]⟩,fun gg vs h4 h5=>?_⟩;obtain⟨gg',jc,h6,h7,h8,_⟩:=g.box i ty cs h1;rw[h6]at h4
   cases h4
   rw[h5]at h7
   cases h7
   exact um g hz c n cs x _ h2 hf abm h8
  ·rw[rh h1]at he;exact uq c n cs x h2 (fun s hs=>hk s (aa1 _ hs)) e he
 |own ok =>have h1:=GU XG;simp only[eY,List.mem_singleton]at he;subst he;show hd i=some (.own ok x);rw[hk i (by simp[ln]),h1]
theorem nH{hd:Hp}{hh:Heap}(g:Good Z ψ hh.get w B0 O)(hz:∀b,Z b→Z' b):∀(bs:List BK) (is is':List Nat) (n:Nat) (x:zc bs),dD bs hh is=some x →(∀id b,AV.bV id∈ic bs hh is→hh.get id≠none→ob (ψ id)=some b→Z' b)→(∀s∈dE bs hh is,hd s=hh.get s)→(∀e∈cY bs hh is is' n x,h' e.1≠none→ψ' e.1=kR ψ e.2.1) → ∀e∈cY bs hh is is' n x,xz Z' ψ hd w h' ψ' e
 |[],is,is',n,x,_,_,_,_,e,he=>by simp[cY]at he
 |b::r,[],is',n,x,XG,_,_,_,e,he=>by cases XG
 |b::r,i::is,[],n,x,_,_,_,_,e,he=>by simp[cY]at he
 |b::r,i::is,i'::is',n,x,XG,hf,hk,j0,e,he=>by
  obtain⟨h1,h3⟩:=gG XG;simp only[ic,dE]at hf hk;simp only[cY]at he j0;rcases abw.1 he with he|he
  ·exact Nk g hz b h1 (fun id g bR=>hf id g (abi _ bR)) (fun s hs=>hk s (abi _ hs)) (fun e he=>j0 e (abi _ he)) e he
  ·exact nH g hz r is is' (n+16) x.2 h3 (fun id b bR=>hf id b (abg _ bR)) (fun s hs=>hk s (abg _ hs)) (fun e he=>j0 e (abg _ he)) e he
theorem uu{kept:List Nat}{mj:List AV}(hk:zj kept mj=true):cG kept=true∧∀(hh:Heap) s,s∈kept→(dg hh mj).get s=hh.get s:=by unfold zj at hk;rw[Bool.and_eq_true]at hk;exact⟨hk.1,fun hh s hs=>qZ _ _ _ (ug (ac3.1 hk.2 s hs))⟩
theorem zx{hh:Heap}{mj:List AV}{kept:List Nat}(g:Good Z ψ hh.get w B0 O)(hk:zj kept mj=true){L:List Be}(hn:cG (L.map (·.1))=true)(hs:L.filterMap (·.2.1)=kept) (nE:∀e∈L,xz (sH Z ψ hh.get mj) ψ (dg hh mj).get w (eI L).get (fY ψ L) e):Good (sH Z ψ hh.get mj) (fY ψ L) (eI L).get w B0 O :=(jB g mj).rename hn (by rw[hs];exact(uu hk).1) nE
theorem Cm{L:List Be}(hn:cG (L.map (·.1))=true):∀e∈L,(eI L).get e.1≠none→fY ψ L e.1=kR ψ e.2.1:=fun⟨i,s,o⟩ he _=>jL hn he
theorem oR(A B:List Be):eI (A++B)=eI A++eI B:=by simp[eI]
theorem Cn{hh:Heap}{i s i':Nat}{v:Value}(hr:aD Z ψ hh.get w (.ref i s 0 0) v)(hi:hh.get i≠none)(j0:h' i'≠none→ψ' i'=ψ i):aD Z' ψ' h' w' (.ref i' 0 0 0) v:=by simp only[aD]at hr ⊢;obtain⟨a,rfl,ha⟩:=hr;refine⟨a,rfl,fun hn=>?_⟩;rw[j0 hn,ha hi];simp
theorem ri{v:AV}{i:Nat}(h:GI v=some i):∃s,v=.ref i s 0 0:=by
 unfold GI at h
 split at h
 ·cases h;exact⟨_,rfl⟩
 ·cases h
theorem kd{hh:Heap}:∀(bs:List BK) (is:List Nat) (x:zc bs),dD bs hh is=some x→is.length=bs.length∧∀i∈is,hh.get i≠none
 |[],[],_,_=>⟨rfl,fun i hi=>by cases hi⟩
 |[],_::_,_,h=>by cases h
 |_::_,[],_,h=>by cases h
 |b::r,i::is,x,h=>by
  obtain⟨h1,h3⟩:=gG h;obtain⟨h4,h5⟩:=kd r is x.2 h3;refine⟨by simp[h4],fun j hj=>?_⟩;rcases abd.1 hj with rfl|hj
  ·cases b with
   |box ty c=>obtain⟨cs,h1,_⟩:=uo h1;rw[h1];simp
   |own ok=>rw[GU h1];simp
  ·exact h5 j hj
theorem lJ{hh:Heap}:∀(bs:List BK) (is is':List Nat) (n:Nat) (x:zc bs),is.length=bs.length→∀p∈is.zip is',∃o,(p.2,some p.1,o)∈cY bs hh is is' n x
 |[],is,is',n,x,hl,p,hp=>by
  cases is with
  |nil=>simp at hp
  |cons a r=>simp at hl
 |b::r,[],is',n,x,hl,p,hp=>by simp at hp
 |b::r,i::is,[],n,x,hl,p,hp=>by simp at hp
 |b::r,i::is,i'::is',n,x,hl,p,hp=>by
  simp only[List.zip_cons_cons]at hp;simp only[cY];rcases abd.1 hp with rfl|hp
  ·cases b with
   |box ty c=>exact⟨_,abi _ (by simp only[eY];exact abp)⟩
   |own ok=>exact⟨_,abi _ (by simp only[eY];exact abp)⟩
  ·obtain⟨o,ho⟩:=lJ r is is' (n+16) x.2 (by simpa using hl) p hp;exact⟨o,abg _ ho⟩
theorem Pb{hd:Hp}{hh:Heap}{ok:OK}{c:AV}{xs:ok.T}(ho:fg hh ok c=some xs)(hk:∀s∈qW c,hd s=hh.get s){n:Nat}:xz Z ψ hd w h' ψ' (n,(qW c).head?,.own ok xs):=by
 rcases nG ho with⟨rfl,h3⟩|⟨id,rfl,h3⟩
 ·exact h3
 ·show hd id=some (.own ok xs);rw[hk id (by simp[qW]),h3]
end Go.Vs
namespace Go.Vs
variable {P:Program} {Z Z':Nat→Prop} {ψ ψ':Nat→Value} {h h':Hp} {w w':World} {B0:Nat} {O:Nat→Prop} {N:Nat→Prop}
def iq:Hp:=fun _=>none
def MS:Nat→Value:=fun _=>undef
def GW(g:aX)(x:J6 (mn g.ps)):List AV:=(bf g.ps [] 0 x).map (·.2)
def adO(P:Program)(f:FuncId)(g:aX)(x:g.A)(y:g.B):Prop :=∀(Z:Nat→Prop) (w:World) (lK:List Value),(∀b,Z b→b<w.heap.size)→ax Z MS iq w (GW g x.1) lK → Calls P (f%1000) lK.toArray w fun e w'=>∃v Z' ψ',e=.returned v∧(∀b,Z b→Z' b)∧(∀b,Z' b→Z b∨w.heap.size≤b)∧dF MS iq w w' ∧ Good Z' ψ' (ar g.rs 3000 y.1).get w' w.heap.size (fun _=>False)∧aD Z' ψ' (ar g.rs 3000 y.1).get w' (gq (bj g.rs [] 2000 3000 y.1)) v
theorem Bf{p:PK}{ps:List PK}{vs:List AV}(hi:dd (p::ps) vs=some []):∃a r,vs=a::r∧dd ps r=some []∧(p≠.ref∧p≠.own)∧(∀f n,p=.JZ f n→a=.fn f [])∧(∀n,p=.agg n→a=.agg []):=by
 cases vs with
 |nil=>cases p<;>simp[dd]at hi
 |cons a r =>
  cases p with
  |val k=>exact⟨a,r,rfl,by simpa only[dd] using hi,by simp,by simp,by simp⟩
  |ref =>
   simp only[dd]at hi
   split at hi<;>simp at hi
  |own =>
   cases a<;>simp only[dd]at hi<;>first|(cases hi;done)|skip
   split at hi<;>simp at hi
  |JZ f n =>
   cases a<;>simp only[dd]at hi<;>first|(cases hi;done)|skip
   rename_i f' cap
   split at hi
   ·rename_i hc;obtain⟨rfl,uf⟩:=hc
    split at hi
    ·rename_i a1 b1 h1 h2;simp only[Option.some.injEq,List.append_eq_nil_iff]at hi;obtain⟨rfl,rfl⟩:=hi;have abf:cap=[]:=by
      cases cap with
      |nil=>rfl
      |cons c cs=>simp only[kL]at h1;split at h1<;>simp at h1
     subst abf;exact⟨_,r,rfl,h2,by simp,by rintro f n ⟨⟩;rfl,by simp⟩
    ·cases hi
   ·cases hi
  |agg n =>
   cases a<;>simp only[dd]at hi<;>first|(cases hi;done)|skip
   rename_i cs
   split at hi
   ·split at hi
    ·rename_i a1 b1 h1 h2;simp only[Option.some.injEq,List.append_eq_nil_iff]at hi;obtain⟨rfl,rfl⟩:=hi;have QK:cs=[]:=by
      cases cs with
      |nil=>rfl
      |cons c cs=>cases c<;>simp only[qX]at h1<;>first|(cases h1;done)|(split at h1<;>simp at h1)
     subst QK;exact⟨_,r,rfl,h2,by simp,by simp,fun _ _=>rfl⟩
    ·cases hi
   ·cases hi
theorem Bg{k:K}{ps:List PK}{hh:Heap}{a:AV}{r:List AV}{x:k.T×J6 (mn ps)}(hv:fR (.val k::ps) hh (a::r)=some x):hZ k hh a=some x.1∧fR ps hh r=some x.2:=by
 have e:fR (.val k::ps) hh (a::r)=(match hZ k hh a,fR ps hh r with
  |some x,some y=>some ((x,y):k.T×J6 (mn ps))
  |_,_=>none):=rfl
 rw[e]at hv;clear e;generalize hZ k hh a=o1 at hv ⊢;generalize fR ps hh r=o2 at hv ⊢
 cases o1 with
 |none=>cases hv
 |some x1 =>
  cases o2 with
  |none=>cases hv
  |some y1 =>have:=aby hv;subst this;exact⟨rfl,rfl⟩
theorem DC{hh:Heap}(g:Good Z ψ hh.get w B0 O)(hz:∀b,Z b→Z' b)(ps:List PK):∀(s:Nat) (vs:List AV) (us:List Value) (x:J6 (mn ps)),(∀v∈vs,∀id b,AV.bV id∈v.cells→hh.get id≠none→ob (ψ id)=some b→Z' b) → dd ps vs=some []→fR ps hh vs=some x→ax Z ψ hh.get w vs us→ax Z' MS iq w ((bf ps [] s x).map (·.2)) us:=by
 induction ps with
 |nil =>
  intro s vs us x _ hi hv hr
  cases vs with
  |nil=>simpa only[bf,List.map_nil,ax] using hr
  |cons a r=>simp[dd]at hi
 |cons p ps ih =>
  intro s vs us x hb hi hv hr;obtain⟨a,r,rfl,vW,Yc,abn,abo⟩:=Bf hi;simp only[ax]at hr;obtain⟨u,jU,rfl,h3,h4⟩:=hr
  cases p with
  |val k =>obtain⟨h1,h2⟩:=Bg hv;simp only[bf,List.map_cons,ax];exact⟨u,jU,rfl,uh (Z':=Z') (ψ':=MS) (h':=iq) g hz (hb a abp) h1 h3,ih (s+1) r jU x.2 (fun v hv=>hb v (aa1 _ hv)) vW h2 h4⟩
  |ref=>exact absurd rfl Yc.1
  |own=>exact absurd rfl Yc.2
  |JZ f n =>have ha:=abn f n rfl;subst ha;have h2:fR ps hh r=some x:=hv;simp only[bf,List.map_cons,ax,List.take_nil,List.map_nil,List.drop_nil];simp only[aD,ax]at h3 ⊢;exact⟨u,jU,rfl,h3,ih (s+1) r jU x (fun v hv=>hb v (aa1 _ hv)) vW h2 h4⟩
  |agg n =>have ha:=abo n rfl;subst ha;have h2:fR ps hh r=some x:=hv;simp only[bf,List.map_cons,ax,List.take_nil,List.map_nil,List.drop_nil];simp only[aD,ax]at h3 ⊢;exact⟨u,jU,rfl,h3,ih (s+1) r jU x (fun v hv=>hb v (aa1 _ hv)) vW h2 h4⟩
theorem Good.adP(g:Good Z ψ h w B0 O)(k:dF MS iq w w')(hz:∀b,Z b→Z' b)(C9:∀b,Z' b→Z b∨w.heap.size≤b)(ajd:∀b,Z' b→b<w'.heap.size) (hold:∀id,¬N id→h' id=h id∧ψ' id=ψ id) (bC:∀id ty cs,h id=some (.box ty cs)→aJ (fun i=>¬N i) cs) (Tq:∀id ty cs,N id→h' id=some (.box ty cs)→False) (qg:∀id ok xs,N id→h' id=some (.own ok xs)→kH Z' w' ok (ψ' id) xs) (Db:∀id b,N id→h' id≠none→ob (ψ' id)=some b→w.heap.size≤b∧¬Z' b) (M5:∀id oH b,N id→N oH→h' id≠none→h' oH≠none→ob (ψ' id)=some b→ob (ψ' oH)=some b→id=oH) (hB:B0≤w.heap.size) :
  Next Z ψ h w B0 O N Z' ψ' h' w':=by
 have dr:∀b,b<w.heap.size→w'.heap[b]? = w.heap[b]? := fun b hb=>k.block b hb (fun⟨id,h1,_⟩=>h1 rfl);have sm:cU Z w w':=fun b hb=>dr b (g.kO b hb);have py:∀id,h' id≠none→(h id≠none∧ψ' id=ψ id)∨N id:=fun id bR=>by
  by_cases hn:N id
  ·exact .inr hn
  ·obtain⟨e1,e2⟩:=hold id hn;exact .inl ⟨by rwa [e1]at bR,e2⟩
 have A3:∀id b,¬N id→h' id≠none→ob (ψ' id)=some b→Own ψ h b:=fun id b hn h1 h2=>by obtain⟨e1,e2⟩:=hold id hn;exact⟨id,by rwa [e1]at h1,by rwa [e2]at h2⟩
 have kk:dF ψ h w w':=⟨k.os,k.tape,k.output,k.size,fun b hb _=>dr b hb⟩;refine⟨hz,fun b hb=>(C9 b hb).imp (fun h=>h) .inr,kk,py,⟨fun id ty cs hb=>?_,fun id ok xs hb=>?_,fun id b h1 h2=>?_,fun id oH b h1 h2 h3 h4=>?_,ajd⟩⟩
 ·by_cases hn:N id
  ·exact(Tq id ty cs hn hb).elim
  ·obtain⟨e1,e2⟩:=hold id hn;rw[e1]at hb;obtain⟨gg,vs,h1,h2,h3,h4⟩:=g.box id ty cs hb;exact⟨gg,vs,by rw[e2,h1],(dr gg (abq.1 h2).1).trans h2,h3.move hz sm (fun i hp bR=>(py i bR).resolve_right hp) (bC id ty cs hb),h4⟩
 ·by_cases hn:N id
  ·exact qg id ok xs hn hb
  ·obtain⟨e1,e2⟩:=hold id hn;rw[e1]at hb;rw[e2];exact(g.row id ok xs hb).kept hz sm (fun gg QF=>dr gg (g.cc ⟨id,by rw[hb];simp,QF⟩))
 ·by_cases hn:N id
  ·obtain⟨h3,h4⟩:=Db id b hn h1 h2;exact⟨h4,.inl (by omega)⟩
  ·obtain⟨e1,e2⟩:=hold id hn;rw[e1]at h1;rw[e2]at h2;have h3:=g.live id b h1 h2;refine⟨fun hzb=>?_,h3.2⟩;rcases C9 b hzb with h4|h4
   ·exact h3.1 h4
   ·have:=g.cc ⟨id,h1,h2⟩;omega
 ·by_cases hn:N id<;>by_cases M6:N oH
  ·exact M5 id oH b hn M6 h1 h2 h3 h4
  ·have:=(Db id b hn h1 h3).1;have:=g.cc (A3 oH b M6 h2 h4);omega
  ·have:=(Db oH b M6 h2 h4).1;have:=g.cc (A3 id b hn h1 h3);omega
  ·obtain⟨e1,e2⟩:=hold id hn;obtain⟨e3,e4⟩:=hold oH M6;rw[e1]at h1;rw[e2]at h3;rw[e3]at h2;rw[e4]at h4;exact g.apart id oH b h1 h2 h3 h4
theorem bP{r:RK}{rs:List RK}(h:(r::rs).all RK.plain=true):rs.all RK.plain=true:=by simp only[List.all_cons,Bool.and_eq_true]at h;exact h.2
theorem QV{c:List CK}{rs:List RK}(h:(RK.agg c::rs).all RK.plain=true):c.length≤16:=by simp only[List.all_cons,Bool.and_eq_true,RK.plain,decide_eq_true_eq]at h;exact h.1
theorem nI:∀(c:List CK) (a:Nat) (x:sJ c) (i:Nat),i<a→(bp c a x).get i=none
 |[],_,_,_,_=>rfl
 |.val _::r,a,x,i,h=>by simp only[bp];exact nI r (a+1) x.2 i (by omega)
 |.own ok::r,a,x,i,h=>by simp only[bp,Heap.get];rw[if_neg (by omega)];exact nI r (a+1) x.2 i (by omega)
theorem wi:∀(c:List CK) (a:Nat) (x:sJ c) (i:Nat),a+c.length≤i→(bp c a x).get i=none
 |[],_,_,_,_=>rfl
 |.val _::r,a,x,i,h=>by simp only[List.length_cons]at h;simp only[bp];exact wi r (a+1) x.2 i (by omega)
 |.own ok::r,a,x,i,h=>by simp only[List.length_cons]at h;simp only[bp,Heap.get];rw[if_neg (by omega)];exact wi r (a+1) x.2 i (by omega)
theorem wj:∀(c:List CK) (a b:Nat) (x:sJ c) (j:Nat),(bp c a x).get (a+j)=(bp c b x).get (b+j)
 |[],_,_,_,_=>rfl
 |.val _::r,a,b,x,0=>by simp only[bp];rw[nI _ _ _ _ (by omega),nI _ _ _ _ (by omega)]
 |.own ok::r,a,b,x,0=>by simp[bp,Heap.get]
 |.val _::r,a,b,x,j+1=>by simp only[bp];rw[show a+(j+1)=a+1+j by omega,show b+(j+1)=b+1+j by omega];exact wj r (a+1) (b+1) x.2 j
 |.own ok::r,a,b,x,j+1=>by simp only[bp,Heap.get];rw[if_neg (by omega),if_neg (by omega),show a+(j+1)=a+1+j by omega,show b+(j+1)=b+1+j by omega];exact wj r (a+1) (b+1) x.2 j
theorem pK:∀(c:List CK) (a:Nat) (x:sJ c) (i:Nat) (ty:TypeId) (cs:List AV),(bp c a x).get i≠some (.box ty cs)
 |[],_,_,_,_,_=>by simp[bp,Heap.get]
 |.val _::r,a,x,i,ty,cs=>by simp only[bp];exact pK r (a+1) x.2 i ty cs
 |.own ok::r,a,x,i,ty,cs=>by
  simp only[bp,Heap.get]
  split
  ·simp
  ·exact pK r (a+1) x.2 i ty cs
theorem td:∀(rs:List RK) (a:Nat) (y:nq rs) (i:Nat),rs.all RK.plain=true→i<a→(ar rs a y).get i=none
 |[],a,y,i,_,h=>rfl
 |.val k::r,a,y,i,hp,h=>by simp only[ar];exact td r (a+1) y.2 i (bP hp) (by omega)
 |.own ok::r,a,y,i,hp,h=>by simp only[ar,Heap.get];rw[if_neg (by omega)];exact td r (a+1) y.2 i (bP hp) (by omega)
 |.fW _ _::r,a,y,i,hp,h=>by simp only[ar];exact td r (a+1) y.2 i (bP hp) (by omega)
 |.agg c::r,a,y,i,hp,h=>by have h1:(bp c a y.1).get i=none:=nI c a y.1 i h;have h2:=td r (a+1) y.2 i (bP hp) (by omega);show Heap.get (bp c a y.1++ar r (a+1) y.2) i=none;rw[Heap.get_append,h1,h2]
theorem Kt:∀(rs:List RK) (a:Nat) (y:nq rs) (i:Nat),rs.all RK.plain=true→a+rs.length+16≤i→(ar rs a y).get i=none
 |[],a,y,i,_,h=>rfl
 |.val k::r,a,y,i,hp,h=>by simp only[List.length_cons]at h;simp only[ar];exact Kt r (a+1) y.2 i (bP hp) (by omega)
 |.own ok::r,a,y,i,hp,h=>by simp only[List.length_cons]at h;simp only[ar,Heap.get];rw[if_neg (by omega)];exact Kt r (a+1) y.2 i (bP hp) (by omega)
 |.fW _ _::r,a,y,i,hp,h=>by simp only[List.length_cons]at h;simp only[ar];exact Kt r (a+1) y.2 i (bP hp) (by omega)
 |.agg c::r,a,y,i,hp,h=>by simp only[List.length_cons]at h;have hc:=QV hp;have h1:(bp c a y.1).get i=none:=wi c a y.1 i (by omega);have h2:=Kt r (a+1) y.2 i (bP hp) (by omega);show Heap.get (bp c a y.1++ar r (a+1) y.2) i=none;rw[Heap.get_append,h1,h2]
theorem Ku:∀(rs:List RK) (a b:Nat) (y:nq rs) (j:Nat),rs.all RK.plain=true→(ar rs a y).get (a+j)=(ar rs b y).get (b+j)
 |[],_,_,_,_,_=>rfl
 |.val k::r,a,b,y,0,hp=>by simp only[ar];rw[td _ _ _ _ (bP hp) (by omega),td _ _ _ _ (bP hp) (by omega)]
 |.fW _ _::r,a,b,y,0,hp=>by simp only[ar];rw[td _ _ _ _ (bP hp) (by omega),td _ _ _ _ (bP hp) (by omega)]
 |.own ok::r,a,b,y,0,hp=>by simp[ar,Heap.get]
 |.val k::r,a,b,y,j+1,hp=>by simp only[ar];rw[show a+(j+1)=a+1+j by omega,show b+(j+1)=b+1+j by omega];exact Ku r (a+1) (b+1) y.2 j (bP hp)
 |.fW _ _::r,a,b,y,j+1,hp=>by simp only[ar];rw[show a+(j+1)=a+1+j by omega,show b+(j+1)=b+1+j by omega];exact Ku r (a+1) (b+1) y.2 j (bP hp)
 |.own ok::r,a,b,y,j+1,hp=>by simp only[ar,Heap.get];rw[if_neg (by omega),if_neg (by omega),show a+(j+1)=a+1+j by omega,show b+(j+1)=b+1+j by omega];exact Ku r (a+1) (b+1) y.2 j (bP hp)
 |.agg c::r,a,b,y,j,hp=>by
  have h1:(bp c a y.1).get (a+j)=(bp c b y.1).get (b+j):=wj c a b y.1 j;have h2:(ar r (a+1) y.2).get (a+j)=(ar r (b+1) y.2).get (b+j):=by
   cases j with
   |zero=>rw[td _ _ _ _ (bP hp) (by omega),td _ _ _ _ (bP hp) (by omega)]
   |succ j =>rw[show a+(j+1)=a+1+j by omega,show b+(j+1)=b+1+j by omega];exact Ku r (a+1) (b+1) y.2 j (bP hp)
  show Heap.get (bp c a y.1++ar r (a+1) y.2) (a+j)=Heap.get (bp c b y.1++ar r (b+1) y.2) (b+j);rw[Heap.get_append,Heap.get_append,h1,h2]
theorem xD:∀(rs:List RK) (a:Nat) (y:nq rs) (i:Nat) (ty:TypeId) (cs:List AV),rs.all RK.plain=true→(ar rs a y).get i≠some (.box ty cs)
 |[],_,_,_,_,_,_=>by simp[ar,Heap.get]
 |.val k::r,a,y,i,ty,cs,hp=>by simp only[ar];exact xD r (a+1) y.2 i ty cs (bP hp)
 |.fW _ _::r,a,y,i,ty,cs,hp=>by simp only[ar];exact xD r (a+1) y.2 i ty cs (bP hp)
 |.own ok::r,a,y,i,ty,cs,hp=>by
  simp only[ar,Heap.get]
  split
  ·simp
  ·exact xD r (a+1) y.2 i ty cs (bP hp)
 |.agg c::r,a,y,i,ty,cs,hp=>by
  have h1:(bp c a y.1).get i≠some (.box ty cs):=pK c a y.1 i ty cs;show Heap.get (bp c a y.1++ar r (a+1) y.2) i≠some (.box ty cs);rw[Heap.get_append]
  split
  ·rename_i o ho;rw[ho]at h1;exact h1
  ·exact xD r (a+1) y.2 i ty cs (bP hp)
theorem nJ(p:Nat→Prop):∀(k:K) (x:k.T),aJ p (enc k x)
 |.int _,_=>by simp only[enc,aJ,aQ];exact⟨trivial,trivial⟩
 |.bool,_=>by simp only[enc,aJ,aQ];exact⟨trivial,trivial⟩
 |.str,_=>by simp only[enc,aJ,aQ];exact⟨trivial,trivial⟩
 |.sl _,_=>by simp only[enc,aJ,aQ];exact⟨trivial,trivial⟩
 |.mp _ _,_=>by simp only[enc,aJ,aQ];exact⟨trivial,trivial⟩
 |.pair a b,x=>by
  simp only[enc];have h1:=nJ p a x.1;have h2:=nJ p b x.2
  revert h1
  generalize enc a x.1=l
  induction l with
  |nil=>intro _;exact h2
  |cons c r ih=>intro h;simp only[List.cons_append,aJ]at h ⊢;exact⟨h.1,ih h.2⟩
 |.one k,x=>by simp only[enc];exact nJ p k x
theorem qi(p:Nat→Prop):∀(k:K) (x:k.T),aQ p (cJ k x)
 |.int _,_=>by simp only[cJ,aQ]
 |.bool,_=>by simp only[cJ,aQ]
 |.str,_=>by simp only[cJ,aQ]
 |.sl _,_=>by simp only[cJ,aQ]
 |.mp _ _,_=>by simp only[cJ,aQ]
 |.pair a b,x=>by simp only[cJ,aQ];exact nJ p (.pair a b) x
 |.one k,x=>by simp only[cJ,aQ];exact nJ p (.one k) x
theorem TG{k:K}{x:k.T}{v:Value}(hr:aD Z ψ h w (cJ k x) v):aD Z ψ' h' w (cJ k x) v :=hr.move (p:=fun _=>False) (fun _ h=>h) (cU.refl _ _) (fun _ hp _=>hp.elim) (qi _ k x)
theorem Yd(r:RK)(rs:List RK)(b:Nat)(y:nq (r::rs))(i:Nat)(hi:(ar rs (b+1) y.2).get i≠none):(ar (r::rs) b y).get i≠none:=by
 cases r with
 |val k=>exact hi
 |fW _ _=>exact hi
 |own ok=>simp only[ar,Heap.get];split<;>simp_all
 |agg c =>
  show Heap.get (bp c b y.1++ar rs (b+1) y.2) i≠none;rw[Heap.get_append]
  split
  ·simp
  ·exact hi
theorem Nl(c:List CK):∀{H:Hp} {a b:Nat} {x:sJ c} {vs:List Value},(∀j,(bp c b x).get (b+j)≠none→h' (b+j)≠none→H (a+j)≠none∧ψ' (b+j)=ψ (a+j)) → ax Z ψ H w (aK c a x) vs→ax Z ψ' h' w (aK c b x) vs:=by
 induction c with
 |nil=>intro H a b x vs _ hr;simpa only[aK,ax] using hr
 |cons k c ih =>
  intro H a b x vs hH hr
  cases k with
  |val k =>have ud:ax Z ψ H w (enc k x.1++aK c (a+1) x.2) vs:=hr;obtain⟨us,ws,rfl,h1,h2⟩:=ud.split;show ax Z ψ' h' w (enc k x.1++aK c (b+1) x.2) (us++ws);refine(h1.move (p:=fun _=>False) (fun _ h=>h) (cU.refl _ _) (fun _ hp _=>hp.elim) (nJ _ k x.1)).append (ih (fun j hj bq=>?_) h2);have:=hH (j+1);rw[show b+(j+1)=b+1+j by omega,show a+(j+1)=a+1+j by omega]at this;exact this hj bq
  |own ok =>
   have ud:ax Z ψ H w (.bV a::aK c (a+1) x.2) vs:=hr;simp only[ax]at ud;obtain⟨v,us,rfl,h1,h2⟩:=ud;show ax Z ψ' h' w (.bV b::aK c (b+1) x.2) (v::us);simp only[ax];refine⟨v,us,rfl,?_,ih (fun j hj bq=>?_) h2⟩
   ·simp only[aD]at h1 ⊢;refine⟨h1.1,fun bq=>?_⟩;obtain⟨h3,h4⟩:=hH 0 (by simp[bp,Heap.get]) bq;rw[Nat.add_zero,Nat.add_zero]at h4;rw[h4];exact h1.2 h3
   ·have:=hH (j+1);rw[show b+(j+1)=b+1+j by omega,show a+(j+1)=a+1+j by omega]at this;refine this ?_ bq;have e:(bp (.own ok::c) b x).get (b+1+j)=(bp c (b+1) x.2).get (b+1+j):=by simp only[bp,Heap.get];rw[if_neg (by omega)]
    rw[e];exact hj
theorem TH(rs:List RK):∀{H:Hp} {n m a b:Nat} {y:nq rs} {vs:List Value},rs.all RK.plain=true→(∀j,(ar rs b y).get (b+j)≠none→h' (b+j)≠none→H (a+j)≠none∧ψ' (b+j)=ψ (a+j)) → ax Z ψ H w (bj rs [] n a y) vs→ax Z ψ' h' w (bj rs [] m b y) vs:=by
 induction rs with
 |nil=>intro H n m a b y vs _ _ hr;simpa only[bj,ax] using hr
 |cons r rs ih =>
  intro H n m a b y vs hp hH hr;have hpa:=hp;simp only[List.all_cons,Bool.and_eq_true]at hp;have hH':∀j,(ar rs (b+1) y.2).get (b+1+j)≠none→h' (b+1+j)≠none→H (a+1+j)≠none∧ψ' (b+1+j)=ψ (a+1+j):=fun j hj bq=>by have:=hH (j+1);rw[show b+(j+1)=b+1+j by omega,show a+(j+1)=a+1+j by omega]at this;exact this (Yd _ _ _ _ _ hj) bq
  cases r with
  |val k =>simp only[bj,ax]at hr ⊢;obtain⟨v,us,rfl,h1,h2⟩:=hr;exact⟨v,us,rfl,TG h1,ih hp.2 hH' h2⟩
  |own ok =>simp only[bj,ax]at hr ⊢;obtain⟨v,us,rfl,h1,h2⟩:=hr;refine⟨v,us,rfl,?_,ih hp.2 hH' h2⟩;simp only[aD]at h1 ⊢;refine⟨h1.1,fun bq=>?_⟩;obtain⟨h3,h4⟩:=hH 0 (by simp[ar,Heap.get]) bq;rw[Nat.add_zero,Nat.add_zero]at h4;rw[h4];exact h1.2 h3
  |fW b c=>simp[RK.plain]at hp
  |agg c =>
   simp only[bj,ax]at hr ⊢;obtain⟨v,us,rfl,h1,h2⟩:=hr;refine⟨v,us,rfl,?_,ih hp.2 hH' h2⟩;simp only[aD]at h1 ⊢;obtain⟨ws,rfl,h3⟩:=h1;refine⟨ws,rfl,Nl c (fun j hj bq=>hH j ?_ bq) h3⟩;show Heap.get (bp c b y.1++ar rs (b+1) y.2) (b+j)≠none;rw[Heap.get_append]
   split
   ·simp
   ·rename_i Bh;exact absurd Bh hj
theorem wm{ZY ZZ:Nat→Value}{adQ adR:Hp}{adS adT:Nat→Prop}{l l':List AV}{V:Value}(hl:l.length=l'.length)(hm:∀vs,ax adS ZY adQ w l vs→ax adT ZZ adR w l' vs)(hr:aD adS ZY adQ w (gq l) V):aD adT ZZ adR w (gq l') V:=by
 match l,l',hl with
 |[a],[a'],_ =>
  simp only[gq]at hr ⊢;have:=hm [V] (by simp only[ax];exact⟨V,[],rfl,hr,rfl⟩);simp only[ax]at this;obtain⟨v,us,e,h1,_⟩:=this
  cases e;exact h1
 |[],[],_ =>simp only[gq,aD]at hr ⊢;obtain⟨us,rfl,h1⟩:=hr;exact⟨us,rfl,hm _ h1⟩
 |a::b::r,a'::b'::r',_ =>simp only[gq,aD]at hr ⊢;obtain⟨us,rfl,h1⟩:=hr;exact⟨us,rfl,hm _ h1⟩
theorem lq(rs:List RK):∀(ids:List Nat) (n m:Nat) (y:nq rs),(bj rs ids n m y).length=rs.length:=by
 induction rs with
 |nil=>intros;rfl
 |cons r rs ih=>intro ids n m y;cases r<;>simp[bj,ih]
theorem Co:∀(k:K) (x:k.T) (r:List AV),dec k (enc k x++r)=some (x,r)
 |.int _,x,r=>by simp only[enc,List.cons_append,List.nil_append,dec,Ib,if_true];rfl
 |.bool,x,r=>by simp only[enc,List.cons_append,List.nil_append,dec,Ce];rfl
 |.str,x,r=>by simp only[enc,List.cons_append,List.nil_append,dec,Ic];rfl
 |.sl k,x,r=>by simp only[enc,List.cons_append,List.nil_append,dec,OX];rfl
 |.mp kk vk,x,r=>by simp only[enc,List.cons_append,List.nil_append,dec,OY];rfl
 |.pair a b,x,r=>by simp only[enc,dec,List.append_assoc];rw[Co a x.1 (enc b x.2++r)];simp only[];rw[Co b x.2 r];rfl
 |.one k,x,r=>by simp only[enc,dec];exact Co k x r
theorem wq(k:K)(x:k.T):dZ k (enc k x)=some x:=by unfold dZ;have:=Co k x [];rw[List.append_nil]at this;rw[this]
theorem wu:∀(k:K) (x:k.T),(cJ k x).cells=enc k x
 |.int _,_=>rfl
 |.bool,_=>rfl
 |.str,_=>rfl
 |.sl _,_=>rfl
 |.mp _ _,_=>rfl
 |.pair a b,x=>rfl
 |.one k,x=>rfl
theorem Pc:∀(k:K) (x:k.T),cJ k x≠.no
 |.int _,_=>by simp[cJ]
 |.bool,_=>by simp[cJ]
 |.str,_=>by simp[cJ]
 |.sl _,_=>by simp[cJ]
 |.mp _ _,_=>by simp[cJ]
 |.pair a b,x=>by simp[cJ]
 |.one k,x=>by simp[cJ]
theorem DD:∀(k:K) (x:k.T),(cJ k x).isAgg=k.isAgg
 |.int _,_=>rfl
 |.bool,_=>rfl
 |.str,_=>rfl
 |.sl _,_=>rfl
 |.mp _ _,_=>rfl
 |.pair a b,x=>rfl
 |.one k,x=>rfl
theorem QW{k:K}{x:k.T}{v:Value}(hr:aD Z ψ h w (cJ k x) v):aP Z w k x v.cells.toList:=by have h1:=hr.cells (Pc k x);rw[wu]at h1;exact eO (wq k x) h1
theorem Nm{k:K}{x:k.T}{v:Value}(hr:aD Z ψ h w (cJ k x) v):(k.isAgg=true→∃vs,v=.agg vs)∧(k.isAgg=false→v.cells=#[v]) :=⟨fun h=>Tz (by rw[DD];exact h) hr,fun h=>GQ (by rw[DD];exact h) (Pc k x) hr⟩
theorem TI(rs:List RK):∀{H:Hp} {n m a b:Nat} {y:nq rs} {vs:List Value},rs.all RK.flat=true→rs.all RK.plain=true→ax Z ψ H w (bj rs [] n a y) vs→ax Z' ψ' h' w' (bj rs [] m b y) vs:=by
 induction rs with
 |nil=>intro H n m a b y vs _ _ hr;simpa only[bj,ax] using hr
 |cons r rs ih =>
  intro H n m a b y vs hf hp hr;simp only[List.all_cons,Bool.and_eq_true]at hp hf
  cases r with
  |val k =>simp only[bj,ax]at hr ⊢;obtain⟨v,us,rfl,h1,h2⟩:=hr;have hk:k.flat=true:=hf.1;obtain⟨h3,h4⟩:=Nm h1;exact⟨v,us,rfl,nu ((QW h1).flat hk) h3 h4,ih hf.2 hp.2 h2⟩
  |own ok=>simp[RK.flat]at hf
  |fW b c=>simp[RK.plain]at hp
  |agg c=>simp[RK.flat]at hf
theorem QX(rs:List RK):∀(a:Nat) (y:nq rs),rs.all RK.flat=true→rs.all RK.plain=true→ar rs a y=[]:=by
 induction rs with
 |nil=>intros;rfl
 |cons r rs ih =>
  intro a y hf hp;simp only[List.all_cons,Bool.and_eq_true]at hp hf
  cases r with
  |val k=>simp only[ar];exact ih _ _ hf.2 hp.2
  |own ok=>simp[RK.flat]at hf
  |fW b c=>simp[RK.plain]at hp
  |agg c=>simp[RK.flat]at hf
theorem xF:∀(ps:List PK) (vs:List AV),dd ps vs=some []→∀v∈vs,∀id,AV.bV id∈v.cells→AV.bV id∈dV ps vs
 |[],vs,hi,v,hv,id,bR=>by
  cases vs with
  |nil=>cases hv
  |cons a r=>simp[dd]at hi
 |p::ps,vs,hi,v,hv,id,bR=>by
  obtain⟨a,r,rfl,vW,Yc,abn,abo⟩:=Bf hi;rcases abd.1 hv with rfl|hv
  ·cases p with
   |val k=>simp only[dV];exact abi _ bR
   |ref=>exact absurd rfl Yc.1
   |own=>exact absurd rfl Yc.2
   |JZ f n=>rw[abn f n rfl]at bR;simp[AV.cells]at bR
   |agg n=>rw[abo n rfl]at bR;simp[AV.cells]at bR
  ·have:=xF ps r vW v hv id bR
   cases p with
   |val k=>simp only[dV];exact abg _ this
   |ref=>exact absurd rfl Yc.1
   |own=>exact absurd rfl Yc.2
   |JZ f n=>simpa only[dV] using this
   |agg n=>simpa only[dV] using this
theorem DE(f:FuncId)(vs:List AV):vS f vs%1000=f%1000:=by
 induction vs with
 |nil=>rfl
 |cons v r ih =>
  cases v with
  |fn g cap=>exact Nat.add_mul_mod_self_left f 1000 _
  |_=>simp only[vS];exact ih
theorem zy{Sg:FuncId→Option aX}(f:FuncId)(vs:List AV):keyOf Sg f vs%1000=f%1000:=by
 unfold keyOf
 split
 ·exact(Nat.add_mul_mod_self_right (vS f vs) 500 1000).trans (DE f vs)
 ·exact DE f vs
theorem Next.imp{N':Nat→Prop}(n:Next Z ψ h w B0 O N Z' ψ' h' w')(hi:∀i,N i→N' i):Next Z ψ h w B0 O N' Z' ψ' h' w' :=⟨n.g6,n.fN,n.keep,fun id bR=>(n.ids id bR).imp (fun h=>h) (hi id),n.fi⟩
theorem zz{rs:List RK}{y:nq rs}(hp:rs.all RK.plain=true){id nb:Nat}(g:Good Z ψ h w B0 O)(hB:B0≤w.heap.size) (bC:∀i ty cs,h i=some (.box ty cs)→aJ (fun i=>¬N i) cs) (hN:∀j,j<rs.length+16→N (id+j)) (k:dF MS iq w w') (hz:∀b,Z b→Z' b) (C9:∀b,Z' b→Z b∨w.heap.size≤b) (gc:Good Z' ψ' (ar rs 3000 y).get w' w.heap.size (fun _=>False)) {v:Value} (hr:aD Z' ψ' (ar rs 3000 y).get w' (gq (bj rs [] 2000 3000 y)) v) :
  ∃wx,Next Z ψ h w B0 O N Z' wx (fun i=>match (ar rs id y).get i with|some o=>some o|none=>h i) w' ∧
   aD Z' wx (fun i=>match (ar rs id y).get i with|some o=>some o|none=>h i) w' (gq (bj rs [] nb id y)) v:=by
 classical
 let H:Hp:=fun i=>match (ar rs id y).get i with|some o=>some o|none=>h i
 let NN:Nat→Prop:=fun i=>(ar rs id y).get i≠none
 let wx:Nat→Value:=fun i=>if NN i then ψ' (3000+(i-id)) else ψ i
 have hNN:∀i,NN i→∃j,j<rs.length+16∧i=id+j:=fun i hi=>by have h1:¬i<id:=fun aG=>hi (td rs id y i hp aG);have h2:¬id+rs.length+16≤i:=fun hge=>hi (Kt rs id y i hp hge);exact⟨i-id,by omega,by omega⟩
 have Bi:∀i,NN i→(ar rs 3000 y).get (3000+(i-id))=(ar rs id y).get i:=fun i hi=>by obtain⟨j,_,rfl⟩:=hNN i hi;rw[show id+j-id=j by omega];exact Ku rs 3000 id y j hp
 have hH:∀i,NN i→H i=(ar rs 3000 y).get (3000+(i-id)):=fun i hi=>by
  rw[Bi i hi];show(match (ar rs id y).get i with|some o=>some o|none=>h i)=_
  cases e:(ar rs id y).get i with
  |none=>exact absurd e hi
  |some o=>rfl
 have j0:∀i,NN i→wx i=ψ' (3000+(i-id)):=fun i hi=>if_pos hi;have adU:∀i,NN i→N i:=fun i hi=>by obtain⟨j,hj,rfl⟩:=hNN i hi;exact hN j hj
 have n:=Good.adP (N:=NN) (ψ':=wx) (h':=H) g k hz C9 gc.kO (fun i hi=>by
   have e:(ar rs id y).get i=none:=Classical.not_not.1 hi;refine⟨?_,if_neg hi⟩;show(match (ar rs id y).get i with|some o=>some o|none=>h i)=h i;rw[e])
  (fun i ty cs hb=>(bC i ty cs hb).imp (fun i hi hni=>hi (adU i hni)))
  (fun i ty cs hi hb=>by rw[hH i hi]at hb;exact xD _ _ _ _ _ _ hp hb)
  (fun i ok xs hi hb=>by rw[hH i hi]at hb;rw[j0 i hi];exact gc.row _ _ _ hb)
  (fun i b hi h1 h2=>by rw[hH i hi]at h1;rw[j0 i hi]at h2;obtain⟨h3,h4⟩:=gc.live _ b h1 h2;exact⟨h4.resolve_right (fun h=>h),h3⟩)
  (fun i i' b hi vW h1 h2 h3 h4=>by rw[hH i hi]at h1;rw[hH i' vW]at h2;rw[j0 i hi]at h3;rw[j0 i' vW]at h4;have:=gc.apart _ _ b h1 h2 h3 h4;obtain⟨j,_,rfl⟩:=hNN i hi;obtain⟨j',_,rfl⟩:=hNN i' vW;omega) hB
 refine⟨wx,n.imp adU,?_⟩;refine wm (by rw[lq,lq]) (fun vs vX=>?_) hr;refine TH (h':=H) (ψ':=wx) rs (n:=2000) (a:=3000) hp (fun j hn bq=>?_) vX
 replace hn:NN (id+j):=hn
 have e1:=hH _ hn;have e2:=j0 _ hn;rw[show id+j-id=j by omega]at e1 e2;exact⟨by rw[←e1];exact bq,e2⟩
def ke(P:Program)(f:FuncId):Prop:=∃fn,P.funcs[f]? = some fn∧(fn.name== "runtime.NumGoroutine")=false∧fn.body.isSome=true
theorem kf{f:FuncId}(hc:ke P f)(args:Array Value):(callFunc f args).run P w=.ok (.enter f args) w:=by obtain⟨fn,h1,h2,h3⟩:=hc;obtain⟨c,hc⟩:=abC.1 h3;simp[callFunc,h1,hc,show ¬fn.name= "runtime.NumGoroutine" by simpa using h2]
def aab(P:Program)(ρC:Operand→Value)(o:Oper)(Z:Nat→Prop)(ψ:Nat→Value)(h:Hp)(w:World)(B0:Nat)(O N:Nat→Prop)(e:bW):Prop :=∃f args,(execOp ρC o).run P w=.ok (.enter f args) w∧Calls P f args w fun en w'=>∃V Z' ψ',en=.returned V∧Next Z ψ h w B0 O N Z' ψ' (e.hp h) w'∧aD Z' ψ' (e.hp h) w' e.v V
def db:(rs:List RK)→List AV→Nat→nq rs→List Be
 |[],_,_,_=>[]
 |.own ok::r,vs,m,x=>(m,(qW (vs.headD .no)).head?,.own ok x.1)::db r vs.tail (m+1) x.2
 |.val _::r,vs,m,x=>db r vs.tail (m+1) x.2
 |.fW _ _::r,vs,m,x=>db r vs.tail (m+1) x.2
 |.agg c::r,vs,m,x=>eQ c m (vs.headD .no).cells x.1++db r vs.tail (m+1) x.2
theorem iC:∀(rs:List RK) (vs:List AV) (m:Nat) (x:nq rs),eI (db rs vs m x)=ar rs m x
 |[],_,_,_=>rfl
 |.own ok::r,vs,m,x=>by simp only[db,ar];rw[←iC r vs.tail (m+1) x.2];rfl
 |.val _::r,vs,m,x=>iC r vs.tail (m+1) x.2
 |.fW _ _::r,vs,m,x=>iC r vs.tail (m+1) x.2
 |.agg c::r,vs,m,x=>by have e1:eI (eQ c m (vs.headD .no).cells x.1)=bp c m x.1:=oQ c m _ x.1;have e2:=iC r vs.tail (m+1) x.2;simp only[db,ar];rw[oR,e2];exact congrArg (·++_) e1
theorem gT:∀(rs:List RK) (vs:List AV) (m:Nat) (x:nq rs),(db rs vs m x).map (·.1)=bH rs m
 |[],_,_,_=>rfl
 |.own ok::r,vs,m,x=>by simp only[db,bH,List.map_cons];rw[gT r vs.tail (m+1) x.2]
 |.val _::r,vs,m,x=>gT r vs.tail (m+1) x.2
 |.fW _ _::r,vs,m,x=>gT r vs.tail (m+1) x.2
 |.agg c::r,vs,m,x=>by have e1:(eQ c m (vs.headD .no).cells x.1).map (·.1)=cK c m:=mF c m _ x.1;have e2:=gT r vs.tail (m+1) x.2;simp only[db,bH,List.map_append];rw[e2];exact congrArg (·++_) e1
theorem rj{bs:List BK}{k:K}{r:List RK}{hh:Heap}{ids:List Nat}{vs:List AV}{x:nq (.val k::r)}(hd:bX bs (.val k::r) hh ids vs=some x):∃v jc,vs=v::jc∧hZ k hh v=some x.1∧bX bs r hh ids jc=some x.2:=by
 cases vs with
 |nil=>cases hd
 |cons v vs =>
  have e:bX bs (.val k::r) hh ids (v::vs)=(match hZ k hh v,bX bs r hh ids vs with
   |some x,some y=>some ((x,y):k.T×nq r)
   |_,_=>none):=rfl
  rw[e]at hd;clear e;refine⟨v,vs,rfl,?_⟩;generalize hZ k hh v=o1 at hd ⊢;generalize bX bs r hh ids vs=o2 at hd ⊢
  cases o1 with
  |none=>cases hd
  |some x1 =>
   cases o2 with
   |none=>cases hd
   |some y1=>have:=aby hd;subst this;exact⟨rfl,rfl⟩
theorem rk{bs:List BK}{ok:OK}{r:List RK}{hh:Heap}{ids:List Nat}{vs:List AV}{x:nq (.own ok::r)}(hd:bX bs (.own ok::r) hh ids vs=some x):∃v jc,vs=v::jc∧fg hh ok v=some x.1∧bX bs r hh ids jc=some x.2:=by
 cases vs with
 |nil=>cases hd
 |cons v vs =>
  have e:bX bs (.own ok::r) hh ids (v::vs)=(match fg hh ok v,bX bs r hh ids vs with
   |some x,some y=>some ((x,y):ok.T×nq r)
   |_,_=>none):=rfl
  rw[e]at hd;clear e;refine⟨v,vs,rfl,?_⟩;generalize fg hh ok v=o1 at hd ⊢;generalize bX bs r hh ids vs=o2 at hd ⊢
  cases o1 with
  |none=>cases hd
  |some x1 =>
   cases o2 with
   |none=>cases hd
   |some y1=>have:=aby hd;subst this;exact⟨rfl,rfl⟩
theorem oS{bs:List BK}{b:Nat}{alts:List (Nat×Nat×Nat)}{r:List RK}{hh:Heap}{ids:List Nat}{vs:List AV}{x:nq (.fW b alts::r)}(hd:bX bs (.fW b alts::r) hh ids vs=some x):∃v jc,vs=v::jc∧pf bs hh ids b alts v=some x.1∧bX bs r hh ids jc=some x.2:=by
 cases vs with
 |nil=>cases hd
 |cons v vs =>
  have e:bX bs (.fW b alts::r) hh ids (v::vs)=(match pf bs hh ids b alts v,bX bs r hh ids vs with
   |some x,some y=>some ((x,y):Option (Fin alts.length×Nat)×nq r)
   |_,_=>none):=rfl
  rw[e]at hd;clear e;refine⟨v,vs,rfl,?_⟩;generalize pf bs hh ids b alts v=o1 at hd ⊢;generalize bX bs r hh ids vs=o2 at hd ⊢
  cases o1 with
  |none=>cases hd
  |some x1 =>
   cases o2 with
   |none=>cases hd
   |some y1=>have:=aby hd;subst this;exact⟨rfl,rfl⟩
theorem rl{bs:List BK}{c:List CK}{r:List RK}{hh:Heap}{ids:List Nat}{vs:List AV}{x:nq (.agg c::r)}(hd:bX bs (.agg c::r) hh ids vs=some x):∃cs jc,vs=.agg cs::jc∧dk c hh cs=some x.1∧bX bs r hh ids jc=some x.2:=by
 cases vs with
 |nil=>cases hd
 |cons v vs =>
  have e:bX bs (.agg c::r) hh ids (v::vs)=(match C3 c hh v,bX bs r hh ids vs with
   |some x,some y=>some ((x,y):sJ c×nq r)
   |_,_=>none):=rfl
  rw[e]at hd;clear e;have key:C3 c hh v=some x.1∧bX bs r hh ids vs=some x.2:=by
   generalize C3 c hh v=o1 at hd ⊢;generalize bX bs r hh ids vs=o2 at hd ⊢
   cases o1 with
   |none=>cases hd
   |some x1 =>
    cases o2 with
    |none=>cases hd
    |some y1=>have:=aby hd;subst this;exact⟨rfl,rfl⟩
  obtain⟨h1,h2⟩:=key;unfold C3 at h1
  split at h1
  ·exact⟨_,vs,rfl,h1,h2⟩
  ·cases h1
theorem je{bs:List BK}{hh:Heap}{ids:List Nat}:∀(rs:List RK) (vs:List AV) (x:nq rs),bX bs rs hh ids vs=some x→vs.length=rs.length
 |[],[],_,_=>rfl
 |[],_::_,_,h=>by cases h
 |.val k::r,vs,x,h=>by obtain⟨v,jc,rfl,_,h2⟩:=rj h;simp[je r jc x.2 h2]
 |.own ok::r,vs,x,h=>by obtain⟨v,jc,rfl,_,h2⟩:=rk h;simp[je r jc x.2 h2]
 |.fW _ _::r,vs,x,h=>by obtain⟨v,jc,rfl,_,h2⟩:=oS h;simp[je r jc x.2 h2]
 |.agg _::r,vs,x,h=>by obtain⟨v,jc,rfl,_,h2⟩:=rl h;simp[je r jc x.2 h2]
theorem jM{bs:List BK}{hh:Heap}{ids:List Nat}:∀(rs:List RK) (vs:List AV) (m:Nat) (x:nq rs),bX bs rs hh ids vs=some x→(db rs vs m x).filterMap (·.2.1)=eX rs vs
 |[],vs,_,_,_=>by cases vs<;>rfl
 |.own ok::r,vs,m,x,h=>by obtain⟨v,jc,rfl,_,h2⟩:=rk h;simp only[db,eX,List.headD_cons,List.tail_cons];rw[eZ,jM r jc (m+1) x.2 h2];simp only[];rw[zw]
 |.val k::r,vs,m,x,h=>by obtain⟨v,jc,rfl,_,h2⟩:=rj h;simp only[db,eX,List.tail_cons];exact jM r jc (m+1) x.2 h2
 |.fW _ _::r,vs,m,x,h=>by obtain⟨v,jc,rfl,_,h2⟩:=oS h;simp only[db,eX,List.tail_cons];exact jM r jc (m+1) x.2 h2
 |.agg c::r,vs,m,x,h=>by obtain⟨cs,jc,rfl,h1,h2⟩:=rl h;simp only[db,eX,List.headD_cons,List.tail_cons,AV.cells];have e1:(eQ c m cs x.1).filterMap (·.2.1)=gZ c cs:=rf c m hh cs x.1 h1;rw[List.filterMap_append,jM r jc (m+1) x.2 h2];exact congrArg (·++_) e1
theorem kT{hd:Hp}{bs:List BK}{hh:Heap}{ids:List Nat}:∀(rs:List RK) (vs:List AV) (m:Nat) (x:nq rs),bX bs rs hh ids vs=some x→(∀s∈eX rs vs,hd s=hh.get s)→∀e∈db rs vs m x,xz Z ψ hd w h' ψ' e
 |[],_,_,_,_,_,e,he=>by simp[db]at he
 |.own ok::r,vs,m,x,h,hk,e,he=>by
  obtain⟨v,jc,rfl,h1,h2⟩:=rk h;simp only[db,eX,List.headD_cons,List.tail_cons]at he hk;rcases abd.1 he with rfl|he
  ·exact Pb h1 fun s hs=>hk s (abi _ hs)
  ·exact kT r jc (m+1) x.2 h2 (fun s hs=>hk s (abg _ hs)) e he
 |.val k::r,vs,m,x,h,hk,e,he=>by obtain⟨v,jc,rfl,h1,h2⟩:=rj h;exact kT r jc (m+1) x.2 h2 hk e he
 |.fW _ _::r,vs,m,x,h,hk,e,he=>by obtain⟨v,jc,rfl,h1,h2⟩:=oS h;exact kT r jc (m+1) x.2 h2 hk e he
 |.agg c::r,vs,m,x,h,hk,e,he=>by
  obtain⟨cs,jc,rfl,h1,h2⟩:=rl h;simp only[db,eX,List.headD_cons,List.tail_cons,AV.cells]at he hk;rcases abw.1 he with he|he
  ·exact uq c m cs x.1 h1 (fun s hs=>hk s (abi _ hs)) e he
  ·exact kT r jc (m+1) x.2 h2 (fun s hs=>hk s (abg _ hs)) e he
theorem zB{hh:Heap}{id:Nat}:∀(dW:List CK) (c n:Nat) (cs:List AV) (x:sJ dW),dk dW hh cs=some x→ia dW c=true→cs[oL dW c]? = some (.bV id)→hh.get id≠none∧∃o,(n+c,some id,o)∈eQ dW n cs x
 |[],c,n,cs,x,_,h,_=>by simp[ia]at h
 |.val k::r,0,n,cs,x,_,h,_=>by simp[ia]at h
 |.val k::r,c+1,n,cs,x,hd,h,hc=>by obtain⟨_,h2⟩:=q9 hd;obtain⟨h3,o,h4⟩:=zB r c (n+1) (cs.drop k.sz) x.2 h2 (by simpa[ia] using h) (by rw[List.getElem?_drop];simpa[oL] using hc);exact⟨h3,o,by rw[show n+(c+1)=n+1+c by omega];exact h4⟩
 |.own ok::r,0,n,cs,x,hd,h,hc=>by
  obtain⟨c0,cs',rfl,h1,h2⟩:=nF hd;simp only[oL,List.getElem?_cons_zero,Option.some.injEq]at hc;subst hc;rcases nG h1 with⟨h3,_⟩|⟨oH,h3,h4⟩
  ·cases h3
  ·cases h3
   exact⟨by rw[h4];simp,_,by simp only[eQ,List.headD_cons,qW,List.head?_cons];exact abp⟩
 |.own ok::r,c+1,n,cs,x,hd,h,hc=>by obtain⟨c0,cs',rfl,h1,h2⟩:=nF hd;obtain⟨h3,o,h4⟩:=zB r c (n+1) cs' x.2 h2 (by simpa[ia] using h) (by simp only[oL]at hc;rw[Nat.add_comm]at hc;simpa using hc);exact⟨h3,o,by rw[show n+(c+1)=n+1+c by omega];simp only[eQ,List.tail_cons];exact aa1 _ h4⟩
theorem DF{hh:Heap}{id c:Nat}:∀(bs:List BK) (b n:Nat) (is is':List Nat) (x:zc bs) (bk:BK) (bi:Nat) (ty:TypeId) (cs:List AV),dD bs hh is=some x→is'.length=bs.length→bs[b]? = some bk→is[b]? = some bi→hh.get bi=some (.box ty cs) → ia bk.dW c=true→cs[oL bk.dW c]? = some (.bV id)→hh.get id≠none∧∃o,(n+16*b+c,some id,o)∈cY bs hh is is' n x
 |[],b,n,is,is',x,bk,bi,ty,cs,_,_,h,_,_,_,_=>by simp at h
 |b0::r,b,n,[],is',x,bk,bi,ty,cs,hd,_,_,_,_,_,_=>by cases hd
 |b0::r,b,n,i::is,[],x,bk,bi,ty,cs,_,hl,_,_,_,_,_=>by simp at hl
 |b0::r,0,n,i::is,i'::is',x,bk,bi,ty,cs,hd,hl,h1,h2,h3,h4,h5=>by
  obtain⟨g0,g3⟩:=gG hd;simp only[List.getElem?_cons_zero,Option.some.injEq]at h1 h2;subst h1;subst h2
  cases b0 with
  |own ok=>simp[BK.dW,ia]at h4
  |box ty0 c0 =>
   obtain⟨cs',g1,g2⟩:=uo g0;rw[g1]at h3
   cases h3
   obtain⟨h6,o,h7⟩:=zB c0 c n cs x.1 g2 h4 h5;refine⟨h6,o,?_⟩;simp only[cY,eY];rw[rh g1];exact abi _ (aa1 _ (by simpa using h7))
 |b0::r,b+1,n,i::is,i'::is',x,bk,bi,ty,cs,hd,hl,h1,h2,h3,h4,h5=>by obtain⟨_,g3⟩:=gG hd;obtain⟨h6,o,h7⟩:=DF r b (n+16) is is' x.2 bk bi ty cs g3 (by simpa using hl) (by simpa using h1) (by simpa using h2) h3 h4 h5;refine⟨h6,o,?_⟩;rw[show n+16*(b+1)+c=n+16+16*b+c by omega];simp only[cY];exact abg _ h7
theorem DG{c:List CK}{cs:List AV}{id s off:Nat}{a:Nat×Nat×Nat}(h:AZ c cs id s off a=true):cs[oL c a.1]? = some (.bV id)∧s=a.2.1∧off=a.2.2∧ia c a.1=true:=by
 simp only[AZ,Bool.and_eq_true,decide_eq_true_eq]at h;obtain⟨h1,h2,h3,h4⟩:=h;refine⟨?_,h2,h3,h4⟩;unfold Tj at h1
 split at h1
 ·rename_i e;rw[e];simp only[beq_iff_eq]at h1;rw[h1]
 ·cases h1
theorem QY{bs:List BK}{hh:Heap}{ids:List Nat}{b:Nat}{alts:List (Nat×Nat×Nat)}{v:AV}{x:Option (Fin alts.length×Nat)}(hd:pf bs hh ids b alts v=some x):(v=.mC∧x=none) ∨ ∃id i a bi bk ty cs,v=.ref id (alts.get a).2.1 i (alts.get a).2.2∧x=some (a,i)∧ids[b]? = some bi∧bs[b]? = some bk∧hh.get bi=some (.box ty cs)∧cs[oL bk.dW (alts.get a).1]? = some (.bV id)∧ia bk.dW (alts.get a).1=true:=by
 unfold pf at hd
 split at hd
 ·cases hd;exact .inl ⟨rfl,rfl⟩
 ·rename_i id s i off
  split at hd
  ·rename_i bi bk h1 h2
   split at hd
   ·rename_i ty cs h3
    split at hd
    ·rename_i a h4
     cases hd
     have h4':AZ bk.dW cs id s off (alts.get a)=true:=by simpa using adm (p:=fun a=>AZ bk.dW cs id s off (alts.get a)) h4
     obtain⟨h5,rfl,rfl,h6⟩:=DG h4';exact .inr ⟨id,i,a,bi,bk,ty,cs,rfl,rfl,h1,h2,h3,h5,h6⟩
    ·cases hd
   ·cases hd
  ·cases hd
 ·cases hd
theorem ux{bs:List BK}{hh:Heap}{ids is' ids2:List Nat}{nb:Nat}{yb:zc bs}(g:Good Z ψ hh.get w B0 O)(hz:∀b,Z b→Z' b)(hb:dD bs hh ids=some yb)(hl:is'.length=bs.length) (TJ:∀e∈cY bs hh ids is' nb yb,h' e.1≠none→ψ' e.1=kR ψ e.2.1):∀(rs:List RK) (vs:List AV) (m:Nat) (x:nq rs) (us:List Value),bX bs rs hh ids vs=some x →(∀id b,AV.bV id∈ig rs vs→hh.get id≠none→ob (ψ id)=some b→Z' b)→(∀e∈db rs vs m x,h' e.1≠none→ψ' e.1=kR ψ e.2.1)→ax Z ψ hh.get w vs us→ax Z' ψ' h' w (bj rs ids2 nb m x) us
 |[],vs,m,x,us,hd,_,_,hr=>by have:=je [] vs x hd;have hv:vs=[]:=acg this;subst hv;simpa only[bj,ax] using hr
 |.val k::r,vs,m,x,us,hd,hf,j0,hr=>by obtain⟨v,jc,rfl,h1,h2⟩:=rj hd;simp only[ax]at hr;obtain⟨u,jU,rfl,h3,h4⟩:=hr;simp only[bj,ax];simp only[ig]at hf;exact⟨u,jU,rfl,uh g hz (fun id b bR=>hf id b (abi _ bR)) h1 h3,ux g hz hb hl TJ r jc (m+1) x.2 jU h2 (fun id b bR=>hf id b (abg _ bR)) j0 h4⟩
 |.own ok::r,vs,m,x,us,hd,hf,j0,hr=>by obtain⟨v,jc,rfl,h1,h2⟩:=rk hd;simp only[ax]at hr;obtain⟨u,jU,rfl,h3,h4⟩:=hr;simp only[bj,ax];simp only[db,List.headD_cons,List.tail_cons]at j0;exact⟨u,jU,rfl,Is h1 h3 (fun hn=>j0 _ abp hn),ux g hz hb hl TJ r jc (m+1) x.2 jU h2 hf (fun e he=>j0 e (aa1 _ he)) h4⟩
 |.fW b alts::r,vs,m,x,us,hd,hf,j0,hr=>by
  obtain⟨v,jc,rfl,h1,h2⟩:=oS hd;simp only[ax]at hr;obtain⟨u,jU,rfl,h3,h4⟩:=hr;simp only[bj,ax];refine⟨u,jU,rfl,?_,ux g hz hb hl TJ r jc (m+1) x.2 jU h2 hf j0 h4⟩;rcases QY h1 with⟨rfl,h5⟩|⟨id,i,al,bi,bk,ty,cs,rfl,h5,h6,h7,h8,h9,oC⟩
  ·have:x.1=none:=h5;rw[this];simpa only[xd,aD] using h3
  ·have:x.1=some (al,i):=h5;rw[this];obtain⟨BW,o,MQ⟩:=DF bs b nb ids is' yb bk bi ty cs hb hl h7 h6 h8 oC h9;simp only[xd,aD]at h3 ⊢;obtain⟨ad,XH,h14⟩:=h3;refine⟨ad,XH,fun hn=>?_⟩;rw[TJ _ MQ hn,h14 BW];rfl
 |.agg c::r,vs,m,x,us,hd,hf,j0,hr=>by obtain⟨cs,jc,rfl,h1,h2⟩:=rl hd;simp only[ax]at hr;obtain⟨u,jU,rfl,h3,h4⟩:=hr;simp only[bj,ax];simp only[ig,AV.cells]at hf;simp only[db,List.headD_cons,List.tail_cons,AV.cells]at j0;refine⟨u,jU,rfl,?_,ux g hz hb hl TJ r jc (m+1) x.2 jU h2 (fun id b bR=>hf id b (abg _ bR)) (fun e he=>j0 e (abg _ he)) h4⟩;simp only[aD]at h3 ⊢;obtain⟨ws,rfl,h5⟩:=h3;exact⟨ws,rfl,um g hz c m cs x.1 _ h1 (fun id b bR=>hf id b (abi _ bR)) (fun e he=>j0 e (abi _ he)) h5⟩
end Go.Vs
