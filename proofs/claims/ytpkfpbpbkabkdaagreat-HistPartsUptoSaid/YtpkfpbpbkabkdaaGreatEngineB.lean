/- The value semantics is sound, operation by operation. -/
import Derived.Test.YtpkfpbpbkabkdaaGreatEngineA
import Derived.Laws.StructEq
import Derived.Laws.Slices
import Derived.Laws.Strings
import Derived.MapKept
namespace Go.Vs
variable {P:Program} {Z Z':Nat→Prop} {ψ ψ':Nat→Value} {h h':Hp} {w w':World} {B0:Nat} {O:Nat→Prop} {N:Nat→Prop}
def bE.hp(h:Hp):bE→Hp
 |.val _=>h
 |.new _ os=>fun i=>match Heap.get os i with
  |some o=>some o
  |none=>h i
 |.wr _ h'=>h'.get
theorem hP(id:Nat)(o:Ob)(h:Hp):(fun i=>match Heap.get [(id,o)] i with|some o=>some o|none=>h i)=dM h id (some o):=by
 funext i
 simp only[Heap.get,dM]
 by_cases e:i=id
 ·subst e;simp
 ·rw[if_neg (fun x=>e x.symm),if_neg e]
theorem mi(hh:Heap)(id:Nat)(o:Ob):(hh.set id o).get=dM hh.get id (some o):=by
 funext i
 by_cases e:i=id
 ·subst e;rw[Heap.D5,bh]
 ·rw[Heap.IK e,cZ _ _ e]
theorem ua(hh:Heap)(id:Nat):(hh.del id).get=dM hh.get id none:=by
 funext i
 by_cases e:i=id
 ·subst e;rw[Heap.gh,bh]
 ·rw[Heap.g9 e,cZ _ _ e]
theorem zr(hh:Heap)(id:Nat)(o:Ob):Heap.get ((id,o)::hh)=dM hh.get id (some o):=by
 funext i
 simp only[Heap.get,dM]
 by_cases e:i=id
 ·subst e;simp
 ·rw[if_neg (fun x=>e x.symm),if_neg e]
def gI(P:Program)(ρC:Operand→Value)(o:Oper)(Z:Nat→Prop)(ψ:Nat→Value)(h:Hp)(w:World)(B0:Nat)(O N:Nat→Prop)(e:bE):Prop :=
 ∃V w' Z' ψ',((execOp ρC o).run P w=.ok (.value V) w'∨((execOp ρC o).run P w=.ok .skip w'∧V=undef))∧Next Z ψ h w B0 O N Z' ψ' (e.hp h) w'∧av Z' ψ' (e.hp h) w' e.v V
theorem gI.val{ρC:Operand→Value}{o:Oper}{x:AV}(g:Good Z ψ h w B0 O){V:Value}(hr:(execOp ρC o).run P w=.ok (.value V) w)(hx:av Z ψ h w x V):gI P ρC o Z ψ h w B0 O N (.val x) :=
 ⟨V,w,Z,ψ,.inl hr,Next.refl g,hx⟩
theorem NW{ty:TypeId}{k:K}{xs:List k.T}{id n:Nat}{x:k.T}(g:Good Z ψ h w B0 O)(hg:h id=some (.own (.row ty k) xs))(hx:xs[n]? = some x) :
  ∃gg us,Sj (ψ id)=gg∧aD Z w k x us∧∀(j:Nat) u,us[j]? = some u→w.cell? ⟨gg,n*k.sz+j,none⟩=some u:=by
 obtain⟨vs,ho,hv⟩:=g.row id (.row ty k) xs hg
 have hn:n<xs.length:=(List.getElem?_eq_some_iff.1 hx).1
 obtain⟨hl,e⟩:=ho
 rcases e with⟨h0,_⟩|⟨gg,cap,cur,e1,_,e3,_,_,_,e7⟩
 ·omega
 ·refine⟨gg,_,by rw[e1];rfl,hv n x hx,fun j u hu=>?_⟩
  rw[List.getElem?_take]at hu
  split at hu
  ·rw[List.getElem?_drop,←e7,List.getElem?_take]at hu
   split at hu
   ·simp only[World.cell?,e3];simpa using hu
   ·cases hu
  ·cases hu
theorem sZ{hh:Heap}(g:Good Z ψ h w B0 O)(bz:∀id o,hh.get id=some o→h id=some o){t:TypeId}{a:AV}{v:Value}{e:bE}(hv:av Z ψ h w a v)(he:lr P hh t a some=some e) :
  ∃x V,e=.val x∧(Instr.loadAt t v).run P w=.ok V w∧av Z ψ h w x V:=by
 unfold lr at he
 split at he
 ·rename_i id s i off
  simp only[av]at hv
  obtain⟨a,rfl,ha⟩:=hv
  split at he
  ·rename_i ty cs hg
   have zt:=bz _ _ hg
   have FC:=ha (by rw[zt];simp)
   obtain⟨gg,vs,e1,e2,e3,e4⟩:=g.box id ty cs zt
   split at he
   ·rename_i hi
    subst hi
    split at he
    ·rename_i x hx
     cases he
     rw[e1]at FC
     simp only[Sj,Nat.zero_mul,Nat.zero_add]at FC
     subst FC
     obtain⟨V,h1,h2⟩:=jy (a:=⟨gg,off,none⟩) (e3.drop off) (fun j u hu=>by
      rw[cg];simp only[World.cell?,e2];rw[List.getElem?_drop]at hu;simpa using hu) hx
     exact⟨x,V,rfl,h1,h2⟩
    ·cases he
   ·cases he
  ·rename_i ty kk xs hg
   have zt:=bz _ _ hg
   have FC:=ha (by rw[zt];simp)
   split at he
   ·rename_i hs
    subst hs
    obtain⟨x,hx,he⟩:=Option.bind_eq_some_iff.1 he
    split at he
    ·rename_i y hy
     cases he
     obtain⟨gg,us,h1,h2,h3⟩:=NW g zt hx
     rw[h1]at FC;subst FC
     obtain⟨V,h4,h5⟩:=jy (a:=⟨gg,i*kk.sz+off,none⟩) ((fZ (ψ:=ψ) (h:=h) h2).drop off) (fun j u hu=>by
      rw[cg,Nat.add_assoc];exact h3 _ _ (by rw[List.getElem?_drop]at hu;exact hu)) hy
     exact⟨y,V,rfl,h4,h5⟩
    ·cases he
   ·cases he
  ·cases he
 ·rename_i kk x off
  split at he
  ·rename_i y hy
   cases he
   simp only[av]at hv
   obtain⟨a,us,rfl,_,h2,h3⟩:=hv
   obtain⟨V,h4,h5⟩:=jy ((fZ (ψ:=ψ) (h:=h) h2).drop off) (fun j u hu=>h3 j u (by rw[List.getElem?_drop]at hu;exact hu)) hy
   exact⟨y,V,rfl,h4,h5⟩
  ·cases he
 ·cases he
theorem mR{t e:TypeId}(he:wR P t=some e):P.underlying t=some (.slice e):=by
 unfold wR at he
 split at he
 ·cases he;assumption
 ·cases he
theorem mS{t e:TypeId}(ht:P.underlying t=some (.slice e)){i:TypeInfo}(hi:P.info? e=some i)(a:Addr)(n c:Nat)(k:IntKind)(j:Int)(h0:0≤j)(h1:j<n) :
  (Instr.indexAt t (.slice (some a) n c) (.int k j)).run P w=.ok (.pointer (some (a.add (j.toNat*P.cellsOf e)))) w:=by
 simp[Instr.indexAt,asIntOf,run_underlying ht,h0,h1,du hi]
theorem LM{α:Type}{xs:List α}{i:Int}{x:α}(hx:aX xs i=some x):0≤i∧i<xs.length∧xs[i.toNat]? = some x:=by
 unfold aX at hx
 split at hx
 ·rename_i h0
  have:=(List.getElem?_eq_some_iff.1 hx).1
  exact⟨h0,by omega,hx⟩
 ·cases hx
theorem pf{hh:Heap}(g:Good Z ψ h w B0 O)(bz:∀id o,hh.get id=some o→h id=some o){t:TypeId}{x i:AV}{v u:Value}{e:bE}(hv:av Z ψ h w x v)(hu:av Z ψ h w i u)(he:dt P hh t x i some=some e) :
  ∃y V,e=.val y∧(Instr.indexAt t v u).run P w=.ok V w∧av Z ψ h w y V:=by
 unfold dt at he
 split at he
 ·cases he
 ·rename_i et het
  have ht:=mR het
  ·skip
   split at he
   ·rename_i ex Kp xs ik n
    simp only[av]at hv hu
    subst hu
    split at he
    ·rename_i hs
     obtain⟨y,hy,he⟩:=Option.bind_eq_some_iff.1 he
     cases he
     obtain⟨h0,h1,h2⟩:=LM hy
     obtain⟨hk,_⟩:=hv
     simp only[aD]at hk
     obtain⟨v',zu,A,c,rfl,_,_,Ir⟩:=hk
     cases zu
     obtain⟨a,us,rfl,hz,hr,hc⟩:=Ir _ _ h2
     have hi:∃i,P.info? et=some i:=by
      cases hi:P.info? et with
      |some i=>exact⟨i,rfl⟩
      |none=>exfalso;have:=Kp.g8;simp[Program.cellsOf,hi]at hs;omega
     obtain⟨inf,hi⟩:=hi
     refine⟨_,_,rfl,mS ht hi a xs.length c ik n h0 h1,?_⟩
     simp only[av]
     refine⟨_,us,rfl,by rw[ct];exact hz,hr,fun j u hu=>?_⟩
     rw[tT,hs];exact hc j u (by simpa using hu)
    ·cases he
   ·rename_i id ik n
    split at he
    ·rename_i ty Kp xs hg
     have zt:=bz _ _ hg
     split at he
     ·rename_i hs
      cases zq:(decide (0≤n)&&decide (n<(xs.length:Int))) with
      |false=>rw[zq]at he;cases he
      |true =>
       rw[zq]at he
       cases he
       simp only[Bool.and_eq_true,decide_eq_true_eq]at zq
       simp only[av]at hv hu
       subst hu
       have hvv:=hv.2 (by rw[zt];simp)
       obtain⟨vs,⟨_,e⟩,_⟩:=g.row id (.row ty Kp) xs zt
       rcases e with⟨h0,_⟩|⟨gg,cap,cur,e1,_,e3,_⟩
       ·omega
       ·have hi:∃i,P.info? et=some i:=by
         cases hi:P.info? et with
         |some i=>exact⟨i,rfl⟩
         |none=>exfalso;have:=Kp.g8;simp[Program.cellsOf,hi]at hs;omega
        obtain⟨inf,hi⟩:=hi
        rw[hvv,e1]
        refine⟨_,_,rfl,mS ht hi _ xs.length cap ik n zq.1 zq.2,?_⟩
        simp only[av]
        refine⟨_,rfl,fun _=>?_⟩
        rw[e1,hs,cg];simp[Sj]
     ·cases he
    ·cases he
   ·cases he
theorem si{t:TypeId}(h:P.cellsOf t≠0):∃i,P.info? t=some i:=by
 cases hi:P.info? t with
 |some i=>exact⟨i,rfl⟩
 |none=>exact absurd (by simp[Program.cellsOf,hi]) h
theorem sj{t:TypeId}{f n:Nat}{ft:TypeId}(hf:gF P t f=some (n,ft))(hc:P.cellsOf ft≠0)(a:Addr) :
  (Instr.fieldAt t (.pointer (some a)) f).run P w=.ok (.pointer (some (a.add n))) w:=by
 unfold gF at hf
 split at hf
 ·rename_i fs ht
  obtain⟨fd,hfd,he⟩:=Option.map_eq_some_iff.1 hf
  cases he
  obtain⟨i,hi⟩:=si hc
  have hs:=du (P:=P) (w:=w) hi
  simp only[Instr.fieldAt,Sem.run_bind,run_underlying ht,Result.andThen_ok,hfd,Instr.sureAddr,Sem.run_pure,fieldPlace,hs]
  rw[if_neg hc]
  rfl
 ·cases hf
theorem so{t:TypeId}{f n:Nat}{ft:TypeId}(hf:gF P t f=some (n,ft))(hc:P.cellsOf ft≠0){id s i off:Nat}{v:Value}(hv:av Z ψ h w (.ref id s i off) v) :
  ∃V,(Instr.fieldAt t v f).run P w=.ok V w∧av Z ψ h w (.ref id s i (off+n)) V:=by
 simp only[av]at hv ⊢
 obtain⟨a,rfl,ha⟩:=hv
 refine⟨_,sj hf hc a,_,rfl,fun bL=>?_⟩
 rw[ha bL,cg,Nat.add_assoc]
theorem ub{t:TypeId}{f n:Nat}{ft:TypeId}(hf:gF P t f=some (n,ft))(hc:P.cellsOf ft≠0){k:K}{x:k.T}{off:Nat}{v:Value}(hv:av Z ψ h w (.fp k x off) v) :
  ∃V,(Instr.fieldAt t v f).run P w=.ok V w∧av Z ψ h w (.fp k x (off+n)) V:=by
 simp only[av]at hv ⊢
 obtain⟨a,us,rfl,hz,hr,CL⟩:=hv
 refine⟨_,sj hf hc a,_,us,rfl,by rw[ct];exact hz,hr,fun j u hu=>?_⟩
 rw[tT]
 exact CL (n+j) u (by rw[←Nat.add_assoc];exact hu)
theorem FL{t ft:TypeId}{f n:Nat}(hf:gF P t f=some (n,ft)){cs:List AV}{x:AV}{v:Value}(hv:av Z ψ h w (.agg cs) v)(hx:dQ P ft (cs.drop n)=some x) :
  ∃V,(Instr.field t v f).run P w=.ok V w∧av Z ψ h w x V:=by
 simp only[av]at hv
 obtain⟨vs,rfl,hl⟩:=hv
 have hd:=hl.drop n
 have hlen:=hd.length
 unfold gF at hf
 split at hf
 ·rename_i fs ht
  obtain⟨fd,hfd,he⟩:=Option.map_eq_some_iff.1 hf
  cases he
  unfold dQ at hx
  split at hx
  ·rename_i hb
   split at hx
   ·rename_i hle
    cases hx
    obtain⟨i,hi⟩:=wX hb
    refine⟨.agg (vs.extract fd.offset (fd.offset+P.cellsOf fd.type)),?_,?_⟩
    ·simp[Instr.field,run_underlying ht,hfd,asAgg,part,fO hb,du hi]
    ·simp only[av]
     refine⟨_,rfl,?_⟩
     rw[Array.toList_extract,List.extract_eq_take_drop,Nat.add_sub_cancel_left]
     exact hd.take _
   ·cases hx
  ·rename_i hb
   split at hx
   ·rename_i c r hcr
    cases hx
    rw[hcr]at hd
    simp only[ak]at hd
    obtain⟨u,us,hu,h1,_⟩:=hd
    refine⟨u,?_,h1⟩
    have hg:vs[fd.offset]? = some u:=by
     have:(vs.toList.drop fd.offset)[0]? = some u:=by rw[hu];rfl
     rw[List.getElem?_drop]at this;simpa using this
    simp[Instr.field,run_underlying ht,hfd,asAgg,part,fO hb,hg]
   ·cases hx
  ·cases hx
 ·cases hf
theorem LN{hh:Heap}(g:Good Z ψ h w B0 O)(bz:∀id o,hh.get id=some o→h id=some o){x:AV}{v:Value}{e:bE}(hv:av Z ψ h w x v)(he:CF hh x some=some e) :
  ∃n:Nat,e=.val (.int .i64 (n:Int))∧((∃s,x=.str s∧v=.string s∧n=s.size)∨∃A c,v=.slice A n c):=by
 unfold CF at he
 split at he
 ·rename_i s hs
  cases he
  have hx:x=.str s:=by
   cases x with
   |bF id=>simp only[cE]at hs;split at hs<;>cases hs
   |str s'=>simp only[cE]at hs;exact hs
   |_=>simp only[cE]at hs<;>cases hs
  subst hx
  simp only[av]at hv
  exact⟨_,rfl,.inl ⟨s,rfl,hv,rfl⟩⟩
 ·rename_i ex k xs hs
  cases he
  have NX:=CJ (Z':=fun b=>Z b∨Own ψ h b) (g.sub bz) (fun b hb=>.inl hb) (fun id b _ bq hb=>.inr (by
   obtain⟨o,ho⟩:=Option.ne_none_iff_exists'.1 bq
   exact⟨id,by rw[bz id o ho];simp,hb⟩)) (hv.pI bz)
  rw[hs]at NX
  simp only[av,aD]at NX
  obtain⟨⟨v',zu,A,c,rfl,_⟩,_⟩:=NX
  cases zu
  exact⟨_,rfl,.inr ⟨A,c,rfl⟩⟩
 ·rename_i hs
  cases he
  have hx:x=.fJ:=by
   cases x with
   |bF id=>simp only[cE]at hs;split at hs<;>cases hs
   |fJ=>rfl
   |_=>simp only[cE]at hs<;>cases hs
  subst hx
  simp only[av]at hv
  exact⟨0,rfl,.inr ⟨_,_,hv⟩⟩
 ·cases he
def dU(Z:Nat→Prop)(ψ:Nat→Value)(h:Hp)(w:World):Option AV→Option Value→Prop
 |none,none=>True
 |some a,some v=>av Z ψ h w a v
 |_,_=>False
theorem cd(k:IntKind)(i:Int)(y:Nat)(code:BoundsCode)(h0:0≤i)(h1:i≤y):(Instr.sliceBound (.int k i) y code).run P w=.ok i.toNat w:=by
 simp[Instr.sliceBound,asIntOf,h0,h1]
theorem s5{b:Bool}{n c:Nat}(hc:n≤c){lo hi mx:Option AV}{Kt sW mx':Option Value}{l u:Int}(h1:dU Z ψ h w lo Kt)(h2:dU Z ψ h w hi sW)(h3:dU Z ψ h w mx mx')
  (hb:ng n lo hi=some (l,u)) (ho:aK n l u=true) (hm:mx=none∨(mx=some (.int .i64 u)∧hi≠none)) :
  (Instr.sliceBounds b n c Kt sW mx').run P w=.ok (l.toNat,u.toNat,if mx=none then c else u.toNat) w:=by
 simp only[aK,Bool.and_eq_true,decide_eq_true_eq]at ho
 obtain⟨h4,h5,h6⟩:=ho
 have huc:u≤(c:Int):=by omega
 unfold ng at hb
 rcases hm with rfl|⟨rfl,bq⟩
 ·cases mx' with
  |some _=>exact h3.elim
  |none =>
   split at hb
   all_goals first|(cases hb;done)|skip
   ·cases hb
    cases Kt with
    |some _=>exact h1.elim
    |none =>
     cases sW with
     |some _=>exact h2.elim
     |none=>simp[Instr.sliceBounds]
   ·cases hb
    cases Kt with
    |none=>exact h1.elim
    |some v =>
     simp only[dU,av]at h1
     subst h1
     cases sW with
     |some _=>exact h2.elim
     |none=>simp[Instr.sliceBounds,cd .i64 l n _ h4 h5]
   ·cases hb
    cases Kt with
    |some _=>exact h1.elim
    |none =>
     cases sW with
     |none=>exact h2.elim
     |some v =>
      simp only[dU,av]at h2
      subst h2
      cases b<;>simp[Instr.sliceBounds,cd .i64 u c _ (by omega) huc]
   ·cases hb
    cases Kt with
    |none=>exact h1.elim
    |some v =>
     simp only[dU,av]at h1
     subst h1
     cases sW with
     |none=>exact h2.elim
     |some v =>
      simp only[dU,av]at h2
      subst h2
      have hx:l≤((u.toNat:Nat):Int):=by omega
      cases b<;>simp[Instr.sliceBounds,cd .i64 u c _ (by omega) huc,cd .i64 l u.toNat _ h4 hx]
 ·cases mx' with
  |none=>exact h3.elim
  |some m =>
   simp only[dU,av]at h3
   subst h3
   have huu:u≤((u.toNat:Nat):Int):=by omega
   have hx:l≤((u.toNat:Nat):Int):=by omega
   split at hb
   all_goals first|(cases hb;done)|skip
   ·exact absurd rfl bq
   ·exact absurd rfl bq
   ·cases hb
    cases Kt with
    |some _=>exact h1.elim
    |none =>
     cases sW with
     |none=>exact h2.elim
     |some v =>
      simp only[dU,av]at h2
      subst h2
      cases b<;>simp[Instr.sliceBounds,cd .i64 u c _ (by omega) huc,cd .i64 u u.toNat _ (by omega) huu]
   ·cases hb
    cases Kt with
    |none=>exact h1.elim
    |some v =>
     simp only[dU,av]at h1
     subst h1
     cases sW with
     |none=>exact h2.elim
     |some v =>
      simp only[dU,av]at h2
      subst h2
      cases b<;>simp[Instr.sliceBounds,cd .i64 u c _ (by omega) huc,cd .i64 u u.toNat _ (by omega) huu,cd .i64 l u.toNat _ h4 hx]
theorem zw{t e:TypeId}(ht:P.underlying t=some (.slice e)){kk:K}(iQ:P.cellsOf e=kk.sz){xs:List kk.T}{v:Value}(hr:aD Z w (.sl kk) xs [v]){lo hi mx:Option AV}{Kt sW mx':Option Value}{l u:Int}
  (h1:dU Z' ψ h w lo Kt) (h2:dU Z' ψ h w hi sW) (h3:dU Z' ψ h w mx mx') (hb:ng xs.length lo hi=some (l,u)) (ho:aK xs.length l u=true) (hm:mx=none∨(mx=some (.int .i64 u)∧hi≠none)) :
  ∃V,(Instr.sliceAt t v Kt sW mx').run P w=.ok V w∧aD Z w (.sl kk) (cut xs l u) [V]∧(mx≠none→∃A c,V=.slice A c c):=by
 simp only[aD]at hr
 obtain⟨v',zu,A,c,rfl,hl,hn,Ir⟩:=hr
 cases zu
 have dk:=s5 (P:=P) (w:=w) (b:=true) hl h1 h2 h3 hb ho hm
 simp only[aK,Bool.and_eq_true,decide_eq_true_eq]at ho
 obtain⟨h4,h5,h6⟩:=ho
 obtain⟨i,hi⟩:=si (P:=P) (t:=e) (by have:=kk.g8;omega)
 generalize Nv:(if mx=none then c else u.toNat)=m at dk
 have hmu:u.toNat≤m:=by
  rcases hm with rfl|⟨rfl,_⟩
  ·simp at Nv;omega
  ·simp at Nv;omega
 have hmc:m≤c:=by
  rcases hm with rfl|⟨rfl,_⟩
  ·simp at Nv;omega
  ·simp at Nv;omega
 have tI:(cut xs l u).length=u.toNat-l.toNat:=by
  unfold cut;rw[List.length_drop,List.length_take];omega
 refine⟨.slice (if m=l.toNat then A else A.map (·.add (l.toNat*P.cellsOf e))) (u.toNat-l.toNat) (m-l.toNat),?_,?_,?_⟩
 ·simp[Instr.sliceAt,Instr.slice,run_underlying ht,dk,du hi]
 ·simp only[aD]
  refine⟨_,rfl,_,_,by rw[tI],by rw[tI];omega,fun hA=>?_,fun j x hx=>?_⟩
  ·split at hA
   ·have:=hn hA;omega
   ·cases A with
    |none=>have:=hn rfl;omega
    |some a=>cases hA
  ·have hj:j<u.toNat-l.toNat:=by rw[←tI];exact(List.getElem?_eq_some_iff.1 hx).1
   have Yd:xs[l.toNat+j]? = some x:=by
    unfold cut at hx
    rw[List.getElem?_drop,List.getElem?_take,if_pos (by omega)]at hx
    exact hx
   obtain⟨a,us,rfl,hz,hr,hc⟩:=Ir _ _ Yd
   refine⟨a.add (l.toNat*P.cellsOf e),us,by rw[if_neg (by omega)];rfl,by rw[ct];exact hz,hr,fun q y hy=>?_⟩
   rw[tT,iQ]
   have:=hc q y hy
   rw[Nat.add_mul]at this
   rw[←Nat.add_assoc];exact this
 ·intro bq
  rcases hm with rfl|⟨rfl,_⟩
  ·exact absurd rfl bq
  ·simp at Nv
   exact⟨_,_,by rw[←Nv]⟩
theorem FM{hh:Heap}(g:Good Z ψ h w B0 O)(_:∀id o,hh.get id=some o→h id=some o){t e:TypeId}(ht:P.underlying t=some (.slice e)){x:AV}{v:Value}{lo hi mx:Option AV}{Kt sW mx':Option Value}{ef:bE}
  (hv:av Z ψ h w x v) (h1:dU Z ψ h w lo Kt) (h2:dU Z ψ h w hi sW) (h3:dU Z ψ h w mx mx') (mT:∀y hw,ef=.wr y hw→hh.get=h) (he:oc hh (P.cellsOf e) x lo hi mx some=some ef) (VH:(P.info? e).isSome=true) :
  ∃V Z',(Instr.sliceAt t v Kt sW mx').run P w=.ok V w∧Next Z ψ h w B0 O N Z' ψ (ef.hp h) w∧av Z' ψ (ef.hp h) w ef.v V:=by
 unfold oc at he
 split at he
 ·
  simp only[av]at hv
  subst hv
  split at he
  ·rename_i l u hb
   cases ho:aK 0 l u with
   |false=>rw[ho]at he;cases he
   |true =>
    rw[ho]at he
    cases he
    have dk:=s5 (P:=P) (w:=w) (b:=true) (Nat.le_refl 0) h1 h2 h3 hb ho (.inl rfl)
    simp only[aK,Bool.and_eq_true,decide_eq_true_eq]at ho
    have hl0:l.toNat=0:=by omega
    have hu0:u.toNat=0:=by omega
    obtain⟨i,hi⟩:=Option.isSome_iff_exists.1 VH
    refine⟨.slice none 0 0,Z,?_,Next.refl g,by simp only[bE.v,av]⟩
    rw[hl0,hu0]at dk
    simp[Instr.sliceAt,Instr.slice,run_underlying ht,dk,du hi]
  ·cases he
 ·
  rename_i ex kk xs
  simp only[av]at hv
  split at he
  ·rename_i iQ
   split at he
   ·rename_i l u hb
    split at he
    ·cases ho:aK xs.length l u with
     |false=>rw[ho]at he;cases he
     |true =>
      rw[ho]at he
      cases he
      obtain⟨V,h4,h5,_⟩:=zw (P:=P) ht iQ hv.1 h1 h2 h3 hb ho (.inl rfl)
      exact⟨V,Z,h4,Next.refl g,by simp only[bE.v,bE.hp,av];exact⟨h5,by simp⟩⟩
    ·rename_i m
     cases ho:(aK xs.length l u&&(hi.isSome&&decide (m=u))) with
     |false=>rw[ho]at he;cases he
     |true =>
      rw[ho]at he
      cases he
      simp only[Bool.and_eq_true,decide_eq_true_eq]at ho
      obtain⟨ho,hhi,rfl⟩:=ho
      obtain⟨V,h4,h5,h6⟩:=zw (P:=P) ht iQ hv.1 h1 h2 h3 hb ho (.inr ⟨rfl,by intro e;rw[e]at hhi;cases hhi⟩)
      exact⟨V,Z,h4,Next.refl g,by simp only[bE.v,bE.hp,av];exact⟨h5,fun _=>h6 (by simp)⟩⟩
    ·cases he
   ·cases he
  ·cases he
 ·cases he
end Go.Vs
set_option linter.unusedSimpArgs false
set_option linter.unusedVariables false
namespace Go.Vs
variable {P:Program} {Z Z':Nat→Prop} {ψ ψ':Nat→Value} {h h':Hp} {w w':World} {B0:Nat} {O:Nat→Prop} {N:Nat→Prop}
def ly(P:Program)(t:TypeId)(k:K):Prop :=
 ∀(Z:Nat→Prop) (w:World) (x y:k.T) (xs ys:Array Value),aD Z w k x xs.toList→aD Z w k y ys.toList →
  (Op.equal t (.agg xs) (.agg ys)).run P w=.ok (qO k x y) w∧(∀(op:BinOp) (a b:Operand),(eqGuard op t a b (.agg xs) (.agg ys)).run P w=.ok () w)∧∀e:Bool,(Instr.checkKey e 10000 t (.agg xs)).run P w=.ok () w
theorem vI(op:BinOp)(t:TypeId)(a b:Operand)(k k':IntKind)(x y:Int):(eqGuard op t a b (.int k x) (.int k' y)).run P w=.ok () w:=by cases op<;>simp[eqGuard]
theorem LO(op:BinOp)(t:TypeId)(a b:Operand)(x y:ByteArray):(eqGuard op t a b (.string x) (.string y)).run P w=.ok () w:=by cases op<;>simp[eqGuard]
theorem IT(op:BinOp)(t:TypeId)(a b:Operand)(x y:Bool):(eqGuard op t a b (.bool x) (.bool y)).run P w=.ok () w:=by cases op<;>simp[eqGuard]
theorem CO(op:BinOp)(t:TypeId)(a b:Operand)(x y:Option Addr):(eqGuard op t a b (.pointer x) (.pointer y)).run P w=.ok () w:=by cases op<;>simp[eqGuard]
def bQ:AV→Value
 |.bool b=>.bool b
 |.int k n=>.int k n
 |.str s=>.string s
 |_=>undef
theorem jB(k:IntKind)(n:Int):av Z ψ h w (.int k n) (bQ (.int k n)):=by simp only[av,bQ]
theorem dV(b:Bool):av Z ψ h w (.bool b) (bQ (.bool b)):=by simp only[av,bQ]
theorem jT{t e:TypeId}(ht:P.underlying t=some (.pointer e))(a:Option Addr):(Op.equal t (.pointer a) (.pointer none)).run P w=.ok a.isNone w:=by
 have key:∀d,(Op.equalIn (d+1) t (.pointer a) (.pointer none)).run P w=.ok a.isNone w:=fun d=>by
  cases a<;>simp[Op.equalIn,run_underlying ht]
 exact key 9999
theorem NY{op:BinOp}{t:TypeId}{k:IntKind}{a b:Int}{v:AV}(hv:Vv op k a b=some v):∃V,(binOp op t (.int k a) (.int k b)).run P w=.ok V w∧av Z ψ h w v V:=by
 cases op<;>simp only[Vv]at hv<;>cases hv<;>first
  |(refine⟨bQ (.int _ _),?_,jB _ _⟩;simp[binOp,Op.intArith,Op.intCmp,bQ];done)
  |(refine⟨bQ (.bool _),?_,dV _⟩;simp[binOp,Op.intArith,Op.intCmp,bQ];done)
  |(refine⟨bQ (.int _ _),?_,jB _ _⟩;simp only[binOp,bQ,ne_eq,not_true_eq_false,if_false];rfl)
theorem LP{Eqs:TypeId→Option K}(B5:∀t k,Eqs t=some k→ly P t k){op:BinOp}{t:TypeId}{xo yo:Operand}{x y:AV}{u v:Value}{e:bE}(hu:av Z ψ h w x u)(hv:av Z ψ h w y v)(he:wS P Eqs op t x y some=some e) :
  ∃r V,e=.val r∧((do eqGuard op t xo yo u v;binOp op t u v:Sem Value)).run P w=.ok V w∧av Z ψ h w r V:=by
 unfold wS at he
 split at he
 ·rename_i k a k' b
  simp only[av]at hu hv
  subst hu;subst hv
  split at he
  ·cases hb:decide (b<0) with
   |true=>rw[hb]at he;cases he
   |false =>
    rw[hb]at he;cases he
    have VI:¬b<0:=by simpa using hb
    exact⟨_,bQ (.int _ _),rfl,by simp[vI,binOp,Op.shift,VI,bQ,X3],jB _ _⟩
  ·cases hb:decide (b<0) with
   |true=>rw[hb]at he;cases he
   |false =>
    rw[hb]at he;cases he
    have VI:¬b<0:=by simpa using hb
    exact⟨_,bQ (.int _ _),rfl,by simp[vI,binOp,Op.shift,VI,bQ,kO],jB _ _⟩
  split at he
  ·rename_i hk
   subst hk
   simp only[Sem.run_bind,vI,Result.andThen_ok]
   split at he
   ·cases hb:(b==0) with
    |true=>rw[hb]at he;cases he
    |false =>
     rw[hb]at he;cases he
     have VI:b≠0:=by simpa using hb
     exact⟨_,bQ (.int _ _),rfl,by simp[binOp,Op.intDiv,VI,bQ],jB _ _⟩
   ·cases hb:(b==0) with
    |true=>rw[hb]at he;cases he
    |false =>
     rw[hb]at he;cases he
     have VI:b≠0:=by simpa using hb
     exact⟨_,bQ (.int _ _),rfl,by simp[binOp,Op.intDiv,VI,bQ],jB _ _⟩
   ·split at he
    ·rename_i v hv
     cases he
     obtain⟨V,h1,h2⟩:=NY (P:=P) (t:=t) (w:=w) (Z:=Z) (ψ:=ψ) (h:=h) hv
     exact⟨_,V,rfl,h1,h2⟩
    ·cases he
  ·cases he
 ·rename_i a b
  simp only[av]at hu hv
  subst hu;subst hv
  simp only[Sem.run_bind,LO,Result.andThen_ok]
  cases op<;>simp only[X4]at he<;>first|(cases he;done)|(cases he;exact⟨_,bQ (.bool _),rfl,by simp[binOp,Op.stringOp,←beq_toListBytes,bQ],dV _⟩)
 ·rename_i a b
  simp only[av]at hu hv
  subst hu;subst hv
  simp only[Sem.run_bind,IT,Result.andThen_ok]
  have key:(P.underlying t).map D1=some true→P.underlying t=some .bool:=fun hm=>by
   obtain⟨d,hd,he⟩:=Option.map_eq_some_iff.1 hm
   cases d<;>simp[D1]at he
   exact hd
  split at he
  ·rename_i hm
   cases he
   exact⟨_,bQ (.bool _),rfl,by simp[binOp,Op.equal,Op.maxDepth,run_equalIn_bool' (P:=P) w 9999 t a b (key hm),bQ],dV _⟩
  ·rename_i hm
   cases he
   exact⟨_,bQ (.bool _),rfl,by simp[binOp,Op.equal,Op.maxDepth,run_equalIn_bool' (P:=P) w 9999 t a b (key hm),bQ],dV _⟩
  ·cases he
 ·rename_i a b
  split at he
  ·cases he
  ·rename_i k hk
   simp only[av]at hu hv
   obtain⟨xs,rfl,hx⟩:=hu
   obtain⟨ys,rfl,hy⟩:=hv
   split at he
   ·rename_i x y hdx hdy
    cases he
    obtain⟨h1,h2,_⟩:=B5 t k hk Z w x y xs ys (dC hdx hx) (dC hdy hy)
    exact⟨_,bQ (.bool _),rfl,by simp only[Sem.run_bind,h2,Result.andThen_ok,binOp,h1,Sem.run_pure,bQ],dV _⟩
   ·rename_i x y hdx hdy
    cases he
    obtain⟨h1,h2,_⟩:=B5 t k hk Z w x y xs ys (dC hdx hx) (dC hdy hy)
    exact⟨_,bQ (.bool _),rfl,by simp only[Sem.run_bind,h2,Result.andThen_ok,binOp,h1,Sem.run_pure,bQ],dV _⟩
   ·cases he
 ·simp only[av]at hu hv
  subst hu;subst hv
  have key:(P.underlying t).map vC=some true→∃e,P.underlying t=some (.pointer e):=fun hm=>by
   obtain⟨d,hd,he⟩:=Option.map_eq_some_iff.1 hm
   cases d<;>simp[vC]at he
   exact⟨_,hd⟩
  simp only[Sem.run_bind,CO,Result.andThen_ok]
  split at he
  ·rename_i hm
   cases he
   obtain⟨et,ht⟩:=key hm
   exact⟨_,bQ (.bool _),rfl,by simp only[binOp,Sem.run_bind,jT ht,Result.andThen_ok,Sem.run_pure,bQ,Option.isNone_none,Option.isNone_some,Bool.not_true,Bool.not_false],dV _⟩
  ·rename_i hm
   cases he
   obtain⟨et,ht⟩:=key hm
   exact⟨_,bQ (.bool _),rfl,by simp only[binOp,Sem.run_bind,jT ht,Result.andThen_ok,Sem.run_pure,bQ,Option.isNone_none,Option.isNone_some,Bool.not_true,Bool.not_false],dV _⟩
  ·cases he
 ·simp only[av]at hu hv
  obtain⟨a,rfl,_⟩:=hu
  subst hv
  have key:(P.underlying t).map vC=some true→∃e,P.underlying t=some (.pointer e):=fun hm=>by
   obtain⟨d,hd,he⟩:=Option.map_eq_some_iff.1 hm
   cases d<;>simp[vC]at he
   exact⟨_,hd⟩
  simp only[Sem.run_bind,CO,Result.andThen_ok]
  split at he
  ·rename_i hm
   cases he
   obtain⟨et,ht⟩:=key hm
   exact⟨_,bQ (.bool _),rfl,by simp only[binOp,Sem.run_bind,jT ht,Result.andThen_ok,Sem.run_pure,bQ,Option.isNone_none,Option.isNone_some,Bool.not_true,Bool.not_false],dV _⟩
  ·rename_i hm
   cases he
   obtain⟨et,ht⟩:=key hm
   exact⟨_,bQ (.bool _),rfl,by simp only[binOp,Sem.run_bind,jT ht,Result.andThen_ok,Sem.run_pure,bQ,Option.isNone_none,Option.isNone_some,Bool.not_true,Bool.not_false],dV _⟩
  ·cases he
 ·cases he
theorem LQ{a:AV}{v:Value}(hp:vz a=true)(hr:av Z ψ h w a v):v.oneCell'=true:=by
 cases a with
 |no=>cases hp
 |agg cs=>cases hp
 |mI cs=>cases hp
 |bool b=>simp only[av]at hr;subst hr;rfl
 |int k n=>simp only[av]at hr;subst hr;rfl
 |str s=>simp only[av]at hr;subst hr;rfl
 |kN=>simp only[av]at hr;subst hr;rfl
 |fJ=>simp only[av]at hr;subst hr;rfl
 |ref id s i off=>simp only[av]at hr;obtain⟨a,rfl,_⟩:=hr;rfl
 |fp k x off=>simp only[av]at hr;obtain⟨a,us,rfl,_⟩:=hr;rfl
 |sl ex k xs=>simp only[av,aD]at hr;obtain⟨⟨v',hv,A,c,rfl,_⟩,_⟩:=hr;cases hv;rfl
 |bF id=>simp only[av]at hr;exact hr.1.2
 |mp kk vk es=>simp only[av,aD]at hr;obtain⟨A,hv,_⟩:=hr;cases hv;rfl
 |fn f cap=>simp only[av]at hr;obtain⟨vs,rfl,_⟩:=hr;rfl
theorem s6:∀{cs:List AV} {vs:List Value},cs.all vz=true→ak Z ψ h w cs vs→∀u∈vs,u.oneCell'=true
 |[],_,_,hr,u,hu=>by simp only[ak]at hr;subst hr;simp at hu
 |c::r,_,hp,hr,u,hu=>by
  simp only[List.all_cons,Bool.and_eq_true]at hp
  simp only[ak]at hr
  obtain⟨v,us,rfl,h1,h2⟩:=hr
  rcases List.mem_cons.1 hu with rfl|hu
  ·exact LQ hp.1 h1
  ·exact s6 hp.2 h2 u hu
theorem FN{a:AV}(hp:a.cells.all vz=true):a≠.no:=by rintro rfl;simp[AV.cells,vz]at hp
theorem qZ{id:Nat}:∀{cs:List AV},IE id cs=true→AV.bF id∉cs
 |[],_=>by simp
 |c::r,hn=>by
  intro hm
  cases c with
  |bF i =>
   simp only[IE,Bool.and_eq_true,Bool.not_eq_true',beq_eq_false_iff_ne]at hn
   rcases List.mem_cons.1 hm with e|hm
   ·cases e;exact hn.1 rfl
   ·exact qZ hn.2 hm
  |_ =>
   simp only[IE]at hn
   rcases List.mem_cons.1 hm with e|hm
   ·cases e
   ·exact qZ hn hm
theorem w5{hh:Heap}(g:Good Z ψ hh.get w B0 O){t:TypeId}{a x:AV}{u v:Value}{e:bE}(hu:av Z ψ hh.get w a u)(hv:av Z ψ hh.get w x v)(he:qP P hh t a x some=some e) :
  ∃hw w' Z',e=.wr .no hw∧(Instr.storeAt t u v).run P w=.ok () w'∧Next Z ψ hh.get w B0 O N Z' ψ hw.get w':=by
 unfold qP at he
 split at he
 ·rename_i hc
  obtain⟨hlen,Sr,qh⟩:=hc
  obtain⟨inf,Sr⟩:=Option.isSome_iff_exists.1 Sr
  have Nt:=hv.cells (FN qh)
  have D8:=s6 qh Nt
  have tI:=Nt.length
  simp only[Array.length_toList]at tI
  split at he
  ·rename_i id s i off
   simp only[av]at hu
   obtain⟨a,rfl,ha⟩:=hu
   split at he
   ·rename_i ty cs hg
    split at he
    ·rename_i hc
     obtain⟨rfl,Ye⟩:=hc
     cases he
     have FC:=ha (by rw[hg];simp)
     obtain⟨w',h1,h2⟩:=zj (P:=P) (N:=N) g hg Sr Nt D8 (by omega) Ye (a:=a) (by rw[FC];simp)
     exact⟨_,w',Z,rfl,h1,by rw[mi];exact h2⟩
    ·cases he
   ·rename_i ty kk xs hg
    obtain⟨y,hx,RQ⟩:=Option.bind_eq_some_iff.1 he
    clear he
    split at RQ
    ·rename_i hc
     obtain⟨rfl,Ye,qg⟩:=hc
     split at RQ
     ·rename_i z hz
      cases RQ
      have FC:=ha (by rw[hg];simp)
      have bL:=qZ qg
      have gd:=hM g x.cells
      have hgd:(cz hh x.cells).get id=some (.own (.row ty kk) xs):=by rw[oo _ _ _ bL];exact hg
      have VJ:=np (Z':=pQ Z ψ hh.get x.cells) g (fun b hb=>.inl hb) (fun i b hm bq hb=>.inr ⟨i,hm,bq,hb⟩) Nt
      obtain⟨w',h1,h2⟩:=zm (P:=P) (N:=N) gd hgd Sr hx (y:=z) (off:=off) (V:=v) (by omega) (by omega) (a:=a) FC (fun us Ss=>by
       have h3:=(fZ (ψ:=ψ) (h:=hh.get) Ss)
       have h4:=dC hz (VJ.dO off h3)
       rwa [qW _ _ _ (by rw[Array.length_toList,Ss.len];omega),Array.length_toList]at h4) D8
      refine⟨_,w',pQ Z ψ hh.get x.cells,rfl,h1,?_⟩
      rw[show((stored hh x.cells).2.set id (.own (.row ty kk) (xs.set i z))).get=dM (cz hh x.cells).get id (some (.own (.row ty kk) (xs.set i z))) from mi _ _ _]
      exact h2.drop (fun b hb=>.inl hb) (fun b hb=>hb.imp (fun h=>h) (fun⟨i,_,h5,h6⟩=>⟨i,h5,h6⟩)) (dR _ _)
     ·cases RQ
    ·cases RQ
   ·cases he
  ·cases he
 ·cases he
end Go.Vs
namespace Go.Vs
variable {P:Program} {Z Z':Nat→Prop} {ψ ψ':Nat→Value} {h h':Hp} {w w':World} {B0:Nat} {O:Nat→Prop} {N:Nat→Prop}
theorem NZ{a:AV}{v:Value}(ha:a.isAgg=true)(hr:av Z ψ h w a v):∃vs,v=.agg vs:=by
 cases a<;>simp[AV.isAgg]at ha
 simp only[av]at hr
 obtain⟨vs,rfl,_⟩:=hr
 exact⟨vs,rfl⟩
theorem CP{a:AV}{v:Value}(ha:a.isAgg=false)(qg:a≠.no)(hr:av Z ψ h w a v):v.cells=#[v]:=by
 cases a with
 |no=>exact absurd rfl qg
 |agg cs=>simp[AV.isAgg]at ha
 |bool b=>simp only[av]at hr;subst hr;rfl
 |int k n=>simp only[av]at hr;subst hr;rfl
 |str s=>simp only[av]at hr;subst hr;rfl
 |kN=>simp only[av]at hr;subst hr;rfl
 |fJ=>simp only[av]at hr;subst hr;rfl
 |ref id s i off=>simp only[av]at hr;obtain⟨a,rfl,_⟩:=hr;rfl
 |fp k x off=>simp only[av]at hr;obtain⟨a,us,rfl,_⟩:=hr;rfl
 |sl ex k xs=>simp only[av,aD]at hr;obtain⟨⟨v',hv,A,c,rfl,_⟩,_⟩:=hr;cases hv;rfl
 |bF id=>simp only[av]at hr;exact hr.1.1
 |mp kk vk es=>simp only[av,aD]at hr;obtain⟨A,hv,_⟩:=hr;cases hv;rfl
 |fn f cap=>simp only[av]at hr;obtain⟨vs,rfl,_⟩:=hr;rfl
 |mI cs=>simp only[av]at hr;obtain⟨vs,rfl,_⟩:=hr;rfl
theorem s8{hh:Heap}{k:K}{a:AV}{x:k.T}{v:Value}(g:Good Z ψ hh.get w B0 O)(hz:∀b,Z b→Z' b)(hb:∀id b,AV.bF id∈a.cells→hh.get id≠none→ob (ψ id)=some b→Z' b)
  (hx:fF k hh a=some x) (hr:av Z ψ hh.get w a v):aD Z' w k x v.cells.toList∧(k.isAgg=true→∃vs,v=.agg vs)∧(k.isAgg=false→v.cells=#[v]):=by
 unfold fF at hx
 split at hx
 ·rename_i Um
  have qg:=CN hx
  have hv:=np g hz hb (hr.cells qg)
  exact⟨dC hx hv,fun h=>NZ (by rw[←Um];exact h) hr,fun h=>CP (by rw[←Um];exact h) qg hr⟩
 ·cases hx
theorem q6{hh:Heap}{k:K}{a:AV}{x:k.T}{v:Value}(g:Good Z ψ hh.get w B0 O)(hz:∀b,Z b→Z' b)(hb:∀id b,AV.bF id∈a.cells→hh.get id≠none→ob (ψ id)=some b→Z' b)
  (hx:fF k hh a=some x) (hr:av Z ψ hh.get w a v):av Z' ψ' h' w (b8 k x) v:=by
 obtain⟨h1,h2,h3⟩:=s8 g hz hb hx hr
 exact lx h1 h2 h3
theorem aD.flat:∀{k:K} {x:k.T} {vs:List Value},k.flat=true→aD Z w k x vs→aD Z' w' k x vs
 |.int _,_,_,_,h=>h
 |.bool,_,_,_,h=>h
 |.str,_,_,_,h=>h
 |.sl k,_,_,hf,_=>by simp[K.flat]at hf
 |.pair a b,x,_,hf,h=>by
  simp only[K.flat,Bool.and_eq_true]at hf
  simp only[aD]at h ⊢
  obtain⟨us,ws,rfl,h1,h2⟩:=h
  exact⟨us,ws,rfl,aD.flat hf.1 h1,aD.flat hf.2 h2⟩
 |.one k,x,_,hf,h=>by
  simp only[aD]at h ⊢
  exact aD.flat (k:=k) (by simpa only[K.flat] using hf) h
theorem yj:∀(k:K) (x y:k.T),k.flat=true→(qO k x y=true↔x=y)
 |.int _,x,y,_=>by simp only[qO];exact beq_iff_eq (α:=Int)
 |.bool,x,y,_=>by simp only[qO];exact beq_iff_eq (α:=Bool)
 |.str,x,y,_=>by simp only[qO];exact MapKept.bytes_beq x y
 |.sl _,_,_,hf=>by simp[K.flat]at hf
 |.mp _ _,_,_,hf=>by simp[K.flat]at hf
 |.pair a b,x,y,hf=>by
  simp only[K.flat,Bool.and_eq_true]at hf
  simp only[qO,Bool.and_eq_true]
  rw[yj a _ _ hf.1,yj b _ _ hf.2]
  exact⟨fun h=>Prod.ext h.1 h.2,fun h=>⟨congrArg Prod.fst h,congrArg Prod.snd h⟩⟩
 |.one k,x,y,hf=>by simp only[qO];exact yj k x y (by simpa only[K.flat] using hf)
theorem ou:∀{k:K} {x:k.T} {us vs:List Value},k.flat=true→aD Z w k x us→aD Z' w' k x vs→us=vs
 |.int _,_,_,_,_,h1,h2=>by simp only[aD]at h1 h2;rw[h1,h2]
 |.bool,_,_,_,_,h1,h2=>by simp only[aD]at h1 h2;rw[h1,h2]
 |.str,_,_,_,_,h1,h2=>by simp only[aD]at h1 h2;rw[h1,h2]
 |.sl _,_,_,_,hf,_,_=>by simp[K.flat]at hf
 |.mp _ _,_,_,_,hf,_,_=>by simp[K.flat]at hf
 |.pair a b,x,_,_,hf,h1,h2=>by
  simp only[K.flat,Bool.and_eq_true]at hf
  simp only[aD]at h1 h2
  obtain⟨a1,a2,rfl,h3,h4⟩:=h1
  obtain⟨b1,b2,rfl,h5,h6⟩:=h2
  rw[ou hf.1 h3 h5,ou hf.2 h4 h6]
 |.one k,x,_,_,hf,h1,h2=>by
  simp only[aD]at h1 h2
  exact ou (k:=k) (by simpa only[K.flat] using hf) h1 h2
theorem q7:∀{k:K} {x:k.T} {us:List Value},k.flat=true→aD Z w k x us→∀u∈us,∀n,Instr.sameBits n u u=true
 |.int _,x,_,_,h1,u,hu,n=>by simp only[aD]at h1;subst h1;simp only[List.mem_singleton]at hu;subst hu;cases n<;>simp[Instr.sameBits]<;>exact beq_self_eq_true (α:=Int) x
 |.bool,x,_,_,h1,u,hu,n=>by simp only[aD]at h1;subst h1;simp only[List.mem_singleton]at hu;subst hu;cases n<;>simp[Instr.sameBits]<;>exact beq_self_eq_true (α:=Bool) x
 |.str,x,_,_,h1,u,hu,n=>by simp only[aD]at h1;subst h1;simp only[List.mem_singleton]at hu;subst hu;cases n<;>simp[Instr.sameBits]<;>exact(MapKept.bytes_beq x x).2 rfl
 |.sl _,_,_,hf,_,_,_,_=>by simp[K.flat]at hf
 |.mp _ _,_,_,hf,_,_,_,_=>by simp[K.flat]at hf
 |.pair a b,x,_,hf,h1,u,hu,n=>by
  simp only[K.flat,Bool.and_eq_true]at hf
  simp only[aD]at h1
  obtain⟨a1,a2,rfl,h3,h4⟩:=h1
  rcases List.mem_append.1 hu with hu|hu
  ·exact q7 hf.1 h3 u hu n
  ·exact q7 hf.2 h4 u hu n
 |.one k,x,_,hf,h1,u,hu,n=>by
  simp only[aD]at h1
  exact q7 (k:=k) (by simpa only[K.flat] using hf) h1 u hu n
def Is(b:Bool)(v:Value):Prop:=(b=true→∃vs,v=.agg vs)∧(b=false→v.cells=#[v])
theorem LR{b:Bool}{u v:Value}(h1:Is b u)(h2:Is b v)(h:u.cells.toList=v.cells.toList):u=v:=by
 cases b with
 |true =>
  obtain⟨a,rfl⟩:=h1.1 rfl
  obtain⟨c,rfl⟩:=h2.1 rfl
  have:a=c:=by simpa[Value.cells] using h
  rw[this]
 |false =>
  rw[h1.2 rfl,h2.2 rfl]at h
  simpa using h
theorem N0{k:K}{x:k.T}{u:Value}(hf:k.flat=true)(hr:aD Z w k x u.cells.toList)(hs:Is k.isAgg u):Instr.sameBits 10000 u u=true:=by
 have hb:=q7 hf hr
 cases hk:k.isAgg with
 |false=>exact hb u (by rw[hs.2 hk];simp) _
 |true =>
  obtain⟨a,rfl⟩:=hs.1 hk
  show Instr.sameBits (9999+1) (.agg a) (.agg a)=true
  simp only[Instr.sameBits,beq_self_eq_true,Bool.true_and,List.all_eq_true]
  intro p hp
  obtain⟨i,hi,he⟩:=List.mem_iff_getElem.1 hp
  simp only[List.getElem_zip]at he
  subst he
  exact hb _ (List.getElem_mem (l:=(Value.agg a).cells.toList) (by simpa[Value.cells] using hi)) _
def Keys(Z:Nat→Prop)(w:World)(k:K)(ys:List k.T)(l:List MapEntry):Prop:=ys.length=l.length∧∀(i:Nat) y e,ys[i]? = some y→l[i]? = some e→aD Z w k y e.key.cells.toList∧Is k.isAgg e.key
theorem Keys.tail{k:K}{y:k.T}{ys:List k.T}{e:MapEntry}{l:List MapEntry}(h:Keys Z w k (y::ys) (e::l)):Keys Z w k ys l:=⟨by simpa using h.1,fun i a b h1 h2=>h.2 (i+1) a b (by simpa using h1) (by simpa using h2)⟩
theorem FO{k:K}{x:k.T}{d:TypeDesc}{kv:Value}(hs:∀y RR,aD Z w k y RR.cells.toList→Is k.isAgg RR→Instr.sameNow d kv RR=some (qO k x y)):∀(l:List MapEntry) (ys:List k.T) (i:Nat),Keys Z w k ys l →
  Instr.findNow d kv l i=some ((ys.findIdx? (qO k x)).map fun j=>(i+j,((l[j]?).map (·.val)).getD undef))
 |[],ys,i,h=>by
  have:ys=[]:=List.eq_nil_of_length_eq_zero (by simpa using h.1)
  subst this;rfl
 |e::l,[],i,h=>by have:=h.1;simp at this
 |e::l,y::ys,i,h=>by
  obtain⟨h1,h2⟩:=h.2 0 y e rfl rfl
  have ih:=FO hs l ys (i+1) h.tail
  simp only[Instr.findNow,hs y _ h1 h2,List.findIdx?_cons]
  cases qO k x y with
  |true=>simp
  |false =>
   simp only[ih,Bool.false_eq_true,if_false]
   cases ys.findIdx? (qO k x) with
   |none=>rfl
   |some j=>simp;omega
theorem w6{k:K}{x:k.T}{t:TypeId}{kv:Value}(hs:∀y RR,aD Z w k y RR.cells.toList→Is k.isAgg RR→(Op.equal t kv RR).run P w=.ok (qO k x y) w):∀(l:List MapEntry) (ys:List k.T) (i:Nat),Keys Z w k ys l →
  (Instr.findAsking t kv l i).run P w=.ok ((ys.findIdx? (qO k x)).map fun j=>(i+j,((l[j]?).map (·.val)).getD undef)) w
 |[],ys,i,h=>by
  have:ys=[]:=List.eq_nil_of_length_eq_zero (by simpa using h.1)
  subst this;rfl
 |e::l,[],i,h=>by have:=h.1;simp at this
 |e::l,y::ys,i,h=>by
  obtain⟨h1,h2⟩:=h.2 0 y e rfl rfl
  have ih:=w6 hs l ys (i+1) h.tail
  simp only[Instr.findAsking,Sem.run_bind,hs y _ h1 h2,Result.andThen_ok,List.findIdx?_cons]
  cases qO k x y with
  |true=>simp
  |false =>
   simp only[ih,Bool.false_eq_true,if_false]
   cases ys.findIdx? (qO k x) with
   |none=>rfl
   |some j=>simp;omega
structure N1(P:Program)(t:TypeId)(k:K):Prop where
 flat:k.flat=true
 check:∀(Z:Nat→Prop) (w:World) (x:k.T) (kv:Value) (e:Bool),aD Z w k x kv.cells.toList→Is k.isAgg kv→(Instr.checkKey e 10000 t kv).run P w=.ok () w
 find:∀(Z:Nat→Prop) (w:World) (x:k.T) (kv:Value) (l:List MapEntry) (ys:List k.T),aD Z w k x kv.cells.toList→Is k.isAgg kv→Keys Z w k ys l →
  (Instr.findKey t kv l).run P w=.ok ((ys.findIdx? (qO k x)).map fun j=>(j,((l[j]?).map (·.val)).getD undef)) w
theorem ov{t:TypeId}{k:K}{d:TypeDesc}(hf:k.flat=true)(hk:k.isAgg=false)(hd:P.underlying t=some d)(hc:∀(Z:Nat→Prop) (w:World) (x:k.T) (kv:Value),aD Z w k x [kv]→MapKept.IsKey d kv)
  (hs:∀(Z:Nat→Prop) (w:World) (x y:k.T) (u v:Value),aD Z w k x [u]→aD Z w k y [v]→Instr.sameNow d u v=some (qO k x y)):N1 P t k:=by
 have one:∀{Z:Nat→Prop} {w:World} {x:k.T} {kv:Value},aD Z w k x kv.cells.toList→Is k.isAgg kv→aD Z w k x [kv]:=fun {Z w x kv} h1 h2=>by
  rw[h2.2 hk]at h1;exact h1
 refine⟨hf,fun Z w x kv e h1 h2=>MapKept.run_checkKey hd (hc Z w x kv (one h1 h2)) e 9999,fun Z w x kv l ys h1 h2 h3=>?_⟩
 have:=FO (Z:=Z) (w:=w) (x:=x) (d:=d) (kv:=kv) (fun y RR h4 h5=>hs Z w x y kv RR (one h1 h2) (one h4 h5)) l ys 0 h3
 simp only[Nat.zero_add]at this
 exact MapKept.run_findKey hd this
theorem FP(d:TypeDesc)(a:Array Value)(v:Value):Instr.sameNow d (.agg a) v=none:=by cases d<;>cases v<;>rfl
theorem vJ{Eqs:TypeId→Option K}(B5:∀t k,Eqs t=some k→ly P t k){t:TypeId}{k:K}(hk:Kr P Eqs t k=true):N1 P t k:=by
 unfold Kr at hk
 rw[Bool.and_eq_true]at hk
 obtain⟨hf,hk⟩:=hk
 split at hk
 ·rename_i ik XA hd
  simp only[decide_eq_true_eq]at hk
  subst hk
  exact ov hf rfl hd (fun Z w x kv hr=>by simp only[aD]at hr;cases hr;simp[MapKept.IsKey]) (fun Z w x y u v h1 h2=>by simp only[aD]at h1 h2;cases h1;cases h2;simp[Instr.sameNow,qO])
 ·rename_i hd
  exact ov hf rfl hd (fun Z w x kv hr=>by simp only[aD]at hr;cases hr;simp[MapKept.IsKey]) (fun Z w x y u v h1 h2=>by simp only[aD]at h1 h2;cases h1;cases h2;simp[Instr.sameNow,qO])
 ·rename_i hd
  exact ov hf rfl hd (fun Z w x kv hr=>by simp only[aD]at hr;cases hr;simp[MapKept.IsKey]) (fun Z w x y u v h1 h2=>by simp only[aD]at h1 h2;cases h1;cases h2;simp[Instr.sameNow,qO])
 ·simp only[Bool.and_eq_true,decide_eq_true_eq]at hk
  obtain⟨Um,hk⟩:=hk
  have fact:=B5 _ _ hk
  have agg:∀{b:Bool} {u:Value},b=true→Is b u→∃a,u=.agg a:=fun hb h=>h.1 hb
  refine⟨hf,fun Z w x kv e h1 h2=>?_,fun Z w x kv l ys h1 h2 h3=>?_⟩
  ·obtain⟨a,rfl⟩:=agg Um h2
   exact(fact Z w x x a a h1 h1).2.2 e
  ·obtain⟨a,rfl⟩:=agg Um h2
   have h4:=w6 (P:=P) (t:=t) (Z:=Z) (w:=w) (x:=x) (kv:=.agg a) (fun y RR h4 h5=>by
    obtain⟨b,rfl⟩:=agg Um h5
    exact(fact Z w x y a b h1 h4).1) l ys 0 h3
   simp only[Nat.zero_add]at h4
   cases l with
   |nil =>
    have:ys=[]:=List.eq_nil_of_length_eq_zero (by simpa using h3.1)
    subst this
    cases hu:P.underlying t with
    |none =>
     have hc:=(fact Z w x x a a h1 h1).2.2 true
     exfalso
     unfold Instr.checkKey at hc
     simp[underlying,hu]at hc
    |some d=>simp[Instr.findKey,run_underlying hu,Instr.findNow]
   |cons e l =>
    cases hu:P.underlying t with
    |none =>
     have hc:=(fact Z w x x a a h1 h1).2.2 true
     exfalso
     unfold Instr.checkKey at hc
     simp[underlying,hu]at hc
    |some d=>simp only[Instr.findKey,Sem.run_bind,run_underlying hu,Result.andThen_ok,Instr.findNow,FP];exact h4
section
variable {kk vk:K} {es:List (kk.T×vk.T)} {l:List MapEntry}
abbrev jZ(Z:Nat→Prop)(w:World)(kk vk:K)(es:List (kk.T×vk.T))(l:List MapEntry):Prop:=D4 (aD Z w kk) (aD Z w vk) kk.isAgg vk.isAgg es l
theorem jZ.keys(h:jZ Z w kk vk es l):Keys Z w kk (es.map (·.1)) l :=
 ⟨by rw[List.length_map];exact h.1,fun i y e h1 h2=>by
  rw[List.getElem?_map]at h1
  obtain⟨x,h3,rfl⟩:=Option.map_eq_some_iff.1 h1
  exact(h.2 i x e h3 h2).1⟩
theorem zx{x:kk.T}:(es.map (·.1)).findIdx? (qO kk x)=sQ kk x es:=by unfold sQ;rw[List.findIdx?_map];rfl
theorem D9{x:kk.T}{i:Nat}(h:sQ kk x es=some i):i<es.length:=by
 unfold sQ at h
 exact(List.findIdx?_eq_some_iff_getElem.1 h).1
theorem Su{x:kk.T}{i:Nat}(h:sQ kk x es=some i):∃e,es[i]? = some e∧qO kk x e.1=true:=by
 unfold sQ at h
 obtain⟨h1,h2,_⟩:=List.findIdx?_eq_some_iff_getElem.1 h
 exact⟨_,List.getElem?_eq_getElem h1,h2⟩
def N2(Z:Nat→Prop)(w:World)(kk vk:K)(x:kk.T×vk.T)(e:MapEntry):Prop:=(aD Z w kk x.1 e.key.cells.toList∧Is kk.isAgg e.key)∧aD Z w vk x.2 e.val.cells.toList∧Is vk.isAgg e.val
theorem jZ.set(h:jZ Z w kk vk es l)(i:Nat){x:kk.T×vk.T}{f:MapEntry→MapEntry}(ho:∀e,l[i]? = some e→N2 Z w kk vk x (f e)):jZ Z w kk vk (es.set i x) (l.modify i f):=by
 refine⟨by simp[h.1],fun j y e h1 h2=>?_⟩
 rw[List.getElem?_modify]at h2
 obtain⟨e0,h3,h4⟩:=Option.map_eq_some_iff.1 h2
 by_cases zy:i=j
 ·subst zy
  rw[if_pos rfl]at h4
  have aF:i<es.length:=by rw[h.1];exact(List.getElem?_eq_some_iff.1 h3).1
  rw[List.getElem?_set_self aF]at h1
  cases h1
  subst h4
  exact ho e0 h3
 ·rw[if_neg zy]at h4
  rw[List.getElem?_set_ne zy]at h1
  subst h4
  exact h.2 j y e0 h1 h3
theorem jZ.push(h:jZ Z w kk vk es l){x:kk.T×vk.T}{e:MapEntry}(ho:N2 Z w kk vk x e):jZ Z w kk vk (es++[x]) (l++[e]):=by
 refine⟨by simp[h.1],fun j y e' h1 h2=>?_⟩
 by_cases hj:j<es.length
 ·rw[List.getElem?_append_left hj]at h1
  rw[List.getElem?_append_left (by rw[←h.1];exact hj)]at h2
  exact h.2 j y e' h1 h2
 ·rw[List.getElem?_append_right (by omega)]at h1
  rw[List.getElem?_append_right (by have:=h.1;omega),←h.1]at h2
  by_cases h0:j-es.length=0
  ·rw[h0]at h1 h2;cases h1;cases h2;exact ho
  ·rw[List.getElem?_eq_none (by simp;omega)]at h1;cases h1
theorem jZ.erase(h:jZ Z w kk vk es l)(i:Nat):jZ Z w kk vk (es.eraseIdx i) (l.eraseIdx i):=by
 refine⟨by rw[List.length_eraseIdx,List.length_eraseIdx,h.1],fun j y e h1 h2=>?_⟩
 rw[List.getElem?_eraseIdx]at h1 h2
 split at h1
 ·rename_i hj;rw[if_pos hj]at h2;exact h.2 j y e h1 h2
 ·rename_i hj;rw[if_neg hj]at h2;exact h.2 (j+1) y e h1 h2
theorem jZ.mono(h:jZ Z w kk vk es l)(hz:∀b,Z b→Z' b)(hs:cp Z w w'):jZ Z' w' kk vk es l:=D4.imp (fun _ _ h=>h.mono hz hs) (fun _ _ h=>h.mono hz hs) h
end
theorem ta{Eqs:TypeId→Option K}{t:TypeId}{kk vk:K}(h:mapOf P Eqs t=some (kk,vk)):∃a b,P.underlying t=some (.map a b)∧Kr P Eqs a kk=true∧Kq P b vk=true:=by
 unfold mapOf at h
 split at h
 ·rename_i a b hu
  split at h
  ·split at h
   ·rename_i hc
    cases h
    rw[Bool.and_eq_true]at hc
    exact⟨a,b,hu,hc.1,hc.2⟩
   ·cases h
  ·cases h
 ·cases h
theorem IU{b:TypeId}{vk:K}(h:Kq P b vk=true):∃z,(zeroValue b).run P w=.ok z w∧aD Z w vk (kG vk) z.cells.toList∧Is vk.isAgg z:=by
 unfold Kq at h
 split at h
 ·rename_i i hi
  split at h
  ·rename_i z hz
   refine⟨z,tZ hi hz,?_⟩
   unfold NH at h
   split at h
   ·simp only[decide_eq_true_eq]at h;obtain⟨rfl,rfl⟩:=h;exact⟨by simp only[aD];rfl,fun h=>(by cases h),fun _=>rfl⟩
   ·rename_i b;simp only[Bool.not_eq_true']at h;subst h;exact⟨by simp only[aD];rfl,fun h=>(by cases h),fun _=>rfl⟩
   ·simp only[decide_eq_true_eq]at h;subst h;exact⟨by simp only[aD];rfl,fun h=>(by cases h),fun _=>rfl⟩
   ·simp only[decide_eq_true_eq]at h;obtain⟨rfl,rfl,rfl⟩:=h
    exact⟨by simp only[aD];exact⟨_,rfl,none,0,rfl,Nat.le_refl _,fun _=>rfl,fun i x hx=>by simp[kG]at hx⟩,fun h=>(by cases h),fun _=>rfl⟩
   ·cases h
  ·cases h
 ·cases h
theorem Ku{hh:Heap}(g:Good Z ψ h w B0 O)(bz:∀id o,hh.get id=some o→h id=some o){m:AV}{u:Value}{kk vk:K}{es:List (kk.T×vk.T)}(hm:av Z ψ h w m u)(hv:cE hh m=.mp kk vk es) :
  ∃A,u=.map A∧((A=none∧es=[])∨∃r bT clock,A=some r∧w.heap[r]? = some (.map bT clock)∧jZ Z w kk vk es bT.toList):=by
 cases m with
 |mp Kp Sf N3 =>
  simp only[cE]at hv
  cases hv
  simp only[av,aD]at hm
  obtain⟨A,h1,h2⟩:=hm
  cases h1
  refine⟨A,rfl,h2.imp (fun h=>h) fun⟨m,bT,clock,h3,_,h4,h5⟩=>⟨m,bT,clock,h3,h4,h5⟩⟩
 |bF id =>
  simp only[cE]at hv
  split at hv
  ·cases hv
  ·rename_i Kp Sf N3 hg
   cases hv
   have zt:=bz _ _ hg
   simp only[av]at hm
   have:=hm.2 (by rw[zt];simp)
   subst this
   obtain⟨r,bT,clock,h1,h2,h3,_⟩:=g.row id (.map kk vk) es zt
   exact⟨some r,h1,.inr ⟨r,bT,clock,rfl,h2,h3⟩⟩
  ·cases hv
 |_=>simp only[cE]at hv;cases hv
theorem IV{hh:Heap}(g:Good Z ψ h w B0 O)(bz:∀id o,hh.get id=some o→h id=some o){k:K}(hf:k.flat=true){a:AV}{x:k.T}{v:Value}(hx:fF k hh a=some x)(hr:av Z ψ h w a v):aD Z w k x v.cells.toList∧Is k.isAgg v:=by
 obtain⟨h1,h2,h3⟩:=s8 (Z':=fun b=>b<w.heap.size) (g.sub bz) (fun b hb=>g.jx b hb) (fun id b _ h1 h2=>(g.sub bz).bM ⟨id,h1,h2⟩) hx (hr.less (fun _ h=>h) (cp.refl _ _) (fun id bL=>by
  obtain⟨o,ho⟩:=Option.ne_none_iff_exists'.1 bL
  exact⟨by rw[bz id o ho];simp,rfl⟩))
 exact⟨h1.flat hf,h2,h3⟩
theorem Ea{Eqs:TypeId→Option K}(B5:∀t k,Eqs t=some k→ly P t k){hh:Heap}(g:Good Z ψ h w B0 O)(bz:∀id o,hh.get id=some o→h id=some o){t:TypeId}{m i:AV}{u v:Value}{ok:Bool}{e:bE}
  (hm:av Z ψ h w m u) (hi:av Z ψ h w i v) (he:ni P Eqs hh t m i ok some=some e):∃y V,e=.val y∧(Instr.lookup t u v ok).run P w=.ok V w∧av Z ψ h w y V:=by
 unfold ni at he
 split at he
 ·rename_i ka va kk vk es XC hv
  split at he
  ·rename_i hc
   obtain⟨rfl,rfl⟩:=hc
   split at he
   ·rename_i x hx
    cases he
    obtain⟨a,b,hu,hk,hz⟩:=ta XC
    have K:=vJ B5 hk
    obtain⟨IW,n6⟩:=IV g bz K.flat hx hi
    obtain⟨z,w4,B4,Iq⟩:=IU (Z:=Z) (w:=w) hz
    have fin:∀(l:List MapEntry),jZ Z w kk vk es l→∃V,((∃j,(Instr.findKey a v l).run P w=.ok (some (j,V)) w∧(iL kk x es).isSome=true)∨((Instr.findKey a v l).run P w=.ok none w∧(zeroValue b).run P w=.ok V w∧(iL kk x es).isSome=false)) ∧
      aD Z w vk ((iL kk x es).getD (kG vk)) V.cells.toList∧Is vk.isAgg V:=by
     intro l hE
     have hf:=K.find Z w x v l (es.map (·.1)) IW n6 hE.keys
     rw[zx]at hf
     cases CQ:sQ kk x es with
     |none =>
      rw[CQ]at hf
      exact⟨z,.inr ⟨hf,w4,by simp[iL,CQ]⟩,by simpa[iL,CQ] using B4,Iq⟩
     |some j =>
      rw[CQ]at hf
      have hj:=D9 CQ
      have h1:es[j]? = some es[j]:=List.getElem?_eq_getElem hj
      have It:j<l.length:=by rw[←hE.1];exact hj
      have h2:l[j]? = some l[j]:=List.getElem?_eq_getElem It
      obtain⟨_,h3,h4⟩:=hE.2 j _ _ h1 h2
      refine⟨l[j].val,.inl ⟨j,?_,by simp[iL,CQ,h1]⟩,by simpa[iL,CQ,h1] using h3,h4⟩
      rw[hf];simp only[Option.map_some,h2,Option.getD_some]
    have out:∀V:Value,aD Z w vk ((iL kk x es).getD (kG vk)) V.cells.toList→Is vk.isAgg V→av Z ψ h w (cond ok (AV.mI [b8 vk ((iL kk x es).getD (kG vk)),.bool (iL kk x es).isSome]) (b8 vk ((iL kk x es).getD (kG vk)))) (if ok then .tuple #[V,.bool (iL kk x es).isSome] else V):=by
     intro V h1 h2
     have h3:av Z ψ h w (b8 vk ((iL kk x es).getD (kG vk))) V:=lx h1 h2.1 h2.2
     cases ok with
     |false=>exact h3
     |true=>simp only[cond_true,if_true,av,ak];exact⟨_,rfl,V,[.bool (iL kk x es).isSome],by simp,h3,_,[],rfl,rfl,rfl⟩
    obtain⟨A,rfl,hA⟩:=Ku g bz hm hv
    rcases hA with⟨rfl,rfl⟩|⟨r,bT,clock,rfl,h3,h4⟩
    ·obtain⟨V,h5,h6,h7⟩:=fin [] ⟨rfl,fun i x e h=>by simp at h⟩
     refine⟨_,_,rfl,?_,out V h6 h7⟩
     simp only[Instr.lookup,Sem.run_bind,run_underlying hu,Result.andThen_ok,Sem.run_pure,K.check Z w x v _ IW n6]
     rcases h5 with⟨j,h8,h9⟩|⟨h8,h9,mO⟩
     ·simp[h8,h9]
     ·simp[h8,h9,mO]
    ·obtain⟨V,h5,h6,h7⟩:=fin bT.toList h4
     refine⟨_,_,rfl,?_,out V h6 h7⟩
     simp only[Instr.lookup,Sem.run_bind,run_underlying hu,Result.andThen_ok,Sem.run_pure,MapKept.run_getObj_map h3,K.check Z w x v _ IW n6]
     rcases h5 with⟨j,h8,h9⟩|⟨h8,h9,mO⟩
     ·simp[h8,h9]
     ·simp[h8,h9,mO]
   ·cases he
  ·cases he
 ·cases he
end Go.Vs
namespace Go.Vs
variable {P:Program} {Z Z':Nat→Prop} {ψ ψ':Nat→Value} {h h':Hp} {w w':World} {B0:Nat} {O:Nat→Prop} {N:Nat→Prop}
theorem vK{r b:Nat}(o:Obj)(bq:r≠b):(w.heap.setIfInBounds r o)[b]? = w.heap[b]? := by rw[Array.getElem?_setIfInBounds];simp[bq]
theorem cW.adf{r:Nat}(ho:Own ψ h r)(o:Obj):cW ψ h w { w with heap:=w.heap.setIfInBounds r o } :=
 ⟨rfl,rfl,rfl,by simp,fun b _ hb=>vK o (fun e=>hb (e▸ho))⟩
theorem q8{hp:Hp}(g:Good Z ψ hp w B0 O){id:Nat}(bL:hp id≠none){r:Nat}(hr:ob (ψ id)=some r)(aF:r<w.heap.size)(o:Obj){ok:OK}{x:ok.T}
  (hx:∀w':World,w'.heap=w.heap.setIfInBounds r o→cp Z w w'→jq Z w' ok (ψ id) x) :
  Next Z ψ hp w B0 O N Z ψ (dM hp id (some (.own ok x))) { w with heap:=w.heap.setIfInBounds r o }:=by
 have ho:Own ψ hp r:=⟨id,bL,hr⟩
 have kk:=cW.adf (w:=w) ho o
 refine g.write id bL kk (fun b hb _=>vK o (fun e=>hb (by rw[hr,e]))) _ (fun _ _ he=>by cases he) (fun XB x' he=>?_)
 cases he
 exact hx _ rfl (kk.same g)
theorem w7{l:List MapEntry}{i:Nat}{f:MapEntry→MapEntry}(hf:∀e,(f e).born=e.born):(l.modify i f).map (·.born)=l.map (·.born):=by
 apply List.ext_getElem?
 intro j
 simp only[List.getElem?_map,List.getElem?_modify]
 cases l[j]? with
 |none=>rfl
 |some e=>simp only[Option.map_some];split<;>simp[hf]
theorem vL{l:List MapEntry}:l.Pairwise (fun a b=>a.born≠b.born)↔(l.map (·.born)).Pairwise (·≠·):=by rw[List.pairwise_map]
theorem uc{Eqs:TypeId→Option K}(B5:∀t k,Eqs t=some k→ly P t k){hh:Heap}(g:Good Z ψ hh.get w B0 O){t:TypeId}{m i v:AV}{u1 u2 u3:Value}{e:bE}
  (hm:av Z ψ hh.get w m u1) (hi:av Z ψ hh.get w i u2) (hv:av Z ψ hh.get w v u3) (he:ij P Eqs hh t m i v some=some e) :
  ∃hw w' Z',e=.wr (.mI []) hw∧(Instr.mapUpdate t u1 u2 u3).run P w=.ok () w'∧Next Z ψ hh.get w B0 O N Z' ψ hw.get w':=by
 unfold ij at he
 split at he
 ·rename_i ka va id XC
  split at he
  ·rename_i kk vk es hg
   split at he
   ·rename_i hc
    obtain⟨rfl,rfl⟩:=hc
    split at he
    ·rename_i x y hx hy qg
     cases he
     obtain⟨a,b,hu,hk,_⟩:=ta XC
     have K:=vJ B5 hk
     obtain⟨IW,n6⟩:=IV g (fun _ _ h=>h) K.flat hx hi
     simp only[av]at hm
     have VL:=hm.2 (by rw[hg];simp)
     obtain⟨r,bT,clock,h1,h2,h3,h4,h5⟩:=g.row id (.map kk vk) es hg
     rw[h1]at VL
     subst VL
     have bL:AV.bF id∉v.cells:=fun hc=>by
      have:=List.all_eq_true.1 qg _ hc
      simp at this
     have gd:=hM g v.cells
     have hgd:(cz hh v.cells).get id=some (.own (.map kk vk) es):=by rw[oo _ _ _ bL];exact hg
     obtain⟨ud,wY,hv3⟩:=s8 (Z':=pQ Z ψ hh.get v.cells) g (fun b hb=>.inl hb) (fun id b h1 h2 h3=>.inr ⟨id,h1,h2,h3⟩) hy hv
     have Yf:aD (pQ Z ψ hh.get v.cells) w kk x u2.cells.toList:=IW.flat K.flat
     have aF:=(Array.getElem?_eq_some_iff.1 h2).1
     have jz:ob (ψ id)=some r:=by rw[h1];rfl
     have hE:jZ (pQ Z ψ hh.get v.cells) w kk vk es bT.toList:=jZ.mono h3 (fun b hb=>.inl hb) (cp.refl _ _)
     have hf:=K.find Z w x u2 bT.toList (es.map (·.1)) IW n6 (jZ.keys h3)
     rw[zx]at hf
     have fin:∀(o:Obj) (N3:List (kk.T×vk.T)) (mj:Array MapEntry) (zz:Nat),o=.map mj zz→jZ (pQ Z ψ hh.get v.cells) w kk vk N3 mj.toList→(mj.toList.map (·.born)).Pairwise (·≠·)→(∀e∈mj.toList,e.born<zz) →
       Next Z ψ hh.get w B0 O N (pQ Z ψ hh.get v.cells) ψ ((cz hh v.cells).set id (.own (.map kk vk) N3)).get { w with heap:=w.heap.setIfInBounds r o }:=by
      rintro o N3 mj zz rfl h6 h7 h8
      rw[mi]
      have n:=q8 (N:=N) gd (by rw[hgd];simp) jz aF (.map mj zz) (ok:=.map kk vk) (x:=N3) (fun w' IX sm=>⟨r,mj,zz,h1,by rw[IX];simp[aF],jZ.mono h6 (fun _ h=>h) sm,vL.2 h7,h8⟩)
      exact n.drop (fun b hb=>.inl hb) (fun b hb=>hb.imp (fun h=>h) (fun⟨i,_,h5,h6⟩=>⟨i,h5,h6⟩)) (dR _ _)
     cases CQ:sQ kk x es with
     |none =>
      rw[CQ]at hf
      refine⟨_,{ w with heap:=w.heap.setIfInBounds r (.map (bT.push { key:=u2,val:=u3,born:=clock }) (clock+1)) },pQ Z ψ hh.get v.cells,rfl,?_,?_⟩
      rotate_left
      ·rw[show mb kk x y es=es++[(x,y)] by simp[mb,CQ]]
       refine fin _ _ (bT.push { key:=u2,val:=u3,born:=clock }) (clock+1) rfl ?_ ?_ ?_
       ·rw[Array.toList_push]
        exact hE.push ⟨⟨Yf,n6⟩,ud,wY,hv3⟩
       ·rw[Array.toList_push,List.map_append,List.pairwise_append]
        refine⟨vL.1 h4,by simp,fun a ha b hb=>?_⟩
        simp only[List.map_cons,List.map_nil,List.mem_singleton]at hb
        obtain⟨e,he,rfl⟩:=List.mem_map.1 ha
        have:=h5 e he
        omega
       ·intro e he
        rw[Array.toList_push]at he
        rcases List.mem_append.1 he with he|he
        ·have:=h5 e he;omega
        ·simp only[List.mem_singleton]at he;subst he;exact Nat.lt_succ_self _
      ·simp only[Instr.mapUpdate,Sem.run_bind,run_underlying hu,Result.andThen_ok,MapKept.run_getObj_map h2,K.check Z w x u2 _ IW n6,hf,Option.map_none,MapKept.run_setObj_map _ h2]
     |some j =>
      rw[CQ]at hf
      have hj:=D9 CQ
      obtain⟨e0,Un,heq⟩:=Su CQ
      have It:j<bT.toList.length:=by rw[←h3.1];exact hj
      have hl:bT.toList[j]? = some bT.toList[j]:=List.getElem?_eq_getElem It
      have RS:bT[j]? = some bT.toList[j]:=by rw[←hl];simp
      obtain⟨⟨Yg,adg⟩,_⟩:=h3.2 j _ _ Un hl
      have rY:bT.toList[j].key=u2:=by
       refine LR adg n6 ?_
       rw[←(yj kk x e0.1 K.flat).1 heq]at Yg
       exact ou K.flat Yg IW
      have Uo:(Instr.keyThatStays u2 u2).run P w=.ok u2 w:=by simp[Instr.keyThatStays,N0 K.flat IW n6]
      refine⟨_,{ w with heap:=w.heap.setIfInBounds r (.map (bT.modify j fun e=>{ e with key:=u2,val:=u3 }) clock) },pQ Z ψ hh.get v.cells,rfl,?_,?_⟩
      rotate_left
      ·rw[show mb kk x y es=es.set j (x,y) by simp[mb,CQ]]
       refine fin _ _ (bT.modify j fun e=>{ e with key:=u2,val:=u3 }) clock rfl ?_ ?_ ?_
       ·rw[Array.toList_modify]
        exact hE.set j (fun e he=>⟨⟨Yf,n6⟩,ud,wY,hv3⟩)
       ·rw[Array.toList_modify,w7 (f:=fun e:MapEntry=>{ e with key:=u2,val:=u3 }) (fun _=>rfl)];exact vL.1 h4
       ·intro e he
        have:e.born∈(bT.modify j fun e=>{ e with key:=u2,val:=u3 }).toList.map (·.born):=List.mem_map.2 ⟨e,he,rfl⟩
        rw[Array.toList_modify,w7 (f:=fun e:MapEntry=>{ e with key:=u2,val:=u3 }) (fun _=>rfl)]at this
        obtain⟨e',VC,h6⟩:=List.mem_map.1 this
        rw[←h6];exact h5 e' VC
      ·simp only[Instr.mapUpdate,Sem.run_bind,run_underlying hu,Result.andThen_ok,MapKept.run_getObj_map h2,K.check Z w x u2 _ IW n6,hf,Option.map_some,RS,Option.getD_some,rY,Uo,MapKept.run_setObj_map _ h2]
    ·cases he
   ·cases he
  ·cases he
 ·cases he
theorem ue{Eqs:TypeId→Option K}(B5:∀t k,Eqs t=some k→ly P t k){hh:Heap}(g:Good Z ψ hh.get w B0 O){t ty:TypeId}{ts:List TypeId}{m i:AV}{u1 u2:Value}{e:bE}
  (hm:av Z ψ hh.get w m u1) (hi:av Z ψ hh.get w i u2) (he:nj P Eqs hh t m i some=some e) :
  ∃hw w',e=.wr (.mI []) hw∧(Builtin.delete_ (t::ts).toArray ty #[u1,u2]).run P w=.ok (.tuple #[]) w'∧Next Z ψ hh.get w B0 O N Z ψ hw.get w':=by
 unfold nj at he
 split at he
 ·rename_i ka va id XC
  split at he
  ·rename_i kk vk es hg
   split at he
   ·rename_i hc
    obtain⟨rfl,rfl⟩:=hc
    split at he
    ·rename_i x hx
     cases he
     obtain⟨a,b,hu,hk,_⟩:=ta XC
     have K:=vJ B5 hk
     obtain⟨IW,n6⟩:=IV g (fun _ _ h=>h) K.flat hx hi
     simp only[av]at hm
     have VL:=hm.2 (by rw[hg];simp)
     obtain⟨r,bT,clock,h1,h2,h3,h4,h5⟩:=g.row id (.map kk vk) es hg
     rw[h1]at VL
     subst VL
     have aF:=(Array.getElem?_eq_some_iff.1 h2).1
     have jz:ob (ψ id)=some r:=by rw[h1];rfl
     have hf:=K.find Z w x u2 bT.toList (es.map (·.1)) IW n6 (jZ.keys h3)
     rw[zx]at hf
     have fin:∀(o:Obj) (N3:List (kk.T×vk.T)) (mj:Array MapEntry),o=.map mj clock→jZ Z w kk vk N3 mj.toList→mj.toList.Sublist bT.toList →
       Next Z ψ hh.get w B0 O N Z ψ (hh.set id (.own (.map kk vk) N3)).get { w with heap:=w.heap.setIfInBounds r o }:=by
      rintro o N3 mj rfl h6 h7
      rw[mi]
      exact q8 (N:=N) g (by rw[hg];simp) jz aF (.map mj clock) (ok:=.map kk vk) (x:=N3) (fun w' IX sm=>⟨r,mj,clock,h1,by rw[IX];simp[aF],jZ.mono h6 (fun _ h=>h) sm,h4.sublist h7,fun e he=>h5 e (h7.subset he)⟩)
     cases CQ:sQ kk x es with
     |none =>
      rw[CQ]at hf
      refine⟨_,{ w with heap:=w.heap.setIfInBounds r (.map bT clock) },rfl,?_,?_⟩
      rotate_left
      ·rw[show NG kk x es=es by simp[NG,CQ]]
       exact fin _ _ bT rfl h3 (List.Sublist.refl _)
      ·simp[Builtin.delete_,run_underlying hu,MapKept.run_getObj_map h2,K.check Z w x u2 _ IW n6,hf,MapKept.run_setObj_map _ h2]
     |some j =>
      rw[CQ]at hf
      have hj:=D9 CQ
      refine⟨_,{ w with heap:=w.heap.setIfInBounds r (.map (bT.eraseIdxIfInBounds j) clock) },rfl,?_,?_⟩
      rotate_left
      ·rw[show NG kk x es=es.eraseIdx j by simp[NG,CQ]]
       refine fin _ _ (bT.eraseIdxIfInBounds j) rfl ?_ ?_
       ·rw[Array.toList_eraseIdxIfInBounds];exact jZ.erase h3 j
       ·rw[Array.toList_eraseIdxIfInBounds];exact List.eraseIdx_sublist _ _
      ·simp[Builtin.delete_,run_underlying hu,MapKept.run_getObj_map h2,K.check Z w x u2 _ IW n6,hf,MapKept.run_setObj_map _ h2]
    ·cases he
   ·cases he
  ·cases he
 ·cases he
theorem IY{hh:Heap}(g:Good Z ψ h w B0 O)(bz:∀id o,hh.get id=some o→h id=some o){t ty:TypeId}{x:AV}{u:Value}{e:bE}(ht:IF P t=true)(hx:av Z ψ h w x u)(he:vB hh x some=some e) :
  ∃n:Nat,e=.val (.int .i64 (n:Int))∧(Builtin.len_ #[t] ty #[u]).run P w=.ok (.int .i64 (n:Int)) w:=by
 unfold vB at he
 split at he
 ·rename_i kk vk es hv
  cases he
  have hu:∃a b,P.underlying t=some (.map a b):=by
   unfold IF at ht
   split at ht
   ·exact⟨_,_,by assumption⟩
   ·cases ht
  obtain⟨a,b,hu⟩:=hu
  obtain⟨A,rfl,hA⟩:=Ku g bz hx hv
  rcases hA with⟨rfl,rfl⟩|⟨r,bT,clock,rfl,h3,h4⟩
  ·exact⟨0,rfl,by simp[Builtin.len_,run_underlying hu,goInt]⟩
  ·refine⟨es.length,rfl,?_⟩
   have:bT.size=es.length:=by rw[h4.1];simp
   simp[Builtin.len_,run_underlying hu,MapKept.run_getObj_map h3,goInt,this]
 ·cases he
theorem zB(g:Good Z ψ h w B0 O)(hB:B0≤w.heap.size)(id:Nat)(hN:N id){ok:OK}{x:ok.T}{v:Value}(o:Obj)(ho:jq Z (w.alloc o) ok v x)(hb:ob v=some w.heap.size)
  (bg:∀i ty cs,h i=some (.box ty cs)→ax (fun i=>i≠id) cs):Next Z ψ h w B0 O N Z (dM ψ id v) (dM h id (some (.own ok x))) (w.alloc o) :=
 FE g hB id hN (cW.alloc _ _ _ _) (fun b hb=>heap_alloc_old w _ (g.bM hb)) ho (fun b Cf=>by rw[hb]at Cf;cases Cf;exact Nat.le_refl _) bg
theorem Cg{Eqs:TypeId→Option K}(g:Good Z ψ h w B0 O)(hB:B0≤w.heap.size){id:Nat}(hN:N id){t:TypeId}{e:bE}(bg:∀i ty cs,h i=some (.box ty cs)→ax (fun i=>i≠id) cs)(he:k9 P Eqs id t some=some e) :
  ∃v w' ψ',(Instr.makeMap t none).run P w=.ok v w'∧Next Z ψ h w B0 O N Z ψ' (e.hp h) w'∧av Z ψ' (e.hp h) w' e.v v:=by
 unfold k9 at he
 split at he
 ·rename_i kk vk XC
  cases he
  refine⟨.map (some w.heap.size),w.alloc (.map #[] 0),dM ψ id (.map (some w.heap.size)),rfl,?_,?_⟩
  ·simp only[bE.hp];rw[hP]
   exact zB g hB id hN (ok:=.map kk vk) (x:=[]) _ ⟨w.heap.size,#[],0,rfl,heap_alloc_new _ _,⟨rfl,fun i x e h=>by simp at h⟩,by simp,by simp⟩ rfl bg
  ·simp only[bE.v,bE.hp,av]
   exact⟨⟨rfl,rfl⟩,fun _=>(bh _ _ _).symm⟩
 ·cases he
theorem Eb(g:Good Z ψ h w B0 O)(hB:B0≤w.heap.size){id:Nat}(hN:N id){t:TypeId}{x:AV}{u:Value}{e:bE}(hx:av Z ψ h w x u)(bg:∀i ty cs,h i=some (.box ty cs)→ax (fun i=>i≠id) cs)(he:nk P id t x some=some e) :
  ∃v w' ψ',(Instr.range t u).run P w=.ok v w'∧Next Z ψ h w B0 O N Z ψ' (e.hp h) w'∧av Z ψ' (e.hp h) w' e.v v:=by
 unfold nk at he
 split at he
 ·rename_i sv hu
  cases he
  simp only[av]at hx
  subst hx
  refine⟨.pointer (some ⟨w.heap.size,0,none⟩),w.alloc (.stringIter sv 0),dM ψ id (.pointer (some ⟨w.heap.size,0,none⟩)),?_,?_,?_⟩
  ·simp only[Instr.range,Sem.run_bind,run_underlying hu,Result.andThen_ok,Sem.run_pure];rfl
  ·simp only[bE.hp];rw[hP]
   exact zB g hB id hN (ok:=.nc) (x:=(sv,0)) _ ⟨w.heap.size,rfl,heap_alloc_new _ _⟩ rfl bg
  ·simp only[bE.v,bE.hp,av]
   exact⟨⟨rfl,rfl⟩,fun _=>(bh _ _ _).symm⟩
 ·cases he
theorem fP{r:Nat}{o:Obj}(hb:w.heap[r]? = some o)(hc:∀c e f,o≠.cells c e f):(getObj r).run P w=.ok o w:=by
 cases o<;>first|(exact absurd rfl (hc _ _ _))|simp[getObj,Sem.run,hb]
theorem zF{r:Nat}{o o':Obj}(hb:w.heap[r]? = some o)(hc:∀c e f,o≠.cells c e f):(setObj r o').run P w=.ok () { w with heap:=w.heap.setIfInBounds r o' }:=by
 cases o<;>first|(exact absurd rfl (hc _ _ _))|simp[setObj,Sem.run,hb]
theorem FQ{hh:Heap}(g:Good Z ψ h w B0 O)(bz:∀id o,hh.get id=some o→h id=some o){ty:TypeId}{x:AV}{u:Value}{e:bE}(hx:av Z ψ h w x u)(mT:∀v hw,e=.wr v hw→hh.get=h)(he:qQ hh x some=some e) :
  ∃v w',(Instr.next u true ty).run P w=.ok v w'∧Next Z ψ h w B0 O N Z ψ (e.hp h) w'∧av Z ψ (e.hp h) w' e.v v:=by
 unfold qQ at he
 split at he
 ·rename_i id
  split at he
  ·rename_i x hg
   have zt:=bz _ _ hg
   simp only[av]at hx
   have hu:=hx.2 (by rw[zt];simp)
   obtain⟨r,h1,h2⟩:=g.row id .nc x zt
   rw[h1]at hu
   subst hu
   cases hc:decide (x.2<x.1.size) with
   |true =>
    rw[hc]at he;cases he
    have heq:=mT _ _ rfl
    simp only[decide_eq_true_eq]at hc
    have aF:=(Array.getElem?_eq_some_iff.1 h2).1
    refine⟨.tuple #[.bool true,goInt x.2,.int .i32 (Utf8.decode x.1 x.2).1],{ w with heap:=w.heap.setIfInBounds r (.stringIter x.1 (x.2+(Utf8.decode x.1 x.2).2)) },?_,?_,?_⟩
    ·simp only[Instr.next,Sem.run_bind,fP h2 (by simp),Result.andThen_ok,hc,if_true,zF h2 (by simp),Sem.run_pure]
    ·simp only[bE.hp]
     rw[mi,heq]
     exact q8 (N:=N) g (by rw[zt];simp) (by rw[h1];rfl) aF _ (ok:=.nc) (x:=(x.1,x.2+yW x.1 x.2)) (fun w' IX _=>⟨r,h1,by rw[IX];simp[aF,yW]⟩)
    ·simp only[bE.v,av,ak]
     exact⟨_,rfl,_,_,rfl,rfl,_,_,rfl,rfl,_,_,rfl,rfl,rfl⟩
   |false =>
    rw[hc]at he;cases he
    simp only[decide_eq_false_iff_not]at hc
    refine⟨.tuple #[.bool false],w,?_,Next.refl g,?_⟩
    ·simp only[Instr.next,Sem.run_bind,fP h2 (by simp),Result.andThen_ok,hc,if_false,Sem.run_pure]
    ·simp only[bE.v,av,ak]
     exact⟨_,rfl,_,_,rfl,rfl,rfl⟩
  ·cases he
 ·cases he
theorem find_born{l:List MapEntry}(h:l.Pairwise (fun a b=>a.born≠b.born)){e:MapEntry}(he:e∈l):l.find? (fun x=>x.born==e.born)=some e:=by
 induction l with
 |nil=>cases he
 |cons a r ih =>
  obtain⟨h1,h2⟩:=List.pairwise_cons.1 h
  rw[List.find?_cons]
  rcases List.mem_cons.1 he with rfl|he
  ·simp
  ·have:(a.born==e.born)=false:=by simpa using h1 e he
   rw[this];exact ih h2 he
theorem FR{hh:Heap}(g:Good Z ψ h w B0 O)(bz:∀id o,hh.get id=some o→h id=some o){x:AV}{u:Value}{e:bE}(hx:av Z ψ h w x u)(he:qR hh x some=some e) :
  ∃y v,e=.val y∧(Instr.entry u).run P w=.ok v w∧av Z ψ h w y v:=by
 unfold qR at he
 split at he
 ·rename_i id
  split at he
  ·rename_i kk vk c rest hg
   cases he
   have zt:=bz _ _ hg
   simp only[av]at hx
   have hu:=hx.2 (by rw[zt];simp)
   obtain⟨r,m,since,seen,bT,clock,h1,h2,h3,h4,h5,h6,h7,h8,h9⟩:=g.row id (.iter kk vk) (some c,rest) zt
   rw[h1]at hu
   subst hu
   obtain⟨en,mO,xS,Iu⟩:=h9
   obtain⟨⟨k1,k2,k3⟩,v1,v2,v3⟩:=Iu.2 0 c en rfl rfl
   refine⟨_,.tuple #[en.key,en.val],rfl,?_,?_⟩
   ·have hf:bT.find? (·.born==en.born)=some en:=by
     have:=find_born h5 mO
     rwa [←Array.find?_toList]
    simp only[Instr.entry,Sem.run_bind,fP h2 (by simp),Result.andThen_ok,xS,Sem.run_pure,fP h4 (by simp),hf]
    simp
   ·simp only[av,ak]
    exact⟨_,rfl,_,_,rfl,lx k1 k2 k3,_,_,rfl,lx v1 v2 v3,rfl⟩
  ·cases he
 ·cases he
end Go.Vs
namespace Go.Vs
variable {P:Program} {Z Z':Nat→Prop} {ψ ψ':Nat→Value} {h h':Hp} {w w':World} {B0:Nat} {O:Nat→Prop} {N:Nat→Prop}
mutual
theorem aE.imp{p q:Nat→Prop}(zG:∀i,p i→q i):∀{a:AV},aE p a→aE q a
 |.no,_=>by simp only[aE]
 |.bool b,_=>by simp only[aE]
 |.int k n,_=>by simp only[aE]
 |.str s,_=>by simp only[aE]
 |.kN,_=>by simp only[aE]
 |.fJ,_=>by simp only[aE]
 |.ref id s i off,h=>by simp only[aE]at h ⊢;exact zG _ h
 |.fp k x off,_=>by simp only[aE]
 |.sl ex k xs,_=>by simp only[aE]
 |.mp kk vk es,_=>by simp only[aE]
 |.bF id,h=>by simp only[aE]at h ⊢;exact zG _ h
 |.fn f cap,h=>by simp only[aE]at h ⊢;exact ax.imp zG h
 |.agg cs,h=>by simp only[aE]at h ⊢;exact ax.imp zG h
 |.mI cs,h=>by simp only[aE]at h ⊢;exact ax.imp zG h
theorem ax.imp{p q:Nat→Prop}(zG:∀i,p i→q i):∀{a:List AV},ax p a→ax q a
 |[],_=>by simp only[ax]
 |a::r,h=>by simp only[ax]at h ⊢;exact⟨aE.imp zG h.1,ax.imp zG h.2⟩
end
theorem aE.cells{p:Nat→Prop}{a:AV}(h:aE p a):ax p a.cells:=by
 cases a with
 |agg cs=>simpa only[AV.cells,aE] using h
 |_=>simp only[AV.cells,ax];exact⟨h,trivial⟩
theorem zH:∀{cs:List AV},Fz cs=true→∀id,AV.bF id∉cs
 |[],_,id=>by simp
 |c::r,hn,id=>by
  intro hm
  cases c with
  |bF i=>simp[Fz]at hn
  |_ =>
   simp only[Fz]at hn
   rcases List.mem_cons.1 hm with e|hm
   ·cases e
   ·exact zH hn id hm
theorem qi:∀{vs:List AV},pU vs=true→∀v∈vs,∀id,AV.bF id∉v.cells
 |[],_,v,hv=>by simp at hv
 |a::r,hn,v,hv=>by
  simp only[pU,Bool.and_eq_true]at hn
  rcases List.mem_cons.1 hv with rfl|hv
  ·exact zH hn.1
  ·exact qi hn.2 v hv
def uf(o:Oper):Bool :=
 match o.op with
 |.call { callee:=.value _,.. }=>true
 |_=>false
theorem IZ{s:List (Nat×AV)}{ρC:Operand→Value}{x:Option Operand}(hx:∀y,x=some y→av Z ψ h w (ρ s y) (ρC y)):dU Z ψ h w (x.map (ρ s)) (x.map ρC):=by
 cases x with
 |none=>trivial
 |some y=>exact hx y rfl
theorem zJ{s:List (Nat×AV)}{ρC:Operand→Value}:∀(ps:List (Nat×Operand)),(∀p∈ps,av Z ψ h w (ρ s p.2) (ρC p.2))→(∀p∈ps,ρ s p.2≠.no)→sd Z ψ h w (ps.map fun p=>(p.1,ρ s p.2)) (ps.map fun p=>(p.1,ρC p.2))
 |[],_,_=>trivial
 |p::r,h1,h2=>⟨rfl,h2 p (by simp),h1 p (by simp),zJ r (fun q hq=>h1 q (List.mem_cons_of_mem _ hq)) (fun q hq=>h2 q (List.mem_cons_of_mem _ hq))⟩
theorem CR{k:K}{hh:Heap}:∀{ps:List (Nat×AV)} {i:Nat} {xs:List k.T},pY k hh i ps=some xs→∀p∈ps,p.2≠.no
 |[],_,_,_,p,hp=>by simp at hp
 |(j,v)::r,i,xs,hl,p,hp=>by
  simp only[pY]at hl
  split at hl
  ·split at hl
   ·rename_i x ys h1 h2
    rcases List.mem_cons.1 hp with rfl|hp
    ·exact CN h1
    ·exact CR h2 p hp
   ·cases hl
  ·cases hl
theorem VM{α:Type}{l:List α}(h:l.length=0+1+1):∃x y,l=[x,y]:=by
 cases l with
 |nil=>simp at h
 |cons a r=>cases r with
  |nil=>simp at h
  |cons b s=>cases s with
   |nil=>exact⟨a,b,rfl⟩
   |cons c q=>simp at h
theorem I0{a:AV}(h:Uh a=true):a≠.no:=by rintro rfl;cases h
section
variable {Eqs:TypeId→Option K} {Sg:FuncId→Option aJ} {F:(f:FuncId)→(g:aJ)→g.A→Option g.B}
theorem Ec{hh:Heap}{ρC:Operand→Value}{o:Oper}(g:Good Z ψ h w B0 O)(hB:B0≤w.heap.size)(bz:∀id o,hh.get id=some o→h id=some o){id:Nat}(hN:N id){t:TypeId}{s x:AV}{u v:Value}{e:bE}
  (hs:av Z ψ h w s u) (hx:av Z ψ h w x v) (CS:aE (fun i=>¬N i) s) (bg:∀i ty cs,h i=some (.box ty cs)→ax (fun i=>¬N i) cs) (mT:∀v hw,e=.wr v hw→hh.get=h) (he:nh P hh id t s x some=some e)
  (dk:∀V w',(Builtin.append_ #[t,t] o.type #[u,v]).run P w=.ok V w'→(execOp ρC o).run P w=.ok (.value V) w'):gI P ρC o Z ψ h w B0 O N e:=by
 have RT:∀i ty cs,h i=some (.box ty cs)→ax (fun i=>i≠id) cs:=fun i ty cs hb=>(bg i ty cs hb).imp (fun j hj e=>hj (by rw[e];exact hN))
 unfold nh at he
 split at he
 ·cases he
 ·rename_i et het
  have ht:=mR het
  split at he
  ·cases he
  ·rename_i kk Sw
   split at he
   ·rename_i ys Ch kI
    obtain⟨inf,z,Ir⟩:=cv kI
    split at he
    ·
     cases hc:aL 0 ys.length with
     |false=>rw[hc]at he;cases he
     |true =>
      rw[hc]at he;cases he
      simp only[aL,decide_eq_true_eq]at hc
      simp only[av]at hs
      subst hs
      obtain⟨V,w',h1,h2,h3⟩:=pe (P:=P) (ty:=o.type) g bz hB hN ht Ir Ch hx (by omega) RT
      refine⟨V,w',Z,_,.inl (dk V w' h1),by simp only[bE.hp];rw[hP];exact h2,?_⟩
      simp only[bE.v,bE.hp,av]
      exact⟨h3,fun _=>(bh _ _ _).symm⟩
    ·
     rename_i cK
     split at he
     ·rename_i e' k' xs hg
      split at he
      ·rename_i hc
       obtain⟨rfl,rfl⟩:=hc
       cases tJ:aL xs.length ys.length with
       |false=>rw[tJ]at he;cases he
       |true =>
        rw[tJ]at he;cases he
        simp only[aL,decide_eq_true_eq]at tJ
        have heq:=mT _ _ rfl
        have zt:=bz _ _ hg
        simp only[av]at hs
        have hu:=hs.2 (by rw[zt];simp)
        subst hu
        simp only[aE]at CS
        obtain⟨V,w',h1,h2,h3⟩:=xT (P:=P) (ty:=o.type) g bz hB hN (fun e=>CS (by rw[e];exact hN)) ht Ir zt Ch hx tJ RT
        refine⟨V,w',Z,_,.inl (dk V w' h1),by simp only[bE.hp];rw[mi,ua,heq];exact h2,?_⟩
        simp only[bE.v,bE.hp,av]
        exact⟨h3,fun _=>(bh _ _ _).symm⟩
      ·cases he
     ·cases he
    ·
     rename_i ex k' xs
     split at he
     ·rename_i hc
      subst hc
      cases tJ:(ex&&((!ys.isEmpty || xs.isEmpty)&&aL xs.length ys.length)) with
      |false=>rw[tJ]at he;cases he
      |true =>
       rw[tJ]at he;cases he
       simp only[Bool.and_eq_true,Bool.or_eq_true,aL,decide_eq_true_eq,Bool.not_eq_true',List.isEmpty_eq_false_iff,List.isEmpty_iff]at tJ
       obtain⟨rfl,bq,Sx⟩:=tJ
       obtain⟨V,w',h1,h2,h3⟩:=zn (P:=P) (ty:=o.type) g bz hB hN ht Ir hs Ch hx (bq.imp List.length_pos_iff.2 (fun h=>h)) Sx RT
       refine⟨V,w',Z,_,.inl (dk V w' h1),by simp only[bE.hp];rw[hP];exact h2,?_⟩
       simp only[bE.v,bE.hp,av]
       exact⟨h3,fun _=>(bh _ _ _).symm⟩
     ·cases he
    ·cases he
   ·cases he
theorem zK{ρC:Operand→Value}{o:Oper}(g:Good Z ψ h w B0 O)(hB:B0≤w.heap.size){id:Nat}(hN:N id){t:TypeId}{vs:List AV}{us:Array Value}{e:bE}(hr:ak Z ψ h w vs us.toList)(h1:∀u∈us.toList,u.oneCell'=true)
  (hm:ax (fun i=>¬N i) vs) (bg:∀i ty cs,h i=some (.box ty cs)→ax (fun i=>¬N i) cs) (he:vE id t vs some=some e)
  (dk:(execOp ρC o).run P w=.ok (.value (.pointer (some ⟨w.heap.size,0,none⟩))) (w.alloc (.cells us t))):gI P ρC o Z ψ h w B0 O N e:=by
 unfold vE at he
 cases he
 have bq:∀i,¬N i→i≠id:=fun j hj e=>hj (by rw[e];exact hN)
 have n:=tX (N:=N) g hB id t hN hr h1 (fun i ty cs hb=>(bg i ty cs hb).imp bq) (hm.imp bq)
 refine⟨_,_,Z,_,.inl dk,by simp only[bE.hp];rw[hP];exact n,?_⟩
 simp only[bE.v,bE.hp,av]
 exact⟨_,rfl,fun _=>by rw[bh];simp[Sj]⟩
theorem LS{hh:Heap}{ρC:Operand→Value}{s:List (Nat×AV)}{o:Oper}(g:Good Z ψ h w B0 O)(hB:B0≤w.heap.size)(bz:∀id o,hh.get id=some o→h id=some o){id:Nat}(hN:N id){t:TypeId}{n:Nat}{ps:Array (Nat×Operand)}{e:bE}
  (m6:∀p∈ps.toList,av Z ψ h w (ρ s p.2) (ρC p.2)) (bg:∀i ty cs,h i=some (.box ty cs)→ax (fun i=>¬N i) cs) (kx:Bool) {e0:bE} (Sy:e=if kx then Si e0 else e0) (mT:∀v hw,e=.wr v hw→hh.get=h) (he:tN P hh id t n (ps.toList.map fun p=>(p.1,ρ s p.2)) some=some e0)
  (dk:∀V w',(Instr.buildSlice t n (ps.map fun p=>(p.1,ρC p.2))).run P w=.ok V w'→(execOp ρC o).run P w=.ok (.value V) w'):gI P ρC o Z ψ h w B0 O N e:=by
 have RT:∀i ty cs,h i=some (.box ty cs)→ax (fun i=>i≠id) cs:=fun i ty cs hb=>(bg i ty cs hb).imp (fun j hj e=>hj (by rw[e];exact hN))
 unfold tN at he
 split at he
 ·cases he
 ·rename_i et het
  have ht:=mR het
  split at he
  ·cases he
  ·rename_i k hk
   split at he
   ·cases he
   ·cases he
   ·rename_i xs nq kI
    obtain⟨inf,z,Ir⟩:=cv kI
    have I2:=zJ (Z:=Z) (ψ:=ψ) (h:=h) (w:=w) ps.toList m6 (fun p hp=>CR nq (p.1,ρ s p.2) (List.mem_map.2 ⟨p,hp,rfl⟩))
    have Kv:sd Z ψ hh.get w (ps.toList.map fun p=>(p.1,ρ s p.2)) (ps.map fun p=>(p.1,ρC p.2)).toList:=by
     rw[Array.toList_map];exact I2.pI bz
    split at he
    ·rename_i hc
     obtain⟨rfl,hn⟩:=hc
     cases qg:pU ((ps.toList.map fun p=>(p.1,ρ s p.2)).map (·.2)) with
     |true =>
      rw[qg]at he;cases he
      have adh:=qi qg
      obtain⟨V,w',h1,h2,h3⟩:=FJ (P:=P) (N:=N) g (g.sub bz) (fun _ h=>h) hB hN ht Ir (fun p hp i b hm=>absurd hm (adh p.2 (List.mem_map.2 ⟨p,hp,rfl⟩) i)) Kv nq hn RT
      cases kx with
      |false =>
       have Sy:e=.new (.bF id) [(id,.own (.row et k) xs)]:=Sy
       subst Sy
       refine⟨V,w',Z,_,.inl (dk V w' h1),by simp only[bE.hp];rw[hP];exact h2,?_⟩
       simp only[bE.v,bE.hp,av]
       exact⟨h3.1,fun _=>(bh _ _ _).symm⟩
      |true =>
       have Sy:e=.new (.sl true k xs) []:=Sy
       subst Sy
       obtain⟨m1,m2⟩:=NV g hB h2 h3.2.1 h3.2.2.1 h3.2.2.2
       have e1:(bE.new (.sl true k xs) []).hp h=h:=by funext i;simp[bE.hp,Heap.get]
       refine⟨V,w',_,_,.inl (dk V w' h1),by rw[e1];exact m1,?_⟩
       rw[e1];exact m2
     |false =>
      rw[qg]at he;cases he
      have Sy:e=.wr (.bF id) ((id,.own (.row et k) xs)::cz hh ((ps.toList.map fun p=>(p.1,ρ s p.2)).flatMap (·.2.cells))):=by
       rw[Sy];cases kx<;>rfl
      subst Sy
      have heq:=mT _ _ rfl
      subst heq
      let cs:=(ps.toList.map fun p=>(p.1,ρ s p.2)).flatMap (·.2.cells)
      have gd:=hM g cs
      obtain⟨V,w',h1,h2,h3⟩:=FJ (P:=P) (N:=N) gd g (fun b hb=>.inl hb) hB hN ht Ir (fun p hp i b hm bq hb=>.inr ⟨i,List.mem_flatMap.2 ⟨p,hp,hm⟩,bq,hb⟩) Kv nq hn (fun i ty cs' hb=>RT i ty cs' (dR _ _ _ _ hb))
      refine⟨V,w',pQ Z ψ hh.get cs,dM ψ id V,.inl (dk V w' h1),?_,?_⟩
      ·simp only[bE.hp]
       rw[zr]
       exact h2.drop (fun b hb=>.inl hb) (fun b hb=>hb.imp (fun h=>h) (fun⟨i,_,h5,h6⟩=>⟨i,h5,h6⟩)) (dR _ _)
      ·simp only[bE.v,bE.hp,av]
       exact⟨h3.1,fun _=>(bh _ _ _).symm⟩
    ·cases he
theorem LU{kx:Bool}{h:Heap}{id:Nat}{t:TypeId}{n:Nat}{ps:List (Nat×AV)}{e:bE}(he:vF P kx h id t n ps some=some e):∃e0,tN P h id t n ps some=some e0∧e=if kx then Si e0 else e0:=by
 unfold vF tN at he
 unfold tN
 split at he
 ·cases he
 split at he
 ·cases he
 split at he
 ·cases he
 ·cases he
 split at he
 ·rename_i hc
  rw[if_pos hc]
  cases qg:pU (ps.map (·.2)) with
  |true=>rw[qg]at he;exact⟨_,rfl,(Option.some.inj he).symm⟩
  |false=>rw[qg]at he;exact⟨_,rfl,(Option.some.inj he).symm⟩
 ·cases he
theorem zL(p:Nat→Prop)(v:Value):aE p (vw v):=by
 cases v with
 |pointer a=>simp only[vw];split<;>simp only[aE]
 |slice a n c=>simp only[vw];split<;>simp only[aE]
 |func fn first cap =>
  cases fn with
  |func f=>simp only[vw];split<;>simp only[aE,ax]
  |_=>simp only[vw,aE]
 |_=>simp only[vw,aE]
theorem vM(p:Nat→Prop):∀vs:List Value,ax p (vs.map vw)
 |[]=>by simp[ax]
 |v::r=>by simp only[List.map_cons,ax];exact⟨zL p v,vM p r⟩
theorem LV(p:Nat→Prop)(v:Value):ax p (sP v).cells:=by
 cases v with
 |agg cs=>simp only[sP,AV.cells];exact vM p _
 |_=>simp only[sP];rw[CM];simp only[ax];exact⟨zL p _,trivial⟩
theorem N4(B5:∀t k,Eqs t=some k→ly P t k){hh:Heap}{ρC:Operand→Value}{s:List (Nat×AV)}{o:Oper}(g:Good Z ψ h w B0 O)(hB:B0≤w.heap.size)(bz:∀id o,hh.get id=some o→h id=some o){id:Nat}(hN:makes o.op=true→N id){e:bE}
  (m6:∀x∈o.op.operands,av Z ψ h w (ρ s x) (ρC x)) (hm:∀x∈o.op.operands,aE (fun i=>¬N i) (ρ s x)) (bg:∀i ty cs,h i=some (.box ty cs)→ax (fun i=>¬N i) cs) (mT:∀v hw,e=.wr v hw→hh.get=h)
  (Ix:uf o=false) (he:cM P Eqs Sg F id hh s o some=some e):gI P ρC o Z ψ h w B0 O N e:=by
 obtain⟨dst,op,type,pos,after,guard⟩:=o
 have two:∀{a b:Operand},(∀x∈(#[a,b]:Array Operand),av Z ψ h w (ρ s x) (ρC x))→av Z ψ h w (ρ s a) (ρC a)∧av Z ψ h w (ρ s b) (ρC b):=fun hx=>⟨hx _ (by simp),hx _ (by simp)⟩
 cases op<;>simp only[cM]at he<;>simp only[Op.operands]at m6 hm<;>first|(cases he;done)|skip
 case move x=>cases he;exact gI.val g (V:=ρC x) (by simp[execOp]) (m6 x (by simp))
 case assign x=>cases he;exact gI.val g (V:=ρC x) (by simp[execOp]) (m6 x (by simp))
 case pick c a b =>
  have h1:=m6 c (by simp);have h2:=m6 a (by simp);have h3:=m6 b (by simp)
  split at he
  ·rename_i t ht
   cases he
   rw[ht]at h1
   simp only[av]at h1
   refine gI.val g (V:=if t then ρC a else ρC b) (by simp[execOp,h1,asBool]) ?_
   unfold Ug
   split
   ·rename_i p q hp hq
    rw[hp]at h2;rw[hq]at h3
    simp only[av]at h2 h3 ⊢
    cases t<;>simp[h2,h3]
   ·cases t
    ·exact h3
    ·exact h2
  ·cases he
 case alloc t =>
  split at he
  ·rename_i z hz
   obtain⟨i,zv,hi,Yc,rfl,h1⟩:=ot hz
   exact zK (us:=zv.cells) g hB (hN rfl) (zp zv) h1 (LV _ zv) bg he (by simp[execOp,Instr.alloc,tZ hi Yc,newVar,newRow,newObj,Sem.run])
  ·cases he
 case box t x =>
  have h1:=m6 x (by simp)
  split at he
  ·rename_i hp
   have hc:=h1.cells (FN hp)
   exact zK (us:=(ρC x).cells) g hB (hN rfl) hc (s6 hp hc) (hm x (by simp)).cells bg he (by simp[execOp,Instr.box,newVar,newRow,newObj,Sem.run])
  ·cases he
 case build t ps =>
  unfold qS at he
  split at he
  ·rename_i z fs hz hf
   split at he
   ·rename_i cs Yh fg
    cases he
    simp only[Bool.and_eq_true]at fg
    obtain⟨fg,hnn⟩:=fg
    have Yi:fs.toList.all (fun f=>(P.info? f.type).isSome)=true:=fg
    have VN:∀p∈ps.toList,av Z ψ h w (ρ s p.2) (ρC p.2):=fun p hp=>m6 p.2 (by simp;exact⟨p.1,by simpa using hp⟩)
    have I2:=zJ (Z:=Z) (ψ:=ψ) (h:=h) (w:=w) ps.toList VN (fun p hp=>I0 (List.all_eq_true.1 hnn (p.1,ρ s p.2) (List.mem_map.2 ⟨p,hp,rfl⟩)))
    obtain⟨V,h1,h2⟩:=LK (P:=P) (qs:=ps.map fun p=>(p.1,ρC p.2)) hz hf Yi (by rw[Array.toList_map];exact I2) Yh
    exact gI.val g (V:=V) (by simp only[execOp,Sem.run_bind];rw[h1];simp) h2
   ·cases he
  ·cases he
 case buildSlice t n ps =>
  have VN:∀p∈ps.toList,av Z ψ h w (ρ s p.2) (ρC p.2):=fun p hp=>m6 p.2 (by simp;exact⟨p.1,by simpa using hp⟩)
  obtain⟨e0,h0,h1⟩:=LU he
  exact LS g hB bz (hN rfl) VN bg (Ui Sg t _) h1 mT h0 (fun V w' h1=>by simp only[execOp,Sem.run_bind];rw[h1];simp)
 case load t a =>
  obtain⟨x,V,rfl,h1,h2⟩:=sZ g bz (m6 a (by simp)) he
  exact gI.val g (V:=V) (by simp[execOp,h1]) h2
 case store t a v =>
  obtain⟨h1,h2⟩:=two m6
  have hw:∃hw,e=.wr .no hw:=by
   obtain⟨hw,_,_,h3,_⟩:=w5 (P:=P) (N:=N) (g.sub bz) (h1.pI bz) (h2.pI bz) he
   exact⟨hw,h3⟩
  obtain⟨hw,rfl⟩:=hw
  have heq:=mT _ _ rfl
  subst heq
  obtain⟨IX,w',Z',h3,h4,h5⟩:=w5 (P:=P) (N:=N) g h1 h2 he
  cases h3
  exact⟨undef,w',Z',ψ,.inr ⟨by simp[execOp,h4],rfl⟩,h5,by simp only[bE.v,av]⟩
 case nilCheck x =>
  have h1:=m6 x (by simp)
  split at he
  ·rename_i id s i off hx
   cases he
   rw[hx]at h1
   have h2:=h1
   simp only[av]at h1
   obtain⟨a,ha,_⟩:=h1
   exact gI.val g (V:=ρC x) (by simp[execOp,ha]) h2
  ·rename_i k y off hx
   cases he
   rw[hx]at h1
   have h2:=h1
   simp only[av]at h1
   obtain⟨a,us,ha,_⟩:=h1
   exact gI.val g (V:=ρC x) (by simp[execOp,ha]) h2
  ·rename_i f cap hx
   cases he
   rw[hx]at h1
   have h2:=h1
   simp only[av]at h1
   obtain⟨vs,ha,_⟩:=h1
   exact gI.val g (V:=ρC x) (by simp[execOp,ha]) h2
  ·cases he
 case binOp op t x y yt =>
  obtain⟨h1,h2⟩:=two m6
  obtain⟨r,V,rfl,h3,h4⟩:=LP B5 (xo:=x) (yo:=y) h1 h2 he
  exact gI.val g (V:=V) (by simp only[execOp,Sem.run_bind]at h3 ⊢;rw[h3];simp) h4
 case unOp op t x =>
  have h1:=m6 x (by simp)
  cases op<;>simp only at he<;>first|(cases he;done)|skip
  split at he
  ·rename_i b hx
   cases he
   rw[hx]at h1
   simp only[av]at h1
   exact gI.val g (V:=.bool (!b)) (by simp[execOp,h1,Op.unary]) (by simp only[av])
  ·cases he
 case convert src dst x =>
  have h1:=m6 x (by simp)
  unfold zc at he
  split at he
  ·rename_i k1 k2 k3 n hs hd hx
   cases he
   rw[hx]at h1
   simp only[av]at h1
   exact gI.val g (V:=.int k2 (k2.wrap n)) (by simp[execOp,h1,convert,run_underlying hs,run_underlying hd,Conv.intToInt]) (by simp only[av])
  ·rename_i sv hs hd hx
   cases he
   rw[hx]at h1
   have h2:=h1
   simp only[av]at h1
   exact gI.val g (V:=ρC x) (by simp[execOp,h1,convert,run_underlying hs,run_underlying hd]) h2
  ·cases he
 case makeFunc fn first cap =>
  cases fn<;>simp only at he<;>first|(cases he;done)|skip
  rename_i f
  split at he
  ·rename_i hf
   cases he
   have h0:first=#[]:=Array.eq_empty_of_size_eq_zero hf
   subst h0
   have hl:∀l:List Operand,(∀x∈l,av Z ψ h w (ρ s x) (ρC x))→ak Z ψ h w (l.map (ρ s)) (l.map ρC):=by
    intro l
    induction l with
    |nil=>intro _;simp[ak]
    |cons a r ih=>intro ha;simp only[List.map_cons,ak];exact⟨_,_,rfl,ha a (by simp),ih (fun x hx=>ha x (List.mem_cons_of_mem _ hx))⟩
   exact gI.val g (V:=.func (.func f) #[] (cap.map ρC)) (by simp[execOp,Instr.makeFunc]) (by simp only[av];exact⟨_,rfl,by rw[Array.toList_map];exact hl _ (fun x hx=>m6 x (by simp;simpa using hx))⟩)
  ·cases he
 case slice t x lo hi mx =>
  have h1:=m6 x (by simp)
  have h2:dU Z ψ h w (lo.map (ρ s)) (lo.map ρC):=IZ (fun y hy=>m6 y (by subst hy;simp))
  have h3:dU Z ψ h w (hi.map (ρ s)) (hi.map ρC):=IZ (fun y hy=>m6 y (by subst hy;simp))
  have h4:dU Z ψ h w (mx.map (ρ s)) (mx.map ρC):=IZ (fun y hy=>m6 y (by subst hy;simp))
  split at he
  ·rename_i ht
   unfold vA at he
   split at he
   ·rename_i sv hx hmx
    split at he
    ·rename_i l u hb
     cases ho:aK sv.size l u with
     |false=>rw[ho]at he;cases he
     |true =>
      rw[ho]at he;cases he
      rw[hx]at h1
      simp only[av]at h1
      have Uk:mx=none:=by cases mx with
       |none=>rfl
       |some m=>simp at hmx
      subst Uk
      have dk:=s5 (P:=P) (w:=w) (b:=false) (Nat.le_refl sv.size) h2 h3 (mx:=none) (mx':=none) trivial hb ho (.inl rfl)
      exact gI.val g (V:=.string (Vw sv l u)) (by simp[execOp,Instr.sliceAt,Instr.slice,run_underlying ht,h1,dk,Vw]) (by simp only[av])
    ·cases he
   ·cases he
  ·rename_i et ht
   split at he
   ·rename_i VH
    obtain⟨V,Z',h5,h6,h7⟩:=FM (P:=P) (N:=N) g bz ht h1 h2 h3 h4 mT he VH
    exact⟨V,w,Z',ψ,.inl (by simp[execOp,h5]),h6,h7⟩
   ·cases he
  ·cases he
 case fieldAddr t x f =>
  have h1:=m6 x (by simp)
  split at he
  ·rename_i n ft id sz i off hf hx
   split at he
   ·cases he
   ·rename_i hc
    cases he
    rw[hx]at h1
    obtain⟨V,h2,h3⟩:=so (P:=P) hf hc h1
    exact gI.val g (V:=V) (by simp[execOp,h2]) h3
  ·rename_i n ft k y off hf hx
   split at he
   ·cases he
   ·rename_i hc
    cases he
    rw[hx]at h1
    obtain⟨V,h2,h3⟩:=ub (P:=P) hf hc h1
    exact gI.val g (V:=V) (by simp[execOp,h2]) h3
  ·cases he
 case field t x f =>
  have h1:=m6 x (by simp)
  split at he
  ·rename_i n ft cs hf hx
   split at he
   ·rename_i v hv
    cases he
    rw[hx]at h1
    obtain⟨V,h2,h3⟩:=FL (P:=P) hf h1 hv
    exact gI.val g (V:=V) (by simp[execOp,h2]) h3
   ·cases he
  ·cases he
 case indexAddr t x i =>
  obtain⟨h1,h2⟩:=two m6
  obtain⟨y,V,rfl,h3,h4⟩:=pf g bz h1 h2 he
  exact gI.val g (V:=V) (by simp[execOp,h3]) h4
 case index t x i =>
  obtain⟨h1,h2⟩:=two m6
  split at he
  ·rename_i sv ik n ht hx hi
   obtain⟨c,hc,RQ⟩:=Option.bind_eq_some_iff.1 he
   cases RQ
   rw[hx]at h1;rw[hi]at h2
   simp only[av]at h1 h2
   exact gI.val g (V:=.int .u8 (c.toNat:Int)) (by simp[execOp,Instr.index,asIntOf,run_underlying ht,h1,h2,hc]) (by simp only[av])
  ·cases he
 case extract t i =>
  have h1:=m6 t (by simp)
  split at he
  ·rename_i vs hx
   split at he
   ·rename_i v hv
    cases he
    rw[hx]at h1
    simp only[av]at h1
    obtain⟨us,hu,hl⟩:=h1
    obtain⟨u,h2,h3⟩:=hl.get i hv
    exact gI.val g (V:=u) (by simp[execOp,Instr.extract,hu,show us[i]? = some u by simpa using h2]) h3
   ·cases he
  ·cases he
 case makeMap t r =>
  cases r with
  |some r=>cases he
  |none =>
   simp only at he
   have RT:∀i ty cs,h i=some (.box ty cs)→ax (fun i=>i≠id) cs:=fun i ty cs hb=>(bg i ty cs hb).imp (fun j hj e=>hj (by rw[e];exact hN rfl))
   obtain⟨V,w',ψ',h1,h2,h3⟩:=Cg g hB (hN rfl) RT he
   exact⟨V,w',Z,ψ',.inl (by simp[execOp,h1]),h2,h3⟩
 case lookup t m i ok =>
  obtain⟨h1,h2⟩:=two m6
  obtain⟨y,V,rfl,h3,h4⟩:=Ea B5 g bz h1 h2 he
  exact gI.val g (V:=V) (by simp[execOp,h3]) h4
 case mapUpdate t m i v =>
  have h1:=m6 m (by simp);have h2:=m6 i (by simp);have h3:=m6 v (by simp)
  have hw:∃hw,e=.wr (.mI []) hw:=by
   obtain⟨hw,_,_,h4,_⟩:=uc (N:=N) B5 (g.sub bz) (h1.pI bz) (h2.pI bz) (h3.pI bz) he
   exact⟨hw,h4⟩
  obtain⟨hw,rfl⟩:=hw
  have heq:=mT _ _ rfl
  subst heq
  obtain⟨IX,w',Z',h4,h5,h6⟩:=uc (N:=N) B5 g h1 h2 h3 he
  cases h4
  exact⟨undef,w',Z',ψ,.inr ⟨by simp[execOp,h5],rfl⟩,h6,by simp only[bE.v,av,ak];exact⟨#[],rfl,rfl⟩⟩
 case range t x =>
  have RT:∀i ty cs,h i=some (.box ty cs)→ax (fun i=>i≠id) cs:=fun i ty cs hb=>(bg i ty cs hb).imp (fun j hj e=>hj (by rw[e];exact hN rfl))
  obtain⟨V,w',ψ',h1,h2,h3⟩:=Eb g hB (hN rfl) (m6 x (by simp)) RT he
  exact⟨V,w',Z,ψ',.inl (by simp[execOp,h1]),h2,h3⟩
 case next x b =>
  cases b with
  |false=>cases he
  |true =>
   obtain⟨V,w',h1,h2,h3⟩:=FQ (P:=P) (N:=N) (ty:=type) g bz (m6 x (by simp)) mT he
   exact⟨V,w',Z,ψ,.inl (by simp[execOp,h1]),h2,h3⟩
 case entry x =>
  obtain⟨y,V,rfl,h1,h2⟩:=FR (P:=P) g bz (m6 x (by simp)) he
  exact gI.val g (V:=V) (by simp[execOp,h1]) h2
 case call c =>
  obtain⟨callee,args,argTypes⟩:=c
  cases callee with
  |value f=>simp[uf]at Ix
  |invoke r m=>simp only at he;cases he
  |builtin b =>
   have kJ:∀x∈args.toList,av Z ψ h w (ρ s x) (ρC x):=fun x hx=>m6 x (by simp only[Call.operands];exact Array.mem_append.2 (.inr (by simpa using hx)))
   have N5:∀x∈args.toList,aE (fun i=>¬N i) (ρ s x):=fun x hx=>hm x (by simp only[Call.operands];exact Array.mem_append.2 (.inr (by simpa using hx)))
   obtain⟨args⟩:=args
   obtain⟨argTypes⟩:=argTypes
   simp only at he kJ N5
   cases b<;>simp only at he<;>first|(cases he;done)|skip
   case append =>
    split at he
    ·rename_i l1 l2 x y t t'
     split at he
     ·rename_i htt
      subst htt
      exact Ec g hB bz (hN rfl) (kJ x (by simp)) (kJ y (by simp)) (N5 x (by simp)) bg mT he (fun V w' h1=>by
       simp only[execOp,resolve,invoke,builtin,Sem.run_bind,Sem.run_pure,Result.andThen_ok,List.map_toArray,List.map_cons,List.map_nil,h1])
     ·cases he
    ·cases he
   case delete =>
    split at he
    ·rename_i l1 l2 m x t ts
     have h1:=kJ m (by simp);have h2:=kJ x (by simp)
     have hw:∃hw,e=.wr (.mI []) hw:=by
      obtain⟨hw,_,h4,_⟩:=ue (N:=N) (ty:=type) (ts:=ts) B5 (g.sub bz) (h1.pI bz) (h2.pI bz) he
      exact⟨hw,h4⟩
     obtain⟨hw,rfl⟩:=hw
     have heq:=mT _ _ rfl
     subst heq
     obtain⟨IX,w',h4,h5,h6⟩:=ue (N:=N) (ty:=type) (ts:=ts) B5 g h1 h2 he
     cases h4
     exact⟨.tuple #[],w',Z,ψ,.inl (by simp only[execOp,resolve,invoke,builtin,Sem.run_bind,Sem.run_pure,Result.andThen_ok,List.map_toArray,List.map_cons,List.map_nil,h5]),h6,by simp only[bE.v,av,ak];exact⟨#[],rfl,rfl⟩⟩
    ·cases he
   case len =>
    split at he
    ·rename_i l1 l2 x t
     split at he
     ·rename_i htm
      obtain⟨n,rfl,h1⟩:=IY (P:=P) (ty:=type) g bz htm (kJ x (by simp)) he
      exact gI.val g (V:=.int .i64 (n:Int)) (by simp only[execOp,resolve,invoke,builtin,Sem.run_bind,Sem.run_pure,Result.andThen_ok,List.map_toArray,List.map_cons,List.map_nil,h1]) (by simp only[av])
     split at he
     ·rename_i aF
      obtain⟨n,rfl,h1⟩:=LN g bz (kJ x (by simp)) he
      refine gI.val g (V:=.int .i64 (n:Int)) ?_ (by simp only[av])
      rcases h1 with⟨sv,h2,h3,rfl⟩|⟨A,c,h3⟩
      ·unfold Vx at aF
       rw[h2]at aF
       split at aF
       ·rename_i hu _
        simp[execOp,resolve,invoke,builtin,Builtin.len_,run_underlying hu,h3,goInt]
       ·cases aF
       ·rename_i h9;exact(h9 _ rfl).elim
       ·cases aF
      ·have hu:∃e,P.underlying t=some (.slice e):=by
        have h4:=kJ x (by simp)
        rw[h3]at h4
        unfold Vx at aF
        split at aF
        ·rename_i sv _ hxx
         rw[hxx]at h4;simp only[av]at h4;cases h4
        ·cases aF
        ·rename_i e _ hu _;exact⟨_,hu⟩
        ·cases aF
       obtain⟨e,hu⟩:=hu
       simp[execOp,resolve,invoke,builtin,Builtin.len_,run_underlying hu,h3,goInt]
     ·cases he
    ·cases he
   all_goals
    unfold LF at he
    split at he
    ·rename_i k a k' b Sz
     have hl:=congrArg List.length Sz
     simp only[List.length_map,List.length_cons,List.length_nil]at hl
     obtain⟨x,y,rfl⟩:=VM hl
     simp only[List.map_cons,List.map_nil,List.cons.injEq,and_true]at Sz
     have h1:=kJ x (by simp)
     have h2:=kJ y (by simp)
     rw[Sz.1]at h1;rw[Sz.2]at h2
     simp only[av]at h1 h2
     split at he
     ·rename_i hk
      subst hk
      cases he
      refine gI.val g (V:=bQ (.int _ _)) ?_ (jB _ _)
      first
       |(simp[execOp,resolve,invoke,builtin,Builtin.max_,Builtin.max2,h1,h2,bQ];simp only[Int.max_def];split<;>split<;>omega)
       |(simp[execOp,resolve,invoke,builtin,Builtin.min_,Builtin.min2,h1,h2,bQ];simp only[Int.min_def];split<;>split<;>omega)
     ·cases he
    ·cases he
end
end Go.Vs
namespace Go.Vs
variable {P:Program} {Z Z' Zf:Nat→Prop} {ψ ψ':Nat→Value} {h h':Hp} {w w':World} {B0:Nat} {O:Nat→Prop} {N:Nat→Prop}
abbrev w8:=Nat×Option Nat×Ob
def dy(L:List w8):Heap:=L.map fun e=>(e.1,e.2.2)
def jC(ψ:Nat→Value):Option Nat→Value
 |some s=>ψ s
 |none=>.slice none 0 0
def eE(ψ:Nat→Value):List w8→Nat→Value
 |[],_=>undef
 |(i,s,_)::r,n=>if i=n then jC ψ s else eE ψ r n
theorem nr{L:List w8}{i:Nat}{o:Ob}(hg:(dy L).get i=some o):∃s,(i,s,o)∈L:=by
 induction L with
 |nil=>simp[dy,Heap.get]at hg
 |cons e r ih =>
  obtain⟨j,s,o'⟩:=e
  simp only[dy,List.map_cons,Heap.get]at hg
  split at hg
  ·rename_i e;subst e;cases hg;exact⟨s,List.mem_cons_self⟩
  ·obtain⟨s',hs⟩:=ih hg;exact⟨s',List.mem_cons_of_mem _ hs⟩
theorem ml{i:Nat}{r:List Nat}(h:b4 (i::r)=true):i∉r∧b4 r=true:=by
 simp only[b4,Bool.and_eq_true,Bool.not_eq_true']at h
 exact⟨fun hm=>by rw[List.contains_iff_mem.2 hm]at h;simp at h,h.2⟩
theorem il{L:List w8}(hn:b4 (L.map (·.1))=true){i:Nat}{s:Option Nat}{o:Ob}(hm:(i,s,o)∈L):eE ψ L i=jC ψ s:=by
 induction L with
 |nil=>cases hm
 |cons e r ih =>
  obtain⟨j,s',o'⟩:=e
  obtain⟨h1,h2⟩:=ml hn
  simp only[eE]
  rcases List.mem_cons.1 hm with he|hm
  ·cases he;simp
  ·rw[if_neg,ih h2 hm]
   rintro rfl
   exact h1 (List.mem_map.2 ⟨_,hm,rfl⟩)
theorem SA{L:List w8}(hs:b4 (L.filterMap (·.2.1))=true){i j s:Nat}{o o':Ob}(h1:(i,some s,o)∈L)(h2:(j,some s,o')∈L):i=j∧o=o':=by
 induction L with
 |nil=>cases h1
 |cons e r ih =>
  obtain⟨k,s',o''⟩:=e
  have mem:∀{k:Nat} {o:Ob},(k,some s,o)∈r→s∈r.filterMap (·.2.1):=fun h=>List.mem_filterMap.2 ⟨_,h,rfl⟩
  rw[List.filterMap_cons]at hs
  cases s' with
  |none =>
   simp only[]at hs
   exact ih hs ((List.mem_cons.1 h1).resolve_left (by simp)) ((List.mem_cons.1 h2).resolve_left (by simp))
  |some s' =>
   simp only[]at hs
   obtain⟨h3,h4⟩:=ml hs
   rcases List.mem_cons.1 h1 with e1|m1<;>rcases List.mem_cons.1 h2 with e2|m2
   ·cases e1;cases e2;exact⟨rfl,rfl⟩
   ·cases e1;exact absurd (mem m2) h3
   ·cases e2;exact absurd (mem m1) h3
   ·exact ih h4 m1 m2
def FU:(ok:OK)→ok.T→Prop
 |.row _ _,xs=>xs=[]
 |_,_=>False
theorem FU.owns:∀{ok:OK} {xs:ok.T},FU ok xs→jq Z w ok (.slice none 0 0) xs
 |.row ty k,xs,h=>by
  have h:xs=[]:=h
  subst h
  exact⟨[],⟨by simp,.inl ⟨rfl,none,rfl⟩⟩,fun i x hx=>by simp at hx⟩
 |.map _ _,_,h=>h.elim
 |.iter _ _,_,h=>h.elim
 |.nc,_,h=>h.elim
def ug(Z:Nat→Prop)(ψ:Nat→Value)(h:Hp)(w:World)(h':Hp)(ψ':Nat→Value):w8→Prop
 |(_,some s,.own ok xs)=>h s=some (.own ok xs)
 |(_,none,.own ok xs)=>FU ok xs
 |(_,some s,.box ty cs')=>(∃cs,h s=some (.box ty cs))∧∀gg vs,ψ s=.pointer (some ⟨gg,0,none⟩)→w.heap[gg]? = some (.cells vs ty (0,0))→ak Z ψ' h' w cs' vs.toList
 |(_,none,.box _ _)=>False
theorem Good.rename(g:Good Z ψ h w B0 O){L:List w8}(hn:b4 (L.map (·.1))=true)(hs:b4 (L.filterMap (·.2.1))=true)(kI:∀e∈L,ug Z ψ h w (dy L).get (eE ψ L) e) :
  Good Z (eE ψ L) (dy L).get w B0 O:=by
 have src:∀id b,(dy L).get id≠none→ob (eE ψ L id)=some b→∃s o,(id,some s,o)∈L∧h s≠none∧ob (ψ s)=some b:=fun id b h1 h2=>by
  obtain⟨o,ho⟩:=Option.ne_none_iff_exists'.1 h1
  obtain⟨s,hm⟩:=nr ho
  rw[il hn hm]at h2
  cases s with
  |none=>simp[jC,ob]at h2
  |some s =>
   have h3:=kI _ hm
   refine⟨s,o,hm,?_,h2⟩
   cases o with
   |box ty cs=>obtain⟨⟨cs0,h4⟩,_⟩:=h3;rw[h4];simp
   |own ok xs=>rw[show h s=some (.own ok xs) from h3];simp
 refine⟨fun id ty cs hb=>?_,fun id ok xs hb=>?_,fun id b h1 h2=>?_,fun id me b h1 h2 h3 h4=>?_,g.jx⟩
 ·obtain⟨s,hm⟩:=nr hb
  have h3:=kI _ hm
  rw[il hn hm]
  cases s with
  |none=>exact h3.elim
  |some s =>
   obtain⟨⟨cs0,h4⟩,h5⟩:=h3
   obtain⟨gg,vs,h6,h7,h8,h9⟩:=g.box s ty cs0 h4
   exact⟨gg,vs,h6,h7,h5 gg vs h6 h7,h9⟩
 ·obtain⟨s,hm⟩:=nr hb
  have h3:=kI _ hm
  rw[il hn hm]
  cases s with
  |none=>exact FU.owns h3
  |some s=>exact g.row s ok xs h3
 ·obtain⟨s,o,hm,h3,h4⟩:=src id b h1 h2
  exact g.live s b h3 h4
 ·obtain⟨s,o,hm,h5,h6⟩:=src id b h1 h3
  obtain⟨s',o',SB,h5',h6'⟩:=src me b h2 h4
  have:=g.apart s s' b h5 h5' h6 h6'
  subst this
  exact(SA hs hm SB).1
def yk(hh:Heap)(i:Nat):List AV:=match hh.get i with
 |some (.box _ cs)=>cs
 |_=>[]
def dE:(dh:List CK)→Nat→List AV→pS dh→List w8
 |[],_,_,_=>[]
 |.val k::r,n,cs,x=>dE r (n+1) (cs.drop k.sz) x.2
 |.own ok::r,n,cs,x=>(n,(og (cs.headD .no)).head?,.own ok x.1)::dE r (n+1) cs.tail x.2
def dI:(b:BK)→Heap→Nat→Nat→Nat→b.T→List w8
 |.box ty c,hh,i,i',n,x=>(i',some i,.box ty (aA c n x))::dE c n (yk hh i) x
 |.own ok,_,i,i',_,x=>[(i',some i,.own ok x)]
def cr:(bs:List BK)→Heap→List Nat→List Nat→Nat→vx bs→List w8
 |b::r,hh,i::is,i'::is',n,x=>dI b hh i i' n x.1++cr r hh is is' (n+16) x.2
 |_,_,_,_,_,_=>[]
theorem mn:∀(dh:List CK) (n:Nat) (cs:List AV) (x:pS dh),dy (dE dh n cs x)=aT dh n x
 |[],_,_,_=>rfl
 |.val k::r,n,cs,x=>mn r (n+1) _ x.2
 |.own ok::r,n,cs,x=>by simp only[dE,aT,dy,List.map_cons];rw[←mn r (n+1) cs.tail x.2];rfl
theorem kQ:∀(dh:List CK) (n:Nat) (cs:List AV) (x:pS dh),(dE dh n cs x).map (·.1)=cc dh n
 |[],_,_,_=>rfl
 |.val k::r,n,cs,x=>kQ r (n+1) _ x.2
 |.own ok::r,n,cs,x=>by simp only[dE,cc,List.map_cons];rw[kQ r (n+1) cs.tail x.2]
theorem vN(c:AV):(og c).head?.toList=og c:=by cases c<;>rfl
theorem dJ{α β:Type}(f:α→Option β)(a:α)(l:List α):(a::l).filterMap f=(f a).toList++l.filterMap f:=by
 rw[List.filterMap_cons];cases f a<;>rfl
theorem ow{k:K}{r:List CK}{hh:Heap}{cs:List AV}{x:pS (.val k::r)}(hd:cF (.val k::r) hh cs=some x):dB k ((cs.take k.sz).map (cE hh))=some x.1∧cF r hh (cs.drop k.sz)=some x.2:=by
 have e:cF (.val k::r) hh cs=(match dB k ((cs.take k.sz).map (cE hh)),cF r hh (cs.drop k.sz) with
  |some x,some y=>some ((x,y):k.T×pS r)
  |_,_=>none):=by cases cs<;>rfl
 rw[e]at hd
 clear e
 generalize dB k ((cs.take k.sz).map (cE hh))=o1 at hd ⊢
 generalize cF r hh (cs.drop k.sz)=o2 at hd ⊢
 cases o1 with
 |none=>cases hd
 |some x1 =>
  cases o2 with
  |none=>cases hd
  |some y1=>have:=Option.some.inj hd;subst this;exact⟨rfl,rfl⟩
theorem lz{ok:OK}{r:List CK}{hh:Heap}{cs:List AV}{x:pS (.own ok::r)}(hd:cF (.own ok::r) hh cs=some x):∃c cs',cs=c::cs'∧dN hh ok c=some x.1∧cF r hh cs'=some x.2:=by
 cases cs with
 |nil=>cases hd
 |cons c cs =>
  refine⟨c,cs,rfl,?_⟩
  have e:cF (.own ok::r) hh (c::cs)=(match dN hh ok c,cF r hh cs with
   |some x,some y=>some ((x,y):ok.T×pS r)
   |_,_=>none):=rfl
  rw[e]at hd
  clear e
  generalize dN hh ok c=o1 at hd ⊢
  generalize cF r hh cs=o2 at hd ⊢
  cases o1 with
  |none=>cases hd
  |some x1 =>
   cases o2 with
   |none=>cases hd
   |some y1=>have:=Option.some.inj hd;subst this;exact⟨rfl,rfl⟩
theorem ox:∀(dh:List CK) (n:Nat) (hh:Heap) (cs:List AV) (x:pS dh),cF dh hh cs=some x→(dE dh n cs x).filterMap (·.2.1)=fC dh cs
 |[],_,_,cs,_,_=>by cases cs<;>rfl
 |.val k::r,n,hh,cs,x,hd=>by
  obtain⟨_,h2⟩:=ow hd
  have e:fC (.val k::r) cs=fC r (cs.drop k.sz):=by cases cs<;>rfl
  rw[e]
  exact ox r (n+1) hh _ x.2 h2
 |.own ok::r,n,hh,cs,x,hd=>by
  obtain⟨c,cs',rfl,_,h2⟩:=lz hd
  simp only[dE,fC]
  rw[dJ]
  simp only[List.headD_cons,List.tail_cons]
  rw[vN,ox r (n+1) hh cs' x.2 h2]
theorem lA{hh:Heap}{ok:OK}{c:AV}{xs:ok.T}(ho:dN hh ok c=some xs):(c=.fJ∧FU ok xs)∨∃id,c=.bF id∧hh.get id=some (.own ok xs):=by
 unfold dN at ho
 split at ho
 ·cases ok with
  |row _ _=>cases ho;exact .inl ⟨rfl,rfl⟩
  |_=>cases ho
 ·rename_i id
  split at ho
  ·rename_i xO k' X9 hg
   split at ho
   ·rename_i e
    subst e
    cases ho
    exact .inr ⟨id,rfl,hg⟩
   ·cases ho
  ·cases ho
 ·cases ho
theorem Ed{hh:Heap}{ok:OK}{c:AV}{xs:ok.T}{v:Value}(ho:dN hh ok c=some xs)(hr:av Z ψ hh.get w c v){n:Nat}(iJ:h' n≠none→ψ' n=jC ψ (og c).head?):av Z' ψ' h' w' (.bF n) v:=by
 rcases lA ho with⟨rfl,_⟩|⟨id,rfl,hg⟩
 ·simp only[av]at hr ⊢
  subst hr
  exact⟨⟨rfl,rfl⟩,fun hn=>(iJ hn).symm⟩
 ·simp only[av]at hr ⊢
  refine⟨hr.1,fun hn=>?_⟩
  rw[iJ hn]
  exact hr.2 (by rw[hg];simp)
theorem q9{hh:Heap}(g:Good Z ψ hh.get w B0 O)(hz:∀b,Z b→Z' b):∀(dh:List CK) (n:Nat) (cs:List AV) (x:pS dh) (vs:List Value),cF dh hh cs=some x →
  (∀id b,AV.bF id∈o8 dh cs→hh.get id≠none→ob (ψ id)=some b→Z' b)→(∀e∈dE dh n cs x,h' e.1≠none→ψ' e.1=jC ψ e.2.1) →
  ak Z ψ hh.get w cs vs→ak Z' ψ' h' w (aA dh n x) vs
 |[],n,cs,x,vs,hd,_,_,hr=>by
  cases cs with
  |nil=>simpa only[aA,ak] using hr
  |cons c cs=>cases hd
 |.val k::r,n,cs,x,vs,hd,hf,iJ,hr=>by
  obtain⟨h1,h2⟩:=ow hd
  have e:o8 (.val k::r) cs=cs.take k.sz++o8 r (cs.drop k.sz):=by cases cs<;>rfl
  rw[e]at hf
  have qV:ak Z ψ hh.get w (cs.take k.sz++cs.drop k.sz) vs:=by rw[List.take_append_drop];exact hr
  obtain⟨us,ws,rfl,h3,h4⟩:=ak.split qV
  simp only[aA]
  have h5:=np (Z':=Z') g hz (fun id b bL=>hf id b (List.mem_append_left _ bL)) h3
  exact ak.append (fZ (dC h1 h5)) (q9 g hz r (n+1) (cs.drop k.sz) x.2 ws h2 (fun id b bL=>hf id b (List.mem_append_right _ bL)) iJ h4)
 |.own ok::r,n,cs,x,vs,hd,hf,iJ,hr=>by
  obtain⟨c,cs',rfl,h1,h2⟩:=lz hd
  simp only[ak]at hr
  obtain⟨v,us,rfl,h3,h4⟩:=hr
  simp only[aA,ak]
  refine⟨v,us,rfl,Ed h1 h3 (fun hn=>iJ (n,_,_) (by simp only[dE];exact List.mem_cons_self) hn),?_⟩
  exact q9 g hz r (n+1) cs' x.2 us h2 hf (fun e he=>iJ e (by simp only[dE];exact List.mem_cons_of_mem _ he)) h4
theorem eX{b:BK}{r:List BK}{hh:Heap}{i:Nat}{is:List Nat}{x:vx (b::r)}(hd:cU (b::r) hh (i::is)=some x):o9 b hh i=some x.1∧cU r hh is=some x.2:=by
 have e:cU (b::r) hh (i::is)=(match o9 b hh i,cU r hh is with
   |some x,some y=>some ((x,y):b.T×vx r)
   |_,_=>none):=rfl
 rw[e]at hd
 clear e
 generalize o9 b hh i=o1 at hd ⊢
 generalize cU r hh is=o2 at hd ⊢
 cases o1 with
 |none=>cases hd
 |some x1 =>
  cases o2 with
  |none=>cases hd
  |some y1=>have:=Option.some.inj hd;subst this;exact⟨rfl,rfl⟩
theorem rf{ty:TypeId}{c:List CK}{hh:Heap}{i:Nat}{x:pS c}(hd:o9 (.box ty c) hh i=some x):∃cs,hh.get i=some (.box ty cs)∧cF c hh cs=some x:=by
 simp only[o9]at hd
 cases hb:CG hh i ty with
 |none=>rw[hb]at hd;cases hd
 |some cs =>
  rw[hb]at hd
  refine⟨cs,?_,hd⟩
  unfold CG at hb
  split at hb
  ·rename_i xO cs' hg
   split at hb
   ·rename_i e;cases hb;rw[hg,e]
   ·cases hb
  ·cases hb
theorem jD{hh:Heap}{ok:OK}{i:Nat}{x:ok.T}(h:dN hh ok (.bF i)=some x):hh.get i=some (.own ok x):=by
 rcases lA h with⟨h,_⟩|⟨id,h,hg⟩
 ·cases h
 ·cases h;exact hg
theorem CT{ok:OK}{hh:Heap}{i:Nat}{x:ok.T}(hd:o9 (.own ok) hh i=some x):hh.get i=some (.own ok x):=jD hd
theorem oy{hh:Heap}{i:Nat}{ty:TypeId}{cs:List AV}(hg:hh.get i=some (.box ty cs)):yk hh i=cs:=by unfold yk;rw[hg]
theorem Ee(b:BK){hh:Heap}{i i' n:Nat}(x:b.T):dy (dI b hh i i' n x)=iM b i' n x:=by
 cases b with
 |box ty c=>simp only[dI,iM];rw[←mn c n (yk hh i) x];simp[dy]
 |own ok=>simp[dI,iM,dy]
theorem Ci(b:BK){hh:Heap}{i i' n:Nat}(x:b.T):(dI b hh i i' n x).map (·.1)=i'::cc b.dh n:=by
 cases b with
 |box ty c=>simp only[dI,List.map_cons,BK.dh];rw[kQ]
 |own ok=>simp[dI,BK.dh,cc]
theorem FV(b:BK){hh:Heap}{i i' n:Nat}{x:b.T}(hd:o9 b hh i=some x):(dI b hh i i' n x).filterMap (·.2.1)=jS b hh i:=by
 cases b with
 |box ty c =>
  obtain⟨cs,h1,h2⟩:=rf hd
  simp only[dI,jS]
  rw[dJ,oy h1,ox c n hh cs x h2,h1]
  rfl
 |own ok=>simp[dI,jS]
theorem iR:∀(bs:List BK) (hh:Heap) (is is':List Nat) (n:Nat) (x:vx bs),cU bs hh is=some x→is'.length=bs.length→dy (cr bs hh is is' n x)=bu bs is' n x
 |[],hh,is,is',n,x,_,hl=>by cases is'<;>simp[cr,bu,dy]
 |b::r,hh,[],is',n,x,hd,_=>by cases hd
 |b::r,hh,i::is,[],n,x,_,hl=>by simp at hl
 |b::r,hh,i::is,i'::is',n,x,hd,hl=>by
  obtain⟨_,h3⟩:=eX hd
  have ih:=iR r hh is is' (n+16) x.2 h3 (by simpa using hl)
  simp only[cr,bu]
  rw[←ih,←Ee b (hh:=hh) (i:=i) x.1]
  simp[dy]
theorem gK:∀(bs:List BK) (hh:Heap) (is is':List Nat) (n:Nat) (x:vx bs),cU bs hh is=some x→is'.length=bs.length→(cr bs hh is is' n x).map (·.1)=bW bs is' n
 |[],hh,is,is',n,x,_,hl=>by cases is'<;>simp[cr,bW]
 |b::r,hh,[],is',n,x,hd,_=>by cases hd
 |b::r,hh,i::is,[],n,x,_,hl=>by simp at hl
 |b::r,hh,i::is,i'::is',n,x,hd,hl=>by
  obtain⟨_,h3⟩:=eX hd
  have ih:=gK r hh is is' (n+16) x.2 h3 (by simpa using hl)
  simp only[cr,bW,List.map_append]
  rw[ih,Ci,List.cons_append]
theorem j0:∀(bs:List BK) (hh:Heap) (is is':List Nat) (n:Nat) (x:vx bs),cU bs hh is=some x→is'.length=bs.length→(cr bs hh is is' n x).filterMap (·.2.1)=cV bs hh is
 |[],hh,is,is',n,x,_,hl=>by cases is'<;>cases is<;>simp[cr,cV]
 |b::r,hh,[],is',n,x,hd,_=>by cases hd
 |b::r,hh,i::is,[],n,x,_,hl=>by simp at hl
 |b::r,hh,i::is,i'::is',n,x,hd,hl=>by
  obtain⟨h1,h3⟩:=eX hd
  have ih:=j0 r hh is is' (n+16) x.2 h3 (by simpa using hl)
  simp only[cr,cV]
  rw[List.filterMap_append,ih,FV b h1]
theorem rh{hd:Hp}{hh:Heap}:∀(dh:List CK) (n:Nat) (cs:List AV) (x:pS dh),cF dh hh cs=some x→(∀s∈fC dh cs,hd s=hh.get s)→∀e∈dE dh n cs x,ug Z ψ hd w h' ψ' e
 |[],n,cs,x,_,_,e,he=>by simp[dE]at he
 |.val k::r,n,cs,x,RU,hk,e,he=>by
  obtain⟨_,h2⟩:=ow RU
  have e0:fC (.val k::r) cs=fC r (cs.drop k.sz):=by cases cs<;>rfl
  rw[e0]at hk
  exact rh r (n+1) _ x.2 h2 hk e he
 |.own ok::r,n,cs,x,RU,hk,e,he=>by
  obtain⟨c,cs',rfl,h1,h2⟩:=lz RU
  simp only[dE,List.headD_cons,List.tail_cons]at he
  simp only[fC]at hk
  rcases List.mem_cons.1 he with rfl|he
  ·rcases lA h1 with⟨rfl,h3⟩|⟨id,rfl,h3⟩
   ·exact h3
   ·show hd id=some (.own ok x.1)
    rw[hk id (List.mem_append_left _ (by simp[og])),h3]
  ·exact rh r (n+1) cs' x.2 h2 (fun s hs=>hk s (List.mem_append_right _ hs)) e he
theorem I3{hd:Hp}{hh:Heap}(g:Good Z ψ hh.get w B0 O)(hz:∀b,Z b→Z' b)(b:BK){i i' n:Nat}{x:b.T}(RU:o9 b hh i=some x)
  (hf:∀id g,AV.bF id∈yX b hh i→hh.get id≠none→ob (ψ id)=some g→Z' g) (hk:∀s∈jS b hh i,hd s=hh.get s) (iJ:∀e∈dI b hh i i' n x,h' e.1≠none→ψ' e.1=jC ψ e.2.1) :
  ∀e∈dI b hh i i' n x,ug Z' ψ hd w h' ψ' e:=by
 intro e he
 cases b with
 |box ty c =>
  obtain⟨cs,h1,h2⟩:=rf RU
  simp only[yX,jS,h1]at hf hk
  have VO:∀e∈dE c n cs x,h' e.1≠none→ψ' e.1=jC ψ e.2.1:=fun e he=>iJ e (by simp only[dI];rw[oy h1];exact List.mem_cons_of_mem _ he)
  simp only[dI]at he
  rcases List.mem_cons.1 he with rfl|he
  ·refine⟨⟨cs,by rw[hk i List.mem_cons_self,h1]⟩,fun gg vs h4 h5=>?_⟩
   obtain⟨gg',gL,h6,h7,h8,_⟩:=g.box i ty cs h1
   rw[h6]at h4
   cases h4
   rw[h5]at h7
   cases h7
   exact q9 g hz c n cs x _ h2 hf VO h8
  ·rw[oy h1]at he
   exact rh c n cs x h2 (fun s hs=>hk s (List.mem_cons_of_mem _ hs)) e he
 |own ok =>
  have h1:=CT RU
  simp only[dI,List.mem_singleton]at he
  subst he
  show hd i=some (.own ok x)
  rw[hk i (by simp[jS]),h1]
theorem lB{hd:Hp}{hh:Heap}(g:Good Z ψ hh.get w B0 O)(hz:∀b,Z b→Z' b):∀(bs:List BK) (is is':List Nat) (n:Nat) (x:vx bs),cU bs hh is=some x →
  (∀id b,AV.bF id∈fL bs hh is→hh.get id≠none→ob (ψ id)=some b→Z' b)→(∀s∈cV bs hh is,hd s=hh.get s)→(∀e∈cr bs hh is is' n x,h' e.1≠none→ψ' e.1=jC ψ e.2.1) →
  ∀e∈cr bs hh is is' n x,ug Z' ψ hd w h' ψ' e
 |[],is,is',n,x,_,_,_,_,e,he=>by simp[cr]at he
 |b::r,[],is',n,x,RU,_,_,_,e,he=>by cases RU
 |b::r,i::is,[],n,x,_,_,_,_,e,he=>by simp[cr]at he
 |b::r,i::is,i'::is',n,x,RU,hf,hk,iJ,e,he=>by
  obtain⟨h1,h3⟩:=eX RU
  simp only[fL,cV]at hf hk
  simp only[cr]at he iJ
  rcases List.mem_append.1 he with he|he
  ·exact I3 g hz b h1 (fun id g bL=>hf id g (List.mem_append_left _ bL)) (fun s hs=>hk s (List.mem_append_left _ hs)) (fun e he=>iJ e (List.mem_append_left _ he)) e he
  ·exact lB g hz r is is' (n+16) x.2 h3 (fun id b bL=>hf id b (List.mem_append_right _ bL)) (fun s hs=>hk s (List.mem_append_right _ hs)) (fun e he=>iJ e (List.mem_append_right _ he)) e he
theorem ri{kept:List Nat}{kx:List AV}(hk:vD kept kx=true):b4 kept=true∧∀(hh:Heap) s,s∈kept→(cz hh kx).get s=hh.get s:=by
 unfold vD at hk
 rw[Bool.and_eq_true]at hk
 exact⟨hk.1,fun hh s hs=>oo _ _ _ (qZ (List.all_eq_true.1 hk.2 s hs))⟩
theorem vO{hh:Heap}{kx:List AV}{kept:List Nat}(g:Good Z ψ hh.get w B0 O)(hk:vD kept kx=true){L:List w8}(hn:b4 (L.map (·.1))=true)(hs:L.filterMap (·.2.1)=kept)
  (kI:∀e∈L,ug (pQ Z ψ hh.get kx) ψ (cz hh kx).get w (dy L).get (eE ψ L) e):Good (pQ Z ψ hh.get kx) (eE ψ L) (dy L).get w B0 O :=
 (hM g kx).rename hn (by rw[hs];exact(ri hk).1) kI
theorem yl{L:List w8}(hn:b4 (L.map (·.1))=true):∀e∈L,(dy L).get e.1≠none→eE ψ L e.1=jC ψ e.2.1:=fun⟨i,s,o⟩ he _=>il hn he
theorem mo(A B:List w8):dy (A++B)=dy A++dy B:=by simp[dy]
theorem ym{hh:Heap}{i s i':Nat}{v:Value}(hr:av Z ψ hh.get w (.ref i s 0 0) v)(hi:hh.get i≠none)(iJ:h' i'≠none→ψ' i'=ψ i):av Z' ψ' h' w' (.ref i' 0 0 0) v:=by
 simp only[av]at hr ⊢
 obtain⟨a,rfl,ha⟩:=hr
 refine⟨a,rfl,fun hn=>?_⟩
 rw[iJ hn,ha hi]
 simp
theorem oz{v:AV}{i:Nat}(h:CH v=some i):∃s,v=.ref i s 0 0:=by
 unfold CH at h
 split at h
 ·cases h;exact⟨_,rfl⟩
 ·cases h
theorem iS{hh:Heap}:∀(bs:List BK) (is:List Nat) (x:vx bs),cU bs hh is=some x→is.length=bs.length∧∀i∈is,hh.get i≠none
 |[],[],_,_=>⟨rfl,fun i hi=>by cases hi⟩
 |[],_::_,_,h=>by cases h
 |_::_,[],_,h=>by cases h
 |b::r,i::is,x,h=>by
  obtain⟨h1,h3⟩:=eX h
  obtain⟨h4,h5⟩:=iS r is x.2 h3
  refine⟨by simp[h4],fun j hj=>?_⟩
  rcases List.mem_cons.1 hj with rfl|hj
  ·cases b with
   |box ty c=>obtain⟨cs,h1,_⟩:=rf h1;rw[h1];simp
   |own ok=>rw[CT h1];simp
  ·exact h5 j hj
theorem j4{hh:Heap}:∀(bs:List BK) (is is':List Nat) (n:Nat) (x:vx bs),is.length=bs.length→∀p∈is.zip is',∃o,(p.2,some p.1,o)∈cr bs hh is is' n x
 |[],is,is',n,x,hl,p,hp=>by
  cases is with
  |nil=>simp at hp
  |cons a r=>simp at hl
 |b::r,[],is',n,x,hl,p,hp=>by simp at hp
 |b::r,i::is,[],n,x,hl,p,hp=>by simp at hp
 |b::r,i::is,i'::is',n,x,hl,p,hp=>by
  simp only[List.zip_cons_cons]at hp
  simp only[cr]
  rcases List.mem_cons.1 hp with rfl|hp
  ·cases b with
   |box ty c=>exact⟨_,List.mem_append_left _ (by simp only[dI];exact List.mem_cons_self)⟩
   |own ok=>exact⟨_,List.mem_append_left _ (by simp only[dI];exact List.mem_cons_self)⟩
  ·obtain⟨o,ho⟩:=j4 r is is' (n+16) x.2 (by simpa using hl) p hp
   exact⟨o,List.mem_append_right _ ho⟩
theorem Kw{hd:Hp}{hh:Heap}{ok:OK}{c:AV}{xs:ok.T}(ho:dN hh ok c=some xs)(hk:∀s∈og c,hd s=hh.get s){n:Nat}:ug Z ψ hd w h' ψ' (n,(og c).head?,.own ok xs):=by
 rcases lA ho with⟨rfl,h3⟩|⟨id,rfl,h3⟩
 ·exact h3
 ·show hd id=some (.own ok xs)
  rw[hk id (by simp[og]),h3]
end Go.Vs
namespace Go.Vs
variable {P:Program} {Z Z':Nat→Prop} {ψ ψ':Nat→Value} {h h':Hp} {w w':World} {B0:Nat} {O:Nat→Prop} {N:Nat→Prop}
def fQ:Hp:=fun _=>none
def Iy:Nat→Value:=fun _=>undef
def CU(g:aJ)(x:Fy (kz g.ps)):List AV:=(aO g.ps [] 0 x).map (·.2)
def Yj(P:Program)(f:FuncId)(g:aJ)(x:g.A)(y:g.B):Prop :=
 ∀(Z:Nat→Prop) (w:World) (j5:List Value),(∀b,Z b→b<w.heap.size)→ak Z Iy fQ w (CU g x.1) j5 →
  Calls P (f%1000) j5.toArray w fun e w'=>∃v Z' ψ',e=.returned v∧(∀b,Z b→Z' b)∧(∀b,Z' b→Z b∨w.heap.size≤b)∧cW Iy fQ w w' ∧
   Good Z' ψ' (ai g.rs 3000 y.1).get w' w.heap.size (fun _=>False)∧av Z' ψ' (ai g.rs 3000 y.1).get w' (eQ (aP g.rs [] 2000 3000 y.1)) v
theorem w9{p:PK}{ps:List PK}{vs:List AV}(hi:cx (p::ps) vs=some []):∃a r,vs=a::r∧cx ps r=some []∧(p≠.ref∧p≠.own)∧(∀f n,p=.Fp f n→a=.fn f [])∧(∀n,p=.agg n→a=.agg []):=by
 cases vs with
 |nil=>cases p<;>simp[cx]at hi
 |cons a r =>
  cases p with
  |val k=>exact⟨a,r,rfl,by simpa only[cx] using hi,by simp,by simp,by simp⟩
  |ref =>
   simp only[cx]at hi
   split at hi<;>simp at hi
  |own =>
   cases a<;>simp only[cx]at hi<;>first|(cases hi;done)|skip
   split at hi<;>simp at hi
  |Fp f n =>
   cases a<;>simp only[cx]at hi<;>first|(cases hi;done)|skip
   rename_i f' cap
   split at hi
   ·rename_i hc
    obtain⟨rfl,tI⟩:=hc
    split at hi
    ·rename_i a1 b1 h1 h2
     simp only[Option.some.injEq,List.append_eq_nil_iff]at hi
     obtain⟨rfl,rfl⟩:=hi
     have VB:cap=[]:=by
      cases cap with
      |nil=>rfl
      |cons c cs=>simp only[ju]at h1;split at h1<;>simp at h1
     subst VB
     exact⟨_,r,rfl,h2,by simp,by rintro f n ⟨⟩;rfl,by simp⟩
    ·cases hi
   ·cases hi
  |agg n =>
   cases a<;>simp only[cx]at hi<;>first|(cases hi;done)|skip
   rename_i cs
   split at hi
   ·split at hi
    ·rename_i a1 b1 h1 h2
     simp only[Option.some.injEq,List.append_eq_nil_iff]at hi
     obtain⟨rfl,rfl⟩:=hi
     have LL:cs=[]:=by
      cases cs with
      |nil=>rfl
      |cons c cs=>cases c<;>simp only[oi]at h1<;>first|(cases h1;done)|(split at h1<;>simp at h1)
     subst LL
     exact⟨_,r,rfl,h2,by simp,by simp,fun _ _=>rfl⟩
    ·cases hi
   ·cases hi
theorem xc{k:K}{ps:List PK}{hh:Heap}{a:AV}{r:List AV}{x:k.T×Fy (kz ps)}(hv:ed (.val k::ps) hh (a::r)=some x):fF k hh a=some x.1∧ed ps hh r=some x.2:=by
 have e:ed (.val k::ps) hh (a::r)=(match fF k hh a,ed ps hh r with
  |some x,some y=>some ((x,y):k.T×Fy (kz ps))
  |_,_=>none):=rfl
 rw[e]at hv
 clear e
 generalize fF k hh a=o1 at hv ⊢
 generalize ed ps hh r=o2 at hv ⊢
 cases o1 with
 |none=>cases hv
 |some x1 =>
  cases o2 with
  |none=>cases hv
  |some y1 =>
   have:=Option.some.inj hv
   subst this
   exact⟨rfl,rfl⟩
theorem zM{hh:Heap}(g:Good Z ψ hh.get w B0 O)(hz:∀b,Z b→Z' b)(ps:List PK):∀(s:Nat) (vs:List AV) (us:List Value) (x:Fy (kz ps)),(∀v∈vs,∀id b,AV.bF id∈v.cells→hh.get id≠none→ob (ψ id)=some b→Z' b) →
  cx ps vs=some []→ed ps hh vs=some x→ak Z ψ hh.get w vs us→ak Z' Iy fQ w ((aO ps [] s x).map (·.2)) us:=by
 induction ps with
 |nil =>
  intro s vs us x _ hi hv hr
  cases vs with
  |nil=>simpa only[aO,List.map_nil,ak] using hr
  |cons a r=>simp[cx]at hi
 |cons p ps ih =>
  intro s vs us x hb hi hv hr
  obtain⟨a,r,rfl,sW,SC,VP,VQ⟩:=w9 hi
  simp only[ak]at hr
  obtain⟨u,iF,rfl,h3,h4⟩:=hr
  cases p with
  |val k =>
   obtain⟨h1,h2⟩:=xc hv
   simp only[aO,List.map_cons,ak]
   exact⟨u,iF,rfl,q6 (Z':=Z') (ψ':=Iy) (h':=fQ) g hz (hb a List.mem_cons_self) h1 h3,ih (s+1) r iF x.2 (fun v hv=>hb v (List.mem_cons_of_mem _ hv)) sW h2 h4⟩
  |ref=>exact absurd rfl SC.1
  |own=>exact absurd rfl SC.2
  |Fp f n =>
   have ha:=VP f n rfl
   subst ha
   have h2:ed ps hh r=some x:=hv
   simp only[aO,List.map_cons,ak,List.take_nil,List.map_nil,List.drop_nil]
   simp only[av,ak]at h3 ⊢
   exact⟨u,iF,rfl,h3,ih (s+1) r iF x (fun v hv=>hb v (List.mem_cons_of_mem _ hv)) sW h2 h4⟩
  |agg n =>
   have ha:=VQ n rfl
   subst ha
   have h2:ed ps hh r=some x:=hv
   simp only[aO,List.map_cons,ak,List.take_nil,List.map_nil,List.drop_nil]
   simp only[av,ak]at h3 ⊢
   exact⟨u,iF,rfl,h3,ih (s+1) r iF x (fun v hv=>hb v (List.mem_cons_of_mem _ hv)) sW h2 h4⟩
theorem Good.Yk(g:Good Z ψ h w B0 O)(k:cW Iy fQ w w')(hz:∀b,Z b→Z' b)(Nr:∀b,Z' b→Z b∨w.heap.size≤b)(adm:∀b,Z' b→b<w'.heap.size)
  (hold:∀id,¬N id→h' id=h id∧ψ' id=ψ id)
  (bg:∀id ty cs,h id=some (.box ty cs)→ax (fun i=>¬N i) cs)
  (NP:∀id ty cs,N id→h' id=some (.box ty cs)→False)
  (nq:∀id ok xs,N id→h' id=some (.own ok xs)→jq Z' w' ok (ψ' id) xs)
  (zi:∀id b,N id→h' id≠none→ob (ψ' id)=some b→w.heap.size≤b∧¬Z' b)
  (IM:∀id me b,N id→N me→h' id≠none→h' me≠none→ob (ψ' id)=some b→ob (ψ' me)=some b→id=me) (hB:B0≤w.heap.size) :
  Next Z ψ h w B0 O N Z' ψ' h' w':=by
 have cK:∀b,b<w.heap.size→w'.heap[b]? = w.heap[b]? := fun b hb=>k.block b hb (fun⟨id,h1,_⟩=>h1 rfl)
 have sm:cp Z w w':=fun b hb=>cK b (g.jx b hb)
 have rP:∀id,h' id≠none→(h id≠none∧ψ' id=ψ id)∨N id:=fun id bL=>by
  by_cases hn:N id
  ·exact .inr hn
  ·obtain⟨e1,e2⟩:=hold id hn
   exact .inl ⟨by rwa [e1]at bL,e2⟩
 have wW:∀id b,¬N id→h' id≠none→ob (ψ' id)=some b→Own ψ h b:=fun id b hn h1 h2=>by
  obtain⟨e1,e2⟩:=hold id hn
  exact⟨id,by rwa [e1]at h1,by rwa [e2]at h2⟩
 have kk:cW ψ h w w':=⟨k.os,k.tape,k.output,k.size,fun b hb _=>cK b hb⟩
 refine⟨hz,fun b hb=>(Nr b hb).imp (fun h=>h) .inr,kk,rP,⟨fun id ty cs hb=>?_,fun id ok xs hb=>?_,fun id b h1 h2=>?_,fun id me b h1 h2 h3 h4=>?_,adm⟩⟩
 ·by_cases hn:N id
  ·exact(NP id ty cs hn hb).elim
  ·obtain⟨e1,e2⟩:=hold id hn
   rw[e1]at hb
   obtain⟨gg,vs,h1,h2,h3,h4⟩:=g.box id ty cs hb
   exact⟨gg,vs,by rw[e2,h1],(cK gg (Array.getElem?_eq_some_iff.1 h2).1).trans h2,h3.move hz sm (fun i hp bL=>(rP i bL).resolve_right hp) (bg id ty cs hb),h4⟩
 ·by_cases hn:N id
  ·exact nq id ok xs hn hb
  ·obtain⟨e1,e2⟩:=hold id hn
   rw[e1]at hb
   rw[e2]
   exact(g.row id ok xs hb).kept hz sm (fun gg LH=>cK gg (g.bM ⟨id,by rw[hb];simp,LH⟩))
 ·by_cases hn:N id
  ·obtain⟨h3,h4⟩:=zi id b hn h1 h2
   exact⟨h4,.inl (by omega)⟩
  ·obtain⟨e1,e2⟩:=hold id hn
   rw[e1]at h1;rw[e2]at h2
   have h3:=g.live id b h1 h2
   refine⟨fun X7=>?_,h3.2⟩
   rcases Nr b X7 with h4|h4
   ·exact h3.1 h4
   ·have:=g.bM ⟨id,h1,h2⟩;omega
 ·by_cases hn:N id<;>by_cases IN:N me
  ·exact IM id me b hn IN h1 h2 h3 h4
  ·have:=(zi id b hn h1 h3).1
   have:=g.bM (wW me b IN h2 h4);omega
  ·have:=(zi me b IN h2 h4).1
   have:=g.bM (wW id b hn h1 h3);omega
  ·obtain⟨e1,e2⟩:=hold id hn
   obtain⟨e3,e4⟩:=hold me IN
   rw[e1]at h1;rw[e2]at h3;rw[e3]at h2;rw[e4]at h4
   exact g.apart id me b h1 h2 h3 h4
theorem bC{r:RK}{rs:List RK}(h:(r::rs).all RK.plain=true):rs.all RK.plain=true:=by simp only[List.all_cons,Bool.and_eq_true]at h;exact h.2
theorem LW{c:List CK}{rs:List RK}(h:(RK.agg c::rs).all RK.plain=true):c.length≤16:=by
 simp only[List.all_cons,Bool.and_eq_true,RK.plain,decide_eq_true_eq]at h;exact h.1
theorem lC:∀(c:List CK) (a:Nat) (x:pS c) (i:Nat),i<a→(aT c a x).get i=none
 |[],_,_,_,_=>rfl
 |.val _::r,a,x,i,h=>by simp only[aT];exact lC r (a+1) x.2 i (by omega)
 |.own ok::r,a,x,i,h=>by simp only[aT,Heap.get];rw[if_neg (by omega)];exact lC r (a+1) x.2 i (by omega)
theorem tc:∀(c:List CK) (a:Nat) (x:pS c) (i:Nat),a+c.length≤i→(aT c a x).get i=none
 |[],_,_,_,_=>rfl
 |.val _::r,a,x,i,h=>by simp only[List.length_cons]at h;simp only[aT];exact tc r (a+1) x.2 i (by omega)
 |.own ok::r,a,x,i,h=>by simp only[List.length_cons]at h;simp only[aT,Heap.get];rw[if_neg (by omega)];exact tc r (a+1) x.2 i (by omega)
theorem td:∀(c:List CK) (a b:Nat) (x:pS c) (j:Nat),(aT c a x).get (a+j)=(aT c b x).get (b+j)
 |[],_,_,_,_=>rfl
 |.val _::r,a,b,x,0=>by simp only[aT];rw[lC _ _ _ _ (by omega),lC _ _ _ _ (by omega)]
 |.own ok::r,a,b,x,0=>by simp[aT,Heap.get]
 |.val _::r,a,b,x,j+1=>by
  simp only[aT]
  rw[show a+(j+1)=a+1+j by omega,show b+(j+1)=b+1+j by omega]
  exact td r (a+1) (b+1) x.2 j
 |.own ok::r,a,b,x,j+1=>by
  simp only[aT,Heap.get]
  rw[if_neg (by omega),if_neg (by omega),show a+(j+1)=a+1+j by omega,show b+(j+1)=b+1+j by omega]
  exact td r (a+1) (b+1) x.2 j
theorem mU:∀(c:List CK) (a:Nat) (x:pS c) (i:Nat) (ty:TypeId) (cs:List AV),(aT c a x).get i≠some (.box ty cs)
 |[],_,_,_,_,_=>by simp[aT,Heap.get]
 |.val _::r,a,x,i,ty,cs=>by simp only[aT];exact mU r (a+1) x.2 i ty cs
 |.own ok::r,a,x,i,ty,cs=>by
  simp only[aT,Heap.get]
  split
  ·simp
  ·exact mU r (a+1) x.2 i ty cs
theorem qj:∀(rs:List RK) (a:Nat) (y:lq rs) (i:Nat),rs.all RK.plain=true→i<a→(ai rs a y).get i=none
 |[],a,y,i,_,h=>rfl
 |.val k::r,a,y,i,hp,h=>by simp only[ai];exact qj r (a+1) y.2 i (bC hp) (by omega)
 |.own ok::r,a,y,i,hp,h=>by simp only[ai,Heap.get];rw[if_neg (by omega)];exact qj r (a+1) y.2 i (bC hp) (by omega)
 |.eC _ _::r,a,y,i,hp,h=>by simp only[ai];exact qj r (a+1) y.2 i (bC hp) (by omega)
 |.agg c::r,a,y,i,hp,h=>by
  have h1:(aT c a y.1).get i=none:=lC c a y.1 i h
  have h2:=qj r (a+1) y.2 i (bC hp) (by omega)
  show Heap.get (aT c a y.1++ai r (a+1) y.2) i=none
  rw[Heap.get_append,h1,h2]
theorem FY:∀(rs:List RK) (a:Nat) (y:lq rs) (i:Nat),rs.all RK.plain=true→a+rs.length+16≤i→(ai rs a y).get i=none
 |[],a,y,i,_,h=>rfl
 |.val k::r,a,y,i,hp,h=>by simp only[List.length_cons]at h;simp only[ai];exact FY r (a+1) y.2 i (bC hp) (by omega)
 |.own ok::r,a,y,i,hp,h=>by simp only[List.length_cons]at h;simp only[ai,Heap.get];rw[if_neg (by omega)];exact FY r (a+1) y.2 i (bC hp) (by omega)
 |.eC _ _::r,a,y,i,hp,h=>by simp only[List.length_cons]at h;simp only[ai];exact FY r (a+1) y.2 i (bC hp) (by omega)
 |.agg c::r,a,y,i,hp,h=>by
  simp only[List.length_cons]at h
  have hc:=LW hp
  have h1:(aT c a y.1).get i=none:=tc c a y.1 i (by omega)
  have h2:=FY r (a+1) y.2 i (bC hp) (by omega)
  show Heap.get (aT c a y.1++ai r (a+1) y.2) i=none
  rw[Heap.get_append,h1,h2]
theorem FZ:∀(rs:List RK) (a b:Nat) (y:lq rs) (j:Nat),rs.all RK.plain=true→(ai rs a y).get (a+j)=(ai rs b y).get (b+j)
 |[],_,_,_,_,_=>rfl
 |.val k::r,a,b,y,0,hp=>by simp only[ai];rw[qj _ _ _ _ (bC hp) (by omega),qj _ _ _ _ (bC hp) (by omega)]
 |.eC _ _::r,a,b,y,0,hp=>by simp only[ai];rw[qj _ _ _ _ (bC hp) (by omega),qj _ _ _ _ (bC hp) (by omega)]
 |.own ok::r,a,b,y,0,hp=>by simp[ai,Heap.get]
 |.val k::r,a,b,y,j+1,hp=>by
  simp only[ai]
  rw[show a+(j+1)=a+1+j by omega,show b+(j+1)=b+1+j by omega]
  exact FZ r (a+1) (b+1) y.2 j (bC hp)
 |.eC _ _::r,a,b,y,j+1,hp=>by
  simp only[ai]
  rw[show a+(j+1)=a+1+j by omega,show b+(j+1)=b+1+j by omega]
  exact FZ r (a+1) (b+1) y.2 j (bC hp)
 |.own ok::r,a,b,y,j+1,hp=>by
  simp only[ai,Heap.get]
  rw[if_neg (by omega),if_neg (by omega),show a+(j+1)=a+1+j by omega,show b+(j+1)=b+1+j by omega]
  exact FZ r (a+1) (b+1) y.2 j (bC hp)
 |.agg c::r,a,b,y,j,hp=>by
  have h1:(aT c a y.1).get (a+j)=(aT c b y.1).get (b+j):=td c a b y.1 j
  have h2:(ai r (a+1) y.2).get (a+j)=(ai r (b+1) y.2).get (b+j):=by
   cases j with
   |zero=>rw[qj _ _ _ _ (bC hp) (by omega),qj _ _ _ _ (bC hp) (by omega)]
   |succ j =>
    rw[show a+(j+1)=a+1+j by omega,show b+(j+1)=b+1+j by omega]
    exact FZ r (a+1) (b+1) y.2 j (bC hp)
  show Heap.get (aT c a y.1++ai r (a+1) y.2) (a+j)=Heap.get (aT c b y.1++ai r (b+1) y.2) (b+j)
  rw[Heap.get_append,Heap.get_append,h1,h2]
theorem uh:∀(rs:List RK) (a:Nat) (y:lq rs) (i:Nat) (ty:TypeId) (cs:List AV),rs.all RK.plain=true→(ai rs a y).get i≠some (.box ty cs)
 |[],_,_,_,_,_,_=>by simp[ai,Heap.get]
 |.val k::r,a,y,i,ty,cs,hp=>by simp only[ai];exact uh r (a+1) y.2 i ty cs (bC hp)
 |.eC _ _::r,a,y,i,ty,cs,hp=>by simp only[ai];exact uh r (a+1) y.2 i ty cs (bC hp)
 |.own ok::r,a,y,i,ty,cs,hp=>by
  simp only[ai,Heap.get]
  split
  ·simp
  ·exact uh r (a+1) y.2 i ty cs (bC hp)
 |.agg c::r,a,y,i,ty,cs,hp=>by
  have h1:(aT c a y.1).get i≠some (.box ty cs):=mU c a y.1 i ty cs
  show Heap.get (aT c a y.1++ai r (a+1) y.2) i≠some (.box ty cs)
  rw[Heap.get_append]
  split
  ·rename_i o ho;rw[ho]at h1;exact h1
  ·exact uh r (a+1) y.2 i ty cs (bC hp)
theorem lD(p:Nat→Prop):∀(k:K) (x:k.T),ax p (enc k x)
 |.int _,_=>by simp only[enc,ax,aE];exact⟨trivial,trivial⟩
 |.bool,_=>by simp only[enc,ax,aE];exact⟨trivial,trivial⟩
 |.str,_=>by simp only[enc,ax,aE];exact⟨trivial,trivial⟩
 |.sl _,_=>by simp only[enc,ax,aE];exact⟨trivial,trivial⟩
 |.mp _ _,_=>by simp only[enc,ax,aE];exact⟨trivial,trivial⟩
 |.pair a b,x=>by
  simp only[enc]
  have h1:=lD p a x.1
  have h2:=lD p b x.2
  revert h1
  generalize enc a x.1=l
  induction l with
  |nil=>intro _;exact h2
  |cons c r ih=>intro h;simp only[List.cons_append,ax]at h ⊢;exact⟨h.1,ih h.2⟩
 |.one k,x=>by simp only[enc];exact lD p k x
theorem ns(p:Nat→Prop):∀(k:K) (x:k.T),aE p (b8 k x)
 |.int _,_=>by simp only[b8,aE]
 |.bool,_=>by simp only[b8,aE]
 |.str,_=>by simp only[b8,aE]
 |.sl _,_=>by simp only[b8,aE]
 |.mp _ _,_=>by simp only[b8,aE]
 |.pair a b,x=>by simp only[b8,aE];exact lD p (.pair a b) x
 |.one k,x=>by simp only[b8,aE];exact lD p (.one k) x
theorem N6{k:K}{x:k.T}{v:Value}(hr:av Z ψ h w (b8 k x) v):av Z ψ' h' w (b8 k x) v :=
 hr.move (p:=fun _=>False) (fun _ h=>h) (cp.refl _ _) (fun _ hp _=>hp.elim) (ns _ k x)
theorem SD(r:RK)(rs:List RK)(b:Nat)(y:lq (r::rs))(i:Nat)(hi:(ai rs (b+1) y.2).get i≠none):(ai (r::rs) b y).get i≠none:=by
 cases r with
 |val k=>exact hi
 |eC _ _=>exact hi
 |own ok=>simp only[ai,Heap.get];split<;>simp_all
 |agg c =>
  show Heap.get (aT c b y.1++ai rs (b+1) y.2) i≠none
  rw[Heap.get_append]
  split
  ·simp
  ·exact hi
theorem I4(c:List CK):∀{H:Hp} {a b:Nat} {x:pS c} {vs:List Value},(∀j,(aT c b x).get (b+j)≠none→h' (b+j)≠none→H (a+j)≠none∧ψ' (b+j)=ψ (a+j)) →
  ak Z ψ H w (aA c a x) vs→ak Z ψ' h' w (aA c b x) vs:=by
 induction c with
 |nil=>intro H a b x vs _ hr;simpa only[aA,ak] using hr
 |cons k c ih =>
  intro H a b x vs hH hr
  cases k with
  |val k =>
   have qV:ak Z ψ H w (enc k x.1++aA c (a+1) x.2) vs:=hr
   obtain⟨us,ws,rfl,h1,h2⟩:=qV.split
   show ak Z ψ' h' w (enc k x.1++aA c (b+1) x.2) (us++ws)
   refine(h1.move (p:=fun _=>False) (fun _ h=>h) (cp.refl _ _) (fun _ hp _=>hp.elim) (lD _ k x.1)).append (ih (fun j hj bq=>?_) h2)
   have:=hH (j+1)
   rw[show b+(j+1)=b+1+j by omega,show a+(j+1)=a+1+j by omega]at this
   exact this hj bq
  |own ok =>
   have qV:ak Z ψ H w (.bF a::aA c (a+1) x.2) vs:=hr
   simp only[ak]at qV
   obtain⟨v,us,rfl,h1,h2⟩:=qV
   show ak Z ψ' h' w (.bF b::aA c (b+1) x.2) (v::us)
   simp only[ak]
   refine⟨v,us,rfl,?_,ih (fun j hj bq=>?_) h2⟩
   ·simp only[av]at h1 ⊢
    refine⟨h1.1,fun bq=>?_⟩
    obtain⟨h3,h4⟩:=hH 0 (by simp[aT,Heap.get]) bq
    rw[Nat.add_zero,Nat.add_zero]at h4
    rw[h4];exact h1.2 h3
   ·have:=hH (j+1)
    rw[show b+(j+1)=b+1+j by omega,show a+(j+1)=a+1+j by omega]at this
    refine this ?_ bq
    have e:(aT (.own ok::c) b x).get (b+1+j)=(aT c (b+1) x.2).get (b+1+j):=by simp only[aT,Heap.get];rw[if_neg (by omega)]
    rw[e];exact hj
theorem N7(rs:List RK):∀{H:Hp} {n m a b:Nat} {y:lq rs} {vs:List Value},rs.all RK.plain=true→(∀j,(ai rs b y).get (b+j)≠none→h' (b+j)≠none→H (a+j)≠none∧ψ' (b+j)=ψ (a+j)) →
  ak Z ψ H w (aP rs [] n a y) vs→ak Z ψ' h' w (aP rs [] m b y) vs:=by
 induction rs with
 |nil=>intro H n m a b y vs _ _ hr;simpa only[aP,ak] using hr
 |cons r rs ih =>
  intro H n m a b y vs hp hH hr
  have hpa:=hp
  simp only[List.all_cons,Bool.and_eq_true]at hp
  have VR:∀j,(ai rs (b+1) y.2).get (b+1+j)≠none→h' (b+1+j)≠none→H (a+1+j)≠none∧ψ' (b+1+j)=ψ (a+1+j):=fun j hj bq=>by
   have:=hH (j+1)
   rw[show b+(j+1)=b+1+j by omega,show a+(j+1)=a+1+j by omega]at this
   exact this (SD _ _ _ _ _ hj) bq
  cases r with
  |val k =>
   simp only[aP,ak]at hr ⊢
   obtain⟨v,us,rfl,h1,h2⟩:=hr
   exact⟨v,us,rfl,N6 h1,ih hp.2 VR h2⟩
  |own ok =>
   simp only[aP,ak]at hr ⊢
   obtain⟨v,us,rfl,h1,h2⟩:=hr
   refine⟨v,us,rfl,?_,ih hp.2 VR h2⟩
   simp only[av]at h1 ⊢
   refine⟨h1.1,fun bq=>?_⟩
   obtain⟨h3,h4⟩:=hH 0 (by simp[ai,Heap.get]) bq
   rw[Nat.add_zero,Nat.add_zero]at h4
   rw[h4];exact h1.2 h3
  |eC b c=>simp[RK.plain]at hp
  |agg c =>
   simp only[aP,ak]at hr ⊢
   obtain⟨v,us,rfl,h1,h2⟩:=hr
   refine⟨v,us,rfl,?_,ih hp.2 VR h2⟩
   simp only[av]at h1 ⊢
   obtain⟨ws,rfl,h3⟩:=h1
   refine⟨ws,rfl,I4 c (fun j hj bq=>hH j ?_ bq) h3⟩
   show Heap.get (aT c b y.1++ai rs (b+1) y.2) (b+j)≠none
   rw[Heap.get_append]
   split
   ·simp
   ·rename_i xd;exact absurd xd hj
theorem te{Up Uq:Nat→Value}{Yl Ym:Hp}{Yn Yo:Nat→Prop}{l l':List AV}{V:Value}(hl:l.length=l'.length)(hm:∀vs,ak Yn Up Yl w l vs→ak Yo Uq Ym w l' vs)(hr:av Yn Up Yl w (eQ l) V):av Yo Uq Ym w (eQ l') V:=by
 match l,l',hl with
 |[a],[a'],_ =>
  simp only[eQ]at hr ⊢
  have:=hm [V] (by simp only[ak];exact⟨V,[],rfl,hr,rfl⟩)
  simp only[ak]at this
  obtain⟨v,us,e,h1,_⟩:=this
  cases e;exact h1
 |[],[],_ =>
  simp only[eQ,av]at hr ⊢
  obtain⟨us,rfl,h1⟩:=hr
  exact⟨us,rfl,hm _ h1⟩
 |a::b::r,a'::b'::r',_ =>
  simp only[eQ,av]at hr ⊢
  obtain⟨us,rfl,h1⟩:=hr
  exact⟨us,rfl,hm _ h1⟩
theorem jU(rs:List RK):∀(ids:List Nat) (n m:Nat) (y:lq rs),(aP rs ids n m y).length=rs.length:=by
 induction rs with
 |nil=>intros;rfl
 |cons r rs ih=>intro ids n m y;cases r<;>simp[aP,ih]
theorem yn:∀(k:K) (x:k.T) (r:List AV),dec k (enc k x++r)=some (x,r)
 |.int _,x,r=>by simp only[enc,List.cons_append,List.nil_append,dec,DY,if_true];rfl
 |.bool,x,r=>by simp only[enc,List.cons_append,List.nil_append,dec,yf];rfl
 |.str,x,r=>by simp only[enc,List.cons_append,List.nil_append,dec,DZ];rfl
 |.sl k,x,r=>by simp only[enc,List.cons_append,List.nil_append,dec,Kn];rfl
 |.mp kk vk,x,r=>by simp only[enc,List.cons_append,List.nil_append,dec,Ko];rfl
 |.pair a b,x,r=>by
  simp only[enc,dec,List.append_assoc]
  rw[yn a x.1 (enc b x.2++r)]
  simp only[]
  rw[yn b x.2 r]
  rfl
 |.one k,x,r=>by simp only[enc,dec];exact yn k x r
theorem tf(k:K)(x:k.T):dB k (enc k x)=some x:=by
 unfold dB
 have:=yn k x []
 rw[List.append_nil]at this
 rw[this]
theorem tg:∀(k:K) (x:k.T),(b8 k x).cells=enc k x
 |.int _,_=>rfl
 |.bool,_=>rfl
 |.str,_=>rfl
 |.sl _,_=>rfl
 |.mp _ _,_=>rfl
 |.pair a b,x=>rfl
 |.one k,x=>rfl
theorem Kx:∀(k:K) (x:k.T),b8 k x≠.no
 |.int _,_=>by simp[b8]
 |.bool,_=>by simp[b8]
 |.str,_=>by simp[b8]
 |.sl _,_=>by simp[b8]
 |.mp _ _,_=>by simp[b8]
 |.pair a b,x=>by simp[b8]
 |.one k,x=>by simp[b8]
theorem zN:∀(k:K) (x:k.T),(b8 k x).isAgg=k.isAgg
 |.int _,_=>rfl
 |.bool,_=>rfl
 |.str,_=>rfl
 |.sl _,_=>rfl
 |.mp _ _,_=>rfl
 |.pair a b,x=>rfl
 |.one k,x=>rfl
theorem LY{k:K}{x:k.T}{v:Value}(hr:av Z ψ h w (b8 k x) v):aD Z w k x v.cells.toList:=by
 have h1:=hr.cells (Kx k x)
 rw[tg]at h1
 exact dC (tf k x) h1
theorem I5{k:K}{x:k.T}{v:Value}(hr:av Z ψ h w (b8 k x) v):(k.isAgg=true→∃vs,v=.agg vs)∧(k.isAgg=false→v.cells=#[v]) :=
 ⟨fun h=>NZ (by rw[zN];exact h) hr,fun h=>CP (by rw[zN];exact h) (Kx k x) hr⟩
theorem N8(rs:List RK):∀{H:Hp} {n m a b:Nat} {y:lq rs} {vs:List Value},rs.all RK.flat=true→rs.all RK.plain=true→ak Z ψ H w (aP rs [] n a y) vs→ak Z' ψ' h' w' (aP rs [] m b y) vs:=by
 induction rs with
 |nil=>intro H n m a b y vs _ _ hr;simpa only[aP,ak] using hr
 |cons r rs ih =>
  intro H n m a b y vs hf hp hr
  simp only[List.all_cons,Bool.and_eq_true]at hp hf
  cases r with
  |val k =>
   simp only[aP,ak]at hr ⊢
   obtain⟨v,us,rfl,h1,h2⟩:=hr
   have hk:k.flat=true:=hf.1
   obtain⟨h3,h4⟩:=I5 h1
   exact⟨v,us,rfl,lx ((LY h1).flat hk) h3 h4,ih hf.2 hp.2 h2⟩
  |own ok=>simp[RK.flat]at hf
  |eC b c=>simp[RK.plain]at hp
  |agg c=>simp[RK.flat]at hf
theorem LZ(rs:List RK):∀(a:Nat) (y:lq rs),rs.all RK.flat=true→rs.all RK.plain=true→ai rs a y=[]:=by
 induction rs with
 |nil=>intros;rfl
 |cons r rs ih =>
  intro a y hf hp
  simp only[List.all_cons,Bool.and_eq_true]at hp hf
  cases r with
  |val k=>simp only[ai];exact ih _ _ hf.2 hp.2
  |own ok=>simp[RK.flat]at hf
  |eC b c=>simp[RK.plain]at hp
  |agg c=>simp[RK.flat]at hf
theorem ui:∀(ps:List PK) (vs:List AV),cx ps vs=some []→∀v∈vs,∀id,AV.bF id∈v.cells→AV.bF id∈de ps vs
 |[],vs,hi,v,hv,id,bL=>by
  cases vs with
  |nil=>cases hv
  |cons a r=>simp[cx]at hi
 |p::ps,vs,hi,v,hv,id,bL=>by
  obtain⟨a,r,rfl,sW,SC,VP,VQ⟩:=w9 hi
  rcases List.mem_cons.1 hv with rfl|hv
  ·cases p with
   |val k=>simp only[de];exact List.mem_append_left _ bL
   |ref=>exact absurd rfl SC.1
   |own=>exact absurd rfl SC.2
   |Fp f n=>rw[VP f n rfl]at bL;simp[AV.cells]at bL
   |agg n=>rw[VQ n rfl]at bL;simp[AV.cells]at bL
  ·have:=ui ps r sW v hv id bL
   cases p with
   |val k=>simp only[de];exact List.mem_append_right _ this
   |ref=>exact absurd rfl SC.1
   |own=>exact absurd rfl SC.2
   |Fp f n=>simpa only[de] using this
   |agg n=>simpa only[de] using this
theorem zO(f:FuncId)(vs:List AV):sR f vs%1000=f%1000:=by
 induction vs with
 |nil=>rfl
 |cons v r ih =>
  cases v with
  |fn g cap=>exact Nat.add_mul_mod_self_left f 1000 _
  |_=>simp only[sR];exact ih
theorem vP{Sg:FuncId→Option aJ}(f:FuncId)(vs:List AV):keyOf Sg f vs%1000=f%1000:=by
 unfold keyOf
 split
 ·exact(Nat.add_mul_mod_self_right (sR f vs) 500 1000).trans (zO f vs)
 ·exact zO f vs
theorem Next.imp{N':Nat→Prop}(n:Next Z ψ h w B0 O N Z' ψ' h' w')(hi:∀i,N i→N' i):Next Z ψ h w B0 O N' Z' ψ' h' w' :=
 ⟨n.fD,n.dY,n.keep,fun id bL=>(n.ids id bL).imp (fun h=>h) (hi id),n.dL⟩
theorem vQ{rs:List RK}{y:lq rs}(hp:rs.all RK.plain=true){id nb:Nat}(g:Good Z ψ h w B0 O)(hB:B0≤w.heap.size)
  (bg:∀i ty cs,h i=some (.box ty cs)→ax (fun i=>¬N i) cs) (hN:∀j,j<rs.length+16→N (id+j))
  (k:cW Iy fQ w w') (hz:∀b,Z b→Z' b) (Nr:∀b,Z' b→Z b∨w.heap.size≤b) (gc:Good Z' ψ' (ai rs 3000 y).get w' w.heap.size (fun _=>False))
  {v:Value} (hr:av Z' ψ' (ai rs 3000 y).get w' (eQ (aP rs [] 2000 3000 y)) v) :
  ∃th,Next Z ψ h w B0 O N Z' th (fun i=>match (ai rs id y).get i with|some o=>some o|none=>h i) w' ∧
   av Z' th (fun i=>match (ai rs id y).get i with|some o=>some o|none=>h i) w' (eQ (aP rs [] nb id y)) v:=by
 classical
 let H:Hp:=fun i=>match (ai rs id y).get i with|some o=>some o|none=>h i
 let NN:Nat→Prop:=fun i=>(ai rs id y).get i≠none
 let th:Nat→Value:=fun i=>if NN i then ψ' (3000+(i-id)) else ψ i
 have hNN:∀i,NN i→∃j,j<rs.length+16∧i=id+j:=fun i hi=>by
  have h1:¬i<id:=fun aF=>hi (qj rs id y i hp aF)
  have h2:¬id+rs.length+16≤i:=fun Ur=>hi (FY rs id y i hp Ur)
  exact⟨i-id,by omega,by omega⟩
 have xe:∀i,NN i→(ai rs 3000 y).get (3000+(i-id))=(ai rs id y).get i:=fun i hi=>by
  obtain⟨j,_,rfl⟩:=hNN i hi
  rw[show id+j-id=j by omega]
  exact FZ rs 3000 id y j hp
 have hH:∀i,NN i→H i=(ai rs 3000 y).get (3000+(i-id)):=fun i hi=>by
  rw[xe i hi]
  show(match (ai rs id y).get i with|some o=>some o|none=>h i)=_
  cases e:(ai rs id y).get i with
  |none=>exact absurd e hi
  |some o=>rfl
 have iJ:∀i,NN i→th i=ψ' (3000+(i-id)):=fun i hi=>if_pos hi
 have Yp:∀i,NN i→N i:=fun i hi=>by obtain⟨j,hj,rfl⟩:=hNN i hi;exact hN j hj
 have n:=Good.Yk (N:=NN) (ψ':=th) (h':=H) g k hz Nr gc.jx
  (fun i hi=>by
   have e:(ai rs id y).get i=none:=Classical.not_not.1 hi
   refine⟨?_,if_neg hi⟩
   show(match (ai rs id y).get i with|some o=>some o|none=>h i)=h i
   rw[e])
  (fun i ty cs hb=>(bg i ty cs hb).imp (fun i hi hni=>hi (Yp i hni)))
  (fun i ty cs hi hb=>by rw[hH i hi]at hb;exact uh _ _ _ _ _ _ hp hb)
  (fun i ok xs hi hb=>by rw[hH i hi]at hb;rw[iJ i hi];exact gc.row _ _ _ hb)
  (fun i b hi h1 h2=>by
   rw[hH i hi]at h1;rw[iJ i hi]at h2
   obtain⟨h3,h4⟩:=gc.live _ b h1 h2
   exact⟨h4.resolve_right (fun h=>h),h3⟩)
  (fun i i' b hi sW h1 h2 h3 h4=>by
   rw[hH i hi]at h1;rw[hH i' sW]at h2;rw[iJ i hi]at h3;rw[iJ i' sW]at h4
   have:=gc.apart _ _ b h1 h2 h3 h4
   obtain⟨j,_,rfl⟩:=hNN i hi
   obtain⟨j',_,rfl⟩:=hNN i' sW
   omega) hB
 refine⟨th,n.imp Yp,?_⟩
 refine te (by rw[jU,jU]) (fun vs qX=>?_) hr
 refine N7 (h':=H) (ψ':=th) rs (n:=2000) (a:=3000) hp (fun j hn bq=>?_) qX
 replace hn:NN (id+j):=hn
 have e1:=hH _ hn
 have e2:=iJ _ hn
 rw[show id+j-id=j by omega]at e1 e2
 exact⟨by rw[←e1];exact bq,e2⟩
def iU(P:Program)(f:FuncId):Prop:=∃fn,P.funcs[f]? = some fn∧(fn.name== "runtime.NumGoroutine")=false∧fn.body.isSome=true
theorem iV{f:FuncId}(hc:iU P f)(args:Array Value):(callFunc f args).run P w=.ok (.enter f args) w:=by
 obtain⟨fn,h1,h2,h3⟩:=hc
 obtain⟨c,hc⟩:=Option.isSome_iff_exists.1 h3
 simp[callFunc,h1,hc,show ¬fn.name= "runtime.NumGoroutine" by simpa using h2]
def Us(P:Program)(ρC:Operand→Value)(o:Oper)(Z:Nat→Prop)(ψ:Nat→Value)(h:Hp)(w:World)(B0:Nat)(O N:Nat→Prop)(e:bE):Prop :=
 ∃f args,(execOp ρC o).run P w=.ok (.enter f args) w∧Calls P f args w fun en w'=>∃V Z' ψ',en=.returned V∧Next Z ψ h w B0 O N Z' ψ' (e.hp h) w'∧av Z' ψ' (e.hp h) w' e.v V
end Go.Vs
namespace Go.Vs
variable {P:Program} {Z Z':Nat→Prop} {ψ ψ':Nat→Value} {h h':Hp} {w w':World} {B0:Nat} {O:Nat→Prop} {N:Nat→Prop}
def cw:(rs:List RK)→List AV→Nat→lq rs→List w8
 |[],_,_,_=>[]
 |.own ok::r,vs,m,x=>(m,(og (vs.headD .no)).head?,.own ok x.1)::cw r vs.tail (m+1) x.2
 |.val _::r,vs,m,x=>cw r vs.tail (m+1) x.2
 |.eC _ _::r,vs,m,x=>cw r vs.tail (m+1) x.2
 |.agg c::r,vs,m,x=>dE c m (vs.headD .no).cells x.1++cw r vs.tail (m+1) x.2
theorem gi:∀(rs:List RK) (vs:List AV) (m:Nat) (x:lq rs),dy (cw rs vs m x)=ai rs m x
 |[],_,_,_=>rfl
 |.own ok::r,vs,m,x=>by simp only[cw,ai];rw[←gi r vs.tail (m+1) x.2];rfl
 |.val _::r,vs,m,x=>gi r vs.tail (m+1) x.2
 |.eC _ _::r,vs,m,x=>gi r vs.tail (m+1) x.2
 |.agg c::r,vs,m,x=>by
  have e1:dy (dE c m (vs.headD .no).cells x.1)=aT c m x.1:=mn c m _ x.1
  have e2:=gi r vs.tail (m+1) x.2
  simp only[cw,ai]
  rw[mo,e2]
  exact congrArg (·++_) e1
theorem fq:∀(rs:List RK) (vs:List AV) (m:Nat) (x:lq rs),(cw rs vs m x).map (·.1)=bw rs m
 |[],_,_,_=>rfl
 |.own ok::r,vs,m,x=>by simp only[cw,bw,List.map_cons];rw[fq r vs.tail (m+1) x.2]
 |.val _::r,vs,m,x=>fq r vs.tail (m+1) x.2
 |.eC _ _::r,vs,m,x=>fq r vs.tail (m+1) x.2
 |.agg c::r,vs,m,x=>by
  have e1:(dE c m (vs.headD .no).cells x.1).map (·.1)=cc c m:=kQ c m _ x.1
  have e2:=fq r vs.tail (m+1) x.2
  simp only[cw,bw,List.map_append]
  rw[e2]
  exact congrArg (·++_) e1
theorem oC{bs:List BK}{k:K}{r:List RK}{hh:Heap}{ids:List Nat}{vs:List AV}{x:lq (.val k::r)}(hd:bG bs (.val k::r) hh ids vs=some x):∃v gL,vs=v::gL∧fF k hh v=some x.1∧bG bs r hh ids gL=some x.2:=by
 cases vs with
 |nil=>cases hd
 |cons v vs =>
  have e:bG bs (.val k::r) hh ids (v::vs)=(match fF k hh v,bG bs r hh ids vs with
   |some x,some y=>some ((x,y):k.T×lq r)
   |_,_=>none):=rfl
  rw[e]at hd
  clear e
  refine⟨v,vs,rfl,?_⟩
  generalize fF k hh v=o1 at hd ⊢
  generalize bG bs r hh ids vs=o2 at hd ⊢
  cases o1 with
  |none=>cases hd
  |some x1 =>
   cases o2 with
   |none=>cases hd
   |some y1=>have:=Option.some.inj hd;subst this;exact⟨rfl,rfl⟩
theorem oD{bs:List BK}{ok:OK}{r:List RK}{hh:Heap}{ids:List Nat}{vs:List AV}{x:lq (.own ok::r)}(hd:bG bs (.own ok::r) hh ids vs=some x):∃v gL,vs=v::gL∧dN hh ok v=some x.1∧bG bs r hh ids gL=some x.2:=by
 cases vs with
 |nil=>cases hd
 |cons v vs =>
  have e:bG bs (.own ok::r) hh ids (v::vs)=(match dN hh ok v,bG bs r hh ids vs with
   |some x,some y=>some ((x,y):ok.T×lq r)
   |_,_=>none):=rfl
  rw[e]at hd
  clear e
  refine⟨v,vs,rfl,?_⟩
  generalize dN hh ok v=o1 at hd ⊢
  generalize bG bs r hh ids vs=o2 at hd ⊢
  cases o1 with
  |none=>cases hd
  |some x1 =>
   cases o2 with
   |none=>cases hd
   |some y1=>have:=Option.some.inj hd;subst this;exact⟨rfl,rfl⟩
theorem mq{bs:List BK}{b:Nat}{alts:List (Nat×Nat×Nat)}{r:List RK}{hh:Heap}{ids:List Nat}{vs:List AV}{x:lq (.eC b alts::r)}(hd:bG bs (.eC b alts::r) hh ids vs=some x):∃v gL,vs=v::gL∧mJ bs hh ids b alts v=some x.1∧bG bs r hh ids gL=some x.2:=by
 cases vs with
 |nil=>cases hd
 |cons v vs =>
  have e:bG bs (.eC b alts::r) hh ids (v::vs)=(match mJ bs hh ids b alts v,bG bs r hh ids vs with
   |some x,some y=>some ((x,y):Option (Fin alts.length×Nat)×lq r)
   |_,_=>none):=rfl
  rw[e]at hd
  clear e
  refine⟨v,vs,rfl,?_⟩
  generalize mJ bs hh ids b alts v=o1 at hd ⊢
  generalize bG bs r hh ids vs=o2 at hd ⊢
  cases o1 with
  |none=>cases hd
  |some x1 =>
   cases o2 with
   |none=>cases hd
   |some y1=>have:=Option.some.inj hd;subst this;exact⟨rfl,rfl⟩
theorem oE{bs:List BK}{c:List CK}{r:List RK}{hh:Heap}{ids:List Nat}{vs:List AV}{x:lq (.agg c::r)}(hd:bG bs (.agg c::r) hh ids vs=some x):∃cs gL,vs=.agg cs::gL∧cF c hh cs=some x.1∧bG bs r hh ids gL=some x.2:=by
 cases vs with
 |nil=>cases hd
 |cons v vs =>
  have e:bG bs (.agg c::r) hh ids (v::vs)=(match yY c hh v,bG bs r hh ids vs with
   |some x,some y=>some ((x,y):pS c×lq r)
   |_,_=>none):=rfl
  rw[e]at hd
  clear e
  have key:yY c hh v=some x.1∧bG bs r hh ids vs=some x.2:=by
   generalize yY c hh v=o1 at hd ⊢
   generalize bG bs r hh ids vs=o2 at hd ⊢
   cases o1 with
   |none=>cases hd
   |some x1 =>
    cases o2 with
    |none=>cases hd
    |some y1=>have:=Option.some.inj hd;subst this;exact⟨rfl,rfl⟩
  obtain⟨h1,h2⟩:=key
  unfold yY at h1
  split at h1
  ·exact⟨_,vs,rfl,h1,h2⟩
  ·cases h1
theorem gM{bs:List BK}{hh:Heap}{ids:List Nat}:∀(rs:List RK) (vs:List AV) (x:lq rs),bG bs rs hh ids vs=some x→vs.length=rs.length
 |[],[],_,_=>rfl
 |[],_::_,_,h=>by cases h
 |.val k::r,vs,x,h=>by obtain⟨v,gL,rfl,_,h2⟩:=oC h;simp[gM r gL x.2 h2]
 |.own ok::r,vs,x,h=>by obtain⟨v,gL,rfl,_,h2⟩:=oD h;simp[gM r gL x.2 h2]
 |.eC _ _::r,vs,x,h=>by obtain⟨v,gL,rfl,_,h2⟩:=mq h;simp[gM r gL x.2 h2]
 |.agg _::r,vs,x,h=>by obtain⟨v,gL,rfl,_,h2⟩:=oE h;simp[gM r gL x.2 h2]
theorem im{bs:List BK}{hh:Heap}{ids:List Nat}:∀(rs:List RK) (vs:List AV) (m:Nat) (x:lq rs),bG bs rs hh ids vs=some x→(cw rs vs m x).filterMap (·.2.1)=dH rs vs
 |[],vs,_,_,_=>by cases vs<;>rfl
 |.own ok::r,vs,m,x,h=>by
  obtain⟨v,gL,rfl,_,h2⟩:=oD h
  simp only[cw,dH,List.headD_cons,List.tail_cons]
  rw[dJ,im r gL (m+1) x.2 h2]
  simp only[]
  rw[vN]
 |.val k::r,vs,m,x,h=>by
  obtain⟨v,gL,rfl,_,h2⟩:=oC h
  simp only[cw,dH,List.tail_cons]
  exact im r gL (m+1) x.2 h2
 |.eC _ _::r,vs,m,x,h=>by
  obtain⟨v,gL,rfl,_,h2⟩:=mq h
  simp only[cw,dH,List.tail_cons]
  exact im r gL (m+1) x.2 h2
 |.agg c::r,vs,m,x,h=>by
  obtain⟨cs,gL,rfl,h1,h2⟩:=oE h
  simp only[cw,dH,List.headD_cons,List.tail_cons,AV.cells]
  have e1:(dE c m cs x.1).filterMap (·.2.1)=fC c cs:=ox c m hh cs x.1 h1
  rw[List.filterMap_append,im r gL (m+1) x.2 h2]
  exact congrArg (·++_) e1
theorem jE{hd:Hp}{bs:List BK}{hh:Heap}{ids:List Nat}:∀(rs:List RK) (vs:List AV) (m:Nat) (x:lq rs),bG bs rs hh ids vs=some x→(∀s∈dH rs vs,hd s=hh.get s)→∀e∈cw rs vs m x,ug Z ψ hd w h' ψ' e
 |[],_,_,_,_,_,e,he=>by simp[cw]at he
 |.own ok::r,vs,m,x,h,hk,e,he=>by
  obtain⟨v,gL,rfl,h1,h2⟩:=oD h
  simp only[cw,dH,List.headD_cons,List.tail_cons]at he hk
  rcases List.mem_cons.1 he with rfl|he
  ·exact Kw h1 fun s hs=>hk s (List.mem_append_left _ hs)
  ·exact jE r gL (m+1) x.2 h2 (fun s hs=>hk s (List.mem_append_right _ hs)) e he
 |.val k::r,vs,m,x,h,hk,e,he=>by
  obtain⟨v,gL,rfl,h1,h2⟩:=oC h
  exact jE r gL (m+1) x.2 h2 hk e he
 |.eC _ _::r,vs,m,x,h,hk,e,he=>by
  obtain⟨v,gL,rfl,h1,h2⟩:=mq h
  exact jE r gL (m+1) x.2 h2 hk e he
 |.agg c::r,vs,m,x,h,hk,e,he=>by
  obtain⟨cs,gL,rfl,h1,h2⟩:=oE h
  simp only[cw,dH,List.headD_cons,List.tail_cons,AV.cells]at he hk
  rcases List.mem_append.1 he with he|he
  ·exact rh c m cs x.1 h1 (fun s hs=>hk s (List.mem_append_left _ hs)) e he
  ·exact jE r gL (m+1) x.2 h2 (fun s hs=>hk s (List.mem_append_right _ hs)) e he
theorem vR{hh:Heap}{id:Nat}:∀(dh:List CK) (c n:Nat) (cs:List AV) (x:pS dh),cF dh hh cs=some x→fG dh c=true→cs[mh dh c]? = some (.bF id)→hh.get id≠none∧∃o,(n+c,some id,o)∈dE dh n cs x
 |[],c,n,cs,x,_,h,_=>by simp[fG]at h
 |.val k::r,0,n,cs,x,_,h,_=>by simp[fG]at h
 |.val k::r,c+1,n,cs,x,hd,h,hc=>by
  obtain⟨_,h2⟩:=ow hd
  obtain⟨h3,o,h4⟩:=vR r c (n+1) (cs.drop k.sz) x.2 h2 (by simpa[fG] using h) (by rw[List.getElem?_drop];simpa[mh] using hc)
  exact⟨h3,o,by rw[show n+(c+1)=n+1+c by omega];exact h4⟩
 |.own ok::r,0,n,cs,x,hd,h,hc=>by
  obtain⟨c0,cs',rfl,h1,h2⟩:=lz hd
  simp only[mh,List.getElem?_cons_zero,Option.some.injEq]at hc
  subst hc
  rcases lA h1 with⟨h3,_⟩|⟨me,h3,h4⟩
  ·cases h3
  ·cases h3
   exact⟨by rw[h4];simp,_,by simp only[dE,List.headD_cons,og,List.head?_cons];exact List.mem_cons_self⟩
 |.own ok::r,c+1,n,cs,x,hd,h,hc=>by
  obtain⟨c0,cs',rfl,h1,h2⟩:=lz hd
  obtain⟨h3,o,h4⟩:=vR r c (n+1) cs' x.2 h2 (by simpa[fG] using h) (by simp only[mh]at hc;rw[Nat.add_comm]at hc;simpa using hc)
  exact⟨h3,o,by rw[show n+(c+1)=n+1+c by omega];simp only[dE,List.tail_cons];exact List.mem_cons_of_mem _ h4⟩
theorem zP{hh:Heap}{id c:Nat}:∀(bs:List BK) (b n:Nat) (is is':List Nat) (x:vx bs) (bk:BK) (bi:Nat) (ty:TypeId) (cs:List AV),cU bs hh is=some x→is'.length=bs.length→bs[b]? = some bk→is[b]? = some bi→hh.get bi=some (.box ty cs) →
  fG bk.dh c=true→cs[mh bk.dh c]? = some (.bF id)→hh.get id≠none∧∃o,(n+16*b+c,some id,o)∈cr bs hh is is' n x
 |[],b,n,is,is',x,bk,bi,ty,cs,_,_,h,_,_,_,_=>by simp at h
 |b0::r,b,n,[],is',x,bk,bi,ty,cs,hd,_,_,_,_,_,_=>by cases hd
 |b0::r,b,n,i::is,[],x,bk,bi,ty,cs,_,hl,_,_,_,_,_=>by simp at hl
 |b0::r,0,n,i::is,i'::is',x,bk,bi,ty,cs,hd,hl,h1,h2,h3,h4,h5=>by
  obtain⟨g0,g3⟩:=eX hd
  simp only[List.getElem?_cons_zero,Option.some.injEq]at h1 h2
  subst h1;subst h2
  cases b0 with
  |own ok=>simp[BK.dh,fG]at h4
  |box ty0 c0 =>
   obtain⟨cs',g1,g2⟩:=rf g0
   rw[g1]at h3
   cases h3
   obtain⟨h6,o,h7⟩:=vR c0 c n cs x.1 g2 h4 h5
   refine⟨h6,o,?_⟩
   simp only[cr,dI]
   rw[oy g1]
   exact List.mem_append_left _ (List.mem_cons_of_mem _ (by simpa using h7))
 |b0::r,b+1,n,i::is,i'::is',x,bk,bi,ty,cs,hd,hl,h1,h2,h3,h4,h5=>by
  obtain⟨_,g3⟩:=eX hd
  obtain⟨h6,o,h7⟩:=zP r b (n+16) is is' x.2 bk bi ty cs g3 (by simpa using hl) (by simpa using h1) (by simpa using h2) h3 h4 h5
  refine⟨h6,o,?_⟩
  rw[show n+16*(b+1)+c=n+16+16*b+c by omega]
  simp only[cr]
  exact List.mem_append_right _ h7
theorem zQ{c:List CK}{cs:List AV}{id s off:Nat}{a:Nat×Nat×Nat}(h:wT c cs id s off a=true):cs[mh c a.1]? = some (.bF id)∧s=a.2.1∧off=a.2.2∧fG c a.1=true:=by
 simp only[wT,Bool.and_eq_true,decide_eq_true_eq]at h
 obtain⟨h1,h2,h3,h4⟩:=h
 refine⟨?_,h2,h3,h4⟩
 unfold NI at h1
 split at h1
 ·rename_i e;rw[e];simp only[beq_iff_eq]at h1;rw[h1]
 ·cases h1
theorem L0{bs:List BK}{hh:Heap}{ids:List Nat}{b:Nat}{alts:List (Nat×Nat×Nat)}{v:AV}{x:Option (Fin alts.length×Nat)}(hd:mJ bs hh ids b alts v=some x):(v=.kN∧x=none) ∨
  ∃id i a bi bk ty cs,v=.ref id (alts.get a).2.1 i (alts.get a).2.2∧x=some (a,i)∧ids[b]? = some bi∧bs[b]? = some bk∧hh.get bi=some (.box ty cs)∧cs[mh bk.dh (alts.get a).1]? = some (.bF id)∧fG bk.dh (alts.get a).1=true:=by
 unfold mJ at hd
 split at hd
 ·cases hd;exact .inl ⟨rfl,rfl⟩
 ·rename_i id s i off
  split at hd
  ·rename_i bi bk h1 h2
   split at hd
   ·rename_i ty cs h3
    split at hd
    ·rename_i a h4
     cases hd
     have h4':wT bk.dh cs id s off (alts.get a)=true:=by simpa using List.find?_some (p:=fun a=>wT bk.dh cs id s off (alts.get a)) h4
     obtain⟨h5,rfl,rfl,h6⟩:=zQ h4'
     exact .inr ⟨id,i,a,bi,bk,ty,cs,rfl,rfl,h1,h2,h3,h5,h6⟩
    ·cases hd
   ·cases hd
  ·cases hd
 ·cases hd
theorem rj{bs:List BK}{hh:Heap}{ids is' ids2:List Nat}{nb:Nat}{yb:vx bs}(g:Good Z ψ hh.get w B0 O)(hz:∀b,Z b→Z' b)(hb:cU bs hh ids=some yb)(hl:is'.length=bs.length)
  (N9:∀e∈cr bs hh ids is' nb yb,h' e.1≠none→ψ' e.1=jC ψ e.2.1):∀(rs:List RK) (vs:List AV) (m:Nat) (x:lq rs) (us:List Value),bG bs rs hh ids vs=some x →
  (∀id b,AV.bF id∈fM rs vs→hh.get id≠none→ob (ψ id)=some b→Z' b)→(∀e∈cw rs vs m x,h' e.1≠none→ψ' e.1=jC ψ e.2.1)→ak Z ψ hh.get w vs us→ak Z' ψ' h' w (aP rs ids2 nb m x) us
 |[],vs,m,x,us,hd,_,_,hr=>by
  have:=gM [] vs x hd
  have hv:vs=[]:=List.eq_nil_of_length_eq_zero this
  subst hv
  simpa only[aP,ak] using hr
 |.val k::r,vs,m,x,us,hd,hf,iJ,hr=>by
  obtain⟨v,gL,rfl,h1,h2⟩:=oC hd
  simp only[ak]at hr
  obtain⟨u,iF,rfl,h3,h4⟩:=hr
  simp only[aP,ak]
  simp only[fM]at hf
  exact⟨u,iF,rfl,q6 g hz (fun id b bL=>hf id b (List.mem_append_left _ bL)) h1 h3,rj g hz hb hl N9 r gL (m+1) x.2 iF h2 (fun id b bL=>hf id b (List.mem_append_right _ bL)) iJ h4⟩
 |.own ok::r,vs,m,x,us,hd,hf,iJ,hr=>by
  obtain⟨v,gL,rfl,h1,h2⟩:=oD hd
  simp only[ak]at hr
  obtain⟨u,iF,rfl,h3,h4⟩:=hr
  simp only[aP,ak]
  simp only[cw,List.headD_cons,List.tail_cons]at iJ
  exact⟨u,iF,rfl,Ed h1 h3 (fun hn=>iJ _ List.mem_cons_self hn),rj g hz hb hl N9 r gL (m+1) x.2 iF h2 hf (fun e he=>iJ e (List.mem_cons_of_mem _ he)) h4⟩
 |.eC b alts::r,vs,m,x,us,hd,hf,iJ,hr=>by
  obtain⟨v,gL,rfl,h1,h2⟩:=mq hd
  simp only[ak]at hr
  obtain⟨u,iF,rfl,h3,h4⟩:=hr
  simp only[aP,ak]
  refine⟨u,iF,rfl,?_,rj g hz hb hl N9 r gL (m+1) x.2 iF h2 hf iJ h4⟩
  rcases L0 h1 with⟨rfl,h5⟩|⟨id,i,al,bi,bk,ty,cs,rfl,h5,h6,h7,h8,h9,mO⟩
  ·have:x.1=none:=h5
   rw[this]
   simpa only[tM,av] using h3
  ·have:x.1=some (al,i):=h5
   rw[this]
   obtain⟨xS,o,Iu⟩:=zP bs b nb ids is' yb bk bi ty cs hb hl h7 h6 h8 mO h9
   simp only[tM,av]at h3 ⊢
   obtain⟨ad,RV,Ut⟩:=h3
   refine⟨ad,RV,fun hn=>?_⟩
   rw[N9 _ Iu hn,Ut xS];rfl
 |.agg c::r,vs,m,x,us,hd,hf,iJ,hr=>by
  obtain⟨cs,gL,rfl,h1,h2⟩:=oE hd
  simp only[ak]at hr
  obtain⟨u,iF,rfl,h3,h4⟩:=hr
  simp only[aP,ak]
  simp only[fM,AV.cells]at hf
  simp only[cw,List.headD_cons,List.tail_cons,AV.cells]at iJ
  refine⟨u,iF,rfl,?_,rj g hz hb hl N9 r gL (m+1) x.2 iF h2 (fun id b bL=>hf id b (List.mem_append_right _ bL)) (fun e he=>iJ e (List.mem_append_right _ he)) h4⟩
  simp only[av]at h3 ⊢
  obtain⟨ws,rfl,h5⟩:=h3
  exact⟨ws,rfl,q9 g hz c m cs x.1 _ h1 (fun id b bL=>hf id b (List.mem_append_left _ bL)) (fun e he=>iJ e (List.mem_append_left _ he)) h5⟩
end Go.Vs
