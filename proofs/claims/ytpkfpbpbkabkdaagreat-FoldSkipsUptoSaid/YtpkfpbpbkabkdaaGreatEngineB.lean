/- The value semantics is sound, operation by operation. -/
import Derived.Test.YtpkfpbpbkabkdaaGreatEngineA
import Derived.Laws.StructEq
import Derived.Laws.Slices
import Derived.Laws.Strings
import Derived.MapKept
namespace Go.Vs
variable {P:Program} {Z Z':Nat→Prop} {ψ ψ':Nat→Value} {h h':Hp} {w w':World} {B0:Nat} {O:Nat→Prop} {N:Nat→Prop}
def bj.hp(h:Hp):bj→Hp
 |.val _=>h
 |.new _ os=>fun i=>match Heap.get os i with
  |some o=>some o
  |none=>h i
 |.wr _ h'=>h'.get
theorem gD(id:Nat)(o:Ob)(h:Hp):(fun i=>match Heap.get [(id,o)] i with|some o=>some o|none=>h i)=dv h id (some o):=by
 funext i
 simp only[Heap.get,dv]
 by_cases e:i=id
 ·subst e;simp
 ·rw[if_neg (fun x=>e x.symm),if_neg e]
theorem lA(hh:Heap)(id:Nat)(o:Ob):(hh.set id o).get=dv hh.get id (some o):=by
 funext i
 by_cases e:i=id
 ·subst e;rw[Heap.B9,aS]
 ·rw[Heap.FZ e,cw _ _ e]
theorem sY(hh:Heap)(id:Nat):(hh.del id).get=dv hh.get id none:=by
 funext i
 by_cases e:i=id
 ·subst e;rw[Heap.fC,aS]
 ·rw[Heap.gx e,cw _ _ e]
theorem xI(hh:Heap)(id:Nat)(o:Ob):Heap.get ((id,o)::hh)=dv hh.get id (some o):=by
 funext i
 simp only[Heap.get,dv]
 by_cases e:i=id
 ·subst e;simp
 ·rw[if_neg (fun x=>e x.symm),if_neg e]
def fU(P:Program)(ρC:Operand→Value)(o:Oper)(Z:Nat→Prop)(ψ:Nat→Value)(h:Hp)(w:World)(B0:Nat)(O N:Nat→Prop)(e:bj):Prop :=
 ∃V w' Z' ψ',((execOp ρC o).run P w=.ok (.value V) w'∨((execOp ρC o).run P w=.ok .skip w'∧V=undef))∧Next Z ψ h w B0 O N Z' ψ' (e.hp h) w'∧ao Z' ψ' (e.hp h) w' e.v V
theorem fU.val{ρC:Operand→Value}{o:Oper}{x:AV}(g:Good Z ψ h w B0 O){V:Value}(hr:(execOp ρC o).run P w=.ok (.value V) w)(hx:ao Z ψ h w x V):fU P ρC o Z ψ h w B0 O N (.val x) :=
 ⟨V,w,Z,ψ,.inl hr,Next.refl g,hx⟩
theorem Lc{ty:TypeId}{k:K}{xs:List k.T}{id n:Nat}{x:k.T}(g:Good Z ψ h w B0 O)(hg:h id=some (.own (.row ty k) xs))(hx:xs[n]? = some x) :
  ∃gg us,Ov (ψ id)=gg∧ax Z w k x us∧∀(j:Nat) u,us[j]? = some u→w.cell? ⟨gg,n*k.sz+j,none⟩=some u:=by
 obtain⟨vs,ho,hv⟩:=g.row id (.row ty k) xs hg
 have hn:n<xs.length:=(List.getElem?_eq_some_iff.1 hx).1
 obtain⟨hl,e⟩:=ho
 rcases e with⟨h0,_⟩|⟨gg,cap,cur,e1,_,e3,_,_,_,e7⟩
 ·omega
 ·refine⟨gg,_,by rw[e1];rfl,hv n x hx,fun j u hu=>?_⟩
  rw[List.getElem?_take]at hu
  split at hu
  ·rw[List.getElem?_drop,←e7,List.getElem?_take]at hu
   split at hu
   ·simp only[World.cell?,e3];simpa using hu
   ·cases hu
  ·cases hu
theorem rR{hh:Heap}(g:Good Z ψ h w B0 O)(aZ:∀id o,hh.get id=some o→h id=some o){t:TypeId}{a:AV}{v:Value}{e:bj}(hv:ao Z ψ h w a v)(he:kA P hh t a some=some e) :
  ∃x V,e=.val x∧(Instr.loadAt t v).run P w=.ok V w∧ao Z ψ h w x V:=by
 unfold kA at he
 split at he
 ·rename_i id s i off
  simp only[ao]at hv
  obtain⟨a,rfl,ha⟩:=hv
  split at he
  ·rename_i ty cs hg
   have ub:=aZ _ _ hg
   have Dl:=ha (by rw[ub];simp)
   obtain⟨gg,vs,e1,e2,e3,e4⟩:=g.box id ty cs ub
   split at he
   ·rename_i hi
    subst hi
    split at he
    ·rename_i x hx
     cases he
     rw[e1]at Dl
     simp only[Ov,Nat.zero_mul,Nat.zero_add]at Dl
     subst Dl
     obtain⟨V,h1,h2⟩:=iS (a:=⟨gg,off,none⟩) (e3.drop off) (fun j u hu=>by
      rw[bY];simp only[World.cell?,e2];rw[List.getElem?_drop]at hu;simpa using hu) hx
     exact⟨x,V,rfl,h1,h2⟩
    ·cases he
   ·cases he
  ·rename_i ty kk xs hg
   have ub:=aZ _ _ hg
   have Dl:=ha (by rw[ub];simp)
   split at he
   ·rename_i hs
    subst hs
    obtain⟨x,hx,he⟩:=Option.bind_eq_some_iff.1 he
    split at he
    ·rename_i y hy
     cases he
     obtain⟨gg,us,h1,h2,h3⟩:=Lc g ub hx
     rw[h1]at Dl;subst Dl
     obtain⟨V,h4,h5⟩:=iS (a:=⟨gg,i*kk.sz+off,none⟩) ((gk (ψ:=ψ) (h:=h) h2).drop off) (fun j u hu=>by
      rw[bY,Nat.add_assoc];exact h3 _ _ (by rw[List.getElem?_drop]at hu;exact hu)) hy
     exact⟨y,V,rfl,h4,h5⟩
    ·cases he
   ·cases he
  ·cases he
 ·rename_i kk x off
  split at he
  ·rename_i y hy
   cases he
   simp only[ao]at hv
   obtain⟨a,us,rfl,_,h2,h3⟩:=hv
   obtain⟨V,h4,h5⟩:=iS ((gk (ψ:=ψ) (h:=h) h2).drop off) (fun j u hu=>h3 j u (by rw[List.getElem?_drop]at hu;exact hu)) hy
   exact⟨y,V,rfl,h4,h5⟩
  ·cases he
 ·cases he
theorem mb{t e:TypeId}(he:vp P t=some e):P.underlying t=some (.slice e):=by
 unfold vp at he
 split at he
 ·cases he;assumption
 ·cases he
theorem me{t e:TypeId}(ht:P.underlying t=some (.slice e)){i:TypeInfo}(hi:P.info? e=some i)(a:Addr)(n c:Nat)(k:IntKind)(j:Int)(h0:0≤j)(h1:j<n) :
  (Instr.indexAt t (.slice (some a) n c) (.int k j)).run P w=.ok (.pointer (some (a.add (j.toNat*P.cellsOf e)))) w:=by
 simp[Instr.indexAt,asIntOf,run_underlying ht,h0,h1,c6 hi]
theorem Je{α:Type}{xs:List α}{i:Int}{x:α}(hx:cQ xs i=some x):0≤i∧i<xs.length∧xs[i.toNat]? = some x:=by
 unfold cQ at hx
 split at hx
 ·rename_i h0
  have:=(List.getElem?_eq_some_iff.1 hx).1
  exact⟨h0,by omega,hx⟩
 ·cases hx
theorem oy{hh:Heap}(g:Good Z ψ h w B0 O)(aZ:∀id o,hh.get id=some o→h id=some o){t:TypeId}{x i:AV}{v u:Value}{e:bj}(hv:ao Z ψ h w x v)(hu:ao Z ψ h w i u)(he:cZ P hh t x i some=some e) :
  ∃y V,e=.val y∧(Instr.indexAt t v u).run P w=.ok V w∧ao Z ψ h w y V:=by
 unfold cZ at he
 split at he
 ·cases he
 ·rename_i et het
  have ht:=mb het
  ·skip
   split at he
   ·rename_i ex HQ xs ik n
    simp only[ao]at hv hu
    subst hu
    split at he
    ·rename_i hs
     obtain⟨y,hy,he⟩:=Option.bind_eq_some_iff.1 he
     cases he
     obtain⟨h0,h1,h2⟩:=Je hy
     obtain⟨hk,_⟩:=hv
     simp only[ax]at hk
     obtain⟨v',xJ,A,c,rfl,_,_,FF⟩:=hk
     cases xJ
     obtain⟨a,us,rfl,hz,hr,hc⟩:=FF _ _ h2
     have hi:∃i,P.info? et=some i:=by
      cases hi:P.info? et with
      |some i=>exact⟨i,rfl⟩
      |none=>exfalso;have:=HQ.gu;simp[Program.cellsOf,hi]at hs;omega
     obtain⟨inf,hi⟩:=hi
     refine⟨_,_,rfl,me ht hi a xs.length c ik n h0 h1,?_⟩
     simp only[ao]
     refine⟨_,us,rfl,by rw[cc];exact hz,hr,fun j u hu=>?_⟩
     rw[sP,hs];exact hc j u (by simpa using hu)
    ·cases he
   ·rename_i id ik n
    split at he
    ·rename_i ty HQ xs hg
     have ub:=aZ _ _ hg
     split at he
     ·rename_i hs
      cases xH:(decide (0≤n)&&decide (n<(xs.length:Int))) with
      |false=>rw[xH]at he;cases he
      |true =>
       rw[xH]at he
       cases he
       simp only[Bool.and_eq_true,decide_eq_true_eq]at xH
       simp only[ao]at hv hu
       subst hu
       have Xy:=hv.2 (by rw[ub];simp)
       obtain⟨vs,⟨_,e⟩,_⟩:=g.row id (.row ty HQ) xs ub
       rcases e with⟨h0,_⟩|⟨gg,cap,cur,e1,_,e3,_⟩
       ·omega
       ·have hi:∃i,P.info? et=some i:=by
         cases hi:P.info? et with
         |some i=>exact⟨i,rfl⟩
         |none=>exfalso;have:=HQ.gu;simp[Program.cellsOf,hi]at hs;omega
        obtain⟨inf,hi⟩:=hi
        rw[Xy,e1]
        refine⟨_,_,rfl,me ht hi _ xs.length cap ik n xH.1 xH.2,?_⟩
        simp only[ao]
        refine⟨_,rfl,fun _=>?_⟩
        rw[e1,hs,bY];simp[Ov]
     ·cases he
    ·cases he
   ·cases he
theorem q6{t:TypeId}(h:P.cellsOf t≠0):∃i,P.info? t=some i:=by
 cases hi:P.info? t with
 |some i=>exact⟨i,rfl⟩
 |none=>exact absurd (by simp[Program.cellsOf,hi]) h
theorem q7{t:TypeId}{f n:Nat}{ft:TypeId}(hf:fR P t f=some (n,ft))(hc:P.cellsOf ft≠0)(a:Addr) :
  (Instr.fieldAt t (.pointer (some a)) f).run P w=.ok (.pointer (some (a.add n))) w:=by
 unfold fR at hf
 split at hf
 ·rename_i fs ht
  obtain⟨fd,Xz,he⟩:=Option.map_eq_some_iff.1 hf
  cases he
  obtain⟨i,hi⟩:=q6 hc
  have hs:=c6 (P:=P) (w:=w) hi
  simp only[Instr.fieldAt,Sem.run_bind,run_underlying ht,Result.andThen_ok,Xz,Instr.sureAddr,Sem.run_pure,fieldPlace,hs]
  rw[if_neg hc]
  rfl
 ·cases hf
theorem q8{t:TypeId}{f n:Nat}{ft:TypeId}(hf:fR P t f=some (n,ft))(hc:P.cellsOf ft≠0){id s i off:Nat}{v:Value}(hv:ao Z ψ h w (.ref id s i off) v) :
  ∃V,(Instr.fieldAt t v f).run P w=.ok V w∧ao Z ψ h w (.ref id s i (off+n)) V:=by
 simp only[ao]at hv ⊢
 obtain⟨a,rfl,ha⟩:=hv
 refine⟨_,q7 hf hc a,_,rfl,fun bD=>?_⟩
 rw[ha bD,bY,Nat.add_assoc]
theorem sZ{t:TypeId}{f n:Nat}{ft:TypeId}(hf:fR P t f=some (n,ft))(hc:P.cellsOf ft≠0){k:K}{x:k.T}{off:Nat}{v:Value}(hv:ao Z ψ h w (.fp k x off) v) :
  ∃V,(Instr.fieldAt t v f).run P w=.ok V w∧ao Z ψ h w (.fp k x (off+n)) V:=by
 simp only[ao]at hv ⊢
 obtain⟨a,us,rfl,hz,hr,AR⟩:=hv
 refine⟨_,q7 hf hc a,_,us,rfl,by rw[cc];exact hz,hr,fun j u hu=>?_⟩
 rw[sP]
 exact AR (n+j) u (by rw[←Nat.add_assoc];exact hu)
theorem Dy{t ft:TypeId}{f n:Nat}(hf:fR P t f=some (n,ft)){cs:List AV}{x:AV}{v:Value}(hv:ao Z ψ h w (.agg cs) v)(hx:dy P ft (cs.drop n)=some x) :
  ∃V,(Instr.field t v f).run P w=.ok V w∧ao Z ψ h w x V:=by
 simp only[ao]at hv
 obtain⟨vs,rfl,hl⟩:=hv
 have hd:=hl.drop n
 have hlen:=hd.length
 unfold fR at hf
 split at hf
 ·rename_i fs ht
  obtain⟨fd,Xz,he⟩:=Option.map_eq_some_iff.1 hf
  cases he
  unfold dy at hx
  split at hx
  ·rename_i hb
   split at hx
   ·rename_i hle
    cases hx
    obtain⟨i,hi⟩:=vw hb
    refine⟨.agg (vs.extract fd.offset (fd.offset+P.cellsOf fd.type)),?_,?_⟩
    ·simp[Instr.field,run_underlying ht,Xz,asAgg,part,fe hb,c6 hi]
    ·simp only[ao]
     refine⟨_,rfl,?_⟩
     rw[Array.toList_extract,List.extract_eq_take_drop,Nat.add_sub_cancel_left]
     exact hd.take _
   ·cases hx
  ·rename_i hb
   split at hx
   ·rename_i c r hcr
    cases hx
    rw[hcr]at hd
    simp only[ah]at hd
    obtain⟨u,us,hu,h1,_⟩:=hd
    refine⟨u,?_,h1⟩
    have hg:vs[fd.offset]? = some u:=by
     have:(vs.toList.drop fd.offset)[0]? = some u:=by rw[hu];rfl
     rw[List.getElem?_drop]at this;simpa using this
    simp[Instr.field,run_underlying ht,Xz,asAgg,part,fe hb,hg]
   ·cases hx
  ·cases hx
 ·cases hf
theorem Jf{hh:Heap}(g:Good Z ψ h w B0 O)(aZ:∀id o,hh.get id=some o→h id=some o){x:AV}{v:Value}{e:bj}(hv:ao Z ψ h w x v)(he:AL hh x some=some e) :
  ∃n:Nat,e=.val (.int .i64 (n:Int))∧((∃s,x=.str s∧v=.string s∧n=s.size)∨∃A c,v=.slice A n c):=by
 unfold AL at he
 split at he
 ·rename_i s hs
  cases he
  have hx:x=.str s:=by
   cases x with
   |bp id=>simp only[cq]at hs;split at hs<;>cases hs
   |str s'=>simp only[cq]at hs;exact hs
   |_=>simp only[cq]at hs<;>cases hs
  subst hx
  simp only[ao]at hv
  exact⟨_,rfl,.inl ⟨s,rfl,hv,rfl⟩⟩
 ·rename_i ex k xs hs
  cases he
  have Ld:=AQ (Z':=fun b=>Z b∨Own ψ h b) (g.sub aZ) (fun b hb=>.inl hb) (fun id b _ aV hb=>.inr (by
   obtain⟨o,ho⟩:=Option.ne_none_iff_exists'.1 aV
   exact⟨id,by rw[aZ id o ho];simp,hb⟩)) (hv.oI aZ)
  rw[hs]at Ld
  simp only[ao,ax]at Ld
  obtain⟨⟨v',xJ,A,c,rfl,_⟩,_⟩:=Ld
  cases xJ
  exact⟨_,rfl,.inr ⟨A,c,rfl⟩⟩
 ·rename_i hs
  cases he
  have hx:x=.eY:=by
   cases x with
   |bp id=>simp only[cq]at hs;split at hs<;>cases hs
   |eY=>rfl
   |_=>simp only[cq]at hs<;>cases hs
  subst hx
  simp only[ao]at hv
  exact⟨0,rfl,.inr ⟨_,_,hv⟩⟩
 ·cases he
def dw(Z:Nat→Prop)(ψ:Nat→Value)(h:Hp)(w:World):Option AV→Option Value→Prop
 |none,none=>True
 |some a,some v=>ao Z ψ h w a v
 |_,_=>False
theorem bV(k:IntKind)(i:Int)(y:Nat)(code:BoundsCode)(h0:0≤i)(h1:i≤y):(Instr.sliceBound (.int k i) y code).run P w=.ok i.toNat w:=by
 simp[Instr.sliceBound,asIntOf,h0,h1]
theorem rS{b:Bool}{n c:Nat}(hc:n≤c){lo hi mx:Option AV}{F8 sV mx':Option Value}{l u:Int}(h1:dw Z ψ h w lo F8)(h2:dw Z ψ h w hi sV)(h3:dw Z ψ h w mx mx')
  (hb:kz n lo hi=some (l,u)) (ho:aR n l u=true) (hm:mx=none∨(mx=some (.int .i64 u)∧hi≠none)) :
  (Instr.sliceBounds b n c F8 sV mx').run P w=.ok (l.toNat,u.toNat,if mx=none then c else u.toNat) w:=by
 simp only[aR,Bool.and_eq_true,decide_eq_true_eq]at ho
 obtain⟨h4,h5,h6⟩:=ho
 have XA:u≤(c:Int):=by omega
 unfold kz at hb
 rcases hm with rfl|⟨rfl,aV⟩
 ·cases mx' with
  |some _=>exact h3.elim
  |none =>
   split at hb
   all_goals first|(cases hb;done)|skip
   ·cases hb
    cases F8 with
    |some _=>exact h1.elim
    |none =>
     cases sV with
     |some _=>exact h2.elim
     |none=>simp[Instr.sliceBounds]
   ·cases hb
    cases F8 with
    |none=>exact h1.elim
    |some v =>
     simp only[dw,ao]at h1
     subst h1
     cases sV with
     |some _=>exact h2.elim
     |none=>simp[Instr.sliceBounds,bV .i64 l n _ h4 h5]
   ·cases hb
    cases F8 with
    |some _=>exact h1.elim
    |none =>
     cases sV with
     |none=>exact h2.elim
     |some v =>
      simp only[dw,ao]at h2
      subst h2
      cases b<;>simp[Instr.sliceBounds,bV .i64 u c _ (by omega) XA]
   ·cases hb
    cases F8 with
    |none=>exact h1.elim
    |some v =>
     simp only[dw,ao]at h1
     subst h1
     cases sV with
     |none=>exact h2.elim
     |some v =>
      simp only[dw,ao]at h2
      subst h2
      have hx:l≤((u.toNat:Nat):Int):=by omega
      cases b<;>simp[Instr.sliceBounds,bV .i64 u c _ (by omega) XA,bV .i64 l u.toNat _ h4 hx]
 ·cases mx' with
  |none=>exact h3.elim
  |some m =>
   simp only[dw,ao]at h3
   subst h3
   have huu:u≤((u.toNat:Nat):Int):=by omega
   have hx:l≤((u.toNat:Nat):Int):=by omega
   split at hb
   all_goals first|(cases hb;done)|skip
   ·exact absurd rfl aV
   ·exact absurd rfl aV
   ·cases hb
    cases F8 with
    |some _=>exact h1.elim
    |none =>
     cases sV with
     |none=>exact h2.elim
     |some v =>
      simp only[dw,ao]at h2
      subst h2
      cases b<;>simp[Instr.sliceBounds,bV .i64 u c _ (by omega) XA,bV .i64 u u.toNat _ (by omega) huu]
   ·cases hb
    cases F8 with
    |none=>exact h1.elim
    |some v =>
     simp only[dw,ao]at h1
     subst h1
     cases sV with
     |none=>exact h2.elim
     |some v =>
      simp only[dw,ao]at h2
      subst h2
      cases b<;>simp[Instr.sliceBounds,bV .i64 u c _ (by omega) XA,bV .i64 u u.toNat _ (by omega) huu,bV .i64 l u.toNat _ h4 hx]
theorem nt{t e:TypeId}(ht:P.underlying t=some (.slice e)){kk:K}(gO:P.cellsOf e=kk.sz){xs:List kk.T}{v:Value}(hr:ax Z w (.sl kk) xs [v]){lo hi mx:Option AV}{F8 sV mx':Option Value}{l u:Int}
  (h1:dw Z' ψ h w lo F8) (h2:dw Z' ψ h w hi sV) (h3:dw Z' ψ h w mx mx') (hb:kz xs.length lo hi=some (l,u)) (ho:aR xs.length l u=true) (hm:mx=none∨(mx=some (.int .i64 u)∧hi≠none)) :
  ∃V,(Instr.sliceAt t v F8 sV mx').run P w=.ok V w∧ax Z w (.sl kk) (cut xs l u) [V]∧(mx≠none→∃A c,V=.slice A c c):=by
 simp only[ax]at hr
 obtain⟨v',xJ,A,c,rfl,hl,hn,FF⟩:=hr
 cases xJ
 have cW:=rS (P:=P) (w:=w) (b:=true) hl h1 h2 h3 hb ho hm
 simp only[aR,Bool.and_eq_true,decide_eq_true_eq]at ho
 obtain⟨h4,h5,h6⟩:=ho
 obtain⟨i,hi⟩:=q6 (P:=P) (t:=e) (by have:=kk.gu;omega)
 generalize KP:(if mx=none then c else u.toNat)=m at cW
 have hmu:u.toNat≤m:=by
  rcases hm with rfl|⟨rfl,_⟩
  ·simp at KP;omega
  ·simp at KP;omega
 have hmc:m≤c:=by
  rcases hm with rfl|⟨rfl,_⟩
  ·simp at KP;omega
  ·simp at KP;omega
 have sG:(cut xs l u).length=u.toNat-l.toNat:=by
  unfold cut;rw[List.length_drop,List.length_take];omega
 refine⟨.slice (if m=l.toNat then A else A.map (·.add (l.toNat*P.cellsOf e))) (u.toNat-l.toNat) (m-l.toNat),?_,?_,?_⟩
 ·simp[Instr.sliceAt,Instr.slice,run_underlying ht,cW,c6 hi]
 ·simp only[ax]
  refine⟨_,rfl,_,_,by rw[sG],by rw[sG];omega,fun hA=>?_,fun j x hx=>?_⟩
  ·split at hA
   ·have:=hn hA;omega
   ·cases A with
    |none=>have:=hn rfl;omega
    |some a=>cases hA
  ·have hj:j<u.toNat-l.toNat:=by rw[←sG];exact(List.getElem?_eq_some_iff.1 hx).1
   have TN:xs[l.toNat+j]? = some x:=by
    unfold cut at hx
    rw[List.getElem?_drop,List.getElem?_take,if_pos (by omega)]at hx
    exact hx
   obtain⟨a,us,rfl,hz,hr,hc⟩:=FF _ _ TN
   refine⟨a.add (l.toNat*P.cellsOf e),us,by rw[if_neg (by omega)];rfl,by rw[cc];exact hz,hr,fun q y hy=>?_⟩
   rw[sP,gO]
   have:=hc q y hy
   rw[Nat.add_mul]at this
   rw[←Nat.add_assoc];exact this
 ·intro aV
  rcases hm with rfl|⟨rfl,_⟩
  ·exact absurd rfl aV
  ·simp at KP
   exact⟨_,_,by rw[←KP]⟩
theorem Dz{hh:Heap}(g:Good Z ψ h w B0 O)(aZ:∀id o,hh.get id=some o→h id=some o){t e:TypeId}(ht:P.underlying t=some (.slice e)){x:AV}{v:Value}{lo hi mx:Option AV}{F8 sV mx':Option Value}{ef:bj}
  (hv:ao Z ψ h w x v) (h1:dw Z ψ h w lo F8) (h2:dw Z ψ h w hi sV) (h3:dw Z ψ h w mx mx') (lB:∀y hw,ef=.wr y hw→hh.get=h) (he:p7 hh (P.cellsOf e) x lo hi mx some=some ef) (Rk:(P.info? e).isSome=true) :
  ∃V Z',(Instr.sliceAt t v F8 sV mx').run P w=.ok V w∧Next Z ψ h w B0 O N Z' ψ (ef.hp h) w∧ao Z' ψ (ef.hp h) w ef.v V:=by
 unfold p7 at he
 split at he
 ·
  simp only[ao]at hv
  subst hv
  split at he
  ·rename_i l u hb
   cases ho:aR 0 l u with
   |false=>rw[ho]at he;cases he
   |true =>
    rw[ho]at he
    cases he
    have cW:=rS (P:=P) (w:=w) (b:=true) (Nat.le_refl 0) h1 h2 h3 hb ho (.inl rfl)
    simp only[aR,Bool.and_eq_true,decide_eq_true_eq]at ho
    have hl0:l.toNat=0:=by omega
    have hu0:u.toNat=0:=by omega
    obtain⟨i,hi⟩:=Option.isSome_iff_exists.1 Rk
    refine⟨.slice none 0 0,Z,?_,Next.refl g,by simp only[bj.v,ao]⟩
    rw[hl0,hu0]at cW
    simp[Instr.sliceAt,Instr.slice,run_underlying ht,cW,c6 hi]
  ·cases he
 ·
  rename_i ex kk xs
  simp only[ao]at hv
  split at he
  ·rename_i gO
   split at he
   ·rename_i l u hb
    split at he
    ·cases ho:aR xs.length l u with
     |false=>rw[ho]at he;cases he
     |true =>
      rw[ho]at he
      cases he
      obtain⟨V,h4,h5,_⟩:=nt (P:=P) ht gO hv.1 h1 h2 h3 hb ho (.inl rfl)
      exact⟨V,Z,h4,Next.refl g,by simp only[bj.v,bj.hp,ao];exact⟨h5,by simp⟩⟩
    ·rename_i m
     cases ho:(aR xs.length l u&&(hi.isSome&&decide (m=u))) with
     |false=>rw[ho]at he;cases he
     |true =>
      rw[ho]at he
      cases he
      simp only[Bool.and_eq_true,decide_eq_true_eq]at ho
      obtain⟨ho,TO,rfl⟩:=ho
      obtain⟨V,h4,h5,h6⟩:=nt (P:=P) ht gO hv.1 h1 h2 h3 hb ho (.inr ⟨rfl,by intro e;rw[e]at TO;cases TO⟩)
      exact⟨V,Z,h4,Next.refl g,by simp only[bj.v,bj.hp,ao];exact⟨h5,fun _=>h6 (by simp)⟩⟩
    ·cases he
   ·cases he
  ·cases he
 ·
  rename_i id
  split at he
  ·rename_i ty kk xs hg
   have ub:=aZ _ _ hg
   have Xy:=hv
   simp only[ao]at Xy
   have Yg:=Xy.2 (by rw[ub];simp)
   obtain⟨vs,Le,s5⟩:=g.row id (.row ty kk) xs ub
   let Z1:Nat→Prop:=fun b=>Z b∨ob (ψ id)=some b
   have hd:ax Z1 w (.sl kk) xs [v]:=by rw[Yg];exact sR Le s5 (fun b hb=>.inl hb) (fun b hb=>.inr hb)
   have Qh:∀hw:Hp,hw=dv h id none→Next Z ψ h w B0 O N Z1 ψ hw w:=by
    rintro hw rfl
    have hs:∀i o,dv h id none i=some o→h i=some o:=fun i o hi=>by
     by_cases e:i=id
     ·subst e;rw[aS]at hi;cases hi
     ·rwa [cw _ _ e]at hi
    have gg:=g.freeze hs (fun b hb=>.inl hb) (fun b (hb:Z1 b)=>hb.imp (fun h=>h) (fun hb=>⟨id,by rw[ub];simp,aS _ _ _,hb⟩))
    refine⟨fun b hb=>.inl hb,fun b hb=>hb.imp (fun h=>h) (fun hb=>.inl ⟨id,by rw[ub];simp,hb⟩),cF.refl _ _ _,fun i hi=>?_,gg⟩
    obtain⟨o,ho⟩:=Option.ne_none_iff_exists'.1 hi
    exact .inl ⟨by rw[hs i o ho];simp,rfl⟩
   have La:dw Z ψ h w lo F8:=h1
   split at he
   ·rename_i gO
    split at he
    ·rename_i l u hb
     split at he
     ·cases ho:aR xs.length l u with
      |false=>rw[ho]at he;cases he
      |true =>
       rw[ho]at he
       cases he
       have heq:=lB _ _ rfl
       obtain⟨V,h4,h5,_⟩:=nt (P:=P) ht gO hd h1 h2 h3 hb ho (.inl rfl)
       exact⟨V,Z1,h4,Qh _ (by simp only[bj.hp];rw[sY,heq]),by simp only[bj.v,bj.hp,ao];exact⟨h5,by simp⟩⟩
     ·rename_i m
      cases ho:(aR xs.length l u&&(hi.isSome&&decide (m=u))) with
      |false=>rw[ho]at he;cases he
      |true =>
       rw[ho]at he
       cases he
       have heq:=lB _ _ rfl
       simp only[Bool.and_eq_true,decide_eq_true_eq]at ho
       obtain⟨ho,TO,rfl⟩:=ho
       obtain⟨V,h4,h5,h6⟩:=nt (P:=P) ht gO hd h1 h2 h3 hb ho (.inr ⟨rfl,by intro e;rw[e]at TO;cases TO⟩)
       exact⟨V,Z1,h4,Qh _ (by simp only[bj.hp];rw[sY,heq]),by simp only[bj.v,bj.hp,ao];exact⟨h5,fun _=>h6 (by simp)⟩⟩
     ·cases he
    ·cases he
   ·cases he
  ·cases he
 ·cases he
end Go.Vs
set_option linter.unusedSimpArgs false
set_option linter.unusedVariables false
namespace Go.Vs
variable {P:Program} {Z Z':Nat→Prop} {ψ ψ':Nat→Value} {h h':Hp} {w w':World} {B0:Nat} {O:Nat→Prop} {N:Nat→Prop}
def kD(P:Program)(t:TypeId)(k:K):Prop :=
 ∀(Z:Nat→Prop) (w:World) (x y:k.T) (xs ys:Array Value),ax Z w k x xs.toList→ax Z w k y ys.toList →
  (Op.equal t (.agg xs) (.agg ys)).run P w=.ok (p4 k x y) w∧(∀(op:BinOp) (a b:Operand),(eqGuard op t a b (.agg xs) (.agg ys)).run P w=.ok () w)∧∀e:Bool,(Instr.checkKey e 10000 t (.agg xs)).run P w=.ok () w
theorem uo(op:BinOp)(t:TypeId)(a b:Operand)(k k':IntKind)(x y:Int):(eqGuard op t a b (.int k x) (.int k' y)).run P w=.ok () w:=by cases op<;>simp[eqGuard]
theorem Jg(op:BinOp)(t:TypeId)(a b:Operand)(x y:ByteArray):(eqGuard op t a b (.string x) (.string y)).run P w=.ok () w:=by cases op<;>simp[eqGuard]
theorem F9(op:BinOp)(t:TypeId)(a b:Operand)(x y:Bool):(eqGuard op t a b (.bool x) (.bool y)).run P w=.ok () w:=by cases op<;>simp[eqGuard]
theorem AU(op:BinOp)(t:TypeId)(a b:Operand)(x y:Option Addr):(eqGuard op t a b (.pointer x) (.pointer y)).run P w=.ok () w:=by cases op<;>simp[eqGuard]
def bE:AV→Value
 |.bool b=>.bool b
 |.int k n=>.int k n
 |.str s=>.string s
 |_=>undef
theorem iW(k:IntKind)(n:Int):ao Z ψ h w (.int k n) (bE (.int k n)):=by simp only[ao,bE]
theorem dC(b:Bool):ao Z ψ h w (.bool b) (bE (.bool b)):=by simp only[ao,bE]
theorem ju{t e:TypeId}(ht:P.underlying t=some (.pointer e))(a:Option Addr):(Op.equal t (.pointer a) (.pointer none)).run P w=.ok a.isNone w:=by
 have key:∀d,(Op.equalIn (d+1) t (.pointer a) (.pointer none)).run P w=.ok a.isNone w:=fun d=>by
  cases a<;>simp[Op.equalIn,run_underlying ht]
 exact key 9999
theorem Lf{op:BinOp}{t:TypeId}{k:IntKind}{a b:Int}{v:AV}(hv:Q8 op k a b=some v):∃V,(binOp op t (.int k a) (.int k b)).run P w=.ok V w∧ao Z ψ h w v V:=by
 cases op<;>simp only[Q8]at hv<;>cases hv<;>first
  |(refine⟨bE (.int _ _),?_,iW _ _⟩;simp[binOp,Op.intArith,Op.intCmp,bE];done)
  |(refine⟨bE (.bool _),?_,dC _⟩;simp[binOp,Op.intArith,Op.intCmp,bE];done)
  |(refine⟨bE (.int _ _),?_,iW _ _⟩;simp only[binOp,bE,ne_eq,not_true_eq_false,if_false];rfl)
theorem Jh{Eqs:TypeId→Option K}(Ag:∀t k,Eqs t=some k→kD P t k){op:BinOp}{t:TypeId}{xo yo:Operand}{x y:AV}{u v:Value}{e:bj}(hu:ao Z ψ h w x u)(hv:ao Z ψ h w y v)(he:vq P Eqs op t x y some=some e) :
  ∃r V,e=.val r∧((do eqGuard op t xo yo u v;binOp op t u v:Sem Value)).run P w=.ok V w∧ao Z ψ h w r V:=by
 unfold vq at he
 split at he
 ·rename_i k a k' b
  simp only[ao]at hu hv
  subst hu;subst hv
  split at he
  ·cases hb:decide (b<0) with
   |true=>rw[hb]at he;cases he
   |false =>
    rw[hb]at he;cases he
    have Rl:¬b<0:=by simpa using hb
    exact⟨_,bE (.int _ _),rfl,by simp[uo,binOp,Op.shift,Rl,bE,TD],iW _ _⟩
  ·cases hb:decide (b<0) with
   |true=>rw[hb]at he;cases he
   |false =>
    rw[hb]at he;cases he
    have Rl:¬b<0:=by simpa using hb
    exact⟨_,bE (.int _ _),rfl,by simp[uo,binOp,Op.shift,Rl,bE,j8],iW _ _⟩
  split at he
  ·rename_i hk
   subst hk
   simp only[Sem.run_bind,uo,Result.andThen_ok]
   split at he
   ·cases hb:(b==0) with
    |true=>rw[hb]at he;cases he
    |false =>
     rw[hb]at he;cases he
     have Rl:b≠0:=by simpa using hb
     exact⟨_,bE (.int _ _),rfl,by simp[binOp,Op.intDiv,Rl,bE],iW _ _⟩
   ·cases hb:(b==0) with
    |true=>rw[hb]at he;cases he
    |false =>
     rw[hb]at he;cases he
     have Rl:b≠0:=by simpa using hb
     exact⟨_,bE (.int _ _),rfl,by simp[binOp,Op.intDiv,Rl,bE],iW _ _⟩
   ·split at he
    ·rename_i v hv
     cases he
     obtain⟨V,h1,h2⟩:=Lf (P:=P) (t:=t) (w:=w) (Z:=Z) (ψ:=ψ) (h:=h) hv
     exact⟨_,V,rfl,h1,h2⟩
    ·cases he
  ·cases he
 ·rename_i a b
  simp only[ao]at hu hv
  subst hu;subst hv
  simp only[Sem.run_bind,Jg,Result.andThen_ok]
  cases op<;>simp only[TE]at he<;>first|(cases he;done)|(cases he;exact⟨_,bE (.bool _),rfl,by simp[binOp,Op.stringOp,←beq_toListBytes,bE],dC _⟩)
 ·rename_i a b
  simp only[ao]at hu hv
  subst hu;subst hv
  simp only[Sem.run_bind,F9,Result.andThen_ok]
  have key:(P.underlying t).map B5=some true→P.underlying t=some .bool:=fun hm=>by
   obtain⟨d,hd,he⟩:=Option.map_eq_some_iff.1 hm
   cases d<;>simp[B5]at he
   exact hd
  split at he
  ·rename_i hm
   cases he
   exact⟨_,bE (.bool _),rfl,by simp[binOp,Op.equal,Op.maxDepth,run_equalIn_bool' (P:=P) w 9999 t a b (key hm),bE],dC _⟩
  ·rename_i hm
   cases he
   exact⟨_,bE (.bool _),rfl,by simp[binOp,Op.equal,Op.maxDepth,run_equalIn_bool' (P:=P) w 9999 t a b (key hm),bE],dC _⟩
  ·cases he
 ·rename_i a b
  split at he
  ·cases he
  ·rename_i k hk
   simp only[ao]at hu hv
   obtain⟨xs,rfl,hx⟩:=hu
   obtain⟨ys,rfl,hy⟩:=hv
   split at he
   ·rename_i x y Yh Yi
    cases he
    obtain⟨h1,h2,_⟩:=Ag t k hk Z w x y xs ys (dg Yh hx) (dg Yi hy)
    exact⟨_,bE (.bool _),rfl,by simp only[Sem.run_bind,h2,Result.andThen_ok,binOp,h1,Sem.run_pure,bE],dC _⟩
   ·rename_i x y Yh Yi
    cases he
    obtain⟨h1,h2,_⟩:=Ag t k hk Z w x y xs ys (dg Yh hx) (dg Yi hy)
    exact⟨_,bE (.bool _),rfl,by simp only[Sem.run_bind,h2,Result.andThen_ok,binOp,h1,Sem.run_pure,bE],dC _⟩
   ·cases he
 ·simp only[ao]at hu hv
  subst hu;subst hv
  have key:(P.underlying t).map ug=some true→∃e,P.underlying t=some (.pointer e):=fun hm=>by
   obtain⟨d,hd,he⟩:=Option.map_eq_some_iff.1 hm
   cases d<;>simp[ug]at he
   exact⟨_,hd⟩
  simp only[Sem.run_bind,AU,Result.andThen_ok]
  split at he
  ·rename_i hm
   cases he
   obtain⟨et,ht⟩:=key hm
   exact⟨_,bE (.bool _),rfl,by simp only[binOp,Sem.run_bind,ju ht,Result.andThen_ok,Sem.run_pure,bE,Option.isNone_none,Option.isNone_some,Bool.not_true,Bool.not_false],dC _⟩
  ·rename_i hm
   cases he
   obtain⟨et,ht⟩:=key hm
   exact⟨_,bE (.bool _),rfl,by simp only[binOp,Sem.run_bind,ju ht,Result.andThen_ok,Sem.run_pure,bE,Option.isNone_none,Option.isNone_some,Bool.not_true,Bool.not_false],dC _⟩
  ·cases he
 ·simp only[ao]at hu hv
  obtain⟨a,rfl,_⟩:=hu
  subst hv
  have key:(P.underlying t).map ug=some true→∃e,P.underlying t=some (.pointer e):=fun hm=>by
   obtain⟨d,hd,he⟩:=Option.map_eq_some_iff.1 hm
   cases d<;>simp[ug]at he
   exact⟨_,hd⟩
  simp only[Sem.run_bind,AU,Result.andThen_ok]
  split at he
  ·rename_i hm
   cases he
   obtain⟨et,ht⟩:=key hm
   exact⟨_,bE (.bool _),rfl,by simp only[binOp,Sem.run_bind,ju ht,Result.andThen_ok,Sem.run_pure,bE,Option.isNone_none,Option.isNone_some,Bool.not_true,Bool.not_false],dC _⟩
  ·rename_i hm
   cases he
   obtain⟨et,ht⟩:=key hm
   exact⟨_,bE (.bool _),rfl,by simp only[binOp,Sem.run_bind,ju ht,Result.andThen_ok,Sem.run_pure,bE,Option.isNone_none,Option.isNone_some,Bool.not_true,Bool.not_false],dC _⟩
  ·cases he
 ·cases he
theorem Ji{a:AV}{v:Value}(hp:ue a=true)(hr:ao Z ψ h w a v):v.oneCell'=true:=by
 cases a with
 |no=>cases hp
 |agg cs=>cases hp
 |ml cs=>cases hp
 |bool b=>simp only[ao]at hr;subst hr;rfl
 |int k n=>simp only[ao]at hr;subst hr;rfl
 |str s=>simp only[ao]at hr;subst hr;rfl
 |kx=>simp only[ao]at hr;subst hr;rfl
 |eY=>simp only[ao]at hr;subst hr;rfl
 |ref id s i off=>simp only[ao]at hr;obtain⟨a,rfl,_⟩:=hr;rfl
 |fp k x off=>simp only[ao]at hr;obtain⟨a,us,rfl,_⟩:=hr;rfl
 |sl ex k xs=>simp only[ao,ax]at hr;obtain⟨⟨v',hv,A,c,rfl,_⟩,_⟩:=hr;cases hv;rfl
 |bp id=>simp only[ao]at hr;exact hr.1.2
 |mp kk vk es=>simp only[ao,ax]at hr;obtain⟨A,hv,_⟩:=hr;cases hv;rfl
 |fn f cap=>simp only[ao]at hr;obtain⟨vs,rfl,_⟩:=hr;rfl
theorem rT:∀{cs:List AV} {vs:List Value},cs.all ue=true→ah Z ψ h w cs vs→∀u∈vs,u.oneCell'=true
 |[],_,_,hr,u,hu=>by simp only[ah]at hr;subst hr;simp at hu
 |c::r,_,hp,hr,u,hu=>by
  simp only[List.all_cons,Bool.and_eq_true]at hp
  simp only[ah]at hr
  obtain⟨v,us,rfl,h1,h2⟩:=hr
  rcases List.mem_cons.1 hu with rfl|hu
  ·exact Ji hp.1 h1
  ·exact rT hp.2 h2 u hu
theorem DA{a:AV}(hp:a.cells.all ue=true):a≠.no:=by rintro rfl;simp[AV.cells,ue]at hp
theorem qi{id:Nat}:∀{cs:List AV},FP id cs=true→AV.bp id∉cs
 |[],_=>by simp
 |c::r,hn=>by
  intro hm
  cases c with
  |bp i =>
   simp only[FP,Bool.and_eq_true,Bool.not_eq_true',beq_eq_false_iff_ne]at hn
   rcases List.mem_cons.1 hm with e|hm
   ·cases e;exact hn.1 rfl
   ·exact qi hn.2 hm
  |_ =>
   simp only[FP]at hn
   rcases List.mem_cons.1 hm with e|hm
   ·cases e
   ·exact qi hn hm
theorem vB{hh:Heap}(g:Good Z ψ hh.get w B0 O){t:TypeId}{a x:AV}{u v:Value}{e:bj}(hu:ao Z ψ hh.get w a u)(hv:ao Z ψ hh.get w x v)(he:p6 P hh t a x some=some e) :
  ∃hw w' Z',e=.wr .no hw∧(Instr.storeAt t u v).run P w=.ok () w'∧Next Z ψ hh.get w B0 O N Z' ψ hw.get w':=by
 unfold p6 at he
 split at he
 ·rename_i hc
  obtain⟨hlen,OD,pn⟩:=hc
  obtain⟨inf,OD⟩:=Option.isSome_iff_exists.1 OD
  have KN:=hv.cells (DA pn)
  have Cd:=rT pn KN
  have sG:=KN.length
  simp only[Array.length_toList]at sG
  split at he
  ·rename_i id s i off
   simp only[ao]at hu
   obtain⟨a,rfl,ha⟩:=hu
   split at he
   ·rename_i ty cs hg
    split at he
    ·rename_i hc
     obtain⟨rfl,TP⟩:=hc
     cases he
     have Dl:=ha (by rw[hg];simp)
     obtain⟨w',h1,h2⟩:=xy (P:=P) (N:=N) g hg OD KN Cd (by omega) TP (a:=a) (by rw[Dl];simp)
     exact⟨_,w',Z,rfl,h1,by rw[lA];exact h2⟩
    ·cases he
   ·rename_i ty kk xs hg
    obtain⟨y,hx,N2⟩:=Option.bind_eq_some_iff.1 he
    clear he
    split at N2
    ·rename_i hc
     obtain⟨rfl,TP,pj⟩:=hc
     split at N2
     ·rename_i z hz
      cases N2
      have Dl:=ha (by rw[hg];simp)
      have bD:=qi pj
      have gd:=gy g x.cells
      have Yj:(cm hh x.cells).get id=some (.own (.row ty kk) xs):=by rw[nq _ _ _ bD];exact hg
      have Rm:=mB (Z':=oP Z ψ hh.get x.cells) g (fun b hb=>.inl hb) (fun i b hm aV hb=>.inr ⟨i,hm,aV,hb⟩) KN
      obtain⟨w',h1,h2⟩:=xC (P:=P) (N:=N) gd Yj OD hx (y:=z) (off:=off) (V:=v) (by omega) (by omega) (a:=a) Dl (fun us Ta=>by
       have h3:=(gk (ψ:=ψ) (h:=hh.get) Ta)
       have h4:=dg hz (Rm.du off h3)
       rwa [qg _ _ _ (by rw[Array.length_toList,Ta.len];omega),Array.length_toList]at h4) Cd
      refine⟨_,w',oP Z ψ hh.get x.cells,rfl,h1,?_⟩
      rw[show((stored hh x.cells).2.set id (.own (.row ty kk) (xs.set i z))).get=dv (cm hh x.cells).get id (some (.own (.row ty kk) (xs.set i z))) from lA _ _ _]
      exact h2.drop (fun b hb=>.inl hb) (fun b hb=>hb.imp (fun h=>h) (fun⟨i,_,h5,h6⟩=>⟨i,h5,h6⟩)) (dz _ _)
     ·cases N2
    ·cases N2
   ·cases he
  ·cases he
 ·cases he
end Go.Vs
namespace Go.Vs
variable {P:Program} {Z Z':Nat→Prop} {ψ ψ':Nat→Value} {h h':Hp} {w w':World} {B0:Nat} {O:Nat→Prop} {N:Nat→Prop}
theorem Lg{a:AV}{v:Value}(ha:a.isAgg=true)(hr:ao Z ψ h w a v):∃vs,v=.agg vs:=by
 cases a<;>simp[AV.isAgg]at ha
 simp only[ao]at hr
 obtain⟨vs,rfl,_⟩:=hr
 exact⟨vs,rfl⟩
theorem AW{a:AV}{v:Value}(ha:a.isAgg=false)(pj:a≠.no)(hr:ao Z ψ h w a v):v.cells=#[v]:=by
 cases a with
 |no=>exact absurd rfl pj
 |agg cs=>simp[AV.isAgg]at ha
 |bool b=>simp only[ao]at hr;subst hr;rfl
 |int k n=>simp only[ao]at hr;subst hr;rfl
 |str s=>simp only[ao]at hr;subst hr;rfl
 |kx=>simp only[ao]at hr;subst hr;rfl
 |eY=>simp only[ao]at hr;subst hr;rfl
 |ref id s i off=>simp only[ao]at hr;obtain⟨a,rfl,_⟩:=hr;rfl
 |fp k x off=>simp only[ao]at hr;obtain⟨a,us,rfl,_⟩:=hr;rfl
 |sl ex k xs=>simp only[ao,ax]at hr;obtain⟨⟨v',hv,A,c,rfl,_⟩,_⟩:=hr;cases hv;rfl
 |bp id=>simp only[ao]at hr;exact hr.1.1
 |mp kk vk es=>simp only[ao,ax]at hr;obtain⟨A,hv,_⟩:=hr;cases hv;rfl
 |fn f cap=>simp only[ao]at hr;obtain⟨vs,rfl,_⟩:=hr;rfl
 |ml cs=>simp only[ao]at hr;obtain⟨vs,rfl,_⟩:=hr;rfl
theorem rU{hh:Heap}{k:K}{a:AV}{x:k.T}{v:Value}(g:Good Z ψ hh.get w B0 O)(hz:∀b,Z b→Z' b)(hb:∀id b,AV.bp id∈a.cells→hh.get id≠none→ob (ψ id)=some b→Z' b)
  (hx:eU k hh a=some x) (hr:ao Z ψ hh.get w a v):ax Z' w k x v.cells.toList∧(k.isAgg=true→∃vs,v=.agg vs)∧(k.isAgg=false→v.cells=#[v]):=by
 unfold eU at hx
 split at hx
 ·rename_i Qi
  have pj:=AT hx
  have hv:=mB g hz hb (hr.cells pj)
  exact⟨dg hx hv,fun h=>Lg (by rw[←Qi];exact h) hr,fun h=>AW (by rw[←Qi];exact h) pj hr⟩
 ·cases hx
theorem qj{hh:Heap}{k:K}{a:AV}{x:k.T}{v:Value}(g:Good Z ψ hh.get w B0 O)(hz:∀b,Z b→Z' b)(hb:∀id b,AV.bp id∈a.cells→hh.get id≠none→ob (ψ id)=some b→Z' b)
  (hx:eU k hh a=some x) (hr:ao Z ψ hh.get w a v):ao Z' ψ' h' w (bX k x) v:=by
 obtain⟨h1,h2,h3⟩:=rU g hz hb hx hr
 exact kC h1 h2 h3
theorem ax.flat:∀{k:K} {x:k.T} {vs:List Value},k.flat=true→ax Z w k x vs→ax Z' w' k x vs
 |.int _,_,_,_,h=>h
 |.bool,_,_,_,h=>h
 |.str,_,_,_,h=>h
 |.sl k,_,_,hf,_=>by simp[K.flat]at hf
 |.pair a b,x,_,hf,h=>by
  simp only[K.flat,Bool.and_eq_true]at hf
  simp only[ax]at h ⊢
  obtain⟨us,ws,rfl,h1,h2⟩:=h
  exact⟨us,ws,rfl,ax.flat hf.1 h1,ax.flat hf.2 h2⟩
 |.one k,x,_,hf,h=>by
  simp only[ax]at h ⊢
  exact ax.flat (k:=k) (by simpa only[K.flat] using hf) h
theorem wE:∀(k:K) (x y:k.T),k.flat=true→(p4 k x y=true↔x=y)
 |.int _,x,y,_=>by simp only[p4];exact beq_iff_eq (α:=Int)
 |.bool,x,y,_=>by simp only[p4];exact beq_iff_eq (α:=Bool)
 |.str,x,y,_=>by simp only[p4];exact MapKept.bytes_beq x y
 |.sl _,_,_,hf=>by simp[K.flat]at hf
 |.mp _ _,_,_,hf=>by simp[K.flat]at hf
 |.pair a b,x,y,hf=>by
  simp only[K.flat,Bool.and_eq_true]at hf
  simp only[p4,Bool.and_eq_true]
  rw[wE a _ _ hf.1,wE b _ _ hf.2]
  exact⟨fun h=>Prod.ext h.1 h.2,fun h=>⟨congrArg Prod.fst h,congrArg Prod.snd h⟩⟩
 |.one k,x,y,hf=>by simp only[p4];exact wE k x y (by simpa only[K.flat] using hf)
theorem nu:∀{k:K} {x:k.T} {us vs:List Value},k.flat=true→ax Z w k x us→ax Z' w' k x vs→us=vs
 |.int _,_,_,_,_,h1,h2=>by simp only[ax]at h1 h2;rw[h1,h2]
 |.bool,_,_,_,_,h1,h2=>by simp only[ax]at h1 h2;rw[h1,h2]
 |.str,_,_,_,_,h1,h2=>by simp only[ax]at h1 h2;rw[h1,h2]
 |.sl _,_,_,_,hf,_,_=>by simp[K.flat]at hf
 |.mp _ _,_,_,_,hf,_,_=>by simp[K.flat]at hf
 |.pair a b,x,_,_,hf,h1,h2=>by
  simp only[K.flat,Bool.and_eq_true]at hf
  simp only[ax]at h1 h2
  obtain⟨a1,a2,rfl,h3,h4⟩:=h1
  obtain⟨b1,b2,rfl,h5,h6⟩:=h2
  rw[nu hf.1 h3 h5,nu hf.2 h4 h6]
 |.one k,x,_,_,hf,h1,h2=>by
  simp only[ax]at h1 h2
  exact nu (k:=k) (by simpa only[K.flat] using hf) h1 h2
theorem qk:∀{k:K} {x:k.T} {us:List Value},k.flat=true→ax Z w k x us→∀u∈us,∀n,Instr.sameBits n u u=true
 |.int _,x,_,_,h1,u,hu,n=>by simp only[ax]at h1;subst h1;simp only[List.mem_singleton]at hu;subst hu;cases n<;>simp[Instr.sameBits]<;>exact beq_self_eq_true (α:=Int) x
 |.bool,x,_,_,h1,u,hu,n=>by simp only[ax]at h1;subst h1;simp only[List.mem_singleton]at hu;subst hu;cases n<;>simp[Instr.sameBits]<;>exact beq_self_eq_true (α:=Bool) x
 |.str,x,_,_,h1,u,hu,n=>by simp only[ax]at h1;subst h1;simp only[List.mem_singleton]at hu;subst hu;cases n<;>simp[Instr.sameBits]<;>exact(MapKept.bytes_beq x x).2 rfl
 |.sl _,_,_,hf,_,_,_,_=>by simp[K.flat]at hf
 |.mp _ _,_,_,hf,_,_,_,_=>by simp[K.flat]at hf
 |.pair a b,x,_,hf,h1,u,hu,n=>by
  simp only[K.flat,Bool.and_eq_true]at hf
  simp only[ax]at h1
  obtain⟨a1,a2,rfl,h3,h4⟩:=h1
  rcases List.mem_append.1 hu with hu|hu
  ·exact qk hf.1 h3 u hu n
  ·exact qk hf.2 h4 u hu n
 |.one k,x,_,hf,h1,u,hu,n=>by
  simp only[ax]at h1
  exact qk (k:=k) (by simpa only[K.flat] using hf) h1 u hu n
def FG(b:Bool)(v:Value):Prop:=(b=true→∃vs,v=.agg vs)∧(b=false→v.cells=#[v])
theorem Jj{b:Bool}{u v:Value}(h1:FG b u)(h2:FG b v)(h:u.cells.toList=v.cells.toList):u=v:=by
 cases b with
 |true =>
  obtain⟨a,rfl⟩:=h1.1 rfl
  obtain⟨c,rfl⟩:=h2.1 rfl
  have:a=c:=by simpa[Value.cells] using h
  rw[this]
 |false =>
  rw[h1.2 rfl,h2.2 rfl]at h
  simpa using h
theorem Lh{k:K}{x:k.T}{u:Value}(hf:k.flat=true)(hr:ax Z w k x u.cells.toList)(hs:FG k.isAgg u):Instr.sameBits 10000 u u=true:=by
 have hb:=qk hf hr
 cases hk:k.isAgg with
 |false=>exact hb u (by rw[hs.2 hk];simp) _
 |true =>
  obtain⟨a,rfl⟩:=hs.1 hk
  show Instr.sameBits (9999+1) (.agg a) (.agg a)=true
  simp only[Instr.sameBits,beq_self_eq_true,Bool.true_and,List.all_eq_true]
  intro p hp
  obtain⟨i,hi,he⟩:=List.mem_iff_getElem.1 hp
  simp only[List.getElem_zip]at he
  subst he
  exact hb _ (List.getElem_mem (l:=(Value.agg a).cells.toList) (by simpa[Value.cells] using hi)) _
def Keys(Z:Nat→Prop)(w:World)(k:K)(ys:List k.T)(l:List MapEntry):Prop:=ys.length=l.length∧∀(i:Nat) y e,ys[i]? = some y→l[i]? = some e→ax Z w k y e.key.cells.toList∧FG k.isAgg e.key
theorem Keys.tail{k:K}{y:k.T}{ys:List k.T}{e:MapEntry}{l:List MapEntry}(h:Keys Z w k (y::ys) (e::l)):Keys Z w k ys l:=⟨by simpa using h.1,fun i a b h1 h2=>h.2 (i+1) a b (by simpa using h1) (by simpa using h2)⟩
theorem DB{k:K}{x:k.T}{d:TypeDesc}{kv:Value}(hs:∀y N3,ax Z w k y N3.cells.toList→FG k.isAgg N3→Instr.sameNow d kv N3=some (p4 k x y)):∀(l:List MapEntry) (ys:List k.T) (i:Nat),Keys Z w k ys l →
  Instr.findNow d kv l i=some ((ys.findIdx? (p4 k x)).map fun j=>(i+j,((l[j]?).map (·.val)).getD undef))
 |[],ys,i,h=>by
  have:ys=[]:=List.eq_nil_of_length_eq_zero (by simpa using h.1)
  subst this;rfl
 |e::l,[],i,h=>by have:=h.1;simp at this
 |e::l,y::ys,i,h=>by
  obtain⟨h1,h2⟩:=h.2 0 y e rfl rfl
  have ih:=DB hs l ys (i+1) h.tail
  simp only[Instr.findNow,hs y _ h1 h2,List.findIdx?_cons]
  cases p4 k x y with
  |true=>simp
  |false =>
   simp only[ih,Bool.false_eq_true,if_false]
   cases ys.findIdx? (p4 k x) with
   |none=>rfl
   |some j=>simp;omega
theorem vC{k:K}{x:k.T}{t:TypeId}{kv:Value}(hs:∀y N3,ax Z w k y N3.cells.toList→FG k.isAgg N3→(Op.equal t kv N3).run P w=.ok (p4 k x y) w):∀(l:List MapEntry) (ys:List k.T) (i:Nat),Keys Z w k ys l →
  (Instr.findAsking t kv l i).run P w=.ok ((ys.findIdx? (p4 k x)).map fun j=>(i+j,((l[j]?).map (·.val)).getD undef)) w
 |[],ys,i,h=>by
  have:ys=[]:=List.eq_nil_of_length_eq_zero (by simpa using h.1)
  subst this;rfl
 |e::l,[],i,h=>by have:=h.1;simp at this
 |e::l,y::ys,i,h=>by
  obtain⟨h1,h2⟩:=h.2 0 y e rfl rfl
  have ih:=vC hs l ys (i+1) h.tail
  simp only[Instr.findAsking,Sem.run_bind,hs y _ h1 h2,Result.andThen_ok,List.findIdx?_cons]
  cases p4 k x y with
  |true=>simp
  |false =>
   simp only[ih,Bool.false_eq_true,if_false]
   cases ys.findIdx? (p4 k x) with
   |none=>rfl
   |some j=>simp;omega
structure Li(P:Program)(t:TypeId)(k:K):Prop where
 flat:k.flat=true
 check:∀(Z:Nat→Prop) (w:World) (x:k.T) (kv:Value) (e:Bool),ax Z w k x kv.cells.toList→FG k.isAgg kv→(Instr.checkKey e 10000 t kv).run P w=.ok () w
 find:∀(Z:Nat→Prop) (w:World) (x:k.T) (kv:Value) (l:List MapEntry) (ys:List k.T),ax Z w k x kv.cells.toList→FG k.isAgg kv→Keys Z w k ys l →
  (Instr.findKey t kv l).run P w=.ok ((ys.findIdx? (p4 k x)).map fun j=>(j,((l[j]?).map (·.val)).getD undef)) w
theorem nw{t:TypeId}{k:K}{d:TypeDesc}(hf:k.flat=true)(hk:k.isAgg=false)(hd:P.underlying t=some d)(hc:∀(Z:Nat→Prop) (w:World) (x:k.T) (kv:Value),ax Z w k x [kv]→MapKept.IsKey d kv)
  (hs:∀(Z:Nat→Prop) (w:World) (x y:k.T) (u v:Value),ax Z w k x [u]→ax Z w k y [v]→Instr.sameNow d u v=some (p4 k x y)):Li P t k:=by
 have one:∀{Z:Nat→Prop} {w:World} {x:k.T} {kv:Value},ax Z w k x kv.cells.toList→FG k.isAgg kv→ax Z w k x [kv]:=fun {Z w x kv} h1 h2=>by
  rw[h2.2 hk]at h1;exact h1
 refine⟨hf,fun Z w x kv e h1 h2=>MapKept.run_checkKey hd (hc Z w x kv (one h1 h2)) e 9999,fun Z w x kv l ys h1 h2 h3=>?_⟩
 have:=DB (Z:=Z) (w:=w) (x:=x) (d:=d) (kv:=kv) (fun y N3 h4 h5=>hs Z w x y kv N3 (one h1 h2) (one h4 h5)) l ys 0 h3
 simp only[Nat.zero_add]at this
 exact MapKept.run_findKey hd this
theorem DC(d:TypeDesc)(a:Array Value)(v:Value):Instr.sameNow d (.agg a) v=none:=by cases d<;>cases v<;>rfl
theorem uq{Eqs:TypeId→Option K}(Ag:∀t k,Eqs t=some k→kD P t k){t:TypeId}{k:K}(hk:HS P Eqs t k=true):Li P t k:=by
 unfold HS at hk
 rw[Bool.and_eq_true]at hk
 obtain⟨hf,hk⟩:=hk
 split at hk
 ·rename_i ik S7 hd
  simp only[decide_eq_true_eq]at hk
  subst hk
  exact nw hf rfl hd (fun Z w x kv hr=>by simp only[ax]at hr;cases hr;simp[MapKept.IsKey]) (fun Z w x y u v h1 h2=>by simp only[ax]at h1 h2;cases h1;cases h2;simp[Instr.sameNow,p4])
 ·rename_i hd
  exact nw hf rfl hd (fun Z w x kv hr=>by simp only[ax]at hr;cases hr;simp[MapKept.IsKey]) (fun Z w x y u v h1 h2=>by simp only[ax]at h1 h2;cases h1;cases h2;simp[Instr.sameNow,p4])
 ·rename_i hd
  exact nw hf rfl hd (fun Z w x kv hr=>by simp only[ax]at hr;cases hr;simp[MapKept.IsKey]) (fun Z w x y u v h1 h2=>by simp only[ax]at h1 h2;cases h1;cases h2;simp[Instr.sameNow,p4])
 ·simp only[Bool.and_eq_true,decide_eq_true_eq]at hk
  obtain⟨Qi,hk⟩:=hk
  have fact:=Ag _ _ hk
  have agg:∀{b:Bool} {u:Value},b=true→FG b u→∃a,u=.agg a:=fun hb h=>h.1 hb
  refine⟨hf,fun Z w x kv e h1 h2=>?_,fun Z w x kv l ys h1 h2 h3=>?_⟩
  ·obtain⟨a,rfl⟩:=agg Qi h2
   exact(fact Z w x x a a h1 h1).2.2 e
  ·obtain⟨a,rfl⟩:=agg Qi h2
   have h4:=vC (P:=P) (t:=t) (Z:=Z) (w:=w) (x:=x) (kv:=.agg a) (fun y N3 h4 h5=>by
    obtain⟨b,rfl⟩:=agg Qi h5
    exact(fact Z w x y a b h1 h4).1) l ys 0 h3
   simp only[Nat.zero_add]at h4
   cases l with
   |nil =>
    have:ys=[]:=List.eq_nil_of_length_eq_zero (by simpa using h3.1)
    subst this
    cases hu:P.underlying t with
    |none =>
     have hc:=(fact Z w x x a a h1 h1).2.2 true
     exfalso
     unfold Instr.checkKey at hc
     simp[underlying,hu]at hc
    |some d=>simp[Instr.findKey,run_underlying hu,Instr.findNow]
   |cons e l =>
    cases hu:P.underlying t with
    |none =>
     have hc:=(fact Z w x x a a h1 h1).2.2 true
     exfalso
     unfold Instr.checkKey at hc
     simp[underlying,hu]at hc
    |some d=>simp only[Instr.findKey,Sem.run_bind,run_underlying hu,Result.andThen_ok,Instr.findNow,DC];exact h4
section
variable {kk vk:K} {es:List (kk.T×vk.T)} {l:List MapEntry}
abbrev jz(Z:Nat→Prop)(w:World)(kk vk:K)(es:List (kk.T×vk.T))(l:List MapEntry):Prop:=B8 (ax Z w kk) (ax Z w vk) kk.isAgg vk.isAgg es l
theorem jz.keys(h:jz Z w kk vk es l):Keys Z w kk (es.map (·.1)) l :=
 ⟨by rw[List.length_map];exact h.1,fun i y e h1 h2=>by
  rw[List.getElem?_map]at h1
  obtain⟨x,h3,rfl⟩:=Option.map_eq_some_iff.1 h1
  exact(h.2 i x e h3 h2).1⟩
theorem xK{x:kk.T}:(es.map (·.1)).findIdx? (p4 kk x)=rK kk x es:=by unfold rK;rw[List.findIdx?_map];rfl
theorem Ce{x:kk.T}{i:Nat}(h:rK kk x es=some i):i<es.length:=by
 unfold rK at h
 exact(List.findIdx?_eq_some_iff_getElem.1 h).1
theorem OE{x:kk.T}{i:Nat}(h:rK kk x es=some i):∃e,es[i]? = some e∧p4 kk x e.1=true:=by
 unfold rK at h
 obtain⟨h1,h2,_⟩:=List.findIdx?_eq_some_iff_getElem.1 h
 exact⟨_,List.getElem?_eq_getElem h1,h2⟩
def Lj(Z:Nat→Prop)(w:World)(kk vk:K)(x:kk.T×vk.T)(e:MapEntry):Prop:=(ax Z w kk x.1 e.key.cells.toList∧FG kk.isAgg e.key)∧ax Z w vk x.2 e.val.cells.toList∧FG vk.isAgg e.val
theorem jz.set(h:jz Z w kk vk es l)(i:Nat){x:kk.T×vk.T}{f:MapEntry→MapEntry}(ho:∀e,l[i]? = some e→Lj Z w kk vk x (f e)):jz Z w kk vk (es.set i x) (l.modify i f):=by
 refine⟨by simp[h.1],fun j y e h1 h2=>?_⟩
 rw[List.getElem?_modify]at h2
 obtain⟨e0,h3,h4⟩:=Option.map_eq_some_iff.1 h2
 by_cases xL:i=j
 ·subst xL
  rw[if_pos rfl]at h4
  have aE:i<es.length:=by rw[h.1];exact(List.getElem?_eq_some_iff.1 h3).1
  rw[List.getElem?_set_self aE]at h1
  cases h1
  subst h4
  exact ho e0 h3
 ·rw[if_neg xL]at h4
  rw[List.getElem?_set_ne xL]at h1
  subst h4
  exact h.2 j y e0 h1 h3
theorem jz.push(h:jz Z w kk vk es l){x:kk.T×vk.T}{e:MapEntry}(ho:Lj Z w kk vk x e):jz Z w kk vk (es++[x]) (l++[e]):=by
 refine⟨by simp[h.1],fun j y e' h1 h2=>?_⟩
 by_cases hj:j<es.length
 ·rw[List.getElem?_append_left hj]at h1
  rw[List.getElem?_append_left (by rw[←h.1];exact hj)]at h2
  exact h.2 j y e' h1 h2
 ·rw[List.getElem?_append_right (by omega)]at h1
  rw[List.getElem?_append_right (by have:=h.1;omega),←h.1]at h2
  by_cases h0:j-es.length=0
  ·rw[h0]at h1 h2;cases h1;cases h2;exact ho
  ·rw[List.getElem?_eq_none (by simp;omega)]at h1;cases h1
theorem jz.erase(h:jz Z w kk vk es l)(i:Nat):jz Z w kk vk (es.eraseIdx i) (l.eraseIdx i):=by
 refine⟨by rw[List.length_eraseIdx,List.length_eraseIdx,h.1],fun j y e h1 h2=>?_⟩
 rw[List.getElem?_eraseIdx]at h1 h2
 split at h1
 ·rename_i hj;rw[if_pos hj]at h2;exact h.2 j y e h1 h2
 ·rename_i hj;rw[if_neg hj]at h2;exact h.2 (j+1) y e h1 h2
theorem jz.mono(h:jz Z w kk vk es l)(hz:∀b,Z b→Z' b)(hs:b4 Z w w'):jz Z' w' kk vk es l:=B8.imp (fun _ _ h=>h.mono hz hs) (fun _ _ h=>h.mono hz hs) h
end
theorem rW{Eqs:TypeId→Option K}{t:TypeId}{kk vk:K}(h:mapOf P Eqs t=some (kk,vk)):∃a b,P.underlying t=some (.map a b)∧HS P Eqs a kk=true∧HR P b vk=true:=by
 unfold mapOf at h
 split at h
 ·rename_i a b hu
  split at h
  ·split at h
   ·rename_i hc
    cases h
    rw[Bool.and_eq_true]at hc
    exact⟨a,b,hu,hc.1,hc.2⟩
   ·cases h
  ·cases h
 ·cases h
theorem Ga{b:TypeId}{vk:K}(h:HR P b vk=true):∃z,(zeroValue b).run P w=.ok z w∧ax Z w vk (mu vk) z.cells.toList∧FG vk.isAgg z:=by
 unfold HR at h
 split at h
 ·rename_i i hi
  split at h
  ·rename_i z hz
   refine⟨z,sX hi hz,?_⟩
   unfold KZ at h
   split at h
   ·simp only[decide_eq_true_eq]at h;obtain⟨rfl,rfl⟩:=h;exact⟨by simp only[ax];rfl,fun h=>(by cases h),fun _=>rfl⟩
   ·rename_i b;simp only[Bool.not_eq_true']at h;subst h;exact⟨by simp only[ax];rfl,fun h=>(by cases h),fun _=>rfl⟩
   ·simp only[decide_eq_true_eq]at h;subst h;exact⟨by simp only[ax];rfl,fun h=>(by cases h),fun _=>rfl⟩
   ·simp only[decide_eq_true_eq]at h;obtain⟨rfl,rfl,rfl⟩:=h
    exact⟨by simp only[ax];exact⟨_,rfl,none,0,rfl,Nat.le_refl _,fun _=>rfl,fun i x hx=>by simp[mu]at hx⟩,fun h=>(by cases h),fun _=>rfl⟩
   ·cases h
  ·cases h
 ·cases h
theorem HU{hh:Heap}(g:Good Z ψ h w B0 O)(aZ:∀id o,hh.get id=some o→h id=some o){m:AV}{u:Value}{kk vk:K}{es:List (kk.T×vk.T)}(hm:ao Z ψ h w m u)(hv:cq hh m=.mp kk vk es) :
  ∃A,u=.map A∧((A=none∧es=[])∨∃r bH clock,A=some r∧w.heap[r]? = some (.map bH clock)∧jz Z w kk vk es bH.toList):=by
 cases m with
 |mp HQ Oq Lk =>
  simp only[cq]at hv
  cases hv
  simp only[ao,ax]at hm
  obtain⟨A,h1,h2⟩:=hm
  cases h1
  refine⟨A,rfl,h2.imp (fun h=>h) fun⟨m,bH,clock,h3,_,h4,h5⟩=>⟨m,bH,clock,h3,h4,h5⟩⟩
 |bp id =>
  simp only[cq]at hv
  split at hv
  ·cases hv
  ·rename_i HQ Oq Lk hg
   cases hv
   have ub:=aZ _ _ hg
   simp only[ao]at hm
   have:=hm.2 (by rw[ub];simp)
   subst this
   obtain⟨r,bH,clock,h1,h2,h3,_⟩:=g.row id (.map kk vk) es ub
   exact⟨some r,h1,.inr ⟨r,bH,clock,rfl,h2,h3⟩⟩
  ·cases hv
 |_=>simp only[cq]at hv;cases hv
theorem Gb{hh:Heap}(g:Good Z ψ h w B0 O)(aZ:∀id o,hh.get id=some o→h id=some o){k:K}(hf:k.flat=true){a:AV}{x:k.T}{v:Value}(hx:eU k hh a=some x)(hr:ao Z ψ h w a v):ax Z w k x v.cells.toList∧FG k.isAgg v:=by
 obtain⟨h1,h2,h3⟩:=rU (Z':=fun b=>b<w.heap.size) (g.sub aZ) (fun b hb=>g.iR b hb) (fun id b _ h1 h2=>(g.sub aZ).bw ⟨id,h1,h2⟩) hx (hr.less (fun _ h=>h) (b4.refl _ _) (fun id bD=>by
  obtain⟨o,ho⟩:=Option.ne_none_iff_exists'.1 bD
  exact⟨by rw[aZ id o ho];simp,rfl⟩))
 exact⟨h1.flat hf,h2,h3⟩
theorem Cf{Eqs:TypeId→Option K}(Ag:∀t k,Eqs t=some k→kD P t k){hh:Heap}(g:Good Z ψ h w B0 O)(aZ:∀id o,hh.get id=some o→h id=some o){t:TypeId}{m i:AV}{u v:Value}{ok:Bool}{e:bj}
  (hm:ao Z ψ h w m u) (hi:ao Z ψ h w i v) (he:mw P Eqs hh t m i ok some=some e):∃y V,e=.val y∧(Instr.lookup t u v ok).run P w=.ok V w∧ao Z ψ h w y V:=by
 unfold mw at he
 split at he
 ·rename_i ka va kk vk es Tb hv
  split at he
  ·rename_i hc
   obtain⟨rfl,rfl⟩:=hc
   split at he
   ·rename_i x hx
    cases he
    obtain⟨a,b,hu,hk,hz⟩:=rW Tb
    have K:=uq Ag hk
    obtain⟨Gc,nc⟩:=Gb g aZ K.flat hx hi
    obtain⟨z,vA,Af,FE⟩:=Ga (Z:=Z) (w:=w) hz
    have fin:∀(l:List MapEntry),jz Z w kk vk es l→∃V,((∃j,(Instr.findKey a v l).run P w=.ok (some (j,V)) w∧(ia kk x es).isSome=true)∨((Instr.findKey a v l).run P w=.ok none w∧(zeroValue b).run P w=.ok V w∧(ia kk x es).isSome=false)) ∧
      ax Z w vk ((ia kk x es).getD (mu vk)) V.cells.toList∧FG vk.isAgg V:=by
     intro l hE
     have hf:=K.find Z w x v l (es.map (·.1)) Gc nc hE.keys
     rw[xK]at hf
     cases AX:rK kk x es with
     |none =>
      rw[AX]at hf
      exact⟨z,.inr ⟨hf,vA,by simp[ia,AX]⟩,by simpa[ia,AX] using Af,FE⟩
     |some j =>
      rw[AX]at hf
      have hj:=Ce AX
      have h1:es[j]? = some es[j]:=List.getElem?_eq_getElem hj
      have FH:j<l.length:=by rw[←hE.1];exact hj
      have h2:l[j]? = some l[j]:=List.getElem?_eq_getElem FH
      obtain⟨_,h3,h4⟩:=hE.2 j _ _ h1 h2
      refine⟨l[j].val,.inl ⟨j,?_,by simp[ia,AX,h1]⟩,by simpa[ia,AX,h1] using h3,h4⟩
      rw[hf];simp only[Option.map_some,h2,Option.getD_some]
    have out:∀V:Value,ax Z w vk ((ia kk x es).getD (mu vk)) V.cells.toList→FG vk.isAgg V→ao Z ψ h w (cond ok (AV.ml [bX vk ((ia kk x es).getD (mu vk)),.bool (ia kk x es).isSome]) (bX vk ((ia kk x es).getD (mu vk)))) (if ok then .tuple #[V,.bool (ia kk x es).isSome] else V):=by
     intro V h1 h2
     have h3:ao Z ψ h w (bX vk ((ia kk x es).getD (mu vk))) V:=kC h1 h2.1 h2.2
     cases ok with
     |false=>exact h3
     |true=>simp only[cond_true,if_true,ao,ah];exact⟨_,rfl,V,[.bool (ia kk x es).isSome],by simp,h3,_,[],rfl,rfl,rfl⟩
    obtain⟨A,rfl,hA⟩:=HU g aZ hm hv
    rcases hA with⟨rfl,rfl⟩|⟨r,bH,clock,rfl,h3,h4⟩
    ·obtain⟨V,h5,h6,h7⟩:=fin [] ⟨rfl,fun i x e h=>by simp at h⟩
     refine⟨_,_,rfl,?_,out V h6 h7⟩
     simp only[Instr.lookup,Sem.run_bind,run_underlying hu,Result.andThen_ok,Sem.run_pure,K.check Z w x v _ Gc nc]
     rcases h5 with⟨j,h8,h9⟩|⟨h8,h9,l8⟩
     ·simp[h8,h9]
     ·simp[h8,h9,l8]
    ·obtain⟨V,h5,h6,h7⟩:=fin bH.toList h4
     refine⟨_,_,rfl,?_,out V h6 h7⟩
     simp only[Instr.lookup,Sem.run_bind,run_underlying hu,Result.andThen_ok,Sem.run_pure,MapKept.run_getObj_map h3,K.check Z w x v _ Gc nc]
     rcases h5 with⟨j,h8,h9⟩|⟨h8,h9,l8⟩
     ·simp[h8,h9]
     ·simp[h8,h9,l8]
   ·cases he
  ·cases he
 ·cases he
end Go.Vs
namespace Go.Vs
variable {P:Program} {Z Z':Nat→Prop} {ψ ψ':Nat→Value} {h h':Hp} {w w':World} {B0:Nat} {O:Nat→Prop} {N:Nat→Prop}
theorem uu{r b:Nat}(o:Obj)(aV:r≠b):(w.heap.setIfInBounds r o)[b]? = w.heap[b]? := by rw[Array.getElem?_setIfInBounds];simp[aV]
theorem cF.Yk{r:Nat}(ho:Own ψ h r)(o:Obj):cF ψ h w { w with heap:=w.heap.setIfInBounds r o } :=
 ⟨rfl,rfl,rfl,by simp,fun b _ hb=>uu o (fun e=>hb (e▸ho))⟩
theorem ql{hp:Hp}(g:Good Z ψ hp w B0 O){id:Nat}(bD:hp id≠none){r:Nat}(hr:ob (ψ id)=some r)(aE:r<w.heap.size)(o:Obj){ok:OK}{x:ok.T}
  (hx:∀w':World,w'.heap=w.heap.setIfInBounds r o→b4 Z w w'→iL Z w' ok (ψ id) x) :
  Next Z ψ hp w B0 O N Z ψ (dv hp id (some (.own ok x))) { w with heap:=w.heap.setIfInBounds r o }:=by
 have ho:Own ψ hp r:=⟨id,bD,hr⟩
 have kk:=cF.Yk (w:=w) ho o
 refine g.write id bD kk (fun b hb _=>uu o (fun e=>hb (by rw[hr,e]))) _ (fun _ _ he=>by cases he) (fun S8 x' he=>?_)
 cases he
 exact hx _ rfl (kk.same g)
theorem vD{l:List MapEntry}{i:Nat}{f:MapEntry→MapEntry}(hf:∀e,(f e).born=e.born):(l.modify i f).map (·.born)=l.map (·.born):=by
 apply List.ext_getElem?
 intro j
 simp only[List.getElem?_map,List.getElem?_modify]
 cases l[j]? with
 |none=>rfl
 |some e=>simp only[Option.map_some];split<;>simp[hf]
theorem ux{l:List MapEntry}:l.Pairwise (fun a b=>a.born≠b.born)↔(l.map (·.born)).Pairwise (·≠·):=by rw[List.pairwise_map]
theorem s6{Eqs:TypeId→Option K}(Ag:∀t k,Eqs t=some k→kD P t k){hh:Heap}(g:Good Z ψ hh.get w B0 O){t:TypeId}{m i v:AV}{u1 u2 u3:Value}{e:bj}
  (hm:ao Z ψ hh.get w m u1) (hi:ao Z ψ hh.get w i u2) (hv:ao Z ψ hh.get w v u3) (he:gN P Eqs hh t m i v some=some e) :
  ∃hw w' Z',e=.wr (.ml []) hw∧(Instr.mapUpdate t u1 u2 u3).run P w=.ok () w'∧Next Z ψ hh.get w B0 O N Z' ψ hw.get w':=by
 unfold gN at he
 split at he
 ·rename_i ka va id Tb
  split at he
  ·rename_i kk vk es hg
   split at he
   ·rename_i hc
    obtain⟨rfl,rfl⟩:=hc
    split at he
    ·rename_i x y hx hy pj
     cases he
     obtain⟨a,b,hu,hk,_⟩:=rW Tb
     have K:=uq Ag hk
     obtain⟨Gc,nc⟩:=Gb g (fun _ _ h=>h) K.flat hx hi
     simp only[ao]at hm
     have Rn:=hm.2 (by rw[hg];simp)
     obtain⟨r,bH,clock,h1,h2,h3,h4,h5⟩:=g.row id (.map kk vk) es hg
     rw[h1]at Rn
     subst Rn
     have bD:AV.bp id∉v.cells:=fun hc=>by
      have:=List.all_eq_true.1 pj _ hc
      simp at this
     have gd:=gy g v.cells
     have Yj:(cm hh v.cells).get id=some (.own (.map kk vk) es):=by rw[nq _ _ _ bD];exact hg
     obtain⟨s5,vx,hv3⟩:=rU (Z':=oP Z ψ hh.get v.cells) g (fun b hb=>.inl hb) (fun id b h1 h2 h3=>.inr ⟨id,h1,h2,h3⟩) hy hv
     have TQ:ax (oP Z ψ hh.get v.cells) w kk x u2.cells.toList:=Gc.flat K.flat
     have aE:=(Array.getElem?_eq_some_iff.1 h2).1
     have iU:ob (ψ id)=some r:=by rw[h1];rfl
     have hE:jz (oP Z ψ hh.get v.cells) w kk vk es bH.toList:=jz.mono h3 (fun b hb=>.inl hb) (b4.refl _ _)
     have hf:=K.find Z w x u2 bH.toList (es.map (·.1)) Gc nc (jz.keys h3)
     rw[xK]at hf
     have fin:∀(o:Obj) (Lk:List (kk.T×vk.T)) (lC:Array MapEntry) (xM:Nat),o=.map lC xM→jz (oP Z ψ hh.get v.cells) w kk vk Lk lC.toList→(lC.toList.map (·.born)).Pairwise (·≠·)→(∀e∈lC.toList,e.born<xM) →
       Next Z ψ hh.get w B0 O N (oP Z ψ hh.get v.cells) ψ ((cm hh v.cells).set id (.own (.map kk vk) Lk)).get { w with heap:=w.heap.setIfInBounds r o }:=by
      rintro o Lk lC xM rfl h6 h7 h8
      rw[lA]
      have n:=ql (N:=N) gd (by rw[Yj];simp) iU aE (.map lC xM) (ok:=.map kk vk) (x:=Lk) (fun w' Gd sm=>⟨r,lC,xM,h1,by rw[Gd];simp[aE],jz.mono h6 (fun _ h=>h) sm,ux.2 h7,h8⟩)
      exact n.drop (fun b hb=>.inl hb) (fun b hb=>hb.imp (fun h=>h) (fun⟨i,_,h5,h6⟩=>⟨i,h5,h6⟩)) (dz _ _)
     cases AX:rK kk x es with
     |none =>
      rw[AX]at hf
      refine⟨_,{ w with heap:=w.heap.setIfInBounds r (.map (bH.push { key:=u2,val:=u3,born:=clock }) (clock+1)) },oP Z ψ hh.get v.cells,rfl,?_,?_⟩
      rotate_left
      ·rw[show lq kk x y es=es++[(x,y)] by simp[lq,AX]]
       refine fin _ _ (bH.push { key:=u2,val:=u3,born:=clock }) (clock+1) rfl ?_ ?_ ?_
       ·rw[Array.toList_push]
        exact hE.push ⟨⟨TQ,nc⟩,s5,vx,hv3⟩
       ·rw[Array.toList_push,List.map_append,List.pairwise_append]
        refine⟨ux.1 h4,by simp,fun a ha b hb=>?_⟩
        simp only[List.map_cons,List.map_nil,List.mem_singleton]at hb
        obtain⟨e,he,rfl⟩:=List.mem_map.1 ha
        have:=h5 e he
        omega
       ·intro e he
        rw[Array.toList_push]at he
        rcases List.mem_append.1 he with he|he
        ·have:=h5 e he;omega
        ·simp only[List.mem_singleton]at he;subst he;exact Nat.lt_succ_self _
      ·simp only[Instr.mapUpdate,Sem.run_bind,run_underlying hu,Result.andThen_ok,MapKept.run_getObj_map h2,K.check Z w x u2 _ Gc nc,hf,Option.map_none,MapKept.run_setObj_map _ h2]
     |some j =>
      rw[AX]at hf
      have hj:=Ce AX
      obtain⟨e0,Qj,heq⟩:=OE AX
      have FH:j<bH.toList.length:=by rw[←h3.1];exact hj
      have hl:bH.toList[j]? = some bH.toList[j]:=List.getElem?_eq_getElem FH
      have N4:bH[j]? = some bH.toList[j]:=by rw[←hl];simp
      obtain⟨⟨TR,Yl⟩,_⟩:=h3.2 j _ _ Qj hl
      have qV:bH.toList[j].key=u2:=by
       refine Jj Yl nc ?_
       rw[←(wE kk x e0.1 K.flat).1 heq]at TR
       exact nu K.flat TR Gc
      have Qk:(Instr.keyThatStays u2 u2).run P w=.ok u2 w:=by simp[Instr.keyThatStays,Lh K.flat Gc nc]
      refine⟨_,{ w with heap:=w.heap.setIfInBounds r (.map (bH.modify j fun e=>{ e with key:=u2,val:=u3 }) clock) },oP Z ψ hh.get v.cells,rfl,?_,?_⟩
      rotate_left
      ·rw[show lq kk x y es=es.set j (x,y) by simp[lq,AX]]
       refine fin _ _ (bH.modify j fun e=>{ e with key:=u2,val:=u3 }) clock rfl ?_ ?_ ?_
       ·rw[Array.toList_modify]
        exact hE.set j (fun e he=>⟨⟨TQ,nc⟩,s5,vx,hv3⟩)
       ·rw[Array.toList_modify,vD (f:=fun e:MapEntry=>{ e with key:=u2,val:=u3 }) (fun _=>rfl)];exact ux.1 h4
       ·intro e he
        have:e.born∈(bH.modify j fun e=>{ e with key:=u2,val:=u3 }).toList.map (·.born):=List.mem_map.2 ⟨e,he,rfl⟩
        rw[Array.toList_modify,vD (f:=fun e:MapEntry=>{ e with key:=u2,val:=u3 }) (fun _=>rfl)]at this
        obtain⟨e',Rf,h6⟩:=List.mem_map.1 this
        rw[←h6];exact h5 e' Rf
      ·simp only[Instr.mapUpdate,Sem.run_bind,run_underlying hu,Result.andThen_ok,MapKept.run_getObj_map h2,K.check Z w x u2 _ Gc nc,hf,Option.map_some,N4,Option.getD_some,qV,Qk,MapKept.run_setObj_map _ h2]
    ·cases he
   ·cases he
  ·cases he
 ·cases he
theorem s8{Eqs:TypeId→Option K}(Ag:∀t k,Eqs t=some k→kD P t k){hh:Heap}(g:Good Z ψ hh.get w B0 O){t ty:TypeId}{ts:List TypeId}{m i:AV}{u1 u2:Value}{e:bj}
  (hm:ao Z ψ hh.get w m u1) (hi:ao Z ψ hh.get w i u2) (he:my P Eqs hh t m i some=some e) :
  ∃hw w',e=.wr (.ml []) hw∧(Builtin.delete_ (t::ts).toArray ty #[u1,u2]).run P w=.ok (.tuple #[]) w'∧Next Z ψ hh.get w B0 O N Z ψ hw.get w':=by
 unfold my at he
 split at he
 ·rename_i ka va id Tb
  split at he
  ·rename_i kk vk es hg
   split at he
   ·rename_i hc
    obtain⟨rfl,rfl⟩:=hc
    split at he
    ·rename_i x hx
     cases he
     obtain⟨a,b,hu,hk,_⟩:=rW Tb
     have K:=uq Ag hk
     obtain⟨Gc,nc⟩:=Gb g (fun _ _ h=>h) K.flat hx hi
     simp only[ao]at hm
     have Rn:=hm.2 (by rw[hg];simp)
     obtain⟨r,bH,clock,h1,h2,h3,h4,h5⟩:=g.row id (.map kk vk) es hg
     rw[h1]at Rn
     subst Rn
     have aE:=(Array.getElem?_eq_some_iff.1 h2).1
     have iU:ob (ψ id)=some r:=by rw[h1];rfl
     have hf:=K.find Z w x u2 bH.toList (es.map (·.1)) Gc nc (jz.keys h3)
     rw[xK]at hf
     have fin:∀(o:Obj) (Lk:List (kk.T×vk.T)) (lC:Array MapEntry),o=.map lC clock→jz Z w kk vk Lk lC.toList→lC.toList.Sublist bH.toList →
       Next Z ψ hh.get w B0 O N Z ψ (hh.set id (.own (.map kk vk) Lk)).get { w with heap:=w.heap.setIfInBounds r o }:=by
      rintro o Lk lC rfl h6 h7
      rw[lA]
      exact ql (N:=N) g (by rw[hg];simp) iU aE (.map lC clock) (ok:=.map kk vk) (x:=Lk) (fun w' Gd sm=>⟨r,lC,clock,h1,by rw[Gd];simp[aE],jz.mono h6 (fun _ h=>h) sm,h4.sublist h7,fun e he=>h5 e (h7.subset he)⟩)
     cases AX:rK kk x es with
     |none =>
      rw[AX]at hf
      refine⟨_,{ w with heap:=w.heap.setIfInBounds r (.map bH clock) },rfl,?_,?_⟩
      rotate_left
      ·rw[show KY kk x es=es by simp[KY,AX]]
       exact fin _ _ bH rfl h3 (List.Sublist.refl _)
      ·simp[Builtin.delete_,run_underlying hu,MapKept.run_getObj_map h2,K.check Z w x u2 _ Gc nc,hf,MapKept.run_setObj_map _ h2]
     |some j =>
      rw[AX]at hf
      have hj:=Ce AX
      refine⟨_,{ w with heap:=w.heap.setIfInBounds r (.map (bH.eraseIdxIfInBounds j) clock) },rfl,?_,?_⟩
      rotate_left
      ·rw[show KY kk x es=es.eraseIdx j by simp[KY,AX]]
       refine fin _ _ (bH.eraseIdxIfInBounds j) rfl ?_ ?_
       ·rw[Array.toList_eraseIdxIfInBounds];exact jz.erase h3 j
       ·rw[Array.toList_eraseIdxIfInBounds];exact List.eraseIdx_sublist _ _
      ·simp[Builtin.delete_,run_underlying hu,MapKept.run_getObj_map h2,K.check Z w x u2 _ Gc nc,hf,MapKept.run_setObj_map _ h2]
    ·cases he
   ·cases he
  ·cases he
 ·cases he
theorem Ge{hh:Heap}(g:Good Z ψ h w B0 O)(aZ:∀id o,hh.get id=some o→h id=some o){t ty:TypeId}{x:AV}{u:Value}{e:bj}(ht:FQ P t=true)(hx:ao Z ψ h w x u)(he:uf hh x some=some e) :
  ∃n:Nat,e=.val (.int .i64 (n:Int))∧(Builtin.len_ #[t] ty #[u]).run P w=.ok (.int .i64 (n:Int)) w:=by
 unfold uf at he
 split at he
 ·rename_i kk vk es hv
  cases he
  have hu:∃a b,P.underlying t=some (.map a b):=by
   unfold FQ at ht
   split at ht
   ·exact⟨_,_,by assumption⟩
   ·cases ht
  obtain⟨a,b,hu⟩:=hu
  obtain⟨A,rfl,hA⟩:=HU g aZ hx hv
  rcases hA with⟨rfl,rfl⟩|⟨r,bH,clock,rfl,h3,h4⟩
  ·exact⟨0,rfl,by simp[Builtin.len_,run_underlying hu,goInt]⟩
  ·refine⟨es.length,rfl,?_⟩
   have:bH.size=es.length:=by rw[h4.1];simp
   simp[Builtin.len_,run_underlying hu,MapKept.run_getObj_map h3,goInt,this]
 ·cases he
theorem xN(g:Good Z ψ h w B0 O)(hB:B0≤w.heap.size)(id:Nat)(hN:N id){ok:OK}{x:ok.T}{v:Value}(o:Obj)(ho:iL Z (w.alloc o) ok v x)(hb:ob v=some w.heap.size)
  (aT:∀i ty cs,h i=some (.box ty cs)→aw (fun i=>i≠id) cs):Next Z ψ h w B0 O N Z (dv ψ id v) (dv h id (some (.own ok x))) (w.alloc o) :=
 Dn g hB id hN (cF.alloc _ _ _ _) (fun b hb=>heap_alloc_old w _ (g.bw hb)) ho (fun b Ao=>by rw[hb]at Ao;cases Ao;exact Nat.le_refl _) aT
theorem Ap{Eqs:TypeId→Option K}(g:Good Z ψ h w B0 O)(hB:B0≤w.heap.size){id:Nat}(hN:N id){t:TypeId}{e:bj}(aT:∀i ty cs,h i=some (.box ty cs)→aw (fun i=>i≠id) cs)(he:kg P Eqs id t some=some e) :
  ∃v w' ψ',(Instr.makeMap t none).run P w=.ok v w'∧Next Z ψ h w B0 O N Z ψ' (e.hp h) w'∧ao Z ψ' (e.hp h) w' e.v v:=by
 unfold kg at he
 split at he
 ·rename_i kk vk Tb
  cases he
  refine⟨.map (some w.heap.size),w.alloc (.map #[] 0),dv ψ id (.map (some w.heap.size)),rfl,?_,?_⟩
  ·simp only[bj.hp];rw[gD]
   exact xN g hB id hN (ok:=.map kk vk) (x:=[]) _ ⟨w.heap.size,#[],0,rfl,heap_alloc_new _ _,⟨rfl,fun i x e h=>by simp at h⟩,by simp,by simp⟩ rfl aT
  ·simp only[bj.v,bj.hp,ao]
   exact⟨⟨rfl,rfl⟩,fun _=>(aS _ _ _).symm⟩
 ·cases he
theorem Cg(g:Good Z ψ h w B0 O)(hB:B0≤w.heap.size){id:Nat}(hN:N id){t:TypeId}{x:AV}{u:Value}{e:bj}(hx:ao Z ψ h w x u)(aT:∀i ty cs,h i=some (.box ty cs)→aw (fun i=>i≠id) cs)(he:mz P id t x some=some e) :
  ∃v w' ψ',(Instr.range t u).run P w=.ok v w'∧Next Z ψ h w B0 O N Z ψ' (e.hp h) w'∧ao Z ψ' (e.hp h) w' e.v v:=by
 unfold mz at he
 split at he
 ·rename_i sv hu
  cases he
  simp only[ao]at hx
  subst hx
  refine⟨.pointer (some ⟨w.heap.size,0,none⟩),w.alloc (.stringIter sv 0),dv ψ id (.pointer (some ⟨w.heap.size,0,none⟩)),?_,?_,?_⟩
  ·simp only[Instr.range,Sem.run_bind,run_underlying hu,Result.andThen_ok,Sem.run_pure];rfl
  ·simp only[bj.hp];rw[gD]
   exact xN g hB id hN (ok:=.mr) (x:=(sv,0)) _ ⟨w.heap.size,rfl,heap_alloc_new _ _⟩ rfl aT
  ·simp only[bj.v,bj.hp,ao]
   exact⟨⟨rfl,rfl⟩,fun _=>(aS _ _ _).symm⟩
 ·cases he
theorem fg{r:Nat}{o:Obj}(hb:w.heap[r]? = some o)(hc:∀c e f,o≠.cells c e f):(getObj r).run P w=.ok o w:=by
 cases o<;>first|(exact absurd rfl (hc _ _ _))|simp[getObj,Sem.run,hb]
theorem xO{r:Nat}{o o':Obj}(hb:w.heap[r]? = some o)(hc:∀c e f,o≠.cells c e f):(setObj r o').run P w=.ok () { w with heap:=w.heap.setIfInBounds r o' }:=by
 cases o<;>first|(exact absurd rfl (hc _ _ _))|simp[setObj,Sem.run,hb]
theorem DD{hh:Heap}(g:Good Z ψ h w B0 O)(aZ:∀id o,hh.get id=some o→h id=some o){ty:TypeId}{x:AV}{u:Value}{e:bj}(hx:ao Z ψ h w x u)(lB:∀v hw,e=.wr v hw→hh.get=h)(he:qa hh x some=some e) :
  ∃v w',(Instr.next u true ty).run P w=.ok v w'∧Next Z ψ h w B0 O N Z ψ (e.hp h) w'∧ao Z ψ (e.hp h) w' e.v v:=by
 unfold qa at he
 split at he
 ·rename_i id
  split at he
  ·rename_i x hg
   have ub:=aZ _ _ hg
   simp only[ao]at hx
   have hu:=hx.2 (by rw[ub];simp)
   obtain⟨r,h1,h2⟩:=g.row id .mr x ub
   rw[h1]at hu
   subst hu
   cases hc:decide (x.2<x.1.size) with
   |true =>
    rw[hc]at he;cases he
    have heq:=lB _ _ rfl
    simp only[decide_eq_true_eq]at hc
    have aE:=(Array.getElem?_eq_some_iff.1 h2).1
    refine⟨.tuple #[.bool true,goInt x.2,.int .i32 (Utf8.decode x.1 x.2).1],{ w with heap:=w.heap.setIfInBounds r (.stringIter x.1 (x.2+(Utf8.decode x.1 x.2).2)) },?_,?_,?_⟩
    ·simp only[Instr.next,Sem.run_bind,fg h2 (by simp),Result.andThen_ok,hc,if_true,xO h2 (by simp),Sem.run_pure]
    ·simp only[bj.hp]
     rw[lA,heq]
     exact ql (N:=N) g (by rw[ub];simp) (by rw[h1];rfl) aE _ (ok:=.mr) (x:=(x.1,x.2+xi x.1 x.2)) (fun w' Gd _=>⟨r,h1,by rw[Gd];simp[aE,xi]⟩)
    ·simp only[bj.v,ao,ah]
     exact⟨_,rfl,_,_,rfl,rfl,_,_,rfl,rfl,_,_,rfl,rfl,rfl⟩
   |false =>
    rw[hc]at he;cases he
    simp only[decide_eq_false_iff_not]at hc
    refine⟨.tuple #[.bool false],w,?_,Next.refl g,?_⟩
    ·simp only[Instr.next,Sem.run_bind,fg h2 (by simp),Result.andThen_ok,hc,if_false,Sem.run_pure]
    ·simp only[bj.v,ao,ah]
     exact⟨_,rfl,_,_,rfl,rfl,rfl⟩
  ·cases he
 ·cases he
theorem find_born{l:List MapEntry}(h:l.Pairwise (fun a b=>a.born≠b.born)){e:MapEntry}(he:e∈l):l.find? (fun x=>x.born==e.born)=some e:=by
 induction l with
 |nil=>cases he
 |cons a r ih =>
  obtain⟨h1,h2⟩:=List.pairwise_cons.1 h
  rw[List.find?_cons]
  rcases List.mem_cons.1 he with rfl|he
  ·simp
  ·have:(a.born==e.born)=false:=by simpa using h1 e he
   rw[this];exact ih h2 he
theorem DE{hh:Heap}(g:Good Z ψ h w B0 O)(aZ:∀id o,hh.get id=some o→h id=some o){x:AV}{u:Value}{e:bj}(hx:ao Z ψ h w x u)(he:qb hh x some=some e) :
  ∃y v,e=.val y∧(Instr.entry u).run P w=.ok v w∧ao Z ψ h w y v:=by
 unfold qb at he
 split at he
 ·rename_i id
  split at he
  ·rename_i kk vk c rest hg
   cases he
   have ub:=aZ _ _ hg
   simp only[ao]at hx
   have hu:=hx.2 (by rw[ub];simp)
   obtain⟨r,m,since,seen,bH,clock,h1,h2,h3,h4,h5,h6,h7,h8,h9⟩:=g.row id (.iter kk vk) (some c,rest) ub
   rw[h1]at hu
   subst hu
   obtain⟨en,l8,we,FI⟩:=h9
   obtain⟨⟨k1,k2,k3⟩,v1,v2,v3⟩:=FI.2 0 c en rfl rfl
   refine⟨_,.tuple #[en.key,en.val],rfl,?_,?_⟩
   ·have hf:bH.find? (·.born==en.born)=some en:=by
     have:=find_born h5 l8
     rwa [←Array.find?_toList]
    simp only[Instr.entry,Sem.run_bind,fg h2 (by simp),Result.andThen_ok,we,Sem.run_pure,fg h4 (by simp),hf]
    simp
   ·simp only[ao,ah]
    exact⟨_,rfl,_,_,rfl,kC k1 k2 k3,_,_,rfl,kC v1 v2 v3,rfl⟩
  ·cases he
 ·cases he
end Go.Vs
namespace Go.Vs
variable {P:Program} {Z Z':Nat→Prop} {ψ ψ':Nat→Value} {h h':Hp} {w w':World} {B0:Nat} {O:Nat→Prop} {N:Nat→Prop}
mutual
theorem aC.imp{p q:Nat→Prop}(xQ:∀i,p i→q i):∀{a:AV},aC p a→aC q a
 |.no,_=>by simp only[aC]
 |.bool b,_=>by simp only[aC]
 |.int k n,_=>by simp only[aC]
 |.str s,_=>by simp only[aC]
 |.kx,_=>by simp only[aC]
 |.eY,_=>by simp only[aC]
 |.ref id s i off,h=>by simp only[aC]at h ⊢;exact xQ _ h
 |.fp k x off,_=>by simp only[aC]
 |.sl ex k xs,_=>by simp only[aC]
 |.mp kk vk es,_=>by simp only[aC]
 |.bp id,h=>by simp only[aC]at h ⊢;exact xQ _ h
 |.fn f cap,h=>by simp only[aC]at h ⊢;exact aw.imp xQ h
 |.agg cs,h=>by simp only[aC]at h ⊢;exact aw.imp xQ h
 |.ml cs,h=>by simp only[aC]at h ⊢;exact aw.imp xQ h
theorem aw.imp{p q:Nat→Prop}(xQ:∀i,p i→q i):∀{a:List AV},aw p a→aw q a
 |[],_=>by simp only[aw]
 |a::r,h=>by simp only[aw]at h ⊢;exact⟨aC.imp xQ h.1,aw.imp xQ h.2⟩
end
theorem aC.cells{p:Nat→Prop}{a:AV}(h:aC p a):aw p a.cells:=by
 cases a with
 |agg cs=>simpa only[AV.cells,aC] using h
 |_=>simp only[AV.cells,aw];exact⟨h,trivial⟩
theorem xR:∀{cs:List AV},Dh cs=true→∀id,AV.bp id∉cs
 |[],_,id=>by simp
 |c::r,hn,id=>by
  intro hm
  cases c with
  |bp i=>simp[Dh]at hn
  |_ =>
   simp only[Dh]at hn
   rcases List.mem_cons.1 hm with e|hm
   ·cases e
   ·exact xR hn id hm
theorem po:∀{vs:List AV},oT vs=true→∀v∈vs,∀id,AV.bp id∉v.cells
 |[],_,v,hv=>by simp at hv
 |a::r,hn,v,hv=>by
  simp only[oT,Bool.and_eq_true]at hn
  rcases List.mem_cons.1 hv with rfl|hv
  ·exact xR hn.1
  ·exact po hn.2 v hv
def ta(o:Oper):Bool :=
 match o.op with
 |.call { callee:=.value _,.. }=>true
 |_=>false
theorem Gf{s:List (Nat×AV)}{ρC:Operand→Value}{x:Option Operand}(hx:∀y,x=some y→ao Z ψ h w (ρ s y) (ρC y)):dw Z ψ h w (x.map (ρ s)) (x.map ρC):=by
 cases x with
 |none=>trivial
 |some y=>exact hx y rfl
theorem xS{s:List (Nat×AV)}{ρC:Operand→Value}:∀(ps:List (Nat×Operand)),(∀p∈ps,ao Z ψ h w (ρ s p.2) (ρC p.2))→(∀p∈ps,ρ s p.2≠.no)→qZ Z ψ h w (ps.map fun p=>(p.1,ρ s p.2)) (ps.map fun p=>(p.1,ρC p.2))
 |[],_,_=>trivial
 |p::r,h1,h2=>⟨rfl,h2 p (by simp),h1 p (by simp),xS r (fun q hq=>h1 q (List.mem_cons_of_mem _ hq)) (fun q hq=>h2 q (List.mem_cons_of_mem _ hq))⟩
theorem AY{k:K}{hh:Heap}:∀{ps:List (Nat×AV)} {i:Nat} {xs:List k.T},oX k hh i ps=some xs→∀p∈ps,p.2≠.no
 |[],_,_,_,p,hp=>by simp at hp
 |(j,v)::r,i,xs,hl,p,hp=>by
  simp only[oX]at hl
  split at hl
  ·split at hl
   ·rename_i x ys h1 h2
    rcases List.mem_cons.1 hp with rfl|hp
    ·exact AT h1
    ·exact AY h2 p hp
   ·cases hl
  ·cases hl
theorem Ro{α:Type}{l:List α}(h:l.length=0+1+1):∃x y,l=[x,y]:=by
 cases l with
 |nil=>simp at h
 |cons a r=>cases r with
  |nil=>simp at h
  |cons b s=>cases s with
   |nil=>exact⟨a,b,rfl⟩
   |cons c q=>simp at h
theorem Gg{a:AV}(h:Qe a=true):a≠.no:=by rintro rfl;cases h
section
variable {Eqs:TypeId→Option K} {Sg:FuncId→Option aL} {F:(f:FuncId)→(g:aL)→g.A→Option g.B}
theorem Ch{hh:Heap}{ρC:Operand→Value}{o:Oper}(g:Good Z ψ h w B0 O)(hB:B0≤w.heap.size)(aZ:∀id o,hh.get id=some o→h id=some o){id:Nat}(hN:N id){t:TypeId}{s x:AV}{u v:Value}{e:bj}
  (hs:ao Z ψ h w s u) (hx:ao Z ψ h w x v) (Ci:aC (fun i=>¬N i) s) (aT:∀i ty cs,h i=some (.box ty cs)→aw (fun i=>¬N i) cs) (lB:∀v hw,e=.wr v hw→hh.get=h) (he:mv P hh id t s x some=some e)
  (cW:∀V w',(Builtin.append_ #[t,t] o.type #[u,v]).run P w=.ok V w'→(execOp ρC o).run P w=.ok (.value V) w'):fU P ρC o Z ψ h w B0 O N e:=by
 have N5:∀i ty cs,h i=some (.box ty cs)→aw (fun i=>i≠id) cs:=fun i ty cs hb=>(aT i ty cs hb).imp (fun j hj e=>hj (by rw[e];exact hN))
 unfold mv at he
 split at he
 ·cases he
 ·rename_i et het
  have ht:=mb het
  split at he
  ·cases he
  ·rename_i kk OF
   split at he
   ·rename_i ys Aq ll
    obtain⟨inf,z,FF⟩:=cd ll
    split at he
    ·
     cases hc:bL 0 ys.length with
     |false=>rw[hc]at he;cases he
     |true =>
      rw[hc]at he;cases he
      simp only[bL,decide_eq_true_eq]at hc
      simp only[ao]at hs
      subst hs
      obtain⟨V,w',h1,h2,h3⟩:=ox (P:=P) (ty:=o.type) g aZ hB hN ht FF Aq hx (by omega) N5
      refine⟨V,w',Z,_,.inl (cW V w' h1),by simp only[bj.hp];rw[gD];exact h2,?_⟩
      simp only[bj.v,bj.hp,ao]
      exact⟨h3,fun _=>(aS _ _ _).symm⟩
    ·
     rename_i c8
     split at he
     ·rename_i e' k' xs hg
      split at he
      ·rename_i hc
       obtain⟨rfl,rfl⟩:=hc
       cases ua:bL xs.length ys.length with
       |false=>rw[ua]at he;cases he
       |true =>
        rw[ua]at he;cases he
        simp only[bL,decide_eq_true_eq]at ua
        have heq:=lB _ _ rfl
        have ub:=aZ _ _ hg
        simp only[ao]at hs
        have hu:=hs.2 (by rw[ub];simp)
        subst hu
        simp only[aC]at Ci
        obtain⟨V,w',h1,h2,h3⟩:=wg (P:=P) (ty:=o.type) g aZ hB hN (fun e=>Ci (by rw[e];exact hN)) ht FF ub Aq hx ua N5
        refine⟨V,w',Z,_,.inl (cW V w' h1),by simp only[bj.hp];rw[lA,sY,heq];exact h2,?_⟩
        simp only[bj.v,bj.hp,ao]
        exact⟨h3,fun _=>(aS _ _ _).symm⟩
      ·cases he
     ·cases he
    ·
     rename_i ex k' xs
     split at he
     ·rename_i hc
      subst hc
      cases ua:(ex&&((!ys.isEmpty || xs.isEmpty)&&bL xs.length ys.length)) with
      |false=>rw[ua]at he;cases he
      |true =>
       rw[ua]at he;cases he
       simp only[Bool.and_eq_true,Bool.or_eq_true,bL,decide_eq_true_eq,Bool.not_eq_true',List.isEmpty_eq_false_iff,List.isEmpty_iff]at ua
       obtain⟨rfl,aV,OG⟩:=ua
       obtain⟨V,w',h1,h2,h3⟩:=xD (P:=P) (ty:=o.type) g aZ hB hN ht FF hs Aq hx (aV.imp List.length_pos_iff.2 (fun h=>h)) OG N5
       refine⟨V,w',Z,_,.inl (cW V w' h1),by simp only[bj.hp];rw[gD];exact h2,?_⟩
       simp only[bj.v,bj.hp,ao]
       exact⟨h3,fun _=>(aS _ _ _).symm⟩
     ·cases he
    ·cases he
   ·cases he
theorem xT{ρC:Operand→Value}{o:Oper}(g:Good Z ψ h w B0 O)(hB:B0≤w.heap.size){id:Nat}(hN:N id){t:TypeId}{vs:List AV}{us:Array Value}{e:bj}(hr:ah Z ψ h w vs us.toList)(h1:∀u∈us.toList,u.oneCell'=true)
  (hm:aw (fun i=>¬N i) vs) (aT:∀i ty cs,h i=some (.box ty cs)→aw (fun i=>¬N i) cs) (he:ui id t vs some=some e)
  (cW:(execOp ρC o).run P w=.ok (.value (.pointer (some ⟨w.heap.size,0,none⟩))) (w.alloc (.cells us t))):fU P ρC o Z ψ h w B0 O N e:=by
 unfold ui at he
 cases he
 have aV:∀i,¬N i→i≠id:=fun j hj e=>hj (by rw[e];exact hN)
 have n:=xx (N:=N) g hB id t hN hr h1 (fun i ty cs hb=>(aT i ty cs hb).imp aV) (hm.imp aV)
 refine⟨_,_,Z,_,.inl cW,by simp only[bj.hp];rw[gD];exact n,?_⟩
 simp only[bj.v,bj.hp,ao]
 exact⟨_,rfl,fun _=>by rw[aS];simp[Ov]⟩
theorem Jk{hh:Heap}{ρC:Operand→Value}{s:List (Nat×AV)}{o:Oper}(g:Good Z ψ h w B0 O)(hB:B0≤w.heap.size)(aZ:∀id o,hh.get id=some o→h id=some o){id:Nat}(hN:N id){t:TypeId}{n:Nat}{ps:Array (Nat×Operand)}{e:bj}
  (mn:∀p∈ps.toList,ao Z ψ h w (ρ s p.2) (ρC p.2)) (aT:∀i ty cs,h i=some (.box ty cs)→aw (fun i=>¬N i) cs) (jV:Bool) {e0:bj} (OH:e=if jV then Ou e0 else e0) (lB:∀v hw,e=.wr v hw→hh.get=h) (he:sJ P hh id t n (ps.toList.map fun p=>(p.1,ρ s p.2)) some=some e0)
  (cW:∀V w',(Instr.buildSlice t n (ps.map fun p=>(p.1,ρC p.2))).run P w=.ok V w'→(execOp ρC o).run P w=.ok (.value V) w'):fU P ρC o Z ψ h w B0 O N e:=by
 have N5:∀i ty cs,h i=some (.box ty cs)→aw (fun i=>i≠id) cs:=fun i ty cs hb=>(aT i ty cs hb).imp (fun j hj e=>hj (by rw[e];exact hN))
 unfold sJ at he
 split at he
 ·cases he
 ·rename_i et het
  have ht:=mb het
  split at he
  ·cases he
  ·rename_i k hk
   split at he
   ·cases he
   ·cases he
   ·rename_i xs lx ll
    obtain⟨inf,z,FF⟩:=cd ll
    have Gh:=xS (Z:=Z) (ψ:=ψ) (h:=h) (w:=w) ps.toList mn (fun p hp=>AY lx (p.1,ρ s p.2) (List.mem_map.2 ⟨p,hp,rfl⟩))
    have HV:qZ Z ψ hh.get w (ps.toList.map fun p=>(p.1,ρ s p.2)) (ps.map fun p=>(p.1,ρC p.2)).toList:=by
     rw[Array.toList_map];exact Gh.oI aZ
    split at he
    ·rename_i hc
     obtain⟨rfl,hn⟩:=hc
     cases pj:oT ((ps.toList.map fun p=>(p.1,ρ s p.2)).map (·.2)) with
     |true =>
      rw[pj]at he;cases he
      have Ym:=po pj
      obtain⟨V,w',h1,h2,h3⟩:=Dv (P:=P) (N:=N) g (g.sub aZ) (fun _ h=>h) hB hN ht FF (fun p hp i b hm=>absurd hm (Ym p.2 (List.mem_map.2 ⟨p,hp,rfl⟩) i)) HV lx hn N5
      cases jV with
      |false =>
       have OH:e=.new (.bp id) [(id,.own (.row et k) xs)]:=OH
       subst OH
       refine⟨V,w',Z,_,.inl (cW V w' h1),by simp only[bj.hp];rw[gD];exact h2,?_⟩
       simp only[bj.v,bj.hp,ao]
       exact⟨h3.1,fun _=>(aS _ _ _).symm⟩
      |true =>
       have OH:e=.new (.sl true k xs) []:=OH
       subst OH
       obtain⟨m1,m2⟩:=Lb g hB h2 h3.2.1 h3.2.2.1 h3.2.2.2
       have e1:(bj.new (.sl true k xs) []).hp h=h:=by funext i;simp[bj.hp,Heap.get]
       refine⟨V,w',_,_,.inl (cW V w' h1),by rw[e1];exact m1,?_⟩
       rw[e1];exact m2
     |false =>
      rw[pj]at he;cases he
      have OH:e=.wr (.bp id) ((id,.own (.row et k) xs)::cm hh ((ps.toList.map fun p=>(p.1,ρ s p.2)).flatMap (·.2.cells))):=by
       rw[OH];cases jV<;>rfl
      subst OH
      have heq:=lB _ _ rfl
      subst heq
      let cs:=(ps.toList.map fun p=>(p.1,ρ s p.2)).flatMap (·.2.cells)
      have gd:=gy g cs
      obtain⟨V,w',h1,h2,h3⟩:=Dv (P:=P) (N:=N) gd g (fun b hb=>.inl hb) hB hN ht FF (fun p hp i b hm aV hb=>.inr ⟨i,List.mem_flatMap.2 ⟨p,hp,hm⟩,aV,hb⟩) HV lx hn (fun i ty cs' hb=>N5 i ty cs' (dz _ _ _ _ hb))
      refine⟨V,w',oP Z ψ hh.get cs,dv ψ id V,.inl (cW V w' h1),?_,?_⟩
      ·simp only[bj.hp]
       rw[xI]
       exact h2.drop (fun b hb=>.inl hb) (fun b hb=>hb.imp (fun h=>h) (fun⟨i,_,h5,h6⟩=>⟨i,h5,h6⟩)) (dz _ _)
      ·simp only[bj.v,bj.hp,ao]
       exact⟨h3.1,fun _=>(aS _ _ _).symm⟩
    ·cases he
theorem Jl{jV:Bool}{h:Heap}{id:Nat}{t:TypeId}{n:Nat}{ps:List (Nat×AV)}{e:bj}(he:uj P jV h id t n ps some=some e):∃e0,sJ P h id t n ps some=some e0∧e=if jV then Ou e0 else e0:=by
 unfold uj sJ at he
 unfold sJ
 split at he
 ·cases he
 split at he
 ·cases he
 split at he
 ·cases he
 ·cases he
 split at he
 ·rename_i hc
  rw[if_pos hc]
  cases pj:oT (ps.map (·.2)) with
  |true=>rw[pj]at he;exact⟨_,rfl,(Option.some.inj he).symm⟩
  |false=>rw[pj]at he;exact⟨_,rfl,(Option.some.inj he).symm⟩
 ·cases he
theorem xU(p:Nat→Prop)(v:Value):aC p (uc v):=by
 cases v with
 |pointer a=>simp only[uc];split<;>simp only[aC]
 |slice a n c=>simp only[uc];split<;>simp only[aC]
 |func fn first cap =>
  cases fn with
  |func f=>simp only[uc];split<;>simp only[aC,aw]
  |_=>simp only[uc,aC]
 |_=>simp only[uc,aC]
theorem uy(p:Nat→Prop):∀vs:List Value,aw p (vs.map uc)
 |[]=>by simp[aw]
 |v::r=>by simp only[List.map_cons,aw];exact⟨xU p v,uy p r⟩
theorem Jm(p:Nat→Prop)(v:Value):aw p (rJ v).cells:=by
 cases v with
 |agg cs=>simp only[rJ,AV.cells];exact uy p _
 |_=>simp only[rJ];rw[AS];simp only[aw];exact⟨xU p _,trivial⟩
theorem Ll(Ag:∀t k,Eqs t=some k→kD P t k){hh:Heap}{ρC:Operand→Value}{s:List (Nat×AV)}{o:Oper}(g:Good Z ψ h w B0 O)(hB:B0≤w.heap.size)(aZ:∀id o,hh.get id=some o→h id=some o){id:Nat}(hN:makes o.op=true→N id){e:bj}
  (mn:∀x∈o.op.operands,ao Z ψ h w (ρ s x) (ρC x)) (hm:∀x∈o.op.operands,aC (fun i=>¬N i) (ρ s x)) (aT:∀i ty cs,h i=some (.box ty cs)→aw (fun i=>¬N i) cs) (lB:∀v hw,e=.wr v hw→hh.get=h)
  (FJ:ta o=false) (he:cv P Eqs Sg F id hh s o some=some e):fU P ρC o Z ψ h w B0 O N e:=by
 obtain⟨dst,op,type,pos,after,guard⟩:=o
 have two:∀{a b:Operand},(∀x∈(#[a,b]:Array Operand),ao Z ψ h w (ρ s x) (ρC x))→ao Z ψ h w (ρ s a) (ρC a)∧ao Z ψ h w (ρ s b) (ρC b):=fun hx=>⟨hx _ (by simp),hx _ (by simp)⟩
 cases op<;>simp only[cv]at he<;>simp only[Op.operands]at mn hm<;>first|(cases he;done)|skip
 case move x=>cases he;exact fU.val g (V:=ρC x) (by simp[execOp]) (mn x (by simp))
 case assign x=>cases he;exact fU.val g (V:=ρC x) (by simp[execOp]) (mn x (by simp))
 case pick c a b =>
  have h1:=mn c (by simp);have h2:=mn a (by simp);have h3:=mn b (by simp)
  split at he
  ·rename_i t ht
   cases he
   rw[ht]at h1
   simp only[ao]at h1
   refine fU.val g (V:=if t then ρC a else ρC b) (by simp[execOp,h1,asBool]) ?_
   unfold Qd
   split
   ·rename_i p q hp hq
    rw[hp]at h2;rw[hq]at h3
    simp only[ao]at h2 h3 ⊢
    cases t<;>simp[h2,h3]
   ·cases t
    ·exact h3
    ·exact h2
  ·cases he
 case alloc t =>
  split at he
  ·rename_i z hz
   obtain⟨i,zv,hi,TM,rfl,h1⟩:=ns hz
   exact xT (us:=zv.cells) g hB (hN rfl) (xG zv) h1 (Jm _ zv) aT he (by simp[execOp,Instr.alloc,sX hi TM,newVar,newRow,newObj,Sem.run])
  ·cases he
 case box t x =>
  have h1:=mn x (by simp)
  split at he
  ·rename_i hp
   have hc:=h1.cells (DA hp)
   exact xT (us:=(ρC x).cells) g hB (hN rfl) hc (rT hp hc) (hm x (by simp)).cells aT he (by simp[execOp,Instr.box,newVar,newRow,newObj,Sem.run])
  ·cases he
 case build t ps =>
  unfold qc at he
  split at he
  ·rename_i z fs hz hf
   split at he
   ·rename_i cs TS eg
    cases he
    simp only[Bool.and_eq_true]at eg
    obtain⟨eg,Yn⟩:=eg
    have TT:fs.toList.all (fun f=>(P.info? f.type).isSome)=true:=eg
    have Rp:∀p∈ps.toList,ao Z ψ h w (ρ s p.2) (ρC p.2):=fun p hp=>mn p.2 (by simp;exact⟨p.1,by simpa using hp⟩)
    have Gh:=xS (Z:=Z) (ψ:=ψ) (h:=h) (w:=w) ps.toList Rp (fun p hp=>Gg (List.all_eq_true.1 Yn (p.1,ρ s p.2) (List.mem_map.2 ⟨p,hp,rfl⟩)))
    obtain⟨V,h1,h2⟩:=Jc (P:=P) (qs:=ps.map fun p=>(p.1,ρC p.2)) hz hf TT (by rw[Array.toList_map];exact Gh) TS
    exact fU.val g (V:=V) (by simp only[execOp,Sem.run_bind];rw[h1];simp) h2
   ·cases he
  ·cases he
 case buildSlice t n ps =>
  have Rp:∀p∈ps.toList,ao Z ψ h w (ρ s p.2) (ρC p.2):=fun p hp=>mn p.2 (by simp;exact⟨p.1,by simpa using hp⟩)
  obtain⟨e0,h0,h1⟩:=Jl he
  exact Jk g hB aZ (hN rfl) Rp aT ((Sg (900000+t)).isSome) h1 lB h0 (fun V w' h1=>by simp only[execOp,Sem.run_bind];rw[h1];simp)
 case load t a =>
  obtain⟨x,V,rfl,h1,h2⟩:=rR g aZ (mn a (by simp)) he
  exact fU.val g (V:=V) (by simp[execOp,h1]) h2
 case store t a v =>
  obtain⟨h1,h2⟩:=two mn
  have hw:∃hw,e=.wr .no hw:=by
   obtain⟨hw,_,_,h3,_⟩:=vB (P:=P) (N:=N) (g.sub aZ) (h1.oI aZ) (h2.oI aZ) he
   exact⟨hw,h3⟩
  obtain⟨hw,rfl⟩:=hw
  have heq:=lB _ _ rfl
  subst heq
  obtain⟨Gd,w',Z',h3,h4,h5⟩:=vB (P:=P) (N:=N) g h1 h2 he
  cases h3
  exact⟨undef,w',Z',ψ,.inr ⟨by simp[execOp,h4],rfl⟩,h5,by simp only[bj.v,ao]⟩
 case nilCheck x =>
  have h1:=mn x (by simp)
  split at he
  ·rename_i id s i off hx
   cases he
   rw[hx]at h1
   have h2:=h1
   simp only[ao]at h1
   obtain⟨a,ha,_⟩:=h1
   exact fU.val g (V:=ρC x) (by simp[execOp,ha]) h2
  ·rename_i k y off hx
   cases he
   rw[hx]at h1
   have h2:=h1
   simp only[ao]at h1
   obtain⟨a,us,ha,_⟩:=h1
   exact fU.val g (V:=ρC x) (by simp[execOp,ha]) h2
  ·rename_i f cap hx
   cases he
   rw[hx]at h1
   have h2:=h1
   simp only[ao]at h1
   obtain⟨vs,ha,_⟩:=h1
   exact fU.val g (V:=ρC x) (by simp[execOp,ha]) h2
  ·cases he
 case binOp op t x y yt =>
  obtain⟨h1,h2⟩:=two mn
  obtain⟨r,V,rfl,h3,h4⟩:=Jh Ag (xo:=x) (yo:=y) h1 h2 he
  exact fU.val g (V:=V) (by simp only[execOp,Sem.run_bind]at h3 ⊢;rw[h3];simp) h4
 case unOp op t x =>
  have h1:=mn x (by simp)
  cases op<;>simp only at he<;>first|(cases he;done)|skip
  split at he
  ·rename_i b hx
   cases he
   rw[hx]at h1
   simp only[ao]at h1
   exact fU.val g (V:=.bool (!b)) (by simp[execOp,h1,Op.unary]) (by simp only[ao])
  ·cases he
 case convert src dst x =>
  have h1:=mn x (by simp)
  unfold xn at he
  split at he
  ·rename_i k1 k2 k3 n hs hd hx
   cases he
   rw[hx]at h1
   simp only[ao]at h1
   exact fU.val g (V:=.int k2 (k2.wrap n)) (by simp[execOp,h1,convert,run_underlying hs,run_underlying hd,Conv.intToInt]) (by simp only[ao])
  ·rename_i sv hs hd hx
   cases he
   rw[hx]at h1
   have h2:=h1
   simp only[ao]at h1
   exact fU.val g (V:=ρC x) (by simp[execOp,h1,convert,run_underlying hs,run_underlying hd]) h2
  ·cases he
 case makeFunc fn first cap =>
  cases fn<;>simp only at he<;>first|(cases he;done)|skip
  rename_i f
  split at he
  ·rename_i hf
   cases he
   have h0:first=#[]:=Array.eq_empty_of_size_eq_zero hf
   subst h0
   have hl:∀l:List Operand,(∀x∈l,ao Z ψ h w (ρ s x) (ρC x))→ah Z ψ h w (l.map (ρ s)) (l.map ρC):=by
    intro l
    induction l with
    |nil=>intro _;simp[ah]
    |cons a r ih=>intro ha;simp only[List.map_cons,ah];exact⟨_,_,rfl,ha a (by simp),ih (fun x hx=>ha x (List.mem_cons_of_mem _ hx))⟩
   exact fU.val g (V:=.func (.func f) #[] (cap.map ρC)) (by simp[execOp,Instr.makeFunc]) (by simp only[ao];exact⟨_,rfl,by rw[Array.toList_map];exact hl _ (fun x hx=>mn x (by simp;simpa using hx))⟩)
  ·cases he
 case slice t x lo hi mx =>
  have h1:=mn x (by simp)
  have h2:dw Z ψ h w (lo.map (ρ s)) (lo.map ρC):=Gf (fun y hy=>mn y (by subst hy;simp))
  have h3:dw Z ψ h w (hi.map (ρ s)) (hi.map ρC):=Gf (fun y hy=>mn y (by subst hy;simp))
  have h4:dw Z ψ h w (mx.map (ρ s)) (mx.map ρC):=Gf (fun y hy=>mn y (by subst hy;simp))
  split at he
  ·rename_i ht
   unfold xh at he
   split at he
   ·rename_i sv hx hmx
    split at he
    ·rename_i l u hb
     cases ho:aR sv.size l u with
     |false=>rw[ho]at he;cases he
     |true =>
      rw[ho]at he;cases he
      rw[hx]at h1
      simp only[ao]at h1
      have Xv:mx=none:=by cases mx with
       |none=>rfl
       |some m=>simp at hmx
      subst Xv
      have cW:=rS (P:=P) (w:=w) (b:=false) (Nat.le_refl sv.size) h2 h3 (mx:=none) (mx':=none) trivial hb ho (.inl rfl)
      exact fU.val g (V:=.string (Q9 sv l u)) (by simp[execOp,Instr.sliceAt,Instr.slice,run_underlying ht,h1,cW,Q9]) (by simp only[ao])
    ·cases he
   ·cases he
  ·rename_i et ht
   split at he
   ·rename_i Rk
    obtain⟨V,Z',h5,h6,h7⟩:=Dz (P:=P) (N:=N) g aZ ht h1 h2 h3 h4 lB he Rk
    exact⟨V,w,Z',ψ,.inl (by simp[execOp,h5]),h6,h7⟩
   ·cases he
  ·cases he
 case fieldAddr t x f =>
  have h1:=mn x (by simp)
  split at he
  ·rename_i n ft id sz i off hf hx
   split at he
   ·cases he
   ·rename_i hc
    cases he
    rw[hx]at h1
    obtain⟨V,h2,h3⟩:=q8 (P:=P) hf hc h1
    exact fU.val g (V:=V) (by simp[execOp,h2]) h3
  ·rename_i n ft k y off hf hx
   split at he
   ·cases he
   ·rename_i hc
    cases he
    rw[hx]at h1
    obtain⟨V,h2,h3⟩:=sZ (P:=P) hf hc h1
    exact fU.val g (V:=V) (by simp[execOp,h2]) h3
  ·cases he
 case field t x f =>
  have h1:=mn x (by simp)
  split at he
  ·rename_i n ft cs hf hx
   split at he
   ·rename_i v hv
    cases he
    rw[hx]at h1
    obtain⟨V,h2,h3⟩:=Dy (P:=P) hf h1 hv
    exact fU.val g (V:=V) (by simp[execOp,h2]) h3
   ·cases he
  ·cases he
 case indexAddr t x i =>
  obtain⟨h1,h2⟩:=two mn
  obtain⟨y,V,rfl,h3,h4⟩:=oy g aZ h1 h2 he
  exact fU.val g (V:=V) (by simp[execOp,h3]) h4
 case index t x i =>
  obtain⟨h1,h2⟩:=two mn
  split at he
  ·rename_i sv ik n ht hx hi
   obtain⟨c,hc,N2⟩:=Option.bind_eq_some_iff.1 he
   cases N2
   rw[hx]at h1;rw[hi]at h2
   simp only[ao]at h1 h2
   exact fU.val g (V:=.int .u8 (c.toNat:Int)) (by simp[execOp,Instr.index,asIntOf,run_underlying ht,h1,h2,hc]) (by simp only[ao])
  ·cases he
 case extract t i =>
  have h1:=mn t (by simp)
  split at he
  ·rename_i vs hx
   split at he
   ·rename_i v hv
    cases he
    rw[hx]at h1
    simp only[ao]at h1
    obtain⟨us,hu,hl⟩:=h1
    obtain⟨u,h2,h3⟩:=hl.get i hv
    exact fU.val g (V:=u) (by simp[execOp,Instr.extract,hu,show us[i]? = some u by simpa using h2]) h3
   ·cases he
  ·cases he
 case makeMap t r =>
  cases r with
  |some r=>cases he
  |none =>
   simp only at he
   have N5:∀i ty cs,h i=some (.box ty cs)→aw (fun i=>i≠id) cs:=fun i ty cs hb=>(aT i ty cs hb).imp (fun j hj e=>hj (by rw[e];exact hN rfl))
   obtain⟨V,w',ψ',h1,h2,h3⟩:=Ap g hB (hN rfl) N5 he
   exact⟨V,w',Z,ψ',.inl (by simp[execOp,h1]),h2,h3⟩
 case lookup t m i ok =>
  obtain⟨h1,h2⟩:=two mn
  obtain⟨y,V,rfl,h3,h4⟩:=Cf Ag g aZ h1 h2 he
  exact fU.val g (V:=V) (by simp[execOp,h3]) h4
 case mapUpdate t m i v =>
  have h1:=mn m (by simp);have h2:=mn i (by simp);have h3:=mn v (by simp)
  have hw:∃hw,e=.wr (.ml []) hw:=by
   obtain⟨hw,_,_,h4,_⟩:=s6 (N:=N) Ag (g.sub aZ) (h1.oI aZ) (h2.oI aZ) (h3.oI aZ) he
   exact⟨hw,h4⟩
  obtain⟨hw,rfl⟩:=hw
  have heq:=lB _ _ rfl
  subst heq
  obtain⟨Gd,w',Z',h4,h5,h6⟩:=s6 (N:=N) Ag g h1 h2 h3 he
  cases h4
  exact⟨undef,w',Z',ψ,.inr ⟨by simp[execOp,h5],rfl⟩,h6,by simp only[bj.v,ao,ah];exact⟨#[],rfl,rfl⟩⟩
 case range t x =>
  have N5:∀i ty cs,h i=some (.box ty cs)→aw (fun i=>i≠id) cs:=fun i ty cs hb=>(aT i ty cs hb).imp (fun j hj e=>hj (by rw[e];exact hN rfl))
  obtain⟨V,w',ψ',h1,h2,h3⟩:=Cg g hB (hN rfl) (mn x (by simp)) N5 he
  exact⟨V,w',Z,ψ',.inl (by simp[execOp,h1]),h2,h3⟩
 case next x b =>
  cases b with
  |false=>cases he
  |true =>
   obtain⟨V,w',h1,h2,h3⟩:=DD (P:=P) (N:=N) (ty:=type) g aZ (mn x (by simp)) lB he
   exact⟨V,w',Z,ψ,.inl (by simp[execOp,h1]),h2,h3⟩
 case entry x =>
  obtain⟨y,V,rfl,h1,h2⟩:=DE (P:=P) g aZ (mn x (by simp)) he
  exact fU.val g (V:=V) (by simp[execOp,h1]) h2
 case call c =>
  obtain⟨callee,args,argTypes⟩:=c
  cases callee with
  |value f=>simp[ta]at FJ
  |invoke r m=>simp only at he;cases he
  |builtin b =>
   have j6:∀x∈args.toList,ao Z ψ h w (ρ s x) (ρC x):=fun x hx=>mn x (by simp only[Call.operands];exact Array.mem_append.2 (.inr (by simpa using hx)))
   have Lm:∀x∈args.toList,aC (fun i=>¬N i) (ρ s x):=fun x hx=>hm x (by simp only[Call.operands];exact Array.mem_append.2 (.inr (by simpa using hx)))
   obtain⟨args⟩:=args
   obtain⟨argTypes⟩:=argTypes
   simp only at he j6 Lm
   cases b<;>simp only at he<;>first|(cases he;done)|skip
   case append =>
    split at he
    ·rename_i l1 l2 x y t t'
     split at he
     ·rename_i htt
      subst htt
      exact Ch g hB aZ (hN rfl) (j6 x (by simp)) (j6 y (by simp)) (Lm x (by simp)) aT lB he (fun V w' h1=>by
       simp only[execOp,resolve,invoke,builtin,Sem.run_bind,Sem.run_pure,Result.andThen_ok,List.map_toArray,List.map_cons,List.map_nil,h1])
     ·cases he
    ·cases he
   case delete =>
    split at he
    ·rename_i l1 l2 m x t ts
     have h1:=j6 m (by simp);have h2:=j6 x (by simp)
     have hw:∃hw,e=.wr (.ml []) hw:=by
      obtain⟨hw,_,h4,_⟩:=s8 (N:=N) (ty:=type) (ts:=ts) Ag (g.sub aZ) (h1.oI aZ) (h2.oI aZ) he
      exact⟨hw,h4⟩
     obtain⟨hw,rfl⟩:=hw
     have heq:=lB _ _ rfl
     subst heq
     obtain⟨Gd,w',h4,h5,h6⟩:=s8 (N:=N) (ty:=type) (ts:=ts) Ag g h1 h2 he
     cases h4
     exact⟨.tuple #[],w',Z,ψ,.inl (by simp only[execOp,resolve,invoke,builtin,Sem.run_bind,Sem.run_pure,Result.andThen_ok,List.map_toArray,List.map_cons,List.map_nil,h5]),h6,by simp only[bj.v,ao,ah];exact⟨#[],rfl,rfl⟩⟩
    ·cases he
   case len =>
    split at he
    ·rename_i l1 l2 x t
     split at he
     ·rename_i htm
      obtain⟨n,rfl,h1⟩:=Ge (P:=P) (ty:=type) g aZ htm (j6 x (by simp)) he
      exact fU.val g (V:=.int .i64 (n:Int)) (by simp only[execOp,resolve,invoke,builtin,Sem.run_bind,Sem.run_pure,Result.andThen_ok,List.map_toArray,List.map_cons,List.map_nil,h1]) (by simp only[ao])
     split at he
     ·rename_i aE
      obtain⟨n,rfl,h1⟩:=Jf g aZ (j6 x (by simp)) he
      refine fU.val g (V:=.int .i64 (n:Int)) ?_ (by simp only[ao])
      rcases h1 with⟨sv,h2,h3,rfl⟩|⟨A,c,h3⟩
      ·unfold Ra at aE
       rw[h2]at aE
       split at aE
       ·rename_i hu _
        simp[execOp,resolve,invoke,builtin,Builtin.len_,run_underlying hu,h3,goInt]
       ·cases aE
       ·rename_i h9;exact(h9 _ rfl).elim
       ·cases aE
      ·have hu:∃e,P.underlying t=some (.slice e):=by
        have h4:=j6 x (by simp)
        rw[h3]at h4
        unfold Ra at aE
        split at aE
        ·rename_i sv _ Yo
         rw[Yo]at h4;simp only[ao]at h4;cases h4
        ·cases aE
        ·rename_i e _ hu _;exact⟨_,hu⟩
        ·cases aE
       obtain⟨e,hu⟩:=hu
       simp[execOp,resolve,invoke,builtin,Builtin.len_,run_underlying hu,h3,goInt]
     ·cases he
    ·cases he
   all_goals
    unfold I7 at he
    split at he
    ·rename_i k a k' b OI
     have hl:=congrArg List.length OI
     simp only[List.length_map,List.length_cons,List.length_nil]at hl
     obtain⟨x,y,rfl⟩:=Ro hl
     simp only[List.map_cons,List.map_nil,List.cons.injEq,and_true]at OI
     have h1:=j6 x (by simp)
     have h2:=j6 y (by simp)
     rw[OI.1]at h1;rw[OI.2]at h2
     simp only[ao]at h1 h2
     split at he
     ·rename_i hk
      subst hk
      cases he
      refine fU.val g (V:=bE (.int _ _)) ?_ (iW _ _)
      first
       |(simp[execOp,resolve,invoke,builtin,Builtin.max_,Builtin.max2,h1,h2,bE];simp only[Int.max_def];split<;>split<;>omega)
       |(simp[execOp,resolve,invoke,builtin,Builtin.min_,Builtin.min2,h1,h2,bE];simp only[Int.min_def];split<;>split<;>omega)
     ·cases he
    ·cases he
end
end Go.Vs
namespace Go.Vs
variable {P:Program} {Z Z' Zf:Nat→Prop} {ψ ψ':Nat→Value} {h h':Hp} {w w':World} {B0:Nat} {O:Nat→Prop} {N:Nat→Prop}
abbrev vE:=Nat×Option Nat×Ob
def da(L:List vE):Heap:=L.map fun e=>(e.1,e.2.2)
def iX(ψ:Nat→Value):Option Nat→Value
 |some s=>ψ s
 |none=>.slice none 0 0
def dK(ψ:Nat→Value):List vE→Nat→Value
 |[],_=>undef
 |(i,s,_)::r,n=>if i=n then iX ψ s else dK ψ r n
theorem mC{L:List vE}{i:Nat}{o:Ob}(hg:(da L).get i=some o):∃s,(i,s,o)∈L:=by
 induction L with
 |nil=>simp[da,Heap.get]at hg
 |cons e r ih =>
  obtain⟨j,s,o'⟩:=e
  simp only[da,List.map_cons,Heap.get]at hg
  split at hg
  ·rename_i e;subst e;cases hg;exact⟨s,List.mem_cons_self⟩
  ·obtain⟨s',hs⟩:=ih hg;exact⟨s',List.mem_cons_of_mem _ hs⟩
theorem lD{i:Nat}{r:List Nat}(h:bR (i::r)=true):i∉r∧bR r=true:=by
 simp only[bR,Bool.and_eq_true,Bool.not_eq_true']at h
 exact⟨fun hm=>by rw[List.contains_iff_mem.2 hm]at h;simp at h,h.2⟩
theorem gP{L:List vE}(hn:bR (L.map (·.1))=true){i:Nat}{s:Option Nat}{o:Ob}(hm:(i,s,o)∈L):dK ψ L i=iX ψ s:=by
 induction L with
 |nil=>cases hm
 |cons e r ih =>
  obtain⟨j,s',o'⟩:=e
  obtain⟨h1,h2⟩:=lD hn
  simp only[dK]
  rcases List.mem_cons.1 hm with he|hm
  ·cases he;simp
  ·rw[if_neg,ih h2 hm]
   rintro rfl
   exact h1 (List.mem_map.2 ⟨_,hm,rfl⟩)
theorem OJ{L:List vE}(hs:bR (L.filterMap (·.2.1))=true){i j s:Nat}{o o':Ob}(h1:(i,some s,o)∈L)(h2:(j,some s,o')∈L):i=j∧o=o':=by
 induction L with
 |nil=>cases h1
 |cons e r ih =>
  obtain⟨k,s',o''⟩:=e
  have mem:∀{k:Nat} {o:Ob},(k,some s,o)∈r→s∈r.filterMap (·.2.1):=fun h=>List.mem_filterMap.2 ⟨_,h,rfl⟩
  rw[List.filterMap_cons]at hs
  cases s' with
  |none =>
   simp only[]at hs
   exact ih hs ((List.mem_cons.1 h1).resolve_left (by simp)) ((List.mem_cons.1 h2).resolve_left (by simp))
  |some s' =>
   simp only[]at hs
   obtain⟨h3,h4⟩:=lD hs
   rcases List.mem_cons.1 h1 with e1|m1<;>rcases List.mem_cons.1 h2 with e2|m2
   ·cases e1;cases e2;exact⟨rfl,rfl⟩
   ·cases e1;exact absurd (mem m2) h3
   ·cases e2;exact absurd (mem m1) h3
   ·exact ih h4 m1 m2
def DF:(ok:OK)→ok.T→Prop
 |.row _ _,xs=>xs=[]
 |_,_=>False
theorem DF.owns:∀{ok:OK} {xs:ok.T},DF ok xs→iL Z w ok (.slice none 0 0) xs
 |.row ty k,xs,h=>by
  have h:xs=[]:=h
  subst h
  exact⟨[],⟨by simp,.inl ⟨rfl,none,rfl⟩⟩,fun i x hx=>by simp at hx⟩
 |.map _ _,_,h=>h.elim
 |.iter _ _,_,h=>h.elim
 |.mr,_,h=>h.elim
def tc(Z:Nat→Prop)(ψ:Nat→Value)(h:Hp)(w:World)(h':Hp)(ψ':Nat→Value):vE→Prop
 |(_,some s,.own ok xs)=>h s=some (.own ok xs)
 |(_,none,.own ok xs)=>DF ok xs
 |(_,some s,.box ty cs')=>(∃cs,h s=some (.box ty cs))∧∀gg vs,ψ s=.pointer (some ⟨gg,0,none⟩)→w.heap[gg]? = some (.cells vs ty (0,0))→ah Z ψ' h' w cs' vs.toList
 |(_,none,.box _ _)=>False
theorem Good.rename(g:Good Z ψ h w B0 O){L:List vE}(hn:bR (L.map (·.1))=true)(hs:bR (L.filterMap (·.2.1))=true)(ll:∀e∈L,tc Z ψ h w (da L).get (dK ψ L) e) :
  Good Z (dK ψ L) (da L).get w B0 O:=by
 have src:∀id b,(da L).get id≠none→ob (dK ψ L id)=some b→∃s o,(id,some s,o)∈L∧h s≠none∧ob (ψ s)=some b:=fun id b h1 h2=>by
  obtain⟨o,ho⟩:=Option.ne_none_iff_exists'.1 h1
  obtain⟨s,hm⟩:=mC ho
  rw[gP hn hm]at h2
  cases s with
  |none=>simp[iX,ob]at h2
  |some s =>
   have h3:=ll _ hm
   refine⟨s,o,hm,?_,h2⟩
   cases o with
   |box ty cs=>obtain⟨⟨Yp,h4⟩,_⟩:=h3;rw[h4];simp
   |own ok xs=>rw[show h s=some (.own ok xs) from h3];simp
 refine⟨fun id ty cs hb=>?_,fun id ok xs hb=>?_,fun id b h1 h2=>?_,fun id lr b h1 h2 h3 h4=>?_,g.iR⟩
 ·obtain⟨s,hm⟩:=mC hb
  have h3:=ll _ hm
  rw[gP hn hm]
  cases s with
  |none=>exact h3.elim
  |some s =>
   obtain⟨⟨Yp,h4⟩,h5⟩:=h3
   obtain⟨gg,vs,h6,h7,h8,h9⟩:=g.box s ty Yp h4
   exact⟨gg,vs,h6,h7,h5 gg vs h6 h7,h9⟩
 ·obtain⟨s,hm⟩:=mC hb
  have h3:=ll _ hm
  rw[gP hn hm]
  cases s with
  |none=>exact DF.owns h3
  |some s=>exact g.row s ok xs h3
 ·obtain⟨s,o,hm,h3,h4⟩:=src id b h1 h2
  exact g.live s b h3 h4
 ·obtain⟨s,o,hm,h5,h6⟩:=src id b h1 h3
  obtain⟨s',o',OL,h5',h6'⟩:=src lr b h2 h4
  have:=g.apart s s' b h5 h5' h6 h6'
  subst this
  exact(OJ hs hm OL).1
def wF(hh:Heap)(i:Nat):List AV:=match hh.get i with
 |some (.box _ cs)=>cs
 |_=>[]
def di:(cU:List CK)→Nat→List AV→oR cU→List vE
 |[],_,_,_=>[]
 |.val k::r,n,cs,x=>di r (n+1) (cs.drop k.sz) x.2
 |.own ok::r,n,cs,x=>(n,(nk (cs.headD .no)).head?,.own ok x.1)::di r (n+1) cs.tail x.2
def dn:(b:BK)→Heap→Nat→Nat→Nat→b.T→List vE
 |.box ty c,hh,i,i',n,x=>(i',some i,.box ty (av c n x))::di c n (wF hh i) x
 |.own ok,_,i,i',_,x=>[(i',some i,.own ok x)]
def b8:(bs:List BK)→Heap→List Nat→List Nat→Nat→ud bs→List vE
 |b::r,hh,i::is,i'::is',n,x=>dn b hh i i' n x.1++b8 r hh is is' (n+16) x.2
 |_,_,_,_,_,_=>[]
theorem lE:∀(cU:List CK) (n:Nat) (cs:List AV) (x:oR cU),da (di cU n cs x)=aM cU n x
 |[],_,_,_=>rfl
 |.val k::r,n,cs,x=>lE r (n+1) _ x.2
 |.own ok::r,n,cs,x=>by simp only[di,aM,da,List.map_cons];rw[←lE r (n+1) cs.tail x.2];rfl
theorem kb:∀(cU:List CK) (n:Nat) (cs:List AV) (x:oR cU),(di cU n cs x).map (·.1)=bU cU n
 |[],_,_,_=>rfl
 |.val k::r,n,cs,x=>kb r (n+1) _ x.2
 |.own ok::r,n,cs,x=>by simp only[di,bU,List.map_cons];rw[kb r (n+1) cs.tail x.2]
theorem uz(c:AV):(nk c).head?.toList=nk c:=by cases c<;>rfl
theorem dp{α β:Type}(f:α→Option β)(a:α)(l:List α):(a::l).filterMap f=(f a).toList++l.filterMap f:=by
 rw[List.filterMap_cons];cases f a<;>rfl
theorem nC{k:K}{r:List CK}{hh:Heap}{cs:List AV}{x:oR (.val k::r)}(hd:cr (.val k::r) hh cs=some x):de k ((cs.take k.sz).map (cq hh))=some x.1∧cr r hh (cs.drop k.sz)=some x.2:=by
 have e:cr (.val k::r) hh cs=(match de k ((cs.take k.sz).map (cq hh)),cr r hh (cs.drop k.sz) with
  |some x,some y=>some ((x,y):k.T×oR r)
  |_,_=>none):=by cases cs<;>rfl
 rw[e]at hd
 clear e
 generalize de k ((cs.take k.sz).map (cq hh))=o1 at hd ⊢
 generalize cr r hh (cs.drop k.sz)=o2 at hd ⊢
 cases o1 with
 |none=>cases hd
 |some x1 =>
  cases o2 with
  |none=>cases hd
  |some y1=>have:=Option.some.inj hd;subst this;exact⟨rfl,rfl⟩
theorem kE{ok:OK}{r:List CK}{hh:Heap}{cs:List AV}{x:oR (.own ok::r)}(hd:cr (.own ok::r) hh cs=some x):∃c cs',cs=c::cs'∧dt hh ok c=some x.1∧cr r hh cs'=some x.2:=by
 cases cs with
 |nil=>cases hd
 |cons c cs =>
  refine⟨c,cs,rfl,?_⟩
  have e:cr (.own ok::r) hh (c::cs)=(match dt hh ok c,cr r hh cs with
   |some x,some y=>some ((x,y):ok.T×oR r)
   |_,_=>none):=rfl
  rw[e]at hd
  clear e
  generalize dt hh ok c=o1 at hd ⊢
  generalize cr r hh cs=o2 at hd ⊢
  cases o1 with
  |none=>cases hd
  |some x1 =>
   cases o2 with
   |none=>cases hd
   |some y1=>have:=Option.some.inj hd;subst this;exact⟨rfl,rfl⟩
theorem nD:∀(cU:List CK) (n:Nat) (hh:Heap) (cs:List AV) (x:oR cU),cr cU hh cs=some x→(di cU n cs x).filterMap (·.2.1)=eO cU cs
 |[],_,_,cs,_,_=>by cases cs<;>rfl
 |.val k::r,n,hh,cs,x,hd=>by
  obtain⟨_,h2⟩:=nC hd
  have e:eO (.val k::r) cs=eO r (cs.drop k.sz):=by cases cs<;>rfl
  rw[e]
  exact nD r (n+1) hh _ x.2 h2
 |.own ok::r,n,hh,cs,x,hd=>by
  obtain⟨c,cs',rfl,_,h2⟩:=kE hd
  simp only[di,eO]
  rw[dp]
  simp only[List.headD_cons,List.tail_cons]
  rw[uz,nD r (n+1) hh cs' x.2 h2]
theorem kF{hh:Heap}{ok:OK}{c:AV}{xs:ok.T}(ho:dt hh ok c=some xs):(c=.eY∧DF ok xs)∨∃id,c=.bp id∧hh.get id=some (.own ok xs):=by
 unfold dt at ho
 split at ho
 ·cases ok with
  |row _ _=>cases ho;exact .inl ⟨rfl,rfl⟩
  |_=>cases ho
 ·rename_i id
  split at ho
  ·rename_i wb k' TJ hg
   split at ho
   ·rename_i e
    subst e
    cases ho
    exact .inr ⟨id,rfl,hg⟩
   ·cases ho
  ·cases ho
 ·cases ho
theorem Cj{hh:Heap}{ok:OK}{c:AV}{xs:ok.T}{v:Value}(ho:dt hh ok c=some xs)(hr:ao Z ψ hh.get w c v){n:Nat}(hZ:h' n≠none→ψ' n=iX ψ (nk c).head?):ao Z' ψ' h' w' (.bp n) v:=by
 rcases kF ho with⟨rfl,_⟩|⟨id,rfl,hg⟩
 ·simp only[ao]at hr ⊢
  subst hr
  exact⟨⟨rfl,rfl⟩,fun hn=>(hZ hn).symm⟩
 ·simp only[ao]at hr ⊢
  refine⟨hr.1,fun hn=>?_⟩
  rw[hZ hn]
  exact hr.2 (by rw[hg];simp)
theorem qm{hh:Heap}(g:Good Z ψ hh.get w B0 O)(hz:∀b,Z b→Z' b):∀(cU:List CK) (n:Nat) (cs:List AV) (x:oR cU) (vs:List Value),cr cU hh cs=some x →
  (∀id b,AV.bp id∈ov cU cs→hh.get id≠none→ob (ψ id)=some b→Z' b)→(∀e∈di cU n cs x,h' e.1≠none→ψ' e.1=iX ψ e.2.1) →
  ah Z ψ hh.get w cs vs→ah Z' ψ' h' w (av cU n x) vs
 |[],n,cs,x,vs,hd,_,_,hr=>by
  cases cs with
  |nil=>simpa only[av,ah] using hr
  |cons c cs=>cases hd
 |.val k::r,n,cs,x,vs,hd,hf,hZ,hr=>by
  obtain⟨h1,h2⟩:=nC hd
  have e:ov (.val k::r) cs=cs.take k.sz++ov r (cs.drop k.sz):=by cases cs<;>rfl
  rw[e]at hf
  have qf:ah Z ψ hh.get w (cs.take k.sz++cs.drop k.sz) vs:=by rw[List.take_append_drop];exact hr
  obtain⟨us,ws,rfl,h3,h4⟩:=ah.split qf
  simp only[av]
  have h5:=mB (Z':=Z') g hz (fun id b bD=>hf id b (List.mem_append_left _ bD)) h3
  exact ah.append (gk (dg h1 h5)) (qm g hz r (n+1) (cs.drop k.sz) x.2 ws h2 (fun id b bD=>hf id b (List.mem_append_right _ bD)) hZ h4)
 |.own ok::r,n,cs,x,vs,hd,hf,hZ,hr=>by
  obtain⟨c,cs',rfl,h1,h2⟩:=kE hd
  simp only[ah]at hr
  obtain⟨v,us,rfl,h3,h4⟩:=hr
  simp only[av,ah]
  refine⟨v,us,rfl,Cj h1 h3 (fun hn=>hZ (n,_,_) (by simp only[di];exact List.mem_cons_self) hn),?_⟩
  exact qm g hz r (n+1) cs' x.2 us h2 hf (fun e he=>hZ e (by simp only[di];exact List.mem_cons_of_mem _ he)) h4
theorem dS{b:BK}{r:List BK}{hh:Heap}{i:Nat}{is:List Nat}{x:ud (b::r)}(hd:cC (b::r) hh (i::is)=some x):ow b hh i=some x.1∧cC r hh is=some x.2:=by
 have e:cC (b::r) hh (i::is)=(match ow b hh i,cC r hh is with
   |some x,some y=>some ((x,y):b.T×ud r)
   |_,_=>none):=rfl
 rw[e]at hd
 clear e
 generalize ow b hh i=o1 at hd ⊢
 generalize cC r hh is=o2 at hd ⊢
 cases o1 with
 |none=>cases hd
 |some x1 =>
  cases o2 with
  |none=>cases hd
  |some y1=>have:=Option.some.inj hd;subst this;exact⟨rfl,rfl⟩
theorem qn{ty:TypeId}{c:List CK}{hh:Heap}{i:Nat}{x:oR c}(hd:ow (.box ty c) hh i=some x):∃cs,hh.get i=some (.box ty cs)∧cr c hh cs=some x:=by
 simp only[ow]at hd
 cases hb:AM hh i ty with
 |none=>rw[hb]at hd;cases hd
 |some cs =>
  rw[hb]at hd
  refine⟨cs,?_,hd⟩
  unfold AM at hb
  split at hb
  ·rename_i wb cs' hg
   split at hb
   ·rename_i e;cases hb;rw[hg,e]
   ·cases hb
  ·cases hb
theorem iY{hh:Heap}{ok:OK}{i:Nat}{x:ok.T}(h:dt hh ok (.bp i)=some x):hh.get i=some (.own ok x):=by
 rcases kF h with⟨h,_⟩|⟨id,h,hg⟩
 ·cases h
 ·cases h;exact hg
theorem AZ{ok:OK}{hh:Heap}{i:Nat}{x:ok.T}(hd:ow (.own ok) hh i=some x):hh.get i=some (.own ok x):=iY hd
theorem nE{hh:Heap}{i:Nat}{ty:TypeId}{cs:List AV}(hg:hh.get i=some (.box ty cs)):wF hh i=cs:=by unfold wF;rw[hg]
theorem Ck(b:BK){hh:Heap}{i i' n:Nat}(x:b.T):da (dn b hh i i' n x)=ib b i' n x:=by
 cases b with
 |box ty c=>simp only[dn,ib];rw[←lE c n (wF hh i) x];simp[da]
 |own ok=>simp[dn,ib,da]
theorem Ar(b:BK){hh:Heap}{i i' n:Nat}(x:b.T):(dn b hh i i' n x).map (·.1)=i'::bU b.cU n:=by
 cases b with
 |box ty c=>simp only[dn,List.map_cons,BK.cU];rw[kb]
 |own ok=>simp[dn,BK.cU,bU]
theorem DG(b:BK){hh:Heap}{i i' n:Nat}{x:b.T}(hd:ow b hh i=some x):(dn b hh i i' n x).filterMap (·.2.1)=jt b hh i:=by
 cases b with
 |box ty c =>
  obtain⟨cs,h1,h2⟩:=qn hd
  simp only[dn,jt]
  rw[dp,nE h1,nD c n hh cs x h2,h1]
  rfl
 |own ok=>simp[dn,jt]
theorem ij:∀(bs:List BK) (hh:Heap) (is is':List Nat) (n:Nat) (x:ud bs),cC bs hh is=some x→is'.length=bs.length→da (b8 bs hh is is' n x)=aX bs is' n x
 |[],hh,is,is',n,x,_,hl=>by cases is'<;>simp[b8,aX,da]
 |b::r,hh,[],is',n,x,hd,_=>by cases hd
 |b::r,hh,i::is,[],n,x,_,hl=>by simp at hl
 |b::r,hh,i::is,i'::is',n,x,hd,hl=>by
  obtain⟨_,h3⟩:=dS hd
  have ih:=ij r hh is is' (n+16) x.2 h3 (by simpa using hl)
  simp only[b8,aX]
  rw[←ih,←Ck b (hh:=hh) (i:=i) x.1]
  simp[da]
theorem fV:∀(bs:List BK) (hh:Heap) (is is':List Nat) (n:Nat) (x:ud bs),cC bs hh is=some x→is'.length=bs.length→(b8 bs hh is is' n x).map (·.1)=bM bs is' n
 |[],hh,is,is',n,x,_,hl=>by cases is'<;>simp[b8,bM]
 |b::r,hh,[],is',n,x,hd,_=>by cases hd
 |b::r,hh,i::is,[],n,x,_,hl=>by simp at hl
 |b::r,hh,i::is,i'::is',n,x,hd,hl=>by
  obtain⟨_,h3⟩:=dS hd
  have ih:=fV r hh is is' (n+16) x.2 h3 (by simpa using hl)
  simp only[b8,bM,List.map_append]
  rw[ih,Ar,List.cons_append]
theorem jA:∀(bs:List BK) (hh:Heap) (is is':List Nat) (n:Nat) (x:ud bs),cC bs hh is=some x→is'.length=bs.length→(b8 bs hh is is' n x).filterMap (·.2.1)=cE bs hh is
 |[],hh,is,is',n,x,_,hl=>by cases is'<;>cases is<;>simp[b8,cE]
 |b::r,hh,[],is',n,x,hd,_=>by cases hd
 |b::r,hh,i::is,[],n,x,_,hl=>by simp at hl
 |b::r,hh,i::is,i'::is',n,x,hd,hl=>by
  obtain⟨h1,h3⟩:=dS hd
  have ih:=jA r hh is is' (n+16) x.2 h3 (by simpa using hl)
  simp only[b8,cE]
  rw[List.filterMap_append,ih,DG b h1]
theorem qo{hd:Hp}{hh:Heap}:∀(cU:List CK) (n:Nat) (cs:List AV) (x:oR cU),cr cU hh cs=some x→(∀s∈eO cU cs,hd s=hh.get s)→∀e∈di cU n cs x,tc Z ψ hd w h' ψ' e
 |[],n,cs,x,_,_,e,he=>by simp[di]at he
 |.val k::r,n,cs,x,N6,hk,e,he=>by
  obtain⟨_,h2⟩:=nC N6
  have e0:eO (.val k::r) cs=eO r (cs.drop k.sz):=by cases cs<;>rfl
  rw[e0]at hk
  exact qo r (n+1) _ x.2 h2 hk e he
 |.own ok::r,n,cs,x,N6,hk,e,he=>by
  obtain⟨c,cs',rfl,h1,h2⟩:=kE N6
  simp only[di,List.headD_cons,List.tail_cons]at he
  simp only[eO]at hk
  rcases List.mem_cons.1 he with rfl|he
  ·rcases kF h1 with⟨rfl,h3⟩|⟨id,rfl,h3⟩
   ·exact h3
   ·show hd id=some (.own ok x.1)
    rw[hk id (List.mem_append_left _ (by simp[nk])),h3]
  ·exact qo r (n+1) cs' x.2 h2 (fun s hs=>hk s (List.mem_append_right _ hs)) e he
theorem Gi{hd:Hp}{hh:Heap}(g:Good Z ψ hh.get w B0 O)(hz:∀b,Z b→Z' b)(b:BK){i i' n:Nat}{x:b.T}(N6:ow b hh i=some x)
  (hf:∀id g,AV.bp id∈xj b hh i→hh.get id≠none→ob (ψ id)=some g→Z' g) (hk:∀s∈jt b hh i,hd s=hh.get s) (hZ:∀e∈dn b hh i i' n x,h' e.1≠none→ψ' e.1=iX ψ e.2.1) :
  ∀e∈dn b hh i i' n x,tc Z' ψ hd w h' ψ' e:=by
 intro e he
 cases b with
 |box ty c =>
  obtain⟨cs,h1,h2⟩:=qn N6
  simp only[xj,jt,h1]at hf hk
  have Rq:∀e∈di c n cs x,h' e.1≠none→ψ' e.1=iX ψ e.2.1:=fun e he=>hZ e (by simp only[dn];rw[nE h1];exact List.mem_cons_of_mem _ he)
  simp only[dn]at he
  rcases List.mem_cons.1 he with rfl|he
  ·refine⟨⟨cs,by rw[hk i List.mem_cons_self,h1]⟩,fun gg vs h4 h5=>?_⟩
   obtain⟨gg',fW,h6,h7,h8,_⟩:=g.box i ty cs h1
   rw[h6]at h4
   cases h4
   rw[h5]at h7
   cases h7
   exact qm g hz c n cs x _ h2 hf Rq h8
  ·rw[nE h1]at he
   exact qo c n cs x h2 (fun s hs=>hk s (List.mem_cons_of_mem _ hs)) e he
 |own ok =>
  have h1:=AZ N6
  simp only[dn,List.mem_singleton]at he
  subst he
  show hd i=some (.own ok x)
  rw[hk i (by simp[jt]),h1]
theorem kG{hd:Hp}{hh:Heap}(g:Good Z ψ hh.get w B0 O)(hz:∀b,Z b→Z' b):∀(bs:List BK) (is is':List Nat) (n:Nat) (x:ud bs),cC bs hh is=some x →
  (∀id b,AV.bp id∈eZ bs hh is→hh.get id≠none→ob (ψ id)=some b→Z' b)→(∀s∈cE bs hh is,hd s=hh.get s)→(∀e∈b8 bs hh is is' n x,h' e.1≠none→ψ' e.1=iX ψ e.2.1) →
  ∀e∈b8 bs hh is is' n x,tc Z' ψ hd w h' ψ' e
 |[],is,is',n,x,_,_,_,_,e,he=>by simp[b8]at he
 |b::r,[],is',n,x,N6,_,_,_,e,he=>by cases N6
 |b::r,i::is,[],n,x,_,_,_,_,e,he=>by simp[b8]at he
 |b::r,i::is,i'::is',n,x,N6,hf,hk,hZ,e,he=>by
  obtain⟨h1,h3⟩:=dS N6
  simp only[eZ,cE]at hf hk
  simp only[b8]at he hZ
  rcases List.mem_append.1 he with he|he
  ·exact Gi g hz b h1 (fun id g bD=>hf id g (List.mem_append_left _ bD)) (fun s hs=>hk s (List.mem_append_left _ hs)) (fun e he=>hZ e (List.mem_append_left _ he)) e he
  ·exact kG g hz r is is' (n+16) x.2 h3 (fun id b bD=>hf id b (List.mem_append_right _ bD)) (fun s hs=>hk s (List.mem_append_right _ hs)) (fun e he=>hZ e (List.mem_append_right _ he)) e he
theorem qp{kept:List Nat}{jV:List AV}(hk:uh kept jV=true):bR kept=true∧∀(hh:Heap) s,s∈kept→(cm hh jV).get s=hh.get s:=by
 unfold uh at hk
 rw[Bool.and_eq_true]at hk
 exact⟨hk.1,fun hh s hs=>nq _ _ _ (qi (List.all_eq_true.1 hk.2 s hs))⟩
theorem uA{hh:Heap}{jV:List AV}{kept:List Nat}(g:Good Z ψ hh.get w B0 O)(hk:uh kept jV=true){L:List vE}(hn:bR (L.map (·.1))=true)(hs:L.filterMap (·.2.1)=kept)
  (ll:∀e∈L,tc (oP Z ψ hh.get jV) ψ (cm hh jV).get w (da L).get (dK ψ L) e):Good (oP Z ψ hh.get jV) (dK ψ L) (da L).get w B0 O :=
 (gy g jV).rename hn (by rw[hs];exact(qp hk).1) ll
theorem wG{L:List vE}(hn:bR (L.map (·.1))=true):∀e∈L,(da L).get e.1≠none→dK ψ L e.1=iX ψ e.2.1:=fun⟨i,s,o⟩ he _=>gP hn he
theorem lF(A B:List vE):da (A++B)=da A++da B:=by simp[da]
theorem wH{hh:Heap}{i s i':Nat}{v:Value}(hr:ao Z ψ hh.get w (.ref i s 0 0) v)(hi:hh.get i≠none)(hZ:h' i'≠none→ψ' i'=ψ i):ao Z' ψ' h' w' (.ref i' 0 0 0) v:=by
 simp only[ao]at hr ⊢
 obtain⟨a,rfl,ha⟩:=hr
 refine⟨a,rfl,fun hn=>?_⟩
 rw[hZ hn,ha hi]
 simp
theorem nF{v:AV}{i:Nat}(h:AO v=some i):∃s,v=.ref i s 0 0:=by
 unfold AO at h
 split at h
 ·cases h;exact⟨_,rfl⟩
 ·cases h
theorem il{hh:Heap}:∀(bs:List BK) (is:List Nat) (x:ud bs),cC bs hh is=some x→is.length=bs.length∧∀i∈is,hh.get i≠none
 |[],[],_,_=>⟨rfl,fun i hi=>by cases hi⟩
 |[],_::_,_,h=>by cases h
 |_::_,[],_,h=>by cases h
 |b::r,i::is,x,h=>by
  obtain⟨h1,h3⟩:=dS h
  obtain⟨h4,h5⟩:=il r is x.2 h3
  refine⟨by simp[h4],fun j hj=>?_⟩
  rcases List.mem_cons.1 hj with rfl|hj
  ·cases b with
   |box ty c=>obtain⟨cs,h1,_⟩:=qn h1;rw[h1];simp
   |own ok=>rw[AZ h1];simp
  ·exact h5 j hj
theorem jB{hh:Heap}:∀(bs:List BK) (is is':List Nat) (n:Nat) (x:ud bs),is.length=bs.length→∀p∈is.zip is',∃o,(p.2,some p.1,o)∈b8 bs hh is is' n x
 |[],is,is',n,x,hl,p,hp=>by
  cases is with
  |nil=>simp at hp
  |cons a r=>simp at hl
 |b::r,[],is',n,x,hl,p,hp=>by simp at hp
 |b::r,i::is,[],n,x,hl,p,hp=>by simp at hp
 |b::r,i::is,i'::is',n,x,hl,p,hp=>by
  simp only[List.zip_cons_cons]at hp
  simp only[b8]
  rcases List.mem_cons.1 hp with rfl|hp
  ·cases b with
   |box ty c=>exact⟨_,List.mem_append_left _ (by simp only[dn];exact List.mem_cons_self)⟩
   |own ok=>exact⟨_,List.mem_append_left _ (by simp only[dn];exact List.mem_cons_self)⟩
  ·obtain⟨o,ho⟩:=jB r is is' (n+16) x.2 (by simpa using hl) p hp
   exact⟨o,List.mem_append_right _ ho⟩
theorem HW{hd:Hp}{hh:Heap}{ok:OK}{c:AV}{xs:ok.T}(ho:dt hh ok c=some xs)(hk:∀s∈nk c,hd s=hh.get s){n:Nat}:tc Z ψ hd w h' ψ' (n,(nk c).head?,.own ok xs):=by
 rcases kF ho with⟨rfl,h3⟩|⟨id,rfl,h3⟩
 ·exact h3
 ·show hd id=some (.own ok xs)
  rw[hk id (by simp[nk]),h3]
end Go.Vs
namespace Go.Vs
variable {P:Program} {Z Z':Nat→Prop} {ψ ψ':Nat→Value} {h h':Hp} {w w':World} {B0:Nat} {O:Nat→Prop} {N:Nat→Prop}
def fh:Hp:=fun _=>none
def FK:Nat→Value:=fun _=>undef
def A1(g:aL)(x:Dg (jX g.ps)):List AV:=(aH g.ps [] 0 x).map (·.2)
def TU(P:Program)(f:FuncId)(g:aL)(x:g.A)(y:g.B):Prop :=
 ∀(Z:Nat→Prop) (w:World) (jC:List Value),(∀b,Z b→b<w.heap.size)→ah Z FK fh w (A1 g x.1) jC →
  Calls P (f%1000) jC.toArray w fun e w'=>∃v Z' ψ',e=.returned v∧(∀b,Z b→Z' b)∧(∀b,Z' b→Z b∨w.heap.size≤b)∧cF FK fh w w' ∧
   Good Z' ψ' (ag g.rs 3000 y.1).get w' w.heap.size (fun _=>False)∧ao Z' ψ' (ag g.rs 3000 y.1).get w' (dO (aI g.rs [] 2000 3000 y.1)) v
theorem vF{p:PK}{ps:List PK}{vs:List AV}(hi:cg (p::ps) vs=some []):∃a r,vs=a::r∧cg ps r=some []∧(p≠.ref∧p≠.own)∧(∀f n,p=.B3 f n→a=.fn f [])∧(∀n,p=.agg n→a=.agg []):=by
 cases vs with
 |nil=>cases p<;>simp[cg]at hi
 |cons a r =>
  cases p with
  |val k=>exact⟨a,r,rfl,by simpa only[cg] using hi,by simp,by simp,by simp⟩
  |ref =>
   simp only[cg]at hi
   split at hi<;>simp at hi
  |own =>
   cases a<;>simp only[cg]at hi<;>first|(cases hi;done)|skip
   split at hi<;>simp at hi
  |B3 f n =>
   cases a<;>simp only[cg]at hi<;>first|(cases hi;done)|skip
   rename_i f' cap
   split at hi
   ·rename_i hc
    obtain⟨rfl,sG⟩:=hc
    split at hi
    ·rename_i a1 b1 h1 h2
     simp only[Option.some.injEq,List.append_eq_nil_iff]at hi
     obtain⟨rfl,rfl⟩:=hi
     have Re:cap=[]:=by
      cases cap with
      |nil=>rfl
      |cons c cs=>simp only[iO]at h1;split at h1<;>simp at h1
     subst Re
     exact⟨_,r,rfl,h2,by simp,by rintro f n ⟨⟩;rfl,by simp⟩
    ·cases hi
   ·cases hi
  |agg n =>
   cases a<;>simp only[cg]at hi<;>first|(cases hi;done)|skip
   rename_i cs
   split at hi
   ·split at hi
    ·rename_i a1 b1 h1 h2
     simp only[Option.some.injEq,List.append_eq_nil_iff]at hi
     obtain⟨rfl,rfl⟩:=hi
     have Jd:cs=[]:=by
      cases cs with
      |nil=>rfl
      |cons c cs=>cases c<;>simp only[nm]at h1<;>first|(cases h1;done)|(split at h1<;>simp at h1)
     subst Jd
     exact⟨_,r,rfl,h2,by simp,by simp,fun _ _=>rfl⟩
    ·cases hi
   ·cases hi
theorem vG{k:K}{ps:List PK}{hh:Heap}{a:AV}{r:List AV}{x:k.T×Dg (jX ps)}(hv:dI (.val k::ps) hh (a::r)=some x):eU k hh a=some x.1∧dI ps hh r=some x.2:=by
 have e:dI (.val k::ps) hh (a::r)=(match eU k hh a,dI ps hh r with
  |some x,some y=>some ((x,y):k.T×Dg (jX ps))
  |_,_=>none):=rfl
 rw[e]at hv
 clear e
 generalize eU k hh a=o1 at hv ⊢
 generalize dI ps hh r=o2 at hv ⊢
 cases o1 with
 |none=>cases hv
 |some x1 =>
  cases o2 with
  |none=>cases hv
  |some y1 =>
   have:=Option.some.inj hv
   subst this
   exact⟨rfl,rfl⟩
theorem xV{hh:Heap}(g:Good Z ψ hh.get w B0 O)(hz:∀b,Z b→Z' b)(ps:List PK):∀(s:Nat) (vs:List AV) (us:List Value) (x:Dg (jX ps)),(∀v∈vs,∀id b,AV.bp id∈v.cells→hh.get id≠none→ob (ψ id)=some b→Z' b) →
  cg ps vs=some []→dI ps hh vs=some x→ah Z ψ hh.get w vs us→ah Z' FK fh w ((aH ps [] s x).map (·.2)) us:=by
 induction ps with
 |nil =>
  intro s vs us x _ hi hv hr
  cases vs with
  |nil=>simpa only[aH,List.map_nil,ah] using hr
  |cons a r=>simp[cg]at hi
 |cons p ps ih =>
  intro s vs us x hb hi hv hr
  obtain⟨a,r,rfl,sV,OM,Rr,Rs⟩:=vF hi
  simp only[ah]at hr
  obtain⟨u,hM,rfl,h3,h4⟩:=hr
  cases p with
  |val k =>
   obtain⟨h1,h2⟩:=vG hv
   simp only[aH,List.map_cons,ah]
   exact⟨u,hM,rfl,qj (Z':=Z') (ψ':=FK) (h':=fh) g hz (hb a List.mem_cons_self) h1 h3,ih (s+1) r hM x.2 (fun v hv=>hb v (List.mem_cons_of_mem _ hv)) sV h2 h4⟩
  |ref=>exact absurd rfl OM.1
  |own=>exact absurd rfl OM.2
  |B3 f n =>
   have ha:=Rr f n rfl
   subst ha
   have h2:dI ps hh r=some x:=hv
   simp only[aH,List.map_cons,ah,List.take_nil,List.map_nil,List.drop_nil]
   simp only[ao,ah]at h3 ⊢
   exact⟨u,hM,rfl,h3,ih (s+1) r hM x (fun v hv=>hb v (List.mem_cons_of_mem _ hv)) sV h2 h4⟩
  |agg n =>
   have ha:=Rs n rfl
   subst ha
   have h2:dI ps hh r=some x:=hv
   simp only[aH,List.map_cons,ah,List.take_nil,List.map_nil,List.drop_nil]
   simp only[ao,ah]at h3 ⊢
   exact⟨u,hM,rfl,h3,ih (s+1) r hM x (fun v hv=>hb v (List.mem_cons_of_mem _ hv)) sV h2 h4⟩
theorem Good.TV(g:Good Z ψ h w B0 O)(k:cF FK fh w w')(hz:∀b,Z b→Z' b)(KK:∀b,Z' b→Z b∨w.heap.size≤b)(Yq:∀b,Z' b→b<w'.heap.size)
  (hold:∀id,¬N id→h' id=h id∧ψ' id=ψ id)
  (aT:∀id ty cs,h id=some (.box ty cs)→aw (fun i=>¬N i) cs)
  (K5:∀id ty cs,N id→h' id=some (.box ty cs)→False)
  (lx:∀id ok xs,N id→h' id=some (.own ok xs)→iL Z' w' ok (ψ' id) xs)
  (xw:∀id b,N id→h' id≠none→ob (ψ' id)=some b→w.heap.size≤b∧¬Z' b)
  (F3:∀id lr b,N id→N lr→h' id≠none→h' lr≠none→ob (ψ' id)=some b→ob (ψ' lr)=some b→id=lr) (hB:B0≤w.heap.size) :
  Next Z ψ h w B0 O N Z' ψ' h' w':=by
 have c8:∀b,b<w.heap.size→w'.heap[b]? = w.heap[b]? := fun b hb=>k.block b hb (fun⟨id,h1,_⟩=>h1 rfl)
 have sm:b4 Z w w':=fun b hb=>c8 b (g.iR b hb)
 have qN:∀id,h' id≠none→(h id≠none∧ψ' id=ψ id)∨N id:=fun id bD=>by
  by_cases hn:N id
  ·exact .inr hn
  ·obtain⟨e1,e2⟩:=hold id hn
   exact .inl ⟨by rwa [e1]at bD,e2⟩
 have vv:∀id b,¬N id→h' id≠none→ob (ψ' id)=some b→Own ψ h b:=fun id b hn h1 h2=>by
  obtain⟨e1,e2⟩:=hold id hn
  exact⟨id,by rwa [e1]at h1,by rwa [e2]at h2⟩
 have kk:cF ψ h w w':=⟨k.os,k.tape,k.output,k.size,fun b hb _=>c8 b hb⟩
 refine⟨hz,fun b hb=>(KK b hb).imp (fun h=>h) .inr,kk,qN,⟨fun id ty cs hb=>?_,fun id ok xs hb=>?_,fun id b h1 h2=>?_,fun id lr b h1 h2 h3 h4=>?_,Yq⟩⟩
 ·by_cases hn:N id
  ·exact(K5 id ty cs hn hb).elim
  ·obtain⟨e1,e2⟩:=hold id hn
   rw[e1]at hb
   obtain⟨gg,vs,h1,h2,h3,h4⟩:=g.box id ty cs hb
   exact⟨gg,vs,by rw[e2,h1],(c8 gg (Array.getElem?_eq_some_iff.1 h2).1).trans h2,h3.move hz sm (fun i hp bD=>(qN i bD).resolve_right hp) (aT id ty cs hb),h4⟩
 ·by_cases hn:N id
  ·exact lx id ok xs hn hb
  ·obtain⟨e1,e2⟩:=hold id hn
   rw[e1]at hb
   rw[e2]
   exact(g.row id ok xs hb).kept hz sm (fun gg I9=>c8 gg (g.bw ⟨id,by rw[hb];simp,I9⟩))
 ·by_cases hn:N id
  ·obtain⟨h3,h4⟩:=xw id b hn h1 h2
   exact⟨h4,.inl (by omega)⟩
  ·obtain⟨e1,e2⟩:=hold id hn
   rw[e1]at h1;rw[e2]at h2
   have h3:=g.live id b h1 h2
   refine⟨fun TH=>?_,h3.2⟩
   rcases KK b TH with h4|h4
   ·exact h3.1 h4
   ·have:=g.bw ⟨id,h1,h2⟩;omega
 ·by_cases hn:N id<;>by_cases F4:N lr
  ·exact F3 id lr b hn F4 h1 h2 h3 h4
  ·have:=(xw id b hn h1 h3).1
   have:=g.bw (vv lr b F4 h2 h4);omega
  ·have:=(xw lr b F4 h2 h4).1
   have:=g.bw (vv id b hn h1 h3);omega
  ·obtain⟨e1,e2⟩:=hold id hn
   obtain⟨e3,e4⟩:=hold lr F4
   rw[e1]at h1;rw[e2]at h3;rw[e3]at h2;rw[e4]at h4
   exact g.apart id lr b h1 h2 h3 h4
theorem bg{r:RK}{rs:List RK}(h:(r::rs).all RK.plain=true):rs.all RK.plain=true:=by simp only[List.all_cons,Bool.and_eq_true]at h;exact h.2
theorem Jn{c:List CK}{rs:List RK}(h:(RK.agg c::rs).all RK.plain=true):c.length≤16:=by
 simp only[List.all_cons,Bool.and_eq_true,RK.plain,decide_eq_true_eq]at h;exact h.1
theorem kH:∀(c:List CK) (a:Nat) (x:oR c) (i:Nat),i<a→(aM c a x).get i=none
 |[],_,_,_,_=>rfl
 |.val _::r,a,x,i,h=>by simp only[aM];exact kH r (a+1) x.2 i (by omega)
 |.own ok::r,a,x,i,h=>by simp only[aM,Heap.get];rw[if_neg (by omega)];exact kH r (a+1) x.2 i (by omega)
theorem rX:∀(c:List CK) (a:Nat) (x:oR c) (i:Nat),a+c.length≤i→(aM c a x).get i=none
 |[],_,_,_,_=>rfl
 |.val _::r,a,x,i,h=>by simp only[List.length_cons]at h;simp only[aM];exact rX r (a+1) x.2 i (by omega)
 |.own ok::r,a,x,i,h=>by simp only[List.length_cons]at h;simp only[aM,Heap.get];rw[if_neg (by omega)];exact rX r (a+1) x.2 i (by omega)
theorem rY:∀(c:List CK) (a b:Nat) (x:oR c) (j:Nat),(aM c a x).get (a+j)=(aM c b x).get (b+j)
 |[],_,_,_,_=>rfl
 |.val _::r,a,b,x,0=>by simp only[aM];rw[kH _ _ _ _ (by omega),kH _ _ _ _ (by omega)]
 |.own ok::r,a,b,x,0=>by simp[aM,Heap.get]
 |.val _::r,a,b,x,j+1=>by
  simp only[aM]
  rw[show a+(j+1)=a+1+j by omega,show b+(j+1)=b+1+j by omega]
  exact rY r (a+1) (b+1) x.2 j
 |.own ok::r,a,b,x,j+1=>by
  simp only[aM,Heap.get]
  rw[if_neg (by omega),if_neg (by omega),show a+(j+1)=a+1+j by omega,show b+(j+1)=b+1+j by omega]
  exact rY r (a+1) (b+1) x.2 j
theorem mf:∀(c:List CK) (a:Nat) (x:oR c) (i:Nat) (ty:TypeId) (cs:List AV),(aM c a x).get i≠some (.box ty cs)
 |[],_,_,_,_,_=>by simp[aM,Heap.get]
 |.val _::r,a,x,i,ty,cs=>by simp only[aM];exact mf r (a+1) x.2 i ty cs
 |.own ok::r,a,x,i,ty,cs=>by
  simp only[aM,Heap.get]
  split
  ·simp
  ·exact mf r (a+1) x.2 i ty cs
theorem pq:∀(rs:List RK) (a:Nat) (y:ky rs) (i:Nat),rs.all RK.plain=true→i<a→(ag rs a y).get i=none
 |[],a,y,i,_,h=>rfl
 |.val k::r,a,y,i,hp,h=>by simp only[ag];exact pq r (a+1) y.2 i (bg hp) (by omega)
 |.own ok::r,a,y,i,hp,h=>by simp only[ag,Heap.get];rw[if_neg (by omega)];exact pq r (a+1) y.2 i (bg hp) (by omega)
 |.dJ _ _::r,a,y,i,hp,h=>by simp only[ag];exact pq r (a+1) y.2 i (bg hp) (by omega)
 |.agg c::r,a,y,i,hp,h=>by
  have h1:(aM c a y.1).get i=none:=kH c a y.1 i h
  have h2:=pq r (a+1) y.2 i (bg hp) (by omega)
  show Heap.get (aM c a y.1++ag r (a+1) y.2) i=none
  rw[Heap.get_append,h1,h2]
theorem DH:∀(rs:List RK) (a:Nat) (y:ky rs) (i:Nat),rs.all RK.plain=true→a+rs.length+16≤i→(ag rs a y).get i=none
 |[],a,y,i,_,h=>rfl
 |.val k::r,a,y,i,hp,h=>by simp only[List.length_cons]at h;simp only[ag];exact DH r (a+1) y.2 i (bg hp) (by omega)
 |.own ok::r,a,y,i,hp,h=>by simp only[List.length_cons]at h;simp only[ag,Heap.get];rw[if_neg (by omega)];exact DH r (a+1) y.2 i (bg hp) (by omega)
 |.dJ _ _::r,a,y,i,hp,h=>by simp only[List.length_cons]at h;simp only[ag];exact DH r (a+1) y.2 i (bg hp) (by omega)
 |.agg c::r,a,y,i,hp,h=>by
  simp only[List.length_cons]at h
  have hc:=Jn hp
  have h1:(aM c a y.1).get i=none:=rX c a y.1 i (by omega)
  have h2:=DH r (a+1) y.2 i (bg hp) (by omega)
  show Heap.get (aM c a y.1++ag r (a+1) y.2) i=none
  rw[Heap.get_append,h1,h2]
theorem DI:∀(rs:List RK) (a b:Nat) (y:ky rs) (j:Nat),rs.all RK.plain=true→(ag rs a y).get (a+j)=(ag rs b y).get (b+j)
 |[],_,_,_,_,_=>rfl
 |.val k::r,a,b,y,0,hp=>by simp only[ag];rw[pq _ _ _ _ (bg hp) (by omega),pq _ _ _ _ (bg hp) (by omega)]
 |.dJ _ _::r,a,b,y,0,hp=>by simp only[ag];rw[pq _ _ _ _ (bg hp) (by omega),pq _ _ _ _ (bg hp) (by omega)]
 |.own ok::r,a,b,y,0,hp=>by simp[ag,Heap.get]
 |.val k::r,a,b,y,j+1,hp=>by
  simp only[ag]
  rw[show a+(j+1)=a+1+j by omega,show b+(j+1)=b+1+j by omega]
  exact DI r (a+1) (b+1) y.2 j (bg hp)
 |.dJ _ _::r,a,b,y,j+1,hp=>by
  simp only[ag]
  rw[show a+(j+1)=a+1+j by omega,show b+(j+1)=b+1+j by omega]
  exact DI r (a+1) (b+1) y.2 j (bg hp)
 |.own ok::r,a,b,y,j+1,hp=>by
  simp only[ag,Heap.get]
  rw[if_neg (by omega),if_neg (by omega),show a+(j+1)=a+1+j by omega,show b+(j+1)=b+1+j by omega]
  exact DI r (a+1) (b+1) y.2 j (bg hp)
 |.agg c::r,a,b,y,j,hp=>by
  have h1:(aM c a y.1).get (a+j)=(aM c b y.1).get (b+j):=rY c a b y.1 j
  have h2:(ag r (a+1) y.2).get (a+j)=(ag r (b+1) y.2).get (b+j):=by
   cases j with
   |zero=>rw[pq _ _ _ _ (bg hp) (by omega),pq _ _ _ _ (bg hp) (by omega)]
   |succ j =>
    rw[show a+(j+1)=a+1+j by omega,show b+(j+1)=b+1+j by omega]
    exact DI r (a+1) (b+1) y.2 j (bg hp)
  show Heap.get (aM c a y.1++ag r (a+1) y.2) (a+j)=Heap.get (aM c b y.1++ag r (b+1) y.2) (b+j)
  rw[Heap.get_append,Heap.get_append,h1,h2]
theorem td:∀(rs:List RK) (a:Nat) (y:ky rs) (i:Nat) (ty:TypeId) (cs:List AV),rs.all RK.plain=true→(ag rs a y).get i≠some (.box ty cs)
 |[],_,_,_,_,_,_=>by simp[ag,Heap.get]
 |.val k::r,a,y,i,ty,cs,hp=>by simp only[ag];exact td r (a+1) y.2 i ty cs (bg hp)
 |.dJ _ _::r,a,y,i,ty,cs,hp=>by simp only[ag];exact td r (a+1) y.2 i ty cs (bg hp)
 |.own ok::r,a,y,i,ty,cs,hp=>by
  simp only[ag,Heap.get]
  split
  ·simp
  ·exact td r (a+1) y.2 i ty cs (bg hp)
 |.agg c::r,a,y,i,ty,cs,hp=>by
  have h1:(aM c a y.1).get i≠some (.box ty cs):=mf c a y.1 i ty cs
  show Heap.get (aM c a y.1++ag r (a+1) y.2) i≠some (.box ty cs)
  rw[Heap.get_append]
  split
  ·rename_i o ho;rw[ho]at h1;exact h1
  ·exact td r (a+1) y.2 i ty cs (bg hp)
theorem kI(p:Nat→Prop):∀(k:K) (x:k.T),aw p (enc k x)
 |.int _,_=>by simp only[enc,aw,aC];exact⟨trivial,trivial⟩
 |.bool,_=>by simp only[enc,aw,aC];exact⟨trivial,trivial⟩
 |.str,_=>by simp only[enc,aw,aC];exact⟨trivial,trivial⟩
 |.sl _,_=>by simp only[enc,aw,aC];exact⟨trivial,trivial⟩
 |.mp _ _,_=>by simp only[enc,aw,aC];exact⟨trivial,trivial⟩
 |.pair a b,x=>by
  simp only[enc]
  have h1:=kI p a x.1
  have h2:=kI p b x.2
  revert h1
  generalize enc a x.1=l
  induction l with
  |nil=>intro _;exact h2
  |cons c r ih=>intro h;simp only[List.cons_append,aw]at h ⊢;exact⟨h.1,ih h.2⟩
 |.one k,x=>by simp only[enc];exact kI p k x
theorem mD(p:Nat→Prop):∀(k:K) (x:k.T),aC p (bX k x)
 |.int _,_=>by simp only[bX,aC]
 |.bool,_=>by simp only[bX,aC]
 |.str,_=>by simp only[bX,aC]
 |.sl _,_=>by simp only[bX,aC]
 |.mp _ _,_=>by simp only[bX,aC]
 |.pair a b,x=>by simp only[bX,aC];exact kI p (.pair a b) x
 |.one k,x=>by simp only[bX,aC];exact kI p (.one k) x
theorem Ln{k:K}{x:k.T}{v:Value}(hr:ao Z ψ h w (bX k x) v):ao Z ψ' h' w (bX k x) v :=
 hr.move (p:=fun _=>False) (fun _ h=>h) (b4.refl _ _) (fun _ hp _=>hp.elim) (mD _ k x)
theorem ON(r:RK)(rs:List RK)(b:Nat)(y:ky (r::rs))(i:Nat)(hi:(ag rs (b+1) y.2).get i≠none):(ag (r::rs) b y).get i≠none:=by
 cases r with
 |val k=>exact hi
 |dJ _ _=>exact hi
 |own ok=>simp only[ag,Heap.get];split<;>simp_all
 |agg c =>
  show Heap.get (aM c b y.1++ag rs (b+1) y.2) i≠none
  rw[Heap.get_append]
  split
  ·simp
  ·exact hi
theorem Gj(c:List CK):∀{H:Hp} {a b:Nat} {x:oR c} {vs:List Value},(∀j,(aM c b x).get (b+j)≠none→h' (b+j)≠none→H (a+j)≠none∧ψ' (b+j)=ψ (a+j)) →
  ah Z ψ H w (av c a x) vs→ah Z ψ' h' w (av c b x) vs:=by
 induction c with
 |nil=>intro H a b x vs _ hr;simpa only[av,ah] using hr
 |cons k c ih =>
  intro H a b x vs hH hr
  cases k with
  |val k =>
   have qf:ah Z ψ H w (enc k x.1++av c (a+1) x.2) vs:=hr
   obtain⟨us,ws,rfl,h1,h2⟩:=qf.split
   show ah Z ψ' h' w (enc k x.1++av c (b+1) x.2) (us++ws)
   refine(h1.move (p:=fun _=>False) (fun _ h=>h) (b4.refl _ _) (fun _ hp _=>hp.elim) (kI _ k x.1)).append (ih (fun j hj aV=>?_) h2)
   have:=hH (j+1)
   rw[show b+(j+1)=b+1+j by omega,show a+(j+1)=a+1+j by omega]at this
   exact this hj aV
  |own ok =>
   have qf:ah Z ψ H w (.bp a::av c (a+1) x.2) vs:=hr
   simp only[ah]at qf
   obtain⟨v,us,rfl,h1,h2⟩:=qf
   show ah Z ψ' h' w (.bp b::av c (b+1) x.2) (v::us)
   simp only[ah]
   refine⟨v,us,rfl,?_,ih (fun j hj aV=>?_) h2⟩
   ·simp only[ao]at h1 ⊢
    refine⟨h1.1,fun aV=>?_⟩
    obtain⟨h3,h4⟩:=hH 0 (by simp[aM,Heap.get]) aV
    rw[Nat.add_zero,Nat.add_zero]at h4
    rw[h4];exact h1.2 h3
   ·have:=hH (j+1)
    rw[show b+(j+1)=b+1+j by omega,show a+(j+1)=a+1+j by omega]at this
    refine this ?_ aV
    have e:(aM (.own ok::c) b x).get (b+1+j)=(aM c (b+1) x.2).get (b+1+j):=by simp only[aM,Heap.get];rw[if_neg (by omega)]
    rw[e];exact hj
theorem Lo(rs:List RK):∀{H:Hp} {n m a b:Nat} {y:ky rs} {vs:List Value},rs.all RK.plain=true→(∀j,(ag rs b y).get (b+j)≠none→h' (b+j)≠none→H (a+j)≠none∧ψ' (b+j)=ψ (a+j)) →
  ah Z ψ H w (aI rs [] n a y) vs→ah Z ψ' h' w (aI rs [] m b y) vs:=by
 induction rs with
 |nil=>intro H n m a b y vs _ _ hr;simpa only[aI,ah] using hr
 |cons r rs ih =>
  intro H n m a b y vs hp hH hr
  have hpa:=hp
  simp only[List.all_cons,Bool.and_eq_true]at hp
  have Rt:∀j,(ag rs (b+1) y.2).get (b+1+j)≠none→h' (b+1+j)≠none→H (a+1+j)≠none∧ψ' (b+1+j)=ψ (a+1+j):=fun j hj aV=>by
   have:=hH (j+1)
   rw[show b+(j+1)=b+1+j by omega,show a+(j+1)=a+1+j by omega]at this
   exact this (ON _ _ _ _ _ hj) aV
  cases r with
  |val k =>
   simp only[aI,ah]at hr ⊢
   obtain⟨v,us,rfl,h1,h2⟩:=hr
   exact⟨v,us,rfl,Ln h1,ih hp.2 Rt h2⟩
  |own ok =>
   simp only[aI,ah]at hr ⊢
   obtain⟨v,us,rfl,h1,h2⟩:=hr
   refine⟨v,us,rfl,?_,ih hp.2 Rt h2⟩
   simp only[ao]at h1 ⊢
   refine⟨h1.1,fun aV=>?_⟩
   obtain⟨h3,h4⟩:=hH 0 (by simp[ag,Heap.get]) aV
   rw[Nat.add_zero,Nat.add_zero]at h4
   rw[h4];exact h1.2 h3
  |dJ b c=>simp[RK.plain]at hp
  |agg c =>
   simp only[aI,ah]at hr ⊢
   obtain⟨v,us,rfl,h1,h2⟩:=hr
   refine⟨v,us,rfl,?_,ih hp.2 Rt h2⟩
   simp only[ao]at h1 ⊢
   obtain⟨ws,rfl,h3⟩:=h1
   refine⟨ws,rfl,Gj c (fun j hj aV=>hH j ?_ aV) h3⟩
   show Heap.get (aM c b y.1++ag rs (b+1) y.2) (b+j)≠none
   rw[Heap.get_append]
   split
   ·simp
   ·rename_i vH;exact absurd vH hj
theorem rZ{Ql Qm:Nat→Value}{TW TX:Hp}{TY TZ:Nat→Prop}{l l':List AV}{V:Value}(hl:l.length=l'.length)(hm:∀vs,ah TY Ql TW w l vs→ah TZ Qm TX w l' vs)(hr:ao TY Ql TW w (dO l) V):ao TZ Qm TX w (dO l') V:=by
 match l,l',hl with
 |[a],[a'],_ =>
  simp only[dO]at hr ⊢
  have:=hm [V] (by simp only[ah];exact⟨V,[],rfl,hr,rfl⟩)
  simp only[ah]at this
  obtain⟨v,us,e,h1,_⟩:=this
  cases e;exact h1
 |[],[],_ =>
  simp only[dO,ao]at hr ⊢
  obtain⟨us,rfl,h1⟩:=hr
  exact⟨us,rfl,hm _ h1⟩
 |a::b::r,a'::b'::r',_ =>
  simp only[dO,ao]at hr ⊢
  obtain⟨us,rfl,h1⟩:=hr
  exact⟨us,rfl,hm _ h1⟩
theorem jv(rs:List RK):∀(ids:List Nat) (n m:Nat) (y:ky rs),(aI rs ids n m y).length=rs.length:=by
 induction rs with
 |nil=>intros;rfl
 |cons r rs ih=>intro ids n m y;cases r<;>simp[aI,ih]
theorem wI:∀(k:K) (x:k.T) (r:List AV),dec k (enc k x++r)=some (x,r)
 |.int _,x,r=>by simp only[enc,List.cons_append,List.nil_append,dec,BZ,if_true];rfl
 |.bool,x,r=>by simp only[enc,List.cons_append,List.nil_append,dec,wz];rfl
 |.str,x,r=>by simp only[enc,List.cons_append,List.nil_append,dec,B2];rfl
 |.sl k,x,r=>by simp only[enc,List.cons_append,List.nil_append,dec,HO];rfl
 |.mp kk vk,x,r=>by simp only[enc,List.cons_append,List.nil_append,dec,HP];rfl
 |.pair a b,x,r=>by
  simp only[enc,dec,List.append_assoc]
  rw[wI a x.1 (enc b x.2++r)]
  simp only[]
  rw[wI b x.2 r]
  rfl
 |.one k,x,r=>by simp only[enc,dec];exact wI k x r
theorem r8(k:K)(x:k.T):de k (enc k x)=some x:=by
 unfold de
 have:=wI k x []
 rw[List.append_nil]at this
 rw[this]
theorem r9:∀(k:K) (x:k.T),(bX k x).cells=enc k x
 |.int _,_=>rfl
 |.bool,_=>rfl
 |.str,_=>rfl
 |.sl _,_=>rfl
 |.mp _ _,_=>rfl
 |.pair a b,x=>rfl
 |.one k,x=>rfl
theorem HX:∀(k:K) (x:k.T),bX k x≠.no
 |.int _,_=>by simp[bX]
 |.bool,_=>by simp[bX]
 |.str,_=>by simp[bX]
 |.sl _,_=>by simp[bX]
 |.mp _ _,_=>by simp[bX]
 |.pair a b,x=>by simp[bX]
 |.one k,x=>by simp[bX]
theorem xW:∀(k:K) (x:k.T),(bX k x).isAgg=k.isAgg
 |.int _,_=>rfl
 |.bool,_=>rfl
 |.str,_=>rfl
 |.sl _,_=>rfl
 |.mp _ _,_=>rfl
 |.pair a b,x=>rfl
 |.one k,x=>rfl
theorem Jo{k:K}{x:k.T}{v:Value}(hr:ao Z ψ h w (bX k x) v):ax Z w k x v.cells.toList:=by
 have h1:=hr.cells (HX k x)
 rw[r9]at h1
 exact dg (r8 k x) h1
theorem Gk{k:K}{x:k.T}{v:Value}(hr:ao Z ψ h w (bX k x) v):(k.isAgg=true→∃vs,v=.agg vs)∧(k.isAgg=false→v.cells=#[v]) :=
 ⟨fun h=>Lg (by rw[xW];exact h) hr,fun h=>AW (by rw[xW];exact h) (HX k x) hr⟩
theorem Lq(rs:List RK):∀{H:Hp} {n m a b:Nat} {y:ky rs} {vs:List Value},rs.all RK.flat=true→rs.all RK.plain=true→ah Z ψ H w (aI rs [] n a y) vs→ah Z' ψ' h' w' (aI rs [] m b y) vs:=by
 induction rs with
 |nil=>intro H n m a b y vs _ _ hr;simpa only[aI,ah] using hr
 |cons r rs ih =>
  intro H n m a b y vs hf hp hr
  simp only[List.all_cons,Bool.and_eq_true]at hp hf
  cases r with
  |val k =>
   simp only[aI,ah]at hr ⊢
   obtain⟨v,us,rfl,h1,h2⟩:=hr
   have hk:k.flat=true:=hf.1
   obtain⟨h3,h4⟩:=Gk h1
   exact⟨v,us,rfl,kC ((Jo h1).flat hk) h3 h4,ih hf.2 hp.2 h2⟩
  |own ok=>simp[RK.flat]at hf
  |dJ b c=>simp[RK.plain]at hp
  |agg c=>simp[RK.flat]at hf
theorem Jp(rs:List RK):∀(a:Nat) (y:ky rs),rs.all RK.flat=true→rs.all RK.plain=true→ag rs a y=[]:=by
 induction rs with
 |nil=>intros;rfl
 |cons r rs ih =>
  intro a y hf hp
  simp only[List.all_cons,Bool.and_eq_true]at hp hf
  cases r with
  |val k=>simp only[ag];exact ih _ _ hf.2 hp.2
  |own ok=>simp[RK.flat]at hf
  |dJ b c=>simp[RK.plain]at hp
  |agg c=>simp[RK.flat]at hf
theorem te:∀(ps:List PK) (vs:List AV),cg ps vs=some []→∀v∈vs,∀id,AV.bp id∈v.cells→AV.bp id∈cS ps vs
 |[],vs,hi,v,hv,id,bD=>by
  cases vs with
  |nil=>cases hv
  |cons a r=>simp[cg]at hi
 |p::ps,vs,hi,v,hv,id,bD=>by
  obtain⟨a,r,rfl,sV,OM,Rr,Rs⟩:=vF hi
  rcases List.mem_cons.1 hv with rfl|hv
  ·cases p with
   |val k=>simp only[cS];exact List.mem_append_left _ bD
   |ref=>exact absurd rfl OM.1
   |own=>exact absurd rfl OM.2
   |B3 f n=>rw[Rr f n rfl]at bD;simp[AV.cells]at bD
   |agg n=>rw[Rs n rfl]at bD;simp[AV.cells]at bD
  ·have:=te ps r sV v hv id bD
   cases p with
   |val k=>simp only[cS];exact List.mem_append_right _ this
   |ref=>exact absurd rfl OM.1
   |own=>exact absurd rfl OM.2
   |B3 f n=>simpa only[cS] using this
   |agg n=>simpa only[cS] using this
theorem xX(f:FuncId)(vs:List AV):rL f vs%1000=f%1000:=by
 induction vs with
 |nil=>rfl
 |cons v r ih =>
  cases v with
  |fn g cap=>exact Nat.add_mul_mod_self_left f 1000 _
  |_=>simp only[rL];exact ih
theorem uB{Sg:FuncId→Option aL}(f:FuncId)(vs:List AV):keyOf Sg f vs%1000=f%1000:=by
 unfold keyOf
 split
 ·exact(Nat.add_mul_mod_self_right (rL f vs) 500 1000).trans (xX f vs)
 ·exact xX f vs
theorem Next.imp{N':Nat→Prop}(n:Next Z ψ h w B0 O N Z' ψ' h' w')(hi:∀i,N i→N' i):Next Z ψ h w B0 O N' Z' ψ' h' w' :=
 ⟨n.eP,n.dF,n.keep,fun id bD=>(n.ids id bD).imp (fun h=>h) (hi id),n.dA⟩
theorem uC{rs:List RK}{y:ky rs}(hp:rs.all RK.plain=true){id nb:Nat}(g:Good Z ψ h w B0 O)(hB:B0≤w.heap.size)
  (aT:∀i ty cs,h i=some (.box ty cs)→aw (fun i=>¬N i) cs) (hN:∀j,j<rs.length+16→N (id+j))
  (k:cF FK fh w w') (hz:∀b,Z b→Z' b) (KK:∀b,Z' b→Z b∨w.heap.size≤b) (gc:Good Z' ψ' (ag rs 3000 y).get w' w.heap.size (fun _=>False))
  {v:Value} (hr:ao Z' ψ' (ag rs 3000 y).get w' (dO (aI rs [] 2000 3000 y)) v) :
  ∃sd,Next Z ψ h w B0 O N Z' sd (fun i=>match (ag rs id y).get i with|some o=>some o|none=>h i) w' ∧
   ao Z' sd (fun i=>match (ag rs id y).get i with|some o=>some o|none=>h i) w' (dO (aI rs [] nb id y)) v:=by
 classical
 let H:Hp:=fun i=>match (ag rs id y).get i with|some o=>some o|none=>h i
 let NN:Nat→Prop:=fun i=>(ag rs id y).get i≠none
 let sd:Nat→Value:=fun i=>if NN i then ψ' (3000+(i-id)) else ψ i
 have XB:∀i,NN i→∃j,j<rs.length+16∧i=id+j:=fun i hi=>by
  have h1:¬i<id:=fun aE=>hi (pq rs id y i hp aE)
  have h2:¬id+rs.length+16≤i:=fun Qn=>hi (DH rs id y i hp Qn)
  exact⟨i-id,by omega,by omega⟩
 have A2:∀i,NN i→(ag rs 3000 y).get (3000+(i-id))=(ag rs id y).get i:=fun i hi=>by
  obtain⟨j,_,rfl⟩:=XB i hi
  rw[show id+j-id=j by omega]
  exact DI rs 3000 id y j hp
 have hH:∀i,NN i→H i=(ag rs 3000 y).get (3000+(i-id)):=fun i hi=>by
  rw[A2 i hi]
  show(match (ag rs id y).get i with|some o=>some o|none=>h i)=_
  cases e:(ag rs id y).get i with
  |none=>exact absurd e hi
  |some o=>rfl
 have hZ:∀i,NN i→sd i=ψ' (3000+(i-id)):=fun i hi=>if_pos hi
 have T0:∀i,NN i→N i:=fun i hi=>by obtain⟨j,hj,rfl⟩:=XB i hi;exact hN j hj
 have n:=Good.TV (N:=NN) (ψ':=sd) (h':=H) g k hz KK gc.iR
  (fun i hi=>by
   have e:(ag rs id y).get i=none:=Classical.not_not.1 hi
   refine⟨?_,if_neg hi⟩
   show(match (ag rs id y).get i with|some o=>some o|none=>h i)=h i
   rw[e])
  (fun i ty cs hb=>(aT i ty cs hb).imp (fun i hi hni=>hi (T0 i hni)))
  (fun i ty cs hi hb=>by rw[hH i hi]at hb;exact td _ _ _ _ _ _ hp hb)
  (fun i ok xs hi hb=>by rw[hH i hi]at hb;rw[hZ i hi];exact gc.row _ _ _ hb)
  (fun i b hi h1 h2=>by
   rw[hH i hi]at h1;rw[hZ i hi]at h2
   obtain⟨h3,h4⟩:=gc.live _ b h1 h2
   exact⟨h4.resolve_right (fun h=>h),h3⟩)
  (fun i i' b hi sV h1 h2 h3 h4=>by
   rw[hH i hi]at h1;rw[hH i' sV]at h2;rw[hZ i hi]at h3;rw[hZ i' sV]at h4
   have:=gc.apart _ _ b h1 h2 h3 h4
   obtain⟨j,_,rfl⟩:=XB i hi
   obtain⟨j',_,rfl⟩:=XB i' sV
   omega) hB
 refine⟨sd,n.imp T0,?_⟩
 refine rZ (by rw[jv,jv]) (fun vs rO=>?_) hr
 refine Lo (h':=H) (ψ':=sd) rs (n:=2000) (a:=3000) hp (fun j hn aV=>?_) rO
 replace hn:NN (id+j):=hn
 have e1:=hH _ hn
 have e2:=hZ _ hn
 rw[show id+j-id=j by omega]at e1 e2
 exact⟨by rw[←e1];exact aV,e2⟩
def im(P:Program)(f:FuncId):Prop:=∃fn,P.funcs[f]? = some fn∧(fn.name== "runtime.NumGoroutine")=false∧fn.body.isSome=true
theorem iq{f:FuncId}(hc:im P f)(args:Array Value):(callFunc f args).run P w=.ok (.enter f args) w:=by
 obtain⟨fn,h1,h2,h3⟩:=hc
 obtain⟨c,hc⟩:=Option.isSome_iff_exists.1 h3
 simp[callFunc,h1,hc,show ¬fn.name= "runtime.NumGoroutine" by simpa using h2]
def Qo(P:Program)(ρC:Operand→Value)(o:Oper)(Z:Nat→Prop)(ψ:Nat→Value)(h:Hp)(w:World)(B0:Nat)(O N:Nat→Prop)(e:bj):Prop :=
 ∃f args,(execOp ρC o).run P w=.ok (.enter f args) w∧Calls P f args w fun en w'=>∃V Z' ψ',en=.returned V∧Next Z ψ h w B0 O N Z' ψ' (e.hp h) w'∧ao Z' ψ' (e.hp h) w' e.v V
end Go.Vs
namespace Go.Vs
variable {P:Program} {Z Z':Nat→Prop} {ψ ψ':Nat→Value} {h h':Hp} {w w':World} {B0:Nat} {O:Nat→Prop} {N:Nat→Prop}
def cf:(rs:List RK)→List AV→Nat→ky rs→List vE
 |[],_,_,_=>[]
 |.own ok::r,vs,m,x=>(m,(nk (vs.headD .no)).head?,.own ok x.1)::cf r vs.tail (m+1) x.2
 |.val _::r,vs,m,x=>cf r vs.tail (m+1) x.2
 |.dJ _ _::r,vs,m,x=>cf r vs.tail (m+1) x.2
 |.agg c::r,vs,m,x=>di c m (vs.headD .no).cells x.1++cf r vs.tail (m+1) x.2
theorem fD:∀(rs:List RK) (vs:List AV) (m:Nat) (x:ky rs),da (cf rs vs m x)=ag rs m x
 |[],_,_,_=>rfl
 |.own ok::r,vs,m,x=>by simp only[cf,ag];rw[←fD r vs.tail (m+1) x.2];rfl
 |.val _::r,vs,m,x=>fD r vs.tail (m+1) x.2
 |.dJ _ _::r,vs,m,x=>fD r vs.tail (m+1) x.2
 |.agg c::r,vs,m,x=>by
  have e1:da (di c m (vs.headD .no).cells x.1)=aM c m x.1:=lE c m _ x.1
  have e2:=fD r vs.tail (m+1) x.2
  simp only[cf,ag]
  rw[lF,e2]
  exact congrArg (·++_) e1
theorem eF:∀(rs:List RK) (vs:List AV) (m:Nat) (x:ky rs),(cf rs vs m x).map (·.1)=aY rs m
 |[],_,_,_=>rfl
 |.own ok::r,vs,m,x=>by simp only[cf,aY,List.map_cons];rw[eF r vs.tail (m+1) x.2]
 |.val _::r,vs,m,x=>eF r vs.tail (m+1) x.2
 |.dJ _ _::r,vs,m,x=>eF r vs.tail (m+1) x.2
 |.agg c::r,vs,m,x=>by
  have e1:(di c m (vs.headD .no).cells x.1).map (·.1)=bU c m:=kb c m _ x.1
  have e2:=eF r vs.tail (m+1) x.2
  simp only[cf,aY,List.map_append]
  rw[e2]
  exact congrArg (·++_) e1
theorem nG{bs:List BK}{k:K}{r:List RK}{hh:Heap}{ids:List Nat}{vs:List AV}{x:ky (.val k::r)}(hd:bq bs (.val k::r) hh ids vs=some x):∃v fW,vs=v::fW∧eU k hh v=some x.1∧bq bs r hh ids fW=some x.2:=by
 cases vs with
 |nil=>cases hd
 |cons v vs =>
  have e:bq bs (.val k::r) hh ids (v::vs)=(match eU k hh v,bq bs r hh ids vs with
   |some x,some y=>some ((x,y):k.T×ky r)
   |_,_=>none):=rfl
  rw[e]at hd
  clear e
  refine⟨v,vs,rfl,?_⟩
  generalize eU k hh v=o1 at hd ⊢
  generalize bq bs r hh ids vs=o2 at hd ⊢
  cases o1 with
  |none=>cases hd
  |some x1 =>
   cases o2 with
   |none=>cases hd
   |some y1=>have:=Option.some.inj hd;subst this;exact⟨rfl,rfl⟩
theorem nH{bs:List BK}{ok:OK}{r:List RK}{hh:Heap}{ids:List Nat}{vs:List AV}{x:ky (.own ok::r)}(hd:bq bs (.own ok::r) hh ids vs=some x):∃v fW,vs=v::fW∧dt hh ok v=some x.1∧bq bs r hh ids fW=some x.2:=by
 cases vs with
 |nil=>cases hd
 |cons v vs =>
  have e:bq bs (.own ok::r) hh ids (v::vs)=(match dt hh ok v,bq bs r hh ids vs with
   |some x,some y=>some ((x,y):ok.T×ky r)
   |_,_=>none):=rfl
  rw[e]at hd
  clear e
  refine⟨v,vs,rfl,?_⟩
  generalize dt hh ok v=o1 at hd ⊢
  generalize bq bs r hh ids vs=o2 at hd ⊢
  cases o1 with
  |none=>cases hd
  |some x1 =>
   cases o2 with
   |none=>cases hd
   |some y1=>have:=Option.some.inj hd;subst this;exact⟨rfl,rfl⟩
theorem lG{bs:List BK}{b:Nat}{alts:List (Nat×Nat×Nat)}{r:List RK}{hh:Heap}{ids:List Nat}{vs:List AV}{x:ky (.dJ b alts::r)}(hd:bq bs (.dJ b alts::r) hh ids vs=some x):∃v fW,vs=v::fW∧lX bs hh ids b alts v=some x.1∧bq bs r hh ids fW=some x.2:=by
 cases vs with
 |nil=>cases hd
 |cons v vs =>
  have e:bq bs (.dJ b alts::r) hh ids (v::vs)=(match lX bs hh ids b alts v,bq bs r hh ids vs with
   |some x,some y=>some ((x,y):Option (Fin alts.length×Nat)×ky r)
   |_,_=>none):=rfl
  rw[e]at hd
  clear e
  refine⟨v,vs,rfl,?_⟩
  generalize lX bs hh ids b alts v=o1 at hd ⊢
  generalize bq bs r hh ids vs=o2 at hd ⊢
  cases o1 with
  |none=>cases hd
  |some x1 =>
   cases o2 with
   |none=>cases hd
   |some y1=>have:=Option.some.inj hd;subst this;exact⟨rfl,rfl⟩
theorem nI{bs:List BK}{c:List CK}{r:List RK}{hh:Heap}{ids:List Nat}{vs:List AV}{x:ky (.agg c::r)}(hd:bq bs (.agg c::r) hh ids vs=some x):∃cs fW,vs=.agg cs::fW∧cr c hh cs=some x.1∧bq bs r hh ids fW=some x.2:=by
 cases vs with
 |nil=>cases hd
 |cons v vs =>
  have e:bq bs (.agg c::r) hh ids (v::vs)=(match xk c hh v,bq bs r hh ids vs with
   |some x,some y=>some ((x,y):oR c×ky r)
   |_,_=>none):=rfl
  rw[e]at hd
  clear e
  have key:xk c hh v=some x.1∧bq bs r hh ids vs=some x.2:=by
   generalize xk c hh v=o1 at hd ⊢
   generalize bq bs r hh ids vs=o2 at hd ⊢
   cases o1 with
   |none=>cases hd
   |some x1 =>
    cases o2 with
    |none=>cases hd
    |some y1=>have:=Option.some.inj hd;subst this;exact⟨rfl,rfl⟩
  obtain⟨h1,h2⟩:=key
  unfold xk at h1
  split at h1
  ·exact⟨_,vs,rfl,h1,h2⟩
  ·cases h1
theorem fX{bs:List BK}{hh:Heap}{ids:List Nat}:∀(rs:List RK) (vs:List AV) (x:ky rs),bq bs rs hh ids vs=some x→vs.length=rs.length
 |[],[],_,_=>rfl
 |[],_::_,_,h=>by cases h
 |.val k::r,vs,x,h=>by obtain⟨v,fW,rfl,_,h2⟩:=nG h;simp[fX r fW x.2 h2]
 |.own ok::r,vs,x,h=>by obtain⟨v,fW,rfl,_,h2⟩:=nH h;simp[fX r fW x.2 h2]
 |.dJ _ _::r,vs,x,h=>by obtain⟨v,fW,rfl,_,h2⟩:=lG h;simp[fX r fW x.2 h2]
 |.agg _::r,vs,x,h=>by obtain⟨v,fW,rfl,_,h2⟩:=nI h;simp[fX r fW x.2 h2]
theorem gQ{bs:List BK}{hh:Heap}{ids:List Nat}:∀(rs:List RK) (vs:List AV) (m:Nat) (x:ky rs),bq bs rs hh ids vs=some x→(cf rs vs m x).filterMap (·.2.1)=dm rs vs
 |[],vs,_,_,_=>by cases vs<;>rfl
 |.own ok::r,vs,m,x,h=>by
  obtain⟨v,fW,rfl,_,h2⟩:=nH h
  simp only[cf,dm,List.headD_cons,List.tail_cons]
  rw[dp,gQ r fW (m+1) x.2 h2]
  simp only[]
  rw[uz]
 |.val k::r,vs,m,x,h=>by
  obtain⟨v,fW,rfl,_,h2⟩:=nG h
  simp only[cf,dm,List.tail_cons]
  exact gQ r fW (m+1) x.2 h2
 |.dJ _ _::r,vs,m,x,h=>by
  obtain⟨v,fW,rfl,_,h2⟩:=lG h
  simp only[cf,dm,List.tail_cons]
  exact gQ r fW (m+1) x.2 h2
 |.agg c::r,vs,m,x,h=>by
  obtain⟨cs,fW,rfl,h1,h2⟩:=nI h
  simp only[cf,dm,List.headD_cons,List.tail_cons,AV.cells]
  have e1:(di c m cs x.1).filterMap (·.2.1)=eO c cs:=nD c m hh cs x.1 h1
  rw[List.filterMap_append,gQ r fW (m+1) x.2 h2]
  exact congrArg (·++_) e1
theorem iZ{hd:Hp}{bs:List BK}{hh:Heap}{ids:List Nat}:∀(rs:List RK) (vs:List AV) (m:Nat) (x:ky rs),bq bs rs hh ids vs=some x→(∀s∈dm rs vs,hd s=hh.get s)→∀e∈cf rs vs m x,tc Z ψ hd w h' ψ' e
 |[],_,_,_,_,_,e,he=>by simp[cf]at he
 |.own ok::r,vs,m,x,h,hk,e,he=>by
  obtain⟨v,fW,rfl,h1,h2⟩:=nH h
  simp only[cf,dm,List.headD_cons,List.tail_cons]at he hk
  rcases List.mem_cons.1 he with rfl|he
  ·exact HW h1 fun s hs=>hk s (List.mem_append_left _ hs)
  ·exact iZ r fW (m+1) x.2 h2 (fun s hs=>hk s (List.mem_append_right _ hs)) e he
 |.val k::r,vs,m,x,h,hk,e,he=>by
  obtain⟨v,fW,rfl,h1,h2⟩:=nG h
  exact iZ r fW (m+1) x.2 h2 hk e he
 |.dJ _ _::r,vs,m,x,h,hk,e,he=>by
  obtain⟨v,fW,rfl,h1,h2⟩:=lG h
  exact iZ r fW (m+1) x.2 h2 hk e he
 |.agg c::r,vs,m,x,h,hk,e,he=>by
  obtain⟨cs,fW,rfl,h1,h2⟩:=nI h
  simp only[cf,dm,List.headD_cons,List.tail_cons,AV.cells]at he hk
  rcases List.mem_append.1 he with he|he
  ·exact qo c m cs x.1 h1 (fun s hs=>hk s (List.mem_append_left _ hs)) e he
  ·exact iZ r fW (m+1) x.2 h2 (fun s hs=>hk s (List.mem_append_right _ hs)) e he
theorem uD{hh:Heap}{id:Nat}:∀(cU:List CK) (c n:Nat) (cs:List AV) (x:oR cU),cr cU hh cs=some x→eV cU c=true→cs[lz cU c]? = some (.bp id)→hh.get id≠none∧∃o,(n+c,some id,o)∈di cU n cs x
 |[],c,n,cs,x,_,h,_=>by simp[eV]at h
 |.val k::r,0,n,cs,x,_,h,_=>by simp[eV]at h
 |.val k::r,c+1,n,cs,x,hd,h,hc=>by
  obtain⟨_,h2⟩:=nC hd
  obtain⟨h3,o,h4⟩:=uD r c (n+1) (cs.drop k.sz) x.2 h2 (by simpa[eV] using h) (by rw[List.getElem?_drop];simpa[lz] using hc)
  exact⟨h3,o,by rw[show n+(c+1)=n+1+c by omega];exact h4⟩
 |.own ok::r,0,n,cs,x,hd,h,hc=>by
  obtain⟨c0,cs',rfl,h1,h2⟩:=kE hd
  simp only[lz,List.getElem?_cons_zero,Option.some.injEq]at hc
  subst hc
  rcases kF h1 with⟨h3,_⟩|⟨lr,h3,h4⟩
  ·cases h3
  ·cases h3
   exact⟨by rw[h4];simp,_,by simp only[di,List.headD_cons,nk,List.head?_cons];exact List.mem_cons_self⟩
 |.own ok::r,c+1,n,cs,x,hd,h,hc=>by
  obtain⟨c0,cs',rfl,h1,h2⟩:=kE hd
  obtain⟨h3,o,h4⟩:=uD r c (n+1) cs' x.2 h2 (by simpa[eV] using h) (by simp only[lz]at hc;rw[Nat.add_comm]at hc;simpa using hc)
  exact⟨h3,o,by rw[show n+(c+1)=n+1+c by omega];simp only[di,List.tail_cons];exact List.mem_cons_of_mem _ h4⟩
theorem xY{hh:Heap}{id c:Nat}:∀(bs:List BK) (b n:Nat) (is is':List Nat) (x:ud bs) (bk:BK) (bi:Nat) (ty:TypeId) (cs:List AV),cC bs hh is=some x→is'.length=bs.length→bs[b]? = some bk→is[b]? = some bi→hh.get bi=some (.box ty cs) →
  eV bk.cU c=true→cs[lz bk.cU c]? = some (.bp id)→hh.get id≠none∧∃o,(n+16*b+c,some id,o)∈b8 bs hh is is' n x
 |[],b,n,is,is',x,bk,bi,ty,cs,_,_,h,_,_,_,_=>by simp at h
 |b0::r,b,n,[],is',x,bk,bi,ty,cs,hd,_,_,_,_,_,_=>by cases hd
 |b0::r,b,n,i::is,[],x,bk,bi,ty,cs,_,hl,_,_,_,_,_=>by simp at hl
 |b0::r,0,n,i::is,i'::is',x,bk,bi,ty,cs,hd,hl,h1,h2,h3,h4,h5=>by
  obtain⟨g0,g3⟩:=dS hd
  simp only[List.getElem?_cons_zero,Option.some.injEq]at h1 h2
  subst h1;subst h2
  cases b0 with
  |own ok=>simp[BK.cU,eV]at h4
  |box ty0 c0 =>
   obtain⟨cs',g1,g2⟩:=qn g0
   rw[g1]at h3
   cases h3
   obtain⟨h6,o,h7⟩:=uD c0 c n cs x.1 g2 h4 h5
   refine⟨h6,o,?_⟩
   simp only[b8,dn]
   rw[nE g1]
   exact List.mem_append_left _ (List.mem_cons_of_mem _ (by simpa using h7))
 |b0::r,b+1,n,i::is,i'::is',x,bk,bi,ty,cs,hd,hl,h1,h2,h3,h4,h5=>by
  obtain⟨_,g3⟩:=dS hd
  obtain⟨h6,o,h7⟩:=xY r b (n+16) is is' x.2 bk bi ty cs g3 (by simpa using hl) (by simpa using h1) (by simpa using h2) h3 h4 h5
  refine⟨h6,o,?_⟩
  rw[show n+16*(b+1)+c=n+16+16*b+c by omega]
  simp only[b8]
  exact List.mem_append_right _ h7
theorem xZ{c:List CK}{cs:List AV}{id s off:Nat}{a:Nat×Nat×Nat}(h:vr c cs id s off a=true):cs[lz c a.1]? = some (.bp id)∧s=a.2.1∧off=a.2.2∧eV c a.1=true:=by
 simp only[vr,Bool.and_eq_true,decide_eq_true_eq]at h
 obtain⟨h1,h2,h3,h4⟩:=h
 refine⟨?_,h2,h3,h4⟩
 unfold K0 at h1
 split at h1
 ·rename_i e;rw[e];simp only[beq_iff_eq]at h1;rw[h1]
 ·cases h1
theorem Jq{bs:List BK}{hh:Heap}{ids:List Nat}{b:Nat}{alts:List (Nat×Nat×Nat)}{v:AV}{x:Option (Fin alts.length×Nat)}(hd:lX bs hh ids b alts v=some x):(v=.kx∧x=none) ∨
  ∃id i a bi bk ty cs,v=.ref id (alts.get a).2.1 i (alts.get a).2.2∧x=some (a,i)∧ids[b]? = some bi∧bs[b]? = some bk∧hh.get bi=some (.box ty cs)∧cs[lz bk.cU (alts.get a).1]? = some (.bp id)∧eV bk.cU (alts.get a).1=true:=by
 unfold lX at hd
 split at hd
 ·cases hd;exact .inl ⟨rfl,rfl⟩
 ·rename_i id s i off
  split at hd
  ·rename_i bi bk h1 h2
   split at hd
   ·rename_i ty cs h3
    split at hd
    ·rename_i a h4
     cases hd
     have Yr:vr bk.cU cs id s off (alts.get a)=true:=by simpa using List.find?_some (p:=fun a=>vr bk.cU cs id s off (alts.get a)) h4
     obtain⟨h5,rfl,rfl,h6⟩:=xZ Yr
     exact .inr ⟨id,i,a,bi,bk,ty,cs,rfl,rfl,h1,h2,h3,h5,h6⟩
    ·cases hd
   ·cases hd
  ·cases hd
 ·cases hd
theorem qq{bs:List BK}{hh:Heap}{ids is' ids2:List Nat}{nb:Nat}{yb:ud bs}(g:Good Z ψ hh.get w B0 O)(hz:∀b,Z b→Z' b)(hb:cC bs hh ids=some yb)(hl:is'.length=bs.length)
  (Lr:∀e∈b8 bs hh ids is' nb yb,h' e.1≠none→ψ' e.1=iX ψ e.2.1):∀(rs:List RK) (vs:List AV) (m:Nat) (x:ky rs) (us:List Value),bq bs rs hh ids vs=some x →
  (∀id b,AV.bp id∈fa rs vs→hh.get id≠none→ob (ψ id)=some b→Z' b)→(∀e∈cf rs vs m x,h' e.1≠none→ψ' e.1=iX ψ e.2.1)→ah Z ψ hh.get w vs us→ah Z' ψ' h' w (aI rs ids2 nb m x) us
 |[],vs,m,x,us,hd,_,_,hr=>by
  have:=fX [] vs x hd
  have hv:vs=[]:=List.eq_nil_of_length_eq_zero this
  subst hv
  simpa only[aI,ah] using hr
 |.val k::r,vs,m,x,us,hd,hf,hZ,hr=>by
  obtain⟨v,fW,rfl,h1,h2⟩:=nG hd
  simp only[ah]at hr
  obtain⟨u,hM,rfl,h3,h4⟩:=hr
  simp only[aI,ah]
  simp only[fa]at hf
  exact⟨u,hM,rfl,qj g hz (fun id b bD=>hf id b (List.mem_append_left _ bD)) h1 h3,qq g hz hb hl Lr r fW (m+1) x.2 hM h2 (fun id b bD=>hf id b (List.mem_append_right _ bD)) hZ h4⟩
 |.own ok::r,vs,m,x,us,hd,hf,hZ,hr=>by
  obtain⟨v,fW,rfl,h1,h2⟩:=nH hd
  simp only[ah]at hr
  obtain⟨u,hM,rfl,h3,h4⟩:=hr
  simp only[aI,ah]
  simp only[cf,List.headD_cons,List.tail_cons]at hZ
  exact⟨u,hM,rfl,Cj h1 h3 (fun hn=>hZ _ List.mem_cons_self hn),qq g hz hb hl Lr r fW (m+1) x.2 hM h2 hf (fun e he=>hZ e (List.mem_cons_of_mem _ he)) h4⟩
 |.dJ b alts::r,vs,m,x,us,hd,hf,hZ,hr=>by
  obtain⟨v,fW,rfl,h1,h2⟩:=lG hd
  simp only[ah]at hr
  obtain⟨u,hM,rfl,h3,h4⟩:=hr
  simp only[aI,ah]
  refine⟨u,hM,rfl,?_,qq g hz hb hl Lr r fW (m+1) x.2 hM h2 hf hZ h4⟩
  rcases Jq h1 with⟨rfl,h5⟩|⟨id,i,al,bi,bk,ty,cs,rfl,h5,h6,h7,h8,h9,l8⟩
  ·have:x.1=none:=h5
   rw[this]
   simpa only[sI,ao] using h3
  ·have:x.1=some (al,i):=h5
   rw[this]
   obtain⟨we,o,FI⟩:=xY bs b nb ids is' yb bk bi ty cs hb hl h7 h6 h8 l8 h9
   simp only[sI,ao]at h3 ⊢
   obtain⟨ad,N7,Qp⟩:=h3
   refine⟨ad,N7,fun hn=>?_⟩
   rw[Lr _ FI hn,Qp we];rfl
 |.agg c::r,vs,m,x,us,hd,hf,hZ,hr=>by
  obtain⟨cs,fW,rfl,h1,h2⟩:=nI hd
  simp only[ah]at hr
  obtain⟨u,hM,rfl,h3,h4⟩:=hr
  simp only[aI,ah]
  simp only[fa,AV.cells]at hf
  simp only[cf,List.headD_cons,List.tail_cons,AV.cells]at hZ
  refine⟨u,hM,rfl,?_,qq g hz hb hl Lr r fW (m+1) x.2 hM h2 (fun id b bD=>hf id b (List.mem_append_right _ bD)) (fun e he=>hZ e (List.mem_append_right _ he)) h4⟩
  simp only[ao]at h3 ⊢
  obtain⟨ws,rfl,h5⟩:=h3
  exact⟨ws,rfl,qm g hz c m cs x.1 _ h1 (fun id b bD=>hf id b (List.mem_append_left _ bD)) (fun e he=>hZ e (List.mem_append_left _ he)) h5⟩
end Go.Vs
