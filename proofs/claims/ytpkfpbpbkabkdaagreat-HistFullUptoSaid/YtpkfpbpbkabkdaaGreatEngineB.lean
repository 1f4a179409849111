/- The value semantics is sound, operation by operation. -/
import Derived.Test.YtpkfpbpbkabkdaaGreatEngineA
import Derived.Laws.StructEq
import Derived.Laws.Slices
import Derived.Laws.Strings
import Derived.MapKept
namespace Go.Vs
variable {P:Program} {Z Z':Nat→Prop} {ψ ψ':Nat→Value} {h h':Hp} {w w':World} {B0:Nat} {O:Nat→Prop} {N:Nat→Prop}
def bm.hp(h:Hp):bm→Hp
 |.val _=>h
 |.new _ os=>fun i=>match Heap.get os i with
  |some o=>some o
  |none=>h i
 |.wr _ h'=>h'.get
theorem gG(id:Nat)(o:Ob)(h:Hp):(fun i=>match Heap.get [(id,o)] i with|some o=>some o|none=>h i)=dy h id (some o):=by
 funext i
 simp only[Heap.get,dy]
 by_cases e:i=id
 ·subst e;simp
 ·rw[if_neg (fun x=>e x.symm),if_neg e]
theorem lC(hh:Heap)(id:Nat)(o:Ob):(hh.set id o).get=dy hh.get id (some o):=by
 funext i
 by_cases e:i=id
 ·subst e;rw[Heap.Ce,aS]
 ·rw[Heap.Ga e,cI _ _ e]
theorem sV(hh:Heap)(id:Nat):(hh.del id).get=dy hh.get id none:=by
 funext i
 by_cases e:i=id
 ·subst e;rw[Heap.fG,aS]
 ·rw[Heap.gE e,cI _ _ e]
theorem xK(hh:Heap)(id:Nat)(o:Ob):Heap.get ((id,o)::hh)=dy hh.get id (some o):=by
 funext i
 simp only[Heap.get,dy]
 by_cases e:i=id
 ·subst e;simp
 ·rw[if_neg (fun x=>e x.symm),if_neg e]
def fY(P:Program)(ρC:Operand→Value)(o:Oper)(Z:Nat→Prop)(ψ:Nat→Value)(h:Hp)(w:World)(B0:Nat)(O N:Nat→Prop)(e:bm):Prop :=
 ∃V w' Z' ψ',((execOp ρC o).run P w=.ok (.value V) w'∨((execOp ρC o).run P w=.ok .skip w'∧V=undef))∧Next Z ψ h w B0 O N Z' ψ' (e.hp h) w'∧ar Z' ψ' (e.hp h) w' e.v V
theorem fY.val{ρC:Operand→Value}{o:Oper}{x:AV}(g:Good Z ψ h w B0 O){V:Value}(hr:(execOp ρC o).run P w=.ok (.value V) w)(hx:ar Z ψ h w x V):fY P ρC o Z ψ h w B0 O N (.val x) :=
 ⟨V,w,Z,ψ,.inl hr,Next.refl g,hx⟩
theorem Lf{ty:TypeId}{k:K}{xs:List k.T}{id n:Nat}{x:k.T}(g:Good Z ψ h w B0 O)(hg:h id=some (.own (.row ty k) xs))(hx:xs[n]? = some x) :
  ∃gg us,Oy (ψ id)=gg∧ax Z w k x us∧∀(j:Nat) u,us[j]? = some u→w.cell? ⟨gg,n*k.sz+j,none⟩=some u:=by
 obtain⟨vs,ho,hv⟩:=g.row id (.row ty k) xs hg
 have hn:n<xs.length:=(List.getElem?_eq_some_iff.1 hx).1
 obtain⟨hl,e⟩:=ho
 rcases e with⟨h0,_⟩|⟨gg,cap,cur,e1,_,e3,_,_,_,e7⟩
 ·omega
 ·refine⟨gg,_,by rw[e1];rfl,hv n x hx,fun j u hu=>?_⟩
  rw[List.getElem?_take]at hu
  split at hu
  ·rw[List.getElem?_drop,←e7,List.getElem?_take]at hu
   split at hu
   ·simp only[World.cell?,e3];simpa using hu
   ·cases hu
  ·cases hu
theorem rP{hh:Heap}(g:Good Z ψ h w B0 O)(aZ:∀id o,hh.get id=some o→h id=some o){t:TypeId}{a:AV}{v:Value}{e:bm}(hv:ar Z ψ h w a v)(he:kE P hh t a some=some e) :
  ∃x V,e=.val x∧(Instr.loadAt t v).run P w=.ok V w∧ar Z ψ h w x V:=by
 unfold kE at he
 split at he
 ·rename_i id s i off
  simp only[ar]at hv
  obtain⟨a,rfl,ha⟩:=hv
  split at he
  ·rename_i ty cs hg
   have xL:=aZ _ _ hg
   have Dv:=ha (by rw[xL];simp)
   obtain⟨gg,vs,e1,e2,e3,e4⟩:=g.box id ty cs xL
   split at he
   ·rename_i hi
    subst hi
    split at he
    ·rename_i x hx
     cases he
     rw[e1]at Dv
     simp only[Oy,Nat.zero_mul,Nat.zero_add]at Dv
     subst Dv
     obtain⟨V,h1,h2⟩:=iU (a:=⟨gg,off,none⟩) (e3.drop off) (fun j u hu=>by
      rw[bW];simp only[World.cell?,e2];rw[List.getElem?_drop]at hu;simpa using hu) hx
     exact⟨x,V,rfl,h1,h2⟩
    ·cases he
   ·cases he
  ·rename_i ty kk xs hg
   have xL:=aZ _ _ hg
   have Dv:=ha (by rw[xL];simp)
   split at he
   ·rename_i hs
    subst hs
    obtain⟨x,hx,he⟩:=Option.bind_eq_some_iff.1 he
    split at he
    ·rename_i y hy
     cases he
     obtain⟨gg,us,h1,h2,h3⟩:=Lf g xL hx
     rw[h1]at Dv;subst Dv
     obtain⟨V,h4,h5⟩:=iU (a:=⟨gg,i*kk.sz+off,none⟩) ((fF (ψ:=ψ) (h:=h) h2).drop off) (fun j u hu=>by
      rw[bW,Nat.add_assoc];exact h3 _ _ (by rw[List.getElem?_drop]at hu;exact hu)) hy
     exact⟨y,V,rfl,h4,h5⟩
    ·cases he
   ·cases he
  ·cases he
 ·rename_i kk x off
  split at he
  ·rename_i y hy
   cases he
   simp only[ar]at hv
   obtain⟨a,us,rfl,_,h2,h3⟩:=hv
   obtain⟨V,h4,h5⟩:=iU ((fF (ψ:=ψ) (h:=h) h2).drop off) (fun j u hu=>h3 j u (by rw[List.getElem?_drop]at hu;exact hu)) hy
   exact⟨y,V,rfl,h4,h5⟩
  ·cases he
 ·cases he
theorem mb{t e:TypeId}(he:vu P t=some e):P.underlying t=some (.slice e):=by
 unfold vu at he
 split at he
 ·cases he;assumption
 ·cases he
theorem me{t e:TypeId}(ht:P.underlying t=some (.slice e)){i:TypeInfo}(hi:P.info? e=some i)(a:Addr)(n c:Nat)(k:IntKind)(j:Int)(h0:0≤j)(h1:j<n) :
  (Instr.indexAt t (.slice (some a) n c) (.int k j)).run P w=.ok (.pointer (some (a.add (j.toNat*P.cellsOf e)))) w:=by
 simp[Instr.indexAt,asIntOf,run_underlying ht,h0,h1,c8 hi]
theorem Jm{α:Type}{xs:List α}{i:Int}{x:α}(hx:dw xs i=some x):0≤i∧i<xs.length∧xs[i.toNat]? = some x:=by
 unfold dw at hx
 split at hx
 ·rename_i h0
  have:=(List.getElem?_eq_some_iff.1 hx).1
  exact⟨h0,by omega,hx⟩
 ·cases hx
theorem ou{hh:Heap}(g:Good Z ψ h w B0 O)(aZ:∀id o,hh.get id=some o→h id=some o){t:TypeId}{x i:AV}{v u:Value}{e:bm}(hv:ar Z ψ h w x v)(hu:ar Z ψ h w i u)(he:c7 P hh t x i some=some e) :
  ∃y V,e=.val y∧(Instr.indexAt t v u).run P w=.ok V w∧ar Z ψ h w y V:=by
 unfold c7 at he
 split at he
 ·cases he
 ·rename_i et het
  have ht:=mb het
  ·skip
   split at he
   ·rename_i ex HV xs ik n
    simp only[ar]at hv hu
    subst hu
    split at he
    ·rename_i hs
     obtain⟨y,hy,he⟩:=Option.bind_eq_some_iff.1 he
     cases he
     obtain⟨h0,h1,h2⟩:=Jm hy
     obtain⟨hk,_⟩:=hv
     simp only[ax]at hk
     obtain⟨v',xM,A,c,rfl,_,_,FO⟩:=hk
     cases xM
     obtain⟨a,us,rfl,hz,hr,hc⟩:=FO _ _ h2
     have hi:∃i,P.info? et=some i:=by
      cases hi:P.info? et with
      |some i=>exact⟨i,rfl⟩
      |none=>exfalso;have:=HV.gD;simp[Program.cellsOf,hi]at hs;omega
     obtain⟨inf,hi⟩:=hi
     refine⟨_,_,rfl,me ht hi a xs.length c ik n h0 h1,?_⟩
     simp only[ar]
     refine⟨_,us,rfl,by rw[cd];exact hz,hr,fun j u hu=>?_⟩
     rw[sL,hs];exact hc j u (by simpa using hu)
    ·cases he
   ·rename_i id ik n
    split at he
    ·rename_i ty HV xs hg
     have xL:=aZ _ _ hg
     split at he
     ·rename_i hs
      cases xJ:(decide (0≤n)&&decide (n<(xs.length:Int))) with
      |false=>rw[xJ]at he;cases he
      |true =>
       rw[xJ]at he
       cases he
       simp only[Bool.and_eq_true,decide_eq_true_eq]at xJ
       simp only[ar]at hv hu
       subst hu
       have hvv:=hv.2 (by rw[xL];simp)
       obtain⟨vs,⟨_,e⟩,_⟩:=g.row id (.row ty HV) xs xL
       rcases e with⟨h0,_⟩|⟨gg,cap,cur,e1,_,e3,_⟩
       ·omega
       ·have hi:∃i,P.info? et=some i:=by
         cases hi:P.info? et with
         |some i=>exact⟨i,rfl⟩
         |none=>exfalso;have:=HV.gD;simp[Program.cellsOf,hi]at hs;omega
        obtain⟨inf,hi⟩:=hi
        rw[hvv,e1]
        refine⟨_,_,rfl,me ht hi _ xs.length cap ik n xJ.1 xJ.2,?_⟩
        simp only[ar]
        refine⟨_,rfl,fun _=>?_⟩
        rw[e1,hs,bW];simp[Oy]
     ·cases he
    ·cases he
   ·cases he
theorem q7{t:TypeId}(h:P.cellsOf t≠0):∃i,P.info? t=some i:=by
 cases hi:P.info? t with
 |some i=>exact⟨i,rfl⟩
 |none=>exact absurd (by simp[Program.cellsOf,hi]) h
theorem q8{t:TypeId}{f n:Nat}{ft:TypeId}(hf:fV P t f=some (n,ft))(hc:P.cellsOf ft≠0)(a:Addr) :
  (Instr.fieldAt t (.pointer (some a)) f).run P w=.ok (.pointer (some (a.add n))) w:=by
 unfold fV at hf
 split at hf
 ·rename_i fs ht
  obtain⟨fd,XM,he⟩:=Option.map_eq_some_iff.1 hf
  cases he
  obtain⟨i,hi⟩:=q7 hc
  have hs:=c8 (P:=P) (w:=w) hi
  simp only[Instr.fieldAt,Sem.run_bind,run_underlying ht,Result.andThen_ok,XM,Instr.sureAddr,Sem.run_pure,fieldPlace,hs]
  rw[if_neg hc]
  rfl
 ·cases hf
theorem q9{t:TypeId}{f n:Nat}{ft:TypeId}(hf:fV P t f=some (n,ft))(hc:P.cellsOf ft≠0){id s i off:Nat}{v:Value}(hv:ar Z ψ h w (.ref id s i off) v) :
  ∃V,(Instr.fieldAt t v f).run P w=.ok V w∧ar Z ψ h w (.ref id s i (off+n)) V:=by
 simp only[ar]at hv ⊢
 obtain⟨a,rfl,ha⟩:=hv
 refine⟨_,q8 hf hc a,_,rfl,fun bw=>?_⟩
 rw[ha bw,bW,Nat.add_assoc]
theorem sW{t:TypeId}{f n:Nat}{ft:TypeId}(hf:fV P t f=some (n,ft))(hc:P.cellsOf ft≠0){k:K}{x:k.T}{off:Nat}{v:Value}(hv:ar Z ψ h w (.fp k x off) v) :
  ∃V,(Instr.fieldAt t v f).run P w=.ok V w∧ar Z ψ h w (.fp k x (off+n)) V:=by
 simp only[ar]at hv ⊢
 obtain⟨a,us,rfl,hz,hr,AU⟩:=hv
 refine⟨_,q8 hf hc a,_,us,rfl,by rw[cd];exact hz,hr,fun j u hu=>?_⟩
 rw[sL]
 exact AU (n+j) u (by rw[←Nat.add_assoc];exact hu)
theorem DF{t ft:TypeId}{f n:Nat}(hf:fV P t f=some (n,ft)){cs:List AV}{x:AV}{v:Value}(hv:ar Z ψ h w (.agg cs) v)(hx:dD P ft (cs.drop n)=some x) :
  ∃V,(Instr.field t v f).run P w=.ok V w∧ar Z ψ h w x V:=by
 simp only[ar]at hv
 obtain⟨vs,rfl,hl⟩:=hv
 have hd:=hl.drop n
 have hlen:=hd.length
 unfold fV at hf
 split at hf
 ·rename_i fs ht
  obtain⟨fd,XM,he⟩:=Option.map_eq_some_iff.1 hf
  cases he
  unfold dD at hx
  split at hx
  ·rename_i hb
   split at hx
   ·rename_i hle
    cases hx
    obtain⟨i,hi⟩:=vB hb
    refine⟨.agg (vs.extract fd.offset (fd.offset+P.cellsOf fd.type)),?_,?_⟩
    ·simp[Instr.field,run_underlying ht,XM,asAgg,part,fi hb,c8 hi]
    ·simp only[ar]
     refine⟨_,rfl,?_⟩
     rw[Array.toList_extract,List.extract_eq_take_drop,Nat.add_sub_cancel_left]
     exact hd.take _
   ·cases hx
  ·rename_i hb
   split at hx
   ·rename_i c r hcr
    cases hx
    rw[hcr]at hd
    simp only[ai]at hd
    obtain⟨u,us,hu,h1,_⟩:=hd
    refine⟨u,?_,h1⟩
    have hg:vs[fd.offset]? = some u:=by
     have:(vs.toList.drop fd.offset)[0]? = some u:=by rw[hu];rfl
     rw[List.getElem?_drop]at this;simpa using this
    simp[Instr.field,run_underlying ht,XM,asAgg,part,fi hb,hg]
   ·cases hx
  ·cases hx
 ·cases hf
theorem Jn{hh:Heap}(g:Good Z ψ h w B0 O)(aZ:∀id o,hh.get id=some o→h id=some o){x:AV}{v:Value}{e:bm}(hv:ar Z ψ h w x v)(he:AP hh x some=some e) :
  ∃n:Nat,e=.val (.int .i64 (n:Int))∧((∃s,x=.str s∧v=.string s∧n=s.size)∨∃A c,v=.slice A n c):=by
 unfold AP at he
 split at he
 ·rename_i s hs
  cases he
  have hx:x=.str s:=by
   cases x with
   |bp id=>simp only[ct]at hs;split at hs<;>cases hs
   |str s'=>simp only[ct]at hs;exact hs
   |_=>simp only[ct]at hs<;>cases hs
  subst hx
  simp only[ar]at hv
  exact⟨_,rfl,.inl ⟨s,rfl,hv,rfl⟩⟩
 ·rename_i ex k xs hs
  cases he
  have Lg:=AT (Z':=fun b=>Z b∨Own ψ h b) (g.sub aZ) (fun b hb=>.inl hb) (fun id b _ aU hb=>.inr (by
   obtain⟨o,ho⟩:=Option.ne_none_iff_exists'.1 aU
   exact⟨id,by rw[aZ id o ho];simp,hb⟩)) (hv.oF aZ)
  rw[hs]at Lg
  simp only[ar,ax]at Lg
  obtain⟨⟨v',xM,A,c,rfl,_⟩,_⟩:=Lg
  cases xM
  exact⟨_,rfl,.inr ⟨A,c,rfl⟩⟩
 ·rename_i hs
  cases he
  have hx:x=.eY:=by
   cases x with
   |bp id=>simp only[ct]at hs;split at hs<;>cases hs
   |eY=>rfl
   |_=>simp only[ct]at hs<;>cases hs
  subst hx
  simp only[ar]at hv
  exact⟨0,rfl,.inr ⟨_,_,hv⟩⟩
 ·cases he
def dG(Z:Nat→Prop)(ψ:Nat→Value)(h:Hp)(w:World):Option AV→Option Value→Prop
 |none,none=>True
 |some a,some v=>ar Z ψ h w a v
 |_,_=>False
theorem bU(k:IntKind)(i:Int)(y:Nat)(code:BoundsCode)(h0:0≤i)(h1:i≤y):(Instr.sliceBound (.int k i) y code).run P w=.ok i.toNat w:=by
 simp[Instr.sliceBound,asIntOf,h0,h1]
theorem rQ{b:Bool}{n c:Nat}(hc:n≤c){lo hi mx:Option AV}{HZ sQ mx':Option Value}{l u:Int}(h1:dG Z ψ h w lo HZ)(h2:dG Z ψ h w hi sQ)(h3:dG Z ψ h w mx mx')
  (hb:mr n lo hi=some (l,u)) (ho:aN n l u=true) (hm:mx=none∨(mx=some (.int .i64 u)∧hi≠none)) :
  (Instr.sliceBounds b n c HZ sQ mx').run P w=.ok (l.toNat,u.toNat,if mx=none then c else u.toNat) w:=by
 simp only[aN,Bool.and_eq_true,decide_eq_true_eq]at ho
 obtain⟨h4,h5,h6⟩:=ho
 have XN:u≤(c:Int):=by omega
 unfold mr at hb
 rcases hm with rfl|⟨rfl,aU⟩
 ·cases mx' with
  |some _=>exact h3.elim
  |none =>
   split at hb
   all_goals first|(cases hb;done)|skip
   ·cases hb
    cases HZ with
    |some _=>exact h1.elim
    |none =>
     cases sQ with
     |some _=>exact h2.elim
     |none=>simp[Instr.sliceBounds]
   ·cases hb
    cases HZ with
    |none=>exact h1.elim
    |some v =>
     simp only[dG,ar]at h1
     subst h1
     cases sQ with
     |some _=>exact h2.elim
     |none=>simp[Instr.sliceBounds,bU .i64 l n _ h4 h5]
   ·cases hb
    cases HZ with
    |some _=>exact h1.elim
    |none =>
     cases sQ with
     |none=>exact h2.elim
     |some v =>
      simp only[dG,ar]at h2
      subst h2
      cases b<;>simp[Instr.sliceBounds,bU .i64 u c _ (by omega) XN]
   ·cases hb
    cases HZ with
    |none=>exact h1.elim
    |some v =>
     simp only[dG,ar]at h1
     subst h1
     cases sQ with
     |none=>exact h2.elim
     |some v =>
      simp only[dG,ar]at h2
      subst h2
      have hx:l≤((u.toNat:Nat):Int):=by omega
      cases b<;>simp[Instr.sliceBounds,bU .i64 u c _ (by omega) XN,bU .i64 l u.toNat _ h4 hx]
 ·cases mx' with
  |none=>exact h3.elim
  |some m =>
   simp only[dG,ar]at h3
   subst h3
   have huu:u≤((u.toNat:Nat):Int):=by omega
   have hx:l≤((u.toNat:Nat):Int):=by omega
   split at hb
   all_goals first|(cases hb;done)|skip
   ·exact absurd rfl aU
   ·exact absurd rfl aU
   ·cases hb
    cases HZ with
    |some _=>exact h1.elim
    |none =>
     cases sQ with
     |none=>exact h2.elim
     |some v =>
      simp only[dG,ar]at h2
      subst h2
      cases b<;>simp[Instr.sliceBounds,bU .i64 u c _ (by omega) XN,bU .i64 u u.toNat _ (by omega) huu]
   ·cases hb
    cases HZ with
    |none=>exact h1.elim
    |some v =>
     simp only[dG,ar]at h1
     subst h1
     cases sQ with
     |none=>exact h2.elim
     |some v =>
      simp only[dG,ar]at h2
      subst h2
      cases b<;>simp[Instr.sliceBounds,bU .i64 u c _ (by omega) XN,bU .i64 u u.toNat _ (by omega) huu,bU .i64 l u.toNat _ h4 hx]
theorem xN{t e:TypeId}(ht:P.underlying t=some (.slice e)){kk:K}(il:P.cellsOf e=kk.sz){xs:List kk.T}{v:Value}(hr:ax Z w (.sl kk) xs [v]){lo hi mx:Option AV}{HZ sQ mx':Option Value}{l u:Int}
  (h1:dG Z' ψ h w lo HZ) (h2:dG Z' ψ h w hi sQ) (h3:dG Z' ψ h w mx mx') (hb:mr xs.length lo hi=some (l,u)) (ho:aN xs.length l u=true) (hm:mx=none∨(mx=some (.int .i64 u)∧hi≠none)) :
  ∃V,(Instr.sliceAt t v HZ sQ mx').run P w=.ok V w∧ax Z w (.sl kk) (cut xs l u) [V]∧(mx≠none→∃A c,V=.slice A c c):=by
 simp only[ax]at hr
 obtain⟨v',xM,A,c,rfl,hl,hn,FO⟩:=hr
 cases xM
 have cY:=rQ (P:=P) (w:=w) (b:=true) hl h1 h2 h3 hb ho hm
 simp only[aN,Bool.and_eq_true,decide_eq_true_eq]at ho
 obtain⟨h4,h5,h6⟩:=ho
 obtain⟨i,hi⟩:=q7 (P:=P) (t:=e) (by have:=kk.gD;omega)
 generalize KT:(if mx=none then c else u.toNat)=m at cY
 have hmu:u.toNat≤m:=by
  rcases hm with rfl|⟨rfl,_⟩
  ·simp at KT;omega
  ·simp at KT;omega
 have hmc:m≤c:=by
  rcases hm with rfl|⟨rfl,_⟩
  ·simp at KT;omega
  ·simp at KT;omega
 have rM:(cut xs l u).length=u.toNat-l.toNat:=by
  unfold cut;rw[List.length_drop,List.length_take];omega
 refine⟨.slice (if m=l.toNat then A else A.map (·.add (l.toNat*P.cellsOf e))) (u.toNat-l.toNat) (m-l.toNat),?_,?_,?_⟩
 ·simp[Instr.sliceAt,Instr.slice,run_underlying ht,cY,c8 hi]
 ·simp only[ax]
  refine⟨_,rfl,_,_,by rw[rM],by rw[rM];omega,fun hA=>?_,fun j x hx=>?_⟩
  ·split at hA
   ·have:=hn hA;omega
   ·cases A with
    |none=>have:=hn rfl;omega
    |some a=>cases hA
  ·have hj:j<u.toNat-l.toNat:=by rw[←rM];exact(List.getElem?_eq_some_iff.1 hx).1
   have T3:xs[l.toNat+j]? = some x:=by
    unfold cut at hx
    rw[List.getElem?_drop,List.getElem?_take,if_pos (by omega)]at hx
    exact hx
   obtain⟨a,us,rfl,hz,hr,hc⟩:=FO _ _ T3
   refine⟨a.add (l.toNat*P.cellsOf e),us,by rw[if_neg (by omega)];rfl,by rw[cd];exact hz,hr,fun q y hy=>?_⟩
   rw[sL,il]
   have:=hc q y hy
   rw[Nat.add_mul]at this
   rw[←Nat.add_assoc];exact this
 ·intro aU
  rcases hm with rfl|⟨rfl,_⟩
  ·exact absurd rfl aU
  ·simp at KT
   exact⟨_,_,by rw[←KT]⟩
theorem DG{hh:Heap}(g:Good Z ψ h w B0 O)(aZ:∀id o,hh.get id=some o→h id=some o){t e:TypeId}(ht:P.underlying t=some (.slice e)){x:AV}{v:Value}{lo hi mx:Option AV}{HZ sQ mx':Option Value}{ef:bm}
  (hv:ar Z ψ h w x v) (h1:dG Z ψ h w lo HZ) (h2:dG Z ψ h w hi sQ) (h3:dG Z ψ h w mx mx') (mf:∀y hw,ef=.wr y hw→hh.get=h) (he:ni hh (P.cellsOf e) x lo hi mx some=some ef) (Rx:(P.info? e).isSome=true) :
  ∃V Z',(Instr.sliceAt t v HZ sQ mx').run P w=.ok V w∧Next Z ψ h w B0 O N Z' ψ (ef.hp h) w∧ar Z' ψ (ef.hp h) w ef.v V:=by
 unfold ni at he
 split at he
 ·
  simp only[ar]at hv
  subst hv
  split at he
  ·rename_i l u hb
   cases ho:aN 0 l u with
   |false=>rw[ho]at he;cases he
   |true =>
    rw[ho]at he
    cases he
    have cY:=rQ (P:=P) (w:=w) (b:=true) (Nat.le_refl 0) h1 h2 h3 hb ho (.inl rfl)
    simp only[aN,Bool.and_eq_true,decide_eq_true_eq]at ho
    have hl0:l.toNat=0:=by omega
    have hu0:u.toNat=0:=by omega
    obtain⟨i,hi⟩:=Option.isSome_iff_exists.1 Rx
    refine⟨.slice none 0 0,Z,?_,Next.refl g,by simp only[bm.v,ar]⟩
    rw[hl0,hu0]at cY
    simp[Instr.sliceAt,Instr.slice,run_underlying ht,cY,c8 hi]
  ·cases he
 ·
  rename_i ex kk xs
  simp only[ar]at hv
  split at he
  ·rename_i il
   split at he
   ·rename_i l u hb
    split at he
    ·cases ho:aN xs.length l u with
     |false=>rw[ho]at he;cases he
     |true =>
      rw[ho]at he
      cases he
      obtain⟨V,h4,h5,_⟩:=xN (P:=P) ht il hv.1 h1 h2 h3 hb ho (.inl rfl)
      exact⟨V,Z,h4,Next.refl g,by simp only[bm.v,bm.hp,ar];exact⟨h5,by simp⟩⟩
    ·rename_i m
     cases ho:(aN xs.length l u&&(hi.isSome&&decide (m=u))) with
     |false=>rw[ho]at he;cases he
     |true =>
      rw[ho]at he
      cases he
      simp only[Bool.and_eq_true,decide_eq_true_eq]at ho
      obtain⟨ho,hhi,rfl⟩:=ho
      obtain⟨V,h4,h5,h6⟩:=xN (P:=P) ht il hv.1 h1 h2 h3 hb ho (.inr ⟨rfl,by intro e;rw[e]at hhi;cases hhi⟩)
      exact⟨V,Z,h4,Next.refl g,by simp only[bm.v,bm.hp,ar];exact⟨h5,fun _=>h6 (by simp)⟩⟩
    ·cases he
   ·cases he
  ·cases he
 ·cases he
end Go.Vs
set_option linter.unusedSimpArgs false
set_option linter.unusedVariables false
namespace Go.Vs
variable {P:Program} {Z Z':Nat→Prop} {ψ ψ':Nat→Value} {h h':Hp} {w w':World} {B0:Nat} {O:Nat→Prop} {N:Nat→Prop}
def kH(P:Program)(t:TypeId)(k:K):Prop :=
 ∀(Z:Nat→Prop) (w:World) (x y:k.T) (xs ys:Array Value),ax Z w k x xs.toList→ax Z w k y ys.toList →
  (Op.equal t (.agg xs) (.agg ys)).run P w=.ok (pY k x y) w∧(∀(op:BinOp) (a b:Operand),(eqGuard op t a b (.agg xs) (.agg ys)).run P w=.ok () w)∧∀e:Bool,(Instr.checkKey e 10000 t (.agg xs)).run P w=.ok () w
theorem uy(op:BinOp)(t:TypeId)(a b:Operand)(k k':IntKind)(x y:Int):(eqGuard op t a b (.int k x) (.int k' y)).run P w=.ok () w:=by cases op<;>simp[eqGuard]
theorem Jo(op:BinOp)(t:TypeId)(a b:Operand)(x y:ByteArray):(eqGuard op t a b (.string x) (.string y)).run P w=.ok () w:=by cases op<;>simp[eqGuard]
theorem Gh(op:BinOp)(t:TypeId)(a b:Operand)(x y:Bool):(eqGuard op t a b (.bool x) (.bool y)).run P w=.ok () w:=by cases op<;>simp[eqGuard]
theorem AY(op:BinOp)(t:TypeId)(a b:Operand)(x y:Option Addr):(eqGuard op t a b (.pointer x) (.pointer y)).run P w=.ok () w:=by cases op<;>simp[eqGuard]
def bD:AV→Value
 |.bool b=>.bool b
 |.int k n=>.int k n
 |.str s=>.string s
 |_=>undef
theorem iX(k:IntKind)(n:Int):ar Z ψ h w (.int k n) (bD (.int k n)):=by simp only[ar,bD]
theorem dH(b:Bool):ar Z ψ h w (.bool b) (bD (.bool b)):=by simp only[ar,bD]
theorem jt{t e:TypeId}(ht:P.underlying t=some (.pointer e))(a:Option Addr):(Op.equal t (.pointer a) (.pointer none)).run P w=.ok a.isNone w:=by
 have key:∀d,(Op.equalIn (d+1) t (.pointer a) (.pointer none)).run P w=.ok a.isNone w:=fun d=>by
  cases a<;>simp[Op.equalIn,run_underlying ht]
 exact key 9999
theorem Lh{op:BinOp}{t:TypeId}{k:IntKind}{a b:Int}{v:AV}(hv:Rk op k a b=some v):∃V,(binOp op t (.int k a) (.int k b)).run P w=.ok V w∧ar Z ψ h w v V:=by
 cases op<;>simp only[Rk]at hv<;>cases hv<;>first
  |(refine⟨bD (.int _ _),?_,iX _ _⟩;simp[binOp,Op.intArith,Op.intCmp,bD];done)
  |(refine⟨bD (.bool _),?_,dH _⟩;simp[binOp,Op.intArith,Op.intCmp,bD];done)
  |(refine⟨bD (.int _ _),?_,iX _ _⟩;simp only[binOp,bD,ne_eq,not_true_eq_false,if_false];rfl)
theorem Jp{Eqs:TypeId→Option K}(Ag:∀t k,Eqs t=some k→kH P t k){op:BinOp}{t:TypeId}{xo yo:Operand}{x y:AV}{u v:Value}{e:bm}(hu:ar Z ψ h w x u)(hv:ar Z ψ h w y v)(he:vv P Eqs op t x y some=some e) :
  ∃r V,e=.val r∧((do eqGuard op t xo yo u v;binOp op t u v:Sem Value)).run P w=.ok V w∧ar Z ψ h w r V:=by
 unfold vv at he
 split at he
 ·rename_i k a k' b
  simp only[ar]at hu hv
  subst hu;subst hv
  split at he
  ·cases hb:decide (b<0) with
   |true=>rw[hb]at he;cases he
   |false =>
    rw[hb]at he;cases he
    have Ry:¬b<0:=by simpa using hb
    exact⟨_,bD (.int _ _),rfl,by simp[uy,binOp,Op.shift,Ry,bD,TT],iX _ _⟩
  ·cases hb:decide (b<0) with
   |true=>rw[hb]at he;cases he
   |false =>
    rw[hb]at he;cases he
    have Ry:¬b<0:=by simpa using hb
    exact⟨_,bD (.int _ _),rfl,by simp[uy,binOp,Op.shift,Ry,bD,kc],iX _ _⟩
  split at he
  ·rename_i hk
   subst hk
   simp only[Sem.run_bind,uy,Result.andThen_ok]
   split at he
   ·cases hb:(b==0) with
    |true=>rw[hb]at he;cases he
    |false =>
     rw[hb]at he;cases he
     have Ry:b≠0:=by simpa using hb
     exact⟨_,bD (.int _ _),rfl,by simp[binOp,Op.intDiv,Ry,bD],iX _ _⟩
   ·cases hb:(b==0) with
    |true=>rw[hb]at he;cases he
    |false =>
     rw[hb]at he;cases he
     have Ry:b≠0:=by simpa using hb
     exact⟨_,bD (.int _ _),rfl,by simp[binOp,Op.intDiv,Ry,bD],iX _ _⟩
   ·split at he
    ·rename_i v hv
     cases he
     obtain⟨V,h1,h2⟩:=Lh (P:=P) (t:=t) (w:=w) (Z:=Z) (ψ:=ψ) (h:=h) hv
     exact⟨_,V,rfl,h1,h2⟩
    ·cases he
  ·cases he
 ·rename_i a b
  simp only[ar]at hu hv
  subst hu;subst hv
  simp only[Sem.run_bind,Jo,Result.andThen_ok]
  cases op<;>simp only[TU]at he<;>first|(cases he;done)|(cases he;exact⟨_,bD (.bool _),rfl,by simp[binOp,Op.stringOp,←beq_toListBytes,bD],dH _⟩)
 ·rename_i a b
  simp only[ar]at hu hv
  subst hu;subst hv
  simp only[Sem.run_bind,Gh,Result.andThen_ok]
  have key:(P.underlying t).map Ca=some true→P.underlying t=some .bool:=fun hm=>by
   obtain⟨d,hd,he⟩:=Option.map_eq_some_iff.1 hm
   cases d<;>simp[Ca]at he
   exact hd
  split at he
  ·rename_i hm
   cases he
   exact⟨_,bD (.bool _),rfl,by simp[binOp,Op.equal,Op.maxDepth,run_equalIn_bool' (P:=P) w 9999 t a b (key hm),bD],dH _⟩
  ·rename_i hm
   cases he
   exact⟨_,bD (.bool _),rfl,by simp[binOp,Op.equal,Op.maxDepth,run_equalIn_bool' (P:=P) w 9999 t a b (key hm),bD],dH _⟩
  ·cases he
 ·rename_i a b
  split at he
  ·cases he
  ·rename_i k hk
   simp only[ar]at hu hv
   obtain⟨xs,rfl,hx⟩:=hu
   obtain⟨ys,rfl,hy⟩:=hv
   split at he
   ·rename_i x y Ys Yt
    cases he
    obtain⟨h1,h2,_⟩:=Ag t k hk Z w x y xs ys (di Ys hx) (di Yt hy)
    exact⟨_,bD (.bool _),rfl,by simp only[Sem.run_bind,h2,Result.andThen_ok,binOp,h1,Sem.run_pure,bD],dH _⟩
   ·rename_i x y Ys Yt
    cases he
    obtain⟨h1,h2,_⟩:=Ag t k hk Z w x y xs ys (di Ys hx) (di Yt hy)
    exact⟨_,bD (.bool _),rfl,by simp only[Sem.run_bind,h2,Result.andThen_ok,binOp,h1,Sem.run_pure,bD],dH _⟩
   ·cases he
 ·simp only[ar]at hu hv
  subst hu;subst hv
  have key:(P.underlying t).map uk=some true→∃e,P.underlying t=some (.pointer e):=fun hm=>by
   obtain⟨d,hd,he⟩:=Option.map_eq_some_iff.1 hm
   cases d<;>simp[uk]at he
   exact⟨_,hd⟩
  simp only[Sem.run_bind,AY,Result.andThen_ok]
  split at he
  ·rename_i hm
   cases he
   obtain⟨et,ht⟩:=key hm
   exact⟨_,bD (.bool _),rfl,by simp only[binOp,Sem.run_bind,jt ht,Result.andThen_ok,Sem.run_pure,bD,Option.isNone_none,Option.isNone_some,Bool.not_true,Bool.not_false],dH _⟩
  ·rename_i hm
   cases he
   obtain⟨et,ht⟩:=key hm
   exact⟨_,bD (.bool _),rfl,by simp only[binOp,Sem.run_bind,jt ht,Result.andThen_ok,Sem.run_pure,bD,Option.isNone_none,Option.isNone_some,Bool.not_true,Bool.not_false],dH _⟩
  ·cases he
 ·simp only[ar]at hu hv
  obtain⟨a,rfl,_⟩:=hu
  subst hv
  have key:(P.underlying t).map uk=some true→∃e,P.underlying t=some (.pointer e):=fun hm=>by
   obtain⟨d,hd,he⟩:=Option.map_eq_some_iff.1 hm
   cases d<;>simp[uk]at he
   exact⟨_,hd⟩
  simp only[Sem.run_bind,AY,Result.andThen_ok]
  split at he
  ·rename_i hm
   cases he
   obtain⟨et,ht⟩:=key hm
   exact⟨_,bD (.bool _),rfl,by simp only[binOp,Sem.run_bind,jt ht,Result.andThen_ok,Sem.run_pure,bD,Option.isNone_none,Option.isNone_some,Bool.not_true,Bool.not_false],dH _⟩
  ·rename_i hm
   cases he
   obtain⟨et,ht⟩:=key hm
   exact⟨_,bD (.bool _),rfl,by simp only[binOp,Sem.run_bind,jt ht,Result.andThen_ok,Sem.run_pure,bD,Option.isNone_none,Option.isNone_some,Bool.not_true,Bool.not_false],dH _⟩
  ·cases he
 ·cases he
theorem Jq{a:AV}{v:Value}(hp:uh a=true)(hr:ar Z ψ h w a v):v.oneCell'=true:=by
 cases a with
 |no=>cases hp
 |agg cs=>cases hp
 |lW cs=>cases hp
 |bool b=>simp only[ar]at hr;subst hr;rfl
 |int k n=>simp only[ar]at hr;subst hr;rfl
 |str s=>simp only[ar]at hr;subst hr;rfl
 |kb=>simp only[ar]at hr;subst hr;rfl
 |eY=>simp only[ar]at hr;subst hr;rfl
 |ref id s i off=>simp only[ar]at hr;obtain⟨a,rfl,_⟩:=hr;rfl
 |fp k x off=>simp only[ar]at hr;obtain⟨a,us,rfl,_⟩:=hr;rfl
 |sl ex k xs=>simp only[ar,ax]at hr;obtain⟨⟨v',hv,A,c,rfl,_⟩,_⟩:=hr;cases hv;rfl
 |bp id=>simp only[ar]at hr;exact hr.1.2
 |mp kk vk es=>simp only[ar,ax]at hr;obtain⟨A,hv,_⟩:=hr;cases hv;rfl
 |fn f cap=>simp only[ar]at hr;obtain⟨vs,rfl,_⟩:=hr;rfl
theorem rR:∀{cs:List AV} {vs:List Value},cs.all uh=true→ai Z ψ h w cs vs→∀u∈vs,u.oneCell'=true
 |[],_,_,hr,u,hu=>by simp only[ai]at hr;subst hr;simp at hu
 |c::r,_,hp,hr,u,hu=>by
  simp only[List.all_cons,Bool.and_eq_true]at hp
  simp only[ai]at hr
  obtain⟨v,us,rfl,h1,h2⟩:=hr
  rcases List.mem_cons.1 hu with rfl|hu
  ·exact Jq hp.1 h1
  ·exact rR hp.2 h2 u hu
theorem DH{a:AV}(hp:a.cells.all uh=true):a≠.no:=by rintro rfl;simp[AV.cells,uh]at hp
theorem qg{id:Nat}:∀{cs:List AV},F4 id cs=true→AV.bp id∉cs
 |[],_=>by simp
 |c::r,hn=>by
  intro hm
  cases c with
  |bp i =>
   simp only[F4,Bool.and_eq_true,Bool.not_eq_true',beq_eq_false_iff_ne]at hn
   rcases List.mem_cons.1 hm with e|hm
   ·cases e;exact hn.1 rfl
   ·exact qg hn.2 hm
  |_ =>
   simp only[F4]at hn
   rcases List.mem_cons.1 hm with e|hm
   ·cases e
   ·exact qg hn hm
theorem vF{hh:Heap}(g:Good Z ψ hh.get w B0 O){t:TypeId}{a x:AV}{u v:Value}{e:bm}(hu:ar Z ψ hh.get w a u)(hv:ar Z ψ hh.get w x v)(he:pZ P hh t a x some=some e) :
  ∃hw w' Z',e=.wr .no hw∧(Instr.storeAt t u v).run P w=.ok () w'∧Next Z ψ hh.get w B0 O N Z' ψ hw.get w':=by
 unfold pZ at he
 split at he
 ·rename_i hc
  obtain⟨hlen,OG,pj⟩:=hc
  obtain⟨inf,OG⟩:=Option.isSome_iff_exists.1 OG
  have KR:=hv.cells (DH pj)
  have Ch:=rR pj KR
  have rM:=KR.length
  simp only[Array.length_toList]at rM
  split at he
  ·rename_i id s i off
   simp only[ar]at hu
   obtain⟨a,rfl,ha⟩:=hu
   split at he
   ·rename_i ty cs hg
    split at he
    ·rename_i hc
     obtain⟨rfl,T4⟩:=hc
     cases he
     have Dv:=ha (by rw[hg];simp)
     obtain⟨w',h1,h2⟩:=xC (P:=P) (N:=N) g hg OG KR Ch (by omega) T4 (a:=a) (by rw[Dv];simp)
     exact⟨_,w',Z,rfl,h1,by rw[lC];exact h2⟩
    ·cases he
   ·rename_i ty kk xs hg
    obtain⟨y,hx,N2⟩:=Option.bind_eq_some_iff.1 he
    clear he
    split at N2
    ·rename_i hc
     obtain⟨rfl,T4,pf⟩:=hc
     split at N2
     ·rename_i z hz
      cases N2
      have Dv:=ha (by rw[hg];simp)
      have bw:=qg pf
      have gd:=gF g x.cells
      have Yu:(cq hh x.cells).get id=some (.own (.row ty kk) xs):=by rw[nq _ _ _ bw];exact hg
      have Rz:=mA (Z':=oL Z ψ hh.get x.cells) g (fun b hb=>.inl hb) (fun i b hm aU hb=>.inr ⟨i,hm,aU,hb⟩) KR
      obtain⟨w',h1,h2⟩:=xF (P:=P) (N:=N) gd Yu OG hx (y:=z) (off:=off) (V:=v) (by omega) (by omega) (a:=a) Dv (fun us OH=>by
       have h3:=(fF (ψ:=ψ) (h:=hh.get) OH)
       have h4:=di hz (Rz.dA off h3)
       rwa [qd _ _ _ (by rw[Array.length_toList,OH.len];omega),Array.length_toList]at h4) Ch
      refine⟨_,w',oL Z ψ hh.get x.cells,rfl,h1,?_⟩
      rw[show((stored hh x.cells).2.set id (.own (.row ty kk) (xs.set i z))).get=dy (cq hh x.cells).get id (some (.own (.row ty kk) (xs.set i z))) from lC _ _ _]
      exact h2.drop (fun b hb=>.inl hb) (fun b hb=>hb.imp (fun h=>h) (fun⟨i,_,h5,h6⟩=>⟨i,h5,h6⟩)) (dE _ _)
     ·cases N2
    ·cases N2
   ·cases he
  ·cases he
 ·cases he
end Go.Vs
namespace Go.Vs
variable {P:Program} {Z Z':Nat→Prop} {ψ ψ':Nat→Value} {h h':Hp} {w w':World} {B0:Nat} {O:Nat→Prop} {N:Nat→Prop}
theorem Li{a:AV}{v:Value}(ha:a.isAgg=true)(hr:ar Z ψ h w a v):∃vs,v=.agg vs:=by
 cases a<;>simp[AV.isAgg]at ha
 simp only[ar]at hr
 obtain⟨vs,rfl,_⟩:=hr
 exact⟨vs,rfl⟩
theorem AZ{a:AV}{v:Value}(ha:a.isAgg=false)(pf:a≠.no)(hr:ar Z ψ h w a v):v.cells=#[v]:=by
 cases a with
 |no=>exact absurd rfl pf
 |agg cs=>simp[AV.isAgg]at ha
 |bool b=>simp only[ar]at hr;subst hr;rfl
 |int k n=>simp only[ar]at hr;subst hr;rfl
 |str s=>simp only[ar]at hr;subst hr;rfl
 |kb=>simp only[ar]at hr;subst hr;rfl
 |eY=>simp only[ar]at hr;subst hr;rfl
 |ref id s i off=>simp only[ar]at hr;obtain⟨a,rfl,_⟩:=hr;rfl
 |fp k x off=>simp only[ar]at hr;obtain⟨a,us,rfl,_⟩:=hr;rfl
 |sl ex k xs=>simp only[ar,ax]at hr;obtain⟨⟨v',hv,A,c,rfl,_⟩,_⟩:=hr;cases hv;rfl
 |bp id=>simp only[ar]at hr;exact hr.1.1
 |mp kk vk es=>simp only[ar,ax]at hr;obtain⟨A,hv,_⟩:=hr;cases hv;rfl
 |fn f cap=>simp only[ar]at hr;obtain⟨vs,rfl,_⟩:=hr;rfl
 |lW cs=>simp only[ar]at hr;obtain⟨vs,rfl,_⟩:=hr;rfl
theorem rS{hh:Heap}{k:K}{a:AV}{x:k.T}{v:Value}(g:Good Z ψ hh.get w B0 O)(hz:∀b,Z b→Z' b)(hb:∀id b,AV.bp id∈a.cells→hh.get id≠none→ob (ψ id)=some b→Z' b)
  (hx:eW k hh a=some x) (hr:ar Z ψ hh.get w a v):ax Z' w k x v.cells.toList∧(k.isAgg=true→∃vs,v=.agg vs)∧(k.isAgg=false→v.cells=#[v]):=by
 unfold eW at hx
 split at hx
 ·rename_i Qq
  have pf:=AX hx
  have hv:=mA g hz hb (hr.cells pf)
  exact⟨di hx hv,fun h=>Li (by rw[←Qq];exact h) hr,fun h=>AZ (by rw[←Qq];exact h) pf hr⟩
 ·cases hx
theorem qh{hh:Heap}{k:K}{a:AV}{x:k.T}{v:Value}(g:Good Z ψ hh.get w B0 O)(hz:∀b,Z b→Z' b)(hb:∀id b,AV.bp id∈a.cells→hh.get id≠none→ob (ψ id)=some b→Z' b)
  (hx:eW k hh a=some x) (hr:ar Z ψ hh.get w a v):ar Z' ψ' h' w (bS k x) v:=by
 obtain⟨h1,h2,h3⟩:=rS g hz hb hx hr
 exact kG h1 h2 h3
theorem ax.flat:∀{k:K} {x:k.T} {vs:List Value},k.flat=true→ax Z w k x vs→ax Z' w' k x vs
 |.int _,_,_,_,h=>h
 |.bool,_,_,_,h=>h
 |.str,_,_,_,h=>h
 |.sl k,_,_,hf,_=>by simp[K.flat]at hf
 |.pair a b,x,_,hf,h=>by
  simp only[K.flat,Bool.and_eq_true]at hf
  simp only[ax]at h ⊢
  obtain⟨us,ws,rfl,h1,h2⟩:=h
  exact⟨us,ws,rfl,ax.flat hf.1 h1,ax.flat hf.2 h2⟩
 |.one k,x,_,hf,h=>by
  simp only[ax]at h ⊢
  exact ax.flat (k:=k) (by simpa only[K.flat] using hf) h
theorem wI:∀(k:K) (x y:k.T),k.flat=true→(pY k x y=true↔x=y)
 |.int _,x,y,_=>by simp only[pY];exact beq_iff_eq (α:=Int)
 |.bool,x,y,_=>by simp only[pY];exact beq_iff_eq (α:=Bool)
 |.str,x,y,_=>by simp only[pY];exact MapKept.bytes_beq x y
 |.sl _,_,_,hf=>by simp[K.flat]at hf
 |.mp _ _,_,_,hf=>by simp[K.flat]at hf
 |.pair a b,x,y,hf=>by
  simp only[K.flat,Bool.and_eq_true]at hf
  simp only[pY,Bool.and_eq_true]
  rw[wI a _ _ hf.1,wI b _ _ hf.2]
  exact⟨fun h=>Prod.ext h.1 h.2,fun h=>⟨congrArg Prod.fst h,congrArg Prod.snd h⟩⟩
 |.one k,x,y,hf=>by simp only[pY];exact wI k x y (by simpa only[K.flat] using hf)
theorem nt:∀{k:K} {x:k.T} {us vs:List Value},k.flat=true→ax Z w k x us→ax Z' w' k x vs→us=vs
 |.int _,_,_,_,_,h1,h2=>by simp only[ax]at h1 h2;rw[h1,h2]
 |.bool,_,_,_,_,h1,h2=>by simp only[ax]at h1 h2;rw[h1,h2]
 |.str,_,_,_,_,h1,h2=>by simp only[ax]at h1 h2;rw[h1,h2]
 |.sl _,_,_,_,hf,_,_=>by simp[K.flat]at hf
 |.mp _ _,_,_,_,hf,_,_=>by simp[K.flat]at hf
 |.pair a b,x,_,_,hf,h1,h2=>by
  simp only[K.flat,Bool.and_eq_true]at hf
  simp only[ax]at h1 h2
  obtain⟨a1,a2,rfl,h3,h4⟩:=h1
  obtain⟨b1,b2,rfl,h5,h6⟩:=h2
  rw[nt hf.1 h3 h5,nt hf.2 h4 h6]
 |.one k,x,_,_,hf,h1,h2=>by
  simp only[ax]at h1 h2
  exact nt (k:=k) (by simpa only[K.flat] using hf) h1 h2
theorem qi:∀{k:K} {x:k.T} {us:List Value},k.flat=true→ax Z w k x us→∀u∈us,∀n,Instr.sameBits n u u=true
 |.int _,x,_,_,h1,u,hu,n=>by simp only[ax]at h1;subst h1;simp only[List.mem_singleton]at hu;subst hu;cases n<;>simp[Instr.sameBits]<;>exact beq_self_eq_true (α:=Int) x
 |.bool,x,_,_,h1,u,hu,n=>by simp only[ax]at h1;subst h1;simp only[List.mem_singleton]at hu;subst hu;cases n<;>simp[Instr.sameBits]<;>exact beq_self_eq_true (α:=Bool) x
 |.str,x,_,_,h1,u,hu,n=>by simp only[ax]at h1;subst h1;simp only[List.mem_singleton]at hu;subst hu;cases n<;>simp[Instr.sameBits]<;>exact(MapKept.bytes_beq x x).2 rfl
 |.sl _,_,_,hf,_,_,_,_=>by simp[K.flat]at hf
 |.mp _ _,_,_,hf,_,_,_,_=>by simp[K.flat]at hf
 |.pair a b,x,_,hf,h1,u,hu,n=>by
  simp only[K.flat,Bool.and_eq_true]at hf
  simp only[ax]at h1
  obtain⟨a1,a2,rfl,h3,h4⟩:=h1
  rcases List.mem_append.1 hu with hu|hu
  ·exact qi hf.1 h3 u hu n
  ·exact qi hf.2 h4 u hu n
 |.one k,x,_,hf,h1,u,hu,n=>by
  simp only[ax]at h1
  exact qi (k:=k) (by simpa only[K.flat] using hf) h1 u hu n
def FP(b:Bool)(v:Value):Prop:=(b=true→∃vs,v=.agg vs)∧(b=false→v.cells=#[v])
theorem Js{b:Bool}{u v:Value}(h1:FP b u)(h2:FP b v)(h:u.cells.toList=v.cells.toList):u=v:=by
 cases b with
 |true =>
  obtain⟨a,rfl⟩:=h1.1 rfl
  obtain⟨c,rfl⟩:=h2.1 rfl
  have:a=c:=by simpa[Value.cells] using h
  rw[this]
 |false =>
  rw[h1.2 rfl,h2.2 rfl]at h
  simpa using h
theorem Lj{k:K}{x:k.T}{u:Value}(hf:k.flat=true)(hr:ax Z w k x u.cells.toList)(hs:FP k.isAgg u):Instr.sameBits 10000 u u=true:=by
 have hb:=qi hf hr
 cases hk:k.isAgg with
 |false=>exact hb u (by rw[hs.2 hk];simp) _
 |true =>
  obtain⟨a,rfl⟩:=hs.1 hk
  show Instr.sameBits (9999+1) (.agg a) (.agg a)=true
  simp only[Instr.sameBits,beq_self_eq_true,Bool.true_and,List.all_eq_true]
  intro p hp
  obtain⟨i,hi,he⟩:=List.mem_iff_getElem.1 hp
  simp only[List.getElem_zip]at he
  subst he
  exact hb _ (List.getElem_mem (l:=(Value.agg a).cells.toList) (by simpa[Value.cells] using hi)) _
def Keys(Z:Nat→Prop)(w:World)(k:K)(ys:List k.T)(l:List MapEntry):Prop:=ys.length=l.length∧∀(i:Nat) y e,ys[i]? = some y→l[i]? = some e→ax Z w k y e.key.cells.toList∧FP k.isAgg e.key
theorem Keys.tail{k:K}{y:k.T}{ys:List k.T}{e:MapEntry}{l:List MapEntry}(h:Keys Z w k (y::ys) (e::l)):Keys Z w k ys l:=⟨by simpa using h.1,fun i a b h1 h2=>h.2 (i+1) a b (by simpa using h1) (by simpa using h2)⟩
theorem DI{k:K}{x:k.T}{d:TypeDesc}{kv:Value}(hs:∀y N3,ax Z w k y N3.cells.toList→FP k.isAgg N3→Instr.sameNow d kv N3=some (pY k x y)):∀(l:List MapEntry) (ys:List k.T) (i:Nat),Keys Z w k ys l →
  Instr.findNow d kv l i=some ((ys.findIdx? (pY k x)).map fun j=>(i+j,((l[j]?).map (·.val)).getD undef))
 |[],ys,i,h=>by
  have:ys=[]:=List.eq_nil_of_length_eq_zero (by simpa using h.1)
  subst this;rfl
 |e::l,[],i,h=>by have:=h.1;simp at this
 |e::l,y::ys,i,h=>by
  obtain⟨h1,h2⟩:=h.2 0 y e rfl rfl
  have ih:=DI hs l ys (i+1) h.tail
  simp only[Instr.findNow,hs y _ h1 h2,List.findIdx?_cons]
  cases pY k x y with
  |true=>simp
  |false =>
   simp only[ih,Bool.false_eq_true,if_false]
   cases ys.findIdx? (pY k x) with
   |none=>rfl
   |some j=>simp;omega
theorem vG{k:K}{x:k.T}{t:TypeId}{kv:Value}(hs:∀y N3,ax Z w k y N3.cells.toList→FP k.isAgg N3→(Op.equal t kv N3).run P w=.ok (pY k x y) w):∀(l:List MapEntry) (ys:List k.T) (i:Nat),Keys Z w k ys l →
  (Instr.findAsking t kv l i).run P w=.ok ((ys.findIdx? (pY k x)).map fun j=>(i+j,((l[j]?).map (·.val)).getD undef)) w
 |[],ys,i,h=>by
  have:ys=[]:=List.eq_nil_of_length_eq_zero (by simpa using h.1)
  subst this;rfl
 |e::l,[],i,h=>by have:=h.1;simp at this
 |e::l,y::ys,i,h=>by
  obtain⟨h1,h2⟩:=h.2 0 y e rfl rfl
  have ih:=vG hs l ys (i+1) h.tail
  simp only[Instr.findAsking,Sem.run_bind,hs y _ h1 h2,Result.andThen_ok,List.findIdx?_cons]
  cases pY k x y with
  |true=>simp
  |false =>
   simp only[ih,Bool.false_eq_true,if_false]
   cases ys.findIdx? (pY k x) with
   |none=>rfl
   |some j=>simp;omega
structure Lk(P:Program)(t:TypeId)(k:K):Prop where
 flat:k.flat=true
 check:∀(Z:Nat→Prop) (w:World) (x:k.T) (kv:Value) (e:Bool),ax Z w k x kv.cells.toList→FP k.isAgg kv→(Instr.checkKey e 10000 t kv).run P w=.ok () w
 find:∀(Z:Nat→Prop) (w:World) (x:k.T) (kv:Value) (l:List MapEntry) (ys:List k.T),ax Z w k x kv.cells.toList→FP k.isAgg kv→Keys Z w k ys l →
  (Instr.findKey t kv l).run P w=.ok ((ys.findIdx? (pY k x)).map fun j=>(j,((l[j]?).map (·.val)).getD undef)) w
theorem nu{t:TypeId}{k:K}{d:TypeDesc}(hf:k.flat=true)(hk:k.isAgg=false)(hd:P.underlying t=some d)(hc:∀(Z:Nat→Prop) (w:World) (x:k.T) (kv:Value),ax Z w k x [kv]→MapKept.IsKey d kv)
  (hs:∀(Z:Nat→Prop) (w:World) (x y:k.T) (u v:Value),ax Z w k x [u]→ax Z w k y [v]→Instr.sameNow d u v=some (pY k x y)):Lk P t k:=by
 have one:∀{Z:Nat→Prop} {w:World} {x:k.T} {kv:Value},ax Z w k x kv.cells.toList→FP k.isAgg kv→ax Z w k x [kv]:=fun {Z w x kv} h1 h2=>by
  rw[h2.2 hk]at h1;exact h1
 refine⟨hf,fun Z w x kv e h1 h2=>MapKept.run_checkKey hd (hc Z w x kv (one h1 h2)) e 9999,fun Z w x kv l ys h1 h2 h3=>?_⟩
 have:=DI (Z:=Z) (w:=w) (x:=x) (d:=d) (kv:=kv) (fun y N3 h4 h5=>hs Z w x y kv N3 (one h1 h2) (one h4 h5)) l ys 0 h3
 simp only[Nat.zero_add]at this
 exact MapKept.run_findKey hd this
theorem DJ(d:TypeDesc)(a:Array Value)(v:Value):Instr.sameNow d (.agg a) v=none:=by cases d<;>cases v<;>rfl
theorem uz{Eqs:TypeId→Option K}(Ag:∀t k,Eqs t=some k→kH P t k){t:TypeId}{k:K}(hk:HX P Eqs t k=true):Lk P t k:=by
 unfold HX at hk
 rw[Bool.and_eq_true]at hk
 obtain⟨hf,hk⟩:=hk
 split at hk
 ·rename_i ik Tp hd
  simp only[decide_eq_true_eq]at hk
  subst hk
  exact nu hf rfl hd (fun Z w x kv hr=>by simp only[ax]at hr;cases hr;simp[MapKept.IsKey]) (fun Z w x y u v h1 h2=>by simp only[ax]at h1 h2;cases h1;cases h2;simp[Instr.sameNow,pY])
 ·rename_i hd
  exact nu hf rfl hd (fun Z w x kv hr=>by simp only[ax]at hr;cases hr;simp[MapKept.IsKey]) (fun Z w x y u v h1 h2=>by simp only[ax]at h1 h2;cases h1;cases h2;simp[Instr.sameNow,pY])
 ·rename_i hd
  exact nu hf rfl hd (fun Z w x kv hr=>by simp only[ax]at hr;cases hr;simp[MapKept.IsKey]) (fun Z w x y u v h1 h2=>by simp only[ax]at h1 h2;cases h1;cases h2;simp[Instr.sameNow,pY])
 ·simp only[Bool.and_eq_true,decide_eq_true_eq]at hk
  obtain⟨Qq,hk⟩:=hk
  have fact:=Ag _ _ hk
  have agg:∀{b:Bool} {u:Value},b=true→FP b u→∃a,u=.agg a:=fun hb h=>h.1 hb
  refine⟨hf,fun Z w x kv e h1 h2=>?_,fun Z w x kv l ys h1 h2 h3=>?_⟩
  ·obtain⟨a,rfl⟩:=agg Qq h2
   exact(fact Z w x x a a h1 h1).2.2 e
  ·obtain⟨a,rfl⟩:=agg Qq h2
   have h4:=vG (P:=P) (t:=t) (Z:=Z) (w:=w) (x:=x) (kv:=.agg a) (fun y N3 h4 h5=>by
    obtain⟨b,rfl⟩:=agg Qq h5
    exact(fact Z w x y a b h1 h4).1) l ys 0 h3
   simp only[Nat.zero_add]at h4
   cases l with
   |nil =>
    have:ys=[]:=List.eq_nil_of_length_eq_zero (by simpa using h3.1)
    subst this
    cases hu:P.underlying t with
    |none =>
     have hc:=(fact Z w x x a a h1 h1).2.2 true
     exfalso
     unfold Instr.checkKey at hc
     simp[underlying,hu]at hc
    |some d=>simp[Instr.findKey,run_underlying hu,Instr.findNow]
   |cons e l =>
    cases hu:P.underlying t with
    |none =>
     have hc:=(fact Z w x x a a h1 h1).2.2 true
     exfalso
     unfold Instr.checkKey at hc
     simp[underlying,hu]at hc
    |some d=>simp only[Instr.findKey,Sem.run_bind,run_underlying hu,Result.andThen_ok,Instr.findNow,DJ];exact h4
section
variable {kk vk:K} {es:List (kk.T×vk.T)} {l:List MapEntry}
abbrev jy(Z:Nat→Prop)(w:World)(kk vk:K)(es:List (kk.T×vk.T))(l:List MapEntry):Prop:=Cd (ax Z w kk) (ax Z w vk) kk.isAgg vk.isAgg es l
theorem jy.keys(h:jy Z w kk vk es l):Keys Z w kk (es.map (·.1)) l :=
 ⟨by rw[List.length_map];exact h.1,fun i y e h1 h2=>by
  rw[List.getElem?_map]at h1
  obtain⟨x,h3,rfl⟩:=Option.map_eq_some_iff.1 h1
  exact(h.2 i x e h3 h2).1⟩
theorem xO{x:kk.T}:(es.map (·.1)).findIdx? (pY kk x)=rI kk x es:=by unfold rI;rw[List.findIdx?_map];rfl
theorem Ci{x:kk.T}{i:Nat}(h:rI kk x es=some i):i<es.length:=by
 unfold rI at h
 exact(List.findIdx?_eq_some_iff_getElem.1 h).1
theorem OI{x:kk.T}{i:Nat}(h:rI kk x es=some i):∃e,es[i]? = some e∧pY kk x e.1=true:=by
 unfold rI at h
 obtain⟨h1,h2,_⟩:=List.findIdx?_eq_some_iff_getElem.1 h
 exact⟨_,List.getElem?_eq_getElem h1,h2⟩
def Ll(Z:Nat→Prop)(w:World)(kk vk:K)(x:kk.T×vk.T)(e:MapEntry):Prop:=(ax Z w kk x.1 e.key.cells.toList∧FP kk.isAgg e.key)∧ax Z w vk x.2 e.val.cells.toList∧FP vk.isAgg e.val
theorem jy.set(h:jy Z w kk vk es l)(i:Nat){x:kk.T×vk.T}{f:MapEntry→MapEntry}(ho:∀e,l[i]? = some e→Ll Z w kk vk x (f e)):jy Z w kk vk (es.set i x) (l.modify i f):=by
 refine⟨by simp[h.1],fun j y e h1 h2=>?_⟩
 rw[List.getElem?_modify]at h2
 obtain⟨e0,h3,h4⟩:=Option.map_eq_some_iff.1 h2
 by_cases xQ:i=j
 ·subst xQ
  rw[if_pos rfl]at h4
  have aG:i<es.length:=by rw[h.1];exact(List.getElem?_eq_some_iff.1 h3).1
  rw[List.getElem?_set_self aG]at h1
  cases h1
  subst h4
  exact ho e0 h3
 ·rw[if_neg xQ]at h4
  rw[List.getElem?_set_ne xQ]at h1
  subst h4
  exact h.2 j y e0 h1 h3
theorem jy.push(h:jy Z w kk vk es l){x:kk.T×vk.T}{e:MapEntry}(ho:Ll Z w kk vk x e):jy Z w kk vk (es++[x]) (l++[e]):=by
 refine⟨by simp[h.1],fun j y e' h1 h2=>?_⟩
 by_cases hj:j<es.length
 ·rw[List.getElem?_append_left hj]at h1
  rw[List.getElem?_append_left (by rw[←h.1];exact hj)]at h2
  exact h.2 j y e' h1 h2
 ·rw[List.getElem?_append_right (by omega)]at h1
  rw[List.getElem?_append_right (by have:=h.1;omega),←h.1]at h2
  by_cases h0:j-es.length=0
  ·rw[h0]at h1 h2;cases h1;cases h2;exact ho
  ·rw[List.getElem?_eq_none (by simp;omega)]at h1;cases h1
theorem jy.erase(h:jy Z w kk vk es l)(i:Nat):jy Z w kk vk (es.eraseIdx i) (l.eraseIdx i):=by
 refine⟨by rw[List.length_eraseIdx,List.length_eraseIdx,h.1],fun j y e h1 h2=>?_⟩
 rw[List.getElem?_eraseIdx]at h1 h2
 split at h1
 ·rename_i hj;rw[if_pos hj]at h2;exact h.2 j y e h1 h2
 ·rename_i hj;rw[if_neg hj]at h2;exact h.2 (j+1) y e h1 h2
theorem jy.mono(h:jy Z w kk vk es l)(hz:∀b,Z b→Z' b)(hs:b5 Z w w'):jy Z' w' kk vk es l:=Cd.imp (fun _ _ h=>h.mono hz hs) (fun _ _ h=>h.mono hz hs) h
end
theorem rT{Eqs:TypeId→Option K}{t:TypeId}{kk vk:K}(h:mapOf P Eqs t=some (kk,vk)):∃a b,P.underlying t=some (.map a b)∧HX P Eqs a kk=true∧HW P b vk=true:=by
 unfold mapOf at h
 split at h
 ·rename_i a b hu
  split at h
  ·split at h
   ·rename_i hc
    cases h
    rw[Bool.and_eq_true]at hc
    exact⟨a,b,hu,hc.1,hc.2⟩
   ·cases h
  ·cases h
 ·cases h
theorem Gi{b:TypeId}{vk:K}(h:HW P b vk=true):∃z,(zeroValue b).run P w=.ok z w∧ax Z w vk (j6 vk) z.cells.toList∧FP vk.isAgg z:=by
 unfold HW at h
 split at h
 ·rename_i i hi
  split at h
  ·rename_i z hz
   refine⟨z,sS hi hz,?_⟩
   unfold K2 at h
   split at h
   ·simp only[decide_eq_true_eq]at h;obtain⟨rfl,rfl⟩:=h;exact⟨by simp only[ax];rfl,fun h=>(by cases h),fun _=>rfl⟩
   ·rename_i b;simp only[Bool.not_eq_true']at h;subst h;exact⟨by simp only[ax];rfl,fun h=>(by cases h),fun _=>rfl⟩
   ·simp only[decide_eq_true_eq]at h;subst h;exact⟨by simp only[ax];rfl,fun h=>(by cases h),fun _=>rfl⟩
   ·simp only[decide_eq_true_eq]at h;obtain⟨rfl,rfl,rfl⟩:=h
    exact⟨by simp only[ax];exact⟨_,rfl,none,0,rfl,Nat.le_refl _,fun _=>rfl,fun i x hx=>by simp[j6]at hx⟩,fun h=>(by cases h),fun _=>rfl⟩
   ·cases h
  ·cases h
 ·cases h
theorem H3{hh:Heap}(g:Good Z ψ h w B0 O)(aZ:∀id o,hh.get id=some o→h id=some o){m:AV}{u:Value}{kk vk:K}{es:List (kk.T×vk.T)}(hm:ar Z ψ h w m u)(hv:ct hh m=.mp kk vk es) :
  ∃A,u=.map A∧((A=none∧es=[])∨∃r bG clock,A=some r∧w.heap[r]? = some (.map bG clock)∧jy Z w kk vk es bG.toList):=by
 cases m with
 |mp HV Ov Lm =>
  simp only[ct]at hv
  cases hv
  simp only[ar,ax]at hm
  obtain⟨A,h1,h2⟩:=hm
  cases h1
  refine⟨A,rfl,h2.imp (fun h=>h) fun⟨m,bG,clock,h3,_,h4,h5⟩=>⟨m,bG,clock,h3,h4,h5⟩⟩
 |bp id =>
  simp only[ct]at hv
  split at hv
  ·cases hv
  ·rename_i HV Ov Lm hg
   cases hv
   have xL:=aZ _ _ hg
   simp only[ar]at hm
   have:=hm.2 (by rw[xL];simp)
   subst this
   obtain⟨r,bG,clock,h1,h2,h3,_⟩:=g.row id (.map kk vk) es xL
   exact⟨some r,h1,.inr ⟨r,bG,clock,rfl,h2,h3⟩⟩
  ·cases hv
 |_=>simp only[ct]at hv;cases hv
theorem Gj{hh:Heap}(g:Good Z ψ h w B0 O)(aZ:∀id o,hh.get id=some o→h id=some o){k:K}(hf:k.flat=true){a:AV}{x:k.T}{v:Value}(hx:eW k hh a=some x)(hr:ar Z ψ h w a v):ax Z w k x v.cells.toList∧FP k.isAgg v:=by
 obtain⟨h1,h2,h3⟩:=rS (Z':=fun b=>b<w.heap.size) (g.sub aZ) (fun b hb=>g.iS b hb) (fun id b _ h1 h2=>(g.sub aZ).bA ⟨id,h1,h2⟩) hx (hr.less (fun _ h=>h) (b5.refl _ _) (fun id bw=>by
  obtain⟨o,ho⟩:=Option.ne_none_iff_exists'.1 bw
  exact⟨by rw[aZ id o ho];simp,rfl⟩))
 exact⟨h1.flat hf,h2,h3⟩
theorem Cj{Eqs:TypeId→Option K}(Ag:∀t k,Eqs t=some k→kH P t k){hh:Heap}(g:Good Z ψ h w B0 O)(aZ:∀id o,hh.get id=some o→h id=some o){t:TypeId}{m i:AV}{u v:Value}{ok:Bool}{e:bm}
  (hm:ar Z ψ h w m u) (hi:ar Z ψ h w i v) (he:mv P Eqs hh t m i ok some=some e):∃y V,e=.val y∧(Instr.lookup t u v ok).run P w=.ok V w∧ar Z ψ h w y V:=by
 unfold mv at he
 split at he
 ·rename_i ka va kk vk es Ts hv
  split at he
  ·rename_i hc
   obtain⟨rfl,rfl⟩:=hc
   split at he
   ·rename_i x hx
    cases he
    obtain⟨a,b,hu,hk,hz⟩:=rT Ts
    have K:=uz Ag hk
    obtain⟨Gk,nc⟩:=Gj g aZ K.flat hx hi
    obtain⟨z,vE,Af,FN⟩:=Gi (Z:=Z) (w:=w) hz
    have fin:∀(l:List MapEntry),jy Z w kk vk es l→∃V,((∃j,(Instr.findKey a v l).run P w=.ok (some (j,V)) w∧(ib kk x es).isSome=true)∨((Instr.findKey a v l).run P w=.ok none w∧(zeroValue b).run P w=.ok V w∧(ib kk x es).isSome=false)) ∧
      ax Z w vk ((ib kk x es).getD (j6 vk)) V.cells.toList∧FP vk.isAgg V:=by
     intro l hE
     have hf:=K.find Z w x v l (es.map (·.1)) Gk nc hE.keys
     rw[xO]at hf
     cases A1:rI kk x es with
     |none =>
      rw[A1]at hf
      exact⟨z,.inr ⟨hf,vE,by simp[ib,A1]⟩,by simpa[ib,A1] using Af,FN⟩
     |some j =>
      rw[A1]at hf
      have hj:=Ci A1
      have h1:es[j]? = some es[j]:=List.getElem?_eq_getElem hj
      have FQ:j<l.length:=by rw[←hE.1];exact hj
      have h2:l[j]? = some l[j]:=List.getElem?_eq_getElem FQ
      obtain⟨_,h3,h4⟩:=hE.2 j _ _ h1 h2
      refine⟨l[j].val,.inl ⟨j,?_,by simp[ib,A1,h1]⟩,by simpa[ib,A1,h1] using h3,h4⟩
      rw[hf];simp only[Option.map_some,h2,Option.getD_some]
    have out:∀V:Value,ax Z w vk ((ib kk x es).getD (j6 vk)) V.cells.toList→FP vk.isAgg V→ar Z ψ h w (cond ok (AV.lW [bS vk ((ib kk x es).getD (j6 vk)),.bool (ib kk x es).isSome]) (bS vk ((ib kk x es).getD (j6 vk)))) (if ok then .tuple #[V,.bool (ib kk x es).isSome] else V):=by
     intro V h1 h2
     have h3:ar Z ψ h w (bS vk ((ib kk x es).getD (j6 vk))) V:=kG h1 h2.1 h2.2
     cases ok with
     |false=>exact h3
     |true=>simp only[cond_true,if_true,ar,ai];exact⟨_,rfl,V,[.bool (ib kk x es).isSome],by simp,h3,_,[],rfl,rfl,rfl⟩
    obtain⟨A,rfl,hA⟩:=H3 g aZ hm hv
    rcases hA with⟨rfl,rfl⟩|⟨r,bG,clock,rfl,h3,h4⟩
    ·obtain⟨V,h5,h6,h7⟩:=fin [] ⟨rfl,fun i x e h=>by simp at h⟩
     refine⟨_,_,rfl,?_,out V h6 h7⟩
     simp only[Instr.lookup,Sem.run_bind,run_underlying hu,Result.andThen_ok,Sem.run_pure,K.check Z w x v _ Gk nc]
     rcases h5 with⟨j,h8,h9⟩|⟨h8,h9,l8⟩
     ·simp[h8,h9]
     ·simp[h8,h9,l8]
    ·obtain⟨V,h5,h6,h7⟩:=fin bG.toList h4
     refine⟨_,_,rfl,?_,out V h6 h7⟩
     simp only[Instr.lookup,Sem.run_bind,run_underlying hu,Result.andThen_ok,Sem.run_pure,MapKept.run_getObj_map h3,K.check Z w x v _ Gk nc]
     rcases h5 with⟨j,h8,h9⟩|⟨h8,h9,l8⟩
     ·simp[h8,h9]
     ·simp[h8,h9,l8]
   ·cases he
  ·cases he
 ·cases he
end Go.Vs
namespace Go.Vs
variable {P:Program} {Z Z':Nat→Prop} {ψ ψ':Nat→Value} {h h':Hp} {w w':World} {B0:Nat} {O:Nat→Prop} {N:Nat→Prop}
theorem uA{r b:Nat}(o:Obj)(aU:r≠b):(w.heap.setIfInBounds r o)[b]? = w.heap[b]? := by rw[Array.getElem?_setIfInBounds];simp[aU]
theorem cG.Yv{r:Nat}(ho:Own ψ h r)(o:Obj):cG ψ h w { w with heap:=w.heap.setIfInBounds r o } :=
 ⟨rfl,rfl,rfl,by simp,fun b _ hb=>uA o (fun e=>hb (e▸ho))⟩
theorem qj{hp:Hp}(g:Good Z ψ hp w B0 O){id:Nat}(bw:hp id≠none){r:Nat}(hr:ob (ψ id)=some r)(aG:r<w.heap.size)(o:Obj){ok:OK}{x:ok.T}
  (hx:∀w':World,w'.heap=w.heap.setIfInBounds r o→b5 Z w w'→iO Z w' ok (ψ id) x) :
  Next Z ψ hp w B0 O N Z ψ (dy hp id (some (.own ok x))) { w with heap:=w.heap.setIfInBounds r o }:=by
 have ho:Own ψ hp r:=⟨id,bw,hr⟩
 have kk:=cG.Yv (w:=w) ho o
 refine g.write id bw kk (fun b hb _=>uA o (fun e=>hb (by rw[hr,e]))) _ (fun _ _ he=>by cases he) (fun Tq x' he=>?_)
 cases he
 exact hx _ rfl (kk.same g)
theorem vH{l:List MapEntry}{i:Nat}{f:MapEntry→MapEntry}(hf:∀e,(f e).born=e.born):(l.modify i f).map (·.born)=l.map (·.born):=by
 apply List.ext_getElem?
 intro j
 simp only[List.getElem?_map,List.getElem?_modify]
 cases l[j]? with
 |none=>rfl
 |some e=>simp only[Option.map_some];split<;>simp[hf]
theorem uB{l:List MapEntry}:l.Pairwise (fun a b=>a.born≠b.born)↔(l.map (·.born)).Pairwise (·≠·):=by rw[List.pairwise_map]
theorem sX{Eqs:TypeId→Option K}(Ag:∀t k,Eqs t=some k→kH P t k){hh:Heap}(g:Good Z ψ hh.get w B0 O){t:TypeId}{m i v:AV}{u1 u2 u3:Value}{e:bm}
  (hm:ar Z ψ hh.get w m u1) (hi:ar Z ψ hh.get w i u2) (hv:ar Z ψ hh.get w v u3) (he:gN P Eqs hh t m i v some=some e) :
  ∃hw w' Z',e=.wr (.lW []) hw∧(Instr.mapUpdate t u1 u2 u3).run P w=.ok () w'∧Next Z ψ hh.get w B0 O N Z' ψ hw.get w':=by
 unfold gN at he
 split at he
 ·rename_i ka va id Ts
  split at he
  ·rename_i kk vk es hg
   split at he
   ·rename_i hc
    obtain⟨rfl,rfl⟩:=hc
    split at he
    ·rename_i x y hx hy pf
     cases he
     obtain⟨a,b,hu,hk,_⟩:=rT Ts
     have K:=uz Ag hk
     obtain⟨Gk,nc⟩:=Gj g (fun _ _ h=>h) K.flat hx hi
     simp only[ar]at hm
     have RA:=hm.2 (by rw[hg];simp)
     obtain⟨r,bG,clock,h1,h2,h3,h4,h5⟩:=g.row id (.map kk vk) es hg
     rw[h1]at RA
     subst RA
     have bw:AV.bp id∉v.cells:=fun hc=>by
      have:=List.all_eq_true.1 pf _ hc
      simp at this
     have gd:=gF g v.cells
     have Yu:(cq hh v.cells).get id=some (.own (.map kk vk) es):=by rw[nq _ _ _ bw];exact hg
     obtain⟨sY,vC,hv3⟩:=rS (Z':=oL Z ψ hh.get v.cells) g (fun b hb=>.inl hb) (fun id b h1 h2 h3=>.inr ⟨id,h1,h2,h3⟩) hy hv
     have T5:ax (oL Z ψ hh.get v.cells) w kk x u2.cells.toList:=Gk.flat K.flat
     have aG:=(Array.getElem?_eq_some_iff.1 h2).1
     have iV:ob (ψ id)=some r:=by rw[h1];rfl
     have hE:jy (oL Z ψ hh.get v.cells) w kk vk es bG.toList:=jy.mono h3 (fun b hb=>.inl hb) (b5.refl _ _)
     have hf:=K.find Z w x u2 bG.toList (es.map (·.1)) Gk nc (jy.keys h3)
     rw[xO]at hf
     have fin:∀(o:Obj) (Lm:List (kk.T×vk.T)) (lD:Array MapEntry) (xR:Nat),o=.map lD xR→jy (oL Z ψ hh.get v.cells) w kk vk Lm lD.toList→(lD.toList.map (·.born)).Pairwise (·≠·)→(∀e∈lD.toList,e.born<xR) →
       Next Z ψ hh.get w B0 O N (oL Z ψ hh.get v.cells) ψ ((cq hh v.cells).set id (.own (.map kk vk) Lm)).get { w with heap:=w.heap.setIfInBounds r o }:=by
      rintro o Lm lD xR rfl h6 h7 h8
      rw[lC]
      have n:=qj (N:=N) gd (by rw[Yu];simp) iV aG (.map lD xR) (ok:=.map kk vk) (x:=Lm) (fun w' Gl sm=>⟨r,lD,xR,h1,by rw[Gl];simp[aG],jy.mono h6 (fun _ h=>h) sm,uB.2 h7,h8⟩)
      exact n.drop (fun b hb=>.inl hb) (fun b hb=>hb.imp (fun h=>h) (fun⟨i,_,h5,h6⟩=>⟨i,h5,h6⟩)) (dE _ _)
     cases A1:rI kk x es with
     |none =>
      rw[A1]at hf
      refine⟨_,{ w with heap:=w.heap.setIfInBounds r (.map (bG.push { key:=u2,val:=u3,born:=clock }) (clock+1)) },oL Z ψ hh.get v.cells,rfl,?_,?_⟩
      rotate_left
      ·rw[show lx kk x y es=es++[(x,y)] by simp[lx,A1]]
       refine fin _ _ (bG.push { key:=u2,val:=u3,born:=clock }) (clock+1) rfl ?_ ?_ ?_
       ·rw[Array.toList_push]
        exact hE.push ⟨⟨T5,nc⟩,sY,vC,hv3⟩
       ·rw[Array.toList_push,List.map_append,List.pairwise_append]
        refine⟨uB.1 h4,by simp,fun a ha b hb=>?_⟩
        simp only[List.map_cons,List.map_nil,List.mem_singleton]at hb
        obtain⟨e,he,rfl⟩:=List.mem_map.1 ha
        have:=h5 e he
        omega
       ·intro e he
        rw[Array.toList_push]at he
        rcases List.mem_append.1 he with he|he
        ·have:=h5 e he;omega
        ·simp only[List.mem_singleton]at he;subst he;exact Nat.lt_succ_self _
      ·simp only[Instr.mapUpdate,Sem.run_bind,run_underlying hu,Result.andThen_ok,MapKept.run_getObj_map h2,K.check Z w x u2 _ Gk nc,hf,Option.map_none,MapKept.run_setObj_map _ h2]
     |some j =>
      rw[A1]at hf
      have hj:=Ci A1
      obtain⟨e0,Qr,heq⟩:=OI A1
      have FQ:j<bG.toList.length:=by rw[←h3.1];exact hj
      have hl:bG.toList[j]? = some bG.toList[j]:=List.getElem?_eq_getElem FQ
      have N4:bG[j]? = some bG.toList[j]:=by rw[←hl];simp
      obtain⟨⟨T6,Yw⟩,_⟩:=h3.2 j _ _ Qr hl
      have qW:bG.toList[j].key=u2:=by
       refine Js Yw nc ?_
       rw[←(wI kk x e0.1 K.flat).1 heq]at T6
       exact nt K.flat T6 Gk
      have Qs:(Instr.keyThatStays u2 u2).run P w=.ok u2 w:=by simp[Instr.keyThatStays,Lj K.flat Gk nc]
      refine⟨_,{ w with heap:=w.heap.setIfInBounds r (.map (bG.modify j fun e=>{ e with key:=u2,val:=u3 }) clock) },oL Z ψ hh.get v.cells,rfl,?_,?_⟩
      rotate_left
      ·rw[show lx kk x y es=es.set j (x,y) by simp[lx,A1]]
       refine fin _ _ (bG.modify j fun e=>{ e with key:=u2,val:=u3 }) clock rfl ?_ ?_ ?_
       ·rw[Array.toList_modify]
        exact hE.set j (fun e he=>⟨⟨T5,nc⟩,sY,vC,hv3⟩)
       ·rw[Array.toList_modify,vH (f:=fun e:MapEntry=>{ e with key:=u2,val:=u3 }) (fun _=>rfl)];exact uB.1 h4
       ·intro e he
        have:e.born∈(bG.modify j fun e=>{ e with key:=u2,val:=u3 }).toList.map (·.born):=List.mem_map.2 ⟨e,he,rfl⟩
        rw[Array.toList_modify,vH (f:=fun e:MapEntry=>{ e with key:=u2,val:=u3 }) (fun _=>rfl)]at this
        obtain⟨e',Rr,h6⟩:=List.mem_map.1 this
        rw[←h6];exact h5 e' Rr
      ·simp only[Instr.mapUpdate,Sem.run_bind,run_underlying hu,Result.andThen_ok,MapKept.run_getObj_map h2,K.check Z w x u2 _ Gk nc,hf,Option.map_some,N4,Option.getD_some,qW,Qs,MapKept.run_setObj_map _ h2]
    ·cases he
   ·cases he
  ·cases he
 ·cases he
theorem sZ{Eqs:TypeId→Option K}(Ag:∀t k,Eqs t=some k→kH P t k){hh:Heap}(g:Good Z ψ hh.get w B0 O){t ty:TypeId}{ts:List TypeId}{m i:AV}{u1 u2:Value}{e:bm}
  (hm:ar Z ψ hh.get w m u1) (hi:ar Z ψ hh.get w i u2) (he:mw P Eqs hh t m i some=some e) :
  ∃hw w',e=.wr (.lW []) hw∧(Builtin.delete_ (t::ts).toArray ty #[u1,u2]).run P w=.ok (.tuple #[]) w'∧Next Z ψ hh.get w B0 O N Z ψ hw.get w':=by
 unfold mw at he
 split at he
 ·rename_i ka va id Ts
  split at he
  ·rename_i kk vk es hg
   split at he
   ·rename_i hc
    obtain⟨rfl,rfl⟩:=hc
    split at he
    ·rename_i x hx
     cases he
     obtain⟨a,b,hu,hk,_⟩:=rT Ts
     have K:=uz Ag hk
     obtain⟨Gk,nc⟩:=Gj g (fun _ _ h=>h) K.flat hx hi
     simp only[ar]at hm
     have RA:=hm.2 (by rw[hg];simp)
     obtain⟨r,bG,clock,h1,h2,h3,h4,h5⟩:=g.row id (.map kk vk) es hg
     rw[h1]at RA
     subst RA
     have aG:=(Array.getElem?_eq_some_iff.1 h2).1
     have iV:ob (ψ id)=some r:=by rw[h1];rfl
     have hf:=K.find Z w x u2 bG.toList (es.map (·.1)) Gk nc (jy.keys h3)
     rw[xO]at hf
     have fin:∀(o:Obj) (Lm:List (kk.T×vk.T)) (lD:Array MapEntry),o=.map lD clock→jy Z w kk vk Lm lD.toList→lD.toList.Sublist bG.toList →
       Next Z ψ hh.get w B0 O N Z ψ (hh.set id (.own (.map kk vk) Lm)).get { w with heap:=w.heap.setIfInBounds r o }:=by
      rintro o Lm lD rfl h6 h7
      rw[lC]
      exact qj (N:=N) g (by rw[hg];simp) iV aG (.map lD clock) (ok:=.map kk vk) (x:=Lm) (fun w' Gl sm=>⟨r,lD,clock,h1,by rw[Gl];simp[aG],jy.mono h6 (fun _ h=>h) sm,h4.sublist h7,fun e he=>h5 e (h7.subset he)⟩)
     cases A1:rI kk x es with
     |none =>
      rw[A1]at hf
      refine⟨_,{ w with heap:=w.heap.setIfInBounds r (.map bG clock) },rfl,?_,?_⟩
      rotate_left
      ·rw[show K1 kk x es=es by simp[K1,A1]]
       exact fin _ _ bG rfl h3 (List.Sublist.refl _)
      ·simp[Builtin.delete_,run_underlying hu,MapKept.run_getObj_map h2,K.check Z w x u2 _ Gk nc,hf,MapKept.run_setObj_map _ h2]
     |some j =>
      rw[A1]at hf
      have hj:=Ci A1
      refine⟨_,{ w with heap:=w.heap.setIfInBounds r (.map (bG.eraseIdxIfInBounds j) clock) },rfl,?_,?_⟩
      rotate_left
      ·rw[show K1 kk x es=es.eraseIdx j by simp[K1,A1]]
       refine fin _ _ (bG.eraseIdxIfInBounds j) rfl ?_ ?_
       ·rw[Array.toList_eraseIdxIfInBounds];exact jy.erase h3 j
       ·rw[Array.toList_eraseIdxIfInBounds];exact List.eraseIdx_sublist _ _
      ·simp[Builtin.delete_,run_underlying hu,MapKept.run_getObj_map h2,K.check Z w x u2 _ Gk nc,hf,MapKept.run_setObj_map _ h2]
    ·cases he
   ·cases he
  ·cases he
 ·cases he
theorem Gm{hh:Heap}(g:Good Z ψ h w B0 O)(aZ:∀id o,hh.get id=some o→h id=some o){t ty:TypeId}{x:AV}{u:Value}{e:bm}(ht:F5 P t=true)(hx:ar Z ψ h w x u)(he:uj hh x some=some e) :
  ∃n:Nat,e=.val (.int .i64 (n:Int))∧(Builtin.len_ #[t] ty #[u]).run P w=.ok (.int .i64 (n:Int)) w:=by
 unfold uj at he
 split at he
 ·rename_i kk vk es hv
  cases he
  have hu:∃a b,P.underlying t=some (.map a b):=by
   unfold F5 at ht
   split at ht
   ·exact⟨_,_,by assumption⟩
   ·cases ht
  obtain⟨a,b,hu⟩:=hu
  obtain⟨A,rfl,hA⟩:=H3 g aZ hx hv
  rcases hA with⟨rfl,rfl⟩|⟨r,bG,clock,rfl,h3,h4⟩
  ·exact⟨0,rfl,by simp[Builtin.len_,run_underlying hu,goInt]⟩
  ·refine⟨es.length,rfl,?_⟩
   have:bG.size=es.length:=by rw[h4.1];simp
   simp[Builtin.len_,run_underlying hu,MapKept.run_getObj_map h3,goInt,this]
 ·cases he
theorem xS(g:Good Z ψ h w B0 O)(hB:B0≤w.heap.size)(id:Nat)(hN:N id){ok:OK}{x:ok.T}{v:Value}(o:Obj)(ho:iO Z (w.alloc o) ok v x)(hb:ob v=some w.heap.size)
  (aR:∀i ty cs,h i=some (.box ty cs)→au (fun i=>i≠id) cs):Next Z ψ h w B0 O N Z (dy ψ id v) (dy h id (some (.own ok x))) (w.alloc o) :=
 Dy g hB id hN (cG.alloc _ _ _ _) (fun b hb=>heap_alloc_old w _ (g.bA hb)) ho (fun b Au=>by rw[hb]at Au;cases Au;exact Nat.le_refl _) aR
theorem Av{Eqs:TypeId→Option K}(g:Good Z ψ h w B0 O)(hB:B0≤w.heap.size){id:Nat}(hN:N id){t:TypeId}{e:bm}(aR:∀i ty cs,h i=some (.box ty cs)→au (fun i=>i≠id) cs)(he:kq P Eqs id t some=some e) :
  ∃v w' ψ',(Instr.makeMap t none).run P w=.ok v w'∧Next Z ψ h w B0 O N Z ψ' (e.hp h) w'∧ar Z ψ' (e.hp h) w' e.v v:=by
 unfold kq at he
 split at he
 ·rename_i kk vk Ts
  cases he
  refine⟨.map (some w.heap.size),w.alloc (.map #[] 0),dy ψ id (.map (some w.heap.size)),rfl,?_,?_⟩
  ·simp only[bm.hp];rw[gG]
   exact xS g hB id hN (ok:=.map kk vk) (x:=[]) _ ⟨w.heap.size,#[],0,rfl,heap_alloc_new _ _,⟨rfl,fun i x e h=>by simp at h⟩,by simp,by simp⟩ rfl aR
  ·simp only[bm.v,bm.hp,ar]
   exact⟨⟨rfl,rfl⟩,fun _=>(aS _ _ _).symm⟩
 ·cases he
theorem Ck(g:Good Z ψ h w B0 O)(hB:B0≤w.heap.size){id:Nat}(hN:N id){t:TypeId}{x:AV}{u:Value}{e:bm}(hx:ar Z ψ h w x u)(aR:∀i ty cs,h i=some (.box ty cs)→au (fun i=>i≠id) cs)(he:my P id t x some=some e) :
  ∃v w' ψ',(Instr.range t u).run P w=.ok v w'∧Next Z ψ h w B0 O N Z ψ' (e.hp h) w'∧ar Z ψ' (e.hp h) w' e.v v:=by
 unfold my at he
 split at he
 ·rename_i sv hu
  cases he
  simp only[ar]at hx
  subst hx
  refine⟨.pointer (some ⟨w.heap.size,0,none⟩),w.alloc (.stringIter sv 0),dy ψ id (.pointer (some ⟨w.heap.size,0,none⟩)),?_,?_,?_⟩
  ·simp only[Instr.range,Sem.run_bind,run_underlying hu,Result.andThen_ok,Sem.run_pure];rfl
  ·simp only[bm.hp];rw[gG]
   exact xS g hB id hN (ok:=.mq) (x:=(sv,0)) _ ⟨w.heap.size,rfl,heap_alloc_new _ _⟩ rfl aR
  ·simp only[bm.v,bm.hp,ar]
   exact⟨⟨rfl,rfl⟩,fun _=>(aS _ _ _).symm⟩
 ·cases he
theorem fj{r:Nat}{o:Obj}(hb:w.heap[r]? = some o)(hc:∀c e f,o≠.cells c e f):(getObj r).run P w=.ok o w:=by
 cases o<;>first|(exact absurd rfl (hc _ _ _))|simp[getObj,Sem.run,hb]
theorem xT{r:Nat}{o o':Obj}(hb:w.heap[r]? = some o)(hc:∀c e f,o≠.cells c e f):(setObj r o').run P w=.ok () { w with heap:=w.heap.setIfInBounds r o' }:=by
 cases o<;>first|(exact absurd rfl (hc _ _ _))|simp[setObj,Sem.run,hb]
theorem DK{hh:Heap}(g:Good Z ψ h w B0 O)(aZ:∀id o,hh.get id=some o→h id=some o){ty:TypeId}{x:AV}{u:Value}{e:bm}(hx:ar Z ψ h w x u)(mf:∀v hw,e=.wr v hw→hh.get=h)(he:p4 hh x some=some e) :
  ∃v w',(Instr.next u true ty).run P w=.ok v w'∧Next Z ψ h w B0 O N Z ψ (e.hp h) w'∧ar Z ψ (e.hp h) w' e.v v:=by
 unfold p4 at he
 split at he
 ·rename_i id
  split at he
  ·rename_i x hg
   have xL:=aZ _ _ hg
   simp only[ar]at hx
   have hu:=hx.2 (by rw[xL];simp)
   obtain⟨r,h1,h2⟩:=g.row id .mq x xL
   rw[h1]at hu
   subst hu
   cases hc:decide (x.2<x.1.size) with
   |true =>
    rw[hc]at he;cases he
    have heq:=mf _ _ rfl
    simp only[decide_eq_true_eq]at hc
    have aG:=(Array.getElem?_eq_some_iff.1 h2).1
    refine⟨.tuple #[.bool true,goInt x.2,.int .i32 (Utf8.decode x.1 x.2).1],{ w with heap:=w.heap.setIfInBounds r (.stringIter x.1 (x.2+(Utf8.decode x.1 x.2).2)) },?_,?_,?_⟩
    ·simp only[Instr.next,Sem.run_bind,fj h2 (by simp),Result.andThen_ok,hc,if_true,xT h2 (by simp),Sem.run_pure]
    ·simp only[bm.hp]
     rw[lC,heq]
     exact qj (N:=N) g (by rw[xL];simp) (by rw[h1];rfl) aG _ (ok:=.mq) (x:=(x.1,x.2+xl x.1 x.2)) (fun w' Gl _=>⟨r,h1,by rw[Gl];simp[aG,xl]⟩)
    ·simp only[bm.v,ar,ai]
     exact⟨_,rfl,_,_,rfl,rfl,_,_,rfl,rfl,_,_,rfl,rfl,rfl⟩
   |false =>
    rw[hc]at he;cases he
    simp only[decide_eq_false_iff_not]at hc
    refine⟨.tuple #[.bool false],w,?_,Next.refl g,?_⟩
    ·simp only[Instr.next,Sem.run_bind,fj h2 (by simp),Result.andThen_ok,hc,if_false,Sem.run_pure]
    ·simp only[bm.v,ar,ai]
     exact⟨_,rfl,_,_,rfl,rfl,rfl⟩
  ·cases he
 ·cases he
theorem find_born{l:List MapEntry}(h:l.Pairwise (fun a b=>a.born≠b.born)){e:MapEntry}(he:e∈l):l.find? (fun x=>x.born==e.born)=some e:=by
 induction l with
 |nil=>cases he
 |cons a r ih =>
  obtain⟨h1,h2⟩:=List.pairwise_cons.1 h
  rw[List.find?_cons]
  rcases List.mem_cons.1 he with rfl|he
  ·simp
  ·have:(a.born==e.born)=false:=by simpa using h1 e he
   rw[this];exact ih h2 he
theorem DL{hh:Heap}(g:Good Z ψ h w B0 O)(aZ:∀id o,hh.get id=some o→h id=some o){x:AV}{u:Value}{e:bm}(hx:ar Z ψ h w x u)(he:p6 hh x some=some e) :
  ∃y v,e=.val y∧(Instr.entry u).run P w=.ok v w∧ar Z ψ h w y v:=by
 unfold p6 at he
 split at he
 ·rename_i id
  split at he
  ·rename_i kk vk c rest hg
   cases he
   have xL:=aZ _ _ hg
   simp only[ar]at hx
   have hu:=hx.2 (by rw[xL];simp)
   obtain⟨r,m,since,seen,bG,clock,h1,h2,h3,h4,h5,h6,h7,h8,h9⟩:=g.row id (.iter kk vk) (some c,rest) xL
   rw[h1]at hu
   subst hu
   obtain⟨en,l8,wo,FR⟩:=h9
   obtain⟨⟨k1,k2,k3⟩,v1,v2,v3⟩:=FR.2 0 c en rfl rfl
   refine⟨_,.tuple #[en.key,en.val],rfl,?_,?_⟩
   ·have hf:bG.find? (·.born==en.born)=some en:=by
     have:=find_born h5 l8
     rwa [←Array.find?_toList]
    simp only[Instr.entry,Sem.run_bind,fj h2 (by simp),Result.andThen_ok,wo,Sem.run_pure,fj h4 (by simp),hf]
    simp
   ·simp only[ar,ai]
    exact⟨_,rfl,_,_,rfl,kG k1 k2 k3,_,_,rfl,kG v1 v2 v3,rfl⟩
  ·cases he
 ·cases he
end Go.Vs
namespace Go.Vs
variable {P:Program} {Z Z':Nat→Prop} {ψ ψ':Nat→Value} {h h':Hp} {w w':World} {B0:Nat} {O:Nat→Prop} {N:Nat→Prop}
mutual
theorem aA.imp{p q:Nat→Prop}(xU:∀i,p i→q i):∀{a:AV},aA p a→aA q a
 |.no,_=>by simp only[aA]
 |.bool b,_=>by simp only[aA]
 |.int k n,_=>by simp only[aA]
 |.str s,_=>by simp only[aA]
 |.kb,_=>by simp only[aA]
 |.eY,_=>by simp only[aA]
 |.ref id s i off,h=>by simp only[aA]at h ⊢;exact xU _ h
 |.fp k x off,_=>by simp only[aA]
 |.sl ex k xs,_=>by simp only[aA]
 |.mp kk vk es,_=>by simp only[aA]
 |.bp id,h=>by simp only[aA]at h ⊢;exact xU _ h
 |.fn f cap,h=>by simp only[aA]at h ⊢;exact au.imp xU h
 |.agg cs,h=>by simp only[aA]at h ⊢;exact au.imp xU h
 |.lW cs,h=>by simp only[aA]at h ⊢;exact au.imp xU h
theorem au.imp{p q:Nat→Prop}(xU:∀i,p i→q i):∀{a:List AV},au p a→au q a
 |[],_=>by simp only[au]
 |a::r,h=>by simp only[au]at h ⊢;exact⟨aA.imp xU h.1,au.imp xU h.2⟩
end
theorem aA.cells{p:Nat→Prop}{a:AV}(h:aA p a):au p a.cells:=by
 cases a with
 |agg cs=>simpa only[AV.cells,aA] using h
 |_=>simp only[AV.cells,au];exact⟨h,trivial⟩
theorem xV:∀{cs:List AV},Dq cs=true→∀id,AV.bp id∉cs
 |[],_,id=>by simp
 |c::r,hn,id=>by
  intro hm
  cases c with
  |bp i=>simp[Dq]at hn
  |_ =>
   simp only[Dq]at hn
   rcases List.mem_cons.1 hm with e|hm
   ·cases e
   ·exact xV hn id hm
theorem pn:∀{vs:List AV},oR vs=true→∀v∈vs,∀id,AV.bp id∉v.cells
 |[],_,v,hv=>by simp at hv
 |a::r,hn,v,hv=>by
  simp only[oR,Bool.and_eq_true]at hn
  rcases List.mem_cons.1 hv with rfl|hv
  ·exact xV hn.1
  ·exact pn hn.2 v hv
def s5(o:Oper):Bool :=
 match o.op with
 |.call { callee:=.value _,.. }=>true
 |_=>false
theorem Gn{s:List (Nat×AV)}{ρC:Operand→Value}{x:Option Operand}(hx:∀y,x=some y→ar Z ψ h w (ρ s y) (ρC y)):dG Z ψ h w (x.map (ρ s)) (x.map ρC):=by
 cases x with
 |none=>trivial
 |some y=>exact hx y rfl
theorem xW{s:List (Nat×AV)}{ρC:Operand→Value}:∀(ps:List (Nat×Operand)),(∀p∈ps,ar Z ψ h w (ρ s p.2) (ρC p.2))→(∀p∈ps,ρ s p.2≠.no)→q6 Z ψ h w (ps.map fun p=>(p.1,ρ s p.2)) (ps.map fun p=>(p.1,ρC p.2))
 |[],_,_=>trivial
 |p::r,h1,h2=>⟨rfl,h2 p (by simp),h1 p (by simp),xW r (fun q hq=>h1 q (List.mem_cons_of_mem _ hq)) (fun q hq=>h2 q (List.mem_cons_of_mem _ hq))⟩
theorem A2{k:K}{hh:Heap}:∀{ps:List (Nat×AV)} {i:Nat} {xs:List k.T},oV k hh i ps=some xs→∀p∈ps,p.2≠.no
 |[],_,_,_,p,hp=>by simp at hp
 |(j,v)::r,i,xs,hl,p,hp=>by
  simp only[oV]at hl
  split at hl
  ·split at hl
   ·rename_i x ys h1 h2
    rcases List.mem_cons.1 hp with rfl|hp
    ·exact AX h1
    ·exact A2 h2 p hp
   ·cases hl
  ·cases hl
theorem RB{α:Type}{l:List α}(h:l.length=0+1+1):∃x y,l=[x,y]:=by
 cases l with
 |nil=>simp at h
 |cons a r=>cases r with
  |nil=>simp at h
  |cons b s=>cases s with
   |nil=>exact⟨a,b,rfl⟩
   |cons c q=>simp at h
theorem Gp{a:AV}(h:Qm a=true):a≠.no:=by rintro rfl;cases h
section
variable {Eqs:TypeId→Option K} {Sg:FuncId→Option aK} {F:(f:FuncId)→(g:aK)→g.A→Option g.B}
theorem Cl{hh:Heap}{ρC:Operand→Value}{o:Oper}(g:Good Z ψ h w B0 O)(hB:B0≤w.heap.size)(aZ:∀id o,hh.get id=some o→h id=some o){id:Nat}(hN:N id){t:TypeId}{s x:AV}{u v:Value}{e:bm}
  (hs:ar Z ψ h w s u) (hx:ar Z ψ h w x v) (A3:aA (fun i=>¬N i) s) (aR:∀i ty cs,h i=some (.box ty cs)→au (fun i=>¬N i) cs) (mf:∀v hw,e=.wr v hw→hh.get=h) (he:mu P hh id t s x some=some e)
  (cY:∀V w',(Builtin.append_ #[t,t] o.type #[u,v]).run P w=.ok V w'→(execOp ρC o).run P w=.ok (.value V) w'):fY P ρC o Z ψ h w B0 O N e:=by
 have H4:∀i ty cs,h i=some (.box ty cs)→au (fun i=>i≠id) cs:=fun i ty cs hb=>(aR i ty cs hb).imp (fun j hj e=>hj (by rw[e];exact hN))
 unfold mu at he
 split at he
 ·cases he
 ·rename_i et het
  have ht:=mb het
  split at he
  ·cases he
  ·rename_i kk OJ
   split at he
   ·rename_i ys Aw lq
    obtain⟨inf,z,FO⟩:=cf lq
    split at he
    ·
     cases hc:b4 0 ys.length with
     |false=>rw[hc]at he;cases he
     |true =>
      rw[hc]at he;cases he
      simp only[b4,decide_eq_true_eq]at hc
      simp only[ar]at hs
      subst hs
      obtain⟨V,w',h1,h2,h3⟩:=ot (P:=P) (ty:=o.type) g aZ hB hN ht FO Aw hx (by omega) H4
      refine⟨V,w',Z,_,.inl (cY V w' h1),by simp only[bm.hp];rw[gG];exact h2,?_⟩
      simp only[bm.v,bm.hp,ar]
      exact⟨h3,fun _=>(aS _ _ _).symm⟩
    ·
     rename_i da
     split at he
     ·rename_i e' k' xs hg
      split at he
      ·rename_i hc
       obtain⟨rfl,rfl⟩:=hc
       cases ud:b4 xs.length ys.length with
       |false=>rw[ud]at he;cases he
       |true =>
        rw[ud]at he;cases he
        simp only[b4,decide_eq_true_eq]at ud
        have heq:=mf _ _ rfl
        have xL:=aZ _ _ hg
        simp only[ar]at hs
        have hu:=hs.2 (by rw[xL];simp)
        subst hu
        simp only[aA]at A3
        obtain⟨V,w',h1,h2,h3⟩:=wq (P:=P) (ty:=o.type) g aZ hB hN (fun e=>A3 (by rw[e];exact hN)) ht FO xL Aw hx ud H4
        refine⟨V,w',Z,_,.inl (cY V w' h1),by simp only[bm.hp];rw[lC,sV,heq];exact h2,?_⟩
        simp only[bm.v,bm.hp,ar]
        exact⟨h3,fun _=>(aS _ _ _).symm⟩
      ·cases he
     ·cases he
    ·
     rename_i ex k' xs
     split at he
     ·rename_i hc
      subst hc
      cases ud:(ex&&((!ys.isEmpty || xs.isEmpty)&&b4 xs.length ys.length)) with
      |false=>rw[ud]at he;cases he
      |true =>
       rw[ud]at he;cases he
       simp only[Bool.and_eq_true,Bool.or_eq_true,b4,decide_eq_true_eq,Bool.not_eq_true',List.isEmpty_eq_false_iff,List.isEmpty_iff]at ud
       obtain⟨rfl,aU,OL⟩:=ud
       obtain⟨V,w',h1,h2,h3⟩:=xG (P:=P) (ty:=o.type) g aZ hB hN ht FO hs Aw hx (aU.imp List.length_pos_iff.2 (fun h=>h)) OL H4
       refine⟨V,w',Z,_,.inl (cY V w' h1),by simp only[bm.hp];rw[gG];exact h2,?_⟩
       simp only[bm.v,bm.hp,ar]
       exact⟨h3,fun _=>(aS _ _ _).symm⟩
     ·cases he
    ·cases he
   ·cases he
theorem xX{ρC:Operand→Value}{o:Oper}(g:Good Z ψ h w B0 O)(hB:B0≤w.heap.size){id:Nat}(hN:N id){t:TypeId}{vs:List AV}{us:Array Value}{e:bm}(hr:ai Z ψ h w vs us.toList)(h1:∀u∈us.toList,u.oneCell'=true)
  (hm:au (fun i=>¬N i) vs) (aR:∀i ty cs,h i=some (.box ty cs)→au (fun i=>¬N i) cs) (he:uo id t vs some=some e)
  (cY:(execOp ρC o).run P w=.ok (.value (.pointer (some ⟨w.heap.size,0,none⟩))) (w.alloc (.cells us t))):fY P ρC o Z ψ h w B0 O N e:=by
 unfold uo at he
 cases he
 have aU:∀i,¬N i→i≠id:=fun j hj e=>hj (by rw[e];exact hN)
 have n:=sP (N:=N) g hB id t hN hr h1 (fun i ty cs hb=>(aR i ty cs hb).imp aU) (hm.imp aU)
 refine⟨_,_,Z,_,.inl cY,by simp only[bm.hp];rw[gG];exact n,?_⟩
 simp only[bm.v,bm.hp,ar]
 exact⟨_,rfl,fun _=>by rw[aS];simp[Oy]⟩
theorem Jt{hh:Heap}{ρC:Operand→Value}{s:List (Nat×AV)}{o:Oper}(g:Good Z ψ h w B0 O)(hB:B0≤w.heap.size)(aZ:∀id o,hh.get id=some o→h id=some o){id:Nat}(hN:N id){t:TypeId}{n:Nat}{ps:Array (Nat×Operand)}{e:bm}
  (ml:∀p∈ps.toList,ar Z ψ h w (ρ s p.2) (ρC p.2)) (aR:∀i ty cs,h i=some (.box ty cs)→au (fun i=>¬N i) cs) (jV:Bool) {e0:bm} (OM:e=if jV then Ox e0 else e0) (mf:∀v hw,e=.wr v hw→hh.get=h) (he:sF P hh id t n (ps.toList.map fun p=>(p.1,ρ s p.2)) some=some e0)
  (cY:∀V w',(Instr.buildSlice t n (ps.map fun p=>(p.1,ρC p.2))).run P w=.ok V w'→(execOp ρC o).run P w=.ok (.value V) w'):fY P ρC o Z ψ h w B0 O N e:=by
 have H4:∀i ty cs,h i=some (.box ty cs)→au (fun i=>i≠id) cs:=fun i ty cs hb=>(aR i ty cs hb).imp (fun j hj e=>hj (by rw[e];exact hN))
 unfold sF at he
 split at he
 ·cases he
 ·rename_i et het
  have ht:=mb het
  split at he
  ·cases he
  ·rename_i k hk
   split at he
   ·cases he
   ·cases he
   ·rename_i xs mB lq
    obtain⟨inf,z,FO⟩:=cf lq
    have Gq:=xW (Z:=Z) (ψ:=ψ) (h:=h) (w:=w) ps.toList ml (fun p hp=>A2 mB (p.1,ρ s p.2) (List.mem_map.2 ⟨p,hp,rfl⟩))
    have H5:q6 Z ψ hh.get w (ps.toList.map fun p=>(p.1,ρ s p.2)) (ps.map fun p=>(p.1,ρC p.2)).toList:=by
     rw[Array.toList_map];exact Gq.oF aZ
    split at he
    ·rename_i hc
     obtain⟨rfl,hn⟩:=hc
     cases pf:oR ((ps.toList.map fun p=>(p.1,ρ s p.2)).map (·.2)) with
     |true =>
      rw[pf]at he;cases he
      have Yx:=pn pf
      obtain⟨V,w',h1,h2,h3⟩:=DD (P:=P) (N:=N) g (g.sub aZ) (fun _ h=>h) hB hN ht FO (fun p hp i b hm=>absurd hm (Yx p.2 (List.mem_map.2 ⟨p,hp,rfl⟩) i)) H5 mB hn H4
      cases jV with
      |false =>
       have OM:e=.new (.bp id) [(id,.own (.row et k) xs)]:=OM
       subst OM
       refine⟨V,w',Z,_,.inl (cY V w' h1),by simp only[bm.hp];rw[gG];exact h2,?_⟩
       simp only[bm.v,bm.hp,ar]
       exact⟨h3.1,fun _=>(aS _ _ _).symm⟩
      |true =>
       have OM:e=.new (.sl true k xs) []:=OM
       subst OM
       obtain⟨m1,m2⟩:=Le g hB h2 h3.2.1 h3.2.2.1 h3.2.2.2
       have e1:(bm.new (.sl true k xs) []).hp h=h:=by funext i;simp[bm.hp,Heap.get]
       refine⟨V,w',_,_,.inl (cY V w' h1),by rw[e1];exact m1,?_⟩
       rw[e1];exact m2
     |false =>
      rw[pf]at he;cases he
      have OM:e=.wr (.bp id) ((id,.own (.row et k) xs)::cq hh ((ps.toList.map fun p=>(p.1,ρ s p.2)).flatMap (·.2.cells))):=by
       rw[OM];cases jV<;>rfl
      subst OM
      have heq:=mf _ _ rfl
      subst heq
      let cs:=(ps.toList.map fun p=>(p.1,ρ s p.2)).flatMap (·.2.cells)
      have gd:=gF g cs
      obtain⟨V,w',h1,h2,h3⟩:=DD (P:=P) (N:=N) gd g (fun b hb=>.inl hb) hB hN ht FO (fun p hp i b hm aU hb=>.inr ⟨i,List.mem_flatMap.2 ⟨p,hp,hm⟩,aU,hb⟩) H5 mB hn (fun i ty cs' hb=>H4 i ty cs' (dE _ _ _ _ hb))
      refine⟨V,w',oL Z ψ hh.get cs,dy ψ id V,.inl (cY V w' h1),?_,?_⟩
      ·simp only[bm.hp]
       rw[xK]
       exact h2.drop (fun b hb=>.inl hb) (fun b hb=>hb.imp (fun h=>h) (fun⟨i,_,h5,h6⟩=>⟨i,h5,h6⟩)) (dE _ _)
      ·simp only[bm.v,bm.hp,ar]
       exact⟨h3.1,fun _=>(aS _ _ _).symm⟩
    ·cases he
theorem Ju{jV:Bool}{h:Heap}{id:Nat}{t:TypeId}{n:Nat}{ps:List (Nat×AV)}{e:bm}(he:uq P jV h id t n ps some=some e):∃e0,sF P h id t n ps some=some e0∧e=if jV then Ox e0 else e0:=by
 unfold uq sF at he
 unfold sF
 split at he
 ·cases he
 split at he
 ·cases he
 split at he
 ·cases he
 ·cases he
 split at he
 ·rename_i hc
  rw[if_pos hc]
  cases pf:oR (ps.map (·.2)) with
  |true=>rw[pf]at he;exact⟨_,rfl,(Option.some.inj he).symm⟩
  |false=>rw[pf]at he;exact⟨_,rfl,(Option.some.inj he).symm⟩
 ·cases he
theorem xY(p:Nat→Prop)(v:Value):aA p (uf v):=by
 cases v with
 |pointer a=>simp only[uf];split<;>simp only[aA]
 |slice a n c=>simp only[uf];split<;>simp only[aA]
 |func fn first cap =>
  cases fn with
  |func f=>simp only[uf];split<;>simp only[aA,au]
  |_=>simp only[uf,aA]
 |_=>simp only[uf,aA]
theorem uC(p:Nat→Prop):∀vs:List Value,au p (vs.map uf)
 |[]=>by simp[au]
 |v::r=>by simp only[List.map_cons,au];exact⟨xY p v,uC p r⟩
theorem Jv(p:Nat→Prop)(v:Value):au p (rH v).cells:=by
 cases v with
 |agg cs=>simp only[rH,AV.cells];exact uC p _
 |_=>simp only[rH];rw[AW];simp only[au];exact⟨xY p _,trivial⟩
theorem Ln(Ag:∀t k,Eqs t=some k→kH P t k){hh:Heap}{ρC:Operand→Value}{s:List (Nat×AV)}{o:Oper}(g:Good Z ψ h w B0 O)(hB:B0≤w.heap.size)(aZ:∀id o,hh.get id=some o→h id=some o){id:Nat}(hN:makes o.op=true→N id){e:bm}
  (ml:∀x∈o.op.operands,ar Z ψ h w (ρ s x) (ρC x)) (hm:∀x∈o.op.operands,aA (fun i=>¬N i) (ρ s x)) (aR:∀i ty cs,h i=some (.box ty cs)→au (fun i=>¬N i) cs) (mf:∀v hw,e=.wr v hw→hh.get=h)
  (FU:s5 o=false) (he:cy P Eqs Sg F id hh s o some=some e):fY P ρC o Z ψ h w B0 O N e:=by
 obtain⟨dst,op,type,pos,after,guard⟩:=o
 have two:∀{a b:Operand},(∀x∈(#[a,b]:Array Operand),ar Z ψ h w (ρ s x) (ρC x))→ar Z ψ h w (ρ s a) (ρC a)∧ar Z ψ h w (ρ s b) (ρC b):=fun hx=>⟨hx _ (by simp),hx _ (by simp)⟩
 cases op<;>simp only[cy]at he<;>simp only[Op.operands]at ml hm<;>first|(cases he;done)|skip
 case move x=>cases he;exact fY.val g (V:=ρC x) (by simp[execOp]) (ml x (by simp))
 case assign x=>cases he;exact fY.val g (V:=ρC x) (by simp[execOp]) (ml x (by simp))
 case pick c a b =>
  have h1:=ml c (by simp);have h2:=ml a (by simp);have h3:=ml b (by simp)
  split at he
  ·rename_i t ht
   cases he
   rw[ht]at h1
   simp only[ar]at h1
   refine fY.val g (V:=if t then ρC a else ρC b) (by simp[execOp,h1,asBool]) ?_
   unfold Ql
   split
   ·rename_i p q hp hq
    rw[hp]at h2;rw[hq]at h3
    simp only[ar]at h2 h3 ⊢
    cases t<;>simp[h2,h3]
   ·cases t
    ·exact h3
    ·exact h2
  ·cases he
 case alloc t =>
  split at he
  ·rename_i z hz
   obtain⟨i,zv,hi,T2,rfl,h1⟩:=ns hz
   exact xX (us:=zv.cells) g hB (hN rfl) (xI zv) h1 (Jv _ zv) aR he (by simp[execOp,Instr.alloc,sS hi T2,newVar,newRow,newObj,Sem.run])
  ·cases he
 case box t x =>
  have h1:=ml x (by simp)
  split at he
  ·rename_i hp
   have hc:=h1.cells (DH hp)
   exact xX (us:=(ρC x).cells) g hB (hN rfl) hc (rR hp hc) (hm x (by simp)).cells aR he (by simp[execOp,Instr.box,newVar,newRow,newObj,Sem.run])
  ·cases he
 case build t ps =>
  unfold p7 at he
  split at he
  ·rename_i z fs hz hf
   split at he
   ·rename_i cs T7 eu
    cases he
    simp only[Bool.and_eq_true]at eu
    obtain⟨eu,Yy⟩:=eu
    have T8:fs.toList.all (fun f=>(P.info? f.type).isSome)=true:=eu
    have RC:∀p∈ps.toList,ar Z ψ h w (ρ s p.2) (ρC p.2):=fun p hp=>ml p.2 (by simp;exact⟨p.1,by simpa using hp⟩)
    have Gq:=xW (Z:=Z) (ψ:=ψ) (h:=h) (w:=w) ps.toList RC (fun p hp=>Gp (List.all_eq_true.1 Yy (p.1,ρ s p.2) (List.mem_map.2 ⟨p,hp,rfl⟩)))
    obtain⟨V,h1,h2⟩:=Jk (P:=P) (qs:=ps.map fun p=>(p.1,ρC p.2)) hz hf T8 (by rw[Array.toList_map];exact Gq) T7
    exact fY.val g (V:=V) (by simp only[execOp,Sem.run_bind];rw[h1];simp) h2
   ·cases he
  ·cases he
 case buildSlice t n ps =>
  have RC:∀p∈ps.toList,ar Z ψ h w (ρ s p.2) (ρC p.2):=fun p hp=>ml p.2 (by simp;exact⟨p.1,by simpa using hp⟩)
  obtain⟨e0,h0,h1⟩:=Ju he
  exact Jt g hB aZ (hN rfl) RC aR (Qn Sg t _) h1 mf h0 (fun V w' h1=>by simp only[execOp,Sem.run_bind];rw[h1];simp)
 case load t a =>
  obtain⟨x,V,rfl,h1,h2⟩:=rP g aZ (ml a (by simp)) he
  exact fY.val g (V:=V) (by simp[execOp,h1]) h2
 case store t a v =>
  obtain⟨h1,h2⟩:=two ml
  have hw:∃hw,e=.wr .no hw:=by
   obtain⟨hw,_,_,h3,_⟩:=vF (P:=P) (N:=N) (g.sub aZ) (h1.oF aZ) (h2.oF aZ) he
   exact⟨hw,h3⟩
  obtain⟨hw,rfl⟩:=hw
  have heq:=mf _ _ rfl
  subst heq
  obtain⟨Gl,w',Z',h3,h4,h5⟩:=vF (P:=P) (N:=N) g h1 h2 he
  cases h3
  exact⟨undef,w',Z',ψ,.inr ⟨by simp[execOp,h4],rfl⟩,h5,by simp only[bm.v,ar]⟩
 case nilCheck x =>
  have h1:=ml x (by simp)
  split at he
  ·rename_i id s i off hx
   cases he
   rw[hx]at h1
   have h2:=h1
   simp only[ar]at h1
   obtain⟨a,ha,_⟩:=h1
   exact fY.val g (V:=ρC x) (by simp[execOp,ha]) h2
  ·rename_i k y off hx
   cases he
   rw[hx]at h1
   have h2:=h1
   simp only[ar]at h1
   obtain⟨a,us,ha,_⟩:=h1
   exact fY.val g (V:=ρC x) (by simp[execOp,ha]) h2
  ·rename_i f cap hx
   cases he
   rw[hx]at h1
   have h2:=h1
   simp only[ar]at h1
   obtain⟨vs,ha,_⟩:=h1
   exact fY.val g (V:=ρC x) (by simp[execOp,ha]) h2
  ·cases he
 case binOp op t x y yt =>
  obtain⟨h1,h2⟩:=two ml
  obtain⟨r,V,rfl,h3,h4⟩:=Jp Ag (xo:=x) (yo:=y) h1 h2 he
  exact fY.val g (V:=V) (by simp only[execOp,Sem.run_bind]at h3 ⊢;rw[h3];simp) h4
 case unOp op t x =>
  have h1:=ml x (by simp)
  cases op<;>simp only at he<;>first|(cases he;done)|skip
  split at he
  ·rename_i b hx
   cases he
   rw[hx]at h1
   simp only[ar]at h1
   exact fY.val g (V:=.bool (!b)) (by simp[execOp,h1,Op.unary]) (by simp only[ar])
  ·cases he
 case convert src dst x =>
  have h1:=ml x (by simp)
  unfold xt at he
  split at he
  ·rename_i k1 k2 k3 n hs hd hx
   cases he
   rw[hx]at h1
   simp only[ar]at h1
   exact fY.val g (V:=.int k2 (k2.wrap n)) (by simp[execOp,h1,convert,run_underlying hs,run_underlying hd,Conv.intToInt]) (by simp only[ar])
  ·rename_i sv hs hd hx
   cases he
   rw[hx]at h1
   have h2:=h1
   simp only[ar]at h1
   exact fY.val g (V:=ρC x) (by simp[execOp,h1,convert,run_underlying hs,run_underlying hd]) h2
  ·cases he
 case makeFunc fn first cap =>
  cases fn<;>simp only at he<;>first|(cases he;done)|skip
  rename_i f
  split at he
  ·rename_i hf
   cases he
   have h0:first=#[]:=Array.eq_empty_of_size_eq_zero hf
   subst h0
   have hl:∀l:List Operand,(∀x∈l,ar Z ψ h w (ρ s x) (ρC x))→ai Z ψ h w (l.map (ρ s)) (l.map ρC):=by
    intro l
    induction l with
    |nil=>intro _;simp[ai]
    |cons a r ih=>intro ha;simp only[List.map_cons,ai];exact⟨_,_,rfl,ha a (by simp),ih (fun x hx=>ha x (List.mem_cons_of_mem _ hx))⟩
   exact fY.val g (V:=.func (.func f) #[] (cap.map ρC)) (by simp[execOp,Instr.makeFunc]) (by simp only[ar];exact⟨_,rfl,by rw[Array.toList_map];exact hl _ (fun x hx=>ml x (by simp;simpa using hx))⟩)
  ·cases he
 case slice t x lo hi mx =>
  have h1:=ml x (by simp)
  have h2:dG Z ψ h w (lo.map (ρ s)) (lo.map ρC):=Gn (fun y hy=>ml y (by subst hy;simp))
  have h3:dG Z ψ h w (hi.map (ρ s)) (hi.map ρC):=Gn (fun y hy=>ml y (by subst hy;simp))
  have h4:dG Z ψ h w (mx.map (ρ s)) (mx.map ρC):=Gn (fun y hy=>ml y (by subst hy;simp))
  split at he
  ·rename_i ht
   unfold ui at he
   split at he
   ·rename_i sv hx hmx
    split at he
    ·rename_i l u hb
     cases ho:aN sv.size l u with
     |false=>rw[ho]at he;cases he
     |true =>
      rw[ho]at he;cases he
      rw[hx]at h1
      simp only[ar]at h1
      have XJ:mx=none:=by cases mx with
       |none=>rfl
       |some m=>simp at hmx
      subst XJ
      have cY:=rQ (P:=P) (w:=w) (b:=false) (Nat.le_refl sv.size) h2 h3 (mx:=none) (mx':=none) trivial hb ho (.inl rfl)
      exact fY.val g (V:=.string (Rl sv l u)) (by simp[execOp,Instr.sliceAt,Instr.slice,run_underlying ht,h1,cY,Rl]) (by simp only[ar])
    ·cases he
   ·cases he
  ·rename_i et ht
   split at he
   ·rename_i Rx
    obtain⟨V,Z',h5,h6,h7⟩:=DG (P:=P) (N:=N) g aZ ht h1 h2 h3 h4 mf he Rx
    exact⟨V,w,Z',ψ,.inl (by simp[execOp,h5]),h6,h7⟩
   ·cases he
  ·cases he
 case fieldAddr t x f =>
  have h1:=ml x (by simp)
  split at he
  ·rename_i n ft id sz i off hf hx
   split at he
   ·cases he
   ·rename_i hc
    cases he
    rw[hx]at h1
    obtain⟨V,h2,h3⟩:=q9 (P:=P) hf hc h1
    exact fY.val g (V:=V) (by simp[execOp,h2]) h3
  ·rename_i n ft k y off hf hx
   split at he
   ·cases he
   ·rename_i hc
    cases he
    rw[hx]at h1
    obtain⟨V,h2,h3⟩:=sW (P:=P) hf hc h1
    exact fY.val g (V:=V) (by simp[execOp,h2]) h3
  ·cases he
 case field t x f =>
  have h1:=ml x (by simp)
  split at he
  ·rename_i n ft cs hf hx
   split at he
   ·rename_i v hv
    cases he
    rw[hx]at h1
    obtain⟨V,h2,h3⟩:=DF (P:=P) hf h1 hv
    exact fY.val g (V:=V) (by simp[execOp,h2]) h3
   ·cases he
  ·cases he
 case indexAddr t x i =>
  obtain⟨h1,h2⟩:=two ml
  obtain⟨y,V,rfl,h3,h4⟩:=ou g aZ h1 h2 he
  exact fY.val g (V:=V) (by simp[execOp,h3]) h4
 case index t x i =>
  obtain⟨h1,h2⟩:=two ml
  split at he
  ·rename_i sv ik n ht hx hi
   obtain⟨c,hc,N2⟩:=Option.bind_eq_some_iff.1 he
   cases N2
   rw[hx]at h1;rw[hi]at h2
   simp only[ar]at h1 h2
   exact fY.val g (V:=.int .u8 (c.toNat:Int)) (by simp[execOp,Instr.index,asIntOf,run_underlying ht,h1,h2,hc]) (by simp only[ar])
  ·cases he
 case extract t i =>
  have h1:=ml t (by simp)
  split at he
  ·rename_i vs hx
   split at he
   ·rename_i v hv
    cases he
    rw[hx]at h1
    simp only[ar]at h1
    obtain⟨us,hu,hl⟩:=h1
    obtain⟨u,h2,h3⟩:=hl.get i hv
    exact fY.val g (V:=u) (by simp[execOp,Instr.extract,hu,show us[i]? = some u by simpa using h2]) h3
   ·cases he
  ·cases he
 case makeMap t r =>
  cases r with
  |some r=>cases he
  |none =>
   simp only at he
   have H4:∀i ty cs,h i=some (.box ty cs)→au (fun i=>i≠id) cs:=fun i ty cs hb=>(aR i ty cs hb).imp (fun j hj e=>hj (by rw[e];exact hN rfl))
   obtain⟨V,w',ψ',h1,h2,h3⟩:=Av g hB (hN rfl) H4 he
   exact⟨V,w',Z,ψ',.inl (by simp[execOp,h1]),h2,h3⟩
 case lookup t m i ok =>
  obtain⟨h1,h2⟩:=two ml
  obtain⟨y,V,rfl,h3,h4⟩:=Cj Ag g aZ h1 h2 he
  exact fY.val g (V:=V) (by simp[execOp,h3]) h4
 case mapUpdate t m i v =>
  have h1:=ml m (by simp);have h2:=ml i (by simp);have h3:=ml v (by simp)
  have hw:∃hw,e=.wr (.lW []) hw:=by
   obtain⟨hw,_,_,h4,_⟩:=sX (N:=N) Ag (g.sub aZ) (h1.oF aZ) (h2.oF aZ) (h3.oF aZ) he
   exact⟨hw,h4⟩
  obtain⟨hw,rfl⟩:=hw
  have heq:=mf _ _ rfl
  subst heq
  obtain⟨Gl,w',Z',h4,h5,h6⟩:=sX (N:=N) Ag g h1 h2 h3 he
  cases h4
  exact⟨undef,w',Z',ψ,.inr ⟨by simp[execOp,h5],rfl⟩,h6,by simp only[bm.v,ar,ai];exact⟨#[],rfl,rfl⟩⟩
 case range t x =>
  have H4:∀i ty cs,h i=some (.box ty cs)→au (fun i=>i≠id) cs:=fun i ty cs hb=>(aR i ty cs hb).imp (fun j hj e=>hj (by rw[e];exact hN rfl))
  obtain⟨V,w',ψ',h1,h2,h3⟩:=Ck g hB (hN rfl) (ml x (by simp)) H4 he
  exact⟨V,w',Z,ψ',.inl (by simp[execOp,h1]),h2,h3⟩
 case next x b =>
  cases b with
  |false=>cases he
  |true =>
   obtain⟨V,w',h1,h2,h3⟩:=DK (P:=P) (N:=N) (ty:=type) g aZ (ml x (by simp)) mf he
   exact⟨V,w',Z,ψ,.inl (by simp[execOp,h1]),h2,h3⟩
 case entry x =>
  obtain⟨y,V,rfl,h1,h2⟩:=DL (P:=P) g aZ (ml x (by simp)) he
  exact fY.val g (V:=V) (by simp[execOp,h1]) h2
 case call c =>
  obtain⟨callee,args,argTypes⟩:=c
  cases callee with
  |value f=>simp[s5]at FU
  |invoke r m=>simp only at he;cases he
  |builtin b =>
   have j8:∀x∈args.toList,ar Z ψ h w (ρ s x) (ρC x):=fun x hx=>ml x (by simp only[Call.operands];exact Array.mem_append.2 (.inr (by simpa using hx)))
   have Lo:∀x∈args.toList,aA (fun i=>¬N i) (ρ s x):=fun x hx=>hm x (by simp only[Call.operands];exact Array.mem_append.2 (.inr (by simpa using hx)))
   obtain⟨args⟩:=args
   obtain⟨argTypes⟩:=argTypes
   simp only at he j8 Lo
   cases b<;>simp only at he<;>first|(cases he;done)|skip
   case append =>
    split at he
    ·rename_i l1 l2 x y t t'
     split at he
     ·rename_i htt
      subst htt
      exact Cl g hB aZ (hN rfl) (j8 x (by simp)) (j8 y (by simp)) (Lo x (by simp)) aR mf he (fun V w' h1=>by
       simp only[execOp,resolve,invoke,builtin,Sem.run_bind,Sem.run_pure,Result.andThen_ok,List.map_toArray,List.map_cons,List.map_nil,h1])
     ·cases he
    ·cases he
   case delete =>
    split at he
    ·rename_i l1 l2 m x t ts
     have h1:=j8 m (by simp);have h2:=j8 x (by simp)
     have hw:∃hw,e=.wr (.lW []) hw:=by
      obtain⟨hw,_,h4,_⟩:=sZ (N:=N) (ty:=type) (ts:=ts) Ag (g.sub aZ) (h1.oF aZ) (h2.oF aZ) he
      exact⟨hw,h4⟩
     obtain⟨hw,rfl⟩:=hw
     have heq:=mf _ _ rfl
     subst heq
     obtain⟨Gl,w',h4,h5,h6⟩:=sZ (N:=N) (ty:=type) (ts:=ts) Ag g h1 h2 he
     cases h4
     exact⟨.tuple #[],w',Z,ψ,.inl (by simp only[execOp,resolve,invoke,builtin,Sem.run_bind,Sem.run_pure,Result.andThen_ok,List.map_toArray,List.map_cons,List.map_nil,h5]),h6,by simp only[bm.v,ar,ai];exact⟨#[],rfl,rfl⟩⟩
    ·cases he
   case len =>
    split at he
    ·rename_i l1 l2 x t
     split at he
     ·rename_i htm
      obtain⟨n,rfl,h1⟩:=Gm (P:=P) (ty:=type) g aZ htm (j8 x (by simp)) he
      exact fY.val g (V:=.int .i64 (n:Int)) (by simp only[execOp,resolve,invoke,builtin,Sem.run_bind,Sem.run_pure,Result.andThen_ok,List.map_toArray,List.map_cons,List.map_nil,h1]) (by simp only[ar])
     split at he
     ·rename_i aG
      obtain⟨n,rfl,h1⟩:=Jn g aZ (j8 x (by simp)) he
      refine fY.val g (V:=.int .i64 (n:Int)) ?_ (by simp only[ar])
      rcases h1 with⟨sv,h2,h3,rfl⟩|⟨A,c,h3⟩
      ·unfold Rm at aG
       rw[h2]at aG
       split at aG
       ·rename_i hu _
        simp[execOp,resolve,invoke,builtin,Builtin.len_,run_underlying hu,h3,goInt]
       ·cases aG
       ·rename_i h9;exact(h9 _ rfl).elim
       ·cases aG
      ·have hu:∃e,P.underlying t=some (.slice e):=by
        have h4:=j8 x (by simp)
        rw[h3]at h4
        unfold Rm at aG
        split at aG
        ·rename_i sv _ Yz
         rw[Yz]at h4;simp only[ar]at h4;cases h4
        ·cases aG
        ·rename_i e _ hu _;exact⟨_,hu⟩
        ·cases aG
       obtain⟨e,hu⟩:=hu
       simp[execOp,resolve,invoke,builtin,Builtin.len_,run_underlying hu,h3,goInt]
     ·cases he
    ·cases he
   all_goals
    unfold Jf at he
    split at he
    ·rename_i k a k' b ON
     have hl:=congrArg List.length ON
     simp only[List.length_map,List.length_cons,List.length_nil]at hl
     obtain⟨x,y,rfl⟩:=RB hl
     simp only[List.map_cons,List.map_nil,List.cons.injEq,and_true]at ON
     have h1:=j8 x (by simp)
     have h2:=j8 y (by simp)
     rw[ON.1]at h1;rw[ON.2]at h2
     simp only[ar]at h1 h2
     split at he
     ·rename_i hk
      subst hk
      cases he
      refine fY.val g (V:=bD (.int _ _)) ?_ (iX _ _)
      first
       |(simp[execOp,resolve,invoke,builtin,Builtin.max_,Builtin.max2,h1,h2,bD];simp only[Int.max_def];split<;>split<;>omega)
       |(simp[execOp,resolve,invoke,builtin,Builtin.min_,Builtin.min2,h1,h2,bD];simp only[Int.min_def];split<;>split<;>omega)
     ·cases he
    ·cases he
end
end Go.Vs
namespace Go.Vs
variable {P:Program} {Z Z' Zf:Nat→Prop} {ψ ψ':Nat→Value} {h h':Hp} {w w':World} {B0:Nat} {O:Nat→Prop} {N:Nat→Prop}
abbrev vI:=Nat×Option Nat×Ob
def dd(L:List vI):Heap:=L.map fun e=>(e.1,e.2.2)
def iY(ψ:Nat→Value):Option Nat→Value
 |some s=>ψ s
 |none=>.slice none 0 0
def dN(ψ:Nat→Value):List vI→Nat→Value
 |[],_=>undef
 |(i,s,_)::r,n=>if i=n then iY ψ s else dN ψ r n
theorem mC{L:List vI}{i:Nat}{o:Ob}(hg:(dd L).get i=some o):∃s,(i,s,o)∈L:=by
 induction L with
 |nil=>simp[dd,Heap.get]at hg
 |cons e r ih =>
  obtain⟨j,s,o'⟩:=e
  simp only[dd,List.map_cons,Heap.get]at hg
  split at hg
  ·rename_i e;subst e;cases hg;exact⟨s,List.mem_cons_self⟩
  ·obtain⟨s',hs⟩:=ih hg;exact⟨s',List.mem_cons_of_mem _ hs⟩
theorem lE{i:Nat}{r:List Nat}(h:bP (i::r)=true):i∉r∧bP r=true:=by
 simp only[bP,Bool.and_eq_true,Bool.not_eq_true']at h
 exact⟨fun hm=>by rw[List.contains_iff_mem.2 hm]at h;simp at h,h.2⟩
theorem gO{L:List vI}(hn:bP (L.map (·.1))=true){i:Nat}{s:Option Nat}{o:Ob}(hm:(i,s,o)∈L):dN ψ L i=iY ψ s:=by
 induction L with
 |nil=>cases hm
 |cons e r ih =>
  obtain⟨j,s',o'⟩:=e
  obtain⟨h1,h2⟩:=lE hn
  simp only[dN]
  rcases List.mem_cons.1 hm with he|hm
  ·cases he;simp
  ·rw[if_neg,ih h2 hm]
   rintro rfl
   exact h1 (List.mem_map.2 ⟨_,hm,rfl⟩)
theorem OO{L:List vI}(hs:bP (L.filterMap (·.2.1))=true){i j s:Nat}{o o':Ob}(h1:(i,some s,o)∈L)(h2:(j,some s,o')∈L):i=j∧o=o':=by
 induction L with
 |nil=>cases h1
 |cons e r ih =>
  obtain⟨k,s',o''⟩:=e
  have mem:∀{k:Nat} {o:Ob},(k,some s,o)∈r→s∈r.filterMap (·.2.1):=fun h=>List.mem_filterMap.2 ⟨_,h,rfl⟩
  rw[List.filterMap_cons]at hs
  cases s' with
  |none =>
   simp only[]at hs
   exact ih hs ((List.mem_cons.1 h1).resolve_left (by simp)) ((List.mem_cons.1 h2).resolve_left (by simp))
  |some s' =>
   simp only[]at hs
   obtain⟨h3,h4⟩:=lE hs
   rcases List.mem_cons.1 h1 with e1|m1<;>rcases List.mem_cons.1 h2 with e2|m2
   ·cases e1;cases e2;exact⟨rfl,rfl⟩
   ·cases e1;exact absurd (mem m2) h3
   ·cases e2;exact absurd (mem m1) h3
   ·exact ih h4 m1 m2
def DM:(ok:OK)→ok.T→Prop
 |.row _ _,xs=>xs=[]
 |_,_=>False
theorem DM.owns:∀{ok:OK} {xs:ok.T},DM ok xs→iO Z w ok (.slice none 0 0) xs
 |.row ty k,xs,h=>by
  have h:xs=[]:=h
  subst h
  exact⟨[],⟨by simp,.inl ⟨rfl,none,rfl⟩⟩,fun i x hx=>by simp at hx⟩
 |.map _ _,_,h=>h.elim
 |.iter _ _,_,h=>h.elim
 |.mq,_,h=>h.elim
def s6(Z:Nat→Prop)(ψ:Nat→Value)(h:Hp)(w:World)(h':Hp)(ψ':Nat→Value):vI→Prop
 |(_,some s,.own ok xs)=>h s=some (.own ok xs)
 |(_,none,.own ok xs)=>DM ok xs
 |(_,some s,.box ty cs')=>(∃cs,h s=some (.box ty cs))∧∀gg vs,ψ s=.pointer (some ⟨gg,0,none⟩)→w.heap[gg]? = some (.cells vs ty (0,0))→ai Z ψ' h' w cs' vs.toList
 |(_,none,.box _ _)=>False
theorem Good.rename(g:Good Z ψ h w B0 O){L:List vI}(hn:bP (L.map (·.1))=true)(hs:bP (L.filterMap (·.2.1))=true)(lq:∀e∈L,s6 Z ψ h w (dd L).get (dN ψ L) e) :
  Good Z (dN ψ L) (dd L).get w B0 O:=by
 have src:∀id b,(dd L).get id≠none→ob (dN ψ L id)=some b→∃s o,(id,some s,o)∈L∧h s≠none∧ob (ψ s)=some b:=fun id b h1 h2=>by
  obtain⟨o,ho⟩:=Option.ne_none_iff_exists'.1 h1
  obtain⟨s,hm⟩:=mC ho
  rw[gO hn hm]at h2
  cases s with
  |none=>simp[iY,ob]at h2
  |some s =>
   have h3:=lq _ hm
   refine⟨s,o,hm,?_,h2⟩
   cases o with
   |box ty cs=>obtain⟨⟨YA,h4⟩,_⟩:=h3;rw[h4];simp
   |own ok xs=>rw[show h s=some (.own ok xs) from h3];simp
 refine⟨fun id ty cs hb=>?_,fun id ok xs hb=>?_,fun id b h1 h2=>?_,fun id ly b h1 h2 h3 h4=>?_,g.iS⟩
 ·obtain⟨s,hm⟩:=mC hb
  have h3:=lq _ hm
  rw[gO hn hm]
  cases s with
  |none=>exact h3.elim
  |some s =>
   obtain⟨⟨YA,h4⟩,h5⟩:=h3
   obtain⟨gg,vs,h6,h7,h8,h9⟩:=g.box s ty YA h4
   exact⟨gg,vs,h6,h7,h5 gg vs h6 h7,h9⟩
 ·obtain⟨s,hm⟩:=mC hb
  have h3:=lq _ hm
  rw[gO hn hm]
  cases s with
  |none=>exact DM.owns h3
  |some s=>exact g.row s ok xs h3
 ·obtain⟨s,o,hm,h3,h4⟩:=src id b h1 h2
  exact g.live s b h3 h4
 ·obtain⟨s,o,hm,h5,h6⟩:=src id b h1 h3
  obtain⟨s',o',OP,h5',h6'⟩:=src ly b h2 h4
  have:=g.apart s s' b h5 h5' h6 h6'
  subst this
  exact(OO hs hm OP).1
def wJ(hh:Heap)(i:Nat):List AV:=match hh.get i with
 |some (.box _ cs)=>cs
 |_=>[]
def dm:(cW:List CK)→Nat→List AV→oP cW→List vI
 |[],_,_,_=>[]
 |.val k::r,n,cs,x=>dm r (n+1) (cs.drop k.sz) x.2
 |.own ok::r,n,cs,x=>(n,(nk (cs.headD .no)).head?,.own ok x.1)::dm r (n+1) cs.tail x.2
def dq:(b:BK)→Heap→Nat→Nat→Nat→b.T→List vI
 |.box ty c,hh,i,i',n,x=>(i',some i,.box ty (aw c n x))::dm c n (wJ hh i) x
 |.own ok,_,i,i',_,x=>[(i',some i,.own ok x)]
def cc:(bs:List BK)→Heap→List Nat→List Nat→Nat→ug bs→List vI
 |b::r,hh,i::is,i'::is',n,x=>dq b hh i i' n x.1++cc r hh is is' (n+16) x.2
 |_,_,_,_,_,_=>[]
theorem lF:∀(cW:List CK) (n:Nat) (cs:List AV) (x:oP cW),dd (dm cW n cs x)=aL cW n x
 |[],_,_,_=>rfl
 |.val k::r,n,cs,x=>lF r (n+1) _ x.2
 |.own ok::r,n,cs,x=>by simp only[dm,aL,dd,List.map_cons];rw[←lF r (n+1) cs.tail x.2];rfl
theorem ke:∀(cW:List CK) (n:Nat) (cs:List AV) (x:oP cW),(dm cW n cs x).map (·.1)=bT cW n
 |[],_,_,_=>rfl
 |.val k::r,n,cs,x=>ke r (n+1) _ x.2
 |.own ok::r,n,cs,x=>by simp only[dm,bT,List.map_cons];rw[ke r (n+1) cs.tail x.2]
theorem uD(c:AV):(nk c).head?.toList=nk c:=by cases c<;>rfl
theorem dr{α β:Type}(f:α→Option β)(a:α)(l:List α):(a::l).filterMap f=(f a).toList++l.filterMap f:=by
 rw[List.filterMap_cons];cases f a<;>rfl
theorem nw{k:K}{r:List CK}{hh:Heap}{cs:List AV}{x:oP (.val k::r)}(hd:cv (.val k::r) hh cs=some x):dh k ((cs.take k.sz).map (ct hh))=some x.1∧cv r hh (cs.drop k.sz)=some x.2:=by
 have e:cv (.val k::r) hh cs=(match dh k ((cs.take k.sz).map (ct hh)),cv r hh (cs.drop k.sz) with
  |some x,some y=>some ((x,y):k.T×oP r)
  |_,_=>none):=by cases cs<;>rfl
 rw[e]at hd
 clear e
 generalize dh k ((cs.take k.sz).map (ct hh))=o1 at hd ⊢
 generalize cv r hh (cs.drop k.sz)=o2 at hd ⊢
 cases o1 with
 |none=>cases hd
 |some x1 =>
  cases o2 with
  |none=>cases hd
  |some y1=>have:=Option.some.inj hd;subst this;exact⟨rfl,rfl⟩
theorem kI{ok:OK}{r:List CK}{hh:Heap}{cs:List AV}{x:oP (.own ok::r)}(hd:cv (.own ok::r) hh cs=some x):∃c cs',cs=c::cs'∧dz hh ok c=some x.1∧cv r hh cs'=some x.2:=by
 cases cs with
 |nil=>cases hd
 |cons c cs =>
  refine⟨c,cs,rfl,?_⟩
  have e:cv (.own ok::r) hh (c::cs)=(match dz hh ok c,cv r hh cs with
   |some x,some y=>some ((x,y):ok.T×oP r)
   |_,_=>none):=rfl
  rw[e]at hd
  clear e
  generalize dz hh ok c=o1 at hd ⊢
  generalize cv r hh cs=o2 at hd ⊢
  cases o1 with
  |none=>cases hd
  |some x1 =>
   cases o2 with
   |none=>cases hd
   |some y1=>have:=Option.some.inj hd;subst this;exact⟨rfl,rfl⟩
theorem nC:∀(cW:List CK) (n:Nat) (hh:Heap) (cs:List AV) (x:oP cW),cv cW hh cs=some x→(dm cW n cs x).filterMap (·.2.1)=eQ cW cs
 |[],_,_,cs,_,_=>by cases cs<;>rfl
 |.val k::r,n,hh,cs,x,hd=>by
  obtain⟨_,h2⟩:=nw hd
  have e:eQ (.val k::r) cs=eQ r (cs.drop k.sz):=by cases cs<;>rfl
  rw[e]
  exact nC r (n+1) hh _ x.2 h2
 |.own ok::r,n,hh,cs,x,hd=>by
  obtain⟨c,cs',rfl,_,h2⟩:=kI hd
  simp only[dm,eQ]
  rw[dr]
  simp only[List.headD_cons,List.tail_cons]
  rw[uD,nC r (n+1) hh cs' x.2 h2]
theorem kJ{hh:Heap}{ok:OK}{c:AV}{xs:ok.T}(ho:dz hh ok c=some xs):(c=.eY∧DM ok xs)∨∃id,c=.bp id∧hh.get id=some (.own ok xs):=by
 unfold dz at ho
 split at ho
 ·cases ok with
  |row _ _=>cases ho;exact .inl ⟨rfl,rfl⟩
  |_=>cases ho
 ·rename_i id
  split at ho
  ·rename_i wi k' TZ hg
   split at ho
   ·rename_i e
    subst e
    cases ho
    exact .inr ⟨id,rfl,hg⟩
   ·cases ho
  ·cases ho
 ·cases ho
theorem Cm{hh:Heap}{ok:OK}{c:AV}{xs:ok.T}{v:Value}(ho:dz hh ok c=some xs)(hr:ar Z ψ hh.get w c v){n:Nat}(ia:h' n≠none→ψ' n=iY ψ (nk c).head?):ar Z' ψ' h' w' (.bp n) v:=by
 rcases kJ ho with⟨rfl,_⟩|⟨id,rfl,hg⟩
 ·simp only[ar]at hr ⊢
  subst hr
  exact⟨⟨rfl,rfl⟩,fun hn=>(ia hn).symm⟩
 ·simp only[ar]at hr ⊢
  refine⟨hr.1,fun hn=>?_⟩
  rw[ia hn]
  exact hr.2 (by rw[hg];simp)
theorem qk{hh:Heap}(g:Good Z ψ hh.get w B0 O)(hz:∀b,Z b→Z' b):∀(cW:List CK) (n:Nat) (cs:List AV) (x:oP cW) (vs:List Value),cv cW hh cs=some x →
  (∀id b,AV.bp id∈oo cW cs→hh.get id≠none→ob (ψ id)=some b→Z' b)→(∀e∈dm cW n cs x,h' e.1≠none→ψ' e.1=iY ψ e.2.1) →
  ai Z ψ hh.get w cs vs→ai Z' ψ' h' w (aw cW n x) vs
 |[],n,cs,x,vs,hd,_,_,hr=>by
  cases cs with
  |nil=>simpa only[aw,ai] using hr
  |cons c cs=>cases hd
 |.val k::r,n,cs,x,vs,hd,hf,ia,hr=>by
  obtain⟨h1,h2⟩:=nw hd
  have e:oo (.val k::r) cs=cs.take k.sz++oo r (cs.drop k.sz):=by cases cs<;>rfl
  rw[e]at hf
  have qc:ai Z ψ hh.get w (cs.take k.sz++cs.drop k.sz) vs:=by rw[List.take_append_drop];exact hr
  obtain⟨us,ws,rfl,h3,h4⟩:=ai.split qc
  simp only[aw]
  have h5:=mA (Z':=Z') g hz (fun id b bw=>hf id b (List.mem_append_left _ bw)) h3
  exact ai.append (fF (di h1 h5)) (qk g hz r (n+1) (cs.drop k.sz) x.2 ws h2 (fun id b bw=>hf id b (List.mem_append_right _ bw)) ia h4)
 |.own ok::r,n,cs,x,vs,hd,hf,ia,hr=>by
  obtain⟨c,cs',rfl,h1,h2⟩:=kI hd
  simp only[ai]at hr
  obtain⟨v,us,rfl,h3,h4⟩:=hr
  simp only[aw,ai]
  refine⟨v,us,rfl,Cm h1 h3 (fun hn=>ia (n,_,_) (by simp only[dm];exact List.mem_cons_self) hn),?_⟩
  exact qk g hz r (n+1) cs' x.2 us h2 hf (fun e he=>ia e (by simp only[dm];exact List.mem_cons_of_mem _ he)) h4
theorem dV{b:BK}{r:List BK}{hh:Heap}{i:Nat}{is:List Nat}{x:ug (b::r)}(hd:cE (b::r) hh (i::is)=some x):oq b hh i=some x.1∧cE r hh is=some x.2:=by
 have e:cE (b::r) hh (i::is)=(match oq b hh i,cE r hh is with
   |some x,some y=>some ((x,y):b.T×ug r)
   |_,_=>none):=rfl
 rw[e]at hd
 clear e
 generalize oq b hh i=o1 at hd ⊢
 generalize cE r hh is=o2 at hd ⊢
 cases o1 with
 |none=>cases hd
 |some x1 =>
  cases o2 with
  |none=>cases hd
  |some y1=>have:=Option.some.inj hd;subst this;exact⟨rfl,rfl⟩
theorem ql{ty:TypeId}{c:List CK}{hh:Heap}{i:Nat}{x:oP c}(hd:oq (.box ty c) hh i=some x):∃cs,hh.get i=some (.box ty cs)∧cv c hh cs=some x:=by
 simp only[oq]at hd
 cases hb:AQ hh i ty with
 |none=>rw[hb]at hd;cases hd
 |some cs =>
  rw[hb]at hd
  refine⟨cs,?_,hd⟩
  unfold AQ at hb
  split at hb
  ·rename_i wi cs' hg
   split at hb
   ·rename_i e;cases hb;rw[hg,e]
   ·cases hb
  ·cases hb
theorem iZ{hh:Heap}{ok:OK}{i:Nat}{x:ok.T}(h:dz hh ok (.bp i)=some x):hh.get i=some (.own ok x):=by
 rcases kJ h with⟨h,_⟩|⟨id,h,hg⟩
 ·cases h
 ·cases h;exact hg
theorem A4{ok:OK}{hh:Heap}{i:Nat}{x:ok.T}(hd:oq (.own ok) hh i=some x):hh.get i=some (.own ok x):=iZ hd
theorem nD{hh:Heap}{i:Nat}{ty:TypeId}{cs:List AV}(hg:hh.get i=some (.box ty cs)):wJ hh i=cs:=by unfold wJ;rw[hg]
theorem Cn(b:BK){hh:Heap}{i i' n:Nat}(x:b.T):dd (dq b hh i i' n x)=ic b i' n x:=by
 cases b with
 |box ty c=>simp only[dq,ic];rw[←lF c n (wJ hh i) x];simp[dd]
 |own ok=>simp[dq,ic,dd]
theorem Ax(b:BK){hh:Heap}{i i' n:Nat}(x:b.T):(dq b hh i i' n x).map (·.1)=i'::bT b.cW n:=by
 cases b with
 |box ty c=>simp only[dq,List.map_cons,BK.cW];rw[ke]
 |own ok=>simp[dq,BK.cW,bT]
theorem DN(b:BK){hh:Heap}{i i' n:Nat}{x:b.T}(hd:oq b hh i=some x):(dq b hh i i' n x).filterMap (·.2.1)=js b hh i:=by
 cases b with
 |box ty c =>
  obtain⟨cs,h1,h2⟩:=ql hd
  simp only[dq,js]
  rw[dr,nD h1,nC c n hh cs x h2,h1]
  rfl
 |own ok=>simp[dq,js]
theorem im:∀(bs:List BK) (hh:Heap) (is is':List Nat) (n:Nat) (x:ug bs),cE bs hh is=some x→is'.length=bs.length→dd (cc bs hh is is' n x)=aX bs is' n x
 |[],hh,is,is',n,x,_,hl=>by cases is'<;>simp[cc,aX,dd]
 |b::r,hh,[],is',n,x,hd,_=>by cases hd
 |b::r,hh,i::is,[],n,x,_,hl=>by simp at hl
 |b::r,hh,i::is,i'::is',n,x,hd,hl=>by
  obtain⟨_,h3⟩:=dV hd
  have ih:=im r hh is is' (n+16) x.2 h3 (by simpa using hl)
  simp only[cc,aX]
  rw[←ih,←Cn b (hh:=hh) (i:=i) x.1]
  simp[dd]
theorem fZ:∀(bs:List BK) (hh:Heap) (is is':List Nat) (n:Nat) (x:ug bs),cE bs hh is=some x→is'.length=bs.length→(cc bs hh is is' n x).map (·.1)=bK bs is' n
 |[],hh,is,is',n,x,_,hl=>by cases is'<;>simp[cc,bK]
 |b::r,hh,[],is',n,x,hd,_=>by cases hd
 |b::r,hh,i::is,[],n,x,_,hl=>by simp at hl
 |b::r,hh,i::is,i'::is',n,x,hd,hl=>by
  obtain⟨_,h3⟩:=dV hd
  have ih:=fZ r hh is is' (n+16) x.2 h3 (by simpa using hl)
  simp only[cc,bK,List.map_append]
  rw[ih,Ax,List.cons_append]
theorem jz:∀(bs:List BK) (hh:Heap) (is is':List Nat) (n:Nat) (x:ug bs),cE bs hh is=some x→is'.length=bs.length→(cc bs hh is is' n x).filterMap (·.2.1)=cF bs hh is
 |[],hh,is,is',n,x,_,hl=>by cases is'<;>cases is<;>simp[cc,cF]
 |b::r,hh,[],is',n,x,hd,_=>by cases hd
 |b::r,hh,i::is,[],n,x,_,hl=>by simp at hl
 |b::r,hh,i::is,i'::is',n,x,hd,hl=>by
  obtain⟨h1,h3⟩:=dV hd
  have ih:=jz r hh is is' (n+16) x.2 h3 (by simpa using hl)
  simp only[cc,cF]
  rw[List.filterMap_append,ih,DN b h1]
theorem qm{hd:Hp}{hh:Heap}:∀(cW:List CK) (n:Nat) (cs:List AV) (x:oP cW),cv cW hh cs=some x→(∀s∈eQ cW cs,hd s=hh.get s)→∀e∈dm cW n cs x,s6 Z ψ hd w h' ψ' e
 |[],n,cs,x,_,_,e,he=>by simp[dm]at he
 |.val k::r,n,cs,x,N5,hk,e,he=>by
  obtain⟨_,h2⟩:=nw N5
  have e0:eQ (.val k::r) cs=eQ r (cs.drop k.sz):=by cases cs<;>rfl
  rw[e0]at hk
  exact qm r (n+1) _ x.2 h2 hk e he
 |.own ok::r,n,cs,x,N5,hk,e,he=>by
  obtain⟨c,cs',rfl,h1,h2⟩:=kI N5
  simp only[dm,List.headD_cons,List.tail_cons]at he
  simp only[eQ]at hk
  rcases List.mem_cons.1 he with rfl|he
  ·rcases kJ h1 with⟨rfl,h3⟩|⟨id,rfl,h3⟩
   ·exact h3
   ·show hd id=some (.own ok x.1)
    rw[hk id (List.mem_append_left _ (by simp[nk])),h3]
  ·exact qm r (n+1) cs' x.2 h2 (fun s hs=>hk s (List.mem_append_right _ hs)) e he
theorem Gs{hd:Hp}{hh:Heap}(g:Good Z ψ hh.get w B0 O)(hz:∀b,Z b→Z' b)(b:BK){i i' n:Nat}{x:b.T}(N5:oq b hh i=some x)
  (hf:∀id g,AV.bp id∈xm b hh i→hh.get id≠none→ob (ψ id)=some g→Z' g) (hk:∀s∈js b hh i,hd s=hh.get s) (ia:∀e∈dq b hh i i' n x,h' e.1≠none→ψ' e.1=iY ψ e.2.1) :
  ∀e∈dq b hh i i' n x,s6 Z' ψ hd w h' ψ' e:=by
 intro e he
 cases b with
 |box ty c =>
  obtain⟨cs,h1,h2⟩:=ql N5
  simp only[xm,js,h1]at hf hk
  have RD:∀e∈dm c n cs x,h' e.1≠none→ψ' e.1=iY ψ e.2.1:=fun e he=>ia e (by simp only[dq];rw[nD h1];exact List.mem_cons_of_mem _ he)
  simp only[dq]at he
  rcases List.mem_cons.1 he with rfl|he
  ·refine⟨⟨cs,by rw[hk i List.mem_cons_self,h1]⟩,fun gg vs h4 h5=>?_⟩
   obtain⟨gg',gb,h6,h7,h8,_⟩:=g.box i ty cs h1
   rw[h6]at h4
   cases h4
   rw[h5]at h7
   cases h7
   exact qk g hz c n cs x _ h2 hf RD h8
  ·rw[nD h1]at he
   exact qm c n cs x h2 (fun s hs=>hk s (List.mem_cons_of_mem _ hs)) e he
 |own ok =>
  have h1:=A4 N5
  simp only[dq,List.mem_singleton]at he
  subst he
  show hd i=some (.own ok x)
  rw[hk i (by simp[js]),h1]
theorem kK{hd:Hp}{hh:Heap}(g:Good Z ψ hh.get w B0 O)(hz:∀b,Z b→Z' b):∀(bs:List BK) (is is':List Nat) (n:Nat) (x:ug bs),cE bs hh is=some x →
  (∀id b,AV.bp id∈fe bs hh is→hh.get id≠none→ob (ψ id)=some b→Z' b)→(∀s∈cF bs hh is,hd s=hh.get s)→(∀e∈cc bs hh is is' n x,h' e.1≠none→ψ' e.1=iY ψ e.2.1) →
  ∀e∈cc bs hh is is' n x,s6 Z' ψ hd w h' ψ' e
 |[],is,is',n,x,_,_,_,_,e,he=>by simp[cc]at he
 |b::r,[],is',n,x,N5,_,_,_,e,he=>by cases N5
 |b::r,i::is,[],n,x,_,_,_,_,e,he=>by simp[cc]at he
 |b::r,i::is,i'::is',n,x,N5,hf,hk,ia,e,he=>by
  obtain⟨h1,h3⟩:=dV N5
  simp only[fe,cF]at hf hk
  simp only[cc]at he ia
  rcases List.mem_append.1 he with he|he
  ·exact Gs g hz b h1 (fun id g bw=>hf id g (List.mem_append_left _ bw)) (fun s hs=>hk s (List.mem_append_left _ hs)) (fun e he=>ia e (List.mem_append_left _ he)) e he
  ·exact kK g hz r is is' (n+16) x.2 h3 (fun id b bw=>hf id b (List.mem_append_right _ bw)) (fun s hs=>hk s (List.mem_append_right _ hs)) (fun e he=>ia e (List.mem_append_right _ he)) e he
theorem qn{kept:List Nat}{jV:List AV}(hk:um kept jV=true):bP kept=true∧∀(hh:Heap) s,s∈kept→(cq hh jV).get s=hh.get s:=by
 unfold um at hk
 rw[Bool.and_eq_true]at hk
 exact⟨hk.1,fun hh s hs=>nq _ _ _ (qg (List.all_eq_true.1 hk.2 s hs))⟩
theorem uE{hh:Heap}{jV:List AV}{kept:List Nat}(g:Good Z ψ hh.get w B0 O)(hk:um kept jV=true){L:List vI}(hn:bP (L.map (·.1))=true)(hs:L.filterMap (·.2.1)=kept)
  (lq:∀e∈L,s6 (oL Z ψ hh.get jV) ψ (cq hh jV).get w (dd L).get (dN ψ L) e):Good (oL Z ψ hh.get jV) (dN ψ L) (dd L).get w B0 O :=
 (gF g jV).rename hn (by rw[hs];exact(qn hk).1) lq
theorem wK{L:List vI}(hn:bP (L.map (·.1))=true):∀e∈L,(dd L).get e.1≠none→dN ψ L e.1=iY ψ e.2.1:=fun⟨i,s,o⟩ he _=>gO hn he
theorem lG(A B:List vI):dd (A++B)=dd A++dd B:=by simp[dd]
theorem wL{hh:Heap}{i s i':Nat}{v:Value}(hr:ar Z ψ hh.get w (.ref i s 0 0) v)(hi:hh.get i≠none)(ia:h' i'≠none→ψ' i'=ψ i):ar Z' ψ' h' w' (.ref i' 0 0 0) v:=by
 simp only[ar]at hr ⊢
 obtain⟨a,rfl,ha⟩:=hr
 refine⟨a,rfl,fun hn=>?_⟩
 rw[ia hn,ha hi]
 simp
theorem nE{v:AV}{i:Nat}(h:AR v=some i):∃s,v=.ref i s 0 0:=by
 unfold AR at h
 split at h
 ·cases h;exact⟨_,rfl⟩
 ·cases h
theorem iq{hh:Heap}:∀(bs:List BK) (is:List Nat) (x:ug bs),cE bs hh is=some x→is.length=bs.length∧∀i∈is,hh.get i≠none
 |[],[],_,_=>⟨rfl,fun i hi=>by cases hi⟩
 |[],_::_,_,h=>by cases h
 |_::_,[],_,h=>by cases h
 |b::r,i::is,x,h=>by
  obtain⟨h1,h3⟩:=dV h
  obtain⟨h4,h5⟩:=iq r is x.2 h3
  refine⟨by simp[h4],fun j hj=>?_⟩
  rcases List.mem_cons.1 hj with rfl|hj
  ·cases b with
   |box ty c=>obtain⟨cs,h1,_⟩:=ql h1;rw[h1];simp
   |own ok=>rw[A4 h1];simp
  ·exact h5 j hj
theorem jA{hh:Heap}:∀(bs:List BK) (is is':List Nat) (n:Nat) (x:ug bs),is.length=bs.length→∀p∈is.zip is',∃o,(p.2,some p.1,o)∈cc bs hh is is' n x
 |[],is,is',n,x,hl,p,hp=>by
  cases is with
  |nil=>simp at hp
  |cons a r=>simp at hl
 |b::r,[],is',n,x,hl,p,hp=>by simp at hp
 |b::r,i::is,[],n,x,hl,p,hp=>by simp at hp
 |b::r,i::is,i'::is',n,x,hl,p,hp=>by
  simp only[List.zip_cons_cons]at hp
  simp only[cc]
  rcases List.mem_cons.1 hp with rfl|hp
  ·cases b with
   |box ty c=>exact⟨_,List.mem_append_left _ (by simp only[dq];exact List.mem_cons_self)⟩
   |own ok=>exact⟨_,List.mem_append_left _ (by simp only[dq];exact List.mem_cons_self)⟩
  ·obtain⟨o,ho⟩:=jA r is is' (n+16) x.2 (by simpa using hl) p hp
   exact⟨o,List.mem_append_right _ ho⟩
theorem H6{hd:Hp}{hh:Heap}{ok:OK}{c:AV}{xs:ok.T}(ho:dz hh ok c=some xs)(hk:∀s∈nk c,hd s=hh.get s){n:Nat}:s6 Z ψ hd w h' ψ' (n,(nk c).head?,.own ok xs):=by
 rcases kJ ho with⟨rfl,h3⟩|⟨id,rfl,h3⟩
 ·exact h3
 ·show hd id=some (.own ok xs)
  rw[hk id (by simp[nk]),h3]
end Go.Vs
namespace Go.Vs
variable {P:Program} {Z Z':Nat→Prop} {ψ ψ':Nat→Value} {h h':Hp} {w w':World} {B0:Nat} {O:Nat→Prop} {N:Nat→Prop}
def fk:Hp:=fun _=>none
def FV:Nat→Value:=fun _=>undef
def A5(g:aK)(x:Dp (jX g.ps)):List AV:=(aH g.ps [] 0 x).map (·.2)
def T9(P:Program)(f:FuncId)(g:aK)(x:g.A)(y:g.B):Prop :=
 ∀(Z:Nat→Prop) (w:World) (jB:List Value),(∀b,Z b→b<w.heap.size)→ai Z FV fk w (A5 g x.1) jB →
  Calls P (f%1000) jB.toArray w fun e w'=>∃v Z' ψ',e=.returned v∧(∀b,Z b→Z' b)∧(∀b,Z' b→Z b∨w.heap.size≤b)∧cG FV fk w w' ∧
   Good Z' ψ' (ag g.rs 3000 y.1).get w' w.heap.size (fun _=>False)∧ar Z' ψ' (ag g.rs 3000 y.1).get w' (dQ (aJ g.rs [] 2000 3000 y.1)) v
theorem vJ{p:PK}{ps:List PK}{vs:List AV}(hi:ck (p::ps) vs=some []):∃a r,vs=a::r∧ck ps r=some []∧(p≠.ref∧p≠.own)∧(∀f n,p=.Df f n→a=.fn f [])∧(∀n,p=.agg n→a=.agg []):=by
 cases vs with
 |nil=>cases p<;>simp[ck]at hi
 |cons a r =>
  cases p with
  |val k=>exact⟨a,r,rfl,by simpa only[ck] using hi,by simp,by simp,by simp⟩
  |ref =>
   simp only[ck]at hi
   split at hi<;>simp at hi
  |own =>
   cases a<;>simp only[ck]at hi<;>first|(cases hi;done)|skip
   split at hi<;>simp at hi
  |Df f n =>
   cases a<;>simp only[ck]at hi<;>first|(cases hi;done)|skip
   rename_i f' cap
   split at hi
   ·rename_i hc
    obtain⟨rfl,rM⟩:=hc
    split at hi
    ·rename_i a1 b1 h1 h2
     simp only[Option.some.injEq,List.append_eq_nil_iff]at hi
     obtain⟨rfl,rfl⟩:=hi
     have Rq:cap=[]:=by
      cases cap with
      |nil=>rfl
      |cons c cs=>simp only[iP]at h1;split at h1<;>simp at h1
     subst Rq
     exact⟨_,r,rfl,h2,by simp,by rintro f n ⟨⟩;rfl,by simp⟩
    ·cases hi
   ·cases hi
  |agg n =>
   cases a<;>simp only[ck]at hi<;>first|(cases hi;done)|skip
   rename_i cs
   split at hi
   ·split at hi
    ·rename_i a1 b1 h1 h2
     simp only[Option.some.injEq,List.append_eq_nil_iff]at hi
     obtain⟨rfl,rfl⟩:=hi
     have Jl:cs=[]:=by
      cases cs with
      |nil=>rfl
      |cons c cs=>cases c<;>simp only[nm]at h1<;>first|(cases h1;done)|(split at h1<;>simp at h1)
     subst Jl
     exact⟨_,r,rfl,h2,by simp,by simp,fun _ _=>rfl⟩
    ·cases hi
   ·cases hi
theorem vK{k:K}{ps:List PK}{hh:Heap}{a:AV}{r:List AV}{x:k.T×Dp (jX ps)}(hv:dL (.val k::ps) hh (a::r)=some x):eW k hh a=some x.1∧dL ps hh r=some x.2:=by
 have e:dL (.val k::ps) hh (a::r)=(match eW k hh a,dL ps hh r with
  |some x,some y=>some ((x,y):k.T×Dp (jX ps))
  |_,_=>none):=rfl
 rw[e]at hv
 clear e
 generalize eW k hh a=o1 at hv ⊢
 generalize dL ps hh r=o2 at hv ⊢
 cases o1 with
 |none=>cases hv
 |some x1 =>
  cases o2 with
  |none=>cases hv
  |some y1 =>
   have:=Option.some.inj hv
   subst this
   exact⟨rfl,rfl⟩
theorem xZ{hh:Heap}(g:Good Z ψ hh.get w B0 O)(hz:∀b,Z b→Z' b)(ps:List PK):∀(s:Nat) (vs:List AV) (us:List Value) (x:Dp (jX ps)),(∀v∈vs,∀id b,AV.bp id∈v.cells→hh.get id≠none→ob (ψ id)=some b→Z' b) →
  ck ps vs=some []→dL ps hh vs=some x→ai Z ψ hh.get w vs us→ai Z' FV fk w ((aH ps [] s x).map (·.2)) us:=by
 induction ps with
 |nil =>
  intro s vs us x _ hi hv hr
  cases vs with
  |nil=>simpa only[aH,List.map_nil,ai] using hr
  |cons a r=>simp[ck]at hi
 |cons p ps ih =>
  intro s vs us x hb hi hv hr
  obtain⟨a,r,rfl,sQ,OQ,RE,RF⟩:=vJ hi
  simp only[ai]at hr
  obtain⟨u,hM,rfl,h3,h4⟩:=hr
  cases p with
  |val k =>
   obtain⟨h1,h2⟩:=vK hv
   simp only[aH,List.map_cons,ai]
   exact⟨u,hM,rfl,qh (Z':=Z') (ψ':=FV) (h':=fk) g hz (hb a List.mem_cons_self) h1 h3,ih (s+1) r hM x.2 (fun v hv=>hb v (List.mem_cons_of_mem _ hv)) sQ h2 h4⟩
  |ref=>exact absurd rfl OQ.1
  |own=>exact absurd rfl OQ.2
  |Df f n =>
   have ha:=RE f n rfl
   subst ha
   have h2:dL ps hh r=some x:=hv
   simp only[aH,List.map_cons,ai,List.take_nil,List.map_nil,List.drop_nil]
   simp only[ar,ai]at h3 ⊢
   exact⟨u,hM,rfl,h3,ih (s+1) r hM x (fun v hv=>hb v (List.mem_cons_of_mem _ hv)) sQ h2 h4⟩
  |agg n =>
   have ha:=RF n rfl
   subst ha
   have h2:dL ps hh r=some x:=hv
   simp only[aH,List.map_cons,ai,List.take_nil,List.map_nil,List.drop_nil]
   simp only[ar,ai]at h3 ⊢
   exact⟨u,hM,rfl,h3,ih (s+1) r hM x (fun v hv=>hb v (List.mem_cons_of_mem _ hv)) sQ h2 h4⟩
theorem Good.Ua(g:Good Z ψ h w B0 O)(k:cG FV fk w w')(hz:∀b,Z b→Z' b)(KP:∀b,Z' b→Z b∨w.heap.size≤b)(YB:∀b,Z' b→b<w'.heap.size)
  (hold:∀id,¬N id→h' id=h id∧ψ' id=ψ id)
  (aR:∀id ty cs,h id=some (.box ty cs)→au (fun i=>¬N i) cs)
  (K9:∀id ty cs,N id→h' id=some (.box ty cs)→False)
  (mB:∀id ok xs,N id→h' id=some (.own ok xs)→iO Z' w' ok (ψ' id) xs)
  (xz:∀id b,N id→h' id≠none→ob (ψ' id)=some b→w.heap.size≤b∧¬Z' b)
  (Gc:∀id ly b,N id→N ly→h' id≠none→h' ly≠none→ob (ψ' id)=some b→ob (ψ' ly)=some b→id=ly) (hB:B0≤w.heap.size) :
  Next Z ψ h w B0 O N Z' ψ' h' w':=by
 have da:∀b,b<w.heap.size→w'.heap[b]? = w.heap[b]? := fun b hb=>k.block b hb (fun⟨id,h1,_⟩=>h1 rfl)
 have sm:b5 Z w w':=fun b hb=>da b (g.iS b hb)
 have qO:∀id,h' id≠none→(h id≠none∧ψ' id=ψ id)∨N id:=fun id bw=>by
  by_cases hn:N id
  ·exact .inr hn
  ·obtain⟨e1,e2⟩:=hold id hn
   exact .inl ⟨by rwa [e1]at bw,e2⟩
 have vA:∀id b,¬N id→h' id≠none→ob (ψ' id)=some b→Own ψ h b:=fun id b hn h1 h2=>by
  obtain⟨e1,e2⟩:=hold id hn
  exact⟨id,by rwa [e1]at h1,by rwa [e2]at h2⟩
 have kk:cG ψ h w w':=⟨k.os,k.tape,k.output,k.size,fun b hb _=>da b hb⟩
 refine⟨hz,fun b hb=>(KP b hb).imp (fun h=>h) .inr,kk,qO,⟨fun id ty cs hb=>?_,fun id ok xs hb=>?_,fun id b h1 h2=>?_,fun id ly b h1 h2 h3 h4=>?_,YB⟩⟩
 ·by_cases hn:N id
  ·exact(K9 id ty cs hn hb).elim
  ·obtain⟨e1,e2⟩:=hold id hn
   rw[e1]at hb
   obtain⟨gg,vs,h1,h2,h3,h4⟩:=g.box id ty cs hb
   exact⟨gg,vs,by rw[e2,h1],(da gg (Array.getElem?_eq_some_iff.1 h2).1).trans h2,h3.move hz sm (fun i hp bw=>(qO i bw).resolve_right hp) (aR id ty cs hb),h4⟩
 ·by_cases hn:N id
  ·exact mB id ok xs hn hb
  ·obtain⟨e1,e2⟩:=hold id hn
   rw[e1]at hb
   rw[e2]
   exact(g.row id ok xs hb).kept hz sm (fun gg Jh=>da gg (g.bA ⟨id,by rw[hb];simp,Jh⟩))
 ·by_cases hn:N id
  ·obtain⟨h3,h4⟩:=xz id b hn h1 h2
   exact⟨h4,.inl (by omega)⟩
  ·obtain⟨e1,e2⟩:=hold id hn
   rw[e1]at h1;rw[e2]at h2
   have h3:=g.live id b h1 h2
   refine⟨fun TX=>?_,h3.2⟩
   rcases KP b TX with h4|h4
   ·exact h3.1 h4
   ·have:=g.bA ⟨id,h1,h2⟩;omega
 ·by_cases hn:N id<;>by_cases Gd:N ly
  ·exact Gc id ly b hn Gd h1 h2 h3 h4
  ·have:=(xz id b hn h1 h3).1
   have:=g.bA (vA ly b Gd h2 h4);omega
  ·have:=(xz ly b Gd h2 h4).1
   have:=g.bA (vA id b hn h1 h3);omega
  ·obtain⟨e1,e2⟩:=hold id hn
   obtain⟨e3,e4⟩:=hold ly Gd
   rw[e1]at h1;rw[e2]at h3;rw[e3]at h2;rw[e4]at h4
   exact g.apart id ly b h1 h2 h3 h4
theorem bg{r:RK}{rs:List RK}(h:(r::rs).all RK.plain=true):rs.all RK.plain=true:=by simp only[List.all_cons,Bool.and_eq_true]at h;exact h.2
theorem Jw{c:List CK}{rs:List RK}(h:(RK.agg c::rs).all RK.plain=true):c.length≤16:=by
 simp only[List.all_cons,Bool.and_eq_true,RK.plain,decide_eq_true_eq]at h;exact h.1
theorem kL:∀(c:List CK) (a:Nat) (x:oP c) (i:Nat),i<a→(aL c a x).get i=none
 |[],_,_,_,_=>rfl
 |.val _::r,a,x,i,h=>by simp only[aL];exact kL r (a+1) x.2 i (by omega)
 |.own ok::r,a,x,i,h=>by simp only[aL,Heap.get];rw[if_neg (by omega)];exact kL r (a+1) x.2 i (by omega)
theorem rU:∀(c:List CK) (a:Nat) (x:oP c) (i:Nat),a+c.length≤i→(aL c a x).get i=none
 |[],_,_,_,_=>rfl
 |.val _::r,a,x,i,h=>by simp only[List.length_cons]at h;simp only[aL];exact rU r (a+1) x.2 i (by omega)
 |.own ok::r,a,x,i,h=>by simp only[List.length_cons]at h;simp only[aL,Heap.get];rw[if_neg (by omega)];exact rU r (a+1) x.2 i (by omega)
theorem rW:∀(c:List CK) (a b:Nat) (x:oP c) (j:Nat),(aL c a x).get (a+j)=(aL c b x).get (b+j)
 |[],_,_,_,_=>rfl
 |.val _::r,a,b,x,0=>by simp only[aL];rw[kL _ _ _ _ (by omega),kL _ _ _ _ (by omega)]
 |.own ok::r,a,b,x,0=>by simp[aL,Heap.get]
 |.val _::r,a,b,x,j+1=>by
  simp only[aL]
  rw[show a+(j+1)=a+1+j by omega,show b+(j+1)=b+1+j by omega]
  exact rW r (a+1) (b+1) x.2 j
 |.own ok::r,a,b,x,j+1=>by
  simp only[aL,Heap.get]
  rw[if_neg (by omega),if_neg (by omega),show a+(j+1)=a+1+j by omega,show b+(j+1)=b+1+j by omega]
  exact rW r (a+1) (b+1) x.2 j
theorem mg:∀(c:List CK) (a:Nat) (x:oP c) (i:Nat) (ty:TypeId) (cs:List AV),(aL c a x).get i≠some (.box ty cs)
 |[],_,_,_,_,_=>by simp[aL,Heap.get]
 |.val _::r,a,x,i,ty,cs=>by simp only[aL];exact mg r (a+1) x.2 i ty cs
 |.own ok::r,a,x,i,ty,cs=>by
  simp only[aL,Heap.get]
  split
  ·simp
  ·exact mg r (a+1) x.2 i ty cs
theorem po:∀(rs:List RK) (a:Nat) (y:kD rs) (i:Nat),rs.all RK.plain=true→i<a→(ag rs a y).get i=none
 |[],a,y,i,_,h=>rfl
 |.val k::r,a,y,i,hp,h=>by simp only[ag];exact po r (a+1) y.2 i (bg hp) (by omega)
 |.own ok::r,a,y,i,hp,h=>by simp only[ag,Heap.get];rw[if_neg (by omega)];exact po r (a+1) y.2 i (bg hp) (by omega)
 |.dM _ _::r,a,y,i,hp,h=>by simp only[ag];exact po r (a+1) y.2 i (bg hp) (by omega)
 |.agg c::r,a,y,i,hp,h=>by
  have h1:(aL c a y.1).get i=none:=kL c a y.1 i h
  have h2:=po r (a+1) y.2 i (bg hp) (by omega)
  show Heap.get (aL c a y.1++ag r (a+1) y.2) i=none
  rw[Heap.get_append,h1,h2]
theorem DO:∀(rs:List RK) (a:Nat) (y:kD rs) (i:Nat),rs.all RK.plain=true→a+rs.length+16≤i→(ag rs a y).get i=none
 |[],a,y,i,_,h=>rfl
 |.val k::r,a,y,i,hp,h=>by simp only[List.length_cons]at h;simp only[ag];exact DO r (a+1) y.2 i (bg hp) (by omega)
 |.own ok::r,a,y,i,hp,h=>by simp only[List.length_cons]at h;simp only[ag,Heap.get];rw[if_neg (by omega)];exact DO r (a+1) y.2 i (bg hp) (by omega)
 |.dM _ _::r,a,y,i,hp,h=>by simp only[List.length_cons]at h;simp only[ag];exact DO r (a+1) y.2 i (bg hp) (by omega)
 |.agg c::r,a,y,i,hp,h=>by
  simp only[List.length_cons]at h
  have hc:=Jw hp
  have h1:(aL c a y.1).get i=none:=rU c a y.1 i (by omega)
  have h2:=DO r (a+1) y.2 i (bg hp) (by omega)
  show Heap.get (aL c a y.1++ag r (a+1) y.2) i=none
  rw[Heap.get_append,h1,h2]
theorem DP:∀(rs:List RK) (a b:Nat) (y:kD rs) (j:Nat),rs.all RK.plain=true→(ag rs a y).get (a+j)=(ag rs b y).get (b+j)
 |[],_,_,_,_,_=>rfl
 |.val k::r,a,b,y,0,hp=>by simp only[ag];rw[po _ _ _ _ (bg hp) (by omega),po _ _ _ _ (bg hp) (by omega)]
 |.dM _ _::r,a,b,y,0,hp=>by simp only[ag];rw[po _ _ _ _ (bg hp) (by omega),po _ _ _ _ (bg hp) (by omega)]
 |.own ok::r,a,b,y,0,hp=>by simp[ag,Heap.get]
 |.val k::r,a,b,y,j+1,hp=>by
  simp only[ag]
  rw[show a+(j+1)=a+1+j by omega,show b+(j+1)=b+1+j by omega]
  exact DP r (a+1) (b+1) y.2 j (bg hp)
 |.dM _ _::r,a,b,y,j+1,hp=>by
  simp only[ag]
  rw[show a+(j+1)=a+1+j by omega,show b+(j+1)=b+1+j by omega]
  exact DP r (a+1) (b+1) y.2 j (bg hp)
 |.own ok::r,a,b,y,j+1,hp=>by
  simp only[ag,Heap.get]
  rw[if_neg (by omega),if_neg (by omega),show a+(j+1)=a+1+j by omega,show b+(j+1)=b+1+j by omega]
  exact DP r (a+1) (b+1) y.2 j (bg hp)
 |.agg c::r,a,b,y,j,hp=>by
  have h1:(aL c a y.1).get (a+j)=(aL c b y.1).get (b+j):=rW c a b y.1 j
  have h2:(ag r (a+1) y.2).get (a+j)=(ag r (b+1) y.2).get (b+j):=by
   cases j with
   |zero=>rw[po _ _ _ _ (bg hp) (by omega),po _ _ _ _ (bg hp) (by omega)]
   |succ j =>
    rw[show a+(j+1)=a+1+j by omega,show b+(j+1)=b+1+j by omega]
    exact DP r (a+1) (b+1) y.2 j (bg hp)
  show Heap.get (aL c a y.1++ag r (a+1) y.2) (a+j)=Heap.get (aL c b y.1++ag r (b+1) y.2) (b+j)
  rw[Heap.get_append,Heap.get_append,h1,h2]
theorem s8:∀(rs:List RK) (a:Nat) (y:kD rs) (i:Nat) (ty:TypeId) (cs:List AV),rs.all RK.plain=true→(ag rs a y).get i≠some (.box ty cs)
 |[],_,_,_,_,_,_=>by simp[ag,Heap.get]
 |.val k::r,a,y,i,ty,cs,hp=>by simp only[ag];exact s8 r (a+1) y.2 i ty cs (bg hp)
 |.dM _ _::r,a,y,i,ty,cs,hp=>by simp only[ag];exact s8 r (a+1) y.2 i ty cs (bg hp)
 |.own ok::r,a,y,i,ty,cs,hp=>by
  simp only[ag,Heap.get]
  split
  ·simp
  ·exact s8 r (a+1) y.2 i ty cs (bg hp)
 |.agg c::r,a,y,i,ty,cs,hp=>by
  have h1:(aL c a y.1).get i≠some (.box ty cs):=mg c a y.1 i ty cs
  show Heap.get (aL c a y.1++ag r (a+1) y.2) i≠some (.box ty cs)
  rw[Heap.get_append]
  split
  ·rename_i o ho;rw[ho]at h1;exact h1
  ·exact s8 r (a+1) y.2 i ty cs (bg hp)
theorem kM(p:Nat→Prop):∀(k:K) (x:k.T),au p (enc k x)
 |.int _,_=>by simp only[enc,au,aA];exact⟨trivial,trivial⟩
 |.bool,_=>by simp only[enc,au,aA];exact⟨trivial,trivial⟩
 |.str,_=>by simp only[enc,au,aA];exact⟨trivial,trivial⟩
 |.sl _,_=>by simp only[enc,au,aA];exact⟨trivial,trivial⟩
 |.mp _ _,_=>by simp only[enc,au,aA];exact⟨trivial,trivial⟩
 |.pair a b,x=>by
  simp only[enc]
  have h1:=kM p a x.1
  have h2:=kM p b x.2
  revert h1
  generalize enc a x.1=l
  induction l with
  |nil=>intro _;exact h2
  |cons c r ih=>intro h;simp only[List.cons_append,au]at h ⊢;exact⟨h.1,ih h.2⟩
 |.one k,x=>by simp only[enc];exact kM p k x
theorem mD(p:Nat→Prop):∀(k:K) (x:k.T),aA p (bS k x)
 |.int _,_=>by simp only[bS,aA]
 |.bool,_=>by simp only[bS,aA]
 |.str,_=>by simp only[bS,aA]
 |.sl _,_=>by simp only[bS,aA]
 |.mp _ _,_=>by simp only[bS,aA]
 |.pair a b,x=>by simp only[bS,aA];exact kM p (.pair a b) x
 |.one k,x=>by simp only[bS,aA];exact kM p (.one k) x
theorem Lq{k:K}{x:k.T}{v:Value}(hr:ar Z ψ h w (bS k x) v):ar Z ψ' h' w (bS k x) v :=
 hr.move (p:=fun _=>False) (fun _ h=>h) (b5.refl _ _) (fun _ hp _=>hp.elim) (mD _ k x)
theorem OR(r:RK)(rs:List RK)(b:Nat)(y:kD (r::rs))(i:Nat)(hi:(ag rs (b+1) y.2).get i≠none):(ag (r::rs) b y).get i≠none:=by
 cases r with
 |val k=>exact hi
 |dM _ _=>exact hi
 |own ok=>simp only[ag,Heap.get];split<;>simp_all
 |agg c =>
  show Heap.get (aL c b y.1++ag rs (b+1) y.2) i≠none
  rw[Heap.get_append]
  split
  ·simp
  ·exact hi
theorem Gt(c:List CK):∀{H:Hp} {a b:Nat} {x:oP c} {vs:List Value},(∀j,(aL c b x).get (b+j)≠none→h' (b+j)≠none→H (a+j)≠none∧ψ' (b+j)=ψ (a+j)) →
  ai Z ψ H w (aw c a x) vs→ai Z ψ' h' w (aw c b x) vs:=by
 induction c with
 |nil=>intro H a b x vs _ hr;simpa only[aw,ai] using hr
 |cons k c ih =>
  intro H a b x vs hH hr
  cases k with
  |val k =>
   have qc:ai Z ψ H w (enc k x.1++aw c (a+1) x.2) vs:=hr
   obtain⟨us,ws,rfl,h1,h2⟩:=qc.split
   show ai Z ψ' h' w (enc k x.1++aw c (b+1) x.2) (us++ws)
   refine(h1.move (p:=fun _=>False) (fun _ h=>h) (b5.refl _ _) (fun _ hp _=>hp.elim) (kM _ k x.1)).append (ih (fun j hj aU=>?_) h2)
   have:=hH (j+1)
   rw[show b+(j+1)=b+1+j by omega,show a+(j+1)=a+1+j by omega]at this
   exact this hj aU
  |own ok =>
   have qc:ai Z ψ H w (.bp a::aw c (a+1) x.2) vs:=hr
   simp only[ai]at qc
   obtain⟨v,us,rfl,h1,h2⟩:=qc
   show ai Z ψ' h' w (.bp b::aw c (b+1) x.2) (v::us)
   simp only[ai]
   refine⟨v,us,rfl,?_,ih (fun j hj aU=>?_) h2⟩
   ·simp only[ar]at h1 ⊢
    refine⟨h1.1,fun aU=>?_⟩
    obtain⟨h3,h4⟩:=hH 0 (by simp[aL,Heap.get]) aU
    rw[Nat.add_zero,Nat.add_zero]at h4
    rw[h4];exact h1.2 h3
   ·have:=hH (j+1)
    rw[show b+(j+1)=b+1+j by omega,show a+(j+1)=a+1+j by omega]at this
    refine this ?_ aU
    have e:(aL (.own ok::c) b x).get (b+1+j)=(aL c (b+1) x.2).get (b+1+j):=by simp only[aL,Heap.get];rw[if_neg (by omega)]
    rw[e];exact hj
theorem Lr(rs:List RK):∀{H:Hp} {n m a b:Nat} {y:kD rs} {vs:List Value},rs.all RK.plain=true→(∀j,(ag rs b y).get (b+j)≠none→h' (b+j)≠none→H (a+j)≠none∧ψ' (b+j)=ψ (a+j)) →
  ai Z ψ H w (aJ rs [] n a y) vs→ai Z ψ' h' w (aJ rs [] m b y) vs:=by
 induction rs with
 |nil=>intro H n m a b y vs _ _ hr;simpa only[aJ,ai] using hr
 |cons r rs ih =>
  intro H n m a b y vs hp hH hr
  have hpa:=hp
  simp only[List.all_cons,Bool.and_eq_true]at hp
  have RG:∀j,(ag rs (b+1) y.2).get (b+1+j)≠none→h' (b+1+j)≠none→H (a+1+j)≠none∧ψ' (b+1+j)=ψ (a+1+j):=fun j hj aU=>by
   have:=hH (j+1)
   rw[show b+(j+1)=b+1+j by omega,show a+(j+1)=a+1+j by omega]at this
   exact this (OR _ _ _ _ _ hj) aU
  cases r with
  |val k =>
   simp only[aJ,ai]at hr ⊢
   obtain⟨v,us,rfl,h1,h2⟩:=hr
   exact⟨v,us,rfl,Lq h1,ih hp.2 RG h2⟩
  |own ok =>
   simp only[aJ,ai]at hr ⊢
   obtain⟨v,us,rfl,h1,h2⟩:=hr
   refine⟨v,us,rfl,?_,ih hp.2 RG h2⟩
   simp only[ar]at h1 ⊢
   refine⟨h1.1,fun aU=>?_⟩
   obtain⟨h3,h4⟩:=hH 0 (by simp[ag,Heap.get]) aU
   rw[Nat.add_zero,Nat.add_zero]at h4
   rw[h4];exact h1.2 h3
  |dM b c=>simp[RK.plain]at hp
  |agg c =>
   simp only[aJ,ai]at hr ⊢
   obtain⟨v,us,rfl,h1,h2⟩:=hr
   refine⟨v,us,rfl,?_,ih hp.2 RG h2⟩
   simp only[ar]at h1 ⊢
   obtain⟨ws,rfl,h3⟩:=h1
   refine⟨ws,rfl,Gt c (fun j hj aU=>hH j ?_ aU) h3⟩
   show Heap.get (aL c b y.1++ag rs (b+1) y.2) (b+j)≠none
   rw[Heap.get_append]
   split
   ·simp
   ·rename_i vL;exact absurd vL hj
theorem rX{Qt Qu:Nat→Value}{Ub Uc:Hp}{Ud Ue:Nat→Prop}{l l':List AV}{V:Value}(hl:l.length=l'.length)(hm:∀vs,ai Ud Qt Ub w l vs→ai Ue Qu Uc w l' vs)(hr:ar Ud Qt Ub w (dQ l) V):ar Ue Qu Uc w (dQ l') V:=by
 match l,l',hl with
 |[a],[a'],_ =>
  simp only[dQ]at hr ⊢
  have:=hm [V] (by simp only[ai];exact⟨V,[],rfl,hr,rfl⟩)
  simp only[ai]at this
  obtain⟨v,us,e,h1,_⟩:=this
  cases e;exact h1
 |[],[],_ =>
  simp only[dQ,ar]at hr ⊢
  obtain⟨us,rfl,h1⟩:=hr
  exact⟨us,rfl,hm _ h1⟩
 |a::b::r,a'::b'::r',_ =>
  simp only[dQ,ar]at hr ⊢
  obtain⟨us,rfl,h1⟩:=hr
  exact⟨us,rfl,hm _ h1⟩
theorem ju(rs:List RK):∀(ids:List Nat) (n m:Nat) (y:kD rs),(aJ rs ids n m y).length=rs.length:=by
 induction rs with
 |nil=>intros;rfl
 |cons r rs ih=>intro ids n m y;cases r<;>simp[aJ,ih]
theorem wM:∀(k:K) (x:k.T) (r:List AV),dec k (enc k x++r)=some (x,r)
 |.int _,x,r=>by simp only[enc,List.cons_append,List.nil_append,dec,B7,if_true];rfl
 |.bool,x,r=>by simp only[enc,List.cons_append,List.nil_append,dec,wD];rfl
 |.str,x,r=>by simp only[enc,List.cons_append,List.nil_append,dec,B8];rfl
 |.sl k,x,r=>by simp only[enc,List.cons_append,List.nil_append,dec,HT];rfl
 |.mp kk vk,x,r=>by simp only[enc,List.cons_append,List.nil_append,dec,HU];rfl
 |.pair a b,x,r=>by
  simp only[enc,dec,List.append_assoc]
  rw[wM a x.1 (enc b x.2++r)]
  simp only[]
  rw[wM b x.2 r]
  rfl
 |.one k,x,r=>by simp only[enc,dec];exact wM k x r
theorem rY(k:K)(x:k.T):dh k (enc k x)=some x:=by
 unfold dh
 have:=wM k x []
 rw[List.append_nil]at this
 rw[this]
theorem rZ:∀(k:K) (x:k.T),(bS k x).cells=enc k x
 |.int _,_=>rfl
 |.bool,_=>rfl
 |.str,_=>rfl
 |.sl _,_=>rfl
 |.mp _ _,_=>rfl
 |.pair a b,x=>rfl
 |.one k,x=>rfl
theorem H7:∀(k:K) (x:k.T),bS k x≠.no
 |.int _,_=>by simp[bS]
 |.bool,_=>by simp[bS]
 |.str,_=>by simp[bS]
 |.sl _,_=>by simp[bS]
 |.mp _ _,_=>by simp[bS]
 |.pair a b,x=>by simp[bS]
 |.one k,x=>by simp[bS]
theorem ya:∀(k:K) (x:k.T),(bS k x).isAgg=k.isAgg
 |.int _,_=>rfl
 |.bool,_=>rfl
 |.str,_=>rfl
 |.sl _,_=>rfl
 |.mp _ _,_=>rfl
 |.pair a b,x=>rfl
 |.one k,x=>rfl
theorem Jx{k:K}{x:k.T}{v:Value}(hr:ar Z ψ h w (bS k x) v):ax Z w k x v.cells.toList:=by
 have h1:=hr.cells (H7 k x)
 rw[rZ]at h1
 exact di (rY k x) h1
theorem Gu{k:K}{x:k.T}{v:Value}(hr:ar Z ψ h w (bS k x) v):(k.isAgg=true→∃vs,v=.agg vs)∧(k.isAgg=false→v.cells=#[v]) :=
 ⟨fun h=>Li (by rw[ya];exact h) hr,fun h=>AZ (by rw[ya];exact h) (H7 k x) hr⟩
theorem Ls(rs:List RK):∀{H:Hp} {n m a b:Nat} {y:kD rs} {vs:List Value},rs.all RK.flat=true→rs.all RK.plain=true→ai Z ψ H w (aJ rs [] n a y) vs→ai Z' ψ' h' w' (aJ rs [] m b y) vs:=by
 induction rs with
 |nil=>intro H n m a b y vs _ _ hr;simpa only[aJ,ai] using hr
 |cons r rs ih =>
  intro H n m a b y vs hf hp hr
  simp only[List.all_cons,Bool.and_eq_true]at hp hf
  cases r with
  |val k =>
   simp only[aJ,ai]at hr ⊢
   obtain⟨v,us,rfl,h1,h2⟩:=hr
   have hk:k.flat=true:=hf.1
   obtain⟨h3,h4⟩:=Gu h1
   exact⟨v,us,rfl,kG ((Jx h1).flat hk) h3 h4,ih hf.2 hp.2 h2⟩
  |own ok=>simp[RK.flat]at hf
  |dM b c=>simp[RK.plain]at hp
  |agg c=>simp[RK.flat]at hf
theorem Jy(rs:List RK):∀(a:Nat) (y:kD rs),rs.all RK.flat=true→rs.all RK.plain=true→ag rs a y=[]:=by
 induction rs with
 |nil=>intros;rfl
 |cons r rs ih =>
  intro a y hf hp
  simp only[List.all_cons,Bool.and_eq_true]at hp hf
  cases r with
  |val k=>simp only[ag];exact ih _ _ hf.2 hp.2
  |own ok=>simp[RK.flat]at hf
  |dM b c=>simp[RK.plain]at hp
  |agg c=>simp[RK.flat]at hf
theorem ta:∀(ps:List PK) (vs:List AV),ck ps vs=some []→∀v∈vs,∀id,AV.bp id∈v.cells→AV.bp id∈cU ps vs
 |[],vs,hi,v,hv,id,bw=>by
  cases vs with
  |nil=>cases hv
  |cons a r=>simp[ck]at hi
 |p::ps,vs,hi,v,hv,id,bw=>by
  obtain⟨a,r,rfl,sQ,OQ,RE,RF⟩:=vJ hi
  rcases List.mem_cons.1 hv with rfl|hv
  ·cases p with
   |val k=>simp only[cU];exact List.mem_append_left _ bw
   |ref=>exact absurd rfl OQ.1
   |own=>exact absurd rfl OQ.2
   |Df f n=>rw[RE f n rfl]at bw;simp[AV.cells]at bw
   |agg n=>rw[RF n rfl]at bw;simp[AV.cells]at bw
  ·have:=ta ps r sQ v hv id bw
   cases p with
   |val k=>simp only[cU];exact List.mem_append_right _ this
   |ref=>exact absurd rfl OQ.1
   |own=>exact absurd rfl OQ.2
   |Df f n=>simpa only[cU] using this
   |agg n=>simpa only[cU] using this
theorem yc(f:FuncId)(vs:List AV):rJ f vs%1000=f%1000:=by
 induction vs with
 |nil=>rfl
 |cons v r ih =>
  cases v with
  |fn g cap=>exact Nat.add_mul_mod_self_left f 1000 _
  |_=>simp only[rJ];exact ih
theorem uF{Sg:FuncId→Option aK}(f:FuncId)(vs:List AV):keyOf Sg f vs%1000=f%1000:=by
 unfold keyOf
 split
 ·exact(Nat.add_mul_mod_self_right (rJ f vs) 500 1000).trans (yc f vs)
 ·exact yc f vs
theorem Next.imp{N':Nat→Prop}(n:Next Z ψ h w B0 O N Z' ψ' h' w')(hi:∀i,N i→N' i):Next Z ψ h w B0 O N' Z' ψ' h' w' :=
 ⟨n.eR,n.dJ,n.keep,fun id bw=>(n.ids id bw).imp (fun h=>h) (hi id),n.dx⟩
theorem uG{rs:List RK}{y:kD rs}(hp:rs.all RK.plain=true){id nb:Nat}(g:Good Z ψ h w B0 O)(hB:B0≤w.heap.size)
  (aR:∀i ty cs,h i=some (.box ty cs)→au (fun i=>¬N i) cs) (hN:∀j,j<rs.length+16→N (id+j))
  (k:cG FV fk w w') (hz:∀b,Z b→Z' b) (KP:∀b,Z' b→Z b∨w.heap.size≤b) (gc:Good Z' ψ' (ag rs 3000 y).get w' w.heap.size (fun _=>False))
  {v:Value} (hr:ar Z' ψ' (ag rs 3000 y).get w' (dQ (aJ rs [] 2000 3000 y)) v) :
  ∃r8,Next Z ψ h w B0 O N Z' r8 (fun i=>match (ag rs id y).get i with|some o=>some o|none=>h i) w' ∧
   ar Z' r8 (fun i=>match (ag rs id y).get i with|some o=>some o|none=>h i) w' (dQ (aJ rs [] nb id y)) v:=by
 classical
 let H:Hp:=fun i=>match (ag rs id y).get i with|some o=>some o|none=>h i
 let NN:Nat→Prop:=fun i=>(ag rs id y).get i≠none
 let r8:Nat→Value:=fun i=>if NN i then ψ' (3000+(i-id)) else ψ i
 have XO:∀i,NN i→∃j,j<rs.length+16∧i=id+j:=fun i hi=>by
  have h1:¬i<id:=fun aG=>hi (po rs id y i hp aG)
  have h2:¬id+rs.length+16≤i:=fun Qv=>hi (DO rs id y i hp Qv)
  exact⟨i-id,by omega,by omega⟩
 have vM:∀i,NN i→(ag rs 3000 y).get (3000+(i-id))=(ag rs id y).get i:=fun i hi=>by
  obtain⟨j,_,rfl⟩:=XO i hi
  rw[show id+j-id=j by omega]
  exact DP rs 3000 id y j hp
 have hH:∀i,NN i→H i=(ag rs 3000 y).get (3000+(i-id)):=fun i hi=>by
  rw[vM i hi]
  show(match (ag rs id y).get i with|some o=>some o|none=>h i)=_
  cases e:(ag rs id y).get i with
  |none=>exact absurd e hi
  |some o=>rfl
 have ia:∀i,NN i→r8 i=ψ' (3000+(i-id)):=fun i hi=>if_pos hi
 have Uf:∀i,NN i→N i:=fun i hi=>by obtain⟨j,hj,rfl⟩:=XO i hi;exact hN j hj
 have n:=Good.Ua (N:=NN) (ψ':=r8) (h':=H) g k hz KP gc.iS
  (fun i hi=>by
   have e:(ag rs id y).get i=none:=Classical.not_not.1 hi
   refine⟨?_,if_neg hi⟩
   show(match (ag rs id y).get i with|some o=>some o|none=>h i)=h i
   rw[e])
  (fun i ty cs hb=>(aR i ty cs hb).imp (fun i hi YC=>hi (Uf i YC)))
  (fun i ty cs hi hb=>by rw[hH i hi]at hb;exact s8 _ _ _ _ _ _ hp hb)
  (fun i ok xs hi hb=>by rw[hH i hi]at hb;rw[ia i hi];exact gc.row _ _ _ hb)
  (fun i b hi h1 h2=>by
   rw[hH i hi]at h1;rw[ia i hi]at h2
   obtain⟨h3,h4⟩:=gc.live _ b h1 h2
   exact⟨h4.resolve_right (fun h=>h),h3⟩)
  (fun i i' b hi sQ h1 h2 h3 h4=>by
   rw[hH i hi]at h1;rw[hH i' sQ]at h2;rw[ia i hi]at h3;rw[ia i' sQ]at h4
   have:=gc.apart _ _ b h1 h2 h3 h4
   obtain⟨j,_,rfl⟩:=XO i hi
   obtain⟨j',_,rfl⟩:=XO i' sQ
   omega) hB
 refine⟨r8,n.imp Uf,?_⟩
 refine rX (by rw[ju,ju]) (fun vs qe=>?_) hr
 refine Lr (h':=H) (ψ':=r8) rs (n:=2000) (a:=3000) hp (fun j hn aU=>?_) qe
 replace hn:NN (id+j):=hn
 have e1:=hH _ hn
 have e2:=ia _ hn
 rw[show id+j-id=j by omega]at e1 e2
 exact⟨by rw[←e1];exact aU,e2⟩
def ir(P:Program)(f:FuncId):Prop:=∃fn,P.funcs[f]? = some fn∧(fn.name== "runtime.NumGoroutine")=false∧fn.body.isSome=true
theorem iu{f:FuncId}(hc:ir P f)(args:Array Value):(callFunc f args).run P w=.ok (.enter f args) w:=by
 obtain⟨fn,h1,h2,h3⟩:=hc
 obtain⟨c,hc⟩:=Option.isSome_iff_exists.1 h3
 simp[callFunc,h1,hc,show ¬fn.name= "runtime.NumGoroutine" by simpa using h2]
def Qw(P:Program)(ρC:Operand→Value)(o:Oper)(Z:Nat→Prop)(ψ:Nat→Value)(h:Hp)(w:World)(B0:Nat)(O N:Nat→Prop)(e:bm):Prop :=
 ∃f args,(execOp ρC o).run P w=.ok (.enter f args) w∧Calls P f args w fun en w'=>∃V Z' ψ',en=.returned V∧Next Z ψ h w B0 O N Z' ψ' (e.hp h) w'∧ar Z' ψ' (e.hp h) w' e.v V
end Go.Vs
namespace Go.Vs
variable {P:Program} {Z Z':Nat→Prop} {ψ ψ':Nat→Value} {h h':Hp} {w w':World} {B0:Nat} {O:Nat→Prop} {N:Nat→Prop}
def cj:(rs:List RK)→List AV→Nat→kD rs→List vI
 |[],_,_,_=>[]
 |.own ok::r,vs,m,x=>(m,(nk (vs.headD .no)).head?,.own ok x.1)::cj r vs.tail (m+1) x.2
 |.val _::r,vs,m,x=>cj r vs.tail (m+1) x.2
 |.dM _ _::r,vs,m,x=>cj r vs.tail (m+1) x.2
 |.agg c::r,vs,m,x=>dm c m (vs.headD .no).cells x.1++cj r vs.tail (m+1) x.2
theorem fH:∀(rs:List RK) (vs:List AV) (m:Nat) (x:kD rs),dd (cj rs vs m x)=ag rs m x
 |[],_,_,_=>rfl
 |.own ok::r,vs,m,x=>by simp only[cj,ag];rw[←fH r vs.tail (m+1) x.2];rfl
 |.val _::r,vs,m,x=>fH r vs.tail (m+1) x.2
 |.dM _ _::r,vs,m,x=>fH r vs.tail (m+1) x.2
 |.agg c::r,vs,m,x=>by
  have e1:dd (dm c m (vs.headD .no).cells x.1)=aL c m x.1:=lF c m _ x.1
  have e2:=fH r vs.tail (m+1) x.2
  simp only[cj,ag]
  rw[lG,e2]
  exact congrArg (·++_) e1
theorem eJ:∀(rs:List RK) (vs:List AV) (m:Nat) (x:kD rs),(cj rs vs m x).map (·.1)=aY rs m
 |[],_,_,_=>rfl
 |.own ok::r,vs,m,x=>by simp only[cj,aY,List.map_cons];rw[eJ r vs.tail (m+1) x.2]
 |.val _::r,vs,m,x=>eJ r vs.tail (m+1) x.2
 |.dM _ _::r,vs,m,x=>eJ r vs.tail (m+1) x.2
 |.agg c::r,vs,m,x=>by
  have e1:(dm c m (vs.headD .no).cells x.1).map (·.1)=bT c m:=ke c m _ x.1
  have e2:=eJ r vs.tail (m+1) x.2
  simp only[cj,aY,List.map_append]
  rw[e2]
  exact congrArg (·++_) e1
theorem nF{bs:List BK}{k:K}{r:List RK}{hh:Heap}{ids:List Nat}{vs:List AV}{x:kD (.val k::r)}(hd:bq bs (.val k::r) hh ids vs=some x):∃v gb,vs=v::gb∧eW k hh v=some x.1∧bq bs r hh ids gb=some x.2:=by
 cases vs with
 |nil=>cases hd
 |cons v vs =>
  have e:bq bs (.val k::r) hh ids (v::vs)=(match eW k hh v,bq bs r hh ids vs with
   |some x,some y=>some ((x,y):k.T×kD r)
   |_,_=>none):=rfl
  rw[e]at hd
  clear e
  refine⟨v,vs,rfl,?_⟩
  generalize eW k hh v=o1 at hd ⊢
  generalize bq bs r hh ids vs=o2 at hd ⊢
  cases o1 with
  |none=>cases hd
  |some x1 =>
   cases o2 with
   |none=>cases hd
   |some y1=>have:=Option.some.inj hd;subst this;exact⟨rfl,rfl⟩
theorem nG{bs:List BK}{ok:OK}{r:List RK}{hh:Heap}{ids:List Nat}{vs:List AV}{x:kD (.own ok::r)}(hd:bq bs (.own ok::r) hh ids vs=some x):∃v gb,vs=v::gb∧dz hh ok v=some x.1∧bq bs r hh ids gb=some x.2:=by
 cases vs with
 |nil=>cases hd
 |cons v vs =>
  have e:bq bs (.own ok::r) hh ids (v::vs)=(match dz hh ok v,bq bs r hh ids vs with
   |some x,some y=>some ((x,y):ok.T×kD r)
   |_,_=>none):=rfl
  rw[e]at hd
  clear e
  refine⟨v,vs,rfl,?_⟩
  generalize dz hh ok v=o1 at hd ⊢
  generalize bq bs r hh ids vs=o2 at hd ⊢
  cases o1 with
  |none=>cases hd
  |some x1 =>
   cases o2 with
   |none=>cases hd
   |some y1=>have:=Option.some.inj hd;subst this;exact⟨rfl,rfl⟩
theorem lH{bs:List BK}{b:Nat}{alts:List (Nat×Nat×Nat)}{r:List RK}{hh:Heap}{ids:List Nat}{vs:List AV}{x:kD (.dM b alts::r)}(hd:bq bs (.dM b alts::r) hh ids vs=some x):∃v gb,vs=v::gb∧lX bs hh ids b alts v=some x.1∧bq bs r hh ids gb=some x.2:=by
 cases vs with
 |nil=>cases hd
 |cons v vs =>
  have e:bq bs (.dM b alts::r) hh ids (v::vs)=(match lX bs hh ids b alts v,bq bs r hh ids vs with
   |some x,some y=>some ((x,y):Option (Fin alts.length×Nat)×kD r)
   |_,_=>none):=rfl
  rw[e]at hd
  clear e
  refine⟨v,vs,rfl,?_⟩
  generalize lX bs hh ids b alts v=o1 at hd ⊢
  generalize bq bs r hh ids vs=o2 at hd ⊢
  cases o1 with
  |none=>cases hd
  |some x1 =>
   cases o2 with
   |none=>cases hd
   |some y1=>have:=Option.some.inj hd;subst this;exact⟨rfl,rfl⟩
theorem nH{bs:List BK}{c:List CK}{r:List RK}{hh:Heap}{ids:List Nat}{vs:List AV}{x:kD (.agg c::r)}(hd:bq bs (.agg c::r) hh ids vs=some x):∃cs gb,vs=.agg cs::gb∧cv c hh cs=some x.1∧bq bs r hh ids gb=some x.2:=by
 cases vs with
 |nil=>cases hd
 |cons v vs =>
  have e:bq bs (.agg c::r) hh ids (v::vs)=(match xn c hh v,bq bs r hh ids vs with
   |some x,some y=>some ((x,y):oP c×kD r)
   |_,_=>none):=rfl
  rw[e]at hd
  clear e
  have key:xn c hh v=some x.1∧bq bs r hh ids vs=some x.2:=by
   generalize xn c hh v=o1 at hd ⊢
   generalize bq bs r hh ids vs=o2 at hd ⊢
   cases o1 with
   |none=>cases hd
   |some x1 =>
    cases o2 with
    |none=>cases hd
    |some y1=>have:=Option.some.inj hd;subst this;exact⟨rfl,rfl⟩
  obtain⟨h1,h2⟩:=key
  unfold xn at h1
  split at h1
  ·exact⟨_,vs,rfl,h1,h2⟩
  ·cases h1
theorem gh{bs:List BK}{hh:Heap}{ids:List Nat}:∀(rs:List RK) (vs:List AV) (x:kD rs),bq bs rs hh ids vs=some x→vs.length=rs.length
 |[],[],_,_=>rfl
 |[],_::_,_,h=>by cases h
 |.val k::r,vs,x,h=>by obtain⟨v,gb,rfl,_,h2⟩:=nF h;simp[gh r gb x.2 h2]
 |.own ok::r,vs,x,h=>by obtain⟨v,gb,rfl,_,h2⟩:=nG h;simp[gh r gb x.2 h2]
 |.dM _ _::r,vs,x,h=>by obtain⟨v,gb,rfl,_,h2⟩:=lH h;simp[gh r gb x.2 h2]
 |.agg _::r,vs,x,h=>by obtain⟨v,gb,rfl,_,h2⟩:=nH h;simp[gh r gb x.2 h2]
theorem gP{bs:List BK}{hh:Heap}{ids:List Nat}:∀(rs:List RK) (vs:List AV) (m:Nat) (x:kD rs),bq bs rs hh ids vs=some x→(cj rs vs m x).filterMap (·.2.1)=dp rs vs
 |[],vs,_,_,_=>by cases vs<;>rfl
 |.own ok::r,vs,m,x,h=>by
  obtain⟨v,gb,rfl,_,h2⟩:=nG h
  simp only[cj,dp,List.headD_cons,List.tail_cons]
  rw[dr,gP r gb (m+1) x.2 h2]
  simp only[]
  rw[uD]
 |.val k::r,vs,m,x,h=>by
  obtain⟨v,gb,rfl,_,h2⟩:=nF h
  simp only[cj,dp,List.tail_cons]
  exact gP r gb (m+1) x.2 h2
 |.dM _ _::r,vs,m,x,h=>by
  obtain⟨v,gb,rfl,_,h2⟩:=lH h
  simp only[cj,dp,List.tail_cons]
  exact gP r gb (m+1) x.2 h2
 |.agg c::r,vs,m,x,h=>by
  obtain⟨cs,gb,rfl,h1,h2⟩:=nH h
  simp only[cj,dp,List.headD_cons,List.tail_cons,AV.cells]
  have e1:(dm c m cs x.1).filterMap (·.2.1)=eQ c cs:=nC c m hh cs x.1 h1
  rw[List.filterMap_append,gP r gb (m+1) x.2 h2]
  exact congrArg (·++_) e1
theorem jc{hd:Hp}{bs:List BK}{hh:Heap}{ids:List Nat}:∀(rs:List RK) (vs:List AV) (m:Nat) (x:kD rs),bq bs rs hh ids vs=some x→(∀s∈dp rs vs,hd s=hh.get s)→∀e∈cj rs vs m x,s6 Z ψ hd w h' ψ' e
 |[],_,_,_,_,_,e,he=>by simp[cj]at he
 |.own ok::r,vs,m,x,h,hk,e,he=>by
  obtain⟨v,gb,rfl,h1,h2⟩:=nG h
  simp only[cj,dp,List.headD_cons,List.tail_cons]at he hk
  rcases List.mem_cons.1 he with rfl|he
  ·exact H6 h1 fun s hs=>hk s (List.mem_append_left _ hs)
  ·exact jc r gb (m+1) x.2 h2 (fun s hs=>hk s (List.mem_append_right _ hs)) e he
 |.val k::r,vs,m,x,h,hk,e,he=>by
  obtain⟨v,gb,rfl,h1,h2⟩:=nF h
  exact jc r gb (m+1) x.2 h2 hk e he
 |.dM _ _::r,vs,m,x,h,hk,e,he=>by
  obtain⟨v,gb,rfl,h1,h2⟩:=lH h
  exact jc r gb (m+1) x.2 h2 hk e he
 |.agg c::r,vs,m,x,h,hk,e,he=>by
  obtain⟨cs,gb,rfl,h1,h2⟩:=nH h
  simp only[cj,dp,List.headD_cons,List.tail_cons,AV.cells]at he hk
  rcases List.mem_append.1 he with he|he
  ·exact qm c m cs x.1 h1 (fun s hs=>hk s (List.mem_append_left _ hs)) e he
  ·exact jc r gb (m+1) x.2 h2 (fun s hs=>hk s (List.mem_append_right _ hs)) e he
theorem uH{hh:Heap}{id:Nat}:∀(cW:List CK) (c n:Nat) (cs:List AV) (x:oP cW),cv cW hh cs=some x→eX cW c=true→cs[lB cW c]? = some (.bp id)→hh.get id≠none∧∃o,(n+c,some id,o)∈dm cW n cs x
 |[],c,n,cs,x,_,h,_=>by simp[eX]at h
 |.val k::r,0,n,cs,x,_,h,_=>by simp[eX]at h
 |.val k::r,c+1,n,cs,x,hd,h,hc=>by
  obtain⟨_,h2⟩:=nw hd
  obtain⟨h3,o,h4⟩:=uH r c (n+1) (cs.drop k.sz) x.2 h2 (by simpa[eX] using h) (by rw[List.getElem?_drop];simpa[lB] using hc)
  exact⟨h3,o,by rw[show n+(c+1)=n+1+c by omega];exact h4⟩
 |.own ok::r,0,n,cs,x,hd,h,hc=>by
  obtain⟨c0,cs',rfl,h1,h2⟩:=kI hd
  simp only[lB,List.getElem?_cons_zero,Option.some.injEq]at hc
  subst hc
  rcases kJ h1 with⟨h3,_⟩|⟨ly,h3,h4⟩
  ·cases h3
  ·cases h3
   exact⟨by rw[h4];simp,_,by simp only[dm,List.headD_cons,nk,List.head?_cons];exact List.mem_cons_self⟩
 |.own ok::r,c+1,n,cs,x,hd,h,hc=>by
  obtain⟨c0,cs',rfl,h1,h2⟩:=kI hd
  obtain⟨h3,o,h4⟩:=uH r c (n+1) cs' x.2 h2 (by simpa[eX] using h) (by simp only[lB]at hc;rw[Nat.add_comm]at hc;simpa using hc)
  exact⟨h3,o,by rw[show n+(c+1)=n+1+c by omega];simp only[dm,List.tail_cons];exact List.mem_cons_of_mem _ h4⟩
theorem yd{hh:Heap}{id c:Nat}:∀(bs:List BK) (b n:Nat) (is is':List Nat) (x:ug bs) (bk:BK) (bi:Nat) (ty:TypeId) (cs:List AV),cE bs hh is=some x→is'.length=bs.length→bs[b]? = some bk→is[b]? = some bi→hh.get bi=some (.box ty cs) →
  eX bk.cW c=true→cs[lB bk.cW c]? = some (.bp id)→hh.get id≠none∧∃o,(n+16*b+c,some id,o)∈cc bs hh is is' n x
 |[],b,n,is,is',x,bk,bi,ty,cs,_,_,h,_,_,_,_=>by simp at h
 |b0::r,b,n,[],is',x,bk,bi,ty,cs,hd,_,_,_,_,_,_=>by cases hd
 |b0::r,b,n,i::is,[],x,bk,bi,ty,cs,_,hl,_,_,_,_,_=>by simp at hl
 |b0::r,0,n,i::is,i'::is',x,bk,bi,ty,cs,hd,hl,h1,h2,h3,h4,h5=>by
  obtain⟨g0,g3⟩:=dV hd
  simp only[List.getElem?_cons_zero,Option.some.injEq]at h1 h2
  subst h1;subst h2
  cases b0 with
  |own ok=>simp[BK.cW,eX]at h4
  |box ty0 c0 =>
   obtain⟨cs',g1,g2⟩:=ql g0
   rw[g1]at h3
   cases h3
   obtain⟨h6,o,h7⟩:=uH c0 c n cs x.1 g2 h4 h5
   refine⟨h6,o,?_⟩
   simp only[cc,dq]
   rw[nD g1]
   exact List.mem_append_left _ (List.mem_cons_of_mem _ (by simpa using h7))
 |b0::r,b+1,n,i::is,i'::is',x,bk,bi,ty,cs,hd,hl,h1,h2,h3,h4,h5=>by
  obtain⟨_,g3⟩:=dV hd
  obtain⟨h6,o,h7⟩:=yd r b (n+16) is is' x.2 bk bi ty cs g3 (by simpa using hl) (by simpa using h1) (by simpa using h2) h3 h4 h5
  refine⟨h6,o,?_⟩
  rw[show n+16*(b+1)+c=n+16+16*b+c by omega]
  simp only[cc]
  exact List.mem_append_right _ h7
theorem ye{c:List CK}{cs:List AV}{id s off:Nat}{a:Nat×Nat×Nat}(h:vw c cs id s off a=true):cs[lB c a.1]? = some (.bp id)∧s=a.2.1∧off=a.2.2∧eX c a.1=true:=by
 simp only[vw,Bool.and_eq_true,decide_eq_true_eq]at h
 obtain⟨h1,h2,h3,h4⟩:=h
 refine⟨?_,h2,h3,h4⟩
 unfold K3 at h1
 split at h1
 ·rename_i e;rw[e];simp only[beq_iff_eq]at h1;rw[h1]
 ·cases h1
theorem Jz{bs:List BK}{hh:Heap}{ids:List Nat}{b:Nat}{alts:List (Nat×Nat×Nat)}{v:AV}{x:Option (Fin alts.length×Nat)}(hd:lX bs hh ids b alts v=some x):(v=.kb∧x=none) ∨
  ∃id i a bi bk ty cs,v=.ref id (alts.get a).2.1 i (alts.get a).2.2∧x=some (a,i)∧ids[b]? = some bi∧bs[b]? = some bk∧hh.get bi=some (.box ty cs)∧cs[lB bk.cW (alts.get a).1]? = some (.bp id)∧eX bk.cW (alts.get a).1=true:=by
 unfold lX at hd
 split at hd
 ·cases hd;exact .inl ⟨rfl,rfl⟩
 ·rename_i id s i off
  split at hd
  ·rename_i bi bk h1 h2
   split at hd
   ·rename_i ty cs h3
    split at hd
    ·rename_i a h4
     cases hd
     have YD:vw bk.cW cs id s off (alts.get a)=true:=by simpa using List.find?_some (p:=fun a=>vw bk.cW cs id s off (alts.get a)) h4
     obtain⟨h5,rfl,rfl,h6⟩:=ye YD
     exact .inr ⟨id,i,a,bi,bk,ty,cs,rfl,rfl,h1,h2,h3,h5,h6⟩
    ·cases hd
   ·cases hd
  ·cases hd
 ·cases hd
theorem qo{bs:List BK}{hh:Heap}{ids is' ids2:List Nat}{nb:Nat}{yb:ug bs}(g:Good Z ψ hh.get w B0 O)(hz:∀b,Z b→Z' b)(hb:cE bs hh ids=some yb)(hl:is'.length=bs.length)
  (Lt:∀e∈cc bs hh ids is' nb yb,h' e.1≠none→ψ' e.1=iY ψ e.2.1):∀(rs:List RK) (vs:List AV) (m:Nat) (x:kD rs) (us:List Value),bq bs rs hh ids vs=some x →
  (∀id b,AV.bp id∈fg rs vs→hh.get id≠none→ob (ψ id)=some b→Z' b)→(∀e∈cj rs vs m x,h' e.1≠none→ψ' e.1=iY ψ e.2.1)→ai Z ψ hh.get w vs us→ai Z' ψ' h' w (aJ rs ids2 nb m x) us
 |[],vs,m,x,us,hd,_,_,hr=>by
  have:=gh [] vs x hd
  have hv:vs=[]:=List.eq_nil_of_length_eq_zero this
  subst hv
  simpa only[aJ,ai] using hr
 |.val k::r,vs,m,x,us,hd,hf,ia,hr=>by
  obtain⟨v,gb,rfl,h1,h2⟩:=nF hd
  simp only[ai]at hr
  obtain⟨u,hM,rfl,h3,h4⟩:=hr
  simp only[aJ,ai]
  simp only[fg]at hf
  exact⟨u,hM,rfl,qh g hz (fun id b bw=>hf id b (List.mem_append_left _ bw)) h1 h3,qo g hz hb hl Lt r gb (m+1) x.2 hM h2 (fun id b bw=>hf id b (List.mem_append_right _ bw)) ia h4⟩
 |.own ok::r,vs,m,x,us,hd,hf,ia,hr=>by
  obtain⟨v,gb,rfl,h1,h2⟩:=nG hd
  simp only[ai]at hr
  obtain⟨u,hM,rfl,h3,h4⟩:=hr
  simp only[aJ,ai]
  simp only[cj,List.headD_cons,List.tail_cons]at ia
  exact⟨u,hM,rfl,Cm h1 h3 (fun hn=>ia _ List.mem_cons_self hn),qo g hz hb hl Lt r gb (m+1) x.2 hM h2 hf (fun e he=>ia e (List.mem_cons_of_mem _ he)) h4⟩
 |.dM b alts::r,vs,m,x,us,hd,hf,ia,hr=>by
  obtain⟨v,gb,rfl,h1,h2⟩:=lH hd
  simp only[ai]at hr
  obtain⟨u,hM,rfl,h3,h4⟩:=hr
  simp only[aJ,ai]
  refine⟨u,hM,rfl,?_,qo g hz hb hl Lt r gb (m+1) x.2 hM h2 hf ia h4⟩
  rcases Jz h1 with⟨rfl,h5⟩|⟨id,i,al,bi,bk,ty,cs,rfl,h5,h6,h7,h8,h9,l8⟩
  ·have:x.1=none:=h5
   rw[this]
   simpa only[sE,ar] using h3
  ·have:x.1=some (al,i):=h5
   rw[this]
   obtain⟨wo,o,FR⟩:=yd bs b nb ids is' yb bk bi ty cs hb hl h7 h6 h8 l8 h9
   simp only[sE,ar]at h3 ⊢
   obtain⟨ad,N6,Qx⟩:=h3
   refine⟨ad,N6,fun hn=>?_⟩
   rw[Lt _ FR hn,Qx wo];rfl
 |.agg c::r,vs,m,x,us,hd,hf,ia,hr=>by
  obtain⟨cs,gb,rfl,h1,h2⟩:=nH hd
  simp only[ai]at hr
  obtain⟨u,hM,rfl,h3,h4⟩:=hr
  simp only[aJ,ai]
  simp only[fg,AV.cells]at hf
  simp only[cj,List.headD_cons,List.tail_cons,AV.cells]at ia
  refine⟨u,hM,rfl,?_,qo g hz hb hl Lt r gb (m+1) x.2 hM h2 (fun id b bw=>hf id b (List.mem_append_right _ bw)) (fun e he=>ia e (List.mem_append_right _ he)) h4⟩
  simp only[ar]at h3 ⊢
  obtain⟨ws,rfl,h5⟩:=h3
  exact⟨ws,rfl,qk g hz c m cs x.1 _ h1 (fun id b bw=>hf id b (List.mem_append_left _ bw)) (fun e he=>ia e (List.mem_append_left _ he)) h5⟩
end Go.Vs
