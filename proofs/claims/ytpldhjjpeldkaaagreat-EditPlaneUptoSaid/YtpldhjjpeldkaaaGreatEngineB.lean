/- The value semantics is sound, operation by operation. -/
import Derived.Test.YtpldhjjpeldkaaaGreatEngineA
import Derived.Laws.StructEq
import Derived.Laws.Slices
import Derived.Laws.Strings
import Derived.MapKept
namespace Go.Vs
variable {P:Program} {Z Z':Nat→Prop} {ψ ψ':Nat→Value} {h h':Hp} {w w':World} {B0:Nat} {O:Nat→Prop} {N:Nat→Prop}
def bA.hp(h:Hp):bA→Hp
 | .val _=>h
 | .new _ os=>fun i=>match Heap.get os i with
  | some o=>some o
  | none=>h i
 | .wr _ h'=>h'.get
theorem hZ(id:Nat)(o:Ob)(h:Hp):(fun i=>match Heap.get [(id,o)] i with | some o=>some o | none=>h i)=dJ h id (some o):=by
 funext i
 simp only [Heap.get,dJ]
 by_cases e:i=id
 ·subst e;simp
 ·rw [if_neg (fun x=>e x.symm),if_neg e]
theorem lY(hh:Heap)(id:Nat)(o:Ob):(hh.set id o).get=dJ hh.get id (some o):=by
 funext i
 by_cases e:i=id
 ·subst e;rw [Heap.D0,aZ]
 ·rw [Heap.Ig e,cM _ _ e]
theorem tS(hh:Heap)(id:Nat):(hh.del id).get=dJ hh.get id none:=by
 funext i
 by_cases e:i=id
 ·subst e;rw [Heap.fZ,aZ]
 ·rw [Heap.hM e,cM _ _ e]
theorem zF(hh:Heap)(id:Nat)(o:Ob):Heap.get ((id,o)::hh)=dJ hh.get id (some o):=by
 funext i
 simp only [Heap.get,dJ]
 by_cases e:i=id
 ·subst e;simp
 ·rw [if_neg (fun x=>e x.symm),if_neg e]
def gH(P:Program)(ρC:Operand→Value)(o:Oper)(Z:Nat→Prop)(ψ:Nat→Value)(h:Hp)(w:World)(B0:Nat)(O N:Nat→Prop)(e:bA):Prop :=
 ∃V w' Z' ψ',((execOp ρC o).run P w=.ok (.value V) w'∨((execOp ρC o).run P w=.ok .skip w'∧V=undef))∧Next Z ψ h w B0 O N Z' ψ' (e.hp h) w'∧av Z' ψ' (e.hp h) w' e.v V
theorem gH.val{ρC:Operand→Value}{o:Oper}{x:AV}(g:Good Z ψ h w B0 O){V:Value}(hr:(execOp ρC o).run P w=.ok (.value V) w)(hx:av Z ψ h w x V):gH P ρC o Z ψ h w B0 O N (.val x) :=
 ⟨V,w,Z,ψ,.inl hr,Next.refl g,hx⟩
theorem NC{ty:TypeId}{k:K}{xs:List k.T}{id n:Nat}{x:k.T}(g:Good Z ψ h w B0 O)(hg:h id=some (.own (.row ty k) xs))(hx:xs[n]? = some x) :
  ∃gg us,Ru (ψ id)=gg∧aF Z w k x us∧∀(j:Nat) u,us[j]? = some u→w.cell? ⟨gg,n * k.sz+j,none⟩=some u:=by
 obtain ⟨vs,ho,hv⟩:=g.row id (.row ty k) xs hg
 have hn:n<xs.length:=(List.getElem?_eq_some_iff.1 hx).1
 obtain ⟨hl,e⟩:=ho
 rcases e with ⟨h0,_⟩ | ⟨gg,cap,cur,e1,_,e3,_,_,_,e7⟩
 ·omega
 ·refine ⟨gg,_,by rw [e1];rfl,hv n x hx,fun j u hu => ?_⟩
  rw [List.getElem?_take] at hu
  split at hu
  ·rw [List.getElem?_drop,←e7,List.getElem?_take] at hu
   split at hu
   ·simp only [World.cell?,e3];simpa using hu
   ·cases hu
  ·cases hu
theorem sS{hh:Heap}(g:Good Z ψ h w B0 O)(bp:∀id o,hh.get id=some o→h id=some o){t:TypeId}{a:AV}{v:Value}{e:bA}(hv:av Z ψ h w a v)(he:kW P hh t a some=some e) :
  ∃x V,e=.val x∧(Instr.loadAt t v).run P w=.ok V w∧av Z ψ h w x V:=by
 unfold kW at he
 split at he
 ·rename_i id s i off
  simp only [av] at hv
  obtain ⟨a,rfl,ha⟩:=hv
  split at he
  ·rename_i ty cs hg
   have ve:=bp _ _ hg
   have Fw:=ha (by rw [ve];simp)
   obtain ⟨gg,vs,e1,e2,e3,e4⟩:=g.box id ty cs ve
   split at he
   ·rename_i hi
    subst hi
    split at he
    ·rename_i x hx
     cases he
     rw [e1] at Fw
     simp only [Ru,Nat.zero_mul,Nat.zero_add] at Fw
     subst Fw
     obtain ⟨V,h1,h2⟩:=jx (a:=⟨gg,off,none⟩) (e3.drop off) (fun j u hu=>by
      rw [ck];simp only [World.cell?,e2];rw [List.getElem?_drop] at hu;simpa using hu) hx
     exact ⟨x,V,rfl,h1,h2⟩
    ·cases he
   ·cases he
  ·rename_i ty kk xs hg
   have ve:=bp _ _ hg
   have Fw:=ha (by rw [ve];simp)
   split at he
   ·rename_i hs
    subst hs
    obtain ⟨x,hx,he⟩:=Option.bind_eq_some_iff.1 he
    split at he
    ·rename_i y hy
     cases he
     obtain ⟨gg,us,h1,h2,h3⟩:=NC g ve hx
     rw [h1] at Fw;subst Fw
     obtain ⟨V,h4,h5⟩:=jx (a:=⟨gg,i * kk.sz+off,none⟩) ((gW (ψ:=ψ) (h:=h) h2).drop off) (fun j u hu=>by
      rw [ck,Nat.add_assoc];exact h3 _ _ (by rw [List.getElem?_drop] at hu;exact hu)) hy
     exact ⟨y,V,rfl,h4,h5⟩
    ·cases he
   ·cases he
  ·cases he
 ·rename_i kk x off
  split at he
  ·rename_i y hy
   cases he
   simp only [av] at hv
   obtain ⟨a,us,rfl,_,h2,h3⟩:=hv
   obtain ⟨V,h4,h5⟩:=jx ((gW (ψ:=ψ) (h:=h) h2).drop off) (fun j u hu=>h3 j u (by rw [List.getElem?_drop] at hu;exact hu)) hy
   exact ⟨y,V,rfl,h4,h5⟩
  ·cases he
 ·cases he
theorem mM{t e:TypeId}(he:w5 P t=some e):P.underlying t=some (.slice e):=by
 unfold w5 at he
 split at he
 ·cases he;assumption
 ·cases he
theorem mN{t e:TypeId}(ht:P.underlying t=some (.slice e)){i:TypeInfo}(hi:P.info? e=some i)(a:Addr)(n c:Nat)(k:IntKind)(j:Int)(h0:0≤j)(h1:j<n) :
  (Instr.indexAt t (.slice (some a) n c) (.int k j)).run P w=.ok (.pointer (some (a.add (j.toNat * P.cellsOf e)))) w:=by
 simp [Instr.indexAt,asIntOf,run_underlying ht,h0,h1,dn hi]
theorem Lu{α:Type}{xs:List α}{i:Int}{x:α}(hx:bh xs i=some x):0≤i∧i<xs.length∧xs[i.toNat]? = some x:=by
 unfold bh at hx
 split at hx
 ·rename_i h0
  have:=(List.getElem?_eq_some_iff.1 hx).1
  exact ⟨h0,by omega,hx⟩
 ·cases hx
theorem pn{hh:Heap}(g:Good Z ψ h w B0 O)(bp:∀id o,hh.get id=some o→h id=some o){t:TypeId}{x i:AV}{v u:Value}{e:bA}(hv:av Z ψ h w x v)(hu:av Z ψ h w i u)(he:dm P hh t x i some=some e) :
  ∃y V,e=.val y∧(Instr.indexAt t v u).run P w=.ok V w∧av Z ψ h w y V:=by
 unfold dm at he
 split at he
 ·cases he
 ·rename_i et het
  have ht:=mM het
  ·skip
   split at he
   ·rename_i ex J8 xs ik n
    simp only [av] at hv hu
    subst hu
    split at he
    ·rename_i hs
     obtain ⟨y,hy,he⟩:=Option.bind_eq_some_iff.1 he
     cases he
     obtain ⟨h0,h1,h2⟩:=Lu hy
     obtain ⟨hk,_⟩:=hv
     simp only [aF] at hk
     obtain ⟨v',zG,A,c,rfl,_,_,HW⟩:=hk
     cases zG
     obtain ⟨a,us,rfl,hz,hr,hc⟩:=HW _ _ h2
     have hi:∃i,P.info? et=some i:=by
      cases hi:P.info? et with
      | some i=>exact ⟨i,rfl⟩
      | none=>exfalso;have:=J8.g9;simp [Program.cellsOf,hi] at hs;omega
     obtain ⟨inf,hi⟩:=hi
     refine ⟨_,_,rfl,mN ht hi a xs.length c ik n h0 h1,?_⟩
     simp only [av]
     refine ⟨_,us,rfl,by rw [ct];exact hz,hr,fun j u hu => ?_⟩
     rw [tM,hs];exact hc j u (by simpa using hu)
    ·cases he
   ·rename_i id ik n
    split at he
    ·rename_i ty J8 xs hg
     have ve:=bp _ _ hg
     split at he
     ·rename_i hs
      cases zB:(decide (0≤n)&&decide (n<(xs.length:Int))) with
      | false=>rw [zB] at he;cases he
      | true =>
       rw [zB] at he
       cases he
       simp only [Bool.and_eq_true,decide_eq_true_eq] at zB
       simp only [av] at hv hu
       subst hu
       have hvv:=hv.2 (by rw [ve];simp)
       obtain ⟨vs,⟨_,e⟩,_⟩:=g.row id (.row ty J8) xs ve
       rcases e with ⟨h0,_⟩ | ⟨gg,cap,cur,e1,_,e3,_⟩
       ·omega
       ·have hi:∃i,P.info? et=some i:=by
         cases hi:P.info? et with
         | some i=>exact ⟨i,rfl⟩
         | none=>exfalso;have:=J8.g9;simp [Program.cellsOf,hi] at hs;omega
        obtain ⟨inf,hi⟩:=hi
        rw [hvv,e1]
        refine ⟨_,_,rfl,mN ht hi _ xs.length cap ik n zB.1 zB.2,?_⟩
        simp only [av]
        refine ⟨_,rfl,fun _ => ?_⟩
        rw [e1,hs,ck];simp [Ru]
     ·cases he
    ·cases he
   ·cases he
theorem rZ{t:TypeId}(h:P.cellsOf t≠0):∃i,P.info? t=some i:=by
 cases hi:P.info? t with
 | some i=>exact ⟨i,rfl⟩
 | none=>exact absurd (by simp [Program.cellsOf,hi]) h
theorem r8{t:TypeId}{f n:Nat}{ft:TypeId}(hf:gE P t f=some (n,ft))(hc:P.cellsOf ft≠0)(a:Addr) :
  (Instr.fieldAt t (.pointer (some a)) f).run P w=.ok (.pointer (some (a.add n))) w:=by
 unfold gE at hf
 split at hf
 ·rename_i fs ht
  obtain ⟨fd,hfd,he⟩:=Option.map_eq_some_iff.1 hf
  cases he
  obtain ⟨i,hi⟩:=rZ hc
  have hs:=dn (P:=P) (w:=w) hi
  simp only [Instr.fieldAt,Sem.run_bind,run_underlying ht,Result.andThen_ok,hfd,Instr.sureAddr,Sem.run_pure,fieldPlace,hs]
  rw [if_neg hc]
  rfl
 ·cases hf
theorem r9{t:TypeId}{f n:Nat}{ft:TypeId}(hf:gE P t f=some (n,ft))(hc:P.cellsOf ft≠0){id s i off:Nat}{v:Value}(hv:av Z ψ h w (.ref id s i off) v) :
  ∃V,(Instr.fieldAt t v f).run P w=.ok V w∧av Z ψ h w (.ref id s i (off+n)) V:=by
 simp only [av] at hv ⊢
 obtain ⟨a,rfl,ha⟩:=hv
 refine ⟨_,r8 hf hc a,_,rfl,fun bI => ?_⟩
 rw [ha bI,ck,Nat.add_assoc]
theorem tT{t:TypeId}{f n:Nat}{ft:TypeId}(hf:gE P t f=some (n,ft))(hc:P.cellsOf ft≠0){k:K}{x:k.T}{off:Nat}{v:Value}(hv:av Z ψ h w (.fp k x off) v) :
  ∃V,(Instr.fieldAt t v f).run P w=.ok V w∧av Z ψ h w (.fp k x (off+n)) V:=by
 simp only [av] at hv ⊢
 obtain ⟨a,us,rfl,hz,hr,CJ⟩:=hv
 refine ⟨_,r8 hf hc a,_,us,rfl,by rw [ct];exact hz,hr,fun j u hu => ?_⟩
 rw [tM]
 exact CJ (n+j) u (by rw [←Nat.add_assoc];exact hu)
theorem FF{t ft:TypeId}{f n:Nat}(hf:gE P t f=some (n,ft)){cs:List AV}{x:AV}{v:Value}(hv:av Z ψ h w (.agg cs) v)(hx:dO P ft (cs.drop n)=some x) :
  ∃V,(Instr.field t v f).run P w=.ok V w∧av Z ψ h w x V:=by
 simp only [av] at hv
 obtain ⟨vs,rfl,hl⟩:=hv
 have hd:=hl.drop n
 have hlen:=hd.length
 unfold gE at hf
 split at hf
 ·rename_i fs ht
  obtain ⟨fd,hfd,he⟩:=Option.map_eq_some_iff.1 hf
  cases he
  unfold dO at hx
  split at hx
  ·rename_i hb
   split at hx
   ·rename_i hle
    cases hx
    obtain ⟨i,hi⟩:=xd hb
    refine ⟨.agg (vs.extract fd.offset (fd.offset+P.cellsOf fd.type)),?_,?_⟩
    ·simp [Instr.field,run_underlying ht,hfd,asAgg,part,fM hb,dn hi]
    ·simp only [av]
     refine ⟨_,rfl,?_⟩
     rw [Array.toList_extract,List.extract_eq_take_drop,Nat.add_sub_cancel_left]
     exact hd.take _
   ·cases hx
  ·rename_i hb
   split at hx
   ·rename_i c r hcr
    cases hx
    rw [hcr] at hd
    simp only [aq] at hd
    obtain ⟨u,us,hu,h1,_⟩:=hd
    refine ⟨u,?_,h1⟩
    have hg:vs[fd.offset]? = some u:=by
     have:(vs.toList.drop fd.offset)[0]? = some u:=by rw [hu];rfl
     rw [List.getElem?_drop] at this;simpa using this
    simp [Instr.field,run_underlying ht,hfd,asAgg,part,fM hb,hg]
   ·cases hx
  ·cases hx
 ·cases hf
theorem Lv{hh:Heap}(g:Good Z ψ h w B0 O)(bp:∀id o,hh.get id=some o→h id=some o){x:AV}{v:Value}{e:bA}(hv:av Z ψ h w x v)(he:CF hh x some=some e) :
  ∃n:Nat,e=.val (.int .i64 (n:Int))∧((∃s,x=.str s∧v=.string s∧n=s.size)∨∃A c,v=.slice A n c):=by
 unfold CF at he
 split at he
 ·rename_i s hs
  cases he
  have hx:x=.str s:=by
   cases x with
   | bC id=>simp only [cG] at hs;split at hs<;>cases hs
   | str s'=>simp only [cG] at hs;exact hs
   | _=>simp only [cG] at hs<;>cases hs
  subst hx
  simp only [av] at hv
  exact ⟨_,rfl,.inl ⟨s,rfl,hv,rfl⟩⟩
 ·rename_i ex k xs hs
  cases he
  have ND:=CI (Z':=fun b=>Z b∨Own ψ h b) (g.sub bp) (fun b hb=>.inl hb) (fun id b _ bc hb=>.inr (by
   obtain ⟨o,ho⟩:=Option.ne_none_iff_exists'.1 bc
   exact ⟨id,by rw [bp id o ho];simp,hb⟩)) (hv.pI bp)
  rw [hs] at ND
  simp only [av,aF] at ND
  obtain ⟨⟨v',zG,A,c,rfl,_⟩,_⟩:=ND
  cases zG
  exact ⟨_,rfl,.inr ⟨A,c,rfl⟩⟩
 ·rename_i hs
  cases he
  have hx:x=.fH:=by
   cases x with
   | bC id=>simp only [cG] at hs;split at hs<;>cases hs
   | fH=>rfl
   | _=>simp only [cG] at hs<;>cases hs
  subst hx
  simp only [av] at hv
  exact ⟨0,rfl,.inr ⟨_,_,hv⟩⟩
 ·cases he
def dK(Z:Nat→Prop)(ψ:Nat→Value)(h:Hp)(w:World):Option AV→Option Value→Prop
 | none,none=>True
 | some a,some v=>av Z ψ h w a v
 | _,_=>False
theorem cd(k:IntKind)(i:Int)(y:Nat)(code:BoundsCode)(h0:0≤i)(h1:i≤y):(Instr.sliceBound (.int k i) y code).run P w=.ok i.toNat w:=by
 simp [Instr.sliceBound,asIntOf,h0,h1]
theorem sV{b:Bool}{n c:Nat}(hc:n≤c){lo hi mx:Option AV}{Io sM mx':Option Value}{l u:Int}(h1:dK Z ψ h w lo Io)(h2:dK Z ψ h w hi sM)(h3:dK Z ψ h w mx mx')
  (hb:kV n lo hi=some (l,u)) (ho:aT n l u=true) (hm:mx=none∨(mx=some (.int .i64 u)∧hi≠none)) :
  (Instr.sliceBounds b n c Io sM mx').run P w=.ok (l.toNat,u.toNat,if mx=none then c else u.toNat) w:=by
 simp only [aT,Bool.and_eq_true,decide_eq_true_eq] at ho
 obtain ⟨h4,h5,h6⟩:=ho
 have huc:u≤(c:Int):=by omega
 unfold kV at hb
 rcases hm with rfl | ⟨rfl,bc⟩
 ·cases mx' with
  | some _=>exact h3.elim
  | none =>
   split at hb
   all_goals first | (cases hb;done) | skip
   ·cases hb
    cases Io with
    | some _=>exact h1.elim
    | none =>
     cases sM with
     | some _=>exact h2.elim
     | none=>simp [Instr.sliceBounds]
   ·cases hb
    cases Io with
    | none=>exact h1.elim
    | some v =>
     simp only [dK,av] at h1
     subst h1
     cases sM with
     | some _=>exact h2.elim
     | none=>simp [Instr.sliceBounds,cd .i64 l n _ h4 h5]
   ·cases hb
    cases Io with
    | some _=>exact h1.elim
    | none =>
     cases sM with
     | none=>exact h2.elim
     | some v =>
      simp only [dK,av] at h2
      subst h2
      cases b<;>simp [Instr.sliceBounds,cd .i64 u c _ (by omega) huc]
   ·cases hb
    cases Io with
    | none=>exact h1.elim
    | some v =>
     simp only [dK,av] at h1
     subst h1
     cases sM with
     | none=>exact h2.elim
     | some v =>
      simp only [dK,av] at h2
      subst h2
      have hx:l≤((u.toNat:Nat):Int):=by omega
      cases b<;>simp [Instr.sliceBounds,cd .i64 u c _ (by omega) huc,cd .i64 l u.toNat _ h4 hx]
 ·cases mx' with
  | none=>exact h3.elim
  | some m =>
   simp only [dK,av] at h3
   subst h3
   have huu:u≤((u.toNat:Nat):Int):=by omega
   have hx:l≤((u.toNat:Nat):Int):=by omega
   split at hb
   all_goals first | (cases hb;done) | skip
   ·exact absurd rfl bc
   ·exact absurd rfl bc
   ·cases hb
    cases Io with
    | some _=>exact h1.elim
    | none =>
     cases sM with
     | none=>exact h2.elim
     | some v =>
      simp only [dK,av] at h2
      subst h2
      cases b<;>simp [Instr.sliceBounds,cd .i64 u c _ (by omega) huc,cd .i64 u u.toNat _ (by omega) huu]
   ·cases hb
    cases Io with
    | none=>exact h1.elim
    | some v =>
     simp only [dK,av] at h1
     subst h1
     cases sM with
     | none=>exact h2.elim
     | some v =>
      simp only [dK,av] at h2
      subst h2
      cases b<;>simp [Instr.sliceBounds,cd .i64 u c _ (by omega) huc,cd .i64 u u.toNat _ (by omega) huu,cd .i64 l u.toNat _ h4 hx]
theorem oi{t e:TypeId}(ht:P.underlying t=some (.slice e)){kk:K}(ir:P.cellsOf e=kk.sz){xs:List kk.T}{v:Value}(hr:aF Z w (.sl kk) xs [v]){lo hi mx:Option AV}{Io sM mx':Option Value}{l u:Int}
  (h1:dK Z' ψ h w lo Io) (h2:dK Z' ψ h w hi sM) (h3:dK Z' ψ h w mx mx') (hb:kV xs.length lo hi=some (l,u)) (ho:aT xs.length l u=true) (hm:mx=none∨(mx=some (.int .i64 u)∧hi≠none)) :
  ∃V,(Instr.sliceAt t v Io sM mx').run P w=.ok V w∧aF Z w (.sl kk) (cut xs l u) [V]∧(mx≠none→∃A c,V=.slice A c c):=by
 simp only [aF] at hr
 obtain ⟨v',zG,A,c,rfl,hl,hn,HW⟩:=hr
 cases zG
 have dh:=sV (P:=P) (w:=w) (b:=true) hl h1 h2 h3 hb ho hm
 simp only [aT,Bool.and_eq_true,decide_eq_true_eq] at ho
 obtain ⟨h4,h5,h6⟩:=ho
 obtain ⟨i,hi⟩:=rZ (P:=P) (t:=e) (by have:=kk.g9;omega)
 generalize Na:(if mx=none then c else u.toNat)=m at dh
 have UG:u.toNat≤m:=by
  rcases hm with rfl | ⟨rfl,_⟩
  ·simp at Na;omega
  ·simp at Na;omega
 have hmc:m≤c:=by
  rcases hm with rfl | ⟨rfl,_⟩
  ·simp at Na;omega
  ·simp at Na;omega
 have sN:(cut xs l u).length=u.toNat - l.toNat:=by
  unfold cut;rw [List.length_drop,List.length_take];omega
 refine ⟨.slice (if m=l.toNat then A else A.map (·.add (l.toNat * P.cellsOf e))) (u.toNat - l.toNat) (m - l.toNat),?_,?_,?_⟩
 ·simp [Instr.sliceAt,Instr.slice,run_underlying ht,dh,dn hi]
 ·simp only [aF]
  refine ⟨_,rfl,_,_,by rw [sN],by rw [sN];omega,fun hA => ?_,fun j x hx => ?_⟩
  ·split at hA
   ·have:=hn hA;omega
   ·cases A with
    | none=>have:=hn rfl;omega
    | some a=>cases hA
  ·have hj:j<u.toNat - l.toNat:=by rw [←sN];exact (List.getElem?_eq_some_iff.1 hx).1
   have XF:xs[l.toNat+j]? = some x:=by
    unfold cut at hx
    rw [List.getElem?_drop,List.getElem?_take,if_pos (by omega)] at hx
    exact hx
   obtain ⟨a,us,rfl,hz,hr,hc⟩:=HW _ _ XF
   refine ⟨a.add (l.toNat * P.cellsOf e),us,by rw [if_neg (by omega)];rfl,by rw [ct];exact hz,hr,fun q y hy => ?_⟩
   rw [tM,ir]
   have:=hc q y hy
   rw [Nat.add_mul] at this
   rw [←Nat.add_assoc];exact this
 ·intro bc
  rcases hm with rfl | ⟨rfl,_⟩
  ·exact absurd rfl bc
  ·simp at Na
   exact ⟨_,_,by rw [←Na]⟩
theorem FG{hh:Heap}(g:Good Z ψ h w B0 O)(bp:∀id o,hh.get id=some o→h id=some o){t e:TypeId}(ht:P.underlying t=some (.slice e)){x:AV}{v:Value}{lo hi mx:Option AV}{Io sM mx':Option Value}{ef:bA}
  (hv:av Z ψ h w x v) (h1:dK Z ψ h w lo Io) (h2:dK Z ψ h w hi sM) (h3:dK Z ψ h w mx mx') (lZ:∀y hw,ef=.wr y hw→hh.get=h) (he:qL hh (P.cellsOf e) x lo hi mx some=some ef) (UH:(P.info? e).isSome=true) :
  ∃V Z',(Instr.sliceAt t v Io sM mx').run P w=.ok V w∧Next Z ψ h w B0 O N Z' ψ (ef.hp h) w∧av Z' ψ (ef.hp h) w ef.v V:=by
 unfold qL at he
 split at he
 ·
  simp only [av] at hv
  subst hv
  split at he
  ·rename_i l u hb
   cases ho:aT 0 l u with
   | false=>rw [ho] at he;cases he
   | true =>
    rw [ho] at he
    cases he
    have dh:=sV (P:=P) (w:=w) (b:=true) (Nat.le_refl 0) h1 h2 h3 hb ho (.inl rfl)
    simp only [aT,Bool.and_eq_true,decide_eq_true_eq] at ho
    have hl0:l.toNat=0:=by omega
    have hu0:u.toNat=0:=by omega
    obtain ⟨i,hi⟩:=Option.isSome_iff_exists.1 UH
    refine ⟨.slice none 0 0,Z,?_,Next.refl g,by simp only [bA.v,av]⟩
    rw [hl0,hu0] at dh
    simp [Instr.sliceAt,Instr.slice,run_underlying ht,dh,dn hi]
  ·cases he
 ·
  rename_i ex kk xs
  simp only [av] at hv
  split at he
  ·rename_i ir
   split at he
   ·rename_i l u hb
    split at he
    ·cases ho:aT xs.length l u with
     | false=>rw [ho] at he;cases he
     | true =>
      rw [ho] at he
      cases he
      obtain ⟨V,h4,h5,_⟩:=oi (P:=P) ht ir hv.1 h1 h2 h3 hb ho (.inl rfl)
      exact ⟨V,Z,h4,Next.refl g,by simp only [bA.v,bA.hp,av];exact ⟨h5,by simp⟩⟩
    ·rename_i m
     cases ho:(aT xs.length l u&&(hi.isSome&&decide (m=u))) with
     | false=>rw [ho] at he;cases he
     | true =>
      rw [ho] at he
      cases he
      simp only [Bool.and_eq_true,decide_eq_true_eq] at ho
      obtain ⟨ho,XG,rfl⟩:=ho
      obtain ⟨V,h4,h5,h6⟩:=oi (P:=P) ht ir hv.1 h1 h2 h3 hb ho (.inr ⟨rfl,by intro e;rw [e] at XG;cases XG⟩)
      exact ⟨V,Z,h4,Next.refl g,by simp only [bA.v,bA.hp,av];exact ⟨h5,fun _=>h6 (by simp)⟩⟩
    ·cases he
   ·cases he
  ·cases he
 ·
  rename_i id
  split at he
  ·rename_i ty kk xs hg
   have ve:=bp _ _ hg
   have hvv:=hv
   simp only [av] at hvv
   have aci:=hvv.2 (by rw [ve];simp)
   obtain ⟨vs,NF,tU⟩:=g.row id (.row ty kk) xs ve
   let Z1:Nat→Prop:=fun b=>Z b∨ob (ψ id)=some b
   have hd:aF Z1 w (.sl kk) xs [v]:=by rw [aci];exact tO NF tU (fun b hb=>.inl hb) (fun b hb=>.inr hb)
   have Tx:∀hw:Hp,hw=dJ h id none→Next Z ψ h w B0 O N Z1 ψ hw w:=by
    rintro hw rfl
    have hs:∀i o,dJ h id none i=some o→h i=some o:=fun i o hi=>by
     by_cases e:i=id
     ·subst e;rw [aZ] at hi;cases hi
     ·rwa [cM _ _ e] at hi
    have gg:=g.freeze hs (fun b hb=>.inl hb) (fun b (hb:Z1 b)=>hb.imp (fun h=>h) (fun hb=>⟨id,by rw [ve];simp,aZ _ _ _,hb⟩))
    refine ⟨fun b hb=>.inl hb,fun b hb=>hb.imp (fun h=>h) (fun hb=>.inl ⟨id,by rw [ve];simp,hb⟩),cV.refl _ _ _,fun i hi => ?_,gg⟩
    obtain ⟨o,ho⟩:=Option.ne_none_iff_exists'.1 hi
    exact .inl ⟨by rw [hs i o ho];simp,rfl⟩
   have NA:dK Z ψ h w lo Io:=h1
   split at he
   ·rename_i ir
    split at he
    ·rename_i l u hb
     split at he
     ·cases ho:aT xs.length l u with
      | false=>rw [ho] at he;cases he
      | true =>
       rw [ho] at he
       cases he
       have heq:=lZ _ _ rfl
       obtain ⟨V,h4,h5,_⟩:=oi (P:=P) ht ir hd h1 h2 h3 hb ho (.inl rfl)
       exact ⟨V,Z1,h4,Tx _ (by simp only [bA.hp];rw [tS,heq]),by simp only [bA.v,bA.hp,av];exact ⟨h5,by simp⟩⟩
     ·rename_i m
      cases ho:(aT xs.length l u&&(hi.isSome&&decide (m=u))) with
      | false=>rw [ho] at he;cases he
      | true =>
       rw [ho] at he
       cases he
       have heq:=lZ _ _ rfl
       simp only [Bool.and_eq_true,decide_eq_true_eq] at ho
       obtain ⟨ho,XG,rfl⟩:=ho
       obtain ⟨V,h4,h5,h6⟩:=oi (P:=P) ht ir hd h1 h2 h3 hb ho (.inr ⟨rfl,by intro e;rw [e] at XG;cases XG⟩)
       exact ⟨V,Z1,h4,Tx _ (by simp only [bA.hp];rw [tS,heq]),by simp only [bA.v,bA.hp,av];exact ⟨h5,fun _=>h6 (by simp)⟩⟩
     ·cases he
    ·cases he
   ·cases he
  ·cases he
 ·cases he
end Go.Vs
set_option linter.unusedSimpArgs false
set_option linter.unusedVariables false
namespace Go.Vs
variable {P:Program} {Z Z':Nat→Prop} {ψ ψ':Nat→Value} {h h':Hp} {w w':World} {B0:Nat} {O:Nat→Prop} {N:Nat→Prop}
def kZ(P:Program)(t:TypeId)(k:K):Prop :=
 ∀(Z:Nat→Prop) (w:World) (x y:k.T) (xs ys:Array Value),aF Z w k x xs.toList→aF Z w k y ys.toList →
  (Op.equal t (.agg xs) (.agg ys)).run P w=.ok (qJ k x y) w∧(∀(op:BinOp) (a b:Operand),(eqGuard op t a b (.agg xs) (.agg ys)).run P w=.ok () w)∧∀e:Bool,(Instr.checkKey e 10000 t (.agg xs)).run P w=.ok () w
theorem vv(op:BinOp)(t:TypeId)(a b:Operand)(k k':IntKind)(x y:Int):(eqGuard op t a b (.int k x) (.int k' y)).run P w=.ok () w:=by cases op<;>simp [eqGuard]
theorem Lw(op:BinOp)(t:TypeId)(a b:Operand)(x y:ByteArray):(eqGuard op t a b (.string x) (.string y)).run P w=.ok () w:=by cases op<;>simp [eqGuard]
theorem Ip(op:BinOp)(t:TypeId)(a b:Operand)(x y:Bool):(eqGuard op t a b (.bool x) (.bool y)).run P w=.ok () w:=by cases op<;>simp [eqGuard]
theorem CN(op:BinOp)(t:TypeId)(a b:Operand)(x y:Option Addr):(eqGuard op t a b (.pointer x) (.pointer y)).run P w=.ok () w:=by cases op<;>simp [eqGuard]
def bO:AV→Value
 | .bool b=>.bool b
 | .int k n=>.int k n
 | .str s=>.string s
 | _=>undef
theorem jA(k:IntKind)(n:Int):av Z ψ h w (.int k n) (bO (.int k n)):=by simp only [av,bO]
theorem dU(b:Bool):av Z ψ h w (.bool b) (bO (.bool b)):=by simp only [av,bO]
theorem jR{t e:TypeId}(ht:P.underlying t=some (.pointer e))(a:Option Addr):(Op.equal t (.pointer a) (.pointer none)).run P w=.ok a.isNone w:=by
 have key:∀d,(Op.equalIn (d+1) t (.pointer a) (.pointer none)).run P w=.ok a.isNone w:=fun d=>by
  cases a<;>simp [Op.equalIn,run_underlying ht]
 exact key 9999
theorem NG{op:BinOp}{t:TypeId}{k:IntKind}{a b:Int}{v:AV}(hv:Uu op k a b=some v):∃V,(binOp op t (.int k a) (.int k b)).run P w=.ok V w∧av Z ψ h w v V:=by
 cases op<;>simp only [Uu] at hv<;>cases hv<;>first
  | (refine ⟨bO (.int _ _),?_,jA _ _⟩;simp [binOp,Op.intArith,Op.intCmp,bO];done)
  | (refine ⟨bO (.bool _),?_,dU _⟩;simp [binOp,Op.intArith,Op.intCmp,bO];done)
  | (refine ⟨bO (.int _ _),?_,jA _ _⟩;simp only [binOp,bO,ne_eq,not_true_eq_false,if_false];rfl)
theorem Lx{Eqs:TypeId→Option K}(BZ:∀t k,Eqs t=some k→kZ P t k){op:BinOp}{t:TypeId}{xo yo:Operand}{x y:AV}{u v:Value}{e:bA}(hu:av Z ψ h w x u)(hv:av Z ψ h w y v)(he:w6 P Eqs op t x y some=some e) :
  ∃r V,e=.val r∧((do eqGuard op t xo yo u v;binOp op t u v:Sem Value)).run P w=.ok V w∧av Z ψ h w r V:=by
 unfold w6 at he
 split at he
 ·rename_i k a k' b
  simp only [av] at hu hv
  subst hu;subst hv
  split at he
  ·cases hb:decide (b<0) with
   | true=>rw [hb] at he;cases he
   | false =>
    rw [hb] at he;cases he
    have UI:¬b<0:=by simpa using hb
    exact ⟨_,bO (.int _ _),rfl,by simp [vv,binOp,Op.shift,UI,bO,Xv],jA _ _⟩
  ·cases hb:decide (b<0) with
   | true=>rw [hb] at he;cases he
   | false =>
    rw [hb] at he;cases he
    have UI:¬b<0:=by simpa using hb
    exact ⟨_,bO (.int _ _),rfl,by simp [vv,binOp,Op.shift,UI,bO,kA],jA _ _⟩
  split at he
  ·rename_i hk
   subst hk
   simp only [Sem.run_bind,vv,Result.andThen_ok]
   split at he
   ·cases hb:(b==0) with
    | true=>rw [hb] at he;cases he
    | false =>
     rw [hb] at he;cases he
     have UI:b≠0:=by simpa using hb
     exact ⟨_,bO (.int _ _),rfl,by simp [binOp,Op.intDiv,UI,bO],jA _ _⟩
   ·cases hb:(b==0) with
    | true=>rw [hb] at he;cases he
    | false =>
     rw [hb] at he;cases he
     have UI:b≠0:=by simpa using hb
     exact ⟨_,bO (.int _ _),rfl,by simp [binOp,Op.intDiv,UI,bO],jA _ _⟩
   ·split at he
    ·rename_i v hv
     cases he
     obtain ⟨V,h1,h2⟩:=NG (P:=P) (t:=t) (w:=w) (Z:=Z) (ψ:=ψ) (h:=h) hv
     exact ⟨_,V,rfl,h1,h2⟩
    ·cases he
  ·cases he
 ·rename_i a b
  simp only [av] at hu hv
  subst hu;subst hv
  simp only [Sem.run_bind,Lw,Result.andThen_ok]
  cases op<;>simp only [Xw] at he<;>first | (cases he;done) | (cases he;exact ⟨_,bO (.bool _),rfl,by simp [binOp,Op.stringOp,←beq_toListBytes,bO],dU _⟩)
 ·rename_i a b
  simp only [av] at hu hv
  subst hu;subst hv
  simp only [Sem.run_bind,Ip,Result.andThen_ok]
  have key:(P.underlying t).map DW=some true→P.underlying t=some .bool:=fun hm=>by
   obtain ⟨d,hd,he⟩:=Option.map_eq_some_iff.1 hm
   cases d<;>simp [DW] at he
   exact hd
  split at he
  ·rename_i hm
   cases he
   exact ⟨_,bO (.bool _),rfl,by simp [binOp,Op.equal,Op.maxDepth,run_equalIn_bool' (P:=P) w 9999 t a b (key hm),bO],dU _⟩
  ·rename_i hm
   cases he
   exact ⟨_,bO (.bool _),rfl,by simp [binOp,Op.equal,Op.maxDepth,run_equalIn_bool' (P:=P) w 9999 t a b (key hm),bO],dU _⟩
  ·cases he
 ·rename_i a b
  split at he
  ·cases he
  ·rename_i k hk
   simp only [av] at hu hv
   obtain ⟨xs,rfl,hx⟩:=hu
   obtain ⟨ys,rfl,hy⟩:=hv
   split at he
   ·rename_i x y hdx hdy
    cases he
    obtain ⟨h1,h2,_⟩:=BZ t k hk Z w x y xs ys (dy hdx hx) (dy hdy hy)
    exact ⟨_,bO (.bool _),rfl,by simp only [Sem.run_bind,h2,Result.andThen_ok,binOp,h1,Sem.run_pure,bO],dU _⟩
   ·rename_i x y hdx hdy
    cases he
    obtain ⟨h1,h2,_⟩:=BZ t k hk Z w x y xs ys (dy hdx hx) (dy hdy hy)
    exact ⟨_,bO (.bool _),rfl,by simp only [Sem.run_bind,h2,Result.andThen_ok,binOp,h1,Sem.run_pure,bO],dU _⟩
   ·cases he
 ·simp only [av] at hu hv
  subst hu;subst hv
  have key:(P.underlying t).map vn=some true→∃e,P.underlying t=some (.pointer e):=fun hm=>by
   obtain ⟨d,hd,he⟩:=Option.map_eq_some_iff.1 hm
   cases d<;>simp [vn] at he
   exact ⟨_,hd⟩
  simp only [Sem.run_bind,CN,Result.andThen_ok]
  split at he
  ·rename_i hm
   cases he
   obtain ⟨et,ht⟩:=key hm
   exact ⟨_,bO (.bool _),rfl,by simp only [binOp,Sem.run_bind,jR ht,Result.andThen_ok,Sem.run_pure,bO,Option.isNone_none,Option.isNone_some,Bool.not_true,Bool.not_false],dU _⟩
  ·rename_i hm
   cases he
   obtain ⟨et,ht⟩:=key hm
   exact ⟨_,bO (.bool _),rfl,by simp only [binOp,Sem.run_bind,jR ht,Result.andThen_ok,Sem.run_pure,bO,Option.isNone_none,Option.isNone_some,Bool.not_true,Bool.not_false],dU _⟩
  ·cases he
 ·simp only [av] at hu hv
  obtain ⟨a,rfl,_⟩:=hu
  subst hv
  have key:(P.underlying t).map vn=some true→∃e,P.underlying t=some (.pointer e):=fun hm=>by
   obtain ⟨d,hd,he⟩:=Option.map_eq_some_iff.1 hm
   cases d<;>simp [vn] at he
   exact ⟨_,hd⟩
  simp only [Sem.run_bind,CN,Result.andThen_ok]
  split at he
  ·rename_i hm
   cases he
   obtain ⟨et,ht⟩:=key hm
   exact ⟨_,bO (.bool _),rfl,by simp only [binOp,Sem.run_bind,jR ht,Result.andThen_ok,Sem.run_pure,bO,Option.isNone_none,Option.isNone_some,Bool.not_true,Bool.not_false],dU _⟩
  ·rename_i hm
   cases he
   obtain ⟨et,ht⟩:=key hm
   exact ⟨_,bO (.bool _),rfl,by simp only [binOp,Sem.run_bind,jR ht,Result.andThen_ok,Sem.run_pure,bO,Option.isNone_none,Option.isNone_some,Bool.not_true,Bool.not_false],dU _⟩
  ·cases he
 ·cases he
theorem Ly{a:AV}{v:Value}(hp:vl a=true)(hr:av Z ψ h w a v):v.oneCell'=true:=by
 cases a with
 | no=>cases hp
 | agg cs=>cases hp
 | mV cs=>cases hp
 | bool b=>simp only [av] at hr;subst hr;rfl
 | int k n=>simp only [av] at hr;subst hr;rfl
 | str s=>simp only [av] at hr;subst hr;rfl
 | kT=>simp only [av] at hr;subst hr;rfl
 | fH=>simp only [av] at hr;subst hr;rfl
 | ref id s i off=>simp only [av] at hr;obtain ⟨a,rfl,_⟩:=hr;rfl
 | fp k x off=>simp only [av] at hr;obtain ⟨a,us,rfl,_⟩:=hr;rfl
 | sl ex k xs=>simp only [av,aF] at hr;obtain ⟨⟨v',hv,A,c,rfl,_⟩,_⟩:=hr;cases hv;rfl
 | bC id=>simp only [av] at hr;exact hr.1.2
 | mp kk vk es=>simp only [av,aF] at hr;obtain ⟨A,hv,_⟩:=hr;cases hv;rfl
 | fn f cap=>simp only [av] at hr;obtain ⟨vs,rfl,_⟩:=hr;rfl
theorem sW:∀{cs:List AV} {vs:List Value},cs.all vl=true→aq Z ψ h w cs vs→∀u∈vs,u.oneCell'=true
 | [],_,_,hr,u,hu=>by simp only [aq] at hr;subst hr;simp at hu
 | c::r,_,hp,hr,u,hu=>by
  simp only [List.all_cons,Bool.and_eq_true] at hp
  simp only [aq] at hr
  obtain ⟨v,us,rfl,h1,h2⟩:=hr
  rcases List.mem_cons.1 hu with rfl | hu
  ·exact Ly hp.1 h1
  ·exact sW hp.2 h2 u hu
theorem FH{a:AV}(hp:a.cells.all vl=true):a≠.no:=by rintro rfl;simp [AV.cells,vl] at hp
theorem qU{id:Nat}:∀{cs:List AV},H8 id cs=true→AV.bC id∉cs
 | [],_=>by simp
 | c::r,hn=>by
  intro hm
  cases c with
  | bC i =>
   simp only [H8,Bool.and_eq_true,Bool.not_eq_true',beq_eq_false_iff_ne] at hn
   rcases List.mem_cons.1 hm with e | hm
   ·cases e;exact hn.1 rfl
   ·exact qU hn.2 hm
  | _ =>
   simp only [H8] at hn
   rcases List.mem_cons.1 hm with e | hm
   ·cases e
   ·exact qU hn hm
theorem xh{hh:Heap}(g:Good Z ψ hh.get w B0 O){t:TypeId}{a x:AV}{u v:Value}{e:bA}(hu:av Z ψ hh.get w a u)(hv:av Z ψ hh.get w x v)(he:qK P hh t a x some=some e) :
  ∃hw w' Z',e=.wr .no hw∧(Instr.storeAt t u v).run P w=.ok () w'∧Next Z ψ hh.get w B0 O N Z' ψ hw.get w':=by
 unfold qK at he
 split at he
 ·rename_i hc
  obtain ⟨hlen,RA,qf⟩:=hc
  obtain ⟨inf,RA⟩:=Option.isSome_iff_exists.1 RA
  have M8:=hv.cells (FH qf)
  have D3:=sW qf M8
  have sN:=M8.length
  simp only [Array.length_toList] at sN
  split at he
  ·rename_i id s i off
   simp only [av] at hu
   obtain ⟨a,rfl,ha⟩:=hu
   split at he
   ·rename_i ty cs hg
    split at he
    ·rename_i hc
     obtain ⟨rfl,XH⟩:=hc
     cases he
     have Fw:=ha (by rw [hg];simp)
     obtain ⟨w',h1,h2⟩:=zt (P:=P) (N:=N) g hg RA M8 D3 (by omega) XH (a:=a) (by rw [Fw];simp)
     exact ⟨_,w',Z,rfl,h1,by rw [lY];exact h2⟩
    ·cases he
   ·rename_i ty kk xs hg
    obtain ⟨y,hx,Q4⟩:=Option.bind_eq_some_iff.1 he
    clear he
    split at Q4
    ·rename_i hc
     obtain ⟨rfl,XH,qe⟩:=hc
     split at Q4
     ·rename_i z hz
      cases Q4
      have Fw:=ha (by rw [hg];simp)
      have bI:=qU qe
      have gd:=hY g x.cells
      have hgd:(cE hh x.cells).get id=some (.own (.row ty kk) xs):=by rw [oc _ _ _ bI];exact hg
      have UJ:=ni (Z':=pP Z ψ hh.get x.cells) g (fun b hb=>.inl hb) (fun i b hm bc hb=>.inr ⟨i,hm,bc,hb⟩) M8
      obtain ⟨w',h1,h2⟩:=zw (P:=P) (N:=N) gd hgd RA hx (y:=z) (off:=off) (V:=v) (by omega) (by omega) (a:=a) Fw (fun us FI=>by
       have h3:=(gW (ψ:=ψ) (h:=hh.get) FI)
       have h4:=dy hz (UJ.dI off h3)
       rwa [qS _ _ _ (by rw [Array.length_toList,FI.len];omega),Array.length_toList] at h4) D3
      refine ⟨_,w',pP Z ψ hh.get x.cells,rfl,h1,?_⟩
      rw [show ((stored hh x.cells).2.set id (.own (.row ty kk) (xs.set i z))).get=dJ (cE hh x.cells).get id (some (.own (.row ty kk) (xs.set i z))) from lY _ _ _]
      exact h2.drop (fun b hb=>.inl hb) (fun b hb=>hb.imp (fun h=>h) (fun ⟨i,_,h5,h6⟩=>⟨i,h5,h6⟩)) (dP _ _)
     ·cases Q4
    ·cases Q4
   ·cases he
  ·cases he
 ·cases he
end Go.Vs
namespace Go.Vs
variable {P:Program} {Z Z':Nat→Prop} {ψ ψ':Nat→Value} {h h':Hp} {w w':World} {B0:Nat} {O:Nat→Prop} {N:Nat→Prop}
theorem NH{a:AV}{v:Value}(ha:a.isAgg=true)(hr:av Z ψ h w a v):∃vs,v=.agg vs:=by
 cases a<;>simp [AV.isAgg] at ha
 simp only [av] at hr
 obtain ⟨vs,rfl,_⟩:=hr
 exact ⟨vs,rfl⟩
theorem CO{a:AV}{v:Value}(ha:a.isAgg=false)(qe:a≠.no)(hr:av Z ψ h w a v):v.cells=#[v]:=by
 cases a with
 | no=>exact absurd rfl qe
 | agg cs=>simp [AV.isAgg] at ha
 | bool b=>simp only [av] at hr;subst hr;rfl
 | int k n=>simp only [av] at hr;subst hr;rfl
 | str s=>simp only [av] at hr;subst hr;rfl
 | kT=>simp only [av] at hr;subst hr;rfl
 | fH=>simp only [av] at hr;subst hr;rfl
 | ref id s i off=>simp only [av] at hr;obtain ⟨a,rfl,_⟩:=hr;rfl
 | fp k x off=>simp only [av] at hr;obtain ⟨a,us,rfl,_⟩:=hr;rfl
 | sl ex k xs=>simp only [av,aF] at hr;obtain ⟨⟨v',hv,A,c,rfl,_⟩,_⟩:=hr;cases hv;rfl
 | bC id=>simp only [av] at hr;exact hr.1.1
 | mp kk vk es=>simp only [av,aF] at hr;obtain ⟨A,hv,_⟩:=hr;cases hv;rfl
 | fn f cap=>simp only [av] at hr;obtain ⟨vs,rfl,_⟩:=hr;rfl
 | mV cs=>simp only [av] at hr;obtain ⟨vs,rfl,_⟩:=hr;rfl
theorem sX{hh:Heap}{k:K}{a:AV}{x:k.T}{v:Value}(g:Good Z ψ hh.get w B0 O)(hz:∀b,Z b→Z' b)(hb:∀id b,AV.bC id∈a.cells→hh.get id≠none→ob (ψ id)=some b→Z' b)
  (hx:fD k hh a=some x) (hr:av Z ψ hh.get w a v):aF Z' w k x v.cells.toList∧(k.isAgg=true→∃vs,v=.agg vs)∧(k.isAgg=false→v.cells=#[v]):=by
 unfold fD at hx
 split at hx
 ·rename_i Ty
  have qe:=CM hx
  have hv:=ni g hz hb (hr.cells qe)
  exact ⟨dy hx hv,fun h=>NH (by rw [←Ty];exact h) hr,fun h=>CO (by rw [←Ty];exact h) qe hr⟩
 ·cases hx
theorem qV{hh:Heap}{k:K}{a:AV}{x:k.T}{v:Value}(g:Good Z ψ hh.get w B0 O)(hz:∀b,Z b→Z' b)(hb:∀id b,AV.bC id∈a.cells→hh.get id≠none→ob (ψ id)=some b→Z' b)
  (hx:fD k hh a=some x) (hr:av Z ψ hh.get w a v):av Z' ψ' h' w (cg k x) v:=by
 obtain ⟨h1,h2,h3⟩:=sX g hz hb hx hr
 exact kY h1 h2 h3
theorem aF.flat:∀{k:K} {x:k.T} {vs:List Value},k.flat=true→aF Z w k x vs→aF Z' w' k x vs
 | .int _,_,_,_,h=>h
 | .bool,_,_,_,h=>h
 | .str,_,_,_,h=>h
 | .sl k,_,_,hf,_=>by simp [K.flat] at hf
 | .pair a b,x,_,hf,h=>by
  simp only [K.flat,Bool.and_eq_true] at hf
  simp only [aF] at h ⊢
  obtain ⟨us,ws,rfl,h1,h2⟩:=h
  exact ⟨us,ws,rfl,aF.flat hf.1 h1,aF.flat hf.2 h2⟩
 | .one k,x,_,hf,h=>by
  simp only [aF] at h ⊢
  exact aF.flat (k:=k) (by simpa only [K.flat] using hf) h
theorem yr:∀(k:K) (x y:k.T),k.flat=true→(qJ k x y=true↔x=y)
 | .int _,x,y,_=>by simp only [qJ];exact beq_iff_eq (α:=Int)
 | .bool,x,y,_=>by simp only [qJ];exact beq_iff_eq (α:=Bool)
 | .str,x,y,_=>by simp only [qJ];exact MapKept.bytes_beq x y
 | .sl _,_,_,hf=>by simp [K.flat] at hf
 | .mp _ _,_,_,hf=>by simp [K.flat] at hf
 | .pair a b,x,y,hf=>by
  simp only [K.flat,Bool.and_eq_true] at hf
  simp only [qJ,Bool.and_eq_true]
  rw [yr a _ _ hf.1,yr b _ _ hf.2]
  exact ⟨fun h=>Prod.ext h.1 h.2,fun h=>⟨congrArg Prod.fst h,congrArg Prod.snd h⟩⟩
 | .one k,x,y,hf=>by simp only [qJ];exact yr k x y (by simpa only [K.flat] using hf)
theorem oo:∀{k:K} {x:k.T} {us vs:List Value},k.flat=true→aF Z w k x us→aF Z' w' k x vs→us=vs
 | .int _,_,_,_,_,h1,h2=>by simp only [aF] at h1 h2;rw [h1,h2]
 | .bool,_,_,_,_,h1,h2=>by simp only [aF] at h1 h2;rw [h1,h2]
 | .str,_,_,_,_,h1,h2=>by simp only [aF] at h1 h2;rw [h1,h2]
 | .sl _,_,_,_,hf,_,_=>by simp [K.flat] at hf
 | .mp _ _,_,_,_,hf,_,_=>by simp [K.flat] at hf
 | .pair a b,x,_,_,hf,h1,h2=>by
  simp only [K.flat,Bool.and_eq_true] at hf
  simp only [aF] at h1 h2
  obtain ⟨a1,a2,rfl,h3,h4⟩:=h1
  obtain ⟨b1,b2,rfl,h5,h6⟩:=h2
  rw [oo hf.1 h3 h5,oo hf.2 h4 h6]
 | .one k,x,_,_,hf,h1,h2=>by
  simp only [aF] at h1 h2
  exact oo (k:=k) (by simpa only [K.flat] using hf) h1 h2
theorem qW:∀{k:K} {x:k.T} {us:List Value},k.flat=true→aF Z w k x us→∀u∈us,∀n,Instr.sameBits n u u=true
 | .int _,x,_,_,h1,u,hu,n=>by simp only [aF] at h1;subst h1;simp only [List.mem_singleton] at hu;subst hu;cases n<;>simp [Instr.sameBits]<;>exact beq_self_eq_true (α:=Int) x
 | .bool,x,_,_,h1,u,hu,n=>by simp only [aF] at h1;subst h1;simp only [List.mem_singleton] at hu;subst hu;cases n<;>simp [Instr.sameBits]<;>exact beq_self_eq_true (α:=Bool) x
 | .str,x,_,_,h1,u,hu,n=>by simp only [aF] at h1;subst h1;simp only [List.mem_singleton] at hu;subst hu;cases n<;>simp [Instr.sameBits]<;>exact (MapKept.bytes_beq x x).2 rfl
 | .sl _,_,_,hf,_,_,_,_=>by simp [K.flat] at hf
 | .mp _ _,_,_,hf,_,_,_,_=>by simp [K.flat] at hf
 | .pair a b,x,_,hf,h1,u,hu,n=>by
  simp only [K.flat,Bool.and_eq_true] at hf
  simp only [aF] at h1
  obtain ⟨a1,a2,rfl,h3,h4⟩:=h1
  rcases List.mem_append.1 hu with hu | hu
  ·exact qW hf.1 h3 u hu n
  ·exact qW hf.2 h4 u hu n
 | .one k,x,_,hf,h1,u,hu,n=>by
  simp only [aF] at h1
  exact qW (k:=k) (by simpa only [K.flat] using hf) h1 u hu n
def HX(b:Bool)(v:Value):Prop:=(b=true→∃vs,v=.agg vs)∧(b=false→v.cells=#[v])
theorem LA{b:Bool}{u v:Value}(h1:HX b u)(h2:HX b v)(h:u.cells.toList=v.cells.toList):u=v:=by
 cases b with
 | true =>
  obtain ⟨a,rfl⟩:=h1.1 rfl
  obtain ⟨c,rfl⟩:=h2.1 rfl
  have:a=c:=by simpa [Value.cells] using h
  rw [this]
 | false =>
  rw [h1.2 rfl,h2.2 rfl] at h
  simpa using h
theorem NI{k:K}{x:k.T}{u:Value}(hf:k.flat=true)(hr:aF Z w k x u.cells.toList)(hs:HX k.isAgg u):Instr.sameBits 10000 u u=true:=by
 have hb:=qW hf hr
 cases hk:k.isAgg with
 | false=>exact hb u (by rw [hs.2 hk];simp) _
 | true =>
  obtain ⟨a,rfl⟩:=hs.1 hk
  show Instr.sameBits (9999+1) (.agg a) (.agg a)=true
  simp only [Instr.sameBits,beq_self_eq_true,Bool.true_and,List.all_eq_true]
  intro p hp
  obtain ⟨i,hi,he⟩:=List.mem_iff_getElem.1 hp
  simp only [List.getElem_zip] at he
  subst he
  exact hb _ (List.getElem_mem (l:=(Value.agg a).cells.toList) (by simpa [Value.cells] using hi)) _
def Keys(Z:Nat→Prop)(w:World)(k:K)(ys:List k.T)(l:List MapEntry):Prop:=ys.length=l.length∧∀(i:Nat) y e,ys[i]? = some y→l[i]? = some e→aF Z w k y e.key.cells.toList∧HX k.isAgg e.key
theorem Keys.tail{k:K}{y:k.T}{ys:List k.T}{e:MapEntry}{l:List MapEntry}(h:Keys Z w k (y::ys) (e::l)):Keys Z w k ys l:=⟨by simpa using h.1,fun i a b h1 h2=>h.2 (i+1) a b (by simpa using h1) (by simpa using h2)⟩
theorem FJ{k:K}{x:k.T}{d:TypeDesc}{kv:Value}(hs:∀y Q5,aF Z w k y Q5.cells.toList→HX k.isAgg Q5→Instr.sameNow d kv Q5=some (qJ k x y)):∀(l:List MapEntry) (ys:List k.T) (i:Nat),Keys Z w k ys l →
  Instr.findNow d kv l i=some ((ys.findIdx? (qJ k x)).map fun j=>(i+j,((l[j]?).map (·.val)).getD undef))
 | [],ys,i,h=>by
  have:ys=[]:=List.eq_nil_of_length_eq_zero (by simpa using h.1)
  subst this;rfl
 | e::l,[],i,h=>by have:=h.1;simp at this
 | e::l,y::ys,i,h=>by
  obtain ⟨h1,h2⟩:=h.2 0 y e rfl rfl
  have ih:=FJ hs l ys (i+1) h.tail
  simp only [Instr.findNow,hs y _ h1 h2,List.findIdx?_cons]
  cases qJ k x y with
  | true=>simp
  | false =>
   simp only [ih,Bool.false_eq_true,if_false]
   cases ys.findIdx? (qJ k x) with
   | none=>rfl
   | some j=>simp;omega
theorem xi{k:K}{x:k.T}{t:TypeId}{kv:Value}(hs:∀y Q5,aF Z w k y Q5.cells.toList→HX k.isAgg Q5→(Op.equal t kv Q5).run P w=.ok (qJ k x y) w):∀(l:List MapEntry) (ys:List k.T) (i:Nat),Keys Z w k ys l →
  (Instr.findAsking t kv l i).run P w=.ok ((ys.findIdx? (qJ k x)).map fun j=>(i+j,((l[j]?).map (·.val)).getD undef)) w
 | [],ys,i,h=>by
  have:ys=[]:=List.eq_nil_of_length_eq_zero (by simpa using h.1)
  subst this;rfl
 | e::l,[],i,h=>by have:=h.1;simp at this
 | e::l,y::ys,i,h=>by
  obtain ⟨h1,h2⟩:=h.2 0 y e rfl rfl
  have ih:=xi hs l ys (i+1) h.tail
  simp only [Instr.findAsking,Sem.run_bind,hs y _ h1 h2,Result.andThen_ok,List.findIdx?_cons]
  cases qJ k x y with
  | true=>simp
  | false =>
   simp only [ih,Bool.false_eq_true,if_false]
   cases ys.findIdx? (qJ k x) with
   | none=>rfl
   | some j=>simp;omega
structure NJ(P:Program)(t:TypeId)(k:K):Prop where
 flat:k.flat=true
 check:∀(Z:Nat→Prop) (w:World) (x:k.T) (kv:Value) (e:Bool),aF Z w k x kv.cells.toList→HX k.isAgg kv→(Instr.checkKey e 10000 t kv).run P w=.ok () w
 find:∀(Z:Nat→Prop) (w:World) (x:k.T) (kv:Value) (l:List MapEntry) (ys:List k.T),aF Z w k x kv.cells.toList→HX k.isAgg kv→Keys Z w k ys l →
  (Instr.findKey t kv l).run P w=.ok ((ys.findIdx? (qJ k x)).map fun j=>(j,((l[j]?).map (·.val)).getD undef)) w
theorem oq{t:TypeId}{k:K}{d:TypeDesc}(hf:k.flat=true)(hk:k.isAgg=false)(hd:P.underlying t=some d)(hc:∀(Z:Nat→Prop) (w:World) (x:k.T) (kv:Value),aF Z w k x [kv]→MapKept.IsKey d kv)
  (hs:∀(Z:Nat→Prop) (w:World) (x y:k.T) (u v:Value),aF Z w k x [u]→aF Z w k y [v]→Instr.sameNow d u v=some (qJ k x y)):NJ P t k:=by
 have one:∀{Z:Nat→Prop} {w:World} {x:k.T} {kv:Value},aF Z w k x kv.cells.toList→HX k.isAgg kv→aF Z w k x [kv]:=fun {Z w x kv} h1 h2=>by
  rw [h2.2 hk] at h1;exact h1
 refine ⟨hf,fun Z w x kv e h1 h2=>MapKept.run_checkKey hd (hc Z w x kv (one h1 h2)) e 9999,fun Z w x kv l ys h1 h2 h3 => ?_⟩
 have:=FJ (Z:=Z) (w:=w) (x:=x) (d:=d) (kv:=kv) (fun y Q5 h4 h5=>hs Z w x y kv Q5 (one h1 h2) (one h4 h5)) l ys 0 h3
 simp only [Nat.zero_add] at this
 exact MapKept.run_findKey hd this
theorem FK(d:TypeDesc)(a:Array Value)(v:Value):Instr.sameNow d (.agg a) v=none:=by cases d<;>cases v<;>rfl
theorem vx{Eqs:TypeId→Option K}(BZ:∀t k,Eqs t=some k→kZ P t k){t:TypeId}{k:K}(hk:Ka P Eqs t k=true):NJ P t k:=by
 unfold Ka at hk
 rw [Bool.and_eq_true] at hk
 obtain ⟨hf,hk⟩:=hk
 split at hk
 ·rename_i ik WT hd
  simp only [decide_eq_true_eq] at hk
  subst hk
  exact oq hf rfl hd (fun Z w x kv hr=>by simp only [aF] at hr;cases hr;simp [MapKept.IsKey]) (fun Z w x y u v h1 h2=>by simp only [aF] at h1 h2;cases h1;cases h2;simp [Instr.sameNow,qJ])
 ·rename_i hd
  exact oq hf rfl hd (fun Z w x kv hr=>by simp only [aF] at hr;cases hr;simp [MapKept.IsKey]) (fun Z w x y u v h1 h2=>by simp only [aF] at h1 h2;cases h1;cases h2;simp [Instr.sameNow,qJ])
 ·rename_i hd
  exact oq hf rfl hd (fun Z w x kv hr=>by simp only [aF] at hr;cases hr;simp [MapKept.IsKey]) (fun Z w x y u v h1 h2=>by simp only [aF] at h1 h2;cases h1;cases h2;simp [Instr.sameNow,qJ])
 ·simp only [Bool.and_eq_true,decide_eq_true_eq] at hk
  obtain ⟨Ty,hk⟩:=hk
  have fact:=BZ _ _ hk
  have agg:∀{b:Bool} {u:Value},b=true→HX b u→∃a,u=.agg a:=fun hb h=>h.1 hb
  refine ⟨hf,fun Z w x kv e h1 h2 => ?_,fun Z w x kv l ys h1 h2 h3 => ?_⟩
  ·obtain ⟨a,rfl⟩:=agg Ty h2
   exact (fact Z w x x a a h1 h1).2.2 e
  ·obtain ⟨a,rfl⟩:=agg Ty h2
   have h4:=xi (P:=P) (t:=t) (Z:=Z) (w:=w) (x:=x) (kv:=.agg a) (fun y Q5 h4 h5=>by
    obtain ⟨b,rfl⟩:=agg Ty h5
    exact (fact Z w x y a b h1 h4).1) l ys 0 h3
   simp only [Nat.zero_add] at h4
   cases l with
   | nil =>
    have:ys=[]:=List.eq_nil_of_length_eq_zero (by simpa using h3.1)
    subst this
    cases hu:P.underlying t with
    | none =>
     have hc:=(fact Z w x x a a h1 h1).2.2 true
     exfalso
     unfold Instr.checkKey at hc
     simp [underlying,hu] at hc
    | some d=>simp [Instr.findKey,run_underlying hu,Instr.findNow]
   | cons e l =>
    cases hu:P.underlying t with
    | none =>
     have hc:=(fact Z w x x a a h1 h1).2.2 true
     exfalso
     unfold Instr.checkKey at hc
     simp [underlying,hu] at hc
    | some d=>simp only [Instr.findKey,Sem.run_bind,run_underlying hu,Result.andThen_ok,Instr.findNow,FK];exact h4
section
variable {kk vk:K} {es:List (kk.T×vk.T)} {l:List MapEntry}
abbrev jV(Z:Nat→Prop)(w:World)(kk vk:K)(es:List (kk.T×vk.T))(l:List MapEntry):Prop:=DZ (aF Z w kk) (aF Z w vk) kk.isAgg vk.isAgg es l
theorem jV.keys(h:jV Z w kk vk es l):Keys Z w kk (es.map (·.1)) l :=
 ⟨by rw [List.length_map];exact h.1,fun i y e h1 h2=>by
  rw [List.getElem?_map] at h1
  obtain ⟨x,h3,rfl⟩:=Option.map_eq_some_iff.1 h1
  exact (h.2 i x e h3 h2).1⟩
theorem zH{x:kk.T}:(es.map (·.1)).findIdx? (qJ kk x)=sI kk x es:=by unfold sI;rw [List.findIdx?_map];rfl
theorem D4{x:kk.T}{i:Nat}(h:sI kk x es=some i):i<es.length:=by
 unfold sI at h
 exact (List.findIdx?_eq_some_iff_getElem.1 h).1
theorem RB{x:kk.T}{i:Nat}(h:sI kk x es=some i):∃e,es[i]? = some e∧qJ kk x e.1=true:=by
 unfold sI at h
 obtain ⟨h1,h2,_⟩:=List.findIdx?_eq_some_iff_getElem.1 h
 exact ⟨_,List.getElem?_eq_getElem h1,h2⟩
def NK(Z:Nat→Prop)(w:World)(kk vk:K)(x:kk.T×vk.T)(e:MapEntry):Prop:=(aF Z w kk x.1 e.key.cells.toList∧HX kk.isAgg e.key)∧aF Z w vk x.2 e.val.cells.toList∧HX vk.isAgg e.val
theorem jV.set(h:jV Z w kk vk es l)(i:Nat){x:kk.T×vk.T}{f:MapEntry→MapEntry}(ho:∀e,l[i]? = some e→NK Z w kk vk x (f e)):jV Z w kk vk (es.set i x) (l.modify i f):=by
 refine ⟨by simp [h.1],fun j y e h1 h2 => ?_⟩
 rw [List.getElem?_modify] at h2
 obtain ⟨e0,h3,h4⟩:=Option.map_eq_some_iff.1 h2
 by_cases yu:i=j
 ·subst yu
  rw [if_pos rfl] at h4
  have aE:i<es.length:=by rw [h.1];exact (List.getElem?_eq_some_iff.1 h3).1
  rw [List.getElem?_set_self aE] at h1
  cases h1
  subst h4
  exact ho e0 h3
 ·rw [if_neg yu] at h4
  rw [List.getElem?_set_ne yu] at h1
  subst h4
  exact h.2 j y e0 h1 h3
theorem jV.push(h:jV Z w kk vk es l){x:kk.T×vk.T}{e:MapEntry}(ho:NK Z w kk vk x e):jV Z w kk vk (es++[x]) (l++[e]):=by
 refine ⟨by simp [h.1],fun j y e' h1 h2 => ?_⟩
 by_cases hj:j<es.length
 ·rw [List.getElem?_append_left hj] at h1
  rw [List.getElem?_append_left (by rw [←h.1];exact hj)] at h2
  exact h.2 j y e' h1 h2
 ·rw [List.getElem?_append_right (by omega)] at h1
  rw [List.getElem?_append_right (by have:=h.1;omega),←h.1] at h2
  by_cases h0:j - es.length=0
  ·rw [h0] at h1 h2;cases h1;cases h2;exact ho
  ·rw [List.getElem?_eq_none (by simp;omega)] at h1;cases h1
theorem jV.erase(h:jV Z w kk vk es l)(i:Nat):jV Z w kk vk (es.eraseIdx i) (l.eraseIdx i):=by
 refine ⟨by rw [List.length_eraseIdx,List.length_eraseIdx,h.1],fun j y e h1 h2 => ?_⟩
 rw [List.getElem?_eraseIdx] at h1 h2
 split at h1
 ·rename_i hj;rw [if_pos hj] at h2;exact h.2 j y e h1 h2
 ·rename_i hj;rw [if_neg hj] at h2;exact h.2 (j+1) y e h1 h2
theorem jV.mono(h:jV Z w kk vk es l)(hz:∀b,Z b→Z' b)(hs:cp Z w w'):jV Z' w' kk vk es l:=DZ.imp (fun _ _ h=>h.mono hz hs) (fun _ _ h=>h.mono hz hs) h
end
theorem sY{Eqs:TypeId→Option K}{t:TypeId}{kk vk:K}(h:mapOf P Eqs t=some (kk,vk)):∃a b,P.underlying t=some (.map a b)∧Ka P Eqs a kk=true∧J9 P b vk=true:=by
 unfold mapOf at h
 split at h
 ·rename_i a b hu
  split at h
  ·split at h
   ·rename_i hc
    cases h
    rw [Bool.and_eq_true] at hc
    exact ⟨a,b,hu,hc.1,hc.2⟩
   ·cases h
  ·cases h
 ·cases h
theorem Iq{b:TypeId}{vk:K}(h:J9 P b vk=true):∃z,(zeroValue b).run P w=.ok z w∧aF Z w vk (o9 vk) z.cells.toList∧HX vk.isAgg z:=by
 unfold J9 at h
 split at h
 ·rename_i i hi
  split at h
  ·rename_i z hz
   refine ⟨z,tR hi hz,?_⟩
   unfold No at h
   split at h
   ·simp only [decide_eq_true_eq] at h;obtain ⟨rfl,rfl⟩:=h;exact ⟨by simp only [aF];rfl,fun h=>(by cases h),fun _=>rfl⟩
   ·rename_i b;simp only [Bool.not_eq_true'] at h;subst h;exact ⟨by simp only [aF];rfl,fun h=>(by cases h),fun _=>rfl⟩
   ·simp only [decide_eq_true_eq] at h;subst h;exact ⟨by simp only [aF];rfl,fun h=>(by cases h),fun _=>rfl⟩
   ·simp only [decide_eq_true_eq] at h;obtain ⟨rfl,rfl,rfl⟩:=h
    exact ⟨by simp only [aF];exact ⟨_,rfl,none,0,rfl,Nat.le_refl _,fun _=>rfl,fun i x hx=>by simp [o9] at hx⟩,fun h=>(by cases h),fun _=>rfl⟩
   ·cases h
  ·cases h
 ·cases h
theorem Kc{hh:Heap}(g:Good Z ψ h w B0 O)(bp:∀id o,hh.get id=some o→h id=some o){m:AV}{u:Value}{kk vk:K}{es:List (kk.T×vk.T)}(hm:av Z ψ h w m u)(hv:cG hh m=.mp kk vk es) :
  ∃A,u=.map A∧((A=none∧es=[])∨∃r bR clock,A=some r∧w.heap[r]? = some (.map bR clock)∧jV Z w kk vk es bR.toList):=by
 cases m with
 | mp J8 Rr NL =>
  simp only [cG] at hv
  cases hv
  simp only [av,aF] at hm
  obtain ⟨A,h1,h2⟩:=hm
  cases h1
  refine ⟨A,rfl,h2.imp (fun h=>h) fun ⟨m,bR,clock,h3,_,h4,h5⟩=>⟨m,bR,clock,h3,h4,h5⟩⟩
 | bC id =>
  simp only [cG] at hv
  split at hv
  ·cases hv
  ·rename_i J8 Rr NL hg
   cases hv
   have ve:=bp _ _ hg
   simp only [av] at hm
   have:=hm.2 (by rw [ve];simp)
   subst this
   obtain ⟨r,bR,clock,h1,h2,h3,_⟩:=g.row id (.map kk vk) es ve
   exact ⟨some r,h1,.inr ⟨r,bR,clock,rfl,h2,h3⟩⟩
  ·cases hv
 | _=>simp only [cG] at hv;cases hv
theorem Ir{hh:Heap}(g:Good Z ψ h w B0 O)(bp:∀id o,hh.get id=some o→h id=some o){k:K}(hf:k.flat=true){a:AV}{x:k.T}{v:Value}(hx:fD k hh a=some x)(hr:av Z ψ h w a v):aF Z w k x v.cells.toList∧HX k.isAgg v:=by
 obtain ⟨h1,h2,h3⟩:=sX (Z':=fun b=>b<w.heap.size) (g.sub bp) (fun b hb=>g.jw b hb) (fun id b _ h1 h2=>(g.sub bp).bJ ⟨id,h1,h2⟩) hx (hr.less (fun _ h=>h) (cp.refl _ _) (fun id bI=>by
  obtain ⟨o,ho⟩:=Option.ne_none_iff_exists'.1 bI
  exact ⟨by rw [bp id o ho];simp,rfl⟩))
 exact ⟨h1.flat hf,h2,h3⟩
theorem D5{Eqs:TypeId→Option K}(BZ:∀t k,Eqs t=some k→kZ P t k){hh:Heap}(g:Good Z ψ h w B0 O)(bp:∀id o,hh.get id=some o→h id=some o){t:TypeId}{m i:AV}{u v:Value}{ok:Bool}{e:bA}
  (hm:av Z ψ h w m u) (hi:av Z ψ h w i v) (he:m6 P Eqs hh t m i ok some=some e):∃y V,e=.val y∧(Instr.lookup t u v ok).run P w=.ok V w∧av Z ψ h w y V:=by
 unfold m6 at he
 split at he
 ·rename_i ka va kk vk es WV hv
  split at he
  ·rename_i hc
   obtain ⟨rfl,rfl⟩:=hc
   split at he
   ·rename_i x hx
    cases he
    obtain ⟨a,b,hu,hk,hz⟩:=sY WV
    have K:=vx BZ hk
    obtain ⟨Is,mW⟩:=Ir g bp K.flat hx hi
    obtain ⟨z,xg,BY,HV⟩:=Iq (Z:=Z) (w:=w) hz
    have fin:∀(l:List MapEntry),jV Z w kk vk es l→∃V,((∃j,(Instr.findKey a v l).run P w=.ok (some (j,V)) w∧(iL kk x es).isSome=true)∨((Instr.findKey a v l).run P w=.ok none w∧(zeroValue b).run P w=.ok V w∧(iL kk x es).isSome=false)) ∧
      aF Z w vk ((iL kk x es).getD (o9 vk)) V.cells.toList∧HX vk.isAgg V:=by
     intro l hE
     have hf:=K.find Z w x v l (es.map (·.1)) Is mW hE.keys
     rw [zH] at hf
     cases CP:sI kk x es with
     | none =>
      rw [CP] at hf
      exact ⟨z,.inr ⟨hf,xg,by simp [iL,CP]⟩,by simpa [iL,CP] using BY,HV⟩
     | some j =>
      rw [CP] at hf
      have hj:=D4 CP
      have h1:es[j]? = some es[j]:=List.getElem?_eq_getElem hj
      have HY:j<l.length:=by rw [←hE.1];exact hj
      have h2:l[j]? = some l[j]:=List.getElem?_eq_getElem HY
      obtain ⟨_,h3,h4⟩:=hE.2 j _ _ h1 h2
      refine ⟨l[j].val,.inl ⟨j,?_,by simp [iL,CP,h1]⟩,by simpa [iL,CP,h1] using h3,h4⟩
      rw [hf];simp only [Option.map_some,h2,Option.getD_some]
    have out:∀V:Value,aF Z w vk ((iL kk x es).getD (o9 vk)) V.cells.toList→HX vk.isAgg V→av Z ψ h w (cond ok (AV.mV [cg vk ((iL kk x es).getD (o9 vk)),.bool (iL kk x es).isSome]) (cg vk ((iL kk x es).getD (o9 vk)))) (if ok then .tuple #[V,.bool (iL kk x es).isSome] else V):=by
     intro V h1 h2
     have h3:av Z ψ h w (cg vk ((iL kk x es).getD (o9 vk))) V:=kY h1 h2.1 h2.2
     cases ok with
     | false=>exact h3
     | true=>simp only [cond_true,if_true,av,aq];exact ⟨_,rfl,V,[.bool (iL kk x es).isSome],by simp,h3,_,[],rfl,rfl,rfl⟩
    obtain ⟨A,rfl,hA⟩:=Kc g bp hm hv
    rcases hA with ⟨rfl,rfl⟩ | ⟨r,bR,clock,rfl,h3,h4⟩
    ·obtain ⟨V,h5,h6,h7⟩:=fin [] ⟨rfl,fun i x e h=>by simp at h⟩
     refine ⟨_,_,rfl,?_,out V h6 h7⟩
     simp only [Instr.lookup,Sem.run_bind,run_underlying hu,Result.andThen_ok,Sem.run_pure,K.check Z w x v _ Is mW]
     rcases h5 with ⟨j,h8,h9⟩ | ⟨h8,h9,mI⟩
     ·simp [h8,h9]
     ·simp [h8,h9,mI]
    ·obtain ⟨V,h5,h6,h7⟩:=fin bR.toList h4
     refine ⟨_,_,rfl,?_,out V h6 h7⟩
     simp only [Instr.lookup,Sem.run_bind,run_underlying hu,Result.andThen_ok,Sem.run_pure,MapKept.run_getObj_map h3,K.check Z w x v _ Is mW]
     rcases h5 with ⟨j,h8,h9⟩ | ⟨h8,h9,mI⟩
     ·simp [h8,h9]
     ·simp [h8,h9,mI]
   ·cases he
  ·cases he
 ·cases he
end Go.Vs
namespace Go.Vs
variable {P:Program} {Z Z':Nat→Prop} {ψ ψ':Nat→Value} {h h':Hp} {w w':World} {B0:Nat} {O:Nat→Prop} {N:Nat→Prop}
theorem vz{r b:Nat}(o:Obj)(bc:r≠b):(w.heap.setIfInBounds r o)[b]? = w.heap[b]? := by rw [Array.getElem?_setIfInBounds];simp [bc]
theorem cV.acn{r:Nat}(ho:Own ψ h r)(o:Obj):cV ψ h w { w with heap:=w.heap.setIfInBounds r o } :=
 ⟨rfl,rfl,rfl,by simp,fun b _ hb=>vz o (fun e=>hb (e▸ho))⟩
theorem qX{hp:Hp}(g:Good Z ψ hp w B0 O){id:Nat}(bI:hp id≠none){r:Nat}(hr:ob (ψ id)=some r)(aE:r<w.heap.size)(o:Obj){ok:OK}{x:ok.T}
  (hx:∀w':World,w'.heap=w.heap.setIfInBounds r o→cp Z w w'→jq Z w' ok (ψ id) x) :
  Next Z ψ hp w B0 O N Z ψ (dJ hp id (some (.own ok x))) { w with heap:=w.heap.setIfInBounds r o }:=by
 have ho:Own ψ hp r:=⟨id,bI,hr⟩
 have kk:=cV.acn (w:=w) ho o
 refine g.write id bI kk (fun b hb _=>vz o (fun e=>hb (by rw [hr,e]))) _ (fun _ _ he=>by cases he) (fun WU x' he => ?_)
 cases he
 exact hx _ rfl (kk.same g)
theorem xj{l:List MapEntry}{i:Nat}{f:MapEntry→MapEntry}(hf:∀e,(f e).born=e.born):(l.modify i f).map (·.born)=l.map (·.born):=by
 apply List.ext_getElem?
 intro j
 simp only [List.getElem?_map,List.getElem?_modify]
 cases l[j]? with
 | none=>rfl
 | some e=>simp only [Option.map_some];split<;>simp [hf]
theorem vA{l:List MapEntry}:l.Pairwise (fun a b=>a.born≠b.born)↔(l.map (·.born)).Pairwise (·≠·):=by rw [List.pairwise_map]
theorem tV{Eqs:TypeId→Option K}(BZ:∀t k,Eqs t=some k→kZ P t k){hh:Heap}(g:Good Z ψ hh.get w B0 O){t:TypeId}{m i v:AV}{u1 u2 u3:Value}{e:bA}
  (hm:av Z ψ hh.get w m u1) (hi:av Z ψ hh.get w i u2) (hv:av Z ψ hh.get w v u3) (he:iq P Eqs hh t m i v some=some e) :
  ∃hw w' Z',e=.wr (.mV []) hw∧(Instr.mapUpdate t u1 u2 u3).run P w=.ok () w'∧Next Z ψ hh.get w B0 O N Z' ψ hw.get w':=by
 unfold iq at he
 split at he
 ·rename_i ka va id WV
  split at he
  ·rename_i kk vk es hg
   split at he
   ·rename_i hc
    obtain ⟨rfl,rfl⟩:=hc
    split at he
    ·rename_i x y hx hy qe
     cases he
     obtain ⟨a,b,hu,hk,_⟩:=sY WV
     have K:=vx BZ hk
     obtain ⟨Is,mW⟩:=Ir g (fun _ _ h=>h) K.flat hx hi
     simp only [av] at hm
     have Q6:=hm.2 (by rw [hg];simp)
     obtain ⟨r,bR,clock,h1,h2,h3,h4,h5⟩:=g.row id (.map kk vk) es hg
     rw [h1] at Q6
     subst Q6
     have bI:AV.bC id∉v.cells:=fun hc=>by
      have:=List.all_eq_true.1 qe _ hc
      simp at this
     have gd:=hY g v.cells
     have hgd:(cE hh v.cells).get id=some (.own (.map kk vk) es):=by rw [oc _ _ _ bI];exact hg
     obtain ⟨tU,xe,hv3⟩:=sX (Z':=pP Z ψ hh.get v.cells) g (fun b hb=>.inl hb) (fun id b h1 h2 h3=>.inr ⟨id,h1,h2,h3⟩) hy hv
     have XI:aF (pP Z ψ hh.get v.cells) w kk x u2.cells.toList:=Is.flat K.flat
     have aE:=(Array.getElem?_eq_some_iff.1 h2).1
     have jy:ob (ψ id)=some r:=by rw [h1];rfl
     have hE:jV (pP Z ψ hh.get v.cells) w kk vk es bR.toList:=jV.mono h3 (fun b hb=>.inl hb) (cp.refl _ _)
     have hf:=K.find Z w x u2 bR.toList (es.map (·.1)) Is mW (jV.keys h3)
     rw [zH] at hf
     have fin:∀(o:Obj) (NL:List (kk.T×vk.T)) (l6:Array MapEntry) (zJ:Nat),o=.map l6 zJ→jV (pP Z ψ hh.get v.cells) w kk vk NL l6.toList→(l6.toList.map (·.born)).Pairwise (·≠·)→(∀e∈l6.toList,e.born<zJ) →
       Next Z ψ hh.get w B0 O N (pP Z ψ hh.get v.cells) ψ ((cE hh v.cells).set id (.own (.map kk vk) NL)).get { w with heap:=w.heap.setIfInBounds r o }:=by
      rintro o NL l6 zJ rfl h6 h7 h8
      rw [lY]
      have n:=qX (N:=N) gd (by rw [hgd];simp) jy aE (.map l6 zJ) (ok:=.map kk vk) (x:=NL) (fun w' It sm=>⟨r,l6,zJ,h1,by rw [It];simp [aE],jV.mono h6 (fun _ h=>h) sm,vA.2 h7,h8⟩)
      exact n.drop (fun b hb=>.inl hb) (fun b hb=>hb.imp (fun h=>h) (fun ⟨i,_,h5,h6⟩=>⟨i,h5,h6⟩)) (dP _ _)
     cases CP:sI kk x es with
     | none =>
      rw [CP] at hf
      refine ⟨_,{ w with heap:=w.heap.setIfInBounds r (.map (bR.push { key:=u2,val:=u3,born:=clock }) (clock+1)) },pP Z ψ hh.get v.cells,rfl,?_,?_⟩
      rotate_left
      ·rw [show lQ kk x y es=es++[(x,y)] by simp [lQ,CP]]
       refine fin _ _ (bR.push { key:=u2,val:=u3,born:=clock }) (clock+1) rfl ?_ ?_ ?_
       ·rw [Array.toList_push]
        exact hE.push ⟨⟨XI,mW⟩,tU,xe,hv3⟩
       ·rw [Array.toList_push,List.map_append,List.pairwise_append]
        refine ⟨vA.1 h4,by simp,fun a ha b hb => ?_⟩
        simp only [List.map_cons,List.map_nil,List.mem_singleton] at hb
        obtain ⟨e,he,rfl⟩:=List.mem_map.1 ha
        have:=h5 e he
        omega
       ·intro e he
        rw [Array.toList_push] at he
        rcases List.mem_append.1 he with he | he
        ·have:=h5 e he;omega
        ·simp only [List.mem_singleton] at he;subst he;exact Nat.lt_succ_self _
      ·simp only [Instr.mapUpdate,Sem.run_bind,run_underlying hu,Result.andThen_ok,MapKept.run_getObj_map h2,K.check Z w x u2 _ Is mW,hf,Option.map_none,MapKept.run_setObj_map _ h2]
     | some j =>
      rw [CP] at hf
      have hj:=D4 CP
      obtain ⟨e0,Tz,heq⟩:=RB CP
      have HY:j<bR.toList.length:=by rw [←h3.1];exact hj
      have hl:bR.toList[j]? = some bR.toList[j]:=List.getElem?_eq_getElem HY
      have Q7:bR[j]? = some bR.toList[j]:=by rw [←hl];simp
      obtain ⟨⟨XJ,aco⟩,_⟩:=h3.2 j _ _ Tz hl
      have rT:bR.toList[j].key=u2:=by
       refine LA aco mW ?_
       rw [←(yr kk x e0.1 K.flat).1 heq] at XJ
       exact oo K.flat XJ Is
      have TA:(Instr.keyThatStays u2 u2).run P w=.ok u2 w:=by simp [Instr.keyThatStays,NI K.flat Is mW]
      refine ⟨_,{ w with heap:=w.heap.setIfInBounds r (.map (bR.modify j fun e=>{ e with key:=u2,val:=u3 }) clock) },pP Z ψ hh.get v.cells,rfl,?_,?_⟩
      rotate_left
      ·rw [show lQ kk x y es=es.set j (x,y) by simp [lQ,CP]]
       refine fin _ _ (bR.modify j fun e=>{ e with key:=u2,val:=u3 }) clock rfl ?_ ?_ ?_
       ·rw [Array.toList_modify]
        exact hE.set j (fun e he=>⟨⟨XI,mW⟩,tU,xe,hv3⟩)
       ·rw [Array.toList_modify,xj (f:=fun e:MapEntry=>{ e with key:=u2,val:=u3 }) (fun _=>rfl)];exact vA.1 h4
       ·intro e he
        have:e.born∈(bR.modify j fun e=>{ e with key:=u2,val:=u3 }).toList.map (·.born):=List.mem_map.2 ⟨e,he,rfl⟩
        rw [Array.toList_modify,xj (f:=fun e:MapEntry=>{ e with key:=u2,val:=u3 }) (fun _=>rfl)] at this
        obtain ⟨e',UB,h6⟩:=List.mem_map.1 this
        rw [←h6];exact h5 e' UB
      ·simp only [Instr.mapUpdate,Sem.run_bind,run_underlying hu,Result.andThen_ok,MapKept.run_getObj_map h2,K.check Z w x u2 _ Is mW,hf,Option.map_some,Q7,Option.getD_some,rT,TA,MapKept.run_setObj_map _ h2]
    ·cases he
   ·cases he
  ·cases he
 ·cases he
theorem tW{Eqs:TypeId→Option K}(BZ:∀t k,Eqs t=some k→kZ P t k){hh:Heap}(g:Good Z ψ hh.get w B0 O){t ty:TypeId}{ts:List TypeId}{m i:AV}{u1 u2:Value}{e:bA}
  (hm:av Z ψ hh.get w m u1) (hi:av Z ψ hh.get w i u2) (he:m8 P Eqs hh t m i some=some e) :
  ∃hw w',e=.wr (.mV []) hw∧(Builtin.delete_ (t::ts).toArray ty #[u1,u2]).run P w=.ok (.tuple #[]) w'∧Next Z ψ hh.get w B0 O N Z ψ hw.get w':=by
 unfold m8 at he
 split at he
 ·rename_i ka va id WV
  split at he
  ·rename_i kk vk es hg
   split at he
   ·rename_i hc
    obtain ⟨rfl,rfl⟩:=hc
    split at he
    ·rename_i x hx
     cases he
     obtain ⟨a,b,hu,hk,_⟩:=sY WV
     have K:=vx BZ hk
     obtain ⟨Is,mW⟩:=Ir g (fun _ _ h=>h) K.flat hx hi
     simp only [av] at hm
     have Q6:=hm.2 (by rw [hg];simp)
     obtain ⟨r,bR,clock,h1,h2,h3,h4,h5⟩:=g.row id (.map kk vk) es hg
     rw [h1] at Q6
     subst Q6
     have aE:=(Array.getElem?_eq_some_iff.1 h2).1
     have jy:ob (ψ id)=some r:=by rw [h1];rfl
     have hf:=K.find Z w x u2 bR.toList (es.map (·.1)) Is mW (jV.keys h3)
     rw [zH] at hf
     have fin:∀(o:Obj) (NL:List (kk.T×vk.T)) (l6:Array MapEntry),o=.map l6 clock→jV Z w kk vk NL l6.toList→l6.toList.Sublist bR.toList →
       Next Z ψ hh.get w B0 O N Z ψ (hh.set id (.own (.map kk vk) NL)).get { w with heap:=w.heap.setIfInBounds r o }:=by
      rintro o NL l6 rfl h6 h7
      rw [lY]
      exact qX (N:=N) g (by rw [hg];simp) jy aE (.map l6 clock) (ok:=.map kk vk) (x:=NL) (fun w' It sm=>⟨r,l6,clock,h1,by rw [It];simp [aE],jV.mono h6 (fun _ h=>h) sm,h4.sublist h7,fun e he=>h5 e (h7.subset he)⟩)
     cases CP:sI kk x es with
     | none =>
      rw [CP] at hf
      refine ⟨_,{ w with heap:=w.heap.setIfInBounds r (.map bR clock) },rfl,?_,?_⟩
      rotate_left
      ·rw [show Nn kk x es=es by simp [Nn,CP]]
       exact fin _ _ bR rfl h3 (List.Sublist.refl _)
      ·simp [Builtin.delete_,run_underlying hu,MapKept.run_getObj_map h2,K.check Z w x u2 _ Is mW,hf,MapKept.run_setObj_map _ h2]
     | some j =>
      rw [CP] at hf
      have hj:=D4 CP
      refine ⟨_,{ w with heap:=w.heap.setIfInBounds r (.map (bR.eraseIdxIfInBounds j) clock) },rfl,?_,?_⟩
      rotate_left
      ·rw [show Nn kk x es=es.eraseIdx j by simp [Nn,CP]]
       refine fin _ _ (bR.eraseIdxIfInBounds j) rfl ?_ ?_
       ·rw [Array.toList_eraseIdxIfInBounds];exact jV.erase h3 j
       ·rw [Array.toList_eraseIdxIfInBounds];exact List.eraseIdx_sublist _ _
      ·simp [Builtin.delete_,run_underlying hu,MapKept.run_getObj_map h2,K.check Z w x u2 _ Is mW,hf,MapKept.run_setObj_map _ h2]
    ·cases he
   ·cases he
  ·cases he
 ·cases he
theorem Iu{hh:Heap}(g:Good Z ψ h w B0 O)(bp:∀id o,hh.get id=some o→h id=some o){t ty:TypeId}{x:AV}{u:Value}{e:bA}(ht:H9 P t=true)(hx:av Z ψ h w x u)(he:vm hh x some=some e) :
  ∃n:Nat,e=.val (.int .i64 (n:Int))∧(Builtin.len_ #[t] ty #[u]).run P w=.ok (.int .i64 (n:Int)) w:=by
 unfold vm at he
 split at he
 ·rename_i kk vk es hv
  cases he
  have hu:∃a b,P.underlying t=some (.map a b):=by
   unfold H9 at ht
   split at ht
   ·exact ⟨_,_,by assumption⟩
   ·cases ht
  obtain ⟨a,b,hu⟩:=hu
  obtain ⟨A,rfl,hA⟩:=Kc g bp hx hv
  rcases hA with ⟨rfl,rfl⟩ | ⟨r,bR,clock,rfl,h3,h4⟩
  ·exact ⟨0,rfl,by simp [Builtin.len_,run_underlying hu,goInt]⟩
  ·refine ⟨es.length,rfl,?_⟩
   have:bR.size=es.length:=by rw [h4.1];simp
   simp [Builtin.len_,run_underlying hu,MapKept.run_getObj_map h3,goInt,this]
 ·cases he
theorem zK(g:Good Z ψ h w B0 O)(hB:B0≤w.heap.size)(id:Nat)(hN:N id){ok:OK}{x:ok.T}{v:Value}(o:Obj)(ho:jq Z (w.alloc o) ok v x)(hb:ob v=some w.heap.size)
  (bf:∀i ty cs,h i=some (.box ty cs)→aB (fun i=>i≠id) cs):Next Z ψ h w B0 O N Z (dJ ψ id v) (dJ h id (some (.own ok x))) (w.alloc o) :=
 Fy g hB id hN (cV.alloc _ _ _ _) (fun b hb=>heap_alloc_old w _ (g.bJ hb)) ho (fun b vB=>by rw [hb] at vB;cases vB;exact Nat.le_refl _) bf
theorem Cc{Eqs:TypeId→Option K}(g:Good Z ψ h w B0 O)(hB:B0≤w.heap.size){id:Nat}(hN:N id){t:TypeId}{e:bA}(bf:∀i ty cs,h i=some (.box ty cs)→aB (fun i=>i≠id) cs)(he:kI P Eqs id t some=some e) :
  ∃v w' ψ',(Instr.makeMap t none).run P w=.ok v w'∧Next Z ψ h w B0 O N Z ψ' (e.hp h) w'∧av Z ψ' (e.hp h) w' e.v v:=by
 unfold kI at he
 split at he
 ·rename_i kk vk WV
  cases he
  refine ⟨.map (some w.heap.size),w.alloc (.map #[] 0),dJ ψ id (.map (some w.heap.size)),rfl,?_,?_⟩
  ·simp only [bA.hp];rw [hZ]
   exact zK g hB id hN (ok:=.map kk vk) (x:=[]) _ ⟨w.heap.size,#[],0,rfl,heap_alloc_new _ _,⟨rfl,fun i x e h=>by simp at h⟩,by simp,by simp⟩ rfl bf
  ·simp only [bA.v,bA.hp,av]
   exact ⟨⟨rfl,rfl⟩,fun _=>(aZ _ _ _).symm⟩
 ·cases he
theorem D6(g:Good Z ψ h w B0 O)(hB:B0≤w.heap.size){id:Nat}(hN:N id){t:TypeId}{x:AV}{u:Value}{e:bA}(hx:av Z ψ h w x u)(bf:∀i ty cs,h i=some (.box ty cs)→aB (fun i=>i≠id) cs)(he:nc P id t x some=some e) :
  ∃v w' ψ',(Instr.range t u).run P w=.ok v w'∧Next Z ψ h w B0 O N Z ψ' (e.hp h) w'∧av Z ψ' (e.hp h) w' e.v v:=by
 unfold nc at he
 split at he
 ·rename_i sv hu
  cases he
  simp only [av] at hx
  subst hx
  refine ⟨.pointer (some ⟨w.heap.size,0,none⟩),w.alloc (.stringIter sv 0),dJ ψ id (.pointer (some ⟨w.heap.size,0,none⟩)),?_,?_,?_⟩
  ·simp only [Instr.range,Sem.run_bind,run_underlying hu,Result.andThen_ok,Sem.run_pure];rfl
  ·simp only [bA.hp];rw [hZ]
   exact zK g hB id hN (ok:=.mZ) (x:=(sv,0)) _ ⟨w.heap.size,rfl,heap_alloc_new _ _⟩ rfl bf
  ·simp only [bA.v,bA.hp,av]
   exact ⟨⟨rfl,rfl⟩,fun _=>(aZ _ _ _).symm⟩
 ·cases he
theorem fN{r:Nat}{o:Obj}(hb:w.heap[r]? = some o)(hc:∀c e f,o≠.cells c e f):(getObj r).run P w=.ok o w:=by
 cases o<;>first | (exact absurd rfl (hc _ _ _)) | simp [getObj,Sem.run,hb]
theorem zL{r:Nat}{o o':Obj}(hb:w.heap[r]? = some o)(hc:∀c e f,o≠.cells c e f):(setObj r o').run P w=.ok () { w with heap:=w.heap.setIfInBounds r o' }:=by
 cases o<;>first | (exact absurd rfl (hc _ _ _)) | simp [setObj,Sem.run,hb]
theorem FL{hh:Heap}(g:Good Z ψ h w B0 O)(bp:∀id o,hh.get id=some o→h id=some o){ty:TypeId}{x:AV}{u:Value}{e:bA}(hx:av Z ψ h w x u)(lZ:∀v hw,e=.wr v hw→hh.get=h)(he:qM hh x some=some e) :
  ∃v w',(Instr.next u true ty).run P w=.ok v w'∧Next Z ψ h w B0 O N Z ψ (e.hp h) w'∧av Z ψ (e.hp h) w' e.v v:=by
 unfold qM at he
 split at he
 ·rename_i id
  split at he
  ·rename_i x hg
   have ve:=bp _ _ hg
   simp only [av] at hx
   have hu:=hx.2 (by rw [ve];simp)
   obtain ⟨r,h1,h2⟩:=g.row id .mZ x ve
   rw [h1] at hu
   subst hu
   cases hc:decide (x.2<x.1.size) with
   | true =>
    rw [hc] at he;cases he
    have heq:=lZ _ _ rfl
    simp only [decide_eq_true_eq] at hc
    have aE:=(Array.getElem?_eq_some_iff.1 h2).1
    refine ⟨.tuple #[.bool true,goInt x.2,.int .i32 (Utf8.decode x.1 x.2).1],{ w with heap:=w.heap.setIfInBounds r (.stringIter x.1 (x.2+(Utf8.decode x.1 x.2).2)) },?_,?_,?_⟩
    ·simp only [Instr.next,Sem.run_bind,fN h2 (by simp),Result.andThen_ok,hc,if_true,zL h2 (by simp),Sem.run_pure]
    ·simp only [bA.hp]
     rw [lY,heq]
     exact qX (N:=N) g (by rw [ve];simp) (by rw [h1];rfl) aE _ (ok:=.mZ) (x:=(x.1,x.2+zd x.1 x.2)) (fun w' It _=>⟨r,h1,by rw [It];simp [aE,zd]⟩)
    ·simp only [bA.v,av,aq]
     exact ⟨_,rfl,_,_,rfl,rfl,_,_,rfl,rfl,_,_,rfl,rfl,rfl⟩
   | false =>
    rw [hc] at he;cases he
    simp only [decide_eq_false_iff_not] at hc
    refine ⟨.tuple #[.bool false],w,?_,Next.refl g,?_⟩
    ·simp only [Instr.next,Sem.run_bind,fN h2 (by simp),Result.andThen_ok,hc,if_false,Sem.run_pure]
    ·simp only [bA.v,av,aq]
     exact ⟨_,rfl,_,_,rfl,rfl,rfl⟩
  ·cases he
 ·cases he
theorem find_born{l:List MapEntry}(h:l.Pairwise (fun a b=>a.born≠b.born)){e:MapEntry}(he:e∈l):l.find? (fun x=>x.born==e.born)=some e:=by
 induction l with
 | nil=>cases he
 | cons a r ih =>
  obtain ⟨h1,h2⟩:=List.pairwise_cons.1 h
  rw [List.find?_cons]
  rcases List.mem_cons.1 he with rfl | he
  ·simp
  ·have:(a.born==e.born)=false:=by simpa using h1 e he
   rw [this];exact ih h2 he
theorem FN{hh:Heap}(g:Good Z ψ h w B0 O)(bp:∀id o,hh.get id=some o→h id=some o){x:AV}{u:Value}{e:bA}(hx:av Z ψ h w x u)(he:qN hh x some=some e) :
  ∃y v,e=.val y∧(Instr.entry u).run P w=.ok v w∧av Z ψ h w y v:=by
 unfold qN at he
 split at he
 ·rename_i id
  split at he
  ·rename_i kk vk c rest hg
   cases he
   have ve:=bp _ _ hg
   simp only [av] at hx
   have hu:=hx.2 (by rw [ve];simp)
   obtain ⟨r,m,since,seen,bR,clock,h1,h2,h3,h4,h5,h6,h7,h8,h9⟩:=g.row id (.iter kk vk) (some c,rest) ve
   rw [h1] at hu
   subst hu
   obtain ⟨en,mI,ya,HZ⟩:=h9
   obtain ⟨⟨k1,k2,k3⟩,v1,v2,v3⟩:=HZ.2 0 c en rfl rfl
   refine ⟨_,.tuple #[en.key,en.val],rfl,?_,?_⟩
   ·have hf:bR.find? (·.born==en.born)=some en:=by
     have:=find_born h5 mI
     rwa [←Array.find?_toList]
    simp only [Instr.entry,Sem.run_bind,fN h2 (by simp),Result.andThen_ok,ya,Sem.run_pure,fN h4 (by simp),hf]
    simp
   ·simp only [av,aq]
    exact ⟨_,rfl,_,_,rfl,kY k1 k2 k3,_,_,rfl,kY v1 v2 v3,rfl⟩
  ·cases he
 ·cases he
end Go.Vs
namespace Go.Vs
variable {P:Program} {Z Z':Nat→Prop} {ψ ψ':Nat→Value} {h h':Hp} {w w':World} {B0:Nat} {O:Nat→Prop} {N:Nat→Prop}
mutual
theorem aK.imp{p q:Nat→Prop}(yd:∀i,p i→q i):∀{a:AV},aK p a→aK q a
 | .no,_=>by simp only [aK]
 | .bool b,_=>by simp only [aK]
 | .int k n,_=>by simp only [aK]
 | .str s,_=>by simp only [aK]
 | .kT,_=>by simp only [aK]
 | .fH,_=>by simp only [aK]
 | .ref id s i off,h=>by simp only [aK] at h ⊢;exact yd _ h
 | .fp k x off,_=>by simp only [aK]
 | .sl ex k xs,_=>by simp only [aK]
 | .mp kk vk es,_=>by simp only [aK]
 | .bC id,h=>by simp only [aK] at h ⊢;exact yd _ h
 | .fn f cap,h=>by simp only [aK] at h ⊢;exact aB.imp yd h
 | .agg cs,h=>by simp only [aK] at h ⊢;exact aB.imp yd h
 | .mV cs,h=>by simp only [aK] at h ⊢;exact aB.imp yd h
theorem aB.imp{p q:Nat→Prop}(yd:∀i,p i→q i):∀{a:List AV},aB p a→aB q a
 | [],_=>by simp only [aB]
 | a::r,h=>by simp only [aB] at h ⊢;exact ⟨aK.imp yd h.1,aB.imp yd h.2⟩
end
theorem aK.cells{p:Nat→Prop}{a:AV}(h:aK p a):aB p a.cells:=by
 cases a with
 | agg cs=>simpa only [AV.cells,aK] using h
 | _=>simp only [AV.cells,aB];exact ⟨h,trivial⟩
theorem zM:∀{cs:List AV},Ft cs=true→∀id,AV.bC id∉cs
 | [],_,id=>by simp
 | c::r,hn,id=>by
  intro hm
  cases c with
  | bC i=>simp [Ft] at hn
  | _ =>
   simp only [Ft] at hn
   rcases List.mem_cons.1 hm with e | hm
   ·cases e
   ·exact zM hn id hm
theorem qg:∀{vs:List AV},pU vs=true→∀v∈vs,∀id,AV.bC id∉v.cells
 | [],_,v,hv=>by simp at hv
 | a::r,hn,v,hv=>by
  simp only [pU,Bool.and_eq_true] at hn
  rcases List.mem_cons.1 hv with rfl | hv
  ·exact zM hn.1
  ·exact qg hn.2 v hv
def tX(o:Oper):Bool :=
 match o.op with
 | .call { callee:=.value _,.. }=>true
 | _=>false
theorem Ix{s:List (Nat×AV)}{ρC:Operand→Value}{x:Option Operand}(hx:∀y,x=some y→av Z ψ h w (ρ s y) (ρC y)):dK Z ψ h w (x.map (ρ s)) (x.map ρC):=by
 cases x with
 | none=>trivial
 | some y=>exact hx y rfl
theorem zN{s:List (Nat×AV)}{ρC:Operand→Value}:∀(ps:List (Nat×Operand)),(∀p∈ps,av Z ψ h w (ρ s p.2) (ρC p.2))→(∀p∈ps,ρ s p.2≠.no)→rY Z ψ h w (ps.map fun p=>(p.1,ρ s p.2)) (ps.map fun p=>(p.1,ρC p.2))
 | [],_,_=>trivial
 | p::r,h1,h2=>⟨rfl,h2 p (by simp),h1 p (by simp),zN r (fun q hq=>h1 q (List.mem_cons_of_mem _ hq)) (fun q hq=>h2 q (List.mem_cons_of_mem _ hq))⟩
theorem CQ{k:K}{hh:Heap}:∀{ps:List (Nat×AV)} {i:Nat} {xs:List k.T},pY k hh i ps=some xs→∀p∈ps,p.2≠.no
 | [],_,_,_,p,hp=>by simp at hp
 | (j,v)::r,i,xs,hl,p,hp=>by
  simp only [pY] at hl
  split at hl
  ·split at hl
   ·rename_i x ys h1 h2
    rcases List.mem_cons.1 hp with rfl | hp
    ·exact CM h1
    ·exact CQ h2 p hp
   ·cases hl
  ·cases hl
theorem UK{α:Type}{l:List α}(h:l.length=0+1+1):∃x y,l=[x,y]:=by
 cases l with
 | nil=>simp at h
 | cons a r=>cases r with
  | nil=>simp at h
  | cons b s=>cases s with
   | nil=>exact ⟨a,b,rfl⟩
   | cons c q=>simp at h
theorem Iy{a:AV}(h:Tu a=true):a≠.no:=by rintro rfl;cases h
section
variable {Eqs:TypeId→Option K} {Sg:FuncId→Option aL} {F:(f:FuncId)→(g:aL)→g.A→Option g.B}
theorem D7{hh:Heap}{ρC:Operand→Value}{o:Oper}(g:Good Z ψ h w B0 O)(hB:B0≤w.heap.size)(bp:∀id o,hh.get id=some o→h id=some o){id:Nat}(hN:N id){t:TypeId}{s x:AV}{u v:Value}{e:bA}
  (hs:av Z ψ h w s u) (hx:av Z ψ h w x v) (D8:aK (fun i=>¬N i) s) (bf:∀i ty cs,h i=some (.box ty cs)→aB (fun i=>¬N i) cs) (lZ:∀v hw,e=.wr v hw→hh.get=h) (he:m0 P hh id t s x some=some e)
  (dh:∀V w',(Builtin.append_ #[t,t] o.type #[u,v]).run P w=.ok V w'→(execOp ρC o).run P w=.ok (.value V) w'):gH P ρC o Z ψ h w B0 O N e:=by
 have Q8:∀i ty cs,h i=some (.box ty cs)→aB (fun i=>i≠id) cs:=fun i ty cs hb=>(bf i ty cs hb).imp (fun j hj e=>hj (by rw [e];exact hN))
 unfold m0 at he
 split at he
 ·cases he
 ·rename_i et het
  have ht:=mM het
  split at he
  ·cases he
  ·rename_i kk RC
   split at he
   ·rename_i ys Cd lN
    obtain ⟨inf,z,HW⟩:=cw lN
    split at he
    ·
     cases hc:bq 0 ys.length with
     | false=>rw [hc] at he;cases he
     | true =>
      rw [hc] at he;cases he
      simp only [bq,decide_eq_true_eq] at hc
      simp only [av] at hs
      subst hs
      obtain ⟨V,w',h1,h2,h3⟩:=pj (P:=P) (ty:=o.type) g bp hB hN ht HW Cd hx (by omega) Q8
      refine ⟨V,w',Z,_,.inl (dh V w' h1),by simp only [bA.hp];rw [hZ];exact h2,?_⟩
      simp only [bA.v,bA.hp,av]
      exact ⟨h3,fun _=>(aZ _ _ _).symm⟩
    ·
     rename_i dr
     split at he
     ·rename_i e' k' xs hg
      split at he
      ·rename_i hc
       obtain ⟨rfl,rfl⟩:=hc
       cases vd:bq xs.length ys.length with
       | false=>rw [vd] at he;cases he
       | true =>
        rw [vd] at he;cases he
        simp only [bq,decide_eq_true_eq] at vd
        have heq:=lZ _ _ rfl
        have ve:=bp _ _ hg
        simp only [av] at hs
        have hu:=hs.2 (by rw [ve];simp)
        subst hu
        simp only [aK] at D8
        obtain ⟨V,w',h1,h2,h3⟩:=yc (P:=P) (ty:=o.type) g bp hB hN (fun e=>D8 (by rw [e];exact hN)) ht HW ve Cd hx vd Q8
        refine ⟨V,w',Z,_,.inl (dh V w' h1),by simp only [bA.hp];rw [lY,tS,heq];exact h2,?_⟩
        simp only [bA.v,bA.hp,av]
        exact ⟨h3,fun _=>(aZ _ _ _).symm⟩
      ·cases he
     ·cases he
    ·
     rename_i ex k' xs
     split at he
     ·rename_i hc
      subst hc
      cases vd:(ex&&((!ys.isEmpty || xs.isEmpty)&&bq xs.length ys.length)) with
      | false=>rw [vd] at he;cases he
      | true =>
       rw [vd] at he;cases he
       simp only [Bool.and_eq_true,Bool.or_eq_true,bq,decide_eq_true_eq,Bool.not_eq_true',List.isEmpty_eq_false_iff,List.isEmpty_iff] at vd
       obtain ⟨rfl,bc,RD⟩:=vd
       obtain ⟨V,w',h1,h2,h3⟩:=zx (P:=P) (ty:=o.type) g bp hB hN ht HW hs Cd hx (bc.imp List.length_pos_iff.2 (fun h=>h)) RD Q8
       refine ⟨V,w',Z,_,.inl (dh V w' h1),by simp only [bA.hp];rw [hZ];exact h2,?_⟩
       simp only [bA.v,bA.hp,av]
       exact ⟨h3,fun _=>(aZ _ _ _).symm⟩
     ·cases he
    ·cases he
   ·cases he
theorem zO{ρC:Operand→Value}{o:Oper}(g:Good Z ψ h w B0 O)(hB:B0≤w.heap.size){id:Nat}(hN:N id){t:TypeId}{vs:List AV}{us:Array Value}{e:bA}(hr:aq Z ψ h w vs us.toList)(h1:∀u∈us.toList,u.oneCell'=true)
  (hm:aB (fun i=>¬N i) vs) (bf:∀i ty cs,h i=some (.box ty cs)→aB (fun i=>¬N i) cs) (he:vp id t vs some=some e)
  (dh:(execOp ρC o).run P w=.ok (.value (.pointer (some ⟨w.heap.size,0,none⟩))) (w.alloc (.cells us t))):gH P ρC o Z ψ h w B0 O N e:=by
 unfold vp at he
 cases he
 have bc:∀i,¬N i→i≠id:=fun j hj e=>hj (by rw [e];exact hN)
 have n:=zr (N:=N) g hB id t hN hr h1 (fun i ty cs hb=>(bf i ty cs hb).imp bc) (hm.imp bc)
 refine ⟨_,_,Z,_,.inl dh,by simp only [bA.hp];rw [hZ];exact n,?_⟩
 simp only [bA.v,bA.hp,av]
 exact ⟨_,rfl,fun _=>by rw [aZ];simp [Ru]⟩
theorem LB{hh:Heap}{ρC:Operand→Value}{s:List (Nat×AV)}{o:Oper}(g:Good Z ψ h w B0 O)(hB:B0≤w.heap.size)(bp:∀id o,hh.get id=some o→h id=some o){id:Nat}(hN:N id){t:TypeId}{n:Nat}{ps:Array (Nat×Operand)}{e:bA}
  (mX:∀p∈ps.toList,av Z ψ h w (ρ s p.2) (ρC p.2)) (bf:∀i ty cs,h i=some (.box ty cs)→aB (fun i=>¬N i) cs) (kj:Bool) {e0:bA} (RE:e=if kj then Rt e0 else e0) (lZ:∀v hw,e=.wr v hw→hh.get=h) (he:tG P hh id t n (ps.toList.map fun p=>(p.1,ρ s p.2)) some=some e0)
  (dh:∀V w',(Instr.buildSlice t n (ps.map fun p=>(p.1,ρC p.2))).run P w=.ok V w'→(execOp ρC o).run P w=.ok (.value V) w'):gH P ρC o Z ψ h w B0 O N e:=by
 have Q8:∀i ty cs,h i=some (.box ty cs)→aB (fun i=>i≠id) cs:=fun i ty cs hb=>(bf i ty cs hb).imp (fun j hj e=>hj (by rw [e];exact hN))
 unfold tG at he
 split at he
 ·cases he
 ·rename_i et het
  have ht:=mM het
  split at he
  ·cases he
  ·rename_i k hk
   split at he
   ·cases he
   ·cases he
   ·rename_i xs nj lN
    obtain ⟨inf,z,HW⟩:=cw lN
    have Iz:=zN (Z:=Z) (ψ:=ψ) (h:=h) (w:=w) ps.toList mX (fun p hp=>CQ nj (p.1,ρ s p.2) (List.mem_map.2 ⟨p,hp,rfl⟩))
    have Kd:rY Z ψ hh.get w (ps.toList.map fun p=>(p.1,ρ s p.2)) (ps.map fun p=>(p.1,ρC p.2)).toList:=by
     rw [Array.toList_map];exact Iz.pI bp
    split at he
    ·rename_i hc
     obtain ⟨rfl,hn⟩:=hc
     cases qe:pU ((ps.toList.map fun p=>(p.1,ρ s p.2)).map (·.2)) with
     | true =>
      rw [qe] at he;cases he
      have acp:=qg qe
      obtain ⟨V,w',h1,h2,h3⟩:=FD (P:=P) (N:=N) g (g.sub bp) (fun _ h=>h) hB hN ht HW (fun p hp i b hm=>absurd hm (acp p.2 (List.mem_map.2 ⟨p,hp,rfl⟩) i)) Kd nj hn Q8
      cases kj with
      | false =>
       have RE:e=.new (.bC id) [(id,.own (.row et k) xs)]:=RE
       subst RE
       refine ⟨V,w',Z,_,.inl (dh V w' h1),by simp only [bA.hp];rw [hZ];exact h2,?_⟩
       simp only [bA.v,bA.hp,av]
       exact ⟨h3.1,fun _=>(aZ _ _ _).symm⟩
      | true =>
       have RE:e=.new (.sl true k xs) []:=RE
       subst RE
       obtain ⟨m1,m2⟩:=NB g hB h2 h3.2.1 h3.2.2.1 h3.2.2.2
       have e1:(bA.new (.sl true k xs) []).hp h=h:=by funext i;simp [bA.hp,Heap.get]
       refine ⟨V,w',_,_,.inl (dh V w' h1),by rw [e1];exact m1,?_⟩
       rw [e1];exact m2
     | false =>
      rw [qe] at he;cases he
      have RE:e=.wr (.bC id) ((id,.own (.row et k) xs)::cE hh ((ps.toList.map fun p=>(p.1,ρ s p.2)).flatMap (·.2.cells))):=by
       rw [RE];cases kj<;>rfl
      subst RE
      have heq:=lZ _ _ rfl
      subst heq
      let cs:=(ps.toList.map fun p=>(p.1,ρ s p.2)).flatMap (·.2.cells)
      have gd:=hY g cs
      obtain ⟨V,w',h1,h2,h3⟩:=FD (P:=P) (N:=N) gd g (fun b hb=>.inl hb) hB hN ht HW (fun p hp i b hm bc hb=>.inr ⟨i,List.mem_flatMap.2 ⟨p,hp,hm⟩,bc,hb⟩) Kd nj hn (fun i ty cs' hb=>Q8 i ty cs' (dP _ _ _ _ hb))
      refine ⟨V,w',pP Z ψ hh.get cs,dJ ψ id V,.inl (dh V w' h1),?_,?_⟩
      ·simp only [bA.hp]
       rw [zF]
       exact h2.drop (fun b hb=>.inl hb) (fun b hb=>hb.imp (fun h=>h) (fun ⟨i,_,h5,h6⟩=>⟨i,h5,h6⟩)) (dP _ _)
      ·simp only [bA.v,bA.hp,av]
       exact ⟨h3.1,fun _=>(aZ _ _ _).symm⟩
    ·cases he
theorem LC{kj:Bool}{h:Heap}{id:Nat}{t:TypeId}{n:Nat}{ps:List (Nat×AV)}{e:bA}(he:vq P kj h id t n ps some=some e):∃e0,tG P h id t n ps some=some e0∧e=if kj then Rt e0 else e0:=by
 unfold vq tG at he
 unfold tG
 split at he
 ·cases he
 split at he
 ·cases he
 split at he
 ·cases he
 ·cases he
 split at he
 ·rename_i hc
  rw [if_pos hc]
  cases qe:pU (ps.map (·.2)) with
  | true=>rw [qe] at he;exact ⟨_,rfl,(Option.some.inj he).symm⟩
  | false=>rw [qe] at he;exact ⟨_,rfl,(Option.some.inj he).symm⟩
 ·cases he
theorem zP(p:Nat→Prop)(v:Value):aK p (vh v):=by
 cases v with
 | pointer a=>simp only [vh];split<;>simp only [aK]
 | slice a n c=>simp only [vh];split<;>simp only [aK]
 | func fn first cap =>
  cases fn with
  | func f=>simp only [vh];split<;>simp only [aK,aB]
  | _=>simp only [vh,aK]
 | _=>simp only [vh,aK]
theorem vC(p:Nat→Prop):∀vs:List Value,aB p (vs.map vh)
 | []=>by simp [aB]
 | v::r=>by simp only [List.map_cons,aB];exact ⟨zP p v,vC p r⟩
theorem LD(p:Nat→Prop)(v:Value):aB p (sH v).cells:=by
 cases v with
 | agg cs=>simp only [sH,AV.cells];exact vC p _
 | _=>simp only [sH];rw [CL];simp only [aB];exact ⟨zP p _,trivial⟩
theorem NM(BZ:∀t k,Eqs t=some k→kZ P t k){hh:Heap}{ρC:Operand→Value}{s:List (Nat×AV)}{o:Oper}(g:Good Z ψ h w B0 O)(hB:B0≤w.heap.size)(bp:∀id o,hh.get id=some o→h id=some o){id:Nat}(hN:makes o.op=true→N id){e:bA}
  (mX:∀x∈o.op.operands,av Z ψ h w (ρ s x) (ρC x)) (hm:∀x∈o.op.operands,aK (fun i=>¬N i) (ρ s x)) (bf:∀i ty cs,h i=some (.box ty cs)→aB (fun i=>¬N i) cs) (lZ:∀v hw,e=.wr v hw→hh.get=h)
  (H3:tX o=false) (he:cJ P Eqs Sg F id hh s o some=some e):gH P ρC o Z ψ h w B0 O N e:=by
 obtain ⟨dst,op,type,pos,after,guard⟩:=o
 have two:∀{a b:Operand},(∀x∈(#[a,b]:Array Operand),av Z ψ h w (ρ s x) (ρC x))→av Z ψ h w (ρ s a) (ρC a)∧av Z ψ h w (ρ s b) (ρC b):=fun hx=>⟨hx _ (by simp),hx _ (by simp)⟩
 cases op<;>simp only [cJ] at he<;>simp only [Op.operands] at mX hm<;>first | (cases he;done) | skip
 case move x=>cases he;exact gH.val g (V:=ρC x) (by simp [execOp]) (mX x (by simp))
 case assign x=>cases he;exact gH.val g (V:=ρC x) (by simp [execOp]) (mX x (by simp))
 case pick c a b =>
  have h1:=mX c (by simp);have h2:=mX a (by simp);have h3:=mX b (by simp)
  split at he
  ·rename_i t ht
   cases he
   rw [ht] at h1
   simp only [av] at h1
   refine gH.val g (V:=if t then ρC a else ρC b) (by simp [execOp,h1,asBool]) ?_
   unfold Tt
   split
   ·rename_i p q hp hq
    rw [hp] at h2;rw [hq] at h3
    simp only [av] at h2 h3 ⊢
    cases t<;>simp [h2,h3]
   ·cases t
    ·exact h3
    ·exact h2
  ·cases he
 case alloc t =>
  split at he
  ·rename_i z hz
   obtain ⟨i,zv,hi,XE,rfl,h1⟩:=og hz
   exact zO (us:=zv.cells) g hB (hN rfl) (zz zv) h1 (LD _ zv) bf he (by simp [execOp,Instr.alloc,tR hi XE,newVar,newRow,newObj,Sem.run])
  ·cases he
 case box t x =>
  have h1:=mX x (by simp)
  split at he
  ·rename_i hp
   have hc:=h1.cells (FH hp)
   exact zO (us:=(ρC x).cells) g hB (hN rfl) hc (sW hp hc) (hm x (by simp)).cells bf he (by simp [execOp,Instr.box,newVar,newRow,newObj,Sem.run])
  ·cases he
 case build t ps =>
  unfold qO at he
  split at he
  ·rename_i z fs hz hf
   split at he
   ·rename_i cs XK eg
    cases he
    simp only [Bool.and_eq_true] at eg
    obtain ⟨eg,hnn⟩:=eg
    have XL:fs.toList.all (fun f=>(P.info? f.type).isSome)=true:=eg
    have UL:∀p∈ps.toList,av Z ψ h w (ρ s p.2) (ρC p.2):=fun p hp=>mX p.2 (by simp;exact ⟨p.1,by simpa using hp⟩)
    have Iz:=zN (Z:=Z) (ψ:=ψ) (h:=h) (w:=w) ps.toList UL (fun p hp=>Iy (List.all_eq_true.1 hnn (p.1,ρ s p.2) (List.mem_map.2 ⟨p,hp,rfl⟩)))
    obtain ⟨V,h1,h2⟩:=Ls (P:=P) (qs:=ps.map fun p=>(p.1,ρC p.2)) hz hf XL (by rw [Array.toList_map];exact Iz) XK
    exact gH.val g (V:=V) (by simp only [execOp,Sem.run_bind];rw [h1];simp) h2
   ·cases he
  ·cases he
 case buildSlice t n ps =>
  have UL:∀p∈ps.toList,av Z ψ h w (ρ s p.2) (ρC p.2):=fun p hp=>mX p.2 (by simp;exact ⟨p.1,by simpa using hp⟩)
  obtain ⟨e0,h0,h1⟩:=LC he
  exact LB g hB bp (hN rfl) UL bf ((Sg (900000+t)).isSome) h1 lZ h0 (fun V w' h1=>by simp only [execOp,Sem.run_bind];rw [h1];simp)
 case load t a =>
  obtain ⟨x,V,rfl,h1,h2⟩:=sS g bp (mX a (by simp)) he
  exact gH.val g (V:=V) (by simp [execOp,h1]) h2
 case store t a v =>
  obtain ⟨h1,h2⟩:=two mX
  have hw:∃hw,e=.wr .no hw:=by
   obtain ⟨hw,_,_,h3,_⟩:=xh (P:=P) (N:=N) (g.sub bp) (h1.pI bp) (h2.pI bp) he
   exact ⟨hw,h3⟩
  obtain ⟨hw,rfl⟩:=hw
  have heq:=lZ _ _ rfl
  subst heq
  obtain ⟨It,w',Z',h3,h4,h5⟩:=xh (P:=P) (N:=N) g h1 h2 he
  cases h3
  exact ⟨undef,w',Z',ψ,.inr ⟨by simp [execOp,h4],rfl⟩,h5,by simp only [bA.v,av]⟩
 case nilCheck x =>
  have h1:=mX x (by simp)
  split at he
  ·rename_i id s i off hx
   cases he
   rw [hx] at h1
   have h2:=h1
   simp only [av] at h1
   obtain ⟨a,ha,_⟩:=h1
   exact gH.val g (V:=ρC x) (by simp [execOp,ha]) h2
  ·rename_i k y off hx
   cases he
   rw [hx] at h1
   have h2:=h1
   simp only [av] at h1
   obtain ⟨a,us,ha,_⟩:=h1
   exact gH.val g (V:=ρC x) (by simp [execOp,ha]) h2
  ·rename_i f cap hx
   cases he
   rw [hx] at h1
   have h2:=h1
   simp only [av] at h1
   obtain ⟨vs,ha,_⟩:=h1
   exact gH.val g (V:=ρC x) (by simp [execOp,ha]) h2
  ·cases he
 case binOp op t x y yt =>
  obtain ⟨h1,h2⟩:=two mX
  obtain ⟨r,V,rfl,h3,h4⟩:=Lx BZ (xo:=x) (yo:=y) h1 h2 he
  exact gH.val g (V:=V) (by simp only [execOp,Sem.run_bind] at h3 ⊢;rw [h3];simp) h4
 case unOp op t x =>
  have h1:=mX x (by simp)
  cases op<;>simp only at he<;>first | (cases he;done) | skip
  split at he
  ·rename_i b hx
   cases he
   rw [hx] at h1
   simp only [av] at h1
   exact gH.val g (V:=.bool (!b)) (by simp [execOp,h1,Op.unary]) (by simp only [av])
  ·cases he
 case convert src dst x =>
  have h1:=mX x (by simp)
  unfold zj at he
  split at he
  ·rename_i k1 k2 k3 n hs hd hx
   cases he
   rw [hx] at h1
   simp only [av] at h1
   exact gH.val g (V:=.int k2 (k2.wrap n)) (by simp [execOp,h1,convert,run_underlying hs,run_underlying hd,Conv.intToInt]) (by simp only [av])
  ·rename_i sv hs hd hx
   cases he
   rw [hx] at h1
   have h2:=h1
   simp only [av] at h1
   exact gH.val g (V:=ρC x) (by simp [execOp,h1,convert,run_underlying hs,run_underlying hd]) h2
  ·cases he
 case makeFunc fn first cap =>
  cases fn<;>simp only at he<;>first | (cases he;done) | skip
  rename_i f
  split at he
  ·rename_i hf
   cases he
   have h0:first=#[]:=Array.eq_empty_of_size_eq_zero hf
   subst h0
   have hl:∀l:List Operand,(∀x∈l,av Z ψ h w (ρ s x) (ρC x))→aq Z ψ h w (l.map (ρ s)) (l.map ρC):=by
    intro l
    induction l with
    | nil=>intro _;simp [aq]
    | cons a r ih=>intro ha;simp only [List.map_cons,aq];exact ⟨_,_,rfl,ha a (by simp),ih (fun x hx=>ha x (List.mem_cons_of_mem _ hx))⟩
   exact gH.val g (V:=.func (.func f) #[] (cap.map ρC)) (by simp [execOp,Instr.makeFunc]) (by simp only [av];exact ⟨_,rfl,by rw [Array.toList_map];exact hl _ (fun x hx=>mX x (by simp;simpa using hx))⟩)
  ·cases he
 case slice t x lo hi mx =>
  have h1:=mX x (by simp)
  have h2:dK Z ψ h w (lo.map (ρ s)) (lo.map ρC):=Ix (fun y hy=>mX y (by subst hy;simp))
  have h3:dK Z ψ h w (hi.map (ρ s)) (hi.map ρC):=Ix (fun y hy=>mX y (by subst hy;simp))
  have h4:dK Z ψ h w (mx.map (ρ s)) (mx.map ρC):=Ix (fun y hy=>mX y (by subst hy;simp))
  split at he
  ·rename_i ht
   unfold zc at he
   split at he
   ·rename_i sv hx hmx
    split at he
    ·rename_i l u hb
     cases ho:aT sv.size l u with
     | false=>rw [ho] at he;cases he
     | true =>
      rw [ho] at he;cases he
      rw [hx] at h1
      simp only [av] at h1
      have hm0:mx=none:=by cases mx with
       | none=>rfl
       | some m=>simp at hmx
      subst hm0
      have dh:=sV (P:=P) (w:=w) (b:=false) (Nat.le_refl sv.size) h2 h3 (mx:=none) (mx':=none) trivial hb ho (.inl rfl)
      exact gH.val g (V:=.string (Uv sv l u)) (by simp [execOp,Instr.sliceAt,Instr.slice,run_underlying ht,h1,dh,Uv]) (by simp only [av])
    ·cases he
   ·cases he
  ·rename_i et ht
   split at he
   ·rename_i UH
    obtain ⟨V,Z',h5,h6,h7⟩:=FG (P:=P) (N:=N) g bp ht h1 h2 h3 h4 lZ he UH
    exact ⟨V,w,Z',ψ,.inl (by simp [execOp,h5]),h6,h7⟩
   ·cases he
  ·cases he
 case fieldAddr t x f =>
  have h1:=mX x (by simp)
  split at he
  ·rename_i n ft id sz i off hf hx
   split at he
   ·cases he
   ·rename_i hc
    cases he
    rw [hx] at h1
    obtain ⟨V,h2,h3⟩:=r9 (P:=P) hf hc h1
    exact gH.val g (V:=V) (by simp [execOp,h2]) h3
  ·rename_i n ft k y off hf hx
   split at he
   ·cases he
   ·rename_i hc
    cases he
    rw [hx] at h1
    obtain ⟨V,h2,h3⟩:=tT (P:=P) hf hc h1
    exact gH.val g (V:=V) (by simp [execOp,h2]) h3
  ·cases he
 case field t x f =>
  have h1:=mX x (by simp)
  split at he
  ·rename_i n ft cs hf hx
   split at he
   ·rename_i v hv
    cases he
    rw [hx] at h1
    obtain ⟨V,h2,h3⟩:=FF (P:=P) hf h1 hv
    exact gH.val g (V:=V) (by simp [execOp,h2]) h3
   ·cases he
  ·cases he
 case indexAddr t x i =>
  obtain ⟨h1,h2⟩:=two mX
  obtain ⟨y,V,rfl,h3,h4⟩:=pn g bp h1 h2 he
  exact gH.val g (V:=V) (by simp [execOp,h3]) h4
 case index t x i =>
  obtain ⟨h1,h2⟩:=two mX
  split at he
  ·rename_i sv ik n ht hx hi
   obtain ⟨c,hc,Q4⟩:=Option.bind_eq_some_iff.1 he
   cases Q4
   rw [hx] at h1;rw [hi] at h2
   simp only [av] at h1 h2
   exact gH.val g (V:=.int .u8 (c.toNat:Int)) (by simp [execOp,Instr.index,asIntOf,run_underlying ht,h1,h2,hc]) (by simp only [av])
  ·cases he
 case extract t i =>
  have h1:=mX t (by simp)
  split at he
  ·rename_i vs hx
   split at he
   ·rename_i v hv
    cases he
    rw [hx] at h1
    simp only [av] at h1
    obtain ⟨us,hu,hl⟩:=h1
    obtain ⟨u,h2,h3⟩:=hl.get i hv
    exact gH.val g (V:=u) (by simp [execOp,Instr.extract,hu,show us[i]? = some u by simpa using h2]) h3
   ·cases he
  ·cases he
 case makeMap t r =>
  cases r with
  | some r=>cases he
  | none =>
   simp only at he
   have Q8:∀i ty cs,h i=some (.box ty cs)→aB (fun i=>i≠id) cs:=fun i ty cs hb=>(bf i ty cs hb).imp (fun j hj e=>hj (by rw [e];exact hN rfl))
   obtain ⟨V,w',ψ',h1,h2,h3⟩:=Cc g hB (hN rfl) Q8 he
   exact ⟨V,w',Z,ψ',.inl (by simp [execOp,h1]),h2,h3⟩
 case lookup t m i ok =>
  obtain ⟨h1,h2⟩:=two mX
  obtain ⟨y,V,rfl,h3,h4⟩:=D5 BZ g bp h1 h2 he
  exact gH.val g (V:=V) (by simp [execOp,h3]) h4
 case mapUpdate t m i v =>
  have h1:=mX m (by simp);have h2:=mX i (by simp);have h3:=mX v (by simp)
  have hw:∃hw,e=.wr (.mV []) hw:=by
   obtain ⟨hw,_,_,h4,_⟩:=tV (N:=N) BZ (g.sub bp) (h1.pI bp) (h2.pI bp) (h3.pI bp) he
   exact ⟨hw,h4⟩
  obtain ⟨hw,rfl⟩:=hw
  have heq:=lZ _ _ rfl
  subst heq
  obtain ⟨It,w',Z',h4,h5,h6⟩:=tV (N:=N) BZ g h1 h2 h3 he
  cases h4
  exact ⟨undef,w',Z',ψ,.inr ⟨by simp [execOp,h5],rfl⟩,h6,by simp only [bA.v,av,aq];exact ⟨#[],rfl,rfl⟩⟩
 case range t x =>
  have Q8:∀i ty cs,h i=some (.box ty cs)→aB (fun i=>i≠id) cs:=fun i ty cs hb=>(bf i ty cs hb).imp (fun j hj e=>hj (by rw [e];exact hN rfl))
  obtain ⟨V,w',ψ',h1,h2,h3⟩:=D6 g hB (hN rfl) (mX x (by simp)) Q8 he
  exact ⟨V,w',Z,ψ',.inl (by simp [execOp,h1]),h2,h3⟩
 case next x b =>
  cases b with
  | false=>cases he
  | true =>
   obtain ⟨V,w',h1,h2,h3⟩:=FL (P:=P) (N:=N) (ty:=type) g bp (mX x (by simp)) lZ he
   exact ⟨V,w',Z,ψ,.inl (by simp [execOp,h1]),h2,h3⟩
 case entry x =>
  obtain ⟨y,V,rfl,h1,h2⟩:=FN (P:=P) g bp (mX x (by simp)) he
  exact gH.val g (V:=V) (by simp [execOp,h1]) h2
 case call c =>
  obtain ⟨callee,args,argTypes⟩:=c
  cases callee with
  | value f=>simp [tX] at H3
  | invoke r m=>simp only at he;cases he
  | builtin b =>
   have ky:∀x∈args.toList,av Z ψ h w (ρ s x) (ρC x):=fun x hx=>mX x (by simp only [Call.operands];exact Array.mem_append.2 (.inr (by simpa using hx)))
   have NO:∀x∈args.toList,aK (fun i=>¬N i) (ρ s x):=fun x hx=>hm x (by simp only [Call.operands];exact Array.mem_append.2 (.inr (by simpa using hx)))
   obtain ⟨args⟩:=args
   obtain ⟨argTypes⟩:=argTypes
   simp only at he ky NO
   cases b<;>simp only at he<;>first | (cases he;done) | skip
   case append =>
    split at he
    ·rename_i l1 l2 x y t t'
     split at he
     ·rename_i htt
      subst htt
      exact D7 g hB bp (hN rfl) (ky x (by simp)) (ky y (by simp)) (NO x (by simp)) bf lZ he (fun V w' h1=>by
       simp only [execOp,resolve,invoke,builtin,Sem.run_bind,Sem.run_pure,Result.andThen_ok,List.map_toArray,List.map_cons,List.map_nil,h1])
     ·cases he
    ·cases he
   case delete =>
    split at he
    ·rename_i l1 l2 m x t ts
     have h1:=ky m (by simp);have h2:=ky x (by simp)
     have hw:∃hw,e=.wr (.mV []) hw:=by
      obtain ⟨hw,_,h4,_⟩:=tW (N:=N) (ty:=type) (ts:=ts) BZ (g.sub bp) (h1.pI bp) (h2.pI bp) he
      exact ⟨hw,h4⟩
     obtain ⟨hw,rfl⟩:=hw
     have heq:=lZ _ _ rfl
     subst heq
     obtain ⟨It,w',h4,h5,h6⟩:=tW (N:=N) (ty:=type) (ts:=ts) BZ g h1 h2 he
     cases h4
     exact ⟨.tuple #[],w',Z,ψ,.inl (by simp only [execOp,resolve,invoke,builtin,Sem.run_bind,Sem.run_pure,Result.andThen_ok,List.map_toArray,List.map_cons,List.map_nil,h5]),h6,by simp only [bA.v,av,aq];exact ⟨#[],rfl,rfl⟩⟩
    ·cases he
   case len =>
    split at he
    ·rename_i l1 l2 x t
     split at he
     ·rename_i htm
      obtain ⟨n,rfl,h1⟩:=Iu (P:=P) (ty:=type) g bp htm (ky x (by simp)) he
      exact gH.val g (V:=.int .i64 (n:Int)) (by simp only [execOp,resolve,invoke,builtin,Sem.run_bind,Sem.run_pure,Result.andThen_ok,List.map_toArray,List.map_cons,List.map_nil,h1]) (by simp only [av])
     split at he
     ·rename_i aE
      obtain ⟨n,rfl,h1⟩:=Lv g bp (ky x (by simp)) he
      refine gH.val g (V:=.int .i64 (n:Int)) ?_ (by simp only [av])
      rcases h1 with ⟨sv,h2,h3,rfl⟩ | ⟨A,c,h3⟩
      ·unfold Uw at aE
       rw [h2] at aE
       split at aE
       ·rename_i hu _
        simp [execOp,resolve,invoke,builtin,Builtin.len_,run_underlying hu,h3,goInt]
       ·cases aE
       ·rename_i h9;exact (h9 _ rfl).elim
       ·cases aE
      ·have hu:∃e,P.underlying t=some (.slice e):=by
        have h4:=ky x (by simp)
        rw [h3] at h4
        unfold Uw at aE
        split at aE
        ·rename_i sv _ hxx
         rw [hxx] at h4;simp only [av] at h4;cases h4
        ·cases aE
        ·rename_i e _ hu _;exact ⟨_,hu⟩
        ·cases aE
       obtain ⟨e,hu⟩:=hu
       simp [execOp,resolve,invoke,builtin,Builtin.len_,run_underlying hu,h3,goInt]
     ·cases he
    ·cases he
   all_goals
    unfold Lm at he
    split at he
    ·rename_i k a k' b RF
     have hl:=congrArg List.length RF
     simp only [List.length_map,List.length_cons,List.length_nil] at hl
     obtain ⟨x,y,rfl⟩:=UK hl
     simp only [List.map_cons,List.map_nil,List.cons.injEq,and_true] at RF
     have h1:=ky x (by simp)
     have h2:=ky y (by simp)
     rw [RF.1] at h1;rw [RF.2] at h2
     simp only [av] at h1 h2
     split at he
     ·rename_i hk
      subst hk
      cases he
      refine gH.val g (V:=bO (.int _ _)) ?_ (jA _ _)
      first
       | (simp [execOp,resolve,invoke,builtin,Builtin.max_,Builtin.max2,h1,h2,bO];simp only [Int.max_def];split<;>split<;>omega)
       | (simp [execOp,resolve,invoke,builtin,Builtin.min_,Builtin.min2,h1,h2,bO];simp only [Int.min_def];split<;>split<;>omega)
     ·cases he
    ·cases he
end
end Go.Vs
namespace Go.Vs
variable {P:Program} {Z Z' Zf:Nat→Prop} {ψ ψ':Nat→Value} {h h':Hp} {w w':World} {B0:Nat} {O:Nat→Prop} {N:Nat→Prop}
abbrev xk:=Nat×Option Nat×Ob
def dv(L:List xk):Heap:=L.map fun e=>(e.1,e.2.2)
def jB(ψ:Nat→Value):Option Nat→Value
 | some s=>ψ s
 | none=>.slice none 0 0
def ep(ψ:Nat→Value):List xk→Nat→Value
 | [],_=>undef
 | (i,s,_)::r,n=>if i=n then jB ψ s else ep ψ r n
theorem nk{L:List xk}{i:Nat}{o:Ob}(hg:(dv L).get i=some o):∃s,(i,s,o)∈L:=by
 induction L with
 | nil=>simp [dv,Heap.get] at hg
 | cons e r ih =>
  obtain ⟨j,s,o'⟩:=e
  simp only [dv,List.map_cons,Heap.get] at hg
  split at hg
  ·rename_i e;subst e;cases hg;exact ⟨s,List.mem_cons_self⟩
  ·obtain ⟨s',hs⟩:=ih hg;exact ⟨s',List.mem_cons_of_mem _ hs⟩
theorem l8{i:Nat}{r:List Nat}(h:b6 (i::r)=true):i∉r∧b6 r=true:=by
 simp only [b6,Bool.and_eq_true,Bool.not_eq_true'] at h
 exact ⟨fun hm=>by rw [List.contains_iff_mem.2 hm] at h;simp at h,h.2⟩
theorem iu{L:List xk}(hn:b6 (L.map (·.1))=true){i:Nat}{s:Option Nat}{o:Ob}(hm:(i,s,o)∈L):ep ψ L i=jB ψ s:=by
 induction L with
 | nil=>cases hm
 | cons e r ih =>
  obtain ⟨j,s',o'⟩:=e
  obtain ⟨h1,h2⟩:=l8 hn
  simp only [ep]
  rcases List.mem_cons.1 hm with he | hm
  ·cases he;simp
  ·rw [if_neg,ih h2 hm]
   rintro rfl
   exact h1 (List.mem_map.2 ⟨_,hm,rfl⟩)
theorem RG{L:List xk}(hs:b6 (L.filterMap (·.2.1))=true){i j s:Nat}{o o':Ob}(h1:(i,some s,o)∈L)(h2:(j,some s,o')∈L):i=j∧o=o':=by
 induction L with
 | nil=>cases h1
 | cons e r ih =>
  obtain ⟨k,s',o''⟩:=e
  have mem:∀{k:Nat} {o:Ob},(k,some s,o)∈r→s∈r.filterMap (·.2.1):=fun h=>List.mem_filterMap.2 ⟨_,h,rfl⟩
  rw [List.filterMap_cons] at hs
  cases s' with
  | none =>
   simp only [] at hs
   exact ih hs ((List.mem_cons.1 h1).resolve_left (by simp)) ((List.mem_cons.1 h2).resolve_left (by simp))
  | some s' =>
   simp only [] at hs
   obtain ⟨h3,h4⟩:=l8 hs
   rcases List.mem_cons.1 h1 with e1 | m1<;>rcases List.mem_cons.1 h2 with e2 | m2
   ·cases e1;cases e2;exact ⟨rfl,rfl⟩
   ·cases e1;exact absurd (mem m2) h3
   ·cases e2;exact absurd (mem m1) h3
   ·exact ih h4 m1 m2
def FO:(ok:OK)→ok.T→Prop
 | .row _ _,xs=>xs=[]
 | _,_=>False
theorem FO.owns:∀{ok:OK} {xs:ok.T},FO ok xs→jq Z w ok (.slice none 0 0) xs
 | .row ty k,xs,h=>by
  have h:xs=[]:=h
  subst h
  exact ⟨[],⟨by simp,.inl ⟨rfl,none,rfl⟩⟩,fun i x hx=>by simp at hx⟩
 | .map _ _,_,h=>h.elim
 | .iter _ _,_,h=>h.elim
 | .mZ,_,h=>h.elim
def tY(Z:Nat→Prop)(ψ:Nat→Value)(h:Hp)(w:World)(h':Hp)(ψ':Nat→Value):xk→Prop
 | (_,some s,.own ok xs)=>h s=some (.own ok xs)
 | (_,none,.own ok xs)=>FO ok xs
 | (_,some s,.box ty cs')=>(∃cs,h s=some (.box ty cs))∧∀gg vs,ψ s=.pointer (some ⟨gg,0,none⟩)→w.heap[gg]? = some (.cells vs ty (0,0))→aq Z ψ' h' w cs' vs.toList
 | (_,none,.box _ _)=>False
theorem Good.rename(g:Good Z ψ h w B0 O){L:List xk}(hn:b6 (L.map (·.1))=true)(hs:b6 (L.filterMap (·.2.1))=true)(lN:∀e∈L,tY Z ψ h w (dv L).get (ep ψ L) e) :
  Good Z (ep ψ L) (dv L).get w B0 O:=by
 have src:∀id b,(dv L).get id≠none→ob (ep ψ L id)=some b→∃s o,(id,some s,o)∈L∧h s≠none∧ob (ψ s)=some b:=fun id b h1 h2=>by
  obtain ⟨o,ho⟩:=Option.ne_none_iff_exists'.1 h1
  obtain ⟨s,hm⟩:=nk ho
  rw [iu hn hm] at h2
  cases s with
  | none=>simp [jB,ob] at h2
  | some s =>
   have h3:=lN _ hm
   refine ⟨s,o,hm,?_,h2⟩
   cases o with
   | box ty cs=>obtain ⟨⟨cs0,h4⟩,_⟩:=h3;rw [h4];simp
   | own ok xs=>rw [show h s=some (.own ok xs) from h3];simp
 refine ⟨fun id ty cs hb => ?_,fun id ok xs hb => ?_,fun id b h1 h2 => ?_,fun id lR b h1 h2 h3 h4 => ?_,g.jw⟩
 ·obtain ⟨s,hm⟩:=nk hb
  have h3:=lN _ hm
  rw [iu hn hm]
  cases s with
  | none=>exact h3.elim
  | some s =>
   obtain ⟨⟨cs0,h4⟩,h5⟩:=h3
   obtain ⟨gg,vs,h6,h7,h8,h9⟩:=g.box s ty cs0 h4
   exact ⟨gg,vs,h6,h7,h5 gg vs h6 h7,h9⟩
 ·obtain ⟨s,hm⟩:=nk hb
  have h3:=lN _ hm
  rw [iu hn hm]
  cases s with
  | none=>exact FO.owns h3
  | some s=>exact g.row s ok xs h3
 ·obtain ⟨s,o,hm,h3,h4⟩:=src id b h1 h2
  exact g.live s b h3 h4
 ·obtain ⟨s,o,hm,h5,h6⟩:=src id b h1 h3
  obtain ⟨s',o',RH,h5',h6'⟩:=src lR b h2 h4
  have:=g.apart s s' b h5 h5' h6 h6'
  subst this
  exact (RG hs hm RH).1
def yv(hh:Heap)(i:Nat):List AV:=match hh.get i with
 | some (.box _ cs)=>cs
 | _=>[]
def dA:(de:List CK)→Nat→List AV→pS de→List xk
 | [],_,_,_=>[]
 | .val k::r,n,cs,x=>dA r (n+1) (cs.drop k.sz) x.2
 | .own ok::r,n,cs,x=>(n,(n6 (cs.headD .no)).head?,.own ok x.1)::dA r (n+1) cs.tail x.2
def dD:(b:BK)→Heap→Nat→Nat→Nat→b.T→List xk
 | .box ty c,hh,i,i',n,x=>(i',some i,.box ty (aA c n x))::dA c n (yv hh i) x
 | .own ok,_,i,i',_,x=>[(i',some i,.own ok x)]
def cr:(bs:List BK)→Heap→List Nat→List Nat→Nat→vj bs→List xk
 | b::r,hh,i::is,i'::is',n,x=>dD b hh i i' n x.1++cr r hh is is' (n+16) x.2
 | _,_,_,_,_,_=>[]
theorem l9:∀(de:List CK) (n:Nat) (cs:List AV) (x:pS de),dv (dA de n cs x)=aW de n x
 | [],_,_,_=>rfl
 | .val k::r,n,cs,x=>l9 r (n+1) _ x.2
 | .own ok::r,n,cs,x=>by simp only [dA,aW,dv,List.map_cons];rw [←l9 r (n+1) cs.tail x.2];rfl
theorem kC:∀(de:List CK) (n:Nat) (cs:List AV) (x:pS de),(dA de n cs x).map (·.1)=cc de n
 | [],_,_,_=>rfl
 | .val k::r,n,cs,x=>kC r (n+1) _ x.2
 | .own ok::r,n,cs,x=>by simp only [dA,cc,List.map_cons];rw [kC r (n+1) cs.tail x.2]
theorem vD(c:AV):(n6 c).head?.toList=n6 c:=by cases c<;>rfl
theorem dE{α β:Type}(f:α→Option β)(a:α)(l:List α):(a::l).filterMap f=(f a).toList++l.filterMap f:=by
 rw [List.filterMap_cons];cases f a<;>rfl
theorem ot{k:K}{r:List CK}{hh:Heap}{cs:List AV}{x:pS (.val k::r)}(hd:cH (.val k::r) hh cs=some x):dH k ((cs.take k.sz).map (cG hh))=some x.1∧cH r hh (cs.drop k.sz)=some x.2:=by
 have e:cH (.val k::r) hh cs=(match dH k ((cs.take k.sz).map (cG hh)),cH r hh (cs.drop k.sz) with
  | some x,some y=>some ((x,y):k.T×pS r)
  | _,_=>none):=by cases cs<;>rfl
 rw [e] at hd
 clear e
 generalize dH k ((cs.take k.sz).map (cG hh))=o1 at hd ⊢
 generalize cH r hh (cs.drop k.sz)=o2 at hd ⊢
 cases o1 with
 | none=>cases hd
 | some x1 =>
  cases o2 with
  | none=>cases hd
  | some y1=>have:=Option.some.inj hd;subst this;exact ⟨rfl,rfl⟩
theorem k0{ok:OK}{r:List CK}{hh:Heap}{cs:List AV}{x:pS (.own ok::r)}(hd:cH (.own ok::r) hh cs=some x):∃c cs',cs=c::cs'∧dG hh ok c=some x.1∧cH r hh cs'=some x.2:=by
 cases cs with
 | nil=>cases hd
 | cons c cs =>
  refine ⟨c,cs,rfl,?_⟩
  have e:cH (.own ok::r) hh (c::cs)=(match dG hh ok c,cH r hh cs with
   | some x,some y=>some ((x,y):ok.T×pS r)
   | _,_=>none):=rfl
  rw [e] at hd
  clear e
  generalize dG hh ok c=o1 at hd ⊢
  generalize cH r hh cs=o2 at hd ⊢
  cases o1 with
  | none=>cases hd
  | some x1 =>
   cases o2 with
   | none=>cases hd
   | some y1=>have:=Option.some.inj hd;subst this;exact ⟨rfl,rfl⟩
theorem ou:∀(de:List CK) (n:Nat) (hh:Heap) (cs:List AV) (x:pS de),cH de hh cs=some x→(dA de n cs x).filterMap (·.2.1)=fq de cs
 | [],_,_,cs,_,_=>by cases cs<;>rfl
 | .val k::r,n,hh,cs,x,hd=>by
  obtain ⟨_,h2⟩:=ot hd
  have e:fq (.val k::r) cs=fq r (cs.drop k.sz):=by cases cs<;>rfl
  rw [e]
  exact ou r (n+1) hh _ x.2 h2
 | .own ok::r,n,hh,cs,x,hd=>by
  obtain ⟨c,cs',rfl,_,h2⟩:=k0 hd
  simp only [dA,fq]
  rw [dE]
  simp only [List.headD_cons,List.tail_cons]
  rw [vD,ou r (n+1) hh cs' x.2 h2]
theorem k9{hh:Heap}{ok:OK}{c:AV}{xs:ok.T}(ho:dG hh ok c=some xs):(c=.fH∧FO ok xs)∨∃id,c=.bC id∧hh.get id=some (.own ok xs):=by
 unfold dG at ho
 split at ho
 ·cases ok with
  | row _ _=>cases ho;exact .inl ⟨rfl,rfl⟩
  | _=>cases ho
 ·rename_i id
  split at ho
  ·rename_i xY k' XB hg
   split at ho
   ·rename_i e
    subst e
    cases ho
    exact .inr ⟨id,rfl,hg⟩
   ·cases ho
  ·cases ho
 ·cases ho
theorem D9{hh:Heap}{ok:OK}{c:AV}{xs:ok.T}{v:Value}(ho:dG hh ok c=some xs)(hr:av Z ψ hh.get w c v){n:Nat}(iK:h' n≠none→ψ' n=jB ψ (n6 c).head?):av Z' ψ' h' w' (.bC n) v:=by
 rcases k9 ho with ⟨rfl,_⟩ | ⟨id,rfl,hg⟩
 ·simp only [av] at hr ⊢
  subst hr
  exact ⟨⟨rfl,rfl⟩,fun hn=>(iK hn).symm⟩
 ·simp only [av] at hr ⊢
  refine ⟨hr.1,fun hn => ?_⟩
  rw [iK hn]
  exact hr.2 (by rw [hg];simp)
theorem qY{hh:Heap}(g:Good Z ψ hh.get w B0 O)(hz:∀b,Z b→Z' b):∀(de:List CK) (n:Nat) (cs:List AV) (x:pS de) (vs:List Value),cH de hh cs=some x →
  (∀id b,AV.bC id∈pe de cs→hh.get id≠none→ob (ψ id)=some b→Z' b)→(∀e∈dA de n cs x,h' e.1≠none→ψ' e.1=jB ψ e.2.1) →
  aq Z ψ hh.get w cs vs→aq Z' ψ' h' w (aA de n x) vs
 | [],n,cs,x,vs,hd,_,_,hr=>by
  cases cs with
  | nil=>simpa only [aA,aq] using hr
  | cons c cs=>cases hd
 | .val k::r,n,cs,x,vs,hd,hf,iK,hr=>by
  obtain ⟨h1,h2⟩:=ot hd
  have e:pe (.val k::r) cs=cs.take k.sz++pe r (cs.drop k.sz):=by cases cs<;>rfl
  rw [e] at hf
  have qR:aq Z ψ hh.get w (cs.take k.sz++cs.drop k.sz) vs:=by rw [List.take_append_drop];exact hr
  obtain ⟨us,ws,rfl,h3,h4⟩:=aq.split qR
  simp only [aA]
  have h5:=ni (Z':=Z') g hz (fun id b bI=>hf id b (List.mem_append_left _ bI)) h3
  exact aq.append (gW (dy h1 h5)) (qY g hz r (n+1) (cs.drop k.sz) x.2 ws h2 (fun id b bI=>hf id b (List.mem_append_right _ bI)) iK h4)
 | .own ok::r,n,cs,x,vs,hd,hf,iK,hr=>by
  obtain ⟨c,cs',rfl,h1,h2⟩:=k0 hd
  simp only [aq] at hr
  obtain ⟨v,us,rfl,h3,h4⟩:=hr
  simp only [aA,aq]
  refine ⟨v,us,rfl,D9 h1 h3 (fun hn=>iK (n,_,_) (by simp only [dA];exact List.mem_cons_self) hn),?_⟩
  exact qY g hz r (n+1) cs' x.2 us h2 hf (fun e he=>iK e (by simp only [dA];exact List.mem_cons_of_mem _ he)) h4
theorem eQ{b:BK}{r:List BK}{hh:Heap}{i:Nat}{is:List Nat}{x:vj (b::r)}(hd:cT (b::r) hh (i::is)=some x):pf b hh i=some x.1∧cT r hh is=some x.2:=by
 have e:cT (b::r) hh (i::is)=(match pf b hh i,cT r hh is with
   | some x,some y=>some ((x,y):b.T×vj r)
   | _,_=>none):=rfl
 rw [e] at hd
 clear e
 generalize pf b hh i=o1 at hd ⊢
 generalize cT r hh is=o2 at hd ⊢
 cases o1 with
 | none=>cases hd
 | some x1 =>
  cases o2 with
  | none=>cases hd
  | some y1=>have:=Option.some.inj hd;subst this;exact ⟨rfl,rfl⟩
theorem qZ{ty:TypeId}{c:List CK}{hh:Heap}{i:Nat}{x:pS c}(hd:pf (.box ty c) hh i=some x):∃cs,hh.get i=some (.box ty cs)∧cH c hh cs=some x:=by
 simp only [pf] at hd
 cases hb:Fs hh i ty with
 | none=>rw [hb] at hd;cases hd
 | some cs =>
  rw [hb] at hd
  refine ⟨cs,?_,hd⟩
  unfold Fs at hb
  split at hb
  ·rename_i xY cs' hg
   split at hb
   ·rename_i e;cases hb;rw [hg,e]
   ·cases hb
  ·cases hb
theorem jC{hh:Heap}{ok:OK}{i:Nat}{x:ok.T}(h:dG hh ok (.bC i)=some x):hh.get i=some (.own ok x):=by
 rcases k9 h with ⟨h,_⟩ | ⟨id,h,hg⟩
 ·cases h
 ·cases h;exact hg
theorem CR{ok:OK}{hh:Heap}{i:Nat}{x:ok.T}(hd:pf (.own ok) hh i=some x):hh.get i=some (.own ok x):=jC hd
theorem ov{hh:Heap}{i:Nat}{ty:TypeId}{cs:List AV}(hg:hh.get i=some (.box ty cs)):yv hh i=cs:=by unfold yv;rw [hg]
theorem Ea(b:BK){hh:Heap}{i i' n:Nat}(x:b.T):dv (dD b hh i i' n x)=iM b i' n x:=by
 cases b with
 | box ty c=>simp only [dD,iM];rw [←l9 c n (yv hh i) x];simp [dv]
 | own ok=>simp [dD,iM,dv]
theorem Ce(b:BK){hh:Heap}{i i' n:Nat}(x:b.T):(dD b hh i i' n x).map (·.1)=i'::cc b.de n:=by
 cases b with
 | box ty c=>simp only [dD,List.map_cons,BK.de];rw [kC]
 | own ok=>simp [dD,BK.de,cc]
theorem FP(b:BK){hh:Heap}{i i' n:Nat}{x:b.T}(hd:pf b hh i=some x):(dD b hh i i' n x).filterMap (·.2.1)=jQ b hh i:=by
 cases b with
 | box ty c =>
  obtain ⟨cs,h1,h2⟩:=qZ hd
  simp only [dD,jQ]
  rw [dE,ov h1,ou c n hh cs x h2,h1]
  rfl
 | own ok=>simp [dD,jQ]
theorem iQ:∀(bs:List BK) (hh:Heap) (is is':List Nat) (n:Nat) (x:vj bs),cT bs hh is=some x→is'.length=bs.length→dv (cr bs hh is is' n x)=bj bs is' n x
 | [],hh,is,is',n,x,_,hl=>by cases is'<;>simp [cr,bj,dv]
 | b::r,hh,[],is',n,x,hd,_=>by cases hd
 | b::r,hh,i::is,[],n,x,_,hl=>by simp at hl
 | b::r,hh,i::is,i'::is',n,x,hd,hl=>by
  obtain ⟨_,h3⟩:=eQ hd
  have ih:=iQ r hh is is' (n+16) x.2 h3 (by simpa using hl)
  simp only [cr,bj]
  rw [←ih,←Ea b (hh:=hh) (i:=i) x.1]
  simp [dv]
theorem gI:∀(bs:List BK) (hh:Heap) (is is':List Nat) (n:Nat) (x:vj bs),cT bs hh is=some x→is'.length=bs.length→(cr bs hh is is' n x).map (·.1)=bX bs is' n
 | [],hh,is,is',n,x,_,hl=>by cases is'<;>simp [cr,bX]
 | b::r,hh,[],is',n,x,hd,_=>by cases hd
 | b::r,hh,i::is,[],n,x,_,hl=>by simp at hl
 | b::r,hh,i::is,i'::is',n,x,hd,hl=>by
  obtain ⟨_,h3⟩:=eQ hd
  have ih:=gI r hh is is' (n+16) x.2 h3 (by simpa using hl)
  simp only [cr,bX,List.map_append]
  rw [ih,Ce,List.cons_append]
theorem jW:∀(bs:List BK) (hh:Heap) (is is':List Nat) (n:Nat) (x:vj bs),cT bs hh is=some x→is'.length=bs.length→(cr bs hh is is' n x).filterMap (·.2.1)=cU bs hh is
 | [],hh,is,is',n,x,_,hl=>by cases is'<;>cases is<;>simp [cr,cU]
 | b::r,hh,[],is',n,x,hd,_=>by cases hd
 | b::r,hh,i::is,[],n,x,_,hl=>by simp at hl
 | b::r,hh,i::is,i'::is',n,x,hd,hl=>by
  obtain ⟨h1,h3⟩:=eQ hd
  have ih:=jW r hh is is' (n+16) x.2 h3 (by simpa using hl)
  simp only [cr,cU]
  rw [List.filterMap_append,ih,FP b h1]
theorem q6{hd:Hp}{hh:Heap}:∀(de:List CK) (n:Nat) (cs:List AV) (x:pS de),cH de hh cs=some x→(∀s∈fq de cs,hd s=hh.get s)→∀e∈dA de n cs x,tY Z ψ hd w h' ψ' e
 | [],n,cs,x,_,_,e,he=>by simp [dA] at he
 | .val k::r,n,cs,x,Q9,hk,e,he=>by
  obtain ⟨_,h2⟩:=ot Q9
  have e0:fq (.val k::r) cs=fq r (cs.drop k.sz):=by cases cs<;>rfl
  rw [e0] at hk
  exact q6 r (n+1) _ x.2 h2 hk e he
 | .own ok::r,n,cs,x,Q9,hk,e,he=>by
  obtain ⟨c,cs',rfl,h1,h2⟩:=k0 Q9
  simp only [dA,List.headD_cons,List.tail_cons] at he
  simp only [fq] at hk
  rcases List.mem_cons.1 he with rfl | he
  ·rcases k9 h1 with ⟨rfl,h3⟩ | ⟨id,rfl,h3⟩
   ·exact h3
   ·show hd id=some (.own ok x.1)
    rw [hk id (List.mem_append_left _ (by simp [n6])),h3]
  ·exact q6 r (n+1) cs' x.2 h2 (fun s hs=>hk s (List.mem_append_right _ hs)) e he
theorem IA{hd:Hp}{hh:Heap}(g:Good Z ψ hh.get w B0 O)(hz:∀b,Z b→Z' b)(b:BK){i i' n:Nat}{x:b.T}(Q9:pf b hh i=some x)
  (hf:∀id g,AV.bC id∈ze b hh i→hh.get id≠none→ob (ψ id)=some g→Z' g) (hk:∀s∈jQ b hh i,hd s=hh.get s) (iK:∀e∈dD b hh i i' n x,h' e.1≠none→ψ' e.1=jB ψ e.2.1) :
  ∀e∈dD b hh i i' n x,tY Z' ψ hd w h' ψ' e:=by
 intro e he
 cases b with
 | box ty c =>
  obtain ⟨cs,h1,h2⟩:=qZ Q9
  simp only [ze,jQ,h1] at hf hk
  have UM:∀e∈dA c n cs x,h' e.1≠none→ψ' e.1=jB ψ e.2.1:=fun e he=>iK e (by simp only [dD];rw [ov h1];exact List.mem_cons_of_mem _ he)
  simp only [dD] at he
  rcases List.mem_cons.1 he with rfl | he
  ·refine ⟨⟨cs,by rw [hk i List.mem_cons_self,h1]⟩,fun gg vs h4 h5 => ?_⟩
   obtain ⟨gg',gK,h6,h7,h8,_⟩:=g.box i ty cs h1
   rw [h6] at h4
   cases h4
   rw [h5] at h7
   cases h7
   exact qY g hz c n cs x _ h2 hf UM h8
  ·rw [ov h1] at he
   exact q6 c n cs x h2 (fun s hs=>hk s (List.mem_cons_of_mem _ hs)) e he
 | own ok =>
  have h1:=CR Q9
  simp only [dD,List.mem_singleton] at he
  subst he
  show hd i=some (.own ok x)
  rw [hk i (by simp [jQ]),h1]
theorem la{hd:Hp}{hh:Heap}(g:Good Z ψ hh.get w B0 O)(hz:∀b,Z b→Z' b):∀(bs:List BK) (is is':List Nat) (n:Nat) (x:vj bs),cT bs hh is=some x →
  (∀id b,AV.bC id∈fJ bs hh is→hh.get id≠none→ob (ψ id)=some b→Z' b)→(∀s∈cU bs hh is,hd s=hh.get s)→(∀e∈cr bs hh is is' n x,h' e.1≠none→ψ' e.1=jB ψ e.2.1) →
  ∀e∈cr bs hh is is' n x,tY Z' ψ hd w h' ψ' e
 | [],is,is',n,x,_,_,_,_,e,he=>by simp [cr] at he
 | b::r,[],is',n,x,Q9,_,_,_,e,he=>by cases Q9
 | b::r,i::is,[],n,x,_,_,_,_,e,he=>by simp [cr] at he
 | b::r,i::is,i'::is',n,x,Q9,hf,hk,iK,e,he=>by
  obtain ⟨h1,h3⟩:=eQ Q9
  simp only [fJ,cU] at hf hk
  simp only [cr] at he iK
  rcases List.mem_append.1 he with he | he
  ·exact IA g hz b h1 (fun id g bI=>hf id g (List.mem_append_left _ bI)) (fun s hs=>hk s (List.mem_append_left _ hs)) (fun e he=>iK e (List.mem_append_left _ he)) e he
  ·exact la g hz r is is' (n+16) x.2 h3 (fun id b bI=>hf id b (List.mem_append_right _ bI)) (fun s hs=>hk s (List.mem_append_right _ hs)) (fun e he=>iK e (List.mem_append_right _ he)) e he
theorem q7{kept:List Nat}{kj:List AV}(hk:vo kept kj=true):b6 kept=true∧∀(hh:Heap) s,s∈kept→(cE hh kj).get s=hh.get s:=by
 unfold vo at hk
 rw [Bool.and_eq_true] at hk
 exact ⟨hk.1,fun hh s hs=>oc _ _ _ (qU (List.all_eq_true.1 hk.2 s hs))⟩
theorem vE{hh:Heap}{kj:List AV}{kept:List Nat}(g:Good Z ψ hh.get w B0 O)(hk:vo kept kj=true){L:List xk}(hn:b6 (L.map (·.1))=true)(hs:L.filterMap (·.2.1)=kept)
  (lN:∀e∈L,tY (pP Z ψ hh.get kj) ψ (cE hh kj).get w (dv L).get (ep ψ L) e):Good (pP Z ψ hh.get kj) (ep ψ L) (dv L).get w B0 O :=
 (hY g kj).rename hn (by rw [hs];exact (q7 hk).1) lN
theorem yw{L:List xk}(hn:b6 (L.map (·.1))=true):∀e∈L,(dv L).get e.1≠none→ep ψ L e.1=jB ψ e.2.1:=fun ⟨i,s,o⟩ he _=>iu hn he
theorem ma(A B:List xk):dv (A++B)=dv A++dv B:=by simp [dv]
theorem yx{hh:Heap}{i s i':Nat}{v:Value}(hr:av Z ψ hh.get w (.ref i s 0 0) v)(hi:hh.get i≠none)(iK:h' i'≠none→ψ' i'=ψ i):av Z' ψ' h' w' (.ref i' 0 0 0) v:=by
 simp only [av] at hr ⊢
 obtain ⟨a,rfl,ha⟩:=hr
 refine ⟨a,rfl,fun hn => ?_⟩
 rw [iK hn,ha hi]
 simp
theorem ow{v:AV}{i:Nat}(h:CG v=some i):∃s,v=.ref i s 0 0:=by
 unfold CG at h
 split at h
 ·cases h;exact ⟨_,rfl⟩
 ·cases h
theorem iR{hh:Heap}:∀(bs:List BK) (is:List Nat) (x:vj bs),cT bs hh is=some x→is.length=bs.length∧∀i∈is,hh.get i≠none
 | [],[],_,_=>⟨rfl,fun i hi=>by cases hi⟩
 | [],_::_,_,h=>by cases h
 | _::_,[],_,h=>by cases h
 | b::r,i::is,x,h=>by
  obtain ⟨h1,h3⟩:=eQ h
  obtain ⟨h4,h5⟩:=iR r is x.2 h3
  refine ⟨by simp [h4],fun j hj => ?_⟩
  rcases List.mem_cons.1 hj with rfl | hj
  ·cases b with
   | box ty c=>obtain ⟨cs,h1,_⟩:=qZ h1;rw [h1];simp
   | own ok=>rw [CR h1];simp
  ·exact h5 j hj
theorem jX{hh:Heap}:∀(bs:List BK) (is is':List Nat) (n:Nat) (x:vj bs),is.length=bs.length→∀p∈is.zip is',∃o,(p.2,some p.1,o)∈cr bs hh is is' n x
 | [],is,is',n,x,hl,p,hp=>by
  cases is with
  | nil=>simp at hp
  | cons a r=>simp at hl
 | b::r,[],is',n,x,hl,p,hp=>by simp at hp
 | b::r,i::is,[],n,x,hl,p,hp=>by simp at hp
 | b::r,i::is,i'::is',n,x,hl,p,hp=>by
  simp only [List.zip_cons_cons] at hp
  simp only [cr]
  rcases List.mem_cons.1 hp with rfl | hp
  ·cases b with
   | box ty c=>exact ⟨_,List.mem_append_left _ (by simp only [dD];exact List.mem_cons_self)⟩
   | own ok=>exact ⟨_,List.mem_append_left _ (by simp only [dD];exact List.mem_cons_self)⟩
  ·obtain ⟨o,ho⟩:=jX r is is' (n+16) x.2 (by simpa using hl) p hp
   exact ⟨o,List.mem_append_right _ ho⟩
theorem Ke{hd:Hp}{hh:Heap}{ok:OK}{c:AV}{xs:ok.T}(ho:dG hh ok c=some xs)(hk:∀s∈n6 c,hd s=hh.get s){n:Nat}:tY Z ψ hd w h' ψ' (n,(n6 c).head?,.own ok xs):=by
 rcases k9 ho with ⟨rfl,h3⟩ | ⟨id,rfl,h3⟩
 ·exact h3
 ·show hd id=some (.own ok xs)
  rw [hk id (by simp [n6]),h3]
end Go.Vs
namespace Go.Vs
variable {P:Program} {Z Z':Nat→Prop} {ψ ψ':Nat→Value} {h h':Hp} {w w':World} {B0:Nat} {O:Nat→Prop} {N:Nat→Prop}
def fO:Hp:=fun _=>none
def H4:Nat→Value:=fun _=>undef
def CS(g:aL)(x:Fq (kl g.ps)):List AV:=(aR g.ps [] 0 x).map (·.2)
def XM(P:Program)(f:FuncId)(g:aL)(x:g.A)(y:g.B):Prop :=
 ∀(Z:Nat→Prop) (w:World) (jY:List Value),(∀b,Z b→b<w.heap.size)→aq Z H4 fO w (CS g x.1) jY →
  Calls P (f % 1000) jY.toArray w fun e w'=>∃v Z' ψ',e=.returned v∧(∀b,Z b→Z' b)∧(∀b,Z' b→Z b∨w.heap.size≤b)∧cV H4 fO w w' ∧
   Good Z' ψ' (ak g.rs 3000 y.1).get w' w.heap.size (fun _=>False)∧av Z' ψ' (ak g.rs 3000 y.1).get w' (eJ (aS g.rs [] 2000 3000 y.1)) v
theorem xl{p:PK}{ps:List PK}{vs:List AV}(hi:cy (p::ps) vs=some []):∃a r,vs=a::r∧cy ps r=some []∧(p≠.ref∧p≠.own)∧(∀f n,p=.Fp f n→a=.fn f [])∧(∀n,p=.agg n→a=.agg []):=by
 cases vs with
 | nil=>cases p<;>simp [cy] at hi
 | cons a r =>
  cases p with
  | val k=>exact ⟨a,r,rfl,by simpa only [cy] using hi,by simp,by simp,by simp⟩
  | ref =>
   simp only [cy] at hi
   split at hi<;>simp at hi
  | own =>
   cases a<;>simp only [cy] at hi<;>first | (cases hi;done) | skip
   split at hi<;>simp at hi
  | Fp f n =>
   cases a<;>simp only [cy] at hi<;>first | (cases hi;done) | skip
   rename_i f' cap
   split at hi
   ·rename_i hc
    obtain ⟨rfl,sN⟩:=hc
    split at hi
    ·rename_i a1 b1 h1 h2
     simp only [Option.some.injEq,List.append_eq_nil_iff] at hi
     obtain ⟨rfl,rfl⟩:=hi
     have UA:cap=[]:=by
      cases cap with
      | nil=>rfl
      | cons c cs=>simp only [jt] at h1;split at h1<;>simp at h1
     subst UA
     exact ⟨_,r,rfl,h2,by simp,by rintro f n ⟨⟩;rfl,by simp⟩
    ·cases hi
   ·cases hi
  | agg n =>
   cases a<;>simp only [cy] at hi<;>first | (cases hi;done) | skip
   rename_i cs
   split at hi
   ·split at hi
    ·rename_i a1 b1 h1 h2
     simp only [Option.some.injEq,List.append_eq_nil_iff] at hi
     obtain ⟨rfl,rfl⟩:=hi
     have Lt:cs=[]:=by
      cases cs with
      | nil=>rfl
      | cons c cs=>cases c<;>simp only [n8] at h1<;>first | (cases h1;done) | (split at h1<;>simp at h1)
     subst Lt
     exact ⟨_,r,rfl,h2,by simp,by simp,fun _ _=>rfl⟩
    ·cases hi
   ·cases hi
theorem xm{k:K}{ps:List PK}{hh:Heap}{a:AV}{r:List AV}{x:k.T×Fq (kl ps)}(hv:dY (.val k::ps) hh (a::r)=some x):fD k hh a=some x.1∧dY ps hh r=some x.2:=by
 have e:dY (.val k::ps) hh (a::r)=(match fD k hh a,dY ps hh r with
  | some x,some y=>some ((x,y):k.T×Fq (kl ps))
  | _,_=>none):=rfl
 rw [e] at hv
 clear e
 generalize fD k hh a=o1 at hv ⊢
 generalize dY ps hh r=o2 at hv ⊢
 cases o1 with
 | none=>cases hv
 | some x1 =>
  cases o2 with
  | none=>cases hv
  | some y1 =>
   have:=Option.some.inj hv
   subst this
   exact ⟨rfl,rfl⟩
theorem zQ{hh:Heap}(g:Good Z ψ hh.get w B0 O)(hz:∀b,Z b→Z' b)(ps:List PK):∀(s:Nat) (vs:List AV) (us:List Value) (x:Fq (kl ps)),(∀v∈vs,∀id b,AV.bC id∈v.cells→hh.get id≠none→ob (ψ id)=some b→Z' b) →
  cy ps vs=some []→dY ps hh vs=some x→aq Z ψ hh.get w vs us→aq Z' H4 fO w ((aR ps [] s x).map (·.2)) us:=by
 induction ps with
 | nil =>
  intro s vs us x _ hi hv hr
  cases vs with
  | nil=>simpa only [aR,List.map_nil,aq] using hr
  | cons a r=>simp [cy] at hi
 | cons p ps ih =>
  intro s vs us x hb hi hv hr
  obtain ⟨a,r,rfl,sM,RI,UN,UO⟩:=xl hi
  simp only [aq] at hr
  obtain ⟨u,iH,rfl,h3,h4⟩:=hr
  cases p with
  | val k =>
   obtain ⟨h1,h2⟩:=xm hv
   simp only [aR,List.map_cons,aq]
   exact ⟨u,iH,rfl,qV (Z':=Z') (ψ':=H4) (h':=fO) g hz (hb a List.mem_cons_self) h1 h3,ih (s+1) r iH x.2 (fun v hv=>hb v (List.mem_cons_of_mem _ hv)) sM h2 h4⟩
  | ref=>exact absurd rfl RI.1
  | own=>exact absurd rfl RI.2
  | Fp f n =>
   have ha:=UN f n rfl
   subst ha
   have h2:dY ps hh r=some x:=hv
   simp only [aR,List.map_cons,aq,List.take_nil,List.map_nil,List.drop_nil]
   simp only [av,aq] at h3 ⊢
   exact ⟨u,iH,rfl,h3,ih (s+1) r iH x (fun v hv=>hb v (List.mem_cons_of_mem _ hv)) sM h2 h4⟩
  | agg n =>
   have ha:=UO n rfl
   subst ha
   have h2:dY ps hh r=some x:=hv
   simp only [aR,List.map_cons,aq,List.take_nil,List.map_nil,List.drop_nil]
   simp only [av,aq] at h3 ⊢
   exact ⟨u,iH,rfl,h3,ih (s+1) r iH x (fun v hv=>hb v (List.mem_cons_of_mem _ hv)) sM h2 h4⟩
theorem Good.XN(g:Good Z ψ h w B0 O)(k:cV H4 fO w w')(hz:∀b,Z b→Z' b)(zo:∀b,Z' b→Z b∨w.heap.size≤b)(acu:∀b,Z' b→b<w'.heap.size)
  (hold:∀id,¬N id→h' id=h id∧ψ' id=ψ id)
  (bf:∀id ty cs,h id=some (.box ty cs)→aB (fun i=>¬N i) cs)
  (Nu:∀id ty cs,N id→h' id=some (.box ty cs)→False)
  (nj:∀id ok xs,N id→h' id=some (.own ok xs)→jq Z' w' ok (ψ' id) xs)
  (zq:∀id b,N id→h' id≠none→ob (ψ' id)=some b→w.heap.size≤b∧¬Z' b)
  (Ii:∀id lR b,N id→N lR→h' id≠none→h' lR≠none→ob (ψ' id)=some b→ob (ψ' lR)=some b→id=lR) (hB:B0≤w.heap.size) :
  Next Z ψ h w B0 O N Z' ψ' h' w':=by
 have dr:∀b,b<w.heap.size→w'.heap[b]? = w.heap[b]? := fun b hb=>k.block b hb (fun ⟨id,h1,_⟩=>h1 rfl)
 have sm:cp Z w w':=fun b hb=>dr b (g.jw b hb)
 have mJ:∀id,h' id≠none→(h id≠none∧ψ' id=ψ id)∨N id:=fun id bI=>by
  by_cases hn:N id
  ·exact .inr hn
  ·obtain ⟨e1,e2⟩:=hold id hn
   exact .inl ⟨by rwa [e1] at bI,e2⟩
 have xc:∀id b,¬N id→h' id≠none→ob (ψ' id)=some b→Own ψ h b:=fun id b hn h1 h2=>by
  obtain ⟨e1,e2⟩:=hold id hn
  exact ⟨id,by rwa [e1] at h1,by rwa [e2] at h2⟩
 have kk:cV ψ h w w':=⟨k.os,k.tape,k.output,k.size,fun b hb _=>dr b hb⟩
 refine ⟨hz,fun b hb=>(zo b hb).imp (fun h=>h) .inr,kk,mJ,⟨fun id ty cs hb => ?_,fun id ok xs hb => ?_,fun id b h1 h2 => ?_,fun id lR b h1 h2 h3 h4 => ?_,acu⟩⟩
 ·by_cases hn:N id
  ·exact (Nu id ty cs hn hb).elim
  ·obtain ⟨e1,e2⟩:=hold id hn
   rw [e1] at hb
   obtain ⟨gg,vs,h1,h2,h3,h4⟩:=g.box id ty cs hb
   exact ⟨gg,vs,by rw [e2,h1],(dr gg (Array.getElem?_eq_some_iff.1 h2).1).trans h2,h3.move hz sm (fun i hp bI=>(mJ i bI).resolve_right hp) (bf id ty cs hb),h4⟩
 ·by_cases hn:N id
  ·exact nj id ok xs hn hb
  ·obtain ⟨e1,e2⟩:=hold id hn
   rw [e1] at hb
   rw [e2]
   exact (g.row id ok xs hb).kept hz sm (fun gg Lo=>dr gg (g.bJ ⟨id,by rw [hb];simp,Lo⟩))
 ·by_cases hn:N id
  ·obtain ⟨h3,h4⟩:=zq id b hn h1 h2
   exact ⟨h4,.inl (by omega)⟩
  ·obtain ⟨e1,e2⟩:=hold id hn
   rw [e1] at h1;rw [e2] at h2
   have h3:=g.live id b h1 h2
   refine ⟨fun Xz => ?_,h3.2⟩
   rcases zo b Xz with h4 | h4
   ·exact h3.1 h4
   ·have:=g.bJ ⟨id,h1,h2⟩;omega
 ·by_cases hn:N id<;>by_cases Ij:N lR
  ·exact Ii id lR b hn Ij h1 h2 h3 h4
  ·have:=(zq id b hn h1 h3).1
   have:=g.bJ (xc lR b Ij h2 h4);omega
  ·have:=(zq lR b Ij h2 h4).1
   have:=g.bJ (xc id b hn h1 h3);omega
  ·obtain ⟨e1,e2⟩:=hold id hn
   obtain ⟨e3,e4⟩:=hold lR Ij
   rw [e1] at h1;rw [e2] at h3;rw [e3] at h2;rw [e4] at h4
   exact g.apart id lR b h1 h2 h3 h4
theorem bw{r:RK}{rs:List RK}(h:(r::rs).all RK.plain=true):rs.all RK.plain=true:=by simp only [List.all_cons,Bool.and_eq_true] at h;exact h.2
theorem LF{c:List CK}{rs:List RK}(h:(RK.agg c::rs).all RK.plain=true):c.length≤16:=by
 simp only [List.all_cons,Bool.and_eq_true,RK.plain,decide_eq_true_eq] at h;exact h.1
theorem lf:∀(c:List CK) (a:Nat) (x:pS c) (i:Nat),i<a→(aW c a x).get i=none
 | [],_,_,_,_=>rfl
 | .val _::r,a,x,i,h=>by simp only [aW];exact lf r (a+1) x.2 i (by omega)
 | .own ok::r,a,x,i,h=>by simp only [aW,Heap.get];rw [if_neg (by omega)];exact lf r (a+1) x.2 i (by omega)
theorem sZ:∀(c:List CK) (a:Nat) (x:pS c) (i:Nat),a+c.length≤i→(aW c a x).get i=none
 | [],_,_,_,_=>rfl
 | .val _::r,a,x,i,h=>by simp only [List.length_cons] at h;simp only [aW];exact sZ r (a+1) x.2 i (by omega)
 | .own ok::r,a,x,i,h=>by simp only [List.length_cons] at h;simp only [aW,Heap.get];rw [if_neg (by omega)];exact sZ r (a+1) x.2 i (by omega)
theorem s5:∀(c:List CK) (a b:Nat) (x:pS c) (j:Nat),(aW c a x).get (a+j)=(aW c b x).get (b+j)
 | [],_,_,_,_=>rfl
 | .val _::r,a,b,x,0=>by simp only [aW];rw [lf _ _ _ _ (by omega),lf _ _ _ _ (by omega)]
 | .own ok::r,a,b,x,0=>by simp [aW,Heap.get]
 | .val _::r,a,b,x,j+1=>by
  simp only [aW]
  rw [show a+(j+1)=a+1+j by omega,show b+(j+1)=b+1+j by omega]
  exact s5 r (a+1) (b+1) x.2 j
 | .own ok::r,a,b,x,j+1=>by
  simp only [aW,Heap.get]
  rw [if_neg (by omega),if_neg (by omega),show a+(j+1)=a+1+j by omega,show b+(j+1)=b+1+j by omega]
  exact s5 r (a+1) (b+1) x.2 j
theorem mO:∀(c:List CK) (a:Nat) (x:pS c) (i:Nat) (ty:TypeId) (cs:List AV),(aW c a x).get i≠some (.box ty cs)
 | [],_,_,_,_,_=>by simp [aW,Heap.get]
 | .val _::r,a,x,i,ty,cs=>by simp only [aW];exact mO r (a+1) x.2 i ty cs
 | .own ok::r,a,x,i,ty,cs=>by
  simp only [aW,Heap.get]
  split
  ·simp
  ·exact mO r (a+1) x.2 i ty cs
theorem qh:∀(rs:List RK) (a:Nat) (y:kU rs) (i:Nat),rs.all RK.plain=true→i<a→(ak rs a y).get i=none
 | [],a,y,i,_,h=>rfl
 | .val k::r,a,y,i,hp,h=>by simp only [ak];exact qh r (a+1) y.2 i (bw hp) (by omega)
 | .own ok::r,a,y,i,hp,h=>by simp only [ak,Heap.get];rw [if_neg (by omega)];exact qh r (a+1) y.2 i (bw hp) (by omega)
 | .ed _ _::r,a,y,i,hp,h=>by simp only [ak];exact qh r (a+1) y.2 i (bw hp) (by omega)
 | .agg c::r,a,y,i,hp,h=>by
  have h1:(aW c a y.1).get i=none:=lf c a y.1 i h
  have h2:=qh r (a+1) y.2 i (bw hp) (by omega)
  show Heap.get (aW c a y.1++ak r (a+1) y.2) i=none
  rw [Heap.get_append,h1,h2]
theorem FQ:∀(rs:List RK) (a:Nat) (y:kU rs) (i:Nat),rs.all RK.plain=true→a+rs.length+16≤i→(ak rs a y).get i=none
 | [],a,y,i,_,h=>rfl
 | .val k::r,a,y,i,hp,h=>by simp only [List.length_cons] at h;simp only [ak];exact FQ r (a+1) y.2 i (bw hp) (by omega)
 | .own ok::r,a,y,i,hp,h=>by simp only [List.length_cons] at h;simp only [ak,Heap.get];rw [if_neg (by omega)];exact FQ r (a+1) y.2 i (bw hp) (by omega)
 | .ed _ _::r,a,y,i,hp,h=>by simp only [List.length_cons] at h;simp only [ak];exact FQ r (a+1) y.2 i (bw hp) (by omega)
 | .agg c::r,a,y,i,hp,h=>by
  simp only [List.length_cons] at h
  have hc:=LF hp
  have h1:(aW c a y.1).get i=none:=sZ c a y.1 i (by omega)
  have h2:=FQ r (a+1) y.2 i (bw hp) (by omega)
  show Heap.get (aW c a y.1++ak r (a+1) y.2) i=none
  rw [Heap.get_append,h1,h2]
theorem FR:∀(rs:List RK) (a b:Nat) (y:kU rs) (j:Nat),rs.all RK.plain=true→(ak rs a y).get (a+j)=(ak rs b y).get (b+j)
 | [],_,_,_,_,_=>rfl
 | .val k::r,a,b,y,0,hp=>by simp only [ak];rw [qh _ _ _ _ (bw hp) (by omega),qh _ _ _ _ (bw hp) (by omega)]
 | .ed _ _::r,a,b,y,0,hp=>by simp only [ak];rw [qh _ _ _ _ (bw hp) (by omega),qh _ _ _ _ (bw hp) (by omega)]
 | .own ok::r,a,b,y,0,hp=>by simp [ak,Heap.get]
 | .val k::r,a,b,y,j+1,hp=>by
  simp only [ak]
  rw [show a+(j+1)=a+1+j by omega,show b+(j+1)=b+1+j by omega]
  exact FR r (a+1) (b+1) y.2 j (bw hp)
 | .ed _ _::r,a,b,y,j+1,hp=>by
  simp only [ak]
  rw [show a+(j+1)=a+1+j by omega,show b+(j+1)=b+1+j by omega]
  exact FR r (a+1) (b+1) y.2 j (bw hp)
 | .own ok::r,a,b,y,j+1,hp=>by
  simp only [ak,Heap.get]
  rw [if_neg (by omega),if_neg (by omega),show a+(j+1)=a+1+j by omega,show b+(j+1)=b+1+j by omega]
  exact FR r (a+1) (b+1) y.2 j (bw hp)
 | .agg c::r,a,b,y,j,hp=>by
  have h1:(aW c a y.1).get (a+j)=(aW c b y.1).get (b+j):=s5 c a b y.1 j
  have h2:(ak r (a+1) y.2).get (a+j)=(ak r (b+1) y.2).get (b+j):=by
   cases j with
   | zero=>rw [qh _ _ _ _ (bw hp) (by omega),qh _ _ _ _ (bw hp) (by omega)]
   | succ j =>
    rw [show a+(j+1)=a+1+j by omega,show b+(j+1)=b+1+j by omega]
    exact FR r (a+1) (b+1) y.2 j (bw hp)
  show Heap.get (aW c a y.1++ak r (a+1) y.2) (a+j)=Heap.get (aW c b y.1++ak r (b+1) y.2) (b+j)
  rw [Heap.get_append,Heap.get_append,h1,h2]
theorem tZ:∀(rs:List RK) (a:Nat) (y:kU rs) (i:Nat) (ty:TypeId) (cs:List AV),rs.all RK.plain=true→(ak rs a y).get i≠some (.box ty cs)
 | [],_,_,_,_,_,_=>by simp [ak,Heap.get]
 | .val k::r,a,y,i,ty,cs,hp=>by simp only [ak];exact tZ r (a+1) y.2 i ty cs (bw hp)
 | .ed _ _::r,a,y,i,ty,cs,hp=>by simp only [ak];exact tZ r (a+1) y.2 i ty cs (bw hp)
 | .own ok::r,a,y,i,ty,cs,hp=>by
  simp only [ak,Heap.get]
  split
  ·simp
  ·exact tZ r (a+1) y.2 i ty cs (bw hp)
 | .agg c::r,a,y,i,ty,cs,hp=>by
  have h1:(aW c a y.1).get i≠some (.box ty cs):=mO c a y.1 i ty cs
  show Heap.get (aW c a y.1++ak r (a+1) y.2) i≠some (.box ty cs)
  rw [Heap.get_append]
  split
  ·rename_i o ho;rw [ho] at h1;exact h1
  ·exact tZ r (a+1) y.2 i ty cs (bw hp)
theorem lg(p:Nat→Prop):∀(k:K) (x:k.T),aB p (enc k x)
 | .int _,_=>by simp only [enc,aB,aK];exact ⟨trivial,trivial⟩
 | .bool,_=>by simp only [enc,aB,aK];exact ⟨trivial,trivial⟩
 | .str,_=>by simp only [enc,aB,aK];exact ⟨trivial,trivial⟩
 | .sl _,_=>by simp only [enc,aB,aK];exact ⟨trivial,trivial⟩
 | .mp _ _,_=>by simp only [enc,aB,aK];exact ⟨trivial,trivial⟩
 | .pair a b,x=>by
  simp only [enc]
  have h1:=lg p a x.1
  have h2:=lg p b x.2
  revert h1
  generalize enc a x.1=l
  induction l with
  | nil=>intro _;exact h2
  | cons c r ih=>intro h;simp only [List.cons_append,aB] at h ⊢;exact ⟨h.1,ih h.2⟩
 | .one k,x=>by simp only [enc];exact lg p k x
theorem nm(p:Nat→Prop):∀(k:K) (x:k.T),aK p (cg k x)
 | .int _,_=>by simp only [cg,aK]
 | .bool,_=>by simp only [cg,aK]
 | .str,_=>by simp only [cg,aK]
 | .sl _,_=>by simp only [cg,aK]
 | .mp _ _,_=>by simp only [cg,aK]
 | .pair a b,x=>by simp only [cg,aK];exact lg p (.pair a b) x
 | .one k,x=>by simp only [cg,aK];exact lg p (.one k) x
theorem NP{k:K}{x:k.T}{v:Value}(hr:av Z ψ h w (cg k x) v):av Z ψ' h' w (cg k x) v :=
 hr.move (p:=fun _=>False) (fun _ h=>h) (cp.refl _ _) (fun _ hp _=>hp.elim) (nm _ k x)
theorem RJ(r:RK)(rs:List RK)(b:Nat)(y:kU (r::rs))(i:Nat)(hi:(ak rs (b+1) y.2).get i≠none):(ak (r::rs) b y).get i≠none:=by
 cases r with
 | val k=>exact hi
 | ed _ _=>exact hi
 | own ok=>simp only [ak,Heap.get];split<;>simp_all
 | agg c =>
  show Heap.get (aW c b y.1++ak rs (b+1) y.2) i≠none
  rw [Heap.get_append]
  split
  ·simp
  ·exact hi
theorem IB(c:List CK):∀{H:Hp} {a b:Nat} {x:pS c} {vs:List Value},(∀j,(aW c b x).get (b+j)≠none→h' (b+j)≠none→H (a+j)≠none∧ψ' (b+j)=ψ (a+j)) →
  aq Z ψ H w (aA c a x) vs→aq Z ψ' h' w (aA c b x) vs:=by
 induction c with
 | nil=>intro H a b x vs _ hr;simpa only [aA,aq] using hr
 | cons k c ih =>
  intro H a b x vs hH hr
  cases k with
  | val k =>
   have qR:aq Z ψ H w (enc k x.1++aA c (a+1) x.2) vs:=hr
   obtain ⟨us,ws,rfl,h1,h2⟩:=qR.split
   show aq Z ψ' h' w (enc k x.1++aA c (b+1) x.2) (us++ws)
   refine (h1.move (p:=fun _=>False) (fun _ h=>h) (cp.refl _ _) (fun _ hp _=>hp.elim) (lg _ k x.1)).append (ih (fun j hj bc => ?_) h2)
   have:=hH (j+1)
   rw [show b+(j+1)=b+1+j by omega,show a+(j+1)=a+1+j by omega] at this
   exact this hj bc
  | own ok =>
   have qR:aq Z ψ H w (.bC a::aA c (a+1) x.2) vs:=hr
   simp only [aq] at qR
   obtain ⟨v,us,rfl,h1,h2⟩:=qR
   show aq Z ψ' h' w (.bC b::aA c (b+1) x.2) (v::us)
   simp only [aq]
   refine ⟨v,us,rfl,?_,ih (fun j hj bc => ?_) h2⟩
   ·simp only [av] at h1 ⊢
    refine ⟨h1.1,fun bc => ?_⟩
    obtain ⟨h3,h4⟩:=hH 0 (by simp [aW,Heap.get]) bc
    rw [Nat.add_zero,Nat.add_zero] at h4
    rw [h4];exact h1.2 h3
   ·have:=hH (j+1)
    rw [show b+(j+1)=b+1+j by omega,show a+(j+1)=a+1+j by omega] at this
    refine this ?_ bc
    have e:(aW (.own ok::c) b x).get (b+1+j)=(aW c (b+1) x.2).get (b+1+j):=by simp only [aW,Heap.get];rw [if_neg (by omega)]
    rw [e];exact hj
theorem NQ(rs:List RK):∀{H:Hp} {n m a b:Nat} {y:kU rs} {vs:List Value},rs.all RK.plain=true→(∀j,(ak rs b y).get (b+j)≠none→h' (b+j)≠none→H (a+j)≠none∧ψ' (b+j)=ψ (a+j)) →
  aq Z ψ H w (aS rs [] n a y) vs→aq Z ψ' h' w (aS rs [] m b y) vs:=by
 induction rs with
 | nil=>intro H n m a b y vs _ _ hr;simpa only [aS,aq] using hr
 | cons r rs ih =>
  intro H n m a b y vs hp hH hr
  have hpa:=hp
  simp only [List.all_cons,Bool.and_eq_true] at hp
  have UP:∀j,(ak rs (b+1) y.2).get (b+1+j)≠none→h' (b+1+j)≠none→H (a+1+j)≠none∧ψ' (b+1+j)=ψ (a+1+j):=fun j hj bc=>by
   have:=hH (j+1)
   rw [show b+(j+1)=b+1+j by omega,show a+(j+1)=a+1+j by omega] at this
   exact this (RJ _ _ _ _ _ hj) bc
  cases r with
  | val k =>
   simp only [aS,aq] at hr ⊢
   obtain ⟨v,us,rfl,h1,h2⟩:=hr
   exact ⟨v,us,rfl,NP h1,ih hp.2 UP h2⟩
  | own ok =>
   simp only [aS,aq] at hr ⊢
   obtain ⟨v,us,rfl,h1,h2⟩:=hr
   refine ⟨v,us,rfl,?_,ih hp.2 UP h2⟩
   simp only [av] at h1 ⊢
   refine ⟨h1.1,fun bc => ?_⟩
   obtain ⟨h3,h4⟩:=hH 0 (by simp [ak,Heap.get]) bc
   rw [Nat.add_zero,Nat.add_zero] at h4
   rw [h4];exact h1.2 h3
  | ed b c=>simp [RK.plain] at hp
  | agg c =>
   simp only [aS,aq] at hr ⊢
   obtain ⟨v,us,rfl,h1,h2⟩:=hr
   refine ⟨v,us,rfl,?_,ih hp.2 UP h2⟩
   simp only [av] at h1 ⊢
   obtain ⟨ws,rfl,h3⟩:=h1
   refine ⟨ws,rfl,IB c (fun j hj bc=>hH j ?_ bc) h3⟩
   show Heap.get (aW c b y.1++ak rs (b+1) y.2) (b+j)≠none
   rw [Heap.get_append]
   split
   ·simp
   ·rename_i xn;exact absurd xn hj
theorem s6{TB TC:Nat→Value}{XO XP:Hp}{XQ XR:Nat→Prop}{l l':List AV}{V:Value}(hl:l.length=l'.length)(hm:∀vs,aq XQ TB XO w l vs→aq XR TC XP w l' vs)(hr:av XQ TB XO w (eJ l) V):av XR TC XP w (eJ l') V:=by
 match l,l',hl with
 | [a],[a'],_ =>
  simp only [eJ] at hr ⊢
  have:=hm [V] (by simp only [aq];exact ⟨V,[],rfl,hr,rfl⟩)
  simp only [aq] at this
  obtain ⟨v,us,e,h1,_⟩:=this
  cases e;exact h1
 | [],[],_ =>
  simp only [eJ,av] at hr ⊢
  obtain ⟨us,rfl,h1⟩:=hr
  exact ⟨us,rfl,hm _ h1⟩
 | a::b::r,a'::b'::r',_ =>
  simp only [eJ,av] at hr ⊢
  obtain ⟨us,rfl,h1⟩:=hr
  exact ⟨us,rfl,hm _ h1⟩
theorem jS(rs:List RK):∀(ids:List Nat) (n m:Nat) (y:kU rs),(aS rs ids n m y).length=rs.length:=by
 induction rs with
 | nil=>intros;rfl
 | cons r rs ih=>intro ids n m y;cases r<;>simp [aS,ih]
theorem yy:∀(k:K) (x:k.T) (r:List AV),dec k (enc k x++r)=some (x,r)
 | .int _,x,r=>by simp only [enc,List.cons_append,List.nil_append,dec,DT,if_true];rfl
 | .bool,x,r=>by simp only [enc,List.cons_append,List.nil_append,dec,ym];rfl
 | .str,x,r=>by simp only [enc,List.cons_append,List.nil_append,dec,DU];rfl
 | .sl k,x,r=>by simp only [enc,List.cons_append,List.nil_append,dec,J6];rfl
 | .mp kk vk,x,r=>by simp only [enc,List.cons_append,List.nil_append,dec,J7];rfl
 | .pair a b,x,r=>by
  simp only [enc,dec,List.append_assoc]
  rw [yy a x.1 (enc b x.2++r)]
  simp only []
  rw [yy b x.2 r]
  rfl
 | .one k,x,r=>by simp only [enc,dec];exact yy k x r
theorem s8(k:K)(x:k.T):dH k (enc k x)=some x:=by
 unfold dH
 have:=yy k x []
 rw [List.append_nil] at this
 rw [this]
theorem ta:∀(k:K) (x:k.T),(cg k x).cells=enc k x
 | .int _,_=>rfl
 | .bool,_=>rfl
 | .str,_=>rfl
 | .sl _,_=>rfl
 | .mp _ _,_=>rfl
 | .pair a b,x=>rfl
 | .one k,x=>rfl
theorem Kf:∀(k:K) (x:k.T),cg k x≠.no
 | .int _,_=>by simp [cg]
 | .bool,_=>by simp [cg]
 | .str,_=>by simp [cg]
 | .sl _,_=>by simp [cg]
 | .mp _ _,_=>by simp [cg]
 | .pair a b,x=>by simp [cg]
 | .one k,x=>by simp [cg]
theorem zR:∀(k:K) (x:k.T),(cg k x).isAgg=k.isAgg
 | .int _,_=>rfl
 | .bool,_=>rfl
 | .str,_=>rfl
 | .sl _,_=>rfl
 | .mp _ _,_=>rfl
 | .pair a b,x=>rfl
 | .one k,x=>rfl
theorem LG{k:K}{x:k.T}{v:Value}(hr:av Z ψ h w (cg k x) v):aF Z w k x v.cells.toList:=by
 have h1:=hr.cells (Kf k x)
 rw [ta] at h1
 exact dy (s8 k x) h1
theorem IC{k:K}{x:k.T}{v:Value}(hr:av Z ψ h w (cg k x) v):(k.isAgg=true→∃vs,v=.agg vs)∧(k.isAgg=false→v.cells=#[v]) :=
 ⟨fun h=>NH (by rw [zR];exact h) hr,fun h=>CO (by rw [zR];exact h) (Kf k x) hr⟩
theorem NR(rs:List RK):∀{H:Hp} {n m a b:Nat} {y:kU rs} {vs:List Value},rs.all RK.flat=true→rs.all RK.plain=true→aq Z ψ H w (aS rs [] n a y) vs→aq Z' ψ' h' w' (aS rs [] m b y) vs:=by
 induction rs with
 | nil=>intro H n m a b y vs _ _ hr;simpa only [aS,aq] using hr
 | cons r rs ih =>
  intro H n m a b y vs hf hp hr
  simp only [List.all_cons,Bool.and_eq_true] at hp hf
  cases r with
  | val k =>
   simp only [aS,aq] at hr ⊢
   obtain ⟨v,us,rfl,h1,h2⟩:=hr
   have hk:k.flat=true:=hf.1
   obtain ⟨h3,h4⟩:=IC h1
   exact ⟨v,us,rfl,kY ((LG h1).flat hk) h3 h4,ih hf.2 hp.2 h2⟩
  | own ok=>simp [RK.flat] at hf
  | ed b c=>simp [RK.plain] at hp
  | agg c=>simp [RK.flat] at hf
theorem LH(rs:List RK):∀(a:Nat) (y:kU rs),rs.all RK.flat=true→rs.all RK.plain=true→ak rs a y=[]:=by
 induction rs with
 | nil=>intros;rfl
 | cons r rs ih =>
  intro a y hf hp
  simp only [List.all_cons,Bool.and_eq_true] at hp hf
  cases r with
  | val k=>simp only [ak];exact ih _ _ hf.2 hp.2
  | own ok=>simp [RK.flat] at hf
  | ed b c=>simp [RK.plain] at hp
  | agg c=>simp [RK.flat] at hf
theorem ua:∀(ps:List PK) (vs:List AV),cy ps vs=some []→∀v∈vs,∀id,AV.bC id∈v.cells→AV.bC id∈db ps vs
 | [],vs,hi,v,hv,id,bI=>by
  cases vs with
  | nil=>cases hv
  | cons a r=>simp [cy] at hi
 | p::ps,vs,hi,v,hv,id,bI=>by
  obtain ⟨a,r,rfl,sM,RI,UN,UO⟩:=xl hi
  rcases List.mem_cons.1 hv with rfl | hv
  ·cases p with
   | val k=>simp only [db];exact List.mem_append_left _ bI
   | ref=>exact absurd rfl RI.1
   | own=>exact absurd rfl RI.2
   | Fp f n=>rw [UN f n rfl] at bI;simp [AV.cells] at bI
   | agg n=>rw [UO n rfl] at bI;simp [AV.cells] at bI
  ·have:=ua ps r sM v hv id bI
   cases p with
   | val k=>simp only [db];exact List.mem_append_right _ this
   | ref=>exact absurd rfl RI.1
   | own=>exact absurd rfl RI.2
   | Fp f n=>simpa only [db] using this
   | agg n=>simpa only [db] using this
theorem zT(f:FuncId)(vs:List AV):sJ f vs % 1000=f % 1000:=by
 induction vs with
 | nil=>rfl
 | cons v r ih =>
  cases v with
  | fn g cap=>exact Nat.add_mul_mod_self_left f 1000 _
  | _=>simp only [sJ];exact ih
theorem vF{Sg:FuncId→Option aL}(f:FuncId)(vs:List AV):keyOf Sg f vs % 1000=f % 1000:=by
 unfold keyOf
 split
 ·exact (Nat.add_mul_mod_self_right (sJ f vs) 500 1000).trans (zT f vs)
 ·exact zT f vs
theorem Next.imp{N':Nat→Prop}(n:Next Z ψ h w B0 O N Z' ψ' h' w')(hi:∀i,N i→N' i):Next Z ψ h w B0 O N' Z' ψ' h' w' :=
 ⟨n.fw,n.dX,n.keep,fun id bI=>(n.ids id bI).imp (fun h=>h) (hi id),n.dQ⟩
theorem vG{rs:List RK}{y:kU rs}(hp:rs.all RK.plain=true){id nb:Nat}(g:Good Z ψ h w B0 O)(hB:B0≤w.heap.size)
  (bf:∀i ty cs,h i=some (.box ty cs)→aB (fun i=>¬N i) cs) (hN:∀j,j<rs.length+16→N (id+j))
  (k:cV H4 fO w w') (hz:∀b,Z b→Z' b) (zo:∀b,Z' b→Z b∨w.heap.size≤b) (gc:Good Z' ψ' (ak rs 3000 y).get w' w.heap.size (fun _=>False))
  {v:Value} (hr:av Z' ψ' (ak rs 3000 y).get w' (eJ (aS rs [] 2000 3000 y)) v) :
  ∃tc,Next Z ψ h w B0 O N Z' tc (fun i=>match (ak rs id y).get i with | some o=>some o | none=>h i) w' ∧
   av Z' tc (fun i=>match (ak rs id y).get i with | some o=>some o | none=>h i) w' (eJ (aS rs [] nb id y)) v:=by
 classical
 let H:Hp:=fun i=>match (ak rs id y).get i with | some o=>some o | none=>h i
 let NN:Nat→Prop:=fun i=>(ak rs id y).get i≠none
 let tc:Nat→Value:=fun i=>if NN i then ψ' (3000+(i - id)) else ψ i
 have hNN:∀i,NN i→∃j,j<rs.length+16∧i=id+j:=fun i hi=>by
  have h1:¬i<id:=fun aE=>hi (qh rs id y i hp aE)
  have h2:¬id+rs.length+16≤i:=fun TD=>hi (FQ rs id y i hp TD)
  exact ⟨i - id,by omega,by omega⟩
 have xp:∀i,NN i→(ak rs 3000 y).get (3000+(i - id))=(ak rs id y).get i:=fun i hi=>by
  obtain ⟨j,_,rfl⟩:=hNN i hi
  rw [show id+j - id=j by omega]
  exact FR rs 3000 id y j hp
 have hH:∀i,NN i→H i=(ak rs 3000 y).get (3000+(i - id)):=fun i hi=>by
  rw [xp i hi]
  show (match (ak rs id y).get i with | some o=>some o | none=>h i)=_
  cases e:(ak rs id y).get i with
  | none=>exact absurd e hi
  | some o=>rfl
 have iK:∀i,NN i→tc i=ψ' (3000+(i - id)):=fun i hi=>if_pos hi
 have XS:∀i,NN i→N i:=fun i hi=>by obtain ⟨j,hj,rfl⟩:=hNN i hi;exact hN j hj
 have n:=Good.XN (N:=NN) (ψ':=tc) (h':=H) g k hz zo gc.jw
  (fun i hi=>by
   have e:(ak rs id y).get i=none:=Classical.not_not.1 hi
   refine ⟨?_,if_neg hi⟩
   show (match (ak rs id y).get i with | some o=>some o | none=>h i)=h i
   rw [e])
  (fun i ty cs hb=>(bf i ty cs hb).imp (fun i hi hni=>hi (XS i hni)))
  (fun i ty cs hi hb=>by rw [hH i hi] at hb;exact tZ _ _ _ _ _ _ hp hb)
  (fun i ok xs hi hb=>by rw [hH i hi] at hb;rw [iK i hi];exact gc.row _ _ _ hb)
  (fun i b hi h1 h2=>by
   rw [hH i hi] at h1;rw [iK i hi] at h2
   obtain ⟨h3,h4⟩:=gc.live _ b h1 h2
   exact ⟨h4.resolve_right (fun h=>h),h3⟩)
  (fun i i' b hi sM h1 h2 h3 h4=>by
   rw [hH i hi] at h1;rw [hH i' sM] at h2;rw [iK i hi] at h3;rw [iK i' sM] at h4
   have:=gc.apart _ _ b h1 h2 h3 h4
   obtain ⟨j,_,rfl⟩:=hNN i hi
   obtain ⟨j',_,rfl⟩:=hNN i' sM
   omega) hB
 refine ⟨tc,n.imp XS,?_⟩
 refine s6 (by rw [jS,jS]) (fun vs sO => ?_) hr
 refine NQ (h':=H) (ψ':=tc) rs (n:=2000) (a:=3000) hp (fun j hn bc => ?_) sO
 replace hn:NN (id+j):=hn
 have e1:=hH _ hn
 have e2:=iK _ hn
 rw [show id+j - id=j by omega] at e1 e2
 exact ⟨by rw [←e1];exact bc,e2⟩
def iS(P:Program)(f:FuncId):Prop:=∃fn,P.funcs[f]? = some fn∧(fn.name== "runtime.NumGoroutine")=false∧fn.body.isSome=true
theorem iU{f:FuncId}(hc:iS P f)(args:Array Value):(callFunc f args).run P w=.ok (.enter f args) w:=by
 obtain ⟨fn,h1,h2,h3⟩:=hc
 obtain ⟨c,hc⟩:=Option.isSome_iff_exists.1 h3
 simp [callFunc,h1,hc,show ¬fn.name= "runtime.NumGoroutine" by simpa using h2]
def TE(P:Program)(ρC:Operand→Value)(o:Oper)(Z:Nat→Prop)(ψ:Nat→Value)(h:Hp)(w:World)(B0:Nat)(O N:Nat→Prop)(e:bA):Prop :=
 ∃f args,(execOp ρC o).run P w=.ok (.enter f args) w∧Calls P f args w fun en w'=>∃V Z' ψ',en=.returned V∧Next Z ψ h w B0 O N Z' ψ' (e.hp h) w'∧av Z' ψ' (e.hp h) w' e.v V
end Go.Vs
namespace Go.Vs
variable {P:Program} {Z Z':Nat→Prop} {ψ ψ':Nat→Value} {h h':Hp} {w w':World} {B0:Nat} {O:Nat→Prop} {N:Nat→Prop}
def cx:(rs:List RK)→List AV→Nat→kU rs→List xk
 | [],_,_,_=>[]
 | .own ok::r,vs,m,x=>(m,(n6 (vs.headD .no)).head?,.own ok x.1)::cx r vs.tail (m+1) x.2
 | .val _::r,vs,m,x=>cx r vs.tail (m+1) x.2
 | .ed _ _::r,vs,m,x=>cx r vs.tail (m+1) x.2
 | .agg c::r,vs,m,x=>dA c m (vs.headD .no).cells x.1++cx r vs.tail (m+1) x.2
theorem gh:∀(rs:List RK) (vs:List AV) (m:Nat) (x:kU rs),dv (cx rs vs m x)=ak rs m x
 | [],_,_,_=>rfl
 | .own ok::r,vs,m,x=>by simp only [cx,ak];rw [←gh r vs.tail (m+1) x.2];rfl
 | .val _::r,vs,m,x=>gh r vs.tail (m+1) x.2
 | .ed _ _::r,vs,m,x=>gh r vs.tail (m+1) x.2
 | .agg c::r,vs,m,x=>by
  have e1:dv (dA c m (vs.headD .no).cells x.1)=aW c m x.1:=l9 c m _ x.1
  have e2:=gh r vs.tail (m+1) x.2
  simp only [cx,ak]
  rw [ma,e2]
  exact congrArg (·++_) e1
theorem fh:∀(rs:List RK) (vs:List AV) (m:Nat) (x:kU rs),(cx rs vs m x).map (·.1)=bm rs m
 | [],_,_,_=>rfl
 | .own ok::r,vs,m,x=>by simp only [cx,bm,List.map_cons];rw [fh r vs.tail (m+1) x.2]
 | .val _::r,vs,m,x=>fh r vs.tail (m+1) x.2
 | .ed _ _::r,vs,m,x=>fh r vs.tail (m+1) x.2
 | .agg c::r,vs,m,x=>by
  have e1:(dA c m (vs.headD .no).cells x.1).map (·.1)=cc c m:=kC c m _ x.1
  have e2:=fh r vs.tail (m+1) x.2
  simp only [cx,bm,List.map_append]
  rw [e2]
  exact congrArg (·++_) e1
theorem ox{bs:List BK}{k:K}{r:List RK}{hh:Heap}{ids:List Nat}{vs:List AV}{x:kU (.val k::r)}(hd:bD bs (.val k::r) hh ids vs=some x):∃v gK,vs=v::gK∧fD k hh v=some x.1∧bD bs r hh ids gK=some x.2:=by
 cases vs with
 | nil=>cases hd
 | cons v vs =>
  have e:bD bs (.val k::r) hh ids (v::vs)=(match fD k hh v,bD bs r hh ids vs with
   | some x,some y=>some ((x,y):k.T×kU r)
   | _,_=>none):=rfl
  rw [e] at hd
  clear e
  refine ⟨v,vs,rfl,?_⟩
  generalize fD k hh v=o1 at hd ⊢
  generalize bD bs r hh ids vs=o2 at hd ⊢
  cases o1 with
  | none=>cases hd
  | some x1 =>
   cases o2 with
   | none=>cases hd
   | some y1=>have:=Option.some.inj hd;subst this;exact ⟨rfl,rfl⟩
theorem oy{bs:List BK}{ok:OK}{r:List RK}{hh:Heap}{ids:List Nat}{vs:List AV}{x:kU (.own ok::r)}(hd:bD bs (.own ok::r) hh ids vs=some x):∃v gK,vs=v::gK∧dG hh ok v=some x.1∧bD bs r hh ids gK=some x.2:=by
 cases vs with
 | nil=>cases hd
 | cons v vs =>
  have e:bD bs (.own ok::r) hh ids (v::vs)=(match dG hh ok v,bD bs r hh ids vs with
   | some x,some y=>some ((x,y):ok.T×kU r)
   | _,_=>none):=rfl
  rw [e] at hd
  clear e
  refine ⟨v,vs,rfl,?_⟩
  generalize dG hh ok v=o1 at hd ⊢
  generalize bD bs r hh ids vs=o2 at hd ⊢
  cases o1 with
  | none=>cases hd
  | some x1 =>
   cases o2 with
   | none=>cases hd
   | some y1=>have:=Option.some.inj hd;subst this;exact ⟨rfl,rfl⟩
theorem mb{bs:List BK}{b:Nat}{alts:List (Nat×Nat×Nat)}{r:List RK}{hh:Heap}{ids:List Nat}{vs:List AV}{x:kU (.ed b alts::r)}(hd:bD bs (.ed b alts::r) hh ids vs=some x):∃v gK,vs=v::gK∧mD bs hh ids b alts v=some x.1∧bD bs r hh ids gK=some x.2:=by
 cases vs with
 | nil=>cases hd
 | cons v vs =>
  have e:bD bs (.ed b alts::r) hh ids (v::vs)=(match mD bs hh ids b alts v,bD bs r hh ids vs with
   | some x,some y=>some ((x,y):Option (Fin alts.length×Nat)×kU r)
   | _,_=>none):=rfl
  rw [e] at hd
  clear e
  refine ⟨v,vs,rfl,?_⟩
  generalize mD bs hh ids b alts v=o1 at hd ⊢
  generalize bD bs r hh ids vs=o2 at hd ⊢
  cases o1 with
  | none=>cases hd
  | some x1 =>
   cases o2 with
   | none=>cases hd
   | some y1=>have:=Option.some.inj hd;subst this;exact ⟨rfl,rfl⟩
theorem oz{bs:List BK}{c:List CK}{r:List RK}{hh:Heap}{ids:List Nat}{vs:List AV}{x:kU (.agg c::r)}(hd:bD bs (.agg c::r) hh ids vs=some x):∃cs gK,vs=.agg cs::gK∧cH c hh cs=some x.1∧bD bs r hh ids gK=some x.2:=by
 cases vs with
 | nil=>cases hd
 | cons v vs =>
  have e:bD bs (.agg c::r) hh ids (v::vs)=(match zg c hh v,bD bs r hh ids vs with
   | some x,some y=>some ((x,y):pS c×kU r)
   | _,_=>none):=rfl
  rw [e] at hd
  clear e
  have key:zg c hh v=some x.1∧bD bs r hh ids vs=some x.2:=by
   generalize zg c hh v=o1 at hd ⊢
   generalize bD bs r hh ids vs=o2 at hd ⊢
   cases o1 with
   | none=>cases hd
   | some x1 =>
    cases o2 with
    | none=>cases hd
    | some y1=>have:=Option.some.inj hd;subst this;exact ⟨rfl,rfl⟩
  obtain ⟨h1,h2⟩:=key
  unfold zg at h1
  split at h1
  ·exact ⟨_,vs,rfl,h1,h2⟩
  ·cases h1
theorem gL{bs:List BK}{hh:Heap}{ids:List Nat}:∀(rs:List RK) (vs:List AV) (x:kU rs),bD bs rs hh ids vs=some x→vs.length=rs.length
 | [],[],_,_=>rfl
 | [],_::_,_,h=>by cases h
 | .val k::r,vs,x,h=>by obtain ⟨v,gK,rfl,_,h2⟩:=ox h;simp [gL r gK x.2 h2]
 | .own ok::r,vs,x,h=>by obtain ⟨v,gK,rfl,_,h2⟩:=oy h;simp [gL r gK x.2 h2]
 | .ed _ _::r,vs,x,h=>by obtain ⟨v,gK,rfl,_,h2⟩:=mb h;simp [gL r gK x.2 h2]
 | .agg _::r,vs,x,h=>by obtain ⟨v,gK,rfl,_,h2⟩:=oz h;simp [gL r gK x.2 h2]
theorem iv{bs:List BK}{hh:Heap}{ids:List Nat}:∀(rs:List RK) (vs:List AV) (m:Nat) (x:kU rs),bD bs rs hh ids vs=some x→(cx rs vs m x).filterMap (·.2.1)=dC rs vs
 | [],vs,_,_,_=>by cases vs<;>rfl
 | .own ok::r,vs,m,x,h=>by
  obtain ⟨v,gK,rfl,_,h2⟩:=oy h
  simp only [cx,dC,List.headD_cons,List.tail_cons]
  rw [dE,iv r gK (m+1) x.2 h2]
  simp only []
  rw [vD]
 | .val k::r,vs,m,x,h=>by
  obtain ⟨v,gK,rfl,_,h2⟩:=ox h
  simp only [cx,dC,List.tail_cons]
  exact iv r gK (m+1) x.2 h2
 | .ed _ _::r,vs,m,x,h=>by
  obtain ⟨v,gK,rfl,_,h2⟩:=mb h
  simp only [cx,dC,List.tail_cons]
  exact iv r gK (m+1) x.2 h2
 | .agg c::r,vs,m,x,h=>by
  obtain ⟨cs,gK,rfl,h1,h2⟩:=oz h
  simp only [cx,dC,List.headD_cons,List.tail_cons,AV.cells]
  have e1:(dA c m cs x.1).filterMap (·.2.1)=fq c cs:=ou c m hh cs x.1 h1
  rw [List.filterMap_append,iv r gK (m+1) x.2 h2]
  exact congrArg (·++_) e1
theorem jD{hd:Hp}{bs:List BK}{hh:Heap}{ids:List Nat}:∀(rs:List RK) (vs:List AV) (m:Nat) (x:kU rs),bD bs rs hh ids vs=some x→(∀s∈dC rs vs,hd s=hh.get s)→∀e∈cx rs vs m x,tY Z ψ hd w h' ψ' e
 | [],_,_,_,_,_,e,he=>by simp [cx] at he
 | .own ok::r,vs,m,x,h,hk,e,he=>by
  obtain ⟨v,gK,rfl,h1,h2⟩:=oy h
  simp only [cx,dC,List.headD_cons,List.tail_cons] at he hk
  rcases List.mem_cons.1 he with rfl | he
  ·exact Ke h1 fun s hs=>hk s (List.mem_append_left _ hs)
  ·exact jD r gK (m+1) x.2 h2 (fun s hs=>hk s (List.mem_append_right _ hs)) e he
 | .val k::r,vs,m,x,h,hk,e,he=>by
  obtain ⟨v,gK,rfl,h1,h2⟩:=ox h
  exact jD r gK (m+1) x.2 h2 hk e he
 | .ed _ _::r,vs,m,x,h,hk,e,he=>by
  obtain ⟨v,gK,rfl,h1,h2⟩:=mb h
  exact jD r gK (m+1) x.2 h2 hk e he
 | .agg c::r,vs,m,x,h,hk,e,he=>by
  obtain ⟨cs,gK,rfl,h1,h2⟩:=oz h
  simp only [cx,dC,List.headD_cons,List.tail_cons,AV.cells] at he hk
  rcases List.mem_append.1 he with he | he
  ·exact q6 c m cs x.1 h1 (fun s hs=>hk s (List.mem_append_left _ hs)) e he
  ·exact jD r gK (m+1) x.2 h2 (fun s hs=>hk s (List.mem_append_right _ hs)) e he
theorem vH{hh:Heap}{id:Nat}:∀(de:List CK) (c n:Nat) (cs:List AV) (x:pS de),cH de hh cs=some x→fE de c=true→cs[lX de c]? = some (.bC id)→hh.get id≠none∧∃o,(n+c,some id,o)∈dA de n cs x
 | [],c,n,cs,x,_,h,_=>by simp [fE] at h
 | .val k::r,0,n,cs,x,_,h,_=>by simp [fE] at h
 | .val k::r,c+1,n,cs,x,hd,h,hc=>by
  obtain ⟨_,h2⟩:=ot hd
  obtain ⟨h3,o,h4⟩:=vH r c (n+1) (cs.drop k.sz) x.2 h2 (by simpa [fE] using h) (by rw [List.getElem?_drop];simpa [lX] using hc)
  exact ⟨h3,o,by rw [show n+(c+1)=n+1+c by omega];exact h4⟩
 | .own ok::r,0,n,cs,x,hd,h,hc=>by
  obtain ⟨c0,cs',rfl,h1,h2⟩:=k0 hd
  simp only [lX,List.getElem?_cons_zero,Option.some.injEq] at hc
  subst hc
  rcases k9 h1 with ⟨h3,_⟩ | ⟨lR,h3,h4⟩
  ·cases h3
  ·cases h3
   exact ⟨by rw [h4];simp,_,by simp only [dA,List.headD_cons,n6,List.head?_cons];exact List.mem_cons_self⟩
 | .own ok::r,c+1,n,cs,x,hd,h,hc=>by
  obtain ⟨c0,cs',rfl,h1,h2⟩:=k0 hd
  obtain ⟨h3,o,h4⟩:=vH r c (n+1) cs' x.2 h2 (by simpa [fE] using h) (by simp only [lX] at hc;rw [Nat.add_comm] at hc;simpa using hc)
  exact ⟨h3,o,by rw [show n+(c+1)=n+1+c by omega];simp only [dA,List.tail_cons];exact List.mem_cons_of_mem _ h4⟩
theorem zU{hh:Heap}{id c:Nat}:∀(bs:List BK) (b n:Nat) (is is':List Nat) (x:vj bs) (bk:BK) (bi:Nat) (ty:TypeId) (cs:List AV),cT bs hh is=some x→is'.length=bs.length→bs[b]? = some bk→is[b]? = some bi→hh.get bi=some (.box ty cs) →
  fE bk.de c=true→cs[lX bk.de c]? = some (.bC id)→hh.get id≠none∧∃o,(n+16 * b+c,some id,o)∈cr bs hh is is' n x
 | [],b,n,is,is',x,bk,bi,ty,cs,_,_,h,_,_,_,_=>by simp at h
 | b0::r,b,n,[],is',x,bk,bi,ty,cs,hd,_,_,_,_,_,_=>by cases hd
 | b0::r,b,n,i::is,[],x,bk,bi,ty,cs,_,hl,_,_,_,_,_=>by simp at hl
 | b0::r,0,n,i::is,i'::is',x,bk,bi,ty,cs,hd,hl,h1,h2,h3,h4,h5=>by
  obtain ⟨g0,g3⟩:=eQ hd
  simp only [List.getElem?_cons_zero,Option.some.injEq] at h1 h2
  subst h1;subst h2
  cases b0 with
  | own ok=>simp [BK.de,fE] at h4
  | box ty0 c0 =>
   obtain ⟨cs',g1,g2⟩:=qZ g0
   rw [g1] at h3
   cases h3
   obtain ⟨h6,o,h7⟩:=vH c0 c n cs x.1 g2 h4 h5
   refine ⟨h6,o,?_⟩
   simp only [cr,dD]
   rw [ov g1]
   exact List.mem_append_left _ (List.mem_cons_of_mem _ (by simpa using h7))
 | b0::r,b+1,n,i::is,i'::is',x,bk,bi,ty,cs,hd,hl,h1,h2,h3,h4,h5=>by
  obtain ⟨_,g3⟩:=eQ hd
  obtain ⟨h6,o,h7⟩:=zU r b (n+16) is is' x.2 bk bi ty cs g3 (by simpa using hl) (by simpa using h1) (by simpa using h2) h3 h4 h5
  refine ⟨h6,o,?_⟩
  rw [show n+16 * (b+1)+c=n+16+16 * b+c by omega]
  simp only [cr]
  exact List.mem_append_right _ h7
theorem zX{c:List CK}{cs:List AV}{id s off:Nat}{a:Nat×Nat×Nat}(h:w7 c cs id s off a=true):cs[lX c a.1]? = some (.bC id)∧s=a.2.1∧off=a.2.2∧fE c a.1=true:=by
 simp only [w7,Bool.and_eq_true,decide_eq_true_eq] at h
 obtain ⟨h1,h2,h3,h4⟩:=h
 refine ⟨?_,h2,h3,h4⟩
 unfold Np at h1
 split at h1
 ·rename_i e;rw [e];simp only [beq_iff_eq] at h1;rw [h1]
 ·cases h1
theorem LI{bs:List BK}{hh:Heap}{ids:List Nat}{b:Nat}{alts:List (Nat×Nat×Nat)}{v:AV}{x:Option (Fin alts.length×Nat)}(hd:mD bs hh ids b alts v=some x):(v=.kT∧x=none) ∨
  ∃id i a bi bk ty cs,v=.ref id (alts.get a).2.1 i (alts.get a).2.2∧x=some (a,i)∧ids[b]? = some bi∧bs[b]? = some bk∧hh.get bi=some (.box ty cs)∧cs[lX bk.de (alts.get a).1]? = some (.bC id)∧fE bk.de (alts.get a).1=true:=by
 unfold mD at hd
 split at hd
 ·cases hd;exact .inl ⟨rfl,rfl⟩
 ·rename_i id s i off
  split at hd
  ·rename_i bi bk h1 h2
   split at hd
   ·rename_i ty cs h3
    split at hd
    ·rename_i a h4
     cases hd
     have h4':w7 bk.de cs id s off (alts.get a)=true:=by simpa using List.find?_some (p:=fun a=>w7 bk.de cs id s off (alts.get a)) h4
     obtain ⟨h5,rfl,rfl,h6⟩:=zX h4'
     exact .inr ⟨id,i,a,bi,bk,ty,cs,rfl,rfl,h1,h2,h3,h5,h6⟩
    ·cases hd
   ·cases hd
  ·cases hd
 ·cases hd
theorem q8{bs:List BK}{hh:Heap}{ids is' ids2:List Nat}{nb:Nat}{yb:vj bs}(g:Good Z ψ hh.get w B0 O)(hz:∀b,Z b→Z' b)(hb:cT bs hh ids=some yb)(hl:is'.length=bs.length)
  (NS:∀e∈cr bs hh ids is' nb yb,h' e.1≠none→ψ' e.1=jB ψ e.2.1):∀(rs:List RK) (vs:List AV) (m:Nat) (x:kU rs) (us:List Value),bD bs rs hh ids vs=some x →
  (∀id b,AV.bC id∈fK rs vs→hh.get id≠none→ob (ψ id)=some b→Z' b)→(∀e∈cx rs vs m x,h' e.1≠none→ψ' e.1=jB ψ e.2.1)→aq Z ψ hh.get w vs us→aq Z' ψ' h' w (aS rs ids2 nb m x) us
 | [],vs,m,x,us,hd,_,_,hr=>by
  have:=gL [] vs x hd
  have hv:vs=[]:=List.eq_nil_of_length_eq_zero this
  subst hv
  simpa only [aS,aq] using hr
 | .val k::r,vs,m,x,us,hd,hf,iK,hr=>by
  obtain ⟨v,gK,rfl,h1,h2⟩:=ox hd
  simp only [aq] at hr
  obtain ⟨u,iH,rfl,h3,h4⟩:=hr
  simp only [aS,aq]
  simp only [fK] at hf
  exact ⟨u,iH,rfl,qV g hz (fun id b bI=>hf id b (List.mem_append_left _ bI)) h1 h3,q8 g hz hb hl NS r gK (m+1) x.2 iH h2 (fun id b bI=>hf id b (List.mem_append_right _ bI)) iK h4⟩
 | .own ok::r,vs,m,x,us,hd,hf,iK,hr=>by
  obtain ⟨v,gK,rfl,h1,h2⟩:=oy hd
  simp only [aq] at hr
  obtain ⟨u,iH,rfl,h3,h4⟩:=hr
  simp only [aS,aq]
  simp only [cx,List.headD_cons,List.tail_cons] at iK
  exact ⟨u,iH,rfl,D9 h1 h3 (fun hn=>iK _ List.mem_cons_self hn),q8 g hz hb hl NS r gK (m+1) x.2 iH h2 hf (fun e he=>iK e (List.mem_cons_of_mem _ he)) h4⟩
 | .ed b alts::r,vs,m,x,us,hd,hf,iK,hr=>by
  obtain ⟨v,gK,rfl,h1,h2⟩:=mb hd
  simp only [aq] at hr
  obtain ⟨u,iH,rfl,h3,h4⟩:=hr
  simp only [aS,aq]
  refine ⟨u,iH,rfl,?_,q8 g hz hb hl NS r gK (m+1) x.2 iH h2 hf iK h4⟩
  rcases LI h1 with ⟨rfl,h5⟩ | ⟨id,i,al,bi,bk,ty,cs,rfl,h5,h6,h7,h8,h9,mI⟩
  ·have:x.1=none:=h5
   rw [this]
   simpa only [tF,av] using h3
  ·have:x.1=some (al,i):=h5
   rw [this]
   obtain ⟨ya,o,HZ⟩:=zU bs b nb ids is' yb bk bi ty cs hb hl h7 h6 h8 mI h9
   simp only [tF,av] at h3 ⊢
   obtain ⟨ad,Ra,TF⟩:=h3
   refine ⟨ad,Ra,fun hn => ?_⟩
   rw [NS _ HZ hn,TF ya];rfl
 | .agg c::r,vs,m,x,us,hd,hf,iK,hr=>by
  obtain ⟨cs,gK,rfl,h1,h2⟩:=oz hd
  simp only [aq] at hr
  obtain ⟨u,iH,rfl,h3,h4⟩:=hr
  simp only [aS,aq]
  simp only [fK,AV.cells] at hf
  simp only [cx,List.headD_cons,List.tail_cons,AV.cells] at iK
  refine ⟨u,iH,rfl,?_,q8 g hz hb hl NS r gK (m+1) x.2 iH h2 (fun id b bI=>hf id b (List.mem_append_right _ bI)) (fun e he=>iK e (List.mem_append_right _ he)) h4⟩
  simp only [av] at h3 ⊢
  obtain ⟨ws,rfl,h5⟩:=h3
  exact ⟨ws,rfl,qY g hz c m cs x.1 _ h1 (fun id b bI=>hf id b (List.mem_append_left _ bI)) (fun e he=>iK e (List.mem_append_left _ he)) h5⟩
end Go.Vs
