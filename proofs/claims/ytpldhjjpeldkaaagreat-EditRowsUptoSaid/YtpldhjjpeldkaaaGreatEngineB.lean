/- The value semantics is sound, operation by operation. -/
import Derived.Test.YtpldhjjpeldkaaaGreatEngineA
import Derived.Laws.StructEq
import Derived.Laws.Slices
import Derived.Laws.Strings
import Derived.MapKept
namespace Go.Vs
variable {P:Program} {Z Z':Nat→Prop} {ψ ψ':Nat→Value} {h h':Hp} {w w':World} {B0:Nat} {O:Nat→Prop} {N:Nat→Prop}
def bE.hp(h:Hp):bE→Hp
 | .val _=>h
 | .new _ os=>fun i=>match Heap.get os i with
  | some o=>some o
  | none=>h i
 | .wr _ h'=>h'.get
theorem gX(id:Nat)(o:Ob)(h:Hp):(fun i=>match Heap.get [(id,o)] i with | some o=>some o | none=>h i)=dG h id (some o):=by
 funext i
 simp only [Heap.get,dG]
 by_cases e:i=id
 ·subst e;simp
 ·rw [if_neg (fun x=>e x.symm),if_neg e]
theorem lO(hh:Heap)(id:Nat)(o:Ob):(hh.set id o).get=dG hh.get id (some o):=by
 funext i
 by_cases e:i=id
 ·subst e;rw [Heap.Dg,ba]
 ·rw [Heap.HD e,cI _ _ e]
theorem tw(hh:Heap)(id:Nat):(hh.del id).get=dG hh.get id none:=by
 funext i
 by_cases e:i=id
 ·subst e;rw [Heap.fR,ba]
 ·rw [Heap.gV e,cI _ _ e]
theorem yH(hh:Heap)(id:Nat)(o:Ob):Heap.get ((id,o)::hh)=dG hh.get id (some o):=by
 funext i
 simp only [Heap.get,dG]
 by_cases e:i=id
 ·subst e;simp
 ·rw [if_neg (fun x=>e x.symm),if_neg e]
def gq(P:Program)(ρC:Operand→Value)(o:Oper)(Z:Nat→Prop)(ψ:Nat→Value)(h:Hp)(w:World)(B0:Nat)(O N:Nat→Prop)(e:bE):Prop :=
 ∃V w' Z' ψ',((execOp ρC o).run P w=.ok (.value V) w'∨((execOp ρC o).run P w=.ok .skip w'∧V=undef))∧Next Z ψ h w B0 O N Z' ψ' (e.hp h) w'∧av Z' ψ' (e.hp h) w' e.v V
theorem gq.val{ρC:Operand→Value}{o:Oper}{x:AV}(g:Good Z ψ h w B0 O){V:Value}(hr:(execOp ρC o).run P w=.ok (.value V) w)(hx:av Z ψ h w x V):gq P ρC o Z ψ h w B0 O N (.val x) :=
 ⟨V,w,Z,ψ,.inl hr,Next.refl g,hx⟩
theorem MG{ty:TypeId}{k:K}{xs:List k.T}{id n:Nat}{x:k.T}(g:Good Z ψ h w B0 O)(hg:h id=some (.own (.row ty k) xs))(hx:xs[n]? = some x) :
  ∃gg us,Qy (ψ id)=gg∧aE Z w k x us∧∀(j:Nat) u,us[j]? = some u→w.cell? ⟨gg,n * k.sz+j,none⟩=some u:=by
 obtain ⟨vs,ho,hv⟩:=g.row id (.row ty k) xs hg
 have hn:n<xs.length:=(List.getElem?_eq_some_iff.1 hx).1
 obtain ⟨hl,e⟩:=ho
 rcases e with ⟨h0,_⟩ | ⟨gg,cap,cur,e1,_,e3,_,_,_,e7⟩
 ·omega
 ·refine ⟨gg,_,by rw [e1];rfl,hv n x hx,fun j u hu => ?_⟩
  rw [List.getElem?_take] at hu
  split at hu
  ·rw [List.getElem?_drop,←e7,List.getElem?_take] at hu
   split at hu
   ·simp only [World.cell?,e3];simpa using hu
   ·cases hu
  ·cases hu
theorem su{hh:Heap}(g:Good Z ψ h w B0 O)(br:∀id o,hh.get id=some o→h id=some o){t:TypeId}{a:AV}{v:Value}{e:bE}(hv:av Z ψ h w a v)(he:kU P hh t a some=some e) :
  ∃x V,e=.val x∧(Instr.loadAt t v).run P w=.ok V w∧av Z ψ h w x V:=by
 unfold kU at he
 split at he
 ·rename_i id s i off
  simp only [av] at hv
  obtain ⟨a,rfl,ha⟩:=hv
  split at he
  ·rename_i ty cs hg
   have uI:=br _ _ hg
   have EI:=ha (by rw [uI];simp)
   obtain ⟨gg,vs,e1,e2,e3,e4⟩:=g.box id ty cs uI
   split at he
   ·rename_i hi
    subst hi
    split at he
    ·rename_i x hx
     cases he
     rw [e1] at EI
     simp only [Qy,Nat.zero_mul,Nat.zero_add] at EI
     subst EI
     obtain ⟨V,h1,h2⟩:=jl (a:=⟨gg,off,none⟩) (e3.drop off) (fun j u hu=>by
      rw [cd];simp only [World.cell?,e2];rw [List.getElem?_drop] at hu;simpa using hu) hx
     exact ⟨x,V,rfl,h1,h2⟩
    ·cases he
   ·cases he
  ·rename_i ty kk xs hg
   have uI:=br _ _ hg
   have EI:=ha (by rw [uI];simp)
   split at he
   ·rename_i hs
    subst hs
    obtain ⟨x,hx,he⟩:=Option.bind_eq_some_iff.1 he
    split at he
    ·rename_i y hy
     cases he
     obtain ⟨gg,us,h1,h2,h3⟩:=MG g uI hx
     rw [h1] at EI;subst EI
     obtain ⟨V,h4,h5⟩:=jl (a:=⟨gg,i * kk.sz+off,none⟩) ((gM (ψ:=ψ) (h:=h) h2).drop off) (fun j u hu=>by
      rw [cd,Nat.add_assoc];exact h3 _ _ (by rw [List.getElem?_drop] at hu;exact hu)) hy
     exact ⟨y,V,rfl,h4,h5⟩
    ·cases he
   ·cases he
  ·cases he
 ·rename_i kk x off
  split at he
  ·rename_i y hy
   cases he
   simp only [av] at hv
   obtain ⟨a,us,rfl,_,h2,h3⟩:=hv
   obtain ⟨V,h4,h5⟩:=jl ((gM (ψ:=ψ) (h:=h) h2).drop off) (fun j u hu=>h3 j u (by rw [List.getElem?_drop] at hu;exact hu)) hy
   exact ⟨y,V,rfl,h4,h5⟩
  ·cases he
 ·cases he
theorem mv{t e:TypeId}(he:v5 P t=some e):P.underlying t=some (.slice e):=by
 unfold v5 at he
 split at he
 ·cases he;assumption
 ·cases he
theorem mw{t e:TypeId}(ht:P.underlying t=some (.slice e)){i:TypeInfo}(hi:P.info? e=some i)(a:Addr)(n c:Nat)(k:IntKind)(j:Int)(h0:0≤j)(h1:j<n) :
  (Instr.indexAt t (.slice (some a) n c) (.int k j)).run P w=.ok (.pointer (some (a.add (j.toNat * P.cellsOf e)))) w:=by
 simp [Instr.indexAt,asIntOf,run_underlying ht,h0,h1,dg hi]
theorem Kx{α:Type}{xs:List α}{i:Int}{x:α}(hx:aV xs i=some x):0≤i∧i<xs.length∧xs[i.toNat]? = some x:=by
 unfold aV at hx
 split at hx
 ·rename_i h0
  have:=(List.getElem?_eq_some_iff.1 hx).1
  exact ⟨h0,by omega,hx⟩
 ·cases hx
theorem oL{hh:Heap}(g:Good Z ψ h w B0 O)(br:∀id o,hh.get id=some o→h id=some o){t:TypeId}{x i:AV}{v u:Value}{e:bE}(hv:av Z ψ h w x v)(hu:av Z ψ h w i u)(he:de P hh t x i some=some e) :
  ∃y V,e=.val y∧(Instr.indexAt t v u).run P w=.ok V w∧av Z ψ h w y V:=by
 unfold de at he
 split at he
 ·cases he
 ·rename_i et het
  have ht:=mv het
  ·skip
   split at he
   ·rename_i ex Jk xs ik n
    simp only [av] at hv hu
    subst hu
    split at he
    ·rename_i hs
     obtain ⟨y,hy,he⟩:=Option.bind_eq_some_iff.1 he
     cases he
     obtain ⟨h0,h1,h2⟩:=Kx hy
     obtain ⟨hk,_⟩:=hv
     simp only [aE] at hk
     obtain ⟨v',yI,A,c,rfl,_,_,Hk⟩:=hk
     cases yI
     obtain ⟨a,us,rfl,hz,hr,hc⟩:=Hk _ _ h2
     have hi:∃i,P.info? et=some i:=by
      cases hi:P.info? et with
      | some i=>exact ⟨i,rfl⟩
      | none=>exfalso;have:=Jk.gT;simp [Program.cellsOf,hi] at hs;omega
     obtain ⟨inf,hi⟩:=hi
     refine ⟨_,_,rfl,mw ht hi a xs.length c ik n h0 h1,?_⟩
     simp only [av]
     refine ⟨_,us,rfl,by rw [cm];exact hz,hr,fun j u hu => ?_⟩
     rw [tl,hs];exact hc j u (by simpa using hu)
    ·cases he
   ·rename_i id ik n
    split at he
    ·rename_i ty Jk xs hg
     have uI:=br _ _ hg
     split at he
     ·rename_i hs
      cases yG:(decide (0≤n)&&decide (n<(xs.length:Int))) with
      | false=>rw [yG] at he;cases he
      | true =>
       rw [yG] at he
       cases he
       simp only [Bool.and_eq_true,decide_eq_true_eq] at yG
       simp only [av] at hv hu
       subst hu
       have hvv:=hv.2 (by rw [uI];simp)
       obtain ⟨vs,⟨_,e⟩,_⟩:=g.row id (.row ty Jk) xs uI
       rcases e with ⟨h0,_⟩ | ⟨gg,cap,cur,e1,_,e3,_⟩
       ·omega
       ·have hi:∃i,P.info? et=some i:=by
         cases hi:P.info? et with
         | some i=>exact ⟨i,rfl⟩
         | none=>exfalso;have:=Jk.gT;simp [Program.cellsOf,hi] at hs;omega
        obtain ⟨inf,hi⟩:=hi
        rw [hvv,e1]
        refine ⟨_,_,rfl,mw ht hi _ xs.length cap ik n yG.1 yG.2,?_⟩
        simp only [av]
        refine ⟨_,rfl,fun _ => ?_⟩
        rw [e1,hs,cd];simp [Qy]
     ·cases he
    ·cases he
   ·cases he
theorem rC{t:TypeId}(h:P.cellsOf t≠0):∃i,P.info? t=some i:=by
 cases hi:P.info? t with
 | some i=>exact ⟨i,rfl⟩
 | none=>exact absurd (by simp [Program.cellsOf,hi]) h
theorem rD{t:TypeId}{f n:Nat}{ft:TypeId}(hf:gj P t f=some (n,ft))(hc:P.cellsOf ft≠0)(a:Addr) :
  (Instr.fieldAt t (.pointer (some a)) f).run P w=.ok (.pointer (some (a.add n))) w:=by
 unfold gj at hf
 split at hf
 ·rename_i fs ht
  obtain ⟨fd,hfd,he⟩:=Option.map_eq_some_iff.1 hf
  cases he
  obtain ⟨i,hi⟩:=rC hc
  have hs:=dg (P:=P) (w:=w) hi
  simp only [Instr.fieldAt,Sem.run_bind,run_underlying ht,Result.andThen_ok,hfd,Instr.sureAddr,Sem.run_pure,fieldPlace,hs]
  rw [if_neg hc]
  rfl
 ·cases hf
theorem rE{t:TypeId}{f n:Nat}{ft:TypeId}(hf:gj P t f=some (n,ft))(hc:P.cellsOf ft≠0){id s i off:Nat}{v:Value}(hv:av Z ψ h w (.ref id s i off) v) :
  ∃V,(Instr.fieldAt t v f).run P w=.ok V w∧av Z ψ h w (.ref id s i (off+n)) V:=by
 simp only [av] at hv ⊢
 obtain ⟨a,rfl,ha⟩:=hv
 refine ⟨_,rD hf hc a,_,rfl,fun bO => ?_⟩
 rw [ha bO,cd,Nat.add_assoc]
theorem tx{t:TypeId}{f n:Nat}{ft:TypeId}(hf:gj P t f=some (n,ft))(hc:P.cellsOf ft≠0){k:K}{x:k.T}{off:Nat}{v:Value}(hv:av Z ψ h w (.fp k x off) v) :
  ∃V,(Instr.fieldAt t v f).run P w=.ok V w∧av Z ψ h w (.fp k x (off+n)) V:=by
 simp only [av] at hv ⊢
 obtain ⟨a,us,rfl,hz,hr,B5⟩:=hv
 refine ⟨_,rD hf hc a,_,us,rfl,by rw [cm];exact hz,hr,fun j u hu => ?_⟩
 rw [tl]
 exact B5 (n+j) u (by rw [←Nat.add_assoc];exact hu)
theorem ES{t ft:TypeId}{f n:Nat}(hf:gj P t f=some (n,ft)){cs:List AV}{x:AV}{v:Value}(hv:av Z ψ h w (.agg cs) v)(hx:dJ P ft (cs.drop n)=some x) :
  ∃V,(Instr.field t v f).run P w=.ok V w∧av Z ψ h w x V:=by
 simp only [av] at hv
 obtain ⟨vs,rfl,hl⟩:=hv
 have hd:=hl.drop n
 have hlen:=hd.length
 unfold gj at hf
 split at hf
 ·rename_i fs ht
  obtain ⟨fd,hfd,he⟩:=Option.map_eq_some_iff.1 hf
  cases he
  unfold dJ at hx
  split at hx
  ·rename_i hb
   split at hx
   ·rename_i hle
    cases hx
    obtain ⟨i,hi⟩:=wg hb
    refine ⟨.agg (vs.extract fd.offset (fd.offset+P.cellsOf fd.type)),?_,?_⟩
    ·simp [Instr.field,run_underlying ht,hfd,asAgg,part,fE hb,dg hi]
    ·simp only [av]
     refine ⟨_,rfl,?_⟩
     rw [Array.toList_extract,List.extract_eq_take_drop,Nat.add_sub_cancel_left]
     exact hd.take _
   ·cases hx
  ·rename_i hb
   split at hx
   ·rename_i c r hcr
    cases hx
    rw [hcr] at hd
    simp only [an] at hd
    obtain ⟨u,us,hu,h1,_⟩:=hd
    refine ⟨u,?_,h1⟩
    have hg:vs[fd.offset]? = some u:=by
     have:(vs.toList.drop fd.offset)[0]? = some u:=by rw [hu];rfl
     rw [List.getElem?_drop] at this;simpa using this
    simp [Instr.field,run_underlying ht,hfd,asAgg,part,fE hb,hg]
   ·cases hx
  ·cases hx
 ·cases hf
theorem Ky{hh:Heap}(g:Good Z ψ h w B0 O)(br:∀id o,hh.get id=some o→h id=some o){x:AV}{v:Value}{e:bE}(hv:av Z ψ h w x v)(he:BZ hh x some=some e) :
  ∃n:Nat,e=.val (.int .i64 (n:Int))∧((∃s,x=.str s∧v=.string s∧n=s.size)∨∃A c,v=.slice A n c):=by
 unfold BZ at he
 split at he
 ·rename_i s hs
  cases he
  have hx:x=.str s:=by
   cases x with
   | bF id=>simp only [cz] at hs;split at hs<;>cases hs
   | str s'=>simp only [cz] at hs;exact hs
   | _=>simp only [cz] at hs<;>cases hs
  subst hx
  simp only [av] at hv
  exact ⟨_,rfl,.inl ⟨s,rfl,hv,rfl⟩⟩
 ·rename_i ex k xs hs
  cases he
  have MH:=B4 (Z':=fun b=>Z b∨Own ψ h b) (g.sub br) (fun b hb=>.inl hb) (fun id b _ bj hb=>.inr (by
   obtain ⟨o,ho⟩:=Option.ne_none_iff_exists'.1 bj
   exact ⟨id,by rw [br id o ho];simp,hb⟩)) (hv.oT br)
  rw [hs] at MH
  simp only [av,aE] at MH
  obtain ⟨⟨v',yI,A,c,rfl,_⟩,_⟩:=MH
  cases yI
  exact ⟨_,rfl,.inr ⟨A,c,rfl⟩⟩
 ·rename_i hs
  cases he
  have hx:x=.fz:=by
   cases x with
   | bF id=>simp only [cz] at hs;split at hs<;>cases hs
   | fz=>rfl
   | _=>simp only [cz] at hs<;>cases hs
  subst hx
  simp only [av] at hv
  exact ⟨0,rfl,.inr ⟨_,_,hv⟩⟩
 ·cases he
def dH(Z:Nat→Prop)(ψ:Nat→Value)(h:Hp)(w:World):Option AV→Option Value→Prop
 | none,none=>True
 | some a,some v=>av Z ψ h w a v
 | _,_=>False
theorem b8(k:IntKind)(i:Int)(y:Nat)(code:BoundsCode)(h0:0≤i)(h1:i≤y):(Instr.sliceBound (.int k i) y code).run P w=.ok i.toNat w:=by
 simp [Instr.sliceBound,asIntOf,h0,h1]
theorem sw{b:Bool}{n c:Nat}(hc:n≤c){lo hi mx:Option AV}{HL sj mx':Option Value}{l u:Int}(h1:dH Z ψ h w lo HL)(h2:dH Z ψ h w hi sj)(h3:dH Z ψ h w mx mx')
  (hb:kT n lo hi=some (l,u)) (ho:aW n l u=true) (hm:mx=none∨(mx=some (.int .i64 u)∧hi≠none)) :
  (Instr.sliceBounds b n c HL sj mx').run P w=.ok (l.toNat,u.toNat,if mx=none then c else u.toNat) w:=by
 simp only [aW,Bool.and_eq_true,decide_eq_true_eq] at ho
 obtain ⟨h4,h5,h6⟩:=ho
 have huc:u≤(c:Int):=by omega
 unfold kT at hb
 rcases hm with rfl | ⟨rfl,bj⟩
 ·cases mx' with
  | some _=>exact h3.elim
  | none =>
   split at hb
   all_goals first | (cases hb;done) | skip
   ·cases hb
    cases HL with
    | some _=>exact h1.elim
    | none =>
     cases sj with
     | some _=>exact h2.elim
     | none=>simp [Instr.sliceBounds]
   ·cases hb
    cases HL with
    | none=>exact h1.elim
    | some v =>
     simp only [dH,av] at h1
     subst h1
     cases sj with
     | some _=>exact h2.elim
     | none=>simp [Instr.sliceBounds,b8 .i64 l n _ h4 h5]
   ·cases hb
    cases HL with
    | some _=>exact h1.elim
    | none =>
     cases sj with
     | none=>exact h2.elim
     | some v =>
      simp only [dH,av] at h2
      subst h2
      cases b<;>simp [Instr.sliceBounds,b8 .i64 u c _ (by omega) huc]
   ·cases hb
    cases HL with
    | none=>exact h1.elim
    | some v =>
     simp only [dH,av] at h1
     subst h1
     cases sj with
     | none=>exact h2.elim
     | some v =>
      simp only [dH,av] at h2
      subst h2
      have hx:l≤((u.toNat:Nat):Int):=by omega
      cases b<;>simp [Instr.sliceBounds,b8 .i64 u c _ (by omega) huc,b8 .i64 l u.toNat _ h4 hx]
 ·cases mx' with
  | none=>exact h3.elim
  | some m =>
   simp only [dH,av] at h3
   subst h3
   have huu:u≤((u.toNat:Nat):Int):=by omega
   have hx:l≤((u.toNat:Nat):Int):=by omega
   split at hb
   all_goals first | (cases hb;done) | skip
   ·exact absurd rfl bj
   ·exact absurd rfl bj
   ·cases hb
    cases HL with
    | some _=>exact h1.elim
    | none =>
     cases sj with
     | none=>exact h2.elim
     | some v =>
      simp only [dH,av] at h2
      subst h2
      cases b<;>simp [Instr.sliceBounds,b8 .i64 u c _ (by omega) huc,b8 .i64 u u.toNat _ (by omega) huu]
   ·cases hb
    cases HL with
    | none=>exact h1.elim
    | some v =>
     simp only [dH,av] at h1
     subst h1
     cases sj with
     | none=>exact h2.elim
     | some v =>
      simp only [dH,av] at h2
      subst h2
      cases b<;>simp [Instr.sliceBounds,b8 .i64 u c _ (by omega) huc,b8 .i64 u u.toNat _ (by omega) huu,b8 .i64 l u.toNat _ h4 hx]
theorem nO{t e:TypeId}(ht:P.underlying t=some (.slice e)){kk:K}(ia:P.cellsOf e=kk.sz){xs:List kk.T}{v:Value}(hr:aE Z w (.sl kk) xs [v]){lo hi mx:Option AV}{HL sj mx':Option Value}{l u:Int}
  (h1:dH Z' ψ h w lo HL) (h2:dH Z' ψ h w hi sj) (h3:dH Z' ψ h w mx mx') (hb:kT xs.length lo hi=some (l,u)) (ho:aW xs.length l u=true) (hm:mx=none∨(mx=some (.int .i64 u)∧hi≠none)) :
  ∃V,(Instr.sliceAt t v HL sj mx').run P w=.ok V w∧aE Z w (.sl kk) (cut xs l u) [V]∧(mx≠none→∃A c,V=.slice A c c):=by
 simp only [aE] at hr
 obtain ⟨v',yI,A,c,rfl,hl,hn,Hk⟩:=hr
 cases yI
 have c9:=sw (P:=P) (w:=w) (b:=true) hl h1 h2 h3 hb ho hm
 simp only [aW,Bool.and_eq_true,decide_eq_true_eq] at ho
 obtain ⟨h4,h5,h6⟩:=ho
 obtain ⟨i,hi⟩:=rC (P:=P) (t:=e) (by have:=kk.gT;omega)
 generalize Mi:(if mx=none then c else u.toNat)=m at c9
 have hmu:u.toNat≤m:=by
  rcases hm with rfl | ⟨rfl,_⟩
  ·simp at Mi;omega
  ·simp at Mi;omega
 have hmc:m≤c:=by
  rcases hm with rfl | ⟨rfl,_⟩
  ·simp at Mi;omega
  ·simp at Mi;omega
 have ta:(cut xs l u).length=u.toNat - l.toNat:=by
  unfold cut;rw [List.length_drop,List.length_take];omega
 refine ⟨.slice (if m=l.toNat then A else A.map (·.add (l.toNat * P.cellsOf e))) (u.toNat - l.toNat) (m - l.toNat),?_,?_,?_⟩
 ·simp [Instr.sliceAt,Instr.slice,run_underlying ht,c9,dg hi]
 ·simp only [aE]
  refine ⟨_,rfl,_,_,by rw [ta],by rw [ta];omega,fun hA => ?_,fun j x hx => ?_⟩
  ·split at hA
   ·have:=hn hA;omega
   ·cases A with
    | none=>have:=hn rfl;omega
    | some a=>cases hA
  ·have hj:j<u.toNat - l.toNat:=by rw [←ta];exact (List.getElem?_eq_some_iff.1 hx).1
   have Wh:xs[l.toNat+j]? = some x:=by
    unfold cut at hx
    rw [List.getElem?_drop,List.getElem?_take,if_pos (by omega)] at hx
    exact hx
   obtain ⟨a,us,rfl,hz,hr,hc⟩:=Hk _ _ Wh
   refine ⟨a.add (l.toNat * P.cellsOf e),us,by rw [if_neg (by omega)];rfl,by rw [cm];exact hz,hr,fun q y hy => ?_⟩
   rw [tl,ia]
   have:=hc q y hy
   rw [Nat.add_mul] at this
   rw [←Nat.add_assoc];exact this
 ·intro bj
  rcases hm with rfl | ⟨rfl,_⟩
  ·exact absurd rfl bj
  ·simp at Mi
   exact ⟨_,_,by rw [←Mi]⟩
theorem ET{hh:Heap}(g:Good Z ψ h w B0 O)(br:∀id o,hh.get id=some o→h id=some o){t e:TypeId}(ht:P.underlying t=some (.slice e)){x:AV}{v:Value}{lo hi mx:Option AV}{HL sj mx':Option Value}{ef:bE}
  (hv:av Z ψ h w x v) (h1:dH Z ψ h w lo HL) (h2:dH Z ψ h w hi sj) (h3:dH Z ψ h w mx mx') (lP:∀y hw,ef=.wr y hw→hh.get=h) (he:qq hh (P.cellsOf e) x lo hi mx some=some ef) (TH:(P.info? e).isSome=true) :
  ∃V Z',(Instr.sliceAt t v HL sj mx').run P w=.ok V w∧Next Z ψ h w B0 O N Z' ψ (ef.hp h) w∧av Z' ψ (ef.hp h) w ef.v V:=by
 unfold qq at he
 split at he
 ·
  simp only [av] at hv
  subst hv
  split at he
  ·rename_i l u hb
   cases ho:aW 0 l u with
   | false=>rw [ho] at he;cases he
   | true =>
    rw [ho] at he
    cases he
    have c9:=sw (P:=P) (w:=w) (b:=true) (Nat.le_refl 0) h1 h2 h3 hb ho (.inl rfl)
    simp only [aW,Bool.and_eq_true,decide_eq_true_eq] at ho
    have hl0:l.toNat=0:=by omega
    have hu0:u.toNat=0:=by omega
    obtain ⟨i,hi⟩:=Option.isSome_iff_exists.1 TH
    refine ⟨.slice none 0 0,Z,?_,Next.refl g,by simp only [bE.v,av]⟩
    rw [hl0,hu0] at c9
    simp [Instr.sliceAt,Instr.slice,run_underlying ht,c9,dg hi]
  ·cases he
 ·
  rename_i ex kk xs
  simp only [av] at hv
  split at he
  ·rename_i ia
   split at he
   ·rename_i l u hb
    split at he
    ·cases ho:aW xs.length l u with
     | false=>rw [ho] at he;cases he
     | true =>
      rw [ho] at he
      cases he
      obtain ⟨V,h4,h5,_⟩:=nO (P:=P) ht ia hv.1 h1 h2 h3 hb ho (.inl rfl)
      exact ⟨V,Z,h4,Next.refl g,by simp only [bE.v,bE.hp,av];exact ⟨h5,by simp⟩⟩
    ·rename_i m
     cases ho:(aW xs.length l u&&(hi.isSome&&decide (m=u))) with
     | false=>rw [ho] at he;cases he
     | true =>
      rw [ho] at he
      cases he
      simp only [Bool.and_eq_true,decide_eq_true_eq] at ho
      obtain ⟨ho,Wi,rfl⟩:=ho
      obtain ⟨V,h4,h5,h6⟩:=nO (P:=P) ht ia hv.1 h1 h2 h3 hb ho (.inr ⟨rfl,by intro e;rw [e] at Wi;cases Wi⟩)
      exact ⟨V,Z,h4,Next.refl g,by simp only [bE.v,bE.hp,av];exact ⟨h5,fun _=>h6 (by simp)⟩⟩
    ·cases he
   ·cases he
  ·cases he
 ·
  rename_i id
  split at he
  ·rename_i ty kk xs hg
   have uI:=br _ _ hg
   have hvv:=hv
   simp only [av] at hvv
   have aa3:=hvv.2 (by rw [uI];simp)
   obtain ⟨vs,MI,tz⟩:=g.row id (.row ty kk) xs uI
   let Z1:Nat→Prop:=fun b=>Z b∨ob (ψ id)=some b
   have hd:aE Z1 w (.sl kk) xs [v]:=by rw [aa3];exact tp MI tz (fun b hb=>.inl hb) (fun b hb=>.inr hb)
   have Sk:∀hw:Hp,hw=dG h id none→Next Z ψ h w B0 O N Z1 ψ hw w:=by
    rintro hw rfl
    have hs:∀i o,dG h id none i=some o→h i=some o:=fun i o hi=>by
     by_cases e:i=id
     ·subst e;rw [ba] at hi;cases hi
     ·rwa [cI _ _ e] at hi
    have gg:=g.freeze hs (fun b hb=>.inl hb) (fun b (hb:Z1 b)=>hb.imp (fun h=>h) (fun hb=>⟨id,by rw [uI];simp,ba _ _ _,hb⟩))
    refine ⟨fun b hb=>.inl hb,fun b hb=>hb.imp (fun h=>h) (fun hb=>.inl ⟨id,by rw [uI];simp,hb⟩),cQ.refl _ _ _,fun i hi => ?_,gg⟩
    obtain ⟨o,ho⟩:=Option.ne_none_iff_exists'.1 hi
    exact .inl ⟨by rw [hs i o ho];simp,rfl⟩
   have MD:dH Z ψ h w lo HL:=h1
   split at he
   ·rename_i ia
    split at he
    ·rename_i l u hb
     split at he
     ·cases ho:aW xs.length l u with
      | false=>rw [ho] at he;cases he
      | true =>
       rw [ho] at he
       cases he
       have heq:=lP _ _ rfl
       obtain ⟨V,h4,h5,_⟩:=nO (P:=P) ht ia hd h1 h2 h3 hb ho (.inl rfl)
       exact ⟨V,Z1,h4,Sk _ (by simp only [bE.hp];rw [tw,heq]),by simp only [bE.v,bE.hp,av];exact ⟨h5,by simp⟩⟩
     ·rename_i m
      cases ho:(aW xs.length l u&&(hi.isSome&&decide (m=u))) with
      | false=>rw [ho] at he;cases he
      | true =>
       rw [ho] at he
       cases he
       have heq:=lP _ _ rfl
       simp only [Bool.and_eq_true,decide_eq_true_eq] at ho
       obtain ⟨ho,Wi,rfl⟩:=ho
       obtain ⟨V,h4,h5,h6⟩:=nO (P:=P) ht ia hd h1 h2 h3 hb ho (.inr ⟨rfl,by intro e;rw [e] at Wi;cases Wi⟩)
       exact ⟨V,Z1,h4,Sk _ (by simp only [bE.hp];rw [tw,heq]),by simp only [bE.v,bE.hp,av];exact ⟨h5,fun _=>h6 (by simp)⟩⟩
     ·cases he
    ·cases he
   ·cases he
  ·cases he
 ·cases he
end Go.Vs
set_option linter.unusedSimpArgs false
set_option linter.unusedVariables false
namespace Go.Vs
variable {P:Program} {Z Z':Nat→Prop} {ψ ψ':Nat→Value} {h h':Hp} {w w':World} {B0:Nat} {O:Nat→Prop} {N:Nat→Prop}
def kX(P:Program)(t:TypeId)(k:K):Prop :=
 ∀(Z:Nat→Prop) (w:World) (x y:k.T) (xs ys:Array Value),aE Z w k x xs.toList→aE Z w k y ys.toList →
  (Op.equal t (.agg xs) (.agg ys)).run P w=.ok (qo k x y) w∧(∀(op:BinOp) (a b:Operand),(eqGuard op t a b (.agg xs) (.agg ys)).run P w=.ok () w)∧∀e:Bool,(Instr.checkKey e 10000 t (.agg xs)).run P w=.ok () w
theorem uU(op:BinOp)(t:TypeId)(a b:Operand)(k k':IntKind)(x y:Int):(eqGuard op t a b (.int k x) (.int k' y)).run P w=.ok () w:=by cases op<;>simp [eqGuard]
theorem Kz(op:BinOp)(t:TypeId)(a b:Operand)(x y:ByteArray):(eqGuard op t a b (.string x) (.string y)).run P w=.ok () w:=by cases op<;>simp [eqGuard]
theorem HM(op:BinOp)(t:TypeId)(a b:Operand)(x y:Bool):(eqGuard op t a b (.bool x) (.bool y)).run P w=.ok () w:=by cases op<;>simp [eqGuard]
theorem B8(op:BinOp)(t:TypeId)(a b:Operand)(x y:Option Addr):(eqGuard op t a b (.pointer x) (.pointer y)).run P w=.ok () w:=by cases op<;>simp [eqGuard]
def bP:AV→Value
 | .bool b=>.bool b
 | .int k n=>.int k n
 | .str s=>.string s
 | _=>undef
theorem jo(k:IntKind)(n:Int):av Z ψ h w (.int k n) (bP (.int k n)):=by simp only [av,bP]
theorem dO(b:Bool):av Z ψ h w (.bool b) (bP (.bool b)):=by simp only [av,bP]
theorem jH{t e:TypeId}(ht:P.underlying t=some (.pointer e))(a:Option Addr):(Op.equal t (.pointer a) (.pointer none)).run P w=.ok a.isNone w:=by
 have key:∀d,(Op.equalIn (d+1) t (.pointer a) (.pointer none)).run P w=.ok a.isNone w:=fun d=>by
  cases a<;>simp [Op.equalIn,run_underlying ht]
 exact key 9999
theorem MJ{op:BinOp}{t:TypeId}{k:IntKind}{a b:Int}{v:AV}(hv:Tw op k a b=some v):∃V,(binOp op t (.int k a) (.int k b)).run P w=.ok V w∧av Z ψ h w v V:=by
 cases op<;>simp only [Tw] at hv<;>cases hv<;>first
  | (refine ⟨bP (.int _ _),?_,jo _ _⟩;simp [binOp,Op.intArith,Op.intCmp,bP];done)
  | (refine ⟨bP (.bool _),?_,dO _⟩;simp [binOp,Op.intArith,Op.intCmp,bP];done)
  | (refine ⟨bP (.int _ _),?_,jo _ _⟩;simp only [binOp,bP,ne_eq,not_true_eq_false,if_false];rfl)
theorem KA{Eqs:TypeId→Option K}(Bk:∀t k,Eqs t=some k→kX P t k){op:BinOp}{t:TypeId}{xo yo:Operand}{x y:AV}{u v:Value}{e:bE}(hu:av Z ψ h w x u)(hv:av Z ψ h w y v)(he:v7 P Eqs op t x y some=some e) :
  ∃r V,e=.val r∧((do eqGuard op t xo yo u v;binOp op t u v:Sem Value)).run P w=.ok V w∧av Z ψ h w r V:=by
 unfold v7 at he
 split at he
 ·rename_i k a k' b
  simp only [av] at hu hv
  subst hu;subst hv
  split at he
  ·cases hb:decide (b<0) with
   | true=>rw [hb] at he;cases he
   | false =>
    rw [hb] at he;cases he
    have TI:¬b<0:=by simpa using hb
    exact ⟨_,bP (.int _ _),rfl,by simp [uU,binOp,Op.shift,TI,bP,V5],jo _ _⟩
  ·cases hb:decide (b<0) with
   | true=>rw [hb] at he;cases he
   | false =>
    rw [hb] at he;cases he
    have TI:¬b<0:=by simpa using hb
    exact ⟨_,bP (.int _ _),rfl,by simp [uU,binOp,Op.shift,TI,bP,ku],jo _ _⟩
  split at he
  ·rename_i hk
   subst hk
   simp only [Sem.run_bind,uU,Result.andThen_ok]
   split at he
   ·cases hb:(b==0) with
    | true=>rw [hb] at he;cases he
    | false =>
     rw [hb] at he;cases he
     have TI:b≠0:=by simpa using hb
     exact ⟨_,bP (.int _ _),rfl,by simp [binOp,Op.intDiv,TI,bP],jo _ _⟩
   ·cases hb:(b==0) with
    | true=>rw [hb] at he;cases he
    | false =>
     rw [hb] at he;cases he
     have TI:b≠0:=by simpa using hb
     exact ⟨_,bP (.int _ _),rfl,by simp [binOp,Op.intDiv,TI,bP],jo _ _⟩
   ·split at he
    ·rename_i v hv
     cases he
     obtain ⟨V,h1,h2⟩:=MJ (P:=P) (t:=t) (w:=w) (Z:=Z) (ψ:=ψ) (h:=h) hv
     exact ⟨_,V,rfl,h1,h2⟩
    ·cases he
  ·cases he
 ·rename_i a b
  simp only [av] at hu hv
  subst hu;subst hv
  simp only [Sem.run_bind,Kz,Result.andThen_ok]
  cases op<;>simp only [V6] at he<;>first | (cases he;done) | (cases he;exact ⟨_,bP (.bool _),rfl,by simp [binOp,Op.stringOp,←beq_toListBytes,bP],dO _⟩)
 ·rename_i a b
  simp only [av] at hu hv
  subst hu;subst hv
  simp only [Sem.run_bind,HM,Result.andThen_ok]
  have key:(P.underlying t).map Dc=some true→P.underlying t=some .bool:=fun hm=>by
   obtain ⟨d,hd,he⟩:=Option.map_eq_some_iff.1 hm
   cases d<;>simp [Dc] at he
   exact hd
  split at he
  ·rename_i hm
   cases he
   exact ⟨_,bP (.bool _),rfl,by simp [binOp,Op.equal,Op.maxDepth,run_equalIn_bool' (P:=P) w 9999 t a b (key hm),bP],dO _⟩
  ·rename_i hm
   cases he
   exact ⟨_,bP (.bool _),rfl,by simp [binOp,Op.equal,Op.maxDepth,run_equalIn_bool' (P:=P) w 9999 t a b (key hm),bP],dO _⟩
  ·cases he
 ·rename_i a b
  split at he
  ·cases he
  ·rename_i k hk
   simp only [av] at hu hv
   obtain ⟨xs,rfl,hx⟩:=hu
   obtain ⟨ys,rfl,hy⟩:=hv
   split at he
   ·rename_i x y hdx hdy
    cases he
    obtain ⟨h1,h2,_⟩:=Bk t k hk Z w x y xs ys (dq hdx hx) (dq hdy hy)
    exact ⟨_,bP (.bool _),rfl,by simp only [Sem.run_bind,h2,Result.andThen_ok,binOp,h1,Sem.run_pure,bP],dO _⟩
   ·rename_i x y hdx hdy
    cases he
    obtain ⟨h1,h2,_⟩:=Bk t k hk Z w x y xs ys (dq hdx hx) (dq hdy hy)
    exact ⟨_,bP (.bool _),rfl,by simp only [Sem.run_bind,h2,Result.andThen_ok,binOp,h1,Sem.run_pure,bP],dO _⟩
   ·cases he
 ·simp only [av] at hu hv
  subst hu;subst hv
  have key:(P.underlying t).map uO=some true→∃e,P.underlying t=some (.pointer e):=fun hm=>by
   obtain ⟨d,hd,he⟩:=Option.map_eq_some_iff.1 hm
   cases d<;>simp [uO] at he
   exact ⟨_,hd⟩
  simp only [Sem.run_bind,B8,Result.andThen_ok]
  split at he
  ·rename_i hm
   cases he
   obtain ⟨et,ht⟩:=key hm
   exact ⟨_,bP (.bool _),rfl,by simp only [binOp,Sem.run_bind,jH ht,Result.andThen_ok,Sem.run_pure,bP,Option.isNone_none,Option.isNone_some,Bool.not_true,Bool.not_false],dO _⟩
  ·rename_i hm
   cases he
   obtain ⟨et,ht⟩:=key hm
   exact ⟨_,bP (.bool _),rfl,by simp only [binOp,Sem.run_bind,jH ht,Result.andThen_ok,Sem.run_pure,bP,Option.isNone_none,Option.isNone_some,Bool.not_true,Bool.not_false],dO _⟩
  ·cases he
 ·simp only [av] at hu hv
  obtain ⟨a,rfl,_⟩:=hu
  subst hv
  have key:(P.underlying t).map uO=some true→∃e,P.underlying t=some (.pointer e):=fun hm=>by
   obtain ⟨d,hd,he⟩:=Option.map_eq_some_iff.1 hm
   cases d<;>simp [uO] at he
   exact ⟨_,hd⟩
  simp only [Sem.run_bind,B8,Result.andThen_ok]
  split at he
  ·rename_i hm
   cases he
   obtain ⟨et,ht⟩:=key hm
   exact ⟨_,bP (.bool _),rfl,by simp only [binOp,Sem.run_bind,jH ht,Result.andThen_ok,Sem.run_pure,bP,Option.isNone_none,Option.isNone_some,Bool.not_true,Bool.not_false],dO _⟩
  ·rename_i hm
   cases he
   obtain ⟨et,ht⟩:=key hm
   exact ⟨_,bP (.bool _),rfl,by simp only [binOp,Sem.run_bind,jH ht,Result.andThen_ok,Sem.run_pure,bP,Option.isNone_none,Option.isNone_some,Bool.not_true,Bool.not_false],dO _⟩
  ·cases he
 ·cases he
theorem KB{a:AV}{v:Value}(hp:uM a=true)(hr:av Z ψ h w a v):v.oneCell'=true:=by
 cases a with
 | no=>cases hp
 | agg cs=>cases hp
 | mH cs=>cases hp
 | bool b=>simp only [av] at hr;subst hr;rfl
 | int k n=>simp only [av] at hr;subst hr;rfl
 | str s=>simp only [av] at hr;subst hr;rfl
 | kR=>simp only [av] at hr;subst hr;rfl
 | fz=>simp only [av] at hr;subst hr;rfl
 | ref id s i off=>simp only [av] at hr;obtain ⟨a,rfl,_⟩:=hr;rfl
 | fp k x off=>simp only [av] at hr;obtain ⟨a,us,rfl,_⟩:=hr;rfl
 | sl ex k xs=>simp only [av,aE] at hr;obtain ⟨⟨v',hv,A,c,rfl,_⟩,_⟩:=hr;cases hv;rfl
 | bF id=>simp only [av] at hr;exact hr.1.2
 | mp kk vk es=>simp only [av,aE] at hr;obtain ⟨A,hv,_⟩:=hr;cases hv;rfl
 | fn f cap=>simp only [av] at hr;obtain ⟨vs,rfl,_⟩:=hr;rfl
theorem sx:∀{cs:List AV} {vs:List Value},cs.all uM=true→an Z ψ h w cs vs→∀u∈vs,u.oneCell'=true
 | [],_,_,hr,u,hu=>by simp only [an] at hr;subst hr;simp at hu
 | c::r,_,hp,hr,u,hu=>by
  simp only [List.all_cons,Bool.and_eq_true] at hp
  simp only [an] at hr
  obtain ⟨v,us,rfl,h1,h2⟩:=hr
  rcases List.mem_cons.1 hu with rfl | hu
  ·exact KB hp.1 h1
  ·exact sx hp.2 h2 u hu
theorem EU{a:AV}(hp:a.cells.all uM=true):a≠.no:=by rintro rfl;simp [AV.cells,uM] at hp
theorem qB{id:Nat}:∀{cs:List AV},Hw id cs=true→AV.bF id∉cs
 | [],_=>by simp
 | c::r,hn=>by
  intro hm
  cases c with
  | bF i =>
   simp only [Hw,Bool.and_eq_true,Bool.not_eq_true',beq_eq_false_iff_ne] at hn
   rcases List.mem_cons.1 hm with e | hm
   ·cases e;exact hn.1 rfl
   ·exact qB hn.2 hm
  | _ =>
   simp only [Hw] at hn
   rcases List.mem_cons.1 hm with e | hm
   ·cases e
   ·exact qB hn hm
theorem wm{hh:Heap}(g:Good Z ψ hh.get w B0 O){t:TypeId}{a x:AV}{u v:Value}{e:bE}(hu:av Z ψ hh.get w a u)(hv:av Z ψ hh.get w x v)(he:qp P hh t a x some=some e) :
  ∃hw w' Z',e=.wr .no hw∧(Instr.storeAt t u v).run P w=.ok () w'∧Next Z ψ hh.get w B0 O N Z' ψ hw.get w':=by
 unfold qp at he
 split at he
 ·rename_i hc
  obtain ⟨hlen,QE,pK⟩:=hc
  obtain ⟨inf,QE⟩:=Option.isSome_iff_exists.1 QE
  have Mg:=hv.cells (EU pK)
  have Dl:=sx pK Mg
  have ta:=Mg.length
  simp only [Array.length_toList] at ta
  split at he
  ·rename_i id s i off
   simp only [av] at hu
   obtain ⟨a,rfl,ha⟩:=hu
   split at he
   ·rename_i ty cs hg
    split at he
    ·rename_i hc
     obtain ⟨rfl,Wj⟩:=hc
     cases he
     have EI:=ha (by rw [hg];simp)
     obtain ⟨w',h1,h2⟩:=yy (P:=P) (N:=N) g hg QE Mg Dl (by omega) Wj (a:=a) (by rw [EI];simp)
     exact ⟨_,w',Z,rfl,h1,by rw [lO];exact h2⟩
    ·cases he
   ·rename_i ty kk xs hg
    obtain ⟨y,hx,Qb⟩:=Option.bind_eq_some_iff.1 he
    clear he
    split at Qb
    ·rename_i hc
     obtain ⟨rfl,Wj,pJ⟩:=hc
     split at Qb
     ·rename_i z hz
      cases Qb
      have EI:=ha (by rw [hg];simp)
      have bO:=qB pJ
      have gd:=gW g x.cells
      have hgd:(cw hh x.cells).get id=some (.own (.row ty kk) xs):=by rw [nL _ _ _ bO];exact hg
      have TJ:=mQ (Z':=o4 Z ψ hh.get x.cells) g (fun b hb=>.inl hb) (fun i b hm bj hb=>.inr ⟨i,hm,bj,hb⟩) Mg
      obtain ⟨w',h1,h2⟩:=yC (P:=P) (N:=N) gd hgd QE hx (y:=z) (off:=off) (V:=v) (by omega) (by omega) (a:=a) EI (fun us VA=>by
       have h3:=(gM (ψ:=ψ) (h:=hh.get) VA)
       have h4:=dq hz (TJ.dF off h3)
       rwa [qz _ _ _ (by rw [Array.length_toList,VA.len];omega),Array.length_toList] at h4) Dl
      refine ⟨_,w',o4 Z ψ hh.get x.cells,rfl,h1,?_⟩
      rw [show ((stored hh x.cells).2.set id (.own (.row ty kk) (xs.set i z))).get=dG (cw hh x.cells).get id (some (.own (.row ty kk) (xs.set i z))) from lO _ _ _]
      exact h2.drop (fun b hb=>.inl hb) (fun b hb=>hb.imp (fun h=>h) (fun ⟨i,_,h5,h6⟩=>⟨i,h5,h6⟩)) (dK _ _)
     ·cases Qb
    ·cases Qb
   ·cases he
  ·cases he
 ·cases he
end Go.Vs
namespace Go.Vs
variable {P:Program} {Z Z':Nat→Prop} {ψ ψ':Nat→Value} {h h':Hp} {w w':World} {B0:Nat} {O:Nat→Prop} {N:Nat→Prop}
theorem MK{a:AV}{v:Value}(ha:a.isAgg=true)(hr:av Z ψ h w a v):∃vs,v=.agg vs:=by
 cases a<;>simp [AV.isAgg] at ha
 simp only [av] at hr
 obtain ⟨vs,rfl,_⟩:=hr
 exact ⟨vs,rfl⟩
theorem B9{a:AV}{v:Value}(ha:a.isAgg=false)(pJ:a≠.no)(hr:av Z ψ h w a v):v.cells=#[v]:=by
 cases a with
 | no=>exact absurd rfl pJ
 | agg cs=>simp [AV.isAgg] at ha
 | bool b=>simp only [av] at hr;subst hr;rfl
 | int k n=>simp only [av] at hr;subst hr;rfl
 | str s=>simp only [av] at hr;subst hr;rfl
 | kR=>simp only [av] at hr;subst hr;rfl
 | fz=>simp only [av] at hr;subst hr;rfl
 | ref id s i off=>simp only [av] at hr;obtain ⟨a,rfl,_⟩:=hr;rfl
 | fp k x off=>simp only [av] at hr;obtain ⟨a,us,rfl,_⟩:=hr;rfl
 | sl ex k xs=>simp only [av,aE] at hr;obtain ⟨⟨v',hv,A,c,rfl,_⟩,_⟩:=hr;cases hv;rfl
 | bF id=>simp only [av] at hr;exact hr.1.1
 | mp kk vk es=>simp only [av,aE] at hr;obtain ⟨A,hv,_⟩:=hr;cases hv;rfl
 | fn f cap=>simp only [av] at hr;obtain ⟨vs,rfl,_⟩:=hr;rfl
 | mH cs=>simp only [av] at hr;obtain ⟨vs,rfl,_⟩:=hr;rfl
theorem sy{hh:Heap}{k:K}{a:AV}{x:k.T}{v:Value}(g:Good Z ψ hh.get w B0 O)(hz:∀b,Z b→Z' b)(hb:∀id b,AV.bF id∈a.cells→hh.get id≠none→ob (ψ id)=some b→Z' b)
  (hx:fj k hh a=some x) (hr:av Z ψ hh.get w a v):aE Z' w k x v.cells.toList∧(k.isAgg=true→∃vs,v=.agg vs)∧(k.isAgg=false→v.cells=#[v]):=by
 unfold fj at hx
 split at hx
 ·rename_i Sn
  have pJ:=B7 hx
  have hv:=mQ g hz hb (hr.cells pJ)
  exact ⟨dq hx hv,fun h=>MK (by rw [←Sn];exact h) hr,fun h=>B9 (by rw [←Sn];exact h) pJ hr⟩
 ·cases hx
theorem qC{hh:Heap}{k:K}{a:AV}{x:k.T}{v:Value}(g:Good Z ψ hh.get w B0 O)(hz:∀b,Z b→Z' b)(hb:∀id b,AV.bF id∈a.cells→hh.get id≠none→ob (ψ id)=some b→Z' b)
  (hx:fj k hh a=some x) (hr:av Z ψ hh.get w a v):av Z' ψ' h' w (cc k x) v:=by
 obtain ⟨h1,h2,h3⟩:=sy g hz hb hx hr
 exact kW h1 h2 h3
theorem aE.flat:∀{k:K} {x:k.T} {vs:List Value},k.flat=true→aE Z w k x vs→aE Z' w' k x vs
 | .int _,_,_,_,h=>h
 | .bool,_,_,_,h=>h
 | .str,_,_,_,h=>h
 | .sl k,_,_,hf,_=>by simp [K.flat] at hf
 | .pair a b,x,_,hf,h=>by
  simp only [K.flat,Bool.and_eq_true] at hf
  simp only [aE] at h ⊢
  obtain ⟨us,ws,rfl,h1,h2⟩:=h
  exact ⟨us,ws,rfl,aE.flat hf.1 h1,aE.flat hf.2 h2⟩
 | .one k,x,_,hf,h=>by
  simp only [aE] at h ⊢
  exact aE.flat (k:=k) (by simpa only [K.flat] using hf) h
theorem xt:∀(k:K) (x y:k.T),k.flat=true→(qo k x y=true↔x=y)
 | .int _,x,y,_=>by simp only [qo];exact beq_iff_eq (α:=Int)
 | .bool,x,y,_=>by simp only [qo];exact beq_iff_eq (α:=Bool)
 | .str,x,y,_=>by simp only [qo];exact MapKept.bytes_beq x y
 | .sl _,_,_,hf=>by simp [K.flat] at hf
 | .mp _ _,_,_,hf=>by simp [K.flat] at hf
 | .pair a b,x,y,hf=>by
  simp only [K.flat,Bool.and_eq_true] at hf
  simp only [qo,Bool.and_eq_true]
  rw [xt a _ _ hf.1,xt b _ _ hf.2]
  exact ⟨fun h=>Prod.ext h.1 h.2,fun h=>⟨congrArg Prod.fst h,congrArg Prod.snd h⟩⟩
 | .one k,x,y,hf=>by simp only [qo];exact xt k x y (by simpa only [K.flat] using hf)
theorem nP:∀{k:K} {x:k.T} {us vs:List Value},k.flat=true→aE Z w k x us→aE Z' w' k x vs→us=vs
 | .int _,_,_,_,_,h1,h2=>by simp only [aE] at h1 h2;rw [h1,h2]
 | .bool,_,_,_,_,h1,h2=>by simp only [aE] at h1 h2;rw [h1,h2]
 | .str,_,_,_,_,h1,h2=>by simp only [aE] at h1 h2;rw [h1,h2]
 | .sl _,_,_,_,hf,_,_=>by simp [K.flat] at hf
 | .mp _ _,_,_,_,hf,_,_=>by simp [K.flat] at hf
 | .pair a b,x,_,_,hf,h1,h2=>by
  simp only [K.flat,Bool.and_eq_true] at hf
  simp only [aE] at h1 h2
  obtain ⟨a1,a2,rfl,h3,h4⟩:=h1
  obtain ⟨b1,b2,rfl,h5,h6⟩:=h2
  rw [nP hf.1 h3 h5,nP hf.2 h4 h6]
 | .one k,x,_,_,hf,h1,h2=>by
  simp only [aE] at h1 h2
  exact nP (k:=k) (by simpa only [K.flat] using hf) h1 h2
theorem qD:∀{k:K} {x:k.T} {us:List Value},k.flat=true→aE Z w k x us→∀u∈us,∀n,Instr.sameBits n u u=true
 | .int _,x,_,_,h1,u,hu,n=>by simp only [aE] at h1;subst h1;simp only [List.mem_singleton] at hu;subst hu;cases n<;>simp [Instr.sameBits]<;>exact beq_self_eq_true (α:=Int) x
 | .bool,x,_,_,h1,u,hu,n=>by simp only [aE] at h1;subst h1;simp only [List.mem_singleton] at hu;subst hu;cases n<;>simp [Instr.sameBits]<;>exact beq_self_eq_true (α:=Bool) x
 | .str,x,_,_,h1,u,hu,n=>by simp only [aE] at h1;subst h1;simp only [List.mem_singleton] at hu;subst hu;cases n<;>simp [Instr.sameBits]<;>exact (MapKept.bytes_beq x x).2 rfl
 | .sl _,_,_,hf,_,_,_,_=>by simp [K.flat] at hf
 | .mp _ _,_,_,hf,_,_,_,_=>by simp [K.flat] at hf
 | .pair a b,x,_,hf,h1,u,hu,n=>by
  simp only [K.flat,Bool.and_eq_true] at hf
  simp only [aE] at h1
  obtain ⟨a1,a2,rfl,h3,h4⟩:=h1
  rcases List.mem_append.1 hu with hu | hu
  ·exact qD hf.1 h3 u hu n
  ·exact qD hf.2 h4 u hu n
 | .one k,x,_,hf,h1,u,hu,n=>by
  simp only [aE] at h1
  exact qD (k:=k) (by simpa only [K.flat] using hf) h1 u hu n
def Hl(b:Bool)(v:Value):Prop:=(b=true→∃vs,v=.agg vs)∧(b=false→v.cells=#[v])
theorem KC{b:Bool}{u v:Value}(h1:Hl b u)(h2:Hl b v)(h:u.cells.toList=v.cells.toList):u=v:=by
 cases b with
 | true =>
  obtain ⟨a,rfl⟩:=h1.1 rfl
  obtain ⟨c,rfl⟩:=h2.1 rfl
  have:a=c:=by simpa [Value.cells] using h
  rw [this]
 | false =>
  rw [h1.2 rfl,h2.2 rfl] at h
  simpa using h
theorem ML{k:K}{x:k.T}{u:Value}(hf:k.flat=true)(hr:aE Z w k x u.cells.toList)(hs:Hl k.isAgg u):Instr.sameBits 10000 u u=true:=by
 have hb:=qD hf hr
 cases hk:k.isAgg with
 | false=>exact hb u (by rw [hs.2 hk];simp) _
 | true =>
  obtain ⟨a,rfl⟩:=hs.1 hk
  show Instr.sameBits (9999+1) (.agg a) (.agg a)=true
  simp only [Instr.sameBits,beq_self_eq_true,Bool.true_and,List.all_eq_true]
  intro p hp
  obtain ⟨i,hi,he⟩:=List.mem_iff_getElem.1 hp
  simp only [List.getElem_zip] at he
  subst he
  exact hb _ (List.getElem_mem (l:=(Value.agg a).cells.toList) (by simpa [Value.cells] using hi)) _
def Keys(Z:Nat→Prop)(w:World)(k:K)(ys:List k.T)(l:List MapEntry):Prop:=ys.length=l.length∧∀(i:Nat) y e,ys[i]? = some y→l[i]? = some e→aE Z w k y e.key.cells.toList∧Hl k.isAgg e.key
theorem Keys.tail{k:K}{y:k.T}{ys:List k.T}{e:MapEntry}{l:List MapEntry}(h:Keys Z w k (y::ys) (e::l)):Keys Z w k ys l:=⟨by simpa using h.1,fun i a b h1 h2=>h.2 (i+1) a b (by simpa using h1) (by simpa using h2)⟩
theorem EV{k:K}{x:k.T}{d:TypeDesc}{kv:Value}(hs:∀y Qc,aE Z w k y Qc.cells.toList→Hl k.isAgg Qc→Instr.sameNow d kv Qc=some (qo k x y)):∀(l:List MapEntry) (ys:List k.T) (i:Nat),Keys Z w k ys l →
  Instr.findNow d kv l i=some ((ys.findIdx? (qo k x)).map fun j=>(i+j,((l[j]?).map (·.val)).getD undef))
 | [],ys,i,h=>by
  have:ys=[]:=List.eq_nil_of_length_eq_zero (by simpa using h.1)
  subst this;rfl
 | e::l,[],i,h=>by have:=h.1;simp at this
 | e::l,y::ys,i,h=>by
  obtain ⟨h1,h2⟩:=h.2 0 y e rfl rfl
  have ih:=EV hs l ys (i+1) h.tail
  simp only [Instr.findNow,hs y _ h1 h2,List.findIdx?_cons]
  cases qo k x y with
  | true=>simp
  | false =>
   simp only [ih,Bool.false_eq_true,if_false]
   cases ys.findIdx? (qo k x) with
   | none=>rfl
   | some j=>simp;omega
theorem wo{k:K}{x:k.T}{t:TypeId}{kv:Value}(hs:∀y Qc,aE Z w k y Qc.cells.toList→Hl k.isAgg Qc→(Op.equal t kv Qc).run P w=.ok (qo k x y) w):∀(l:List MapEntry) (ys:List k.T) (i:Nat),Keys Z w k ys l →
  (Instr.findAsking t kv l i).run P w=.ok ((ys.findIdx? (qo k x)).map fun j=>(i+j,((l[j]?).map (·.val)).getD undef)) w
 | [],ys,i,h=>by
  have:ys=[]:=List.eq_nil_of_length_eq_zero (by simpa using h.1)
  subst this;rfl
 | e::l,[],i,h=>by have:=h.1;simp at this
 | e::l,y::ys,i,h=>by
  obtain ⟨h1,h2⟩:=h.2 0 y e rfl rfl
  have ih:=wo hs l ys (i+1) h.tail
  simp only [Instr.findAsking,Sem.run_bind,hs y _ h1 h2,Result.andThen_ok,List.findIdx?_cons]
  cases qo k x y with
  | true=>simp
  | false =>
   simp only [ih,Bool.false_eq_true,if_false]
   cases ys.findIdx? (qo k x) with
   | none=>rfl
   | some j=>simp;omega
structure MM(P:Program)(t:TypeId)(k:K):Prop where
 flat:k.flat=true
 check:∀(Z:Nat→Prop) (w:World) (x:k.T) (kv:Value) (e:Bool),aE Z w k x kv.cells.toList→Hl k.isAgg kv→(Instr.checkKey e 10000 t kv).run P w=.ok () w
 find:∀(Z:Nat→Prop) (w:World) (x:k.T) (kv:Value) (l:List MapEntry) (ys:List k.T),aE Z w k x kv.cells.toList→Hl k.isAgg kv→Keys Z w k ys l →
  (Instr.findKey t kv l).run P w=.ok ((ys.findIdx? (qo k x)).map fun j=>(j,((l[j]?).map (·.val)).getD undef)) w
theorem nQ{t:TypeId}{k:K}{d:TypeDesc}(hf:k.flat=true)(hk:k.isAgg=false)(hd:P.underlying t=some d)(hc:∀(Z:Nat→Prop) (w:World) (x:k.T) (kv:Value),aE Z w k x [kv]→MapKept.IsKey d kv)
  (hs:∀(Z:Nat→Prop) (w:World) (x y:k.T) (u v:Value),aE Z w k x [u]→aE Z w k y [v]→Instr.sameNow d u v=some (qo k x y)):MM P t k:=by
 have one:∀{Z:Nat→Prop} {w:World} {x:k.T} {kv:Value},aE Z w k x kv.cells.toList→Hl k.isAgg kv→aE Z w k x [kv]:=fun {Z w x kv} h1 h2=>by
  rw [h2.2 hk] at h1;exact h1
 refine ⟨hf,fun Z w x kv e h1 h2=>MapKept.run_checkKey hd (hc Z w x kv (one h1 h2)) e 9999,fun Z w x kv l ys h1 h2 h3 => ?_⟩
 have:=EV (Z:=Z) (w:=w) (x:=x) (d:=d) (kv:=kv) (fun y Qc h4 h5=>hs Z w x y kv Qc (one h1 h2) (one h4 h5)) l ys 0 h3
 simp only [Nat.zero_add] at this
 exact MapKept.run_findKey hd this
theorem EW(d:TypeDesc)(a:Array Value)(v:Value):Instr.sameNow d (.agg a) v=none:=by cases d<;>cases v<;>rfl
theorem uV{Eqs:TypeId→Option K}(Bk:∀t k,Eqs t=some k→kX P t k){t:TypeId}{k:K}(hk:Jm P Eqs t k=true):MM P t k:=by
 unfold Jm at hk
 rw [Bool.and_eq_true] at hk
 obtain ⟨hf,hk⟩:=hk
 split at hk
 ·rename_i ik Vy hd
  simp only [decide_eq_true_eq] at hk
  subst hk
  exact nQ hf rfl hd (fun Z w x kv hr=>by simp only [aE] at hr;cases hr;simp [MapKept.IsKey]) (fun Z w x y u v h1 h2=>by simp only [aE] at h1 h2;cases h1;cases h2;simp [Instr.sameNow,qo])
 ·rename_i hd
  exact nQ hf rfl hd (fun Z w x kv hr=>by simp only [aE] at hr;cases hr;simp [MapKept.IsKey]) (fun Z w x y u v h1 h2=>by simp only [aE] at h1 h2;cases h1;cases h2;simp [Instr.sameNow,qo])
 ·rename_i hd
  exact nQ hf rfl hd (fun Z w x kv hr=>by simp only [aE] at hr;cases hr;simp [MapKept.IsKey]) (fun Z w x y u v h1 h2=>by simp only [aE] at h1 h2;cases h1;cases h2;simp [Instr.sameNow,qo])
 ·simp only [Bool.and_eq_true,decide_eq_true_eq] at hk
  obtain ⟨Sn,hk⟩:=hk
  have fact:=Bk _ _ hk
  have agg:∀{b:Bool} {u:Value},b=true→Hl b u→∃a,u=.agg a:=fun hb h=>h.1 hb
  refine ⟨hf,fun Z w x kv e h1 h2 => ?_,fun Z w x kv l ys h1 h2 h3 => ?_⟩
  ·obtain ⟨a,rfl⟩:=agg Sn h2
   exact (fact Z w x x a a h1 h1).2.2 e
  ·obtain ⟨a,rfl⟩:=agg Sn h2
   have h4:=wo (P:=P) (t:=t) (Z:=Z) (w:=w) (x:=x) (kv:=.agg a) (fun y Qc h4 h5=>by
    obtain ⟨b,rfl⟩:=agg Sn h5
    exact (fact Z w x y a b h1 h4).1) l ys 0 h3
   simp only [Nat.zero_add] at h4
   cases l with
   | nil =>
    have:ys=[]:=List.eq_nil_of_length_eq_zero (by simpa using h3.1)
    subst this
    cases hu:P.underlying t with
    | none =>
     have hc:=(fact Z w x x a a h1 h1).2.2 true
     exfalso
     unfold Instr.checkKey at hc
     simp [underlying,hu] at hc
    | some d=>simp [Instr.findKey,run_underlying hu,Instr.findNow]
   | cons e l =>
    cases hu:P.underlying t with
    | none =>
     have hc:=(fact Z w x x a a h1 h1).2.2 true
     exfalso
     unfold Instr.checkKey at hc
     simp [underlying,hu] at hc
    | some d=>simp only [Instr.findKey,Sem.run_bind,run_underlying hu,Result.andThen_ok,Instr.findNow,EW];exact h4
section
variable {kk vk:K} {es:List (kk.T×vk.T)} {l:List MapEntry}
abbrev jN(Z:Nat→Prop)(w:World)(kk vk:K)(es:List (kk.T×vk.T))(l:List MapEntry):Prop:=Df (aE Z w kk) (aE Z w vk) kk.isAgg vk.isAgg es l
theorem jN.keys(h:jN Z w kk vk es l):Keys Z w kk (es.map (·.1)) l :=
 ⟨by rw [List.length_map];exact h.1,fun i y e h1 h2=>by
  rw [List.getElem?_map] at h1
  obtain ⟨x,h3,rfl⟩:=Option.map_eq_some_iff.1 h1
  exact (h.2 i x e h3 h2).1⟩
theorem yJ{x:kk.T}:(es.map (·.1)).findIdx? (qo kk x)=r9 kk x es:=by unfold r9;rw [List.findIdx?_map];rfl
theorem Dm{x:kk.T}{i:Nat}(h:r9 kk x es=some i):i<es.length:=by
 unfold r9 at h
 exact (List.findIdx?_eq_some_iff_getElem.1 h).1
theorem QF{x:kk.T}{i:Nat}(h:r9 kk x es=some i):∃e,es[i]? = some e∧qo kk x e.1=true:=by
 unfold r9 at h
 obtain ⟨h1,h2,_⟩:=List.findIdx?_eq_some_iff_getElem.1 h
 exact ⟨_,List.getElem?_eq_getElem h1,h2⟩
def MN(Z:Nat→Prop)(w:World)(kk vk:K)(x:kk.T×vk.T)(e:MapEntry):Prop:=(aE Z w kk x.1 e.key.cells.toList∧Hl kk.isAgg e.key)∧aE Z w vk x.2 e.val.cells.toList∧Hl vk.isAgg e.val
theorem jN.set(h:jN Z w kk vk es l)(i:Nat){x:kk.T×vk.T}{f:MapEntry→MapEntry}(ho:∀e,l[i]? = some e→MN Z w kk vk x (f e)):jN Z w kk vk (es.set i x) (l.modify i f):=by
 refine ⟨by simp [h.1],fun j y e h1 h2 => ?_⟩
 rw [List.getElem?_modify] at h2
 obtain ⟨e0,h3,h4⟩:=Option.map_eq_some_iff.1 h2
 by_cases yK:i=j
 ·subst yK
  rw [if_pos rfl] at h4
  have aH:i<es.length:=by rw [h.1];exact (List.getElem?_eq_some_iff.1 h3).1
  rw [List.getElem?_set_self aH] at h1
  cases h1
  subst h4
  exact ho e0 h3
 ·rw [if_neg yK] at h4
  rw [List.getElem?_set_ne yK] at h1
  subst h4
  exact h.2 j y e0 h1 h3
theorem jN.push(h:jN Z w kk vk es l){x:kk.T×vk.T}{e:MapEntry}(ho:MN Z w kk vk x e):jN Z w kk vk (es++[x]) (l++[e]):=by
 refine ⟨by simp [h.1],fun j y e' h1 h2 => ?_⟩
 by_cases hj:j<es.length
 ·rw [List.getElem?_append_left hj] at h1
  rw [List.getElem?_append_left (by rw [←h.1];exact hj)] at h2
  exact h.2 j y e' h1 h2
 ·rw [List.getElem?_append_right (by omega)] at h1
  rw [List.getElem?_append_right (by have:=h.1;omega),←h.1] at h2
  by_cases h0:j - es.length=0
  ·rw [h0] at h1 h2;cases h1;cases h2;exact ho
  ·rw [List.getElem?_eq_none (by simp;omega)] at h1;cases h1
theorem jN.erase(h:jN Z w kk vk es l)(i:Nat):jN Z w kk vk (es.eraseIdx i) (l.eraseIdx i):=by
 refine ⟨by rw [List.length_eraseIdx,List.length_eraseIdx,h.1],fun j y e h1 h2 => ?_⟩
 rw [List.getElem?_eraseIdx] at h1 h2
 split at h1
 ·rename_i hj;rw [if_pos hj] at h2;exact h.2 j y e h1 h2
 ·rename_i hj;rw [if_neg hj] at h2;exact h.2 (j+1) y e h1 h2
theorem jN.mono(h:jN Z w kk vk es l)(hz:∀b,Z b→Z' b)(hs:cg Z w w'):jN Z' w' kk vk es l:=Df.imp (fun _ _ h=>h.mono hz hs) (fun _ _ h=>h.mono hz hs) h
end
theorem sB{Eqs:TypeId→Option K}{t:TypeId}{kk vk:K}(h:mapOf P Eqs t=some (kk,vk)):∃a b,P.underlying t=some (.map a b)∧Jm P Eqs a kk=true∧Jl P b vk=true:=by
 unfold mapOf at h
 split at h
 ·rename_i a b hu
  split at h
  ·split at h
   ·rename_i hc
    cases h
    rw [Bool.and_eq_true] at hc
    exact ⟨a,b,hu,hc.1,hc.2⟩
   ·cases h
  ·cases h
 ·cases h
theorem HN{b:TypeId}{vk:K}(h:Jl P b vk=true):∃z,(zeroValue b).run P w=.ok z w∧aE Z w vk (oH vk) z.cells.toList∧Hl vk.isAgg z:=by
 unfold Jl at h
 split at h
 ·rename_i i hi
  split at h
  ·rename_i z hz
   refine ⟨z,tv hi hz,?_⟩
   unfold Mr at h
   split at h
   ·simp only [decide_eq_true_eq] at h;obtain ⟨rfl,rfl⟩:=h;exact ⟨by simp only [aE];rfl,fun h=>(by cases h),fun _=>rfl⟩
   ·rename_i b;simp only [Bool.not_eq_true'] at h;subst h;exact ⟨by simp only [aE];rfl,fun h=>(by cases h),fun _=>rfl⟩
   ·simp only [decide_eq_true_eq] at h;subst h;exact ⟨by simp only [aE];rfl,fun h=>(by cases h),fun _=>rfl⟩
   ·simp only [decide_eq_true_eq] at h;obtain ⟨rfl,rfl,rfl⟩:=h
    exact ⟨by simp only [aE];exact ⟨_,rfl,none,0,rfl,Nat.le_refl _,fun _=>rfl,fun i x hx=>by simp [oH] at hx⟩,fun h=>(by cases h),fun _=>rfl⟩
   ·cases h
  ·cases h
 ·cases h
theorem Jo{hh:Heap}(g:Good Z ψ h w B0 O)(br:∀id o,hh.get id=some o→h id=some o){m:AV}{u:Value}{kk vk:K}{es:List (kk.T×vk.T)}(hm:av Z ψ h w m u)(hv:cz hh m=.mp kk vk es) :
  ∃A,u=.map A∧((A=none∧es=[])∨∃r bQ clock,A=some r∧w.heap[r]? = some (.map bQ clock)∧jN Z w kk vk es bQ.toList):=by
 cases m with
 | mp Jk Qv MO =>
  simp only [cz] at hv
  cases hv
  simp only [av,aE] at hm
  obtain ⟨A,h1,h2⟩:=hm
  cases h1
  refine ⟨A,rfl,h2.imp (fun h=>h) fun ⟨m,bQ,clock,h3,_,h4,h5⟩=>⟨m,bQ,clock,h3,h4,h5⟩⟩
 | bF id =>
  simp only [cz] at hv
  split at hv
  ·cases hv
  ·rename_i Jk Qv MO hg
   cases hv
   have uI:=br _ _ hg
   simp only [av] at hm
   have:=hm.2 (by rw [uI];simp)
   subst this
   obtain ⟨r,bQ,clock,h1,h2,h3,_⟩:=g.row id (.map kk vk) es uI
   exact ⟨some r,h1,.inr ⟨r,bQ,clock,rfl,h2,h3⟩⟩
  ·cases hv
 | _=>simp only [cz] at hv;cases hv
theorem HO{hh:Heap}(g:Good Z ψ h w B0 O)(br:∀id o,hh.get id=some o→h id=some o){k:K}(hf:k.flat=true){a:AV}{x:k.T}{v:Value}(hx:fj k hh a=some x)(hr:av Z ψ h w a v):aE Z w k x v.cells.toList∧Hl k.isAgg v:=by
 obtain ⟨h1,h2,h3⟩:=sy (Z':=fun b=>b<w.heap.size) (g.sub br) (fun b hb=>g.jk b hb) (fun id b _ h1 h2=>(g.sub br).bL ⟨id,h1,h2⟩) hx (hr.less (fun _ h=>h) (cg.refl _ _) (fun id bO=>by
  obtain ⟨o,ho⟩:=Option.ne_none_iff_exists'.1 bO
  exact ⟨by rw [br id o ho];simp,rfl⟩))
 exact ⟨h1.flat hf,h2,h3⟩
theorem Dn{Eqs:TypeId→Option K}(Bk:∀t k,Eqs t=some k→kX P t k){hh:Heap}(g:Good Z ψ h w B0 O)(br:∀id o,hh.get id=some o→h id=some o){t:TypeId}{m i:AV}{u v:Value}{ok:Bool}{e:bE}
  (hm:av Z ψ h w m u) (hi:av Z ψ h w i v) (he:mM P Eqs hh t m i ok some=some e):∃y V,e=.val y∧(Instr.lookup t u v ok).run P w=.ok V w∧av Z ψ h w y V:=by
 unfold mM at he
 split at he
 ·rename_i ka va kk vk es VB hv
  split at he
  ·rename_i hc
   obtain ⟨rfl,rfl⟩:=hc
   split at he
   ·rename_i x hx
    cases he
    obtain ⟨a,b,hu,hk,hz⟩:=sB VB
    have K:=uV Bk hk
    obtain ⟨HP,nE⟩:=HO g br K.flat hx hi
    obtain ⟨z,wj,Bj,Hj⟩:=HN (Z:=Z) (w:=w) hz
    have fin:∀(l:List MapEntry),jN Z w kk vk es l→∃V,((∃j,(Instr.findKey a v l).run P w=.ok (some (j,V)) w∧(iD kk x es).isSome=true)∨((Instr.findKey a v l).run P w=.ok none w∧(zeroValue b).run P w=.ok V w∧(iD kk x es).isSome=false)) ∧
      aE Z w vk ((iD kk x es).getD (oH vk)) V.cells.toList∧Hl vk.isAgg V:=by
     intro l hE
     have hf:=K.find Z w x v l (es.map (·.1)) HP nE hE.keys
     rw [yJ] at hf
     cases Ca:r9 kk x es with
     | none =>
      rw [Ca] at hf
      exact ⟨z,.inr ⟨hf,wj,by simp [iD,Ca]⟩,by simpa [iD,Ca] using Bj,Hj⟩
     | some j =>
      rw [Ca] at hf
      have hj:=Dm Ca
      have h1:es[j]? = some es[j]:=List.getElem?_eq_getElem hj
      have Hm:j<l.length:=by rw [←hE.1];exact hj
      have h2:l[j]? = some l[j]:=List.getElem?_eq_getElem Hm
      obtain ⟨_,h3,h4⟩:=hE.2 j _ _ h1 h2
      refine ⟨l[j].val,.inl ⟨j,?_,by simp [iD,Ca,h1]⟩,by simpa [iD,Ca,h1] using h3,h4⟩
      rw [hf];simp only [Option.map_some,h2,Option.getD_some]
    have out:∀V:Value,aE Z w vk ((iD kk x es).getD (oH vk)) V.cells.toList→Hl vk.isAgg V→av Z ψ h w (cond ok (AV.mH [cc vk ((iD kk x es).getD (oH vk)),.bool (iD kk x es).isSome]) (cc vk ((iD kk x es).getD (oH vk)))) (if ok then .tuple #[V,.bool (iD kk x es).isSome] else V):=by
     intro V h1 h2
     have h3:av Z ψ h w (cc vk ((iD kk x es).getD (oH vk))) V:=kW h1 h2.1 h2.2
     cases ok with
     | false=>exact h3
     | true=>simp only [cond_true,if_true,av,an];exact ⟨_,rfl,V,[.bool (iD kk x es).isSome],by simp,h3,_,[],rfl,rfl,rfl⟩
    obtain ⟨A,rfl,hA⟩:=Jo g br hm hv
    rcases hA with ⟨rfl,rfl⟩ | ⟨r,bQ,clock,rfl,h3,h4⟩
    ·obtain ⟨V,h5,h6,h7⟩:=fin [] ⟨rfl,fun i x e h=>by simp at h⟩
     refine ⟨_,_,rfl,?_,out V h6 h7⟩
     simp only [Instr.lookup,Sem.run_bind,run_underlying hu,Result.andThen_ok,Sem.run_pure,K.check Z w x v _ HP nE]
     rcases h5 with ⟨j,h8,h9⟩ | ⟨h8,h9,mq⟩
     ·simp [h8,h9]
     ·simp [h8,h9,mq]
    ·obtain ⟨V,h5,h6,h7⟩:=fin bQ.toList h4
     refine ⟨_,_,rfl,?_,out V h6 h7⟩
     simp only [Instr.lookup,Sem.run_bind,run_underlying hu,Result.andThen_ok,Sem.run_pure,MapKept.run_getObj_map h3,K.check Z w x v _ HP nE]
     rcases h5 with ⟨j,h8,h9⟩ | ⟨h8,h9,mq⟩
     ·simp [h8,h9]
     ·simp [h8,h9,mq]
   ·cases he
  ·cases he
 ·cases he
end Go.Vs
namespace Go.Vs
variable {P:Program} {Z Z':Nat→Prop} {ψ ψ':Nat→Value} {h h':Hp} {w w':World} {B0:Nat} {O:Nat→Prop} {N:Nat→Prop}
theorem uW{r b:Nat}(o:Obj)(bj:r≠b):(w.heap.setIfInBounds r o)[b]? = w.heap[b]? := by rw [Array.getElem?_setIfInBounds];simp [bj]
theorem cQ.aa7{r:Nat}(ho:Own ψ h r)(o:Obj):cQ ψ h w { w with heap:=w.heap.setIfInBounds r o } :=
 ⟨rfl,rfl,rfl,by simp,fun b _ hb=>uW o (fun e=>hb (e▸ho))⟩
theorem qE{hp:Hp}(g:Good Z ψ hp w B0 O){id:Nat}(bO:hp id≠none){r:Nat}(hr:ob (ψ id)=some r)(aH:r<w.heap.size)(o:Obj){ok:OK}{x:ok.T}
  (hx:∀w':World,w'.heap=w.heap.setIfInBounds r o→cg Z w w'→jc Z w' ok (ψ id) x) :
  Next Z ψ hp w B0 O N Z ψ (dG hp id (some (.own ok x))) { w with heap:=w.heap.setIfInBounds r o }:=by
 have ho:Own ψ hp r:=⟨id,bO,hr⟩
 have kk:=cQ.aa7 (w:=w) ho o
 refine g.write id bO kk (fun b hb _=>uW o (fun e=>hb (by rw [hr,e]))) _ (fun _ _ he=>by cases he) (fun Vz x' he => ?_)
 cases he
 exact hx _ rfl (kk.same g)
theorem wq{l:List MapEntry}{i:Nat}{f:MapEntry→MapEntry}(hf:∀e,(f e).born=e.born):(l.modify i f).map (·.born)=l.map (·.born):=by
 apply List.ext_getElem?
 intro j
 simp only [List.getElem?_map,List.getElem?_modify]
 cases l[j]? with
 | none=>rfl
 | some e=>simp only [Option.map_some];split<;>simp [hf]
theorem uX{l:List MapEntry}:l.Pairwise (fun a b=>a.born≠b.born)↔(l.map (·.born)).Pairwise (·≠·):=by rw [List.pairwise_map]
theorem tB{Eqs:TypeId→Option K}(Bk:∀t k,Eqs t=some k→kX P t k){hh:Heap}(g:Good Z ψ hh.get w B0 O){t:TypeId}{m i v:AV}{u1 u2 u3:Value}{e:bE}
  (hm:av Z ψ hh.get w m u1) (hi:av Z ψ hh.get w i u2) (hv:av Z ψ hh.get w v u3) (he:hZ P Eqs hh t m i v some=some e) :
  ∃hw w' Z',e=.wr (.mH []) hw∧(Instr.mapUpdate t u1 u2 u3).run P w=.ok () w'∧Next Z ψ hh.get w B0 O N Z' ψ hw.get w':=by
 unfold hZ at he
 split at he
 ·rename_i ka va id VB
  split at he
  ·rename_i kk vk es hg
   split at he
   ·rename_i hc
    obtain ⟨rfl,rfl⟩:=hc
    split at he
    ·rename_i x y hx hy pJ
     cases he
     obtain ⟨a,b,hu,hk,_⟩:=sB VB
     have K:=uV Bk hk
     obtain ⟨HP,nE⟩:=HO g (fun _ _ h=>h) K.flat hx hi
     simp only [av] at hm
     have TK:=hm.2 (by rw [hg];simp)
     obtain ⟨r,bQ,clock,h1,h2,h3,h4,h5⟩:=g.row id (.map kk vk) es hg
     rw [h1] at TK
     subst TK
     have bO:AV.bF id∉v.cells:=fun hc=>by
      have:=List.all_eq_true.1 pJ _ hc
      simp at this
     have gd:=gW g v.cells
     have hgd:(cw hh v.cells).get id=some (.own (.map kk vk) es):=by rw [nL _ _ _ bO];exact hg
     obtain ⟨tz,wh,hv3⟩:=sy (Z':=o4 Z ψ hh.get v.cells) g (fun b hb=>.inl hb) (fun id b h1 h2 h3=>.inr ⟨id,h1,h2,h3⟩) hy hv
     have Wl:aE (o4 Z ψ hh.get v.cells) w kk x u2.cells.toList:=HP.flat K.flat
     have aH:=(Array.getElem?_eq_some_iff.1 h2).1
     have jm:ob (ψ id)=some r:=by rw [h1];rfl
     have hE:jN (o4 Z ψ hh.get v.cells) w kk vk es bQ.toList:=jN.mono h3 (fun b hb=>.inl hb) (cg.refl _ _)
     have hf:=K.find Z w x u2 bQ.toList (es.map (·.1)) HP nE (jN.keys h3)
     rw [yJ] at hf
     have fin:∀(o:Obj) (MO:List (kk.T×vk.T)) (lQ:Array MapEntry) (yL:Nat),o=.map lQ yL→jN (o4 Z ψ hh.get v.cells) w kk vk MO lQ.toList→(lQ.toList.map (·.born)).Pairwise (·≠·)→(∀e∈lQ.toList,e.born<yL) →
       Next Z ψ hh.get w B0 O N (o4 Z ψ hh.get v.cells) ψ ((cw hh v.cells).set id (.own (.map kk vk) MO)).get { w with heap:=w.heap.setIfInBounds r o }:=by
      rintro o MO lQ yL rfl h6 h7 h8
      rw [lO]
      have n:=qE (N:=N) gd (by rw [hgd];simp) jm aH (.map lQ yL) (ok:=.map kk vk) (x:=MO) (fun w' HQ sm=>⟨r,lQ,yL,h1,by rw [HQ];simp [aH],jN.mono h6 (fun _ h=>h) sm,uX.2 h7,h8⟩)
      exact n.drop (fun b hb=>.inl hb) (fun b hb=>hb.imp (fun h=>h) (fun ⟨i,_,h5,h6⟩=>⟨i,h5,h6⟩)) (dK _ _)
     cases Ca:r9 kk x es with
     | none =>
      rw [Ca] at hf
      refine ⟨_,{ w with heap:=w.heap.setIfInBounds r (.map (bQ.push { key:=u2,val:=u3,born:=clock }) (clock+1)) },o4 Z ψ hh.get v.cells,rfl,?_,?_⟩
      rotate_left
      ·rw [show lJ kk x y es=es++[(x,y)] by simp [lJ,Ca]]
       refine fin _ _ (bQ.push { key:=u2,val:=u3,born:=clock }) (clock+1) rfl ?_ ?_ ?_
       ·rw [Array.toList_push]
        exact hE.push ⟨⟨Wl,nE⟩,tz,wh,hv3⟩
       ·rw [Array.toList_push,List.map_append,List.pairwise_append]
        refine ⟨uX.1 h4,by simp,fun a ha b hb => ?_⟩
        simp only [List.map_cons,List.map_nil,List.mem_singleton] at hb
        obtain ⟨e,he,rfl⟩:=List.mem_map.1 ha
        have:=h5 e he
        omega
       ·intro e he
        rw [Array.toList_push] at he
        rcases List.mem_append.1 he with he | he
        ·have:=h5 e he;omega
        ·simp only [List.mem_singleton] at he;subst he;exact Nat.lt_succ_self _
      ·simp only [Instr.mapUpdate,Sem.run_bind,run_underlying hu,Result.andThen_ok,MapKept.run_getObj_map h2,K.check Z w x u2 _ HP nE,hf,Option.map_none,MapKept.run_setObj_map _ h2]
     | some j =>
      rw [Ca] at hf
      have hj:=Dm Ca
      obtain ⟨e0,So,heq⟩:=QF Ca
      have Hm:j<bQ.toList.length:=by rw [←h3.1];exact hj
      have hl:bQ.toList[j]? = some bQ.toList[j]:=List.getElem?_eq_getElem Hm
      have Qd:bQ[j]? = some bQ.toList[j]:=by rw [←hl];simp
      obtain ⟨⟨Wm,aa8⟩,_⟩:=h3.2 j _ _ So hl
      have ru:bQ.toList[j].key=u2:=by
       refine KC aa8 nE ?_
       rw [←(xt kk x e0.1 K.flat).1 heq] at Wm
       exact nP K.flat Wm HP
      have Sp:(Instr.keyThatStays u2 u2).run P w=.ok u2 w:=by simp [Instr.keyThatStays,ML K.flat HP nE]
      refine ⟨_,{ w with heap:=w.heap.setIfInBounds r (.map (bQ.modify j fun e=>{ e with key:=u2,val:=u3 }) clock) },o4 Z ψ hh.get v.cells,rfl,?_,?_⟩
      rotate_left
      ·rw [show lJ kk x y es=es.set j (x,y) by simp [lJ,Ca]]
       refine fin _ _ (bQ.modify j fun e=>{ e with key:=u2,val:=u3 }) clock rfl ?_ ?_ ?_
       ·rw [Array.toList_modify]
        exact hE.set j (fun e he=>⟨⟨Wl,nE⟩,tz,wh,hv3⟩)
       ·rw [Array.toList_modify,wq (f:=fun e:MapEntry=>{ e with key:=u2,val:=u3 }) (fun _=>rfl)];exact uX.1 h4
       ·intro e he
        have:e.born∈(bQ.modify j fun e=>{ e with key:=u2,val:=u3 }).toList.map (·.born):=List.mem_map.2 ⟨e,he,rfl⟩
        rw [Array.toList_modify,wq (f:=fun e:MapEntry=>{ e with key:=u2,val:=u3 }) (fun _=>rfl)] at this
        obtain ⟨e',TD,h6⟩:=List.mem_map.1 this
        rw [←h6];exact h5 e' TD
      ·simp only [Instr.mapUpdate,Sem.run_bind,run_underlying hu,Result.andThen_ok,MapKept.run_getObj_map h2,K.check Z w x u2 _ HP nE,hf,Option.map_some,Qd,Option.getD_some,ru,Sp,MapKept.run_setObj_map _ h2]
    ·cases he
   ·cases he
  ·cases he
 ·cases he
theorem tC{Eqs:TypeId→Option K}(Bk:∀t k,Eqs t=some k→kX P t k){hh:Heap}(g:Good Z ψ hh.get w B0 O){t ty:TypeId}{ts:List TypeId}{m i:AV}{u1 u2:Value}{e:bE}
  (hm:av Z ψ hh.get w m u1) (hi:av Z ψ hh.get w i u2) (he:mN P Eqs hh t m i some=some e) :
  ∃hw w',e=.wr (.mH []) hw∧(Builtin.delete_ (t::ts).toArray ty #[u1,u2]).run P w=.ok (.tuple #[]) w'∧Next Z ψ hh.get w B0 O N Z ψ hw.get w':=by
 unfold mN at he
 split at he
 ·rename_i ka va id VB
  split at he
  ·rename_i kk vk es hg
   split at he
   ·rename_i hc
    obtain ⟨rfl,rfl⟩:=hc
    split at he
    ·rename_i x hx
     cases he
     obtain ⟨a,b,hu,hk,_⟩:=sB VB
     have K:=uV Bk hk
     obtain ⟨HP,nE⟩:=HO g (fun _ _ h=>h) K.flat hx hi
     simp only [av] at hm
     have TK:=hm.2 (by rw [hg];simp)
     obtain ⟨r,bQ,clock,h1,h2,h3,h4,h5⟩:=g.row id (.map kk vk) es hg
     rw [h1] at TK
     subst TK
     have aH:=(Array.getElem?_eq_some_iff.1 h2).1
     have jm:ob (ψ id)=some r:=by rw [h1];rfl
     have hf:=K.find Z w x u2 bQ.toList (es.map (·.1)) HP nE (jN.keys h3)
     rw [yJ] at hf
     have fin:∀(o:Obj) (MO:List (kk.T×vk.T)) (lQ:Array MapEntry),o=.map lQ clock→jN Z w kk vk MO lQ.toList→lQ.toList.Sublist bQ.toList →
       Next Z ψ hh.get w B0 O N Z ψ (hh.set id (.own (.map kk vk) MO)).get { w with heap:=w.heap.setIfInBounds r o }:=by
      rintro o MO lQ rfl h6 h7
      rw [lO]
      exact qE (N:=N) g (by rw [hg];simp) jm aH (.map lQ clock) (ok:=.map kk vk) (x:=MO) (fun w' HQ sm=>⟨r,lQ,clock,h1,by rw [HQ];simp [aH],jN.mono h6 (fun _ h=>h) sm,h4.sublist h7,fun e he=>h5 e (h7.subset he)⟩)
     cases Ca:r9 kk x es with
     | none =>
      rw [Ca] at hf
      refine ⟨_,{ w with heap:=w.heap.setIfInBounds r (.map bQ clock) },rfl,?_,?_⟩
      rotate_left
      ·rw [show Mq kk x es=es by simp [Mq,Ca]]
       exact fin _ _ bQ rfl h3 (List.Sublist.refl _)
      ·simp [Builtin.delete_,run_underlying hu,MapKept.run_getObj_map h2,K.check Z w x u2 _ HP nE,hf,MapKept.run_setObj_map _ h2]
     | some j =>
      rw [Ca] at hf
      have hj:=Dm Ca
      refine ⟨_,{ w with heap:=w.heap.setIfInBounds r (.map (bQ.eraseIdxIfInBounds j) clock) },rfl,?_,?_⟩
      rotate_left
      ·rw [show Mq kk x es=es.eraseIdx j by simp [Mq,Ca]]
       refine fin _ _ (bQ.eraseIdxIfInBounds j) rfl ?_ ?_
       ·rw [Array.toList_eraseIdxIfInBounds];exact jN.erase h3 j
       ·rw [Array.toList_eraseIdxIfInBounds];exact List.eraseIdx_sublist _ _
      ·simp [Builtin.delete_,run_underlying hu,MapKept.run_getObj_map h2,K.check Z w x u2 _ HP nE,hf,MapKept.run_setObj_map _ h2]
    ·cases he
   ·cases he
  ·cases he
 ·cases he
theorem HR{hh:Heap}(g:Good Z ψ h w B0 O)(br:∀id o,hh.get id=some o→h id=some o){t ty:TypeId}{x:AV}{u:Value}{e:bE}(ht:Hy P t=true)(hx:av Z ψ h w x u)(he:uN hh x some=some e) :
  ∃n:Nat,e=.val (.int .i64 (n:Int))∧(Builtin.len_ #[t] ty #[u]).run P w=.ok (.int .i64 (n:Int)) w:=by
 unfold uN at he
 split at he
 ·rename_i kk vk es hv
  cases he
  have hu:∃a b,P.underlying t=some (.map a b):=by
   unfold Hy at ht
   split at ht
   ·exact ⟨_,_,by assumption⟩
   ·cases ht
  obtain ⟨a,b,hu⟩:=hu
  obtain ⟨A,rfl,hA⟩:=Jo g br hx hv
  rcases hA with ⟨rfl,rfl⟩ | ⟨r,bQ,clock,rfl,h3,h4⟩
  ·exact ⟨0,rfl,by simp [Builtin.len_,run_underlying hu,goInt]⟩
  ·refine ⟨es.length,rfl,?_⟩
   have:bQ.size=es.length:=by rw [h4.1];simp
   simp [Builtin.len_,run_underlying hu,MapKept.run_getObj_map h3,goInt,this]
 ·cases he
theorem yM(g:Good Z ψ h w B0 O)(hB:B0≤w.heap.size)(id:Nat)(hN:N id){ok:OK}{x:ok.T}{v:Value}(o:Obj)(ho:jc Z (w.alloc o) ok v x)(hb:ob v=some w.heap.size)
  (bg:∀i ty cs,h i=some (.box ty cs)→aA (fun i=>i≠id) cs):Next Z ψ h w B0 O N Z (dG ψ id v) (dG h id (some (.own ok x))) (w.alloc o) :=
 EK g hB id hN (cQ.alloc _ _ _ _) (fun b hb=>heap_alloc_old w _ (g.bL hb)) ho (fun b yN=>by rw [hb] at yN;cases yN;exact Nat.le_refl _) bg
theorem Bw{Eqs:TypeId→Option K}(g:Good Z ψ h w B0 O)(hB:B0≤w.heap.size){id:Nat}(hN:N id){t:TypeId}{e:bE}(bg:∀i ty cs,h i=some (.box ty cs)→aA (fun i=>i≠id) cs)(he:kG P Eqs id t some=some e) :
  ∃v w' ψ',(Instr.makeMap t none).run P w=.ok v w'∧Next Z ψ h w B0 O N Z ψ' (e.hp h) w'∧av Z ψ' (e.hp h) w' e.v v:=by
 unfold kG at he
 split at he
 ·rename_i kk vk VB
  cases he
  refine ⟨.map (some w.heap.size),w.alloc (.map #[] 0),dG ψ id (.map (some w.heap.size)),rfl,?_,?_⟩
  ·simp only [bE.hp];rw [gX]
   exact yM g hB id hN (ok:=.map kk vk) (x:=[]) _ ⟨w.heap.size,#[],0,rfl,heap_alloc_new _ _,⟨rfl,fun i x e h=>by simp at h⟩,by simp,by simp⟩ rfl bg
  ·simp only [bE.v,bE.hp,av]
   exact ⟨⟨rfl,rfl⟩,fun _=>(ba _ _ _).symm⟩
 ·cases he
theorem Dp(g:Good Z ψ h w B0 O)(hB:B0≤w.heap.size){id:Nat}(hN:N id){t:TypeId}{x:AV}{u:Value}{e:bE}(hx:av Z ψ h w x u)(bg:∀i ty cs,h i=some (.box ty cs)→aA (fun i=>i≠id) cs)(he:mO P id t x some=some e) :
  ∃v w' ψ',(Instr.range t u).run P w=.ok v w'∧Next Z ψ h w B0 O N Z ψ' (e.hp h) w'∧av Z ψ' (e.hp h) w' e.v v:=by
 unfold mO at he
 split at he
 ·rename_i sv hu
  cases he
  simp only [av] at hx
  subst hx
  refine ⟨.pointer (some ⟨w.heap.size,0,none⟩),w.alloc (.stringIter sv 0),dG ψ id (.pointer (some ⟨w.heap.size,0,none⟩)),?_,?_,?_⟩
  ·simp only [Instr.range,Sem.run_bind,run_underlying hu,Result.andThen_ok,Sem.run_pure];rfl
  ·simp only [bE.hp];rw [gX]
   exact yM g hB id hN (ok:=.mK) (x:=(sv,0)) _ ⟨w.heap.size,rfl,heap_alloc_new _ _⟩ rfl bg
  ·simp only [bE.v,bE.hp,av]
   exact ⟨⟨rfl,rfl⟩,fun _=>(ba _ _ _).symm⟩
 ·cases he
theorem fF{r:Nat}{o:Obj}(hb:w.heap[r]? = some o)(hc:∀c e f,o≠.cells c e f):(getObj r).run P w=.ok o w:=by
 cases o<;>first | (exact absurd rfl (hc _ _ _)) | simp [getObj,Sem.run,hb]
theorem yO{r:Nat}{o o':Obj}(hb:w.heap[r]? = some o)(hc:∀c e f,o≠.cells c e f):(setObj r o').run P w=.ok () { w with heap:=w.heap.setIfInBounds r o' }:=by
 cases o<;>first | (exact absurd rfl (hc _ _ _)) | simp [setObj,Sem.run,hb]
theorem EX{hh:Heap}(g:Good Z ψ h w B0 O)(br:∀id o,hh.get id=some o→h id=some o){ty:TypeId}{x:AV}{u:Value}{e:bE}(hx:av Z ψ h w x u)(lP:∀v hw,e=.wr v hw→hh.get=h)(he:qt hh x some=some e) :
  ∃v w',(Instr.next u true ty).run P w=.ok v w'∧Next Z ψ h w B0 O N Z ψ (e.hp h) w'∧av Z ψ (e.hp h) w' e.v v:=by
 unfold qt at he
 split at he
 ·rename_i id
  split at he
  ·rename_i x hg
   have uI:=br _ _ hg
   simp only [av] at hx
   have hu:=hx.2 (by rw [uI];simp)
   obtain ⟨r,h1,h2⟩:=g.row id .mK x uI
   rw [h1] at hu
   subst hu
   cases hc:decide (x.2<x.1.size) with
   | true =>
    rw [hc] at he;cases he
    have heq:=lP _ _ rfl
    simp only [decide_eq_true_eq] at hc
    have aH:=(Array.getElem?_eq_some_iff.1 h2).1
    refine ⟨.tuple #[.bool true,goInt x.2,.int .i32 (Utf8.decode x.1 x.2).1],{ w with heap:=w.heap.setIfInBounds r (.stringIter x.1 (x.2+(Utf8.decode x.1 x.2).2)) },?_,?_,?_⟩
    ·simp only [Instr.next,Sem.run_bind,fF h2 (by simp),Result.andThen_ok,hc,if_true,yO h2 (by simp),Sem.run_pure]
    ·simp only [bE.hp]
     rw [lO,heq]
     exact qE (N:=N) g (by rw [uI];simp) (by rw [h1];rfl) aH _ (ok:=.mK) (x:=(x.1,x.2+yj x.1 x.2)) (fun w' HQ _=>⟨r,h1,by rw [HQ];simp [aH,yj]⟩)
    ·simp only [bE.v,av,an]
     exact ⟨_,rfl,_,_,rfl,rfl,_,_,rfl,rfl,_,_,rfl,rfl,rfl⟩
   | false =>
    rw [hc] at he;cases he
    simp only [decide_eq_false_iff_not] at hc
    refine ⟨.tuple #[.bool false],w,?_,Next.refl g,?_⟩
    ·simp only [Instr.next,Sem.run_bind,fF h2 (by simp),Result.andThen_ok,hc,if_false,Sem.run_pure]
    ·simp only [bE.v,av,an]
     exact ⟨_,rfl,_,_,rfl,rfl,rfl⟩
  ·cases he
 ·cases he
theorem find_born{l:List MapEntry}(h:l.Pairwise (fun a b=>a.born≠b.born)){e:MapEntry}(he:e∈l):l.find? (fun x=>x.born==e.born)=some e:=by
 induction l with
 | nil=>cases he
 | cons a r ih =>
  obtain ⟨h1,h2⟩:=List.pairwise_cons.1 h
  rw [List.find?_cons]
  rcases List.mem_cons.1 he with rfl | he
  ·simp
  ·have:(a.born==e.born)=false:=by simpa using h1 e he
   rw [this];exact ih h2 he
theorem EY{hh:Heap}(g:Good Z ψ h w B0 O)(br:∀id o,hh.get id=some o→h id=some o){x:AV}{u:Value}{e:bE}(hx:av Z ψ h w x u)(he:qu hh x some=some e) :
  ∃y v,e=.val y∧(Instr.entry u).run P w=.ok v w∧av Z ψ h w y v:=by
 unfold qu at he
 split at he
 ·rename_i id
  split at he
  ·rename_i kk vk c rest hg
   cases he
   have uI:=br _ _ hg
   simp only [av] at hx
   have hu:=hx.2 (by rw [uI];simp)
   obtain ⟨r,m,since,seen,bQ,clock,h1,h2,h3,h4,h5,h6,h7,h8,h9⟩:=g.row id (.iter kk vk) (some c,rest) uI
   rw [h1] at hu
   subst hu
   obtain ⟨en,mq,w7,Ho⟩:=h9
   obtain ⟨⟨k1,k2,k3⟩,v1,v2,v3⟩:=Ho.2 0 c en rfl rfl
   refine ⟨_,.tuple #[en.key,en.val],rfl,?_,?_⟩
   ·have hf:bQ.find? (·.born==en.born)=some en:=by
     have:=find_born h5 mq
     rwa [←Array.find?_toList]
    simp only [Instr.entry,Sem.run_bind,fF h2 (by simp),Result.andThen_ok,w7,Sem.run_pure,fF h4 (by simp),hf]
    simp
   ·simp only [av,an]
    exact ⟨_,rfl,_,_,rfl,kW k1 k2 k3,_,_,rfl,kW v1 v2 v3,rfl⟩
  ·cases he
 ·cases he
end Go.Vs
namespace Go.Vs
variable {P:Program} {Z Z':Nat→Prop} {ψ ψ':Nat→Value} {h h':Hp} {w w':World} {B0:Nat} {O:Nat→Prop} {N:Nat→Prop}
mutual
theorem aG.imp{p q:Nat→Prop}(yP:∀i,p i→q i):∀{a:AV},aG p a→aG q a
 | .no,_=>by simp only [aG]
 | .bool b,_=>by simp only [aG]
 | .int k n,_=>by simp only [aG]
 | .str s,_=>by simp only [aG]
 | .kR,_=>by simp only [aG]
 | .fz,_=>by simp only [aG]
 | .ref id s i off,h=>by simp only [aG] at h ⊢;exact yP _ h
 | .fp k x off,_=>by simp only [aG]
 | .sl ex k xs,_=>by simp only [aG]
 | .mp kk vk es,_=>by simp only [aG]
 | .bF id,h=>by simp only [aG] at h ⊢;exact yP _ h
 | .fn f cap,h=>by simp only [aG] at h ⊢;exact aA.imp yP h
 | .agg cs,h=>by simp only [aG] at h ⊢;exact aA.imp yP h
 | .mH cs,h=>by simp only [aG] at h ⊢;exact aA.imp yP h
theorem aA.imp{p q:Nat→Prop}(yP:∀i,p i→q i):∀{a:List AV},aA p a→aA q a
 | [],_=>by simp only [aA]
 | a::r,h=>by simp only [aA] at h ⊢;exact ⟨aG.imp yP h.1,aA.imp yP h.2⟩
end
theorem aG.cells{p:Nat→Prop}{a:AV}(h:aG p a):aA p a.cells:=by
 cases a with
 | agg cs=>simpa only [AV.cells,aG] using h
 | _=>simp only [AV.cells,aA];exact ⟨h,trivial⟩
theorem yQ:∀{cs:List AV},EF cs=true→∀id,AV.bF id∉cs
 | [],_,id=>by simp
 | c::r,hn,id=>by
  intro hm
  cases c with
  | bF i=>simp [EF] at hn
  | _ =>
   simp only [EF] at hn
   rcases List.mem_cons.1 hm with e | hm
   ·cases e
   ·exact yQ hn id hm
theorem pM:∀{vs:List AV},o9 vs=true→∀v∈vs,∀id,AV.bF id∉v.cells
 | [],_,v,hv=>by simp at hv
 | a::r,hn,v,hv=>by
  simp only [o9,Bool.and_eq_true] at hn
  rcases List.mem_cons.1 hv with rfl | hv
  ·exact yQ hn.1
  ·exact pM hn.2 v hv
def tD(o:Oper):Bool :=
 match o.op with
 | .call { callee:=.value _,.. }=>true
 | _=>false
theorem HS{s:List (Nat×AV)}{ρC:Operand→Value}{x:Option Operand}(hx:∀y,x=some y→av Z ψ h w (ρ s y) (ρC y)):dH Z ψ h w (x.map (ρ s)) (x.map ρC):=by
 cases x with
 | none=>trivial
 | some y=>exact hx y rfl
theorem yR{s:List (Nat×AV)}{ρC:Operand→Value}:∀(ps:List (Nat×Operand)),(∀p∈ps,av Z ψ h w (ρ s p.2) (ρC p.2))→(∀p∈ps,ρ s p.2≠.no)→rB Z ψ h w (ps.map fun p=>(p.1,ρ s p.2)) (ps.map fun p=>(p.1,ρC p.2))
 | [],_,_=>trivial
 | p::r,h1,h2=>⟨rfl,h2 p (by simp),h1 p (by simp),yR r (fun q hq=>h1 q (List.mem_cons_of_mem _ hq)) (fun q hq=>h2 q (List.mem_cons_of_mem _ hq))⟩
theorem Cb{k:K}{hh:Heap}:∀{ps:List (Nat×AV)} {i:Nat} {xs:List k.T},pn k hh i ps=some xs→∀p∈ps,p.2≠.no
 | [],_,_,_,p,hp=>by simp at hp
 | (j,v)::r,i,xs,hl,p,hp=>by
  simp only [pn] at hl
  split at hl
  ·split at hl
   ·rename_i x ys h1 h2
    rcases List.mem_cons.1 hp with rfl | hp
    ·exact B7 h1
    ·exact Cb h2 p hp
   ·cases hl
  ·cases hl
theorem TL{α:Type}{l:List α}(h:l.length=0+1+1):∃x y,l=[x,y]:=by
 cases l with
 | nil=>simp at h
 | cons a r=>cases r with
  | nil=>simp at h
  | cons b s=>cases s with
   | nil=>exact ⟨a,b,rfl⟩
   | cons c q=>simp at h
theorem HT{a:AV}(h:Sh a=true):a≠.no:=by rintro rfl;cases h
section
variable {Eqs:TypeId→Option K} {Sg:FuncId→Option aJ} {F:(f:FuncId)→(g:aJ)→g.A→Option g.B}
theorem Dq{hh:Heap}{ρC:Operand→Value}{o:Oper}(g:Good Z ψ h w B0 O)(hB:B0≤w.heap.size)(br:∀id o,hh.get id=some o→h id=some o){id:Nat}(hN:N id){t:TypeId}{s x:AV}{u v:Value}{e:bE}
  (hs:av Z ψ h w s u) (hx:av Z ψ h w x v) (Dt:aG (fun i=>¬N i) s) (bg:∀i ty cs,h i=some (.box ty cs)→aA (fun i=>¬N i) cs) (lP:∀v hw,e=.wr v hw→hh.get=h) (he:mL P hh id t s x some=some e)
  (c9:∀V w',(Builtin.append_ #[t,t] o.type #[u,v]).run P w=.ok V w'→(execOp ρC o).run P w=.ok (.value V) w'):gq P ρC o Z ψ h w B0 O N e:=by
 have Qe:∀i ty cs,h i=some (.box ty cs)→aA (fun i=>i≠id) cs:=fun i ty cs hb=>(bg i ty cs hb).imp (fun j hj e=>hj (by rw [e];exact hN))
 unfold mL at he
 split at he
 ·cases he
 ·rename_i et het
  have ht:=mv het
  split at he
  ·cases he
  ·rename_i kk QG
   split at he
   ·rename_i ys Bx lG
    obtain ⟨inf,z,Hk⟩:=cq lG
    split at he
    ·
     cases hc:aM 0 ys.length with
     | false=>rw [hc] at he;cases he
     | true =>
      rw [hc] at he;cases he
      simp only [aM,decide_eq_true_eq] at hc
      simp only [av] at hs
      subst hs
      obtain ⟨V,w',h1,h2,h3⟩:=oK (P:=P) (ty:=o.type) g br hB hN ht Hk Bx hx (by omega) Qe
      refine ⟨V,w',Z,_,.inl (c9 V w' h1),by simp only [bE.hp];rw [gX];exact h2,?_⟩
      simp only [bE.v,bE.hp,av]
      exact ⟨h3,fun _=>(ba _ _ _).symm⟩
    ·
     rename_i cE
     split at he
     ·rename_i e' k' xs hg
      split at he
      ·rename_i hc
       obtain ⟨rfl,rfl⟩:=hc
       cases tc:aM xs.length ys.length with
       | false=>rw [tc] at he;cases he
       | true =>
        rw [tc] at he;cases he
        simp only [aM,decide_eq_true_eq] at tc
        have heq:=lP _ _ rfl
        have uI:=br _ _ hg
        simp only [av] at hs
        have hu:=hs.2 (by rw [uI];simp)
        subst hu
        simp only [aG] at Dt
        obtain ⟨V,w',h1,h2,h3⟩:=w8 (P:=P) (ty:=o.type) g br hB hN (fun e=>Dt (by rw [e];exact hN)) ht Hk uI Bx hx tc Qe
        refine ⟨V,w',Z,_,.inl (c9 V w' h1),by simp only [bE.hp];rw [lO,tw,heq];exact h2,?_⟩
        simp only [bE.v,bE.hp,av]
        exact ⟨h3,fun _=>(ba _ _ _).symm⟩
      ·cases he
     ·cases he
    ·
     rename_i ex k' xs
     split at he
     ·rename_i hc
      subst hc
      cases tc:(ex&&((!ys.isEmpty || xs.isEmpty)&&aM xs.length ys.length)) with
      | false=>rw [tc] at he;cases he
      | true =>
       rw [tc] at he;cases he
       simp only [Bool.and_eq_true,Bool.or_eq_true,aM,decide_eq_true_eq,Bool.not_eq_true',List.isEmpty_eq_false_iff,List.isEmpty_iff] at tc
       obtain ⟨rfl,bj,QH⟩:=tc
       obtain ⟨V,w',h1,h2,h3⟩:=yD (P:=P) (ty:=o.type) g br hB hN ht Hk hs Bx hx (bj.imp List.length_pos_iff.2 (fun h=>h)) QH Qe
       refine ⟨V,w',Z,_,.inl (c9 V w' h1),by simp only [bE.hp];rw [gX];exact h2,?_⟩
       simp only [bE.v,bE.hp,av]
       exact ⟨h3,fun _=>(ba _ _ _).symm⟩
     ·cases he
    ·cases he
   ·cases he
theorem yS{ρC:Operand→Value}{o:Oper}(g:Good Z ψ h w B0 O)(hB:B0≤w.heap.size){id:Nat}(hN:N id){t:TypeId}{vs:List AV}{us:Array Value}{e:bE}(hr:an Z ψ h w vs us.toList)(h1:∀u∈us.toList,u.oneCell'=true)
  (hm:aA (fun i=>¬N i) vs) (bg:∀i ty cs,h i=some (.box ty cs)→aA (fun i=>¬N i) cs) (he:uQ id t vs some=some e)
  (c9:(execOp ρC o).run P w=.ok (.value (.pointer (some ⟨w.heap.size,0,none⟩))) (w.alloc (.cells us t))):gq P ρC o Z ψ h w B0 O N e:=by
 unfold uQ at he
 cases he
 have bj:∀i,¬N i→i≠id:=fun j hj e=>hj (by rw [e];exact hN)
 have n:=yx (N:=N) g hB id t hN hr h1 (fun i ty cs hb=>(bg i ty cs hb).imp bj) (hm.imp bj)
 refine ⟨_,_,Z,_,.inl c9,by simp only [bE.hp];rw [gX];exact n,?_⟩
 simp only [bE.v,bE.hp,av]
 exact ⟨_,rfl,fun _=>by rw [ba];simp [Qy]⟩
theorem KD{hh:Heap}{ρC:Operand→Value}{s:List (Nat×AV)}{o:Oper}(g:Good Z ψ h w B0 O)(hB:B0≤w.heap.size)(br:∀id o,hh.get id=some o→h id=some o){id:Nat}(hN:N id){t:TypeId}{n:Nat}{ps:Array (Nat×Operand)}{e:bE}
  (mI:∀p∈ps.toList,av Z ψ h w (ρ s p.2) (ρC p.2)) (bg:∀i ty cs,h i=some (.box ty cs)→aA (fun i=>¬N i) cs) (kb:Bool) {e0:bE} (QI:e=if kb then Qx e0 else e0) (lP:∀v hw,e=.wr v hw→hh.get=h) (he:tf P hh id t n (ps.toList.map fun p=>(p.1,ρ s p.2)) some=some e0)
  (c9:∀V w',(Instr.buildSlice t n (ps.map fun p=>(p.1,ρC p.2))).run P w=.ok V w'→(execOp ρC o).run P w=.ok (.value V) w'):gq P ρC o Z ψ h w B0 O N e:=by
 have Qe:∀i ty cs,h i=some (.box ty cs)→aA (fun i=>i≠id) cs:=fun i ty cs hb=>(bg i ty cs hb).imp (fun j hj e=>hj (by rw [e];exact hN))
 unfold tf at he
 split at he
 ·cases he
 ·rename_i et het
  have ht:=mv het
  split at he
  ·cases he
  ·rename_i k hk
   split at he
   ·cases he
   ·cases he
   ·rename_i xs mR lG
    obtain ⟨inf,z,Hk⟩:=cq lG
    have HU:=yR (Z:=Z) (ψ:=ψ) (h:=h) (w:=w) ps.toList mI (fun p hp=>Cb mR (p.1,ρ s p.2) (List.mem_map.2 ⟨p,hp,rfl⟩))
    have Jp:rB Z ψ hh.get w (ps.toList.map fun p=>(p.1,ρ s p.2)) (ps.map fun p=>(p.1,ρC p.2)).toList:=by
     rw [Array.toList_map];exact HU.oT br
    split at he
    ·rename_i hc
     obtain ⟨rfl,hn⟩:=hc
     cases pJ:o9 ((ps.toList.map fun p=>(p.1,ρ s p.2)).map (·.2)) with
     | true =>
      rw [pJ] at he;cases he
      have aa9:=pM pJ
      obtain ⟨V,w',h1,h2,h3⟩:=EP (P:=P) (N:=N) g (g.sub br) (fun _ h=>h) hB hN ht Hk (fun p hp i b hm=>absurd hm (aa9 p.2 (List.mem_map.2 ⟨p,hp,rfl⟩) i)) Jp mR hn Qe
      cases kb with
      | false =>
       have QI:e=.new (.bF id) [(id,.own (.row et k) xs)]:=QI
       subst QI
       refine ⟨V,w',Z,_,.inl (c9 V w' h1),by simp only [bE.hp];rw [gX];exact h2,?_⟩
       simp only [bE.v,bE.hp,av]
       exact ⟨h3.1,fun _=>(ba _ _ _).symm⟩
      | true =>
       have QI:e=.new (.sl true k xs) []:=QI
       subst QI
       obtain ⟨m1,m2⟩:=MF g hB h2 h3.2.1 h3.2.2.1 h3.2.2.2
       have e1:(bE.new (.sl true k xs) []).hp h=h:=by funext i;simp [bE.hp,Heap.get]
       refine ⟨V,w',_,_,.inl (c9 V w' h1),by rw [e1];exact m1,?_⟩
       rw [e1];exact m2
     | false =>
      rw [pJ] at he;cases he
      have QI:e=.wr (.bF id) ((id,.own (.row et k) xs)::cw hh ((ps.toList.map fun p=>(p.1,ρ s p.2)).flatMap (·.2.cells))):=by
       rw [QI];cases kb<;>rfl
      subst QI
      have heq:=lP _ _ rfl
      subst heq
      let cs:=(ps.toList.map fun p=>(p.1,ρ s p.2)).flatMap (·.2.cells)
      have gd:=gW g cs
      obtain ⟨V,w',h1,h2,h3⟩:=EP (P:=P) (N:=N) gd g (fun b hb=>.inl hb) hB hN ht Hk (fun p hp i b hm bj hb=>.inr ⟨i,List.mem_flatMap.2 ⟨p,hp,hm⟩,bj,hb⟩) Jp mR hn (fun i ty cs' hb=>Qe i ty cs' (dK _ _ _ _ hb))
      refine ⟨V,w',o4 Z ψ hh.get cs,dG ψ id V,.inl (c9 V w' h1),?_,?_⟩
      ·simp only [bE.hp]
       rw [yH]
       exact h2.drop (fun b hb=>.inl hb) (fun b hb=>hb.imp (fun h=>h) (fun ⟨i,_,h5,h6⟩=>⟨i,h5,h6⟩)) (dK _ _)
      ·simp only [bE.v,bE.hp,av]
       exact ⟨h3.1,fun _=>(ba _ _ _).symm⟩
    ·cases he
theorem KE{kb:Bool}{h:Heap}{id:Nat}{t:TypeId}{n:Nat}{ps:List (Nat×AV)}{e:bE}(he:uR P kb h id t n ps some=some e):∃e0,tf P h id t n ps some=some e0∧e=if kb then Qx e0 else e0:=by
 unfold uR tf at he
 unfold tf
 split at he
 ·cases he
 split at he
 ·cases he
 split at he
 ·cases he
 ·cases he
 split at he
 ·rename_i hc
  rw [if_pos hc]
  cases pJ:o9 (ps.map (·.2)) with
  | true=>rw [pJ] at he;exact ⟨_,rfl,(Option.some.inj he).symm⟩
  | false=>rw [pJ] at he;exact ⟨_,rfl,(Option.some.inj he).symm⟩
 ·cases he
theorem yT(p:Nat→Prop)(v:Value):aG p (uK v):=by
 cases v with
 | pointer a=>simp only [uK];split<;>simp only [aG]
 | slice a n c=>simp only [uK];split<;>simp only [aG]
 | func fn first cap =>
  cases fn with
  | func f=>simp only [uK];split<;>simp only [aG,aA]
  | _=>simp only [uK,aG]
 | _=>simp only [uK,aG]
theorem uY(p:Nat→Prop):∀vs:List Value,aA p (vs.map uK)
 | []=>by simp [aA]
 | v::r=>by simp only [List.map_cons,aA];exact ⟨yT p v,uY p r⟩
theorem KF(p:Nat→Prop)(v:Value):aA p (r8 v).cells:=by
 cases v with
 | agg cs=>simp only [r8,AV.cells];exact uY p _
 | _=>simp only [r8];rw [B6];simp only [aA];exact ⟨yT p _,trivial⟩
theorem MP(Bk:∀t k,Eqs t=some k→kX P t k){hh:Heap}{ρC:Operand→Value}{s:List (Nat×AV)}{o:Oper}(g:Good Z ψ h w B0 O)(hB:B0≤w.heap.size)(br:∀id o,hh.get id=some o→h id=some o){id:Nat}(hN:makes o.op=true→N id){e:bE}
  (mI:∀x∈o.op.operands,av Z ψ h w (ρ s x) (ρC x)) (hm:∀x∈o.op.operands,aG (fun i=>¬N i) (ρ s x)) (bg:∀i ty cs,h i=some (.box ty cs)→aA (fun i=>¬N i) cs) (lP:∀v hw,e=.wr v hw→hh.get=h)
  (Hq:tD o=false) (he:cH P Eqs Sg F id hh s o some=some e):gq P ρC o Z ψ h w B0 O N e:=by
 obtain ⟨dst,op,type,pos,after,guard⟩:=o
 have two:∀{a b:Operand},(∀x∈(#[a,b]:Array Operand),av Z ψ h w (ρ s x) (ρC x))→av Z ψ h w (ρ s a) (ρC a)∧av Z ψ h w (ρ s b) (ρC b):=fun hx=>⟨hx _ (by simp),hx _ (by simp)⟩
 cases op<;>simp only [cH] at he<;>simp only [Op.operands] at mI hm<;>first | (cases he;done) | skip
 case move x=>cases he;exact gq.val g (V:=ρC x) (by simp [execOp]) (mI x (by simp))
 case assign x=>cases he;exact gq.val g (V:=ρC x) (by simp [execOp]) (mI x (by simp))
 case pick c a b =>
  have h1:=mI c (by simp);have h2:=mI a (by simp);have h3:=mI b (by simp)
  split at he
  ·rename_i t ht
   cases he
   rw [ht] at h1
   simp only [av] at h1
   refine gq.val g (V:=if t then ρC a else ρC b) (by simp [execOp,h1,asBool]) ?_
   unfold Sf
   split
   ·rename_i p q hp hq
    rw [hp] at h2;rw [hq] at h3
    simp only [av] at h2 h3 ⊢
    cases t<;>simp [h2,h3]
   ·cases t
    ·exact h3
    ·exact h2
  ·cases he
 case alloc t =>
  split at he
  ·rename_i z hz
   obtain ⟨i,zv,hi,Wg,rfl,h1⟩:=nN hz
   exact yS (us:=zv.cells) g hB (hN rfl) (yF zv) h1 (KF _ zv) bg he (by simp [execOp,Instr.alloc,tv hi Wg,newVar,newRow,newObj,Sem.run])
  ·cases he
 case box t x =>
  have h1:=mI x (by simp)
  split at he
  ·rename_i hp
   have hc:=h1.cells (EU hp)
   exact yS (us:=(ρC x).cells) g hB (hN rfl) hc (sx hp hc) (hm x (by simp)).cells bg he (by simp [execOp,Instr.box,newVar,newRow,newObj,Sem.run])
  ·cases he
 case build t ps =>
  unfold qv at he
  split at he
  ·rename_i z fs hz hf
   split at he
   ·rename_i cs Wn eQ
    cases he
    simp only [Bool.and_eq_true] at eQ
    obtain ⟨eQ,hnn⟩:=eQ
    have Wo:fs.toList.all (fun f=>(P.info? f.type).isSome)=true:=eQ
    have TM:∀p∈ps.toList,av Z ψ h w (ρ s p.2) (ρC p.2):=fun p hp=>mI p.2 (by simp;exact ⟨p.1,by simpa using hp⟩)
    have HU:=yR (Z:=Z) (ψ:=ψ) (h:=h) (w:=w) ps.toList TM (fun p hp=>HT (List.all_eq_true.1 hnn (p.1,ρ s p.2) (List.mem_map.2 ⟨p,hp,rfl⟩)))
    obtain ⟨V,h1,h2⟩:=Kv (P:=P) (qs:=ps.map fun p=>(p.1,ρC p.2)) hz hf Wo (by rw [Array.toList_map];exact HU) Wn
    exact gq.val g (V:=V) (by simp only [execOp,Sem.run_bind];rw [h1];simp) h2
   ·cases he
  ·cases he
 case buildSlice t n ps =>
  have TM:∀p∈ps.toList,av Z ψ h w (ρ s p.2) (ρC p.2):=fun p hp=>mI p.2 (by simp;exact ⟨p.1,by simpa using hp⟩)
  obtain ⟨e0,h0,h1⟩:=KE he
  exact KD g hB br (hN rfl) TM bg ((Sg (900000+t)).isSome) h1 lP h0 (fun V w' h1=>by simp only [execOp,Sem.run_bind];rw [h1];simp)
 case load t a =>
  obtain ⟨x,V,rfl,h1,h2⟩:=su g br (mI a (by simp)) he
  exact gq.val g (V:=V) (by simp [execOp,h1]) h2
 case store t a v =>
  obtain ⟨h1,h2⟩:=two mI
  have hw:∃hw,e=.wr .no hw:=by
   obtain ⟨hw,_,_,h3,_⟩:=wm (P:=P) (N:=N) (g.sub br) (h1.oT br) (h2.oT br) he
   exact ⟨hw,h3⟩
  obtain ⟨hw,rfl⟩:=hw
  have heq:=lP _ _ rfl
  subst heq
  obtain ⟨HQ,w',Z',h3,h4,h5⟩:=wm (P:=P) (N:=N) g h1 h2 he
  cases h3
  exact ⟨undef,w',Z',ψ,.inr ⟨by simp [execOp,h4],rfl⟩,h5,by simp only [bE.v,av]⟩
 case nilCheck x =>
  have h1:=mI x (by simp)
  split at he
  ·rename_i id s i off hx
   cases he
   rw [hx] at h1
   have h2:=h1
   simp only [av] at h1
   obtain ⟨a,ha,_⟩:=h1
   exact gq.val g (V:=ρC x) (by simp [execOp,ha]) h2
  ·rename_i k y off hx
   cases he
   rw [hx] at h1
   have h2:=h1
   simp only [av] at h1
   obtain ⟨a,us,ha,_⟩:=h1
   exact gq.val g (V:=ρC x) (by simp [execOp,ha]) h2
  ·rename_i f cap hx
   cases he
   rw [hx] at h1
   have h2:=h1
   simp only [av] at h1
   obtain ⟨vs,ha,_⟩:=h1
   exact gq.val g (V:=ρC x) (by simp [execOp,ha]) h2
  ·cases he
 case binOp op t x y yt =>
  obtain ⟨h1,h2⟩:=two mI
  obtain ⟨r,V,rfl,h3,h4⟩:=KA Bk (xo:=x) (yo:=y) h1 h2 he
  exact gq.val g (V:=V) (by simp only [execOp,Sem.run_bind] at h3 ⊢;rw [h3];simp) h4
 case unOp op t x =>
  have h1:=mI x (by simp)
  cases op<;>simp only at he<;>first | (cases he;done) | skip
  split at he
  ·rename_i b hx
   cases he
   rw [hx] at h1
   simp only [av] at h1
   exact gq.val g (V:=.bool (!b)) (by simp [execOp,h1,Op.unary]) (by simp only [av])
  ·cases he
 case convert src dst x =>
  have h1:=mI x (by simp)
  unfold yp at he
  split at he
  ·rename_i k1 k2 k3 n hs hd hx
   cases he
   rw [hx] at h1
   simp only [av] at h1
   exact gq.val g (V:=.int k2 (k2.wrap n)) (by simp [execOp,h1,convert,run_underlying hs,run_underlying hd,Conv.intToInt]) (by simp only [av])
  ·rename_i sv hs hd hx
   cases he
   rw [hx] at h1
   have h2:=h1
   simp only [av] at h1
   exact gq.val g (V:=ρC x) (by simp [execOp,h1,convert,run_underlying hs,run_underlying hd]) h2
  ·cases he
 case makeFunc fn first cap =>
  cases fn<;>simp only at he<;>first | (cases he;done) | skip
  rename_i f
  split at he
  ·rename_i hf
   cases he
   have h0:first=#[]:=Array.eq_empty_of_size_eq_zero hf
   subst h0
   have hl:∀l:List Operand,(∀x∈l,av Z ψ h w (ρ s x) (ρC x))→an Z ψ h w (l.map (ρ s)) (l.map ρC):=by
    intro l
    induction l with
    | nil=>intro _;simp [an]
    | cons a r ih=>intro ha;simp only [List.map_cons,an];exact ⟨_,_,rfl,ha a (by simp),ih (fun x hx=>ha x (List.mem_cons_of_mem _ hx))⟩
   exact gq.val g (V:=.func (.func f) #[] (cap.map ρC)) (by simp [execOp,Instr.makeFunc]) (by simp only [av];exact ⟨_,rfl,by rw [Array.toList_map];exact hl _ (fun x hx=>mI x (by simp;simpa using hx))⟩)
  ·cases he
 case slice t x lo hi mx =>
  have h1:=mI x (by simp)
  have h2:dH Z ψ h w (lo.map (ρ s)) (lo.map ρC):=HS (fun y hy=>mI y (by subst hy;simp))
  have h3:dH Z ψ h w (hi.map (ρ s)) (hi.map ρC):=HS (fun y hy=>mI y (by subst hy;simp))
  have h4:dH Z ψ h w (mx.map (ρ s)) (mx.map ρC):=HS (fun y hy=>mI y (by subst hy;simp))
  split at he
  ·rename_i ht
   unfold yi at he
   split at he
   ·rename_i sv hx hmx
    split at he
    ·rename_i l u hb
     cases ho:aW sv.size l u with
     | false=>rw [ho] at he;cases he
     | true =>
      rw [ho] at he;cases he
      rw [hx] at h1
      simp only [av] at h1
      have hm0:mx=none:=by cases mx with
       | none=>rfl
       | some m=>simp at hmx
      subst hm0
      have c9:=sw (P:=P) (w:=w) (b:=false) (Nat.le_refl sv.size) h2 h3 (mx:=none) (mx':=none) trivial hb ho (.inl rfl)
      exact gq.val g (V:=.string (Tx sv l u)) (by simp [execOp,Instr.sliceAt,Instr.slice,run_underlying ht,h1,c9,Tx]) (by simp only [av])
    ·cases he
   ·cases he
  ·rename_i et ht
   split at he
   ·rename_i TH
    obtain ⟨V,Z',h5,h6,h7⟩:=ET (P:=P) (N:=N) g br ht h1 h2 h3 h4 lP he TH
    exact ⟨V,w,Z',ψ,.inl (by simp [execOp,h5]),h6,h7⟩
   ·cases he
  ·cases he
 case fieldAddr t x f =>
  have h1:=mI x (by simp)
  split at he
  ·rename_i n ft id sz i off hf hx
   split at he
   ·cases he
   ·rename_i hc
    cases he
    rw [hx] at h1
    obtain ⟨V,h2,h3⟩:=rE (P:=P) hf hc h1
    exact gq.val g (V:=V) (by simp [execOp,h2]) h3
  ·rename_i n ft k y off hf hx
   split at he
   ·cases he
   ·rename_i hc
    cases he
    rw [hx] at h1
    obtain ⟨V,h2,h3⟩:=tx (P:=P) hf hc h1
    exact gq.val g (V:=V) (by simp [execOp,h2]) h3
  ·cases he
 case field t x f =>
  have h1:=mI x (by simp)
  split at he
  ·rename_i n ft cs hf hx
   split at he
   ·rename_i v hv
    cases he
    rw [hx] at h1
    obtain ⟨V,h2,h3⟩:=ES (P:=P) hf h1 hv
    exact gq.val g (V:=V) (by simp [execOp,h2]) h3
   ·cases he
  ·cases he
 case indexAddr t x i =>
  obtain ⟨h1,h2⟩:=two mI
  obtain ⟨y,V,rfl,h3,h4⟩:=oL g br h1 h2 he
  exact gq.val g (V:=V) (by simp [execOp,h3]) h4
 case index t x i =>
  obtain ⟨h1,h2⟩:=two mI
  split at he
  ·rename_i sv ik n ht hx hi
   obtain ⟨c,hc,Qb⟩:=Option.bind_eq_some_iff.1 he
   cases Qb
   rw [hx] at h1;rw [hi] at h2
   simp only [av] at h1 h2
   exact gq.val g (V:=.int .u8 (c.toNat:Int)) (by simp [execOp,Instr.index,asIntOf,run_underlying ht,h1,h2,hc]) (by simp only [av])
  ·cases he
 case extract t i =>
  have h1:=mI t (by simp)
  split at he
  ·rename_i vs hx
   split at he
   ·rename_i v hv
    cases he
    rw [hx] at h1
    simp only [av] at h1
    obtain ⟨us,hu,hl⟩:=h1
    obtain ⟨u,h2,h3⟩:=hl.get i hv
    exact gq.val g (V:=u) (by simp [execOp,Instr.extract,hu,show us[i]? = some u by simpa using h2]) h3
   ·cases he
  ·cases he
 case makeMap t r =>
  cases r with
  | some r=>cases he
  | none =>
   simp only at he
   have Qe:∀i ty cs,h i=some (.box ty cs)→aA (fun i=>i≠id) cs:=fun i ty cs hb=>(bg i ty cs hb).imp (fun j hj e=>hj (by rw [e];exact hN rfl))
   obtain ⟨V,w',ψ',h1,h2,h3⟩:=Bw g hB (hN rfl) Qe he
   exact ⟨V,w',Z,ψ',.inl (by simp [execOp,h1]),h2,h3⟩
 case lookup t m i ok =>
  obtain ⟨h1,h2⟩:=two mI
  obtain ⟨y,V,rfl,h3,h4⟩:=Dn Bk g br h1 h2 he
  exact gq.val g (V:=V) (by simp [execOp,h3]) h4
 case mapUpdate t m i v =>
  have h1:=mI m (by simp);have h2:=mI i (by simp);have h3:=mI v (by simp)
  have hw:∃hw,e=.wr (.mH []) hw:=by
   obtain ⟨hw,_,_,h4,_⟩:=tB (N:=N) Bk (g.sub br) (h1.oT br) (h2.oT br) (h3.oT br) he
   exact ⟨hw,h4⟩
  obtain ⟨hw,rfl⟩:=hw
  have heq:=lP _ _ rfl
  subst heq
  obtain ⟨HQ,w',Z',h4,h5,h6⟩:=tB (N:=N) Bk g h1 h2 h3 he
  cases h4
  exact ⟨undef,w',Z',ψ,.inr ⟨by simp [execOp,h5],rfl⟩,h6,by simp only [bE.v,av,an];exact ⟨#[],rfl,rfl⟩⟩
 case range t x =>
  have Qe:∀i ty cs,h i=some (.box ty cs)→aA (fun i=>i≠id) cs:=fun i ty cs hb=>(bg i ty cs hb).imp (fun j hj e=>hj (by rw [e];exact hN rfl))
  obtain ⟨V,w',ψ',h1,h2,h3⟩:=Dp g hB (hN rfl) (mI x (by simp)) Qe he
  exact ⟨V,w',Z,ψ',.inl (by simp [execOp,h1]),h2,h3⟩
 case next x b =>
  cases b with
  | false=>cases he
  | true =>
   obtain ⟨V,w',h1,h2,h3⟩:=EX (P:=P) (N:=N) (ty:=type) g br (mI x (by simp)) lP he
   exact ⟨V,w',Z,ψ,.inl (by simp [execOp,h1]),h2,h3⟩
 case entry x =>
  obtain ⟨y,V,rfl,h1,h2⟩:=EY (P:=P) g br (mI x (by simp)) he
  exact gq.val g (V:=V) (by simp [execOp,h1]) h2
 case call c =>
  obtain ⟨callee,args,argTypes⟩:=c
  cases callee with
  | value f=>simp [tD] at Hq
  | invoke r m=>simp only at he;cases he
  | builtin b =>
   have km:∀x∈args.toList,av Z ψ h w (ρ s x) (ρC x):=fun x hx=>mI x (by simp only [Call.operands];exact Array.mem_append.2 (.inr (by simpa using hx)))
   have MQ:∀x∈args.toList,aG (fun i=>¬N i) (ρ s x):=fun x hx=>hm x (by simp only [Call.operands];exact Array.mem_append.2 (.inr (by simpa using hx)))
   obtain ⟨args⟩:=args
   obtain ⟨argTypes⟩:=argTypes
   simp only at he km MQ
   cases b<;>simp only at he<;>first | (cases he;done) | skip
   case append =>
    split at he
    ·rename_i l1 l2 x y t t'
     split at he
     ·rename_i htt
      subst htt
      exact Dq g hB br (hN rfl) (km x (by simp)) (km y (by simp)) (MQ x (by simp)) bg lP he (fun V w' h1=>by
       simp only [execOp,resolve,invoke,builtin,Sem.run_bind,Sem.run_pure,Result.andThen_ok,List.map_toArray,List.map_cons,List.map_nil,h1])
     ·cases he
    ·cases he
   case delete =>
    split at he
    ·rename_i l1 l2 m x t ts
     have h1:=km m (by simp);have h2:=km x (by simp)
     have hw:∃hw,e=.wr (.mH []) hw:=by
      obtain ⟨hw,_,h4,_⟩:=tC (N:=N) (ty:=type) (ts:=ts) Bk (g.sub br) (h1.oT br) (h2.oT br) he
      exact ⟨hw,h4⟩
     obtain ⟨hw,rfl⟩:=hw
     have heq:=lP _ _ rfl
     subst heq
     obtain ⟨HQ,w',h4,h5,h6⟩:=tC (N:=N) (ty:=type) (ts:=ts) Bk g h1 h2 he
     cases h4
     exact ⟨.tuple #[],w',Z,ψ,.inl (by simp only [execOp,resolve,invoke,builtin,Sem.run_bind,Sem.run_pure,Result.andThen_ok,List.map_toArray,List.map_cons,List.map_nil,h5]),h6,by simp only [bE.v,av,an];exact ⟨#[],rfl,rfl⟩⟩
    ·cases he
   case len =>
    split at he
    ·rename_i l1 l2 x t
     split at he
     ·rename_i htm
      obtain ⟨n,rfl,h1⟩:=HR (P:=P) (ty:=type) g br htm (km x (by simp)) he
      exact gq.val g (V:=.int .i64 (n:Int)) (by simp only [execOp,resolve,invoke,builtin,Sem.run_bind,Sem.run_pure,Result.andThen_ok,List.map_toArray,List.map_cons,List.map_nil,h1]) (by simp only [av])
     split at he
     ·rename_i aH
      obtain ⟨n,rfl,h1⟩:=Ky g br (km x (by simp)) he
      refine gq.val g (V:=.int .i64 (n:Int)) ?_ (by simp only [av])
      rcases h1 with ⟨sv,h2,h3,rfl⟩ | ⟨A,c,h3⟩
      ·unfold Ty at aH
       rw [h2] at aH
       split at aH
       ·rename_i hu _
        simp [execOp,resolve,invoke,builtin,Builtin.len_,run_underlying hu,h3,goInt]
       ·cases aH
       ·rename_i h9;exact (h9 _ rfl).elim
       ·cases aH
      ·have hu:∃e,P.underlying t=some (.slice e):=by
        have h4:=km x (by simp)
        rw [h3] at h4
        unfold Ty at aH
        split at aH
        ·rename_i sv _ hxx
         rw [hxx] at h4;simp only [av] at h4;cases h4
        ·cases aH
        ·rename_i e _ hu _;exact ⟨_,hu⟩
        ·cases aH
       obtain ⟨e,hu⟩:=hu
       simp [execOp,resolve,invoke,builtin,Builtin.len_,run_underlying hu,h3,goInt]
     ·cases he
    ·cases he
   all_goals
    unfold Kq at he
    split at he
    ·rename_i k a k' b QJ
     have hl:=congrArg List.length QJ
     simp only [List.length_map,List.length_cons,List.length_nil] at hl
     obtain ⟨x,y,rfl⟩:=TL hl
     simp only [List.map_cons,List.map_nil,List.cons.injEq,and_true] at QJ
     have h1:=km x (by simp)
     have h2:=km y (by simp)
     rw [QJ.1] at h1;rw [QJ.2] at h2
     simp only [av] at h1 h2
     split at he
     ·rename_i hk
      subst hk
      cases he
      refine gq.val g (V:=bP (.int _ _)) ?_ (jo _ _)
      first
       | (simp [execOp,resolve,invoke,builtin,Builtin.max_,Builtin.max2,h1,h2,bP];simp only [Int.max_def];split<;>split<;>omega)
       | (simp [execOp,resolve,invoke,builtin,Builtin.min_,Builtin.min2,h1,h2,bP];simp only [Int.min_def];split<;>split<;>omega)
     ·cases he
    ·cases he
end
end Go.Vs
namespace Go.Vs
variable {P:Program} {Z Z' Zf:Nat→Prop} {ψ ψ':Nat→Value} {h h':Hp} {w w':World} {B0:Nat} {O:Nat→Prop} {N:Nat→Prop}
abbrev wu:=Nat×Option Nat×Ob
def dk(L:List wu):Heap:=L.map fun e=>(e.1,e.2.2)
def jq(ψ:Nat→Value):Option Nat→Value
 | some s=>ψ s
 | none=>.slice none 0 0
def dX(ψ:Nat→Value):List wu→Nat→Value
 | [],_=>undef
 | (i,s,_)::r,n=>if i=n then jq ψ s else dX ψ r n
theorem mS{L:List wu}{i:Nat}{o:Ob}(hg:(dk L).get i=some o):∃s,(i,s,o)∈L:=by
 induction L with
 | nil=>simp [dk,Heap.get] at hg
 | cons e r ih =>
  obtain ⟨j,s,o'⟩:=e
  simp only [dk,List.map_cons,Heap.get] at hg
  split at hg
  ·rename_i e;subst e;cases hg;exact ⟨s,List.mem_cons_self⟩
  ·obtain ⟨s',hs⟩:=ih hg;exact ⟨s',List.mem_cons_of_mem _ hs⟩
theorem lR{i:Nat}{r:List Nat}(h:bZ (i::r)=true):i∉r∧bZ r=true:=by
 simp only [bZ,Bool.and_eq_true,Bool.not_eq_true'] at h
 exact ⟨fun hm=>by rw [List.contains_iff_mem.2 hm] at h;simp at h,h.2⟩
theorem ib{L:List wu}(hn:bZ (L.map (·.1))=true){i:Nat}{s:Option Nat}{o:Ob}(hm:(i,s,o)∈L):dX ψ L i=jq ψ s:=by
 induction L with
 | nil=>cases hm
 | cons e r ih =>
  obtain ⟨j,s',o'⟩:=e
  obtain ⟨h1,h2⟩:=lR hn
  simp only [dX]
  rcases List.mem_cons.1 hm with he | hm
  ·cases he;simp
  ·rw [if_neg,ih h2 hm]
   rintro rfl
   exact h1 (List.mem_map.2 ⟨_,hm,rfl⟩)
theorem QK{L:List wu}(hs:bZ (L.filterMap (·.2.1))=true){i j s:Nat}{o o':Ob}(h1:(i,some s,o)∈L)(h2:(j,some s,o')∈L):i=j∧o=o':=by
 induction L with
 | nil=>cases h1
 | cons e r ih =>
  obtain ⟨k,s',o''⟩:=e
  have mem:∀{k:Nat} {o:Ob},(k,some s,o)∈r→s∈r.filterMap (·.2.1):=fun h=>List.mem_filterMap.2 ⟨_,h,rfl⟩
  rw [List.filterMap_cons] at hs
  cases s' with
  | none =>
   simp only [] at hs
   exact ih hs ((List.mem_cons.1 h1).resolve_left (by simp)) ((List.mem_cons.1 h2).resolve_left (by simp))
  | some s' =>
   simp only [] at hs
   obtain ⟨h3,h4⟩:=lR hs
   rcases List.mem_cons.1 h1 with e1 | m1<;>rcases List.mem_cons.1 h2 with e2 | m2
   ·cases e1;cases e2;exact ⟨rfl,rfl⟩
   ·cases e1;exact absurd (mem m2) h3
   ·cases e2;exact absurd (mem m1) h3
   ·exact ih h4 m1 m2
def EZ:(ok:OK)→ok.T→Prop
 | .row _ _,xs=>xs=[]
 | _,_=>False
theorem EZ.owns:∀{ok:OK} {xs:ok.T},EZ ok xs→jc Z w ok (.slice none 0 0) xs
 | .row ty k,xs,h=>by
  have h:xs=[]:=h
  subst h
  exact ⟨[],⟨by simp,.inl ⟨rfl,none,rfl⟩⟩,fun i x hx=>by simp at hx⟩
 | .map _ _,_,h=>h.elim
 | .iter _ _,_,h=>h.elim
 | .mK,_,h=>h.elim
def tE(Z:Nat→Prop)(ψ:Nat→Value)(h:Hp)(w:World)(h':Hp)(ψ':Nat→Value):wu→Prop
 | (_,some s,.own ok xs)=>h s=some (.own ok xs)
 | (_,none,.own ok xs)=>EZ ok xs
 | (_,some s,.box ty cs')=>(∃cs,h s=some (.box ty cs))∧∀gg vs,ψ s=.pointer (some ⟨gg,0,none⟩)→w.heap[gg]? = some (.cells vs ty (0,0))→an Z ψ' h' w cs' vs.toList
 | (_,none,.box _ _)=>False
theorem Good.rename(g:Good Z ψ h w B0 O){L:List wu}(hn:bZ (L.map (·.1))=true)(hs:bZ (L.filterMap (·.2.1))=true)(lG:∀e∈L,tE Z ψ h w (dk L).get (dX ψ L) e) :
  Good Z (dX ψ L) (dk L).get w B0 O:=by
 have src:∀id b,(dk L).get id≠none→ob (dX ψ L id)=some b→∃s o,(id,some s,o)∈L∧h s≠none∧ob (ψ s)=some b:=fun id b h1 h2=>by
  obtain ⟨o,ho⟩:=Option.ne_none_iff_exists'.1 h1
  obtain ⟨s,hm⟩:=mS ho
  rw [ib hn hm] at h2
  cases s with
  | none=>simp [jq,ob] at h2
  | some s =>
   have h3:=lG _ hm
   refine ⟨s,o,hm,?_,h2⟩
   cases o with
   | box ty cs=>obtain ⟨⟨cs0,h4⟩,_⟩:=h3;rw [h4];simp
   | own ok xs=>rw [show h s=some (.own ok xs) from h3];simp
 refine ⟨fun id ty cs hb => ?_,fun id ok xs hb => ?_,fun id b h1 h2 => ?_,fun id lK b h1 h2 h3 h4 => ?_,g.jk⟩
 ·obtain ⟨s,hm⟩:=mS hb
  have h3:=lG _ hm
  rw [ib hn hm]
  cases s with
  | none=>exact h3.elim
  | some s =>
   obtain ⟨⟨cs0,h4⟩,h5⟩:=h3
   obtain ⟨gg,vs,h6,h7,h8,h9⟩:=g.box s ty cs0 h4
   exact ⟨gg,vs,h6,h7,h5 gg vs h6 h7,h9⟩
 ·obtain ⟨s,hm⟩:=mS hb
  have h3:=lG _ hm
  rw [ib hn hm]
  cases s with
  | none=>exact EZ.owns h3
  | some s=>exact g.row s ok xs h3
 ·obtain ⟨s,o,hm,h3,h4⟩:=src id b h1 h2
  exact g.live s b h3 h4
 ·obtain ⟨s,o,hm,h5,h6⟩:=src id b h1 h3
  obtain ⟨s',o',QL,h5',h6'⟩:=src lK b h2 h4
  have:=g.apart s s' b h5 h5' h6 h6'
  subst this
  exact (QK hs hm QL).1
def xu(hh:Heap)(i:Nat):List AV:=match hh.get i with
 | some (.box _ cs)=>cs
 | _=>[]
def dt:(c7:List CK)→Nat→List AV→o6 c7→List wu
 | [],_,_,_=>[]
 | .val k::r,n,cs,x=>dt r (n+1) (cs.drop k.sz) x.2
 | .own ok::r,n,cs,x=>(n,(nI (cs.headD .no)).head?,.own ok x.1)::dt r (n+1) cs.tail x.2
def dy:(b:BK)→Heap→Nat→Nat→Nat→b.T→List wu
 | .box ty c,hh,i,i',n,x=>(i',some i,.box ty (az c n x))::dt c n (xu hh i) x
 | .own ok,_,i,i',_,x=>[(i',some i,.own ok x)]
def ck:(bs:List BK)→Heap→List Nat→List Nat→Nat→uL bs→List wu
 | b::r,hh,i::is,i'::is',n,x=>dy b hh i i' n x.1++ck r hh is is' (n+16) x.2
 | _,_,_,_,_,_=>[]
theorem lS:∀(c7:List CK) (n:Nat) (cs:List AV) (x:o6 c7),dk (dt c7 n cs x)=aQ c7 n x
 | [],_,_,_=>rfl
 | .val k::r,n,cs,x=>lS r (n+1) _ x.2
 | .own ok::r,n,cs,x=>by simp only [dt,aQ,dk,List.map_cons];rw [←lS r (n+1) cs.tail x.2];rfl
theorem ky:∀(c7:List CK) (n:Nat) (cs:List AV) (x:o6 c7),(dt c7 n cs x).map (·.1)=b7 c7 n
 | [],_,_,_=>rfl
 | .val k::r,n,cs,x=>ky r (n+1) _ x.2
 | .own ok::r,n,cs,x=>by simp only [dt,b7,List.map_cons];rw [ky r (n+1) cs.tail x.2]
theorem uZ(c:AV):(nI c).head?.toList=nI c:=by cases c<;>rfl
theorem dz{α β:Type}(f:α→Option β)(a:α)(l:List α):(a::l).filterMap f=(f a).toList++l.filterMap f:=by
 rw [List.filterMap_cons];cases f a<;>rfl
theorem nR{k:K}{r:List CK}{hh:Heap}{cs:List AV}{x:o6 (.val k::r)}(hd:cC (.val k::r) hh cs=some x):dE k ((cs.take k.sz).map (cz hh))=some x.1∧cC r hh (cs.drop k.sz)=some x.2:=by
 have e:cC (.val k::r) hh cs=(match dE k ((cs.take k.sz).map (cz hh)),cC r hh (cs.drop k.sz) with
  | some x,some y=>some ((x,y):k.T×o6 r)
  | _,_=>none):=by cases cs<;>rfl
 rw [e] at hd
 clear e
 generalize dE k ((cs.take k.sz).map (cz hh))=o1 at hd ⊢
 generalize cC r hh (cs.drop k.sz)=o2 at hd ⊢
 cases o1 with
 | none=>cases hd
 | some x1 =>
  cases o2 with
  | none=>cases hd
  | some y1=>have:=Option.some.inj hd;subst this;exact ⟨rfl,rfl⟩
theorem kY{ok:OK}{r:List CK}{hh:Heap}{cs:List AV}{x:o6 (.own ok::r)}(hd:cC (.own ok::r) hh cs=some x):∃c cs',cs=c::cs'∧dB hh ok c=some x.1∧cC r hh cs'=some x.2:=by
 cases cs with
 | nil=>cases hd
 | cons c cs =>
  refine ⟨c,cs,rfl,?_⟩
  have e:cC (.own ok::r) hh (c::cs)=(match dB hh ok c,cC r hh cs with
   | some x,some y=>some ((x,y):ok.T×o6 r)
   | _,_=>none):=rfl
  rw [e] at hd
  clear e
  generalize dB hh ok c=o1 at hd ⊢
  generalize cC r hh cs=o2 at hd ⊢
  cases o1 with
  | none=>cases hd
  | some x1 =>
   cases o2 with
   | none=>cases hd
   | some y1=>have:=Option.some.inj hd;subst this;exact ⟨rfl,rfl⟩
theorem nS:∀(c7:List CK) (n:Nat) (hh:Heap) (cs:List AV) (x:o6 c7),cC c7 hh cs=some x→(dt c7 n cs x).filterMap (·.2.1)=fe c7 cs
 | [],_,_,cs,_,_=>by cases cs<;>rfl
 | .val k::r,n,hh,cs,x,hd=>by
  obtain ⟨_,h2⟩:=nR hd
  have e:fe (.val k::r) cs=fe r (cs.drop k.sz):=by cases cs<;>rfl
  rw [e]
  exact nS r (n+1) hh _ x.2 h2
 | .own ok::r,n,hh,cs,x,hd=>by
  obtain ⟨c,cs',rfl,_,h2⟩:=kY hd
  simp only [dt,fe]
  rw [dz]
  simp only [List.headD_cons,List.tail_cons]
  rw [uZ,nS r (n+1) hh cs' x.2 h2]
theorem kZ{hh:Heap}{ok:OK}{c:AV}{xs:ok.T}(ho:dB hh ok c=some xs):(c=.fz∧EZ ok xs)∨∃id,c=.bF id∧hh.get id=some (.own ok xs):=by
 unfold dB at ho
 split at ho
 ·cases ok with
  | row _ _=>cases ho;exact .inl ⟨rfl,rfl⟩
  | _=>cases ho
 ·rename_i id
  split at ho
  ·rename_i w5 k' Wb hg
   split at ho
   ·rename_i e
    subst e
    cases ho
    exact .inr ⟨id,rfl,hg⟩
   ·cases ho
  ·cases ho
 ·cases ho
theorem Du{hh:Heap}{ok:OK}{c:AV}{xs:ok.T}{v:Value}(ho:dB hh ok c=some xs)(hr:av Z ψ hh.get w c v){n:Nat}(iC:h' n≠none→ψ' n=jq ψ (nI c).head?):av Z' ψ' h' w' (.bF n) v:=by
 rcases kZ ho with ⟨rfl,_⟩ | ⟨id,rfl,hg⟩
 ·simp only [av] at hr ⊢
  subst hr
  exact ⟨⟨rfl,rfl⟩,fun hn=>(iC hn).symm⟩
 ·simp only [av] at hr ⊢
  refine ⟨hr.1,fun hn => ?_⟩
  rw [iC hn]
  exact hr.2 (by rw [hg];simp)
theorem qF{hh:Heap}(g:Good Z ψ hh.get w B0 O)(hz:∀b,Z b→Z' b):∀(c7:List CK) (n:Nat) (cs:List AV) (x:o6 c7) (vs:List Value),cC c7 hh cs=some x →
  (∀id b,AV.bF id∈oI c7 cs→hh.get id≠none→ob (ψ id)=some b→Z' b)→(∀e∈dt c7 n cs x,h' e.1≠none→ψ' e.1=jq ψ e.2.1) →
  an Z ψ hh.get w cs vs→an Z' ψ' h' w (az c7 n x) vs
 | [],n,cs,x,vs,hd,_,_,hr=>by
  cases cs with
  | nil=>simpa only [az,an] using hr
  | cons c cs=>cases hd
 | .val k::r,n,cs,x,vs,hd,hf,iC,hr=>by
  obtain ⟨h1,h2⟩:=nR hd
  have e:oI (.val k::r) cs=cs.take k.sz++oI r (cs.drop k.sz):=by cases cs<;>rfl
  rw [e] at hf
  have qy:an Z ψ hh.get w (cs.take k.sz++cs.drop k.sz) vs:=by rw [List.take_append_drop];exact hr
  obtain ⟨us,ws,rfl,h3,h4⟩:=an.split qy
  simp only [az]
  have h5:=mQ (Z':=Z') g hz (fun id b bO=>hf id b (List.mem_append_left _ bO)) h3
  exact an.append (gM (dq h1 h5)) (qF g hz r (n+1) (cs.drop k.sz) x.2 ws h2 (fun id b bO=>hf id b (List.mem_append_right _ bO)) iC h4)
 | .own ok::r,n,cs,x,vs,hd,hf,iC,hr=>by
  obtain ⟨c,cs',rfl,h1,h2⟩:=kY hd
  simp only [an] at hr
  obtain ⟨v,us,rfl,h3,h4⟩:=hr
  simp only [az,an]
  refine ⟨v,us,rfl,Du h1 h3 (fun hn=>iC (n,_,_) (by simp only [dt];exact List.mem_cons_self) hn),?_⟩
  exact qF g hz r (n+1) cs' x.2 us h2 hf (fun e he=>iC e (by simp only [dt];exact List.mem_cons_of_mem _ he)) h4
theorem eI{b:BK}{r:List BK}{hh:Heap}{i:Nat}{is:List Nat}{x:uL (b::r)}(hd:cO (b::r) hh (i::is)=some x):oJ b hh i=some x.1∧cO r hh is=some x.2:=by
 have e:cO (b::r) hh (i::is)=(match oJ b hh i,cO r hh is with
   | some x,some y=>some ((x,y):b.T×uL r)
   | _,_=>none):=rfl
 rw [e] at hd
 clear e
 generalize oJ b hh i=o1 at hd ⊢
 generalize cO r hh is=o2 at hd ⊢
 cases o1 with
 | none=>cases hd
 | some x1 =>
  cases o2 with
  | none=>cases hd
  | some y1=>have:=Option.some.inj hd;subst this;exact ⟨rfl,rfl⟩
theorem qG{ty:TypeId}{c:List CK}{hh:Heap}{i:Nat}{x:o6 c}(hd:oJ (.box ty c) hh i=some x):∃cs,hh.get i=some (.box ty cs)∧cC c hh cs=some x:=by
 simp only [oJ] at hd
 cases hb:EE hh i ty with
 | none=>rw [hb] at hd;cases hd
 | some cs =>
  rw [hb] at hd
  refine ⟨cs,?_,hd⟩
  unfold EE at hb
  split at hb
  ·rename_i w5 cs' hg
   split at hb
   ·rename_i e;cases hb;rw [hg,e]
   ·cases hb
  ·cases hb
theorem jr{hh:Heap}{ok:OK}{i:Nat}{x:ok.T}(h:dB hh ok (.bF i)=some x):hh.get i=some (.own ok x):=by
 rcases kZ h with ⟨h,_⟩ | ⟨id,h,hg⟩
 ·cases h
 ·cases h;exact hg
theorem Cc{ok:OK}{hh:Heap}{i:Nat}{x:ok.T}(hd:oJ (.own ok) hh i=some x):hh.get i=some (.own ok x):=jr hd
theorem nT{hh:Heap}{i:Nat}{ty:TypeId}{cs:List AV}(hg:hh.get i=some (.box ty cs)):xu hh i=cs:=by unfold xu;rw [hg]
theorem Dv(b:BK){hh:Heap}{i i' n:Nat}(x:b.T):dk (dy b hh i i' n x)=iE b i' n x:=by
 cases b with
 | box ty c=>simp only [dy,iE];rw [←lS c n (xu hh i) x];simp [dk]
 | own ok=>simp [dy,iE,dk]
theorem By(b:BK){hh:Heap}{i i' n:Nat}(x:b.T):(dy b hh i i' n x).map (·.1)=i'::b7 b.c7 n:=by
 cases b with
 | box ty c=>simp only [dy,List.map_cons,BK.c7];rw [ky]
 | own ok=>simp [dy,BK.c7,b7]
theorem E0(b:BK){hh:Heap}{i i' n:Nat}{x:b.T}(hd:oJ b hh i=some x):(dy b hh i i' n x).filterMap (·.2.1)=jG b hh i:=by
 cases b with
 | box ty c =>
  obtain ⟨cs,h1,h2⟩:=qG hd
  simp only [dy,jG]
  rw [dz,nT h1,nS c n hh cs x h2,h1]
  rfl
 | own ok=>simp [dy,jG]
theorem iH:∀(bs:List BK) (hh:Heap) (is is':List Nat) (n:Nat) (x:uL bs),cO bs hh is=some x→is'.length=bs.length→dk (ck bs hh is is' n x)=bp bs is' n x
 | [],hh,is,is',n,x,_,hl=>by cases is'<;>simp [ck,bp,dk]
 | b::r,hh,[],is',n,x,hd,_=>by cases hd
 | b::r,hh,i::is,[],n,x,_,hl=>by simp at hl
 | b::r,hh,i::is,i'::is',n,x,hd,hl=>by
  obtain ⟨_,h3⟩:=eI hd
  have ih:=iH r hh is is' (n+16) x.2 h3 (by simpa using hl)
  simp only [ck,bp]
  rw [←ih,←Dv b (hh:=hh) (i:=i) x.1]
  simp [dk]
theorem gr:∀(bs:List BK) (hh:Heap) (is is':List Nat) (n:Nat) (x:uL bs),cO bs hh is=some x→is'.length=bs.length→(ck bs hh is is' n x).map (·.1)=bV bs is' n
 | [],hh,is,is',n,x,_,hl=>by cases is'<;>simp [ck,bV]
 | b::r,hh,[],is',n,x,hd,_=>by cases hd
 | b::r,hh,i::is,[],n,x,_,hl=>by simp at hl
 | b::r,hh,i::is,i'::is',n,x,hd,hl=>by
  obtain ⟨_,h3⟩:=eI hd
  have ih:=gr r hh is is' (n+16) x.2 h3 (by simpa using hl)
  simp only [ck,bV,List.map_append]
  rw [ih,By,List.cons_append]
theorem jO:∀(bs:List BK) (hh:Heap) (is is':List Nat) (n:Nat) (x:uL bs),cO bs hh is=some x→is'.length=bs.length→(ck bs hh is is' n x).filterMap (·.2.1)=cP bs hh is
 | [],hh,is,is',n,x,_,hl=>by cases is'<;>cases is<;>simp [ck,cP]
 | b::r,hh,[],is',n,x,hd,_=>by cases hd
 | b::r,hh,i::is,[],n,x,_,hl=>by simp at hl
 | b::r,hh,i::is,i'::is',n,x,hd,hl=>by
  obtain ⟨h1,h3⟩:=eI hd
  have ih:=jO r hh is is' (n+16) x.2 h3 (by simpa using hl)
  simp only [ck,cP]
  rw [List.filterMap_append,ih,E0 b h1]
theorem qH{hd:Hp}{hh:Heap}:∀(c7:List CK) (n:Nat) (cs:List AV) (x:o6 c7),cC c7 hh cs=some x→(∀s∈fe c7 cs,hd s=hh.get s)→∀e∈dt c7 n cs x,tE Z ψ hd w h' ψ' e
 | [],n,cs,x,_,_,e,he=>by simp [dt] at he
 | .val k::r,n,cs,x,Qf,hk,e,he=>by
  obtain ⟨_,h2⟩:=nR Qf
  have e0:fe (.val k::r) cs=fe r (cs.drop k.sz):=by cases cs<;>rfl
  rw [e0] at hk
  exact qH r (n+1) _ x.2 h2 hk e he
 | .own ok::r,n,cs,x,Qf,hk,e,he=>by
  obtain ⟨c,cs',rfl,h1,h2⟩:=kY Qf
  simp only [dt,List.headD_cons,List.tail_cons] at he
  simp only [fe] at hk
  rcases List.mem_cons.1 he with rfl | he
  ·rcases kZ h1 with ⟨rfl,h3⟩ | ⟨id,rfl,h3⟩
   ·exact h3
   ·show hd id=some (.own ok x.1)
    rw [hk id (List.mem_append_left _ (by simp [nI])),h3]
  ·exact qH r (n+1) cs' x.2 h2 (fun s hs=>hk s (List.mem_append_right _ hs)) e he
theorem HV{hd:Hp}{hh:Heap}(g:Good Z ψ hh.get w B0 O)(hz:∀b,Z b→Z' b)(b:BK){i i' n:Nat}{x:b.T}(Qf:oJ b hh i=some x)
  (hf:∀id g,AV.bF id∈yk b hh i→hh.get id≠none→ob (ψ id)=some g→Z' g) (hk:∀s∈jG b hh i,hd s=hh.get s) (iC:∀e∈dy b hh i i' n x,h' e.1≠none→ψ' e.1=jq ψ e.2.1) :
  ∀e∈dy b hh i i' n x,tE Z' ψ hd w h' ψ' e:=by
 intro e he
 cases b with
 | box ty c =>
  obtain ⟨cs,h1,h2⟩:=qG Qf
  simp only [yk,jG,h1] at hf hk
  have TN:∀e∈dt c n cs x,h' e.1≠none→ψ' e.1=jq ψ e.2.1:=fun e he=>iC e (by simp only [dy];rw [nT h1];exact List.mem_cons_of_mem _ he)
  simp only [dy] at he
  rcases List.mem_cons.1 he with rfl | he
  ·refine ⟨⟨cs,by rw [hk i List.mem_cons_self,h1]⟩,fun gg vs h4 h5 => ?_⟩
   obtain ⟨gg',gu,h6,h7,h8,_⟩:=g.box i ty cs h1
   rw [h6] at h4
   cases h4
   rw [h5] at h7
   cases h7
   exact qF g hz c n cs x _ h2 hf TN h8
  ·rw [nT h1] at he
   exact qH c n cs x h2 (fun s hs=>hk s (List.mem_cons_of_mem _ hs)) e he
 | own ok =>
  have h1:=Cc Qf
  simp only [dy,List.mem_singleton] at he
  subst he
  show hd i=some (.own ok x)
  rw [hk i (by simp [jG]),h1]
theorem k0{hd:Hp}{hh:Heap}(g:Good Z ψ hh.get w B0 O)(hz:∀b,Z b→Z' b):∀(bs:List BK) (is is':List Nat) (n:Nat) (x:uL bs),cO bs hh is=some x →
  (∀id b,AV.bF id∈fB bs hh is→hh.get id≠none→ob (ψ id)=some b→Z' b)→(∀s∈cP bs hh is,hd s=hh.get s)→(∀e∈ck bs hh is is' n x,h' e.1≠none→ψ' e.1=jq ψ e.2.1) →
  ∀e∈ck bs hh is is' n x,tE Z' ψ hd w h' ψ' e
 | [],is,is',n,x,_,_,_,_,e,he=>by simp [ck] at he
 | b::r,[],is',n,x,Qf,_,_,_,e,he=>by cases Qf
 | b::r,i::is,[],n,x,_,_,_,_,e,he=>by simp [ck] at he
 | b::r,i::is,i'::is',n,x,Qf,hf,hk,iC,e,he=>by
  obtain ⟨h1,h3⟩:=eI Qf
  simp only [fB,cP] at hf hk
  simp only [ck] at he iC
  rcases List.mem_append.1 he with he | he
  ·exact HV g hz b h1 (fun id g bO=>hf id g (List.mem_append_left _ bO)) (fun s hs=>hk s (List.mem_append_left _ hs)) (fun e he=>iC e (List.mem_append_left _ he)) e he
  ·exact k0 g hz r is is' (n+16) x.2 h3 (fun id b bO=>hf id b (List.mem_append_right _ bO)) (fun s hs=>hk s (List.mem_append_right _ hs)) (fun e he=>iC e (List.mem_append_right _ he)) e he
theorem qI{kept:List Nat}{kb:List AV}(hk:uP kept kb=true):bZ kept=true∧∀(hh:Heap) s,s∈kept→(cw hh kb).get s=hh.get s:=by
 unfold uP at hk
 rw [Bool.and_eq_true] at hk
 exact ⟨hk.1,fun hh s hs=>nL _ _ _ (qB (List.all_eq_true.1 hk.2 s hs))⟩
theorem u4{hh:Heap}{kb:List AV}{kept:List Nat}(g:Good Z ψ hh.get w B0 O)(hk:uP kept kb=true){L:List wu}(hn:bZ (L.map (·.1))=true)(hs:L.filterMap (·.2.1)=kept)
  (lG:∀e∈L,tE (o4 Z ψ hh.get kb) ψ (cw hh kb).get w (dk L).get (dX ψ L) e):Good (o4 Z ψ hh.get kb) (dX ψ L) (dk L).get w B0 O :=
 (gW g kb).rename hn (by rw [hs];exact (qI hk).1) lG
theorem xw{L:List wu}(hn:bZ (L.map (·.1))=true):∀e∈L,(dk L).get e.1≠none→dX ψ L e.1=jq ψ e.2.1:=fun ⟨i,s,o⟩ he _=>ib hn he
theorem lT(A B:List wu):dk (A++B)=dk A++dk B:=by simp [dk]
theorem xx{hh:Heap}{i s i':Nat}{v:Value}(hr:av Z ψ hh.get w (.ref i s 0 0) v)(hi:hh.get i≠none)(iC:h' i'≠none→ψ' i'=ψ i):av Z' ψ' h' w' (.ref i' 0 0 0) v:=by
 simp only [av] at hr ⊢
 obtain ⟨a,rfl,ha⟩:=hr
 refine ⟨a,rfl,fun hn => ?_⟩
 rw [iC hn,ha hi]
 simp
theorem nV{v:AV}{i:Nat}(h:B2 v=some i):∃s,v=.ref i s 0 0:=by
 unfold B2 at h
 split at h
 ·cases h;exact ⟨_,rfl⟩
 ·cases h
theorem iI{hh:Heap}:∀(bs:List BK) (is:List Nat) (x:uL bs),cO bs hh is=some x→is.length=bs.length∧∀i∈is,hh.get i≠none
 | [],[],_,_=>⟨rfl,fun i hi=>by cases hi⟩
 | [],_::_,_,h=>by cases h
 | _::_,[],_,h=>by cases h
 | b::r,i::is,x,h=>by
  obtain ⟨h1,h3⟩:=eI h
  obtain ⟨h4,h5⟩:=iI r is x.2 h3
  refine ⟨by simp [h4],fun j hj => ?_⟩
  rcases List.mem_cons.1 hj with rfl | hj
  ·cases b with
   | box ty c=>obtain ⟨cs,h1,_⟩:=qG h1;rw [h1];simp
   | own ok=>rw [Cc h1];simp
  ·exact h5 j hj
theorem jP{hh:Heap}:∀(bs:List BK) (is is':List Nat) (n:Nat) (x:uL bs),is.length=bs.length→∀p∈is.zip is',∃o,(p.2,some p.1,o)∈ck bs hh is is' n x
 | [],is,is',n,x,hl,p,hp=>by
  cases is with
  | nil=>simp at hp
  | cons a r=>simp at hl
 | b::r,[],is',n,x,hl,p,hp=>by simp at hp
 | b::r,i::is,[],n,x,hl,p,hp=>by simp at hp
 | b::r,i::is,i'::is',n,x,hl,p,hp=>by
  simp only [List.zip_cons_cons] at hp
  simp only [ck]
  rcases List.mem_cons.1 hp with rfl | hp
  ·cases b with
   | box ty c=>exact ⟨_,List.mem_append_left _ (by simp only [dy];exact List.mem_cons_self)⟩
   | own ok=>exact ⟨_,List.mem_append_left _ (by simp only [dy];exact List.mem_cons_self)⟩
  ·obtain ⟨o,ho⟩:=jP r is is' (n+16) x.2 (by simpa using hl) p hp
   exact ⟨o,List.mem_append_right _ ho⟩
theorem Jq{hd:Hp}{hh:Heap}{ok:OK}{c:AV}{xs:ok.T}(ho:dB hh ok c=some xs)(hk:∀s∈nI c,hd s=hh.get s){n:Nat}:tE Z ψ hd w h' ψ' (n,(nI c).head?,.own ok xs):=by
 rcases kZ ho with ⟨rfl,h3⟩ | ⟨id,rfl,h3⟩
 ·exact h3
 ·show hd id=some (.own ok xs)
  rw [hk id (by simp [nI]),h3]
end Go.Vs
namespace Go.Vs
variable {P:Program} {Z Z':Nat→Prop} {ψ ψ':Nat→Value} {h h':Hp} {w w':World} {B0:Nat} {O:Nat→Prop} {N:Nat→Prop}
def fG:Hp:=fun _=>none
def Hr:Nat→Value:=fun _=>undef
def Cd(g:aJ)(x:ED (kd g.ps)):List AV:=(aN g.ps [] 0 x).map (·.2)
def Wp(P:Program)(f:FuncId)(g:aJ)(x:g.A)(y:g.B):Prop :=
 ∀(Z:Nat→Prop) (w:World) (jQ:List Value),(∀b,Z b→b<w.heap.size)→an Z Hr fG w (Cd g x.1) jQ →
  Calls P (f % 1000) jQ.toArray w fun e w'=>∃v Z' ψ',e=.returned v∧(∀b,Z b→Z' b)∧(∀b,Z' b→Z b∨w.heap.size≤b)∧cQ Hr fG w w' ∧
   Good Z' ψ' (aj g.rs 3000 y.1).get w' w.heap.size (fun _=>False)∧av Z' ψ' (aj g.rs 3000 y.1).get w' (ep (aO g.rs [] 2000 3000 y.1)) v
theorem wx{p:PK}{ps:List PK}{vs:List AV}(hi:ct (p::ps) vs=some []):∃a r,vs=a::r∧ct ps r=some []∧(p≠.ref∧p≠.own)∧(∀f n,p=.EC f n→a=.fn f [])∧(∀n,p=.agg n→a=.agg []):=by
 cases vs with
 | nil=>cases p<;>simp [ct] at hi
 | cons a r =>
  cases p with
  | val k=>exact ⟨a,r,rfl,by simpa only [ct] using hi,by simp,by simp,by simp⟩
  | ref =>
   simp only [ct] at hi
   split at hi<;>simp at hi
  | own =>
   cases a<;>simp only [ct] at hi<;>first | (cases hi;done) | skip
   split at hi<;>simp at hi
  | EC f n =>
   cases a<;>simp only [ct] at hi<;>first | (cases hi;done) | skip
   rename_i f' cap
   split at hi
   ·rename_i hc
    obtain ⟨rfl,ta⟩:=hc
    split at hi
    ·rename_i a1 b1 h1 h2
     simp only [Option.some.injEq,List.append_eq_nil_iff] at hi
     obtain ⟨rfl,rfl⟩:=hi
     have TC:cap=[]:=by
      cases cap with
      | nil=>rfl
      | cons c cs=>simp only [jg] at h1;split at h1<;>simp at h1
     subst TC
     exact ⟨_,r,rfl,h2,by simp,by rintro f n ⟨⟩;rfl,by simp⟩
    ·cases hi
   ·cases hi
  | agg n =>
   cases a<;>simp only [ct] at hi<;>first | (cases hi;done) | skip
   rename_i cs
   split at hi
   ·split at hi
    ·rename_i a1 b1 h1 h2
     simp only [Option.some.injEq,List.append_eq_nil_iff] at hi
     obtain ⟨rfl,rfl⟩:=hi
     have Kw:cs=[]:=by
      cases cs with
      | nil=>rfl
      | cons c cs=>cases c<;>simp only [nJ] at h1<;>first | (cases h1;done) | (split at h1<;>simp at h1)
     subst Kw
     exact ⟨_,r,rfl,h2,by simp,by simp,fun _ _=>rfl⟩
    ·cases hi
   ·cases hi
theorem wy{k:K}{ps:List PK}{hh:Heap}{a:AV}{r:List AV}{x:k.T×ED (kd ps)}(hv:dS (.val k::ps) hh (a::r)=some x):fj k hh a=some x.1∧dS ps hh r=some x.2:=by
 have e:dS (.val k::ps) hh (a::r)=(match fj k hh a,dS ps hh r with
  | some x,some y=>some ((x,y):k.T×ED (kd ps))
  | _,_=>none):=rfl
 rw [e] at hv
 clear e
 generalize fj k hh a=o1 at hv ⊢
 generalize dS ps hh r=o2 at hv ⊢
 cases o1 with
 | none=>cases hv
 | some x1 =>
  cases o2 with
  | none=>cases hv
  | some y1 =>
   have:=Option.some.inj hv
   subst this
   exact ⟨rfl,rfl⟩
theorem yU{hh:Heap}(g:Good Z ψ hh.get w B0 O)(hz:∀b,Z b→Z' b)(ps:List PK):∀(s:Nat) (vs:List AV) (us:List Value) (x:ED (kd ps)),(∀v∈vs,∀id b,AV.bF id∈v.cells→hh.get id≠none→ob (ψ id)=some b→Z' b) →
  ct ps vs=some []→dS ps hh vs=some x→an Z ψ hh.get w vs us→an Z' Hr fG w ((aN ps [] s x).map (·.2)) us:=by
 induction ps with
 | nil =>
  intro s vs us x _ hi hv hr
  cases vs with
  | nil=>simpa only [aN,List.map_nil,an] using hr
  | cons a r=>simp [ct] at hi
 | cons p ps ih =>
  intro s vs us x hb hi hv hr
  obtain ⟨a,r,rfl,sj,QM,TO,TP⟩:=wx hi
  simp only [an] at hr
  obtain ⟨u,iz,rfl,h3,h4⟩:=hr
  cases p with
  | val k =>
   obtain ⟨h1,h2⟩:=wy hv
   simp only [aN,List.map_cons,an]
   exact ⟨u,iz,rfl,qC (Z':=Z') (ψ':=Hr) (h':=fG) g hz (hb a List.mem_cons_self) h1 h3,ih (s+1) r iz x.2 (fun v hv=>hb v (List.mem_cons_of_mem _ hv)) sj h2 h4⟩
  | ref=>exact absurd rfl QM.1
  | own=>exact absurd rfl QM.2
  | EC f n =>
   have ha:=TO f n rfl
   subst ha
   have h2:dS ps hh r=some x:=hv
   simp only [aN,List.map_cons,an,List.take_nil,List.map_nil,List.drop_nil]
   simp only [av,an] at h3 ⊢
   exact ⟨u,iz,rfl,h3,ih (s+1) r iz x (fun v hv=>hb v (List.mem_cons_of_mem _ hv)) sj h2 h4⟩
  | agg n =>
   have ha:=TP n rfl
   subst ha
   have h2:dS ps hh r=some x:=hv
   simp only [aN,List.map_cons,an,List.take_nil,List.map_nil,List.drop_nil]
   simp only [av,an] at h3 ⊢
   exact ⟨u,iz,rfl,h3,ih (s+1) r iz x (fun v hv=>hb v (List.mem_cons_of_mem _ hv)) sj h2 h4⟩
theorem Good.Wq(g:Good Z ψ h w B0 O)(k:cQ Hr fG w w')(hz:∀b,Z b→Z' b)(Me:∀b,Z' b→Z b∨w.heap.size≤b)(abd:∀b,Z' b→b<w'.heap.size)
  (hold:∀id,¬N id→h' id=h id∧ψ' id=ψ id)
  (bg:∀id ty cs,h id=some (.box ty cs)→aA (fun i=>¬N i) cs)
  (My:∀id ty cs,N id→h' id=some (.box ty cs)→False)
  (mR:∀id ok xs,N id→h' id=some (.own ok xs)→jc Z' w' ok (ψ' id) xs)
  (yw:∀id b,N id→h' id≠none→ob (ψ' id)=some b→w.heap.size≤b∧¬Z' b)
  (HF:∀id lK b,N id→N lK→h' id≠none→h' lK≠none→ob (ψ' id)=some b→ob (ψ' lK)=some b→id=lK) (hB:B0≤w.heap.size) :
  Next Z ψ h w B0 O N Z' ψ' h' w':=by
 have cE:∀b,b<w.heap.size→w'.heap[b]? = w.heap[b]? := fun b hb=>k.block b hb (fun ⟨id,h1,_⟩=>h1 rfl)
 have sm:cg Z w w':=fun b hb=>cE b (g.jk b hb)
 have rh:∀id,h' id≠none→(h id≠none∧ψ' id=ψ id)∨N id:=fun id bO=>by
  by_cases hn:N id
  ·exact .inr hn
  ·obtain ⟨e1,e2⟩:=hold id hn
   exact .inl ⟨by rwa [e1] at bO,e2⟩
 have we:∀id b,¬N id→h' id≠none→ob (ψ' id)=some b→Own ψ h b:=fun id b hn h1 h2=>by
  obtain ⟨e1,e2⟩:=hold id hn
  exact ⟨id,by rwa [e1] at h1,by rwa [e2] at h2⟩
 have kk:cQ ψ h w w':=⟨k.os,k.tape,k.output,k.size,fun b hb _=>cE b hb⟩
 refine ⟨hz,fun b hb=>(Me b hb).imp (fun h=>h) .inr,kk,rh,⟨fun id ty cs hb => ?_,fun id ok xs hb => ?_,fun id b h1 h2 => ?_,fun id lK b h1 h2 h3 h4 => ?_,abd⟩⟩
 ·by_cases hn:N id
  ·exact (My id ty cs hn hb).elim
  ·obtain ⟨e1,e2⟩:=hold id hn
   rw [e1] at hb
   obtain ⟨gg,vs,h1,h2,h3,h4⟩:=g.box id ty cs hb
   exact ⟨gg,vs,by rw [e2,h1],(cE gg (Array.getElem?_eq_some_iff.1 h2).1).trans h2,h3.move hz sm (fun i hp bO=>(rh i bO).resolve_right hp) (bg id ty cs hb),h4⟩
 ·by_cases hn:N id
  ·exact mR id ok xs hn hb
  ·obtain ⟨e1,e2⟩:=hold id hn
   rw [e1] at hb
   rw [e2]
   exact (g.row id ok xs hb).kept hz sm (fun gg Ks=>cE gg (g.bL ⟨id,by rw [hb];simp,Ks⟩))
 ·by_cases hn:N id
  ·obtain ⟨h3,h4⟩:=yw id b hn h1 h2
   exact ⟨h4,.inl (by omega)⟩
  ·obtain ⟨e1,e2⟩:=hold id hn
   rw [e1] at h1;rw [e2] at h2
   have h3:=g.live id b h1 h2
   refine ⟨fun V9 => ?_,h3.2⟩
   rcases Me b V9 with h4 | h4
   ·exact h3.1 h4
   ·have:=g.bL ⟨id,h1,h2⟩;omega
 ·by_cases hn:N id<;>by_cases HH:N lK
  ·exact HF id lK b hn HH h1 h2 h3 h4
  ·have:=(yw id b hn h1 h3).1
   have:=g.bL (we lK b HH h2 h4);omega
  ·have:=(yw lK b HH h2 h4).1
   have:=g.bL (we id b hn h1 h3);omega
  ·obtain ⟨e1,e2⟩:=hold id hn
   obtain ⟨e3,e4⟩:=hold lK HH
   rw [e1] at h1;rw [e2] at h3;rw [e3] at h2;rw [e4] at h4
   exact g.apart id lK b h1 h2 h3 h4
theorem bA{r:RK}{rs:List RK}(h:(r::rs).all RK.plain=true):rs.all RK.plain=true:=by simp only [List.all_cons,Bool.and_eq_true] at h;exact h.2
theorem KG{c:List CK}{rs:List RK}(h:(RK.agg c::rs).all RK.plain=true):c.length≤16:=by
 simp only [List.all_cons,Bool.and_eq_true,RK.plain,decide_eq_true_eq] at h;exact h.1
theorem k9:∀(c:List CK) (a:Nat) (x:o6 c) (i:Nat),i<a→(aQ c a x).get i=none
 | [],_,_,_,_=>rfl
 | .val _::r,a,x,i,h=>by simp only [aQ];exact k9 r (a+1) x.2 i (by omega)
 | .own ok::r,a,x,i,h=>by simp only [aQ,Heap.get];rw [if_neg (by omega)];exact k9 r (a+1) x.2 i (by omega)
theorem sD:∀(c:List CK) (a:Nat) (x:o6 c) (i:Nat),a+c.length≤i→(aQ c a x).get i=none
 | [],_,_,_,_=>rfl
 | .val _::r,a,x,i,h=>by simp only [List.length_cons] at h;simp only [aQ];exact sD r (a+1) x.2 i (by omega)
 | .own ok::r,a,x,i,h=>by simp only [List.length_cons] at h;simp only [aQ,Heap.get];rw [if_neg (by omega)];exact sD r (a+1) x.2 i (by omega)
theorem sE:∀(c:List CK) (a b:Nat) (x:o6 c) (j:Nat),(aQ c a x).get (a+j)=(aQ c b x).get (b+j)
 | [],_,_,_,_=>rfl
 | .val _::r,a,b,x,0=>by simp only [aQ];rw [k9 _ _ _ _ (by omega),k9 _ _ _ _ (by omega)]
 | .own ok::r,a,b,x,0=>by simp [aQ,Heap.get]
 | .val _::r,a,b,x,j+1=>by
  simp only [aQ]
  rw [show a+(j+1)=a+1+j by omega,show b+(j+1)=b+1+j by omega]
  exact sE r (a+1) (b+1) x.2 j
 | .own ok::r,a,b,x,j+1=>by
  simp only [aQ,Heap.get]
  rw [if_neg (by omega),if_neg (by omega),show a+(j+1)=a+1+j by omega,show b+(j+1)=b+1+j by omega]
  exact sE r (a+1) (b+1) x.2 j
theorem my:∀(c:List CK) (a:Nat) (x:o6 c) (i:Nat) (ty:TypeId) (cs:List AV),(aQ c a x).get i≠some (.box ty cs)
 | [],_,_,_,_,_=>by simp [aQ,Heap.get]
 | .val _::r,a,x,i,ty,cs=>by simp only [aQ];exact my r (a+1) x.2 i ty cs
 | .own ok::r,a,x,i,ty,cs=>by
  simp only [aQ,Heap.get]
  split
  ·simp
  ·exact my r (a+1) x.2 i ty cs
theorem pN:∀(rs:List RK) (a:Nat) (y:kS rs) (i:Nat),rs.all RK.plain=true→i<a→(aj rs a y).get i=none
 | [],a,y,i,_,h=>rfl
 | .val k::r,a,y,i,hp,h=>by simp only [aj];exact pN r (a+1) y.2 i (bA hp) (by omega)
 | .own ok::r,a,y,i,hp,h=>by simp only [aj,Heap.get];rw [if_neg (by omega)];exact pN r (a+1) y.2 i (bA hp) (by omega)
 | .dW _ _::r,a,y,i,hp,h=>by simp only [aj];exact pN r (a+1) y.2 i (bA hp) (by omega)
 | .agg c::r,a,y,i,hp,h=>by
  have h1:(aQ c a y.1).get i=none:=k9 c a y.1 i h
  have h2:=pN r (a+1) y.2 i (bA hp) (by omega)
  show Heap.get (aQ c a y.1++aj r (a+1) y.2) i=none
  rw [Heap.get_append,h1,h2]
theorem E1:∀(rs:List RK) (a:Nat) (y:kS rs) (i:Nat),rs.all RK.plain=true→a+rs.length+16≤i→(aj rs a y).get i=none
 | [],a,y,i,_,h=>rfl
 | .val k::r,a,y,i,hp,h=>by simp only [List.length_cons] at h;simp only [aj];exact E1 r (a+1) y.2 i (bA hp) (by omega)
 | .own ok::r,a,y,i,hp,h=>by simp only [List.length_cons] at h;simp only [aj,Heap.get];rw [if_neg (by omega)];exact E1 r (a+1) y.2 i (bA hp) (by omega)
 | .dW _ _::r,a,y,i,hp,h=>by simp only [List.length_cons] at h;simp only [aj];exact E1 r (a+1) y.2 i (bA hp) (by omega)
 | .agg c::r,a,y,i,hp,h=>by
  simp only [List.length_cons] at h
  have hc:=KG hp
  have h1:(aQ c a y.1).get i=none:=sD c a y.1 i (by omega)
  have h2:=E1 r (a+1) y.2 i (bA hp) (by omega)
  show Heap.get (aQ c a y.1++aj r (a+1) y.2) i=none
  rw [Heap.get_append,h1,h2]
theorem E2:∀(rs:List RK) (a b:Nat) (y:kS rs) (j:Nat),rs.all RK.plain=true→(aj rs a y).get (a+j)=(aj rs b y).get (b+j)
 | [],_,_,_,_,_=>rfl
 | .val k::r,a,b,y,0,hp=>by simp only [aj];rw [pN _ _ _ _ (bA hp) (by omega),pN _ _ _ _ (bA hp) (by omega)]
 | .dW _ _::r,a,b,y,0,hp=>by simp only [aj];rw [pN _ _ _ _ (bA hp) (by omega),pN _ _ _ _ (bA hp) (by omega)]
 | .own ok::r,a,b,y,0,hp=>by simp [aj,Heap.get]
 | .val k::r,a,b,y,j+1,hp=>by
  simp only [aj]
  rw [show a+(j+1)=a+1+j by omega,show b+(j+1)=b+1+j by omega]
  exact E2 r (a+1) (b+1) y.2 j (bA hp)
 | .dW _ _::r,a,b,y,j+1,hp=>by
  simp only [aj]
  rw [show a+(j+1)=a+1+j by omega,show b+(j+1)=b+1+j by omega]
  exact E2 r (a+1) (b+1) y.2 j (bA hp)
 | .own ok::r,a,b,y,j+1,hp=>by
  simp only [aj,Heap.get]
  rw [if_neg (by omega),if_neg (by omega),show a+(j+1)=a+1+j by omega,show b+(j+1)=b+1+j by omega]
  exact E2 r (a+1) (b+1) y.2 j (bA hp)
 | .agg c::r,a,b,y,j,hp=>by
  have h1:(aQ c a y.1).get (a+j)=(aQ c b y.1).get (b+j):=sE c a b y.1 j
  have h2:(aj r (a+1) y.2).get (a+j)=(aj r (b+1) y.2).get (b+j):=by
   cases j with
   | zero=>rw [pN _ _ _ _ (bA hp) (by omega),pN _ _ _ _ (bA hp) (by omega)]
   | succ j =>
    rw [show a+(j+1)=a+1+j by omega,show b+(j+1)=b+1+j by omega]
    exact E2 r (a+1) (b+1) y.2 j (bA hp)
  show Heap.get (aQ c a y.1++aj r (a+1) y.2) (a+j)=Heap.get (aQ c b y.1++aj r (b+1) y.2) (b+j)
  rw [Heap.get_append,Heap.get_append,h1,h2]
theorem tF:∀(rs:List RK) (a:Nat) (y:kS rs) (i:Nat) (ty:TypeId) (cs:List AV),rs.all RK.plain=true→(aj rs a y).get i≠some (.box ty cs)
 | [],_,_,_,_,_,_=>by simp [aj,Heap.get]
 | .val k::r,a,y,i,ty,cs,hp=>by simp only [aj];exact tF r (a+1) y.2 i ty cs (bA hp)
 | .dW _ _::r,a,y,i,ty,cs,hp=>by simp only [aj];exact tF r (a+1) y.2 i ty cs (bA hp)
 | .own ok::r,a,y,i,ty,cs,hp=>by
  simp only [aj,Heap.get]
  split
  ·simp
  ·exact tF r (a+1) y.2 i ty cs (bA hp)
 | .agg c::r,a,y,i,ty,cs,hp=>by
  have h1:(aQ c a y.1).get i≠some (.box ty cs):=my c a y.1 i ty cs
  show Heap.get (aQ c a y.1++aj r (a+1) y.2) i≠some (.box ty cs)
  rw [Heap.get_append]
  split
  ·rename_i o ho;rw [ho] at h1;exact h1
  ·exact tF r (a+1) y.2 i ty cs (bA hp)
theorem la(p:Nat→Prop):∀(k:K) (x:k.T),aA p (enc k x)
 | .int _,_=>by simp only [enc,aA,aG];exact ⟨trivial,trivial⟩
 | .bool,_=>by simp only [enc,aA,aG];exact ⟨trivial,trivial⟩
 | .str,_=>by simp only [enc,aA,aG];exact ⟨trivial,trivial⟩
 | .sl _,_=>by simp only [enc,aA,aG];exact ⟨trivial,trivial⟩
 | .mp _ _,_=>by simp only [enc,aA,aG];exact ⟨trivial,trivial⟩
 | .pair a b,x=>by
  simp only [enc]
  have h1:=la p a x.1
  have h2:=la p b x.2
  revert h1
  generalize enc a x.1=l
  induction l with
  | nil=>intro _;exact h2
  | cons c r ih=>intro h;simp only [List.cons_append,aA] at h ⊢;exact ⟨h.1,ih h.2⟩
 | .one k,x=>by simp only [enc];exact la p k x
theorem mT(p:Nat→Prop):∀(k:K) (x:k.T),aG p (cc k x)
 | .int _,_=>by simp only [cc,aG]
 | .bool,_=>by simp only [cc,aG]
 | .str,_=>by simp only [cc,aG]
 | .sl _,_=>by simp only [cc,aG]
 | .mp _ _,_=>by simp only [cc,aG]
 | .pair a b,x=>by simp only [cc,aG];exact la p (.pair a b) x
 | .one k,x=>by simp only [cc,aG];exact la p (.one k) x
theorem MR{k:K}{x:k.T}{v:Value}(hr:av Z ψ h w (cc k x) v):av Z ψ' h' w (cc k x) v :=
 hr.move (p:=fun _=>False) (fun _ h=>h) (cg.refl _ _) (fun _ hp _=>hp.elim) (mT _ k x)
theorem QN(r:RK)(rs:List RK)(b:Nat)(y:kS (r::rs))(i:Nat)(hi:(aj rs (b+1) y.2).get i≠none):(aj (r::rs) b y).get i≠none:=by
 cases r with
 | val k=>exact hi
 | dW _ _=>exact hi
 | own ok=>simp only [aj,Heap.get];split<;>simp_all
 | agg c =>
  show Heap.get (aQ c b y.1++aj rs (b+1) y.2) i≠none
  rw [Heap.get_append]
  split
  ·simp
  ·exact hi
theorem HW(c:List CK):∀{H:Hp} {a b:Nat} {x:o6 c} {vs:List Value},(∀j,(aQ c b x).get (b+j)≠none→h' (b+j)≠none→H (a+j)≠none∧ψ' (b+j)=ψ (a+j)) →
  an Z ψ H w (az c a x) vs→an Z ψ' h' w (az c b x) vs:=by
 induction c with
 | nil=>intro H a b x vs _ hr;simpa only [az,an] using hr
 | cons k c ih =>
  intro H a b x vs hH hr
  cases k with
  | val k =>
   have qy:an Z ψ H w (enc k x.1++az c (a+1) x.2) vs:=hr
   obtain ⟨us,ws,rfl,h1,h2⟩:=qy.split
   show an Z ψ' h' w (enc k x.1++az c (b+1) x.2) (us++ws)
   refine (h1.move (p:=fun _=>False) (fun _ h=>h) (cg.refl _ _) (fun _ hp _=>hp.elim) (la _ k x.1)).append (ih (fun j hj bj => ?_) h2)
   have:=hH (j+1)
   rw [show b+(j+1)=b+1+j by omega,show a+(j+1)=a+1+j by omega] at this
   exact this hj bj
  | own ok =>
   have qy:an Z ψ H w (.bF a::az c (a+1) x.2) vs:=hr
   simp only [an] at qy
   obtain ⟨v,us,rfl,h1,h2⟩:=qy
   show an Z ψ' h' w (.bF b::az c (b+1) x.2) (v::us)
   simp only [an]
   refine ⟨v,us,rfl,?_,ih (fun j hj bj => ?_) h2⟩
   ·simp only [av] at h1 ⊢
    refine ⟨h1.1,fun bj => ?_⟩
    obtain ⟨h3,h4⟩:=hH 0 (by simp [aQ,Heap.get]) bj
    rw [Nat.add_zero,Nat.add_zero] at h4
    rw [h4];exact h1.2 h3
   ·have:=hH (j+1)
    rw [show b+(j+1)=b+1+j by omega,show a+(j+1)=a+1+j by omega] at this
    refine this ?_ bj
    have e:(aQ (.own ok::c) b x).get (b+1+j)=(aQ c (b+1) x.2).get (b+1+j):=by simp only [aQ,Heap.get];rw [if_neg (by omega)]
    rw [e];exact hj
theorem MS(rs:List RK):∀{H:Hp} {n m a b:Nat} {y:kS rs} {vs:List Value},rs.all RK.plain=true→(∀j,(aj rs b y).get (b+j)≠none→h' (b+j)≠none→H (a+j)≠none∧ψ' (b+j)=ψ (a+j)) →
  an Z ψ H w (aO rs [] n a y) vs→an Z ψ' h' w (aO rs [] m b y) vs:=by
 induction rs with
 | nil=>intro H n m a b y vs _ _ hr;simpa only [aO,an] using hr
 | cons r rs ih =>
  intro H n m a b y vs hp hH hr
  have hpa:=hp
  simp only [List.all_cons,Bool.and_eq_true] at hp
  have TQ:∀j,(aj rs (b+1) y.2).get (b+1+j)≠none→h' (b+1+j)≠none→H (a+1+j)≠none∧ψ' (b+1+j)=ψ (a+1+j):=fun j hj bj=>by
   have:=hH (j+1)
   rw [show b+(j+1)=b+1+j by omega,show a+(j+1)=a+1+j by omega] at this
   exact this (QN _ _ _ _ _ hj) bj
  cases r with
  | val k =>
   simp only [aO,an] at hr ⊢
   obtain ⟨v,us,rfl,h1,h2⟩:=hr
   exact ⟨v,us,rfl,MR h1,ih hp.2 TQ h2⟩
  | own ok =>
   simp only [aO,an] at hr ⊢
   obtain ⟨v,us,rfl,h1,h2⟩:=hr
   refine ⟨v,us,rfl,?_,ih hp.2 TQ h2⟩
   simp only [av] at h1 ⊢
   refine ⟨h1.1,fun bj => ?_⟩
   obtain ⟨h3,h4⟩:=hH 0 (by simp [aj,Heap.get]) bj
   rw [Nat.add_zero,Nat.add_zero] at h4
   rw [h4];exact h1.2 h3
  | dW b c=>simp [RK.plain] at hp
  | agg c =>
   simp only [aO,an] at hr ⊢
   obtain ⟨v,us,rfl,h1,h2⟩:=hr
   refine ⟨v,us,rfl,?_,ih hp.2 TQ h2⟩
   simp only [av] at h1 ⊢
   obtain ⟨ws,rfl,h3⟩:=h1
   refine ⟨ws,rfl,HW c (fun j hj bj=>hH j ?_ bj) h3⟩
   show Heap.get (aQ c b y.1++aj rs (b+1) y.2) (b+j)≠none
   rw [Heap.get_append]
   split
   ·simp
   ·rename_i wz;exact absurd wz hj
theorem sF{Sq Sr:Nat→Value}{Wr Ws:Hp}{Wt Wu:Nat→Prop}{l l':List AV}{V:Value}(hl:l.length=l'.length)(hm:∀vs,an Wt Sq Wr w l vs→an Wu Sr Ws w l' vs)(hr:av Wt Sq Wr w (ep l) V):av Wu Sr Ws w (ep l') V:=by
 match l,l',hl with
 | [a],[a'],_ =>
  simp only [ep] at hr ⊢
  have:=hm [V] (by simp only [an];exact ⟨V,[],rfl,hr,rfl⟩)
  simp only [an] at this
  obtain ⟨v,us,e,h1,_⟩:=this
  cases e;exact h1
 | [],[],_ =>
  simp only [ep,av] at hr ⊢
  obtain ⟨us,rfl,h1⟩:=hr
  exact ⟨us,rfl,hm _ h1⟩
 | a::b::r,a'::b'::r',_ =>
  simp only [ep,av] at hr ⊢
  obtain ⟨us,rfl,h1⟩:=hr
  exact ⟨us,rfl,hm _ h1⟩
theorem jI(rs:List RK):∀(ids:List Nat) (n m:Nat) (y:kS rs),(aO rs ids n m y).length=rs.length:=by
 induction rs with
 | nil=>intros;rfl
 | cons r rs ih=>intro ids n m y;cases r<;>simp [aO,ih]
theorem xy:∀(k:K) (x:k.T) (r:List AV),dec k (enc k x++r)=some (x,r)
 | .int _,x,r=>by simp only [enc,List.cons_append,List.nil_append,dec,C9,if_true];rfl
 | .bool,x,r=>by simp only [enc,List.cons_append,List.nil_append,dec,xm];rfl
 | .str,x,r=>by simp only [enc,List.cons_append,List.nil_append,dec,Da];rfl
 | .sl k,x,r=>by simp only [enc,List.cons_append,List.nil_append,dec,Ji];rfl
 | .mp kk vk,x,r=>by simp only [enc,List.cons_append,List.nil_append,dec,Jj];rfl
 | .pair a b,x,r=>by
  simp only [enc,dec,List.append_assoc]
  rw [xy a x.1 (enc b x.2++r)]
  simp only []
  rw [xy b x.2 r]
  rfl
 | .one k,x,r=>by simp only [enc,dec];exact xy k x r
theorem sG(k:K)(x:k.T):dE k (enc k x)=some x:=by
 unfold dE
 have:=xy k x []
 rw [List.append_nil] at this
 rw [this]
theorem sH:∀(k:K) (x:k.T),(cc k x).cells=enc k x
 | .int _,_=>rfl
 | .bool,_=>rfl
 | .str,_=>rfl
 | .sl _,_=>rfl
 | .mp _ _,_=>rfl
 | .pair a b,x=>rfl
 | .one k,x=>rfl
theorem Js:∀(k:K) (x:k.T),cc k x≠.no
 | .int _,_=>by simp [cc]
 | .bool,_=>by simp [cc]
 | .str,_=>by simp [cc]
 | .sl _,_=>by simp [cc]
 | .mp _ _,_=>by simp [cc]
 | .pair a b,x=>by simp [cc]
 | .one k,x=>by simp [cc]
theorem yV:∀(k:K) (x:k.T),(cc k x).isAgg=k.isAgg
 | .int _,_=>rfl
 | .bool,_=>rfl
 | .str,_=>rfl
 | .sl _,_=>rfl
 | .mp _ _,_=>rfl
 | .pair a b,x=>rfl
 | .one k,x=>rfl
theorem KH{k:K}{x:k.T}{v:Value}(hr:av Z ψ h w (cc k x) v):aE Z w k x v.cells.toList:=by
 have h1:=hr.cells (Js k x)
 rw [sH] at h1
 exact dq (sG k x) h1
theorem HX{k:K}{x:k.T}{v:Value}(hr:av Z ψ h w (cc k x) v):(k.isAgg=true→∃vs,v=.agg vs)∧(k.isAgg=false→v.cells=#[v]) :=
 ⟨fun h=>MK (by rw [yV];exact h) hr,fun h=>B9 (by rw [yV];exact h) (Js k x) hr⟩
theorem MT(rs:List RK):∀{H:Hp} {n m a b:Nat} {y:kS rs} {vs:List Value},rs.all RK.flat=true→rs.all RK.plain=true→an Z ψ H w (aO rs [] n a y) vs→an Z' ψ' h' w' (aO rs [] m b y) vs:=by
 induction rs with
 | nil=>intro H n m a b y vs _ _ hr;simpa only [aO,an] using hr
 | cons r rs ih =>
  intro H n m a b y vs hf hp hr
  simp only [List.all_cons,Bool.and_eq_true] at hp hf
  cases r with
  | val k =>
   simp only [aO,an] at hr ⊢
   obtain ⟨v,us,rfl,h1,h2⟩:=hr
   have hk:k.flat=true:=hf.1
   obtain ⟨h3,h4⟩:=HX h1
   exact ⟨v,us,rfl,kW ((KH h1).flat hk) h3 h4,ih hf.2 hp.2 h2⟩
  | own ok=>simp [RK.flat] at hf
  | dW b c=>simp [RK.plain] at hp
  | agg c=>simp [RK.flat] at hf
theorem KI(rs:List RK):∀(a:Nat) (y:kS rs),rs.all RK.flat=true→rs.all RK.plain=true→aj rs a y=[]:=by
 induction rs with
 | nil=>intros;rfl
 | cons r rs ih =>
  intro a y hf hp
  simp only [List.all_cons,Bool.and_eq_true] at hp hf
  cases r with
  | val k=>simp only [aj];exact ih _ _ hf.2 hp.2
  | own ok=>simp [RK.flat] at hf
  | dW b c=>simp [RK.plain] at hp
  | agg c=>simp [RK.flat] at hf
theorem tG:∀(ps:List PK) (vs:List AV),ct ps vs=some []→∀v∈vs,∀id,AV.bF id∈v.cells→AV.bF id∈c5 ps vs
 | [],vs,hi,v,hv,id,bO=>by
  cases vs with
  | nil=>cases hv
  | cons a r=>simp [ct] at hi
 | p::ps,vs,hi,v,hv,id,bO=>by
  obtain ⟨a,r,rfl,sj,QM,TO,TP⟩:=wx hi
  rcases List.mem_cons.1 hv with rfl | hv
  ·cases p with
   | val k=>simp only [c5];exact List.mem_append_left _ bO
   | ref=>exact absurd rfl QM.1
   | own=>exact absurd rfl QM.2
   | EC f n=>rw [TO f n rfl] at bO;simp [AV.cells] at bO
   | agg n=>rw [TP n rfl] at bO;simp [AV.cells] at bO
  ·have:=tG ps r sj v hv id bO
   cases p with
   | val k=>simp only [c5];exact List.mem_append_right _ this
   | ref=>exact absurd rfl QM.1
   | own=>exact absurd rfl QM.2
   | EC f n=>simpa only [c5] using this
   | agg n=>simpa only [c5] using this
theorem yW(f:FuncId)(vs:List AV):sd f vs % 1000=f % 1000:=by
 induction vs with
 | nil=>rfl
 | cons v r ih =>
  cases v with
  | fn g cap=>exact Nat.add_mul_mod_self_left f 1000 _
  | _=>simp only [sd];exact ih
theorem u5{Sg:FuncId→Option aJ}(f:FuncId)(vs:List AV):keyOf Sg f vs % 1000=f % 1000:=by
 unfold keyOf
 split
 ·exact (Nat.add_mul_mod_self_right (sd f vs) 500 1000).trans (yW f vs)
 ·exact yW f vs
theorem Next.imp{N':Nat→Prop}(n:Next Z ψ h w B0 O N Z' ψ' h' w')(hi:∀i,N i→N' i):Next Z ψ h w B0 O N' Z' ψ' h' w' :=
 ⟨n.fg,n.dQ,n.keep,fun id bO=>(n.ids id bO).imp (fun h=>h) (hi id),n.dL⟩
theorem u6{rs:List RK}{y:kS rs}(hp:rs.all RK.plain=true){id nb:Nat}(g:Good Z ψ h w B0 O)(hB:B0≤w.heap.size)
  (bg:∀i ty cs,h i=some (.box ty cs)→aA (fun i=>¬N i) cs) (hN:∀j,j<rs.length+16→N (id+j))
  (k:cQ Hr fG w w') (hz:∀b,Z b→Z' b) (Me:∀b,Z' b→Z b∨w.heap.size≤b) (gc:Good Z' ψ' (aj rs 3000 y).get w' w.heap.size (fun _=>False))
  {v:Value} (hr:av Z' ψ' (aj rs 3000 y).get w' (ep (aO rs [] 2000 3000 y)) v) :
  ∃sI,Next Z ψ h w B0 O N Z' sI (fun i=>match (aj rs id y).get i with | some o=>some o | none=>h i) w' ∧
   av Z' sI (fun i=>match (aj rs id y).get i with | some o=>some o | none=>h i) w' (ep (aO rs [] nb id y)) v:=by
 classical
 let H:Hp:=fun i=>match (aj rs id y).get i with | some o=>some o | none=>h i
 let NN:Nat→Prop:=fun i=>(aj rs id y).get i≠none
 let sI:Nat→Value:=fun i=>if NN i then ψ' (3000+(i - id)) else ψ i
 have hNN:∀i,NN i→∃j,j<rs.length+16∧i=id+j:=fun i hi=>by
  have h1:¬i<id:=fun aH=>hi (pN rs id y i hp aH)
  have h2:¬id+rs.length+16≤i:=fun Ss=>hi (E1 rs id y i hp Ss)
  exact ⟨i - id,by omega,by omega⟩
 have Ce:∀i,NN i→(aj rs 3000 y).get (3000+(i - id))=(aj rs id y).get i:=fun i hi=>by
  obtain ⟨j,_,rfl⟩:=hNN i hi
  rw [show id+j - id=j by omega]
  exact E2 rs 3000 id y j hp
 have hH:∀i,NN i→H i=(aj rs 3000 y).get (3000+(i - id)):=fun i hi=>by
  rw [Ce i hi]
  show (match (aj rs id y).get i with | some o=>some o | none=>h i)=_
  cases e:(aj rs id y).get i with
  | none=>exact absurd e hi
  | some o=>rfl
 have iC:∀i,NN i→sI i=ψ' (3000+(i - id)):=fun i hi=>if_pos hi
 have Wv:∀i,NN i→N i:=fun i hi=>by obtain ⟨j,hj,rfl⟩:=hNN i hi;exact hN j hj
 have n:=Good.Wq (N:=NN) (ψ':=sI) (h':=H) g k hz Me gc.jk
  (fun i hi=>by
   have e:(aj rs id y).get i=none:=Classical.not_not.1 hi
   refine ⟨?_,if_neg hi⟩
   show (match (aj rs id y).get i with | some o=>some o | none=>h i)=h i
   rw [e])
  (fun i ty cs hb=>(bg i ty cs hb).imp (fun i hi hni=>hi (Wv i hni)))
  (fun i ty cs hi hb=>by rw [hH i hi] at hb;exact tF _ _ _ _ _ _ hp hb)
  (fun i ok xs hi hb=>by rw [hH i hi] at hb;rw [iC i hi];exact gc.row _ _ _ hb)
  (fun i b hi h1 h2=>by
   rw [hH i hi] at h1;rw [iC i hi] at h2
   obtain ⟨h3,h4⟩:=gc.live _ b h1 h2
   exact ⟨h4.resolve_right (fun h=>h),h3⟩)
  (fun i i' b hi sj h1 h2 h3 h4=>by
   rw [hH i hi] at h1;rw [hH i' sj] at h2;rw [iC i hi] at h3;rw [iC i' sj] at h4
   have:=gc.apart _ _ b h1 h2 h3 h4
   obtain ⟨j,_,rfl⟩:=hNN i hi
   obtain ⟨j',_,rfl⟩:=hNN i' sj
   omega) hB
 refine ⟨sI,n.imp Wv,?_⟩
 refine sF (by rw [jI,jI]) (fun vs so => ?_) hr
 refine MS (h':=H) (ψ':=sI) rs (n:=2000) (a:=3000) hp (fun j hn bj => ?_) so
 replace hn:NN (id+j):=hn
 have e1:=hH _ hn
 have e2:=iC _ hn
 rw [show id+j - id=j by omega] at e1 e2
 exact ⟨by rw [←e1];exact bj,e2⟩
def iJ(P:Program)(f:FuncId):Prop:=∃fn,P.funcs[f]? = some fn∧(fn.name== "runtime.NumGoroutine")=false∧fn.body.isSome=true
theorem iK{f:FuncId}(hc:iJ P f)(args:Array Value):(callFunc f args).run P w=.ok (.enter f args) w:=by
 obtain ⟨fn,h1,h2,h3⟩:=hc
 obtain ⟨c,hc⟩:=Option.isSome_iff_exists.1 h3
 simp [callFunc,h1,hc,show ¬fn.name= "runtime.NumGoroutine" by simpa using h2]
def Su(P:Program)(ρC:Operand→Value)(o:Oper)(Z:Nat→Prop)(ψ:Nat→Value)(h:Hp)(w:World)(B0:Nat)(O N:Nat→Prop)(e:bE):Prop :=
 ∃f args,(execOp ρC o).run P w=.ok (.enter f args) w∧Calls P f args w fun en w'=>∃V Z' ψ',en=.returned V∧Next Z ψ h w B0 O N Z' ψ' (e.hp h) w'∧av Z' ψ' (e.hp h) w' e.v V
end Go.Vs
namespace Go.Vs
variable {P:Program} {Z Z':Nat→Prop} {ψ ψ':Nat→Value} {h h':Hp} {w w':World} {B0:Nat} {O:Nat→Prop} {N:Nat→Prop}
def cr:(rs:List RK)→List AV→Nat→kS rs→List wu
 | [],_,_,_=>[]
 | .own ok::r,vs,m,x=>(m,(nI (vs.headD .no)).head?,.own ok x.1)::cr r vs.tail (m+1) x.2
 | .val _::r,vs,m,x=>cr r vs.tail (m+1) x.2
 | .dW _ _::r,vs,m,x=>cr r vs.tail (m+1) x.2
 | .agg c::r,vs,m,x=>dt c m (vs.headD .no).cells x.1++cr r vs.tail (m+1) x.2
theorem fS:∀(rs:List RK) (vs:List AV) (m:Nat) (x:kS rs),dk (cr rs vs m x)=aj rs m x
 | [],_,_,_=>rfl
 | .own ok::r,vs,m,x=>by simp only [cr,aj];rw [←fS r vs.tail (m+1) x.2];rfl
 | .val _::r,vs,m,x=>fS r vs.tail (m+1) x.2
 | .dW _ _::r,vs,m,x=>fS r vs.tail (m+1) x.2
 | .agg c::r,vs,m,x=>by
  have e1:dk (dt c m (vs.headD .no).cells x.1)=aQ c m x.1:=lS c m _ x.1
  have e2:=fS r vs.tail (m+1) x.2
  simp only [cr,aj]
  rw [lT,e2]
  exact congrArg (·++_) e1
theorem eY:∀(rs:List RK) (vs:List AV) (m:Nat) (x:kS rs),(cr rs vs m x).map (·.1)=bq rs m
 | [],_,_,_=>rfl
 | .own ok::r,vs,m,x=>by simp only [cr,bq,List.map_cons];rw [eY r vs.tail (m+1) x.2]
 | .val _::r,vs,m,x=>eY r vs.tail (m+1) x.2
 | .dW _ _::r,vs,m,x=>eY r vs.tail (m+1) x.2
 | .agg c::r,vs,m,x=>by
  have e1:(dt c m (vs.headD .no).cells x.1).map (·.1)=b7 c m:=ky c m _ x.1
  have e2:=eY r vs.tail (m+1) x.2
  simp only [cr,bq,List.map_append]
  rw [e2]
  exact congrArg (·++_) e1
theorem nW{bs:List BK}{k:K}{r:List RK}{hh:Heap}{ids:List Nat}{vs:List AV}{x:kS (.val k::r)}(hd:bG bs (.val k::r) hh ids vs=some x):∃v gu,vs=v::gu∧fj k hh v=some x.1∧bG bs r hh ids gu=some x.2:=by
 cases vs with
 | nil=>cases hd
 | cons v vs =>
  have e:bG bs (.val k::r) hh ids (v::vs)=(match fj k hh v,bG bs r hh ids vs with
   | some x,some y=>some ((x,y):k.T×kS r)
   | _,_=>none):=rfl
  rw [e] at hd
  clear e
  refine ⟨v,vs,rfl,?_⟩
  generalize fj k hh v=o1 at hd ⊢
  generalize bG bs r hh ids vs=o2 at hd ⊢
  cases o1 with
  | none=>cases hd
  | some x1 =>
   cases o2 with
   | none=>cases hd
   | some y1=>have:=Option.some.inj hd;subst this;exact ⟨rfl,rfl⟩
theorem nX{bs:List BK}{ok:OK}{r:List RK}{hh:Heap}{ids:List Nat}{vs:List AV}{x:kS (.own ok::r)}(hd:bG bs (.own ok::r) hh ids vs=some x):∃v gu,vs=v::gu∧dB hh ok v=some x.1∧bG bs r hh ids gu=some x.2:=by
 cases vs with
 | nil=>cases hd
 | cons v vs =>
  have e:bG bs (.own ok::r) hh ids (v::vs)=(match dB hh ok v,bG bs r hh ids vs with
   | some x,some y=>some ((x,y):ok.T×kS r)
   | _,_=>none):=rfl
  rw [e] at hd
  clear e
  refine ⟨v,vs,rfl,?_⟩
  generalize dB hh ok v=o1 at hd ⊢
  generalize bG bs r hh ids vs=o2 at hd ⊢
  cases o1 with
  | none=>cases hd
  | some x1 =>
   cases o2 with
   | none=>cases hd
   | some y1=>have:=Option.some.inj hd;subst this;exact ⟨rfl,rfl⟩
theorem lU{bs:List BK}{b:Nat}{alts:List (Nat×Nat×Nat)}{r:List RK}{hh:Heap}{ids:List Nat}{vs:List AV}{x:kS (.dW b alts::r)}(hd:bG bs (.dW b alts::r) hh ids vs=some x):∃v gu,vs=v::gu∧mi bs hh ids b alts v=some x.1∧bG bs r hh ids gu=some x.2:=by
 cases vs with
 | nil=>cases hd
 | cons v vs =>
  have e:bG bs (.dW b alts::r) hh ids (v::vs)=(match mi bs hh ids b alts v,bG bs r hh ids vs with
   | some x,some y=>some ((x,y):Option (Fin alts.length×Nat)×kS r)
   | _,_=>none):=rfl
  rw [e] at hd
  clear e
  refine ⟨v,vs,rfl,?_⟩
  generalize mi bs hh ids b alts v=o1 at hd ⊢
  generalize bG bs r hh ids vs=o2 at hd ⊢
  cases o1 with
  | none=>cases hd
  | some x1 =>
   cases o2 with
   | none=>cases hd
   | some y1=>have:=Option.some.inj hd;subst this;exact ⟨rfl,rfl⟩
theorem nY{bs:List BK}{c:List CK}{r:List RK}{hh:Heap}{ids:List Nat}{vs:List AV}{x:kS (.agg c::r)}(hd:bG bs (.agg c::r) hh ids vs=some x):∃cs gu,vs=.agg cs::gu∧cC c hh cs=some x.1∧bG bs r hh ids gu=some x.2:=by
 cases vs with
 | nil=>cases hd
 | cons v vs =>
  have e:bG bs (.agg c::r) hh ids (v::vs)=(match yl c hh v,bG bs r hh ids vs with
   | some x,some y=>some ((x,y):o6 c×kS r)
   | _,_=>none):=rfl
  rw [e] at hd
  clear e
  have key:yl c hh v=some x.1∧bG bs r hh ids vs=some x.2:=by
   generalize yl c hh v=o1 at hd ⊢
   generalize bG bs r hh ids vs=o2 at hd ⊢
   cases o1 with
   | none=>cases hd
   | some x1 =>
    cases o2 with
    | none=>cases hd
    | some y1=>have:=Option.some.inj hd;subst this;exact ⟨rfl,rfl⟩
  obtain ⟨h1,h2⟩:=key
  unfold yl at h1
  split at h1
  ·exact ⟨_,vs,rfl,h1,h2⟩
  ·cases h1
theorem gx{bs:List BK}{hh:Heap}{ids:List Nat}:∀(rs:List RK) (vs:List AV) (x:kS rs),bG bs rs hh ids vs=some x→vs.length=rs.length
 | [],[],_,_=>rfl
 | [],_::_,_,h=>by cases h
 | .val k::r,vs,x,h=>by obtain ⟨v,gu,rfl,_,h2⟩:=nW h;simp [gx r gu x.2 h2]
 | .own ok::r,vs,x,h=>by obtain ⟨v,gu,rfl,_,h2⟩:=nX h;simp [gx r gu x.2 h2]
 | .dW _ _::r,vs,x,h=>by obtain ⟨v,gu,rfl,_,h2⟩:=lU h;simp [gx r gu x.2 h2]
 | .agg _::r,vs,x,h=>by obtain ⟨v,gu,rfl,_,h2⟩:=nY h;simp [gx r gu x.2 h2]
theorem ic{bs:List BK}{hh:Heap}{ids:List Nat}:∀(rs:List RK) (vs:List AV) (m:Nat) (x:kS rs),bG bs rs hh ids vs=some x→(cr rs vs m x).filterMap (·.2.1)=dx rs vs
 | [],vs,_,_,_=>by cases vs<;>rfl
 | .own ok::r,vs,m,x,h=>by
  obtain ⟨v,gu,rfl,_,h2⟩:=nX h
  simp only [cr,dx,List.headD_cons,List.tail_cons]
  rw [dz,ic r gu (m+1) x.2 h2]
  simp only []
  rw [uZ]
 | .val k::r,vs,m,x,h=>by
  obtain ⟨v,gu,rfl,_,h2⟩:=nW h
  simp only [cr,dx,List.tail_cons]
  exact ic r gu (m+1) x.2 h2
 | .dW _ _::r,vs,m,x,h=>by
  obtain ⟨v,gu,rfl,_,h2⟩:=lU h
  simp only [cr,dx,List.tail_cons]
  exact ic r gu (m+1) x.2 h2
 | .agg c::r,vs,m,x,h=>by
  obtain ⟨cs,gu,rfl,h1,h2⟩:=nY h
  simp only [cr,dx,List.headD_cons,List.tail_cons,AV.cells]
  have e1:(dt c m cs x.1).filterMap (·.2.1)=fe c cs:=nS c m hh cs x.1 h1
  rw [List.filterMap_append,ic r gu (m+1) x.2 h2]
  exact congrArg (·++_) e1
theorem js{hd:Hp}{bs:List BK}{hh:Heap}{ids:List Nat}:∀(rs:List RK) (vs:List AV) (m:Nat) (x:kS rs),bG bs rs hh ids vs=some x→(∀s∈dx rs vs,hd s=hh.get s)→∀e∈cr rs vs m x,tE Z ψ hd w h' ψ' e
 | [],_,_,_,_,_,e,he=>by simp [cr] at he
 | .own ok::r,vs,m,x,h,hk,e,he=>by
  obtain ⟨v,gu,rfl,h1,h2⟩:=nX h
  simp only [cr,dx,List.headD_cons,List.tail_cons] at he hk
  rcases List.mem_cons.1 he with rfl | he
  ·exact Jq h1 fun s hs=>hk s (List.mem_append_left _ hs)
  ·exact js r gu (m+1) x.2 h2 (fun s hs=>hk s (List.mem_append_right _ hs)) e he
 | .val k::r,vs,m,x,h,hk,e,he=>by
  obtain ⟨v,gu,rfl,h1,h2⟩:=nW h
  exact js r gu (m+1) x.2 h2 hk e he
 | .dW _ _::r,vs,m,x,h,hk,e,he=>by
  obtain ⟨v,gu,rfl,h1,h2⟩:=lU h
  exact js r gu (m+1) x.2 h2 hk e he
 | .agg c::r,vs,m,x,h,hk,e,he=>by
  obtain ⟨cs,gu,rfl,h1,h2⟩:=nY h
  simp only [cr,dx,List.headD_cons,List.tail_cons,AV.cells] at he hk
  rcases List.mem_append.1 he with he | he
  ·exact qH c m cs x.1 h1 (fun s hs=>hk s (List.mem_append_left _ hs)) e he
  ·exact js r gu (m+1) x.2 h2 (fun s hs=>hk s (List.mem_append_right _ hs)) e he
theorem u7{hh:Heap}{id:Nat}:∀(c7:List CK) (c n:Nat) (cs:List AV) (x:o6 c7),cC c7 hh cs=some x→fk c7 c=true→cs[lN c7 c]? = some (.bF id)→hh.get id≠none∧∃o,(n+c,some id,o)∈dt c7 n cs x
 | [],c,n,cs,x,_,h,_=>by simp [fk] at h
 | .val k::r,0,n,cs,x,_,h,_=>by simp [fk] at h
 | .val k::r,c+1,n,cs,x,hd,h,hc=>by
  obtain ⟨_,h2⟩:=nR hd
  obtain ⟨h3,o,h4⟩:=u7 r c (n+1) (cs.drop k.sz) x.2 h2 (by simpa [fk] using h) (by rw [List.getElem?_drop];simpa [lN] using hc)
  exact ⟨h3,o,by rw [show n+(c+1)=n+1+c by omega];exact h4⟩
 | .own ok::r,0,n,cs,x,hd,h,hc=>by
  obtain ⟨c0,cs',rfl,h1,h2⟩:=kY hd
  simp only [lN,List.getElem?_cons_zero,Option.some.injEq] at hc
  subst hc
  rcases kZ h1 with ⟨h3,_⟩ | ⟨lK,h3,h4⟩
  ·cases h3
  ·cases h3
   exact ⟨by rw [h4];simp,_,by simp only [dt,List.headD_cons,nI,List.head?_cons];exact List.mem_cons_self⟩
 | .own ok::r,c+1,n,cs,x,hd,h,hc=>by
  obtain ⟨c0,cs',rfl,h1,h2⟩:=kY hd
  obtain ⟨h3,o,h4⟩:=u7 r c (n+1) cs' x.2 h2 (by simpa [fk] using h) (by simp only [lN] at hc;rw [Nat.add_comm] at hc;simpa using hc)
  exact ⟨h3,o,by rw [show n+(c+1)=n+1+c by omega];simp only [dt,List.tail_cons];exact List.mem_cons_of_mem _ h4⟩
theorem yX{hh:Heap}{id c:Nat}:∀(bs:List BK) (b n:Nat) (is is':List Nat) (x:uL bs) (bk:BK) (bi:Nat) (ty:TypeId) (cs:List AV),cO bs hh is=some x→is'.length=bs.length→bs[b]? = some bk→is[b]? = some bi→hh.get bi=some (.box ty cs) →
  fk bk.c7 c=true→cs[lN bk.c7 c]? = some (.bF id)→hh.get id≠none∧∃o,(n+16 * b+c,some id,o)∈ck bs hh is is' n x
 | [],b,n,is,is',x,bk,bi,ty,cs,_,_,h,_,_,_,_=>by simp at h
 | b0::r,b,n,[],is',x,bk,bi,ty,cs,hd,_,_,_,_,_,_=>by cases hd
 | b0::r,b,n,i::is,[],x,bk,bi,ty,cs,_,hl,_,_,_,_,_=>by simp at hl
 | b0::r,0,n,i::is,i'::is',x,bk,bi,ty,cs,hd,hl,h1,h2,h3,h4,h5=>by
  obtain ⟨g0,g3⟩:=eI hd
  simp only [List.getElem?_cons_zero,Option.some.injEq] at h1 h2
  subst h1;subst h2
  cases b0 with
  | own ok=>simp [BK.c7,fk] at h4
  | box ty0 c0 =>
   obtain ⟨cs',g1,g2⟩:=qG g0
   rw [g1] at h3
   cases h3
   obtain ⟨h6,o,h7⟩:=u7 c0 c n cs x.1 g2 h4 h5
   refine ⟨h6,o,?_⟩
   simp only [ck,dy]
   rw [nT g1]
   exact List.mem_append_left _ (List.mem_cons_of_mem _ (by simpa using h7))
 | b0::r,b+1,n,i::is,i'::is',x,bk,bi,ty,cs,hd,hl,h1,h2,h3,h4,h5=>by
  obtain ⟨_,g3⟩:=eI hd
  obtain ⟨h6,o,h7⟩:=yX r b (n+16) is is' x.2 bk bi ty cs g3 (by simpa using hl) (by simpa using h1) (by simpa using h2) h3 h4 h5
  refine ⟨h6,o,?_⟩
  rw [show n+16 * (b+1)+c=n+16+16 * b+c by omega]
  simp only [ck]
  exact List.mem_append_right _ h7
theorem yY{c:List CK}{cs:List AV}{id s off:Nat}{a:Nat×Nat×Nat}(h:wa c cs id s off a=true):cs[lN c a.1]? = some (.bF id)∧s=a.2.1∧off=a.2.2∧fk c a.1=true:=by
 simp only [wa,Bool.and_eq_true,decide_eq_true_eq] at h
 obtain ⟨h1,h2,h3,h4⟩:=h
 refine ⟨?_,h2,h3,h4⟩
 unfold Mt at h1
 split at h1
 ·rename_i e;rw [e];simp only [beq_iff_eq] at h1;rw [h1]
 ·cases h1
theorem KJ{bs:List BK}{hh:Heap}{ids:List Nat}{b:Nat}{alts:List (Nat×Nat×Nat)}{v:AV}{x:Option (Fin alts.length×Nat)}(hd:mi bs hh ids b alts v=some x):(v=.kR∧x=none) ∨
  ∃id i a bi bk ty cs,v=.ref id (alts.get a).2.1 i (alts.get a).2.2∧x=some (a,i)∧ids[b]? = some bi∧bs[b]? = some bk∧hh.get bi=some (.box ty cs)∧cs[lN bk.c7 (alts.get a).1]? = some (.bF id)∧fk bk.c7 (alts.get a).1=true:=by
 unfold mi at hd
 split at hd
 ·cases hd;exact .inl ⟨rfl,rfl⟩
 ·rename_i id s i off
  split at hd
  ·rename_i bi bk h1 h2
   split at hd
   ·rename_i ty cs h3
    split at hd
    ·rename_i a h4
     cases hd
     have h4':wa bk.c7 cs id s off (alts.get a)=true:=by simpa using List.find?_some (p:=fun a=>wa bk.c7 cs id s off (alts.get a)) h4
     obtain ⟨h5,rfl,rfl,h6⟩:=yY h4'
     exact .inr ⟨id,i,a,bi,bk,ty,cs,rfl,rfl,h1,h2,h3,h5,h6⟩
    ·cases hd
   ·cases hd
  ·cases hd
 ·cases hd
theorem qJ{bs:List BK}{hh:Heap}{ids is' ids2:List Nat}{nb:Nat}{yb:uL bs}(g:Good Z ψ hh.get w B0 O)(hz:∀b,Z b→Z' b)(hb:cO bs hh ids=some yb)(hl:is'.length=bs.length)
  (MU:∀e∈ck bs hh ids is' nb yb,h' e.1≠none→ψ' e.1=jq ψ e.2.1):∀(rs:List RK) (vs:List AV) (m:Nat) (x:kS rs) (us:List Value),bG bs rs hh ids vs=some x →
  (∀id b,AV.bF id∈fC rs vs→hh.get id≠none→ob (ψ id)=some b→Z' b)→(∀e∈cr rs vs m x,h' e.1≠none→ψ' e.1=jq ψ e.2.1)→an Z ψ hh.get w vs us→an Z' ψ' h' w (aO rs ids2 nb m x) us
 | [],vs,m,x,us,hd,_,_,hr=>by
  have:=gx [] vs x hd
  have hv:vs=[]:=List.eq_nil_of_length_eq_zero this
  subst hv
  simpa only [aO,an] using hr
 | .val k::r,vs,m,x,us,hd,hf,iC,hr=>by
  obtain ⟨v,gu,rfl,h1,h2⟩:=nW hd
  simp only [an] at hr
  obtain ⟨u,iz,rfl,h3,h4⟩:=hr
  simp only [aO,an]
  simp only [fC] at hf
  exact ⟨u,iz,rfl,qC g hz (fun id b bO=>hf id b (List.mem_append_left _ bO)) h1 h3,qJ g hz hb hl MU r gu (m+1) x.2 iz h2 (fun id b bO=>hf id b (List.mem_append_right _ bO)) iC h4⟩
 | .own ok::r,vs,m,x,us,hd,hf,iC,hr=>by
  obtain ⟨v,gu,rfl,h1,h2⟩:=nX hd
  simp only [an] at hr
  obtain ⟨u,iz,rfl,h3,h4⟩:=hr
  simp only [aO,an]
  simp only [cr,List.headD_cons,List.tail_cons] at iC
  exact ⟨u,iz,rfl,Du h1 h3 (fun hn=>iC _ List.mem_cons_self hn),qJ g hz hb hl MU r gu (m+1) x.2 iz h2 hf (fun e he=>iC e (List.mem_cons_of_mem _ he)) h4⟩
 | .dW b alts::r,vs,m,x,us,hd,hf,iC,hr=>by
  obtain ⟨v,gu,rfl,h1,h2⟩:=lU hd
  simp only [an] at hr
  obtain ⟨u,iz,rfl,h3,h4⟩:=hr
  simp only [aO,an]
  refine ⟨u,iz,rfl,?_,qJ g hz hb hl MU r gu (m+1) x.2 iz h2 hf iC h4⟩
  rcases KJ h1 with ⟨rfl,h5⟩ | ⟨id,i,al,bi,bk,ty,cs,rfl,h5,h6,h7,h8,h9,mq⟩
  ·have:x.1=none:=h5
   rw [this]
   simpa only [te,av] using h3
  ·have:x.1=some (al,i):=h5
   rw [this]
   obtain ⟨w7,o,Ho⟩:=yX bs b nb ids is' yb bk bi ty cs hb hl h7 h6 h8 mq h9
   simp only [te,av] at h3 ⊢
   obtain ⟨ad,Qg,Sw⟩:=h3
   refine ⟨ad,Qg,fun hn => ?_⟩
   rw [MU _ Ho hn,Sw w7];rfl
 | .agg c::r,vs,m,x,us,hd,hf,iC,hr=>by
  obtain ⟨cs,gu,rfl,h1,h2⟩:=nY hd
  simp only [an] at hr
  obtain ⟨u,iz,rfl,h3,h4⟩:=hr
  simp only [aO,an]
  simp only [fC,AV.cells] at hf
  simp only [cr,List.headD_cons,List.tail_cons,AV.cells] at iC
  refine ⟨u,iz,rfl,?_,qJ g hz hb hl MU r gu (m+1) x.2 iz h2 (fun id b bO=>hf id b (List.mem_append_right _ bO)) (fun e he=>iC e (List.mem_append_right _ he)) h4⟩
  simp only [av] at h3 ⊢
  obtain ⟨ws,rfl,h5⟩:=h3
  exact ⟨ws,rfl,qF g hz c m cs x.1 _ h1 (fun id b bO=>hf id b (List.mem_append_left _ bO)) (fun e he=>iC e (List.mem_append_left _ he)) h5⟩
end Go.Vs
