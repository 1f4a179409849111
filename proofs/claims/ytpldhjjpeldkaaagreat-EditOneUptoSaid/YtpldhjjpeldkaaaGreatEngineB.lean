/- The value semantics is sound, operation by operation. -/
import Derived.Test.YtpldhjjpeldkaaaGreatEngineA
import Derived.Laws.StructEq
import Derived.Laws.Slices
import Derived.Laws.Strings
import Derived.MapKept
namespace Go.Vs
variable {P:Program} {Z Z':Nat→Prop} {ψ ψ':Nat→Value} {h h':Hp} {w w':World} {B0:Nat} {O:Nat→Prop} {N:Nat→Prop}
def bE.hp(h:Hp):bE→Hp
 | .val _=>h
 | .new _ os=>fun i=>match Heap.get os i with
  | some o=>some o
  | none=>h i
 | .wr _ h'=>h'.get
theorem gZ(id:Nat)(o:Ob)(h:Hp):(fun i=>match Heap.get [(id,o)] i with | some o=>some o | none=>h i)=dJ h id (some o):=by
 funext i
 simp only [Heap.get,dJ]
 by_cases e:i=id
 ·subst e;simp
 ·rw [if_neg (fun x=>e x.symm),if_neg e]
theorem lP(hh:Heap)(id:Nat)(o:Ob):(hh.set id o).get=dJ hh.get id (some o):=by
 funext i
 by_cases e:i=id
 ·subst e;rw [Heap.DI,bg]
 ·rw [Heap.H3 e,cK _ _ e]
theorem tN(hh:Heap)(id:Nat):(hh.del id).get=dJ hh.get id none:=by
 funext i
 by_cases e:i=id
 ·subst e;rw [Heap.fS,bg]
 ·rw [Heap.gX e,cK _ _ e]
theorem zi(hh:Heap)(id:Nat)(o:Ob):Heap.get ((id,o)::hh)=dJ hh.get id (some o):=by
 funext i
 simp only [Heap.get,dJ]
 by_cases e:i=id
 ·subst e;simp
 ·rw [if_neg (fun x=>e x.symm),if_neg e]
def gD(P:Program)(ρC:Operand→Value)(o:Oper)(Z:Nat→Prop)(ψ:Nat→Value)(h:Hp)(w:World)(B0:Nat)(O N:Nat→Prop)(e:bE):Prop :=
 ∃V w' Z' ψ',((execOp ρC o).run P w=.ok (.value V) w'∨((execOp ρC o).run P w=.ok .skip w'∧V=undef))∧Next Z ψ h w B0 O N Z' ψ' (e.hp h) w'∧ax Z' ψ' (e.hp h) w' e.v V
theorem gD.val{ρC:Operand→Value}{o:Oper}{x:AV}(g:Good Z ψ h w B0 O){V:Value}(hr:(execOp ρC o).run P w=.ok (.value V) w)(hx:ax Z ψ h w x V):gD P ρC o Z ψ h w B0 O N (.val x) :=
 ⟨V,w,Z,ψ,.inl hr,Next.refl g,hx⟩
theorem M5{ty:TypeId}{k:K}{xs:List k.T}{id n:Nat}{x:k.T}(g:Good Z ψ h w B0 O)(hg:h id=some (.own (.row ty k) xs))(hx:xs[n]? = some x) :
  ∃gg us,Rh (ψ id)=gg∧aG Z w k x us∧∀(j:Nat) u,us[j]? = some u→w.cell? ⟨gg,n * k.sz+j,none⟩=some u:=by
 obtain ⟨vs,ho,hv⟩:=g.row id (.row ty k) xs hg
 have hn:n<xs.length:=(List.getElem?_eq_some_iff.1 hx).1
 obtain ⟨hl,e⟩:=ho
 rcases e with ⟨h0,_⟩ | ⟨gg,cap,cur,e1,_,e3,_,_,_,e7⟩
 ·omega
 ·refine ⟨gg,_,by rw [e1];rfl,hv n x hx,fun j u hu => ?_⟩
  rw [List.getElem?_take] at hu
  split at hu
  ·rw [List.getElem?_drop,←e7,List.getElem?_take] at hu
   split at hu
   ·simp only [World.cell?,e3];simpa using hu
   ·cases hu
  ·cases hu
theorem sK{hh:Heap}(g:Good Z ψ h w B0 O)(bu:∀id o,hh.get id=some o→h id=some o){t:TypeId}{a:AV}{v:Value}{e:bE}(hv:ax Z ψ h w a v)(he:kV P hh t a some=some e) :
  ∃x V,e=.val x∧(Instr.loadAt t v).run P w=.ok V w∧ax Z ψ h w x V:=by
 unfold kV at he
 split at he
 ·rename_i id s i off
  simp only [ax] at hv
  obtain ⟨a,rfl,ha⟩:=hv
  split at he
  ·rename_i ty cs hg
   have uY:=bu _ _ hg
   have E9:=ha (by rw [uY];simp)
   obtain ⟨gg,vs,e1,e2,e3,e4⟩:=g.box id ty cs uY
   split at he
   ·rename_i hi
    subst hi
    split at he
    ·rename_i x hx
     cases he
     rw [e1] at E9
     simp only [Rh,Nat.zero_mul,Nat.zero_add] at E9
     subst E9
     obtain ⟨V,h1,h2⟩:=jn (a:=⟨gg,off,none⟩) (e3.drop off) (fun j u hu=>by
      rw [cf];simp only [World.cell?,e2];rw [List.getElem?_drop] at hu;simpa using hu) hx
     exact ⟨x,V,rfl,h1,h2⟩
    ·cases he
   ·cases he
  ·rename_i ty kk xs hg
   have uY:=bu _ _ hg
   have E9:=ha (by rw [uY];simp)
   split at he
   ·rename_i hs
    subst hs
    obtain ⟨x,hx,he⟩:=Option.bind_eq_some_iff.1 he
    split at he
    ·rename_i y hy
     cases he
     obtain ⟨gg,us,h1,h2,h3⟩:=M5 g uY hx
     rw [h1] at E9;subst E9
     obtain ⟨V,h4,h5⟩:=jn (a:=⟨gg,i * kk.sz+off,none⟩) ((gP (ψ:=ψ) (h:=h) h2).drop off) (fun j u hu=>by
      rw [cf,Nat.add_assoc];exact h3 _ _ (by rw [List.getElem?_drop] at hu;exact hu)) hy
     exact ⟨y,V,rfl,h4,h5⟩
    ·cases he
   ·cases he
  ·cases he
 ·rename_i kk x off
  split at he
  ·rename_i y hy
   cases he
   simp only [ax] at hv
   obtain ⟨a,us,rfl,_,h2,h3⟩:=hv
   obtain ⟨V,h4,h5⟩:=jn ((gP (ψ:=ψ) (h:=h) h2).drop off) (fun j u hu=>h3 j u (by rw [List.getElem?_drop] at hu;exact hu)) hy
   exact ⟨y,V,rfl,h4,h5⟩
  ·cases he
 ·cases he
theorem mz{t e:TypeId}(he:wE P t=some e):P.underlying t=some (.slice e):=by
 unfold wE at he
 split at he
 ·cases he;assumption
 ·cases he
theorem mA{t e:TypeId}(ht:P.underlying t=some (.slice e)){i:TypeInfo}(hi:P.info? e=some i)(a:Addr)(n c:Nat)(k:IntKind)(j:Int)(h0:0≤j)(h1:j<n) :
  (Instr.indexAt t (.slice (some a) n c) (.int k j)).run P w=.ok (.pointer (some (a.add (j.toNat * P.cellsOf e)))) w:=by
 simp [Instr.indexAt,asIntOf,run_underlying ht,h0,h1,dh hi]
theorem K0{α:Type}{xs:List α}{i:Int}{x:α}(hx:aS xs i=some x):0≤i∧i<xs.length∧xs[i.toNat]? = some x:=by
 unfold aS at hx
 split at hx
 ·rename_i h0
  have:=(List.getElem?_eq_some_iff.1 hx).1
  exact ⟨h0,by omega,hx⟩
 ·cases hx
theorem oW{hh:Heap}(g:Good Z ψ h w B0 O)(bu:∀id o,hh.get id=some o→h id=some o){t:TypeId}{x i:AV}{v u:Value}{e:bE}(hv:ax Z ψ h w x v)(hu:ax Z ψ h w i u)(he:dg P hh t x i some=some e) :
  ∃y V,e=.val y∧(Instr.indexAt t v u).run P w=.ok V w∧ax Z ψ h w y V:=by
 unfold dg at he
 split at he
 ·cases he
 ·rename_i et het
  have ht:=mz het
  ·skip
   split at he
   ·rename_i ex JJ xs ik n
    simp only [ax] at hv hu
    subst hu
    split at he
    ·rename_i hs
     obtain ⟨y,hy,he⟩:=Option.bind_eq_some_iff.1 he
     cases he
     obtain ⟨h0,h1,h2⟩:=K0 hy
     obtain ⟨hk,_⟩:=hv
     simp only [aG] at hk
     obtain ⟨v',zj,A,c,rfl,_,_,HK⟩:=hk
     cases zj
     obtain ⟨a,us,rfl,hz,hr,hc⟩:=HK _ _ h2
     have hi:∃i,P.info? et=some i:=by
      cases hi:P.info? et with
      | some i=>exact ⟨i,rfl⟩
      | none=>exfalso;have:=JJ.gW;simp [Program.cellsOf,hi] at hs;omega
     obtain ⟨inf,hi⟩:=hi
     refine ⟨_,_,rfl,mA ht hi a xs.length c ik n h0 h1,?_⟩
     simp only [ax]
     refine ⟨_,us,rfl,by rw [cr];exact hz,hr,fun j u hu => ?_⟩
     rw [tH,hs];exact hc j u (by simpa using hu)
    ·cases he
   ·rename_i id ik n
    split at he
    ·rename_i ty JJ xs hg
     have uY:=bu _ _ hg
     split at he
     ·rename_i hs
      cases zh:(decide (0≤n)&&decide (n<(xs.length:Int))) with
      | false=>rw [zh] at he;cases he
      | true =>
       rw [zh] at he
       cases he
       simp only [Bool.and_eq_true,decide_eq_true_eq] at zh
       simp only [ax] at hv hu
       subst hu
       have hvv:=hv.2 (by rw [uY];simp)
       obtain ⟨vs,⟨_,e⟩,_⟩:=g.row id (.row ty JJ) xs uY
       rcases e with ⟨h0,_⟩ | ⟨gg,cap,cur,e1,_,e3,_⟩
       ·omega
       ·have hi:∃i,P.info? et=some i:=by
         cases hi:P.info? et with
         | some i=>exact ⟨i,rfl⟩
         | none=>exfalso;have:=JJ.gW;simp [Program.cellsOf,hi] at hs;omega
        obtain ⟨inf,hi⟩:=hi
        rw [hvv,e1]
        refine ⟨_,_,rfl,mA ht hi _ xs.length cap ik n zh.1 zh.2,?_⟩
        simp only [ax]
        refine ⟨_,rfl,fun _ => ?_⟩
        rw [e1,hs,cf];simp [Rh]
     ·cases he
    ·cases he
   ·cases he
theorem rN{t:TypeId}(h:P.cellsOf t≠0):∃i,P.info? t=some i:=by
 cases hi:P.info? t with
 | some i=>exact ⟨i,rfl⟩
 | none=>exact absurd (by simp [Program.cellsOf,hi]) h
theorem rO{t:TypeId}{f n:Nat}{ft:TypeId}(hf:gu P t f=some (n,ft))(hc:P.cellsOf ft≠0)(a:Addr) :
  (Instr.fieldAt t (.pointer (some a)) f).run P w=.ok (.pointer (some (a.add n))) w:=by
 unfold gu at hf
 split at hf
 ·rename_i fs ht
  obtain ⟨fd,hfd,he⟩:=Option.map_eq_some_iff.1 hf
  cases he
  obtain ⟨i,hi⟩:=rN hc
  have hs:=dh (P:=P) (w:=w) hi
  simp only [Instr.fieldAt,Sem.run_bind,run_underlying ht,Result.andThen_ok,hfd,Instr.sureAddr,Sem.run_pure,fieldPlace,hs]
  rw [if_neg hc]
  rfl
 ·cases hf
theorem rP{t:TypeId}{f n:Nat}{ft:TypeId}(hf:gu P t f=some (n,ft))(hc:P.cellsOf ft≠0){id s i off:Nat}{v:Value}(hv:ax Z ψ h w (.ref id s i off) v) :
  ∃V,(Instr.fieldAt t v f).run P w=.ok V w∧ax Z ψ h w (.ref id s i (off+n)) V:=by
 simp only [ax] at hv ⊢
 obtain ⟨a,rfl,ha⟩:=hv
 refine ⟨_,rO hf hc a,_,rfl,fun bO => ?_⟩
 rw [ha bO,cf,Nat.add_assoc]
theorem tO{t:TypeId}{f n:Nat}{ft:TypeId}(hf:gu P t f=some (n,ft))(hc:P.cellsOf ft≠0){k:K}{x:k.T}{off:Nat}{v:Value}(hv:ax Z ψ h w (.fp k x off) v) :
  ∃V,(Instr.fieldAt t v f).run P w=.ok V w∧ax Z ψ h w (.fp k x (off+n)) V:=by
 simp only [ax] at hv ⊢
 obtain ⟨a,us,rfl,hz,hr,Co⟩:=hv
 refine ⟨_,rO hf hc a,_,us,rfl,by rw [cr];exact hz,hr,fun j u hu => ?_⟩
 rw [tH]
 exact Co (n+j) u (by rw [←Nat.add_assoc];exact hu)
theorem Fj{t ft:TypeId}{f n:Nat}(hf:gu P t f=some (n,ft)){cs:List AV}{x:AV}{v:Value}(hv:ax Z ψ h w (.agg cs) v)(hx:dM P ft (cs.drop n)=some x) :
  ∃V,(Instr.field t v f).run P w=.ok V w∧ax Z ψ h w x V:=by
 simp only [ax] at hv
 obtain ⟨vs,rfl,hl⟩:=hv
 have hd:=hl.drop n
 have hlen:=hd.length
 unfold gu at hf
 split at hf
 ·rename_i fs ht
  obtain ⟨fd,hfd,he⟩:=Option.map_eq_some_iff.1 hf
  cases he
  unfold dM at hx
  split at hx
  ·rename_i hb
   split at hx
   ·rename_i hle
    cases hx
    obtain ⟨i,hi⟩:=wK hb
    refine ⟨.agg (vs.extract fd.offset (fd.offset+P.cellsOf fd.type)),?_,?_⟩
    ·simp [Instr.field,run_underlying ht,hfd,asAgg,part,fF hb,dh hi]
    ·simp only [ax]
     refine ⟨_,rfl,?_⟩
     rw [Array.toList_extract,List.extract_eq_take_drop,Nat.add_sub_cancel_left]
     exact hd.take _
   ·cases hx
  ·rename_i hb
   split at hx
   ·rename_i c r hcr
    cases hx
    rw [hcr] at hd
    simp only [ao] at hd
    obtain ⟨u,us,hu,h1,_⟩:=hd
    refine ⟨u,?_,h1⟩
    have hg:vs[fd.offset]? = some u:=by
     have:(vs.toList.drop fd.offset)[0]? = some u:=by rw [hu];rfl
     rw [List.getElem?_drop] at this;simpa using this
    simp [Instr.field,run_underlying ht,hfd,asAgg,part,fF hb,hg]
   ·cases hx
  ·cases hx
 ·cases hf
theorem K1{hh:Heap}(g:Good Z ψ h w B0 O)(bu:∀id o,hh.get id=some o→h id=some o){x:AV}{v:Value}{e:bE}(hv:ax Z ψ h w x v)(he:Ck hh x some=some e) :
  ∃n:Nat,e=.val (.int .i64 (n:Int))∧((∃s,x=.str s∧v=.string s∧n=s.size)∨∃A c,v=.slice A n c):=by
 unfold Ck at he
 split at he
 ·rename_i s hs
  cases he
  have hx:x=.str s:=by
   cases x with
   | bF id=>simp only [cF] at hs;split at hs<;>cases hs
   | str s'=>simp only [cF] at hs;exact hs
   | _=>simp only [cF] at hs<;>cases hs
  subst hx
  simp only [ax] at hv
  exact ⟨_,rfl,.inl ⟨s,rfl,hv,rfl⟩⟩
 ·rename_i ex k xs hs
  cases he
  have M6:=Cn (Z':=fun b=>Z b∨Own ψ h b) (g.sub bu) (fun b hb=>.inl hb) (fun id b _ bj hb=>.inr (by
   obtain ⟨o,ho⟩:=Option.ne_none_iff_exists'.1 bj
   exact ⟨id,by rw [bu id o ho];simp,hb⟩)) (hv.o6 bu)
  rw [hs] at M6
  simp only [ax,aG] at M6
  obtain ⟨⟨v',zj,A,c,rfl,_⟩,_⟩:=M6
  cases zj
  exact ⟨_,rfl,.inr ⟨A,c,rfl⟩⟩
 ·rename_i hs
  cases he
  have hx:x=.fB:=by
   cases x with
   | bF id=>simp only [cF] at hs;split at hs<;>cases hs
   | fB=>rfl
   | _=>simp only [cF] at hs<;>cases hs
  subst hx
  simp only [ax] at hv
  exact ⟨0,rfl,.inr ⟨_,_,hv⟩⟩
 ·cases he
def dK(Z:Nat→Prop)(ψ:Nat→Value)(h:Hp)(w:World):Option AV→Option Value→Prop
 | none,none=>True
 | some a,some v=>ax Z ψ h w a v
 | _,_=>False
theorem cd(k:IntKind)(i:Int)(y:Nat)(code:BoundsCode)(h0:0≤i)(h1:i≤y):(Instr.sliceBound (.int k i) y code).run P w=.ok i.toNat w:=by
 simp [Instr.sliceBound,asIntOf,h0,h1]
theorem sL{b:Bool}{n c:Nat}(hc:n≤c){lo hi mx:Option AV}{Ia sF mx':Option Value}{l u:Int}(h1:dK Z ψ h w lo Ia)(h2:dK Z ψ h w hi sF)(h3:dK Z ψ h w mx mx')
  (hb:kU n lo hi=some (l,u)) (ho:aX n l u=true) (hm:mx=none∨(mx=some (.int .i64 u)∧hi≠none)) :
  (Instr.sliceBounds b n c Ia sF mx').run P w=.ok (l.toNat,u.toNat,if mx=none then c else u.toNat) w:=by
 simp only [aX,Bool.and_eq_true,decide_eq_true_eq] at ho
 obtain ⟨h4,h5,h6⟩:=ho
 have huc:u≤(c:Int):=by omega
 unfold kU at hb
 rcases hm with rfl | ⟨rfl,bj⟩
 ·cases mx' with
  | some _=>exact h3.elim
  | none =>
   split at hb
   all_goals first | (cases hb;done) | skip
   ·cases hb
    cases Ia with
    | some _=>exact h1.elim
    | none =>
     cases sF with
     | some _=>exact h2.elim
     | none=>simp [Instr.sliceBounds]
   ·cases hb
    cases Ia with
    | none=>exact h1.elim
    | some v =>
     simp only [dK,ax] at h1
     subst h1
     cases sF with
     | some _=>exact h2.elim
     | none=>simp [Instr.sliceBounds,cd .i64 l n _ h4 h5]
   ·cases hb
    cases Ia with
    | some _=>exact h1.elim
    | none =>
     cases sF with
     | none=>exact h2.elim
     | some v =>
      simp only [dK,ax] at h2
      subst h2
      cases b<;>simp [Instr.sliceBounds,cd .i64 u c _ (by omega) huc]
   ·cases hb
    cases Ia with
    | none=>exact h1.elim
    | some v =>
     simp only [dK,ax] at h1
     subst h1
     cases sF with
     | none=>exact h2.elim
     | some v =>
      simp only [dK,ax] at h2
      subst h2
      have hx:l≤((u.toNat:Nat):Int):=by omega
      cases b<;>simp [Instr.sliceBounds,cd .i64 u c _ (by omega) huc,cd .i64 l u.toNat _ h4 hx]
 ·cases mx' with
  | none=>exact h3.elim
  | some m =>
   simp only [dK,ax] at h3
   subst h3
   have huu:u≤((u.toNat:Nat):Int):=by omega
   have hx:l≤((u.toNat:Nat):Int):=by omega
   split at hb
   all_goals first | (cases hb;done) | skip
   ·exact absurd rfl bj
   ·exact absurd rfl bj
   ·cases hb
    cases Ia with
    | some _=>exact h1.elim
    | none =>
     cases sF with
     | none=>exact h2.elim
     | some v =>
      simp only [dK,ax] at h2
      subst h2
      cases b<;>simp [Instr.sliceBounds,cd .i64 u c _ (by omega) huc,cd .i64 u u.toNat _ (by omega) huu]
   ·cases hb
    cases Ia with
    | none=>exact h1.elim
    | some v =>
     simp only [dK,ax] at h1
     subst h1
     cases sF with
     | none=>exact h2.elim
     | some v =>
      simp only [dK,ax] at h2
      subst h2
      cases b<;>simp [Instr.sliceBounds,cd .i64 u c _ (by omega) huc,cd .i64 u u.toNat _ (by omega) huu,cd .i64 l u.toNat _ h4 hx]
theorem nT{t e:TypeId}(ht:P.underlying t=some (.slice e)){kk:K}(ig:P.cellsOf e=kk.sz){xs:List kk.T}{v:Value}(hr:aG Z w (.sl kk) xs [v]){lo hi mx:Option AV}{Ia sF mx':Option Value}{l u:Int}
  (h1:dK Z' ψ h w lo Ia) (h2:dK Z' ψ h w hi sF) (h3:dK Z' ψ h w mx mx') (hb:kU xs.length lo hi=some (l,u)) (ho:aX xs.length l u=true) (hm:mx=none∨(mx=some (.int .i64 u)∧hi≠none)) :
  ∃V,(Instr.sliceAt t v Ia sF mx').run P w=.ok V w∧aG Z w (.sl kk) (cut xs l u) [V]∧(mx≠none→∃A c,V=.slice A c c):=by
 simp only [aG] at hr
 obtain ⟨v',zj,A,c,rfl,hl,hn,HK⟩:=hr
 cases zj
 have db:=sL (P:=P) (w:=w) (b:=true) hl h1 h2 h3 hb ho hm
 simp only [aX,Bool.and_eq_true,decide_eq_true_eq] at ho
 obtain ⟨h4,h5,h6⟩:=ho
 obtain ⟨i,hi⟩:=rN (P:=P) (t:=e) (by have:=kk.gW;omega)
 generalize MG:(if mx=none then c else u.toNat)=m at db
 have hmu:u.toNat≤m:=by
  rcases hm with rfl | ⟨rfl,_⟩
  ·simp at MG;omega
  ·simp at MG;omega
 have hmc:m≤c:=by
  rcases hm with rfl | ⟨rfl,_⟩
  ·simp at MG;omega
  ·simp at MG;omega
 have sG:(cut xs l u).length=u.toNat - l.toNat:=by
  unfold cut;rw [List.length_drop,List.length_take];omega
 refine ⟨.slice (if m=l.toNat then A else A.map (·.add (l.toNat * P.cellsOf e))) (u.toNat - l.toNat) (m - l.toNat),?_,?_,?_⟩
 ·simp [Instr.sliceAt,Instr.slice,run_underlying ht,db,dh hi]
 ·simp only [aG]
  refine ⟨_,rfl,_,_,by rw [sG],by rw [sG];omega,fun hA => ?_,fun j x hx => ?_⟩
  ·split at hA
   ·have:=hn hA;omega
   ·cases A with
    | none=>have:=hn rfl;omega
    | some a=>cases hA
  ·have hj:j<u.toNat - l.toNat:=by rw [←sG];exact (List.getElem?_eq_some_iff.1 hx).1
   have WR:xs[l.toNat+j]? = some x:=by
    unfold cut at hx
    rw [List.getElem?_drop,List.getElem?_take,if_pos (by omega)] at hx
    exact hx
   obtain ⟨a,us,rfl,hz,hr,hc⟩:=HK _ _ WR
   refine ⟨a.add (l.toNat * P.cellsOf e),us,by rw [if_neg (by omega)];rfl,by rw [cr];exact hz,hr,fun q y hy => ?_⟩
   rw [tH,ig]
   have:=hc q y hy
   rw [Nat.add_mul] at this
   rw [←Nat.add_assoc];exact this
 ·intro bj
  rcases hm with rfl | ⟨rfl,_⟩
  ·exact absurd rfl bj
  ·simp at MG
   exact ⟨_,_,by rw [←MG]⟩
theorem Fk{hh:Heap}(g:Good Z ψ h w B0 O)(bu:∀id o,hh.get id=some o→h id=some o){t e:TypeId}(ht:P.underlying t=some (.slice e)){x:AV}{v:Value}{lo hi mx:Option AV}{Ia sF mx':Option Value}{ef:bE}
  (hv:ax Z ψ h w x v) (h1:dK Z ψ h w lo Ia) (h2:dK Z ψ h w hi sF) (h3:dK Z ψ h w mx mx') (lQ:∀y hw,ef=.wr y hw→hh.get=h) (he:qC hh (P.cellsOf e) x lo hi mx some=some ef) (Ui:(P.info? e).isSome=true) :
  ∃V Z',(Instr.sliceAt t v Ia sF mx').run P w=.ok V w∧Next Z ψ h w B0 O N Z' ψ (ef.hp h) w∧ax Z' ψ (ef.hp h) w ef.v V:=by
 unfold qC at he
 split at he
 ·
  simp only [ax] at hv
  subst hv
  split at he
  ·rename_i l u hb
   cases ho:aX 0 l u with
   | false=>rw [ho] at he;cases he
   | true =>
    rw [ho] at he
    cases he
    have db:=sL (P:=P) (w:=w) (b:=true) (Nat.le_refl 0) h1 h2 h3 hb ho (.inl rfl)
    simp only [aX,Bool.and_eq_true,decide_eq_true_eq] at ho
    have hl0:l.toNat=0:=by omega
    have hu0:u.toNat=0:=by omega
    obtain ⟨i,hi⟩:=Option.isSome_iff_exists.1 Ui
    refine ⟨.slice none 0 0,Z,?_,Next.refl g,by simp only [bE.v,ax]⟩
    rw [hl0,hu0] at db
    simp [Instr.sliceAt,Instr.slice,run_underlying ht,db,dh hi]
  ·cases he
 ·
  rename_i ex kk xs
  simp only [ax] at hv
  split at he
  ·rename_i ig
   split at he
   ·rename_i l u hb
    split at he
    ·cases ho:aX xs.length l u with
     | false=>rw [ho] at he;cases he
     | true =>
      rw [ho] at he
      cases he
      obtain ⟨V,h4,h5,_⟩:=nT (P:=P) ht ig hv.1 h1 h2 h3 hb ho (.inl rfl)
      exact ⟨V,Z,h4,Next.refl g,by simp only [bE.v,bE.hp,ax];exact ⟨h5,by simp⟩⟩
    ·rename_i m
     cases ho:(aX xs.length l u&&(hi.isSome&&decide (m=u))) with
     | false=>rw [ho] at he;cases he
     | true =>
      rw [ho] at he
      cases he
      simp only [Bool.and_eq_true,decide_eq_true_eq] at ho
      obtain ⟨ho,WS,rfl⟩:=ho
      obtain ⟨V,h4,h5,h6⟩:=nT (P:=P) ht ig hv.1 h1 h2 h3 hb ho (.inr ⟨rfl,by intro e;rw [e] at WS;cases WS⟩)
      exact ⟨V,Z,h4,Next.refl g,by simp only [bE.v,bE.hp,ax];exact ⟨h5,fun _=>h6 (by simp)⟩⟩
    ·cases he
   ·cases he
  ·cases he
 ·
  rename_i id
  split at he
  ·rename_i ty kk xs hg
   have uY:=bu _ _ hg
   have hvv:=hv
   simp only [ax] at hvv
   have abC:=hvv.2 (by rw [uY];simp)
   obtain ⟨vs,M7,tP⟩:=g.row id (.row ty kk) xs uY
   let Z1:Nat→Prop:=fun b=>Z b∨ob (ψ id)=some b
   have hd:aG Z1 w (.sl kk) xs [v]:=by rw [abC];exact tJ M7 tP (fun b hb=>.inl hb) (fun b hb=>.inr hb)
   have S8:∀hw:Hp,hw=dJ h id none→Next Z ψ h w B0 O N Z1 ψ hw w:=by
    rintro hw rfl
    have hs:∀i o,dJ h id none i=some o→h i=some o:=fun i o hi=>by
     by_cases e:i=id
     ·subst e;rw [bg] at hi;cases hi
     ·rwa [cK _ _ e] at hi
    have gg:=g.freeze hs (fun b hb=>.inl hb) (fun b (hb:Z1 b)=>hb.imp (fun h=>h) (fun hb=>⟨id,by rw [uY];simp,bg _ _ _,hb⟩))
    refine ⟨fun b hb=>.inl hb,fun b hb=>hb.imp (fun h=>h) (fun hb=>.inl ⟨id,by rw [uY];simp,hb⟩),cT.refl _ _ _,fun i hi => ?_,gg⟩
    obtain ⟨o,ho⟩:=Option.ne_none_iff_exists'.1 hi
    exact .inl ⟨by rw [hs i o ho];simp,rfl⟩
   have M1:dK Z ψ h w lo Ia:=h1
   split at he
   ·rename_i ig
    split at he
    ·rename_i l u hb
     split at he
     ·cases ho:aX xs.length l u with
      | false=>rw [ho] at he;cases he
      | true =>
       rw [ho] at he
       cases he
       have heq:=lQ _ _ rfl
       obtain ⟨V,h4,h5,_⟩:=nT (P:=P) ht ig hd h1 h2 h3 hb ho (.inl rfl)
       exact ⟨V,Z1,h4,S8 _ (by simp only [bE.hp];rw [tN,heq]),by simp only [bE.v,bE.hp,ax];exact ⟨h5,by simp⟩⟩
     ·rename_i m
      cases ho:(aX xs.length l u&&(hi.isSome&&decide (m=u))) with
      | false=>rw [ho] at he;cases he
      | true =>
       rw [ho] at he
       cases he
       have heq:=lQ _ _ rfl
       simp only [Bool.and_eq_true,decide_eq_true_eq] at ho
       obtain ⟨ho,WS,rfl⟩:=ho
       obtain ⟨V,h4,h5,h6⟩:=nT (P:=P) ht ig hd h1 h2 h3 hb ho (.inr ⟨rfl,by intro e;rw [e] at WS;cases WS⟩)
       exact ⟨V,Z1,h4,S8 _ (by simp only [bE.hp];rw [tN,heq]),by simp only [bE.v,bE.hp,ax];exact ⟨h5,fun _=>h6 (by simp)⟩⟩
     ·cases he
    ·cases he
   ·cases he
  ·cases he
 ·cases he
end Go.Vs
set_option linter.unusedSimpArgs false
set_option linter.unusedVariables false
namespace Go.Vs
variable {P:Program} {Z Z':Nat→Prop} {ψ ψ':Nat→Value} {h h':Hp} {w w':World} {B0:Nat} {O:Nat→Prop} {N:Nat→Prop}
def kY(P:Program)(t:TypeId)(k:K):Prop :=
 ∀(Z:Nat→Prop) (w:World) (x y:k.T) (xs ys:Array Value),aG Z w k x xs.toList→aG Z w k y ys.toList →
  (Op.equal t (.agg xs) (.agg ys)).run P w=.ok (qA k x y) w∧(∀(op:BinOp) (a b:Operand),(eqGuard op t a b (.agg xs) (.agg ys)).run P w=.ok () w)∧∀e:Bool,(Instr.checkKey e 10000 t (.agg xs)).run P w=.ok () w
theorem vh(op:BinOp)(t:TypeId)(a b:Operand)(k k':IntKind)(x y:Int):(eqGuard op t a b (.int k x) (.int k' y)).run P w=.ok () w:=by cases op<;>simp [eqGuard]
theorem K2(op:BinOp)(t:TypeId)(a b:Operand)(x y:ByteArray):(eqGuard op t a b (.string x) (.string y)).run P w=.ok () w:=by cases op<;>simp [eqGuard]
theorem Ib(op:BinOp)(t:TypeId)(a b:Operand)(x y:Bool):(eqGuard op t a b (.bool x) (.bool y)).run P w=.ok () w:=by cases op<;>simp [eqGuard]
theorem Cr(op:BinOp)(t:TypeId)(a b:Operand)(x y:Option Addr):(eqGuard op t a b (.pointer x) (.pointer y)).run P w=.ok () w:=by cases op<;>simp [eqGuard]
def bP:AV→Value
 | .bool b=>.bool b
 | .int k n=>.int k n
 | .str s=>.string s
 | _=>undef
theorem jr(k:IntKind)(n:Int):ax Z ψ h w (.int k n) (bP (.int k n)):=by simp only [ax,bP]
theorem dR(b:Bool):ax Z ψ h w (.bool b) (bP (.bool b)):=by simp only [ax,bP]
theorem jI{t e:TypeId}(ht:P.underlying t=some (.pointer e))(a:Option Addr):(Op.equal t (.pointer a) (.pointer none)).run P w=.ok a.isNone w:=by
 have key:∀d,(Op.equalIn (d+1) t (.pointer a) (.pointer none)).run P w=.ok a.isNone w:=fun d=>by
  cases a<;>simp [Op.equalIn,run_underlying ht]
 exact key 9999
theorem M8{op:BinOp}{t:TypeId}{k:IntKind}{a b:Int}{v:AV}(hv:T7 op k a b=some v):∃V,(binOp op t (.int k a) (.int k b)).run P w=.ok V w∧ax Z ψ h w v V:=by
 cases op<;>simp only [T7] at hv<;>cases hv<;>first
  | (refine ⟨bP (.int _ _),?_,jr _ _⟩;simp [binOp,Op.intArith,Op.intCmp,bP];done)
  | (refine ⟨bP (.bool _),?_,dR _⟩;simp [binOp,Op.intArith,Op.intCmp,bP];done)
  | (refine ⟨bP (.int _ _),?_,jr _ _⟩;simp only [binOp,bP,ne_eq,not_true_eq_false,if_false];rfl)
theorem K3{Eqs:TypeId→Option K}(BG:∀t k,Eqs t=some k→kY P t k){op:BinOp}{t:TypeId}{xo yo:Operand}{x y:AV}{u v:Value}{e:bE}(hu:ax Z ψ h w x u)(hv:ax Z ψ h w y v)(he:wF P Eqs op t x y some=some e) :
  ∃r V,e=.val r∧((do eqGuard op t xo yo u v;binOp op t u v:Sem Value)).run P w=.ok V w∧ax Z ψ h w r V:=by
 unfold wF at he
 split at he
 ·rename_i k a k' b
  simp only [ax] at hu hv
  subst hu;subst hv
  split at he
  ·cases hb:decide (b<0) with
   | true=>rw [hb] at he;cases he
   | false =>
    rw [hb] at he;cases he
    have Uj:¬b<0:=by simpa using hb
    exact ⟨_,bP (.int _ _),rfl,by simp [vh,binOp,Op.shift,Uj,bP,WG],jr _ _⟩
  ·cases hb:decide (b<0) with
   | true=>rw [hb] at he;cases he
   | false =>
    rw [hb] at he;cases he
    have Uj:¬b<0:=by simpa using hb
    exact ⟨_,bP (.int _ _),rfl,by simp [vh,binOp,Op.shift,Uj,bP,kx],jr _ _⟩
  split at he
  ·rename_i hk
   subst hk
   simp only [Sem.run_bind,vh,Result.andThen_ok]
   split at he
   ·cases hb:(b==0) with
    | true=>rw [hb] at he;cases he
    | false =>
     rw [hb] at he;cases he
     have Uj:b≠0:=by simpa using hb
     exact ⟨_,bP (.int _ _),rfl,by simp [binOp,Op.intDiv,Uj,bP],jr _ _⟩
   ·cases hb:(b==0) with
    | true=>rw [hb] at he;cases he
    | false =>
     rw [hb] at he;cases he
     have Uj:b≠0:=by simpa using hb
     exact ⟨_,bP (.int _ _),rfl,by simp [binOp,Op.intDiv,Uj,bP],jr _ _⟩
   ·split at he
    ·rename_i v hv
     cases he
     obtain ⟨V,h1,h2⟩:=M8 (P:=P) (t:=t) (w:=w) (Z:=Z) (ψ:=ψ) (h:=h) hv
     exact ⟨_,V,rfl,h1,h2⟩
    ·cases he
  ·cases he
 ·rename_i a b
  simp only [ax] at hu hv
  subst hu;subst hv
  simp only [Sem.run_bind,K2,Result.andThen_ok]
  cases op<;>simp only [WH] at he<;>first | (cases he;done) | (cases he;exact ⟨_,bP (.bool _),rfl,by simp [binOp,Op.stringOp,←beq_toListBytes,bP],dR _⟩)
 ·rename_i a b
  simp only [ax] at hu hv
  subst hu;subst hv
  simp only [Sem.run_bind,Ib,Result.andThen_ok]
  have key:(P.underlying t).map DE=some true→P.underlying t=some .bool:=fun hm=>by
   obtain ⟨d,hd,he⟩:=Option.map_eq_some_iff.1 hm
   cases d<;>simp [DE] at he
   exact hd
  split at he
  ·rename_i hm
   cases he
   exact ⟨_,bP (.bool _),rfl,by simp [binOp,Op.equal,Op.maxDepth,run_equalIn_bool' (P:=P) w 9999 t a b (key hm),bP],dR _⟩
  ·rename_i hm
   cases he
   exact ⟨_,bP (.bool _),rfl,by simp [binOp,Op.equal,Op.maxDepth,run_equalIn_bool' (P:=P) w 9999 t a b (key hm),bP],dR _⟩
  ·cases he
 ·rename_i a b
  split at he
  ·cases he
  ·rename_i k hk
   simp only [ax] at hu hv
   obtain ⟨xs,rfl,hx⟩:=hu
   obtain ⟨ys,rfl,hy⟩:=hv
   split at he
   ·rename_i x y hdx hdy
    cases he
    obtain ⟨h1,h2,_⟩:=BG t k hk Z w x y xs ys (dt hdx hx) (dt hdy hy)
    exact ⟨_,bP (.bool _),rfl,by simp only [Sem.run_bind,h2,Result.andThen_ok,binOp,h1,Sem.run_pure,bP],dR _⟩
   ·rename_i x y hdx hdy
    cases he
    obtain ⟨h1,h2,_⟩:=BG t k hk Z w x y xs ys (dt hdx hx) (dt hdy hy)
    exact ⟨_,bP (.bool _),rfl,by simp only [Sem.run_bind,h2,Result.andThen_ok,binOp,h1,Sem.run_pure,bP],dR _⟩
   ·cases he
 ·simp only [ax] at hu hv
  subst hu;subst hv
  have key:(P.underlying t).map u9=some true→∃e,P.underlying t=some (.pointer e):=fun hm=>by
   obtain ⟨d,hd,he⟩:=Option.map_eq_some_iff.1 hm
   cases d<;>simp [u9] at he
   exact ⟨_,hd⟩
  simp only [Sem.run_bind,Cr,Result.andThen_ok]
  split at he
  ·rename_i hm
   cases he
   obtain ⟨et,ht⟩:=key hm
   exact ⟨_,bP (.bool _),rfl,by simp only [binOp,Sem.run_bind,jI ht,Result.andThen_ok,Sem.run_pure,bP,Option.isNone_none,Option.isNone_some,Bool.not_true,Bool.not_false],dR _⟩
  ·rename_i hm
   cases he
   obtain ⟨et,ht⟩:=key hm
   exact ⟨_,bP (.bool _),rfl,by simp only [binOp,Sem.run_bind,jI ht,Result.andThen_ok,Sem.run_pure,bP,Option.isNone_none,Option.isNone_some,Bool.not_true,Bool.not_false],dR _⟩
  ·cases he
 ·simp only [ax] at hu hv
  obtain ⟨a,rfl,_⟩:=hu
  subst hv
  have key:(P.underlying t).map u9=some true→∃e,P.underlying t=some (.pointer e):=fun hm=>by
   obtain ⟨d,hd,he⟩:=Option.map_eq_some_iff.1 hm
   cases d<;>simp [u9] at he
   exact ⟨_,hd⟩
  simp only [Sem.run_bind,Cr,Result.andThen_ok]
  split at he
  ·rename_i hm
   cases he
   obtain ⟨et,ht⟩:=key hm
   exact ⟨_,bP (.bool _),rfl,by simp only [binOp,Sem.run_bind,jI ht,Result.andThen_ok,Sem.run_pure,bP,Option.isNone_none,Option.isNone_some,Bool.not_true,Bool.not_false],dR _⟩
  ·rename_i hm
   cases he
   obtain ⟨et,ht⟩:=key hm
   exact ⟨_,bP (.bool _),rfl,by simp only [binOp,Sem.run_bind,jI ht,Result.andThen_ok,Sem.run_pure,bP,Option.isNone_none,Option.isNone_some,Bool.not_true,Bool.not_false],dR _⟩
  ·cases he
 ·cases he
theorem K4{a:AV}{v:Value}(hp:u6 a=true)(hr:ax Z ψ h w a v):v.oneCell'=true:=by
 cases a with
 | no=>cases hp
 | agg cs=>cases hp
 | mL cs=>cases hp
 | bool b=>simp only [ax] at hr;subst hr;rfl
 | int k n=>simp only [ax] at hr;subst hr;rfl
 | str s=>simp only [ax] at hr;subst hr;rfl
 | kS=>simp only [ax] at hr;subst hr;rfl
 | fB=>simp only [ax] at hr;subst hr;rfl
 | ref id s i off=>simp only [ax] at hr;obtain ⟨a,rfl,_⟩:=hr;rfl
 | fp k x off=>simp only [ax] at hr;obtain ⟨a,us,rfl,_⟩:=hr;rfl
 | sl ex k xs=>simp only [ax,aG] at hr;obtain ⟨⟨v',hv,A,c,rfl,_⟩,_⟩:=hr;cases hv;rfl
 | bF id=>simp only [ax] at hr;exact hr.1.2
 | mp kk vk es=>simp only [ax,aG] at hr;obtain ⟨A,hv,_⟩:=hr;cases hv;rfl
 | fn f cap=>simp only [ax] at hr;obtain ⟨vs,rfl,_⟩:=hr;rfl
theorem sM:∀{cs:List AV} {vs:List Value},cs.all u6=true→ao Z ψ h w cs vs→∀u∈vs,u.oneCell'=true
 | [],_,_,hr,u,hu=>by simp only [ao] at hr;subst hr;simp at hu
 | c::r,_,hp,hr,u,hu=>by
  simp only [List.all_cons,Bool.and_eq_true] at hp
  simp only [ao] at hr
  obtain ⟨v,us,rfl,h1,h2⟩:=hr
  rcases List.mem_cons.1 hu with rfl | hu
  ·exact K4 hp.1 h1
  ·exact sM hp.2 h2 u hu
theorem Fl{a:AV}(hp:a.cells.all u6=true):a≠.no:=by rintro rfl;simp [AV.cells,u6] at hp
theorem qL{id:Nat}:∀{cs:List AV},HU id cs=true→AV.bF id∉cs
 | [],_=>by simp
 | c::r,hn=>by
  intro hm
  cases c with
  | bF i =>
   simp only [HU,Bool.and_eq_true,Bool.not_eq_true',beq_eq_false_iff_ne] at hn
   rcases List.mem_cons.1 hm with e | hm
   ·cases e;exact hn.1 rfl
   ·exact qL hn.2 hm
  | _ =>
   simp only [HU] at hn
   rcases List.mem_cons.1 hm with e | hm
   ·cases e
   ·exact qL hn hm
theorem wO{hh:Heap}(g:Good Z ψ hh.get w B0 O){t:TypeId}{a x:AV}{u v:Value}{e:bE}(hu:ax Z ψ hh.get w a u)(hv:ax Z ψ hh.get w x v)(he:qB P hh t a x some=some e) :
  ∃hw w' Z',e=.wr .no hw∧(Instr.storeAt t u v).run P w=.ok () w'∧Next Z ψ hh.get w B0 O N Z' ψ hw.get w':=by
 unfold qB at he
 split at he
 ·rename_i hc
  obtain ⟨hlen,Rn,pU⟩:=hc
  obtain ⟨inf,Rn⟩:=Option.isSome_iff_exists.1 Rn
  have ME:=hv.cells (Fl pU)
  have K5:=sM pU ME
  have sG:=ME.length
  simp only [Array.length_toList] at sG
  split at he
  ·rename_i id s i off
   simp only [ax] at hu
   obtain ⟨a,rfl,ha⟩:=hu
   split at he
   ·rename_i ty cs hg
    split at he
    ·rename_i hc
     obtain ⟨rfl,WT⟩:=hc
     cases he
     have E9:=ha (by rw [hg];simp)
     obtain ⟨w',h1,h2⟩:=yZ (P:=P) (N:=N) g hg Rn ME K5 (by omega) WT (a:=a) (by rw [E9];simp)
     exact ⟨_,w',Z,rfl,h1,by rw [lP];exact h2⟩
    ·cases he
   ·rename_i ty kk xs hg
    obtain ⟨y,hx,QS⟩:=Option.bind_eq_some_iff.1 he
    clear he
    split at QS
    ·rename_i hc
     obtain ⟨rfl,WT,pq⟩:=hc
     split at QS
     ·rename_i z hz
      cases QS
      have E9:=ha (by rw [hg];simp)
      have bO:=qL pq
      have gd:=gY g x.cells
      have hgd:(cC hh x.cells).get id=some (.own (.row ty kk) xs):=by rw [nQ _ _ _ bO];exact hg
      have Uk:=mU (Z':=po Z ψ hh.get x.cells) g (fun b hb=>.inl hb) (fun i b hm bj hb=>.inr ⟨i,hm,bj,hb⟩) ME
      obtain ⟨w',h1,h2⟩:=zc (P:=P) (N:=N) gd hgd Rn hx (y:=z) (off:=off) (V:=v) (by omega) (by omega) (a:=a) E9 (fun us Wb=>by
       have h3:=(gP (ψ:=ψ) (h:=hh.get) Wb)
       have h4:=dt hz (Uk.dI off h3)
       rwa [qJ _ _ _ (by rw [Array.length_toList,Wb.len];omega),Array.length_toList] at h4) K5
      refine ⟨_,w',po Z ψ hh.get x.cells,rfl,h1,?_⟩
      rw [show ((stored hh x.cells).2.set id (.own (.row ty kk) (xs.set i z))).get=dJ (cC hh x.cells).get id (some (.own (.row ty kk) (xs.set i z))) from lP _ _ _]
      exact h2.drop (fun b hb=>.inl hb) (fun b hb=>hb.imp (fun h=>h) (fun ⟨i,_,h5,h6⟩=>⟨i,h5,h6⟩)) (dN _ _)
     ·cases QS
    ·cases QS
   ·cases he
  ·cases he
 ·cases he
end Go.Vs
namespace Go.Vs
variable {P:Program} {Z Z':Nat→Prop} {ψ ψ':Nat→Value} {h h':Hp} {w w':World} {B0:Nat} {O:Nat→Prop} {N:Nat→Prop}
theorem M9{a:AV}{v:Value}(ha:a.isAgg=true)(hr:ax Z ψ h w a v):∃vs,v=.agg vs:=by
 cases a<;>simp [AV.isAgg] at ha
 simp only [ax] at hr
 obtain ⟨vs,rfl,_⟩:=hr
 exact ⟨vs,rfl⟩
theorem Cs{a:AV}{v:Value}(ha:a.isAgg=false)(pq:a≠.no)(hr:ax Z ψ h w a v):v.cells=#[v]:=by
 cases a with
 | no=>exact absurd rfl pq
 | agg cs=>simp [AV.isAgg] at ha
 | bool b=>simp only [ax] at hr;subst hr;rfl
 | int k n=>simp only [ax] at hr;subst hr;rfl
 | str s=>simp only [ax] at hr;subst hr;rfl
 | kS=>simp only [ax] at hr;subst hr;rfl
 | fB=>simp only [ax] at hr;subst hr;rfl
 | ref id s i off=>simp only [ax] at hr;obtain ⟨a,rfl,_⟩:=hr;rfl
 | fp k x off=>simp only [ax] at hr;obtain ⟨a,us,rfl,_⟩:=hr;rfl
 | sl ex k xs=>simp only [ax,aG] at hr;obtain ⟨⟨v',hv,A,c,rfl,_⟩,_⟩:=hr;cases hv;rfl
 | bF id=>simp only [ax] at hr;exact hr.1.1
 | mp kk vk es=>simp only [ax,aG] at hr;obtain ⟨A,hv,_⟩:=hr;cases hv;rfl
 | fn f cap=>simp only [ax] at hr;obtain ⟨vs,rfl,_⟩:=hr;rfl
 | mL cs=>simp only [ax] at hr;obtain ⟨vs,rfl,_⟩:=hr;rfl
theorem sN{hh:Heap}{k:K}{a:AV}{x:k.T}{v:Value}(g:Good Z ψ hh.get w B0 O)(hz:∀b,Z b→Z' b)(hb:∀id b,AV.bF id∈a.cells→hh.get id≠none→ob (ψ id)=some b→Z' b)
  (hx:fw k hh a=some x) (hr:ax Z ψ hh.get w a v):aG Z' w k x v.cells.toList∧(k.isAgg=true→∃vs,v=.agg vs)∧(k.isAgg=false→v.cells=#[v]):=by
 unfold fw at hx
 split at hx
 ·rename_i Ta
  have pq:=Cq hx
  have hv:=mU g hz hb (hr.cells pq)
  exact ⟨dt hx hv,fun h=>M9 (by rw [←Ta];exact h) hr,fun h=>Cs (by rw [←Ta];exact h) pq hr⟩
 ·cases hx
theorem qM{hh:Heap}{k:K}{a:AV}{x:k.T}{v:Value}(g:Good Z ψ hh.get w B0 O)(hz:∀b,Z b→Z' b)(hb:∀id b,AV.bF id∈a.cells→hh.get id≠none→ob (ψ id)=some b→Z' b)
  (hx:fw k hh a=some x) (hr:ax Z ψ hh.get w a v):ax Z' ψ' h' w (b8 k x) v:=by
 obtain ⟨h1,h2,h3⟩:=sN g hz hb hx hr
 exact kX h1 h2 h3
theorem aG.flat:∀{k:K} {x:k.T} {vs:List Value},k.flat=true→aG Z w k x vs→aG Z' w' k x vs
 | .int _,_,_,_,h=>h
 | .bool,_,_,_,h=>h
 | .str,_,_,_,h=>h
 | .sl k,_,_,hf,_=>by simp [K.flat] at hf
 | .pair a b,x,_,hf,h=>by
  simp only [K.flat,Bool.and_eq_true] at hf
  simp only [aG] at h ⊢
  obtain ⟨us,ws,rfl,h1,h2⟩:=h
  exact ⟨us,ws,rfl,aG.flat hf.1 h1,aG.flat hf.2 h2⟩
 | .one k,x,_,hf,h=>by
  simp only [aG] at h ⊢
  exact aG.flat (k:=k) (by simpa only [K.flat] using hf) h
theorem xV:∀(k:K) (x y:k.T),k.flat=true→(qA k x y=true↔x=y)
 | .int _,x,y,_=>by simp only [qA];exact beq_iff_eq (α:=Int)
 | .bool,x,y,_=>by simp only [qA];exact beq_iff_eq (α:=Bool)
 | .str,x,y,_=>by simp only [qA];exact MapKept.bytes_beq x y
 | .sl _,_,_,hf=>by simp [K.flat] at hf
 | .mp _ _,_,_,hf=>by simp [K.flat] at hf
 | .pair a b,x,y,hf=>by
  simp only [K.flat,Bool.and_eq_true] at hf
  simp only [qA,Bool.and_eq_true]
  rw [xV a _ _ hf.1,xV b _ _ hf.2]
  exact ⟨fun h=>Prod.ext h.1 h.2,fun h=>⟨congrArg Prod.fst h,congrArg Prod.snd h⟩⟩
 | .one k,x,y,hf=>by simp only [qA];exact xV k x y (by simpa only [K.flat] using hf)
theorem nV:∀{k:K} {x:k.T} {us vs:List Value},k.flat=true→aG Z w k x us→aG Z' w' k x vs→us=vs
 | .int _,_,_,_,_,h1,h2=>by simp only [aG] at h1 h2;rw [h1,h2]
 | .bool,_,_,_,_,h1,h2=>by simp only [aG] at h1 h2;rw [h1,h2]
 | .str,_,_,_,_,h1,h2=>by simp only [aG] at h1 h2;rw [h1,h2]
 | .sl _,_,_,_,hf,_,_=>by simp [K.flat] at hf
 | .mp _ _,_,_,_,hf,_,_=>by simp [K.flat] at hf
 | .pair a b,x,_,_,hf,h1,h2=>by
  simp only [K.flat,Bool.and_eq_true] at hf
  simp only [aG] at h1 h2
  obtain ⟨a1,a2,rfl,h3,h4⟩:=h1
  obtain ⟨b1,b2,rfl,h5,h6⟩:=h2
  rw [nV hf.1 h3 h5,nV hf.2 h4 h6]
 | .one k,x,_,_,hf,h1,h2=>by
  simp only [aG] at h1 h2
  exact nV (k:=k) (by simpa only [K.flat] using hf) h1 h2
theorem qN:∀{k:K} {x:k.T} {us:List Value},k.flat=true→aG Z w k x us→∀u∈us,∀n,Instr.sameBits n u u=true
 | .int _,x,_,_,h1,u,hu,n=>by simp only [aG] at h1;subst h1;simp only [List.mem_singleton] at hu;subst hu;cases n<;>simp [Instr.sameBits]<;>exact beq_self_eq_true (α:=Int) x
 | .bool,x,_,_,h1,u,hu,n=>by simp only [aG] at h1;subst h1;simp only [List.mem_singleton] at hu;subst hu;cases n<;>simp [Instr.sameBits]<;>exact beq_self_eq_true (α:=Bool) x
 | .str,x,_,_,h1,u,hu,n=>by simp only [aG] at h1;subst h1;simp only [List.mem_singleton] at hu;subst hu;cases n<;>simp [Instr.sameBits]<;>exact (MapKept.bytes_beq x x).2 rfl
 | .sl _,_,_,hf,_,_,_,_=>by simp [K.flat] at hf
 | .mp _ _,_,_,hf,_,_,_,_=>by simp [K.flat] at hf
 | .pair a b,x,_,hf,h1,u,hu,n=>by
  simp only [K.flat,Bool.and_eq_true] at hf
  simp only [aG] at h1
  obtain ⟨a1,a2,rfl,h3,h4⟩:=h1
  rcases List.mem_append.1 hu with hu | hu
  ·exact qN hf.1 h3 u hu n
  ·exact qN hf.2 h4 u hu n
 | .one k,x,_,hf,h1,u,hu,n=>by
  simp only [aG] at h1
  exact qN (k:=k) (by simpa only [K.flat] using hf) h1 u hu n
def HL(b:Bool)(v:Value):Prop:=(b=true→∃vs,v=.agg vs)∧(b=false→v.cells=#[v])
theorem K6{b:Bool}{u v:Value}(h1:HL b u)(h2:HL b v)(h:u.cells.toList=v.cells.toList):u=v:=by
 cases b with
 | true =>
  obtain ⟨a,rfl⟩:=h1.1 rfl
  obtain ⟨c,rfl⟩:=h2.1 rfl
  have:a=c:=by simpa [Value.cells] using h
  rw [this]
 | false =>
  rw [h1.2 rfl,h2.2 rfl] at h
  simpa using h
theorem Na{k:K}{x:k.T}{u:Value}(hf:k.flat=true)(hr:aG Z w k x u.cells.toList)(hs:HL k.isAgg u):Instr.sameBits 10000 u u=true:=by
 have hb:=qN hf hr
 cases hk:k.isAgg with
 | false=>exact hb u (by rw [hs.2 hk];simp) _
 | true =>
  obtain ⟨a,rfl⟩:=hs.1 hk
  show Instr.sameBits (9999+1) (.agg a) (.agg a)=true
  simp only [Instr.sameBits,beq_self_eq_true,Bool.true_and,List.all_eq_true]
  intro p hp
  obtain ⟨i,hi,he⟩:=List.mem_iff_getElem.1 hp
  simp only [List.getElem_zip] at he
  subst he
  exact hb _ (List.getElem_mem (l:=(Value.agg a).cells.toList) (by simpa [Value.cells] using hi)) _
def Keys(Z:Nat→Prop)(w:World)(k:K)(ys:List k.T)(l:List MapEntry):Prop:=ys.length=l.length∧∀(i:Nat) y e,ys[i]? = some y→l[i]? = some e→aG Z w k y e.key.cells.toList∧HL k.isAgg e.key
theorem Keys.tail{k:K}{y:k.T}{ys:List k.T}{e:MapEntry}{l:List MapEntry}(h:Keys Z w k (y::ys) (e::l)):Keys Z w k ys l:=⟨by simpa using h.1,fun i a b h1 h2=>h.2 (i+1) a b (by simpa using h1) (by simpa using h2)⟩
theorem Fm{k:K}{x:k.T}{d:TypeDesc}{kv:Value}(hs:∀y QT,aG Z w k y QT.cells.toList→HL k.isAgg QT→Instr.sameNow d kv QT=some (qA k x y)):∀(l:List MapEntry) (ys:List k.T) (i:Nat),Keys Z w k ys l →
  Instr.findNow d kv l i=some ((ys.findIdx? (qA k x)).map fun j=>(i+j,((l[j]?).map (·.val)).getD undef))
 | [],ys,i,h=>by
  have:ys=[]:=List.eq_nil_of_length_eq_zero (by simpa using h.1)
  subst this;rfl
 | e::l,[],i,h=>by have:=h.1;simp at this
 | e::l,y::ys,i,h=>by
  obtain ⟨h1,h2⟩:=h.2 0 y e rfl rfl
  have ih:=Fm hs l ys (i+1) h.tail
  simp only [Instr.findNow,hs y _ h1 h2,List.findIdx?_cons]
  cases qA k x y with
  | true=>simp
  | false =>
   simp only [ih,Bool.false_eq_true,if_false]
   cases ys.findIdx? (qA k x) with
   | none=>rfl
   | some j=>simp;omega
theorem wP{k:K}{x:k.T}{t:TypeId}{kv:Value}(hs:∀y QT,aG Z w k y QT.cells.toList→HL k.isAgg QT→(Op.equal t kv QT).run P w=.ok (qA k x y) w):∀(l:List MapEntry) (ys:List k.T) (i:Nat),Keys Z w k ys l →
  (Instr.findAsking t kv l i).run P w=.ok ((ys.findIdx? (qA k x)).map fun j=>(i+j,((l[j]?).map (·.val)).getD undef)) w
 | [],ys,i,h=>by
  have:ys=[]:=List.eq_nil_of_length_eq_zero (by simpa using h.1)
  subst this;rfl
 | e::l,[],i,h=>by have:=h.1;simp at this
 | e::l,y::ys,i,h=>by
  obtain ⟨h1,h2⟩:=h.2 0 y e rfl rfl
  have ih:=wP hs l ys (i+1) h.tail
  simp only [Instr.findAsking,Sem.run_bind,hs y _ h1 h2,Result.andThen_ok,List.findIdx?_cons]
  cases qA k x y with
  | true=>simp
  | false =>
   simp only [ih,Bool.false_eq_true,if_false]
   cases ys.findIdx? (qA k x) with
   | none=>rfl
   | some j=>simp;omega
structure Nb(P:Program)(t:TypeId)(k:K):Prop where
 flat:k.flat=true
 check:∀(Z:Nat→Prop) (w:World) (x:k.T) (kv:Value) (e:Bool),aG Z w k x kv.cells.toList→HL k.isAgg kv→(Instr.checkKey e 10000 t kv).run P w=.ok () w
 find:∀(Z:Nat→Prop) (w:World) (x:k.T) (kv:Value) (l:List MapEntry) (ys:List k.T),aG Z w k x kv.cells.toList→HL k.isAgg kv→Keys Z w k ys l →
  (Instr.findKey t kv l).run P w=.ok ((ys.findIdx? (qA k x)).map fun j=>(j,((l[j]?).map (·.val)).getD undef)) w
theorem nW{t:TypeId}{k:K}{d:TypeDesc}(hf:k.flat=true)(hk:k.isAgg=false)(hd:P.underlying t=some d)(hc:∀(Z:Nat→Prop) (w:World) (x:k.T) (kv:Value),aG Z w k x [kv]→MapKept.IsKey d kv)
  (hs:∀(Z:Nat→Prop) (w:World) (x y:k.T) (u v:Value),aG Z w k x [u]→aG Z w k y [v]→Instr.sameNow d u v=some (qA k x y)):Nb P t k:=by
 have one:∀{Z:Nat→Prop} {w:World} {x:k.T} {kv:Value},aG Z w k x kv.cells.toList→HL k.isAgg kv→aG Z w k x [kv]:=fun {Z w x kv} h1 h2=>by
  rw [h2.2 hk] at h1;exact h1
 refine ⟨hf,fun Z w x kv e h1 h2=>MapKept.run_checkKey hd (hc Z w x kv (one h1 h2)) e 9999,fun Z w x kv l ys h1 h2 h3 => ?_⟩
 have:=Fm (Z:=Z) (w:=w) (x:=x) (d:=d) (kv:=kv) (fun y QT h4 h5=>hs Z w x y kv QT (one h1 h2) (one h4 h5)) l ys 0 h3
 simp only [Nat.zero_add] at this
 exact MapKept.run_findKey hd this
theorem Fp(d:TypeDesc)(a:Array Value)(v:Value):Instr.sameNow d (.agg a) v=none:=by cases d<;>cases v<;>rfl
theorem vj{Eqs:TypeId→Option K}(BG:∀t k,Eqs t=some k→kY P t k){t:TypeId}{k:K}(hk:JM P Eqs t k=true):Nb P t k:=by
 unfold JM at hk
 rw [Bool.and_eq_true] at hk
 obtain ⟨hf,hk⟩:=hk
 split at hk
 ·rename_i ik V9 hd
  simp only [decide_eq_true_eq] at hk
  subst hk
  exact nW hf rfl hd (fun Z w x kv hr=>by simp only [aG] at hr;cases hr;simp [MapKept.IsKey]) (fun Z w x y u v h1 h2=>by simp only [aG] at h1 h2;cases h1;cases h2;simp [Instr.sameNow,qA])
 ·rename_i hd
  exact nW hf rfl hd (fun Z w x kv hr=>by simp only [aG] at hr;cases hr;simp [MapKept.IsKey]) (fun Z w x y u v h1 h2=>by simp only [aG] at h1 h2;cases h1;cases h2;simp [Instr.sameNow,qA])
 ·rename_i hd
  exact nW hf rfl hd (fun Z w x kv hr=>by simp only [aG] at hr;cases hr;simp [MapKept.IsKey]) (fun Z w x y u v h1 h2=>by simp only [aG] at h1 h2;cases h1;cases h2;simp [Instr.sameNow,qA])
 ·simp only [Bool.and_eq_true,decide_eq_true_eq] at hk
  obtain ⟨Ta,hk⟩:=hk
  have fact:=BG _ _ hk
  have agg:∀{b:Bool} {u:Value},b=true→HL b u→∃a,u=.agg a:=fun hb h=>h.1 hb
  refine ⟨hf,fun Z w x kv e h1 h2 => ?_,fun Z w x kv l ys h1 h2 h3 => ?_⟩
  ·obtain ⟨a,rfl⟩:=agg Ta h2
   exact (fact Z w x x a a h1 h1).2.2 e
  ·obtain ⟨a,rfl⟩:=agg Ta h2
   have h4:=wP (P:=P) (t:=t) (Z:=Z) (w:=w) (x:=x) (kv:=.agg a) (fun y QT h4 h5=>by
    obtain ⟨b,rfl⟩:=agg Ta h5
    exact (fact Z w x y a b h1 h4).1) l ys 0 h3
   simp only [Nat.zero_add] at h4
   cases l with
   | nil =>
    have:ys=[]:=List.eq_nil_of_length_eq_zero (by simpa using h3.1)
    subst this
    cases hu:P.underlying t with
    | none =>
     have hc:=(fact Z w x x a a h1 h1).2.2 true
     exfalso
     unfold Instr.checkKey at hc
     simp [underlying,hu] at hc
    | some d=>simp [Instr.findKey,run_underlying hu,Instr.findNow]
   | cons e l =>
    cases hu:P.underlying t with
    | none =>
     have hc:=(fact Z w x x a a h1 h1).2.2 true
     exfalso
     unfold Instr.checkKey at hc
     simp [underlying,hu] at hc
    | some d=>simp only [Instr.findKey,Sem.run_bind,run_underlying hu,Result.andThen_ok,Instr.findNow,Fp];exact h4
section
variable {kk vk:K} {es:List (kk.T×vk.T)} {l:List MapEntry}
abbrev jP(Z:Nat→Prop)(w:World)(kk vk:K)(es:List (kk.T×vk.T))(l:List MapEntry):Prop:=DH (aG Z w kk) (aG Z w vk) kk.isAgg vk.isAgg es l
theorem jP.keys(h:jP Z w kk vk es l):Keys Z w kk (es.map (·.1)) l :=
 ⟨by rw [List.length_map];exact h.1,fun i y e h1 h2=>by
  rw [List.getElem?_map] at h1
  obtain ⟨x,h3,rfl⟩:=Option.map_eq_some_iff.1 h1
  exact (h.2 i x e h3 h2).1⟩
theorem zk{x:kk.T}:(es.map (·.1)).findIdx? (qA kk x)=sy kk x es:=by unfold sy;rw [List.findIdx?_map];rfl
theorem DM{x:kk.T}{i:Nat}(h:sy kk x es=some i):i<es.length:=by
 unfold sy at h
 exact (List.findIdx?_eq_some_iff_getElem.1 h).1
theorem Ro{x:kk.T}{i:Nat}(h:sy kk x es=some i):∃e,es[i]? = some e∧qA kk x e.1=true:=by
 unfold sy at h
 obtain ⟨h1,h2,_⟩:=List.findIdx?_eq_some_iff_getElem.1 h
 exact ⟨_,List.getElem?_eq_getElem h1,h2⟩
def Nc(Z:Nat→Prop)(w:World)(kk vk:K)(x:kk.T×vk.T)(e:MapEntry):Prop:=(aG Z w kk x.1 e.key.cells.toList∧HL kk.isAgg e.key)∧aG Z w vk x.2 e.val.cells.toList∧HL vk.isAgg e.val
theorem jP.set(h:jP Z w kk vk es l)(i:Nat){x:kk.T×vk.T}{f:MapEntry→MapEntry}(ho:∀e,l[i]? = some e→Nc Z w kk vk x (f e)):jP Z w kk vk (es.set i x) (l.modify i f):=by
 refine ⟨by simp [h.1],fun j y e h1 h2 => ?_⟩
 rw [List.getElem?_modify] at h2
 obtain ⟨e0,h3,h4⟩:=Option.map_eq_some_iff.1 h2
 by_cases xW:i=j
 ·subst xW
  rw [if_pos rfl] at h4
  have aJ:i<es.length:=by rw [h.1];exact (List.getElem?_eq_some_iff.1 h3).1
  rw [List.getElem?_set_self aJ] at h1
  cases h1
  subst h4
  exact ho e0 h3
 ·rw [if_neg xW] at h4
  rw [List.getElem?_set_ne xW] at h1
  subst h4
  exact h.2 j y e0 h1 h3
theorem jP.push(h:jP Z w kk vk es l){x:kk.T×vk.T}{e:MapEntry}(ho:Nc Z w kk vk x e):jP Z w kk vk (es++[x]) (l++[e]):=by
 refine ⟨by simp [h.1],fun j y e' h1 h2 => ?_⟩
 by_cases hj:j<es.length
 ·rw [List.getElem?_append_left hj] at h1
  rw [List.getElem?_append_left (by rw [←h.1];exact hj)] at h2
  exact h.2 j y e' h1 h2
 ·rw [List.getElem?_append_right (by omega)] at h1
  rw [List.getElem?_append_right (by have:=h.1;omega),←h.1] at h2
  by_cases h0:j - es.length=0
  ·rw [h0] at h1 h2;cases h1;cases h2;exact ho
  ·rw [List.getElem?_eq_none (by simp;omega)] at h1;cases h1
theorem jP.erase(h:jP Z w kk vk es l)(i:Nat):jP Z w kk vk (es.eraseIdx i) (l.eraseIdx i):=by
 refine ⟨by rw [List.length_eraseIdx,List.length_eraseIdx,h.1],fun j y e h1 h2 => ?_⟩
 rw [List.getElem?_eraseIdx] at h1 h2
 split at h1
 ·rename_i hj;rw [if_pos hj] at h2;exact h.2 j y e h1 h2
 ·rename_i hj;rw [if_neg hj] at h2;exact h.2 (j+1) y e h1 h2
theorem jP.mono(h:jP Z w kk vk es l)(hz:∀b,Z b→Z' b)(hs:ck Z w w'):jP Z' w' kk vk es l:=DH.imp (fun _ _ h=>h.mono hz hs) (fun _ _ h=>h.mono hz hs) h
end
theorem sO{Eqs:TypeId→Option K}{t:TypeId}{kk vk:K}(h:mapOf P Eqs t=some (kk,vk)):∃a b,P.underlying t=some (.map a b)∧JM P Eqs a kk=true∧JK P b vk=true:=by
 unfold mapOf at h
 split at h
 ·rename_i a b hu
  split at h
  ·split at h
   ·rename_i hc
    cases h
    rw [Bool.and_eq_true] at hc
    exact ⟨a,b,hu,hc.1,hc.2⟩
   ·cases h
  ·cases h
 ·cases h
theorem Ic{b:TypeId}{vk:K}(h:JK P b vk=true):∃z,(zeroValue b).run P w=.ok z w∧aG Z w vk (oS vk) z.cells.toList∧HL vk.isAgg z:=by
 unfold JK at h
 split at h
 ·rename_i i hi
  split at h
  ·rename_i z hz
   refine ⟨z,tM hi hz,?_⟩
   unfold MQ at h
   split at h
   ·simp only [decide_eq_true_eq] at h;obtain ⟨rfl,rfl⟩:=h;exact ⟨by simp only [aG];rfl,fun h=>(by cases h),fun _=>rfl⟩
   ·rename_i b;simp only [Bool.not_eq_true'] at h;subst h;exact ⟨by simp only [aG];rfl,fun h=>(by cases h),fun _=>rfl⟩
   ·simp only [decide_eq_true_eq] at h;subst h;exact ⟨by simp only [aG];rfl,fun h=>(by cases h),fun _=>rfl⟩
   ·simp only [decide_eq_true_eq] at h;obtain ⟨rfl,rfl,rfl⟩:=h
    exact ⟨by simp only [aG];exact ⟨_,rfl,none,0,rfl,Nat.le_refl _,fun _=>rfl,fun i x hx=>by simp [oS] at hx⟩,fun h=>(by cases h),fun _=>rfl⟩
   ·cases h
  ·cases h
 ·cases h
theorem JO{hh:Heap}(g:Good Z ψ h w B0 O)(bu:∀id o,hh.get id=some o→h id=some o){m:AV}{u:Value}{kk vk:K}{es:List (kk.T×vk.T)}(hm:ax Z ψ h w m u)(hv:cF hh m=.mp kk vk es) :
  ∃A,u=.map A∧((A=none∧es=[])∨∃r bQ clock,A=some r∧w.heap[r]? = some (.map bQ clock)∧jP Z w kk vk es bQ.toList):=by
 cases m with
 | mp JJ Re Nd =>
  simp only [cF] at hv
  cases hv
  simp only [ax,aG] at hm
  obtain ⟨A,h1,h2⟩:=hm
  cases h1
  refine ⟨A,rfl,h2.imp (fun h=>h) fun ⟨m,bQ,clock,h3,_,h4,h5⟩=>⟨m,bQ,clock,h3,h4,h5⟩⟩
 | bF id =>
  simp only [cF] at hv
  split at hv
  ·cases hv
  ·rename_i JJ Re Nd hg
   cases hv
   have uY:=bu _ _ hg
   simp only [ax] at hm
   have:=hm.2 (by rw [uY];simp)
   subst this
   obtain ⟨r,bQ,clock,h1,h2,h3,_⟩:=g.row id (.map kk vk) es uY
   exact ⟨some r,h1,.inr ⟨r,bQ,clock,rfl,h2,h3⟩⟩
  ·cases hv
 | _=>simp only [cF] at hv;cases hv
theorem Ie{hh:Heap}(g:Good Z ψ h w B0 O)(bu:∀id o,hh.get id=some o→h id=some o){k:K}(hf:k.flat=true){a:AV}{x:k.T}{v:Value}(hx:fw k hh a=some x)(hr:ax Z ψ h w a v):aG Z w k x v.cells.toList∧HL k.isAgg v:=by
 obtain ⟨h1,h2,h3⟩:=sN (Z':=fun b=>b<w.heap.size) (g.sub bu) (fun b hb=>g.jm b hb) (fun id b _ h1 h2=>(g.sub bu).bL ⟨id,h1,h2⟩) hx (hr.less (fun _ h=>h) (ck.refl _ _) (fun id bO=>by
  obtain ⟨o,ho⟩:=Option.ne_none_iff_exists'.1 bO
  exact ⟨by rw [bu id o ho];simp,rfl⟩))
 exact ⟨h1.flat hf,h2,h3⟩
theorem DN{Eqs:TypeId→Option K}(BG:∀t k,Eqs t=some k→kY P t k){hh:Heap}(g:Good Z ψ h w B0 O)(bu:∀id o,hh.get id=some o→h id=some o){t:TypeId}{m i:AV}{u v:Value}{ok:Bool}{e:bE}
  (hm:ax Z ψ h w m u) (hi:ax Z ψ h w i v) (he:mQ P Eqs hh t m i ok some=some e):∃y V,e=.val y∧(Instr.lookup t u v ok).run P w=.ok V w∧ax Z ψ h w y V:=by
 unfold mQ at he
 split at he
 ·rename_i ka va kk vk es Wc hv
  split at he
  ·rename_i hc
   obtain ⟨rfl,rfl⟩:=hc
   split at he
   ·rename_i x hx
    cases he
    obtain ⟨a,b,hu,hk,hz⟩:=sO Wc
    have K:=vj BG hk
    obtain ⟨Ig,nK⟩:=Ie g bu K.flat hx hi
    obtain ⟨z,wN,BF,HJ⟩:=Ic (Z:=Z) (w:=w) hz
    have fin:∀(l:List MapEntry),jP Z w kk vk es l→∃V,((∃j,(Instr.findKey a v l).run P w=.ok (some (j,V)) w∧(iG kk x es).isSome=true)∨((Instr.findKey a v l).run P w=.ok none w∧(zeroValue b).run P w=.ok V w∧(iG kk x es).isSome=false)) ∧
      aG Z w vk ((iG kk x es).getD (oS vk)) V.cells.toList∧HL vk.isAgg V:=by
     intro l hE
     have hf:=K.find Z w x v l (es.map (·.1)) Ig nK hE.keys
     rw [zk] at hf
     cases Ct:sy kk x es with
     | none =>
      rw [Ct] at hf
      exact ⟨z,.inr ⟨hf,wN,by simp [iG,Ct]⟩,by simpa [iG,Ct] using BF,HJ⟩
     | some j =>
      rw [Ct] at hf
      have hj:=DM Ct
      have h1:es[j]? = some es[j]:=List.getElem?_eq_getElem hj
      have HM:j<l.length:=by rw [←hE.1];exact hj
      have h2:l[j]? = some l[j]:=List.getElem?_eq_getElem HM
      obtain ⟨_,h3,h4⟩:=hE.2 j _ _ h1 h2
      refine ⟨l[j].val,.inl ⟨j,?_,by simp [iG,Ct,h1]⟩,by simpa [iG,Ct,h1] using h3,h4⟩
      rw [hf];simp only [Option.map_some,h2,Option.getD_some]
    have out:∀V:Value,aG Z w vk ((iG kk x es).getD (oS vk)) V.cells.toList→HL vk.isAgg V→ax Z ψ h w (cond ok (AV.mL [b8 vk ((iG kk x es).getD (oS vk)),.bool (iG kk x es).isSome]) (b8 vk ((iG kk x es).getD (oS vk)))) (if ok then .tuple #[V,.bool (iG kk x es).isSome] else V):=by
     intro V h1 h2
     have h3:ax Z ψ h w (b8 vk ((iG kk x es).getD (oS vk))) V:=kX h1 h2.1 h2.2
     cases ok with
     | false=>exact h3
     | true=>simp only [cond_true,if_true,ax,ao];exact ⟨_,rfl,V,[.bool (iG kk x es).isSome],by simp,h3,_,[],rfl,rfl,rfl⟩
    obtain ⟨A,rfl,hA⟩:=JO g bu hm hv
    rcases hA with ⟨rfl,rfl⟩ | ⟨r,bQ,clock,rfl,h3,h4⟩
    ·obtain ⟨V,h5,h6,h7⟩:=fin [] ⟨rfl,fun i x e h=>by simp at h⟩
     refine ⟨_,_,rfl,?_,out V h6 h7⟩
     simp only [Instr.lookup,Sem.run_bind,run_underlying hu,Result.andThen_ok,Sem.run_pure,K.check Z w x v _ Ig nK]
     rcases h5 with ⟨j,h8,h9⟩ | ⟨h8,h9,mr⟩
     ·simp [h8,h9]
     ·simp [h8,h9,mr]
    ·obtain ⟨V,h5,h6,h7⟩:=fin bQ.toList h4
     refine ⟨_,_,rfl,?_,out V h6 h7⟩
     simp only [Instr.lookup,Sem.run_bind,run_underlying hu,Result.andThen_ok,Sem.run_pure,MapKept.run_getObj_map h3,K.check Z w x v _ Ig nK]
     rcases h5 with ⟨j,h8,h9⟩ | ⟨h8,h9,mr⟩
     ·simp [h8,h9]
     ·simp [h8,h9,mr]
   ·cases he
  ·cases he
 ·cases he
end Go.Vs
namespace Go.Vs
variable {P:Program} {Z Z':Nat→Prop} {ψ ψ':Nat→Value} {h h':Hp} {w w':World} {B0:Nat} {O:Nat→Prop} {N:Nat→Prop}
theorem vl{r b:Nat}(o:Obj)(bj:r≠b):(w.heap.setIfInBounds r o)[b]? = w.heap[b]? := by rw [Array.getElem?_setIfInBounds];simp [bj]
theorem cT.abG{r:Nat}(ho:Own ψ h r)(o:Obj):cT ψ h w { w with heap:=w.heap.setIfInBounds r o } :=
 ⟨rfl,rfl,rfl,by simp,fun b _ hb=>vl o (fun e=>hb (e▸ho))⟩
theorem qO{hp:Hp}(g:Good Z ψ hp w B0 O){id:Nat}(bO:hp id≠none){r:Nat}(hr:ob (ψ id)=some r)(aJ:r<w.heap.size)(o:Obj){ok:OK}{x:ok.T}
  (hx:∀w':World,w'.heap=w.heap.setIfInBounds r o→ck Z w w'→je Z w' ok (ψ id) x) :
  Next Z ψ hp w B0 O N Z ψ (dJ hp id (some (.own ok x))) { w with heap:=w.heap.setIfInBounds r o }:=by
 have ho:Own ψ hp r:=⟨id,bO,hr⟩
 have kk:=cT.abG (w:=w) ho o
 refine g.write id bO kk (fun b hb _=>vl o (fun e=>hb (by rw [hr,e]))) _ (fun _ _ he=>by cases he) (fun Wa x' he => ?_)
 cases he
 exact hx _ rfl (kk.same g)
theorem wQ{l:List MapEntry}{i:Nat}{f:MapEntry→MapEntry}(hf:∀e,(f e).born=e.born):(l.modify i f).map (·.born)=l.map (·.born):=by
 apply List.ext_getElem?
 intro j
 simp only [List.getElem?_map,List.getElem?_modify]
 cases l[j]? with
 | none=>rfl
 | some e=>simp only [Option.map_some];split<;>simp [hf]
theorem vm{l:List MapEntry}:l.Pairwise (fun a b=>a.born≠b.born)↔(l.map (·.born)).Pairwise (·≠·):=by rw [List.pairwise_map]
theorem tQ{Eqs:TypeId→Option K}(BG:∀t k,Eqs t=some k→kY P t k){hh:Heap}(g:Good Z ψ hh.get w B0 O){t:TypeId}{m i v:AV}{u1 u2 u3:Value}{e:bE}
  (hm:ax Z ψ hh.get w m u1) (hi:ax Z ψ hh.get w i u2) (hv:ax Z ψ hh.get w v u3) (he:ic P Eqs hh t m i v some=some e) :
  ∃hw w' Z',e=.wr (.mL []) hw∧(Instr.mapUpdate t u1 u2 u3).run P w=.ok () w'∧Next Z ψ hh.get w B0 O N Z' ψ hw.get w':=by
 unfold ic at he
 split at he
 ·rename_i ka va id Wc
  split at he
  ·rename_i kk vk es hg
   split at he
   ·rename_i hc
    obtain ⟨rfl,rfl⟩:=hc
    split at he
    ·rename_i x y hx hy pq
     cases he
     obtain ⟨a,b,hu,hk,_⟩:=sO Wc
     have K:=vj BG hk
     obtain ⟨Ig,nK⟩:=Ie g (fun _ _ h=>h) K.flat hx hi
     simp only [ax] at hm
     have Ul:=hm.2 (by rw [hg];simp)
     obtain ⟨r,bQ,clock,h1,h2,h3,h4,h5⟩:=g.row id (.map kk vk) es hg
     rw [h1] at Ul
     subst Ul
     have bO:AV.bF id∉v.cells:=fun hc=>by
      have:=List.all_eq_true.1 pq _ hc
      simp at this
     have gd:=gY g v.cells
     have hgd:(cC hh v.cells).get id=some (.own (.map kk vk) es):=by rw [nQ _ _ _ bO];exact hg
     obtain ⟨tP,wL,hv3⟩:=sN (Z':=po Z ψ hh.get v.cells) g (fun b hb=>.inl hb) (fun id b h1 h2 h3=>.inr ⟨id,h1,h2,h3⟩) hy hv
     have WU:aG (po Z ψ hh.get v.cells) w kk x u2.cells.toList:=Ig.flat K.flat
     have aJ:=(Array.getElem?_eq_some_iff.1 h2).1
     have jo:ob (ψ id)=some r:=by rw [h1];rfl
     have hE:jP (po Z ψ hh.get v.cells) w kk vk es bQ.toList:=jP.mono h3 (fun b hb=>.inl hb) (ck.refl _ _)
     have hf:=K.find Z w x u2 bQ.toList (es.map (·.1)) Ig nK (jP.keys h3)
     rw [zk] at hf
     have fin:∀(o:Obj) (Nd:List (kk.T×vk.T)) (lR:Array MapEntry) (zm:Nat),o=.map lR zm→jP (po Z ψ hh.get v.cells) w kk vk Nd lR.toList→(lR.toList.map (·.born)).Pairwise (·≠·)→(∀e∈lR.toList,e.born<zm) →
       Next Z ψ hh.get w B0 O N (po Z ψ hh.get v.cells) ψ ((cC hh v.cells).set id (.own (.map kk vk) Nd)).get { w with heap:=w.heap.setIfInBounds r o }:=by
      rintro o Nd lR zm rfl h6 h7 h8
      rw [lP]
      have n:=qO (N:=N) gd (by rw [hgd];simp) jo aJ (.map lR zm) (ok:=.map kk vk) (x:=Nd) (fun w' Ih sm=>⟨r,lR,zm,h1,by rw [Ih];simp [aJ],jP.mono h6 (fun _ h=>h) sm,vm.2 h7,h8⟩)
      exact n.drop (fun b hb=>.inl hb) (fun b hb=>hb.imp (fun h=>h) (fun ⟨i,_,h5,h6⟩=>⟨i,h5,h6⟩)) (dN _ _)
     cases Ct:sy kk x es with
     | none =>
      rw [Ct] at hf
      refine ⟨_,{ w with heap:=w.heap.setIfInBounds r (.map (bQ.push { key:=u2,val:=u3,born:=clock }) (clock+1)) },po Z ψ hh.get v.cells,rfl,?_,?_⟩
      rotate_left
      ·rw [show lL kk x y es=es++[(x,y)] by simp [lL,Ct]]
       refine fin _ _ (bQ.push { key:=u2,val:=u3,born:=clock }) (clock+1) rfl ?_ ?_ ?_
       ·rw [Array.toList_push]
        exact hE.push ⟨⟨WU,nK⟩,tP,wL,hv3⟩
       ·rw [Array.toList_push,List.map_append,List.pairwise_append]
        refine ⟨vm.1 h4,by simp,fun a ha b hb => ?_⟩
        simp only [List.map_cons,List.map_nil,List.mem_singleton] at hb
        obtain ⟨e,he,rfl⟩:=List.mem_map.1 ha
        have:=h5 e he
        omega
       ·intro e he
        rw [Array.toList_push] at he
        rcases List.mem_append.1 he with he | he
        ·have:=h5 e he;omega
        ·simp only [List.mem_singleton] at he;subst he;exact Nat.lt_succ_self _
      ·simp only [Instr.mapUpdate,Sem.run_bind,run_underlying hu,Result.andThen_ok,MapKept.run_getObj_map h2,K.check Z w x u2 _ Ig nK,hf,Option.map_none,MapKept.run_setObj_map _ h2]
     | some j =>
      rw [Ct] at hf
      have hj:=DM Ct
      obtain ⟨e0,Tb,heq⟩:=Ro Ct
      have HM:j<bQ.toList.length:=by rw [←h3.1];exact hj
      have hl:bQ.toList[j]? = some bQ.toList[j]:=List.getElem?_eq_getElem HM
      have QU:bQ[j]? = some bQ.toList[j]:=by rw [←hl];simp
      obtain ⟨⟨WV,abH⟩,_⟩:=h3.2 j _ _ Tb hl
      have rH:bQ.toList[j].key=u2:=by
       refine K6 abH nK ?_
       rw [←(xV kk x e0.1 K.flat).1 heq] at WV
       exact nV K.flat WV Ig
      have Td:(Instr.keyThatStays u2 u2).run P w=.ok u2 w:=by simp [Instr.keyThatStays,Na K.flat Ig nK]
      refine ⟨_,{ w with heap:=w.heap.setIfInBounds r (.map (bQ.modify j fun e=>{ e with key:=u2,val:=u3 }) clock) },po Z ψ hh.get v.cells,rfl,?_,?_⟩
      rotate_left
      ·rw [show lL kk x y es=es.set j (x,y) by simp [lL,Ct]]
       refine fin _ _ (bQ.modify j fun e=>{ e with key:=u2,val:=u3 }) clock rfl ?_ ?_ ?_
       ·rw [Array.toList_modify]
        exact hE.set j (fun e he=>⟨⟨WU,nK⟩,tP,wL,hv3⟩)
       ·rw [Array.toList_modify,wQ (f:=fun e:MapEntry=>{ e with key:=u2,val:=u3 }) (fun _=>rfl)];exact vm.1 h4
       ·intro e he
        have:e.born∈(bQ.modify j fun e=>{ e with key:=u2,val:=u3 }).toList.map (·.born):=List.mem_map.2 ⟨e,he,rfl⟩
        rw [Array.toList_modify,wQ (f:=fun e:MapEntry=>{ e with key:=u2,val:=u3 }) (fun _=>rfl)] at this
        obtain ⟨e',Ue,h6⟩:=List.mem_map.1 this
        rw [←h6];exact h5 e' Ue
      ·simp only [Instr.mapUpdate,Sem.run_bind,run_underlying hu,Result.andThen_ok,MapKept.run_getObj_map h2,K.check Z w x u2 _ Ig nK,hf,Option.map_some,QU,Option.getD_some,rH,Td,MapKept.run_setObj_map _ h2]
    ·cases he
   ·cases he
  ·cases he
 ·cases he
theorem tR{Eqs:TypeId→Option K}(BG:∀t k,Eqs t=some k→kY P t k){hh:Heap}(g:Good Z ψ hh.get w B0 O){t ty:TypeId}{ts:List TypeId}{m i:AV}{u1 u2:Value}{e:bE}
  (hm:ax Z ψ hh.get w m u1) (hi:ax Z ψ hh.get w i u2) (he:mR P Eqs hh t m i some=some e) :
  ∃hw w',e=.wr (.mL []) hw∧(Builtin.delete_ (t::ts).toArray ty #[u1,u2]).run P w=.ok (.tuple #[]) w'∧Next Z ψ hh.get w B0 O N Z ψ hw.get w':=by
 unfold mR at he
 split at he
 ·rename_i ka va id Wc
  split at he
  ·rename_i kk vk es hg
   split at he
   ·rename_i hc
    obtain ⟨rfl,rfl⟩:=hc
    split at he
    ·rename_i x hx
     cases he
     obtain ⟨a,b,hu,hk,_⟩:=sO Wc
     have K:=vj BG hk
     obtain ⟨Ig,nK⟩:=Ie g (fun _ _ h=>h) K.flat hx hi
     simp only [ax] at hm
     have Ul:=hm.2 (by rw [hg];simp)
     obtain ⟨r,bQ,clock,h1,h2,h3,h4,h5⟩:=g.row id (.map kk vk) es hg
     rw [h1] at Ul
     subst Ul
     have aJ:=(Array.getElem?_eq_some_iff.1 h2).1
     have jo:ob (ψ id)=some r:=by rw [h1];rfl
     have hf:=K.find Z w x u2 bQ.toList (es.map (·.1)) Ig nK (jP.keys h3)
     rw [zk] at hf
     have fin:∀(o:Obj) (Nd:List (kk.T×vk.T)) (lR:Array MapEntry),o=.map lR clock→jP Z w kk vk Nd lR.toList→lR.toList.Sublist bQ.toList →
       Next Z ψ hh.get w B0 O N Z ψ (hh.set id (.own (.map kk vk) Nd)).get { w with heap:=w.heap.setIfInBounds r o }:=by
      rintro o Nd lR rfl h6 h7
      rw [lP]
      exact qO (N:=N) g (by rw [hg];simp) jo aJ (.map lR clock) (ok:=.map kk vk) (x:=Nd) (fun w' Ih sm=>⟨r,lR,clock,h1,by rw [Ih];simp [aJ],jP.mono h6 (fun _ h=>h) sm,h4.sublist h7,fun e he=>h5 e (h7.subset he)⟩)
     cases Ct:sy kk x es with
     | none =>
      rw [Ct] at hf
      refine ⟨_,{ w with heap:=w.heap.setIfInBounds r (.map bQ clock) },rfl,?_,?_⟩
      rotate_left
      ·rw [show MP kk x es=es by simp [MP,Ct]]
       exact fin _ _ bQ rfl h3 (List.Sublist.refl _)
      ·simp [Builtin.delete_,run_underlying hu,MapKept.run_getObj_map h2,K.check Z w x u2 _ Ig nK,hf,MapKept.run_setObj_map _ h2]
     | some j =>
      rw [Ct] at hf
      have hj:=DM Ct
      refine ⟨_,{ w with heap:=w.heap.setIfInBounds r (.map (bQ.eraseIdxIfInBounds j) clock) },rfl,?_,?_⟩
      rotate_left
      ·rw [show MP kk x es=es.eraseIdx j by simp [MP,Ct]]
       refine fin _ _ (bQ.eraseIdxIfInBounds j) rfl ?_ ?_
       ·rw [Array.toList_eraseIdxIfInBounds];exact jP.erase h3 j
       ·rw [Array.toList_eraseIdxIfInBounds];exact List.eraseIdx_sublist _ _
      ·simp [Builtin.delete_,run_underlying hu,MapKept.run_getObj_map h2,K.check Z w x u2 _ Ig nK,hf,MapKept.run_setObj_map _ h2]
    ·cases he
   ·cases he
  ·cases he
 ·cases he
theorem Ii{hh:Heap}(g:Good Z ψ h w B0 O)(bu:∀id o,hh.get id=some o→h id=some o){t ty:TypeId}{x:AV}{u:Value}{e:bE}(ht:HV P t=true)(hx:ax Z ψ h w x u)(he:u7 hh x some=some e) :
  ∃n:Nat,e=.val (.int .i64 (n:Int))∧(Builtin.len_ #[t] ty #[u]).run P w=.ok (.int .i64 (n:Int)) w:=by
 unfold u7 at he
 split at he
 ·rename_i kk vk es hv
  cases he
  have hu:∃a b,P.underlying t=some (.map a b):=by
   unfold HV at ht
   split at ht
   ·exact ⟨_,_,by assumption⟩
   ·cases ht
  obtain ⟨a,b,hu⟩:=hu
  obtain ⟨A,rfl,hA⟩:=JO g bu hx hv
  rcases hA with ⟨rfl,rfl⟩ | ⟨r,bQ,clock,rfl,h3,h4⟩
  ·exact ⟨0,rfl,by simp [Builtin.len_,run_underlying hu,goInt]⟩
  ·refine ⟨es.length,rfl,?_⟩
   have:bQ.size=es.length:=by rw [h4.1];simp
   simp [Builtin.len_,run_underlying hu,MapKept.run_getObj_map h3,goInt,this]
 ·cases he
theorem zn(g:Good Z ψ h w B0 O)(hB:B0≤w.heap.size)(id:Nat)(hN:N id){ok:OK}{x:ok.T}{v:Value}(o:Obj)(ho:je Z (w.alloc o) ok v x)(hb:ob v=some w.heap.size)
  (bh:∀i ty cs,h i=some (.box ty cs)→aC (fun i=>i≠id) cs):Next Z ψ h w B0 O N Z (dJ ψ id v) (dJ h id (some (.own ok x))) (w.alloc o) :=
 Fb g hB id hN (cT.alloc _ _ _ _) (fun b hb=>heap_alloc_old w _ (g.bL hb)) ho (fun b xX=>by rw [hb] at xX;cases xX;exact Nat.le_refl _) bh
theorem BR{Eqs:TypeId→Option K}(g:Good Z ψ h w B0 O)(hB:B0≤w.heap.size){id:Nat}(hN:N id){t:TypeId}{e:bE}(bh:∀i ty cs,h i=some (.box ty cs)→aC (fun i=>i≠id) cs)(he:kI P Eqs id t some=some e) :
  ∃v w' ψ',(Instr.makeMap t none).run P w=.ok v w'∧Next Z ψ h w B0 O N Z ψ' (e.hp h) w'∧ax Z ψ' (e.hp h) w' e.v v:=by
 unfold kI at he
 split at he
 ·rename_i kk vk Wc
  cases he
  refine ⟨.map (some w.heap.size),w.alloc (.map #[] 0),dJ ψ id (.map (some w.heap.size)),rfl,?_,?_⟩
  ·simp only [bE.hp];rw [gZ]
   exact zn g hB id hN (ok:=.map kk vk) (x:=[]) _ ⟨w.heap.size,#[],0,rfl,heap_alloc_new _ _,⟨rfl,fun i x e h=>by simp at h⟩,by simp,by simp⟩ rfl bh
  ·simp only [bE.v,bE.hp,ax]
   exact ⟨⟨rfl,rfl⟩,fun _=>(bg _ _ _).symm⟩
 ·cases he
theorem DO(g:Good Z ψ h w B0 O)(hB:B0≤w.heap.size){id:Nat}(hN:N id){t:TypeId}{x:AV}{u:Value}{e:bE}(hx:ax Z ψ h w x u)(bh:∀i ty cs,h i=some (.box ty cs)→aC (fun i=>i≠id) cs)(he:mS P id t x some=some e) :
  ∃v w' ψ',(Instr.range t u).run P w=.ok v w'∧Next Z ψ h w B0 O N Z ψ' (e.hp h) w'∧ax Z ψ' (e.hp h) w' e.v v:=by
 unfold mS at he
 split at he
 ·rename_i sv hu
  cases he
  simp only [ax] at hx
  subst hx
  refine ⟨.pointer (some ⟨w.heap.size,0,none⟩),w.alloc (.stringIter sv 0),dJ ψ id (.pointer (some ⟨w.heap.size,0,none⟩)),?_,?_,?_⟩
  ·simp only [Instr.range,Sem.run_bind,run_underlying hu,Result.andThen_ok,Sem.run_pure];rfl
  ·simp only [bE.hp];rw [gZ]
   exact zn g hB id hN (ok:=.mO) (x:=(sv,0)) _ ⟨w.heap.size,rfl,heap_alloc_new _ _⟩ rfl bh
  ·simp only [bE.v,bE.hp,ax]
   exact ⟨⟨rfl,rfl⟩,fun _=>(bg _ _ _).symm⟩
 ·cases he
theorem fG{r:Nat}{o:Obj}(hb:w.heap[r]? = some o)(hc:∀c e f,o≠.cells c e f):(getObj r).run P w=.ok o w:=by
 cases o<;>first | (exact absurd rfl (hc _ _ _)) | simp [getObj,Sem.run,hb]
theorem zo{r:Nat}{o o':Obj}(hb:w.heap[r]? = some o)(hc:∀c e f,o≠.cells c e f):(setObj r o').run P w=.ok () { w with heap:=w.heap.setIfInBounds r o' }:=by
 cases o<;>first | (exact absurd rfl (hc _ _ _)) | simp [setObj,Sem.run,hb]
theorem Fq{hh:Heap}(g:Good Z ψ h w B0 O)(bu:∀id o,hh.get id=some o→h id=some o){ty:TypeId}{x:AV}{u:Value}{e:bE}(hx:ax Z ψ h w x u)(lQ:∀v hw,e=.wr v hw→hh.get=h)(he:qD hh x some=some e) :
  ∃v w',(Instr.next u true ty).run P w=.ok v w'∧Next Z ψ h w B0 O N Z ψ (e.hp h) w'∧ax Z ψ (e.hp h) w' e.v v:=by
 unfold qD at he
 split at he
 ·rename_i id
  split at he
  ·rename_i x hg
   have uY:=bu _ _ hg
   simp only [ax] at hx
   have hu:=hx.2 (by rw [uY];simp)
   obtain ⟨r,h1,h2⟩:=g.row id .mO x uY
   rw [h1] at hu
   subst hu
   cases hc:decide (x.2<x.1.size) with
   | true =>
    rw [hc] at he;cases he
    have heq:=lQ _ _ rfl
    simp only [decide_eq_true_eq] at hc
    have aJ:=(Array.getElem?_eq_some_iff.1 h2).1
    refine ⟨.tuple #[.bool true,goInt x.2,.int .i32 (Utf8.decode x.1 x.2).1],{ w with heap:=w.heap.setIfInBounds r (.stringIter x.1 (x.2+(Utf8.decode x.1 x.2).2)) },?_,?_,?_⟩
    ·simp only [Instr.next,Sem.run_bind,fG h2 (by simp),Result.andThen_ok,hc,if_true,zo h2 (by simp),Sem.run_pure]
    ·simp only [bE.hp]
     rw [lP,heq]
     exact qO (N:=N) g (by rw [uY];simp) (by rw [h1];rfl) aJ _ (ok:=.mO) (x:=(x.1,x.2+yN x.1 x.2)) (fun w' Ih _=>⟨r,h1,by rw [Ih];simp [aJ,yN]⟩)
    ·simp only [bE.v,ax,ao]
     exact ⟨_,rfl,_,_,rfl,rfl,_,_,rfl,rfl,_,_,rfl,rfl,rfl⟩
   | false =>
    rw [hc] at he;cases he
    simp only [decide_eq_false_iff_not] at hc
    refine ⟨.tuple #[.bool false],w,?_,Next.refl g,?_⟩
    ·simp only [Instr.next,Sem.run_bind,fG h2 (by simp),Result.andThen_ok,hc,if_false,Sem.run_pure]
    ·simp only [bE.v,ax,ao]
     exact ⟨_,rfl,_,_,rfl,rfl,rfl⟩
  ·cases he
 ·cases he
theorem find_born{l:List MapEntry}(h:l.Pairwise (fun a b=>a.born≠b.born)){e:MapEntry}(he:e∈l):l.find? (fun x=>x.born==e.born)=some e:=by
 induction l with
 | nil=>cases he
 | cons a r ih =>
  obtain ⟨h1,h2⟩:=List.pairwise_cons.1 h
  rw [List.find?_cons]
  rcases List.mem_cons.1 he with rfl | he
  ·simp
  ·have:(a.born==e.born)=false:=by simpa using h1 e he
   rw [this];exact ih h2 he
theorem Fs{hh:Heap}(g:Good Z ψ h w B0 O)(bu:∀id o,hh.get id=some o→h id=some o){x:AV}{u:Value}{e:bE}(hx:ax Z ψ h w x u)(he:qE hh x some=some e) :
  ∃y v,e=.val y∧(Instr.entry u).run P w=.ok v w∧ax Z ψ h w y v:=by
 unfold qE at he
 split at he
 ·rename_i id
  split at he
  ·rename_i kk vk c rest hg
   cases he
   have uY:=bu _ _ hg
   simp only [ax] at hx
   have hu:=hx.2 (by rw [uY];simp)
   obtain ⟨r,m,since,seen,bQ,clock,h1,h2,h3,h4,h5,h6,h7,h8,h9⟩:=g.row id (.iter kk vk) (some c,rest) uY
   rw [h1] at hu
   subst hu
   obtain ⟨en,mr,xy,HN⟩:=h9
   obtain ⟨⟨k1,k2,k3⟩,v1,v2,v3⟩:=HN.2 0 c en rfl rfl
   refine ⟨_,.tuple #[en.key,en.val],rfl,?_,?_⟩
   ·have hf:bQ.find? (·.born==en.born)=some en:=by
     have:=find_born h5 mr
     rwa [←Array.find?_toList]
    simp only [Instr.entry,Sem.run_bind,fG h2 (by simp),Result.andThen_ok,xy,Sem.run_pure,fG h4 (by simp),hf]
    simp
   ·simp only [ax,ao]
    exact ⟨_,rfl,_,_,rfl,kX k1 k2 k3,_,_,rfl,kX v1 v2 v3,rfl⟩
  ·cases he
 ·cases he
end Go.Vs
namespace Go.Vs
variable {P:Program} {Z Z':Nat→Prop} {ψ ψ':Nat→Value} {h h':Hp} {w w':World} {B0:Nat} {O:Nat→Prop} {N:Nat→Prop}
mutual
theorem aK.imp{p q:Nat→Prop}(zp:∀i,p i→q i):∀{a:AV},aK p a→aK q a
 | .no,_=>by simp only [aK]
 | .bool b,_=>by simp only [aK]
 | .int k n,_=>by simp only [aK]
 | .str s,_=>by simp only [aK]
 | .kS,_=>by simp only [aK]
 | .fB,_=>by simp only [aK]
 | .ref id s i off,h=>by simp only [aK] at h ⊢;exact zp _ h
 | .fp k x off,_=>by simp only [aK]
 | .sl ex k xs,_=>by simp only [aK]
 | .mp kk vk es,_=>by simp only [aK]
 | .bF id,h=>by simp only [aK] at h ⊢;exact zp _ h
 | .fn f cap,h=>by simp only [aK] at h ⊢;exact aC.imp zp h
 | .agg cs,h=>by simp only [aK] at h ⊢;exact aC.imp zp h
 | .mL cs,h=>by simp only [aK] at h ⊢;exact aC.imp zp h
theorem aC.imp{p q:Nat→Prop}(zp:∀i,p i→q i):∀{a:List AV},aC p a→aC q a
 | [],_=>by simp only [aC]
 | a::r,h=>by simp only [aC] at h ⊢;exact ⟨aK.imp zp h.1,aC.imp zp h.2⟩
end
theorem aK.cells{p:Nat→Prop}{a:AV}(h:aK p a):aC p a.cells:=by
 cases a with
 | agg cs=>simpa only [AV.cells,aK] using h
 | _=>simp only [AV.cells,aC];exact ⟨h,trivial⟩
theorem zq:∀{cs:List AV},E6 cs=true→∀id,AV.bF id∉cs
 | [],_,id=>by simp
 | c::r,hn,id=>by
  intro hm
  cases c with
  | bF i=>simp [E6] at hn
  | _ =>
   simp only [E6] at hn
   rcases List.mem_cons.1 hm with e | hm
   ·cases e
   ·exact zq hn id hm
theorem pV:∀{vs:List AV},pC vs=true→∀v∈vs,∀id,AV.bF id∉v.cells
 | [],_,v,hv=>by simp at hv
 | a::r,hn,v,hv=>by
  simp only [pC,Bool.and_eq_true] at hn
  rcases List.mem_cons.1 hv with rfl | hv
  ·exact zq hn.1
  ·exact pV hn.2 v hv
def tS(o:Oper):Bool :=
 match o.op with
 | .call { callee:=.value _,.. }=>true
 | _=>false
theorem Ij{s:List (Nat×AV)}{ρC:Operand→Value}{x:Option Operand}(hx:∀y,x=some y→ax Z ψ h w (ρ s y) (ρC y)):dK Z ψ h w (x.map (ρ s)) (x.map ρC):=by
 cases x with
 | none=>trivial
 | some y=>exact hx y rfl
theorem zr{s:List (Nat×AV)}{ρC:Operand→Value}:∀(ps:List (Nat×Operand)),(∀p∈ps,ax Z ψ h w (ρ s p.2) (ρC p.2))→(∀p∈ps,ρ s p.2≠.no)→rL Z ψ h w (ps.map fun p=>(p.1,ρ s p.2)) (ps.map fun p=>(p.1,ρC p.2))
 | [],_,_=>trivial
 | p::r,h1,h2=>⟨rfl,h2 p (by simp),h1 p (by simp),zr r (fun q hq=>h1 q (List.mem_cons_of_mem _ hq)) (fun q hq=>h2 q (List.mem_cons_of_mem _ hq))⟩
theorem Cu{k:K}{hh:Heap}:∀{ps:List (Nat×AV)} {i:Nat} {xs:List k.T},pJ k hh i ps=some xs→∀p∈ps,p.2≠.no
 | [],_,_,_,p,hp=>by simp at hp
 | (j,v)::r,i,xs,hl,p,hp=>by
  simp only [pJ] at hl
  split at hl
  ·split at hl
   ·rename_i x ys h1 h2
    rcases List.mem_cons.1 hp with rfl | hp
    ·exact Cq h1
    ·exact Cu h2 p hp
   ·cases hl
  ·cases hl
theorem Um{α:Type}{l:List α}(h:l.length=0+1+1):∃x y,l=[x,y]:=by
 cases l with
 | nil=>simp at h
 | cons a r=>cases r with
  | nil=>simp at h
  | cons b s=>cases s with
   | nil=>exact ⟨a,b,rfl⟩
   | cons c q=>simp at h
theorem Ik{a:AV}(h:S5 a=true):a≠.no:=by rintro rfl;cases h
section
variable {Eqs:TypeId→Option K} {Sg:FuncId→Option aL} {F:(f:FuncId)→(g:aL)→g.A→Option g.B}
theorem DP{hh:Heap}{ρC:Operand→Value}{o:Oper}(g:Good Z ψ h w B0 O)(hB:B0≤w.heap.size)(bu:∀id o,hh.get id=some o→h id=some o){id:Nat}(hN:N id){t:TypeId}{s x:AV}{u v:Value}{e:bE}
  (hs:ax Z ψ h w s u) (hx:ax Z ψ h w x v) (DQ:aK (fun i=>¬N i) s) (bh:∀i ty cs,h i=some (.box ty cs)→aC (fun i=>¬N i) cs) (lQ:∀v hw,e=.wr v hw→hh.get=h) (he:mP P hh id t s x some=some e)
  (db:∀V w',(Builtin.append_ #[t,t] o.type #[u,v]).run P w=.ok V w'→(execOp ρC o).run P w=.ok (.value V) w'):gD P ρC o Z ψ h w B0 O N e:=by
 have QV:∀i ty cs,h i=some (.box ty cs)→aC (fun i=>i≠id) cs:=fun i ty cs hb=>(bh i ty cs hb).imp (fun j hj e=>hj (by rw [e];exact hN))
 unfold mP at he
 split at he
 ·cases he
 ·rename_i et het
  have ht:=mz het
  split at he
  ·cases he
  ·rename_i kk Rp
   split at he
   ·rename_i ys BS lI
    obtain ⟨inf,z,HK⟩:=cv lI
    split at he
    ·
     cases hc:aO 0 ys.length with
     | false=>rw [hc] at he;cases he
     | true =>
      rw [hc] at he;cases he
      simp only [aO,decide_eq_true_eq] at hc
      simp only [ax] at hs
      subst hs
      obtain ⟨V,w',h1,h2,h3⟩:=oV (P:=P) (ty:=o.type) g bu hB hN ht HK BS hx (by omega) QV
      refine ⟨V,w',Z,_,.inl (db V w' h1),by simp only [bE.hp];rw [gZ];exact h2,?_⟩
      simp only [bE.v,bE.hp,ax]
      exact ⟨h3,fun _=>(bg _ _ _).symm⟩
    ·
     rename_i cH
     split at he
     ·rename_i e' k' xs hg
      split at he
      ·rename_i hc
       obtain ⟨rfl,rfl⟩:=hc
       cases tw:aO xs.length ys.length with
       | false=>rw [tw] at he;cases he
       | true =>
        rw [tw] at he;cases he
        simp only [aO,decide_eq_true_eq] at tw
        have heq:=lQ _ _ rfl
        have uY:=bu _ _ hg
        simp only [ax] at hs
        have hu:=hs.2 (by rw [uY];simp)
        subst hu
        simp only [aK] at DQ
        obtain ⟨V,w',h1,h2,h3⟩:=xz (P:=P) (ty:=o.type) g bu hB hN (fun e=>DQ (by rw [e];exact hN)) ht HK uY BS hx tw QV
        refine ⟨V,w',Z,_,.inl (db V w' h1),by simp only [bE.hp];rw [lP,tN,heq];exact h2,?_⟩
        simp only [bE.v,bE.hp,ax]
        exact ⟨h3,fun _=>(bg _ _ _).symm⟩
      ·cases he
     ·cases he
    ·
     rename_i ex k' xs
     split at he
     ·rename_i hc
      subst hc
      cases tw:(ex&&((!ys.isEmpty || xs.isEmpty)&&aO xs.length ys.length)) with
      | false=>rw [tw] at he;cases he
      | true =>
       rw [tw] at he;cases he
       simp only [Bool.and_eq_true,Bool.or_eq_true,aO,decide_eq_true_eq,Bool.not_eq_true',List.isEmpty_eq_false_iff,List.isEmpty_iff] at tw
       obtain ⟨rfl,bj,Rq⟩:=tw
       obtain ⟨V,w',h1,h2,h3⟩:=zd (P:=P) (ty:=o.type) g bu hB hN ht HK hs BS hx (bj.imp List.length_pos_iff.2 (fun h=>h)) Rq QV
       refine ⟨V,w',Z,_,.inl (db V w' h1),by simp only [bE.hp];rw [gZ];exact h2,?_⟩
       simp only [bE.v,bE.hp,ax]
       exact ⟨h3,fun _=>(bg _ _ _).symm⟩
     ·cases he
    ·cases he
   ·cases he
theorem zt{ρC:Operand→Value}{o:Oper}(g:Good Z ψ h w B0 O)(hB:B0≤w.heap.size){id:Nat}(hN:N id){t:TypeId}{vs:List AV}{us:Array Value}{e:bE}(hr:ao Z ψ h w vs us.toList)(h1:∀u∈us.toList,u.oneCell'=true)
  (hm:aC (fun i=>¬N i) vs) (bh:∀i ty cs,h i=some (.box ty cs)→aC (fun i=>¬N i) cs) (he:vd id t vs some=some e)
  (db:(execOp ρC o).run P w=.ok (.value (.pointer (some ⟨w.heap.size,0,none⟩))) (w.alloc (.cells us t))):gD P ρC o Z ψ h w B0 O N e:=by
 unfold vd at he
 cases he
 have bj:∀i,¬N i→i≠id:=fun j hj e=>hj (by rw [e];exact hN)
 have n:=yY (N:=N) g hB id t hN hr h1 (fun i ty cs hb=>(bh i ty cs hb).imp bj) (hm.imp bj)
 refine ⟨_,_,Z,_,.inl db,by simp only [bE.hp];rw [gZ];exact n,?_⟩
 simp only [bE.v,bE.hp,ax]
 exact ⟨_,rfl,fun _=>by rw [bg];simp [Rh]⟩
theorem K7{hh:Heap}{ρC:Operand→Value}{s:List (Nat×AV)}{o:Oper}(g:Good Z ψ h w B0 O)(hB:B0≤w.heap.size)(bu:∀id o,hh.get id=some o→h id=some o){id:Nat}(hN:N id){t:TypeId}{n:Nat}{ps:Array (Nat×Operand)}{e:bE}
  (mM:∀p∈ps.toList,ax Z ψ h w (ρ s p.2) (ρC p.2)) (bh:∀i ty cs,h i=some (.box ty cs)→aC (fun i=>¬N i) cs) (ke:Bool) {e0:bE} (Rr:e=if ke then Rg e0 else e0) (lQ:∀v hw,e=.wr v hw→hh.get=h) (he:tB P hh id t n (ps.toList.map fun p=>(p.1,ρ s p.2)) some=some e0)
  (db:∀V w',(Instr.buildSlice t n (ps.map fun p=>(p.1,ρC p.2))).run P w=.ok V w'→(execOp ρC o).run P w=.ok (.value V) w'):gD P ρC o Z ψ h w B0 O N e:=by
 have QV:∀i ty cs,h i=some (.box ty cs)→aC (fun i=>i≠id) cs:=fun i ty cs hb=>(bh i ty cs hb).imp (fun j hj e=>hj (by rw [e];exact hN))
 unfold tB at he
 split at he
 ·cases he
 ·rename_i et het
  have ht:=mz het
  split at he
  ·cases he
  ·rename_i k hk
   split at he
   ·cases he
   ·cases he
   ·rename_i xs mV lI
    obtain ⟨inf,z,HK⟩:=cv lI
    have Il:=zr (Z:=Z) (ψ:=ψ) (h:=h) (w:=w) ps.toList mM (fun p hp=>Cu mV (p.1,ρ s p.2) (List.mem_map.2 ⟨p,hp,rfl⟩))
    have JP:rL Z ψ hh.get w (ps.toList.map fun p=>(p.1,ρ s p.2)) (ps.map fun p=>(p.1,ρC p.2)).toList:=by
     rw [Array.toList_map];exact Il.o6 bu
    split at he
    ·rename_i hc
     obtain ⟨rfl,hn⟩:=hc
     cases pq:pC ((ps.toList.map fun p=>(p.1,ρ s p.2)).map (·.2)) with
     | true =>
      rw [pq] at he;cases he
      have abI:=pV pq
      obtain ⟨V,w',h1,h2,h3⟩:=Fh (P:=P) (N:=N) g (g.sub bu) (fun _ h=>h) hB hN ht HK (fun p hp i b hm=>absurd hm (abI p.2 (List.mem_map.2 ⟨p,hp,rfl⟩) i)) JP mV hn QV
      cases ke with
      | false =>
       have Rr:e=.new (.bF id) [(id,.own (.row et k) xs)]:=Rr
       subst Rr
       refine ⟨V,w',Z,_,.inl (db V w' h1),by simp only [bE.hp];rw [gZ];exact h2,?_⟩
       simp only [bE.v,bE.hp,ax]
       exact ⟨h3.1,fun _=>(bg _ _ _).symm⟩
      | true =>
       have Rr:e=.new (.sl true k xs) []:=Rr
       subst Rr
       obtain ⟨m1,m2⟩:=M4 g hB h2 h3.2.1 h3.2.2.1 h3.2.2.2
       have e1:(bE.new (.sl true k xs) []).hp h=h:=by funext i;simp [bE.hp,Heap.get]
       refine ⟨V,w',_,_,.inl (db V w' h1),by rw [e1];exact m1,?_⟩
       rw [e1];exact m2
     | false =>
      rw [pq] at he;cases he
      have Rr:e=.wr (.bF id) ((id,.own (.row et k) xs)::cC hh ((ps.toList.map fun p=>(p.1,ρ s p.2)).flatMap (·.2.cells))):=by
       rw [Rr];cases ke<;>rfl
      subst Rr
      have heq:=lQ _ _ rfl
      subst heq
      let cs:=(ps.toList.map fun p=>(p.1,ρ s p.2)).flatMap (·.2.cells)
      have gd:=gY g cs
      obtain ⟨V,w',h1,h2,h3⟩:=Fh (P:=P) (N:=N) gd g (fun b hb=>.inl hb) hB hN ht HK (fun p hp i b hm bj hb=>.inr ⟨i,List.mem_flatMap.2 ⟨p,hp,hm⟩,bj,hb⟩) JP mV hn (fun i ty cs' hb=>QV i ty cs' (dN _ _ _ _ hb))
      refine ⟨V,w',po Z ψ hh.get cs,dJ ψ id V,.inl (db V w' h1),?_,?_⟩
      ·simp only [bE.hp]
       rw [zi]
       exact h2.drop (fun b hb=>.inl hb) (fun b hb=>hb.imp (fun h=>h) (fun ⟨i,_,h5,h6⟩=>⟨i,h5,h6⟩)) (dN _ _)
      ·simp only [bE.v,bE.hp,ax]
       exact ⟨h3.1,fun _=>(bg _ _ _).symm⟩
    ·cases he
theorem K8{ke:Bool}{h:Heap}{id:Nat}{t:TypeId}{n:Nat}{ps:List (Nat×AV)}{e:bE}(he:ve P ke h id t n ps some=some e):∃e0,tB P h id t n ps some=some e0∧e=if ke then Rg e0 else e0:=by
 unfold ve tB at he
 unfold tB
 split at he
 ·cases he
 split at he
 ·cases he
 split at he
 ·cases he
 ·cases he
 split at he
 ·rename_i hc
  rw [if_pos hc]
  cases pq:pC (ps.map (·.2)) with
  | true=>rw [pq] at he;exact ⟨_,rfl,(Option.some.inj he).symm⟩
  | false=>rw [pq] at he;exact ⟨_,rfl,(Option.some.inj he).symm⟩
 ·cases he
theorem zu(p:Nat→Prop)(v:Value):aK p (u4 v):=by
 cases v with
 | pointer a=>simp only [u4];split<;>simp only [aK]
 | slice a n c=>simp only [u4];split<;>simp only [aK]
 | func fn first cap =>
  cases fn with
  | func f=>simp only [u4];split<;>simp only [aK,aC]
  | _=>simp only [u4,aK]
 | _=>simp only [u4,aK]
theorem vn(p:Nat→Prop):∀vs:List Value,aC p (vs.map u4)
 | []=>by simp [aC]
 | v::r=>by simp only [List.map_cons,aC];exact ⟨zu p v,vn p r⟩
theorem K9(p:Nat→Prop)(v:Value):aC p (sx v).cells:=by
 cases v with
 | agg cs=>simp only [sx,AV.cells];exact vn p _
 | _=>simp only [sx];rw [Cp];simp only [aC];exact ⟨zu p _,trivial⟩
theorem Ng(BG:∀t k,Eqs t=some k→kY P t k){hh:Heap}{ρC:Operand→Value}{s:List (Nat×AV)}{o:Oper}(g:Good Z ψ h w B0 O)(hB:B0≤w.heap.size)(bu:∀id o,hh.get id=some o→h id=some o){id:Nat}(hN:makes o.op=true→N id){e:bE}
  (mM:∀x∈o.op.operands,ax Z ψ h w (ρ s x) (ρC x)) (hm:∀x∈o.op.operands,aK (fun i=>¬N i) (ρ s x)) (bh:∀i ty cs,h i=some (.box ty cs)→aC (fun i=>¬N i) cs) (lQ:∀v hw,e=.wr v hw→hh.get=h)
  (HO:tS o=false) (he:cJ P Eqs Sg F id hh s o some=some e):gD P ρC o Z ψ h w B0 O N e:=by
 obtain ⟨dst,op,type,pos,after,guard⟩:=o
 have two:∀{a b:Operand},(∀x∈(#[a,b]:Array Operand),ax Z ψ h w (ρ s x) (ρC x))→ax Z ψ h w (ρ s a) (ρC a)∧ax Z ψ h w (ρ s b) (ρC b):=fun hx=>⟨hx _ (by simp),hx _ (by simp)⟩
 cases op<;>simp only [cJ] at he<;>simp only [Op.operands] at mM hm<;>first | (cases he;done) | skip
 case move x=>cases he;exact gD.val g (V:=ρC x) (by simp [execOp]) (mM x (by simp))
 case assign x=>cases he;exact gD.val g (V:=ρC x) (by simp [execOp]) (mM x (by simp))
 case pick c a b =>
  have h1:=mM c (by simp);have h2:=mM a (by simp);have h3:=mM b (by simp)
  split at he
  ·rename_i t ht
   cases he
   rw [ht] at h1
   simp only [ax] at h1
   refine gD.val g (V:=if t then ρC a else ρC b) (by simp [execOp,h1,asBool]) ?_
   unfold S4
   split
   ·rename_i p q hp hq
    rw [hp] at h2;rw [hq] at h3
    simp only [ax] at h2 h3 ⊢
    cases t<;>simp [h2,h3]
   ·cases t
    ·exact h3
    ·exact h2
  ·cases he
 case alloc t =>
  split at he
  ·rename_i z hz
   obtain ⟨i,zv,hi,WQ,rfl,h1⟩:=nS hz
   exact zt (us:=zv.cells) g hB (hN rfl) (zg zv) h1 (K9 _ zv) bh he (by simp [execOp,Instr.alloc,tM hi WQ,newVar,newRow,newObj,Sem.run])
  ·cases he
 case box t x =>
  have h1:=mM x (by simp)
  split at he
  ·rename_i hp
   have hc:=h1.cells (Fl hp)
   exact zt (us:=(ρC x).cells) g hB (hN rfl) hc (sM hp hc) (hm x (by simp)).cells bh he (by simp [execOp,Instr.box,newVar,newRow,newObj,Sem.run])
  ·cases he
 case build t ps =>
  unfold qF at he
  split at he
  ·rename_i z fs hz hf
   split at he
   ·rename_i cs WW eg
    cases he
    simp only [Bool.and_eq_true] at eg
    obtain ⟨eg,hnn⟩:=eg
    have WX:fs.toList.all (fun f=>(P.info? f.type).isSome)=true:=eg
    have Un:∀p∈ps.toList,ax Z ψ h w (ρ s p.2) (ρC p.2):=fun p hp=>mM p.2 (by simp;exact ⟨p.1,by simpa using hp⟩)
    have Il:=zr (Z:=Z) (ψ:=ψ) (h:=h) (w:=w) ps.toList Un (fun p hp=>Ik (List.all_eq_true.1 hnn (p.1,ρ s p.2) (List.mem_map.2 ⟨p,hp,rfl⟩)))
    obtain ⟨V,h1,h2⟩:=KY (P:=P) (qs:=ps.map fun p=>(p.1,ρC p.2)) hz hf WX (by rw [Array.toList_map];exact Il) WW
    exact gD.val g (V:=V) (by simp only [execOp,Sem.run_bind];rw [h1];simp) h2
   ·cases he
  ·cases he
 case buildSlice t n ps =>
  have Un:∀p∈ps.toList,ax Z ψ h w (ρ s p.2) (ρC p.2):=fun p hp=>mM p.2 (by simp;exact ⟨p.1,by simpa using hp⟩)
  obtain ⟨e0,h0,h1⟩:=K8 he
  exact K7 g hB bu (hN rfl) Un bh ((Sg (900000+t)).isSome) h1 lQ h0 (fun V w' h1=>by simp only [execOp,Sem.run_bind];rw [h1];simp)
 case load t a =>
  obtain ⟨x,V,rfl,h1,h2⟩:=sK g bu (mM a (by simp)) he
  exact gD.val g (V:=V) (by simp [execOp,h1]) h2
 case store t a v =>
  obtain ⟨h1,h2⟩:=two mM
  have hw:∃hw,e=.wr .no hw:=by
   obtain ⟨hw,_,_,h3,_⟩:=wO (P:=P) (N:=N) (g.sub bu) (h1.o6 bu) (h2.o6 bu) he
   exact ⟨hw,h3⟩
  obtain ⟨hw,rfl⟩:=hw
  have heq:=lQ _ _ rfl
  subst heq
  obtain ⟨Ih,w',Z',h3,h4,h5⟩:=wO (P:=P) (N:=N) g h1 h2 he
  cases h3
  exact ⟨undef,w',Z',ψ,.inr ⟨by simp [execOp,h4],rfl⟩,h5,by simp only [bE.v,ax]⟩
 case nilCheck x =>
  have h1:=mM x (by simp)
  split at he
  ·rename_i id s i off hx
   cases he
   rw [hx] at h1
   have h2:=h1
   simp only [ax] at h1
   obtain ⟨a,ha,_⟩:=h1
   exact gD.val g (V:=ρC x) (by simp [execOp,ha]) h2
  ·rename_i k y off hx
   cases he
   rw [hx] at h1
   have h2:=h1
   simp only [ax] at h1
   obtain ⟨a,us,ha,_⟩:=h1
   exact gD.val g (V:=ρC x) (by simp [execOp,ha]) h2
  ·rename_i f cap hx
   cases he
   rw [hx] at h1
   have h2:=h1
   simp only [ax] at h1
   obtain ⟨vs,ha,_⟩:=h1
   exact gD.val g (V:=ρC x) (by simp [execOp,ha]) h2
  ·cases he
 case binOp op t x y yt =>
  obtain ⟨h1,h2⟩:=two mM
  obtain ⟨r,V,rfl,h3,h4⟩:=K3 BG (xo:=x) (yo:=y) h1 h2 he
  exact gD.val g (V:=V) (by simp only [execOp,Sem.run_bind] at h3 ⊢;rw [h3];simp) h4
 case unOp op t x =>
  have h1:=mM x (by simp)
  cases op<;>simp only at he<;>first | (cases he;done) | skip
  split at he
  ·rename_i b hx
   cases he
   rw [hx] at h1
   simp only [ax] at h1
   exact gD.val g (V:=.bool (!b)) (by simp [execOp,h1,Op.unary]) (by simp only [ax])
  ·cases he
 case convert src dst x =>
  have h1:=mM x (by simp)
  unfold yS at he
  split at he
  ·rename_i k1 k2 k3 n hs hd hx
   cases he
   rw [hx] at h1
   simp only [ax] at h1
   exact gD.val g (V:=.int k2 (k2.wrap n)) (by simp [execOp,h1,convert,run_underlying hs,run_underlying hd,Conv.intToInt]) (by simp only [ax])
  ·rename_i sv hs hd hx
   cases he
   rw [hx] at h1
   have h2:=h1
   simp only [ax] at h1
   exact gD.val g (V:=ρC x) (by simp [execOp,h1,convert,run_underlying hs,run_underlying hd]) h2
  ·cases he
 case makeFunc fn first cap =>
  cases fn<;>simp only at he<;>first | (cases he;done) | skip
  rename_i f
  split at he
  ·rename_i hf
   cases he
   have h0:first=#[]:=Array.eq_empty_of_size_eq_zero hf
   subst h0
   have hl:∀l:List Operand,(∀x∈l,ax Z ψ h w (ρ s x) (ρC x))→ao Z ψ h w (l.map (ρ s)) (l.map ρC):=by
    intro l
    induction l with
    | nil=>intro _;simp [ao]
    | cons a r ih=>intro ha;simp only [List.map_cons,ao];exact ⟨_,_,rfl,ha a (by simp),ih (fun x hx=>ha x (List.mem_cons_of_mem _ hx))⟩
   exact gD.val g (V:=.func (.func f) #[] (cap.map ρC)) (by simp [execOp,Instr.makeFunc]) (by simp only [ax];exact ⟨_,rfl,by rw [Array.toList_map];exact hl _ (fun x hx=>mM x (by simp;simpa using hx))⟩)
  ·cases he
 case slice t x lo hi mx =>
  have h1:=mM x (by simp)
  have h2:dK Z ψ h w (lo.map (ρ s)) (lo.map ρC):=Ij (fun y hy=>mM y (by subst hy;simp))
  have h3:dK Z ψ h w (hi.map (ρ s)) (hi.map ρC):=Ij (fun y hy=>mM y (by subst hy;simp))
  have h4:dK Z ψ h w (mx.map (ρ s)) (mx.map ρC):=Ij (fun y hy=>mM y (by subst hy;simp))
  split at he
  ·rename_i ht
   unfold yM at he
   split at he
   ·rename_i sv hx hmx
    split at he
    ·rename_i l u hb
     cases ho:aX sv.size l u with
     | false=>rw [ho] at he;cases he
     | true =>
      rw [ho] at he;cases he
      rw [hx] at h1
      simp only [ax] at h1
      have hm0:mx=none:=by cases mx with
       | none=>rfl
       | some m=>simp at hmx
      subst hm0
      have db:=sL (P:=P) (w:=w) (b:=false) (Nat.le_refl sv.size) h2 h3 (mx:=none) (mx':=none) trivial hb ho (.inl rfl)
      exact gD.val g (V:=.string (T8 sv l u)) (by simp [execOp,Instr.sliceAt,Instr.slice,run_underlying ht,h1,db,T8]) (by simp only [ax])
    ·cases he
   ·cases he
  ·rename_i et ht
   split at he
   ·rename_i Ui
    obtain ⟨V,Z',h5,h6,h7⟩:=Fk (P:=P) (N:=N) g bu ht h1 h2 h3 h4 lQ he Ui
    exact ⟨V,w,Z',ψ,.inl (by simp [execOp,h5]),h6,h7⟩
   ·cases he
  ·cases he
 case fieldAddr t x f =>
  have h1:=mM x (by simp)
  split at he
  ·rename_i n ft id sz i off hf hx
   split at he
   ·cases he
   ·rename_i hc
    cases he
    rw [hx] at h1
    obtain ⟨V,h2,h3⟩:=rP (P:=P) hf hc h1
    exact gD.val g (V:=V) (by simp [execOp,h2]) h3
  ·rename_i n ft k y off hf hx
   split at he
   ·cases he
   ·rename_i hc
    cases he
    rw [hx] at h1
    obtain ⟨V,h2,h3⟩:=tO (P:=P) hf hc h1
    exact gD.val g (V:=V) (by simp [execOp,h2]) h3
  ·cases he
 case field t x f =>
  have h1:=mM x (by simp)
  split at he
  ·rename_i n ft cs hf hx
   split at he
   ·rename_i v hv
    cases he
    rw [hx] at h1
    obtain ⟨V,h2,h3⟩:=Fj (P:=P) hf h1 hv
    exact gD.val g (V:=V) (by simp [execOp,h2]) h3
   ·cases he
  ·cases he
 case indexAddr t x i =>
  obtain ⟨h1,h2⟩:=two mM
  obtain ⟨y,V,rfl,h3,h4⟩:=oW g bu h1 h2 he
  exact gD.val g (V:=V) (by simp [execOp,h3]) h4
 case index t x i =>
  obtain ⟨h1,h2⟩:=two mM
  split at he
  ·rename_i sv ik n ht hx hi
   obtain ⟨c,hc,QS⟩:=Option.bind_eq_some_iff.1 he
   cases QS
   rw [hx] at h1;rw [hi] at h2
   simp only [ax] at h1 h2
   exact gD.val g (V:=.int .u8 (c.toNat:Int)) (by simp [execOp,Instr.index,asIntOf,run_underlying ht,h1,h2,hc]) (by simp only [ax])
  ·cases he
 case extract t i =>
  have h1:=mM t (by simp)
  split at he
  ·rename_i vs hx
   split at he
   ·rename_i v hv
    cases he
    rw [hx] at h1
    simp only [ax] at h1
    obtain ⟨us,hu,hl⟩:=h1
    obtain ⟨u,h2,h3⟩:=hl.get i hv
    exact gD.val g (V:=u) (by simp [execOp,Instr.extract,hu,show us[i]? = some u by simpa using h2]) h3
   ·cases he
  ·cases he
 case makeMap t r =>
  cases r with
  | some r=>cases he
  | none =>
   simp only at he
   have QV:∀i ty cs,h i=some (.box ty cs)→aC (fun i=>i≠id) cs:=fun i ty cs hb=>(bh i ty cs hb).imp (fun j hj e=>hj (by rw [e];exact hN rfl))
   obtain ⟨V,w',ψ',h1,h2,h3⟩:=BR g hB (hN rfl) QV he
   exact ⟨V,w',Z,ψ',.inl (by simp [execOp,h1]),h2,h3⟩
 case lookup t m i ok =>
  obtain ⟨h1,h2⟩:=two mM
  obtain ⟨y,V,rfl,h3,h4⟩:=DN BG g bu h1 h2 he
  exact gD.val g (V:=V) (by simp [execOp,h3]) h4
 case mapUpdate t m i v =>
  have h1:=mM m (by simp);have h2:=mM i (by simp);have h3:=mM v (by simp)
  have hw:∃hw,e=.wr (.mL []) hw:=by
   obtain ⟨hw,_,_,h4,_⟩:=tQ (N:=N) BG (g.sub bu) (h1.o6 bu) (h2.o6 bu) (h3.o6 bu) he
   exact ⟨hw,h4⟩
  obtain ⟨hw,rfl⟩:=hw
  have heq:=lQ _ _ rfl
  subst heq
  obtain ⟨Ih,w',Z',h4,h5,h6⟩:=tQ (N:=N) BG g h1 h2 h3 he
  cases h4
  exact ⟨undef,w',Z',ψ,.inr ⟨by simp [execOp,h5],rfl⟩,h6,by simp only [bE.v,ax,ao];exact ⟨#[],rfl,rfl⟩⟩
 case range t x =>
  have QV:∀i ty cs,h i=some (.box ty cs)→aC (fun i=>i≠id) cs:=fun i ty cs hb=>(bh i ty cs hb).imp (fun j hj e=>hj (by rw [e];exact hN rfl))
  obtain ⟨V,w',ψ',h1,h2,h3⟩:=DO g hB (hN rfl) (mM x (by simp)) QV he
  exact ⟨V,w',Z,ψ',.inl (by simp [execOp,h1]),h2,h3⟩
 case next x b =>
  cases b with
  | false=>cases he
  | true =>
   obtain ⟨V,w',h1,h2,h3⟩:=Fq (P:=P) (N:=N) (ty:=type) g bu (mM x (by simp)) lQ he
   exact ⟨V,w',Z,ψ,.inl (by simp [execOp,h1]),h2,h3⟩
 case entry x =>
  obtain ⟨y,V,rfl,h1,h2⟩:=Fs (P:=P) g bu (mM x (by simp)) he
  exact gD.val g (V:=V) (by simp [execOp,h1]) h2
 case call c =>
  obtain ⟨callee,args,argTypes⟩:=c
  cases callee with
  | value f=>simp [tS] at HO
  | invoke r m=>simp only at he;cases he
  | builtin b =>
   have kr:∀x∈args.toList,ax Z ψ h w (ρ s x) (ρC x):=fun x hx=>mM x (by simp only [Call.operands];exact Array.mem_append.2 (.inr (by simpa using hx)))
   have Nh:∀x∈args.toList,aK (fun i=>¬N i) (ρ s x):=fun x hx=>hm x (by simp only [Call.operands];exact Array.mem_append.2 (.inr (by simpa using hx)))
   obtain ⟨args⟩:=args
   obtain ⟨argTypes⟩:=argTypes
   simp only at he kr Nh
   cases b<;>simp only at he<;>first | (cases he;done) | skip
   case append =>
    split at he
    ·rename_i l1 l2 x y t t'
     split at he
     ·rename_i htt
      subst htt
      exact DP g hB bu (hN rfl) (kr x (by simp)) (kr y (by simp)) (Nh x (by simp)) bh lQ he (fun V w' h1=>by
       simp only [execOp,resolve,invoke,builtin,Sem.run_bind,Sem.run_pure,Result.andThen_ok,List.map_toArray,List.map_cons,List.map_nil,h1])
     ·cases he
    ·cases he
   case delete =>
    split at he
    ·rename_i l1 l2 m x t ts
     have h1:=kr m (by simp);have h2:=kr x (by simp)
     have hw:∃hw,e=.wr (.mL []) hw:=by
      obtain ⟨hw,_,h4,_⟩:=tR (N:=N) (ty:=type) (ts:=ts) BG (g.sub bu) (h1.o6 bu) (h2.o6 bu) he
      exact ⟨hw,h4⟩
     obtain ⟨hw,rfl⟩:=hw
     have heq:=lQ _ _ rfl
     subst heq
     obtain ⟨Ih,w',h4,h5,h6⟩:=tR (N:=N) (ty:=type) (ts:=ts) BG g h1 h2 he
     cases h4
     exact ⟨.tuple #[],w',Z,ψ,.inl (by simp only [execOp,resolve,invoke,builtin,Sem.run_bind,Sem.run_pure,Result.andThen_ok,List.map_toArray,List.map_cons,List.map_nil,h5]),h6,by simp only [bE.v,ax,ao];exact ⟨#[],rfl,rfl⟩⟩
    ·cases he
   case len =>
    split at he
    ·rename_i l1 l2 x t
     split at he
     ·rename_i htm
      obtain ⟨n,rfl,h1⟩:=Ii (P:=P) (ty:=type) g bu htm (kr x (by simp)) he
      exact gD.val g (V:=.int .i64 (n:Int)) (by simp only [execOp,resolve,invoke,builtin,Sem.run_bind,Sem.run_pure,Result.andThen_ok,List.map_toArray,List.map_cons,List.map_nil,h1]) (by simp only [ax])
     split at he
     ·rename_i aJ
      obtain ⟨n,rfl,h1⟩:=K1 g bu (kr x (by simp)) he
      refine gD.val g (V:=.int .i64 (n:Int)) ?_ (by simp only [ax])
      rcases h1 with ⟨sv,h2,h3,rfl⟩ | ⟨A,c,h3⟩
      ·unfold T9 at aJ
       rw [h2] at aJ
       split at aJ
       ·rename_i hu _
        simp [execOp,resolve,invoke,builtin,Builtin.len_,run_underlying hu,h3,goInt]
       ·cases aJ
       ·rename_i h9;exact (h9 _ rfl).elim
       ·cases aJ
      ·have hu:∃e,P.underlying t=some (.slice e):=by
        have h4:=kr x (by simp)
        rw [h3] at h4
        unfold T9 at aJ
        split at aJ
        ·rename_i sv _ hxx
         rw [hxx] at h4;simp only [ax] at h4;cases h4
        ·cases aJ
        ·rename_i e _ hu _;exact ⟨_,hu⟩
        ·cases aJ
       obtain ⟨e,hu⟩:=hu
       simp [execOp,resolve,invoke,builtin,Builtin.len_,run_underlying hu,h3,goInt]
     ·cases he
    ·cases he
   all_goals
    unfold KT at he
    split at he
    ·rename_i k a k' b Rs
     have hl:=congrArg List.length Rs
     simp only [List.length_map,List.length_cons,List.length_nil] at hl
     obtain ⟨x,y,rfl⟩:=Um hl
     simp only [List.map_cons,List.map_nil,List.cons.injEq,and_true] at Rs
     have h1:=kr x (by simp)
     have h2:=kr y (by simp)
     rw [Rs.1] at h1;rw [Rs.2] at h2
     simp only [ax] at h1 h2
     split at he
     ·rename_i hk
      subst hk
      cases he
      refine gD.val g (V:=bP (.int _ _)) ?_ (jr _ _)
      first
       | (simp [execOp,resolve,invoke,builtin,Builtin.max_,Builtin.max2,h1,h2,bP];simp only [Int.max_def];split<;>split<;>omega)
       | (simp [execOp,resolve,invoke,builtin,Builtin.min_,Builtin.min2,h1,h2,bP];simp only [Int.min_def];split<;>split<;>omega)
     ·cases he
    ·cases he
end
end Go.Vs
namespace Go.Vs
variable {P:Program} {Z Z' Zf:Nat→Prop} {ψ ψ':Nat→Value} {h h':Hp} {w w':World} {B0:Nat} {O:Nat→Prop} {N:Nat→Prop}
abbrev wR:=Nat×Option Nat×Ob
def dm(L:List wR):Heap:=L.map fun e=>(e.1,e.2.2)
def js(ψ:Nat→Value):Option Nat→Value
 | some s=>ψ s
 | none=>.slice none 0 0
def ep(ψ:Nat→Value):List wR→Nat→Value
 | [],_=>undef
 | (i,s,_)::r,n=>if i=n then js ψ s else ep ψ r n
theorem mW{L:List wR}{i:Nat}{o:Ob}(hg:(dm L).get i=some o):∃s,(i,s,o)∈L:=by
 induction L with
 | nil=>simp [dm,Heap.get] at hg
 | cons e r ih =>
  obtain ⟨j,s,o'⟩:=e
  simp only [dm,List.map_cons,Heap.get] at hg
  split at hg
  ·rename_i e;subst e;cases hg;exact ⟨s,List.mem_cons_self⟩
  ·obtain ⟨s',hs⟩:=ih hg;exact ⟨s',List.mem_cons_of_mem _ hs⟩
theorem lS{i:Nat}{r:List Nat}(h:b4 (i::r)=true):i∉r∧b4 r=true:=by
 simp only [b4,Bool.and_eq_true,Bool.not_eq_true'] at h
 exact ⟨fun hm=>by rw [List.contains_iff_mem.2 hm] at h;simp at h,h.2⟩
theorem ij{L:List wR}(hn:b4 (L.map (·.1))=true){i:Nat}{s:Option Nat}{o:Ob}(hm:(i,s,o)∈L):ep ψ L i=js ψ s:=by
 induction L with
 | nil=>cases hm
 | cons e r ih =>
  obtain ⟨j,s',o'⟩:=e
  obtain ⟨h1,h2⟩:=lS hn
  simp only [ep]
  rcases List.mem_cons.1 hm with he | hm
  ·cases he;simp
  ·rw [if_neg,ih h2 hm]
   rintro rfl
   exact h1 (List.mem_map.2 ⟨_,hm,rfl⟩)
theorem Rt{L:List wR}(hs:b4 (L.filterMap (·.2.1))=true){i j s:Nat}{o o':Ob}(h1:(i,some s,o)∈L)(h2:(j,some s,o')∈L):i=j∧o=o':=by
 induction L with
 | nil=>cases h1
 | cons e r ih =>
  obtain ⟨k,s',o''⟩:=e
  have mem:∀{k:Nat} {o:Ob},(k,some s,o)∈r→s∈r.filterMap (·.2.1):=fun h=>List.mem_filterMap.2 ⟨_,h,rfl⟩
  rw [List.filterMap_cons] at hs
  cases s' with
  | none =>
   simp only [] at hs
   exact ih hs ((List.mem_cons.1 h1).resolve_left (by simp)) ((List.mem_cons.1 h2).resolve_left (by simp))
  | some s' =>
   simp only [] at hs
   obtain ⟨h3,h4⟩:=lS hs
   rcases List.mem_cons.1 h1 with e1 | m1<;>rcases List.mem_cons.1 h2 with e2 | m2
   ·cases e1;cases e2;exact ⟨rfl,rfl⟩
   ·cases e1;exact absurd (mem m2) h3
   ·cases e2;exact absurd (mem m1) h3
   ·exact ih h4 m1 m2
def Ft:(ok:OK)→ok.T→Prop
 | .row _ _,xs=>xs=[]
 | _,_=>False
theorem Ft.owns:∀{ok:OK} {xs:ok.T},Ft ok xs→je Z w ok (.slice none 0 0) xs
 | .row ty k,xs,h=>by
  have h:xs=[]:=h
  subst h
  exact ⟨[],⟨by simp,.inl ⟨rfl,none,rfl⟩⟩,fun i x hx=>by simp at hx⟩
 | .map _ _,_,h=>h.elim
 | .iter _ _,_,h=>h.elim
 | .mO,_,h=>h.elim
def tT(Z:Nat→Prop)(ψ:Nat→Value)(h:Hp)(w:World)(h':Hp)(ψ':Nat→Value):wR→Prop
 | (_,some s,.own ok xs)=>h s=some (.own ok xs)
 | (_,none,.own ok xs)=>Ft ok xs
 | (_,some s,.box ty cs')=>(∃cs,h s=some (.box ty cs))∧∀gg vs,ψ s=.pointer (some ⟨gg,0,none⟩)→w.heap[gg]? = some (.cells vs ty (0,0))→ao Z ψ' h' w cs' vs.toList
 | (_,none,.box _ _)=>False
theorem Good.rename(g:Good Z ψ h w B0 O){L:List wR}(hn:b4 (L.map (·.1))=true)(hs:b4 (L.filterMap (·.2.1))=true)(lI:∀e∈L,tT Z ψ h w (dm L).get (ep ψ L) e) :
  Good Z (ep ψ L) (dm L).get w B0 O:=by
 have src:∀id b,(dm L).get id≠none→ob (ep ψ L id)=some b→∃s o,(id,some s,o)∈L∧h s≠none∧ob (ψ s)=some b:=fun id b h1 h2=>by
  obtain ⟨o,ho⟩:=Option.ne_none_iff_exists'.1 h1
  obtain ⟨s,hm⟩:=mW ho
  rw [ij hn hm] at h2
  cases s with
  | none=>simp [js,ob] at h2
  | some s =>
   have h3:=lI _ hm
   refine ⟨s,o,hm,?_,h2⟩
   cases o with
   | box ty cs=>obtain ⟨⟨cs0,h4⟩,_⟩:=h3;rw [h4];simp
   | own ok xs=>rw [show h s=some (.own ok xs) from h3];simp
 refine ⟨fun id ty cs hb => ?_,fun id ok xs hb => ?_,fun id b h1 h2 => ?_,fun id lM b h1 h2 h3 h4 => ?_,g.jm⟩
 ·obtain ⟨s,hm⟩:=mW hb
  have h3:=lI _ hm
  rw [ij hn hm]
  cases s with
  | none=>exact h3.elim
  | some s =>
   obtain ⟨⟨cs0,h4⟩,h5⟩:=h3
   obtain ⟨gg,vs,h6,h7,h8,h9⟩:=g.box s ty cs0 h4
   exact ⟨gg,vs,h6,h7,h5 gg vs h6 h7,h9⟩
 ·obtain ⟨s,hm⟩:=mW hb
  have h3:=lI _ hm
  rw [ij hn hm]
  cases s with
  | none=>exact Ft.owns h3
  | some s=>exact g.row s ok xs h3
 ·obtain ⟨s,o,hm,h3,h4⟩:=src id b h1 h2
  exact g.live s b h3 h4
 ·obtain ⟨s,o,hm,h5,h6⟩:=src id b h1 h3
  obtain ⟨s',o',Ru,h5',h6'⟩:=src lM b h2 h4
  have:=g.apart s s' b h5 h5' h6 h6'
  subst this
  exact (Rt hs hm Ru).1
def xY(hh:Heap)(i:Nat):List AV:=match hh.get i with
 | some (.box _ cs)=>cs
 | _=>[]
def dv:(c9:List CK)→Nat→List AV→py c9→List wR
 | [],_,_,_=>[]
 | .val k::r,n,cs,x=>dv r (n+1) (cs.drop k.sz) x.2
 | .own ok::r,n,cs,x=>(n,(nN (cs.headD .no)).head?,.own ok x.1)::dv r (n+1) cs.tail x.2
def dA:(b:BK)→Heap→Nat→Nat→Nat→b.T→List wR
 | .box ty c,hh,i,i',n,x=>(i',some i,.box ty (aB c n x))::dv c n (xY hh i) x
 | .own ok,_,i,i',_,x=>[(i',some i,.own ok x)]
def cq:(bs:List BK)→Heap→List Nat→List Nat→Nat→u5 bs→List wR
 | b::r,hh,i::is,i'::is',n,x=>dA b hh i i' n x.1++cq r hh is is' (n+16) x.2
 | _,_,_,_,_,_=>[]
theorem lT:∀(c9:List CK) (n:Nat) (cs:List AV) (x:py c9),dm (dv c9 n cs x)=aU c9 n x
 | [],_,_,_=>rfl
 | .val k::r,n,cs,x=>lT r (n+1) _ x.2
 | .own ok::r,n,cs,x=>by simp only [dv,aU,dm,List.map_cons];rw [←lT r (n+1) cs.tail x.2];rfl
theorem kz:∀(c9:List CK) (n:Nat) (cs:List AV) (x:py c9),(dv c9 n cs x).map (·.1)=cc c9 n
 | [],_,_,_=>rfl
 | .val k::r,n,cs,x=>kz r (n+1) _ x.2
 | .own ok::r,n,cs,x=>by simp only [dv,cc,List.map_cons];rw [kz r (n+1) cs.tail x.2]
theorem vo(c:AV):(nN c).head?.toList=nN c:=by cases c<;>rfl
theorem dB{α β:Type}(f:α→Option β)(a:α)(l:List α):(a::l).filterMap f=(f a).toList++l.filterMap f:=by
 rw [List.filterMap_cons];cases f a<;>rfl
theorem nX{k:K}{r:List CK}{hh:Heap}{cs:List AV}{x:py (.val k::r)}(hd:cG (.val k::r) hh cs=some x):dH k ((cs.take k.sz).map (cF hh))=some x.1∧cG r hh (cs.drop k.sz)=some x.2:=by
 have e:cG (.val k::r) hh cs=(match dH k ((cs.take k.sz).map (cF hh)),cG r hh (cs.drop k.sz) with
  | some x,some y=>some ((x,y):k.T×py r)
  | _,_=>none):=by cases cs<;>rfl
 rw [e] at hd
 clear e
 generalize dH k ((cs.take k.sz).map (cF hh))=o1 at hd ⊢
 generalize cG r hh (cs.drop k.sz)=o2 at hd ⊢
 cases o1 with
 | none=>cases hd
 | some x1 =>
  cases o2 with
  | none=>cases hd
  | some y1=>have:=Option.some.inj hd;subst this;exact ⟨rfl,rfl⟩
theorem kZ{ok:OK}{r:List CK}{hh:Heap}{cs:List AV}{x:py (.own ok::r)}(hd:cG (.own ok::r) hh cs=some x):∃c cs',cs=c::cs'∧dD hh ok c=some x.1∧cG r hh cs'=some x.2:=by
 cases cs with
 | nil=>cases hd
 | cons c cs =>
  refine ⟨c,cs,rfl,?_⟩
  have e:cG (.own ok::r) hh (c::cs)=(match dD hh ok c,cG r hh cs with
   | some x,some y=>some ((x,y):ok.T×py r)
   | _,_=>none):=rfl
  rw [e] at hd
  clear e
  generalize dD hh ok c=o1 at hd ⊢
  generalize cG r hh cs=o2 at hd ⊢
  cases o1 with
  | none=>cases hd
  | some x1 =>
   cases o2 with
   | none=>cases hd
   | some y1=>have:=Option.some.inj hd;subst this;exact ⟨rfl,rfl⟩
theorem nY:∀(c9:List CK) (n:Nat) (hh:Heap) (cs:List AV) (x:py c9),cG c9 hh cs=some x→(dv c9 n cs x).filterMap (·.2.1)=fk c9 cs
 | [],_,_,cs,_,_=>by cases cs<;>rfl
 | .val k::r,n,hh,cs,x,hd=>by
  obtain ⟨_,h2⟩:=nX hd
  have e:fk (.val k::r) cs=fk r (cs.drop k.sz):=by cases cs<;>rfl
  rw [e]
  exact nY r (n+1) hh _ x.2 h2
 | .own ok::r,n,hh,cs,x,hd=>by
  obtain ⟨c,cs',rfl,_,h2⟩:=kZ hd
  simp only [dv,fk]
  rw [dB]
  simp only [List.headD_cons,List.tail_cons]
  rw [vo,nY r (n+1) hh cs' x.2 h2]
theorem k0{hh:Heap}{ok:OK}{c:AV}{xs:ok.T}(ho:dD hh ok c=some xs):(c=.fB∧Ft ok xs)∨∃id,c=.bF id∧hh.get id=some (.own ok xs):=by
 unfold dD at ho
 split at ho
 ·cases ok with
  | row _ _=>cases ho;exact .inl ⟨rfl,rfl⟩
  | _=>cases ho
 ·rename_i id
  split at ho
  ·rename_i xw k' WM hg
   split at ho
   ·rename_i e
    subst e
    cases ho
    exact .inr ⟨id,rfl,hg⟩
   ·cases ho
  ·cases ho
 ·cases ho
theorem DR{hh:Heap}{ok:OK}{c:AV}{xs:ok.T}{v:Value}(ho:dD hh ok c=some xs)(hr:ax Z ψ hh.get w c v){n:Nat}(iE:h' n≠none→ψ' n=js ψ (nN c).head?):ax Z' ψ' h' w' (.bF n) v:=by
 rcases k0 ho with ⟨rfl,_⟩ | ⟨id,rfl,hg⟩
 ·simp only [ax] at hr ⊢
  subst hr
  exact ⟨⟨rfl,rfl⟩,fun hn=>(iE hn).symm⟩
 ·simp only [ax] at hr ⊢
  refine ⟨hr.1,fun hn => ?_⟩
  rw [iE hn]
  exact hr.2 (by rw [hg];simp)
theorem qP{hh:Heap}(g:Good Z ψ hh.get w B0 O)(hz:∀b,Z b→Z' b):∀(c9:List CK) (n:Nat) (cs:List AV) (x:py c9) (vs:List Value),cG c9 hh cs=some x →
  (∀id b,AV.bF id∈oT c9 cs→hh.get id≠none→ob (ψ id)=some b→Z' b)→(∀e∈dv c9 n cs x,h' e.1≠none→ψ' e.1=js ψ e.2.1) →
  ao Z ψ hh.get w cs vs→ao Z' ψ' h' w (aB c9 n x) vs
 | [],n,cs,x,vs,hd,_,_,hr=>by
  cases cs with
  | nil=>simpa only [aB,ao] using hr
  | cons c cs=>cases hd
 | .val k::r,n,cs,x,vs,hd,hf,iE,hr=>by
  obtain ⟨h1,h2⟩:=nX hd
  have e:oT (.val k::r) cs=cs.take k.sz++oT r (cs.drop k.sz):=by cases cs<;>rfl
  rw [e] at hf
  have qI:ao Z ψ hh.get w (cs.take k.sz++cs.drop k.sz) vs:=by rw [List.take_append_drop];exact hr
  obtain ⟨us,ws,rfl,h3,h4⟩:=ao.split qI
  simp only [aB]
  have h5:=mU (Z':=Z') g hz (fun id b bO=>hf id b (List.mem_append_left _ bO)) h3
  exact ao.append (gP (dt h1 h5)) (qP g hz r (n+1) (cs.drop k.sz) x.2 ws h2 (fun id b bO=>hf id b (List.mem_append_right _ bO)) iE h4)
 | .own ok::r,n,cs,x,vs,hd,hf,iE,hr=>by
  obtain ⟨c,cs',rfl,h1,h2⟩:=kZ hd
  simp only [ao] at hr
  obtain ⟨v,us,rfl,h3,h4⟩:=hr
  simp only [aB,ao]
  refine ⟨v,us,rfl,DR h1 h3 (fun hn=>iE (n,_,_) (by simp only [dv];exact List.mem_cons_self) hn),?_⟩
  exact qP g hz r (n+1) cs' x.2 us h2 hf (fun e he=>iE e (by simp only [dv];exact List.mem_cons_of_mem _ he)) h4
theorem eQ{b:BK}{r:List BK}{hh:Heap}{i:Nat}{is:List Nat}{x:u5 (b::r)}(hd:cQ (b::r) hh (i::is)=some x):oU b hh i=some x.1∧cQ r hh is=some x.2:=by
 have e:cQ (b::r) hh (i::is)=(match oU b hh i,cQ r hh is with
   | some x,some y=>some ((x,y):b.T×u5 r)
   | _,_=>none):=rfl
 rw [e] at hd
 clear e
 generalize oU b hh i=o1 at hd ⊢
 generalize cQ r hh is=o2 at hd ⊢
 cases o1 with
 | none=>cases hd
 | some x1 =>
  cases o2 with
  | none=>cases hd
  | some y1=>have:=Option.some.inj hd;subst this;exact ⟨rfl,rfl⟩
theorem qQ{ty:TypeId}{c:List CK}{hh:Heap}{i:Nat}{x:py c}(hd:oU (.box ty c) hh i=some x):∃cs,hh.get i=some (.box ty cs)∧cG c hh cs=some x:=by
 simp only [oU] at hd
 cases hb:E5 hh i ty with
 | none=>rw [hb] at hd;cases hd
 | some cs =>
  rw [hb] at hd
  refine ⟨cs,?_,hd⟩
  unfold E5 at hb
  split at hb
  ·rename_i xw cs' hg
   split at hb
   ·rename_i e;cases hb;rw [hg,e]
   ·cases hb
  ·cases hb
theorem jt{hh:Heap}{ok:OK}{i:Nat}{x:ok.T}(h:dD hh ok (.bF i)=some x):hh.get i=some (.own ok x):=by
 rcases k0 h with ⟨h,_⟩ | ⟨id,h,hg⟩
 ·cases h
 ·cases h;exact hg
theorem Cv{ok:OK}{hh:Heap}{i:Nat}{x:ok.T}(hd:oU (.own ok) hh i=some x):hh.get i=some (.own ok x):=jt hd
theorem n3{hh:Heap}{i:Nat}{ty:TypeId}{cs:List AV}(hg:hh.get i=some (.box ty cs)):xY hh i=cs:=by unfold xY;rw [hg]
theorem DS(b:BK){hh:Heap}{i i' n:Nat}(x:b.T):dm (dA b hh i i' n x)=iH b i' n x:=by
 cases b with
 | box ty c=>simp only [dA,iH];rw [←lT c n (xY hh i) x];simp [dm]
 | own ok=>simp [dA,iH,dm]
theorem BT(b:BK){hh:Heap}{i i' n:Nat}(x:b.T):(dA b hh i i' n x).map (·.1)=i'::cc b.c9 n:=by
 cases b with
 | box ty c=>simp only [dA,List.map_cons,BK.c9];rw [kz]
 | own ok=>simp [dA,BK.c9,cc]
theorem Fu(b:BK){hh:Heap}{i i' n:Nat}{x:b.T}(hd:oU b hh i=some x):(dA b hh i i' n x).filterMap (·.2.1)=jH b hh i:=by
 cases b with
 | box ty c =>
  obtain ⟨cs,h1,h2⟩:=qQ hd
  simp only [dA,jH]
  rw [dB,n3 h1,nY c n hh cs x h2,h1]
  rfl
 | own ok=>simp [dA,jH]
theorem iK:∀(bs:List BK) (hh:Heap) (is is':List Nat) (n:Nat) (x:u5 bs),cQ bs hh is=some x→is'.length=bs.length→dm (cq bs hh is is' n x)=bq bs is' n x
 | [],hh,is,is',n,x,_,hl=>by cases is'<;>simp [cq,bq,dm]
 | b::r,hh,[],is',n,x,hd,_=>by cases hd
 | b::r,hh,i::is,[],n,x,_,hl=>by simp at hl
 | b::r,hh,i::is,i'::is',n,x,hd,hl=>by
  obtain ⟨_,h3⟩:=eQ hd
  have ih:=iK r hh is is' (n+16) x.2 h3 (by simpa using hl)
  simp only [cq,bq]
  rw [←ih,←DS b (hh:=hh) (i:=i) x.1]
  simp [dm]
theorem gE:∀(bs:List BK) (hh:Heap) (is is':List Nat) (n:Nat) (x:u5 bs),cQ bs hh is=some x→is'.length=bs.length→(cq bs hh is is' n x).map (·.1)=bX bs is' n
 | [],hh,is,is',n,x,_,hl=>by cases is'<;>simp [cq,bX]
 | b::r,hh,[],is',n,x,hd,_=>by cases hd
 | b::r,hh,i::is,[],n,x,_,hl=>by simp at hl
 | b::r,hh,i::is,i'::is',n,x,hd,hl=>by
  obtain ⟨_,h3⟩:=eQ hd
  have ih:=gE r hh is is' (n+16) x.2 h3 (by simpa using hl)
  simp only [cq,bX,List.map_append]
  rw [ih,BT,List.cons_append]
theorem jQ:∀(bs:List BK) (hh:Heap) (is is':List Nat) (n:Nat) (x:u5 bs),cQ bs hh is=some x→is'.length=bs.length→(cq bs hh is is' n x).filterMap (·.2.1)=cS bs hh is
 | [],hh,is,is',n,x,_,hl=>by cases is'<;>cases is<;>simp [cq,cS]
 | b::r,hh,[],is',n,x,hd,_=>by cases hd
 | b::r,hh,i::is,[],n,x,_,hl=>by simp at hl
 | b::r,hh,i::is,i'::is',n,x,hd,hl=>by
  obtain ⟨h1,h3⟩:=eQ hd
  have ih:=jQ r hh is is' (n+16) x.2 h3 (by simpa using hl)
  simp only [cq,cS]
  rw [List.filterMap_append,ih,Fu b h1]
theorem qR{hd:Hp}{hh:Heap}:∀(c9:List CK) (n:Nat) (cs:List AV) (x:py c9),cG c9 hh cs=some x→(∀s∈fk c9 cs,hd s=hh.get s)→∀e∈dv c9 n cs x,tT Z ψ hd w h' ψ' e
 | [],n,cs,x,_,_,e,he=>by simp [dv] at he
 | .val k::r,n,cs,x,QW,hk,e,he=>by
  obtain ⟨_,h2⟩:=nX QW
  have e0:fk (.val k::r) cs=fk r (cs.drop k.sz):=by cases cs<;>rfl
  rw [e0] at hk
  exact qR r (n+1) _ x.2 h2 hk e he
 | .own ok::r,n,cs,x,QW,hk,e,he=>by
  obtain ⟨c,cs',rfl,h1,h2⟩:=kZ QW
  simp only [dv,List.headD_cons,List.tail_cons] at he
  simp only [fk] at hk
  rcases List.mem_cons.1 he with rfl | he
  ·rcases k0 h1 with ⟨rfl,h3⟩ | ⟨id,rfl,h3⟩
   ·exact h3
   ·show hd id=some (.own ok x.1)
    rw [hk id (List.mem_append_left _ (by simp [nN])),h3]
  ·exact qR r (n+1) cs' x.2 h2 (fun s hs=>hk s (List.mem_append_right _ hs)) e he
theorem Im{hd:Hp}{hh:Heap}(g:Good Z ψ hh.get w B0 O)(hz:∀b,Z b→Z' b)(b:BK){i i' n:Nat}{x:b.T}(QW:oU b hh i=some x)
  (hf:∀id g,AV.bF id∈yO b hh i→hh.get id≠none→ob (ψ id)=some g→Z' g) (hk:∀s∈jH b hh i,hd s=hh.get s) (iE:∀e∈dA b hh i i' n x,h' e.1≠none→ψ' e.1=js ψ e.2.1) :
  ∀e∈dA b hh i i' n x,tT Z' ψ hd w h' ψ' e:=by
 intro e he
 cases b with
 | box ty c =>
  obtain ⟨cs,h1,h2⟩:=qQ QW
  simp only [yO,jH,h1] at hf hk
  have Uo:∀e∈dv c n cs x,h' e.1≠none→ψ' e.1=js ψ e.2.1:=fun e he=>iE e (by simp only [dA];rw [n3 h1];exact List.mem_cons_of_mem _ he)
  simp only [dA] at he
  rcases List.mem_cons.1 he with rfl | he
  ·refine ⟨⟨cs,by rw [hk i List.mem_cons_self,h1]⟩,fun gg vs h4 h5 => ?_⟩
   obtain ⟨gg',gF,h6,h7,h8,_⟩:=g.box i ty cs h1
   rw [h6] at h4
   cases h4
   rw [h5] at h7
   cases h7
   exact qP g hz c n cs x _ h2 hf Uo h8
  ·rw [n3 h1] at he
   exact qR c n cs x h2 (fun s hs=>hk s (List.mem_cons_of_mem _ hs)) e he
 | own ok =>
  have h1:=Cv QW
  simp only [dA,List.mem_singleton] at he
  subst he
  show hd i=some (.own ok x)
  rw [hk i (by simp [jH]),h1]
theorem k9{hd:Hp}{hh:Heap}(g:Good Z ψ hh.get w B0 O)(hz:∀b,Z b→Z' b):∀(bs:List BK) (is is':List Nat) (n:Nat) (x:u5 bs),cQ bs hh is=some x →
  (∀id b,AV.bF id∈fC bs hh is→hh.get id≠none→ob (ψ id)=some b→Z' b)→(∀s∈cS bs hh is,hd s=hh.get s)→(∀e∈cq bs hh is is' n x,h' e.1≠none→ψ' e.1=js ψ e.2.1) →
  ∀e∈cq bs hh is is' n x,tT Z' ψ hd w h' ψ' e
 | [],is,is',n,x,_,_,_,_,e,he=>by simp [cq] at he
 | b::r,[],is',n,x,QW,_,_,_,e,he=>by cases QW
 | b::r,i::is,[],n,x,_,_,_,_,e,he=>by simp [cq] at he
 | b::r,i::is,i'::is',n,x,QW,hf,hk,iE,e,he=>by
  obtain ⟨h1,h3⟩:=eQ QW
  simp only [fC,cS] at hf hk
  simp only [cq] at he iE
  rcases List.mem_append.1 he with he | he
  ·exact Im g hz b h1 (fun id g bO=>hf id g (List.mem_append_left _ bO)) (fun s hs=>hk s (List.mem_append_left _ hs)) (fun e he=>iE e (List.mem_append_left _ he)) e he
  ·exact k9 g hz r is is' (n+16) x.2 h3 (fun id b bO=>hf id b (List.mem_append_right _ bO)) (fun s hs=>hk s (List.mem_append_right _ hs)) (fun e he=>iE e (List.mem_append_right _ he)) e he
theorem qS{kept:List Nat}{ke:List AV}(hk:vc kept ke=true):b4 kept=true∧∀(hh:Heap) s,s∈kept→(cC hh ke).get s=hh.get s:=by
 unfold vc at hk
 rw [Bool.and_eq_true] at hk
 exact ⟨hk.1,fun hh s hs=>nQ _ _ _ (qL (List.all_eq_true.1 hk.2 s hs))⟩
theorem vp{hh:Heap}{ke:List AV}{kept:List Nat}(g:Good Z ψ hh.get w B0 O)(hk:vc kept ke=true){L:List wR}(hn:b4 (L.map (·.1))=true)(hs:L.filterMap (·.2.1)=kept)
  (lI:∀e∈L,tT (po Z ψ hh.get ke) ψ (cC hh ke).get w (dm L).get (ep ψ L) e):Good (po Z ψ hh.get ke) (ep ψ L) (dm L).get w B0 O :=
 (gY g ke).rename hn (by rw [hs];exact (qS hk).1) lI
theorem xZ{L:List wR}(hn:b4 (L.map (·.1))=true):∀e∈L,(dm L).get e.1≠none→ep ψ L e.1=js ψ e.2.1:=fun ⟨i,s,o⟩ he _=>ij hn he
theorem lU(A B:List wR):dm (A++B)=dm A++dm B:=by simp [dm]
theorem ya{hh:Heap}{i s i':Nat}{v:Value}(hr:ax Z ψ hh.get w (.ref i s 0 0) v)(hi:hh.get i≠none)(iE:h' i'≠none→ψ' i'=ψ i):ax Z' ψ' h' w' (.ref i' 0 0 0) v:=by
 simp only [ax] at hr ⊢
 obtain ⟨a,rfl,ha⟩:=hr
 refine ⟨a,rfl,fun hn => ?_⟩
 rw [iE hn,ha hi]
 simp
theorem n6{v:AV}{i:Nat}(h:Cl v=some i):∃s,v=.ref i s 0 0:=by
 unfold Cl at h
 split at h
 ·cases h;exact ⟨_,rfl⟩
 ·cases h
theorem iL{hh:Heap}:∀(bs:List BK) (is:List Nat) (x:u5 bs),cQ bs hh is=some x→is.length=bs.length∧∀i∈is,hh.get i≠none
 | [],[],_,_=>⟨rfl,fun i hi=>by cases hi⟩
 | [],_::_,_,h=>by cases h
 | _::_,[],_,h=>by cases h
 | b::r,i::is,x,h=>by
  obtain ⟨h1,h3⟩:=eQ h
  obtain ⟨h4,h5⟩:=iL r is x.2 h3
  refine ⟨by simp [h4],fun j hj => ?_⟩
  rcases List.mem_cons.1 hj with rfl | hj
  ·cases b with
   | box ty c=>obtain ⟨cs,h1,_⟩:=qQ h1;rw [h1];simp
   | own ok=>rw [Cv h1];simp
  ·exact h5 j hj
theorem jR{hh:Heap}:∀(bs:List BK) (is is':List Nat) (n:Nat) (x:u5 bs),is.length=bs.length→∀p∈is.zip is',∃o,(p.2,some p.1,o)∈cq bs hh is is' n x
 | [],is,is',n,x,hl,p,hp=>by
  cases is with
  | nil=>simp at hp
  | cons a r=>simp at hl
 | b::r,[],is',n,x,hl,p,hp=>by simp at hp
 | b::r,i::is,[],n,x,hl,p,hp=>by simp at hp
 | b::r,i::is,i'::is',n,x,hl,p,hp=>by
  simp only [List.zip_cons_cons] at hp
  simp only [cq]
  rcases List.mem_cons.1 hp with rfl | hp
  ·cases b with
   | box ty c=>exact ⟨_,List.mem_append_left _ (by simp only [dA];exact List.mem_cons_self)⟩
   | own ok=>exact ⟨_,List.mem_append_left _ (by simp only [dA];exact List.mem_cons_self)⟩
  ·obtain ⟨o,ho⟩:=jR r is is' (n+16) x.2 (by simpa using hl) p hp
   exact ⟨o,List.mem_append_right _ ho⟩
theorem JQ{hd:Hp}{hh:Heap}{ok:OK}{c:AV}{xs:ok.T}(ho:dD hh ok c=some xs)(hk:∀s∈nN c,hd s=hh.get s){n:Nat}:tT Z ψ hd w h' ψ' (n,(nN c).head?,.own ok xs):=by
 rcases k0 ho with ⟨rfl,h3⟩ | ⟨id,rfl,h3⟩
 ·exact h3
 ·show hd id=some (.own ok xs)
  rw [hk id (by simp [nN]),h3]
end Go.Vs
namespace Go.Vs
variable {P:Program} {Z Z':Nat→Prop} {ψ ψ':Nat→Value} {h h':Hp} {w w':World} {B0:Nat} {O:Nat→Prop} {N:Nat→Prop}
def fH:Hp:=fun _=>none
def HP:Nat→Value:=fun _=>undef
def Cw(g:aL)(x:E4 (kg g.ps)):List AV:=(aQ g.ps [] 0 x).map (·.2)
def WY(P:Program)(f:FuncId)(g:aL)(x:g.A)(y:g.B):Prop :=
 ∀(Z:Nat→Prop) (w:World) (jS:List Value),(∀b,Z b→b<w.heap.size)→ao Z HP fH w (Cw g x.1) jS →
  Calls P (f % 1000) jS.toArray w fun e w'=>∃v Z' ψ',e=.returned v∧(∀b,Z b→Z' b)∧(∀b,Z' b→Z b∨w.heap.size≤b)∧cT HP fH w w' ∧
   Good Z' ψ' (ak g.rs 3000 y.1).get w' w.heap.size (fun _=>False)∧ax Z' ψ' (ak g.rs 3000 y.1).get w' (eI (aR g.rs [] 2000 3000 y.1)) v
theorem wS{p:PK}{ps:List PK}{vs:List AV}(hi:cx (p::ps) vs=some []):∃a r,vs=a::r∧cx ps r=some []∧(p≠.ref∧p≠.own)∧(∀f n,p=.E3 f n→a=.fn f [])∧(∀n,p=.agg n→a=.agg []):=by
 cases vs with
 | nil=>cases p<;>simp [cx] at hi
 | cons a r =>
  cases p with
  | val k=>exact ⟨a,r,rfl,by simpa only [cx] using hi,by simp,by simp,by simp⟩
  | ref =>
   simp only [cx] at hi
   split at hi<;>simp at hi
  | own =>
   cases a<;>simp only [cx] at hi<;>first | (cases hi;done) | skip
   split at hi<;>simp at hi
  | E3 f n =>
   cases a<;>simp only [cx] at hi<;>first | (cases hi;done) | skip
   rename_i f' cap
   split at hi
   ·rename_i hc
    obtain ⟨rfl,sG⟩:=hc
    split at hi
    ·rename_i a1 b1 h1 h2
     simp only [Option.some.injEq,List.append_eq_nil_iff] at hi
     obtain ⟨rfl,rfl⟩:=hi
     have Ud:cap=[]:=by
      cases cap with
      | nil=>rfl
      | cons c cs=>simp only [ji] at h1;split at h1<;>simp at h1
     subst Ud
     exact ⟨_,r,rfl,h2,by simp,by rintro f n ⟨⟩;rfl,by simp⟩
    ·cases hi
   ·cases hi
  | agg n =>
   cases a<;>simp only [cx] at hi<;>first | (cases hi;done) | skip
   rename_i cs
   split at hi
   ·split at hi
    ·rename_i a1 b1 h1 h2
     simp only [Option.some.injEq,List.append_eq_nil_iff] at hi
     obtain ⟨rfl,rfl⟩:=hi
     have KZ:cs=[]:=by
      cases cs with
      | nil=>rfl
      | cons c cs=>cases c<;>simp only [nO] at h1<;>first | (cases h1;done) | (split at h1<;>simp at h1)
     subst KZ
     exact ⟨_,r,rfl,h2,by simp,by simp,fun _ _=>rfl⟩
    ·cases hi
   ·cases hi
theorem wT{k:K}{ps:List PK}{hh:Heap}{a:AV}{r:List AV}{x:k.T×E4 (kg ps)}(hv:dX (.val k::ps) hh (a::r)=some x):fw k hh a=some x.1∧dX ps hh r=some x.2:=by
 have e:dX (.val k::ps) hh (a::r)=(match fw k hh a,dX ps hh r with
  | some x,some y=>some ((x,y):k.T×E4 (kg ps))
  | _,_=>none):=rfl
 rw [e] at hv
 clear e
 generalize fw k hh a=o1 at hv ⊢
 generalize dX ps hh r=o2 at hv ⊢
 cases o1 with
 | none=>cases hv
 | some x1 =>
  cases o2 with
  | none=>cases hv
  | some y1 =>
   have:=Option.some.inj hv
   subst this
   exact ⟨rfl,rfl⟩
theorem zw{hh:Heap}(g:Good Z ψ hh.get w B0 O)(hz:∀b,Z b→Z' b)(ps:List PK):∀(s:Nat) (vs:List AV) (us:List Value) (x:E4 (kg ps)),(∀v∈vs,∀id b,AV.bF id∈v.cells→hh.get id≠none→ob (ψ id)=some b→Z' b) →
  cx ps vs=some []→dX ps hh vs=some x→ao Z ψ hh.get w vs us→ao Z' HP fH w ((aQ ps [] s x).map (·.2)) us:=by
 induction ps with
 | nil =>
  intro s vs us x _ hi hv hr
  cases vs with
  | nil=>simpa only [aQ,List.map_nil,ao] using hr
  | cons a r=>simp [cx] at hi
 | cons p ps ih =>
  intro s vs us x hb hi hv hr
  obtain ⟨a,r,rfl,sF,Rv,Up,Uq⟩:=wS hi
  simp only [ao] at hr
  obtain ⟨u,iB,rfl,h3,h4⟩:=hr
  cases p with
  | val k =>
   obtain ⟨h1,h2⟩:=wT hv
   simp only [aQ,List.map_cons,ao]
   exact ⟨u,iB,rfl,qM (Z':=Z') (ψ':=HP) (h':=fH) g hz (hb a List.mem_cons_self) h1 h3,ih (s+1) r iB x.2 (fun v hv=>hb v (List.mem_cons_of_mem _ hv)) sF h2 h4⟩
  | ref=>exact absurd rfl Rv.1
  | own=>exact absurd rfl Rv.2
  | E3 f n =>
   have ha:=Up f n rfl
   subst ha
   have h2:dX ps hh r=some x:=hv
   simp only [aQ,List.map_cons,ao,List.take_nil,List.map_nil,List.drop_nil]
   simp only [ax,ao] at h3 ⊢
   exact ⟨u,iB,rfl,h3,ih (s+1) r iB x (fun v hv=>hb v (List.mem_cons_of_mem _ hv)) sF h2 h4⟩
  | agg n =>
   have ha:=Uq n rfl
   subst ha
   have h2:dX ps hh r=some x:=hv
   simp only [aQ,List.map_cons,ao,List.take_nil,List.map_nil,List.drop_nil]
   simp only [ax,ao] at h3 ⊢
   exact ⟨u,iB,rfl,h3,ih (s+1) r iB x (fun v hv=>hb v (List.mem_cons_of_mem _ hv)) sF h2 h4⟩
theorem Good.WZ(g:Good Z ψ h w B0 O)(k:cT HP fH w w')(hz:∀b,Z b→Z' b)(MC:∀b,Z' b→Z b∨w.heap.size≤b)(abM:∀b,Z' b→b<w'.heap.size)
  (hold:∀id,¬N id→h' id=h id∧ψ' id=ψ id)
  (bh:∀id ty cs,h id=some (.box ty cs)→aC (fun i=>¬N i) cs)
  (MW:∀id ty cs,N id→h' id=some (.box ty cs)→False)
  (mV:∀id ok xs,N id→h' id=some (.own ok xs)→je Z' w' ok (ψ' id) xs)
  (yX:∀id b,N id→h' id≠none→ob (ψ' id)=some b→w.heap.size≤b∧¬Z' b)
  (H5:∀id lM b,N id→N lM→h' id≠none→h' lM≠none→ob (ψ' id)=some b→ob (ψ' lM)=some b→id=lM) (hB:B0≤w.heap.size) :
  Next Z ψ h w B0 O N Z' ψ' h' w':=by
 have cH:∀b,b<w.heap.size→w'.heap[b]? = w.heap[b]? := fun b hb=>k.block b hb (fun ⟨id,h1,_⟩=>h1 rfl)
 have sm:ck Z w w':=fun b hb=>cH b (g.jm b hb)
 have mu:∀id,h' id≠none→(h id≠none∧ψ' id=ψ id)∨N id:=fun id bO=>by
  by_cases hn:N id
  ·exact .inr hn
  ·obtain ⟨e1,e2⟩:=hold id hn
   exact .inl ⟨by rwa [e1] at bO,e2⟩
 have wJ:∀id b,¬N id→h' id≠none→ob (ψ' id)=some b→Own ψ h b:=fun id b hn h1 h2=>by
  obtain ⟨e1,e2⟩:=hold id hn
  exact ⟨id,by rwa [e1] at h1,by rwa [e2] at h2⟩
 have kk:cT ψ h w w':=⟨k.os,k.tape,k.output,k.size,fun b hb _=>cH b hb⟩
 refine ⟨hz,fun b hb=>(MC b hb).imp (fun h=>h) .inr,kk,mu,⟨fun id ty cs hb => ?_,fun id ok xs hb => ?_,fun id b h1 h2 => ?_,fun id lM b h1 h2 h3 h4 => ?_,abM⟩⟩
 ·by_cases hn:N id
  ·exact (MW id ty cs hn hb).elim
  ·obtain ⟨e1,e2⟩:=hold id hn
   rw [e1] at hb
   obtain ⟨gg,vs,h1,h2,h3,h4⟩:=g.box id ty cs hb
   exact ⟨gg,vs,by rw [e2,h1],(cH gg (Array.getElem?_eq_some_iff.1 h2).1).trans h2,h3.move hz sm (fun i hp bO=>(mu i bO).resolve_right hp) (bh id ty cs hb),h4⟩
 ·by_cases hn:N id
  ·exact mV id ok xs hn hb
  ·obtain ⟨e1,e2⟩:=hold id hn
   rw [e1] at hb
   rw [e2]
   exact (g.row id ok xs hb).kept hz sm (fun gg KV=>cH gg (g.bL ⟨id,by rw [hb];simp,KV⟩))
 ·by_cases hn:N id
  ·obtain ⟨h3,h4⟩:=yX id b hn h1 h2
   exact ⟨h4,.inl (by omega)⟩
  ·obtain ⟨e1,e2⟩:=hold id hn
   rw [e1] at h1;rw [e2] at h2
   have h3:=g.live id b h1 h2
   refine ⟨fun WK => ?_,h3.2⟩
   rcases MC b WK with h4 | h4
   ·exact h3.1 h4
   ·have:=g.bL ⟨id,h1,h2⟩;omega
 ·by_cases hn:N id<;>by_cases H6:N lM
  ·exact H5 id lM b hn H6 h1 h2 h3 h4
  ·have:=(yX id b hn h1 h3).1
   have:=g.bL (wJ lM b H6 h2 h4);omega
  ·have:=(yX lM b H6 h2 h4).1
   have:=g.bL (wJ id b hn h1 h3);omega
  ·obtain ⟨e1,e2⟩:=hold id hn
   obtain ⟨e3,e4⟩:=hold lM H6
   rw [e1] at h1;rw [e2] at h3;rw [e3] at h2;rw [e4] at h4
   exact g.apart id lM b h1 h2 h3 h4
theorem bC{r:RK}{rs:List RK}(h:(r::rs).all RK.plain=true):rs.all RK.plain=true:=by simp only [List.all_cons,Bool.and_eq_true] at h;exact h.2
theorem La{c:List CK}{rs:List RK}(h:(RK.agg c::rs).all RK.plain=true):c.length≤16:=by
 simp only [List.all_cons,Bool.and_eq_true,RK.plain,decide_eq_true_eq] at h;exact h.1
theorem la:∀(c:List CK) (a:Nat) (x:py c) (i:Nat),i<a→(aU c a x).get i=none
 | [],_,_,_,_=>rfl
 | .val _::r,a,x,i,h=>by simp only [aU];exact la r (a+1) x.2 i (by omega)
 | .own ok::r,a,x,i,h=>by simp only [aU,Heap.get];rw [if_neg (by omega)];exact la r (a+1) x.2 i (by omega)
theorem sP:∀(c:List CK) (a:Nat) (x:py c) (i:Nat),a+c.length≤i→(aU c a x).get i=none
 | [],_,_,_,_=>rfl
 | .val _::r,a,x,i,h=>by simp only [List.length_cons] at h;simp only [aU];exact sP r (a+1) x.2 i (by omega)
 | .own ok::r,a,x,i,h=>by simp only [List.length_cons] at h;simp only [aU,Heap.get];rw [if_neg (by omega)];exact sP r (a+1) x.2 i (by omega)
theorem sQ:∀(c:List CK) (a b:Nat) (x:py c) (j:Nat),(aU c a x).get (a+j)=(aU c b x).get (b+j)
 | [],_,_,_,_=>rfl
 | .val _::r,a,b,x,0=>by simp only [aU];rw [la _ _ _ _ (by omega),la _ _ _ _ (by omega)]
 | .own ok::r,a,b,x,0=>by simp [aU,Heap.get]
 | .val _::r,a,b,x,j+1=>by
  simp only [aU]
  rw [show a+(j+1)=a+1+j by omega,show b+(j+1)=b+1+j by omega]
  exact sQ r (a+1) (b+1) x.2 j
 | .own ok::r,a,b,x,j+1=>by
  simp only [aU,Heap.get]
  rw [if_neg (by omega),if_neg (by omega),show a+(j+1)=a+1+j by omega,show b+(j+1)=b+1+j by omega]
  exact sQ r (a+1) (b+1) x.2 j
theorem mB:∀(c:List CK) (a:Nat) (x:py c) (i:Nat) (ty:TypeId) (cs:List AV),(aU c a x).get i≠some (.box ty cs)
 | [],_,_,_,_,_=>by simp [aU,Heap.get]
 | .val _::r,a,x,i,ty,cs=>by simp only [aU];exact mB r (a+1) x.2 i ty cs
 | .own ok::r,a,x,i,ty,cs=>by
  simp only [aU,Heap.get]
  split
  ·simp
  ·exact mB r (a+1) x.2 i ty cs
theorem pW:∀(rs:List RK) (a:Nat) (y:kT rs) (i:Nat),rs.all RK.plain=true→i<a→(ak rs a y).get i=none
 | [],a,y,i,_,h=>rfl
 | .val k::r,a,y,i,hp,h=>by simp only [ak];exact pW r (a+1) y.2 i (bC hp) (by omega)
 | .own ok::r,a,y,i,hp,h=>by simp only [ak,Heap.get];rw [if_neg (by omega)];exact pW r (a+1) y.2 i (bC hp) (by omega)
 | .ed _ _::r,a,y,i,hp,h=>by simp only [ak];exact pW r (a+1) y.2 i (bC hp) (by omega)
 | .agg c::r,a,y,i,hp,h=>by
  have h1:(aU c a y.1).get i=none:=la c a y.1 i h
  have h2:=pW r (a+1) y.2 i (bC hp) (by omega)
  show Heap.get (aU c a y.1++ak r (a+1) y.2) i=none
  rw [Heap.get_append,h1,h2]
theorem Fv:∀(rs:List RK) (a:Nat) (y:kT rs) (i:Nat),rs.all RK.plain=true→a+rs.length+16≤i→(ak rs a y).get i=none
 | [],a,y,i,_,h=>rfl
 | .val k::r,a,y,i,hp,h=>by simp only [List.length_cons] at h;simp only [ak];exact Fv r (a+1) y.2 i (bC hp) (by omega)
 | .own ok::r,a,y,i,hp,h=>by simp only [List.length_cons] at h;simp only [ak,Heap.get];rw [if_neg (by omega)];exact Fv r (a+1) y.2 i (bC hp) (by omega)
 | .ed _ _::r,a,y,i,hp,h=>by simp only [List.length_cons] at h;simp only [ak];exact Fv r (a+1) y.2 i (bC hp) (by omega)
 | .agg c::r,a,y,i,hp,h=>by
  simp only [List.length_cons] at h
  have hc:=La hp
  have h1:(aU c a y.1).get i=none:=sP c a y.1 i (by omega)
  have h2:=Fv r (a+1) y.2 i (bC hp) (by omega)
  show Heap.get (aU c a y.1++ak r (a+1) y.2) i=none
  rw [Heap.get_append,h1,h2]
theorem Fw:∀(rs:List RK) (a b:Nat) (y:kT rs) (j:Nat),rs.all RK.plain=true→(ak rs a y).get (a+j)=(ak rs b y).get (b+j)
 | [],_,_,_,_,_=>rfl
 | .val k::r,a,b,y,0,hp=>by simp only [ak];rw [pW _ _ _ _ (bC hp) (by omega),pW _ _ _ _ (bC hp) (by omega)]
 | .ed _ _::r,a,b,y,0,hp=>by simp only [ak];rw [pW _ _ _ _ (bC hp) (by omega),pW _ _ _ _ (bC hp) (by omega)]
 | .own ok::r,a,b,y,0,hp=>by simp [ak,Heap.get]
 | .val k::r,a,b,y,j+1,hp=>by
  simp only [ak]
  rw [show a+(j+1)=a+1+j by omega,show b+(j+1)=b+1+j by omega]
  exact Fw r (a+1) (b+1) y.2 j (bC hp)
 | .ed _ _::r,a,b,y,j+1,hp=>by
  simp only [ak]
  rw [show a+(j+1)=a+1+j by omega,show b+(j+1)=b+1+j by omega]
  exact Fw r (a+1) (b+1) y.2 j (bC hp)
 | .own ok::r,a,b,y,j+1,hp=>by
  simp only [ak,Heap.get]
  rw [if_neg (by omega),if_neg (by omega),show a+(j+1)=a+1+j by omega,show b+(j+1)=b+1+j by omega]
  exact Fw r (a+1) (b+1) y.2 j (bC hp)
 | .agg c::r,a,b,y,j,hp=>by
  have h1:(aU c a y.1).get (a+j)=(aU c b y.1).get (b+j):=sQ c a b y.1 j
  have h2:(ak r (a+1) y.2).get (a+j)=(ak r (b+1) y.2).get (b+j):=by
   cases j with
   | zero=>rw [pW _ _ _ _ (bC hp) (by omega),pW _ _ _ _ (bC hp) (by omega)]
   | succ j =>
    rw [show a+(j+1)=a+1+j by omega,show b+(j+1)=b+1+j by omega]
    exact Fw r (a+1) (b+1) y.2 j (bC hp)
  show Heap.get (aU c a y.1++ak r (a+1) y.2) (a+j)=Heap.get (aU c b y.1++ak r (b+1) y.2) (b+j)
  rw [Heap.get_append,Heap.get_append,h1,h2]
theorem tU:∀(rs:List RK) (a:Nat) (y:kT rs) (i:Nat) (ty:TypeId) (cs:List AV),rs.all RK.plain=true→(ak rs a y).get i≠some (.box ty cs)
 | [],_,_,_,_,_,_=>by simp [ak,Heap.get]
 | .val k::r,a,y,i,ty,cs,hp=>by simp only [ak];exact tU r (a+1) y.2 i ty cs (bC hp)
 | .ed _ _::r,a,y,i,ty,cs,hp=>by simp only [ak];exact tU r (a+1) y.2 i ty cs (bC hp)
 | .own ok::r,a,y,i,ty,cs,hp=>by
  simp only [ak,Heap.get]
  split
  ·simp
  ·exact tU r (a+1) y.2 i ty cs (bC hp)
 | .agg c::r,a,y,i,ty,cs,hp=>by
  have h1:(aU c a y.1).get i≠some (.box ty cs):=mB c a y.1 i ty cs
  show Heap.get (aU c a y.1++ak r (a+1) y.2) i≠some (.box ty cs)
  rw [Heap.get_append]
  split
  ·rename_i o ho;rw [ho] at h1;exact h1
  ·exact tU r (a+1) y.2 i ty cs (bC hp)
theorem lf(p:Nat→Prop):∀(k:K) (x:k.T),aC p (enc k x)
 | .int _,_=>by simp only [enc,aC,aK];exact ⟨trivial,trivial⟩
 | .bool,_=>by simp only [enc,aC,aK];exact ⟨trivial,trivial⟩
 | .str,_=>by simp only [enc,aC,aK];exact ⟨trivial,trivial⟩
 | .sl _,_=>by simp only [enc,aC,aK];exact ⟨trivial,trivial⟩
 | .mp _ _,_=>by simp only [enc,aC,aK];exact ⟨trivial,trivial⟩
 | .pair a b,x=>by
  simp only [enc]
  have h1:=lf p a x.1
  have h2:=lf p b x.2
  revert h1
  generalize enc a x.1=l
  induction l with
  | nil=>intro _;exact h2
  | cons c r ih=>intro h;simp only [List.cons_append,aC] at h ⊢;exact ⟨h.1,ih h.2⟩
 | .one k,x=>by simp only [enc];exact lf p k x
theorem mX(p:Nat→Prop):∀(k:K) (x:k.T),aK p (b8 k x)
 | .int _,_=>by simp only [b8,aK]
 | .bool,_=>by simp only [b8,aK]
 | .str,_=>by simp only [b8,aK]
 | .sl _,_=>by simp only [b8,aK]
 | .mp _ _,_=>by simp only [b8,aK]
 | .pair a b,x=>by simp only [b8,aK];exact lf p (.pair a b) x
 | .one k,x=>by simp only [b8,aK];exact lf p (.one k) x
theorem Ni{k:K}{x:k.T}{v:Value}(hr:ax Z ψ h w (b8 k x) v):ax Z ψ' h' w (b8 k x) v :=
 hr.move (p:=fun _=>False) (fun _ h=>h) (ck.refl _ _) (fun _ hp _=>hp.elim) (mX _ k x)
theorem Rx(r:RK)(rs:List RK)(b:Nat)(y:kT (r::rs))(i:Nat)(hi:(ak rs (b+1) y.2).get i≠none):(ak (r::rs) b y).get i≠none:=by
 cases r with
 | val k=>exact hi
 | ed _ _=>exact hi
 | own ok=>simp only [ak,Heap.get];split<;>simp_all
 | agg c =>
  show Heap.get (aU c b y.1++ak rs (b+1) y.2) i≠none
  rw [Heap.get_append]
  split
  ·simp
  ·exact hi
theorem Io(c:List CK):∀{H:Hp} {a b:Nat} {x:py c} {vs:List Value},(∀j,(aU c b x).get (b+j)≠none→h' (b+j)≠none→H (a+j)≠none∧ψ' (b+j)=ψ (a+j)) →
  ao Z ψ H w (aB c a x) vs→ao Z ψ' h' w (aB c b x) vs:=by
 induction c with
 | nil=>intro H a b x vs _ hr;simpa only [aB,ao] using hr
 | cons k c ih =>
  intro H a b x vs hH hr
  cases k with
  | val k =>
   have qI:ao Z ψ H w (enc k x.1++aB c (a+1) x.2) vs:=hr
   obtain ⟨us,ws,rfl,h1,h2⟩:=qI.split
   show ao Z ψ' h' w (enc k x.1++aB c (b+1) x.2) (us++ws)
   refine (h1.move (p:=fun _=>False) (fun _ h=>h) (ck.refl _ _) (fun _ hp _=>hp.elim) (lf _ k x.1)).append (ih (fun j hj bj => ?_) h2)
   have:=hH (j+1)
   rw [show b+(j+1)=b+1+j by omega,show a+(j+1)=a+1+j by omega] at this
   exact this hj bj
  | own ok =>
   have qI:ao Z ψ H w (.bF a::aB c (a+1) x.2) vs:=hr
   simp only [ao] at qI
   obtain ⟨v,us,rfl,h1,h2⟩:=qI
   show ao Z ψ' h' w (.bF b::aB c (b+1) x.2) (v::us)
   simp only [ao]
   refine ⟨v,us,rfl,?_,ih (fun j hj bj => ?_) h2⟩
   ·simp only [ax] at h1 ⊢
    refine ⟨h1.1,fun bj => ?_⟩
    obtain ⟨h3,h4⟩:=hH 0 (by simp [aU,Heap.get]) bj
    rw [Nat.add_zero,Nat.add_zero] at h4
    rw [h4];exact h1.2 h3
   ·have:=hH (j+1)
    rw [show b+(j+1)=b+1+j by omega,show a+(j+1)=a+1+j by omega] at this
    refine this ?_ bj
    have e:(aU (.own ok::c) b x).get (b+1+j)=(aU c (b+1) x.2).get (b+1+j):=by simp only [aU,Heap.get];rw [if_neg (by omega)]
    rw [e];exact hj
theorem Nj(rs:List RK):∀{H:Hp} {n m a b:Nat} {y:kT rs} {vs:List Value},rs.all RK.plain=true→(∀j,(ak rs b y).get (b+j)≠none→h' (b+j)≠none→H (a+j)≠none∧ψ' (b+j)=ψ (a+j)) →
  ao Z ψ H w (aR rs [] n a y) vs→ao Z ψ' h' w (aR rs [] m b y) vs:=by
 induction rs with
 | nil=>intro H n m a b y vs _ _ hr;simpa only [aR,ao] using hr
 | cons r rs ih =>
  intro H n m a b y vs hp hH hr
  have hpa:=hp
  simp only [List.all_cons,Bool.and_eq_true] at hp
  have Ur:∀j,(ak rs (b+1) y.2).get (b+1+j)≠none→h' (b+1+j)≠none→H (a+1+j)≠none∧ψ' (b+1+j)=ψ (a+1+j):=fun j hj bj=>by
   have:=hH (j+1)
   rw [show b+(j+1)=b+1+j by omega,show a+(j+1)=a+1+j by omega] at this
   exact this (Rx _ _ _ _ _ hj) bj
  cases r with
  | val k =>
   simp only [aR,ao] at hr ⊢
   obtain ⟨v,us,rfl,h1,h2⟩:=hr
   exact ⟨v,us,rfl,Ni h1,ih hp.2 Ur h2⟩
  | own ok =>
   simp only [aR,ao] at hr ⊢
   obtain ⟨v,us,rfl,h1,h2⟩:=hr
   refine ⟨v,us,rfl,?_,ih hp.2 Ur h2⟩
   simp only [ax] at h1 ⊢
   refine ⟨h1.1,fun bj => ?_⟩
   obtain ⟨h3,h4⟩:=hH 0 (by simp [ak,Heap.get]) bj
   rw [Nat.add_zero,Nat.add_zero] at h4
   rw [h4];exact h1.2 h3
  | ed b c=>simp [RK.plain] at hp
  | agg c =>
   simp only [aR,ao] at hr ⊢
   obtain ⟨v,us,rfl,h1,h2⟩:=hr
   refine ⟨v,us,rfl,?_,ih hp.2 Ur h2⟩
   simp only [ax] at h1 ⊢
   obtain ⟨ws,rfl,h3⟩:=h1
   refine ⟨ws,rfl,Io c (fun j hj bj=>hH j ?_ bj) h3⟩
   show Heap.get (aU c b y.1++ak rs (b+1) y.2) (b+j)≠none
   rw [Heap.get_append]
   split
   ·simp
   ·rename_i wU;exact absurd wU hj
theorem sR{Te Tf:Nat→Value}{W0 W9:Hp}{Xa Xb:Nat→Prop}{l l':List AV}{V:Value}(hl:l.length=l'.length)(hm:∀vs,ao Xa Te W0 w l vs→ao Xb Tf W9 w l' vs)(hr:ax Xa Te W0 w (eI l) V):ax Xb Tf W9 w (eI l') V:=by
 match l,l',hl with
 | [a],[a'],_ =>
  simp only [eI] at hr ⊢
  have:=hm [V] (by simp only [ao];exact ⟨V,[],rfl,hr,rfl⟩)
  simp only [ao] at this
  obtain ⟨v,us,e,h1,_⟩:=this
  cases e;exact h1
 | [],[],_ =>
  simp only [eI,ax] at hr ⊢
  obtain ⟨us,rfl,h1⟩:=hr
  exact ⟨us,rfl,hm _ h1⟩
 | a::b::r,a'::b'::r',_ =>
  simp only [eI,ax] at hr ⊢
  obtain ⟨us,rfl,h1⟩:=hr
  exact ⟨us,rfl,hm _ h1⟩
theorem jJ(rs:List RK):∀(ids:List Nat) (n m:Nat) (y:kT rs),(aR rs ids n m y).length=rs.length:=by
 induction rs with
 | nil=>intros;rfl
 | cons r rs ih=>intro ids n m y;cases r<;>simp [aR,ih]
theorem yc:∀(k:K) (x:k.T) (r:List AV),dec k (enc k x++r)=some (x,r)
 | .int _,x,r=>by simp only [enc,List.cons_append,List.nil_append,dec,DB,if_true];rfl
 | .bool,x,r=>by simp only [enc,List.cons_append,List.nil_append,dec,xR];rfl
 | .str,x,r=>by simp only [enc,List.cons_append,List.nil_append,dec,DC];rfl
 | .sl k,x,r=>by simp only [enc,List.cons_append,List.nil_append,dec,JH];rfl
 | .mp kk vk,x,r=>by simp only [enc,List.cons_append,List.nil_append,dec,JI];rfl
 | .pair a b,x,r=>by
  simp only [enc,dec,List.append_assoc]
  rw [yc a x.1 (enc b x.2++r)]
  simp only []
  rw [yc b x.2 r]
  rfl
 | .one k,x,r=>by simp only [enc,dec];exact yc k x r
theorem sS(k:K)(x:k.T):dH k (enc k x)=some x:=by
 unfold dH
 have:=yc k x []
 rw [List.append_nil] at this
 rw [this]
theorem sV:∀(k:K) (x:k.T),(b8 k x).cells=enc k x
 | .int _,_=>rfl
 | .bool,_=>rfl
 | .str,_=>rfl
 | .sl _,_=>rfl
 | .mp _ _,_=>rfl
 | .pair a b,x=>rfl
 | .one k,x=>rfl
theorem JR:∀(k:K) (x:k.T),b8 k x≠.no
 | .int _,_=>by simp [b8]
 | .bool,_=>by simp [b8]
 | .str,_=>by simp [b8]
 | .sl _,_=>by simp [b8]
 | .mp _ _,_=>by simp [b8]
 | .pair a b,x=>by simp [b8]
 | .one k,x=>by simp [b8]
theorem zx:∀(k:K) (x:k.T),(b8 k x).isAgg=k.isAgg
 | .int _,_=>rfl
 | .bool,_=>rfl
 | .str,_=>rfl
 | .sl _,_=>rfl
 | .mp _ _,_=>rfl
 | .pair a b,x=>rfl
 | .one k,x=>rfl
theorem Lb{k:K}{x:k.T}{v:Value}(hr:ax Z ψ h w (b8 k x) v):aG Z w k x v.cells.toList:=by
 have h1:=hr.cells (JR k x)
 rw [sV] at h1
 exact dt (sS k x) h1
theorem Ip{k:K}{x:k.T}{v:Value}(hr:ax Z ψ h w (b8 k x) v):(k.isAgg=true→∃vs,v=.agg vs)∧(k.isAgg=false→v.cells=#[v]) :=
 ⟨fun h=>M9 (by rw [zx];exact h) hr,fun h=>Cs (by rw [zx];exact h) (JR k x) hr⟩
theorem Nk(rs:List RK):∀{H:Hp} {n m a b:Nat} {y:kT rs} {vs:List Value},rs.all RK.flat=true→rs.all RK.plain=true→ao Z ψ H w (aR rs [] n a y) vs→ao Z' ψ' h' w' (aR rs [] m b y) vs:=by
 induction rs with
 | nil=>intro H n m a b y vs _ _ hr;simpa only [aR,ao] using hr
 | cons r rs ih =>
  intro H n m a b y vs hf hp hr
  simp only [List.all_cons,Bool.and_eq_true] at hp hf
  cases r with
  | val k =>
   simp only [aR,ao] at hr ⊢
   obtain ⟨v,us,rfl,h1,h2⟩:=hr
   have hk:k.flat=true:=hf.1
   obtain ⟨h3,h4⟩:=Ip h1
   exact ⟨v,us,rfl,kX ((Lb h1).flat hk) h3 h4,ih hf.2 hp.2 h2⟩
  | own ok=>simp [RK.flat] at hf
  | ed b c=>simp [RK.plain] at hp
  | agg c=>simp [RK.flat] at hf
theorem Lc(rs:List RK):∀(a:Nat) (y:kT rs),rs.all RK.flat=true→rs.all RK.plain=true→ak rs a y=[]:=by
 induction rs with
 | nil=>intros;rfl
 | cons r rs ih =>
  intro a y hf hp
  simp only [List.all_cons,Bool.and_eq_true] at hp hf
  cases r with
  | val k=>simp only [ak];exact ih _ _ hf.2 hp.2
  | own ok=>simp [RK.flat] at hf
  | ed b c=>simp [RK.plain] at hp
  | agg c=>simp [RK.flat] at hf
theorem tV:∀(ps:List PK) (vs:List AV),cx ps vs=some []→∀v∈vs,∀id,AV.bF id∈v.cells→AV.bF id∈c8 ps vs
 | [],vs,hi,v,hv,id,bO=>by
  cases vs with
  | nil=>cases hv
  | cons a r=>simp [cx] at hi
 | p::ps,vs,hi,v,hv,id,bO=>by
  obtain ⟨a,r,rfl,sF,Rv,Up,Uq⟩:=wS hi
  rcases List.mem_cons.1 hv with rfl | hv
  ·cases p with
   | val k=>simp only [c8];exact List.mem_append_left _ bO
   | ref=>exact absurd rfl Rv.1
   | own=>exact absurd rfl Rv.2
   | E3 f n=>rw [Up f n rfl] at bO;simp [AV.cells] at bO
   | agg n=>rw [Uq n rfl] at bO;simp [AV.cells] at bO
  ·have:=tV ps r sF v hv id bO
   cases p with
   | val k=>simp only [c8];exact List.mem_append_right _ this
   | ref=>exact absurd rfl Rv.1
   | own=>exact absurd rfl Rv.2
   | E3 f n=>simpa only [c8] using this
   | agg n=>simpa only [c8] using this
theorem zy(f:FuncId)(vs:List AV):sB f vs % 1000=f % 1000:=by
 induction vs with
 | nil=>rfl
 | cons v r ih =>
  cases v with
  | fn g cap=>exact Nat.add_mul_mod_self_left f 1000 _
  | _=>simp only [sB];exact ih
theorem vq{Sg:FuncId→Option aL}(f:FuncId)(vs:List AV):keyOf Sg f vs % 1000=f % 1000:=by
 unfold keyOf
 split
 ·exact (Nat.add_mul_mod_self_right (sB f vs) 500 1000).trans (zy f vs)
 ·exact zy f vs
theorem Next.imp{N':Nat→Prop}(n:Next Z ψ h w B0 O N Z' ψ' h' w')(hi:∀i,N i→N' i):Next Z ψ h w B0 O N' Z' ψ' h' w' :=
 ⟨n.fm,n.dU,n.keep,fun id bO=>(n.ids id bO).imp (fun h=>h) (hi id),n.dO⟩
theorem vt{rs:List RK}{y:kT rs}(hp:rs.all RK.plain=true){id nb:Nat}(g:Good Z ψ h w B0 O)(hB:B0≤w.heap.size)
  (bh:∀i ty cs,h i=some (.box ty cs)→aC (fun i=>¬N i) cs) (hN:∀j,j<rs.length+16→N (id+j))
  (k:cT HP fH w w') (hz:∀b,Z b→Z' b) (MC:∀b,Z' b→Z b∨w.heap.size≤b) (gc:Good Z' ψ' (ak rs 3000 y).get w' w.heap.size (fun _=>False))
  {v:Value} (hr:ax Z' ψ' (ak rs 3000 y).get w' (eI (aR rs [] 2000 3000 y)) v) :
  ∃sW,Next Z ψ h w B0 O N Z' sW (fun i=>match (ak rs id y).get i with | some o=>some o | none=>h i) w' ∧
   ax Z' sW (fun i=>match (ak rs id y).get i with | some o=>some o | none=>h i) w' (eI (aR rs [] nb id y)) v:=by
 classical
 let H:Hp:=fun i=>match (ak rs id y).get i with | some o=>some o | none=>h i
 let NN:Nat→Prop:=fun i=>(ak rs id y).get i≠none
 let sW:Nat→Value:=fun i=>if NN i then ψ' (3000+(i - id)) else ψ i
 have hNN:∀i,NN i→∃j,j<rs.length+16∧i=id+j:=fun i hi=>by
  have h1:¬i<id:=fun aJ=>hi (pW rs id y i hp aJ)
  have h2:¬id+rs.length+16≤i:=fun QX=>hi (Fv rs id y i hp QX)
  exact ⟨i - id,by omega,by omega⟩
 have Cx:∀i,NN i→(ak rs 3000 y).get (3000+(i - id))=(ak rs id y).get i:=fun i hi=>by
  obtain ⟨j,_,rfl⟩:=hNN i hi
  rw [show id+j - id=j by omega]
  exact Fw rs 3000 id y j hp
 have hH:∀i,NN i→H i=(ak rs 3000 y).get (3000+(i - id)):=fun i hi=>by
  rw [Cx i hi]
  show (match (ak rs id y).get i with | some o=>some o | none=>h i)=_
  cases e:(ak rs id y).get i with
  | none=>exact absurd e hi
  | some o=>rfl
 have iE:∀i,NN i→sW i=ψ' (3000+(i - id)):=fun i hi=>if_pos hi
 have Xc:∀i,NN i→N i:=fun i hi=>by obtain ⟨j,hj,rfl⟩:=hNN i hi;exact hN j hj
 have n:=Good.WZ (N:=NN) (ψ':=sW) (h':=H) g k hz MC gc.jm
  (fun i hi=>by
   have e:(ak rs id y).get i=none:=Classical.not_not.1 hi
   refine ⟨?_,if_neg hi⟩
   show (match (ak rs id y).get i with | some o=>some o | none=>h i)=h i
   rw [e])
  (fun i ty cs hb=>(bh i ty cs hb).imp (fun i hi hni=>hi (Xc i hni)))
  (fun i ty cs hi hb=>by rw [hH i hi] at hb;exact tU _ _ _ _ _ _ hp hb)
  (fun i ok xs hi hb=>by rw [hH i hi] at hb;rw [iE i hi];exact gc.row _ _ _ hb)
  (fun i b hi h1 h2=>by
   rw [hH i hi] at h1;rw [iE i hi] at h2
   obtain ⟨h3,h4⟩:=gc.live _ b h1 h2
   exact ⟨h4.resolve_right (fun h=>h),h3⟩)
  (fun i i' b hi sF h1 h2 h3 h4=>by
   rw [hH i hi] at h1;rw [hH i' sF] at h2;rw [iE i hi] at h3;rw [iE i' sF] at h4
   have:=gc.apart _ _ b h1 h2 h3 h4
   obtain ⟨j,_,rfl⟩:=hNN i hi
   obtain ⟨j',_,rfl⟩:=hNN i' sF
   omega) hB
 refine ⟨sW,n.imp Xc,?_⟩
 refine sR (by rw [jJ,jJ]) (fun vs sH => ?_) hr
 refine Nj (h':=H) (ψ':=sW) rs (n:=2000) (a:=3000) hp (fun j hn bj => ?_) sH
 replace hn:NN (id+j):=hn
 have e1:=hH _ hn
 have e2:=iE _ hn
 rw [show id+j - id=j by omega] at e1 e2
 exact ⟨by rw [←e1];exact bj,e2⟩
def iM(P:Program)(f:FuncId):Prop:=∃fn,P.funcs[f]? = some fn∧(fn.name== "runtime.NumGoroutine")=false∧fn.body.isSome=true
theorem iO{f:FuncId}(hc:iM P f)(args:Array Value):(callFunc f args).run P w=.ok (.enter f args) w:=by
 obtain ⟨fn,h1,h2,h3⟩:=hc
 obtain ⟨c,hc⟩:=Option.isSome_iff_exists.1 h3
 simp [callFunc,h1,hc,show ¬fn.name= "runtime.NumGoroutine" by simpa using h2]
def Tg(P:Program)(ρC:Operand→Value)(o:Oper)(Z:Nat→Prop)(ψ:Nat→Value)(h:Hp)(w:World)(B0:Nat)(O N:Nat→Prop)(e:bE):Prop :=
 ∃f args,(execOp ρC o).run P w=.ok (.enter f args) w∧Calls P f args w fun en w'=>∃V Z' ψ',en=.returned V∧Next Z ψ h w B0 O N Z' ψ' (e.hp h) w'∧ax Z' ψ' (e.hp h) w' e.v V
end Go.Vs
namespace Go.Vs
variable {P:Program} {Z Z':Nat→Prop} {ψ ψ':Nat→Value} {h h':Hp} {w w':World} {B0:Nat} {O:Nat→Prop} {N:Nat→Prop}
def cw:(rs:List RK)→List AV→Nat→kT rs→List wR
 | [],_,_,_=>[]
 | .own ok::r,vs,m,x=>(m,(nN (vs.headD .no)).head?,.own ok x.1)::cw r vs.tail (m+1) x.2
 | .val _::r,vs,m,x=>cw r vs.tail (m+1) x.2
 | .ed _ _::r,vs,m,x=>cw r vs.tail (m+1) x.2
 | .agg c::r,vs,m,x=>dv c m (vs.headD .no).cells x.1++cw r vs.tail (m+1) x.2
theorem fT:∀(rs:List RK) (vs:List AV) (m:Nat) (x:kT rs),dm (cw rs vs m x)=ak rs m x
 | [],_,_,_=>rfl
 | .own ok::r,vs,m,x=>by simp only [cw,ak];rw [←fT r vs.tail (m+1) x.2];rfl
 | .val _::r,vs,m,x=>fT r vs.tail (m+1) x.2
 | .ed _ _::r,vs,m,x=>fT r vs.tail (m+1) x.2
 | .agg c::r,vs,m,x=>by
  have e1:dm (dv c m (vs.headD .no).cells x.1)=aU c m x.1:=lT c m _ x.1
  have e2:=fT r vs.tail (m+1) x.2
  simp only [cw,ak]
  rw [lU,e2]
  exact congrArg (·++_) e1
theorem fe:∀(rs:List RK) (vs:List AV) (m:Nat) (x:kT rs),(cw rs vs m x).map (·.1)=br rs m
 | [],_,_,_=>rfl
 | .own ok::r,vs,m,x=>by simp only [cw,br,List.map_cons];rw [fe r vs.tail (m+1) x.2]
 | .val _::r,vs,m,x=>fe r vs.tail (m+1) x.2
 | .ed _ _::r,vs,m,x=>fe r vs.tail (m+1) x.2
 | .agg c::r,vs,m,x=>by
  have e1:(dv c m (vs.headD .no).cells x.1).map (·.1)=cc c m:=kz c m _ x.1
  have e2:=fe r vs.tail (m+1) x.2
  simp only [cw,br,List.map_append]
  rw [e2]
  exact congrArg (·++_) e1
theorem n8{bs:List BK}{k:K}{r:List RK}{hh:Heap}{ids:List Nat}{vs:List AV}{x:kT (.val k::r)}(hd:bG bs (.val k::r) hh ids vs=some x):∃v gF,vs=v::gF∧fw k hh v=some x.1∧bG bs r hh ids gF=some x.2:=by
 cases vs with
 | nil=>cases hd
 | cons v vs =>
  have e:bG bs (.val k::r) hh ids (v::vs)=(match fw k hh v,bG bs r hh ids vs with
   | some x,some y=>some ((x,y):k.T×kT r)
   | _,_=>none):=rfl
  rw [e] at hd
  clear e
  refine ⟨v,vs,rfl,?_⟩
  generalize fw k hh v=o1 at hd ⊢
  generalize bG bs r hh ids vs=o2 at hd ⊢
  cases o1 with
  | none=>cases hd
  | some x1 =>
   cases o2 with
   | none=>cases hd
   | some y1=>have:=Option.some.inj hd;subst this;exact ⟨rfl,rfl⟩
theorem oa{bs:List BK}{ok:OK}{r:List RK}{hh:Heap}{ids:List Nat}{vs:List AV}{x:kT (.own ok::r)}(hd:bG bs (.own ok::r) hh ids vs=some x):∃v gF,vs=v::gF∧dD hh ok v=some x.1∧bG bs r hh ids gF=some x.2:=by
 cases vs with
 | nil=>cases hd
 | cons v vs =>
  have e:bG bs (.own ok::r) hh ids (v::vs)=(match dD hh ok v,bG bs r hh ids vs with
   | some x,some y=>some ((x,y):ok.T×kT r)
   | _,_=>none):=rfl
  rw [e] at hd
  clear e
  refine ⟨v,vs,rfl,?_⟩
  generalize dD hh ok v=o1 at hd ⊢
  generalize bG bs r hh ids vs=o2 at hd ⊢
  cases o1 with
  | none=>cases hd
  | some x1 =>
   cases o2 with
   | none=>cases hd
   | some y1=>have:=Option.some.inj hd;subst this;exact ⟨rfl,rfl⟩
theorem lV{bs:List BK}{b:Nat}{alts:List (Nat×Nat×Nat)}{r:List RK}{hh:Heap}{ids:List Nat}{vs:List AV}{x:kT (.ed b alts::r)}(hd:bG bs (.ed b alts::r) hh ids vs=some x):∃v gF,vs=v::gF∧mj bs hh ids b alts v=some x.1∧bG bs r hh ids gF=some x.2:=by
 cases vs with
 | nil=>cases hd
 | cons v vs =>
  have e:bG bs (.ed b alts::r) hh ids (v::vs)=(match mj bs hh ids b alts v,bG bs r hh ids vs with
   | some x,some y=>some ((x,y):Option (Fin alts.length×Nat)×kT r)
   | _,_=>none):=rfl
  rw [e] at hd
  clear e
  refine ⟨v,vs,rfl,?_⟩
  generalize mj bs hh ids b alts v=o1 at hd ⊢
  generalize bG bs r hh ids vs=o2 at hd ⊢
  cases o1 with
  | none=>cases hd
  | some x1 =>
   cases o2 with
   | none=>cases hd
   | some y1=>have:=Option.some.inj hd;subst this;exact ⟨rfl,rfl⟩
theorem oc{bs:List BK}{c:List CK}{r:List RK}{hh:Heap}{ids:List Nat}{vs:List AV}{x:kT (.agg c::r)}(hd:bG bs (.agg c::r) hh ids vs=some x):∃cs gF,vs=.agg cs::gF∧cG c hh cs=some x.1∧bG bs r hh ids gF=some x.2:=by
 cases vs with
 | nil=>cases hd
 | cons v vs =>
  have e:bG bs (.agg c::r) hh ids (v::vs)=(match yP c hh v,bG bs r hh ids vs with
   | some x,some y=>some ((x,y):py c×kT r)
   | _,_=>none):=rfl
  rw [e] at hd
  clear e
  have key:yP c hh v=some x.1∧bG bs r hh ids vs=some x.2:=by
   generalize yP c hh v=o1 at hd ⊢
   generalize bG bs r hh ids vs=o2 at hd ⊢
   cases o1 with
   | none=>cases hd
   | some x1 =>
    cases o2 with
    | none=>cases hd
    | some y1=>have:=Option.some.inj hd;subst this;exact ⟨rfl,rfl⟩
  obtain ⟨h1,h2⟩:=key
  unfold yP at h1
  split at h1
  ·exact ⟨_,vs,rfl,h1,h2⟩
  ·cases h1
theorem gG{bs:List BK}{hh:Heap}{ids:List Nat}:∀(rs:List RK) (vs:List AV) (x:kT rs),bG bs rs hh ids vs=some x→vs.length=rs.length
 | [],[],_,_=>rfl
 | [],_::_,_,h=>by cases h
 | .val k::r,vs,x,h=>by obtain ⟨v,gF,rfl,_,h2⟩:=n8 h;simp [gG r gF x.2 h2]
 | .own ok::r,vs,x,h=>by obtain ⟨v,gF,rfl,_,h2⟩:=oa h;simp [gG r gF x.2 h2]
 | .ed _ _::r,vs,x,h=>by obtain ⟨v,gF,rfl,_,h2⟩:=lV h;simp [gG r gF x.2 h2]
 | .agg _::r,vs,x,h=>by obtain ⟨v,gF,rfl,_,h2⟩:=oc h;simp [gG r gF x.2 h2]
theorem il{bs:List BK}{hh:Heap}{ids:List Nat}:∀(rs:List RK) (vs:List AV) (m:Nat) (x:kT rs),bG bs rs hh ids vs=some x→(cw rs vs m x).filterMap (·.2.1)=dz rs vs
 | [],vs,_,_,_=>by cases vs<;>rfl
 | .own ok::r,vs,m,x,h=>by
  obtain ⟨v,gF,rfl,_,h2⟩:=oa h
  simp only [cw,dz,List.headD_cons,List.tail_cons]
  rw [dB,il r gF (m+1) x.2 h2]
  simp only []
  rw [vo]
 | .val k::r,vs,m,x,h=>by
  obtain ⟨v,gF,rfl,_,h2⟩:=n8 h
  simp only [cw,dz,List.tail_cons]
  exact il r gF (m+1) x.2 h2
 | .ed _ _::r,vs,m,x,h=>by
  obtain ⟨v,gF,rfl,_,h2⟩:=lV h
  simp only [cw,dz,List.tail_cons]
  exact il r gF (m+1) x.2 h2
 | .agg c::r,vs,m,x,h=>by
  obtain ⟨cs,gF,rfl,h1,h2⟩:=oc h
  simp only [cw,dz,List.headD_cons,List.tail_cons,AV.cells]
  have e1:(dv c m cs x.1).filterMap (·.2.1)=fk c cs:=nY c m hh cs x.1 h1
  rw [List.filterMap_append,il r gF (m+1) x.2 h2]
  exact congrArg (·++_) e1
theorem ju{hd:Hp}{bs:List BK}{hh:Heap}{ids:List Nat}:∀(rs:List RK) (vs:List AV) (m:Nat) (x:kT rs),bG bs rs hh ids vs=some x→(∀s∈dz rs vs,hd s=hh.get s)→∀e∈cw rs vs m x,tT Z ψ hd w h' ψ' e
 | [],_,_,_,_,_,e,he=>by simp [cw] at he
 | .own ok::r,vs,m,x,h,hk,e,he=>by
  obtain ⟨v,gF,rfl,h1,h2⟩:=oa h
  simp only [cw,dz,List.headD_cons,List.tail_cons] at he hk
  rcases List.mem_cons.1 he with rfl | he
  ·exact JQ h1 fun s hs=>hk s (List.mem_append_left _ hs)
  ·exact ju r gF (m+1) x.2 h2 (fun s hs=>hk s (List.mem_append_right _ hs)) e he
 | .val k::r,vs,m,x,h,hk,e,he=>by
  obtain ⟨v,gF,rfl,h1,h2⟩:=n8 h
  exact ju r gF (m+1) x.2 h2 hk e he
 | .ed _ _::r,vs,m,x,h,hk,e,he=>by
  obtain ⟨v,gF,rfl,h1,h2⟩:=lV h
  exact ju r gF (m+1) x.2 h2 hk e he
 | .agg c::r,vs,m,x,h,hk,e,he=>by
  obtain ⟨cs,gF,rfl,h1,h2⟩:=oc h
  simp only [cw,dz,List.headD_cons,List.tail_cons,AV.cells] at he hk
  rcases List.mem_append.1 he with he | he
  ·exact qR c m cs x.1 h1 (fun s hs=>hk s (List.mem_append_left _ hs)) e he
  ·exact ju r gF (m+1) x.2 h2 (fun s hs=>hk s (List.mem_append_right _ hs)) e he
theorem vu{hh:Heap}{id:Nat}:∀(c9:List CK) (c n:Nat) (cs:List AV) (x:py c9),cG c9 hh cs=some x→fz c9 c=true→cs[lO c9 c]? = some (.bF id)→hh.get id≠none∧∃o,(n+c,some id,o)∈dv c9 n cs x
 | [],c,n,cs,x,_,h,_=>by simp [fz] at h
 | .val k::r,0,n,cs,x,_,h,_=>by simp [fz] at h
 | .val k::r,c+1,n,cs,x,hd,h,hc=>by
  obtain ⟨_,h2⟩:=nX hd
  obtain ⟨h3,o,h4⟩:=vu r c (n+1) (cs.drop k.sz) x.2 h2 (by simpa [fz] using h) (by rw [List.getElem?_drop];simpa [lO] using hc)
  exact ⟨h3,o,by rw [show n+(c+1)=n+1+c by omega];exact h4⟩
 | .own ok::r,0,n,cs,x,hd,h,hc=>by
  obtain ⟨c0,cs',rfl,h1,h2⟩:=kZ hd
  simp only [lO,List.getElem?_cons_zero,Option.some.injEq] at hc
  subst hc
  rcases k0 h1 with ⟨h3,_⟩ | ⟨lM,h3,h4⟩
  ·cases h3
  ·cases h3
   exact ⟨by rw [h4];simp,_,by simp only [dv,List.headD_cons,nN,List.head?_cons];exact List.mem_cons_self⟩
 | .own ok::r,c+1,n,cs,x,hd,h,hc=>by
  obtain ⟨c0,cs',rfl,h1,h2⟩:=kZ hd
  obtain ⟨h3,o,h4⟩:=vu r c (n+1) cs' x.2 h2 (by simpa [fz] using h) (by simp only [lO] at hc;rw [Nat.add_comm] at hc;simpa using hc)
  exact ⟨h3,o,by rw [show n+(c+1)=n+1+c by omega];simp only [dv,List.tail_cons];exact List.mem_cons_of_mem _ h4⟩
theorem zz{hh:Heap}{id c:Nat}:∀(bs:List BK) (b n:Nat) (is is':List Nat) (x:u5 bs) (bk:BK) (bi:Nat) (ty:TypeId) (cs:List AV),cQ bs hh is=some x→is'.length=bs.length→bs[b]? = some bk→is[b]? = some bi→hh.get bi=some (.box ty cs) →
  fz bk.c9 c=true→cs[lO bk.c9 c]? = some (.bF id)→hh.get id≠none∧∃o,(n+16 * b+c,some id,o)∈cq bs hh is is' n x
 | [],b,n,is,is',x,bk,bi,ty,cs,_,_,h,_,_,_,_=>by simp at h
 | b0::r,b,n,[],is',x,bk,bi,ty,cs,hd,_,_,_,_,_,_=>by cases hd
 | b0::r,b,n,i::is,[],x,bk,bi,ty,cs,_,hl,_,_,_,_,_=>by simp at hl
 | b0::r,0,n,i::is,i'::is',x,bk,bi,ty,cs,hd,hl,h1,h2,h3,h4,h5=>by
  obtain ⟨g0,g3⟩:=eQ hd
  simp only [List.getElem?_cons_zero,Option.some.injEq] at h1 h2
  subst h1;subst h2
  cases b0 with
  | own ok=>simp [BK.c9,fz] at h4
  | box ty0 c0 =>
   obtain ⟨cs',g1,g2⟩:=qQ g0
   rw [g1] at h3
   cases h3
   obtain ⟨h6,o,h7⟩:=vu c0 c n cs x.1 g2 h4 h5
   refine ⟨h6,o,?_⟩
   simp only [cq,dA]
   rw [n3 g1]
   exact List.mem_append_left _ (List.mem_cons_of_mem _ (by simpa using h7))
 | b0::r,b+1,n,i::is,i'::is',x,bk,bi,ty,cs,hd,hl,h1,h2,h3,h4,h5=>by
  obtain ⟨_,g3⟩:=eQ hd
  obtain ⟨h6,o,h7⟩:=zz r b (n+16) is is' x.2 bk bi ty cs g3 (by simpa using hl) (by simpa using h1) (by simpa using h2) h3 h4 h5
  refine ⟨h6,o,?_⟩
  rw [show n+16 * (b+1)+c=n+16+16 * b+c by omega]
  simp only [cq]
  exact List.mem_append_right _ h7
theorem zB{c:List CK}{cs:List AV}{id s off:Nat}{a:Nat×Nat×Nat}(h:wG c cs id s off a=true):cs[lO c a.1]? = some (.bF id)∧s=a.2.1∧off=a.2.2∧fz c a.1=true:=by
 simp only [wG,Bool.and_eq_true,decide_eq_true_eq] at h
 obtain ⟨h1,h2,h3,h4⟩:=h
 refine ⟨?_,h2,h3,h4⟩
 unfold MR at h1
 split at h1
 ·rename_i e;rw [e];simp only [beq_iff_eq] at h1;rw [h1]
 ·cases h1
theorem Ld{bs:List BK}{hh:Heap}{ids:List Nat}{b:Nat}{alts:List (Nat×Nat×Nat)}{v:AV}{x:Option (Fin alts.length×Nat)}(hd:mj bs hh ids b alts v=some x):(v=.kS∧x=none) ∨
  ∃id i a bi bk ty cs,v=.ref id (alts.get a).2.1 i (alts.get a).2.2∧x=some (a,i)∧ids[b]? = some bi∧bs[b]? = some bk∧hh.get bi=some (.box ty cs)∧cs[lO bk.c9 (alts.get a).1]? = some (.bF id)∧fz bk.c9 (alts.get a).1=true:=by
 unfold mj at hd
 split at hd
 ·cases hd;exact .inl ⟨rfl,rfl⟩
 ·rename_i id s i off
  split at hd
  ·rename_i bi bk h1 h2
   split at hd
   ·rename_i ty cs h3
    split at hd
    ·rename_i a h4
     cases hd
     have h4':wG bk.c9 cs id s off (alts.get a)=true:=by simpa using List.find?_some (p:=fun a=>wG bk.c9 cs id s off (alts.get a)) h4
     obtain ⟨h5,rfl,rfl,h6⟩:=zB h4'
     exact .inr ⟨id,i,a,bi,bk,ty,cs,rfl,rfl,h1,h2,h3,h5,h6⟩
    ·cases hd
   ·cases hd
  ·cases hd
 ·cases hd
theorem qT{bs:List BK}{hh:Heap}{ids is' ids2:List Nat}{nb:Nat}{yb:u5 bs}(g:Good Z ψ hh.get w B0 O)(hz:∀b,Z b→Z' b)(hb:cQ bs hh ids=some yb)(hl:is'.length=bs.length)
  (Nl:∀e∈cq bs hh ids is' nb yb,h' e.1≠none→ψ' e.1=js ψ e.2.1):∀(rs:List RK) (vs:List AV) (m:Nat) (x:kT rs) (us:List Value),bG bs rs hh ids vs=some x →
  (∀id b,AV.bF id∈fD rs vs→hh.get id≠none→ob (ψ id)=some b→Z' b)→(∀e∈cw rs vs m x,h' e.1≠none→ψ' e.1=js ψ e.2.1)→ao Z ψ hh.get w vs us→ao Z' ψ' h' w (aR rs ids2 nb m x) us
 | [],vs,m,x,us,hd,_,_,hr=>by
  have:=gG [] vs x hd
  have hv:vs=[]:=List.eq_nil_of_length_eq_zero this
  subst hv
  simpa only [aR,ao] using hr
 | .val k::r,vs,m,x,us,hd,hf,iE,hr=>by
  obtain ⟨v,gF,rfl,h1,h2⟩:=n8 hd
  simp only [ao] at hr
  obtain ⟨u,iB,rfl,h3,h4⟩:=hr
  simp only [aR,ao]
  simp only [fD] at hf
  exact ⟨u,iB,rfl,qM g hz (fun id b bO=>hf id b (List.mem_append_left _ bO)) h1 h3,qT g hz hb hl Nl r gF (m+1) x.2 iB h2 (fun id b bO=>hf id b (List.mem_append_right _ bO)) iE h4⟩
 | .own ok::r,vs,m,x,us,hd,hf,iE,hr=>by
  obtain ⟨v,gF,rfl,h1,h2⟩:=oa hd
  simp only [ao] at hr
  obtain ⟨u,iB,rfl,h3,h4⟩:=hr
  simp only [aR,ao]
  simp only [cw,List.headD_cons,List.tail_cons] at iE
  exact ⟨u,iB,rfl,DR h1 h3 (fun hn=>iE _ List.mem_cons_self hn),qT g hz hb hl Nl r gF (m+1) x.2 iB h2 hf (fun e he=>iE e (List.mem_cons_of_mem _ he)) h4⟩
 | .ed b alts::r,vs,m,x,us,hd,hf,iE,hr=>by
  obtain ⟨v,gF,rfl,h1,h2⟩:=lV hd
  simp only [ao] at hr
  obtain ⟨u,iB,rfl,h3,h4⟩:=hr
  simp only [aR,ao]
  refine ⟨u,iB,rfl,?_,qT g hz hb hl Nl r gF (m+1) x.2 iB h2 hf iE h4⟩
  rcases Ld h1 with ⟨rfl,h5⟩ | ⟨id,i,al,bi,bk,ty,cs,rfl,h5,h6,h7,h8,h9,mr⟩
  ·have:x.1=none:=h5
   rw [this]
   simpa only [tz,ax] using h3
  ·have:x.1=some (al,i):=h5
   rw [this]
   obtain ⟨xy,o,HN⟩:=zz bs b nb ids is' yb bk bi ty cs hb hl h7 h6 h8 mr h9
   simp only [tz,ax] at h3 ⊢
   obtain ⟨ad,QY,Th⟩:=h3
   refine ⟨ad,QY,fun hn => ?_⟩
   rw [Nl _ HN hn,Th xy];rfl
 | .agg c::r,vs,m,x,us,hd,hf,iE,hr=>by
  obtain ⟨cs,gF,rfl,h1,h2⟩:=oc hd
  simp only [ao] at hr
  obtain ⟨u,iB,rfl,h3,h4⟩:=hr
  simp only [aR,ao]
  simp only [fD,AV.cells] at hf
  simp only [cw,List.headD_cons,List.tail_cons,AV.cells] at iE
  refine ⟨u,iB,rfl,?_,qT g hz hb hl Nl r gF (m+1) x.2 iB h2 (fun id b bO=>hf id b (List.mem_append_right _ bO)) (fun e he=>iE e (List.mem_append_right _ he)) h4⟩
  simp only [ax] at h3 ⊢
  obtain ⟨ws,rfl,h5⟩:=h3
  exact ⟨ws,rfl,qP g hz c m cs x.1 _ h1 (fun id b bO=>hf id b (List.mem_append_left _ bO)) (fun e he=>iE e (List.mem_append_left _ he)) h5⟩
end Go.Vs
