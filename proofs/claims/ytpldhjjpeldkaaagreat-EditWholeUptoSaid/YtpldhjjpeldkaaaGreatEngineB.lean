/- The value semantics is sound, operation by operation. -/
import Derived.Test.YtpldhjjpeldkaaaGreatEngineA
import Derived.Laws.StructEq
import Derived.Laws.Slices
import Derived.Laws.Strings
import Derived.MapKept
namespace Go.Vs
variable {P:Program} {Z Z':Nat→Prop} {ψ ψ':Nat→Value} {h h':Hp} {w w':World} {B0:Nat} {O:Nat→Prop} {N:Nat→Prop}
def bE.hp(h:Hp):bE→Hp
 | .val _=>h
 | .new _ os=>fun i=>match Heap.get os i with
  | some o=>some o
  | none=>h i
 | .wr _ h'=>h'.get
theorem gY(id:Nat)(o:Ob)(h:Hp):(fun i=>match Heap.get [(id,o)] i with | some o=>some o | none=>h i)=dK h id (some o):=by
 funext i
 simp only [Heap.get,dK]
 by_cases e:i=id
 ·subst e;simp
 ·rw [if_neg (fun x=>e x.symm),if_neg e]
theorem lR(hh:Heap)(id:Nat)(o:Ob):(hh.set id o).get=dK hh.get id (some o):=by
 funext i
 by_cases e:i=id
 ·subst e;rw [Heap.Du,ba]
 ·rw [Heap.HU e,cJ _ _ e]
theorem tB(hh:Heap)(id:Nat):(hh.del id).get=dK hh.get id none:=by
 funext i
 by_cases e:i=id
 ·subst e;rw [Heap.fS,ba]
 ·rw [Heap.gW e,cJ _ _ e]
theorem yM(hh:Heap)(id:Nat)(o:Ob):Heap.get ((id,o)::hh)=dK hh.get id (some o):=by
 funext i
 simp only [Heap.get,dK]
 by_cases e:i=id
 ·subst e;simp
 ·rw [if_neg (fun x=>e x.symm),if_neg e]
def gq(P:Program)(ρC:Operand→Value)(o:Oper)(Z:Nat→Prop)(ψ:Nat→Value)(h:Hp)(w:World)(B0:Nat)(O N:Nat→Prop)(e:bE):Prop :=
 ∃V w' Z' ψ',((execOp ρC o).run P w=.ok (.value V) w'∨((execOp ρC o).run P w=.ok .skip w'∧V=undef))∧Next Z ψ h w B0 O N Z' ψ' (e.hp h) w'∧av Z' ψ' (e.hp h) w' e.v V
theorem gq.val{ρC:Operand→Value}{o:Oper}{x:AV}(g:Good Z ψ h w B0 O){V:Value}(hr:(execOp ρC o).run P w=.ok (.value V) w)(hx:av Z ψ h w x V):gq P ρC o Z ψ h w B0 O N (.val x) :=
 ⟨V,w,Z,ψ,.inl hr,Next.refl g,hx⟩
theorem MR{ty:TypeId}{k:K}{xs:List k.T}{id n:Nat}{x:k.T}(g:Good Z ψ h w B0 O)(hg:h id=some (.own (.row ty k) xs))(hx:xs[n]? = some x) :
  ∃gg us,QK (ψ id)=gg∧aE Z w k x us∧∀(j:Nat) u,us[j]? = some u→w.cell? ⟨gg,n * k.sz+j,none⟩=some u:=by
 obtain ⟨vs,ho,hv⟩:=g.row id (.row ty k) xs hg
 have hn:n<xs.length:=(List.getElem?_eq_some_iff.1 hx).1
 obtain ⟨hl,e⟩:=ho
 rcases e with ⟨h0,_⟩ | ⟨gg,cap,cur,e1,_,e3,_,_,_,e7⟩
 ·omega
 ·refine ⟨gg,_,by rw [e1];rfl,hv n x hx,fun j u hu => ?_⟩
  rw [List.getElem?_take] at hu
  split at hu
  ·rw [List.getElem?_drop,←e7,List.getElem?_take] at hu
   split at hu
   ·simp only [World.cell?,e3];simpa using hu
   ·cases hu
  ·cases hu
theorem sD{hh:Heap}(g:Good Z ψ h w B0 O)(br:∀id o,hh.get id=some o→h id=some o){t:TypeId}{a:AV}{v:Value}{e:bE}(hv:av Z ψ h w a v)(he:kX P hh t a some=some e) :
  ∃x V,e=.val x∧(Instr.loadAt t v).run P w=.ok V w∧av Z ψ h w x V:=by
 unfold kX at he
 split at he
 ·rename_i id s i off
  simp only [av] at hv
  obtain ⟨a,rfl,ha⟩:=hv
  split at he
  ·rename_i ty cs hg
   have uN:=br _ _ hg
   have EV:=ha (by rw [uN];simp)
   obtain ⟨gg,vs,e1,e2,e3,e4⟩:=g.box id ty cs uN
   split at he
   ·rename_i hi
    subst hi
    split at he
    ·rename_i x hx
     cases he
     rw [e1] at EV
     simp only [QK,Nat.zero_mul,Nat.zero_add] at EV
     subst EV
     obtain ⟨V,h1,h2⟩:=jn (a:=⟨gg,off,none⟩) (e3.drop off) (fun j u hu=>by
      rw [cf];simp only [World.cell?,e2];rw [List.getElem?_drop] at hu;simpa using hu) hx
     exact ⟨x,V,rfl,h1,h2⟩
    ·cases he
   ·cases he
  ·rename_i ty kk xs hg
   have uN:=br _ _ hg
   have EV:=ha (by rw [uN];simp)
   split at he
   ·rename_i hs
    subst hs
    obtain ⟨x,hx,he⟩:=Option.bind_eq_some_iff.1 he
    split at he
    ·rename_i y hy
     cases he
     obtain ⟨gg,us,h1,h2,h3⟩:=MR g uN hx
     rw [h1] at EV;subst EV
     obtain ⟨V,h4,h5⟩:=jn (a:=⟨gg,i * kk.sz+off,none⟩) ((gM (ψ:=ψ) (h:=h) h2).drop off) (fun j u hu=>by
      rw [cf,Nat.add_assoc];exact h3 _ _ (by rw [List.getElem?_drop] at hu;exact hu)) hy
     exact ⟨y,V,rfl,h4,h5⟩
    ·cases he
   ·cases he
  ·cases he
 ·rename_i kk x off
  split at he
  ·rename_i y hy
   cases he
   simp only [av] at hv
   obtain ⟨a,us,rfl,_,h2,h3⟩:=hv
   obtain ⟨V,h4,h5⟩:=jn ((gM (ψ:=ψ) (h:=h) h2).drop off) (fun j u hu=>h3 j u (by rw [List.getElem?_drop] at hu;exact hu)) hy
   exact ⟨y,V,rfl,h4,h5⟩
  ·cases he
 ·cases he
theorem mz{t e:TypeId}(he:wc P t=some e):P.underlying t=some (.slice e):=by
 unfold wc at he
 split at he
 ·cases he;assumption
 ·cases he
theorem mA{t e:TypeId}(ht:P.underlying t=some (.slice e)){i:TypeInfo}(hi:P.info? e=some i)(a:Addr)(n c:Nat)(k:IntKind)(j:Int)(h0:0≤j)(h1:j<n) :
  (Instr.indexAt t (.slice (some a) n c) (.int k j)).run P w=.ok (.pointer (some (a.add (j.toNat * P.cellsOf e)))) w:=by
 simp [Instr.indexAt,asIntOf,run_underlying ht,h0,h1,di hi]
theorem KM{α:Type}{xs:List α}{i:Int}{x:α}(hx:aZ xs i=some x):0≤i∧i<xs.length∧xs[i.toNat]? = some x:=by
 unfold aZ at hx
 split at hx
 ·rename_i h0
  have:=(List.getElem?_eq_some_iff.1 hx).1
  exact ⟨h0,by omega,hx⟩
 ·cases hx
theorem oO{hh:Heap}(g:Good Z ψ h w B0 O)(br:∀id o,hh.get id=some o→h id=some o){t:TypeId}{x i:AV}{v u:Value}{e:bE}(hv:av Z ψ h w x v)(hu:av Z ψ h w i u)(he:dh P hh t x i some=some e) :
  ∃y V,e=.val y∧(Instr.indexAt t v u).run P w=.ok V w∧av Z ψ h w y V:=by
 unfold dh at he
 split at he
 ·cases he
 ·rename_i et het
  have ht:=mz het
  ·skip
   split at he
   ·rename_i ex JA xs ik n
    simp only [av] at hv hu
    subst hu
    split at he
    ·rename_i hs
     obtain ⟨y,hy,he⟩:=Option.bind_eq_some_iff.1 he
     cases he
     obtain ⟨h0,h1,h2⟩:=KM hy
     obtain ⟨hk,_⟩:=hv
     simp only [aE] at hk
     obtain ⟨v',yN,A,c,rfl,_,_,HC⟩:=hk
     cases yN
     obtain ⟨a,us,rfl,hz,hr,hc⟩:=HC _ _ h2
     have hi:∃i,P.info? et=some i:=by
      cases hi:P.info? et with
      | some i=>exact ⟨i,rfl⟩
      | none=>exfalso;have:=JA.gV;simp [Program.cellsOf,hi] at hs;omega
     obtain ⟨inf,hi⟩:=hi
     refine ⟨_,_,rfl,mA ht hi a xs.length c ik n h0 h1,?_⟩
     simp only [av]
     refine ⟨_,us,rfl,by rw [cq];exact hz,hr,fun j u hu => ?_⟩
     rw [tq,hs];exact hc j u (by simpa using hu)
    ·cases he
   ·rename_i id ik n
    split at he
    ·rename_i ty JA xs hg
     have uN:=br _ _ hg
     split at he
     ·rename_i hs
      cases yL:(decide (0≤n)&&decide (n<(xs.length:Int))) with
      | false=>rw [yL] at he;cases he
      | true =>
       rw [yL] at he
       cases he
       simp only [Bool.and_eq_true,decide_eq_true_eq] at yL
       simp only [av] at hv hu
       subst hu
       have hvv:=hv.2 (by rw [uN];simp)
       obtain ⟨vs,⟨_,e⟩,_⟩:=g.row id (.row ty JA) xs uN
       rcases e with ⟨h0,_⟩ | ⟨gg,cap,cur,e1,_,e3,_⟩
       ·omega
       ·have hi:∃i,P.info? et=some i:=by
         cases hi:P.info? et with
         | some i=>exact ⟨i,rfl⟩
         | none=>exfalso;have:=JA.gV;simp [Program.cellsOf,hi] at hs;omega
        obtain ⟨inf,hi⟩:=hi
        rw [hvv,e1]
        refine ⟨_,_,rfl,mA ht hi _ xs.length cap ik n yL.1 yL.2,?_⟩
        simp only [av]
        refine ⟨_,rfl,fun _ => ?_⟩
        rw [e1,hs,cf];simp [QK]
     ·cases he
    ·cases he
   ·cases he
theorem rH{t:TypeId}(h:P.cellsOf t≠0):∃i,P.info? t=some i:=by
 cases hi:P.info? t with
 | some i=>exact ⟨i,rfl⟩
 | none=>exact absurd (by simp [Program.cellsOf,hi]) h
theorem rI{t:TypeId}{f n:Nat}{ft:TypeId}(hf:gj P t f=some (n,ft))(hc:P.cellsOf ft≠0)(a:Addr) :
  (Instr.fieldAt t (.pointer (some a)) f).run P w=.ok (.pointer (some (a.add n))) w:=by
 unfold gj at hf
 split at hf
 ·rename_i fs ht
  obtain ⟨fd,hfd,he⟩:=Option.map_eq_some_iff.1 hf
  cases he
  obtain ⟨i,hi⟩:=rH hc
  have hs:=di (P:=P) (w:=w) hi
  simp only [Instr.fieldAt,Sem.run_bind,run_underlying ht,Result.andThen_ok,hfd,Instr.sureAddr,Sem.run_pure,fieldPlace,hs]
  rw [if_neg hc]
  rfl
 ·cases hf
theorem rJ{t:TypeId}{f n:Nat}{ft:TypeId}(hf:gj P t f=some (n,ft))(hc:P.cellsOf ft≠0){id s i off:Nat}{v:Value}(hv:av Z ψ h w (.ref id s i off) v) :
  ∃V,(Instr.fieldAt t v f).run P w=.ok V w∧av Z ψ h w (.ref id s i (off+n)) V:=by
 simp only [av] at hv ⊢
 obtain ⟨a,rfl,ha⟩:=hv
 refine ⟨_,rI hf hc a,_,rfl,fun bO => ?_⟩
 rw [ha bO,cf,Nat.add_assoc]
theorem tC{t:TypeId}{f n:Nat}{ft:TypeId}(hf:gj P t f=some (n,ft))(hc:P.cellsOf ft≠0){k:K}{x:k.T}{off:Nat}{v:Value}(hv:av Z ψ h w (.fp k x off) v) :
  ∃V,(Instr.fieldAt t v f).run P w=.ok V w∧av Z ψ h w (.fp k x (off+n)) V:=by
 simp only [av] at hv ⊢
 obtain ⟨a,us,rfl,hz,hr,Cb⟩:=hv
 refine ⟨_,rI hf hc a,_,us,rfl,by rw [cq];exact hz,hr,fun j u hu => ?_⟩
 rw [tq]
 exact Cb (n+j) u (by rw [←Nat.add_assoc];exact hu)
theorem E4{t ft:TypeId}{f n:Nat}(hf:gj P t f=some (n,ft)){cs:List AV}{x:AV}{v:Value}(hv:av Z ψ h w (.agg cs) v)(hx:dN P ft (cs.drop n)=some x) :
  ∃V,(Instr.field t v f).run P w=.ok V w∧av Z ψ h w x V:=by
 simp only [av] at hv
 obtain ⟨vs,rfl,hl⟩:=hv
 have hd:=hl.drop n
 have hlen:=hd.length
 unfold gj at hf
 split at hf
 ·rename_i fs ht
  obtain ⟨fd,hfd,he⟩:=Option.map_eq_some_iff.1 hf
  cases he
  unfold dN at hx
  split at hx
  ·rename_i hb
   split at hx
   ·rename_i hle
    cases hx
    obtain ⟨i,hi⟩:=wm hb
    refine ⟨.agg (vs.extract fd.offset (fd.offset+P.cellsOf fd.type)),?_,?_⟩
    ·simp [Instr.field,run_underlying ht,hfd,asAgg,part,fF hb,di hi]
    ·simp only [av]
     refine ⟨_,rfl,?_⟩
     rw [Array.toList_extract,List.extract_eq_take_drop,Nat.add_sub_cancel_left]
     exact hd.take _
   ·cases hx
  ·rename_i hb
   split at hx
   ·rename_i c r hcr
    cases hx
    rw [hcr] at hd
    simp only [an] at hd
    obtain ⟨u,us,hu,h1,_⟩:=hd
    refine ⟨u,?_,h1⟩
    have hg:vs[fd.offset]? = some u:=by
     have:(vs.toList.drop fd.offset)[0]? = some u:=by rw [hu];rfl
     rw [List.getElem?_drop] at this;simpa using this
    simp [Instr.field,run_underlying ht,hfd,asAgg,part,fF hb,hg]
   ·cases hx
  ·cases hx
 ·cases hf
theorem KN{hh:Heap}(g:Good Z ψ h w B0 O)(br:∀id o,hh.get id=some o→h id=some o){x:AV}{v:Value}{e:bE}(hv:av Z ψ h w x v)(he:B7 hh x some=some e) :
  ∃n:Nat,e=.val (.int .i64 (n:Int))∧((∃s,x=.str s∧v=.string s∧n=s.size)∨∃A c,v=.slice A n c):=by
 unfold B7 at he
 split at he
 ·rename_i s hs
  cases he
  have hx:x=.str s:=by
   cases x with
   | bF id=>simp only [cC] at hs;split at hs<;>cases hs
   | str s'=>simp only [cC] at hs;exact hs
   | _=>simp only [cC] at hs<;>cases hs
  subst hx
  simp only [av] at hv
  exact ⟨_,rfl,.inl ⟨s,rfl,hv,rfl⟩⟩
 ·rename_i ex k xs hs
  cases he
  have MS:=Ca (Z':=fun b=>Z b∨Own ψ h b) (g.sub br) (fun b hb=>.inl hb) (fun id b _ bh hb=>.inr (by
   obtain ⟨o,ho⟩:=Option.ne_none_iff_exists'.1 bh
   exact ⟨id,by rw [br id o ho];simp,hb⟩)) (hv.oW br)
  rw [hs] at MS
  simp only [av,aE] at MS
  obtain ⟨⟨v',yN,A,c,rfl,_⟩,_⟩:=MS
  cases yN
  exact ⟨_,rfl,.inr ⟨A,c,rfl⟩⟩
 ·rename_i hs
  cases he
  have hx:x=.fB:=by
   cases x with
   | bF id=>simp only [cC] at hs;split at hs<;>cases hs
   | fB=>rfl
   | _=>simp only [cC] at hs<;>cases hs
  subst hx
  simp only [av] at hv
  exact ⟨0,rfl,.inr ⟨_,_,hv⟩⟩
 ·cases he
def dL(Z:Nat→Prop)(ψ:Nat→Value)(h:Hp)(w:World):Option AV→Option Value→Prop
 | none,none=>True
 | some a,some v=>av Z ψ h w a v
 | _,_=>False
theorem cd(k:IntKind)(i:Int)(y:Nat)(code:BoundsCode)(h0:0≤i)(h1:i≤y):(Instr.sliceBound (.int k i) y code).run P w=.ok i.toNat w:=by
 simp [Instr.sliceBound,asIntOf,h0,h1]
theorem sE{b:Bool}{n c:Nat}(hc:n≤c){lo hi mx:Option AV}{H3 su mx':Option Value}{l u:Int}(h1:dL Z ψ h w lo H3)(h2:dL Z ψ h w hi su)(h3:dL Z ψ h w mx mx')
  (hb:kW n lo hi=some (l,u)) (ho:aW n l u=true) (hm:mx=none∨(mx=some (.int .i64 u)∧hi≠none)) :
  (Instr.sliceBounds b n c H3 su mx').run P w=.ok (l.toNat,u.toNat,if mx=none then c else u.toNat) w:=by
 simp only [aW,Bool.and_eq_true,decide_eq_true_eq] at ho
 obtain ⟨h4,h5,h6⟩:=ho
 have huc:u≤(c:Int):=by omega
 unfold kW at hb
 rcases hm with rfl | ⟨rfl,bh⟩
 ·cases mx' with
  | some _=>exact h3.elim
  | none =>
   split at hb
   all_goals first | (cases hb;done) | skip
   ·cases hb
    cases H3 with
    | some _=>exact h1.elim
    | none =>
     cases su with
     | some _=>exact h2.elim
     | none=>simp [Instr.sliceBounds]
   ·cases hb
    cases H3 with
    | none=>exact h1.elim
    | some v =>
     simp only [dL,av] at h1
     subst h1
     cases su with
     | some _=>exact h2.elim
     | none=>simp [Instr.sliceBounds,cd .i64 l n _ h4 h5]
   ·cases hb
    cases H3 with
    | some _=>exact h1.elim
    | none =>
     cases su with
     | none=>exact h2.elim
     | some v =>
      simp only [dL,av] at h2
      subst h2
      cases b<;>simp [Instr.sliceBounds,cd .i64 u c _ (by omega) huc]
   ·cases hb
    cases H3 with
    | none=>exact h1.elim
    | some v =>
     simp only [dL,av] at h1
     subst h1
     cases su with
     | none=>exact h2.elim
     | some v =>
      simp only [dL,av] at h2
      subst h2
      have hx:l≤((u.toNat:Nat):Int):=by omega
      cases b<;>simp [Instr.sliceBounds,cd .i64 u c _ (by omega) huc,cd .i64 l u.toNat _ h4 hx]
 ·cases mx' with
  | none=>exact h3.elim
  | some m =>
   simp only [dL,av] at h3
   subst h3
   have huu:u≤((u.toNat:Nat):Int):=by omega
   have hx:l≤((u.toNat:Nat):Int):=by omega
   split at hb
   all_goals first | (cases hb;done) | skip
   ·exact absurd rfl bh
   ·exact absurd rfl bh
   ·cases hb
    cases H3 with
    | some _=>exact h1.elim
    | none =>
     cases su with
     | none=>exact h2.elim
     | some v =>
      simp only [dL,av] at h2
      subst h2
      cases b<;>simp [Instr.sliceBounds,cd .i64 u c _ (by omega) huc,cd .i64 u u.toNat _ (by omega) huu]
   ·cases hb
    cases H3 with
    | none=>exact h1.elim
    | some v =>
     simp only [dL,av] at h1
     subst h1
     cases su with
     | none=>exact h2.elim
     | some v =>
      simp only [dL,av] at h2
      subst h2
      cases b<;>simp [Instr.sliceBounds,cd .i64 u c _ (by omega) huc,cd .i64 u u.toNat _ (by omega) huu,cd .i64 l u.toNat _ h4 hx]
theorem nR{t e:TypeId}(ht:P.underlying t=some (.slice e)){kk:K}(ia:P.cellsOf e=kk.sz){xs:List kk.T}{v:Value}(hr:aE Z w (.sl kk) xs [v]){lo hi mx:Option AV}{H3 su mx':Option Value}{l u:Int}
  (h1:dL Z' ψ h w lo H3) (h2:dL Z' ψ h w hi su) (h3:dL Z' ψ h w mx mx') (hb:kW xs.length lo hi=some (l,u)) (ho:aW xs.length l u=true) (hm:mx=none∨(mx=some (.int .i64 u)∧hi≠none)) :
  ∃V,(Instr.sliceAt t v H3 su mx').run P w=.ok V w∧aE Z w (.sl kk) (cut xs l u) [V]∧(mx≠none→∃A c,V=.slice A c c):=by
 simp only [aE] at hr
 obtain ⟨v',yN,A,c,rfl,hl,hn,HC⟩:=hr
 cases yN
 have da:=sE (P:=P) (w:=w) (b:=true) hl h1 h2 h3 hb ho hm
 simp only [aW,Bool.and_eq_true,decide_eq_true_eq] at ho
 obtain ⟨h4,h5,h6⟩:=ho
 obtain ⟨i,hi⟩:=rH (P:=P) (t:=e) (by have:=kk.gV;omega)
 generalize Mu:(if mx=none then c else u.toNat)=m at da
 have hmu:u.toNat≤m:=by
  rcases hm with rfl | ⟨rfl,_⟩
  ·simp at Mu;omega
  ·simp at Mu;omega
 have hmc:m≤c:=by
  rcases hm with rfl | ⟨rfl,_⟩
  ·simp at Mu;omega
  ·simp at Mu;omega
 have te:(cut xs l u).length=u.toNat - l.toNat:=by
  unfold cut;rw [List.length_drop,List.length_take];omega
 refine ⟨.slice (if m=l.toNat then A else A.map (·.add (l.toNat * P.cellsOf e))) (u.toNat - l.toNat) (m - l.toNat),?_,?_,?_⟩
 ·simp [Instr.sliceAt,Instr.slice,run_underlying ht,da,di hi]
 ·simp only [aE]
  refine ⟨_,rfl,_,_,by rw [te],by rw [te];omega,fun hA => ?_,fun j x hx => ?_⟩
  ·split at hA
   ·have:=hn hA;omega
   ·cases A with
    | none=>have:=hn rfl;omega
    | some a=>cases hA
  ·have hj:j<u.toNat - l.toNat:=by rw [←te];exact (List.getElem?_eq_some_iff.1 hx).1
   have Ws:xs[l.toNat+j]? = some x:=by
    unfold cut at hx
    rw [List.getElem?_drop,List.getElem?_take,if_pos (by omega)] at hx
    exact hx
   obtain ⟨a,us,rfl,hz,hr,hc⟩:=HC _ _ Ws
   refine ⟨a.add (l.toNat * P.cellsOf e),us,by rw [if_neg (by omega)];rfl,by rw [cq];exact hz,hr,fun q y hy => ?_⟩
   rw [tq,ia]
   have:=hc q y hy
   rw [Nat.add_mul] at this
   rw [←Nat.add_assoc];exact this
 ·intro bh
  rcases hm with rfl | ⟨rfl,_⟩
  ·exact absurd rfl bh
  ·simp at Mu
   exact ⟨_,_,by rw [←Mu]⟩
theorem E5{hh:Heap}(g:Good Z ψ h w B0 O)(br:∀id o,hh.get id=some o→h id=some o){t e:TypeId}(ht:P.underlying t=some (.slice e)){x:AV}{v:Value}{lo hi mx:Option AV}{H3 su mx':Option Value}{ef:bE}
  (hv:av Z ψ h w x v) (h1:dL Z ψ h w lo H3) (h2:dL Z ψ h w hi su) (h3:dL Z ψ h w mx mx') (lS:∀y hw,ef=.wr y hw→hh.get=h) (he:qx hh (P.cellsOf e) x lo hi mx some=some ef) (TP:(P.info? e).isSome=true) :
  ∃V Z',(Instr.sliceAt t v H3 su mx').run P w=.ok V w∧Next Z ψ h w B0 O N Z' ψ (ef.hp h) w∧av Z' ψ (ef.hp h) w ef.v V:=by
 unfold qx at he
 split at he
 ·
  simp only [av] at hv
  subst hv
  split at he
  ·rename_i l u hb
   cases ho:aW 0 l u with
   | false=>rw [ho] at he;cases he
   | true =>
    rw [ho] at he
    cases he
    have da:=sE (P:=P) (w:=w) (b:=true) (Nat.le_refl 0) h1 h2 h3 hb ho (.inl rfl)
    simp only [aW,Bool.and_eq_true,decide_eq_true_eq] at ho
    have hl0:l.toNat=0:=by omega
    have hu0:u.toNat=0:=by omega
    obtain ⟨i,hi⟩:=Option.isSome_iff_exists.1 TP
    refine ⟨.slice none 0 0,Z,?_,Next.refl g,by simp only [bE.v,av]⟩
    rw [hl0,hu0] at da
    simp [Instr.sliceAt,Instr.slice,run_underlying ht,da,di hi]
  ·cases he
 ·
  rename_i ex kk xs
  simp only [av] at hv
  split at he
  ·rename_i ia
   split at he
   ·rename_i l u hb
    split at he
    ·cases ho:aW xs.length l u with
     | false=>rw [ho] at he;cases he
     | true =>
      rw [ho] at he
      cases he
      obtain ⟨V,h4,h5,_⟩:=nR (P:=P) ht ia hv.1 h1 h2 h3 hb ho (.inl rfl)
      exact ⟨V,Z,h4,Next.refl g,by simp only [bE.v,bE.hp,av];exact ⟨h5,by simp⟩⟩
    ·rename_i m
     cases ho:(aW xs.length l u&&(hi.isSome&&decide (m=u))) with
     | false=>rw [ho] at he;cases he
     | true =>
      rw [ho] at he
      cases he
      simp only [Bool.and_eq_true,decide_eq_true_eq] at ho
      obtain ⟨ho,Wt,rfl⟩:=ho
      obtain ⟨V,h4,h5,h6⟩:=nR (P:=P) ht ia hv.1 h1 h2 h3 hb ho (.inr ⟨rfl,by intro e;rw [e] at Wt;cases Wt⟩)
      exact ⟨V,Z,h4,Next.refl g,by simp only [bE.v,bE.hp,av];exact ⟨h5,fun _=>h6 (by simp)⟩⟩
    ·cases he
   ·cases he
  ·cases he
 ·
  rename_i id
  split at he
  ·rename_i ty kk xs hg
   have uN:=br _ _ hg
   have hvv:=hv
   simp only [av] at hvv
   have abd:=hvv.2 (by rw [uN];simp)
   obtain ⟨vs,MT,tD⟩:=g.row id (.row ty kk) xs uN
   let Z1:Nat→Prop:=fun b=>Z b∨ob (ψ id)=some b
   have hd:aE Z1 w (.sl kk) xs [v]:=by rw [abd];exact tv MT tD (fun b hb=>.inl hb) (fun b hb=>.inr hb)
   have Sx:∀hw:Hp,hw=dK h id none→Next Z ψ h w B0 O N Z1 ψ hw w:=by
    rintro hw rfl
    have hs:∀i o,dK h id none i=some o→h i=some o:=fun i o hi=>by
     by_cases e:i=id
     ·subst e;rw [ba] at hi;cases hi
     ·rwa [cJ _ _ e] at hi
    have gg:=g.freeze hs (fun b hb=>.inl hb) (fun b (hb:Z1 b)=>hb.imp (fun h=>h) (fun hb=>⟨id,by rw [uN];simp,ba _ _ _,hb⟩))
    refine ⟨fun b hb=>.inl hb,fun b hb=>hb.imp (fun h=>h) (fun hb=>.inl ⟨id,by rw [uN];simp,hb⟩),cS.refl _ _ _,fun i hi => ?_,gg⟩
    obtain ⟨o,ho⟩:=Option.ne_none_iff_exists'.1 hi
    exact .inl ⟨by rw [hs i o ho];simp,rfl⟩
   have MO:dL Z ψ h w lo H3:=h1
   split at he
   ·rename_i ia
    split at he
    ·rename_i l u hb
     split at he
     ·cases ho:aW xs.length l u with
      | false=>rw [ho] at he;cases he
      | true =>
       rw [ho] at he
       cases he
       have heq:=lS _ _ rfl
       obtain ⟨V,h4,h5,_⟩:=nR (P:=P) ht ia hd h1 h2 h3 hb ho (.inl rfl)
       exact ⟨V,Z1,h4,Sx _ (by simp only [bE.hp];rw [tB,heq]),by simp only [bE.v,bE.hp,av];exact ⟨h5,by simp⟩⟩
     ·rename_i m
      cases ho:(aW xs.length l u&&(hi.isSome&&decide (m=u))) with
      | false=>rw [ho] at he;cases he
      | true =>
       rw [ho] at he
       cases he
       have heq:=lS _ _ rfl
       simp only [Bool.and_eq_true,decide_eq_true_eq] at ho
       obtain ⟨ho,Wt,rfl⟩:=ho
       obtain ⟨V,h4,h5,h6⟩:=nR (P:=P) ht ia hd h1 h2 h3 hb ho (.inr ⟨rfl,by intro e;rw [e] at Wt;cases Wt⟩)
       exact ⟨V,Z1,h4,Sx _ (by simp only [bE.hp];rw [tB,heq]),by simp only [bE.v,bE.hp,av];exact ⟨h5,fun _=>h6 (by simp)⟩⟩
     ·cases he
    ·cases he
   ·cases he
  ·cases he
 ·cases he
end Go.Vs
set_option linter.unusedSimpArgs false
set_option linter.unusedVariables false
namespace Go.Vs
variable {P:Program} {Z Z':Nat→Prop} {ψ ψ':Nat→Value} {h h':Hp} {w w':World} {B0:Nat} {O:Nat→Prop} {N:Nat→Prop}
def k0(P:Program)(t:TypeId)(k:K):Prop :=
 ∀(Z:Nat→Prop) (w:World) (x y:k.T) (xs ys:Array Value),aE Z w k x xs.toList→aE Z w k y ys.toList →
  (Op.equal t (.agg xs) (.agg ys)).run P w=.ok (qv k x y) w∧(∀(op:BinOp) (a b:Operand),(eqGuard op t a b (.agg xs) (.agg ys)).run P w=.ok () w)∧∀e:Bool,(Instr.checkKey e 10000 t (.agg xs)).run P w=.ok () w
theorem uZ(op:BinOp)(t:TypeId)(a b:Operand)(k k':IntKind)(x y:Int):(eqGuard op t a b (.int k x) (.int k' y)).run P w=.ok () w:=by cases op<;>simp [eqGuard]
theorem KO(op:BinOp)(t:TypeId)(a b:Operand)(x y:ByteArray):(eqGuard op t a b (.string x) (.string y)).run P w=.ok () w:=by cases op<;>simp [eqGuard]
theorem H4(op:BinOp)(t:TypeId)(a b:Operand)(x y:Bool):(eqGuard op t a b (.bool x) (.bool y)).run P w=.ok () w:=by cases op<;>simp [eqGuard]
theorem Ce(op:BinOp)(t:TypeId)(a b:Operand)(x y:Option Addr):(eqGuard op t a b (.pointer x) (.pointer y)).run P w=.ok () w:=by cases op<;>simp [eqGuard]
def bP:AV→Value
 | .bool b=>.bool b
 | .int k n=>.int k n
 | .str s=>.string s
 | _=>undef
theorem jr(k:IntKind)(n:Int):av Z ψ h w (.int k n) (bP (.int k n)):=by simp only [av,bP]
theorem dR(b:Bool):av Z ψ h w (.bool b) (bP (.bool b)):=by simp only [av,bP]
theorem jJ{t e:TypeId}(ht:P.underlying t=some (.pointer e))(a:Option Addr):(Op.equal t (.pointer a) (.pointer none)).run P w=.ok a.isNone w:=by
 have key:∀d,(Op.equalIn (d+1) t (.pointer a) (.pointer none)).run P w=.ok a.isNone w:=fun d=>by
  cases a<;>simp [Op.equalIn,run_underlying ht]
 exact key 9999
theorem MU{op:BinOp}{t:TypeId}{k:IntKind}{a b:Int}{v:AV}(hv:TE op k a b=some v):∃V,(binOp op t (.int k a) (.int k b)).run P w=.ok V w∧av Z ψ h w v V:=by
 cases op<;>simp only [TE] at hv<;>cases hv<;>first
  | (refine ⟨bP (.int _ _),?_,jr _ _⟩;simp [binOp,Op.intArith,Op.intCmp,bP];done)
  | (refine ⟨bP (.bool _),?_,dR _⟩;simp [binOp,Op.intArith,Op.intCmp,bP];done)
  | (refine ⟨bP (.int _ _),?_,jr _ _⟩;simp only [binOp,bP,ne_eq,not_true_eq_false,if_false];rfl)
theorem KP{Eqs:TypeId→Option K}(Bp:∀t k,Eqs t=some k→k0 P t k){op:BinOp}{t:TypeId}{xo yo:Operand}{x y:AV}{u v:Value}{e:bE}(hu:av Z ψ h w x u)(hv:av Z ψ h w y v)(he:we P Eqs op t x y some=some e) :
  ∃r V,e=.val r∧((do eqGuard op t xo yo u v;binOp op t u v:Sem Value)).run P w=.ok V w∧av Z ψ h w r V:=by
 unfold we at he
 split at he
 ·rename_i k a k' b
  simp only [av] at hu hv
  subst hu;subst hv
  split at he
  ·cases hb:decide (b<0) with
   | true=>rw [hb] at he;cases he
   | false =>
    rw [hb] at he;cases he
    have TQ:¬b<0:=by simpa using hb
    exact ⟨_,bP (.int _ _),rfl,by simp [uZ,binOp,Op.shift,TQ,bP,Wh],jr _ _⟩
  ·cases hb:decide (b<0) with
   | true=>rw [hb] at he;cases he
   | false =>
    rw [hb] at he;cases he
    have TQ:¬b<0:=by simpa using hb
    exact ⟨_,bP (.int _ _),rfl,by simp [uZ,binOp,Op.shift,TQ,bP,kz],jr _ _⟩
  split at he
  ·rename_i hk
   subst hk
   simp only [Sem.run_bind,uZ,Result.andThen_ok]
   split at he
   ·cases hb:(b==0) with
    | true=>rw [hb] at he;cases he
    | false =>
     rw [hb] at he;cases he
     have TQ:b≠0:=by simpa using hb
     exact ⟨_,bP (.int _ _),rfl,by simp [binOp,Op.intDiv,TQ,bP],jr _ _⟩
   ·cases hb:(b==0) with
    | true=>rw [hb] at he;cases he
    | false =>
     rw [hb] at he;cases he
     have TQ:b≠0:=by simpa using hb
     exact ⟨_,bP (.int _ _),rfl,by simp [binOp,Op.intDiv,TQ,bP],jr _ _⟩
   ·split at he
    ·rename_i v hv
     cases he
     obtain ⟨V,h1,h2⟩:=MU (P:=P) (t:=t) (w:=w) (Z:=Z) (ψ:=ψ) (h:=h) hv
     exact ⟨_,V,rfl,h1,h2⟩
    ·cases he
  ·cases he
 ·rename_i a b
  simp only [av] at hu hv
  subst hu;subst hv
  simp only [Sem.run_bind,KO,Result.andThen_ok]
  cases op<;>simp only [Wi] at he<;>first | (cases he;done) | (cases he;exact ⟨_,bP (.bool _),rfl,by simp [binOp,Op.stringOp,←beq_toListBytes,bP],dR _⟩)
 ·rename_i a b
  simp only [av] at hu hv
  subst hu;subst hv
  simp only [Sem.run_bind,H4,Result.andThen_ok]
  have key:(P.underlying t).map Dn=some true→P.underlying t=some .bool:=fun hm=>by
   obtain ⟨d,hd,he⟩:=Option.map_eq_some_iff.1 hm
   cases d<;>simp [Dn] at he
   exact hd
  split at he
  ·rename_i hm
   cases he
   exact ⟨_,bP (.bool _),rfl,by simp [binOp,Op.equal,Op.maxDepth,run_equalIn_bool' (P:=P) w 9999 t a b (key hm),bP],dR _⟩
  ·rename_i hm
   cases he
   exact ⟨_,bP (.bool _),rfl,by simp [binOp,Op.equal,Op.maxDepth,run_equalIn_bool' (P:=P) w 9999 t a b (key hm),bP],dR _⟩
  ·cases he
 ·rename_i a b
  split at he
  ·cases he
  ·rename_i k hk
   simp only [av] at hu hv
   obtain ⟨xs,rfl,hx⟩:=hu
   obtain ⟨ys,rfl,hy⟩:=hv
   split at he
   ·rename_i x y hdx hdy
    cases he
    obtain ⟨h1,h2,_⟩:=Bp t k hk Z w x y xs ys (dt hdx hx) (dt hdy hy)
    exact ⟨_,bP (.bool _),rfl,by simp only [Sem.run_bind,h2,Result.andThen_ok,binOp,h1,Sem.run_pure,bP],dR _⟩
   ·rename_i x y hdx hdy
    cases he
    obtain ⟨h1,h2,_⟩:=Bp t k hk Z w x y xs ys (dt hdx hx) (dt hdy hy)
    exact ⟨_,bP (.bool _),rfl,by simp only [Sem.run_bind,h2,Result.andThen_ok,binOp,h1,Sem.run_pure,bP],dR _⟩
   ·cases he
 ·simp only [av] at hu hv
  subst hu;subst hv
  have key:(P.underlying t).map uT=some true→∃e,P.underlying t=some (.pointer e):=fun hm=>by
   obtain ⟨d,hd,he⟩:=Option.map_eq_some_iff.1 hm
   cases d<;>simp [uT] at he
   exact ⟨_,hd⟩
  simp only [Sem.run_bind,Ce,Result.andThen_ok]
  split at he
  ·rename_i hm
   cases he
   obtain ⟨et,ht⟩:=key hm
   exact ⟨_,bP (.bool _),rfl,by simp only [binOp,Sem.run_bind,jJ ht,Result.andThen_ok,Sem.run_pure,bP,Option.isNone_none,Option.isNone_some,Bool.not_true,Bool.not_false],dR _⟩
  ·rename_i hm
   cases he
   obtain ⟨et,ht⟩:=key hm
   exact ⟨_,bP (.bool _),rfl,by simp only [binOp,Sem.run_bind,jJ ht,Result.andThen_ok,Sem.run_pure,bP,Option.isNone_none,Option.isNone_some,Bool.not_true,Bool.not_false],dR _⟩
  ·cases he
 ·simp only [av] at hu hv
  obtain ⟨a,rfl,_⟩:=hu
  subst hv
  have key:(P.underlying t).map uT=some true→∃e,P.underlying t=some (.pointer e):=fun hm=>by
   obtain ⟨d,hd,he⟩:=Option.map_eq_some_iff.1 hm
   cases d<;>simp [uT] at he
   exact ⟨_,hd⟩
  simp only [Sem.run_bind,Ce,Result.andThen_ok]
  split at he
  ·rename_i hm
   cases he
   obtain ⟨et,ht⟩:=key hm
   exact ⟨_,bP (.bool _),rfl,by simp only [binOp,Sem.run_bind,jJ ht,Result.andThen_ok,Sem.run_pure,bP,Option.isNone_none,Option.isNone_some,Bool.not_true,Bool.not_false],dR _⟩
  ·rename_i hm
   cases he
   obtain ⟨et,ht⟩:=key hm
   exact ⟨_,bP (.bool _),rfl,by simp only [binOp,Sem.run_bind,jJ ht,Result.andThen_ok,Sem.run_pure,bP,Option.isNone_none,Option.isNone_some,Bool.not_true,Bool.not_false],dR _⟩
  ·cases he
 ·cases he
theorem KQ{a:AV}{v:Value}(hp:uR a=true)(hr:av Z ψ h w a v):v.oneCell'=true:=by
 cases a with
 | no=>cases hp
 | agg cs=>cases hp
 | mJ cs=>cases hp
 | bool b=>simp only [av] at hr;subst hr;rfl
 | int k n=>simp only [av] at hr;subst hr;rfl
 | str s=>simp only [av] at hr;subst hr;rfl
 | kU=>simp only [av] at hr;subst hr;rfl
 | fB=>simp only [av] at hr;subst hr;rfl
 | ref id s i off=>simp only [av] at hr;obtain ⟨a,rfl,_⟩:=hr;rfl
 | fp k x off=>simp only [av] at hr;obtain ⟨a,us,rfl,_⟩:=hr;rfl
 | sl ex k xs=>simp only [av,aE] at hr;obtain ⟨⟨v',hv,A,c,rfl,_⟩,_⟩:=hr;cases hv;rfl
 | bF id=>simp only [av] at hr;exact hr.1.2
 | mp kk vk es=>simp only [av,aE] at hr;obtain ⟨A,hv,_⟩:=hr;cases hv;rfl
 | fn f cap=>simp only [av] at hr;obtain ⟨vs,rfl,_⟩:=hr;rfl
theorem sF:∀{cs:List AV} {vs:List Value},cs.all uR=true→an Z ψ h w cs vs→∀u∈vs,u.oneCell'=true
 | [],_,_,hr,u,hu=>by simp only [an] at hr;subst hr;simp at hu
 | c::r,_,hp,hr,u,hu=>by
  simp only [List.all_cons,Bool.and_eq_true] at hp
  simp only [an] at hr
  obtain ⟨v,us,rfl,h1,h2⟩:=hr
  rcases List.mem_cons.1 hu with rfl | hu
  ·exact KQ hp.1 h1
  ·exact sF hp.2 h2 u hu
theorem E6{a:AV}(hp:a.cells.all uR=true):a≠.no:=by rintro rfl;simp [AV.cells,uR] at hp
theorem qG{id:Nat}:∀{cs:List AV},HO id cs=true→AV.bF id∉cs
 | [],_=>by simp
 | c::r,hn=>by
  intro hm
  cases c with
  | bF i =>
   simp only [HO,Bool.and_eq_true,Bool.not_eq_true',beq_eq_false_iff_ne] at hn
   rcases List.mem_cons.1 hm with e | hm
   ·cases e;exact hn.1 rfl
   ·exact qG hn.2 hm
  | _ =>
   simp only [HO] at hn
   rcases List.mem_cons.1 hm with e | hm
   ·cases e
   ·exact qG hn hm
theorem wu{hh:Heap}(g:Good Z ψ hh.get w B0 O){t:TypeId}{a x:AV}{u v:Value}{e:bE}(hu:av Z ψ hh.get w a u)(hv:av Z ψ hh.get w x v)(he:qw P hh t a x some=some e) :
  ∃hw w' Z',e=.wr .no hw∧(Instr.storeAt t u v).run P w=.ok () w'∧Next Z ψ hh.get w B0 O N Z' ψ hw.get w':=by
 unfold qw at he
 split at he
 ·rename_i hc
  obtain ⟨hlen,QQ,pO⟩:=hc
  obtain ⟨inf,QQ⟩:=Option.isSome_iff_exists.1 QQ
  have Mr:=hv.cells (E6 pO)
  have Dz:=sF pO Mr
  have te:=Mr.length
  simp only [Array.length_toList] at te
  split at he
  ·rename_i id s i off
   simp only [av] at hu
   obtain ⟨a,rfl,ha⟩:=hu
   split at he
   ·rename_i ty cs hg
    split at he
    ·rename_i hc
     obtain ⟨rfl,Wu⟩:=hc
     cases he
     have EV:=ha (by rw [hg];simp)
     obtain ⟨w',h1,h2⟩:=yE (P:=P) (N:=N) g hg QQ Mr Dz (by omega) Wu (a:=a) (by rw [EV];simp)
     exact ⟨_,w',Z,rfl,h1,by rw [lR];exact h2⟩
    ·cases he
   ·rename_i ty kk xs hg
    obtain ⟨y,hx,Qo⟩:=Option.bind_eq_some_iff.1 he
    clear he
    split at Qo
    ·rename_i hc
     obtain ⟨rfl,Wu,pN⟩:=hc
     split at Qo
     ·rename_i z hz
      cases Qo
      have EV:=ha (by rw [hg];simp)
      have bO:=qG pN
      have gd:=gX g x.cells
      have hgd:(cy hh x.cells).get id=some (.own (.row ty kk) xs):=by rw [nO _ _ _ bO];exact hg
      have TR:=mS (Z':=o8 Z ψ hh.get x.cells) g (fun b hb=>.inl hb) (fun i b hm bh hb=>.inr ⟨i,hm,bh,hb⟩) Mr
      obtain ⟨w',h1,h2⟩:=yG (P:=P) (N:=N) gd hgd QQ hx (y:=z) (off:=off) (V:=v) (by omega) (by omega) (a:=a) EV (fun us VM=>by
       have h3:=(gM (ψ:=ψ) (h:=hh.get) VM)
       have h4:=dt hz (TR.dJ off h3)
       rwa [qE _ _ _ (by rw [Array.length_toList,VM.len];omega),Array.length_toList] at h4) Dz
      refine ⟨_,w',o8 Z ψ hh.get x.cells,rfl,h1,?_⟩
      rw [show ((stored hh x.cells).2.set id (.own (.row ty kk) (xs.set i z))).get=dK (cy hh x.cells).get id (some (.own (.row ty kk) (xs.set i z))) from lR _ _ _]
      exact h2.drop (fun b hb=>.inl hb) (fun b hb=>hb.imp (fun h=>h) (fun ⟨i,_,h5,h6⟩=>⟨i,h5,h6⟩)) (dO _ _)
     ·cases Qo
    ·cases Qo
   ·cases he
  ·cases he
 ·cases he
end Go.Vs
namespace Go.Vs
variable {P:Program} {Z Z':Nat→Prop} {ψ ψ':Nat→Value} {h h':Hp} {w w':World} {B0:Nat} {O:Nat→Prop} {N:Nat→Prop}
theorem MV{a:AV}{v:Value}(ha:a.isAgg=true)(hr:av Z ψ h w a v):∃vs,v=.agg vs:=by
 cases a<;>simp [AV.isAgg] at ha
 simp only [av] at hr
 obtain ⟨vs,rfl,_⟩:=hr
 exact ⟨vs,rfl⟩
theorem Cf{a:AV}{v:Value}(ha:a.isAgg=false)(pN:a≠.no)(hr:av Z ψ h w a v):v.cells=#[v]:=by
 cases a with
 | no=>exact absurd rfl pN
 | agg cs=>simp [AV.isAgg] at ha
 | bool b=>simp only [av] at hr;subst hr;rfl
 | int k n=>simp only [av] at hr;subst hr;rfl
 | str s=>simp only [av] at hr;subst hr;rfl
 | kU=>simp only [av] at hr;subst hr;rfl
 | fB=>simp only [av] at hr;subst hr;rfl
 | ref id s i off=>simp only [av] at hr;obtain ⟨a,rfl,_⟩:=hr;rfl
 | fp k x off=>simp only [av] at hr;obtain ⟨a,us,rfl,_⟩:=hr;rfl
 | sl ex k xs=>simp only [av,aE] at hr;obtain ⟨⟨v',hv,A,c,rfl,_⟩,_⟩:=hr;cases hv;rfl
 | bF id=>simp only [av] at hr;exact hr.1.1
 | mp kk vk es=>simp only [av,aE] at hr;obtain ⟨A,hv,_⟩:=hr;cases hv;rfl
 | fn f cap=>simp only [av] at hr;obtain ⟨vs,rfl,_⟩:=hr;rfl
 | mJ cs=>simp only [av] at hr;obtain ⟨vs,rfl,_⟩:=hr;rfl
theorem sG{hh:Heap}{k:K}{a:AV}{x:k.T}{v:Value}(g:Good Z ψ hh.get w B0 O)(hz:∀b,Z b→Z' b)(hb:∀id b,AV.bF id∈a.cells→hh.get id≠none→ob (ψ id)=some b→Z' b)
  (hx:fm k hh a=some x) (hr:av Z ψ hh.get w a v):aE Z' w k x v.cells.toList∧(k.isAgg=true→∃vs,v=.agg vs)∧(k.isAgg=false→v.cells=#[v]):=by
 unfold fm at hx
 split at hx
 ·rename_i Sy
  have pN:=Cd hx
  have hv:=mS g hz hb (hr.cells pN)
  exact ⟨dt hx hv,fun h=>MV (by rw [←Sy];exact h) hr,fun h=>Cf (by rw [←Sy];exact h) pN hr⟩
 ·cases hx
theorem qH{hh:Heap}{k:K}{a:AV}{x:k.T}{v:Value}(g:Good Z ψ hh.get w B0 O)(hz:∀b,Z b→Z' b)(hb:∀id b,AV.bF id∈a.cells→hh.get id≠none→ob (ψ id)=some b→Z' b)
  (hx:fm k hh a=some x) (hr:av Z ψ hh.get w a v):av Z' ψ' h' w (b8 k x) v:=by
 obtain ⟨h1,h2,h3⟩:=sG g hz hb hx hr
 exact kZ h1 h2 h3
theorem aE.flat:∀{k:K} {x:k.T} {vs:List Value},k.flat=true→aE Z w k x vs→aE Z' w' k x vs
 | .int _,_,_,_,h=>h
 | .bool,_,_,_,h=>h
 | .str,_,_,_,h=>h
 | .sl k,_,_,hf,_=>by simp [K.flat] at hf
 | .pair a b,x,_,hf,h=>by
  simp only [K.flat,Bool.and_eq_true] at hf
  simp only [aE] at h ⊢
  obtain ⟨us,ws,rfl,h1,h2⟩:=h
  exact ⟨us,ws,rfl,aE.flat hf.1 h1,aE.flat hf.2 h2⟩
 | .one k,x,_,hf,h=>by
  simp only [aE] at h ⊢
  exact aE.flat (k:=k) (by simpa only [K.flat] using hf) h
theorem xx:∀(k:K) (x y:k.T),k.flat=true→(qv k x y=true↔x=y)
 | .int _,x,y,_=>by simp only [qv];exact beq_iff_eq (α:=Int)
 | .bool,x,y,_=>by simp only [qv];exact beq_iff_eq (α:=Bool)
 | .str,x,y,_=>by simp only [qv];exact MapKept.bytes_beq x y
 | .sl _,_,_,hf=>by simp [K.flat] at hf
 | .mp _ _,_,_,hf=>by simp [K.flat] at hf
 | .pair a b,x,y,hf=>by
  simp only [K.flat,Bool.and_eq_true] at hf
  simp only [qv,Bool.and_eq_true]
  rw [xx a _ _ hf.1,xx b _ _ hf.2]
  exact ⟨fun h=>Prod.ext h.1 h.2,fun h=>⟨congrArg Prod.fst h,congrArg Prod.snd h⟩⟩
 | .one k,x,y,hf=>by simp only [qv];exact xx k x y (by simpa only [K.flat] using hf)
theorem nS:∀{k:K} {x:k.T} {us vs:List Value},k.flat=true→aE Z w k x us→aE Z' w' k x vs→us=vs
 | .int _,_,_,_,_,h1,h2=>by simp only [aE] at h1 h2;rw [h1,h2]
 | .bool,_,_,_,_,h1,h2=>by simp only [aE] at h1 h2;rw [h1,h2]
 | .str,_,_,_,_,h1,h2=>by simp only [aE] at h1 h2;rw [h1,h2]
 | .sl _,_,_,_,hf,_,_=>by simp [K.flat] at hf
 | .mp _ _,_,_,_,hf,_,_=>by simp [K.flat] at hf
 | .pair a b,x,_,_,hf,h1,h2=>by
  simp only [K.flat,Bool.and_eq_true] at hf
  simp only [aE] at h1 h2
  obtain ⟨a1,a2,rfl,h3,h4⟩:=h1
  obtain ⟨b1,b2,rfl,h5,h6⟩:=h2
  rw [nS hf.1 h3 h5,nS hf.2 h4 h6]
 | .one k,x,_,_,hf,h1,h2=>by
  simp only [aE] at h1 h2
  exact nS (k:=k) (by simpa only [K.flat] using hf) h1 h2
theorem qI:∀{k:K} {x:k.T} {us:List Value},k.flat=true→aE Z w k x us→∀u∈us,∀n,Instr.sameBits n u u=true
 | .int _,x,_,_,h1,u,hu,n=>by simp only [aE] at h1;subst h1;simp only [List.mem_singleton] at hu;subst hu;cases n<;>simp [Instr.sameBits]<;>exact beq_self_eq_true (α:=Int) x
 | .bool,x,_,_,h1,u,hu,n=>by simp only [aE] at h1;subst h1;simp only [List.mem_singleton] at hu;subst hu;cases n<;>simp [Instr.sameBits]<;>exact beq_self_eq_true (α:=Bool) x
 | .str,x,_,_,h1,u,hu,n=>by simp only [aE] at h1;subst h1;simp only [List.mem_singleton] at hu;subst hu;cases n<;>simp [Instr.sameBits]<;>exact (MapKept.bytes_beq x x).2 rfl
 | .sl _,_,_,hf,_,_,_,_=>by simp [K.flat] at hf
 | .mp _ _,_,_,hf,_,_,_,_=>by simp [K.flat] at hf
 | .pair a b,x,_,hf,h1,u,hu,n=>by
  simp only [K.flat,Bool.and_eq_true] at hf
  simp only [aE] at h1
  obtain ⟨a1,a2,rfl,h3,h4⟩:=h1
  rcases List.mem_append.1 hu with hu | hu
  ·exact qI hf.1 h3 u hu n
  ·exact qI hf.2 h4 u hu n
 | .one k,x,_,hf,h1,u,hu,n=>by
  simp only [aE] at h1
  exact qI (k:=k) (by simpa only [K.flat] using hf) h1 u hu n
def HD(b:Bool)(v:Value):Prop:=(b=true→∃vs,v=.agg vs)∧(b=false→v.cells=#[v])
theorem KR{b:Bool}{u v:Value}(h1:HD b u)(h2:HD b v)(h:u.cells.toList=v.cells.toList):u=v:=by
 cases b with
 | true =>
  obtain ⟨a,rfl⟩:=h1.1 rfl
  obtain ⟨c,rfl⟩:=h2.1 rfl
  have:a=c:=by simpa [Value.cells] using h
  rw [this]
 | false =>
  rw [h1.2 rfl,h2.2 rfl] at h
  simpa using h
theorem MW{k:K}{x:k.T}{u:Value}(hf:k.flat=true)(hr:aE Z w k x u.cells.toList)(hs:HD k.isAgg u):Instr.sameBits 10000 u u=true:=by
 have hb:=qI hf hr
 cases hk:k.isAgg with
 | false=>exact hb u (by rw [hs.2 hk];simp) _
 | true =>
  obtain ⟨a,rfl⟩:=hs.1 hk
  show Instr.sameBits (9999+1) (.agg a) (.agg a)=true
  simp only [Instr.sameBits,beq_self_eq_true,Bool.true_and,List.all_eq_true]
  intro p hp
  obtain ⟨i,hi,he⟩:=List.mem_iff_getElem.1 hp
  simp only [List.getElem_zip] at he
  subst he
  exact hb _ (List.getElem_mem (l:=(Value.agg a).cells.toList) (by simpa [Value.cells] using hi)) _
def Keys(Z:Nat→Prop)(w:World)(k:K)(ys:List k.T)(l:List MapEntry):Prop:=ys.length=l.length∧∀(i:Nat) y e,ys[i]? = some y→l[i]? = some e→aE Z w k y e.key.cells.toList∧HD k.isAgg e.key
theorem Keys.tail{k:K}{y:k.T}{ys:List k.T}{e:MapEntry}{l:List MapEntry}(h:Keys Z w k (y::ys) (e::l)):Keys Z w k ys l:=⟨by simpa using h.1,fun i a b h1 h2=>h.2 (i+1) a b (by simpa using h1) (by simpa using h2)⟩
theorem E7{k:K}{x:k.T}{d:TypeDesc}{kv:Value}(hs:∀y Qp,aE Z w k y Qp.cells.toList→HD k.isAgg Qp→Instr.sameNow d kv Qp=some (qv k x y)):∀(l:List MapEntry) (ys:List k.T) (i:Nat),Keys Z w k ys l →
  Instr.findNow d kv l i=some ((ys.findIdx? (qv k x)).map fun j=>(i+j,((l[j]?).map (·.val)).getD undef))
 | [],ys,i,h=>by
  have:ys=[]:=List.eq_nil_of_length_eq_zero (by simpa using h.1)
  subst this;rfl
 | e::l,[],i,h=>by have:=h.1;simp at this
 | e::l,y::ys,i,h=>by
  obtain ⟨h1,h2⟩:=h.2 0 y e rfl rfl
  have ih:=E7 hs l ys (i+1) h.tail
  simp only [Instr.findNow,hs y _ h1 h2,List.findIdx?_cons]
  cases qv k x y with
  | true=>simp
  | false =>
   simp only [ih,Bool.false_eq_true,if_false]
   cases ys.findIdx? (qv k x) with
   | none=>rfl
   | some j=>simp;omega
theorem wx{k:K}{x:k.T}{t:TypeId}{kv:Value}(hs:∀y Qp,aE Z w k y Qp.cells.toList→HD k.isAgg Qp→(Op.equal t kv Qp).run P w=.ok (qv k x y) w):∀(l:List MapEntry) (ys:List k.T) (i:Nat),Keys Z w k ys l →
  (Instr.findAsking t kv l i).run P w=.ok ((ys.findIdx? (qv k x)).map fun j=>(i+j,((l[j]?).map (·.val)).getD undef)) w
 | [],ys,i,h=>by
  have:ys=[]:=List.eq_nil_of_length_eq_zero (by simpa using h.1)
  subst this;rfl
 | e::l,[],i,h=>by have:=h.1;simp at this
 | e::l,y::ys,i,h=>by
  obtain ⟨h1,h2⟩:=h.2 0 y e rfl rfl
  have ih:=wx hs l ys (i+1) h.tail
  simp only [Instr.findAsking,Sem.run_bind,hs y _ h1 h2,Result.andThen_ok,List.findIdx?_cons]
  cases qv k x y with
  | true=>simp
  | false =>
   simp only [ih,Bool.false_eq_true,if_false]
   cases ys.findIdx? (qv k x) with
   | none=>rfl
   | some j=>simp;omega
structure MX(P:Program)(t:TypeId)(k:K):Prop where
 flat:k.flat=true
 check:∀(Z:Nat→Prop) (w:World) (x:k.T) (kv:Value) (e:Bool),aE Z w k x kv.cells.toList→HD k.isAgg kv→(Instr.checkKey e 10000 t kv).run P w=.ok () w
 find:∀(Z:Nat→Prop) (w:World) (x:k.T) (kv:Value) (l:List MapEntry) (ys:List k.T),aE Z w k x kv.cells.toList→HD k.isAgg kv→Keys Z w k ys l →
  (Instr.findKey t kv l).run P w=.ok ((ys.findIdx? (qv k x)).map fun j=>(j,((l[j]?).map (·.val)).getD undef)) w
theorem nT{t:TypeId}{k:K}{d:TypeDesc}(hf:k.flat=true)(hk:k.isAgg=false)(hd:P.underlying t=some d)(hc:∀(Z:Nat→Prop) (w:World) (x:k.T) (kv:Value),aE Z w k x [kv]→MapKept.IsKey d kv)
  (hs:∀(Z:Nat→Prop) (w:World) (x y:k.T) (u v:Value),aE Z w k x [u]→aE Z w k y [v]→Instr.sameNow d u v=some (qv k x y)):MX P t k:=by
 have one:∀{Z:Nat→Prop} {w:World} {x:k.T} {kv:Value},aE Z w k x kv.cells.toList→HD k.isAgg kv→aE Z w k x [kv]:=fun {Z w x kv} h1 h2=>by
  rw [h2.2 hk] at h1;exact h1
 refine ⟨hf,fun Z w x kv e h1 h2=>MapKept.run_checkKey hd (hc Z w x kv (one h1 h2)) e 9999,fun Z w x kv l ys h1 h2 h3 => ?_⟩
 have:=E7 (Z:=Z) (w:=w) (x:=x) (d:=d) (kv:=kv) (fun y Qp h4 h5=>hs Z w x y kv Qp (one h1 h2) (one h4 h5)) l ys 0 h3
 simp only [Nat.zero_add] at this
 exact MapKept.run_findKey hd this
theorem E8(d:TypeDesc)(a:Array Value)(v:Value):Instr.sameNow d (.agg a) v=none:=by cases d<;>cases v<;>rfl
theorem u4{Eqs:TypeId→Option K}(Bp:∀t k,Eqs t=some k→k0 P t k){t:TypeId}{k:K}(hk:JC P Eqs t k=true):MX P t k:=by
 unfold JC at hk
 rw [Bool.and_eq_true] at hk
 obtain ⟨hf,hk⟩:=hk
 split at hk
 ·rename_i ik VJ hd
  simp only [decide_eq_true_eq] at hk
  subst hk
  exact nT hf rfl hd (fun Z w x kv hr=>by simp only [aE] at hr;cases hr;simp [MapKept.IsKey]) (fun Z w x y u v h1 h2=>by simp only [aE] at h1 h2;cases h1;cases h2;simp [Instr.sameNow,qv])
 ·rename_i hd
  exact nT hf rfl hd (fun Z w x kv hr=>by simp only [aE] at hr;cases hr;simp [MapKept.IsKey]) (fun Z w x y u v h1 h2=>by simp only [aE] at h1 h2;cases h1;cases h2;simp [Instr.sameNow,qv])
 ·rename_i hd
  exact nT hf rfl hd (fun Z w x kv hr=>by simp only [aE] at hr;cases hr;simp [MapKept.IsKey]) (fun Z w x y u v h1 h2=>by simp only [aE] at h1 h2;cases h1;cases h2;simp [Instr.sameNow,qv])
 ·simp only [Bool.and_eq_true,decide_eq_true_eq] at hk
  obtain ⟨Sy,hk⟩:=hk
  have fact:=Bp _ _ hk
  have agg:∀{b:Bool} {u:Value},b=true→HD b u→∃a,u=.agg a:=fun hb h=>h.1 hb
  refine ⟨hf,fun Z w x kv e h1 h2 => ?_,fun Z w x kv l ys h1 h2 h3 => ?_⟩
  ·obtain ⟨a,rfl⟩:=agg Sy h2
   exact (fact Z w x x a a h1 h1).2.2 e
  ·obtain ⟨a,rfl⟩:=agg Sy h2
   have h4:=wx (P:=P) (t:=t) (Z:=Z) (w:=w) (x:=x) (kv:=.agg a) (fun y Qp h4 h5=>by
    obtain ⟨b,rfl⟩:=agg Sy h5
    exact (fact Z w x y a b h1 h4).1) l ys 0 h3
   simp only [Nat.zero_add] at h4
   cases l with
   | nil =>
    have:ys=[]:=List.eq_nil_of_length_eq_zero (by simpa using h3.1)
    subst this
    cases hu:P.underlying t with
    | none =>
     have hc:=(fact Z w x x a a h1 h1).2.2 true
     exfalso
     unfold Instr.checkKey at hc
     simp [underlying,hu] at hc
    | some d=>simp [Instr.findKey,run_underlying hu,Instr.findNow]
   | cons e l =>
    cases hu:P.underlying t with
    | none =>
     have hc:=(fact Z w x x a a h1 h1).2.2 true
     exfalso
     unfold Instr.checkKey at hc
     simp [underlying,hu] at hc
    | some d=>simp only [Instr.findKey,Sem.run_bind,run_underlying hu,Result.andThen_ok,Instr.findNow,E8];exact h4
section
variable {kk vk:K} {es:List (kk.T×vk.T)} {l:List MapEntry}
abbrev jP(Z:Nat→Prop)(w:World)(kk vk:K)(es:List (kk.T×vk.T))(l:List MapEntry):Prop:=Dt (aE Z w kk) (aE Z w vk) kk.isAgg vk.isAgg es l
theorem jP.keys(h:jP Z w kk vk es l):Keys Z w kk (es.map (·.1)) l :=
 ⟨by rw [List.length_map];exact h.1,fun i y e h1 h2=>by
  rw [List.getElem?_map] at h1
  obtain ⟨x,h3,rfl⟩:=Option.map_eq_some_iff.1 h1
  exact (h.2 i x e h3 h2).1⟩
theorem yO{x:kk.T}:(es.map (·.1)).findIdx? (qv kk x)=so kk x es:=by unfold so;rw [List.findIdx?_map];rfl
theorem DA{x:kk.T}{i:Nat}(h:so kk x es=some i):i<es.length:=by
 unfold so at h
 exact (List.findIdx?_eq_some_iff_getElem.1 h).1
theorem QR{x:kk.T}{i:Nat}(h:so kk x es=some i):∃e,es[i]? = some e∧qv kk x e.1=true:=by
 unfold so at h
 obtain ⟨h1,h2,_⟩:=List.findIdx?_eq_some_iff_getElem.1 h
 exact ⟨_,List.getElem?_eq_getElem h1,h2⟩
def MY(Z:Nat→Prop)(w:World)(kk vk:K)(x:kk.T×vk.T)(e:MapEntry):Prop:=(aE Z w kk x.1 e.key.cells.toList∧HD kk.isAgg e.key)∧aE Z w vk x.2 e.val.cells.toList∧HD vk.isAgg e.val
theorem jP.set(h:jP Z w kk vk es l)(i:Nat){x:kk.T×vk.T}{f:MapEntry→MapEntry}(ho:∀e,l[i]? = some e→MY Z w kk vk x (f e)):jP Z w kk vk (es.set i x) (l.modify i f):=by
 refine ⟨by simp [h.1],fun j y e h1 h2 => ?_⟩
 rw [List.getElem?_modify] at h2
 obtain ⟨e0,h3,h4⟩:=Option.map_eq_some_iff.1 h2
 by_cases yP:i=j
 ·subst yP
  rw [if_pos rfl] at h4
  have aG:i<es.length:=by rw [h.1];exact (List.getElem?_eq_some_iff.1 h3).1
  rw [List.getElem?_set_self aG] at h1
  cases h1
  subst h4
  exact ho e0 h3
 ·rw [if_neg yP] at h4
  rw [List.getElem?_set_ne yP] at h1
  subst h4
  exact h.2 j y e0 h1 h3
theorem jP.push(h:jP Z w kk vk es l){x:kk.T×vk.T}{e:MapEntry}(ho:MY Z w kk vk x e):jP Z w kk vk (es++[x]) (l++[e]):=by
 refine ⟨by simp [h.1],fun j y e' h1 h2 => ?_⟩
 by_cases hj:j<es.length
 ·rw [List.getElem?_append_left hj] at h1
  rw [List.getElem?_append_left (by rw [←h.1];exact hj)] at h2
  exact h.2 j y e' h1 h2
 ·rw [List.getElem?_append_right (by omega)] at h1
  rw [List.getElem?_append_right (by have:=h.1;omega),←h.1] at h2
  by_cases h0:j - es.length=0
  ·rw [h0] at h1 h2;cases h1;cases h2;exact ho
  ·rw [List.getElem?_eq_none (by simp;omega)] at h1;cases h1
theorem jP.erase(h:jP Z w kk vk es l)(i:Nat):jP Z w kk vk (es.eraseIdx i) (l.eraseIdx i):=by
 refine ⟨by rw [List.length_eraseIdx,List.length_eraseIdx,h.1],fun j y e h1 h2 => ?_⟩
 rw [List.getElem?_eraseIdx] at h1 h2
 split at h1
 ·rename_i hj;rw [if_pos hj] at h2;exact h.2 j y e h1 h2
 ·rename_i hj;rw [if_neg hj] at h2;exact h.2 (j+1) y e h1 h2
theorem jP.mono(h:jP Z w kk vk es l)(hz:∀b,Z b→Z' b)(hs:cj Z w w'):jP Z' w' kk vk es l:=Dt.imp (fun _ _ h=>h.mono hz hs) (fun _ _ h=>h.mono hz hs) h
end
theorem sH{Eqs:TypeId→Option K}{t:TypeId}{kk vk:K}(h:mapOf P Eqs t=some (kk,vk)):∃a b,P.underlying t=some (.map a b)∧JC P Eqs a kk=true∧JB P b vk=true:=by
 unfold mapOf at h
 split at h
 ·rename_i a b hu
  split at h
  ·split at h
   ·rename_i hc
    cases h
    rw [Bool.and_eq_true] at hc
    exact ⟨a,b,hu,hc.1,hc.2⟩
   ·cases h
  ·cases h
 ·cases h
theorem H5{b:TypeId}{vk:K}(h:JB P b vk=true):∃z,(zeroValue b).run P w=.ok z w∧aE Z w vk (oJ vk) z.cells.toList∧HD vk.isAgg z:=by
 unfold JB at h
 split at h
 ·rename_i i hi
  split at h
  ·rename_i z hz
   refine ⟨z,tz hi hz,?_⟩
   unfold MD at h
   split at h
   ·simp only [decide_eq_true_eq] at h;obtain ⟨rfl,rfl⟩:=h;exact ⟨by simp only [aE];rfl,fun h=>(by cases h),fun _=>rfl⟩
   ·rename_i b;simp only [Bool.not_eq_true'] at h;subst h;exact ⟨by simp only [aE];rfl,fun h=>(by cases h),fun _=>rfl⟩
   ·simp only [decide_eq_true_eq] at h;subst h;exact ⟨by simp only [aE];rfl,fun h=>(by cases h),fun _=>rfl⟩
   ·simp only [decide_eq_true_eq] at h;obtain ⟨rfl,rfl,rfl⟩:=h
    exact ⟨by simp only [aE];exact ⟨_,rfl,none,0,rfl,Nat.le_refl _,fun _=>rfl,fun i x hx=>by simp [oJ] at hx⟩,fun h=>(by cases h),fun _=>rfl⟩
   ·cases h
  ·cases h
 ·cases h
theorem JE{hh:Heap}(g:Good Z ψ h w B0 O)(br:∀id o,hh.get id=some o→h id=some o){m:AV}{u:Value}{kk vk:K}{es:List (kk.T×vk.T)}(hm:av Z ψ h w m u)(hv:cC hh m=.mp kk vk es) :
  ∃A,u=.map A∧((A=none∧es=[])∨∃r bQ clock,A=some r∧w.heap[r]? = some (.map bQ clock)∧jP Z w kk vk es bQ.toList):=by
 cases m with
 | mp JA QH MZ =>
  simp only [cC] at hv
  cases hv
  simp only [av,aE] at hm
  obtain ⟨A,h1,h2⟩:=hm
  cases h1
  refine ⟨A,rfl,h2.imp (fun h=>h) fun ⟨m,bQ,clock,h3,_,h4,h5⟩=>⟨m,bQ,clock,h3,h4,h5⟩⟩
 | bF id =>
  simp only [cC] at hv
  split at hv
  ·cases hv
  ·rename_i JA QH MZ hg
   cases hv
   have uN:=br _ _ hg
   simp only [av] at hm
   have:=hm.2 (by rw [uN];simp)
   subst this
   obtain ⟨r,bQ,clock,h1,h2,h3,_⟩:=g.row id (.map kk vk) es uN
   exact ⟨some r,h1,.inr ⟨r,bQ,clock,rfl,h2,h3⟩⟩
  ·cases hv
 | _=>simp only [cC] at hv;cases hv
theorem H6{hh:Heap}(g:Good Z ψ h w B0 O)(br:∀id o,hh.get id=some o→h id=some o){k:K}(hf:k.flat=true){a:AV}{x:k.T}{v:Value}(hx:fm k hh a=some x)(hr:av Z ψ h w a v):aE Z w k x v.cells.toList∧HD k.isAgg v:=by
 obtain ⟨h1,h2,h3⟩:=sG (Z':=fun b=>b<w.heap.size) (g.sub br) (fun b hb=>g.jm b hb) (fun id b _ h1 h2=>(g.sub br).bL ⟨id,h1,h2⟩) hx (hr.less (fun _ h=>h) (cj.refl _ _) (fun id bO=>by
  obtain ⟨o,ho⟩:=Option.ne_none_iff_exists'.1 bO
  exact ⟨by rw [br id o ho];simp,rfl⟩))
 exact ⟨h1.flat hf,h2,h3⟩
theorem DB{Eqs:TypeId→Option K}(Bp:∀t k,Eqs t=some k→k0 P t k){hh:Heap}(g:Good Z ψ h w B0 O)(br:∀id o,hh.get id=some o→h id=some o){t:TypeId}{m i:AV}{u v:Value}{ok:Bool}{e:bE}
  (hm:av Z ψ h w m u) (hi:av Z ψ h w i v) (he:mO P Eqs hh t m i ok some=some e):∃y V,e=.val y∧(Instr.lookup t u v ok).run P w=.ok V w∧av Z ψ h w y V:=by
 unfold mO at he
 split at he
 ·rename_i ka va kk vk es VN hv
  split at he
  ·rename_i hc
   obtain ⟨rfl,rfl⟩:=hc
   split at he
   ·rename_i x hx
    cases he
    obtain ⟨a,b,hu,hk,hz⟩:=sH VN
    have K:=u4 Bp hk
    obtain ⟨H7,nH⟩:=H6 g br K.flat hx hi
    obtain ⟨z,rG,uM,HB⟩:=H5 (Z:=Z) (w:=w) hz
    have fin:∀(l:List MapEntry),jP Z w kk vk es l→∃V,((∃j,(Instr.findKey a v l).run P w=.ok (some (j,V)) w∧(iD kk x es).isSome=true)∨((Instr.findKey a v l).run P w=.ok none w∧(zeroValue b).run P w=.ok V w∧(iD kk x es).isSome=false)) ∧
      aE Z w vk ((iD kk x es).getD (oJ vk)) V.cells.toList∧HD vk.isAgg V:=by
     intro l hE
     have hf:=K.find Z w x v l (es.map (·.1)) H7 nH hE.keys
     rw [yO] at hf
     cases Cg:so kk x es with
     | none =>
      rw [Cg] at hf
      exact ⟨z,.inr ⟨hf,rG,by simp [iD,Cg]⟩,by simpa [iD,Cg] using uM,HB⟩
     | some j =>
      rw [Cg] at hf
      have hj:=DA Cg
      have h1:es[j]? = some es[j]:=List.getElem?_eq_getElem hj
      have HE:j<l.length:=by rw [←hE.1];exact hj
      have h2:l[j]? = some l[j]:=List.getElem?_eq_getElem HE
      obtain ⟨_,h3,h4⟩:=hE.2 j _ _ h1 h2
      refine ⟨l[j].val,.inl ⟨j,?_,by simp [iD,Cg,h1]⟩,by simpa [iD,Cg,h1] using h3,h4⟩
      rw [hf];simp only [Option.map_some,h2,Option.getD_some]
    have out:∀V:Value,aE Z w vk ((iD kk x es).getD (oJ vk)) V.cells.toList→HD vk.isAgg V→av Z ψ h w (cond ok (AV.mJ [b8 vk ((iD kk x es).getD (oJ vk)),.bool (iD kk x es).isSome]) (b8 vk ((iD kk x es).getD (oJ vk)))) (if ok then .tuple #[V,.bool (iD kk x es).isSome] else V):=by
     intro V h1 h2
     have h3:av Z ψ h w (b8 vk ((iD kk x es).getD (oJ vk))) V:=kZ h1 h2.1 h2.2
     cases ok with
     | false=>exact h3
     | true=>simp only [cond_true,if_true,av,an];exact ⟨_,rfl,V,[.bool (iD kk x es).isSome],by simp,h3,_,[],rfl,rfl,rfl⟩
    obtain ⟨A,rfl,hA⟩:=JE g br hm hv
    rcases hA with ⟨rfl,rfl⟩ | ⟨r,bQ,clock,rfl,h3,h4⟩
    ·obtain ⟨V,h5,h6,h7⟩:=fin [] ⟨rfl,fun i x e h=>by simp at h⟩
     refine ⟨_,_,rfl,?_,out V h6 h7⟩
     simp only [Instr.lookup,Sem.run_bind,run_underlying hu,Result.andThen_ok,Sem.run_pure,K.check Z w x v _ H7 nH]
     rcases h5 with ⟨j,h8,h9⟩ | ⟨h8,h9,mv⟩
     ·simp [h8,h9]
     ·simp [h8,h9,mv]
    ·obtain ⟨V,h5,h6,h7⟩:=fin bQ.toList h4
     refine ⟨_,_,rfl,?_,out V h6 h7⟩
     simp only [Instr.lookup,Sem.run_bind,run_underlying hu,Result.andThen_ok,Sem.run_pure,MapKept.run_getObj_map h3,K.check Z w x v _ H7 nH]
     rcases h5 with ⟨j,h8,h9⟩ | ⟨h8,h9,mv⟩
     ·simp [h8,h9]
     ·simp [h8,h9,mv]
   ·cases he
  ·cases he
 ·cases he
end Go.Vs
namespace Go.Vs
variable {P:Program} {Z Z':Nat→Prop} {ψ ψ':Nat→Value} {h h':Hp} {w w':World} {B0:Nat} {O:Nat→Prop} {N:Nat→Prop}
theorem u5{r b:Nat}(o:Obj)(bh:r≠b):(w.heap.setIfInBounds r o)[b]? = w.heap[b]? := by rw [Array.getElem?_setIfInBounds];simp [bh]
theorem cS.abh{r:Nat}(ho:Own ψ h r)(o:Obj):cS ψ h w { w with heap:=w.heap.setIfInBounds r o } :=
 ⟨rfl,rfl,rfl,by simp,fun b _ hb=>u5 o (fun e=>hb (e▸ho))⟩
theorem qJ{hp:Hp}(g:Good Z ψ hp w B0 O){id:Nat}(bO:hp id≠none){r:Nat}(hr:ob (ψ id)=some r)(aG:r<w.heap.size)(o:Obj){ok:OK}{x:ok.T}
  (hx:∀w':World,w'.heap=w.heap.setIfInBounds r o→cj Z w w'→jf Z w' ok (ψ id) x) :
  Next Z ψ hp w B0 O N Z ψ (dK hp id (some (.own ok x))) { w with heap:=w.heap.setIfInBounds r o }:=by
 have ho:Own ψ hp r:=⟨id,bO,hr⟩
 have kk:=cS.abh (w:=w) ho o
 refine g.write id bO kk (fun b hb _=>u5 o (fun e=>hb (by rw [hr,e]))) _ (fun _ _ he=>by cases he) (fun VL x' he => ?_)
 cases he
 exact hx _ rfl (kk.same g)
theorem wy{l:List MapEntry}{i:Nat}{f:MapEntry→MapEntry}(hf:∀e,(f e).born=e.born):(l.modify i f).map (·.born)=l.map (·.born):=by
 apply List.ext_getElem?
 intro j
 simp only [List.getElem?_map,List.getElem?_modify]
 cases l[j]? with
 | none=>rfl
 | some e=>simp only [Option.map_some];split<;>simp [hf]
theorem u6{l:List MapEntry}:l.Pairwise (fun a b=>a.born≠b.born)↔(l.map (·.born)).Pairwise (·≠·):=by rw [List.pairwise_map]
theorem tE{Eqs:TypeId→Option K}(Bp:∀t k,Eqs t=some k→k0 P t k){hh:Heap}(g:Good Z ψ hh.get w B0 O){t:TypeId}{m i v:AV}{u1 u2 u3:Value}{e:bE}
  (hm:av Z ψ hh.get w m u1) (hi:av Z ψ hh.get w i u2) (hv:av Z ψ hh.get w v u3) (he:hZ P Eqs hh t m i v some=some e) :
  ∃hw w' Z',e=.wr (.mJ []) hw∧(Instr.mapUpdate t u1 u2 u3).run P w=.ok () w'∧Next Z ψ hh.get w B0 O N Z' ψ hw.get w':=by
 unfold hZ at he
 split at he
 ·rename_i ka va id VN
  split at he
  ·rename_i kk vk es hg
   split at he
   ·rename_i hc
    obtain ⟨rfl,rfl⟩:=hc
    split at he
    ·rename_i x y hx hy pN
     cases he
     obtain ⟨a,b,hu,hk,_⟩:=sH VN
     have K:=u4 Bp hk
     obtain ⟨H7,nH⟩:=H6 g (fun _ _ h=>h) K.flat hx hi
     simp only [av] at hm
     have TS:=hm.2 (by rw [hg];simp)
     obtain ⟨r,bQ,clock,h1,h2,h3,h4,h5⟩:=g.row id (.map kk vk) es hg
     rw [h1] at TS
     subst TS
     have bO:AV.bF id∉v.cells:=fun hc=>by
      have:=List.all_eq_true.1 pN _ hc
      simp at this
     have gd:=gX g v.cells
     have hgd:(cy hh v.cells).get id=some (.own (.map kk vk) es):=by rw [nO _ _ _ bO];exact hg
     obtain ⟨tD,wo,hv3⟩:=sG (Z':=o8 Z ψ hh.get v.cells) g (fun b hb=>.inl hb) (fun id b h1 h2 h3=>.inr ⟨id,h1,h2,h3⟩) hy hv
     have Wv:aE (o8 Z ψ hh.get v.cells) w kk x u2.cells.toList:=H7.flat K.flat
     have aG:=(Array.getElem?_eq_some_iff.1 h2).1
     have jo:ob (ψ id)=some r:=by rw [h1];rfl
     have hE:jP (o8 Z ψ hh.get v.cells) w kk vk es bQ.toList:=jP.mono h3 (fun b hb=>.inl hb) (cj.refl _ _)
     have hf:=K.find Z w x u2 bQ.toList (es.map (·.1)) H7 nH (jP.keys h3)
     rw [yO] at hf
     have fin:∀(o:Obj) (MZ:List (kk.T×vk.T)) (lT:Array MapEntry) (yQ:Nat),o=.map lT yQ→jP (o8 Z ψ hh.get v.cells) w kk vk MZ lT.toList→(lT.toList.map (·.born)).Pairwise (·≠·)→(∀e∈lT.toList,e.born<yQ) →
       Next Z ψ hh.get w B0 O N (o8 Z ψ hh.get v.cells) ψ ((cy hh v.cells).set id (.own (.map kk vk) MZ)).get { w with heap:=w.heap.setIfInBounds r o }:=by
      rintro o MZ lT yQ rfl h6 h7 h8
      rw [lR]
      have n:=qJ (N:=N) gd (by rw [hgd];simp) jo aG (.map lT yQ) (ok:=.map kk vk) (x:=MZ) (fun w' H8 sm=>⟨r,lT,yQ,h1,by rw [H8];simp [aG],jP.mono h6 (fun _ h=>h) sm,u6.2 h7,h8⟩)
      exact n.drop (fun b hb=>.inl hb) (fun b hb=>hb.imp (fun h=>h) (fun ⟨i,_,h5,h6⟩=>⟨i,h5,h6⟩)) (dO _ _)
     cases Cg:so kk x es with
     | none =>
      rw [Cg] at hf
      refine ⟨_,{ w with heap:=w.heap.setIfInBounds r (.map (bQ.push { key:=u2,val:=u3,born:=clock }) (clock+1)) },o8 Z ψ hh.get v.cells,rfl,?_,?_⟩
      rotate_left
      ·rw [show lM kk x y es=es++[(x,y)] by simp [lM,Cg]]
       refine fin _ _ (bQ.push { key:=u2,val:=u3,born:=clock }) (clock+1) rfl ?_ ?_ ?_
       ·rw [Array.toList_push]
        exact hE.push ⟨⟨Wv,nH⟩,tD,wo,hv3⟩
       ·rw [Array.toList_push,List.map_append,List.pairwise_append]
        refine ⟨u6.1 h4,by simp,fun a ha b hb => ?_⟩
        simp only [List.map_cons,List.map_nil,List.mem_singleton] at hb
        obtain ⟨e,he,rfl⟩:=List.mem_map.1 ha
        have:=h5 e he
        omega
       ·intro e he
        rw [Array.toList_push] at he
        rcases List.mem_append.1 he with he | he
        ·have:=h5 e he;omega
        ·simp only [List.mem_singleton] at he;subst he;exact Nat.lt_succ_self _
      ·simp only [Instr.mapUpdate,Sem.run_bind,run_underlying hu,Result.andThen_ok,MapKept.run_getObj_map h2,K.check Z w x u2 _ H7 nH,hf,Option.map_none,MapKept.run_setObj_map _ h2]
     | some j =>
      rw [Cg] at hf
      have hj:=DA Cg
      obtain ⟨e0,Sz,heq⟩:=QR Cg
      have HE:j<bQ.toList.length:=by rw [←h3.1];exact hj
      have hl:bQ.toList[j]? = some bQ.toList[j]:=List.getElem?_eq_getElem HE
      have Qq:bQ[j]? = some bQ.toList[j]:=by rw [←hl];simp
      obtain ⟨⟨Ww,abi⟩,_⟩:=h3.2 j _ _ Sz hl
      have rB:bQ.toList[j].key=u2:=by
       refine KR abi nH ?_
       rw [←(xx kk x e0.1 K.flat).1 heq] at Ww
       exact nS K.flat Ww H7
      have SA:(Instr.keyThatStays u2 u2).run P w=.ok u2 w:=by simp [Instr.keyThatStays,MW K.flat H7 nH]
      refine ⟨_,{ w with heap:=w.heap.setIfInBounds r (.map (bQ.modify j fun e=>{ e with key:=u2,val:=u3 }) clock) },o8 Z ψ hh.get v.cells,rfl,?_,?_⟩
      rotate_left
      ·rw [show lM kk x y es=es.set j (x,y) by simp [lM,Cg]]
       refine fin _ _ (bQ.modify j fun e=>{ e with key:=u2,val:=u3 }) clock rfl ?_ ?_ ?_
       ·rw [Array.toList_modify]
        exact hE.set j (fun e he=>⟨⟨Wv,nH⟩,tD,wo,hv3⟩)
       ·rw [Array.toList_modify,wy (f:=fun e:MapEntry=>{ e with key:=u2,val:=u3 }) (fun _=>rfl)];exact u6.1 h4
       ·intro e he
        have:e.born∈(bQ.modify j fun e=>{ e with key:=u2,val:=u3 }).toList.map (·.born):=List.mem_map.2 ⟨e,he,rfl⟩
        rw [Array.toList_modify,wy (f:=fun e:MapEntry=>{ e with key:=u2,val:=u3 }) (fun _=>rfl)] at this
        obtain ⟨e',TL,h6⟩:=List.mem_map.1 this
        rw [←h6];exact h5 e' TL
      ·simp only [Instr.mapUpdate,Sem.run_bind,run_underlying hu,Result.andThen_ok,MapKept.run_getObj_map h2,K.check Z w x u2 _ H7 nH,hf,Option.map_some,Qq,Option.getD_some,rB,SA,MapKept.run_setObj_map _ h2]
    ·cases he
   ·cases he
  ·cases he
 ·cases he
theorem tF{Eqs:TypeId→Option K}(Bp:∀t k,Eqs t=some k→k0 P t k){hh:Heap}(g:Good Z ψ hh.get w B0 O){t ty:TypeId}{ts:List TypeId}{m i:AV}{u1 u2:Value}{e:bE}
  (hm:av Z ψ hh.get w m u1) (hi:av Z ψ hh.get w i u2) (he:mP P Eqs hh t m i some=some e) :
  ∃hw w',e=.wr (.mJ []) hw∧(Builtin.delete_ (t::ts).toArray ty #[u1,u2]).run P w=.ok (.tuple #[]) w'∧Next Z ψ hh.get w B0 O N Z ψ hw.get w':=by
 unfold mP at he
 split at he
 ·rename_i ka va id VN
  split at he
  ·rename_i kk vk es hg
   split at he
   ·rename_i hc
    obtain ⟨rfl,rfl⟩:=hc
    split at he
    ·rename_i x hx
     cases he
     obtain ⟨a,b,hu,hk,_⟩:=sH VN
     have K:=u4 Bp hk
     obtain ⟨H7,nH⟩:=H6 g (fun _ _ h=>h) K.flat hx hi
     simp only [av] at hm
     have TS:=hm.2 (by rw [hg];simp)
     obtain ⟨r,bQ,clock,h1,h2,h3,h4,h5⟩:=g.row id (.map kk vk) es hg
     rw [h1] at TS
     subst TS
     have aG:=(Array.getElem?_eq_some_iff.1 h2).1
     have jo:ob (ψ id)=some r:=by rw [h1];rfl
     have hf:=K.find Z w x u2 bQ.toList (es.map (·.1)) H7 nH (jP.keys h3)
     rw [yO] at hf
     have fin:∀(o:Obj) (MZ:List (kk.T×vk.T)) (lT:Array MapEntry),o=.map lT clock→jP Z w kk vk MZ lT.toList→lT.toList.Sublist bQ.toList →
       Next Z ψ hh.get w B0 O N Z ψ (hh.set id (.own (.map kk vk) MZ)).get { w with heap:=w.heap.setIfInBounds r o }:=by
      rintro o MZ lT rfl h6 h7
      rw [lR]
      exact qJ (N:=N) g (by rw [hg];simp) jo aG (.map lT clock) (ok:=.map kk vk) (x:=MZ) (fun w' H8 sm=>⟨r,lT,clock,h1,by rw [H8];simp [aG],jP.mono h6 (fun _ h=>h) sm,h4.sublist h7,fun e he=>h5 e (h7.subset he)⟩)
     cases Cg:so kk x es with
     | none =>
      rw [Cg] at hf
      refine ⟨_,{ w with heap:=w.heap.setIfInBounds r (.map bQ clock) },rfl,?_,?_⟩
      rotate_left
      ·rw [show MC kk x es=es by simp [MC,Cg]]
       exact fin _ _ bQ rfl h3 (List.Sublist.refl _)
      ·simp [Builtin.delete_,run_underlying hu,MapKept.run_getObj_map h2,K.check Z w x u2 _ H7 nH,hf,MapKept.run_setObj_map _ h2]
     | some j =>
      rw [Cg] at hf
      have hj:=DA Cg
      refine ⟨_,{ w with heap:=w.heap.setIfInBounds r (.map (bQ.eraseIdxIfInBounds j) clock) },rfl,?_,?_⟩
      rotate_left
      ·rw [show MC kk x es=es.eraseIdx j by simp [MC,Cg]]
       refine fin _ _ (bQ.eraseIdxIfInBounds j) rfl ?_ ?_
       ·rw [Array.toList_eraseIdxIfInBounds];exact jP.erase h3 j
       ·rw [Array.toList_eraseIdxIfInBounds];exact List.eraseIdx_sublist _ _
      ·simp [Builtin.delete_,run_underlying hu,MapKept.run_getObj_map h2,K.check Z w x u2 _ H7 nH,hf,MapKept.run_setObj_map _ h2]
    ·cases he
   ·cases he
  ·cases he
 ·cases he
theorem H9{hh:Heap}(g:Good Z ψ h w B0 O)(br:∀id o,hh.get id=some o→h id=some o){t ty:TypeId}{x:AV}{u:Value}{e:bE}(ht:HP P t=true)(hx:av Z ψ h w x u)(he:uS hh x some=some e) :
  ∃n:Nat,e=.val (.int .i64 (n:Int))∧(Builtin.len_ #[t] ty #[u]).run P w=.ok (.int .i64 (n:Int)) w:=by
 unfold uS at he
 split at he
 ·rename_i kk vk es hv
  cases he
  have hu:∃a b,P.underlying t=some (.map a b):=by
   unfold HP at ht
   split at ht
   ·exact ⟨_,_,by assumption⟩
   ·cases ht
  obtain ⟨a,b,hu⟩:=hu
  obtain ⟨A,rfl,hA⟩:=JE g br hx hv
  rcases hA with ⟨rfl,rfl⟩ | ⟨r,bQ,clock,rfl,h3,h4⟩
  ·exact ⟨0,rfl,by simp [Builtin.len_,run_underlying hu,goInt]⟩
  ·refine ⟨es.length,rfl,?_⟩
   have:bQ.size=es.length:=by rw [h4.1];simp
   simp [Builtin.len_,run_underlying hu,MapKept.run_getObj_map h3,goInt,this]
 ·cases he
theorem yR(g:Good Z ψ h w B0 O)(hB:B0≤w.heap.size)(id:Nat)(hN:N id){ok:OK}{x:ok.T}{v:Value}(o:Obj)(ho:jf Z (w.alloc o) ok v x)(hb:ob v=some w.heap.size)
  (bg:∀i ty cs,h i=some (.box ty cs)→aA (fun i=>i≠id) cs):Next Z ψ h w B0 O N Z (dK ψ id v) (dK h id (some (.own ok x))) (w.alloc o) :=
 EX g hB id hN (cS.alloc _ _ _ _) (fun b hb=>heap_alloc_old w _ (g.bL hb)) ho (fun b yS=>by rw [hb] at yS;cases yS;exact Nat.le_refl _) bg
theorem BB{Eqs:TypeId→Option K}(g:Good Z ψ h w B0 O)(hB:B0≤w.heap.size){id:Nat}(hN:N id){t:TypeId}{e:bE}(bg:∀i ty cs,h i=some (.box ty cs)→aA (fun i=>i≠id) cs)(he:kJ P Eqs id t some=some e) :
  ∃v w' ψ',(Instr.makeMap t none).run P w=.ok v w'∧Next Z ψ h w B0 O N Z ψ' (e.hp h) w'∧av Z ψ' (e.hp h) w' e.v v:=by
 unfold kJ at he
 split at he
 ·rename_i kk vk VN
  cases he
  refine ⟨.map (some w.heap.size),w.alloc (.map #[] 0),dK ψ id (.map (some w.heap.size)),rfl,?_,?_⟩
  ·simp only [bE.hp];rw [gY]
   exact yR g hB id hN (ok:=.map kk vk) (x:=[]) _ ⟨w.heap.size,#[],0,rfl,heap_alloc_new _ _,⟨rfl,fun i x e h=>by simp at h⟩,by simp,by simp⟩ rfl bg
  ·simp only [bE.v,bE.hp,av]
   exact ⟨⟨rfl,rfl⟩,fun _=>(ba _ _ _).symm⟩
 ·cases he
theorem DC(g:Good Z ψ h w B0 O)(hB:B0≤w.heap.size){id:Nat}(hN:N id){t:TypeId}{x:AV}{u:Value}{e:bE}(hx:av Z ψ h w x u)(bg:∀i ty cs,h i=some (.box ty cs)→aA (fun i=>i≠id) cs)(he:mQ P id t x some=some e) :
  ∃v w' ψ',(Instr.range t u).run P w=.ok v w'∧Next Z ψ h w B0 O N Z ψ' (e.hp h) w'∧av Z ψ' (e.hp h) w' e.v v:=by
 unfold mQ at he
 split at he
 ·rename_i sv hu
  cases he
  simp only [av] at hx
  subst hx
  refine ⟨.pointer (some ⟨w.heap.size,0,none⟩),w.alloc (.stringIter sv 0),dK ψ id (.pointer (some ⟨w.heap.size,0,none⟩)),?_,?_,?_⟩
  ·simp only [Instr.range,Sem.run_bind,run_underlying hu,Result.andThen_ok,Sem.run_pure];rfl
  ·simp only [bE.hp];rw [gY]
   exact yR g hB id hN (ok:=.mM) (x:=(sv,0)) _ ⟨w.heap.size,rfl,heap_alloc_new _ _⟩ rfl bg
  ·simp only [bE.v,bE.hp,av]
   exact ⟨⟨rfl,rfl⟩,fun _=>(ba _ _ _).symm⟩
 ·cases he
theorem fG{r:Nat}{o:Obj}(hb:w.heap[r]? = some o)(hc:∀c e f,o≠.cells c e f):(getObj r).run P w=.ok o w:=by
 cases o<;>first | (exact absurd rfl (hc _ _ _)) | simp [getObj,Sem.run,hb]
theorem yT{r:Nat}{o o':Obj}(hb:w.heap[r]? = some o)(hc:∀c e f,o≠.cells c e f):(setObj r o').run P w=.ok () { w with heap:=w.heap.setIfInBounds r o' }:=by
 cases o<;>first | (exact absurd rfl (hc _ _ _)) | simp [setObj,Sem.run,hb]
theorem E9{hh:Heap}(g:Good Z ψ h w B0 O)(br:∀id o,hh.get id=some o→h id=some o){ty:TypeId}{x:AV}{u:Value}{e:bE}(hx:av Z ψ h w x u)(lS:∀v hw,e=.wr v hw→hh.get=h)(he:qy hh x some=some e) :
  ∃v w',(Instr.next u true ty).run P w=.ok v w'∧Next Z ψ h w B0 O N Z ψ (e.hp h) w'∧av Z ψ (e.hp h) w' e.v v:=by
 unfold qy at he
 split at he
 ·rename_i id
  split at he
  ·rename_i x hg
   have uN:=br _ _ hg
   simp only [av] at hx
   have hu:=hx.2 (by rw [uN];simp)
   obtain ⟨r,h1,h2⟩:=g.row id .mM x uN
   rw [h1] at hu
   subst hu
   cases hc:decide (x.2<x.1.size) with
   | true =>
    rw [hc] at he;cases he
    have heq:=lS _ _ rfl
    simp only [decide_eq_true_eq] at hc
    have aG:=(Array.getElem?_eq_some_iff.1 h2).1
    refine ⟨.tuple #[.bool true,goInt x.2,.int .i32 (Utf8.decode x.1 x.2).1],{ w with heap:=w.heap.setIfInBounds r (.stringIter x.1 (x.2+(Utf8.decode x.1 x.2).2)) },?_,?_,?_⟩
    ·simp only [Instr.next,Sem.run_bind,fG h2 (by simp),Result.andThen_ok,hc,if_true,yT h2 (by simp),Sem.run_pure]
    ·simp only [bE.hp]
     rw [lR,heq]
     exact qJ (N:=N) g (by rw [uN];simp) (by rw [h1];rfl) aG _ (ok:=.mM) (x:=(x.1,x.2+yn x.1 x.2)) (fun w' H8 _=>⟨r,h1,by rw [H8];simp [aG,yn]⟩)
    ·simp only [bE.v,av,an]
     exact ⟨_,rfl,_,_,rfl,rfl,_,_,rfl,rfl,_,_,rfl,rfl,rfl⟩
   | false =>
    rw [hc] at he;cases he
    simp only [decide_eq_false_iff_not] at hc
    refine ⟨.tuple #[.bool false],w,?_,Next.refl g,?_⟩
    ·simp only [Instr.next,Sem.run_bind,fG h2 (by simp),Result.andThen_ok,hc,if_false,Sem.run_pure]
    ·simp only [bE.v,av,an]
     exact ⟨_,rfl,_,_,rfl,rfl,rfl⟩
  ·cases he
 ·cases he
theorem find_born{l:List MapEntry}(h:l.Pairwise (fun a b=>a.born≠b.born)){e:MapEntry}(he:e∈l):l.find? (fun x=>x.born==e.born)=some e:=by
 induction l with
 | nil=>cases he
 | cons a r ih =>
  obtain ⟨h1,h2⟩:=List.pairwise_cons.1 h
  rw [List.find?_cons]
  rcases List.mem_cons.1 he with rfl | he
  ·simp
  ·have:(a.born==e.born)=false:=by simpa using h1 e he
   rw [this];exact ih h2 he
theorem Fa{hh:Heap}(g:Good Z ψ h w B0 O)(br:∀id o,hh.get id=some o→h id=some o){x:AV}{u:Value}{e:bE}(hx:av Z ψ h w x u)(he:qz hh x some=some e) :
  ∃y v,e=.val y∧(Instr.entry u).run P w=.ok v w∧av Z ψ h w y v:=by
 unfold qz at he
 split at he
 ·rename_i id
  split at he
  ·rename_i kk vk c rest hg
   cases he
   have uN:=br _ _ hg
   simp only [av] at hx
   have hu:=hx.2 (by rw [uN];simp)
   obtain ⟨r,m,since,seen,bQ,clock,h1,h2,h3,h4,h5,h6,h7,h8,h9⟩:=g.row id (.iter kk vk) (some c,rest) uN
   rw [h1] at hu
   subst hu
   obtain ⟨en,mv,xc,HF⟩:=h9
   obtain ⟨⟨k1,k2,k3⟩,v1,v2,v3⟩:=HF.2 0 c en rfl rfl
   refine ⟨_,.tuple #[en.key,en.val],rfl,?_,?_⟩
   ·have hf:bQ.find? (·.born==en.born)=some en:=by
     have:=find_born h5 mv
     rwa [←Array.find?_toList]
    simp only [Instr.entry,Sem.run_bind,fG h2 (by simp),Result.andThen_ok,xc,Sem.run_pure,fG h4 (by simp),hf]
    simp
   ·simp only [av,an]
    exact ⟨_,rfl,_,_,rfl,kZ k1 k2 k3,_,_,rfl,kZ v1 v2 v3,rfl⟩
  ·cases he
 ·cases he
end Go.Vs
namespace Go.Vs
variable {P:Program} {Z Z':Nat→Prop} {ψ ψ':Nat→Value} {h h':Hp} {w w':World} {B0:Nat} {O:Nat→Prop} {N:Nat→Prop}
mutual
theorem aH.imp{p q:Nat→Prop}(yU:∀i,p i→q i):∀{a:AV},aH p a→aH q a
 | .no,_=>by simp only [aH]
 | .bool b,_=>by simp only [aH]
 | .int k n,_=>by simp only [aH]
 | .str s,_=>by simp only [aH]
 | .kU,_=>by simp only [aH]
 | .fB,_=>by simp only [aH]
 | .ref id s i off,h=>by simp only [aH] at h ⊢;exact yU _ h
 | .fp k x off,_=>by simp only [aH]
 | .sl ex k xs,_=>by simp only [aH]
 | .mp kk vk es,_=>by simp only [aH]
 | .bF id,h=>by simp only [aH] at h ⊢;exact yU _ h
 | .fn f cap,h=>by simp only [aH] at h ⊢;exact aA.imp yU h
 | .agg cs,h=>by simp only [aH] at h ⊢;exact aA.imp yU h
 | .mJ cs,h=>by simp only [aH] at h ⊢;exact aA.imp yU h
theorem aA.imp{p q:Nat→Prop}(yU:∀i,p i→q i):∀{a:List AV},aA p a→aA q a
 | [],_=>by simp only [aA]
 | a::r,h=>by simp only [aA] at h ⊢;exact ⟨aH.imp yU h.1,aA.imp yU h.2⟩
end
theorem aH.cells{p:Nat→Prop}{a:AV}(h:aH p a):aA p a.cells:=by
 cases a with
 | agg cs=>simpa only [AV.cells,aH] using h
 | _=>simp only [AV.cells,aA];exact ⟨h,trivial⟩
theorem yV:∀{cs:List AV},ES cs=true→∀id,AV.bF id∉cs
 | [],_,id=>by simp
 | c::r,hn,id=>by
  intro hm
  cases c with
  | bF i=>simp [ES] at hn
  | _ =>
   simp only [ES] at hn
   rcases List.mem_cons.1 hm with e | hm
   ·cases e
   ·exact yV hn id hm
theorem pP:∀{vs:List AV},pj vs=true→∀v∈vs,∀id,AV.bF id∉v.cells
 | [],_,v,hv=>by simp at hv
 | a::r,hn,v,hv=>by
  simp only [pj,Bool.and_eq_true] at hn
  rcases List.mem_cons.1 hv with rfl | hv
  ·exact yV hn.1
  ·exact pP hn.2 v hv
def tG(o:Oper):Bool :=
 match o.op with
 | .call { callee:=.value _,.. }=>true
 | _=>false
theorem Ia{s:List (Nat×AV)}{ρC:Operand→Value}{x:Option Operand}(hx:∀y,x=some y→av Z ψ h w (ρ s y) (ρC y)):dL Z ψ h w (x.map (ρ s)) (x.map ρC):=by
 cases x with
 | none=>trivial
 | some y=>exact hx y rfl
theorem yW{s:List (Nat×AV)}{ρC:Operand→Value}:∀(ps:List (Nat×Operand)),(∀p∈ps,av Z ψ h w (ρ s p.2) (ρC p.2))→(∀p∈ps,ρ s p.2≠.no)→rF Z ψ h w (ps.map fun p=>(p.1,ρ s p.2)) (ps.map fun p=>(p.1,ρC p.2))
 | [],_,_=>trivial
 | p::r,h1,h2=>⟨rfl,h2 p (by simp),h1 p (by simp),yW r (fun q hq=>h1 q (List.mem_cons_of_mem _ hq)) (fun q hq=>h2 q (List.mem_cons_of_mem _ hq))⟩
theorem Ch{k:K}{hh:Heap}:∀{ps:List (Nat×AV)} {i:Nat} {xs:List k.T},pw k hh i ps=some xs→∀p∈ps,p.2≠.no
 | [],_,_,_,p,hp=>by simp at hp
 | (j,v)::r,i,xs,hl,p,hp=>by
  simp only [pw] at hl
  split at hl
  ·split at hl
   ·rename_i x ys h1 h2
    rcases List.mem_cons.1 hp with rfl | hp
    ·exact Cd h1
    ·exact Ch h2 p hp
   ·cases hl
  ·cases hl
theorem TT{α:Type}{l:List α}(h:l.length=0+1+1):∃x y,l=[x,y]:=by
 cases l with
 | nil=>simp at h
 | cons a r=>cases r with
  | nil=>simp at h
  | cons b s=>cases s with
   | nil=>exact ⟨a,b,rfl⟩
   | cons c q=>simp at h
theorem Ib{a:AV}(h:Ss a=true):a≠.no:=by rintro rfl;cases h
section
variable {Eqs:TypeId→Option K} {Sg:FuncId→Option aJ} {F:(f:FuncId)→(g:aJ)→g.A→Option g.B}
theorem DD{hh:Heap}{ρC:Operand→Value}{o:Oper}(g:Good Z ψ h w B0 O)(hB:B0≤w.heap.size)(br:∀id o,hh.get id=some o→h id=some o){id:Nat}(hN:N id){t:TypeId}{s x:AV}{u v:Value}{e:bE}
  (hs:av Z ψ h w s u) (hx:av Z ψ h w x v) (DE:aH (fun i=>¬N i) s) (bg:∀i ty cs,h i=some (.box ty cs)→aA (fun i=>¬N i) cs) (lS:∀v hw,e=.wr v hw→hh.get=h) (he:mN P hh id t s x some=some e)
  (da:∀V w',(Builtin.append_ #[t,t] o.type #[u,v]).run P w=.ok V w'→(execOp ρC o).run P w=.ok (.value V) w'):gq P ρC o Z ψ h w B0 O N e:=by
 have Qr:∀i ty cs,h i=some (.box ty cs)→aA (fun i=>i≠id) cs:=fun i ty cs hb=>(bg i ty cs hb).imp (fun j hj e=>hj (by rw [e];exact hN))
 unfold mN at he
 split at he
 ·cases he
 ·rename_i et het
  have ht:=mz het
  split at he
  ·cases he
  ·rename_i kk QS
   split at he
   ·rename_i ys BC lJ
    obtain ⟨inf,z,HC⟩:=ct lJ
    split at he
    ·
     cases hc:aM 0 ys.length with
     | false=>rw [hc] at he;cases he
     | true =>
      rw [hc] at he;cases he
      simp only [aM,decide_eq_true_eq] at hc
      simp only [av] at hs
      subst hs
      obtain ⟨V,w',h1,h2,h3⟩:=oM (P:=P) (ty:=o.type) g br hB hN ht HC BC hx (by omega) Qr
      refine ⟨V,w',Z,_,.inl (da V w' h1),by simp only [bE.hp];rw [gY];exact h2,?_⟩
      simp only [bE.v,bE.hp,av]
      exact ⟨h3,fun _=>(ba _ _ _).symm⟩
    ·
     rename_i cF
     split at he
     ·rename_i e' k' xs hg
      split at he
      ·rename_i hc
       obtain ⟨rfl,rfl⟩:=hc
       cases tf:aM xs.length ys.length with
       | false=>rw [tf] at he;cases he
       | true =>
        rw [tf] at he;cases he
        simp only [aM,decide_eq_true_eq] at tf
        have heq:=lS _ _ rfl
        have uN:=br _ _ hg
        simp only [av] at hs
        have hu:=hs.2 (by rw [uN];simp)
        subst hu
        simp only [aH] at DE
        obtain ⟨V,w',h1,h2,h3⟩:=xd (P:=P) (ty:=o.type) g br hB hN (fun e=>DE (by rw [e];exact hN)) ht HC uN BC hx tf Qr
        refine ⟨V,w',Z,_,.inl (da V w' h1),by simp only [bE.hp];rw [lR,tB,heq];exact h2,?_⟩
        simp only [bE.v,bE.hp,av]
        exact ⟨h3,fun _=>(ba _ _ _).symm⟩
      ·cases he
     ·cases he
    ·
     rename_i ex k' xs
     split at he
     ·rename_i hc
      subst hc
      cases tf:(ex&&((!ys.isEmpty || xs.isEmpty)&&aM xs.length ys.length)) with
      | false=>rw [tf] at he;cases he
      | true =>
       rw [tf] at he;cases he
       simp only [Bool.and_eq_true,Bool.or_eq_true,aM,decide_eq_true_eq,Bool.not_eq_true',List.isEmpty_eq_false_iff,List.isEmpty_iff] at tf
       obtain ⟨rfl,bh,QT⟩:=tf
       obtain ⟨V,w',h1,h2,h3⟩:=yI (P:=P) (ty:=o.type) g br hB hN ht HC hs BC hx (bh.imp List.length_pos_iff.2 (fun h=>h)) QT Qr
       refine ⟨V,w',Z,_,.inl (da V w' h1),by simp only [bE.hp];rw [gY];exact h2,?_⟩
       simp only [bE.v,bE.hp,av]
       exact ⟨h3,fun _=>(ba _ _ _).symm⟩
     ·cases he
    ·cases he
   ·cases he
theorem yX{ρC:Operand→Value}{o:Oper}(g:Good Z ψ h w B0 O)(hB:B0≤w.heap.size){id:Nat}(hN:N id){t:TypeId}{vs:List AV}{us:Array Value}{e:bE}(hr:an Z ψ h w vs us.toList)(h1:∀u∈us.toList,u.oneCell'=true)
  (hm:aA (fun i=>¬N i) vs) (bg:∀i ty cs,h i=some (.box ty cs)→aA (fun i=>¬N i) cs) (he:uV id t vs some=some e)
  (da:(execOp ρC o).run P w=.ok (.value (.pointer (some ⟨w.heap.size,0,none⟩))) (w.alloc (.cells us t))):gq P ρC o Z ψ h w B0 O N e:=by
 unfold uV at he
 cases he
 have bh:∀i,¬N i→i≠id:=fun j hj e=>hj (by rw [e];exact hN)
 have n:=yD (N:=N) g hB id t hN hr h1 (fun i ty cs hb=>(bg i ty cs hb).imp bh) (hm.imp bh)
 refine ⟨_,_,Z,_,.inl da,by simp only [bE.hp];rw [gY];exact n,?_⟩
 simp only [bE.v,bE.hp,av]
 exact ⟨_,rfl,fun _=>by rw [ba];simp [QK]⟩
theorem KS{hh:Heap}{ρC:Operand→Value}{s:List (Nat×AV)}{o:Oper}(g:Good Z ψ h w B0 O)(hB:B0≤w.heap.size)(br:∀id o,hh.get id=some o→h id=some o){id:Nat}(hN:N id){t:TypeId}{n:Nat}{ps:Array (Nat×Operand)}{e:bE}
  (mK:∀p∈ps.toList,av Z ψ h w (ρ s p.2) (ρC p.2)) (bg:∀i ty cs,h i=some (.box ty cs)→aA (fun i=>¬N i) cs) (kd:Bool) {e0:bE} (QU:e=if kd then QJ e0 else e0) (lS:∀v hw,e=.wr v hw→hh.get=h) (he:ti P hh id t n (ps.toList.map fun p=>(p.1,ρ s p.2)) some=some e0)
  (da:∀V w',(Instr.buildSlice t n (ps.map fun p=>(p.1,ρC p.2))).run P w=.ok V w'→(execOp ρC o).run P w=.ok (.value V) w'):gq P ρC o Z ψ h w B0 O N e:=by
 have Qr:∀i ty cs,h i=some (.box ty cs)→aA (fun i=>i≠id) cs:=fun i ty cs hb=>(bg i ty cs hb).imp (fun j hj e=>hj (by rw [e];exact hN))
 unfold ti at he
 split at he
 ·cases he
 ·rename_i et het
  have ht:=mz het
  split at he
  ·cases he
  ·rename_i k hk
   split at he
   ·cases he
   ·cases he
   ·rename_i xs mT lJ
    obtain ⟨inf,z,HC⟩:=ct lJ
    have Ic:=yW (Z:=Z) (ψ:=ψ) (h:=h) (w:=w) ps.toList mK (fun p hp=>Ch mT (p.1,ρ s p.2) (List.mem_map.2 ⟨p,hp,rfl⟩))
    have JF:rF Z ψ hh.get w (ps.toList.map fun p=>(p.1,ρ s p.2)) (ps.map fun p=>(p.1,ρC p.2)).toList:=by
     rw [Array.toList_map];exact Ic.oW br
    split at he
    ·rename_i hc
     obtain ⟨rfl,hn⟩:=hc
     cases pN:pj ((ps.toList.map fun p=>(p.1,ρ s p.2)).map (·.2)) with
     | true =>
      rw [pN] at he;cases he
      have abj:=pP pN
      obtain ⟨V,w',h1,h2,h3⟩:=E2 (P:=P) (N:=N) g (g.sub br) (fun _ h=>h) hB hN ht HC (fun p hp i b hm=>absurd hm (abj p.2 (List.mem_map.2 ⟨p,hp,rfl⟩) i)) JF mT hn Qr
      cases kd with
      | false =>
       have QU:e=.new (.bF id) [(id,.own (.row et k) xs)]:=QU
       subst QU
       refine ⟨V,w',Z,_,.inl (da V w' h1),by simp only [bE.hp];rw [gY];exact h2,?_⟩
       simp only [bE.v,bE.hp,av]
       exact ⟨h3.1,fun _=>(ba _ _ _).symm⟩
      | true =>
       have QU:e=.new (.sl true k xs) []:=QU
       subst QU
       obtain ⟨m1,m2⟩:=MQ g hB h2 h3.2.1 h3.2.2.1 h3.2.2.2
       have e1:(bE.new (.sl true k xs) []).hp h=h:=by funext i;simp [bE.hp,Heap.get]
       refine ⟨V,w',_,_,.inl (da V w' h1),by rw [e1];exact m1,?_⟩
       rw [e1];exact m2
     | false =>
      rw [pN] at he;cases he
      have QU:e=.wr (.bF id) ((id,.own (.row et k) xs)::cy hh ((ps.toList.map fun p=>(p.1,ρ s p.2)).flatMap (·.2.cells))):=by
       rw [QU];cases kd<;>rfl
      subst QU
      have heq:=lS _ _ rfl
      subst heq
      let cs:=(ps.toList.map fun p=>(p.1,ρ s p.2)).flatMap (·.2.cells)
      have gd:=gX g cs
      obtain ⟨V,w',h1,h2,h3⟩:=E2 (P:=P) (N:=N) gd g (fun b hb=>.inl hb) hB hN ht HC (fun p hp i b hm bh hb=>.inr ⟨i,List.mem_flatMap.2 ⟨p,hp,hm⟩,bh,hb⟩) JF mT hn (fun i ty cs' hb=>Qr i ty cs' (dO _ _ _ _ hb))
      refine ⟨V,w',o8 Z ψ hh.get cs,dK ψ id V,.inl (da V w' h1),?_,?_⟩
      ·simp only [bE.hp]
       rw [yM]
       exact h2.drop (fun b hb=>.inl hb) (fun b hb=>hb.imp (fun h=>h) (fun ⟨i,_,h5,h6⟩=>⟨i,h5,h6⟩)) (dO _ _)
      ·simp only [bE.v,bE.hp,av]
       exact ⟨h3.1,fun _=>(ba _ _ _).symm⟩
    ·cases he
theorem KT{kd:Bool}{h:Heap}{id:Nat}{t:TypeId}{n:Nat}{ps:List (Nat×AV)}{e:bE}(he:uW P kd h id t n ps some=some e):∃e0,ti P h id t n ps some=some e0∧e=if kd then QJ e0 else e0:=by
 unfold uW ti at he
 unfold ti
 split at he
 ·cases he
 split at he
 ·cases he
 split at he
 ·cases he
 ·cases he
 split at he
 ·rename_i hc
  rw [if_pos hc]
  cases pN:pj (ps.map (·.2)) with
  | true=>rw [pN] at he;exact ⟨_,rfl,(Option.some.inj he).symm⟩
  | false=>rw [pN] at he;exact ⟨_,rfl,(Option.some.inj he).symm⟩
 ·cases he
theorem yY(p:Nat→Prop)(v:Value):aH p (uP v):=by
 cases v with
 | pointer a=>simp only [uP];split<;>simp only [aH]
 | slice a n c=>simp only [uP];split<;>simp only [aH]
 | func fn first cap =>
  cases fn with
  | func f=>simp only [uP];split<;>simp only [aH,aA]
  | _=>simp only [uP,aH]
 | _=>simp only [uP,aH]
theorem u7(p:Nat→Prop):∀vs:List Value,aA p (vs.map uP)
 | []=>by simp [aA]
 | v::r=>by simp only [List.map_cons,aA];exact ⟨yY p v,u7 p r⟩
theorem KU(p:Nat→Prop)(v:Value):aA p (sj v).cells:=by
 cases v with
 | agg cs=>simp only [sj,AV.cells];exact u7 p _
 | _=>simp only [sj];rw [Cc];simp only [aA];exact ⟨yY p _,trivial⟩
theorem M0(Bp:∀t k,Eqs t=some k→k0 P t k){hh:Heap}{ρC:Operand→Value}{s:List (Nat×AV)}{o:Oper}(g:Good Z ψ h w B0 O)(hB:B0≤w.heap.size)(br:∀id o,hh.get id=some o→h id=some o){id:Nat}(hN:makes o.op=true→N id){e:bE}
  (mK:∀x∈o.op.operands,av Z ψ h w (ρ s x) (ρC x)) (hm:∀x∈o.op.operands,aH (fun i=>¬N i) (ρ s x)) (bg:∀i ty cs,h i=some (.box ty cs)→aA (fun i=>¬N i) cs) (lS:∀v hw,e=.wr v hw→hh.get=h)
  (HH:tG o=false) (he:cI P Eqs Sg F id hh s o some=some e):gq P ρC o Z ψ h w B0 O N e:=by
 obtain ⟨dst,op,type,pos,after,guard⟩:=o
 have two:∀{a b:Operand},(∀x∈(#[a,b]:Array Operand),av Z ψ h w (ρ s x) (ρC x))→av Z ψ h w (ρ s a) (ρC a)∧av Z ψ h w (ρ s b) (ρC b):=fun hx=>⟨hx _ (by simp),hx _ (by simp)⟩
 cases op<;>simp only [cI] at he<;>simp only [Op.operands] at mK hm<;>first | (cases he;done) | skip
 case move x=>cases he;exact gq.val g (V:=ρC x) (by simp [execOp]) (mK x (by simp))
 case assign x=>cases he;exact gq.val g (V:=ρC x) (by simp [execOp]) (mK x (by simp))
 case pick c a b =>
  have h1:=mK c (by simp);have h2:=mK a (by simp);have h3:=mK b (by simp)
  split at he
  ·rename_i t ht
   cases he
   rw [ht] at h1
   simp only [av] at h1
   refine gq.val g (V:=if t then ρC a else ρC b) (by simp [execOp,h1,asBool]) ?_
   unfold Sr
   split
   ·rename_i p q hp hq
    rw [hp] at h2;rw [hq] at h3
    simp only [av] at h2 h3 ⊢
    cases t<;>simp [h2,h3]
   ·cases t
    ·exact h3
    ·exact h2
  ·cases he
 case alloc t =>
  split at he
  ·rename_i z hz
   obtain ⟨i,zv,hi,Wr,rfl,h1⟩:=nQ hz
   exact yX (us:=zv.cells) g hB (hN rfl) (yK zv) h1 (KU _ zv) bg he (by simp [execOp,Instr.alloc,tz hi Wr,newVar,newRow,newObj,Sem.run])
  ·cases he
 case box t x =>
  have h1:=mK x (by simp)
  split at he
  ·rename_i hp
   have hc:=h1.cells (E6 hp)
   exact yX (us:=(ρC x).cells) g hB (hN rfl) hc (sF hp hc) (hm x (by simp)).cells bg he (by simp [execOp,Instr.box,newVar,newRow,newObj,Sem.run])
  ·cases he
 case build t ps =>
  unfold qA at he
  split at he
  ·rename_i z fs hz hf
   split at he
   ·rename_i cs Wx eU
    cases he
    simp only [Bool.and_eq_true] at eU
    obtain ⟨eU,hnn⟩:=eU
    have Wy:fs.toList.all (fun f=>(P.info? f.type).isSome)=true:=eU
    have TU:∀p∈ps.toList,av Z ψ h w (ρ s p.2) (ρC p.2):=fun p hp=>mK p.2 (by simp;exact ⟨p.1,by simpa using hp⟩)
    have Ic:=yW (Z:=Z) (ψ:=ψ) (h:=h) (w:=w) ps.toList TU (fun p hp=>Ib (List.all_eq_true.1 hnn (p.1,ρ s p.2) (List.mem_map.2 ⟨p,hp,rfl⟩)))
    obtain ⟨V,h1,h2⟩:=KJ (P:=P) (qs:=ps.map fun p=>(p.1,ρC p.2)) hz hf Wy (by rw [Array.toList_map];exact Ic) Wx
    exact gq.val g (V:=V) (by simp only [execOp,Sem.run_bind];rw [h1];simp) h2
   ·cases he
  ·cases he
 case buildSlice t n ps =>
  have TU:∀p∈ps.toList,av Z ψ h w (ρ s p.2) (ρC p.2):=fun p hp=>mK p.2 (by simp;exact ⟨p.1,by simpa using hp⟩)
  obtain ⟨e0,h0,h1⟩:=KT he
  exact KS g hB br (hN rfl) TU bg ((Sg (900000+t)).isSome) h1 lS h0 (fun V w' h1=>by simp only [execOp,Sem.run_bind];rw [h1];simp)
 case load t a =>
  obtain ⟨x,V,rfl,h1,h2⟩:=sD g br (mK a (by simp)) he
  exact gq.val g (V:=V) (by simp [execOp,h1]) h2
 case store t a v =>
  obtain ⟨h1,h2⟩:=two mK
  have hw:∃hw,e=.wr .no hw:=by
   obtain ⟨hw,_,_,h3,_⟩:=wu (P:=P) (N:=N) (g.sub br) (h1.oW br) (h2.oW br) he
   exact ⟨hw,h3⟩
  obtain ⟨hw,rfl⟩:=hw
  have heq:=lS _ _ rfl
  subst heq
  obtain ⟨H8,w',Z',h3,h4,h5⟩:=wu (P:=P) (N:=N) g h1 h2 he
  cases h3
  exact ⟨undef,w',Z',ψ,.inr ⟨by simp [execOp,h4],rfl⟩,h5,by simp only [bE.v,av]⟩
 case nilCheck x =>
  have h1:=mK x (by simp)
  split at he
  ·rename_i id s i off hx
   cases he
   rw [hx] at h1
   have h2:=h1
   simp only [av] at h1
   obtain ⟨a,ha,_⟩:=h1
   exact gq.val g (V:=ρC x) (by simp [execOp,ha]) h2
  ·rename_i k y off hx
   cases he
   rw [hx] at h1
   have h2:=h1
   simp only [av] at h1
   obtain ⟨a,us,ha,_⟩:=h1
   exact gq.val g (V:=ρC x) (by simp [execOp,ha]) h2
  ·rename_i f cap hx
   cases he
   rw [hx] at h1
   have h2:=h1
   simp only [av] at h1
   obtain ⟨vs,ha,_⟩:=h1
   exact gq.val g (V:=ρC x) (by simp [execOp,ha]) h2
  ·cases he
 case binOp op t x y yt =>
  obtain ⟨h1,h2⟩:=two mK
  obtain ⟨r,V,rfl,h3,h4⟩:=KP Bp (xo:=x) (yo:=y) h1 h2 he
  exact gq.val g (V:=V) (by simp only [execOp,Sem.run_bind] at h3 ⊢;rw [h3];simp) h4
 case unOp op t x =>
  have h1:=mK x (by simp)
  cases op<;>simp only at he<;>first | (cases he;done) | skip
  split at he
  ·rename_i b hx
   cases he
   rw [hx] at h1
   simp only [av] at h1
   exact gq.val g (V:=.bool (!b)) (by simp [execOp,h1,Op.unary]) (by simp only [av])
  ·cases he
 case convert src dst x =>
  have h1:=mK x (by simp)
  unfold yv at he
  split at he
  ·rename_i k1 k2 k3 n hs hd hx
   cases he
   rw [hx] at h1
   simp only [av] at h1
   exact gq.val g (V:=.int k2 (k2.wrap n)) (by simp [execOp,h1,convert,run_underlying hs,run_underlying hd,Conv.intToInt]) (by simp only [av])
  ·rename_i sv hs hd hx
   cases he
   rw [hx] at h1
   have h2:=h1
   simp only [av] at h1
   exact gq.val g (V:=ρC x) (by simp [execOp,h1,convert,run_underlying hs,run_underlying hd]) h2
  ·cases he
 case makeFunc fn first cap =>
  cases fn<;>simp only at he<;>first | (cases he;done) | skip
  rename_i f
  split at he
  ·rename_i hf
   cases he
   have h0:first=#[]:=Array.eq_empty_of_size_eq_zero hf
   subst h0
   have hl:∀l:List Operand,(∀x∈l,av Z ψ h w (ρ s x) (ρC x))→an Z ψ h w (l.map (ρ s)) (l.map ρC):=by
    intro l
    induction l with
    | nil=>intro _;simp [an]
    | cons a r ih=>intro ha;simp only [List.map_cons,an];exact ⟨_,_,rfl,ha a (by simp),ih (fun x hx=>ha x (List.mem_cons_of_mem _ hx))⟩
   exact gq.val g (V:=.func (.func f) #[] (cap.map ρC)) (by simp [execOp,Instr.makeFunc]) (by simp only [av];exact ⟨_,rfl,by rw [Array.toList_map];exact hl _ (fun x hx=>mK x (by simp;simpa using hx))⟩)
  ·cases he
 case slice t x lo hi mx =>
  have h1:=mK x (by simp)
  have h2:dL Z ψ h w (lo.map (ρ s)) (lo.map ρC):=Ia (fun y hy=>mK y (by subst hy;simp))
  have h3:dL Z ψ h w (hi.map (ρ s)) (hi.map ρC):=Ia (fun y hy=>mK y (by subst hy;simp))
  have h4:dL Z ψ h w (mx.map (ρ s)) (mx.map ρC):=Ia (fun y hy=>mK y (by subst hy;simp))
  split at he
  ·rename_i ht
   unfold ym at he
   split at he
   ·rename_i sv hx hmx
    split at he
    ·rename_i l u hb
     cases ho:aW sv.size l u with
     | false=>rw [ho] at he;cases he
     | true =>
      rw [ho] at he;cases he
      rw [hx] at h1
      simp only [av] at h1
      have hm0:mx=none:=by cases mx with
       | none=>rfl
       | some m=>simp at hmx
      subst hm0
      have da:=sE (P:=P) (w:=w) (b:=false) (Nat.le_refl sv.size) h2 h3 (mx:=none) (mx':=none) trivial hb ho (.inl rfl)
      exact gq.val g (V:=.string (TF sv l u)) (by simp [execOp,Instr.sliceAt,Instr.slice,run_underlying ht,h1,da,TF]) (by simp only [av])
    ·cases he
   ·cases he
  ·rename_i et ht
   split at he
   ·rename_i TP
    obtain ⟨V,Z',h5,h6,h7⟩:=E5 (P:=P) (N:=N) g br ht h1 h2 h3 h4 lS he TP
    exact ⟨V,w,Z',ψ,.inl (by simp [execOp,h5]),h6,h7⟩
   ·cases he
  ·cases he
 case fieldAddr t x f =>
  have h1:=mK x (by simp)
  split at he
  ·rename_i n ft id sz i off hf hx
   split at he
   ·cases he
   ·rename_i hc
    cases he
    rw [hx] at h1
    obtain ⟨V,h2,h3⟩:=rJ (P:=P) hf hc h1
    exact gq.val g (V:=V) (by simp [execOp,h2]) h3
  ·rename_i n ft k y off hf hx
   split at he
   ·cases he
   ·rename_i hc
    cases he
    rw [hx] at h1
    obtain ⟨V,h2,h3⟩:=tC (P:=P) hf hc h1
    exact gq.val g (V:=V) (by simp [execOp,h2]) h3
  ·cases he
 case field t x f =>
  have h1:=mK x (by simp)
  split at he
  ·rename_i n ft cs hf hx
   split at he
   ·rename_i v hv
    cases he
    rw [hx] at h1
    obtain ⟨V,h2,h3⟩:=E4 (P:=P) hf h1 hv
    exact gq.val g (V:=V) (by simp [execOp,h2]) h3
   ·cases he
  ·cases he
 case indexAddr t x i =>
  obtain ⟨h1,h2⟩:=two mK
  obtain ⟨y,V,rfl,h3,h4⟩:=oO g br h1 h2 he
  exact gq.val g (V:=V) (by simp [execOp,h3]) h4
 case index t x i =>
  obtain ⟨h1,h2⟩:=two mK
  split at he
  ·rename_i sv ik n ht hx hi
   obtain ⟨c,hc,Qo⟩:=Option.bind_eq_some_iff.1 he
   cases Qo
   rw [hx] at h1;rw [hi] at h2
   simp only [av] at h1 h2
   exact gq.val g (V:=.int .u8 (c.toNat:Int)) (by simp [execOp,Instr.index,asIntOf,run_underlying ht,h1,h2,hc]) (by simp only [av])
  ·cases he
 case extract t i =>
  have h1:=mK t (by simp)
  split at he
  ·rename_i vs hx
   split at he
   ·rename_i v hv
    cases he
    rw [hx] at h1
    simp only [av] at h1
    obtain ⟨us,hu,hl⟩:=h1
    obtain ⟨u,h2,h3⟩:=hl.get i hv
    exact gq.val g (V:=u) (by simp [execOp,Instr.extract,hu,show us[i]? = some u by simpa using h2]) h3
   ·cases he
  ·cases he
 case makeMap t r =>
  cases r with
  | some r=>cases he
  | none =>
   simp only at he
   have Qr:∀i ty cs,h i=some (.box ty cs)→aA (fun i=>i≠id) cs:=fun i ty cs hb=>(bg i ty cs hb).imp (fun j hj e=>hj (by rw [e];exact hN rfl))
   obtain ⟨V,w',ψ',h1,h2,h3⟩:=BB g hB (hN rfl) Qr he
   exact ⟨V,w',Z,ψ',.inl (by simp [execOp,h1]),h2,h3⟩
 case lookup t m i ok =>
  obtain ⟨h1,h2⟩:=two mK
  obtain ⟨y,V,rfl,h3,h4⟩:=DB Bp g br h1 h2 he
  exact gq.val g (V:=V) (by simp [execOp,h3]) h4
 case mapUpdate t m i v =>
  have h1:=mK m (by simp);have h2:=mK i (by simp);have h3:=mK v (by simp)
  have hw:∃hw,e=.wr (.mJ []) hw:=by
   obtain ⟨hw,_,_,h4,_⟩:=tE (N:=N) Bp (g.sub br) (h1.oW br) (h2.oW br) (h3.oW br) he
   exact ⟨hw,h4⟩
  obtain ⟨hw,rfl⟩:=hw
  have heq:=lS _ _ rfl
  subst heq
  obtain ⟨H8,w',Z',h4,h5,h6⟩:=tE (N:=N) Bp g h1 h2 h3 he
  cases h4
  exact ⟨undef,w',Z',ψ,.inr ⟨by simp [execOp,h5],rfl⟩,h6,by simp only [bE.v,av,an];exact ⟨#[],rfl,rfl⟩⟩
 case range t x =>
  have Qr:∀i ty cs,h i=some (.box ty cs)→aA (fun i=>i≠id) cs:=fun i ty cs hb=>(bg i ty cs hb).imp (fun j hj e=>hj (by rw [e];exact hN rfl))
  obtain ⟨V,w',ψ',h1,h2,h3⟩:=DC g hB (hN rfl) (mK x (by simp)) Qr he
  exact ⟨V,w',Z,ψ',.inl (by simp [execOp,h1]),h2,h3⟩
 case next x b =>
  cases b with
  | false=>cases he
  | true =>
   obtain ⟨V,w',h1,h2,h3⟩:=E9 (P:=P) (N:=N) (ty:=type) g br (mK x (by simp)) lS he
   exact ⟨V,w',Z,ψ,.inl (by simp [execOp,h1]),h2,h3⟩
 case entry x =>
  obtain ⟨y,V,rfl,h1,h2⟩:=Fa (P:=P) g br (mK x (by simp)) he
  exact gq.val g (V:=V) (by simp [execOp,h1]) h2
 case call c =>
  obtain ⟨callee,args,argTypes⟩:=c
  cases callee with
  | value f=>simp [tG] at HH
  | invoke r m=>simp only at he;cases he
  | builtin b =>
   have kt:∀x∈args.toList,av Z ψ h w (ρ s x) (ρC x):=fun x hx=>mK x (by simp only [Call.operands];exact Array.mem_append.2 (.inr (by simpa using hx)))
   have M1:∀x∈args.toList,aH (fun i=>¬N i) (ρ s x):=fun x hx=>hm x (by simp only [Call.operands];exact Array.mem_append.2 (.inr (by simpa using hx)))
   obtain ⟨args⟩:=args
   obtain ⟨argTypes⟩:=argTypes
   simp only at he kt M1
   cases b<;>simp only at he<;>first | (cases he;done) | skip
   case append =>
    split at he
    ·rename_i l1 l2 x y t t'
     split at he
     ·rename_i htt
      subst htt
      exact DD g hB br (hN rfl) (kt x (by simp)) (kt y (by simp)) (M1 x (by simp)) bg lS he (fun V w' h1=>by
       simp only [execOp,resolve,invoke,builtin,Sem.run_bind,Sem.run_pure,Result.andThen_ok,List.map_toArray,List.map_cons,List.map_nil,h1])
     ·cases he
    ·cases he
   case delete =>
    split at he
    ·rename_i l1 l2 m x t ts
     have h1:=kt m (by simp);have h2:=kt x (by simp)
     have hw:∃hw,e=.wr (.mJ []) hw:=by
      obtain ⟨hw,_,h4,_⟩:=tF (N:=N) (ty:=type) (ts:=ts) Bp (g.sub br) (h1.oW br) (h2.oW br) he
      exact ⟨hw,h4⟩
     obtain ⟨hw,rfl⟩:=hw
     have heq:=lS _ _ rfl
     subst heq
     obtain ⟨H8,w',h4,h5,h6⟩:=tF (N:=N) (ty:=type) (ts:=ts) Bp g h1 h2 he
     cases h4
     exact ⟨.tuple #[],w',Z,ψ,.inl (by simp only [execOp,resolve,invoke,builtin,Sem.run_bind,Sem.run_pure,Result.andThen_ok,List.map_toArray,List.map_cons,List.map_nil,h5]),h6,by simp only [bE.v,av,an];exact ⟨#[],rfl,rfl⟩⟩
    ·cases he
   case len =>
    split at he
    ·rename_i l1 l2 x t
     split at he
     ·rename_i htm
      obtain ⟨n,rfl,h1⟩:=H9 (P:=P) (ty:=type) g br htm (kt x (by simp)) he
      exact gq.val g (V:=.int .i64 (n:Int)) (by simp only [execOp,resolve,invoke,builtin,Sem.run_bind,Sem.run_pure,Result.andThen_ok,List.map_toArray,List.map_cons,List.map_nil,h1]) (by simp only [av])
     split at he
     ·rename_i aG
      obtain ⟨n,rfl,h1⟩:=KN g br (kt x (by simp)) he
      refine gq.val g (V:=.int .i64 (n:Int)) ?_ (by simp only [av])
      rcases h1 with ⟨sv,h2,h3,rfl⟩ | ⟨A,c,h3⟩
      ·unfold TG at aG
       rw [h2] at aG
       split at aG
       ·rename_i hu _
        simp [execOp,resolve,invoke,builtin,Builtin.len_,run_underlying hu,h3,goInt]
       ·cases aG
       ·rename_i h9;exact (h9 _ rfl).elim
       ·cases aG
      ·have hu:∃e,P.underlying t=some (.slice e):=by
        have h4:=kt x (by simp)
        rw [h3] at h4
        unfold TG at aG
        split at aG
        ·rename_i sv _ hxx
         rw [hxx] at h4;simp only [av] at h4;cases h4
        ·cases aG
        ·rename_i e _ hu _;exact ⟨_,hu⟩
        ·cases aG
       obtain ⟨e,hu⟩:=hu
       simp [execOp,resolve,invoke,builtin,Builtin.len_,run_underlying hu,h3,goInt]
     ·cases he
    ·cases he
   all_goals
    unfold KE at he
    split at he
    ·rename_i k a k' b QV
     have hl:=congrArg List.length QV
     simp only [List.length_map,List.length_cons,List.length_nil] at hl
     obtain ⟨x,y,rfl⟩:=TT hl
     simp only [List.map_cons,List.map_nil,List.cons.injEq,and_true] at QV
     have h1:=kt x (by simp)
     have h2:=kt y (by simp)
     rw [QV.1] at h1;rw [QV.2] at h2
     simp only [av] at h1 h2
     split at he
     ·rename_i hk
      subst hk
      cases he
      refine gq.val g (V:=bP (.int _ _)) ?_ (jr _ _)
      first
       | (simp [execOp,resolve,invoke,builtin,Builtin.max_,Builtin.max2,h1,h2,bP];simp only [Int.max_def];split<;>split<;>omega)
       | (simp [execOp,resolve,invoke,builtin,Builtin.min_,Builtin.min2,h1,h2,bP];simp only [Int.min_def];split<;>split<;>omega)
     ·cases he
    ·cases he
end
end Go.Vs
namespace Go.Vs
variable {P:Program} {Z Z' Zf:Nat→Prop} {ψ ψ':Nat→Value} {h h':Hp} {w w':World} {B0:Nat} {O:Nat→Prop} {N:Nat→Prop}
abbrev wz:=Nat×Option Nat×Ob
def dn(L:List wz):Heap:=L.map fun e=>(e.1,e.2.2)
def js(ψ:Nat→Value):Option Nat→Value
 | some s=>ψ s
 | none=>.slice none 0 0
def ed(ψ:Nat→Value):List wz→Nat→Value
 | [],_=>undef
 | (i,s,_)::r,n=>if i=n then js ψ s else ed ψ r n
theorem mU{L:List wz}{i:Nat}{o:Ob}(hg:(dn L).get i=some o):∃s,(i,s,o)∈L:=by
 induction L with
 | nil=>simp [dn,Heap.get] at hg
 | cons e r ih =>
  obtain ⟨j,s,o'⟩:=e
  simp only [dn,List.map_cons,Heap.get] at hg
  split at hg
  ·rename_i e;subst e;cases hg;exact ⟨s,List.mem_cons_self⟩
  ·obtain ⟨s',hs⟩:=ih hg;exact ⟨s',List.mem_cons_of_mem _ hs⟩
theorem lU{i:Nat}{r:List Nat}(h:b4 (i::r)=true):i∉r∧b4 r=true:=by
 simp only [b4,Bool.and_eq_true,Bool.not_eq_true'] at h
 exact ⟨fun hm=>by rw [List.contains_iff_mem.2 hm] at h;simp at h,h.2⟩
theorem ib{L:List wz}(hn:b4 (L.map (·.1))=true){i:Nat}{s:Option Nat}{o:Ob}(hm:(i,s,o)∈L):ed ψ L i=js ψ s:=by
 induction L with
 | nil=>cases hm
 | cons e r ih =>
  obtain ⟨j,s',o'⟩:=e
  obtain ⟨h1,h2⟩:=lU hn
  simp only [ed]
  rcases List.mem_cons.1 hm with he | hm
  ·cases he;simp
  ·rw [if_neg,ih h2 hm]
   rintro rfl
   exact h1 (List.mem_map.2 ⟨_,hm,rfl⟩)
theorem QW{L:List wz}(hs:b4 (L.filterMap (·.2.1))=true){i j s:Nat}{o o':Ob}(h1:(i,some s,o)∈L)(h2:(j,some s,o')∈L):i=j∧o=o':=by
 induction L with
 | nil=>cases h1
 | cons e r ih =>
  obtain ⟨k,s',o''⟩:=e
  have mem:∀{k:Nat} {o:Ob},(k,some s,o)∈r→s∈r.filterMap (·.2.1):=fun h=>List.mem_filterMap.2 ⟨_,h,rfl⟩
  rw [List.filterMap_cons] at hs
  cases s' with
  | none =>
   simp only [] at hs
   exact ih hs ((List.mem_cons.1 h1).resolve_left (by simp)) ((List.mem_cons.1 h2).resolve_left (by simp))
  | some s' =>
   simp only [] at hs
   obtain ⟨h3,h4⟩:=lU hs
   rcases List.mem_cons.1 h1 with e1 | m1<;>rcases List.mem_cons.1 h2 with e2 | m2
   ·cases e1;cases e2;exact ⟨rfl,rfl⟩
   ·cases e1;exact absurd (mem m2) h3
   ·cases e2;exact absurd (mem m1) h3
   ·exact ih h4 m1 m2
def Fb:(ok:OK)→ok.T→Prop
 | .row _ _,xs=>xs=[]
 | _,_=>False
theorem Fb.owns:∀{ok:OK} {xs:ok.T},Fb ok xs→jf Z w ok (.slice none 0 0) xs
 | .row ty k,xs,h=>by
  have h:xs=[]:=h
  subst h
  exact ⟨[],⟨by simp,.inl ⟨rfl,none,rfl⟩⟩,fun i x hx=>by simp at hx⟩
 | .map _ _,_,h=>h.elim
 | .iter _ _,_,h=>h.elim
 | .mM,_,h=>h.elim
def tH(Z:Nat→Prop)(ψ:Nat→Value)(h:Hp)(w:World)(h':Hp)(ψ':Nat→Value):wz→Prop
 | (_,some s,.own ok xs)=>h s=some (.own ok xs)
 | (_,none,.own ok xs)=>Fb ok xs
 | (_,some s,.box ty cs')=>(∃cs,h s=some (.box ty cs))∧∀gg vs,ψ s=.pointer (some ⟨gg,0,none⟩)→w.heap[gg]? = some (.cells vs ty (0,0))→an Z ψ' h' w cs' vs.toList
 | (_,none,.box _ _)=>False
theorem Good.rename(g:Good Z ψ h w B0 O){L:List wz}(hn:b4 (L.map (·.1))=true)(hs:b4 (L.filterMap (·.2.1))=true)(lJ:∀e∈L,tH Z ψ h w (dn L).get (ed ψ L) e) :
  Good Z (ed ψ L) (dn L).get w B0 O:=by
 have src:∀id b,(dn L).get id≠none→ob (ed ψ L id)=some b→∃s o,(id,some s,o)∈L∧h s≠none∧ob (ψ s)=some b:=fun id b h1 h2=>by
  obtain ⟨o,ho⟩:=Option.ne_none_iff_exists'.1 h1
  obtain ⟨s,hm⟩:=mU ho
  rw [ib hn hm] at h2
  cases s with
  | none=>simp [js,ob] at h2
  | some s =>
   have h3:=lJ _ hm
   refine ⟨s,o,hm,?_,h2⟩
   cases o with
   | box ty cs=>obtain ⟨⟨cs0,h4⟩,_⟩:=h3;rw [h4];simp
   | own ok xs=>rw [show h s=some (.own ok xs) from h3];simp
 refine ⟨fun id ty cs hb => ?_,fun id ok xs hb => ?_,fun id b h1 h2 => ?_,fun id lN b h1 h2 h3 h4 => ?_,g.jm⟩
 ·obtain ⟨s,hm⟩:=mU hb
  have h3:=lJ _ hm
  rw [ib hn hm]
  cases s with
  | none=>exact h3.elim
  | some s =>
   obtain ⟨⟨cs0,h4⟩,h5⟩:=h3
   obtain ⟨gg,vs,h6,h7,h8,h9⟩:=g.box s ty cs0 h4
   exact ⟨gg,vs,h6,h7,h5 gg vs h6 h7,h9⟩
 ·obtain ⟨s,hm⟩:=mU hb
  have h3:=lJ _ hm
  rw [ib hn hm]
  cases s with
  | none=>exact Fb.owns h3
  | some s=>exact g.row s ok xs h3
 ·obtain ⟨s,o,hm,h3,h4⟩:=src id b h1 h2
  exact g.live s b h3 h4
 ·obtain ⟨s,o,hm,h5,h6⟩:=src id b h1 h3
  obtain ⟨s',o',QX,h5',h6'⟩:=src lN b h2 h4
  have:=g.apart s s' b h5 h5' h6 h6'
  subst this
  exact (QW hs hm QX).1
def xy(hh:Heap)(i:Nat):List AV:=match hh.get i with
 | some (.box _ cs)=>cs
 | _=>[]
def dv:(c8:List CK)→Nat→List AV→pe c8→List wz
 | [],_,_,_=>[]
 | .val k::r,n,cs,x=>dv r (n+1) (cs.drop k.sz) x.2
 | .own ok::r,n,cs,x=>(n,(nL (cs.headD .no)).head?,.own ok x.1)::dv r (n+1) cs.tail x.2
def dA:(b:BK)→Heap→Nat→Nat→Nat→b.T→List wz
 | .box ty c,hh,i,i',n,x=>(i',some i,.box ty (az c n x))::dv c n (xy hh i) x
 | .own ok,_,i,i',_,x=>[(i',some i,.own ok x)]
def cm:(bs:List BK)→Heap→List Nat→List Nat→Nat→uQ bs→List wz
 | b::r,hh,i::is,i'::is',n,x=>dA b hh i i' n x.1++cm r hh is is' (n+16) x.2
 | _,_,_,_,_,_=>[]
theorem lV:∀(c8:List CK) (n:Nat) (cs:List AV) (x:pe c8),dn (dv c8 n cs x)=aQ c8 n x
 | [],_,_,_=>rfl
 | .val k::r,n,cs,x=>lV r (n+1) _ x.2
 | .own ok::r,n,cs,x=>by simp only [dv,aQ,dn,List.map_cons];rw [←lV r (n+1) cs.tail x.2];rfl
theorem kB:∀(c8:List CK) (n:Nat) (cs:List AV) (x:pe c8),(dv c8 n cs x).map (·.1)=cc c8 n
 | [],_,_,_=>rfl
 | .val k::r,n,cs,x=>kB r (n+1) _ x.2
 | .own ok::r,n,cs,x=>by simp only [dv,cc,List.map_cons];rw [kB r (n+1) cs.tail x.2]
theorem u9(c:AV):(nL c).head?.toList=nL c:=by cases c<;>rfl
theorem dB{α β:Type}(f:α→Option β)(a:α)(l:List α):(a::l).filterMap f=(f a).toList++l.filterMap f:=by
 rw [List.filterMap_cons];cases f a<;>rfl
theorem nV{k:K}{r:List CK}{hh:Heap}{cs:List AV}{x:pe (.val k::r)}(hd:cE (.val k::r) hh cs=some x):dI k ((cs.take k.sz).map (cC hh))=some x.1∧cE r hh (cs.drop k.sz)=some x.2:=by
 have e:cE (.val k::r) hh cs=(match dI k ((cs.take k.sz).map (cC hh)),cE r hh (cs.drop k.sz) with
  | some x,some y=>some ((x,y):k.T×pe r)
  | _,_=>none):=by cases cs<;>rfl
 rw [e] at hd
 clear e
 generalize dI k ((cs.take k.sz).map (cC hh))=o1 at hd ⊢
 generalize cE r hh (cs.drop k.sz)=o2 at hd ⊢
 cases o1 with
 | none=>cases hd
 | some x1 =>
  cases o2 with
  | none=>cases hd
  | some y1=>have:=Option.some.inj hd;subst this;exact ⟨rfl,rfl⟩
theorem k9{ok:OK}{r:List CK}{hh:Heap}{cs:List AV}{x:pe (.own ok::r)}(hd:cE (.own ok::r) hh cs=some x):∃c cs',cs=c::cs'∧dE hh ok c=some x.1∧cE r hh cs'=some x.2:=by
 cases cs with
 | nil=>cases hd
 | cons c cs =>
  refine ⟨c,cs,rfl,?_⟩
  have e:cE (.own ok::r) hh (c::cs)=(match dE hh ok c,cE r hh cs with
   | some x,some y=>some ((x,y):ok.T×pe r)
   | _,_=>none):=rfl
  rw [e] at hd
  clear e
  generalize dE hh ok c=o1 at hd ⊢
  generalize cE r hh cs=o2 at hd ⊢
  cases o1 with
  | none=>cases hd
  | some x1 =>
   cases o2 with
   | none=>cases hd
   | some y1=>have:=Option.some.inj hd;subst this;exact ⟨rfl,rfl⟩
theorem nW:∀(c8:List CK) (n:Nat) (hh:Heap) (cs:List AV) (x:pe c8),cE c8 hh cs=some x→(dv c8 n cs x).filterMap (·.2.1)=fi c8 cs
 | [],_,_,cs,_,_=>by cases cs<;>rfl
 | .val k::r,n,hh,cs,x,hd=>by
  obtain ⟨_,h2⟩:=nV hd
  have e:fi (.val k::r) cs=fi r (cs.drop k.sz):=by cases cs<;>rfl
  rw [e]
  exact nW r (n+1) hh _ x.2 h2
 | .own ok::r,n,hh,cs,x,hd=>by
  obtain ⟨c,cs',rfl,_,h2⟩:=k9 hd
  simp only [dv,fi]
  rw [dB]
  simp only [List.headD_cons,List.tail_cons]
  rw [u9,nW r (n+1) hh cs' x.2 h2]
theorem la{hh:Heap}{ok:OK}{c:AV}{xs:ok.T}(ho:dE hh ok c=some xs):(c=.fB∧Fb ok xs)∨∃id,c=.bF id∧hh.get id=some (.own ok xs):=by
 unfold dE at ho
 split at ho
 ·cases ok with
  | row _ _=>cases ho;exact .inl ⟨rfl,rfl⟩
  | _=>cases ho
 ·rename_i id
  split at ho
  ·rename_i w8 k' Wo hg
   split at ho
   ·rename_i e
    subst e
    cases ho
    exact .inr ⟨id,rfl,hg⟩
   ·cases ho
  ·cases ho
 ·cases ho
theorem DF{hh:Heap}{ok:OK}{c:AV}{xs:ok.T}{v:Value}(ho:dE hh ok c=some xs)(hr:av Z ψ hh.get w c v){n:Nat}(iC:h' n≠none→ψ' n=js ψ (nL c).head?):av Z' ψ' h' w' (.bF n) v:=by
 rcases la ho with ⟨rfl,_⟩ | ⟨id,rfl,hg⟩
 ·simp only [av] at hr ⊢
  subst hr
  exact ⟨⟨rfl,rfl⟩,fun hn=>(iC hn).symm⟩
 ·simp only [av] at hr ⊢
  refine ⟨hr.1,fun hn => ?_⟩
  rw [iC hn]
  exact hr.2 (by rw [hg];simp)
theorem qK{hh:Heap}(g:Good Z ψ hh.get w B0 O)(hz:∀b,Z b→Z' b):∀(c8:List CK) (n:Nat) (cs:List AV) (x:pe c8) (vs:List Value),cE c8 hh cs=some x →
  (∀id b,AV.bF id∈oK c8 cs→hh.get id≠none→ob (ψ id)=some b→Z' b)→(∀e∈dv c8 n cs x,h' e.1≠none→ψ' e.1=js ψ e.2.1) →
  an Z ψ hh.get w cs vs→an Z' ψ' h' w (az c8 n x) vs
 | [],n,cs,x,vs,hd,_,_,hr=>by
  cases cs with
  | nil=>simpa only [az,an] using hr
  | cons c cs=>cases hd
 | .val k::r,n,cs,x,vs,hd,hf,iC,hr=>by
  obtain ⟨h1,h2⟩:=nV hd
  have e:oK (.val k::r) cs=cs.take k.sz++oK r (cs.drop k.sz):=by cases cs<;>rfl
  rw [e] at hf
  have qD:an Z ψ hh.get w (cs.take k.sz++cs.drop k.sz) vs:=by rw [List.take_append_drop];exact hr
  obtain ⟨us,ws,rfl,h3,h4⟩:=an.split qD
  simp only [az]
  have h5:=mS (Z':=Z') g hz (fun id b bO=>hf id b (List.mem_append_left _ bO)) h3
  exact an.append (gM (dt h1 h5)) (qK g hz r (n+1) (cs.drop k.sz) x.2 ws h2 (fun id b bO=>hf id b (List.mem_append_right _ bO)) iC h4)
 | .own ok::r,n,cs,x,vs,hd,hf,iC,hr=>by
  obtain ⟨c,cs',rfl,h1,h2⟩:=k9 hd
  simp only [an] at hr
  obtain ⟨v,us,rfl,h3,h4⟩:=hr
  simp only [az,an]
  refine ⟨v,us,rfl,DF h1 h3 (fun hn=>iC (n,_,_) (by simp only [dv];exact List.mem_cons_self) hn),?_⟩
  exact qK g hz r (n+1) cs' x.2 us h2 hf (fun e he=>iC e (by simp only [dv];exact List.mem_cons_of_mem _ he)) h4
theorem eO{b:BK}{r:List BK}{hh:Heap}{i:Nat}{is:List Nat}{x:uQ (b::r)}(hd:cP (b::r) hh (i::is)=some x):oL b hh i=some x.1∧cP r hh is=some x.2:=by
 have e:cP (b::r) hh (i::is)=(match oL b hh i,cP r hh is with
   | some x,some y=>some ((x,y):b.T×uQ r)
   | _,_=>none):=rfl
 rw [e] at hd
 clear e
 generalize oL b hh i=o1 at hd ⊢
 generalize cP r hh is=o2 at hd ⊢
 cases o1 with
 | none=>cases hd
 | some x1 =>
  cases o2 with
  | none=>cases hd
  | some y1=>have:=Option.some.inj hd;subst this;exact ⟨rfl,rfl⟩
theorem qL{ty:TypeId}{c:List CK}{hh:Heap}{i:Nat}{x:pe c}(hd:oL (.box ty c) hh i=some x):∃cs,hh.get i=some (.box ty cs)∧cE c hh cs=some x:=by
 simp only [oL] at hd
 cases hb:ER hh i ty with
 | none=>rw [hb] at hd;cases hd
 | some cs =>
  rw [hb] at hd
  refine ⟨cs,?_,hd⟩
  unfold ER at hb
  split at hb
  ·rename_i w8 cs' hg
   split at hb
   ·rename_i e;cases hb;rw [hg,e]
   ·cases hb
  ·cases hb
theorem jt{hh:Heap}{ok:OK}{i:Nat}{x:ok.T}(h:dE hh ok (.bF i)=some x):hh.get i=some (.own ok x):=by
 rcases la h with ⟨h,_⟩ | ⟨id,h,hg⟩
 ·cases h
 ·cases h;exact hg
theorem Ci{ok:OK}{hh:Heap}{i:Nat}{x:ok.T}(hd:oL (.own ok) hh i=some x):hh.get i=some (.own ok x):=jt hd
theorem nX{hh:Heap}{i:Nat}{ty:TypeId}{cs:List AV}(hg:hh.get i=some (.box ty cs)):xy hh i=cs:=by unfold xy;rw [hg]
theorem DG(b:BK){hh:Heap}{i i' n:Nat}(x:b.T):dn (dA b hh i i' n x)=iE b i' n x:=by
 cases b with
 | box ty c=>simp only [dA,iE];rw [←lV c n (xy hh i) x];simp [dn]
 | own ok=>simp [dA,iE,dn]
theorem BD(b:BK){hh:Heap}{i i' n:Nat}(x:b.T):(dA b hh i i' n x).map (·.1)=i'::cc b.c8 n:=by
 cases b with
 | box ty c=>simp only [dA,List.map_cons,BK.c8];rw [kB]
 | own ok=>simp [dA,BK.c8,cc]
theorem Fc(b:BK){hh:Heap}{i i' n:Nat}{x:b.T}(hd:oL b hh i=some x):(dA b hh i i' n x).filterMap (·.2.1)=jI b hh i:=by
 cases b with
 | box ty c =>
  obtain ⟨cs,h1,h2⟩:=qL hd
  simp only [dA,jI]
  rw [dB,nX h1,nW c n hh cs x h2,h1]
  rfl
 | own ok=>simp [dA,jI]
theorem iH:∀(bs:List BK) (hh:Heap) (is is':List Nat) (n:Nat) (x:uQ bs),cP bs hh is=some x→is'.length=bs.length→dn (cm bs hh is is' n x)=bp bs is' n x
 | [],hh,is,is',n,x,_,hl=>by cases is'<;>simp [cm,bp,dn]
 | b::r,hh,[],is',n,x,hd,_=>by cases hd
 | b::r,hh,i::is,[],n,x,_,hl=>by simp at hl
 | b::r,hh,i::is,i'::is',n,x,hd,hl=>by
  obtain ⟨_,h3⟩:=eO hd
  have ih:=iH r hh is is' (n+16) x.2 h3 (by simpa using hl)
  simp only [cm,bp]
  rw [←ih,←DG b (hh:=hh) (i:=i) x.1]
  simp [dn]
theorem gr:∀(bs:List BK) (hh:Heap) (is is':List Nat) (n:Nat) (x:uQ bs),cP bs hh is=some x→is'.length=bs.length→(cm bs hh is is' n x).map (·.1)=bV bs is' n
 | [],hh,is,is',n,x,_,hl=>by cases is'<;>simp [cm,bV]
 | b::r,hh,[],is',n,x,hd,_=>by cases hd
 | b::r,hh,i::is,[],n,x,_,hl=>by simp at hl
 | b::r,hh,i::is,i'::is',n,x,hd,hl=>by
  obtain ⟨_,h3⟩:=eO hd
  have ih:=gr r hh is is' (n+16) x.2 h3 (by simpa using hl)
  simp only [cm,bV,List.map_append]
  rw [ih,BD,List.cons_append]
theorem jQ:∀(bs:List BK) (hh:Heap) (is is':List Nat) (n:Nat) (x:uQ bs),cP bs hh is=some x→is'.length=bs.length→(cm bs hh is is' n x).filterMap (·.2.1)=cQ bs hh is
 | [],hh,is,is',n,x,_,hl=>by cases is'<;>cases is<;>simp [cm,cQ]
 | b::r,hh,[],is',n,x,hd,_=>by cases hd
 | b::r,hh,i::is,[],n,x,_,hl=>by simp at hl
 | b::r,hh,i::is,i'::is',n,x,hd,hl=>by
  obtain ⟨h1,h3⟩:=eO hd
  have ih:=jQ r hh is is' (n+16) x.2 h3 (by simpa using hl)
  simp only [cm,cQ]
  rw [List.filterMap_append,ih,Fc b h1]
theorem qM{hd:Hp}{hh:Heap}:∀(c8:List CK) (n:Nat) (cs:List AV) (x:pe c8),cE c8 hh cs=some x→(∀s∈fi c8 cs,hd s=hh.get s)→∀e∈dv c8 n cs x,tH Z ψ hd w h' ψ' e
 | [],n,cs,x,_,_,e,he=>by simp [dv] at he
 | .val k::r,n,cs,x,Qs,hk,e,he=>by
  obtain ⟨_,h2⟩:=nV Qs
  have e0:fi (.val k::r) cs=fi r (cs.drop k.sz):=by cases cs<;>rfl
  rw [e0] at hk
  exact qM r (n+1) _ x.2 h2 hk e he
 | .own ok::r,n,cs,x,Qs,hk,e,he=>by
  obtain ⟨c,cs',rfl,h1,h2⟩:=k9 Qs
  simp only [dv,List.headD_cons,List.tail_cons] at he
  simp only [fi] at hk
  rcases List.mem_cons.1 he with rfl | he
  ·rcases la h1 with ⟨rfl,h3⟩ | ⟨id,rfl,h3⟩
   ·exact h3
   ·show hd id=some (.own ok x.1)
    rw [hk id (List.mem_append_left _ (by simp [nL])),h3]
  ·exact qM r (n+1) cs' x.2 h2 (fun s hs=>hk s (List.mem_append_right _ hs)) e he
theorem Ie{hd:Hp}{hh:Heap}(g:Good Z ψ hh.get w B0 O)(hz:∀b,Z b→Z' b)(b:BK){i i' n:Nat}{x:b.T}(Qs:oL b hh i=some x)
  (hf:∀id g,AV.bF id∈yp b hh i→hh.get id≠none→ob (ψ id)=some g→Z' g) (hk:∀s∈jI b hh i,hd s=hh.get s) (iC:∀e∈dA b hh i i' n x,h' e.1≠none→ψ' e.1=js ψ e.2.1) :
  ∀e∈dA b hh i i' n x,tH Z' ψ hd w h' ψ' e:=by
 intro e he
 cases b with
 | box ty c =>
  obtain ⟨cs,h1,h2⟩:=qL Qs
  simp only [yp,jI,h1] at hf hk
  have TV:∀e∈dv c n cs x,h' e.1≠none→ψ' e.1=js ψ e.2.1:=fun e he=>iC e (by simp only [dA];rw [nX h1];exact List.mem_cons_of_mem _ he)
  simp only [dA] at he
  rcases List.mem_cons.1 he with rfl | he
  ·refine ⟨⟨cs,by rw [hk i List.mem_cons_self,h1]⟩,fun gg vs h4 h5 => ?_⟩
   obtain ⟨gg',gu,h6,h7,h8,_⟩:=g.box i ty cs h1
   rw [h6] at h4
   cases h4
   rw [h5] at h7
   cases h7
   exact qK g hz c n cs x _ h2 hf TV h8
  ·rw [nX h1] at he
   exact qM c n cs x h2 (fun s hs=>hk s (List.mem_cons_of_mem _ hs)) e he
 | own ok =>
  have h1:=Ci Qs
  simp only [dA,List.mem_singleton] at he
  subst he
  show hd i=some (.own ok x)
  rw [hk i (by simp [jI]),h1]
theorem lf{hd:Hp}{hh:Heap}(g:Good Z ψ hh.get w B0 O)(hz:∀b,Z b→Z' b):∀(bs:List BK) (is is':List Nat) (n:Nat) (x:uQ bs),cP bs hh is=some x →
  (∀id b,AV.bF id∈fC bs hh is→hh.get id≠none→ob (ψ id)=some b→Z' b)→(∀s∈cQ bs hh is,hd s=hh.get s)→(∀e∈cm bs hh is is' n x,h' e.1≠none→ψ' e.1=js ψ e.2.1) →
  ∀e∈cm bs hh is is' n x,tH Z' ψ hd w h' ψ' e
 | [],is,is',n,x,_,_,_,_,e,he=>by simp [cm] at he
 | b::r,[],is',n,x,Qs,_,_,_,e,he=>by cases Qs
 | b::r,i::is,[],n,x,_,_,_,_,e,he=>by simp [cm] at he
 | b::r,i::is,i'::is',n,x,Qs,hf,hk,iC,e,he=>by
  obtain ⟨h1,h3⟩:=eO Qs
  simp only [fC,cQ] at hf hk
  simp only [cm] at he iC
  rcases List.mem_append.1 he with he | he
  ·exact Ie g hz b h1 (fun id g bO=>hf id g (List.mem_append_left _ bO)) (fun s hs=>hk s (List.mem_append_left _ hs)) (fun e he=>iC e (List.mem_append_left _ he)) e he
  ·exact lf g hz r is is' (n+16) x.2 h3 (fun id b bO=>hf id b (List.mem_append_right _ bO)) (fun s hs=>hk s (List.mem_append_right _ hs)) (fun e he=>iC e (List.mem_append_right _ he)) e he
theorem qN{kept:List Nat}{kd:List AV}(hk:uU kept kd=true):b4 kept=true∧∀(hh:Heap) s,s∈kept→(cy hh kd).get s=hh.get s:=by
 unfold uU at hk
 rw [Bool.and_eq_true] at hk
 exact ⟨hk.1,fun hh s hs=>nO _ _ _ (qG (List.all_eq_true.1 hk.2 s hs))⟩
theorem vc{hh:Heap}{kd:List AV}{kept:List Nat}(g:Good Z ψ hh.get w B0 O)(hk:uU kept kd=true){L:List wz}(hn:b4 (L.map (·.1))=true)(hs:L.filterMap (·.2.1)=kept)
  (lJ:∀e∈L,tH (o8 Z ψ hh.get kd) ψ (cy hh kd).get w (dn L).get (ed ψ L) e):Good (o8 Z ψ hh.get kd) (ed ψ L) (dn L).get w B0 O :=
 (gX g kd).rename hn (by rw [hs];exact (qN hk).1) lJ
theorem xz{L:List wz}(hn:b4 (L.map (·.1))=true):∀e∈L,(dn L).get e.1≠none→ed ψ L e.1=js ψ e.2.1:=fun ⟨i,s,o⟩ he _=>ib hn he
theorem lW(A B:List wz):dn (A++B)=dn A++dn B:=by simp [dn]
theorem xC{hh:Heap}{i s i':Nat}{v:Value}(hr:av Z ψ hh.get w (.ref i s 0 0) v)(hi:hh.get i≠none)(iC:h' i'≠none→ψ' i'=ψ i):av Z' ψ' h' w' (.ref i' 0 0 0) v:=by
 simp only [av] at hr ⊢
 obtain ⟨a,rfl,ha⟩:=hr
 refine ⟨a,rfl,fun hn => ?_⟩
 rw [iC hn,ha hi]
 simp
theorem nY{v:AV}{i:Nat}(h:B8 v=some i):∃s,v=.ref i s 0 0:=by
 unfold B8 at h
 split at h
 ·cases h;exact ⟨_,rfl⟩
 ·cases h
theorem iI{hh:Heap}:∀(bs:List BK) (is:List Nat) (x:uQ bs),cP bs hh is=some x→is.length=bs.length∧∀i∈is,hh.get i≠none
 | [],[],_,_=>⟨rfl,fun i hi=>by cases hi⟩
 | [],_::_,_,h=>by cases h
 | _::_,[],_,h=>by cases h
 | b::r,i::is,x,h=>by
  obtain ⟨h1,h3⟩:=eO h
  obtain ⟨h4,h5⟩:=iI r is x.2 h3
  refine ⟨by simp [h4],fun j hj => ?_⟩
  rcases List.mem_cons.1 hj with rfl | hj
  ·cases b with
   | box ty c=>obtain ⟨cs,h1,_⟩:=qL h1;rw [h1];simp
   | own ok=>rw [Ci h1];simp
  ·exact h5 j hj
theorem jR{hh:Heap}:∀(bs:List BK) (is is':List Nat) (n:Nat) (x:uQ bs),is.length=bs.length→∀p∈is.zip is',∃o,(p.2,some p.1,o)∈cm bs hh is is' n x
 | [],is,is',n,x,hl,p,hp=>by
  cases is with
  | nil=>simp at hp
  | cons a r=>simp at hl
 | b::r,[],is',n,x,hl,p,hp=>by simp at hp
 | b::r,i::is,[],n,x,hl,p,hp=>by simp at hp
 | b::r,i::is,i'::is',n,x,hl,p,hp=>by
  simp only [List.zip_cons_cons] at hp
  simp only [cm]
  rcases List.mem_cons.1 hp with rfl | hp
  ·cases b with
   | box ty c=>exact ⟨_,List.mem_append_left _ (by simp only [dA];exact List.mem_cons_self)⟩
   | own ok=>exact ⟨_,List.mem_append_left _ (by simp only [dA];exact List.mem_cons_self)⟩
  ·obtain ⟨o,ho⟩:=jR r is is' (n+16) x.2 (by simpa using hl) p hp
   exact ⟨o,List.mem_append_right _ ho⟩
theorem JG{hd:Hp}{hh:Heap}{ok:OK}{c:AV}{xs:ok.T}(ho:dE hh ok c=some xs)(hk:∀s∈nL c,hd s=hh.get s){n:Nat}:tH Z ψ hd w h' ψ' (n,(nL c).head?,.own ok xs):=by
 rcases la ho with ⟨rfl,h3⟩ | ⟨id,rfl,h3⟩
 ·exact h3
 ·show hd id=some (.own ok xs)
  rw [hk id (by simp [nL]),h3]
end Go.Vs
namespace Go.Vs
variable {P:Program} {Z Z':Nat→Prop} {ψ ψ':Nat→Value} {h h':Hp} {w w':World} {B0:Nat} {O:Nat→Prop} {N:Nat→Prop}
def fH:Hp:=fun _=>none
def HI:Nat→Value:=fun _=>undef
def Cj(g:aJ)(x:EP (kf g.ps)):List AV:=(aN g.ps [] 0 x).map (·.2)
def Wz(P:Program)(f:FuncId)(g:aJ)(x:g.A)(y:g.B):Prop :=
 ∀(Z:Nat→Prop) (w:World) (jS:List Value),(∀b,Z b→b<w.heap.size)→an Z HI fH w (Cj g x.1) jS →
  Calls P (f % 1000) jS.toArray w fun e w'=>∃v Z' ψ',e=.returned v∧(∀b,Z b→Z' b)∧(∀b,Z' b→Z b∨w.heap.size≤b)∧cS HI fH w w' ∧
   Good Z' ψ' (aj g.rs 3000 y.1).get w' w.heap.size (fun _=>False)∧av Z' ψ' (aj g.rs 3000 y.1).get w' (eE (aO g.rs [] 2000 3000 y.1)) v
theorem wA{p:PK}{ps:List PK}{vs:List AV}(hi:cw (p::ps) vs=some []):∃a r,vs=a::r∧cw ps r=some []∧(p≠.ref∧p≠.own)∧(∀f n,p=.EO f n→a=.fn f [])∧(∀n,p=.agg n→a=.agg []):=by
 cases vs with
 | nil=>cases p<;>simp [cw] at hi
 | cons a r =>
  cases p with
  | val k=>exact ⟨a,r,rfl,by simpa only [cw] using hi,by simp,by simp,by simp⟩
  | ref =>
   simp only [cw] at hi
   split at hi<;>simp at hi
  | own =>
   cases a<;>simp only [cw] at hi<;>first | (cases hi;done) | skip
   split at hi<;>simp at hi
  | EO f n =>
   cases a<;>simp only [cw] at hi<;>first | (cases hi;done) | skip
   rename_i f' cap
   split at hi
   ·rename_i hc
    obtain ⟨rfl,te⟩:=hc
    split at hi
    ·rename_i a1 b1 h1 h2
     simp only [Option.some.injEq,List.append_eq_nil_iff] at hi
     obtain ⟨rfl,rfl⟩:=hi
     have TK:cap=[]:=by
      cases cap with
      | nil=>rfl
      | cons c cs=>simp only [ji] at h1;split at h1<;>simp at h1
     subst TK
     exact ⟨_,r,rfl,h2,by simp,by rintro f n ⟨⟩;rfl,by simp⟩
    ·cases hi
   ·cases hi
  | agg n =>
   cases a<;>simp only [cw] at hi<;>first | (cases hi;done) | skip
   rename_i cs
   split at hi
   ·split at hi
    ·rename_i a1 b1 h1 h2
     simp only [Option.some.injEq,List.append_eq_nil_iff] at hi
     obtain ⟨rfl,rfl⟩:=hi
     have KK:cs=[]:=by
      cases cs with
      | nil=>rfl
      | cons c cs=>cases c<;>simp only [nM] at h1<;>first | (cases h1;done) | (split at h1<;>simp at h1)
     subst KK
     exact ⟨_,r,rfl,h2,by simp,by simp,fun _ _=>rfl⟩
    ·cases hi
   ·cases hi
theorem wB{k:K}{ps:List PK}{hh:Heap}{a:AV}{r:List AV}{x:k.T×EP (kf ps)}(hv:dW (.val k::ps) hh (a::r)=some x):fm k hh a=some x.1∧dW ps hh r=some x.2:=by
 have e:dW (.val k::ps) hh (a::r)=(match fm k hh a,dW ps hh r with
  | some x,some y=>some ((x,y):k.T×EP (kf ps))
  | _,_=>none):=rfl
 rw [e] at hv
 clear e
 generalize fm k hh a=o1 at hv ⊢
 generalize dW ps hh r=o2 at hv ⊢
 cases o1 with
 | none=>cases hv
 | some x1 =>
  cases o2 with
  | none=>cases hv
  | some y1 =>
   have:=Option.some.inj hv
   subst this
   exact ⟨rfl,rfl⟩
theorem yZ{hh:Heap}(g:Good Z ψ hh.get w B0 O)(hz:∀b,Z b→Z' b)(ps:List PK):∀(s:Nat) (vs:List AV) (us:List Value) (x:EP (kf ps)),(∀v∈vs,∀id b,AV.bF id∈v.cells→hh.get id≠none→ob (ψ id)=some b→Z' b) →
  cw ps vs=some []→dW ps hh vs=some x→an Z ψ hh.get w vs us→an Z' HI fH w ((aN ps [] s x).map (·.2)) us:=by
 induction ps with
 | nil =>
  intro s vs us x _ hi hv hr
  cases vs with
  | nil=>simpa only [aN,List.map_nil,an] using hr
  | cons a r=>simp [cw] at hi
 | cons p ps ih =>
  intro s vs us x hb hi hv hr
  obtain ⟨a,r,rfl,su,QY,TW,TX⟩:=wA hi
  simp only [an] at hr
  obtain ⟨u,iz,rfl,h3,h4⟩:=hr
  cases p with
  | val k =>
   obtain ⟨h1,h2⟩:=wB hv
   simp only [aN,List.map_cons,an]
   exact ⟨u,iz,rfl,qH (Z':=Z') (ψ':=HI) (h':=fH) g hz (hb a List.mem_cons_self) h1 h3,ih (s+1) r iz x.2 (fun v hv=>hb v (List.mem_cons_of_mem _ hv)) su h2 h4⟩
  | ref=>exact absurd rfl QY.1
  | own=>exact absurd rfl QY.2
  | EO f n =>
   have ha:=TW f n rfl
   subst ha
   have h2:dW ps hh r=some x:=hv
   simp only [aN,List.map_cons,an,List.take_nil,List.map_nil,List.drop_nil]
   simp only [av,an] at h3 ⊢
   exact ⟨u,iz,rfl,h3,ih (s+1) r iz x (fun v hv=>hb v (List.mem_cons_of_mem _ hv)) su h2 h4⟩
  | agg n =>
   have ha:=TX n rfl
   subst ha
   have h2:dW ps hh r=some x:=hv
   simp only [aN,List.map_cons,an,List.take_nil,List.map_nil,List.drop_nil]
   simp only [av,an] at h3 ⊢
   exact ⟨u,iz,rfl,h3,ih (s+1) r iz x (fun v hv=>hb v (List.mem_cons_of_mem _ hv)) su h2 h4⟩
theorem Good.WA(g:Good Z ψ h w B0 O)(k:cS HI fH w w')(hz:∀b,Z b→Z' b)(Mp:∀b,Z' b→Z b∨w.heap.size≤b)(abn:∀b,Z' b→b<w'.heap.size)
  (hold:∀id,¬N id→h' id=h id∧ψ' id=ψ id)
  (bg:∀id ty cs,h id=some (.box ty cs)→aA (fun i=>¬N i) cs)
  (MJ:∀id ty cs,N id→h' id=some (.box ty cs)→False)
  (mT:∀id ok xs,N id→h' id=some (.own ok xs)→jf Z' w' ok (ψ' id) xs)
  (yC:∀id b,N id→h' id≠none→ob (ψ' id)=some b→w.heap.size≤b∧¬Z' b)
  (HW:∀id lN b,N id→N lN→h' id≠none→h' lN≠none→ob (ψ' id)=some b→ob (ψ' lN)=some b→id=lN) (hB:B0≤w.heap.size) :
  Next Z ψ h w B0 O N Z' ψ' h' w':=by
 have cF:∀b,b<w.heap.size→w'.heap[b]? = w.heap[b]? := fun b hb=>k.block b hb (fun ⟨id,h1,_⟩=>h1 rfl)
 have sm:cj Z w w':=fun b hb=>cF b (g.jm b hb)
 have rm:∀id,h' id≠none→(h id≠none∧ψ' id=ψ id)∨N id:=fun id bO=>by
  by_cases hn:N id
  ·exact .inr hn
  ·obtain ⟨e1,e2⟩:=hold id hn
   exact .inl ⟨by rwa [e1] at bO,e2⟩
 have wj:∀id b,¬N id→h' id≠none→ob (ψ' id)=some b→Own ψ h b:=fun id b hn h1 h2=>by
  obtain ⟨e1,e2⟩:=hold id hn
  exact ⟨id,by rwa [e1] at h1,by rwa [e2] at h2⟩
 have kk:cS ψ h w w':=⟨k.os,k.tape,k.output,k.size,fun b hb _=>cF b hb⟩
 refine ⟨hz,fun b hb=>(Mp b hb).imp (fun h=>h) .inr,kk,rm,⟨fun id ty cs hb => ?_,fun id ok xs hb => ?_,fun id b h1 h2 => ?_,fun id lN b h1 h2 h3 h4 => ?_,abn⟩⟩
 ·by_cases hn:N id
  ·exact (MJ id ty cs hn hb).elim
  ·obtain ⟨e1,e2⟩:=hold id hn
   rw [e1] at hb
   obtain ⟨gg,vs,h1,h2,h3,h4⟩:=g.box id ty cs hb
   exact ⟨gg,vs,by rw [e2,h1],(cF gg (Array.getElem?_eq_some_iff.1 h2).1).trans h2,h3.move hz sm (fun i hp bO=>(rm i bO).resolve_right hp) (bg id ty cs hb),h4⟩
 ·by_cases hn:N id
  ·exact mT id ok xs hn hb
  ·obtain ⟨e1,e2⟩:=hold id hn
   rw [e1] at hb
   rw [e2]
   exact (g.row id ok xs hb).kept hz sm (fun gg KG=>cF gg (g.bL ⟨id,by rw [hb];simp,KG⟩))
 ·by_cases hn:N id
  ·obtain ⟨h3,h4⟩:=yC id b hn h1 h2
   exact ⟨h4,.inl (by omega)⟩
  ·obtain ⟨e1,e2⟩:=hold id hn
   rw [e1] at h1;rw [e2] at h2
   have h3:=g.live id b h1 h2
   refine ⟨fun Wm => ?_,h3.2⟩
   rcases Mp b Wm with h4 | h4
   ·exact h3.1 h4
   ·have:=g.bL ⟨id,h1,h2⟩;omega
 ·by_cases hn:N id<;>by_cases HX:N lN
  ·exact HW id lN b hn HX h1 h2 h3 h4
  ·have:=(yC id b hn h1 h3).1
   have:=g.bL (wj lN b HX h2 h4);omega
  ·have:=(yC lN b HX h2 h4).1
   have:=g.bL (wj id b hn h1 h3);omega
  ·obtain ⟨e1,e2⟩:=hold id hn
   obtain ⟨e3,e4⟩:=hold lN HX
   rw [e1] at h1;rw [e2] at h3;rw [e3] at h2;rw [e4] at h4
   exact g.apart id lN b h1 h2 h3 h4
theorem bB{r:RK}{rs:List RK}(h:(r::rs).all RK.plain=true):rs.all RK.plain=true:=by simp only [List.all_cons,Bool.and_eq_true] at h;exact h.2
theorem KV{c:List CK}{rs:List RK}(h:(RK.agg c::rs).all RK.plain=true):c.length≤16:=by
 simp only [List.all_cons,Bool.and_eq_true,RK.plain,decide_eq_true_eq] at h;exact h.1
theorem lg:∀(c:List CK) (a:Nat) (x:pe c) (i:Nat),i<a→(aQ c a x).get i=none
 | [],_,_,_,_=>rfl
 | .val _::r,a,x,i,h=>by simp only [aQ];exact lg r (a+1) x.2 i (by omega)
 | .own ok::r,a,x,i,h=>by simp only [aQ,Heap.get];rw [if_neg (by omega)];exact lg r (a+1) x.2 i (by omega)
theorem sI:∀(c:List CK) (a:Nat) (x:pe c) (i:Nat),a+c.length≤i→(aQ c a x).get i=none
 | [],_,_,_,_=>rfl
 | .val _::r,a,x,i,h=>by simp only [List.length_cons] at h;simp only [aQ];exact sI r (a+1) x.2 i (by omega)
 | .own ok::r,a,x,i,h=>by simp only [List.length_cons] at h;simp only [aQ,Heap.get];rw [if_neg (by omega)];exact sI r (a+1) x.2 i (by omega)
theorem sJ:∀(c:List CK) (a b:Nat) (x:pe c) (j:Nat),(aQ c a x).get (a+j)=(aQ c b x).get (b+j)
 | [],_,_,_,_=>rfl
 | .val _::r,a,b,x,0=>by simp only [aQ];rw [lg _ _ _ _ (by omega),lg _ _ _ _ (by omega)]
 | .own ok::r,a,b,x,0=>by simp [aQ,Heap.get]
 | .val _::r,a,b,x,j+1=>by
  simp only [aQ]
  rw [show a+(j+1)=a+1+j by omega,show b+(j+1)=b+1+j by omega]
  exact sJ r (a+1) (b+1) x.2 j
 | .own ok::r,a,b,x,j+1=>by
  simp only [aQ,Heap.get]
  rw [if_neg (by omega),if_neg (by omega),show a+(j+1)=a+1+j by omega,show b+(j+1)=b+1+j by omega]
  exact sJ r (a+1) (b+1) x.2 j
theorem mB:∀(c:List CK) (a:Nat) (x:pe c) (i:Nat) (ty:TypeId) (cs:List AV),(aQ c a x).get i≠some (.box ty cs)
 | [],_,_,_,_,_=>by simp [aQ,Heap.get]
 | .val _::r,a,x,i,ty,cs=>by simp only [aQ];exact mB r (a+1) x.2 i ty cs
 | .own ok::r,a,x,i,ty,cs=>by
  simp only [aQ,Heap.get]
  split
  ·simp
  ·exact mB r (a+1) x.2 i ty cs
theorem pQ:∀(rs:List RK) (a:Nat) (y:kV rs) (i:Nat),rs.all RK.plain=true→i<a→(aj rs a y).get i=none
 | [],a,y,i,_,h=>rfl
 | .val k::r,a,y,i,hp,h=>by simp only [aj];exact pQ r (a+1) y.2 i (bB hp) (by omega)
 | .own ok::r,a,y,i,hp,h=>by simp only [aj,Heap.get];rw [if_neg (by omega)];exact pQ r (a+1) y.2 i (bB hp) (by omega)
 | .dZ _ _::r,a,y,i,hp,h=>by simp only [aj];exact pQ r (a+1) y.2 i (bB hp) (by omega)
 | .agg c::r,a,y,i,hp,h=>by
  have h1:(aQ c a y.1).get i=none:=lg c a y.1 i h
  have h2:=pQ r (a+1) y.2 i (bB hp) (by omega)
  show Heap.get (aQ c a y.1++aj r (a+1) y.2) i=none
  rw [Heap.get_append,h1,h2]
theorem Fe:∀(rs:List RK) (a:Nat) (y:kV rs) (i:Nat),rs.all RK.plain=true→a+rs.length+16≤i→(aj rs a y).get i=none
 | [],a,y,i,_,h=>rfl
 | .val k::r,a,y,i,hp,h=>by simp only [List.length_cons] at h;simp only [aj];exact Fe r (a+1) y.2 i (bB hp) (by omega)
 | .own ok::r,a,y,i,hp,h=>by simp only [List.length_cons] at h;simp only [aj,Heap.get];rw [if_neg (by omega)];exact Fe r (a+1) y.2 i (bB hp) (by omega)
 | .dZ _ _::r,a,y,i,hp,h=>by simp only [List.length_cons] at h;simp only [aj];exact Fe r (a+1) y.2 i (bB hp) (by omega)
 | .agg c::r,a,y,i,hp,h=>by
  simp only [List.length_cons] at h
  have hc:=KV hp
  have h1:(aQ c a y.1).get i=none:=sI c a y.1 i (by omega)
  have h2:=Fe r (a+1) y.2 i (bB hp) (by omega)
  show Heap.get (aQ c a y.1++aj r (a+1) y.2) i=none
  rw [Heap.get_append,h1,h2]
theorem Ff:∀(rs:List RK) (a b:Nat) (y:kV rs) (j:Nat),rs.all RK.plain=true→(aj rs a y).get (a+j)=(aj rs b y).get (b+j)
 | [],_,_,_,_,_=>rfl
 | .val k::r,a,b,y,0,hp=>by simp only [aj];rw [pQ _ _ _ _ (bB hp) (by omega),pQ _ _ _ _ (bB hp) (by omega)]
 | .dZ _ _::r,a,b,y,0,hp=>by simp only [aj];rw [pQ _ _ _ _ (bB hp) (by omega),pQ _ _ _ _ (bB hp) (by omega)]
 | .own ok::r,a,b,y,0,hp=>by simp [aj,Heap.get]
 | .val k::r,a,b,y,j+1,hp=>by
  simp only [aj]
  rw [show a+(j+1)=a+1+j by omega,show b+(j+1)=b+1+j by omega]
  exact Ff r (a+1) (b+1) y.2 j (bB hp)
 | .dZ _ _::r,a,b,y,j+1,hp=>by
  simp only [aj]
  rw [show a+(j+1)=a+1+j by omega,show b+(j+1)=b+1+j by omega]
  exact Ff r (a+1) (b+1) y.2 j (bB hp)
 | .own ok::r,a,b,y,j+1,hp=>by
  simp only [aj,Heap.get]
  rw [if_neg (by omega),if_neg (by omega),show a+(j+1)=a+1+j by omega,show b+(j+1)=b+1+j by omega]
  exact Ff r (a+1) (b+1) y.2 j (bB hp)
 | .agg c::r,a,b,y,j,hp=>by
  have h1:(aQ c a y.1).get (a+j)=(aQ c b y.1).get (b+j):=sJ c a b y.1 j
  have h2:(aj r (a+1) y.2).get (a+j)=(aj r (b+1) y.2).get (b+j):=by
   cases j with
   | zero=>rw [pQ _ _ _ _ (bB hp) (by omega),pQ _ _ _ _ (bB hp) (by omega)]
   | succ j =>
    rw [show a+(j+1)=a+1+j by omega,show b+(j+1)=b+1+j by omega]
    exact Ff r (a+1) (b+1) y.2 j (bB hp)
  show Heap.get (aQ c a y.1++aj r (a+1) y.2) (a+j)=Heap.get (aQ c b y.1++aj r (b+1) y.2) (b+j)
  rw [Heap.get_append,Heap.get_append,h1,h2]
theorem tI:∀(rs:List RK) (a:Nat) (y:kV rs) (i:Nat) (ty:TypeId) (cs:List AV),rs.all RK.plain=true→(aj rs a y).get i≠some (.box ty cs)
 | [],_,_,_,_,_,_=>by simp [aj,Heap.get]
 | .val k::r,a,y,i,ty,cs,hp=>by simp only [aj];exact tI r (a+1) y.2 i ty cs (bB hp)
 | .dZ _ _::r,a,y,i,ty,cs,hp=>by simp only [aj];exact tI r (a+1) y.2 i ty cs (bB hp)
 | .own ok::r,a,y,i,ty,cs,hp=>by
  simp only [aj,Heap.get]
  split
  ·simp
  ·exact tI r (a+1) y.2 i ty cs (bB hp)
 | .agg c::r,a,y,i,ty,cs,hp=>by
  have h1:(aQ c a y.1).get i≠some (.box ty cs):=mB c a y.1 i ty cs
  show Heap.get (aQ c a y.1++aj r (a+1) y.2) i≠some (.box ty cs)
  rw [Heap.get_append]
  split
  ·rename_i o ho;rw [ho] at h1;exact h1
  ·exact tI r (a+1) y.2 i ty cs (bB hp)
theorem lh(p:Nat→Prop):∀(k:K) (x:k.T),aA p (enc k x)
 | .int _,_=>by simp only [enc,aA,aH];exact ⟨trivial,trivial⟩
 | .bool,_=>by simp only [enc,aA,aH];exact ⟨trivial,trivial⟩
 | .str,_=>by simp only [enc,aA,aH];exact ⟨trivial,trivial⟩
 | .sl _,_=>by simp only [enc,aA,aH];exact ⟨trivial,trivial⟩
 | .mp _ _,_=>by simp only [enc,aA,aH];exact ⟨trivial,trivial⟩
 | .pair a b,x=>by
  simp only [enc]
  have h1:=lh p a x.1
  have h2:=lh p b x.2
  revert h1
  generalize enc a x.1=l
  induction l with
  | nil=>intro _;exact h2
  | cons c r ih=>intro h;simp only [List.cons_append,aA] at h ⊢;exact ⟨h.1,ih h.2⟩
 | .one k,x=>by simp only [enc];exact lh p k x
theorem mV(p:Nat→Prop):∀(k:K) (x:k.T),aH p (b8 k x)
 | .int _,_=>by simp only [b8,aH]
 | .bool,_=>by simp only [b8,aH]
 | .str,_=>by simp only [b8,aH]
 | .sl _,_=>by simp only [b8,aH]
 | .mp _ _,_=>by simp only [b8,aH]
 | .pair a b,x=>by simp only [b8,aH];exact lh p (.pair a b) x
 | .one k,x=>by simp only [b8,aH];exact lh p (.one k) x
theorem M3{k:K}{x:k.T}{v:Value}(hr:av Z ψ h w (b8 k x) v):av Z ψ' h' w (b8 k x) v :=
 hr.move (p:=fun _=>False) (fun _ h=>h) (cj.refl _ _) (fun _ hp _=>hp.elim) (mV _ k x)
theorem QZ(r:RK)(rs:List RK)(b:Nat)(y:kV (r::rs))(i:Nat)(hi:(aj rs (b+1) y.2).get i≠none):(aj (r::rs) b y).get i≠none:=by
 cases r with
 | val k=>exact hi
 | dZ _ _=>exact hi
 | own ok=>simp only [aj,Heap.get];split<;>simp_all
 | agg c =>
  show Heap.get (aQ c b y.1++aj rs (b+1) y.2) i≠none
  rw [Heap.get_append]
  split
  ·simp
  ·exact hi
theorem Ig(c:List CK):∀{H:Hp} {a b:Nat} {x:pe c} {vs:List Value},(∀j,(aQ c b x).get (b+j)≠none→h' (b+j)≠none→H (a+j)≠none∧ψ' (b+j)=ψ (a+j)) →
  an Z ψ H w (az c a x) vs→an Z ψ' h' w (az c b x) vs:=by
 induction c with
 | nil=>intro H a b x vs _ hr;simpa only [az,an] using hr
 | cons k c ih =>
  intro H a b x vs hH hr
  cases k with
  | val k =>
   have qD:an Z ψ H w (enc k x.1++az c (a+1) x.2) vs:=hr
   obtain ⟨us,ws,rfl,h1,h2⟩:=qD.split
   show an Z ψ' h' w (enc k x.1++az c (b+1) x.2) (us++ws)
   refine (h1.move (p:=fun _=>False) (fun _ h=>h) (cj.refl _ _) (fun _ hp _=>hp.elim) (lh _ k x.1)).append (ih (fun j hj bh => ?_) h2)
   have:=hH (j+1)
   rw [show b+(j+1)=b+1+j by omega,show a+(j+1)=a+1+j by omega] at this
   exact this hj bh
  | own ok =>
   have qD:an Z ψ H w (.bF a::az c (a+1) x.2) vs:=hr
   simp only [an] at qD
   obtain ⟨v,us,rfl,h1,h2⟩:=qD
   show an Z ψ' h' w (.bF b::az c (b+1) x.2) (v::us)
   simp only [an]
   refine ⟨v,us,rfl,?_,ih (fun j hj bh => ?_) h2⟩
   ·simp only [av] at h1 ⊢
    refine ⟨h1.1,fun bh => ?_⟩
    obtain ⟨h3,h4⟩:=hH 0 (by simp [aQ,Heap.get]) bh
    rw [Nat.add_zero,Nat.add_zero] at h4
    rw [h4];exact h1.2 h3
   ·have:=hH (j+1)
    rw [show b+(j+1)=b+1+j by omega,show a+(j+1)=a+1+j by omega] at this
    refine this ?_ bh
    have e:(aQ (.own ok::c) b x).get (b+1+j)=(aQ c (b+1) x.2).get (b+1+j):=by simp only [aQ,Heap.get];rw [if_neg (by omega)]
    rw [e];exact hj
theorem M4(rs:List RK):∀{H:Hp} {n m a b:Nat} {y:kV rs} {vs:List Value},rs.all RK.plain=true→(∀j,(aj rs b y).get (b+j)≠none→h' (b+j)≠none→H (a+j)≠none∧ψ' (b+j)=ψ (a+j)) →
  an Z ψ H w (aO rs [] n a y) vs→an Z ψ' h' w (aO rs [] m b y) vs:=by
 induction rs with
 | nil=>intro H n m a b y vs _ _ hr;simpa only [aO,an] using hr
 | cons r rs ih =>
  intro H n m a b y vs hp hH hr
  have hpa:=hp
  simp only [List.all_cons,Bool.and_eq_true] at hp
  have TY:∀j,(aj rs (b+1) y.2).get (b+1+j)≠none→h' (b+1+j)≠none→H (a+1+j)≠none∧ψ' (b+1+j)=ψ (a+1+j):=fun j hj bh=>by
   have:=hH (j+1)
   rw [show b+(j+1)=b+1+j by omega,show a+(j+1)=a+1+j by omega] at this
   exact this (QZ _ _ _ _ _ hj) bh
  cases r with
  | val k =>
   simp only [aO,an] at hr ⊢
   obtain ⟨v,us,rfl,h1,h2⟩:=hr
   exact ⟨v,us,rfl,M3 h1,ih hp.2 TY h2⟩
  | own ok =>
   simp only [aO,an] at hr ⊢
   obtain ⟨v,us,rfl,h1,h2⟩:=hr
   refine ⟨v,us,rfl,?_,ih hp.2 TY h2⟩
   simp only [av] at h1 ⊢
   refine ⟨h1.1,fun bh => ?_⟩
   obtain ⟨h3,h4⟩:=hH 0 (by simp [aj,Heap.get]) bh
   rw [Nat.add_zero,Nat.add_zero] at h4
   rw [h4];exact h1.2 h3
  | dZ b c=>simp [RK.plain] at hp
  | agg c =>
   simp only [aO,an] at hr ⊢
   obtain ⟨v,us,rfl,h1,h2⟩:=hr
   refine ⟨v,us,rfl,?_,ih hp.2 TY h2⟩
   simp only [av] at h1 ⊢
   obtain ⟨ws,rfl,h3⟩:=h1
   refine ⟨ws,rfl,Ig c (fun j hj bh=>hH j ?_ bh) h3⟩
   show Heap.get (aQ c b y.1++aj rs (b+1) y.2) (b+j)≠none
   rw [Heap.get_append]
   split
   ·simp
   ·rename_i wC;exact absurd wC hj
theorem sK{SB SC:Nat→Value}{WB WC:Hp}{WD WE:Nat→Prop}{l l':List AV}{V:Value}(hl:l.length=l'.length)(hm:∀vs,an WD SB WB w l vs→an WE SC WC w l' vs)(hr:av WD SB WB w (eE l) V):av WE SC WC w (eE l') V:=by
 match l,l',hl with
 | [a],[a'],_ =>
  simp only [eE] at hr ⊢
  have:=hm [V] (by simp only [an];exact ⟨V,[],rfl,hr,rfl⟩)
  simp only [an] at this
  obtain ⟨v,us,e,h1,_⟩:=this
  cases e;exact h1
 | [],[],_ =>
  simp only [eE,av] at hr ⊢
  obtain ⟨us,rfl,h1⟩:=hr
  exact ⟨us,rfl,hm _ h1⟩
 | a::b::r,a'::b'::r',_ =>
  simp only [eE,av] at hr ⊢
  obtain ⟨us,rfl,h1⟩:=hr
  exact ⟨us,rfl,hm _ h1⟩
theorem jK(rs:List RK):∀(ids:List Nat) (n m:Nat) (y:kV rs),(aO rs ids n m y).length=rs.length:=by
 induction rs with
 | nil=>intros;rfl
 | cons r rs ih=>intro ids n m y;cases r<;>simp [aO,ih]
theorem xD:∀(k:K) (x:k.T) (r:List AV),dec k (enc k x++r)=some (x,r)
 | .int _,x,r=>by simp only [enc,List.cons_append,List.nil_append,dec,Dk,if_true];rfl
 | .bool,x,r=>by simp only [enc,List.cons_append,List.nil_append,dec,xq];rfl
 | .str,x,r=>by simp only [enc,List.cons_append,List.nil_append,dec,Dl];rfl
 | .sl k,x,r=>by simp only [enc,List.cons_append,List.nil_append,dec,Jy];rfl
 | .mp kk vk,x,r=>by simp only [enc,List.cons_append,List.nil_append,dec,Jz];rfl
 | .pair a b,x,r=>by
  simp only [enc,dec,List.append_assoc]
  rw [xD a x.1 (enc b x.2++r)]
  simp only []
  rw [xD b x.2 r]
  rfl
 | .one k,x,r=>by simp only [enc,dec];exact xD k x r
theorem sL(k:K)(x:k.T):dI k (enc k x)=some x:=by
 unfold dI
 have:=xD k x []
 rw [List.append_nil] at this
 rw [this]
theorem sM:∀(k:K) (x:k.T),(b8 k x).cells=enc k x
 | .int _,_=>rfl
 | .bool,_=>rfl
 | .str,_=>rfl
 | .sl _,_=>rfl
 | .mp _ _,_=>rfl
 | .pair a b,x=>rfl
 | .one k,x=>rfl
theorem JH:∀(k:K) (x:k.T),b8 k x≠.no
 | .int _,_=>by simp [b8]
 | .bool,_=>by simp [b8]
 | .str,_=>by simp [b8]
 | .sl _,_=>by simp [b8]
 | .mp _ _,_=>by simp [b8]
 | .pair a b,x=>by simp [b8]
 | .one k,x=>by simp [b8]
theorem y0:∀(k:K) (x:k.T),(b8 k x).isAgg=k.isAgg
 | .int _,_=>rfl
 | .bool,_=>rfl
 | .str,_=>rfl
 | .sl _,_=>rfl
 | .mp _ _,_=>rfl
 | .pair a b,x=>rfl
 | .one k,x=>rfl
theorem KW{k:K}{x:k.T}{v:Value}(hr:av Z ψ h w (b8 k x) v):aE Z w k x v.cells.toList:=by
 have h1:=hr.cells (JH k x)
 rw [sM] at h1
 exact dt (sL k x) h1
theorem Ih{k:K}{x:k.T}{v:Value}(hr:av Z ψ h w (b8 k x) v):(k.isAgg=true→∃vs,v=.agg vs)∧(k.isAgg=false→v.cells=#[v]) :=
 ⟨fun h=>MV (by rw [y0];exact h) hr,fun h=>Cf (by rw [y0];exact h) (JH k x) hr⟩
theorem M5(rs:List RK):∀{H:Hp} {n m a b:Nat} {y:kV rs} {vs:List Value},rs.all RK.flat=true→rs.all RK.plain=true→an Z ψ H w (aO rs [] n a y) vs→an Z' ψ' h' w' (aO rs [] m b y) vs:=by
 induction rs with
 | nil=>intro H n m a b y vs _ _ hr;simpa only [aO,an] using hr
 | cons r rs ih =>
  intro H n m a b y vs hf hp hr
  simp only [List.all_cons,Bool.and_eq_true] at hp hf
  cases r with
  | val k =>
   simp only [aO,an] at hr ⊢
   obtain ⟨v,us,rfl,h1,h2⟩:=hr
   have hk:k.flat=true:=hf.1
   obtain ⟨h3,h4⟩:=Ih h1
   exact ⟨v,us,rfl,kZ ((KW h1).flat hk) h3 h4,ih hf.2 hp.2 h2⟩
  | own ok=>simp [RK.flat] at hf
  | dZ b c=>simp [RK.plain] at hp
  | agg c=>simp [RK.flat] at hf
theorem KX(rs:List RK):∀(a:Nat) (y:kV rs),rs.all RK.flat=true→rs.all RK.plain=true→aj rs a y=[]:=by
 induction rs with
 | nil=>intros;rfl
 | cons r rs ih =>
  intro a y hf hp
  simp only [List.all_cons,Bool.and_eq_true] at hp hf
  cases r with
  | val k=>simp only [aj];exact ih _ _ hf.2 hp.2
  | own ok=>simp [RK.flat] at hf
  | dZ b c=>simp [RK.plain] at hp
  | agg c=>simp [RK.flat] at hf
theorem tJ:∀(ps:List PK) (vs:List AV),cw ps vs=some []→∀v∈vs,∀id,AV.bF id∈v.cells→AV.bF id∈c6 ps vs
 | [],vs,hi,v,hv,id,bO=>by
  cases vs with
  | nil=>cases hv
  | cons a r=>simp [cw] at hi
 | p::ps,vs,hi,v,hv,id,bO=>by
  obtain ⟨a,r,rfl,su,QY,TW,TX⟩:=wA hi
  rcases List.mem_cons.1 hv with rfl | hv
  ·cases p with
   | val k=>simp only [c6];exact List.mem_append_left _ bO
   | ref=>exact absurd rfl QY.1
   | own=>exact absurd rfl QY.2
   | EO f n=>rw [TW f n rfl] at bO;simp [AV.cells] at bO
   | agg n=>rw [TX n rfl] at bO;simp [AV.cells] at bO
  ·have:=tJ ps r su v hv id bO
   cases p with
   | val k=>simp only [c6];exact List.mem_append_right _ this
   | ref=>exact absurd rfl QY.1
   | own=>exact absurd rfl QY.2
   | EO f n=>simpa only [c6] using this
   | agg n=>simpa only [c6] using this
theorem zc(f:FuncId)(vs:List AV):sq f vs % 1000=f % 1000:=by
 induction vs with
 | nil=>rfl
 | cons v r ih =>
  cases v with
  | fn g cap=>exact Nat.add_mul_mod_self_left f 1000 _
  | _=>simp only [sq];exact ih
theorem vd{Sg:FuncId→Option aJ}(f:FuncId)(vs:List AV):keyOf Sg f vs % 1000=f % 1000:=by
 unfold keyOf
 split
 ·exact (Nat.add_mul_mod_self_right (sq f vs) 500 1000).trans (zc f vs)
 ·exact zc f vs
theorem Next.imp{N':Nat→Prop}(n:Next Z ψ h w B0 O N Z' ψ' h' w')(hi:∀i,N i→N' i):Next Z ψ h w B0 O N' Z' ψ' h' w' :=
 ⟨n.fj,n.dU,n.keep,fun id bO=>(n.ids id bO).imp (fun h=>h) (hi id),n.dD⟩
theorem ve{rs:List RK}{y:kV rs}(hp:rs.all RK.plain=true){id nb:Nat}(g:Good Z ψ h w B0 O)(hB:B0≤w.heap.size)
  (bg:∀i ty cs,h i=some (.box ty cs)→aA (fun i=>¬N i) cs) (hN:∀j,j<rs.length+16→N (id+j))
  (k:cS HI fH w w') (hz:∀b,Z b→Z' b) (Mp:∀b,Z' b→Z b∨w.heap.size≤b) (gc:Good Z' ψ' (aj rs 3000 y).get w' w.heap.size (fun _=>False))
  {v:Value} (hr:av Z' ψ' (aj rs 3000 y).get w' (eE (aO rs [] 2000 3000 y)) v) :
  ∃sN,Next Z ψ h w B0 O N Z' sN (fun i=>match (aj rs id y).get i with | some o=>some o | none=>h i) w' ∧
   av Z' sN (fun i=>match (aj rs id y).get i with | some o=>some o | none=>h i) w' (eE (aO rs [] nb id y)) v:=by
 classical
 let H:Hp:=fun i=>match (aj rs id y).get i with | some o=>some o | none=>h i
 let NN:Nat→Prop:=fun i=>(aj rs id y).get i≠none
 let sN:Nat→Value:=fun i=>if NN i then ψ' (3000+(i - id)) else ψ i
 have hNN:∀i,NN i→∃j,j<rs.length+16∧i=id+j:=fun i hi=>by
  have h1:¬i<id:=fun aG=>hi (pQ rs id y i hp aG)
  have h2:¬id+rs.length+16≤i:=fun SD=>hi (Fe rs id y i hp SD)
  exact ⟨i - id,by omega,by omega⟩
 have Ck:∀i,NN i→(aj rs 3000 y).get (3000+(i - id))=(aj rs id y).get i:=fun i hi=>by
  obtain ⟨j,_,rfl⟩:=hNN i hi
  rw [show id+j - id=j by omega]
  exact Ff rs 3000 id y j hp
 have hH:∀i,NN i→H i=(aj rs 3000 y).get (3000+(i - id)):=fun i hi=>by
  rw [Ck i hi]
  show (match (aj rs id y).get i with | some o=>some o | none=>h i)=_
  cases e:(aj rs id y).get i with
  | none=>exact absurd e hi
  | some o=>rfl
 have iC:∀i,NN i→sN i=ψ' (3000+(i - id)):=fun i hi=>if_pos hi
 have WG:∀i,NN i→N i:=fun i hi=>by obtain ⟨j,hj,rfl⟩:=hNN i hi;exact hN j hj
 have n:=Good.WA (N:=NN) (ψ':=sN) (h':=H) g k hz Mp gc.jm
  (fun i hi=>by
   have e:(aj rs id y).get i=none:=Classical.not_not.1 hi
   refine ⟨?_,if_neg hi⟩
   show (match (aj rs id y).get i with | some o=>some o | none=>h i)=h i
   rw [e])
  (fun i ty cs hb=>(bg i ty cs hb).imp (fun i hi hni=>hi (WG i hni)))
  (fun i ty cs hi hb=>by rw [hH i hi] at hb;exact tI _ _ _ _ _ _ hp hb)
  (fun i ok xs hi hb=>by rw [hH i hi] at hb;rw [iC i hi];exact gc.row _ _ _ hb)
  (fun i b hi h1 h2=>by
   rw [hH i hi] at h1;rw [iC i hi] at h2
   obtain ⟨h3,h4⟩:=gc.live _ b h1 h2
   exact ⟨h4.resolve_right (fun h=>h),h3⟩)
  (fun i i' b hi su h1 h2 h3 h4=>by
   rw [hH i hi] at h1;rw [hH i' su] at h2;rw [iC i hi] at h3;rw [iC i' su] at h4
   have:=gc.apart _ _ b h1 h2 h3 h4
   obtain ⟨j,_,rfl⟩:=hNN i hi
   obtain ⟨j',_,rfl⟩:=hNN i' su
   omega) hB
 refine ⟨sN,n.imp WG,?_⟩
 refine sK (by rw [jK,jK]) (fun vs sw => ?_) hr
 refine M4 (h':=H) (ψ':=sN) rs (n:=2000) (a:=3000) hp (fun j hn bh => ?_) sw
 replace hn:NN (id+j):=hn
 have e1:=hH _ hn
 have e2:=iC _ hn
 rw [show id+j - id=j by omega] at e1 e2
 exact ⟨by rw [←e1];exact bh,e2⟩
def iJ(P:Program)(f:FuncId):Prop:=∃fn,P.funcs[f]? = some fn∧(fn.name== "runtime.NumGoroutine")=false∧fn.body.isSome=true
theorem iK{f:FuncId}(hc:iJ P f)(args:Array Value):(callFunc f args).run P w=.ok (.enter f args) w:=by
 obtain ⟨fn,h1,h2,h3⟩:=hc
 obtain ⟨c,hc⟩:=Option.isSome_iff_exists.1 h3
 simp [callFunc,h1,hc,show ¬fn.name= "runtime.NumGoroutine" by simpa using h2]
def SF(P:Program)(ρC:Operand→Value)(o:Oper)(Z:Nat→Prop)(ψ:Nat→Value)(h:Hp)(w:World)(B0:Nat)(O N:Nat→Prop)(e:bE):Prop :=
 ∃f args,(execOp ρC o).run P w=.ok (.enter f args) w∧Calls P f args w fun en w'=>∃V Z' ψ',en=.returned V∧Next Z ψ h w B0 O N Z' ψ' (e.hp h) w'∧av Z' ψ' (e.hp h) w' e.v V
end Go.Vs
namespace Go.Vs
variable {P:Program} {Z Z':Nat→Prop} {ψ ψ':Nat→Value} {h h':Hp} {w w':World} {B0:Nat} {O:Nat→Prop} {N:Nat→Prop}
def cv:(rs:List RK)→List AV→Nat→kV rs→List wz
 | [],_,_,_=>[]
 | .own ok::r,vs,m,x=>(m,(nL (vs.headD .no)).head?,.own ok x.1)::cv r vs.tail (m+1) x.2
 | .val _::r,vs,m,x=>cv r vs.tail (m+1) x.2
 | .dZ _ _::r,vs,m,x=>cv r vs.tail (m+1) x.2
 | .agg c::r,vs,m,x=>dv c m (vs.headD .no).cells x.1++cv r vs.tail (m+1) x.2
theorem fT:∀(rs:List RK) (vs:List AV) (m:Nat) (x:kV rs),dn (cv rs vs m x)=aj rs m x
 | [],_,_,_=>rfl
 | .own ok::r,vs,m,x=>by simp only [cv,aj];rw [←fT r vs.tail (m+1) x.2];rfl
 | .val _::r,vs,m,x=>fT r vs.tail (m+1) x.2
 | .dZ _ _::r,vs,m,x=>fT r vs.tail (m+1) x.2
 | .agg c::r,vs,m,x=>by
  have e1:dn (dv c m (vs.headD .no).cells x.1)=aQ c m x.1:=lV c m _ x.1
  have e2:=fT r vs.tail (m+1) x.2
  simp only [cv,aj]
  rw [lW,e2]
  exact congrArg (·++_) e1
theorem fb:∀(rs:List RK) (vs:List AV) (m:Nat) (x:kV rs),(cv rs vs m x).map (·.1)=bq rs m
 | [],_,_,_=>rfl
 | .own ok::r,vs,m,x=>by simp only [cv,bq,List.map_cons];rw [fb r vs.tail (m+1) x.2]
 | .val _::r,vs,m,x=>fb r vs.tail (m+1) x.2
 | .dZ _ _::r,vs,m,x=>fb r vs.tail (m+1) x.2
 | .agg c::r,vs,m,x=>by
  have e1:(dv c m (vs.headD .no).cells x.1).map (·.1)=cc c m:=kB c m _ x.1
  have e2:=fb r vs.tail (m+1) x.2
  simp only [cv,bq,List.map_append]
  rw [e2]
  exact congrArg (·++_) e1
theorem n3{bs:List BK}{k:K}{r:List RK}{hh:Heap}{ids:List Nat}{vs:List AV}{x:kV (.val k::r)}(hd:bG bs (.val k::r) hh ids vs=some x):∃v gu,vs=v::gu∧fm k hh v=some x.1∧bG bs r hh ids gu=some x.2:=by
 cases vs with
 | nil=>cases hd
 | cons v vs =>
  have e:bG bs (.val k::r) hh ids (v::vs)=(match fm k hh v,bG bs r hh ids vs with
   | some x,some y=>some ((x,y):k.T×kV r)
   | _,_=>none):=rfl
  rw [e] at hd
  clear e
  refine ⟨v,vs,rfl,?_⟩
  generalize fm k hh v=o1 at hd ⊢
  generalize bG bs r hh ids vs=o2 at hd ⊢
  cases o1 with
  | none=>cases hd
  | some x1 =>
   cases o2 with
   | none=>cases hd
   | some y1=>have:=Option.some.inj hd;subst this;exact ⟨rfl,rfl⟩
theorem n6{bs:List BK}{ok:OK}{r:List RK}{hh:Heap}{ids:List Nat}{vs:List AV}{x:kV (.own ok::r)}(hd:bG bs (.own ok::r) hh ids vs=some x):∃v gu,vs=v::gu∧dE hh ok v=some x.1∧bG bs r hh ids gu=some x.2:=by
 cases vs with
 | nil=>cases hd
 | cons v vs =>
  have e:bG bs (.own ok::r) hh ids (v::vs)=(match dE hh ok v,bG bs r hh ids vs with
   | some x,some y=>some ((x,y):ok.T×kV r)
   | _,_=>none):=rfl
  rw [e] at hd
  clear e
  refine ⟨v,vs,rfl,?_⟩
  generalize dE hh ok v=o1 at hd ⊢
  generalize bG bs r hh ids vs=o2 at hd ⊢
  cases o1 with
  | none=>cases hd
  | some x1 =>
   cases o2 with
   | none=>cases hd
   | some y1=>have:=Option.some.inj hd;subst this;exact ⟨rfl,rfl⟩
theorem lX{bs:List BK}{b:Nat}{alts:List (Nat×Nat×Nat)}{r:List RK}{hh:Heap}{ids:List Nat}{vs:List AV}{x:kV (.dZ b alts::r)}(hd:bG bs (.dZ b alts::r) hh ids vs=some x):∃v gu,vs=v::gu∧mn bs hh ids b alts v=some x.1∧bG bs r hh ids gu=some x.2:=by
 cases vs with
 | nil=>cases hd
 | cons v vs =>
  have e:bG bs (.dZ b alts::r) hh ids (v::vs)=(match mn bs hh ids b alts v,bG bs r hh ids vs with
   | some x,some y=>some ((x,y):Option (Fin alts.length×Nat)×kV r)
   | _,_=>none):=rfl
  rw [e] at hd
  clear e
  refine ⟨v,vs,rfl,?_⟩
  generalize mn bs hh ids b alts v=o1 at hd ⊢
  generalize bG bs r hh ids vs=o2 at hd ⊢
  cases o1 with
  | none=>cases hd
  | some x1 =>
   cases o2 with
   | none=>cases hd
   | some y1=>have:=Option.some.inj hd;subst this;exact ⟨rfl,rfl⟩
theorem n8{bs:List BK}{c:List CK}{r:List RK}{hh:Heap}{ids:List Nat}{vs:List AV}{x:kV (.agg c::r)}(hd:bG bs (.agg c::r) hh ids vs=some x):∃cs gu,vs=.agg cs::gu∧cE c hh cs=some x.1∧bG bs r hh ids gu=some x.2:=by
 cases vs with
 | nil=>cases hd
 | cons v vs =>
  have e:bG bs (.agg c::r) hh ids (v::vs)=(match yq c hh v,bG bs r hh ids vs with
   | some x,some y=>some ((x,y):pe c×kV r)
   | _,_=>none):=rfl
  rw [e] at hd
  clear e
  have key:yq c hh v=some x.1∧bG bs r hh ids vs=some x.2:=by
   generalize yq c hh v=o1 at hd ⊢
   generalize bG bs r hh ids vs=o2 at hd ⊢
   cases o1 with
   | none=>cases hd
   | some x1 =>
    cases o2 with
    | none=>cases hd
    | some y1=>have:=Option.some.inj hd;subst this;exact ⟨rfl,rfl⟩
  obtain ⟨h1,h2⟩:=key
  unfold yq at h1
  split at h1
  ·exact ⟨_,vs,rfl,h1,h2⟩
  ·cases h1
theorem gx{bs:List BK}{hh:Heap}{ids:List Nat}:∀(rs:List RK) (vs:List AV) (x:kV rs),bG bs rs hh ids vs=some x→vs.length=rs.length
 | [],[],_,_=>rfl
 | [],_::_,_,h=>by cases h
 | .val k::r,vs,x,h=>by obtain ⟨v,gu,rfl,_,h2⟩:=n3 h;simp [gx r gu x.2 h2]
 | .own ok::r,vs,x,h=>by obtain ⟨v,gu,rfl,_,h2⟩:=n6 h;simp [gx r gu x.2 h2]
 | .dZ _ _::r,vs,x,h=>by obtain ⟨v,gu,rfl,_,h2⟩:=lX h;simp [gx r gu x.2 h2]
 | .agg _::r,vs,x,h=>by obtain ⟨v,gu,rfl,_,h2⟩:=n8 h;simp [gx r gu x.2 h2]
theorem ic{bs:List BK}{hh:Heap}{ids:List Nat}:∀(rs:List RK) (vs:List AV) (m:Nat) (x:kV rs),bG bs rs hh ids vs=some x→(cv rs vs m x).filterMap (·.2.1)=dz rs vs
 | [],vs,_,_,_=>by cases vs<;>rfl
 | .own ok::r,vs,m,x,h=>by
  obtain ⟨v,gu,rfl,_,h2⟩:=n6 h
  simp only [cv,dz,List.headD_cons,List.tail_cons]
  rw [dB,ic r gu (m+1) x.2 h2]
  simp only []
  rw [u9]
 | .val k::r,vs,m,x,h=>by
  obtain ⟨v,gu,rfl,_,h2⟩:=n3 h
  simp only [cv,dz,List.tail_cons]
  exact ic r gu (m+1) x.2 h2
 | .dZ _ _::r,vs,m,x,h=>by
  obtain ⟨v,gu,rfl,_,h2⟩:=lX h
  simp only [cv,dz,List.tail_cons]
  exact ic r gu (m+1) x.2 h2
 | .agg c::r,vs,m,x,h=>by
  obtain ⟨cs,gu,rfl,h1,h2⟩:=n8 h
  simp only [cv,dz,List.headD_cons,List.tail_cons,AV.cells]
  have e1:(dv c m cs x.1).filterMap (·.2.1)=fi c cs:=nW c m hh cs x.1 h1
  rw [List.filterMap_append,ic r gu (m+1) x.2 h2]
  exact congrArg (·++_) e1
theorem ju{hd:Hp}{bs:List BK}{hh:Heap}{ids:List Nat}:∀(rs:List RK) (vs:List AV) (m:Nat) (x:kV rs),bG bs rs hh ids vs=some x→(∀s∈dz rs vs,hd s=hh.get s)→∀e∈cv rs vs m x,tH Z ψ hd w h' ψ' e
 | [],_,_,_,_,_,e,he=>by simp [cv] at he
 | .own ok::r,vs,m,x,h,hk,e,he=>by
  obtain ⟨v,gu,rfl,h1,h2⟩:=n6 h
  simp only [cv,dz,List.headD_cons,List.tail_cons] at he hk
  rcases List.mem_cons.1 he with rfl | he
  ·exact JG h1 fun s hs=>hk s (List.mem_append_left _ hs)
  ·exact ju r gu (m+1) x.2 h2 (fun s hs=>hk s (List.mem_append_right _ hs)) e he
 | .val k::r,vs,m,x,h,hk,e,he=>by
  obtain ⟨v,gu,rfl,h1,h2⟩:=n3 h
  exact ju r gu (m+1) x.2 h2 hk e he
 | .dZ _ _::r,vs,m,x,h,hk,e,he=>by
  obtain ⟨v,gu,rfl,h1,h2⟩:=lX h
  exact ju r gu (m+1) x.2 h2 hk e he
 | .agg c::r,vs,m,x,h,hk,e,he=>by
  obtain ⟨cs,gu,rfl,h1,h2⟩:=n8 h
  simp only [cv,dz,List.headD_cons,List.tail_cons,AV.cells] at he hk
  rcases List.mem_append.1 he with he | he
  ·exact qM c m cs x.1 h1 (fun s hs=>hk s (List.mem_append_left _ hs)) e he
  ·exact ju r gu (m+1) x.2 h2 (fun s hs=>hk s (List.mem_append_right _ hs)) e he
theorem vf{hh:Heap}{id:Nat}:∀(c8:List CK) (c n:Nat) (cs:List AV) (x:pe c8),cE c8 hh cs=some x→fq c8 c=true→cs[lQ c8 c]? = some (.bF id)→hh.get id≠none∧∃o,(n+c,some id,o)∈dv c8 n cs x
 | [],c,n,cs,x,_,h,_=>by simp [fq] at h
 | .val k::r,0,n,cs,x,_,h,_=>by simp [fq] at h
 | .val k::r,c+1,n,cs,x,hd,h,hc=>by
  obtain ⟨_,h2⟩:=nV hd
  obtain ⟨h3,o,h4⟩:=vf r c (n+1) (cs.drop k.sz) x.2 h2 (by simpa [fq] using h) (by rw [List.getElem?_drop];simpa [lQ] using hc)
  exact ⟨h3,o,by rw [show n+(c+1)=n+1+c by omega];exact h4⟩
 | .own ok::r,0,n,cs,x,hd,h,hc=>by
  obtain ⟨c0,cs',rfl,h1,h2⟩:=k9 hd
  simp only [lQ,List.getElem?_cons_zero,Option.some.injEq] at hc
  subst hc
  rcases la h1 with ⟨h3,_⟩ | ⟨lN,h3,h4⟩
  ·cases h3
  ·cases h3
   exact ⟨by rw [h4];simp,_,by simp only [dv,List.headD_cons,nL,List.head?_cons];exact List.mem_cons_self⟩
 | .own ok::r,c+1,n,cs,x,hd,h,hc=>by
  obtain ⟨c0,cs',rfl,h1,h2⟩:=k9 hd
  obtain ⟨h3,o,h4⟩:=vf r c (n+1) cs' x.2 h2 (by simpa [fq] using h) (by simp only [lQ] at hc;rw [Nat.add_comm] at hc;simpa using hc)
  exact ⟨h3,o,by rw [show n+(c+1)=n+1+c by omega];simp only [dv,List.tail_cons];exact List.mem_cons_of_mem _ h4⟩
theorem zd{hh:Heap}{id c:Nat}:∀(bs:List BK) (b n:Nat) (is is':List Nat) (x:uQ bs) (bk:BK) (bi:Nat) (ty:TypeId) (cs:List AV),cP bs hh is=some x→is'.length=bs.length→bs[b]? = some bk→is[b]? = some bi→hh.get bi=some (.box ty cs) →
  fq bk.c8 c=true→cs[lQ bk.c8 c]? = some (.bF id)→hh.get id≠none∧∃o,(n+16 * b+c,some id,o)∈cm bs hh is is' n x
 | [],b,n,is,is',x,bk,bi,ty,cs,_,_,h,_,_,_,_=>by simp at h
 | b0::r,b,n,[],is',x,bk,bi,ty,cs,hd,_,_,_,_,_,_=>by cases hd
 | b0::r,b,n,i::is,[],x,bk,bi,ty,cs,_,hl,_,_,_,_,_=>by simp at hl
 | b0::r,0,n,i::is,i'::is',x,bk,bi,ty,cs,hd,hl,h1,h2,h3,h4,h5=>by
  obtain ⟨g0,g3⟩:=eO hd
  simp only [List.getElem?_cons_zero,Option.some.injEq] at h1 h2
  subst h1;subst h2
  cases b0 with
  | own ok=>simp [BK.c8,fq] at h4
  | box ty0 c0 =>
   obtain ⟨cs',g1,g2⟩:=qL g0
   rw [g1] at h3
   cases h3
   obtain ⟨h6,o,h7⟩:=vf c0 c n cs x.1 g2 h4 h5
   refine ⟨h6,o,?_⟩
   simp only [cm,dA]
   rw [nX g1]
   exact List.mem_append_left _ (List.mem_cons_of_mem _ (by simpa using h7))
 | b0::r,b+1,n,i::is,i'::is',x,bk,bi,ty,cs,hd,hl,h1,h2,h3,h4,h5=>by
  obtain ⟨_,g3⟩:=eO hd
  obtain ⟨h6,o,h7⟩:=zd r b (n+16) is is' x.2 bk bi ty cs g3 (by simpa using hl) (by simpa using h1) (by simpa using h2) h3 h4 h5
  refine ⟨h6,o,?_⟩
  rw [show n+16 * (b+1)+c=n+16+16 * b+c by omega]
  simp only [cm]
  exact List.mem_append_right _ h7
theorem ze{c:List CK}{cs:List AV}{id s off:Nat}{a:Nat×Nat×Nat}(h:wg c cs id s off a=true):cs[lQ c a.1]? = some (.bF id)∧s=a.2.1∧off=a.2.2∧fq c a.1=true:=by
 simp only [wg,Bool.and_eq_true,decide_eq_true_eq] at h
 obtain ⟨h1,h2,h3,h4⟩:=h
 refine ⟨?_,h2,h3,h4⟩
 unfold ME at h1
 split at h1
 ·rename_i e;rw [e];simp only [beq_iff_eq] at h1;rw [h1]
 ·cases h1
theorem KY{bs:List BK}{hh:Heap}{ids:List Nat}{b:Nat}{alts:List (Nat×Nat×Nat)}{v:AV}{x:Option (Fin alts.length×Nat)}(hd:mn bs hh ids b alts v=some x):(v=.kU∧x=none) ∨
  ∃id i a bi bk ty cs,v=.ref id (alts.get a).2.1 i (alts.get a).2.2∧x=some (a,i)∧ids[b]? = some bi∧bs[b]? = some bk∧hh.get bi=some (.box ty cs)∧cs[lQ bk.c8 (alts.get a).1]? = some (.bF id)∧fq bk.c8 (alts.get a).1=true:=by
 unfold mn at hd
 split at hd
 ·cases hd;exact .inl ⟨rfl,rfl⟩
 ·rename_i id s i off
  split at hd
  ·rename_i bi bk h1 h2
   split at hd
   ·rename_i ty cs h3
    split at hd
    ·rename_i a h4
     cases hd
     have h4':wg bk.c8 cs id s off (alts.get a)=true:=by simpa using List.find?_some (p:=fun a=>wg bk.c8 cs id s off (alts.get a)) h4
     obtain ⟨h5,rfl,rfl,h6⟩:=ze h4'
     exact .inr ⟨id,i,a,bi,bk,ty,cs,rfl,rfl,h1,h2,h3,h5,h6⟩
    ·cases hd
   ·cases hd
  ·cases hd
 ·cases hd
theorem qO{bs:List BK}{hh:Heap}{ids is' ids2:List Nat}{nb:Nat}{yb:uQ bs}(g:Good Z ψ hh.get w B0 O)(hz:∀b,Z b→Z' b)(hb:cP bs hh ids=some yb)(hl:is'.length=bs.length)
  (M6:∀e∈cm bs hh ids is' nb yb,h' e.1≠none→ψ' e.1=js ψ e.2.1):∀(rs:List RK) (vs:List AV) (m:Nat) (x:kV rs) (us:List Value),bG bs rs hh ids vs=some x →
  (∀id b,AV.bF id∈fD rs vs→hh.get id≠none→ob (ψ id)=some b→Z' b)→(∀e∈cv rs vs m x,h' e.1≠none→ψ' e.1=js ψ e.2.1)→an Z ψ hh.get w vs us→an Z' ψ' h' w (aO rs ids2 nb m x) us
 | [],vs,m,x,us,hd,_,_,hr=>by
  have:=gx [] vs x hd
  have hv:vs=[]:=List.eq_nil_of_length_eq_zero this
  subst hv
  simpa only [aO,an] using hr
 | .val k::r,vs,m,x,us,hd,hf,iC,hr=>by
  obtain ⟨v,gu,rfl,h1,h2⟩:=n3 hd
  simp only [an] at hr
  obtain ⟨u,iz,rfl,h3,h4⟩:=hr
  simp only [aO,an]
  simp only [fD] at hf
  exact ⟨u,iz,rfl,qH g hz (fun id b bO=>hf id b (List.mem_append_left _ bO)) h1 h3,qO g hz hb hl M6 r gu (m+1) x.2 iz h2 (fun id b bO=>hf id b (List.mem_append_right _ bO)) iC h4⟩
 | .own ok::r,vs,m,x,us,hd,hf,iC,hr=>by
  obtain ⟨v,gu,rfl,h1,h2⟩:=n6 hd
  simp only [an] at hr
  obtain ⟨u,iz,rfl,h3,h4⟩:=hr
  simp only [aO,an]
  simp only [cv,List.headD_cons,List.tail_cons] at iC
  exact ⟨u,iz,rfl,DF h1 h3 (fun hn=>iC _ List.mem_cons_self hn),qO g hz hb hl M6 r gu (m+1) x.2 iz h2 hf (fun e he=>iC e (List.mem_cons_of_mem _ he)) h4⟩
 | .dZ b alts::r,vs,m,x,us,hd,hf,iC,hr=>by
  obtain ⟨v,gu,rfl,h1,h2⟩:=lX hd
  simp only [an] at hr
  obtain ⟨u,iz,rfl,h3,h4⟩:=hr
  simp only [aO,an]
  refine ⟨u,iz,rfl,?_,qO g hz hb hl M6 r gu (m+1) x.2 iz h2 hf iC h4⟩
  rcases KY h1 with ⟨rfl,h5⟩ | ⟨id,i,al,bi,bk,ty,cs,rfl,h5,h6,h7,h8,h9,mv⟩
  ·have:x.1=none:=h5
   rw [this]
   simpa only [th,av] using h3
  ·have:x.1=some (al,i):=h5
   rw [this]
   obtain ⟨xc,o,HF⟩:=zd bs b nb ids is' yb bk bi ty cs hb hl h7 h6 h8 mv h9
   simp only [th,av] at h3 ⊢
   obtain ⟨ad,Qt,SH⟩:=h3
   refine ⟨ad,Qt,fun hn => ?_⟩
   rw [M6 _ HF hn,SH xc];rfl
 | .agg c::r,vs,m,x,us,hd,hf,iC,hr=>by
  obtain ⟨cs,gu,rfl,h1,h2⟩:=n8 hd
  simp only [an] at hr
  obtain ⟨u,iz,rfl,h3,h4⟩:=hr
  simp only [aO,an]
  simp only [fD,AV.cells] at hf
  simp only [cv,List.headD_cons,List.tail_cons,AV.cells] at iC
  refine ⟨u,iz,rfl,?_,qO g hz hb hl M6 r gu (m+1) x.2 iz h2 (fun id b bO=>hf id b (List.mem_append_right _ bO)) (fun e he=>iC e (List.mem_append_right _ he)) h4⟩
  simp only [av] at h3 ⊢
  obtain ⟨ws,rfl,h5⟩:=h3
  exact ⟨ws,rfl,qK g hz c m cs x.1 _ h1 (fun id b bO=>hf id b (List.mem_append_left _ bO)) (fun e he=>iC e (List.mem_append_left _ he)) h5⟩
end Go.Vs
