/- The value semantics is sound, operation by operation. -/
import Derived.Test.YtpldhjjpeldkaaaGreatEngineA
import Derived.Laws.StructEq
import Derived.Laws.Slices
import Derived.Laws.Strings
import Derived.MapKept
namespace Go.Vs
variable {P:Program} {Z Z':Nat→Prop} {ψ ψ':Nat→Value} {h h':Hp} {w w':World} {B0:Nat} {O:Nat→Prop} {N:Nat→Prop}
def bK.hp(h:Hp):bK→Hp
 |.val _=>h
 |.new _ os=>fun i=>match Heap.get os i with
  |some o=>some o
  |none=>h i
 |.wr _ h'=>h'.get
theorem iS(id:Nat)(o:Ob)(h:Hp):(fun i=>match Heap.get [(id,o)] i with|some o=>some o|none=>h i)=eC h id (some o):=by
 funext i
 simp only[Heap.get,eC]
 by_cases e:i=id
 ·subst e;simp
 ·rw[if_neg (fun x=>e x.symm),if_neg e]
theorem mV(hh:Heap)(id:Nat)(o:Ob):(hh.set id o).get=eC hh.get id (some o):=by
 funext i
 by_cases e:i=id
 ·subst e;rw[Heap.E3,bq]
 ·rw[Heap.JC e,c7 _ _ e]
theorem vd(hh:Heap)(id:Nat):(hh.del id).get=eC hh.get id none:=by
 funext i
 by_cases e:i=id
 ·subst e;rw[Heap.gT,bq]
 ·rw[Heap.iQ e,c7 _ _ e]
theorem AS(hh:Heap)(id:Nat)(o:Ob):Heap.get ((id,o)::hh)=eC hh.get id (some o):=by
 funext i
 simp only[Heap.get,eC]
 by_cases e:i=id
 ·subst e;simp
 ·rw[if_neg (fun x=>e x.symm),if_neg e]
def iw(P:Program)(ρC:Operand→Value)(o:Oper)(Z:Nat→Prop)(ψ:Nat→Value)(h:Hp)(w:World)(B0:Nat)(O N:Nat→Prop)(e:bK):Prop :=
 ∃V w' Z' ψ',((execOp ρC o).run P w=.ok (.value V) w'∨((execOp ρC o).run P w=.ok .skip w'∧V=undef))∧Next Z ψ h w B0 O N Z' ψ' (e.hp h) w'∧aw Z' ψ' (e.hp h) w' e.v V
theorem iw.val{ρC:Operand→Value}{o:Oper}{x:AV}(g:Good Z ψ h w B0 O){V:Value}(hr:(execOp ρC o).run P w=.ok (.value V) w)(hx:aw Z ψ h w x V):iw P ρC o Z ψ h w B0 O N (.val x) :=
 ⟨V,w,Z,ψ,.inl hr,Next.refl g,hx⟩
theorem OW{ty:TypeId}{k:K}{xs:List k.T}{id n:Nat}{x:k.T}(g:Good Z ψ h w B0 O)(hg:h id=some (.own (.row ty k) xs))(hx:xs[n]? = some x) :
  ∃gg us,Tj (ψ id)=gg∧aH Z w k x us∧∀(j:Nat) u,us[j]? = some u→w.cell? ⟨gg,n*k.sz+j,none⟩=some u:=by
 obtain⟨vs,ho,hv⟩:=g.row id (.row ty k) xs hg
 have hn:n<xs.length:=(List.getElem?_eq_some_iff.1 hx).1
 obtain⟨hl,e⟩:=ho
 rcases e with⟨h0,_⟩|⟨gg,cap,cur,e1,_,e3,_,_,_,e7⟩
 ·omega
 ·refine⟨gg,_,by rw[e1];rfl,hv n x hx,fun j u hu=>?_⟩
  rw[List.getElem?_take]at hu
  split at hu
  ·rw[List.getElem?_drop,←e7,List.getElem?_take]at hu
   split at hu
   ·simp only[World.cell?,e3];simpa using hu
   ·cases hu
  ·cases hu
theorem ud{hh:Heap}(g:Good Z ψ h w B0 O)(bz:∀id o,hh.get id=some o→h id=some o){t:TypeId}{a:AV}{v:Value}{e:bK}(hv:aw Z ψ h w a v)(he:l8 P hh t a some=some e) :
  ∃x V,e=.val x∧(Instr.loadAt t v).run P w=.ok V w∧aw Z ψ h w x V:=by
 unfold l8 at he
 split at he
 ·rename_i id s i off
  simp only[aw]at hv
  obtain⟨a,rfl,ha⟩:=hv
  split at he
  ·rename_i ty cs hg
   have wE:=bz _ _ hg
   have GK:=ha (by rw[wE];simp)
   obtain⟨gg,vs,e1,e2,e3,e4⟩:=g.box id ty cs wE
   split at he
   ·rename_i hi
    subst hi
    split at he
    ·rename_i x hx
     cases he
     rw[e1]at GK
     simp only[Tj,Nat.zero_mul,Nat.zero_add]at GK
     subst GK
     obtain⟨V,h1,h2⟩:=j6 (a:=⟨gg,off,none⟩) (e3.drop off) (fun j u hu=>by
      rw[cz];simp only[World.cell?,e2];rw[List.getElem?_drop]at hu;simpa using hu) hx
     exact⟨x,V,rfl,h1,h2⟩
    ·cases he
   ·cases he
  ·rename_i ty kk xs hg
   have wE:=bz _ _ hg
   have GK:=ha (by rw[wE];simp)
   split at he
   ·rename_i hs
    subst hs
    obtain⟨x,hx,he⟩:=Option.bind_eq_some_iff.1 he
    split at he
    ·rename_i y hy
     cases he
     obtain⟨gg,us,h1,h2,h3⟩:=OW g wE hx
     rw[h1]at GK;subst GK
     obtain⟨V,h4,h5⟩:=j6 (a:=⟨gg,i*kk.sz+off,none⟩) ((iI (ψ:=ψ) (h:=h) h2).drop off) (fun j u hu=>by
      rw[cz,Nat.add_assoc];exact h3 _ _ (by rw[List.getElem?_drop]at hu;exact hu)) hy
     exact⟨y,V,rfl,h4,h5⟩
    ·cases he
   ·cases he
  ·cases he
 ·rename_i kk x off
  split at he
  ·rename_i y hy
   cases he
   simp only[aw]at hv
   obtain⟨a,us,rfl,_,h2,h3⟩:=hv
   obtain⟨V,h4,h5⟩:=j6 ((iI (ψ:=ψ) (h:=h) h2).drop off) (fun j u hu=>h3 j u (by rw[List.getElem?_drop]at hu;exact hu)) hy
   exact⟨y,V,rfl,h4,h5⟩
  ·cases he
 ·cases he
theorem nL{t e:TypeId}(he:yj P t=some e):P.underlying t=some (.slice e):=by
 unfold yj at he
 split at he
 ·cases he;assumption
 ·cases he
theorem nM{t e:TypeId}(ht:P.underlying t=some (.slice e)){i:TypeInfo}(hi:P.info? e=some i)(a:Addr)(n c:Nat)(k:IntKind)(j:Int)(h0:0≤j)(h1:j<n) :
  (Instr.indexAt t (.slice (some a) n c) (.int k j)).run P w=.ok (.pointer (some (a.add (j.toNat*P.cellsOf e)))) w:=by
 simp[Instr.indexAt,asIntOf,run_underlying ht,h0,h1,dE hi]
theorem MI{α:Type}{xs:List α}{i:Int}{x:α}(hx:br xs i=some x):0≤i∧i<xs.length∧xs[i.toNat]? = some x:=by
 unfold br at hx
 split at hx
 ·rename_i h0
  have:=(List.getElem?_eq_some_iff.1 hx).1
  exact⟨h0,by omega,hx⟩
 ·cases hx
theorem qo{hh:Heap}(g:Good Z ψ h w B0 O)(bz:∀id o,hh.get id=some o→h id=some o){t:TypeId}{x i:AV}{v u:Value}{e:bK}(hv:aw Z ψ h w x v)(hu:aw Z ψ h w i u)(he:dD P hh t x i some=some e) :
  ∃y V,e=.val y∧(Instr.indexAt t v u).run P w=.ok V w∧aw Z ψ h w y V:=by
 unfold dD at he
 split at he
 ·cases he
 ·rename_i et het
  have ht:=nL het
  ·skip
   split at he
   ·rename_i ex Lf xs ik n
    simp only[aw]at hv hu
    subst hu
    split at he
    ·rename_i hs
     obtain⟨y,hy,he⟩:=Option.bind_eq_some_iff.1 he
     cases he
     obtain⟨h0,h1,h2⟩:=MI hy
     obtain⟨hk,_⟩:=hv
     simp only[aH]at hk
     obtain⟨v',AT,A,c,rfl,_,_,Jm⟩:=hk
     cases AT
     obtain⟨a,us,rfl,hz,hr,hc⟩:=Jm _ _ h2
     have hi:∃i,P.info? et=some i:=by
      cases hi:P.info? et with
      |some i=>exact⟨i,rfl⟩
      |none=>exfalso;have:=Lf.iP;simp[Program.cellsOf,hi]at hs;omega
     obtain⟨inf,hi⟩:=hi
     refine⟨_,_,rfl,nM ht hi a xs.length c ik n h0 h1,?_⟩
     simp only[aw]
     refine⟨_,us,rfl,by rw[cJ];exact hz,hr,fun j u hu=>?_⟩
     rw[u4,hs];exact hc j u (by simpa using hu)
    ·cases he
   ·rename_i id ik n
    split at he
    ·rename_i ty Lf xs hg
     have wE:=bz _ _ hg
     split at he
     ·rename_i hs
      cases AR:(decide (0≤n)&&decide (n<(xs.length:Int))) with
      |false=>rw[AR]at he;cases he
      |true =>
       rw[AR]at he
       cases he
       simp only[Bool.and_eq_true,decide_eq_true_eq]at AR
       simp only[aw]at hv hu
       subst hu
       have hvv:=hv.2 (by rw[wE];simp)
       obtain⟨vs,⟨_,e⟩,_⟩:=g.row id (.row ty Lf) xs wE
       rcases e with⟨h0,_⟩|⟨gg,cap,cur,e1,_,e3,_⟩
       ·omega
       ·have hi:∃i,P.info? et=some i:=by
         cases hi:P.info? et with
         |some i=>exact⟨i,rfl⟩
         |none=>exfalso;have:=Lf.iP;simp[Program.cellsOf,hi]at hs;omega
        obtain⟨inf,hi⟩:=hi
        rw[hvv,e1]
        refine⟨_,_,rfl,nM ht hi _ xs.length cap ik n AR.1 AR.2,?_⟩
        simp only[aw]
        refine⟨_,rfl,fun _=>?_⟩
        rw[e1,hs,cz];simp[Tj]
     ·cases he
    ·cases he
   ·cases he
theorem tv{t:TypeId}(h:P.cellsOf t≠0):∃i,P.info? t=some i:=by
 cases hi:P.info? t with
 |some i=>exact⟨i,rfl⟩
 |none=>exact absurd (by simp[Program.cellsOf,hi]) h
theorem tw{t:TypeId}{f n:Nat}{ft:TypeId}(hf:ir P t f=some (n,ft))(hc:P.cellsOf ft≠0)(a:Addr) :
  (Instr.fieldAt t (.pointer (some a)) f).run P w=.ok (.pointer (some (a.add n))) w:=by
 unfold ir at hf
 split at hf
 ·rename_i fs ht
  obtain⟨fd,hfd,he⟩:=Option.map_eq_some_iff.1 hf
  cases he
  obtain⟨i,hi⟩:=tv hc
  have hs:=dE (P:=P) (w:=w) hi
  simp only[Instr.fieldAt,Sem.run_bind,run_underlying ht,Result.andThen_ok,hfd,Instr.sureAddr,Sem.run_pure,fieldPlace,hs]
  rw[if_neg hc]
  rfl
 ·cases hf
theorem tx{t:TypeId}{f n:Nat}{ft:TypeId}(hf:ir P t f=some (n,ft))(hc:P.cellsOf ft≠0){id s i off:Nat}{v:Value}(hv:aw Z ψ h w (.ref id s i off) v) :
  ∃V,(Instr.fieldAt t v f).run P w=.ok V w∧aw Z ψ h w (.ref id s i (off+n)) V:=by
 simp only[aw]at hv ⊢
 obtain⟨a,rfl,ha⟩:=hv
 refine⟨_,tw hf hc a,_,rfl,fun bT=>?_⟩
 rw[ha bT,cz,Nat.add_assoc]
theorem ve{t:TypeId}{f n:Nat}{ft:TypeId}(hf:ir P t f=some (n,ft))(hc:P.cellsOf ft≠0){k:K}{x:k.T}{off:Nat}{v:Value}(hv:aw Z ψ h w (.fp k x off) v) :
  ∃V,(Instr.fieldAt t v f).run P w=.ok V w∧aw Z ψ h w (.fp k x (off+n)) V:=by
 simp only[aw]at hv ⊢
 obtain⟨a,us,rfl,hz,hr,DP⟩:=hv
 refine⟨_,tw hf hc a,_,us,rfl,by rw[cJ];exact hz,hr,fun j u hu=>?_⟩
 rw[u4]
 exact DP (n+j) u (by rw[←Nat.add_assoc];exact hu)
theorem GW{t ft:TypeId}{f n:Nat}(hf:ir P t f=some (n,ft)){cs:List AV}{x:AV}{v:Value}(hv:aw Z ψ h w (.agg cs) v)(hx:eI P ft (cs.drop n)=some x) :
  ∃V,(Instr.field t v f).run P w=.ok V w∧aw Z ψ h w x V:=by
 simp only[aw]at hv
 obtain⟨vs,rfl,hl⟩:=hv
 have hd:=hl.drop n
 have hlen:=hd.length
 unfold ir at hf
 split at hf
 ·rename_i fs ht
  obtain⟨fd,hfd,he⟩:=Option.map_eq_some_iff.1 hf
  cases he
  unfold eI at hx
  split at hx
  ·rename_i hb
   split at hx
   ·rename_i hle
    cases hx
    obtain⟨i,hi⟩:=yq hb
    refine⟨.agg (vs.extract fd.offset (fd.offset+P.cellsOf fd.type)),?_,?_⟩
    ·simp[Instr.field,run_underlying ht,hfd,asAgg,part,gE hb,dE hi]
    ·simp only[aw]
     refine⟨_,rfl,?_⟩
     rw[Array.toList_extract,List.extract_eq_take_drop,Nat.add_sub_cancel_left]
     exact hd.take _
   ·cases hx
  ·rename_i hb
   split at hx
   ·rename_i c r hcr
    cases hx
    rw[hcr]at hd
    simp only[ar]at hd
    obtain⟨u,us,hu,h1,_⟩:=hd
    refine⟨u,?_,h1⟩
    have hg:vs[fd.offset]? = some u:=by
     have:(vs.toList.drop fd.offset)[0]? = some u:=by rw[hu];rfl
     rw[List.getElem?_drop]at this;simpa using this
    simp[Instr.field,run_underlying ht,hfd,asAgg,part,gE hb,hg]
   ·cases hx
  ·cases hx
 ·cases hf
theorem MJ{hh:Heap}(g:Good Z ψ h w B0 O)(bz:∀id o,hh.get id=some o→h id=some o){x:AV}{v:Value}{e:bK}(hv:aw Z ψ h w x v)(he:DL hh x some=some e) :
  ∃n:Nat,e=.val (.int .i64 (n:Int))∧((∃s,x=.str s∧v=.string s∧n=s.size)∨∃A c,v=.slice A n c):=by
 unfold DL at he
 split at he
 ·rename_i s hs
  cases he
  have hx:x=.str s:=by
   cases x with
   |bO id=>simp only[cV]at hs;split at hs<;>cases hs
   |str s'=>simp only[cV]at hs;exact hs
   |_=>simp only[cV]at hs<;>cases hs
  subst hx
  simp only[aw]at hv
  exact⟨_,rfl,.inl ⟨s,rfl,hv,rfl⟩⟩
 ·rename_i ex k xs hs
  cases he
  have OX:=DO (Z':=fun b=>Z b∨Own ψ h b) (g.sub bz) (fun b hb=>.inl hb) (fun id b _ bp hb=>.inr (by
   obtain⟨o,ho⟩:=Option.ne_none_iff_exists'.1 bp
   exact⟨id,by rw[bz id o ho];simp,hb⟩)) (hv.qz bz)
  rw[hs]at OX
  simp only[aw,aH]at OX
  obtain⟨⟨v',AT,A,c,rfl,_⟩,_⟩:=OX
  cases AT
  exact⟨_,rfl,.inr ⟨A,c,rfl⟩⟩
 ·rename_i hs
  cases he
  have hx:x=.gu:=by
   cases x with
   |bO id=>simp only[cV]at hs;split at hs<;>cases hs
   |gu=>rfl
   |_=>simp only[cV]at hs<;>cases hs
  subst hx
  simp only[aw]at hv
  exact⟨0,rfl,.inr ⟨_,_,hv⟩⟩
 ·cases he
def eE(Z:Nat→Prop)(ψ:Nat→Value)(h:Hp)(w:World):Option AV→Option Value→Prop
 |none,none=>True
 |some a,some v=>aw Z ψ h w a v
 |_,_=>False
theorem cx(k:IntKind)(i:Int)(y:Nat)(code:BoundsCode)(h0:0≤i)(h1:i≤y):(Instr.sliceBound (.int k i) y code).run P w=.ok i.toNat w:=by
 simp[Instr.sliceBound,asIntOf,h0,h1]
theorem ue{b:Bool}{n c:Nat}(hc:n≤c){lo hi mx:Option AV}{JJ tY mx':Option Value}{l u:Int}(h1:eE Z ψ h w lo JJ)(h2:eE Z ψ h w hi tY)(h3:eE Z ψ h w mx mx')
  (hb:l6 n lo hi=some (l,u)) (ho:bj n l u=true) (hm:mx=none∨(mx=some (.int .i64 u)∧hi≠none)) :
  (Instr.sliceBounds b n c JJ tY mx').run P w=.ok (l.toNat,u.toNat,if mx=none then c else u.toNat) w:=by
 simp only[bj,Bool.and_eq_true,decide_eq_true_eq]at ho
 obtain⟨h4,h5,h6⟩:=ho
 have huc:u≤(c:Int):=by omega
 unfold l6 at hb
 rcases hm with rfl|⟨rfl,bp⟩
 ·cases mx' with
  |some _=>exact h3.elim
  |none =>
   split at hb
   all_goals first|(cases hb;done)|skip
   ·cases hb
    cases JJ with
    |some _=>exact h1.elim
    |none =>
     cases tY with
     |some _=>exact h2.elim
     |none=>simp[Instr.sliceBounds]
   ·cases hb
    cases JJ with
    |none=>exact h1.elim
    |some v =>
     simp only[eE,aw]at h1
     subst h1
     cases tY with
     |some _=>exact h2.elim
     |none=>simp[Instr.sliceBounds,cx .i64 l n _ h4 h5]
   ·cases hb
    cases JJ with
    |some _=>exact h1.elim
    |none =>
     cases tY with
     |none=>exact h2.elim
     |some v =>
      simp only[eE,aw]at h2
      subst h2
      cases b<;>simp[Instr.sliceBounds,cx .i64 u c _ (by omega) huc]
   ·cases hb
    cases JJ with
    |none=>exact h1.elim
    |some v =>
     simp only[eE,aw]at h1
     subst h1
     cases tY with
     |none=>exact h2.elim
     |some v =>
      simp only[eE,aw]at h2
      subst h2
      have hx:l≤((u.toNat:Nat):Int):=by omega
      cases b<;>simp[Instr.sliceBounds,cx .i64 u c _ (by omega) huc,cx .i64 l u.toNat _ h4 hx]
 ·cases mx' with
  |none=>exact h3.elim
  |some m =>
   simp only[eE,aw]at h3
   subst h3
   have huu:u≤((u.toNat:Nat):Int):=by omega
   have hx:l≤((u.toNat:Nat):Int):=by omega
   split at hb
   all_goals first|(cases hb;done)|skip
   ·exact absurd rfl bp
   ·exact absurd rfl bp
   ·cases hb
    cases JJ with
    |some _=>exact h1.elim
    |none =>
     cases tY with
     |none=>exact h2.elim
     |some v =>
      simp only[eE,aw]at h2
      subst h2
      cases b<;>simp[Instr.sliceBounds,cx .i64 u c _ (by omega) huc,cx .i64 u u.toNat _ (by omega) huu]
   ·cases hb
    cases JJ with
    |none=>exact h1.elim
    |some v =>
     simp only[eE,aw]at h1
     subst h1
     cases tY with
     |none=>exact h2.elim
     |some v =>
      simp only[eE,aw]at h2
      subst h2
      cases b<;>simp[Instr.sliceBounds,cx .i64 u c _ (by omega) huc,cx .i64 u u.toNat _ (by omega) huu,cx .i64 l u.toNat _ h4 hx]
theorem pn{t e:TypeId}(ht:P.underlying t=some (.slice e)){kk:K}(jf:P.cellsOf e=kk.sz){xs:List kk.T}{v:Value}(hr:aH Z w (.sl kk) xs [v]){lo hi mx:Option AV}{JJ tY mx':Option Value}{l u:Int}
  (h1:eE Z' ψ h w lo JJ) (h2:eE Z' ψ h w hi tY) (h3:eE Z' ψ h w mx mx') (hb:l6 xs.length lo hi=some (l,u)) (ho:bj xs.length l u=true) (hm:mx=none∨(mx=some (.int .i64 u)∧hi≠none)) :
  ∃V,(Instr.sliceAt t v JJ tY mx').run P w=.ok V w∧aH Z w (.sl kk) (cut xs l u) [V]∧(mx≠none→∃A c,V=.slice A c c):=by
 simp only[aH]at hr
 obtain⟨v',AT,A,c,rfl,hl,hn,Jm⟩:=hr
 cases AT
 have dy:=ue (P:=P) (w:=w) (b:=true) hl h1 h2 h3 hb ho hm
 simp only[bj,Bool.and_eq_true,decide_eq_true_eq]at ho
 obtain⟨h4,h5,h6⟩:=ho
 obtain⟨i,hi⟩:=tv (P:=P) (t:=e) (by have:=kk.iP;omega)
 generalize Ow:(if mx=none then c else u.toNat)=m at dy
 have Ww:u.toNat≤m:=by
  rcases hm with rfl|⟨rfl,_⟩
  ·simp at Ow;omega
  ·simp at Ow;omega
 have hmc:m≤c:=by
  rcases hm with rfl|⟨rfl,_⟩
  ·simp at Ow;omega
  ·simp at Ow;omega
 have uM:(cut xs l u).length=u.toNat-l.toNat:=by
  unfold cut;rw[List.length_drop,List.length_take];omega
 refine⟨.slice (if m=l.toNat then A else A.map (·.add (l.toNat*P.cellsOf e))) (u.toNat-l.toNat) (m-l.toNat),?_,?_,?_⟩
 ·simp[Instr.sliceAt,Instr.slice,run_underlying ht,dy,dE hi]
 ·simp only[aH]
  refine⟨_,rfl,_,_,by rw[uM],by rw[uM];omega,fun hA=>?_,fun j x hx=>?_⟩
  ·split at hA
   ·have:=hn hA;omega
   ·cases A with
    |none=>have:=hn rfl;omega
    |some a=>cases hA
  ·have hj:j<u.toNat-l.toNat:=by rw[←uM];exact(List.getElem?_eq_some_iff.1 hx).1
   have Y5:xs[l.toNat+j]? = some x:=by
    unfold cut at hx
    rw[List.getElem?_drop,List.getElem?_take,if_pos (by omega)]at hx
    exact hx
   obtain⟨a,us,rfl,hz,hr,hc⟩:=Jm _ _ Y5
   refine⟨a.add (l.toNat*P.cellsOf e),us,by rw[if_neg (by omega)];rfl,by rw[cJ];exact hz,hr,fun q y hy=>?_⟩
   rw[u4,jf]
   have:=hc q y hy
   rw[Nat.add_mul]at this
   rw[←Nat.add_assoc];exact this
 ·intro bp
  rcases hm with rfl|⟨rfl,_⟩
  ·exact absurd rfl bp
  ·simp at Ow
   exact⟨_,_,by rw[←Ow]⟩
theorem GX{hh:Heap}(g:Good Z ψ h w B0 O)(bz:∀id o,hh.get id=some o→h id=some o){t e:TypeId}(ht:P.underlying t=some (.slice e)){x:AV}{v:Value}{lo hi mx:Option AV}{JJ tY mx':Option Value}{ef:bK}
  (hv:aw Z ψ h w x v) (h1:eE Z ψ h w lo JJ) (h2:eE Z ψ h w hi tY) (h3:eE Z ψ h w mx mx') (mW:∀y hw,ef=.wr y hw→hh.get=h) (he:rW hh (P.cellsOf e) x lo hi mx some=some ef) (Wx:(P.info? e).isSome=true) :
  ∃V Z',(Instr.sliceAt t v JJ tY mx').run P w=.ok V w∧Next Z ψ h w B0 O N Z' ψ (ef.hp h) w∧aw Z' ψ (ef.hp h) w ef.v V:=by
 unfold rW at he
 split at he
 ·
  simp only[aw]at hv
  subst hv
  split at he
  ·rename_i l u hb
   cases ho:bj 0 l u with
   |false=>rw[ho]at he;cases he
   |true =>
    rw[ho]at he
    cases he
    have dy:=ue (P:=P) (w:=w) (b:=true) (Nat.le_refl 0) h1 h2 h3 hb ho (.inl rfl)
    simp only[bj,Bool.and_eq_true,decide_eq_true_eq]at ho
    have hl0:l.toNat=0:=by omega
    have hu0:u.toNat=0:=by omega
    obtain⟨i,hi⟩:=Option.isSome_iff_exists.1 Wx
    refine⟨.slice none 0 0,Z,?_,Next.refl g,by simp only[bK.v,aw]⟩
    rw[hl0,hu0]at dy
    simp[Instr.sliceAt,Instr.slice,run_underlying ht,dy,dE hi]
  ·cases he
 ·
  rename_i ex kk xs
  simp only[aw]at hv
  split at he
  ·rename_i jf
   split at he
   ·rename_i l u hb
    split at he
    ·cases ho:bj xs.length l u with
     |false=>rw[ho]at he;cases he
     |true =>
      rw[ho]at he
      cases he
      obtain⟨V,h4,h5,_⟩:=pn (P:=P) ht jf hv.1 h1 h2 h3 hb ho (.inl rfl)
      exact⟨V,Z,h4,Next.refl g,by simp only[bK.v,bK.hp,aw];exact⟨h5,by simp⟩⟩
    ·rename_i m
     cases ho:(bj xs.length l u&&(hi.isSome&&decide (m=u))) with
     |false=>rw[ho]at he;cases he
     |true =>
      rw[ho]at he
      cases he
      simp only[Bool.and_eq_true,decide_eq_true_eq]at ho
      obtain⟨ho,Y6,rfl⟩:=ho
      obtain⟨V,h4,h5,h6⟩:=pn (P:=P) ht jf hv.1 h1 h2 h3 hb ho (.inr ⟨rfl,by intro e;rw[e]at Y6;cases Y6⟩)
      exact⟨V,Z,h4,Next.refl g,by simp only[bK.v,bK.hp,aw];exact⟨h5,fun _=>h6 (by simp)⟩⟩
    ·cases he
   ·cases he
  ·cases he
 ·
  rename_i id
  split at he
  ·rename_i ty kk xs hg
   have wE:=bz _ _ hg
   have hvv:=hv
   simp only[aw]at hvv
   have ad0:=hvv.2 (by rw[wE];simp)
   obtain⟨vs,OY,vf⟩:=g.row id (.row ty kk) xs wE
   let Z1:Nat→Prop:=fun b=>Z b∨ob (ψ id)=some b
   have hd:aH Z1 w (.sl kk) xs [v]:=by rw[ad0];exact u6 OY vf (fun b hb=>.inl hb) (fun b hb=>.inr hb)
   have Ve:∀hw:Hp,hw=eC h id none→Next Z ψ h w B0 O N Z1 ψ hw w:=by
    rintro hw rfl
    have hs:∀i o,eC h id none i=some o→h i=some o:=fun i o hi=>by
     by_cases e:i=id
     ·subst e;rw[bq]at hi;cases hi
     ·rwa [c7 _ _ e]at hi
    have gg:=g.freeze hs (fun b hb=>.inl hb) (fun b (hb:Z1 b)=>hb.imp (fun h=>h) (fun hb=>⟨id,by rw[wE];simp,bq _ _ _,hb⟩))
    refine⟨fun b hb=>.inl hb,fun b hb=>hb.imp (fun h=>h) (fun hb=>.inl ⟨id,by rw[wE];simp,hb⟩),dh.refl _ _ _,fun i hi=>?_,gg⟩
    obtain⟨o,ho⟩:=Option.ne_none_iff_exists'.1 hi
    exact .inl ⟨by rw[hs i o ho];simp,rfl⟩
   have OT:eE Z ψ h w lo JJ:=h1
   split at he
   ·rename_i jf
    split at he
    ·rename_i l u hb
     split at he
     ·cases ho:bj xs.length l u with
      |false=>rw[ho]at he;cases he
      |true =>
       rw[ho]at he
       cases he
       have heq:=mW _ _ rfl
       obtain⟨V,h4,h5,_⟩:=pn (P:=P) ht jf hd h1 h2 h3 hb ho (.inl rfl)
       exact⟨V,Z1,h4,Ve _ (by simp only[bK.hp];rw[vd,heq]),by simp only[bK.v,bK.hp,aw];exact⟨h5,by simp⟩⟩
     ·rename_i m
      cases ho:(bj xs.length l u&&(hi.isSome&&decide (m=u))) with
      |false=>rw[ho]at he;cases he
      |true =>
       rw[ho]at he
       cases he
       have heq:=mW _ _ rfl
       simp only[Bool.and_eq_true,decide_eq_true_eq]at ho
       obtain⟨ho,Y6,rfl⟩:=ho
       obtain⟨V,h4,h5,h6⟩:=pn (P:=P) ht jf hd h1 h2 h3 hb ho (.inr ⟨rfl,by intro e;rw[e]at Y6;cases Y6⟩)
       exact⟨V,Z1,h4,Ve _ (by simp only[bK.hp];rw[vd,heq]),by simp only[bK.v,bK.hp,aw];exact⟨h5,fun _=>h6 (by simp)⟩⟩
     ·cases he
    ·cases he
   ·cases he
  ·cases he
 ·cases he
end Go.Vs
set_option linter.unusedSimpArgs false
set_option linter.unusedVariables false
namespace Go.Vs
variable {P:Program} {Z Z':Nat→Prop} {ψ ψ':Nat→Value} {h h':Hp} {w w':World} {B0:Nat} {O:Nat→Prop} {N:Nat→Prop}
def mb(P:Program)(t:TypeId)(k:K):Prop :=
 ∀(Z:Nat→Prop) (w:World) (x y:k.T) (xs ys:Array Value),aH Z w k x xs.toList→aH Z w k y ys.toList →
  (Op.equal t (.agg xs) (.agg ys)).run P w=.ok (rT k x y) w∧(∀(op:BinOp) (a b:Operand),(eqGuard op t a b (.agg xs) (.agg ys)).run P w=.ok () w)∧∀e:Bool,(Instr.checkKey e 10000 t (.agg xs)).run P w=.ok () w
theorem wT(op:BinOp)(t:TypeId)(a b:Operand)(k k':IntKind)(x y:Int):(eqGuard op t a b (.int k x) (.int k' y)).run P w=.ok () w:=by cases op<;>simp[eqGuard]
theorem MK(op:BinOp)(t:TypeId)(a b:Operand)(x y:ByteArray):(eqGuard op t a b (.string x) (.string y)).run P w=.ok () w:=by cases op<;>simp[eqGuard]
theorem JK(op:BinOp)(t:TypeId)(a b:Operand)(x y:Bool):(eqGuard op t a b (.bool x) (.bool y)).run P w=.ok () w:=by cases op<;>simp[eqGuard]
theorem DS(op:BinOp)(t:TypeId)(a b:Operand)(x y:Option Addr):(eqGuard op t a b (.pointer x) (.pointer y)).run P w=.ok () w:=by cases op<;>simp[eqGuard]
def b8:AV→Value
 |.bool b=>.bool b
 |.int k n=>.int k n
 |.str s=>.string s
 |_=>undef
theorem j9(k:IntKind)(n:Int):aw Z ψ h w (.int k n) (b8 (.int k n)):=by simp only[aw,b8]
theorem eT(b:Bool):aw Z ψ h w (.bool b) (b8 (.bool b)):=by simp only[aw,b8]
theorem kz{t e:TypeId}(ht:P.underlying t=some (.pointer e))(a:Option Addr):(Op.equal t (.pointer a) (.pointer none)).run P w=.ok a.isNone w:=by
 have key:∀d,(Op.equalIn (d+1) t (.pointer a) (.pointer none)).run P w=.ok a.isNone w:=fun d=>by
  cases a<;>simp[Op.equalIn,run_underlying ht]
 exact key 9999
theorem OZ{op:BinOp}{t:TypeId}{k:IntKind}{a b:Int}{v:AV}(hv:Wm op k a b=some v):∃V,(binOp op t (.int k a) (.int k b)).run P w=.ok V w∧aw Z ψ h w v V:=by
 cases op<;>simp only[Wm]at hv<;>cases hv<;>first
  |(refine⟨b8 (.int _ _),?_,j9 _ _⟩;simp[binOp,Op.intArith,Op.intCmp,b8];done)
  |(refine⟨b8 (.bool _),?_,eT _⟩;simp[binOp,Op.intArith,Op.intCmp,b8];done)
  |(refine⟨b8 (.int _ _),?_,j9 _ _⟩;simp only[binOp,b8,ne_eq,not_true_eq_false,if_false];rfl)
theorem ML{Eqs:TypeId→Option K}(C4:∀t k,Eqs t=some k→mb P t k){op:BinOp}{t:TypeId}{xo yo:Operand}{x y:AV}{u v:Value}{e:bK}(hu:aw Z ψ h w x u)(hv:aw Z ψ h w y v)(he:yk P Eqs op t x y some=some e) :
  ∃r V,e=.val r∧((do eqGuard op t xo yo u v;binOp op t u v:Sem Value)).run P w=.ok V w∧aw Z ψ h w r V:=by
 unfold yk at he
 split at he
 ·rename_i k a k' b
  simp only[aw]at hu hv
  subst hu;subst hv
  split at he
  ·cases hb:decide (b<0) with
   |true=>rw[hb]at he;cases he
   |false =>
    rw[hb]at he;cases he
    have Wy:¬b<0:=by simpa using hb
    exact⟨_,b8 (.int _ _),rfl,by simp[wT,binOp,Op.shift,Wy,b8,YV],j9 _ _⟩
  ·cases hb:decide (b<0) with
   |true=>rw[hb]at he;cases he
   |false =>
    rw[hb]at he;cases he
    have Wy:¬b<0:=by simpa using hb
    exact⟨_,b8 (.int _ _),rfl,by simp[wT,binOp,Op.shift,Wy,b8,lB],j9 _ _⟩
  split at he
  ·rename_i hk
   subst hk
   simp only[Sem.run_bind,wT,Result.andThen_ok]
   split at he
   ·cases hb:(b==0) with
    |true=>rw[hb]at he;cases he
    |false =>
     rw[hb]at he;cases he
     have Wy:b≠0:=by simpa using hb
     exact⟨_,b8 (.int _ _),rfl,by simp[binOp,Op.intDiv,Wy,b8],j9 _ _⟩
   ·cases hb:(b==0) with
    |true=>rw[hb]at he;cases he
    |false =>
     rw[hb]at he;cases he
     have Wy:b≠0:=by simpa using hb
     exact⟨_,b8 (.int _ _),rfl,by simp[binOp,Op.intDiv,Wy,b8],j9 _ _⟩
   ·split at he
    ·rename_i v hv
     cases he
     obtain⟨V,h1,h2⟩:=OZ (P:=P) (t:=t) (w:=w) (Z:=Z) (ψ:=ψ) (h:=h) hv
     exact⟨_,V,rfl,h1,h2⟩
    ·cases he
  ·cases he
 ·rename_i a b
  simp only[aw]at hu hv
  subst hu;subst hv
  simp only[Sem.run_bind,MK,Result.andThen_ok]
  cases op<;>simp only[YW]at he<;>first|(cases he;done)|(cases he;exact⟨_,b8 (.bool _),rfl,by simp[binOp,Op.stringOp,←beq_toListBytes,b8],eT _⟩)
 ·rename_i a b
  simp only[aw]at hu hv
  subst hu;subst hv
  simp only[Sem.run_bind,JK,Result.andThen_ok]
  have key:(P.underlying t).map EZ=some true→P.underlying t=some .bool:=fun hm=>by
   obtain⟨d,hd,he⟩:=Option.map_eq_some_iff.1 hm
   cases d<;>simp[EZ]at he
   exact hd
  split at he
  ·rename_i hm
   cases he
   exact⟨_,b8 (.bool _),rfl,by simp[binOp,Op.equal,Op.maxDepth,run_equalIn_bool' (P:=P) w 9999 t a b (key hm),b8],eT _⟩
  ·rename_i hm
   cases he
   exact⟨_,b8 (.bool _),rfl,by simp[binOp,Op.equal,Op.maxDepth,run_equalIn_bool' (P:=P) w 9999 t a b (key hm),b8],eT _⟩
  ·cases he
 ·rename_i a b
  split at he
  ·cases he
  ·rename_i k hk
   simp only[aw]at hu hv
   obtain⟨xs,rfl,hx⟩:=hu
   obtain⟨ys,rfl,hy⟩:=hv
   split at he
   ·rename_i x y hdx hdy
    cases he
    obtain⟨h1,h2,_⟩:=C4 t k hk Z w x y xs ys (dL hdx hx) (dL hdy hy)
    exact⟨_,b8 (.bool _),rfl,by simp only[Sem.run_bind,h2,Result.andThen_ok,binOp,h1,Sem.run_pure,b8],eT _⟩
   ·rename_i x y hdx hdy
    cases he
    obtain⟨h1,h2,_⟩:=C4 t k hk Z w x y xs ys (dL hdx hx) (dL hdy hy)
    exact⟨_,b8 (.bool _),rfl,by simp only[Sem.run_bind,h2,Result.andThen_ok,binOp,h1,Sem.run_pure,b8],eT _⟩
   ·cases he
 ·simp only[aw]at hu hv
  subst hu;subst hv
  have key:(P.underlying t).map wL=some true→∃e,P.underlying t=some (.pointer e):=fun hm=>by
   obtain⟨d,hd,he⟩:=Option.map_eq_some_iff.1 hm
   cases d<;>simp[wL]at he
   exact⟨_,hd⟩
  simp only[Sem.run_bind,DS,Result.andThen_ok]
  split at he
  ·rename_i hm
   cases he
   obtain⟨et,ht⟩:=key hm
   exact⟨_,b8 (.bool _),rfl,by simp only[binOp,Sem.run_bind,kz ht,Result.andThen_ok,Sem.run_pure,b8,Option.isNone_none,Option.isNone_some,Bool.not_true,Bool.not_false],eT _⟩
  ·rename_i hm
   cases he
   obtain⟨et,ht⟩:=key hm
   exact⟨_,b8 (.bool _),rfl,by simp only[binOp,Sem.run_bind,kz ht,Result.andThen_ok,Sem.run_pure,b8,Option.isNone_none,Option.isNone_some,Bool.not_true,Bool.not_false],eT _⟩
  ·cases he
 ·simp only[aw]at hu hv
  obtain⟨a,rfl,_⟩:=hu
  subst hv
  have key:(P.underlying t).map wL=some true→∃e,P.underlying t=some (.pointer e):=fun hm=>by
   obtain⟨d,hd,he⟩:=Option.map_eq_some_iff.1 hm
   cases d<;>simp[wL]at he
   exact⟨_,hd⟩
  simp only[Sem.run_bind,DS,Result.andThen_ok]
  split at he
  ·rename_i hm
   cases he
   obtain⟨et,ht⟩:=key hm
   exact⟨_,b8 (.bool _),rfl,by simp only[binOp,Sem.run_bind,kz ht,Result.andThen_ok,Sem.run_pure,b8,Option.isNone_none,Option.isNone_some,Bool.not_true,Bool.not_false],eT _⟩
  ·rename_i hm
   cases he
   obtain⟨et,ht⟩:=key hm
   exact⟨_,b8 (.bool _),rfl,by simp only[binOp,Sem.run_bind,kz ht,Result.andThen_ok,Sem.run_pure,b8,Option.isNone_none,Option.isNone_some,Bool.not_true,Bool.not_false],eT _⟩
  ·cases he
 ·cases he
theorem MM{a:AV}{v:Value}(hp:wJ a=true)(hr:aw Z ψ h w a v):v.oneCell'=true:=by
 cases a with
 |no=>cases hp
 |agg cs=>cases hp
 |nW cs=>cases hp
 |bool b=>simp only[aw]at hr;subst hr;rfl
 |int k n=>simp only[aw]at hr;subst hr;rfl
 |str s=>simp only[aw]at hr;subst hr;rfl
 |lY=>simp only[aw]at hr;subst hr;rfl
 |gu=>simp only[aw]at hr;subst hr;rfl
 |ref id s i off=>simp only[aw]at hr;obtain⟨a,rfl,_⟩:=hr;rfl
 |fp k x off=>simp only[aw]at hr;obtain⟨a,us,rfl,_⟩:=hr;rfl
 |sl ex k xs=>simp only[aw,aH]at hr;obtain⟨⟨v',hv,A,c,rfl,_⟩,_⟩:=hr;cases hv;rfl
 |bO id=>simp only[aw]at hr;exact hr.1.2
 |mp kk vk es=>simp only[aw,aH]at hr;obtain⟨A,hv,_⟩:=hr;cases hv;rfl
 |fn f cap=>simp only[aw]at hr;obtain⟨vs,rfl,_⟩:=hr;rfl
theorem uf:∀{cs:List AV} {vs:List Value},cs.all wJ=true→ar Z ψ h w cs vs→∀u∈vs,u.oneCell'=true
 |[],_,_,hr,u,hu=>by simp only[ar]at hr;subst hr;simp at hu
 |c::r,_,hp,hr,u,hu=>by
  simp only[List.all_cons,Bool.and_eq_true]at hp
  simp only[ar]at hr
  obtain⟨v,us,rfl,h1,h2⟩:=hr
  rcases List.mem_cons.1 hu with rfl|hu
  ·exact MM hp.1 h1
  ·exact uf hp.2 h2 u hu
theorem GY{a:AV}(hp:a.cells.all wJ=true):a≠.no:=by rintro rfl;simp[AV.cells,wJ]at hp
theorem sj{id:Nat}:∀{cs:List AV},Jw id cs=true→AV.bO id∉cs
 |[],_=>by simp
 |c::r,hn=>by
  intro hm
  cases c with
  |bO i =>
   simp only[Jw,Bool.and_eq_true,Bool.not_eq_true',beq_eq_false_iff_ne]at hn
   rcases List.mem_cons.1 hm with e|hm
   ·cases e;exact hn.1 rfl
   ·exact sj hn.2 hm
  |_ =>
   simp only[Jw]at hn
   rcases List.mem_cons.1 hm with e|hm
   ·cases e
   ·exact sj hn hm
theorem yw{hh:Heap}(g:Good Z ψ hh.get w B0 O){t:TypeId}{a x:AV}{u v:Value}{e:bK}(hu:aw Z ψ hh.get w a u)(hv:aw Z ψ hh.get w x v)(he:rU P hh t a x some=some e) :
  ∃hw w' Z',e=.wr .no hw∧(Instr.storeAt t u v).run P w=.ok () w'∧Next Z ψ hh.get w B0 O N Z' ψ hw.get w':=by
 unfold rU at he
 split at he
 ·rename_i hc
  obtain⟨hlen,Tq,qY⟩:=hc
  obtain⟨inf,Tq⟩:=Option.isSome_iff_exists.1 Tq
  have Ou:=hv.cells (GY qY)
  have GZ:=uf qY Ou
  have uM:=Ou.length
  simp only[Array.length_toList]at uM
  split at he
  ·rename_i id s i off
   simp only[aw]at hu
   obtain⟨a,rfl,ha⟩:=hu
   split at he
   ·rename_i ty cs hg
    split at he
    ·rename_i hc
     obtain⟨rfl,Y7⟩:=hc
     cases he
     have GK:=ha (by rw[hg];simp)
     obtain⟨w',h1,h2⟩:=AK (P:=P) (N:=N) g hg Tq Ou GZ (by omega) Y7 (a:=a) (by rw[GK];simp)
     exact⟨_,w',Z,rfl,h1,by rw[mV];exact h2⟩
    ·cases he
   ·rename_i ty kk xs hg
    obtain⟨y,hx,SM⟩:=Option.bind_eq_some_iff.1 he
    clear he
    split at SM
    ·rename_i hc
     obtain⟨rfl,Y7,qA⟩:=hc
     split at SM
     ·rename_i z hz
      cases SM
      have GK:=ha (by rw[hg];simp)
      have bT:=sj qA
      have gd:=iR g x.cells
      have hgd:(cS hh x.cells).get id=some (.own (.row ty kk) xs):=by rw[o9 _ _ _ bT];exact hg
      have Wz:=oi (Z':=qG Z ψ hh.get x.cells) g (fun b hb=>.inl hb) (fun i b hm bp hb=>.inr ⟨i,hm,bp,hb⟩) Ou
      obtain⟨w',h1,h2⟩:=AM (P:=P) (N:=N) gd hgd Tq hx (y:=z) (off:=off) (V:=v) (by omega) (by omega) (a:=a) GK (fun us G1=>by
       have h3:=(iI (ψ:=ψ) (h:=hh.get) G1)
       have h4:=dL hz (Wz.eu off h3)
       rwa [sf _ _ _ (by rw[Array.length_toList,G1.len];omega),Array.length_toList]at h4) GZ
      refine⟨_,w',qG Z ψ hh.get x.cells,rfl,h1,?_⟩
      rw[show((stored hh x.cells).2.set id (.own (.row ty kk) (xs.set i z))).get=eC (cS hh x.cells).get id (some (.own (.row ty kk) (xs.set i z))) from mV _ _ _]
      exact h2.drop (fun b hb=>.inl hb) (fun b hb=>hb.imp (fun h=>h) (fun⟨i,_,h5,h6⟩=>⟨i,h5,h6⟩)) (eJ _ _)
     ·cases SM
    ·cases SM
   ·cases he
  ·cases he
 ·cases he
end Go.Vs
namespace Go.Vs
variable {P:Program} {Z Z':Nat→Prop} {ψ ψ':Nat→Value} {h h':Hp} {w w':World} {B0:Nat} {O:Nat→Prop} {N:Nat→Prop}
theorem O0{a:AV}{v:Value}(ha:a.isAgg=true)(hr:aw Z ψ h w a v):∃vs,v=.agg vs:=by
 cases a<;>simp[AV.isAgg]at ha
 simp only[aw]at hr
 obtain⟨vs,rfl,_⟩:=hr
 exact⟨vs,rfl⟩
theorem DT{a:AV}{v:Value}(ha:a.isAgg=false)(qA:a≠.no)(hr:aw Z ψ h w a v):v.cells=#[v]:=by
 cases a with
 |no=>exact absurd rfl qA
 |agg cs=>simp[AV.isAgg]at ha
 |bool b=>simp only[aw]at hr;subst hr;rfl
 |int k n=>simp only[aw]at hr;subst hr;rfl
 |str s=>simp only[aw]at hr;subst hr;rfl
 |lY=>simp only[aw]at hr;subst hr;rfl
 |gu=>simp only[aw]at hr;subst hr;rfl
 |ref id s i off=>simp only[aw]at hr;obtain⟨a,rfl,_⟩:=hr;rfl
 |fp k x off=>simp only[aw]at hr;obtain⟨a,us,rfl,_⟩:=hr;rfl
 |sl ex k xs=>simp only[aw,aH]at hr;obtain⟨⟨v',hv,A,c,rfl,_⟩,_⟩:=hr;cases hv;rfl
 |bO id=>simp only[aw]at hr;exact hr.1.1
 |mp kk vk es=>simp only[aw,aH]at hr;obtain⟨A,hv,_⟩:=hr;cases hv;rfl
 |fn f cap=>simp only[aw]at hr;obtain⟨vs,rfl,_⟩:=hr;rfl
 |nW cs=>simp only[aw]at hr;obtain⟨vs,rfl,_⟩:=hr;rfl
theorem ug{hh:Heap}{k:K}{a:AV}{x:k.T}{v:Value}(g:Good Z ψ hh.get w B0 O)(hz:∀b,Z b→Z' b)(hb:∀id b,AV.bO id∈a.cells→hh.get id≠none→ob (ψ id)=some b→Z' b)
  (hx:gh k hh a=some x) (hr:aw Z ψ hh.get w a v):aH Z' w k x v.cells.toList∧(k.isAgg=true→∃vs,v=.agg vs)∧(k.isAgg=false→v.cells=#[v]):=by
 unfold gh at hx
 split at hx
 ·rename_i Vf
  have qA:=DR hx
  have hv:=oi g hz hb (hr.cells qA)
  exact⟨dL hx hv,fun h=>O0 (by rw[←Vf];exact h) hr,fun h=>DT (by rw[←Vf];exact h) qA hr⟩
 ·cases hx
theorem so{hh:Heap}{k:K}{a:AV}{x:k.T}{v:Value}(g:Good Z ψ hh.get w B0 O)(hz:∀b,Z b→Z' b)(hb:∀id b,AV.bO id∈a.cells→hh.get id≠none→ob (ψ id)=some b→Z' b)
  (hx:gh k hh a=some x) (hr:aw Z ψ hh.get w a v):aw Z' ψ' h' w (cv k x) v:=by
 obtain⟨h1,h2,h3⟩:=ug g hz hb hx hr
 exact ma h1 h2 h3
theorem aH.flat:∀{k:K} {x:k.T} {vs:List Value},k.flat=true→aH Z w k x vs→aH Z' w' k x vs
 |.int _,_,_,_,h=>h
 |.bool,_,_,_,h=>h
 |.str,_,_,_,h=>h
 |.sl k,_,_,hf,_=>by simp[K.flat]at hf
 |.pair a b,x,_,hf,h=>by
  simp only[K.flat,Bool.and_eq_true]at hf
  simp only[aH]at h ⊢
  obtain⟨us,ws,rfl,h1,h2⟩:=h
  exact⟨us,ws,rfl,aH.flat hf.1 h1,aH.flat hf.2 h2⟩
 |.one k,x,_,hf,h=>by
  simp only[aH]at h ⊢
  exact aH.flat (k:=k) (by simpa only[K.flat] using hf) h
theorem zN:∀(k:K) (x y:k.T),k.flat=true→(rT k x y=true↔x=y)
 |.int _,x,y,_=>by simp only[rT];exact beq_iff_eq (α:=Int)
 |.bool,x,y,_=>by simp only[rT];exact beq_iff_eq (α:=Bool)
 |.str,x,y,_=>by simp only[rT];exact MapKept.bytes_beq x y
 |.sl _,_,_,hf=>by simp[K.flat]at hf
 |.mp _ _,_,_,hf=>by simp[K.flat]at hf
 |.pair a b,x,y,hf=>by
  simp only[K.flat,Bool.and_eq_true]at hf
  simp only[rT,Bool.and_eq_true]
  rw[zN a _ _ hf.1,zN b _ _ hf.2]
  exact⟨fun h=>Prod.ext h.1 h.2,fun h=>⟨congrArg Prod.fst h,congrArg Prod.snd h⟩⟩
 |.one k,x,y,hf=>by simp only[rT];exact zN k x y (by simpa only[K.flat] using hf)
theorem pw:∀{k:K} {x:k.T} {us vs:List Value},k.flat=true→aH Z w k x us→aH Z' w' k x vs→us=vs
 |.int _,_,_,_,_,h1,h2=>by simp only[aH]at h1 h2;rw[h1,h2]
 |.bool,_,_,_,_,h1,h2=>by simp only[aH]at h1 h2;rw[h1,h2]
 |.str,_,_,_,_,h1,h2=>by simp only[aH]at h1 h2;rw[h1,h2]
 |.sl _,_,_,_,hf,_,_=>by simp[K.flat]at hf
 |.mp _ _,_,_,_,hf,_,_=>by simp[K.flat]at hf
 |.pair a b,x,_,_,hf,h1,h2=>by
  simp only[K.flat,Bool.and_eq_true]at hf
  simp only[aH]at h1 h2
  obtain⟨a1,a2,rfl,h3,h4⟩:=h1
  obtain⟨b1,b2,rfl,h5,h6⟩:=h2
  rw[pw hf.1 h3 h5,pw hf.2 h4 h6]
 |.one k,x,_,_,hf,h1,h2=>by
  simp only[aH]at h1 h2
  exact pw (k:=k) (by simpa only[K.flat] using hf) h1 h2
theorem sr:∀{k:K} {x:k.T} {us:List Value},k.flat=true→aH Z w k x us→∀u∈us,∀n,Instr.sameBits n u u=true
 |.int _,x,_,_,h1,u,hu,n=>by simp only[aH]at h1;subst h1;simp only[List.mem_singleton]at hu;subst hu;cases n<;>simp[Instr.sameBits]<;>exact beq_self_eq_true (α:=Int) x
 |.bool,x,_,_,h1,u,hu,n=>by simp only[aH]at h1;subst h1;simp only[List.mem_singleton]at hu;subst hu;cases n<;>simp[Instr.sameBits]<;>exact beq_self_eq_true (α:=Bool) x
 |.str,x,_,_,h1,u,hu,n=>by simp only[aH]at h1;subst h1;simp only[List.mem_singleton]at hu;subst hu;cases n<;>simp[Instr.sameBits]<;>exact(MapKept.bytes_beq x x).2 rfl
 |.sl _,_,_,hf,_,_,_,_=>by simp[K.flat]at hf
 |.mp _ _,_,_,hf,_,_,_,_=>by simp[K.flat]at hf
 |.pair a b,x,_,hf,h1,u,hu,n=>by
  simp only[K.flat,Bool.and_eq_true]at hf
  simp only[aH]at h1
  obtain⟨a1,a2,rfl,h3,h4⟩:=h1
  rcases List.mem_append.1 hu with hu|hu
  ·exact sr hf.1 h3 u hu n
  ·exact sr hf.2 h4 u hu n
 |.one k,x,_,hf,h1,u,hu,n=>by
  simp only[aH]at h1
  exact sr (k:=k) (by simpa only[K.flat] using hf) h1 u hu n
def Jn(b:Bool)(v:Value):Prop:=(b=true→∃vs,v=.agg vs)∧(b=false→v.cells=#[v])
theorem MN{b:Bool}{u v:Value}(h1:Jn b u)(h2:Jn b v)(h:u.cells.toList=v.cells.toList):u=v:=by
 cases b with
 |true =>
  obtain⟨a,rfl⟩:=h1.1 rfl
  obtain⟨c,rfl⟩:=h2.1 rfl
  have:a=c:=by simpa[Value.cells] using h
  rw[this]
 |false =>
  rw[h1.2 rfl,h2.2 rfl]at h
  simpa using h
theorem O2{k:K}{x:k.T}{u:Value}(hf:k.flat=true)(hr:aH Z w k x u.cells.toList)(hs:Jn k.isAgg u):Instr.sameBits 10000 u u=true:=by
 have hb:=sr hf hr
 cases hk:k.isAgg with
 |false=>exact hb u (by rw[hs.2 hk];simp) _
 |true =>
  obtain⟨a,rfl⟩:=hs.1 hk
  show Instr.sameBits (9999+1) (.agg a) (.agg a)=true
  simp only[Instr.sameBits,beq_self_eq_true,Bool.true_and,List.all_eq_true]
  intro p hp
  obtain⟨i,hi,he⟩:=List.mem_iff_getElem.1 hp
  simp only[List.getElem_zip]at he
  subst he
  exact hb _ (List.getElem_mem (l:=(Value.agg a).cells.toList) (by simpa[Value.cells] using hi)) _
def Keys(Z:Nat→Prop)(w:World)(k:K)(ys:List k.T)(l:List MapEntry):Prop:=ys.length=l.length∧∀(i:Nat) y e,ys[i]? = some y→l[i]? = some e→aH Z w k y e.key.cells.toList∧Jn k.isAgg e.key
theorem Keys.tail{k:K}{y:k.T}{ys:List k.T}{e:MapEntry}{l:List MapEntry}(h:Keys Z w k (y::ys) (e::l)):Keys Z w k ys l:=⟨by simpa using h.1,fun i a b h1 h2=>h.2 (i+1) a b (by simpa using h1) (by simpa using h2)⟩
theorem G2{k:K}{x:k.T}{d:TypeDesc}{kv:Value}(hs:∀y SO,aH Z w k y SO.cells.toList→Jn k.isAgg SO→Instr.sameNow d kv SO=some (rT k x y)):∀(l:List MapEntry) (ys:List k.T) (i:Nat),Keys Z w k ys l →
  Instr.findNow d kv l i=some ((ys.findIdx? (rT k x)).map fun j=>(i+j,((l[j]?).map (·.val)).getD undef))
 |[],ys,i,h=>by
  have:ys=[]:=List.eq_nil_of_length_eq_zero (by simpa using h.1)
  subst this;rfl
 |e::l,[],i,h=>by have:=h.1;simp at this
 |e::l,y::ys,i,h=>by
  obtain⟨h1,h2⟩:=h.2 0 y e rfl rfl
  have ih:=G2 hs l ys (i+1) h.tail
  simp only[Instr.findNow,hs y _ h1 h2,List.findIdx?_cons]
  cases rT k x y with
  |true=>simp
  |false =>
   simp only[ih,Bool.false_eq_true,if_false]
   cases ys.findIdx? (rT k x) with
   |none=>rfl
   |some j=>simp;omega
theorem yx{k:K}{x:k.T}{t:TypeId}{kv:Value}(hs:∀y SO,aH Z w k y SO.cells.toList→Jn k.isAgg SO→(Op.equal t kv SO).run P w=.ok (rT k x y) w):∀(l:List MapEntry) (ys:List k.T) (i:Nat),Keys Z w k ys l →
  (Instr.findAsking t kv l i).run P w=.ok ((ys.findIdx? (rT k x)).map fun j=>(i+j,((l[j]?).map (·.val)).getD undef)) w
 |[],ys,i,h=>by
  have:ys=[]:=List.eq_nil_of_length_eq_zero (by simpa using h.1)
  subst this;rfl
 |e::l,[],i,h=>by have:=h.1;simp at this
 |e::l,y::ys,i,h=>by
  obtain⟨h1,h2⟩:=h.2 0 y e rfl rfl
  have ih:=yx hs l ys (i+1) h.tail
  simp only[Instr.findAsking,Sem.run_bind,hs y _ h1 h2,Result.andThen_ok,List.findIdx?_cons]
  cases rT k x y with
  |true=>simp
  |false =>
   simp only[ih,Bool.false_eq_true,if_false]
   cases ys.findIdx? (rT k x) with
   |none=>rfl
   |some j=>simp;omega
structure O3(P:Program)(t:TypeId)(k:K):Prop where
 flat:k.flat=true
 check:∀(Z:Nat→Prop) (w:World) (x:k.T) (kv:Value) (e:Bool),aH Z w k x kv.cells.toList→Jn k.isAgg kv→(Instr.checkKey e 10000 t kv).run P w=.ok () w
 find:∀(Z:Nat→Prop) (w:World) (x:k.T) (kv:Value) (l:List MapEntry) (ys:List k.T),aH Z w k x kv.cells.toList→Jn k.isAgg kv→Keys Z w k ys l →
  (Instr.findKey t kv l).run P w=.ok ((ys.findIdx? (rT k x)).map fun j=>(j,((l[j]?).map (·.val)).getD undef)) w
theorem py{t:TypeId}{k:K}{d:TypeDesc}(hf:k.flat=true)(hk:k.isAgg=false)(hd:P.underlying t=some d)(hc:∀(Z:Nat→Prop) (w:World) (x:k.T) (kv:Value),aH Z w k x [kv]→MapKept.IsKey d kv)
  (hs:∀(Z:Nat→Prop) (w:World) (x y:k.T) (u v:Value),aH Z w k x [u]→aH Z w k y [v]→Instr.sameNow d u v=some (rT k x y)):O3 P t k:=by
 have one:∀{Z:Nat→Prop} {w:World} {x:k.T} {kv:Value},aH Z w k x kv.cells.toList→Jn k.isAgg kv→aH Z w k x [kv]:=fun {Z w x kv} h1 h2=>by
  rw[h2.2 hk]at h1;exact h1
 refine⟨hf,fun Z w x kv e h1 h2=>MapKept.run_checkKey hd (hc Z w x kv (one h1 h2)) e 9999,fun Z w x kv l ys h1 h2 h3=>?_⟩
 have:=G2 (Z:=Z) (w:=w) (x:=x) (d:=d) (kv:=kv) (fun y SO h4 h5=>hs Z w x y kv SO (one h1 h2) (one h4 h5)) l ys 0 h3
 simp only[Nat.zero_add]at this
 exact MapKept.run_findKey hd this
theorem G3(d:TypeDesc)(a:Array Value)(v:Value):Instr.sameNow d (.agg a) v=none:=by cases d<;>cases v<;>rfl
theorem wU{Eqs:TypeId→Option K}(C4:∀t k,Eqs t=some k→mb P t k){t:TypeId}{k:K}(hk:Lh P Eqs t k=true):O3 P t k:=by
 unfold Lh at hk
 rw[Bool.and_eq_true]at hk
 obtain⟨hf,hk⟩:=hk
 split at hk
 ·rename_i ik Yw hd
  simp only[decide_eq_true_eq]at hk
  subst hk
  exact py hf rfl hd (fun Z w x kv hr=>by simp only[aH]at hr;cases hr;simp[MapKept.IsKey]) (fun Z w x y u v h1 h2=>by simp only[aH]at h1 h2;cases h1;cases h2;simp[Instr.sameNow,rT])
 ·rename_i hd
  exact py hf rfl hd (fun Z w x kv hr=>by simp only[aH]at hr;cases hr;simp[MapKept.IsKey]) (fun Z w x y u v h1 h2=>by simp only[aH]at h1 h2;cases h1;cases h2;simp[Instr.sameNow,rT])
 ·rename_i hd
  exact py hf rfl hd (fun Z w x kv hr=>by simp only[aH]at hr;cases hr;simp[MapKept.IsKey]) (fun Z w x y u v h1 h2=>by simp only[aH]at h1 h2;cases h1;cases h2;simp[Instr.sameNow,rT])
 ·simp only[Bool.and_eq_true,decide_eq_true_eq]at hk
  obtain⟨Vf,hk⟩:=hk
  have fact:=C4 _ _ hk
  have agg:∀{b:Bool} {u:Value},b=true→Jn b u→∃a,u=.agg a:=fun hb h=>h.1 hb
  refine⟨hf,fun Z w x kv e h1 h2=>?_,fun Z w x kv l ys h1 h2 h3=>?_⟩
  ·obtain⟨a,rfl⟩:=agg Vf h2
   exact(fact Z w x x a a h1 h1).2.2 e
  ·obtain⟨a,rfl⟩:=agg Vf h2
   have h4:=yx (P:=P) (t:=t) (Z:=Z) (w:=w) (x:=x) (kv:=.agg a) (fun y SO h4 h5=>by
    obtain⟨b,rfl⟩:=agg Vf h5
    exact(fact Z w x y a b h1 h4).1) l ys 0 h3
   simp only[Nat.zero_add]at h4
   cases l with
   |nil =>
    have:ys=[]:=List.eq_nil_of_length_eq_zero (by simpa using h3.1)
    subst this
    cases hu:P.underlying t with
    |none =>
     have hc:=(fact Z w x x a a h1 h1).2.2 true
     exfalso
     unfold Instr.checkKey at hc
     simp[underlying,hu]at hc
    |some d=>simp[Instr.findKey,run_underlying hu,Instr.findNow]
   |cons e l =>
    cases hu:P.underlying t with
    |none =>
     have hc:=(fact Z w x x a a h1 h1).2.2 true
     exfalso
     unfold Instr.checkKey at hc
     simp[underlying,hu]at hc
    |some d=>simp only[Instr.findKey,Sem.run_bind,run_underlying hu,Result.andThen_ok,Instr.findNow,G3];exact h4
section
variable {kk vk:K} {es:List (kk.T×vk.T)} {l:List MapEntry}
abbrev kG(Z:Nat→Prop)(w:World)(kk vk:K)(es:List (kk.T×vk.T))(l:List MapEntry):Prop:=E2 (aH Z w kk) (aH Z w vk) kk.isAgg vk.isAgg es l
theorem kG.keys(h:kG Z w kk vk es l):Keys Z w kk (es.map (·.1)) l :=
 ⟨by rw[List.length_map];exact h.1,fun i y e h1 h2=>by
  rw[List.getElem?_map]at h1
  obtain⟨x,h3,rfl⟩:=Option.map_eq_some_iff.1 h1
  exact(h.2 i x e h3 h2).1⟩
theorem AU{x:kk.T}:(es.map (·.1)).findIdx? (rT kk x)=tU kk x es:=by unfold tU;rw[List.findIdx?_map];rfl
theorem E6{x:kk.T}{i:Nat}(h:tU kk x es=some i):i<es.length:=by
 unfold tU at h
 exact(List.findIdx?_eq_some_iff_getElem.1 h).1
theorem Ts{x:kk.T}{i:Nat}(h:tU kk x es=some i):∃e,es[i]? = some e∧rT kk x e.1=true:=by
 unfold tU at h
 obtain⟨h1,h2,_⟩:=List.findIdx?_eq_some_iff_getElem.1 h
 exact⟨_,List.getElem?_eq_getElem h1,h2⟩
def O4(Z:Nat→Prop)(w:World)(kk vk:K)(x:kk.T×vk.T)(e:MapEntry):Prop:=(aH Z w kk x.1 e.key.cells.toList∧Jn kk.isAgg e.key)∧aH Z w vk x.2 e.val.cells.toList∧Jn vk.isAgg e.val
theorem kG.set(h:kG Z w kk vk es l)(i:Nat){x:kk.T×vk.T}{f:MapEntry→MapEntry}(ho:∀e,l[i]? = some e→O4 Z w kk vk x (f e)):kG Z w kk vk (es.set i x) (l.modify i f):=by
 refine⟨by simp[h.1],fun j y e h1 h2=>?_⟩
 rw[List.getElem?_modify]at h2
 obtain⟨e0,h3,h4⟩:=Option.map_eq_some_iff.1 h2
 by_cases AW:i=j
 ·subst AW
  rw[if_pos rfl]at h4
  have aM:i<es.length:=by rw[h.1];exact(List.getElem?_eq_some_iff.1 h3).1
  rw[List.getElem?_set_self aM]at h1
  cases h1
  subst h4
  exact ho e0 h3
 ·rw[if_neg AW]at h4
  rw[List.getElem?_set_ne AW]at h1
  subst h4
  exact h.2 j y e0 h1 h3
theorem kG.push(h:kG Z w kk vk es l){x:kk.T×vk.T}{e:MapEntry}(ho:O4 Z w kk vk x e):kG Z w kk vk (es++[x]) (l++[e]):=by
 refine⟨by simp[h.1],fun j y e' h1 h2=>?_⟩
 by_cases hj:j<es.length
 ·rw[List.getElem?_append_left hj]at h1
  rw[List.getElem?_append_left (by rw[←h.1];exact hj)]at h2
  exact h.2 j y e' h1 h2
 ·rw[List.getElem?_append_right (by omega)]at h1
  rw[List.getElem?_append_right (by have:=h.1;omega),←h.1]at h2
  by_cases h0:j-es.length=0
  ·rw[h0]at h1 h2;cases h1;cases h2;exact ho
  ·rw[List.getElem?_eq_none (by simp;omega)]at h1;cases h1
theorem kG.erase(h:kG Z w kk vk es l)(i:Nat):kG Z w kk vk (es.eraseIdx i) (l.eraseIdx i):=by
 refine⟨by rw[List.length_eraseIdx,List.length_eraseIdx,h.1],fun j y e h1 h2=>?_⟩
 rw[List.getElem?_eraseIdx]at h1 h2
 split at h1
 ·rename_i hj;rw[if_pos hj]at h2;exact h.2 j y e h1 h2
 ·rename_i hj;rw[if_neg hj]at h2;exact h.2 (j+1) y e h1 h2
theorem kG.mono(h:kG Z w kk vk es l)(hz:∀b,Z b→Z' b)(hs:cG Z w w'):kG Z' w' kk vk es l:=E2.imp (fun _ _ h=>h.mono hz hs) (fun _ _ h=>h.mono hz hs) h
end
theorem uh{Eqs:TypeId→Option K}{t:TypeId}{kk vk:K}(h:mapOf P Eqs t=some (kk,vk)):∃a b,P.underlying t=some (.map a b)∧Lh P Eqs a kk=true∧Lg P b vk=true:=by
 unfold mapOf at h
 split at h
 ·rename_i a b hu
  split at h
  ·split at h
   ·rename_i hc
    cases h
    rw[Bool.and_eq_true]at hc
    exact⟨a,b,hu,hc.1,hc.2⟩
   ·cases h
  ·cases h
 ·cases h
theorem JM{b:TypeId}{vk:K}(h:Lg P b vk=true):∃z,(zeroValue b).run P w=.ok z w∧aH Z w vk (qk vk) z.cells.toList∧Jn vk.isAgg z:=by
 unfold Lg at h
 split at h
 ·rename_i i hi
  split at h
  ·rename_i z hz
   refine⟨z,vc hi hz,?_⟩
   unfold OH at h
   split at h
   ·simp only[decide_eq_true_eq]at h;obtain⟨rfl,rfl⟩:=h;exact⟨by simp only[aH];rfl,fun h=>(by cases h),fun _=>rfl⟩
   ·rename_i b;simp only[Bool.not_eq_true']at h;subst h;exact⟨by simp only[aH];rfl,fun h=>(by cases h),fun _=>rfl⟩
   ·simp only[decide_eq_true_eq]at h;subst h;exact⟨by simp only[aH];rfl,fun h=>(by cases h),fun _=>rfl⟩
   ·simp only[decide_eq_true_eq]at h;obtain⟨rfl,rfl,rfl⟩:=h
    exact⟨by simp only[aH];exact⟨_,rfl,none,0,rfl,Nat.le_refl _,fun _=>rfl,fun i x hx=>by simp[qk]at hx⟩,fun h=>(by cases h),fun _=>rfl⟩
   ·cases h
  ·cases h
 ·cases h
theorem Lj{hh:Heap}(g:Good Z ψ h w B0 O)(bz:∀id o,hh.get id=some o→h id=some o){m:AV}{u:Value}{kk vk:K}{es:List (kk.T×vk.T)}(hm:aw Z ψ h w m u)(hv:cV hh m=.mp kk vk es) :
  ∃A,u=.map A∧((A=none∧es=[])∨∃r cc clock,A=some r∧w.heap[r]? = some (.map cc clock)∧kG Z w kk vk es cc.toList):=by
 cases m with
 |mp Lf Tg O5 =>
  simp only[cV]at hv
  cases hv
  simp only[aw,aH]at hm
  obtain⟨A,h1,h2⟩:=hm
  cases h1
  refine⟨A,rfl,h2.imp (fun h=>h) fun⟨m,cc,clock,h3,_,h4,h5⟩=>⟨m,cc,clock,h3,h4,h5⟩⟩
 |bO id =>
  simp only[cV]at hv
  split at hv
  ·cases hv
  ·rename_i Lf Tg O5 hg
   cases hv
   have wE:=bz _ _ hg
   simp only[aw]at hm
   have:=hm.2 (by rw[wE];simp)
   subst this
   obtain⟨r,cc,clock,h1,h2,h3,_⟩:=g.row id (.map kk vk) es wE
   exact⟨some r,h1,.inr ⟨r,cc,clock,rfl,h2,h3⟩⟩
  ·cases hv
 |_=>simp only[cV]at hv;cases hv
theorem JN{hh:Heap}(g:Good Z ψ h w B0 O)(bz:∀id o,hh.get id=some o→h id=some o){k:K}(hf:k.flat=true){a:AV}{x:k.T}{v:Value}(hx:gh k hh a=some x)(hr:aw Z ψ h w a v):aH Z w k x v.cells.toList∧Jn k.isAgg v:=by
 obtain⟨h1,h2,h3⟩:=ug (Z':=fun b=>b<w.heap.size) (g.sub bz) (fun b hb=>g.j5 b hb) (fun id b _ h1 h2=>(g.sub bz).bX ⟨id,h1,h2⟩) hx (hr.less (fun _ h=>h) (cG.refl _ _) (fun id bT=>by
  obtain⟨o,ho⟩:=Option.ne_none_iff_exists'.1 bT
  exact⟨by rw[bz id o ho];simp,rfl⟩))
 exact⟨h1.flat hf,h2,h3⟩
theorem E7{Eqs:TypeId→Option K}(C4:∀t k,Eqs t=some k→mb P t k){hh:Heap}(g:Good Z ψ h w B0 O)(bz:∀id o,hh.get id=some o→h id=some o){t:TypeId}{m i:AV}{u v:Value}{ok:Bool}{e:bK}
  (hm:aw Z ψ h w m u) (hi:aw Z ψ h w i v) (he:oa P Eqs hh t m i ok some=some e):∃y V,e=.val y∧(Instr.lookup t u v ok).run P w=.ok V w∧aw Z ψ h w y V:=by
 unfold oa at he
 split at he
 ·rename_i ka va kk vk es Yy hv
  split at he
  ·rename_i hc
   obtain⟨rfl,rfl⟩:=hc
   split at he
   ·rename_i x hx
    cases he
    obtain⟨a,b,hu,hk,hz⟩:=uh Yy
    have K:=wU C4 hk
    obtain⟨JO,nX⟩:=JN g bz K.flat hx hi
    obtain⟨z,yv,C3,Jl⟩:=JM (Z:=Z) (w:=w) hz
    have fin:∀(l:List MapEntry),kG Z w kk vk es l→∃V,((∃j,(Instr.findKey a v l).run P w=.ok (some (j,V)) w∧(jy kk x es).isSome=true)∨((Instr.findKey a v l).run P w=.ok none w∧(zeroValue b).run P w=.ok V w∧(jy kk x es).isSome=false)) ∧
      aH Z w vk ((jy kk x es).getD (qk vk)) V.cells.toList∧Jn vk.isAgg V:=by
     intro l hE
     have hf:=K.find Z w x v l (es.map (·.1)) JO nX hE.keys
     rw[AU]at hf
     cases DU:tU kk x es with
     |none =>
      rw[DU]at hf
      exact⟨z,.inr ⟨hf,yv,by simp[jy,DU]⟩,by simpa[jy,DU] using C3,Jl⟩
     |some j =>
      rw[DU]at hf
      have hj:=E6 DU
      have h1:es[j]? = some es[j]:=List.getElem?_eq_getElem hj
      have AX:j<l.length:=by rw[←hE.1];exact hj
      have h2:l[j]? = some l[j]:=List.getElem?_eq_getElem AX
      obtain⟨_,h3,h4⟩:=hE.2 j _ _ h1 h2
      refine⟨l[j].val,.inl ⟨j,?_,by simp[jy,DU,h1]⟩,by simpa[jy,DU,h1] using h3,h4⟩
      rw[hf];simp only[Option.map_some,h2,Option.getD_some]
    have out:∀V:Value,aH Z w vk ((jy kk x es).getD (qk vk)) V.cells.toList→Jn vk.isAgg V→aw Z ψ h w (cond ok (AV.nW [cv vk ((jy kk x es).getD (qk vk)),.bool (jy kk x es).isSome]) (cv vk ((jy kk x es).getD (qk vk)))) (if ok then .tuple #[V,.bool (jy kk x es).isSome] else V):=by
     intro V h1 h2
     have h3:aw Z ψ h w (cv vk ((jy kk x es).getD (qk vk))) V:=ma h1 h2.1 h2.2
     cases ok with
     |false=>exact h3
     |true=>simp only[cond_true,if_true,aw,ar];exact⟨_,rfl,V,[.bool (jy kk x es).isSome],by simp,h3,_,[],rfl,rfl,rfl⟩
    obtain⟨A,rfl,hA⟩:=Lj g bz hm hv
    rcases hA with⟨rfl,rfl⟩|⟨r,cc,clock,rfl,h3,h4⟩
    ·obtain⟨V,h5,h6,h7⟩:=fin [] ⟨rfl,fun i x e h=>by simp at h⟩
     refine⟨_,_,rfl,?_,out V h6 h7⟩
     simp only[Instr.lookup,Sem.run_bind,run_underlying hu,Result.andThen_ok,Sem.run_pure,K.check Z w x v _ JO nX]
     rcases h5 with⟨j,h8,h9⟩|⟨h8,h9,mN⟩
     ·simp[h8,h9]
     ·simp[h8,h9,mN]
    ·obtain⟨V,h5,h6,h7⟩:=fin cc.toList h4
     refine⟨_,_,rfl,?_,out V h6 h7⟩
     simp only[Instr.lookup,Sem.run_bind,run_underlying hu,Result.andThen_ok,Sem.run_pure,MapKept.run_getObj_map h3,K.check Z w x v _ JO nX]
     rcases h5 with⟨j,h8,h9⟩|⟨h8,h9,mN⟩
     ·simp[h8,h9]
     ·simp[h8,h9,mN]
   ·cases he
  ·cases he
 ·cases he
end Go.Vs
namespace Go.Vs
variable {P:Program} {Z Z':Nat→Prop} {ψ ψ':Nat→Value} {h h':Hp} {w w':World} {B0:Nat} {O:Nat→Prop} {N:Nat→Prop}
theorem wV{r b:Nat}(o:Obj)(bp:r≠b):(w.heap.setIfInBounds r o)[b]? = w.heap[b]? := by rw[Array.getElem?_setIfInBounds];simp[bp]
theorem dh.ad4{r:Nat}(ho:Own ψ h r)(o:Obj):dh ψ h w { w with heap:=w.heap.setIfInBounds r o } :=
 ⟨rfl,rfl,rfl,by simp,fun b _ hb=>wV o (fun e=>hb (e▸ho))⟩
theorem ss{hp:Hp}(g:Good Z ψ hp w B0 O){id:Nat}(bT:hp id≠none){r:Nat}(hr:ob (ψ id)=some r)(aM:r<w.heap.size)(o:Obj){ok:OK}{x:ok.T}
  (hx:∀w':World,w'.heap=w.heap.setIfInBounds r o→cG Z w w'→jV Z w' ok (ψ id) x) :
  Next Z ψ hp w B0 O N Z ψ (eC hp id (some (.own ok x))) { w with heap:=w.heap.setIfInBounds r o }:=by
 have ho:Own ψ hp r:=⟨id,bT,hr⟩
 have kk:=dh.ad4 (w:=w) ho o
 refine g.write id bT kk (fun b hb _=>wV o (fun e=>hb (by rw[hr,e]))) _ (fun _ _ he=>by cases he) (fun Yx x' he=>?_)
 cases he
 exact hx _ rfl (kk.same g)
theorem yy{l:List MapEntry}{i:Nat}{f:MapEntry→MapEntry}(hf:∀e,(f e).born=e.born):(l.modify i f).map (·.born)=l.map (·.born):=by
 apply List.ext_getElem?
 intro j
 simp only[List.getElem?_map,List.getElem?_modify]
 cases l[j]? with
 |none=>rfl
 |some e=>simp only[Option.map_some];split<;>simp[hf]
theorem wW{l:List MapEntry}:l.Pairwise (fun a b=>a.born≠b.born)↔(l.map (·.born)).Pairwise (·≠·):=by rw[List.pairwise_map]
theorem vg{Eqs:TypeId→Option K}(C4:∀t k,Eqs t=some k→mb P t k){hh:Heap}(g:Good Z ψ hh.get w B0 O){t:TypeId}{m i v:AV}{u1 u2 u3:Value}{e:bK}
  (hm:aw Z ψ hh.get w m u1) (hi:aw Z ψ hh.get w i u2) (hv:aw Z ψ hh.get w v u3) (he:je P Eqs hh t m i v some=some e) :
  ∃hw w' Z',e=.wr (.nW []) hw∧(Instr.mapUpdate t u1 u2 u3).run P w=.ok () w'∧Next Z ψ hh.get w B0 O N Z' ψ hw.get w':=by
 unfold je at he
 split at he
 ·rename_i ka va id Yy
  split at he
  ·rename_i kk vk es hg
   split at he
   ·rename_i hc
    obtain⟨rfl,rfl⟩:=hc
    split at he
    ·rename_i x y hx hy qA
     cases he
     obtain⟨a,b,hu,hk,_⟩:=uh Yy
     have K:=wU C4 hk
     obtain⟨JO,nX⟩:=JN g (fun _ _ h=>h) K.flat hx hi
     simp only[aw]at hm
     have SP:=hm.2 (by rw[hg];simp)
     obtain⟨r,cc,clock,h1,h2,h3,h4,h5⟩:=g.row id (.map kk vk) es hg
     rw[h1]at SP
     subst SP
     have bT:AV.bO id∉v.cells:=fun hc=>by
      have:=List.all_eq_true.1 qA _ hc
      simp at this
     have gd:=iR g v.cells
     have hgd:(cS hh v.cells).get id=some (.own (.map kk vk) es):=by rw[o9 _ _ _ bT];exact hg
     obtain⟨vf,yr,hv3⟩:=ug (Z':=qG Z ψ hh.get v.cells) g (fun b hb=>.inl hb) (fun id b h1 h2 h3=>.inr ⟨id,h1,h2,h3⟩) hy hv
     have Y8:aH (qG Z ψ hh.get v.cells) w kk x u2.cells.toList:=JO.flat K.flat
     have aM:=(Array.getElem?_eq_some_iff.1 h2).1
     have j7:ob (ψ id)=some r:=by rw[h1];rfl
     have hE:kG (qG Z ψ hh.get v.cells) w kk vk es cc.toList:=kG.mono h3 (fun b hb=>.inl hb) (cG.refl _ _)
     have hf:=K.find Z w x u2 cc.toList (es.map (·.1)) JO nX (kG.keys h3)
     rw[AU]at hf
     have fin:∀(o:Obj) (O5:List (kk.T×vk.T)) (mX:Array MapEntry) (AY:Nat),o=.map mX AY→kG (qG Z ψ hh.get v.cells) w kk vk O5 mX.toList→(mX.toList.map (·.born)).Pairwise (·≠·)→(∀e∈mX.toList,e.born<AY) →
       Next Z ψ hh.get w B0 O N (qG Z ψ hh.get v.cells) ψ ((cS hh v.cells).set id (.own (.map kk vk) O5)).get { w with heap:=w.heap.setIfInBounds r o }:=by
      rintro o O5 mX AY rfl h6 h7 h8
      rw[mV]
      have n:=ss (N:=N) gd (by rw[hgd];simp) j7 aM (.map mX AY) (ok:=.map kk vk) (x:=O5) (fun w' G4 sm=>⟨r,mX,AY,h1,by rw[G4];simp[aM],kG.mono h6 (fun _ h=>h) sm,wW.2 h7,h8⟩)
      exact n.drop (fun b hb=>.inl hb) (fun b hb=>hb.imp (fun h=>h) (fun⟨i,_,h5,h6⟩=>⟨i,h5,h6⟩)) (eJ _ _)
     cases DU:tU kk x es with
     |none =>
      rw[DU]at hf
      refine⟨_,{ w with heap:=w.heap.setIfInBounds r (.map (cc.push { key:=u2,val:=u3,born:=clock }) (clock+1)) },qG Z ψ hh.get v.cells,rfl,?_,?_⟩
      rotate_left
      ·rw[show mQ kk x y es=es++[(x,y)] by simp[mQ,DU]]
       refine fin _ _ (cc.push { key:=u2,val:=u3,born:=clock }) (clock+1) rfl ?_ ?_ ?_
       ·rw[Array.toList_push]
        exact hE.push ⟨⟨Y8,nX⟩,vf,yr,hv3⟩
       ·rw[Array.toList_push,List.map_append,List.pairwise_append]
        refine⟨wW.1 h4,by simp,fun a ha b hb=>?_⟩
        simp only[List.map_cons,List.map_nil,List.mem_singleton]at hb
        obtain⟨e,he,rfl⟩:=List.mem_map.1 ha
        have:=h5 e he
        omega
       ·intro e he
        rw[Array.toList_push]at he
        rcases List.mem_append.1 he with he|he
        ·have:=h5 e he;omega
        ·simp only[List.mem_singleton]at he;subst he;exact Nat.lt_succ_self _
      ·simp only[Instr.mapUpdate,Sem.run_bind,run_underlying hu,Result.andThen_ok,MapKept.run_getObj_map h2,K.check Z w x u2 _ JO nX,hf,Option.map_none,MapKept.run_setObj_map _ h2]
     |some j =>
      rw[DU]at hf
      have hj:=E6 DU
      obtain⟨e0,Vg,heq⟩:=Ts DU
      have AX:j<cc.toList.length:=by rw[←h3.1];exact hj
      have hl:cc.toList[j]? = some cc.toList[j]:=List.getElem?_eq_getElem AX
      have SQ:cc[j]? = some cc.toList[j]:=by rw[←hl];simp
      obtain⟨⟨Y9,ad5⟩,_⟩:=h3.2 j _ _ Vg hl
      have tj:cc.toList[j].key=u2:=by
       refine MN ad5 nX ?_
       rw[←(zN kk x e0.1 K.flat).1 heq]at Y9
       exact pw K.flat Y9 JO
      have Vh:(Instr.keyThatStays u2 u2).run P w=.ok u2 w:=by simp[Instr.keyThatStays,O2 K.flat JO nX]
      refine⟨_,{ w with heap:=w.heap.setIfInBounds r (.map (cc.modify j fun e=>{ e with key:=u2,val:=u3 }) clock) },qG Z ψ hh.get v.cells,rfl,?_,?_⟩
      rotate_left
      ·rw[show mQ kk x y es=es.set j (x,y) by simp[mQ,DU]]
       refine fin _ _ (cc.modify j fun e=>{ e with key:=u2,val:=u3 }) clock rfl ?_ ?_ ?_
       ·rw[Array.toList_modify]
        exact hE.set j (fun e he=>⟨⟨Y8,nX⟩,vf,yr,hv3⟩)
       ·rw[Array.toList_modify,yy (f:=fun e:MapEntry=>{ e with key:=u2,val:=u3 }) (fun _=>rfl)];exact wW.1 h4
       ·intro e he
        have:e.born∈(cc.modify j fun e=>{ e with key:=u2,val:=u3 }).toList.map (·.born):=List.mem_map.2 ⟨e,he,rfl⟩
        rw[Array.toList_modify,yy (f:=fun e:MapEntry=>{ e with key:=u2,val:=u3 }) (fun _=>rfl)]at this
        obtain⟨e',Wt,h6⟩:=List.mem_map.1 this
        rw[←h6];exact h5 e' Wt
      ·simp only[Instr.mapUpdate,Sem.run_bind,run_underlying hu,Result.andThen_ok,MapKept.run_getObj_map h2,K.check Z w x u2 _ JO nX,hf,Option.map_some,SQ,Option.getD_some,tj,Vh,MapKept.run_setObj_map _ h2]
    ·cases he
   ·cases he
  ·cases he
 ·cases he
theorem vh{Eqs:TypeId→Option K}(C4:∀t k,Eqs t=some k→mb P t k){hh:Heap}(g:Good Z ψ hh.get w B0 O){t ty:TypeId}{ts:List TypeId}{m i:AV}{u1 u2:Value}{e:bK}
  (hm:aw Z ψ hh.get w m u1) (hi:aw Z ψ hh.get w i u2) (he:oc P Eqs hh t m i some=some e) :
  ∃hw w',e=.wr (.nW []) hw∧(Builtin.delete_ (t::ts).toArray ty #[u1,u2]).run P w=.ok (.tuple #[]) w'∧Next Z ψ hh.get w B0 O N Z ψ hw.get w':=by
 unfold oc at he
 split at he
 ·rename_i ka va id Yy
  split at he
  ·rename_i kk vk es hg
   split at he
   ·rename_i hc
    obtain⟨rfl,rfl⟩:=hc
    split at he
    ·rename_i x hx
     cases he
     obtain⟨a,b,hu,hk,_⟩:=uh Yy
     have K:=wU C4 hk
     obtain⟨JO,nX⟩:=JN g (fun _ _ h=>h) K.flat hx hi
     simp only[aw]at hm
     have SP:=hm.2 (by rw[hg];simp)
     obtain⟨r,cc,clock,h1,h2,h3,h4,h5⟩:=g.row id (.map kk vk) es hg
     rw[h1]at SP
     subst SP
     have aM:=(Array.getElem?_eq_some_iff.1 h2).1
     have j7:ob (ψ id)=some r:=by rw[h1];rfl
     have hf:=K.find Z w x u2 cc.toList (es.map (·.1)) JO nX (kG.keys h3)
     rw[AU]at hf
     have fin:∀(o:Obj) (O5:List (kk.T×vk.T)) (mX:Array MapEntry),o=.map mX clock→kG Z w kk vk O5 mX.toList→mX.toList.Sublist cc.toList →
       Next Z ψ hh.get w B0 O N Z ψ (hh.set id (.own (.map kk vk) O5)).get { w with heap:=w.heap.setIfInBounds r o }:=by
      rintro o O5 mX rfl h6 h7
      rw[mV]
      exact ss (N:=N) g (by rw[hg];simp) j7 aM (.map mX clock) (ok:=.map kk vk) (x:=O5) (fun w' G4 sm=>⟨r,mX,clock,h1,by rw[G4];simp[aM],kG.mono h6 (fun _ h=>h) sm,h4.sublist h7,fun e he=>h5 e (h7.subset he)⟩)
     cases DU:tU kk x es with
     |none =>
      rw[DU]at hf
      refine⟨_,{ w with heap:=w.heap.setIfInBounds r (.map cc clock) },rfl,?_,?_⟩
      rotate_left
      ·rw[show OG kk x es=es by simp[OG,DU]]
       exact fin _ _ cc rfl h3 (List.Sublist.refl _)
      ·simp[Builtin.delete_,run_underlying hu,MapKept.run_getObj_map h2,K.check Z w x u2 _ JO nX,hf,MapKept.run_setObj_map _ h2]
     |some j =>
      rw[DU]at hf
      have hj:=E6 DU
      refine⟨_,{ w with heap:=w.heap.setIfInBounds r (.map (cc.eraseIdxIfInBounds j) clock) },rfl,?_,?_⟩
      rotate_left
      ·rw[show OG kk x es=es.eraseIdx j by simp[OG,DU]]
       refine fin _ _ (cc.eraseIdxIfInBounds j) rfl ?_ ?_
       ·rw[Array.toList_eraseIdxIfInBounds];exact kG.erase h3 j
       ·rw[Array.toList_eraseIdxIfInBounds];exact List.eraseIdx_sublist _ _
      ·simp[Builtin.delete_,run_underlying hu,MapKept.run_getObj_map h2,K.check Z w x u2 _ JO nX,hf,MapKept.run_setObj_map _ h2]
    ·cases he
   ·cases he
  ·cases he
 ·cases he
theorem JP{hh:Heap}(g:Good Z ψ h w B0 O)(bz:∀id o,hh.get id=some o→h id=some o){t ty:TypeId}{x:AV}{u:Value}{e:bK}(ht:Jx P t=true)(hx:aw Z ψ h w x u)(he:wK hh x some=some e) :
  ∃n:Nat,e=.val (.int .i64 (n:Int))∧(Builtin.len_ #[t] ty #[u]).run P w=.ok (.int .i64 (n:Int)) w:=by
 unfold wK at he
 split at he
 ·rename_i kk vk es hv
  cases he
  have hu:∃a b,P.underlying t=some (.map a b):=by
   unfold Jx at ht
   split at ht
   ·exact⟨_,_,by assumption⟩
   ·cases ht
  obtain⟨a,b,hu⟩:=hu
  obtain⟨A,rfl,hA⟩:=Lj g bz hx hv
  rcases hA with⟨rfl,rfl⟩|⟨r,cc,clock,rfl,h3,h4⟩
  ·exact⟨0,rfl,by simp[Builtin.len_,run_underlying hu,goInt]⟩
  ·refine⟨es.length,rfl,?_⟩
   have:cc.size=es.length:=by rw[h4.1];simp
   simp[Builtin.len_,run_underlying hu,MapKept.run_getObj_map h3,goInt,this]
 ·cases he
theorem AZ(g:Good Z ψ h w B0 O)(hB:B0≤w.heap.size)(id:Nat)(hN:N id){ok:OK}{x:ok.T}{v:Value}(o:Obj)(ho:jV Z (w.alloc o) ok v x)(hb:ob v=some w.heap.size)
  (bu:∀i ty cs,h i=some (.box ty cs)→aE (fun i=>i≠id) cs):Next Z ψ h w B0 O N Z (eC ψ id v) (eC h id (some (.own ok x))) (w.alloc o) :=
 GM g hB id hN (dh.alloc _ _ _ _) (fun b hb=>heap_alloc_old w _ (g.bX hb)) ho (fun b vj=>by rw[hb]at vj;cases vj;exact Nat.le_refl _) bu
theorem Df{Eqs:TypeId→Option K}(g:Good Z ψ h w B0 O)(hB:B0≤w.heap.size){id:Nat}(hN:N id){t:TypeId}{e:bK}(bu:∀i ty cs,h i=some (.box ty cs)→aE (fun i=>i≠id) cs)(he:lL P Eqs id t some=some e) :
  ∃v w' ψ',(Instr.makeMap t none).run P w=.ok v w'∧Next Z ψ h w B0 O N Z ψ' (e.hp h) w'∧aw Z ψ' (e.hp h) w' e.v v:=by
 unfold lL at he
 split at he
 ·rename_i kk vk Yy
  cases he
  refine⟨.map (some w.heap.size),w.alloc (.map #[] 0),eC ψ id (.map (some w.heap.size)),rfl,?_,?_⟩
  ·simp only[bK.hp];rw[iS]
   exact AZ g hB id hN (ok:=.map kk vk) (x:=[]) _ ⟨w.heap.size,#[],0,rfl,heap_alloc_new _ _,⟨rfl,fun i x e h=>by simp at h⟩,by simp,by simp⟩ rfl bu
  ·simp only[bK.v,bK.hp,aw]
   exact⟨⟨rfl,rfl⟩,fun _=>(bq _ _ _).symm⟩
 ·cases he
theorem E8(g:Good Z ψ h w B0 O)(hB:B0≤w.heap.size){id:Nat}(hN:N id){t:TypeId}{x:AV}{u:Value}{e:bK}(hx:aw Z ψ h w x u)(bu:∀i ty cs,h i=some (.box ty cs)→aE (fun i=>i≠id) cs)(he:od P id t x some=some e) :
  ∃v w' ψ',(Instr.range t u).run P w=.ok v w'∧Next Z ψ h w B0 O N Z ψ' (e.hp h) w'∧aw Z ψ' (e.hp h) w' e.v v:=by
 unfold od at he
 split at he
 ·rename_i sv hu
  cases he
  simp only[aw]at hx
  subst hx
  refine⟨.pointer (some ⟨w.heap.size,0,none⟩),w.alloc (.stringIter sv 0),eC ψ id (.pointer (some ⟨w.heap.size,0,none⟩)),?_,?_,?_⟩
  ·simp only[Instr.range,Sem.run_bind,run_underlying hu,Result.andThen_ok,Sem.run_pure];rfl
  ·simp only[bK.hp];rw[iS]
   exact AZ g hB id hN (ok:=.n6) (x:=(sv,0)) _ ⟨w.heap.size,rfl,heap_alloc_new _ _⟩ rfl bu
  ·simp only[bK.v,bK.hp,aw]
   exact⟨⟨rfl,rfl⟩,fun _=>(bq _ _ _).symm⟩
 ·cases he
theorem gF{r:Nat}{o:Obj}(hb:w.heap[r]? = some o)(hc:∀c e f,o≠.cells c e f):(getObj r).run P w=.ok o w:=by
 cases o<;>first|(exact absurd rfl (hc _ _ _))|simp[getObj,Sem.run,hb]
theorem A1{r:Nat}{o o':Obj}(hb:w.heap[r]? = some o)(hc:∀c e f,o≠.cells c e f):(setObj r o').run P w=.ok () { w with heap:=w.heap.setIfInBounds r o' }:=by
 cases o<;>first|(exact absurd rfl (hc _ _ _))|simp[setObj,Sem.run,hb]
theorem G5{hh:Heap}(g:Good Z ψ h w B0 O)(bz:∀id o,hh.get id=some o→h id=some o){ty:TypeId}{x:AV}{u:Value}{e:bK}(hx:aw Z ψ h w x u)(mW:∀v hw,e=.wr v hw→hh.get=h)(he:rX hh x some=some e) :
  ∃v w',(Instr.next u true ty).run P w=.ok v w'∧Next Z ψ h w B0 O N Z ψ (e.hp h) w'∧aw Z ψ (e.hp h) w' e.v v:=by
 unfold rX at he
 split at he
 ·rename_i id
  split at he
  ·rename_i x hg
   have wE:=bz _ _ hg
   simp only[aw]at hx
   have hu:=hx.2 (by rw[wE];simp)
   obtain⟨r,h1,h2⟩:=g.row id .n6 x wE
   rw[h1]at hu
   subst hu
   cases hc:decide (x.2<x.1.size) with
   |true =>
    rw[hc]at he;cases he
    have heq:=mW _ _ rfl
    simp only[decide_eq_true_eq]at hc
    have aM:=(Array.getElem?_eq_some_iff.1 h2).1
    refine⟨.tuple #[.bool true,goInt x.2,.int .i32 (Utf8.decode x.1 x.2).1],{ w with heap:=w.heap.setIfInBounds r (.stringIter x.1 (x.2+(Utf8.decode x.1 x.2).2)) },?_,?_,?_⟩
    ·simp only[Instr.next,Sem.run_bind,gF h2 (by simp),Result.andThen_ok,hc,if_true,A1 h2 (by simp),Sem.run_pure]
    ·simp only[bK.hp]
     rw[mV,heq]
     exact ss (N:=N) g (by rw[wE];simp) (by rw[h1];rfl) aM _ (ok:=.n6) (x:=(x.1,x.2+Aw x.1 x.2)) (fun w' G4 _=>⟨r,h1,by rw[G4];simp[aM,Aw]⟩)
    ·simp only[bK.v,aw,ar]
     exact⟨_,rfl,_,_,rfl,rfl,_,_,rfl,rfl,_,_,rfl,rfl,rfl⟩
   |false =>
    rw[hc]at he;cases he
    simp only[decide_eq_false_iff_not]at hc
    refine⟨.tuple #[.bool false],w,?_,Next.refl g,?_⟩
    ·simp only[Instr.next,Sem.run_bind,gF h2 (by simp),Result.andThen_ok,hc,if_false,Sem.run_pure]
    ·simp only[bK.v,aw,ar]
     exact⟨_,rfl,_,_,rfl,rfl,rfl⟩
  ·cases he
 ·cases he
theorem find_born{l:List MapEntry}(h:l.Pairwise (fun a b=>a.born≠b.born)){e:MapEntry}(he:e∈l):l.find? (fun x=>x.born==e.born)=some e:=by
 induction l with
 |nil=>cases he
 |cons a r ih =>
  obtain⟨h1,h2⟩:=List.pairwise_cons.1 h
  rw[List.find?_cons]
  rcases List.mem_cons.1 he with rfl|he
  ·simp
  ·have:(a.born==e.born)=false:=by simpa using h1 e he
   rw[this];exact ih h2 he
theorem G6{hh:Heap}(g:Good Z ψ h w B0 O)(bz:∀id o,hh.get id=some o→h id=some o){x:AV}{u:Value}{e:bK}(hx:aw Z ψ h w x u)(he:rY hh x some=some e) :
  ∃y v,e=.val y∧(Instr.entry u).run P w=.ok v w∧aw Z ψ h w y v:=by
 unfold rY at he
 split at he
 ·rename_i id
  split at he
  ·rename_i kk vk c rest hg
   cases he
   have wE:=bz _ _ hg
   simp only[aw]at hx
   have hu:=hx.2 (by rw[wE];simp)
   obtain⟨r,m,since,seen,cc,clock,h1,h2,h3,h4,h5,h6,h7,h8,h9⟩:=g.row id (.iter kk vk) (some c,rest) wE
   rw[h1]at hu
   subst hu
   obtain⟨en,mN,zm,Jo⟩:=h9
   obtain⟨⟨k1,k2,k3⟩,v1,v2,v3⟩:=Jo.2 0 c en rfl rfl
   refine⟨_,.tuple #[en.key,en.val],rfl,?_,?_⟩
   ·have hf:cc.find? (·.born==en.born)=some en:=by
     have:=find_born h5 mN
     rwa [←Array.find?_toList]
    simp only[Instr.entry,Sem.run_bind,gF h2 (by simp),Result.andThen_ok,zm,Sem.run_pure,gF h4 (by simp),hf]
    simp
   ·simp only[aw,ar]
    exact⟨_,rfl,_,_,rfl,ma k1 k2 k3,_,_,rfl,ma v1 v2 v3,rfl⟩
  ·cases he
 ·cases he
end Go.Vs
namespace Go.Vs
variable {P:Program} {Z Z':Nat→Prop} {ψ ψ':Nat→Value} {h h':Hp} {w w':World} {B0:Nat} {O:Nat→Prop} {N:Nat→Prop}
mutual
theorem aK.imp{p q:Nat→Prop}(uO:∀i,p i→q i):∀{a:AV},aK p a→aK q a
 |.no,_=>by simp only[aK]
 |.bool b,_=>by simp only[aK]
 |.int k n,_=>by simp only[aK]
 |.str s,_=>by simp only[aK]
 |.lY,_=>by simp only[aK]
 |.gu,_=>by simp only[aK]
 |.ref id s i off,h=>by simp only[aK]at h ⊢;exact uO _ h
 |.fp k x off,_=>by simp only[aK]
 |.sl ex k xs,_=>by simp only[aK]
 |.mp kk vk es,_=>by simp only[aK]
 |.bO id,h=>by simp only[aK]at h ⊢;exact uO _ h
 |.fn f cap,h=>by simp only[aK]at h ⊢;exact aE.imp uO h
 |.agg cs,h=>by simp only[aK]at h ⊢;exact aE.imp uO h
 |.nW cs,h=>by simp only[aK]at h ⊢;exact aE.imp uO h
theorem aE.imp{p q:Nat→Prop}(uO:∀i,p i→q i):∀{a:List AV},aE p a→aE q a
 |[],_=>by simp only[aE]
 |a::r,h=>by simp only[aE]at h ⊢;exact⟨aK.imp uO h.1,aE.imp uO h.2⟩
end
theorem aK.cells{p:Nat→Prop}{a:AV}(h:aK p a):aE p a.cells:=by
 cases a with
 |agg cs=>simpa only[AV.cells,aK] using h
 |_=>simp only[AV.cells,aE];exact⟨h,trivial⟩
theorem A2:∀{cs:List AV},GH cs=true→∀id,AV.bO id∉cs
 |[],_,id=>by simp
 |c::r,hn,id=>by
  intro hm
  cases c with
  |bO i=>simp[GH]at hn
  |_ =>
   simp only[GH]at hn
   rcases List.mem_cons.1 hm with e|hm
   ·cases e
   ·exact A2 hn id hm
theorem qZ:∀{vs:List AV},qK vs=true→∀v∈vs,∀id,AV.bO id∉v.cells
 |[],_,v,hv=>by simp at hv
 |a::r,hn,v,hv=>by
  simp only[qK,Bool.and_eq_true]at hn
  rcases List.mem_cons.1 hv with rfl|hv
  ·exact A2 hn.1
  ·exact qZ hn.2 v hv
def vl(o:Oper):Bool :=
 match o.op with
 |.call { callee:=.value _,.. }=>true
 |_=>false
theorem JQ{s:List (Nat×AV)}{ρC:Operand→Value}{x:Option Operand}(hx:∀y,x=some y→aw Z ψ h w (ρ s y) (ρC y)):eE Z ψ h w (x.map (ρ s)) (x.map ρC):=by
 cases x with
 |none=>trivial
 |some y=>exact hx y rfl
theorem A3{s:List (Nat×AV)}{ρC:Operand→Value}:∀(ps:List (Nat×Operand)),(∀p∈ps,aw Z ψ h w (ρ s p.2) (ρC p.2))→(∀p∈ps,ρ s p.2≠.no)→tu Z ψ h w (ps.map fun p=>(p.1,ρ s p.2)) (ps.map fun p=>(p.1,ρC p.2))
 |[],_,_=>trivial
 |p::r,h1,h2=>⟨rfl,h2 p (by simp),h1 p (by simp),A3 r (fun q hq=>h1 q (List.mem_cons_of_mem _ hq)) (fun q hq=>h2 q (List.mem_cons_of_mem _ hq))⟩
theorem DV{k:K}{hh:Heap}:∀{ps:List (Nat×AV)} {i:Nat} {xs:List k.T},qO k hh i ps=some xs→∀p∈ps,p.2≠.no
 |[],_,_,_,p,hp=>by simp at hp
 |(j,v)::r,i,xs,hl,p,hp=>by
  simp only[qO]at hl
  split at hl
  ·split at hl
   ·rename_i x ys h1 h2
    rcases List.mem_cons.1 hp with rfl|hp
    ·exact DR h1
    ·exact DV h2 p hp
   ·cases hl
  ·cases hl
theorem WA{α:Type}{l:List α}(h:l.length=0+1+1):∃x y,l=[x,y]:=by
 cases l with
 |nil=>simp at h
 |cons a r=>cases r with
  |nil=>simp at h
  |cons b s=>cases s with
   |nil=>exact⟨a,b,rfl⟩
   |cons c q=>simp at h
theorem JR{a:AV}(h:Vb a=true):a≠.no:=by rintro rfl;cases h
section
variable {Eqs:TypeId→Option K} {Sg:FuncId→Option aL} {F:(f:FuncId)→(g:aL)→g.A→Option g.B}
theorem E9{hh:Heap}{ρC:Operand→Value}{o:Oper}(g:Good Z ψ h w B0 O)(hB:B0≤w.heap.size)(bz:∀id o,hh.get id=some o→h id=some o){id:Nat}(hN:N id){t:TypeId}{s x:AV}{u v:Value}{e:bK}
  (hs:aw Z ψ h w s u) (hx:aw Z ψ h w x v) (Fa:aK (fun i=>¬N i) s) (bu:∀i ty cs,h i=some (.box ty cs)→aE (fun i=>¬N i) cs) (mW:∀v hw,e=.wr v hw→hh.get=h) (he:n8 P hh id t s x some=some e)
  (dy:∀V w',(Builtin.append_ #[t,t] o.type #[u,v]).run P w=.ok V w'→(execOp ρC o).run P w=.ok (.value V) w'):iw P ρC o Z ψ h w B0 O N e:=by
 have SR:∀i ty cs,h i=some (.box ty cs)→aE (fun i=>i≠id) cs:=fun i ty cs hb=>(bu i ty cs hb).imp (fun j hj e=>hj (by rw[e];exact hN))
 unfold n8 at he
 split at he
 ·cases he
 ·rename_i et het
  have ht:=nL het
  split at he
  ·cases he
  ·rename_i kk Tt
   split at he
   ·rename_i ys Dg mO
    obtain⟨inf,z,Jm⟩:=cK mO
    split at he
    ·
     cases hc:aP 0 ys.length with
     |false=>rw[hc]at he;cases he
     |true =>
      rw[hc]at he;cases he
      simp only[aP,decide_eq_true_eq]at hc
      simp only[aw]at hs
      subst hs
      obtain⟨V,w',h1,h2,h3⟩:=qn (P:=P) (ty:=o.type) g bz hB hN ht Jm Dg hx (by omega) SR
      refine⟨V,w',Z,_,.inl (dy V w' h1),by simp only[bK.hp];rw[iS];exact h2,?_⟩
      simp only[bK.v,bK.hp,aw]
      exact⟨h3,fun _=>(bq _ _ _).symm⟩
    ·
     rename_i cY
     split at he
     ·rename_i e' k' xs hg
      split at he
      ·rename_i hc
       obtain⟨rfl,rfl⟩:=hc
       cases uN:aP xs.length ys.length with
       |false=>rw[uN]at he;cases he
       |true =>
        rw[uN]at he;cases he
        simp only[aP,decide_eq_true_eq]at uN
        have heq:=mW _ _ rfl
        have wE:=bz _ _ hg
        simp only[aw]at hs
        have hu:=hs.2 (by rw[wE];simp)
        subst hu
        simp only[aK]at Fa
        obtain⟨V,w',h1,h2,h3⟩:=zn (P:=P) (ty:=o.type) g bz hB hN (fun e=>Fa (by rw[e];exact hN)) ht Jm wE Dg hx uN SR
        refine⟨V,w',Z,_,.inl (dy V w' h1),by simp only[bK.hp];rw[mV,vd,heq];exact h2,?_⟩
        simp only[bK.v,bK.hp,aw]
        exact⟨h3,fun _=>(bq _ _ _).symm⟩
      ·cases he
     ·cases he
    ·
     rename_i ex k' xs
     split at he
     ·rename_i hc
      subst hc
      cases uN:(ex&&((!ys.isEmpty || xs.isEmpty)&&aP xs.length ys.length)) with
      |false=>rw[uN]at he;cases he
      |true =>
       rw[uN]at he;cases he
       simp only[Bool.and_eq_true,Bool.or_eq_true,aP,decide_eq_true_eq,Bool.not_eq_true',List.isEmpty_eq_false_iff,List.isEmpty_iff]at uN
       obtain⟨rfl,bp,MO⟩:=uN
       obtain⟨V,w',h1,h2,h3⟩:=AO (P:=P) (ty:=o.type) g bz hB hN ht Jm hs Dg hx (bp.imp List.length_pos_iff.2 (fun h=>h)) MO SR
       refine⟨V,w',Z,_,.inl (dy V w' h1),by simp only[bK.hp];rw[iS];exact h2,?_⟩
       simp only[bK.v,bK.hp,aw]
       exact⟨h3,fun _=>(bq _ _ _).symm⟩
     ·cases he
    ·cases he
   ·cases he
theorem A4{ρC:Operand→Value}{o:Oper}(g:Good Z ψ h w B0 O)(hB:B0≤w.heap.size){id:Nat}(hN:N id){t:TypeId}{vs:List AV}{us:Array Value}{e:bK}(hr:ar Z ψ h w vs us.toList)(h1:∀u∈us.toList,u.oneCell'=true)
  (hm:aE (fun i=>¬N i) vs) (bu:∀i ty cs,h i=some (.box ty cs)→aE (fun i=>¬N i) cs) (he:wN id t vs some=some e)
  (dy:(execOp ρC o).run P w=.ok (.value (.pointer (some ⟨w.heap.size,0,none⟩))) (w.alloc (.cells us t))):iw P ρC o Z ψ h w B0 O N e:=by
 unfold wN at he
 cases he
 have bp:∀i,¬N i→i≠id:=fun j hj e=>hj (by rw[e];exact hN)
 have n:=AJ (N:=N) g hB id t hN hr h1 (fun i ty cs hb=>(bu i ty cs hb).imp bp) (hm.imp bp)
 refine⟨_,_,Z,_,.inl dy,by simp only[bK.hp];rw[iS];exact n,?_⟩
 simp only[bK.v,bK.hp,aw]
 exact⟨_,rfl,fun _=>by rw[bq];simp[Tj]⟩
theorem MP{hh:Heap}{ρC:Operand→Value}{s:List (Nat×AV)}{o:Oper}(g:Good Z ψ h w B0 O)(hB:B0≤w.heap.size)(bz:∀id o,hh.get id=some o→h id=some o){id:Nat}(hN:N id){t:TypeId}{n:Nat}{ps:Array (Nat×Operand)}{e:bK}
  (nY:∀p∈ps.toList,aw Z ψ h w (ρ s p.2) (ρC p.2)) (bu:∀i ty cs,h i=some (.box ty cs)→aE (fun i=>¬N i) cs) (lf:Bool) {e0:bK} (Tu:e=if lf then Ti e0 else e0) (mW:∀v hw,e=.wr v hw→hh.get=h) (he:uU P hh id t n (ps.toList.map fun p=>(p.1,ρ s p.2)) some=some e0)
  (dy:∀V w',(Instr.buildSlice t n (ps.map fun p=>(p.1,ρC p.2))).run P w=.ok V w'→(execOp ρC o).run P w=.ok (.value V) w'):iw P ρC o Z ψ h w B0 O N e:=by
 have SR:∀i ty cs,h i=some (.box ty cs)→aE (fun i=>i≠id) cs:=fun i ty cs hb=>(bu i ty cs hb).imp (fun j hj e=>hj (by rw[e];exact hN))
 unfold uU at he
 split at he
 ·cases he
 ·rename_i et het
  have ht:=nL het
  split at he
  ·cases he
  ·rename_i k hk
   split at he
   ·cases he
   ·cases he
   ·rename_i xs oo mO
    obtain⟨inf,z,Jm⟩:=cK mO
    have JS:=A3 (Z:=Z) (ψ:=ψ) (h:=h) (w:=w) ps.toList nY (fun p hp=>DV oo (p.1,ρ s p.2) (List.mem_map.2 ⟨p,hp,rfl⟩))
    have Ll:tu Z ψ hh.get w (ps.toList.map fun p=>(p.1,ρ s p.2)) (ps.map fun p=>(p.1,ρC p.2)).toList:=by
     rw[Array.toList_map];exact JS.qz bz
    split at he
    ·rename_i hc
     obtain⟨rfl,hn⟩:=hc
     cases qA:qK ((ps.toList.map fun p=>(p.1,ρ s p.2)).map (·.2)) with
     |true =>
      rw[qA]at he;cases he
      have ad6:=qZ qA
      obtain⟨V,w',h1,h2,h3⟩:=GS (P:=P) (N:=N) g (g.sub bz) (fun _ h=>h) hB hN ht Jm (fun p hp i b hm=>absurd hm (ad6 p.2 (List.mem_map.2 ⟨p,hp,rfl⟩) i)) Ll oo hn SR
      cases lf with
      |false =>
       have Tu:e=.new (.bO id) [(id,.own (.row et k) xs)]:=Tu
       subst Tu
       refine⟨V,w',Z,_,.inl (dy V w' h1),by simp only[bK.hp];rw[iS];exact h2,?_⟩
       simp only[bK.v,bK.hp,aw]
       exact⟨h3.1,fun _=>(bq _ _ _).symm⟩
      |true =>
       have Tu:e=.new (.sl true k xs) []:=Tu
       subst Tu
       obtain⟨m1,m2⟩:=OV g hB h2 h3.2.1 h3.2.2.1 h3.2.2.2
       have e1:(bK.new (.sl true k xs) []).hp h=h:=by funext i;simp[bK.hp,Heap.get]
       refine⟨V,w',_,_,.inl (dy V w' h1),by rw[e1];exact m1,?_⟩
       rw[e1];exact m2
     |false =>
      rw[qA]at he;cases he
      have Tu:e=.wr (.bO id) ((id,.own (.row et k) xs)::cS hh ((ps.toList.map fun p=>(p.1,ρ s p.2)).flatMap (·.2.cells))):=by
       rw[Tu];cases lf<;>rfl
      subst Tu
      have heq:=mW _ _ rfl
      subst heq
      let cs:=(ps.toList.map fun p=>(p.1,ρ s p.2)).flatMap (·.2.cells)
      have gd:=iR g cs
      obtain⟨V,w',h1,h2,h3⟩:=GS (P:=P) (N:=N) gd g (fun b hb=>.inl hb) hB hN ht Jm (fun p hp i b hm bp hb=>.inr ⟨i,List.mem_flatMap.2 ⟨p,hp,hm⟩,bp,hb⟩) Ll oo hn (fun i ty cs' hb=>SR i ty cs' (eJ _ _ _ _ hb))
      refine⟨V,w',qG Z ψ hh.get cs,eC ψ id V,.inl (dy V w' h1),?_,?_⟩
      ·simp only[bK.hp]
       rw[AS]
       exact h2.drop (fun b hb=>.inl hb) (fun b hb=>hb.imp (fun h=>h) (fun⟨i,_,h5,h6⟩=>⟨i,h5,h6⟩)) (eJ _ _)
      ·simp only[bK.v,bK.hp,aw]
       exact⟨h3.1,fun _=>(bq _ _ _).symm⟩
    ·cases he
theorem MQ{lf:Bool}{h:Heap}{id:Nat}{t:TypeId}{n:Nat}{ps:List (Nat×AV)}{e:bK}(he:wO P lf h id t n ps some=some e):∃e0,uU P h id t n ps some=some e0∧e=if lf then Ti e0 else e0:=by
 unfold wO uU at he
 unfold uU
 split at he
 ·cases he
 split at he
 ·cases he
 split at he
 ·cases he
 ·cases he
 split at he
 ·rename_i hc
  rw[if_pos hc]
  cases qA:qK (ps.map (·.2)) with
  |true=>rw[qA]at he;exact⟨_,rfl,(Option.some.inj he).symm⟩
  |false=>rw[qA]at he;exact⟨_,rfl,(Option.some.inj he).symm⟩
 ·cases he
theorem A5(p:Nat→Prop)(v:Value):aK p (wH v):=by
 cases v with
 |pointer a=>simp only[wH];split<;>simp only[aK]
 |slice a n c=>simp only[wH];split<;>simp only[aK]
 |func fn first cap =>
  cases fn with
  |func f=>simp only[wH];split<;>simp only[aK,aE]
  |_=>simp only[wH,aK]
 |_=>simp only[wH,aK]
theorem wX(p:Nat→Prop):∀vs:List Value,aE p (vs.map wH)
 |[]=>by simp[aE]
 |v::r=>by simp only[List.map_cons,aE];exact⟨A5 p v,wX p r⟩
theorem MR(p:Nat→Prop)(v:Value):aE p (tT v).cells:=by
 cases v with
 |agg cs=>simp only[tT,AV.cells];exact wX p _
 |_=>simp only[tT];rw[DQ];simp only[aE];exact⟨A5 p _,trivial⟩
theorem O6(C4:∀t k,Eqs t=some k→mb P t k){hh:Heap}{ρC:Operand→Value}{s:List (Nat×AV)}{o:Oper}(g:Good Z ψ h w B0 O)(hB:B0≤w.heap.size)(bz:∀id o,hh.get id=some o→h id=some o){id:Nat}(hN:makes o.op=true→N id){e:bK}
  (nY:∀x∈o.op.operands,aw Z ψ h w (ρ s x) (ρC x)) (hm:∀x∈o.op.operands,aK (fun i=>¬N i) (ρ s x)) (bu:∀i ty cs,h i=some (.box ty cs)→aE (fun i=>¬N i) cs) (mW:∀v hw,e=.wr v hw→hh.get=h)
  (Jp:vl o=false) (he:c4 P Eqs Sg F id hh s o some=some e):iw P ρC o Z ψ h w B0 O N e:=by
 obtain⟨dst,op,type,pos,after,guard⟩:=o
 have two:∀{a b:Operand},(∀x∈(#[a,b]:Array Operand),aw Z ψ h w (ρ s x) (ρC x))→aw Z ψ h w (ρ s a) (ρC a)∧aw Z ψ h w (ρ s b) (ρC b):=fun hx=>⟨hx _ (by simp),hx _ (by simp)⟩
 cases op<;>simp only[c4]at he<;>simp only[Op.operands]at nY hm<;>first|(cases he;done)|skip
 case move x=>cases he;exact iw.val g (V:=ρC x) (by simp[execOp]) (nY x (by simp))
 case assign x=>cases he;exact iw.val g (V:=ρC x) (by simp[execOp]) (nY x (by simp))
 case pick c a b =>
  have h1:=nY c (by simp);have h2:=nY a (by simp);have h3:=nY b (by simp)
  split at he
  ·rename_i t ht
   cases he
   rw[ht]at h1
   simp only[aw]at h1
   refine iw.val g (V:=if t then ρC a else ρC b) (by simp[execOp,h1,asBool]) ?_
   unfold Va
   split
   ·rename_i p q hp hq
    rw[hp]at h2;rw[hq]at h3
    simp only[aw]at h2 h3 ⊢
    cases t<;>simp[h2,h3]
   ·cases t
    ·exact h3
    ·exact h2
  ·cases he
 case alloc t =>
  split at he
  ·rename_i z hz
   obtain⟨i,zv,hi,Y4,rfl,h1⟩:=pf hz
   exact A4 (us:=zv.cells) g hB (hN rfl) (AQ zv) h1 (MR _ zv) bu he (by simp[execOp,Instr.alloc,vc hi Y4,newVar,newRow,newObj,Sem.run])
  ·cases he
 case box t x =>
  have h1:=nY x (by simp)
  split at he
  ·rename_i hp
   have hc:=h1.cells (GY hp)
   exact A4 (us:=(ρC x).cells) g hB (hN rfl) hc (uf hp hc) (hm x (by simp)).cells bu he (by simp[execOp,Instr.box,newVar,newRow,newObj,Sem.run])
  ·cases he
 case build t ps =>
  unfold rZ at he
  split at he
  ·rename_i z fs hz hf
   split at he
   ·rename_i cs Za fO
    cases he
    simp only[Bool.and_eq_true]at fO
    obtain⟨fO,Tv⟩:=fO
    have Zb:fs.toList.all (fun f=>(P.info? f.type).isSome)=true:=fO
    have WB:∀p∈ps.toList,aw Z ψ h w (ρ s p.2) (ρC p.2):=fun p hp=>nY p.2 (by simp;exact⟨p.1,by simpa using hp⟩)
    have JS:=A3 (Z:=Z) (ψ:=ψ) (h:=h) (w:=w) ps.toList WB (fun p hp=>JR (List.all_eq_true.1 Tv (p.1,ρ s p.2) (List.mem_map.2 ⟨p,hp,rfl⟩)))
    obtain⟨V,h1,h2⟩:=MG (P:=P) (qs:=ps.map fun p=>(p.1,ρC p.2)) hz hf Zb (by rw[Array.toList_map];exact JS) Za
    exact iw.val g (V:=V) (by simp only[execOp,Sem.run_bind];rw[h1];simp) h2
   ·cases he
  ·cases he
 case buildSlice t n ps =>
  have WB:∀p∈ps.toList,aw Z ψ h w (ρ s p.2) (ρC p.2):=fun p hp=>nY p.2 (by simp;exact⟨p.1,by simpa using hp⟩)
  obtain⟨e0,h0,h1⟩:=MQ he
  exact MP g hB bz (hN rfl) WB bu ((Sg (900000+t)).isSome) h1 mW h0 (fun V w' h1=>by simp only[execOp,Sem.run_bind];rw[h1];simp)
 case load t a =>
  obtain⟨x,V,rfl,h1,h2⟩:=ud g bz (nY a (by simp)) he
  exact iw.val g (V:=V) (by simp[execOp,h1]) h2
 case store t a v =>
  obtain⟨h1,h2⟩:=two nY
  have hw:∃hw,e=.wr .no hw:=by
   obtain⟨hw,_,_,h3,_⟩:=yw (P:=P) (N:=N) (g.sub bz) (h1.qz bz) (h2.qz bz) he
   exact⟨hw,h3⟩
  obtain⟨hw,rfl⟩:=hw
  have heq:=mW _ _ rfl
  subst heq
  obtain⟨G4,w',Z',h3,h4,h5⟩:=yw (P:=P) (N:=N) g h1 h2 he
  cases h3
  exact⟨undef,w',Z',ψ,.inr ⟨by simp[execOp,h4],rfl⟩,h5,by simp only[bK.v,aw]⟩
 case nilCheck x =>
  have h1:=nY x (by simp)
  split at he
  ·rename_i id s i off hx
   cases he
   rw[hx]at h1
   have h2:=h1
   simp only[aw]at h1
   obtain⟨a,ha,_⟩:=h1
   exact iw.val g (V:=ρC x) (by simp[execOp,ha]) h2
  ·rename_i k y off hx
   cases he
   rw[hx]at h1
   have h2:=h1
   simp only[aw]at h1
   obtain⟨a,us,ha,_⟩:=h1
   exact iw.val g (V:=ρC x) (by simp[execOp,ha]) h2
  ·rename_i f cap hx
   cases he
   rw[hx]at h1
   have h2:=h1
   simp only[aw]at h1
   obtain⟨vs,ha,_⟩:=h1
   exact iw.val g (V:=ρC x) (by simp[execOp,ha]) h2
  ·cases he
 case binOp op t x y yt =>
  obtain⟨h1,h2⟩:=two nY
  obtain⟨r,V,rfl,h3,h4⟩:=ML C4 (xo:=x) (yo:=y) h1 h2 he
  exact iw.val g (V:=V) (by simp only[execOp,Sem.run_bind]at h3 ⊢;rw[h3];simp) h4
 case unOp op t x =>
  have h1:=nY x (by simp)
  cases op<;>simp only at he<;>first|(cases he;done)|skip
  split at he
  ·rename_i b hx
   cases he
   rw[hx]at h1
   simp only[aw]at h1
   exact iw.val g (V:=.bool (!b)) (by simp[execOp,h1,Op.unary]) (by simp only[aw])
  ·cases he
 case convert src dst x =>
  have h1:=nY x (by simp)
  unfold AB at he
  split at he
  ·rename_i k1 k2 k3 n hs hd hx
   cases he
   rw[hx]at h1
   simp only[aw]at h1
   exact iw.val g (V:=.int k2 (k2.wrap n)) (by simp[execOp,h1,convert,run_underlying hs,run_underlying hd,Conv.intToInt]) (by simp only[aw])
  ·rename_i sv hs hd hx
   cases he
   rw[hx]at h1
   have h2:=h1
   simp only[aw]at h1
   exact iw.val g (V:=ρC x) (by simp[execOp,h1,convert,run_underlying hs,run_underlying hd]) h2
  ·cases he
 case makeFunc fn first cap =>
  cases fn<;>simp only at he<;>first|(cases he;done)|skip
  rename_i f
  split at he
  ·rename_i hf
   cases he
   have h0:first=#[]:=Array.eq_empty_of_size_eq_zero hf
   subst h0
   have hl:∀l:List Operand,(∀x∈l,aw Z ψ h w (ρ s x) (ρC x))→ar Z ψ h w (l.map (ρ s)) (l.map ρC):=by
    intro l
    induction l with
    |nil=>intro _;simp[ar]
    |cons a r ih=>intro ha;simp only[List.map_cons,ar];exact⟨_,_,rfl,ha a (by simp),ih (fun x hx=>ha x (List.mem_cons_of_mem _ hx))⟩
   exact iw.val g (V:=.func (.func f) #[] (cap.map ρC)) (by simp[execOp,Instr.makeFunc]) (by simp only[aw];exact⟨_,rfl,by rw[Array.toList_map];exact hl _ (fun x hx=>nY x (by simp;simpa using hx))⟩)
  ·cases he
 case slice t x lo hi mx =>
  have h1:=nY x (by simp)
  have h2:eE Z ψ h w (lo.map (ρ s)) (lo.map ρC):=JQ (fun y hy=>nY y (by subst hy;simp))
  have h3:eE Z ψ h w (hi.map (ρ s)) (hi.map ρC):=JQ (fun y hy=>nY y (by subst hy;simp))
  have h4:eE Z ψ h w (mx.map (ρ s)) (mx.map ρC):=JQ (fun y hy=>nY y (by subst hy;simp))
  split at he
  ·rename_i ht
   unfold Av at he
   split at he
   ·rename_i sv hx hmx
    split at he
    ·rename_i l u hb
     cases ho:bj sv.size l u with
     |false=>rw[ho]at he;cases he
     |true =>
      rw[ho]at he;cases he
      rw[hx]at h1
      simp only[aw]at h1
      have hm0:mx=none:=by cases mx with
       |none=>rfl
       |some m=>simp at hmx
      subst hm0
      have dy:=ue (P:=P) (w:=w) (b:=false) (Nat.le_refl sv.size) h2 h3 (mx:=none) (mx':=none) trivial hb ho (.inl rfl)
      exact iw.val g (V:=.string (Wn sv l u)) (by simp[execOp,Instr.sliceAt,Instr.slice,run_underlying ht,h1,dy,Wn]) (by simp only[aw])
    ·cases he
   ·cases he
  ·rename_i et ht
   split at he
   ·rename_i Wx
    obtain⟨V,Z',h5,h6,h7⟩:=GX (P:=P) (N:=N) g bz ht h1 h2 h3 h4 mW he Wx
    exact⟨V,w,Z',ψ,.inl (by simp[execOp,h5]),h6,h7⟩
   ·cases he
  ·cases he
 case fieldAddr t x f =>
  have h1:=nY x (by simp)
  split at he
  ·rename_i n ft id sz i off hf hx
   split at he
   ·cases he
   ·rename_i hc
    cases he
    rw[hx]at h1
    obtain⟨V,h2,h3⟩:=tx (P:=P) hf hc h1
    exact iw.val g (V:=V) (by simp[execOp,h2]) h3
  ·rename_i n ft k y off hf hx
   split at he
   ·cases he
   ·rename_i hc
    cases he
    rw[hx]at h1
    obtain⟨V,h2,h3⟩:=ve (P:=P) hf hc h1
    exact iw.val g (V:=V) (by simp[execOp,h2]) h3
  ·cases he
 case field t x f =>
  have h1:=nY x (by simp)
  split at he
  ·rename_i n ft cs hf hx
   split at he
   ·rename_i v hv
    cases he
    rw[hx]at h1
    obtain⟨V,h2,h3⟩:=GW (P:=P) hf h1 hv
    exact iw.val g (V:=V) (by simp[execOp,h2]) h3
   ·cases he
  ·cases he
 case indexAddr t x i =>
  obtain⟨h1,h2⟩:=two nY
  obtain⟨y,V,rfl,h3,h4⟩:=qo g bz h1 h2 he
  exact iw.val g (V:=V) (by simp[execOp,h3]) h4
 case index t x i =>
  obtain⟨h1,h2⟩:=two nY
  split at he
  ·rename_i sv ik n ht hx hi
   obtain⟨c,hc,SM⟩:=Option.bind_eq_some_iff.1 he
   cases SM
   rw[hx]at h1;rw[hi]at h2
   simp only[aw]at h1 h2
   exact iw.val g (V:=.int .u8 (c.toNat:Int)) (by simp[execOp,Instr.index,asIntOf,run_underlying ht,h1,h2,hc]) (by simp only[aw])
  ·cases he
 case extract t i =>
  have h1:=nY t (by simp)
  split at he
  ·rename_i vs hx
   split at he
   ·rename_i v hv
    cases he
    rw[hx]at h1
    simp only[aw]at h1
    obtain⟨us,hu,hl⟩:=h1
    obtain⟨u,h2,h3⟩:=hl.get i hv
    exact iw.val g (V:=u) (by simp[execOp,Instr.extract,hu,show us[i]? = some u by simpa using h2]) h3
   ·cases he
  ·cases he
 case makeMap t r =>
  cases r with
  |some r=>cases he
  |none =>
   simp only at he
   have SR:∀i ty cs,h i=some (.box ty cs)→aE (fun i=>i≠id) cs:=fun i ty cs hb=>(bu i ty cs hb).imp (fun j hj e=>hj (by rw[e];exact hN rfl))
   obtain⟨V,w',ψ',h1,h2,h3⟩:=Df g hB (hN rfl) SR he
   exact⟨V,w',Z,ψ',.inl (by simp[execOp,h1]),h2,h3⟩
 case lookup t m i ok =>
  obtain⟨h1,h2⟩:=two nY
  obtain⟨y,V,rfl,h3,h4⟩:=E7 C4 g bz h1 h2 he
  exact iw.val g (V:=V) (by simp[execOp,h3]) h4
 case mapUpdate t m i v =>
  have h1:=nY m (by simp);have h2:=nY i (by simp);have h3:=nY v (by simp)
  have hw:∃hw,e=.wr (.nW []) hw:=by
   obtain⟨hw,_,_,h4,_⟩:=vg (N:=N) C4 (g.sub bz) (h1.qz bz) (h2.qz bz) (h3.qz bz) he
   exact⟨hw,h4⟩
  obtain⟨hw,rfl⟩:=hw
  have heq:=mW _ _ rfl
  subst heq
  obtain⟨G4,w',Z',h4,h5,h6⟩:=vg (N:=N) C4 g h1 h2 h3 he
  cases h4
  exact⟨undef,w',Z',ψ,.inr ⟨by simp[execOp,h5],rfl⟩,h6,by simp only[bK.v,aw,ar];exact⟨#[],rfl,rfl⟩⟩
 case range t x =>
  have SR:∀i ty cs,h i=some (.box ty cs)→aE (fun i=>i≠id) cs:=fun i ty cs hb=>(bu i ty cs hb).imp (fun j hj e=>hj (by rw[e];exact hN rfl))
  obtain⟨V,w',ψ',h1,h2,h3⟩:=E8 g hB (hN rfl) (nY x (by simp)) SR he
  exact⟨V,w',Z,ψ',.inl (by simp[execOp,h1]),h2,h3⟩
 case next x b =>
  cases b with
  |false=>cases he
  |true =>
   obtain⟨V,w',h1,h2,h3⟩:=G5 (P:=P) (N:=N) (ty:=type) g bz (nY x (by simp)) mW he
   exact⟨V,w',Z,ψ,.inl (by simp[execOp,h1]),h2,h3⟩
 case entry x =>
  obtain⟨y,V,rfl,h1,h2⟩:=G6 (P:=P) g bz (nY x (by simp)) he
  exact iw.val g (V:=V) (by simp[execOp,h1]) h2
 case call c =>
  obtain⟨callee,args,argTypes⟩:=c
  cases callee with
  |value f=>simp[vl]at Jp
  |invoke r m=>simp only at he;cases he
  |builtin b =>
   have lz:∀x∈args.toList,aw Z ψ h w (ρ s x) (ρC x):=fun x hx=>nY x (by simp only[Call.operands];exact Array.mem_append.2 (.inr (by simpa using hx)))
   have O7:∀x∈args.toList,aK (fun i=>¬N i) (ρ s x):=fun x hx=>hm x (by simp only[Call.operands];exact Array.mem_append.2 (.inr (by simpa using hx)))
   obtain⟨args⟩:=args
   obtain⟨argTypes⟩:=argTypes
   simp only at he lz O7
   cases b<;>simp only at he<;>first|(cases he;done)|skip
   case append =>
    split at he
    ·rename_i l1 l2 x y t t'
     split at he
     ·rename_i htt
      subst htt
      exact E9 g hB bz (hN rfl) (lz x (by simp)) (lz y (by simp)) (O7 x (by simp)) bu mW he (fun V w' h1=>by
       simp only[execOp,resolve,invoke,builtin,Sem.run_bind,Sem.run_pure,Result.andThen_ok,List.map_toArray,List.map_cons,List.map_nil,h1])
     ·cases he
    ·cases he
   case delete =>
    split at he
    ·rename_i l1 l2 m x t ts
     have h1:=lz m (by simp);have h2:=lz x (by simp)
     have hw:∃hw,e=.wr (.nW []) hw:=by
      obtain⟨hw,_,h4,_⟩:=vh (N:=N) (ty:=type) (ts:=ts) C4 (g.sub bz) (h1.qz bz) (h2.qz bz) he
      exact⟨hw,h4⟩
     obtain⟨hw,rfl⟩:=hw
     have heq:=mW _ _ rfl
     subst heq
     obtain⟨G4,w',h4,h5,h6⟩:=vh (N:=N) (ty:=type) (ts:=ts) C4 g h1 h2 he
     cases h4
     exact⟨.tuple #[],w',Z,ψ,.inl (by simp only[execOp,resolve,invoke,builtin,Sem.run_bind,Sem.run_pure,Result.andThen_ok,List.map_toArray,List.map_cons,List.map_nil,h5]),h6,by simp only[bK.v,aw,ar];exact⟨#[],rfl,rfl⟩⟩
    ·cases he
   case len =>
    split at he
    ·rename_i l1 l2 x t
     split at he
     ·rename_i htm
      obtain⟨n,rfl,h1⟩:=JP (P:=P) (ty:=type) g bz htm (lz x (by simp)) he
      exact iw.val g (V:=.int .i64 (n:Int)) (by simp only[execOp,resolve,invoke,builtin,Sem.run_bind,Sem.run_pure,Result.andThen_ok,List.map_toArray,List.map_cons,List.map_nil,h1]) (by simp only[aw])
     split at he
     ·rename_i aM
      obtain⟨n,rfl,h1⟩:=MJ g bz (lz x (by simp)) he
      refine iw.val g (V:=.int .i64 (n:Int)) ?_ (by simp only[aw])
      rcases h1 with⟨sv,h2,h3,rfl⟩|⟨A,c,h3⟩
      ·unfold Wo at aM
       rw[h2]at aM
       split at aM
       ·rename_i hu _
        simp[execOp,resolve,invoke,builtin,Builtin.len_,run_underlying hu,h3,goInt]
       ·cases aM
       ·rename_i h9;exact(h9 _ rfl).elim
       ·cases aM
      ·have hu:∃e,P.underlying t=some (.slice e):=by
        have h4:=lz x (by simp)
        rw[h3]at h4
        unfold Wo at aM
        split at aM
        ·rename_i sv _ hxx
         rw[hxx]at h4;simp only[aw]at h4;cases h4
        ·cases aM
        ·rename_i e _ hu _;exact⟨_,hu⟩
        ·cases aM
       obtain⟨e,hu⟩:=hu
       simp[execOp,resolve,invoke,builtin,Builtin.len_,run_underlying hu,h3,goInt]
     ·cases he
    ·cases he
   all_goals
    unfold MB at he
    split at he
    ·rename_i k a k' b Fb
     have hl:=congrArg List.length Fb
     simp only[List.length_map,List.length_cons,List.length_nil]at hl
     obtain⟨x,y,rfl⟩:=WA hl
     simp only[List.map_cons,List.map_nil,List.cons.injEq,and_true]at Fb
     have h1:=lz x (by simp)
     have h2:=lz y (by simp)
     rw[Fb.1]at h1;rw[Fb.2]at h2
     simp only[aw]at h1 h2
     split at he
     ·rename_i hk
      subst hk
      cases he
      refine iw.val g (V:=b8 (.int _ _)) ?_ (j9 _ _)
      first
       |(simp[execOp,resolve,invoke,builtin,Builtin.max_,Builtin.max2,h1,h2,b8];simp only[Int.max_def];split<;>split<;>omega)
       |(simp[execOp,resolve,invoke,builtin,Builtin.min_,Builtin.min2,h1,h2,b8];simp only[Int.min_def];split<;>split<;>omega)
     ·cases he
    ·cases he
end
end Go.Vs
namespace Go.Vs
variable {P:Program} {Z Z' Zf:Nat→Prop} {ψ ψ':Nat→Value} {h h':Hp} {w w':World} {B0:Nat} {O:Nat→Prop} {N:Nat→Prop}
abbrev yz:=Nat×Option Nat×Ob
def dH(L:List yz):Heap:=L.map fun e=>(e.1,e.2.2)
def kb(ψ:Nat→Value):Option Nat→Value
 |some s=>ψ s
 |none=>.slice none 0 0
def fh(ψ:Nat→Value):List yz→Nat→Value
 |[],_=>undef
 |(i,s,_)::r,n=>if i=n then kb ψ s else fh ψ r n
theorem oq{L:List yz}{i:Nat}{o:Ob}(hg:(dH L).get i=some o):∃s,(i,s,o)∈L:=by
 induction L with
 |nil=>simp[dH,Heap.get]at hg
 |cons e r ih =>
  obtain⟨j,s,o'⟩:=e
  simp only[dH,List.map_cons,Heap.get]at hg
  split at hg
  ·rename_i e;subst e;cases hg;exact⟨s,List.mem_cons_self⟩
  ·obtain⟨s',hs⟩:=ih hg;exact⟨s',List.mem_cons_of_mem _ hs⟩
theorem mY{i:Nat}{r:List Nat}(h:cm (i::r)=true):i∉r∧cm r=true:=by
 simp only[cm,Bool.and_eq_true,Bool.not_eq_true']at h
 exact⟨fun hm=>by rw[List.contains_iff_mem.2 hm]at h;simp at h,h.2⟩
theorem jg{L:List yz}(hn:cm (L.map (·.1))=true){i:Nat}{s:Option Nat}{o:Ob}(hm:(i,s,o)∈L):fh ψ L i=kb ψ s:=by
 induction L with
 |nil=>cases hm
 |cons e r ih =>
  obtain⟨j,s',o'⟩:=e
  obtain⟨h1,h2⟩:=mY hn
  simp only[fh]
  rcases List.mem_cons.1 hm with he|hm
  ·cases he;simp
  ·rw[if_neg,ih h2 hm]
   rintro rfl
   exact h1 (List.mem_map.2 ⟨_,hm,rfl⟩)
theorem Tw{L:List yz}(hs:cm (L.filterMap (·.2.1))=true){i j s:Nat}{o o':Ob}(h1:(i,some s,o)∈L)(h2:(j,some s,o')∈L):i=j∧o=o':=by
 induction L with
 |nil=>cases h1
 |cons e r ih =>
  obtain⟨k,s',o''⟩:=e
  have mem:∀{k:Nat} {o:Ob},(k,some s,o)∈r→s∈r.filterMap (·.2.1):=fun h=>List.mem_filterMap.2 ⟨_,h,rfl⟩
  rw[List.filterMap_cons]at hs
  cases s' with
  |none =>
   simp only[]at hs
   exact ih hs ((List.mem_cons.1 h1).resolve_left (by simp)) ((List.mem_cons.1 h2).resolve_left (by simp))
  |some s' =>
   simp only[]at hs
   obtain⟨h3,h4⟩:=mY hs
   rcases List.mem_cons.1 h1 with e1|m1<;>rcases List.mem_cons.1 h2 with e2|m2
   ·cases e1;cases e2;exact⟨rfl,rfl⟩
   ·cases e1;exact absurd (mem m2) h3
   ·cases e2;exact absurd (mem m1) h3
   ·exact ih h4 m1 m2
def G7:(ok:OK)→ok.T→Prop
 |.row _ _,xs=>xs=[]
 |_,_=>False
theorem G7.owns:∀{ok:OK} {xs:ok.T},G7 ok xs→jV Z w ok (.slice none 0 0) xs
 |.row ty k,xs,h=>by
  have h:xs=[]:=h
  subst h
  exact⟨[],⟨by simp,.inl ⟨rfl,none,rfl⟩⟩,fun i x hx=>by simp at hx⟩
 |.map _ _,_,h=>h.elim
 |.iter _ _,_,h=>h.elim
 |.n6,_,h=>h.elim
def vm(Z:Nat→Prop)(ψ:Nat→Value)(h:Hp)(w:World)(h':Hp)(ψ':Nat→Value):yz→Prop
 |(_,some s,.own ok xs)=>h s=some (.own ok xs)
 |(_,none,.own ok xs)=>G7 ok xs
 |(_,some s,.box ty cs')=>(∃cs,h s=some (.box ty cs))∧∀gg vs,ψ s=.pointer (some ⟨gg,0,none⟩)→w.heap[gg]? = some (.cells vs ty (0,0))→ar Z ψ' h' w cs' vs.toList
 |(_,none,.box _ _)=>False
theorem Good.rename(g:Good Z ψ h w B0 O){L:List yz}(hn:cm (L.map (·.1))=true)(hs:cm (L.filterMap (·.2.1))=true)(mO:∀e∈L,vm Z ψ h w (dH L).get (fh ψ L) e) :
  Good Z (fh ψ L) (dH L).get w B0 O:=by
 have src:∀id b,(dH L).get id≠none→ob (fh ψ L id)=some b→∃s o,(id,some s,o)∈L∧h s≠none∧ob (ψ s)=some b:=fun id b h1 h2=>by
  obtain⟨o,ho⟩:=Option.ne_none_iff_exists'.1 h1
  obtain⟨s,hm⟩:=oq ho
  rw[jg hn hm]at h2
  cases s with
  |none=>simp[kb,ob]at h2
  |some s =>
   have h3:=mO _ hm
   refine⟨s,o,hm,?_,h2⟩
   cases o with
   |box ty cs=>obtain⟨⟨cs0,h4⟩,_⟩:=h3;rw[h4];simp
   |own ok xs=>rw[show h s=some (.own ok xs) from h3];simp
 refine⟨fun id ty cs hb=>?_,fun id ok xs hb=>?_,fun id b h1 h2=>?_,fun id mR b h1 h2 h3 h4=>?_,g.j5⟩
 ·obtain⟨s,hm⟩:=oq hb
  have h3:=mO _ hm
  rw[jg hn hm]
  cases s with
  |none=>exact h3.elim
  |some s =>
   obtain⟨⟨cs0,h4⟩,h5⟩:=h3
   obtain⟨gg,vs,h6,h7,h8,h9⟩:=g.box s ty cs0 h4
   exact⟨gg,vs,h6,h7,h5 gg vs h6 h7,h9⟩
 ·obtain⟨s,hm⟩:=oq hb
  have h3:=mO _ hm
  rw[jg hn hm]
  cases s with
  |none=>exact G7.owns h3
  |some s=>exact g.row s ok xs h3
 ·obtain⟨s,o,hm,h3,h4⟩:=src id b h1 h2
  exact g.live s b h3 h4
 ·obtain⟨s,o,hm,h5,h6⟩:=src id b h1 h3
  obtain⟨s',o',Tx,h5',h6'⟩:=src mR b h2 h4
  have:=g.apart s s' b h5 h5' h6 h6'
  subst this
  exact(Tw hs hm Tx).1
def zO(hh:Heap)(i:Nat):List AV:=match hh.get i with
 |some (.box _ cs)=>cs
 |_=>[]
def dN:(dw:List CK)→Nat→List AV→qI dw→List yz
 |[],_,_,_=>[]
 |.val k::r,n,cs,x=>dN r (n+1) (cs.drop k.sz) x.2
 |.own ok::r,n,cs,x=>(n,(o5 (cs.headD .no)).head?,.own ok x.1)::dN r (n+1) cs.tail x.2
def dW:(b:BK)→Heap→Nat→Nat→Nat→b.T→List yz
 |.box ty c,hh,i,i',n,x=>(i',some i,.box ty (aD c n x))::dN c n (zO hh i) x
 |.own ok,_,i,i',_,x=>[(i',some i,.own ok x)]
def cI:(bs:List BK)→Heap→List Nat→List Nat→Nat→wI bs→List yz
 |b::r,hh,i::is,i'::is',n,x=>dW b hh i i' n x.1++cI r hh is is' (n+16) x.2
 |_,_,_,_,_,_=>[]
theorem mZ:∀(dw:List CK) (n:Nat) (cs:List AV) (x:qI dw),dH (dN dw n cs x)=aZ dw n x
 |[],_,_,_=>rfl
 |.val k::r,n,cs,x=>mZ r (n+1) _ x.2
 |.own ok::r,n,cs,x=>by simp only[dN,aZ,dH,List.map_cons];rw[←mZ r (n+1) cs.tail x.2];rfl
theorem lD:∀(dw:List CK) (n:Nat) (cs:List AV) (x:qI dw),(dN dw n cs x).map (·.1)=cw dw n
 |[],_,_,_=>rfl
 |.val k::r,n,cs,x=>lD r (n+1) _ x.2
 |.own ok::r,n,cs,x=>by simp only[dN,cw,List.map_cons];rw[lD r (n+1) cs.tail x.2]
theorem wY(c:AV):(o5 c).head?.toList=o5 c:=by cases c<;>rfl
theorem dZ{α β:Type}(f:α→Option β)(a:α)(l:List α):(a::l).filterMap f=(f a).toList++l.filterMap f:=by
 rw[List.filterMap_cons];cases f a<;>rfl
theorem pz{k:K}{r:List CK}{hh:Heap}{cs:List AV}{x:qI (.val k::r)}(hd:cW (.val k::r) hh cs=some x):ep k ((cs.take k.sz).map (cV hh))=some x.1∧cW r hh (cs.drop k.sz)=some x.2:=by
 have e:cW (.val k::r) hh cs=(match ep k ((cs.take k.sz).map (cV hh)),cW r hh (cs.drop k.sz) with
  |some x,some y=>some ((x,y):k.T×qI r)
  |_,_=>none):=by cases cs<;>rfl
 rw[e]at hd
 clear e
 generalize ep k ((cs.take k.sz).map (cV hh))=o1 at hd ⊢
 generalize cW r hh (cs.drop k.sz)=o2 at hd ⊢
 cases o1 with
 |none=>cases hd
 |some x1 =>
  cases o2 with
  |none=>cases hd
  |some y1=>have:=Option.some.inj hd;subst this;exact⟨rfl,rfl⟩
theorem me{ok:OK}{r:List CK}{hh:Heap}{cs:List AV}{x:qI (.own ok::r)}(hd:cW (.own ok::r) hh cs=some x):∃c cs',cs=c::cs'∧eg hh ok c=some x.1∧cW r hh cs'=some x.2:=by
 cases cs with
 |nil=>cases hd
 |cons c cs =>
  refine⟨c,cs,rfl,?_⟩
  have e:cW (.own ok::r) hh (c::cs)=(match eg hh ok c,cW r hh cs with
   |some x,some y=>some ((x,y):ok.T×qI r)
   |_,_=>none):=rfl
  rw[e]at hd
  clear e
  generalize eg hh ok c=o1 at hd ⊢
  generalize cW r hh cs=o2 at hd ⊢
  cases o1 with
  |none=>cases hd
  |some x1 =>
   cases o2 with
   |none=>cases hd
   |some y1=>have:=Option.some.inj hd;subst this;exact⟨rfl,rfl⟩
theorem pC:∀(dw:List CK) (n:Nat) (hh:Heap) (cs:List AV) (x:qI dw),cW dw hh cs=some x→(dN dw n cs x).filterMap (·.2.1)=fW dw cs
 |[],_,_,cs,_,_=>by cases cs<;>rfl
 |.val k::r,n,hh,cs,x,hd=>by
  obtain⟨_,h2⟩:=pz hd
  have e:fW (.val k::r) cs=fW r (cs.drop k.sz):=by cases cs<;>rfl
  rw[e]
  exact pC r (n+1) hh _ x.2 h2
 |.own ok::r,n,hh,cs,x,hd=>by
  obtain⟨c,cs',rfl,_,h2⟩:=me hd
  simp only[dN,fW]
  rw[dZ]
  simp only[List.headD_cons,List.tail_cons]
  rw[wY,pC r (n+1) hh cs' x.2 h2]
theorem mf{hh:Heap}{ok:OK}{c:AV}{xs:ok.T}(ho:eg hh ok c=some xs):(c=.gu∧G7 ok xs)∨∃id,c=.bO id∧hh.get id=some (.own ok xs):=by
 unfold eg at ho
 split at ho
 ·cases ok with
  |row _ _=>cases ho;exact .inl ⟨rfl,rfl⟩
  |_=>cases ho
 ·rename_i id
  split at ho
  ·rename_i zj k' Y1 hg
   split at ho
   ·rename_i e
    subst e
    cases ho
    exact .inr ⟨id,rfl,hg⟩
   ·cases ho
  ·cases ho
 ·cases ho
theorem Fc{hh:Heap}{ok:OK}{c:AV}{xs:ok.T}{v:Value}(ho:eg hh ok c=some xs)(hr:aw Z ψ hh.get w c v){n:Nat}(jx:h' n≠none→ψ' n=kb ψ (o5 c).head?):aw Z' ψ' h' w' (.bO n) v:=by
 rcases mf ho with⟨rfl,_⟩|⟨id,rfl,hg⟩
 ·simp only[aw]at hr ⊢
  subst hr
  exact⟨⟨rfl,rfl⟩,fun hn=>(jx hn).symm⟩
 ·simp only[aw]at hr ⊢
  refine⟨hr.1,fun hn=>?_⟩
  rw[jx hn]
  exact hr.2 (by rw[hg];simp)
theorem su{hh:Heap}(g:Good Z ψ hh.get w B0 O)(hz:∀b,Z b→Z' b):∀(dw:List CK) (n:Nat) (cs:List AV) (x:qI dw) (vs:List Value),cW dw hh cs=some x →
  (∀id b,AV.bO id∈ql dw cs→hh.get id≠none→ob (ψ id)=some b→Z' b)→(∀e∈dN dw n cs x,h' e.1≠none→ψ' e.1=kb ψ e.2.1) →
  ar Z ψ hh.get w cs vs→ar Z' ψ' h' w (aD dw n x) vs
 |[],n,cs,x,vs,hd,_,_,hr=>by
  cases cs with
  |nil=>simpa only[aD,ar] using hr
  |cons c cs=>cases hd
 |.val k::r,n,cs,x,vs,hd,hf,jx,hr=>by
  obtain⟨h1,h2⟩:=pz hd
  have e:ql (.val k::r) cs=cs.take k.sz++ql r (cs.drop k.sz):=by cases cs<;>rfl
  rw[e]at hf
  have sd:ar Z ψ hh.get w (cs.take k.sz++cs.drop k.sz) vs:=by rw[List.take_append_drop];exact hr
  obtain⟨us,ws,rfl,h3,h4⟩:=ar.split sd
  simp only[aD]
  have h5:=oi (Z':=Z') g hz (fun id b bT=>hf id b (List.mem_append_left _ bT)) h3
  exact ar.append (iI (dL h1 h5)) (su g hz r (n+1) (cs.drop k.sz) x.2 ws h2 (fun id b bT=>hf id b (List.mem_append_right _ bT)) jx h4)
 |.own ok::r,n,cs,x,vs,hd,hf,jx,hr=>by
  obtain⟨c,cs',rfl,h1,h2⟩:=me hd
  simp only[ar]at hr
  obtain⟨v,us,rfl,h3,h4⟩:=hr
  simp only[aD,ar]
  refine⟨v,us,rfl,Fc h1 h3 (fun hn=>jx (n,_,_) (by simp only[dN];exact List.mem_cons_self) hn),?_⟩
  exact su g hz r (n+1) cs' x.2 us h2 hf (fun e he=>jx e (by simp only[dN];exact List.mem_cons_of_mem _ he)) h4
theorem fJ{b:BK}{r:List BK}{hh:Heap}{i:Nat}{is:List Nat}{x:wI (b::r)}(hd:de (b::r) hh (i::is)=some x):qm b hh i=some x.1∧de r hh is=some x.2:=by
 have e:de (b::r) hh (i::is)=(match qm b hh i,de r hh is with
   |some x,some y=>some ((x,y):b.T×wI r)
   |_,_=>none):=rfl
 rw[e]at hd
 clear e
 generalize qm b hh i=o1 at hd ⊢
 generalize de r hh is=o2 at hd ⊢
 cases o1 with
 |none=>cases hd
 |some x1 =>
  cases o2 with
  |none=>cases hd
  |some y1=>have:=Option.some.inj hd;subst this;exact⟨rfl,rfl⟩
theorem sw{ty:TypeId}{c:List CK}{hh:Heap}{i:Nat}{x:qI c}(hd:qm (.box ty c) hh i=some x):∃cs,hh.get i=some (.box ty cs)∧cW c hh cs=some x:=by
 simp only[qm]at hd
 cases hb:GG hh i ty with
 |none=>rw[hb]at hd;cases hd
 |some cs =>
  rw[hb]at hd
  refine⟨cs,?_,hd⟩
  unfold GG at hb
  split at hb
  ·rename_i zj cs' hg
   split at hb
   ·rename_i e;cases hb;rw[hg,e]
   ·cases hb
  ·cases hb
theorem kc{hh:Heap}{ok:OK}{i:Nat}{x:ok.T}(h:eg hh ok (.bO i)=some x):hh.get i=some (.own ok x):=by
 rcases mf h with⟨h,_⟩|⟨id,h,hg⟩
 ·cases h
 ·cases h;exact hg
theorem DW{ok:OK}{hh:Heap}{i:Nat}{x:ok.T}(hd:qm (.own ok) hh i=some x):hh.get i=some (.own ok x):=kc hd
theorem pG{hh:Heap}{i:Nat}{ty:TypeId}{cs:List AV}(hg:hh.get i=some (.box ty cs)):zO hh i=cs:=by unfold zO;rw[hg]
theorem Fe(b:BK){hh:Heap}{i i' n:Nat}(x:b.T):dH (dW b hh i i' n x)=jz b i' n x:=by
 cases b with
 |box ty c=>simp only[dW,jz];rw[←mZ c n (zO hh i) x];simp[dH]
 |own ok=>simp[dW,jz,dH]
theorem Dh(b:BK){hh:Heap}{i i' n:Nat}(x:b.T):(dW b hh i i' n x).map (·.1)=i'::cw b.dw n:=by
 cases b with
 |box ty c=>simp only[dW,List.map_cons,BK.dw];rw[lD]
 |own ok=>simp[dW,BK.dw,cw]
theorem G8(b:BK){hh:Heap}{i i' n:Nat}{x:b.T}(hd:qm b hh i=some x):(dW b hh i i' n x).filterMap (·.2.1)=ky b hh i:=by
 cases b with
 |box ty c =>
  obtain⟨cs,h1,h2⟩:=sw hd
  simp only[dW,ky]
  rw[dZ,pG h1,pC c n hh cs x h2,h1]
  rfl
 |own ok=>simp[dW,ky]
theorem jC:∀(bs:List BK) (hh:Heap) (is is':List Nat) (n:Nat) (x:wI bs),de bs hh is=some x→is'.length=bs.length→dH (cI bs hh is is' n x)=bC bs is' n x
 |[],hh,is,is',n,x,_,hl=>by cases is'<;>simp[cI,bC,dH]
 |b::r,hh,[],is',n,x,hd,_=>by cases hd
 |b::r,hh,i::is,[],n,x,_,hl=>by simp at hl
 |b::r,hh,i::is,i'::is',n,x,hd,hl=>by
  obtain⟨_,h3⟩:=fJ hd
  have ih:=jC r hh is is' (n+16) x.2 h3 (by simpa using hl)
  simp only[cI,bC]
  rw[←ih,←Fe b (hh:=hh) (i:=i) x.1]
  simp[dH]
theorem iy:∀(bs:List BK) (hh:Heap) (is is':List Nat) (n:Nat) (x:wI bs),de bs hh is=some x→is'.length=bs.length→(cI bs hh is is' n x).map (·.1)=cg bs is' n
 |[],hh,is,is',n,x,_,hl=>by cases is'<;>simp[cI,cg]
 |b::r,hh,[],is',n,x,hd,_=>by cases hd
 |b::r,hh,i::is,[],n,x,_,hl=>by simp at hl
 |b::r,hh,i::is,i'::is',n,x,hd,hl=>by
  obtain⟨_,h3⟩:=fJ hd
  have ih:=iy r hh is is' (n+16) x.2 h3 (by simpa using hl)
  simp only[cI,cg,List.map_append]
  rw[ih,Dh,List.cons_append]
theorem kH:∀(bs:List BK) (hh:Heap) (is is':List Nat) (n:Nat) (x:wI bs),de bs hh is=some x→is'.length=bs.length→(cI bs hh is is' n x).filterMap (·.2.1)=dg bs hh is
 |[],hh,is,is',n,x,_,hl=>by cases is'<;>cases is<;>simp[cI,dg]
 |b::r,hh,[],is',n,x,hd,_=>by cases hd
 |b::r,hh,i::is,[],n,x,_,hl=>by simp at hl
 |b::r,hh,i::is,i'::is',n,x,hd,hl=>by
  obtain⟨h1,h3⟩:=fJ hd
  have ih:=kH r hh is is' (n+16) x.2 h3 (by simpa using hl)
  simp only[cI,dg]
  rw[List.filterMap_append,ih,G8 b h1]
theorem sB{hd:Hp}{hh:Heap}:∀(dw:List CK) (n:Nat) (cs:List AV) (x:qI dw),cW dw hh cs=some x→(∀s∈fW dw cs,hd s=hh.get s)→∀e∈dN dw n cs x,vm Z ψ hd w h' ψ' e
 |[],n,cs,x,_,_,e,he=>by simp[dN]at he
 |.val k::r,n,cs,x,SS,hk,e,he=>by
  obtain⟨_,h2⟩:=pz SS
  have e0:fW (.val k::r) cs=fW r (cs.drop k.sz):=by cases cs<;>rfl
  rw[e0]at hk
  exact sB r (n+1) _ x.2 h2 hk e he
 |.own ok::r,n,cs,x,SS,hk,e,he=>by
  obtain⟨c,cs',rfl,h1,h2⟩:=me SS
  simp only[dN,List.headD_cons,List.tail_cons]at he
  simp only[fW]at hk
  rcases List.mem_cons.1 he with rfl|he
  ·rcases mf h1 with⟨rfl,h3⟩|⟨id,rfl,h3⟩
   ·exact h3
   ·show hd id=some (.own ok x.1)
    rw[hk id (List.mem_append_left _ (by simp[o5])),h3]
  ·exact sB r (n+1) cs' x.2 h2 (fun s hs=>hk s (List.mem_append_right _ hs)) e he
theorem JU{hd:Hp}{hh:Heap}(g:Good Z ψ hh.get w B0 O)(hz:∀b,Z b→Z' b)(b:BK){i i' n:Nat}{x:b.T}(SS:qm b hh i=some x)
  (hf:∀id g,AV.bO id∈Ax b hh i→hh.get id≠none→ob (ψ id)=some g→Z' g) (hk:∀s∈ky b hh i,hd s=hh.get s) (jx:∀e∈dW b hh i i' n x,h' e.1≠none→ψ' e.1=kb ψ e.2.1) :
  ∀e∈dW b hh i i' n x,vm Z' ψ hd w h' ψ' e:=by
 intro e he
 cases b with
 |box ty c =>
  obtain⟨cs,h1,h2⟩:=sw SS
  simp only[Ax,ky,h1]at hf hk
  have WC:∀e∈dN c n cs x,h' e.1≠none→ψ' e.1=kb ψ e.2.1:=fun e he=>jx e (by simp only[dW];rw[pG h1];exact List.mem_cons_of_mem _ he)
  simp only[dW]at he
  rcases List.mem_cons.1 he with rfl|he
  ·refine⟨⟨cs,by rw[hk i List.mem_cons_self,h1]⟩,fun gg vs h4 h5=>?_⟩
   obtain⟨gg',iz,h6,h7,h8,_⟩:=g.box i ty cs h1
   rw[h6]at h4
   cases h4
   rw[h5]at h7
   cases h7
   exact su g hz c n cs x _ h2 hf WC h8
  ·rw[pG h1]at he
   exact sB c n cs x h2 (fun s hs=>hk s (List.mem_cons_of_mem _ hs)) e he
 |own ok =>
  have h1:=DW SS
  simp only[dW,List.mem_singleton]at he
  subst he
  show hd i=some (.own ok x)
  rw[hk i (by simp[ky]),h1]
theorem mg{hd:Hp}{hh:Heap}(g:Good Z ψ hh.get w B0 O)(hz:∀b,Z b→Z' b):∀(bs:List BK) (is is':List Nat) (n:Nat) (x:wI bs),de bs hh is=some x →
  (∀id b,AV.bO id∈gx bs hh is→hh.get id≠none→ob (ψ id)=some b→Z' b)→(∀s∈dg bs hh is,hd s=hh.get s)→(∀e∈cI bs hh is is' n x,h' e.1≠none→ψ' e.1=kb ψ e.2.1) →
  ∀e∈cI bs hh is is' n x,vm Z' ψ hd w h' ψ' e
 |[],is,is',n,x,_,_,_,_,e,he=>by simp[cI]at he
 |b::r,[],is',n,x,SS,_,_,_,e,he=>by cases SS
 |b::r,i::is,[],n,x,_,_,_,_,e,he=>by simp[cI]at he
 |b::r,i::is,i'::is',n,x,SS,hf,hk,jx,e,he=>by
  obtain⟨h1,h3⟩:=fJ SS
  simp only[gx,dg]at hf hk
  simp only[cI]at he jx
  rcases List.mem_append.1 he with he|he
  ·exact JU g hz b h1 (fun id g bT=>hf id g (List.mem_append_left _ bT)) (fun s hs=>hk s (List.mem_append_left _ hs)) (fun e he=>jx e (List.mem_append_left _ he)) e he
  ·exact mg g hz r is is' (n+16) x.2 h3 (fun id b bT=>hf id b (List.mem_append_right _ bT)) (fun s hs=>hk s (List.mem_append_right _ hs)) (fun e he=>jx e (List.mem_append_right _ he)) e he
theorem sD{kept:List Nat}{lf:List AV}(hk:wM kept lf=true):cm kept=true∧∀(hh:Heap) s,s∈kept→(cS hh lf).get s=hh.get s:=by
 unfold wM at hk
 rw[Bool.and_eq_true]at hk
 exact⟨hk.1,fun hh s hs=>o9 _ _ _ (sj (List.all_eq_true.1 hk.2 s hs))⟩
theorem wZ{hh:Heap}{lf:List AV}{kept:List Nat}(g:Good Z ψ hh.get w B0 O)(hk:wM kept lf=true){L:List yz}(hn:cm (L.map (·.1))=true)(hs:L.filterMap (·.2.1)=kept)
  (mO:∀e∈L,vm (qG Z ψ hh.get lf) ψ (cS hh lf).get w (dH L).get (fh ψ L) e):Good (qG Z ψ hh.get lf) (fh ψ L) (dH L).get w B0 O :=
 (iR g lf).rename hn (by rw[hs];exact(sD hk).1) mO
theorem zP{L:List yz}(hn:cm (L.map (·.1))=true):∀e∈L,(dH L).get e.1≠none→fh ψ L e.1=kb ψ e.2.1:=fun⟨i,s,o⟩ he _=>jg hn he
theorem m0(A B:List yz):dH (A++B)=dH A++dH B:=by simp[dH]
theorem zQ{hh:Heap}{i s i':Nat}{v:Value}(hr:aw Z ψ hh.get w (.ref i s 0 0) v)(hi:hh.get i≠none)(jx:h' i'≠none→ψ' i'=ψ i):aw Z' ψ' h' w' (.ref i' 0 0 0) v:=by
 simp only[aw]at hr ⊢
 obtain⟨a,rfl,ha⟩:=hr
 refine⟨a,rfl,fun hn=>?_⟩
 rw[jx hn,ha hi]
 simp
theorem pH{v:AV}{i:Nat}(h:DM v=some i):∃s,v=.ref i s 0 0:=by
 unfold DM at h
 split at h
 ·cases h;exact⟨_,rfl⟩
 ·cases h
theorem jD{hh:Heap}:∀(bs:List BK) (is:List Nat) (x:wI bs),de bs hh is=some x→is.length=bs.length∧∀i∈is,hh.get i≠none
 |[],[],_,_=>⟨rfl,fun i hi=>by cases hi⟩
 |[],_::_,_,h=>by cases h
 |_::_,[],_,h=>by cases h
 |b::r,i::is,x,h=>by
  obtain⟨h1,h3⟩:=fJ h
  obtain⟨h4,h5⟩:=jD r is x.2 h3
  refine⟨by simp[h4],fun j hj=>?_⟩
  rcases List.mem_cons.1 hj with rfl|hj
  ·cases b with
   |box ty c=>obtain⟨cs,h1,_⟩:=sw h1;rw[h1];simp
   |own ok=>rw[DW h1];simp
  ·exact h5 j hj
theorem kI{hh:Heap}:∀(bs:List BK) (is is':List Nat) (n:Nat) (x:wI bs),is.length=bs.length→∀p∈is.zip is',∃o,(p.2,some p.1,o)∈cI bs hh is is' n x
 |[],is,is',n,x,hl,p,hp=>by
  cases is with
  |nil=>simp at hp
  |cons a r=>simp at hl
 |b::r,[],is',n,x,hl,p,hp=>by simp at hp
 |b::r,i::is,[],n,x,hl,p,hp=>by simp at hp
 |b::r,i::is,i'::is',n,x,hl,p,hp=>by
  simp only[List.zip_cons_cons]at hp
  simp only[cI]
  rcases List.mem_cons.1 hp with rfl|hp
  ·cases b with
   |box ty c=>exact⟨_,List.mem_append_left _ (by simp only[dW];exact List.mem_cons_self)⟩
   |own ok=>exact⟨_,List.mem_append_left _ (by simp only[dW];exact List.mem_cons_self)⟩
  ·obtain⟨o,ho⟩:=kI r is is' (n+16) x.2 (by simpa using hl) p hp
   exact⟨o,List.mem_append_right _ ho⟩
theorem Lm{hd:Hp}{hh:Heap}{ok:OK}{c:AV}{xs:ok.T}(ho:eg hh ok c=some xs)(hk:∀s∈o5 c,hd s=hh.get s){n:Nat}:vm Z ψ hd w h' ψ' (n,(o5 c).head?,.own ok xs):=by
 rcases mf ho with⟨rfl,h3⟩|⟨id,rfl,h3⟩
 ·exact h3
 ·show hd id=some (.own ok xs)
  rw[hk id (by simp[o5]),h3]
end Go.Vs
namespace Go.Vs
variable {P:Program} {Z Z':Nat→Prop} {ψ ψ':Nat→Value} {h h':Hp} {w w':World} {B0:Nat} {O:Nat→Prop} {N:Nat→Prop}
def gG:Hp:=fun _=>none
def Jq:Nat→Value:=fun _=>undef
def DX(g:aL)(x:GF (lg g.ps)):List AV:=(aT g.ps [] 0 x).map (·.2)
def Zd(P:Program)(f:FuncId)(g:aL)(x:g.A)(y:g.B):Prop :=
 ∀(Z:Nat→Prop) (w:World) (kJ:List Value),(∀b,Z b→b<w.heap.size)→ar Z Jq gG w (DX g x.1) kJ →
  Calls P (f%1000) kJ.toArray w fun e w'=>∃v Z' ψ',e=.returned v∧(∀b,Z b→Z' b)∧(∀b,Z' b→Z b∨w.heap.size≤b)∧dh Jq gG w w' ∧
   Good Z' ψ' (an g.rs 3000 y.1).get w' w.heap.size (fun _=>False)∧aw Z' ψ' (an g.rs 3000 y.1).get w' (fC (aV g.rs [] 2000 3000 y.1)) v
theorem yC{p:PK}{ps:List PK}{vs:List AV}(hi:cO (p::ps) vs=some []):∃a r,vs=a::r∧cO ps r=some []∧(p≠.ref∧p≠.own)∧(∀f n,p=.GD f n→a=.fn f [])∧(∀n,p=.agg n→a=.agg []):=by
 cases vs with
 |nil=>cases p<;>simp[cO]at hi
 |cons a r =>
  cases p with
  |val k=>exact⟨a,r,rfl,by simpa only[cO] using hi,by simp,by simp,by simp⟩
  |ref =>
   simp only[cO]at hi
   split at hi<;>simp at hi
  |own =>
   cases a<;>simp only[cO]at hi<;>first|(cases hi;done)|skip
   split at hi<;>simp at hi
  |GD f n =>
   cases a<;>simp only[cO]at hi<;>first|(cases hi;done)|skip
   rename_i f' cap
   split at hi
   ·rename_i hc
    obtain⟨rfl,uM⟩:=hc
    split at hi
    ·rename_i a1 b1 h1 h2
     simp only[Option.some.injEq,List.append_eq_nil_iff]at hi
     obtain⟨rfl,rfl⟩:=hi
     have Ws:cap=[]:=by
      cases cap with
      |nil=>rfl
      |cons c cs=>simp only[jZ]at h1;split at h1<;>simp at h1
     subst Ws
     exact⟨_,r,rfl,h2,by simp,by rintro f n ⟨⟩;rfl,by simp⟩
    ·cases hi
   ·cases hi
  |agg n =>
   cases a<;>simp only[cO]at hi<;>first|(cases hi;done)|skip
   rename_i cs
   split at hi
   ·split at hi
    ·rename_i a1 b1 h1 h2
     simp only[Option.some.injEq,List.append_eq_nil_iff]at hi
     obtain⟨rfl,rfl⟩:=hi
     have MH:cs=[]:=by
      cases cs with
      |nil=>rfl
      |cons c cs=>cases c<;>simp only[o6]at h1<;>first|(cases h1;done)|(split at h1<;>simp at h1)
     subst MH
     exact⟨_,r,rfl,h2,by simp,by simp,fun _ _=>rfl⟩
    ·cases hi
   ·cases hi
theorem yD{k:K}{ps:List PK}{hh:Heap}{a:AV}{r:List AV}{x:k.T×GF (lg ps)}(hv:fa (.val k::ps) hh (a::r)=some x):gh k hh a=some x.1∧fa ps hh r=some x.2:=by
 have e:fa (.val k::ps) hh (a::r)=(match gh k hh a,fa ps hh r with
  |some x,some y=>some ((x,y):k.T×GF (lg ps))
  |_,_=>none):=rfl
 rw[e]at hv
 clear e
 generalize gh k hh a=o1 at hv ⊢
 generalize fa ps hh r=o2 at hv ⊢
 cases o1 with
 |none=>cases hv
 |some x1 =>
  cases o2 with
  |none=>cases hv
  |some y1 =>
   have:=Option.some.inj hv
   subst this
   exact⟨rfl,rfl⟩
theorem A6{hh:Heap}(g:Good Z ψ hh.get w B0 O)(hz:∀b,Z b→Z' b)(ps:List PK):∀(s:Nat) (vs:List AV) (us:List Value) (x:GF (lg ps)),(∀v∈vs,∀id b,AV.bO id∈v.cells→hh.get id≠none→ob (ψ id)=some b→Z' b) →
  cO ps vs=some []→fa ps hh vs=some x→ar Z ψ hh.get w vs us→ar Z' Jq gG w ((aT ps [] s x).map (·.2)) us:=by
 induction ps with
 |nil =>
  intro s vs us x _ hi hv hr
  cases vs with
  |nil=>simpa only[aT,List.map_nil,ar] using hr
  |cons a r=>simp[cO]at hi
 |cons p ps ih =>
  intro s vs us x hb hi hv hr
  obtain⟨a,r,rfl,tY,Ty,WD,WE⟩:=yC hi
  simp only[ar]at hr
  obtain⟨u,jv,rfl,h3,h4⟩:=hr
  cases p with
  |val k =>
   obtain⟨h1,h2⟩:=yD hv
   simp only[aT,List.map_cons,ar]
   exact⟨u,jv,rfl,so (Z':=Z') (ψ':=Jq) (h':=gG) g hz (hb a List.mem_cons_self) h1 h3,ih (s+1) r jv x.2 (fun v hv=>hb v (List.mem_cons_of_mem _ hv)) tY h2 h4⟩
  |ref=>exact absurd rfl Ty.1
  |own=>exact absurd rfl Ty.2
  |GD f n =>
   have ha:=WD f n rfl
   subst ha
   have h2:fa ps hh r=some x:=hv
   simp only[aT,List.map_cons,ar,List.take_nil,List.map_nil,List.drop_nil]
   simp only[aw,ar]at h3 ⊢
   exact⟨u,jv,rfl,h3,ih (s+1) r jv x (fun v hv=>hb v (List.mem_cons_of_mem _ hv)) tY h2 h4⟩
  |agg n =>
   have ha:=WE n rfl
   subst ha
   have h2:fa ps hh r=some x:=hv
   simp only[aT,List.map_cons,ar,List.take_nil,List.map_nil,List.drop_nil]
   simp only[aw,ar]at h3 ⊢
   exact⟨u,jv,rfl,h3,ih (s+1) r jv x (fun v hv=>hb v (List.mem_cons_of_mem _ hv)) tY h2 h4⟩
theorem Good.Ze(g:Good Z ψ h w B0 O)(k:dh Jq gG w w')(hz:∀b,Z b→Z' b)(AG:∀b,Z' b→Z b∨w.heap.size≤b)(ad9:∀b,Z' b→b<w'.heap.size)
  (hold:∀id,¬N id→h' id=h id∧ψ' id=ψ id)
  (bu:∀id ty cs,h id=some (.box ty cs)→aE (fun i=>¬N i) cs)
  (OO:∀id ty cs,N id→h' id=some (.box ty cs)→False)
  (oo:∀id ok xs,N id→h' id=some (.own ok xs)→jV Z' w' ok (ψ' id) xs)
  (AI:∀id b,N id→h' id≠none→ob (ψ' id)=some b→w.heap.size≤b∧¬Z' b)
  (JE:∀id mR b,N id→N mR→h' id≠none→h' mR≠none→ob (ψ' id)=some b→ob (ψ' mR)=some b→id=mR) (hB:B0≤w.heap.size) :
  Next Z ψ h w B0 O N Z' ψ' h' w':=by
 have cY:∀b,b<w.heap.size→w'.heap[b]? = w.heap[b]? := fun b hb=>k.block b hb (fun⟨id,h1,_⟩=>h1 rfl)
 have sm:cG Z w w':=fun b hb=>cY b (g.j5 b hb)
 have tc:∀id,h' id≠none→(h id≠none∧ψ' id=ψ id)∨N id:=fun id bT=>by
  by_cases hn:N id
  ·exact .inr hn
  ·obtain⟨e1,e2⟩:=hold id hn
   exact .inl ⟨by rwa [e1]at bT,e2⟩
 have yp:∀id b,¬N id→h' id≠none→ob (ψ' id)=some b→Own ψ h b:=fun id b hn h1 h2=>by
  obtain⟨e1,e2⟩:=hold id hn
  exact⟨id,by rwa [e1]at h1,by rwa [e2]at h2⟩
 have kk:dh ψ h w w':=⟨k.os,k.tape,k.output,k.size,fun b hb _=>cY b hb⟩
 refine⟨hz,fun b hb=>(AG b hb).imp (fun h=>h) .inr,kk,tc,⟨fun id ty cs hb=>?_,fun id ok xs hb=>?_,fun id b h1 h2=>?_,fun id mR b h1 h2 h3 h4=>?_,ad9⟩⟩
 ·by_cases hn:N id
  ·exact(OO id ty cs hn hb).elim
  ·obtain⟨e1,e2⟩:=hold id hn
   rw[e1]at hb
   obtain⟨gg,vs,h1,h2,h3,h4⟩:=g.box id ty cs hb
   exact⟨gg,vs,by rw[e2,h1],(cY gg (Array.getElem?_eq_some_iff.1 h2).1).trans h2,h3.move hz sm (fun i hp bT=>(tc i bT).resolve_right hp) (bu id ty cs hb),h4⟩
 ·by_cases hn:N id
  ·exact oo id ok xs hn hb
  ·obtain⟨e1,e2⟩:=hold id hn
   rw[e1]at hb
   rw[e2]
   exact(g.row id ok xs hb).kept hz sm (fun gg MD=>cY gg (g.bX ⟨id,by rw[hb];simp,MD⟩))
 ·by_cases hn:N id
  ·obtain⟨h3,h4⟩:=AI id b hn h1 h2
   exact⟨h4,.inl (by omega)⟩
  ·obtain⟨e1,e2⟩:=hold id hn
   rw[e1]at h1;rw[e2]at h2
   have h3:=g.live id b h1 h2
   refine⟨fun YZ=>?_,h3.2⟩
   rcases AG b YZ with h4|h4
   ·exact h3.1 h4
   ·have:=g.bX ⟨id,h1,h2⟩;omega
 ·by_cases hn:N id<;>by_cases JF:N mR
  ·exact JE id mR b hn JF h1 h2 h3 h4
  ·have:=(AI id b hn h1 h3).1
   have:=g.bX (yp mR b JF h2 h4);omega
  ·have:=(AI mR b JF h2 h4).1
   have:=g.bX (yp id b hn h1 h3);omega
  ·obtain⟨e1,e2⟩:=hold id hn
   obtain⟨e3,e4⟩:=hold mR JF
   rw[e1]at h1;rw[e2]at h3;rw[e3]at h2;rw[e4]at h4
   exact g.apart id mR b h1 h2 h3 h4
theorem bI{r:RK}{rs:List RK}(h:(r::rs).all RK.plain=true):rs.all RK.plain=true:=by simp only[List.all_cons,Bool.and_eq_true]at h;exact h.2
theorem MS{c:List CK}{rs:List RK}(h:(RK.agg c::rs).all RK.plain=true):c.length≤16:=by
 simp only[List.all_cons,Bool.and_eq_true,RK.plain,decide_eq_true_eq]at h;exact h.1
theorem mh:∀(c:List CK) (a:Nat) (x:qI c) (i:Nat),i<a→(aZ c a x).get i=none
 |[],_,_,_,_=>rfl
 |.val _::r,a,x,i,h=>by simp only[aZ];exact mh r (a+1) x.2 i (by omega)
 |.own ok::r,a,x,i,h=>by simp only[aZ,Heap.get];rw[if_neg (by omega)];exact mh r (a+1) x.2 i (by omega)
theorem uj:∀(c:List CK) (a:Nat) (x:qI c) (i:Nat),a+c.length≤i→(aZ c a x).get i=none
 |[],_,_,_,_=>rfl
 |.val _::r,a,x,i,h=>by simp only[List.length_cons]at h;simp only[aZ];exact uj r (a+1) x.2 i (by omega)
 |.own ok::r,a,x,i,h=>by simp only[List.length_cons]at h;simp only[aZ,Heap.get];rw[if_neg (by omega)];exact uj r (a+1) x.2 i (by omega)
theorem uk:∀(c:List CK) (a b:Nat) (x:qI c) (j:Nat),(aZ c a x).get (a+j)=(aZ c b x).get (b+j)
 |[],_,_,_,_=>rfl
 |.val _::r,a,b,x,0=>by simp only[aZ];rw[mh _ _ _ _ (by omega),mh _ _ _ _ (by omega)]
 |.own ok::r,a,b,x,0=>by simp[aZ,Heap.get]
 |.val _::r,a,b,x,j+1=>by
  simp only[aZ]
  rw[show a+(j+1)=a+1+j by omega,show b+(j+1)=b+1+j by omega]
  exact uk r (a+1) (b+1) x.2 j
 |.own ok::r,a,b,x,j+1=>by
  simp only[aZ,Heap.get]
  rw[if_neg (by omega),if_neg (by omega),show a+(j+1)=a+1+j by omega,show b+(j+1)=b+1+j by omega]
  exact uk r (a+1) (b+1) x.2 j
theorem nN:∀(c:List CK) (a:Nat) (x:qI c) (i:Nat) (ty:TypeId) (cs:List AV),(aZ c a x).get i≠some (.box ty cs)
 |[],_,_,_,_,_=>by simp[aZ,Heap.get]
 |.val _::r,a,x,i,ty,cs=>by simp only[aZ];exact nN r (a+1) x.2 i ty cs
 |.own ok::r,a,x,i,ty,cs=>by
  simp only[aZ,Heap.get]
  split
  ·simp
  ·exact nN r (a+1) x.2 i ty cs
theorem q6:∀(rs:List RK) (a:Nat) (y:lZ rs) (i:Nat),rs.all RK.plain=true→i<a→(an rs a y).get i=none
 |[],a,y,i,_,h=>rfl
 |.val k::r,a,y,i,hp,h=>by simp only[an];exact q6 r (a+1) y.2 i (bI hp) (by omega)
 |.own ok::r,a,y,i,hp,h=>by simp only[an,Heap.get];rw[if_neg (by omega)];exact q6 r (a+1) y.2 i (bI hp) (by omega)
 |.fg _ _::r,a,y,i,hp,h=>by simp only[an];exact q6 r (a+1) y.2 i (bI hp) (by omega)
 |.agg c::r,a,y,i,hp,h=>by
  have h1:(aZ c a y.1).get i=none:=mh c a y.1 i h
  have h2:=q6 r (a+1) y.2 i (bI hp) (by omega)
  show Heap.get (aZ c a y.1++an r (a+1) y.2) i=none
  rw[Heap.get_append,h1,h2]
theorem G9:∀(rs:List RK) (a:Nat) (y:lZ rs) (i:Nat),rs.all RK.plain=true→a+rs.length+16≤i→(an rs a y).get i=none
 |[],a,y,i,_,h=>rfl
 |.val k::r,a,y,i,hp,h=>by simp only[List.length_cons]at h;simp only[an];exact G9 r (a+1) y.2 i (bI hp) (by omega)
 |.own ok::r,a,y,i,hp,h=>by simp only[List.length_cons]at h;simp only[an,Heap.get];rw[if_neg (by omega)];exact G9 r (a+1) y.2 i (bI hp) (by omega)
 |.fg _ _::r,a,y,i,hp,h=>by simp only[List.length_cons]at h;simp only[an];exact G9 r (a+1) y.2 i (bI hp) (by omega)
 |.agg c::r,a,y,i,hp,h=>by
  simp only[List.length_cons]at h
  have hc:=MS hp
  have h1:(aZ c a y.1).get i=none:=uj c a y.1 i (by omega)
  have h2:=G9 r (a+1) y.2 i (bI hp) (by omega)
  show Heap.get (aZ c a y.1++an r (a+1) y.2) i=none
  rw[Heap.get_append,h1,h2]
theorem Hc:∀(rs:List RK) (a b:Nat) (y:lZ rs) (j:Nat),rs.all RK.plain=true→(an rs a y).get (a+j)=(an rs b y).get (b+j)
 |[],_,_,_,_,_=>rfl
 |.val k::r,a,b,y,0,hp=>by simp only[an];rw[q6 _ _ _ _ (bI hp) (by omega),q6 _ _ _ _ (bI hp) (by omega)]
 |.fg _ _::r,a,b,y,0,hp=>by simp only[an];rw[q6 _ _ _ _ (bI hp) (by omega),q6 _ _ _ _ (bI hp) (by omega)]
 |.own ok::r,a,b,y,0,hp=>by simp[an,Heap.get]
 |.val k::r,a,b,y,j+1,hp=>by
  simp only[an]
  rw[show a+(j+1)=a+1+j by omega,show b+(j+1)=b+1+j by omega]
  exact Hc r (a+1) (b+1) y.2 j (bI hp)
 |.fg _ _::r,a,b,y,j+1,hp=>by
  simp only[an]
  rw[show a+(j+1)=a+1+j by omega,show b+(j+1)=b+1+j by omega]
  exact Hc r (a+1) (b+1) y.2 j (bI hp)
 |.own ok::r,a,b,y,j+1,hp=>by
  simp only[an,Heap.get]
  rw[if_neg (by omega),if_neg (by omega),show a+(j+1)=a+1+j by omega,show b+(j+1)=b+1+j by omega]
  exact Hc r (a+1) (b+1) y.2 j (bI hp)
 |.agg c::r,a,b,y,j,hp=>by
  have h1:(aZ c a y.1).get (a+j)=(aZ c b y.1).get (b+j):=uk c a b y.1 j
  have h2:(an r (a+1) y.2).get (a+j)=(an r (b+1) y.2).get (b+j):=by
   cases j with
   |zero=>rw[q6 _ _ _ _ (bI hp) (by omega),q6 _ _ _ _ (bI hp) (by omega)]
   |succ j =>
    rw[show a+(j+1)=a+1+j by omega,show b+(j+1)=b+1+j by omega]
    exact Hc r (a+1) (b+1) y.2 j (bI hp)
  show Heap.get (aZ c a y.1++an r (a+1) y.2) (a+j)=Heap.get (aZ c b y.1++an r (b+1) y.2) (b+j)
  rw[Heap.get_append,Heap.get_append,h1,h2]
theorem vn:∀(rs:List RK) (a:Nat) (y:lZ rs) (i:Nat) (ty:TypeId) (cs:List AV),rs.all RK.plain=true→(an rs a y).get i≠some (.box ty cs)
 |[],_,_,_,_,_,_=>by simp[an,Heap.get]
 |.val k::r,a,y,i,ty,cs,hp=>by simp only[an];exact vn r (a+1) y.2 i ty cs (bI hp)
 |.fg _ _::r,a,y,i,ty,cs,hp=>by simp only[an];exact vn r (a+1) y.2 i ty cs (bI hp)
 |.own ok::r,a,y,i,ty,cs,hp=>by
  simp only[an,Heap.get]
  split
  ·simp
  ·exact vn r (a+1) y.2 i ty cs (bI hp)
 |.agg c::r,a,y,i,ty,cs,hp=>by
  have h1:(aZ c a y.1).get i≠some (.box ty cs):=nN c a y.1 i ty cs
  show Heap.get (aZ c a y.1++an r (a+1) y.2) i≠some (.box ty cs)
  rw[Heap.get_append]
  split
  ·rename_i o ho;rw[ho]at h1;exact h1
  ·exact vn r (a+1) y.2 i ty cs (bI hp)
theorem mi(p:Nat→Prop):∀(k:K) (x:k.T),aE p (enc k x)
 |.int _,_=>by simp only[enc,aE,aK];exact⟨trivial,trivial⟩
 |.bool,_=>by simp only[enc,aE,aK];exact⟨trivial,trivial⟩
 |.str,_=>by simp only[enc,aE,aK];exact⟨trivial,trivial⟩
 |.sl _,_=>by simp only[enc,aE,aK];exact⟨trivial,trivial⟩
 |.mp _ _,_=>by simp only[enc,aE,aK];exact⟨trivial,trivial⟩
 |.pair a b,x=>by
  simp only[enc]
  have h1:=mi p a x.1
  have h2:=mi p b x.2
  revert h1
  generalize enc a x.1=l
  induction l with
  |nil=>intro _;exact h2
  |cons c r ih=>intro h;simp only[List.cons_append,aE]at h ⊢;exact⟨h.1,ih h.2⟩
 |.one k,x=>by simp only[enc];exact mi p k x
theorem ot(p:Nat→Prop):∀(k:K) (x:k.T),aK p (cv k x)
 |.int _,_=>by simp only[cv,aK]
 |.bool,_=>by simp only[cv,aK]
 |.str,_=>by simp only[cv,aK]
 |.sl _,_=>by simp only[cv,aK]
 |.mp _ _,_=>by simp only[cv,aK]
 |.pair a b,x=>by simp only[cv,aK];exact mi p (.pair a b) x
 |.one k,x=>by simp only[cv,aK];exact mi p (.one k) x
theorem O8{k:K}{x:k.T}{v:Value}(hr:aw Z ψ h w (cv k x) v):aw Z ψ' h' w (cv k x) v :=
 hr.move (p:=fun _=>False) (fun _ h=>h) (cG.refl _ _) (fun _ hp _=>hp.elim) (ot _ k x)
theorem Tz(r:RK)(rs:List RK)(b:Nat)(y:lZ (r::rs))(i:Nat)(hi:(an rs (b+1) y.2).get i≠none):(an (r::rs) b y).get i≠none:=by
 cases r with
 |val k=>exact hi
 |fg _ _=>exact hi
 |own ok=>simp only[an,Heap.get];split<;>simp_all
 |agg c =>
  show Heap.get (aZ c b y.1++an rs (b+1) y.2) i≠none
  rw[Heap.get_append]
  split
  ·simp
  ·exact hi
theorem JV(c:List CK):∀{H:Hp} {a b:Nat} {x:qI c} {vs:List Value},(∀j,(aZ c b x).get (b+j)≠none→h' (b+j)≠none→H (a+j)≠none∧ψ' (b+j)=ψ (a+j)) →
  ar Z ψ H w (aD c a x) vs→ar Z ψ' h' w (aD c b x) vs:=by
 induction c with
 |nil=>intro H a b x vs _ hr;simpa only[aD,ar] using hr
 |cons k c ih =>
  intro H a b x vs hH hr
  cases k with
  |val k =>
   have sd:ar Z ψ H w (enc k x.1++aD c (a+1) x.2) vs:=hr
   obtain⟨us,ws,rfl,h1,h2⟩:=sd.split
   show ar Z ψ' h' w (enc k x.1++aD c (b+1) x.2) (us++ws)
   refine(h1.move (p:=fun _=>False) (fun _ h=>h) (cG.refl _ _) (fun _ hp _=>hp.elim) (mi _ k x.1)).append (ih (fun j hj bp=>?_) h2)
   have:=hH (j+1)
   rw[show b+(j+1)=b+1+j by omega,show a+(j+1)=a+1+j by omega]at this
   exact this hj bp
  |own ok =>
   have sd:ar Z ψ H w (.bO a::aD c (a+1) x.2) vs:=hr
   simp only[ar]at sd
   obtain⟨v,us,rfl,h1,h2⟩:=sd
   show ar Z ψ' h' w (.bO b::aD c (b+1) x.2) (v::us)
   simp only[ar]
   refine⟨v,us,rfl,?_,ih (fun j hj bp=>?_) h2⟩
   ·simp only[aw]at h1 ⊢
    refine⟨h1.1,fun bp=>?_⟩
    obtain⟨h3,h4⟩:=hH 0 (by simp[aZ,Heap.get]) bp
    rw[Nat.add_zero,Nat.add_zero]at h4
    rw[h4];exact h1.2 h3
   ·have:=hH (j+1)
    rw[show b+(j+1)=b+1+j by omega,show a+(j+1)=a+1+j by omega]at this
    refine this ?_ bp
    have e:(aZ (.own ok::c) b x).get (b+1+j)=(aZ c (b+1) x.2).get (b+1+j):=by simp only[aZ,Heap.get];rw[if_neg (by omega)]
    rw[e];exact hj
theorem O9(rs:List RK):∀{H:Hp} {n m a b:Nat} {y:lZ rs} {vs:List Value},rs.all RK.plain=true→(∀j,(an rs b y).get (b+j)≠none→h' (b+j)≠none→H (a+j)≠none∧ψ' (b+j)=ψ (a+j)) →
  ar Z ψ H w (aV rs [] n a y) vs→ar Z ψ' h' w (aV rs [] m b y) vs:=by
 induction rs with
 |nil=>intro H n m a b y vs _ _ hr;simpa only[aV,ar] using hr
 |cons r rs ih =>
  intro H n m a b y vs hp hH hr
  have hpa:=hp
  simp only[List.all_cons,Bool.and_eq_true]at hp
  have WG:∀j,(an rs (b+1) y.2).get (b+1+j)≠none→h' (b+1+j)≠none→H (a+1+j)≠none∧ψ' (b+1+j)=ψ (a+1+j):=fun j hj bp=>by
   have:=hH (j+1)
   rw[show b+(j+1)=b+1+j by omega,show a+(j+1)=a+1+j by omega]at this
   exact this (Tz _ _ _ _ _ hj) bp
  cases r with
  |val k =>
   simp only[aV,ar]at hr ⊢
   obtain⟨v,us,rfl,h1,h2⟩:=hr
   exact⟨v,us,rfl,O8 h1,ih hp.2 WG h2⟩
  |own ok =>
   simp only[aV,ar]at hr ⊢
   obtain⟨v,us,rfl,h1,h2⟩:=hr
   refine⟨v,us,rfl,?_,ih hp.2 WG h2⟩
   simp only[aw]at h1 ⊢
   refine⟨h1.1,fun bp=>?_⟩
   obtain⟨h3,h4⟩:=hH 0 (by simp[an,Heap.get]) bp
   rw[Nat.add_zero,Nat.add_zero]at h4
   rw[h4];exact h1.2 h3
  |fg b c=>simp[RK.plain]at hp
  |agg c =>
   simp only[aV,ar]at hr ⊢
   obtain⟨v,us,rfl,h1,h2⟩:=hr
   refine⟨v,us,rfl,?_,ih hp.2 WG h2⟩
   simp only[aw]at h1 ⊢
   obtain⟨ws,rfl,h3⟩:=h1
   refine⟨ws,rfl,JV c (fun j hj bp=>hH j ?_ bp) h3⟩
   show Heap.get (aZ c b y.1++an rs (b+1) y.2) (b+j)≠none
   rw[Heap.get_append]
   split
   ·simp
   ·rename_i yE;exact absurd yE hj
theorem um{Vi Vj:Nat→Value}{Zg Zh:Hp}{Zi Zj:Nat→Prop}{l l':List AV}{V:Value}(hl:l.length=l'.length)(hm:∀vs,ar Zi Vi Zg w l vs→ar Zj Vj Zh w l' vs)(hr:aw Zi Vi Zg w (fC l) V):aw Zj Vj Zh w (fC l') V:=by
 match l,l',hl with
 |[a],[a'],_ =>
  simp only[fC]at hr ⊢
  have:=hm [V] (by simp only[ar];exact⟨V,[],rfl,hr,rfl⟩)
  simp only[ar]at this
  obtain⟨v,us,e,h1,_⟩:=this
  cases e;exact h1
 |[],[],_ =>
  simp only[fC,aw]at hr ⊢
  obtain⟨us,rfl,h1⟩:=hr
  exact⟨us,rfl,hm _ h1⟩
 |a::b::r,a'::b'::r',_ =>
  simp only[fC,aw]at hr ⊢
  obtain⟨us,rfl,h1⟩:=hr
  exact⟨us,rfl,hm _ h1⟩
theorem kA(rs:List RK):∀(ids:List Nat) (n m:Nat) (y:lZ rs),(aV rs ids n m y).length=rs.length:=by
 induction rs with
 |nil=>intros;rfl
 |cons r rs ih=>intro ids n m y;cases r<;>simp[aV,ih]
theorem zR:∀(k:K) (x:k.T) (r:List AV),dec k (enc k x++r)=some (x,r)
 |.int _,x,r=>by simp only[enc,List.cons_append,List.nil_append,dec,EW,if_true];rfl
 |.bool,x,r=>by simp only[enc,List.cons_append,List.nil_append,dec,zJ];rfl
 |.str,x,r=>by simp only[enc,List.cons_append,List.nil_append,dec,EX];rfl
 |.sl k,x,r=>by simp only[enc,List.cons_append,List.nil_append,dec,Ld];rfl
 |.mp kk vk,x,r=>by simp only[enc,List.cons_append,List.nil_append,dec,Le];rfl
 |.pair a b,x,r=>by
  simp only[enc,dec,List.append_assoc]
  rw[zR a x.1 (enc b x.2++r)]
  simp only[]
  rw[zR b x.2 r]
  rfl
 |.one k,x,r=>by simp only[enc,dec];exact zR k x r
theorem uo(k:K)(x:k.T):ep k (enc k x)=some x:=by
 unfold ep
 have:=zR k x []
 rw[List.append_nil]at this
 rw[this]
theorem uq:∀(k:K) (x:k.T),(cv k x).cells=enc k x
 |.int _,_=>rfl
 |.bool,_=>rfl
 |.str,_=>rfl
 |.sl _,_=>rfl
 |.mp _ _,_=>rfl
 |.pair a b,x=>rfl
 |.one k,x=>rfl
theorem Ln:∀(k:K) (x:k.T),cv k x≠.no
 |.int _,_=>by simp[cv]
 |.bool,_=>by simp[cv]
 |.str,_=>by simp[cv]
 |.sl _,_=>by simp[cv]
 |.mp _ _,_=>by simp[cv]
 |.pair a b,x=>by simp[cv]
 |.one k,x=>by simp[cv]
theorem A7:∀(k:K) (x:k.T),(cv k x).isAgg=k.isAgg
 |.int _,_=>rfl
 |.bool,_=>rfl
 |.str,_=>rfl
 |.sl _,_=>rfl
 |.mp _ _,_=>rfl
 |.pair a b,x=>rfl
 |.one k,x=>rfl
theorem MT{k:K}{x:k.T}{v:Value}(hr:aw Z ψ h w (cv k x) v):aH Z w k x v.cells.toList:=by
 have h1:=hr.cells (Ln k x)
 rw[uq]at h1
 exact dL (uo k x) h1
theorem JW{k:K}{x:k.T}{v:Value}(hr:aw Z ψ h w (cv k x) v):(k.isAgg=true→∃vs,v=.agg vs)∧(k.isAgg=false→v.cells=#[v]) :=
 ⟨fun h=>O0 (by rw[A7];exact h) hr,fun h=>DT (by rw[A7];exact h) (Ln k x) hr⟩
theorem Pb(rs:List RK):∀{H:Hp} {n m a b:Nat} {y:lZ rs} {vs:List Value},rs.all RK.flat=true→rs.all RK.plain=true→ar Z ψ H w (aV rs [] n a y) vs→ar Z' ψ' h' w' (aV rs [] m b y) vs:=by
 induction rs with
 |nil=>intro H n m a b y vs _ _ hr;simpa only[aV,ar] using hr
 |cons r rs ih =>
  intro H n m a b y vs hf hp hr
  simp only[List.all_cons,Bool.and_eq_true]at hp hf
  cases r with
  |val k =>
   simp only[aV,ar]at hr ⊢
   obtain⟨v,us,rfl,h1,h2⟩:=hr
   have hk:k.flat=true:=hf.1
   obtain⟨h3,h4⟩:=JW h1
   exact⟨v,us,rfl,ma ((MT h1).flat hk) h3 h4,ih hf.2 hp.2 h2⟩
  |own ok=>simp[RK.flat]at hf
  |fg b c=>simp[RK.plain]at hp
  |agg c=>simp[RK.flat]at hf
theorem MU(rs:List RK):∀(a:Nat) (y:lZ rs),rs.all RK.flat=true→rs.all RK.plain=true→an rs a y=[]:=by
 induction rs with
 |nil=>intros;rfl
 |cons r rs ih =>
  intro a y hf hp
  simp only[List.all_cons,Bool.and_eq_true]at hp hf
  cases r with
  |val k=>simp only[an];exact ih _ _ hf.2 hp.2
  |own ok=>simp[RK.flat]at hf
  |fg b c=>simp[RK.plain]at hp
  |agg c=>simp[RK.flat]at hf
theorem vo:∀(ps:List PK) (vs:List AV),cO ps vs=some []→∀v∈vs,∀id,AV.bO id∈v.cells→AV.bO id∈du ps vs
 |[],vs,hi,v,hv,id,bT=>by
  cases vs with
  |nil=>cases hv
  |cons a r=>simp[cO]at hi
 |p::ps,vs,hi,v,hv,id,bT=>by
  obtain⟨a,r,rfl,tY,Ty,WD,WE⟩:=yC hi
  rcases List.mem_cons.1 hv with rfl|hv
  ·cases p with
   |val k=>simp only[du];exact List.mem_append_left _ bT
   |ref=>exact absurd rfl Ty.1
   |own=>exact absurd rfl Ty.2
   |GD f n=>rw[WD f n rfl]at bT;simp[AV.cells]at bT
   |agg n=>rw[WE n rfl]at bT;simp[AV.cells]at bT
  ·have:=vo ps r tY v hv id bT
   cases p with
   |val k=>simp only[du];exact List.mem_append_right _ this
   |ref=>exact absurd rfl Ty.1
   |own=>exact absurd rfl Ty.2
   |GD f n=>simpa only[du] using this
   |agg n=>simpa only[du] using this
theorem A8(f:FuncId)(vs:List AV):tV f vs%1000=f%1000:=by
 induction vs with
 |nil=>rfl
 |cons v r ih =>
  cases v with
  |fn g cap=>exact Nat.add_mul_mod_self_left f 1000 _
  |_=>simp only[tV];exact ih
theorem w4{Sg:FuncId→Option aL}(f:FuncId)(vs:List AV):keyOf Sg f vs%1000=f%1000:=by
 unfold keyOf
 split
 ·exact(Nat.add_mul_mod_self_right (tV f vs) 500 1000).trans (A8 f vs)
 ·exact A8 f vs
theorem Next.imp{N':Nat→Prop}(n:Next Z ψ h w B0 O N Z' ψ' h' w')(hi:∀i,N i→N' i):Next Z ψ h w B0 O N' Z' ψ' h' w' :=
 ⟨n.fX,n.eV,n.keep,fun id bT=>(n.ids id bT).imp (fun h=>h) (hi id),n.eL⟩
theorem w5{rs:List RK}{y:lZ rs}(hp:rs.all RK.plain=true){id nb:Nat}(g:Good Z ψ h w B0 O)(hB:B0≤w.heap.size)
  (bu:∀i ty cs,h i=some (.box ty cs)→aE (fun i=>¬N i) cs) (hN:∀j,j<rs.length+16→N (id+j))
  (k:dh Jq gG w w') (hz:∀b,Z b→Z' b) (AG:∀b,Z' b→Z b∨w.heap.size≤b) (gc:Good Z' ψ' (an rs 3000 y).get w' w.heap.size (fun _=>False))
  {v:Value} (hr:aw Z' ψ' (an rs 3000 y).get w' (fC (aV rs [] 2000 3000 y)) v) :
  ∃uu,Next Z ψ h w B0 O N Z' uu (fun i=>match (an rs id y).get i with|some o=>some o|none=>h i) w' ∧
   aw Z' uu (fun i=>match (an rs id y).get i with|some o=>some o|none=>h i) w' (fC (aV rs [] nb id y)) v:=by
 classical
 let H:Hp:=fun i=>match (an rs id y).get i with|some o=>some o|none=>h i
 let NN:Nat→Prop:=fun i=>(an rs id y).get i≠none
 let uu:Nat→Value:=fun i=>if NN i then ψ' (3000+(i-id)) else ψ i
 have hNN:∀i,NN i→∃j,j<rs.length+16∧i=id+j:=fun i hi=>by
  have h1:¬i<id:=fun aM=>hi (q6 rs id y i hp aM)
  have h2:¬id+rs.length+16≤i:=fun Vk=>hi (G9 rs id y i hp Vk)
  exact⟨i-id,by omega,by omega⟩
 have vp:∀i,NN i→(an rs 3000 y).get (3000+(i-id))=(an rs id y).get i:=fun i hi=>by
  obtain⟨j,_,rfl⟩:=hNN i hi
  rw[show id+j-id=j by omega]
  exact Hc rs 3000 id y j hp
 have hH:∀i,NN i→H i=(an rs 3000 y).get (3000+(i-id)):=fun i hi=>by
  rw[vp i hi]
  show(match (an rs id y).get i with|some o=>some o|none=>h i)=_
  cases e:(an rs id y).get i with
  |none=>exact absurd e hi
  |some o=>rfl
 have jx:∀i,NN i→uu i=ψ' (3000+(i-id)):=fun i hi=>if_pos hi
 have Zk:∀i,NN i→N i:=fun i hi=>by obtain⟨j,hj,rfl⟩:=hNN i hi;exact hN j hj
 have n:=Good.Ze (N:=NN) (ψ':=uu) (h':=H) g k hz AG gc.j5
  (fun i hi=>by
   have e:(an rs id y).get i=none:=Classical.not_not.1 hi
   refine⟨?_,if_neg hi⟩
   show(match (an rs id y).get i with|some o=>some o|none=>h i)=h i
   rw[e])
  (fun i ty cs hb=>(bu i ty cs hb).imp (fun i hi hni=>hi (Zk i hni)))
  (fun i ty cs hi hb=>by rw[hH i hi]at hb;exact vn _ _ _ _ _ _ hp hb)
  (fun i ok xs hi hb=>by rw[hH i hi]at hb;rw[jx i hi];exact gc.row _ _ _ hb)
  (fun i b hi h1 h2=>by
   rw[hH i hi]at h1;rw[jx i hi]at h2
   obtain⟨h3,h4⟩:=gc.live _ b h1 h2
   exact⟨h4.resolve_right (fun h=>h),h3⟩)
  (fun i i' b hi tY h1 h2 h3 h4=>by
   rw[hH i hi]at h1;rw[hH i' tY]at h2;rw[jx i hi]at h3;rw[jx i' tY]at h4
   have:=gc.apart _ _ b h1 h2 h3 h4
   obtain⟨j,_,rfl⟩:=hNN i hi
   obtain⟨j',_,rfl⟩:=hNN i' tY
   omega) hB
 refine⟨uu,n.imp Zk,?_⟩
 refine um (by rw[kA,kA]) (fun vs tZ=>?_) hr
 refine O9 (h':=H) (ψ':=uu) rs (n:=2000) (a:=3000) hp (fun j hn bp=>?_) tZ
 replace hn:NN (id+j):=hn
 have e1:=hH _ hn
 have e2:=jx _ hn
 rw[show id+j-id=j by omega]at e1 e2
 exact⟨by rw[←e1];exact bp,e2⟩
def jE(P:Program)(f:FuncId):Prop:=∃fn,P.funcs[f]? = some fn∧(fn.name== "runtime.NumGoroutine")=false∧fn.body.isSome=true
theorem jF{f:FuncId}(hc:jE P f)(args:Array Value):(callFunc f args).run P w=.ok (.enter f args) w:=by
 obtain⟨fn,h1,h2,h3⟩:=hc
 obtain⟨c,hc⟩:=Option.isSome_iff_exists.1 h3
 simp[callFunc,h1,hc,show ¬fn.name= "runtime.NumGoroutine" by simpa using h2]
def Vl(P:Program)(ρC:Operand→Value)(o:Oper)(Z:Nat→Prop)(ψ:Nat→Value)(h:Hp)(w:World)(B0:Nat)(O N:Nat→Prop)(e:bK):Prop :=
 ∃f args,(execOp ρC o).run P w=.ok (.enter f args) w∧Calls P f args w fun en w'=>∃V Z' ψ',en=.returned V∧Next Z ψ h w B0 O N Z' ψ' (e.hp h) w'∧aw Z' ψ' (e.hp h) w' e.v V
end Go.Vs
namespace Go.Vs
variable {P:Program} {Z Z':Nat→Prop} {ψ ψ':Nat→Value} {h h':Hp} {w w':World} {B0:Nat} {O:Nat→Prop} {N:Nat→Prop}
def cM:(rs:List RK)→List AV→Nat→lZ rs→List yz
 |[],_,_,_=>[]
 |.own ok::r,vs,m,x=>(m,(o5 (vs.headD .no)).head?,.own ok x.1)::cM r vs.tail (m+1) x.2
 |.val _::r,vs,m,x=>cM r vs.tail (m+1) x.2
 |.fg _ _::r,vs,m,x=>cM r vs.tail (m+1) x.2
 |.agg c::r,vs,m,x=>dN c m (vs.headD .no).cells x.1++cM r vs.tail (m+1) x.2
theorem gV:∀(rs:List RK) (vs:List AV) (m:Nat) (x:lZ rs),dH (cM rs vs m x)=an rs m x
 |[],_,_,_=>rfl
 |.own ok::r,vs,m,x=>by simp only[cM,an];rw[←gV r vs.tail (m+1) x.2];rfl
 |.val _::r,vs,m,x=>gV r vs.tail (m+1) x.2
 |.fg _ _::r,vs,m,x=>gV r vs.tail (m+1) x.2
 |.agg c::r,vs,m,x=>by
  have e1:dH (dN c m (vs.headD .no).cells x.1)=aZ c m x.1:=mZ c m _ x.1
  have e2:=gV r vs.tail (m+1) x.2
  simp only[cM,an]
  rw[m0,e2]
  exact congrArg (·++_) e1
theorem fS:∀(rs:List RK) (vs:List AV) (m:Nat) (x:lZ rs),(cM rs vs m x).map (·.1)=bD rs m
 |[],_,_,_=>rfl
 |.own ok::r,vs,m,x=>by simp only[cM,bD,List.map_cons];rw[fS r vs.tail (m+1) x.2]
 |.val _::r,vs,m,x=>fS r vs.tail (m+1) x.2
 |.fg _ _::r,vs,m,x=>fS r vs.tail (m+1) x.2
 |.agg c::r,vs,m,x=>by
  have e1:(dN c m (vs.headD .no).cells x.1).map (·.1)=cw c m:=lD c m _ x.1
  have e2:=fS r vs.tail (m+1) x.2
  simp only[cM,bD,List.map_append]
  rw[e2]
  exact congrArg (·++_) e1
theorem pI{bs:List BK}{k:K}{r:List RK}{hh:Heap}{ids:List Nat}{vs:List AV}{x:lZ (.val k::r)}(hd:bP bs (.val k::r) hh ids vs=some x):∃v iz,vs=v::iz∧gh k hh v=some x.1∧bP bs r hh ids iz=some x.2:=by
 cases vs with
 |nil=>cases hd
 |cons v vs =>
  have e:bP bs (.val k::r) hh ids (v::vs)=(match gh k hh v,bP bs r hh ids vs with
   |some x,some y=>some ((x,y):k.T×lZ r)
   |_,_=>none):=rfl
  rw[e]at hd
  clear e
  refine⟨v,vs,rfl,?_⟩
  generalize gh k hh v=o1 at hd ⊢
  generalize bP bs r hh ids vs=o2 at hd ⊢
  cases o1 with
  |none=>cases hd
  |some x1 =>
   cases o2 with
   |none=>cases hd
   |some y1=>have:=Option.some.inj hd;subst this;exact⟨rfl,rfl⟩
theorem pJ{bs:List BK}{ok:OK}{r:List RK}{hh:Heap}{ids:List Nat}{vs:List AV}{x:lZ (.own ok::r)}(hd:bP bs (.own ok::r) hh ids vs=some x):∃v iz,vs=v::iz∧eg hh ok v=some x.1∧bP bs r hh ids iz=some x.2:=by
 cases vs with
 |nil=>cases hd
 |cons v vs =>
  have e:bP bs (.own ok::r) hh ids (v::vs)=(match eg hh ok v,bP bs r hh ids vs with
   |some x,some y=>some ((x,y):ok.T×lZ r)
   |_,_=>none):=rfl
  rw[e]at hd
  clear e
  refine⟨v,vs,rfl,?_⟩
  generalize eg hh ok v=o1 at hd ⊢
  generalize bP bs r hh ids vs=o2 at hd ⊢
  cases o1 with
  |none=>cases hd
  |some x1 =>
   cases o2 with
   |none=>cases hd
   |some y1=>have:=Option.some.inj hd;subst this;exact⟨rfl,rfl⟩
theorem m6{bs:List BK}{b:Nat}{alts:List (Nat×Nat×Nat)}{r:List RK}{hh:Heap}{ids:List Nat}{vs:List AV}{x:lZ (.fg b alts::r)}(hd:bP bs (.fg b alts::r) hh ids vs=some x):∃v iz,vs=v::iz∧nE bs hh ids b alts v=some x.1∧bP bs r hh ids iz=some x.2:=by
 cases vs with
 |nil=>cases hd
 |cons v vs =>
  have e:bP bs (.fg b alts::r) hh ids (v::vs)=(match nE bs hh ids b alts v,bP bs r hh ids vs with
   |some x,some y=>some ((x,y):Option (Fin alts.length×Nat)×lZ r)
   |_,_=>none):=rfl
  rw[e]at hd
  clear e
  refine⟨v,vs,rfl,?_⟩
  generalize nE bs hh ids b alts v=o1 at hd ⊢
  generalize bP bs r hh ids vs=o2 at hd ⊢
  cases o1 with
  |none=>cases hd
  |some x1 =>
   cases o2 with
   |none=>cases hd
   |some y1=>have:=Option.some.inj hd;subst this;exact⟨rfl,rfl⟩
theorem pK{bs:List BK}{c:List CK}{r:List RK}{hh:Heap}{ids:List Nat}{vs:List AV}{x:lZ (.agg c::r)}(hd:bP bs (.agg c::r) hh ids vs=some x):∃cs iz,vs=.agg cs::iz∧cW c hh cs=some x.1∧bP bs r hh ids iz=some x.2:=by
 cases vs with
 |nil=>cases hd
 |cons v vs =>
  have e:bP bs (.agg c::r) hh ids (v::vs)=(match Ay c hh v,bP bs r hh ids vs with
   |some x,some y=>some ((x,y):qI c×lZ r)
   |_,_=>none):=rfl
  rw[e]at hd
  clear e
  have key:Ay c hh v=some x.1∧bP bs r hh ids vs=some x.2:=by
   generalize Ay c hh v=o1 at hd ⊢
   generalize bP bs r hh ids vs=o2 at hd ⊢
   cases o1 with
   |none=>cases hd
   |some x1 =>
    cases o2 with
    |none=>cases hd
    |some y1=>have:=Option.some.inj hd;subst this;exact⟨rfl,rfl⟩
  obtain⟨h1,h2⟩:=key
  unfold Ay at h1
  split at h1
  ·exact⟨_,vs,rfl,h1,h2⟩
  ·cases h1
theorem iA{bs:List BK}{hh:Heap}{ids:List Nat}:∀(rs:List RK) (vs:List AV) (x:lZ rs),bP bs rs hh ids vs=some x→vs.length=rs.length
 |[],[],_,_=>rfl
 |[],_::_,_,h=>by cases h
 |.val k::r,vs,x,h=>by obtain⟨v,iz,rfl,_,h2⟩:=pI h;simp[iA r iz x.2 h2]
 |.own ok::r,vs,x,h=>by obtain⟨v,iz,rfl,_,h2⟩:=pJ h;simp[iA r iz x.2 h2]
 |.fg _ _::r,vs,x,h=>by obtain⟨v,iz,rfl,_,h2⟩:=m6 h;simp[iA r iz x.2 h2]
 |.agg _::r,vs,x,h=>by obtain⟨v,iz,rfl,_,h2⟩:=pK h;simp[iA r iz x.2 h2]
theorem jh{bs:List BK}{hh:Heap}{ids:List Nat}:∀(rs:List RK) (vs:List AV) (m:Nat) (x:lZ rs),bP bs rs hh ids vs=some x→(cM rs vs m x).filterMap (·.2.1)=dV rs vs
 |[],vs,_,_,_=>by cases vs<;>rfl
 |.own ok::r,vs,m,x,h=>by
  obtain⟨v,iz,rfl,_,h2⟩:=pJ h
  simp only[cM,dV,List.headD_cons,List.tail_cons]
  rw[dZ,jh r iz (m+1) x.2 h2]
  simp only[]
  rw[wY]
 |.val k::r,vs,m,x,h=>by
  obtain⟨v,iz,rfl,_,h2⟩:=pI h
  simp only[cM,dV,List.tail_cons]
  exact jh r iz (m+1) x.2 h2
 |.fg _ _::r,vs,m,x,h=>by
  obtain⟨v,iz,rfl,_,h2⟩:=m6 h
  simp only[cM,dV,List.tail_cons]
  exact jh r iz (m+1) x.2 h2
 |.agg c::r,vs,m,x,h=>by
  obtain⟨cs,iz,rfl,h1,h2⟩:=pK h
  simp only[cM,dV,List.headD_cons,List.tail_cons,AV.cells]
  have e1:(dN c m cs x.1).filterMap (·.2.1)=fW c cs:=pC c m hh cs x.1 h1
  rw[List.filterMap_append,jh r iz (m+1) x.2 h2]
  exact congrArg (·++_) e1
theorem kd{hd:Hp}{bs:List BK}{hh:Heap}{ids:List Nat}:∀(rs:List RK) (vs:List AV) (m:Nat) (x:lZ rs),bP bs rs hh ids vs=some x→(∀s∈dV rs vs,hd s=hh.get s)→∀e∈cM rs vs m x,vm Z ψ hd w h' ψ' e
 |[],_,_,_,_,_,e,he=>by simp[cM]at he
 |.own ok::r,vs,m,x,h,hk,e,he=>by
  obtain⟨v,iz,rfl,h1,h2⟩:=pJ h
  simp only[cM,dV,List.headD_cons,List.tail_cons]at he hk
  rcases List.mem_cons.1 he with rfl|he
  ·exact Lm h1 fun s hs=>hk s (List.mem_append_left _ hs)
  ·exact kd r iz (m+1) x.2 h2 (fun s hs=>hk s (List.mem_append_right _ hs)) e he
 |.val k::r,vs,m,x,h,hk,e,he=>by
  obtain⟨v,iz,rfl,h1,h2⟩:=pI h
  exact kd r iz (m+1) x.2 h2 hk e he
 |.fg _ _::r,vs,m,x,h,hk,e,he=>by
  obtain⟨v,iz,rfl,h1,h2⟩:=m6 h
  exact kd r iz (m+1) x.2 h2 hk e he
 |.agg c::r,vs,m,x,h,hk,e,he=>by
  obtain⟨cs,iz,rfl,h1,h2⟩:=pK h
  simp only[cM,dV,List.headD_cons,List.tail_cons,AV.cells]at he hk
  rcases List.mem_append.1 he with he|he
  ·exact sB c m cs x.1 h1 (fun s hs=>hk s (List.mem_append_left _ hs)) e he
  ·exact kd r iz (m+1) x.2 h2 (fun s hs=>hk s (List.mem_append_right _ hs)) e he
theorem w6{hh:Heap}{id:Nat}:∀(dw:List CK) (c n:Nat) (cs:List AV) (x:qI dw),cW dw hh cs=some x→gk dw c=true→cs[mU dw c]? = some (.bO id)→hh.get id≠none∧∃o,(n+c,some id,o)∈dN dw n cs x
 |[],c,n,cs,x,_,h,_=>by simp[gk]at h
 |.val k::r,0,n,cs,x,_,h,_=>by simp[gk]at h
 |.val k::r,c+1,n,cs,x,hd,h,hc=>by
  obtain⟨_,h2⟩:=pz hd
  obtain⟨h3,o,h4⟩:=w6 r c (n+1) (cs.drop k.sz) x.2 h2 (by simpa[gk] using h) (by rw[List.getElem?_drop];simpa[mU] using hc)
  exact⟨h3,o,by rw[show n+(c+1)=n+1+c by omega];exact h4⟩
 |.own ok::r,0,n,cs,x,hd,h,hc=>by
  obtain⟨c0,cs',rfl,h1,h2⟩:=me hd
  simp only[mU,List.getElem?_cons_zero,Option.some.injEq]at hc
  subst hc
  rcases mf h1 with⟨h3,_⟩|⟨mR,h3,h4⟩
  ·cases h3
  ·cases h3
   exact⟨by rw[h4];simp,_,by simp only[dN,List.headD_cons,o5,List.head?_cons];exact List.mem_cons_self⟩
 |.own ok::r,c+1,n,cs,x,hd,h,hc=>by
  obtain⟨c0,cs',rfl,h1,h2⟩:=me hd
  obtain⟨h3,o,h4⟩:=w6 r c (n+1) cs' x.2 h2 (by simpa[gk] using h) (by simp only[mU]at hc;rw[Nat.add_comm]at hc;simpa using hc)
  exact⟨h3,o,by rw[show n+(c+1)=n+1+c by omega];simp only[dN,List.tail_cons];exact List.mem_cons_of_mem _ h4⟩
theorem A9{hh:Heap}{id c:Nat}:∀(bs:List BK) (b n:Nat) (is is':List Nat) (x:wI bs) (bk:BK) (bi:Nat) (ty:TypeId) (cs:List AV),de bs hh is=some x→is'.length=bs.length→bs[b]? = some bk→is[b]? = some bi→hh.get bi=some (.box ty cs) →
  gk bk.dw c=true→cs[mU bk.dw c]? = some (.bO id)→hh.get id≠none∧∃o,(n+16*b+c,some id,o)∈cI bs hh is is' n x
 |[],b,n,is,is',x,bk,bi,ty,cs,_,_,h,_,_,_,_=>by simp at h
 |b0::r,b,n,[],is',x,bk,bi,ty,cs,hd,_,_,_,_,_,_=>by cases hd
 |b0::r,b,n,i::is,[],x,bk,bi,ty,cs,_,hl,_,_,_,_,_=>by simp at hl
 |b0::r,0,n,i::is,i'::is',x,bk,bi,ty,cs,hd,hl,h1,h2,h3,h4,h5=>by
  obtain⟨g0,g3⟩:=fJ hd
  simp only[List.getElem?_cons_zero,Option.some.injEq]at h1 h2
  subst h1;subst h2
  cases b0 with
  |own ok=>simp[BK.dw,gk]at h4
  |box ty0 c0 =>
   obtain⟨cs',g1,g2⟩:=sw g0
   rw[g1]at h3
   cases h3
   obtain⟨h6,o,h7⟩:=w6 c0 c n cs x.1 g2 h4 h5
   refine⟨h6,o,?_⟩
   simp only[cI,dW]
   rw[pG g1]
   exact List.mem_append_left _ (List.mem_cons_of_mem _ (by simpa using h7))
 |b0::r,b+1,n,i::is,i'::is',x,bk,bi,ty,cs,hd,hl,h1,h2,h3,h4,h5=>by
  obtain⟨_,g3⟩:=fJ hd
  obtain⟨h6,o,h7⟩:=A9 r b (n+16) is is' x.2 bk bi ty cs g3 (by simpa using hl) (by simpa using h1) (by simpa using h2) h3 h4 h5
  refine⟨h6,o,?_⟩
  rw[show n+16*(b+1)+c=n+16+16*b+c by omega]
  simp only[cI]
  exact List.mem_append_right _ h7
theorem Ba{c:List CK}{cs:List AV}{id s off:Nat}{a:Nat×Nat×Nat}(h:yl c cs id s off a=true):cs[mU c a.1]? = some (.bO id)∧s=a.2.1∧off=a.2.2∧gk c a.1=true:=by
 simp only[yl,Bool.and_eq_true,decide_eq_true_eq]at h
 obtain⟨h1,h2,h3,h4⟩:=h
 refine⟨?_,h2,h3,h4⟩
 unfold OI at h1
 split at h1
 ·rename_i e;rw[e];simp only[beq_iff_eq]at h1;rw[h1]
 ·cases h1
theorem MV{bs:List BK}{hh:Heap}{ids:List Nat}{b:Nat}{alts:List (Nat×Nat×Nat)}{v:AV}{x:Option (Fin alts.length×Nat)}(hd:nE bs hh ids b alts v=some x):(v=.lY∧x=none) ∨
  ∃id i a bi bk ty cs,v=.ref id (alts.get a).2.1 i (alts.get a).2.2∧x=some (a,i)∧ids[b]? = some bi∧bs[b]? = some bk∧hh.get bi=some (.box ty cs)∧cs[mU bk.dw (alts.get a).1]? = some (.bO id)∧gk bk.dw (alts.get a).1=true:=by
 unfold nE at hd
 split at hd
 ·cases hd;exact .inl ⟨rfl,rfl⟩
 ·rename_i id s i off
  split at hd
  ·rename_i bi bk h1 h2
   split at hd
   ·rename_i ty cs h3
    split at hd
    ·rename_i a h4
     cases hd
     have h4':yl bk.dw cs id s off (alts.get a)=true:=by simpa using List.find?_some (p:=fun a=>yl bk.dw cs id s off (alts.get a)) h4
     obtain⟨h5,rfl,rfl,h6⟩:=Ba h4'
     exact .inr ⟨id,i,a,bi,bk,ty,cs,rfl,rfl,h1,h2,h3,h5,h6⟩
    ·cases hd
   ·cases hd
  ·cases hd
 ·cases hd
theorem sE{bs:List BK}{hh:Heap}{ids is' ids2:List Nat}{nb:Nat}{yb:wI bs}(g:Good Z ψ hh.get w B0 O)(hz:∀b,Z b→Z' b)(hb:de bs hh ids=some yb)(hl:is'.length=bs.length)
  (Pc:∀e∈cI bs hh ids is' nb yb,h' e.1≠none→ψ' e.1=kb ψ e.2.1):∀(rs:List RK) (vs:List AV) (m:Nat) (x:lZ rs) (us:List Value),bP bs rs hh ids vs=some x →
  (∀id b,AV.bO id∈gy rs vs→hh.get id≠none→ob (ψ id)=some b→Z' b)→(∀e∈cM rs vs m x,h' e.1≠none→ψ' e.1=kb ψ e.2.1)→ar Z ψ hh.get w vs us→ar Z' ψ' h' w (aV rs ids2 nb m x) us
 |[],vs,m,x,us,hd,_,_,hr=>by
  have:=iA [] vs x hd
  have hv:vs=[]:=List.eq_nil_of_length_eq_zero this
  subst hv
  simpa only[aV,ar] using hr
 |.val k::r,vs,m,x,us,hd,hf,jx,hr=>by
  obtain⟨v,iz,rfl,h1,h2⟩:=pI hd
  simp only[ar]at hr
  obtain⟨u,jv,rfl,h3,h4⟩:=hr
  simp only[aV,ar]
  simp only[gy]at hf
  exact⟨u,jv,rfl,so g hz (fun id b bT=>hf id b (List.mem_append_left _ bT)) h1 h3,sE g hz hb hl Pc r iz (m+1) x.2 jv h2 (fun id b bT=>hf id b (List.mem_append_right _ bT)) jx h4⟩
 |.own ok::r,vs,m,x,us,hd,hf,jx,hr=>by
  obtain⟨v,iz,rfl,h1,h2⟩:=pJ hd
  simp only[ar]at hr
  obtain⟨u,jv,rfl,h3,h4⟩:=hr
  simp only[aV,ar]
  simp only[cM,List.headD_cons,List.tail_cons]at jx
  exact⟨u,jv,rfl,Fc h1 h3 (fun hn=>jx _ List.mem_cons_self hn),sE g hz hb hl Pc r iz (m+1) x.2 jv h2 hf (fun e he=>jx e (List.mem_cons_of_mem _ he)) h4⟩
 |.fg b alts::r,vs,m,x,us,hd,hf,jx,hr=>by
  obtain⟨v,iz,rfl,h1,h2⟩:=m6 hd
  simp only[ar]at hr
  obtain⟨u,jv,rfl,h3,h4⟩:=hr
  simp only[aV,ar]
  refine⟨u,jv,rfl,?_,sE g hz hb hl Pc r iz (m+1) x.2 jv h2 hf jx h4⟩
  rcases MV h1 with⟨rfl,h5⟩|⟨id,i,al,bi,bk,ty,cs,rfl,h5,h6,h7,h8,h9,mN⟩
  ·have:x.1=none:=h5
   rw[this]
   simpa only[uR,aw] using h3
  ·have:x.1=some (al,i):=h5
   rw[this]
   obtain⟨zm,o,Jo⟩:=A9 bs b nb ids is' yb bk bi ty cs hb hl h7 h6 h8 mN h9
   simp only[uR,aw]at h3 ⊢
   obtain⟨ad,SU,Vm⟩:=h3
   refine⟨ad,SU,fun hn=>?_⟩
   rw[Pc _ Jo hn,Vm zm];rfl
 |.agg c::r,vs,m,x,us,hd,hf,jx,hr=>by
  obtain⟨cs,iz,rfl,h1,h2⟩:=pK hd
  simp only[ar]at hr
  obtain⟨u,jv,rfl,h3,h4⟩:=hr
  simp only[aV,ar]
  simp only[gy,AV.cells]at hf
  simp only[cM,List.headD_cons,List.tail_cons,AV.cells]at jx
  refine⟨u,jv,rfl,?_,sE g hz hb hl Pc r iz (m+1) x.2 jv h2 (fun id b bT=>hf id b (List.mem_append_right _ bT)) (fun e he=>jx e (List.mem_append_right _ he)) h4⟩
  simp only[aw]at h3 ⊢
  obtain⟨ws,rfl,h5⟩:=h3
  exact⟨ws,rfl,su g hz c m cs x.1 _ h1 (fun id b bT=>hf id b (List.mem_append_left _ bT)) (fun e he=>jx e (List.mem_append_left _ he)) h5⟩
end Go.Vs
