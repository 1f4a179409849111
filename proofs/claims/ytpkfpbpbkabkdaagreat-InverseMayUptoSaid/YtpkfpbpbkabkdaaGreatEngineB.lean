/- The value semantics is sound, operation by operation. -/
import Derived.Test.YtpkfpbpbkabkdaaGreatEngineA
import Derived.Laws.StructEq
import Derived.Laws.Slices
import Derived.Laws.Strings
import Derived.MapKept
namespace Go.Vs
variable {P:Program} {Z Z':Nat→Prop} {ψ ψ':Nat→Value} {h h':Hp} {w w':World} {B0:Nat} {O:Nat→Prop} {N:Nat→Prop}
def bI.hp(h:Hp):bI→Hp
 |.val _=>h
 |.new _ os=>fun i=>match Heap.get os i with
  |some o=>some o
  |none=>h i
 |.wr _ h'=>h'.get
theorem iz(id:Nat)(o:Ob)(h:Hp):(fun i=>match Heap.get [(id,o)] i with|some o=>some o|none=>h i)=ed h id (some o):=by
 funext i
 simp only[Heap.get,ed]
 by_cases e:i=id
 ·subst e;simp
 ·rw[if_neg (fun x=>e x.symm),if_neg e]
theorem mK(hh:Heap)(id:Nat)(o:Ob):(hh.set id o).get=ed hh.get id (some o):=by
 funext i
 by_cases e:i=id
 ·subst e;rw[Heap.EF,bw]
 ·rw[Heap.Ji e,de _ _ e]
theorem uO(hh:Heap)(id:Nat):(hh.del id).get=ed hh.get id none:=by
 funext i
 by_cases e:i=id
 ·subst e;rw[Heap.gH,bw]
 ·rw[Heap.iv e,de _ _ e]
theorem Ar(hh:Heap)(id:Nat)(o:Ob):Heap.get ((id,o)::hh)=ed hh.get id (some o):=by
 funext i
 simp only[Heap.get,ed]
 by_cases e:i=id
 ·subst e;simp
 ·rw[if_neg (fun x=>e x.symm),if_neg e]
def gZ(P:Program)(ρC:Operand→Value)(o:Oper)(Z:Nat→Prop)(ψ:Nat→Value)(h:Hp)(w:World)(B0:Nat)(O N:Nat→Prop)(e:bI):Prop :=
 ∃V w' Z' ψ',((execOp ρC o).run P w=.ok (.value V) w'∨((execOp ρC o).run P w=.ok .skip w'∧V=undef))∧Next Z ψ h w B0 O N Z' ψ' (e.hp h) w'∧aw Z' ψ' (e.hp h) w' e.v V
theorem gZ.val{ρC:Operand→Value}{o:Oper}{x:AV}(g:Good Z ψ h w B0 O){V:Value}(hr:(execOp ρC o).run P w=.ok (.value V) w)(hx:aw Z ψ h w x V):gZ P ρC o Z ψ h w B0 O N (.val x) :=
 ⟨V,w,Z,ψ,.inl hr,Next.refl g,hx⟩
theorem OY{ty:TypeId}{k:K}{xs:List k.T}{id n:Nat}{x:k.T}(g:Good Z ψ h w B0 O)(hg:h id=some (.own (.row ty k) xs))(hx:xs[n]? = some x) :
  ∃gg us,TE (ψ id)=gg∧aI Z w k x us∧∀(j:Nat) u,us[j]? = some u→w.cell? ⟨gg,n*k.sz+j,none⟩=some u:=by
 obtain⟨vs,ho,hv⟩:=g.row id (.row ty k) xs hg
 have hn:n<xs.length:=(List.getElem?_eq_some_iff.1 hx).1
 obtain⟨hl,e⟩:=ho
 rcases e with⟨h0,_⟩|⟨gg,cap,cur,e1,_,e3,_,_,_,e7⟩
 ·omega
 ·refine⟨gg,_,by rw[e1];rfl,hv n x hx,fun j u hu=>?_⟩
  rw[List.getElem?_take]at hu
  split at hu
  ·rw[List.getElem?_drop,←e7,List.getElem?_take]at hu
   split at hu
   ·simp only[World.cell?,e3];simpa using hu
   ·cases hu
  ·cases hu
theorem tM{hh:Heap}(g:Good Z ψ h w B0 O)(bB:∀id o,hh.get id=some o→h id=some o){t:TypeId}{a:AV}{v:Value}{e:bI}(hv:aw Z ψ h w a v)(he:lK P hh t a some=some e) :
  ∃x V,e=.val x∧(Instr.loadAt t v).run P w=.ok V w∧aw Z ψ h w x V:=by
 unfold lK at he
 split at he
 ·rename_i id s i off
  simp only[aw]at hv
  obtain⟨a,rfl,ha⟩:=hv
  split at he
  ·rename_i ty cs hg
   have As:=bB _ _ hg
   have Gl:=ha (by rw[As];simp)
   obtain⟨gg,vs,e1,e2,e3,e4⟩:=g.box id ty cs As
   split at he
   ·rename_i hi
    subst hi
    split at he
    ·rename_i x hx
     cases he
     rw[e1]at Gl
     simp only[TE,Nat.zero_mul,Nat.zero_add]at Gl
     subst Gl
     obtain⟨V,h1,h2⟩:=jQ (a:=⟨gg,off,none⟩) (e3.drop off) (fun j u hu=>by
      rw[ck];simp only[World.cell?,e2];rw[List.getElem?_drop]at hu;simpa using hu) hx
     exact⟨x,V,rfl,h1,h2⟩
    ·cases he
   ·cases he
  ·rename_i ty kk xs hg
   have As:=bB _ _ hg
   have Gl:=ha (by rw[As];simp)
   split at he
   ·rename_i hs
    subst hs
    obtain⟨x,hx,he⟩:=Option.bind_eq_some_iff.1 he
    split at he
    ·rename_i y hy
     cases he
     obtain⟨gg,us,h1,h2,h3⟩:=OY g As hx
     rw[h1]at Gl;subst Gl
     obtain⟨V,h4,h5⟩:=jQ (a:=⟨gg,i*kk.sz+off,none⟩) ((ij (ψ:=ψ) (h:=h) h2).drop off) (fun j u hu=>by
      rw[ck,Nat.add_assoc];exact h3 _ _ (by rw[List.getElem?_drop]at hu;exact hu)) hy
     exact⟨y,V,rfl,h4,h5⟩
    ·cases he
   ·cases he
  ·cases he
 ·rename_i kk x off
  split at he
  ·rename_i y hy
   cases he
   simp only[aw]at hv
   obtain⟨a,us,rfl,_,h2,h3⟩:=hv
   obtain⟨V,h4,h5⟩:=jQ ((ij (ψ:=ψ) (h:=h) h2).drop off) (fun j u hu=>h3 j u (by rw[List.getElem?_drop]at hu;exact hu)) hy
   exact⟨y,V,rfl,h4,h5⟩
  ·cases he
 ·cases he
theorem nC{t e:TypeId}(he:xL P t=some e):P.underlying t=some (.slice e):=by
 unfold xL at he
 split at he
 ·cases he;assumption
 ·cases he
theorem nD{t e:TypeId}(ht:P.underlying t=some (.slice e)){i:TypeInfo}(hi:P.info? e=some i)(a:Addr)(n c:Nat)(k:IntKind)(j:Int)(h0:0≤j)(h1:j<n) :
  (Instr.indexAt t (.slice (some a) n c) (.int k j)).run P w=.ok (.pointer (some (a.add (j.toNat*P.cellsOf e)))) w:=by
 simp[Instr.indexAt,asIntOf,run_underlying ht,h0,h1,dB hi]
theorem Mv{α:Type}{xs:List α}{i:Int}{x:α}(hx:ba xs i=some x):0≤i∧i<xs.length∧xs[i.toNat]? = some x:=by
 unfold ba at hx
 split at hx
 ·rename_i h0
  have:=(List.getElem?_eq_some_iff.1 hx).1
  exact⟨h0,by omega,hx⟩
 ·cases hx
theorem qe{hh:Heap}(g:Good Z ψ h w B0 O)(bB:∀id o,hh.get id=some o→h id=some o){t:TypeId}{x i:AV}{v u:Value}{e:bI}(hv:aw Z ψ h w x v)(hu:aw Z ψ h w i u)(he:dA P hh t x i some=some e) :
  ∃y V,e=.val y∧(Instr.indexAt t v u).run P w=.ok V w∧aw Z ψ h w y V:=by
 unfold dA at he
 split at he
 ·cases he
 ·rename_i et het
  have ht:=nC het
  ·skip
   split at he
   ·rename_i ex KW xs ik n
    simp only[aw]at hv hu
    subst hu
    split at he
    ·rename_i hs
     obtain⟨y,hy,he⟩:=Option.bind_eq_some_iff.1 he
     cases he
     obtain⟨h0,h1,h2⟩:=Mv hy
     obtain⟨hk,_⟩:=hv
     simp only[aI]at hk
     obtain⟨v',Au,A,c,rfl,_,_,I2⟩:=hk
     cases Au
     obtain⟨a,us,rfl,hz,hr,hc⟩:=I2 _ _ h2
     have hi:∃i,P.info? et=some i:=by
      cases hi:P.info? et with
      |some i=>exact⟨i,rfl⟩
      |none=>exfalso;have:=KW.iu;simp[Program.cellsOf,hi]at hs;omega
     obtain⟨inf,hi⟩:=hi
     refine⟨_,_,rfl,nD ht hi a xs.length c ik n h0 h1,?_⟩
     simp only[aw]
     refine⟨_,us,rfl,by rw[cy];exact hz,hr,fun j u hu=>?_⟩
     rw[uI,hs];exact hc j u (by simpa using hu)
    ·cases he
   ·rename_i id ik n
    split at he
    ·rename_i ty KW xs hg
     have As:=bB _ _ hg
     split at he
     ·rename_i hs
      cases Aq:(decide (0≤n)&&decide (n<(xs.length:Int))) with
      |false=>rw[Aq]at he;cases he
      |true =>
       rw[Aq]at he
       cases he
       simp only[Bool.and_eq_true,decide_eq_true_eq]at Aq
       simp only[aw]at hv hu
       subst hu
       have hvv:=hv.2 (by rw[As];simp)
       obtain⟨vs,⟨_,e⟩,_⟩:=g.row id (.row ty KW) xs As
       rcases e with⟨h0,_⟩|⟨gg,cap,cur,e1,_,e3,_⟩
       ·omega
       ·have hi:∃i,P.info? et=some i:=by
         cases hi:P.info? et with
         |some i=>exact⟨i,rfl⟩
         |none=>exfalso;have:=KW.iu;simp[Program.cellsOf,hi]at hs;omega
        obtain⟨inf,hi⟩:=hi
        rw[hvv,e1]
        refine⟨_,_,rfl,nD ht hi _ xs.length cap ik n Aq.1 Aq.2,?_⟩
        simp only[aw]
        refine⟨_,rfl,fun _=>?_⟩
        rw[e1,hs,ck];simp[TE]
     ·cases he
    ·cases he
   ·cases he
theorem sX{t:TypeId}(h:P.cellsOf t≠0):∃i,P.info? t=some i:=by
 cases hi:P.info? t with
 |some i=>exact⟨i,rfl⟩
 |none=>exact absurd (by simp[Program.cellsOf,hi]) h
theorem sY{t:TypeId}{f n:Nat}{ft:TypeId}(hf:gW P t f=some (n,ft))(hc:P.cellsOf ft≠0)(a:Addr) :
  (Instr.fieldAt t (.pointer (some a)) f).run P w=.ok (.pointer (some (a.add n))) w:=by
 unfold gW at hf
 split at hf
 ·rename_i fs ht
  obtain⟨fd,hfd,he⟩:=Option.map_eq_some_iff.1 hf
  cases he
  obtain⟨i,hi⟩:=sX hc
  have hs:=dB (P:=P) (w:=w) hi
  simp only[Instr.fieldAt,Sem.run_bind,run_underlying ht,Result.andThen_ok,hfd,Instr.sureAddr,Sem.run_pure,fieldPlace,hs]
  rw[if_neg hc]
  rfl
 ·cases hf
theorem sZ{t:TypeId}{f n:Nat}{ft:TypeId}(hf:gW P t f=some (n,ft))(hc:P.cellsOf ft≠0){id s i off:Nat}{v:Value}(hv:aw Z ψ h w (.ref id s i off) v) :
  ∃V,(Instr.fieldAt t v f).run P w=.ok V w∧aw Z ψ h w (.ref id s i (off+n)) V:=by
 simp only[aw]at hv ⊢
 obtain⟨a,rfl,ha⟩:=hv
 refine⟨_,sY hf hc a,_,rfl,fun bO=>?_⟩
 rw[ha bO,ck,Nat.add_assoc]
theorem uP{t:TypeId}{f n:Nat}{ft:TypeId}(hf:gW P t f=some (n,ft))(hc:P.cellsOf ft≠0){k:K}{x:k.T}{off:Nat}{v:Value}(hv:aw Z ψ h w (.fp k x off) v) :
  ∃V,(Instr.fieldAt t v f).run P w=.ok V w∧aw Z ψ h w (.fp k x (off+n)) V:=by
 simp only[aw]at hv ⊢
 obtain⟨a,us,rfl,hz,hr,Dq⟩:=hv
 refine⟨_,sY hf hc a,_,us,rfl,by rw[cy];exact hz,hr,fun j u hu=>?_⟩
 rw[uI]
 exact Dq (n+j) u (by rw[←Nat.add_assoc];exact hu)
theorem Gx{t ft:TypeId}{f n:Nat}(hf:gW P t f=some (n,ft)){cs:List AV}{x:AV}{v:Value}(hv:aw Z ψ h w (.agg cs) v)(hx:dY P ft (cs.drop n)=some x) :
  ∃V,(Instr.field t v f).run P w=.ok V w∧aw Z ψ h w x V:=by
 simp only[aw]at hv
 obtain⟨vs,rfl,hl⟩:=hv
 have hd:=hl.drop n
 have hlen:=hd.length
 unfold gW at hf
 split at hf
 ·rename_i fs ht
  obtain⟨fd,hfd,he⟩:=Option.map_eq_some_iff.1 hf
  cases he
  unfold dY at hx
  split at hx
  ·rename_i hb
   split at hx
   ·rename_i hle
    cases hx
    obtain⟨i,hi⟩:=xS hb
    refine⟨.agg (vs.extract fd.offset (fd.offset+P.cellsOf fd.type)),?_,?_⟩
    ·simp[Instr.field,run_underlying ht,hfd,asAgg,part,gi hb,dB hi]
    ·simp only[aw]
     refine⟨_,rfl,?_⟩
     rw[Array.toList_extract,List.extract_eq_take_drop,Nat.add_sub_cancel_left]
     exact hd.take _
   ·cases hx
  ·rename_i hb
   split at hx
   ·rename_i c r hcr
    cases hx
    rw[hcr]at hd
    simp only[an]at hd
    obtain⟨u,us,hu,h1,_⟩:=hd
    refine⟨u,?_,h1⟩
    have hg:vs[fd.offset]? = some u:=by
     have:(vs.toList.drop fd.offset)[0]? = some u:=by rw[hu];rfl
     rw[List.getElem?_drop]at this;simpa using this
    simp[Instr.field,run_underlying ht,hfd,asAgg,part,gi hb,hg]
   ·cases hx
  ·cases hx
 ·cases hf
theorem Mw{hh:Heap}(g:Good Z ψ h w B0 O)(bB:∀id o,hh.get id=some o→h id=some o){x:AV}{v:Value}{e:bI}(hv:aw Z ψ h w x v)(he:Dk hh x some=some e) :
  ∃n:Nat,e=.val (.int .i64 (n:Int))∧((∃s,x=.str s∧v=.string s∧n=s.size)∨∃A c,v=.slice A n c):=by
 unfold Dk at he
 split at he
 ·rename_i s hs
  cases he
  have hx:x=.str s:=by
   cases x with
   |bH id=>simp only[cK]at hs;split at hs<;>cases hs
   |str s'=>simp only[cK]at hs;exact hs
   |_=>simp only[cK]at hs<;>cases hs
  subst hx
  simp only[aw]at hv
  exact⟨_,rfl,.inl ⟨s,rfl,hv,rfl⟩⟩
 ·rename_i ex k xs hs
  cases he
  have OZ:=Dp (Z':=fun b=>Z b∨Own ψ h b) (g.sub bB) (fun b hb=>.inl hb) (fun id b _ br hb=>.inr (by
   obtain⟨o,ho⟩:=Option.ne_none_iff_exists'.1 br
   exact⟨id,by rw[bB id o ho];simp,hb⟩)) (hv.qo bB)
  rw[hs]at OZ
  simp only[aw,aI]at OZ
  obtain⟨⟨v',Au,A,c,rfl,_⟩,_⟩:=OZ
  cases Au
  exact⟨_,rfl,.inr ⟨A,c,rfl⟩⟩
 ·rename_i hs
  cases he
  have hx:x=.fW:=by
   cases x with
   |bH id=>simp only[cK]at hs;split at hs<;>cases hs
   |fW=>rfl
   |_=>simp only[cK]at hs<;>cases hs
  subst hx
  simp only[aw]at hv
  exact⟨0,rfl,.inr ⟨_,_,hv⟩⟩
 ·cases he
def eC(Z:Nat→Prop)(ψ:Nat→Value)(h:Hp)(w:World):Option AV→Option Value→Prop
 |none,none=>True
 |some a,some v=>aw Z ψ h w a v
 |_,_=>False
theorem cj(k:IntKind)(i:Int)(y:Nat)(code:BoundsCode)(h0:0≤i)(h1:i≤y):(Instr.sliceBound (.int k i) y code).run P w=.ok i.toNat w:=by
 simp[Instr.sliceBound,asIntOf,h0,h1]
theorem tN{b:Bool}{n c:Nat}(hc:n≤c){lo hi mx:Option AV}{K1 tH mx':Option Value}{l u:Int}(h1:eC Z ψ h w lo K1)(h2:eC Z ψ h w hi tH)(h3:eC Z ψ h w mx mx')
  (hb:nS n lo hi=some (l,u)) (ho:bq n l u=true) (hm:mx=none∨(mx=some (.int .i64 u)∧hi≠none)) :
  (Instr.sliceBounds b n c K1 tH mx').run P w=.ok (l.toNat,u.toNat,if mx=none then c else u.toNat) w:=by
 simp only[bq,Bool.and_eq_true,decide_eq_true_eq]at ho
 obtain⟨h4,h5,h6⟩:=ho
 have huc:u≤(c:Int):=by omega
 unfold nS at hb
 rcases hm with rfl|⟨rfl,br⟩
 ·cases mx' with
  |some _=>exact h3.elim
  |none =>
   split at hb
   all_goals first|(cases hb;done)|skip
   ·cases hb
    cases K1 with
    |some _=>exact h1.elim
    |none =>
     cases tH with
     |some _=>exact h2.elim
     |none=>simp[Instr.sliceBounds]
   ·cases hb
    cases K1 with
    |none=>exact h1.elim
    |some v =>
     simp only[eC,aw]at h1
     subst h1
     cases tH with
     |some _=>exact h2.elim
     |none=>simp[Instr.sliceBounds,cj .i64 l n _ h4 h5]
   ·cases hb
    cases K1 with
    |some _=>exact h1.elim
    |none =>
     cases tH with
     |none=>exact h2.elim
     |some v =>
      simp only[eC,aw]at h2
      subst h2
      cases b<;>simp[Instr.sliceBounds,cj .i64 u c _ (by omega) huc]
   ·cases hb
    cases K1 with
    |none=>exact h1.elim
    |some v =>
     simp only[eC,aw]at h1
     subst h1
     cases tH with
     |none=>exact h2.elim
     |some v =>
      simp only[eC,aw]at h2
      subst h2
      have hx:l≤((u.toNat:Nat):Int):=by omega
      cases b<;>simp[Instr.sliceBounds,cj .i64 u c _ (by omega) huc,cj .i64 l u.toNat _ h4 hx]
 ·cases mx' with
  |none=>exact h3.elim
  |some m =>
   simp only[eC,aw]at h3
   subst h3
   have huu:u≤((u.toNat:Nat):Int):=by omega
   have hx:l≤((u.toNat:Nat):Int):=by omega
   split at hb
   all_goals first|(cases hb;done)|skip
   ·exact absurd rfl br
   ·exact absurd rfl br
   ·cases hb
    cases K1 with
    |some _=>exact h1.elim
    |none =>
     cases tH with
     |none=>exact h2.elim
     |some v =>
      simp only[eC,aw]at h2
      subst h2
      cases b<;>simp[Instr.sliceBounds,cj .i64 u c _ (by omega) huc,cj .i64 u u.toNat _ (by omega) huu]
   ·cases hb
    cases K1 with
    |none=>exact h1.elim
    |some v =>
     simp only[eC,aw]at h1
     subst h1
     cases tH with
     |none=>exact h2.elim
     |some v =>
      simp only[eC,aw]at h2
      subst h2
      cases b<;>simp[Instr.sliceBounds,cj .i64 u c _ (by omega) huc,cj .i64 u u.toNat _ (by omega) huu,cj .i64 l u.toNat _ h4 hx]
theorem Av{t e:TypeId}(ht:P.underlying t=some (.slice e)){kk:K}(jm:P.cellsOf e=kk.sz){xs:List kk.T}{v:Value}(hr:aI Z w (.sl kk) xs [v]){lo hi mx:Option AV}{K1 tH mx':Option Value}{l u:Int}
  (h1:eC Z' ψ h w lo K1) (h2:eC Z' ψ h w hi tH) (h3:eC Z' ψ h w mx mx') (hb:nS xs.length lo hi=some (l,u)) (ho:bq xs.length l u=true) (hm:mx=none∨(mx=some (.int .i64 u)∧hi≠none)) :
  ∃V,(Instr.sliceAt t v K1 tH mx').run P w=.ok V w∧aI Z w (.sl kk) (cut xs l u) [V]∧(mx≠none→∃A c,V=.slice A c c):=by
 simp only[aI]at hr
 obtain⟨v',Au,A,c,rfl,hl,hn,I2⟩:=hr
 cases Au
 have dx:=tN (P:=P) (w:=w) (b:=true) hl h1 h2 h3 hb ho hm
 simp only[bq,Bool.and_eq_true,decide_eq_true_eq]at ho
 obtain⟨h4,h5,h6⟩:=ho
 obtain⟨i,hi⟩:=sX (P:=P) (t:=e) (by have:=kk.iu;omega)
 generalize Oj:(if mx=none then c else u.toNat)=m at dx
 have hmu:u.toNat≤m:=by
  rcases hm with rfl|⟨rfl,_⟩
  ·simp at Oj;omega
  ·simp at Oj;omega
 have hmc:m≤c:=by
  rcases hm with rfl|⟨rfl,_⟩
  ·simp at Oj;omega
  ·simp at Oj;omega
 have tI:(cut xs l u).length=u.toNat-l.toNat:=by
  unfold cut;rw[List.length_drop,List.length_take];omega
 refine⟨.slice (if m=l.toNat then A else A.map (·.add (l.toNat*P.cellsOf e))) (u.toNat-l.toNat) (m-l.toNat),?_,?_,?_⟩
 ·simp[Instr.sliceAt,Instr.slice,run_underlying ht,dx,dB hi]
 ·simp only[aI]
  refine⟨_,rfl,_,_,by rw[tI],by rw[tI];omega,fun hA=>?_,fun j x hx=>?_⟩
  ·split at hA
   ·have:=hn hA;omega
   ·cases A with
    |none=>have:=hn rfl;omega
    |some a=>cases hA
  ·have hj:j<u.toNat-l.toNat:=by rw[←tI];exact(List.getElem?_eq_some_iff.1 hx).1
   have Zb:xs[l.toNat+j]? = some x:=by
    unfold cut at hx
    rw[List.getElem?_drop,List.getElem?_take,if_pos (by omega)]at hx
    exact hx
   obtain⟨a,us,rfl,hz,hr,hc⟩:=I2 _ _ Zb
   refine⟨a.add (l.toNat*P.cellsOf e),us,by rw[if_neg (by omega)];rfl,by rw[cy];exact hz,hr,fun q y hy=>?_⟩
   rw[uI,jm]
   have:=hc q y hy
   rw[Nat.add_mul]at this
   rw[←Nat.add_assoc];exact this
 ·intro br
  rcases hm with rfl|⟨rfl,_⟩
  ·exact absurd rfl br
  ·simp at Oj
   exact⟨_,_,by rw[←Oj]⟩
theorem Gy{hh:Heap}(g:Good Z ψ h w B0 O)(_:∀id o,hh.get id=some o→h id=some o){t e:TypeId}(ht:P.underlying t=some (.slice e)){x:AV}{v:Value}{lo hi mx:Option AV}{K1 tH mx':Option Value}{ef:bI}
  (hv:aw Z ψ h w x v) (h1:eC Z ψ h w lo K1) (h2:eC Z ψ h w hi tH) (h3:eC Z ψ h w mx mx') (nM:∀y hw,ef=.wr y hw→hh.get=h) (he:oU hh (P.cellsOf e) x lo hi mx some=some ef) (WT:(P.info? e).isSome=true) :
  ∃V Z',(Instr.sliceAt t v K1 tH mx').run P w=.ok V w∧Next Z ψ h w B0 O N Z' ψ (ef.hp h) w∧aw Z' ψ (ef.hp h) w ef.v V:=by
 unfold oU at he
 split at he
 ·
  simp only[aw]at hv
  subst hv
  split at he
  ·rename_i l u hb
   cases ho:bq 0 l u with
   |false=>rw[ho]at he;cases he
   |true =>
    rw[ho]at he
    cases he
    have dx:=tN (P:=P) (w:=w) (b:=true) (Nat.le_refl 0) h1 h2 h3 hb ho (.inl rfl)
    simp only[bq,Bool.and_eq_true,decide_eq_true_eq]at ho
    have hl0:l.toNat=0:=by omega
    have hu0:u.toNat=0:=by omega
    obtain⟨i,hi⟩:=Option.isSome_iff_exists.1 WT
    refine⟨.slice none 0 0,Z,?_,Next.refl g,by simp only[bI.v,aw]⟩
    rw[hl0,hu0]at dx
    simp[Instr.sliceAt,Instr.slice,run_underlying ht,dx,dB hi]
  ·cases he
 ·
  rename_i ex kk xs
  simp only[aw]at hv
  split at he
  ·rename_i jm
   split at he
   ·rename_i l u hb
    split at he
    ·cases ho:bq xs.length l u with
     |false=>rw[ho]at he;cases he
     |true =>
      rw[ho]at he
      cases he
      obtain⟨V,h4,h5,_⟩:=Av (P:=P) ht jm hv.1 h1 h2 h3 hb ho (.inl rfl)
      exact⟨V,Z,h4,Next.refl g,by simp only[bI.v,bI.hp,aw];exact⟨h5,by simp⟩⟩
    ·rename_i m
     cases ho:(bq xs.length l u&&(hi.isSome&&decide (m=u))) with
     |false=>rw[ho]at he;cases he
     |true =>
      rw[ho]at he
      cases he
      simp only[Bool.and_eq_true,decide_eq_true_eq]at ho
      obtain⟨ho,hhi,rfl⟩:=ho
      obtain⟨V,h4,h5,h6⟩:=Av (P:=P) ht jm hv.1 h1 h2 h3 hb ho (.inr ⟨rfl,by intro e;rw[e]at hhi;cases hhi⟩)
      exact⟨V,Z,h4,Next.refl g,by simp only[bI.v,bI.hp,aw];exact⟨h5,fun _=>h6 (by simp)⟩⟩
    ·cases he
   ·cases he
  ·cases he
 ·cases he
end Go.Vs
set_option linter.unusedSimpArgs false
set_option linter.unusedVariables false
namespace Go.Vs
variable {P:Program} {Z Z':Nat→Prop} {ψ ψ':Nat→Value} {h h':Hp} {w w':World} {B0:Nat} {O:Nat→Prop} {N:Nat→Prop}
def lN(P:Program)(t:TypeId)(k:K):Prop :=
 ∀(Z:Nat→Prop) (w:World) (x y:k.T) (xs ys:Array Value),aI Z w k x xs.toList→aI Z w k y ys.toList →
  (Op.equal t (.agg xs) (.agg ys)).run P w=.ok (rG k x y) w∧(∀(op:BinOp) (a b:Operand),(eqGuard op t a b (.agg xs) (.agg ys)).run P w=.ok () w)∧∀e:Bool,(Instr.checkKey e 10000 t (.agg xs)).run P w=.ok () w
theorem wy(op:BinOp)(t:TypeId)(a b:Operand)(k k':IntKind)(x y:Int):(eqGuard op t a b (.int k x) (.int k' y)).run P w=.ok () w:=by cases op<;>simp[eqGuard]
theorem Mx(op:BinOp)(t:TypeId)(a b:Operand)(x y:ByteArray):(eqGuard op t a b (.string x) (.string y)).run P w=.ok () w:=by cases op<;>simp[eqGuard]
theorem Jp(op:BinOp)(t:TypeId)(a b:Operand)(x y:Bool):(eqGuard op t a b (.bool x) (.bool y)).run P w=.ok () w:=by cases op<;>simp[eqGuard]
theorem Dv(op:BinOp)(t:TypeId)(a b:Operand)(x y:Option Addr):(eqGuard op t a b (.pointer x) (.pointer y)).run P w=.ok () w:=by cases op<;>simp[eqGuard]
def bT:AV→Value
 |.bool b=>.bool b
 |.int k n=>.int k n
 |.str s=>.string s
 |_=>undef
theorem jR(k:IntKind)(n:Int):aw Z ψ h w (.int k n) (bT (.int k n)):=by simp only[aw,bT]
theorem eE(b:Bool):aw Z ψ h w (.bool b) (bT (.bool b)):=by simp only[aw,bT]
theorem kb{t e:TypeId}(ht:P.underlying t=some (.pointer e))(a:Option Addr):(Op.equal t (.pointer a) (.pointer none)).run P w=.ok a.isNone w:=by
 have key:∀d,(Op.equalIn (d+1) t (.pointer a) (.pointer none)).run P w=.ok a.isNone w:=fun d=>by
  cases a<;>simp[Op.equalIn,run_underlying ht]
 exact key 9999
theorem O0{op:BinOp}{t:TypeId}{k:IntKind}{a b:Int}{v:AV}(hv:WH op k a b=some v):∃V,(binOp op t (.int k a) (.int k b)).run P w=.ok V w∧aw Z ψ h w v V:=by
 cases op<;>simp only[WH]at hv<;>cases hv<;>first
  |(refine⟨bT (.int _ _),?_,jR _ _⟩;simp[binOp,Op.intArith,Op.intCmp,bT];done)
  |(refine⟨bT (.bool _),?_,eE _⟩;simp[binOp,Op.intArith,Op.intCmp,bT];done)
  |(refine⟨bT (.int _ _),?_,jR _ _⟩;simp only[binOp,bT,ne_eq,not_true_eq_false,if_false];rfl)
theorem My{Eqs:TypeId→Option K}(CL:∀t k,Eqs t=some k→lN P t k){op:BinOp}{t:TypeId}{xo yo:Operand}{x y:AV}{u v:Value}{e:bI}(hu:aw Z ψ h w x u)(hv:aw Z ψ h w y v)(he:xM P Eqs op t x y some=some e) :
  ∃r V,e=.val r∧((do eqGuard op t xo yo u v;binOp op t u v:Sem Value)).run P w=.ok V w∧aw Z ψ h w r V:=by
 unfold xM at he
 split at he
 ·rename_i k a k' b
  simp only[aw]at hu hv
  subst hu;subst hv
  split at he
  ·cases hb:decide (b<0) with
   |true=>rw[hb]at he;cases he
   |false =>
    rw[hb]at he;cases he
    have WU:¬b<0:=by simpa using hb
    exact⟨_,bT (.int _ _),rfl,by simp[wy,binOp,Op.shift,WU,bT,Gh],jR _ _⟩
  ·cases hb:decide (b<0) with
   |true=>rw[hb]at he;cases he
   |false =>
    rw[hb]at he;cases he
    have WU:¬b<0:=by simpa using hb
    exact⟨_,bT (.int _ _),rfl,by simp[wy,binOp,Op.shift,WU,bT,kZ],jR _ _⟩
  split at he
  ·rename_i hk
   subst hk
   simp only[Sem.run_bind,wy,Result.andThen_ok]
   split at he
   ·cases hb:(b==0) with
    |true=>rw[hb]at he;cases he
    |false =>
     rw[hb]at he;cases he
     have WU:b≠0:=by simpa using hb
     exact⟨_,bT (.int _ _),rfl,by simp[binOp,Op.intDiv,WU,bT],jR _ _⟩
   ·cases hb:(b==0) with
    |true=>rw[hb]at he;cases he
    |false =>
     rw[hb]at he;cases he
     have WU:b≠0:=by simpa using hb
     exact⟨_,bT (.int _ _),rfl,by simp[binOp,Op.intDiv,WU,bT],jR _ _⟩
   ·split at he
    ·rename_i v hv
     cases he
     obtain⟨V,h1,h2⟩:=O0 (P:=P) (t:=t) (w:=w) (Z:=Z) (ψ:=ψ) (h:=h) hv
     exact⟨_,V,rfl,h1,h2⟩
    ·cases he
  ·cases he
 ·rename_i a b
  simp only[aw]at hu hv
  subst hu;subst hv
  simp only[Sem.run_bind,Mx,Result.andThen_ok]
  cases op<;>simp only[Y2]at he<;>first|(cases he;done)|(cases he;exact⟨_,bT (.bool _),rfl,by simp[binOp,Op.stringOp,←beq_toListBytes,bT],eE _⟩)
 ·rename_i a b
  simp only[aw]at hu hv
  subst hu;subst hv
  simp only[Sem.run_bind,Jp,Result.andThen_ok]
  have key:(P.underlying t).map EB=some true→P.underlying t=some .bool:=fun hm=>by
   obtain⟨d,hd,he⟩:=Option.map_eq_some_iff.1 hm
   cases d<;>simp[EB]at he
   exact hd
  split at he
  ·rename_i hm
   cases he
   exact⟨_,bT (.bool _),rfl,by simp[binOp,Op.equal,Op.maxDepth,run_equalIn_bool' (P:=P) w 9999 t a b (key hm),bT],eE _⟩
  ·rename_i hm
   cases he
   exact⟨_,bT (.bool _),rfl,by simp[binOp,Op.equal,Op.maxDepth,run_equalIn_bool' (P:=P) w 9999 t a b (key hm),bT],eE _⟩
  ·cases he
 ·rename_i a b
  split at he
  ·cases he
  ·rename_i k hk
   simp only[aw]at hu hv
   obtain⟨xs,rfl,hx⟩:=hu
   obtain⟨ys,rfl,hy⟩:=hv
   split at he
   ·rename_i x y hdx hdy
    cases he
    obtain⟨h1,h2,_⟩:=CL t k hk Z w x y xs ys (dJ hdx hx) (dJ hdy hy)
    exact⟨_,bT (.bool _),rfl,by simp only[Sem.run_bind,h2,Result.andThen_ok,binOp,h1,Sem.run_pure,bT],eE _⟩
   ·rename_i x y hdx hdy
    cases he
    obtain⟨h1,h2,_⟩:=CL t k hk Z w x y xs ys (dJ hdx hx) (dJ hdy hy)
    exact⟨_,bT (.bool _),rfl,by simp only[Sem.run_bind,h2,Result.andThen_ok,binOp,h1,Sem.run_pure,bT],eE _⟩
   ·cases he
 ·simp only[aw]at hu hv
  subst hu;subst hv
  have key:(P.underlying t).map wj=some true→∃e,P.underlying t=some (.pointer e):=fun hm=>by
   obtain⟨d,hd,he⟩:=Option.map_eq_some_iff.1 hm
   cases d<;>simp[wj]at he
   exact⟨_,hd⟩
  simp only[Sem.run_bind,Dv,Result.andThen_ok]
  split at he
  ·rename_i hm
   cases he
   obtain⟨et,ht⟩:=key hm
   exact⟨_,bT (.bool _),rfl,by simp only[binOp,Sem.run_bind,kb ht,Result.andThen_ok,Sem.run_pure,bT,Option.isNone_none,Option.isNone_some,Bool.not_true,Bool.not_false],eE _⟩
  ·rename_i hm
   cases he
   obtain⟨et,ht⟩:=key hm
   exact⟨_,bT (.bool _),rfl,by simp only[binOp,Sem.run_bind,kb ht,Result.andThen_ok,Sem.run_pure,bT,Option.isNone_none,Option.isNone_some,Bool.not_true,Bool.not_false],eE _⟩
  ·cases he
 ·simp only[aw]at hu hv
  obtain⟨a,rfl,_⟩:=hu
  subst hv
  have key:(P.underlying t).map wj=some true→∃e,P.underlying t=some (.pointer e):=fun hm=>by
   obtain⟨d,hd,he⟩:=Option.map_eq_some_iff.1 hm
   cases d<;>simp[wj]at he
   exact⟨_,hd⟩
  simp only[Sem.run_bind,Dv,Result.andThen_ok]
  split at he
  ·rename_i hm
   cases he
   obtain⟨et,ht⟩:=key hm
   exact⟨_,bT (.bool _),rfl,by simp only[binOp,Sem.run_bind,kb ht,Result.andThen_ok,Sem.run_pure,bT,Option.isNone_none,Option.isNone_some,Bool.not_true,Bool.not_false],eE _⟩
  ·rename_i hm
   cases he
   obtain⟨et,ht⟩:=key hm
   exact⟨_,bT (.bool _),rfl,by simp only[binOp,Sem.run_bind,kb ht,Result.andThen_ok,Sem.run_pure,bT,Option.isNone_none,Option.isNone_some,Bool.not_true,Bool.not_false],eE _⟩
  ·cases he
 ·cases he
theorem Mz{a:AV}{v:Value}(hp:wg a=true)(hr:aw Z ψ h w a v):v.oneCell'=true:=by
 cases a with
 |no=>cases hp
 |agg cs=>cases hp
 |ni cs=>cases hp
 |bool b=>simp only[aw]at hr;subst hr;rfl
 |int k n=>simp only[aw]at hr;subst hr;rfl
 |str s=>simp only[aw]at hr;subst hr;rfl
 |kY=>simp only[aw]at hr;subst hr;rfl
 |fW=>simp only[aw]at hr;subst hr;rfl
 |ref id s i off=>simp only[aw]at hr;obtain⟨a,rfl,_⟩:=hr;rfl
 |fp k x off=>simp only[aw]at hr;obtain⟨a,us,rfl,_⟩:=hr;rfl
 |sl ex k xs=>simp only[aw,aI]at hr;obtain⟨⟨v',hv,A,c,rfl,_⟩,_⟩:=hr;cases hv;rfl
 |bH id=>simp only[aw]at hr;exact hr.1.2
 |mp kk vk es=>simp only[aw,aI]at hr;obtain⟨A,hv,_⟩:=hr;cases hv;rfl
 |fn f cap=>simp only[aw]at hr;obtain⟨vs,rfl,_⟩:=hr;rfl
theorem tO:∀{cs:List AV} {vs:List Value},cs.all wg=true→an Z ψ h w cs vs→∀u∈vs,u.oneCell'=true
 |[],_,_,hr,u,hu=>by simp only[an]at hr;subst hr;simp at hu
 |c::r,_,hp,hr,u,hu=>by
  simp only[List.all_cons,Bool.and_eq_true]at hp
  simp only[an]at hr
  obtain⟨v,us,rfl,h1,h2⟩:=hr
  rcases List.mem_cons.1 hu with rfl|hu
  ·exact Mz hp.1 h1
  ·exact tO hp.2 h2 u hu
theorem Gz{a:AV}(hp:a.cells.all wg=true):a≠.no:=by rintro rfl;simp[AV.cells,wg]at hp
theorem rQ{id:Nat}:∀{cs:List AV},Jc id cs=true→AV.bH id∉cs
 |[],_=>by simp
 |c::r,hn=>by
  intro hm
  cases c with
  |bH i =>
   simp only[Jc,Bool.and_eq_true,Bool.not_eq_true',beq_eq_false_iff_ne]at hn
   rcases List.mem_cons.1 hm with e|hm
   ·cases e;exact hn.1 rfl
   ·exact rQ hn.2 hm
  |_ =>
   simp only[Jc]at hn
   rcases List.mem_cons.1 hm with e|hm
   ·cases e
   ·exact rQ hn hm
theorem xW{hh:Heap}(g:Good Z ψ hh.get w B0 O){t:TypeId}{a x:AV}{u v:Value}{e:bI}(hu:aw Z ψ hh.get w a u)(hv:aw Z ψ hh.get w x v)(he:rH P hh t a x some=some e) :
  ∃hw w' Z',e=.wr .no hw∧(Instr.storeAt t u v).run P w=.ok () w'∧Next Z ψ hh.get w B0 O N Z' ψ hw.get w':=by
 unfold rH at he
 split at he
 ·rename_i hc
  obtain⟨hlen,TK,qU⟩:=hc
  obtain⟨inf,TK⟩:=Option.isSome_iff_exists.1 TK
  have Oh:=hv.cells (Gz qU)
  have MA:=tO qU Oh
  have tI:=Oh.length
  simp only[Array.length_toList]at tI
  split at he
  ·rename_i id s i off
   simp only[aw]at hu
   obtain⟨a,rfl,ha⟩:=hu
   split at he
   ·rename_i ty cs hg
    split at he
    ·rename_i hc
     obtain⟨rfl,Zd⟩:=hc
     cases he
     have Gl:=ha (by rw[hg];simp)
     obtain⟨w',h1,h2⟩:=Aj (P:=P) (N:=N) g hg TK Oh MA (by omega) Zd (a:=a) (by rw[Gl];simp)
     exact⟨_,w',Z,rfl,h1,by rw[mK];exact h2⟩
    ·cases he
   ·rename_i ty kk xs hg
    obtain⟨y,hx,Td⟩:=Option.bind_eq_some_iff.1 he
    clear he
    split at Td
    ·rename_i hc
     obtain⟨rfl,Zd,qT⟩:=hc
     split at Td
     ·rename_i z hz
      cases Td
      have Gl:=ha (by rw[hg];simp)
      have bO:=rQ qT
      have gd:=iw g x.cells
      have hgd:(cH hh x.cells).get id=some (.own (.row ty kk) xs):=by rw[oZ _ _ _ bO];exact hg
      have WV:=n6 (Z':=qz Z ψ hh.get x.cells) g (fun b hb=>.inl hb) (fun i b hm br hb=>.inr ⟨i,hm,br,hb⟩) Oh
      obtain⟨w',h1,h2⟩:=Al (P:=P) (N:=N) gd hgd TK hx (y:=z) (off:=off) (V:=v) (by omega) (by omega) (a:=a) Gl (fun us TL=>by
       have h3:=(ij (ψ:=ψ) (h:=hh.get) TL)
       have h4:=dJ hz (WV.dV off h3)
       rwa [rO _ _ _ (by rw[Array.length_toList,TL.len];omega),Array.length_toList]at h4) MA
      refine⟨_,w',qz Z ψ hh.get x.cells,rfl,h1,?_⟩
      rw[show((stored hh x.cells).2.set id (.own (.row ty kk) (xs.set i z))).get=ed (cH hh x.cells).get id (some (.own (.row ty kk) (xs.set i z))) from mK _ _ _]
      exact h2.drop (fun b hb=>.inl hb) (fun b hb=>hb.imp (fun h=>h) (fun⟨i,_,h5,h6⟩=>⟨i,h5,h6⟩)) (dZ _ _)
     ·cases Td
    ·cases Td
   ·cases he
  ·cases he
 ·cases he
end Go.Vs
namespace Go.Vs
variable {P:Program} {Z Z':Nat→Prop} {ψ ψ':Nat→Value} {h h':Hp} {w w':World} {B0:Nat} {O:Nat→Prop} {N:Nat→Prop}
theorem O2{a:AV}{v:Value}(ha:a.isAgg=true)(hr:aw Z ψ h w a v):∃vs,v=.agg vs:=by
 cases a<;>simp[AV.isAgg]at ha
 simp only[aw]at hr
 obtain⟨vs,rfl,_⟩:=hr
 exact⟨vs,rfl⟩
theorem Dx{a:AV}{v:Value}(ha:a.isAgg=false)(qT:a≠.no)(hr:aw Z ψ h w a v):v.cells=#[v]:=by
 cases a with
 |no=>exact absurd rfl qT
 |agg cs=>simp[AV.isAgg]at ha
 |bool b=>simp only[aw]at hr;subst hr;rfl
 |int k n=>simp only[aw]at hr;subst hr;rfl
 |str s=>simp only[aw]at hr;subst hr;rfl
 |kY=>simp only[aw]at hr;subst hr;rfl
 |fW=>simp only[aw]at hr;subst hr;rfl
 |ref id s i off=>simp only[aw]at hr;obtain⟨a,rfl,_⟩:=hr;rfl
 |fp k x off=>simp only[aw]at hr;obtain⟨a,us,rfl,_⟩:=hr;rfl
 |sl ex k xs=>simp only[aw,aI]at hr;obtain⟨⟨v',hv,A,c,rfl,_⟩,_⟩:=hr;cases hv;rfl
 |bH id=>simp only[aw]at hr;exact hr.1.1
 |mp kk vk es=>simp only[aw,aI]at hr;obtain⟨A,hv,_⟩:=hr;cases hv;rfl
 |fn f cap=>simp only[aw]at hr;obtain⟨vs,rfl,_⟩:=hr;rfl
 |ni cs=>simp only[aw]at hr;obtain⟨vs,rfl,_⟩:=hr;rfl
theorem tP{hh:Heap}{k:K}{a:AV}{x:k.T}{v:Value}(g:Good Z ψ hh.get w B0 O)(hz:∀b,Z b→Z' b)(hb:∀id b,AV.bH id∈a.cells→hh.get id≠none→ob (ψ id)=some b→Z' b)
  (hx:fU k hh a=some x) (hr:aw Z ψ hh.get w a v):aI Z' w k x v.cells.toList∧(k.isAgg=true→∃vs,v=.agg vs)∧(k.isAgg=false→v.cells=#[v]):=by
 unfold fU at hx
 split at hx
 ·rename_i Vv
  have qT:=Du hx
  have hv:=n6 g hz hb (hr.cells qT)
  exact⟨dJ hx hv,fun h=>O2 (by rw[←Vv];exact h) hr,fun h=>Dx (by rw[←Vv];exact h) qT hr⟩
 ·cases hx
theorem rR{hh:Heap}{k:K}{a:AV}{x:k.T}{v:Value}(g:Good Z ψ hh.get w B0 O)(hz:∀b,Z b→Z' b)(hb:∀id b,AV.bH id∈a.cells→hh.get id≠none→ob (ψ id)=some b→Z' b)
  (hx:fU k hh a=some x) (hr:aw Z ψ hh.get w a v):aw Z' ψ' h' w (cf k x) v:=by
 obtain⟨h1,h2,h3⟩:=tP g hz hb hx hr
 exact lM h1 h2 h3
theorem aI.flat:∀{k:K} {x:k.T} {vs:List Value},k.flat=true→aI Z w k x vs→aI Z' w' k x vs
 |.int _,_,_,_,h=>h
 |.bool,_,_,_,h=>h
 |.str,_,_,_,h=>h
 |.sl k,_,_,hf,_=>by simp[K.flat]at hf
 |.pair a b,x,_,hf,h=>by
  simp only[K.flat,Bool.and_eq_true]at hf
  simp only[aI]at h ⊢
  obtain⟨us,ws,rfl,h1,h2⟩:=h
  exact⟨us,ws,rfl,aI.flat hf.1 h1,aI.flat hf.2 h2⟩
 |.one k,x,_,hf,h=>by
  simp only[aI]at h ⊢
  exact aI.flat (k:=k) (by simpa only[K.flat] using hf) h
theorem zj:∀(k:K) (x y:k.T),k.flat=true→(rG k x y=true↔x=y)
 |.int _,x,y,_=>by simp only[rG];exact beq_iff_eq (α:=Int)
 |.bool,x,y,_=>by simp only[rG];exact beq_iff_eq (α:=Bool)
 |.str,x,y,_=>by simp only[rG];exact MapKept.bytes_beq x y
 |.sl _,_,_,hf=>by simp[K.flat]at hf
 |.mp _ _,_,_,hf=>by simp[K.flat]at hf
 |.pair a b,x,y,hf=>by
  simp only[K.flat,Bool.and_eq_true]at hf
  simp only[rG,Bool.and_eq_true]
  rw[zj a _ _ hf.1,zj b _ _ hf.2]
  exact⟨fun h=>Prod.ext h.1 h.2,fun h=>⟨congrArg Prod.fst h,congrArg Prod.snd h⟩⟩
 |.one k,x,y,hf=>by simp only[rG];exact zj k x y (by simpa only[K.flat] using hf)
theorem o6:∀{k:K} {x:k.T} {us vs:List Value},k.flat=true→aI Z w k x us→aI Z' w' k x vs→us=vs
 |.int _,_,_,_,_,h1,h2=>by simp only[aI]at h1 h2;rw[h1,h2]
 |.bool,_,_,_,_,h1,h2=>by simp only[aI]at h1 h2;rw[h1,h2]
 |.str,_,_,_,_,h1,h2=>by simp only[aI]at h1 h2;rw[h1,h2]
 |.sl _,_,_,_,hf,_,_=>by simp[K.flat]at hf
 |.mp _ _,_,_,_,hf,_,_=>by simp[K.flat]at hf
 |.pair a b,x,_,_,hf,h1,h2=>by
  simp only[K.flat,Bool.and_eq_true]at hf
  simp only[aI]at h1 h2
  obtain⟨a1,a2,rfl,h3,h4⟩:=h1
  obtain⟨b1,b2,rfl,h5,h6⟩:=h2
  rw[o6 hf.1 h3 h5,o6 hf.2 h4 h6]
 |.one k,x,_,_,hf,h1,h2=>by
  simp only[aI]at h1 h2
  exact o6 (k:=k) (by simpa only[K.flat] using hf) h1 h2
theorem rS:∀{k:K} {x:k.T} {us:List Value},k.flat=true→aI Z w k x us→∀u∈us,∀n,Instr.sameBits n u u=true
 |.int _,x,_,_,h1,u,hu,n=>by simp only[aI]at h1;subst h1;simp only[List.mem_singleton]at hu;subst hu;cases n<;>simp[Instr.sameBits]<;>exact beq_self_eq_true (α:=Int) x
 |.bool,x,_,_,h1,u,hu,n=>by simp only[aI]at h1;subst h1;simp only[List.mem_singleton]at hu;subst hu;cases n<;>simp[Instr.sameBits]<;>exact beq_self_eq_true (α:=Bool) x
 |.str,x,_,_,h1,u,hu,n=>by simp only[aI]at h1;subst h1;simp only[List.mem_singleton]at hu;subst hu;cases n<;>simp[Instr.sameBits]<;>exact(MapKept.bytes_beq x x).2 rfl
 |.sl _,_,_,hf,_,_,_,_=>by simp[K.flat]at hf
 |.mp _ _,_,_,hf,_,_,_,_=>by simp[K.flat]at hf
 |.pair a b,x,_,hf,h1,u,hu,n=>by
  simp only[K.flat,Bool.and_eq_true]at hf
  simp only[aI]at h1
  obtain⟨a1,a2,rfl,h3,h4⟩:=h1
  rcases List.mem_append.1 hu with hu|hu
  ·exact rS hf.1 h3 u hu n
  ·exact rS hf.2 h4 u hu n
 |.one k,x,_,hf,h1,u,hu,n=>by
  simp only[aI]at h1
  exact rS (k:=k) (by simpa only[K.flat] using hf) h1 u hu n
def I3(b:Bool)(v:Value):Prop:=(b=true→∃vs,v=.agg vs)∧(b=false→v.cells=#[v])
theorem MB{b:Bool}{u v:Value}(h1:I3 b u)(h2:I3 b v)(h:u.cells.toList=v.cells.toList):u=v:=by
 cases b with
 |true =>
  obtain⟨a,rfl⟩:=h1.1 rfl
  obtain⟨c,rfl⟩:=h2.1 rfl
  have:a=c:=by simpa[Value.cells] using h
  rw[this]
 |false =>
  rw[h1.2 rfl,h2.2 rfl]at h
  simpa using h
theorem O3{k:K}{x:k.T}{u:Value}(hf:k.flat=true)(hr:aI Z w k x u.cells.toList)(hs:I3 k.isAgg u):Instr.sameBits 10000 u u=true:=by
 have hb:=rS hf hr
 cases hk:k.isAgg with
 |false=>exact hb u (by rw[hs.2 hk];simp) _
 |true =>
  obtain⟨a,rfl⟩:=hs.1 hk
  show Instr.sameBits (9999+1) (.agg a) (.agg a)=true
  simp only[Instr.sameBits,beq_self_eq_true,Bool.true_and,List.all_eq_true]
  intro p hp
  obtain⟨i,hi,he⟩:=List.mem_iff_getElem.1 hp
  simp only[List.getElem_zip]at he
  subst he
  exact hb _ (List.getElem_mem (l:=(Value.agg a).cells.toList) (by simpa[Value.cells] using hi)) _
def Keys(Z:Nat→Prop)(w:World)(k:K)(ys:List k.T)(l:List MapEntry):Prop:=ys.length=l.length∧∀(i:Nat) y e,ys[i]? = some y→l[i]? = some e→aI Z w k y e.key.cells.toList∧I3 k.isAgg e.key
theorem Keys.tail{k:K}{y:k.T}{ys:List k.T}{e:MapEntry}{l:List MapEntry}(h:Keys Z w k (y::ys) (e::l)):Keys Z w k ys l:=⟨by simpa using h.1,fun i a b h1 h2=>h.2 (i+1) a b (by simpa using h1) (by simpa using h2)⟩
theorem GA{k:K}{x:k.T}{d:TypeDesc}{kv:Value}(hs:∀y Te,aI Z w k y Te.cells.toList→I3 k.isAgg Te→Instr.sameNow d kv Te=some (rG k x y)):∀(l:List MapEntry) (ys:List k.T) (i:Nat),Keys Z w k ys l →
  Instr.findNow d kv l i=some ((ys.findIdx? (rG k x)).map fun j=>(i+j,((l[j]?).map (·.val)).getD undef))
 |[],ys,i,h=>by
  have:ys=[]:=List.eq_nil_of_length_eq_zero (by simpa using h.1)
  subst this;rfl
 |e::l,[],i,h=>by have:=h.1;simp at this
 |e::l,y::ys,i,h=>by
  obtain⟨h1,h2⟩:=h.2 0 y e rfl rfl
  have ih:=GA hs l ys (i+1) h.tail
  simp only[Instr.findNow,hs y _ h1 h2,List.findIdx?_cons]
  cases rG k x y with
  |true=>simp
  |false =>
   simp only[ih,Bool.false_eq_true,if_false]
   cases ys.findIdx? (rG k x) with
   |none=>rfl
   |some j=>simp;omega
theorem xX{k:K}{x:k.T}{t:TypeId}{kv:Value}(hs:∀y Te,aI Z w k y Te.cells.toList→I3 k.isAgg Te→(Op.equal t kv Te).run P w=.ok (rG k x y) w):∀(l:List MapEntry) (ys:List k.T) (i:Nat),Keys Z w k ys l →
  (Instr.findAsking t kv l i).run P w=.ok ((ys.findIdx? (rG k x)).map fun j=>(i+j,((l[j]?).map (·.val)).getD undef)) w
 |[],ys,i,h=>by
  have:ys=[]:=List.eq_nil_of_length_eq_zero (by simpa using h.1)
  subst this;rfl
 |e::l,[],i,h=>by have:=h.1;simp at this
 |e::l,y::ys,i,h=>by
  obtain⟨h1,h2⟩:=h.2 0 y e rfl rfl
  have ih:=xX hs l ys (i+1) h.tail
  simp only[Instr.findAsking,Sem.run_bind,hs y _ h1 h2,Result.andThen_ok,List.findIdx?_cons]
  cases rG k x y with
  |true=>simp
  |false =>
   simp only[ih,Bool.false_eq_true,if_false]
   cases ys.findIdx? (rG k x) with
   |none=>rfl
   |some j=>simp;omega
structure O4(P:Program)(t:TypeId)(k:K):Prop where
 flat:k.flat=true
 check:∀(Z:Nat→Prop) (w:World) (x:k.T) (kv:Value) (e:Bool),aI Z w k x kv.cells.toList→I3 k.isAgg kv→(Instr.checkKey e 10000 t kv).run P w=.ok () w
 find:∀(Z:Nat→Prop) (w:World) (x:k.T) (kv:Value) (l:List MapEntry) (ys:List k.T),aI Z w k x kv.cells.toList→I3 k.isAgg kv→Keys Z w k ys l →
  (Instr.findKey t kv l).run P w=.ok ((ys.findIdx? (rG k x)).map fun j=>(j,((l[j]?).map (·.val)).getD undef)) w
theorem o8{t:TypeId}{k:K}{d:TypeDesc}(hf:k.flat=true)(hk:k.isAgg=false)(hd:P.underlying t=some d)(hc:∀(Z:Nat→Prop) (w:World) (x:k.T) (kv:Value),aI Z w k x [kv]→MapKept.IsKey d kv)
  (hs:∀(Z:Nat→Prop) (w:World) (x y:k.T) (u v:Value),aI Z w k x [u]→aI Z w k y [v]→Instr.sameNow d u v=some (rG k x y)):O4 P t k:=by
 have one:∀{Z:Nat→Prop} {w:World} {x:k.T} {kv:Value},aI Z w k x kv.cells.toList→I3 k.isAgg kv→aI Z w k x [kv]:=fun {Z w x kv} h1 h2=>by
  rw[h2.2 hk]at h1;exact h1
 refine⟨hf,fun Z w x kv e h1 h2=>MapKept.run_checkKey hd (hc Z w x kv (one h1 h2)) e 9999,fun Z w x kv l ys h1 h2 h3=>?_⟩
 have:=GA (Z:=Z) (w:=w) (x:=x) (d:=d) (kv:=kv) (fun y Te h4 h5=>hs Z w x y kv Te (one h1 h2) (one h4 h5)) l ys 0 h3
 simp only[Nat.zero_add]at this
 exact MapKept.run_findKey hd this
theorem GB(d:TypeDesc)(a:Array Value)(v:Value):Instr.sameNow d (.agg a) v=none:=by cases d<;>cases v<;>rfl
theorem wz{Eqs:TypeId→Option K}(CL:∀t k,Eqs t=some k→lN P t k){t:TypeId}{k:K}(hk:KY P Eqs t k=true):O4 P t k:=by
 unfold KY at hk
 rw[Bool.and_eq_true]at hk
 obtain⟨hf,hk⟩:=hk
 split at hk
 ·rename_i ik YA hd
  simp only[decide_eq_true_eq]at hk
  subst hk
  exact o8 hf rfl hd (fun Z w x kv hr=>by simp only[aI]at hr;cases hr;simp[MapKept.IsKey]) (fun Z w x y u v h1 h2=>by simp only[aI]at h1 h2;cases h1;cases h2;simp[Instr.sameNow,rG])
 ·rename_i hd
  exact o8 hf rfl hd (fun Z w x kv hr=>by simp only[aI]at hr;cases hr;simp[MapKept.IsKey]) (fun Z w x y u v h1 h2=>by simp only[aI]at h1 h2;cases h1;cases h2;simp[Instr.sameNow,rG])
 ·rename_i hd
  exact o8 hf rfl hd (fun Z w x kv hr=>by simp only[aI]at hr;cases hr;simp[MapKept.IsKey]) (fun Z w x y u v h1 h2=>by simp only[aI]at h1 h2;cases h1;cases h2;simp[Instr.sameNow,rG])
 ·simp only[Bool.and_eq_true,decide_eq_true_eq]at hk
  obtain⟨Vv,hk⟩:=hk
  have fact:=CL _ _ hk
  have agg:∀{b:Bool} {u:Value},b=true→I3 b u→∃a,u=.agg a:=fun hb h=>h.1 hb
  refine⟨hf,fun Z w x kv e h1 h2=>?_,fun Z w x kv l ys h1 h2 h3=>?_⟩
  ·obtain⟨a,rfl⟩:=agg Vv h2
   exact(fact Z w x x a a h1 h1).2.2 e
  ·obtain⟨a,rfl⟩:=agg Vv h2
   have h4:=xX (P:=P) (t:=t) (Z:=Z) (w:=w) (x:=x) (kv:=.agg a) (fun y Te h4 h5=>by
    obtain⟨b,rfl⟩:=agg Vv h5
    exact(fact Z w x y a b h1 h4).1) l ys 0 h3
   simp only[Nat.zero_add]at h4
   cases l with
   |nil =>
    have:ys=[]:=List.eq_nil_of_length_eq_zero (by simpa using h3.1)
    subst this
    cases hu:P.underlying t with
    |none =>
     have hc:=(fact Z w x x a a h1 h1).2.2 true
     exfalso
     unfold Instr.checkKey at hc
     simp[underlying,hu]at hc
    |some d=>simp[Instr.findKey,run_underlying hu,Instr.findNow]
   |cons e l =>
    cases hu:P.underlying t with
    |none =>
     have hc:=(fact Z w x x a a h1 h1).2.2 true
     exfalso
     unfold Instr.checkKey at hc
     simp[underlying,hu]at hc
    |some d=>simp only[Instr.findKey,Sem.run_bind,run_underlying hu,Result.andThen_ok,Instr.findNow,GB];exact h4
section
variable {kk vk:K} {es:List (kk.T×vk.T)} {l:List MapEntry}
abbrev kh(Z:Nat→Prop)(w:World)(kk vk:K)(es:List (kk.T×vk.T))(l:List MapEntry):Prop:=EE (aI Z w kk) (aI Z w vk) kk.isAgg vk.isAgg es l
theorem kh.keys(h:kh Z w kk vk es l):Keys Z w kk (es.map (·.1)) l :=
 ⟨by rw[List.length_map];exact h.1,fun i y e h1 h2=>by
  rw[List.getElem?_map]at h1
  obtain⟨x,h3,rfl⟩:=Option.map_eq_some_iff.1 h1
  exact(h.2 i x e h3 h2).1⟩
theorem Aw{x:kk.T}:(es.map (·.1)).findIdx? (rG kk x)=tD kk x es:=by unfold tD;rw[List.findIdx?_map];rfl
theorem EI{x:kk.T}{i:Nat}(h:tD kk x es=some i):i<es.length:=by
 unfold tD at h
 exact(List.findIdx?_eq_some_iff_getElem.1 h).1
theorem TM{x:kk.T}{i:Nat}(h:tD kk x es=some i):∃e,es[i]? = some e∧rG kk x e.1=true:=by
 unfold tD at h
 obtain⟨h1,h2,_⟩:=List.findIdx?_eq_some_iff_getElem.1 h
 exact⟨_,List.getElem?_eq_getElem h1,h2⟩
def O5(Z:Nat→Prop)(w:World)(kk vk:K)(x:kk.T×vk.T)(e:MapEntry):Prop:=(aI Z w kk x.1 e.key.cells.toList∧I3 kk.isAgg e.key)∧aI Z w vk x.2 e.val.cells.toList∧I3 vk.isAgg e.val
theorem kh.set(h:kh Z w kk vk es l)(i:Nat){x:kk.T×vk.T}{f:MapEntry→MapEntry}(ho:∀e,l[i]? = some e→O5 Z w kk vk x (f e)):kh Z w kk vk (es.set i x) (l.modify i f):=by
 refine⟨by simp[h.1],fun j y e h1 h2=>?_⟩
 rw[List.getElem?_modify]at h2
 obtain⟨e0,h3,h4⟩:=Option.map_eq_some_iff.1 h2
 by_cases zk:i=j
 ·subst zk
  rw[if_pos rfl]at h4
  have aF:i<es.length:=by rw[h.1];exact(List.getElem?_eq_some_iff.1 h3).1
  rw[List.getElem?_set_self aF]at h1
  cases h1
  subst h4
  exact ho e0 h3
 ·rw[if_neg zk]at h4
  rw[List.getElem?_set_ne zk]at h1
  subst h4
  exact h.2 j y e0 h1 h3
theorem kh.push(h:kh Z w kk vk es l){x:kk.T×vk.T}{e:MapEntry}(ho:O5 Z w kk vk x e):kh Z w kk vk (es++[x]) (l++[e]):=by
 refine⟨by simp[h.1],fun j y e' h1 h2=>?_⟩
 by_cases hj:j<es.length
 ·rw[List.getElem?_append_left hj]at h1
  rw[List.getElem?_append_left (by rw[←h.1];exact hj)]at h2
  exact h.2 j y e' h1 h2
 ·rw[List.getElem?_append_right (by omega)]at h1
  rw[List.getElem?_append_right (by have:=h.1;omega),←h.1]at h2
  by_cases h0:j-es.length=0
  ·rw[h0]at h1 h2;cases h1;cases h2;exact ho
  ·rw[List.getElem?_eq_none (by simp;omega)]at h1;cases h1
theorem kh.erase(h:kh Z w kk vk es l)(i:Nat):kh Z w kk vk (es.eraseIdx i) (l.eraseIdx i):=by
 refine⟨by rw[List.length_eraseIdx,List.length_eraseIdx,h.1],fun j y e h1 h2=>?_⟩
 rw[List.getElem?_eraseIdx]at h1 h2
 split at h1
 ·rename_i hj;rw[if_pos hj]at h2;exact h.2 j y e h1 h2
 ·rename_i hj;rw[if_neg hj]at h2;exact h.2 (j+1) y e h1 h2
theorem kh.mono(h:kh Z w kk vk es l)(hz:∀b,Z b→Z' b)(hs:ct Z w w'):kh Z' w' kk vk es l:=EE.imp (fun _ _ h=>h.mono hz hs) (fun _ _ h=>h.mono hz hs) h
end
theorem tQ{Eqs:TypeId→Option K}{t:TypeId}{kk vk:K}(h:mapOf P Eqs t=some (kk,vk)):∃a b,P.underlying t=some (.map a b)∧KY P Eqs a kk=true∧KX P b vk=true:=by
 unfold mapOf at h
 split at h
 ·rename_i a b hu
  split at h
  ·split at h
   ·rename_i hc
    cases h
    rw[Bool.and_eq_true]at hc
    exact⟨a,b,hu,hc.1,hc.2⟩
   ·cases h
  ·cases h
 ·cases h
theorem Jq{b:TypeId}{vk:K}(h:KX P b vk=true):∃z,(zeroValue b).run P w=.ok z w∧aI Z w vk (nR vk) z.cells.toList∧I3 vk.isAgg z:=by
 unfold KX at h
 split at h
 ·rename_i i hi
  split at h
  ·rename_i z hz
   refine⟨z,uN hi hz,?_⟩
   unfold OH at h
   split at h
   ·simp only[decide_eq_true_eq]at h;obtain⟨rfl,rfl⟩:=h;exact⟨by simp only[aI];rfl,fun h=>(by cases h),fun _=>rfl⟩
   ·rename_i b;simp only[Bool.not_eq_true']at h;subst h;exact⟨by simp only[aI];rfl,fun h=>(by cases h),fun _=>rfl⟩
   ·simp only[decide_eq_true_eq]at h;subst h;exact⟨by simp only[aI];rfl,fun h=>(by cases h),fun _=>rfl⟩
   ·simp only[decide_eq_true_eq]at h;obtain⟨rfl,rfl,rfl⟩:=h
    exact⟨by simp only[aI];exact⟨_,rfl,none,0,rfl,Nat.le_refl _,fun _=>rfl,fun i x hx=>by simp[nR]at hx⟩,fun h=>(by cases h),fun _=>rfl⟩
   ·cases h
  ·cases h
 ·cases h
theorem K2{hh:Heap}(g:Good Z ψ h w B0 O)(bB:∀id o,hh.get id=some o→h id=some o){m:AV}{u:Value}{kk vk:K}{es:List (kk.T×vk.T)}(hm:aw Z ψ h w m u)(hv:cK hh m=.mp kk vk es) :
  ∃A,u=.map A∧((A=none∧es=[])∨∃r bV clock,A=some r∧w.heap[r]? = some (.map bV clock)∧kh Z w kk vk es bV.toList):=by
 cases m with
 |mp KW TB O6 =>
  simp only[cK]at hv
  cases hv
  simp only[aw,aI]at hm
  obtain⟨A,h1,h2⟩:=hm
  cases h1
  refine⟨A,rfl,h2.imp (fun h=>h) fun⟨m,bV,clock,h3,_,h4,h5⟩=>⟨m,bV,clock,h3,h4,h5⟩⟩
 |bH id =>
  simp only[cK]at hv
  split at hv
  ·cases hv
  ·rename_i KW TB O6 hg
   cases hv
   have As:=bB _ _ hg
   simp only[aw]at hm
   have:=hm.2 (by rw[As];simp)
   subst this
   obtain⟨r,bV,clock,h1,h2,h3,_⟩:=g.row id (.map kk vk) es As
   exact⟨some r,h1,.inr ⟨r,bV,clock,rfl,h2,h3⟩⟩
  ·cases hv
 |_=>simp only[cK]at hv;cases hv
theorem Js{hh:Heap}(g:Good Z ψ h w B0 O)(bB:∀id o,hh.get id=some o→h id=some o){k:K}(hf:k.flat=true){a:AV}{x:k.T}{v:Value}(hx:fU k hh a=some x)(hr:aw Z ψ h w a v):aI Z w k x v.cells.toList∧I3 k.isAgg v:=by
 obtain⟨h1,h2,h3⟩:=tP (Z':=fun b=>b<w.heap.size) (g.sub bB) (fun b hb=>g.jP b hb) (fun id b _ h1 h2=>(g.sub bB).bP ⟨id,h1,h2⟩) hx (hr.less (fun _ h=>h) (ct.refl _ _) (fun id bO=>by
  obtain⟨o,ho⟩:=Option.ne_none_iff_exists'.1 bO
  exact⟨by rw[bB id o ho];simp,rfl⟩))
 exact⟨h1.flat hf,h2,h3⟩
theorem EJ{Eqs:TypeId→Option K}(CL:∀t k,Eqs t=some k→lN P t k){hh:Heap}(g:Good Z ψ h w B0 O)(bB:∀id o,hh.get id=some o→h id=some o){t:TypeId}{m i:AV}{u v:Value}{ok:Bool}{e:bI}
  (hm:aw Z ψ h w m u) (hi:aw Z ψ h w i v) (he:nV P Eqs hh t m i ok some=some e):∃y V,e=.val y∧(Instr.lookup t u v ok).run P w=.ok V w∧aw Z ψ h w y V:=by
 unfold nV at he
 split at he
 ·rename_i ka va kk vk es YC hv
  split at he
  ·rename_i hc
   obtain⟨rfl,rfl⟩:=hc
   split at he
   ·rename_i x hx
    cases he
    obtain⟨a,b,hu,hk,hz⟩:=tQ YC
    have K:=wz CL hk
    obtain⟨Jt,oT⟩:=Js g bB K.flat hx hi
    obtain⟨z,xV,CJ,I0⟩:=Jq (Z:=Z) (w:=w) hz
    have fin:∀(l:List MapEntry),kh Z w kk vk es l→∃V,((∃j,(Instr.findKey a v l).run P w=.ok (some (j,V)) w∧(jh kk x es).isSome=true)∨((Instr.findKey a v l).run P w=.ok none w∧(zeroValue b).run P w=.ok V w∧(jh kk x es).isSome=false)) ∧
      aI Z w vk ((jh kk x es).getD (nR vk)) V.cells.toList∧I3 vk.isAgg V:=by
     intro l hE
     have hf:=K.find Z w x v l (es.map (·.1)) Jt oT hE.keys
     rw[Aw]at hf
     cases Dy:tD kk x es with
     |none =>
      rw[Dy]at hf
      exact⟨z,.inr ⟨hf,xV,by simp[jh,Dy]⟩,by simpa[jh,Dy] using CJ,I0⟩
     |some j =>
      rw[Dy]at hf
      have hj:=EI Dy
      have h1:es[j]? = some es[j]:=List.getElem?_eq_getElem hj
      have I4:j<l.length:=by rw[←hE.1];exact hj
      have h2:l[j]? = some l[j]:=List.getElem?_eq_getElem I4
      obtain⟨_,h3,h4⟩:=hE.2 j _ _ h1 h2
      refine⟨l[j].val,.inl ⟨j,?_,by simp[jh,Dy,h1]⟩,by simpa[jh,Dy,h1] using h3,h4⟩
      rw[hf];simp only[Option.map_some,h2,Option.getD_some]
    have out:∀V:Value,aI Z w vk ((jh kk x es).getD (nR vk)) V.cells.toList→I3 vk.isAgg V→aw Z ψ h w (cond ok (AV.ni [cf vk ((jh kk x es).getD (nR vk)),.bool (jh kk x es).isSome]) (cf vk ((jh kk x es).getD (nR vk)))) (if ok then .tuple #[V,.bool (jh kk x es).isSome] else V):=by
     intro V h1 h2
     have h3:aw Z ψ h w (cf vk ((jh kk x es).getD (nR vk))) V:=lM h1 h2.1 h2.2
     cases ok with
     |false=>exact h3
     |true=>simp only[cond_true,if_true,aw,an];exact⟨_,rfl,V,[.bool (jh kk x es).isSome],by simp,h3,_,[],rfl,rfl,rfl⟩
    obtain⟨A,rfl,hA⟩:=K2 g bB hm hv
    rcases hA with⟨rfl,rfl⟩|⟨r,bV,clock,rfl,h3,h4⟩
    ·obtain⟨V,h5,h6,h7⟩:=fin [] ⟨rfl,fun i x e h=>by simp at h⟩
     refine⟨_,_,rfl,?_,out V h6 h7⟩
     simp only[Instr.lookup,Sem.run_bind,run_underlying hu,Result.andThen_ok,Sem.run_pure,K.check Z w x v _ Jt oT]
     rcases h5 with⟨j,h8,h9⟩|⟨h8,h9,nr⟩
     ·simp[h8,h9]
     ·simp[h8,h9,nr]
    ·obtain⟨V,h5,h6,h7⟩:=fin bV.toList h4
     refine⟨_,_,rfl,?_,out V h6 h7⟩
     simp only[Instr.lookup,Sem.run_bind,run_underlying hu,Result.andThen_ok,Sem.run_pure,MapKept.run_getObj_map h3,K.check Z w x v _ Jt oT]
     rcases h5 with⟨j,h8,h9⟩|⟨h8,h9,nr⟩
     ·simp[h8,h9]
     ·simp[h8,h9,nr]
   ·cases he
  ·cases he
 ·cases he
end Go.Vs
namespace Go.Vs
variable {P:Program} {Z Z':Nat→Prop} {ψ ψ':Nat→Value} {h h':Hp} {w w':World} {B0:Nat} {O:Nat→Prop} {N:Nat→Prop}
theorem wA{r b:Nat}(o:Obj)(br:r≠b):(w.heap.setIfInBounds r o)[b]? = w.heap[b]? := by rw[Array.getElem?_setIfInBounds];simp[br]
theorem db.aeb{r:Nat}(ho:Own ψ h r)(o:Obj):db ψ h w { w with heap:=w.heap.setIfInBounds r o } :=
 ⟨rfl,rfl,rfl,by simp,fun b _ hb=>wA o (fun e=>hb (e▸ho))⟩
theorem rT{hp:Hp}(g:Good Z ψ hp w B0 O){id:Nat}(bO:hp id≠none){r:Nat}(hr:ob (ψ id)=some r)(aF:r<w.heap.size)(o:Obj){ok:OK}{x:ok.T}
  (hx:∀w':World,w'.heap=w.heap.setIfInBounds r o→ct Z w w'→jH Z w' ok (ψ id) x) :
  Next Z ψ hp w B0 O N Z ψ (ed hp id (some (.own ok x))) { w with heap:=w.heap.setIfInBounds r o }:=by
 have ho:Own ψ hp r:=⟨id,bO,hr⟩
 have kk:=db.aeb (w:=w) ho o
 refine g.write id bO kk (fun b hb _=>wA o (fun e=>hb (by rw[hr,e]))) _ (fun _ _ he=>by cases he) (fun YB x' he=>?_)
 cases he
 exact hx _ rfl (kk.same g)
theorem xY{l:List MapEntry}{i:Nat}{f:MapEntry→MapEntry}(hf:∀e,(f e).born=e.born):(l.modify i f).map (·.born)=l.map (·.born):=by
 apply List.ext_getElem?
 intro j
 simp only[List.getElem?_map,List.getElem?_modify]
 cases l[j]? with
 |none=>rfl
 |some e=>simp only[Option.map_some];split<;>simp[hf]
theorem wB{l:List MapEntry}:l.Pairwise (fun a b=>a.born≠b.born)↔(l.map (·.born)).Pairwise (·≠·):=by rw[List.pairwise_map]
theorem uQ{Eqs:TypeId→Option K}(CL:∀t k,Eqs t=some k→lN P t k){hh:Heap}(g:Good Z ψ hh.get w B0 O){t:TypeId}{m i v:AV}{u1 u2 u3:Value}{e:bI}
  (hm:aw Z ψ hh.get w m u1) (hi:aw Z ψ hh.get w i u2) (hv:aw Z ψ hh.get w v u3) (he:iI P Eqs hh t m i v some=some e) :
  ∃hw w' Z',e=.wr (.ni []) hw∧(Instr.mapUpdate t u1 u2 u3).run P w=.ok () w'∧Next Z ψ hh.get w B0 O N Z' ψ hw.get w':=by
 unfold iI at he
 split at he
 ·rename_i ka va id YC
  split at he
  ·rename_i kk vk es hg
   split at he
   ·rename_i hc
    obtain⟨rfl,rfl⟩:=hc
    split at he
    ·rename_i x y hx hy qT
     cases he
     obtain⟨a,b,hu,hk,_⟩:=tQ YC
     have K:=wz CL hk
     obtain⟨Jt,oT⟩:=Js g (fun _ _ h=>h) K.flat hx hi
     simp only[aw]at hm
     have WW:=hm.2 (by rw[hg];simp)
     obtain⟨r,bV,clock,h1,h2,h3,h4,h5⟩:=g.row id (.map kk vk) es hg
     rw[h1]at WW
     subst WW
     have bO:AV.bH id∉v.cells:=fun hc=>by
      have:=List.all_eq_true.1 qT _ hc
      simp at this
     have gd:=iw g v.cells
     have hgd:(cH hh v.cells).get id=some (.own (.map kk vk) es):=by rw[oZ _ _ _ bO];exact hg
     obtain⟨uR,xT,hv3⟩:=tP (Z':=qz Z ψ hh.get v.cells) g (fun b hb=>.inl hb) (fun id b h1 h2 h3=>.inr ⟨id,h1,h2,h3⟩) hy hv
     have Ze:aI (qz Z ψ hh.get v.cells) w kk x u2.cells.toList:=Jt.flat K.flat
     have aF:=(Array.getElem?_eq_some_iff.1 h2).1
     have jI:ob (ψ id)=some r:=by rw[h1];rfl
     have hE:kh (qz Z ψ hh.get v.cells) w kk vk es bV.toList:=kh.mono h3 (fun b hb=>.inl hb) (ct.refl _ _)
     have hf:=K.find Z w x u2 bV.toList (es.map (·.1)) Jt oT (kh.keys h3)
     rw[Aw]at hf
     have fin:∀(o:Obj) (O6:List (kk.T×vk.T)) (mL:Array MapEntry) (Ax:Nat),o=.map mL Ax→kh (qz Z ψ hh.get v.cells) w kk vk O6 mL.toList→(mL.toList.map (·.born)).Pairwise (·≠·)→(∀e∈mL.toList,e.born<Ax) →
       Next Z ψ hh.get w B0 O N (qz Z ψ hh.get v.cells) ψ ((cH hh v.cells).set id (.own (.map kk vk) O6)).get { w with heap:=w.heap.setIfInBounds r o }:=by
      rintro o O6 mL Ax rfl h6 h7 h8
      rw[mK]
      have n:=rT (N:=N) gd (by rw[hgd];simp) jI aF (.map mL Ax) (ok:=.map kk vk) (x:=O6) (fun w' Ju sm=>⟨r,mL,Ax,h1,by rw[Ju];simp[aF],kh.mono h6 (fun _ h=>h) sm,wB.2 h7,h8⟩)
      exact n.drop (fun b hb=>.inl hb) (fun b hb=>hb.imp (fun h=>h) (fun⟨i,_,h5,h6⟩=>⟨i,h5,h6⟩)) (dZ _ _)
     cases Dy:tD kk x es with
     |none =>
      rw[Dy]at hf
      refine⟨_,{ w with heap:=w.heap.setIfInBounds r (.map (bV.push { key:=u2,val:=u3,born:=clock }) (clock+1)) },qz Z ψ hh.get v.cells,rfl,?_,?_⟩
      rotate_left
      ·rw[show mC kk x y es=es++[(x,y)] by simp[mC,Dy]]
       refine fin _ _ (bV.push { key:=u2,val:=u3,born:=clock }) (clock+1) rfl ?_ ?_ ?_
       ·rw[Array.toList_push]
        exact hE.push ⟨⟨Ze,oT⟩,uR,xT,hv3⟩
       ·rw[Array.toList_push,List.map_append,List.pairwise_append]
        refine⟨wB.1 h4,by simp,fun a ha b hb=>?_⟩
        simp only[List.map_cons,List.map_nil,List.mem_singleton]at hb
        obtain⟨e,he,rfl⟩:=List.mem_map.1 ha
        have:=h5 e he
        omega
       ·intro e he
        rw[Array.toList_push]at he
        rcases List.mem_append.1 he with he|he
        ·have:=h5 e he;omega
        ·simp only[List.mem_singleton]at he;subst he;exact Nat.lt_succ_self _
      ·simp only[Instr.mapUpdate,Sem.run_bind,run_underlying hu,Result.andThen_ok,MapKept.run_getObj_map h2,K.check Z w x u2 _ Jt oT,hf,Option.map_none,MapKept.run_setObj_map _ h2]
     |some j =>
      rw[Dy]at hf
      have hj:=EI Dy
      obtain⟨e0,Vw,heq⟩:=TM Dy
      have I4:j<bV.toList.length:=by rw[←h3.1];exact hj
      have hl:bV.toList[j]? = some bV.toList[j]:=List.getElem?_eq_getElem I4
      have Tf:bV[j]? = some bV.toList[j]:=by rw[←hl];simp
      obtain⟨⟨Zg,aec⟩,_⟩:=h3.2 j _ _ Vw hl
      have sR:bV.toList[j].key=u2:=by
       refine MB aec oT ?_
       rw[←(zj kk x e0.1 K.flat).1 heq]at Zg
       exact o6 K.flat Zg Jt
      have Vx:(Instr.keyThatStays u2 u2).run P w=.ok u2 w:=by simp[Instr.keyThatStays,O3 K.flat Jt oT]
      refine⟨_,{ w with heap:=w.heap.setIfInBounds r (.map (bV.modify j fun e=>{ e with key:=u2,val:=u3 }) clock) },qz Z ψ hh.get v.cells,rfl,?_,?_⟩
      rotate_left
      ·rw[show mC kk x y es=es.set j (x,y) by simp[mC,Dy]]
       refine fin _ _ (bV.modify j fun e=>{ e with key:=u2,val:=u3 }) clock rfl ?_ ?_ ?_
       ·rw[Array.toList_modify]
        exact hE.set j (fun e he=>⟨⟨Ze,oT⟩,uR,xT,hv3⟩)
       ·rw[Array.toList_modify,xY (f:=fun e:MapEntry=>{ e with key:=u2,val:=u3 }) (fun _=>rfl)];exact wB.1 h4
       ·intro e he
        have:e.born∈(bV.modify j fun e=>{ e with key:=u2,val:=u3 }).toList.map (·.born):=List.mem_map.2 ⟨e,he,rfl⟩
        rw[Array.toList_modify,xY (f:=fun e:MapEntry=>{ e with key:=u2,val:=u3 }) (fun _=>rfl)]at this
        obtain⟨e',WO,h6⟩:=List.mem_map.1 this
        rw[←h6];exact h5 e' WO
      ·simp only[Instr.mapUpdate,Sem.run_bind,run_underlying hu,Result.andThen_ok,MapKept.run_getObj_map h2,K.check Z w x u2 _ Jt oT,hf,Option.map_some,Tf,Option.getD_some,sR,Vx,MapKept.run_setObj_map _ h2]
    ·cases he
   ·cases he
  ·cases he
 ·cases he
theorem uS{Eqs:TypeId→Option K}(CL:∀t k,Eqs t=some k→lN P t k){hh:Heap}(g:Good Z ψ hh.get w B0 O){t ty:TypeId}{ts:List TypeId}{m i:AV}{u1 u2:Value}{e:bI}
  (hm:aw Z ψ hh.get w m u1) (hi:aw Z ψ hh.get w i u2) (he:nW P Eqs hh t m i some=some e) :
  ∃hw w',e=.wr (.ni []) hw∧(Builtin.delete_ (t::ts).toArray ty #[u1,u2]).run P w=.ok (.tuple #[]) w'∧Next Z ψ hh.get w B0 O N Z ψ hw.get w':=by
 unfold nW at he
 split at he
 ·rename_i ka va id YC
  split at he
  ·rename_i kk vk es hg
   split at he
   ·rename_i hc
    obtain⟨rfl,rfl⟩:=hc
    split at he
    ·rename_i x hx
     cases he
     obtain⟨a,b,hu,hk,_⟩:=tQ YC
     have K:=wz CL hk
     obtain⟨Jt,oT⟩:=Js g (fun _ _ h=>h) K.flat hx hi
     simp only[aw]at hm
     have WW:=hm.2 (by rw[hg];simp)
     obtain⟨r,bV,clock,h1,h2,h3,h4,h5⟩:=g.row id (.map kk vk) es hg
     rw[h1]at WW
     subst WW
     have aF:=(Array.getElem?_eq_some_iff.1 h2).1
     have jI:ob (ψ id)=some r:=by rw[h1];rfl
     have hf:=K.find Z w x u2 bV.toList (es.map (·.1)) Jt oT (kh.keys h3)
     rw[Aw]at hf
     have fin:∀(o:Obj) (O6:List (kk.T×vk.T)) (mL:Array MapEntry),o=.map mL clock→kh Z w kk vk O6 mL.toList→mL.toList.Sublist bV.toList →
       Next Z ψ hh.get w B0 O N Z ψ (hh.set id (.own (.map kk vk) O6)).get { w with heap:=w.heap.setIfInBounds r o }:=by
      rintro o O6 mL rfl h6 h7
      rw[mK]
      exact rT (N:=N) g (by rw[hg];simp) jI aF (.map mL clock) (ok:=.map kk vk) (x:=O6) (fun w' Ju sm=>⟨r,mL,clock,h1,by rw[Ju];simp[aF],kh.mono h6 (fun _ h=>h) sm,h4.sublist h7,fun e he=>h5 e (h7.subset he)⟩)
     cases Dy:tD kk x es with
     |none =>
      rw[Dy]at hf
      refine⟨_,{ w with heap:=w.heap.setIfInBounds r (.map bV clock) },rfl,?_,?_⟩
      rotate_left
      ·rw[show OG kk x es=es by simp[OG,Dy]]
       exact fin _ _ bV rfl h3 (List.Sublist.refl _)
      ·simp[Builtin.delete_,run_underlying hu,MapKept.run_getObj_map h2,K.check Z w x u2 _ Jt oT,hf,MapKept.run_setObj_map _ h2]
     |some j =>
      rw[Dy]at hf
      have hj:=EI Dy
      refine⟨_,{ w with heap:=w.heap.setIfInBounds r (.map (bV.eraseIdxIfInBounds j) clock) },rfl,?_,?_⟩
      rotate_left
      ·rw[show OG kk x es=es.eraseIdx j by simp[OG,Dy]]
       refine fin _ _ (bV.eraseIdxIfInBounds j) rfl ?_ ?_
       ·rw[Array.toList_eraseIdxIfInBounds];exact kh.erase h3 j
       ·rw[Array.toList_eraseIdxIfInBounds];exact List.eraseIdx_sublist _ _
      ·simp[Builtin.delete_,run_underlying hu,MapKept.run_getObj_map h2,K.check Z w x u2 _ Jt oT,hf,MapKept.run_setObj_map _ h2]
    ·cases he
   ·cases he
  ·cases he
 ·cases he
theorem Jv{hh:Heap}(g:Good Z ψ h w B0 O)(bB:∀id o,hh.get id=some o→h id=some o){t ty:TypeId}{x:AV}{u:Value}{e:bI}(ht:Jd P t=true)(hx:aw Z ψ h w x u)(he:wi hh x some=some e) :
  ∃n:Nat,e=.val (.int .i64 (n:Int))∧(Builtin.len_ #[t] ty #[u]).run P w=.ok (.int .i64 (n:Int)) w:=by
 unfold wi at he
 split at he
 ·rename_i kk vk es hv
  cases he
  have hu:∃a b,P.underlying t=some (.map a b):=by
   unfold Jd at ht
   split at ht
   ·exact⟨_,_,by assumption⟩
   ·cases ht
  obtain⟨a,b,hu⟩:=hu
  obtain⟨A,rfl,hA⟩:=K2 g bB hx hv
  rcases hA with⟨rfl,rfl⟩|⟨r,bV,clock,rfl,h3,h4⟩
  ·exact⟨0,rfl,by simp[Builtin.len_,run_underlying hu,goInt]⟩
  ·refine⟨es.length,rfl,?_⟩
   have:bV.size=es.length:=by rw[h4.1];simp
   simp[Builtin.len_,run_underlying hu,MapKept.run_getObj_map h3,goInt,this]
 ·cases he
theorem Ay(g:Good Z ψ h w B0 O)(hB:B0≤w.heap.size)(id:Nat)(hN:N id){ok:OK}{x:ok.T}{v:Value}(o:Obj)(ho:jH Z (w.alloc o) ok v x)(hb:ob v=some w.heap.size)
  (bu:∀i ty cs,h i=some (.box ty cs)→aC (fun i=>i≠id) cs):Next Z ψ h w B0 O N Z (ed ψ id v) (ed h id (some (.own ok x))) (w.alloc o) :=
 Gn g hB id hN (db.alloc _ _ _ _) (fun b hb=>heap_alloc_old w _ (g.bP hb)) ho (fun b zm=>by rw[hb]at zm;cases zm;exact Nat.le_refl _) bu
theorem CU{Eqs:TypeId→Option K}(g:Good Z ψ h w B0 O)(hB:B0≤w.heap.size){id:Nat}(hN:N id){t:TypeId}{e:bI}(bu:∀i ty cs,h i=some (.box ty cs)→aC (fun i=>i≠id) cs)(he:lq P Eqs id t some=some e) :
  ∃v w' ψ',(Instr.makeMap t none).run P w=.ok v w'∧Next Z ψ h w B0 O N Z ψ' (e.hp h) w'∧aw Z ψ' (e.hp h) w' e.v v:=by
 unfold lq at he
 split at he
 ·rename_i kk vk YC
  cases he
  refine⟨.map (some w.heap.size),w.alloc (.map #[] 0),ed ψ id (.map (some w.heap.size)),rfl,?_,?_⟩
  ·simp only[bI.hp];rw[iz]
   exact Ay g hB id hN (ok:=.map kk vk) (x:=[]) _ ⟨w.heap.size,#[],0,rfl,heap_alloc_new _ _,⟨rfl,fun i x e h=>by simp at h⟩,by simp,by simp⟩ rfl bu
  ·simp only[bI.v,bI.hp,aw]
   exact⟨⟨rfl,rfl⟩,fun _=>(bw _ _ _).symm⟩
 ·cases he
theorem EK(g:Good Z ψ h w B0 O)(hB:B0≤w.heap.size){id:Nat}(hN:N id){t:TypeId}{x:AV}{u:Value}{e:bI}(hx:aw Z ψ h w x u)(bu:∀i ty cs,h i=some (.box ty cs)→aC (fun i=>i≠id) cs)(he:nX P id t x some=some e) :
  ∃v w' ψ',(Instr.range t u).run P w=.ok v w'∧Next Z ψ h w B0 O N Z ψ' (e.hp h) w'∧aw Z ψ' (e.hp h) w' e.v v:=by
 unfold nX at he
 split at he
 ·rename_i sv hu
  cases he
  simp only[aw]at hx
  subst hx
  refine⟨.pointer (some ⟨w.heap.size,0,none⟩),w.alloc (.stringIter sv 0),ed ψ id (.pointer (some ⟨w.heap.size,0,none⟩)),?_,?_,?_⟩
  ·simp only[Instr.range,Sem.run_bind,run_underlying hu,Result.andThen_ok,Sem.run_pure];rfl
  ·simp only[bI.hp];rw[iz]
   exact Ay g hB id hN (ok:=.nQ) (x:=(sv,0)) _ ⟨w.heap.size,rfl,heap_alloc_new _ _⟩ rfl bu
  ·simp only[bI.v,bI.hp,aw]
   exact⟨⟨rfl,rfl⟩,fun _=>(bw _ _ _).symm⟩
 ·cases he
theorem gj{r:Nat}{o:Obj}(hb:w.heap[r]? = some o)(hc:∀c e f,o≠.cells c e f):(getObj r).run P w=.ok o w:=by
 cases o<;>first|(exact absurd rfl (hc _ _ _))|simp[getObj,Sem.run,hb]
theorem Az{r:Nat}{o o':Obj}(hb:w.heap[r]? = some o)(hc:∀c e f,o≠.cells c e f):(setObj r o').run P w=.ok () { w with heap:=w.heap.setIfInBounds r o' }:=by
 cases o<;>first|(exact absurd rfl (hc _ _ _))|simp[setObj,Sem.run,hb]
theorem GC{hh:Heap}(g:Good Z ψ h w B0 O)(bB:∀id o,hh.get id=some o→h id=some o){ty:TypeId}{x:AV}{u:Value}{e:bI}(hx:aw Z ψ h w x u)(nM:∀v hw,e=.wr v hw→hh.get=h)(he:rI hh x some=some e) :
  ∃v w',(Instr.next u true ty).run P w=.ok v w'∧Next Z ψ h w B0 O N Z ψ (e.hp h) w'∧aw Z ψ (e.hp h) w' e.v v:=by
 unfold rI at he
 split at he
 ·rename_i id
  split at he
  ·rename_i x hg
   have As:=bB _ _ hg
   simp only[aw]at hx
   have hu:=hx.2 (by rw[As];simp)
   obtain⟨r,h1,h2⟩:=g.row id .nQ x As
   rw[h1]at hu
   subst hu
   cases hc:decide (x.2<x.1.size) with
   |true =>
    rw[hc]at he;cases he
    have heq:=nM _ _ rfl
    simp only[decide_eq_true_eq]at hc
    have aF:=(Array.getElem?_eq_some_iff.1 h2).1
    refine⟨.tuple #[.bool true,goInt x.2,.int .i32 (Utf8.decode x.1 x.2).1],{ w with heap:=w.heap.setIfInBounds r (.stringIter x.1 (x.2+(Utf8.decode x.1 x.2).2)) },?_,?_,?_⟩
    ·simp only[Instr.next,Sem.run_bind,gj h2 (by simp),Result.andThen_ok,hc,if_true,Az h2 (by simp),Sem.run_pure]
    ·simp only[bI.hp]
     rw[mK,heq]
     exact rT (N:=N) g (by rw[As];simp) (by rw[h1];rfl) aF _ (ok:=.nQ) (x:=(x.1,x.2+z7 x.1 x.2)) (fun w' Ju _=>⟨r,h1,by rw[Ju];simp[aF,z7]⟩)
    ·simp only[bI.v,aw,an]
     exact⟨_,rfl,_,_,rfl,rfl,_,_,rfl,rfl,_,_,rfl,rfl,rfl⟩
   |false =>
    rw[hc]at he;cases he
    simp only[decide_eq_false_iff_not]at hc
    refine⟨.tuple #[.bool false],w,?_,Next.refl g,?_⟩
    ·simp only[Instr.next,Sem.run_bind,gj h2 (by simp),Result.andThen_ok,hc,if_false,Sem.run_pure]
    ·simp only[bI.v,aw,an]
     exact⟨_,rfl,_,_,rfl,rfl,rfl⟩
  ·cases he
 ·cases he
theorem find_born{l:List MapEntry}(h:l.Pairwise (fun a b=>a.born≠b.born)){e:MapEntry}(he:e∈l):l.find? (fun x=>x.born==e.born)=some e:=by
 induction l with
 |nil=>cases he
 |cons a r ih =>
  obtain⟨h1,h2⟩:=List.pairwise_cons.1 h
  rw[List.find?_cons]
  rcases List.mem_cons.1 he with rfl|he
  ·simp
  ·have:(a.born==e.born)=false:=by simpa using h1 e he
   rw[this];exact ih h2 he
theorem GD{hh:Heap}(g:Good Z ψ h w B0 O)(bB:∀id o,hh.get id=some o→h id=some o){x:AV}{u:Value}{e:bI}(hx:aw Z ψ h w x u)(he:rJ hh x some=some e) :
  ∃y v,e=.val y∧(Instr.entry u).run P w=.ok v w∧aw Z ψ h w y v:=by
 unfold rJ at he
 split at he
 ·rename_i id
  split at he
  ·rename_i kk vk c rest hg
   cases he
   have As:=bB _ _ hg
   simp only[aw]at hx
   have hu:=hx.2 (by rw[As];simp)
   obtain⟨r,m,since,seen,bV,clock,h1,h2,h3,h4,h5,h6,h7,h8,h9⟩:=g.row id (.iter kk vk) (some c,rest) As
   rw[h1]at hu
   subst hu
   obtain⟨en,nr,yR,I5⟩:=h9
   obtain⟨⟨k1,k2,k3⟩,v1,v2,v3⟩:=I5.2 0 c en rfl rfl
   refine⟨_,.tuple #[en.key,en.val],rfl,?_,?_⟩
   ·have hf:bV.find? (·.born==en.born)=some en:=by
     have:=find_born h5 nr
     rwa [←Array.find?_toList]
    simp only[Instr.entry,Sem.run_bind,gj h2 (by simp),Result.andThen_ok,yR,Sem.run_pure,gj h4 (by simp),hf]
    simp
   ·simp only[aw,an]
    exact⟨_,rfl,_,_,rfl,lM k1 k2 k3,_,_,rfl,lM v1 v2 v3,rfl⟩
  ·cases he
 ·cases he
end Go.Vs
namespace Go.Vs
variable {P:Program} {Z Z':Nat→Prop} {ψ ψ':Nat→Value} {h h':Hp} {w w':World} {B0:Nat} {O:Nat→Prop} {N:Nat→Prop}
mutual
theorem aJ.imp{p q:Nat→Prop}(AA:∀i,p i→q i):∀{a:AV},aJ p a→aJ q a
 |.no,_=>by simp only[aJ]
 |.bool b,_=>by simp only[aJ]
 |.int k n,_=>by simp only[aJ]
 |.str s,_=>by simp only[aJ]
 |.kY,_=>by simp only[aJ]
 |.fW,_=>by simp only[aJ]
 |.ref id s i off,h=>by simp only[aJ]at h ⊢;exact AA _ h
 |.fp k x off,_=>by simp only[aJ]
 |.sl ex k xs,_=>by simp only[aJ]
 |.mp kk vk es,_=>by simp only[aJ]
 |.bH id,h=>by simp only[aJ]at h ⊢;exact AA _ h
 |.fn f cap,h=>by simp only[aJ]at h ⊢;exact aC.imp AA h
 |.agg cs,h=>by simp only[aJ]at h ⊢;exact aC.imp AA h
 |.ni cs,h=>by simp only[aJ]at h ⊢;exact aC.imp AA h
theorem aC.imp{p q:Nat→Prop}(AA:∀i,p i→q i):∀{a:List AV},aC p a→aC q a
 |[],_=>by simp only[aC]
 |a::r,h=>by simp only[aC]at h ⊢;exact⟨aJ.imp AA h.1,aC.imp AA h.2⟩
end
theorem aJ.cells{p:Nat→Prop}{a:AV}(h:aJ p a):aC p a.cells:=by
 cases a with
 |agg cs=>simpa only[AV.cells,aJ] using h
 |_=>simp only[AV.cells,aC];exact⟨h,trivial⟩
theorem AB:∀{cs:List AV},Gi cs=true→∀id,AV.bH id∉cs
 |[],_,id=>by simp
 |c::r,hn,id=>by
  intro hm
  cases c with
  |bH i=>simp[Gi]at hn
  |_ =>
   simp only[Gi]at hn
   rcases List.mem_cons.1 hm with e|hm
   ·cases e
   ·exact AB hn id hm
theorem qV:∀{vs:List AV},qD vs=true→∀v∈vs,∀id,AV.bH id∉v.cells
 |[],_,v,hv=>by simp at hv
 |a::r,hn,v,hv=>by
  simp only[qD,Bool.and_eq_true]at hn
  rcases List.mem_cons.1 hv with rfl|hv
  ·exact AB hn.1
  ·exact qV hn.2 v hv
def uT(o:Oper):Bool :=
 match o.op with
 |.call { callee:=.value _,.. }=>true
 |_=>false
theorem Jw{s:List (Nat×AV)}{ρC:Operand→Value}{x:Option Operand}(hx:∀y,x=some y→aw Z ψ h w (ρ s y) (ρC y)):eC Z ψ h w (x.map (ρ s)) (x.map ρC):=by
 cases x with
 |none=>trivial
 |some y=>exact hx y rfl
theorem AD{s:List (Nat×AV)}{ρC:Operand→Value}:∀(ps:List (Nat×Operand)),(∀p∈ps,aw Z ψ h w (ρ s p.2) (ρC p.2))→(∀p∈ps,ρ s p.2≠.no)→sW Z ψ h w (ps.map fun p=>(p.1,ρ s p.2)) (ps.map fun p=>(p.1,ρC p.2))
 |[],_,_=>trivial
 |p::r,h1,h2=>⟨rfl,h2 p (by simp),h1 p (by simp),AD r (fun q hq=>h1 q (List.mem_cons_of_mem _ hq)) (fun q hq=>h2 q (List.mem_cons_of_mem _ hq))⟩
theorem Dz{k:K}{hh:Heap}:∀{ps:List (Nat×AV)} {i:Nat} {xs:List k.T},qI k hh i ps=some xs→∀p∈ps,p.2≠.no
 |[],_,_,_,p,hp=>by simp at hp
 |(j,v)::r,i,xs,hl,p,hp=>by
  simp only[qI]at hl
  split at hl
  ·split at hl
   ·rename_i x ys h1 h2
    rcases List.mem_cons.1 hp with rfl|hp
    ·exact Du h1
    ·exact Dz h2 p hp
   ·cases hl
  ·cases hl
theorem WX{α:Type}{l:List α}(h:l.length=0+1+1):∃x y,l=[x,y]:=by
 cases l with
 |nil=>simp at h
 |cons a r=>cases r with
  |nil=>simp at h
  |cons b s=>cases s with
   |nil=>exact⟨a,b,rfl⟩
   |cons c q=>simp at h
theorem Jx{a:AV}(h:Vq a=true):a≠.no:=by rintro rfl;cases h
section
variable {Eqs:TypeId→Option K} {Sg:FuncId→Option aM} {F:(f:FuncId)→(g:aM)→g.A→Option g.B}
theorem EL{hh:Heap}{ρC:Operand→Value}{o:Oper}(g:Good Z ψ h w B0 O)(hB:B0≤w.heap.size)(bB:∀id o,hh.get id=some o→h id=some o){id:Nat}(hN:N id){t:TypeId}{s x:AV}{u v:Value}{e:bI}
  (hs:aw Z ψ h w s u) (hx:aw Z ψ h w x v) (EM:aJ (fun i=>¬N i) s) (bu:∀i ty cs,h i=some (.box ty cs)→aC (fun i=>¬N i) cs) (nM:∀v hw,e=.wr v hw→hh.get=h) (he:nT P hh id t s x some=some e)
  (dx:∀V w',(Builtin.append_ #[t,t] o.type #[u,v]).run P w=.ok V w'→(execOp ρC o).run P w=.ok (.value V) w'):gZ P ρC o Z ψ h w B0 O N e:=by
 have Tg:∀i ty cs,h i=some (.box ty cs)→aC (fun i=>i≠id) cs:=fun i ty cs hb=>(bu i ty cs hb).imp (fun j hj e=>hj (by rw[e];exact hN))
 unfold nT at he
 split at he
 ·cases he
 ·rename_i et het
  have ht:=nC het
  split at he
  ·cases he
  ·rename_i kk TN
   split at he
   ·rename_i ys CV mz
    obtain⟨inf,z,I2⟩:=cp mz
    split at he
    ·
     cases hc:aO 0 ys.length with
     |false=>rw[hc]at he;cases he
     |true =>
      rw[hc]at he;cases he
      simp only[aO,decide_eq_true_eq]at hc
      simp only[aw]at hs
      subst hs
      obtain⟨V,w',h1,h2,h3⟩:=qd (P:=P) (ty:=o.type) g bB hB hN ht I2 CV hx (by omega) Tg
      refine⟨V,w',Z,_,.inl (dx V w' h1),by simp only[bI.hp];rw[iz];exact h2,?_⟩
      simp only[bI.v,bI.hp,aw]
      exact⟨h3,fun _=>(bw _ _ _).symm⟩
    ·
     rename_i cS
     split at he
     ·rename_i e' k' xs hg
      split at he
      ·rename_i hc
       obtain⟨rfl,rfl⟩:=hc
       cases uy:aO xs.length ys.length with
       |false=>rw[uy]at he;cases he
       |true =>
        rw[uy]at he;cases he
        simp only[aO,decide_eq_true_eq]at uy
        have heq:=nM _ _ rfl
        have As:=bB _ _ hg
        simp only[aw]at hs
        have hu:=hs.2 (by rw[As];simp)
        subst hu
        simp only[aJ]at EM
        obtain⟨V,w',h1,h2,h3⟩:=yS (P:=P) (ty:=o.type) g bB hB hN (fun e=>EM (by rw[e];exact hN)) ht I2 As CV hx uy Tg
        refine⟨V,w',Z,_,.inl (dx V w' h1),by simp only[bI.hp];rw[mK,uO,heq];exact h2,?_⟩
        simp only[bI.v,bI.hp,aw]
        exact⟨h3,fun _=>(bw _ _ _).symm⟩
      ·cases he
     ·cases he
    ·
     rename_i ex k' xs
     split at he
     ·rename_i hc
      subst hc
      cases uy:(ex&&((!ys.isEmpty || xs.isEmpty)&&aO xs.length ys.length)) with
      |false=>rw[uy]at he;cases he
      |true =>
       rw[uy]at he;cases he
       simp only[Bool.and_eq_true,Bool.or_eq_true,aO,decide_eq_true_eq,Bool.not_eq_true',List.isEmpty_eq_false_iff,List.isEmpty_iff]at uy
       obtain⟨rfl,br,TO⟩:=uy
       obtain⟨V,w',h1,h2,h3⟩:=Am (P:=P) (ty:=o.type) g bB hB hN ht I2 hs CV hx (br.imp List.length_pos_iff.2 (fun h=>h)) TO Tg
       refine⟨V,w',Z,_,.inl (dx V w' h1),by simp only[bI.hp];rw[iz];exact h2,?_⟩
       simp only[bI.v,bI.hp,aw]
       exact⟨h3,fun _=>(bw _ _ _).symm⟩
     ·cases he
    ·cases he
   ·cases he
theorem AE{ρC:Operand→Value}{o:Oper}(g:Good Z ψ h w B0 O)(hB:B0≤w.heap.size){id:Nat}(hN:N id){t:TypeId}{vs:List AV}{us:Array Value}{e:bI}(hr:an Z ψ h w vs us.toList)(h1:∀u∈us.toList,u.oneCell'=true)
  (hm:aC (fun i=>¬N i) vs) (bu:∀i ty cs,h i=some (.box ty cs)→aC (fun i=>¬N i) cs) (he:wo id t vs some=some e)
  (dx:(execOp ρC o).run P w=.ok (.value (.pointer (some ⟨w.heap.size,0,none⟩))) (w.alloc (.cells us t))):gZ P ρC o Z ψ h w B0 O N e:=by
 unfold wo at he
 cases he
 have br:∀i,¬N i→i≠id:=fun j hj e=>hj (by rw[e];exact hN)
 have n:=Ai (N:=N) g hB id t hN hr h1 (fun i ty cs hb=>(bu i ty cs hb).imp br) (hm.imp br)
 refine⟨_,_,Z,_,.inl dx,by simp only[bI.hp];rw[iz];exact n,?_⟩
 simp only[bI.v,bI.hp,aw]
 exact⟨_,rfl,fun _=>by rw[bw];simp[TE]⟩
theorem MC{hh:Heap}{ρC:Operand→Value}{s:List (Nat×AV)}{o:Oper}(g:Good Z ψ h w B0 O)(hB:B0≤w.heap.size)(bB:∀id o,hh.get id=some o→h id=some o){id:Nat}(hN:N id){t:TypeId}{n:Nat}{ps:Array (Nat×Operand)}{e:bI}
  (nN:∀p∈ps.toList,aw Z ψ h w (ρ s p.2) (ρC p.2)) (bu:∀i ty cs,h i=some (.box ty cs)→aC (fun i=>¬N i) cs) (kM:Bool) {e0:bI} (TP:e=if kM then TD e0 else e0) (nM:∀v hw,e=.wr v hw→hh.get=h) (he:uC P hh id t n (ps.toList.map fun p=>(p.1,ρ s p.2)) some=some e0)
  (dx:∀V w',(Instr.buildSlice t n (ps.map fun p=>(p.1,ρC p.2))).run P w=.ok V w'→(execOp ρC o).run P w=.ok (.value V) w'):gZ P ρC o Z ψ h w B0 O N e:=by
 have Tg:∀i ty cs,h i=some (.box ty cs)→aC (fun i=>i≠id) cs:=fun i ty cs hb=>(bu i ty cs hb).imp (fun j hj e=>hj (by rw[e];exact hN))
 unfold uC at he
 split at he
 ·cases he
 ·rename_i et het
  have ht:=nC het
  split at he
  ·cases he
  ·rename_i k hk
   split at he
   ·cases he
   ·cases he
   ·rename_i xs n8 mz
    obtain⟨inf,z,I2⟩:=cp mz
    have Jy:=AD (Z:=Z) (ψ:=ψ) (h:=h) (w:=w) ps.toList nN (fun p hp=>Dz n8 (p.1,ρ s p.2) (List.mem_map.2 ⟨p,hp,rfl⟩))
    have K3:sW Z ψ hh.get w (ps.toList.map fun p=>(p.1,ρ s p.2)) (ps.map fun p=>(p.1,ρC p.2)).toList:=by
     rw[Array.toList_map];exact Jy.qo bB
    split at he
    ·rename_i hc
     obtain⟨rfl,hn⟩:=hc
     cases qT:qD ((ps.toList.map fun p=>(p.1,ρ s p.2)).map (·.2)) with
     |true =>
      rw[qT]at he;cases he
      have aed:=qV qT
      obtain⟨V,w',h1,h2,h3⟩:=Gu (P:=P) (N:=N) g (g.sub bB) (fun _ h=>h) hB hN ht I2 (fun p hp i b hm=>absurd hm (aed p.2 (List.mem_map.2 ⟨p,hp,rfl⟩) i)) K3 n8 hn Tg
      cases kM with
      |false =>
       have TP:e=.new (.bH id) [(id,.own (.row et k) xs)]:=TP
       subst TP
       refine⟨V,w',Z,_,.inl (dx V w' h1),by simp only[bI.hp];rw[iz];exact h2,?_⟩
       simp only[bI.v,bI.hp,aw]
       exact⟨h3.1,fun _=>(bw _ _ _).symm⟩
      |true =>
       have TP:e=.new (.sl true k xs) []:=TP
       subst TP
       obtain⟨m1,m2⟩:=OX g hB h2 h3.2.1 h3.2.2.1 h3.2.2.2
       have e1:(bI.new (.sl true k xs) []).hp h=h:=by funext i;simp[bI.hp,Heap.get]
       refine⟨V,w',_,_,.inl (dx V w' h1),by rw[e1];exact m1,?_⟩
       rw[e1];exact m2
     |false =>
      rw[qT]at he;cases he
      have TP:e=.wr (.bH id) ((id,.own (.row et k) xs)::cH hh ((ps.toList.map fun p=>(p.1,ρ s p.2)).flatMap (·.2.cells))):=by
       rw[TP];cases kM<;>rfl
      subst TP
      have heq:=nM _ _ rfl
      subst heq
      let cs:=(ps.toList.map fun p=>(p.1,ρ s p.2)).flatMap (·.2.cells)
      have gd:=iw g cs
      obtain⟨V,w',h1,h2,h3⟩:=Gu (P:=P) (N:=N) gd g (fun b hb=>.inl hb) hB hN ht I2 (fun p hp i b hm br hb=>.inr ⟨i,List.mem_flatMap.2 ⟨p,hp,hm⟩,br,hb⟩) K3 n8 hn (fun i ty cs' hb=>Tg i ty cs' (dZ _ _ _ _ hb))
      refine⟨V,w',qz Z ψ hh.get cs,ed ψ id V,.inl (dx V w' h1),?_,?_⟩
      ·simp only[bI.hp]
       rw[Ar]
       exact h2.drop (fun b hb=>.inl hb) (fun b hb=>hb.imp (fun h=>h) (fun⟨i,_,h5,h6⟩=>⟨i,h5,h6⟩)) (dZ _ _)
      ·simp only[bI.v,bI.hp,aw]
       exact⟨h3.1,fun _=>(bw _ _ _).symm⟩
    ·cases he
theorem MD{kM:Bool}{h:Heap}{id:Nat}{t:TypeId}{n:Nat}{ps:List (Nat×AV)}{e:bI}(he:wq P kM h id t n ps some=some e):∃e0,uC P h id t n ps some=some e0∧e=if kM then TD e0 else e0:=by
 unfold wq uC at he
 unfold uC
 split at he
 ·cases he
 split at he
 ·cases he
 split at he
 ·cases he
 ·cases he
 split at he
 ·rename_i hc
  rw[if_pos hc]
  cases qT:qD (ps.map (·.2)) with
  |true=>rw[qT]at he;exact⟨_,rfl,(Option.some.inj he).symm⟩
  |false=>rw[qT]at he;exact⟨_,rfl,(Option.some.inj he).symm⟩
 ·cases he
theorem AF(p:Nat→Prop)(v:Value):aJ p (wc v):=by
 cases v with
 |pointer a=>simp only[wc];split<;>simp only[aJ]
 |slice a n c=>simp only[wc];split<;>simp only[aJ]
 |func fn first cap =>
  cases fn with
  |func f=>simp only[wc];split<;>simp only[aJ,aC]
  |_=>simp only[wc,aJ]
 |_=>simp only[wc,aJ]
theorem wC(p:Nat→Prop):∀vs:List Value,aC p (vs.map wc)
 |[]=>by simp[aC]
 |v::r=>by simp only[List.map_cons,aC];exact⟨AF p v,wC p r⟩
theorem ME(p:Nat→Prop)(v:Value):aC p (tC v).cells:=by
 cases v with
 |agg cs=>simp only[tC,AV.cells];exact wC p _
 |_=>simp only[tC];rw[Dt];simp only[aC];exact⟨AF p _,trivial⟩
theorem O7(CL:∀t k,Eqs t=some k→lN P t k){hh:Heap}{ρC:Operand→Value}{s:List (Nat×AV)}{o:Oper}(g:Good Z ψ h w B0 O)(hB:B0≤w.heap.size)(bB:∀id o,hh.get id=some o→h id=some o){id:Nat}(hN:makes o.op=true→N id){e:bI}
  (nN:∀x∈o.op.operands,aw Z ψ h w (ρ s x) (ρC x)) (hm:∀x∈o.op.operands,aJ (fun i=>¬N i) (ρ s x)) (bu:∀i ty cs,h i=some (.box ty cs)→aC (fun i=>¬N i) cs) (nM:∀v hw,e=.wr v hw→hh.get=h)
  (I6:uT o=false) (he:cU P Eqs Sg F id hh s o some=some e):gZ P ρC o Z ψ h w B0 O N e:=by
 obtain⟨dst,op,type,pos,after,guard⟩:=o
 have two:∀{a b:Operand},(∀x∈(#[a,b]:Array Operand),aw Z ψ h w (ρ s x) (ρC x))→aw Z ψ h w (ρ s a) (ρC a)∧aw Z ψ h w (ρ s b) (ρC b):=fun hx=>⟨hx _ (by simp),hx _ (by simp)⟩
 cases op<;>simp only[cU]at he<;>simp only[Op.operands]at nN hm<;>first|(cases he;done)|skip
 case move x=>cases he;exact gZ.val g (V:=ρC x) (by simp[execOp]) (nN x (by simp))
 case assign x=>cases he;exact gZ.val g (V:=ρC x) (by simp[execOp]) (nN x (by simp))
 case pick c a b =>
  have h1:=nN c (by simp);have h2:=nN a (by simp);have h3:=nN b (by simp)
  split at he
  ·rename_i t ht
   cases he
   rw[ht]at h1
   simp only[aw]at h1
   refine gZ.val g (V:=if t then ρC a else ρC b) (by simp[execOp,h1,asBool]) ?_
   unfold Vp
   split
   ·rename_i p q hp hq
    rw[hp]at h2;rw[hq]at h3
    simp only[aw]at h2 h3 ⊢
    cases t<;>simp[h2,h3]
   ·cases t
    ·exact h3
    ·exact h2
  ·cases he
 case alloc t =>
  split at he
  ·rename_i z hz
   obtain⟨i,zv,hi,Za,rfl,h1⟩:=o5 hz
   exact AE (us:=zv.cells) g hB (hN rfl) (Ap zv) h1 (ME _ zv) bu he (by simp[execOp,Instr.alloc,uN hi Za,newVar,newRow,newObj,Sem.run])
  ·cases he
 case box t x =>
  have h1:=nN x (by simp)
  split at he
  ·rename_i hp
   have hc:=h1.cells (Gz hp)
   exact AE (us:=(ρC x).cells) g hB (hN rfl) hc (tO hp hc) (hm x (by simp)).cells bu he (by simp[execOp,Instr.box,newVar,newRow,newObj,Sem.run])
  ·cases he
 case build t ps =>
  unfold rK at he
  split at he
  ·rename_i z fs hz hf
   split at he
   ·rename_i cs Zh eV
    cases he
    simp only[Bool.and_eq_true]at eV
    obtain⟨eV,hnn⟩:=eV
    have Zi:fs.toList.all (fun f=>(P.info? f.type).isSome)=true:=eV
    have WY:∀p∈ps.toList,aw Z ψ h w (ρ s p.2) (ρC p.2):=fun p hp=>nN p.2 (by simp;exact⟨p.1,by simpa using hp⟩)
    have Jy:=AD (Z:=Z) (ψ:=ψ) (h:=h) (w:=w) ps.toList WY (fun p hp=>Jx (List.all_eq_true.1 hnn (p.1,ρ s p.2) (List.mem_map.2 ⟨p,hp,rfl⟩)))
    obtain⟨V,h1,h2⟩:=Mt (P:=P) (qs:=ps.map fun p=>(p.1,ρC p.2)) hz hf Zi (by rw[Array.toList_map];exact Jy) Zh
    exact gZ.val g (V:=V) (by simp only[execOp,Sem.run_bind];rw[h1];simp) h2
   ·cases he
  ·cases he
 case buildSlice t n ps =>
  have WY:∀p∈ps.toList,aw Z ψ h w (ρ s p.2) (ρC p.2):=fun p hp=>nN p.2 (by simp;exact⟨p.1,by simpa using hp⟩)
  obtain⟨e0,h0,h1⟩:=MD he
  exact MC g hB bB (hN rfl) WY bu (Vr Sg t _) h1 nM h0 (fun V w' h1=>by simp only[execOp,Sem.run_bind];rw[h1];simp)
 case load t a =>
  obtain⟨x,V,rfl,h1,h2⟩:=tM g bB (nN a (by simp)) he
  exact gZ.val g (V:=V) (by simp[execOp,h1]) h2
 case store t a v =>
  obtain⟨h1,h2⟩:=two nN
  have hw:∃hw,e=.wr .no hw:=by
   obtain⟨hw,_,_,h3,_⟩:=xW (P:=P) (N:=N) (g.sub bB) (h1.qo bB) (h2.qo bB) he
   exact⟨hw,h3⟩
  obtain⟨hw,rfl⟩:=hw
  have heq:=nM _ _ rfl
  subst heq
  obtain⟨Ju,w',Z',h3,h4,h5⟩:=xW (P:=P) (N:=N) g h1 h2 he
  cases h3
  exact⟨undef,w',Z',ψ,.inr ⟨by simp[execOp,h4],rfl⟩,h5,by simp only[bI.v,aw]⟩
 case nilCheck x =>
  have h1:=nN x (by simp)
  split at he
  ·rename_i id s i off hx
   cases he
   rw[hx]at h1
   have h2:=h1
   simp only[aw]at h1
   obtain⟨a,ha,_⟩:=h1
   exact gZ.val g (V:=ρC x) (by simp[execOp,ha]) h2
  ·rename_i k y off hx
   cases he
   rw[hx]at h1
   have h2:=h1
   simp only[aw]at h1
   obtain⟨a,us,ha,_⟩:=h1
   exact gZ.val g (V:=ρC x) (by simp[execOp,ha]) h2
  ·rename_i f cap hx
   cases he
   rw[hx]at h1
   have h2:=h1
   simp only[aw]at h1
   obtain⟨vs,ha,_⟩:=h1
   exact gZ.val g (V:=ρC x) (by simp[execOp,ha]) h2
  ·cases he
 case binOp op t x y yt =>
  obtain⟨h1,h2⟩:=two nN
  obtain⟨r,V,rfl,h3,h4⟩:=My CL (xo:=x) (yo:=y) h1 h2 he
  exact gZ.val g (V:=V) (by simp only[execOp,Sem.run_bind]at h3 ⊢;rw[h3];simp) h4
 case unOp op t x =>
  have h1:=nN x (by simp)
  cases op<;>simp only at he<;>first|(cases he;done)|skip
  split at he
  ·rename_i b hx
   cases he
   rw[hx]at h1
   simp only[aw]at h1
   exact gZ.val g (V:=.bool (!b)) (by simp[execOp,h1,Op.unary]) (by simp only[aw])
  ·cases he
 case convert src dst x =>
  have h1:=nN x (by simp)
  unfold Ac at he
  split at he
  ·rename_i k1 k2 k3 n hs hd hx
   cases he
   rw[hx]at h1
   simp only[aw]at h1
   exact gZ.val g (V:=.int k2 (k2.wrap n)) (by simp[execOp,h1,convert,run_underlying hs,run_underlying hd,Conv.intToInt]) (by simp only[aw])
  ·rename_i sv hs hd hx
   cases he
   rw[hx]at h1
   have h2:=h1
   simp only[aw]at h1
   exact gZ.val g (V:=ρC x) (by simp[execOp,h1,convert,run_underlying hs,run_underlying hd]) h2
  ·cases he
 case makeFunc fn first cap =>
  cases fn<;>simp only at he<;>first|(cases he;done)|skip
  rename_i f
  split at he
  ·rename_i hf
   cases he
   have h0:first=#[]:=Array.eq_empty_of_size_eq_zero hf
   subst h0
   have hl:∀l:List Operand,(∀x∈l,aw Z ψ h w (ρ s x) (ρC x))→an Z ψ h w (l.map (ρ s)) (l.map ρC):=by
    intro l
    induction l with
    |nil=>intro _;simp[an]
    |cons a r ih=>intro ha;simp only[List.map_cons,an];exact⟨_,_,rfl,ha a (by simp),ih (fun x hx=>ha x (List.mem_cons_of_mem _ hx))⟩
   exact gZ.val g (V:=.func (.func f) #[] (cap.map ρC)) (by simp[execOp,Instr.makeFunc]) (by simp only[aw];exact⟨_,rfl,by rw[Array.toList_map];exact hl _ (fun x hx=>nN x (by simp;simpa using hx))⟩)
  ·cases he
 case slice t x lo hi mx =>
  have h1:=nN x (by simp)
  have h2:eC Z ψ h w (lo.map (ρ s)) (lo.map ρC):=Jw (fun y hy=>nN y (by subst hy;simp))
  have h3:eC Z ψ h w (hi.map (ρ s)) (hi.map ρC):=Jw (fun y hy=>nN y (by subst hy;simp))
  have h4:eC Z ψ h w (mx.map (ρ s)) (mx.map ρC):=Jw (fun y hy=>nN y (by subst hy;simp))
  split at he
  ·rename_i ht
   unfold wh at he
   split at he
   ·rename_i sv hx hmx
    split at he
    ·rename_i l u hb
     cases ho:bq sv.size l u with
     |false=>rw[ho]at he;cases he
     |true =>
      rw[ho]at he;cases he
      rw[hx]at h1
      simp only[aw]at h1
      have hm0:mx=none:=by cases mx with
       |none=>rfl
       |some m=>simp at hmx
      subst hm0
      have dx:=tN (P:=P) (w:=w) (b:=false) (Nat.le_refl sv.size) h2 h3 (mx:=none) (mx':=none) trivial hb ho (.inl rfl)
      exact gZ.val g (V:=.string (WI sv l u)) (by simp[execOp,Instr.sliceAt,Instr.slice,run_underlying ht,h1,dx,WI]) (by simp only[aw])
    ·cases he
   ·cases he
  ·rename_i et ht
   split at he
   ·rename_i WT
    obtain⟨V,Z',h5,h6,h7⟩:=Gy (P:=P) (N:=N) g bB ht h1 h2 h3 h4 nM he WT
    exact⟨V,w,Z',ψ,.inl (by simp[execOp,h5]),h6,h7⟩
   ·cases he
  ·cases he
 case fieldAddr t x f =>
  have h1:=nN x (by simp)
  split at he
  ·rename_i n ft id sz i off hf hx
   split at he
   ·cases he
   ·rename_i hc
    cases he
    rw[hx]at h1
    obtain⟨V,h2,h3⟩:=sZ (P:=P) hf hc h1
    exact gZ.val g (V:=V) (by simp[execOp,h2]) h3
  ·rename_i n ft k y off hf hx
   split at he
   ·cases he
   ·rename_i hc
    cases he
    rw[hx]at h1
    obtain⟨V,h2,h3⟩:=uP (P:=P) hf hc h1
    exact gZ.val g (V:=V) (by simp[execOp,h2]) h3
  ·cases he
 case field t x f =>
  have h1:=nN x (by simp)
  split at he
  ·rename_i n ft cs hf hx
   split at he
   ·rename_i v hv
    cases he
    rw[hx]at h1
    obtain⟨V,h2,h3⟩:=Gx (P:=P) hf h1 hv
    exact gZ.val g (V:=V) (by simp[execOp,h2]) h3
   ·cases he
  ·cases he
 case indexAddr t x i =>
  obtain⟨h1,h2⟩:=two nN
  obtain⟨y,V,rfl,h3,h4⟩:=qe g bB h1 h2 he
  exact gZ.val g (V:=V) (by simp[execOp,h3]) h4
 case index t x i =>
  obtain⟨h1,h2⟩:=two nN
  split at he
  ·rename_i sv ik n ht hx hi
   obtain⟨c,hc,Td⟩:=Option.bind_eq_some_iff.1 he
   cases Td
   rw[hx]at h1;rw[hi]at h2
   simp only[aw]at h1 h2
   exact gZ.val g (V:=.int .u8 (c.toNat:Int)) (by simp[execOp,Instr.index,asIntOf,run_underlying ht,h1,h2,hc]) (by simp only[aw])
  ·cases he
 case extract t i =>
  have h1:=nN t (by simp)
  split at he
  ·rename_i vs hx
   split at he
   ·rename_i v hv
    cases he
    rw[hx]at h1
    simp only[aw]at h1
    obtain⟨us,hu,hl⟩:=h1
    obtain⟨u,h2,h3⟩:=hl.get i hv
    exact gZ.val g (V:=u) (by simp[execOp,Instr.extract,hu,show us[i]? = some u by simpa using h2]) h3
   ·cases he
  ·cases he
 case makeMap t r =>
  cases r with
  |some r=>cases he
  |none =>
   simp only at he
   have Tg:∀i ty cs,h i=some (.box ty cs)→aC (fun i=>i≠id) cs:=fun i ty cs hb=>(bu i ty cs hb).imp (fun j hj e=>hj (by rw[e];exact hN rfl))
   obtain⟨V,w',ψ',h1,h2,h3⟩:=CU g hB (hN rfl) Tg he
   exact⟨V,w',Z,ψ',.inl (by simp[execOp,h1]),h2,h3⟩
 case lookup t m i ok =>
  obtain⟨h1,h2⟩:=two nN
  obtain⟨y,V,rfl,h3,h4⟩:=EJ CL g bB h1 h2 he
  exact gZ.val g (V:=V) (by simp[execOp,h3]) h4
 case mapUpdate t m i v =>
  have h1:=nN m (by simp);have h2:=nN i (by simp);have h3:=nN v (by simp)
  have hw:∃hw,e=.wr (.ni []) hw:=by
   obtain⟨hw,_,_,h4,_⟩:=uQ (N:=N) CL (g.sub bB) (h1.qo bB) (h2.qo bB) (h3.qo bB) he
   exact⟨hw,h4⟩
  obtain⟨hw,rfl⟩:=hw
  have heq:=nM _ _ rfl
  subst heq
  obtain⟨Ju,w',Z',h4,h5,h6⟩:=uQ (N:=N) CL g h1 h2 h3 he
  cases h4
  exact⟨undef,w',Z',ψ,.inr ⟨by simp[execOp,h5],rfl⟩,h6,by simp only[bI.v,aw,an];exact⟨#[],rfl,rfl⟩⟩
 case range t x =>
  have Tg:∀i ty cs,h i=some (.box ty cs)→aC (fun i=>i≠id) cs:=fun i ty cs hb=>(bu i ty cs hb).imp (fun j hj e=>hj (by rw[e];exact hN rfl))
  obtain⟨V,w',ψ',h1,h2,h3⟩:=EK g hB (hN rfl) (nN x (by simp)) Tg he
  exact⟨V,w',Z,ψ',.inl (by simp[execOp,h1]),h2,h3⟩
 case next x b =>
  cases b with
  |false=>cases he
  |true =>
   obtain⟨V,w',h1,h2,h3⟩:=GC (P:=P) (N:=N) (ty:=type) g bB (nN x (by simp)) nM he
   exact⟨V,w',Z,ψ,.inl (by simp[execOp,h1]),h2,h3⟩
 case entry x =>
  obtain⟨y,V,rfl,h1,h2⟩:=GD (P:=P) g bB (nN x (by simp)) he
  exact gZ.val g (V:=V) (by simp[execOp,h1]) h2
 case call c =>
  obtain⟨callee,args,argTypes⟩:=c
  cases callee with
  |value f=>simp[uT]at I6
  |invoke r m=>simp only at he;cases he
  |builtin b =>
   have kV:∀x∈args.toList,aw Z ψ h w (ρ s x) (ρC x):=fun x hx=>nN x (by simp only[Call.operands];exact Array.mem_append.2 (.inr (by simpa using hx)))
   have O8:∀x∈args.toList,aJ (fun i=>¬N i) (ρ s x):=fun x hx=>hm x (by simp only[Call.operands];exact Array.mem_append.2 (.inr (by simpa using hx)))
   obtain⟨args⟩:=args
   obtain⟨argTypes⟩:=argTypes
   simp only at he kV O8
   cases b<;>simp only at he<;>first|(cases he;done)|skip
   case append =>
    split at he
    ·rename_i l1 l2 x y t t'
     split at he
     ·rename_i htt
      subst htt
      exact EL g hB bB (hN rfl) (kV x (by simp)) (kV y (by simp)) (O8 x (by simp)) bu nM he (fun V w' h1=>by
       simp only[execOp,resolve,invoke,builtin,Sem.run_bind,Sem.run_pure,Result.andThen_ok,List.map_toArray,List.map_cons,List.map_nil,h1])
     ·cases he
    ·cases he
   case delete =>
    split at he
    ·rename_i l1 l2 m x t ts
     have h1:=kV m (by simp);have h2:=kV x (by simp)
     have hw:∃hw,e=.wr (.ni []) hw:=by
      obtain⟨hw,_,h4,_⟩:=uS (N:=N) (ty:=type) (ts:=ts) CL (g.sub bB) (h1.qo bB) (h2.qo bB) he
      exact⟨hw,h4⟩
     obtain⟨hw,rfl⟩:=hw
     have heq:=nM _ _ rfl
     subst heq
     obtain⟨Ju,w',h4,h5,h6⟩:=uS (N:=N) (ty:=type) (ts:=ts) CL g h1 h2 he
     cases h4
     exact⟨.tuple #[],w',Z,ψ,.inl (by simp only[execOp,resolve,invoke,builtin,Sem.run_bind,Sem.run_pure,Result.andThen_ok,List.map_toArray,List.map_cons,List.map_nil,h5]),h6,by simp only[bI.v,aw,an];exact⟨#[],rfl,rfl⟩⟩
    ·cases he
   case len =>
    split at he
    ·rename_i l1 l2 x t
     split at he
     ·rename_i htm
      obtain⟨n,rfl,h1⟩:=Jv (P:=P) (ty:=type) g bB htm (kV x (by simp)) he
      exact gZ.val g (V:=.int .i64 (n:Int)) (by simp only[execOp,resolve,invoke,builtin,Sem.run_bind,Sem.run_pure,Result.andThen_ok,List.map_toArray,List.map_cons,List.map_nil,h1]) (by simp only[aw])
     split at he
     ·rename_i aF
      obtain⟨n,rfl,h1⟩:=Mw g bB (kV x (by simp)) he
      refine gZ.val g (V:=.int .i64 (n:Int)) ?_ (by simp only[aw])
      rcases h1 with⟨sv,h2,h3,rfl⟩|⟨A,c,h3⟩
      ·unfold WJ at aF
       rw[h2]at aF
       split at aF
       ·rename_i hu _
        simp[execOp,resolve,invoke,builtin,Builtin.len_,run_underlying hu,h3,goInt]
       ·cases aF
       ·rename_i h9;exact(h9 _ rfl).elim
       ·cases aF
      ·have hu:∃e,P.underlying t=some (.slice e):=by
        have h4:=kV x (by simp)
        rw[h3]at h4
        unfold WJ at aF
        split at aF
        ·rename_i sv _ hxx
         rw[hxx]at h4;simp only[aw]at h4;cases h4
        ·cases aF
        ·rename_i e _ hu _;exact⟨_,hu⟩
        ·cases aF
       obtain⟨e,hu⟩:=hu
       simp[execOp,resolve,invoke,builtin,Builtin.len_,run_underlying hu,h3,goInt]
     ·cases he
    ·cases he
   all_goals
    unfold Mn at he
    split at he
    ·rename_i k a k' b TQ
     have hl:=congrArg List.length TQ
     simp only[List.length_map,List.length_cons,List.length_nil]at hl
     obtain⟨x,y,rfl⟩:=WX hl
     simp only[List.map_cons,List.map_nil,List.cons.injEq,and_true]at TQ
     have h1:=kV x (by simp)
     have h2:=kV y (by simp)
     rw[TQ.1]at h1;rw[TQ.2]at h2
     simp only[aw]at h1 h2
     split at he
     ·rename_i hk
      subst hk
      cases he
      refine gZ.val g (V:=bT (.int _ _)) ?_ (jR _ _)
      first
       |(simp[execOp,resolve,invoke,builtin,Builtin.max_,Builtin.max2,h1,h2,bT];simp only[Int.max_def];split<;>split<;>omega)
       |(simp[execOp,resolve,invoke,builtin,Builtin.min_,Builtin.min2,h1,h2,bT];simp only[Int.min_def];split<;>split<;>omega)
     ·cases he
    ·cases he
end
end Go.Vs
namespace Go.Vs
variable {P:Program} {Z Z' Zf:Nat→Prop} {ψ ψ':Nat→Value} {h h':Hp} {w w':World} {B0:Nat} {O:Nat→Prop} {N:Nat→Prop}
abbrev xZ:=Nat×Option Nat×Ob
def dF(L:List xZ):Heap:=L.map fun e=>(e.1,e.2.2)
def jS(ψ:Nat→Value):Option Nat→Value
 |some s=>ψ s
 |none=>.slice none 0 0
def eW(ψ:Nat→Value):List xZ→Nat→Value
 |[],_=>undef
 |(i,s,_)::r,n=>if i=n then jS ψ s else eW ψ r n
theorem oa{L:List xZ}{i:Nat}{o:Ob}(hg:(dF L).get i=some o):∃s,(i,s,o)∈L:=by
 induction L with
 |nil=>simp[dF,Heap.get]at hg
 |cons e r ih =>
  obtain⟨j,s,o'⟩:=e
  simp only[dF,List.map_cons,Heap.get]at hg
  split at hg
  ·rename_i e;subst e;cases hg;exact⟨s,List.mem_cons_self⟩
  ·obtain⟨s',hs⟩:=ih hg;exact⟨s',List.mem_cons_of_mem _ hs⟩
theorem mM{i:Nat}{r:List Nat}(h:b7 (i::r)=true):i∉r∧b7 r=true:=by
 simp only[b7,Bool.and_eq_true,Bool.not_eq_true']at h
 exact⟨fun hm=>by rw[List.contains_iff_mem.2 hm]at h;simp at h,h.2⟩
theorem iJ{L:List xZ}(hn:b7 (L.map (·.1))=true){i:Nat}{s:Option Nat}{o:Ob}(hm:(i,s,o)∈L):eW ψ L i=jS ψ s:=by
 induction L with
 |nil=>cases hm
 |cons e r ih =>
  obtain⟨j,s',o'⟩:=e
  obtain⟨h1,h2⟩:=mM hn
  simp only[eW]
  rcases List.mem_cons.1 hm with he|hm
  ·cases he;simp
  ·rw[if_neg,ih h2 hm]
   rintro rfl
   exact h1 (List.mem_map.2 ⟨_,hm,rfl⟩)
theorem TR{L:List xZ}(hs:b7 (L.filterMap (·.2.1))=true){i j s:Nat}{o o':Ob}(h1:(i,some s,o)∈L)(h2:(j,some s,o')∈L):i=j∧o=o':=by
 induction L with
 |nil=>cases h1
 |cons e r ih =>
  obtain⟨k,s',o''⟩:=e
  have mem:∀{k:Nat} {o:Ob},(k,some s,o)∈r→s∈r.filterMap (·.2.1):=fun h=>List.mem_filterMap.2 ⟨_,h,rfl⟩
  rw[List.filterMap_cons]at hs
  cases s' with
  |none =>
   simp only[]at hs
   exact ih hs ((List.mem_cons.1 h1).resolve_left (by simp)) ((List.mem_cons.1 h2).resolve_left (by simp))
  |some s' =>
   simp only[]at hs
   obtain⟨h3,h4⟩:=mM hs
   rcases List.mem_cons.1 h1 with e1|m1<;>rcases List.mem_cons.1 h2 with e2|m2
   ·cases e1;cases e2;exact⟨rfl,rfl⟩
   ·cases e1;exact absurd (mem m2) h3
   ·cases e2;exact absurd (mem m1) h3
   ·exact ih h4 m1 m2
def GF:(ok:OK)→ok.T→Prop
 |.row _ _,xs=>xs=[]
 |_,_=>False
theorem GF.owns:∀{ok:OK} {xs:ok.T},GF ok xs→jH Z w ok (.slice none 0 0) xs
 |.row ty k,xs,h=>by
  have h:xs=[]:=h
  subst h
  exact⟨[],⟨by simp,.inl ⟨rfl,none,rfl⟩⟩,fun i x hx=>by simp at hx⟩
 |.map _ _,_,h=>h.elim
 |.iter _ _,_,h=>h.elim
 |.nQ,_,h=>h.elim
def uU(Z:Nat→Prop)(ψ:Nat→Value)(h:Hp)(w:World)(h':Hp)(ψ':Nat→Value):xZ→Prop
 |(_,some s,.own ok xs)=>h s=some (.own ok xs)
 |(_,none,.own ok xs)=>GF ok xs
 |(_,some s,.box ty cs')=>(∃cs,h s=some (.box ty cs))∧∀gg vs,ψ s=.pointer (some ⟨gg,0,none⟩)→w.heap[gg]? = some (.cells vs ty (0,0))→an Z ψ' h' w cs' vs.toList
 |(_,none,.box _ _)=>False
theorem Good.rename(g:Good Z ψ h w B0 O){L:List xZ}(hn:b7 (L.map (·.1))=true)(hs:b7 (L.filterMap (·.2.1))=true)(mz:∀e∈L,uU Z ψ h w (dF L).get (eW ψ L) e) :
  Good Z (eW ψ L) (dF L).get w B0 O:=by
 have src:∀id b,(dF L).get id≠none→ob (eW ψ L id)=some b→∃s o,(id,some s,o)∈L∧h s≠none∧ob (ψ s)=some b:=fun id b h1 h2=>by
  obtain⟨o,ho⟩:=Option.ne_none_iff_exists'.1 h1
  obtain⟨s,hm⟩:=oa ho
  rw[iJ hn hm]at h2
  cases s with
  |none=>simp[jS,ob]at h2
  |some s =>
   have h3:=mz _ hm
   refine⟨s,o,hm,?_,h2⟩
   cases o with
   |box ty cs=>obtain⟨⟨cs0,h4⟩,_⟩:=h3;rw[h4];simp
   |own ok xs=>rw[show h s=some (.own ok xs) from h3];simp
 refine⟨fun id ty cs hb=>?_,fun id ok xs hb=>?_,fun id b h1 h2=>?_,fun id mD b h1 h2 h3 h4=>?_,g.jP⟩
 ·obtain⟨s,hm⟩:=oa hb
  have h3:=mz _ hm
  rw[iJ hn hm]
  cases s with
  |none=>exact h3.elim
  |some s =>
   obtain⟨⟨cs0,h4⟩,h5⟩:=h3
   obtain⟨gg,vs,h6,h7,h8,h9⟩:=g.box s ty cs0 h4
   exact⟨gg,vs,h6,h7,h5 gg vs h6 h7,h9⟩
 ·obtain⟨s,hm⟩:=oa hb
  have h3:=mz _ hm
  rw[iJ hn hm]
  cases s with
  |none=>exact GF.owns h3
  |some s=>exact g.row s ok xs h3
 ·obtain⟨s,o,hm,h3,h4⟩:=src id b h1 h2
  exact g.live s b h3 h4
 ·obtain⟨s,o,hm,h5,h6⟩:=src id b h1 h3
  obtain⟨s',o',TS,h5',h6'⟩:=src mD b h2 h4
  have:=g.apart s s' b h5 h5' h6 h6'
  subst this
  exact(TR hs hm TS).1
def zn(hh:Heap)(i:Nat):List AV:=match hh.get i with
 |some (.box _ cs)=>cs
 |_=>[]
def dL:(dv:List CK)→Nat→List AV→qB dv→List xZ
 |[],_,_,_=>[]
 |.val k::r,n,cs,x=>dL r (n+1) (cs.drop k.sz) x.2
 |.own ok::r,n,cs,x=>(n,(oW (cs.headD .no)).head?,.own ok x.1)::dL r (n+1) cs.tail x.2
def dP:(b:BK)→Heap→Nat→Nat→Nat→b.T→List xZ
 |.box ty c,hh,i,i',n,x=>(i',some i,.box ty (aD c n x))::dL c n (zn hh i) x
 |.own ok,_,i,i',_,x=>[(i',some i,.own ok x)]
def cx:(bs:List BK)→Heap→List Nat→List Nat→Nat→we bs→List xZ
 |b::r,hh,i::is,i'::is',n,x=>dP b hh i i' n x.1++cx r hh is is' (n+16) x.2
 |_,_,_,_,_,_=>[]
theorem mN:∀(dv:List CK) (n:Nat) (cs:List AV) (x:qB dv),dF (dL dv n cs x)=bf dv n x
 |[],_,_,_=>rfl
 |.val k::r,n,cs,x=>mN r (n+1) _ x.2
 |.own ok::r,n,cs,x=>by simp only[dL,bf,dF,List.map_cons];rw[←mN r (n+1) cs.tail x.2];rfl
theorem k9:∀(dv:List CK) (n:Nat) (cs:List AV) (x:qB dv),(dL dv n cs x).map (·.1)=cg dv n
 |[],_,_,_=>rfl
 |.val k::r,n,cs,x=>k9 r (n+1) _ x.2
 |.own ok::r,n,cs,x=>by simp only[dL,cg,List.map_cons];rw[k9 r (n+1) cs.tail x.2]
theorem wD(c:AV):(oW c).head?.toList=oW c:=by cases c<;>rfl
theorem dQ{α β:Type}(f:α→Option β)(a:α)(l:List α):(a::l).filterMap f=(f a).toList++l.filterMap f:=by
 rw[List.filterMap_cons];cases f a<;>rfl
theorem o9{k:K}{r:List CK}{hh:Heap}{cs:List AV}{x:qB (.val k::r)}(hd:cM (.val k::r) hh cs=some x):dI k ((cs.take k.sz).map (cK hh))=some x.1∧cM r hh (cs.drop k.sz)=some x.2:=by
 have e:cM (.val k::r) hh cs=(match dI k ((cs.take k.sz).map (cK hh)),cM r hh (cs.drop k.sz) with
  |some x,some y=>some ((x,y):k.T×qB r)
  |_,_=>none):=by cases cs<;>rfl
 rw[e]at hd
 clear e
 generalize dI k ((cs.take k.sz).map (cK hh))=o1 at hd ⊢
 generalize cM r hh (cs.drop k.sz)=o2 at hd ⊢
 cases o1 with
 |none=>cases hd
 |some x1 =>
  cases o2 with
  |none=>cases hd
  |some y1=>have:=Option.some.inj hd;subst this;exact⟨rfl,rfl⟩
theorem lO{ok:OK}{r:List CK}{hh:Heap}{cs:List AV}{x:qB (.own ok::r)}(hd:cM (.own ok::r) hh cs=some x):∃c cs',cs=c::cs'∧dU hh ok c=some x.1∧cM r hh cs'=some x.2:=by
 cases cs with
 |nil=>cases hd
 |cons c cs =>
  refine⟨c,cs,rfl,?_⟩
  have e:cM (.own ok::r) hh (c::cs)=(match dU hh ok c,cM r hh cs with
   |some x,some y=>some ((x,y):ok.T×qB r)
   |_,_=>none):=rfl
  rw[e]at hd
  clear e
  generalize dU hh ok c=o1 at hd ⊢
  generalize cM r hh cs=o2 at hd ⊢
  cases o1 with
  |none=>cases hd
  |some x1 =>
   cases o2 with
   |none=>cases hd
   |some y1=>have:=Option.some.inj hd;subst this;exact⟨rfl,rfl⟩
theorem pe:∀(dv:List CK) (n:Nat) (hh:Heap) (cs:List AV) (x:qB dv),cM dv hh cs=some x→(dL dv n cs x).filterMap (·.2.1)=fO dv cs
 |[],_,_,cs,_,_=>by cases cs<;>rfl
 |.val k::r,n,hh,cs,x,hd=>by
  obtain⟨_,h2⟩:=o9 hd
  have e:fO (.val k::r) cs=fO r (cs.drop k.sz):=by cases cs<;>rfl
  rw[e]
  exact pe r (n+1) hh _ x.2 h2
 |.own ok::r,n,hh,cs,x,hd=>by
  obtain⟨c,cs',rfl,_,h2⟩:=lO hd
  simp only[dL,fO]
  rw[dQ]
  simp only[List.headD_cons,List.tail_cons]
  rw[wD,pe r (n+1) hh cs' x.2 h2]
theorem lP{hh:Heap}{ok:OK}{c:AV}{xs:ok.T}(ho:dU hh ok c=some xs):(c=.fW∧GF ok xs)∨∃id,c=.bH id∧hh.get id=some (.own ok xs):=by
 unfold dU at ho
 split at ho
 ·cases ok with
  |row _ _=>cases ho;exact .inl ⟨rfl,rfl⟩
  |_=>cases ho
 ·rename_i id
  split at ho
  ·rename_i yO k' Y7 hg
   split at ho
   ·rename_i e
    subst e
    cases ho
    exact .inr ⟨id,rfl,hg⟩
   ·cases ho
  ·cases ho
 ·cases ho
theorem EN{hh:Heap}{ok:OK}{c:AV}{xs:ok.T}{v:Value}(ho:dU hh ok c=some xs)(hr:aw Z ψ hh.get w c v){n:Nat}(jg:h' n≠none→ψ' n=jS ψ (oW c).head?):aw Z' ψ' h' w' (.bH n) v:=by
 rcases lP ho with⟨rfl,_⟩|⟨id,rfl,hg⟩
 ·simp only[aw]at hr ⊢
  subst hr
  exact⟨⟨rfl,rfl⟩,fun hn=>(jg hn).symm⟩
 ·simp only[aw]at hr ⊢
  refine⟨hr.1,fun hn=>?_⟩
  rw[jg hn]
  exact hr.2 (by rw[hg];simp)
theorem rU{hh:Heap}(g:Good Z ψ hh.get w B0 O)(hz:∀b,Z b→Z' b):∀(dv:List CK) (n:Nat) (cs:List AV) (x:qB dv) (vs:List Value),cM dv hh cs=some x →
  (∀id b,AV.bH id∈qb dv cs→hh.get id≠none→ob (ψ id)=some b→Z' b)→(∀e∈dL dv n cs x,h' e.1≠none→ψ' e.1=jS ψ e.2.1) →
  an Z ψ hh.get w cs vs→an Z' ψ' h' w (aD dv n x) vs
 |[],n,cs,x,vs,hd,_,_,hr=>by
  cases cs with
  |nil=>simpa only[aD,an] using hr
  |cons c cs=>cases hd
 |.val k::r,n,cs,x,vs,hd,hf,jg,hr=>by
  obtain⟨h1,h2⟩:=o9 hd
  have e:qb (.val k::r) cs=cs.take k.sz++qb r (cs.drop k.sz):=by cases cs<;>rfl
  rw[e]at hf
  have rN:an Z ψ hh.get w (cs.take k.sz++cs.drop k.sz) vs:=by rw[List.take_append_drop];exact hr
  obtain⟨us,ws,rfl,h3,h4⟩:=an.split rN
  simp only[aD]
  have h5:=n6 (Z':=Z') g hz (fun id b bO=>hf id b (List.mem_append_left _ bO)) h3
  exact an.append (ij (dJ h1 h5)) (rU g hz r (n+1) (cs.drop k.sz) x.2 ws h2 (fun id b bO=>hf id b (List.mem_append_right _ bO)) jg h4)
 |.own ok::r,n,cs,x,vs,hd,hf,jg,hr=>by
  obtain⟨c,cs',rfl,h1,h2⟩:=lO hd
  simp only[an]at hr
  obtain⟨v,us,rfl,h3,h4⟩:=hr
  simp only[aD,an]
  refine⟨v,us,rfl,EN h1 h3 (fun hn=>jg (n,_,_) (by simp only[dL];exact List.mem_cons_self) hn),?_⟩
  exact rU g hz r (n+1) cs' x.2 us h2 hf (fun e he=>jg e (by simp only[dL];exact List.mem_cons_of_mem _ he)) h4
theorem fk{b:BK}{r:List BK}{hh:Heap}{i:Nat}{is:List Nat}{x:we (b::r)}(hd:c9 (b::r) hh (i::is)=some x):qc b hh i=some x.1∧c9 r hh is=some x.2:=by
 have e:c9 (b::r) hh (i::is)=(match qc b hh i,c9 r hh is with
   |some x,some y=>some ((x,y):b.T×we r)
   |_,_=>none):=rfl
 rw[e]at hd
 clear e
 generalize qc b hh i=o1 at hd ⊢
 generalize c9 r hh is=o2 at hd ⊢
 cases o1 with
 |none=>cases hd
 |some x1 =>
  cases o2 with
  |none=>cases hd
  |some y1=>have:=Option.some.inj hd;subst this;exact⟨rfl,rfl⟩
theorem rW{ty:TypeId}{c:List CK}{hh:Heap}{i:Nat}{x:qB c}(hd:qc (.box ty c) hh i=some x):∃cs,hh.get i=some (.box ty cs)∧cM c hh cs=some x:=by
 simp only[qc]at hd
 cases hb:Dl hh i ty with
 |none=>rw[hb]at hd;cases hd
 |some cs =>
  rw[hb]at hd
  refine⟨cs,?_,hd⟩
  unfold Dl at hb
  split at hb
  ·rename_i yO cs' hg
   split at hb
   ·rename_i e;cases hb;rw[hg,e]
   ·cases hb
  ·cases hb
theorem jT{hh:Heap}{ok:OK}{i:Nat}{x:ok.T}(h:dU hh ok (.bH i)=some x):hh.get i=some (.own ok x):=by
 rcases lP h with⟨h,_⟩|⟨id,h,hg⟩
 ·cases h
 ·cases h;exact hg
theorem DA{ok:OK}{hh:Heap}{i:Nat}{x:ok.T}(hd:qc (.own ok) hh i=some x):hh.get i=some (.own ok x):=jT hd
theorem pf{hh:Heap}{i:Nat}{ty:TypeId}{cs:List AV}(hg:hh.get i=some (.box ty cs)):zn hh i=cs:=by unfold zn;rw[hg]
theorem EO(b:BK){hh:Heap}{i i' n:Nat}(x:b.T):dF (dP b hh i i' n x)=ji b i' n x:=by
 cases b with
 |box ty c=>simp only[dP,ji];rw[←mN c n (zn hh i) x];simp[dF]
 |own ok=>simp[dP,ji,dF]
theorem CW(b:BK){hh:Heap}{i i' n:Nat}(x:b.T):(dP b hh i i' n x).map (·.1)=i'::cg b.dv n:=by
 cases b with
 |box ty c=>simp only[dP,List.map_cons,BK.dv];rw[k9]
 |own ok=>simp[dP,BK.dv,cg]
theorem GG(b:BK){hh:Heap}{i i' n:Nat}{x:b.T}(hd:qc b hh i=some x):(dP b hh i i' n x).filterMap (·.2.1)=j9 b hh i:=by
 cases b with
 |box ty c =>
  obtain⟨cs,h1,h2⟩:=rW hd
  simp only[dP,j9]
  rw[dQ,pf h1,pe c n hh cs x h2,h1]
  rfl
 |own ok=>simp[dP,j9]
theorem jn:∀(bs:List BK) (hh:Heap) (is is':List Nat) (n:Nat) (x:we bs),c9 bs hh is=some x→is'.length=bs.length→dF (cx bs hh is is' n x)=bz bs is' n x
 |[],hh,is,is',n,x,_,hl=>by cases is'<;>simp[cx,bz,dF]
 |b::r,hh,[],is',n,x,hd,_=>by cases hd
 |b::r,hh,i::is,[],n,x,_,hl=>by simp at hl
 |b::r,hh,i::is,i'::is',n,x,hd,hl=>by
  obtain⟨_,h3⟩:=fk hd
  have ih:=jn r hh is is' (n+16) x.2 h3 (by simpa using hl)
  simp only[cx,bz]
  rw[←ih,←EO b (hh:=hh) (i:=i) x.1]
  simp[dF]
theorem g6:∀(bs:List BK) (hh:Heap) (is is':List Nat) (n:Nat) (x:we bs),c9 bs hh is=some x→is'.length=bs.length→(cx bs hh is is' n x).map (·.1)=bZ bs is' n
 |[],hh,is,is',n,x,_,hl=>by cases is'<;>simp[cx,bZ]
 |b::r,hh,[],is',n,x,hd,_=>by cases hd
 |b::r,hh,i::is,[],n,x,_,hl=>by simp at hl
 |b::r,hh,i::is,i'::is',n,x,hd,hl=>by
  obtain⟨_,h3⟩:=fk hd
  have ih:=g6 r hh is is' (n+16) x.2 h3 (by simpa using hl)
  simp only[cx,bZ,List.map_append]
  rw[ih,CW,List.cons_append]
theorem ki:∀(bs:List BK) (hh:Heap) (is is':List Nat) (n:Nat) (x:we bs),c9 bs hh is=some x→is'.length=bs.length→(cx bs hh is is' n x).filterMap (·.2.1)=da bs hh is
 |[],hh,is,is',n,x,_,hl=>by cases is'<;>cases is<;>simp[cx,da]
 |b::r,hh,[],is',n,x,hd,_=>by cases hd
 |b::r,hh,i::is,[],n,x,_,hl=>by simp at hl
 |b::r,hh,i::is,i'::is',n,x,hd,hl=>by
  obtain⟨h1,h3⟩:=fk hd
  have ih:=ki r hh is is' (n+16) x.2 h3 (by simpa using hl)
  simp only[cx,da]
  rw[List.filterMap_append,ih,GG b h1]
theorem rX{hd:Hp}{hh:Heap}:∀(dv:List CK) (n:Nat) (cs:List AV) (x:qB dv),cM dv hh cs=some x→(∀s∈fO dv cs,hd s=hh.get s)→∀e∈dL dv n cs x,uU Z ψ hd w h' ψ' e
 |[],n,cs,x,_,_,e,he=>by simp[dL]at he
 |.val k::r,n,cs,x,Th,hk,e,he=>by
  obtain⟨_,h2⟩:=o9 Th
  have e0:fO (.val k::r) cs=fO r (cs.drop k.sz):=by cases cs<;>rfl
  rw[e0]at hk
  exact rX r (n+1) _ x.2 h2 hk e he
 |.own ok::r,n,cs,x,Th,hk,e,he=>by
  obtain⟨c,cs',rfl,h1,h2⟩:=lO Th
  simp only[dL,List.headD_cons,List.tail_cons]at he
  simp only[fO]at hk
  rcases List.mem_cons.1 he with rfl|he
  ·rcases lP h1 with⟨rfl,h3⟩|⟨id,rfl,h3⟩
   ·exact h3
   ·show hd id=some (.own ok x.1)
    rw[hk id (List.mem_append_left _ (by simp[oW])),h3]
  ·exact rX r (n+1) cs' x.2 h2 (fun s hs=>hk s (List.mem_append_right _ hs)) e he
theorem Jz{hd:Hp}{hh:Heap}(g:Good Z ψ hh.get w B0 O)(hz:∀b,Z b→Z' b)(b:BK){i i' n:Nat}{x:b.T}(Th:qc b hh i=some x)
  (hf:∀id g,AV.bH id∈z8 b hh i→hh.get id≠none→ob (ψ id)=some g→Z' g) (hk:∀s∈j9 b hh i,hd s=hh.get s) (jg:∀e∈dP b hh i i' n x,h' e.1≠none→ψ' e.1=jS ψ e.2.1) :
  ∀e∈dP b hh i i' n x,uU Z' ψ hd w h' ψ' e:=by
 intro e he
 cases b with
 |box ty c =>
  obtain⟨cs,h1,h2⟩:=rW Th
  simp only[z8,j9,h1]at hf hk
  have WZ:∀e∈dL c n cs x,h' e.1≠none→ψ' e.1=jS ψ e.2.1:=fun e he=>jg e (by simp only[dP];rw[pf h1];exact List.mem_cons_of_mem _ he)
  simp only[dP]at he
  rcases List.mem_cons.1 he with rfl|he
  ·refine⟨⟨cs,by rw[hk i List.mem_cons_self,h1]⟩,fun gg vs h4 h5=>?_⟩
   obtain⟨gg',g8,h6,h7,h8,_⟩:=g.box i ty cs h1
   rw[h6]at h4
   cases h4
   rw[h5]at h7
   cases h7
   exact rU g hz c n cs x _ h2 hf WZ h8
  ·rw[pf h1]at he
   exact rX c n cs x h2 (fun s hs=>hk s (List.mem_cons_of_mem _ hs)) e he
 |own ok =>
  have h1:=DA Th
  simp only[dP,List.mem_singleton]at he
  subst he
  show hd i=some (.own ok x)
  rw[hk i (by simp[j9]),h1]
theorem lQ{hd:Hp}{hh:Heap}(g:Good Z ψ hh.get w B0 O)(hz:∀b,Z b→Z' b):∀(bs:List BK) (is is':List Nat) (n:Nat) (x:we bs),c9 bs hh is=some x →
  (∀id b,AV.bH id∈fY bs hh is→hh.get id≠none→ob (ψ id)=some b→Z' b)→(∀s∈da bs hh is,hd s=hh.get s)→(∀e∈cx bs hh is is' n x,h' e.1≠none→ψ' e.1=jS ψ e.2.1) →
  ∀e∈cx bs hh is is' n x,uU Z' ψ hd w h' ψ' e
 |[],is,is',n,x,_,_,_,_,e,he=>by simp[cx]at he
 |b::r,[],is',n,x,Th,_,_,_,e,he=>by cases Th
 |b::r,i::is,[],n,x,_,_,_,_,e,he=>by simp[cx]at he
 |b::r,i::is,i'::is',n,x,Th,hf,hk,jg,e,he=>by
  obtain⟨h1,h3⟩:=fk Th
  simp only[fY,da]at hf hk
  simp only[cx]at he jg
  rcases List.mem_append.1 he with he|he
  ·exact Jz g hz b h1 (fun id g bO=>hf id g (List.mem_append_left _ bO)) (fun s hs=>hk s (List.mem_append_left _ hs)) (fun e he=>jg e (List.mem_append_left _ he)) e he
  ·exact lQ g hz r is is' (n+16) x.2 h3 (fun id b bO=>hf id b (List.mem_append_right _ bO)) (fun s hs=>hk s (List.mem_append_right _ hs)) (fun e he=>jg e (List.mem_append_right _ he)) e he
theorem rY{kept:List Nat}{kM:List AV}(hk:wm kept kM=true):b7 kept=true∧∀(hh:Heap) s,s∈kept→(cH hh kM).get s=hh.get s:=by
 unfold wm at hk
 rw[Bool.and_eq_true]at hk
 exact⟨hk.1,fun hh s hs=>oZ _ _ _ (rQ (List.all_eq_true.1 hk.2 s hs))⟩
theorem wE{hh:Heap}{kM:List AV}{kept:List Nat}(g:Good Z ψ hh.get w B0 O)(hk:wm kept kM=true){L:List xZ}(hn:b7 (L.map (·.1))=true)(hs:L.filterMap (·.2.1)=kept)
  (mz:∀e∈L,uU (qz Z ψ hh.get kM) ψ (cH hh kM).get w (dF L).get (eW ψ L) e):Good (qz Z ψ hh.get kM) (eW ψ L) (dF L).get w B0 O :=
 (iw g kM).rename hn (by rw[hs];exact(rY hk).1) mz
theorem zo{L:List xZ}(hn:b7 (L.map (·.1))=true):∀e∈L,(dF L).get e.1≠none→eW ψ L e.1=jS ψ e.2.1:=fun⟨i,s,o⟩ he _=>iJ hn he
theorem mO(A B:List xZ):dF (A++B)=dF A++dF B:=by simp[dF]
theorem zp{hh:Heap}{i s i':Nat}{v:Value}(hr:aw Z ψ hh.get w (.ref i s 0 0) v)(hi:hh.get i≠none)(jg:h' i'≠none→ψ' i'=ψ i):aw Z' ψ' h' w' (.ref i' 0 0 0) v:=by
 simp only[aw]at hr ⊢
 obtain⟨a,rfl,ha⟩:=hr
 refine⟨a,rfl,fun hn=>?_⟩
 rw[jg hn,ha hi]
 simp
theorem pj{v:AV}{i:Nat}(h:Dm v=some i):∃s,v=.ref i s 0 0:=by
 unfold Dm at h
 split at h
 ·cases h;exact⟨_,rfl⟩
 ·cases h
theorem jo{hh:Heap}:∀(bs:List BK) (is:List Nat) (x:we bs),c9 bs hh is=some x→is.length=bs.length∧∀i∈is,hh.get i≠none
 |[],[],_,_=>⟨rfl,fun i hi=>by cases hi⟩
 |[],_::_,_,h=>by cases h
 |_::_,[],_,h=>by cases h
 |b::r,i::is,x,h=>by
  obtain⟨h1,h3⟩:=fk h
  obtain⟨h4,h5⟩:=jo r is x.2 h3
  refine⟨by simp[h4],fun j hj=>?_⟩
  rcases List.mem_cons.1 hj with rfl|hj
  ·cases b with
   |box ty c=>obtain⟨cs,h1,_⟩:=rW h1;rw[h1];simp
   |own ok=>rw[DA h1];simp
  ·exact h5 j hj
theorem kj{hh:Heap}:∀(bs:List BK) (is is':List Nat) (n:Nat) (x:we bs),is.length=bs.length→∀p∈is.zip is',∃o,(p.2,some p.1,o)∈cx bs hh is is' n x
 |[],is,is',n,x,hl,p,hp=>by
  cases is with
  |nil=>simp at hp
  |cons a r=>simp at hl
 |b::r,[],is',n,x,hl,p,hp=>by simp at hp
 |b::r,i::is,[],n,x,hl,p,hp=>by simp at hp
 |b::r,i::is,i'::is',n,x,hl,p,hp=>by
  simp only[List.zip_cons_cons]at hp
  simp only[cx]
  rcases List.mem_cons.1 hp with rfl|hp
  ·cases b with
   |box ty c=>exact⟨_,List.mem_append_left _ (by simp only[dP];exact List.mem_cons_self)⟩
   |own ok=>exact⟨_,List.mem_append_left _ (by simp only[dP];exact List.mem_cons_self)⟩
  ·obtain⟨o,ho⟩:=kj r is is' (n+16) x.2 (by simpa using hl) p hp
   exact⟨o,List.mem_append_right _ ho⟩
theorem K4{hd:Hp}{hh:Heap}{ok:OK}{c:AV}{xs:ok.T}(ho:dU hh ok c=some xs)(hk:∀s∈oW c,hd s=hh.get s){n:Nat}:uU Z ψ hd w h' ψ' (n,(oW c).head?,.own ok xs):=by
 rcases lP ho with⟨rfl,h3⟩|⟨id,rfl,h3⟩
 ·exact h3
 ·show hd id=some (.own ok xs)
  rw[hk id (by simp[oW]),h3]
end Go.Vs
namespace Go.Vs
variable {P:Program} {Z Z':Nat→Prop} {ψ ψ':Nat→Value} {h h':Hp} {w w':World} {B0:Nat} {O:Nat→Prop} {N:Nat→Prop}
def gk:Hp:=fun _=>none
def I7:Nat→Value:=fun _=>undef
def DB(g:aM)(x:Gg (kO g.ps)):List AV:=(aU g.ps [] 0 x).map (·.2)
def Zj(P:Program)(f:FuncId)(g:aM)(x:g.A)(y:g.B):Prop :=
 ∀(Z:Nat→Prop) (w:World) (kl:List Value),(∀b,Z b→b<w.heap.size)→an Z I7 gk w (DB g x.1) kl →
  Calls P (f%1000) kl.toArray w fun e w'=>∃v Z' ψ',e=.returned v∧(∀b,Z b→Z' b)∧(∀b,Z' b→Z b∨w.heap.size≤b)∧db I7 gk w w' ∧
   Good Z' ψ' (ak g.rs 3000 y.1).get w' w.heap.size (fun _=>False)∧aw Z' ψ' (ak g.rs 3000 y.1).get w' (fb (aV g.rs [] 2000 3000 y.1)) v
theorem ya{p:PK}{ps:List PK}{vs:List AV}(hi:cF (p::ps) vs=some []):∃a r,vs=a::r∧cF ps r=some []∧(p≠.ref∧p≠.own)∧(∀f n,p=.F9 f n→a=.fn f [])∧(∀n,p=.agg n→a=.agg []):=by
 cases vs with
 |nil=>cases p<;>simp[cF]at hi
 |cons a r =>
  cases p with
  |val k=>exact⟨a,r,rfl,by simpa only[cF] using hi,by simp,by simp,by simp⟩
  |ref =>
   simp only[cF]at hi
   split at hi<;>simp at hi
  |own =>
   cases a<;>simp only[cF]at hi<;>first|(cases hi;done)|skip
   split at hi<;>simp at hi
  |F9 f n =>
   cases a<;>simp only[cF]at hi<;>first|(cases hi;done)|skip
   rename_i f' cap
   split at hi
   ·rename_i hc
    obtain⟨rfl,tI⟩:=hc
    split at hi
    ·rename_i a1 b1 h1 h2
     simp only[Option.some.injEq,List.append_eq_nil_iff]at hi
     obtain⟨rfl,rfl⟩:=hi
     have WN:cap=[]:=by
      cases cap with
      |nil=>rfl
      |cons c cs=>simp only[jM]at h1;split at h1<;>simp at h1
     subst WN
     exact⟨_,r,rfl,h2,by simp,by rintro f n ⟨⟩;rfl,by simp⟩
    ·cases hi
   ·cases hi
  |agg n =>
   cases a<;>simp only[cF]at hi<;>first|(cases hi;done)|skip
   rename_i cs
   split at hi
   ·split at hi
    ·rename_i a1 b1 h1 h2
     simp only[Option.some.injEq,List.append_eq_nil_iff]at hi
     obtain⟨rfl,rfl⟩:=hi
     have Mu:cs=[]:=by
      cases cs with
      |nil=>rfl
      |cons c cs=>cases c<;>simp only[oX]at h1<;>first|(cases h1;done)|(split at h1<;>simp at h1)
     subst Mu
     exact⟨_,r,rfl,h2,by simp,by simp,fun _ _=>rfl⟩
    ·cases hi
   ·cases hi
theorem yc{k:K}{ps:List PK}{hh:Heap}{a:AV}{r:List AV}{x:k.T×Gg (kO ps)}(hv:eQ (.val k::ps) hh (a::r)=some x):fU k hh a=some x.1∧eQ ps hh r=some x.2:=by
 have e:eQ (.val k::ps) hh (a::r)=(match fU k hh a,eQ ps hh r with
  |some x,some y=>some ((x,y):k.T×Gg (kO ps))
  |_,_=>none):=rfl
 rw[e]at hv
 clear e
 generalize fU k hh a=o1 at hv ⊢
 generalize eQ ps hh r=o2 at hv ⊢
 cases o1 with
 |none=>cases hv
 |some x1 =>
  cases o2 with
  |none=>cases hv
  |some y1 =>
   have:=Option.some.inj hv
   subst this
   exact⟨rfl,rfl⟩
theorem AG{hh:Heap}(g:Good Z ψ hh.get w B0 O)(hz:∀b,Z b→Z' b)(ps:List PK):∀(s:Nat) (vs:List AV) (us:List Value) (x:Gg (kO ps)),(∀v∈vs,∀id b,AV.bH id∈v.cells→hh.get id≠none→ob (ψ id)=some b→Z' b) →
  cF ps vs=some []→eQ ps hh vs=some x→an Z ψ hh.get w vs us→an Z' I7 gk w ((aU ps [] s x).map (·.2)) us:=by
 induction ps with
 |nil =>
  intro s vs us x _ hi hv hr
  cases vs with
  |nil=>simpa only[aU,List.map_nil,an] using hr
  |cons a r=>simp[cF]at hi
 |cons p ps ih =>
  intro s vs us x hb hi hv hr
  obtain⟨a,r,rfl,tH,TT,W0,W9⟩:=ya hi
  simp only[an]at hr
  obtain⟨u,iY,rfl,h3,h4⟩:=hr
  cases p with
  |val k =>
   obtain⟨h1,h2⟩:=yc hv
   simp only[aU,List.map_cons,an]
   exact⟨u,iY,rfl,rR (Z':=Z') (ψ':=I7) (h':=gk) g hz (hb a List.mem_cons_self) h1 h3,ih (s+1) r iY x.2 (fun v hv=>hb v (List.mem_cons_of_mem _ hv)) tH h2 h4⟩
  |ref=>exact absurd rfl TT.1
  |own=>exact absurd rfl TT.2
  |F9 f n =>
   have ha:=W0 f n rfl
   subst ha
   have h2:eQ ps hh r=some x:=hv
   simp only[aU,List.map_cons,an,List.take_nil,List.map_nil,List.drop_nil]
   simp only[aw,an]at h3 ⊢
   exact⟨u,iY,rfl,h3,ih (s+1) r iY x (fun v hv=>hb v (List.mem_cons_of_mem _ hv)) tH h2 h4⟩
  |agg n =>
   have ha:=W9 n rfl
   subst ha
   have h2:eQ ps hh r=some x:=hv
   simp only[aU,List.map_cons,an,List.take_nil,List.map_nil,List.drop_nil]
   simp only[aw,an]at h3 ⊢
   exact⟨u,iY,rfl,h3,ih (s+1) r iY x (fun v hv=>hb v (List.mem_cons_of_mem _ hv)) tH h2 h4⟩
theorem Good.Zk(g:Good Z ψ h w B0 O)(k:db I7 gk w w')(hz:∀b,Z b→Z' b)(Oe:∀b,Z' b→Z b∨w.heap.size≤b)(aeh:∀b,Z' b→b<w'.heap.size)
  (hold:∀id,¬N id→h' id=h id∧ψ' id=ψ id)
  (bu:∀id ty cs,h id=some (.box ty cs)→aC (fun i=>¬N i) cs)
  (OP:∀id ty cs,N id→h' id=some (.box ty cs)→False)
  (n8:∀id ok xs,N id→h' id=some (.own ok xs)→jH Z' w' ok (ψ' id) xs)
  (Ah:∀id b,N id→h' id≠none→ob (ψ' id)=some b→w.heap.size≤b∧¬Z' b)
  (Jk:∀id mD b,N id→N mD→h' id≠none→h' mD≠none→ob (ψ' id)=some b→ob (ψ' mD)=some b→id=mD) (hB:B0≤w.heap.size) :
  Next Z ψ h w B0 O N Z' ψ' h' w':=by
 have cS:∀b,b<w.heap.size→w'.heap[b]? = w.heap[b]? := fun b hb=>k.block b hb (fun⟨id,h1,_⟩=>h1 rfl)
 have sm:ct Z w w':=fun b hb=>cS b (g.jP b hb)
 have ns:∀id,h' id≠none→(h id≠none∧ψ' id=ψ id)∨N id:=fun id bO=>by
  by_cases hn:N id
  ·exact .inr hn
  ·obtain⟨e1,e2⟩:=hold id hn
   exact .inl ⟨by rwa [e1]at bO,e2⟩
 have xR:∀id b,¬N id→h' id≠none→ob (ψ' id)=some b→Own ψ h b:=fun id b hn h1 h2=>by
  obtain⟨e1,e2⟩:=hold id hn
  exact⟨id,by rwa [e1]at h1,by rwa [e2]at h2⟩
 have kk:db ψ h w w':=⟨k.os,k.tape,k.output,k.size,fun b hb _=>cS b hb⟩
 refine⟨hz,fun b hb=>(Oe b hb).imp (fun h=>h) .inr,kk,ns,⟨fun id ty cs hb=>?_,fun id ok xs hb=>?_,fun id b h1 h2=>?_,fun id mD b h1 h2 h3 h4=>?_,aeh⟩⟩
 ·by_cases hn:N id
  ·exact(OP id ty cs hn hb).elim
  ·obtain⟨e1,e2⟩:=hold id hn
   rw[e1]at hb
   obtain⟨gg,vs,h1,h2,h3,h4⟩:=g.box id ty cs hb
   exact⟨gg,vs,by rw[e2,h1],(cS gg (Array.getElem?_eq_some_iff.1 h2).1).trans h2,h3.move hz sm (fun i hp bO=>(ns i bO).resolve_right hp) (bu id ty cs hb),h4⟩
 ·by_cases hn:N id
  ·exact n8 id ok xs hn hb
  ·obtain⟨e1,e2⟩:=hold id hn
   rw[e1]at hb
   rw[e2]
   exact(g.row id ok xs hb).kept hz sm (fun gg Mp=>cS gg (g.bP ⟨id,by rw[hb];simp,Mp⟩))
 ·by_cases hn:N id
  ·obtain⟨h3,h4⟩:=Ah id b hn h1 h2
   exact⟨h4,.inl (by omega)⟩
  ·obtain⟨e1,e2⟩:=hold id hn
   rw[e1]at h1;rw[e2]at h2
   have h3:=g.live id b h1 h2
   refine⟨fun Y5=>?_,h3.2⟩
   rcases Oe b Y5 with h4|h4
   ·exact h3.1 h4
   ·have:=g.bP ⟨id,h1,h2⟩;omega
 ·by_cases hn:N id<;>by_cases Jl:N mD
  ·exact Jk id mD b hn Jl h1 h2 h3 h4
  ·have:=(Ah id b hn h1 h3).1
   have:=g.bP (xR mD b Jl h2 h4);omega
  ·have:=(Ah mD b Jl h2 h4).1
   have:=g.bP (xR id b hn h1 h3);omega
  ·obtain⟨e1,e2⟩:=hold id hn
   obtain⟨e3,e4⟩:=hold mD Jl
   rw[e1]at h1;rw[e2]at h3;rw[e3]at h2;rw[e4]at h4
   exact g.apart id mD b h1 h2 h3 h4
theorem bF{r:RK}{rs:List RK}(h:(r::rs).all RK.plain=true):rs.all RK.plain=true:=by simp only[List.all_cons,Bool.and_eq_true]at h;exact h.2
theorem MF{c:List CK}{rs:List RK}(h:(RK.agg c::rs).all RK.plain=true):c.length≤16:=by
 simp only[List.all_cons,Bool.and_eq_true,RK.plain,decide_eq_true_eq]at h;exact h.1
theorem lR:∀(c:List CK) (a:Nat) (x:qB c) (i:Nat),i<a→(bf c a x).get i=none
 |[],_,_,_,_=>rfl
 |.val _::r,a,x,i,h=>by simp only[bf];exact lR r (a+1) x.2 i (by omega)
 |.own ok::r,a,x,i,h=>by simp only[bf,Heap.get];rw[if_neg (by omega)];exact lR r (a+1) x.2 i (by omega)
theorem tR:∀(c:List CK) (a:Nat) (x:qB c) (i:Nat),a+c.length≤i→(bf c a x).get i=none
 |[],_,_,_,_=>rfl
 |.val _::r,a,x,i,h=>by simp only[List.length_cons]at h;simp only[bf];exact tR r (a+1) x.2 i (by omega)
 |.own ok::r,a,x,i,h=>by simp only[List.length_cons]at h;simp only[bf,Heap.get];rw[if_neg (by omega)];exact tR r (a+1) x.2 i (by omega)
theorem tS:∀(c:List CK) (a b:Nat) (x:qB c) (j:Nat),(bf c a x).get (a+j)=(bf c b x).get (b+j)
 |[],_,_,_,_=>rfl
 |.val _::r,a,b,x,0=>by simp only[bf];rw[lR _ _ _ _ (by omega),lR _ _ _ _ (by omega)]
 |.own ok::r,a,b,x,0=>by simp[bf,Heap.get]
 |.val _::r,a,b,x,j+1=>by
  simp only[bf]
  rw[show a+(j+1)=a+1+j by omega,show b+(j+1)=b+1+j by omega]
  exact tS r (a+1) (b+1) x.2 j
 |.own ok::r,a,b,x,j+1=>by
  simp only[bf,Heap.get]
  rw[if_neg (by omega),if_neg (by omega),show a+(j+1)=a+1+j by omega,show b+(j+1)=b+1+j by omega]
  exact tS r (a+1) (b+1) x.2 j
theorem nE:∀(c:List CK) (a:Nat) (x:qB c) (i:Nat) (ty:TypeId) (cs:List AV),(bf c a x).get i≠some (.box ty cs)
 |[],_,_,_,_,_=>by simp[bf,Heap.get]
 |.val _::r,a,x,i,ty,cs=>by simp only[bf];exact nE r (a+1) x.2 i ty cs
 |.own ok::r,a,x,i,ty,cs=>by
  simp only[bf,Heap.get]
  split
  ·simp
  ·exact nE r (a+1) x.2 i ty cs
theorem qW:∀(rs:List RK) (a:Nat) (y:lJ rs) (i:Nat),rs.all RK.plain=true→i<a→(ak rs a y).get i=none
 |[],a,y,i,_,h=>rfl
 |.val k::r,a,y,i,hp,h=>by simp only[ak];exact qW r (a+1) y.2 i (bF hp) (by omega)
 |.own ok::r,a,y,i,hp,h=>by simp only[ak,Heap.get];rw[if_neg (by omega)];exact qW r (a+1) y.2 i (bF hp) (by omega)
 |.eU _ _::r,a,y,i,hp,h=>by simp only[ak];exact qW r (a+1) y.2 i (bF hp) (by omega)
 |.agg c::r,a,y,i,hp,h=>by
  have h1:(bf c a y.1).get i=none:=lR c a y.1 i h
  have h2:=qW r (a+1) y.2 i (bF hp) (by omega)
  show Heap.get (bf c a y.1++ak r (a+1) y.2) i=none
  rw[Heap.get_append,h1,h2]
theorem GH:∀(rs:List RK) (a:Nat) (y:lJ rs) (i:Nat),rs.all RK.plain=true→a+rs.length+16≤i→(ak rs a y).get i=none
 |[],a,y,i,_,h=>rfl
 |.val k::r,a,y,i,hp,h=>by simp only[List.length_cons]at h;simp only[ak];exact GH r (a+1) y.2 i (bF hp) (by omega)
 |.own ok::r,a,y,i,hp,h=>by simp only[List.length_cons]at h;simp only[ak,Heap.get];rw[if_neg (by omega)];exact GH r (a+1) y.2 i (bF hp) (by omega)
 |.eU _ _::r,a,y,i,hp,h=>by simp only[List.length_cons]at h;simp only[ak];exact GH r (a+1) y.2 i (bF hp) (by omega)
 |.agg c::r,a,y,i,hp,h=>by
  simp only[List.length_cons]at h
  have hc:=MF hp
  have h1:(bf c a y.1).get i=none:=tR c a y.1 i (by omega)
  have h2:=GH r (a+1) y.2 i (bF hp) (by omega)
  show Heap.get (bf c a y.1++ak r (a+1) y.2) i=none
  rw[Heap.get_append,h1,h2]
theorem GI:∀(rs:List RK) (a b:Nat) (y:lJ rs) (j:Nat),rs.all RK.plain=true→(ak rs a y).get (a+j)=(ak rs b y).get (b+j)
 |[],_,_,_,_,_=>rfl
 |.val k::r,a,b,y,0,hp=>by simp only[ak];rw[qW _ _ _ _ (bF hp) (by omega),qW _ _ _ _ (bF hp) (by omega)]
 |.eU _ _::r,a,b,y,0,hp=>by simp only[ak];rw[qW _ _ _ _ (bF hp) (by omega),qW _ _ _ _ (bF hp) (by omega)]
 |.own ok::r,a,b,y,0,hp=>by simp[ak,Heap.get]
 |.val k::r,a,b,y,j+1,hp=>by
  simp only[ak]
  rw[show a+(j+1)=a+1+j by omega,show b+(j+1)=b+1+j by omega]
  exact GI r (a+1) (b+1) y.2 j (bF hp)
 |.eU _ _::r,a,b,y,j+1,hp=>by
  simp only[ak]
  rw[show a+(j+1)=a+1+j by omega,show b+(j+1)=b+1+j by omega]
  exact GI r (a+1) (b+1) y.2 j (bF hp)
 |.own ok::r,a,b,y,j+1,hp=>by
  simp only[ak,Heap.get]
  rw[if_neg (by omega),if_neg (by omega),show a+(j+1)=a+1+j by omega,show b+(j+1)=b+1+j by omega]
  exact GI r (a+1) (b+1) y.2 j (bF hp)
 |.agg c::r,a,b,y,j,hp=>by
  have h1:(bf c a y.1).get (a+j)=(bf c b y.1).get (b+j):=tS c a b y.1 j
  have h2:(ak r (a+1) y.2).get (a+j)=(ak r (b+1) y.2).get (b+j):=by
   cases j with
   |zero=>rw[qW _ _ _ _ (bF hp) (by omega),qW _ _ _ _ (bF hp) (by omega)]
   |succ j =>
    rw[show a+(j+1)=a+1+j by omega,show b+(j+1)=b+1+j by omega]
    exact GI r (a+1) (b+1) y.2 j (bF hp)
  show Heap.get (bf c a y.1++ak r (a+1) y.2) (a+j)=Heap.get (bf c b y.1++ak r (b+1) y.2) (b+j)
  rw[Heap.get_append,Heap.get_append,h1,h2]
theorem uV:∀(rs:List RK) (a:Nat) (y:lJ rs) (i:Nat) (ty:TypeId) (cs:List AV),rs.all RK.plain=true→(ak rs a y).get i≠some (.box ty cs)
 |[],_,_,_,_,_,_=>by simp[ak,Heap.get]
 |.val k::r,a,y,i,ty,cs,hp=>by simp only[ak];exact uV r (a+1) y.2 i ty cs (bF hp)
 |.eU _ _::r,a,y,i,ty,cs,hp=>by simp only[ak];exact uV r (a+1) y.2 i ty cs (bF hp)
 |.own ok::r,a,y,i,ty,cs,hp=>by
  simp only[ak,Heap.get]
  split
  ·simp
  ·exact uV r (a+1) y.2 i ty cs (bF hp)
 |.agg c::r,a,y,i,ty,cs,hp=>by
  have h1:(bf c a y.1).get i≠some (.box ty cs):=nE c a y.1 i ty cs
  show Heap.get (bf c a y.1++ak r (a+1) y.2) i≠some (.box ty cs)
  rw[Heap.get_append]
  split
  ·rename_i o ho;rw[ho]at h1;exact h1
  ·exact uV r (a+1) y.2 i ty cs (bF hp)
theorem lS(p:Nat→Prop):∀(k:K) (x:k.T),aC p (enc k x)
 |.int _,_=>by simp only[enc,aC,aJ];exact⟨trivial,trivial⟩
 |.bool,_=>by simp only[enc,aC,aJ];exact⟨trivial,trivial⟩
 |.str,_=>by simp only[enc,aC,aJ];exact⟨trivial,trivial⟩
 |.sl _,_=>by simp only[enc,aC,aJ];exact⟨trivial,trivial⟩
 |.mp _ _,_=>by simp only[enc,aC,aJ];exact⟨trivial,trivial⟩
 |.pair a b,x=>by
  simp only[enc]
  have h1:=lS p a x.1
  have h2:=lS p b x.2
  revert h1
  generalize enc a x.1=l
  induction l with
  |nil=>intro _;exact h2
  |cons c r ih=>intro h;simp only[List.cons_append,aC]at h ⊢;exact⟨h.1,ih h.2⟩
 |.one k,x=>by simp only[enc];exact lS p k x
theorem oc(p:Nat→Prop):∀(k:K) (x:k.T),aJ p (cf k x)
 |.int _,_=>by simp only[cf,aJ]
 |.bool,_=>by simp only[cf,aJ]
 |.str,_=>by simp only[cf,aJ]
 |.sl _,_=>by simp only[cf,aJ]
 |.mp _ _,_=>by simp only[cf,aJ]
 |.pair a b,x=>by simp only[cf,aJ];exact lS p (.pair a b) x
 |.one k,x=>by simp only[cf,aJ];exact lS p (.one k) x
theorem O9{k:K}{x:k.T}{v:Value}(hr:aw Z ψ h w (cf k x) v):aw Z ψ' h' w (cf k x) v :=
 hr.move (p:=fun _=>False) (fun _ h=>h) (ct.refl _ _) (fun _ hp _=>hp.elim) (oc _ k x)
theorem TU(r:RK)(rs:List RK)(b:Nat)(y:lJ (r::rs))(i:Nat)(hi:(ak rs (b+1) y.2).get i≠none):(ak (r::rs) b y).get i≠none:=by
 cases r with
 |val k=>exact hi
 |eU _ _=>exact hi
 |own ok=>simp only[ak,Heap.get];split<;>simp_all
 |agg c =>
  show Heap.get (bf c b y.1++ak rs (b+1) y.2) i≠none
  rw[Heap.get_append]
  split
  ·simp
  ·exact hi
theorem JA(c:List CK):∀{H:Hp} {a b:Nat} {x:qB c} {vs:List Value},(∀j,(bf c b x).get (b+j)≠none→h' (b+j)≠none→H (a+j)≠none∧ψ' (b+j)=ψ (a+j)) →
  an Z ψ H w (aD c a x) vs→an Z ψ' h' w (aD c b x) vs:=by
 induction c with
 |nil=>intro H a b x vs _ hr;simpa only[aD,an] using hr
 |cons k c ih =>
  intro H a b x vs hH hr
  cases k with
  |val k =>
   have rN:an Z ψ H w (enc k x.1++aD c (a+1) x.2) vs:=hr
   obtain⟨us,ws,rfl,h1,h2⟩:=rN.split
   show an Z ψ' h' w (enc k x.1++aD c (b+1) x.2) (us++ws)
   refine(h1.move (p:=fun _=>False) (fun _ h=>h) (ct.refl _ _) (fun _ hp _=>hp.elim) (lS _ k x.1)).append (ih (fun j hj br=>?_) h2)
   have:=hH (j+1)
   rw[show b+(j+1)=b+1+j by omega,show a+(j+1)=a+1+j by omega]at this
   exact this hj br
  |own ok =>
   have rN:an Z ψ H w (.bH a::aD c (a+1) x.2) vs:=hr
   simp only[an]at rN
   obtain⟨v,us,rfl,h1,h2⟩:=rN
   show an Z ψ' h' w (.bH b::aD c (b+1) x.2) (v::us)
   simp only[an]
   refine⟨v,us,rfl,?_,ih (fun j hj br=>?_) h2⟩
   ·simp only[aw]at h1 ⊢
    refine⟨h1.1,fun br=>?_⟩
    obtain⟨h3,h4⟩:=hH 0 (by simp[bf,Heap.get]) br
    rw[Nat.add_zero,Nat.add_zero]at h4
    rw[h4];exact h1.2 h3
   ·have:=hH (j+1)
    rw[show b+(j+1)=b+1+j by omega,show a+(j+1)=a+1+j by omega]at this
    refine this ?_ br
    have e:(bf (.own ok::c) b x).get (b+1+j)=(bf c (b+1) x.2).get (b+1+j):=by simp only[bf,Heap.get];rw[if_neg (by omega)]
    rw[e];exact hj
theorem Pb(rs:List RK):∀{H:Hp} {n m a b:Nat} {y:lJ rs} {vs:List Value},rs.all RK.plain=true→(∀j,(ak rs b y).get (b+j)≠none→h' (b+j)≠none→H (a+j)≠none∧ψ' (b+j)=ψ (a+j)) →
  an Z ψ H w (aV rs [] n a y) vs→an Z ψ' h' w (aV rs [] m b y) vs:=by
 induction rs with
 |nil=>intro H n m a b y vs _ _ hr;simpa only[aV,an] using hr
 |cons r rs ih =>
  intro H n m a b y vs hp hH hr
  have hpa:=hp
  simp only[List.all_cons,Bool.and_eq_true]at hp
  have Xa:∀j,(ak rs (b+1) y.2).get (b+1+j)≠none→h' (b+1+j)≠none→H (a+1+j)≠none∧ψ' (b+1+j)=ψ (a+1+j):=fun j hj br=>by
   have:=hH (j+1)
   rw[show b+(j+1)=b+1+j by omega,show a+(j+1)=a+1+j by omega]at this
   exact this (TU _ _ _ _ _ hj) br
  cases r with
  |val k =>
   simp only[aV,an]at hr ⊢
   obtain⟨v,us,rfl,h1,h2⟩:=hr
   exact⟨v,us,rfl,O9 h1,ih hp.2 Xa h2⟩
  |own ok =>
   simp only[aV,an]at hr ⊢
   obtain⟨v,us,rfl,h1,h2⟩:=hr
   refine⟨v,us,rfl,?_,ih hp.2 Xa h2⟩
   simp only[aw]at h1 ⊢
   refine⟨h1.1,fun br=>?_⟩
   obtain⟨h3,h4⟩:=hH 0 (by simp[ak,Heap.get]) br
   rw[Nat.add_zero,Nat.add_zero]at h4
   rw[h4];exact h1.2 h3
  |eU b c=>simp[RK.plain]at hp
  |agg c =>
   simp only[aV,an]at hr ⊢
   obtain⟨v,us,rfl,h1,h2⟩:=hr
   refine⟨v,us,rfl,?_,ih hp.2 Xa h2⟩
   simp only[aw]at h1 ⊢
   obtain⟨ws,rfl,h3⟩:=h1
   refine⟨ws,rfl,JA c (fun j hj br=>hH j ?_ br) h3⟩
   show Heap.get (bf c b y.1++ak rs (b+1) y.2) (b+j)≠none
   rw[Heap.get_append]
   split
   ·simp
   ·rename_i yd;exact absurd yd hj
theorem tT{Vy Vz:Nat→Value}{Zl Zm:Hp}{Zn Zo:Nat→Prop}{l l':List AV}{V:Value}(hl:l.length=l'.length)(hm:∀vs,an Zn Vy Zl w l vs→an Zo Vz Zm w l' vs)(hr:aw Zn Vy Zl w (fb l) V):aw Zo Vz Zm w (fb l') V:=by
 match l,l',hl with
 |[a],[a'],_ =>
  simp only[fb]at hr ⊢
  have:=hm [V] (by simp only[an];exact⟨V,[],rfl,hr,rfl⟩)
  simp only[an]at this
  obtain⟨v,us,e,h1,_⟩:=this
  cases e;exact h1
 |[],[],_ =>
  simp only[fb,aw]at hr ⊢
  obtain⟨us,rfl,h1⟩:=hr
  exact⟨us,rfl,hm _ h1⟩
 |a::b::r,a'::b'::r',_ =>
  simp only[fb,aw]at hr ⊢
  obtain⟨us,rfl,h1⟩:=hr
  exact⟨us,rfl,hm _ h1⟩
theorem kc(rs:List RK):∀(ids:List Nat) (n m:Nat) (y:lJ rs),(aV rs ids n m y).length=rs.length:=by
 induction rs with
 |nil=>intros;rfl
 |cons r rs ih=>intro ids n m y;cases r<;>simp[aV,ih]
theorem zq:∀(k:K) (x:k.T) (r:List AV),dec k (enc k x++r)=some (x,r)
 |.int _,x,r=>by simp only[enc,List.cons_append,List.nil_append,dec,Ey,if_true];rfl
 |.bool,x,r=>by simp only[enc,List.cons_append,List.nil_append,dec,ze];rfl
 |.str,x,r=>by simp only[enc,List.cons_append,List.nil_append,dec,Ez];rfl
 |.sl k,x,r=>by simp only[enc,List.cons_append,List.nil_append,dec,KU];rfl
 |.mp kk vk,x,r=>by simp only[enc,List.cons_append,List.nil_append,dec,KV];rfl
 |.pair a b,x,r=>by
  simp only[enc,dec,List.append_assoc]
  rw[zq a x.1 (enc b x.2++r)]
  simp only[]
  rw[zq b x.2 r]
  rfl
 |.one k,x,r=>by simp only[enc,dec];exact zq k x r
theorem tU(k:K)(x:k.T):dI k (enc k x)=some x:=by
 unfold dI
 have:=zq k x []
 rw[List.append_nil]at this
 rw[this]
theorem tV:∀(k:K) (x:k.T),(cf k x).cells=enc k x
 |.int _,_=>rfl
 |.bool,_=>rfl
 |.str,_=>rfl
 |.sl _,_=>rfl
 |.mp _ _,_=>rfl
 |.pair a b,x=>rfl
 |.one k,x=>rfl
theorem K5:∀(k:K) (x:k.T),cf k x≠.no
 |.int _,_=>by simp[cf]
 |.bool,_=>by simp[cf]
 |.str,_=>by simp[cf]
 |.sl _,_=>by simp[cf]
 |.mp _ _,_=>by simp[cf]
 |.pair a b,x=>by simp[cf]
 |.one k,x=>by simp[cf]
theorem AH:∀(k:K) (x:k.T),(cf k x).isAgg=k.isAgg
 |.int _,_=>rfl
 |.bool,_=>rfl
 |.str,_=>rfl
 |.sl _,_=>rfl
 |.mp _ _,_=>rfl
 |.pair a b,x=>rfl
 |.one k,x=>rfl
theorem MG{k:K}{x:k.T}{v:Value}(hr:aw Z ψ h w (cf k x) v):aI Z w k x v.cells.toList:=by
 have h1:=hr.cells (K5 k x)
 rw[tV]at h1
 exact dJ (tU k x) h1
theorem JB{k:K}{x:k.T}{v:Value}(hr:aw Z ψ h w (cf k x) v):(k.isAgg=true→∃vs,v=.agg vs)∧(k.isAgg=false→v.cells=#[v]) :=
 ⟨fun h=>O2 (by rw[AH];exact h) hr,fun h=>Dx (by rw[AH];exact h) (K5 k x) hr⟩
theorem Pc(rs:List RK):∀{H:Hp} {n m a b:Nat} {y:lJ rs} {vs:List Value},rs.all RK.flat=true→rs.all RK.plain=true→an Z ψ H w (aV rs [] n a y) vs→an Z' ψ' h' w' (aV rs [] m b y) vs:=by
 induction rs with
 |nil=>intro H n m a b y vs _ _ hr;simpa only[aV,an] using hr
 |cons r rs ih =>
  intro H n m a b y vs hf hp hr
  simp only[List.all_cons,Bool.and_eq_true]at hp hf
  cases r with
  |val k =>
   simp only[aV,an]at hr ⊢
   obtain⟨v,us,rfl,h1,h2⟩:=hr
   have hk:k.flat=true:=hf.1
   obtain⟨h3,h4⟩:=JB h1
   exact⟨v,us,rfl,lM ((MG h1).flat hk) h3 h4,ih hf.2 hp.2 h2⟩
  |own ok=>simp[RK.flat]at hf
  |eU b c=>simp[RK.plain]at hp
  |agg c=>simp[RK.flat]at hf
theorem MH(rs:List RK):∀(a:Nat) (y:lJ rs),rs.all RK.flat=true→rs.all RK.plain=true→ak rs a y=[]:=by
 induction rs with
 |nil=>intros;rfl
 |cons r rs ih =>
  intro a y hf hp
  simp only[List.all_cons,Bool.and_eq_true]at hp hf
  cases r with
  |val k=>simp only[ak];exact ih _ _ hf.2 hp.2
  |own ok=>simp[RK.flat]at hf
  |eU b c=>simp[RK.plain]at hp
  |agg c=>simp[RK.flat]at hf
theorem uW:∀(ps:List PK) (vs:List AV),cF ps vs=some []→∀v∈vs,∀id,AV.bH id∈v.cells→AV.bH id∈dt ps vs
 |[],vs,hi,v,hv,id,bO=>by
  cases vs with
  |nil=>cases hv
  |cons a r=>simp[cF]at hi
 |p::ps,vs,hi,v,hv,id,bO=>by
  obtain⟨a,r,rfl,tH,TT,W0,W9⟩:=ya hi
  rcases List.mem_cons.1 hv with rfl|hv
  ·cases p with
   |val k=>simp only[dt];exact List.mem_append_left _ bO
   |ref=>exact absurd rfl TT.1
   |own=>exact absurd rfl TT.2
   |F9 f n=>rw[W0 f n rfl]at bO;simp[AV.cells]at bO
   |agg n=>rw[W9 n rfl]at bO;simp[AV.cells]at bO
  ·have:=uW ps r tH v hv id bO
   cases p with
   |val k=>simp only[dt];exact List.mem_append_right _ this
   |ref=>exact absurd rfl TT.1
   |own=>exact absurd rfl TT.2
   |F9 f n=>simpa only[dt] using this
   |agg n=>simpa only[dt] using this
theorem AI(f:FuncId)(vs:List AV):tE f vs%1000=f%1000:=by
 induction vs with
 |nil=>rfl
 |cons v r ih =>
  cases v with
  |fn g cap=>exact Nat.add_mul_mod_self_left f 1000 _
  |_=>simp only[tE];exact ih
theorem wF{Sg:FuncId→Option aM}(f:FuncId)(vs:List AV):keyOf Sg f vs%1000=f%1000:=by
 unfold keyOf
 split
 ·exact(Nat.add_mul_mod_self_right (tE f vs) 500 1000).trans (AI f vs)
 ·exact AI f vs
theorem Next.imp{N':Nat→Prop}(n:Next Z ψ h w B0 O N Z' ψ' h' w')(hi:∀i,N i→N' i):Next Z ψ h w B0 O N' Z' ψ' h' w' :=
 ⟨n.fP,n.eL,n.keep,fun id bO=>(n.ids id bO).imp (fun h=>h) (hi id),n.dW⟩
theorem wG{rs:List RK}{y:lJ rs}(hp:rs.all RK.plain=true){id nb:Nat}(g:Good Z ψ h w B0 O)(hB:B0≤w.heap.size)
  (bu:∀i ty cs,h i=some (.box ty cs)→aC (fun i=>¬N i) cs) (hN:∀j,j<rs.length+16→N (id+j))
  (k:db I7 gk w w') (hz:∀b,Z b→Z' b) (Oe:∀b,Z' b→Z b∨w.heap.size≤b) (gc:Good Z' ψ' (ak rs 3000 y).get w' w.heap.size (fun _=>False))
  {v:Value} (hr:aw Z' ψ' (ak rs 3000 y).get w' (fb (aV rs [] 2000 3000 y)) v) :
  ∃tW,Next Z ψ h w B0 O N Z' tW (fun i=>match (ak rs id y).get i with|some o=>some o|none=>h i) w' ∧
   aw Z' tW (fun i=>match (ak rs id y).get i with|some o=>some o|none=>h i) w' (fb (aV rs [] nb id y)) v:=by
 classical
 let H:Hp:=fun i=>match (ak rs id y).get i with|some o=>some o|none=>h i
 let NN:Nat→Prop:=fun i=>(ak rs id y).get i≠none
 let tW:Nat→Value:=fun i=>if NN i then ψ' (3000+(i-id)) else ψ i
 have hNN:∀i,NN i→∃j,j<rs.length+16∧i=id+j:=fun i hi=>by
  have h1:¬i<id:=fun aF=>hi (qW rs id y i hp aF)
  have h2:¬id+rs.length+16≤i:=fun VA=>hi (GH rs id y i hp VA)
  exact⟨i-id,by omega,by omega⟩
 have yf:∀i,NN i→(ak rs 3000 y).get (3000+(i-id))=(ak rs id y).get i:=fun i hi=>by
  obtain⟨j,_,rfl⟩:=hNN i hi
  rw[show id+j-id=j by omega]
  exact GI rs 3000 id y j hp
 have hH:∀i,NN i→H i=(ak rs 3000 y).get (3000+(i-id)):=fun i hi=>by
  rw[yf i hi]
  show(match (ak rs id y).get i with|some o=>some o|none=>h i)=_
  cases e:(ak rs id y).get i with
  |none=>exact absurd e hi
  |some o=>rfl
 have jg:∀i,NN i→tW i=ψ' (3000+(i-id)):=fun i hi=>if_pos hi
 have Zp:∀i,NN i→N i:=fun i hi=>by obtain⟨j,hj,rfl⟩:=hNN i hi;exact hN j hj
 have n:=Good.Zk (N:=NN) (ψ':=tW) (h':=H) g k hz Oe gc.jP
  (fun i hi=>by
   have e:(ak rs id y).get i=none:=Classical.not_not.1 hi
   refine⟨?_,if_neg hi⟩
   show(match (ak rs id y).get i with|some o=>some o|none=>h i)=h i
   rw[e])
  (fun i ty cs hb=>(bu i ty cs hb).imp (fun i hi hni=>hi (Zp i hni)))
  (fun i ty cs hi hb=>by rw[hH i hi]at hb;exact uV _ _ _ _ _ _ hp hb)
  (fun i ok xs hi hb=>by rw[hH i hi]at hb;rw[jg i hi];exact gc.row _ _ _ hb)
  (fun i b hi h1 h2=>by
   rw[hH i hi]at h1;rw[jg i hi]at h2
   obtain⟨h3,h4⟩:=gc.live _ b h1 h2
   exact⟨h4.resolve_right (fun h=>h),h3⟩)
  (fun i i' b hi tH h1 h2 h3 h4=>by
   rw[hH i hi]at h1;rw[hH i' tH]at h2;rw[jg i hi]at h3;rw[jg i' tH]at h4
   have:=gc.apart _ _ b h1 h2 h3 h4
   obtain⟨j,_,rfl⟩:=hNN i hi
   obtain⟨j',_,rfl⟩:=hNN i' tH
   omega) hB
 refine⟨tW,n.imp Zp,?_⟩
 refine tT (by rw[kc,kc]) (fun vs tJ=>?_) hr
 refine Pb (h':=H) (ψ':=tW) rs (n:=2000) (a:=3000) hp (fun j hn br=>?_) tJ
 replace hn:NN (id+j):=hn
 have e1:=hH _ hn
 have e2:=jg _ hn
 rw[show id+j-id=j by omega]at e1 e2
 exact⟨by rw[←e1];exact br,e2⟩
def jq(P:Program)(f:FuncId):Prop:=∃fn,P.funcs[f]? = some fn∧(fn.name== "runtime.NumGoroutine")=false∧fn.body.isSome=true
theorem jr{f:FuncId}(hc:jq P f)(args:Array Value):(callFunc f args).run P w=.ok (.enter f args) w:=by
 obtain⟨fn,h1,h2,h3⟩:=hc
 obtain⟨c,hc⟩:=Option.isSome_iff_exists.1 h3
 simp[callFunc,h1,hc,show ¬fn.name= "runtime.NumGoroutine" by simpa using h2]
def VB(P:Program)(ρC:Operand→Value)(o:Oper)(Z:Nat→Prop)(ψ:Nat→Value)(h:Hp)(w:World)(B0:Nat)(O N:Nat→Prop)(e:bI):Prop :=
 ∃f args,(execOp ρC o).run P w=.ok (.enter f args) w∧Calls P f args w fun en w'=>∃V Z' ψ',en=.returned V∧Next Z ψ h w B0 O N Z' ψ' (e.hp h) w'∧aw Z' ψ' (e.hp h) w' e.v V
end Go.Vs
namespace Go.Vs
variable {P:Program} {Z Z':Nat→Prop} {ψ ψ':Nat→Value} {h h':Hp} {w w':World} {B0:Nat} {O:Nat→Prop} {N:Nat→Prop}
def cE:(rs:List RK)→List AV→Nat→lJ rs→List xZ
 |[],_,_,_=>[]
 |.own ok::r,vs,m,x=>(m,(oW (vs.headD .no)).head?,.own ok x.1)::cE r vs.tail (m+1) x.2
 |.val _::r,vs,m,x=>cE r vs.tail (m+1) x.2
 |.eU _ _::r,vs,m,x=>cE r vs.tail (m+1) x.2
 |.agg c::r,vs,m,x=>dL c m (vs.headD .no).cells x.1++cE r vs.tail (m+1) x.2
theorem gI:∀(rs:List RK) (vs:List AV) (m:Nat) (x:lJ rs),dF (cE rs vs m x)=ak rs m x
 |[],_,_,_=>rfl
 |.own ok::r,vs,m,x=>by simp only[cE,ak];rw[←gI r vs.tail (m+1) x.2];rfl
 |.val _::r,vs,m,x=>gI r vs.tail (m+1) x.2
 |.eU _ _::r,vs,m,x=>gI r vs.tail (m+1) x.2
 |.agg c::r,vs,m,x=>by
  have e1:dF (dL c m (vs.headD .no).cells x.1)=bf c m x.1:=mN c m _ x.1
  have e2:=gI r vs.tail (m+1) x.2
  simp only[cE,ak]
  rw[mO,e2]
  exact congrArg (·++_) e1
theorem fK:∀(rs:List RK) (vs:List AV) (m:Nat) (x:lJ rs),(cE rs vs m x).map (·.1)=bA rs m
 |[],_,_,_=>rfl
 |.own ok::r,vs,m,x=>by simp only[cE,bA,List.map_cons];rw[fK r vs.tail (m+1) x.2]
 |.val _::r,vs,m,x=>fK r vs.tail (m+1) x.2
 |.eU _ _::r,vs,m,x=>fK r vs.tail (m+1) x.2
 |.agg c::r,vs,m,x=>by
  have e1:(dL c m (vs.headD .no).cells x.1).map (·.1)=cg c m:=k9 c m _ x.1
  have e2:=fK r vs.tail (m+1) x.2
  simp only[cE,bA,List.map_append]
  rw[e2]
  exact congrArg (·++_) e1
theorem pn{bs:List BK}{k:K}{r:List RK}{hh:Heap}{ids:List Nat}{vs:List AV}{x:lJ (.val k::r)}(hd:bJ bs (.val k::r) hh ids vs=some x):∃v g8,vs=v::g8∧fU k hh v=some x.1∧bJ bs r hh ids g8=some x.2:=by
 cases vs with
 |nil=>cases hd
 |cons v vs =>
  have e:bJ bs (.val k::r) hh ids (v::vs)=(match fU k hh v,bJ bs r hh ids vs with
   |some x,some y=>some ((x,y):k.T×lJ r)
   |_,_=>none):=rfl
  rw[e]at hd
  clear e
  refine⟨v,vs,rfl,?_⟩
  generalize fU k hh v=o1 at hd ⊢
  generalize bJ bs r hh ids vs=o2 at hd ⊢
  cases o1 with
  |none=>cases hd
  |some x1 =>
   cases o2 with
   |none=>cases hd
   |some y1=>have:=Option.some.inj hd;subst this;exact⟨rfl,rfl⟩
theorem po{bs:List BK}{ok:OK}{r:List RK}{hh:Heap}{ids:List Nat}{vs:List AV}{x:lJ (.own ok::r)}(hd:bJ bs (.own ok::r) hh ids vs=some x):∃v g8,vs=v::g8∧dU hh ok v=some x.1∧bJ bs r hh ids g8=some x.2:=by
 cases vs with
 |nil=>cases hd
 |cons v vs =>
  have e:bJ bs (.own ok::r) hh ids (v::vs)=(match dU hh ok v,bJ bs r hh ids vs with
   |some x,some y=>some ((x,y):ok.T×lJ r)
   |_,_=>none):=rfl
  rw[e]at hd
  clear e
  refine⟨v,vs,rfl,?_⟩
  generalize dU hh ok v=o1 at hd ⊢
  generalize bJ bs r hh ids vs=o2 at hd ⊢
  cases o1 with
  |none=>cases hd
  |some x1 =>
   cases o2 with
   |none=>cases hd
   |some y1=>have:=Option.some.inj hd;subst this;exact⟨rfl,rfl⟩
theorem mP{bs:List BK}{b:Nat}{alts:List (Nat×Nat×Nat)}{r:List RK}{hh:Heap}{ids:List Nat}{vs:List AV}{x:lJ (.eU b alts::r)}(hd:bJ bs (.eU b alts::r) hh ids vs=some x):∃v g8,vs=v::g8∧nj bs hh ids b alts v=some x.1∧bJ bs r hh ids g8=some x.2:=by
 cases vs with
 |nil=>cases hd
 |cons v vs =>
  have e:bJ bs (.eU b alts::r) hh ids (v::vs)=(match nj bs hh ids b alts v,bJ bs r hh ids vs with
   |some x,some y=>some ((x,y):Option (Fin alts.length×Nat)×lJ r)
   |_,_=>none):=rfl
  rw[e]at hd
  clear e
  refine⟨v,vs,rfl,?_⟩
  generalize nj bs hh ids b alts v=o1 at hd ⊢
  generalize bJ bs r hh ids vs=o2 at hd ⊢
  cases o1 with
  |none=>cases hd
  |some x1 =>
   cases o2 with
   |none=>cases hd
   |some y1=>have:=Option.some.inj hd;subst this;exact⟨rfl,rfl⟩
theorem pq{bs:List BK}{c:List CK}{r:List RK}{hh:Heap}{ids:List Nat}{vs:List AV}{x:lJ (.agg c::r)}(hd:bJ bs (.agg c::r) hh ids vs=some x):∃cs g8,vs=.agg cs::g8∧cM c hh cs=some x.1∧bJ bs r hh ids g8=some x.2:=by
 cases vs with
 |nil=>cases hd
 |cons v vs =>
  have e:bJ bs (.agg c::r) hh ids (v::vs)=(match Aa c hh v,bJ bs r hh ids vs with
   |some x,some y=>some ((x,y):qB c×lJ r)
   |_,_=>none):=rfl
  rw[e]at hd
  clear e
  have key:Aa c hh v=some x.1∧bJ bs r hh ids vs=some x.2:=by
   generalize Aa c hh v=o1 at hd ⊢
   generalize bJ bs r hh ids vs=o2 at hd ⊢
   cases o1 with
   |none=>cases hd
   |some x1 =>
    cases o2 with
    |none=>cases hd
    |some y1=>have:=Option.some.inj hd;subst this;exact⟨rfl,rfl⟩
  obtain⟨h1,h2⟩:=key
  unfold Aa at h1
  split at h1
  ·exact⟨_,vs,rfl,h1,h2⟩
  ·cases h1
theorem g9{bs:List BK}{hh:Heap}{ids:List Nat}:∀(rs:List RK) (vs:List AV) (x:lJ rs),bJ bs rs hh ids vs=some x→vs.length=rs.length
 |[],[],_,_=>rfl
 |[],_::_,_,h=>by cases h
 |.val k::r,vs,x,h=>by obtain⟨v,g8,rfl,_,h2⟩:=pn h;simp[g9 r g8 x.2 h2]
 |.own ok::r,vs,x,h=>by obtain⟨v,g8,rfl,_,h2⟩:=po h;simp[g9 r g8 x.2 h2]
 |.eU _ _::r,vs,x,h=>by obtain⟨v,g8,rfl,_,h2⟩:=mP h;simp[g9 r g8 x.2 h2]
 |.agg _::r,vs,x,h=>by obtain⟨v,g8,rfl,_,h2⟩:=pq h;simp[g9 r g8 x.2 h2]
theorem iK{bs:List BK}{hh:Heap}{ids:List Nat}:∀(rs:List RK) (vs:List AV) (m:Nat) (x:lJ rs),bJ bs rs hh ids vs=some x→(cE rs vs m x).filterMap (·.2.1)=dO rs vs
 |[],vs,_,_,_=>by cases vs<;>rfl
 |.own ok::r,vs,m,x,h=>by
  obtain⟨v,g8,rfl,_,h2⟩:=po h
  simp only[cE,dO,List.headD_cons,List.tail_cons]
  rw[dQ,iK r g8 (m+1) x.2 h2]
  simp only[]
  rw[wD]
 |.val k::r,vs,m,x,h=>by
  obtain⟨v,g8,rfl,_,h2⟩:=pn h
  simp only[cE,dO,List.tail_cons]
  exact iK r g8 (m+1) x.2 h2
 |.eU _ _::r,vs,m,x,h=>by
  obtain⟨v,g8,rfl,_,h2⟩:=mP h
  simp only[cE,dO,List.tail_cons]
  exact iK r g8 (m+1) x.2 h2
 |.agg c::r,vs,m,x,h=>by
  obtain⟨cs,g8,rfl,h1,h2⟩:=pq h
  simp only[cE,dO,List.headD_cons,List.tail_cons,AV.cells]
  have e1:(dL c m cs x.1).filterMap (·.2.1)=fO c cs:=pe c m hh cs x.1 h1
  rw[List.filterMap_append,iK r g8 (m+1) x.2 h2]
  exact congrArg (·++_) e1
theorem jU{hd:Hp}{bs:List BK}{hh:Heap}{ids:List Nat}:∀(rs:List RK) (vs:List AV) (m:Nat) (x:lJ rs),bJ bs rs hh ids vs=some x→(∀s∈dO rs vs,hd s=hh.get s)→∀e∈cE rs vs m x,uU Z ψ hd w h' ψ' e
 |[],_,_,_,_,_,e,he=>by simp[cE]at he
 |.own ok::r,vs,m,x,h,hk,e,he=>by
  obtain⟨v,g8,rfl,h1,h2⟩:=po h
  simp only[cE,dO,List.headD_cons,List.tail_cons]at he hk
  rcases List.mem_cons.1 he with rfl|he
  ·exact K4 h1 fun s hs=>hk s (List.mem_append_left _ hs)
  ·exact jU r g8 (m+1) x.2 h2 (fun s hs=>hk s (List.mem_append_right _ hs)) e he
 |.val k::r,vs,m,x,h,hk,e,he=>by
  obtain⟨v,g8,rfl,h1,h2⟩:=pn h
  exact jU r g8 (m+1) x.2 h2 hk e he
 |.eU _ _::r,vs,m,x,h,hk,e,he=>by
  obtain⟨v,g8,rfl,h1,h2⟩:=mP h
  exact jU r g8 (m+1) x.2 h2 hk e he
 |.agg c::r,vs,m,x,h,hk,e,he=>by
  obtain⟨cs,g8,rfl,h1,h2⟩:=pq h
  simp only[cE,dO,List.headD_cons,List.tail_cons,AV.cells]at he hk
  rcases List.mem_append.1 he with he|he
  ·exact rX c m cs x.1 h1 (fun s hs=>hk s (List.mem_append_left _ hs)) e he
  ·exact jU r g8 (m+1) x.2 h2 (fun s hs=>hk s (List.mem_append_right _ hs)) e he
theorem wH{hh:Heap}{id:Nat}:∀(dv:List CK) (c n:Nat) (cs:List AV) (x:qB dv),cM dv hh cs=some x→fV dv c=true→cs[mJ dv c]? = some (.bH id)→hh.get id≠none∧∃o,(n+c,some id,o)∈dL dv n cs x
 |[],c,n,cs,x,_,h,_=>by simp[fV]at h
 |.val k::r,0,n,cs,x,_,h,_=>by simp[fV]at h
 |.val k::r,c+1,n,cs,x,hd,h,hc=>by
  obtain⟨_,h2⟩:=o9 hd
  obtain⟨h3,o,h4⟩:=wH r c (n+1) (cs.drop k.sz) x.2 h2 (by simpa[fV] using h) (by rw[List.getElem?_drop];simpa[mJ] using hc)
  exact⟨h3,o,by rw[show n+(c+1)=n+1+c by omega];exact h4⟩
 |.own ok::r,0,n,cs,x,hd,h,hc=>by
  obtain⟨c0,cs',rfl,h1,h2⟩:=lO hd
  simp only[mJ,List.getElem?_cons_zero,Option.some.injEq]at hc
  subst hc
  rcases lP h1 with⟨h3,_⟩|⟨mD,h3,h4⟩
  ·cases h3
  ·cases h3
   exact⟨by rw[h4];simp,_,by simp only[dL,List.headD_cons,oW,List.head?_cons];exact List.mem_cons_self⟩
 |.own ok::r,c+1,n,cs,x,hd,h,hc=>by
  obtain⟨c0,cs',rfl,h1,h2⟩:=lO hd
  obtain⟨h3,o,h4⟩:=wH r c (n+1) cs' x.2 h2 (by simpa[fV] using h) (by simp only[mJ]at hc;rw[Nat.add_comm]at hc;simpa using hc)
  exact⟨h3,o,by rw[show n+(c+1)=n+1+c by omega];simp only[dL,List.tail_cons];exact List.mem_cons_of_mem _ h4⟩
theorem AJ{hh:Heap}{id c:Nat}:∀(bs:List BK) (b n:Nat) (is is':List Nat) (x:we bs) (bk:BK) (bi:Nat) (ty:TypeId) (cs:List AV),c9 bs hh is=some x→is'.length=bs.length→bs[b]? = some bk→is[b]? = some bi→hh.get bi=some (.box ty cs) →
  fV bk.dv c=true→cs[mJ bk.dv c]? = some (.bH id)→hh.get id≠none∧∃o,(n+16*b+c,some id,o)∈cx bs hh is is' n x
 |[],b,n,is,is',x,bk,bi,ty,cs,_,_,h,_,_,_,_=>by simp at h
 |b0::r,b,n,[],is',x,bk,bi,ty,cs,hd,_,_,_,_,_,_=>by cases hd
 |b0::r,b,n,i::is,[],x,bk,bi,ty,cs,_,hl,_,_,_,_,_=>by simp at hl
 |b0::r,0,n,i::is,i'::is',x,bk,bi,ty,cs,hd,hl,h1,h2,h3,h4,h5=>by
  obtain⟨g0,g3⟩:=fk hd
  simp only[List.getElem?_cons_zero,Option.some.injEq]at h1 h2
  subst h1;subst h2
  cases b0 with
  |own ok=>simp[BK.dv,fV]at h4
  |box ty0 c0 =>
   obtain⟨cs',g1,g2⟩:=rW g0
   rw[g1]at h3
   cases h3
   obtain⟨h6,o,h7⟩:=wH c0 c n cs x.1 g2 h4 h5
   refine⟨h6,o,?_⟩
   simp only[cx,dP]
   rw[pf g1]
   exact List.mem_append_left _ (List.mem_cons_of_mem _ (by simpa using h7))
 |b0::r,b+1,n,i::is,i'::is',x,bk,bi,ty,cs,hd,hl,h1,h2,h3,h4,h5=>by
  obtain⟨_,g3⟩:=fk hd
  obtain⟨h6,o,h7⟩:=AJ r b (n+16) is is' x.2 bk bi ty cs g3 (by simpa using hl) (by simpa using h1) (by simpa using h2) h3 h4 h5
  refine⟨h6,o,?_⟩
  rw[show n+16*(b+1)+c=n+16+16*b+c by omega]
  simp only[cx]
  exact List.mem_append_right _ h7
theorem AK{c:List CK}{cs:List AV}{id s off:Nat}{a:Nat×Nat×Nat}(h:xN c cs id s off a=true):cs[mJ c a.1]? = some (.bH id)∧s=a.2.1∧off=a.2.2∧fV c a.1=true:=by
 simp only[xN,Bool.and_eq_true,decide_eq_true_eq]at h
 obtain⟨h1,h2,h3,h4⟩:=h
 refine⟨?_,h2,h3,h4⟩
 unfold OJ at h1
 split at h1
 ·rename_i e;rw[e];simp only[beq_iff_eq]at h1;rw[h1]
 ·cases h1
theorem MI{bs:List BK}{hh:Heap}{ids:List Nat}{b:Nat}{alts:List (Nat×Nat×Nat)}{v:AV}{x:Option (Fin alts.length×Nat)}(hd:nj bs hh ids b alts v=some x):(v=.kY∧x=none) ∨
  ∃id i a bi bk ty cs,v=.ref id (alts.get a).2.1 i (alts.get a).2.2∧x=some (a,i)∧ids[b]? = some bi∧bs[b]? = some bk∧hh.get bi=some (.box ty cs)∧cs[mJ bk.dv (alts.get a).1]? = some (.bH id)∧fV bk.dv (alts.get a).1=true:=by
 unfold nj at hd
 split at hd
 ·cases hd;exact .inl ⟨rfl,rfl⟩
 ·rename_i id s i off
  split at hd
  ·rename_i bi bk h1 h2
   split at hd
   ·rename_i ty cs h3
    split at hd
    ·rename_i a h4
     cases hd
     have h4':xN bk.dv cs id s off (alts.get a)=true:=by simpa using List.find?_some (p:=fun a=>xN bk.dv cs id s off (alts.get a)) h4
     obtain⟨h5,rfl,rfl,h6⟩:=AK h4'
     exact .inr ⟨id,i,a,bi,bk,ty,cs,rfl,rfl,h1,h2,h3,h5,h6⟩
    ·cases hd
   ·cases hd
  ·cases hd
 ·cases hd
theorem rZ{bs:List BK}{hh:Heap}{ids is' ids2:List Nat}{nb:Nat}{yb:we bs}(g:Good Z ψ hh.get w B0 O)(hz:∀b,Z b→Z' b)(hb:c9 bs hh ids=some yb)(hl:is'.length=bs.length)
  (Pd:∀e∈cx bs hh ids is' nb yb,h' e.1≠none→ψ' e.1=jS ψ e.2.1):∀(rs:List RK) (vs:List AV) (m:Nat) (x:lJ rs) (us:List Value),bJ bs rs hh ids vs=some x →
  (∀id b,AV.bH id∈fZ rs vs→hh.get id≠none→ob (ψ id)=some b→Z' b)→(∀e∈cE rs vs m x,h' e.1≠none→ψ' e.1=jS ψ e.2.1)→an Z ψ hh.get w vs us→an Z' ψ' h' w (aV rs ids2 nb m x) us
 |[],vs,m,x,us,hd,_,_,hr=>by
  have:=g9 [] vs x hd
  have hv:vs=[]:=List.eq_nil_of_length_eq_zero this
  subst hv
  simpa only[aV,an] using hr
 |.val k::r,vs,m,x,us,hd,hf,jg,hr=>by
  obtain⟨v,g8,rfl,h1,h2⟩:=pn hd
  simp only[an]at hr
  obtain⟨u,iY,rfl,h3,h4⟩:=hr
  simp only[aV,an]
  simp only[fZ]at hf
  exact⟨u,iY,rfl,rR g hz (fun id b bO=>hf id b (List.mem_append_left _ bO)) h1 h3,rZ g hz hb hl Pd r g8 (m+1) x.2 iY h2 (fun id b bO=>hf id b (List.mem_append_right _ bO)) jg h4⟩
 |.own ok::r,vs,m,x,us,hd,hf,jg,hr=>by
  obtain⟨v,g8,rfl,h1,h2⟩:=po hd
  simp only[an]at hr
  obtain⟨u,iY,rfl,h3,h4⟩:=hr
  simp only[aV,an]
  simp only[cE,List.headD_cons,List.tail_cons]at jg
  exact⟨u,iY,rfl,EN h1 h3 (fun hn=>jg _ List.mem_cons_self hn),rZ g hz hb hl Pd r g8 (m+1) x.2 iY h2 hf (fun e he=>jg e (List.mem_cons_of_mem _ he)) h4⟩
 |.eU b alts::r,vs,m,x,us,hd,hf,jg,hr=>by
  obtain⟨v,g8,rfl,h1,h2⟩:=mP hd
  simp only[an]at hr
  obtain⟨u,iY,rfl,h3,h4⟩:=hr
  simp only[aV,an]
  refine⟨u,iY,rfl,?_,rZ g hz hb hl Pd r g8 (m+1) x.2 iY h2 hf jg h4⟩
  rcases MI h1 with⟨rfl,h5⟩|⟨id,i,al,bi,bk,ty,cs,rfl,h5,h6,h7,h8,h9,nr⟩
  ·have:x.1=none:=h5
   rw[this]
   simpa only[uB,aw] using h3
  ·have:x.1=some (al,i):=h5
   rw[this]
   obtain⟨yR,o,I5⟩:=AJ bs b nb ids is' yb bk bi ty cs hb hl h7 h6 h8 nr h9
   simp only[uB,aw]at h3 ⊢
   obtain⟨ad,Ti,VC⟩:=h3
   refine⟨ad,Ti,fun hn=>?_⟩
   rw[Pd _ I5 hn,VC yR];rfl
 |.agg c::r,vs,m,x,us,hd,hf,jg,hr=>by
  obtain⟨cs,g8,rfl,h1,h2⟩:=pq hd
  simp only[an]at hr
  obtain⟨u,iY,rfl,h3,h4⟩:=hr
  simp only[aV,an]
  simp only[fZ,AV.cells]at hf
  simp only[cE,List.headD_cons,List.tail_cons,AV.cells]at jg
  refine⟨u,iY,rfl,?_,rZ g hz hb hl Pd r g8 (m+1) x.2 iY h2 (fun id b bO=>hf id b (List.mem_append_right _ bO)) (fun e he=>jg e (List.mem_append_right _ he)) h4⟩
  simp only[aw]at h3 ⊢
  obtain⟨ws,rfl,h5⟩:=h3
  exact⟨ws,rfl,rU g hz c m cs x.1 _ h1 (fun id b bO=>hf id b (List.mem_append_left _ bO)) (fun e he=>jg e (List.mem_append_left _ he)) h5⟩
end Go.Vs
