/- The value semantics is sound, operation by operation. -/
import Derived.Test.YtpkfpbpbkabkdaaGreatEngineA
import Derived.Laws.StructEq
import Derived.Laws.Slices
import Derived.Laws.Strings
import Derived.MapKept
namespace Go.Vs
variable {P:Program} {Z Z':Nat→Prop} {ψ ψ':Nat→Value} {h h':Hp} {w w':World} {B0:Nat} {O:Nat→Prop} {N:Nat→Prop}
def bI.hp(h:Hp):bI→Hp
 |.val _=>h
 |.new _ os=>fun i=>match Heap.get os i with
  |some o=>some o
  |none=>h i
 |.wr _ h'=>h'.get
theorem iy(id:Nat)(o:Ob)(h:Hp):(fun i=>match Heap.get [(id,o)] i with|some o=>some o|none=>h i)=ed h id (some o):=by
 funext i
 simp only[Heap.get,ed]
 by_cases e:i=id
 ·subst e;simp
 ·rw[if_neg (fun x=>e x.symm),if_neg e]
theorem mJ(hh:Heap)(id:Nat)(o:Ob):(hh.set id o).get=ed hh.get id (some o):=by
 funext i
 by_cases e:i=id
 ·subst e;rw[Heap.EO,bw]
 ·rw[Heap.JA e,db _ _ e]
theorem uN(hh:Heap)(id:Nat):(hh.del id).get=ed hh.get id none:=by
 funext i
 by_cases e:i=id
 ·subst e;rw[Heap.gG,bw]
 ·rw[Heap.iu e,db _ _ e]
theorem Az(hh:Heap)(id:Nat)(o:Ob):Heap.get ((id,o)::hh)=ed hh.get id (some o):=by
 funext i
 simp only[Heap.get,ed]
 by_cases e:i=id
 ·subst e;simp
 ·rw[if_neg (fun x=>e x.symm),if_neg e]
def gY(P:Program)(ρC:Operand→Value)(o:Oper)(Z:Nat→Prop)(ψ:Nat→Value)(h:Hp)(w:World)(B0:Nat)(O N:Nat→Prop)(e:bI):Prop :=
 ∃V w' Z' ψ',((execOp ρC o).run P w=.ok (.value V) w'∨((execOp ρC o).run P w=.ok .skip w'∧V=undef))∧Next Z ψ h w B0 O N Z' ψ' (e.hp h) w'∧az Z' ψ' (e.hp h) w' e.v V
theorem gY.val{ρC:Operand→Value}{o:Oper}{x:AV}(g:Good Z ψ h w B0 O){V:Value}(hr:(execOp ρC o).run P w=.ok (.value V) w)(hx:az Z ψ h w x V):gY P ρC o Z ψ h w B0 O N (.val x) :=
 ⟨V,w,Z,ψ,.inl hr,Next.refl g,hx⟩
theorem Pn{ty:TypeId}{k:K}{xs:List k.T}{id n:Nat}{x:k.T}(g:Good Z ψ h w B0 O)(hg:h id=some (.own (.row ty k) xs))(hx:xs[n]? = some x) :
  ∃gg us,TV (ψ id)=gg∧aI Z w k x us∧∀(j:Nat) u,us[j]? = some u→w.cell? ⟨gg,n*k.sz+j,none⟩=some u:=by
 obtain⟨vs,ho,hv⟩:=g.row id (.row ty k) xs hg
 have hn:n<xs.length:=(List.getElem?_eq_some_iff.1 hx).1
 obtain⟨hl,e⟩:=ho
 rcases e with⟨h0,_⟩|⟨gg,cap,cur,e1,_,e3,_,_,_,e7⟩
 ·omega
 ·refine⟨gg,_,by rw[e1];rfl,hv n x hx,fun j u hu=>?_⟩
  rw[List.getElem?_take]at hu
  split at hu
  ·rw[List.getElem?_drop,←e7,List.getElem?_take]at hu
   split at hu
   ·simp only[World.cell?,e3];simpa using hu
   ·cases hu
  ·cases hu
theorem tK{hh:Heap}(g:Good Z ψ h w B0 O)(bC:∀id o,hh.get id=some o→h id=some o){t:TypeId}{a:AV}{v:Value}{e:bI}(hv:az Z ψ h w a v)(he:lH P hh t a some=some e) :
  ∃x V,e=.val x∧(Instr.loadAt t v).run P w=.ok V w∧az Z ψ h w x V:=by
 unfold lH at he
 split at he
 ·rename_i id s i off
  simp only[az]at hv
  obtain⟨a,rfl,ha⟩:=hv
  split at he
  ·rename_i ty cs hg
   have AA:=bC _ _ hg
   have Gv:=ha (by rw[AA];simp)
   obtain⟨gg,vs,e1,e2,e3,e4⟩:=g.box id ty cs AA
   split at he
   ·rename_i hi
    subst hi
    split at he
    ·rename_i x hx
     cases he
     rw[e1]at Gv
     simp only[TV,Nat.zero_mul,Nat.zero_add]at Gv
     subst Gv
     obtain⟨V,h1,h2⟩:=jN (a:=⟨gg,off,none⟩) (e3.drop off) (fun j u hu=>by
      rw[cp];simp only[World.cell?,e2];rw[List.getElem?_drop]at hu;simpa using hu) hx
     exact⟨x,V,rfl,h1,h2⟩
    ·cases he
   ·cases he
  ·rename_i ty kk xs hg
   have AA:=bC _ _ hg
   have Gv:=ha (by rw[AA];simp)
   split at he
   ·rename_i hs
    subst hs
    obtain⟨x,hx,he⟩:=Option.bind_eq_some_iff.1 he
    split at he
    ·rename_i y hy
     cases he
     obtain⟨gg,us,h1,h2,h3⟩:=Pn g AA hx
     rw[h1]at Gv;subst Gv
     obtain⟨V,h4,h5⟩:=jN (a:=⟨gg,i*kk.sz+off,none⟩) ((ig (ψ:=ψ) (h:=h) h2).drop off) (fun j u hu=>by
      rw[cp,Nat.add_assoc];exact h3 _ _ (by rw[List.getElem?_drop]at hu;exact hu)) hy
     exact⟨y,V,rfl,h4,h5⟩
    ·cases he
   ·cases he
  ·cases he
 ·rename_i kk x off
  split at he
  ·rename_i y hy
   cases he
   simp only[az]at hv
   obtain⟨a,us,rfl,_,h2,h3⟩:=hv
   obtain⟨V,h4,h5⟩:=jN ((ig (ψ:=ψ) (h:=h) h2).drop off) (fun j u hu=>h3 j u (by rw[List.getElem?_drop]at hu;exact hu)) hy
   exact⟨y,V,rfl,h4,h5⟩
  ·cases he
 ·cases he
theorem nu{t e:TypeId}(he:xN P t=some e):P.underlying t=some (.slice e):=by
 unfold xN at he
 split at he
 ·cases he;assumption
 ·cases he
theorem nC{t e:TypeId}(ht:P.underlying t=some (.slice e)){i:TypeInfo}(hi:P.info? e=some i)(a:Addr)(n c:Nat)(k:IntKind)(j:Int)(h0:0≤j)(h1:j<n) :
  (Instr.indexAt t (.slice (some a) n c) (.int k j)).run P w=.ok (.pointer (some (a.add (j.toNat*P.cellsOf e)))) w:=by
 simp[Instr.indexAt,asIntOf,run_underlying ht,h0,h1,dz hi]
theorem MR{α:Type}{xs:List α}{i:Int}{x:α}(hx:aY xs i=some x):0≤i∧i<xs.length∧xs[i.toNat]? = some x:=by
 unfold aY at hx
 split at hx
 ·rename_i h0
  have:=(List.getElem?_eq_some_iff.1 hx).1
  exact⟨h0,by omega,hx⟩
 ·cases hx
theorem qh{hh:Heap}(g:Good Z ψ h w B0 O)(bC:∀id o,hh.get id=some o→h id=some o){t:TypeId}{x i:AV}{v u:Value}{e:bI}(hv:az Z ψ h w x v)(hu:az Z ψ h w i u)(he:dy P hh t x i some=some e) :
  ∃y V,e=.val y∧(Instr.indexAt t v u).run P w=.ok V w∧az Z ψ h w y V:=by
 unfold dy at he
 split at he
 ·cases he
 ·rename_i et het
  have ht:=nu het
  ·skip
   split at he
   ·rename_i ex Lg xs ik n
    simp only[az]at hv hu
    subst hu
    split at he
    ·rename_i hs
     obtain⟨y,hy,he⟩:=Option.bind_eq_some_iff.1 he
     cases he
     obtain⟨h0,h1,h2⟩:=MR hy
     obtain⟨hk,_⟩:=hv
     simp only[aI]at hk
     obtain⟨v',AB,A,c,rfl,_,_,Jh⟩:=hk
     cases AB
     obtain⟨a,us,rfl,hz,hr,hc⟩:=Jh _ _ h2
     have hi:∃i,P.info? et=some i:=by
      cases hi:P.info? et with
      |some i=>exact⟨i,rfl⟩
      |none=>exfalso;have:=Lg.ir;simp[Program.cellsOf,hi]at hs;omega
     obtain⟨inf,hi⟩:=hi
     refine⟨_,_,rfl,nC ht hi a xs.length c ik n h0 h1,?_⟩
     simp only[az]
     refine⟨_,us,rfl,by rw[cy];exact hz,hr,fun j u hu=>?_⟩
     rw[uH,hs];exact hc j u (by simpa using hu)
    ·cases he
   ·rename_i id ik n
    split at he
    ·rename_i ty Lg xs hg
     have AA:=bC _ _ hg
     split at he
     ·rename_i hs
      cases Ay:(decide (0≤n)&&decide (n<(xs.length:Int))) with
      |false=>rw[Ay]at he;cases he
      |true =>
       rw[Ay]at he
       cases he
       simp only[Bool.and_eq_true,decide_eq_true_eq]at Ay
       simp only[az]at hv hu
       subst hu
       have hvv:=hv.2 (by rw[AA];simp)
       obtain⟨vs,⟨_,e⟩,_⟩:=g.row id (.row ty Lg) xs AA
       rcases e with⟨h0,_⟩|⟨gg,cap,cur,e1,_,e3,_⟩
       ·omega
       ·have hi:∃i,P.info? et=some i:=by
         cases hi:P.info? et with
         |some i=>exact⟨i,rfl⟩
         |none=>exfalso;have:=Lg.ir;simp[Program.cellsOf,hi]at hs;omega
        obtain⟨inf,hi⟩:=hi
        rw[hvv,e1]
        refine⟨_,_,rfl,nC ht hi _ xs.length cap ik n Ay.1 Ay.2,?_⟩
        simp only[az]
        refine⟨_,rfl,fun _=>?_⟩
        rw[e1,hs,cp];simp[TV]
     ·cases he
    ·cases he
   ·cases he
theorem sV{t:TypeId}(h:P.cellsOf t≠0):∃i,P.info? t=some i:=by
 cases hi:P.info? t with
 |some i=>exact⟨i,rfl⟩
 |none=>exact absurd (by simp[Program.cellsOf,hi]) h
theorem sW{t:TypeId}{f n:Nat}{ft:TypeId}(hf:gV P t f=some (n,ft))(hc:P.cellsOf ft≠0)(a:Addr) :
  (Instr.fieldAt t (.pointer (some a)) f).run P w=.ok (.pointer (some (a.add n))) w:=by
 unfold gV at hf
 split at hf
 ·rename_i fs ht
  obtain⟨fd,hfd,he⟩:=Option.map_eq_some_iff.1 hf
  cases he
  obtain⟨i,hi⟩:=sV hc
  have hs:=dz (P:=P) (w:=w) hi
  simp only[Instr.fieldAt,Sem.run_bind,run_underlying ht,Result.andThen_ok,hfd,Instr.sureAddr,Sem.run_pure,fieldPlace,hs]
  rw[if_neg hc]
  rfl
 ·cases hf
theorem sX{t:TypeId}{f n:Nat}{ft:TypeId}(hf:gV P t f=some (n,ft))(hc:P.cellsOf ft≠0){id s i off:Nat}{v:Value}(hv:az Z ψ h w (.ref id s i off) v) :
  ∃V,(Instr.fieldAt t v f).run P w=.ok V w∧az Z ψ h w (.ref id s i (off+n)) V:=by
 simp only[az]at hv ⊢
 obtain⟨a,rfl,ha⟩:=hv
 refine⟨_,sW hf hc a,_,rfl,fun bO=>?_⟩
 rw[ha bO,cp,Nat.add_assoc]
theorem uO{t:TypeId}{f n:Nat}{ft:TypeId}(hf:gV P t f=some (n,ft))(hc:P.cellsOf ft≠0){k:K}{x:k.T}{off:Nat}{v:Value}(hv:az Z ψ h w (.fp k x off) v) :
  ∃V,(Instr.fieldAt t v f).run P w=.ok V w∧az Z ψ h w (.fp k x (off+n)) V:=by
 simp only[az]at hv ⊢
 obtain⟨a,us,rfl,hz,hr,DB⟩:=hv
 refine⟨_,sW hf hc a,_,us,rfl,by rw[cy];exact hz,hr,fun j u hu=>?_⟩
 rw[uH]
 exact DB (n+j) u (by rw[←Nat.add_assoc];exact hu)
theorem GG{t ft:TypeId}{f n:Nat}(hf:gV P t f=some (n,ft)){cs:List AV}{x:AV}{v:Value}(hv:az Z ψ h w (.agg cs) v)(hx:dY P ft (cs.drop n)=some x) :
  ∃V,(Instr.field t v f).run P w=.ok V w∧az Z ψ h w x V:=by
 simp only[az]at hv
 obtain⟨vs,rfl,hl⟩:=hv
 have hd:=hl.drop n
 have hlen:=hd.length
 unfold gV at hf
 split at hf
 ·rename_i fs ht
  obtain⟨fd,hfd,he⟩:=Option.map_eq_some_iff.1 hf
  cases he
  unfold dY at hx
  split at hx
  ·rename_i hb
   split at hx
   ·rename_i hle
    cases hx
    obtain⟨i,hi⟩:=xU hb
    refine⟨.agg (vs.extract fd.offset (fd.offset+P.cellsOf fd.type)),?_,?_⟩
    ·simp[Instr.field,run_underlying ht,hfd,asAgg,part,fZ hb,dz hi]
    ·simp only[az]
     refine⟨_,rfl,?_⟩
     rw[Array.toList_extract,List.extract_eq_take_drop,Nat.add_sub_cancel_left]
     exact hd.take _
   ·cases hx
  ·rename_i hb
   split at hx
   ·rename_i c r hcr
    cases hx
    rw[hcr]at hd
    simp only[an]at hd
    obtain⟨u,us,hu,h1,_⟩:=hd
    refine⟨u,?_,h1⟩
    have hg:vs[fd.offset]? = some u:=by
     have:(vs.toList.drop fd.offset)[0]? = some u:=by rw[hu];rfl
     rw[List.getElem?_drop]at this;simpa using this
    simp[Instr.field,run_underlying ht,hfd,asAgg,part,fZ hb,hg]
   ·cases hx
  ·cases hx
 ·cases hf
theorem MS{hh:Heap}(g:Good Z ψ h w B0 O)(bC:∀id o,hh.get id=some o→h id=some o){x:AV}{v:Value}{e:bI}(hv:az Z ψ h w x v)(he:Dv hh x some=some e) :
  ∃n:Nat,e=.val (.int .i64 (n:Int))∧((∃s,x=.str s∧v=.string s∧n=s.size)∨∃A c,v=.slice A n c):=by
 unfold Dv at he
 split at he
 ·rename_i s hs
  cases he
  have hx:x=.str s:=by
   cases x with
   |bH id=>simp only[cM]at hs;split at hs<;>cases hs
   |str s'=>simp only[cM]at hs;exact hs
   |_=>simp only[cM]at hs<;>cases hs
  subst hx
  simp only[az]at hv
  exact⟨_,rfl,.inl ⟨s,rfl,hv,rfl⟩⟩
 ·rename_i ex k xs hs
  cases he
  have Po:=DA (Z':=fun b=>Z b∨Own ψ h b) (g.sub bC) (fun b hb=>.inl hb) (fun id b _ br hb=>.inr (by
   obtain⟨o,ho⟩:=Option.ne_none_iff_exists'.1 br
   exact⟨id,by rw[bC id o ho];simp,hb⟩)) (hv.qp bC)
  rw[hs]at Po
  simp only[az,aI]at Po
  obtain⟨⟨v',AB,A,c,rfl,_⟩,_⟩:=Po
  cases AB
  exact⟨_,rfl,.inr ⟨A,c,rfl⟩⟩
 ·rename_i hs
  cases he
  have hx:x=.fV:=by
   cases x with
   |bH id=>simp only[cM]at hs;split at hs<;>cases hs
   |fV=>rfl
   |_=>simp only[cM]at hs<;>cases hs
  subst hx
  simp only[az]at hv
  exact⟨0,rfl,.inr ⟨_,_,hv⟩⟩
 ·cases he
def eE(Z:Nat→Prop)(ψ:Nat→Value)(h:Hp)(w:World):Option AV→Option Value→Prop
 |none,none=>True
 |some a,some v=>az Z ψ h w a v
 |_,_=>False
theorem cm(k:IntKind)(i:Int)(y:Nat)(code:BoundsCode)(h0:0≤i)(h1:i≤y):(Instr.sliceBound (.int k i) y code).run P w=.ok i.toNat w:=by
 simp[Instr.sliceBound,asIntOf,h0,h1]
theorem tL{b:Bool}{n c:Nat}(hc:n≤c){lo hi mx:Option AV}{Ll tF mx':Option Value}{l u:Int}(h1:eE Z ψ h w lo Ll)(h2:eE Z ψ h w hi tF)(h3:eE Z ψ h w mx mx')
  (hb:nR n lo hi=some (l,u)) (ho:bj n l u=true) (hm:mx=none∨(mx=some (.int .i64 u)∧hi≠none)) :
  (Instr.sliceBounds b n c Ll tF mx').run P w=.ok (l.toNat,u.toNat,if mx=none then c else u.toNat) w:=by
 simp only[bj,Bool.and_eq_true,decide_eq_true_eq]at ho
 obtain⟨h4,h5,h6⟩:=ho
 have huc:u≤(c:Int):=by omega
 unfold nR at hb
 rcases hm with rfl|⟨rfl,br⟩
 ·cases mx' with
  |some _=>exact h3.elim
  |none =>
   split at hb
   all_goals first|(cases hb;done)|skip
   ·cases hb
    cases Ll with
    |some _=>exact h1.elim
    |none =>
     cases tF with
     |some _=>exact h2.elim
     |none=>simp[Instr.sliceBounds]
   ·cases hb
    cases Ll with
    |none=>exact h1.elim
    |some v =>
     simp only[eE,az]at h1
     subst h1
     cases tF with
     |some _=>exact h2.elim
     |none=>simp[Instr.sliceBounds,cm .i64 l n _ h4 h5]
   ·cases hb
    cases Ll with
    |some _=>exact h1.elim
    |none =>
     cases tF with
     |none=>exact h2.elim
     |some v =>
      simp only[eE,az]at h2
      subst h2
      cases b<;>simp[Instr.sliceBounds,cm .i64 u c _ (by omega) huc]
   ·cases hb
    cases Ll with
    |none=>exact h1.elim
    |some v =>
     simp only[eE,az]at h1
     subst h1
     cases tF with
     |none=>exact h2.elim
     |some v =>
      simp only[eE,az]at h2
      subst h2
      have hx:l≤((u.toNat:Nat):Int):=by omega
      cases b<;>simp[Instr.sliceBounds,cm .i64 u c _ (by omega) huc,cm .i64 l u.toNat _ h4 hx]
 ·cases mx' with
  |none=>exact h3.elim
  |some m =>
   simp only[eE,az]at h3
   subst h3
   have huu:u≤((u.toNat:Nat):Int):=by omega
   have hx:l≤((u.toNat:Nat):Int):=by omega
   split at hb
   all_goals first|(cases hb;done)|skip
   ·exact absurd rfl br
   ·exact absurd rfl br
   ·cases hb
    cases Ll with
    |some _=>exact h1.elim
    |none =>
     cases tF with
     |none=>exact h2.elim
     |some v =>
      simp only[eE,az]at h2
      subst h2
      cases b<;>simp[Instr.sliceBounds,cm .i64 u c _ (by omega) huc,cm .i64 u u.toNat _ (by omega) huu]
   ·cases hb
    cases Ll with
    |none=>exact h1.elim
    |some v =>
     simp only[eE,az]at h1
     subst h1
     cases tF with
     |none=>exact h2.elim
     |some v =>
      simp only[eE,az]at h2
      subst h2
      cases b<;>simp[Instr.sliceBounds,cm .i64 u c _ (by omega) huc,cm .i64 u u.toNat _ (by omega) huu,cm .i64 l u.toNat _ h4 hx]
theorem AD{t e:TypeId}(ht:P.underlying t=some (.slice e)){kk:K}(jm:P.cellsOf e=kk.sz){xs:List kk.T}{v:Value}(hr:aI Z w (.sl kk) xs [v]){lo hi mx:Option AV}{Ll tF mx':Option Value}{l u:Int}
  (h1:eE Z' ψ h w lo Ll) (h2:eE Z' ψ h w hi tF) (h3:eE Z' ψ h w mx mx') (hb:nR xs.length lo hi=some (l,u)) (ho:bj xs.length l u=true) (hm:mx=none∨(mx=some (.int .i64 u)∧hi≠none)) :
  ∃V,(Instr.sliceAt t v Ll tF mx').run P w=.ok V w∧aI Z w (.sl kk) (cut xs l u) [V]∧(mx≠none→∃A c,V=.slice A c c):=by
 simp only[aI]at hr
 obtain⟨v',AB,A,c,rfl,hl,hn,Jh⟩:=hr
 cases AB
 have dv:=tL (P:=P) (w:=w) (b:=true) hl h1 h2 h3 hb ho hm
 simp only[bj,Bool.and_eq_true,decide_eq_true_eq]at ho
 obtain⟨h4,h5,h6⟩:=ho
 obtain⟨i,hi⟩:=sV (P:=P) (t:=e) (by have:=kk.ir;omega)
 generalize OO:(if mx=none then c else u.toNat)=m at dv
 have hmu:u.toNat≤m:=by
  rcases hm with rfl|⟨rfl,_⟩
  ·simp at OO;omega
  ·simp at OO;omega
 have hmc:m≤c:=by
  rcases hm with rfl|⟨rfl,_⟩
  ·simp at OO;omega
  ·simp at OO;omega
 have tG:(cut xs l u).length=u.toNat-l.toNat:=by
  unfold cut;rw[List.length_drop,List.length_take];omega
 refine⟨.slice (if m=l.toNat then A else A.map (·.add (l.toNat*P.cellsOf e))) (u.toNat-l.toNat) (m-l.toNat),?_,?_,?_⟩
 ·simp[Instr.sliceAt,Instr.slice,run_underlying ht,dv,dz hi]
 ·simp only[aI]
  refine⟨_,rfl,_,_,by rw[tG],by rw[tG];omega,fun hA=>?_,fun j x hx=>?_⟩
  ·split at hA
   ·have:=hn hA;omega
   ·cases A with
    |none=>have:=hn rfl;omega
    |some a=>cases hA
  ·have hj:j<u.toNat-l.toNat:=by rw[←tG];exact(List.getElem?_eq_some_iff.1 hx).1
   have Zv:xs[l.toNat+j]? = some x:=by
    unfold cut at hx
    rw[List.getElem?_drop,List.getElem?_take,if_pos (by omega)]at hx
    exact hx
   obtain⟨a,us,rfl,hz,hr,hc⟩:=Jh _ _ Zv
   refine⟨a.add (l.toNat*P.cellsOf e),us,by rw[if_neg (by omega)];rfl,by rw[cy];exact hz,hr,fun q y hy=>?_⟩
   rw[uH,jm]
   have:=hc q y hy
   rw[Nat.add_mul]at this
   rw[←Nat.add_assoc];exact this
 ·intro br
  rcases hm with rfl|⟨rfl,_⟩
  ·exact absurd rfl br
  ·simp at OO
   exact⟨_,_,by rw[←OO]⟩
theorem GH{hh:Heap}(g:Good Z ψ h w B0 O)(_:∀id o,hh.get id=some o→h id=some o){t e:TypeId}(ht:P.underlying t=some (.slice e)){x:AV}{v:Value}{lo hi mx:Option AV}{Ll tF mx':Option Value}{ef:bI}
  (hv:az Z ψ h w x v) (h1:eE Z ψ h w lo Ll) (h2:eE Z ψ h w hi tF) (h3:eE Z ψ h w mx mx') (nL:∀y hw,ef=.wr y hw→hh.get=h) (he:oV hh (P.cellsOf e) x lo hi mx some=some ef) (Xf:(P.info? e).isSome=true) :
  ∃V Z',(Instr.sliceAt t v Ll tF mx').run P w=.ok V w∧Next Z ψ h w B0 O N Z' ψ (ef.hp h) w∧az Z' ψ (ef.hp h) w ef.v V:=by
 unfold oV at he
 split at he
 ·
  simp only[az]at hv
  subst hv
  split at he
  ·rename_i l u hb
   cases ho:bj 0 l u with
   |false=>rw[ho]at he;cases he
   |true =>
    rw[ho]at he
    cases he
    have dv:=tL (P:=P) (w:=w) (b:=true) (Nat.le_refl 0) h1 h2 h3 hb ho (.inl rfl)
    simp only[bj,Bool.and_eq_true,decide_eq_true_eq]at ho
    have hl0:l.toNat=0:=by omega
    have hu0:u.toNat=0:=by omega
    obtain⟨i,hi⟩:=Option.isSome_iff_exists.1 Xf
    refine⟨.slice none 0 0,Z,?_,Next.refl g,by simp only[bI.v,az]⟩
    rw[hl0,hu0]at dv
    simp[Instr.sliceAt,Instr.slice,run_underlying ht,dv,dz hi]
  ·cases he
 ·
  rename_i ex kk xs
  simp only[az]at hv
  split at he
  ·rename_i jm
   split at he
   ·rename_i l u hb
    split at he
    ·cases ho:bj xs.length l u with
     |false=>rw[ho]at he;cases he
     |true =>
      rw[ho]at he
      cases he
      obtain⟨V,h4,h5,_⟩:=AD (P:=P) ht jm hv.1 h1 h2 h3 hb ho (.inl rfl)
      exact⟨V,Z,h4,Next.refl g,by simp only[bI.v,bI.hp,az];exact⟨h5,by simp⟩⟩
    ·rename_i m
     cases ho:(bj xs.length l u&&(hi.isSome&&decide (m=u))) with
     |false=>rw[ho]at he;cases he
     |true =>
      rw[ho]at he
      cases he
      simp only[Bool.and_eq_true,decide_eq_true_eq]at ho
      obtain⟨ho,hhi,rfl⟩:=ho
      obtain⟨V,h4,h5,h6⟩:=AD (P:=P) ht jm hv.1 h1 h2 h3 hb ho (.inr ⟨rfl,by intro e;rw[e]at hhi;cases hhi⟩)
      exact⟨V,Z,h4,Next.refl g,by simp only[bI.v,bI.hp,az];exact⟨h5,fun _=>h6 (by simp)⟩⟩
    ·cases he
   ·cases he
  ·cases he
 ·cases he
end Go.Vs
set_option linter.unusedSimpArgs false
set_option linter.unusedVariables false
namespace Go.Vs
variable {P:Program} {Z Z':Nat→Prop} {ψ ψ':Nat→Value} {h h':Hp} {w w':World} {B0:Nat} {O:Nat→Prop} {N:Nat→Prop}
def lL(P:Program)(t:TypeId)(k:K):Prop :=
 ∀(Z:Nat→Prop) (w:World) (x y:k.T) (xs ys:Array Value),aI Z w k x xs.toList→aI Z w k y ys.toList →
  (Op.equal t (.agg xs) (.agg ys)).run P w=.ok (rF k x y) w∧(∀(op:BinOp) (a b:Operand),(eqGuard op t a b (.agg xs) (.agg ys)).run P w=.ok () w)∧∀e:Bool,(Instr.checkKey e 10000 t (.agg xs)).run P w=.ok () w
theorem wz(op:BinOp)(t:TypeId)(a b:Operand)(k k':IntKind)(x y:Int):(eqGuard op t a b (.int k x) (.int k' y)).run P w=.ok () w:=by cases op<;>simp[eqGuard]
theorem MT(op:BinOp)(t:TypeId)(a b:Operand)(x y:ByteArray):(eqGuard op t a b (.string x) (.string y)).run P w=.ok () w:=by cases op<;>simp[eqGuard]
theorem JH(op:BinOp)(t:TypeId)(a b:Operand)(x y:Bool):(eqGuard op t a b (.bool x) (.bool y)).run P w=.ok () w:=by cases op<;>simp[eqGuard]
theorem DE(op:BinOp)(t:TypeId)(a b:Operand)(x y:Option Addr):(eqGuard op t a b (.pointer x) (.pointer y)).run P w=.ok () w:=by cases op<;>simp[eqGuard]
def bT:AV→Value
 |.bool b=>.bool b
 |.int k n=>.int k n
 |.str s=>.string s
 |_=>undef
theorem jO(k:IntKind)(n:Int):az Z ψ h w (.int k n) (bT (.int k n)):=by simp only[az,bT]
theorem eF(b:Bool):az Z ψ h w (.bool b) (bT (.bool b)):=by simp only[az,bT]
theorem j7{t e:TypeId}(ht:P.underlying t=some (.pointer e))(a:Option Addr):(Op.equal t (.pointer a) (.pointer none)).run P w=.ok a.isNone w:=by
 have key:∀d,(Op.equalIn (d+1) t (.pointer a) (.pointer none)).run P w=.ok a.isNone w:=fun d=>by
  cases a<;>simp[Op.equalIn,run_underlying ht]
 exact key 9999
theorem Pp{op:BinOp}{t:TypeId}{k:IntKind}{a b:Int}{v:AV}(hv:WW op k a b=some v):∃V,(binOp op t (.int k a) (.int k b)).run P w=.ok V w∧az Z ψ h w v V:=by
 cases op<;>simp only[WW]at hv<;>cases hv<;>first
  |(refine⟨bT (.int _ _),?_,jO _ _⟩;simp[binOp,Op.intArith,Op.intCmp,bT];done)
  |(refine⟨bT (.bool _),?_,eF _⟩;simp[binOp,Op.intArith,Op.intCmp,bT];done)
  |(refine⟨bT (.int _ _),?_,jO _ _⟩;simp only[binOp,bT,ne_eq,not_true_eq_false,if_false];rfl)
theorem MU{Eqs:TypeId→Option K}(CS:∀t k,Eqs t=some k→lL P t k){op:BinOp}{t:TypeId}{xo yo:Operand}{x y:AV}{u v:Value}{e:bI}(hu:az Z ψ h w x u)(hv:az Z ψ h w y v)(he:xO P Eqs op t x y some=some e) :
  ∃r V,e=.val r∧((do eqGuard op t xo yo u v;binOp op t u v:Sem Value)).run P w=.ok V w∧az Z ψ h w r V:=by
 unfold xO at he
 split at he
 ·rename_i k a k' b
  simp only[az]at hu hv
  subst hu;subst hv
  split at he
  ·cases hb:decide (b<0) with
   |true=>rw[hb]at he;cases he
   |false =>
    rw[hb]at he;cases he
    have Xg:¬b<0:=by simpa using hb
    exact⟨_,bT (.int _ _),rfl,by simp[wz,binOp,Op.shift,Xg,bT,Gq],jO _ _⟩
  ·cases hb:decide (b<0) with
   |true=>rw[hb]at he;cases he
   |false =>
    rw[hb]at he;cases he
    have Xg:¬b<0:=by simpa using hb
    exact⟨_,bT (.int _ _),rfl,by simp[wz,binOp,Op.shift,Xg,bT,kY],jO _ _⟩
  split at he
  ·rename_i hk
   subst hk
   simp only[Sem.run_bind,wz,Result.andThen_ok]
   split at he
   ·cases hb:(b==0) with
    |true=>rw[hb]at he;cases he
    |false =>
     rw[hb]at he;cases he
     have Xg:b≠0:=by simpa using hb
     exact⟨_,bT (.int _ _),rfl,by simp[binOp,Op.intDiv,Xg,bT],jO _ _⟩
   ·cases hb:(b==0) with
    |true=>rw[hb]at he;cases he
    |false =>
     rw[hb]at he;cases he
     have Xg:b≠0:=by simpa using hb
     exact⟨_,bT (.int _ _),rfl,by simp[binOp,Op.intDiv,Xg,bT],jO _ _⟩
   ·split at he
    ·rename_i v hv
     cases he
     obtain⟨V,h1,h2⟩:=Pp (P:=P) (t:=t) (w:=w) (Z:=Z) (ψ:=ψ) (h:=h) hv
     exact⟨_,V,rfl,h1,h2⟩
    ·cases he
  ·cases he
 ·rename_i a b
  simp only[az]at hu hv
  subst hu;subst hv
  simp only[Sem.run_bind,MT,Result.andThen_ok]
  cases op<;>simp only[Zm]at he<;>first|(cases he;done)|(cases he;exact⟨_,bT (.bool _),rfl,by simp[binOp,Op.stringOp,←beq_toListBytes,bT],eF _⟩)
 ·rename_i a b
  simp only[az]at hu hv
  subst hu;subst hv
  simp only[Sem.run_bind,JH,Result.andThen_ok]
  have key:(P.underlying t).map EK=some true→P.underlying t=some .bool:=fun hm=>by
   obtain⟨d,hd,he⟩:=Option.map_eq_some_iff.1 hm
   cases d<;>simp[EK]at he
   exact hd
  split at he
  ·rename_i hm
   cases he
   exact⟨_,bT (.bool _),rfl,by simp[binOp,Op.equal,Op.maxDepth,run_equalIn_bool' (P:=P) w 9999 t a b (key hm),bT],eF _⟩
  ·rename_i hm
   cases he
   exact⟨_,bT (.bool _),rfl,by simp[binOp,Op.equal,Op.maxDepth,run_equalIn_bool' (P:=P) w 9999 t a b (key hm),bT],eF _⟩
  ·cases he
 ·rename_i a b
  split at he
  ·cases he
  ·rename_i k hk
   simp only[az]at hu hv
   obtain⟨xs,rfl,hx⟩:=hu
   obtain⟨ys,rfl,hy⟩:=hv
   split at he
   ·rename_i x y hdx hdy
    cases he
    obtain⟨h1,h2,_⟩:=CS t k hk Z w x y xs ys (dH hdx hx) (dH hdy hy)
    exact⟨_,bT (.bool _),rfl,by simp only[Sem.run_bind,h2,Result.andThen_ok,binOp,h1,Sem.run_pure,bT],eF _⟩
   ·rename_i x y hdx hdy
    cases he
    obtain⟨h1,h2,_⟩:=CS t k hk Z w x y xs ys (dH hdx hx) (dH hdy hy)
    exact⟨_,bT (.bool _),rfl,by simp only[Sem.run_bind,h2,Result.andThen_ok,binOp,h1,Sem.run_pure,bT],eF _⟩
   ·cases he
 ·simp only[az]at hu hv
  subst hu;subst hv
  have key:(P.underlying t).map wm=some true→∃e,P.underlying t=some (.pointer e):=fun hm=>by
   obtain⟨d,hd,he⟩:=Option.map_eq_some_iff.1 hm
   cases d<;>simp[wm]at he
   exact⟨_,hd⟩
  simp only[Sem.run_bind,DE,Result.andThen_ok]
  split at he
  ·rename_i hm
   cases he
   obtain⟨et,ht⟩:=key hm
   exact⟨_,bT (.bool _),rfl,by simp only[binOp,Sem.run_bind,j7 ht,Result.andThen_ok,Sem.run_pure,bT,Option.isNone_none,Option.isNone_some,Bool.not_true,Bool.not_false],eF _⟩
  ·rename_i hm
   cases he
   obtain⟨et,ht⟩:=key hm
   exact⟨_,bT (.bool _),rfl,by simp only[binOp,Sem.run_bind,j7 ht,Result.andThen_ok,Sem.run_pure,bT,Option.isNone_none,Option.isNone_some,Bool.not_true,Bool.not_false],eF _⟩
  ·cases he
 ·simp only[az]at hu hv
  obtain⟨a,rfl,_⟩:=hu
  subst hv
  have key:(P.underlying t).map wm=some true→∃e,P.underlying t=some (.pointer e):=fun hm=>by
   obtain⟨d,hd,he⟩:=Option.map_eq_some_iff.1 hm
   cases d<;>simp[wm]at he
   exact⟨_,hd⟩
  simp only[Sem.run_bind,DE,Result.andThen_ok]
  split at he
  ·rename_i hm
   cases he
   obtain⟨et,ht⟩:=key hm
   exact⟨_,bT (.bool _),rfl,by simp only[binOp,Sem.run_bind,j7 ht,Result.andThen_ok,Sem.run_pure,bT,Option.isNone_none,Option.isNone_some,Bool.not_true,Bool.not_false],eF _⟩
  ·rename_i hm
   cases he
   obtain⟨et,ht⟩:=key hm
   exact⟨_,bT (.bool _),rfl,by simp only[binOp,Sem.run_bind,j7 ht,Result.andThen_ok,Sem.run_pure,bT,Option.isNone_none,Option.isNone_some,Bool.not_true,Bool.not_false],eF _⟩
  ·cases he
 ·cases he
theorem MV{a:AV}{v:Value}(hp:wh a=true)(hr:az Z ψ h w a v):v.oneCell'=true:=by
 cases a with
 |no=>cases hp
 |agg cs=>cases hp
 |nh cs=>cases hp
 |bool b=>simp only[az]at hr;subst hr;rfl
 |int k n=>simp only[az]at hr;subst hr;rfl
 |str s=>simp only[az]at hr;subst hr;rfl
 |kX=>simp only[az]at hr;subst hr;rfl
 |fV=>simp only[az]at hr;subst hr;rfl
 |ref id s i off=>simp only[az]at hr;obtain⟨a,rfl,_⟩:=hr;rfl
 |fp k x off=>simp only[az]at hr;obtain⟨a,us,rfl,_⟩:=hr;rfl
 |sl ex k xs=>simp only[az,aI]at hr;obtain⟨⟨v',hv,A,c,rfl,_⟩,_⟩:=hr;cases hv;rfl
 |bH id=>simp only[az]at hr;exact hr.1.2
 |mp kk vk es=>simp only[az,aI]at hr;obtain⟨A,hv,_⟩:=hr;cases hv;rfl
 |fn f cap=>simp only[az]at hr;obtain⟨vs,rfl,_⟩:=hr;rfl
theorem tM:∀{cs:List AV} {vs:List Value},cs.all wh=true→an Z ψ h w cs vs→∀u∈vs,u.oneCell'=true
 |[],_,_,hr,u,hu=>by simp only[an]at hr;subst hr;simp at hu
 |c::r,_,hp,hr,u,hu=>by
  simp only[List.all_cons,Bool.and_eq_true]at hp
  simp only[an]at hr
  obtain⟨v,us,rfl,h1,h2⟩:=hr
  rcases List.mem_cons.1 hu with rfl|hu
  ·exact MV hp.1 h1
  ·exact tM hp.2 h2 u hu
theorem GI{a:AV}(hp:a.cells.all wh=true):a≠.no:=by rintro rfl;simp[AV.cells,wh]at hp
theorem rP{id:Nat}:∀{cs:List AV},Ju id cs=true→AV.bH id∉cs
 |[],_=>by simp
 |c::r,hn=>by
  intro hm
  cases c with
  |bH i =>
   simp only[Ju,Bool.and_eq_true,Bool.not_eq_true',beq_eq_false_iff_ne]at hn
   rcases List.mem_cons.1 hm with e|hm
   ·cases e;exact hn.1 rfl
   ·exact rP hn.2 hm
  |_ =>
   simp only[Ju]at hn
   rcases List.mem_cons.1 hm with e|hm
   ·cases e
   ·exact rP hn hm
theorem xY{hh:Heap}(g:Good Z ψ hh.get w B0 O){t:TypeId}{a x:AV}{u v:Value}{e:bI}(hu:az Z ψ hh.get w a u)(hv:az Z ψ hh.get w x v)(he:rG P hh t a x some=some e) :
  ∃hw w' Z',e=.wr .no hw∧(Instr.storeAt t u v).run P w=.ok () w'∧Next Z ψ hh.get w B0 O N Z' ψ hw.get w':=by
 unfold rG at he
 split at he
 ·rename_i hc
  obtain⟨hlen,T1,qT⟩:=hc
  obtain⟨inf,T1⟩:=Option.isSome_iff_exists.1 T1
  have OM:=hv.cells (GI qT)
  have ES:=tM qT OM
  have tG:=OM.length
  simp only[Array.length_toList]at tG
  split at he
  ·rename_i id s i off
   simp only[az]at hu
   obtain⟨a,rfl,ha⟩:=hu
   split at he
   ·rename_i ty cs hg
    split at he
    ·rename_i hc
     obtain⟨rfl,Zw⟩:=hc
     cases he
     have Gv:=ha (by rw[hg];simp)
     obtain⟨w',h1,h2⟩:=Ar (P:=P) (N:=N) g hg T1 OM ES (by omega) Zw (a:=a) (by rw[Gv];simp)
     exact⟨_,w',Z,rfl,h1,by rw[mJ];exact h2⟩
    ·cases he
   ·rename_i ty kk xs hg
    obtain⟨y,hx,Ty⟩:=Option.bind_eq_some_iff.1 he
    clear he
    split at Ty
    ·rename_i hc
     obtain⟨rfl,Zw,qS⟩:=hc
     split at Ty
     ·rename_i z hz
      cases Ty
      have Gv:=ha (by rw[hg];simp)
      have bO:=rP qS
      have gd:=iv g x.cells
      have hgd:(cI hh x.cells).get id=some (.own (.row ty kk) xs):=by rw[o4 _ _ _ bO];exact hg
      have Xh:=nY (Z':=qy Z ψ hh.get x.cells) g (fun b hb=>.inl hb) (fun i b hm br hb=>.inr ⟨i,hm,br,hb⟩) OM
      obtain⟨w',h1,h2⟩:=Au (P:=P) (N:=N) gd hgd T1 hx (y:=z) (off:=off) (V:=v) (by omega) (by omega) (a:=a) Gv (fun us T2=>by
       have h3:=(ig (ψ:=ψ) (h:=hh.get) T2)
       have h4:=dH hz (Xh.dU off h3)
       rwa [rN _ _ _ (by rw[Array.length_toList,T2.len];omega),Array.length_toList]at h4) ES
      refine⟨_,w',qy Z ψ hh.get x.cells,rfl,h1,?_⟩
      rw[show((stored hh x.cells).2.set id (.own (.row ty kk) (xs.set i z))).get=ed (cI hh x.cells).get id (some (.own (.row ty kk) (xs.set i z))) from mJ _ _ _]
      exact h2.drop (fun b hb=>.inl hb) (fun b hb=>hb.imp (fun h=>h) (fun⟨i,_,h5,h6⟩=>⟨i,h5,h6⟩)) (dZ _ _)
     ·cases Ty
    ·cases Ty
   ·cases he
  ·cases he
 ·cases he
end Go.Vs
namespace Go.Vs
variable {P:Program} {Z Z':Nat→Prop} {ψ ψ':Nat→Value} {h h':Hp} {w w':World} {B0:Nat} {O:Nat→Prop} {N:Nat→Prop}
theorem Pq{a:AV}{v:Value}(ha:a.isAgg=true)(hr:az Z ψ h w a v):∃vs,v=.agg vs:=by
 cases a<;>simp[AV.isAgg]at ha
 simp only[az]at hr
 obtain⟨vs,rfl,_⟩:=hr
 exact⟨vs,rfl⟩
theorem DF{a:AV}{v:Value}(ha:a.isAgg=false)(qS:a≠.no)(hr:az Z ψ h w a v):v.cells=#[v]:=by
 cases a with
 |no=>exact absurd rfl qS
 |agg cs=>simp[AV.isAgg]at ha
 |bool b=>simp only[az]at hr;subst hr;rfl
 |int k n=>simp only[az]at hr;subst hr;rfl
 |str s=>simp only[az]at hr;subst hr;rfl
 |kX=>simp only[az]at hr;subst hr;rfl
 |fV=>simp only[az]at hr;subst hr;rfl
 |ref id s i off=>simp only[az]at hr;obtain⟨a,rfl,_⟩:=hr;rfl
 |fp k x off=>simp only[az]at hr;obtain⟨a,us,rfl,_⟩:=hr;rfl
 |sl ex k xs=>simp only[az,aI]at hr;obtain⟨⟨v',hv,A,c,rfl,_⟩,_⟩:=hr;cases hv;rfl
 |bH id=>simp only[az]at hr;exact hr.1.1
 |mp kk vk es=>simp only[az,aI]at hr;obtain⟨A,hv,_⟩:=hr;cases hv;rfl
 |fn f cap=>simp only[az]at hr;obtain⟨vs,rfl,_⟩:=hr;rfl
 |nh cs=>simp only[az]at hr;obtain⟨vs,rfl,_⟩:=hr;rfl
theorem tN{hh:Heap}{k:K}{a:AV}{x:k.T}{v:Value}(g:Good Z ψ hh.get w B0 O)(hz:∀b,Z b→Z' b)(hb:∀id b,AV.bH id∈a.cells→hh.get id≠none→ob (ψ id)=some b→Z' b)
  (hx:fT k hh a=some x) (hr:az Z ψ hh.get w a v):aI Z' w k x v.cells.toList∧(k.isAgg=true→∃vs,v=.agg vs)∧(k.isAgg=false→v.cells=#[v]):=by
 unfold fT at hx
 split at hx
 ·rename_i VL
  have qS:=DD hx
  have hv:=nY g hz hb (hr.cells qS)
  exact⟨dH hx hv,fun h=>Pq (by rw[←VL];exact h) hr,fun h=>DF (by rw[←VL];exact h) qS hr⟩
 ·cases hx
theorem rQ{hh:Heap}{k:K}{a:AV}{x:k.T}{v:Value}(g:Good Z ψ hh.get w B0 O)(hz:∀b,Z b→Z' b)(hb:∀id b,AV.bH id∈a.cells→hh.get id≠none→ob (ψ id)=some b→Z' b)
  (hx:fT k hh a=some x) (hr:az Z ψ hh.get w a v):az Z' ψ' h' w (cj k x) v:=by
 obtain⟨h1,h2,h3⟩:=tN g hz hb hx hr
 exact lK h1 h2 h3
theorem aI.flat:∀{k:K} {x:k.T} {vs:List Value},k.flat=true→aI Z w k x vs→aI Z' w' k x vs
 |.int _,_,_,_,h=>h
 |.bool,_,_,_,h=>h
 |.str,_,_,_,h=>h
 |.sl k,_,_,hf,_=>by simp[K.flat]at hf
 |.pair a b,x,_,hf,h=>by
  simp only[K.flat,Bool.and_eq_true]at hf
  simp only[aI]at h ⊢
  obtain⟨us,ws,rfl,h1,h2⟩:=h
  exact⟨us,ws,rfl,aI.flat hf.1 h1,aI.flat hf.2 h2⟩
 |.one k,x,_,hf,h=>by
  simp only[aI]at h ⊢
  exact aI.flat (k:=k) (by simpa only[K.flat] using hf) h
theorem zp:∀(k:K) (x y:k.T),k.flat=true→(rF k x y=true↔x=y)
 |.int _,x,y,_=>by simp only[rF];exact beq_iff_eq (α:=Int)
 |.bool,x,y,_=>by simp only[rF];exact beq_iff_eq (α:=Bool)
 |.str,x,y,_=>by simp only[rF];exact MapKept.bytes_beq x y
 |.sl _,_,_,hf=>by simp[K.flat]at hf
 |.mp _ _,_,_,hf=>by simp[K.flat]at hf
 |.pair a b,x,y,hf=>by
  simp only[K.flat,Bool.and_eq_true]at hf
  simp only[rF,Bool.and_eq_true]
  rw[zp a _ _ hf.1,zp b _ _ hf.2]
  exact⟨fun h=>Prod.ext h.1 h.2,fun h=>⟨congrArg Prod.fst h,congrArg Prod.snd h⟩⟩
 |.one k,x,y,hf=>by simp only[rF];exact zp k x y (by simpa only[K.flat] using hf)
theorem o8:∀{k:K} {x:k.T} {us vs:List Value},k.flat=true→aI Z w k x us→aI Z' w' k x vs→us=vs
 |.int _,_,_,_,_,h1,h2=>by simp only[aI]at h1 h2;rw[h1,h2]
 |.bool,_,_,_,_,h1,h2=>by simp only[aI]at h1 h2;rw[h1,h2]
 |.str,_,_,_,_,h1,h2=>by simp only[aI]at h1 h2;rw[h1,h2]
 |.sl _,_,_,_,hf,_,_=>by simp[K.flat]at hf
 |.mp _ _,_,_,_,hf,_,_=>by simp[K.flat]at hf
 |.pair a b,x,_,_,hf,h1,h2=>by
  simp only[K.flat,Bool.and_eq_true]at hf
  simp only[aI]at h1 h2
  obtain⟨a1,a2,rfl,h3,h4⟩:=h1
  obtain⟨b1,b2,rfl,h5,h6⟩:=h2
  rw[o8 hf.1 h3 h5,o8 hf.2 h4 h6]
 |.one k,x,_,_,hf,h1,h2=>by
  simp only[aI]at h1 h2
  exact o8 (k:=k) (by simpa only[K.flat] using hf) h1 h2
theorem rR:∀{k:K} {x:k.T} {us:List Value},k.flat=true→aI Z w k x us→∀u∈us,∀n,Instr.sameBits n u u=true
 |.int _,x,_,_,h1,u,hu,n=>by simp only[aI]at h1;subst h1;simp only[List.mem_singleton]at hu;subst hu;cases n<;>simp[Instr.sameBits]<;>exact beq_self_eq_true (α:=Int) x
 |.bool,x,_,_,h1,u,hu,n=>by simp only[aI]at h1;subst h1;simp only[List.mem_singleton]at hu;subst hu;cases n<;>simp[Instr.sameBits]<;>exact beq_self_eq_true (α:=Bool) x
 |.str,x,_,_,h1,u,hu,n=>by simp only[aI]at h1;subst h1;simp only[List.mem_singleton]at hu;subst hu;cases n<;>simp[Instr.sameBits]<;>exact(MapKept.bytes_beq x x).2 rfl
 |.sl _,_,_,hf,_,_,_,_=>by simp[K.flat]at hf
 |.mp _ _,_,_,hf,_,_,_,_=>by simp[K.flat]at hf
 |.pair a b,x,_,hf,h1,u,hu,n=>by
  simp only[K.flat,Bool.and_eq_true]at hf
  simp only[aI]at h1
  obtain⟨a1,a2,rfl,h3,h4⟩:=h1
  rcases List.mem_append.1 hu with hu|hu
  ·exact rR hf.1 h3 u hu n
  ·exact rR hf.2 h4 u hu n
 |.one k,x,_,hf,h1,u,hu,n=>by
  simp only[aI]at h1
  exact rR (k:=k) (by simpa only[K.flat] using hf) h1 u hu n
def Ji(b:Bool)(v:Value):Prop:=(b=true→∃vs,v=.agg vs)∧(b=false→v.cells=#[v])
theorem MW{b:Bool}{u v:Value}(h1:Ji b u)(h2:Ji b v)(h:u.cells.toList=v.cells.toList):u=v:=by
 cases b with
 |true =>
  obtain⟨a,rfl⟩:=h1.1 rfl
  obtain⟨c,rfl⟩:=h2.1 rfl
  have:a=c:=by simpa[Value.cells] using h
  rw[this]
 |false =>
  rw[h1.2 rfl,h2.2 rfl]at h
  simpa using h
theorem Pr{k:K}{x:k.T}{u:Value}(hf:k.flat=true)(hr:aI Z w k x u.cells.toList)(hs:Ji k.isAgg u):Instr.sameBits 10000 u u=true:=by
 have hb:=rR hf hr
 cases hk:k.isAgg with
 |false=>exact hb u (by rw[hs.2 hk];simp) _
 |true =>
  obtain⟨a,rfl⟩:=hs.1 hk
  show Instr.sameBits (9999+1) (.agg a) (.agg a)=true
  simp only[Instr.sameBits,beq_self_eq_true,Bool.true_and,List.all_eq_true]
  intro p hp
  obtain⟨i,hi,he⟩:=List.mem_iff_getElem.1 hp
  simp only[List.getElem_zip]at he
  subst he
  exact hb _ (List.getElem_mem (l:=(Value.agg a).cells.toList) (by simpa[Value.cells] using hi)) _
def Keys(Z:Nat→Prop)(w:World)(k:K)(ys:List k.T)(l:List MapEntry):Prop:=ys.length=l.length∧∀(i:Nat) y e,ys[i]? = some y→l[i]? = some e→aI Z w k y e.key.cells.toList∧Ji k.isAgg e.key
theorem Keys.tail{k:K}{y:k.T}{ys:List k.T}{e:MapEntry}{l:List MapEntry}(h:Keys Z w k (y::ys) (e::l)):Keys Z w k ys l:=⟨by simpa using h.1,fun i a b h1 h2=>h.2 (i+1) a b (by simpa using h1) (by simpa using h2)⟩
theorem GJ{k:K}{x:k.T}{d:TypeDesc}{kv:Value}(hs:∀y Tz,aI Z w k y Tz.cells.toList→Ji k.isAgg Tz→Instr.sameNow d kv Tz=some (rF k x y)):∀(l:List MapEntry) (ys:List k.T) (i:Nat),Keys Z w k ys l →
  Instr.findNow d kv l i=some ((ys.findIdx? (rF k x)).map fun j=>(i+j,((l[j]?).map (·.val)).getD undef))
 |[],ys,i,h=>by
  have:ys=[]:=List.eq_nil_of_length_eq_zero (by simpa using h.1)
  subst this;rfl
 |e::l,[],i,h=>by have:=h.1;simp at this
 |e::l,y::ys,i,h=>by
  obtain⟨h1,h2⟩:=h.2 0 y e rfl rfl
  have ih:=GJ hs l ys (i+1) h.tail
  simp only[Instr.findNow,hs y _ h1 h2,List.findIdx?_cons]
  cases rF k x y with
  |true=>simp
  |false =>
   simp only[ih,Bool.false_eq_true,if_false]
   cases ys.findIdx? (rF k x) with
   |none=>rfl
   |some j=>simp;omega
theorem xZ{k:K}{x:k.T}{t:TypeId}{kv:Value}(hs:∀y Tz,aI Z w k y Tz.cells.toList→Ji k.isAgg Tz→(Op.equal t kv Tz).run P w=.ok (rF k x y) w):∀(l:List MapEntry) (ys:List k.T) (i:Nat),Keys Z w k ys l →
  (Instr.findAsking t kv l i).run P w=.ok ((ys.findIdx? (rF k x)).map fun j=>(i+j,((l[j]?).map (·.val)).getD undef)) w
 |[],ys,i,h=>by
  have:ys=[]:=List.eq_nil_of_length_eq_zero (by simpa using h.1)
  subst this;rfl
 |e::l,[],i,h=>by have:=h.1;simp at this
 |e::l,y::ys,i,h=>by
  obtain⟨h1,h2⟩:=h.2 0 y e rfl rfl
  have ih:=xZ hs l ys (i+1) h.tail
  simp only[Instr.findAsking,Sem.run_bind,hs y _ h1 h2,Result.andThen_ok,List.findIdx?_cons]
  cases rF k x y with
  |true=>simp
  |false =>
   simp only[ih,Bool.false_eq_true,if_false]
   cases ys.findIdx? (rF k x) with
   |none=>rfl
   |some j=>simp;omega
structure Ps(P:Program)(t:TypeId)(k:K):Prop where
 flat:k.flat=true
 check:∀(Z:Nat→Prop) (w:World) (x:k.T) (kv:Value) (e:Bool),aI Z w k x kv.cells.toList→Ji k.isAgg kv→(Instr.checkKey e 10000 t kv).run P w=.ok () w
 find:∀(Z:Nat→Prop) (w:World) (x:k.T) (kv:Value) (l:List MapEntry) (ys:List k.T),aI Z w k x kv.cells.toList→Ji k.isAgg kv→Keys Z w k ys l →
  (Instr.findKey t kv l).run P w=.ok ((ys.findIdx? (rF k x)).map fun j=>(j,((l[j]?).map (·.val)).getD undef)) w
theorem o9{t:TypeId}{k:K}{d:TypeDesc}(hf:k.flat=true)(hk:k.isAgg=false)(hd:P.underlying t=some d)(hc:∀(Z:Nat→Prop) (w:World) (x:k.T) (kv:Value),aI Z w k x [kv]→MapKept.IsKey d kv)
  (hs:∀(Z:Nat→Prop) (w:World) (x y:k.T) (u v:Value),aI Z w k x [u]→aI Z w k y [v]→Instr.sameNow d u v=some (rF k x y)):Ps P t k:=by
 have one:∀{Z:Nat→Prop} {w:World} {x:k.T} {kv:Value},aI Z w k x kv.cells.toList→Ji k.isAgg kv→aI Z w k x [kv]:=fun {Z w x kv} h1 h2=>by
  rw[h2.2 hk]at h1;exact h1
 refine⟨hf,fun Z w x kv e h1 h2=>MapKept.run_checkKey hd (hc Z w x kv (one h1 h2)) e 9999,fun Z w x kv l ys h1 h2 h3=>?_⟩
 have:=GJ (Z:=Z) (w:=w) (x:=x) (d:=d) (kv:=kv) (fun y Tz h4 h5=>hs Z w x y kv Tz (one h1 h2) (one h4 h5)) l ys 0 h3
 simp only[Nat.zero_add]at this
 exact MapKept.run_findKey hd this
theorem GK(d:TypeDesc)(a:Array Value)(v:Value):Instr.sameNow d (.agg a) v=none:=by cases d<;>cases v<;>rfl
theorem wA{Eqs:TypeId→Option K}(CS:∀t k,Eqs t=some k→lL P t k){t:TypeId}{k:K}(hk:Li P Eqs t k=true):Ps P t k:=by
 unfold Li at hk
 rw[Bool.and_eq_true]at hk
 obtain⟨hf,hk⟩:=hk
 split at hk
 ·rename_i ik YS hd
  simp only[decide_eq_true_eq]at hk
  subst hk
  exact o9 hf rfl hd (fun Z w x kv hr=>by simp only[aI]at hr;cases hr;simp[MapKept.IsKey]) (fun Z w x y u v h1 h2=>by simp only[aI]at h1 h2;cases h1;cases h2;simp[Instr.sameNow,rF])
 ·rename_i hd
  exact o9 hf rfl hd (fun Z w x kv hr=>by simp only[aI]at hr;cases hr;simp[MapKept.IsKey]) (fun Z w x y u v h1 h2=>by simp only[aI]at h1 h2;cases h1;cases h2;simp[Instr.sameNow,rF])
 ·rename_i hd
  exact o9 hf rfl hd (fun Z w x kv hr=>by simp only[aI]at hr;cases hr;simp[MapKept.IsKey]) (fun Z w x y u v h1 h2=>by simp only[aI]at h1 h2;cases h1;cases h2;simp[Instr.sameNow,rF])
 ·simp only[Bool.and_eq_true,decide_eq_true_eq]at hk
  obtain⟨VL,hk⟩:=hk
  have fact:=CS _ _ hk
  have agg:∀{b:Bool} {u:Value},b=true→Ji b u→∃a,u=.agg a:=fun hb h=>h.1 hb
  refine⟨hf,fun Z w x kv e h1 h2=>?_,fun Z w x kv l ys h1 h2 h3=>?_⟩
  ·obtain⟨a,rfl⟩:=agg VL h2
   exact(fact Z w x x a a h1 h1).2.2 e
  ·obtain⟨a,rfl⟩:=agg VL h2
   have h4:=xZ (P:=P) (t:=t) (Z:=Z) (w:=w) (x:=x) (kv:=.agg a) (fun y Tz h4 h5=>by
    obtain⟨b,rfl⟩:=agg VL h5
    exact(fact Z w x y a b h1 h4).1) l ys 0 h3
   simp only[Nat.zero_add]at h4
   cases l with
   |nil =>
    have:ys=[]:=List.eq_nil_of_length_eq_zero (by simpa using h3.1)
    subst this
    cases hu:P.underlying t with
    |none =>
     have hc:=(fact Z w x x a a h1 h1).2.2 true
     exfalso
     unfold Instr.checkKey at hc
     simp[underlying,hu]at hc
    |some d=>simp[Instr.findKey,run_underlying hu,Instr.findNow]
   |cons e l =>
    cases hu:P.underlying t with
    |none =>
     have hc:=(fact Z w x x a a h1 h1).2.2 true
     exfalso
     unfold Instr.checkKey at hc
     simp[underlying,hu]at hc
    |some d=>simp only[Instr.findKey,Sem.run_bind,run_underlying hu,Result.andThen_ok,Instr.findNow,GK];exact h4
section
variable {kk vk:K} {es:List (kk.T×vk.T)} {l:List MapEntry}
abbrev ke(Z:Nat→Prop)(w:World)(kk vk:K)(es:List (kk.T×vk.T))(l:List MapEntry):Prop:=EN (aI Z w kk) (aI Z w vk) kk.isAgg vk.isAgg es l
theorem ke.keys(h:ke Z w kk vk es l):Keys Z w kk (es.map (·.1)) l :=
 ⟨by rw[List.length_map];exact h.1,fun i y e h1 h2=>by
  rw[List.getElem?_map]at h1
  obtain⟨x,h3,rfl⟩:=Option.map_eq_some_iff.1 h1
  exact(h.2 i x e h3 h2).1⟩
theorem AE{x:kk.T}:(es.map (·.1)).findIdx? (rF kk x)=tB kk x es:=by unfold tB;rw[List.findIdx?_map];rfl
theorem ET{x:kk.T}{i:Nat}(h:tB kk x es=some i):i<es.length:=by
 unfold tB at h
 exact(List.findIdx?_eq_some_iff_getElem.1 h).1
theorem T3{x:kk.T}{i:Nat}(h:tB kk x es=some i):∃e,es[i]? = some e∧rF kk x e.1=true:=by
 unfold tB at h
 obtain⟨h1,h2,_⟩:=List.findIdx?_eq_some_iff_getElem.1 h
 exact⟨_,List.getElem?_eq_getElem h1,h2⟩
def Pu(Z:Nat→Prop)(w:World)(kk vk:K)(x:kk.T×vk.T)(e:MapEntry):Prop:=(aI Z w kk x.1 e.key.cells.toList∧Ji kk.isAgg e.key)∧aI Z w vk x.2 e.val.cells.toList∧Ji vk.isAgg e.val
theorem ke.set(h:ke Z w kk vk es l)(i:Nat){x:kk.T×vk.T}{f:MapEntry→MapEntry}(ho:∀e,l[i]? = some e→Pu Z w kk vk x (f e)):ke Z w kk vk (es.set i x) (l.modify i f):=by
 refine⟨by simp[h.1],fun j y e h1 h2=>?_⟩
 rw[List.getElem?_modify]at h2
 obtain⟨e0,h3,h4⟩:=Option.map_eq_some_iff.1 h2
 by_cases zq:i=j
 ·subst zq
  rw[if_pos rfl]at h4
  have aF:i<es.length:=by rw[h.1];exact(List.getElem?_eq_some_iff.1 h3).1
  rw[List.getElem?_set_self aF]at h1
  cases h1
  subst h4
  exact ho e0 h3
 ·rw[if_neg zq]at h4
  rw[List.getElem?_set_ne zq]at h1
  subst h4
  exact h.2 j y e0 h1 h3
theorem ke.push(h:ke Z w kk vk es l){x:kk.T×vk.T}{e:MapEntry}(ho:Pu Z w kk vk x e):ke Z w kk vk (es++[x]) (l++[e]):=by
 refine⟨by simp[h.1],fun j y e' h1 h2=>?_⟩
 by_cases hj:j<es.length
 ·rw[List.getElem?_append_left hj]at h1
  rw[List.getElem?_append_left (by rw[←h.1];exact hj)]at h2
  exact h.2 j y e' h1 h2
 ·rw[List.getElem?_append_right (by omega)]at h1
  rw[List.getElem?_append_right (by have:=h.1;omega),←h.1]at h2
  by_cases h0:j-es.length=0
  ·rw[h0]at h1 h2;cases h1;cases h2;exact ho
  ·rw[List.getElem?_eq_none (by simp;omega)]at h1;cases h1
theorem ke.erase(h:ke Z w kk vk es l)(i:Nat):ke Z w kk vk (es.eraseIdx i) (l.eraseIdx i):=by
 refine⟨by rw[List.length_eraseIdx,List.length_eraseIdx,h.1],fun j y e h1 h2=>?_⟩
 rw[List.getElem?_eraseIdx]at h1 h2
 split at h1
 ·rename_i hj;rw[if_pos hj]at h2;exact h.2 j y e h1 h2
 ·rename_i hj;rw[if_neg hj]at h2;exact h.2 (j+1) y e h1 h2
theorem ke.mono(h:ke Z w kk vk es l)(hz:∀b,Z b→Z' b)(hs:ct Z w w'):ke Z' w' kk vk es l:=EN.imp (fun _ _ h=>h.mono hz hs) (fun _ _ h=>h.mono hz hs) h
end
theorem tO{Eqs:TypeId→Option K}{t:TypeId}{kk vk:K}(h:mapOf P Eqs t=some (kk,vk)):∃a b,P.underlying t=some (.map a b)∧Li P Eqs a kk=true∧Lh P b vk=true:=by
 unfold mapOf at h
 split at h
 ·rename_i a b hu
  split at h
  ·split at h
   ·rename_i hc
    cases h
    rw[Bool.and_eq_true]at hc
    exact⟨a,b,hu,hc.1,hc.2⟩
   ·cases h
  ·cases h
 ·cases h
theorem JI{b:TypeId}{vk:K}(h:Lh P b vk=true):∃z,(zeroValue b).run P w=.ok z w∧aI Z w vk (nQ vk) z.cells.toList∧Ji vk.isAgg z:=by
 unfold Lh at h
 split at h
 ·rename_i i hi
  split at h
  ·rename_i z hz
   refine⟨z,uM hi hz,?_⟩
   unfold O6 at h
   split at h
   ·simp only[decide_eq_true_eq]at h;obtain⟨rfl,rfl⟩:=h;exact⟨by simp only[aI];rfl,fun h=>(by cases h),fun _=>rfl⟩
   ·rename_i b;simp only[Bool.not_eq_true']at h;subst h;exact⟨by simp only[aI];rfl,fun h=>(by cases h),fun _=>rfl⟩
   ·simp only[decide_eq_true_eq]at h;subst h;exact⟨by simp only[aI];rfl,fun h=>(by cases h),fun _=>rfl⟩
   ·simp only[decide_eq_true_eq]at h;obtain⟨rfl,rfl,rfl⟩:=h
    exact⟨by simp only[aI];exact⟨_,rfl,none,0,rfl,Nat.le_refl _,fun _=>rfl,fun i x hx=>by simp[nQ]at hx⟩,fun h=>(by cases h),fun _=>rfl⟩
   ·cases h
  ·cases h
 ·cases h
theorem Lm{hh:Heap}(g:Good Z ψ h w B0 O)(bC:∀id o,hh.get id=some o→h id=some o){m:AV}{u:Value}{kk vk:K}{es:List (kk.T×vk.T)}(hm:az Z ψ h w m u)(hv:cM hh m=.mp kk vk es) :
  ∃A,u=.map A∧((A=none∧es=[])∨∃r bW clock,A=some r∧w.heap[r]? = some (.map bW clock)∧ke Z w kk vk es bW.toList):=by
 cases m with
 |mp Lg TS Pv =>
  simp only[cM]at hv
  cases hv
  simp only[az,aI]at hm
  obtain⟨A,h1,h2⟩:=hm
  cases h1
  refine⟨A,rfl,h2.imp (fun h=>h) fun⟨m,bW,clock,h3,_,h4,h5⟩=>⟨m,bW,clock,h3,h4,h5⟩⟩
 |bH id =>
  simp only[cM]at hv
  split at hv
  ·cases hv
  ·rename_i Lg TS Pv hg
   cases hv
   have AA:=bC _ _ hg
   simp only[az]at hm
   have:=hm.2 (by rw[AA];simp)
   subst this
   obtain⟨r,bW,clock,h1,h2,h3,_⟩:=g.row id (.map kk vk) es AA
   exact⟨some r,h1,.inr ⟨r,bW,clock,rfl,h2,h3⟩⟩
  ·cases hv
 |_=>simp only[cM]at hv;cases hv
theorem JJ{hh:Heap}(g:Good Z ψ h w B0 O)(bC:∀id o,hh.get id=some o→h id=some o){k:K}(hf:k.flat=true){a:AV}{x:k.T}{v:Value}(hx:fT k hh a=some x)(hr:az Z ψ h w a v):aI Z w k x v.cells.toList∧Ji k.isAgg v:=by
 obtain⟨h1,h2,h3⟩:=tN (Z':=fun b=>b<w.heap.size) (g.sub bC) (fun b hb=>g.jM b hb) (fun id b _ h1 h2=>(g.sub bC).bP ⟨id,h1,h2⟩) hx (hr.less (fun _ h=>h) (ct.refl _ _) (fun id bO=>by
  obtain⟨o,ho⟩:=Option.ne_none_iff_exists'.1 bO
  exact⟨by rw[bC id o ho];simp,rfl⟩))
 exact⟨h1.flat hf,h2,h3⟩
theorem EU{Eqs:TypeId→Option K}(CS:∀t k,Eqs t=some k→lL P t k){hh:Heap}(g:Good Z ψ h w B0 O)(bC:∀id o,hh.get id=some o→h id=some o){t:TypeId}{m i:AV}{u v:Value}{ok:Bool}{e:bI}
  (hm:az Z ψ h w m u) (hi:az Z ψ h w i v) (he:nT P Eqs hh t m i ok some=some e):∃y V,e=.val y∧(Instr.lookup t u v ok).run P w=.ok V w∧az Z ψ h w y V:=by
 unfold nT at he
 split at he
 ·rename_i ka va kk vk es YU hv
  split at he
  ·rename_i hc
   obtain⟨rfl,rfl⟩:=hc
   split at he
   ·rename_i x hx
    cases he
    obtain⟨a,b,hu,hk,hz⟩:=tO YU
    have K:=wA CS hk
    obtain⟨JK,oT⟩:=JJ g bC K.flat hx hi
    obtain⟨z,xX,CR,Jg⟩:=JI (Z:=Z) (w:=w) hz
    have fin:∀(l:List MapEntry),ke Z w kk vk es l→∃V,((∃j,(Instr.findKey a v l).run P w=.ok (some (j,V)) w∧(jh kk x es).isSome=true)∨((Instr.findKey a v l).run P w=.ok none w∧(zeroValue b).run P w=.ok V w∧(jh kk x es).isSome=false)) ∧
      aI Z w vk ((jh kk x es).getD (nQ vk)) V.cells.toList∧Ji vk.isAgg V:=by
     intro l hE
     have hf:=K.find Z w x v l (es.map (·.1)) JK oT hE.keys
     rw[AE]at hf
     cases DG:tB kk x es with
     |none =>
      rw[DG]at hf
      exact⟨z,.inr ⟨hf,xX,by simp[jh,DG]⟩,by simpa[jh,DG] using CR,Jg⟩
     |some j =>
      rw[DG]at hf
      have hj:=ET DG
      have h1:es[j]? = some es[j]:=List.getElem?_eq_getElem hj
      have Jj:j<l.length:=by rw[←hE.1];exact hj
      have h2:l[j]? = some l[j]:=List.getElem?_eq_getElem Jj
      obtain⟨_,h3,h4⟩:=hE.2 j _ _ h1 h2
      refine⟨l[j].val,.inl ⟨j,?_,by simp[jh,DG,h1]⟩,by simpa[jh,DG,h1] using h3,h4⟩
      rw[hf];simp only[Option.map_some,h2,Option.getD_some]
    have out:∀V:Value,aI Z w vk ((jh kk x es).getD (nQ vk)) V.cells.toList→Ji vk.isAgg V→az Z ψ h w (cond ok (AV.nh [cj vk ((jh kk x es).getD (nQ vk)),.bool (jh kk x es).isSome]) (cj vk ((jh kk x es).getD (nQ vk)))) (if ok then .tuple #[V,.bool (jh kk x es).isSome] else V):=by
     intro V h1 h2
     have h3:az Z ψ h w (cj vk ((jh kk x es).getD (nQ vk))) V:=lK h1 h2.1 h2.2
     cases ok with
     |false=>exact h3
     |true=>simp only[cond_true,if_true,az,an];exact⟨_,rfl,V,[.bool (jh kk x es).isSome],by simp,h3,_,[],rfl,rfl,rfl⟩
    obtain⟨A,rfl,hA⟩:=Lm g bC hm hv
    rcases hA with⟨rfl,rfl⟩|⟨r,bW,clock,rfl,h3,h4⟩
    ·obtain⟨V,h5,h6,h7⟩:=fin [] ⟨rfl,fun i x e h=>by simp at h⟩
     refine⟨_,_,rfl,?_,out V h6 h7⟩
     simp only[Instr.lookup,Sem.run_bind,run_underlying hu,Result.andThen_ok,Sem.run_pure,K.check Z w x v _ JK oT]
     rcases h5 with⟨j,h8,h9⟩|⟨h8,h9,nq⟩
     ·simp[h8,h9]
     ·simp[h8,h9,nq]
    ·obtain⟨V,h5,h6,h7⟩:=fin bW.toList h4
     refine⟨_,_,rfl,?_,out V h6 h7⟩
     simp only[Instr.lookup,Sem.run_bind,run_underlying hu,Result.andThen_ok,Sem.run_pure,MapKept.run_getObj_map h3,K.check Z w x v _ JK oT]
     rcases h5 with⟨j,h8,h9⟩|⟨h8,h9,nq⟩
     ·simp[h8,h9]
     ·simp[h8,h9,nq]
   ·cases he
  ·cases he
 ·cases he
end Go.Vs
namespace Go.Vs
variable {P:Program} {Z Z':Nat→Prop} {ψ ψ':Nat→Value} {h h':Hp} {w w':World} {B0:Nat} {O:Nat→Prop} {N:Nat→Prop}
theorem wB{r b:Nat}(o:Obj)(br:r≠b):(w.heap.setIfInBounds r o)[b]? = w.heap[b]? := by rw[Array.getElem?_setIfInBounds];simp[br]
theorem c9.aeB{r:Nat}(ho:Own ψ h r)(o:Obj):c9 ψ h w { w with heap:=w.heap.setIfInBounds r o } :=
 ⟨rfl,rfl,rfl,by simp,fun b _ hb=>wB o (fun e=>hb (e▸ho))⟩
theorem rS{hp:Hp}(g:Good Z ψ hp w B0 O){id:Nat}(bO:hp id≠none){r:Nat}(hr:ob (ψ id)=some r)(aF:r<w.heap.size)(o:Obj){ok:OK}{x:ok.T}
  (hx:∀w':World,w'.heap=w.heap.setIfInBounds r o→ct Z w w'→jD Z w' ok (ψ id) x) :
  Next Z ψ hp w B0 O N Z ψ (ed hp id (some (.own ok x))) { w with heap:=w.heap.setIfInBounds r o }:=by
 have ho:Own ψ hp r:=⟨id,bO,hr⟩
 have kk:=c9.aeB (w:=w) ho o
 refine g.write id bO kk (fun b hb _=>wB o (fun e=>hb (by rw[hr,e]))) _ (fun _ _ he=>by cases he) (fun YT x' he=>?_)
 cases he
 exact hx _ rfl (kk.same g)
theorem ya{l:List MapEntry}{i:Nat}{f:MapEntry→MapEntry}(hf:∀e,(f e).born=e.born):(l.modify i f).map (·.born)=l.map (·.born):=by
 apply List.ext_getElem?
 intro j
 simp only[List.getElem?_map,List.getElem?_modify]
 cases l[j]? with
 |none=>rfl
 |some e=>simp only[Option.map_some];split<;>simp[hf]
theorem wC{l:List MapEntry}:l.Pairwise (fun a b=>a.born≠b.born)↔(l.map (·.born)).Pairwise (·≠·):=by rw[List.pairwise_map]
theorem uP{Eqs:TypeId→Option K}(CS:∀t k,Eqs t=some k→lL P t k){hh:Heap}(g:Good Z ψ hh.get w B0 O){t:TypeId}{m i v:AV}{u1 u2 u3:Value}{e:bI}
  (hm:az Z ψ hh.get w m u1) (hi:az Z ψ hh.get w i u2) (hv:az Z ψ hh.get w v u3) (he:iH P Eqs hh t m i v some=some e) :
  ∃hw w' Z',e=.wr (.nh []) hw∧(Instr.mapUpdate t u1 u2 u3).run P w=.ok () w'∧Next Z ψ hh.get w B0 O N Z' ψ hw.get w':=by
 unfold iH at he
 split at he
 ·rename_i ka va id YU
  split at he
  ·rename_i kk vk es hg
   split at he
   ·rename_i hc
    obtain⟨rfl,rfl⟩:=hc
    split at he
    ·rename_i x y hx hy qS
     cases he
     obtain⟨a,b,hu,hk,_⟩:=tO YU
     have K:=wA CS hk
     obtain⟨JK,oT⟩:=JJ g (fun _ _ h=>h) K.flat hx hi
     simp only[az]at hm
     have Xi:=hm.2 (by rw[hg];simp)
     obtain⟨r,bW,clock,h1,h2,h3,h4,h5⟩:=g.row id (.map kk vk) es hg
     rw[h1]at Xi
     subst Xi
     have bO:AV.bH id∉v.cells:=fun hc=>by
      have:=List.all_eq_true.1 qS _ hc
      simp at this
     have gd:=iv g v.cells
     have hgd:(cI hh v.cells).get id=some (.own (.map kk vk) es):=by rw[o4 _ _ _ bO];exact hg
     obtain⟨uQ,xV,hv3⟩:=tN (Z':=qy Z ψ hh.get v.cells) g (fun b hb=>.inl hb) (fun id b h1 h2 h3=>.inr ⟨id,h1,h2,h3⟩) hy hv
     have Zx:aI (qy Z ψ hh.get v.cells) w kk x u2.cells.toList:=JK.flat K.flat
     have aF:=(Array.getElem?_eq_some_iff.1 h2).1
     have jE:ob (ψ id)=some r:=by rw[h1];rfl
     have hE:ke (qy Z ψ hh.get v.cells) w kk vk es bW.toList:=ke.mono h3 (fun b hb=>.inl hb) (ct.refl _ _)
     have hf:=K.find Z w x u2 bW.toList (es.map (·.1)) JK oT (ke.keys h3)
     rw[AE]at hf
     have fin:∀(o:Obj) (Pv:List (kk.T×vk.T)) (mK:Array MapEntry) (AF:Nat),o=.map mK AF→ke (qy Z ψ hh.get v.cells) w kk vk Pv mK.toList→(mK.toList.map (·.born)).Pairwise (·≠·)→(∀e∈mK.toList,e.born<AF) →
       Next Z ψ hh.get w B0 O N (qy Z ψ hh.get v.cells) ψ ((cI hh v.cells).set id (.own (.map kk vk) Pv)).get { w with heap:=w.heap.setIfInBounds r o }:=by
      rintro o Pv mK AF rfl h6 h7 h8
      rw[mJ]
      have n:=rS (N:=N) gd (by rw[hgd];simp) jE aF (.map mK AF) (ok:=.map kk vk) (x:=Pv) (fun w' JM sm=>⟨r,mK,AF,h1,by rw[JM];simp[aF],ke.mono h6 (fun _ h=>h) sm,wC.2 h7,h8⟩)
      exact n.drop (fun b hb=>.inl hb) (fun b hb=>hb.imp (fun h=>h) (fun⟨i,_,h5,h6⟩=>⟨i,h5,h6⟩)) (dZ _ _)
     cases DG:tB kk x es with
     |none =>
      rw[DG]at hf
      refine⟨_,{ w with heap:=w.heap.setIfInBounds r (.map (bW.push { key:=u2,val:=u3,born:=clock }) (clock+1)) },qy Z ψ hh.get v.cells,rfl,?_,?_⟩
      rotate_left
      ·rw[show mB kk x y es=es++[(x,y)] by simp[mB,DG]]
       refine fin _ _ (bW.push { key:=u2,val:=u3,born:=clock }) (clock+1) rfl ?_ ?_ ?_
       ·rw[Array.toList_push]
        exact hE.push ⟨⟨Zx,oT⟩,uQ,xV,hv3⟩
       ·rw[Array.toList_push,List.map_append,List.pairwise_append]
        refine⟨wC.1 h4,by simp,fun a ha b hb=>?_⟩
        simp only[List.map_cons,List.map_nil,List.mem_singleton]at hb
        obtain⟨e,he,rfl⟩:=List.mem_map.1 ha
        have:=h5 e he
        omega
       ·intro e he
        rw[Array.toList_push]at he
        rcases List.mem_append.1 he with he|he
        ·have:=h5 e he;omega
        ·simp only[List.mem_singleton]at he;subst he;exact Nat.lt_succ_self _
      ·simp only[Instr.mapUpdate,Sem.run_bind,run_underlying hu,Result.andThen_ok,MapKept.run_getObj_map h2,K.check Z w x u2 _ JK oT,hf,Option.map_none,MapKept.run_setObj_map _ h2]
     |some j =>
      rw[DG]at hf
      have hj:=ET DG
      obtain⟨e0,VM,heq⟩:=T3 DG
      have Jj:j<bW.toList.length:=by rw[←h3.1];exact hj
      have hl:bW.toList[j]? = some bW.toList[j]:=List.getElem?_eq_getElem Jj
      have TA:bW[j]? = some bW.toList[j]:=by rw[←hl];simp
      obtain⟨⟨Zy,aeC⟩,_⟩:=h3.2 j _ _ VM hl
      have sP:bW.toList[j].key=u2:=by
       refine MW aeC oT ?_
       rw[←(zp kk x e0.1 K.flat).1 heq]at Zy
       exact o8 K.flat Zy JK
      have VN:(Instr.keyThatStays u2 u2).run P w=.ok u2 w:=by simp[Instr.keyThatStays,Pr K.flat JK oT]
      refine⟨_,{ w with heap:=w.heap.setIfInBounds r (.map (bW.modify j fun e=>{ e with key:=u2,val:=u3 }) clock) },qy Z ψ hh.get v.cells,rfl,?_,?_⟩
      rotate_left
      ·rw[show mB kk x y es=es.set j (x,y) by simp[mB,DG]]
       refine fin _ _ (bW.modify j fun e=>{ e with key:=u2,val:=u3 }) clock rfl ?_ ?_ ?_
       ·rw[Array.toList_modify]
        exact hE.set j (fun e he=>⟨⟨Zx,oT⟩,uQ,xV,hv3⟩)
       ·rw[Array.toList_modify,ya (f:=fun e:MapEntry=>{ e with key:=u2,val:=u3 }) (fun _=>rfl)];exact wC.1 h4
       ·intro e he
        have:e.born∈(bW.modify j fun e=>{ e with key:=u2,val:=u3 }).toList.map (·.born):=List.mem_map.2 ⟨e,he,rfl⟩
        rw[Array.toList_modify,ya (f:=fun e:MapEntry=>{ e with key:=u2,val:=u3 }) (fun _=>rfl)]at this
        obtain⟨e',Xb,h6⟩:=List.mem_map.1 this
        rw[←h6];exact h5 e' Xb
      ·simp only[Instr.mapUpdate,Sem.run_bind,run_underlying hu,Result.andThen_ok,MapKept.run_getObj_map h2,K.check Z w x u2 _ JK oT,hf,Option.map_some,TA,Option.getD_some,sP,VN,MapKept.run_setObj_map _ h2]
    ·cases he
   ·cases he
  ·cases he
 ·cases he
theorem uR{Eqs:TypeId→Option K}(CS:∀t k,Eqs t=some k→lL P t k){hh:Heap}(g:Good Z ψ hh.get w B0 O){t ty:TypeId}{ts:List TypeId}{m i:AV}{u1 u2:Value}{e:bI}
  (hm:az Z ψ hh.get w m u1) (hi:az Z ψ hh.get w i u2) (he:nV P Eqs hh t m i some=some e) :
  ∃hw w',e=.wr (.nh []) hw∧(Builtin.delete_ (t::ts).toArray ty #[u1,u2]).run P w=.ok (.tuple #[]) w'∧Next Z ψ hh.get w B0 O N Z ψ hw.get w':=by
 unfold nV at he
 split at he
 ·rename_i ka va id YU
  split at he
  ·rename_i kk vk es hg
   split at he
   ·rename_i hc
    obtain⟨rfl,rfl⟩:=hc
    split at he
    ·rename_i x hx
     cases he
     obtain⟨a,b,hu,hk,_⟩:=tO YU
     have K:=wA CS hk
     obtain⟨JK,oT⟩:=JJ g (fun _ _ h=>h) K.flat hx hi
     simp only[az]at hm
     have Xi:=hm.2 (by rw[hg];simp)
     obtain⟨r,bW,clock,h1,h2,h3,h4,h5⟩:=g.row id (.map kk vk) es hg
     rw[h1]at Xi
     subst Xi
     have aF:=(Array.getElem?_eq_some_iff.1 h2).1
     have jE:ob (ψ id)=some r:=by rw[h1];rfl
     have hf:=K.find Z w x u2 bW.toList (es.map (·.1)) JK oT (ke.keys h3)
     rw[AE]at hf
     have fin:∀(o:Obj) (Pv:List (kk.T×vk.T)) (mK:Array MapEntry),o=.map mK clock→ke Z w kk vk Pv mK.toList→mK.toList.Sublist bW.toList →
       Next Z ψ hh.get w B0 O N Z ψ (hh.set id (.own (.map kk vk) Pv)).get { w with heap:=w.heap.setIfInBounds r o }:=by
      rintro o Pv mK rfl h6 h7
      rw[mJ]
      exact rS (N:=N) g (by rw[hg];simp) jE aF (.map mK clock) (ok:=.map kk vk) (x:=Pv) (fun w' JM sm=>⟨r,mK,clock,h1,by rw[JM];simp[aF],ke.mono h6 (fun _ h=>h) sm,h4.sublist h7,fun e he=>h5 e (h7.subset he)⟩)
     cases DG:tB kk x es with
     |none =>
      rw[DG]at hf
      refine⟨_,{ w with heap:=w.heap.setIfInBounds r (.map bW clock) },rfl,?_,?_⟩
      rotate_left
      ·rw[show O5 kk x es=es by simp[O5,DG]]
       exact fin _ _ bW rfl h3 (List.Sublist.refl _)
      ·simp[Builtin.delete_,run_underlying hu,MapKept.run_getObj_map h2,K.check Z w x u2 _ JK oT,hf,MapKept.run_setObj_map _ h2]
     |some j =>
      rw[DG]at hf
      have hj:=ET DG
      refine⟨_,{ w with heap:=w.heap.setIfInBounds r (.map (bW.eraseIdxIfInBounds j) clock) },rfl,?_,?_⟩
      rotate_left
      ·rw[show O5 kk x es=es.eraseIdx j by simp[O5,DG]]
       refine fin _ _ (bW.eraseIdxIfInBounds j) rfl ?_ ?_
       ·rw[Array.toList_eraseIdxIfInBounds];exact ke.erase h3 j
       ·rw[Array.toList_eraseIdxIfInBounds];exact List.eraseIdx_sublist _ _
      ·simp[Builtin.delete_,run_underlying hu,MapKept.run_getObj_map h2,K.check Z w x u2 _ JK oT,hf,MapKept.run_setObj_map _ h2]
    ·cases he
   ·cases he
  ·cases he
 ·cases he
theorem JN{hh:Heap}(g:Good Z ψ h w B0 O)(bC:∀id o,hh.get id=some o→h id=some o){t ty:TypeId}{x:AV}{u:Value}{e:bI}(ht:Jv P t=true)(hx:az Z ψ h w x u)(he:wj hh x some=some e) :
  ∃n:Nat,e=.val (.int .i64 (n:Int))∧(Builtin.len_ #[t] ty #[u]).run P w=.ok (.int .i64 (n:Int)) w:=by
 unfold wj at he
 split at he
 ·rename_i kk vk es hv
  cases he
  have hu:∃a b,P.underlying t=some (.map a b):=by
   unfold Jv at ht
   split at ht
   ·exact⟨_,_,by assumption⟩
   ·cases ht
  obtain⟨a,b,hu⟩:=hu
  obtain⟨A,rfl,hA⟩:=Lm g bC hx hv
  rcases hA with⟨rfl,rfl⟩|⟨r,bW,clock,rfl,h3,h4⟩
  ·exact⟨0,rfl,by simp[Builtin.len_,run_underlying hu,goInt]⟩
  ·refine⟨es.length,rfl,?_⟩
   have:bW.size=es.length:=by rw[h4.1];simp
   simp[Builtin.len_,run_underlying hu,MapKept.run_getObj_map h3,goInt,this]
 ·cases he
theorem AG(g:Good Z ψ h w B0 O)(hB:B0≤w.heap.size)(id:Nat)(hN:N id){ok:OK}{x:ok.T}{v:Value}(o:Obj)(ho:jD Z (w.alloc o) ok v x)(hb:ob v=some w.heap.size)
  (bu:∀i ty cs,h i=some (.box ty cs)→aC (fun i=>i≠id) cs):Next Z ψ h w B0 O N Z (ed ψ id v) (ed h id (some (.own ok x))) (w.alloc o) :=
 Gy g hB id hN (c9.alloc _ _ _ _) (fun b hb=>heap_alloc_old w _ (g.bP hb)) ho (fun b zr=>by rw[hb]at zr;cases zr;exact Nat.le_refl _) bu
theorem C0{Eqs:TypeId→Option K}(g:Good Z ψ h w B0 O)(hB:B0≤w.heap.size){id:Nat}(hN:N id){t:TypeId}{e:bI}(bu:∀i ty cs,h i=some (.box ty cs)→aC (fun i=>i≠id) cs)(he:ln P Eqs id t some=some e) :
  ∃v w' ψ',(Instr.makeMap t none).run P w=.ok v w'∧Next Z ψ h w B0 O N Z ψ' (e.hp h) w'∧az Z ψ' (e.hp h) w' e.v v:=by
 unfold ln at he
 split at he
 ·rename_i kk vk YU
  cases he
  refine⟨.map (some w.heap.size),w.alloc (.map #[] 0),ed ψ id (.map (some w.heap.size)),rfl,?_,?_⟩
  ·simp only[bI.hp];rw[iy]
   exact AG g hB id hN (ok:=.map kk vk) (x:=[]) _ ⟨w.heap.size,#[],0,rfl,heap_alloc_new _ _,⟨rfl,fun i x e h=>by simp at h⟩,by simp,by simp⟩ rfl bu
  ·simp only[bI.v,bI.hp,az]
   exact⟨⟨rfl,rfl⟩,fun _=>(bw _ _ _).symm⟩
 ·cases he
theorem EV(g:Good Z ψ h w B0 O)(hB:B0≤w.heap.size){id:Nat}(hN:N id){t:TypeId}{x:AV}{u:Value}{e:bI}(hx:az Z ψ h w x u)(bu:∀i ty cs,h i=some (.box ty cs)→aC (fun i=>i≠id) cs)(he:nW P id t x some=some e) :
  ∃v w' ψ',(Instr.range t u).run P w=.ok v w'∧Next Z ψ h w B0 O N Z ψ' (e.hp h) w'∧az Z ψ' (e.hp h) w' e.v v:=by
 unfold nW at he
 split at he
 ·rename_i sv hu
  cases he
  simp only[az]at hx
  subst hx
  refine⟨.pointer (some ⟨w.heap.size,0,none⟩),w.alloc (.stringIter sv 0),ed ψ id (.pointer (some ⟨w.heap.size,0,none⟩)),?_,?_,?_⟩
  ·simp only[Instr.range,Sem.run_bind,run_underlying hu,Result.andThen_ok,Sem.run_pure];rfl
  ·simp only[bI.hp];rw[iy]
   exact AG g hB id hN (ok:=.nP) (x:=(sv,0)) _ ⟨w.heap.size,rfl,heap_alloc_new _ _⟩ rfl bu
  ·simp only[bI.v,bI.hp,az]
   exact⟨⟨rfl,rfl⟩,fun _=>(bw _ _ _).symm⟩
 ·cases he
theorem gh{r:Nat}{o:Obj}(hb:w.heap[r]? = some o)(hc:∀c e f,o≠.cells c e f):(getObj r).run P w=.ok o w:=by
 cases o<;>first|(exact absurd rfl (hc _ _ _))|simp[getObj,Sem.run,hb]
theorem AH{r:Nat}{o o':Obj}(hb:w.heap[r]? = some o)(hc:∀c e f,o≠.cells c e f):(setObj r o').run P w=.ok () { w with heap:=w.heap.setIfInBounds r o' }:=by
 cases o<;>first|(exact absurd rfl (hc _ _ _))|simp[setObj,Sem.run,hb]
theorem GL{hh:Heap}(g:Good Z ψ h w B0 O)(bC:∀id o,hh.get id=some o→h id=some o){ty:TypeId}{x:AV}{u:Value}{e:bI}(hx:az Z ψ h w x u)(nL:∀v hw,e=.wr v hw→hh.get=h)(he:rH hh x some=some e) :
  ∃v w',(Instr.next u true ty).run P w=.ok v w'∧Next Z ψ h w B0 O N Z ψ (e.hp h) w'∧az Z ψ (e.hp h) w' e.v v:=by
 unfold rH at he
 split at he
 ·rename_i id
  split at he
  ·rename_i x hg
   have AA:=bC _ _ hg
   simp only[az]at hx
   have hu:=hx.2 (by rw[AA];simp)
   obtain⟨r,h1,h2⟩:=g.row id .nP x AA
   rw[h1]at hu
   subst hu
   cases hc:decide (x.2<x.1.size) with
   |true =>
    rw[hc]at he;cases he
    have heq:=nL _ _ rfl
    simp only[decide_eq_true_eq]at hc
    have aF:=(Array.getElem?_eq_some_iff.1 h2).1
    refine⟨.tuple #[.bool true,goInt x.2,.int .i32 (Utf8.decode x.1 x.2).1],{ w with heap:=w.heap.setIfInBounds r (.stringIter x.1 (x.2+(Utf8.decode x.1 x.2).2)) },?_,?_,?_⟩
    ·simp only[Instr.next,Sem.run_bind,gh h2 (by simp),Result.andThen_ok,hc,if_true,AH h2 (by simp),Sem.run_pure]
    ·simp only[bI.hp]
     rw[mJ,heq]
     exact rS (N:=N) g (by rw[AA];simp) (by rw[h1];rfl) aF _ (ok:=.nP) (x:=(x.1,x.2+Af x.1 x.2)) (fun w' JM _=>⟨r,h1,by rw[JM];simp[aF,Af]⟩)
    ·simp only[bI.v,az,an]
     exact⟨_,rfl,_,_,rfl,rfl,_,_,rfl,rfl,_,_,rfl,rfl,rfl⟩
   |false =>
    rw[hc]at he;cases he
    simp only[decide_eq_false_iff_not]at hc
    refine⟨.tuple #[.bool false],w,?_,Next.refl g,?_⟩
    ·simp only[Instr.next,Sem.run_bind,gh h2 (by simp),Result.andThen_ok,hc,if_false,Sem.run_pure]
    ·simp only[bI.v,az,an]
     exact⟨_,rfl,_,_,rfl,rfl,rfl⟩
  ·cases he
 ·cases he
theorem find_born{l:List MapEntry}(h:l.Pairwise (fun a b=>a.born≠b.born)){e:MapEntry}(he:e∈l):l.find? (fun x=>x.born==e.born)=some e:=by
 induction l with
 |nil=>cases he
 |cons a r ih =>
  obtain⟨h1,h2⟩:=List.pairwise_cons.1 h
  rw[List.find?_cons]
  rcases List.mem_cons.1 he with rfl|he
  ·simp
  ·have:(a.born==e.born)=false:=by simpa using h1 e he
   rw[this];exact ih h2 he
theorem GM{hh:Heap}(g:Good Z ψ h w B0 O)(bC:∀id o,hh.get id=some o→h id=some o){x:AV}{u:Value}{e:bI}(hx:az Z ψ h w x u)(he:rI hh x some=some e) :
  ∃y v,e=.val y∧(Instr.entry u).run P w=.ok v w∧az Z ψ h w y v:=by
 unfold rI at he
 split at he
 ·rename_i id
  split at he
  ·rename_i kk vk c rest hg
   cases he
   have AA:=bC _ _ hg
   simp only[az]at hx
   have hu:=hx.2 (by rw[AA];simp)
   obtain⟨r,m,since,seen,bW,clock,h1,h2,h3,h4,h5,h6,h7,h8,h9⟩:=g.row id (.iter kk vk) (some c,rest) AA
   rw[h1]at hu
   subst hu
   obtain⟨en,nq,yV,Jk⟩:=h9
   obtain⟨⟨k1,k2,k3⟩,v1,v2,v3⟩:=Jk.2 0 c en rfl rfl
   refine⟨_,.tuple #[en.key,en.val],rfl,?_,?_⟩
   ·have hf:bW.find? (·.born==en.born)=some en:=by
     have:=find_born h5 nq
     rwa [←Array.find?_toList]
    simp only[Instr.entry,Sem.run_bind,gh h2 (by simp),Result.andThen_ok,yV,Sem.run_pure,gh h4 (by simp),hf]
    simp
   ·simp only[az,an]
    exact⟨_,rfl,_,_,rfl,lK k1 k2 k3,_,_,rfl,lK v1 v2 v3,rfl⟩
  ·cases he
 ·cases he
end Go.Vs
namespace Go.Vs
variable {P:Program} {Z Z':Nat→Prop} {ψ ψ':Nat→Value} {h h':Hp} {w w':World} {B0:Nat} {O:Nat→Prop} {N:Nat→Prop}
mutual
theorem aJ.imp{p q:Nat→Prop}(AI:∀i,p i→q i):∀{a:AV},aJ p a→aJ q a
 |.no,_=>by simp only[aJ]
 |.bool b,_=>by simp only[aJ]
 |.int k n,_=>by simp only[aJ]
 |.str s,_=>by simp only[aJ]
 |.kX,_=>by simp only[aJ]
 |.fV,_=>by simp only[aJ]
 |.ref id s i off,h=>by simp only[aJ]at h ⊢;exact AI _ h
 |.fp k x off,_=>by simp only[aJ]
 |.sl ex k xs,_=>by simp only[aJ]
 |.mp kk vk es,_=>by simp only[aJ]
 |.bH id,h=>by simp only[aJ]at h ⊢;exact AI _ h
 |.fn f cap,h=>by simp only[aJ]at h ⊢;exact aC.imp AI h
 |.agg cs,h=>by simp only[aJ]at h ⊢;exact aC.imp AI h
 |.nh cs,h=>by simp only[aJ]at h ⊢;exact aC.imp AI h
theorem aC.imp{p q:Nat→Prop}(AI:∀i,p i→q i):∀{a:List AV},aC p a→aC q a
 |[],_=>by simp only[aC]
 |a::r,h=>by simp only[aC]at h ⊢;exact⟨aJ.imp AI h.1,aC.imp AI h.2⟩
end
theorem aJ.cells{p:Nat→Prop}{a:AV}(h:aJ p a):aC p a.cells:=by
 cases a with
 |agg cs=>simpa only[AV.cells,aJ] using h
 |_=>simp only[AV.cells,aC];exact⟨h,trivial⟩
theorem AJ:∀{cs:List AV},Gs cs=true→∀id,AV.bH id∉cs
 |[],_,id=>by simp
 |c::r,hn,id=>by
  intro hm
  cases c with
  |bH i=>simp[Gs]at hn
  |_ =>
   simp only[Gs]at hn
   rcases List.mem_cons.1 hm with e|hm
   ·cases e
   ·exact AJ hn id hm
theorem qU:∀{vs:List AV},qC vs=true→∀v∈vs,∀id,AV.bH id∉v.cells
 |[],_,v,hv=>by simp at hv
 |a::r,hn,v,hv=>by
  simp only[qC,Bool.and_eq_true]at hn
  rcases List.mem_cons.1 hv with rfl|hv
  ·exact AJ hn.1
  ·exact qU hn.2 v hv
def uS(o:Oper):Bool :=
 match o.op with
 |.call { callee:=.value _,.. }=>true
 |_=>false
theorem JO{s:List (Nat×AV)}{ρC:Operand→Value}{x:Option Operand}(hx:∀y,x=some y→az Z ψ h w (ρ s y) (ρC y)):eE Z ψ h w (x.map (ρ s)) (x.map ρC):=by
 cases x with
 |none=>trivial
 |some y=>exact hx y rfl
theorem AK{s:List (Nat×AV)}{ρC:Operand→Value}:∀(ps:List (Nat×Operand)),(∀p∈ps,az Z ψ h w (ρ s p.2) (ρC p.2))→(∀p∈ps,ρ s p.2≠.no)→sS Z ψ h w (ps.map fun p=>(p.1,ρ s p.2)) (ps.map fun p=>(p.1,ρC p.2))
 |[],_,_=>trivial
 |p::r,h1,h2=>⟨rfl,h2 p (by simp),h1 p (by simp),AK r (fun q hq=>h1 q (List.mem_cons_of_mem _ hq)) (fun q hq=>h2 q (List.mem_cons_of_mem _ hq))⟩
theorem DH{k:K}{hh:Heap}:∀{ps:List (Nat×AV)} {i:Nat} {xs:List k.T},qH k hh i ps=some xs→∀p∈ps,p.2≠.no
 |[],_,_,_,p,hp=>by simp at hp
 |(j,v)::r,i,xs,hl,p,hp=>by
  simp only[qH]at hl
  split at hl
  ·split at hl
   ·rename_i x ys h1 h2
    rcases List.mem_cons.1 hp with rfl|hp
    ·exact DD h1
    ·exact DH h2 p hp
   ·cases hl
  ·cases hl
theorem Xk{α:Type}{l:List α}(h:l.length=0+1+1):∃x y,l=[x,y]:=by
 cases l with
 |nil=>simp at h
 |cons a r=>cases r with
  |nil=>simp at h
  |cons b s=>cases s with
   |nil=>exact⟨a,b,rfl⟩
   |cons c q=>simp at h
theorem JP{a:AV}(h:VG a=true):a≠.no:=by rintro rfl;cases h
section
variable {Eqs:TypeId→Option K} {Sg:FuncId→Option aN} {F:(f:FuncId)→(g:aN)→g.A→Option g.B}
theorem EW{hh:Heap}{ρC:Operand→Value}{o:Oper}(g:Good Z ψ h w B0 O)(hB:B0≤w.heap.size)(bC:∀id o,hh.get id=some o→h id=some o){id:Nat}(hN:N id){t:TypeId}{s x:AV}{u v:Value}{e:bI}
  (hs:az Z ψ h w s u) (hx:az Z ψ h w x v) (EX:aJ (fun i=>¬N i) s) (bu:∀i ty cs,h i=some (.box ty cs)→aC (fun i=>¬N i) cs) (nL:∀v hw,e=.wr v hw→hh.get=h) (he:nS P hh id t s x some=some e)
  (dv:∀V w',(Builtin.append_ #[t,t] o.type #[u,v]).run P w=.ok V w'→(execOp ρC o).run P w=.ok (.value V) w'):gY P ρC o Z ψ h w B0 O N e:=by
 have TB:∀i ty cs,h i=some (.box ty cs)→aC (fun i=>i≠id) cs:=fun i ty cs hb=>(bu i ty cs hb).imp (fun j hj e=>hj (by rw[e];exact hN))
 unfold nS at he
 split at he
 ·cases he
 ·rename_i et het
  have ht:=nu het
  split at he
  ·cases he
  ·rename_i kk T4
   split at he
   ·rename_i ys C1 mw
    obtain⟨inf,z,Jh⟩:=cr mw
    split at he
    ·
     cases hc:aO 0 ys.length with
     |false=>rw[hc]at he;cases he
     |true =>
      rw[hc]at he;cases he
      simp only[aO,decide_eq_true_eq]at hc
      simp only[az]at hs
      subst hs
      obtain⟨V,w',h1,h2,h3⟩:=qg (P:=P) (ty:=o.type) g bC hB hN ht Jh C1 hx (by omega) TB
      refine⟨V,w',Z,_,.inl (dv V w' h1),by simp only[bI.hp];rw[iy];exact h2,?_⟩
      simp only[bI.v,bI.hp,az]
      exact⟨h3,fun _=>(bw _ _ _).symm⟩
    ·
     rename_i cT
     split at he
     ·rename_i e' k' xs hg
      split at he
      ·rename_i hc
       obtain⟨rfl,rfl⟩:=hc
       cases ux:aO xs.length ys.length with
       |false=>rw[ux]at he;cases he
       |true =>
        rw[ux]at he;cases he
        simp only[aO,decide_eq_true_eq]at ux
        have heq:=nL _ _ rfl
        have AA:=bC _ _ hg
        simp only[az]at hs
        have hu:=hs.2 (by rw[AA];simp)
        subst hu
        simp only[aJ]at EX
        obtain⟨V,w',h1,h2,h3⟩:=yW (P:=P) (ty:=o.type) g bC hB hN (fun e=>EX (by rw[e];exact hN)) ht Jh AA C1 hx ux TB
        refine⟨V,w',Z,_,.inl (dv V w' h1),by simp only[bI.hp];rw[mJ,uN,heq];exact h2,?_⟩
        simp only[bI.v,bI.hp,az]
        exact⟨h3,fun _=>(bw _ _ _).symm⟩
      ·cases he
     ·cases he
    ·
     rename_i ex k' xs
     split at he
     ·rename_i hc
      subst hc
      cases ux:(ex&&((!ys.isEmpty || xs.isEmpty)&&aO xs.length ys.length)) with
      |false=>rw[ux]at he;cases he
      |true =>
       rw[ux]at he;cases he
       simp only[Bool.and_eq_true,Bool.or_eq_true,aO,decide_eq_true_eq,Bool.not_eq_true',List.isEmpty_eq_false_iff,List.isEmpty_iff]at ux
       obtain⟨rfl,br,T5⟩:=ux
       obtain⟨V,w',h1,h2,h3⟩:=Av (P:=P) (ty:=o.type) g bC hB hN ht Jh hs C1 hx (br.imp List.length_pos_iff.2 (fun h=>h)) T5 TB
       refine⟨V,w',Z,_,.inl (dv V w' h1),by simp only[bI.hp];rw[iy];exact h2,?_⟩
       simp only[bI.v,bI.hp,az]
       exact⟨h3,fun _=>(bw _ _ _).symm⟩
     ·cases he
    ·cases he
   ·cases he
theorem AL{ρC:Operand→Value}{o:Oper}(g:Good Z ψ h w B0 O)(hB:B0≤w.heap.size){id:Nat}(hN:N id){t:TypeId}{vs:List AV}{us:Array Value}{e:bI}(hr:an Z ψ h w vs us.toList)(h1:∀u∈us.toList,u.oneCell'=true)
  (hm:aC (fun i=>¬N i) vs) (bu:∀i ty cs,h i=some (.box ty cs)→aC (fun i=>¬N i) cs) (he:wq id t vs some=some e)
  (dv:(execOp ρC o).run P w=.ok (.value (.pointer (some ⟨w.heap.size,0,none⟩))) (w.alloc (.cells us t))):gY P ρC o Z ψ h w B0 O N e:=by
 unfold wq at he
 cases he
 have br:∀i,¬N i→i≠id:=fun j hj e=>hj (by rw[e];exact hN)
 have n:=Aq (N:=N) g hB id t hN hr h1 (fun i ty cs hb=>(bu i ty cs hb).imp br) (hm.imp br)
 refine⟨_,_,Z,_,.inl dv,by simp only[bI.hp];rw[iy];exact n,?_⟩
 simp only[bI.v,bI.hp,az]
 exact⟨_,rfl,fun _=>by rw[bw];simp[TV]⟩
theorem MX{hh:Heap}{ρC:Operand→Value}{s:List (Nat×AV)}{o:Oper}(g:Good Z ψ h w B0 O)(hB:B0≤w.heap.size)(bC:∀id o,hh.get id=some o→h id=some o){id:Nat}(hN:N id){t:TypeId}{n:Nat}{ps:Array (Nat×Operand)}{e:bI}
  (nM:∀p∈ps.toList,az Z ψ h w (ρ s p.2) (ρC p.2)) (bu:∀i ty cs,h i=some (.box ty cs)→aC (fun i=>¬N i) cs) (kL:Bool) {e0:bI} (T6:e=if kL then TU e0 else e0) (nL:∀v hw,e=.wr v hw→hh.get=h) (he:uB P hh id t n (ps.toList.map fun p=>(p.1,ρ s p.2)) some=some e0)
  (dv:∀V w',(Instr.buildSlice t n (ps.map fun p=>(p.1,ρC p.2))).run P w=.ok V w'→(execOp ρC o).run P w=.ok (.value V) w'):gY P ρC o Z ψ h w B0 O N e:=by
 have TB:∀i ty cs,h i=some (.box ty cs)→aC (fun i=>i≠id) cs:=fun i ty cs hb=>(bu i ty cs hb).imp (fun j hj e=>hj (by rw[e];exact hN))
 unfold uB at he
 split at he
 ·cases he
 ·rename_i et het
  have ht:=nu het
  split at he
  ·cases he
  ·rename_i k hk
   split at he
   ·cases he
   ·cases he
   ·rename_i xs n6 mw
    obtain⟨inf,z,Jh⟩:=cr mw
    have JQ:=AK (Z:=Z) (ψ:=ψ) (h:=h) (w:=w) ps.toList nM (fun p hp=>DH n6 (p.1,ρ s p.2) (List.mem_map.2 ⟨p,hp,rfl⟩))
    have Ln:sS Z ψ hh.get w (ps.toList.map fun p=>(p.1,ρ s p.2)) (ps.map fun p=>(p.1,ρC p.2)).toList:=by
     rw[Array.toList_map];exact JQ.qp bC
    split at he
    ·rename_i hc
     obtain⟨rfl,hn⟩:=hc
     cases qS:qC ((ps.toList.map fun p=>(p.1,ρ s p.2)).map (·.2)) with
     |true =>
      rw[qS]at he;cases he
      have aeD:=qU qS
      obtain⟨V,w',h1,h2,h3⟩:=GD (P:=P) (N:=N) g (g.sub bC) (fun _ h=>h) hB hN ht Jh (fun p hp i b hm=>absurd hm (aeD p.2 (List.mem_map.2 ⟨p,hp,rfl⟩) i)) Ln n6 hn TB
      cases kL with
      |false =>
       have T6:e=.new (.bH id) [(id,.own (.row et k) xs)]:=T6
       subst T6
       refine⟨V,w',Z,_,.inl (dv V w' h1),by simp only[bI.hp];rw[iy];exact h2,?_⟩
       simp only[bI.v,bI.hp,az]
       exact⟨h3.1,fun _=>(bw _ _ _).symm⟩
      |true =>
       have T6:e=.new (.sl true k xs) []:=T6
       subst T6
       obtain⟨m1,m2⟩:=Pk g hB h2 h3.2.1 h3.2.2.1 h3.2.2.2
       have e1:(bI.new (.sl true k xs) []).hp h=h:=by funext i;simp[bI.hp,Heap.get]
       refine⟨V,w',_,_,.inl (dv V w' h1),by rw[e1];exact m1,?_⟩
       rw[e1];exact m2
     |false =>
      rw[qS]at he;cases he
      have T6:e=.wr (.bH id) ((id,.own (.row et k) xs)::cI hh ((ps.toList.map fun p=>(p.1,ρ s p.2)).flatMap (·.2.cells))):=by
       rw[T6];cases kL<;>rfl
      subst T6
      have heq:=nL _ _ rfl
      subst heq
      let cs:=(ps.toList.map fun p=>(p.1,ρ s p.2)).flatMap (·.2.cells)
      have gd:=iv g cs
      obtain⟨V,w',h1,h2,h3⟩:=GD (P:=P) (N:=N) gd g (fun b hb=>.inl hb) hB hN ht Jh (fun p hp i b hm br hb=>.inr ⟨i,List.mem_flatMap.2 ⟨p,hp,hm⟩,br,hb⟩) Ln n6 hn (fun i ty cs' hb=>TB i ty cs' (dZ _ _ _ _ hb))
      refine⟨V,w',qy Z ψ hh.get cs,ed ψ id V,.inl (dv V w' h1),?_,?_⟩
      ·simp only[bI.hp]
       rw[Az]
       exact h2.drop (fun b hb=>.inl hb) (fun b hb=>hb.imp (fun h=>h) (fun⟨i,_,h5,h6⟩=>⟨i,h5,h6⟩)) (dZ _ _)
      ·simp only[bI.v,bI.hp,az]
       exact⟨h3.1,fun _=>(bw _ _ _).symm⟩
    ·cases he
theorem MY{kL:Bool}{h:Heap}{id:Nat}{t:TypeId}{n:Nat}{ps:List (Nat×AV)}{e:bI}(he:wu P kL h id t n ps some=some e):∃e0,uB P h id t n ps some=some e0∧e=if kL then TU e0 else e0:=by
 unfold wu uB at he
 unfold uB
 split at he
 ·cases he
 split at he
 ·cases he
 split at he
 ·cases he
 ·cases he
 split at he
 ·rename_i hc
  rw[if_pos hc]
  cases qS:qC (ps.map (·.2)) with
  |true=>rw[qS]at he;exact⟨_,rfl,(Option.some.inj he).symm⟩
  |false=>rw[qS]at he;exact⟨_,rfl,(Option.some.inj he).symm⟩
 ·cases he
theorem AM(p:Nat→Prop)(v:Value):aJ p (we v):=by
 cases v with
 |pointer a=>simp only[we];split<;>simp only[aJ]
 |slice a n c=>simp only[we];split<;>simp only[aJ]
 |func fn first cap =>
  cases fn with
  |func f=>simp only[we];split<;>simp only[aJ,aC]
  |_=>simp only[we,aJ]
 |_=>simp only[we,aJ]
theorem wD(p:Nat→Prop):∀vs:List Value,aC p (vs.map we)
 |[]=>by simp[aC]
 |v::r=>by simp only[List.map_cons,aC];exact⟨AM p v,wD p r⟩
theorem MZ(p:Nat→Prop)(v:Value):aC p (tz v).cells:=by
 cases v with
 |agg cs=>simp only[tz,AV.cells];exact wD p _
 |_=>simp only[tz];rw[DC];simp only[aC];exact⟨AM p _,trivial⟩
theorem Pw(CS:∀t k,Eqs t=some k→lL P t k){hh:Heap}{ρC:Operand→Value}{s:List (Nat×AV)}{o:Oper}(g:Good Z ψ h w B0 O)(hB:B0≤w.heap.size)(bC:∀id o,hh.get id=some o→h id=some o){id:Nat}(hN:makes o.op=true→N id){e:bI}
  (nM:∀x∈o.op.operands,az Z ψ h w (ρ s x) (ρC x)) (hm:∀x∈o.op.operands,aJ (fun i=>¬N i) (ρ s x)) (bu:∀i ty cs,h i=some (.box ty cs)→aC (fun i=>¬N i) cs) (nL:∀v hw,e=.wr v hw→hh.get=h)
  (Jl:uS o=false) (he:cV P Eqs Sg F id hh s o some=some e):gY P ρC o Z ψ h w B0 O N e:=by
 obtain⟨dst,op,type,pos,after,guard⟩:=o
 have two:∀{a b:Operand},(∀x∈(#[a,b]:Array Operand),az Z ψ h w (ρ s x) (ρC x))→az Z ψ h w (ρ s a) (ρC a)∧az Z ψ h w (ρ s b) (ρC b):=fun hx=>⟨hx _ (by simp),hx _ (by simp)⟩
 cases op<;>simp only[cV]at he<;>simp only[Op.operands]at nM hm<;>first|(cases he;done)|skip
 case move x=>cases he;exact gY.val g (V:=ρC x) (by simp[execOp]) (nM x (by simp))
 case assign x=>cases he;exact gY.val g (V:=ρC x) (by simp[execOp]) (nM x (by simp))
 case pick c a b =>
  have h1:=nM c (by simp);have h2:=nM a (by simp);have h3:=nM b (by simp)
  split at he
  ·rename_i t ht
   cases he
   rw[ht]at h1
   simp only[az]at h1
   refine gY.val g (V:=if t then ρC a else ρC b) (by simp[execOp,h1,asBool]) ?_
   unfold VF
   split
   ·rename_i p q hp hq
    rw[hp]at h2;rw[hq]at h3
    simp only[az]at h2 h3 ⊢
    cases t<;>simp[h2,h3]
   ·cases t
    ·exact h3
    ·exact h2
  ·cases he
 case alloc t =>
  split at he
  ·rename_i z hz
   obtain⟨i,zv,hi,Zu,rfl,h1⟩:=o6 hz
   exact AL (us:=zv.cells) g hB (hN rfl) (Ax zv) h1 (MZ _ zv) bu he (by simp[execOp,Instr.alloc,uM hi Zu,newVar,newRow,newObj,Sem.run])
  ·cases he
 case box t x =>
  have h1:=nM x (by simp)
  split at he
  ·rename_i hp
   have hc:=h1.cells (GI hp)
   exact AL (us:=(ρC x).cells) g hB (hN rfl) hc (tM hp hc) (hm x (by simp)).cells bu he (by simp[execOp,Instr.box,newVar,newRow,newObj,Sem.run])
  ·cases he
 case build t ps =>
  unfold rJ at he
  split at he
  ·rename_i z fs hz hf
   split at he
   ·rename_i cs Zz eW
    cases he
    simp only[Bool.and_eq_true]at eW
    obtain⟨eW,hnn⟩:=eW
    have ZA:fs.toList.all (fun f=>(P.info? f.type).isSome)=true:=eW
    have Xl:∀p∈ps.toList,az Z ψ h w (ρ s p.2) (ρC p.2):=fun p hp=>nM p.2 (by simp;exact⟨p.1,by simpa using hp⟩)
    have JQ:=AK (Z:=Z) (ψ:=ψ) (h:=h) (w:=w) ps.toList Xl (fun p hp=>JP (List.all_eq_true.1 hnn (p.1,ρ s p.2) (List.mem_map.2 ⟨p,hp,rfl⟩)))
    obtain⟨V,h1,h2⟩:=MP (P:=P) (qs:=ps.map fun p=>(p.1,ρC p.2)) hz hf ZA (by rw[Array.toList_map];exact JQ) Zz
    exact gY.val g (V:=V) (by simp only[execOp,Sem.run_bind];rw[h1];simp) h2
   ·cases he
  ·cases he
 case buildSlice t n ps =>
  have Xl:∀p∈ps.toList,az Z ψ h w (ρ s p.2) (ρC p.2):=fun p hp=>nM p.2 (by simp;exact⟨p.1,by simpa using hp⟩)
  obtain⟨e0,h0,h1⟩:=MY he
  exact MX g hB bC (hN rfl) Xl bu (VH Sg t _) h1 nL h0 (fun V w' h1=>by simp only[execOp,Sem.run_bind];rw[h1];simp)
 case load t a =>
  obtain⟨x,V,rfl,h1,h2⟩:=tK g bC (nM a (by simp)) he
  exact gY.val g (V:=V) (by simp[execOp,h1]) h2
 case store t a v =>
  obtain⟨h1,h2⟩:=two nM
  have hw:∃hw,e=.wr .no hw:=by
   obtain⟨hw,_,_,h3,_⟩:=xY (P:=P) (N:=N) (g.sub bC) (h1.qp bC) (h2.qp bC) he
   exact⟨hw,h3⟩
  obtain⟨hw,rfl⟩:=hw
  have heq:=nL _ _ rfl
  subst heq
  obtain⟨JM,w',Z',h3,h4,h5⟩:=xY (P:=P) (N:=N) g h1 h2 he
  cases h3
  exact⟨undef,w',Z',ψ,.inr ⟨by simp[execOp,h4],rfl⟩,h5,by simp only[bI.v,az]⟩
 case nilCheck x =>
  have h1:=nM x (by simp)
  split at he
  ·rename_i id s i off hx
   cases he
   rw[hx]at h1
   have h2:=h1
   simp only[az]at h1
   obtain⟨a,ha,_⟩:=h1
   exact gY.val g (V:=ρC x) (by simp[execOp,ha]) h2
  ·rename_i k y off hx
   cases he
   rw[hx]at h1
   have h2:=h1
   simp only[az]at h1
   obtain⟨a,us,ha,_⟩:=h1
   exact gY.val g (V:=ρC x) (by simp[execOp,ha]) h2
  ·rename_i f cap hx
   cases he
   rw[hx]at h1
   have h2:=h1
   simp only[az]at h1
   obtain⟨vs,ha,_⟩:=h1
   exact gY.val g (V:=ρC x) (by simp[execOp,ha]) h2
  ·cases he
 case binOp op t x y yt =>
  obtain⟨h1,h2⟩:=two nM
  obtain⟨r,V,rfl,h3,h4⟩:=MU CS (xo:=x) (yo:=y) h1 h2 he
  exact gY.val g (V:=V) (by simp only[execOp,Sem.run_bind]at h3 ⊢;rw[h3];simp) h4
 case unOp op t x =>
  have h1:=nM x (by simp)
  cases op<;>simp only at he<;>first|(cases he;done)|skip
  split at he
  ·rename_i b hx
   cases he
   rw[hx]at h1
   simp only[az]at h1
   exact gY.val g (V:=.bool (!b)) (by simp[execOp,h1,Op.unary]) (by simp only[az])
  ·cases he
 case convert src dst x =>
  have h1:=nM x (by simp)
  unfold Aj at he
  split at he
  ·rename_i k1 k2 k3 n hs hd hx
   cases he
   rw[hx]at h1
   simp only[az]at h1
   exact gY.val g (V:=.int k2 (k2.wrap n)) (by simp[execOp,h1,convert,run_underlying hs,run_underlying hd,Conv.intToInt]) (by simp only[az])
  ·rename_i sv hs hd hx
   cases he
   rw[hx]at h1
   have h2:=h1
   simp only[az]at h1
   exact gY.val g (V:=ρC x) (by simp[execOp,h1,convert,run_underlying hs,run_underlying hd]) h2
  ·cases he
 case makeFunc fn first cap =>
  cases fn<;>simp only at he<;>first|(cases he;done)|skip
  rename_i f
  split at he
  ·rename_i hf
   cases he
   have h0:first=#[]:=Array.eq_empty_of_size_eq_zero hf
   subst h0
   have hl:∀l:List Operand,(∀x∈l,az Z ψ h w (ρ s x) (ρC x))→an Z ψ h w (l.map (ρ s)) (l.map ρC):=by
    intro l
    induction l with
    |nil=>intro _;simp[an]
    |cons a r ih=>intro ha;simp only[List.map_cons,an];exact⟨_,_,rfl,ha a (by simp),ih (fun x hx=>ha x (List.mem_cons_of_mem _ hx))⟩
   exact gY.val g (V:=.func (.func f) #[] (cap.map ρC)) (by simp[execOp,Instr.makeFunc]) (by simp only[az];exact⟨_,rfl,by rw[Array.toList_map];exact hl _ (fun x hx=>nM x (by simp;simpa using hx))⟩)
  ·cases he
 case slice t x lo hi mx =>
  have h1:=nM x (by simp)
  have h2:eE Z ψ h w (lo.map (ρ s)) (lo.map ρC):=JO (fun y hy=>nM y (by subst hy;simp))
  have h3:eE Z ψ h w (hi.map (ρ s)) (hi.map ρC):=JO (fun y hy=>nM y (by subst hy;simp))
  have h4:eE Z ψ h w (mx.map (ρ s)) (mx.map ρC):=JO (fun y hy=>nM y (by subst hy;simp))
  split at he
  ·rename_i ht
   unfold wi at he
   split at he
   ·rename_i sv hx hmx
    split at he
    ·rename_i l u hb
     cases ho:bj sv.size l u with
     |false=>rw[ho]at he;cases he
     |true =>
      rw[ho]at he;cases he
      rw[hx]at h1
      simp only[az]at h1
      have hm0:mx=none:=by cases mx with
       |none=>rfl
       |some m=>simp at hmx
      subst hm0
      have dv:=tL (P:=P) (w:=w) (b:=false) (Nat.le_refl sv.size) h2 h3 (mx:=none) (mx':=none) trivial hb ho (.inl rfl)
      exact gY.val g (V:=.string (WX sv l u)) (by simp[execOp,Instr.sliceAt,Instr.slice,run_underlying ht,h1,dv,WX]) (by simp only[az])
    ·cases he
   ·cases he
  ·rename_i et ht
   split at he
   ·rename_i Xf
    obtain⟨V,Z',h5,h6,h7⟩:=GH (P:=P) (N:=N) g bC ht h1 h2 h3 h4 nL he Xf
    exact⟨V,w,Z',ψ,.inl (by simp[execOp,h5]),h6,h7⟩
   ·cases he
  ·cases he
 case fieldAddr t x f =>
  have h1:=nM x (by simp)
  split at he
  ·rename_i n ft id sz i off hf hx
   split at he
   ·cases he
   ·rename_i hc
    cases he
    rw[hx]at h1
    obtain⟨V,h2,h3⟩:=sX (P:=P) hf hc h1
    exact gY.val g (V:=V) (by simp[execOp,h2]) h3
  ·rename_i n ft k y off hf hx
   split at he
   ·cases he
   ·rename_i hc
    cases he
    rw[hx]at h1
    obtain⟨V,h2,h3⟩:=uO (P:=P) hf hc h1
    exact gY.val g (V:=V) (by simp[execOp,h2]) h3
  ·cases he
 case field t x f =>
  have h1:=nM x (by simp)
  split at he
  ·rename_i n ft cs hf hx
   split at he
   ·rename_i v hv
    cases he
    rw[hx]at h1
    obtain⟨V,h2,h3⟩:=GG (P:=P) hf h1 hv
    exact gY.val g (V:=V) (by simp[execOp,h2]) h3
   ·cases he
  ·cases he
 case indexAddr t x i =>
  obtain⟨h1,h2⟩:=two nM
  obtain⟨y,V,rfl,h3,h4⟩:=qh g bC h1 h2 he
  exact gY.val g (V:=V) (by simp[execOp,h3]) h4
 case index t x i =>
  obtain⟨h1,h2⟩:=two nM
  split at he
  ·rename_i sv ik n ht hx hi
   obtain⟨c,hc,Ty⟩:=Option.bind_eq_some_iff.1 he
   cases Ty
   rw[hx]at h1;rw[hi]at h2
   simp only[az]at h1 h2
   exact gY.val g (V:=.int .u8 (c.toNat:Int)) (by simp[execOp,Instr.index,asIntOf,run_underlying ht,h1,h2,hc]) (by simp only[az])
  ·cases he
 case extract t i =>
  have h1:=nM t (by simp)
  split at he
  ·rename_i vs hx
   split at he
   ·rename_i v hv
    cases he
    rw[hx]at h1
    simp only[az]at h1
    obtain⟨us,hu,hl⟩:=h1
    obtain⟨u,h2,h3⟩:=hl.get i hv
    exact gY.val g (V:=u) (by simp[execOp,Instr.extract,hu,show us[i]? = some u by simpa using h2]) h3
   ·cases he
  ·cases he
 case makeMap t r =>
  cases r with
  |some r=>cases he
  |none =>
   simp only at he
   have TB:∀i ty cs,h i=some (.box ty cs)→aC (fun i=>i≠id) cs:=fun i ty cs hb=>(bu i ty cs hb).imp (fun j hj e=>hj (by rw[e];exact hN rfl))
   obtain⟨V,w',ψ',h1,h2,h3⟩:=C0 g hB (hN rfl) TB he
   exact⟨V,w',Z,ψ',.inl (by simp[execOp,h1]),h2,h3⟩
 case lookup t m i ok =>
  obtain⟨h1,h2⟩:=two nM
  obtain⟨y,V,rfl,h3,h4⟩:=EU CS g bC h1 h2 he
  exact gY.val g (V:=V) (by simp[execOp,h3]) h4
 case mapUpdate t m i v =>
  have h1:=nM m (by simp);have h2:=nM i (by simp);have h3:=nM v (by simp)
  have hw:∃hw,e=.wr (.nh []) hw:=by
   obtain⟨hw,_,_,h4,_⟩:=uP (N:=N) CS (g.sub bC) (h1.qp bC) (h2.qp bC) (h3.qp bC) he
   exact⟨hw,h4⟩
  obtain⟨hw,rfl⟩:=hw
  have heq:=nL _ _ rfl
  subst heq
  obtain⟨JM,w',Z',h4,h5,h6⟩:=uP (N:=N) CS g h1 h2 h3 he
  cases h4
  exact⟨undef,w',Z',ψ,.inr ⟨by simp[execOp,h5],rfl⟩,h6,by simp only[bI.v,az,an];exact⟨#[],rfl,rfl⟩⟩
 case range t x =>
  have TB:∀i ty cs,h i=some (.box ty cs)→aC (fun i=>i≠id) cs:=fun i ty cs hb=>(bu i ty cs hb).imp (fun j hj e=>hj (by rw[e];exact hN rfl))
  obtain⟨V,w',ψ',h1,h2,h3⟩:=EV g hB (hN rfl) (nM x (by simp)) TB he
  exact⟨V,w',Z,ψ',.inl (by simp[execOp,h1]),h2,h3⟩
 case next x b =>
  cases b with
  |false=>cases he
  |true =>
   obtain⟨V,w',h1,h2,h3⟩:=GL (P:=P) (N:=N) (ty:=type) g bC (nM x (by simp)) nL he
   exact⟨V,w',Z,ψ,.inl (by simp[execOp,h1]),h2,h3⟩
 case entry x =>
  obtain⟨y,V,rfl,h1,h2⟩:=GM (P:=P) g bC (nM x (by simp)) he
  exact gY.val g (V:=V) (by simp[execOp,h1]) h2
 case call c =>
  obtain⟨callee,args,argTypes⟩:=c
  cases callee with
  |value f=>simp[uS]at Jl
  |invoke r m=>simp only at he;cases he
  |builtin b =>
   have kU:∀x∈args.toList,az Z ψ h w (ρ s x) (ρC x):=fun x hx=>nM x (by simp only[Call.operands];exact Array.mem_append.2 (.inr (by simpa using hx)))
   have Px:∀x∈args.toList,aJ (fun i=>¬N i) (ρ s x):=fun x hx=>hm x (by simp only[Call.operands];exact Array.mem_append.2 (.inr (by simpa using hx)))
   obtain⟨args⟩:=args
   obtain⟨argTypes⟩:=argTypes
   simp only at he kU Px
   cases b<;>simp only at he<;>first|(cases he;done)|skip
   case append =>
    split at he
    ·rename_i l1 l2 x y t t'
     split at he
     ·rename_i htt
      subst htt
      exact EW g hB bC (hN rfl) (kU x (by simp)) (kU y (by simp)) (Px x (by simp)) bu nL he (fun V w' h1=>by
       simp only[execOp,resolve,invoke,builtin,Sem.run_bind,Sem.run_pure,Result.andThen_ok,List.map_toArray,List.map_cons,List.map_nil,h1])
     ·cases he
    ·cases he
   case delete =>
    split at he
    ·rename_i l1 l2 m x t ts
     have h1:=kU m (by simp);have h2:=kU x (by simp)
     have hw:∃hw,e=.wr (.nh []) hw:=by
      obtain⟨hw,_,h4,_⟩:=uR (N:=N) (ty:=type) (ts:=ts) CS (g.sub bC) (h1.qp bC) (h2.qp bC) he
      exact⟨hw,h4⟩
     obtain⟨hw,rfl⟩:=hw
     have heq:=nL _ _ rfl
     subst heq
     obtain⟨JM,w',h4,h5,h6⟩:=uR (N:=N) (ty:=type) (ts:=ts) CS g h1 h2 he
     cases h4
     exact⟨.tuple #[],w',Z,ψ,.inl (by simp only[execOp,resolve,invoke,builtin,Sem.run_bind,Sem.run_pure,Result.andThen_ok,List.map_toArray,List.map_cons,List.map_nil,h5]),h6,by simp only[bI.v,az,an];exact⟨#[],rfl,rfl⟩⟩
    ·cases he
   case len =>
    split at he
    ·rename_i l1 l2 x t
     split at he
     ·rename_i htm
      obtain⟨n,rfl,h1⟩:=JN (P:=P) (ty:=type) g bC htm (kU x (by simp)) he
      exact gY.val g (V:=.int .i64 (n:Int)) (by simp only[execOp,resolve,invoke,builtin,Sem.run_bind,Sem.run_pure,Result.andThen_ok,List.map_toArray,List.map_cons,List.map_nil,h1]) (by simp only[az])
     split at he
     ·rename_i aF
      obtain⟨n,rfl,h1⟩:=MS g bC (kU x (by simp)) he
      refine gY.val g (V:=.int .i64 (n:Int)) ?_ (by simp only[az])
      rcases h1 with⟨sv,h2,h3,rfl⟩|⟨A,c,h3⟩
      ·unfold WY at aF
       rw[h2]at aF
       split at aF
       ·rename_i hu _
        simp[execOp,resolve,invoke,builtin,Builtin.len_,run_underlying hu,h3,goInt]
       ·cases aF
       ·rename_i h9;exact(h9 _ rfl).elim
       ·cases aF
      ·have hu:∃e,P.underlying t=some (.slice e):=by
        have h4:=kU x (by simp)
        rw[h3]at h4
        unfold WY at aF
        split at aF
        ·rename_i sv _ hxx
         rw[hxx]at h4;simp only[az]at h4;cases h4
        ·cases aF
        ·rename_i e _ hu _;exact⟨_,hu⟩
        ·cases aF
       obtain⟨e,hu⟩:=hu
       simp[execOp,resolve,invoke,builtin,Builtin.len_,run_underlying hu,h3,goInt]
     ·cases he
    ·cases he
   all_goals
    unfold MK at he
    split at he
    ·rename_i k a k' b T7
     have hl:=congrArg List.length T7
     simp only[List.length_map,List.length_cons,List.length_nil]at hl
     obtain⟨x,y,rfl⟩:=Xk hl
     simp only[List.map_cons,List.map_nil,List.cons.injEq,and_true]at T7
     have h1:=kU x (by simp)
     have h2:=kU y (by simp)
     rw[T7.1]at h1;rw[T7.2]at h2
     simp only[az]at h1 h2
     split at he
     ·rename_i hk
      subst hk
      cases he
      refine gY.val g (V:=bT (.int _ _)) ?_ (jO _ _)
      first
       |(simp[execOp,resolve,invoke,builtin,Builtin.max_,Builtin.max2,h1,h2,bT];simp only[Int.max_def];split<;>split<;>omega)
       |(simp[execOp,resolve,invoke,builtin,Builtin.min_,Builtin.min2,h1,h2,bT];simp only[Int.min_def];split<;>split<;>omega)
     ·cases he
    ·cases he
end
end Go.Vs
namespace Go.Vs
variable {P:Program} {Z Z' Zf:Nat→Prop} {ψ ψ':Nat→Value} {h h':Hp} {w w':World} {B0:Nat} {O:Nat→Prop} {N:Nat→Prop}
abbrev yc:=Nat×Option Nat×Ob
def dD(L:List yc):Heap:=L.map fun e=>(e.1,e.2.2)
def jP(ψ:Nat→Value):Option Nat→Value
 |some s=>ψ s
 |none=>.slice none 0 0
def eX(ψ:Nat→Value):List yc→Nat→Value
 |[],_=>undef
 |(i,s,_)::r,n=>if i=n then jP ψ s else eX ψ r n
theorem n8{L:List yc}{i:Nat}{o:Ob}(hg:(dD L).get i=some o):∃s,(i,s,o)∈L:=by
 induction L with
 |nil=>simp[dD,Heap.get]at hg
 |cons e r ih =>
  obtain⟨j,s,o'⟩:=e
  simp only[dD,List.map_cons,Heap.get]at hg
  split at hg
  ·rename_i e;subst e;cases hg;exact⟨s,List.mem_cons_self⟩
  ·obtain⟨s',hs⟩:=ih hg;exact⟨s',List.mem_cons_of_mem _ hs⟩
theorem mL{i:Nat}{r:List Nat}(h:cc (i::r)=true):i∉r∧cc r=true:=by
 simp only[cc,Bool.and_eq_true,Bool.not_eq_true']at h
 exact⟨fun hm=>by rw[List.contains_iff_mem.2 hm]at h;simp at h,h.2⟩
theorem iI{L:List yc}(hn:cc (L.map (·.1))=true){i:Nat}{s:Option Nat}{o:Ob}(hm:(i,s,o)∈L):eX ψ L i=jP ψ s:=by
 induction L with
 |nil=>cases hm
 |cons e r ih =>
  obtain⟨j,s',o'⟩:=e
  obtain⟨h1,h2⟩:=mL hn
  simp only[eX]
  rcases List.mem_cons.1 hm with he|hm
  ·cases he;simp
  ·rw[if_neg,ih h2 hm]
   rintro rfl
   exact h1 (List.mem_map.2 ⟨_,hm,rfl⟩)
theorem T8{L:List yc}(hs:cc (L.filterMap (·.2.1))=true){i j s:Nat}{o o':Ob}(h1:(i,some s,o)∈L)(h2:(j,some s,o')∈L):i=j∧o=o':=by
 induction L with
 |nil=>cases h1
 |cons e r ih =>
  obtain⟨k,s',o''⟩:=e
  have mem:∀{k:Nat} {o:Ob},(k,some s,o)∈r→s∈r.filterMap (·.2.1):=fun h=>List.mem_filterMap.2 ⟨_,h,rfl⟩
  rw[List.filterMap_cons]at hs
  cases s' with
  |none =>
   simp only[]at hs
   exact ih hs ((List.mem_cons.1 h1).resolve_left (by simp)) ((List.mem_cons.1 h2).resolve_left (by simp))
  |some s' =>
   simp only[]at hs
   obtain⟨h3,h4⟩:=mL hs
   rcases List.mem_cons.1 h1 with e1|m1<;>rcases List.mem_cons.1 h2 with e2|m2
   ·cases e1;cases e2;exact⟨rfl,rfl⟩
   ·cases e1;exact absurd (mem m2) h3
   ·cases e2;exact absurd (mem m1) h3
   ·exact ih h4 m1 m2
def GN:(ok:OK)→ok.T→Prop
 |.row _ _,xs=>xs=[]
 |_,_=>False
theorem GN.owns:∀{ok:OK} {xs:ok.T},GN ok xs→jD Z w ok (.slice none 0 0) xs
 |.row ty k,xs,h=>by
  have h:xs=[]:=h
  subst h
  exact⟨[],⟨by simp,.inl ⟨rfl,none,rfl⟩⟩,fun i x hx=>by simp at hx⟩
 |.map _ _,_,h=>h.elim
 |.iter _ _,_,h=>h.elim
 |.nP,_,h=>h.elim
def uT(Z:Nat→Prop)(ψ:Nat→Value)(h:Hp)(w:World)(h':Hp)(ψ':Nat→Value):yc→Prop
 |(_,some s,.own ok xs)=>h s=some (.own ok xs)
 |(_,none,.own ok xs)=>GN ok xs
 |(_,some s,.box ty cs')=>(∃cs,h s=some (.box ty cs))∧∀gg vs,ψ s=.pointer (some ⟨gg,0,none⟩)→w.heap[gg]? = some (.cells vs ty (0,0))→an Z ψ' h' w cs' vs.toList
 |(_,none,.box _ _)=>False
theorem Good.rename(g:Good Z ψ h w B0 O){L:List yc}(hn:cc (L.map (·.1))=true)(hs:cc (L.filterMap (·.2.1))=true)(mw:∀e∈L,uT Z ψ h w (dD L).get (eX ψ L) e) :
  Good Z (eX ψ L) (dD L).get w B0 O:=by
 have src:∀id b,(dD L).get id≠none→ob (eX ψ L id)=some b→∃s o,(id,some s,o)∈L∧h s≠none∧ob (ψ s)=some b:=fun id b h1 h2=>by
  obtain⟨o,ho⟩:=Option.ne_none_iff_exists'.1 h1
  obtain⟨s,hm⟩:=n8 ho
  rw[iI hn hm]at h2
  cases s with
  |none=>simp[jP,ob]at h2
  |some s =>
   have h3:=mw _ hm
   refine⟨s,o,hm,?_,h2⟩
   cases o with
   |box ty cs=>obtain⟨⟨cs0,h4⟩,_⟩:=h3;rw[h4];simp
   |own ok xs=>rw[show h s=some (.own ok xs) from h3];simp
 refine⟨fun id ty cs hb=>?_,fun id ok xs hb=>?_,fun id b h1 h2=>?_,fun id mC b h1 h2 h3 h4=>?_,g.jM⟩
 ·obtain⟨s,hm⟩:=n8 hb
  have h3:=mw _ hm
  rw[iI hn hm]
  cases s with
  |none=>exact h3.elim
  |some s =>
   obtain⟨⟨cs0,h4⟩,h5⟩:=h3
   obtain⟨gg,vs,h6,h7,h8,h9⟩:=g.box s ty cs0 h4
   exact⟨gg,vs,h6,h7,h5 gg vs h6 h7,h9⟩
 ·obtain⟨s,hm⟩:=n8 hb
  have h3:=mw _ hm
  rw[iI hn hm]
  cases s with
  |none=>exact GN.owns h3
  |some s=>exact g.row s ok xs h3
 ·obtain⟨s,o,hm,h3,h4⟩:=src id b h1 h2
  exact g.live s b h3 h4
 ·obtain⟨s,o,hm,h5,h6⟩:=src id b h1 h3
  obtain⟨s',o',T9,h5',h6'⟩:=src mC b h2 h4
  have:=g.apart s s' b h5 h5' h6 h6'
  subst this
  exact(T8 hs hm T9).1
def zt(hh:Heap)(i:Nat):List AV:=match hh.get i with
 |some (.box _ cs)=>cs
 |_=>[]
def dJ:(dt:List CK)→Nat→List AV→qA dt→List yc
 |[],_,_,_=>[]
 |.val k::r,n,cs,x=>dJ r (n+1) (cs.drop k.sz) x.2
 |.own ok::r,n,cs,x=>(n,(oX (cs.headD .no)).head?,.own ok x.1)::dJ r (n+1) cs.tail x.2
def dP:(b:BK)→Heap→Nat→Nat→Nat→b.T→List yc
 |.box ty c,hh,i,i',n,x=>(i',some i,.box ty (aD c n x))::dJ c n (zt hh i) x
 |.own ok,_,i,i',_,x=>[(i',some i,.own ok x)]
def cx:(bs:List BK)→Heap→List Nat→List Nat→Nat→wg bs→List yc
 |b::r,hh,i::is,i'::is',n,x=>dP b hh i i' n x.1++cx r hh is is' (n+16) x.2
 |_,_,_,_,_,_=>[]
theorem mM:∀(dt:List CK) (n:Nat) (cs:List AV) (x:qA dt),dD (dJ dt n cs x)=bg dt n x
 |[],_,_,_=>rfl
 |.val k::r,n,cs,x=>mM r (n+1) _ x.2
 |.own ok::r,n,cs,x=>by simp only[dJ,bg,dD,List.map_cons];rw[←mM r (n+1) cs.tail x.2];rfl
theorem k0:∀(dt:List CK) (n:Nat) (cs:List AV) (x:qA dt),(dJ dt n cs x).map (·.1)=ck dt n
 |[],_,_,_=>rfl
 |.val k::r,n,cs,x=>k0 r (n+1) _ x.2
 |.own ok::r,n,cs,x=>by simp only[dJ,ck,List.map_cons];rw[k0 r (n+1) cs.tail x.2]
theorem wE(c:AV):(oX c).head?.toList=oX c:=by cases c<;>rfl
theorem dQ{α β:Type}(f:α→Option β)(a:α)(l:List α):(a::l).filterMap f=(f a).toList++l.filterMap f:=by
 rw[List.filterMap_cons];cases f a<;>rfl
theorem pe{k:K}{r:List CK}{hh:Heap}{cs:List AV}{x:qA (.val k::r)}(hd:cO (.val k::r) hh cs=some x):dG k ((cs.take k.sz).map (cM hh))=some x.1∧cO r hh (cs.drop k.sz)=some x.2:=by
 have e:cO (.val k::r) hh cs=(match dG k ((cs.take k.sz).map (cM hh)),cO r hh (cs.drop k.sz) with
  |some x,some y=>some ((x,y):k.T×qA r)
  |_,_=>none):=by cases cs<;>rfl
 rw[e]at hd
 clear e
 generalize dG k ((cs.take k.sz).map (cM hh))=o1 at hd ⊢
 generalize cO r hh (cs.drop k.sz)=o2 at hd ⊢
 cases o1 with
 |none=>cases hd
 |some x1 =>
  cases o2 with
  |none=>cases hd
  |some y1=>have:=Option.some.inj hd;subst this;exact⟨rfl,rfl⟩
theorem lM{ok:OK}{r:List CK}{hh:Heap}{cs:List AV}{x:qA (.own ok::r)}(hd:cO (.own ok::r) hh cs=some x):∃c cs',cs=c::cs'∧dS hh ok c=some x.1∧cO r hh cs'=some x.2:=by
 cases cs with
 |nil=>cases hd
 |cons c cs =>
  refine⟨c,cs,rfl,?_⟩
  have e:cO (.own ok::r) hh (c::cs)=(match dS hh ok c,cO r hh cs with
   |some x,some y=>some ((x,y):ok.T×qA r)
   |_,_=>none):=rfl
  rw[e]at hd
  clear e
  generalize dS hh ok c=o1 at hd ⊢
  generalize cO r hh cs=o2 at hd ⊢
  cases o1 with
  |none=>cases hd
  |some x1 =>
   cases o2 with
   |none=>cases hd
   |some y1=>have:=Option.some.inj hd;subst this;exact⟨rfl,rfl⟩
theorem pf:∀(dt:List CK) (n:Nat) (hh:Heap) (cs:List AV) (x:qA dt),cO dt hh cs=some x→(dJ dt n cs x).filterMap (·.2.1)=fP dt cs
 |[],_,_,cs,_,_=>by cases cs<;>rfl
 |.val k::r,n,hh,cs,x,hd=>by
  obtain⟨_,h2⟩:=pe hd
  have e:fP (.val k::r) cs=fP r (cs.drop k.sz):=by cases cs<;>rfl
  rw[e]
  exact pf r (n+1) hh _ x.2 h2
 |.own ok::r,n,hh,cs,x,hd=>by
  obtain⟨c,cs',rfl,_,h2⟩:=lM hd
  simp only[dJ,fP]
  rw[dQ]
  simp only[List.headD_cons,List.tail_cons]
  rw[wE,pf r (n+1) hh cs' x.2 h2]
theorem lN{hh:Heap}{ok:OK}{c:AV}{xs:ok.T}(ho:dS hh ok c=some xs):(c=.fV∧GN ok xs)∨∃id,c=.bH id∧hh.get id=some (.own ok xs):=by
 unfold dS at ho
 split at ho
 ·cases ok with
  |row _ _=>cases ho;exact .inl ⟨rfl,rfl⟩
  |_=>cases ho
 ·rename_i id
  split at ho
  ·rename_i yS k' Zr hg
   split at ho
   ·rename_i e
    subst e
    cases ho
    exact .inr ⟨id,rfl,hg⟩
   ·cases ho
  ·cases ho
 ·cases ho
theorem EY{hh:Heap}{ok:OK}{c:AV}{xs:ok.T}{v:Value}(ho:dS hh ok c=some xs)(hr:az Z ψ hh.get w c v){n:Nat}(jg:h' n≠none→ψ' n=jP ψ (oX c).head?):az Z' ψ' h' w' (.bH n) v:=by
 rcases lN ho with⟨rfl,_⟩|⟨id,rfl,hg⟩
 ·simp only[az]at hr ⊢
  subst hr
  exact⟨⟨rfl,rfl⟩,fun hn=>(jg hn).symm⟩
 ·simp only[az]at hr ⊢
  refine⟨hr.1,fun hn=>?_⟩
  rw[jg hn]
  exact hr.2 (by rw[hg];simp)
theorem rT{hh:Heap}(g:Good Z ψ hh.get w B0 O)(hz:∀b,Z b→Z' b):∀(dt:List CK) (n:Nat) (cs:List AV) (x:qA dt) (vs:List Value),cO dt hh cs=some x →
  (∀id b,AV.bH id∈qe dt cs→hh.get id≠none→ob (ψ id)=some b→Z' b)→(∀e∈dJ dt n cs x,h' e.1≠none→ψ' e.1=jP ψ e.2.1) →
  an Z ψ hh.get w cs vs→an Z' ψ' h' w (aD dt n x) vs
 |[],n,cs,x,vs,hd,_,_,hr=>by
  cases cs with
  |nil=>simpa only[aD,an] using hr
  |cons c cs=>cases hd
 |.val k::r,n,cs,x,vs,hd,hf,jg,hr=>by
  obtain⟨h1,h2⟩:=pe hd
  have e:qe (.val k::r) cs=cs.take k.sz++qe r (cs.drop k.sz):=by cases cs<;>rfl
  rw[e]at hf
  have rM:an Z ψ hh.get w (cs.take k.sz++cs.drop k.sz) vs:=by rw[List.take_append_drop];exact hr
  obtain⟨us,ws,rfl,h3,h4⟩:=an.split rM
  simp only[aD]
  have h5:=nY (Z':=Z') g hz (fun id b bO=>hf id b (List.mem_append_left _ bO)) h3
  exact an.append (ig (dH h1 h5)) (rT g hz r (n+1) (cs.drop k.sz) x.2 ws h2 (fun id b bO=>hf id b (List.mem_append_right _ bO)) jg h4)
 |.own ok::r,n,cs,x,vs,hd,hf,jg,hr=>by
  obtain⟨c,cs',rfl,h1,h2⟩:=lM hd
  simp only[an]at hr
  obtain⟨v,us,rfl,h3,h4⟩:=hr
  simp only[aD,an]
  refine⟨v,us,rfl,EY h1 h3 (fun hn=>jg (n,_,_) (by simp only[dJ];exact List.mem_cons_self) hn),?_⟩
  exact rT g hz r (n+1) cs' x.2 us h2 hf (fun e he=>jg e (by simp only[dJ];exact List.mem_cons_of_mem _ he)) h4
theorem fm{b:BK}{r:List BK}{hh:Heap}{i:Nat}{is:List Nat}{x:wg (b::r)}(hd:c7 (b::r) hh (i::is)=some x):qf b hh i=some x.1∧c7 r hh is=some x.2:=by
 have e:c7 (b::r) hh (i::is)=(match qf b hh i,c7 r hh is with
   |some x,some y=>some ((x,y):b.T×wg r)
   |_,_=>none):=rfl
 rw[e]at hd
 clear e
 generalize qf b hh i=o1 at hd ⊢
 generalize c7 r hh is=o2 at hd ⊢
 cases o1 with
 |none=>cases hd
 |some x1 =>
  cases o2 with
  |none=>cases hd
  |some y1=>have:=Option.some.inj hd;subst this;exact⟨rfl,rfl⟩
theorem rU{ty:TypeId}{c:List CK}{hh:Heap}{i:Nat}{x:qA c}(hd:qf (.box ty c) hh i=some x):∃cs,hh.get i=some (.box ty cs)∧cO c hh cs=some x:=by
 simp only[qf]at hd
 cases hb:Dx hh i ty with
 |none=>rw[hb]at hd;cases hd
 |some cs =>
  rw[hb]at hd
  refine⟨cs,?_,hd⟩
  unfold Dx at hb
  split at hb
  ·rename_i yS cs' hg
   split at hb
   ·rename_i e;cases hb;rw[hg,e]
   ·cases hb
  ·cases hb
theorem jQ{hh:Heap}{ok:OK}{i:Nat}{x:ok.T}(h:dS hh ok (.bH i)=some x):hh.get i=some (.own ok x):=by
 rcases lN h with⟨h,_⟩|⟨id,h,hg⟩
 ·cases h
 ·cases h;exact hg
theorem DI{ok:OK}{hh:Heap}{i:Nat}{x:ok.T}(hd:qf (.own ok) hh i=some x):hh.get i=some (.own ok x):=jQ hd
theorem pj{hh:Heap}{i:Nat}{ty:TypeId}{cs:List AV}(hg:hh.get i=some (.box ty cs)):zt hh i=cs:=by unfold zt;rw[hg]
theorem EZ(b:BK){hh:Heap}{i i' n:Nat}(x:b.T):dD (dP b hh i i' n x)=ji b i' n x:=by
 cases b with
 |box ty c=>simp only[dP,ji];rw[←mM c n (zt hh i) x];simp[dD]
 |own ok=>simp[dP,ji,dD]
theorem C2(b:BK){hh:Heap}{i i' n:Nat}(x:b.T):(dP b hh i i' n x).map (·.1)=i'::ck b.dt n:=by
 cases b with
 |box ty c=>simp only[dP,List.map_cons,BK.dt];rw[k0]
 |own ok=>simp[dP,BK.dt,ck]
theorem GO(b:BK){hh:Heap}{i i' n:Nat}{x:b.T}(hd:qf b hh i=some x):(dP b hh i i' n x).filterMap (·.2.1)=j6 b hh i:=by
 cases b with
 |box ty c =>
  obtain⟨cs,h1,h2⟩:=rU hd
  simp only[dP,j6]
  rw[dQ,pj h1,pf c n hh cs x h2,h1]
  rfl
 |own ok=>simp[dP,j6]
theorem jn:∀(bs:List BK) (hh:Heap) (is is':List Nat) (n:Nat) (x:wg bs),c7 bs hh is=some x→is'.length=bs.length→dD (cx bs hh is is' n x)=bA bs is' n x
 |[],hh,is,is',n,x,_,hl=>by cases is'<;>simp[cx,bA,dD]
 |b::r,hh,[],is',n,x,hd,_=>by cases hd
 |b::r,hh,i::is,[],n,x,_,hl=>by simp at hl
 |b::r,hh,i::is,i'::is',n,x,hd,hl=>by
  obtain⟨_,h3⟩:=fm hd
  have ih:=jn r hh is is' (n+16) x.2 h3 (by simpa using hl)
  simp only[cx,bA]
  rw[←ih,←EZ b (hh:=hh) (i:=i) x.1]
  simp[dD]
theorem gZ:∀(bs:List BK) (hh:Heap) (is is':List Nat) (n:Nat) (x:wg bs),c7 bs hh is=some x→is'.length=bs.length→(cx bs hh is is' n x).map (·.1)=bZ bs is' n
 |[],hh,is,is',n,x,_,hl=>by cases is'<;>simp[cx,bZ]
 |b::r,hh,[],is',n,x,hd,_=>by cases hd
 |b::r,hh,i::is,[],n,x,_,hl=>by simp at hl
 |b::r,hh,i::is,i'::is',n,x,hd,hl=>by
  obtain⟨_,h3⟩:=fm hd
  have ih:=gZ r hh is is' (n+16) x.2 h3 (by simpa using hl)
  simp only[cx,bZ,List.map_append]
  rw[ih,C2,List.cons_append]
theorem kf:∀(bs:List BK) (hh:Heap) (is is':List Nat) (n:Nat) (x:wg bs),c7 bs hh is=some x→is'.length=bs.length→(cx bs hh is is' n x).filterMap (·.2.1)=c8 bs hh is
 |[],hh,is,is',n,x,_,hl=>by cases is'<;>cases is<;>simp[cx,c8]
 |b::r,hh,[],is',n,x,hd,_=>by cases hd
 |b::r,hh,i::is,[],n,x,_,hl=>by simp at hl
 |b::r,hh,i::is,i'::is',n,x,hd,hl=>by
  obtain⟨h1,h3⟩:=fm hd
  have ih:=kf r hh is is' (n+16) x.2 h3 (by simpa using hl)
  simp only[cx,c8]
  rw[List.filterMap_append,ih,GO b h1]
theorem rW{hd:Hp}{hh:Heap}:∀(dt:List CK) (n:Nat) (cs:List AV) (x:qA dt),cO dt hh cs=some x→(∀s∈fP dt cs,hd s=hh.get s)→∀e∈dJ dt n cs x,uT Z ψ hd w h' ψ' e
 |[],n,cs,x,_,_,e,he=>by simp[dJ]at he
 |.val k::r,n,cs,x,TC,hk,e,he=>by
  obtain⟨_,h2⟩:=pe TC
  have e0:fP (.val k::r) cs=fP r (cs.drop k.sz):=by cases cs<;>rfl
  rw[e0]at hk
  exact rW r (n+1) _ x.2 h2 hk e he
 |.own ok::r,n,cs,x,TC,hk,e,he=>by
  obtain⟨c,cs',rfl,h1,h2⟩:=lM TC
  simp only[dJ,List.headD_cons,List.tail_cons]at he
  simp only[fP]at hk
  rcases List.mem_cons.1 he with rfl|he
  ·rcases lN h1 with⟨rfl,h3⟩|⟨id,rfl,h3⟩
   ·exact h3
   ·show hd id=some (.own ok x.1)
    rw[hk id (List.mem_append_left _ (by simp[oX])),h3]
  ·exact rW r (n+1) cs' x.2 h2 (fun s hs=>hk s (List.mem_append_right _ hs)) e he
theorem JR{hd:Hp}{hh:Heap}(g:Good Z ψ hh.get w B0 O)(hz:∀b,Z b→Z' b)(b:BK){i i' n:Nat}{x:b.T}(TC:qf b hh i=some x)
  (hf:∀id g,AV.bH id∈Ag b hh i→hh.get id≠none→ob (ψ id)=some g→Z' g) (hk:∀s∈j6 b hh i,hd s=hh.get s) (jg:∀e∈dP b hh i i' n x,h' e.1≠none→ψ' e.1=jP ψ e.2.1) :
  ∀e∈dP b hh i i' n x,uT Z' ψ hd w h' ψ' e:=by
 intro e he
 cases b with
 |box ty c =>
  obtain⟨cs,h1,h2⟩:=rU TC
  simp only[Ag,j6,h1]at hf hk
  have Xm:∀e∈dJ c n cs x,h' e.1≠none→ψ' e.1=jP ψ e.2.1:=fun e he=>jg e (by simp only[dP];rw[pj h1];exact List.mem_cons_of_mem _ he)
  simp only[dP]at he
  rcases List.mem_cons.1 he with rfl|he
  ·refine⟨⟨cs,by rw[hk i List.mem_cons_self,h1]⟩,fun gg vs h4 h5=>?_⟩
   obtain⟨gg',g6,h6,h7,h8,_⟩:=g.box i ty cs h1
   rw[h6]at h4
   cases h4
   rw[h5]at h7
   cases h7
   exact rT g hz c n cs x _ h2 hf Xm h8
  ·rw[pj h1]at he
   exact rW c n cs x h2 (fun s hs=>hk s (List.mem_cons_of_mem _ hs)) e he
 |own ok =>
  have h1:=DI TC
  simp only[dP,List.mem_singleton]at he
  subst he
  show hd i=some (.own ok x)
  rw[hk i (by simp[j6]),h1]
theorem lO{hd:Hp}{hh:Heap}(g:Good Z ψ hh.get w B0 O)(hz:∀b,Z b→Z' b):∀(bs:List BK) (is is':List Nat) (n:Nat) (x:wg bs),c7 bs hh is=some x →
  (∀id b,AV.bH id∈fW bs hh is→hh.get id≠none→ob (ψ id)=some b→Z' b)→(∀s∈c8 bs hh is,hd s=hh.get s)→(∀e∈cx bs hh is is' n x,h' e.1≠none→ψ' e.1=jP ψ e.2.1) →
  ∀e∈cx bs hh is is' n x,uT Z' ψ hd w h' ψ' e
 |[],is,is',n,x,_,_,_,_,e,he=>by simp[cx]at he
 |b::r,[],is',n,x,TC,_,_,_,e,he=>by cases TC
 |b::r,i::is,[],n,x,_,_,_,_,e,he=>by simp[cx]at he
 |b::r,i::is,i'::is',n,x,TC,hf,hk,jg,e,he=>by
  obtain⟨h1,h3⟩:=fm TC
  simp only[fW,c8]at hf hk
  simp only[cx]at he jg
  rcases List.mem_append.1 he with he|he
  ·exact JR g hz b h1 (fun id g bO=>hf id g (List.mem_append_left _ bO)) (fun s hs=>hk s (List.mem_append_left _ hs)) (fun e he=>jg e (List.mem_append_left _ he)) e he
  ·exact lO g hz r is is' (n+16) x.2 h3 (fun id b bO=>hf id b (List.mem_append_right _ bO)) (fun s hs=>hk s (List.mem_append_right _ hs)) (fun e he=>jg e (List.mem_append_right _ he)) e he
theorem rX{kept:List Nat}{kL:List AV}(hk:wo kept kL=true):cc kept=true∧∀(hh:Heap) s,s∈kept→(cI hh kL).get s=hh.get s:=by
 unfold wo at hk
 rw[Bool.and_eq_true]at hk
 exact⟨hk.1,fun hh s hs=>o4 _ _ _ (rP (List.all_eq_true.1 hk.2 s hs))⟩
theorem wF{hh:Heap}{kL:List AV}{kept:List Nat}(g:Good Z ψ hh.get w B0 O)(hk:wo kept kL=true){L:List yc}(hn:cc (L.map (·.1))=true)(hs:L.filterMap (·.2.1)=kept)
  (mw:∀e∈L,uT (qy Z ψ hh.get kL) ψ (cI hh kL).get w (dD L).get (eX ψ L) e):Good (qy Z ψ hh.get kL) (eX ψ L) (dD L).get w B0 O :=
 (iv g kL).rename hn (by rw[hs];exact(rX hk).1) mw
theorem zu{L:List yc}(hn:cc (L.map (·.1))=true):∀e∈L,(dD L).get e.1≠none→eX ψ L e.1=jP ψ e.2.1:=fun⟨i,s,o⟩ he _=>iI hn he
theorem mN(A B:List yc):dD (A++B)=dD A++dD B:=by simp[dD]
theorem zw{hh:Heap}{i s i':Nat}{v:Value}(hr:az Z ψ hh.get w (.ref i s 0 0) v)(hi:hh.get i≠none)(jg:h' i'≠none→ψ' i'=ψ i):az Z' ψ' h' w' (.ref i' 0 0 0) v:=by
 simp only[az]at hr ⊢
 obtain⟨a,rfl,ha⟩:=hr
 refine⟨a,rfl,fun hn=>?_⟩
 rw[jg hn,ha hi]
 simp
theorem pn{v:AV}{i:Nat}(h:Dy v=some i):∃s,v=.ref i s 0 0:=by
 unfold Dy at h
 split at h
 ·cases h;exact⟨_,rfl⟩
 ·cases h
theorem jo{hh:Heap}:∀(bs:List BK) (is:List Nat) (x:wg bs),c7 bs hh is=some x→is.length=bs.length∧∀i∈is,hh.get i≠none
 |[],[],_,_=>⟨rfl,fun i hi=>by cases hi⟩
 |[],_::_,_,h=>by cases h
 |_::_,[],_,h=>by cases h
 |b::r,i::is,x,h=>by
  obtain⟨h1,h3⟩:=fm h
  obtain⟨h4,h5⟩:=jo r is x.2 h3
  refine⟨by simp[h4],fun j hj=>?_⟩
  rcases List.mem_cons.1 hj with rfl|hj
  ·cases b with
   |box ty c=>obtain⟨cs,h1,_⟩:=rU h1;rw[h1];simp
   |own ok=>rw[DI h1];simp
  ·exact h5 j hj
theorem kg{hh:Heap}:∀(bs:List BK) (is is':List Nat) (n:Nat) (x:wg bs),is.length=bs.length→∀p∈is.zip is',∃o,(p.2,some p.1,o)∈cx bs hh is is' n x
 |[],is,is',n,x,hl,p,hp=>by
  cases is with
  |nil=>simp at hp
  |cons a r=>simp at hl
 |b::r,[],is',n,x,hl,p,hp=>by simp at hp
 |b::r,i::is,[],n,x,hl,p,hp=>by simp at hp
 |b::r,i::is,i'::is',n,x,hl,p,hp=>by
  simp only[List.zip_cons_cons]at hp
  simp only[cx]
  rcases List.mem_cons.1 hp with rfl|hp
  ·cases b with
   |box ty c=>exact⟨_,List.mem_append_left _ (by simp only[dP];exact List.mem_cons_self)⟩
   |own ok=>exact⟨_,List.mem_append_left _ (by simp only[dP];exact List.mem_cons_self)⟩
  ·obtain⟨o,ho⟩:=kg r is is' (n+16) x.2 (by simpa using hl) p hp
   exact⟨o,List.mem_append_right _ ho⟩
theorem Lo{hd:Hp}{hh:Heap}{ok:OK}{c:AV}{xs:ok.T}(ho:dS hh ok c=some xs)(hk:∀s∈oX c,hd s=hh.get s){n:Nat}:uT Z ψ hd w h' ψ' (n,(oX c).head?,.own ok xs):=by
 rcases lN ho with⟨rfl,h3⟩|⟨id,rfl,h3⟩
 ·exact h3
 ·show hd id=some (.own ok xs)
  rw[hk id (by simp[oX]),h3]
end Go.Vs
namespace Go.Vs
variable {P:Program} {Z Z':Nat→Prop} {ψ ψ':Nat→Value} {h h':Hp} {w w':World} {B0:Nat} {O:Nat→Prop} {N:Nat→Prop}
def gi:Hp:=fun _=>none
def Jm:Nat→Value:=fun _=>undef
def DJ(g:aN)(x:Gp (kN g.ps)):List AV:=(aU g.ps [] 0 x).map (·.2)
def ZB(P:Program)(f:FuncId)(g:aN)(x:g.A)(y:g.B):Prop :=
 ∀(Z:Nat→Prop) (w:World) (kh:List Value),(∀b,Z b→b<w.heap.size)→an Z Jm gi w (DJ g x.1) kh →
  Calls P (f%1000) kh.toArray w fun e w'=>∃v Z' ψ',e=.returned v∧(∀b,Z b→Z' b)∧(∀b,Z' b→Z b∨w.heap.size≤b)∧c9 Jm gi w w' ∧
   Good Z' ψ' (ak g.rs 3000 y.1).get w' w.heap.size (fun _=>False)∧az Z' ψ' (ak g.rs 3000 y.1).get w' (fe (aW g.rs [] 2000 3000 y.1)) v
theorem yd{p:PK}{ps:List PK}{vs:List AV}(hi:cF (p::ps) vs=some []):∃a r,vs=a::r∧cF ps r=some []∧(p≠.ref∧p≠.own)∧(∀f n,p=.Gh f n→a=.fn f [])∧(∀n,p=.agg n→a=.agg []):=by
 cases vs with
 |nil=>cases p<;>simp[cF]at hi
 |cons a r =>
  cases p with
  |val k=>exact⟨a,r,rfl,by simpa only[cF] using hi,by simp,by simp,by simp⟩
  |ref =>
   simp only[cF]at hi
   split at hi<;>simp at hi
  |own =>
   cases a<;>simp only[cF]at hi<;>first|(cases hi;done)|skip
   split at hi<;>simp at hi
  |Gh f n =>
   cases a<;>simp only[cF]at hi<;>first|(cases hi;done)|skip
   rename_i f' cap
   split at hi
   ·rename_i hc
    obtain⟨rfl,tG⟩:=hc
    split at hi
    ·rename_i a1 b1 h1 h2
     simp only[Option.some.injEq,List.append_eq_nil_iff]at hi
     obtain⟨rfl,rfl⟩:=hi
     have Xa:cap=[]:=by
      cases cap with
      |nil=>rfl
      |cons c cs=>simp only[jJ]at h1;split at h1<;>simp at h1
     subst Xa
     exact⟨_,r,rfl,h2,by simp,by rintro f n ⟨⟩;rfl,by simp⟩
    ·cases hi
   ·cases hi
  |agg n =>
   cases a<;>simp only[cF]at hi<;>first|(cases hi;done)|skip
   rename_i cs
   split at hi
   ·split at hi
    ·rename_i a1 b1 h1 h2
     simp only[Option.some.injEq,List.append_eq_nil_iff]at hi
     obtain⟨rfl,rfl⟩:=hi
     have MQ:cs=[]:=by
      cases cs with
      |nil=>rfl
      |cons c cs=>cases c<;>simp only[oY]at h1<;>first|(cases h1;done)|(split at h1<;>simp at h1)
     subst MQ
     exact⟨_,r,rfl,h2,by simp,by simp,fun _ _=>rfl⟩
    ·cases hi
   ·cases hi
theorem yf{k:K}{ps:List PK}{hh:Heap}{a:AV}{r:List AV}{x:k.T×Gp (kN ps)}(hv:eQ (.val k::ps) hh (a::r)=some x):fT k hh a=some x.1∧eQ ps hh r=some x.2:=by
 have e:eQ (.val k::ps) hh (a::r)=(match fT k hh a,eQ ps hh r with
  |some x,some y=>some ((x,y):k.T×Gp (kN ps))
  |_,_=>none):=rfl
 rw[e]at hv
 clear e
 generalize fT k hh a=o1 at hv ⊢
 generalize eQ ps hh r=o2 at hv ⊢
 cases o1 with
 |none=>cases hv
 |some x1 =>
  cases o2 with
  |none=>cases hv
  |some y1 =>
   have:=Option.some.inj hv
   subst this
   exact⟨rfl,rfl⟩
theorem AO{hh:Heap}(g:Good Z ψ hh.get w B0 O)(hz:∀b,Z b→Z' b)(ps:List PK):∀(s:Nat) (vs:List AV) (us:List Value) (x:Gp (kN ps)),(∀v∈vs,∀id b,AV.bH id∈v.cells→hh.get id≠none→ob (ψ id)=some b→Z' b) →
  cF ps vs=some []→eQ ps hh vs=some x→an Z ψ hh.get w vs us→an Z' Jm gi w ((aU ps [] s x).map (·.2)) us:=by
 induction ps with
 |nil =>
  intro s vs us x _ hi hv hr
  cases vs with
  |nil=>simpa only[aU,List.map_nil,an] using hr
  |cons a r=>simp[cF]at hi
 |cons p ps ih =>
  intro s vs us x hb hi hv hr
  obtain⟨a,r,rfl,tF,Ua,Xn,Xo⟩:=yd hi
  simp only[an]at hr
  obtain⟨u,iX,rfl,h3,h4⟩:=hr
  cases p with
  |val k =>
   obtain⟨h1,h2⟩:=yf hv
   simp only[aU,List.map_cons,an]
   exact⟨u,iX,rfl,rQ (Z':=Z') (ψ':=Jm) (h':=gi) g hz (hb a List.mem_cons_self) h1 h3,ih (s+1) r iX x.2 (fun v hv=>hb v (List.mem_cons_of_mem _ hv)) tF h2 h4⟩
  |ref=>exact absurd rfl Ua.1
  |own=>exact absurd rfl Ua.2
  |Gh f n =>
   have ha:=Xn f n rfl
   subst ha
   have h2:eQ ps hh r=some x:=hv
   simp only[aU,List.map_cons,an,List.take_nil,List.map_nil,List.drop_nil]
   simp only[az,an]at h3 ⊢
   exact⟨u,iX,rfl,h3,ih (s+1) r iX x (fun v hv=>hb v (List.mem_cons_of_mem _ hv)) tF h2 h4⟩
  |agg n =>
   have ha:=Xo n rfl
   subst ha
   have h2:eQ ps hh r=some x:=hv
   simp only[aU,List.map_cons,an,List.take_nil,List.map_nil,List.drop_nil]
   simp only[az,an]at h3 ⊢
   exact⟨u,iX,rfl,h3,ih (s+1) r iX x (fun v hv=>hb v (List.mem_cons_of_mem _ hv)) tF h2 h4⟩
theorem Good.ZC(g:Good Z ψ h w B0 O)(k:c9 Jm gi w w')(hz:∀b,Z b→Z' b)(OJ:∀b,Z' b→Z b∨w.heap.size≤b)(aeH:∀b,Z' b→b<w'.heap.size)
  (hold:∀id,¬N id→h' id=h id∧ψ' id=ψ id)
  (bu:∀id ty cs,h id=some (.box ty cs)→aC (fun i=>¬N i) cs)
  (Pd:∀id ty cs,N id→h' id=some (.box ty cs)→False)
  (n6:∀id ok xs,N id→h' id=some (.own ok xs)→jD Z' w' ok (ψ' id) xs)
  (Ap:∀id b,N id→h' id≠none→ob (ψ' id)=some b→w.heap.size≤b∧¬Z' b)
  (JC:∀id mC b,N id→N mC→h' id≠none→h' mC≠none→ob (ψ' id)=some b→ob (ψ' mC)=some b→id=mC) (hB:B0≤w.heap.size) :
  Next Z ψ h w B0 O N Z' ψ' h' w':=by
 have cT:∀b,b<w.heap.size→w'.heap[b]? = w.heap[b]? := fun b hb=>k.block b hb (fun⟨id,h1,_⟩=>h1 rfl)
 have sm:ct Z w w':=fun b hb=>cT b (g.jM b hb)
 have nr:∀id,h' id≠none→(h id≠none∧ψ' id=ψ id)∨N id:=fun id bO=>by
  by_cases hn:N id
  ·exact .inr hn
  ·obtain⟨e1,e2⟩:=hold id hn
   exact .inl ⟨by rwa [e1]at bO,e2⟩
 have xT:∀id b,¬N id→h' id≠none→ob (ψ' id)=some b→Own ψ h b:=fun id b hn h1 h2=>by
  obtain⟨e1,e2⟩:=hold id hn
  exact⟨id,by rwa [e1]at h1,by rwa [e2]at h2⟩
 have kk:c9 ψ h w w':=⟨k.os,k.tape,k.output,k.size,fun b hb _=>cT b hb⟩
 refine⟨hz,fun b hb=>(OJ b hb).imp (fun h=>h) .inr,kk,nr,⟨fun id ty cs hb=>?_,fun id ok xs hb=>?_,fun id b h1 h2=>?_,fun id mC b h1 h2 h3 h4=>?_,aeH⟩⟩
 ·by_cases hn:N id
  ·exact(Pd id ty cs hn hb).elim
  ·obtain⟨e1,e2⟩:=hold id hn
   rw[e1]at hb
   obtain⟨gg,vs,h1,h2,h3,h4⟩:=g.box id ty cs hb
   exact⟨gg,vs,by rw[e2,h1],(cT gg (Array.getElem?_eq_some_iff.1 h2).1).trans h2,h3.move hz sm (fun i hp bO=>(nr i bO).resolve_right hp) (bu id ty cs hb),h4⟩
 ·by_cases hn:N id
  ·exact n6 id ok xs hn hb
  ·obtain⟨e1,e2⟩:=hold id hn
   rw[e1]at hb
   rw[e2]
   exact(g.row id ok xs hb).kept hz sm (fun gg MM=>cT gg (g.bP ⟨id,by rw[hb];simp,MM⟩))
 ·by_cases hn:N id
  ·obtain⟨h3,h4⟩:=Ap id b hn h1 h2
   exact⟨h4,.inl (by omega)⟩
  ·obtain⟨e1,e2⟩:=hold id hn
   rw[e1]at h1;rw[e2]at h2
   have h3:=g.live id b h1 h2
   refine⟨fun Zp=>?_,h3.2⟩
   rcases OJ b Zp with h4|h4
   ·exact h3.1 h4
   ·have:=g.bP ⟨id,h1,h2⟩;omega
 ·by_cases hn:N id<;>by_cases JD:N mC
  ·exact JC id mC b hn JD h1 h2 h3 h4
  ·have:=(Ap id b hn h1 h3).1
   have:=g.bP (xT mC b JD h2 h4);omega
  ·have:=(Ap mC b JD h2 h4).1
   have:=g.bP (xT id b hn h1 h3);omega
  ·obtain⟨e1,e2⟩:=hold id hn
   obtain⟨e3,e4⟩:=hold mC JD
   rw[e1]at h1;rw[e2]at h3;rw[e3]at h2;rw[e4]at h4
   exact g.apart id mC b h1 h2 h3 h4
theorem bF{r:RK}{rs:List RK}(h:(r::rs).all RK.plain=true):rs.all RK.plain=true:=by simp only[List.all_cons,Bool.and_eq_true]at h;exact h.2
theorem M0{c:List CK}{rs:List RK}(h:(RK.agg c::rs).all RK.plain=true):c.length≤16:=by
 simp only[List.all_cons,Bool.and_eq_true,RK.plain,decide_eq_true_eq]at h;exact h.1
theorem lP:∀(c:List CK) (a:Nat) (x:qA c) (i:Nat),i<a→(bg c a x).get i=none
 |[],_,_,_,_=>rfl
 |.val _::r,a,x,i,h=>by simp only[bg];exact lP r (a+1) x.2 i (by omega)
 |.own ok::r,a,x,i,h=>by simp only[bg,Heap.get];rw[if_neg (by omega)];exact lP r (a+1) x.2 i (by omega)
theorem tP:∀(c:List CK) (a:Nat) (x:qA c) (i:Nat),a+c.length≤i→(bg c a x).get i=none
 |[],_,_,_,_=>rfl
 |.val _::r,a,x,i,h=>by simp only[List.length_cons]at h;simp only[bg];exact tP r (a+1) x.2 i (by omega)
 |.own ok::r,a,x,i,h=>by simp only[List.length_cons]at h;simp only[bg,Heap.get];rw[if_neg (by omega)];exact tP r (a+1) x.2 i (by omega)
theorem tQ:∀(c:List CK) (a b:Nat) (x:qA c) (j:Nat),(bg c a x).get (a+j)=(bg c b x).get (b+j)
 |[],_,_,_,_=>rfl
 |.val _::r,a,b,x,0=>by simp only[bg];rw[lP _ _ _ _ (by omega),lP _ _ _ _ (by omega)]
 |.own ok::r,a,b,x,0=>by simp[bg,Heap.get]
 |.val _::r,a,b,x,j+1=>by
  simp only[bg]
  rw[show a+(j+1)=a+1+j by omega,show b+(j+1)=b+1+j by omega]
  exact tQ r (a+1) (b+1) x.2 j
 |.own ok::r,a,b,x,j+1=>by
  simp only[bg,Heap.get]
  rw[if_neg (by omega),if_neg (by omega),show a+(j+1)=a+1+j by omega,show b+(j+1)=b+1+j by omega]
  exact tQ r (a+1) (b+1) x.2 j
theorem nD:∀(c:List CK) (a:Nat) (x:qA c) (i:Nat) (ty:TypeId) (cs:List AV),(bg c a x).get i≠some (.box ty cs)
 |[],_,_,_,_,_=>by simp[bg,Heap.get]
 |.val _::r,a,x,i,ty,cs=>by simp only[bg];exact nD r (a+1) x.2 i ty cs
 |.own ok::r,a,x,i,ty,cs=>by
  simp only[bg,Heap.get]
  split
  ·simp
  ·exact nD r (a+1) x.2 i ty cs
theorem qV:∀(rs:List RK) (a:Nat) (y:lG rs) (i:Nat),rs.all RK.plain=true→i<a→(ak rs a y).get i=none
 |[],a,y,i,_,h=>rfl
 |.val k::r,a,y,i,hp,h=>by simp only[ak];exact qV r (a+1) y.2 i (bF hp) (by omega)
 |.own ok::r,a,y,i,hp,h=>by simp only[ak,Heap.get];rw[if_neg (by omega)];exact qV r (a+1) y.2 i (bF hp) (by omega)
 |.eV _ _::r,a,y,i,hp,h=>by simp only[ak];exact qV r (a+1) y.2 i (bF hp) (by omega)
 |.agg c::r,a,y,i,hp,h=>by
  have h1:(bg c a y.1).get i=none:=lP c a y.1 i h
  have h2:=qV r (a+1) y.2 i (bF hp) (by omega)
  show Heap.get (bg c a y.1++ak r (a+1) y.2) i=none
  rw[Heap.get_append,h1,h2]
theorem GQ:∀(rs:List RK) (a:Nat) (y:lG rs) (i:Nat),rs.all RK.plain=true→a+rs.length+16≤i→(ak rs a y).get i=none
 |[],a,y,i,_,h=>rfl
 |.val k::r,a,y,i,hp,h=>by simp only[List.length_cons]at h;simp only[ak];exact GQ r (a+1) y.2 i (bF hp) (by omega)
 |.own ok::r,a,y,i,hp,h=>by simp only[List.length_cons]at h;simp only[ak,Heap.get];rw[if_neg (by omega)];exact GQ r (a+1) y.2 i (bF hp) (by omega)
 |.eV _ _::r,a,y,i,hp,h=>by simp only[List.length_cons]at h;simp only[ak];exact GQ r (a+1) y.2 i (bF hp) (by omega)
 |.agg c::r,a,y,i,hp,h=>by
  simp only[List.length_cons]at h
  have hc:=M0 hp
  have h1:(bg c a y.1).get i=none:=tP c a y.1 i (by omega)
  have h2:=GQ r (a+1) y.2 i (bF hp) (by omega)
  show Heap.get (bg c a y.1++ak r (a+1) y.2) i=none
  rw[Heap.get_append,h1,h2]
theorem GR:∀(rs:List RK) (a b:Nat) (y:lG rs) (j:Nat),rs.all RK.plain=true→(ak rs a y).get (a+j)=(ak rs b y).get (b+j)
 |[],_,_,_,_,_=>rfl
 |.val k::r,a,b,y,0,hp=>by simp only[ak];rw[qV _ _ _ _ (bF hp) (by omega),qV _ _ _ _ (bF hp) (by omega)]
 |.eV _ _::r,a,b,y,0,hp=>by simp only[ak];rw[qV _ _ _ _ (bF hp) (by omega),qV _ _ _ _ (bF hp) (by omega)]
 |.own ok::r,a,b,y,0,hp=>by simp[ak,Heap.get]
 |.val k::r,a,b,y,j+1,hp=>by
  simp only[ak]
  rw[show a+(j+1)=a+1+j by omega,show b+(j+1)=b+1+j by omega]
  exact GR r (a+1) (b+1) y.2 j (bF hp)
 |.eV _ _::r,a,b,y,j+1,hp=>by
  simp only[ak]
  rw[show a+(j+1)=a+1+j by omega,show b+(j+1)=b+1+j by omega]
  exact GR r (a+1) (b+1) y.2 j (bF hp)
 |.own ok::r,a,b,y,j+1,hp=>by
  simp only[ak,Heap.get]
  rw[if_neg (by omega),if_neg (by omega),show a+(j+1)=a+1+j by omega,show b+(j+1)=b+1+j by omega]
  exact GR r (a+1) (b+1) y.2 j (bF hp)
 |.agg c::r,a,b,y,j,hp=>by
  have h1:(bg c a y.1).get (a+j)=(bg c b y.1).get (b+j):=tQ c a b y.1 j
  have h2:(ak r (a+1) y.2).get (a+j)=(ak r (b+1) y.2).get (b+j):=by
   cases j with
   |zero=>rw[qV _ _ _ _ (bF hp) (by omega),qV _ _ _ _ (bF hp) (by omega)]
   |succ j =>
    rw[show a+(j+1)=a+1+j by omega,show b+(j+1)=b+1+j by omega]
    exact GR r (a+1) (b+1) y.2 j (bF hp)
  show Heap.get (bg c a y.1++ak r (a+1) y.2) (a+j)=Heap.get (bg c b y.1++ak r (b+1) y.2) (b+j)
  rw[Heap.get_append,Heap.get_append,h1,h2]
theorem uU:∀(rs:List RK) (a:Nat) (y:lG rs) (i:Nat) (ty:TypeId) (cs:List AV),rs.all RK.plain=true→(ak rs a y).get i≠some (.box ty cs)
 |[],_,_,_,_,_,_=>by simp[ak,Heap.get]
 |.val k::r,a,y,i,ty,cs,hp=>by simp only[ak];exact uU r (a+1) y.2 i ty cs (bF hp)
 |.eV _ _::r,a,y,i,ty,cs,hp=>by simp only[ak];exact uU r (a+1) y.2 i ty cs (bF hp)
 |.own ok::r,a,y,i,ty,cs,hp=>by
  simp only[ak,Heap.get]
  split
  ·simp
  ·exact uU r (a+1) y.2 i ty cs (bF hp)
 |.agg c::r,a,y,i,ty,cs,hp=>by
  have h1:(bg c a y.1).get i≠some (.box ty cs):=nD c a y.1 i ty cs
  show Heap.get (bg c a y.1++ak r (a+1) y.2) i≠some (.box ty cs)
  rw[Heap.get_append]
  split
  ·rename_i o ho;rw[ho]at h1;exact h1
  ·exact uU r (a+1) y.2 i ty cs (bF hp)
theorem lQ(p:Nat→Prop):∀(k:K) (x:k.T),aC p (enc k x)
 |.int _,_=>by simp only[enc,aC,aJ];exact⟨trivial,trivial⟩
 |.bool,_=>by simp only[enc,aC,aJ];exact⟨trivial,trivial⟩
 |.str,_=>by simp only[enc,aC,aJ];exact⟨trivial,trivial⟩
 |.sl _,_=>by simp only[enc,aC,aJ];exact⟨trivial,trivial⟩
 |.mp _ _,_=>by simp only[enc,aC,aJ];exact⟨trivial,trivial⟩
 |.pair a b,x=>by
  simp only[enc]
  have h1:=lQ p a x.1
  have h2:=lQ p b x.2
  revert h1
  generalize enc a x.1=l
  induction l with
  |nil=>intro _;exact h2
  |cons c r ih=>intro h;simp only[List.cons_append,aC]at h ⊢;exact⟨h.1,ih h.2⟩
 |.one k,x=>by simp only[enc];exact lQ p k x
theorem oa(p:Nat→Prop):∀(k:K) (x:k.T),aJ p (cj k x)
 |.int _,_=>by simp only[cj,aJ]
 |.bool,_=>by simp only[cj,aJ]
 |.str,_=>by simp only[cj,aJ]
 |.sl _,_=>by simp only[cj,aJ]
 |.mp _ _,_=>by simp only[cj,aJ]
 |.pair a b,x=>by simp only[cj,aJ];exact lQ p (.pair a b) x
 |.one k,x=>by simp only[cj,aJ];exact lQ p (.one k) x
theorem Py{k:K}{x:k.T}{v:Value}(hr:az Z ψ h w (cj k x) v):az Z ψ' h' w (cj k x) v :=
 hr.move (p:=fun _=>False) (fun _ h=>h) (ct.refl _ _) (fun _ hp _=>hp.elim) (oa _ k x)
theorem Ub(r:RK)(rs:List RK)(b:Nat)(y:lG (r::rs))(i:Nat)(hi:(ak rs (b+1) y.2).get i≠none):(ak (r::rs) b y).get i≠none:=by
 cases r with
 |val k=>exact hi
 |eV _ _=>exact hi
 |own ok=>simp only[ak,Heap.get];split<;>simp_all
 |agg c =>
  show Heap.get (bg c b y.1++ak rs (b+1) y.2) i≠none
  rw[Heap.get_append]
  split
  ·simp
  ·exact hi
theorem JS(c:List CK):∀{H:Hp} {a b:Nat} {x:qA c} {vs:List Value},(∀j,(bg c b x).get (b+j)≠none→h' (b+j)≠none→H (a+j)≠none∧ψ' (b+j)=ψ (a+j)) →
  an Z ψ H w (aD c a x) vs→an Z ψ' h' w (aD c b x) vs:=by
 induction c with
 |nil=>intro H a b x vs _ hr;simpa only[aD,an] using hr
 |cons k c ih =>
  intro H a b x vs hH hr
  cases k with
  |val k =>
   have rM:an Z ψ H w (enc k x.1++aD c (a+1) x.2) vs:=hr
   obtain⟨us,ws,rfl,h1,h2⟩:=rM.split
   show an Z ψ' h' w (enc k x.1++aD c (b+1) x.2) (us++ws)
   refine(h1.move (p:=fun _=>False) (fun _ h=>h) (ct.refl _ _) (fun _ hp _=>hp.elim) (lQ _ k x.1)).append (ih (fun j hj br=>?_) h2)
   have:=hH (j+1)
   rw[show b+(j+1)=b+1+j by omega,show a+(j+1)=a+1+j by omega]at this
   exact this hj br
  |own ok =>
   have rM:an Z ψ H w (.bH a::aD c (a+1) x.2) vs:=hr
   simp only[an]at rM
   obtain⟨v,us,rfl,h1,h2⟩:=rM
   show an Z ψ' h' w (.bH b::aD c (b+1) x.2) (v::us)
   simp only[an]
   refine⟨v,us,rfl,?_,ih (fun j hj br=>?_) h2⟩
   ·simp only[az]at h1 ⊢
    refine⟨h1.1,fun br=>?_⟩
    obtain⟨h3,h4⟩:=hH 0 (by simp[bg,Heap.get]) br
    rw[Nat.add_zero,Nat.add_zero]at h4
    rw[h4];exact h1.2 h3
   ·have:=hH (j+1)
    rw[show b+(j+1)=b+1+j by omega,show a+(j+1)=a+1+j by omega]at this
    refine this ?_ br
    have e:(bg (.own ok::c) b x).get (b+1+j)=(bg c (b+1) x.2).get (b+1+j):=by simp only[bg,Heap.get];rw[if_neg (by omega)]
    rw[e];exact hj
theorem Pz(rs:List RK):∀{H:Hp} {n m a b:Nat} {y:lG rs} {vs:List Value},rs.all RK.plain=true→(∀j,(ak rs b y).get (b+j)≠none→h' (b+j)≠none→H (a+j)≠none∧ψ' (b+j)=ψ (a+j)) →
  an Z ψ H w (aW rs [] n a y) vs→an Z ψ' h' w (aW rs [] m b y) vs:=by
 induction rs with
 |nil=>intro H n m a b y vs _ _ hr;simpa only[aW,an] using hr
 |cons r rs ih =>
  intro H n m a b y vs hp hH hr
  have hpa:=hp
  simp only[List.all_cons,Bool.and_eq_true]at hp
  have Xp:∀j,(ak rs (b+1) y.2).get (b+1+j)≠none→h' (b+1+j)≠none→H (a+1+j)≠none∧ψ' (b+1+j)=ψ (a+1+j):=fun j hj br=>by
   have:=hH (j+1)
   rw[show b+(j+1)=b+1+j by omega,show a+(j+1)=a+1+j by omega]at this
   exact this (Ub _ _ _ _ _ hj) br
  cases r with
  |val k =>
   simp only[aW,an]at hr ⊢
   obtain⟨v,us,rfl,h1,h2⟩:=hr
   exact⟨v,us,rfl,Py h1,ih hp.2 Xp h2⟩
  |own ok =>
   simp only[aW,an]at hr ⊢
   obtain⟨v,us,rfl,h1,h2⟩:=hr
   refine⟨v,us,rfl,?_,ih hp.2 Xp h2⟩
   simp only[az]at h1 ⊢
   refine⟨h1.1,fun br=>?_⟩
   obtain⟨h3,h4⟩:=hH 0 (by simp[ak,Heap.get]) br
   rw[Nat.add_zero,Nat.add_zero]at h4
   rw[h4];exact h1.2 h3
  |eV b c=>simp[RK.plain]at hp
  |agg c =>
   simp only[aW,an]at hr ⊢
   obtain⟨v,us,rfl,h1,h2⟩:=hr
   refine⟨v,us,rfl,?_,ih hp.2 Xp h2⟩
   simp only[az]at h1 ⊢
   obtain⟨ws,rfl,h3⟩:=h1
   refine⟨ws,rfl,JS c (fun j hj br=>hH j ?_ br) h3⟩
   show Heap.get (bg c b y.1++ak rs (b+1) y.2) (b+j)≠none
   rw[Heap.get_append]
   split
   ·simp
   ·rename_i yg;exact absurd yg hj
theorem tR{VO VP:Nat→Value}{ZD ZE:Hp}{ZF ZG:Nat→Prop}{l l':List AV}{V:Value}(hl:l.length=l'.length)(hm:∀vs,an ZF VO ZD w l vs→an ZG VP ZE w l' vs)(hr:az ZF VO ZD w (fe l) V):az ZG VP ZE w (fe l') V:=by
 match l,l',hl with
 |[a],[a'],_ =>
  simp only[fe]at hr ⊢
  have:=hm [V] (by simp only[an];exact⟨V,[],rfl,hr,rfl⟩)
  simp only[an]at this
  obtain⟨v,us,e,h1,_⟩:=this
  cases e;exact h1
 |[],[],_ =>
  simp only[fe,az]at hr ⊢
  obtain⟨us,rfl,h1⟩:=hr
  exact⟨us,rfl,hm _ h1⟩
 |a::b::r,a'::b'::r',_ =>
  simp only[fe,az]at hr ⊢
  obtain⟨us,rfl,h1⟩:=hr
  exact⟨us,rfl,hm _ h1⟩
theorem j8(rs:List RK):∀(ids:List Nat) (n m:Nat) (y:lG rs),(aW rs ids n m y).length=rs.length:=by
 induction rs with
 |nil=>intros;rfl
 |cons r rs ih=>intro ids n m y;cases r<;>simp[aW,ih]
theorem zx:∀(k:K) (x:k.T) (r:List AV),dec k (enc k x++r)=some (x,r)
 |.int _,x,r=>by simp only[enc,List.cons_append,List.nil_append,dec,EH,if_true];rfl
 |.bool,x,r=>by simp only[enc,List.cons_append,List.nil_append,dec,zk];rfl
 |.str,x,r=>by simp only[enc,List.cons_append,List.nil_append,dec,EI];rfl
 |.sl k,x,r=>by simp only[enc,List.cons_append,List.nil_append,dec,Le];rfl
 |.mp kk vk,x,r=>by simp only[enc,List.cons_append,List.nil_append,dec,Lf];rfl
 |.pair a b,x,r=>by
  simp only[enc,dec,List.append_assoc]
  rw[zx a x.1 (enc b x.2++r)]
  simp only[]
  rw[zx b x.2 r]
  rfl
 |.one k,x,r=>by simp only[enc,dec];exact zx k x r
theorem tS(k:K)(x:k.T):dG k (enc k x)=some x:=by
 unfold dG
 have:=zx k x []
 rw[List.append_nil]at this
 rw[this]
theorem tT:∀(k:K) (x:k.T),(cj k x).cells=enc k x
 |.int _,_=>rfl
 |.bool,_=>rfl
 |.str,_=>rfl
 |.sl _,_=>rfl
 |.mp _ _,_=>rfl
 |.pair a b,x=>rfl
 |.one k,x=>rfl
theorem Lq:∀(k:K) (x:k.T),cj k x≠.no
 |.int _,_=>by simp[cj]
 |.bool,_=>by simp[cj]
 |.str,_=>by simp[cj]
 |.sl _,_=>by simp[cj]
 |.mp _ _,_=>by simp[cj]
 |.pair a b,x=>by simp[cj]
 |.one k,x=>by simp[cj]
theorem AP:∀(k:K) (x:k.T),(cj k x).isAgg=k.isAgg
 |.int _,_=>rfl
 |.bool,_=>rfl
 |.str,_=>rfl
 |.sl _,_=>rfl
 |.mp _ _,_=>rfl
 |.pair a b,x=>rfl
 |.one k,x=>rfl
theorem M1{k:K}{x:k.T}{v:Value}(hr:az Z ψ h w (cj k x) v):aI Z w k x v.cells.toList:=by
 have h1:=hr.cells (Lq k x)
 rw[tT]at h1
 exact dH (tS k x) h1
theorem JU{k:K}{x:k.T}{v:Value}(hr:az Z ψ h w (cj k x) v):(k.isAgg=true→∃vs,v=.agg vs)∧(k.isAgg=false→v.cells=#[v]) :=
 ⟨fun h=>Pq (by rw[AP];exact h) hr,fun h=>DF (by rw[AP];exact h) (Lq k x) hr⟩
theorem PA(rs:List RK):∀{H:Hp} {n m a b:Nat} {y:lG rs} {vs:List Value},rs.all RK.flat=true→rs.all RK.plain=true→an Z ψ H w (aW rs [] n a y) vs→an Z' ψ' h' w' (aW rs [] m b y) vs:=by
 induction rs with
 |nil=>intro H n m a b y vs _ _ hr;simpa only[aW,an] using hr
 |cons r rs ih =>
  intro H n m a b y vs hf hp hr
  simp only[List.all_cons,Bool.and_eq_true]at hp hf
  cases r with
  |val k =>
   simp only[aW,an]at hr ⊢
   obtain⟨v,us,rfl,h1,h2⟩:=hr
   have hk:k.flat=true:=hf.1
   obtain⟨h3,h4⟩:=JU h1
   exact⟨v,us,rfl,lK ((M1 h1).flat hk) h3 h4,ih hf.2 hp.2 h2⟩
  |own ok=>simp[RK.flat]at hf
  |eV b c=>simp[RK.plain]at hp
  |agg c=>simp[RK.flat]at hf
theorem M3(rs:List RK):∀(a:Nat) (y:lG rs),rs.all RK.flat=true→rs.all RK.plain=true→ak rs a y=[]:=by
 induction rs with
 |nil=>intros;rfl
 |cons r rs ih =>
  intro a y hf hp
  simp only[List.all_cons,Bool.and_eq_true]at hp hf
  cases r with
  |val k=>simp only[ak];exact ih _ _ hf.2 hp.2
  |own ok=>simp[RK.flat]at hf
  |eV b c=>simp[RK.plain]at hp
  |agg c=>simp[RK.flat]at hf
theorem uV:∀(ps:List PK) (vs:List AV),cF ps vs=some []→∀v∈vs,∀id,AV.bH id∈v.cells→AV.bH id∈dq ps vs
 |[],vs,hi,v,hv,id,bO=>by
  cases vs with
  |nil=>cases hv
  |cons a r=>simp[cF]at hi
 |p::ps,vs,hi,v,hv,id,bO=>by
  obtain⟨a,r,rfl,tF,Ua,Xn,Xo⟩:=yd hi
  rcases List.mem_cons.1 hv with rfl|hv
  ·cases p with
   |val k=>simp only[dq];exact List.mem_append_left _ bO
   |ref=>exact absurd rfl Ua.1
   |own=>exact absurd rfl Ua.2
   |Gh f n=>rw[Xn f n rfl]at bO;simp[AV.cells]at bO
   |agg n=>rw[Xo n rfl]at bO;simp[AV.cells]at bO
  ·have:=uV ps r tF v hv id bO
   cases p with
   |val k=>simp only[dq];exact List.mem_append_right _ this
   |ref=>exact absurd rfl Ua.1
   |own=>exact absurd rfl Ua.2
   |Gh f n=>simpa only[dq] using this
   |agg n=>simpa only[dq] using this
theorem AQ(f:FuncId)(vs:List AV):tC f vs%1000=f%1000:=by
 induction vs with
 |nil=>rfl
 |cons v r ih =>
  cases v with
  |fn g cap=>exact Nat.add_mul_mod_self_left f 1000 _
  |_=>simp only[tC];exact ih
theorem wG{Sg:FuncId→Option aN}(f:FuncId)(vs:List AV):keyOf Sg f vs%1000=f%1000:=by
 unfold keyOf
 split
 ·exact(Nat.add_mul_mod_self_right (tC f vs) 500 1000).trans (AQ f vs)
 ·exact AQ f vs
theorem Next.imp{N':Nat→Prop}(n:Next Z ψ h w B0 O N Z' ψ' h' w')(hi:∀i,N i→N' i):Next Z ψ h w B0 O N' Z' ψ' h' w' :=
 ⟨n.fQ,n.eL,n.keep,fun id bO=>(n.ids id bO).imp (fun h=>h) (hi id),n.dV⟩
theorem wH{rs:List RK}{y:lG rs}(hp:rs.all RK.plain=true){id nb:Nat}(g:Good Z ψ h w B0 O)(hB:B0≤w.heap.size)
  (bu:∀i ty cs,h i=some (.box ty cs)→aC (fun i=>¬N i) cs) (hN:∀j,j<rs.length+16→N (id+j))
  (k:c9 Jm gi w w') (hz:∀b,Z b→Z' b) (OJ:∀b,Z' b→Z b∨w.heap.size≤b) (gc:Good Z' ψ' (ak rs 3000 y).get w' w.heap.size (fun _=>False))
  {v:Value} (hr:az Z' ψ' (ak rs 3000 y).get w' (fe (aW rs [] 2000 3000 y)) v) :
  ∃tU,Next Z ψ h w B0 O N Z' tU (fun i=>match (ak rs id y).get i with|some o=>some o|none=>h i) w' ∧
   az Z' tU (fun i=>match (ak rs id y).get i with|some o=>some o|none=>h i) w' (fe (aW rs [] nb id y)) v:=by
 classical
 let H:Hp:=fun i=>match (ak rs id y).get i with|some o=>some o|none=>h i
 let NN:Nat→Prop:=fun i=>(ak rs id y).get i≠none
 let tU:Nat→Value:=fun i=>if NN i then ψ' (3000+(i-id)) else ψ i
 have hNN:∀i,NN i→∃j,j<rs.length+16∧i=id+j:=fun i hi=>by
  have h1:¬i<id:=fun aF=>hi (qV rs id y i hp aF)
  have h2:¬id+rs.length+16≤i:=fun VQ=>hi (GQ rs id y i hp VQ)
  exact⟨i-id,by omega,by omega⟩
 have yh:∀i,NN i→(ak rs 3000 y).get (3000+(i-id))=(ak rs id y).get i:=fun i hi=>by
  obtain⟨j,_,rfl⟩:=hNN i hi
  rw[show id+j-id=j by omega]
  exact GR rs 3000 id y j hp
 have hH:∀i,NN i→H i=(ak rs 3000 y).get (3000+(i-id)):=fun i hi=>by
  rw[yh i hi]
  show(match (ak rs id y).get i with|some o=>some o|none=>h i)=_
  cases e:(ak rs id y).get i with
  |none=>exact absurd e hi
  |some o=>rfl
 have jg:∀i,NN i→tU i=ψ' (3000+(i-id)):=fun i hi=>if_pos hi
 have ZH:∀i,NN i→N i:=fun i hi=>by obtain⟨j,hj,rfl⟩:=hNN i hi;exact hN j hj
 have n:=Good.ZC (N:=NN) (ψ':=tU) (h':=H) g k hz OJ gc.jM
  (fun i hi=>by
   have e:(ak rs id y).get i=none:=Classical.not_not.1 hi
   refine⟨?_,if_neg hi⟩
   show(match (ak rs id y).get i with|some o=>some o|none=>h i)=h i
   rw[e])
  (fun i ty cs hb=>(bu i ty cs hb).imp (fun i hi hni=>hi (ZH i hni)))
  (fun i ty cs hi hb=>by rw[hH i hi]at hb;exact uU _ _ _ _ _ _ hp hb)
  (fun i ok xs hi hb=>by rw[hH i hi]at hb;rw[jg i hi];exact gc.row _ _ _ hb)
  (fun i b hi h1 h2=>by
   rw[hH i hi]at h1;rw[jg i hi]at h2
   obtain⟨h3,h4⟩:=gc.live _ b h1 h2
   exact⟨h4.resolve_right (fun h=>h),h3⟩)
  (fun i i' b hi tF h1 h2 h3 h4=>by
   rw[hH i hi]at h1;rw[hH i' tF]at h2;rw[jg i hi]at h3;rw[jg i' tF]at h4
   have:=gc.apart _ _ b h1 h2 h3 h4
   obtain⟨j,_,rfl⟩:=hNN i hi
   obtain⟨j',_,rfl⟩:=hNN i' tF
   omega) hB
 refine⟨tU,n.imp ZH,?_⟩
 refine tR (by rw[j8,j8]) (fun vs tH=>?_) hr
 refine Pz (h':=H) (ψ':=tU) rs (n:=2000) (a:=3000) hp (fun j hn br=>?_) tH
 replace hn:NN (id+j):=hn
 have e1:=hH _ hn
 have e2:=jg _ hn
 rw[show id+j-id=j by omega]at e1 e2
 exact⟨by rw[←e1];exact br,e2⟩
def jq(P:Program)(f:FuncId):Prop:=∃fn,P.funcs[f]? = some fn∧(fn.name== "runtime.NumGoroutine")=false∧fn.body.isSome=true
theorem jr{f:FuncId}(hc:jq P f)(args:Array Value):(callFunc f args).run P w=.ok (.enter f args) w:=by
 obtain⟨fn,h1,h2,h3⟩:=hc
 obtain⟨c,hc⟩:=Option.isSome_iff_exists.1 h3
 simp[callFunc,h1,hc,show ¬fn.name= "runtime.NumGoroutine" by simpa using h2]
def VR(P:Program)(ρC:Operand→Value)(o:Oper)(Z:Nat→Prop)(ψ:Nat→Value)(h:Hp)(w:World)(B0:Nat)(O N:Nat→Prop)(e:bI):Prop :=
 ∃f args,(execOp ρC o).run P w=.ok (.enter f args) w∧Calls P f args w fun en w'=>∃V Z' ψ',en=.returned V∧Next Z ψ h w B0 O N Z' ψ' (e.hp h) w'∧az Z' ψ' (e.hp h) w' e.v V
end Go.Vs
namespace Go.Vs
variable {P:Program} {Z Z':Nat→Prop} {ψ ψ':Nat→Value} {h h':Hp} {w w':World} {B0:Nat} {O:Nat→Prop} {N:Nat→Prop}
def cE:(rs:List RK)→List AV→Nat→lG rs→List yc
 |[],_,_,_=>[]
 |.own ok::r,vs,m,x=>(m,(oX (vs.headD .no)).head?,.own ok x.1)::cE r vs.tail (m+1) x.2
 |.val _::r,vs,m,x=>cE r vs.tail (m+1) x.2
 |.eV _ _::r,vs,m,x=>cE r vs.tail (m+1) x.2
 |.agg c::r,vs,m,x=>dJ c m (vs.headD .no).cells x.1++cE r vs.tail (m+1) x.2
theorem gH:∀(rs:List RK) (vs:List AV) (m:Nat) (x:lG rs),dD (cE rs vs m x)=ak rs m x
 |[],_,_,_=>rfl
 |.own ok::r,vs,m,x=>by simp only[cE,ak];rw[←gH r vs.tail (m+1) x.2];rfl
 |.val _::r,vs,m,x=>gH r vs.tail (m+1) x.2
 |.eV _ _::r,vs,m,x=>gH r vs.tail (m+1) x.2
 |.agg c::r,vs,m,x=>by
  have e1:dD (dJ c m (vs.headD .no).cells x.1)=bg c m x.1:=mM c m _ x.1
  have e2:=gH r vs.tail (m+1) x.2
  simp only[cE,ak]
  rw[mN,e2]
  exact congrArg (·++_) e1
theorem fL:∀(rs:List RK) (vs:List AV) (m:Nat) (x:lG rs),(cE rs vs m x).map (·.1)=bB rs m
 |[],_,_,_=>rfl
 |.own ok::r,vs,m,x=>by simp only[cE,bB,List.map_cons];rw[fL r vs.tail (m+1) x.2]
 |.val _::r,vs,m,x=>fL r vs.tail (m+1) x.2
 |.eV _ _::r,vs,m,x=>fL r vs.tail (m+1) x.2
 |.agg c::r,vs,m,x=>by
  have e1:(dJ c m (vs.headD .no).cells x.1).map (·.1)=ck c m:=k0 c m _ x.1
  have e2:=fL r vs.tail (m+1) x.2
  simp only[cE,bB,List.map_append]
  rw[e2]
  exact congrArg (·++_) e1
theorem po{bs:List BK}{k:K}{r:List RK}{hh:Heap}{ids:List Nat}{vs:List AV}{x:lG (.val k::r)}(hd:bJ bs (.val k::r) hh ids vs=some x):∃v g6,vs=v::g6∧fT k hh v=some x.1∧bJ bs r hh ids g6=some x.2:=by
 cases vs with
 |nil=>cases hd
 |cons v vs =>
  have e:bJ bs (.val k::r) hh ids (v::vs)=(match fT k hh v,bJ bs r hh ids vs with
   |some x,some y=>some ((x,y):k.T×lG r)
   |_,_=>none):=rfl
  rw[e]at hd
  clear e
  refine⟨v,vs,rfl,?_⟩
  generalize fT k hh v=o1 at hd ⊢
  generalize bJ bs r hh ids vs=o2 at hd ⊢
  cases o1 with
  |none=>cases hd
  |some x1 =>
   cases o2 with
   |none=>cases hd
   |some y1=>have:=Option.some.inj hd;subst this;exact⟨rfl,rfl⟩
theorem pq{bs:List BK}{ok:OK}{r:List RK}{hh:Heap}{ids:List Nat}{vs:List AV}{x:lG (.own ok::r)}(hd:bJ bs (.own ok::r) hh ids vs=some x):∃v g6,vs=v::g6∧dS hh ok v=some x.1∧bJ bs r hh ids g6=some x.2:=by
 cases vs with
 |nil=>cases hd
 |cons v vs =>
  have e:bJ bs (.own ok::r) hh ids (v::vs)=(match dS hh ok v,bJ bs r hh ids vs with
   |some x,some y=>some ((x,y):ok.T×lG r)
   |_,_=>none):=rfl
  rw[e]at hd
  clear e
  refine⟨v,vs,rfl,?_⟩
  generalize dS hh ok v=o1 at hd ⊢
  generalize bJ bs r hh ids vs=o2 at hd ⊢
  cases o1 with
  |none=>cases hd
  |some x1 =>
   cases o2 with
   |none=>cases hd
   |some y1=>have:=Option.some.inj hd;subst this;exact⟨rfl,rfl⟩
theorem mO{bs:List BK}{b:Nat}{alts:List (Nat×Nat×Nat)}{r:List RK}{hh:Heap}{ids:List Nat}{vs:List AV}{x:lG (.eV b alts::r)}(hd:bJ bs (.eV b alts::r) hh ids vs=some x):∃v g6,vs=v::g6∧ni bs hh ids b alts v=some x.1∧bJ bs r hh ids g6=some x.2:=by
 cases vs with
 |nil=>cases hd
 |cons v vs =>
  have e:bJ bs (.eV b alts::r) hh ids (v::vs)=(match ni bs hh ids b alts v,bJ bs r hh ids vs with
   |some x,some y=>some ((x,y):Option (Fin alts.length×Nat)×lG r)
   |_,_=>none):=rfl
  rw[e]at hd
  clear e
  refine⟨v,vs,rfl,?_⟩
  generalize ni bs hh ids b alts v=o1 at hd ⊢
  generalize bJ bs r hh ids vs=o2 at hd ⊢
  cases o1 with
  |none=>cases hd
  |some x1 =>
   cases o2 with
   |none=>cases hd
   |some y1=>have:=Option.some.inj hd;subst this;exact⟨rfl,rfl⟩
theorem pw{bs:List BK}{c:List CK}{r:List RK}{hh:Heap}{ids:List Nat}{vs:List AV}{x:lG (.agg c::r)}(hd:bJ bs (.agg c::r) hh ids vs=some x):∃cs g6,vs=.agg cs::g6∧cO c hh cs=some x.1∧bJ bs r hh ids g6=some x.2:=by
 cases vs with
 |nil=>cases hd
 |cons v vs =>
  have e:bJ bs (.agg c::r) hh ids (v::vs)=(match Ah c hh v,bJ bs r hh ids vs with
   |some x,some y=>some ((x,y):qA c×lG r)
   |_,_=>none):=rfl
  rw[e]at hd
  clear e
  have key:Ah c hh v=some x.1∧bJ bs r hh ids vs=some x.2:=by
   generalize Ah c hh v=o1 at hd ⊢
   generalize bJ bs r hh ids vs=o2 at hd ⊢
   cases o1 with
   |none=>cases hd
   |some x1 =>
    cases o2 with
    |none=>cases hd
    |some y1=>have:=Option.some.inj hd;subst this;exact⟨rfl,rfl⟩
  obtain⟨h1,h2⟩:=key
  unfold Ah at h1
  split at h1
  ·exact⟨_,vs,rfl,h1,h2⟩
  ·cases h1
theorem g8{bs:List BK}{hh:Heap}{ids:List Nat}:∀(rs:List RK) (vs:List AV) (x:lG rs),bJ bs rs hh ids vs=some x→vs.length=rs.length
 |[],[],_,_=>rfl
 |[],_::_,_,h=>by cases h
 |.val k::r,vs,x,h=>by obtain⟨v,g6,rfl,_,h2⟩:=po h;simp[g8 r g6 x.2 h2]
 |.own ok::r,vs,x,h=>by obtain⟨v,g6,rfl,_,h2⟩:=pq h;simp[g8 r g6 x.2 h2]
 |.eV _ _::r,vs,x,h=>by obtain⟨v,g6,rfl,_,h2⟩:=mO h;simp[g8 r g6 x.2 h2]
 |.agg _::r,vs,x,h=>by obtain⟨v,g6,rfl,_,h2⟩:=pw h;simp[g8 r g6 x.2 h2]
theorem iJ{bs:List BK}{hh:Heap}{ids:List Nat}:∀(rs:List RK) (vs:List AV) (m:Nat) (x:lG rs),bJ bs rs hh ids vs=some x→(cE rs vs m x).filterMap (·.2.1)=dO rs vs
 |[],vs,_,_,_=>by cases vs<;>rfl
 |.own ok::r,vs,m,x,h=>by
  obtain⟨v,g6,rfl,_,h2⟩:=pq h
  simp only[cE,dO,List.headD_cons,List.tail_cons]
  rw[dQ,iJ r g6 (m+1) x.2 h2]
  simp only[]
  rw[wE]
 |.val k::r,vs,m,x,h=>by
  obtain⟨v,g6,rfl,_,h2⟩:=po h
  simp only[cE,dO,List.tail_cons]
  exact iJ r g6 (m+1) x.2 h2
 |.eV _ _::r,vs,m,x,h=>by
  obtain⟨v,g6,rfl,_,h2⟩:=mO h
  simp only[cE,dO,List.tail_cons]
  exact iJ r g6 (m+1) x.2 h2
 |.agg c::r,vs,m,x,h=>by
  obtain⟨cs,g6,rfl,h1,h2⟩:=pw h
  simp only[cE,dO,List.headD_cons,List.tail_cons,AV.cells]
  have e1:(dJ c m cs x.1).filterMap (·.2.1)=fP c cs:=pf c m hh cs x.1 h1
  rw[List.filterMap_append,iJ r g6 (m+1) x.2 h2]
  exact congrArg (·++_) e1
theorem jR{hd:Hp}{bs:List BK}{hh:Heap}{ids:List Nat}:∀(rs:List RK) (vs:List AV) (m:Nat) (x:lG rs),bJ bs rs hh ids vs=some x→(∀s∈dO rs vs,hd s=hh.get s)→∀e∈cE rs vs m x,uT Z ψ hd w h' ψ' e
 |[],_,_,_,_,_,e,he=>by simp[cE]at he
 |.own ok::r,vs,m,x,h,hk,e,he=>by
  obtain⟨v,g6,rfl,h1,h2⟩:=pq h
  simp only[cE,dO,List.headD_cons,List.tail_cons]at he hk
  rcases List.mem_cons.1 he with rfl|he
  ·exact Lo h1 fun s hs=>hk s (List.mem_append_left _ hs)
  ·exact jR r g6 (m+1) x.2 h2 (fun s hs=>hk s (List.mem_append_right _ hs)) e he
 |.val k::r,vs,m,x,h,hk,e,he=>by
  obtain⟨v,g6,rfl,h1,h2⟩:=po h
  exact jR r g6 (m+1) x.2 h2 hk e he
 |.eV _ _::r,vs,m,x,h,hk,e,he=>by
  obtain⟨v,g6,rfl,h1,h2⟩:=mO h
  exact jR r g6 (m+1) x.2 h2 hk e he
 |.agg c::r,vs,m,x,h,hk,e,he=>by
  obtain⟨cs,g6,rfl,h1,h2⟩:=pw h
  simp only[cE,dO,List.headD_cons,List.tail_cons,AV.cells]at he hk
  rcases List.mem_append.1 he with he|he
  ·exact rW c m cs x.1 h1 (fun s hs=>hk s (List.mem_append_left _ hs)) e he
  ·exact jR r g6 (m+1) x.2 h2 (fun s hs=>hk s (List.mem_append_right _ hs)) e he
theorem wJ{hh:Heap}{id:Nat}:∀(dt:List CK) (c n:Nat) (cs:List AV) (x:qA dt),cO dt hh cs=some x→fU dt c=true→cs[mI dt c]? = some (.bH id)→hh.get id≠none∧∃o,(n+c,some id,o)∈dJ dt n cs x
 |[],c,n,cs,x,_,h,_=>by simp[fU]at h
 |.val k::r,0,n,cs,x,_,h,_=>by simp[fU]at h
 |.val k::r,c+1,n,cs,x,hd,h,hc=>by
  obtain⟨_,h2⟩:=pe hd
  obtain⟨h3,o,h4⟩:=wJ r c (n+1) (cs.drop k.sz) x.2 h2 (by simpa[fU] using h) (by rw[List.getElem?_drop];simpa[mI] using hc)
  exact⟨h3,o,by rw[show n+(c+1)=n+1+c by omega];exact h4⟩
 |.own ok::r,0,n,cs,x,hd,h,hc=>by
  obtain⟨c0,cs',rfl,h1,h2⟩:=lM hd
  simp only[mI,List.getElem?_cons_zero,Option.some.injEq]at hc
  subst hc
  rcases lN h1 with⟨h3,_⟩|⟨mC,h3,h4⟩
  ·cases h3
  ·cases h3
   exact⟨by rw[h4];simp,_,by simp only[dJ,List.headD_cons,oX,List.head?_cons];exact List.mem_cons_self⟩
 |.own ok::r,c+1,n,cs,x,hd,h,hc=>by
  obtain⟨c0,cs',rfl,h1,h2⟩:=lM hd
  obtain⟨h3,o,h4⟩:=wJ r c (n+1) cs' x.2 h2 (by simpa[fU] using h) (by simp only[mI]at hc;rw[Nat.add_comm]at hc;simpa using hc)
  exact⟨h3,o,by rw[show n+(c+1)=n+1+c by omega];simp only[dJ,List.tail_cons];exact List.mem_cons_of_mem _ h4⟩
theorem AR{hh:Heap}{id c:Nat}:∀(bs:List BK) (b n:Nat) (is is':List Nat) (x:wg bs) (bk:BK) (bi:Nat) (ty:TypeId) (cs:List AV),c7 bs hh is=some x→is'.length=bs.length→bs[b]? = some bk→is[b]? = some bi→hh.get bi=some (.box ty cs) →
  fU bk.dt c=true→cs[mI bk.dt c]? = some (.bH id)→hh.get id≠none∧∃o,(n+16*b+c,some id,o)∈cx bs hh is is' n x
 |[],b,n,is,is',x,bk,bi,ty,cs,_,_,h,_,_,_,_=>by simp at h
 |b0::r,b,n,[],is',x,bk,bi,ty,cs,hd,_,_,_,_,_,_=>by cases hd
 |b0::r,b,n,i::is,[],x,bk,bi,ty,cs,_,hl,_,_,_,_,_=>by simp at hl
 |b0::r,0,n,i::is,i'::is',x,bk,bi,ty,cs,hd,hl,h1,h2,h3,h4,h5=>by
  obtain⟨g0,g3⟩:=fm hd
  simp only[List.getElem?_cons_zero,Option.some.injEq]at h1 h2
  subst h1;subst h2
  cases b0 with
  |own ok=>simp[BK.dt,fU]at h4
  |box ty0 c0 =>
   obtain⟨cs',g1,g2⟩:=rU g0
   rw[g1]at h3
   cases h3
   obtain⟨h6,o,h7⟩:=wJ c0 c n cs x.1 g2 h4 h5
   refine⟨h6,o,?_⟩
   simp only[cx,dP]
   rw[pj g1]
   exact List.mem_append_left _ (List.mem_cons_of_mem _ (by simpa using h7))
 |b0::r,b+1,n,i::is,i'::is',x,bk,bi,ty,cs,hd,hl,h1,h2,h3,h4,h5=>by
  obtain⟨_,g3⟩:=fm hd
  obtain⟨h6,o,h7⟩:=AR r b (n+16) is is' x.2 bk bi ty cs g3 (by simpa using hl) (by simpa using h1) (by simpa using h2) h3 h4 h5
  refine⟨h6,o,?_⟩
  rw[show n+16*(b+1)+c=n+16+16*b+c by omega]
  simp only[cx]
  exact List.mem_append_right _ h7
theorem AS{c:List CK}{cs:List AV}{id s off:Nat}{a:Nat×Nat×Nat}(h:xQ c cs id s off a=true):cs[mI c a.1]? = some (.bH id)∧s=a.2.1∧off=a.2.2∧fU c a.1=true:=by
 simp only[xQ,Bool.and_eq_true,decide_eq_true_eq]at h
 obtain⟨h1,h2,h3,h4⟩:=h
 refine⟨?_,h2,h3,h4⟩
 unfold O7 at h1
 split at h1
 ·rename_i e;rw[e];simp only[beq_iff_eq]at h1;rw[h1]
 ·cases h1
theorem M4{bs:List BK}{hh:Heap}{ids:List Nat}{b:Nat}{alts:List (Nat×Nat×Nat)}{v:AV}{x:Option (Fin alts.length×Nat)}(hd:ni bs hh ids b alts v=some x):(v=.kX∧x=none) ∨
  ∃id i a bi bk ty cs,v=.ref id (alts.get a).2.1 i (alts.get a).2.2∧x=some (a,i)∧ids[b]? = some bi∧bs[b]? = some bk∧hh.get bi=some (.box ty cs)∧cs[mI bk.dt (alts.get a).1]? = some (.bH id)∧fU bk.dt (alts.get a).1=true:=by
 unfold ni at hd
 split at hd
 ·cases hd;exact .inl ⟨rfl,rfl⟩
 ·rename_i id s i off
  split at hd
  ·rename_i bi bk h1 h2
   split at hd
   ·rename_i ty cs h3
    split at hd
    ·rename_i a h4
     cases hd
     have h4':xQ bk.dt cs id s off (alts.get a)=true:=by simpa using List.find?_some (p:=fun a=>xQ bk.dt cs id s off (alts.get a)) h4
     obtain⟨h5,rfl,rfl,h6⟩:=AS h4'
     exact .inr ⟨id,i,a,bi,bk,ty,cs,rfl,rfl,h1,h2,h3,h5,h6⟩
    ·cases hd
   ·cases hd
  ·cases hd
 ·cases hd
theorem rY{bs:List BK}{hh:Heap}{ids is' ids2:List Nat}{nb:Nat}{yb:wg bs}(g:Good Z ψ hh.get w B0 O)(hz:∀b,Z b→Z' b)(hb:c7 bs hh ids=some yb)(hl:is'.length=bs.length)
  (PB:∀e∈cx bs hh ids is' nb yb,h' e.1≠none→ψ' e.1=jP ψ e.2.1):∀(rs:List RK) (vs:List AV) (m:Nat) (x:lG rs) (us:List Value),bJ bs rs hh ids vs=some x →
  (∀id b,AV.bH id∈fX rs vs→hh.get id≠none→ob (ψ id)=some b→Z' b)→(∀e∈cE rs vs m x,h' e.1≠none→ψ' e.1=jP ψ e.2.1)→an Z ψ hh.get w vs us→an Z' ψ' h' w (aW rs ids2 nb m x) us
 |[],vs,m,x,us,hd,_,_,hr=>by
  have:=g8 [] vs x hd
  have hv:vs=[]:=List.eq_nil_of_length_eq_zero this
  subst hv
  simpa only[aW,an] using hr
 |.val k::r,vs,m,x,us,hd,hf,jg,hr=>by
  obtain⟨v,g6,rfl,h1,h2⟩:=po hd
  simp only[an]at hr
  obtain⟨u,iX,rfl,h3,h4⟩:=hr
  simp only[aW,an]
  simp only[fX]at hf
  exact⟨u,iX,rfl,rQ g hz (fun id b bO=>hf id b (List.mem_append_left _ bO)) h1 h3,rY g hz hb hl PB r g6 (m+1) x.2 iX h2 (fun id b bO=>hf id b (List.mem_append_right _ bO)) jg h4⟩
 |.own ok::r,vs,m,x,us,hd,hf,jg,hr=>by
  obtain⟨v,g6,rfl,h1,h2⟩:=pq hd
  simp only[an]at hr
  obtain⟨u,iX,rfl,h3,h4⟩:=hr
  simp only[aW,an]
  simp only[cE,List.headD_cons,List.tail_cons]at jg
  exact⟨u,iX,rfl,EY h1 h3 (fun hn=>jg _ List.mem_cons_self hn),rY g hz hb hl PB r g6 (m+1) x.2 iX h2 hf (fun e he=>jg e (List.mem_cons_of_mem _ he)) h4⟩
 |.eV b alts::r,vs,m,x,us,hd,hf,jg,hr=>by
  obtain⟨v,g6,rfl,h1,h2⟩:=mO hd
  simp only[an]at hr
  obtain⟨u,iX,rfl,h3,h4⟩:=hr
  simp only[aW,an]
  refine⟨u,iX,rfl,?_,rY g hz hb hl PB r g6 (m+1) x.2 iX h2 hf jg h4⟩
  rcases M4 h1 with⟨rfl,h5⟩|⟨id,i,al,bi,bk,ty,cs,rfl,h5,h6,h7,h8,h9,nq⟩
  ·have:x.1=none:=h5
   rw[this]
   simpa only[uA,az] using h3
  ·have:x.1=some (al,i):=h5
   rw[this]
   obtain⟨yV,o,Jk⟩:=AR bs b nb ids is' yb bk bi ty cs hb hl h7 h6 h8 nq h9
   simp only[uA,az]at h3 ⊢
   obtain⟨ad,TD,VS⟩:=h3
   refine⟨ad,TD,fun hn=>?_⟩
   rw[PB _ Jk hn,VS yV];rfl
 |.agg c::r,vs,m,x,us,hd,hf,jg,hr=>by
  obtain⟨cs,g6,rfl,h1,h2⟩:=pw hd
  simp only[an]at hr
  obtain⟨u,iX,rfl,h3,h4⟩:=hr
  simp only[aW,an]
  simp only[fX,AV.cells]at hf
  simp only[cE,List.headD_cons,List.tail_cons,AV.cells]at jg
  refine⟨u,iX,rfl,?_,rY g hz hb hl PB r g6 (m+1) x.2 iX h2 (fun id b bO=>hf id b (List.mem_append_right _ bO)) (fun e he=>jg e (List.mem_append_right _ he)) h4⟩
  simp only[az]at h3 ⊢
  obtain⟨ws,rfl,h5⟩:=h3
  exact⟨ws,rfl,rT g hz c m cs x.1 _ h1 (fun id b bO=>hf id b (List.mem_append_left _ bO)) (fun e he=>jg e (List.mem_append_left _ he)) h5⟩
end Go.Vs
