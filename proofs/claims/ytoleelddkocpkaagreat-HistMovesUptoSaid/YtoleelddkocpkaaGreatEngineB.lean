/- The value semantics is sound -/
import Derived.Test.YtoleelddkocpkaaGreatEngineA
import Derived.Laws.StructEq
import Derived.Laws.Slices
import Derived.Laws.Strings
import Derived.MapKept
import Derived.Lib.AppendStr
import Derived.Laws.BytesString
set_option linter.unusedSimpArgs false
set_option linter.unusedVariables false
namespace Go.Vs
variable {P:Program} {Z Z':Nat→Prop} {ψ ψ':Nat→Value} {h h':Hp} {w w':World} {B0:Nat} {O:Nat→Prop} {N:Nat→Prop}
def bE.hp(h:Hp):bE→Hp
 |.val _=>h
 |.new _ os=>fun i=>match Heap.get os i with
  |some o=>some o
  |none=>h i
 |.wr _ h'=>h'.get
theorem gQ(id:Nat)(o:Ob)(h:Hp):(fun i=>match Heap.get [(id,o)] i with|some o=>some o|none=>h i)=dV h id (some o):=by
 funext i;simp only[Heap.get,dV]
 grind
theorem kU(hh:Heap)(id:Nat)(o:Ob):(hh.set id o).get=dV hh.get id (some o):=by
 grind [id,Heap.wK,bf,Heap.Cj,dx]
theorem tH(hh:Heap)(id:Nat):(hh.del id).get=dV hh.get id none:=by
 grind [id,Heap.gZ,bf,Heap.jl,dx]
theorem Cv(hh:Heap)(id:Nat)(o:Ob):Heap.get ((id,o)::hh)=dV hh.get id (some o):=by
 funext i;simp only[Heap.get,dV]
 grind
def ij(P:Program)(ρC:Operand→Value)(o:Oper)(Z:Nat→Prop)(ψ:Nat→Value)(h:Hp)(w:World)(B0:Nat)(O N:Nat→Prop)(e:bE):Prop :=∃V w' Z' ψ',((execOp ρC o).run P w=.ok (.value V) w'∨((execOp ρC o).run P w=.ok .skip w'∧V=undef))∧Next Z ψ h w B0 O N Z' ψ' (e.hp h) w'∧az Z' ψ' (e.hp h) w' e.v V
theorem ij.val{ρC:Operand→Value}{o:Oper}{x:AV}(g:Good Z ψ h w B0 O){V:Value}(hr:(execOp ρC o).run P w=.ok (.value V) w)(hx:az Z ψ h w x V):ij P ρC o Z ψ h w B0 O N (.val x) :=⟨V,w,Z,ψ,.inl hr,Next.refl g,hx⟩
theorem S8{ty:TypeId}{k:K}{xs:List k.T}{id n:Nat}{x:k.T}(g:Good Z ψ h w B0 O)(hg:h id=some (.own (.row ty k) xs))(hx:xs[n]? = some x) :
  ∃gg us,XP (ψ id)=gg∧aI Z w k x us∧∀(j:Nat) u,us[j]? = some u→w.cell? ⟨gg,n*k.sz+j,none⟩=some u:=by
 obtain⟨vs,ho,hv⟩:=g.row id (.row ty k) xs hg;have hn:n<xs.length:=(abu.1 hx).1;obtain⟨hl,e⟩:=ho;rcases e with⟨h0,_⟩|⟨gg,cap,cur,e1,_,e3,_,_,_,e7⟩
 ·omega
 ·refine⟨gg,_,by rw[e1];rfl,hv n x hx,fun j u hu=>?_⟩;rw[List.getElem?_take]at hu
  split at hu
  ·rw[List.getElem?_drop,←e7,List.getElem?_take]at hu
   split at hu
   ·simp only[World.cell?,e3];simpa using hu
   ·cases hu
  ·cases hu
theorem vH{hh:Heap}(g:Good Z ψ h w B0 O)(bu:∀id o,hh.get id=some o→h id=some o){t:TypeId}{a:AV}{v:Value}{e:bE}(hv:az Z ψ h w a v)(he:mE P hh t a some=some e) :
  ∃x V,e=.val x∧(Instr.loadAt t v).run P w=.ok V w∧az Z ψ h w x V:=by
 unfold mE at he
 split at he
 ·rename_i id s i off;simp only[az]at hv;obtain⟨a,rfl,ha⟩:=hv
  split at he
  ·rename_i ty cs hg;have yv:=bu _ _ hg;have Jy:=ha (by rw[yv];simp);obtain⟨gg,vs,e1,e2,e3,e4⟩:=g.box id ty cs yv
   split at he
   ·rename_i hi;subst hi
    split at he
    ·rename_i x hx
     cases he
     rw[e1]at Jy;simp only[XP,Nat.zero_mul,Nat.zero_add]at Jy;subst Jy;obtain⟨V,h1,h2⟩:=ky (a:=⟨gg,off,none⟩) (e3.drop off) (fun j u hu=>by rw[cE];simp only[World.cell?,e2];rw[List.getElem?_drop]at hu;simpa using hu) hx;exact⟨x,V,rfl,h1,h2⟩
    ·cases he
   ·cases he
  ·rename_i ty kk xs hg;have yv:=bu _ _ hg;have Jy:=ha (by rw[yv];simp)
   split at he
   ·rename_i hs;subst hs;obtain⟨x,hx,he⟩:=ada.1 he
    split at he
    ·rename_i y hy
     cases he
     obtain⟨gg,us,h1,h2,h3⟩:=S8 g yv hx;rw[h1]at Jy;subst Jy;obtain⟨V,h4,h5⟩:=ky (a:=⟨gg,i*kk.sz+off,none⟩) ((gY (ψ:=ψ) (h:=h) h2).drop off) (fun j u hu=>by rw[cE,Nat.add_assoc];exact h3 _ _ (by rw[List.getElem?_drop]at hu;exact hu)) hy;exact⟨y,V,rfl,h4,h5⟩
    ·cases he
   ·cases he
  ·cases he
 ·rename_i kk x off
  split at he
  ·rename_i y hy
   cases he
   simp only[az]at hv;obtain⟨a,us,rfl,_,h2,h3⟩:=hv;obtain⟨V,h4,h5⟩:=ky ((gY (ψ:=ψ) (h:=h) h2).drop off) (fun j u hu=>h3 j u (by rw[List.getElem?_drop]at hu;exact hu)) hy;exact⟨y,V,rfl,h4,h5⟩
  ·cases he
 ·cases he
theorem gi{t e:TypeId}(he:r8 P t=some e):P.underlying t=some (.slice e):=by
 grind [r8]
theorem oG{t e:TypeId}(ht:P.underlying t=some (.slice e)){i:TypeInfo}(hi:P.info? e=some i)(a:Addr)(n c:Nat)(k:IntKind)(j:Int)(h0:0≤j)(h1:j<n) :
  (Instr.indexAt t (.slice (some a) n c) (.int k j)).run P w=.ok (.pointer (some (a.add (j.toNat*P.cellsOf e)))) w:=by
 simp[Instr.indexAt,asIntOf,run_underlying ht,h0,h1,dJ hi]
theorem Qn{α:Type}{xs:List α}{i:Int}{x:α}(hx:aS xs i=some x):0≤i∧i<xs.length∧xs[i.toNat]? = some x:=by
 grind [aS,List.getElem?_eq_some_iff]
theorem rv{hh:Heap}(g:Good Z ψ h w B0 O)(bu:∀id o,hh.get id=some o→h id=some o){t:TypeId}{x i:AV}{v u:Value}{e:bE}(hv:az Z ψ h w x v)(hu:az Z ψ h w i u)(he:dI P hh t x i some=some e) :
  ∃y V,e=.val y∧(Instr.indexAt t v u).run P w=.ok V w∧az Z ψ h w y V:=by
 unfold dI at he
 split at he
 ·cases he
 ·rename_i et het;have ht:=gi het
  ·skip
   split at he
   ·rename_i ex Oa xs ik n;simp only[az]at hv hu;subst hu
    split at he
    ·rename_i hs;obtain⟨y,hy,he⟩:=ada.1 he
     cases he
     obtain⟨h0,h1,h2⟩:=Qn hy;obtain⟨hk,_⟩:=hv;simp only[aI]at hk;obtain⟨v',BB,A,c,rfl,_,_,wA⟩:=hk
     cases BB
     obtain⟨a,us,rfl,hz,hr,hc⟩:=wA _ _ h2;have hi:∃i,P.info? et=some i:=by
      cases hi:P.info? et with
      |some i=>exact⟨i,rfl⟩
      |none=>exfalso;have:=Oa.gO;simp[Program.cellsOf,hi]at hs;omega
     obtain⟨inf,hi⟩:=hi;refine⟨_,_,rfl,oG ht hi a xs.length c ik n h0 h1,?_⟩;simp only[az];refine⟨_,us,rfl,by rw[fM];exact hz,hr,fun j u hu=>?_⟩;rw[wJ,hs];exact hc j u (by simpa using hu)
    ·cases he
   ·rename_i id ik n
    split at he
    ·rename_i ty Oa xs hg;have yv:=bu _ _ hg
     split at he
     ·rename_i hs
      cases Ct:(decide (0≤n)&&decide (n<(xs.length:Int))) with
      |false=>rw[Ct]at he;cases he
      |true =>
       rw[Ct]at he
       cases he
       simp only[Bool.and_eq_true,decide_eq_true_eq]at Ct;simp only[az]at hv hu;subst hu;have hvv:=hv.2 (by rw[yv];simp);obtain⟨vs,⟨_,e⟩,_⟩:=g.row id (.row ty Oa) xs yv;rcases e with⟨h0,_⟩|⟨gg,cap,cur,e1,_,e3,_⟩
       ·omega
       ·have hi:∃i,P.info? et=some i:=by
         cases hi:P.info? et with
         |some i=>exact⟨i,rfl⟩
         |none=>exfalso;have:=Oa.gO;simp[Program.cellsOf,hi]at hs;omega
        obtain⟨inf,hi⟩:=hi;rw[hvv,e1];refine⟨_,_,rfl,oG ht hi _ xs.length cap ik n Ct.1 Ct.2,?_⟩;simp only[az];refine⟨_,rfl,fun _=>?_⟩;rw[e1,hs,cE];simp[XP]
     ·cases he
    ·cases he
   ·cases he
theorem u6{t:TypeId}(h:P.cellsOf t≠0):∃i,P.info? t=some i:=by
 cases hi:P.info? t with
 |some i=>simp_all
 |none=>grind [absurd,Program.cellsOf]
theorem u7{t:TypeId}{f n:Nat}{ft:TypeId}(hf:iq P t f=some (n,ft))(hc:P.cellsOf ft≠0)(a:Addr) :
  (Instr.fieldAt t (.pointer (some a)) f).run P w=.ok (.pointer (some (a.add n))) w:=by
 unfold iq at hf
 split at hf
 ·rename_i fs ht;obtain⟨fd,hfd,he⟩:=ac9.1 hf
  cases he
  obtain⟨i,hi⟩:=u6 hc;simp_all [dJ,Instr.fieldAt,Sem.run_bind,run_underlying,Result.andThen_ok,Instr.sureAddr,Sem.run_pure,fieldPlace,if_neg]
 ·cases hf
theorem u9{t:TypeId}{f n:Nat}{ft:TypeId}(hf:iq P t f=some (n,ft))(hc:P.cellsOf ft≠0){id s i off:Nat}{v:Value}(hv:az Z ψ h w (.ref id s i off) v) :
  ∃V,(Instr.fieldAt t v f).run P w=.ok V w∧az Z ψ h w (.ref id s i (off+n)) V:=by
 simp only[az]at hv ⊢;obtain⟨a,rfl,ha⟩:=hv;refine⟨_,u7 hf hc a,_,rfl,fun bL=>?_⟩;rw[ha bL,cE,Nat.add_assoc]
theorem wR{t:TypeId}{f n:Nat}{ft:TypeId}(hf:iq P t f=some (n,ft))(hc:P.cellsOf ft≠0){k:K}{x:k.T}{off:Nat}{v:Value}(hv:az Z ψ h w (.fp k x off) v) :
  ∃V,(Instr.fieldAt t v f).run P w=.ok V w∧az Z ψ h w (.fp k x (off+n)) V:=by
 simp only[az]at hv ⊢;obtain⟨a,us,rfl,hz,hr,ZA⟩:=hv;refine⟨_,u7 hf hc a,_,us,rfl,by grind [fM],hr,fun j u hu=>?_⟩
 grind [wJ,Nat.add_assoc]
theorem JE{t ft:TypeId}{f n:Nat}(hf:iq P t f=some (n,ft)){cs:List AV}{x:AV}{v:Value}(hv:az Z ψ h w (.agg cs) v)(hx:eJ P ft (cs.drop n)=some x) :
  ∃V,(Instr.field t v f).run P w=.ok V w∧az Z ψ h w x V:=by
 simp only[az]at hv;obtain⟨vs,rfl,hl⟩:=hv;have hd:=hl.drop n;have hlen:=hd.length;unfold iq at hf
 split at hf
 ·rename_i fs ht;obtain⟨fd,hfd,he⟩:=ac9.1 hf
  cases he
  unfold eJ at hx
  split at hx
  ·rename_i hb
   split at hx
   ·rename_i hle
    cases hx
    obtain⟨i,hi⟩:=Aj hb;refine⟨.agg (vs.extract fd.offset (fd.offset+P.cellsOf fd.type)),?_,?_⟩
    ·simp_all [Instr.field,run_underlying,asAgg,part,gP,dJ]
    ·simp only[az];refine⟨_,rfl,?_⟩;rw[Array.toList_extract,List.extract_eq_take_drop,Nat.add_sub_cancel_left];exact hd.take _
   ·cases hx
  ·rename_i hb
   split at hx
   ·rename_i c r hcr
    cases hx
    rw[hcr]at hd;simp only[au]at hd;obtain⟨u,us,hu,h1,_⟩:=hd;refine⟨u,?_,h1⟩;have hg:vs[fd.offset]? = some u:=by
     have:(vs.toList.drop fd.offset)[0]? = some u:=by rw[hu];rfl
     grind
    simp_all [Instr.field,run_underlying,asAgg,part,gP]
   ·cases hx
  ·cases hx
 ·cases hf
theorem Qo{hh:Heap}(g:Good Z ψ h w B0 O)(bu:∀id o,hh.get id=some o→h id=some o){x:AV}{v:Value}{e:bE}(hv:az Z ψ h w x v)(he:F5 hh x some=some e) :
  ∃n:Nat,e=.val (.int .i64 (n:Int))∧((∃s,x=.str s∧v=.string s∧n=s.size)∨∃A c,v=.slice A n c):=by
 unfold F5 at he
 split at he
 ·rename_i s hs
  cases he
  have hx:x=.str s:=by
   cases x with
   |bK id=>simp only[cY]at hs;split at hs<;>cases hs
   |str s'=>simp only[cY]at hs;exact hs
   |_=>simp only[cY]at hs<;>cases hs
  subst hx;simp only[az]at hv;exact⟨_,rfl,.inl ⟨s,rfl,hv,rfl⟩⟩
 ·rename_i ex k xs hs
  cases he
  have Ta:=F8 (Z':=fun b=>Z b∨Own ψ h b) (g.sub bu) (fun b hb=>.inl hb) (fun id b _ bz hb=>.inr (by obtain⟨o,ho⟩:=abK.1 bz;exact⟨id,by rw[bu id o ho];simp,hb⟩)) (hv.oF bu);rw[hs]at Ta;simp only[az,aI]at Ta;obtain⟨⟨v',BB,A,c,rfl,_⟩,_⟩:=Ta
  cases BB
  exact⟨_,rfl,.inr ⟨A,c,rfl⟩⟩
 ·rename_i hs
  cases he
  have hx:x=.fW:=by
   cases x with
   |bK id=>simp only[cY]at hs;split at hs<;>cases hs
   |fW=>rfl
   |_=>simp only[cY]at hs<;>cases hs
  subst hx;simp only[az]at hv;exact⟨0,rfl,.inr ⟨_,_,hv⟩⟩
 ·cases he
def eV(Z:Nat→Prop)(ψ:Nat→Value)(h:Hp)(w:World):Option AV→Option Value→Prop
 |none,none=>True
 |some a,some v=>az Z ψ h w a v
 |_,_=>False
theorem cm(k:IntKind)(i:Int)(y:Nat)(code:BoundsCode)(h0:0≤i)(h1:i≤y):(Instr.sliceBound (.int k i) y code).run P w=.ok i.toNat w:=by simp[Instr.sliceBound,asIntOf,h0,h1]
theorem vI{b:Bool}{n c:Nat}(hc:n≤c){lo hi mx:Option AV}{Oi yu mx':Option Value}{l u:Int}(h1:eV Z ψ h w lo Oi)(h2:eV Z ψ h w hi yu)(h3:eV Z ψ h w mx mx') (hb:oU n lo hi=some (l,u)) (ho:aB n l u=true) (hm:mx=none∨(mx=some (.int .i64 u)∧hi≠none)) :
  (Instr.sliceBounds b n c Oi yu mx').run P w=.ok (l.toNat,u.toNat,if mx=none then c else u.toNat) w:=by
 simp only[aB,Bool.and_eq_true,decide_eq_true_eq]at ho;obtain⟨h4,h5,h6⟩:=ho;have huc:u≤(c:Int):=by omega
 unfold oU at hb;rcases hm with rfl|⟨rfl,bz⟩
 ·cases mx' with
  |some _=>exact h3.elim
  |none =>
   split at hb
   all_goals first|(cases hb;done)|skip
   ·cases hb
    cases Oi with
    |some _=>exact h1.elim
    |none =>
     cases yu with
     |some _=>exact h2.elim
     |none=>simp[Instr.sliceBounds]
   ·cases hb
    cases Oi with
    |none=>exact h1.elim
    |some v =>
     simp only[eV,az]at h1;subst h1
     cases yu with
     |some _=>exact h2.elim
     |none=>simp[Instr.sliceBounds,cm .i64 l n _ h4 h5]
   ·cases hb
    cases Oi with
    |some _=>exact h1.elim
    |none =>
     cases yu with
     |none=>exact h2.elim
     |some v =>
      simp only[eV,az]at h2;subst h2
      cases b<;>simp[Instr.sliceBounds,cm .i64 u c _ (by omega) huc]
   ·cases hb
    cases Oi with
    |none=>exact h1.elim
    |some v =>
     simp only[eV,az]at h1;subst h1
     cases yu with
     |none=>exact h2.elim
     |some v =>
      simp only[eV,az]at h2;subst h2;have hx:l≤((u.toNat:Nat):Int):=by omega
      cases b<;>simp[Instr.sliceBounds,cm .i64 u c _ (by omega) huc,cm .i64 l u.toNat _ h4 hx]
 ·cases mx' with
  |none=>exact h3.elim
  |some m =>
   simp only[eV,az]at h3;subst h3;have huu:u≤((u.toNat:Nat):Int):=by omega
   have hx:l≤((u.toNat:Nat):Int):=by omega
   split at hb
   all_goals first|(cases hb;done)|skip
   ·exact absurd rfl bz
   ·exact absurd rfl bz
   ·cases hb
    cases Oi with
    |some _=>exact h1.elim
    |none =>
     cases yu with
     |none=>exact h2.elim
     |some v =>
      simp only[eV,az]at h2;subst h2
      cases b<;>simp[Instr.sliceBounds,cm .i64 u c _ (by omega) huc,cm .i64 u u.toNat _ (by omega) huu]
   ·cases hb
    cases Oi with
    |none=>exact h1.elim
    |some v =>
     simp only[eV,az]at h1;subst h1
     cases yu with
     |none=>exact h2.elim
     |some v =>
      simp only[eV,az]at h2;subst h2
      cases b<;>simp[Instr.sliceBounds,cm .i64 u c _ (by omega) huc,cm .i64 u u.toNat _ (by omega) huu,cm .i64 l u.toNat _ h4 hx]
theorem Cw{t e:TypeId}(ht:P.underlying t=some (.slice e)){kk:K}(iW:P.cellsOf e=kk.sz){xs:List kk.T}{v:Value}(hr:aI Z w (.sl kk) xs [v]){lo hi mx:Option AV}{Oi yu mx':Option Value}{l u:Int} (h1:eV Z' ψ h w lo Oi) (h2:eV Z' ψ h w hi yu) (h3:eV Z' ψ h w mx mx') (hb:oU xs.length lo hi=some (l,u)) (ho:aB xs.length l u=true) (hm:mx=none∨(mx=some (.int .i64 u)∧hi≠none)) :
  ∃V,(Instr.sliceAt t v Oi yu mx').run P w=.ok V w∧aI Z w (.sl kk) (cut xs l u) [V]∧(mx≠none→∃A c,V=.slice A c c):=by
 simp only[aI]at hr;obtain⟨v',BB,A,c,rfl,hl,hn,wA⟩:=hr
 cases BB
 have dg:=vI (P:=P) (w:=w) (b:=true) hl h1 h2 h3 hb ho hm;simp only[aB,Bool.and_eq_true,decide_eq_true_eq]at ho;obtain⟨h4,h5,h6⟩:=ho;obtain⟨i,hi⟩:=u6 (P:=P) (t:=e) (by have:=kk.gO;omega);generalize hmm:(if mx=none then c else u.toNat)=m at dg;have hmu:u.toNat≤m:=by
  grind
 have hmc:m≤c:=by
  grind
 have vF:(cut xs l u).length=u.toNat-l.toNat:=by
  grind [cut,List.length_drop,List.length_take]
 refine⟨.slice (if m=l.toNat then A else A.map (·.add (l.toNat*P.cellsOf e))) (u.toNat-l.toNat) (m-l.toNat),?_,?_,?_⟩
 ·simp[Instr.sliceAt,Instr.slice,run_underlying ht,dg,dJ hi]
 ·simp only[aI];refine⟨_,rfl,_,_,by rw[vF],by omega,fun hA=>?_,fun j x hx=>?_⟩
  ·split at hA
   ·omega
   simp_all
  ·have hj:j<u.toNat-l.toNat:=by grind
   have Tb:xs[l.toNat+j]? = some x:=by
    unfold cut at hx
    grind
   obtain⟨a,us,rfl,hz,hr,hc⟩:=wA _ _ Tb;refine⟨a.add (l.toNat*P.cellsOf e),us,by grind,by grind [fM],hr,fun q y hy=>?_⟩;simp_all [wJ,Nat.add_mul,Nat.add_assoc]
 ·intro bz;simp_all
theorem JF{hh:Heap}(g:Good Z ψ h w B0 O)(_:∀id o,hh.get id=some o→h id=some o){t e:TypeId}(ht:P.underlying t=some (.slice e)){x:AV}{v:Value}{lo hi mx:Option AV}{Oi yu mx':Option Value}{ef:bE} (hv:az Z ψ h w x v) (h1:eV Z ψ h w lo Oi) (h2:eV Z ψ h w hi yu) (h3:eV Z ψ h w mx mx') (mK:∀y hw,ef=.wr y hw→hh.get=h) (he:ql hh (P.cellsOf e) x lo hi mx some=some ef) (hse:(P.info? e).isSome=true) :
  ∃V Z',(Instr.sliceAt t v Oi yu mx').run P w=.ok V w∧Next Z ψ h w B0 O N Z' ψ (ef.hp h) w∧az Z' ψ (ef.hp h) w ef.v V:=by
 unfold ql at he
 split at he
 ·
  simp only[az]at hv;subst hv
  split at he
  ·rename_i l u hb
   cases ho:aB 0 l u with
   |false=>simp_all
   |true =>
    rw[ho]at he
    cases he
    have dg:=vI (P:=P) (w:=w) (b:=true) (acb 0) h1 h2 h3 hb ho (.inl rfl);simp only[aB,Bool.and_eq_true,decide_eq_true_eq]at ho;have hl0:l.toNat=0:=by omega
    have hu0:u.toNat=0:=by omega
    obtain⟨i,hi⟩:=acn.1 hse;refine⟨.slice none 0 0,Z,?_,Next.refl g,by rfl⟩;rw[hl0,hu0]at dg;simp[Instr.sliceAt,Instr.slice,run_underlying ht,dg,dJ hi]
  ·cases he
 ·
  rename_i ex kk xs;simp only[az]at hv
  split at he
  ·rename_i iW
   split at he
   ·rename_i l u hb
    split at he
    ·cases ho:aB xs.length l u with
     |false=>simp_all
     |true =>
      rw[ho]at he
      cases he
      obtain⟨V,h4,h5,_⟩:=Cw (P:=P) ht iW hv.1 h1 h2 h3 hb ho (.inl rfl);exact⟨V,Z,h4,Next.refl g,by grind [bE.v,bE.hp,az]⟩
    ·rename_i m
     cases ho:(aB xs.length l u&&(hi.isSome&&decide (m=u))) with
     |false=>simp_all
     |true =>
      rw[ho]at he
      cases he
      simp only[Bool.and_eq_true,decide_eq_true_eq]at ho;obtain⟨ho,hhi,rfl⟩:=ho;obtain⟨V,h4,h5,h6⟩:=Cw (P:=P) ht iW hv.1 h1 h2 h3 hb ho (.inr ⟨rfl,by grind⟩);exact⟨V,Z,h4,Next.refl g,by grind [bE.v,bE.hp,az]⟩
    ·cases he
   ·cases he
  ·cases he
 ·cases he
def mL(P:Program)(t:TypeId)(k:K):Prop :=∀(Z:Nat→Prop) (w:World) (x y:k.T) (xs ys:Array Value),aI Z w k x xs.toList→aI Z w k y ys.toList →(Op.equal t (.agg xs) (.agg ys)).run P w=.ok (tp k x y) w∧(∀(op:BinOp) (a b:Operand),(eqGuard op t a b (.agg xs) (.agg ys)).run P w=.ok () w)∧∀e:Bool,(Instr.checkKey e 10000 t (.agg xs)).run P w=.ok () w
theorem yM(op:BinOp)(t:TypeId)(a b:Operand)(k k':IntKind)(x y:Int):(eqGuard op t a b (.int k x) (.int k' y)).run P w=.ok () w:=by simp_all [eqGuard]
theorem Qp(op:BinOp)(t:TypeId)(a b:Operand)(x y:ByteArray):(eqGuard op t a b (.string x) (.string y)).run P w=.ok () w:=by simp_all [eqGuard]
theorem MC(op:BinOp)(t:TypeId)(a b:Operand)(x y:Bool):(eqGuard op t a b (.bool x) (.bool y)).run P w=.ok () w:=by simp_all [eqGuard]
theorem Gd(op:BinOp)(t:TypeId)(a b:Operand)(x y:Option Addr):(eqGuard op t a b (.pointer x) (.pointer y)).run P w=.ok () w:=by simp_all [eqGuard]
def bY:AV→Value
 |.bool b=>.bool b
 |.int k n=>.int k n
 |.str s=>.string s
 |_=>undef
theorem kz(k:IntKind)(n:Int):az Z ψ h w (.int k n) (bY (.int k n)):=by rfl
theorem eW(b:Bool):az Z ψ h w (.bool b) (bY (.bool b)):=by rfl
theorem kV{t e:TypeId}(ht:P.underlying t=some (.pointer e))(a:Option Addr):(Op.equal t (.pointer a) (.pointer none)).run P w=.ok a.isNone w:=by
 have key:∀d,(Op.equalIn (d+1) t (.pointer a) (.pointer none)).run P w=.ok a.isNone w:=fun d=>by cases a<;>simp[Op.equalIn,run_underlying ht]
 exact key 9999
theorem Td{op:BinOp}{t:TypeId}{k:IntKind}{a b:Int}{v:AV}(hv:aa7 op k a b=some v):∃V,(binOp op t (.int k a) (.int k b)).run P w=.ok V w∧az Z ψ h w v V:=by
 cases op<;>simp only[aa7]at hv<;>cases hv<;>first
  |(refine⟨bY (.int _ _),?_,kz _ _⟩;simp[binOp,Op.intArith,Op.intCmp,bY];done)
  |(refine⟨bY (.bool _),?_,eW _⟩;simp[binOp,Op.intArith,Op.intCmp,bY];done)
  |(refine⟨bY (.int _ _),?_,kz _ _⟩;simp only[binOp,bY,ne_eq,not_true_eq_false,if_false];rfl)
theorem Qq{Eqs:TypeId→Option K}(EW:∀t k,Eqs t=some k→mL P t k){op:BinOp}{t:TypeId}{xo yo:Operand}{x y:AV}{u v:Value}{e:bE}(hu:az Z ψ h w x u)(hv:az Z ψ h w y v)(he:Ag P Eqs op t x y some=some e) :
  ∃r V,e=.val r∧((do eqGuard op t xo yo u v;binOp op t u v:Sem Value)).run P w=.ok V w∧az Z ψ h w r V:=by
 unfold Ag at he
 split at he
 ·rename_i k a k' b;simp only[az]at hu hv;subst hu;subst hv
  split at he
  ·cases hb:decide (b<0) with
   |true=>rw[hb]at he;cases he
   |false =>
    rw[hb]at he;cases he;have hb':¬b<0:=by simpa using hb
    exact⟨_,bY (.int _ _),rfl,by simp[yM,binOp,Op.shift,hb',bY,Bc],kz _ _⟩
  ·cases hb:decide (b<0) with
   |true=>rw[hb]at he;cases he
   |false =>
    rw[hb]at he;cases he;have hb':¬b<0:=by simpa using hb
    exact⟨_,bY (.int _ _),rfl,by simp[yM,binOp,Op.shift,hb',bY,ir],kz _ _⟩
  split at he
  ·rename_i hk;subst hk;simp only[Sem.run_bind,yM,Result.andThen_ok]
   split at he
   ·cases hb:(b==0) with
    |true=>rw[hb]at he;cases he
    |false =>
     rw[hb]at he;cases he;have hb':b≠0:=by simpa using hb
     exact⟨_,bY (.int _ _),rfl,by simp[binOp,Op.intDiv,hb',bY],kz _ _⟩
   ·cases hb:(b==0) with
    |true=>rw[hb]at he;cases he
    |false =>
     rw[hb]at he;cases he;have hb':b≠0:=by simpa using hb
     exact⟨_,bY (.int _ _),rfl,by simp[binOp,Op.intDiv,hb',bY],kz _ _⟩
   ·split at he
    ·rename_i v hv
     cases he
     obtain⟨V,h1,h2⟩:=Td (P:=P) (t:=t) (w:=w) (Z:=Z) (ψ:=ψ) (h:=h) hv;exact⟨_,V,rfl,h1,h2⟩
    ·cases he
  ·cases he
 ·rename_i a b;simp only[az]at hu hv;subst hu;subst hv;simp only[Sem.run_bind,Qp,Result.andThen_ok]
  cases op<;>simp only[adF]at he<;>first|(cases he;done)|(cases he;exact⟨_,bY (.bool _),rfl,by simp[binOp,Op.stringOp,←beq_toListBytes,bY],eW _⟩)
 ·rename_i a b;simp only[az]at hu hv;subst hu;subst hv;simp only[Sem.run_bind,MC,Result.andThen_ok];have key:(P.underlying t).map HH=some true→P.underlying t=some .bool:=fun hm=>by
   obtain⟨d,hd,he⟩:=ac9.1 hm
   cases d<;>simp[HH]at he
   exact hd
  split at he
  ·rename_i hm
   cases he
   exact⟨_,bY (.bool _),rfl,by simp[binOp,Op.equal,Op.maxDepth,run_equalIn_bool' (P:=P) w 9999 t a b (key hm),bY],eW _⟩
  ·rename_i hm
   cases he
   exact⟨_,bY (.bool _),rfl,by simp[binOp,Op.equal,Op.maxDepth,run_equalIn_bool' (P:=P) w 9999 t a b (key hm),bY],eW _⟩
  ·cases he
 ·rename_i a b
  split at he
  ·cases he
  ·rename_i k hk;simp only[az]at hu hv;obtain⟨xs,rfl,hx⟩:=hu;obtain⟨ys,rfl,hy⟩:=hv
   split at he
   ·rename_i x y hdx hdy
    cases he
    obtain⟨h1,h2,_⟩:=EW t k hk Z w x y xs ys (dw hdx hx) (dw hdy hy);exact⟨_,bY (.bool _),rfl,by simp only[Sem.run_bind,h2,Result.andThen_ok,binOp,h1,Sem.run_pure,bY],eW _⟩
   ·rename_i x y hdx hdy
    cases he
    obtain⟨h1,h2,_⟩:=EW t k hk Z w x y xs ys (dw hdx hx) (dw hdy hy);exact⟨_,bY (.bool _),rfl,by simp only[Sem.run_bind,h2,Result.andThen_ok,binOp,h1,Sem.run_pure,bY],eW _⟩
   ·cases he
 ·simp only[az]at hu hv;subst hu;subst hv;have key:(P.underlying t).map yE=some true→∃e,P.underlying t=some (.pointer e):=fun hm=>by
   obtain⟨d,hd,he⟩:=ac9.1 hm
   cases d<;>simp[yE]at he
   exact⟨_,hd⟩
  simp only[Sem.run_bind,Gd,Result.andThen_ok]
  split at he
  ·rename_i hm
   cases he
   obtain⟨et,ht⟩:=key hm;exact⟨_,bY (.bool _),rfl,by simp only[binOp,Sem.run_bind,kV ht,Result.andThen_ok,Sem.run_pure,bY,Option.isNone_none,Option.isNone_some,Bool.not_true,Bool.not_false],eW _⟩
  ·rename_i hm
   cases he
   obtain⟨et,ht⟩:=key hm;exact⟨_,bY (.bool _),rfl,by simp only[binOp,Sem.run_bind,kV ht,Result.andThen_ok,Sem.run_pure,bY,Option.isNone_none,Option.isNone_some,Bool.not_true,Bool.not_false],eW _⟩
  ·cases he
 ·simp only[az]at hu hv;obtain⟨a,rfl,_⟩:=hu;subst hv;have key:(P.underlying t).map yE=some true→∃e,P.underlying t=some (.pointer e):=fun hm=>by
   obtain⟨d,hd,he⟩:=ac9.1 hm
   cases d<;>simp[yE]at he
   exact⟨_,hd⟩
  simp only[Sem.run_bind,Gd,Result.andThen_ok]
  split at he
  ·rename_i hm
   cases he
   obtain⟨et,ht⟩:=key hm;exact⟨_,bY (.bool _),rfl,by simp only[binOp,Sem.run_bind,kV ht,Result.andThen_ok,Sem.run_pure,bY,Option.isNone_none,Option.isNone_some,Bool.not_true,Bool.not_false],eW _⟩
  ·rename_i hm
   cases he
   obtain⟨et,ht⟩:=key hm;exact⟨_,bY (.bool _),rfl,by simp only[binOp,Sem.run_bind,kV ht,Result.andThen_ok,Sem.run_pure,bY,Option.isNone_none,Option.isNone_some,Bool.not_true,Bool.not_false],eW _⟩
  ·cases he
 ·cases he
theorem Qr{a:AV}{v:Value}(hp:yz a=true)(hr:az Z ψ h w a v):v.oneCell'=true:=by
 cases a with
 |no=>cases hp
 |agg cs=>cases hp
 |oz cs=>cases hp
 |bool b=>simp only[az]at hr;subst hr;rfl
 |int k n=>simp only[az]at hr;subst hr;rfl
 |str s=>simp only[az]at hr;subst hr;rfl
 |l8=>simp only[az]at hr;subst hr;rfl
 |fW=>simp only[az]at hr;subst hr;rfl
 |ref id s i off=>simp only[az]at hr;obtain⟨a,rfl,_⟩:=hr;rfl
 |fp k x off=>simp only[az]at hr;obtain⟨a,us,rfl,_⟩:=hr;rfl
 |sl ex k xs=>simp only[az,aI]at hr;obtain⟨⟨v',hv,A,c,rfl,_⟩,_⟩:=hr;cases hv;rfl
 |bK id=>grind [az]
 |mp kk vk es=>simp only[az,aI]at hr;obtain⟨A,hv,_⟩:=hr;cases hv;rfl
 |fn f cap=>simp only[az]at hr;obtain⟨vs,rfl,_⟩:=hr;rfl
theorem vJ:∀{cs:List AV} {vs:List Value},cs.all yz=true→au Z ψ h w cs vs→∀u∈vs,u.oneCell'=true
 |[],_,_,hr,u,hu=>by simp only[au]at hr;subst hr;simp at hu
 |c::r,_,hp,hr,u,hu=>by
  simp only[List.all_cons,Bool.and_eq_true]at hp;simp only[au]at hr;obtain⟨v,us,rfl,h1,h2⟩:=hr;rcases abz.1 hu with rfl|hu
  ·exact Qr hp.1 h1
  ·exact vJ hp.2 h2 u hu
theorem JG{a:AV}(hp:a.cells.all yz=true):a≠.no:=by rintro rfl;simp[AV.cells,yz]at hp
theorem tI{id:Nat}:∀{cs:List AV},Mp id cs=true→AV.bK id∉cs
 |[],_=>by simp
 |c::r,hn=>by
  intro hm
  cases c with
  |bK i =>
   simp only[Mp,Bool.and_eq_true,Bool.not_eq_true',beq_eq_false_iff_ne]at hn;rcases abz.1 hm with e|hm
   ·cases e;exact hn.1 rfl
   ·exact tI hn.2 hm
  |_ =>
   simp only[Mp]at hn;rcases abz.1 hm with e|hm
   ·cases e
   ·exact tI hn hm
theorem Ap{hh:Heap}(g:Good Z ψ hh.get w B0 O){t:TypeId}{a x:AV}{u v:Value}{e:bE}(hu:az Z ψ hh.get w a u)(hv:az Z ψ hh.get w x v)(he:tv P hh t a x some=some e) :
  ∃hw w' Z',e=.wr .no hw∧(Instr.storeAt t u v).run P w=.ok () w'∧Next Z ψ hh.get w B0 O N Z' ψ hw.get w':=by
 unfold tv at he
 split at he
 ·rename_i hc;obtain⟨hlen,XU,qw⟩:=hc;obtain⟨inf,XU⟩:=acn.1 XU;have Sz:=hv.cells (JG qw);have HN:=vJ qw Sz;have vF:=Sz.length;simp only[Array.length_toList]at vF
  split at he
  ·rename_i id s i off;simp only[az]at hu;obtain⟨a,rfl,ha⟩:=hu
   split at he
   ·rename_i ty cs hg
    split at he
    ·rename_i hc;obtain⟨rfl,adN⟩:=hc
     cases he
     have Jy:=ha (by rw[hg];simp);obtain⟨w',h1,h2⟩:=Cm (P:=P) (N:=N) g hg XU Sz HN (by omega) adN (a:=a) (by rw[Jy];simp);exact⟨_,w',Z,rfl,h1,by grind [kU]⟩
    ·cases he
   ·rename_i ty kk xs hg;obtain⟨y,hx,Xp⟩:=ada.1 he;clear he
    split at Xp
    ·rename_i hc;obtain⟨rfl,adN,tG⟩:=hc
     split at Xp
     ·rename_i z hz
      cases Xp
      have Jy:=ha (by rw[hg];simp);have bL:=tI tG;have gd:=jm g x.cells;have hgd:(cM hh x.cells).get id=some (.own (.row ty kk) xs):=by grind [qu]
      have abk:=o6 (Z':=rX Z ψ hh.get x.cells) g (fun b hb=>.inl hb) (fun i b hm bz hb=>.inr ⟨i,hm,bz,hb⟩) Sz;obtain⟨w',h1,h2⟩:=Cn (P:=P) (N:=N) gd hgd XU hx (y:=z) (off:=off) (V:=v) (by omega) (by omega) (a:=a) Jy (fun us Mg=>by
       have h3:=(gY (ψ:=ψ) (h:=hh.get) Mg);have h4:=dw hz (abk.eF off h3)
       rwa [tF _ _ _ (by rw[Array.length_toList,Mg.len];omega),Array.length_toList]at h4) HN
      refine⟨_,w',rX Z ψ hh.get x.cells,rfl,h1,?_⟩;rw[show((stored hh x.cells).2.set id (.own (.row ty kk) (xs.set i z))).get=dV (cM hh x.cells).get id (some (.own (.row ty kk) (xs.set i z))) from kU _ _ _];exact h2.drop (fun b hb=>.inl hb) (fun b hb=>hb.imp (fun h=>h) (fun⟨i,_,h5,h6⟩=>⟨i,h5,h6⟩)) (eL _ _)
     ·cases Xp
    ·cases Xp
   ·cases he
  ·cases he
 ·cases he
theorem Te{a:AV}{v:Value}(ha:a.isAgg=true)(hr:az Z ψ h w a v):∃vs,v=.agg vs:=by
 cases a<;>simp[AV.isAgg]at ha
 simp only[az]at hr
 grind
theorem Ge{a:AV}{v:Value}(ha:a.isAgg=false)(tG:a≠.no)(hr:az Z ψ h w a v):v.cells=#[v]:=by
 cases a with
 |no=>simp_all
 |agg cs=>simp[AV.isAgg]at ha
 |bool b=>simp only[az]at hr;subst hr;rfl
 |int k n=>simp only[az]at hr;subst hr;rfl
 |str s=>simp only[az]at hr;subst hr;rfl
 |l8=>simp only[az]at hr;subst hr;rfl
 |fW=>simp only[az]at hr;subst hr;rfl
 |ref id s i off=>simp only[az]at hr;obtain⟨a,rfl,_⟩:=hr;rfl
 |fp k x off=>simp only[az]at hr;obtain⟨a,us,rfl,_⟩:=hr;rfl
 |sl ex k xs=>simp only[az,aI]at hr;obtain⟨⟨v',hv,A,c,rfl,_⟩,_⟩:=hr;cases hv;rfl
 |bK id=>grind [az]
 |mp kk vk es=>simp only[az,aI]at hr;obtain⟨A,hv,_⟩:=hr;cases hv;rfl
 |fn f cap=>simp only[az]at hr;obtain⟨vs,rfl,_⟩:=hr;rfl
 |oz cs=>simp only[az]at hr;obtain⟨vs,rfl,_⟩:=hr;rfl
theorem vK{hh:Heap}{k:K}{a:AV}{x:k.T}{v:Value}(g:Good Z ψ hh.get w B0 O)(hz:∀b,Z b→Z' b)(hb:∀id b,AV.bK id∈a.cells→hh.get id≠none→ob (ψ id)=some b→Z' b) (hx:hY k hh a=some x) (hr:az Z ψ hh.get w a v):aI Z' w k x v.cells.toList∧(k.isAgg=true→∃vs,v=.agg vs)∧(k.isAgg=false→v.cells=#[v]):=by
 unfold hY at hx
 split at hx
 ·rename_i hag;have tG:=Gc hx;have hv:=o6 g hz hb (hr.cells tG)
  grind [dw,Te,Ge]
 ·cases hx
theorem tJ{hh:Heap}{k:K}{a:AV}{x:k.T}{v:Value}(g:Good Z ψ hh.get w B0 O)(hz:∀b,Z b→Z' b)(hb:∀id b,AV.bK id∈a.cells→hh.get id≠none→ob (ψ id)=some b→Z' b) (hx:hY k hh a=some x) (hr:az Z ψ hh.get w a v):az Z' ψ' h' w (cc k x) v:=by
 grind [vK,mJ]
theorem aI.flat:∀{k:K} {x:k.T} {vs:List Value},k.flat=true→aI Z w k x vs→aI Z' w' k x vs
 |.int _,_,_,_,h=>h
 |.bool,_,_,_,h=>h
 |.str,_,_,_,h=>h
 |.sl k,_,_,hf,_=>by simp[K.flat]at hf
 |.pair a b,x,_,hf,h=>by simp only[K.flat,Bool.and_eq_true]at hf;simp only[aI]at h ⊢;obtain⟨us,ws,rfl,h1,h2⟩:=h;exact⟨us,ws,rfl,aI.flat hf.1 h1,aI.flat hf.2 h2⟩
 |.one k,x,_,hf,h=>by simp only[aI]at h ⊢;exact aI.flat (k:=k) (by simpa only[K.flat] using hf) h
theorem BC:∀(k:K) (x y:k.T),k.flat=true→(tp k x y=true↔x=y)
 |.int _,x,y,_=>by simp only[tp];exact beq_iff_eq (α:=Int)
 |.bool,x,y,_=>by simp only[tp];exact beq_iff_eq (α:=Bool)
 |.str,x,y,_=>by simp only[tp];exact MapKept.bytes_beq x y
 |.sl _,_,_,hf=>by simp[K.flat]at hf
 |.mp _ _,_,_,hf=>by simp[K.flat]at hf
 |.fn _,_,_,hf=>by simp[K.flat]at hf
 |.pair a b,x,y,hf=>by simp only[K.flat,Bool.and_eq_true]at hf;simp only[tp,Bool.and_eq_true];rw[BC a _ _ hf.1,BC b _ _ hf.2];exact⟨fun h=>Prod.ext h.1 h.2,fun h=>⟨congrArg Prod.fst h,congrArg Prod.snd h⟩⟩
 |.one k,x,y,hf=>by simp only[tp];exact BC k x y (by simpa only[K.flat] using hf)
theorem qx:∀{k:K} {x:k.T} {us vs:List Value},k.flat=true→aI Z w k x us→aI Z' w' k x vs→us=vs
 |.int _,_,_,_,_,h1,h2=>by simp only[aI]at h1 h2;rw[h1,h2]
 |.bool,_,_,_,_,h1,h2=>by simp only[aI]at h1 h2;rw[h1,h2]
 |.str,_,_,_,_,h1,h2=>by simp only[aI]at h1 h2;rw[h1,h2]
 |.sl _,_,_,_,hf,_,_=>by simp[K.flat]at hf
 |.mp _ _,_,_,_,hf,_,_=>by simp[K.flat]at hf
 |.fn _,_,_,_,hf,_,_=>by simp[K.flat]at hf
 |.pair a b,x,_,_,hf,h1,h2=>by simp only[K.flat,Bool.and_eq_true]at hf;simp only[aI]at h1 h2;obtain⟨a1,a2,rfl,h3,h4⟩:=h1;obtain⟨b1,b2,rfl,h5,h6⟩:=h2;rw[qx hf.1 h3 h5,qx hf.2 h4 h6]
 |.one k,x,_,_,hf,h1,h2=>by simp only[aI]at h1 h2;exact qx (k:=k) (by simpa only[K.flat] using hf) h1 h2
theorem tK:∀{k:K} {x:k.T} {us:List Value},k.flat=true→aI Z w k x us→∀u∈us,∀n,Instr.sameBits n u u=true
 |.int _,x,_,_,h1,u,hu,n=>by simp only[aI]at h1;subst h1;simp only[List.mem_singleton]at hu;subst hu;cases n<;>simp[Instr.sameBits]<;>exact beq_self_eq_true (α:=Int) x
 |.bool,x,_,_,h1,u,hu,n=>by simp only[aI]at h1;subst h1;simp only[List.mem_singleton]at hu;subst hu;cases n<;>simp[Instr.sameBits]<;>exact beq_self_eq_true (α:=Bool) x
 |.str,x,_,_,h1,u,hu,n=>by simp only[aI]at h1;subst h1;simp only[List.mem_singleton]at hu;subst hu;cases n<;>simp[Instr.sameBits]<;>exact(MapKept.bytes_beq x x).2 rfl
 |.sl _,_,_,hf,_,_,_,_=>by simp[K.flat]at hf
 |.mp _ _,_,_,hf,_,_,_,_=>by simp[K.flat]at hf
 |.fn _,_,_,hf,_,_,_,_=>by simp[K.flat]at hf
 |.pair a b,x,_,hf,h1,u,hu,n=>by
  simp only[K.flat,Bool.and_eq_true]at hf;simp only[aI]at h1;obtain⟨a1,a2,rfl,h3,h4⟩:=h1;rcases abX.1 hu with hu|hu
  ·exact tK hf.1 h3 u hu n
  ·exact tK hf.2 h4 u hu n
 |.one k,x,_,hf,h1,u,hu,n=>by simp only[aI]at h1;exact tK (k:=k) (by simpa only[K.flat] using hf) h1 u hu n
def Mh(b:Bool)(v:Value):Prop:=(b=true→∃vs,v=.agg vs)∧(b=false→v.cells=#[v])
theorem Qs{b:Bool}{u v:Value}(h1:Mh b u)(h2:Mh b v)(h:u.cells.toList=v.cells.toList):u=v:=by
 cases b with
 |true =>obtain⟨a,rfl⟩:=h1.1 rfl;obtain⟨c,rfl⟩:=h2.1 rfl;simp_all [Value.cells]
 |false =>rw[h1.2 rfl,h2.2 rfl]at h;simpa using h
theorem Tf{k:K}{x:k.T}{u:Value}(hf:k.flat=true)(hr:aI Z w k x u.cells.toList)(hs:Mh k.isAgg u):Instr.sameBits 10000 u u=true:=by
 have hb:=tK hf hr
 cases hk:k.isAgg with
 |false=>exact hb u (by rw[hs.2 hk];simp) _
 |true =>obtain⟨a,rfl⟩:=hs.1 hk;show Instr.sameBits (9999+1) (.agg a) (.agg a)=true;simp only[Instr.sameBits,beq_self_eq_true,Bool.true_and,List.all_eq_true];intro p hp;obtain⟨i,hi,he⟩:=List.mem_iff_getElem.1 hp;simp only[List.getElem_zip]at he;subst he;exact hb _ (ac8 (l:=(Value.agg a).cells.toList) (by simpa[Value.cells] using hi)) _
def Keys(Z:Nat→Prop)(w:World)(k:K)(ys:List k.T)(l:List MapEntry):Prop:=ys.length=l.length∧∀(i:Nat) y e,ys[i]? = some y→l[i]? = some e→aI Z w k y e.key.cells.toList∧Mh k.isAgg e.key
theorem Keys.tail{k:K}{y:k.T}{ys:List k.T}{e:MapEntry}{l:List MapEntry}(h:Keys Z w k (y::ys) (e::l)):Keys Z w k ys l:=⟨by simpa using h.1,fun i a b h1 h2=>h.2 (i+1) a b (by simpa using h1) (by simpa using h2)⟩
theorem JH{k:K}{x:k.T}{d:TypeDesc}{kv:Value}(hs:∀y Xq,aI Z w k y Xq.cells.toList→Mh k.isAgg Xq→Instr.sameNow d kv Xq=some (tp k x y)):∀(l:List MapEntry) (ys:List k.T) (i:Nat),Keys Z w k ys l → Instr.findNow d kv l i=some ((ys.findIdx? (tp k x)).map fun j=>(i+j,((l[j]?).map (·.val)).getD undef))
 |[],ys,i,h=>by have:ys=[]:=abN (by simpa using h.1);subst this;rfl
 |e::l,[],i,h=>by have:=h.1;simp at this
 |e::l,y::ys,i,h=>by
  obtain⟨h1,h2⟩:=h.2 0 y e rfl rfl;have ih:=JH hs l ys (i+1) h.tail;simp only[Instr.findNow,hs y _ h1 h2,List.findIdx?_cons]
  cases tp k x y with
  |true=>simp
  |false =>
   simp only[ih,Bool.false_eq_true,if_false]
   cases ys.findIdx? (tp k x) with
   |none=>rfl
   |some j=>simp;omega
theorem Aq{k:K}{x:k.T}{t:TypeId}{kv:Value}(hs:∀y Xq,aI Z w k y Xq.cells.toList→Mh k.isAgg Xq→(Op.equal t kv Xq).run P w=.ok (tp k x y) w):∀(l:List MapEntry) (ys:List k.T) (i:Nat),Keys Z w k ys l →(Instr.findAsking t kv l i).run P w=.ok ((ys.findIdx? (tp k x)).map fun j=>(i+j,((l[j]?).map (·.val)).getD undef)) w
 |[],ys,i,h=>by have:ys=[]:=abN (by simpa using h.1);subst this;rfl
 |e::l,[],i,h=>by have:=h.1;simp at this
 |e::l,y::ys,i,h=>by
  obtain⟨h1,h2⟩:=h.2 0 y e rfl rfl;have ih:=Aq hs l ys (i+1) h.tail;simp only[Instr.findAsking,Sem.run_bind,hs y _ h1 h2,Result.andThen_ok,List.findIdx?_cons]
  cases tp k x y with
  |true=>simp
  |false =>
   simp only[ih,Bool.false_eq_true,if_false]
   cases ys.findIdx? (tp k x) with
   |none=>rfl
   |some j=>simp;omega
structure Tg(P:Program)(t:TypeId)(k:K):Prop where
 flat:k.flat=true
 check:∀(Z:Nat→Prop) (w:World) (x:k.T) (kv:Value) (e:Bool),aI Z w k x kv.cells.toList→Mh k.isAgg kv→(Instr.checkKey e 10000 t kv).run P w=.ok () w
 find:∀(Z:Nat→Prop) (w:World) (x:k.T) (kv:Value) (l:List MapEntry) (ys:List k.T),aI Z w k x kv.cells.toList→Mh k.isAgg kv→Keys Z w k ys l →
  (Instr.findKey t kv l).run P w=.ok ((ys.findIdx? (tp k x)).map fun j=>(j,((l[j]?).map (·.val)).getD undef)) w
theorem qy{t:TypeId}{k:K}{d:TypeDesc}(hf:k.flat=true)(hk:k.isAgg=false)(hd:P.underlying t=some d)(hc:∀(Z:Nat→Prop) (w:World) (x:k.T) (kv:Value),aI Z w k x [kv]→MapKept.IsKey d kv) (hs:∀(Z:Nat→Prop) (w:World) (x y:k.T) (u v:Value),aI Z w k x [u]→aI Z w k y [v]→Instr.sameNow d u v=some (tp k x y)):Tg P t k:=by
 have one:∀{Z:Nat→Prop} {w:World} {x:k.T} {kv:Value},aI Z w k x kv.cells.toList→Mh k.isAgg kv→aI Z w k x [kv]:=fun {Z w x kv} h1 h2=>by rw[h2.2 hk]at h1;exact h1
 refine⟨hf,fun Z w x kv e h1 h2=>MapKept.run_checkKey hd (hc Z w x kv (one h1 h2)) e 9999,fun Z w x kv l ys h1 h2 h3=>?_⟩;have:=JH (Z:=Z) (w:=w) (x:=x) (d:=d) (kv:=kv) (fun y Xq h4 h5=>hs Z w x y kv Xq (one h1 h2) (one h4 h5)) l ys 0 h3;simp_all [Nat.zero_add,MapKept.run_findKey]
theorem JI(d:TypeDesc)(a:Array Value)(v:Value):Instr.sameNow d (.agg a) v=none:=by cases d<;>cases v<;>rfl
theorem yN{Eqs:TypeId→Option K}(EW:∀t k,Eqs t=some k→mL P t k){t:TypeId}{k:K}(hk:Od P Eqs t k=true):Tg P t k:=by
 unfold Od at hk;rw[Bool.and_eq_true]at hk;obtain⟨hf,hk⟩:=hk
 split at hk
 ·rename_i ik ik' hd;simp only[decide_eq_true_eq]at hk;subst hk;exact qy hf rfl hd (fun Z w x kv hr=>by grind [aI,MapKept.IsKey]) (fun Z w x y u v h1 h2=>by grind [aI,Instr.sameNow,tp])
 ·rename_i hd;exact qy hf rfl hd (fun Z w x kv hr=>by grind [aI,MapKept.IsKey]) (fun Z w x y u v h1 h2=>by grind [aI,Instr.sameNow,tp])
 ·rename_i hd;exact qy hf rfl hd (fun Z w x kv hr=>by grind [aI,MapKept.IsKey]) (fun Z w x y u v h1 h2=>by grind [aI,Instr.sameNow,tp])
 ·simp only[Bool.and_eq_true,decide_eq_true_eq]at hk;obtain⟨hag,hk⟩:=hk;have fact:=EW _ _ hk;have agg:∀{b:Bool} {u:Value},b=true→Mh b u→∃a,u=.agg a:=fun hb h=>h.1 hb;refine⟨hf,fun Z w x kv e h1 h2=>?_,fun Z w x kv l ys h1 h2 h3=>?_⟩
  ·obtain⟨a,rfl⟩:=agg hag h2;exact(fact Z w x x a a h1 h1).2.2 e
  ·obtain⟨a,rfl⟩:=agg hag h2;have h4:=Aq (P:=P) (t:=t) (Z:=Z) (w:=w) (x:=x) (kv:=.agg a) (fun y Xq h4 h5=>by obtain⟨b,rfl⟩:=agg hag h5;exact(fact Z w x y a b h1 h4).1) l ys 0 h3;simp only[Nat.zero_add]at h4
   cases l with
   |nil =>
    have:ys=[]:=abN (by simpa using h3.1);subst this
    cases hu:P.underlying t with
    |none =>have hc:=(fact Z w x x a a h1 h1).2.2 true;exfalso;unfold Instr.checkKey at hc;simp[underlying,hu]at hc
    |some d=>simp[Instr.findKey,run_underlying hu,Instr.findNow]
   |cons e l =>
    cases hu:P.underlying t with
    |none =>have hc:=(fact Z w x x a a h1 h1).2.2 true;exfalso;unfold Instr.checkKey at hc;simp[underlying,hu]at hc
    |some d=>simp_all [Instr.findKey,Sem.run_bind,run_underlying,Result.andThen_ok,Instr.findNow,JI]
section
variable {kk vk:K} {es:List (kk.T×vk.T)} {l:List MapEntry}
abbrev lg(Z:Nat→Prop)(w:World)(kk vk:K)(es:List (kk.T×vk.T))(l:List MapEntry):Prop:=HK (aI Z w kk) (aI Z w vk) kk.isAgg vk.isAgg es l
theorem lg.keys(h:lg Z w kk vk es l):Keys Z w kk (es.map (·.1)) l :=⟨by rw[List.length_map];exact h.1,fun i y e h1 h2=>by rw[List.getElem?_map]at h1;obtain⟨x,h3,rfl⟩:=ac9.1 h1;exact(h.2 i x e h3 h2).1⟩
theorem Cx{x:kk.T}:(es.map (·.1)).findIdx? (tp kk x)=r9 kk x es:=by unfold r9;rw[List.findIdx?_map];rfl
theorem HO{x:kk.T}{i:Nat}(h:r9 kk x es=some i):i<es.length:=by
 grind [r9,List.findIdx?_eq_some_iff_getElem]
theorem XV{x:kk.T}{i:Nat}(h:r9 kk x es=some i):∃e,es[i]? = some e∧tp kk x e.1=true:=by
 grind [r9,List.findIdx?_eq_some_iff_getElem,List.getElem?_eq_getElem]
def Th(Z:Nat→Prop)(w:World)(kk vk:K)(x:kk.T×vk.T)(e:MapEntry):Prop:=(aI Z w kk x.1 e.key.cells.toList∧Mh kk.isAgg e.key)∧aI Z w vk x.2 e.val.cells.toList∧Mh vk.isAgg e.val
theorem lg.set(h:lg Z w kk vk es l)(i:Nat){x:kk.T×vk.T}{f:MapEntry→MapEntry}(ho:∀e,l[i]? = some e→Th Z w kk vk x (f e)):lg Z w kk vk (es.set i x) (l.modify i f):=by
 refine⟨by simp[h.1],fun j y e h1 h2=>?_⟩;rw[List.getElem?_modify]at h2;obtain⟨e0,h3,h4⟩:=ac9.1 h2;by_cases Gf:i=j
 ·subst Gf;rw[if_pos rfl]at h4;have aO:i<es.length:=by grind
  rw[List.getElem?_set_self aO]at h1
  cases h1
  subst h4;exact ho e0 h3
 ·rw[if_neg Gf]at h4;rw[List.getElem?_set_ne Gf]at h1;subst h4;exact h.2 j y e0 h1 h3
theorem lg.push(h:lg Z w kk vk es l){x:kk.T×vk.T}{e:MapEntry}(ho:Th Z w kk vk x e):lg Z w kk vk (es++[x]) (l++[e]):=by
 refine⟨by simp[h.1],fun j y e' h1 h2=>?_⟩;by_cases hj:j<es.length
 ·rw[List.getElem?_append_left hj]at h1;rw[List.getElem?_append_left (by rw[←h.1];exact hj)]at h2;exact h.2 j y e' h1 h2
 ·rw[List.getElem?_append_right (by omega)]at h1;rw[List.getElem?_append_right (by have:=h.1;omega),←h.1]at h2;by_cases h0:j-es.length=0
  ·rw[h0]at h1 h2;cases h1;cases h2;exact ho
  simp_all
theorem lg.erase(h:lg Z w kk vk es l)(i:Nat):lg Z w kk vk (es.eraseIdx i) (l.eraseIdx i):=by
 refine⟨by rw[List.length_eraseIdx,List.length_eraseIdx,h.1],fun j y e h1 h2=>?_⟩;rw[List.getElem?_eraseIdx]at h1 h2
 split at h1
 ·rename_i hj;rw[if_pos hj]at h2;exact h.2 j y e h1 h2
 ·rename_i hj;rw[if_neg hj]at h2;exact h.2 (j+1) y e h1 h2
theorem lg.mono(h:lg Z w kk vk es l)(hz:∀b,Z b→Z' b)(hs:cr Z w w'):lg Z' w' kk vk es l:=HK.imp (fun _ _ h=>h.mono hz hs) (fun _ _ h=>h.mono hz hs) h
end
theorem vL{Eqs:TypeId→Option K}{t:TypeId}{kk vk:K}(h:mapOf P Eqs t=some (kk,vk)):∃a b,P.underlying t=some (.map a b)∧Od P Eqs a kk=true∧Jt P b vk=true:=by
 unfold mapOf at h
 grind
theorem Cz{b:TypeId}{vk:K}(h:Jt P b vk=true):∃z,(zeroValue b).run P w=.ok z w∧aI Z w vk (kf vk) z.cells.toList∧Mh vk.isAgg z:=by
 unfold Jt at h
 split at h
 ·rename_i i hi
  split at h
  ·rename_i z hz;refine⟨z,sF hi hz,?_⟩;unfold SO at h
   split at h
   ·simp only[decide_eq_true_eq]at h;obtain⟨rfl,rfl⟩:=h;exact⟨by rfl,fun h=>(by cases h),fun _=>rfl⟩
   ·rename_i b;simp only[Bool.not_eq_true']at h;subst h;exact⟨by rfl,fun h=>(by cases h),fun _=>rfl⟩
   ·simp only[decide_eq_true_eq]at h;subst h;exact⟨by rfl,fun h=>(by cases h),fun _=>rfl⟩
   ·simp only[decide_eq_true_eq]at h;obtain⟨rfl,rfl,rfl⟩:=h;exact⟨by simp only[aI];exact⟨_,rfl,none,0,rfl,acb _,fun _=>rfl,fun i x hx=>by simp[kf]at hx⟩,fun h=>(by cases h),fun _=>rfl⟩
   ·cases h
  ·cases h
 ·cases h
theorem Oj{hh:Heap}(g:Good Z ψ h w B0 O)(bu:∀id o,hh.get id=some o→h id=some o){m:AV}{u:Value}{kk vk:K}{es:List (kk.T×vk.T)}(hm:az Z ψ h w m u)(hv:cY hh m=.mp kk vk es) :
  ∃A,u=.map A∧((A=none∧es=[])∨∃r b6 clock,A=some r∧w.heap[r]? = some (.map b6 clock)∧lg Z w kk vk es b6.toList):=by
 cases m with
 |mp Oa XL Ti =>
  simp only[cY]at hv
  cases hv
  simp only[az,aI]at hm
  grind
 |bK id =>
  simp only[cY]at hv
  split at hv
  ·cases hv
  ·rename_i Oa XL Ti hg
   cases hv
   have yv:=bu _ _ hg;simp only[az]at hm;have:=hm.2 (by rw[yv];simp);subst this;obtain⟨r,b6,clock,h1,h2,h3,_⟩:=g.row id (.map kk vk) es yv;simp_all
  ·cases hv
 |_=>grind [cY]
theorem MD{hh:Heap}(g:Good Z ψ h w B0 O)(bu:∀id o,hh.get id=some o→h id=some o){k:K}(hf:k.flat=true){a:AV}{x:k.T}{v:Value}(hx:hY k hh a=some x)(hr:az Z ψ h w a v):aI Z w k x v.cells.toList∧Mh k.isAgg v:=by obtain⟨h1,h2,h3⟩:=vK (Z':=fun b=>b<w.heap.size) (g.sub bu) (fun b hb=>g.kx b hb) (fun id b _ h1 h2=>(g.sub bu).bO ⟨id,h1,h2⟩) hx (hr.less (fun _ h=>h) (cr.refl _ _) (fun id bL=>by obtain⟨o,ho⟩:=abK.1 bL;simp_all));exact⟨h1.flat hf,h2,h3⟩
theorem HP{Eqs:TypeId→Option K}(EW:∀t k,Eqs t=some k→mL P t k){hh:Heap}(g:Good Z ψ h w B0 O)(bu:∀id o,hh.get id=some o→h id=some o){t:TypeId}{m i:AV}{u v:Value}{ok:Bool}{e:bE} (hm:az Z ψ h w m u) (hi:az Z ψ h w i v) (he:oW P Eqs hh t m i ok some=some e):∃y V,e=.val y∧(Instr.lookup t u v ok).run P w=.ok V w∧az Z ψ h w y V:=by
 unfold oW at he
 split at he
 ·rename_i ka va kk vk es hmo hv
  split at he
  ·rename_i hc;obtain⟨rfl,rfl⟩:=hc
   split at he
   ·rename_i x hx
    cases he
    obtain⟨a,b,hu,hk,hz⟩:=vL hmo;have K:=yN EW hk;obtain⟨Jj,qh⟩:=MD g bu K.flat hx hi;obtain⟨z,Ao,EV,Ql⟩:=Cz (Z:=Z) (w:=w) hz;have fin:∀(l:List MapEntry),lg Z w kk vk es l→∃V,((∃j,(Instr.findKey a v l).run P w=.ok (some (j,V)) w∧(fJ kk x es).isSome=true)∨((Instr.findKey a v l).run P w=.ok none w∧(zeroValue b).run P w=.ok V w∧(fJ kk x es).isSome=false)) ∧ aI Z w vk ((fJ kk x es).getD (kf vk)) V.cells.toList∧Mh vk.isAgg V:=by
     intro l hE;have hf:=K.find Z w x v l (es.map (·.1)) Jj qh hE.keys;rw[Cx]at hf
     cases Gg:r9 kk x es with
     |none =>rw[Gg]at hf;exact⟨z,.inr ⟨hf,Ao,by simp[fJ,Gg]⟩,by simpa[fJ,Gg] using EV,Ql⟩
     |some j =>
      rw[Gg]at hf;have hj:=HO Gg;have h1:es[j]? = some es[j]:=abn hj;have ME:j<l.length:=by rw[←hE.1];exact hj
      have h2:l[j]? = some l[j]:=abn ME;obtain⟨_,h3,h4⟩:=hE.2 j _ _ h1 h2;refine⟨l[j].val,.inl ⟨j,?_,by simp[fJ,Gg,h1]⟩,by simpa[fJ,Gg,h1] using h3,h4⟩;rw[hf];simp only[Option.map_some,h2,Option.getD_some]
    have out:∀V:Value,aI Z w vk ((fJ kk x es).getD (kf vk)) V.cells.toList→Mh vk.isAgg V→az Z ψ h w (cond ok (AV.oz [cc vk ((fJ kk x es).getD (kf vk)),.bool (fJ kk x es).isSome]) (cc vk ((fJ kk x es).getD (kf vk)))) (if ok then .tuple #[V,.bool (fJ kk x es).isSome] else V):=by
     intro V h1 h2;have h3:az Z ψ h w (cc vk ((fJ kk x es).getD (kf vk))) V:=mJ h1 h2.1 h2.2
     cases ok with
     |false=>exact h3
     |true=>simp only[cond_true,if_true,az,au];exact⟨_,rfl,V,[.bool (fJ kk x es).isSome],by simp,h3,_,[],rfl,rfl,rfl⟩
    obtain⟨A,rfl,hA⟩:=Oj g bu hm hv;rcases hA with⟨rfl,rfl⟩|⟨r,b6,clock,rfl,h3,h4⟩
    ·obtain⟨V,h5,h6,h7⟩:=fin [] ⟨rfl,fun i x e h=>by simp at h⟩;refine⟨_,_,rfl,?_,out V h6 h7⟩;simp only[Instr.lookup,Sem.run_bind,run_underlying hu,Result.andThen_ok,Sem.run_pure,K.check Z w x v _ Jj qh];rcases h5 with⟨j,h8,h9⟩|⟨h8,h9,qg⟩
     ·simp[h8,h9]
     ·simp[h8,h9,qg]
    ·obtain⟨V,h5,h6,h7⟩:=fin b6.toList h4;refine⟨_,_,rfl,?_,out V h6 h7⟩;simp only[Instr.lookup,Sem.run_bind,run_underlying hu,Result.andThen_ok,Sem.run_pure,MapKept.run_getObj_map h3,K.check Z w x v _ Jj qh];rcases h5 with⟨j,h8,h9⟩|⟨h8,h9,qg⟩
     ·simp[h8,h9]
     ·simp[h8,h9,qg]
   ·cases he
  ·cases he
 ·cases he
end Go.Vs
namespace Go.Vs
variable {P:Program} {Z Z':Nat→Prop} {ψ ψ':Nat→Value} {h h':Hp} {w w':World} {B0:Nat} {O:Nat→Prop} {N:Nat→Prop}
theorem yO{r b:Nat}(o:Obj)(bz:r≠b):(w.heap.setIfInBounds r o)[b]? = w.heap[b]? := by simp_all
theorem cO.ajd{r:Nat}(ho:Own ψ h r)(o:Obj):cO ψ h w { w with heap:=w.heap.setIfInBounds r o } :=⟨rfl,rfl,rfl,by simp,fun b _ hb=>yO o (fun e=>hb (e▸ho))⟩
theorem tL{hp:Hp}(g:Good Z ψ hp w B0 O){id:Nat}(bL:hp id≠none){r:Nat}(hr:ob (ψ id)=some r)(aO:r<w.heap.size)(o:Obj){ok:OK}{x:ok.T} (hx:∀w':World,w'.heap=w.heap.setIfInBounds r o→cr Z w w'→jM Z w' ok (ψ id) x) :
  Next Z ψ hp w B0 O N Z ψ (dV hp id (some (.own ok x))) { w with heap:=w.heap.setIfInBounds r o }:=by
 have ho:Own ψ hp r:=⟨id,bL,hr⟩;have kk:=cO.ajd (w:=w) ho o;refine g.write id bL kk (fun b hb _=>yO o (fun e=>hb (by rw[hr,e]))) _ (fun _ _ he=>by cases he) (fun XM x' he=>?_)
 cases he
 exact hx _ rfl (kk.same g)
theorem Ar{l:List MapEntry}{i:Nat}{f:MapEntry→MapEntry}(hf:∀e,(f e).born=e.born):(l.modify i f).map (·.born)=l.map (·.born):=by
 apply adn
 grind
theorem yP{l:List MapEntry}:l.Pairwise (fun a b=>a.born≠b.born)↔(l.map (·.born)).Pairwise (·≠·):=by grind
theorem wT{Eqs:TypeId→Option K}(EW:∀t k,Eqs t=some k→mL P t k){hh:Heap}(g:Good Z ψ hh.get w B0 O){t:TypeId}{m i v:AV}{u1 u2 u3:Value}{e:bE} (hm:az Z ψ hh.get w m u1) (hi:az Z ψ hh.get w i u2) (hv:az Z ψ hh.get w v u3) (he:jx P Eqs hh t m i v some=some e) :
  ∃hw w' Z',e=.wr (.oz []) hw∧(Instr.mapUpdate t u1 u2 u3).run P w=.ok () w'∧Next Z ψ hh.get w B0 O N Z' ψ hw.get w':=by
 unfold jx at he
 split at he
 ·rename_i ka va id hmo
  split at he
  ·rename_i kk vk es hg
   split at he
   ·rename_i hc;obtain⟨rfl,rfl⟩:=hc
    split at he
    ·rename_i x y hx hy tG
     cases he
     obtain⟨a,b,hu,hk,_⟩:=vL hmo;have K:=yN EW hk;obtain⟨Jj,qh⟩:=MD g (fun _ _ h=>h) K.flat hx hi;simp only[az]at hm;have Xr:=hm.2 (by rw[hg];simp);obtain⟨r,b6,clock,h1,h2,h3,h4,h5⟩:=g.row id (.map kk vk) es hg;rw[h1]at Xr;subst Xr;have bL:AV.bK id∉v.cells:=fun hc=>by have:=adb.1 tG _ hc;simp at this
     have gd:=jm g v.cells;have hgd:(cM hh v.cells).get id=some (.own (.map kk vk) es):=by rw[qu _ _ _ bL];exact hg
     obtain⟨yQ,BA,hv3⟩:=vK (Z':=rX Z ψ hh.get v.cells) g (fun b hb=>.inl hb) (fun id b h1 h2 h3=>.inr ⟨id,h1,h2,h3⟩) hy hv;have adO:aI (rX Z ψ hh.get v.cells) w kk x u2.cells.toList:=Jj.flat K.flat;have aO:=(abI.1 h2).1;have oP:ob (ψ id)=some r:=by rw[h1];rfl
     have hE:lg (rX Z ψ hh.get v.cells) w kk vk es b6.toList:=lg.mono h3 (fun b hb=>.inl hb) (cr.refl _ _);have hf:=K.find Z w x u2 b6.toList (es.map (·.1)) Jj qh (lg.keys h3);rw[Cx]at hf;have fin:∀(o:Obj) (Ti:List (kk.T×vk.T)) (nR:Array MapEntry) (CA:Nat),o=.map nR CA→lg (rX Z ψ hh.get v.cells) w kk vk Ti nR.toList→(nR.toList.map (·.born)).Pairwise (·≠·)→(∀e∈nR.toList,e.born<CA) → Next Z ψ hh.get w B0 O N (rX Z ψ hh.get v.cells) ψ ((cM hh v.cells).set id (.own (.map kk vk) Ti)).get { w with heap:=w.heap.setIfInBounds r o }:=by rintro o Ti nR CA rfl h6 h7 h8;rw[kU];have n:=tL (N:=N) gd (by rw[hgd];simp) oP aO (.map nR CA) (ok:=.map kk vk) (x:=Ti) (fun w' Mi sm=>⟨r,nR,CA,h1,by rw[Mi];simp[aO],lg.mono h6 (fun _ h=>h) sm,yP.2 h7,h8⟩);exact n.drop (fun b hb=>.inl hb) (fun b hb=>hb.imp (fun h=>h) (fun⟨i,_,h5,h6⟩=>⟨i,h5,h6⟩)) (eL _ _)
     cases Gg:r9 kk x es with
     |none =>
      rw[Gg]at hf;refine⟨_,{ w with heap:=w.heap.setIfInBounds r (.map (b6.push { key:=u2,val:=u3,born:=clock }) (clock+1)) },rX Z ψ hh.get v.cells,rfl,?_,?_⟩
      rotate_left
      ·rw[show jK kk x y es=es++[(x,y)] by simp[jK,Gg]];refine fin _ _ (b6.push { key:=u2,val:=u3,born:=clock }) (clock+1) rfl ?_ ?_ ?_
       ·rw[Array.toList_push];exact hE.push ⟨⟨adO,qh⟩,yQ,BA,hv3⟩
       ·rw[Array.toList_push,List.map_append,List.pairwise_append];refine⟨yP.1 h4,by simp,fun a ha b hb=>?_⟩;simp only[List.map_cons,List.map_nil,List.mem_singleton]at hb;obtain⟨e,he,rfl⟩:=ace.1 ha;have:=h5 e he;omega
       ·intro e he;rw[Array.toList_push]at he;rcases abX.1 he with he|he
        ·have:=h5 e he;omega
        ·simp only[List.mem_singleton]at he;subst he;exact Nat.lt_succ_self _
      ·simp only[Instr.mapUpdate,Sem.run_bind,run_underlying hu,Result.andThen_ok,MapKept.run_getObj_map h2,K.check Z w x u2 _ Jj qh,hf,Option.map_none,MapKept.run_setObj_map _ h2]
     |some j =>
      rw[Gg]at hf;have hj:=HO Gg;obtain⟨e0,ZC,heq⟩:=XV Gg;have ME:j<b6.toList.length:=by rw[←h3.1];exact hj
      have hl:b6.toList[j]? = some b6.toList[j]:=abn ME;have SA:b6[j]? = some b6.toList[j]:=by rw[←hl];simp
      obtain⟨⟨adP,aje⟩,_⟩:=h3.2 j _ _ ZC hl;have uW:b6.toList[j].key=u2:=by refine Qs aje qh ?_;rw[←(BC kk x e0.1 K.flat).1 heq]at adP;exact qx K.flat adP Jj
      have ZD:(Instr.keyThatStays u2 u2).run P w=.ok u2 w:=by simp[Instr.keyThatStays,Tf K.flat Jj qh]
      refine⟨_,{ w with heap:=w.heap.setIfInBounds r (.map (b6.modify j fun e=>{ e with key:=u2,val:=u3 }) clock) },rX Z ψ hh.get v.cells,rfl,?_,?_⟩
      rotate_left
      ·rw[show jK kk x y es=es.set j (x,y) by simp[jK,Gg]];refine fin _ _ (b6.modify j fun e=>{ e with key:=u2,val:=u3 }) clock rfl ?_ ?_ ?_
       ·rw[Array.toList_modify];exact hE.set j (fun e he=>⟨⟨adO,qh⟩,yQ,BA,hv3⟩)
       ·rw[Array.toList_modify,Ar (f:=fun e:MapEntry=>{ e with key:=u2,val:=u3 }) (fun _=>rfl)];exact yP.1 h4
       ·intro e he;have:e.born∈(b6.modify j fun e=>{ e with key:=u2,val:=u3 }).toList.map (·.born):=ace.2 ⟨e,he,rfl⟩;rw[Array.toList_modify,Ar (f:=fun e:MapEntry=>{ e with key:=u2,val:=u3 }) (fun _=>rfl)]at this;obtain⟨e',Og,h6⟩:=ace.1 this;rw[←h6];exact h5 e' Og
      ·simp only[Instr.mapUpdate,Sem.run_bind,run_underlying hu,Result.andThen_ok,MapKept.run_getObj_map h2,K.check Z w x u2 _ Jj qh,hf,Option.map_some,SA,Option.getD_some,uW,ZD,MapKept.run_setObj_map _ h2]
    ·cases he
   ·cases he
  ·cases he
 ·cases he
theorem wU{Eqs:TypeId→Option K}(EW:∀t k,Eqs t=some k→mL P t k){hh:Heap}(g:Good Z ψ hh.get w B0 O){t ty:TypeId}{ts:List TypeId}{m i:AV}{u1 u2:Value}{e:bE} (hm:az Z ψ hh.get w m u1) (hi:az Z ψ hh.get w i u2) (he:oX P Eqs hh t m i some=some e) :
  ∃hw w',e=.wr (.oz []) hw∧(Builtin.delete_ (t::ts).toArray ty #[u1,u2]).run P w=.ok (.tuple #[]) w'∧Next Z ψ hh.get w B0 O N Z ψ hw.get w':=by
 unfold oX at he
 split at he
 ·rename_i ka va id hmo
  split at he
  ·rename_i kk vk es hg
   split at he
   ·rename_i hc;obtain⟨rfl,rfl⟩:=hc
    split at he
    ·rename_i x hx
     cases he
     obtain⟨a,b,hu,hk,_⟩:=vL hmo;have K:=yN EW hk;obtain⟨Jj,qh⟩:=MD g (fun _ _ h=>h) K.flat hx hi;simp only[az]at hm;have Xr:=hm.2 (by rw[hg];simp);obtain⟨r,b6,clock,h1,h2,h3,h4,h5⟩:=g.row id (.map kk vk) es hg;rw[h1]at Xr;subst Xr;have aO:=(abI.1 h2).1;have oP:ob (ψ id)=some r:=by rw[h1];rfl
     have hf:=K.find Z w x u2 b6.toList (es.map (·.1)) Jj qh (lg.keys h3);rw[Cx]at hf;have fin:∀(o:Obj) (Ti:List (kk.T×vk.T)) (nR:Array MapEntry),o=.map nR clock→lg Z w kk vk Ti nR.toList→nR.toList.Sublist b6.toList → Next Z ψ hh.get w B0 O N Z ψ (hh.set id (.own (.map kk vk) Ti)).get { w with heap:=w.heap.setIfInBounds r o }:=by rintro o Ti nR rfl h6 h7;rw[kU];exact tL (N:=N) g (by rw[hg];simp) oP aO (.map nR clock) (ok:=.map kk vk) (x:=Ti) (fun w' Mi sm=>⟨r,nR,clock,h1,by rw[Mi];simp[aO],lg.mono h6 (fun _ h=>h) sm,h4.sublist h7,fun e he=>h5 e (h7.subset he)⟩)
     cases Gg:r9 kk x es with
     |none =>
      rw[Gg]at hf;refine⟨_,{ w with heap:=w.heap.setIfInBounds r (.map b6 clock) },rfl,?_,?_⟩
      rotate_left
      ·rw[show HF kk x es=es by simp[HF,Gg]];exact fin _ _ b6 rfl h3 (List.Sublist.refl _)
      ·simp[Builtin.delete_,run_underlying hu,MapKept.run_getObj_map h2,K.check Z w x u2 _ Jj qh,hf,MapKept.run_setObj_map _ h2]
     |some j =>
      rw[Gg]at hf;have hj:=HO Gg;refine⟨_,{ w with heap:=w.heap.setIfInBounds r (.map (b6.eraseIdxIfInBounds j) clock) },rfl,?_,?_⟩
      rotate_left
      ·rw[show HF kk x es=es.eraseIdx j by simp[HF,Gg]];refine fin _ _ (b6.eraseIdxIfInBounds j) rfl ?_ ?_
       ·rw[Array.toList_eraseIdxIfInBounds];exact lg.erase h3 j
       ·rw[Array.toList_eraseIdxIfInBounds];exact List.eraseIdx_sublist _ _
      ·simp[Builtin.delete_,run_underlying hu,MapKept.run_getObj_map h2,K.check Z w x u2 _ Jj qh,hf,MapKept.run_setObj_map _ h2]
    ·cases he
   ·cases he
  ·cases he
 ·cases he
theorem MF{hh:Heap}(g:Good Z ψ h w B0 O)(bu:∀id o,hh.get id=some o→h id=some o){t ty:TypeId}{x:AV}{u:Value}{e:bE}(ht:Mq P t=true)(hx:az Z ψ h w x u)(he:yD hh x some=some e) :
  ∃n:Nat,e=.val (.int .i64 (n:Int))∧(Builtin.len_ #[t] ty #[u]).run P w=.ok (.int .i64 (n:Int)) w:=by
 unfold yD at he
 split at he
 ·rename_i kk vk es hv
  cases he
  have hu:∃a b,P.underlying t=some (.map a b):=by
   grind [Mq]
  obtain⟨a,b,hu⟩:=hu;obtain⟨A,rfl,hA⟩:=Oj g bu hx hv;rcases hA with⟨rfl,rfl⟩|⟨r,b6,clock,rfl,h3,h4⟩
  ·exact⟨0,rfl,by simp[Builtin.len_,run_underlying hu,goInt]⟩
  ·refine⟨es.length,rfl,?_⟩;have:b6.size=es.length:=by rw[h4.1];simp
   simp[Builtin.len_,run_underlying hu,MapKept.run_getObj_map h3,goInt,this]
 ·cases he
theorem CB(g:Good Z ψ h w B0 O)(hB:B0≤w.heap.size)(id:Nat)(hN:N id){ok:OK}{x:ok.T}{v:Value}(o:Obj)(ho:jM Z (w.alloc o) ok v x)(hb:ob v=some w.heap.size) (bj:∀i ty cs,h i=some (.box ty cs)→aC (fun i=>i≠id) cs):Next Z ψ h w B0 O N Z (dV ψ id v) (dV h id (some (.own ok x))) (w.alloc o) :=Jz g hB id hN (cO.alloc _ _ _ _) (fun b hb=>heap_alloc_old w _ (g.bO hb)) ho (fun b E5=>by simp_all) bj
theorem E6{Eqs:TypeId→Option K}(g:Good Z ψ h w B0 O)(hB:B0≤w.heap.size){id:Nat}(hN:N id){t:TypeId}{e:bE}(bj:∀i ty cs,h i=some (.box ty cs)→aC (fun i=>i≠id) cs)(he:mo P Eqs id t some=some e) :
  ∃v w' ψ',(Instr.makeMap t none).run P w=.ok v w'∧Next Z ψ h w B0 O N Z ψ' (e.hp h) w'∧az Z ψ' (e.hp h) w' e.v v:=by
 unfold mo at he
 split at he
 ·rename_i kk vk hmo
  cases he
  refine⟨.map (some w.heap.size),w.alloc (.map #[] 0),dV ψ id (.map (some w.heap.size)),rfl,?_,?_⟩
  ·simp only[bE.hp];rw[gQ];exact CB g hB id hN (ok:=.map kk vk) (x:=[]) _ ⟨w.heap.size,#[],0,rfl,heap_alloc_new _ _,⟨rfl,fun i x e h=>by simp at h⟩,by simp,by simp⟩ rfl bj
  ·simp only[bE.v,bE.hp,az];exact⟨⟨rfl,rfl⟩,fun _=>(bf _ _ _).symm⟩
 ·cases he
theorem HQ(g:Good Z ψ h w B0 O)(hB:B0≤w.heap.size){id:Nat}(hN:N id){t:TypeId}{x:AV}{u:Value}{e:bE}(hx:az Z ψ h w x u)(bj:∀i ty cs,h i=some (.box ty cs)→aC (fun i=>i≠id) cs)(he:oY P id t x some=some e) :
  ∃v w' ψ',(Instr.range t u).run P w=.ok v w'∧Next Z ψ h w B0 O N Z ψ' (e.hp h) w'∧az Z ψ' (e.hp h) w' e.v v:=by
 unfold oY at he
 split at he
 ·rename_i sv hu
  cases he
  simp only[az]at hx;subst hx;refine⟨.pointer (some ⟨w.heap.size,0,none⟩),w.alloc (.stringIter sv 0),dV ψ id (.pointer (some ⟨w.heap.size,0,none⟩)),?_,?_,?_⟩
  ·simp_all [Instr.range,Sem.run_bind,run_underlying,Result.andThen_ok,Sem.run_pure]
  ·simp only[bE.hp];rw[gQ];exact CB g hB id hN (ok:=.oT) (x:=(sv,0)) _ ⟨w.heap.size,rfl,heap_alloc_new _ _⟩ rfl bj
  ·simp only[bE.v,bE.hp,az];exact⟨⟨rfl,rfl⟩,fun _=>(bf _ _ _).symm⟩
 ·cases he
theorem gR{r:Nat}{o:Obj}(hb:w.heap[r]? = some o)(hc:∀c e f,o≠.cells c e f):(getObj r).run P w=.ok o w:=by cases o<;>first|(exact absurd rfl (hc _ _ _))|simp[getObj,Sem.run,hb]
theorem CC{r:Nat}{o o':Obj}(hb:w.heap[r]? = some o)(hc:∀c e f,o≠.cells c e f):(setObj r o').run P w=.ok () { w with heap:=w.heap.setIfInBounds r o' }:=by cases o<;>first|(exact absurd rfl (hc _ _ _))|simp[setObj,Sem.run,hb]
theorem JJ{hh:Heap}(g:Good Z ψ h w B0 O)(bu:∀id o,hh.get id=some o→h id=some o){ty:TypeId}{x:AV}{u:Value}{e:bE}(hx:az Z ψ h w x u)(mK:∀v hw,e=.wr v hw→hh.get=h)(he:tw hh x some=some e) :
  ∃v w',(Instr.next u true ty).run P w=.ok v w'∧Next Z ψ h w B0 O N Z ψ (e.hp h) w'∧az Z ψ (e.hp h) w' e.v v:=by
 unfold tw at he
 split at he
 ·rename_i id
  split at he
  ·rename_i x hg;have yv:=bu _ _ hg;simp only[az]at hx;have hu:=hx.2 (by rw[yv];simp);obtain⟨r,h1,h2⟩:=g.row id .oT x yv;rw[h1]at hu;subst hu
   cases hc:decide (x.2<x.1.size) with
   |true =>
    rw[hc]at he;cases he;have heq:=mK _ _ rfl;simp only[decide_eq_true_eq]at hc;have aO:=(abI.1 h2).1;refine⟨.tuple #[.bool true,goInt x.2,.int .i32 (Utf8.decode x.1 x.2).1],{ w with heap:=w.heap.setIfInBounds r (.stringIter x.1 (x.2+(Utf8.decode x.1 x.2).2)) },?_,?_,?_⟩
    ·simp only[Instr.next,Sem.run_bind,gR h2 (by simp),Result.andThen_ok,hc,if_true,CC h2 (by simp),Sem.run_pure]
    ·simp only[bE.hp];rw[kU,heq];exact tL (N:=N) g (by rw[yv];simp) (by rw[h1];rfl) aO _ (ok:=.oT) (x:=(x.1,x.2+B8 x.1 x.2)) (fun w' Mi _=>⟨r,h1,by rw[Mi];simp[aO,B8]⟩)
    ·simp only[bE.v,az,au];exact⟨_,rfl,_,_,rfl,rfl,_,_,rfl,rfl,_,_,rfl,rfl,rfl⟩
   |false =>
    rw[hc]at he;cases he;simp only[decide_eq_false_iff_not]at hc;refine⟨.tuple #[.bool false],w,?_,Next.refl g,?_⟩
    ·simp only[Instr.next,Sem.run_bind,gR h2 (by simp),Result.andThen_ok,hc,if_false,Sem.run_pure]
    ·simp only[bE.v,az,au];exact⟨_,rfl,_,_,rfl,rfl,rfl⟩
  ·cases he
 ·cases he
theorem find_born{l:List MapEntry}(h:l.Pairwise (fun a b=>a.born≠b.born)){e:MapEntry}(he:e∈l):l.find? (fun x=>x.born==e.born)=some e:=by
 induction l with
 |nil=>cases he
 |cons a r ih =>
  obtain⟨h1,h2⟩:=List.pairwise_cons.1 h
  grind
theorem JK{hh:Heap}(g:Good Z ψ h w B0 O)(bu:∀id o,hh.get id=some o→h id=some o){x:AV}{u:Value}{e:bE}(hx:az Z ψ h w x u)(he:tx hh x some=some e) :
  ∃y v,e=.val y∧(Instr.entry u).run P w=.ok v w∧az Z ψ h w y v:=by
 unfold tx at he
 split at he
 ·rename_i id
  split at he
  ·rename_i kk vk c rest hg
   cases he
   have yv:=bu _ _ hg;simp only[az]at hx;have hu:=hx.2 (by rw[yv];simp);obtain⟨r,m,since,seen,b6,clock,h1,h2,h3,h4,h5,h6,h7,h8,h9⟩:=g.row id (.iter kk vk) (some c,rest) yv;rw[h1]at hu;subst hu;obtain⟨en,qg,E2,Tj⟩:=h9;obtain⟨⟨k1,k2,k3⟩,v1,v2,v3⟩:=Tj.2 0 c en rfl rfl;refine⟨_,.tuple #[en.key,en.val],rfl,?_,?_⟩
   ·have hf:b6.find? (·.born==en.born)=some en:=by have:=find_born h5 qg;simp_all
    simp only[Instr.entry,Sem.run_bind,gR h2 (by simp),Result.andThen_ok,E2,Sem.run_pure,gR h4 (by simp),hf];simp
   ·simp only[az,au];exact⟨_,rfl,_,_,rfl,mJ k1 k2 k3,_,_,rfl,mJ v1 v2 v3,rfl⟩
  ·cases he
 ·cases he
theorem iv(w:World)(dT sT ty elem:TypeId)(sz g o abl ajf:Nat)(a:Addr)(abm ajg:Nat)(cur:Array Value)(t:TypeId)(cs:List Value) (hu:P.underlying dT=some (.slice elem)) (hs:(P.info? elem).map (·.size)=some sz) (hg:w.heap[g]? = some (.cells cur t (0,0))) (hn:cs.length=Nat.min abm abl*sz) (yK:∀(j:Nat) v,cs[j]? = some v→w.cell? (a.add j)=some v) (Qt:o+cs.length≤cur.size) (h1:∀v∈cs,v.oneCell'=true) :
  (Builtin.copy_ #[dT,sT] ty #[.slice (some ⟨g,o,none⟩) abl ajf,.slice (some a) abm ajg]).run P w = .ok (goInt (Nat.min abm abl)) (w.setRow g (cur.toList.take o++cs++cur.toList.drop (o+cs.length)).toArray):=by
 have hl:=run_loadCells_list (P:=P) w a cs yK;have Ak:=run_storeCells_at P g o t cs 0 cur w hg (by simpa using Qt) h1
 cases hq:P.info? elem with
 |none=>simp[hq]at hs
 |some i =>
  have hi:i.size=sz:=by simpa[hq] using hs
  simp only[Nat.add_zero]at Ak;simp[Builtin.copy_,run_underlying hu,Builtin.lenOf,Builtin.firstCells,sizeOf,typeInfo,hq,hi,←hn,hl,Ak]
theorem Gh{e:TypeId}(h:Qf P e=true):P.underlying e=some (.int .u8):=by
 unfold Qf at h
 split at h
 ·assumption
 ·cases h
theorem XW{ns:List Int}{vs:List Value}(h:la Z w (.int .u8) ns vs)(hl:vs.length=ns.length):vs=ns.map (Value.int .u8):=by
 apply adn;intro i;by_cases hi:i<ns.length
 ·have h1:=h i ns[i] (abn hi);have h1:(vs.drop (i*1)).take 1=[Value.int .u8 ns[i]]:=h1;have h2:=congrArg (·[0]?) h1;simp only[Nat.mul_one,List.getElem?_take,List.getElem?_drop,Nat.add_zero,Nat.zero_lt_one,if_true]at h2;rw[h2,List.getElem?_map,List.getElem?_eq_getElem hi];rfl
 ·rw[List.getElem?_eq_none (by omega),List.getElem?_eq_none (by simp;omega)]
theorem XX(ns:List Int):la Z w (.int .u8) ns (ns.map (Value.int .u8)):=fun i x hx=>by
 show((ns.map (Value.int .u8)).drop (i*1)).take 1=[Value.int .u8 x];obtain⟨hi,rfl⟩:=abu.1 hx;have:i<(ns.map (Value.int .u8)).length:=by rw[List.length_map];exact hi
 rw[Nat.mul_one,List.drop_eq_getElem_cons this];simp;rfl
theorem XY{hh:Heap}(g:Good Z ψ h w B0 O)(bu:∀id o,hh.get id=some o→h id=some o){src dst e:TypeId}(hs:P.underlying src=some (.slice e))(he:Qf P e=true)(hd:P.underlying dst=some .string) {x:AV} {u:Value} {ns:List Int} (hx:rowOf hh x (.int .u8)=some ns) (hr:az Z ψ h w x u):(convert src dst u).run P w=.ok (.string (strOf ns)) w:=by
 obtain⟨news,⟨h1,_,hu⟩,hv⟩:=wP (g.sub bu) hx (hr.oF bu);have Og:=Gh he;have h1:news.length=ns.length*1:=h1;rw[Nat.mul_one]at h1;have hn:=XW hv h1;rcases hu with⟨rfl,h0⟩|⟨a,c,rfl,h2⟩
 ·have:ns=[]:=abN h0;subst this;rw[run_convert_bytes_string w src dst e none 0 0 hs Og hd];rfl
 ·rw[run_convert_bytes_string w src dst e _ _ _ hs Og hd];refine run_bytesToString w a ns.length c ns ?_;have:=run_loadCells_list (P:=P) w a news h2;rw[h1,hn]at this;exact this
theorem bytesOf_length(s:ByteArray):(bytesOf s).length=s.size:=by unfold bytesOf;rw[List.length_map,Array.length_toList];rfl
theorem CD(s:ByteArray):Lib.strCells s=(bytesOf s).map (Value.int .u8):=by simp[Lib.strCells,bytesOf,Function.comp_def]
theorem Qu(g:Good Z ψ h w B0 O)(hB:B0≤w.heap.size){src dst e:TypeId}(hs:P.underlying src=some .string)(hd:P.underlying dst=some (.slice e))(he:Qf P e=true)(s:ByteArray) :
  ∃V w' Z',(convert src dst (.string s)).run P w=.ok V w'∧Next Z ψ h w B0 O N Z' ψ h w'∧az Z' ψ h w' (.sl false (.int .u8) (bytesOf s)) V:=by
 have Og:=Gh he
 let cells:Array Value:=s.data.map (fun b=>Value.int .u8 (b.toNat:Int))++Array.replicate (grownCap w s.size 0 e-s.size) (.int .u8 0)
 let w1:=w.drew.alloc (.cells cells e)
 have hg1:w1.heap[w.heap.size]? = some (.cells cells e (0,0)):=heap_alloc_new w.drew _;have hsh:w1.shape? w.heap.size=some (e,cells.size):=by simp[World.shape?,hg1]
 let w2:=w1.freeze ⟨w.heap.size,cells.size,none⟩ 1
 have dg:(convert src dst (.string s)).run P w=.ok (.slice (some ⟨w.heap.size,0,none⟩) s.size (grownCap w s.size 0 e)) w2:=by
  have e1:(newRow e cells).run P w.drew=.ok ⟨w.heap.size,0,none⟩ w1:=by simp[newRow,w1]
  have e2:(markStringish ⟨w.heap.size,0,none⟩).run P w1=.ok () w2:=by simp[markStringish,hsh,w2]
  simp only[convert,Sem.run_bind,run_underlying hs,run_underlying hd,run_underlying Og,Result.andThen_ok,Conv.stringToBytes,run_choose_drew];have e0:(Question.appendCap s.size 0 e).forced=false:=by simp[Question.forced]
  simp only[e0,Bool.false_eq_true,if_false,Result.andThen_ok];show((newRow e cells).run P w.drew).andThen _=_;rw[e1];simp only[Result.andThen_ok,e2];rfl
 have iW:w2.heap.size=w.heap.size+1:=by simp[w2,World.freeze,w1,World.alloc]
 have hold:∀b,b<w.heap.size→w2.heap[b]? = w.heap[b]? := fun b hb=>by
  have h1:w1.heap[b]? = w.heap[b]? := heap_alloc_old w.drew _ hb;have h2:w2.heap[b]? = w1.heap[b]? := by simp only[w2,World.freeze,if_neg (show ¬(1=0) by decide),Array.getElem?_modify];rw[if_neg (by omega)]
  rw[h2,h1]
 have Cu:∃f,w2.heap[w.heap.size]? = some (.cells cells e f):=by simp only[w2,World.freeze,if_neg (show ¬(1=0) by decide),Array.getElem?_modify,if_true,hg1,Option.map_some];exact⟨_,rfl⟩
 have kk:cO ψ h w w2:=⟨rfl,rfl,rfl,by omega,fun b hb _=>hold b hb⟩;have m:Next Z ψ h w B0 O (fun _=>False) Z ψ h w2:=g.more kk (fun b hb=>hold b (g.bO hb)) (fun _ _=>⟨rfl,rfl⟩) (fun i ty cs hb=>by
  have e:(fun _:Nat=>¬False)=fun _=>True:=by funext i;simp
  rw[e];exact aC.top cs) (fun _ _ _ h=>h.elim) (fun _ _ _ h=>h.elim) (fun _ _ h=>h.elim) (fun _ _ _ h=>h.elim) hB
 have hz:∀b,Z b→Z b∨b=w.heap.size:=fun b h=>.inl h;refine⟨_,w2,fun b=>Z b∨b=w.heap.size,dg,⟨hz,fun b hb=>hb.imp (fun h=>h) fun h=>.inr (by omega),m.keep,fun i hi=>.inl ((m.ids i hi).resolve_right (fun h=>h)),⟨fun i ty cs hb=>?_,fun i ok x hb=>?_,fun i b h1 h2=>?_,m.dA.apart,fun b hb=>?_⟩⟩,?_⟩
 ·obtain⟨gg,vs,f1,f2,f3,f4⟩:=m.dA.box i ty cs hb;exact⟨gg,vs,f1,f2,au.less hz (cr.refl _ _) (fun _ h=>⟨h,rfl⟩) f3,f4⟩
 ·exact(m.dA.row i ok x hb).kept hz (cr.refl _ _) (fun _ _=>rfl)
 ·obtain⟨k1,k2⟩:=m.dA.live i b h1 h2;refine⟨fun hb=>hb.elim k1 fun hb=>?_,k2⟩;have:=g.bO ⟨i,h1,h2⟩;omega
 ·rcases hb with hb|hb
  ·exact m.dA.kx b hb
  ·omega
 ·simp only[az];obtain⟨f,hf⟩:=Cu;have Xs:=grownCap_ge w s.size 0 e;refine⟨⟨_,rfl,some ⟨w.heap.size,0,none⟩,grownCap w s.size 0 e,congrArg (fun n=>Value.slice _ n _) (bytesOf_length s).symm,(show List.length (α:=Int) (bytesOf s)≤_ by rw[bytesOf_length];exact Xs),fun h=>(by cases h),fun i x hx=>?_⟩,fun h=>(by cases h)⟩;refine⟨_,[.int .u8 x],rfl,.inr rfl,rfl,fun j u hu=>?_⟩
  cases j with
  |succ j=>simp at hu
  |zero =>
   simp only[List.getElem?_cons_zero,Option.some.injEq]at hu;subst hu;rw[cE];simp only[World.cell?,hf];have Tb:(bytesOf s)[i]? = some x:=hx;obtain⟨hi,rfl⟩:=abu.1 Tb;have hi2:i<s.data.size:=by rw[bytesOf_length]at hi;exact hi
   show cells[0+(i*1+0)]? = _;simp only[Nat.zero_add,Nat.mul_one,Nat.add_zero,cells];rw[Array.getElem?_append_left (by simpa using hi2)];simp[bytesOf,Array.getElem?_eq_getElem hi2]
theorem Qv{e:TypeId}(h:aa9 P e=true):∃i,P.info? e=some i∧i.zero=some (.int .u8 0)∧i.size=1∧i.bytes=1:=by
 unfold aa9 at h
 split at h
 ·rename_i i hi;simp only[Bool.and_eq_true,decide_eq_true_eq]at h;obtain⟨⟨h1,h2⟩,h3⟩:=h
  split at h3
  ·rename_i n hz;simp only[decide_eq_true_eq]at h3;subst h3;exact⟨i,hi,hz,h1,h2⟩
  ·cases h3
 ·cases h
theorem E7{hh:Heap}(g:Good Z ψ h w B0 O)(hB:B0≤w.heap.size)(bu:∀id o,hh.get id=some o→h id=some o){id:Nat}(hN:N id){t t' ty:TypeId}{s:AV}{u:Value}{b:ByteArray}{e:bE} (ht':P.underlying t'=some .string) (hs:az Z ψ h w s u) (Bh:aJ (fun i=>¬N i) s) (Jk:∀i ty cs,h i=some (.box ty cs)→aC (fun i=>i≠id) cs) (mK:∀v hw,e=.wr v hw→hh.get=h) (he:mn P hh id t s b some=some e) :
  ∃V w' ψ',(Builtin.append_ #[t,t'] ty #[u,.string b]).run P w=.ok V w'∧Next Z ψ h w B0 O N Z ψ' (e.hp h) w'∧az Z ψ' (e.hp h) w' e.v V:=by
 unfold mn at he
 split at he
 rotate_left
 ·cases he
 rename_i et cF het
 split at he
 rotate_left
 ·cases he
 rename_i hu8;obtain⟨i,hi,hz,iW,hby⟩:=Qv hu8
 split at he
 rotate_left
 ·cases he
 rename_i e' k' xs hg
 split at he
 rotate_left
 ·cases he
 rename_i hc;obtain⟨rfl,rfl⟩:=hc
 cases pf:(!xs.isEmpty&&aL xs.length b.size) with
 |false=>rw[pf]at he;cases he
 |true =>
  rw[pf]at he;cases he;simp only[Bool.and_eq_true,aL,decide_eq_true_eq,Bool.not_eq_true',List.isEmpty_eq_false_iff]at pf;obtain⟨bz,Qt⟩:=pf;have E3:=List.length_pos_iff.2 bz;have heq:=mK _ _ rfl;have yv:=bu _ _ hg;simp only[az]at hs;have hu:=hs.2 (by rw[yv];simp);subst hu;simp only[aJ]at Bh;have ht:=gi het;obtain⟨vs,XT,ZB⟩:=g.row cF (.row e' (.int .u8)) xs yv;have hold:h cF≠none:=by rw[yv];simp
  unfold fk at Qt;rcases XT.2 with⟨h0,_⟩|⟨gg,cap,cur,hv,SZ,h4,h5,h6,h7,h8⟩
  ·omega
  have rR:w.ownsRow 0 e' 1 (ψ cF) xs.length vs:=⟨XT.1,.inr ⟨gg,cap,cur,hv,adl _,h4,h5,h6,h7,h8⟩⟩;obtain⟨V,w',dg,k1,k2,k3⟩:=Lib.run_append_own_string (P:=P) w 0 t t' ty e' i ht ht' hi hz iW hby _ _ vs rR b (by simp only[maxLen];omega) (by omega) (adl _);have oP:ob (ψ cF)=some gg:=by rw[hv];simp only[ob];rw[if_neg (by omega)]
  have hgr:w.grownBy w' (ob (ψ cF)):=by rw[oP];rw[hv]at k2;exact k2
  have Jj:dS w' e' 1 V (xs.length+b.size) (vs++Lib.strCells b):=dS.of k1;have Cu:ob V=ob (ψ cF)∨∀c,ob V=some c→w.heap.size≤c:=by
   by_cases dK:xs.length+b.size≤cap
   ·have hr:=Lib.run_append_room_string (P:=P) w t t' ty e' i ht ht' hi iW gg xs.length cap cur h4 b dK (by have:cur.size=cap*1:=h7;omega);rw[hv]at dg
    cases dg.symm.trans hr
    left;rw[oP];simp only[ob];rw[if_neg (by omega)]
   ·have As:vs.length=xs.length*1:=XT.1;have hr:=Lib.run_append_grow_string (P:=P) w t t' ty e' i (.int .u8 0) ht ht' hi hz ⟨gg,0,none⟩ xs.length cap vs (by rw[iW];exact As) (rR.cells (g:=gg) (by rw[hv];rfl)) b (by omega) (by omega) (by rw[hby];exact growslice_fits (by omega) (by omega));rw[hv]at dg
    cases dg.symm.trans hr
    right;intro c hc;simp only[ob]at hc;split at hc<;>cases hc;exact acb _
  have kk:cO ψ h w w':=cO.grown hgr (fun b e=>⟨cF,hold,e⟩);have sm:=kk.same g;have o8:jM Z w' (.row e' (.int .u8)) V (sd xs b):=⟨vs++Lib.strCells b,by
   have e9:List.length (α:=Int) (sd xs b)=List.length (α:=Int) xs+b.size:=(List.length_append (as:=(show List Int from xs)) (bs:=bytesOf b)).trans (by rw[bytesOf_length]);show dS w' e' 1 V (List.length (α:=Int) (sd xs b)) _;rw[e9];exact Jj,by
   rw[CD];exact(ZB.append (XX (bytesOf b)) XT.1).Co sm⟩
  refine⟨V,w',dV ψ id V,dg,?_,?_⟩
  ·simp only[bE.hp];rw[kU,tH,heq];exact nQ g hB id cF hN yv (fun e=>Bh (by rw[e];exact hN)) hgr (ok:=.row e' (.int .u8)) o8 Cu Jk
  ·simp only[bE.v,bE.hp,az];exact⟨Jj.one,fun _=>(bf _ _ _).symm⟩
theorem JM(g:Good Z ψ h w B0 O)(hB:B0≤w.heap.size){id:Nat}(hN:N id){t:TypeId}{l c:AV}{u v:Value}{e:bE}(hl:az Z ψ h w l u)(hc:az Z ψ h w c v) (Jk:∀i ty cs,h i=some (.box ty cs)→aC (fun i=>i≠id) cs) (he:tu P id t l c some=some e) :
  ∃V w' ψ',(Instr.makeSlice t u v).run P w=.ok V w'∧Next Z ψ h w B0 O N Z ψ' (e.hp h) w'∧az Z ψ' (e.hp h) w' e.v V:=by
 unfold tu at he
 split at he
 rotate_left
 ·cases he
 rename_i et n m het
 split at he
 rotate_left
 ·cases he
 rename_i kk hk
 split at he
 rotate_left
 ·cases he
 rename_i jO;simp only[Bool.and_eq_true]at jO;obtain⟨jO,hz⟩:=jO
 cases Tk:(decide (0≤n)&&(decide (n≤(fk:Int))&&decide (m=n))) with
 |false=>rw[Tk]at he;cases he
 |true =>
  rw[Tk]at he;cases he;simp only[Bool.and_eq_true,decide_eq_true_eq]at Tk;obtain⟨h0,h1,rfl⟩:=Tk;simp only[az]at hl hc;subst hl;subst hc;obtain⟨q,rfl⟩:∃q:Nat,m=(q:Int):=⟨m.toNat,by omega⟩;have hq:q≤fk:=by omega
  obtain⟨i,z,wA⟩:=cg jO;obtain⟨z',Ao,EV,_⟩:=Cz (Z:=Z) (w:=w) hz;have hzz:z'=z:=by have:=sF (P:=P) (w:=w) wA.info wA.zero;rw[this]at Ao;cases Ao;rfl
  subst hzz;have hb:=wA.bytes;unfold fk at hq;have hby:i.bytes*q≤281474976710656:=acz (ad5 hb hq) (by decide);have ht:=gi het;obtain⟨w',dg,k1,k2⟩:=run_make_full (P:=P) w 0 t et i z' kk.sz ht wA.info wA.zero wA.size .i64 .i64 q hby (by simp only[maxLen];omega) (adl _);have kk2:cO ψ h w w':=cO.grown k2 (fun b e=>by cases e);have hv:la Z w' kk (List.replicate q (kf kk)) (madeCells z'.cells (q*kk.sz)).toList:=fun i x hx=>by
   obtain⟨hi,rfl⟩:=abu.1 hx;rw[List.length_replicate]at hi;rw[List.getElem_replicate];have Qw:=wA.wO;refine aI.o9 ?_ (EV.mono (fun _ h=>h) (kk2.same g));have hmul:i*kk.sz+kk.sz≤q*kk.sz:=by rw[←Nat.succ_mul];exact ab5 _ hi
   have E3:=kk.gO;apply adn;intro j;rw[List.getElem?_take,List.getElem?_drop];by_cases hj:j<kk.sz
   ·rw[if_pos hj];have aO:i*kk.sz+j<q*kk.sz:=by omega
    simp only[madeCells,Array.getElem?_toList,Array.getElem?_map,Array.getElem?_range,aO,if_true,Option.map_some];rw[Qw,show(i*kk.sz+j)%kk.sz=j by rw[Nat.add_comm,Nat.add_mul_mod_self_right,Nat.mod_eq_of_lt hj],getElem!_pos z'.cells j (by omega),Array.getElem?_eq_getElem (by omega)]
   ·rw[if_neg hj,List.getElem?_eq_none (by simp;omega)]
  refine⟨_,w',dV ψ id (.slice (some ⟨w.heap.size,0,none⟩) q q),dg,?_,?_⟩
  ·simp only[bE.hp];rw[gQ];refine pe g hB id et hN kk2 (fun b hb=>k2.block b (g.bO hb) (by simp)) (vs:=(madeCells z'.cells (q*kk.sz)).toList) (by rw[Int.toNat_natCast,List.length_replicate];exact dS.of k1) (by rw[Int.toNat_natCast];exact hv) (fun b hb=>?_) Jk;simp only[ob]at hb;split at hb<;>cases hb;exact acb _
  ·simp only[bE.v,bE.hp,az];exact⟨(dS.of k1).one,fun _=>(bf _ _ _).symm⟩
theorem CE{hh:Heap}(g:Good Z ψ hh.get w B0 O){t t' ty:TypeId}{d s:AV}{u v:Value}{e:bE}(hd:az Z ψ hh.get w d u)(hs:az Z ψ hh.get w s v)(he:yy P hh t d s some=some e) :
  ∃n hw w',e=.wr (.int .i64 n) hw∧(Builtin.copy_ #[t,t'] ty #[u,v]).run P w=.ok (.int .i64 n) w'∧Next Z ψ hh.get w B0 O N Z ψ hw.get w':=by
 unfold yy at he
 split at he
 rotate_left
 ·cases he
 rename_i et id het
 split at he
 rotate_left
 ·cases he
 rename_i e' k xs hg
 split at he
 rotate_left
 ·cases he
 rename_i ys Qx
 split at he
 rotate_left
 ·cases he
 rename_i hc;obtain⟨rfl,jO⟩:=hc
 cases bz:xs.isEmpty with
 |true=>rw[bz]at he;cases he
 |false =>
  rw[bz]at he;cases he;obtain⟨i,z,wA⟩:=cg jO;have ht:=gi het;have E3:=List.length_pos_iff.2 (List.isEmpty_eq_false_iff.1 bz);have iW:=k.gO;simp only[az]at hd;have hu:=hd.2 (by rw[hg];simp);subst hu;obtain⟨vs,ho,hv⟩:=g.row id (.row e' k) xs hg;obtain⟨hvl,adQ⟩:=ho;rcases adQ with⟨h0,_⟩|⟨gg,cap,cur,e1,e2,e3,e4,e5,e6,e7⟩
  ·omega
  have bL:hh.get id≠none:=by rw[hg];simp
  have oP:ob (ψ id)=some gg:=by rw[e1];simp only[ob];rw[if_neg (by omega)]
  obtain⟨news,⟨n1,n2,n3⟩,nv⟩:=wP g Qx hs;have SZ:xs.length*k.sz≤cap*k.sz:=ab5 _ e4;have vF:cur.toList.length=cap*k.sz:=by rw[Array.length_toList];exact e6
  rcases n3 with⟨rfl,n0⟩|⟨a,c,rfl,n4⟩
  ·have:ys=[]:=abN n0;subst this;have hr:=run_copy_nil (P:=P) w t t' ty e' ⟨gg,0,none⟩ xs.length cap ht (by simp[wA.info]);refine⟨0,_,w,rfl,by rw[e1];exact hr,?_⟩;have e9:(hh.set id (.own (.row e' k) xs)).get=hh.get:=by
    funext j;by_cases hj:j=id
    ·subst hj;rw[Heap.wK,hg]
    ·rw[Heap.Cj hj]
   have e8:nN ([]:List k.T) xs=xs:=by simp[nN]
   rw[e8,e9];exact Next.refl g
  ·let m:=Nat.min ys.length xs.length
   have hmy:m≤ys.length:=Nat.min_le_left _ _;have hmx:m≤xs.length:=Nat.min_le_right _ _;have apK:m*k.sz≤ys.length*k.sz:=ab5 _ hmy;have apL:m*k.sz≤xs.length*k.sz:=ab5 _ hmx
   let cs:=news.take (m*k.sz)
   have MB:cs.length=m*k.sz:=by simp only[cs,List.length_take];omega
   have hr:=iv (P:=P) w t t' ty e' k.sz gg 0 xs.length cap a ys.length c cur e' cs ht (by simp[wA.info,wA.size]) e3 MB (fun j q hq=>n4 j q (by
    simp only[cs,List.getElem?_take]at hq
    split at hq
    ·exact hq
    ·cases hq)) (by rw[MB,e6];omega) (fun q hq=>n2 q (List.mem_of_mem_take hq))
   have ajl:((m:Nat):Int)=min (ys.length:Int) (xs.length:Int):=by show((min ys.length (List.length (α:=k.T) xs):Nat):Int)=min (ys.length:Int) ((List.length (α:=k.T) xs:Nat):Int);omega
   have XR:nN ys xs=ys.take m++xs.drop m:=by
    unfold nN;rcases Nat.le_total ys.length xs.length with h1|h1
    ·have:m=ys.length:=Nat.min_eq_left h1;rw[this,List.take_of_length_le h1,List.take_of_length_le (Nat.le_refl _)]
    ·have:m=xs.length:=Nat.min_eq_right h1;rw[this,List.drop_eq_nil_of_le h1,List.drop_eq_nil_of_le (Nat.le_refl _)]
   have hlen:(ys.take m++xs.drop m).length=xs.length:=by rw[List.length_append,List.length_take,List.length_drop];omega
   refine⟨_,_,_,rfl,by rw[e1,←ajl];exact hr,?_⟩;have rR:Own ψ hh.get gg:=⟨id,bL,oP⟩;have hk:=cO.setRow (w:=w) rR ((cur.toList.take 0++cs++cur.toList.drop (0+cs.length)).toArray);have sm:=hk.same g;rw[kU];refine g.write id bL hk (fun b hb _=>setRow_other _ (fun e=>hb (by rw[oP,e]))) _ (fun _ _ he=>by cases he) (fun XM x' he=>?_)
   cases he
   let gK:=cur.toList.take 0++cs++cur.toList.drop (0+cs.length)
   have E4:gK.length=cap*k.sz:=by simp only[gK,List.length_append,List.length_take,List.length_drop,vF,MB];omega
   have jn:gK.take (xs.length*k.sz)=cs++vs.drop (m*k.sz):=by simp only[gK,List.take_zero,List.nil_append,Nat.zero_add];rw[List.take_append,List.take_of_length_le (by omega),MB,←e7,List.drop_take]
   rw[XR];refine⟨gK.take (xs.length*k.sz),⟨by rw[List.length_take,E4,hlen];omega,.inr ⟨gg,cap,gK.toArray,by rw[hlen];exact e1,e2,setRow_heap w gg cur _ e' _ e3,by rw[hlen];exact e4,e5,by simpa using E4,by rw[hlen]⟩⟩,?_⟩;rw[jn];refine la.Co (la.append (fun i x hx=>?_) (fun i x hx=>?_) (by rw[MB,List.length_take,Nat.min_eq_left hmy])) sm
   ·obtain⟨hi,hx2⟩:=abu.1 hx;rw[List.length_take]at hi;have him:i<m:=by omega
    have h9:i*k.sz+k.sz≤m*k.sz:=by rw[←Nat.succ_mul];exact ab5 _ him
    rw[List.getElem?_take,if_pos him]at hx;refine aI.o9 ?_ (nv i x hx);simp only[cs];rw[List.drop_take,List.take_take,Nat.min_eq_left (by omega)]
   ·rw[List.getElem?_drop]at hx;refine aI.o9 ?_ (hv _ x hx);rw[List.drop_drop,Nat.add_mul]
mutual
theorem aJ.imp{p q:Nat→Prop}(HR:∀i,p i→q i):∀{a:AV},aJ p a→aJ q a
 |.no,_=>by simp only[aJ]
 |.bool b,_=>by simp only[aJ]
 |.int k n,_=>by simp only[aJ]
 |.str s,_=>by simp only[aJ]
 |.l8,_=>by simp only[aJ]
 |.fW,_=>by simp only[aJ]
 |.ref id s i off,h=>by simp only[aJ]at h ⊢;exact HR _ h
 |.fp k x off,_=>by simp only[aJ]
 |.sl ex k xs,_=>by simp only[aJ]
 |.mp kk vk es,_=>by simp only[aJ]
 |.bK id,h=>by simp only[aJ]at h ⊢;exact HR _ h
 |.fn f cap,h=>by simp only[aJ]at h ⊢;exact aC.imp HR h
 |.agg cs,h=>by simp only[aJ]at h ⊢;exact aC.imp HR h
 |.oz cs,h=>by simp only[aJ]at h ⊢;exact aC.imp HR h
theorem aC.imp{p q:Nat→Prop}(HR:∀i,p i→q i):∀{a:List AV},aC p a→aC q a
 |[],_=>by simp only[aC]
 |a::r,h=>by simp only[aC]at h ⊢;exact⟨aJ.imp HR h.1,aC.imp HR h.2⟩
end
theorem aJ.cells{p:Nat→Prop}{a:AV}(h:aJ p a):aC p a.cells:=by
 cases a with
 |agg cs=>grind [AV.cells,aJ]
 |_=>simp_all [AV.cells,aC,trivial]
theorem CF:∀{cs:List AV},Ju cs=true→∀id,AV.bK id∉cs
 |[],_,id=>by simp
 |c::r,hn,id=>by
  intro hm
  cases c with
  |bK i=>simp[Ju]at hn
  |_ =>
   simp only[Ju]at hn;rcases abz.1 hm with e|hm
   ·cases e
   ·exact CF hn id hm
theorem sG:∀{vs:List AV},vB vs=true→∀v∈vs,∀id,AV.bK id∉v.cells
 |[],_,v,hv=>by simp at hv
 |a::r,hn,v,hv=>by
  simp only[vB,Bool.and_eq_true]at hn;rcases abz.1 hv with rfl|hv
  ·exact CF hn.1
  ·exact sG hn.2 v hv
def wV(o:Oper):Bool :=match o.op with
 |.call { callee:=.value _,.. }=>true
 |_=>false
theorem MG{s:List (Nat×AV)}{ρC:Operand→Value}{x:Option Operand}(hx:∀y,x=some y→az Z ψ h w (ρ s y) (ρC y)):eV Z ψ h w (x.map (ρ s)) (x.map ρC):=by
 cases x with
 |none=>trivial
 |some y=>exact hx y rfl
theorem CG{s:List (Nat×AV)}{ρC:Operand→Value}:∀(ps:List (Nat×Operand)),(∀p∈ps,az Z ψ h w (ρ s p.2) (ρC p.2))→(∀p∈ps,ρ s p.2≠.no)→uZ Z ψ h w (ps.map fun p=>(p.1,ρ s p.2)) (ps.map fun p=>(p.1,ρC p.2))
 |[],_,_=>trivial
 |p::r,h1,h2=>⟨rfl,h2 p (by simp),h1 p (by simp),CG r (fun q hq=>h1 q (abt _ hq)) (fun q hq=>h2 q (abt _ hq))⟩
theorem Gi{k:K}{hh:Heap}:∀{ps:List (Nat×AV)} {i:Nat} {xs:List k.T},sr k hh i ps=some xs→∀p∈ps,p.2≠.no
 |[],_,_,_,p,hp=>by simp at hp
 |(j,v)::r,i,xs,hl,p,hp=>by
  simp only[sr]at hl
  split at hl
  ·split at hl
   ·rename_i x ys h1 h2;rcases abz.1 hp with rfl|hp
    ·exact Gc h1
    ·exact Gi h2 p hp
   ·cases hl
  ·cases hl
theorem abo{α:Type}{l:List α}(h:l.length=0+1+1):∃x y,l=[x,y]:=by
 cases l with
 |nil=>simp at h
 |cons a r=>cases r with
  |nil=>simp at h
  |cons b s=>simp_all
theorem MH{a:AV}(h:Zx a=true):a≠.no:=by rintro rfl;cases h
section
variable {Eqs:TypeId→Option K} {Sg:FuncId→Option aN} {F:(f:FuncId)→(g:aN)→g.A→Option g.B}
theorem HS{hh:Heap}{ρC:Operand→Value}{o:Oper}(g:Good Z ψ h w B0 O)(hB:B0≤w.heap.size)(bu:∀id o,hh.get id=some o→h id=some o){id:Nat}(hN:N id){t:TypeId}{s x:AV}{u v:Value}{e:bE} (hs:az Z ψ h w s u) (hx:az Z ψ h w x v) (Bh:aJ (fun i=>¬N i) s) (bj:∀i ty cs,h i=some (.box ty cs)→aC (fun i=>¬N i) cs) (mK:∀v hw,e=.wr v hw→hh.get=h) (he:oV P hh id t s x some=some e) (dg:∀V w',(Builtin.append_ #[t,t] o.type #[u,v]).run P w=.ok V w'→(execOp ρC o).run P w=.ok (.value V) w'):ij P ρC o Z ψ h w B0 O N e:=by
 have Jk:∀i ty cs,h i=some (.box ty cs)→aC (fun i=>i≠id) cs:=fun i ty cs hb=>(bj i ty cs hb).imp (fun j hj e=>hj (by simp_all));unfold oV at he
 split at he
 ·cases he
 ·rename_i et het;have ht:=gi het
  split at he
  ·cases he
  ·rename_i kk XZ
   split at he
   ·rename_i ys Qx jO;obtain⟨inf,z,wA⟩:=cg jO
    split at he
    ·
     cases hc:aL 0 ys.length with
     |false=>simp_all
     |true =>
      rw[hc]at he;cases he;simp only[aL,decide_eq_true_eq]at hc;simp only[az]at hs;subst hs;obtain⟨V,w',h1,h2,h3⟩:=ru (P:=P) (ty:=o.type) g bu hB hN ht wA Qx hx (by omega) Jk;refine⟨V,w',Z,_,.inl (dg V w' h1),by simp only[bE.hp];rw[gQ];exact h2,?_⟩
      grind [bE.v,bE.hp,az,bf]
    ·
     rename_i cF
     split at he
     ·rename_i e' k' xs hg
      split at he
      ·rename_i hc;obtain⟨rfl,rfl⟩:=hc
       cases pf:aL xs.length ys.length with
       |false=>simp_all
       |true =>
        rw[pf]at he;cases he;simp only[aL,decide_eq_true_eq]at pf;have heq:=mK _ _ rfl;have yv:=bu _ _ hg;simp only[az]at hs;have hu:=hs.2 (by rw[yv];simp);subst hu;simp only[aJ]at Bh;obtain⟨V,w',h1,h2,h3⟩:=Bg (P:=P) (ty:=o.type) g bu hB hN (fun e=>Bh (by simp_all)) ht wA yv Qx hx pf Jk;refine⟨V,w',Z,_,.inl (dg V w' h1),by simp only[bE.hp];rw[kU,tH,heq];exact h2,?_⟩
        grind [bE.v,bE.hp,az,bf]
      ·cases he
     ·cases he
    ·
     rename_i ex k' xs
     split at he
     ·rename_i hc;subst hc
      cases pf:(ex&&((!ys.isEmpty || xs.isEmpty)&&aL xs.length ys.length)) with
      |false=>simp_all
      |true =>
       rw[pf]at he;cases he;simp only[Bool.and_eq_true,Bool.or_eq_true,aL,decide_eq_true_eq,Bool.not_eq_true',List.isEmpty_eq_false_iff,List.isEmpty_iff]at pf;obtain⟨rfl,bz,Qt⟩:=pf;obtain⟨V,w',h1,h2,h3⟩:=Cq (P:=P) (ty:=o.type) g bu hB hN ht wA hs Qx hx (bz.imp List.length_pos_iff.2 (fun h=>h)) Qt Jk;refine⟨V,w',Z,_,.inl (dg V w' h1),by simp only[bE.hp];rw[gQ];exact h2,?_⟩
       grind [bE.v,bE.hp,az,bf]
     ·cases he
    ·cases he
   ·cases he
theorem CH{ρC:Operand→Value}{o:Oper}(g:Good Z ψ h w B0 O)(hB:B0≤w.heap.size){id:Nat}(hN:N id){t:TypeId}{vs:List AV}{us:Array Value}{e:bE}(hr:au Z ψ h w vs us.toList)(h1:∀u∈us.toList,u.oneCell'=true) (hm:aC (fun i=>¬N i) vs) (bj:∀i ty cs,h i=some (.box ty cs)→aC (fun i=>¬N i) cs) (he:yH id t vs some=some e) (dg:(execOp ρC o).run P w=.ok (.value (.pointer (some ⟨w.heap.size,0,none⟩))) (w.alloc (.cells us t))):ij P ρC o Z ψ h w B0 O N e:=by
 unfold yH at he
 cases he
 have bz:∀i,¬N i→i≠id:=fun j hj e=>hj (by rw[e];exact hN);have n:=wN (N:=N) g hB id t hN hr h1 (fun i ty cs hb=>(bj i ty cs hb).imp bz) (hm.imp bz);refine⟨_,_,Z,_,.inl dg,by simp only[bE.hp];rw[gQ];exact n,?_⟩;simp only[bE.v,bE.hp,az];exact⟨_,rfl,fun _=>by rw[bf];simp[XP]⟩
theorem Qy{hh:Heap}{ρC:Operand→Value}{s:List (Nat×AV)}{o:Oper}(g:Good Z ψ h w B0 O)(hB:B0≤w.heap.size)(bu:∀id o,hh.get id=some o→h id=some o){id:Nat}(hN:N id){t:TypeId}{n:Nat}{ps:Array (Nat×Operand)}{e:bE} (nS:∀p∈ps.toList,az Z ψ h w (ρ s p.2) (ρC p.2)) (bj:∀i ty cs,h i=some (.box ty cs)→aC (fun i=>¬N i) cs) (lQ:Bool) {e0:bE} (X0:e=if lQ then XO e0 else e0) (mK:∀v hw,e=.wr v hw→hh.get=h) (he:wE P hh id t n (ps.toList.map fun p=>(p.1,ρ s p.2)) some=some e0)
  (dg:∀V w',(Instr.buildSlice t n (ps.map fun p=>(p.1,ρC p.2))).run P w=.ok V w'→(execOp ρC o).run P w=.ok (.value V) w'):ij P ρC o Z ψ h w B0 O N e:=by
 have Jk:∀i ty cs,h i=some (.box ty cs)→aC (fun i=>i≠id) cs:=fun i ty cs hb=>(bj i ty cs hb).imp (fun j hj e=>hj (by simp_all));unfold wE at he
 split at he
 ·cases he
 ·rename_i et het;have ht:=gi het
  split at he
  ·cases he
  ·rename_i k hk
   split at he
   ·cases he
   ·cases he
   ·rename_i xs o8 jO;obtain⟨inf,z,wA⟩:=cg jO;have MI:=CG (Z:=Z) (ψ:=ψ) (h:=h) (w:=w) ps.toList nS (fun p hp=>Gi o8 (p.1,ρ s p.2) (ace.2 ⟨p,hp,rfl⟩));have Ol:uZ Z ψ hh.get w (ps.toList.map fun p=>(p.1,ρ s p.2)) (ps.map fun p=>(p.1,ρC p.2)).toList:=by rw[Array.toList_map];exact MI.oF bu
    split at he
    ·rename_i hc;obtain⟨rfl,hn⟩:=hc
     cases tG:vB ((ps.toList.map fun p=>(p.1,ρ s p.2)).map (·.2)) with
     |true =>
      rw[tG]at he;cases he;have ajm:=sG tG;obtain⟨V,w',h1,h2,h3⟩:=JD (P:=P) (N:=N) g (g.sub bu) (fun _ h=>h) hB hN ht wA (fun p hp i b hm=>absurd hm (ajm p.2 (ace.2 ⟨p,hp,rfl⟩) i)) Ol o8 hn Jk
      cases lQ with
      |false =>
       have X0:e=.new (.bK id) [(id,.own (.row et k) xs)]:=X0;subst X0;refine⟨V,w',Z,_,.inl (dg V w' h1),by simp only[bE.hp];rw[gQ];exact h2,?_⟩
       grind [bE.v,bE.hp,az,bf]
      |true =>
       have X0:e=.new (.sl true k xs) []:=X0;subst X0;obtain⟨m1,m2⟩:=S7 g hB h2 h3.2.1 h3.2.2.1 h3.2.2.2;have e1:(bE.new (.sl true k xs) []).hp h=h:=by rfl
       refine⟨V,w',_,_,.inl (dg V w' h1),by rw[e1];exact m1,?_⟩;rw[e1];exact m2
     |false =>
      rw[tG]at he;cases he;have X0:e=.wr (.bK id) ((id,.own (.row et k) xs)::cM hh ((ps.toList.map fun p=>(p.1,ρ s p.2)).flatMap (·.2.cells))):=by rw[X0];cases lQ<;>rfl
      subst X0;have heq:=mK _ _ rfl;subst heq
      let cs:=(ps.toList.map fun p=>(p.1,ρ s p.2)).flatMap (·.2.cells)
      have gd:=jm g cs;obtain⟨V,w',h1,h2,h3⟩:=JD (P:=P) (N:=N) gd g (fun b hb=>.inl hb) hB hN ht wA (fun p hp i b hm bz hb=>.inr ⟨i,List.mem_flatMap.2 ⟨p,hp,hm⟩,bz,hb⟩) Ol o8 hn (fun i ty cs' hb=>Jk i ty cs' (eL _ _ _ _ hb));refine⟨V,w',rX Z ψ hh.get cs,dV ψ id V,.inl (dg V w' h1),?_,?_⟩
      ·simp only[bE.hp];rw[Cv];exact h2.drop (fun b hb=>.inl hb) (fun b hb=>hb.imp (fun h=>h) (fun⟨i,_,h5,h6⟩=>⟨i,h5,h6⟩)) (eL _ _)
      grind [bE.v,bE.hp,az,bf]
    ·cases he
theorem Qz{lQ:Bool}{h:Heap}{id:Nat}{t:TypeId}{n:Nat}{ps:List (Nat×AV)}{e:bE}(he:yI P lQ h id t n ps some=some e):∃e0,wE P h id t n ps some=some e0∧e=if lQ then XO e0 else e0:=by
 unfold yI wE at he;unfold wE
 split at he
 ·cases he
 split at he
 ·cases he
 grind
theorem CI(p:Nat→Prop)(v:Value):aJ p (yw v):=by
 cases v with
 |pointer a=>grind [yw,aJ]
 |slice a n c=>grind [yw,aJ]
 |func fn first cap =>
  cases fn with
  |func f=>grind [yw,aJ,aC]
  |_=>simp only[yw,aJ]
 |_=>simp only[yw,aJ]
theorem yR(p:Nat→Prop):∀vs:List Value,aC p (vs.map yw)
 |[]=>by simp[aC]
 |v::r=>by simp only[List.map_cons,aC];exact⟨CI p v,yR p r⟩
theorem QA(p:Nat→Prop)(v:Value):aC p (vA v).cells:=by
 cases v with
 |agg cs=>grind [vA,AV.cells,yR]
 |_=>simp_all [vA,Gb,aC,CI,trivial]
theorem Tl(EW:∀t k,Eqs t=some k→mL P t k){hh:Heap}{ρC:Operand→Value}{s:List (Nat×AV)}{o:Oper}(g:Good Z ψ h w B0 O)(hB:B0≤w.heap.size)(bu:∀id o,hh.get id=some o→h id=some o){id:Nat}(hN:makes o.op=true→N id){e:bE} (nS:∀x∈o.op.operands,az Z ψ h w (ρ s x) (ρC x)) (hm:∀x∈o.op.operands,aJ (fun i=>¬N i) (ρ s x)) (bj:∀i ty cs,h i=some (.box ty cs)→aC (fun i=>¬N i) cs) (mK:∀v hw,e=.wr v hw→hh.get=h) (Mj:wV o=false) (he:cZ P Eqs Sg F id hh s o some=some e):ij P ρC o Z ψ h w B0 O N e:=by
 obtain⟨dst,op,type,pos,after,guard⟩:=o;have two:∀{a b:Operand},(∀x∈(#[a,b]:Array Operand),az Z ψ h w (ρ s x) (ρC x))→az Z ψ h w (ρ s a) (ρC a)∧az Z ψ h w (ρ s b) (ρC b):=fun hx=>⟨hx _ (by simp),hx _ (by simp)⟩
 cases op<;>simp only[cZ]at he<;>simp only[Op.operands]at nS hm<;>first|(cases he;done)|skip
 case move x=>cases he;exact ij.val g (V:=ρC x) (by simp[execOp]) (nS x (by simp))
 case assign x=>cases he;exact ij.val g (V:=ρC x) (by simp[execOp]) (nS x (by simp))
 case pick c a b =>
  have h1:=nS c (by simp);have h2:=nS a (by simp);have h3:=nS b (by simp)
  split at he
  ·rename_i t ht
   cases he
   rw[ht]at h1;simp only[az]at h1;refine ij.val g (V:=if t then ρC a else ρC b) (by simp[execOp,h1,asBool]) ?_;unfold Zv
   split
   ·rename_i p q hp hq;rw[hp]at h2;rw[hq]at h3;simp only[az]at h2 h3 ⊢
    cases t<;>simp[h2,h3]
   ·cases t
    ·exact h3
    ·exact h2
  ·cases he
 case alloc t =>
  split at he
  ·rename_i z hz;obtain⟨i,zv,hi,hzz,rfl,h1⟩:=qv hz;exact CH (us:=zv.cells) g hB (hN rfl) (Cs zv) h1 (QA _ zv) bj he (by simp[execOp,Instr.alloc,sF hi hzz,newVar,newRow,newObj,Sem.run])
  ·cases he
 case box t x =>
  have h1:=nS x (by simp)
  split at he
  ·rename_i hp;have hc:=h1.cells (JG hp);exact CH (us:=(ρC x).cells) g hB (hN rfl) hc (vJ hp hc) (hm x (by simp)).cells bj he (by simp[execOp,Instr.box,newVar,newRow,newObj,Sem.run])
  ·cases he
 case build t ps =>
  unfold tz at he
  split at he
  ·rename_i z fs hz hf
   split at he
   ·rename_i cs adS jN
    cases he
    simp only[Bool.and_eq_true]at jN;obtain⟨jN,hnn⟩:=jN;have adT:fs.toList.all (fun f=>(P.info? f.type).isSome)=true:=jN;have abp:∀p∈ps.toList,az Z ψ h w (ρ s p.2) (ρC p.2):=fun p hp=>nS p.2 (by simp;exact⟨p.1,by simpa using hp⟩);have MI:=CG (Z:=Z) (ψ:=ψ) (h:=h) (w:=w) ps.toList abp (fun p hp=>MH (adb.1 hnn (p.1,ρ s p.2) (ace.2 ⟨p,hp,rfl⟩)));obtain⟨V,h1,h2⟩:=Qm (P:=P) (qs:=ps.map fun p=>(p.1,ρC p.2)) hz hf adT (by rw[Array.toList_map];exact MI) adS;exact ij.val g (V:=V) (by simp only[execOp,Sem.run_bind];rw[h1];simp) h2
   ·cases he
  ·cases he
 case buildSlice t n ps =>
  have abp:∀p∈ps.toList,az Z ψ h w (ρ s p.2) (ρC p.2):=fun p hp=>nS p.2 (by simp;exact⟨p.1,by simpa using hp⟩);obtain⟨e0,h0,h1⟩:=Qz he;exact Qy g hB bu (hN rfl) abp bj (Zy Sg t _) h1 mK h0 (fun V w' h1=>by simp only[execOp,Sem.run_bind];rw[h1];simp)
 case load t a =>
  obtain⟨x,V,rfl,h1,h2⟩:=vH g bu (nS a (by simp)) he;exact ij.val g (V:=V) (by simp[execOp,h1]) h2
 case store t a v =>
  obtain⟨h1,h2⟩:=two nS;have hw:∃hw,e=.wr .no hw:=by obtain⟨hw,_,_,h3,_⟩:=Ap (P:=P) (N:=N) (g.sub bu) (h1.oF bu) (h2.oF bu) he;exact⟨hw,h3⟩
  obtain⟨hw,rfl⟩:=hw;have heq:=mK _ _ rfl;subst heq;obtain⟨Mi,w',Z',h3,h4,h5⟩:=Ap (P:=P) (N:=N) g h1 h2 he
  cases h3
  exact⟨undef,w',Z',ψ,.inr ⟨by simp[execOp,h4],rfl⟩,h5,by simp only[bE.v,az]⟩
 case nilCheck x =>
  have h1:=nS x (by simp)
  split at he
  ·rename_i id s i off hx
   cases he
   rw[hx]at h1;have h2:=h1;simp only[az]at h1;obtain⟨a,ha,_⟩:=h1;exact ij.val g (V:=ρC x) (by simp[execOp,ha]) h2
  ·rename_i k y off hx
   cases he
   rw[hx]at h1;have h2:=h1;simp only[az]at h1;obtain⟨a,us,ha,_⟩:=h1;exact ij.val g (V:=ρC x) (by simp[execOp,ha]) h2
  ·rename_i f cap hx
   cases he
   rw[hx]at h1;have h2:=h1;simp only[az]at h1;obtain⟨vs,ha,_⟩:=h1;exact ij.val g (V:=ρC x) (by simp[execOp,ha]) h2
  ·cases he
 case binOp op t x y yt =>
  obtain⟨h1,h2⟩:=two nS;obtain⟨r,V,rfl,h3,h4⟩:=Qq EW (xo:=x) (yo:=y) h1 h2 he;exact ij.val g (V:=V) (by simp only[execOp,Sem.run_bind]at h3 ⊢;rw[h3];simp) h4
 case unOp op t x =>
  have h1:=nS x (by simp)
  cases op<;>simp only at he<;>first|(cases he;done)|skip
  split at he
  ·rename_i b hx
   cases he
   rw[hx]at h1;simp only[az]at h1;exact ij.val g (V:=.bool (!b)) (by simp[execOp,h1,Op.unary]) (by simp only[az])
  ·cases he
 case convert src dst x =>
  have h1:=nS x (by simp);unfold Cf at he
  split at he
  ·rename_i k1 k2 k3 n hs hd hx
   cases he
   rw[hx]at h1;simp only[az]at h1;exact ij.val g (V:=.int k2 (k2.wrap n)) (by simp[execOp,h1,convert,run_underlying hs,run_underlying hd,Conv.intToInt]) (by simp only[az])
  ·rename_i sv hs hd hx
   cases he
   rw[hx]at h1;have h2:=h1;simp only[az]at h1;exact ij.val g (V:=ρC x) (by simp[execOp,h1,convert,run_underlying hs,run_underlying hd]) h2
  ·rename_i e sv hs hd hx
   split at he
   ·rename_i hu
    cases he
    rw[hx]at h1;simp only[az]at h1;obtain⟨V,w',Z',h2,h3,h4⟩:=Qu (P:=P) (N:=N) g hB hs hd hu sv;have e1:(bE.new (.sl false (.int .u8) (bytesOf sv)) []).hp h=h:=by funext i;simp[bE.hp,Heap.get]
    refine⟨V,w',Z',ψ,.inl (by simp only[execOp,h1,Sem.run_bind,h2,Result.andThen_ok,Sem.run_pure]),by rw[e1];exact h3,?_⟩;rw[e1];exact h4
   ·cases he
  ·rename_i _ e hs hd
   split at he
   ·rename_i hu
    split at he
    ·rename_i xs hx
     cases he
     exact ij.val g (V:=.string (strOf xs)) (by simp only[execOp,Sem.run_bind,XY g bu hs hu hd hx h1,Result.andThen_ok,Sem.run_pure]) (by simp only[az])
    ·cases he
   ·cases he
  ·cases he
 case makeSlice t l c =>
  have h1:=nS l (by simp);have h2:=nS c (by simp);have Jk:∀i ty cs,h i=some (.box ty cs)→aC (fun i=>i≠id) cs:=fun i ty cs hb=>(bj i ty cs hb).imp (fun j hj e=>hj (by rw[e];exact hN rfl));obtain⟨V,w',ψ',h3,h4,h5⟩:=JM g hB (hN rfl) h1 h2 Jk he;exact⟨V,w',Z,ψ',.inl (by simp only[execOp,Sem.run_bind,h3,Result.andThen_ok,Sem.run_pure]),h4,h5⟩
 case makeFunc fn first cap =>
  cases fn<;>simp only at he<;>first|(cases he;done)|skip
  rename_i f
  split at he
  ·rename_i hf
   cases he
   have h0:first=#[]:=adB hf
   subst h0;have hl:∀l:List Operand,(∀x∈l,az Z ψ h w (ρ s x) (ρC x))→au Z ψ h w (l.map (ρ s)) (l.map ρC):=by
    intro l
    induction l with
    |nil=>intro _;simp[au]
    |cons a r ih=>intro ha;simp only[List.map_cons,au];exact⟨_,_,rfl,ha a (by simp),ih (fun x hx=>ha x (abt _ hx))⟩
   exact ij.val g (V:=.func (.func f) #[] (cap.map ρC)) (by simp[execOp,Instr.makeFunc]) (by simp only[az];exact⟨_,rfl,by rw[Array.toList_map];exact hl _ (fun x hx=>nS x (by simp;simpa using hx))⟩)
  ·cases he
 case slice t x lo hi mx =>
  have h1:=nS x (by simp);have h2:eV Z ψ h w (lo.map (ρ s)) (lo.map ρC):=MG (fun y hy=>nS y (by subst hy;simp));have h3:eV Z ψ h w (hi.map (ρ s)) (hi.map ρC):=MG (fun y hy=>nS y (by subst hy;simp));have h4:eV Z ψ h w (mx.map (ρ s)) (mx.map ρC):=MG (fun y hy=>nS y (by subst hy;simp))
  split at he
  ·rename_i ht;unfold yC at he
   split at he
   ·rename_i sv hx hmx
    split at he
    ·rename_i l u hb
     cases ho:aB sv.size l u with
     |false=>rw[ho]at he;cases he
     |true =>
      rw[ho]at he;cases he;rw[hx]at h1;simp only[az]at h1;have hm0:mx=none:=by cases mx with
       |none=>rfl
       |some m=>simp at hmx
      subst hm0;have dg:=vI (P:=P) (w:=w) (b:=false) (acb sv.size) h2 h3 (mx:=none) (mx':=none) trivial hb ho (.inl rfl);exact ij.val g (V:=.string (aa8 sv l u)) (by simp[execOp,Instr.sliceAt,Instr.slice,run_underlying ht,h1,dg,aa8]) (by simp only[az])
    ·cases he
   ·cases he
  ·rename_i et ht
   split at he
   ·rename_i hse;obtain⟨V,Z',h5,h6,h7⟩:=JF (P:=P) (N:=N) g bu ht h1 h2 h3 h4 mK he hse;exact⟨V,w,Z',ψ,.inl (by simp[execOp,h5]),h6,h7⟩
   ·cases he
  ·cases he
 case fieldAddr t x f =>
  have h1:=nS x (by simp)
  split at he
  ·rename_i n ft id sz i off hf hx
   split at he
   ·cases he
   ·rename_i hc
    cases he
    rw[hx]at h1;obtain⟨V,h2,h3⟩:=u9 (P:=P) hf hc h1;exact ij.val g (V:=V) (by simp[execOp,h2]) h3
  ·rename_i n ft k y off hf hx
   split at he
   ·cases he
   ·rename_i hc
    cases he
    rw[hx]at h1;obtain⟨V,h2,h3⟩:=wR (P:=P) hf hc h1;exact ij.val g (V:=V) (by simp[execOp,h2]) h3
  ·cases he
 case field t x f =>
  have h1:=nS x (by simp)
  split at he
  ·rename_i n ft cs hf hx
   split at he
   ·rename_i v hv
    cases he
    rw[hx]at h1;obtain⟨V,h2,h3⟩:=JE (P:=P) hf h1 hv;exact ij.val g (V:=V) (by simp[execOp,h2]) h3
   ·cases he
  ·cases he
 case indexAddr t x i =>
  obtain⟨h1,h2⟩:=two nS;obtain⟨y,V,rfl,h3,h4⟩:=rv g bu h1 h2 he;exact ij.val g (V:=V) (by simp[execOp,h3]) h4
 case index t x i =>
  obtain⟨h1,h2⟩:=two nS
  split at he
  ·rename_i sv ik n ht hx hi;obtain⟨c,hc,Xp⟩:=ada.1 he
   cases Xp
   rw[hx]at h1;rw[hi]at h2;simp only[az]at h1 h2;exact ij.val g (V:=.int .u8 (c.toNat:Int)) (by simp[execOp,Instr.index,asIntOf,run_underlying ht,h1,h2,hc]) (by simp only[az])
  ·cases he
 case extract t i =>
  have h1:=nS t (by simp)
  split at he
  ·rename_i vs hx
   split at he
   ·rename_i v hv
    cases he
    rw[hx]at h1;simp only[az]at h1;obtain⟨us,hu,hl⟩:=h1;obtain⟨u,h2,h3⟩:=hl.get i hv;exact ij.val g (V:=u) (by simp[execOp,Instr.extract,hu,show us[i]? = some u by simpa using h2]) h3
   ·cases he
  ·cases he
 case makeMap t r =>
  cases r with
  |some r=>cases he
  |none =>simp only at he;have Jk:∀i ty cs,h i=some (.box ty cs)→aC (fun i=>i≠id) cs:=fun i ty cs hb=>(bj i ty cs hb).imp (fun j hj e=>hj (by rw[e];exact hN rfl));obtain⟨V,w',ψ',h1,h2,h3⟩:=E6 g hB (hN rfl) Jk he;exact⟨V,w',Z,ψ',.inl (by simp[execOp,h1]),h2,h3⟩
 case lookup t m i ok =>
  obtain⟨h1,h2⟩:=two nS;obtain⟨y,V,rfl,h3,h4⟩:=HP EW g bu h1 h2 he;exact ij.val g (V:=V) (by simp[execOp,h3]) h4
 case mapUpdate t m i v =>
  have h1:=nS m (by simp);have h2:=nS i (by simp);have h3:=nS v (by simp);have hw:∃hw,e=.wr (.oz []) hw:=by obtain⟨hw,_,_,h4,_⟩:=wT (N:=N) EW (g.sub bu) (h1.oF bu) (h2.oF bu) (h3.oF bu) he;exact⟨hw,h4⟩
  obtain⟨hw,rfl⟩:=hw;have heq:=mK _ _ rfl;subst heq;obtain⟨Mi,w',Z',h4,h5,h6⟩:=wT (N:=N) EW g h1 h2 h3 he
  cases h4
  exact⟨undef,w',Z',ψ,.inr ⟨by simp[execOp,h5],rfl⟩,h6,by simp only[bE.v,az,au];exact⟨#[],rfl,rfl⟩⟩
 case range t x =>
  have Jk:∀i ty cs,h i=some (.box ty cs)→aC (fun i=>i≠id) cs:=fun i ty cs hb=>(bj i ty cs hb).imp (fun j hj e=>hj (by rw[e];exact hN rfl));obtain⟨V,w',ψ',h1,h2,h3⟩:=HQ g hB (hN rfl) (nS x (by simp)) Jk he;exact⟨V,w',Z,ψ',.inl (by simp[execOp,h1]),h2,h3⟩
 case next x b =>
  cases b with
  |false=>cases he
  |true =>obtain⟨V,w',h1,h2,h3⟩:=JJ (P:=P) (N:=N) (ty:=type) g bu (nS x (by simp)) mK he;exact⟨V,w',Z,ψ,.inl (by simp[execOp,h1]),h2,h3⟩
 case entry x =>
  obtain⟨y,V,rfl,h1,h2⟩:=JK (P:=P) g bu (nS x (by simp)) he;exact ij.val g (V:=V) (by simp[execOp,h1]) h2
 case call c =>
  obtain⟨callee,args,argTypes⟩:=c
  cases callee with
  |value f=>simp[wV]at Mj
  |invoke r m=>simp only at he;cases he
  |builtin b =>
   have jy:∀x∈args.toList,az Z ψ h w (ρ s x) (ρC x):=fun x hx=>nS x (by simp only[Call.operands];exact Array.mem_append.2 (.inr (by simpa using hx)));have MJ:∀x∈args.toList,aJ (fun i=>¬N i) (ρ s x):=fun x hx=>hm x (by simp only[Call.operands];exact Array.mem_append.2 (.inr (by simpa using hx)));obtain⟨args⟩:=args;obtain⟨argTypes⟩:=argTypes;simp only at he jy MJ
   cases b<;>simp only at he<;>first|(cases he;done)|skip
   case append =>
    split at he
    ·rename_i l1 l2 x y t t'
     split at he
     ·rename_i htt;subst htt;exact HS g hB bu (hN rfl) (jy x (by simp)) (jy y (by simp)) (MJ x (by simp)) bj mK he (fun V w' h1=>by simp only[execOp,resolve,invoke,builtin,Sem.run_bind,Sem.run_pure,Result.andThen_ok,List.map_toArray,List.map_cons,List.map_nil,h1])
     ·split at he
      ·rename_i b hb hy;have h2:=jy y (by simp);rw[hy]at h2;simp only[az]at h2;have Jk:∀i ty cs,h i=some (.box ty cs)→aC (fun i=>i≠id) cs:=fun i ty cs hb=>(bj i ty cs hb).imp (fun j hj e=>hj (by rw[e];exact hN rfl));obtain⟨V,w',ψ',h3,h4,h5⟩:=E7 (ty:=type) (t:=t) (t':=t') g hB bu (hN rfl) hb (jy x (by simp)) (MJ x (by simp)) Jk mK he;exact⟨V,w',Z,ψ',.inl (by simp only[execOp,resolve,invoke,builtin,Sem.run_bind,Sem.run_pure,Result.andThen_ok,List.map_toArray,List.map_cons,List.map_nil,h2,h3]),h4,h5⟩
      ·cases he
    ·cases he
   case copy =>
    split at he
    ·rename_i l1 l2 x y t t';have h1:=jy x (by simp);have h2:=jy y (by simp);have hw:∃n hw,e=.wr (.int .i64 n) hw:=by obtain⟨n,hw,_,h4,_⟩:=CE (N:=N) (t':=t') (ty:=type) (g.sub bu) (h1.oF bu) (h2.oF bu) he;exact⟨n,hw,h4⟩
     obtain⟨n,hw,rfl⟩:=hw;have heq:=mK _ _ rfl;subst heq;obtain⟨n',Mi,w',h4,h5,h6⟩:=CE (N:=N) (t':=t') (ty:=type) g h1 h2 he
     cases h4
     exact⟨.int .i64 n,w',Z,ψ,.inl (by simp only[execOp,resolve,invoke,builtin,Sem.run_bind,Sem.run_pure,Result.andThen_ok,List.map_toArray,List.map_cons,List.map_nil,h5]),h6,by simp only[bE.v,az]⟩
    ·cases he
   case delete =>
    split at he
    ·rename_i l1 l2 m x t ts;have h1:=jy m (by simp);have h2:=jy x (by simp);have hw:∃hw,e=.wr (.oz []) hw:=by obtain⟨hw,_,h4,_⟩:=wU (N:=N) (ty:=type) (ts:=ts) EW (g.sub bu) (h1.oF bu) (h2.oF bu) he;exact⟨hw,h4⟩
     obtain⟨hw,rfl⟩:=hw;have heq:=mK _ _ rfl;subst heq;obtain⟨Mi,w',h4,h5,h6⟩:=wU (N:=N) (ty:=type) (ts:=ts) EW g h1 h2 he
     cases h4
     exact⟨.tuple #[],w',Z,ψ,.inl (by simp only[execOp,resolve,invoke,builtin,Sem.run_bind,Sem.run_pure,Result.andThen_ok,List.map_toArray,List.map_cons,List.map_nil,h5]),h6,by simp only[bE.v,az,au];exact⟨#[],rfl,rfl⟩⟩
    ·cases he
   case len =>
    split at he
    ·rename_i l1 l2 x t
     split at he
     ·rename_i htm;obtain⟨n,rfl,h1⟩:=MF (P:=P) (ty:=type) g bu htm (jy x (by simp)) he;exact ij.val g (V:=.int .i64 (n:Int)) (by simp only[execOp,resolve,invoke,builtin,Sem.run_bind,Sem.run_pure,Result.andThen_ok,List.map_toArray,List.map_cons,List.map_nil,h1]) (by simp only[az])
     split at he
     ·rename_i aO;obtain⟨n,rfl,h1⟩:=Qo g bu (jy x (by simp)) he;refine ij.val g (V:=.int .i64 (n:Int)) ?_ (by simp only[az]);rcases h1 with⟨sv,h2,h3,rfl⟩|⟨A,c,h3⟩
      ·unfold aba at aO;rw[h2]at aO
       split at aO
       ·rename_i hu _;simp[execOp,resolve,invoke,builtin,Builtin.len_,run_underlying hu,h3,goInt]
       ·cases aO
       ·rename_i h9;exact(h9 _ rfl).elim
       ·cases aO
      ·have hu:∃e,P.underlying t=some (.slice e):=by
        have h4:=jy x (by simp);rw[h3]at h4;unfold aba at aO
        split at aO
        ·rename_i sv _ hxx;rw[hxx]at h4;simp only[az]at h4;cases h4
        ·cases aO
        ·rename_i e _ hu _;exact⟨_,hu⟩
        ·cases aO
       obtain⟨e,hu⟩:=hu;simp[execOp,resolve,invoke,builtin,Builtin.len_,run_underlying hu,h3,goInt]
     ·cases he
    ·cases he
   all_goals
    unfold Qg at he
    split at he
    ·rename_i k a k' b hxy;have hl:=congrArg List.length hxy;simp only[List.length_map,List.length_cons,List.length_nil]at hl;obtain⟨x,y,rfl⟩:=abo hl;simp only[List.map_cons,List.map_nil,List.cons.injEq,and_true]at hxy;have h1:=jy x (by simp);have h2:=jy y (by simp);rw[hxy.1]at h1;rw[hxy.2]at h2;simp only[az]at h1 h2
     split at he
     ·rename_i hk;subst hk
      cases he
      refine ij.val g (V:=bY (.int _ _)) ?_ (kz _ _)
      first
       |(simp[execOp,resolve,invoke,builtin,Builtin.max_,Builtin.max2,h1,h2,bY];simp only[Int.max_def];split<;>split<;>omega)
       |(simp[execOp,resolve,invoke,builtin,Builtin.min_,Builtin.min2,h1,h2,bY];simp only[Int.min_def];split<;>split<;>omega)
     ·cases he
    ·cases he
end
end Go.Vs
namespace Go.Vs
variable {P:Program} {Z Z' Zf:Nat→Prop} {ψ ψ':Nat→Value} {h h':Hp} {w w':World} {B0:Nat} {O:Nat→Prop} {N:Nat→Prop}
abbrev Au:=Nat×Option Nat×Ob
def dX(L:List Au):Heap:=L.map fun e=>(e.1,e.2.2)
def kA(ψ:Nat→Value):Option Nat→Value
 |some s=>ψ s
 |none=>.slice none 0 0
def fm(ψ:Nat→Value):List Au→Nat→Value
 |[],_=>undef
 |(i,s,_)::r,n=>if i=n then kA ψ s else fm ψ r n
theorem pj{L:List Au}{i:Nat}{o:Ob}(hg:(dX L).get i=some o):∃s,(i,s,o)∈L:=by
 induction L with
 |nil=>simp[dX,Heap.get]at hg
 |cons e r ih =>
  obtain⟨j,s,o'⟩:=e;simp only[dX,List.map_cons,Heap.get]at hg
  split at hg
  ·rename_i e;subst e;cases hg;exact⟨s,abV⟩
  ·obtain⟨s',hs⟩:=ih hg;exact⟨s',abt _ hs⟩
theorem nT{i:Nat}{r:List Nat}(h:cf (i::r)=true):i∉r∧cf r=true:=by simp_all [cf,Bool.and_eq_true,Bool.not_eq_true',List.contains_iff_mem]
theorem jz{L:List Au}(hn:cf (L.map (·.1))=true){i:Nat}{s:Option Nat}{o:Ob}(hm:(i,s,o)∈L):fm ψ L i=kA ψ s:=by
 induction L with
 |nil=>cases hm
 |cons e r ih =>
  obtain⟨j,s',o'⟩:=e;obtain⟨h1,h2⟩:=nT hn;simp only[fm]
  grind
theorem X1{L:List Au}(hs:cf (L.filterMap (·.2.1))=true){i j s:Nat}{o o':Ob}(h1:(i,some s,o)∈L)(h2:(j,some s,o')∈L):i=j∧o=o':=by
 induction L with
 |nil=>cases h1
 |cons e r ih =>
  obtain⟨k,s',o''⟩:=e;have mem:∀{k:Nat} {o:Ob},(k,some s,o)∈r→s∈r.filterMap (·.2.1):=fun h=>adR.2 ⟨_,h,rfl⟩;rw[List.filterMap_cons]at hs
  cases s' with
  |none =>simp_all
  |some s' =>
   simp only[]at hs;obtain⟨h3,h4⟩:=nT hs
   grind
def JN:(ok:OK)→ok.T→Prop
 |.row _ _,xs=>xs=[]
 |_,_=>False
theorem JN.owns:∀{ok:OK} {xs:ok.T},JN ok xs→jM Z w ok (.slice none 0 0) xs
 |.row ty k,xs,h=>by have h:xs=[]:=h;subst h;exact⟨[],⟨by simp,.inl ⟨rfl,none,rfl⟩⟩,fun i x hx=>by simp at hx⟩
 |.map _ _,_,h=>h.elim
 |.iter _ _,_,h=>h.elim
 |.oT,_,h=>h.elim
def wW(Z:Nat→Prop)(ψ:Nat→Value)(h:Hp)(w:World)(h':Hp)(ψ':Nat→Value):Au→Prop
 |(_,some s,.own ok xs)=>h s=some (.own ok xs)
 |(_,none,.own ok xs)=>JN ok xs
 |(_,some s,.box ty cs')=>(∃cs,h s=some (.box ty cs))∧∀gg vs,ψ s=.pointer (some ⟨gg,0,none⟩)→w.heap[gg]? = some (.cells vs ty (0,0))→au Z ψ' h' w cs' vs.toList
 |(_,none,.box _ _)=>False
theorem Good.rename(g:Good Z ψ h w B0 O){L:List Au}(hn:cf (L.map (·.1))=true)(hs:cf (L.filterMap (·.2.1))=true)(jO:∀e∈L,wW Z ψ h w (dX L).get (fm ψ L) e) :
  Good Z (fm ψ L) (dX L).get w B0 O:=by
 have src:∀id b,(dX L).get id≠none→ob (fm ψ L id)=some b→∃s o,(id,some s,o)∈L∧h s≠none∧ob (ψ s)=some b:=fun id b h1 h2=>by
  obtain⟨o,ho⟩:=abK.1 h1;obtain⟨s,hm⟩:=pj ho;rw[jz hn hm]at h2
  cases s with
  |none=>simp[kA,ob]at h2
  |some s =>
   have h3:=jO _ hm;refine⟨s,o,hm,?_,h2⟩
   cases o with
   |box ty cs=>obtain⟨⟨cs0,h4⟩,_⟩:=h3;rw[h4];simp
   |own ok xs=>rw[show h s=some (.own ok xs) from h3];simp
 refine⟨fun id ty cs hb=>?_,fun id ok xs hb=>?_,fun id b h1 h2=>?_,fun id oZ b h1 h2 h3 h4=>?_,g.kx⟩
 ·obtain⟨s,hm⟩:=pj hb;have h3:=jO _ hm;rw[jz hn hm]
  cases s with
  |none=>exact h3.elim
  |some s =>obtain⟨⟨cs0,h4⟩,h5⟩:=h3;obtain⟨gg,vs,h6,h7,h8,h9⟩:=g.box s ty cs0 h4;exact⟨gg,vs,h6,h7,h5 gg vs h6 h7,h9⟩
 ·obtain⟨s,hm⟩:=pj hb;have h3:=jO _ hm;rw[jz hn hm]
  cases s with
  |none=>exact JN.owns h3
  |some s=>exact g.row s ok xs h3
 ·obtain⟨s,o,hm,h3,h4⟩:=src id b h1 h2;exact g.live s b h3 h4
 ·obtain⟨s,o,hm,h5,h6⟩:=src id b h1 h3;obtain⟨s',o',ZE,h5',h6'⟩:=src oZ b h2 h4;have:=g.apart s s' b h5 h5' h6 h6'
  grind [X1]
def BD(hh:Heap)(i:Nat):List AV:=match hh.get i with
 |some (.box _ cs)=>cs
 |_=>[]
def dY:(dR:List CK)→Nat→List AV→rZ dR→List Au
 |[],_,_,_=>[]
 |.val k::r,n,cs,x=>dY r (n+1) (cs.drop k.sz) x.2
 |.own ok::r,n,cs,x=>(n,(qn (cs.headD .no)).head?,.own ok x.1)::dY r (n+1) cs.tail x.2
def fg:(b:BK)→Heap→Nat→Nat→Nat→b.T→List Au
 |.box ty c,hh,i,i',n,x=>(i',some i,.box ty (aG c n x))::dY c n (BD hh i) x
 |.own ok,_,i,i',_,x=>[(i',some i,.own ok x)]
def cz:(bs:List BK)→Heap→List Nat→List Nat→Nat→Af bs→List Au
 |b::r,hh,i::is,i'::is',n,x=>fg b hh i i' n x.1++cz r hh is is' (n+16) x.2
 |_,_,_,_,_,_=>[]
theorem nV:∀(dR:List CK) (n:Nat) (cs:List AV) (x:rZ dR),dX (dY dR n cs x)=aY dR n x
 |[],_,_,_=>rfl
 |.val k::r,n,cs,x=>nV r (n+1) _ x.2
 |.own ok::r,n,cs,x=>by simp only[dY,aY,dX,List.map_cons];rw[←nV r (n+1) cs.tail x.2];rfl
theorem ma:∀(dR:List CK) (n:Nat) (cs:List AV) (x:rZ dR),(dY dR n cs x).map (·.1)=cv dR n
 |[],_,_,_=>rfl
 |.val k::r,n,cs,x=>ma r (n+1) _ x.2
 |.own ok::r,n,cs,x=>by simp only[dY,cv,List.map_cons];rw[ma r (n+1) cs.tail x.2]
theorem yS(c:AV):(qn c).head?.toList=qn c:=by cases c<;>rfl
theorem eu{α β:Type}(f:α→Option β)(a:α)(l:List α):(a::l).filterMap f=(f a).toList++l.filterMap f:=by
 grind
theorem qz{k:K}{r:List CK}{hh:Heap}{cs:List AV}{x:rZ (.val k::r)}(hd:cS (.val k::r) hh cs=some x):dv k ((cs.take k.sz).map (cY hh))=some x.1∧cS r hh (cs.drop k.sz)=some x.2:=by
 have e:cS (.val k::r) hh cs=(match dv k ((cs.take k.sz).map (cY hh)),cS r hh (cs.drop k.sz) with
  |some x,some y=>some ((x,y):k.T×rZ r)
  |_,_=>none):=by rfl
 rw[e]at hd;clear e;generalize dv k ((cs.take k.sz).map (cY hh))=o1 at hd ⊢;generalize cS r hh (cs.drop k.sz)=o2 at hd ⊢
 cases o1 with
 |none=>cases hd
 |some x1 =>
  cases o2 with
  |none=>cases hd
  |some y1=>have:=ac7 hd;subst this;exact⟨rfl,rfl⟩
theorem mM{ok:OK}{r:List CK}{hh:Heap}{cs:List AV}{x:rZ (.own ok::r)}(hd:cS (.own ok::r) hh cs=some x):∃c cs',cs=c::cs'∧eQ hh ok c=some x.1∧cS r hh cs'=some x.2:=by
 cases cs with
 |nil=>cases hd
 |cons c cs =>
  refine⟨c,cs,rfl,?_⟩;have e:cS (.own ok::r) hh (c::cs)=(match eQ hh ok c,cS r hh cs with
   |some x,some y=>some ((x,y):ok.T×rZ r)
   |_,_=>none):=rfl
  rw[e]at hd;clear e;generalize eQ hh ok c=o1 at hd ⊢;generalize cS r hh cs=o2 at hd ⊢
  cases o1 with
  |none=>cases hd
  |some x1 =>
   cases o2 with
   |none=>cases hd
   |some y1=>have:=ac7 hd;subst this;exact⟨rfl,rfl⟩
theorem qA:∀(dR:List CK) (n:Nat) (hh:Heap) (cs:List AV) (x:rZ dR),cS dR hh cs=some x→(dY dR n cs x).filterMap (·.2.1)=gx dR cs
 |[],_,_,cs,_,_=>by cases cs<;>rfl
 |.val k::r,n,hh,cs,x,hd=>by
  obtain⟨_,h2⟩:=qz hd;have e:gx (.val k::r) cs=gx r (cs.drop k.sz):=by cases cs<;>rfl
  rw[e];exact qA r (n+1) hh _ x.2 h2
 |.own ok::r,n,hh,cs,x,hd=>by obtain⟨c,cs',rfl,_,h2⟩:=mM hd;simp only[dY,gx];rw[eu];simp only[List.headD_cons,List.tail_cons];rw[yS,qA r (n+1) hh cs' x.2 h2]
theorem mN{hh:Heap}{ok:OK}{c:AV}{xs:ok.T}(ho:eQ hh ok c=some xs):(c=.fW∧JN ok xs)∨∃id,c=.bK id∧hh.get id=some (.own ok xs):=by
 unfold eQ at ho
 split at ho
 ·cases ok with
  |row _ _=>cases ho;exact .inl ⟨rfl,rfl⟩
  |_=>cases ho
 ·grind
 ·cases ho
theorem HT{hh:Heap}{ok:OK}{c:AV}{xs:ok.T}{v:Value}(ho:eQ hh ok c=some xs)(hr:az Z ψ hh.get w c v){n:Nat}(kd:h' n≠none→ψ' n=kA ψ (qn c).head?):az Z' ψ' h' w' (.bK n) v:=by
 rcases mN ho with⟨rfl,_⟩|⟨id,rfl,hg⟩
 ·simp only[az]at hr ⊢;subst hr;exact⟨⟨rfl,rfl⟩,fun hn=>(kd hn).symm⟩
 ·simp only[az]at hr ⊢;refine⟨hr.1,fun hn=>?_⟩;rw[kd hn];exact hr.2 (by rw[hg];simp)
theorem tM{hh:Heap}(g:Good Z ψ hh.get w B0 O)(hz:∀b,Z b→Z' b):∀(dR:List CK) (n:Nat) (cs:List AV) (x:rZ dR) (vs:List Value),cS dR hh cs=some x →(∀id b,AV.bK id∈rr dR cs→hh.get id≠none→ob (ψ id)=some b→Z' b)→(∀e∈dY dR n cs x,h' e.1≠none→ψ' e.1=kA ψ e.2.1) → au Z ψ hh.get w cs vs→au Z' ψ' h' w (aG dR n x) vs
 |[],n,cs,x,vs,hd,_,_,hr=>by
  cases cs with
  |nil=>simpa only[aG,au] using hr
  |cons c cs=>cases hd
 |.val k::r,n,cs,x,vs,hd,hf,kd,hr=>by
  obtain⟨h1,h2⟩:=qz hd;have e:rr (.val k::r) cs=cs.take k.sz++rr r (cs.drop k.sz):=by cases cs<;>rfl
  rw[e]at hf;have tE:au Z ψ hh.get w (cs.take k.sz++cs.drop k.sz) vs:=by rw[List.take_append_drop];exact hr
  obtain⟨us,ws,rfl,h3,h4⟩:=au.split tE;simp only[aG];have h5:=o6 (Z':=Z') g hz (fun id b bL=>hf id b (abG _ bL)) h3;exact au.append (gY (dw h1 h5)) (tM g hz r (n+1) (cs.drop k.sz) x.2 ws h2 (fun id b bL=>hf id b (abA _ bL)) kd h4)
 |.own ok::r,n,cs,x,vs,hd,hf,kd,hr=>by obtain⟨c,cs',rfl,h1,h2⟩:=mM hd;simp only[au]at hr;obtain⟨v,us,rfl,h3,h4⟩:=hr;simp only[aG,au];refine⟨v,us,rfl,HT h1 h3 (fun hn=>kd (n,_,_) (by simp only[dY];exact abV) hn),?_⟩;exact tM g hz r (n+1) cs' x.2 us h2 hf (fun e he=>kd e (by simp only[dY];exact abt _ he)) h4
theorem fO{b:BK}{r:List BK}{hh:Heap}{i:Nat}{is:List Nat}{x:Af (b::r)}(hd:du (b::r) hh (i::is)=some x):sf b hh i=some x.1∧du r hh is=some x.2:=by
 have e:du (b::r) hh (i::is)=(match sf b hh i,du r hh is with
   |some x,some y=>some ((x,y):b.T×Af r)
   |_,_=>none):=rfl
 grind
theorem tN{ty:TypeId}{c:List CK}{hh:Heap}{i:Nat}{x:rZ c}(hd:sf (.box ty c) hh i=some x):∃cs,hh.get i=some (.box ty cs)∧cS c hh cs=some x:=by
 grind [sf,B9]
theorem kB{hh:Heap}{ok:OK}{i:Nat}{x:ok.T}(h:eQ hh ok (.bK i)=some x):hh.get i=some (.own ok x):=by
 rcases mN h with⟨h,_⟩|⟨id,h,hg⟩
 ·cases h
 simp_all
theorem Gj{ok:OK}{hh:Heap}{i:Nat}{x:ok.T}(hd:sf (.own ok) hh i=some x):hh.get i=some (.own ok x):=kB hd
theorem qB{hh:Heap}{i:Nat}{ty:TypeId}{cs:List AV}(hg:hh.get i=some (.box ty cs)):BD hh i=cs:=by grind [BD]
theorem HU(b:BK){hh:Heap}{i i' n:Nat}(x:b.T):dX (fg b hh i i' n x)=km b i' n x:=by
 cases b with
 |box ty c=>grind [fg,km,nV,BD,dX]
 |own ok=>rfl
theorem E8(b:BK){hh:Heap}{i i' n:Nat}(x:b.T):(fg b hh i i' n x).map (·.1)=i'::cv b.dR n:=by
 cases b with
 |box ty c=>simp only[fg,List.map_cons,BK.dR];rw[ma]
 |own ok=>simp[fg,BK.dR,cv]
theorem JO(b:BK){hh:Heap}{i i' n:Nat}{x:b.T}(hd:sf b hh i=some x):(fg b hh i i' n x).filterMap (·.2.1)=nO b hh i:=by
 cases b with
 |box ty c =>
  grind [tN,fg,nO,eu,qB,qA]
 |own ok=>rfl
theorem jP:∀(bs:List BK) (hh:Heap) (is is':List Nat) (n:Nat) (x:Af bs),du bs hh is=some x→is'.length=bs.length→dX (cz bs hh is is' n x)=bG bs is' n x
 |[],hh,is,is',n,x,_,hl=>by cases is'<;>simp[cz,bG,dX]
 |b::r,hh,[],is',n,x,hd,_=>by cases hd
 |b::r,hh,i::is,[],n,x,_,hl=>by simp at hl
 |b::r,hh,i::is,i'::is',n,x,hd,hl=>by obtain⟨_,h3⟩:=fO hd;have ih:=jP r hh is is' (n+16) x.2 h3 (by simpa using hl);simp only[cz,bG];rw[←ih,←HU b (hh:=hh) (i:=i) x.1];simp[dX]
theorem iw:∀(bs:List BK) (hh:Heap) (is is':List Nat) (n:Nat) (x:Af bs),du bs hh is=some x→is'.length=bs.length→(cz bs hh is is' n x).map (·.1)=b5 bs is' n
 |[],hh,is,is',n,x,_,hl=>by cases is'<;>simp[cz,b5]
 |b::r,hh,[],is',n,x,hd,_=>by cases hd
 |b::r,hh,i::is,[],n,x,_,hl=>by simp at hl
 |b::r,hh,i::is,i'::is',n,x,hd,hl=>by obtain⟨_,h3⟩:=fO hd;have ih:=iw r hh is is' (n+16) x.2 h3 (by simpa using hl);simp only[cz,b5,List.map_append];rw[ih,E8,List.cons_append]
theorem lh:∀(bs:List BK) (hh:Heap) (is is':List Nat) (n:Nat) (x:Af bs),du bs hh is=some x→is'.length=bs.length→(cz bs hh is is' n x).filterMap (·.2.1)=de bs hh is
 |[],hh,is,is',n,x,_,hl=>by cases is'<;>cases is<;>simp[cz,de]
 |b::r,hh,[],is',n,x,hd,_=>by cases hd
 |b::r,hh,i::is,[],n,x,_,hl=>by simp at hl
 |b::r,hh,i::is,i'::is',n,x,hd,hl=>by obtain⟨h1,h3⟩:=fO hd;have ih:=lh r hh is is' (n+16) x.2 h3 (by simpa using hl);simp only[cz,de];rw[List.filterMap_append,ih,JO b h1]
theorem tO{hd:Hp}{hh:Heap}:∀(dR:List CK) (n:Nat) (cs:List AV) (x:rZ dR),cS dR hh cs=some x→(∀s∈gx dR cs,hd s=hh.get s)→∀e∈dY dR n cs x,wW Z ψ hd w h' ψ' e
 |[],n,cs,x,_,_,e,he=>by simp[dY]at he
 |.val k::r,n,cs,x,Xt,hk,e,he=>by
  obtain⟨_,h2⟩:=qz Xt;have e0:gx (.val k::r) cs=gx r (cs.drop k.sz):=by cases cs<;>rfl
  rw[e0]at hk;exact tO r (n+1) _ x.2 h2 hk e he
 |.own ok::r,n,cs,x,Xt,hk,e,he=>by
  obtain⟨c,cs',rfl,h1,h2⟩:=mM Xt;simp only[dY,List.headD_cons,List.tail_cons]at he;simp only[gx]at hk;rcases abz.1 he with rfl|he
  ·rcases mN h1 with⟨rfl,h3⟩|⟨id,rfl,h3⟩
   ·exact h3
   ·show hd id=some (.own ok x.1);rw[hk id (List.mem_append_left _ (by simp[qn])),h3]
  ·exact tO r (n+1) cs' x.2 h2 (fun s hs=>hk s (abA _ hs)) e he
theorem MK{hd:Hp}{hh:Heap}(g:Good Z ψ hh.get w B0 O)(hz:∀b,Z b→Z' b)(b:BK){i i' n:Nat}{x:b.T}(Xt:sf b hh i=some x) (hf:∀id g,AV.bK id∈Ca b hh i→hh.get id≠none→ob (ψ id)=some g→Z' g) (hk:∀s∈nO b hh i,hd s=hh.get s) (kd:∀e∈fg b hh i i' n x,h' e.1≠none→ψ' e.1=kA ψ e.2.1) :
  ∀e∈fg b hh i i' n x,wW Z' ψ hd w h' ψ' e:=by
 intro e he
 cases b with
 |box ty c =>
  obtain⟨cs,h1,h2⟩:=tN Xt;simp only[Ca,nO,h1]at hf hk;have adU:∀e∈dY c n cs x,h' e.1≠none→ψ' e.1=kA ψ e.2.1:=fun e he=>kd e (by grind [fg,qB,List.mem_cons_of_mem]);simp only[fg]at he;rcases abz.1 he with rfl|he
  ·refine⟨⟨cs,by simp_all⟩,fun gg vs h4 h5=>?_⟩;obtain⟨gg',iX,h6,h7,h8,_⟩:=g.box i ty cs h1
   grind [tM]
  grind [qB,tO,List.mem_cons_of_mem]
 |own ok =>
  have h1:=Gj Xt;simp only[fg,List.mem_singleton]at he;subst he;show hd i=some (.own ok x)
  grind [nO]
theorem mO{hd:Hp}{hh:Heap}(g:Good Z ψ hh.get w B0 O)(hz:∀b,Z b→Z' b):∀(bs:List BK) (is is':List Nat) (n:Nat) (x:Af bs),du bs hh is=some x →(∀id b,AV.bK id∈gM bs hh is→hh.get id≠none→ob (ψ id)=some b→Z' b)→(∀s∈de bs hh is,hd s=hh.get s)→(∀e∈cz bs hh is is' n x,h' e.1≠none→ψ' e.1=kA ψ e.2.1) → ∀e∈cz bs hh is is' n x,wW Z' ψ hd w h' ψ' e
 |[],is,is',n,x,_,_,_,_,e,he=>by simp[cz]at he
 |b::r,[],is',n,x,Xt,_,_,_,e,he=>by cases Xt
 |b::r,i::is,[],n,x,_,_,_,_,e,he=>by simp[cz]at he
 |b::r,i::is,i'::is',n,x,Xt,hf,hk,kd,e,he=>by
  obtain⟨h1,h3⟩:=fO Xt;simp only[gM,de]at hf hk;simp only[cz]at he kd;rcases abX.1 he with he|he
  ·exact MK g hz b h1 (fun id g bL=>hf id g (abG _ bL)) (fun s hs=>hk s (abG _ hs)) (fun e he=>kd e (abG _ he)) e he
  ·exact mO g hz r is is' (n+16) x.2 h3 (fun id b bL=>hf id b (abA _ bL)) (fun s hs=>hk s (abA _ hs)) (fun e he=>kd e (abA _ he)) e he
theorem tP{kept:List Nat}{lQ:List AV}(hk:yG kept lQ=true):cf kept=true∧∀(hh:Heap) s,s∈kept→(cM hh lQ).get s=hh.get s:=by
 unfold yG at hk;rw[Bool.and_eq_true]at hk
 grind [qu,tI,List.all_eq_true]
theorem yT{hh:Heap}{lQ:List AV}{kept:List Nat}(g:Good Z ψ hh.get w B0 O)(hk:yG kept lQ=true){L:List Au}(hn:cf (L.map (·.1))=true)(hs:L.filterMap (·.2.1)=kept) (jO:∀e∈L,wW (rX Z ψ hh.get lQ) ψ (cM hh lQ).get w (dX L).get (fm ψ L) e):Good (rX Z ψ hh.get lQ) (fm ψ L) (dX L).get w B0 O :=(jm g lQ).rename hn (by grind [tP]) jO
theorem BE{L:List Au}(hn:cf (L.map (·.1))=true):∀e∈L,(dX L).get e.1≠none→fm ψ L e.1=kA ψ e.2.1:=fun⟨i,s,o⟩ he _=>jz hn he
theorem nW(A B:List Au):dX (A++B)=dX A++dX B:=by simp[dX]
theorem BF{hh:Heap}{i s i':Nat}{v:Value}(hr:az Z ψ hh.get w (.ref i s 0 0) v)(hi:hh.get i≠none)(kd:h' i'≠none→ψ' i'=ψ i):az Z' ψ' h' w' (.ref i' 0 0 0) v:=by simp only[az]at hr ⊢;obtain⟨a,rfl,ha⟩:=hr;refine⟨a,rfl,fun hn=>?_⟩;rw[kd hn,ha hi];simp
theorem qC{v:AV}{i:Nat}(h:F6 v=some i):∃s,v=.ref i s 0 0:=by
 unfold F6 at h
 grind
theorem jQ{hh:Heap}:∀(bs:List BK) (is:List Nat) (x:Af bs),du bs hh is=some x→is.length=bs.length∧∀i∈is,hh.get i≠none
 |[],[],_,_=>⟨rfl,fun i hi=>by cases hi⟩
 |[],_::_,_,h=>by cases h
 |_::_,[],_,h=>by cases h
 |b::r,i::is,x,h=>by
  obtain⟨h1,h3⟩:=fO h;obtain⟨h4,h5⟩:=jQ r is x.2 h3;refine⟨by simp[h4],fun j hj=>?_⟩;rcases abz.1 hj with rfl|hj
  ·cases b with
   |box ty c=>grind [tN]
   |own ok=>rw[Gj h1];simp
  simp_all
theorem lj{hh:Heap}:∀(bs:List BK) (is is':List Nat) (n:Nat) (x:Af bs),is.length=bs.length→∀p∈is.zip is',∃o,(p.2,some p.1,o)∈cz bs hh is is' n x
 |[],is,is',n,x,hl,p,hp=>by simp_all
 |b::r,[],is',n,x,hl,p,hp=>by simp at hp
 |b::r,i::is,[],n,x,hl,p,hp=>by simp at hp
 |b::r,i::is,i'::is',n,x,hl,p,hp=>by
  simp only[List.zip_cons_cons]at hp;simp only[cz];rcases abz.1 hp with rfl|hp
  ·cases b with
   |box ty c=>grind [List.mem_append_left,fg,List.mem_cons_self]
   |own ok=>grind [List.mem_append_left,fg,List.mem_cons_self]
  ·obtain⟨o,ho⟩:=lj r is is' (n+16) x.2 (by simpa using hl) p hp;exact⟨o,abA _ ho⟩
theorem Om{hd:Hp}{hh:Heap}{ok:OK}{c:AV}{xs:ok.T}(ho:eQ hh ok c=some xs)(hk:∀s∈qn c,hd s=hh.get s){n:Nat}:wW Z ψ hd w h' ψ' (n,(qn c).head?,.own ok xs):=by
 rcases mN ho with⟨rfl,h3⟩|⟨id,rfl,h3⟩
 ·exact h3
 ·show hd id=some (.own ok xs)
  grind [id,qn]
end Go.Vs
namespace Go.Vs
variable {P:Program} {Z Z':Nat→Prop} {ψ ψ':Nat→Value} {h h':Hp} {w w':World} {B0:Nat} {O:Nat→Prop} {N:Nat→Prop}
def gT:Hp:=fun _=>none
def Mk:Nat→Value:=fun _=>undef
def Gk(g:aN)(x:Js (lT g.ps)):List AV:=(aV g.ps [] 0 x).map (·.2)
def adV(P:Program)(f:FuncId)(g:aN)(x:g.A)(y:g.B):Prop :=∀(Z:Nat→Prop) (w:World) (lk:List Value),(∀b,Z b→b<w.heap.size)→au Z Mk gT w (Gk g x.1) lk → Calls P (f%1000) lk.toArray w fun e w'=>∃v Z' ψ',e=.returned v∧(∀b,Z b→Z' b)∧(∀b,Z' b→Z b∨w.heap.size≤b)∧cO Mk gT w w' ∧ Good Z' ψ' (aq g.rs 3000 y.1).get w' w.heap.size (fun _=>False)∧az Z' ψ' (aq g.rs 3000 y.1).get w' (fD (aX g.rs [] 2000 3000 y.1)) v
theorem Av{p:PK}{ps:List PK}{vs:List AV}(hi:cI (p::ps) vs=some []):∃a r,vs=a::r∧cI ps r=some []∧(p≠.ref∧p≠.own)∧(∀f n,p=.wz f n→a=.fn f [])∧(∀n,p=.agg n→a=.agg []):=by
 cases vs with
 |nil=>cases p<;>simp[cI]at hi
 |cons a r =>
  cases p with
  |val k=>exact⟨a,r,rfl,by simpa only[cI] using hi,by simp,by simp,by simp⟩
  |ref =>
   simp only[cI]at hi
   split at hi<;>simp at hi
  |own =>
   cases a<;>simp only[cI]at hi<;>first|(cases hi;done)|skip
   split at hi<;>simp at hi
  |wz f n =>
   cases a<;>simp only[cI]at hi<;>first|(cases hi;done)|skip
   rename_i f' cap
   split at hi
   ·rename_i hc;obtain⟨rfl,vF⟩:=hc
    split at hi
    ·rename_i a1 b1 h1 h2;simp only[Option.some.injEq,List.append_eq_nil_iff]at hi;obtain⟨rfl,rfl⟩:=hi;have SZ:cap=[]:=by
      cases cap with
      |nil=>rfl
      |cons c cs=>simp only[kq]at h1;split at h1<;>simp at h1
     subst SZ;exact⟨_,r,rfl,h2,by simp,by rintro f n ⟨⟩;rfl,by simp⟩
    ·cases hi
   ·cases hi
  |agg n =>
   cases a<;>simp only[cI]at hi<;>first|(cases hi;done)|skip
   rename_i cs
   split at hi
   ·split at hi
    ·rename_i a1 b1 h1 h2;simp only[Option.some.injEq,List.append_eq_nil_iff]at hi;obtain⟨rfl,rfl⟩:=hi;have MB:cs=[]:=by
      cases cs with
      |nil=>rfl
      |cons c cs=>cases c<;>simp only[qo]at h1<;>first|(cases h1;done)|(split at h1<;>simp at h1)
     subst MB;exact⟨_,r,rfl,h2,by simp,by simp,fun _ _=>rfl⟩
    ·cases hi
   ·cases hi
theorem Aw{k:K}{ps:List PK}{hh:Heap}{a:AV}{r:List AV}{x:k.T×Js (lT ps)}(hv:fK (.val k::ps) hh (a::r)=some x):hY k hh a=some x.1∧fK ps hh r=some x.2:=by
 have e:fK (.val k::ps) hh (a::r)=(match hY k hh a,fK ps hh r with
  |some x,some y=>some ((x,y):k.T×Js (lT ps))
  |_,_=>none):=rfl
 grind
theorem CJ{hh:Heap}(g:Good Z ψ hh.get w B0 O)(hz:∀b,Z b→Z' b)(ps:List PK):∀(s:Nat) (vs:List AV) (us:List Value) (x:Js (lT ps)),(∀v∈vs,∀id b,AV.bK id∈v.cells→hh.get id≠none→ob (ψ id)=some b→Z' b) → cI ps vs=some []→fK ps hh vs=some x→au Z ψ hh.get w vs us→au Z' Mk gT w ((aV ps [] s x).map (·.2)) us:=by
 induction ps with
 |nil =>
  intro s vs us x _ hi hv hr
  cases vs with
  |nil=>simpa only[aV,List.map_nil,au] using hr
  |cons a r=>simp[cI]at hi
 |cons p ps ih =>
  intro s vs us x hb hi hv hr;obtain⟨a,r,rfl,yu,X2,abq,abr⟩:=Av hi;simp only[au]at hr;obtain⟨u,jk,rfl,h3,h4⟩:=hr
  cases p with
  |val k =>obtain⟨h1,h2⟩:=Aw hv;simp only[aV,List.map_cons,au];exact⟨u,jk,rfl,tJ (Z':=Z') (ψ':=Mk) (h':=gT) g hz (hb a abV) h1 h3,ih (s+1) r jk x.2 (fun v hv=>hb v (abt _ hv)) yu h2 h4⟩
  |ref=>exact absurd rfl X2.1
  |own=>exact absurd rfl X2.2
  |wz f n =>have ha:=abq f n rfl;subst ha;have h2:fK ps hh r=some x:=hv;simp only[aV,List.map_cons,au,List.take_nil,List.map_nil,List.drop_nil];simp only[az,au]at h3 ⊢;exact⟨u,jk,rfl,h3,ih (s+1) r jk x (fun v hv=>hb v (abt _ hv)) yu h2 h4⟩
  |agg n =>have ha:=abr n rfl;subst ha;have h2:fK ps hh r=some x:=hv;simp only[aV,List.map_cons,au,List.take_nil,List.map_nil,List.drop_nil];simp only[az,au]at h3 ⊢;exact⟨u,jk,rfl,h3,ih (s+1) r jk x (fun v hv=>hb v (abt _ hv)) yu h2 h4⟩
theorem Good.adW(g:Good Z ψ h w B0 O)(k:cO Mk gT w w')(hz:∀b,Z b→Z' b)(Ck:∀b,Z' b→Z b∨w.heap.size≤b)(ajp:∀b,Z' b→b<w'.heap.size) (hold:∀id,¬N id→h' id=h id∧ψ' id=ψ id) (bj:∀id ty cs,h id=some (.box ty cs)→aC (fun i=>¬N i) cs) (abc:∀id ty cs,N id→h' id=some (.box ty cs)→False) (o8:∀id ok xs,N id→h' id=some (.own ok xs)→jM Z' w' ok (ψ' id) xs) (F9:∀id b,N id→h' id≠none→ob (ψ' id)=some b→w.heap.size≤b∧¬Z' b) (abd:∀id oZ b,N id→N oZ→h' id≠none→h' oZ≠none→ob (ψ' id)=some b→ob (ψ' oZ)=some b→id=oZ) (hB:B0≤w.heap.size) :
  Next Z ψ h w B0 O N Z' ψ' h' w':=by
 have cF:∀b,b<w.heap.size→w'.heap[b]? = w.heap[b]? := fun b hb=>k.block b hb (fun⟨id,h1,_⟩=>h1 rfl);have sm:cr Z w w':=fun b hb=>cF b (g.kx b hb);have yJ:∀id,h' id≠none→(h id≠none∧ψ' id=ψ id)∨N id:=fun id bL=>by
  grind
 have Ga:∀id b,¬N id→h' id≠none→ob (ψ' id)=some b→Own ψ h b:=fun id b hn h1 h2=>by obtain⟨e1,e2⟩:=hold id hn;exact⟨id,by rwa [e1]at h1,by rwa [e2]at h2⟩
 have kk:cO ψ h w w':=⟨k.os,k.tape,k.output,k.size,fun b hb _=>cF b hb⟩;refine⟨hz,fun b hb=>(Ck b hb).imp (fun h=>h) .inr,kk,yJ,⟨fun id ty cs hb=>?_,fun id ok xs hb=>?_,fun id b h1 h2=>?_,fun id oZ b h1 h2 h3 h4=>?_,ajp⟩⟩
 ·by_cases hn:N id
  ·simp_all
  ·obtain⟨e1,e2⟩:=hold id hn;rw[e1]at hb;obtain⟨gg,vs,h1,h2,h3,h4⟩:=g.box id ty cs hb;exact⟨gg,vs,by rw[e2,h1],(cF gg (abI.1 h2).1).trans h2,h3.move hz sm (fun i hp bL=>(yJ i bL).resolve_right hp) (bj id ty cs hb),h4⟩
 ·by_cases hn:N id
  ·simp_all
  ·obtain⟨e1,e2⟩:=hold id hn;rw[e1]at hb;rw[e2];exact(g.row id ok xs hb).kept hz sm (fun gg Qi=>cF gg (g.bO ⟨id,by rw[hb];simp,Qi⟩))
 ·by_cases hn:N id
  ·grind
  ·obtain⟨e1,e2⟩:=hold id hn;rw[e1]at h1;rw[e2]at h2;have h3:=g.live id b h1 h2;refine⟨fun hzb=>?_,h3.2⟩;rcases Ck b hzb with h4|h4
   ·exact h3.1 h4
   ·have:=g.bO ⟨id,h1,h2⟩;omega
 ·by_cases hn:N id<;>by_cases Qj:N oZ
  ·grind
  ·have:=(F9 id b hn h1 h3).1;have:=g.bO (Ga oZ b Qj h2 h4);omega
  ·have:=(F9 oZ b Qj h2 h4).1;have:=g.bO (Ga id b hn h1 h3);omega
  ·obtain⟨e1,e2⟩:=hold id hn;obtain⟨e3,e4⟩:=hold oZ Qj;rw[e1]at h1;rw[e2]at h3;rw[e3]at h2;rw[e4]at h4;exact g.apart id oZ b h1 h2 h3 h4
theorem bJ{r:RK}{rs:List RK}(h:(r::rs).all RK.plain=true):rs.all RK.plain=true:=by simp_all
theorem QB{c:List CK}{rs:List RK}(h:(RK.agg c::rs).all RK.plain=true):c.length≤16:=by simp_all [List.all_cons,Bool.and_eq_true,RK.plain,decide_eq_true_eq]
theorem qD:∀(c:List CK) (a:Nat) (x:rZ c) (i:Nat),i<a→(aY c a x).get i=none
 |[],_,_,_,_=>rfl
 |.val _::r,a,x,i,h=>by simp only[aY];exact qD r (a+1) x.2 i (by omega)
 |.own ok::r,a,x,i,h=>by simp only[aY,Heap.get];rw[if_neg (by omega)];exact qD r (a+1) x.2 i (by omega)
theorem vM:∀(c:List CK) (a:Nat) (x:rZ c) (i:Nat),a+c.length≤i→(aY c a x).get i=none
 |[],_,_,_,_=>rfl
 |.val _::r,a,x,i,h=>by simp only[List.length_cons]at h;simp only[aY];exact vM r (a+1) x.2 i (by omega)
 |.own ok::r,a,x,i,h=>by simp only[List.length_cons]at h;simp only[aY,Heap.get];rw[if_neg (by omega)];exact vM r (a+1) x.2 i (by omega)
theorem vN:∀(c:List CK) (a b:Nat) (x:rZ c) (j:Nat),(aY c a x).get (a+j)=(aY c b x).get (b+j)
 |[],_,_,_,_=>rfl
 |.val _::r,a,b,x,0=>by grind [aY,qD]
 |.own ok::r,a,b,x,0=>by simp[aY,Heap.get]
 |.val _::r,a,b,x,j+1=>by simp only[aY];rw[show a+(j+1)=a+1+j by omega,show b+(j+1)=b+1+j by omega];exact vN r (a+1) (b+1) x.2 j
 |.own ok::r,a,b,x,j+1=>by simp only[aY,Heap.get];rw[if_neg (by omega),if_neg (by omega),show a+(j+1)=a+1+j by omega,show b+(j+1)=b+1+j by omega];exact vN r (a+1) (b+1) x.2 j
theorem oH:∀(c:List CK) (a:Nat) (x:rZ c) (i:Nat) (ty:TypeId) (cs:List AV),(aY c a x).get i≠some (.box ty cs)
 |[],_,_,_,_,_=>by simp[aY,Heap.get]
 |.val _::r,a,x,i,ty,cs=>by simp only[aY];exact oH r (a+1) x.2 i ty cs
 |.own ok::r,a,x,i,ty,cs=>by
  simp only[aY,Heap.get]
  split
  ·simp
  ·exact oH r (a+1) x.2 i ty cs
theorem sH:∀(rs:List RK) (a:Nat) (y:mD rs) (i:Nat),rs.all RK.plain=true→i<a→(aq rs a y).get i=none
 |[],a,y,i,_,h=>rfl
 |.val k::r,a,y,i,hp,h=>by simp only[aq];exact sH r (a+1) y.2 i (bJ hp) (by omega)
 |.own ok::r,a,y,i,hp,h=>by simp only[aq,Heap.get];rw[if_neg (by omega)];exact sH r (a+1) y.2 i (bJ hp) (by omega)
 |.fj _ _::r,a,y,i,hp,h=>by simp only[aq];exact sH r (a+1) y.2 i (bJ hp) (by omega)
 |.agg c::r,a,y,i,hp,h=>by have h1:(aY c a y.1).get i=none:=qD c a y.1 i h;have h2:=sH r (a+1) y.2 i (bJ hp) (by omega);show Heap.get (aY c a y.1++aq r (a+1) y.2) i=none;rw[Heap.get_append,h1,h2]
theorem JP:∀(rs:List RK) (a:Nat) (y:mD rs) (i:Nat),rs.all RK.plain=true→a+rs.length+16≤i→(aq rs a y).get i=none
 |[],a,y,i,_,h=>rfl
 |.val k::r,a,y,i,hp,h=>by simp only[List.length_cons]at h;simp only[aq];exact JP r (a+1) y.2 i (bJ hp) (by omega)
 |.own ok::r,a,y,i,hp,h=>by simp only[List.length_cons]at h;simp only[aq,Heap.get];rw[if_neg (by omega)];exact JP r (a+1) y.2 i (bJ hp) (by omega)
 |.fj _ _::r,a,y,i,hp,h=>by simp only[List.length_cons]at h;simp only[aq];exact JP r (a+1) y.2 i (bJ hp) (by omega)
 |.agg c::r,a,y,i,hp,h=>by simp only[List.length_cons]at h;have hc:=QB hp;have h1:(aY c a y.1).get i=none:=vM c a y.1 i (by omega);have h2:=JP r (a+1) y.2 i (bJ hp) (by omega);show Heap.get (aY c a y.1++aq r (a+1) y.2) i=none;rw[Heap.get_append,h1,h2]
theorem JQ:∀(rs:List RK) (a b:Nat) (y:mD rs) (j:Nat),rs.all RK.plain=true→(aq rs a y).get (a+j)=(aq rs b y).get (b+j)
 |[],_,_,_,_,_=>rfl
 |.val k::r,a,b,y,0,hp=>by simp only[aq];rw[sH _ _ _ _ (bJ hp) (by omega),sH _ _ _ _ (bJ hp) (by omega)]
 |.fj _ _::r,a,b,y,0,hp=>by simp only[aq];rw[sH _ _ _ _ (bJ hp) (by omega),sH _ _ _ _ (bJ hp) (by omega)]
 |.own ok::r,a,b,y,0,hp=>by simp[aq,Heap.get]
 |.val k::r,a,b,y,j+1,hp=>by simp only[aq];rw[show a+(j+1)=a+1+j by omega,show b+(j+1)=b+1+j by omega];exact JQ r (a+1) (b+1) y.2 j (bJ hp)
 |.fj _ _::r,a,b,y,j+1,hp=>by simp only[aq];rw[show a+(j+1)=a+1+j by omega,show b+(j+1)=b+1+j by omega];exact JQ r (a+1) (b+1) y.2 j (bJ hp)
 |.own ok::r,a,b,y,j+1,hp=>by simp only[aq,Heap.get];rw[if_neg (by omega),if_neg (by omega),show a+(j+1)=a+1+j by omega,show b+(j+1)=b+1+j by omega];exact JQ r (a+1) (b+1) y.2 j (bJ hp)
 |.agg c::r,a,b,y,j,hp=>by
  have h1:(aY c a y.1).get (a+j)=(aY c b y.1).get (b+j):=vN c a b y.1 j;have h2:(aq r (a+1) y.2).get (a+j)=(aq r (b+1) y.2).get (b+j):=by
   cases j with
   |zero=>rw[sH _ _ _ _ (bJ hp) (by omega),sH _ _ _ _ (bJ hp) (by omega)]
   |succ j =>rw[show a+(j+1)=a+1+j by omega,show b+(j+1)=b+1+j by omega];exact JQ r (a+1) (b+1) y.2 j (bJ hp)
  show Heap.get (aY c a y.1++aq r (a+1) y.2) (a+j)=Heap.get (aY c b y.1++aq r (b+1) y.2) (b+j);rw[Heap.get_append,Heap.get_append,h1,h2]
theorem tQ:∀(rs:List RK) (a:Nat) (y:mD rs) (i:Nat) (ty:TypeId) (cs:List AV),rs.all RK.plain=true→(aq rs a y).get i≠some (.box ty cs)
 |[],_,_,_,_,_,_=>by simp[aq,Heap.get]
 |.val k::r,a,y,i,ty,cs,hp=>by simp only[aq];exact tQ r (a+1) y.2 i ty cs (bJ hp)
 |.fj _ _::r,a,y,i,ty,cs,hp=>by simp only[aq];exact tQ r (a+1) y.2 i ty cs (bJ hp)
 |.own ok::r,a,y,i,ty,cs,hp=>by
  simp only[aq,Heap.get]
  split
  ·simp
  ·exact tQ r (a+1) y.2 i ty cs (bJ hp)
 |.agg c::r,a,y,i,ty,cs,hp=>by
  have h1:(aY c a y.1).get i≠some (.box ty cs):=oH c a y.1 i ty cs;show Heap.get (aY c a y.1++aq r (a+1) y.2) i≠some (.box ty cs);rw[Heap.get_append]
  split
  ·rename_i o ho;rw[ho]at h1;exact h1
  ·exact tQ r (a+1) y.2 i ty cs (bJ hp)
theorem mP(p:Nat→Prop):∀(k:K) (x:k.T),aC p (enc k x)
 |.int _,_=>by simp only[enc,aC,aJ];exact⟨trivial,trivial⟩
 |.bool,_=>by simp only[enc,aC,aJ];exact⟨trivial,trivial⟩
 |.str,_=>by simp only[enc,aC,aJ];exact⟨trivial,trivial⟩
 |.sl _,_=>by simp only[enc,aC,aJ];exact⟨trivial,trivial⟩
 |.mp _ _,_=>by simp only[enc,aC,aJ];exact⟨trivial,trivial⟩
 |.fn _,_=>by simp only[enc,aC,aJ];exact⟨trivial,trivial⟩
 |.pair a b,x=>by
  simp only[enc];have h1:=mP p a x.1;have h2:=mP p b x.2
  revert h1
  generalize enc a x.1=l
  induction l with
  |nil=>intro _;exact h2
  |cons c r ih=>intro h;simp only[List.cons_append,aC]at h ⊢;exact⟨h.1,ih h.2⟩
 |.one k,x=>by simp only[enc];exact mP p k x
theorem pn(p:Nat→Prop):∀(k:K) (x:k.T),aJ p (cc k x)
 |.int _,_=>by simp only[cc,aJ]
 |.bool,_=>by simp only[cc,aJ]
 |.str,_=>by simp only[cc,aJ]
 |.sl _,_=>by simp only[cc,aJ]
 |.mp _ _,_=>by simp only[cc,aJ]
 |.fn _,_=>by simp only[cc,aJ,aC]
 |.pair a b,x=>by simp only[cc,aJ];exact mP p (.pair a b) x
 |.one k,x=>by simp only[cc,aJ];exact mP p (.one k) x
theorem Tn{k:K}{x:k.T}{v:Value}(hr:az Z ψ h w (cc k x) v):az Z ψ' h' w (cc k x) v :=hr.move (p:=fun _=>False) (fun _ h=>h) (cr.refl _ _) (fun _ hp _=>hp.elim) (pn _ k x)
theorem X3(r:RK)(rs:List RK)(b:Nat)(y:mD (r::rs))(i:Nat)(hi:(aq rs (b+1) y.2).get i≠none):(aq (r::rs) b y).get i≠none:=by
 cases r with
 |val k=>exact hi
 |fj _ _=>exact hi
 |own ok=>grind [aq,Heap.get]
 |agg c =>
  grind [Heap.get,aY,aq,Heap.get_append]
theorem ML(c:List CK):∀{H:Hp} {a b:Nat} {x:rZ c} {vs:List Value},(∀j,(aY c b x).get (b+j)≠none→h' (b+j)≠none→H (a+j)≠none∧ψ' (b+j)=ψ (a+j)) → au Z ψ H w (aG c a x) vs→au Z ψ' h' w (aG c b x) vs:=by
 induction c with
 |nil=>grind [aG,au]
 |cons k c ih =>
  intro H a b x vs hH hr
  cases k with
  |val k =>have tE:au Z ψ H w (enc k x.1++aG c (a+1) x.2) vs:=hr;obtain⟨us,ws,rfl,h1,h2⟩:=tE.split;show au Z ψ' h' w (enc k x.1++aG c (b+1) x.2) (us++ws);refine(h1.move (p:=fun _=>False) (fun _ h=>h) (cr.refl _ _) (fun _ hp _=>hp.elim) (mP _ k x.1)).append (ih (fun j hj bz=>?_) h2);have:=hH (j+1);rw[show b+(j+1)=b+1+j by omega,show a+(j+1)=a+1+j by omega]at this;exact this hj bz
  |own ok =>
   have tE:au Z ψ H w (.bK a::aG c (a+1) x.2) vs:=hr;simp only[au]at tE;obtain⟨v,us,rfl,h1,h2⟩:=tE;show au Z ψ' h' w (.bK b::aG c (b+1) x.2) (v::us);simp only[au];refine⟨v,us,rfl,?_,ih (fun j hj bz=>?_) h2⟩
   ·simp only[az]at h1 ⊢;refine⟨h1.1,fun bz=>?_⟩;obtain⟨h3,h4⟩:=hH 0 (by simp[aY,Heap.get]) bz;simp_all
   ·have:=hH (j+1);rw[show b+(j+1)=b+1+j by omega,show a+(j+1)=a+1+j by omega]at this;refine this ?_ bz;have e:(aY (.own ok::c) b x).get (b+1+j)=(aY c (b+1) x.2).get (b+1+j):=by simp only[aY,Heap.get];grind
    simp_all
theorem Tp(rs:List RK):∀{H:Hp} {n m a b:Nat} {y:mD rs} {vs:List Value},rs.all RK.plain=true→(∀j,(aq rs b y).get (b+j)≠none→h' (b+j)≠none→H (a+j)≠none∧ψ' (b+j)=ψ (a+j)) → au Z ψ H w (aX rs [] n a y) vs→au Z ψ' h' w (aX rs [] m b y) vs:=by
 induction rs with
 |nil=>grind [aX,au]
 |cons r rs ih =>
  intro H n m a b y vs hp hH hr;have hpa:=hp;simp only[List.all_cons,Bool.and_eq_true]at hp;have hH':∀j,(aq rs (b+1) y.2).get (b+1+j)≠none→h' (b+1+j)≠none→H (a+1+j)≠none∧ψ' (b+1+j)=ψ (a+1+j):=fun j hj bz=>by
   have:=hH (j+1)
   grind [X3]
  cases r with
  |val k =>simp only[aX,au]at hr ⊢;obtain⟨v,us,rfl,h1,h2⟩:=hr;exact⟨v,us,rfl,Tn h1,ih hp.2 hH' h2⟩
  |own ok =>simp only[aX,au]at hr ⊢;obtain⟨v,us,rfl,h1,h2⟩:=hr;refine⟨v,us,rfl,?_,ih hp.2 hH' h2⟩;simp only[az]at h1 ⊢;refine⟨h1.1,fun bz=>?_⟩;obtain⟨h3,h4⟩:=hH 0 (by simp[aq,Heap.get]) bz;simp_all
  |fj b c=>simp[RK.plain]at hp
  |agg c =>
   simp only[aX,au]at hr ⊢;obtain⟨v,us,rfl,h1,h2⟩:=hr;refine⟨v,us,rfl,?_,ih hp.2 hH' h2⟩;simp only[az]at h1 ⊢;obtain⟨ws,rfl,h3⟩:=h1;refine⟨ws,rfl,ML c (fun j hj bz=>hH j ?_ bz) h3⟩
   grind [Heap.get,aY,aq,Heap.get_append,absurd]
theorem vO{ZF ZG:Nat→Value}{adX adY:Hp}{adZ ad0:Nat→Prop}{l l':List AV}{V:Value}(hl:l.length=l'.length)(hm:∀vs,au adZ ZF adX w l vs→au ad0 ZG adY w l' vs)(hr:az adZ ZF adX w (fD l) V):az ad0 ZG adY w (fD l') V:=by
 match l,l',hl with
 |[a],[a'],_ =>
  simp only[fD]at hr ⊢;have:=hm [V] (by simp only[au];exact⟨V,[],rfl,hr,rfl⟩);simp only[au]at this;obtain⟨v,us,e,h1,_⟩:=this
  cases e;exact h1
 |[],[],_ =>simp only[fD,az]at hr ⊢;obtain⟨us,rfl,h1⟩:=hr;exact⟨us,rfl,hm _ h1⟩
 |a::b::r,a'::b'::r',_ =>simp only[fD,az]at hr ⊢;obtain⟨us,rfl,h1⟩:=hr;exact⟨us,rfl,hm _ h1⟩
theorem oI(rs:List RK):∀(ids:List Nat) (n m:Nat) (y:mD rs),(aX rs ids n m y).length=rs.length:=by
 induction rs with
 |nil=>intros;rfl
 |cons r rs ih=>intro ids n m y;cases r<;>simp[aX,ih]
theorem BG:∀(k:K) (x:k.T) (r:List AV),dec k (enc k x++r)=some (x,r)
 |.int _,x,r=>by simp only[enc,List.cons_append,List.nil_append,dec,HD,if_true];rfl
 |.bool,x,r=>by simp only[enc,List.cons_append,List.nil_append,dec,Bv];rfl
 |.str,x,r=>by simp only[enc,List.cons_append,List.nil_append,dec,HE];rfl
 |.sl k,x,r=>by simp only[enc,List.cons_append,List.nil_append,dec,N8];rfl
 |.mp kk vk,x,r=>by simp only[enc,List.cons_append,List.nil_append,dec,N9];rfl
 |.fn _,x,r=>by simp only[enc,List.cons_append,List.nil_append,dec,Oc,if_true];rfl
 |.pair a b,x,r=>by simp only[enc,dec,List.append_assoc];rw[BG a x.1 (enc b x.2++r)];simp only[];rw[BG b x.2 r];rfl
 |.one k,x,r=>by simp only[enc,dec];exact BG k x r
theorem vP(k:K)(x:k.T):dv k (enc k x)=some x:=by unfold dv;have:=BG k x [];simp_all
theorem vQ:∀(k:K) (x:k.T),(cc k x).cells=enc k x
 |.int _,_=>rfl
 |.bool,_=>rfl
 |.str,_=>rfl
 |.sl _,_=>rfl
 |.mp _ _,_=>rfl
 |.fn _,_=>rfl
 |.pair a b,x=>rfl
 |.one k,x=>rfl
theorem On:∀(k:K) (x:k.T),cc k x≠.no
 |.int _,_=>by simp[cc]
 |.bool,_=>by simp[cc]
 |.str,_=>by simp[cc]
 |.sl _,_=>by simp[cc]
 |.mp _ _,_=>by simp[cc]
 |.fn _,_=>by simp[cc]
 |.pair a b,x=>by simp[cc]
 |.one k,x=>by simp[cc]
theorem CL:∀(k:K) (x:k.T),(cc k x).isAgg=k.isAgg
 |.int _,_=>rfl
 |.bool,_=>rfl
 |.str,_=>rfl
 |.sl _,_=>rfl
 |.mp _ _,_=>rfl
 |.fn _,_=>rfl
 |.pair a b,x=>rfl
 |.one k,x=>rfl
theorem QC{k:K}{x:k.T}{v:Value}(hr:az Z ψ h w (cc k x) v):aI Z w k x v.cells.toList:=by
 have h1:=hr.cells (On k x)
 grind [vQ,dw,vP]
theorem MM{k:K}{x:k.T}{v:Value}(hr:az Z ψ h w (cc k x) v):(k.isAgg=true→∃vs,v=.agg vs)∧(k.isAgg=false→v.cells=#[v]) :=⟨fun h=>Te (by rw[CL];exact h) hr,fun h=>Ge (by rw[CL];exact h) (On k x) hr⟩
theorem Tq(rs:List RK):∀{H:Hp} {n a:Nat} {y:mD rs} {vs:List Value},rs.all RK.flat=true→rs.all RK.plain=true→au Z ψ H w (aX rs [] n a y) vs→au Z' ψ H w (aX rs [] n a y) vs:=by
 induction rs with
 |nil=>intro H n a y vs _ _ hr;simpa only[aX,au] using hr
 |cons r rs ih =>
  intro H n a y vs hf hp hr;simp only[List.all_cons,Bool.and_eq_true]at hp hf
  cases r with
  |val k =>simp only[aX,au]at hr ⊢;obtain⟨v,us,rfl,h1,h2⟩:=hr;have hk:k.flat=true:=hf.1;obtain⟨h3,h4⟩:=MM h1;exact⟨v,us,rfl,mJ ((QC h1).flat hk) h3 h4,ih hf.2 hp.2 h2⟩
  |own ok =>simp only[aX,au]at hr ⊢;obtain⟨v,us,rfl,h1,h2⟩:=hr;exact⟨v,us,rfl,by simpa only[az] using h1,ih hf.2 hp.2 h2⟩
  |fj b c=>simp[RK.plain]at hp
  |agg c=>simp[RK.flat]at hf
theorem yU:∀(rs:List RK) (a:Nat) (y:mD rs) (i:Nat) (ok:OK) (x:ok.T),rs.all RK.flat=true→rs.all RK.plain=true→(aq rs a y).get i=some (.own ok x)→∃ty k,k.flat=true∧ok=.row ty k
 |[],_,_,_,_,_,_,_,hg=>by simp[aq,Heap.get]at hg
 |.val k::r,a,y,i,ok,x,hf,hp,hg=>by simp only[List.all_cons,Bool.and_eq_true]at hp hf;exact yU r _ _ _ _ x hf.2 hp.2 hg
 |.own XM::r,a,y,i,ok,x,hf,hp,hg=>by
  simp only[List.all_cons,Bool.and_eq_true]at hp hf;simp only[aq,Heap.get]at hg
  split at hg
  ·cases hg
   cases XM with
   |row ty k=>exact⟨ty,k,hf.1,rfl⟩
   |_=>simp[RK.flat]at hf
  ·exact yU r _ _ _ _ x hf.2 hp.2 hg
 |.fj _ _::r,a,y,i,ok,x,hf,hp,hg=>by simp[RK.plain]at hp
 |.agg c::r,a,y,i,ok,x,hf,hp,hg=>by simp[RK.flat]at hf
theorem wX:∀(ps:List PK) (vs:List AV),cI ps vs=some []→∀v∈vs,∀id,AV.bK id∈v.cells→AV.bK id∈dz ps vs
 |[],vs,hi,v,hv,id,bL=>by
  cases vs with
  |nil=>cases hv
  |cons a r=>simp[cI]at hi
 |p::ps,vs,hi,v,hv,id,bL=>by
  obtain⟨a,r,rfl,yu,X2,abq,abr⟩:=Av hi;rcases abz.1 hv with rfl|hv
  ·cases p with
   |val k=>simp only[dz];exact abG _ bL
   |ref=>exact absurd rfl X2.1
   |own=>exact absurd rfl X2.2
   |wz f n=>rw[abq f n rfl]at bL;simp[AV.cells]at bL
   |agg n=>rw[abr n rfl]at bL;simp[AV.cells]at bL
  ·have:=wX ps r yu v hv id bL
   cases p with
   |val k=>simp only[dz];exact abA _ this
   |ref=>exact absurd rfl X2.1
   |own=>exact absurd rfl X2.2
   |wz f n=>simpa only[dz] using this
   |agg n=>simpa only[dz] using this
theorem CM(hh:Heap)(vs:List AV):∀f:FuncId,mF hh f vs%1000=f%1000:=by
 induction vs with
 |nil=>intro f;rfl
 |cons v r ih =>
  intro f
  cases v with
  |fn g cap=>simp only[mF];split<;>exact Nat.add_mul_mod_self_left f 1000 _
  |ref i _ _ _ =>
   simp only[mF]
   split
   ·exact(ih _).trans (Nat.add_mul_mod_self_left f 1000 _)
   ·exact ih f
  |_=>simp only[mF];exact ih f
theorem yV{Sg:FuncId→Option aN}(hh:Heap)(f:FuncId)(vs:List AV):keyOf Sg hh f vs%1000=f%1000:=by
 unfold keyOf
 split
 ·exact(Nat.add_mul_mod_self_right (mF hh f vs) 500 1000).trans (CM hh vs f)
 ·exact CM hh vs f
theorem Next.imp{N':Nat→Prop}(n:Next Z ψ h w B0 O N Z' ψ' h' w')(hi:∀i,N i→N' i):Next Z ψ h w B0 O N' Z' ψ' h' w' :=⟨n.gy,n.fb,n.keep,fun id bL=>(n.ids id bL).imp (fun h=>h) (hi id),n.dA⟩
theorem yW{rs:List RK}{y:mD rs}(hp:rs.all RK.plain=true){id nb:Nat}(g:Good Z ψ h w B0 O)(hB:B0≤w.heap.size) (bj:∀i ty cs,h i=some (.box ty cs)→aC (fun i=>¬N i) cs) (hN:∀j,j<rs.length+16→N (id+j)) (k:cO Mk gT w w') (hz:∀b,Z b→Z' b) (Ck:∀b,Z' b→Z b∨w.heap.size≤b) (gc:Good Z' ψ' (aq rs 3000 y).get w' w.heap.size (fun _=>False)) {v:Value} (hr:az Z' ψ' (aq rs 3000 y).get w' (fD (aX rs [] 2000 3000 y)) v) :
  ∃wY,Next Z ψ h w B0 O N Z' wY (fun i=>match (aq rs id y).get i with|some o=>some o|none=>h i) w' ∧
   az Z' wY (fun i=>match (aq rs id y).get i with|some o=>some o|none=>h i) w' (fD (aX rs [] nb id y)) v:=by
 classical
 let H:Hp:=fun i=>match (aq rs id y).get i with|some o=>some o|none=>h i
 let NN:Nat→Prop:=fun i=>(aq rs id y).get i≠none
 let wY:Nat→Value:=fun i=>if NN i then ψ' (3000+(i-id)) else ψ i
 have hNN:∀i,NN i→∃j,j<rs.length+16∧i=id+j:=fun i hi=>by have h1:¬i<id:=fun aO=>hi (sH rs id y i hp aO);have h2:¬id+rs.length+16≤i:=fun Xs=>hi (JP rs id y i hp Xs);exact⟨i-id,by omega,by omega⟩
 have Bi:∀i,NN i→(aq rs 3000 y).get (3000+(i-id))=(aq rs id y).get i:=fun i hi=>by
  obtain⟨j,_,rfl⟩:=hNN i hi
  grind [id,JQ]
 have hH:∀i,NN i→H i=(aq rs 3000 y).get (3000+(i-id)):=fun i hi=>by
  grind
 have kd:∀i,NN i→wY i=ψ' (3000+(i-id)):=fun i hi=>if_pos hi;have ad1:∀i,NN i→N i:=fun i hi=>by grind
 have n:=Good.adW (N:=NN) (ψ':=wY) (h':=H) g k hz Ck gc.kx (fun i hi=>by
   grind)
  (fun i ty cs hb=>(bj i ty cs hb).imp (fun i hi hni=>hi (ad1 i hni)))
  (fun i ty cs hi hb=>by grind [tQ])
  (fun i ok xs hi hb=>by rw[hH i hi]at hb;rw[kd i hi];exact gc.row _ _ _ hb)
  (fun i b hi h1 h2=>by rw[hH i hi]at h1;rw[kd i hi]at h2;obtain⟨h3,h4⟩:=gc.live _ b h1 h2;simp_all)
  (fun i i' b hi yu h1 h2 h3 h4=>by
   rw[hH i hi]at h1;rw[hH i' yu]at h2;rw[kd i hi]at h3;rw[kd i' yu]at h4;have:=gc.apart _ _ b h1 h2 h3 h4
   grind) hB
 refine⟨wY,n.imp ad1,?_⟩
 grind [vO,oI,Tp,id]
def jR(P:Program)(f:FuncId):Prop:=∃fn,P.funcs[f]? = some fn∧(fn.name== "runtime.NumGoroutine")=false∧fn.body.isSome=true
theorem mb{f:FuncId}(hc:jR P f)(args:Array Value):(callFunc f args).run P w=.ok (.enter f args) w:=by obtain⟨fn,h1,h2,h3⟩:=hc;obtain⟨c,hc⟩:=acn.1 h3;simp_all [callFunc]
def ZH(P:Program)(ρC:Operand→Value)(o:Oper)(Z:Nat→Prop)(ψ:Nat→Value)(h:Hp)(w:World)(B0:Nat)(O N:Nat→Prop)(e:bE):Prop :=∃f args,(execOp ρC o).run P w=.ok (.enter f args) w∧Calls P f args w fun en w'=>∃V Z' ψ',en=.returned V∧Next Z ψ h w B0 O N Z' ψ' (e.hp h) w'∧az Z' ψ' (e.hp h) w' e.v V
def cH:(rs:List RK)→List AV→Nat→mD rs→List Au
 |[],_,_,_=>[]
 |.own ok::r,vs,m,x=>(m,(qn (vs.headD .no)).head?,.own ok x.1)::cH r vs.tail (m+1) x.2
 |.val _::r,vs,m,x=>cH r vs.tail (m+1) x.2
 |.fj _ _::r,vs,m,x=>cH r vs.tail (m+1) x.2
 |.agg c::r,vs,m,x=>dY c m (vs.headD .no).cells x.1++cH r vs.tail (m+1) x.2
theorem g6:∀(rs:List RK) (vs:List AV) (m:Nat) (x:mD rs),dX (cH rs vs m x)=aq rs m x
 |[],_,_,_=>rfl
 |.own ok::r,vs,m,x=>by simp only[cH,aq];rw[←g6 r vs.tail (m+1) x.2];rfl
 |.val _::r,vs,m,x=>g6 r vs.tail (m+1) x.2
 |.fj _ _::r,vs,m,x=>g6 r vs.tail (m+1) x.2
 |.agg c::r,vs,m,x=>by have e1:dX (dY c m (vs.headD .no).cells x.1)=aY c m x.1:=nV c m _ x.1;have e2:=g6 r vs.tail (m+1) x.2;simp only[cH,aq];rw[nW,e2];exact congrArg (·++_) e1
theorem gj:∀(rs:List RK) (vs:List AV) (m:Nat) (x:mD rs),(cH rs vs m x).map (·.1)=bD rs m
 |[],_,_,_=>rfl
 |.own ok::r,vs,m,x=>by simp only[cH,bD,List.map_cons];rw[gj r vs.tail (m+1) x.2]
 |.val _::r,vs,m,x=>gj r vs.tail (m+1) x.2
 |.fj _ _::r,vs,m,x=>gj r vs.tail (m+1) x.2
 |.agg c::r,vs,m,x=>by have e1:(dY c m (vs.headD .no).cells x.1).map (·.1)=cv c m:=ma c m _ x.1;have e2:=gj r vs.tail (m+1) x.2;simp only[cH,bD,List.map_append];rw[e2];exact congrArg (·++_) e1
theorem qE{bs:List BK}{k:K}{r:List RK}{hh:Heap}{ids:List Nat}{vs:List AV}{x:mD (.val k::r)}(hd:bM bs (.val k::r) hh ids vs=some x):∃v iX,vs=v::iX∧hY k hh v=some x.1∧bM bs r hh ids iX=some x.2:=by
 cases vs with
 |nil=>cases hd
 |cons v vs =>
  have e:bM bs (.val k::r) hh ids (v::vs)=(match hY k hh v,bM bs r hh ids vs with
   |some x,some y=>some ((x,y):k.T×mD r)
   |_,_=>none):=rfl
  rw[e]at hd;clear e;refine⟨v,vs,rfl,?_⟩;generalize hY k hh v=o1 at hd ⊢;generalize bM bs r hh ids vs=o2 at hd ⊢
  cases o1 with
  |none=>cases hd
  |some x1 =>
   cases o2 with
   |none=>cases hd
   |some y1=>have:=ac7 hd;subst this;exact⟨rfl,rfl⟩
theorem qF{bs:List BK}{ok:OK}{r:List RK}{hh:Heap}{ids:List Nat}{vs:List AV}{x:mD (.own ok::r)}(hd:bM bs (.own ok::r) hh ids vs=some x):∃v iX,vs=v::iX∧eQ hh ok v=some x.1∧bM bs r hh ids iX=some x.2:=by
 cases vs with
 |nil=>cases hd
 |cons v vs =>
  have e:bM bs (.own ok::r) hh ids (v::vs)=(match eQ hh ok v,bM bs r hh ids vs with
   |some x,some y=>some ((x,y):ok.T×mD r)
   |_,_=>none):=rfl
  rw[e]at hd;clear e;refine⟨v,vs,rfl,?_⟩;generalize eQ hh ok v=o1 at hd ⊢;generalize bM bs r hh ids vs=o2 at hd ⊢
  cases o1 with
  |none=>cases hd
  |some x1 =>
   cases o2 with
   |none=>cases hd
   |some y1=>have:=ac7 hd;subst this;exact⟨rfl,rfl⟩
theorem nX{bs:List BK}{b:Nat}{alts:List (Nat×Nat×Nat)}{r:List RK}{hh:Heap}{ids:List Nat}{vs:List AV}{x:mD (.fj b alts::r)}(hd:bM bs (.fj b alts::r) hh ids vs=some x):∃v iX,vs=v::iX∧oC bs hh ids b alts v=some x.1∧bM bs r hh ids iX=some x.2:=by
 cases vs with
 |nil=>cases hd
 |cons v vs =>
  have e:bM bs (.fj b alts::r) hh ids (v::vs)=(match oC bs hh ids b alts v,bM bs r hh ids vs with
   |some x,some y=>some ((x,y):Option (Fin alts.length×Nat)×mD r)
   |_,_=>none):=rfl
  rw[e]at hd;clear e;refine⟨v,vs,rfl,?_⟩;generalize oC bs hh ids b alts v=o1 at hd ⊢;generalize bM bs r hh ids vs=o2 at hd ⊢
  cases o1 with
  |none=>cases hd
  |some x1 =>
   cases o2 with
   |none=>cases hd
   |some y1=>have:=ac7 hd;subst this;exact⟨rfl,rfl⟩
theorem qG{bs:List BK}{c:List CK}{r:List RK}{hh:Heap}{ids:List Nat}{vs:List AV}{x:mD (.agg c::r)}(hd:bM bs (.agg c::r) hh ids vs=some x):∃cs iX,vs=.agg cs::iX∧cS c hh cs=some x.1∧bM bs r hh ids iX=some x.2:=by
 cases vs with
 |nil=>cases hd
 |cons v vs =>
  have e:bM bs (.agg c::r) hh ids (v::vs)=(match Cc c hh v,bM bs r hh ids vs with
   |some x,some y=>some ((x,y):rZ c×mD r)
   |_,_=>none):=rfl
  rw[e]at hd;clear e;have key:Cc c hh v=some x.1∧bM bs r hh ids vs=some x.2:=by
   generalize Cc c hh v=o1 at hd ⊢;generalize bM bs r hh ids vs=o2 at hd ⊢
   cases o1 with
   |none=>cases hd
   |some x1 =>
    cases o2 with
    |none=>cases hd
    |some y1=>have:=ac7 hd;subst this;exact⟨rfl,rfl⟩
  obtain⟨h1,h2⟩:=key;unfold Cc at h1
  grind
theorem iy{bs:List BK}{hh:Heap}{ids:List Nat}:∀(rs:List RK) (vs:List AV) (x:mD rs),bM bs rs hh ids vs=some x→vs.length=rs.length
 |[],[],_,_=>rfl
 |[],_::_,_,h=>by cases h
 |.val k::r,vs,x,h=>by obtain⟨v,iX,rfl,_,h2⟩:=qE h;simp[iy r iX x.2 h2]
 |.own ok::r,vs,x,h=>by obtain⟨v,iX,rfl,_,h2⟩:=qF h;simp[iy r iX x.2 h2]
 |.fj _ _::r,vs,x,h=>by obtain⟨v,iX,rfl,_,h2⟩:=nX h;simp[iy r iX x.2 h2]
 |.agg _::r,vs,x,h=>by obtain⟨v,iX,rfl,_,h2⟩:=qG h;simp[iy r iX x.2 h2]
theorem jA{bs:List BK}{hh:Heap}{ids:List Nat}:∀(rs:List RK) (vs:List AV) (m:Nat) (x:mD rs),bM bs rs hh ids vs=some x→(cH rs vs m x).filterMap (·.2.1)=ep rs vs
 |[],vs,_,_,_=>by cases vs<;>rfl
 |.own ok::r,vs,m,x,h=>by obtain⟨v,iX,rfl,_,h2⟩:=qF h;simp only[cH,ep,List.headD_cons,List.tail_cons];rw[eu,jA r iX (m+1) x.2 h2];simp only[];rw[yS]
 |.val k::r,vs,m,x,h=>by obtain⟨v,iX,rfl,_,h2⟩:=qE h;simp only[cH,ep,List.tail_cons];exact jA r iX (m+1) x.2 h2
 |.fj _ _::r,vs,m,x,h=>by obtain⟨v,iX,rfl,_,h2⟩:=nX h;simp only[cH,ep,List.tail_cons];exact jA r iX (m+1) x.2 h2
 |.agg c::r,vs,m,x,h=>by obtain⟨cs,iX,rfl,h1,h2⟩:=qG h;simp only[cH,ep,List.headD_cons,List.tail_cons,AV.cells];have e1:(dY c m cs x.1).filterMap (·.2.1)=gx c cs:=qA c m hh cs x.1 h1;rw[List.filterMap_append,jA r iX (m+1) x.2 h2];exact congrArg (·++_) e1
theorem kC{hd:Hp}{bs:List BK}{hh:Heap}{ids:List Nat}:∀(rs:List RK) (vs:List AV) (m:Nat) (x:mD rs),bM bs rs hh ids vs=some x→(∀s∈ep rs vs,hd s=hh.get s)→∀e∈cH rs vs m x,wW Z ψ hd w h' ψ' e
 |[],_,_,_,_,_,e,he=>by simp[cH]at he
 |.own ok::r,vs,m,x,h,hk,e,he=>by
  obtain⟨v,iX,rfl,h1,h2⟩:=qF h;simp only[cH,ep,List.headD_cons,List.tail_cons]at he hk;rcases abz.1 he with rfl|he
  ·exact Om h1 fun s hs=>hk s (abG _ hs)
  ·exact kC r iX (m+1) x.2 h2 (fun s hs=>hk s (abA _ hs)) e he
 |.val k::r,vs,m,x,h,hk,e,he=>by obtain⟨v,iX,rfl,h1,h2⟩:=qE h;exact kC r iX (m+1) x.2 h2 hk e he
 |.fj _ _::r,vs,m,x,h,hk,e,he=>by obtain⟨v,iX,rfl,h1,h2⟩:=nX h;exact kC r iX (m+1) x.2 h2 hk e he
 |.agg c::r,vs,m,x,h,hk,e,he=>by
  obtain⟨cs,iX,rfl,h1,h2⟩:=qG h;simp only[cH,ep,List.headD_cons,List.tail_cons,AV.cells]at he hk;rcases abX.1 he with he|he
  ·exact tO c m cs x.1 h1 (fun s hs=>hk s (abG _ hs)) e he
  ·exact kC r iX (m+1) x.2 h2 (fun s hs=>hk s (abA _ hs)) e he
theorem yY{hh:Heap}{id:Nat}:∀(dR:List CK) (c n:Nat) (cs:List AV) (x:rZ dR),cS dR hh cs=some x→gG dR c=true→cs[nP dR c]? = some (.bK id)→hh.get id≠none∧∃o,(n+c,some id,o)∈dY dR n cs x
 |[],c,n,cs,x,_,h,_=>by simp[gG]at h
 |.val k::r,0,n,cs,x,_,h,_=>by simp[gG]at h
 |.val k::r,c+1,n,cs,x,hd,h,hc=>by obtain⟨_,h2⟩:=qz hd;obtain⟨h3,o,h4⟩:=yY r c (n+1) (cs.drop k.sz) x.2 h2 (by grind [gG]) (by rw[List.getElem?_drop];simpa[nP] using hc);exact⟨h3,o,by rw[show n+(c+1)=n+1+c by omega];exact h4⟩
 |.own ok::r,0,n,cs,x,hd,h,hc=>by
  obtain⟨c0,cs',rfl,h1,h2⟩:=mM hd;simp only[nP,List.getElem?_cons_zero,Option.some.injEq]at hc;subst hc;rcases mN h1 with⟨h3,_⟩|⟨oZ,h3,h4⟩
  ·cases h3
  grind [dY,List.headD_cons,qn,List.head?_cons,List.mem_cons_self]
 |.own ok::r,c+1,n,cs,x,hd,h,hc=>by
  obtain⟨c0,cs',rfl,h1,h2⟩:=mM hd;obtain⟨h3,o,h4⟩:=yY r c (n+1) cs' x.2 h2 (by grind [gG]) (by simp only[nP]at hc;rw[Nat.add_comm]at hc;simpa using hc)
  grind [dY,List.tail_cons,List.mem_cons_of_mem]
theorem CN{hh:Heap}{id c:Nat}:∀(bs:List BK) (b n:Nat) (is is':List Nat) (x:Af bs) (bk:BK) (bi:Nat) (ty:TypeId) (cs:List AV),du bs hh is=some x→is'.length=bs.length→bs[b]? = some bk→is[b]? = some bi→hh.get bi=some (.box ty cs) → gG bk.dR c=true→cs[nP bk.dR c]? = some (.bK id)→hh.get id≠none∧∃o,(n+16*b+c,some id,o)∈cz bs hh is is' n x
 |[],b,n,is,is',x,bk,bi,ty,cs,_,_,h,_,_,_,_=>by simp at h
 |b0::r,b,n,[],is',x,bk,bi,ty,cs,hd,_,_,_,_,_,_=>by cases hd
 |b0::r,b,n,i::is,[],x,bk,bi,ty,cs,_,hl,_,_,_,_,_=>by simp at hl
 |b0::r,0,n,i::is,i'::is',x,bk,bi,ty,cs,hd,hl,h1,h2,h3,h4,h5=>by
  obtain⟨g0,g3⟩:=fO hd;simp only[List.getElem?_cons_zero,Option.some.injEq]at h1 h2;subst h1;subst h2
  cases b0 with
  |own ok=>simp[BK.dR,gG]at h4
  |box ty0 c0 =>
   obtain⟨cs',g1,g2⟩:=tN g0;rw[g1]at h3
   cases h3
   obtain⟨h6,o,h7⟩:=yY c0 c n cs x.1 g2 h4 h5
   grind [cz,fg,qB,List.mem_append_left,List.mem_cons_of_mem]
 |b0::r,b+1,n,i::is,i'::is',x,bk,bi,ty,cs,hd,hl,h1,h2,h3,h4,h5=>by
  obtain⟨_,g3⟩:=fO hd;obtain⟨h6,o,h7⟩:=CN r b (n+16) is is' x.2 bk bi ty cs g3 (by simpa using hl) (by simpa using h1) (by simpa using h2) h3 h4 h5
  grind [cz,List.mem_append_right]
theorem CO{c:List CK}{cs:List AV}{id s off:Nat}{a:Nat×Nat×Nat}(h:Cb c cs id s off a=true):cs[nP c a.1]? = some (.bK id)∧s=a.2.1∧off=a.2.2∧gG c a.1=true:=by
 simp only[Cb,Bool.and_eq_true,decide_eq_true_eq]at h;obtain⟨h1,h2,h3,h4⟩:=h;refine⟨?_,h2,h3,h4⟩;unfold SP at h1
 grind
theorem QD{bs:List BK}{hh:Heap}{ids:List Nat}{b:Nat}{alts:List (Nat×Nat×Nat)}{v:AV}{x:Option (Fin alts.length×Nat)}(hd:oC bs hh ids b alts v=some x):(v=.l8∧x=none) ∨ ∃id i a bi bk ty cs,v=.ref id (alts.get a).2.1 i (alts.get a).2.2∧x=some (a,i)∧ids[b]? = some bi∧bs[b]? = some bk∧hh.get bi=some (.box ty cs)∧cs[nP bk.dR (alts.get a).1]? = some (.bK id)∧gG bk.dR (alts.get a).1=true:=by
 unfold oC at hd
 split at hd
 ·simp_all
 ·rename_i id s i off
  split at hd
  ·rename_i bi bk h1 h2
   split at hd
   ·rename_i ty cs h3
    split at hd
    ·rename_i a h4
     cases hd
     have h4':Cb bk.dR cs id s off (alts.get a)=true:=by grind
     obtain⟨h5,rfl,rfl,h6⟩:=CO h4';exact .inr ⟨id,i,a,bi,bk,ty,cs,rfl,rfl,h1,h2,h3,h5,h6⟩
    ·cases hd
   ·cases hd
  ·cases hd
 ·cases hd
theorem tR{bs:List BK}{hh:Heap}{ids is' ids2:List Nat}{nb:Nat}{yb:Af bs}(g:Good Z ψ hh.get w B0 O)(hz:∀b,Z b→Z' b)(hb:du bs hh ids=some yb)(hl:is'.length=bs.length) (Ts:∀e∈cz bs hh ids is' nb yb,h' e.1≠none→ψ' e.1=kA ψ e.2.1):∀(rs:List RK) (vs:List AV) (m:Nat) (x:mD rs) (us:List Value),bM bs rs hh ids vs=some x →(∀id b,AV.bK id∈gN rs vs→hh.get id≠none→ob (ψ id)=some b→Z' b)→(∀e∈cH rs vs m x,h' e.1≠none→ψ' e.1=kA ψ e.2.1)→au Z ψ hh.get w vs us→au Z' ψ' h' w (aX rs ids2 nb m x) us
 |[],vs,m,x,us,hd,_,_,hr=>by
  have:=iy [] vs x hd
  grind [List.eq_nil_of_length_eq_zero,aX,au]
 |.val k::r,vs,m,x,us,hd,hf,kd,hr=>by obtain⟨v,iX,rfl,h1,h2⟩:=qE hd;simp only[au]at hr;obtain⟨u,jk,rfl,h3,h4⟩:=hr;simp only[aX,au];simp only[gN]at hf;exact⟨u,jk,rfl,tJ g hz (fun id b bL=>hf id b (abG _ bL)) h1 h3,tR g hz hb hl Ts r iX (m+1) x.2 jk h2 (fun id b bL=>hf id b (abA _ bL)) kd h4⟩
 |.own ok::r,vs,m,x,us,hd,hf,kd,hr=>by obtain⟨v,iX,rfl,h1,h2⟩:=qF hd;simp only[au]at hr;obtain⟨u,jk,rfl,h3,h4⟩:=hr;simp only[aX,au];simp only[cH,List.headD_cons,List.tail_cons]at kd;exact⟨u,jk,rfl,HT h1 h3 (fun hn=>kd _ abV hn),tR g hz hb hl Ts r iX (m+1) x.2 jk h2 hf (fun e he=>kd e (abt _ he)) h4⟩
 |.fj b alts::r,vs,m,x,us,hd,hf,kd,hr=>by
  obtain⟨v,iX,rfl,h1,h2⟩:=nX hd;simp only[au]at hr;obtain⟨u,jk,rfl,h3,h4⟩:=hr;simp only[aX,au];refine⟨u,jk,rfl,?_,tR g hz hb hl Ts r iX (m+1) x.2 jk h2 hf kd h4⟩;rcases QD h1 with⟨rfl,h5⟩|⟨id,i,al,bi,bk,ty,cs,rfl,h5,h6,h7,h8,h9,qg⟩
  ·grind [wD,az]
  ·have:x.1=some (al,i):=h5;rw[this];obtain⟨E2,o,Tj⟩:=CN bs b nb ids is' yb bk bi ty cs hb hl h7 h6 h8 qg h9;simp only[wD,az]at h3 ⊢;obtain⟨ad,Xu,ZI⟩:=h3;refine⟨ad,Xu,fun hn=>?_⟩;rw[Ts _ Tj hn,ZI E2];rfl
 |.agg c::r,vs,m,x,us,hd,hf,kd,hr=>by obtain⟨cs,iX,rfl,h1,h2⟩:=qG hd;simp only[au]at hr;obtain⟨u,jk,rfl,h3,h4⟩:=hr;simp only[aX,au];simp only[gN,AV.cells]at hf;simp only[cH,List.headD_cons,List.tail_cons,AV.cells]at kd;refine⟨u,jk,rfl,?_,tR g hz hb hl Ts r iX (m+1) x.2 jk h2 (fun id b bL=>hf id b (abA _ bL)) (fun e he=>kd e (abA _ he)) h4⟩;simp only[az]at h3 ⊢;obtain⟨ws,rfl,h5⟩:=h3;exact⟨ws,rfl,tM g hz c m cs x.1 _ h1 (fun id b bL=>hf id b (abG _ bL)) (fun e he=>kd e (abG _ he)) h5⟩
end Go.Vs
