/- The value semantics is sound -/
import Derived.Test.YtoleelddkocpkaaGreatEngineA
import Derived.Laws.StructEq
import Derived.Laws.Slices
import Derived.Laws.Strings
import Derived.MapKept
import Derived.Lib.AppendStr
import Derived.Laws.BytesString
set_option linter.unusedSimpArgs false
set_option linter.unusedVariables false
namespace Go.Vs
variable {P:Program} {Z Z':Nat→Prop} {ψ ψ':Nat→Value} {h h':Hp} {w w':World} {B0:Nat} {O:Nat→Prop} {N:Nat→Prop}
def bF.hp(h:Hp):bF→Hp
 |.val _=>h
 |.new _ os=>fun i=>match Heap.get os i with
  |some o=>some o
  |none=>h i
 |.wr _ h'=>h'.get
theorem gS(id:Nat)(o:Ob)(h:Hp):(fun i=>match Heap.get [(id,o)] i with|some o=>some o|none=>h i)=dY h id (some o):=by
 funext i;simp only[Heap.get,dY]
 grind
theorem kX(hh:Heap)(id:Nat)(o:Ob):(hh.set id o).get=dY hh.get id (some o):=by
 grind [id,Heap.wW,bh,Heap.Ct,dB]
theorem tS(hh:Heap)(id:Nat):(hh.del id).get=dY hh.get id none:=by
 grind [id,Heap.g6,bh,Heap.jo,dB]
theorem CE(hh:Heap)(id:Nat)(o:Ob):Heap.get ((id,o)::hh)=dY hh.get id (some o):=by
 funext i;simp only[Heap.get,dY]
 grind
def im(P:Program)(ρC:Operand→Value)(o:Oper)(Z:Nat→Prop)(ψ:Nat→Value)(h:Hp)(w:World)(B0:Nat)(O N:Nat→Prop)(e:bF):Prop :=∃V w' Z' ψ',((execOp ρC o).run P w=.ok (.value V) w'∨((execOp ρC o).run P w=.ok .skip w'∧V=undef))∧Next Z ψ h w B0 O N Z' ψ' (e.hp h) w'∧aA Z' ψ' (e.hp h) w' e.v V
theorem im.val{ρC:Operand→Value}{o:Oper}{x:AV}(g:Good Z ψ h w B0 O){V:Value}(hr:(execOp ρC o).run P w=.ok (.value V) w)(hx:aA Z ψ h w x V):im P ρC o Z ψ h w B0 O N (.val x) :=⟨V,w,Z,ψ,.inl hr,Next.refl g,hx⟩
theorem Tz{ty:TypeId}{k:K}{xs:List k.T}{id n:Nat}{x:k.T}(g:Good Z ψ h w B0 O)(hg:h id=some (.own (.row ty k) xs))(hx:xs[n]? = some x) :
  ∃gg us,Yc (ψ id)=gg∧aJ Z w k x us∧∀(j:Nat) u,us[j]? = some u→w.cell? ⟨gg,n*k.sz+j,none⟩=some u:=by
 obtain⟨vs,ho,hv⟩:=g.row id (.row ty k) xs hg;have hn:n<xs.length:=(abC.1 hx).1;obtain⟨hl,e⟩:=ho;rcases e with⟨h0,_⟩|⟨gg,cap,cur,e1,_,e3,_,_,_,e7⟩
 ·omega
 ·refine⟨gg,_,by rw[e1];rfl,hv n x hx,fun j u hu=>?_⟩;rw[List.getElem?_take]at hu
  split at hu
  ·rw[List.getElem?_drop,←e7,List.getElem?_take]at hu
   split at hu
   ·simp only[World.cell?,e3];simpa using hu
   ·cases hu
  ·cases hu
theorem vW{hh:Heap}(g:Good Z ψ h w B0 O)(bz:∀id o,hh.get id=some o→h id=some o){t:TypeId}{a:AV}{v:Value}{e:bF}(hv:aA Z ψ h w a v)(he:mK P hh t a some=some e) :
  ∃x V,e=.val x∧(Instr.loadAt t v).run P w=.ok V w∧aA Z ψ h w x V:=by
 unfold mK at he
 split at he
 ·rename_i id s i off;simp only[aA]at hv;obtain⟨a,rfl,ha⟩:=hv
  split at he
  ·rename_i ty cs hg;have yD:=bz _ _ hg;have JR:=ha (by rw[yD];simp);obtain⟨gg,vs,e1,e2,e3,e4⟩:=g.box id ty cs yD
   split at he
   ·rename_i hi;subst hi
    split at he
    ·rename_i x hx
     cases he
     rw[e1]at JR;simp only[Yc,Nat.zero_mul,Nat.zero_add]at JR;subst JR;obtain⟨V,h1,h2⟩:=kA (a:=⟨gg,off,none⟩) (e3.drop off) (fun j u hu=>by rw[ct];simp only[World.cell?,e2];rw[List.getElem?_drop]at hu;simpa using hu) hx;exact⟨x,V,rfl,h1,h2⟩
    ·cases he
   ·cases he
  ·rename_i ty kk xs hg;have yD:=bz _ _ hg;have JR:=ha (by rw[yD];simp)
   split at he
   ·rename_i hs;subst hs;obtain⟨x,hx,he⟩:=ado.1 he
    split at he
    ·rename_i y hy
     cases he
     obtain⟨gg,us,h1,h2,h3⟩:=Tz g yD hx;rw[h1]at JR;subst JR;obtain⟨V,h4,h5⟩:=kA (a:=⟨gg,i*kk.sz+off,none⟩) ((gZ (ψ:=ψ) (h:=h) h2).drop off) (fun j u hu=>by rw[ct,Nat.add_assoc];exact h3 _ _ (by rw[List.getElem?_drop]at hu;exact hu)) hy;exact⟨y,V,rfl,h4,h5⟩
    ·cases he
   ·cases he
  ·cases he
 ·rename_i kk x off
  split at he
  ·rename_i y hy
   cases he
   simp only[aA]at hv;obtain⟨a,us,rfl,_,h2,h3⟩:=hv;obtain⟨V,h4,h5⟩:=kA ((gZ (ψ:=ψ) (h:=h) h2).drop off) (fun j u hu=>h3 j u (by rw[List.getElem?_drop]at hu;exact hu)) hy;exact⟨y,V,rfl,h4,h5⟩
  ·cases he
 ·cases he
theorem gq{t e:TypeId}(he:su P t=some e):P.underlying t=some (.slice e):=by
 grind [su]
theorem oL{t e:TypeId}(ht:P.underlying t=some (.slice e)){i:TypeInfo}(hi:P.info? e=some i)(a:Addr)(n c:Nat)(k:IntKind)(j:Int)(h0:0≤j)(h1:j<n) :
  (Instr.indexAt t (.slice (some a) n c) (.int k j)).run P w=.ok (.pointer (some (a.add (j.toNat*P.cellsOf e)))) w:=by
 simp[Instr.indexAt,asIntOf,run_underlying ht,h0,h1,dm hi]
theorem Fj{t e:TypeId}{m:Nat}(ht:P.underlying t=some (.array m e)){i:TypeInfo}(hi:P.info? e=some i)(a:Addr)(k:IntKind)(j:Int)(h0:0≤j)(h1:j<m) :
  (Instr.indexAt t (.pointer (some a)) (.int k j)).run P w=.ok (.pointer (some (a.add (j.toNat*P.cellsOf e)))) w:=by
 simp[Instr.indexAt,asIntOf,run_underlying ht,h0,h1,dm hi,Instr.sureAddr]
theorem QG{α:Type}{xs:List α}{i:Int}{x:α}(hx:aU xs i=some x):0≤i∧i<xs.length∧xs[i.toNat]? = some x:=by
 grind [aU,List.getElem?_eq_some_iff]
theorem CF{t:TypeId}{x i:AV}{v u:Value}{e:bF}(hv:aA Z ψ h w x v)(hu:aA Z ψ h w i u)(he:jh P t x i some=some e) :
  ∃y V,e=.val y∧(Instr.indexAt t v u).run P w=.ok V w∧aA Z ψ h w y V:=by
 unfold jh at he
 split at he
 ·rename_i m et id s j off ik n ha;have ht:P.underlying t=some (.array m et):=by
   unfold adT at ha
   split at ha
   ·cases ha;assumption
   ·cases ha
  split at he
  ·cases he
  ·rename_i hs
   cases pG:(decide (0≤n)&&decide (n<(m:Int))) with
   |false=>rw[pG]at he;cases he
   |true =>
    rw[pG]at he
    cases he
    simp only[Bool.and_eq_true,decide_eq_true_eq]at pG;simp only[aA]at hv hu;subst hu;obtain⟨a,rfl,hva⟩:=hv;have hi:∃i,P.info? et=some i:=by
     cases hi:P.info? et with
     |some i=>exact⟨i,rfl⟩
     |none=>exfalso;simp[Program.cellsOf,hi]at hs
    obtain⟨inf,hi⟩:=hi;refine⟨_,_,rfl,Fj ht hi a ik n pG.1 pG.2,?_⟩;simp only[aA];refine⟨_,rfl,fun bM=>?_⟩;rw[hva bM,ct,Nat.add_assoc]
 ·cases he
theorem rJ{hh:Heap}(g:Good Z ψ h w B0 O)(bz:∀id o,hh.get id=some o→h id=some o){t:TypeId}{x i:AV}{v u:Value}{e:bF}(hv:aA Z ψ h w x v)(hu:aA Z ψ h w i u)(he:dN P hh t x i some=some e) :
  ∃y V,e=.val y∧(Instr.indexAt t v u).run P w=.ok V w∧aA Z ψ h w y V:=by
 unfold dN at he
 split at he
 ·exact CF hv hu he
 ·rename_i et het;have ht:=gq het
  ·skip
   split at he
   ·rename_i ex OG xs ik n;simp only[aA]at hv hu;subst hu
    split at he
    ·rename_i hs;obtain⟨y,hy,he⟩:=ado.1 he
     cases he
     obtain⟨h0,h1,h2⟩:=QG hy;obtain⟨hk,_⟩:=hv;simp only[aJ]at hk;obtain⟨v',BL,A,c,rfl,_,_,vl⟩:=hk
     cases BL
     obtain⟨a,us,rfl,hz,hr,hc⟩:=vl _ _ h2;have hi:∃i,P.info? et=some i:=by
      cases hi:P.info? et with
      |some i=>exact⟨i,rfl⟩
      |none=>exfalso;have:=OG.gQ;simp[Program.cellsOf,hi]at hs;omega
     obtain⟨inf,hi⟩:=hi;refine⟨_,_,rfl,oL ht hi a xs.length c ik n h0 h1,?_⟩;simp only[aA];refine⟨_,us,rfl,by rw[fP];exact hz,hr,fun j u hu=>?_⟩;rw[wV,hs];exact hc j u (by simpa using hu)
    ·cases he
   ·rename_i id ik n
    split at he
    ·rename_i ty OG xs hg;have yD:=bz _ _ hg
     split at he
     ·rename_i hs
      cases pG:(decide (0≤n)&&decide (n<(xs.length:Int))) with
      |false=>rw[pG]at he;cases he
      |true =>
       rw[pG]at he
       cases he
       simp only[Bool.and_eq_true,decide_eq_true_eq]at pG;simp only[aA]at hv hu;subst hu;have hvv:=hv.2 (by rw[yD];simp);obtain⟨vs,⟨_,e⟩,_⟩:=g.row id (.row ty OG) xs yD;rcases e with⟨h0,_⟩|⟨gg,cap,cur,e1,_,e3,_⟩
       ·omega
       ·have hi:∃i,P.info? et=some i:=by
         cases hi:P.info? et with
         |some i=>exact⟨i,rfl⟩
         |none=>exfalso;have:=OG.gQ;simp[Program.cellsOf,hi]at hs;omega
        obtain⟨inf,hi⟩:=hi;rw[hvv,e1];refine⟨_,_,rfl,oL ht hi _ xs.length cap ik n pG.1 pG.2,?_⟩;simp only[aA];refine⟨_,rfl,fun _=>?_⟩;rw[e1,hs,ct];simp[Yc]
     ·cases he
    ·cases he
   ·cases he
theorem vm{t:TypeId}(h:P.cellsOf t≠0):∃i,P.info? t=some i:=by
 cases hi:P.info? t with
 |some i=>simp_all
 |none=>grind [absurd,Program.cellsOf]
theorem vn{t:TypeId}{f n:Nat}{ft:TypeId}(hf:ir P t f=some (n,ft))(hc:P.cellsOf ft≠0)(a:Addr) :
  (Instr.fieldAt t (.pointer (some a)) f).run P w=.ok (.pointer (some (a.add n))) w:=by
 unfold ir at hf
 split at hf
 ·rename_i fs ht;obtain⟨fd,hfd,he⟩:=adj.1 hf
  cases he
  obtain⟨i,hi⟩:=vm hc;simp_all [dm,Instr.fieldAt,Sem.run_bind,run_underlying,Result.andThen_ok,Instr.sureAddr,Sem.run_pure,fieldPlace,if_neg]
 ·cases hf
theorem vo{t:TypeId}{f n:Nat}{ft:TypeId}(hf:ir P t f=some (n,ft))(hc:P.cellsOf ft≠0){id s i off:Nat}{v:Value}(hv:aA Z ψ h w (.ref id s i off) v) :
  ∃V,(Instr.fieldAt t v f).run P w=.ok V w∧aA Z ψ h w (.ref id s i (off+n)) V:=by
 simp only[aA]at hv ⊢;obtain⟨a,rfl,ha⟩:=hv;refine⟨_,vn hf hc a,_,rfl,fun bM=>?_⟩;rw[ha bM,ct,Nat.add_assoc]
theorem w7{t:TypeId}{f n:Nat}{ft:TypeId}(hf:ir P t f=some (n,ft))(hc:P.cellsOf ft≠0){k:K}{x:k.T}{off:Nat}{v:Value}(hv:aA Z ψ h w (.fp k x off) v) :
  ∃V,(Instr.fieldAt t v f).run P w=.ok V w∧aA Z ψ h w (.fp k x (off+n)) V:=by
 simp only[aA]at hv ⊢;obtain⟨a,us,rfl,hz,hr,ZY⟩:=hv;refine⟨_,vn hf hc a,_,us,rfl,by grind [fP],hr,fun j u hu=>?_⟩
 grind [wV,Nat.add_assoc]
theorem JY{t ft:TypeId}{f n:Nat}(hf:ir P t f=some (n,ft)){cs:List AV}{x:AV}{v:Value}(hv:aA Z ψ h w (.agg cs) v)(hx:eO P ft (cs.drop n)=some x) :
  ∃V,(Instr.field t v f).run P w=.ok V w∧aA Z ψ h w x V:=by
 simp only[aA]at hv;obtain⟨vs,rfl,hl⟩:=hv;have hd:=hl.drop n;have hlen:=hd.length;unfold ir at hf
 split at hf
 ·rename_i fs ht;obtain⟨fd,hfd,he⟩:=adj.1 hf
  cases he
  unfold eO at hx
  split at hx
  ·rename_i hb
   split at hx
   ·rename_i hle
    cases hx
    obtain⟨i,hi⟩:=Av hb;refine⟨.agg (vs.extract fd.offset (fd.offset+P.cellsOf fd.type)),?_,?_⟩
    ·simp_all [Instr.field,run_underlying,asAgg,part,gR,dm]
    ·simp only[aA];refine⟨_,rfl,?_⟩;rw[Array.toList_extract,List.extract_eq_take_drop,Nat.add_sub_cancel_left];exact hd.take _
   ·cases hx
  ·rename_i hb
   split at hx
   ·rename_i c r hcr
    cases hx
    rw[hcr]at hd;simp only[au]at hd;obtain⟨u,us,hu,h1,_⟩:=hd;refine⟨u,?_,h1⟩;have hg:vs[fd.offset]? = some u:=by
     have:(vs.toList.drop fd.offset)[0]? = some u:=by rw[hu];rfl
     grind
    simp_all [Instr.field,run_underlying,asAgg,part,gR]
   ·cases hx
  ·cases hx
 ·cases hf
theorem QH{hh:Heap}(g:Good Z ψ h w B0 O)(bz:∀id o,hh.get id=some o→h id=some o){x:AV}{v:Value}{e:bF}(hv:aA Z ψ h w x v)(he:Gj hh x some=some e) :
  ∃n:Nat,e=.val (.int .i64 (n:Int))∧((∃s,x=.str s∧v=.string s∧n=s.size)∨∃A c,v=.slice A n c):=by
 unfold Gj at he
 split at he
 ·rename_i s hs
  cases he
  have hx:x=.str s:=by
   cases x with
   |bN id=>simp only[c9]at hs;split at hs<;>cases hs
   |str s'=>simp only[c9]at hs;exact hs
   |_=>simp only[c9]at hs<;>cases hs
  subst hx;simp only[aA]at hv;exact⟨_,rfl,.inl ⟨s,rfl,hv,rfl⟩⟩
 ·rename_i ex k xs hs
  cases he
  have TA:=Gm (Z':=fun b=>Z b∨Own ψ h b) (g.sub bz) (fun b hb=>.inl hb) (fun id b _ bB hb=>.inr (by obtain⟨o,ho⟩:=abS.1 bB;exact⟨id,by rw[bz id o ho];simp,hb⟩)) (hv.oK bz);rw[hs]at TA;simp only[aA,aJ]at TA;obtain⟨⟨v',BL,A,c,rfl,_⟩,_⟩:=TA
  cases BL
  exact⟨_,rfl,.inr ⟨A,c,rfl⟩⟩
 ·rename_i hs
  cases he
  have hx:x=.gh:=by
   cases x with
   |bN id=>simp only[c9]at hs;split at hs<;>cases hs
   |gh=>rfl
   |_=>simp only[c9]at hs<;>cases hs
  subst hx;simp only[aA]at hv;exact⟨0,rfl,.inr ⟨_,_,hv⟩⟩
 ·cases he
def fa(Z:Nat→Prop)(ψ:Nat→Value)(h:Hp)(w:World):Option AV→Option Value→Prop
 |none,none=>True
 |some a,some v=>aA Z ψ h w a v
 |_,_=>False
theorem cm(k:IntKind)(i:Int)(y:Nat)(code:BoundsCode)(h0:0≤i)(h1:i≤y):(Instr.sliceBound (.int k i) y code).run P w=.ok i.toNat w:=by simp[Instr.sliceBound,asIntOf,h0,h1]
theorem vX{b:Bool}{n c:Nat}(hc:n≤c){lo hi mx:Option AV}{OP yz mx':Option Value}{l u:Int}(h1:fa Z ψ h w lo OP)(h2:fa Z ψ h w hi yz)(h3:fa Z ψ h w mx mx') (hb:o4 n lo hi=some (l,u)) (ho:az n l u=true) (hm:mx=none∨(mx=some (.int .i64 u)∧hi≠none)) :
  (Instr.sliceBounds b n c OP yz mx').run P w=.ok (l.toNat,u.toNat,if mx=none then c else u.toNat) w:=by
 simp only[az,Bool.and_eq_true,decide_eq_true_eq]at ho;obtain⟨h4,h5,h6⟩:=ho;have huc:u≤(c:Int):=by omega
 unfold o4 at hb;rcases hm with rfl|⟨rfl,bB⟩
 ·cases mx' with
  |some _=>exact h3.elim
  |none =>
   split at hb
   all_goals first|(cases hb;done)|skip
   ·cases hb
    cases OP with
    |some _=>exact h1.elim
    |none =>
     cases yz with
     |some _=>exact h2.elim
     |none=>simp[Instr.sliceBounds]
   ·cases hb
    cases OP with
    |none=>exact h1.elim
    |some v =>
     simp only[fa,aA]at h1;subst h1
     cases yz with
     |some _=>exact h2.elim
     |none=>simp[Instr.sliceBounds,cm .i64 l n _ h4 h5]
   ·cases hb
    cases OP with
    |some _=>exact h1.elim
    |none =>
     cases yz with
     |none=>exact h2.elim
     |some v =>
      simp only[fa,aA]at h2;subst h2
      cases b<;>simp[Instr.sliceBounds,cm .i64 u c _ (by omega) huc]
   ·cases hb
    cases OP with
    |none=>exact h1.elim
    |some v =>
     simp only[fa,aA]at h1;subst h1
     cases yz with
     |none=>exact h2.elim
     |some v =>
      simp only[fa,aA]at h2;subst h2;have hx:l≤((u.toNat:Nat):Int):=by omega
      cases b<;>simp[Instr.sliceBounds,cm .i64 u c _ (by omega) huc,cm .i64 l u.toNat _ h4 hx]
 ·cases mx' with
  |none=>exact h3.elim
  |some m =>
   simp only[fa,aA]at h3;subst h3;have huu:u≤((u.toNat:Nat):Int):=by omega
   have hx:l≤((u.toNat:Nat):Int):=by omega
   split at hb
   all_goals first|(cases hb;done)|skip
   ·exact absurd rfl bB
   ·exact absurd rfl bB
   ·cases hb
    cases OP with
    |some _=>exact h1.elim
    |none =>
     cases yz with
     |none=>exact h2.elim
     |some v =>
      simp only[fa,aA]at h2;subst h2
      cases b<;>simp[Instr.sliceBounds,cm .i64 u c _ (by omega) huc,cm .i64 u u.toNat _ (by omega) huu]
   ·cases hb
    cases OP with
    |none=>exact h1.elim
    |some v =>
     simp only[fa,aA]at h1;subst h1
     cases yz with
     |none=>exact h2.elim
     |some v =>
      simp only[fa,aA]at h2;subst h2
      cases b<;>simp[Instr.sliceBounds,cm .i64 u c _ (by omega) huc,cm .i64 u u.toNat _ (by omega) huu,cm .i64 l u.toNat _ h4 hx]
theorem CG{t e:TypeId}(ht:P.underlying t=some (.slice e)){kk:K}(iY:P.cellsOf e=kk.sz){xs:List kk.T}{v:Value}(hr:aJ Z w (.sl kk) xs [v]){lo hi mx:Option AV}{OP yz mx':Option Value}{l u:Int} (h1:fa Z' ψ h w lo OP) (h2:fa Z' ψ h w hi yz) (h3:fa Z' ψ h w mx mx') (hb:o4 xs.length lo hi=some (l,u)) (ho:az xs.length l u=true) (hm:mx=none∨(mx=some (.int .i64 u)∧hi≠none)) :
  ∃V,(Instr.sliceAt t v OP yz mx').run P w=.ok V w∧aJ Z w (.sl kk) (cut xs l u) [V]∧(mx≠none→∃A c,V=.slice A c c):=by
 simp only[aJ]at hr;obtain⟨v',BL,A,c,rfl,hl,hn,vl⟩:=hr
 cases BL
 have dn:=vX (P:=P) (w:=w) (b:=true) hl h1 h2 h3 hb ho hm;simp only[az,Bool.and_eq_true,decide_eq_true_eq]at ho;obtain⟨h4,h5,h6⟩:=ho;obtain⟨i,hi⟩:=vm (P:=P) (t:=e) (by have:=kk.gQ;omega);generalize hmm:(if mx=none then c else u.toNat)=m at dn;have hmu:u.toNat≤m:=by
  grind
 have hmc:m≤c:=by
  grind
 have vR:(cut xs l u).length=u.toNat-l.toNat:=by
  grind [cut,List.length_drop,List.length_take]
 refine⟨.slice (if m=l.toNat then A else A.map (·.add (l.toNat*P.cellsOf e))) (u.toNat-l.toNat) (m-l.toNat),?_,?_,?_⟩
 ·simp[Instr.sliceAt,Instr.slice,run_underlying ht,dn,dm hi]
 ·simp only[aJ];refine⟨_,rfl,_,_,by rw[vR],by omega,fun hA=>?_,fun j x hx=>?_⟩
  ·split at hA
   ·omega
   simp_all
  ·have hj:j<u.toNat-l.toNat:=by grind
   have TB:xs[l.toNat+j]? = some x:=by
    unfold cut at hx
    grind
   obtain⟨a,us,rfl,hz,hr,hc⟩:=vl _ _ TB;refine⟨a.add (l.toNat*P.cellsOf e),us,by grind,by grind [fP],hr,fun q y hy=>?_⟩;simp_all [wV,Nat.add_mul,Nat.add_assoc]
 ·intro bB;simp_all
theorem JZ{hh:Heap}(g:Good Z ψ h w B0 O)(_:∀id o,hh.get id=some o→h id=some o){t e:TypeId}(ht:P.underlying t=some (.slice e)){x:AV}{v:Value}{lo hi mx:Option AV}{OP yz mx':Option Value}{ef:bF} (hv:aA Z ψ h w x v) (h1:fa Z ψ h w lo OP) (h2:fa Z ψ h w hi yz) (h3:fa Z ψ h w mx mx') (mQ:∀y hw,ef=.wr y hw→hh.get=h) (he:qz hh (P.cellsOf e) x lo hi mx some=some ef) (hse:(P.info? e).isSome=true) :
  ∃V Z',(Instr.sliceAt t v OP yz mx').run P w=.ok V w∧Next Z ψ h w B0 O N Z' ψ (ef.hp h) w∧aA Z' ψ (ef.hp h) w ef.v V:=by
 unfold qz at he
 split at he
 ·
  simp only[aA]at hv;subst hv
  split at he
  ·rename_i l u hb
   cases ho:az 0 l u with
   |false=>simp_all
   |true =>
    rw[ho]at he
    cases he
    have dn:=vX (P:=P) (w:=w) (b:=true) (acf 0) h1 h2 h3 hb ho (.inl rfl);simp only[az,Bool.and_eq_true,decide_eq_true_eq]at ho;have hl0:l.toNat=0:=by omega
    have hu0:u.toNat=0:=by omega
    obtain⟨i,hi⟩:=acu.1 hse;refine⟨.slice none 0 0,Z,?_,Next.refl g,by rfl⟩;rw[hl0,hu0]at dn;simp[Instr.sliceAt,Instr.slice,run_underlying ht,dn,dm hi]
  ·cases he
 ·
  rename_i ex kk xs;simp only[aA]at hv
  split at he
  ·rename_i iY
   split at he
   ·rename_i l u hb
    split at he
    ·cases ho:az xs.length l u with
     |false=>simp_all
     |true =>
      rw[ho]at he
      cases he
      obtain⟨V,h4,h5,_⟩:=CG (P:=P) ht iY hv.1 h1 h2 h3 hb ho (.inl rfl);exact⟨V,Z,h4,Next.refl g,by grind [bF.v,bF.hp,aA]⟩
    ·rename_i m
     cases ho:(az xs.length l u&&(hi.isSome&&decide (m=u))) with
     |false=>simp_all
     |true =>
      rw[ho]at he
      cases he
      simp only[Bool.and_eq_true,decide_eq_true_eq]at ho;obtain⟨ho,hhi,rfl⟩:=ho;obtain⟨V,h4,h5,h6⟩:=CG (P:=P) ht iY hv.1 h1 h2 h3 hb ho (.inr ⟨rfl,by grind⟩);exact⟨V,Z,h4,Next.refl g,by grind [bF.v,bF.hp,aA]⟩
    ·cases he
   ·cases he
  ·cases he
 ·cases he
def mR(P:Program)(t:TypeId)(k:K):Prop :=∀(Z:Nat→Prop) (w:World) (x y:k.T) (xs ys:Array Value),aJ Z w k x xs.toList→aJ Z w k y ys.toList →(Op.equal t (.agg xs) (.agg ys)).run P w=.ok (tH k x y) w∧(∀(op:BinOp) (a b:Operand),(eqGuard op t a b (.agg xs) (.agg ys)).run P w=.ok () w)∧∀e:Bool,(Instr.checkKey e 10000 t (.agg xs)).run P w=.ok () w
theorem yT(op:BinOp)(t:TypeId)(a b:Operand)(k k':IntKind)(x y:Int):(eqGuard op t a b (.int k x) (.int k' y)).run P w=.ok () w:=by simp_all [eqGuard]
theorem QI(op:BinOp)(t:TypeId)(a b:Operand)(x y:ByteArray):(eqGuard op t a b (.string x) (.string y)).run P w=.ok () w:=by simp_all [eqGuard]
theorem MY(op:BinOp)(t:TypeId)(a b:Operand)(x y:Bool):(eqGuard op t a b (.bool x) (.bool y)).run P w=.ok () w:=by simp_all [eqGuard]
theorem Gt(op:BinOp)(t:TypeId)(a b:Operand)(x y:Option Addr):(eqGuard op t a b (.pointer x) (.pointer y)).run P w=.ok () w:=by simp_all [eqGuard]
def bZ:AV→Value
 |.bool b=>.bool b
 |.int k n=>.int k n
 |.str s=>.string s
 |_=>undef
theorem kB(k:IntKind)(n:Int):aA Z ψ h w (.int k n) (bZ (.int k n)):=by rfl
theorem fb(b:Bool):aA Z ψ h w (.bool b) (bZ (.bool b)):=by rfl
theorem kY{t e:TypeId}(ht:P.underlying t=some (.pointer e))(a:Option Addr):(Op.equal t (.pointer a) (.pointer none)).run P w=.ok a.isNone w:=by
 have key:∀d,(Op.equalIn (d+1) t (.pointer a) (.pointer none)).run P w=.ok a.isNone w:=fun d=>by cases a<;>simp[Op.equalIn,run_underlying ht]
 exact key 9999
theorem TC{op:BinOp}{t:TypeId}{k:IntKind}{a b:Int}{v:AV}(hv:abr op k a b=some v):∃V,(binOp op t (.int k a) (.int k b)).run P w=.ok V w∧aA Z ψ h w v V:=by
 cases op<;>simp only[abr]at hv<;>cases hv<;>first
  |(refine⟨bZ (.int _ _),?_,kB _ _⟩;simp[binOp,Op.intArith,Op.intCmp,bZ];done)
  |(refine⟨bZ (.bool _),?_,fb _⟩;simp[binOp,Op.intArith,Op.intCmp,bZ];done)
  |(refine⟨bZ (.int _ _),?_,kB _ _⟩;simp only[binOp,bZ,ne_eq,not_true_eq_false,if_false];rfl)
theorem QJ{Eqs:TypeId→Option K}(E9:∀t k,Eqs t=some k→mR P t k){op:BinOp}{t:TypeId}{xo yo:Operand}{x y:AV}{u v:Value}{e:bF}(hu:aA Z ψ h w x u)(hv:aA Z ψ h w y v)(he:Ar P Eqs op t x y some=some e) :
  ∃r V,e=.val r∧((do eqGuard op t xo yo u v;binOp op t u v:Sem Value)).run P w=.ok V w∧aA Z ψ h w r V:=by
 unfold Ar at he
 split at he
 ·rename_i k a k' b;simp only[aA]at hu hv;subst hu;subst hv
  split at he
  ·cases hb:decide (b<0) with
   |true=>rw[hb]at he;cases he
   |false =>
    rw[hb]at he;cases he;have hb':¬b<0:=by simpa using hb
    exact⟨_,bZ (.int _ _),rfl,by simp[yT,binOp,Op.shift,hb',bZ,Bl],kB _ _⟩
  ·cases hb:decide (b<0) with
   |true=>rw[hb]at he;cases he
   |false =>
    rw[hb]at he;cases he;have hb':¬b<0:=by simpa using hb
    exact⟨_,bZ (.int _ _),rfl,by simp[yT,binOp,Op.shift,hb',bZ,iu],kB _ _⟩
  split at he
  ·rename_i hk;subst hk;simp only[Sem.run_bind,yT,Result.andThen_ok]
   split at he
   ·cases hb:(b==0) with
    |true=>rw[hb]at he;cases he
    |false =>
     rw[hb]at he;cases he;have hb':b≠0:=by simpa using hb
     exact⟨_,bZ (.int _ _),rfl,by simp[binOp,Op.intDiv,hb',bZ],kB _ _⟩
   ·cases hb:(b==0) with
    |true=>rw[hb]at he;cases he
    |false =>
     rw[hb]at he;cases he;have hb':b≠0:=by simpa using hb
     exact⟨_,bZ (.int _ _),rfl,by simp[binOp,Op.intDiv,hb',bZ],kB _ _⟩
   ·split at he
    ·rename_i v hv
     cases he
     obtain⟨V,h1,h2⟩:=TC (P:=P) (t:=t) (w:=w) (Z:=Z) (ψ:=ψ) (h:=h) hv;exact⟨_,V,rfl,h1,h2⟩
    ·cases he
  ·cases he
 ·rename_i a b;simp only[aA]at hu hv;subst hu;subst hv;simp only[Sem.run_bind,QI,Result.andThen_ok]
  cases op<;>simp only[adS]at he<;>first|(cases he;done)|(cases he;exact⟨_,bZ (.bool _),rfl,by simp[binOp,Op.stringOp,←beq_toListBytes,bZ],fb _⟩)
 ·rename_i a b;simp only[aA]at hu hv;subst hu;subst hv;simp only[Sem.run_bind,MY,Result.andThen_ok];have key:(P.underlying t).map HV=some true→P.underlying t=some .bool:=fun hm=>by
   obtain⟨d,hd,he⟩:=adj.1 hm
   cases d<;>simp[HV]at he
   exact hd
  split at he
  ·rename_i hm
   cases he
   exact⟨_,bZ (.bool _),rfl,by simp[binOp,Op.equal,Op.maxDepth,run_equalIn_bool' (P:=P) w 9999 t a b (key hm),bZ],fb _⟩
  ·rename_i hm
   cases he
   exact⟨_,bZ (.bool _),rfl,by simp[binOp,Op.equal,Op.maxDepth,run_equalIn_bool' (P:=P) w 9999 t a b (key hm),bZ],fb _⟩
  ·cases he
 ·rename_i a b
  split at he
  ·cases he
  ·rename_i k hk;simp only[aA]at hu hv;obtain⟨xs,rfl,hx⟩:=hu;obtain⟨ys,rfl,hy⟩:=hv
   split at he
   ·rename_i x y hdx hdy
    cases he
    obtain⟨h1,h2,_⟩:=E9 t k hk Z w x y xs ys (dA hdx hx) (dA hdy hy);exact⟨_,bZ (.bool _),rfl,by simp only[Sem.run_bind,h2,Result.andThen_ok,binOp,h1,Sem.run_pure,bZ],fb _⟩
   ·rename_i x y hdx hdy
    cases he
    obtain⟨h1,h2,_⟩:=E9 t k hk Z w x y xs ys (dA hdx hx) (dA hdy hy);exact⟨_,bZ (.bool _),rfl,by simp only[Sem.run_bind,h2,Result.andThen_ok,binOp,h1,Sem.run_pure,bZ],fb _⟩
   ·cases he
 ·simp only[aA]at hu hv;subst hu;subst hv;have key:(P.underlying t).map yN=some true→∃e,P.underlying t=some (.pointer e):=fun hm=>by
   obtain⟨d,hd,he⟩:=adj.1 hm
   cases d<;>simp[yN]at he
   exact⟨_,hd⟩
  simp only[Sem.run_bind,Gt,Result.andThen_ok]
  split at he
  ·rename_i hm
   cases he
   obtain⟨et,ht⟩:=key hm;exact⟨_,bZ (.bool _),rfl,by simp only[binOp,Sem.run_bind,kY ht,Result.andThen_ok,Sem.run_pure,bZ,Option.isNone_none,Option.isNone_some,Bool.not_true,Bool.not_false],fb _⟩
  ·rename_i hm
   cases he
   obtain⟨et,ht⟩:=key hm;exact⟨_,bZ (.bool _),rfl,by simp only[binOp,Sem.run_bind,kY ht,Result.andThen_ok,Sem.run_pure,bZ,Option.isNone_none,Option.isNone_some,Bool.not_true,Bool.not_false],fb _⟩
  ·cases he
 ·simp only[aA]at hu hv;obtain⟨a,rfl,_⟩:=hu;subst hv;have key:(P.underlying t).map yN=some true→∃e,P.underlying t=some (.pointer e):=fun hm=>by
   obtain⟨d,hd,he⟩:=adj.1 hm
   cases d<;>simp[yN]at he
   exact⟨_,hd⟩
  simp only[Sem.run_bind,Gt,Result.andThen_ok]
  split at he
  ·rename_i hm
   cases he
   obtain⟨et,ht⟩:=key hm;exact⟨_,bZ (.bool _),rfl,by simp only[binOp,Sem.run_bind,kY ht,Result.andThen_ok,Sem.run_pure,bZ,Option.isNone_none,Option.isNone_some,Bool.not_true,Bool.not_false],fb _⟩
  ·rename_i hm
   cases he
   obtain⟨et,ht⟩:=key hm;exact⟨_,bZ (.bool _),rfl,by simp only[binOp,Sem.run_bind,kY ht,Result.andThen_ok,Sem.run_pure,bZ,Option.isNone_none,Option.isNone_some,Bool.not_true,Bool.not_false],fb _⟩
  ·cases he
 ·cases he
theorem QK{a:AV}{v:Value}(hp:yJ a=true)(hr:aA Z ψ h w a v):v.oneCell'=true:=by
 cases a with
 |no=>cases hp
 |agg cs=>cases hp
 |oG cs=>cases hp
 |bool b=>simp only[aA]at hr;subst hr;rfl
 |int k n=>simp only[aA]at hr;subst hr;rfl
 |str s=>simp only[aA]at hr;subst hr;rfl
 |mg=>simp only[aA]at hr;subst hr;rfl
 |gh=>simp only[aA]at hr;subst hr;rfl
 |ref id s i off=>simp only[aA]at hr;obtain⟨a,rfl,_⟩:=hr;rfl
 |fp k x off=>simp only[aA]at hr;obtain⟨a,us,rfl,_⟩:=hr;rfl
 |sl ex k xs=>simp only[aA,aJ]at hr;obtain⟨⟨v',hv,A,c,rfl,_⟩,_⟩:=hr;cases hv;rfl
 |bN id=>grind [aA]
 |mp kk vk es=>simp only[aA,aJ]at hr;obtain⟨A,hv,_⟩:=hr;cases hv;rfl
 |fn f cap=>simp only[aA]at hr;obtain⟨vs,rfl,_⟩:=hr;rfl
theorem vY:∀{cs:List AV} {vs:List Value},cs.all yJ=true→au Z ψ h w cs vs→∀u∈vs,u.oneCell'=true
 |[],_,_,hr,u,hu=>by simp only[au]at hr;subst hr;simp at hu
 |c::r,_,hp,hr,u,hu=>by
  simp only[List.all_cons,Bool.and_eq_true]at hp;simp only[au]at hr;obtain⟨v,us,rfl,h1,h2⟩:=hr;rcases abD.1 hu with rfl|hu
  ·exact QK hp.1 h1
  ·exact vY hp.2 h2 u hu
theorem J0{a:AV}(hp:a.cells.all yJ=true):a≠.no:=by rintro rfl;simp[AV.cells,yJ]at hp
theorem tT{id:Nat}:∀{cs:List AV},MM id cs=true→AV.bN id∉cs
 |[],_=>by simp
 |c::r,hn=>by
  intro hm
  cases c with
  |bN i =>
   simp only[MM,Bool.and_eq_true,Bool.not_eq_true',beq_eq_false_iff_ne]at hn;rcases abD.1 hm with e|hm
   ·cases e;exact hn.1 rfl
   ·exact tT hn.2 hm
  |_ =>
   simp only[MM]at hn;rcases abD.1 hm with e|hm
   ·cases e
   ·exact tT hn hm
theorem Az{hh:Heap}(g:Good Z ψ hh.get w B0 O){t:TypeId}{a x:AV}{u v:Value}{e:bF}(hu:aA Z ψ hh.get w a u)(hv:aA Z ψ hh.get w x v)(he:tJ P hh t a x some=some e) :
  ∃hw w' Z',e=.wr .no hw∧(Instr.storeAt t u v).run P w=.ok () w'∧Next Z ψ hh.get w B0 O N Z' ψ hw.get w':=by
 unfold tJ at he
 split at he
 ·rename_i hc;obtain⟨hlen,Yh,qH⟩:=hc;obtain⟨inf,Yh⟩:=acu.1 Yh;have S6:=hv.cells (J0 qH);have H4:=vY qH S6;have vR:=S6.length;simp only[Array.length_toList]at vR
  split at he
  ·rename_i id s i off;simp only[aA]at hu;obtain⟨a,rfl,ha⟩:=hu
   split at he
   ·rename_i ty cs hg
    split at he
    ·rename_i hc;obtain⟨rfl,ad1⟩:=hc
     cases he
     have JR:=ha (by rw[hg];simp);obtain⟨w',h1,h2⟩:=Cw (P:=P) (N:=N) g hg Yh S6 H4 (by omega) ad1 (a:=a) (by rw[JR];simp);exact⟨_,w',Z,rfl,h1,by grind [kX]⟩
    ·cases he
   ·rename_i ty kk xs hg;obtain⟨y,hx,XJ⟩:=ado.1 he;clear he
    split at XJ
    ·rename_i hc;obtain⟨rfl,ad1,vT⟩:=hc
     split at XJ
     ·rename_i z hz
      cases XJ
      have JR:=ha (by rw[hg];simp);have bM:=tT vT;have gd:=jq g x.cells;have hgd:(cS hh x.cells).get id=some (.own (.row ty kk) xs):=by grind [qF]
      have abE:=pn (Z':=so Z ψ hh.get x.cells) g (fun b hb=>.inl hb) (fun i b hm bB hb=>.inr ⟨i,hm,bB,hb⟩) S6;obtain⟨w',h1,h2⟩:=Cx (P:=P) (N:=N) gd hgd Yh hx (y:=z) (off:=off) (V:=v) (by omega) (by omega) (a:=a) JR (fun us MC=>by
       have h3:=(gZ (ψ:=ψ) (h:=hh.get) MC);have h4:=dA hz (abE.eL off h3)
       rwa [tR _ _ _ (by rw[Array.length_toList,MC.len];omega),Array.length_toList]at h4) H4
      refine⟨_,w',so Z ψ hh.get x.cells,rfl,h1,?_⟩;rw[show((stored hh x.cells).2.set id (.own (.row ty kk) (xs.set i z))).get=dY (cS hh x.cells).get id (some (.own (.row ty kk) (xs.set i z))) from kX _ _ _];exact h2.drop (fun b hb=>.inl hb) (fun b hb=>hb.imp (fun h=>h) (fun⟨i,_,h5,h6⟩=>⟨i,h5,h6⟩)) (eP _ _)
     ·cases XJ
    ·cases XJ
   ·cases he
  ·cases he
 ·cases he
theorem TD{a:AV}{v:Value}(ha:a.isAgg=true)(hr:aA Z ψ h w a v):∃vs,v=.agg vs:=by
 cases a<;>simp[AV.isAgg]at ha
 simp only[aA]at hr
 grind
theorem Gu{a:AV}{v:Value}(ha:a.isAgg=false)(vT:a≠.no)(hr:aA Z ψ h w a v):v.cells=#[v]:=by
 cases a with
 |no=>simp_all
 |agg cs=>simp[AV.isAgg]at ha
 |bool b=>simp only[aA]at hr;subst hr;rfl
 |int k n=>simp only[aA]at hr;subst hr;rfl
 |str s=>simp only[aA]at hr;subst hr;rfl
 |mg=>simp only[aA]at hr;subst hr;rfl
 |gh=>simp only[aA]at hr;subst hr;rfl
 |ref id s i off=>simp only[aA]at hr;obtain⟨a,rfl,_⟩:=hr;rfl
 |fp k x off=>simp only[aA]at hr;obtain⟨a,us,rfl,_⟩:=hr;rfl
 |sl ex k xs=>simp only[aA,aJ]at hr;obtain⟨⟨v',hv,A,c,rfl,_⟩,_⟩:=hr;cases hv;rfl
 |bN id=>grind [aA]
 |mp kk vk es=>simp only[aA,aJ]at hr;obtain⟨A,hv,_⟩:=hr;cases hv;rfl
 |fn f cap=>simp only[aA]at hr;obtain⟨vs,rfl,_⟩:=hr;rfl
 |oG cs=>simp only[aA]at hr;obtain⟨vs,rfl,_⟩:=hr;rfl
theorem vZ{hh:Heap}{k:K}{a:AV}{x:k.T}{v:Value}(g:Good Z ψ hh.get w B0 O)(hz:∀b,Z b→Z' b)(hb:∀id b,AV.bN id∈a.cells→hh.get id≠none→ob (ψ id)=some b→Z' b) (hx:ia k hh a=some x) (hr:aA Z ψ hh.get w a v):aJ Z' w k x v.cells.toList∧(k.isAgg=true→∃vs,v=.agg vs)∧(k.isAgg=false→v.cells=#[v]):=by
 unfold ia at hx
 split at hx
 ·rename_i hag;have vT:=Gs hx;have hv:=pn g hz hb (hr.cells vT)
  grind [dA,TD,Gu]
 ·cases hx
theorem tU{hh:Heap}{k:K}{a:AV}{x:k.T}{v:Value}(g:Good Z ψ hh.get w B0 O)(hz:∀b,Z b→Z' b)(hb:∀id b,AV.bN id∈a.cells→hh.get id≠none→ob (ψ id)=some b→Z' b) (hx:ia k hh a=some x) (hr:aA Z ψ hh.get w a v):aA Z' ψ' h' w (b6 k x) v:=by
 grind [vZ,mP]
theorem aJ.flat:∀{k:K} {x:k.T} {vs:List Value},k.flat=true→aJ Z w k x vs→aJ Z' w' k x vs
 |.int _,_,_,_,h=>h
 |.bool,_,_,_,h=>h
 |.str,_,_,_,h=>h
 |.sl k,_,_,hf,_=>by simp[K.flat]at hf
 |.pair a b,x,_,hf,h=>by simp only[K.flat,Bool.and_eq_true]at hf;simp only[aJ]at h ⊢;obtain⟨us,ws,rfl,h1,h2⟩:=h;exact⟨us,ws,rfl,aJ.flat hf.1 h1,aJ.flat hf.2 h2⟩
 |.one k,x,_,hf,h=>by simp only[aJ]at h ⊢;exact aJ.flat (k:=k) (by simpa only[K.flat] using hf) h
theorem BM:∀(k:K) (x y:k.T),k.flat=true→(tH k x y=true↔x=y)
 |.int _,x,y,_=>by simp only[tH];exact beq_iff_eq (α:=Int)
 |.bool,x,y,_=>by simp only[tH];exact beq_iff_eq (α:=Bool)
 |.str,x,y,_=>by simp only[tH];exact MapKept.bytes_beq x y
 |.sl _,_,_,hf=>by simp[K.flat]at hf
 |.mp _ _,_,_,hf=>by simp[K.flat]at hf
 |.fn _,_,_,hf=>by simp[K.flat]at hf
 |.pair a b,x,y,hf=>by simp only[K.flat,Bool.and_eq_true]at hf;simp only[tH,Bool.and_eq_true];rw[BM a _ _ hf.1,BM b _ _ hf.2];exact⟨fun h=>Prod.ext h.1 h.2,fun h=>⟨congrArg Prod.fst h,congrArg Prod.snd h⟩⟩
 |.one k,x,y,hf=>by simp only[tH];exact BM k x y (by simpa only[K.flat] using hf)
theorem qI:∀{k:K} {x:k.T} {us vs:List Value},k.flat=true→aJ Z w k x us→aJ Z' w' k x vs→us=vs
 |.int _,_,_,_,_,h1,h2=>by simp only[aJ]at h1 h2;rw[h1,h2]
 |.bool,_,_,_,_,h1,h2=>by simp only[aJ]at h1 h2;rw[h1,h2]
 |.str,_,_,_,_,h1,h2=>by simp only[aJ]at h1 h2;rw[h1,h2]
 |.sl _,_,_,_,hf,_,_=>by simp[K.flat]at hf
 |.mp _ _,_,_,_,hf,_,_=>by simp[K.flat]at hf
 |.fn _,_,_,_,hf,_,_=>by simp[K.flat]at hf
 |.pair a b,x,_,_,hf,h1,h2=>by simp only[K.flat,Bool.and_eq_true]at hf;simp only[aJ]at h1 h2;obtain⟨a1,a2,rfl,h3,h4⟩:=h1;obtain⟨b1,b2,rfl,h5,h6⟩:=h2;rw[qI hf.1 h3 h5,qI hf.2 h4 h6]
 |.one k,x,_,_,hf,h1,h2=>by simp only[aJ]at h1 h2;exact qI (k:=k) (by simpa only[K.flat] using hf) h1 h2
theorem tV:∀{k:K} {x:k.T} {us:List Value},k.flat=true→aJ Z w k x us→∀u∈us,∀n,Instr.sameBits n u u=true
 |.int _,x,_,_,h1,u,hu,n=>by simp only[aJ]at h1;subst h1;simp only[List.mem_singleton]at hu;subst hu;cases n<;>simp[Instr.sameBits]<;>exact beq_self_eq_true (α:=Int) x
 |.bool,x,_,_,h1,u,hu,n=>by simp only[aJ]at h1;subst h1;simp only[List.mem_singleton]at hu;subst hu;cases n<;>simp[Instr.sameBits]<;>exact beq_self_eq_true (α:=Bool) x
 |.str,x,_,_,h1,u,hu,n=>by simp only[aJ]at h1;subst h1;simp only[List.mem_singleton]at hu;subst hu;cases n<;>simp[Instr.sameBits]<;>exact(MapKept.bytes_beq x x).2 rfl
 |.sl _,_,_,hf,_,_,_,_=>by simp[K.flat]at hf
 |.mp _ _,_,_,hf,_,_,_,_=>by simp[K.flat]at hf
 |.fn _,_,_,hf,_,_,_,_=>by simp[K.flat]at hf
 |.pair a b,x,_,hf,h1,u,hu,n=>by
  simp only[K.flat,Bool.and_eq_true]at hf;simp only[aJ]at h1;obtain⟨a1,a2,rfl,h3,h4⟩:=h1;rcases ab6.1 hu with hu|hu
  ·exact tV hf.1 h3 u hu n
  ·exact tV hf.2 h4 u hu n
 |.one k,x,_,hf,h1,u,hu,n=>by simp only[aJ]at h1;exact tV (k:=k) (by simpa only[K.flat] using hf) h1 u hu n
def MD(b:Bool)(v:Value):Prop:=(b=true→∃vs,v=.agg vs)∧(b=false→v.cells=#[v])
theorem QL{b:Bool}{u v:Value}(h1:MD b u)(h2:MD b v)(h:u.cells.toList=v.cells.toList):u=v:=by
 cases b with
 |true =>obtain⟨a,rfl⟩:=h1.1 rfl;obtain⟨c,rfl⟩:=h2.1 rfl;simp_all [Value.cells]
 |false =>rw[h1.2 rfl,h2.2 rfl]at h;simpa using h
theorem TE{k:K}{x:k.T}{u:Value}(hf:k.flat=true)(hr:aJ Z w k x u.cells.toList)(hs:MD k.isAgg u):Instr.sameBits 10000 u u=true:=by
 have hb:=tV hf hr
 cases hk:k.isAgg with
 |false=>exact hb u (by rw[hs.2 hk];simp) _
 |true =>obtain⟨a,rfl⟩:=hs.1 hk;show Instr.sameBits (9999+1) (.agg a) (.agg a)=true;simp only[Instr.sameBits,beq_self_eq_true,Bool.true_and,List.all_eq_true];intro p hp;obtain⟨i,hi,he⟩:=List.mem_iff_getElem.1 hp;simp only[List.getElem_zip]at he;subst he;exact hb _ (acV (l:=(Value.agg a).cells.toList) (by simpa[Value.cells] using hi)) _
def Keys(Z:Nat→Prop)(w:World)(k:K)(ys:List k.T)(l:List MapEntry):Prop:=ys.length=l.length∧∀(i:Nat) y e,ys[i]? = some y→l[i]? = some e→aJ Z w k y e.key.cells.toList∧MD k.isAgg e.key
theorem Keys.tail{k:K}{y:k.T}{ys:List k.T}{e:MapEntry}{l:List MapEntry}(h:Keys Z w k (y::ys) (e::l)):Keys Z w k ys l:=⟨by simpa using h.1,fun i a b h1 h2=>h.2 (i+1) a b (by simpa using h1) (by simpa using h2)⟩
theorem J1{k:K}{x:k.T}{d:TypeDesc}{kv:Value}(hs:∀y XK,aJ Z w k y XK.cells.toList→MD k.isAgg XK→Instr.sameNow d kv XK=some (tH k x y)):∀(l:List MapEntry) (ys:List k.T) (i:Nat),Keys Z w k ys l → Instr.findNow d kv l i=some ((ys.findIdx? (tH k x)).map fun j=>(i+j,((l[j]?).map (·.val)).getD undef))
 |[],ys,i,h=>by have:ys=[]:=abY (by simpa using h.1);subst this;rfl
 |e::l,[],i,h=>by have:=h.1;simp at this
 |e::l,y::ys,i,h=>by
  obtain⟨h1,h2⟩:=h.2 0 y e rfl rfl;have ih:=J1 hs l ys (i+1) h.tail;simp only[Instr.findNow,hs y _ h1 h2,List.findIdx?_cons]
  cases tH k x y with
  |true=>simp
  |false =>
   simp only[ih,Bool.false_eq_true,if_false]
   cases ys.findIdx? (tH k x) with
   |none=>rfl
   |some j=>simp;omega
theorem AA{k:K}{x:k.T}{t:TypeId}{kv:Value}(hs:∀y XK,aJ Z w k y XK.cells.toList→MD k.isAgg XK→(Op.equal t kv XK).run P w=.ok (tH k x y) w):∀(l:List MapEntry) (ys:List k.T) (i:Nat),Keys Z w k ys l →(Instr.findAsking t kv l i).run P w=.ok ((ys.findIdx? (tH k x)).map fun j=>(i+j,((l[j]?).map (·.val)).getD undef)) w
 |[],ys,i,h=>by have:ys=[]:=abY (by simpa using h.1);subst this;rfl
 |e::l,[],i,h=>by have:=h.1;simp at this
 |e::l,y::ys,i,h=>by
  obtain⟨h1,h2⟩:=h.2 0 y e rfl rfl;have ih:=AA hs l ys (i+1) h.tail;simp only[Instr.findAsking,Sem.run_bind,hs y _ h1 h2,Result.andThen_ok,List.findIdx?_cons]
  cases tH k x y with
  |true=>simp
  |false =>
   simp only[ih,Bool.false_eq_true,if_false]
   cases ys.findIdx? (tH k x) with
   |none=>rfl
   |some j=>simp;omega
structure TF(P:Program)(t:TypeId)(k:K):Prop where
 flat:k.flat=true
 check:∀(Z:Nat→Prop) (w:World) (x:k.T) (kv:Value) (e:Bool),aJ Z w k x kv.cells.toList→MD k.isAgg kv→(Instr.checkKey e 10000 t kv).run P w=.ok () w
 find:∀(Z:Nat→Prop) (w:World) (x:k.T) (kv:Value) (l:List MapEntry) (ys:List k.T),aJ Z w k x kv.cells.toList→MD k.isAgg kv→Keys Z w k ys l →
  (Instr.findKey t kv l).run P w=.ok ((ys.findIdx? (tH k x)).map fun j=>(j,((l[j]?).map (·.val)).getD undef)) w
theorem qJ{t:TypeId}{k:K}{d:TypeDesc}(hf:k.flat=true)(hk:k.isAgg=false)(hd:P.underlying t=some d)(hc:∀(Z:Nat→Prop) (w:World) (x:k.T) (kv:Value),aJ Z w k x [kv]→MapKept.IsKey d kv) (hs:∀(Z:Nat→Prop) (w:World) (x y:k.T) (u v:Value),aJ Z w k x [u]→aJ Z w k y [v]→Instr.sameNow d u v=some (tH k x y)):TF P t k:=by
 have one:∀{Z:Nat→Prop} {w:World} {x:k.T} {kv:Value},aJ Z w k x kv.cells.toList→MD k.isAgg kv→aJ Z w k x [kv]:=fun {Z w x kv} h1 h2=>by rw[h2.2 hk]at h1;exact h1
 refine⟨hf,fun Z w x kv e h1 h2=>MapKept.run_checkKey hd (hc Z w x kv (one h1 h2)) e 9999,fun Z w x kv l ys h1 h2 h3=>?_⟩;have:=J1 (Z:=Z) (w:=w) (x:=x) (d:=d) (kv:=kv) (fun y XK h4 h5=>hs Z w x y kv XK (one h1 h2) (one h4 h5)) l ys 0 h3;simp_all [Nat.zero_add,MapKept.run_findKey]
theorem J2(d:TypeDesc)(a:Array Value)(v:Value):Instr.sameNow d (.agg a) v=none:=by cases d<;>cases v<;>rfl
theorem yU{Eqs:TypeId→Option K}(E9:∀t k,Eqs t=some k→mR P t k){t:TypeId}{k:K}(hk:OJ P Eqs t k=true):TF P t k:=by
 unfold OJ at hk;rw[Bool.and_eq_true]at hk;obtain⟨hf,hk⟩:=hk
 split at hk
 ·rename_i ik ik' hd;simp only[decide_eq_true_eq]at hk;subst hk;exact qJ hf rfl hd (fun Z w x kv hr=>by grind [aJ,MapKept.IsKey]) (fun Z w x y u v h1 h2=>by grind [aJ,Instr.sameNow,tH])
 ·rename_i hd;exact qJ hf rfl hd (fun Z w x kv hr=>by grind [aJ,MapKept.IsKey]) (fun Z w x y u v h1 h2=>by grind [aJ,Instr.sameNow,tH])
 ·rename_i hd;exact qJ hf rfl hd (fun Z w x kv hr=>by grind [aJ,MapKept.IsKey]) (fun Z w x y u v h1 h2=>by grind [aJ,Instr.sameNow,tH])
 ·simp only[Bool.and_eq_true,decide_eq_true_eq]at hk;obtain⟨hag,hk⟩:=hk;have fact:=E9 _ _ hk;have agg:∀{b:Bool} {u:Value},b=true→MD b u→∃a,u=.agg a:=fun hb h=>h.1 hb;refine⟨hf,fun Z w x kv e h1 h2=>?_,fun Z w x kv l ys h1 h2 h3=>?_⟩
  ·obtain⟨a,rfl⟩:=agg hag h2;exact(fact Z w x x a a h1 h1).2.2 e
  ·obtain⟨a,rfl⟩:=agg hag h2;have h4:=AA (P:=P) (t:=t) (Z:=Z) (w:=w) (x:=x) (kv:=.agg a) (fun y XK h4 h5=>by obtain⟨b,rfl⟩:=agg hag h5;exact(fact Z w x y a b h1 h4).1) l ys 0 h3;simp only[Nat.zero_add]at h4
   cases l with
   |nil =>
    have:ys=[]:=abY (by simpa using h3.1);subst this
    cases hu:P.underlying t with
    |none =>have hc:=(fact Z w x x a a h1 h1).2.2 true;exfalso;unfold Instr.checkKey at hc;simp[underlying,hu]at hc
    |some d=>simp[Instr.findKey,run_underlying hu,Instr.findNow]
   |cons e l =>
    cases hu:P.underlying t with
    |none =>have hc:=(fact Z w x x a a h1 h1).2.2 true;exfalso;unfold Instr.checkKey at hc;simp[underlying,hu]at hc
    |some d=>simp_all [Instr.findKey,Sem.run_bind,run_underlying,Result.andThen_ok,Instr.findNow,J2]
section
variable {kk vk:K} {es:List (kk.T×vk.T)} {l:List MapEntry}
abbrev lk(Z:Nat→Prop)(w:World)(kk vk:K)(es:List (kk.T×vk.T))(l:List MapEntry):Prop:=HY (aJ Z w kk) (aJ Z w vk) kk.isAgg vk.isAgg es l
theorem lk.keys(h:lk Z w kk vk es l):Keys Z w kk (es.map (·.1)) l :=⟨by rw[List.length_map];exact h.1,fun i y e h1 h2=>by rw[List.getElem?_map]at h1;obtain⟨x,h3,rfl⟩:=adj.1 h1;exact(h.2 i x e h3 h2).1⟩
theorem CH{x:kk.T}:(es.map (·.1)).findIdx? (tH kk x)=sw kk x es:=by unfold sw;rw[List.findIdx?_map];rfl
theorem H5{x:kk.T}{i:Nat}(h:sw kk x es=some i):i<es.length:=by
 grind [sw,List.findIdx?_eq_some_iff_getElem]
theorem Yi{x:kk.T}{i:Nat}(h:sw kk x es=some i):∃e,es[i]? = some e∧tH kk x e.1=true:=by
 grind [sw,List.findIdx?_eq_some_iff_getElem,List.getElem?_eq_getElem]
def TG(Z:Nat→Prop)(w:World)(kk vk:K)(x:kk.T×vk.T)(e:MapEntry):Prop:=(aJ Z w kk x.1 e.key.cells.toList∧MD kk.isAgg e.key)∧aJ Z w vk x.2 e.val.cells.toList∧MD vk.isAgg e.val
theorem lk.set(h:lk Z w kk vk es l)(i:Nat){x:kk.T×vk.T}{f:MapEntry→MapEntry}(ho:∀e,l[i]? = some e→TG Z w kk vk x (f e)):lk Z w kk vk (es.set i x) (l.modify i f):=by
 refine⟨by simp[h.1],fun j y e h1 h2=>?_⟩;rw[List.getElem?_modify]at h2;obtain⟨e0,h3,h4⟩:=adj.1 h2;by_cases Gv:i=j
 ·subst Gv;rw[if_pos rfl]at h4;have aN:i<es.length:=by grind
  rw[List.getElem?_set_self aN]at h1
  cases h1
  subst h4;exact ho e0 h3
 ·rw[if_neg Gv]at h4;rw[List.getElem?_set_ne Gv]at h1;subst h4;exact h.2 j y e0 h1 h3
theorem lk.push(h:lk Z w kk vk es l){x:kk.T×vk.T}{e:MapEntry}(ho:TG Z w kk vk x e):lk Z w kk vk (es++[x]) (l++[e]):=by
 refine⟨by simp[h.1],fun j y e' h1 h2=>?_⟩;by_cases hj:j<es.length
 ·rw[List.getElem?_append_left hj]at h1;rw[List.getElem?_append_left (by rw[←h.1];exact hj)]at h2;exact h.2 j y e' h1 h2
 ·rw[List.getElem?_append_right (by omega)]at h1;rw[List.getElem?_append_right (by have:=h.1;omega),←h.1]at h2;by_cases h0:j-es.length=0
  ·rw[h0]at h1 h2;cases h1;cases h2;exact ho
  simp_all
theorem lk.erase(h:lk Z w kk vk es l)(i:Nat):lk Z w kk vk (es.eraseIdx i) (l.eraseIdx i):=by
 refine⟨by rw[List.length_eraseIdx,List.length_eraseIdx,h.1],fun j y e h1 h2=>?_⟩;rw[List.getElem?_eraseIdx]at h1 h2
 split at h1
 ·rename_i hj;rw[if_pos hj]at h2;exact h.2 j y e h1 h2
 ·rename_i hj;rw[if_neg hj]at h2;exact h.2 (j+1) y e h1 h2
theorem lk.mono(h:lk Z w kk vk es l)(hz:∀b,Z b→Z' b)(hs:cv Z w w'):lk Z' w' kk vk es l:=HY.imp (fun _ _ h=>h.mono hz hs) (fun _ _ h=>h.mono hz hs) h
end
theorem v5{Eqs:TypeId→Option K}{t:TypeId}{kk vk:K}(h:mapOf P Eqs t=some (kk,vk)):∃a b,P.underlying t=some (.map a b)∧OJ P Eqs a kk=true∧JM P b vk=true:=by
 unfold mapOf at h
 grind
theorem CI{b:TypeId}{vk:K}(h:JM P b vk=true):∃z,(zeroValue b).run P w=.ok z w∧aJ Z w vk (ki vk) z.cells.toList∧MD vk.isAgg z:=by
 unfold JM at h
 split at h
 ·rename_i i hi
  split at h
  ·rename_i z hz;refine⟨z,sP hi hz,?_⟩;unfold Ti at h
   split at h
   ·simp only[decide_eq_true_eq]at h;obtain⟨rfl,rfl⟩:=h;exact⟨by rfl,fun h=>(by cases h),fun _=>rfl⟩
   ·rename_i b;simp only[Bool.not_eq_true']at h;subst h;exact⟨by rfl,fun h=>(by cases h),fun _=>rfl⟩
   ·simp only[decide_eq_true_eq]at h;subst h;exact⟨by rfl,fun h=>(by cases h),fun _=>rfl⟩
   ·simp only[decide_eq_true_eq]at h;obtain⟨rfl,rfl,rfl⟩:=h;exact⟨by simp only[aJ];exact⟨_,rfl,none,0,rfl,acf _,fun _=>rfl,fun i x hx=>by simp[ki]at hx⟩,fun h=>(by cases h),fun _=>rfl⟩
   ·cases h
  ·cases h
 ·cases h
theorem OQ{hh:Heap}(g:Good Z ψ h w B0 O)(bz:∀id o,hh.get id=some o→h id=some o){m:AV}{u:Value}{kk vk:K}{es:List (kk.T×vk.T)}(hm:aA Z ψ h w m u)(hv:c9 hh m=.mp kk vk es) :
  ∃A,u=.map A∧((A=none∧es=[])∨∃r b8 clock,A=some r∧w.heap[r]? = some (.map b8 clock)∧lk Z w kk vk es b8.toList):=by
 cases m with
 |mp OG X8 TH =>
  simp only[c9]at hv
  cases hv
  simp only[aA,aJ]at hm
  grind
 |bN id =>
  simp only[c9]at hv
  split at hv
  ·cases hv
  ·rename_i OG X8 TH hg
   cases hv
   have yD:=bz _ _ hg;simp only[aA]at hm;have:=hm.2 (by rw[yD];simp);subst this;obtain⟨r,b8,clock,h1,h2,h3,_⟩:=g.row id (.map kk vk) es yD;simp_all
  ·cases hv
 |_=>grind [c9]
theorem MZ{hh:Heap}(g:Good Z ψ h w B0 O)(bz:∀id o,hh.get id=some o→h id=some o){k:K}(hf:k.flat=true){a:AV}{x:k.T}{v:Value}(hx:ia k hh a=some x)(hr:aA Z ψ h w a v):aJ Z w k x v.cells.toList∧MD k.isAgg v:=by obtain⟨h1,h2,h3⟩:=vZ (Z':=fun b=>b<w.heap.size) (g.sub bz) (fun b hb=>g.kz b hb) (fun id b _ h1 h2=>(g.sub bz).bQ ⟨id,h1,h2⟩) hx (hr.less (fun _ h=>h) (cv.refl _ _) (fun id bM=>by obtain⟨o,ho⟩:=abS.1 bM;simp_all));exact⟨h1.flat hf,h2,h3⟩
theorem H6{Eqs:TypeId→Option K}(E9:∀t k,Eqs t=some k→mR P t k){hh:Heap}(g:Good Z ψ h w B0 O)(bz:∀id o,hh.get id=some o→h id=some o){t:TypeId}{m i:AV}{u v:Value}{ok:Bool}{e:bF} (hm:aA Z ψ h w m u) (hi:aA Z ψ h w i v) (he:o6 P Eqs hh t m i ok some=some e):∃y V,e=.val y∧(Instr.lookup t u v ok).run P w=.ok V w∧aA Z ψ h w y V:=by
 unfold o6 at he
 split at he
 ·rename_i ka va kk vk es hmo hv
  split at he
  ·rename_i hc;obtain⟨rfl,rfl⟩:=hc
   split at he
   ·rename_i x hx
    cases he
    obtain⟨a,b,hu,hk,hz⟩:=v5 hmo;have K:=yU E9 hk;obtain⟨JB,qu⟩:=MZ g bz K.flat hx hi;obtain⟨z,yC,BJ,ON⟩:=CI (Z:=Z) (w:=w) hz;have fin:∀(l:List MapEntry),lk Z w kk vk es l→∃V,((∃j,(Instr.findKey a v l).run P w=.ok (some (j,V)) w∧(fM kk x es).isSome=true)∨((Instr.findKey a v l).run P w=.ok none w∧(zeroValue b).run P w=.ok V w∧(fM kk x es).isSome=false)) ∧ aJ Z w vk ((fM kk x es).getD (ki vk)) V.cells.toList∧MD vk.isAgg V:=by
     intro l hE;have hf:=K.find Z w x v l (es.map (·.1)) JB qu hE.keys;rw[CH]at hf
     cases Gx:sw kk x es with
     |none =>rw[Gx]at hf;exact⟨z,.inr ⟨hf,yC,by simp[fM,Gx]⟩,by simpa[fM,Gx] using BJ,ON⟩
     |some j =>
      rw[Gx]at hf;have hj:=H5 Gx;have h1:es[j]? = some es[j]:=aa8 hj;have M0:j<l.length:=by rw[←hE.1];exact hj
      have h2:l[j]? = some l[j]:=aa8 M0;obtain⟨_,h3,h4⟩:=hE.2 j _ _ h1 h2;refine⟨l[j].val,.inl ⟨j,?_,by simp[fM,Gx,h1]⟩,by simpa[fM,Gx,h1] using h3,h4⟩;rw[hf];simp only[Option.map_some,h2,Option.getD_some]
    have out:∀V:Value,aJ Z w vk ((fM kk x es).getD (ki vk)) V.cells.toList→MD vk.isAgg V→aA Z ψ h w (cond ok (AV.oG [b6 vk ((fM kk x es).getD (ki vk)),.bool (fM kk x es).isSome]) (b6 vk ((fM kk x es).getD (ki vk)))) (if ok then .tuple #[V,.bool (fM kk x es).isSome] else V):=by
     intro V h1 h2;have h3:aA Z ψ h w (b6 vk ((fM kk x es).getD (ki vk))) V:=mP h1 h2.1 h2.2
     cases ok with
     |false=>exact h3
     |true=>simp only[cond_true,if_true,aA,au];exact⟨_,rfl,V,[.bool (fM kk x es).isSome],by simp,h3,_,[],rfl,rfl,rfl⟩
    obtain⟨A,rfl,hA⟩:=OQ g bz hm hv;rcases hA with⟨rfl,rfl⟩|⟨r,b8,clock,rfl,h3,h4⟩
    ·obtain⟨V,h5,h6,h7⟩:=fin [] ⟨rfl,fun i x e h=>by simp at h⟩;refine⟨_,_,rfl,?_,out V h6 h7⟩;simp only[Instr.lookup,Sem.run_bind,run_underlying hu,Result.andThen_ok,Sem.run_pure,K.check Z w x v _ JB qu];rcases h5 with⟨j,h8,h9⟩|⟨h8,h9,qq⟩
     ·simp[h8,h9]
     ·simp[h8,h9,qq]
    ·obtain⟨V,h5,h6,h7⟩:=fin b8.toList h4;refine⟨_,_,rfl,?_,out V h6 h7⟩;simp only[Instr.lookup,Sem.run_bind,run_underlying hu,Result.andThen_ok,Sem.run_pure,MapKept.run_getObj_map h3,K.check Z w x v _ JB qu];rcases h5 with⟨j,h8,h9⟩|⟨h8,h9,qq⟩
     ·simp[h8,h9]
     ·simp[h8,h9,qq]
   ·cases he
  ·cases he
 ·cases he
end Go.Vs
namespace Go.Vs
variable {P:Program} {Z Z':Nat→Prop} {ψ ψ':Nat→Value} {h h':Hp} {w w':World} {B0:Nat} {O:Nat→Prop} {N:Nat→Prop}
theorem yV{r b:Nat}(o:Obj)(bB:r≠b):(w.heap.setIfInBounds r o)[b]? = w.heap[b]? := by simp_all
theorem cT.ajn{r:Nat}(ho:Own ψ h r)(o:Obj):cT ψ h w { w with heap:=w.heap.setIfInBounds r o } :=⟨rfl,rfl,rfl,by simp,fun b _ hb=>yV o (fun e=>hb (e▸ho))⟩
theorem tW{hp:Hp}(g:Good Z ψ hp w B0 O){id:Nat}(bM:hp id≠none){r:Nat}(hr:ob (ψ id)=some r)(aN:r<w.heap.size)(o:Obj){ok:OK}{x:ok.T} (hx:∀w':World,w'.heap=w.heap.setIfInBounds r o→cv Z w w'→jP Z w' ok (ψ id) x) :
  Next Z ψ hp w B0 O N Z ψ (dY hp id (some (.own ok x))) { w with heap:=w.heap.setIfInBounds r o }:=by
 have ho:Own ψ hp r:=⟨id,bM,hr⟩;have kk:=cT.ajn (w:=w) ho o;refine g.write id bM kk (fun b hb _=>yV o (fun e=>hb (by rw[hr,e]))) _ (fun _ _ he=>by cases he) (fun X9 x' he=>?_)
 cases he
 exact hx _ rfl (kk.same g)
theorem AB{l:List MapEntry}{i:Nat}{f:MapEntry→MapEntry}(hf:∀e,(f e).born=e.born):(l.modify i f).map (·.born)=l.map (·.born):=by
 apply adz
 grind
theorem yW{l:List MapEntry}:l.Pairwise (fun a b=>a.born≠b.born)↔(l.map (·.born)).Pairwise (·≠·):=by grind
theorem w9{Eqs:TypeId→Option K}(E9:∀t k,Eqs t=some k→mR P t k){hh:Heap}(g:Good Z ψ hh.get w B0 O){t:TypeId}{m i v:AV}{u1 u2 u3:Value}{e:bF} (hm:aA Z ψ hh.get w m u1) (hi:aA Z ψ hh.get w i u2) (hv:aA Z ψ hh.get w v u3) (he:jz P Eqs hh t m i v some=some e) :
  ∃hw w' Z',e=.wr (.oG []) hw∧(Instr.mapUpdate t u1 u2 u3).run P w=.ok () w'∧Next Z ψ hh.get w B0 O N Z' ψ hw.get w':=by
 unfold jz at he
 split at he
 ·rename_i ka va id hmo
  split at he
  ·rename_i kk vk es hg
   split at he
   ·rename_i hc;obtain⟨rfl,rfl⟩:=hc
    split at he
    ·rename_i x y hx hy vT
     cases he
     obtain⟨a,b,hu,hk,_⟩:=v5 hmo;have K:=yU E9 hk;obtain⟨JB,qu⟩:=MZ g (fun _ _ h=>h) K.flat hx hi;simp only[aA]at hm;have XL:=hm.2 (by rw[hg];simp);obtain⟨r,b8,clock,h1,h2,h3,h4,h5⟩:=g.row id (.map kk vk) es hg;rw[h1]at XL;subst XL;have bM:AV.bN id∉v.cells:=fun hc=>by have:=adp.1 vT _ hc;simp at this
     have gd:=jq g v.cells;have hgd:(cS hh v.cells).get id=some (.own (.map kk vk) es):=by rw[qF _ _ _ bM];exact hg
     obtain⟨yY,BI,hv3⟩:=vZ (Z':=so Z ψ hh.get v.cells) g (fun b hb=>.inl hb) (fun id b h1 h2 h3=>.inr ⟨id,h1,h2,h3⟩) hy hv;have ad2:aJ (so Z ψ hh.get v.cells) w kk x u2.cells.toList:=JB.flat K.flat;have aN:=(abR.1 h2).1;have oV:ob (ψ id)=some r:=by rw[h1];rfl
     have hE:lk (so Z ψ hh.get v.cells) w kk vk es b8.toList:=lk.mono h3 (fun b hb=>.inl hb) (cv.refl _ _);have hf:=K.find Z w x u2 b8.toList (es.map (·.1)) JB qu (lk.keys h3);rw[CH]at hf;have fin:∀(o:Obj) (TH:List (kk.T×vk.T)) (nW:Array MapEntry) (CJ:Nat),o=.map nW CJ→lk (so Z ψ hh.get v.cells) w kk vk TH nW.toList→(nW.toList.map (·.born)).Pairwise (·≠·)→(∀e∈nW.toList,e.born<CJ) → Next Z ψ hh.get w B0 O N (so Z ψ hh.get v.cells) ψ ((cS hh v.cells).set id (.own (.map kk vk) TH)).get { w with heap:=w.heap.setIfInBounds r o }:=by rintro o TH nW CJ rfl h6 h7 h8;rw[kX];have n:=tW (N:=N) gd (by rw[hgd];simp) oV aN (.map nW CJ) (ok:=.map kk vk) (x:=TH) (fun w' ME sm=>⟨r,nW,CJ,h1,by rw[ME];simp[aN],lk.mono h6 (fun _ h=>h) sm,yW.2 h7,h8⟩);exact n.drop (fun b hb=>.inl hb) (fun b hb=>hb.imp (fun h=>h) (fun⟨i,_,h5,h6⟩=>⟨i,h5,h6⟩)) (eP _ _)
     cases Gx:sw kk x es with
     |none =>
      rw[Gx]at hf;refine⟨_,{ w with heap:=w.heap.setIfInBounds r (.map (b8.push { key:=u2,val:=u3,born:=clock }) (clock+1)) },so Z ψ hh.get v.cells,rfl,?_,?_⟩
      rotate_left
      ·rw[show jN kk x y es=es++[(x,y)] by simp[jN,Gx]];refine fin _ _ (b8.push { key:=u2,val:=u3,born:=clock }) (clock+1) rfl ?_ ?_ ?_
       ·rw[Array.toList_push];exact hE.push ⟨⟨ad2,qu⟩,yY,BI,hv3⟩
       ·rw[Array.toList_push,List.map_append,List.pairwise_append];refine⟨yW.1 h4,by simp,fun a ha b hb=>?_⟩;simp only[List.map_cons,List.map_nil,List.mem_singleton]at hb;obtain⟨e,he,rfl⟩:=acn.1 ha;have:=h5 e he;omega
       ·intro e he;rw[Array.toList_push]at he;rcases ab6.1 he with he|he
        ·have:=h5 e he;omega
        ·simp only[List.mem_singleton]at he;subst he;exact Nat.lt_succ_self _
      ·simp only[Instr.mapUpdate,Sem.run_bind,run_underlying hu,Result.andThen_ok,MapKept.run_getObj_map h2,K.check Z w x u2 _ JB qu,hf,Option.map_none,MapKept.run_setObj_map _ h2]
     |some j =>
      rw[Gx]at hf;have hj:=H5 Gx;obtain⟨e0,he0,heq⟩:=Yi Gx;have M0:j<b8.toList.length:=by rw[←h3.1];exact hj
      have hl:b8.toList[j]? = some b8.toList[j]:=aa8 M0;have S7:b8[j]? = some b8.toList[j]:=by rw[←hl];simp
      obtain⟨⟨ad3,ajo⟩,_⟩:=h3.2 j _ _ he0 hl;have vf:b8.toList[j].key=u2:=by refine QL ajo qu ?_;rw[←(BM kk x e0.1 K.flat).1 heq]at ad3;exact qI K.flat ad3 JB
      have aab:(Instr.keyThatStays u2 u2).run P w=.ok u2 w:=by simp[Instr.keyThatStays,TE K.flat JB qu]
      refine⟨_,{ w with heap:=w.heap.setIfInBounds r (.map (b8.modify j fun e=>{ e with key:=u2,val:=u3 }) clock) },so Z ψ hh.get v.cells,rfl,?_,?_⟩
      rotate_left
      ·rw[show jN kk x y es=es.set j (x,y) by simp[jN,Gx]];refine fin _ _ (b8.modify j fun e=>{ e with key:=u2,val:=u3 }) clock rfl ?_ ?_ ?_
       ·rw[Array.toList_modify];exact hE.set j (fun e he=>⟨⟨ad2,qu⟩,yY,BI,hv3⟩)
       ·rw[Array.toList_modify,AB (f:=fun e:MapEntry=>{ e with key:=u2,val:=u3 }) (fun _=>rfl)];exact yW.1 h4
       ·intro e he;have:e.born∈(b8.modify j fun e=>{ e with key:=u2,val:=u3 }).toList.map (·.born):=acn.2 ⟨e,he,rfl⟩;rw[Array.toList_modify,AB (f:=fun e:MapEntry=>{ e with key:=u2,val:=u3 }) (fun _=>rfl)]at this;obtain⟨e',OM,h6⟩:=acn.1 this;rw[←h6];exact h5 e' OM
      ·simp only[Instr.mapUpdate,Sem.run_bind,run_underlying hu,Result.andThen_ok,MapKept.run_getObj_map h2,K.check Z w x u2 _ JB qu,hf,Option.map_some,S7,Option.getD_some,vf,aab,MapKept.run_setObj_map _ h2]
    ·cases he
   ·cases he
  ·cases he
 ·cases he
theorem xc{Eqs:TypeId→Option K}(E9:∀t k,Eqs t=some k→mR P t k){hh:Heap}(g:Good Z ψ hh.get w B0 O){t ty:TypeId}{ts:List TypeId}{m i:AV}{u1 u2:Value}{e:bF} (hm:aA Z ψ hh.get w m u1) (hi:aA Z ψ hh.get w i u2) (he:o8 P Eqs hh t m i some=some e) :
  ∃hw w',e=.wr (.oG []) hw∧(Builtin.delete_ (t::ts).toArray ty #[u1,u2]).run P w=.ok (.tuple #[]) w'∧Next Z ψ hh.get w B0 O N Z ψ hw.get w':=by
 unfold o8 at he
 split at he
 ·rename_i ka va id hmo
  split at he
  ·rename_i kk vk es hg
   split at he
   ·rename_i hc;obtain⟨rfl,rfl⟩:=hc
    split at he
    ·rename_i x hx
     cases he
     obtain⟨a,b,hu,hk,_⟩:=v5 hmo;have K:=yU E9 hk;obtain⟨JB,qu⟩:=MZ g (fun _ _ h=>h) K.flat hx hi;simp only[aA]at hm;have XL:=hm.2 (by rw[hg];simp);obtain⟨r,b8,clock,h1,h2,h3,h4,h5⟩:=g.row id (.map kk vk) es hg;rw[h1]at XL;subst XL;have aN:=(abR.1 h2).1;have oV:ob (ψ id)=some r:=by rw[h1];rfl
     have hf:=K.find Z w x u2 b8.toList (es.map (·.1)) JB qu (lk.keys h3);rw[CH]at hf;have fin:∀(o:Obj) (TH:List (kk.T×vk.T)) (nW:Array MapEntry),o=.map nW clock→lk Z w kk vk TH nW.toList→nW.toList.Sublist b8.toList → Next Z ψ hh.get w B0 O N Z ψ (hh.set id (.own (.map kk vk) TH)).get { w with heap:=w.heap.setIfInBounds r o }:=by rintro o TH nW rfl h6 h7;rw[kX];exact tW (N:=N) g (by rw[hg];simp) oV aN (.map nW clock) (ok:=.map kk vk) (x:=TH) (fun w' ME sm=>⟨r,nW,clock,h1,by rw[ME];simp[aN],lk.mono h6 (fun _ h=>h) sm,h4.sublist h7,fun e he=>h5 e (h7.subset he)⟩)
     cases Gx:sw kk x es with
     |none =>
      rw[Gx]at hf;refine⟨_,{ w with heap:=w.heap.setIfInBounds r (.map b8 clock) },rfl,?_,?_⟩
      rotate_left
      ·rw[show HU kk x es=es by simp[HU,Gx]];exact fin _ _ b8 rfl h3 (List.Sublist.refl _)
      ·simp[Builtin.delete_,run_underlying hu,MapKept.run_getObj_map h2,K.check Z w x u2 _ JB qu,hf,MapKept.run_setObj_map _ h2]
     |some j =>
      rw[Gx]at hf;have hj:=H5 Gx;refine⟨_,{ w with heap:=w.heap.setIfInBounds r (.map (b8.eraseIdxIfInBounds j) clock) },rfl,?_,?_⟩
      rotate_left
      ·rw[show HU kk x es=es.eraseIdx j by simp[HU,Gx]];refine fin _ _ (b8.eraseIdxIfInBounds j) rfl ?_ ?_
       ·rw[Array.toList_eraseIdxIfInBounds];exact lk.erase h3 j
       ·rw[Array.toList_eraseIdxIfInBounds];exact List.eraseIdx_sublist _ _
      ·simp[Builtin.delete_,run_underlying hu,MapKept.run_getObj_map h2,K.check Z w x u2 _ JB qu,hf,MapKept.run_setObj_map _ h2]
    ·cases he
   ·cases he
  ·cases he
 ·cases he
theorem M1{hh:Heap}(g:Good Z ψ h w B0 O)(bz:∀id o,hh.get id=some o→h id=some o){t ty:TypeId}{x:AV}{u:Value}{e:bF}(ht:MN P t=true)(hx:aA Z ψ h w x u)(he:yM hh x some=some e) :
  ∃n:Nat,e=.val (.int .i64 (n:Int))∧(Builtin.len_ #[t] ty #[u]).run P w=.ok (.int .i64 (n:Int)) w:=by
 unfold yM at he
 split at he
 ·rename_i kk vk es hv
  cases he
  have hu:∃a b,P.underlying t=some (.map a b):=by
   grind [MN]
  obtain⟨a,b,hu⟩:=hu;obtain⟨A,rfl,hA⟩:=OQ g bz hx hv;rcases hA with⟨rfl,rfl⟩|⟨r,b8,clock,rfl,h3,h4⟩
  ·exact⟨0,rfl,by simp[Builtin.len_,run_underlying hu,goInt]⟩
  ·refine⟨es.length,rfl,?_⟩;have:b8.size=es.length:=by rw[h4.1];simp
   simp[Builtin.len_,run_underlying hu,MapKept.run_getObj_map h3,goInt,this]
 ·cases he
theorem CL(g:Good Z ψ h w B0 O)(hB:B0≤w.heap.size)(id:Nat)(hN:N id){ok:OK}{x:ok.T}{v:Value}(o:Obj)(ho:jP Z (w.alloc o) ok v x)(hb:ob v=some w.heap.size) (bm:∀i ty cs,h i=some (.box ty cs)→aC (fun i=>i≠id) cs):Next Z ψ h w B0 O N Z (dY ψ id v) (dY h id (some (.own ok x))) (w.alloc o) :=JS g hB id hN (cT.alloc _ _ _ _) (fun b hb=>heap_alloc_old w _ (g.bQ hb)) ho (fun b Fk=>by simp_all) bm
theorem Fl{Eqs:TypeId→Option K}(g:Good Z ψ h w B0 O)(hB:B0≤w.heap.size){id:Nat}(hN:N id){t:TypeId}{e:bF}(bm:∀i ty cs,h i=some (.box ty cs)→aC (fun i=>i≠id) cs)(he:mz P Eqs id t some=some e) :
  ∃v w' ψ',(Instr.makeMap t none).run P w=.ok v w'∧Next Z ψ h w B0 O N Z ψ' (e.hp h) w'∧aA Z ψ' (e.hp h) w' e.v v:=by
 unfold mz at he
 split at he
 ·rename_i kk vk hmo
  cases he
  refine⟨.map (some w.heap.size),w.alloc (.map #[] 0),dY ψ id (.map (some w.heap.size)),rfl,?_,?_⟩
  ·simp only[bF.hp];rw[gS];exact CL g hB id hN (ok:=.map kk vk) (x:=[]) _ ⟨w.heap.size,#[],0,rfl,heap_alloc_new _ _,⟨rfl,fun i x e h=>by simp at h⟩,by simp,by simp⟩ rfl bm
  ·simp only[bF.v,bF.hp,aA];exact⟨⟨rfl,rfl⟩,fun _=>(bh _ _ _).symm⟩
 ·cases he
theorem H7(g:Good Z ψ h w B0 O)(hB:B0≤w.heap.size){id:Nat}(hN:N id){t:TypeId}{x:AV}{u:Value}{e:bF}(hx:aA Z ψ h w x u)(bm:∀i ty cs,h i=some (.box ty cs)→aC (fun i=>i≠id) cs)(he:o9 P id t x some=some e) :
  ∃v w' ψ',(Instr.range t u).run P w=.ok v w'∧Next Z ψ h w B0 O N Z ψ' (e.hp h) w'∧aA Z ψ' (e.hp h) w' e.v v:=by
 unfold o9 at he
 split at he
 ·rename_i sv hu
  cases he
  simp only[aA]at hx;subst hx;refine⟨.pointer (some ⟨w.heap.size,0,none⟩),w.alloc (.stringIter sv 0),dY ψ id (.pointer (some ⟨w.heap.size,0,none⟩)),?_,?_,?_⟩
  ·simp_all [Instr.range,Sem.run_bind,run_underlying,Result.andThen_ok,Sem.run_pure]
  ·simp only[bF.hp];rw[gS];exact CL g hB id hN (ok:=.oZ) (x:=(sv,0)) _ ⟨w.heap.size,rfl,heap_alloc_new _ _⟩ rfl bm
  ·simp only[bF.v,bF.hp,aA];exact⟨⟨rfl,rfl⟩,fun _=>(bh _ _ _).symm⟩
 ·cases he
theorem gT{r:Nat}{o:Obj}(hb:w.heap[r]? = some o)(hc:∀c e f,o≠.cells c e f):(getObj r).run P w=.ok o w:=by cases o<;>first|(exact absurd rfl (hc _ _ _))|simp[getObj,Sem.run,hb]
theorem CM{r:Nat}{o o':Obj}(hb:w.heap[r]? = some o)(hc:∀c e f,o≠.cells c e f):(setObj r o').run P w=.ok () { w with heap:=w.heap.setIfInBounds r o' }:=by cases o<;>first|(exact absurd rfl (hc _ _ _))|simp[setObj,Sem.run,hb]
theorem J3{hh:Heap}(g:Good Z ψ h w B0 O)(bz:∀id o,hh.get id=some o→h id=some o){ty:TypeId}{x:AV}{u:Value}{e:bF}(hx:aA Z ψ h w x u)(mQ:∀v hw,e=.wr v hw→hh.get=h)(he:tK hh x some=some e) :
  ∃v w',(Instr.next u true ty).run P w=.ok v w'∧Next Z ψ h w B0 O N Z ψ (e.hp h) w'∧aA Z ψ (e.hp h) w' e.v v:=by
 unfold tK at he
 split at he
 ·rename_i id
  split at he
  ·rename_i x hg;have yD:=bz _ _ hg;simp only[aA]at hx;have hu:=hx.2 (by rw[yD];simp);obtain⟨r,h1,h2⟩:=g.row id .oZ x yD;rw[h1]at hu;subst hu
   cases hc:decide (x.2<x.1.size) with
   |true =>
    rw[hc]at he;cases he;have heq:=mQ _ _ rfl;simp only[decide_eq_true_eq]at hc;have aN:=(abR.1 h2).1;refine⟨.tuple #[.bool true,goInt x.2,.int .i32 (Utf8.decode x.1 x.2).1],{ w with heap:=w.heap.setIfInBounds r (.stringIter x.1 (x.2+(Utf8.decode x.1 x.2).2)) },?_,?_,?_⟩
    ·simp only[Instr.next,Sem.run_bind,gT h2 (by simp),Result.andThen_ok,hc,if_true,CM h2 (by simp),Sem.run_pure]
    ·simp only[bF.hp];rw[kX,heq];exact tW (N:=N) g (by rw[yD];simp) (by rw[h1];rfl) aN _ (ok:=.oZ) (x:=(x.1,x.2+Ci x.1 x.2)) (fun w' ME _=>⟨r,h1,by rw[ME];simp[aN,Ci]⟩)
    ·simp only[bF.v,aA,au];exact⟨_,rfl,_,_,rfl,rfl,_,_,rfl,rfl,_,_,rfl,rfl,rfl⟩
   |false =>
    rw[hc]at he;cases he;simp only[decide_eq_false_iff_not]at hc;refine⟨.tuple #[.bool false],w,?_,Next.refl g,?_⟩
    ·simp only[Instr.next,Sem.run_bind,gT h2 (by simp),Result.andThen_ok,hc,if_false,Sem.run_pure]
    ·simp only[bF.v,aA,au];exact⟨_,rfl,_,_,rfl,rfl,rfl⟩
  ·cases he
 ·cases he
theorem find_born{l:List MapEntry}(h:l.Pairwise (fun a b=>a.born≠b.born)){e:MapEntry}(he:e∈l):l.find? (fun x=>x.born==e.born)=some e:=by
 induction l with
 |nil=>cases he
 |cons a r ih =>
  obtain⟨h1,h2⟩:=List.pairwise_cons.1 h
  grind
theorem J4{hh:Heap}(g:Good Z ψ h w B0 O)(bz:∀id o,hh.get id=some o→h id=some o){x:AV}{u:Value}{e:bF}(hx:aA Z ψ h w x u)(he:tL hh x some=some e) :
  ∃y v,e=.val y∧(Instr.entry u).run P w=.ok v w∧aA Z ψ h w y v:=by
 unfold tL at he
 split at he
 ·rename_i id
  split at he
  ·rename_i kk vk c rest hg
   cases he
   have yD:=bz _ _ hg;simp only[aA]at hx;have hu:=hx.2 (by rw[yD];simp);obtain⟨r,m,since,seen,b8,clock,h1,h2,h3,h4,h5,h6,h7,h8,h9⟩:=g.row id (.iter kk vk) (some c,rest) yD;rw[h1]at hu;subst hu;obtain⟨en,qq,Fg,TI⟩:=h9;obtain⟨⟨k1,k2,k3⟩,v1,v2,v3⟩:=TI.2 0 c en rfl rfl;refine⟨_,.tuple #[en.key,en.val],rfl,?_,?_⟩
   ·have hf:b8.find? (·.born==en.born)=some en:=by have:=find_born h5 qq;simp_all
    simp only[Instr.entry,Sem.run_bind,gT h2 (by simp),Result.andThen_ok,Fg,Sem.run_pure,gT h4 (by simp),hf];simp
   ·simp only[aA,au];exact⟨_,rfl,_,_,rfl,mP k1 k2 k3,_,_,rfl,mP v1 v2 v3,rfl⟩
  ·cases he
 ·cases he
theorem iw(w:World)(dT sT ty elem:TypeId)(sz g o abF ajp:Nat)(a:Addr)(abG ajq:Nat)(cur:Array Value)(t:TypeId)(cs:List Value) (hu:P.underlying dT=some (.slice elem)) (hs:(P.info? elem).map (·.size)=some sz) (hg:w.heap[g]? = some (.cells cur t (0,0))) (hn:cs.length=Nat.min abG abF*sz) (yS:∀(j:Nat) v,cs[j]? = some v→w.cell? (a.add j)=some v) (QM:o+cs.length≤cur.size) (h1:∀v∈cs,v.oneCell'=true) :
  (Builtin.copy_ #[dT,sT] ty #[.slice (some ⟨g,o,none⟩) abF ajp,.slice (some a) abG ajq]).run P w = .ok (goInt (Nat.min abG abF)) (w.setRow g (cur.toList.take o++cs++cur.toList.drop (o+cs.length)).toArray):=by
 have hl:=run_loadCells_list (P:=P) w a cs yS;have vQ:=run_storeCells_at P g o t cs 0 cur w hg (by simpa using QM) h1
 cases hq:P.info? elem with
 |none=>simp[hq]at hs
 |some i =>
  have hi:i.size=sz:=by simpa[hq] using hs
  simp only[Nat.add_zero]at vQ;simp[Builtin.copy_,run_underlying hu,Builtin.lenOf,Builtin.firstCells,sizeOf,typeInfo,hq,hi,←hn,hl,vQ]
theorem Gy{e:TypeId}(h:Qz P e=true):P.underlying e=some (.int .u8):=by
 unfold Qz at h
 split at h
 ·assumption
 ·cases h
theorem Yj{ns:List Int}{vs:List Value}(h:lj Z w (.int .u8) ns vs)(hl:vs.length=ns.length):vs=ns.map (Value.int .u8):=by
 apply adz;intro i;by_cases hi:i<ns.length
 ·have h1:=h i ns[i] (aa8 hi);have h1:(vs.drop (i*1)).take 1=[Value.int .u8 ns[i]]:=h1;have h2:=congrArg (·[0]?) h1;simp only[Nat.mul_one,List.getElem?_take,List.getElem?_drop,Nat.add_zero,Nat.zero_lt_one,if_true]at h2;rw[h2,List.getElem?_map,List.getElem?_eq_getElem hi];rfl
 ·rw[List.getElem?_eq_none (by omega),List.getElem?_eq_none (by simp;omega)]
theorem Yk(ns:List Int):lj Z w (.int .u8) ns (ns.map (Value.int .u8)):=fun i x hx=>by
 show((ns.map (Value.int .u8)).drop (i*1)).take 1=[Value.int .u8 x];obtain⟨hi,rfl⟩:=abC.1 hx;have:i<(ns.map (Value.int .u8)).length:=by rw[List.length_map];exact hi
 rw[Nat.mul_one,List.drop_eq_getElem_cons this];simp;rfl
theorem Yl{hh:Heap}(g:Good Z ψ h w B0 O)(bz:∀id o,hh.get id=some o→h id=some o){src dst e:TypeId}(hs:P.underlying src=some (.slice e))(he:Qz P e=true)(hd:P.underlying dst=some .string) {x:AV} {u:Value} {ns:List Int} (hx:rowOf hh x (.int .u8)=some ns) (hr:aA Z ψ h w x u):(convert src dst u).run P w=.ok (.string (strOf ns)) w:=by
 obtain⟨news,⟨h1,_,hu⟩,hv⟩:=w5 (g.sub bz) hx (hr.oK bz);have OM:=Gy he;have h1:news.length=ns.length*1:=h1;rw[Nat.mul_one]at h1;have hn:=Yj hv h1;rcases hu with⟨rfl,h0⟩|⟨a,c,rfl,h2⟩
 ·have:ns=[]:=abY h0;subst this;rw[run_convert_bytes_string w src dst e none 0 0 hs OM hd];rfl
 ·rw[run_convert_bytes_string w src dst e _ _ _ hs OM hd];refine run_bytesToString w a ns.length c ns ?_;have:=run_loadCells_list (P:=P) w a news h2;rw[h1,hn]at this;exact this
theorem bytesOf_length(s:ByteArray):(bytesOf s).length=s.size:=by unfold bytesOf;rw[List.length_map,Array.length_toList];rfl
theorem CN(s:ByteArray):Lib.strCells s=(bytesOf s).map (Value.int .u8):=by simp[Lib.strCells,bytesOf,Function.comp_def]
theorem QN(g:Good Z ψ h w B0 O)(hB:B0≤w.heap.size){src dst e:TypeId}(hs:P.underlying src=some .string)(hd:P.underlying dst=some (.slice e))(he:Qz P e=true)(s:ByteArray) :
  ∃V w' Z',(convert src dst (.string s)).run P w=.ok V w'∧Next Z ψ h w B0 O N Z' ψ h w'∧aA Z' ψ h w' (.sl false (.int .u8) (bytesOf s)) V:=by
 have OM:=Gy he
 let cells:Array Value:=s.data.map (fun b=>Value.int .u8 (b.toNat:Int))++Array.replicate (grownCap w s.size 0 e-s.size) (.int .u8 0)
 let w1:=w.drew.alloc (.cells cells e)
 have hg1:w1.heap[w.heap.size]? = some (.cells cells e (0,0)):=heap_alloc_new w.drew _;have hsh:w1.shape? w.heap.size=some (e,cells.size):=by simp[World.shape?,hg1]
 let w2:=w1.freeze ⟨w.heap.size,cells.size,none⟩ 1
 have dn:(convert src dst (.string s)).run P w=.ok (.slice (some ⟨w.heap.size,0,none⟩) s.size (grownCap w s.size 0 e)) w2:=by
  have e1:(newRow e cells).run P w.drew=.ok ⟨w.heap.size,0,none⟩ w1:=by simp[newRow,w1]
  have e2:(markStringish ⟨w.heap.size,0,none⟩).run P w1=.ok () w2:=by simp[markStringish,hsh,w2]
  simp only[convert,Sem.run_bind,run_underlying hs,run_underlying hd,run_underlying OM,Result.andThen_ok,Conv.stringToBytes,run_choose_drew];have e0:(Question.appendCap s.size 0 e).forced=false:=by simp[Question.forced]
  simp only[e0,Bool.false_eq_true,if_false,Result.andThen_ok];show((newRow e cells).run P w.drew).andThen _=_;rw[e1];simp only[Result.andThen_ok,e2];rfl
 have iY:w2.heap.size=w.heap.size+1:=by simp[w2,World.freeze,w1,World.alloc]
 have hold:∀b,b<w.heap.size→w2.heap[b]? = w.heap[b]? := fun b hb=>by
  have h1:w1.heap[b]? = w.heap[b]? := heap_alloc_old w.drew _ hb;have h2:w2.heap[b]? = w1.heap[b]? := by simp only[w2,World.freeze,if_neg (show ¬(1=0) by decide),Array.getElem?_modify];rw[if_neg (by omega)]
  rw[h2,h1]
 have CD:∃f,w2.heap[w.heap.size]? = some (.cells cells e f):=by simp only[w2,World.freeze,if_neg (show ¬(1=0) by decide),Array.getElem?_modify,if_true,hg1,Option.map_some];exact⟨_,rfl⟩
 have kk:cT ψ h w w2:=⟨rfl,rfl,rfl,by omega,fun b hb _=>hold b hb⟩;have m:Next Z ψ h w B0 O (fun _=>False) Z ψ h w2:=g.more kk (fun b hb=>hold b (g.bQ hb)) (fun _ _=>⟨rfl,rfl⟩) (fun i ty cs hb=>by
  have e:(fun _:Nat=>¬False)=fun _=>True:=by funext i;simp
  rw[e];exact aC.top cs) (fun _ _ _ h=>h.elim) (fun _ _ _ h=>h.elim) (fun _ _ h=>h.elim) (fun _ _ _ h=>h.elim) hB
 have hz:∀b,Z b→Z b∨b=w.heap.size:=fun b h=>.inl h;refine⟨_,w2,fun b=>Z b∨b=w.heap.size,dn,⟨hz,fun b hb=>hb.imp (fun h=>h) fun h=>.inr (by omega),m.keep,fun i hi=>.inl ((m.ids i hi).resolve_right (fun h=>h)),⟨fun i ty cs hb=>?_,fun i ok x hb=>?_,fun i b h1 h2=>?_,m.dE.apart,fun b hb=>?_⟩⟩,?_⟩
 ·obtain⟨gg,vs,f1,f2,f3,f4⟩:=m.dE.box i ty cs hb;exact⟨gg,vs,f1,f2,au.less hz (cv.refl _ _) (fun _ h=>⟨h,rfl⟩) f3,f4⟩
 ·exact(m.dE.row i ok x hb).kept hz (cv.refl _ _) (fun _ _=>rfl)
 ·obtain⟨k1,k2⟩:=m.dE.live i b h1 h2;refine⟨fun hb=>hb.elim k1 fun hb=>?_,k2⟩;have:=g.bQ ⟨i,h1,h2⟩;omega
 ·rcases hb with hb|hb
  ·exact m.dE.kz b hb
  ·omega
 ·simp only[aA];obtain⟨f,hf⟩:=CD;have XM:=grownCap_ge w s.size 0 e;refine⟨⟨_,rfl,some ⟨w.heap.size,0,none⟩,grownCap w s.size 0 e,congrArg (fun n=>Value.slice _ n _) (bytesOf_length s).symm,(show List.length (α:=Int) (bytesOf s)≤_ by rw[bytesOf_length];exact XM),fun h=>(by cases h),fun i x hx=>?_⟩,fun h=>(by cases h)⟩;refine⟨_,[.int .u8 x],rfl,.inr rfl,rfl,fun j u hu=>?_⟩
  cases j with
  |succ j=>simp at hu
  |zero =>
   simp only[List.getElem?_cons_zero,Option.some.injEq]at hu;subst hu;rw[ct];simp only[World.cell?,hf];have TB:(bytesOf s)[i]? = some x:=hx;obtain⟨hi,rfl⟩:=abC.1 TB;have hi2:i<s.data.size:=by rw[bytesOf_length]at hi;exact hi
   show cells[0+(i*1+0)]? = _;simp only[Nat.zero_add,Nat.mul_one,Nat.add_zero,cells];rw[Array.getElem?_append_left (by simpa using hi2)];simp[bytesOf,Array.getElem?_eq_getElem hi2]
theorem QO{e:TypeId}(h:abu P e=true):∃i,P.info? e=some i∧i.zero=some (.int .u8 0)∧i.size=1∧i.bytes=1:=by
 unfold abu at h
 split at h
 ·rename_i i hi;simp only[Bool.and_eq_true,decide_eq_true_eq]at h;obtain⟨⟨h1,h2⟩,h3⟩:=h
  split at h3
  ·rename_i n hz;simp only[decide_eq_true_eq]at h3;subst h3;exact⟨i,hi,hz,h1,h2⟩
  ·cases h3
 ·cases h
theorem Fm{hh:Heap}(g:Good Z ψ h w B0 O)(hB:B0≤w.heap.size)(bz:∀id o,hh.get id=some o→h id=some o){id:Nat}(hN:N id){t t' ty:TypeId}{s:AV}{u:Value}{b:ByteArray}{e:bF} (ht':P.underlying t'=some .string) (hs:aA Z ψ h w s u) (Bp:aL (fun i=>¬N i) s) (JC:∀i ty cs,h i=some (.box ty cs)→aC (fun i=>i≠id) cs) (mQ:∀v hw,e=.wr v hw→hh.get=h) (he:my P hh id t s b some=some e) :
  ∃V w' ψ',(Builtin.append_ #[t,t'] ty #[u,.string b]).run P w=.ok V w'∧Next Z ψ h w B0 O N Z ψ' (e.hp h) w'∧aA Z ψ' (e.hp h) w' e.v V:=by
 unfold my at he
 split at he
 rotate_left
 ·cases he
 rename_i et cI het
 split at he
 rotate_left
 ·cases he
 rename_i hu8;obtain⟨i,hi,hz,iY,hby⟩:=QO hu8
 split at he
 rotate_left
 ·cases he
 rename_i e' k' xs hg
 split at he
 rotate_left
 ·cases he
 rename_i hc;obtain⟨rfl,rfl⟩:=hc
 cases pC:(!xs.isEmpty&&aI xs.length b.size) with
 |false=>rw[pC]at he;cases he
 |true =>
  rw[pC]at he;cases he;simp only[Bool.and_eq_true,aI,decide_eq_true_eq,Bool.not_eq_true',List.isEmpty_eq_false_iff]at pC;obtain⟨bB,QM⟩:=pC;have Fh:=List.length_pos_iff.2 bB;have heq:=mQ _ _ rfl;have yD:=bz _ _ hg;simp only[aA]at hs;have hu:=hs.2 (by rw[yD];simp);subst hu;simp only[aL]at Bp;have ht:=gq het;obtain⟨vs,Yg,ZZ⟩:=g.row cI (.row e' (.int .u8)) xs yD;have hold:h cI≠none:=by rw[yD];simp
  unfold fB at QM;rcases Yg.2 with⟨h0,_⟩|⟨gg,cap,cur,hv,Tv,h4,h5,h6,h7,h8⟩
  ·omega
  have r9:w.ownsRow 0 e' 1 (ψ cI) xs.length vs:=⟨Yg.1,.inr ⟨gg,cap,cur,hv,adx _,h4,h5,h6,h7,h8⟩⟩;obtain⟨V,w',dn,k1,k2,k3⟩:=Lib.run_append_own_string (P:=P) w 0 t t' ty e' i ht ht' hi hz iY hby _ _ vs r9 b (by simp only[maxLen];omega) (by omega) (adx _);have oV:ob (ψ cI)=some gg:=by rw[hv];simp only[ob];rw[if_neg (by omega)]
  have hgr:w.grownBy w' (ob (ψ cI)):=by rw[oV];rw[hv]at k2;exact k2
  have JB:dW w' e' 1 V (xs.length+b.size) (vs++Lib.strCells b):=dW.of k1;have CD:ob V=ob (ψ cI)∨∀c,ob V=some c→w.heap.size≤c:=by
   by_cases dO:xs.length+b.size≤cap
   ·have hr:=Lib.run_append_room_string (P:=P) w t t' ty e' i ht ht' hi iY gg xs.length cap cur h4 b dO (by have:cur.size=cap*1:=h7;omega);rw[hv]at dn
    cases dn.symm.trans hr
    left;rw[oV];simp only[ob];rw[if_neg (by omega)]
   ·have yE:vs.length=xs.length*1:=Yg.1;have hr:=Lib.run_append_grow_string (P:=P) w t t' ty e' i (.int .u8 0) ht ht' hi hz ⟨gg,0,none⟩ xs.length cap vs (by rw[iY];exact yE) (r9.cells (g:=gg) (by rw[hv];rfl)) b (by omega) (by omega) (by rw[hby];exact growslice_fits (by omega) (by omega));rw[hv]at dn
    cases dn.symm.trans hr
    right;intro c hc;simp only[ob]at hc;split at hc<;>cases hc;exact acf _
  have kk:cT ψ h w w':=cT.grown hgr (fun b e=>⟨cI,hold,e⟩);have sm:=kk.same g;have pw:jP Z w' (.row e' (.int .u8)) V (sx xs b):=⟨vs++Lib.strCells b,by
   have e9:List.length (α:=Int) (sx xs b)=List.length (α:=Int) xs+b.size:=(List.length_append (as:=(show List Int from xs)) (bs:=bytesOf b)).trans (by rw[bytesOf_length]);show dW w' e' 1 V (List.length (α:=Int) (sx xs b)) _;rw[e9];exact JB,by
   rw[CN];exact(ZZ.append (Yk (bytesOf b)) Yg.1).Cz sm⟩
  refine⟨V,w',dY ψ id V,dn,?_,?_⟩
  ·simp only[bF.hp];rw[kX,tS,heq];exact nV g hB id cI hN yD (fun e=>Bp (by rw[e];exact hN)) hgr (ok:=.row e' (.int .u8)) pw CD JC
  ·simp only[bF.v,bF.hp,aA];exact⟨JB.one,fun _=>(bh _ _ _).symm⟩
theorem J5(g:Good Z ψ h w B0 O)(hB:B0≤w.heap.size){id:Nat}(hN:N id){t:TypeId}{l c:AV}{u v:Value}{e:bF}(hl:aA Z ψ h w l u)(hc:aA Z ψ h w c v) (JC:∀i ty cs,h i=some (.box ty cs)→aC (fun i=>i≠id) cs) (he:tI P id t l c some=some e) :
  ∃V w' ψ',(Instr.makeSlice t u v).run P w=.ok V w'∧Next Z ψ h w B0 O N Z ψ' (e.hp h) w'∧aA Z ψ' (e.hp h) w' e.v V:=by
 unfold tI at he
 split at he
 rotate_left
 ·cases he
 rename_i et n m het
 split at he
 rotate_left
 ·cases he
 rename_i kk hk
 split at he
 rotate_left
 ·cases he
 rename_i kZ;simp only[Bool.and_eq_true]at kZ;obtain⟨kZ,hz⟩:=kZ
 cases TJ:(decide (0≤n)&&(decide (n≤(fB:Int))&&decide (m=n))) with
 |false=>rw[TJ]at he;cases he
 |true =>
  rw[TJ]at he;cases he;simp only[Bool.and_eq_true,decide_eq_true_eq]at TJ;obtain⟨h0,h1,rfl⟩:=TJ;simp only[aA]at hl hc;subst hl;subst hc;obtain⟨q,rfl⟩:∃q:Nat,m=(q:Int):=⟨m.toNat,by omega⟩;have hq:q≤fB:=by omega
  obtain⟨i,z,vl⟩:=cj kZ;obtain⟨z',yC,BJ,_⟩:=CI (Z:=Z) (w:=w) hz;have hzz:z'=z:=by have:=sP (P:=P) (w:=w) vl.info vl.zero;rw[this]at yC;cases yC;rfl
  subst hzz;have hb:=vl.bytes;unfold fB at hq;have hby:i.bytes*q≤281474976710656:=acE (aek hb hq) (by decide);have ht:=gq het;obtain⟨w',dn,k1,k2⟩:=run_make_full (P:=P) w 0 t et i z' kk.sz ht vl.info vl.zero vl.size .i64 .i64 q hby (by simp only[maxLen];omega) (adx _);have kk2:cT ψ h w w':=cT.grown k2 (fun b e=>by cases e);have hv:lj Z w' kk (List.replicate q (ki kk)) (madeCells z'.cells (q*kk.sz)).toList:=fun i x hx=>by
   obtain⟨hi,rfl⟩:=abC.1 hx;rw[List.length_replicate]at hi;rw[List.getElem_replicate];have QP:=vl.w4;refine aJ.py ?_ (BJ.mono (fun _ h=>h) (kk2.same g));have hmul:i*kk.sz+kk.sz≤q*kk.sz:=by rw[←Nat.succ_mul];exact acd _ hi
   have Fh:=kk.gQ;apply adz;intro j;rw[List.getElem?_take,List.getElem?_drop];by_cases hj:j<kk.sz
   ·rw[if_pos hj];have aN:i*kk.sz+j<q*kk.sz:=by omega
    simp only[madeCells,Array.getElem?_toList,Array.getElem?_map,Array.getElem?_range,aN,if_true,Option.map_some];rw[QP,show(i*kk.sz+j)%kk.sz=j by rw[Nat.add_comm,Nat.add_mul_mod_self_right,Nat.mod_eq_of_lt hj],getElem!_pos z'.cells j (by omega),Array.getElem?_eq_getElem (by omega)]
   ·rw[if_neg hj,List.getElem?_eq_none (by simp;omega)]
  refine⟨_,w',dY ψ id (.slice (some ⟨w.heap.size,0,none⟩) q q),dn,?_,?_⟩
  ·simp only[bF.hp];rw[gS];refine pz g hB id et hN kk2 (fun b hb=>k2.block b (g.bQ hb) (by simp)) (vs:=(madeCells z'.cells (q*kk.sz)).toList) (by rw[Int.toNat_natCast,List.length_replicate];exact dW.of k1) (by rw[Int.toNat_natCast];exact hv) (fun b hb=>?_) JC;simp only[ob]at hb;split at hb<;>cases hb;exact acf _
  ·simp only[bF.v,bF.hp,aA];exact⟨(dW.of k1).one,fun _=>(bh _ _ _).symm⟩
theorem CO{hh:Heap}(g:Good Z ψ hh.get w B0 O){t t' ty:TypeId}{d s:AV}{u v:Value}{e:bF}(hd:aA Z ψ hh.get w d u)(hs:aA Z ψ hh.get w s v)(he:yI P hh t d s some=some e) :
  ∃n hw w',e=.wr (.int .i64 n) hw∧(Builtin.copy_ #[t,t'] ty #[u,v]).run P w=.ok (.int .i64 n) w'∧Next Z ψ hh.get w B0 O N Z ψ hw.get w':=by
 unfold yI at he
 split at he
 rotate_left
 ·cases he
 rename_i et id het
 split at he
 rotate_left
 ·cases he
 rename_i e' k xs hg
 split at he
 rotate_left
 ·cases he
 rename_i ys QQ
 split at he
 rotate_left
 ·cases he
 rename_i hc;obtain⟨rfl,kZ⟩:=hc
 cases bB:xs.isEmpty with
 |true=>rw[bB]at he;cases he
 |false =>
  rw[bB]at he;cases he;obtain⟨i,z,vl⟩:=cj kZ;have ht:=gq het;have Fh:=List.length_pos_iff.2 (List.isEmpty_eq_false_iff.1 bB);have iY:=k.gQ;simp only[aA]at hd;have hu:=hd.2 (by rw[hg];simp);subst hu;obtain⟨vs,ho,hv⟩:=g.row id (.row e' k) xs hg;obtain⟨hvl,ad4⟩:=ho;rcases ad4 with⟨h0,_⟩|⟨gg,cap,cur,e1,e2,e3,e4,e5,e6,e7⟩
  ·omega
  have bM:hh.get id≠none:=by rw[hg];simp
  have oV:ob (ψ id)=some gg:=by rw[e1];simp only[ob];rw[if_neg (by omega)]
  obtain⟨news,⟨n1,n2,n3⟩,nv⟩:=w5 g QQ hs;have Tv:xs.length*k.sz≤cap*k.sz:=acd _ e4;have vR:cur.toList.length=cap*k.sz:=by rw[Array.length_toList];exact e6
  rcases n3 with⟨rfl,n0⟩|⟨a,c,rfl,n4⟩
  ·have:ys=[]:=abY n0;subst this;have hr:=run_copy_nil (P:=P) w t t' ty e' ⟨gg,0,none⟩ xs.length cap ht (by simp[vl.info]);refine⟨0,_,w,rfl,by rw[e1];exact hr,?_⟩;have e9:(hh.set id (.own (.row e' k) xs)).get=hh.get:=by
    funext j;by_cases hj:j=id
    ·subst hj;rw[Heap.wW,hg]
    ·rw[Heap.Ct hj]
   have e8:nR ([]:List k.T) xs=xs:=by simp[nR]
   rw[e8,e9];exact Next.refl g
  ·let m:=Nat.min ys.length xs.length
   have hmy:m≤ys.length:=Nat.min_le_left _ _;have hmx:m≤xs.length:=Nat.min_le_right _ _;have apv:m*k.sz≤ys.length*k.sz:=acd _ hmy;have apw:m*k.sz≤xs.length*k.sz:=acd _ hmx
   let cs:=news.take (m*k.sz)
   have MX:cs.length=m*k.sz:=by simp only[cs,List.length_take];omega
   have hr:=iw (P:=P) w t t' ty e' k.sz gg 0 xs.length cap a ys.length c cur e' cs ht (by simp[vl.info,vl.size]) e3 MX (fun j q hq=>n4 j q (by
    simp only[cs,List.getElem?_take]at hq
    split at hq
    ·exact hq
    ·cases hq)) (by rw[MX,e6];omega) (fun q hq=>n2 q (List.mem_of_mem_take hq))
   have ajv:((m:Nat):Int)=min (ys.length:Int) (xs.length:Int):=by show((min ys.length (List.length (α:=k.T) xs):Nat):Int)=min (ys.length:Int) ((List.length (α:=k.T) xs:Nat):Int);omega
   have Ye:nR ys xs=ys.take m++xs.drop m:=by
    unfold nR;rcases Nat.le_total ys.length xs.length with h1|h1
    ·have:m=ys.length:=Nat.min_eq_left h1;rw[this,List.take_of_length_le h1,List.take_of_length_le (Nat.le_refl _)]
    ·have:m=xs.length:=Nat.min_eq_right h1;rw[this,List.drop_eq_nil_of_le h1,List.drop_eq_nil_of_le (Nat.le_refl _)]
   have hlen:(ys.take m++xs.drop m).length=xs.length:=by rw[List.length_append,List.length_take,List.length_drop];omega
   refine⟨_,_,_,rfl,by rw[e1,←ajv];exact hr,?_⟩;have r9:Own ψ hh.get gg:=⟨id,bM,oV⟩;have hk:=cT.setRow (w:=w) r9 ((cur.toList.take 0++cs++cur.toList.drop (0+cs.length)).toArray);have sm:=hk.same g;rw[kX];refine g.write id bM hk (fun b hb _=>setRow_other _ (fun e=>hb (by rw[oV,e]))) _ (fun _ _ he=>by cases he) (fun X9 x' he=>?_)
   cases he
   let gM:=cur.toList.take 0++cs++cur.toList.drop (0+cs.length)
   have Fi:gM.length=cap*k.sz:=by simp only[gM,List.length_append,List.length_take,List.length_drop,vR,MX];omega
   have jr:gM.take (xs.length*k.sz)=cs++vs.drop (m*k.sz):=by simp only[gM,List.take_zero,List.nil_append,Nat.zero_add];rw[List.take_append,List.take_of_length_le (by omega),MX,←e7,List.drop_take]
   rw[Ye];refine⟨gM.take (xs.length*k.sz),⟨by rw[List.length_take,Fi,hlen];omega,.inr ⟨gg,cap,gM.toArray,by rw[hlen];exact e1,e2,setRow_heap w gg cur _ e' _ e3,by rw[hlen];exact e4,e5,by simpa using Fi,by rw[hlen]⟩⟩,?_⟩;rw[jr];refine lj.Cz (lj.append (fun i x hx=>?_) (fun i x hx=>?_) (by rw[MX,List.length_take,Nat.min_eq_left hmy])) sm
   ·obtain⟨hi,hx2⟩:=abC.1 hx;rw[List.length_take]at hi;have him:i<m:=by omega
    have h9:i*k.sz+k.sz≤m*k.sz:=by rw[←Nat.succ_mul];exact acd _ him
    rw[List.getElem?_take,if_pos him]at hx;refine aJ.py ?_ (nv i x hx);simp only[cs];rw[List.drop_take,List.take_take,Nat.min_eq_left (by omega)]
   ·rw[List.getElem?_drop]at hx;refine aJ.py ?_ (hv _ x hx);rw[List.drop_drop,Nat.add_mul]
mutual
theorem aL.imp{p q:Nat→Prop}(H8:∀i,p i→q i):∀{a:AV},aL p a→aL q a
 |.no,_=>by simp only[aL]
 |.bool b,_=>by simp only[aL]
 |.int k n,_=>by simp only[aL]
 |.str s,_=>by simp only[aL]
 |.mg,_=>by simp only[aL]
 |.gh,_=>by simp only[aL]
 |.ref id s i off,h=>by simp only[aL]at h ⊢;exact H8 _ h
 |.fp k x off,_=>by simp only[aL]
 |.sl ex k xs,_=>by simp only[aL]
 |.mp kk vk es,_=>by simp only[aL]
 |.bN id,h=>by simp only[aL]at h ⊢;exact H8 _ h
 |.fn f cap,h=>by simp only[aL]at h ⊢;exact aC.imp H8 h
 |.agg cs,h=>by simp only[aL]at h ⊢;exact aC.imp H8 h
 |.oG cs,h=>by simp only[aL]at h ⊢;exact aC.imp H8 h
theorem aC.imp{p q:Nat→Prop}(H8:∀i,p i→q i):∀{a:List AV},aC p a→aC q a
 |[],_=>by simp only[aC]
 |a::r,h=>by simp only[aC]at h ⊢;exact⟨aL.imp H8 h.1,aC.imp H8 h.2⟩
end
theorem aL.cells{p:Nat→Prop}{a:AV}(h:aL p a):aC p a.cells:=by
 cases a with
 |agg cs=>grind [AV.cells,aL]
 |_=>simp_all [AV.cells,aC,trivial]
theorem CP:∀{cs:List AV},JN cs=true→∀id,AV.bN id∉cs
 |[],_,id=>by simp
 |c::r,hn,id=>by
  intro hm
  cases c with
  |bN i=>simp[JN]at hn
  |_ =>
   simp only[JN]at hn;rcases abD.1 hm with e|hm
   ·cases e
   ·exact CP hn id hm
theorem sQ:∀{vs:List AV},vM vs=true→∀v∈vs,∀id,AV.bN id∉v.cells
 |[],_,v,hv=>by simp at hv
 |a::r,hn,v,hv=>by
  simp only[vM,Bool.and_eq_true]at hn;rcases abD.1 hv with rfl|hv
  ·exact CP hn.1
  ·exact sQ hn.2 v hv
def xd(o:Oper):Bool :=match o.op with
 |.call { callee:=.value _,.. }=>true
 |_=>false
theorem M3{s:List (Nat×AV)}{ρC:Operand→Value}{x:Option Operand}(hx:∀y,x=some y→aA Z ψ h w (ρ s y) (ρC y)):fa Z ψ h w (x.map (ρ s)) (x.map ρC):=by
 cases x with
 |none=>trivial
 |some y=>exact hx y rfl
theorem CQ{s:List (Nat×AV)}{ρC:Operand→Value}:∀(ps:List (Nat×Operand)),(∀p∈ps,aA Z ψ h w (ρ s p.2) (ρC p.2))→(∀p∈ps,ρ s p.2≠.no)→vj Z ψ h w (ps.map fun p=>(p.1,ρ s p.2)) (ps.map fun p=>(p.1,ρC p.2))
 |[],_,_=>trivial
 |p::r,h1,h2=>⟨rfl,h2 p (by simp),h1 p (by simp),CQ r (fun q hq=>h1 q (abA _ hq)) (fun q hq=>h2 q (abA _ hq))⟩
theorem Gz{k:K}{hh:Heap}:∀{ps:List (Nat×AV)} {i:Nat} {xs:List k.T},sG k hh i ps=some xs→∀p∈ps,p.2≠.no
 |[],_,_,_,p,hp=>by simp at hp
 |(j,v)::r,i,xs,hl,p,hp=>by
  simp only[sG]at hl
  split at hl
  ·split at hl
   ·rename_i x ys h1 h2;rcases abD.1 hp with rfl|hp
    ·exact Gs h1
    ·exact Gz h2 p hp
   ·cases hl
  ·cases hl
theorem abH{α:Type}{l:List α}(h:l.length=0+1+1):∃x y,l=[x,y]:=by
 cases l with
 |nil=>simp at h
 |cons a r=>cases r with
  |nil=>simp at h
  |cons b s=>simp_all
theorem M4{a:AV}(h:ZV a=true):a≠.no:=by rintro rfl;cases h
section
variable {Eqs:TypeId→Option K} {Sg:FuncId→Option aO} {F:(f:FuncId)→(g:aO)→g.A→Option g.B}
theorem H9{hh:Heap}{ρC:Operand→Value}{o:Oper}(g:Good Z ψ h w B0 O)(hB:B0≤w.heap.size)(bz:∀id o,hh.get id=some o→h id=some o){id:Nat}(hN:N id){t:TypeId}{s x:AV}{u v:Value}{e:bF} (hs:aA Z ψ h w s u) (hx:aA Z ψ h w x v) (Bp:aL (fun i=>¬N i) s) (bm:∀i ty cs,h i=some (.box ty cs)→aC (fun i=>¬N i) cs) (mQ:∀v hw,e=.wr v hw→hh.get=h) (he:o5 P hh id t s x some=some e) (dn:∀V w',(Builtin.append_ #[t,t] o.type #[u,v]).run P w=.ok V w'→(execOp ρC o).run P w=.ok (.value V) w'):im P ρC o Z ψ h w B0 O N e:=by
 have JC:∀i ty cs,h i=some (.box ty cs)→aC (fun i=>i≠id) cs:=fun i ty cs hb=>(bm i ty cs hb).imp (fun j hj e=>hj (by simp_all));unfold o5 at he
 split at he
 ·cases he
 ·rename_i et het;have ht:=gq het
  split at he
  ·cases he
  ·rename_i kk Ym
   split at he
   ·rename_i ys QQ kZ;obtain⟨inf,z,vl⟩:=cj kZ
    split at he
    ·
     cases hc:aI 0 ys.length with
     |false=>simp_all
     |true =>
      rw[hc]at he;cases he;simp only[aI,decide_eq_true_eq]at hc;simp only[aA]at hs;subst hs;obtain⟨V,w',h1,h2,h3⟩:=rI (P:=P) (ty:=o.type) g bz hB hN ht vl QQ hx (by omega) JC;refine⟨V,w',Z,_,.inl (dn V w' h1),by simp only[bF.hp];rw[gS];exact h2,?_⟩
      grind [bF.v,bF.hp,aA,bh]
    ·
     rename_i cI
     split at he
     ·rename_i e' k' xs hg
      split at he
      ·rename_i hc;obtain⟨rfl,rfl⟩:=hc
       cases pC:aI xs.length ys.length with
       |false=>simp_all
       |true =>
        rw[pC]at he;cases he;simp only[aI,decide_eq_true_eq]at pC;have heq:=mQ _ _ rfl;have yD:=bz _ _ hg;simp only[aA]at hs;have hu:=hs.2 (by rw[yD];simp);subst hu;simp only[aL]at Bp;obtain⟨V,w',h1,h2,h3⟩:=Bo (P:=P) (ty:=o.type) g bz hB hN (fun e=>Bp (by simp_all)) ht vl yD QQ hx pC JC;refine⟨V,w',Z,_,.inl (dn V w' h1),by simp only[bF.hp];rw[kX,tS,heq];exact h2,?_⟩
        grind [bF.v,bF.hp,aA,bh]
      ·cases he
     ·cases he
    ·
     rename_i ex k' xs
     split at he
     ·rename_i hc;subst hc
      cases pC:(ex&&((!ys.isEmpty || xs.isEmpty)&&aI xs.length ys.length)) with
      |false=>simp_all
      |true =>
       rw[pC]at he;cases he;simp only[Bool.and_eq_true,Bool.or_eq_true,aI,decide_eq_true_eq,Bool.not_eq_true',List.isEmpty_eq_false_iff,List.isEmpty_iff]at pC;obtain⟨rfl,bB,QM⟩:=pC;obtain⟨V,w',h1,h2,h3⟩:=CA (P:=P) (ty:=o.type) g bz hB hN ht vl hs QQ hx (bB.imp List.length_pos_iff.2 (fun h=>h)) QM JC;refine⟨V,w',Z,_,.inl (dn V w' h1),by simp only[bF.hp];rw[gS];exact h2,?_⟩
       grind [bF.v,bF.hp,aA,bh]
     ·cases he
    ·cases he
   ·cases he
theorem CR{ρC:Operand→Value}{o:Oper}(g:Good Z ψ h w B0 O)(hB:B0≤w.heap.size){id:Nat}(hN:N id){t:TypeId}{vs:List AV}{us:Array Value}{e:bF}(hr:au Z ψ h w vs us.toList)(h1:∀u∈us.toList,u.oneCell'=true) (hm:aC (fun i=>¬N i) vs) (bm:∀i ty cs,h i=some (.box ty cs)→aC (fun i=>¬N i) cs) (he:yP id t vs some=some e) (dn:(execOp ρC o).run P w=.ok (.value (.pointer (some ⟨w.heap.size,0,none⟩))) (w.alloc (.cells us t))):im P ρC o Z ψ h w B0 O N e:=by
 unfold yP at he
 cases he
 have bB:∀i,¬N i→i≠id:=fun j hj e=>hj (by rw[e];exact hN);have n:=wZ (N:=N) g hB id t hN hr h1 (fun i ty cs hb=>(bm i ty cs hb).imp bB) (hm.imp bB);refine⟨_,_,Z,_,.inl dn,by simp only[bF.hp];rw[gS];exact n,?_⟩;simp only[bF.v,bF.hp,aA];exact⟨_,rfl,fun _=>by rw[bh];simp[Yc]⟩
theorem QR{hh:Heap}{ρC:Operand→Value}{s:List (Nat×AV)}{o:Oper}(g:Good Z ψ h w B0 O)(hB:B0≤w.heap.size)(bz:∀id o,hh.get id=some o→h id=some o){id:Nat}(hN:N id){t:TypeId}{n:Nat}{ps:Array (Nat×Operand)}{e:bF} (nX:∀p∈ps.toList,aA Z ψ h w (ρ s p.2) (ρC p.2)) (bm:∀i ty cs,h i=some (.box ty cs)→aC (fun i=>¬N i) cs) (lV:Bool) {e0:bF} (Yn:e=if lV then Yb e0 else e0) (mQ:∀v hw,e=.wr v hw→hh.get=h) (he:wR P hh id t n (ps.toList.map fun p=>(p.1,ρ s p.2)) some=some e0)
  (dn:∀V w',(Instr.buildSlice t n (ps.map fun p=>(p.1,ρC p.2))).run P w=.ok V w'→(execOp ρC o).run P w=.ok (.value V) w'):im P ρC o Z ψ h w B0 O N e:=by
 have JC:∀i ty cs,h i=some (.box ty cs)→aC (fun i=>i≠id) cs:=fun i ty cs hb=>(bm i ty cs hb).imp (fun j hj e=>hj (by simp_all));unfold wR at he
 split at he
 ·cases he
 ·rename_i et het;have ht:=gq het
  split at he
  ·cases he
  ·rename_i k hk
   split at he
   ·cases he
   ·cases he
   ·rename_i xs pw kZ;obtain⟨inf,z,vl⟩:=cj kZ;have M5:=CQ (Z:=Z) (ψ:=ψ) (h:=h) (w:=w) ps.toList nX (fun p hp=>Gz pw (p.1,ρ s p.2) (acn.2 ⟨p,hp,rfl⟩));have OR:vj Z ψ hh.get w (ps.toList.map fun p=>(p.1,ρ s p.2)) (ps.map fun p=>(p.1,ρC p.2)).toList:=by rw[Array.toList_map];exact M5.oK bz
    split at he
    ·rename_i hc;obtain⟨rfl,hn⟩:=hc
     cases vT:vM ((ps.toList.map fun p=>(p.1,ρ s p.2)).map (·.2)) with
     |true =>
      rw[vT]at he;cases he;have ajw:=sQ vT;obtain⟨V,w',h1,h2,h3⟩:=JX (P:=P) (N:=N) g (g.sub bz) (fun _ h=>h) hB hN ht vl (fun p hp i b hm=>absurd hm (ajw p.2 (acn.2 ⟨p,hp,rfl⟩) i)) OR pw hn JC
      cases lV with
      |false =>
       have Yn:e=.new (.bN id) [(id,.own (.row et k) xs)]:=Yn;subst Yn;refine⟨V,w',Z,_,.inl (dn V w' h1),by simp only[bF.hp];rw[gS];exact h2,?_⟩
       grind [bF.v,bF.hp,aA,bh]
      |true =>
       have Yn:e=.new (.sl true k xs) []:=Yn;subst Yn;obtain⟨m1,m2⟩:=Ty g hB h2 h3.2.1 h3.2.2.1 h3.2.2.2;have e1:(bF.new (.sl true k xs) []).hp h=h:=by rfl
       refine⟨V,w',_,_,.inl (dn V w' h1),by rw[e1];exact m1,?_⟩;rw[e1];exact m2
     |false =>
      rw[vT]at he;cases he;have Yn:e=.wr (.bN id) ((id,.own (.row et k) xs)::cS hh ((ps.toList.map fun p=>(p.1,ρ s p.2)).flatMap (·.2.cells))):=by rw[Yn];cases lV<;>rfl
      subst Yn;have heq:=mQ _ _ rfl;subst heq
      let cs:=(ps.toList.map fun p=>(p.1,ρ s p.2)).flatMap (·.2.cells)
      have gd:=jq g cs;obtain⟨V,w',h1,h2,h3⟩:=JX (P:=P) (N:=N) gd g (fun b hb=>.inl hb) hB hN ht vl (fun p hp i b hm bB hb=>.inr ⟨i,List.mem_flatMap.2 ⟨p,hp,hm⟩,bB,hb⟩) OR pw hn (fun i ty cs' hb=>JC i ty cs' (eP _ _ _ _ hb));refine⟨V,w',so Z ψ hh.get cs,dY ψ id V,.inl (dn V w' h1),?_,?_⟩
      ·simp only[bF.hp];rw[CE];exact h2.drop (fun b hb=>.inl hb) (fun b hb=>hb.imp (fun h=>h) (fun⟨i,_,h5,h6⟩=>⟨i,h5,h6⟩)) (eP _ _)
      grind [bF.v,bF.hp,aA,bh]
    ·cases he
theorem QS{lV:Bool}{h:Heap}{id:Nat}{t:TypeId}{n:Nat}{ps:List (Nat×AV)}{e:bF}(he:yQ P lV h id t n ps some=some e):∃e0,wR P h id t n ps some=some e0∧e=if lV then Yb e0 else e0:=by
 unfold yQ wR at he;unfold wR
 split at he
 ·cases he
 split at he
 ·cases he
 grind
theorem CS(p:Nat→Prop)(v:Value):aL p (yG v):=by
 cases v with
 |pointer a=>grind [yG,aL]
 |slice a n c=>grind [yG,aL]
 |func fn first cap =>
  cases fn with
  |func f=>grind [yG,aL,aC]
  |_=>simp only[yG,aL]
 |_=>simp only[yG,aL]
theorem yZ(p:Nat→Prop):∀vs:List Value,aC p (vs.map yG)
 |[]=>by simp[aC]
 |v::r=>by simp only[List.map_cons,aC];exact⟨CS p v,yZ p r⟩
theorem QT(p:Nat→Prop)(v:Value):aC p (vL v).cells:=by
 cases v with
 |agg cs=>grind [vL,AV.cells,yZ]
 |_=>simp_all [vL,Gq,aC,CS,trivial]
theorem TK(E9:∀t k,Eqs t=some k→mR P t k){hh:Heap}{ρC:Operand→Value}{s:List (Nat×AV)}{o:Oper}(g:Good Z ψ h w B0 O)(hB:B0≤w.heap.size)(bz:∀id o,hh.get id=some o→h id=some o){id:Nat}(hN:makes o.op=true→N id){e:bF} (nX:∀x∈o.op.operands,aA Z ψ h w (ρ s x) (ρC x)) (hm:∀x∈o.op.operands,aL (fun i=>¬N i) (ρ s x)) (bm:∀i ty cs,h i=some (.box ty cs)→aC (fun i=>¬N i) cs) (mQ:∀v hw,e=.wr v hw→hh.get=h) (MF:xd o=false) (he:da P Eqs Sg F id hh s o some=some e):im P ρC o Z ψ h w B0 O N e:=by
 obtain⟨dst,op,type,pos,after,guard⟩:=o;have two:∀{a b:Operand},(∀x∈(#[a,b]:Array Operand),aA Z ψ h w (ρ s x) (ρC x))→aA Z ψ h w (ρ s a) (ρC a)∧aA Z ψ h w (ρ s b) (ρC b):=fun hx=>⟨hx _ (by simp),hx _ (by simp)⟩
 cases op<;>simp only[da]at he<;>simp only[Op.operands]at nX hm<;>first|(cases he;done)|skip
 case move x=>cases he;exact im.val g (V:=ρC x) (by simp[execOp]) (nX x (by simp))
 case assign x=>cases he;exact im.val g (V:=ρC x) (by simp[execOp]) (nX x (by simp))
 case pick c a b =>
  have h1:=nX c (by simp);have h2:=nX a (by simp);have h3:=nX b (by simp)
  split at he
  ·rename_i t ht
   cases he
   rw[ht]at h1;simp only[aA]at h1;refine im.val g (V:=if t then ρC a else ρC b) (by simp[execOp,h1,asBool]) ?_;unfold ZT
   split
   ·rename_i p q hp hq;rw[hp]at h2;rw[hq]at h3;simp only[aA]at h2 h3 ⊢
    cases t<;>simp[h2,h3]
   ·cases t
    ·exact h3
    ·exact h2
  ·cases he
 case alloc t =>
  split at he
  ·rename_i z hz;obtain⟨i,zv,hi,hzz,rfl,h1⟩:=qG hz;exact CR (us:=zv.cells) g hB (hN rfl) (CC zv) h1 (QT _ zv) bm he (by simp[execOp,Instr.alloc,sP hi hzz,newVar,newRow,newObj,Sem.run])
  ·cases he
 case box t x =>
  have h1:=nX x (by simp)
  split at he
  ·rename_i hp;have hc:=h1.cells (J0 hp);exact CR (us:=(ρC x).cells) g hB (hN rfl) hc (vY hp hc) (hm x (by simp)).cells bm he (by simp[execOp,Instr.box,newVar,newRow,newObj,Sem.run])
  ·cases he
 case build t ps =>
  unfold tM at he
  split at he
  ·rename_i z fs hz hf
   split at he
   ·rename_i cs ad6 jQ
    cases he
    simp only[Bool.and_eq_true]at jQ;obtain⟨jQ,hnn⟩:=jQ;have ad7:fs.toList.all (fun f=>(P.info? f.type).isSome)=true:=jQ;have abI:∀p∈ps.toList,aA Z ψ h w (ρ s p.2) (ρC p.2):=fun p hp=>nX p.2 (by simp;exact⟨p.1,by simpa using hp⟩);have M5:=CQ (Z:=Z) (ψ:=ψ) (h:=h) (w:=w) ps.toList abI (fun p hp=>M4 (adp.1 hnn (p.1,ρ s p.2) (acn.2 ⟨p,hp,rfl⟩)));obtain⟨V,h1,h2⟩:=QF (P:=P) (qs:=ps.map fun p=>(p.1,ρC p.2)) hz hf ad7 (by rw[Array.toList_map];exact M5) ad6;exact im.val g (V:=V) (by simp only[execOp,Sem.run_bind];rw[h1];simp) h2
   ·cases he
  ·cases he
 case buildSlice t n ps =>
  have abI:∀p∈ps.toList,aA Z ψ h w (ρ s p.2) (ρC p.2):=fun p hp=>nX p.2 (by simp;exact⟨p.1,by simpa using hp⟩);obtain⟨e0,h0,h1⟩:=QS he;exact QR g hB bz (hN rfl) abI bm (ZW Sg t _) h1 mQ h0 (fun V w' h1=>by simp only[execOp,Sem.run_bind];rw[h1];simp)
 case load t a =>
  obtain⟨x,V,rfl,h1,h2⟩:=vW g bz (nX a (by simp)) he;exact im.val g (V:=V) (by simp[execOp,h1]) h2
 case store t a v =>
  obtain⟨h1,h2⟩:=two nX;have hw:∃hw,e=.wr .no hw:=by obtain⟨hw,_,_,h3,_⟩:=Az (P:=P) (N:=N) (g.sub bz) (h1.oK bz) (h2.oK bz) he;exact⟨hw,h3⟩
  obtain⟨hw,rfl⟩:=hw;have heq:=mQ _ _ rfl;subst heq;obtain⟨ME,w',Z',h3,h4,h5⟩:=Az (P:=P) (N:=N) g h1 h2 he
  cases h3
  exact⟨undef,w',Z',ψ,.inr ⟨by simp[execOp,h4],rfl⟩,h5,by simp only[bF.v,aA]⟩
 case nilCheck x =>
  have h1:=nX x (by simp)
  split at he
  ·rename_i id s i off hx
   cases he
   rw[hx]at h1;have h2:=h1;simp only[aA]at h1;obtain⟨a,ha,_⟩:=h1;exact im.val g (V:=ρC x) (by simp[execOp,ha]) h2
  ·rename_i k y off hx
   cases he
   rw[hx]at h1;have h2:=h1;simp only[aA]at h1;obtain⟨a,us,ha,_⟩:=h1;exact im.val g (V:=ρC x) (by simp[execOp,ha]) h2
  ·rename_i f cap hx
   cases he
   rw[hx]at h1;have h2:=h1;simp only[aA]at h1;obtain⟨vs,ha,_⟩:=h1;exact im.val g (V:=ρC x) (by simp[execOp,ha]) h2
  ·cases he
 case binOp op t x y yt =>
  obtain⟨h1,h2⟩:=two nX;obtain⟨r,V,rfl,h3,h4⟩:=QJ E9 (xo:=x) (yo:=y) h1 h2 he;exact im.val g (V:=V) (by simp only[execOp,Sem.run_bind]at h3 ⊢;rw[h3];simp) h4
 case unOp op t x =>
  have h1:=nX x (by simp)
  cases op<;>simp only at he<;>first|(cases he;done)|skip
  split at he
  ·rename_i b hx
   cases he
   rw[hx]at h1;simp only[aA]at h1;exact im.val g (V:=.bool (!b)) (by simp[execOp,h1,Op.unary]) (by simp only[aA])
  ·cases he
 case convert src dst x =>
  have h1:=nX x (by simp);unfold Cp at he
  split at he
  ·rename_i k1 k2 k3 n hs hd hx
   cases he
   rw[hx]at h1;simp only[aA]at h1;exact im.val g (V:=.int k2 (k2.wrap n)) (by simp[execOp,h1,convert,run_underlying hs,run_underlying hd,Conv.intToInt]) (by simp only[aA])
  ·rename_i sv hs hd hx
   cases he
   rw[hx]at h1;have h2:=h1;simp only[aA]at h1;exact im.val g (V:=ρC x) (by simp[execOp,h1,convert,run_underlying hs,run_underlying hd]) h2
  ·rename_i e sv hs hd hx
   split at he
   ·rename_i hu
    cases he
    rw[hx]at h1;simp only[aA]at h1;obtain⟨V,w',Z',h2,h3,h4⟩:=QN (P:=P) (N:=N) g hB hs hd hu sv;have e1:(bF.new (.sl false (.int .u8) (bytesOf sv)) []).hp h=h:=by funext i;simp[bF.hp,Heap.get]
    refine⟨V,w',Z',ψ,.inl (by simp only[execOp,h1,Sem.run_bind,h2,Result.andThen_ok,Sem.run_pure]),by rw[e1];exact h3,?_⟩;rw[e1];exact h4
   ·cases he
  ·rename_i _ e hs hd
   split at he
   ·rename_i hu
    split at he
    ·rename_i xs hx
     cases he
     exact im.val g (V:=.string (strOf xs)) (by simp only[execOp,Sem.run_bind,Yl g bz hs hu hd hx h1,Result.andThen_ok,Sem.run_pure]) (by simp only[aA])
    ·cases he
   ·cases he
  ·cases he
 case makeSlice t l c =>
  have h1:=nX l (by simp);have h2:=nX c (by simp);have JC:∀i ty cs,h i=some (.box ty cs)→aC (fun i=>i≠id) cs:=fun i ty cs hb=>(bm i ty cs hb).imp (fun j hj e=>hj (by rw[e];exact hN rfl));obtain⟨V,w',ψ',h3,h4,h5⟩:=J5 g hB (hN rfl) h1 h2 JC he;exact⟨V,w',Z,ψ',.inl (by simp only[execOp,Sem.run_bind,h3,Result.andThen_ok,Sem.run_pure]),h4,h5⟩
 case makeFunc fn first cap =>
  cases fn<;>simp only at he<;>first|(cases he;done)|skip
  rename_i f
  split at he
  ·rename_i hf
   cases he
   have h0:first=#[]:=adO hf
   subst h0;have hl:∀l:List Operand,(∀x∈l,aA Z ψ h w (ρ s x) (ρC x))→au Z ψ h w (l.map (ρ s)) (l.map ρC):=by
    intro l
    induction l with
    |nil=>intro _;simp[au]
    |cons a r ih=>intro ha;simp only[List.map_cons,au];exact⟨_,_,rfl,ha a (by simp),ih (fun x hx=>ha x (abA _ hx))⟩
   exact im.val g (V:=.func (.func f) #[] (cap.map ρC)) (by simp[execOp,Instr.makeFunc]) (by simp only[aA];exact⟨_,rfl,by rw[Array.toList_map];exact hl _ (fun x hx=>nX x (by simp;simpa using hx))⟩)
  ·cases he
 case slice t x lo hi mx =>
  have h1:=nX x (by simp);have h2:fa Z ψ h w (lo.map (ρ s)) (lo.map ρC):=M3 (fun y hy=>nX y (by subst hy;simp));have h3:fa Z ψ h w (hi.map (ρ s)) (hi.map ρC):=M3 (fun y hy=>nX y (by subst hy;simp));have h4:fa Z ψ h w (mx.map (ρ s)) (mx.map ρC):=M3 (fun y hy=>nX y (by subst hy;simp))
  split at he
  ·rename_i ht;unfold yK at he
   split at he
   ·rename_i sv hx hmx
    split at he
    ·rename_i l u hb
     cases ho:az sv.size l u with
     |false=>rw[ho]at he;cases he
     |true =>
      rw[ho]at he;cases he;rw[hx]at h1;simp only[aA]at h1;have hm0:mx=none:=by cases mx with
       |none=>rfl
       |some m=>simp at hmx
      subst hm0;have dn:=vX (P:=P) (w:=w) (b:=false) (acf sv.size) h2 h3 (mx:=none) (mx':=none) trivial hb ho (.inl rfl);exact im.val g (V:=.string (abt sv l u)) (by simp[execOp,Instr.sliceAt,Instr.slice,run_underlying ht,h1,dn,abt]) (by simp only[aA])
    ·cases he
   ·cases he
  ·rename_i et ht
   split at he
   ·rename_i hse;obtain⟨V,Z',h5,h6,h7⟩:=JZ (P:=P) (N:=N) g bz ht h1 h2 h3 h4 mQ he hse;exact⟨V,w,Z',ψ,.inl (by simp[execOp,h5]),h6,h7⟩
   ·cases he
  ·cases he
 case fieldAddr t x f =>
  have h1:=nX x (by simp)
  split at he
  ·rename_i n ft id sz i off hf hx
   split at he
   ·cases he
   ·rename_i hc
    cases he
    rw[hx]at h1;obtain⟨V,h2,h3⟩:=vo (P:=P) hf hc h1;exact im.val g (V:=V) (by simp[execOp,h2]) h3
  ·rename_i n ft k y off hf hx
   split at he
   ·cases he
   ·rename_i hc
    cases he
    rw[hx]at h1;obtain⟨V,h2,h3⟩:=w7 (P:=P) hf hc h1;exact im.val g (V:=V) (by simp[execOp,h2]) h3
  ·cases he
 case field t x f =>
  have h1:=nX x (by simp)
  split at he
  ·rename_i n ft cs hf hx
   split at he
   ·rename_i v hv
    cases he
    rw[hx]at h1;obtain⟨V,h2,h3⟩:=JY (P:=P) hf h1 hv;exact im.val g (V:=V) (by simp[execOp,h2]) h3
   ·cases he
  ·cases he
 case indexAddr t x i =>
  obtain⟨h1,h2⟩:=two nX;obtain⟨y,V,rfl,h3,h4⟩:=rJ g bz h1 h2 he;exact im.val g (V:=V) (by simp[execOp,h3]) h4
 case index t x i =>
  obtain⟨h1,h2⟩:=two nX
  split at he
  ·rename_i sv ik n ht hx hi;obtain⟨c,hc,XJ⟩:=ado.1 he
   cases XJ
   rw[hx]at h1;rw[hi]at h2;simp only[aA]at h1 h2;exact im.val g (V:=.int .u8 (c.toNat:Int)) (by simp[execOp,Instr.index,asIntOf,run_underlying ht,h1,h2,hc]) (by simp only[aA])
  ·cases he
 case extract t i =>
  have h1:=nX t (by simp)
  split at he
  ·rename_i vs hx
   split at he
   ·rename_i v hv
    cases he
    rw[hx]at h1;simp only[aA]at h1;obtain⟨us,hu,hl⟩:=h1;obtain⟨u,h2,h3⟩:=hl.get i hv;exact im.val g (V:=u) (by simp[execOp,Instr.extract,hu,show us[i]? = some u by simpa using h2]) h3
   ·cases he
  ·cases he
 case makeMap t r =>
  cases r with
  |some r=>cases he
  |none =>simp only at he;have JC:∀i ty cs,h i=some (.box ty cs)→aC (fun i=>i≠id) cs:=fun i ty cs hb=>(bm i ty cs hb).imp (fun j hj e=>hj (by rw[e];exact hN rfl));obtain⟨V,w',ψ',h1,h2,h3⟩:=Fl g hB (hN rfl) JC he;exact⟨V,w',Z,ψ',.inl (by simp[execOp,h1]),h2,h3⟩
 case lookup t m i ok =>
  obtain⟨h1,h2⟩:=two nX;obtain⟨y,V,rfl,h3,h4⟩:=H6 E9 g bz h1 h2 he;exact im.val g (V:=V) (by simp[execOp,h3]) h4
 case mapUpdate t m i v =>
  have h1:=nX m (by simp);have h2:=nX i (by simp);have h3:=nX v (by simp);have hw:∃hw,e=.wr (.oG []) hw:=by obtain⟨hw,_,_,h4,_⟩:=w9 (N:=N) E9 (g.sub bz) (h1.oK bz) (h2.oK bz) (h3.oK bz) he;exact⟨hw,h4⟩
  obtain⟨hw,rfl⟩:=hw;have heq:=mQ _ _ rfl;subst heq;obtain⟨ME,w',Z',h4,h5,h6⟩:=w9 (N:=N) E9 g h1 h2 h3 he
  cases h4
  exact⟨undef,w',Z',ψ,.inr ⟨by simp[execOp,h5],rfl⟩,h6,by simp only[bF.v,aA,au];exact⟨#[],rfl,rfl⟩⟩
 case range t x =>
  have JC:∀i ty cs,h i=some (.box ty cs)→aC (fun i=>i≠id) cs:=fun i ty cs hb=>(bm i ty cs hb).imp (fun j hj e=>hj (by rw[e];exact hN rfl));obtain⟨V,w',ψ',h1,h2,h3⟩:=H7 g hB (hN rfl) (nX x (by simp)) JC he;exact⟨V,w',Z,ψ',.inl (by simp[execOp,h1]),h2,h3⟩
 case next x b =>
  cases b with
  |false=>cases he
  |true =>obtain⟨V,w',h1,h2,h3⟩:=J3 (P:=P) (N:=N) (ty:=type) g bz (nX x (by simp)) mQ he;exact⟨V,w',Z,ψ,.inl (by simp[execOp,h1]),h2,h3⟩
 case entry x =>
  obtain⟨y,V,rfl,h1,h2⟩:=J4 (P:=P) g bz (nX x (by simp)) he;exact im.val g (V:=V) (by simp[execOp,h1]) h2
 case call c =>
  obtain⟨callee,args,argTypes⟩:=c
  cases callee with
  |value f=>simp[xd]at MF
  |invoke r m=>simp only at he;cases he
  |builtin b =>
   have jA:∀x∈args.toList,aA Z ψ h w (ρ s x) (ρC x):=fun x hx=>nX x (by simp only[Call.operands];exact Array.mem_append.2 (.inr (by simpa using hx)));have M6:∀x∈args.toList,aL (fun i=>¬N i) (ρ s x):=fun x hx=>hm x (by simp only[Call.operands];exact Array.mem_append.2 (.inr (by simpa using hx)));obtain⟨args⟩:=args;obtain⟨argTypes⟩:=argTypes;simp only at he jA M6
   cases b<;>simp only at he<;>first|(cases he;done)|skip
   case append =>
    split at he
    ·rename_i l1 l2 x y t t'
     split at he
     ·rename_i htt;subst htt;exact H9 g hB bz (hN rfl) (jA x (by simp)) (jA y (by simp)) (M6 x (by simp)) bm mQ he (fun V w' h1=>by simp only[execOp,resolve,invoke,builtin,Sem.run_bind,Sem.run_pure,Result.andThen_ok,List.map_toArray,List.map_cons,List.map_nil,h1])
     ·split at he
      ·rename_i b hb hy;have h2:=jA y (by simp);rw[hy]at h2;simp only[aA]at h2;have JC:∀i ty cs,h i=some (.box ty cs)→aC (fun i=>i≠id) cs:=fun i ty cs hb=>(bm i ty cs hb).imp (fun j hj e=>hj (by rw[e];exact hN rfl));obtain⟨V,w',ψ',h3,h4,h5⟩:=Fm (ty:=type) (t:=t) (t':=t') g hB bz (hN rfl) hb (jA x (by simp)) (M6 x (by simp)) JC mQ he;exact⟨V,w',Z,ψ',.inl (by simp only[execOp,resolve,invoke,builtin,Sem.run_bind,Sem.run_pure,Result.andThen_ok,List.map_toArray,List.map_cons,List.map_nil,h2,h3]),h4,h5⟩
      ·cases he
    ·cases he
   case copy =>
    split at he
    ·rename_i l1 l2 x y t t';have h1:=jA x (by simp);have h2:=jA y (by simp);have hw:∃n hw,e=.wr (.int .i64 n) hw:=by obtain⟨n,hw,_,h4,_⟩:=CO (N:=N) (t':=t') (ty:=type) (g.sub bz) (h1.oK bz) (h2.oK bz) he;exact⟨n,hw,h4⟩
     obtain⟨n,hw,rfl⟩:=hw;have heq:=mQ _ _ rfl;subst heq;obtain⟨n',ME,w',h4,h5,h6⟩:=CO (N:=N) (t':=t') (ty:=type) g h1 h2 he
     cases h4
     exact⟨.int .i64 n,w',Z,ψ,.inl (by simp only[execOp,resolve,invoke,builtin,Sem.run_bind,Sem.run_pure,Result.andThen_ok,List.map_toArray,List.map_cons,List.map_nil,h5]),h6,by simp only[bF.v,aA]⟩
    ·cases he
   case delete =>
    split at he
    ·rename_i l1 l2 m x t ts;have h1:=jA m (by simp);have h2:=jA x (by simp);have hw:∃hw,e=.wr (.oG []) hw:=by obtain⟨hw,_,h4,_⟩:=xc (N:=N) (ty:=type) (ts:=ts) E9 (g.sub bz) (h1.oK bz) (h2.oK bz) he;exact⟨hw,h4⟩
     obtain⟨hw,rfl⟩:=hw;have heq:=mQ _ _ rfl;subst heq;obtain⟨ME,w',h4,h5,h6⟩:=xc (N:=N) (ty:=type) (ts:=ts) E9 g h1 h2 he
     cases h4
     exact⟨.tuple #[],w',Z,ψ,.inl (by simp only[execOp,resolve,invoke,builtin,Sem.run_bind,Sem.run_pure,Result.andThen_ok,List.map_toArray,List.map_cons,List.map_nil,h5]),h6,by simp only[bF.v,aA,au];exact⟨#[],rfl,rfl⟩⟩
    ·cases he
   case len =>
    split at he
    ·rename_i l1 l2 x t
     split at he
     ·rename_i htm;obtain⟨n,rfl,h1⟩:=M1 (P:=P) (ty:=type) g bz htm (jA x (by simp)) he;exact im.val g (V:=.int .i64 (n:Int)) (by simp only[execOp,resolve,invoke,builtin,Sem.run_bind,Sem.run_pure,Result.andThen_ok,List.map_toArray,List.map_cons,List.map_nil,h1]) (by simp only[aA])
     split at he
     ·rename_i aN;obtain⟨n,rfl,h1⟩:=QH g bz (jA x (by simp)) he;refine im.val g (V:=.int .i64 (n:Int)) ?_ (by simp only[aA]);rcases h1 with⟨sv,h2,h3,rfl⟩|⟨A,c,h3⟩
      ·unfold abv at aN;rw[h2]at aN
       split at aN
       ·rename_i hu _;simp[execOp,resolve,invoke,builtin,Builtin.len_,run_underlying hu,h3,goInt]
       ·cases aN
       ·rename_i h9;exact(h9 _ rfl).elim
       ·cases aN
      ·have hu:∃e,P.underlying t=some (.slice e):=by
        have h4:=jA x (by simp);rw[h3]at h4;unfold abv at aN
        split at aN
        ·rename_i sv _ hxx;rw[hxx]at h4;simp only[aA]at h4;cases h4
        ·cases aN
        ·rename_i e _ hu _;exact⟨_,hu⟩
        ·cases aN
       obtain⟨e,hu⟩:=hu;simp[execOp,resolve,invoke,builtin,Builtin.len_,run_underlying hu,h3,goInt]
     ·cases he
    ·cases he
   all_goals
    unfold QA at he
    split at he
    ·rename_i k a k' b hxy;have hl:=congrArg List.length hxy;simp only[List.length_map,List.length_cons,List.length_nil]at hl;obtain⟨x,y,rfl⟩:=abH hl;simp only[List.map_cons,List.map_nil,List.cons.injEq,and_true]at hxy;have h1:=jA x (by simp);have h2:=jA y (by simp);rw[hxy.1]at h1;rw[hxy.2]at h2;simp only[aA]at h1 h2
     split at he
     ·rename_i hk;subst hk
      cases he
      refine im.val g (V:=bZ (.int _ _)) ?_ (kB _ _)
      first
       |(simp[execOp,resolve,invoke,builtin,Builtin.max_,Builtin.max2,h1,h2,bZ];simp only[Int.max_def];split<;>split<;>omega)
       |(simp[execOp,resolve,invoke,builtin,Builtin.min_,Builtin.min2,h1,h2,bZ];simp only[Int.min_def];split<;>split<;>omega)
     ·cases he
    ·cases he
end
end Go.Vs
namespace Go.Vs
variable {P:Program} {Z Z' Zf:Nat→Prop} {ψ ψ':Nat→Value} {h h':Hp} {w w':World} {B0:Nat} {O:Nat→Prop} {N:Nat→Prop}
abbrev AD:=Nat×Option Nat×Ob
def ep(L:List AD):Heap:=L.map fun e=>(e.1,e.2.2)
def kC(ψ:Nat→Value):Option Nat→Value
 |some s=>ψ s
 |none=>.slice none 0 0
def fC(ψ:Nat→Value):List AD→Nat→Value
 |[],_=>undef
 |(i,s,_)::r,n=>if i=n then kC ψ s else fC ψ r n
theorem pH{L:List AD}{i:Nat}{o:Ob}(hg:(ep L).get i=some o):∃s,(i,s,o)∈L:=by
 induction L with
 |nil=>simp[ep,Heap.get]at hg
 |cons e r ih =>
  obtain⟨j,s,o'⟩:=e;simp only[ep,List.map_cons,Heap.get]at hg
  split at hg
  ·rename_i e;subst e;cases hg;exact⟨s,ab4⟩
  ·obtain⟨s',hs⟩:=ih hg;exact⟨s',abA _ hs⟩
theorem nY{i:Nat}{r:List Nat}(h:cg (i::r)=true):i∉r∧cg r=true:=by simp_all [cg,Bool.and_eq_true,Bool.not_eq_true',List.contains_iff_mem]
theorem jB{L:List AD}(hn:cg (L.map (·.1))=true){i:Nat}{s:Option Nat}{o:Ob}(hm:(i,s,o)∈L):fC ψ L i=kC ψ s:=by
 induction L with
 |nil=>cases hm
 |cons e r ih =>
  obtain⟨j,s',o'⟩:=e;obtain⟨h1,h2⟩:=nY hn;simp only[fC]
  grind
theorem Yo{L:List AD}(hs:cg (L.filterMap (·.2.1))=true){i j s:Nat}{o o':Ob}(h1:(i,some s,o)∈L)(h2:(j,some s,o')∈L):i=j∧o=o':=by
 induction L with
 |nil=>cases h1
 |cons e r ih =>
  obtain⟨k,s',o''⟩:=e;have mem:∀{k:Nat} {o:Ob},(k,some s,o)∈r→s∈r.filterMap (·.2.1):=fun h=>aeg.2 ⟨_,h,rfl⟩;rw[List.filterMap_cons]at hs
  cases s' with
  |none =>simp_all
  |some s' =>
   simp only[]at hs;obtain⟨h3,h4⟩:=nY hs
   grind
def J6:(ok:OK)→ok.T→Prop
 |.row _ _,xs=>xs=[]
 |_,_=>False
theorem J6.owns:∀{ok:OK} {xs:ok.T},J6 ok xs→jP Z w ok (.slice none 0 0) xs
 |.row ty k,xs,h=>by have h:xs=[]:=h;subst h;exact⟨[],⟨by simp,.inl ⟨rfl,none,rfl⟩⟩,fun i x hx=>by simp at hx⟩
 |.map _ _,_,h=>h.elim
 |.iter _ _,_,h=>h.elim
 |.oZ,_,h=>h.elim
def xe(Z:Nat→Prop)(ψ:Nat→Value)(h:Hp)(w:World)(h':Hp)(ψ':Nat→Value):AD→Prop
 |(_,some s,.own ok xs)=>h s=some (.own ok xs)
 |(_,none,.own ok xs)=>J6 ok xs
 |(_,some s,.box ty cs')=>(∃cs,h s=some (.box ty cs))∧∀gg vs,ψ s=.pointer (some ⟨gg,0,none⟩)→w.heap[gg]? = some (.cells vs ty (0,0))→au Z ψ' h' w cs' vs.toList
 |(_,none,.box _ _)=>False
theorem Good.rename(g:Good Z ψ h w B0 O){L:List AD}(hn:cg (L.map (·.1))=true)(hs:cg (L.filterMap (·.2.1))=true)(kZ:∀e∈L,xe Z ψ h w (ep L).get (fC ψ L) e) :
  Good Z (fC ψ L) (ep L).get w B0 O:=by
 have src:∀id b,(ep L).get id≠none→ob (fC ψ L id)=some b→∃s o,(id,some s,o)∈L∧h s≠none∧ob (ψ s)=some b:=fun id b h1 h2=>by
  obtain⟨o,ho⟩:=abS.1 h1;obtain⟨s,hm⟩:=pH ho;rw[jB hn hm]at h2
  cases s with
  |none=>simp[kC,ob]at h2
  |some s =>
   have h3:=kZ _ hm;refine⟨s,o,hm,?_,h2⟩
   cases o with
   |box ty cs=>obtain⟨⟨cs0,h4⟩,_⟩:=h3;rw[h4];simp
   |own ok xs=>rw[show h s=some (.own ok xs) from h3];simp
 refine⟨fun id ty cs hb=>?_,fun id ok xs hb=>?_,fun id b h1 h2=>?_,fun id pe b h1 h2 h3 h4=>?_,g.kz⟩
 ·obtain⟨s,hm⟩:=pH hb;have h3:=kZ _ hm;rw[jB hn hm]
  cases s with
  |none=>exact h3.elim
  |some s =>obtain⟨⟨cs0,h4⟩,h5⟩:=h3;obtain⟨gg,vs,h6,h7,h8,h9⟩:=g.box s ty cs0 h4;exact⟨gg,vs,h6,h7,h5 gg vs h6 h7,h9⟩
 ·obtain⟨s,hm⟩:=pH hb;have h3:=kZ _ hm;rw[jB hn hm]
  cases s with
  |none=>exact J6.owns h3
  |some s=>exact g.row s ok xs h3
 ·obtain⟨s,o,hm,h3,h4⟩:=src id b h1 h2;exact g.live s b h3 h4
 ·obtain⟨s,o,hm,h5,h6⟩:=src id b h1 h3;obtain⟨s',o',hm',h5',h6'⟩:=src pe b h2 h4;have:=g.apart s s' b h5 h5' h6 h6'
  grind [Yo]
def BN(hh:Heap)(i:Nat):List AV:=match hh.get i with
 |some (.box _ cs)=>cs
 |_=>[]
def eu:(dV:List CK)→Nat→List AV→ss dV→List AD
 |[],_,_,_=>[]
 |.val k::r,n,cs,x=>eu r (n+1) (cs.drop k.sz) x.2
 |.own ok::r,n,cs,x=>(n,(qB (cs.headD .no)).head?,.own ok x.1)::eu r (n+1) cs.tail x.2
def fm:(b:BK)→Heap→Nat→Nat→Nat→b.T→List AD
 |.box ty c,hh,i,i',n,x=>(i',some i,.box ty (aG c n x))::eu c n (BN hh i) x
 |.own ok,_,i,i',_,x=>[(i',some i,.own ok x)]
def cF:(bs:List BK)→Heap→List Nat→List Nat→Nat→Aq bs→List AD
 |b::r,hh,i::is,i'::is',n,x=>fm b hh i i' n x.1++cF r hh is is' (n+16) x.2
 |_,_,_,_,_,_=>[]
theorem n6:∀(dV:List CK) (n:Nat) (cs:List AV) (x:ss dV),ep (eu dV n cs x)=aZ dV n x
 |[],_,_,_=>rfl
 |.val k::r,n,cs,x=>n6 r (n+1) _ x.2
 |.own ok::r,n,cs,x=>by simp only[eu,aZ,ep,List.map_cons];rw[←n6 r (n+1) cs.tail x.2];rfl
theorem mi:∀(dV:List CK) (n:Nat) (cs:List AV) (x:ss dV),(eu dV n cs x).map (·.1)=cx dV n
 |[],_,_,_=>rfl
 |.val k::r,n,cs,x=>mi r (n+1) _ x.2
 |.own ok::r,n,cs,x=>by simp only[eu,cx,List.map_cons];rw[mi r (n+1) cs.tail x.2]
theorem zc(c:AV):(qB c).head?.toList=qB c:=by cases c<;>rfl
theorem eF{α β:Type}(f:α→Option β)(a:α)(l:List α):(a::l).filterMap f=(f a).toList++l.filterMap f:=by
 grind
theorem qK{k:K}{r:List CK}{hh:Heap}{cs:List AV}{x:ss (.val k::r)}(hd:cW (.val k::r) hh cs=some x):dz k ((cs.take k.sz).map (c9 hh))=some x.1∧cW r hh (cs.drop k.sz)=some x.2:=by
 have e:cW (.val k::r) hh cs=(match dz k ((cs.take k.sz).map (c9 hh)),cW r hh (cs.drop k.sz) with
  |some x,some y=>some ((x,y):k.T×ss r)
  |_,_=>none):=by rfl
 rw[e]at hd;clear e;generalize dz k ((cs.take k.sz).map (c9 hh))=o1 at hd ⊢;generalize cW r hh (cs.drop k.sz)=o2 at hd ⊢
 cases o1 with
 |none=>cases hd
 |some x1 =>
  cases o2 with
  |none=>cases hd
  |some y1=>have:=acP hd;subst this;exact⟨rfl,rfl⟩
theorem mS{ok:OK}{r:List CK}{hh:Heap}{cs:List AV}{x:ss (.own ok::r)}(hd:cW (.own ok::r) hh cs=some x):∃c cs',cs=c::cs'∧eT hh ok c=some x.1∧cW r hh cs'=some x.2:=by
 cases cs with
 |nil=>cases hd
 |cons c cs =>
  refine⟨c,cs,rfl,?_⟩;have e:cW (.own ok::r) hh (c::cs)=(match eT hh ok c,cW r hh cs with
   |some x,some y=>some ((x,y):ok.T×ss r)
   |_,_=>none):=rfl
  rw[e]at hd;clear e;generalize eT hh ok c=o1 at hd ⊢;generalize cW r hh cs=o2 at hd ⊢
  cases o1 with
  |none=>cases hd
  |some x1 =>
   cases o2 with
   |none=>cases hd
   |some y1=>have:=acP hd;subst this;exact⟨rfl,rfl⟩
theorem qL:∀(dV:List CK) (n:Nat) (hh:Heap) (cs:List AV) (x:ss dV),cW dV hh cs=some x→(eu dV n cs x).filterMap (·.2.1)=gF dV cs
 |[],_,_,cs,_,_=>by cases cs<;>rfl
 |.val k::r,n,hh,cs,x,hd=>by
  obtain⟨_,h2⟩:=qK hd;have e:gF (.val k::r) cs=gF r (cs.drop k.sz):=by cases cs<;>rfl
  rw[e];exact qL r (n+1) hh _ x.2 h2
 |.own ok::r,n,hh,cs,x,hd=>by obtain⟨c,cs',rfl,_,h2⟩:=mS hd;simp only[eu,gF];rw[eF];simp only[List.headD_cons,List.tail_cons];rw[zc,qL r (n+1) hh cs' x.2 h2]
theorem mT{hh:Heap}{ok:OK}{c:AV}{xs:ok.T}(ho:eT hh ok c=some xs):(c=.gh∧J6 ok xs)∨∃id,c=.bN id∧hh.get id=some (.own ok xs):=by
 unfold eT at ho
 split at ho
 ·cases ok with
  |row _ _=>cases ho;exact .inl ⟨rfl,rfl⟩
  |_=>cases ho
 ·grind
 ·cases ho
theorem Ia{hh:Heap}{ok:OK}{c:AV}{xs:ok.T}{v:Value}(ho:eT hh ok c=some xs)(hr:aA Z ψ hh.get w c v){n:Nat}(kg:h' n≠none→ψ' n=kC ψ (qB c).head?):aA Z' ψ' h' w' (.bN n) v:=by
 rcases mT ho with⟨rfl,_⟩|⟨id,rfl,hg⟩
 ·simp only[aA]at hr ⊢;subst hr;exact⟨⟨rfl,rfl⟩,fun hn=>(kg hn).symm⟩
 ·simp only[aA]at hr ⊢;refine⟨hr.1,fun hn=>?_⟩;rw[kg hn];exact hr.2 (by rw[hg];simp)
theorem tX{hh:Heap}(g:Good Z ψ hh.get w B0 O)(hz:∀b,Z b→Z' b):∀(dV:List CK) (n:Nat) (cs:List AV) (x:ss dV) (vs:List Value),cW dV hh cs=some x →(∀id b,AV.bN id∈rH dV cs→hh.get id≠none→ob (ψ id)=some b→Z' b)→(∀e∈eu dV n cs x,h' e.1≠none→ψ' e.1=kC ψ e.2.1) → au Z ψ hh.get w cs vs→au Z' ψ' h' w (aG dV n x) vs
 |[],n,cs,x,vs,hd,_,_,hr=>by
  cases cs with
  |nil=>simpa only[aG,au] using hr
  |cons c cs=>cases hd
 |.val k::r,n,cs,x,vs,hd,hf,kg,hr=>by
  obtain⟨h1,h2⟩:=qK hd;have e:rH (.val k::r) cs=cs.take k.sz++rH r (cs.drop k.sz):=by cases cs<;>rfl
  rw[e]at hf;have tQ:au Z ψ hh.get w (cs.take k.sz++cs.drop k.sz) vs:=by rw[List.take_append_drop];exact hr
  obtain⟨us,ws,rfl,h3,h4⟩:=au.split tQ;simp only[aG];have h5:=pn (Z':=Z') g hz (fun id b bM=>hf id b (abM _ bM)) h3;exact au.append (gZ (dA h1 h5)) (tX g hz r (n+1) (cs.drop k.sz) x.2 ws h2 (fun id b bM=>hf id b (abL _ bM)) kg h4)
 |.own ok::r,n,cs,x,vs,hd,hf,kg,hr=>by obtain⟨c,cs',rfl,h1,h2⟩:=mS hd;simp only[au]at hr;obtain⟨v,us,rfl,h3,h4⟩:=hr;simp only[aG,au];refine⟨v,us,rfl,Ia h1 h3 (fun hn=>kg (n,_,_) (by simp only[eu];exact ab4) hn),?_⟩;exact tX g hz r (n+1) cs' x.2 us h2 hf (fun e he=>kg e (by simp only[eu];exact abA _ he)) h4
theorem fR{b:BK}{r:List BK}{hh:Heap}{i:Nat}{is:List Nat}{x:Aq (b::r)}(hd:dy (b::r) hh (i::is)=some x):sy b hh i=some x.1∧dy r hh is=some x.2:=by
 have e:dy (b::r) hh (i::is)=(match sy b hh i,dy r hh is with
   |some x,some y=>some ((x,y):b.T×Aq r)
   |_,_=>none):=rfl
 grind
theorem tY{ty:TypeId}{c:List CK}{hh:Heap}{i:Nat}{x:ss c}(hd:sy (.box ty c) hh i=some x):∃cs,hh.get i=some (.box ty cs)∧cW c hh cs=some x:=by
 grind [sy,Cj]
theorem kD{hh:Heap}{ok:OK}{i:Nat}{x:ok.T}(h:eT hh ok (.bN i)=some x):hh.get i=some (.own ok x):=by
 rcases mT h with⟨h,_⟩|⟨id,h,hg⟩
 ·cases h
 simp_all
theorem GA{ok:OK}{hh:Heap}{i:Nat}{x:ok.T}(hd:sy (.own ok) hh i=some x):hh.get i=some (.own ok x):=kD hd
theorem qM{hh:Heap}{i:Nat}{ty:TypeId}{cs:List AV}(hg:hh.get i=some (.box ty cs)):BN hh i=cs:=by grind [BN]
theorem Ib(b:BK){hh:Heap}{i i' n:Nat}(x:b.T):ep (fm b hh i i' n x)=kr b i' n x:=by
 cases b with
 |box ty c=>grind [fm,kr,n6,BN,ep]
 |own ok=>rfl
theorem Fp(b:BK){hh:Heap}{i i' n:Nat}(x:b.T):(fm b hh i i' n x).map (·.1)=i'::cx b.dV n:=by
 cases b with
 |box ty c=>simp only[fm,List.map_cons,BK.dV];rw[mi]
 |own ok=>simp[fm,BK.dV,cx]
theorem J7(b:BK){hh:Heap}{i i' n:Nat}{x:b.T}(hd:sy b hh i=some x):(fm b hh i i' n x).filterMap (·.2.1)=nS b hh i:=by
 cases b with
 |box ty c =>
  grind [tY,fm,nS,eF,qM,qL]
 |own ok=>rfl
theorem jR:∀(bs:List BK) (hh:Heap) (is is':List Nat) (n:Nat) (x:Aq bs),dy bs hh is=some x→is'.length=bs.length→ep (cF bs hh is is' n x)=bG bs is' n x
 |[],hh,is,is',n,x,_,hl=>by cases is'<;>simp[cF,bG,ep]
 |b::r,hh,[],is',n,x,hd,_=>by cases hd
 |b::r,hh,i::is,[],n,x,_,hl=>by simp at hl
 |b::r,hh,i::is,i'::is',n,x,hd,hl=>by obtain⟨_,h3⟩:=fR hd;have ih:=jR r hh is is' (n+16) x.2 h3 (by simpa using hl);simp only[cF,bG];rw[←ih,←Ib b (hh:=hh) (i:=i) x.1];simp[ep]
theorem iy:∀(bs:List BK) (hh:Heap) (is is':List Nat) (n:Nat) (x:Aq bs),dy bs hh is=some x→is'.length=bs.length→(cF bs hh is is' n x).map (·.1)=b7 bs is' n
 |[],hh,is,is',n,x,_,hl=>by cases is'<;>simp[cF,b7]
 |b::r,hh,[],is',n,x,hd,_=>by cases hd
 |b::r,hh,i::is,[],n,x,_,hl=>by simp at hl
 |b::r,hh,i::is,i'::is',n,x,hd,hl=>by obtain⟨_,h3⟩:=fR hd;have ih:=iy r hh is is' (n+16) x.2 h3 (by simpa using hl);simp only[cF,b7,List.map_append];rw[ih,Fp,List.cons_append]
theorem ll:∀(bs:List BK) (hh:Heap) (is is':List Nat) (n:Nat) (x:Aq bs),dy bs hh is=some x→is'.length=bs.length→(cF bs hh is is' n x).filterMap (·.2.1)=dk bs hh is
 |[],hh,is,is',n,x,_,hl=>by cases is'<;>cases is<;>simp[cF,dk]
 |b::r,hh,[],is',n,x,hd,_=>by cases hd
 |b::r,hh,i::is,[],n,x,_,hl=>by simp at hl
 |b::r,hh,i::is,i'::is',n,x,hd,hl=>by obtain⟨h1,h3⟩:=fR hd;have ih:=ll r hh is is' (n+16) x.2 h3 (by simpa using hl);simp only[cF,dk];rw[List.filterMap_append,ih,J7 b h1]
theorem tZ{hd:Hp}{hh:Heap}:∀(dV:List CK) (n:Nat) (cs:List AV) (x:ss dV),cW dV hh cs=some x→(∀s∈gF dV cs,hd s=hh.get s)→∀e∈eu dV n cs x,xe Z ψ hd w h' ψ' e
 |[],n,cs,x,_,_,e,he=>by simp[eu]at he
 |.val k::r,n,cs,x,XN,hk,e,he=>by
  obtain⟨_,h2⟩:=qK XN;have e0:gF (.val k::r) cs=gF r (cs.drop k.sz):=by cases cs<;>rfl
  rw[e0]at hk;exact tZ r (n+1) _ x.2 h2 hk e he
 |.own ok::r,n,cs,x,XN,hk,e,he=>by
  obtain⟨c,cs',rfl,h1,h2⟩:=mS XN;simp only[eu,List.headD_cons,List.tail_cons]at he;simp only[gF]at hk;rcases abD.1 he with rfl|he
  ·rcases mT h1 with⟨rfl,h3⟩|⟨id,rfl,h3⟩
   ·exact h3
   ·show hd id=some (.own ok x.1);rw[hk id (List.mem_append_left _ (by simp[qB])),h3]
  ·exact tZ r (n+1) cs' x.2 h2 (fun s hs=>hk s (abL _ hs)) e he
theorem M7{hd:Hp}{hh:Heap}(g:Good Z ψ hh.get w B0 O)(hz:∀b,Z b→Z' b)(b:BK){i i' n:Nat}{x:b.T}(XN:sy b hh i=some x) (hf:∀id g,AV.bN id∈Ck b hh i→hh.get id≠none→ob (ψ id)=some g→Z' g) (hk:∀s∈nS b hh i,hd s=hh.get s) (kg:∀e∈fm b hh i i' n x,h' e.1≠none→ψ' e.1=kC ψ e.2.1) :
  ∀e∈fm b hh i i' n x,xe Z' ψ hd w h' ψ' e:=by
 intro e he
 cases b with
 |box ty c =>
  obtain⟨cs,h1,h2⟩:=tY XN;simp only[Ck,nS,h1]at hf hk;have ad8:∀e∈eu c n cs x,h' e.1≠none→ψ' e.1=kC ψ e.2.1:=fun e he=>kg e (by grind [fm,qM,List.mem_cons_of_mem]);simp only[fm]at he;rcases abD.1 he with rfl|he
  ·refine⟨⟨cs,by simp_all⟩,fun gg vs h4 h5=>?_⟩;obtain⟨gg',iZ,h6,h7,h8,_⟩:=g.box i ty cs h1
   grind [tX]
  grind [qM,tZ,List.mem_cons_of_mem]
 |own ok =>
  have h1:=GA XN;simp only[fm,List.mem_singleton]at he;subst he;show hd i=some (.own ok x)
  grind [nS]
theorem mU{hd:Hp}{hh:Heap}(g:Good Z ψ hh.get w B0 O)(hz:∀b,Z b→Z' b):∀(bs:List BK) (is is':List Nat) (n:Nat) (x:Aq bs),dy bs hh is=some x →(∀id b,AV.bN id∈gO bs hh is→hh.get id≠none→ob (ψ id)=some b→Z' b)→(∀s∈dk bs hh is,hd s=hh.get s)→(∀e∈cF bs hh is is' n x,h' e.1≠none→ψ' e.1=kC ψ e.2.1) → ∀e∈cF bs hh is is' n x,xe Z' ψ hd w h' ψ' e
 |[],is,is',n,x,_,_,_,_,e,he=>by simp[cF]at he
 |b::r,[],is',n,x,XN,_,_,_,e,he=>by cases XN
 |b::r,i::is,[],n,x,_,_,_,_,e,he=>by simp[cF]at he
 |b::r,i::is,i'::is',n,x,XN,hf,hk,kg,e,he=>by
  obtain⟨h1,h3⟩:=fR XN;simp only[gO,dk]at hf hk;simp only[cF]at he kg;rcases ab6.1 he with he|he
  ·exact M7 g hz b h1 (fun id g bM=>hf id g (abM _ bM)) (fun s hs=>hk s (abM _ hs)) (fun e he=>kg e (abM _ he)) e he
  ·exact mU g hz r is is' (n+16) x.2 h3 (fun id b bM=>hf id b (abL _ bM)) (fun s hs=>hk s (abL _ hs)) (fun e he=>kg e (abL _ he)) e he
theorem uc{kept:List Nat}{lV:List AV}(hk:yO kept lV=true):cg kept=true∧∀(hh:Heap) s,s∈kept→(cS hh lV).get s=hh.get s:=by
 unfold yO at hk;rw[Bool.and_eq_true]at hk
 grind [qF,tT,List.all_eq_true]
theorem zd{hh:Heap}{lV:List AV}{kept:List Nat}(g:Good Z ψ hh.get w B0 O)(hk:yO kept lV=true){L:List AD}(hn:cg (L.map (·.1))=true)(hs:L.filterMap (·.2.1)=kept) (kZ:∀e∈L,xe (so Z ψ hh.get lV) ψ (cS hh lV).get w (ep L).get (fC ψ L) e):Good (so Z ψ hh.get lV) (fC ψ L) (ep L).get w B0 O :=(jq g lV).rename hn (by grind [uc]) kZ
theorem BO{L:List AD}(hn:cg (L.map (·.1))=true):∀e∈L,(ep L).get e.1≠none→fC ψ L e.1=kC ψ e.2.1:=fun⟨i,s,o⟩ he _=>jB hn he
theorem n8(A B:List AD):ep (A++B)=ep A++ep B:=by simp[ep]
theorem BP{hh:Heap}{i s i':Nat}{v:Value}(hr:aA Z ψ hh.get w (.ref i s 0 0) v)(hi:hh.get i≠none)(kg:h' i'≠none→ψ' i'=ψ i):aA Z' ψ' h' w' (.ref i' 0 0 0) v:=by simp only[aA]at hr ⊢;obtain⟨a,rfl,ha⟩:=hr;refine⟨a,rfl,fun hn=>?_⟩;rw[kg hn,ha hi];simp
theorem qN{v:AV}{i:Nat}(h:Gk v=some i):∃s,v=.ref i s 0 0:=by
 unfold Gk at h
 grind
theorem jS{hh:Heap}:∀(bs:List BK) (is:List Nat) (x:Aq bs),dy bs hh is=some x→is.length=bs.length∧∀i∈is,hh.get i≠none
 |[],[],_,_=>⟨rfl,fun i hi=>by cases hi⟩
 |[],_::_,_,h=>by cases h
 |_::_,[],_,h=>by cases h
 |b::r,i::is,x,h=>by
  obtain⟨h1,h3⟩:=fR h;obtain⟨h4,h5⟩:=jS r is x.2 h3;refine⟨by simp[h4],fun j hj=>?_⟩;rcases abD.1 hj with rfl|hj
  ·cases b with
   |box ty c=>grind [tY]
   |own ok=>rw[GA h1];simp
  simp_all
theorem ln{hh:Heap}:∀(bs:List BK) (is is':List Nat) (n:Nat) (x:Aq bs),is.length=bs.length→∀p∈is.zip is',∃o,(p.2,some p.1,o)∈cF bs hh is is' n x
 |[],is,is',n,x,hl,p,hp=>by simp_all
 |b::r,[],is',n,x,hl,p,hp=>by simp at hp
 |b::r,i::is,[],n,x,hl,p,hp=>by simp at hp
 |b::r,i::is,i'::is',n,x,hl,p,hp=>by
  simp only[List.zip_cons_cons]at hp;simp only[cF];rcases abD.1 hp with rfl|hp
  ·cases b with
   |box ty c=>grind [List.mem_append_left,fm,List.mem_cons_self]
   |own ok=>grind [List.mem_append_left,fm,List.mem_cons_self]
  ·obtain⟨o,ho⟩:=ln r is is' (n+16) x.2 (by simpa using hl) p hp;exact⟨o,abL _ ho⟩
theorem OT{hd:Hp}{hh:Heap}{ok:OK}{c:AV}{xs:ok.T}(ho:eT hh ok c=some xs)(hk:∀s∈qB c,hd s=hh.get s){n:Nat}:xe Z ψ hd w h' ψ' (n,(qB c).head?,.own ok xs):=by
 rcases mT ho with⟨rfl,h3⟩|⟨id,rfl,h3⟩
 ·exact h3
 ·show hd id=some (.own ok xs)
  grind [id,qB]
end Go.Vs
namespace Go.Vs
variable {P:Program} {Z Z':Nat→Prop} {ψ ψ':Nat→Value} {h h':Hp} {w w':World} {B0:Nat} {O:Nat→Prop} {N:Nat→Prop}
def gV:Hp:=fun _=>none
def MG:Nat→Value:=fun _=>undef
def GB(g:aO)(x:JK (lZ g.ps)):List AV:=(aV g.ps [] 0 x).map (·.2)
def ad9(P:Program)(f:FuncId)(g:aO)(x:g.A)(y:g.B):Prop :=∀(Z:Nat→Prop) (w:World) (lp:List Value),(∀b,Z b→b<w.heap.size)→au Z MG gV w (GB g x.1) lp → Calls P (f%1000) lp.toArray w fun e w'=>∃v Z' ψ',e=.returned v∧(∀b,Z b→Z' b)∧(∀b,Z' b→Z b∨w.heap.size≤b)∧cT MG gV w w' ∧ Good Z' ψ' (aq g.rs 3000 y.1).get w' w.heap.size (fun _=>False)∧aA Z' ψ' (aq g.rs 3000 y.1).get w' (fH (aW g.rs [] 2000 3000 y.1)) v
theorem AE{p:PK}{ps:List PK}{vs:List AV}(hi:cM (p::ps) vs=some []):∃a r,vs=a::r∧cM ps r=some []∧(p≠.ref∧p≠.own)∧(∀f n,p=.wN f n→a=.fn f [])∧(∀n,p=.agg n→a=.agg []):=by
 cases vs with
 |nil=>cases p<;>simp[cM]at hi
 |cons a r =>
  cases p with
  |val k=>exact⟨a,r,rfl,by simpa only[cM] using hi,by simp,by simp,by simp⟩
  |ref =>
   simp only[cM]at hi
   split at hi<;>simp at hi
  |own =>
   cases a<;>simp only[cM]at hi<;>first|(cases hi;done)|skip
   split at hi<;>simp at hi
  |wN f n =>
   cases a<;>simp only[cM]at hi<;>first|(cases hi;done)|skip
   rename_i f' cap
   split at hi
   ·rename_i hc;obtain⟨rfl,vR⟩:=hc
    split at hi
    ·rename_i a1 b1 h1 h2;simp only[Option.some.injEq,List.append_eq_nil_iff]at hi;obtain⟨rfl,rfl⟩:=hi;have Tv:cap=[]:=by
      cases cap with
      |nil=>rfl
      |cons c cs=>simp only[ku]at h1;split at h1<;>simp at h1
     subst Tv;exact⟨_,r,rfl,h2,by simp,by rintro f n ⟨⟩;rfl,by simp⟩
    ·cases hi
   ·cases hi
  |agg n =>
   cases a<;>simp only[cM]at hi<;>first|(cases hi;done)|skip
   rename_i cs
   split at hi
   ·split at hi
    ·rename_i a1 b1 h1 h2;simp only[Option.some.injEq,List.append_eq_nil_iff]at hi;obtain⟨rfl,rfl⟩:=hi;have MX:cs=[]:=by
      cases cs with
      |nil=>rfl
      |cons c cs=>cases c<;>simp only[qC]at h1<;>first|(cases h1;done)|(split at h1<;>simp at h1)
     subst MX;exact⟨_,r,rfl,h2,by simp,by simp,fun _ _=>rfl⟩
    ·cases hi
   ·cases hi
theorem AF{k:K}{ps:List PK}{hh:Heap}{a:AV}{r:List AV}{x:k.T×JK (lZ ps)}(hv:fN (.val k::ps) hh (a::r)=some x):ia k hh a=some x.1∧fN ps hh r=some x.2:=by
 have e:fN (.val k::ps) hh (a::r)=(match ia k hh a,fN ps hh r with
  |some x,some y=>some ((x,y):k.T×JK (lZ ps))
  |_,_=>none):=rfl
 grind
theorem CT{hh:Heap}(g:Good Z ψ hh.get w B0 O)(hz:∀b,Z b→Z' b)(ps:List PK):∀(s:Nat) (vs:List AV) (us:List Value) (x:JK (lZ ps)),(∀v∈vs,∀id b,AV.bN id∈v.cells→hh.get id≠none→ob (ψ id)=some b→Z' b) → cM ps vs=some []→fN ps hh vs=some x→au Z ψ hh.get w vs us→au Z' MG gV w ((aV ps [] s x).map (·.2)) us:=by
 induction ps with
 |nil =>
  intro s vs us x _ hi hv hr
  cases vs with
  |nil=>simpa only[aV,List.map_nil,au] using hr
  |cons a r=>simp[cM]at hi
 |cons p ps ih =>
  intro s vs us x hb hi hv hr;obtain⟨a,r,rfl,yz,Yp,abJ,abK⟩:=AE hi;simp only[au]at hr;obtain⟨u,jn,rfl,h3,h4⟩:=hr
  cases p with
  |val k =>obtain⟨h1,h2⟩:=AF hv;simp only[aV,List.map_cons,au];exact⟨u,jn,rfl,tU (Z':=Z') (ψ':=MG) (h':=gV) g hz (hb a ab4) h1 h3,ih (s+1) r jn x.2 (fun v hv=>hb v (abA _ hv)) yz h2 h4⟩
  |ref=>exact absurd rfl Yp.1
  |own=>exact absurd rfl Yp.2
  |wN f n =>have ha:=abJ f n rfl;subst ha;have h2:fN ps hh r=some x:=hv;simp only[aV,List.map_cons,au,List.take_nil,List.map_nil,List.drop_nil];simp only[aA,au]at h3 ⊢;exact⟨u,jn,rfl,h3,ih (s+1) r jn x (fun v hv=>hb v (abA _ hv)) yz h2 h4⟩
  |agg n =>have ha:=abK n rfl;subst ha;have h2:fN ps hh r=some x:=hv;simp only[aV,List.map_cons,au,List.take_nil,List.map_nil,List.drop_nil];simp only[aA,au]at h3 ⊢;exact⟨u,jn,rfl,h3,ih (s+1) r jn x (fun v hv=>hb v (abA _ hv)) yz h2 h4⟩
theorem Good.aea(g:Good Z ψ h w B0 O)(k:cT MG gV w w')(hz:∀b,Z b→Z' b)(Cu:∀b,Z' b→Z b∨w.heap.size≤b)(ajz:∀b,Z' b→b<w'.heap.size) (hold:∀id,¬N id→h' id=h id∧ψ' id=ψ id) (bm:∀id ty cs,h id=some (.box ty cs)→aC (fun i=>¬N i) cs) (abx:∀id ty cs,N id→h' id=some (.box ty cs)→False) (pw:∀id ok xs,N id→h' id=some (.own ok xs)→jP Z' w' ok (ψ' id) xs) (Gn:∀id b,N id→h' id≠none→ob (ψ' id)=some b→w.heap.size≤b∧¬Z' b) (aby:∀id pe b,N id→N pe→h' id≠none→h' pe≠none→ob (ψ' id)=some b→ob (ψ' pe)=some b→id=pe) (hB:B0≤w.heap.size) :
  Next Z ψ h w B0 O N Z' ψ' h' w':=by
 have cI:∀b,b<w.heap.size→w'.heap[b]? = w.heap[b]? := fun b hb=>k.block b hb (fun⟨id,h1,_⟩=>h1 rfl);have sm:cv Z w w':=fun b hb=>cI b (g.kz b hb);have yR:∀id,h' id≠none→(h id≠none∧ψ' id=ψ id)∨N id:=fun id bM=>by
  grind
 have Gp:∀id b,¬N id→h' id≠none→ob (ψ' id)=some b→Own ψ h b:=fun id b hn h1 h2=>by obtain⟨e1,e2⟩:=hold id hn;exact⟨id,by rwa [e1]at h1,by rwa [e2]at h2⟩
 have kk:cT ψ h w w':=⟨k.os,k.tape,k.output,k.size,fun b hb _=>cI b hb⟩;refine⟨hz,fun b hb=>(Cu b hb).imp (fun h=>h) .inr,kk,yR,⟨fun id ty cs hb=>?_,fun id ok xs hb=>?_,fun id b h1 h2=>?_,fun id pe b h1 h2 h3 h4=>?_,ajz⟩⟩
 ·by_cases hn:N id
  ·simp_all
  ·obtain⟨e1,e2⟩:=hold id hn;rw[e1]at hb;obtain⟨gg,vs,h1,h2,h3,h4⟩:=g.box id ty cs hb;exact⟨gg,vs,by rw[e2,h1],(cI gg (abR.1 h2).1).trans h2,h3.move hz sm (fun i hp bM=>(yR i bM).resolve_right hp) (bm id ty cs hb),h4⟩
 ·by_cases hn:N id
  ·simp_all
  ·obtain⟨e1,e2⟩:=hold id hn;rw[e1]at hb;rw[e2];exact(g.row id ok xs hb).kept hz sm (fun gg QC=>cI gg (g.bQ ⟨id,by rw[hb];simp,QC⟩))
 ·by_cases hn:N id
  ·grind
  ·obtain⟨e1,e2⟩:=hold id hn;rw[e1]at h1;rw[e2]at h2;have h3:=g.live id b h1 h2;refine⟨fun hzb=>?_,h3.2⟩;rcases Cu b hzb with h4|h4
   ·exact h3.1 h4
   ·have:=g.bQ ⟨id,h1,h2⟩;omega
 ·by_cases hn:N id<;>by_cases QD:N pe
  ·grind
  ·have:=(Gn id b hn h1 h3).1;have:=g.bQ (Gp pe b QD h2 h4);omega
  ·have:=(Gn pe b QD h2 h4).1;have:=g.bQ (Gp id b hn h1 h3);omega
  ·obtain⟨e1,e2⟩:=hold id hn;obtain⟨e3,e4⟩:=hold pe QD;rw[e1]at h1;rw[e2]at h3;rw[e3]at h2;rw[e4]at h4;exact g.apart id pe b h1 h2 h3 h4
theorem bK{r:RK}{rs:List RK}(h:(r::rs).all RK.plain=true):rs.all RK.plain=true:=by simp_all
theorem QU{c:List CK}{rs:List RK}(h:(RK.agg c::rs).all RK.plain=true):c.length≤16:=by simp_all [List.all_cons,Bool.and_eq_true,RK.plain,decide_eq_true_eq]
theorem qO:∀(c:List CK) (a:Nat) (x:ss c) (i:Nat),i<a→(aZ c a x).get i=none
 |[],_,_,_,_=>rfl
 |.val _::r,a,x,i,h=>by simp only[aZ];exact qO r (a+1) x.2 i (by omega)
 |.own ok::r,a,x,i,h=>by simp only[aZ,Heap.get];rw[if_neg (by omega)];exact qO r (a+1) x.2 i (by omega)
theorem v7:∀(c:List CK) (a:Nat) (x:ss c) (i:Nat),a+c.length≤i→(aZ c a x).get i=none
 |[],_,_,_,_=>rfl
 |.val _::r,a,x,i,h=>by simp only[List.length_cons]at h;simp only[aZ];exact v7 r (a+1) x.2 i (by omega)
 |.own ok::r,a,x,i,h=>by simp only[List.length_cons]at h;simp only[aZ,Heap.get];rw[if_neg (by omega)];exact v7 r (a+1) x.2 i (by omega)
theorem wa:∀(c:List CK) (a b:Nat) (x:ss c) (j:Nat),(aZ c a x).get (a+j)=(aZ c b x).get (b+j)
 |[],_,_,_,_=>rfl
 |.val _::r,a,b,x,0=>by grind [aZ,qO]
 |.own ok::r,a,b,x,0=>by simp[aZ,Heap.get]
 |.val _::r,a,b,x,j+1=>by simp only[aZ];rw[show a+(j+1)=a+1+j by omega,show b+(j+1)=b+1+j by omega];exact wa r (a+1) (b+1) x.2 j
 |.own ok::r,a,b,x,j+1=>by simp only[aZ,Heap.get];rw[if_neg (by omega),if_neg (by omega),show a+(j+1)=a+1+j by omega,show b+(j+1)=b+1+j by omega];exact wa r (a+1) (b+1) x.2 j
theorem oM:∀(c:List CK) (a:Nat) (x:ss c) (i:Nat) (ty:TypeId) (cs:List AV),(aZ c a x).get i≠some (.box ty cs)
 |[],_,_,_,_,_=>by simp[aZ,Heap.get]
 |.val _::r,a,x,i,ty,cs=>by simp only[aZ];exact oM r (a+1) x.2 i ty cs
 |.own ok::r,a,x,i,ty,cs=>by
  simp only[aZ,Heap.get]
  split
  ·simp
  ·exact oM r (a+1) x.2 i ty cs
theorem sR:∀(rs:List RK) (a:Nat) (y:mJ rs) (i:Nat),rs.all RK.plain=true→i<a→(aq rs a y).get i=none
 |[],a,y,i,_,h=>rfl
 |.val k::r,a,y,i,hp,h=>by simp only[aq];exact sR r (a+1) y.2 i (bK hp) (by omega)
 |.own ok::r,a,y,i,hp,h=>by simp only[aq,Heap.get];rw[if_neg (by omega)];exact sR r (a+1) y.2 i (bK hp) (by omega)
 |.fz _ _::r,a,y,i,hp,h=>by simp only[aq];exact sR r (a+1) y.2 i (bK hp) (by omega)
 |.agg c::r,a,y,i,hp,h=>by have h1:(aZ c a y.1).get i=none:=qO c a y.1 i h;have h2:=sR r (a+1) y.2 i (bK hp) (by omega);show Heap.get (aZ c a y.1++aq r (a+1) y.2) i=none;rw[Heap.get_append,h1,h2]
theorem J8:∀(rs:List RK) (a:Nat) (y:mJ rs) (i:Nat),rs.all RK.plain=true→a+rs.length+16≤i→(aq rs a y).get i=none
 |[],a,y,i,_,h=>rfl
 |.val k::r,a,y,i,hp,h=>by simp only[List.length_cons]at h;simp only[aq];exact J8 r (a+1) y.2 i (bK hp) (by omega)
 |.own ok::r,a,y,i,hp,h=>by simp only[List.length_cons]at h;simp only[aq,Heap.get];rw[if_neg (by omega)];exact J8 r (a+1) y.2 i (bK hp) (by omega)
 |.fz _ _::r,a,y,i,hp,h=>by simp only[List.length_cons]at h;simp only[aq];exact J8 r (a+1) y.2 i (bK hp) (by omega)
 |.agg c::r,a,y,i,hp,h=>by simp only[List.length_cons]at h;have hc:=QU hp;have h1:(aZ c a y.1).get i=none:=v7 c a y.1 i (by omega);have h2:=J8 r (a+1) y.2 i (bK hp) (by omega);show Heap.get (aZ c a y.1++aq r (a+1) y.2) i=none;rw[Heap.get_append,h1,h2]
theorem J9:∀(rs:List RK) (a b:Nat) (y:mJ rs) (j:Nat),rs.all RK.plain=true→(aq rs a y).get (a+j)=(aq rs b y).get (b+j)
 |[],_,_,_,_,_=>rfl
 |.val k::r,a,b,y,0,hp=>by simp only[aq];rw[sR _ _ _ _ (bK hp) (by omega),sR _ _ _ _ (bK hp) (by omega)]
 |.fz _ _::r,a,b,y,0,hp=>by simp only[aq];rw[sR _ _ _ _ (bK hp) (by omega),sR _ _ _ _ (bK hp) (by omega)]
 |.own ok::r,a,b,y,0,hp=>by simp[aq,Heap.get]
 |.val k::r,a,b,y,j+1,hp=>by simp only[aq];rw[show a+(j+1)=a+1+j by omega,show b+(j+1)=b+1+j by omega];exact J9 r (a+1) (b+1) y.2 j (bK hp)
 |.fz _ _::r,a,b,y,j+1,hp=>by simp only[aq];rw[show a+(j+1)=a+1+j by omega,show b+(j+1)=b+1+j by omega];exact J9 r (a+1) (b+1) y.2 j (bK hp)
 |.own ok::r,a,b,y,j+1,hp=>by simp only[aq,Heap.get];rw[if_neg (by omega),if_neg (by omega),show a+(j+1)=a+1+j by omega,show b+(j+1)=b+1+j by omega];exact J9 r (a+1) (b+1) y.2 j (bK hp)
 |.agg c::r,a,b,y,j,hp=>by
  have h1:(aZ c a y.1).get (a+j)=(aZ c b y.1).get (b+j):=wa c a b y.1 j;have h2:(aq r (a+1) y.2).get (a+j)=(aq r (b+1) y.2).get (b+j):=by
   cases j with
   |zero=>rw[sR _ _ _ _ (bK hp) (by omega),sR _ _ _ _ (bK hp) (by omega)]
   |succ j =>rw[show a+(j+1)=a+1+j by omega,show b+(j+1)=b+1+j by omega];exact J9 r (a+1) (b+1) y.2 j (bK hp)
  show Heap.get (aZ c a y.1++aq r (a+1) y.2) (a+j)=Heap.get (aZ c b y.1++aq r (b+1) y.2) (b+j);rw[Heap.get_append,Heap.get_append,h1,h2]
theorem uf:∀(rs:List RK) (a:Nat) (y:mJ rs) (i:Nat) (ty:TypeId) (cs:List AV),rs.all RK.plain=true→(aq rs a y).get i≠some (.box ty cs)
 |[],_,_,_,_,_,_=>by simp[aq,Heap.get]
 |.val k::r,a,y,i,ty,cs,hp=>by simp only[aq];exact uf r (a+1) y.2 i ty cs (bK hp)
 |.fz _ _::r,a,y,i,ty,cs,hp=>by simp only[aq];exact uf r (a+1) y.2 i ty cs (bK hp)
 |.own ok::r,a,y,i,ty,cs,hp=>by
  simp only[aq,Heap.get]
  split
  ·simp
  ·exact uf r (a+1) y.2 i ty cs (bK hp)
 |.agg c::r,a,y,i,ty,cs,hp=>by
  have h1:(aZ c a y.1).get i≠some (.box ty cs):=oM c a y.1 i ty cs;show Heap.get (aZ c a y.1++aq r (a+1) y.2) i≠some (.box ty cs);rw[Heap.get_append]
  split
  ·rename_i o ho;rw[ho]at h1;exact h1
  ·exact uf r (a+1) y.2 i ty cs (bK hp)
theorem mV(p:Nat→Prop):∀(k:K) (x:k.T),aC p (enc k x)
 |.int _,_=>by simp only[enc,aC,aL];exact⟨trivial,trivial⟩
 |.bool,_=>by simp only[enc,aC,aL];exact⟨trivial,trivial⟩
 |.str,_=>by simp only[enc,aC,aL];exact⟨trivial,trivial⟩
 |.sl _,_=>by simp only[enc,aC,aL];exact⟨trivial,trivial⟩
 |.mp _ _,_=>by simp only[enc,aC,aL];exact⟨trivial,trivial⟩
 |.fn _,_=>by simp only[enc,aC,aL];exact⟨trivial,trivial⟩
 |.pair a b,x=>by
  simp only[enc];have h1:=mV p a x.1;have h2:=mV p b x.2
  revert h1
  generalize enc a x.1=l
  induction l with
  |nil=>intro _;exact h2
  |cons c r ih=>intro h;simp only[List.cons_append,aC]at h ⊢;exact⟨h.1,ih h.2⟩
 |.one k,x=>by simp only[enc];exact mV p k x
theorem pI(p:Nat→Prop):∀(k:K) (x:k.T),aL p (b6 k x)
 |.int _,_=>by simp only[b6,aL]
 |.bool,_=>by simp only[b6,aL]
 |.str,_=>by simp only[b6,aL]
 |.sl _,_=>by simp only[b6,aL]
 |.mp _ _,_=>by simp only[b6,aL]
 |.fn _,_=>by simp only[b6,aL,aC]
 |.pair a b,x=>by simp only[b6,aL];exact mV p (.pair a b) x
 |.one k,x=>by simp only[b6,aL];exact mV p (.one k) x
theorem TL{k:K}{x:k.T}{v:Value}(hr:aA Z ψ h w (b6 k x) v):aA Z ψ' h' w (b6 k x) v :=hr.move (p:=fun _=>False) (fun _ h=>h) (cv.refl _ _) (fun _ hp _=>hp.elim) (pI _ k x)
theorem Yq(r:RK)(rs:List RK)(b:Nat)(y:mJ (r::rs))(i:Nat)(hi:(aq rs (b+1) y.2).get i≠none):(aq (r::rs) b y).get i≠none:=by
 cases r with
 |val k=>exact hi
 |fz _ _=>exact hi
 |own ok=>grind [aq,Heap.get]
 |agg c =>
  grind [Heap.get,aZ,aq,Heap.get_append]
theorem M8(c:List CK):∀{H:Hp} {a b:Nat} {x:ss c} {vs:List Value},(∀j,(aZ c b x).get (b+j)≠none→h' (b+j)≠none→H (a+j)≠none∧ψ' (b+j)=ψ (a+j)) → au Z ψ H w (aG c a x) vs→au Z ψ' h' w (aG c b x) vs:=by
 induction c with
 |nil=>grind [aG,au]
 |cons k c ih =>
  intro H a b x vs hH hr
  cases k with
  |val k =>have tQ:au Z ψ H w (enc k x.1++aG c (a+1) x.2) vs:=hr;obtain⟨us,ws,rfl,h1,h2⟩:=tQ.split;show au Z ψ' h' w (enc k x.1++aG c (b+1) x.2) (us++ws);refine(h1.move (p:=fun _=>False) (fun _ h=>h) (cv.refl _ _) (fun _ hp _=>hp.elim) (mV _ k x.1)).append (ih (fun j hj bB=>?_) h2);have:=hH (j+1);rw[show b+(j+1)=b+1+j by omega,show a+(j+1)=a+1+j by omega]at this;exact this hj bB
  |own ok =>
   have tQ:au Z ψ H w (.bN a::aG c (a+1) x.2) vs:=hr;simp only[au]at tQ;obtain⟨v,us,rfl,h1,h2⟩:=tQ;show au Z ψ' h' w (.bN b::aG c (b+1) x.2) (v::us);simp only[au];refine⟨v,us,rfl,?_,ih (fun j hj bB=>?_) h2⟩
   ·simp only[aA]at h1 ⊢;refine⟨h1.1,fun bB=>?_⟩;obtain⟨h3,h4⟩:=hH 0 (by simp[aZ,Heap.get]) bB;simp_all
   ·have:=hH (j+1);rw[show b+(j+1)=b+1+j by omega,show a+(j+1)=a+1+j by omega]at this;refine this ?_ bB;have e:(aZ (.own ok::c) b x).get (b+1+j)=(aZ c (b+1) x.2).get (b+1+j):=by simp only[aZ,Heap.get];grind
    simp_all
theorem TM(rs:List RK):∀{H:Hp} {n m a b:Nat} {y:mJ rs} {vs:List Value},rs.all RK.plain=true→(∀j,(aq rs b y).get (b+j)≠none→h' (b+j)≠none→H (a+j)≠none∧ψ' (b+j)=ψ (a+j)) → au Z ψ H w (aW rs [] n a y) vs→au Z ψ' h' w (aW rs [] m b y) vs:=by
 induction rs with
 |nil=>grind [aW,au]
 |cons r rs ih =>
  intro H n m a b y vs hp hH hr;have hpa:=hp;simp only[List.all_cons,Bool.and_eq_true]at hp;have hH':∀j,(aq rs (b+1) y.2).get (b+1+j)≠none→h' (b+1+j)≠none→H (a+1+j)≠none∧ψ' (b+1+j)=ψ (a+1+j):=fun j hj bB=>by
   have:=hH (j+1)
   grind [Yq]
  cases r with
  |val k =>simp only[aW,au]at hr ⊢;obtain⟨v,us,rfl,h1,h2⟩:=hr;exact⟨v,us,rfl,TL h1,ih hp.2 hH' h2⟩
  |own ok =>simp only[aW,au]at hr ⊢;obtain⟨v,us,rfl,h1,h2⟩:=hr;refine⟨v,us,rfl,?_,ih hp.2 hH' h2⟩;simp only[aA]at h1 ⊢;refine⟨h1.1,fun bB=>?_⟩;obtain⟨h3,h4⟩:=hH 0 (by simp[aq,Heap.get]) bB;simp_all
  |fz b c=>simp[RK.plain]at hp
  |agg c =>
   simp only[aW,au]at hr ⊢;obtain⟨v,us,rfl,h1,h2⟩:=hr;refine⟨v,us,rfl,?_,ih hp.2 hH' h2⟩;simp only[aA]at h1 ⊢;obtain⟨ws,rfl,h3⟩:=h1;refine⟨ws,rfl,M8 c (fun j hj bB=>hH j ?_ bB) h3⟩
   grind [Heap.get,aZ,aq,Heap.get_append,absurd]
theorem wb{aad aae:Nat→Value}{aeb aec:Hp}{aed aee:Nat→Prop}{l l':List AV}{V:Value}(hl:l.length=l'.length)(hm:∀vs,au aed aad aeb w l vs→au aee aae aec w l' vs)(hr:aA aed aad aeb w (fH l) V):aA aee aae aec w (fH l') V:=by
 match l,l',hl with
 |[a],[a'],_ =>
  simp only[fH]at hr ⊢;have:=hm [V] (by simp only[au];exact⟨V,[],rfl,hr,rfl⟩);simp only[au]at this;obtain⟨v,us,e,h1,_⟩:=this
  cases e;exact h1
 |[],[],_ =>simp only[fH,aA]at hr ⊢;obtain⟨us,rfl,h1⟩:=hr;exact⟨us,rfl,hm _ h1⟩
 |a::b::r,a'::b'::r',_ =>simp only[fH,aA]at hr ⊢;obtain⟨us,rfl,h1⟩:=hr;exact⟨us,rfl,hm _ h1⟩
theorem oO(rs:List RK):∀(ids:List Nat) (n m:Nat) (y:mJ rs),(aW rs ids n m y).length=rs.length:=by
 induction rs with
 |nil=>intros;rfl
 |cons r rs ih=>intro ids n m y;cases r<;>simp[aW,ih]
theorem BQ:∀(k:K) (x:k.T) (r:List AV),dec k (enc k x++r)=some (x,r)
 |.int _,x,r=>by simp only[enc,List.cons_append,List.nil_append,dec,HS,if_true];rfl
 |.bool,x,r=>by simp only[enc,List.cons_append,List.nil_append,dec,BD];rfl
 |.str,x,r=>by simp only[enc,List.cons_append,List.nil_append,dec,HT];rfl
 |.sl k,x,r=>by simp only[enc,List.cons_append,List.nil_append,dec,OE];rfl
 |.mp kk vk,x,r=>by simp only[enc,List.cons_append,List.nil_append,dec,OF];rfl
 |.fn _,x,r=>by simp only[enc,List.cons_append,List.nil_append,dec,OH,if_true];rfl
 |.pair a b,x,r=>by simp only[enc,dec,List.append_assoc];rw[BQ a x.1 (enc b x.2++r)];simp only[];rw[BQ b x.2 r];rfl
 |.one k,x,r=>by simp only[enc,dec];exact BQ k x r
theorem wc(k:K)(x:k.T):dz k (enc k x)=some x:=by unfold dz;have:=BQ k x [];simp_all
theorem we:∀(k:K) (x:k.T),(b6 k x).cells=enc k x
 |.int _,_=>rfl
 |.bool,_=>rfl
 |.str,_=>rfl
 |.sl _,_=>rfl
 |.mp _ _,_=>rfl
 |.fn _,_=>rfl
 |.pair a b,x=>rfl
 |.one k,x=>rfl
theorem OU:∀(k:K) (x:k.T),b6 k x≠.no
 |.int _,_=>by simp[b6]
 |.bool,_=>by simp[b6]
 |.str,_=>by simp[b6]
 |.sl _,_=>by simp[b6]
 |.mp _ _,_=>by simp[b6]
 |.fn _,_=>by simp[b6]
 |.pair a b,x=>by simp[b6]
 |.one k,x=>by simp[b6]
theorem CU:∀(k:K) (x:k.T),(b6 k x).isAgg=k.isAgg
 |.int _,_=>rfl
 |.bool,_=>rfl
 |.str,_=>rfl
 |.sl _,_=>rfl
 |.mp _ _,_=>rfl
 |.fn _,_=>rfl
 |.pair a b,x=>rfl
 |.one k,x=>rfl
theorem QV{k:K}{x:k.T}{v:Value}(hr:aA Z ψ h w (b6 k x) v):aJ Z w k x v.cells.toList:=by
 have h1:=hr.cells (OU k x)
 grind [we,dA,wc]
theorem M9{k:K}{x:k.T}{v:Value}(hr:aA Z ψ h w (b6 k x) v):(k.isAgg=true→∃vs,v=.agg vs)∧(k.isAgg=false→v.cells=#[v]) :=⟨fun h=>TD (by rw[CU];exact h) hr,fun h=>Gu (by rw[CU];exact h) (OU k x) hr⟩
theorem TN(rs:List RK):∀{H:Hp} {n a:Nat} {y:mJ rs} {vs:List Value},rs.all RK.flat=true→rs.all RK.plain=true→au Z ψ H w (aW rs [] n a y) vs→au Z' ψ H w (aW rs [] n a y) vs:=by
 induction rs with
 |nil=>intro H n a y vs _ _ hr;simpa only[aW,au] using hr
 |cons r rs ih =>
  intro H n a y vs hf hp hr;simp only[List.all_cons,Bool.and_eq_true]at hp hf
  cases r with
  |val k =>simp only[aW,au]at hr ⊢;obtain⟨v,us,rfl,h1,h2⟩:=hr;have hk:k.flat=true:=hf.1;obtain⟨h3,h4⟩:=M9 h1;exact⟨v,us,rfl,mP ((QV h1).flat hk) h3 h4,ih hf.2 hp.2 h2⟩
  |own ok =>simp only[aW,au]at hr ⊢;obtain⟨v,us,rfl,h1,h2⟩:=hr;exact⟨v,us,rfl,by simpa only[aA] using h1,ih hf.2 hp.2 h2⟩
  |fz b c=>simp[RK.plain]at hp
  |agg c=>simp[RK.flat]at hf
theorem ze:∀(rs:List RK) (a:Nat) (y:mJ rs) (i:Nat) (ok:OK) (x:ok.T),rs.all RK.flat=true→rs.all RK.plain=true→(aq rs a y).get i=some (.own ok x)→∃ty k,k.flat=true∧ok=.row ty k
 |[],_,_,_,_,_,_,_,hg=>by simp[aq,Heap.get]at hg
 |.val k::r,a,y,i,ok,x,hf,hp,hg=>by simp only[List.all_cons,Bool.and_eq_true]at hp hf;exact ze r _ _ _ _ x hf.2 hp.2 hg
 |.own X9::r,a,y,i,ok,x,hf,hp,hg=>by
  simp only[List.all_cons,Bool.and_eq_true]at hp hf;simp only[aq,Heap.get]at hg
  split at hg
  ·cases hg
   cases X9 with
   |row ty k=>exact⟨ty,k,hf.1,rfl⟩
   |_=>simp[RK.flat]at hf
  ·exact ze r _ _ _ _ x hf.2 hp.2 hg
 |.fz _ _::r,a,y,i,ok,x,hf,hp,hg=>by simp[RK.plain]at hp
 |.agg c::r,a,y,i,ok,x,hf,hp,hg=>by simp[RK.flat]at hf
theorem xf:∀(ps:List PK) (vs:List AV),cM ps vs=some []→∀v∈vs,∀id,AV.bN id∈v.cells→AV.bN id∈dD ps vs
 |[],vs,hi,v,hv,id,bM=>by
  cases vs with
  |nil=>cases hv
  |cons a r=>simp[cM]at hi
 |p::ps,vs,hi,v,hv,id,bM=>by
  obtain⟨a,r,rfl,yz,Yp,abJ,abK⟩:=AE hi;rcases abD.1 hv with rfl|hv
  ·cases p with
   |val k=>simp only[dD];exact abM _ bM
   |ref=>exact absurd rfl Yp.1
   |own=>exact absurd rfl Yp.2
   |wN f n=>rw[abJ f n rfl]at bM;simp[AV.cells]at bM
   |agg n=>rw[abK n rfl]at bM;simp[AV.cells]at bM
  ·have:=xf ps r yz v hv id bM
   cases p with
   |val k=>simp only[dD];exact abL _ this
   |ref=>exact absurd rfl Yp.1
   |own=>exact absurd rfl Yp.2
   |wN f n=>simpa only[dD] using this
   |agg n=>simpa only[dD] using this
theorem CV(hh:Heap)(vs:List AV):∀f:FuncId,mL hh f vs%1000=f%1000:=by
 induction vs with
 |nil=>intro f;rfl
 |cons v r ih =>
  intro f
  cases v with
  |fn g cap=>simp only[mL];split<;>exact Nat.add_mul_mod_self_left f 1000 _
  |ref i _ _ _ =>
   simp only[mL]
   split
   ·exact(ih _).trans (Nat.add_mul_mod_self_left f 1000 _)
   ·exact ih f
  |_=>simp only[mL];exact ih f
theorem zg{Sg:FuncId→Option aO}(hh:Heap)(f:FuncId)(vs:List AV):keyOf Sg hh f vs%1000=f%1000:=by
 unfold keyOf
 split
 ·exact(Nat.add_mul_mod_self_right (mL hh f vs) 500 1000).trans (CV hh vs f)
 ·exact CV hh vs f
theorem Next.imp{N':Nat→Prop}(n:Next Z ψ h w B0 O N Z' ψ' h' w')(hi:∀i,N i→N' i):Next Z ψ h w B0 O N' Z' ψ' h' w' :=⟨n.gG,n.fj,n.keep,fun id bM=>(n.ids id bM).imp (fun h=>h) (hi id),n.dE⟩
theorem zh{rs:List RK}{y:mJ rs}(hp:rs.all RK.plain=true){id nb:Nat}(g:Good Z ψ h w B0 O)(hB:B0≤w.heap.size) (bm:∀i ty cs,h i=some (.box ty cs)→aC (fun i=>¬N i) cs) (hN:∀j,j<rs.length+16→N (id+j)) (k:cT MG gV w w') (hz:∀b,Z b→Z' b) (Cu:∀b,Z' b→Z b∨w.heap.size≤b) (gc:Good Z' ψ' (aq rs 3000 y).get w' w.heap.size (fun _=>False)) {v:Value} (hr:aA Z' ψ' (aq rs 3000 y).get w' (fH (aW rs [] 2000 3000 y)) v) :
  ∃xg,Next Z ψ h w B0 O N Z' xg (fun i=>match (aq rs id y).get i with|some o=>some o|none=>h i) w' ∧
   aA Z' xg (fun i=>match (aq rs id y).get i with|some o=>some o|none=>h i) w' (fH (aW rs [] nb id y)) v:=by
 classical
 let H:Hp:=fun i=>match (aq rs id y).get i with|some o=>some o|none=>h i
 let NN:Nat→Prop:=fun i=>(aq rs id y).get i≠none
 let xg:Nat→Value:=fun i=>if NN i then ψ' (3000+(i-id)) else ψ i
 have hNN:∀i,NN i→∃j,j<rs.length+16∧i=id+j:=fun i hi=>by have h1:¬i<id:=fun aN=>hi (sR rs id y i hp aN);have h2:¬id+rs.length+16≤i:=fun XM=>hi (J8 rs id y i hp XM);exact⟨i-id,by omega,by omega⟩
 have Bq:∀i,NN i→(aq rs 3000 y).get (3000+(i-id))=(aq rs id y).get i:=fun i hi=>by
  obtain⟨j,_,rfl⟩:=hNN i hi
  grind [id,J9]
 have hH:∀i,NN i→H i=(aq rs 3000 y).get (3000+(i-id)):=fun i hi=>by
  grind
 have kg:∀i,NN i→xg i=ψ' (3000+(i-id)):=fun i hi=>if_pos hi;have aef:∀i,NN i→N i:=fun i hi=>by grind
 have n:=Good.aea (N:=NN) (ψ':=xg) (h':=H) g k hz Cu gc.kz (fun i hi=>by
   grind)
  (fun i ty cs hb=>(bm i ty cs hb).imp (fun i hi hni=>hi (aef i hni)))
  (fun i ty cs hi hb=>by grind [uf])
  (fun i ok xs hi hb=>by rw[hH i hi]at hb;rw[kg i hi];exact gc.row _ _ _ hb)
  (fun i b hi h1 h2=>by rw[hH i hi]at h1;rw[kg i hi]at h2;obtain⟨h3,h4⟩:=gc.live _ b h1 h2;simp_all)
  (fun i i' b hi yz h1 h2 h3 h4=>by
   rw[hH i hi]at h1;rw[hH i' yz]at h2;rw[kg i hi]at h3;rw[kg i' yz]at h4;have:=gc.apart _ _ b h1 h2 h3 h4
   grind) hB
 refine⟨xg,n.imp aef,?_⟩
 grind [wb,oO,TM,id]
def jT(P:Program)(f:FuncId):Prop:=∃fn,P.funcs[f]? = some fn∧(fn.name== "runtime.NumGoroutine")=false∧fn.body.isSome=true
theorem mj{f:FuncId}(hc:jT P f)(args:Array Value):(callFunc f args).run P w=.ok (.enter f args) w:=by obtain⟨fn,h1,h2,h3⟩:=hc;obtain⟨c,hc⟩:=acu.1 h3;simp_all [callFunc]
def aaf(P:Program)(ρC:Operand→Value)(o:Oper)(Z:Nat→Prop)(ψ:Nat→Value)(h:Hp)(w:World)(B0:Nat)(O N:Nat→Prop)(e:bF):Prop :=∃f args,(execOp ρC o).run P w=.ok (.enter f args) w∧Calls P f args w fun en w'=>∃V Z' ψ',en=.returned V∧Next Z ψ h w B0 O N Z' ψ' (e.hp h) w'∧aA Z' ψ' (e.hp h) w' e.v V
def cK:(rs:List RK)→List AV→Nat→mJ rs→List AD
 |[],_,_,_=>[]
 |.own ok::r,vs,m,x=>(m,(qB (vs.headD .no)).head?,.own ok x.1)::cK r vs.tail (m+1) x.2
 |.val _::r,vs,m,x=>cK r vs.tail (m+1) x.2
 |.fz _ _::r,vs,m,x=>cK r vs.tail (m+1) x.2
 |.agg c::r,vs,m,x=>eu c m (vs.headD .no).cells x.1++cK r vs.tail (m+1) x.2
theorem g8:∀(rs:List RK) (vs:List AV) (m:Nat) (x:mJ rs),ep (cK rs vs m x)=aq rs m x
 |[],_,_,_=>rfl
 |.own ok::r,vs,m,x=>by simp only[cK,aq];rw[←g8 r vs.tail (m+1) x.2];rfl
 |.val _::r,vs,m,x=>g8 r vs.tail (m+1) x.2
 |.fz _ _::r,vs,m,x=>g8 r vs.tail (m+1) x.2
 |.agg c::r,vs,m,x=>by have e1:ep (eu c m (vs.headD .no).cells x.1)=aZ c m x.1:=n6 c m _ x.1;have e2:=g8 r vs.tail (m+1) x.2;simp only[cK,aq];rw[n8,e2];exact congrArg (·++_) e1
theorem gr:∀(rs:List RK) (vs:List AV) (m:Nat) (x:mJ rs),(cK rs vs m x).map (·.1)=bE rs m
 |[],_,_,_=>rfl
 |.own ok::r,vs,m,x=>by simp only[cK,bE,List.map_cons];rw[gr r vs.tail (m+1) x.2]
 |.val _::r,vs,m,x=>gr r vs.tail (m+1) x.2
 |.fz _ _::r,vs,m,x=>gr r vs.tail (m+1) x.2
 |.agg c::r,vs,m,x=>by have e1:(eu c m (vs.headD .no).cells x.1).map (·.1)=cx c m:=mi c m _ x.1;have e2:=gr r vs.tail (m+1) x.2;simp only[cK,bE,List.map_append];rw[e2];exact congrArg (·++_) e1
theorem qP{bs:List BK}{k:K}{r:List RK}{hh:Heap}{ids:List Nat}{vs:List AV}{x:mJ (.val k::r)}(hd:bO bs (.val k::r) hh ids vs=some x):∃v iZ,vs=v::iZ∧ia k hh v=some x.1∧bO bs r hh ids iZ=some x.2:=by
 cases vs with
 |nil=>cases hd
 |cons v vs =>
  have e:bO bs (.val k::r) hh ids (v::vs)=(match ia k hh v,bO bs r hh ids vs with
   |some x,some y=>some ((x,y):k.T×mJ r)
   |_,_=>none):=rfl
  rw[e]at hd;clear e;refine⟨v,vs,rfl,?_⟩;generalize ia k hh v=o1 at hd ⊢;generalize bO bs r hh ids vs=o2 at hd ⊢
  cases o1 with
  |none=>cases hd
  |some x1 =>
   cases o2 with
   |none=>cases hd
   |some y1=>have:=acP hd;subst this;exact⟨rfl,rfl⟩
theorem qQ{bs:List BK}{ok:OK}{r:List RK}{hh:Heap}{ids:List Nat}{vs:List AV}{x:mJ (.own ok::r)}(hd:bO bs (.own ok::r) hh ids vs=some x):∃v iZ,vs=v::iZ∧eT hh ok v=some x.1∧bO bs r hh ids iZ=some x.2:=by
 cases vs with
 |nil=>cases hd
 |cons v vs =>
  have e:bO bs (.own ok::r) hh ids (v::vs)=(match eT hh ok v,bO bs r hh ids vs with
   |some x,some y=>some ((x,y):ok.T×mJ r)
   |_,_=>none):=rfl
  rw[e]at hd;clear e;refine⟨v,vs,rfl,?_⟩;generalize eT hh ok v=o1 at hd ⊢;generalize bO bs r hh ids vs=o2 at hd ⊢
  cases o1 with
  |none=>cases hd
  |some x1 =>
   cases o2 with
   |none=>cases hd
   |some y1=>have:=acP hd;subst this;exact⟨rfl,rfl⟩
theorem oa{bs:List BK}{b:Nat}{alts:List (Nat×Nat×Nat)}{r:List RK}{hh:Heap}{ids:List Nat}{vs:List AV}{x:mJ (.fz b alts::r)}(hd:bO bs (.fz b alts::r) hh ids vs=some x):∃v iZ,vs=v::iZ∧oH bs hh ids b alts v=some x.1∧bO bs r hh ids iZ=some x.2:=by
 cases vs with
 |nil=>cases hd
 |cons v vs =>
  have e:bO bs (.fz b alts::r) hh ids (v::vs)=(match oH bs hh ids b alts v,bO bs r hh ids vs with
   |some x,some y=>some ((x,y):Option (Fin alts.length×Nat)×mJ r)
   |_,_=>none):=rfl
  rw[e]at hd;clear e;refine⟨v,vs,rfl,?_⟩;generalize oH bs hh ids b alts v=o1 at hd ⊢;generalize bO bs r hh ids vs=o2 at hd ⊢
  cases o1 with
  |none=>cases hd
  |some x1 =>
   cases o2 with
   |none=>cases hd
   |some y1=>have:=acP hd;subst this;exact⟨rfl,rfl⟩
theorem qR{bs:List BK}{c:List CK}{r:List RK}{hh:Heap}{ids:List Nat}{vs:List AV}{x:mJ (.agg c::r)}(hd:bO bs (.agg c::r) hh ids vs=some x):∃cs iZ,vs=.agg cs::iZ∧cW c hh cs=some x.1∧bO bs r hh ids iZ=some x.2:=by
 cases vs with
 |nil=>cases hd
 |cons v vs =>
  have e:bO bs (.agg c::r) hh ids (v::vs)=(match Cm c hh v,bO bs r hh ids vs with
   |some x,some y=>some ((x,y):ss c×mJ r)
   |_,_=>none):=rfl
  rw[e]at hd;clear e;have key:Cm c hh v=some x.1∧bO bs r hh ids vs=some x.2:=by
   generalize Cm c hh v=o1 at hd ⊢;generalize bO bs r hh ids vs=o2 at hd ⊢
   cases o1 with
   |none=>cases hd
   |some x1 =>
    cases o2 with
    |none=>cases hd
    |some y1=>have:=acP hd;subst this;exact⟨rfl,rfl⟩
  obtain⟨h1,h2⟩:=key;unfold Cm at h1
  grind
theorem iz{bs:List BK}{hh:Heap}{ids:List Nat}:∀(rs:List RK) (vs:List AV) (x:mJ rs),bO bs rs hh ids vs=some x→vs.length=rs.length
 |[],[],_,_=>rfl
 |[],_::_,_,h=>by cases h
 |.val k::r,vs,x,h=>by obtain⟨v,iZ,rfl,_,h2⟩:=qP h;simp[iz r iZ x.2 h2]
 |.own ok::r,vs,x,h=>by obtain⟨v,iZ,rfl,_,h2⟩:=qQ h;simp[iz r iZ x.2 h2]
 |.fz _ _::r,vs,x,h=>by obtain⟨v,iZ,rfl,_,h2⟩:=oa h;simp[iz r iZ x.2 h2]
 |.agg _::r,vs,x,h=>by obtain⟨v,iZ,rfl,_,h2⟩:=qR h;simp[iz r iZ x.2 h2]
theorem jC{bs:List BK}{hh:Heap}{ids:List Nat}:∀(rs:List RK) (vs:List AV) (m:Nat) (x:mJ rs),bO bs rs hh ids vs=some x→(cK rs vs m x).filterMap (·.2.1)=eE rs vs
 |[],vs,_,_,_=>by cases vs<;>rfl
 |.own ok::r,vs,m,x,h=>by obtain⟨v,iZ,rfl,_,h2⟩:=qQ h;simp only[cK,eE,List.headD_cons,List.tail_cons];rw[eF,jC r iZ (m+1) x.2 h2];simp only[];rw[zc]
 |.val k::r,vs,m,x,h=>by obtain⟨v,iZ,rfl,_,h2⟩:=qP h;simp only[cK,eE,List.tail_cons];exact jC r iZ (m+1) x.2 h2
 |.fz _ _::r,vs,m,x,h=>by obtain⟨v,iZ,rfl,_,h2⟩:=oa h;simp only[cK,eE,List.tail_cons];exact jC r iZ (m+1) x.2 h2
 |.agg c::r,vs,m,x,h=>by obtain⟨cs,iZ,rfl,h1,h2⟩:=qR h;simp only[cK,eE,List.headD_cons,List.tail_cons,AV.cells];have e1:(eu c m cs x.1).filterMap (·.2.1)=gF c cs:=qL c m hh cs x.1 h1;rw[List.filterMap_append,jC r iZ (m+1) x.2 h2];exact congrArg (·++_) e1
theorem kE{hd:Hp}{bs:List BK}{hh:Heap}{ids:List Nat}:∀(rs:List RK) (vs:List AV) (m:Nat) (x:mJ rs),bO bs rs hh ids vs=some x→(∀s∈eE rs vs,hd s=hh.get s)→∀e∈cK rs vs m x,xe Z ψ hd w h' ψ' e
 |[],_,_,_,_,_,e,he=>by simp[cK]at he
 |.own ok::r,vs,m,x,h,hk,e,he=>by
  obtain⟨v,iZ,rfl,h1,h2⟩:=qQ h;simp only[cK,eE,List.headD_cons,List.tail_cons]at he hk;rcases abD.1 he with rfl|he
  ·exact OT h1 fun s hs=>hk s (abM _ hs)
  ·exact kE r iZ (m+1) x.2 h2 (fun s hs=>hk s (abL _ hs)) e he
 |.val k::r,vs,m,x,h,hk,e,he=>by obtain⟨v,iZ,rfl,h1,h2⟩:=qP h;exact kE r iZ (m+1) x.2 h2 hk e he
 |.fz _ _::r,vs,m,x,h,hk,e,he=>by obtain⟨v,iZ,rfl,h1,h2⟩:=oa h;exact kE r iZ (m+1) x.2 h2 hk e he
 |.agg c::r,vs,m,x,h,hk,e,he=>by
  obtain⟨cs,iZ,rfl,h1,h2⟩:=qR h;simp only[cK,eE,List.headD_cons,List.tail_cons,AV.cells]at he hk;rcases ab6.1 he with he|he
  ·exact tZ c m cs x.1 h1 (fun s hs=>hk s (abM _ hs)) e he
  ·exact kE r iZ (m+1) x.2 h2 (fun s hs=>hk s (abL _ hs)) e he
theorem zi{hh:Heap}{id:Nat}:∀(dV:List CK) (c n:Nat) (cs:List AV) (x:ss dV),cW dV hh cs=some x→gK dV c=true→cs[nT dV c]? = some (.bN id)→hh.get id≠none∧∃o,(n+c,some id,o)∈eu dV n cs x
 |[],c,n,cs,x,_,h,_=>by simp[gK]at h
 |.val k::r,0,n,cs,x,_,h,_=>by simp[gK]at h
 |.val k::r,c+1,n,cs,x,hd,h,hc=>by obtain⟨_,h2⟩:=qK hd;obtain⟨h3,o,h4⟩:=zi r c (n+1) (cs.drop k.sz) x.2 h2 (by grind [gK]) (by rw[List.getElem?_drop];simpa[nT] using hc);exact⟨h3,o,by rw[show n+(c+1)=n+1+c by omega];exact h4⟩
 |.own ok::r,0,n,cs,x,hd,h,hc=>by
  obtain⟨c0,cs',rfl,h1,h2⟩:=mS hd;simp only[nT,List.getElem?_cons_zero,Option.some.injEq]at hc;subst hc;rcases mT h1 with⟨h3,_⟩|⟨pe,h3,h4⟩
  ·cases h3
  grind [eu,List.headD_cons,qB,List.head?_cons,List.mem_cons_self]
 |.own ok::r,c+1,n,cs,x,hd,h,hc=>by
  obtain⟨c0,cs',rfl,h1,h2⟩:=mS hd;obtain⟨h3,o,h4⟩:=zi r c (n+1) cs' x.2 h2 (by grind [gK]) (by simp only[nT]at hc;rw[Nat.add_comm]at hc;simpa using hc)
  grind [eu,List.tail_cons,List.mem_cons_of_mem]
theorem CW{hh:Heap}{id c:Nat}:∀(bs:List BK) (b n:Nat) (is is':List Nat) (x:Aq bs) (bk:BK) (bi:Nat) (ty:TypeId) (cs:List AV),dy bs hh is=some x→is'.length=bs.length→bs[b]? = some bk→is[b]? = some bi→hh.get bi=some (.box ty cs) → gK bk.dV c=true→cs[nT bk.dV c]? = some (.bN id)→hh.get id≠none∧∃o,(n+16*b+c,some id,o)∈cF bs hh is is' n x
 |[],b,n,is,is',x,bk,bi,ty,cs,_,_,h,_,_,_,_=>by simp at h
 |b0::r,b,n,[],is',x,bk,bi,ty,cs,hd,_,_,_,_,_,_=>by cases hd
 |b0::r,b,n,i::is,[],x,bk,bi,ty,cs,_,hl,_,_,_,_,_=>by simp at hl
 |b0::r,0,n,i::is,i'::is',x,bk,bi,ty,cs,hd,hl,h1,h2,h3,h4,h5=>by
  obtain⟨g0,g3⟩:=fR hd;simp only[List.getElem?_cons_zero,Option.some.injEq]at h1 h2;subst h1;subst h2
  cases b0 with
  |own ok=>simp[BK.dV,gK]at h4
  |box ty0 c0 =>
   obtain⟨cs',g1,g2⟩:=tY g0;rw[g1]at h3
   cases h3
   obtain⟨h6,o,h7⟩:=zi c0 c n cs x.1 g2 h4 h5
   grind [cF,fm,qM,List.mem_append_left,List.mem_cons_of_mem]
 |b0::r,b+1,n,i::is,i'::is',x,bk,bi,ty,cs,hd,hl,h1,h2,h3,h4,h5=>by
  obtain⟨_,g3⟩:=fR hd;obtain⟨h6,o,h7⟩:=CW r b (n+16) is is' x.2 bk bi ty cs g3 (by simpa using hl) (by simpa using h1) (by simpa using h2) h3 h4 h5
  grind [cF,List.mem_append_right]
theorem CX{c:List CK}{cs:List AV}{id s off:Nat}{a:Nat×Nat×Nat}(h:Cl c cs id s off a=true):cs[nT c a.1]? = some (.bN id)∧s=a.2.1∧off=a.2.2∧gK c a.1=true:=by
 simp only[Cl,Bool.and_eq_true,decide_eq_true_eq]at h;obtain⟨h1,h2,h3,h4⟩:=h;refine⟨?_,h2,h3,h4⟩;unfold Tj at h1
 grind
theorem QW{bs:List BK}{hh:Heap}{ids:List Nat}{b:Nat}{alts:List (Nat×Nat×Nat)}{v:AV}{x:Option (Fin alts.length×Nat)}(hd:oH bs hh ids b alts v=some x):(v=.mg∧x=none) ∨ ∃id i a bi bk ty cs,v=.ref id (alts.get a).2.1 i (alts.get a).2.2∧x=some (a,i)∧ids[b]? = some bi∧bs[b]? = some bk∧hh.get bi=some (.box ty cs)∧cs[nT bk.dV (alts.get a).1]? = some (.bN id)∧gK bk.dV (alts.get a).1=true:=by
 unfold oH at hd
 split at hd
 ·simp_all
 ·rename_i id s i off
  split at hd
  ·rename_i bi bk h1 h2
   split at hd
   ·rename_i ty cs h3
    split at hd
    ·rename_i a h4
     cases hd
     have h4':Cl bk.dV cs id s off (alts.get a)=true:=by grind
     obtain⟨h5,rfl,rfl,h6⟩:=CX h4';exact .inr ⟨id,i,a,bi,bk,ty,cs,rfl,rfl,h1,h2,h3,h5,h6⟩
    ·cases hd
   ·cases hd
  ·cases hd
 ·cases hd
theorem uh{bs:List BK}{hh:Heap}{ids is' ids2:List Nat}{nb:Nat}{yb:Aq bs}(g:Good Z ψ hh.get w B0 O)(hz:∀b,Z b→Z' b)(hb:dy bs hh ids=some yb)(hl:is'.length=bs.length) (TO:∀e∈cF bs hh ids is' nb yb,h' e.1≠none→ψ' e.1=kC ψ e.2.1):∀(rs:List RK) (vs:List AV) (m:Nat) (x:mJ rs) (us:List Value),bO bs rs hh ids vs=some x →(∀id b,AV.bN id∈gP rs vs→hh.get id≠none→ob (ψ id)=some b→Z' b)→(∀e∈cK rs vs m x,h' e.1≠none→ψ' e.1=kC ψ e.2.1)→au Z ψ hh.get w vs us→au Z' ψ' h' w (aW rs ids2 nb m x) us
 |[],vs,m,x,us,hd,_,_,hr=>by
  have:=iz [] vs x hd
  grind [List.eq_nil_of_length_eq_zero,aW,au]
 |.val k::r,vs,m,x,us,hd,hf,kg,hr=>by obtain⟨v,iZ,rfl,h1,h2⟩:=qP hd;simp only[au]at hr;obtain⟨u,jn,rfl,h3,h4⟩:=hr;simp only[aW,au];simp only[gP]at hf;exact⟨u,jn,rfl,tU g hz (fun id b bM=>hf id b (abM _ bM)) h1 h3,uh g hz hb hl TO r iZ (m+1) x.2 jn h2 (fun id b bM=>hf id b (abL _ bM)) kg h4⟩
 |.own ok::r,vs,m,x,us,hd,hf,kg,hr=>by obtain⟨v,iZ,rfl,h1,h2⟩:=qQ hd;simp only[au]at hr;obtain⟨u,jn,rfl,h3,h4⟩:=hr;simp only[aW,au];simp only[cK,List.headD_cons,List.tail_cons]at kg;exact⟨u,jn,rfl,Ia h1 h3 (fun hn=>kg _ ab4 hn),uh g hz hb hl TO r iZ (m+1) x.2 jn h2 hf (fun e he=>kg e (abA _ he)) h4⟩
 |.fz b alts::r,vs,m,x,us,hd,hf,kg,hr=>by
  obtain⟨v,iZ,rfl,h1,h2⟩:=oa hd;simp only[au]at hr;obtain⟨u,jn,rfl,h3,h4⟩:=hr;simp only[aW,au];refine⟨u,jn,rfl,?_,uh g hz hb hl TO r iZ (m+1) x.2 jn h2 hf kg h4⟩;rcases QW h1 with⟨rfl,h5⟩|⟨id,i,al,bi,bk,ty,cs,rfl,h5,h6,h7,h8,h9,qq⟩
  ·grind [wQ,aA]
  ·have:x.1=some (al,i):=h5;rw[this];obtain⟨Fg,o,TI⟩:=CW bs b nb ids is' yb bk bi ty cs hb hl h7 h6 h8 qq h9;simp only[wQ,aA]at h3 ⊢;obtain⟨ad,XO,h14⟩:=h3;refine⟨ad,XO,fun hn=>?_⟩;rw[TO _ TI hn,h14 Fg];rfl
 |.agg c::r,vs,m,x,us,hd,hf,kg,hr=>by obtain⟨cs,iZ,rfl,h1,h2⟩:=qR hd;simp only[au]at hr;obtain⟨u,jn,rfl,h3,h4⟩:=hr;simp only[aW,au];simp only[gP,AV.cells]at hf;simp only[cK,List.headD_cons,List.tail_cons,AV.cells]at kg;refine⟨u,jn,rfl,?_,uh g hz hb hl TO r iZ (m+1) x.2 jn h2 (fun id b bM=>hf id b (abL _ bM)) (fun e he=>kg e (abL _ he)) h4⟩;simp only[aA]at h3 ⊢;obtain⟨ws,rfl,h5⟩:=h3;exact⟨ws,rfl,tX g hz c m cs x.1 _ h1 (fun id b bM=>hf id b (abM _ bM)) (fun e he=>kg e (abM _ he)) h5⟩
end Go.Vs
