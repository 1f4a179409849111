/- The value semantics is sound -/
import Derived.Test.YtpkfpbpbkabkdaaGreatEngineA
import Derived.Laws.StructEq
import Derived.Laws.Slices
import Derived.Laws.Strings
import Derived.MapKept
set_option linter.unusedSimpArgs false
set_option linter.unusedVariables false
namespace Go.Vs
variable {P:Program} {Z Z':Nat→Prop} {ψ ψ':Nat→Value} {h h':Hp} {w w':World} {B0:Nat} {O:Nat→Prop} {N:Nat→Prop}
def bL.hp(h:Hp):bL→Hp
 |.val _=>h
 |.new _ os=>fun i=>match Heap.get os i with
  |some o=>some o
  |none=>h i
 |.wr _ h'=>h'.get
theorem iE(id:Nat)(o:Ob)(h:Hp):(fun i=>match Heap.get [(id,o)] i with|some o=>some o|none=>h i)=eC h id (some o):=by
 funext i;simp only[Heap.get,eC];by_cases e:i=id
 ·subst e;simp
 ·rw[if_neg (fun x=>e x.symm),if_neg e]
theorem mS(hh:Heap)(id:Nat)(o:Ob):(hh.set id o).get=eC hh.get id (some o):=by
 funext i;by_cases e:i=id
 ·subst e;rw[Heap.Fs,bA]
 ·rw[Heap.Kg e,dk _ _ e]
theorem u4(hh:Heap)(id:Nat):(hh.del id).get=eC hh.get id none:=by
 funext i;by_cases e:i=id
 ·subst e;rw[Heap.gI,bA]
 ·rw[Heap.iC e,dk _ _ e]
theorem A3(hh:Heap)(id:Nat)(o:Ob):Heap.get ((id,o)::hh)=eC hh.get id (some o):=by
 funext i;simp only[Heap.get,eC];by_cases e:i=id
 ·subst e;simp
 ·rw[if_neg (fun x=>e x.symm),if_neg e]
def g9(P:Program)(ρC:Operand→Value)(o:Oper)(Z:Nat→Prop)(ψ:Nat→Value)(h:Hp)(w:World)(B0:Nat)(O N:Nat→Prop)(e:bL):Prop :=∃V w' Z' ψ',((execOp ρC o).run P w=.ok (.value V) w'∨((execOp ρC o).run P w=.ok .skip w'∧V=undef))∧Next Z ψ h w B0 O N Z' ψ' (e.hp h) w'∧aC Z' ψ' (e.hp h) w' e.v V
theorem g9.val{ρC:Operand→Value}{o:Oper}{x:AV}(g:Good Z ψ h w B0 O){V:Value}(hr:(execOp ρC o).run P w=.ok (.value V) w)(hx:aC Z ψ h w x V):g9 P ρC o Z ψ h w B0 O N (.val x) :=⟨V,w,Z,ψ,.inl hr,Next.refl g,hx⟩
theorem Qa{ty:TypeId}{k:K}{xs:List k.T}{id n:Nat}{x:k.T}(g:Good Z ψ h w B0 O)(hg:h id=some (.own (.row ty k) xs))(hx:xs[n]? = some x) :
  ∃gg us,UD (ψ id)=gg∧aL Z w k x us∧∀(j:Nat) u,us[j]? = some u→w.cell? ⟨gg,n*k.sz+j,none⟩=some u:=by
 obtain⟨vs,ho,hv⟩:=g.row id (.row ty k) xs hg;have hn:n<xs.length:=(aaW.1 hx).1;obtain⟨hl,e⟩:=ho;rcases e with⟨h0,_⟩|⟨gg,cap,cur,e1,_,e3,_,_,_,e7⟩
 ·omega
 ·refine⟨gg,_,by rw[e1];rfl,hv n x hx,fun j u hu=>?_⟩;rw[List.getElem?_take]at hu
  split at hu
  ·rw[List.getElem?_drop,←e7,List.getElem?_take]at hu
   split at hu
   ·simp only[World.cell?,e3];simpa using hu
   ·cases hu
  ·cases hu
theorem tU{hh:Heap}(g:Good Z ψ h w B0 O)(bE:∀id o,hh.get id=some o→h id=some o){t:TypeId}{a:AV}{v:Value}{e:bL}(hv:aC Z ψ h w a v)(he:lN P hh t a some=some e) :
  ∃x V,e=.val x∧(Instr.loadAt t v).run P w=.ok V w∧aC Z ψ h w x V:=by
 unfold lN at he
 split at he
 ·rename_i id s i off;simp only[aC]at hv;obtain⟨a,rfl,ha⟩:=hv
  split at he
  ·rename_i ty cs hg;have A4:=bE _ _ hg;have Hi:=ha (by rw[A4];simp);obtain⟨gg,vs,e1,e2,e3,e4⟩:=g.box id ty cs A4
   split at he
   ·rename_i hi;subst hi
    split at he
    ·rename_i x hx
     cases he
     rw[e1]at Hi;simp only[UD,Nat.zero_mul,Nat.zero_add]at Hi;subst Hi;obtain⟨V,h1,h2⟩:=jQ (a:=⟨gg,off,none⟩) (e3.drop off) (fun j u hu=>by rw[cT];simp only[World.cell?,e2];rw[List.getElem?_drop]at hu;simpa using hu) hx;exact⟨x,V,rfl,h1,h2⟩
    ·cases he
   ·cases he
  ·rename_i ty kk xs hg;have A4:=bE _ _ hg;have Hi:=ha (by rw[A4];simp)
   split at he
   ·rename_i hs;subst hs;obtain⟨x,hx,he⟩:=adH.1 he
    split at he
    ·rename_i y hy
     cases he
     obtain⟨gg,us,h1,h2,h3⟩:=Qa g A4 hx;rw[h1]at Hi;subst Hi;obtain⟨V,h4,h5⟩:=jQ (a:=⟨gg,i*kk.sz+off,none⟩) ((iv (ψ:=ψ) (h:=h) h2).drop off) (fun j u hu=>by rw[cT,Nat.add_assoc];exact h3 _ _ (by rw[List.getElem?_drop]at hu;exact hu)) hy;exact⟨y,V,rfl,h4,h5⟩
    ·cases he
   ·cases he
  ·cases he
 ·rename_i kk x off
  split at he
  ·rename_i y hy
   cases he
   simp only[aC]at hv;obtain⟨a,us,rfl,_,h2,h3⟩:=hv;obtain⟨V,h4,h5⟩:=jQ ((iv (ψ:=ψ) (h:=h) h2).drop off) (fun j u hu=>h3 j u (by rw[List.getElem?_drop]at hu;exact hu)) hy;exact⟨y,V,rfl,h4,h5⟩
  ·cases he
 ·cases he
theorem nL{t e:TypeId}(he:ym P t=some e):P.underlying t=some (.slice e):=by
 unfold ym at he
 split at he
 ·cases he;assumption
 ·cases he
theorem nM{t e:TypeId}(ht:P.underlying t=some (.slice e)){i:TypeInfo}(hi:P.info? e=some i)(a:Addr)(n c:Nat)(k:IntKind)(j:Int)(h0:0≤j)(h1:j<n) :
  (Instr.indexAt t (.slice (some a) n c) (.int k j)).run P w=.ok (.pointer (some (a.add (j.toNat*P.cellsOf e)))) w:=by
 simp[Instr.indexAt,asIntOf,run_underlying ht,h0,h1,dF hi]
theorem Ny{α:Type}{xs:List α}{i:Int}{x:α}(hx:aT xs i=some x):0≤i∧i<xs.length∧xs[i.toNat]? = some x:=by
 unfold aT at hx
 split at hx
 ·rename_i h0;have:=(aaW.1 hx).1;exact⟨h0,by omega,hx⟩
 ·cases hx
theorem qt{hh:Heap}(g:Good Z ψ h w B0 O)(bE:∀id o,hh.get id=some o→h id=some o){t:TypeId}{x i:AV}{v u:Value}{e:bL}(hv:aC Z ψ h w x v)(hu:aC Z ψ h w i u)(he:dE P hh t x i some=some e) :
  ∃y V,e=.val y∧(Instr.indexAt t v u).run P w=.ok V w∧aC Z ψ h w y V:=by
 unfold dE at he
 split at he
 ·cases he
 ·rename_i et het;have ht:=nL het
  ·skip
   split at he
   ·rename_i ex L3 xs ik n;simp only[aC]at hv hu;subst hu
    split at he
    ·rename_i hs;obtain⟨y,hy,he⟩:=adH.1 he
     cases he
     obtain⟨h0,h1,h2⟩:=Ny hy;obtain⟨hk,_⟩:=hv;simp only[aL]at hk;obtain⟨v',A5,A,c,rfl,_,_,JY⟩:=hk
     cases A5
     obtain⟨a,us,rfl,hz,hr,hc⟩:=JY _ _ h2;have hi:∃i,P.info? et=some i:=by
      cases hi:P.info? et with
      |some i=>exact⟨i,rfl⟩
      |none=>exfalso;have:=L3.iB;simp[Program.cellsOf,hi]at hs;omega
     obtain⟨inf,hi⟩:=hi;refine⟨_,_,rfl,nM ht hi a xs.length c ik n h0 h1,?_⟩;simp only[aC];refine⟨_,us,rfl,by rw[fq];exact hz,hr,fun j u hu=>?_⟩;rw[uT,hs];exact hc j u (by simpa using hu)
    ·cases he
   ·rename_i id ik n
    split at he
    ·rename_i ty L3 xs hg;have A4:=bE _ _ hg
     split at he
     ·rename_i hs
      cases A2:(decide (0≤n)&&decide (n<(xs.length:Int))) with
      |false=>rw[A2]at he;cases he
      |true =>
       rw[A2]at he
       cases he
       simp only[Bool.and_eq_true,decide_eq_true_eq]at A2;simp only[aC]at hv hu;subst hu;have hvv:=hv.2 (by rw[A4];simp);obtain⟨vs,⟨_,e⟩,_⟩:=g.row id (.row ty L3) xs A4;rcases e with⟨h0,_⟩|⟨gg,cap,cur,e1,_,e3,_⟩
       ·omega
       ·have hi:∃i,P.info? et=some i:=by
         cases hi:P.info? et with
         |some i=>exact⟨i,rfl⟩
         |none=>exfalso;have:=L3.iB;simp[Program.cellsOf,hi]at hs;omega
        obtain⟨inf,hi⟩:=hi;rw[hvv,e1];refine⟨_,_,rfl,nM ht hi _ xs.length cap ik n A2.1 A2.2,?_⟩;simp only[aC];refine⟨_,rfl,fun _=>?_⟩;rw[e1,hs,cT];simp[UD]
     ·cases he
    ·cases he
   ·cases he
theorem tf{t:TypeId}(h:P.cellsOf t≠0):∃i,P.info? t=some i:=by
 cases hi:P.info? t with
 |some i=>exact⟨i,rfl⟩
 |none=>exact absurd (by simp[Program.cellsOf,hi]) h
theorem tg{t:TypeId}{f n:Nat}{ft:TypeId}(hf:g6 P t f=some (n,ft))(hc:P.cellsOf ft≠0)(a:Addr) :
  (Instr.fieldAt t (.pointer (some a)) f).run P w=.ok (.pointer (some (a.add n))) w:=by
 unfold g6 at hf
 split at hf
 ·rename_i fs ht;obtain⟨fd,hfd,he⟩:=adJ.1 hf
  cases he
  obtain⟨i,hi⟩:=tf hc;have hs:=dF (P:=P) (w:=w) hi;simp only[Instr.fieldAt,Sem.run_bind,run_underlying ht,Result.andThen_ok,hfd,Instr.sureAddr,Sem.run_pure,fieldPlace,hs];rw[if_neg hc];rfl
 ·cases hf
theorem th{t:TypeId}{f n:Nat}{ft:TypeId}(hf:g6 P t f=some (n,ft))(hc:P.cellsOf ft≠0){id s i off:Nat}{v:Value}(hv:aC Z ψ h w (.ref id s i off) v) :
  ∃V,(Instr.fieldAt t v f).run P w=.ok V w∧aC Z ψ h w (.ref id s i (off+n)) V:=by
 simp only[aC]at hv ⊢;obtain⟨a,rfl,ha⟩:=hv;refine⟨_,tg hf hc a,_,rfl,fun bR=>?_⟩;rw[ha bR,cT,Nat.add_assoc]
theorem u5{t:TypeId}{f n:Nat}{ft:TypeId}(hf:g6 P t f=some (n,ft))(hc:P.cellsOf ft≠0){k:K}{x:k.T}{off:Nat}{v:Value}(hv:aC Z ψ h w (.fp k x off) v) :
  ∃V,(Instr.fieldAt t v f).run P w=.ok V w∧aC Z ψ h w (.fp k x (off+n)) V:=by
 simp only[aC]at hv ⊢;obtain⟨a,us,rfl,hz,hr,D7⟩:=hv;refine⟨_,tg hf hc a,_,us,rfl,by rw[fq];exact hz,hr,fun j u hu=>?_⟩;rw[uT];exact D7 (n+j) u (by rw[←Nat.add_assoc];exact hu)
theorem Ht{t ft:TypeId}{f n:Nat}(hf:g6 P t f=some (n,ft)){cs:List AV}{x:AV}{v:Value}(hv:aC Z ψ h w (.agg cs) v)(hx:ep P ft (cs.drop n)=some x) :
  ∃V,(Instr.field t v f).run P w=.ok V w∧aC Z ψ h w x V:=by
 simp only[aC]at hv;obtain⟨vs,rfl,hl⟩:=hv;have hd:=hl.drop n;have hlen:=hd.length;unfold g6 at hf
 split at hf
 ·rename_i fs ht;obtain⟨fd,hfd,he⟩:=adJ.1 hf
  cases he
  unfold ep at hx
  split at hx
  ·rename_i hb
   split at hx
   ·rename_i hle
    cases hx
    obtain⟨i,hi⟩:=yv hb;refine⟨.agg (vs.extract fd.offset (fd.offset+P.cellsOf fd.type)),?_,?_⟩
    ·simp[Instr.field,run_underlying ht,hfd,asAgg,part,gm hb,dF hi]
    ·simp only[aC];refine⟨_,rfl,?_⟩;rw[Array.toList_extract,List.extract_eq_take_drop,Nat.add_sub_cancel_left];exact hd.take _
   ·cases hx
  ·rename_i hb
   split at hx
   ·rename_i c r hcr
    cases hx
    rw[hcr]at hd;simp only[aq]at hd;obtain⟨u,us,hu,h1,_⟩:=hd;refine⟨u,?_,h1⟩;have hg:vs[fd.offset]? = some u:=by
     have:(vs.toList.drop fd.offset)[0]? = some u:=by rw[hu];rfl
     rw[List.getElem?_drop]at this;simpa using this
    simp[Instr.field,run_underlying ht,hfd,asAgg,part,gm hb,hg]
   ·cases hx
  ·cases hx
 ·cases hf
theorem Nz{hh:Heap}(g:Good Z ψ h w B0 O)(bE:∀id o,hh.get id=some o→h id=some o){x:AV}{v:Value}{e:bL}(hv:aC Z ψ h w x v)(he:D3 hh x some=some e) :
  ∃n:Nat,e=.val (.int .i64 (n:Int))∧((∃s,x=.str s∧v=.string s∧n=s.size)∨∃A c,v=.slice A n c):=by
 unfold D3 at he
 split at he
 ·rename_i s hs
  cases he
  have hx:x=.str s:=by
   cases x with
   |bK id=>simp only[cQ]at hs;split at hs<;>cases hs
   |str s'=>simp only[cQ]at hs;exact hs
   |_=>simp only[cQ]at hs<;>cases hs
  subst hx;simp only[aC]at hv;exact⟨_,rfl,.inl ⟨s,rfl,hv,rfl⟩⟩
 ·rename_i ex k xs hs
  cases he
  have Qb:=D6 (Z':=fun b=>Z b∨Own ψ h b) (g.sub bE) (fun b hb=>.inl hb) (fun id b _ bw hb=>.inr (by obtain⟨o,ho⟩:=acx.1 bw;exact⟨id,by rw[bE id o ho];simp,hb⟩)) (hv.qA bE);rw[hs]at Qb;simp only[aC,aL]at Qb;obtain⟨⟨v',A5,A,c,rfl,_⟩,_⟩:=Qb
  cases A5
  exact⟨_,rfl,.inr ⟨A,c,rfl⟩⟩
 ·rename_i hs
  cases he
  have hx:x=.gh:=by
   cases x with
   |bK id=>simp only[cQ]at hs;split at hs<;>cases hs
   |gh=>rfl
   |_=>simp only[cQ]at hs<;>cases hs
  subst hx;simp only[aC]at hv;exact⟨0,rfl,.inr ⟨_,_,hv⟩⟩
 ·cases he
def eJ(Z:Nat→Prop)(ψ:Nat→Value)(h:Hp)(w:World):Option AV→Option Value→Prop
 |none,none=>True
 |some a,some v=>aC Z ψ h w a v
 |_,_=>False
theorem ct(k:IntKind)(i:Int)(y:Nat)(code:BoundsCode)(h0:0≤i)(h1:i≤y):(Instr.sliceBound (.int k i) y code).run P w=.ok i.toNat w:=by simp[Instr.sliceBound,asIntOf,h0,h1]
theorem tV{b:Bool}{n c:Nat}(hc:n≤c){lo hi mx:Option AV}{L8 tQ mx':Option Value}{l u:Int}(h1:eJ Z ψ h w lo L8)(h2:eJ Z ψ h w hi tQ)(h3:eJ Z ψ h w mx mx') (hb:n6 n lo hi=some (l,u)) (ho:bp n l u=true) (hm:mx=none∨(mx=some (.int .i64 u)∧hi≠none)) :
  (Instr.sliceBounds b n c L8 tQ mx').run P w=.ok (l.toNat,u.toNat,if mx=none then c else u.toNat) w:=by
 simp only[bp,Bool.and_eq_true,decide_eq_true_eq]at ho;obtain⟨h4,h5,h6⟩:=ho;have huc:u≤(c:Int):=by omega
 unfold n6 at hb;rcases hm with rfl|⟨rfl,bw⟩
 ·cases mx' with
  |some _=>exact h3.elim
  |none =>
   split at hb
   all_goals first|(cases hb;done)|skip
   ·cases hb
    cases L8 with
    |some _=>exact h1.elim
    |none =>
     cases tQ with
     |some _=>exact h2.elim
     |none=>simp[Instr.sliceBounds]
   ·cases hb
    cases L8 with
    |none=>exact h1.elim
    |some v =>
     simp only[eJ,aC]at h1;subst h1
     cases tQ with
     |some _=>exact h2.elim
     |none=>simp[Instr.sliceBounds,ct .i64 l n _ h4 h5]
   ·cases hb
    cases L8 with
    |some _=>exact h1.elim
    |none =>
     cases tQ with
     |none=>exact h2.elim
     |some v =>
      simp only[eJ,aC]at h2;subst h2
      cases b<;>simp[Instr.sliceBounds,ct .i64 u c _ (by omega) huc]
   ·cases hb
    cases L8 with
    |none=>exact h1.elim
    |some v =>
     simp only[eJ,aC]at h1;subst h1
     cases tQ with
     |none=>exact h2.elim
     |some v =>
      simp only[eJ,aC]at h2;subst h2;have hx:l≤((u.toNat:Nat):Int):=by omega
      cases b<;>simp[Instr.sliceBounds,ct .i64 u c _ (by omega) huc,ct .i64 l u.toNat _ h4 hx]
 ·cases mx' with
  |none=>exact h3.elim
  |some m =>
   simp only[eJ,aC]at h3;subst h3;have huu:u≤((u.toNat:Nat):Int):=by omega
   have hx:l≤((u.toNat:Nat):Int):=by omega
   split at hb
   all_goals first|(cases hb;done)|skip
   ·exact absurd rfl bw
   ·exact absurd rfl bw
   ·cases hb
    cases L8 with
    |some _=>exact h1.elim
    |none =>
     cases tQ with
     |none=>exact h2.elim
     |some v =>
      simp only[eJ,aC]at h2;subst h2
      cases b<;>simp[Instr.sliceBounds,ct .i64 u c _ (by omega) huc,ct .i64 u u.toNat _ (by omega) huu]
   ·cases hb
    cases L8 with
    |none=>exact h1.elim
    |some v =>
     simp only[eJ,aC]at h1;subst h1
     cases tQ with
     |none=>exact h2.elim
     |some v =>
      simp only[eJ,aC]at h2;subst h2
      cases b<;>simp[Instr.sliceBounds,ct .i64 u c _ (by omega) huc,ct .i64 u u.toNat _ (by omega) huu,ct .i64 l u.toNat _ h4 hx]
theorem A6{t e:TypeId}(ht:P.underlying t=some (.slice e)){kk:K}(jf:P.cellsOf e=kk.sz){xs:List kk.T}{v:Value}(hr:aL Z w (.sl kk) xs [v]){lo hi mx:Option AV}{L8 tQ mx':Option Value}{l u:Int} (h1:eJ Z' ψ h w lo L8) (h2:eJ Z' ψ h w hi tQ) (h3:eJ Z' ψ h w mx mx') (hb:n6 xs.length lo hi=some (l,u)) (ho:bp xs.length l u=true) (hm:mx=none∨(mx=some (.int .i64 u)∧hi≠none)) :
  ∃V,(Instr.sliceAt t v L8 tQ mx').run P w=.ok V w∧aL Z w (.sl kk) (cut xs l u) [V]∧(mx≠none→∃A c,V=.slice A c c):=by
 simp only[aL]at hr;obtain⟨v',A5,A,c,rfl,hl,hn,JY⟩:=hr
 cases A5
 have dB:=tV (P:=P) (w:=w) (b:=true) hl h1 h2 h3 hb ho hm;simp only[bp,Bool.and_eq_true,decide_eq_true_eq]at ho;obtain⟨h4,h5,h6⟩:=ho;obtain⟨i,hi⟩:=tf (P:=P) (t:=e) (by have:=kk.iB;omega);generalize PD:(if mx=none then c else u.toNat)=m at dB;have hmu:u.toNat≤m:=by
  rcases hm with rfl|⟨rfl,_⟩
  ·simp at PD;omega
  ·simp at PD;omega
 have hmc:m≤c:=by
  rcases hm with rfl|⟨rfl,_⟩
  ·simp at PD;omega
  ·simp at PD;omega
 have rY:(cut xs l u).length=u.toNat-l.toNat:=by unfold cut;rw[List.length_drop,List.length_take];omega
 refine⟨.slice (if m=l.toNat then A else A.map (·.add (l.toNat*P.cellsOf e))) (u.toNat-l.toNat) (m-l.toNat),?_,?_,?_⟩
 ·simp[Instr.sliceAt,Instr.slice,run_underlying ht,dB,dF hi]
 ·simp only[aL];refine⟨_,rfl,_,_,by rw[rY],by rw[rY];omega,fun hA=>?_,fun j x hx=>?_⟩
  ·split at hA
   ·have:=hn hA;omega
   ·cases A with
    |none=>have:=hn rfl;omega
    |some a=>cases hA
  ·have hj:j<u.toNat-l.toNat:=by rw[←rY];exact(aaW.1 hx).1
   have hx':xs[l.toNat+j]? = some x:=by unfold cut at hx;rw[List.getElem?_drop,List.getElem?_take,if_pos (by omega)]at hx;exact hx
   obtain⟨a,us,rfl,hz,hr,hc⟩:=JY _ _ hx';refine⟨a.add (l.toNat*P.cellsOf e),us,by rw[if_neg (by omega)];rfl,by rw[fq];exact hz,hr,fun q y hy=>?_⟩;rw[uT,jf];have:=hc q y hy;rw[Nat.add_mul]at this;rw[←Nat.add_assoc];exact this
 ·intro bw;rcases hm with rfl|⟨rfl,_⟩
  ·exact absurd rfl bw
  ·simp at PD;exact⟨_,_,by rw[←PD]⟩
theorem Hu{hh:Heap}(g:Good Z ψ h w B0 O)(_:∀id o,hh.get id=some o→h id=some o){t e:TypeId}(ht:P.underlying t=some (.slice e)){x:AV}{v:Value}{lo hi mx:Option AV}{L8 tQ mx':Option Value}{ef:bL} (hv:aC Z ψ h w x v) (h1:eJ Z ψ h w lo L8) (h2:eJ Z ψ h w hi tQ) (h3:eJ Z ψ h w mx mx') (nT:∀y hw,ef=.wr y hw→hh.get=h) (he:o8 hh (P.cellsOf e) x lo hi mx some=some ef) (X4:(P.info? e).isSome=true) :
  ∃V Z',(Instr.sliceAt t v L8 tQ mx').run P w=.ok V w∧Next Z ψ h w B0 O N Z' ψ (ef.hp h) w∧aC Z' ψ (ef.hp h) w ef.v V:=by
 unfold o8 at he
 split at he
 ·
  simp only[aC]at hv;subst hv
  split at he
  ·rename_i l u hb
   cases ho:bp 0 l u with
   |false=>rw[ho]at he;cases he
   |true =>
    rw[ho]at he
    cases he
    have dB:=tV (P:=P) (w:=w) (b:=true) (ada 0) h1 h2 h3 hb ho (.inl rfl);simp only[bp,Bool.and_eq_true,decide_eq_true_eq]at ho;have hl0:l.toNat=0:=by omega
    have hu0:u.toNat=0:=by omega
    obtain⟨i,hi⟩:=adf.1 X4;refine⟨.slice none 0 0,Z,?_,Next.refl g,by simp only[bL.v,aC]⟩;rw[hl0,hu0]at dB;simp[Instr.sliceAt,Instr.slice,run_underlying ht,dB,dF hi]
  ·cases he
 ·
  rename_i ex kk xs;simp only[aC]at hv
  split at he
  ·rename_i jf
   split at he
   ·rename_i l u hb
    split at he
    ·cases ho:bp xs.length l u with
     |false=>rw[ho]at he;cases he
     |true =>
      rw[ho]at he
      cases he
      obtain⟨V,h4,h5,_⟩:=A6 (P:=P) ht jf hv.1 h1 h2 h3 hb ho (.inl rfl);exact⟨V,Z,h4,Next.refl g,by simp only[bL.v,bL.hp,aC];exact⟨h5,by simp⟩⟩
    ·rename_i m
     cases ho:(bp xs.length l u&&(hi.isSome&&decide (m=u))) with
     |false=>rw[ho]at he;cases he
     |true =>
      rw[ho]at he
      cases he
      simp only[Bool.and_eq_true,decide_eq_true_eq]at ho;obtain⟨ho,hhi,rfl⟩:=ho;obtain⟨V,h4,h5,h6⟩:=A6 (P:=P) ht jf hv.1 h1 h2 h3 hb ho (.inr ⟨rfl,by intro e;rw[e]at hhi;cases hhi⟩);exact⟨V,Z,h4,Next.refl g,by simp only[bL.v,bL.hp,aC];exact⟨h5,fun _=>h6 (by simp)⟩⟩
    ·cases he
   ·cases he
  ·cases he
 ·cases he
def lS(P:Program)(t:TypeId)(k:K):Prop :=∀(Z:Nat→Prop) (w:World) (x y:k.T) (xs ys:Array Value),aL Z w k x xs.toList→aL Z w k y ys.toList →(Op.equal t (.agg xs) (.agg ys)).run P w=.ok (rN k x y) w∧(∀(op:BinOp) (a b:Operand),(eqGuard op t a b (.agg xs) (.agg ys)).run P w=.ok () w)∧∀e:Bool,(Instr.checkKey e 10000 t (.agg xs)).run P w=.ok () w
theorem wT(op:BinOp)(t:TypeId)(a b:Operand)(k k':IntKind)(x y:Int):(eqGuard op t a b (.int k x) (.int k' y)).run P w=.ok () w:=by cases op<;>simp[eqGuard]
theorem NA(op:BinOp)(t:TypeId)(a b:Operand)(x y:ByteArray):(eqGuard op t a b (.string x) (.string y)).run P w=.ok () w:=by cases op<;>simp[eqGuard]
theorem Km(op:BinOp)(t:TypeId)(a b:Operand)(x y:Bool):(eqGuard op t a b (.bool x) (.bool y)).run P w=.ok () w:=by cases op<;>simp[eqGuard]
theorem Ea(op:BinOp)(t:TypeId)(a b:Operand)(x y:Option Addr):(eqGuard op t a b (.pointer x) (.pointer y)).run P w=.ok () w:=by cases op<;>simp[eqGuard]
def bY:AV→Value
 |.bool b=>.bool b
 |.int k n=>.int k n
 |.str s=>.string s
 |_=>undef
theorem jR(k:IntKind)(n:Int):aC Z ψ h w (.int k n) (bY (.int k n)):=by simp only[aC,bY]
theorem eL(b:Bool):aC Z ψ h w (.bool b) (bY (.bool b)):=by simp only[aC,bY]
theorem kc{t e:TypeId}(ht:P.underlying t=some (.pointer e))(a:Option Addr):(Op.equal t (.pointer a) (.pointer none)).run P w=.ok a.isNone w:=by
 have key:∀d,(Op.equalIn (d+1) t (.pointer a) (.pointer none)).run P w=.ok a.isNone w:=fun d=>by cases a<;>simp[Op.equalIn,run_underlying ht]
 exact key 9999
theorem Qc{op:BinOp}{t:TypeId}{k:IntKind}{a b:Int}{v:AV}(hv:XT op k a b=some v):∃V,(binOp op t (.int k a) (.int k b)).run P w=.ok V w∧aC Z ψ h w v V:=by
 cases op<;>simp only[XT]at hv<;>cases hv<;>first
  |(refine⟨bY (.int _ _),?_,jR _ _⟩;simp[binOp,Op.intArith,Op.intCmp,bY];done)
  |(refine⟨bY (.bool _),?_,eL _⟩;simp[binOp,Op.intArith,Op.intCmp,bY];done)
  |(refine⟨bY (.int _ _),?_,jR _ _⟩;simp only[binOp,bY,ne_eq,not_true_eq_false,if_false];rfl)
theorem NB{Eqs:TypeId→Option K}(Du:∀t k,Eqs t=some k→lS P t k){op:BinOp}{t:TypeId}{xo yo:Operand}{x y:AV}{u v:Value}{e:bL}(hu:aC Z ψ h w x u)(hv:aC Z ψ h w y v)(he:yn P Eqs op t x y some=some e) :
  ∃r V,e=.val r∧((do eqGuard op t xo yo u v;binOp op t u v:Sem Value)).run P w=.ok V w∧aC Z ψ h w r V:=by
 unfold yn at he
 split at he
 ·rename_i k a k' b;simp only[aC]at hu hv;subst hu;subst hv
  split at he
  ·cases hb:decide (b<0) with
   |true=>rw[hb]at he;cases he
   |false =>
    rw[hb]at he;cases he;have X5:¬b<0:=by simpa using hb
    exact⟨_,bY (.int _ _),rfl,by simp[wT,binOp,Op.shift,X5,bY,He],jR _ _⟩
  ·cases hb:decide (b<0) with
   |true=>rw[hb]at he;cases he
   |false =>
    rw[hb]at he;cases he;have X5:¬b<0:=by simpa using hb
    exact⟨_,bY (.int _ _),rfl,by simp[wT,binOp,Op.shift,X5,bY,lg],jR _ _⟩
  split at he
  ·rename_i hk;subst hk;simp only[Sem.run_bind,wT,Result.andThen_ok]
   split at he
   ·cases hb:(b==0) with
    |true=>rw[hb]at he;cases he
    |false =>
     rw[hb]at he;cases he;have X5:b≠0:=by simpa using hb
     exact⟨_,bY (.int _ _),rfl,by simp[binOp,Op.intDiv,X5,bY],jR _ _⟩
   ·cases hb:(b==0) with
    |true=>rw[hb]at he;cases he
    |false =>
     rw[hb]at he;cases he;have X5:b≠0:=by simpa using hb
     exact⟨_,bY (.int _ _),rfl,by simp[binOp,Op.intDiv,X5,bY],jR _ _⟩
   ·split at he
    ·rename_i v hv
     cases he
     obtain⟨V,h1,h2⟩:=Qc (P:=P) (t:=t) (w:=w) (Z:=Z) (ψ:=ψ) (h:=h) hv;exact⟨_,V,rfl,h1,h2⟩
    ·cases he
  ·cases he
 ·rename_i a b;simp only[aC]at hu hv;subst hu;subst hv;simp only[Sem.run_bind,NA,Result.andThen_ok]
  cases op<;>simp only[aak]at he<;>first|(cases he;done)|(cases he;exact⟨_,bY (.bool _),rfl,by simp[binOp,Op.stringOp,←beq_toListBytes,bY],eL _⟩)
 ·rename_i a b;simp only[aC]at hu hv;subst hu;subst hv;simp only[Sem.run_bind,Km,Result.andThen_ok];have key:(P.underlying t).map Fm=some true→P.underlying t=some .bool:=fun hm=>by
   obtain⟨d,hd,he⟩:=adJ.1 hm
   cases d<;>simp[Fm]at he
   exact hd
  split at he
  ·rename_i hm
   cases he
   exact⟨_,bY (.bool _),rfl,by simp[binOp,Op.equal,Op.maxDepth,run_equalIn_bool' (P:=P) w 9999 t a b (key hm),bY],eL _⟩
  ·rename_i hm
   cases he
   exact⟨_,bY (.bool _),rfl,by simp[binOp,Op.equal,Op.maxDepth,run_equalIn_bool' (P:=P) w 9999 t a b (key hm),bY],eL _⟩
  ·cases he
 ·rename_i a b
  split at he
  ·cases he
  ·rename_i k hk;simp only[aC]at hu hv;obtain⟨xs,rfl,hx⟩:=hu;obtain⟨ys,rfl,hy⟩:=hv
   split at he
   ·rename_i x y hdx hdy
    cases he
    obtain⟨h1,h2,_⟩:=Du t k hk Z w x y xs ys (dN hdx hx) (dN hdy hy);exact⟨_,bY (.bool _),rfl,by simp only[Sem.run_bind,h2,Result.andThen_ok,binOp,h1,Sem.run_pure,bY],eL _⟩
   ·rename_i x y hdx hdy
    cases he
    obtain⟨h1,h2,_⟩:=Du t k hk Z w x y xs ys (dN hdx hx) (dN hdy hy);exact⟨_,bY (.bool _),rfl,by simp only[Sem.run_bind,h2,Result.andThen_ok,binOp,h1,Sem.run_pure,bY],eL _⟩
   ·cases he
 ·simp only[aC]at hu hv;subst hu;subst hv;have key:(P.underlying t).map wO=some true→∃e,P.underlying t=some (.pointer e):=fun hm=>by
   obtain⟨d,hd,he⟩:=adJ.1 hm
   cases d<;>simp[wO]at he
   exact⟨_,hd⟩
  simp only[Sem.run_bind,Ea,Result.andThen_ok]
  split at he
  ·rename_i hm
   cases he
   obtain⟨et,ht⟩:=key hm;exact⟨_,bY (.bool _),rfl,by simp only[binOp,Sem.run_bind,kc ht,Result.andThen_ok,Sem.run_pure,bY,Option.isNone_none,Option.isNone_some,Bool.not_true,Bool.not_false],eL _⟩
  ·rename_i hm
   cases he
   obtain⟨et,ht⟩:=key hm;exact⟨_,bY (.bool _),rfl,by simp only[binOp,Sem.run_bind,kc ht,Result.andThen_ok,Sem.run_pure,bY,Option.isNone_none,Option.isNone_some,Bool.not_true,Bool.not_false],eL _⟩
  ·cases he
 ·simp only[aC]at hu hv;obtain⟨a,rfl,_⟩:=hu;subst hv;have key:(P.underlying t).map wO=some true→∃e,P.underlying t=some (.pointer e):=fun hm=>by
   obtain⟨d,hd,he⟩:=adJ.1 hm
   cases d<;>simp[wO]at he
   exact⟨_,hd⟩
  simp only[Sem.run_bind,Ea,Result.andThen_ok]
  split at he
  ·rename_i hm
   cases he
   obtain⟨et,ht⟩:=key hm;exact⟨_,bY (.bool _),rfl,by simp only[binOp,Sem.run_bind,kc ht,Result.andThen_ok,Sem.run_pure,bY,Option.isNone_none,Option.isNone_some,Bool.not_true,Bool.not_false],eL _⟩
  ·rename_i hm
   cases he
   obtain⟨et,ht⟩:=key hm;exact⟨_,bY (.bool _),rfl,by simp only[binOp,Sem.run_bind,kc ht,Result.andThen_ok,Sem.run_pure,bY,Option.isNone_none,Option.isNone_some,Bool.not_true,Bool.not_false],eL _⟩
  ·cases he
 ·cases he
theorem NC{a:AV}{v:Value}(hp:wL a=true)(hr:aC Z ψ h w a v):v.oneCell'=true:=by
 cases a with
 |no=>cases hp
 |agg cs=>cases hp
 |nu cs=>cases hp
 |bool b=>simp only[aC]at hr;subst hr;rfl
 |int k n=>simp only[aC]at hr;subst hr;rfl
 |str s=>simp only[aC]at hr;subst hr;rfl
 |lf=>simp only[aC]at hr;subst hr;rfl
 |gh=>simp only[aC]at hr;subst hr;rfl
 |ref id s i off=>simp only[aC]at hr;obtain⟨a,rfl,_⟩:=hr;rfl
 |fp k x off=>simp only[aC]at hr;obtain⟨a,us,rfl,_⟩:=hr;rfl
 |sl ex k xs=>simp only[aC,aL]at hr;obtain⟨⟨v',hv,A,c,rfl,_⟩,_⟩:=hr;cases hv;rfl
 |bK id=>simp only[aC]at hr;exact hr.1.2
 |mp kk vk es=>simp only[aC,aL]at hr;obtain⟨A,hv,_⟩:=hr;cases hv;rfl
 |fn f cap=>simp only[aC]at hr;obtain⟨vs,rfl,_⟩:=hr;rfl
theorem tW:∀{cs:List AV} {vs:List Value},cs.all wL=true→aq Z ψ h w cs vs→∀u∈vs,u.oneCell'=true
 |[],_,_,hr,u,hu=>by simp only[aq]at hr;subst hr;simp at hu
 |c::r,_,hp,hr,u,hu=>by
  simp only[List.all_cons,Bool.and_eq_true]at hp;simp only[aq]at hr;obtain⟨v,us,rfl,h1,h2⟩:=hr;rcases aa1.1 hu with rfl|hu
  ·exact NC hp.1 h1
  ·exact tW hp.2 h2 u hu
theorem Hv{a:AV}(hp:a.cells.all wL=true):a≠.no:=by rintro rfl;simp[AV.cells,wL]at hp
theorem rZ{id:Nat}:∀{cs:List AV},Ka id cs=true→AV.bK id∉cs
 |[],_=>by simp
 |c::r,hn=>by
  intro hm
  cases c with
  |bK i =>
   simp only[Ka,Bool.and_eq_true,Bool.not_eq_true',beq_eq_false_iff_ne]at hn;rcases aa1.1 hm with e|hm
   ·cases e;exact hn.1 rfl
   ·exact rZ hn.2 hm
  |_ =>
   simp only[Ka]at hn;rcases aa1.1 hm with e|hm
   ·cases e
   ·exact rZ hn hm
theorem yD{hh:Heap}(g:Good Z ψ hh.get w B0 O){t:TypeId}{a x:AV}{u v:Value}{e:bL}(hu:aC Z ψ hh.get w a u)(hv:aC Z ψ hh.get w x v)(he:rO P hh t a x some=some e) :
  ∃hw w' Z',e=.wr .no hw∧(Instr.storeAt t u v).run P w=.ok () w'∧Next Z ψ hh.get w B0 O N Z' ψ hw.get w':=by
 unfold rO at he
 split at he
 ·rename_i hc;obtain⟨hlen,UK,qY⟩:=hc;obtain⟨inf,UK⟩:=adf.1 UK;have PB:=hv.cells (Hv qY);have Fw:=tW qY PB;have rY:=PB.length;simp only[Array.length_toList]at rY
  split at he
  ·rename_i id s i off;simp only[aC]at hu;obtain⟨a,rfl,ha⟩:=hu
   split at he
   ·rename_i ty cs hg
    split at he
    ·rename_i hc;obtain⟨rfl,aau⟩:=hc
     cases he
     have Hi:=ha (by rw[hg];simp);obtain⟨w',h1,h2⟩:=AU (P:=P) (N:=N) g hg UK PB Fw (by omega) aau (a:=a) (by rw[Hi];simp);exact⟨_,w',Z,rfl,h1,by rw[mS];exact h2⟩
    ·cases he
   ·rename_i ty kk xs hg;obtain⟨y,hx,Ui⟩:=adH.1 he;clear he
    split at Ui
    ·rename_i hc;obtain⟨rfl,aau,qX⟩:=hc
     split at Ui
     ·rename_i z hz
      cases Ui
      have Hi:=ha (by rw[hg];simp);have bR:=rZ qX;have gd:=iD g x.cells;have hgd:(cO hh x.cells).get id=some (.own (.row ty kk) xs):=by rw[pn _ _ _ bR];exact hg
      have X6:=om (Z':=qE Z ψ hh.get x.cells) g (fun b hb=>.inl hb) (fun i b hm bw hb=>.inr ⟨i,hm,bw,hb⟩) PB;obtain⟨w',h1,h2⟩:=AX (P:=P) (N:=N) gd hgd UK hx (y:=z) (off:=off) (V:=v) (by omega) (by omega) (a:=a) Hi (fun us UL=>by
       have h3:=(iv (ψ:=ψ) (h:=hh.get) UL);have h4:=dN hz (X6.dZ off h3)
       rwa [rX _ _ _ (by rw[Array.length_toList,UL.len];omega),Array.length_toList]at h4) Fw
      refine⟨_,w',qE Z ψ hh.get x.cells,rfl,h1,?_⟩;rw[show((stored hh x.cells).2.set id (.own (.row ty kk) (xs.set i z))).get=eC (cO hh x.cells).get id (some (.own (.row ty kk) (xs.set i z))) from mS _ _ _];exact h2.drop (fun b hb=>.inl hb) (fun b hb=>hb.imp (fun h=>h) (fun⟨i,_,h5,h6⟩=>⟨i,h5,h6⟩)) (eu _ _)
     ·cases Ui
    ·cases Ui
   ·cases he
  ·cases he
 ·cases he
theorem Qd{a:AV}{v:Value}(ha:a.isAgg=true)(hr:aC Z ψ h w a v):∃vs,v=.agg vs:=by
 cases a<;>simp[AV.isAgg]at ha
 simp only[aC]at hr;obtain⟨vs,rfl,_⟩:=hr;exact⟨vs,rfl⟩
theorem Eb{a:AV}{v:Value}(ha:a.isAgg=false)(qX:a≠.no)(hr:aC Z ψ h w a v):v.cells=#[v]:=by
 cases a with
 |no=>exact absurd rfl qX
 |agg cs=>simp[AV.isAgg]at ha
 |bool b=>simp only[aC]at hr;subst hr;rfl
 |int k n=>simp only[aC]at hr;subst hr;rfl
 |str s=>simp only[aC]at hr;subst hr;rfl
 |lf=>simp only[aC]at hr;subst hr;rfl
 |gh=>simp only[aC]at hr;subst hr;rfl
 |ref id s i off=>simp only[aC]at hr;obtain⟨a,rfl,_⟩:=hr;rfl
 |fp k x off=>simp only[aC]at hr;obtain⟨a,us,rfl,_⟩:=hr;rfl
 |sl ex k xs=>simp only[aC,aL]at hr;obtain⟨⟨v',hv,A,c,rfl,_⟩,_⟩:=hr;cases hv;rfl
 |bK id=>simp only[aC]at hr;exact hr.1.1
 |mp kk vk es=>simp only[aC,aL]at hr;obtain⟨A,hv,_⟩:=hr;cases hv;rfl
 |fn f cap=>simp only[aC]at hr;obtain⟨vs,rfl,_⟩:=hr;rfl
 |nu cs=>simp only[aC]at hr;obtain⟨vs,rfl,_⟩:=hr;rfl
theorem tX{hh:Heap}{k:K}{a:AV}{x:k.T}{v:Value}(g:Good Z ψ hh.get w B0 O)(hz:∀b,Z b→Z' b)(hb:∀id b,AV.bK id∈a.cells→hh.get id≠none→ob (ψ id)=some b→Z' b) (hx:fY k hh a=some x) (hr:aC Z ψ hh.get w a v):aL Z' w k x v.cells.toList∧(k.isAgg=true→∃vs,v=.agg vs)∧(k.isAgg=false→v.cells=#[v]):=by
 unfold fY at hx
 split at hx
 ·rename_i WE;have qX:=D9 hx;have hv:=om g hz hb (hr.cells qX);exact⟨dN hx hv,fun h=>Qd (by rw[←WE];exact h) hr,fun h=>Eb (by rw[←WE];exact h) qX hr⟩
 ·cases hx
theorem r8{hh:Heap}{k:K}{a:AV}{x:k.T}{v:Value}(g:Good Z ψ hh.get w B0 O)(hz:∀b,Z b→Z' b)(hb:∀id b,AV.bK id∈a.cells→hh.get id≠none→ob (ψ id)=some b→Z' b) (hx:fY k hh a=some x) (hr:aC Z ψ hh.get w a v):aC Z' ψ' h' w (cq k x) v:=by obtain⟨h1,h2,h3⟩:=tX g hz hb hx hr;exact lQ h1 h2 h3
theorem aL.flat:∀{k:K} {x:k.T} {vs:List Value},k.flat=true→aL Z w k x vs→aL Z' w' k x vs
 |.int _,_,_,_,h=>h
 |.bool,_,_,_,h=>h
 |.str,_,_,_,h=>h
 |.sl k,_,_,hf,_=>by simp[K.flat]at hf
 |.pair a b,x,_,hf,h=>by simp only[K.flat,Bool.and_eq_true]at hf;simp only[aL]at h ⊢;obtain⟨us,ws,rfl,h1,h2⟩:=h;exact⟨us,ws,rfl,aL.flat hf.1 h1,aL.flat hf.2 h2⟩
 |.one k,x,_,hf,h=>by simp only[aL]at h ⊢;exact aL.flat (k:=k) (by simpa only[K.flat] using hf) h
theorem zX:∀(k:K) (x y:k.T),k.flat=true→(rN k x y=true↔x=y)
 |.int _,x,y,_=>by simp only[rN];exact beq_iff_eq (α:=Int)
 |.bool,x,y,_=>by simp only[rN];exact beq_iff_eq (α:=Bool)
 |.str,x,y,_=>by simp only[rN];exact MapKept.bytes_beq x y
 |.sl _,_,_,hf=>by simp[K.flat]at hf
 |.mp _ _,_,_,hf=>by simp[K.flat]at hf
 |.pair a b,x,y,hf=>by simp only[K.flat,Bool.and_eq_true]at hf;simp only[rN,Bool.and_eq_true];rw[zX a _ _ hf.1,zX b _ _ hf.2];exact⟨fun h=>Prod.ext h.1 h.2,fun h=>⟨congrArg Prod.fst h,congrArg Prod.snd h⟩⟩
 |.one k,x,y,hf=>by simp only[rN];exact zX k x y (by simpa only[K.flat] using hf)
theorem pq:∀{k:K} {x:k.T} {us vs:List Value},k.flat=true→aL Z w k x us→aL Z' w' k x vs→us=vs
 |.int _,_,_,_,_,h1,h2=>by simp only[aL]at h1 h2;rw[h1,h2]
 |.bool,_,_,_,_,h1,h2=>by simp only[aL]at h1 h2;rw[h1,h2]
 |.str,_,_,_,_,h1,h2=>by simp only[aL]at h1 h2;rw[h1,h2]
 |.sl _,_,_,_,hf,_,_=>by simp[K.flat]at hf
 |.mp _ _,_,_,_,hf,_,_=>by simp[K.flat]at hf
 |.pair a b,x,_,_,hf,h1,h2=>by simp only[K.flat,Bool.and_eq_true]at hf;simp only[aL]at h1 h2;obtain⟨a1,a2,rfl,h3,h4⟩:=h1;obtain⟨b1,b2,rfl,h5,h6⟩:=h2;rw[pq hf.1 h3 h5,pq hf.2 h4 h6]
 |.one k,x,_,_,hf,h1,h2=>by simp only[aL]at h1 h2;exact pq (k:=k) (by simpa only[K.flat] using hf) h1 h2
theorem r9:∀{k:K} {x:k.T} {us:List Value},k.flat=true→aL Z w k x us→∀u∈us,∀n,Instr.sameBits n u u=true
 |.int _,x,_,_,h1,u,hu,n=>by simp only[aL]at h1;subst h1;simp only[List.mem_singleton]at hu;subst hu;cases n<;>simp[Instr.sameBits]<;>exact beq_self_eq_true (α:=Int) x
 |.bool,x,_,_,h1,u,hu,n=>by simp only[aL]at h1;subst h1;simp only[List.mem_singleton]at hu;subst hu;cases n<;>simp[Instr.sameBits]<;>exact beq_self_eq_true (α:=Bool) x
 |.str,x,_,_,h1,u,hu,n=>by simp only[aL]at h1;subst h1;simp only[List.mem_singleton]at hu;subst hu;cases n<;>simp[Instr.sameBits]<;>exact(MapKept.bytes_beq x x).2 rfl
 |.sl _,_,_,hf,_,_,_,_=>by simp[K.flat]at hf
 |.mp _ _,_,_,hf,_,_,_,_=>by simp[K.flat]at hf
 |.pair a b,x,_,hf,h1,u,hu,n=>by
  simp only[K.flat,Bool.and_eq_true]at hf;simp only[aL]at h1;obtain⟨a1,a2,rfl,h3,h4⟩:=h1;rcases acw.1 hu with hu|hu
  ·exact r9 hf.1 h3 u hu n
  ·exact r9 hf.2 h4 u hu n
 |.one k,x,_,hf,h1,u,hu,n=>by simp only[aL]at h1;exact r9 (k:=k) (by simpa only[K.flat] using hf) h1 u hu n
def JZ(b:Bool)(v:Value):Prop:=(b=true→∃vs,v=.agg vs)∧(b=false→v.cells=#[v])
theorem ND{b:Bool}{u v:Value}(h1:JZ b u)(h2:JZ b v)(h:u.cells.toList=v.cells.toList):u=v:=by
 cases b with
 |true =>
  obtain⟨a,rfl⟩:=h1.1 rfl;obtain⟨c,rfl⟩:=h2.1 rfl;have:a=c:=by simpa[Value.cells] using h
  rw[this]
 |false =>rw[h1.2 rfl,h2.2 rfl]at h;simpa using h
theorem Qe{k:K}{x:k.T}{u:Value}(hf:k.flat=true)(hr:aL Z w k x u.cells.toList)(hs:JZ k.isAgg u):Instr.sameBits 10000 u u=true:=by
 have hb:=r9 hf hr
 cases hk:k.isAgg with
 |false=>exact hb u (by rw[hs.2 hk];simp) _
 |true =>obtain⟨a,rfl⟩:=hs.1 hk;show Instr.sameBits (9999+1) (.agg a) (.agg a)=true;simp only[Instr.sameBits,beq_self_eq_true,Bool.true_and,List.all_eq_true];intro p hp;obtain⟨i,hi,he⟩:=List.mem_iff_getElem.1 hp;simp only[List.getElem_zip]at he;subst he;exact hb _ (adg (l:=(Value.agg a).cells.toList) (by simpa[Value.cells] using hi)) _
def Keys(Z:Nat→Prop)(w:World)(k:K)(ys:List k.T)(l:List MapEntry):Prop:=ys.length=l.length∧∀(i:Nat) y e,ys[i]? = some y→l[i]? = some e→aL Z w k y e.key.cells.toList∧JZ k.isAgg e.key
theorem Keys.tail{k:K}{y:k.T}{ys:List k.T}{e:MapEntry}{l:List MapEntry}(h:Keys Z w k (y::ys) (e::l)):Keys Z w k ys l:=⟨by simpa using h.1,fun i a b h1 h2=>h.2 (i+1) a b (by simpa using h1) (by simpa using h2)⟩
theorem Hw{k:K}{x:k.T}{d:TypeDesc}{kv:Value}(hs:∀y Uj,aL Z w k y Uj.cells.toList→JZ k.isAgg Uj→Instr.sameNow d kv Uj=some (rN k x y)):∀(l:List MapEntry) (ys:List k.T) (i:Nat),Keys Z w k ys l → Instr.findNow d kv l i=some ((ys.findIdx? (rN k x)).map fun j=>(i+j,((l[j]?).map (·.val)).getD undef))
 |[],ys,i,h=>by have:ys=[]:=adn (by simpa using h.1);subst this;rfl
 |e::l,[],i,h=>by have:=h.1;simp at this
 |e::l,y::ys,i,h=>by
  obtain⟨h1,h2⟩:=h.2 0 y e rfl rfl;have ih:=Hw hs l ys (i+1) h.tail;simp only[Instr.findNow,hs y _ h1 h2,List.findIdx?_cons]
  cases rN k x y with
  |true=>simp
  |false =>
   simp only[ih,Bool.false_eq_true,if_false]
   cases ys.findIdx? (rN k x) with
   |none=>rfl
   |some j=>simp;omega
theorem yE{k:K}{x:k.T}{t:TypeId}{kv:Value}(hs:∀y Uj,aL Z w k y Uj.cells.toList→JZ k.isAgg Uj→(Op.equal t kv Uj).run P w=.ok (rN k x y) w):∀(l:List MapEntry) (ys:List k.T) (i:Nat),Keys Z w k ys l →(Instr.findAsking t kv l i).run P w=.ok ((ys.findIdx? (rN k x)).map fun j=>(i+j,((l[j]?).map (·.val)).getD undef)) w
 |[],ys,i,h=>by have:ys=[]:=adn (by simpa using h.1);subst this;rfl
 |e::l,[],i,h=>by have:=h.1;simp at this
 |e::l,y::ys,i,h=>by
  obtain⟨h1,h2⟩:=h.2 0 y e rfl rfl;have ih:=yE hs l ys (i+1) h.tail;simp only[Instr.findAsking,Sem.run_bind,hs y _ h1 h2,Result.andThen_ok,List.findIdx?_cons]
  cases rN k x y with
  |true=>simp
  |false =>
   simp only[ih,Bool.false_eq_true,if_false]
   cases ys.findIdx? (rN k x) with
   |none=>rfl
   |some j=>simp;omega
structure Qf(P:Program)(t:TypeId)(k:K):Prop where
 flat:k.flat=true
 check:∀(Z:Nat→Prop) (w:World) (x:k.T) (kv:Value) (e:Bool),aL Z w k x kv.cells.toList→JZ k.isAgg kv→(Instr.checkKey e 10000 t kv).run P w=.ok () w
 find:∀(Z:Nat→Prop) (w:World) (x:k.T) (kv:Value) (l:List MapEntry) (ys:List k.T),aL Z w k x kv.cells.toList→JZ k.isAgg kv→Keys Z w k ys l →
  (Instr.findKey t kv l).run P w=.ok ((ys.findIdx? (rN k x)).map fun j=>(j,((l[j]?).map (·.val)).getD undef)) w
theorem pw{t:TypeId}{k:K}{d:TypeDesc}(hf:k.flat=true)(hk:k.isAgg=false)(hd:P.underlying t=some d)(hc:∀(Z:Nat→Prop) (w:World) (x:k.T) (kv:Value),aL Z w k x [kv]→MapKept.IsKey d kv) (hs:∀(Z:Nat→Prop) (w:World) (x y:k.T) (u v:Value),aL Z w k x [u]→aL Z w k y [v]→Instr.sameNow d u v=some (rN k x y)):Qf P t k:=by
 have one:∀{Z:Nat→Prop} {w:World} {x:k.T} {kv:Value},aL Z w k x kv.cells.toList→JZ k.isAgg kv→aL Z w k x [kv]:=fun {Z w x kv} h1 h2=>by rw[h2.2 hk]at h1;exact h1
 refine⟨hf,fun Z w x kv e h1 h2=>MapKept.run_checkKey hd (hc Z w x kv (one h1 h2)) e 9999,fun Z w x kv l ys h1 h2 h3=>?_⟩;have:=Hw (Z:=Z) (w:=w) (x:=x) (d:=d) (kv:=kv) (fun y Uj h4 h5=>hs Z w x y kv Uj (one h1 h2) (one h4 h5)) l ys 0 h3;simp only[Nat.zero_add]at this;exact MapKept.run_findKey hd this
theorem Hy(d:TypeDesc)(a:Array Value)(v:Value):Instr.sameNow d (.agg a) v=none:=by cases d<;>cases v<;>rfl
theorem wU{Eqs:TypeId→Option K}(Du:∀t k,Eqs t=some k→lS P t k){t:TypeId}{k:K}(hk:L5 P Eqs t k=true):Qf P t k:=by
 unfold L5 at hk;rw[Bool.and_eq_true]at hk;obtain⟨hf,hk⟩:=hk
 split at hk
 ·rename_i ik ZI hd;simp only[decide_eq_true_eq]at hk;subst hk;exact pw hf rfl hd (fun Z w x kv hr=>by simp only[aL]at hr;cases hr;simp[MapKept.IsKey]) (fun Z w x y u v h1 h2=>by simp only[aL]at h1 h2;cases h1;cases h2;simp[Instr.sameNow,rN])
 ·rename_i hd;exact pw hf rfl hd (fun Z w x kv hr=>by simp only[aL]at hr;cases hr;simp[MapKept.IsKey]) (fun Z w x y u v h1 h2=>by simp only[aL]at h1 h2;cases h1;cases h2;simp[Instr.sameNow,rN])
 ·rename_i hd;exact pw hf rfl hd (fun Z w x kv hr=>by simp only[aL]at hr;cases hr;simp[MapKept.IsKey]) (fun Z w x y u v h1 h2=>by simp only[aL]at h1 h2;cases h1;cases h2;simp[Instr.sameNow,rN])
 ·simp only[Bool.and_eq_true,decide_eq_true_eq]at hk;obtain⟨WE,hk⟩:=hk;have fact:=Du _ _ hk;have agg:∀{b:Bool} {u:Value},b=true→JZ b u→∃a,u=.agg a:=fun hb h=>h.1 hb;refine⟨hf,fun Z w x kv e h1 h2=>?_,fun Z w x kv l ys h1 h2 h3=>?_⟩
  ·obtain⟨a,rfl⟩:=agg WE h2;exact(fact Z w x x a a h1 h1).2.2 e
  ·obtain⟨a,rfl⟩:=agg WE h2;have h4:=yE (P:=P) (t:=t) (Z:=Z) (w:=w) (x:=x) (kv:=.agg a) (fun y Uj h4 h5=>by obtain⟨b,rfl⟩:=agg WE h5;exact(fact Z w x y a b h1 h4).1) l ys 0 h3;simp only[Nat.zero_add]at h4
   cases l with
   |nil =>
    have:ys=[]:=adn (by simpa using h3.1);subst this
    cases hu:P.underlying t with
    |none =>have hc:=(fact Z w x x a a h1 h1).2.2 true;exfalso;unfold Instr.checkKey at hc;simp[underlying,hu]at hc
    |some d=>simp[Instr.findKey,run_underlying hu,Instr.findNow]
   |cons e l =>
    cases hu:P.underlying t with
    |none =>have hc:=(fact Z w x x a a h1 h1).2.2 true;exfalso;unfold Instr.checkKey at hc;simp[underlying,hu]at hc
    |some d=>simp only[Instr.findKey,Sem.run_bind,run_underlying hu,Result.andThen_ok,Instr.findNow,Hy];exact h4
section
variable {kk vk:K} {es:List (kk.T×vk.T)} {l:List MapEntry}
abbrev kl(Z:Nat→Prop)(w:World)(kk vk:K)(es:List (kk.T×vk.T))(l:List MapEntry):Prop:=Fq (aL Z w kk) (aL Z w vk) kk.isAgg vk.isAgg es l
theorem kl.keys(h:kl Z w kk vk es l):Keys Z w kk (es.map (·.1)) l :=⟨by rw[List.length_map];exact h.1,fun i y e h1 h2=>by rw[List.getElem?_map]at h1;obtain⟨x,h3,rfl⟩:=adJ.1 h1;exact(h.2 i x e h3 h2).1⟩
theorem A7{x:kk.T}:(es.map (·.1)).findIdx? (rN kk x)=tM kk x es:=by unfold tM;rw[List.findIdx?_map];rfl
theorem Fx{x:kk.T}{i:Nat}(h:tM kk x es=some i):i<es.length:=by unfold tM at h;exact(List.findIdx?_eq_some_iff_getElem.1 h).1
theorem UM{x:kk.T}{i:Nat}(h:tM kk x es=some i):∃e,es[i]? = some e∧rN kk x e.1=true:=by unfold tM at h;obtain⟨h1,h2,_⟩:=List.findIdx?_eq_some_iff_getElem.1 h;exact⟨_,aaV h1,h2⟩
def Qg(Z:Nat→Prop)(w:World)(kk vk:K)(x:kk.T×vk.T)(e:MapEntry):Prop:=(aL Z w kk x.1 e.key.cells.toList∧JZ kk.isAgg e.key)∧aL Z w vk x.2 e.val.cells.toList∧JZ vk.isAgg e.val
theorem kl.set(h:kl Z w kk vk es l)(i:Nat){x:kk.T×vk.T}{f:MapEntry→MapEntry}(ho:∀e,l[i]? = some e→Qg Z w kk vk x (f e)):kl Z w kk vk (es.set i x) (l.modify i f):=by
 refine⟨by simp[h.1],fun j y e h1 h2=>?_⟩;rw[List.getElem?_modify]at h2;obtain⟨e0,h3,h4⟩:=adJ.1 h2;by_cases zY:i=j
 ·subst zY;rw[if_pos rfl]at h4;have aF:i<es.length:=by rw[h.1];exact(aaW.1 h3).1
  rw[List.getElem?_set_self aF]at h1
  cases h1
  subst h4;exact ho e0 h3
 ·rw[if_neg zY]at h4;rw[List.getElem?_set_ne zY]at h1;subst h4;exact h.2 j y e0 h1 h3
theorem kl.push(h:kl Z w kk vk es l){x:kk.T×vk.T}{e:MapEntry}(ho:Qg Z w kk vk x e):kl Z w kk vk (es++[x]) (l++[e]):=by
 refine⟨by simp[h.1],fun j y e' h1 h2=>?_⟩;by_cases hj:j<es.length
 ·rw[List.getElem?_append_left hj]at h1;rw[List.getElem?_append_left (by rw[←h.1];exact hj)]at h2;exact h.2 j y e' h1 h2
 ·rw[List.getElem?_append_right (by omega)]at h1;rw[List.getElem?_append_right (by have:=h.1;omega),←h.1]at h2;by_cases h0:j-es.length=0
  ·rw[h0]at h1 h2;cases h1;cases h2;exact ho
  ·rw[List.getElem?_eq_none (by simp;omega)]at h1;cases h1
theorem kl.erase(h:kl Z w kk vk es l)(i:Nat):kl Z w kk vk (es.eraseIdx i) (l.eraseIdx i):=by
 refine⟨by rw[List.length_eraseIdx,List.length_eraseIdx,h.1],fun j y e h1 h2=>?_⟩;rw[List.getElem?_eraseIdx]at h1 h2
 split at h1
 ·rename_i hj;rw[if_pos hj]at h2;exact h.2 j y e h1 h2
 ·rename_i hj;rw[if_neg hj]at h2;exact h.2 (j+1) y e h1 h2
theorem kl.mono(h:kl Z w kk vk es l)(hz:∀b,Z b→Z' b)(hs:cz Z w w'):kl Z' w' kk vk es l:=Fq.imp (fun _ _ h=>h.mono hz hs) (fun _ _ h=>h.mono hz hs) h
end
theorem tY{Eqs:TypeId→Option K}{t:TypeId}{kk vk:K}(h:mapOf P Eqs t=some (kk,vk)):∃a b,P.underlying t=some (.map a b)∧L5 P Eqs a kk=true∧L4 P b vk=true:=by
 unfold mapOf at h
 split at h
 ·rename_i a b hu
  split at h
  ·split at h
   ·rename_i hc
    cases h
    rw[Bool.and_eq_true]at hc;exact⟨a,b,hu,hc.1,hc.2⟩
   ·cases h
  ·cases h
 ·cases h
theorem Kn{b:TypeId}{vk:K}(h:L4 P b vk=true):∃z,(zeroValue b).run P w=.ok z w∧aL Z w vk (nY vk) z.cells.toList∧JZ vk.isAgg z:=by
 unfold L4 at h
 split at h
 ·rename_i i hi
  split at h
  ·rename_i z hz;refine⟨z,uZ hi hz,?_⟩;unfold PX at h
   split at h
   ·simp only[decide_eq_true_eq]at h;obtain⟨rfl,rfl⟩:=h;exact⟨by simp only[aL];rfl,fun h=>(by cases h),fun _=>rfl⟩
   ·rename_i b;simp only[Bool.not_eq_true']at h;subst h;exact⟨by simp only[aL];rfl,fun h=>(by cases h),fun _=>rfl⟩
   ·simp only[decide_eq_true_eq]at h;subst h;exact⟨by simp only[aL];rfl,fun h=>(by cases h),fun _=>rfl⟩
   ·simp only[decide_eq_true_eq]at h;obtain⟨rfl,rfl,rfl⟩:=h;exact⟨by simp only[aL];exact⟨_,rfl,none,0,rfl,ada _,fun _=>rfl,fun i x hx=>by simp[nY]at hx⟩,fun h=>(by cases h),fun _=>rfl⟩
   ·cases h
  ·cases h
 ·cases h
theorem L9{hh:Heap}(g:Good Z ψ h w B0 O)(bE:∀id o,hh.get id=some o→h id=some o){m:AV}{u:Value}{kk vk:K}{es:List (kk.T×vk.T)}(hm:aC Z ψ h w m u)(hv:cQ hh m=.mp kk vk es) :
  ∃A,u=.map A∧((A=none∧es=[])∨∃r b6 clock,A=some r∧w.heap[r]? = some (.map b6 clock)∧kl Z w kk vk es b6.toList):=by
 cases m with
 |mp L3 UA Qh =>
  simp only[cQ]at hv
  cases hv
  simp only[aC,aL]at hm;obtain⟨A,h1,h2⟩:=hm
  cases h1
  refine⟨A,rfl,h2.imp (fun h=>h) fun⟨m,b6,clock,h3,_,h4,h5⟩=>⟨m,b6,clock,h3,h4,h5⟩⟩
 |bK id =>
  simp only[cQ]at hv
  split at hv
  ·cases hv
  ·rename_i L3 UA Qh hg
   cases hv
   have A4:=bE _ _ hg;simp only[aC]at hm;have:=hm.2 (by rw[A4];simp);subst this;obtain⟨r,b6,clock,h1,h2,h3,_⟩:=g.row id (.map kk vk) es A4;exact⟨some r,h1,.inr ⟨r,b6,clock,rfl,h2,h3⟩⟩
  ·cases hv
 |_=>simp only[cQ]at hv;cases hv
theorem Ko{hh:Heap}(g:Good Z ψ h w B0 O)(bE:∀id o,hh.get id=some o→h id=some o){k:K}(hf:k.flat=true){a:AV}{x:k.T}{v:Value}(hx:fY k hh a=some x)(hr:aC Z ψ h w a v):aL Z w k x v.cells.toList∧JZ k.isAgg v:=by obtain⟨h1,h2,h3⟩:=tX (Z':=fun b=>b<w.heap.size) (g.sub bE) (fun b hb=>g.jP b hb) (fun id b _ h1 h2=>(g.sub bE).bT ⟨id,h1,h2⟩) hx (hr.less (fun _ h=>h) (cz.refl _ _) (fun id bR=>by obtain⟨o,ho⟩:=acx.1 bR;exact⟨by rw[bE id o ho];simp,rfl⟩));exact⟨h1.flat hf,h2,h3⟩
theorem Fy{Eqs:TypeId→Option K}(Du:∀t k,Eqs t=some k→lS P t k){hh:Heap}(g:Good Z ψ h w B0 O)(bE:∀id o,hh.get id=some o→h id=some o){t:TypeId}{m i:AV}{u v:Value}{ok:Bool}{e:bL} (hm:aC Z ψ h w m u) (hi:aC Z ψ h w i v) (he:oa P Eqs hh t m i ok some=some e):∃y V,e=.val y∧(Instr.lookup t u v ok).run P w=.ok V w∧aC Z ψ h w y V:=by
 unfold oa at he
 split at he
 ·rename_i ka va kk vk es ZK hv
  split at he
  ·rename_i hc;obtain⟨rfl,rfl⟩:=hc
   split at he
   ·rename_i x hx
    cases he
    obtain⟨a,b,hu,hk,hz⟩:=tY ZK;have K:=wU Du hk;obtain⟨Kp,o5⟩:=Ko g bE K.flat hx hi;obtain⟨z,yC,Dt,JX⟩:=Kn (Z:=Z) (w:=w) hz;have fin:∀(l:List MapEntry),kl Z w kk vk es l→∃V,((∃j,(Instr.findKey a v l).run P w=.ok (some (j,V)) w∧(jk kk x es).isSome=true)∨((Instr.findKey a v l).run P w=.ok none w∧(zeroValue b).run P w=.ok V w∧(jk kk x es).isSome=false)) ∧ aL Z w vk ((jk kk x es).getD (nY vk)) V.cells.toList∧JZ vk.isAgg V:=by
     intro l hE;have hf:=K.find Z w x v l (es.map (·.1)) Kp o5 hE.keys;rw[A7]at hf
     cases Ec:tM kk x es with
     |none =>rw[Ec]at hf;exact⟨z,.inr ⟨hf,yC,by simp[jk,Ec]⟩,by simpa[jk,Ec] using Dt,JX⟩
     |some j =>
      rw[Ec]at hf;have hj:=Fx Ec;have h1:es[j]? = some es[j]:=aaV hj;have J0:j<l.length:=by rw[←hE.1];exact hj
      have h2:l[j]? = some l[j]:=aaV J0;obtain⟨_,h3,h4⟩:=hE.2 j _ _ h1 h2;refine⟨l[j].val,.inl ⟨j,?_,by simp[jk,Ec,h1]⟩,by simpa[jk,Ec,h1] using h3,h4⟩;rw[hf];simp only[Option.map_some,h2,Option.getD_some]
    have out:∀V:Value,aL Z w vk ((jk kk x es).getD (nY vk)) V.cells.toList→JZ vk.isAgg V→aC Z ψ h w (cond ok (AV.nu [cq vk ((jk kk x es).getD (nY vk)),.bool (jk kk x es).isSome]) (cq vk ((jk kk x es).getD (nY vk)))) (if ok then .tuple #[V,.bool (jk kk x es).isSome] else V):=by
     intro V h1 h2;have h3:aC Z ψ h w (cq vk ((jk kk x es).getD (nY vk))) V:=lQ h1 h2.1 h2.2
     cases ok with
     |false=>exact h3
     |true=>simp only[cond_true,if_true,aC,aq];exact⟨_,rfl,V,[.bool (jk kk x es).isSome],by simp,h3,_,[],rfl,rfl,rfl⟩
    obtain⟨A,rfl,hA⟩:=L9 g bE hm hv;rcases hA with⟨rfl,rfl⟩|⟨r,b6,clock,rfl,h3,h4⟩
    ·obtain⟨V,h5,h6,h7⟩:=fin [] ⟨rfl,fun i x e h=>by simp at h⟩;refine⟨_,_,rfl,?_,out V h6 h7⟩;simp only[Instr.lookup,Sem.run_bind,run_underlying hu,Result.andThen_ok,Sem.run_pure,K.check Z w x v _ Kp o5];rcases h5 with⟨j,h8,h9⟩|⟨h8,h9,nG⟩
     ·simp[h8,h9]
     ·simp[h8,h9,nG]
    ·obtain⟨V,h5,h6,h7⟩:=fin b6.toList h4;refine⟨_,_,rfl,?_,out V h6 h7⟩;simp only[Instr.lookup,Sem.run_bind,run_underlying hu,Result.andThen_ok,Sem.run_pure,MapKept.run_getObj_map h3,K.check Z w x v _ Kp o5];rcases h5 with⟨j,h8,h9⟩|⟨h8,h9,nG⟩
     ·simp[h8,h9]
     ·simp[h8,h9,nG]
   ·cases he
  ·cases he
 ·cases he
end Go.Vs
namespace Go.Vs
variable {P:Program} {Z Z':Nat→Prop} {ψ ψ':Nat→Value} {h h':Hp} {w w':World} {B0:Nat} {O:Nat→Prop} {N:Nat→Prop}
theorem wV{r b:Nat}(o:Obj)(bw:r≠b):(w.heap.setIfInBounds r o)[b]? = w.heap[b]? := by rw[Array.getElem?_setIfInBounds];simp[bw]
theorem dh.afB{r:Nat}(ho:Own ψ h r)(o:Obj):dh ψ h w { w with heap:=w.heap.setIfInBounds r o } :=⟨rfl,rfl,rfl,by simp,fun b _ hb=>wV o (fun e=>hb (e▸ho))⟩
theorem sd{hp:Hp}(g:Good Z ψ hp w B0 O){id:Nat}(bR:hp id≠none){r:Nat}(hr:ob (ψ id)=some r)(aF:r<w.heap.size)(o:Obj){ok:OK}{x:ok.T} (hx:∀w':World,w'.heap=w.heap.setIfInBounds r o→cz Z w w'→jI Z w' ok (ψ id) x) :
  Next Z ψ hp w B0 O N Z ψ (eC hp id (some (.own ok x))) { w with heap:=w.heap.setIfInBounds r o }:=by
 have ho:Own ψ hp r:=⟨id,bR,hr⟩;have kk:=dh.afB (w:=w) ho o;refine g.write id bR kk (fun b hb _=>wV o (fun e=>hb (by rw[hr,e]))) _ (fun _ _ he=>by cases he) (fun ZJ x' he=>?_)
 cases he
 exact hx _ rfl (kk.same g)
theorem yF{l:List MapEntry}{i:Nat}{f:MapEntry→MapEntry}(hf:∀e,(f e).born=e.born):(l.modify i f).map (·.born)=l.map (·.born):=by
 apply aeO;intro j;simp only[List.getElem?_map,List.getElem?_modify]
 cases l[j]? with
 |none=>rfl
 |some e=>simp only[Option.map_some];split<;>simp[hf]
theorem wW{l:List MapEntry}:l.Pairwise (fun a b=>a.born≠b.born)↔(l.map (·.born)).Pairwise (·≠·):=by rw[List.pairwise_map]
theorem u6{Eqs:TypeId→Option K}(Du:∀t k,Eqs t=some k→lS P t k){hh:Heap}(g:Good Z ψ hh.get w B0 O){t:TypeId}{m i v:AV}{u1 u2 u3:Value}{e:bL} (hm:aC Z ψ hh.get w m u1) (hi:aC Z ψ hh.get w i u2) (hv:aC Z ψ hh.get w v u3) (he:iO P Eqs hh t m i v some=some e) :
  ∃hw w' Z',e=.wr (.nu []) hw∧(Instr.mapUpdate t u1 u2 u3).run P w=.ok () w'∧Next Z ψ hh.get w B0 O N Z' ψ hw.get w':=by
 unfold iO at he
 split at he
 ·rename_i ka va id ZK
  split at he
  ·rename_i kk vk es hg
   split at he
   ·rename_i hc;obtain⟨rfl,rfl⟩:=hc
    split at he
    ·rename_i x y hx hy qX
     cases he
     obtain⟨a,b,hu,hk,_⟩:=tY ZK;have K:=wU Du hk;obtain⟨Kp,o5⟩:=Ko g (fun _ _ h=>h) K.flat hx hi;simp only[aC]at hm;have X7:=hm.2 (by rw[hg];simp);obtain⟨r,b6,clock,h1,h2,h3,h4,h5⟩:=g.row id (.map kk vk) es hg;rw[h1]at X7;subst X7;have bR:AV.bK id∉v.cells:=fun hc=>by have:=adG.1 qX _ hc;simp at this
     have gd:=iD g v.cells;have hgd:(cO hh v.cells).get id=some (.own (.map kk vk) es):=by rw[pn _ _ _ bR];exact hg
     obtain⟨ti,yw,hv3⟩:=tX (Z':=qE Z ψ hh.get v.cells) g (fun b hb=>.inl hb) (fun id b h1 h2 h3=>.inr ⟨id,h1,h2,h3⟩) hy hv;have aav:aL (qE Z ψ hh.get v.cells) w kk x u2.cells.toList:=Kp.flat K.flat;have aF:=(aa3.1 h2).1;have mH:ob (ψ id)=some r:=by rw[h1];rfl
     have hE:kl (qE Z ψ hh.get v.cells) w kk vk es b6.toList:=kl.mono h3 (fun b hb=>.inl hb) (cz.refl _ _);have hf:=K.find Z w x u2 b6.toList (es.map (·.1)) Kp o5 (kl.keys h3);rw[A7]at hf;have fin:∀(o:Obj) (Qh:List (kk.T×vk.T)) (mT:Array MapEntry) (A8:Nat),o=.map mT A8→kl (qE Z ψ hh.get v.cells) w kk vk Qh mT.toList→(mT.toList.map (·.born)).Pairwise (·≠·)→(∀e∈mT.toList,e.born<A8) → Next Z ψ hh.get w B0 O N (qE Z ψ hh.get v.cells) ψ ((cO hh v.cells).set id (.own (.map kk vk) Qh)).get { w with heap:=w.heap.setIfInBounds r o }:=by rintro o Qh mT A8 rfl h6 h7 h8;rw[mS];have n:=sd (N:=N) gd (by rw[hgd];simp) mH aF (.map mT A8) (ok:=.map kk vk) (x:=Qh) (fun w' Kq sm=>⟨r,mT,A8,h1,by rw[Kq];simp[aF],kl.mono h6 (fun _ h=>h) sm,wW.2 h7,h8⟩);exact n.drop (fun b hb=>.inl hb) (fun b hb=>hb.imp (fun h=>h) (fun⟨i,_,h5,h6⟩=>⟨i,h5,h6⟩)) (eu _ _)
     cases Ec:tM kk x es with
     |none =>
      rw[Ec]at hf;refine⟨_,{ w with heap:=w.heap.setIfInBounds r (.map (b6.push { key:=u2,val:=u3,born:=clock }) (clock+1)) },qE Z ψ hh.get v.cells,rfl,?_,?_⟩
      rotate_left
      ·rw[show mK kk x y es=es++[(x,y)] by simp[mK,Ec]];refine fin _ _ (b6.push { key:=u2,val:=u3,born:=clock }) (clock+1) rfl ?_ ?_ ?_
       ·rw[Array.toList_push];exact hE.push ⟨⟨aav,o5⟩,ti,yw,hv3⟩
       ·rw[Array.toList_push,List.map_append,List.pairwise_append];refine⟨wW.1 h4,by simp,fun a ha b hb=>?_⟩;simp only[List.map_cons,List.map_nil,List.mem_singleton]at hb;obtain⟨e,he,rfl⟩:=adD.1 ha;have:=h5 e he;omega
       ·intro e he;rw[Array.toList_push]at he;rcases acw.1 he with he|he
        ·have:=h5 e he;omega
        ·simp only[List.mem_singleton]at he;subst he;exact Nat.lt_succ_self _
      ·simp only[Instr.mapUpdate,Sem.run_bind,run_underlying hu,Result.andThen_ok,MapKept.run_getObj_map h2,K.check Z w x u2 _ Kp o5,hf,Option.map_none,MapKept.run_setObj_map _ h2]
     |some j =>
      rw[Ec]at hf;have hj:=Fx Ec;obtain⟨e0,WG,heq⟩:=UM Ec;have J0:j<b6.toList.length:=by rw[←h3.1];exact hj
      have hl:b6.toList[j]? = some b6.toList[j]:=aaV J0;have PE:b6[j]? = some b6.toList[j]:=by rw[←hl];simp
      obtain⟨⟨aaw,afC⟩,_⟩:=h3.2 j _ _ WG hl;have s8:b6.toList[j].key=u2:=by refine ND afC o5 ?_;rw[←(zX kk x e0.1 K.flat).1 heq]at aaw;exact pq K.flat aaw Kp
      have WH:(Instr.keyThatStays u2 u2).run P w=.ok u2 w:=by simp[Instr.keyThatStays,Qe K.flat Kp o5]
      refine⟨_,{ w with heap:=w.heap.setIfInBounds r (.map (b6.modify j fun e=>{ e with key:=u2,val:=u3 }) clock) },qE Z ψ hh.get v.cells,rfl,?_,?_⟩
      rotate_left
      ·rw[show mK kk x y es=es.set j (x,y) by simp[mK,Ec]];refine fin _ _ (b6.modify j fun e=>{ e with key:=u2,val:=u3 }) clock rfl ?_ ?_ ?_
       ·rw[Array.toList_modify];exact hE.set j (fun e he=>⟨⟨aav,o5⟩,ti,yw,hv3⟩)
       ·rw[Array.toList_modify,yF (f:=fun e:MapEntry=>{ e with key:=u2,val:=u3 }) (fun _=>rfl)];exact wW.1 h4
       ·intro e he;have:e.born∈(b6.modify j fun e=>{ e with key:=u2,val:=u3 }).toList.map (·.born):=adD.2 ⟨e,he,rfl⟩;rw[Array.toList_modify,yF (f:=fun e:MapEntry=>{ e with key:=u2,val:=u3 }) (fun _=>rfl)]at this;obtain⟨e',X0,h6⟩:=adD.1 this;rw[←h6];exact h5 e' X0
      ·simp only[Instr.mapUpdate,Sem.run_bind,run_underlying hu,Result.andThen_ok,MapKept.run_getObj_map h2,K.check Z w x u2 _ Kp o5,hf,Option.map_some,PE,Option.getD_some,s8,WH,MapKept.run_setObj_map _ h2]
    ·cases he
   ·cases he
  ·cases he
 ·cases he
theorem u7{Eqs:TypeId→Option K}(Du:∀t k,Eqs t=some k→lS P t k){hh:Heap}(g:Good Z ψ hh.get w B0 O){t ty:TypeId}{ts:List TypeId}{m i:AV}{u1 u2:Value}{e:bL} (hm:aC Z ψ hh.get w m u1) (hi:aC Z ψ hh.get w i u2) (he:oc P Eqs hh t m i some=some e) :
  ∃hw w',e=.wr (.nu []) hw∧(Builtin.delete_ (t::ts).toArray ty #[u1,u2]).run P w=.ok (.tuple #[]) w'∧Next Z ψ hh.get w B0 O N Z ψ hw.get w':=by
 unfold oc at he
 split at he
 ·rename_i ka va id ZK
  split at he
  ·rename_i kk vk es hg
   split at he
   ·rename_i hc;obtain⟨rfl,rfl⟩:=hc
    split at he
    ·rename_i x hx
     cases he
     obtain⟨a,b,hu,hk,_⟩:=tY ZK;have K:=wU Du hk;obtain⟨Kp,o5⟩:=Ko g (fun _ _ h=>h) K.flat hx hi;simp only[aC]at hm;have X7:=hm.2 (by rw[hg];simp);obtain⟨r,b6,clock,h1,h2,h3,h4,h5⟩:=g.row id (.map kk vk) es hg;rw[h1]at X7;subst X7;have aF:=(aa3.1 h2).1;have mH:ob (ψ id)=some r:=by rw[h1];rfl
     have hf:=K.find Z w x u2 b6.toList (es.map (·.1)) Kp o5 (kl.keys h3);rw[A7]at hf;have fin:∀(o:Obj) (Qh:List (kk.T×vk.T)) (mT:Array MapEntry),o=.map mT clock→kl Z w kk vk Qh mT.toList→mT.toList.Sublist b6.toList → Next Z ψ hh.get w B0 O N Z ψ (hh.set id (.own (.map kk vk) Qh)).get { w with heap:=w.heap.setIfInBounds r o }:=by rintro o Qh mT rfl h6 h7;rw[mS];exact sd (N:=N) g (by rw[hg];simp) mH aF (.map mT clock) (ok:=.map kk vk) (x:=Qh) (fun w' Kq sm=>⟨r,mT,clock,h1,by rw[Kq];simp[aF],kl.mono h6 (fun _ h=>h) sm,h4.sublist h7,fun e he=>h5 e (h7.subset he)⟩)
     cases Ec:tM kk x es with
     |none =>
      rw[Ec]at hf;refine⟨_,{ w with heap:=w.heap.setIfInBounds r (.map b6 clock) },rfl,?_,?_⟩
      rotate_left
      ·rw[show PW kk x es=es by simp[PW,Ec]];exact fin _ _ b6 rfl h3 (List.Sublist.refl _)
      ·simp[Builtin.delete_,run_underlying hu,MapKept.run_getObj_map h2,K.check Z w x u2 _ Kp o5,hf,MapKept.run_setObj_map _ h2]
     |some j =>
      rw[Ec]at hf;have hj:=Fx Ec;refine⟨_,{ w with heap:=w.heap.setIfInBounds r (.map (b6.eraseIdxIfInBounds j) clock) },rfl,?_,?_⟩
      rotate_left
      ·rw[show PW kk x es=es.eraseIdx j by simp[PW,Ec]];refine fin _ _ (b6.eraseIdxIfInBounds j) rfl ?_ ?_
       ·rw[Array.toList_eraseIdxIfInBounds];exact kl.erase h3 j
       ·rw[Array.toList_eraseIdxIfInBounds];exact List.eraseIdx_sublist _ _
      ·simp[Builtin.delete_,run_underlying hu,MapKept.run_getObj_map h2,K.check Z w x u2 _ Kp o5,hf,MapKept.run_setObj_map _ h2]
    ·cases he
   ·cases he
  ·cases he
 ·cases he
theorem Kr{hh:Heap}(g:Good Z ψ h w B0 O)(bE:∀id o,hh.get id=some o→h id=some o){t ty:TypeId}{x:AV}{u:Value}{e:bL}(ht:Kb P t=true)(hx:aC Z ψ h w x u)(he:wN hh x some=some e) :
  ∃n:Nat,e=.val (.int .i64 (n:Int))∧(Builtin.len_ #[t] ty #[u]).run P w=.ok (.int .i64 (n:Int)) w:=by
 unfold wN at he
 split at he
 ·rename_i kk vk es hv
  cases he
  have hu:∃a b,P.underlying t=some (.map a b):=by
   unfold Kb at ht
   split at ht
   ·exact⟨_,_,by assumption⟩
   ·cases ht
  obtain⟨a,b,hu⟩:=hu;obtain⟨A,rfl,hA⟩:=L9 g bE hx hv;rcases hA with⟨rfl,rfl⟩|⟨r,b6,clock,rfl,h3,h4⟩
  ·exact⟨0,rfl,by simp[Builtin.len_,run_underlying hu,goInt]⟩
  ·refine⟨es.length,rfl,?_⟩;have:b6.size=es.length:=by rw[h4.1];simp
   simp[Builtin.len_,run_underlying hu,MapKept.run_getObj_map h3,goInt,this]
 ·cases he
theorem A9(g:Good Z ψ h w B0 O)(hB:B0≤w.heap.size)(id:Nat)(hN:N id){ok:OK}{x:ok.T}{v:Value}(o:Obj)(ho:jI Z (w.alloc o) ok v x)(hb:ob v=some w.heap.size) (bz:∀i ty cs,h i=some (.box ty cs)→aG (fun i=>i≠id) cs):Next Z ψ h w B0 O N Z (eC ψ id v) (eC h id (some (.own ok x))) (w.alloc o) :=Hk g hB id hN (dh.alloc _ _ _ _) (fun b hb=>heap_alloc_old w _ (g.bT hb)) ho (fun b zZ=>by rw[hb]at zZ;cases zZ;exact ada _) bz
theorem DE{Eqs:TypeId→Option K}(g:Good Z ψ h w B0 O)(hB:B0≤w.heap.size){id:Nat}(hN:N id){t:TypeId}{e:bL}(bz:∀i ty cs,h i=some (.box ty cs)→aG (fun i=>i≠id) cs)(he:ly P Eqs id t some=some e) :
  ∃v w' ψ',(Instr.makeMap t none).run P w=.ok v w'∧Next Z ψ h w B0 O N Z ψ' (e.hp h) w'∧aC Z ψ' (e.hp h) w' e.v v:=by
 unfold ly at he
 split at he
 ·rename_i kk vk ZK
  cases he
  refine⟨.map (some w.heap.size),w.alloc (.map #[] 0),eC ψ id (.map (some w.heap.size)),rfl,?_,?_⟩
  ·simp only[bL.hp];rw[iE];exact A9 g hB id hN (ok:=.map kk vk) (x:=[]) _ ⟨w.heap.size,#[],0,rfl,heap_alloc_new _ _,⟨rfl,fun i x e h=>by simp at h⟩,by simp,by simp⟩ rfl bz
  ·simp only[bL.v,bL.hp,aC];exact⟨⟨rfl,rfl⟩,fun _=>(bA _ _ _).symm⟩
 ·cases he
theorem Fz(g:Good Z ψ h w B0 O)(hB:B0≤w.heap.size){id:Nat}(hN:N id){t:TypeId}{x:AV}{u:Value}{e:bL}(hx:aC Z ψ h w x u)(bz:∀i ty cs,h i=some (.box ty cs)→aG (fun i=>i≠id) cs)(he:od P id t x some=some e) :
  ∃v w' ψ',(Instr.range t u).run P w=.ok v w'∧Next Z ψ h w B0 O N Z ψ' (e.hp h) w'∧aC Z ψ' (e.hp h) w' e.v v:=by
 unfold od at he
 split at he
 ·rename_i sv hu
  cases he
  simp only[aC]at hx;subst hx;refine⟨.pointer (some ⟨w.heap.size,0,none⟩),w.alloc (.stringIter sv 0),eC ψ id (.pointer (some ⟨w.heap.size,0,none⟩)),?_,?_,?_⟩
  ·simp only[Instr.range,Sem.run_bind,run_underlying hu,Result.andThen_ok,Sem.run_pure];rfl
  ·simp only[bL.hp];rw[iE];exact A9 g hB id hN (ok:=.nX) (x:=(sv,0)) _ ⟨w.heap.size,rfl,heap_alloc_new _ _⟩ rfl bz
  ·simp only[bL.v,bL.hp,aC];exact⟨⟨rfl,rfl⟩,fun _=>(bA _ _ _).symm⟩
 ·cases he
theorem gq{r:Nat}{o:Obj}(hb:w.heap[r]? = some o)(hc:∀c e f,o≠.cells c e f):(getObj r).run P w=.ok o w:=by cases o<;>first|(exact absurd rfl (hc _ _ _))|simp[getObj,Sem.run,hb]
theorem Ba{r:Nat}{o o':Obj}(hb:w.heap[r]? = some o)(hc:∀c e f,o≠.cells c e f):(setObj r o').run P w=.ok () { w with heap:=w.heap.setIfInBounds r o' }:=by cases o<;>first|(exact absurd rfl (hc _ _ _))|simp[setObj,Sem.run,hb]
theorem Hz{hh:Heap}(g:Good Z ψ h w B0 O)(bE:∀id o,hh.get id=some o→h id=some o){ty:TypeId}{x:AV}{u:Value}{e:bL}(hx:aC Z ψ h w x u)(nT:∀v hw,e=.wr v hw→hh.get=h)(he:rP hh x some=some e) :
  ∃v w',(Instr.next u true ty).run P w=.ok v w'∧Next Z ψ h w B0 O N Z ψ (e.hp h) w'∧aC Z ψ (e.hp h) w' e.v v:=by
 unfold rP at he
 split at he
 ·rename_i id
  split at he
  ·rename_i x hg;have A4:=bE _ _ hg;simp only[aC]at hx;have hu:=hx.2 (by rw[A4];simp);obtain⟨r,h1,h2⟩:=g.row id .nX x A4;rw[h1]at hu;subst hu
   cases hc:decide (x.2<x.1.size) with
   |true =>
    rw[hc]at he;cases he;have heq:=nT _ _ rfl;simp only[decide_eq_true_eq]at hc;have aF:=(aa3.1 h2).1;refine⟨.tuple #[.bool true,goInt x.2,.int .i32 (Utf8.decode x.1 x.2).1],{ w with heap:=w.heap.setIfInBounds r (.stringIter x.1 (x.2+(Utf8.decode x.1 x.2).2)) },?_,?_,?_⟩
    ·simp only[Instr.next,Sem.run_bind,gq h2 (by simp),Result.andThen_ok,hc,if_true,Ba h2 (by simp),Sem.run_pure]
    ·simp only[bL.hp];rw[mS,heq];exact sd (N:=N) g (by rw[A4];simp) (by rw[h1];rfl) aF _ (ok:=.nX) (x:=(x.1,x.2+AH x.1 x.2)) (fun w' Kq _=>⟨r,h1,by rw[Kq];simp[aF,AH]⟩)
    ·simp only[bL.v,aC,aq];exact⟨_,rfl,_,_,rfl,rfl,_,_,rfl,rfl,_,_,rfl,rfl,rfl⟩
   |false =>
    rw[hc]at he;cases he;simp only[decide_eq_false_iff_not]at hc;refine⟨.tuple #[.bool false],w,?_,Next.refl g,?_⟩
    ·simp only[Instr.next,Sem.run_bind,gq h2 (by simp),Result.andThen_ok,hc,if_false,Sem.run_pure]
    ·simp only[bL.v,aC,aq];exact⟨_,rfl,_,_,rfl,rfl,rfl⟩
  ·cases he
 ·cases he
theorem find_born{l:List MapEntry}(h:l.Pairwise (fun a b=>a.born≠b.born)){e:MapEntry}(he:e∈l):l.find? (fun x=>x.born==e.born)=some e:=by
 induction l with
 |nil=>cases he
 |cons a r ih =>
  obtain⟨h1,h2⟩:=List.pairwise_cons.1 h;rw[List.find?_cons];rcases aa1.1 he with rfl|he
  ·simp
  ·have:(a.born==e.born)=false:=by simpa using h1 e he
   rw[this];exact ih h2 he
theorem HA{hh:Heap}(g:Good Z ψ h w B0 O)(bE:∀id o,hh.get id=some o→h id=some o){x:AV}{u:Value}{e:bL}(hx:aC Z ψ h w x u)(he:rQ hh x some=some e) :
  ∃y v,e=.val y∧(Instr.entry u).run P w=.ok v w∧aC Z ψ h w y v:=by
 unfold rQ at he
 split at he
 ·rename_i id
  split at he
  ·rename_i kk vk c rest hg
   cases he
   have A4:=bE _ _ hg;simp only[aC]at hx;have hu:=hx.2 (by rw[A4];simp);obtain⟨r,m,since,seen,b6,clock,h1,h2,h3,h4,h5,h6,h7,h8,h9⟩:=g.row id (.iter kk vk) (some c,rest) A4;rw[h1]at hu;subst hu;obtain⟨en,nG,zw,J1⟩:=h9;obtain⟨⟨k1,k2,k3⟩,v1,v2,v3⟩:=J1.2 0 c en rfl rfl;refine⟨_,.tuple #[en.key,en.val],rfl,?_,?_⟩
   ·have hf:b6.find? (·.born==en.born)=some en:=by
     have:=find_born h5 nG
     rwa [←Array.find?_toList]
    simp only[Instr.entry,Sem.run_bind,gq h2 (by simp),Result.andThen_ok,zw,Sem.run_pure,gq h4 (by simp),hf];simp
   ·simp only[aC,aq];exact⟨_,rfl,_,_,rfl,lQ k1 k2 k3,_,_,rfl,lQ v1 v2 v3,rfl⟩
  ·cases he
 ·cases he
mutual
theorem aM.imp{p q:Nat→Prop}(Bb:∀i,p i→q i):∀{a:AV},aM p a→aM q a
 |.no,_=>by simp only[aM]
 |.bool b,_=>by simp only[aM]
 |.int k n,_=>by simp only[aM]
 |.str s,_=>by simp only[aM]
 |.lf,_=>by simp only[aM]
 |.gh,_=>by simp only[aM]
 |.ref id s i off,h=>by simp only[aM]at h ⊢;exact Bb _ h
 |.fp k x off,_=>by simp only[aM]
 |.sl ex k xs,_=>by simp only[aM]
 |.mp kk vk es,_=>by simp only[aM]
 |.bK id,h=>by simp only[aM]at h ⊢;exact Bb _ h
 |.fn f cap,h=>by simp only[aM]at h ⊢;exact aG.imp Bb h
 |.agg cs,h=>by simp only[aM]at h ⊢;exact aG.imp Bb h
 |.nu cs,h=>by simp only[aM]at h ⊢;exact aG.imp Bb h
theorem aG.imp{p q:Nat→Prop}(Bb:∀i,p i→q i):∀{a:List AV},aG p a→aG q a
 |[],_=>by simp only[aG]
 |a::r,h=>by simp only[aG]at h ⊢;exact⟨aM.imp Bb h.1,aG.imp Bb h.2⟩
end
theorem aM.cells{p:Nat→Prop}{a:AV}(h:aM p a):aG p a.cells:=by
 cases a with
 |agg cs=>simpa only[AV.cells,aM] using h
 |_=>simp only[AV.cells,aG];exact⟨h,trivial⟩
theorem Bc:∀{cs:List AV},Hf cs=true→∀id,AV.bK id∉cs
 |[],_,id=>by simp
 |c::r,hn,id=>by
  intro hm
  cases c with
  |bK i=>simp[Hf]at hn
  |_ =>
   simp only[Hf]at hn;rcases aa1.1 hm with e|hm
   ·cases e
   ·exact Bc hn id hm
theorem qZ:∀{vs:List AV},qI vs=true→∀v∈vs,∀id,AV.bK id∉v.cells
 |[],_,v,hv=>by simp at hv
 |a::r,hn,v,hv=>by
  simp only[qI,Bool.and_eq_true]at hn;rcases aa1.1 hv with rfl|hv
  ·exact Bc hn.1
  ·exact qZ hn.2 v hv
def u9(o:Oper):Bool :=match o.op with
 |.call { callee:=.value _,.. }=>true
 |_=>false
theorem Ks{s:List (Nat×AV)}{ρC:Operand→Value}{x:Option Operand}(hx:∀y,x=some y→aC Z ψ h w (ρ s y) (ρC y)):eJ Z ψ h w (x.map (ρ s)) (x.map ρC):=by
 cases x with
 |none=>trivial
 |some y=>exact hx y rfl
theorem Be{s:List (Nat×AV)}{ρC:Operand→Value}:∀(ps:List (Nat×Operand)),(∀p∈ps,aC Z ψ h w (ρ s p.2) (ρC p.2))→(∀p∈ps,ρ s p.2≠.no)→td Z ψ h w (ps.map fun p=>(p.1,ρ s p.2)) (ps.map fun p=>(p.1,ρC p.2))
 |[],_,_=>trivial
 |p::r,h1,h2=>⟨rfl,h2 p (by simp),h1 p (by simp),Be r (fun q hq=>h1 q (aaY _ hq)) (fun q hq=>h2 q (aaY _ hq))⟩
theorem Ed{k:K}{hh:Heap}:∀{ps:List (Nat×AV)} {i:Nat} {xs:List k.T},qN k hh i ps=some xs→∀p∈ps,p.2≠.no
 |[],_,_,_,p,hp=>by simp at hp
 |(j,v)::r,i,xs,hl,p,hp=>by
  simp only[qN]at hl
  split at hl
  ·split at hl
   ·rename_i x ys h1 h2;rcases aa1.1 hp with rfl|hp
    ·exact D9 h1
    ·exact Ed h2 p hp
   ·cases hl
  ·cases hl
theorem X8{α:Type}{l:List α}(h:l.length=0+1+1):∃x y,l=[x,y]:=by
 cases l with
 |nil=>simp at h
 |cons a r=>cases r with
  |nil=>simp at h
  |cons b s=>cases s with
   |nil=>exact⟨a,b,rfl⟩
   |cons c q=>simp at h
theorem Kt{a:AV}(h:WA a=true):a≠.no:=by rintro rfl;cases h
section
variable {Eqs:TypeId→Option K} {Sg:FuncId→Option aS} {F:(f:FuncId)→(g:aS)→g.A→Option g.B}
theorem FA{hh:Heap}{ρC:Operand→Value}{o:Oper}(g:Good Z ψ h w B0 O)(hB:B0≤w.heap.size)(bE:∀id o,hh.get id=some o→h id=some o){id:Nat}(hN:N id){t:TypeId}{s x:AV}{u v:Value}{e:bL} (hs:aC Z ψ h w s u) (hx:aC Z ψ h w x v) (FB:aM (fun i=>¬N i) s) (bz:∀i ty cs,h i=some (.box ty cs)→aG (fun i=>¬N i) cs) (nT:∀v hw,e=.wr v hw→hh.get=h) (he:n8 P hh id t s x some=some e) (dB:∀V w',(Builtin.append_ #[t,t] o.type #[u,v]).run P w=.ok V w'→(execOp ρC o).run P w=.ok (.value V) w'):g9 P ρC o Z ψ h w B0 O N e:=by
 have Uk:∀i ty cs,h i=some (.box ty cs)→aG (fun i=>i≠id) cs:=fun i ty cs hb=>(bz i ty cs hb).imp (fun j hj e=>hj (by rw[e];exact hN));unfold n8 at he
 split at he
 ·cases he
 ·rename_i et het;have ht:=nL het
  split at he
  ·cases he
  ·rename_i kk UN
   split at he
   ·rename_i ys NF lT;obtain⟨inf,z,JY⟩:=cw lT
    split at he
    ·
     cases hc:aN 0 ys.length with
     |false=>rw[hc]at he;cases he
     |true =>rw[hc]at he;cases he;simp only[aN,decide_eq_true_eq]at hc;simp only[aC]at hs;subst hs;obtain⟨V,w',h1,h2,h3⟩:=qq (P:=P) (ty:=o.type) g bE hB hN ht JY NF hx (by omega) Uk;refine⟨V,w',Z,_,.inl (dB V w' h1),by simp only[bL.hp];rw[iE];exact h2,?_⟩;simp only[bL.v,bL.hp,aC];exact⟨h3,fun _=>(bA _ _ _).symm⟩
    ·
     rename_i cW
     split at he
     ·rename_i e' k' xs hg
      split at he
      ·rename_i hc;obtain⟨rfl,rfl⟩:=hc
       cases o4:aN xs.length ys.length with
       |false=>rw[o4]at he;cases he
       |true =>rw[o4]at he;cases he;simp only[aN,decide_eq_true_eq]at o4;have heq:=nT _ _ rfl;have A4:=bE _ _ hg;simp only[aC]at hs;have hu:=hs.2 (by rw[A4];simp);subst hu;simp only[aM]at FB;obtain⟨V,w',h1,h2,h3⟩:=zx (P:=P) (ty:=o.type) g bE hB hN (fun e=>FB (by rw[e];exact hN)) ht JY A4 NF hx o4 Uk;refine⟨V,w',Z,_,.inl (dB V w' h1),by simp only[bL.hp];rw[mS,u4,heq];exact h2,?_⟩;simp only[bL.v,bL.hp,aC];exact⟨h3,fun _=>(bA _ _ _).symm⟩
      ·cases he
     ·cases he
    ·
     rename_i ex k' xs
     split at he
     ·rename_i hc;subst hc
      cases o4:(ex&&((!ys.isEmpty || xs.isEmpty)&&aN xs.length ys.length)) with
      |false=>rw[o4]at he;cases he
      |true =>rw[o4]at he;cases he;simp only[Bool.and_eq_true,Bool.or_eq_true,aN,decide_eq_true_eq,Bool.not_eq_true',List.isEmpty_eq_false_iff,List.isEmpty_iff]at o4;obtain⟨rfl,bw,UO⟩:=o4;obtain⟨V,w',h1,h2,h3⟩:=AY (P:=P) (ty:=o.type) g bE hB hN ht JY hs NF hx (bw.imp List.length_pos_iff.2 (fun h=>h)) UO Uk;refine⟨V,w',Z,_,.inl (dB V w' h1),by simp only[bL.hp];rw[iE];exact h2,?_⟩;simp only[bL.v,bL.hp,aC];exact⟨h3,fun _=>(bA _ _ _).symm⟩
     ·cases he
    ·cases he
   ·cases he
theorem Bf{ρC:Operand→Value}{o:Oper}(g:Good Z ψ h w B0 O)(hB:B0≤w.heap.size){id:Nat}(hN:N id){t:TypeId}{vs:List AV}{us:Array Value}{e:bL}(hr:aq Z ψ h w vs us.toList)(h1:∀u∈us.toList,u.oneCell'=true) (hm:aG (fun i=>¬N i) vs) (bz:∀i ty cs,h i=some (.box ty cs)→aG (fun i=>¬N i) cs) (he:wQ id t vs some=some e) (dB:(execOp ρC o).run P w=.ok (.value (.pointer (some ⟨w.heap.size,0,none⟩))) (w.alloc (.cells us t))):g9 P ρC o Z ψ h w B0 O N e:=by
 unfold wQ at he
 cases he
 have bw:∀i,¬N i→i≠id:=fun j hj e=>hj (by rw[e];exact hN);have n:=AT (N:=N) g hB id t hN hr h1 (fun i ty cs hb=>(bz i ty cs hb).imp bw) (hm.imp bw);refine⟨_,_,Z,_,.inl dB,by simp only[bL.hp];rw[iE];exact n,?_⟩;simp only[bL.v,bL.hp,aC];exact⟨_,rfl,fun _=>by rw[bA];simp[UD]⟩
theorem NG{hh:Heap}{ρC:Operand→Value}{s:List (Nat×AV)}{o:Oper}(g:Good Z ψ h w B0 O)(hB:B0≤w.heap.size)(bE:∀id o,hh.get id=some o→h id=some o){id:Nat}(hN:N id){t:TypeId}{n:Nat}{ps:Array (Nat×Operand)}{e:bL} (nV:∀p∈ps.toList,aC Z ψ h w (ρ s p.2) (ρC p.2)) (bz:∀i ty cs,h i=some (.box ty cs)→aG (fun i=>¬N i) cs) (kP:Bool) {e0:bL} (UP:e=if kP then UC e0 else e0) (nT:∀v hw,e=.wr v hw→hh.get=h) (he:uP P hh id t n (ps.toList.map fun p=>(p.1,ρ s p.2)) some=some e0)
  (dB:∀V w',(Instr.buildSlice t n (ps.map fun p=>(p.1,ρC p.2))).run P w=.ok V w'→(execOp ρC o).run P w=.ok (.value V) w'):g9 P ρC o Z ψ h w B0 O N e:=by
 have Uk:∀i ty cs,h i=some (.box ty cs)→aG (fun i=>i≠id) cs:=fun i ty cs hb=>(bz i ty cs hb).imp (fun j hj e=>hj (by rw[e];exact hN));unfold uP at he
 split at he
 ·cases he
 ·rename_i et het;have ht:=nL het
  split at he
  ·cases he
  ·rename_i k hk
   split at he
   ·cases he
   ·cases he
   ·rename_i xs oo lT;obtain⟨inf,z,JY⟩:=cw lT;have Ku:=Be (Z:=Z) (ψ:=ψ) (h:=h) (w:=w) ps.toList nV (fun p hp=>Ed oo (p.1,ρ s p.2) (adD.2 ⟨p,hp,rfl⟩));have Ma:td Z ψ hh.get w (ps.toList.map fun p=>(p.1,ρ s p.2)) (ps.map fun p=>(p.1,ρC p.2)).toList:=by rw[Array.toList_map];exact Ku.qA bE
    split at he
    ·rename_i hc;obtain⟨rfl,hn⟩:=hc
     cases qX:qI ((ps.toList.map fun p=>(p.1,ρ s p.2)).map (·.2)) with
     |true =>
      rw[qX]at he;cases he;have afD:=qZ qX;obtain⟨V,w',h1,h2,h3⟩:=Hr (P:=P) (N:=N) g (g.sub bE) (fun _ h=>h) hB hN ht JY (fun p hp i b hm=>absurd hm (afD p.2 (adD.2 ⟨p,hp,rfl⟩) i)) Ma oo hn Uk
      cases kP with
      |false =>have UP:e=.new (.bK id) [(id,.own (.row et k) xs)]:=UP;subst UP;refine⟨V,w',Z,_,.inl (dB V w' h1),by simp only[bL.hp];rw[iE];exact h2,?_⟩;simp only[bL.v,bL.hp,aC];exact⟨h3.1,fun _=>(bA _ _ _).symm⟩
      |true =>
       have UP:e=.new (.sl true k xs) []:=UP;subst UP;obtain⟨m1,m2⟩:=P9 g hB h2 h3.2.1 h3.2.2.1 h3.2.2.2;have e1:(bL.new (.sl true k xs) []).hp h=h:=by funext i;simp[bL.hp,Heap.get]
       refine⟨V,w',_,_,.inl (dB V w' h1),by rw[e1];exact m1,?_⟩;rw[e1];exact m2
     |false =>
      rw[qX]at he;cases he;have UP:e=.wr (.bK id) ((id,.own (.row et k) xs)::cO hh ((ps.toList.map fun p=>(p.1,ρ s p.2)).flatMap (·.2.cells))):=by rw[UP];cases kP<;>rfl
      subst UP;have heq:=nT _ _ rfl;subst heq
      let cs:=(ps.toList.map fun p=>(p.1,ρ s p.2)).flatMap (·.2.cells)
      have gd:=iD g cs;obtain⟨V,w',h1,h2,h3⟩:=Hr (P:=P) (N:=N) gd g (fun b hb=>.inl hb) hB hN ht JY (fun p hp i b hm bw hb=>.inr ⟨i,List.mem_flatMap.2 ⟨p,hp,hm⟩,bw,hb⟩) Ma oo hn (fun i ty cs' hb=>Uk i ty cs' (eu _ _ _ _ hb));refine⟨V,w',qE Z ψ hh.get cs,eC ψ id V,.inl (dB V w' h1),?_,?_⟩
      ·simp only[bL.hp];rw[A3];exact h2.drop (fun b hb=>.inl hb) (fun b hb=>hb.imp (fun h=>h) (fun⟨i,_,h5,h6⟩=>⟨i,h5,h6⟩)) (eu _ _)
      ·simp only[bL.v,bL.hp,aC];exact⟨h3.1,fun _=>(bA _ _ _).symm⟩
    ·cases he
theorem NH{kP:Bool}{h:Heap}{id:Nat}{t:TypeId}{n:Nat}{ps:List (Nat×AV)}{e:bL}(he:wR P kP h id t n ps some=some e):∃e0,uP P h id t n ps some=some e0∧e=if kP then UC e0 else e0:=by
 unfold wR uP at he;unfold uP
 split at he
 ·cases he
 split at he
 ·cases he
 split at he
 ·cases he
 ·cases he
 split at he
 ·rename_i hc;rw[if_pos hc]
  cases qX:qI (ps.map (·.2)) with
  |true=>rw[qX]at he;exact⟨_,rfl,(acv he).symm⟩
  |false=>rw[qX]at he;exact⟨_,rfl,(acv he).symm⟩
 ·cases he
theorem Bg(p:Nat→Prop)(v:Value):aM p (wJ v):=by
 cases v with
 |pointer a=>simp only[wJ];split<;>simp only[aM]
 |slice a n c=>simp only[wJ];split<;>simp only[aM]
 |func fn first cap =>
  cases fn with
  |func f=>simp only[wJ];split<;>simp only[aM,aG]
  |_=>simp only[wJ,aM]
 |_=>simp only[wJ,aM]
theorem wX(p:Nat→Prop):∀vs:List Value,aG p (vs.map wJ)
 |[]=>by simp[aG]
 |v::r=>by simp only[List.map_cons,aG];exact⟨Bg p v,wX p r⟩
theorem NI(p:Nat→Prop)(v:Value):aG p (tL v).cells:=by
 cases v with
 |agg cs=>simp only[tL,AV.cells];exact wX p _
 |_=>simp only[tL];rw[D8];simp only[aG];exact⟨Bg p _,trivial⟩
theorem Qi(Du:∀t k,Eqs t=some k→lS P t k){hh:Heap}{ρC:Operand→Value}{s:List (Nat×AV)}{o:Oper}(g:Good Z ψ h w B0 O)(hB:B0≤w.heap.size)(bE:∀id o,hh.get id=some o→h id=some o){id:Nat}(hN:makes o.op=true→N id){e:bL} (nV:∀x∈o.op.operands,aC Z ψ h w (ρ s x) (ρC x)) (hm:∀x∈o.op.operands,aM (fun i=>¬N i) (ρ s x)) (bz:∀i ty cs,h i=some (.box ty cs)→aG (fun i=>¬N i) cs) (nT:∀v hw,e=.wr v hw→hh.get=h) (J2:u9 o=false) (he:cZ P Eqs Sg F id hh s o some=some e):g9 P ρC o Z ψ h w B0 O N e:=by
 obtain⟨dst,op,type,pos,after,guard⟩:=o;have two:∀{a b:Operand},(∀x∈(#[a,b]:Array Operand),aC Z ψ h w (ρ s x) (ρC x))→aC Z ψ h w (ρ s a) (ρC a)∧aC Z ψ h w (ρ s b) (ρC b):=fun hx=>⟨hx _ (by simp),hx _ (by simp)⟩
 cases op<;>simp only[cZ]at he<;>simp only[Op.operands]at nV hm<;>first|(cases he;done)|skip
 case move x=>cases he;exact g9.val g (V:=ρC x) (by simp[execOp]) (nV x (by simp))
 case assign x=>cases he;exact g9.val g (V:=ρC x) (by simp[execOp]) (nV x (by simp))
 case pick c a b =>
  have h1:=nV c (by simp);have h2:=nV a (by simp);have h3:=nV b (by simp)
  split at he
  ·rename_i t ht
   cases he
   rw[ht]at h1;simp only[aC]at h1;refine g9.val g (V:=if t then ρC a else ρC b) (by simp[execOp,h1,asBool]) ?_;unfold Wz
   split
   ·rename_i p q hp hq;rw[hp]at h2;rw[hq]at h3;simp only[aC]at h2 h3 ⊢
    cases t<;>simp[h2,h3]
   ·cases t
    ·exact h3
    ·exact h2
  ·cases he
 case alloc t =>
  split at he
  ·rename_i z hz;obtain⟨i,zv,hi,hzz,rfl,h1⟩:=po hz;exact Bf (us:=zv.cells) g hB (hN rfl) (A1 zv) h1 (NI _ zv) bz he (by simp[execOp,Instr.alloc,uZ hi hzz,newVar,newRow,newObj,Sem.run])
  ·cases he
 case box t x =>
  have h1:=nV x (by simp)
  split at he
  ·rename_i hp;have hc:=h1.cells (Hv hp);exact Bf (us:=(ρC x).cells) g hB (hN rfl) hc (tW hp hc) (hm x (by simp)).cells bz he (by simp[execOp,Instr.box,newVar,newRow,newObj,Sem.run])
  ·cases he
 case build t ps =>
  unfold rR at he
  split at he
  ·rename_i z fs hz hf
   split at he
   ·rename_i cs aax eZ
    cases he
    simp only[Bool.and_eq_true]at eZ;obtain⟨eZ,hnn⟩:=eZ;have aay:fs.toList.all (fun f=>(P.info? f.type).isSome)=true:=eZ;have X9:∀p∈ps.toList,aC Z ψ h w (ρ s p.2) (ρC p.2):=fun p hp=>nV p.2 (by simp;exact⟨p.1,by simpa using hp⟩);have Ku:=Be (Z:=Z) (ψ:=ψ) (h:=h) (w:=w) ps.toList X9 (fun p hp=>Kt (adG.1 hnn (p.1,ρ s p.2) (adD.2 ⟨p,hp,rfl⟩)));obtain⟨V,h1,h2⟩:=Nw (P:=P) (qs:=ps.map fun p=>(p.1,ρC p.2)) hz hf aay (by rw[Array.toList_map];exact Ku) aax;exact g9.val g (V:=V) (by simp only[execOp,Sem.run_bind];rw[h1];simp) h2
   ·cases he
  ·cases he
 case buildSlice t n ps =>
  have X9:∀p∈ps.toList,aC Z ψ h w (ρ s p.2) (ρC p.2):=fun p hp=>nV p.2 (by simp;exact⟨p.1,by simpa using hp⟩);obtain⟨e0,h0,h1⟩:=NH he;exact NG g hB bE (hN rfl) X9 bz (WB Sg t _) h1 nT h0 (fun V w' h1=>by simp only[execOp,Sem.run_bind];rw[h1];simp)
 case load t a =>
  obtain⟨x,V,rfl,h1,h2⟩:=tU g bE (nV a (by simp)) he;exact g9.val g (V:=V) (by simp[execOp,h1]) h2
 case store t a v =>
  obtain⟨h1,h2⟩:=two nV;have hw:∃hw,e=.wr .no hw:=by obtain⟨hw,_,_,h3,_⟩:=yD (P:=P) (N:=N) (g.sub bE) (h1.qA bE) (h2.qA bE) he;exact⟨hw,h3⟩
  obtain⟨hw,rfl⟩:=hw;have heq:=nT _ _ rfl;subst heq;obtain⟨Kq,w',Z',h3,h4,h5⟩:=yD (P:=P) (N:=N) g h1 h2 he
  cases h3
  exact⟨undef,w',Z',ψ,.inr ⟨by simp[execOp,h4],rfl⟩,h5,by simp only[bL.v,aC]⟩
 case nilCheck x =>
  have h1:=nV x (by simp)
  split at he
  ·rename_i id s i off hx
   cases he
   rw[hx]at h1;have h2:=h1;simp only[aC]at h1;obtain⟨a,ha,_⟩:=h1;exact g9.val g (V:=ρC x) (by simp[execOp,ha]) h2
  ·rename_i k y off hx
   cases he
   rw[hx]at h1;have h2:=h1;simp only[aC]at h1;obtain⟨a,us,ha,_⟩:=h1;exact g9.val g (V:=ρC x) (by simp[execOp,ha]) h2
  ·rename_i f cap hx
   cases he
   rw[hx]at h1;have h2:=h1;simp only[aC]at h1;obtain⟨vs,ha,_⟩:=h1;exact g9.val g (V:=ρC x) (by simp[execOp,ha]) h2
  ·cases he
 case binOp op t x y yt =>
  obtain⟨h1,h2⟩:=two nV;obtain⟨r,V,rfl,h3,h4⟩:=NB Du (xo:=x) (yo:=y) h1 h2 he;exact g9.val g (V:=V) (by simp only[execOp,Sem.run_bind]at h3 ⊢;rw[h3];simp) h4
 case unOp op t x =>
  have h1:=nV x (by simp)
  cases op<;>simp only at he<;>first|(cases he;done)|skip
  split at he
  ·rename_i b hx
   cases he
   rw[hx]at h1;simp only[aC]at h1;exact g9.val g (V:=.bool (!b)) (by simp[execOp,h1,Op.unary]) (by simp only[aC])
  ·cases he
 case convert src dst x =>
  have h1:=nV x (by simp);unfold AM at he
  split at he
  ·rename_i k1 k2 k3 n hs hd hx
   cases he
   rw[hx]at h1;simp only[aC]at h1;exact g9.val g (V:=.int k2 (k2.wrap n)) (by simp[execOp,h1,convert,run_underlying hs,run_underlying hd,Conv.intToInt]) (by simp only[aC])
  ·rename_i sv hs hd hx
   cases he
   rw[hx]at h1;have h2:=h1;simp only[aC]at h1;exact g9.val g (V:=ρC x) (by simp[execOp,h1,convert,run_underlying hs,run_underlying hd]) h2
  ·cases he
 case makeFunc fn first cap =>
  cases fn<;>simp only at he<;>first|(cases he;done)|skip
  rename_i f
  split at he
  ·rename_i hf
   cases he
   have h0:first=#[]:=aeK hf
   subst h0;have hl:∀l:List Operand,(∀x∈l,aC Z ψ h w (ρ s x) (ρC x))→aq Z ψ h w (l.map (ρ s)) (l.map ρC):=by
    intro l
    induction l with
    |nil=>intro _;simp[aq]
    |cons a r ih=>intro ha;simp only[List.map_cons,aq];exact⟨_,_,rfl,ha a (by simp),ih (fun x hx=>ha x (aaY _ hx))⟩
   exact g9.val g (V:=.func (.func f) #[] (cap.map ρC)) (by simp[execOp,Instr.makeFunc]) (by simp only[aC];exact⟨_,rfl,by rw[Array.toList_map];exact hl _ (fun x hx=>nV x (by simp;simpa using hx))⟩)
  ·cases he
 case slice t x lo hi mx =>
  have h1:=nV x (by simp);have h2:eJ Z ψ h w (lo.map (ρ s)) (lo.map ρC):=Ks (fun y hy=>nV y (by subst hy;simp));have h3:eJ Z ψ h w (hi.map (ρ s)) (hi.map ρC):=Ks (fun y hy=>nV y (by subst hy;simp));have h4:eJ Z ψ h w (mx.map (ρ s)) (mx.map ρC):=Ks (fun y hy=>nV y (by subst hy;simp))
  split at he
  ·rename_i ht;unfold wM at he
   split at he
   ·rename_i sv hx hmx
    split at he
    ·rename_i l u hb
     cases ho:bp sv.size l u with
     |false=>rw[ho]at he;cases he
     |true =>
      rw[ho]at he;cases he;rw[hx]at h1;simp only[aC]at h1;have hm0:mx=none:=by cases mx with
       |none=>rfl
       |some m=>simp at hmx
      subst hm0;have dB:=tV (P:=P) (w:=w) (b:=false) (ada sv.size) h2 h3 (mx:=none) (mx':=none) trivial hb ho (.inl rfl);exact g9.val g (V:=.string (XU sv l u)) (by simp[execOp,Instr.sliceAt,Instr.slice,run_underlying ht,h1,dB,XU]) (by simp only[aC])
    ·cases he
   ·cases he
  ·rename_i et ht
   split at he
   ·rename_i X4;obtain⟨V,Z',h5,h6,h7⟩:=Hu (P:=P) (N:=N) g bE ht h1 h2 h3 h4 nT he X4;exact⟨V,w,Z',ψ,.inl (by simp[execOp,h5]),h6,h7⟩
   ·cases he
  ·cases he
 case fieldAddr t x f =>
  have h1:=nV x (by simp)
  split at he
  ·rename_i n ft id sz i off hf hx
   split at he
   ·cases he
   ·rename_i hc
    cases he
    rw[hx]at h1;obtain⟨V,h2,h3⟩:=th (P:=P) hf hc h1;exact g9.val g (V:=V) (by simp[execOp,h2]) h3
  ·rename_i n ft k y off hf hx
   split at he
   ·cases he
   ·rename_i hc
    cases he
    rw[hx]at h1;obtain⟨V,h2,h3⟩:=u5 (P:=P) hf hc h1;exact g9.val g (V:=V) (by simp[execOp,h2]) h3
  ·cases he
 case field t x f =>
  have h1:=nV x (by simp)
  split at he
  ·rename_i n ft cs hf hx
   split at he
   ·rename_i v hv
    cases he
    rw[hx]at h1;obtain⟨V,h2,h3⟩:=Ht (P:=P) hf h1 hv;exact g9.val g (V:=V) (by simp[execOp,h2]) h3
   ·cases he
  ·cases he
 case indexAddr t x i =>
  obtain⟨h1,h2⟩:=two nV;obtain⟨y,V,rfl,h3,h4⟩:=qt g bE h1 h2 he;exact g9.val g (V:=V) (by simp[execOp,h3]) h4
 case index t x i =>
  obtain⟨h1,h2⟩:=two nV
  split at he
  ·rename_i sv ik n ht hx hi;obtain⟨c,hc,Ui⟩:=adH.1 he
   cases Ui
   rw[hx]at h1;rw[hi]at h2;simp only[aC]at h1 h2;exact g9.val g (V:=.int .u8 (c.toNat:Int)) (by simp[execOp,Instr.index,asIntOf,run_underlying ht,h1,h2,hc]) (by simp only[aC])
  ·cases he
 case extract t i =>
  have h1:=nV t (by simp)
  split at he
  ·rename_i vs hx
   split at he
   ·rename_i v hv
    cases he
    rw[hx]at h1;simp only[aC]at h1;obtain⟨us,hu,hl⟩:=h1;obtain⟨u,h2,h3⟩:=hl.get i hv;exact g9.val g (V:=u) (by simp[execOp,Instr.extract,hu,show us[i]? = some u by simpa using h2]) h3
   ·cases he
  ·cases he
 case makeMap t r =>
  cases r with
  |some r=>cases he
  |none =>simp only at he;have Uk:∀i ty cs,h i=some (.box ty cs)→aG (fun i=>i≠id) cs:=fun i ty cs hb=>(bz i ty cs hb).imp (fun j hj e=>hj (by rw[e];exact hN rfl));obtain⟨V,w',ψ',h1,h2,h3⟩:=DE g hB (hN rfl) Uk he;exact⟨V,w',Z,ψ',.inl (by simp[execOp,h1]),h2,h3⟩
 case lookup t m i ok =>
  obtain⟨h1,h2⟩:=two nV;obtain⟨y,V,rfl,h3,h4⟩:=Fy Du g bE h1 h2 he;exact g9.val g (V:=V) (by simp[execOp,h3]) h4
 case mapUpdate t m i v =>
  have h1:=nV m (by simp);have h2:=nV i (by simp);have h3:=nV v (by simp);have hw:∃hw,e=.wr (.nu []) hw:=by obtain⟨hw,_,_,h4,_⟩:=u6 (N:=N) Du (g.sub bE) (h1.qA bE) (h2.qA bE) (h3.qA bE) he;exact⟨hw,h4⟩
  obtain⟨hw,rfl⟩:=hw;have heq:=nT _ _ rfl;subst heq;obtain⟨Kq,w',Z',h4,h5,h6⟩:=u6 (N:=N) Du g h1 h2 h3 he
  cases h4
  exact⟨undef,w',Z',ψ,.inr ⟨by simp[execOp,h5],rfl⟩,h6,by simp only[bL.v,aC,aq];exact⟨#[],rfl,rfl⟩⟩
 case range t x =>
  have Uk:∀i ty cs,h i=some (.box ty cs)→aG (fun i=>i≠id) cs:=fun i ty cs hb=>(bz i ty cs hb).imp (fun j hj e=>hj (by rw[e];exact hN rfl));obtain⟨V,w',ψ',h1,h2,h3⟩:=Fz g hB (hN rfl) (nV x (by simp)) Uk he;exact⟨V,w',Z,ψ',.inl (by simp[execOp,h1]),h2,h3⟩
 case next x b =>
  cases b with
  |false=>cases he
  |true =>obtain⟨V,w',h1,h2,h3⟩:=Hz (P:=P) (N:=N) (ty:=type) g bE (nV x (by simp)) nT he;exact⟨V,w',Z,ψ,.inl (by simp[execOp,h1]),h2,h3⟩
 case entry x =>
  obtain⟨y,V,rfl,h1,h2⟩:=HA (P:=P) g bE (nV x (by simp)) he;exact g9.val g (V:=V) (by simp[execOp,h1]) h2
 case call c =>
  obtain⟨callee,args,argTypes⟩:=c
  cases callee with
  |value f=>simp[u9]at J2
  |invoke r m=>simp only at he;cases he
  |builtin b =>
   have kZ:∀x∈args.toList,aC Z ψ h w (ρ s x) (ρC x):=fun x hx=>nV x (by simp only[Call.operands];exact Array.mem_append.2 (.inr (by simpa using hx)));have Qj:∀x∈args.toList,aM (fun i=>¬N i) (ρ s x):=fun x hx=>hm x (by simp only[Call.operands];exact Array.mem_append.2 (.inr (by simpa using hx)));obtain⟨args⟩:=args;obtain⟨argTypes⟩:=argTypes;simp only at he kZ Qj
   cases b<;>simp only at he<;>first|(cases he;done)|skip
   case append =>
    split at he
    ·rename_i l1 l2 x y t t'
     split at he
     ·rename_i htt;subst htt;exact FA g hB bE (hN rfl) (kZ x (by simp)) (kZ y (by simp)) (Qj x (by simp)) bz nT he (fun V w' h1=>by simp only[execOp,resolve,invoke,builtin,Sem.run_bind,Sem.run_pure,Result.andThen_ok,List.map_toArray,List.map_cons,List.map_nil,h1])
     ·cases he
    ·cases he
   case delete =>
    split at he
    ·rename_i l1 l2 m x t ts;have h1:=kZ m (by simp);have h2:=kZ x (by simp);have hw:∃hw,e=.wr (.nu []) hw:=by obtain⟨hw,_,h4,_⟩:=u7 (N:=N) (ty:=type) (ts:=ts) Du (g.sub bE) (h1.qA bE) (h2.qA bE) he;exact⟨hw,h4⟩
     obtain⟨hw,rfl⟩:=hw;have heq:=nT _ _ rfl;subst heq;obtain⟨Kq,w',h4,h5,h6⟩:=u7 (N:=N) (ty:=type) (ts:=ts) Du g h1 h2 he
     cases h4
     exact⟨.tuple #[],w',Z,ψ,.inl (by simp only[execOp,resolve,invoke,builtin,Sem.run_bind,Sem.run_pure,Result.andThen_ok,List.map_toArray,List.map_cons,List.map_nil,h5]),h6,by simp only[bL.v,aC,aq];exact⟨#[],rfl,rfl⟩⟩
    ·cases he
   case len =>
    split at he
    ·rename_i l1 l2 x t
     split at he
     ·rename_i htm;obtain⟨n,rfl,h1⟩:=Kr (P:=P) (ty:=type) g bE htm (kZ x (by simp)) he;exact g9.val g (V:=.int .i64 (n:Int)) (by simp only[execOp,resolve,invoke,builtin,Sem.run_bind,Sem.run_pure,Result.andThen_ok,List.map_toArray,List.map_cons,List.map_nil,h1]) (by simp only[aC])
     split at he
     ·rename_i aF;obtain⟨n,rfl,h1⟩:=Nz g bE (kZ x (by simp)) he;refine g9.val g (V:=.int .i64 (n:Int)) ?_ (by simp only[aC]);rcases h1 with⟨sv,h2,h3,rfl⟩|⟨A,c,h3⟩
      ·unfold XV at aF;rw[h2]at aF
       split at aF
       ·rename_i hu _;simp[execOp,resolve,invoke,builtin,Builtin.len_,run_underlying hu,h3,goInt]
       ·cases aF
       ·rename_i h9;exact(h9 _ rfl).elim
       ·cases aF
      ·have hu:∃e,P.underlying t=some (.slice e):=by
        have h4:=kZ x (by simp);rw[h3]at h4;unfold XV at aF
        split at aF
        ·rename_i sv _ hxx;rw[hxx]at h4;simp only[aC]at h4;cases h4
        ·cases aF
        ·rename_i e _ hu _;exact⟨_,hu⟩
        ·cases aF
       obtain⟨e,hu⟩:=hu;simp[execOp,resolve,invoke,builtin,Builtin.len_,run_underlying hu,h3,goInt]
     ·cases he
    ·cases he
   all_goals
    unfold Ns at he
    split at he
    ·rename_i k a k' b UQ;have hl:=congrArg List.length UQ;simp only[List.length_map,List.length_cons,List.length_nil]at hl;obtain⟨x,y,rfl⟩:=X8 hl;simp only[List.map_cons,List.map_nil,List.cons.injEq,and_true]at UQ;have h1:=kZ x (by simp);have h2:=kZ y (by simp);rw[UQ.1]at h1;rw[UQ.2]at h2;simp only[aC]at h1 h2
     split at he
     ·rename_i hk;subst hk
      cases he
      refine g9.val g (V:=bY (.int _ _)) ?_ (jR _ _)
      first
       |(simp[execOp,resolve,invoke,builtin,Builtin.max_,Builtin.max2,h1,h2,bY];simp only[Int.max_def];split<;>split<;>omega)
       |(simp[execOp,resolve,invoke,builtin,Builtin.min_,Builtin.min2,h1,h2,bY];simp only[Int.min_def];split<;>split<;>omega)
     ·cases he
    ·cases he
end
end Go.Vs
namespace Go.Vs
variable {P:Program} {Z Z' Zf:Nat→Prop} {ψ ψ':Nat→Value} {h h':Hp} {w w':World} {B0:Nat} {O:Nat→Prop} {N:Nat→Prop}
abbrev yG:=Nat×Option Nat×Ob
def dJ(L:List yG):Heap:=L.map fun e=>(e.1,e.2.2)
def jS(ψ:Nat→Value):Option Nat→Value
 |some s=>ψ s
 |none=>.slice none 0 0
def fa(ψ:Nat→Value):List yG→Nat→Value
 |[],_=>undef
 |(i,s,_)::r,n=>if i=n then jS ψ s else fa ψ r n
theorem oq{L:List yG}{i:Nat}{o:Ob}(hg:(dJ L).get i=some o):∃s,(i,s,o)∈L:=by
 induction L with
 |nil=>simp[dJ,Heap.get]at hg
 |cons e r ih =>
  obtain⟨j,s,o'⟩:=e;simp only[dJ,List.map_cons,Heap.get]at hg
  split at hg
  ·rename_i e;subst e;cases hg;exact⟨s,acr⟩
  ·obtain⟨s',hs⟩:=ih hg;exact⟨s',aaY _ hs⟩
theorem mU{i:Nat}{r:List Nat}(h:ck (i::r)=true):i∉r∧ck r=true:=by simp only[ck,Bool.and_eq_true,Bool.not_eq_true']at h;exact⟨fun hm=>by rw[List.contains_iff_mem.2 hm]at h;simp at h,h.2⟩
theorem iP{L:List yG}(hn:ck (L.map (·.1))=true){i:Nat}{s:Option Nat}{o:Ob}(hm:(i,s,o)∈L):fa ψ L i=jS ψ s:=by
 induction L with
 |nil=>cases hm
 |cons e r ih =>
  obtain⟨j,s',o'⟩:=e;obtain⟨h1,h2⟩:=mU hn;simp only[fa];rcases aa1.1 hm with he|hm
  ·cases he;simp
  ·rw[if_neg,ih h2 hm];rintro rfl;exact h1 (adD.2 ⟨_,hm,rfl⟩)
theorem UR{L:List yG}(hs:ck (L.filterMap (·.2.1))=true){i j s:Nat}{o o':Ob}(h1:(i,some s,o)∈L)(h2:(j,some s,o')∈L):i=j∧o=o':=by
 induction L with
 |nil=>cases h1
 |cons e r ih =>
  obtain⟨k,s',o''⟩:=e;have mem:∀{k:Nat} {o:Ob},(k,some s,o)∈r→s∈r.filterMap (·.2.1):=fun h=>ae3.2 ⟨_,h,rfl⟩;rw[List.filterMap_cons]at hs
  cases s' with
  |none =>simp only[]at hs;exact ih hs ((aa1.1 h1).resolve_left (by simp)) ((aa1.1 h2).resolve_left (by simp))
  |some s' =>
   simp only[]at hs;obtain⟨h3,h4⟩:=mU hs;rcases aa1.1 h1 with e1|m1<;>rcases aa1.1 h2 with e2|m2
   ·cases e1;cases e2;exact⟨rfl,rfl⟩
   ·cases e1;exact absurd (mem m2) h3
   ·cases e2;exact absurd (mem m1) h3
   ·exact ih h4 m1 m2
def HB:(ok:OK)→ok.T→Prop
 |.row _ _,xs=>xs=[]
 |_,_=>False
theorem HB.owns:∀{ok:OK} {xs:ok.T},HB ok xs→jI Z w ok (.slice none 0 0) xs
 |.row ty k,xs,h=>by have h:xs=[]:=h;subst h;exact⟨[],⟨by simp,.inl ⟨rfl,none,rfl⟩⟩,fun i x hx=>by simp at hx⟩
 |.map _ _,_,h=>h.elim
 |.iter _ _,_,h=>h.elim
 |.nX,_,h=>h.elim
def vc(Z:Nat→Prop)(ψ:Nat→Value)(h:Hp)(w:World)(h':Hp)(ψ':Nat→Value):yG→Prop
 |(_,some s,.own ok xs)=>h s=some (.own ok xs)
 |(_,none,.own ok xs)=>HB ok xs
 |(_,some s,.box ty cs')=>(∃cs,h s=some (.box ty cs))∧∀gg vs,ψ s=.pointer (some ⟨gg,0,none⟩)→w.heap[gg]? = some (.cells vs ty (0,0))→aq Z ψ' h' w cs' vs.toList
 |(_,none,.box _ _)=>False
theorem Good.rename(g:Good Z ψ h w B0 O){L:List yG}(hn:ck (L.map (·.1))=true)(hs:ck (L.filterMap (·.2.1))=true)(lT:∀e∈L,vc Z ψ h w (dJ L).get (fa ψ L) e) :
  Good Z (fa ψ L) (dJ L).get w B0 O:=by
 have src:∀id b,(dJ L).get id≠none→ob (fa ψ L id)=some b→∃s o,(id,some s,o)∈L∧h s≠none∧ob (ψ s)=some b:=fun id b h1 h2=>by
  obtain⟨o,ho⟩:=acx.1 h1;obtain⟨s,hm⟩:=oq ho;rw[iP hn hm]at h2
  cases s with
  |none=>simp[jS,ob]at h2
  |some s =>
   have h3:=lT _ hm;refine⟨s,o,hm,?_,h2⟩
   cases o with
   |box ty cs=>obtain⟨⟨cs0,h4⟩,_⟩:=h3;rw[h4];simp
   |own ok xs=>rw[show h s=some (.own ok xs) from h3];simp
 refine⟨fun id ty cs hb=>?_,fun id ok xs hb=>?_,fun id b h1 h2=>?_,fun id mL b h1 h2 h3 h4=>?_,g.jP⟩
 ·obtain⟨s,hm⟩:=oq hb;have h3:=lT _ hm;rw[iP hn hm]
  cases s with
  |none=>exact h3.elim
  |some s =>obtain⟨⟨cs0,h4⟩,h5⟩:=h3;obtain⟨gg,vs,h6,h7,h8,h9⟩:=g.box s ty cs0 h4;exact⟨gg,vs,h6,h7,h5 gg vs h6 h7,h9⟩
 ·obtain⟨s,hm⟩:=oq hb;have h3:=lT _ hm;rw[iP hn hm]
  cases s with
  |none=>exact HB.owns h3
  |some s=>exact g.row s ok xs h3
 ·obtain⟨s,o,hm,h3,h4⟩:=src id b h1 h2;exact g.live s b h3 h4
 ·obtain⟨s,o,hm,h5,h6⟩:=src id b h1 h3;obtain⟨s',o',US,h5',h6'⟩:=src mL b h2 h4;have:=g.apart s s' b h5 h5' h6 h6';subst this;exact(UR hs hm US).1
def z5(hh:Heap)(i:Nat):List AV:=match hh.get i with
 |some (.box _ cs)=>cs
 |_=>[]
def dP:(dy:List CK)→Nat→List AV→qG dy→List yG
 |[],_,_,_=>[]
 |.val k::r,n,cs,x=>dP r (n+1) (cs.drop k.sz) x.2
 |.own ok::r,n,cs,x=>(n,(pe (cs.headD .no)).head?,.own ok x.1)::dP r (n+1) cs.tail x.2
def dV:(b:BK)→Heap→Nat→Nat→Nat→b.T→List yG
 |.box ty c,hh,i,i',n,x=>(i',some i,.box ty (aI c n x))::dP c n (z5 hh i) x
 |.own ok,_,i,i',_,x=>[(i',some i,.own ok x)]
def cF:(bs:List BK)→Heap→List Nat→List Nat→Nat→wK bs→List yG
 |b::r,hh,i::is,i'::is',n,x=>dV b hh i i' n x.1++cF r hh is is' (n+16) x.2
 |_,_,_,_,_,_=>[]
theorem mV:∀(dy:List CK) (n:Nat) (cs:List AV) (x:qG dy),dJ (dP dy n cs x)=bm dy n x
 |[],_,_,_=>rfl
 |.val k::r,n,cs,x=>mV r (n+1) _ x.2
 |.own ok::r,n,cs,x=>by simp only[dP,bm,dJ,List.map_cons];rw[←mV r (n+1) cs.tail x.2];rfl
theorem lj:∀(dy:List CK) (n:Nat) (cs:List AV) (x:qG dy),(dP dy n cs x).map (·.1)=cr dy n
 |[],_,_,_=>rfl
 |.val k::r,n,cs,x=>lj r (n+1) _ x.2
 |.own ok::r,n,cs,x=>by simp only[dP,cr,List.map_cons];rw[lj r (n+1) cs.tail x.2]
theorem wY(c:AV):(pe c).head?.toList=pe c:=by cases c<;>rfl
theorem dW{α β:Type}(f:α→Option β)(a:α)(l:List α):(a::l).filterMap f=(f a).toList++l.filterMap f:=by rw[List.filterMap_cons];cases f a<;>rfl
theorem py{k:K}{r:List CK}{hh:Heap}{cs:List AV}{x:qG (.val k::r)}(hd:cS (.val k::r) hh cs=some x):dz k ((cs.take k.sz).map (cQ hh))=some x.1∧cS r hh (cs.drop k.sz)=some x.2:=by
 have e:cS (.val k::r) hh cs=(match dz k ((cs.take k.sz).map (cQ hh)),cS r hh (cs.drop k.sz) with
  |some x,some y=>some ((x,y):k.T×qG r)
  |_,_=>none):=by cases cs<;>rfl
 rw[e]at hd;clear e;generalize dz k ((cs.take k.sz).map (cQ hh))=o1 at hd ⊢;generalize cS r hh (cs.drop k.sz)=o2 at hd ⊢
 cases o1 with
 |none=>cases hd
 |some x1 =>
  cases o2 with
  |none=>cases hd
  |some y1=>have:=acv hd;subst this;exact⟨rfl,rfl⟩
theorem lU{ok:OK}{r:List CK}{hh:Heap}{cs:List AV}{x:qG (.own ok::r)}(hd:cS (.own ok::r) hh cs=some x):∃c cs',cs=c::cs'∧dY hh ok c=some x.1∧cS r hh cs'=some x.2:=by
 cases cs with
 |nil=>cases hd
 |cons c cs =>
  refine⟨c,cs,rfl,?_⟩;have e:cS (.own ok::r) hh (c::cs)=(match dY hh ok c,cS r hh cs with
   |some x,some y=>some ((x,y):ok.T×qG r)
   |_,_=>none):=rfl
  rw[e]at hd;clear e;generalize dY hh ok c=o1 at hd ⊢;generalize cS r hh cs=o2 at hd ⊢
  cases o1 with
  |none=>cases hd
  |some x1 =>
   cases o2 with
   |none=>cases hd
   |some y1=>have:=acv hd;subst this;exact⟨rfl,rfl⟩
theorem pz:∀(dy:List CK) (n:Nat) (hh:Heap) (cs:List AV) (x:qG dy),cS dy hh cs=some x→(dP dy n cs x).filterMap (·.2.1)=fU dy cs
 |[],_,_,cs,_,_=>by cases cs<;>rfl
 |.val k::r,n,hh,cs,x,hd=>by
  obtain⟨_,h2⟩:=py hd;have e:fU (.val k::r) cs=fU r (cs.drop k.sz):=by cases cs<;>rfl
  rw[e];exact pz r (n+1) hh _ x.2 h2
 |.own ok::r,n,hh,cs,x,hd=>by obtain⟨c,cs',rfl,_,h2⟩:=lU hd;simp only[dP,fU];rw[dW];simp only[List.headD_cons,List.tail_cons];rw[wY,pz r (n+1) hh cs' x.2 h2]
theorem lV{hh:Heap}{ok:OK}{c:AV}{xs:ok.T}(ho:dY hh ok c=some xs):(c=.gh∧HB ok xs)∨∃id,c=.bK id∧hh.get id=some (.own ok xs):=by
 unfold dY at ho
 split at ho
 ·cases ok with
  |row _ _=>cases ho;exact .inl ⟨rfl,rfl⟩
  |_=>cases ho
 ·rename_i id
  split at ho
  ·rename_i zr k' xs' hg
   split at ho
   ·rename_i e;subst e
    cases ho
    exact .inr ⟨id,rfl,hg⟩
   ·cases ho
  ·cases ho
 ·cases ho
theorem FC{hh:Heap}{ok:OK}{c:AV}{xs:ok.T}{v:Value}(ho:dY hh ok c=some xs)(hr:aC Z ψ hh.get w c v){n:Nat}(ji:h' n≠none→ψ' n=jS ψ (pe c).head?):aC Z' ψ' h' w' (.bK n) v:=by
 rcases lV ho with⟨rfl,_⟩|⟨id,rfl,hg⟩
 ·simp only[aC]at hr ⊢;subst hr;exact⟨⟨rfl,rfl⟩,fun hn=>(ji hn).symm⟩
 ·simp only[aC]at hr ⊢;refine⟨hr.1,fun hn=>?_⟩;rw[ji hn];exact hr.2 (by rw[hg];simp)
theorem sf{hh:Heap}(g:Good Z ψ hh.get w B0 O)(hz:∀b,Z b→Z' b):∀(dy:List CK) (n:Nat) (cs:List AV) (x:qG dy) (vs:List Value),cS dy hh cs=some x →(∀id b,AV.bK id∈qn dy cs→hh.get id≠none→ob (ψ id)=some b→Z' b)→(∀e∈dP dy n cs x,h' e.1≠none→ψ' e.1=jS ψ e.2.1) → aq Z ψ hh.get w cs vs→aq Z' ψ' h' w (aI dy n x) vs
 |[],n,cs,x,vs,hd,_,_,hr=>by
  cases cs with
  |nil=>simpa only[aI,aq] using hr
  |cons c cs=>cases hd
 |.val k::r,n,cs,x,vs,hd,hf,ji,hr=>by
  obtain⟨h1,h2⟩:=py hd;have e:qn (.val k::r) cs=cs.take k.sz++qn r (cs.drop k.sz):=by cases cs<;>rfl
  rw[e]at hf;have rW:aq Z ψ hh.get w (cs.take k.sz++cs.drop k.sz) vs:=by rw[List.take_append_drop];exact hr
  obtain⟨us,ws,rfl,h3,h4⟩:=aq.split rW;simp only[aI];have h5:=om (Z':=Z') g hz (fun id b bR=>hf id b (aa2 _ bR)) h3;exact aq.append (iv (dN h1 h5)) (sf g hz r (n+1) (cs.drop k.sz) x.2 ws h2 (fun id b bR=>hf id b (aco _ bR)) ji h4)
 |.own ok::r,n,cs,x,vs,hd,hf,ji,hr=>by obtain⟨c,cs',rfl,h1,h2⟩:=lU hd;simp only[aq]at hr;obtain⟨v,us,rfl,h3,h4⟩:=hr;simp only[aI,aq];refine⟨v,us,rfl,FC h1 h3 (fun hn=>ji (n,_,_) (by simp only[dP];exact acr) hn),?_⟩;exact sf g hz r (n+1) cs' x.2 us h2 hf (fun e he=>ji e (by simp only[dP];exact aaY _ he)) h4
theorem fB{b:BK}{r:List BK}{hh:Heap}{i:Nat}{is:List Nat}{x:wK (b::r)}(hd:de (b::r) hh (i::is)=some x):qo b hh i=some x.1∧de r hh is=some x.2:=by
 have e:de (b::r) hh (i::is)=(match qo b hh i,de r hh is with
   |some x,some y=>some ((x,y):b.T×wK r)
   |_,_=>none):=rfl
 rw[e]at hd;clear e;generalize qo b hh i=o1 at hd ⊢;generalize de r hh is=o2 at hd ⊢
 cases o1 with
 |none=>cases hd
 |some x1 =>
  cases o2 with
  |none=>cases hd
  |some y1=>have:=acv hd;subst this;exact⟨rfl,rfl⟩
theorem si{ty:TypeId}{c:List CK}{hh:Heap}{i:Nat}{x:qG c}(hd:qo (.box ty c) hh i=some x):∃cs,hh.get i=some (.box ty cs)∧cS c hh cs=some x:=by
 simp only[qo]at hd
 cases hb:AI hh i ty with
 |none=>rw[hb]at hd;cases hd
 |some cs =>
  rw[hb]at hd;refine⟨cs,?_,hd⟩;unfold AI at hb
  split at hb
  ·rename_i zr cs' hg
   split at hb
   ·rename_i e;cases hb;rw[hg,e]
   ·cases hb
  ·cases hb
theorem jT{hh:Heap}{ok:OK}{i:Nat}{x:ok.T}(h:dY hh ok (.bK i)=some x):hh.get i=some (.own ok x):=by
 rcases lV h with⟨h,_⟩|⟨id,h,hg⟩
 ·cases h
 ·cases h;exact hg
theorem Ee{ok:OK}{hh:Heap}{i:Nat}{x:ok.T}(hd:qo (.own ok) hh i=some x):hh.get i=some (.own ok x):=jT hd
theorem pC{hh:Heap}{i:Nat}{ty:TypeId}{cs:List AV}(hg:hh.get i=some (.box ty cs)):z5 hh i=cs:=by unfold z5;rw[hg]
theorem FD(b:BK){hh:Heap}{i i' n:Nat}(x:b.T):dJ (dV b hh i i' n x)=jl b i' n x:=by
 cases b with
 |box ty c=>simp only[dV,jl];rw[←mV c n (z5 hh i) x];simp[dJ]
 |own ok=>simp[dV,jl,dJ]
theorem DF(b:BK){hh:Heap}{i i' n:Nat}(x:b.T):(dV b hh i i' n x).map (·.1)=i'::cr b.dy n:=by
 cases b with
 |box ty c=>simp only[dV,List.map_cons,BK.dy];rw[lj]
 |own ok=>simp[dV,BK.dy,cr]
theorem HC(b:BK){hh:Heap}{i i' n:Nat}{x:b.T}(hd:qo b hh i=some x):(dV b hh i i' n x).filterMap (·.2.1)=kb b hh i:=by
 cases b with
 |box ty c =>obtain⟨cs,h1,h2⟩:=si hd;simp only[dV,kb];rw[dW,pC h1,pz c n hh cs x h2,h1];rfl
 |own ok=>simp[dV,kb]
theorem jo:∀(bs:List BK) (hh:Heap) (is is':List Nat) (n:Nat) (x:wK bs),de bs hh is=some x→is'.length=bs.length→dJ (cF bs hh is is' n x)=bC bs is' n x
 |[],hh,is,is',n,x,_,hl=>by cases is'<;>simp[cF,bC,dJ]
 |b::r,hh,[],is',n,x,hd,_=>by cases hd
 |b::r,hh,i::is,[],n,x,_,hl=>by simp at hl
 |b::r,hh,i::is,i'::is',n,x,hd,hl=>by obtain⟨_,h3⟩:=fB hd;have ih:=jo r hh is is' (n+16) x.2 h3 (by simpa using hl);simp only[cF,bC];rw[←ih,←FD b (hh:=hh) (i:=i) x.1];simp[dJ]
theorem hM:∀(bs:List BK) (hh:Heap) (is is':List Nat) (n:Nat) (x:wK bs),de bs hh is=some x→is'.length=bs.length→(cF bs hh is is' n x).map (·.1)=cd bs is' n
 |[],hh,is,is',n,x,_,hl=>by cases is'<;>simp[cF,cd]
 |b::r,hh,[],is',n,x,hd,_=>by cases hd
 |b::r,hh,i::is,[],n,x,_,hl=>by simp at hl
 |b::r,hh,i::is,i'::is',n,x,hd,hl=>by obtain⟨_,h3⟩:=fB hd;have ih:=hM r hh is is' (n+16) x.2 h3 (by simpa using hl);simp only[cF,cd,List.map_append];rw[ih,DF,List.cons_append]
theorem km:∀(bs:List BK) (hh:Heap) (is is':List Nat) (n:Nat) (x:wK bs),de bs hh is=some x→is'.length=bs.length→(cF bs hh is is' n x).filterMap (·.2.1)=dg bs hh is
 |[],hh,is,is',n,x,_,hl=>by cases is'<;>cases is<;>simp[cF,dg]
 |b::r,hh,[],is',n,x,hd,_=>by cases hd
 |b::r,hh,i::is,[],n,x,_,hl=>by simp at hl
 |b::r,hh,i::is,i'::is',n,x,hd,hl=>by obtain⟨h1,h3⟩:=fB hd;have ih:=km r hh is is' (n+16) x.2 h3 (by simpa using hl);simp only[cF,dg];rw[List.filterMap_append,ih,HC b h1]
theorem sj{hd:Hp}{hh:Heap}:∀(dy:List CK) (n:Nat) (cs:List AV) (x:qG dy),cS dy hh cs=some x→(∀s∈fU dy cs,hd s=hh.get s)→∀e∈dP dy n cs x,vc Z ψ hd w h' ψ' e
 |[],n,cs,x,_,_,e,he=>by simp[dP]at he
 |.val k::r,n,cs,x,Ul,hk,e,he=>by
  obtain⟨_,h2⟩:=py Ul;have e0:fU (.val k::r) cs=fU r (cs.drop k.sz):=by cases cs<;>rfl
  rw[e0]at hk;exact sj r (n+1) _ x.2 h2 hk e he
 |.own ok::r,n,cs,x,Ul,hk,e,he=>by
  obtain⟨c,cs',rfl,h1,h2⟩:=lU Ul;simp only[dP,List.headD_cons,List.tail_cons]at he;simp only[fU]at hk;rcases aa1.1 he with rfl|he
  ·rcases lV h1 with⟨rfl,h3⟩|⟨id,rfl,h3⟩
   ·exact h3
   ·show hd id=some (.own ok x.1);rw[hk id (List.mem_append_left _ (by simp[pe])),h3]
  ·exact sj r (n+1) cs' x.2 h2 (fun s hs=>hk s (aco _ hs)) e he
theorem Kv{hd:Hp}{hh:Heap}(g:Good Z ψ hh.get w B0 O)(hz:∀b,Z b→Z' b)(b:BK){i i' n:Nat}{x:b.T}(Ul:qo b hh i=some x) (hf:∀id g,AV.bK id∈AJ b hh i→hh.get id≠none→ob (ψ id)=some g→Z' g) (hk:∀s∈kb b hh i,hd s=hh.get s) (ji:∀e∈dV b hh i i' n x,h' e.1≠none→ψ' e.1=jS ψ e.2.1) :
  ∀e∈dV b hh i i' n x,vc Z' ψ hd w h' ψ' e:=by
 intro e he
 cases b with
 |box ty c =>
  obtain⟨cs,h1,h2⟩:=si Ul;simp only[AJ,kb,h1]at hf hk;have Ya:∀e∈dP c n cs x,h' e.1≠none→ψ' e.1=jS ψ e.2.1:=fun e he=>ji e (by simp only[dV];rw[pC h1];exact aaY _ he);simp only[dV]at he;rcases aa1.1 he with rfl|he
  ·refine⟨⟨cs,by rw[hk i List.mem_cons_self,h1]⟩,fun gg vs h4 h5=>?_⟩;obtain⟨gg',hY,h6,h7,h8,_⟩:=g.box i ty cs h1;rw[h6]at h4
   cases h4
   rw[h5]at h7
   cases h7
   exact sf g hz c n cs x _ h2 hf Ya h8
  ·rw[pC h1]at he;exact sj c n cs x h2 (fun s hs=>hk s (aaY _ hs)) e he
 |own ok =>have h1:=Ee Ul;simp only[dV,List.mem_singleton]at he;subst he;show hd i=some (.own ok x);rw[hk i (by simp[kb]),h1]
theorem lW{hd:Hp}{hh:Heap}(g:Good Z ψ hh.get w B0 O)(hz:∀b,Z b→Z' b):∀(bs:List BK) (is is':List Nat) (n:Nat) (x:wK bs),de bs hh is=some x →(∀id b,AV.bK id∈gi bs hh is→hh.get id≠none→ob (ψ id)=some b→Z' b)→(∀s∈dg bs hh is,hd s=hh.get s)→(∀e∈cF bs hh is is' n x,h' e.1≠none→ψ' e.1=jS ψ e.2.1) → ∀e∈cF bs hh is is' n x,vc Z' ψ hd w h' ψ' e
 |[],is,is',n,x,_,_,_,_,e,he=>by simp[cF]at he
 |b::r,[],is',n,x,Ul,_,_,_,e,he=>by cases Ul
 |b::r,i::is,[],n,x,_,_,_,_,e,he=>by simp[cF]at he
 |b::r,i::is,i'::is',n,x,Ul,hf,hk,ji,e,he=>by
  obtain⟨h1,h3⟩:=fB Ul;simp only[gi,dg]at hf hk;simp only[cF]at he ji;rcases acw.1 he with he|he
  ·exact Kv g hz b h1 (fun id g bR=>hf id g (aa2 _ bR)) (fun s hs=>hk s (aa2 _ hs)) (fun e he=>ji e (aa2 _ he)) e he
  ·exact lW g hz r is is' (n+16) x.2 h3 (fun id b bR=>hf id b (aco _ bR)) (fun s hs=>hk s (aco _ hs)) (fun e he=>ji e (aco _ he)) e he
theorem so{kept:List Nat}{kP:List AV}(hk:wP kept kP=true):ck kept=true∧∀(hh:Heap) s,s∈kept→(cO hh kP).get s=hh.get s:=by unfold wP at hk;rw[Bool.and_eq_true]at hk;exact⟨hk.1,fun hh s hs=>pn _ _ _ (rZ (adG.1 hk.2 s hs))⟩
theorem wZ{hh:Heap}{kP:List AV}{kept:List Nat}(g:Good Z ψ hh.get w B0 O)(hk:wP kept kP=true){L:List yG}(hn:ck (L.map (·.1))=true)(hs:L.filterMap (·.2.1)=kept) (lT:∀e∈L,vc (qE Z ψ hh.get kP) ψ (cO hh kP).get w (dJ L).get (fa ψ L) e):Good (qE Z ψ hh.get kP) (fa ψ L) (dJ L).get w B0 O :=(iD g kP).rename hn (by rw[hs];exact(so hk).1) lT
theorem z6{L:List yG}(hn:ck (L.map (·.1))=true):∀e∈L,(dJ L).get e.1≠none→fa ψ L e.1=jS ψ e.2.1:=fun⟨i,s,o⟩ he _=>iP hn he
theorem mW(A B:List yG):dJ (A++B)=dJ A++dJ B:=by simp[dJ]
theorem z7{hh:Heap}{i s i':Nat}{v:Value}(hr:aC Z ψ hh.get w (.ref i s 0 0) v)(hi:hh.get i≠none)(ji:h' i'≠none→ψ' i'=ψ i):aC Z' ψ' h' w' (.ref i' 0 0 0) v:=by simp only[aC]at hr ⊢;obtain⟨a,rfl,ha⟩:=hr;refine⟨a,rfl,fun hn=>?_⟩;rw[ji hn,ha hi];simp
theorem pG{v:AV}{i:Nat}(h:D4 v=some i):∃s,v=.ref i s 0 0:=by
 unfold D4 at h
 split at h
 ·cases h;exact⟨_,rfl⟩
 ·cases h
theorem jq{hh:Heap}:∀(bs:List BK) (is:List Nat) (x:wK bs),de bs hh is=some x→is.length=bs.length∧∀i∈is,hh.get i≠none
 |[],[],_,_=>⟨rfl,fun i hi=>by cases hi⟩
 |[],_::_,_,h=>by cases h
 |_::_,[],_,h=>by cases h
 |b::r,i::is,x,h=>by
  obtain⟨h1,h3⟩:=fB h;obtain⟨h4,h5⟩:=jq r is x.2 h3;refine⟨by simp[h4],fun j hj=>?_⟩;rcases aa1.1 hj with rfl|hj
  ·cases b with
   |box ty c=>obtain⟨cs,h1,_⟩:=si h1;rw[h1];simp
   |own ok=>rw[Ee h1];simp
  ·exact h5 j hj
theorem kq{hh:Heap}:∀(bs:List BK) (is is':List Nat) (n:Nat) (x:wK bs),is.length=bs.length→∀p∈is.zip is',∃o,(p.2,some p.1,o)∈cF bs hh is is' n x
 |[],is,is',n,x,hl,p,hp=>by
  cases is with
  |nil=>simp at hp
  |cons a r=>simp at hl
 |b::r,[],is',n,x,hl,p,hp=>by simp at hp
 |b::r,i::is,[],n,x,hl,p,hp=>by simp at hp
 |b::r,i::is,i'::is',n,x,hl,p,hp=>by
  simp only[List.zip_cons_cons]at hp;simp only[cF];rcases aa1.1 hp with rfl|hp
  ·cases b with
   |box ty c=>exact⟨_,aa2 _ (by simp only[dV];exact acr)⟩
   |own ok=>exact⟨_,aa2 _ (by simp only[dV];exact acr)⟩
  ·obtain⟨o,ho⟩:=kq r is is' (n+16) x.2 (by simpa using hl) p hp;exact⟨o,aco _ ho⟩
theorem Mb{hd:Hp}{hh:Heap}{ok:OK}{c:AV}{xs:ok.T}(ho:dY hh ok c=some xs)(hk:∀s∈pe c,hd s=hh.get s){n:Nat}:vc Z ψ hd w h' ψ' (n,(pe c).head?,.own ok xs):=by
 rcases lV ho with⟨rfl,h3⟩|⟨id,rfl,h3⟩
 ·exact h3
 ·show hd id=some (.own ok xs);rw[hk id (by simp[pe]),h3]
end Go.Vs
namespace Go.Vs
variable {P:Program} {Z Z':Nat→Prop} {ψ ψ':Nat→Value} {h h':Hp} {w w':World} {B0:Nat} {O:Nat→Prop} {N:Nat→Prop}
def gr:Hp:=fun _=>none
def J3:Nat→Value:=fun _=>undef
def Ef(g:aS)(x:Hd (kR g.ps)):List AV:=(aZ g.ps [] 0 x).map (·.2)
def aaz(P:Program)(f:FuncId)(g:aS)(x:g.A)(y:g.B):Prop :=∀(Z:Nat→Prop) (w:World) (kr:List Value),(∀b,Z b→b<w.heap.size)→aq Z J3 gr w (Ef g x.1) kr → Calls P (f%1000) kr.toArray w fun e w'=>∃v Z' ψ',e=.returned v∧(∀b,Z b→Z' b)∧(∀b,Z' b→Z b∨w.heap.size≤b)∧dh J3 gr w w' ∧ Good Z' ψ' (ak g.rs 3000 y.1).get w' w.heap.size (fun _=>False)∧aC Z' ψ' (ak g.rs 3000 y.1).get w' (fi (bf g.rs [] 2000 3000 y.1)) v
theorem yH{p:PK}{ps:List PK}{vs:List AV}(hi:cJ (p::ps) vs=some []):∃a r,vs=a::r∧cJ ps r=some []∧(p≠.ref∧p≠.own)∧(∀f n,p=.G5 f n→a=.fn f [])∧(∀n,p=.agg n→a=.agg []):=by
 cases vs with
 |nil=>cases p<;>simp[cJ]at hi
 |cons a r =>
  cases p with
  |val k=>exact⟨a,r,rfl,by simpa only[cJ] using hi,by simp,by simp,by simp⟩
  |ref =>
   simp only[cJ]at hi
   split at hi<;>simp at hi
  |own =>
   cases a<;>simp only[cJ]at hi<;>first|(cases hi;done)|skip
   split at hi<;>simp at hi
  |G5 f n =>
   cases a<;>simp only[cJ]at hi<;>first|(cases hi;done)|skip
   rename_i f' cap
   split at hi
   ·rename_i hc;obtain⟨rfl,rY⟩:=hc
    split at hi
    ·rename_i a1 b1 h1 h2;simp only[Option.some.injEq,List.append_eq_nil_iff]at hi;obtain⟨rfl,rfl⟩:=hi;have XZ:cap=[]:=by
      cases cap with
      |nil=>rfl
      |cons c cs=>simp only[jM]at h1;split at h1<;>simp at h1
     subst XZ;exact⟨_,r,rfl,h2,by simp,by rintro f n ⟨⟩;rfl,by simp⟩
    ·cases hi
   ·cases hi
  |agg n =>
   cases a<;>simp only[cJ]at hi<;>first|(cases hi;done)|skip
   rename_i cs
   split at hi
   ·split at hi
    ·rename_i a1 b1 h1 h2;simp only[Option.some.injEq,List.append_eq_nil_iff]at hi;obtain⟨rfl,rfl⟩:=hi;have Nx:cs=[]:=by
      cases cs with
      |nil=>rfl
      |cons c cs=>cases c<;>simp only[pf]at h1<;>first|(cases h1;done)|(split at h1<;>simp at h1)
     subst Nx;exact⟨_,r,rfl,h2,by simp,by simp,fun _ _=>rfl⟩
    ·cases hi
   ·cases hi
theorem yI{k:K}{ps:List PK}{hh:Heap}{a:AV}{r:List AV}{x:k.T×Hd (kR ps)}(hv:eU (.val k::ps) hh (a::r)=some x):fY k hh a=some x.1∧eU ps hh r=some x.2:=by
 have e:eU (.val k::ps) hh (a::r)=(match fY k hh a,eU ps hh r with
  |some x,some y=>some ((x,y):k.T×Hd (kR ps))
  |_,_=>none):=rfl
 rw[e]at hv;clear e;generalize fY k hh a=o1 at hv ⊢;generalize eU ps hh r=o2 at hv ⊢
 cases o1 with
 |none=>cases hv
 |some x1 =>
  cases o2 with
  |none=>cases hv
  |some y1 =>have:=acv hv;subst this;exact⟨rfl,rfl⟩
theorem Bh{hh:Heap}(g:Good Z ψ hh.get w B0 O)(hz:∀b,Z b→Z' b)(ps:List PK):∀(s:Nat) (vs:List AV) (us:List Value) (x:Hd (kR ps)),(∀v∈vs,∀id b,AV.bK id∈v.cells→hh.get id≠none→ob (ψ id)=some b→Z' b) → cJ ps vs=some []→eU ps hh vs=some x→aq Z ψ hh.get w vs us→aq Z' J3 gr w ((aZ ps [] s x).map (·.2)) us:=by
 induction ps with
 |nil =>
  intro s vs us x _ hi hv hr
  cases vs with
  |nil=>simpa only[aZ,List.map_nil,aq] using hr
  |cons a r=>simp[cJ]at hi
 |cons p ps ih =>
  intro s vs us x hb hi hv hr;obtain⟨a,r,rfl,tQ,UT,Yb,Yc⟩:=yH hi;simp only[aq]at hr;obtain⟨u,je,rfl,h3,h4⟩:=hr
  cases p with
  |val k =>obtain⟨h1,h2⟩:=yI hv;simp only[aZ,List.map_cons,aq];exact⟨u,je,rfl,r8 (Z':=Z') (ψ':=J3) (h':=gr) g hz (hb a acr) h1 h3,ih (s+1) r je x.2 (fun v hv=>hb v (aaY _ hv)) tQ h2 h4⟩
  |ref=>exact absurd rfl UT.1
  |own=>exact absurd rfl UT.2
  |G5 f n =>have ha:=Yb f n rfl;subst ha;have h2:eU ps hh r=some x:=hv;simp only[aZ,List.map_cons,aq,List.take_nil,List.map_nil,List.drop_nil];simp only[aC,aq]at h3 ⊢;exact⟨u,je,rfl,h3,ih (s+1) r je x (fun v hv=>hb v (aaY _ hv)) tQ h2 h4⟩
  |agg n =>have ha:=Yc n rfl;subst ha;have h2:eU ps hh r=some x:=hv;simp only[aZ,List.map_cons,aq,List.take_nil,List.map_nil,List.drop_nil];simp only[aC,aq]at h3 ⊢;exact⟨u,je,rfl,h3,ih (s+1) r je x (fun v hv=>hb v (aaY _ hv)) tQ h2 h4⟩
theorem Good.aaA(g:Good Z ψ h w B0 O)(k:dh J3 gr w w')(hz:∀b,Z b→Z' b)(Pz:∀b,Z' b→Z b∨w.heap.size≤b)(afH:∀b,Z' b→b<w'.heap.size) (hold:∀id,¬N id→h' id=h id∧ψ' id=ψ id) (bz:∀id ty cs,h id=some (.box ty cs)→aG (fun i=>¬N i) cs) (P3:∀id ty cs,N id→h' id=some (.box ty cs)→False) (oo:∀id ok xs,N id→h' id=some (.own ok xs)→jI Z' w' ok (ψ' id) xs) (AS:∀id b,N id→h' id≠none→ob (ψ' id)=some b→w.heap.size≤b∧¬Z' b) (Ki:∀id mL b,N id→N mL→h' id≠none→h' mL≠none→ob (ψ' id)=some b→ob (ψ' mL)=some b→id=mL) (hB:B0≤w.heap.size) :
  Next Z ψ h w B0 O N Z' ψ' h' w':=by
 have cW:∀b,b<w.heap.size→w'.heap[b]? = w.heap[b]? := fun b hb=>k.block b hb (fun⟨id,h1,_⟩=>h1 rfl);have sm:cz Z w w':=fun b hb=>cW b (g.jP b hb);have nH:∀id,h' id≠none→(h id≠none∧ψ' id=ψ id)∨N id:=fun id bR=>by
  by_cases hn:N id
  ·exact .inr hn
  ·obtain⟨e1,e2⟩:=hold id hn;exact .inl ⟨by rwa [e1]at bR,e2⟩
 have yu:∀id b,¬N id→h' id≠none→ob (ψ' id)=some b→Own ψ h b:=fun id b hn h1 h2=>by obtain⟨e1,e2⟩:=hold id hn;exact⟨id,by rwa [e1]at h1,by rwa [e2]at h2⟩
 have kk:dh ψ h w w':=⟨k.os,k.tape,k.output,k.size,fun b hb _=>cW b hb⟩;refine⟨hz,fun b hb=>(Pz b hb).imp (fun h=>h) .inr,kk,nH,⟨fun id ty cs hb=>?_,fun id ok xs hb=>?_,fun id b h1 h2=>?_,fun id mL b h1 h2 h3 h4=>?_,afH⟩⟩
 ·by_cases hn:N id
  ·exact(P3 id ty cs hn hb).elim
  ·obtain⟨e1,e2⟩:=hold id hn;rw[e1]at hb;obtain⟨gg,vs,h1,h2,h3,h4⟩:=g.box id ty cs hb;exact⟨gg,vs,by rw[e2,h1],(cW gg (aa3.1 h2).1).trans h2,h3.move hz sm (fun i hp bR=>(nH i bR).resolve_right hp) (bz id ty cs hb),h4⟩
 ·by_cases hn:N id
  ·exact oo id ok xs hn hb
  ·obtain⟨e1,e2⟩:=hold id hn;rw[e1]at hb;rw[e2];exact(g.row id ok xs hb).kept hz sm (fun gg Nu=>cW gg (g.bT ⟨id,by rw[hb];simp,Nu⟩))
 ·by_cases hn:N id
  ·obtain⟨h3,h4⟩:=AS id b hn h1 h2;exact⟨h4,.inl (by omega)⟩
  ·obtain⟨e1,e2⟩:=hold id hn;rw[e1]at h1;rw[e2]at h2;have h3:=g.live id b h1 h2;refine⟨fun hzb=>?_,h3.2⟩;rcases Pz b hzb with h4|h4
   ·exact h3.1 h4
   ·have:=g.bT ⟨id,h1,h2⟩;omega
 ·by_cases hn:N id<;>by_cases Kj:N mL
  ·exact Ki id mL b hn Kj h1 h2 h3 h4
  ·have:=(AS id b hn h1 h3).1;have:=g.bT (yu mL b Kj h2 h4);omega
  ·have:=(AS mL b Kj h2 h4).1;have:=g.bT (yu id b hn h1 h3);omega
  ·obtain⟨e1,e2⟩:=hold id hn;obtain⟨e3,e4⟩:=hold mL Kj;rw[e1]at h1;rw[e2]at h3;rw[e3]at h2;rw[e4]at h4;exact g.apart id mL b h1 h2 h3 h4
theorem bI{r:RK}{rs:List RK}(h:(r::rs).all RK.plain=true):rs.all RK.plain=true:=by simp only[List.all_cons,Bool.and_eq_true]at h;exact h.2
theorem NJ{c:List CK}{rs:List RK}(h:(RK.agg c::rs).all RK.plain=true):c.length≤16:=by simp only[List.all_cons,Bool.and_eq_true,RK.plain,decide_eq_true_eq]at h;exact h.1
theorem lX:∀(c:List CK) (a:Nat) (x:qG c) (i:Nat),i<a→(bm c a x).get i=none
 |[],_,_,_,_=>rfl
 |.val _::r,a,x,i,h=>by simp only[bm];exact lX r (a+1) x.2 i (by omega)
 |.own ok::r,a,x,i,h=>by simp only[bm,Heap.get];rw[if_neg (by omega)];exact lX r (a+1) x.2 i (by omega)
theorem tZ:∀(c:List CK) (a:Nat) (x:qG c) (i:Nat),a+c.length≤i→(bm c a x).get i=none
 |[],_,_,_,_=>rfl
 |.val _::r,a,x,i,h=>by simp only[List.length_cons]at h;simp only[bm];exact tZ r (a+1) x.2 i (by omega)
 |.own ok::r,a,x,i,h=>by simp only[List.length_cons]at h;simp only[bm,Heap.get];rw[if_neg (by omega)];exact tZ r (a+1) x.2 i (by omega)
theorem ua:∀(c:List CK) (a b:Nat) (x:qG c) (j:Nat),(bm c a x).get (a+j)=(bm c b x).get (b+j)
 |[],_,_,_,_=>rfl
 |.val _::r,a,b,x,0=>by simp only[bm];rw[lX _ _ _ _ (by omega),lX _ _ _ _ (by omega)]
 |.own ok::r,a,b,x,0=>by simp[bm,Heap.get]
 |.val _::r,a,b,x,j+1=>by simp only[bm];rw[show a+(j+1)=a+1+j by omega,show b+(j+1)=b+1+j by omega];exact ua r (a+1) (b+1) x.2 j
 |.own ok::r,a,b,x,j+1=>by simp only[bm,Heap.get];rw[if_neg (by omega),if_neg (by omega),show a+(j+1)=a+1+j by omega,show b+(j+1)=b+1+j by omega];exact ua r (a+1) (b+1) x.2 j
theorem nN:∀(c:List CK) (a:Nat) (x:qG c) (i:Nat) (ty:TypeId) (cs:List AV),(bm c a x).get i≠some (.box ty cs)
 |[],_,_,_,_,_=>by simp[bm,Heap.get]
 |.val _::r,a,x,i,ty,cs=>by simp only[bm];exact nN r (a+1) x.2 i ty cs
 |.own ok::r,a,x,i,ty,cs=>by
  simp only[bm,Heap.get]
  split
  ·simp
  ·exact nN r (a+1) x.2 i ty cs
theorem q6:∀(rs:List RK) (a:Nat) (y:lM rs) (i:Nat),rs.all RK.plain=true→i<a→(ak rs a y).get i=none
 |[],a,y,i,_,h=>rfl
 |.val k::r,a,y,i,hp,h=>by simp only[ak];exact q6 r (a+1) y.2 i (bI hp) (by omega)
 |.own ok::r,a,y,i,hp,h=>by simp only[ak,Heap.get];rw[if_neg (by omega)];exact q6 r (a+1) y.2 i (bI hp) (by omega)
 |.eY _ _::r,a,y,i,hp,h=>by simp only[ak];exact q6 r (a+1) y.2 i (bI hp) (by omega)
 |.agg c::r,a,y,i,hp,h=>by have h1:(bm c a y.1).get i=none:=lX c a y.1 i h;have h2:=q6 r (a+1) y.2 i (bI hp) (by omega);show Heap.get (bm c a y.1++ak r (a+1) y.2) i=none;rw[Heap.get_append,h1,h2]
theorem HD:∀(rs:List RK) (a:Nat) (y:lM rs) (i:Nat),rs.all RK.plain=true→a+rs.length+16≤i→(ak rs a y).get i=none
 |[],a,y,i,_,h=>rfl
 |.val k::r,a,y,i,hp,h=>by simp only[List.length_cons]at h;simp only[ak];exact HD r (a+1) y.2 i (bI hp) (by omega)
 |.own ok::r,a,y,i,hp,h=>by simp only[List.length_cons]at h;simp only[ak,Heap.get];rw[if_neg (by omega)];exact HD r (a+1) y.2 i (bI hp) (by omega)
 |.eY _ _::r,a,y,i,hp,h=>by simp only[List.length_cons]at h;simp only[ak];exact HD r (a+1) y.2 i (bI hp) (by omega)
 |.agg c::r,a,y,i,hp,h=>by simp only[List.length_cons]at h;have hc:=NJ hp;have h1:(bm c a y.1).get i=none:=tZ c a y.1 i (by omega);have h2:=HD r (a+1) y.2 i (bI hp) (by omega);show Heap.get (bm c a y.1++ak r (a+1) y.2) i=none;rw[Heap.get_append,h1,h2]
theorem HE:∀(rs:List RK) (a b:Nat) (y:lM rs) (j:Nat),rs.all RK.plain=true→(ak rs a y).get (a+j)=(ak rs b y).get (b+j)
 |[],_,_,_,_,_=>rfl
 |.val k::r,a,b,y,0,hp=>by simp only[ak];rw[q6 _ _ _ _ (bI hp) (by omega),q6 _ _ _ _ (bI hp) (by omega)]
 |.eY _ _::r,a,b,y,0,hp=>by simp only[ak];rw[q6 _ _ _ _ (bI hp) (by omega),q6 _ _ _ _ (bI hp) (by omega)]
 |.own ok::r,a,b,y,0,hp=>by simp[ak,Heap.get]
 |.val k::r,a,b,y,j+1,hp=>by simp only[ak];rw[show a+(j+1)=a+1+j by omega,show b+(j+1)=b+1+j by omega];exact HE r (a+1) (b+1) y.2 j (bI hp)
 |.eY _ _::r,a,b,y,j+1,hp=>by simp only[ak];rw[show a+(j+1)=a+1+j by omega,show b+(j+1)=b+1+j by omega];exact HE r (a+1) (b+1) y.2 j (bI hp)
 |.own ok::r,a,b,y,j+1,hp=>by simp only[ak,Heap.get];rw[if_neg (by omega),if_neg (by omega),show a+(j+1)=a+1+j by omega,show b+(j+1)=b+1+j by omega];exact HE r (a+1) (b+1) y.2 j (bI hp)
 |.agg c::r,a,b,y,j,hp=>by
  have h1:(bm c a y.1).get (a+j)=(bm c b y.1).get (b+j):=ua c a b y.1 j;have h2:(ak r (a+1) y.2).get (a+j)=(ak r (b+1) y.2).get (b+j):=by
   cases j with
   |zero=>rw[q6 _ _ _ _ (bI hp) (by omega),q6 _ _ _ _ (bI hp) (by omega)]
   |succ j =>rw[show a+(j+1)=a+1+j by omega,show b+(j+1)=b+1+j by omega];exact HE r (a+1) (b+1) y.2 j (bI hp)
  show Heap.get (bm c a y.1++ak r (a+1) y.2) (a+j)=Heap.get (bm c b y.1++ak r (b+1) y.2) (b+j);rw[Heap.get_append,Heap.get_append,h1,h2]
theorem vd:∀(rs:List RK) (a:Nat) (y:lM rs) (i:Nat) (ty:TypeId) (cs:List AV),rs.all RK.plain=true→(ak rs a y).get i≠some (.box ty cs)
 |[],_,_,_,_,_,_=>by simp[ak,Heap.get]
 |.val k::r,a,y,i,ty,cs,hp=>by simp only[ak];exact vd r (a+1) y.2 i ty cs (bI hp)
 |.eY _ _::r,a,y,i,ty,cs,hp=>by simp only[ak];exact vd r (a+1) y.2 i ty cs (bI hp)
 |.own ok::r,a,y,i,ty,cs,hp=>by
  simp only[ak,Heap.get]
  split
  ·simp
  ·exact vd r (a+1) y.2 i ty cs (bI hp)
 |.agg c::r,a,y,i,ty,cs,hp=>by
  have h1:(bm c a y.1).get i≠some (.box ty cs):=nN c a y.1 i ty cs;show Heap.get (bm c a y.1++ak r (a+1) y.2) i≠some (.box ty cs);rw[Heap.get_append]
  split
  ·rename_i o ho;rw[ho]at h1;exact h1
  ·exact vd r (a+1) y.2 i ty cs (bI hp)
theorem lY(p:Nat→Prop):∀(k:K) (x:k.T),aG p (enc k x)
 |.int _,_=>by simp only[enc,aG,aM];exact⟨trivial,trivial⟩
 |.bool,_=>by simp only[enc,aG,aM];exact⟨trivial,trivial⟩
 |.str,_=>by simp only[enc,aG,aM];exact⟨trivial,trivial⟩
 |.sl _,_=>by simp only[enc,aG,aM];exact⟨trivial,trivial⟩
 |.mp _ _,_=>by simp only[enc,aG,aM];exact⟨trivial,trivial⟩
 |.pair a b,x=>by
  simp only[enc];have h1:=lY p a x.1;have h2:=lY p b x.2
  revert h1
  generalize enc a x.1=l
  induction l with
  |nil=>intro _;exact h2
  |cons c r ih=>intro h;simp only[List.cons_append,aG]at h ⊢;exact⟨h.1,ih h.2⟩
 |.one k,x=>by simp only[enc];exact lY p k x
theorem ou(p:Nat→Prop):∀(k:K) (x:k.T),aM p (cq k x)
 |.int _,_=>by simp only[cq,aM]
 |.bool,_=>by simp only[cq,aM]
 |.str,_=>by simp only[cq,aM]
 |.sl _,_=>by simp only[cq,aM]
 |.mp _ _,_=>by simp only[cq,aM]
 |.pair a b,x=>by simp only[cq,aM];exact lY p (.pair a b) x
 |.one k,x=>by simp only[cq,aM];exact lY p (.one k) x
theorem Qk{k:K}{x:k.T}{v:Value}(hr:aC Z ψ h w (cq k x) v):aC Z ψ' h' w (cq k x) v :=hr.move (p:=fun _=>False) (fun _ h=>h) (cz.refl _ _) (fun _ hp _=>hp.elim) (ou _ k x)
theorem UU(r:RK)(rs:List RK)(b:Nat)(y:lM (r::rs))(i:Nat)(hi:(ak rs (b+1) y.2).get i≠none):(ak (r::rs) b y).get i≠none:=by
 cases r with
 |val k=>exact hi
 |eY _ _=>exact hi
 |own ok=>simp only[ak,Heap.get];split<;>simp_all
 |agg c =>
  show Heap.get (bm c b y.1++ak rs (b+1) y.2) i≠none;rw[Heap.get_append]
  split
  ·simp
  ·exact hi
theorem Kw(c:List CK):∀{H:Hp} {a b:Nat} {x:qG c} {vs:List Value},(∀j,(bm c b x).get (b+j)≠none→h' (b+j)≠none→H (a+j)≠none∧ψ' (b+j)=ψ (a+j)) → aq Z ψ H w (aI c a x) vs→aq Z ψ' h' w (aI c b x) vs:=by
 induction c with
 |nil=>intro H a b x vs _ hr;simpa only[aI,aq] using hr
 |cons k c ih =>
  intro H a b x vs hH hr
  cases k with
  |val k =>have rW:aq Z ψ H w (enc k x.1++aI c (a+1) x.2) vs:=hr;obtain⟨us,ws,rfl,h1,h2⟩:=rW.split;show aq Z ψ' h' w (enc k x.1++aI c (b+1) x.2) (us++ws);refine(h1.move (p:=fun _=>False) (fun _ h=>h) (cz.refl _ _) (fun _ hp _=>hp.elim) (lY _ k x.1)).append (ih (fun j hj bw=>?_) h2);have:=hH (j+1);rw[show b+(j+1)=b+1+j by omega,show a+(j+1)=a+1+j by omega]at this;exact this hj bw
  |own ok =>
   have rW:aq Z ψ H w (.bK a::aI c (a+1) x.2) vs:=hr;simp only[aq]at rW;obtain⟨v,us,rfl,h1,h2⟩:=rW;show aq Z ψ' h' w (.bK b::aI c (b+1) x.2) (v::us);simp only[aq];refine⟨v,us,rfl,?_,ih (fun j hj bw=>?_) h2⟩
   ·simp only[aC]at h1 ⊢;refine⟨h1.1,fun bw=>?_⟩;obtain⟨h3,h4⟩:=hH 0 (by simp[bm,Heap.get]) bw;rw[Nat.add_zero,Nat.add_zero]at h4;rw[h4];exact h1.2 h3
   ·have:=hH (j+1);rw[show b+(j+1)=b+1+j by omega,show a+(j+1)=a+1+j by omega]at this;refine this ?_ bw;have e:(bm (.own ok::c) b x).get (b+1+j)=(bm c (b+1) x.2).get (b+1+j):=by simp only[bm,Heap.get];rw[if_neg (by omega)]
    rw[e];exact hj
theorem Ql(rs:List RK):∀{H:Hp} {n m a b:Nat} {y:lM rs} {vs:List Value},rs.all RK.plain=true→(∀j,(ak rs b y).get (b+j)≠none→h' (b+j)≠none→H (a+j)≠none∧ψ' (b+j)=ψ (a+j)) → aq Z ψ H w (bf rs [] n a y) vs→aq Z ψ' h' w (bf rs [] m b y) vs:=by
 induction rs with
 |nil=>intro H n m a b y vs _ _ hr;simpa only[bf,aq] using hr
 |cons r rs ih =>
  intro H n m a b y vs hp hH hr;have hpa:=hp;simp only[List.all_cons,Bool.and_eq_true]at hp;have Yd:∀j,(ak rs (b+1) y.2).get (b+1+j)≠none→h' (b+1+j)≠none→H (a+1+j)≠none∧ψ' (b+1+j)=ψ (a+1+j):=fun j hj bw=>by have:=hH (j+1);rw[show b+(j+1)=b+1+j by omega,show a+(j+1)=a+1+j by omega]at this;exact this (UU _ _ _ _ _ hj) bw
  cases r with
  |val k =>simp only[bf,aq]at hr ⊢;obtain⟨v,us,rfl,h1,h2⟩:=hr;exact⟨v,us,rfl,Qk h1,ih hp.2 Yd h2⟩
  |own ok =>simp only[bf,aq]at hr ⊢;obtain⟨v,us,rfl,h1,h2⟩:=hr;refine⟨v,us,rfl,?_,ih hp.2 Yd h2⟩;simp only[aC]at h1 ⊢;refine⟨h1.1,fun bw=>?_⟩;obtain⟨h3,h4⟩:=hH 0 (by simp[ak,Heap.get]) bw;rw[Nat.add_zero,Nat.add_zero]at h4;rw[h4];exact h1.2 h3
  |eY b c=>simp[RK.plain]at hp
  |agg c =>
   simp only[bf,aq]at hr ⊢;obtain⟨v,us,rfl,h1,h2⟩:=hr;refine⟨v,us,rfl,?_,ih hp.2 Yd h2⟩;simp only[aC]at h1 ⊢;obtain⟨ws,rfl,h3⟩:=h1;refine⟨ws,rfl,Kw c (fun j hj bw=>hH j ?_ bw) h3⟩;show Heap.get (bm c b y.1++ak rs (b+1) y.2) (b+j)≠none;rw[Heap.get_append]
   split
   ·simp
   ·rename_i yJ;exact absurd yJ hj
theorem ub{WI WJ:Nat→Value}{aaB aaC:Hp}{aaD aaE:Nat→Prop}{l l':List AV}{V:Value}(hl:l.length=l'.length)(hm:∀vs,aq aaD WI aaB w l vs→aq aaE WJ aaC w l' vs)(hr:aC aaD WI aaB w (fi l) V):aC aaE WJ aaC w (fi l') V:=by
 match l,l',hl with
 |[a],[a'],_ =>
  simp only[fi]at hr ⊢;have:=hm [V] (by simp only[aq];exact⟨V,[],rfl,hr,rfl⟩);simp only[aq]at this;obtain⟨v,us,e,h1,_⟩:=this
  cases e;exact h1
 |[],[],_ =>simp only[fi,aC]at hr ⊢;obtain⟨us,rfl,h1⟩:=hr;exact⟨us,rfl,hm _ h1⟩
 |a::b::r,a'::b'::r',_ =>simp only[fi,aC]at hr ⊢;obtain⟨us,rfl,h1⟩:=hr;exact⟨us,rfl,hm _ h1⟩
theorem kd(rs:List RK):∀(ids:List Nat) (n m:Nat) (y:lM rs),(bf rs ids n m y).length=rs.length:=by
 induction rs with
 |nil=>intros;rfl
 |cons r rs ih=>intro ids n m y;cases r<;>simp[bf,ih]
theorem z8:∀(k:K) (x:k.T) (r:List AV),dec k (enc k x++r)=some (x,r)
 |.int _,x,r=>by simp only[enc,List.cons_append,List.nil_append,dec,Fj,if_true];rfl
 |.bool,x,r=>by simp only[enc,List.cons_append,List.nil_append,dec,zP];rfl
 |.str,x,r=>by simp only[enc,List.cons_append,List.nil_append,dec,Fk];rfl
 |.sl k,x,r=>by simp only[enc,List.cons_append,List.nil_append,dec,LZ];rfl
 |.mp kk vk,x,r=>by simp only[enc,List.cons_append,List.nil_append,dec,L0];rfl
 |.pair a b,x,r=>by simp only[enc,dec,List.append_assoc];rw[z8 a x.1 (enc b x.2++r)];simp only[];rw[z8 b x.2 r];rfl
 |.one k,x,r=>by simp only[enc,dec];exact z8 k x r
theorem uc(k:K)(x:k.T):dz k (enc k x)=some x:=by unfold dz;have:=z8 k x [];rw[List.append_nil]at this;rw[this]
theorem ud:∀(k:K) (x:k.T),(cq k x).cells=enc k x
 |.int _,_=>rfl
 |.bool,_=>rfl
 |.str,_=>rfl
 |.sl _,_=>rfl
 |.mp _ _,_=>rfl
 |.pair a b,x=>rfl
 |.one k,x=>rfl
theorem Mc:∀(k:K) (x:k.T),cq k x≠.no
 |.int _,_=>by simp[cq]
 |.bool,_=>by simp[cq]
 |.str,_=>by simp[cq]
 |.sl _,_=>by simp[cq]
 |.mp _ _,_=>by simp[cq]
 |.pair a b,x=>by simp[cq]
 |.one k,x=>by simp[cq]
theorem Bi:∀(k:K) (x:k.T),(cq k x).isAgg=k.isAgg
 |.int _,_=>rfl
 |.bool,_=>rfl
 |.str,_=>rfl
 |.sl _,_=>rfl
 |.mp _ _,_=>rfl
 |.pair a b,x=>rfl
 |.one k,x=>rfl
theorem NK{k:K}{x:k.T}{v:Value}(hr:aC Z ψ h w (cq k x) v):aL Z w k x v.cells.toList:=by have h1:=hr.cells (Mc k x);rw[ud]at h1;exact dN (uc k x) h1
theorem Kx{k:K}{x:k.T}{v:Value}(hr:aC Z ψ h w (cq k x) v):(k.isAgg=true→∃vs,v=.agg vs)∧(k.isAgg=false→v.cells=#[v]) :=⟨fun h=>Qd (by rw[Bi];exact h) hr,fun h=>Eb (by rw[Bi];exact h) (Mc k x) hr⟩
theorem Qm(rs:List RK):∀{H:Hp} {n m a b:Nat} {y:lM rs} {vs:List Value},rs.all RK.flat=true→rs.all RK.plain=true→aq Z ψ H w (bf rs [] n a y) vs→aq Z' ψ' h' w' (bf rs [] m b y) vs:=by
 induction rs with
 |nil=>intro H n m a b y vs _ _ hr;simpa only[bf,aq] using hr
 |cons r rs ih =>
  intro H n m a b y vs hf hp hr;simp only[List.all_cons,Bool.and_eq_true]at hp hf
  cases r with
  |val k =>simp only[bf,aq]at hr ⊢;obtain⟨v,us,rfl,h1,h2⟩:=hr;have hk:k.flat=true:=hf.1;obtain⟨h3,h4⟩:=Kx h1;exact⟨v,us,rfl,lQ ((NK h1).flat hk) h3 h4,ih hf.2 hp.2 h2⟩
  |own ok=>simp[RK.flat]at hf
  |eY b c=>simp[RK.plain]at hp
  |agg c=>simp[RK.flat]at hf
theorem NL(rs:List RK):∀(a:Nat) (y:lM rs),rs.all RK.flat=true→rs.all RK.plain=true→ak rs a y=[]:=by
 induction rs with
 |nil=>intros;rfl
 |cons r rs ih =>
  intro a y hf hp;simp only[List.all_cons,Bool.and_eq_true]at hp hf
  cases r with
  |val k=>simp only[ak];exact ih _ _ hf.2 hp.2
  |own ok=>simp[RK.flat]at hf
  |eY b c=>simp[RK.plain]at hp
  |agg c=>simp[RK.flat]at hf
theorem ve:∀(ps:List PK) (vs:List AV),cJ ps vs=some []→∀v∈vs,∀id,AV.bK id∈v.cells→AV.bK id∈dx ps vs
 |[],vs,hi,v,hv,id,bR=>by
  cases vs with
  |nil=>cases hv
  |cons a r=>simp[cJ]at hi
 |p::ps,vs,hi,v,hv,id,bR=>by
  obtain⟨a,r,rfl,tQ,UT,Yb,Yc⟩:=yH hi;rcases aa1.1 hv with rfl|hv
  ·cases p with
   |val k=>simp only[dx];exact aa2 _ bR
   |ref=>exact absurd rfl UT.1
   |own=>exact absurd rfl UT.2
   |G5 f n=>rw[Yb f n rfl]at bR;simp[AV.cells]at bR
   |agg n=>rw[Yc n rfl]at bR;simp[AV.cells]at bR
  ·have:=ve ps r tQ v hv id bR
   cases p with
   |val k=>simp only[dx];exact aco _ this
   |ref=>exact absurd rfl UT.1
   |own=>exact absurd rfl UT.2
   |G5 f n=>simpa only[dx] using this
   |agg n=>simpa only[dx] using this
theorem Bj(f:FuncId)(vs:List AV):tN f vs%1000=f%1000:=by
 induction vs with
 |nil=>rfl
 |cons v r ih =>
  cases v with
  |fn g cap=>exact Nat.add_mul_mod_self_left f 1000 _
  |_=>simp only[tN];exact ih
theorem w4{Sg:FuncId→Option aS}(f:FuncId)(vs:List AV):keyOf Sg f vs%1000=f%1000:=by
 unfold keyOf
 split
 ·exact(Nat.add_mul_mod_self_right (tN f vs) 500 1000).trans (Bj f vs)
 ·exact Bj f vs
theorem Next.imp{N':Nat→Prop}(n:Next Z ψ h w B0 O N Z' ψ' h' w')(hi:∀i,N i→N' i):Next Z ψ h w B0 O N' Z' ψ' h' w' :=⟨n.fV,n.eR,n.keep,fun id bR=>(n.ids id bR).imp (fun h=>h) (hi id),n.ed⟩
theorem w5{rs:List RK}{y:lM rs}(hp:rs.all RK.plain=true){id nb:Nat}(g:Good Z ψ h w B0 O)(hB:B0≤w.heap.size) (bz:∀i ty cs,h i=some (.box ty cs)→aG (fun i=>¬N i) cs) (hN:∀j,j<rs.length+16→N (id+j)) (k:dh J3 gr w w') (hz:∀b,Z b→Z' b) (Pz:∀b,Z' b→Z b∨w.heap.size≤b) (gc:Good Z' ψ' (ak rs 3000 y).get w' w.heap.size (fun _=>False)) {v:Value} (hr:aC Z' ψ' (ak rs 3000 y).get w' (fi (bf rs [] 2000 3000 y)) v) :
  ∃ue,Next Z ψ h w B0 O N Z' ue (fun i=>match (ak rs id y).get i with|some o=>some o|none=>h i) w' ∧
   aC Z' ue (fun i=>match (ak rs id y).get i with|some o=>some o|none=>h i) w' (fi (bf rs [] nb id y)) v:=by
 classical
 let H:Hp:=fun i=>match (ak rs id y).get i with|some o=>some o|none=>h i
 let NN:Nat→Prop:=fun i=>(ak rs id y).get i≠none
 let ue:Nat→Value:=fun i=>if NN i then ψ' (3000+(i-id)) else ψ i
 have hNN:∀i,NN i→∃j,j<rs.length+16∧i=id+j:=fun i hi=>by have h1:¬i<id:=fun aF=>hi (q6 rs id y i hp aF);have h2:¬id+rs.length+16≤i:=fun WK=>hi (HD rs id y i hp WK);exact⟨i-id,by omega,by omega⟩
 have yK:∀i,NN i→(ak rs 3000 y).get (3000+(i-id))=(ak rs id y).get i:=fun i hi=>by obtain⟨j,_,rfl⟩:=hNN i hi;rw[show id+j-id=j by omega];exact HE rs 3000 id y j hp
 have hH:∀i,NN i→H i=(ak rs 3000 y).get (3000+(i-id)):=fun i hi=>by
  rw[yK i hi];show(match (ak rs id y).get i with|some o=>some o|none=>h i)=_
  cases e:(ak rs id y).get i with
  |none=>exact absurd e hi
  |some o=>rfl
 have ji:∀i,NN i→ue i=ψ' (3000+(i-id)):=fun i hi=>if_pos hi;have aaF:∀i,NN i→N i:=fun i hi=>by obtain⟨j,hj,rfl⟩:=hNN i hi;exact hN j hj
 have n:=Good.aaA (N:=NN) (ψ':=ue) (h':=H) g k hz Pz gc.jP (fun i hi=>by
   have e:(ak rs id y).get i=none:=Classical.not_not.1 hi;refine⟨?_,if_neg hi⟩;show(match (ak rs id y).get i with|some o=>some o|none=>h i)=h i;rw[e])
  (fun i ty cs hb=>(bz i ty cs hb).imp (fun i hi hni=>hi (aaF i hni)))
  (fun i ty cs hi hb=>by rw[hH i hi]at hb;exact vd _ _ _ _ _ _ hp hb)
  (fun i ok xs hi hb=>by rw[hH i hi]at hb;rw[ji i hi];exact gc.row _ _ _ hb)
  (fun i b hi h1 h2=>by rw[hH i hi]at h1;rw[ji i hi]at h2;obtain⟨h3,h4⟩:=gc.live _ b h1 h2;exact⟨h4.resolve_right (fun h=>h),h3⟩)
  (fun i i' b hi tQ h1 h2 h3 h4=>by rw[hH i hi]at h1;rw[hH i' tQ]at h2;rw[ji i hi]at h3;rw[ji i' tQ]at h4;have:=gc.apart _ _ b h1 h2 h3 h4;obtain⟨j,_,rfl⟩:=hNN i hi;obtain⟨j',_,rfl⟩:=hNN i' tQ;omega) hB
 refine⟨ue,n.imp aaF,?_⟩;refine ub (by rw[kd,kd]) (fun vs tR=>?_) hr;refine Ql (h':=H) (ψ':=ue) rs (n:=2000) (a:=3000) hp (fun j hn bw=>?_) tR
 replace hn:NN (id+j):=hn
 have e1:=hH _ hn;have e2:=ji _ hn;rw[show id+j-id=j by omega]at e1 e2;exact⟨by rw[←e1];exact bw,e2⟩
def jr(P:Program)(f:FuncId):Prop:=∃fn,P.funcs[f]? = some fn∧(fn.name== "runtime.NumGoroutine")=false∧fn.body.isSome=true
theorem js{f:FuncId}(hc:jr P f)(args:Array Value):(callFunc f args).run P w=.ok (.enter f args) w:=by obtain⟨fn,h1,h2,h3⟩:=hc;obtain⟨c,hc⟩:=adf.1 h3;simp[callFunc,h1,hc,show ¬fn.name= "runtime.NumGoroutine" by simpa using h2]
def WL(P:Program)(ρC:Operand→Value)(o:Oper)(Z:Nat→Prop)(ψ:Nat→Value)(h:Hp)(w:World)(B0:Nat)(O N:Nat→Prop)(e:bL):Prop :=∃f args,(execOp ρC o).run P w=.ok (.enter f args) w∧Calls P f args w fun en w'=>∃V Z' ψ',en=.returned V∧Next Z ψ h w B0 O N Z' ψ' (e.hp h) w'∧aC Z' ψ' (e.hp h) w' e.v V
def cI:(rs:List RK)→List AV→Nat→lM rs→List yG
 |[],_,_,_=>[]
 |.own ok::r,vs,m,x=>(m,(pe (vs.headD .no)).head?,.own ok x.1)::cI r vs.tail (m+1) x.2
 |.val _::r,vs,m,x=>cI r vs.tail (m+1) x.2
 |.eY _ _::r,vs,m,x=>cI r vs.tail (m+1) x.2
 |.agg c::r,vs,m,x=>dP c m (vs.headD .no).cells x.1++cI r vs.tail (m+1) x.2
theorem gK:∀(rs:List RK) (vs:List AV) (m:Nat) (x:lM rs),dJ (cI rs vs m x)=ak rs m x
 |[],_,_,_=>rfl
 |.own ok::r,vs,m,x=>by simp only[cI,ak];rw[←gK r vs.tail (m+1) x.2];rfl
 |.val _::r,vs,m,x=>gK r vs.tail (m+1) x.2
 |.eY _ _::r,vs,m,x=>gK r vs.tail (m+1) x.2
 |.agg c::r,vs,m,x=>by have e1:dJ (dP c m (vs.headD .no).cells x.1)=bm c m x.1:=mV c m _ x.1;have e2:=gK r vs.tail (m+1) x.2;simp only[cI,ak];rw[mW,e2];exact congrArg (·++_) e1
theorem fP:∀(rs:List RK) (vs:List AV) (m:Nat) (x:lM rs),(cI rs vs m x).map (·.1)=bD rs m
 |[],_,_,_=>rfl
 |.own ok::r,vs,m,x=>by simp only[cI,bD,List.map_cons];rw[fP r vs.tail (m+1) x.2]
 |.val _::r,vs,m,x=>fP r vs.tail (m+1) x.2
 |.eY _ _::r,vs,m,x=>fP r vs.tail (m+1) x.2
 |.agg c::r,vs,m,x=>by have e1:(dP c m (vs.headD .no).cells x.1).map (·.1)=cr c m:=lj c m _ x.1;have e2:=fP r vs.tail (m+1) x.2;simp only[cI,bD,List.map_append];rw[e2];exact congrArg (·++_) e1
theorem pH{bs:List BK}{k:K}{r:List RK}{hh:Heap}{ids:List Nat}{vs:List AV}{x:lM (.val k::r)}(hd:bM bs (.val k::r) hh ids vs=some x):∃v hY,vs=v::hY∧fY k hh v=some x.1∧bM bs r hh ids hY=some x.2:=by
 cases vs with
 |nil=>cases hd
 |cons v vs =>
  have e:bM bs (.val k::r) hh ids (v::vs)=(match fY k hh v,bM bs r hh ids vs with
   |some x,some y=>some ((x,y):k.T×lM r)
   |_,_=>none):=rfl
  rw[e]at hd;clear e;refine⟨v,vs,rfl,?_⟩;generalize fY k hh v=o1 at hd ⊢;generalize bM bs r hh ids vs=o2 at hd ⊢
  cases o1 with
  |none=>cases hd
  |some x1 =>
   cases o2 with
   |none=>cases hd
   |some y1=>have:=acv hd;subst this;exact⟨rfl,rfl⟩
theorem pI{bs:List BK}{ok:OK}{r:List RK}{hh:Heap}{ids:List Nat}{vs:List AV}{x:lM (.own ok::r)}(hd:bM bs (.own ok::r) hh ids vs=some x):∃v hY,vs=v::hY∧dY hh ok v=some x.1∧bM bs r hh ids hY=some x.2:=by
 cases vs with
 |nil=>cases hd
 |cons v vs =>
  have e:bM bs (.own ok::r) hh ids (v::vs)=(match dY hh ok v,bM bs r hh ids vs with
   |some x,some y=>some ((x,y):ok.T×lM r)
   |_,_=>none):=rfl
  rw[e]at hd;clear e;refine⟨v,vs,rfl,?_⟩;generalize dY hh ok v=o1 at hd ⊢;generalize bM bs r hh ids vs=o2 at hd ⊢
  cases o1 with
  |none=>cases hd
  |some x1 =>
   cases o2 with
   |none=>cases hd
   |some y1=>have:=acv hd;subst this;exact⟨rfl,rfl⟩
theorem mX{bs:List BK}{b:Nat}{alts:List (Nat×Nat×Nat)}{r:List RK}{hh:Heap}{ids:List Nat}{vs:List AV}{x:lM (.eY b alts::r)}(hd:bM bs (.eY b alts::r) hh ids vs=some x):∃v hY,vs=v::hY∧nC bs hh ids b alts v=some x.1∧bM bs r hh ids hY=some x.2:=by
 cases vs with
 |nil=>cases hd
 |cons v vs =>
  have e:bM bs (.eY b alts::r) hh ids (v::vs)=(match nC bs hh ids b alts v,bM bs r hh ids vs with
   |some x,some y=>some ((x,y):Option (Fin alts.length×Nat)×lM r)
   |_,_=>none):=rfl
  rw[e]at hd;clear e;refine⟨v,vs,rfl,?_⟩;generalize nC bs hh ids b alts v=o1 at hd ⊢;generalize bM bs r hh ids vs=o2 at hd ⊢
  cases o1 with
  |none=>cases hd
  |some x1 =>
   cases o2 with
   |none=>cases hd
   |some y1=>have:=acv hd;subst this;exact⟨rfl,rfl⟩
theorem pJ{bs:List BK}{c:List CK}{r:List RK}{hh:Heap}{ids:List Nat}{vs:List AV}{x:lM (.agg c::r)}(hd:bM bs (.agg c::r) hh ids vs=some x):∃cs hY,vs=.agg cs::hY∧cS c hh cs=some x.1∧bM bs r hh ids hY=some x.2:=by
 cases vs with
 |nil=>cases hd
 |cons v vs =>
  have e:bM bs (.agg c::r) hh ids (v::vs)=(match AK c hh v,bM bs r hh ids vs with
   |some x,some y=>some ((x,y):qG c×lM r)
   |_,_=>none):=rfl
  rw[e]at hd;clear e;have key:AK c hh v=some x.1∧bM bs r hh ids vs=some x.2:=by
   generalize AK c hh v=o1 at hd ⊢;generalize bM bs r hh ids vs=o2 at hd ⊢
   cases o1 with
   |none=>cases hd
   |some x1 =>
    cases o2 with
    |none=>cases hd
    |some y1=>have:=acv hd;subst this;exact⟨rfl,rfl⟩
  obtain⟨h1,h2⟩:=key;unfold AK at h1
  split at h1
  ·exact⟨_,vs,rfl,h1,h2⟩
  ·cases h1
theorem hZ{bs:List BK}{hh:Heap}{ids:List Nat}:∀(rs:List RK) (vs:List AV) (x:lM rs),bM bs rs hh ids vs=some x→vs.length=rs.length
 |[],[],_,_=>rfl
 |[],_::_,_,h=>by cases h
 |.val k::r,vs,x,h=>by obtain⟨v,hY,rfl,_,h2⟩:=pH h;simp[hZ r hY x.2 h2]
 |.own ok::r,vs,x,h=>by obtain⟨v,hY,rfl,_,h2⟩:=pI h;simp[hZ r hY x.2 h2]
 |.eY _ _::r,vs,x,h=>by obtain⟨v,hY,rfl,_,h2⟩:=mX h;simp[hZ r hY x.2 h2]
 |.agg _::r,vs,x,h=>by obtain⟨v,hY,rfl,_,h2⟩:=pJ h;simp[hZ r hY x.2 h2]
theorem iQ{bs:List BK}{hh:Heap}{ids:List Nat}:∀(rs:List RK) (vs:List AV) (m:Nat) (x:lM rs),bM bs rs hh ids vs=some x→(cI rs vs m x).filterMap (·.2.1)=dU rs vs
 |[],vs,_,_,_=>by cases vs<;>rfl
 |.own ok::r,vs,m,x,h=>by obtain⟨v,hY,rfl,_,h2⟩:=pI h;simp only[cI,dU,List.headD_cons,List.tail_cons];rw[dW,iQ r hY (m+1) x.2 h2];simp only[];rw[wY]
 |.val k::r,vs,m,x,h=>by obtain⟨v,hY,rfl,_,h2⟩:=pH h;simp only[cI,dU,List.tail_cons];exact iQ r hY (m+1) x.2 h2
 |.eY _ _::r,vs,m,x,h=>by obtain⟨v,hY,rfl,_,h2⟩:=mX h;simp only[cI,dU,List.tail_cons];exact iQ r hY (m+1) x.2 h2
 |.agg c::r,vs,m,x,h=>by obtain⟨cs,hY,rfl,h1,h2⟩:=pJ h;simp only[cI,dU,List.headD_cons,List.tail_cons,AV.cells];have e1:(dP c m cs x.1).filterMap (·.2.1)=fU c cs:=pz c m hh cs x.1 h1;rw[List.filterMap_append,iQ r hY (m+1) x.2 h2];exact congrArg (·++_) e1
theorem jU{hd:Hp}{bs:List BK}{hh:Heap}{ids:List Nat}:∀(rs:List RK) (vs:List AV) (m:Nat) (x:lM rs),bM bs rs hh ids vs=some x→(∀s∈dU rs vs,hd s=hh.get s)→∀e∈cI rs vs m x,vc Z ψ hd w h' ψ' e
 |[],_,_,_,_,_,e,he=>by simp[cI]at he
 |.own ok::r,vs,m,x,h,hk,e,he=>by
  obtain⟨v,hY,rfl,h1,h2⟩:=pI h;simp only[cI,dU,List.headD_cons,List.tail_cons]at he hk;rcases aa1.1 he with rfl|he
  ·exact Mb h1 fun s hs=>hk s (aa2 _ hs)
  ·exact jU r hY (m+1) x.2 h2 (fun s hs=>hk s (aco _ hs)) e he
 |.val k::r,vs,m,x,h,hk,e,he=>by obtain⟨v,hY,rfl,h1,h2⟩:=pH h;exact jU r hY (m+1) x.2 h2 hk e he
 |.eY _ _::r,vs,m,x,h,hk,e,he=>by obtain⟨v,hY,rfl,h1,h2⟩:=mX h;exact jU r hY (m+1) x.2 h2 hk e he
 |.agg c::r,vs,m,x,h,hk,e,he=>by
  obtain⟨cs,hY,rfl,h1,h2⟩:=pJ h;simp only[cI,dU,List.headD_cons,List.tail_cons,AV.cells]at he hk;rcases acw.1 he with he|he
  ·exact sj c m cs x.1 h1 (fun s hs=>hk s (aa2 _ hs)) e he
  ·exact jU r hY (m+1) x.2 h2 (fun s hs=>hk s (aco _ hs)) e he
theorem w6{hh:Heap}{id:Nat}:∀(dy:List CK) (c n:Nat) (cs:List AV) (x:qG dy),cS dy hh cs=some x→fZ dy c=true→cs[mR dy c]? = some (.bK id)→hh.get id≠none∧∃o,(n+c,some id,o)∈dP dy n cs x
 |[],c,n,cs,x,_,h,_=>by simp[fZ]at h
 |.val k::r,0,n,cs,x,_,h,_=>by simp[fZ]at h
 |.val k::r,c+1,n,cs,x,hd,h,hc=>by obtain⟨_,h2⟩:=py hd;obtain⟨h3,o,h4⟩:=w6 r c (n+1) (cs.drop k.sz) x.2 h2 (by simpa[fZ] using h) (by rw[List.getElem?_drop];simpa[mR] using hc);exact⟨h3,o,by rw[show n+(c+1)=n+1+c by omega];exact h4⟩
 |.own ok::r,0,n,cs,x,hd,h,hc=>by
  obtain⟨c0,cs',rfl,h1,h2⟩:=lU hd;simp only[mR,List.getElem?_cons_zero,Option.some.injEq]at hc;subst hc;rcases lV h1 with⟨h3,_⟩|⟨mL,h3,h4⟩
  ·cases h3
  ·cases h3
   exact⟨by rw[h4];simp,_,by simp only[dP,List.headD_cons,pe,List.head?_cons];exact acr⟩
 |.own ok::r,c+1,n,cs,x,hd,h,hc=>by obtain⟨c0,cs',rfl,h1,h2⟩:=lU hd;obtain⟨h3,o,h4⟩:=w6 r c (n+1) cs' x.2 h2 (by simpa[fZ] using h) (by simp only[mR]at hc;rw[Nat.add_comm]at hc;simpa using hc);exact⟨h3,o,by rw[show n+(c+1)=n+1+c by omega];simp only[dP,List.tail_cons];exact aaY _ h4⟩
theorem Bk{hh:Heap}{id c:Nat}:∀(bs:List BK) (b n:Nat) (is is':List Nat) (x:wK bs) (bk:BK) (bi:Nat) (ty:TypeId) (cs:List AV),de bs hh is=some x→is'.length=bs.length→bs[b]? = some bk→is[b]? = some bi→hh.get bi=some (.box ty cs) → fZ bk.dy c=true→cs[mR bk.dy c]? = some (.bK id)→hh.get id≠none∧∃o,(n+16*b+c,some id,o)∈cF bs hh is is' n x
 |[],b,n,is,is',x,bk,bi,ty,cs,_,_,h,_,_,_,_=>by simp at h
 |b0::r,b,n,[],is',x,bk,bi,ty,cs,hd,_,_,_,_,_,_=>by cases hd
 |b0::r,b,n,i::is,[],x,bk,bi,ty,cs,_,hl,_,_,_,_,_=>by simp at hl
 |b0::r,0,n,i::is,i'::is',x,bk,bi,ty,cs,hd,hl,h1,h2,h3,h4,h5=>by
  obtain⟨g0,g3⟩:=fB hd;simp only[List.getElem?_cons_zero,Option.some.injEq]at h1 h2;subst h1;subst h2
  cases b0 with
  |own ok=>simp[BK.dy,fZ]at h4
  |box ty0 c0 =>
   obtain⟨cs',g1,g2⟩:=si g0;rw[g1]at h3
   cases h3
   obtain⟨h6,o,h7⟩:=w6 c0 c n cs x.1 g2 h4 h5;refine⟨h6,o,?_⟩;simp only[cF,dV];rw[pC g1];exact aa2 _ (aaY _ (by simpa using h7))
 |b0::r,b+1,n,i::is,i'::is',x,bk,bi,ty,cs,hd,hl,h1,h2,h3,h4,h5=>by obtain⟨_,g3⟩:=fB hd;obtain⟨h6,o,h7⟩:=Bk r b (n+16) is is' x.2 bk bi ty cs g3 (by simpa using hl) (by simpa using h1) (by simpa using h2) h3 h4 h5;refine⟨h6,o,?_⟩;rw[show n+16*(b+1)+c=n+16+16*b+c by omega];simp only[cF];exact aco _ h7
theorem Bl{c:List CK}{cs:List AV}{id s off:Nat}{a:Nat×Nat×Nat}(h:yp c cs id s off a=true):cs[mR c a.1]? = some (.bK id)∧s=a.2.1∧off=a.2.2∧fZ c a.1=true:=by
 simp only[yp,Bool.and_eq_true,decide_eq_true_eq]at h;obtain⟨h1,h2,h3,h4⟩:=h;refine⟨?_,h2,h3,h4⟩;unfold PY at h1
 split at h1
 ·rename_i e;rw[e];simp only[beq_iff_eq]at h1;rw[h1]
 ·cases h1
theorem NM{bs:List BK}{hh:Heap}{ids:List Nat}{b:Nat}{alts:List (Nat×Nat×Nat)}{v:AV}{x:Option (Fin alts.length×Nat)}(hd:nC bs hh ids b alts v=some x):(v=.lf∧x=none) ∨ ∃id i a bi bk ty cs,v=.ref id (alts.get a).2.1 i (alts.get a).2.2∧x=some (a,i)∧ids[b]? = some bi∧bs[b]? = some bk∧hh.get bi=some (.box ty cs)∧cs[mR bk.dy (alts.get a).1]? = some (.bK id)∧fZ bk.dy (alts.get a).1=true:=by
 unfold nC at hd
 split at hd
 ·cases hd;exact .inl ⟨rfl,rfl⟩
 ·rename_i id s i off
  split at hd
  ·rename_i bi bk h1 h2
   split at hd
   ·rename_i ty cs h3
    split at hd
    ·rename_i a h4
     cases hd
     have h4':yp bk.dy cs id s off (alts.get a)=true:=by simpa using aeF (p:=fun a=>yp bk.dy cs id s off (alts.get a)) h4
     obtain⟨h5,rfl,rfl,h6⟩:=Bl h4';exact .inr ⟨id,i,a,bi,bk,ty,cs,rfl,rfl,h1,h2,h3,h5,h6⟩
    ·cases hd
   ·cases hd
  ·cases hd
 ·cases hd
theorem sq{bs:List BK}{hh:Heap}{ids is' ids2:List Nat}{nb:Nat}{yb:wK bs}(g:Good Z ψ hh.get w B0 O)(hz:∀b,Z b→Z' b)(hb:de bs hh ids=some yb)(hl:is'.length=bs.length) (Qn:∀e∈cF bs hh ids is' nb yb,h' e.1≠none→ψ' e.1=jS ψ e.2.1):∀(rs:List RK) (vs:List AV) (m:Nat) (x:lM rs) (us:List Value),bM bs rs hh ids vs=some x →(∀id b,AV.bK id∈gj rs vs→hh.get id≠none→ob (ψ id)=some b→Z' b)→(∀e∈cI rs vs m x,h' e.1≠none→ψ' e.1=jS ψ e.2.1)→aq Z ψ hh.get w vs us→aq Z' ψ' h' w (bf rs ids2 nb m x) us
 |[],vs,m,x,us,hd,_,_,hr=>by have:=hZ [] vs x hd;have hv:vs=[]:=adn this;subst hv;simpa only[bf,aq] using hr
 |.val k::r,vs,m,x,us,hd,hf,ji,hr=>by obtain⟨v,hY,rfl,h1,h2⟩:=pH hd;simp only[aq]at hr;obtain⟨u,je,rfl,h3,h4⟩:=hr;simp only[bf,aq];simp only[gj]at hf;exact⟨u,je,rfl,r8 g hz (fun id b bR=>hf id b (aa2 _ bR)) h1 h3,sq g hz hb hl Qn r hY (m+1) x.2 je h2 (fun id b bR=>hf id b (aco _ bR)) ji h4⟩
 |.own ok::r,vs,m,x,us,hd,hf,ji,hr=>by obtain⟨v,hY,rfl,h1,h2⟩:=pI hd;simp only[aq]at hr;obtain⟨u,je,rfl,h3,h4⟩:=hr;simp only[bf,aq];simp only[cI,List.headD_cons,List.tail_cons]at ji;exact⟨u,je,rfl,FC h1 h3 (fun hn=>ji _ acr hn),sq g hz hb hl Qn r hY (m+1) x.2 je h2 hf (fun e he=>ji e (aaY _ he)) h4⟩
 |.eY b alts::r,vs,m,x,us,hd,hf,ji,hr=>by
  obtain⟨v,hY,rfl,h1,h2⟩:=mX hd;simp only[aq]at hr;obtain⟨u,je,rfl,h3,h4⟩:=hr;simp only[bf,aq];refine⟨u,je,rfl,?_,sq g hz hb hl Qn r hY (m+1) x.2 je h2 hf ji h4⟩;rcases NM h1 with⟨rfl,h5⟩|⟨id,i,al,bi,bk,ty,cs,rfl,h5,h6,h7,h8,h9,nG⟩
  ·have:x.1=none:=h5;rw[this];simpa only[uO,aC] using h3
  ·have:x.1=some (al,i):=h5;rw[this];obtain⟨zw,o,J1⟩:=Bk bs b nb ids is' yb bk bi ty cs hb hl h7 h6 h8 nG h9;simp only[uO,aC]at h3 ⊢;obtain⟨ad,Um,WM⟩:=h3;refine⟨ad,Um,fun hn=>?_⟩;rw[Qn _ J1 hn,WM zw];rfl
 |.agg c::r,vs,m,x,us,hd,hf,ji,hr=>by obtain⟨cs,hY,rfl,h1,h2⟩:=pJ hd;simp only[aq]at hr;obtain⟨u,je,rfl,h3,h4⟩:=hr;simp only[bf,aq];simp only[gj,AV.cells]at hf;simp only[cI,List.headD_cons,List.tail_cons,AV.cells]at ji;refine⟨u,je,rfl,?_,sq g hz hb hl Qn r hY (m+1) x.2 je h2 (fun id b bR=>hf id b (aco _ bR)) (fun e he=>ji e (aco _ he)) h4⟩;simp only[aC]at h3 ⊢;obtain⟨ws,rfl,h5⟩:=h3;exact⟨ws,rfl,sf g hz c m cs x.1 _ h1 (fun id b bR=>hf id b (aa2 _ bR)) (fun e he=>ji e (aa2 _ he)) h5⟩
end Go.Vs
