/- The value semantics is sound -/
import Derived.Test.YtpkfpbpbkabkdaaGreatEngineA
import Derived.Laws.StructEq
import Derived.Laws.Slices
import Derived.Laws.Strings
import Derived.MapKept
set_option linter.unusedSimpArgs false
set_option linter.unusedVariables false
namespace Go.Vs
variable {P:Program} {Z Z':Nat→Prop} {ψ ψ':Nat→Value} {h h':Hp} {w w':World} {B0:Nat} {O:Nat→Prop} {N:Nat→Prop}
def bZ.hp(h:Hp):bZ→Hp
 |.val _=>h
 |.new _ os=>fun i=>match Heap.get os i with
  |some o=>some o
  |none=>h i
 |.wr _ h'=>h'.get
theorem jL(id:Nat)(o:Ob)(h:Hp):(fun i=>match Heap.get [(id,o)] i with|some o=>some o|none=>h i)=fE h id (some o):=by
 funext i;simp only[Heap.get,fE];by_cases e:i=id
 ·subst e;simp
 ·rw[if_neg (fun x=>e x.symm),if_neg e]
theorem oU(hh:Heap)(id:Nat)(o:Ob):(hh.set id o).get=fE hh.get id (some o):=by
 funext i;by_cases e:i=id
 ·subst e;rw[Heap.IA,bE]
 ·rw[Heap.Np e,dI _ _ e]
theorem xL(hh:Heap)(id:Nat):(hh.del id).get=fE hh.get id none:=by
 funext i;by_cases e:i=id
 ·subst e;rw[Heap.iH,bE]
 ·rw[Heap.jJ e,dI _ _ e]
theorem Dq(hh:Heap)(id:Nat)(o:Ob):Heap.get ((id,o)::hh)=fE hh.get id (some o):=by
 funext i;simp only[Heap.get,fE];by_cases e:i=id
 ·subst e;simp
 ·rw[if_neg (fun x=>e x.symm),if_neg e]
def jm(P:Program)(ρC:Operand→Value)(o:Oper)(Z:Nat→Prop)(ψ:Nat→Value)(h:Hp)(w:World)(B0:Nat)(O N:Nat→Prop)(e:bZ):Prop :=∃V w' Z' ψ',((execOp ρC o).run P w=.ok (.value V) w'∨((execOp ρC o).run P w=.ok .skip w'∧V=undef))∧Next Z ψ h w B0 O N Z' ψ' (e.hp h) w'∧aD Z' ψ' (e.hp h) w' e.v V
theorem jm.val{ρC:Operand→Value}{o:Oper}{x:AV}(g:Good Z ψ h w B0 O){V:Value}(hr:(execOp ρC o).run P w=.ok (.value V) w)(hx:aD Z ψ h w x V):jm P ρC o Z ψ h w B0 O N (.val x) :=⟨V,w,Z,ψ,.inl hr,Next.refl g,hx⟩
theorem T3{ty:TypeId}{k:K}{xs:List k.T}{id n:Nat}{x:k.T}(g:Good Z ψ h w B0 O)(hg:h id=some (.own (.row ty k) xs))(hx:xs[n]? = some x) :
  ∃gg us,Yr (ψ id)=gg∧aQ Z w k x us∧∀(j:Nat) u,us[j]? = some u→w.cell? ⟨gg,n*k.sz+j,none⟩=some u:=by
 obtain⟨vs,ho,hv⟩:=g.row id (.row ty k) xs hg;have hn:n<xs.length:=(abg.1 hx).1;obtain⟨hl,e⟩:=ho;rcases e with⟨h0,_⟩|⟨gg,cap,cur,e1,_,e3,_,_,_,e7⟩
 ·omega
 ·refine⟨gg,_,by rw[e1];rfl,hv n x hx,fun j u hu=>?_⟩;rw[List.getElem?_take]at hu
  split at hu
  ·rw[List.getElem?_drop,←e7,List.getElem?_take]at hu
   split at hu
   ·simp only[World.cell?,e3];simpa using hu
   ·cases hu
  ·cases hu
theorem wG{hh:Heap}(g:Good Z ψ h w B0 O)(bL:∀id o,hh.get id=some o→h id=some o){t:TypeId}{a:AV}{v:Value}{e:bZ}(hv:aD Z ψ h w a v)(he:nF P hh t a some=some e) :
  ∃x V,e=.val x∧(Instr.loadAt t v).run P w=.ok V w∧aD Z ψ h w x V:=by
 unfold nF at he
 split at he
 ·rename_i id s i off;simp only[aD]at hv;obtain⟨a,rfl,ha⟩:=hv
  split at he
  ·rename_i ty cs hg;have Dt:=bL _ _ hg;have Kl:=ha (by rw[Dt];simp);obtain⟨gg,vs,e1,e2,e3,e4⟩:=g.box id ty cs Dt
   split at he
   ·rename_i hi;subst hi
    split at he
    ·rename_i x hx
     cases he
     rw[e1]at Kl;simp only[Yr,Nat.zero_mul,Nat.zero_add]at Kl;subst Kl;obtain⟨V,h1,h2⟩:=kU (a:=⟨gg,off,none⟩) (e3.drop off) (fun j u hu=>by rw[dp];simp only[World.cell?,e2];rw[List.getElem?_drop]at hu;simpa using hu) hx;exact⟨x,V,rfl,h1,h2⟩
    ·cases he
   ·cases he
  ·rename_i ty kk xs hg;have Dt:=bL _ _ hg;have Kl:=ha (by rw[Dt];simp)
   split at he
   ·rename_i hs;subst hs;obtain⟨x,hx,he⟩:=acR.1 he
    split at he
    ·rename_i y hy
     cases he
     obtain⟨gg,us,h1,h2,h3⟩:=T3 g Dt hx;rw[h1]at Kl;subst Kl;obtain⟨V,h4,h5⟩:=kU (a:=⟨gg,i*kk.sz+off,none⟩) ((jB (ψ:=ψ) (h:=h) h2).drop off) (fun j u hu=>by rw[dp,Nat.add_assoc];exact h3 _ _ (by rw[List.getElem?_drop]at hu;exact hu)) hy;exact⟨y,V,rfl,h4,h5⟩
    ·cases he
   ·cases he
  ·cases he
 ·rename_i kk x off
  split at he
  ·rename_i y hy
   cases he
   simp only[aD]at hv;obtain⟨a,us,rfl,_,h2,h3⟩:=hv;obtain⟨V,h4,h5⟩:=kU ((jB (ψ:=ψ) (h:=h) h2).drop off) (fun j u hu=>h3 j u (by rw[List.getElem?_drop]at hu;exact hu)) hy;exact⟨y,V,rfl,h4,h5⟩
  ·cases he
 ·cases he
theorem pQ{t e:TypeId}(he:A1 P t=some e):P.underlying t=some (.slice e):=by
 unfold A1 at he
 split at he
 ·cases he;assumption
 ·cases he
theorem pR{t e:TypeId}(ht:P.underlying t=some (.slice e)){i:TypeInfo}(hi:P.info? e=some i)(a:Addr)(n c:Nat)(k:IntKind)(j:Int)(h0:0≤j)(h1:j<n) :
  (Instr.indexAt t (.slice (some a) n c) (.int k j)).run P w=.ok (.pointer (some (a.add (j.toNat*P.cellsOf e)))) w:=by
 simp[Instr.indexAt,asIntOf,run_underlying ht,h0,h1,eJ hi]
theorem Rn{α:Type}{xs:List α}{i:Int}{x:α}(hx:bm xs i=some x):0≤i∧i<xs.length∧xs[i.toNat]? = some x:=by
 unfold bm at hx
 split at hx
 ·rename_i h0;have:=(abg.1 hx).1;exact⟨h0,by omega,hx⟩
 ·cases hx
theorem sF{hh:Heap}(g:Good Z ψ h w B0 O)(bL:∀id o,hh.get id=some o→h id=some o){t:TypeId}{x i:AV}{v u:Value}{e:bZ}(hv:aD Z ψ h w x v)(hu:aD Z ψ h w i u)(he:eI P hh t x i some=some e) :
  ∃y V,e=.val y∧(Instr.indexAt t v u).run P w=.ok V w∧aD Z ψ h w y V:=by
 unfold eI at he
 split at he
 ·cases he
 ·rename_i et het;have ht:=pQ het
  ·skip
   split at he
   ·rename_i ex Ps xs ik n;simp only[aD]at hv hu;subst hu
    split at he
    ·rename_i hs;obtain⟨y,hy,he⟩:=acR.1 he
     cases he
     obtain⟨h0,h1,h2⟩:=Rn hy;obtain⟨hk,_⟩:=hv;simp only[aQ]at hk;obtain⟨v',Du,A,c,rfl,_,_,M6⟩:=hk
     cases Du
     obtain⟨a,us,rfl,hz,hr,hc⟩:=M6 _ _ h2;have hi:∃i,P.info? et=some i:=by
      cases hi:P.info? et with
      |some i=>exact⟨i,rfl⟩
      |none=>exfalso;have:=Ps.jI;simp[Program.cellsOf,hi]at hs;omega
     obtain⟨inf,hi⟩:=hi;refine⟨_,_,rfl,pR ht hi a xs.length c ik n h0 h1,?_⟩;simp only[aD];refine⟨_,us,rfl,by rw[gH];exact hz,hr,fun j u hu=>?_⟩;rw[xD,hs];exact hc j u (by simpa using hu)
    ·cases he
   ·rename_i id ik n
    split at he
    ·rename_i ty Ps xs hg;have Dt:=bL _ _ hg
     split at he
     ·rename_i hs
      cases Dp:(decide (0≤n)&&decide (n<(xs.length:Int))) with
      |false=>rw[Dp]at he;cases he
      |true =>
       rw[Dp]at he
       cases he
       simp only[Bool.and_eq_true,decide_eq_true_eq]at Dp;simp only[aD]at hv hu;subst hu;have hvv:=hv.2 (by rw[Dt];simp);obtain⟨vs,⟨_,e⟩,_⟩:=g.row id (.row ty Ps) xs Dt;rcases e with⟨h0,_⟩|⟨gg,cap,cur,e1,_,e3,_⟩
       ·omega
       ·have hi:∃i,P.info? et=some i:=by
         cases hi:P.info? et with
         |some i=>exact⟨i,rfl⟩
         |none=>exfalso;have:=Ps.jI;simp[Program.cellsOf,hi]at hs;omega
        obtain⟨inf,hi⟩:=hi;rw[hvv,e1];refine⟨_,_,rfl,pR ht hi _ xs.length cap ik n Dp.1 Dp.2,?_⟩;simp only[aD];refine⟨_,rfl,fun _=>?_⟩;rw[e1,hs,dp];simp[Yr]
     ·cases he
    ·cases he
   ·cases he
theorem vI{t:TypeId}(h:P.cellsOf t≠0):∃i,P.info? t=some i:=by
 cases hi:P.info? t with
 |some i=>exact⟨i,rfl⟩
 |none=>exact absurd (by simp[Program.cellsOf,hi]) h
theorem vJ{t:TypeId}{f n:Nat}{ft:TypeId}(hf:jk P t f=some (n,ft))(hc:P.cellsOf ft≠0)(a:Addr) :
  (Instr.fieldAt t (.pointer (some a)) f).run P w=.ok (.pointer (some (a.add n))) w:=by
 unfold jk at hf
 split at hf
 ·rename_i fs ht;obtain⟨fd,hfd,he⟩:=acS.1 hf
  cases he
  obtain⟨i,hi⟩:=vI hc;have hs:=eJ (P:=P) (w:=w) hi;simp only[Instr.fieldAt,Sem.run_bind,run_underlying ht,Result.andThen_ok,hfd,Instr.sureAddr,Sem.run_pure,fieldPlace,hs];rw[if_neg hc];rfl
 ·cases hf
theorem vK{t:TypeId}{f n:Nat}{ft:TypeId}(hf:jk P t f=some (n,ft))(hc:P.cellsOf ft≠0){id s i off:Nat}{v:Value}(hv:aD Z ψ h w (.ref id s i off) v) :
  ∃V,(Instr.fieldAt t v f).run P w=.ok V w∧aD Z ψ h w (.ref id s i (off+n)) V:=by
 simp only[aD]at hv ⊢;obtain⟨a,rfl,ha⟩:=hv;refine⟨_,vJ hf hc a,_,rfl,fun bV=>?_⟩;rw[ha bV,dp,Nat.add_assoc]
theorem xM{t:TypeId}{f n:Nat}{ft:TypeId}(hf:jk P t f=some (n,ft))(hc:P.cellsOf ft≠0){k:K}{x:k.T}{off:Nat}{v:Value}(hv:aD Z ψ h w (.fp k x off) v) :
  ∃V,(Instr.fieldAt t v f).run P w=.ok V w∧aD Z ψ h w (.fp k x (off+n)) V:=by
 simp only[aD]at hv ⊢;obtain⟨a,us,rfl,hz,hr,GZ⟩:=hv;refine⟨_,vJ hf hc a,_,us,rfl,by rw[gH];exact hz,hr,fun j u hu=>?_⟩;rw[xD];exact GZ (n+j) u (by rw[←Nat.add_assoc];exact hu)
theorem Kt{t ft:TypeId}{f n:Nat}(hf:jk P t f=some (n,ft)){cs:List AV}{x:AV}{v:Value}(hv:aD Z ψ h w (.agg cs) v)(hx:fC P ft (cs.drop n)=some x) :
  ∃V,(Instr.field t v f).run P w=.ok V w∧aD Z ψ h w x V:=by
 simp only[aD]at hv;obtain⟨vs,rfl,hl⟩:=hv;have hd:=hl.drop n;have hlen:=hd.length;unfold jk at hf
 split at hf
 ·rename_i fs ht;obtain⟨fd,hfd,he⟩:=acS.1 hf
  cases he
  unfold fC at hx
  split at hx
  ·rename_i hb
   split at hx
   ·rename_i hle
    cases hx
    obtain⟨i,hi⟩:=A7 hb;refine⟨.agg (vs.extract fd.offset (fd.offset+P.cellsOf fd.type)),?_,?_⟩
    ·simp[Instr.field,run_underlying ht,hfd,asAgg,part,iv hb,eJ hi]
    ·simp only[aD];refine⟨_,rfl,?_⟩;rw[Array.toList_extract,List.extract_eq_take_drop,Nat.add_sub_cancel_left];exact hd.take _
   ·cases hx
  ·rename_i hb
   split at hx
   ·rename_i c r hcr
    cases hx
    rw[hcr]at hd;simp only[ax]at hd;obtain⟨u,us,hu,h1,_⟩:=hd;refine⟨u,?_,h1⟩;have hg:vs[fd.offset]? = some u:=by
     have:(vs.toList.drop fd.offset)[0]? = some u:=by rw[hu];rfl
     rw[List.getElem?_drop]at this;simpa using this
    simp[Instr.field,run_underlying ht,hfd,asAgg,part,iv hb,hg]
   ·cases hx
  ·cases hx
 ·cases hf
theorem Ro{hh:Heap}(g:Good Z ψ h w B0 O)(bL:∀id o,hh.get id=some o→h id=some o){x:AV}{v:Value}{e:bZ}(hv:aD Z ψ h w x v)(he:GU hh x some=some e) :
  ∃n:Nat,e=.val (.int .i64 (n:Int))∧((∃s,x=.str s∧v=.string s∧n=s.size)∨∃A c,v=.slice A n c):=by
 unfold GU at he
 split at he
 ·rename_i s hs
  cases he
  have hx:x=.str s:=by
   cases x with
   |bY id=>simp only[dm]at hs;split at hs<;>cases hs
   |str s'=>simp only[dm]at hs;exact hs
   |_=>simp only[dm]at hs<;>cases hs
  subst hx;simp only[aD]at hv;exact⟨_,rfl,.inl ⟨s,rfl,hv,rfl⟩⟩
 ·rename_i ex k xs hs
  cases he
  have T4:=GY (Z':=fun b=>Z b∨Own ψ h b) (g.sub bL) (fun b hb=>.inl hb) (fun id b _ bp hb=>.inr (by obtain⟨o,ho⟩:=abT.1 bp;exact⟨id,by rw[bL id o ho];simp,hb⟩)) (hv.sL bL);rw[hs]at T4;simp only[aD,aQ]at T4;obtain⟨⟨v',Du,A,c,rfl,_⟩,_⟩:=T4
  cases Du
  exact⟨_,rfl,.inr ⟨A,c,rfl⟩⟩
 ·rename_i hs
  cases he
  have hx:x=.il:=by
   cases x with
   |bY id=>simp only[dm]at hs;split at hs<;>cases hs
   |il=>rfl
   |_=>simp only[dm]at hs<;>cases hs
  subst hx;simp only[aD]at hv;exact⟨0,rfl,.inr ⟨_,_,hv⟩⟩
 ·cases he
def fL(Z:Nat→Prop)(ψ:Nat→Value)(h:Hp)(w:World):Option AV→Option Value→Prop
 |none,none=>True
 |some a,some v=>aD Z ψ h w a v
 |_,_=>False
theorem cP(k:IntKind)(i:Int)(y:Nat)(code:BoundsCode)(h0:0≤i)(h1:i≤y):(Instr.sliceBound (.int k i) y code).run P w=.ok i.toNat w:=by simp[Instr.sliceBound,asIntOf,h0,h1]
theorem wH{b:Bool}{n c:Nat}(hc:n≤c){lo hi mx:Option AV}{Py wC mx':Option Value}{l u:Int}(h1:fL Z ψ h w lo Py)(h2:fL Z ψ h w hi wC)(h3:fL Z ψ h w mx mx') (hb:qi n lo hi=some (l,u)) (ho:bI n l u=true) (hm:mx=none∨(mx=some (.int .i64 u)∧hi≠none)) :
  (Instr.sliceBounds b n c Py wC mx').run P w=.ok (l.toNat,u.toNat,if mx=none then c else u.toNat) w:=by
 simp only[bI,Bool.and_eq_true,decide_eq_true_eq]at ho;obtain⟨h4,h5,h6⟩:=ho;have huc:u≤(c:Int):=by omega
 unfold qi at hb;rcases hm with rfl|⟨rfl,bp⟩
 ·cases mx' with
  |some _=>exact h3.elim
  |none =>
   split at hb
   all_goals first|(cases hb;done)|skip
   ·cases hb
    cases Py with
    |some _=>exact h1.elim
    |none =>
     cases wC with
     |some _=>exact h2.elim
     |none=>simp[Instr.sliceBounds]
   ·cases hb
    cases Py with
    |none=>exact h1.elim
    |some v =>
     simp only[fL,aD]at h1;subst h1
     cases wC with
     |some _=>exact h2.elim
     |none=>simp[Instr.sliceBounds,cP .i64 l n _ h4 h5]
   ·cases hb
    cases Py with
    |some _=>exact h1.elim
    |none =>
     cases wC with
     |none=>exact h2.elim
     |some v =>
      simp only[fL,aD]at h2;subst h2
      cases b<;>simp[Instr.sliceBounds,cP .i64 u c _ (by omega) huc]
   ·cases hb
    cases Py with
    |none=>exact h1.elim
    |some v =>
     simp only[fL,aD]at h1;subst h1
     cases wC with
     |none=>exact h2.elim
     |some v =>
      simp only[fL,aD]at h2;subst h2;have hx:l≤((u.toNat:Nat):Int):=by omega
      cases b<;>simp[Instr.sliceBounds,cP .i64 u c _ (by omega) huc,cP .i64 l u.toNat _ h4 hx]
 ·cases mx' with
  |none=>exact h3.elim
  |some m =>
   simp only[fL,aD]at h3;subst h3;have huu:u≤((u.toNat:Nat):Int):=by omega
   have hx:l≤((u.toNat:Nat):Int):=by omega
   split at hb
   all_goals first|(cases hb;done)|skip
   ·exact absurd rfl bp
   ·exact absurd rfl bp
   ·cases hb
    cases Py with
    |some _=>exact h1.elim
    |none =>
     cases wC with
     |none=>exact h2.elim
     |some v =>
      simp only[fL,aD]at h2;subst h2
      cases b<;>simp[Instr.sliceBounds,cP .i64 u c _ (by omega) huc,cP .i64 u u.toNat _ (by omega) huu]
   ·cases hb
    cases Py with
    |none=>exact h1.elim
    |some v =>
     simp only[fL,aD]at h1;subst h1
     cases wC with
     |none=>exact h2.elim
     |some v =>
      simp only[fL,aD]at h2;subst h2
      cases b<;>simp[Instr.sliceBounds,cP .i64 u c _ (by omega) huc,cP .i64 u u.toNat _ (by omega) huu,cP .i64 l u.toNat _ h4 hx]
theorem Dv{t e:TypeId}(ht:P.underlying t=some (.slice e)){kk:K}(j8:P.cellsOf e=kk.sz){xs:List kk.T}{v:Value}(hr:aQ Z w (.sl kk) xs [v]){lo hi mx:Option AV}{Py wC mx':Option Value}{l u:Int} (h1:fL Z' ψ h w lo Py) (h2:fL Z' ψ h w hi wC) (h3:fL Z' ψ h w mx mx') (hb:qi xs.length lo hi=some (l,u)) (ho:bI xs.length l u=true) (hm:mx=none∨(mx=some (.int .i64 u)∧hi≠none)) :
  ∃V,(Instr.sliceAt t v Py wC mx').run P w=.ok V w∧aQ Z w (.sl kk) (cut xs l u) [V]∧(mx≠none→∃A c,V=.slice A c c):=by
 simp only[aQ]at hr;obtain⟨v',Du,A,c,rfl,hl,hn,M6⟩:=hr
 cases Du
 have eC:=wH (P:=P) (w:=w) (b:=true) hl h1 h2 h3 hb ho hm;simp only[bI,Bool.and_eq_true,decide_eq_true_eq]at ho;obtain⟨h4,h5,h6⟩:=ho;obtain⟨i,hi⟩:=vI (P:=P) (t:=e) (by have:=kk.jI;omega);generalize Pz:(if mx=none then c else u.toNat)=m at eC;have Tz:u.toNat≤m:=by
  rcases hm with rfl|⟨rfl,_⟩
  ·simp at Pz;omega
  ·simp at Pz;omega
 have hmc:m≤c:=by
  rcases hm with rfl|⟨rfl,_⟩
  ·simp at Pz;omega
  ·simp at Pz;omega
 have vv:(cut xs l u).length=u.toNat-l.toNat:=by unfold cut;rw[List.length_drop,List.length_take];omega
 refine⟨.slice (if m=l.toNat then A else A.map (·.add (l.toNat*P.cellsOf e))) (u.toNat-l.toNat) (m-l.toNat),?_,?_,?_⟩
 ·simp[Instr.sliceAt,Instr.slice,run_underlying ht,eC,eJ hi]
 ·simp only[aQ];refine⟨_,rfl,_,_,by rw[vv],by rw[vv];omega,fun hA=>?_,fun j x hx=>?_⟩
  ·split at hA
   ·have:=hn hA;omega
   ·cases A with
    |none=>have:=hn rfl;omega
    |some a=>cases hA
  ·have hj:j<u.toNat-l.toNat:=by rw[←vv];exact(abg.1 hx).1
   have hx':xs[l.toNat+j]? = some x:=by unfold cut at hx;rw[List.getElem?_drop,List.getElem?_take,if_pos (by omega)]at hx;exact hx
   obtain⟨a,us,rfl,hz,hr,hc⟩:=M6 _ _ hx';refine⟨a.add (l.toNat*P.cellsOf e),us,by rw[if_neg (by omega)];rfl,by rw[gH];exact hz,hr,fun q y hy=>?_⟩;rw[xD,j8];have:=hc q y hy;rw[Nat.add_mul]at this;rw[←Nat.add_assoc];exact this
 ·intro bp;rcases hm with rfl|⟨rfl,_⟩
  ·exact absurd rfl bp
  ·simp at Pz;exact⟨_,_,by rw[←Pz]⟩
theorem Ku{hh:Heap}(g:Good Z ψ h w B0 O)(_:∀id o,hh.get id=some o→h id=some o){t e:TypeId}(ht:P.underlying t=some (.slice e)){x:AV}{v:Value}{lo hi mx:Option AV}{Py wC mx':Option Value}{ef:bZ} (hv:aD Z ψ h w x v) (h1:fL Z ψ h w lo Py) (h2:fL Z ψ h w hi wC) (h3:fL Z ψ h w mx mx') (nc:∀y hw,ef=.wr y hw→hh.get=h) (he:rj hh (P.cellsOf e) x lo hi mx some=some ef) (Yx:(P.info? e).isSome=true) :
  ∃V Z',(Instr.sliceAt t v Py wC mx').run P w=.ok V w∧Next Z ψ h w B0 O N Z' ψ (ef.hp h) w∧aD Z' ψ (ef.hp h) w ef.v V:=by
 unfold rj at he
 split at he
 ·
  simp only[aD]at hv;subst hv
  split at he
  ·rename_i l u hb
   cases ho:bI 0 l u with
   |false=>rw[ho]at he;cases he
   |true =>
    rw[ho]at he
    cases he
    have eC:=wH (P:=P) (w:=w) (b:=true) (abZ 0) h1 h2 h3 hb ho (.inl rfl);simp only[bI,Bool.and_eq_true,decide_eq_true_eq]at ho;have hl0:l.toNat=0:=by omega
    have hu0:u.toNat=0:=by omega
    obtain⟨i,hi⟩:=abM.1 Yx;refine⟨.slice none 0 0,Z,?_,Next.refl g,by simp only[bZ.v,aD]⟩;rw[hl0,hu0]at eC;simp[Instr.sliceAt,Instr.slice,run_underlying ht,eC,eJ hi]
  ·cases he
 ·
  rename_i ex kk xs;simp only[aD]at hv
  split at he
  ·rename_i j8
   split at he
   ·rename_i l u hb
    split at he
    ·cases ho:bI xs.length l u with
     |false=>rw[ho]at he;cases he
     |true =>
      rw[ho]at he
      cases he
      obtain⟨V,h4,h5,_⟩:=Dv (P:=P) ht j8 hv.1 h1 h2 h3 hb ho (.inl rfl);exact⟨V,Z,h4,Next.refl g,by simp only[bZ.v,bZ.hp,aD];exact⟨h5,by simp⟩⟩
    ·rename_i m
     cases ho:(bI xs.length l u&&(hi.isSome&&decide (m=u))) with
     |false=>rw[ho]at he;cases he
     |true =>
      rw[ho]at he
      cases he
      simp only[Bool.and_eq_true,decide_eq_true_eq]at ho;obtain⟨ho,hhi,rfl⟩:=ho;obtain⟨V,h4,h5,h6⟩:=Dv (P:=P) ht j8 hv.1 h1 h2 h3 hb ho (.inr ⟨rfl,by intro e;rw[e]at hhi;cases hhi⟩);exact⟨V,Z,h4,Next.refl g,by simp only[bZ.v,bZ.hp,aD];exact⟨h5,fun _=>h6 (by simp)⟩⟩
    ·cases he
   ·cases he
  ·cases he
 ·cases he
def nK(P:Program)(t:TypeId)(k:K):Prop :=∀(Z:Nat→Prop) (w:World) (x y:k.T) (xs ys:Array Value),aQ Z w k x xs.toList→aQ Z w k y ys.toList →(Op.equal t (.agg xs) (.agg ys)).run P w=.ok (uu k x y) w∧(∀(op:BinOp) (a b:Operand),(eqGuard op t a b (.agg xs) (.agg ys)).run P w=.ok () w)∧∀e:Bool,(Instr.checkKey e 10000 t (.agg xs)).run P w=.ok () w
theorem zL(op:BinOp)(t:TypeId)(a b:Operand)(k k':IntKind)(x y:Int):(eqGuard op t a b (.int k x) (.int k' y)).run P w=.ok () w:=by cases op<;>simp[eqGuard]
theorem Rp(op:BinOp)(t:TypeId)(a b:Operand)(x y:ByteArray):(eqGuard op t a b (.string x) (.string y)).run P w=.ok () w:=by cases op<;>simp[eqGuard]
theorem Nv(op:BinOp)(t:TypeId)(a b:Operand)(x y:Bool):(eqGuard op t a b (.bool x) (.bool y)).run P w=.ok () w:=by cases op<;>simp[eqGuard]
theorem G3(op:BinOp)(t:TypeId)(a b:Operand)(x y:Option Addr):(eqGuard op t a b (.pointer x) (.pointer y)).run P w=.ok () w:=by cases op<;>simp[eqGuard]
def cw:AV→Value
 |.bool b=>.bool b
 |.int k n=>.int k n
 |.str s=>.string s
 |_=>undef
theorem kV(k:IntKind)(n:Int):aD Z ψ h w (.int k n) (cw (.int k n)):=by simp only[aD,cw]
theorem fM(b:Bool):aD Z ψ h w (.bool b) (cw (.bool b)):=by simp only[aD,cw]
theorem lC{t e:TypeId}(ht:P.underlying t=some (.pointer e))(a:Option Addr):(Op.equal t (.pointer a) (.pointer none)).run P w=.ok a.isNone w:=by
 have key:∀d,(Op.equalIn (d+1) t (.pointer a) (.pointer none)).run P w=.ok a.isNone w:=fun d=>by cases a<;>simp[Op.equalIn,run_underlying ht]
 exact key 9999
theorem T5{op:BinOp}{t:TypeId}{k:IntKind}{a b:Int}{v:AV}(hv:abD op k a b=some v):∃V,(binOp op t (.int k a) (.int k b)).run P w=.ok V w∧aD Z ψ h w v V:=by
 cases op<;>simp only[abD]at hv<;>cases hv<;>first
  |(refine⟨cw (.int _ _),?_,kV _ _⟩;simp[binOp,Op.intArith,Op.intCmp,cw];done)
  |(refine⟨cw (.bool _),?_,fM _⟩;simp[binOp,Op.intArith,Op.intCmp,cw];done)
  |(refine⟨cw (.int _ _),?_,kV _ _⟩;simp only[binOp,cw,ne_eq,not_true_eq_false,if_false];rfl)
theorem Rq{Eqs:TypeId→Option K}(Gc:∀t k,Eqs t=some k→nK P t k){op:BinOp}{t:TypeId}{xo yo:Operand}{x y:AV}{u v:Value}{e:bZ}(hu:aD Z ψ h w x u)(hv:aD Z ψ h w y v)(he:A2 P Eqs op t x y some=some e) :
  ∃r V,e=.val r∧((do eqGuard op t xo yo u v;binOp op t u v:Sem Value)).run P w=.ok V w∧aD Z ψ h w r V:=by
 unfold A2 at he
 split at he
 ·rename_i k a k' b;simp only[aD]at hu hv;subst hu;subst hv
  split at he
  ·cases hb:decide (b<0) with
   |true=>rw[hb]at he;cases he
   |false =>
    rw[hb]at he;cases he;have hb':¬b<0:=by simpa using hb
    exact⟨_,cw (.int _ _),rfl,by simp[zL,binOp,Op.shift,hb',cw,Kh],kV _ _⟩
  ·cases hb:decide (b<0) with
   |true=>rw[hb]at he;cases he
   |false =>
    rw[hb]at he;cases he;have hb':¬b<0:=by simpa using hb
    exact⟨_,cw (.int _ _),rfl,by simp[zL,binOp,Op.shift,hb',cw,mM],kV _ _⟩
  split at he
  ·rename_i hk;subst hk;simp only[Sem.run_bind,zL,Result.andThen_ok]
   split at he
   ·cases hb:(b==0) with
    |true=>rw[hb]at he;cases he
    |false =>
     rw[hb]at he;cases he;have hb':b≠0:=by simpa using hb
     exact⟨_,cw (.int _ _),rfl,by simp[binOp,Op.intDiv,hb',cw],kV _ _⟩
   ·cases hb:(b==0) with
    |true=>rw[hb]at he;cases he
    |false =>
     rw[hb]at he;cases he;have hb':b≠0:=by simpa using hb
     exact⟨_,cw (.int _ _),rfl,by simp[binOp,Op.intDiv,hb',cw],kV _ _⟩
   ·split at he
    ·rename_i v hv
     cases he
     obtain⟨V,h1,h2⟩:=T5 (P:=P) (t:=t) (w:=w) (Z:=Z) (ψ:=ψ) (h:=h) hv;exact⟨_,V,rfl,h1,h2⟩
    ·cases he
  ·cases he
 ·rename_i a b;simp only[aD]at hu hv;subst hu;subst hv;simp only[Sem.run_bind,Rp,Result.andThen_ok]
  cases op<;>simp only[ad0]at he<;>first|(cases he;done)|(cases he;exact⟨_,cw (.bool _),rfl,by simp[binOp,Op.stringOp,←beq_toListBytes,cw],fM _⟩)
 ·rename_i a b;simp only[aD]at hu hv;subst hu;subst hv;simp only[Sem.run_bind,Nv,Result.andThen_ok];have key:(P.underlying t).map Ix=some true→P.underlying t=some .bool:=fun hm=>by
   obtain⟨d,hd,he⟩:=acS.1 hm
   cases d<;>simp[Ix]at he
   exact hd
  split at he
  ·rename_i hm
   cases he
   exact⟨_,cw (.bool _),rfl,by simp[binOp,Op.equal,Op.maxDepth,run_equalIn_bool' (P:=P) w 9999 t a b (key hm),cw],fM _⟩
  ·rename_i hm
   cases he
   exact⟨_,cw (.bool _),rfl,by simp[binOp,Op.equal,Op.maxDepth,run_equalIn_bool' (P:=P) w 9999 t a b (key hm),cw],fM _⟩
  ·cases he
 ·rename_i a b
  split at he
  ·cases he
  ·rename_i k hk;simp only[aD]at hu hv;obtain⟨xs,rfl,hx⟩:=hu;obtain⟨ys,rfl,hy⟩:=hv
   split at he
   ·rename_i x y hdx hdy
    cases he
    obtain⟨h1,h2,_⟩:=Gc t k hk Z w x y xs ys (eR hdx hx) (eR hdy hy);exact⟨_,cw (.bool _),rfl,by simp only[Sem.run_bind,h2,Result.andThen_ok,binOp,h1,Sem.run_pure,cw],fM _⟩
   ·rename_i x y hdx hdy
    cases he
    obtain⟨h1,h2,_⟩:=Gc t k hk Z w x y xs ys (eR hdx hx) (eR hdy hy);exact⟨_,cw (.bool _),rfl,by simp only[Sem.run_bind,h2,Result.andThen_ok,binOp,h1,Sem.run_pure,cw],fM _⟩
   ·cases he
 ·simp only[aD]at hu hv;subst hu;subst hv;have key:(P.underlying t).map zB=some true→∃e,P.underlying t=some (.pointer e):=fun hm=>by
   obtain⟨d,hd,he⟩:=acS.1 hm
   cases d<;>simp[zB]at he
   exact⟨_,hd⟩
  simp only[Sem.run_bind,G3,Result.andThen_ok]
  split at he
  ·rename_i hm
   cases he
   obtain⟨et,ht⟩:=key hm;exact⟨_,cw (.bool _),rfl,by simp only[binOp,Sem.run_bind,lC ht,Result.andThen_ok,Sem.run_pure,cw,Option.isNone_none,Option.isNone_some,Bool.not_true,Bool.not_false],fM _⟩
  ·rename_i hm
   cases he
   obtain⟨et,ht⟩:=key hm;exact⟨_,cw (.bool _),rfl,by simp only[binOp,Sem.run_bind,lC ht,Result.andThen_ok,Sem.run_pure,cw,Option.isNone_none,Option.isNone_some,Bool.not_true,Bool.not_false],fM _⟩
  ·cases he
 ·simp only[aD]at hu hv;obtain⟨a,rfl,_⟩:=hu;subst hv;have key:(P.underlying t).map zB=some true→∃e,P.underlying t=some (.pointer e):=fun hm=>by
   obtain⟨d,hd,he⟩:=acS.1 hm
   cases d<;>simp[zB]at he
   exact⟨_,hd⟩
  simp only[Sem.run_bind,G3,Result.andThen_ok]
  split at he
  ·rename_i hm
   cases he
   obtain⟨et,ht⟩:=key hm;exact⟨_,cw (.bool _),rfl,by simp only[binOp,Sem.run_bind,lC ht,Result.andThen_ok,Sem.run_pure,cw,Option.isNone_none,Option.isNone_some,Bool.not_true,Bool.not_false],fM _⟩
  ·rename_i hm
   cases he
   obtain⟨et,ht⟩:=key hm;exact⟨_,cw (.bool _),rfl,by simp only[binOp,Sem.run_bind,lC ht,Result.andThen_ok,Sem.run_pure,cw,Option.isNone_none,Option.isNone_some,Bool.not_true,Bool.not_false],fM _⟩
  ·cases he
 ·cases he
theorem Rr{a:AV}{v:Value}(hp:zx a=true)(hr:aD Z ψ h w a v):v.oneCell'=true:=by
 cases a with
 |no=>cases hp
 |agg cs=>cases hp
 |pH cs=>cases hp
 |bool b=>simp only[aD]at hr;subst hr;rfl
 |int k n=>simp only[aD]at hr;subst hr;rfl
 |str s=>simp only[aD]at hr;subst hr;rfl
 |mL=>simp only[aD]at hr;subst hr;rfl
 |il=>simp only[aD]at hr;subst hr;rfl
 |ref id s i off=>simp only[aD]at hr;obtain⟨a,rfl,_⟩:=hr;rfl
 |fp k x off=>simp only[aD]at hr;obtain⟨a,us,rfl,_⟩:=hr;rfl
 |sl ex k xs=>simp only[aD,aQ]at hr;obtain⟨⟨v',hv,A,c,rfl,_⟩,_⟩:=hr;cases hv;rfl
 |bY id=>simp only[aD]at hr;exact hr.1.2
 |mp kk vk es=>simp only[aD,aQ]at hr;obtain⟨A,hv,_⟩:=hr;cases hv;rfl
 |fn f cap=>simp only[aD]at hr;obtain⟨vs,rfl,_⟩:=hr;rfl
theorem wJ:∀{cs:List AV} {vs:List Value},cs.all zx=true→ax Z ψ h w cs vs→∀u∈vs,u.oneCell'=true
 |[],_,_,hr,u,hu=>by simp only[ax]at hr;subst hr;simp at hu
 |c::r,_,hp,hr,u,hu=>by
  simp only[List.all_cons,Bool.and_eq_true]at hp;simp only[ax]at hr;obtain⟨v,us,rfl,h1,h2⟩:=hr;rcases abn.1 hu with rfl|hu
  ·exact Rr hp.1 h1
  ·exact wJ hp.2 h2 u hu
theorem Kv{a:AV}(hp:a.cells.all zx=true):a≠.no:=by rintro rfl;simp[AV.cells,zx]at hp
theorem uG{id:Nat}:∀{cs:List AV},Nj id cs=true→AV.bY id∉cs
 |[],_=>by simp
 |c::r,hn=>by
  intro hm
  cases c with
  |bY i =>
   simp only[Nj,Bool.and_eq_true,Bool.not_eq_true',beq_eq_false_iff_ne]at hn;rcases abn.1 hm with e|hm
   ·cases e;exact hn.1 rfl
   ·exact uG hn.2 hm
  |_ =>
   simp only[Nj]at hn;rcases abn.1 hm with e|hm
   ·cases e
   ·exact uG hn hm
theorem Be{hh:Heap}(g:Good Z ψ hh.get w B0 O){t:TypeId}{a x:AV}{u v:Value}{e:bZ}(hu:aD Z ψ hh.get w a u)(hv:aD Z ψ hh.get w x v)(he:ux P hh t a x some=some e) :
  ∃hw w' Z',e=.wr .no hw∧(Instr.storeAt t u v).run P w=.ok () w'∧Next Z ψ hh.get w B0 O N Z' ψ hw.get w':=by
 unfold ux at he
 split at he
 ·rename_i hc;obtain⟨hlen,Yy,tn⟩:=hc;obtain⟨inf,Yy⟩:=abM.1 Yy;have Tx:=hv.cells (Kv tn);have tp:=wJ tn Tx;have vv:=Tx.length;simp only[Array.length_toList]at vv
  split at he
  ·rename_i id s i off;simp only[aD]at hu;obtain⟨a,rfl,ha⟩:=hu
   split at he
   ·rename_i ty cs hg
    split at he
    ·rename_i hc;obtain⟨rfl,aea⟩:=hc
     cases he
     have Kl:=ha (by rw[hg];simp);obtain⟨w',h1,h2⟩:=Dg (P:=P) (N:=N) g hg Yy Tx tp (by omega) aea (a:=a) (by rw[Kl];simp);exact⟨_,w',Z,rfl,h1,by rw[oU];exact h2⟩
    ·cases he
   ·rename_i ty kk xs hg;obtain⟨y,hx,X5⟩:=acR.1 he;clear he
    split at X5
    ·rename_i hc;obtain⟨rfl,aea,sM⟩:=hc
     split at X5
     ·rename_i z hz
      cases X5
      have Kl:=ha (by rw[hg];simp);have bV:=uG sM;have gd:=jK g x.cells;have hgd:(di hh x.cells).get id=some (.own (.row ty kk) xs):=by rw[rq _ _ _ bV];exact hg
      have abN:=qp (Z':=sS Z ψ hh.get x.cells) g (fun b hb=>.inl hb) (fun i b hm bp hb=>.inr ⟨i,hm,bp,hb⟩) Tx;obtain⟨w',h1,h2⟩:=Di (P:=P) (N:=N) gd hgd Yy hx (y:=z) (off:=off) (V:=v) (by omega) (by omega) (a:=a) Kl (fun us Kw=>by
       have h3:=(jB (ψ:=ψ) (h:=hh.get) Kw);have h4:=eR hz (abN.fm off h3)
       rwa [uF _ _ _ (by rw[Array.length_toList,Kw.len];omega),Array.length_toList]at h4) tp
      refine⟨_,w',sS Z ψ hh.get x.cells,rfl,h1,?_⟩;rw[show((stored hh x.cells).2.set id (.own (.row ty kk) (xs.set i z))).get=fE (di hh x.cells).get id (some (.own (.row ty kk) (xs.set i z))) from oU _ _ _];exact h2.drop (fun b hb=>.inl hb) (fun b hb=>hb.imp (fun h=>h) (fun⟨i,_,h5,h6⟩=>⟨i,h5,h6⟩)) (fD _ _)
     ·cases X5
    ·cases X5
   ·cases he
  ·cases he
 ·cases he
theorem T6{a:AV}{v:Value}(ha:a.isAgg=true)(hr:aD Z ψ h w a v):∃vs,v=.agg vs:=by
 cases a<;>simp[AV.isAgg]at ha
 simp only[aD]at hr;obtain⟨vs,rfl,_⟩:=hr;exact⟨vs,rfl⟩
theorem G4{a:AV}{v:Value}(ha:a.isAgg=false)(sM:a≠.no)(hr:aD Z ψ h w a v):v.cells=#[v]:=by
 cases a with
 |no=>exact absurd rfl sM
 |agg cs=>simp[AV.isAgg]at ha
 |bool b=>simp only[aD]at hr;subst hr;rfl
 |int k n=>simp only[aD]at hr;subst hr;rfl
 |str s=>simp only[aD]at hr;subst hr;rfl
 |mL=>simp only[aD]at hr;subst hr;rfl
 |il=>simp only[aD]at hr;subst hr;rfl
 |ref id s i off=>simp only[aD]at hr;obtain⟨a,rfl,_⟩:=hr;rfl
 |fp k x off=>simp only[aD]at hr;obtain⟨a,us,rfl,_⟩:=hr;rfl
 |sl ex k xs=>simp only[aD,aQ]at hr;obtain⟨⟨v',hv,A,c,rfl,_⟩,_⟩:=hr;cases hv;rfl
 |bY id=>simp only[aD]at hr;exact hr.1.1
 |mp kk vk es=>simp only[aD,aQ]at hr;obtain⟨A,hv,_⟩:=hr;cases hv;rfl
 |fn f cap=>simp only[aD]at hr;obtain⟨vs,rfl,_⟩:=hr;rfl
 |pH cs=>simp only[aD]at hr;obtain⟨vs,rfl,_⟩:=hr;rfl
theorem wK{hh:Heap}{k:K}{a:AV}{x:k.T}{v:Value}(g:Good Z ψ hh.get w B0 O)(hz:∀b,Z b→Z' b)(hb:∀id b,AV.bY id∈a.cells→hh.get id≠none→ob (ψ id)=some b→Z' b) (hx:ic k hh a=some x) (hr:aD Z ψ hh.get w a v):aQ Z' w k x v.cells.toList∧(k.isAgg=true→∃vs,v=.agg vs)∧(k.isAgg=false→v.cells=#[v]):=by
 unfold ic at hx
 split at hx
 ·rename_i hag;have sM:=G2 hx;have hv:=qp g hz hb (hr.cells sM);exact⟨eR hx hv,fun h=>T6 (by rw[←hag];exact h) hr,fun h=>G4 (by rw[←hag];exact h) sM hr⟩
 ·cases hx
theorem uH{hh:Heap}{k:K}{a:AV}{x:k.T}{v:Value}(g:Good Z ψ hh.get w B0 O)(hz:∀b,Z b→Z' b)(hb:∀id b,AV.bY id∈a.cells→hh.get id≠none→ob (ψ id)=some b→Z' b) (hx:ic k hh a=some x) (hr:aD Z ψ hh.get w a v):aD Z' ψ' h' w (cM k x) v:=by obtain⟨h1,h2,h3⟩:=wK g hz hb hx hr;exact nI h1 h2 h3
theorem aQ.flat:∀{k:K} {x:k.T} {vs:List Value},k.flat=true→aQ Z w k x vs→aQ Z' w' k x vs
 |.int _,_,_,_,h=>h
 |.bool,_,_,_,h=>h
 |.str,_,_,_,h=>h
 |.sl k,_,_,hf,_=>by simp[K.flat]at hf
 |.pair a b,x,_,hf,h=>by simp only[K.flat,Bool.and_eq_true]at hf;simp only[aQ]at h ⊢;obtain⟨us,ws,rfl,h1,h2⟩:=h;exact⟨us,ws,rfl,aQ.flat hf.1 h1,aQ.flat hf.2 h2⟩
 |.one k,x,_,hf,h=>by simp only[aQ]at h ⊢;exact aQ.flat (k:=k) (by simpa only[K.flat] using hf) h
theorem Cl:∀(k:K) (x y:k.T),k.flat=true→(uu k x y=true↔x=y)
 |.int _,x,y,_=>by simp only[uu];exact beq_iff_eq (α:=Int)
 |.bool,x,y,_=>by simp only[uu];exact beq_iff_eq (α:=Bool)
 |.str,x,y,_=>by simp only[uu];exact MapKept.bytes_beq x y
 |.sl _,_,_,hf=>by simp[K.flat]at hf
 |.mp _ _,_,_,hf=>by simp[K.flat]at hf
 |.pair a b,x,y,hf=>by simp only[K.flat,Bool.and_eq_true]at hf;simp only[uu,Bool.and_eq_true];rw[Cl a _ _ hf.1,Cl b _ _ hf.2];exact⟨fun h=>Prod.ext h.1 h.2,fun h=>⟨congrArg Prod.fst h,congrArg Prod.snd h⟩⟩
 |.one k,x,y,hf=>by simp only[uu];exact Cl k x y (by simpa only[K.flat] using hf)
theorem ru:∀{k:K} {x:k.T} {us vs:List Value},k.flat=true→aQ Z w k x us→aQ Z' w' k x vs→us=vs
 |.int _,_,_,_,_,h1,h2=>by simp only[aQ]at h1 h2;rw[h1,h2]
 |.bool,_,_,_,_,h1,h2=>by simp only[aQ]at h1 h2;rw[h1,h2]
 |.str,_,_,_,_,h1,h2=>by simp only[aQ]at h1 h2;rw[h1,h2]
 |.sl _,_,_,_,hf,_,_=>by simp[K.flat]at hf
 |.mp _ _,_,_,_,hf,_,_=>by simp[K.flat]at hf
 |.pair a b,x,_,_,hf,h1,h2=>by simp only[K.flat,Bool.and_eq_true]at hf;simp only[aQ]at h1 h2;obtain⟨a1,a2,rfl,h3,h4⟩:=h1;obtain⟨b1,b2,rfl,h5,h6⟩:=h2;rw[ru hf.1 h3 h5,ru hf.2 h4 h6]
 |.one k,x,_,_,hf,h1,h2=>by simp only[aQ]at h1 h2;exact ru (k:=k) (by simpa only[K.flat] using hf) h1 h2
theorem uI:∀{k:K} {x:k.T} {us:List Value},k.flat=true→aQ Z w k x us→∀u∈us,∀n,Instr.sameBits n u u=true
 |.int _,x,_,_,h1,u,hu,n=>by simp only[aQ]at h1;subst h1;simp only[List.mem_singleton]at hu;subst hu;cases n<;>simp[Instr.sameBits]<;>exact beq_self_eq_true (α:=Int) x
 |.bool,x,_,_,h1,u,hu,n=>by simp only[aQ]at h1;subst h1;simp only[List.mem_singleton]at hu;subst hu;cases n<;>simp[Instr.sameBits]<;>exact beq_self_eq_true (α:=Bool) x
 |.str,x,_,_,h1,u,hu,n=>by simp only[aQ]at h1;subst h1;simp only[List.mem_singleton]at hu;subst hu;cases n<;>simp[Instr.sameBits]<;>exact(MapKept.bytes_beq x x).2 rfl
 |.sl _,_,_,hf,_,_,_,_=>by simp[K.flat]at hf
 |.mp _ _,_,_,hf,_,_,_,_=>by simp[K.flat]at hf
 |.pair a b,x,_,hf,h1,u,hu,n=>by
  simp only[K.flat,Bool.and_eq_true]at hf;simp only[aQ]at h1;obtain⟨a1,a2,rfl,h3,h4⟩:=h1;rcases abH.1 hu with hu|hu
  ·exact uI hf.1 h3 u hu n
  ·exact uI hf.2 h4 u hu n
 |.one k,x,_,hf,h1,u,hu,n=>by simp only[aQ]at h1;exact uI (k:=k) (by simpa only[K.flat] using hf) h1 u hu n
def M7(b:Bool)(v:Value):Prop:=(b=true→∃vs,v=.agg vs)∧(b=false→v.cells=#[v])
theorem Rs{b:Bool}{u v:Value}(h1:M7 b u)(h2:M7 b v)(h:u.cells.toList=v.cells.toList):u=v:=by
 cases b with
 |true =>
  obtain⟨a,rfl⟩:=h1.1 rfl;obtain⟨c,rfl⟩:=h2.1 rfl;have:a=c:=by simpa[Value.cells] using h
  rw[this]
 |false =>rw[h1.2 rfl,h2.2 rfl]at h;simpa using h
theorem T7{k:K}{x:k.T}{u:Value}(hf:k.flat=true)(hr:aQ Z w k x u.cells.toList)(hs:M7 k.isAgg u):Instr.sameBits 10000 u u=true:=by
 have hb:=uI hf hr
 cases hk:k.isAgg with
 |false=>exact hb u (by rw[hs.2 hk];simp) _
 |true =>obtain⟨a,rfl⟩:=hs.1 hk;show Instr.sameBits (9999+1) (.agg a) (.agg a)=true;simp only[Instr.sameBits,beq_self_eq_true,Bool.true_and,List.all_eq_true];intro p hp;obtain⟨i,hi,he⟩:=List.mem_iff_getElem.1 hp;simp only[List.getElem_zip]at he;subst he;exact hb _ (acB (l:=(Value.agg a).cells.toList) (by simpa[Value.cells] using hi)) _
def Keys(Z:Nat→Prop)(w:World)(k:K)(ys:List k.T)(l:List MapEntry):Prop:=ys.length=l.length∧∀(i:Nat) y e,ys[i]? = some y→l[i]? = some e→aQ Z w k y e.key.cells.toList∧M7 k.isAgg e.key
theorem Keys.tail{k:K}{y:k.T}{ys:List k.T}{e:MapEntry}{l:List MapEntry}(h:Keys Z w k (y::ys) (e::l)):Keys Z w k ys l:=⟨by simpa using h.1,fun i a b h1 h2=>h.2 (i+1) a b (by simpa using h1) (by simpa using h2)⟩
theorem Kx{k:K}{x:k.T}{d:TypeDesc}{kv:Value}(hs:∀y X6,aQ Z w k y X6.cells.toList→M7 k.isAgg X6→Instr.sameNow d kv X6=some (uu k x y)):∀(l:List MapEntry) (ys:List k.T) (i:Nat),Keys Z w k ys l → Instr.findNow d kv l i=some ((ys.findIdx? (uu k x)).map fun j=>(i+j,((l[j]?).map (·.val)).getD undef))
 |[],ys,i,h=>by have:ys=[]:=abU (by simpa using h.1);subst this;rfl
 |e::l,[],i,h=>by have:=h.1;simp at this
 |e::l,y::ys,i,h=>by
  obtain⟨h1,h2⟩:=h.2 0 y e rfl rfl;have ih:=Kx hs l ys (i+1) h.tail;simp only[Instr.findNow,hs y _ h1 h2,List.findIdx?_cons]
  cases uu k x y with
  |true=>simp
  |false =>
   simp only[ih,Bool.false_eq_true,if_false]
   cases ys.findIdx? (uu k x) with
   |none=>rfl
   |some j=>simp;omega
theorem Bf{k:K}{x:k.T}{t:TypeId}{kv:Value}(hs:∀y X6,aQ Z w k y X6.cells.toList→M7 k.isAgg X6→(Op.equal t kv X6).run P w=.ok (uu k x y) w):∀(l:List MapEntry) (ys:List k.T) (i:Nat),Keys Z w k ys l →(Instr.findAsking t kv l i).run P w=.ok ((ys.findIdx? (uu k x)).map fun j=>(i+j,((l[j]?).map (·.val)).getD undef)) w
 |[],ys,i,h=>by have:ys=[]:=abU (by simpa using h.1);subst this;rfl
 |e::l,[],i,h=>by have:=h.1;simp at this
 |e::l,y::ys,i,h=>by
  obtain⟨h1,h2⟩:=h.2 0 y e rfl rfl;have ih:=Bf hs l ys (i+1) h.tail;simp only[Instr.findAsking,Sem.run_bind,hs y _ h1 h2,Result.andThen_ok,List.findIdx?_cons]
  cases uu k x y with
  |true=>simp
  |false =>
   simp only[ih,Bool.false_eq_true,if_false]
   cases ys.findIdx? (uu k x) with
   |none=>rfl
   |some j=>simp;omega
structure T8(P:Program)(t:TypeId)(k:K):Prop where
 flat:k.flat=true
 check:∀(Z:Nat→Prop) (w:World) (x:k.T) (kv:Value) (e:Bool),aQ Z w k x kv.cells.toList→M7 k.isAgg kv→(Instr.checkKey e 10000 t kv).run P w=.ok () w
 find:∀(Z:Nat→Prop) (w:World) (x:k.T) (kv:Value) (l:List MapEntry) (ys:List k.T),aQ Z w k x kv.cells.toList→M7 k.isAgg kv→Keys Z w k ys l →
  (Instr.findKey t kv l).run P w=.ok ((ys.findIdx? (uu k x)).map fun j=>(j,((l[j]?).map (·.val)).getD undef)) w
theorem ry{t:TypeId}{k:K}{d:TypeDesc}(hf:k.flat=true)(hk:k.isAgg=false)(hd:P.underlying t=some d)(hc:∀(Z:Nat→Prop) (w:World) (x:k.T) (kv:Value),aQ Z w k x [kv]→MapKept.IsKey d kv) (hs:∀(Z:Nat→Prop) (w:World) (x y:k.T) (u v:Value),aQ Z w k x [u]→aQ Z w k y [v]→Instr.sameNow d u v=some (uu k x y)):T8 P t k:=by
 have one:∀{Z:Nat→Prop} {w:World} {x:k.T} {kv:Value},aQ Z w k x kv.cells.toList→M7 k.isAgg kv→aQ Z w k x [kv]:=fun {Z w x kv} h1 h2=>by rw[h2.2 hk]at h1;exact h1
 refine⟨hf,fun Z w x kv e h1 h2=>MapKept.run_checkKey hd (hc Z w x kv (one h1 h2)) e 9999,fun Z w x kv l ys h1 h2 h3=>?_⟩;have:=Kx (Z:=Z) (w:=w) (x:=x) (d:=d) (kv:=kv) (fun y X6 h4 h5=>hs Z w x y kv X6 (one h1 h2) (one h4 h5)) l ys 0 h3;simp only[Nat.zero_add]at this;exact MapKept.run_findKey hd this
theorem Ky(d:TypeDesc)(a:Array Value)(v:Value):Instr.sameNow d (.agg a) v=none:=by cases d<;>cases v<;>rfl
theorem zM{Eqs:TypeId→Option K}(Gc:∀t k,Eqs t=some k→nK P t k){t:TypeId}{k:K}(hk:Pv P Eqs t k=true):T8 P t k:=by
 unfold Pv at hk;rw[Bool.and_eq_true]at hk;obtain⟨hf,hk⟩:=hk
 split at hk
 ·rename_i ik ik' hd;simp only[decide_eq_true_eq]at hk;subst hk;exact ry hf rfl hd (fun Z w x kv hr=>by simp only[aQ]at hr;cases hr;simp[MapKept.IsKey]) (fun Z w x y u v h1 h2=>by simp only[aQ]at h1 h2;cases h1;cases h2;simp[Instr.sameNow,uu])
 ·rename_i hd;exact ry hf rfl hd (fun Z w x kv hr=>by simp only[aQ]at hr;cases hr;simp[MapKept.IsKey]) (fun Z w x y u v h1 h2=>by simp only[aQ]at h1 h2;cases h1;cases h2;simp[Instr.sameNow,uu])
 ·rename_i hd;exact ry hf rfl hd (fun Z w x kv hr=>by simp only[aQ]at hr;cases hr;simp[MapKept.IsKey]) (fun Z w x y u v h1 h2=>by simp only[aQ]at h1 h2;cases h1;cases h2;simp[Instr.sameNow,uu])
 ·simp only[Bool.and_eq_true,decide_eq_true_eq]at hk;obtain⟨hag,hk⟩:=hk;have fact:=Gc _ _ hk;have agg:∀{b:Bool} {u:Value},b=true→M7 b u→∃a,u=.agg a:=fun hb h=>h.1 hb;refine⟨hf,fun Z w x kv e h1 h2=>?_,fun Z w x kv l ys h1 h2 h3=>?_⟩
  ·obtain⟨a,rfl⟩:=agg hag h2;exact(fact Z w x x a a h1 h1).2.2 e
  ·obtain⟨a,rfl⟩:=agg hag h2;have h4:=Bf (P:=P) (t:=t) (Z:=Z) (w:=w) (x:=x) (kv:=.agg a) (fun y X6 h4 h5=>by obtain⟨b,rfl⟩:=agg hag h5;exact(fact Z w x y a b h1 h4).1) l ys 0 h3;simp only[Nat.zero_add]at h4
   cases l with
   |nil =>
    have:ys=[]:=abU (by simpa using h3.1);subst this
    cases hu:P.underlying t with
    |none =>have hc:=(fact Z w x x a a h1 h1).2.2 true;exfalso;unfold Instr.checkKey at hc;simp[underlying,hu]at hc
    |some d=>simp[Instr.findKey,run_underlying hu,Instr.findNow]
   |cons e l =>
    cases hu:P.underlying t with
    |none =>have hc:=(fact Z w x x a a h1 h1).2.2 true;exfalso;unfold Instr.checkKey at hc;simp[underlying,hu]at hc
    |some d=>simp only[Instr.findKey,Sem.run_bind,run_underlying hu,Result.andThen_ok,Instr.findNow,Ky];exact h4
section
variable {kk vk:K} {es:List (kk.T×vk.T)} {l:List MapEntry}
abbrev lM(Z:Nat→Prop)(w:World)(kk vk:K)(es:List (kk.T×vk.T))(l:List MapEntry):Prop:=Iz (aQ Z w kk) (aQ Z w vk) kk.isAgg vk.isAgg es l
theorem lM.keys(h:lM Z w kk vk es l):Keys Z w kk (es.map (·.1)) l :=⟨by rw[List.length_map];exact h.1,fun i y e h1 h2=>by rw[List.getElem?_map]at h1;obtain⟨x,h3,rfl⟩:=acS.1 h1;exact(h.2 i x e h3 h2).1⟩
theorem Dx{x:kk.T}:(es.map (·.1)).findIdx? (uu kk x)=wy kk x es:=by unfold wy;rw[List.findIdx?_map];rfl
theorem IE{x:kk.T}{i:Nat}(h:wy kk x es=some i):i<es.length:=by unfold wy at h;exact(List.findIdx?_eq_some_iff_getElem.1 h).1
theorem Yz{x:kk.T}{i:Nat}(h:wy kk x es=some i):∃e,es[i]? = some e∧uu kk x e.1=true:=by unfold wy at h;obtain⟨h1,h2,_⟩:=List.findIdx?_eq_some_iff_getElem.1 h;exact⟨_,aba h1,h2⟩
def T9(Z:Nat→Prop)(w:World)(kk vk:K)(x:kk.T×vk.T)(e:MapEntry):Prop:=(aQ Z w kk x.1 e.key.cells.toList∧M7 kk.isAgg e.key)∧aQ Z w vk x.2 e.val.cells.toList∧M7 vk.isAgg e.val
theorem lM.set(h:lM Z w kk vk es l)(i:Nat){x:kk.T×vk.T}{f:MapEntry→MapEntry}(ho:∀e,l[i]? = some e→T9 Z w kk vk x (f e)):lM Z w kk vk (es.set i x) (l.modify i f):=by
 refine⟨by simp[h.1],fun j y e h1 h2=>?_⟩;rw[List.getElem?_modify]at h2;obtain⟨e0,h3,h4⟩:=acS.1 h2;by_cases Dy:i=j
 ·subst Dy;rw[if_pos rfl]at h4;have aK:i<es.length:=by rw[h.1];exact(abg.1 h3).1
  rw[List.getElem?_set_self aK]at h1
  cases h1
  subst h4;exact ho e0 h3
 ·rw[if_neg Dy]at h4;rw[List.getElem?_set_ne Dy]at h1;subst h4;exact h.2 j y e0 h1 h3
theorem lM.push(h:lM Z w kk vk es l){x:kk.T×vk.T}{e:MapEntry}(ho:T9 Z w kk vk x e):lM Z w kk vk (es++[x]) (l++[e]):=by
 refine⟨by simp[h.1],fun j y e' h1 h2=>?_⟩;by_cases hj:j<es.length
 ·rw[List.getElem?_append_left hj]at h1;rw[List.getElem?_append_left (by rw[←h.1];exact hj)]at h2;exact h.2 j y e' h1 h2
 ·rw[List.getElem?_append_right (by omega)]at h1;rw[List.getElem?_append_right (by have:=h.1;omega),←h.1]at h2;by_cases h0:j-es.length=0
  ·rw[h0]at h1 h2;cases h1;cases h2;exact ho
  ·rw[List.getElem?_eq_none (by simp;omega)]at h1;cases h1
theorem lM.erase(h:lM Z w kk vk es l)(i:Nat):lM Z w kk vk (es.eraseIdx i) (l.eraseIdx i):=by
 refine⟨by rw[List.length_eraseIdx,List.length_eraseIdx,h.1],fun j y e h1 h2=>?_⟩;rw[List.getElem?_eraseIdx]at h1 h2
 split at h1
 ·rename_i hj;rw[if_pos hj]at h2;exact h.2 j y e h1 h2
 ·rename_i hj;rw[if_neg hj]at h2;exact h.2 (j+1) y e h1 h2
theorem lM.mono(h:lM Z w kk vk es l)(hz:∀b,Z b→Z' b)(hs:cW Z w w'):lM Z' w' kk vk es l:=Iz.imp (fun _ _ h=>h.mono hz hs) (fun _ _ h=>h.mono hz hs) h
end
theorem wL{Eqs:TypeId→Option K}{t:TypeId}{kk vk:K}(h:mapOf P Eqs t=some (kk,vk)):∃a b,P.underlying t=some (.map a b)∧Pv P Eqs a kk=true∧Pu P b vk=true:=by
 unfold mapOf at h
 split at h
 ·rename_i a b hu
  split at h
  ·split at h
   ·rename_i hc
    cases h
    rw[Bool.and_eq_true]at hc;exact⟨a,b,hu,hc.1,hc.2⟩
   ·cases h
  ·cases h
 ·cases h
theorem Nw{b:TypeId}{vk:K}(h:Pu P b vk=true):∃z,(zeroValue b).run P w=.ok z w∧aQ Z w vk (qh vk) z.cells.toList∧M7 vk.isAgg z:=by
 unfold Pu at h
 split at h
 ·rename_i i hi
  split at h
  ·rename_i z hz;refine⟨z,xK hi hz,?_⟩;unfold TR at h
   split at h
   ·simp only[decide_eq_true_eq]at h;obtain⟨rfl,rfl⟩:=h;exact⟨by simp only[aQ];rfl,fun h=>(by cases h),fun _=>rfl⟩
   ·rename_i b;simp only[Bool.not_eq_true']at h;subst h;exact⟨by simp only[aQ];rfl,fun h=>(by cases h),fun _=>rfl⟩
   ·simp only[decide_eq_true_eq]at h;subst h;exact⟨by simp only[aQ];rfl,fun h=>(by cases h),fun _=>rfl⟩
   ·simp only[decide_eq_true_eq]at h;obtain⟨rfl,rfl,rfl⟩:=h;exact⟨by simp only[aQ];exact⟨_,rfl,none,0,rfl,abZ _,fun _=>rfl,fun i x hx=>by simp[qh]at hx⟩,fun h=>(by cases h),fun _=>rfl⟩
   ·cases h
  ·cases h
 ·cases h
theorem PA{hh:Heap}(g:Good Z ψ h w B0 O)(bL:∀id o,hh.get id=some o→h id=some o){m:AV}{u:Value}{kk vk:K}{es:List (kk.T×vk.T)}(hm:aD Z ψ h w m u)(hv:dm hh m=.mp kk vk es) :
  ∃A,u=.map A∧((A=none∧es=[])∨∃r cz clock,A=some r∧w.heap[r]? = some (.map cz clock)∧lM Z w kk vk es cz.toList):=by
 cases m with
 |mp Ps Yo Ua =>
  simp only[dm]at hv
  cases hv
  simp only[aD,aQ]at hm;obtain⟨A,h1,h2⟩:=hm
  cases h1
  refine⟨A,rfl,h2.imp (fun h=>h) fun⟨m,cz,clock,h3,_,h4,h5⟩=>⟨m,cz,clock,h3,h4,h5⟩⟩
 |bY id =>
  simp only[dm]at hv
  split at hv
  ·cases hv
  ·rename_i Ps Yo Ua hg
   cases hv
   have Dt:=bL _ _ hg;simp only[aD]at hm;have:=hm.2 (by rw[Dt];simp);subst this;obtain⟨r,cz,clock,h1,h2,h3,_⟩:=g.row id (.map kk vk) es Dt;exact⟨some r,h1,.inr ⟨r,cz,clock,rfl,h2,h3⟩⟩
  ·cases hv
 |_=>simp only[dm]at hv;cases hv
theorem Nx{hh:Heap}(g:Good Z ψ h w B0 O)(bL:∀id o,hh.get id=some o→h id=some o){k:K}(hf:k.flat=true){a:AV}{x:k.T}{v:Value}(hx:ic k hh a=some x)(hr:aD Z ψ h w a v):aQ Z w k x v.cells.toList∧M7 k.isAgg v:=by obtain⟨h1,h2,h3⟩:=wK (Z':=fun b=>b<w.heap.size) (g.sub bL) (fun b hb=>g.kT b hb) (fun id b _ h1 h2=>(g.sub bL).ck ⟨id,h1,h2⟩) hx (hr.less (fun _ h=>h) (cW.refl _ _) (fun id bV=>by obtain⟨o,ho⟩:=abT.1 bV;exact⟨by rw[bL id o ho];simp,rfl⟩));exact⟨h1.flat hf,h2,h3⟩
theorem IF{Eqs:TypeId→Option K}(Gc:∀t k,Eqs t=some k→nK P t k){hh:Heap}(g:Good Z ψ h w B0 O)(bL:∀id o,hh.get id=some o→h id=some o){t:TypeId}{m i:AV}{u v:Value}{ok:Bool}{e:bZ} (hm:aD Z ψ h w m u) (hi:aD Z ψ h w i v) (he:qk P Eqs hh t m i ok some=some e):∃y V,e=.val y∧(Instr.lookup t u v ok).run P w=.ok V w∧aD Z ψ h w y V:=by
 unfold qk at he
 split at he
 ·rename_i ka va kk vk es hmo hv
  split at he
  ·rename_i hc;obtain⟨rfl,rfl⟩:=hc
   split at he
   ·rename_i x hx
    cases he
    obtain⟨a,b,hu,hk,hz⟩:=wL hmo;have K:=zM Gc hk;obtain⟨Gn,pS⟩:=Nx g bL K.flat hx hi;obtain⟨z,Bc,Gb,M5⟩:=Nw (Z:=Z) (w:=w) hz;have fin:∀(l:List MapEntry),lM Z w kk vk es l→∃V,((∃j,(Instr.findKey a v l).run P w=.ok (some (j,V)) w∧(kd kk x es).isSome=true)∨((Instr.findKey a v l).run P w=.ok none w∧(zeroValue b).run P w=.ok V w∧(kd kk x es).isSome=false)) ∧ aQ Z w vk ((kd kk x es).getD (qh vk)) V.cells.toList∧M7 vk.isAgg V:=by
     intro l hE;have hf:=K.find Z w x v l (es.map (·.1)) Gn pS hE.keys;rw[Dx]at hf
     cases G5:wy kk x es with
     |none =>rw[G5]at hf;exact⟨z,.inr ⟨hf,Bc,by simp[kd,G5]⟩,by simpa[kd,G5] using Gb,M5⟩
     |some j =>
      rw[G5]at hf;have hj:=IE G5;have h1:es[j]? = some es[j]:=aba hj;have M8:j<l.length:=by rw[←hE.1];exact hj
      have h2:l[j]? = some l[j]:=aba M8;obtain⟨_,h3,h4⟩:=hE.2 j _ _ h1 h2;refine⟨l[j].val,.inl ⟨j,?_,by simp[kd,G5,h1]⟩,by simpa[kd,G5,h1] using h3,h4⟩;rw[hf];simp only[Option.map_some,h2,Option.getD_some]
    have out:∀V:Value,aQ Z w vk ((kd kk x es).getD (qh vk)) V.cells.toList→M7 vk.isAgg V→aD Z ψ h w (cond ok (AV.pH [cM vk ((kd kk x es).getD (qh vk)),.bool (kd kk x es).isSome]) (cM vk ((kd kk x es).getD (qh vk)))) (if ok then .tuple #[V,.bool (kd kk x es).isSome] else V):=by
     intro V h1 h2;have h3:aD Z ψ h w (cM vk ((kd kk x es).getD (qh vk))) V:=nI h1 h2.1 h2.2
     cases ok with
     |false=>exact h3
     |true=>simp only[cond_true,if_true,aD,ax];exact⟨_,rfl,V,[.bool (kd kk x es).isSome],by simp,h3,_,[],rfl,rfl,rfl⟩
    obtain⟨A,rfl,hA⟩:=PA g bL hm hv;rcases hA with⟨rfl,rfl⟩|⟨r,cz,clock,rfl,h3,h4⟩
    ·obtain⟨V,h5,h6,h7⟩:=fin [] ⟨rfl,fun i x e h=>by simp at h⟩;refine⟨_,_,rfl,?_,out V h6 h7⟩;simp only[Instr.lookup,Sem.run_bind,run_underlying hu,Result.andThen_ok,Sem.run_pure,K.check Z w x v _ Gn pS];rcases h5 with⟨j,h8,h9⟩|⟨h8,h9,oI⟩
     ·simp[h8,h9]
     ·simp[h8,h9,oI]
    ·obtain⟨V,h5,h6,h7⟩:=fin cz.toList h4;refine⟨_,_,rfl,?_,out V h6 h7⟩;simp only[Instr.lookup,Sem.run_bind,run_underlying hu,Result.andThen_ok,Sem.run_pure,MapKept.run_getObj_map h3,K.check Z w x v _ Gn pS];rcases h5 with⟨j,h8,h9⟩|⟨h8,h9,oI⟩
     ·simp[h8,h9]
     ·simp[h8,h9,oI]
   ·cases he
  ·cases he
 ·cases he
end Go.Vs
namespace Go.Vs
variable {P:Program} {Z Z':Nat→Prop} {ψ ψ':Nat→Value} {h h':Hp} {w w':World} {B0:Nat} {O:Nat→Prop} {N:Nat→Prop}
theorem zN{r b:Nat}(o:Obj)(bp:r≠b):(w.heap.setIfInBounds r o)[b]? = w.heap[b]? := by rw[Array.getElem?_setIfInBounds];simp[bp]
theorem dF.ajR{r:Nat}(ho:Own ψ h r)(o:Obj):dF ψ h w { w with heap:=w.heap.setIfInBounds r o } :=⟨rfl,rfl,rfl,by simp,fun b _ hb=>zN o (fun e=>hb (e▸ho))⟩
theorem uJ{hp:Hp}(g:Good Z ψ hp w B0 O){id:Nat}(bV:hp id≠none){r:Nat}(hr:ob (ψ id)=some r)(aK:r<w.heap.size)(o:Obj){ok:OK}{x:ok.T} (hx:∀w':World,w'.heap=w.heap.setIfInBounds r o→cW Z w w'→kM Z w' ok (ψ id) x) :
  Next Z ψ hp w B0 O N Z ψ (fE hp id (some (.own ok x))) { w with heap:=w.heap.setIfInBounds r o }:=by
 have ho:Own ψ hp r:=⟨id,bV,hr⟩;have kk:=dF.ajR (w:=w) ho o;refine g.write id bV kk (fun b hb _=>zN o (fun e=>hb (by rw[hr,e]))) _ (fun _ _ he=>by cases he) (fun ok' x' he=>?_)
 cases he
 exact hx _ rfl (kk.same g)
theorem Bg{l:List MapEntry}{i:Nat}{f:MapEntry→MapEntry}(hf:∀e,(f e).born=e.born):(l.modify i f).map (·.born)=l.map (·.born):=by
 apply adG;intro j;simp only[List.getElem?_map,List.getElem?_modify]
 cases l[j]? with
 |none=>rfl
 |some e=>simp only[Option.map_some];split<;>simp[hf]
theorem zO{l:List MapEntry}:l.Pairwise (fun a b=>a.born≠b.born)↔(l.map (·.born)).Pairwise (·≠·):=by rw[List.pairwise_map]
theorem xN{Eqs:TypeId→Option K}(Gc:∀t k,Eqs t=some k→nK P t k){hh:Heap}(g:Good Z ψ hh.get w B0 O){t:TypeId}{m i v:AV}{u1 u2 u3:Value}{e:bZ} (hm:aD Z ψ hh.get w m u1) (hi:aD Z ψ hh.get w i u2) (hv:aD Z ψ hh.get w v u3) (he:jT P Eqs hh t m i v some=some e) :
  ∃hw w' Z',e=.wr (.pH []) hw∧(Instr.mapUpdate t u1 u2 u3).run P w=.ok () w'∧Next Z ψ hh.get w B0 O N Z' ψ hw.get w':=by
 unfold jT at he
 split at he
 ·rename_i ka va id hmo
  split at he
  ·rename_i kk vk es hg
   split at he
   ·rename_i hc;obtain⟨rfl,rfl⟩:=hc
    split at he
    ·rename_i x y hx hy sM
     cases he
     obtain⟨a,b,hu,hk,_⟩:=wL hmo;have K:=zM Gc hk;obtain⟨Gn,pS⟩:=Nx g (fun _ _ h=>h) K.flat hx hi;simp only[aD]at hm;have X7:=hm.2 (by rw[hg];simp);obtain⟨r,cz,clock,h1,h2,h3,h4,h5⟩:=g.row id (.map kk vk) es hg;rw[h1]at X7;subst X7;have bV:AV.bY id∉v.cells:=fun hc=>by have:=acQ.1 sM _ hc;simp at this
     have gd:=jK g v.cells;have hgd:(di hh v.cells).get id=some (.own (.map kk vk) es):=by rw[rq _ _ _ bV];exact hg
     obtain⟨vL,A8,hv3⟩:=wK (Z':=sS Z ψ hh.get v.cells) g (fun b hb=>.inl hb) (fun id b h1 h2 h3=>.inr ⟨id,h1,h2,h3⟩) hy hv;have aeb:aQ (sS Z ψ hh.get v.cells) w kk x u2.cells.toList:=Gn.flat K.flat;have aK:=(abv.1 h2).1;have oJ:ob (ψ id)=some r:=by rw[h1];rfl
     have hE:lM (sS Z ψ hh.get v.cells) w kk vk es cz.toList:=lM.mono h3 (fun b hb=>.inl hb) (cW.refl _ _);have hf:=K.find Z w x u2 cz.toList (es.map (·.1)) Gn pS (lM.keys h3);rw[Dx]at hf;have fin:∀(o:Obj) (Ua:List (kk.T×vk.T)) (oV:Array MapEntry) (Dz:Nat),o=.map oV Dz→lM (sS Z ψ hh.get v.cells) w kk vk Ua oV.toList→(oV.toList.map (·.born)).Pairwise (·≠·)→(∀e∈oV.toList,e.born<Dz) → Next Z ψ hh.get w B0 O N (sS Z ψ hh.get v.cells) ψ ((di hh v.cells).set id (.own (.map kk vk) Ua)).get { w with heap:=w.heap.setIfInBounds r o }:=by rintro o Ua oV Dz rfl h6 h7 h8;rw[oU];have n:=uJ (N:=N) gd (by rw[hgd];simp) oJ aK (.map oV Dz) (ok:=.map kk vk) (x:=Ua) (fun w' Ny sm=>⟨r,oV,Dz,h1,by rw[Ny];simp[aK],lM.mono h6 (fun _ h=>h) sm,zO.2 h7,h8⟩);exact n.drop (fun b hb=>.inl hb) (fun b hb=>hb.imp (fun h=>h) (fun⟨i,_,h5,h6⟩=>⟨i,h5,h6⟩)) (fD _ _)
     cases G5:wy kk x es with
     |none =>
      rw[G5]at hf;refine⟨_,{ w with heap:=w.heap.setIfInBounds r (.map (cz.push { key:=u2,val:=u3,born:=clock }) (clock+1)) },sS Z ψ hh.get v.cells,rfl,?_,?_⟩
      rotate_left
      ·rw[show oO kk x y es=es++[(x,y)] by simp[oO,G5]];refine fin _ _ (cz.push { key:=u2,val:=u3,born:=clock }) (clock+1) rfl ?_ ?_ ?_
       ·rw[Array.toList_push];exact hE.push ⟨⟨aeb,pS⟩,vL,A8,hv3⟩
       ·rw[Array.toList_push,List.map_append,List.pairwise_append];refine⟨zO.1 h4,by simp,fun a ha b hb=>?_⟩;simp only[List.map_cons,List.map_nil,List.mem_singleton]at hb;obtain⟨e,he,rfl⟩:=abY.1 ha;have:=h5 e he;omega
       ·intro e he;rw[Array.toList_push]at he;rcases abH.1 he with he|he
        ·have:=h5 e he;omega
        ·simp only[List.mem_singleton]at he;subst he;exact Nat.lt_succ_self _
      ·simp only[Instr.mapUpdate,Sem.run_bind,run_underlying hu,Result.andThen_ok,MapKept.run_getObj_map h2,K.check Z w x u2 _ Gn pS,hf,Option.map_none,MapKept.run_setObj_map _ h2]
     |some j =>
      rw[G5]at hf;have hj:=IE G5;obtain⟨e0,he0,heq⟩:=Yz G5;have M8:j<cz.toList.length:=by rw[←h3.1];exact hj
      have hl:cz.toList[j]? = some cz.toList[j]:=aba M8;have TA:cz[j]? = some cz.toList[j]:=by rw[←hl];simp
      obtain⟨⟨aec,ajS⟩,_⟩:=h3.2 j _ _ he0 hl;have vE:cz.toList[j].key=u2:=by refine Rs ajS pS ?_;rw[←(Cl kk x e0.1 K.flat).1 heq]at aec;exact ru K.flat aec Gn
      have aay:(Instr.keyThatStays u2 u2).run P w=.ok u2 w:=by simp[Instr.keyThatStays,T7 K.flat Gn pS]
      refine⟨_,{ w with heap:=w.heap.setIfInBounds r (.map (cz.modify j fun e=>{ e with key:=u2,val:=u3 }) clock) },sS Z ψ hh.get v.cells,rfl,?_,?_⟩
      rotate_left
      ·rw[show oO kk x y es=es.set j (x,y) by simp[oO,G5]];refine fin _ _ (cz.modify j fun e=>{ e with key:=u2,val:=u3 }) clock rfl ?_ ?_ ?_
       ·rw[Array.toList_modify];exact hE.set j (fun e he=>⟨⟨aeb,pS⟩,vL,A8,hv3⟩)
       ·rw[Array.toList_modify,Bg (f:=fun e:MapEntry=>{ e with key:=u2,val:=u3 }) (fun _=>rfl)];exact zO.1 h4
       ·intro e he;have:e.born∈(cz.modify j fun e=>{ e with key:=u2,val:=u3 }).toList.map (·.born):=abY.2 ⟨e,he,rfl⟩;rw[Array.toList_modify,Bg (f:=fun e:MapEntry=>{ e with key:=u2,val:=u3 }) (fun _=>rfl)]at this;obtain⟨e',he',h6⟩:=abY.1 this;rw[←h6];exact h5 e' he'
      ·simp only[Instr.mapUpdate,Sem.run_bind,run_underlying hu,Result.andThen_ok,MapKept.run_getObj_map h2,K.check Z w x u2 _ Gn pS,hf,Option.map_some,TA,Option.getD_some,vE,aay,MapKept.run_setObj_map _ h2]
    ·cases he
   ·cases he
  ·cases he
 ·cases he
theorem xO{Eqs:TypeId→Option K}(Gc:∀t k,Eqs t=some k→nK P t k){hh:Heap}(g:Good Z ψ hh.get w B0 O){t ty:TypeId}{ts:List TypeId}{m i:AV}{u1 u2:Value}{e:bZ} (hm:aD Z ψ hh.get w m u1) (hi:aD Z ψ hh.get w i u2) (he:ql P Eqs hh t m i some=some e) :
  ∃hw w',e=.wr (.pH []) hw∧(Builtin.delete_ (t::ts).toArray ty #[u1,u2]).run P w=.ok (.tuple #[]) w'∧Next Z ψ hh.get w B0 O N Z ψ hw.get w':=by
 unfold ql at he
 split at he
 ·rename_i ka va id hmo
  split at he
  ·rename_i kk vk es hg
   split at he
   ·rename_i hc;obtain⟨rfl,rfl⟩:=hc
    split at he
    ·rename_i x hx
     cases he
     obtain⟨a,b,hu,hk,_⟩:=wL hmo;have K:=zM Gc hk;obtain⟨Gn,pS⟩:=Nx g (fun _ _ h=>h) K.flat hx hi;simp only[aD]at hm;have X7:=hm.2 (by rw[hg];simp);obtain⟨r,cz,clock,h1,h2,h3,h4,h5⟩:=g.row id (.map kk vk) es hg;rw[h1]at X7;subst X7;have aK:=(abv.1 h2).1;have oJ:ob (ψ id)=some r:=by rw[h1];rfl
     have hf:=K.find Z w x u2 cz.toList (es.map (·.1)) Gn pS (lM.keys h3);rw[Dx]at hf;have fin:∀(o:Obj) (Ua:List (kk.T×vk.T)) (oV:Array MapEntry),o=.map oV clock→lM Z w kk vk Ua oV.toList→oV.toList.Sublist cz.toList → Next Z ψ hh.get w B0 O N Z ψ (hh.set id (.own (.map kk vk) Ua)).get { w with heap:=w.heap.setIfInBounds r o }:=by rintro o Ua oV rfl h6 h7;rw[oU];exact uJ (N:=N) g (by rw[hg];simp) oJ aK (.map oV clock) (ok:=.map kk vk) (x:=Ua) (fun w' Ny sm=>⟨r,oV,clock,h1,by rw[Ny];simp[aK],lM.mono h6 (fun _ h=>h) sm,h4.sublist h7,fun e he=>h5 e (h7.subset he)⟩)
     cases G5:wy kk x es with
     |none =>
      rw[G5]at hf;refine⟨_,{ w with heap:=w.heap.setIfInBounds r (.map cz clock) },rfl,?_,?_⟩
      rotate_left
      ·rw[show TQ kk x es=es by simp[TQ,G5]];exact fin _ _ cz rfl h3 (List.Sublist.refl _)
      ·simp[Builtin.delete_,run_underlying hu,MapKept.run_getObj_map h2,K.check Z w x u2 _ Gn pS,hf,MapKept.run_setObj_map _ h2]
     |some j =>
      rw[G5]at hf;have hj:=IE G5;refine⟨_,{ w with heap:=w.heap.setIfInBounds r (.map (cz.eraseIdxIfInBounds j) clock) },rfl,?_,?_⟩
      rotate_left
      ·rw[show TQ kk x es=es.eraseIdx j by simp[TQ,G5]];refine fin _ _ (cz.eraseIdxIfInBounds j) rfl ?_ ?_
       ·rw[Array.toList_eraseIdxIfInBounds];exact lM.erase h3 j
       ·rw[Array.toList_eraseIdxIfInBounds];exact List.eraseIdx_sublist _ _
      ·simp[Builtin.delete_,run_underlying hu,MapKept.run_getObj_map h2,K.check Z w x u2 _ Gn pS,hf,MapKept.run_setObj_map _ h2]
    ·cases he
   ·cases he
  ·cases he
 ·cases he
theorem Nz{hh:Heap}(g:Good Z ψ h w B0 O)(bL:∀id o,hh.get id=some o→h id=some o){t ty:TypeId}{x:AV}{u:Value}{e:bZ}(ht:Nk P t=true)(hx:aD Z ψ h w x u)(he:zz hh x some=some e) :
  ∃n:Nat,e=.val (.int .i64 (n:Int))∧(Builtin.len_ #[t] ty #[u]).run P w=.ok (.int .i64 (n:Int)) w:=by
 unfold zz at he
 split at he
 ·rename_i kk vk es hv
  cases he
  have hu:∃a b,P.underlying t=some (.map a b):=by
   unfold Nk at ht
   split at ht
   ·exact⟨_,_,by assumption⟩
   ·cases ht
  obtain⟨a,b,hu⟩:=hu;obtain⟨A,rfl,hA⟩:=PA g bL hx hv;rcases hA with⟨rfl,rfl⟩|⟨r,cz,clock,rfl,h3,h4⟩
  ·exact⟨0,rfl,by simp[Builtin.len_,run_underlying hu,goInt]⟩
  ·refine⟨es.length,rfl,?_⟩;have:cz.size=es.length:=by rw[h4.1];simp
   simp[Builtin.len_,run_underlying hu,MapKept.run_getObj_map h3,goInt,this]
 ·cases he
theorem DA(g:Good Z ψ h w B0 O)(hB:B0≤w.heap.size)(id:Nat)(hN:N id){ok:OK}{x:ok.T}{v:Value}(o:Obj)(ho:kM Z (w.alloc o) ok v x)(hb:ob v=some w.heap.size) (bD:∀i ty cs,h i=some (.box ty cs)→aJ (fun i=>i≠id) cs):Next Z ψ h w B0 O N Z (fE ψ id v) (fE h id (some (.own ok x))) (w.alloc o) :=Kn g hB id hN (dF.alloc _ _ _ _) (fun b hb=>heap_alloc_old w _ (g.ck hb)) ho (fun b Cm=>by rw[hb]at Cm;cases Cm;exact abZ _) bD
theorem Gp{Eqs:TypeId→Option K}(g:Good Z ψ h w B0 O)(hB:B0≤w.heap.size){id:Nat}(hN:N id){t:TypeId}{e:bZ}(bD:∀i ty cs,h i=some (.box ty cs)→aJ (fun i=>i≠id) cs)(he:mZ P Eqs id t some=some e) :
  ∃v w' ψ',(Instr.makeMap t none).run P w=.ok v w'∧Next Z ψ h w B0 O N Z ψ' (e.hp h) w'∧aD Z ψ' (e.hp h) w' e.v v:=by
 unfold mZ at he
 split at he
 ·rename_i kk vk hmo
  cases he
  refine⟨.map (some w.heap.size),w.alloc (.map #[] 0),fE ψ id (.map (some w.heap.size)),rfl,?_,?_⟩
  ·simp only[bZ.hp];rw[jL];exact DA g hB id hN (ok:=.map kk vk) (x:=[]) _ ⟨w.heap.size,#[],0,rfl,heap_alloc_new _ _,⟨rfl,fun i x e h=>by simp at h⟩,by simp,by simp⟩ rfl bD
  ·simp only[bZ.v,bZ.hp,aD];exact⟨⟨rfl,rfl⟩,fun _=>(bE _ _ _).symm⟩
 ·cases he
theorem IG(g:Good Z ψ h w B0 O)(hB:B0≤w.heap.size){id:Nat}(hN:N id){t:TypeId}{x:AV}{u:Value}{e:bZ}(hx:aD Z ψ h w x u)(bD:∀i ty cs,h i=some (.box ty cs)→aJ (fun i=>i≠id) cs)(he:qm P id t x some=some e) :
  ∃v w' ψ',(Instr.range t u).run P w=.ok v w'∧Next Z ψ h w B0 O N Z ψ' (e.hp h) w'∧aD Z ψ' (e.hp h) w' e.v v:=by
 unfold qm at he
 split at he
 ·rename_i sv hu
  cases he
  simp only[aD]at hx;subst hx;refine⟨.pointer (some ⟨w.heap.size,0,none⟩),w.alloc (.stringIter sv 0),fE ψ id (.pointer (some ⟨w.heap.size,0,none⟩)),?_,?_,?_⟩
  ·simp only[Instr.range,Sem.run_bind,run_underlying hu,Result.andThen_ok,Sem.run_pure];rfl
  ·simp only[bZ.hp];rw[jL];exact DA g hB id hN (ok:=.qg) (x:=(sv,0)) _ ⟨w.heap.size,rfl,heap_alloc_new _ _⟩ rfl bD
  ·simp only[bZ.v,bZ.hp,aD];exact⟨⟨rfl,rfl⟩,fun _=>(bE _ _ _).symm⟩
 ·cases he
theorem iw{r:Nat}{o:Obj}(hb:w.heap[r]? = some o)(hc:∀c e f,o≠.cells c e f):(getObj r).run P w=.ok o w:=by cases o<;>first|(exact absurd rfl (hc _ _ _))|simp[getObj,Sem.run,hb]
theorem DB{r:Nat}{o o':Obj}(hb:w.heap[r]? = some o)(hc:∀c e f,o≠.cells c e f):(setObj r o').run P w=.ok () { w with heap:=w.heap.setIfInBounds r o' }:=by cases o<;>first|(exact absurd rfl (hc _ _ _))|simp[setObj,Sem.run,hb]
theorem Kz{hh:Heap}(g:Good Z ψ h w B0 O)(bL:∀id o,hh.get id=some o→h id=some o){ty:TypeId}{x:AV}{u:Value}{e:bZ}(hx:aD Z ψ h w x u)(nc:∀v hw,e=.wr v hw→hh.get=h)(he:uy hh x some=some e) :
  ∃v w',(Instr.next u true ty).run P w=.ok v w'∧Next Z ψ h w B0 O N Z ψ (e.hp h) w'∧aD Z ψ (e.hp h) w' e.v v:=by
 unfold uy at he
 split at he
 ·rename_i id
  split at he
  ·rename_i x hg;have Dt:=bL _ _ hg;simp only[aD]at hx;have hu:=hx.2 (by rw[Dt];simp);obtain⟨r,h1,h2⟩:=g.row id .qg x Dt;rw[h1]at hu;subst hu
   cases hc:decide (x.2<x.1.size) with
   |true =>
    rw[hc]at he;cases he;have heq:=nc _ _ rfl;simp only[decide_eq_true_eq]at hc;have aK:=(abv.1 h2).1;refine⟨.tuple #[.bool true,goInt x.2,.int .i32 (Utf8.decode x.1 x.2).1],{ w with heap:=w.heap.setIfInBounds r (.stringIter x.1 (x.2+(Utf8.decode x.1 x.2).2)) },?_,?_,?_⟩
    ·simp only[Instr.next,Sem.run_bind,iw h2 (by simp),Result.andThen_ok,hc,if_true,DB h2 (by simp),Sem.run_pure]
    ·simp only[bZ.hp];rw[oU,heq];exact uJ (N:=N) g (by rw[Dt];simp) (by rw[h1];rfl) aK _ (ok:=.qg) (x:=(x.1,x.2+C3 x.1 x.2)) (fun w' Ny _=>⟨r,h1,by rw[Ny];simp[aK,C3]⟩)
    ·simp only[bZ.v,aD,ax];exact⟨_,rfl,_,_,rfl,rfl,_,_,rfl,rfl,_,_,rfl,rfl,rfl⟩
   |false =>
    rw[hc]at he;cases he;simp only[decide_eq_false_iff_not]at hc;refine⟨.tuple #[.bool false],w,?_,Next.refl g,?_⟩
    ·simp only[Instr.next,Sem.run_bind,iw h2 (by simp),Result.andThen_ok,hc,if_false,Sem.run_pure]
    ·simp only[bZ.v,aD,ax];exact⟨_,rfl,_,_,rfl,rfl,rfl⟩
  ·cases he
 ·cases he
theorem find_born{l:List MapEntry}(h:l.Pairwise (fun a b=>a.born≠b.born)){e:MapEntry}(he:e∈l):l.find? (fun x=>x.born==e.born)=some e:=by
 induction l with
 |nil=>cases he
 |cons a r ih =>
  obtain⟨h1,h2⟩:=List.pairwise_cons.1 h;rw[List.find?_cons];rcases abn.1 he with rfl|he
  ·simp
  ·have:(a.born==e.born)=false:=by simpa using h1 e he
   rw[this];exact ih h2 he
theorem KA{hh:Heap}(g:Good Z ψ h w B0 O)(bL:∀id o,hh.get id=some o→h id=some o){x:AV}{u:Value}{e:bZ}(hx:aD Z ψ h w x u)(he:uz hh x some=some e) :
  ∃y v,e=.val y∧(Instr.entry u).run P w=.ok v w∧aD Z ψ h w y v:=by
 unfold uz at he
 split at he
 ·rename_i id
  split at he
  ·rename_i kk vk c rest hg
   cases he
   have Dt:=bL _ _ hg;simp only[aD]at hx;have hu:=hx.2 (by rw[Dt];simp);obtain⟨r,m,since,seen,cz,clock,h1,h2,h3,h4,h5,h6,h7,h8,h9⟩:=g.row id (.iter kk vk) (some c,rest) Dt;rw[h1]at hu;subst hu;obtain⟨en,oI,B2,M9⟩:=h9;obtain⟨⟨k1,k2,k3⟩,v1,v2,v3⟩:=M9.2 0 c en rfl rfl;refine⟨_,.tuple #[en.key,en.val],rfl,?_,?_⟩
   ·have hf:cz.find? (·.born==en.born)=some en:=by
     have:=find_born h5 oI
     rwa [←Array.find?_toList]
    simp only[Instr.entry,Sem.run_bind,iw h2 (by simp),Result.andThen_ok,B2,Sem.run_pure,iw h4 (by simp),hf];simp
   ·simp only[aD,ax];exact⟨_,rfl,_,_,rfl,nI k1 k2 k3,_,_,rfl,nI v1 v2 v3,rfl⟩
  ·cases he
 ·cases he
mutual
theorem aS.imp{p q:Nat→Prop}(xq:∀i,p i→q i):∀{a:AV},aS p a→aS q a
 |.no,_=>by simp only[aS]
 |.bool b,_=>by simp only[aS]
 |.int k n,_=>by simp only[aS]
 |.str s,_=>by simp only[aS]
 |.mL,_=>by simp only[aS]
 |.il,_=>by simp only[aS]
 |.ref id s i off,h=>by simp only[aS]at h ⊢;exact xq _ h
 |.fp k x off,_=>by simp only[aS]
 |.sl ex k xs,_=>by simp only[aS]
 |.mp kk vk es,_=>by simp only[aS]
 |.bY id,h=>by simp only[aS]at h ⊢;exact xq _ h
 |.fn f cap,h=>by simp only[aS]at h ⊢;exact aJ.imp xq h
 |.agg cs,h=>by simp only[aS]at h ⊢;exact aJ.imp xq h
 |.pH cs,h=>by simp only[aS]at h ⊢;exact aJ.imp xq h
theorem aJ.imp{p q:Nat→Prop}(xq:∀i,p i→q i):∀{a:List AV},aJ p a→aJ q a
 |[],_=>by simp only[aJ]
 |a::r,h=>by simp only[aJ]at h ⊢;exact⟨aS.imp xq h.1,aJ.imp xq h.2⟩
end
theorem aS.cells{p:Nat→Prop}{a:AV}(h:aS p a):aJ p a.cells:=by
 cases a with
 |agg cs=>simpa only[AV.cells,aS] using h
 |_=>simp only[AV.cells,aJ];exact⟨h,trivial⟩
theorem DC:∀{cs:List AV},Ki cs=true→∀id,AV.bY id∉cs
 |[],_,id=>by simp
 |c::r,hn,id=>by
  intro hm
  cases c with
  |bY i=>simp[Ki]at hn
  |_ =>
   simp only[Ki]at hn;rcases abn.1 hm with e|hm
   ·cases e
   ·exact DC hn id hm
theorem tu:∀{vs:List AV},sY vs=true→∀v∈vs,∀id,AV.bY id∉v.cells
 |[],_,v,hv=>by simp at hv
 |a::r,hn,v,hv=>by
  simp only[sY,Bool.and_eq_true]at hn;rcases abn.1 hv with rfl|hv
  ·exact DC hn.1
  ·exact tu hn.2 v hv
def xQ(o:Oper):Bool :=match o.op with
 |.call { callee:=.value _,.. }=>true
 |_=>false
theorem NA{s:List (Nat×AV)}{ρC:Operand→Value}{x:Option Operand}(hx:∀y,x=some y→aD Z ψ h w (ρ s y) (ρC y)):fL Z ψ h w (x.map (ρ s)) (x.map ρC):=by
 cases x with
 |none=>trivial
 |some y=>exact hx y rfl
theorem DD{s:List (Nat×AV)}{ρC:Operand→Value}:∀(ps:List (Nat×Operand)),(∀p∈ps,aD Z ψ h w (ρ s p.2) (ρC p.2))→(∀p∈ps,ρ s p.2≠.no)→vH Z ψ h w (ps.map fun p=>(p.1,ρ s p.2)) (ps.map fun p=>(p.1,ρC p.2))
 |[],_,_=>trivial
 |p::r,h1,h2=>⟨rfl,h2 p (by simp),h1 p (by simp),DD r (fun q hq=>h1 q (aa5 _ hq)) (fun q hq=>h2 q (aa5 _ hq))⟩
theorem G6{k:K}{hh:Heap}:∀{ps:List (Nat×AV)} {i:Nat} {xs:List k.T},ta k hh i ps=some xs→∀p∈ps,p.2≠.no
 |[],_,_,_,p,hp=>by simp at hp
 |(j,v)::r,i,xs,hl,p,hp=>by
  simp only[ta]at hl
  split at hl
  ·split at hl
   ·rename_i x ys h1 h2;rcases abn.1 hp with rfl|hp
    ·exact G2 h1
    ·exact G6 h2 p hp
   ·cases hl
  ·cases hl
theorem abO{α:Type}{l:List α}(h:l.length=0+1+1):∃x y,l=[x,y]:=by
 cases l with
 |nil=>simp at h
 |cons a r=>cases r with
  |nil=>simp at h
  |cons b s=>cases s with
   |nil=>exact⟨a,b,rfl⟩
   |cons c q=>simp at h
theorem NB{a:AV}(h:aas a=true):a≠.no:=by rintro rfl;cases h
section
variable {Eqs:TypeId→Option K} {Sg:FuncId→Option aX} {F:(f:FuncId)→(g:aX)→g.A→Option g.B}
theorem IH{hh:Heap}{ρC:Operand→Value}{o:Oper}(g:Good Z ψ h w B0 O)(hB:B0≤w.heap.size)(bL:∀id o,hh.get id=some o→h id=some o){id:Nat}(hN:N id){t:TypeId}{s x:AV}{u v:Value}{e:bZ} (hs:aD Z ψ h w s u) (hx:aD Z ψ h w x v) (II:aS (fun i=>¬N i) s) (bD:∀i ty cs,h i=some (.box ty cs)→aJ (fun i=>¬N i) cs) (nc:∀v hw,e=.wr v hw→hh.get=h) (he:qj P hh id t s x some=some e) (eC:∀V w',(Builtin.append_ #[t,t] o.type #[u,v]).run P w=.ok V w'→(execOp ρC o).run P w=.ok (.value V) w'):jm P ρC o Z ψ h w B0 O N e:=by
 have X8:∀i ty cs,h i=some (.box ty cs)→aJ (fun i=>i≠id) cs:=fun i ty cs hb=>(bD i ty cs hb).imp (fun j hj e=>hj (by rw[e];exact hN));unfold qj at he
 split at he
 ·cases he
 ·rename_i et het;have ht:=pQ het
  split at he
  ·cases he
  ·rename_i kk NC
   split at he
   ·rename_i ys Rt nL;obtain⟨inf,z,M6⟩:=cV nL
    split at he
    ·
     cases hc:aR 0 ys.length with
     |false=>rw[hc]at he;cases he
     |true =>rw[hc]at he;cases he;simp only[aR,decide_eq_true_eq]at hc;simp only[aD]at hs;subst hs;obtain⟨V,w',h1,h2,h3⟩:=sE (P:=P) (ty:=o.type) g bL hB hN ht M6 Rt hx (by omega) X8;refine⟨V,w',Z,_,.inl (eC V w' h1),by simp only[bZ.hp];rw[jL];exact h2,?_⟩;simp only[bZ.v,bZ.hp,aD];exact⟨h3,fun _=>(bE _ _ _).symm⟩
    ·
     rename_i dv
     split at he
     ·rename_i e' k' xs hg
      split at he
      ·rename_i hc;obtain⟨rfl,rfl⟩:=hc
       cases q9:aR xs.length ys.length with
       |false=>rw[q9]at he;cases he
       |true =>rw[q9]at he;cases he;simp only[aR,decide_eq_true_eq]at q9;have heq:=nc _ _ rfl;have Dt:=bL _ _ hg;simp only[aD]at hs;have hu:=hs.2 (by rw[Dt];simp);subst hu;simp only[aS]at II;obtain⟨V,w',h1,h2,h3⟩:=B3 (P:=P) (ty:=o.type) g bL hB hN (fun e=>II (by rw[e];exact hN)) ht M6 Dt Rt hx q9 X8;refine⟨V,w',Z,_,.inl (eC V w' h1),by simp only[bZ.hp];rw[oU,xL,heq];exact h2,?_⟩;simp only[bZ.v,bZ.hp,aD];exact⟨h3,fun _=>(bE _ _ _).symm⟩
      ·cases he
     ·cases he
    ·
     rename_i ex k' xs
     split at he
     ·rename_i hc;subst hc
      cases q9:(ex&&((!ys.isEmpty || xs.isEmpty)&&aR xs.length ys.length)) with
      |false=>rw[q9]at he;cases he
      |true =>rw[q9]at he;cases he;simp only[Bool.and_eq_true,Bool.or_eq_true,aR,decide_eq_true_eq,Bool.not_eq_true',List.isEmpty_eq_false_iff,List.isEmpty_iff]at q9;obtain⟨rfl,bp,YA⟩:=q9;obtain⟨V,w',h1,h2,h3⟩:=Dl (P:=P) (ty:=o.type) g bL hB hN ht M6 hs Rt hx (bp.imp List.length_pos_iff.2 (fun h=>h)) YA X8;refine⟨V,w',Z,_,.inl (eC V w' h1),by simp only[bZ.hp];rw[jL];exact h2,?_⟩;simp only[bZ.v,bZ.hp,aD];exact⟨h3,fun _=>(bE _ _ _).symm⟩
     ·cases he
    ·cases he
   ·cases he
theorem DE{ρC:Operand→Value}{o:Oper}(g:Good Z ψ h w B0 O)(hB:B0≤w.heap.size){id:Nat}(hN:N id){t:TypeId}{vs:List AV}{us:Array Value}{e:bZ}(hr:ax Z ψ h w vs us.toList)(h1:∀u∈us.toList,u.oneCell'=true) (hm:aJ (fun i=>¬N i) vs) (bD:∀i ty cs,h i=some (.box ty cs)→aJ (fun i=>¬N i) cs) (he:zG id t vs some=some e) (eC:(execOp ρC o).run P w=.ok (.value (.pointer (some ⟨w.heap.size,0,none⟩))) (w.alloc (.cells us t))):jm P ρC o Z ψ h w B0 O N e:=by
 unfold zG at he
 cases he
 have bp:∀i,¬N i→i≠id:=fun j hj e=>hj (by rw[e];exact hN);have n:=Df (N:=N) g hB id t hN hr h1 (fun i ty cs hb=>(bD i ty cs hb).imp bp) (hm.imp bp);refine⟨_,_,Z,_,.inl eC,by simp only[bZ.hp];rw[jL];exact n,?_⟩;simp only[bZ.v,bZ.hp,aD];exact⟨_,rfl,fun _=>by rw[bE];simp[Yr]⟩
theorem Ru{hh:Heap}{ρC:Operand→Value}{s:List (Nat×AV)}{o:Oper}(g:Good Z ψ h w B0 O)(hB:B0≤w.heap.size)(bL:∀id o,hh.get id=some o→h id=some o){id:Nat}(hN:N id){t:TypeId}{n:Nat}{ps:Array (Nat×Operand)}{e:bZ} (qe:∀p∈ps.toList,aD Z ψ h w (ρ s p.2) (ρC p.2)) (bD:∀i ty cs,h i=some (.box ty cs)→aJ (fun i=>¬N i) cs) (mv:Bool) {e0:bZ} (YB:e=if mv then Yq e0 else e0) (nc:∀v hw,e=.wr v hw→hh.get=h) (he:xw P hh id t n (ps.toList.map fun p=>(p.1,ρ s p.2)) some=some e0)
  (eC:∀V w',(Instr.buildSlice t n (ps.map fun p=>(p.1,ρC p.2))).run P w=.ok V w'→(execOp ρC o).run P w=.ok (.value V) w'):jm P ρC o Z ψ h w B0 O N e:=by
 have X8:∀i ty cs,h i=some (.box ty cs)→aJ (fun i=>i≠id) cs:=fun i ty cs hb=>(bD i ty cs hb).imp (fun j hj e=>hj (by rw[e];exact hN));unfold xw at he
 split at he
 ·cases he
 ·rename_i et het;have ht:=pQ het
  split at he
  ·cases he
  ·rename_i k hk
   split at he
   ·cases he
   ·cases he
   ·rename_i xs qq nL;obtain⟨inf,z,M6⟩:=cV nL;have ND:=DD (Z:=Z) (ψ:=ψ) (h:=h) (w:=w) ps.toList qe (fun p hp=>G6 qq (p.1,ρ s p.2) (abY.2 ⟨p,hp,rfl⟩));have PB:vH Z ψ hh.get w (ps.toList.map fun p=>(p.1,ρ s p.2)) (ps.map fun p=>(p.1,ρC p.2)).toList:=by rw[Array.toList_map];exact ND.sL bL
    split at he
    ·rename_i hc;obtain⟨rfl,hn⟩:=hc
     cases sM:sY ((ps.toList.map fun p=>(p.1,ρ s p.2)).map (·.2)) with
     |true =>
      rw[sM]at he;cases he;have ajT:=tu sM;obtain⟨V,w',h1,h2,h3⟩:=Kr (P:=P) (N:=N) g (g.sub bL) (fun _ h=>h) hB hN ht M6 (fun p hp i b hm=>absurd hm (ajT p.2 (abY.2 ⟨p,hp,rfl⟩) i)) PB qq hn X8
      cases mv with
      |false =>have YB:e=.new (.bY id) [(id,.own (.row et k) xs)]:=YB;subst YB;refine⟨V,w',Z,_,.inl (eC V w' h1),by simp only[bZ.hp];rw[jL];exact h2,?_⟩;simp only[bZ.v,bZ.hp,aD];exact⟨h3.1,fun _=>(bE _ _ _).symm⟩
      |true =>
       have YB:e=.new (.sl true k xs) []:=YB;subst YB;obtain⟨m1,m2⟩:=T2 g hB h2 h3.2.1 h3.2.2.1 h3.2.2.2;have e1:(bZ.new (.sl true k xs) []).hp h=h:=by funext i;simp[bZ.hp,Heap.get]
       refine⟨V,w',_,_,.inl (eC V w' h1),by rw[e1];exact m1,?_⟩;rw[e1];exact m2
     |false =>
      rw[sM]at he;cases he;have YB:e=.wr (.bY id) ((id,.own (.row et k) xs)::di hh ((ps.toList.map fun p=>(p.1,ρ s p.2)).flatMap (·.2.cells))):=by rw[YB];cases mv<;>rfl
      subst YB;have heq:=nc _ _ rfl;subst heq
      let cs:=(ps.toList.map fun p=>(p.1,ρ s p.2)).flatMap (·.2.cells)
      have gd:=jK g cs;obtain⟨V,w',h1,h2,h3⟩:=Kr (P:=P) (N:=N) gd g (fun b hb=>.inl hb) hB hN ht M6 (fun p hp i b hm bp hb=>.inr ⟨i,List.mem_flatMap.2 ⟨p,hp,hm⟩,bp,hb⟩) PB qq hn (fun i ty cs' hb=>X8 i ty cs' (fD _ _ _ _ hb));refine⟨V,w',sS Z ψ hh.get cs,fE ψ id V,.inl (eC V w' h1),?_,?_⟩
      ·simp only[bZ.hp];rw[Dq];exact h2.drop (fun b hb=>.inl hb) (fun b hb=>hb.imp (fun h=>h) (fun⟨i,_,h5,h6⟩=>⟨i,h5,h6⟩)) (fD _ _)
      ·simp only[bZ.v,bZ.hp,aD];exact⟨h3.1,fun _=>(bE _ _ _).symm⟩
    ·cases he
theorem Rv{mv:Bool}{h:Heap}{id:Nat}{t:TypeId}{n:Nat}{ps:List (Nat×AV)}{e:bZ}(he:zH P mv h id t n ps some=some e):∃e0,xw P h id t n ps some=some e0∧e=if mv then Yq e0 else e0:=by
 unfold zH xw at he;unfold xw
 split at he
 ·cases he
 split at he
 ·cases he
 split at he
 ·cases he
 ·cases he
 split at he
 ·rename_i hc;rw[if_pos hc]
  cases sM:sY (ps.map (·.2)) with
  |true=>rw[sM]at he;exact⟨_,rfl,(abK he).symm⟩
  |false=>rw[sM]at he;exact⟨_,rfl,(abK he).symm⟩
 ·cases he
theorem DF(p:Nat→Prop)(v:Value):aS p (zu v):=by
 cases v with
 |pointer a=>simp only[zu];split<;>simp only[aS]
 |slice a n c=>simp only[zu];split<;>simp only[aS]
 |func fn first cap =>
  cases fn with
  |func f=>simp only[zu];split<;>simp only[aS,aJ]
  |_=>simp only[zu,aS]
 |_=>simp only[zu,aS]
theorem zP(p:Nat→Prop):∀vs:List Value,aJ p (vs.map zu)
 |[]=>by simp[aJ]
 |v::r=>by simp only[List.map_cons,aJ];exact⟨DF p v,zP p r⟩
theorem Rx(p:Nat→Prop)(v:Value):aJ p (wx v).cells:=by
 cases v with
 |agg cs=>simp only[wx,AV.cells];exact zP p _
 |_=>simp only[wx];rw[G1];simp only[aJ];exact⟨DF p _,trivial⟩
theorem Ub(Gc:∀t k,Eqs t=some k→nK P t k){hh:Heap}{ρC:Operand→Value}{s:List (Nat×AV)}{o:Oper}(g:Good Z ψ h w B0 O)(hB:B0≤w.heap.size)(bL:∀id o,hh.get id=some o→h id=some o){id:Nat}(hN:makes o.op=true→N id){e:bZ} (qe:∀x∈o.op.operands,aD Z ψ h w (ρ s x) (ρC x)) (hm:∀x∈o.op.operands,aS (fun i=>¬N i) (ρ s x)) (bD:∀i ty cs,h i=some (.box ty cs)→aJ (fun i=>¬N i) cs) (nc:∀v hw,e=.wr v hw→hh.get=h) (Na:xQ o=false) (he:dy P Eqs Sg F id hh s o some=some e):jm P ρC o Z ψ h w B0 O N e:=by
 obtain⟨dst,op,type,pos,after,guard⟩:=o;have two:∀{a b:Operand},(∀x∈(#[a,b]:Array Operand),aD Z ψ h w (ρ s x) (ρC x))→aD Z ψ h w (ρ s a) (ρC a)∧aD Z ψ h w (ρ s b) (ρC b):=fun hx=>⟨hx _ (by simp),hx _ (by simp)⟩
 cases op<;>simp only[dy]at he<;>simp only[Op.operands]at qe hm<;>first|(cases he;done)|skip
 case move x=>cases he;exact jm.val g (V:=ρC x) (by simp[execOp]) (qe x (by simp))
 case assign x=>cases he;exact jm.val g (V:=ρC x) (by simp[execOp]) (qe x (by simp))
 case pick c a b =>
  have h1:=qe c (by simp);have h2:=qe a (by simp);have h3:=qe b (by simp)
  split at he
  ·rename_i t ht
   cases he
   rw[ht]at h1;simp only[aD]at h1;refine jm.val g (V:=if t then ρC a else ρC b) (by simp[execOp,h1,asBool]) ?_;unfold aar
   split
   ·rename_i p q hp hq;rw[hp]at h2;rw[hq]at h3;simp only[aD]at h2 h3 ⊢
    cases t<;>simp[h2,h3]
   ·cases t
    ·exact h3
    ·exact h2
  ·cases he
 case alloc t =>
  split at he
  ·rename_i z hz;obtain⟨i,zv,hi,hzz,rfl,h1⟩:=rr hz;exact DE (us:=zv.cells) g hB (hN rfl) (Dn zv) h1 (Rx _ zv) bD he (by simp[execOp,Instr.alloc,xK hi hzz,newVar,newRow,newObj,Sem.run])
  ·cases he
 case box t x =>
  have h1:=qe x (by simp)
  split at he
  ·rename_i hp;have hc:=h1.cells (Kv hp);exact DE (us:=(ρC x).cells) g hB (hN rfl) hc (wJ hp hc) (hm x (by simp)).cells bD he (by simp[execOp,Instr.box,newVar,newRow,newObj,Sem.run])
  ·cases he
 case build t ps =>
  unfold uA at he
  split at he
  ·rename_i z fs hz hf
   split at he
   ·rename_i cs aed gO
    cases he
    simp only[Bool.and_eq_true]at gO;obtain⟨gO,hnn⟩:=gO;have aee:fs.toList.all (fun f=>(P.info? f.type).isSome)=true:=gO;have abP:∀p∈ps.toList,aD Z ψ h w (ρ s p.2) (ρC p.2):=fun p hp=>qe p.2 (by simp;exact⟨p.1,by simpa using hp⟩);have ND:=DD (Z:=Z) (ψ:=ψ) (h:=h) (w:=w) ps.toList abP (fun p hp=>NB (acQ.1 hnn (p.1,ρ s p.2) (abY.2 ⟨p,hp,rfl⟩)));obtain⟨V,h1,h2⟩:=Rk (P:=P) (qs:=ps.map fun p=>(p.1,ρC p.2)) hz hf aee (by rw[Array.toList_map];exact ND) aed;exact jm.val g (V:=V) (by simp only[execOp,Sem.run_bind];rw[h1];simp) h2
   ·cases he
  ·cases he
 case buildSlice t n ps =>
  have abP:∀p∈ps.toList,aD Z ψ h w (ρ s p.2) (ρC p.2):=fun p hp=>qe p.2 (by simp;exact⟨p.1,by simpa using hp⟩);obtain⟨e0,h0,h1⟩:=Rv he;exact Ru g hB bL (hN rfl) abP bD (aat Sg t _) h1 nc h0 (fun V w' h1=>by simp only[execOp,Sem.run_bind];rw[h1];simp)
 case load t a =>
  obtain⟨x,V,rfl,h1,h2⟩:=wG g bL (qe a (by simp)) he;exact jm.val g (V:=V) (by simp[execOp,h1]) h2
 case store t a v =>
  obtain⟨h1,h2⟩:=two qe;have hw:∃hw,e=.wr .no hw:=by obtain⟨hw,_,_,h3,_⟩:=Be (P:=P) (N:=N) (g.sub bL) (h1.sL bL) (h2.sL bL) he;exact⟨hw,h3⟩
  obtain⟨hw,rfl⟩:=hw;have heq:=nc _ _ rfl;subst heq;obtain⟨Ny,w',Z',h3,h4,h5⟩:=Be (P:=P) (N:=N) g h1 h2 he
  cases h3
  exact⟨undef,w',Z',ψ,.inr ⟨by simp[execOp,h4],rfl⟩,h5,by simp only[bZ.v,aD]⟩
 case nilCheck x =>
  have h1:=qe x (by simp)
  split at he
  ·rename_i id s i off hx
   cases he
   rw[hx]at h1;have h2:=h1;simp only[aD]at h1;obtain⟨a,ha,_⟩:=h1;exact jm.val g (V:=ρC x) (by simp[execOp,ha]) h2
  ·rename_i k y off hx
   cases he
   rw[hx]at h1;have h2:=h1;simp only[aD]at h1;obtain⟨a,us,ha,_⟩:=h1;exact jm.val g (V:=ρC x) (by simp[execOp,ha]) h2
  ·rename_i f cap hx
   cases he
   rw[hx]at h1;have h2:=h1;simp only[aD]at h1;obtain⟨vs,ha,_⟩:=h1;exact jm.val g (V:=ρC x) (by simp[execOp,ha]) h2
  ·cases he
 case binOp op t x y yt =>
  obtain⟨h1,h2⟩:=two qe;obtain⟨r,V,rfl,h3,h4⟩:=Rq Gc (xo:=x) (yo:=y) h1 h2 he;exact jm.val g (V:=V) (by simp only[execOp,Sem.run_bind]at h3 ⊢;rw[h3];simp) h4
 case unOp op t x =>
  have h1:=qe x (by simp)
  cases op<;>simp only at he<;>first|(cases he;done)|skip
  split at he
  ·rename_i b hx
   cases he
   rw[hx]at h1;simp only[aD]at h1;exact jm.val g (V:=.bool (!b)) (by simp[execOp,h1,Op.unary]) (by simp only[aD])
  ·cases he
 case convert src dst x =>
  have h1:=qe x (by simp);unfold C8 at he
  split at he
  ·rename_i k1 k2 k3 n hs hd hx
   cases he
   rw[hx]at h1;simp only[aD]at h1;exact jm.val g (V:=.int k2 (k2.wrap n)) (by simp[execOp,h1,convert,run_underlying hs,run_underlying hd,Conv.intToInt]) (by simp only[aD])
  ·rename_i sv hs hd hx
   cases he
   rw[hx]at h1;have h2:=h1;simp only[aD]at h1;exact jm.val g (V:=ρC x) (by simp[execOp,h1,convert,run_underlying hs,run_underlying hd]) h2
  ·cases he
 case makeFunc fn first cap =>
  cases fn<;>simp only at he<;>first|(cases he;done)|skip
  rename_i f
  split at he
  ·rename_i hf
   cases he
   have h0:first=#[]:=adP hf
   subst h0;have hl:∀l:List Operand,(∀x∈l,aD Z ψ h w (ρ s x) (ρC x))→ax Z ψ h w (l.map (ρ s)) (l.map ρC):=by
    intro l
    induction l with
    |nil=>intro _;simp[ax]
    |cons a r ih=>intro ha;simp only[List.map_cons,ax];exact⟨_,_,rfl,ha a (by simp),ih (fun x hx=>ha x (aa5 _ hx))⟩
   exact jm.val g (V:=.func (.func f) #[] (cap.map ρC)) (by simp[execOp,Instr.makeFunc]) (by simp only[aD];exact⟨_,rfl,by rw[Array.toList_map];exact hl _ (fun x hx=>qe x (by simp;simpa using hx))⟩)
  ·cases he
 case slice t x lo hi mx =>
  have h1:=qe x (by simp);have h2:fL Z ψ h w (lo.map (ρ s)) (lo.map ρC):=NA (fun y hy=>qe y (by subst hy;simp));have h3:fL Z ψ h w (hi.map (ρ s)) (hi.map ρC):=NA (fun y hy=>qe y (by subst hy;simp));have h4:fL Z ψ h w (mx.map (ρ s)) (mx.map ρC):=NA (fun y hy=>qe y (by subst hy;simp))
  split at he
  ·rename_i ht;unfold zy at he
   split at he
   ·rename_i sv hx hmx
    split at he
    ·rename_i l u hb
     cases ho:bI sv.size l u with
     |false=>rw[ho]at he;cases he
     |true =>
      rw[ho]at he;cases he;rw[hx]at h1;simp only[aD]at h1;have hm0:mx=none:=by cases mx with
       |none=>rfl
       |some m=>simp at hmx
      subst hm0;have eC:=wH (P:=P) (w:=w) (b:=false) (abZ sv.size) h2 h3 (mx:=none) (mx':=none) trivial hb ho (.inl rfl);exact jm.val g (V:=.string (abE sv l u)) (by simp[execOp,Instr.sliceAt,Instr.slice,run_underlying ht,h1,eC,abE]) (by simp only[aD])
    ·cases he
   ·cases he
  ·rename_i et ht
   split at he
   ·rename_i Yx;obtain⟨V,Z',h5,h6,h7⟩:=Ku (P:=P) (N:=N) g bL ht h1 h2 h3 h4 nc he Yx;exact⟨V,w,Z',ψ,.inl (by simp[execOp,h5]),h6,h7⟩
   ·cases he
  ·cases he
 case fieldAddr t x f =>
  have h1:=qe x (by simp)
  split at he
  ·rename_i n ft id sz i off hf hx
   split at he
   ·cases he
   ·rename_i hc
    cases he
    rw[hx]at h1;obtain⟨V,h2,h3⟩:=vK (P:=P) hf hc h1;exact jm.val g (V:=V) (by simp[execOp,h2]) h3
  ·rename_i n ft k y off hf hx
   split at he
   ·cases he
   ·rename_i hc
    cases he
    rw[hx]at h1;obtain⟨V,h2,h3⟩:=xM (P:=P) hf hc h1;exact jm.val g (V:=V) (by simp[execOp,h2]) h3
  ·cases he
 case field t x f =>
  have h1:=qe x (by simp)
  split at he
  ·rename_i n ft cs hf hx
   split at he
   ·rename_i v hv
    cases he
    rw[hx]at h1;obtain⟨V,h2,h3⟩:=Kt (P:=P) hf h1 hv;exact jm.val g (V:=V) (by simp[execOp,h2]) h3
   ·cases he
  ·cases he
 case indexAddr t x i =>
  obtain⟨h1,h2⟩:=two qe;obtain⟨y,V,rfl,h3,h4⟩:=sF g bL h1 h2 he;exact jm.val g (V:=V) (by simp[execOp,h3]) h4
 case index t x i =>
  obtain⟨h1,h2⟩:=two qe
  split at he
  ·rename_i sv ik n ht hx hi;obtain⟨c,hc,X5⟩:=acR.1 he
   cases X5
   rw[hx]at h1;rw[hi]at h2;simp only[aD]at h1 h2;exact jm.val g (V:=.int .u8 (c.toNat:Int)) (by simp[execOp,Instr.index,asIntOf,run_underlying ht,h1,h2,hc]) (by simp only[aD])
  ·cases he
 case extract t i =>
  have h1:=qe t (by simp)
  split at he
  ·rename_i vs hx
   split at he
   ·rename_i v hv
    cases he
    rw[hx]at h1;simp only[aD]at h1;obtain⟨us,hu,hl⟩:=h1;obtain⟨u,h2,h3⟩:=hl.get i hv;exact jm.val g (V:=u) (by simp[execOp,Instr.extract,hu,show us[i]? = some u by simpa using h2]) h3
   ·cases he
  ·cases he
 case makeMap t r =>
  cases r with
  |some r=>cases he
  |none =>simp only at he;have X8:∀i ty cs,h i=some (.box ty cs)→aJ (fun i=>i≠id) cs:=fun i ty cs hb=>(bD i ty cs hb).imp (fun j hj e=>hj (by rw[e];exact hN rfl));obtain⟨V,w',ψ',h1,h2,h3⟩:=Gp g hB (hN rfl) X8 he;exact⟨V,w',Z,ψ',.inl (by simp[execOp,h1]),h2,h3⟩
 case lookup t m i ok =>
  obtain⟨h1,h2⟩:=two qe;obtain⟨y,V,rfl,h3,h4⟩:=IF Gc g bL h1 h2 he;exact jm.val g (V:=V) (by simp[execOp,h3]) h4
 case mapUpdate t m i v =>
  have h1:=qe m (by simp);have h2:=qe i (by simp);have h3:=qe v (by simp);have hw:∃hw,e=.wr (.pH []) hw:=by obtain⟨hw,_,_,h4,_⟩:=xN (N:=N) Gc (g.sub bL) (h1.sL bL) (h2.sL bL) (h3.sL bL) he;exact⟨hw,h4⟩
  obtain⟨hw,rfl⟩:=hw;have heq:=nc _ _ rfl;subst heq;obtain⟨Ny,w',Z',h4,h5,h6⟩:=xN (N:=N) Gc g h1 h2 h3 he
  cases h4
  exact⟨undef,w',Z',ψ,.inr ⟨by simp[execOp,h5],rfl⟩,h6,by simp only[bZ.v,aD,ax];exact⟨#[],rfl,rfl⟩⟩
 case range t x =>
  have X8:∀i ty cs,h i=some (.box ty cs)→aJ (fun i=>i≠id) cs:=fun i ty cs hb=>(bD i ty cs hb).imp (fun j hj e=>hj (by rw[e];exact hN rfl));obtain⟨V,w',ψ',h1,h2,h3⟩:=IG g hB (hN rfl) (qe x (by simp)) X8 he;exact⟨V,w',Z,ψ',.inl (by simp[execOp,h1]),h2,h3⟩
 case next x b =>
  cases b with
  |false=>cases he
  |true =>obtain⟨V,w',h1,h2,h3⟩:=Kz (P:=P) (N:=N) (ty:=type) g bL (qe x (by simp)) nc he;exact⟨V,w',Z,ψ,.inl (by simp[execOp,h1]),h2,h3⟩
 case entry x =>
  obtain⟨y,V,rfl,h1,h2⟩:=KA (P:=P) g bL (qe x (by simp)) he;exact jm.val g (V:=V) (by simp[execOp,h1]) h2
 case call c =>
  obtain⟨callee,args,argTypes⟩:=c
  cases callee with
  |value f=>simp[xQ]at Na
  |invoke r m=>simp only at he;cases he
  |builtin b =>
   have mH:∀x∈args.toList,aD Z ψ h w (ρ s x) (ρC x):=fun x hx=>qe x (by simp only[Call.operands];exact Array.mem_append.2 (.inr (by simpa using hx)));have Uc:∀x∈args.toList,aS (fun i=>¬N i) (ρ s x):=fun x hx=>hm x (by simp only[Call.operands];exact Array.mem_append.2 (.inr (by simpa using hx)));obtain⟨args⟩:=args;obtain⟨argTypes⟩:=argTypes;simp only at he mH Uc
   cases b<;>simp only at he<;>first|(cases he;done)|skip
   case append =>
    split at he
    ·rename_i l1 l2 x y t t'
     split at he
     ·rename_i htt;subst htt;exact IH g hB bL (hN rfl) (mH x (by simp)) (mH y (by simp)) (Uc x (by simp)) bD nc he (fun V w' h1=>by simp only[execOp,resolve,invoke,builtin,Sem.run_bind,Sem.run_pure,Result.andThen_ok,List.map_toArray,List.map_cons,List.map_nil,h1])
     ·cases he
    ·cases he
   case delete =>
    split at he
    ·rename_i l1 l2 m x t ts;have h1:=mH m (by simp);have h2:=mH x (by simp);have hw:∃hw,e=.wr (.pH []) hw:=by obtain⟨hw,_,h4,_⟩:=xO (N:=N) (ty:=type) (ts:=ts) Gc (g.sub bL) (h1.sL bL) (h2.sL bL) he;exact⟨hw,h4⟩
     obtain⟨hw,rfl⟩:=hw;have heq:=nc _ _ rfl;subst heq;obtain⟨Ny,w',h4,h5,h6⟩:=xO (N:=N) (ty:=type) (ts:=ts) Gc g h1 h2 he
     cases h4
     exact⟨.tuple #[],w',Z,ψ,.inl (by simp only[execOp,resolve,invoke,builtin,Sem.run_bind,Sem.run_pure,Result.andThen_ok,List.map_toArray,List.map_cons,List.map_nil,h5]),h6,by simp only[bZ.v,aD,ax];exact⟨#[],rfl,rfl⟩⟩
    ·cases he
   case len =>
    split at he
    ·rename_i l1 l2 x t
     split at he
     ·rename_i htm;obtain⟨n,rfl,h1⟩:=Nz (P:=P) (ty:=type) g bL htm (mH x (by simp)) he;exact jm.val g (V:=.int .i64 (n:Int)) (by simp only[execOp,resolve,invoke,builtin,Sem.run_bind,Sem.run_pure,Result.andThen_ok,List.map_toArray,List.map_cons,List.map_nil,h1]) (by simp only[aD])
     split at he
     ·rename_i aK;obtain⟨n,rfl,h1⟩:=Ro g bL (mH x (by simp)) he;refine jm.val g (V:=.int .i64 (n:Int)) ?_ (by simp only[aD]);rcases h1 with⟨sv,h2,h3,rfl⟩|⟨A,c,h3⟩
      ·unfold abF at aK;rw[h2]at aK
       split at aK
       ·rename_i hu _;simp[execOp,resolve,invoke,builtin,Builtin.len_,run_underlying hu,h3,goInt]
       ·cases aK
       ·rename_i h9;exact(h9 _ rfl).elim
       ·cases aK
      ·have hu:∃e,P.underlying t=some (.slice e):=by
        have h4:=mH x (by simp);rw[h3]at h4;unfold abF at aK
        split at aK
        ·rename_i sv _ hxx;rw[hxx]at h4;simp only[aD]at h4;cases h4
        ·cases aK
        ·rename_i e _ hu _;exact⟨_,hu⟩
        ·cases aK
       obtain⟨e,hu⟩:=hu;simp[execOp,resolve,invoke,builtin,Builtin.len_,run_underlying hu,h3,goInt]
     ·cases he
    ·cases he
   all_goals
    unfold Rf at he
    split at he
    ·rename_i k a k' b TB;have hl:=congrArg List.length TB;simp only[List.length_map,List.length_cons,List.length_nil]at hl;obtain⟨x,y,rfl⟩:=abO hl;simp only[List.map_cons,List.map_nil,List.cons.injEq,and_true]at TB;have h1:=mH x (by simp);have h2:=mH y (by simp);rw[TB.1]at h1;rw[TB.2]at h2;simp only[aD]at h1 h2
     split at he
     ·rename_i hk;subst hk
      cases he
      refine jm.val g (V:=cw (.int _ _)) ?_ (kV _ _)
      first
       |(simp[execOp,resolve,invoke,builtin,Builtin.max_,Builtin.max2,h1,h2,cw];simp only[Int.max_def];split<;>split<;>omega)
       |(simp[execOp,resolve,invoke,builtin,Builtin.min_,Builtin.min2,h1,h2,cw];simp only[Int.min_def];split<;>split<;>omega)
     ·cases he
    ·cases he
end
end Go.Vs
namespace Go.Vs
variable {P:Program} {Z Z' Zf:Nat→Prop} {ψ ψ':Nat→Value} {h h':Hp} {w w':World} {B0:Nat} {O:Nat→Prop} {N:Nat→Prop}
abbrev Bh:=Nat×Option Nat×Ob
def eO(L:List Bh):Heap:=L.map fun e=>(e.1,e.2.2)
def kW(ψ:Nat→Value):Option Nat→Value
 |some s=>ψ s
 |none=>.slice none 0 0
def fZ(ψ:Nat→Value):List Bh→Nat→Value
 |[],_=>undef
 |(i,s,_)::r,n=>if i=n then kW ψ s else fZ ψ r n
theorem qu{L:List Bh}{i:Nat}{o:Ob}(hg:(eO L).get i=some o):∃s,(i,s,o)∈L:=by
 induction L with
 |nil=>simp[eO,Heap.get]at hg
 |cons e r ih =>
  obtain⟨j,s,o'⟩:=e;simp only[eO,List.map_cons,Heap.get]at hg
  split at hg
  ·rename_i e;subst e;cases hg;exact⟨s,abu⟩
  ·obtain⟨s',hs⟩:=ih hg;exact⟨s',aa5 _ hs⟩
theorem oW{i:Nat}{r:List Nat}(h:cI (i::r)=true):i∉r∧cI r=true:=by simp only[cI,Bool.and_eq_true,Bool.not_eq_true']at h;exact⟨fun hm=>by rw[List.contains_iff_mem.2 hm]at h;simp at h,h.2⟩
theorem jU{L:List Bh}(hn:cI (L.map (·.1))=true){i:Nat}{s:Option Nat}{o:Ob}(hm:(i,s,o)∈L):fZ ψ L i=kW ψ s:=by
 induction L with
 |nil=>cases hm
 |cons e r ih =>
  obtain⟨j,s',o'⟩:=e;obtain⟨h1,h2⟩:=oW hn;simp only[fZ];rcases abn.1 hm with he|hm
  ·cases he;simp
  ·rw[if_neg,ih h2 hm];rintro rfl;exact h1 (abY.2 ⟨_,hm,rfl⟩)
theorem YC{L:List Bh}(hs:cI (L.filterMap (·.2.1))=true){i j s:Nat}{o o':Ob}(h1:(i,some s,o)∈L)(h2:(j,some s,o')∈L):i=j∧o=o':=by
 induction L with
 |nil=>cases h1
 |cons e r ih =>
  obtain⟨k,s',o''⟩:=e;have mem:∀{k:Nat} {o:Ob},(k,some s,o)∈r→s∈r.filterMap (·.2.1):=fun h=>ad9.2 ⟨_,h,rfl⟩;rw[List.filterMap_cons]at hs
  cases s' with
  |none =>simp only[]at hs;exact ih hs ((abn.1 h1).resolve_left (by simp)) ((abn.1 h2).resolve_left (by simp))
  |some s' =>
   simp only[]at hs;obtain⟨h3,h4⟩:=oW hs;rcases abn.1 h1 with e1|m1<;>rcases abn.1 h2 with e2|m2
   ·cases e1;cases e2;exact⟨rfl,rfl⟩
   ·cases e1;exact absurd (mem m2) h3
   ·cases e2;exact absurd (mem m1) h3
   ·exact ih h4 m1 m2
def KB:(ok:OK)→ok.T→Prop
 |.row _ _,xs=>xs=[]
 |_,_=>False
theorem KB.owns:∀{ok:OK} {xs:ok.T},KB ok xs→kM Z w ok (.slice none 0 0) xs
 |.row ty k,xs,h=>by have h:xs=[]:=h;subst h;exact⟨[],⟨by simp,.inl ⟨rfl,none,rfl⟩⟩,fun i x hx=>by simp at hx⟩
 |.map _ _,_,h=>h.elim
 |.iter _ _,_,h=>h.elim
 |.qg,_,h=>h.elim
def xR(Z:Nat→Prop)(ψ:Nat→Value)(h:Hp)(w:World)(h':Hp)(ψ':Nat→Value):Bh→Prop
 |(_,some s,.own ok xs)=>h s=some (.own ok xs)
 |(_,none,.own ok xs)=>KB ok xs
 |(_,some s,.box ty cs')=>(∃cs,h s=some (.box ty cs))∧∀gg vs,ψ s=.pointer (some ⟨gg,0,none⟩)→w.heap[gg]? = some (.cells vs ty (0,0))→ax Z ψ' h' w cs' vs.toList
 |(_,none,.box _ _)=>False
theorem Good.rename(g:Good Z ψ h w B0 O){L:List Bh}(hn:cI (L.map (·.1))=true)(hs:cI (L.filterMap (·.2.1))=true)(nL:∀e∈L,xR Z ψ h w (eO L).get (fZ ψ L) e) :
  Good Z (fZ ψ L) (eO L).get w B0 O:=by
 have src:∀id b,(eO L).get id≠none→ob (fZ ψ L id)=some b→∃s o,(id,some s,o)∈L∧h s≠none∧ob (ψ s)=some b:=fun id b h1 h2=>by
  obtain⟨o,ho⟩:=abT.1 h1;obtain⟨s,hm⟩:=qu ho;rw[jU hn hm]at h2
  cases s with
  |none=>simp[kW,ob]at h2
  |some s =>
   have h3:=nL _ hm;refine⟨s,o,hm,?_,h2⟩
   cases o with
   |box ty cs=>obtain⟨⟨cs0,h4⟩,_⟩:=h3;rw[h4];simp
   |own ok xs=>rw[show h s=some (.own ok xs) from h3];simp
 refine⟨fun id ty cs hb=>?_,fun id ok xs hb=>?_,fun id b h1 h2=>?_,fun id oP b h1 h2 h3 h4=>?_,g.kT⟩
 ·obtain⟨s,hm⟩:=qu hb;have h3:=nL _ hm;rw[jU hn hm]
  cases s with
  |none=>exact h3.elim
  |some s =>obtain⟨⟨cs0,h4⟩,h5⟩:=h3;obtain⟨gg,vs,h6,h7,h8,h9⟩:=g.box s ty cs0 h4;exact⟨gg,vs,h6,h7,h5 gg vs h6 h7,h9⟩
 ·obtain⟨s,hm⟩:=qu hb;have h3:=nL _ hm;rw[jU hn hm]
  cases s with
  |none=>exact KB.owns h3
  |some s=>exact g.row s ok xs h3
 ·obtain⟨s,o,hm,h3,h4⟩:=src id b h1 h2;exact g.live s b h3 h4
 ·obtain⟨s,o,hm,h5,h6⟩:=src id b h1 h3;obtain⟨s',o',YD,h5',h6'⟩:=src oP b h2 h4;have:=g.apart s s' b h5 h5' h6 h6';subst this;exact(YC hs hm YD).1
def Cn(hh:Heap)(i:Nat):List AV:=match hh.get i with
 |some (.box _ cs)=>cs
 |_=>[]
def eU:(eg:List CK)→Nat→List AV→sW eg→List Bh
 |[],_,_,_=>[]
 |.val k::r,n,cs,x=>eU r (n+1) (cs.drop k.sz) x.2
 |.own ok::r,n,cs,x=>(n,(rl (cs.headD .no)).head?,.own ok x.1)::eU r (n+1) cs.tail x.2
def fb:(b:BK)→Heap→Nat→Nat→Nat→b.T→List Bh
 |.box ty c,hh,i,i',n,x=>(i',some i,.box ty (aL c n x))::eU c n (Cn hh i) x
 |.own ok,_,i,i',_,x=>[(i',some i,.own ok x)]
def cZ:(bs:List BK)→Heap→List Nat→List Nat→Nat→zw bs→List Bh
 |b::r,hh,i::is,i'::is',n,x=>fb b hh i i' n x.1++cZ r hh is is' (n+16) x.2
 |_,_,_,_,_,_=>[]
theorem oX:∀(eg:List CK) (n:Nat) (cs:List AV) (x:sW eg),eO (eU eg n cs x)=bq eg n x
 |[],_,_,_=>rfl
 |.val k::r,n,cs,x=>oX r (n+1) _ x.2
 |.own ok::r,n,cs,x=>by simp only[eU,bq,eO,List.map_cons];rw[←oX r (n+1) cs.tail x.2];rfl
theorem mO:∀(eg:List CK) (n:Nat) (cs:List AV) (x:sW eg),(eU eg n cs x).map (·.1)=cO eg n
 |[],_,_,_=>rfl
 |.val k::r,n,cs,x=>mO r (n+1) _ x.2
 |.own ok::r,n,cs,x=>by simp only[eU,cO,List.map_cons];rw[mO r (n+1) cs.tail x.2]
theorem zQ(c:AV):(rl c).head?.toList=rl c:=by cases c<;>rfl
theorem fe{α β:Type}(f:α→Option β)(a:α)(l:List α):(a::l).filterMap f=(f a).toList++l.filterMap f:=by rw[List.filterMap_cons];cases f a<;>rfl
theorem rz{k:K}{r:List CK}{hh:Heap}{cs:List AV}{x:sW (.val k::r)}(hd:dn (.val k::r) hh cs=some x):ep k ((cs.take k.sz).map (dm hh))=some x.1∧dn r hh (cs.drop k.sz)=some x.2:=by
 have e:dn (.val k::r) hh cs=(match ep k ((cs.take k.sz).map (dm hh)),dn r hh (cs.drop k.sz) with
  |some x,some y=>some ((x,y):k.T×sW r)
  |_,_=>none):=by cases cs<;>rfl
 rw[e]at hd;clear e;generalize ep k ((cs.take k.sz).map (dm hh))=o1 at hd ⊢;generalize dn r hh (cs.drop k.sz)=o2 at hd ⊢
 cases o1 with
 |none=>cases hd
 |some x1 =>
  cases o2 with
  |none=>cases hd
  |some y1=>have:=abK hd;subst this;exact⟨rfl,rfl⟩
theorem nM{ok:OK}{r:List CK}{hh:Heap}{cs:List AV}{x:sW (.own ok::r)}(hd:dn (.own ok::r) hh cs=some x):∃c cs',cs=c::cs'∧fk hh ok c=some x.1∧dn r hh cs'=some x.2:=by
 cases cs with
 |nil=>cases hd
 |cons c cs =>
  refine⟨c,cs,rfl,?_⟩;have e:dn (.own ok::r) hh (c::cs)=(match fk hh ok c,dn r hh cs with
   |some x,some y=>some ((x,y):ok.T×sW r)
   |_,_=>none):=rfl
  rw[e]at hd;clear e;generalize fk hh ok c=o1 at hd ⊢;generalize dn r hh cs=o2 at hd ⊢
  cases o1 with
  |none=>cases hd
  |some x1 =>
   cases o2 with
   |none=>cases hd
   |some y1=>have:=abK hd;subst this;exact⟨rfl,rfl⟩
theorem rB:∀(eg:List CK) (n:Nat) (hh:Heap) (cs:List AV) (x:sW eg),dn eg hh cs=some x→(eU eg n cs x).filterMap (·.2.1)=g8 eg cs
 |[],_,_,cs,_,_=>by cases cs<;>rfl
 |.val k::r,n,hh,cs,x,hd=>by
  obtain⟨_,h2⟩:=rz hd;have e:g8 (.val k::r) cs=g8 r (cs.drop k.sz):=by cases cs<;>rfl
  rw[e];exact rB r (n+1) hh _ x.2 h2
 |.own ok::r,n,hh,cs,x,hd=>by obtain⟨c,cs',rfl,_,h2⟩:=nM hd;simp only[eU,g8];rw[fe];simp only[List.headD_cons,List.tail_cons];rw[zQ,rB r (n+1) hh cs' x.2 h2]
theorem nN{hh:Heap}{ok:OK}{c:AV}{xs:ok.T}(ho:fk hh ok c=some xs):(c=.il∧KB ok xs)∨∃id,c=.bY id∧hh.get id=some (.own ok xs):=by
 unfold fk at ho
 split at ho
 ·cases ok with
  |row _ _=>cases ho;exact .inl ⟨rfl,rfl⟩
  |_=>cases ho
 ·rename_i id
  split at ho
  ·rename_i BX k' xs' hg
   split at ho
   ·rename_i e;subst e
    cases ho
    exact .inr ⟨id,rfl,hg⟩
   ·cases ho
  ·cases ho
 ·cases ho
theorem IJ{hh:Heap}{ok:OK}{c:AV}{xs:ok.T}{v:Value}(ho:fk hh ok c=some xs)(hr:aD Z ψ hh.get w c v){n:Nat}(kc:h' n≠none→ψ' n=kW ψ (rl c).head?):aD Z' ψ' h' w' (.bY n) v:=by
 rcases nN ho with⟨rfl,_⟩|⟨id,rfl,hg⟩
 ·simp only[aD]at hr ⊢;subst hr;exact⟨⟨rfl,rfl⟩,fun hn=>(kc hn).symm⟩
 ·simp only[aD]at hr ⊢;refine⟨hr.1,fun hn=>?_⟩;rw[kc hn];exact hr.2 (by rw[hg];simp)
theorem uK{hh:Heap}(g:Good Z ψ hh.get w B0 O)(hz:∀b,Z b→Z' b):∀(eg:List CK) (n:Nat) (cs:List AV) (x:sW eg) (vs:List Value),dn eg hh cs=some x →(∀id b,AV.bY id∈sw eg cs→hh.get id≠none→ob (ψ id)=some b→Z' b)→(∀e∈eU eg n cs x,h' e.1≠none→ψ' e.1=kW ψ e.2.1) → ax Z ψ hh.get w cs vs→ax Z' ψ' h' w (aL eg n x) vs
 |[],n,cs,x,vs,hd,_,_,hr=>by
  cases cs with
  |nil=>simpa only[aL,ax] using hr
  |cons c cs=>cases hd
 |.val k::r,n,cs,x,vs,hd,hf,kc,hr=>by
  obtain⟨h1,h2⟩:=rz hd;have e:sw (.val k::r) cs=cs.take k.sz++sw r (cs.drop k.sz):=by cases cs<;>rfl
  rw[e]at hf;have uE:ax Z ψ hh.get w (cs.take k.sz++cs.drop k.sz) vs:=by rw[List.take_append_drop];exact hr
  obtain⟨us,ws,rfl,h3,h4⟩:=ax.split uE;simp only[aL];have h5:=qp (Z':=Z') g hz (fun id b bV=>hf id b (abt _ bV)) h3;exact ax.append (jB (eR h1 h5)) (uK g hz r (n+1) (cs.drop k.sz) x.2 ws h2 (fun id b bV=>hf id b (abo _ bV)) kc h4)
 |.own ok::r,n,cs,x,vs,hd,hf,kc,hr=>by obtain⟨c,cs',rfl,h1,h2⟩:=nM hd;simp only[ax]at hr;obtain⟨v,us,rfl,h3,h4⟩:=hr;simp only[aL,ax];refine⟨v,us,rfl,IJ h1 h3 (fun hn=>kc (n,_,_) (by simp only[eU];exact abu) hn),?_⟩;exact uK g hz r (n+1) cs' x.2 us h2 hf (fun e he=>kc e (by simp only[eU];exact aa5 _ he)) h4
theorem gK{b:BK}{r:List BK}{hh:Heap}{i:Nat}{is:List Nat}{x:zw (b::r)}(hd:dD (b::r) hh (i::is)=some x):sB b hh i=some x.1∧dD r hh is=some x.2:=by
 have e:dD (b::r) hh (i::is)=(match sB b hh i,dD r hh is with
   |some x,some y=>some ((x,y):b.T×zw r)
   |_,_=>none):=rfl
 rw[e]at hd;clear e;generalize sB b hh i=o1 at hd ⊢;generalize dD r hh is=o2 at hd ⊢
 cases o1 with
 |none=>cases hd
 |some x1 =>
  cases o2 with
  |none=>cases hd
  |some y1=>have:=abK hd;subst this;exact⟨rfl,rfl⟩
theorem uL{ty:TypeId}{c:List CK}{hh:Heap}{i:Nat}{x:sW c}(hd:sB (.box ty c) hh i=some x):∃cs,hh.get i=some (.box ty cs)∧dn c hh cs=some x:=by
 simp only[sB]at hd
 cases hb:C4 hh i ty with
 |none=>rw[hb]at hd;cases hd
 |some cs =>
  rw[hb]at hd;refine⟨cs,?_,hd⟩;unfold C4 at hb
  split at hb
  ·rename_i BX cs' hg
   split at hb
   ·rename_i e;cases hb;rw[hg,e]
   ·cases hb
  ·cases hb
theorem kX{hh:Heap}{ok:OK}{i:Nat}{x:ok.T}(h:fk hh ok (.bY i)=some x):hh.get i=some (.own ok x):=by
 rcases nN h with⟨h,_⟩|⟨id,h,hg⟩
 ·cases h
 ·cases h;exact hg
theorem G7{ok:OK}{hh:Heap}{i:Nat}{x:ok.T}(hd:sB (.own ok) hh i=some x):hh.get i=some (.own ok x):=kX hd
theorem rC{hh:Heap}{i:Nat}{ty:TypeId}{cs:List AV}(hg:hh.get i=some (.box ty cs)):Cn hh i=cs:=by unfold Cn;rw[hg]
theorem IK(b:BK){hh:Heap}{i i' n:Nat}(x:b.T):eO (fb b hh i i' n x)=ke b i' n x:=by
 cases b with
 |box ty c=>simp only[fb,ke];rw[←oX c n (Cn hh i) x];simp[eO]
 |own ok=>simp[fb,ke,eO]
theorem Gq(b:BK){hh:Heap}{i i' n:Nat}(x:b.T):(fb b hh i i' n x).map (·.1)=i'::cO b.eg n:=by
 cases b with
 |box ty c=>simp only[fb,List.map_cons,BK.eg];rw[mO]
 |own ok=>simp[fb,BK.eg,cO]
theorem KC(b:BK){hh:Heap}{i i' n:Nat}{x:b.T}(hd:sB b hh i=some x):(fb b hh i i' n x).filterMap (·.2.1)=lB b hh i:=by
 cases b with
 |box ty c =>obtain⟨cs,h1,h2⟩:=uL hd;simp only[fb,lB];rw[fe,rC h1,rB c n hh cs x h2,h1];rfl
 |own ok=>simp[fb,lB]
theorem kh:∀(bs:List BK) (hh:Heap) (is is':List Nat) (n:Nat) (x:zw bs),dD bs hh is=some x→is'.length=bs.length→eO (cZ bs hh is is' n x)=bJ bs is' n x
 |[],hh,is,is',n,x,_,hl=>by cases is'<;>simp[cZ,bJ,eO]
 |b::r,hh,[],is',n,x,hd,_=>by cases hd
 |b::r,hh,i::is,[],n,x,_,hl=>by simp at hl
 |b::r,hh,i::is,i'::is',n,x,hd,hl=>by obtain⟨_,h3⟩:=gK hd;have ih:=kh r hh is is' (n+16) x.2 h3 (by simpa using hl);simp only[cZ,bJ];rw[←ih,←IK b (hh:=hh) (i:=i) x.1];simp[eO]
theorem jn:∀(bs:List BK) (hh:Heap) (is is':List Nat) (n:Nat) (x:zw bs),dD bs hh is=some x→is'.length=bs.length→(cZ bs hh is is' n x).map (·.1)=cG bs is' n
 |[],hh,is,is',n,x,_,hl=>by cases is'<;>simp[cZ,cG]
 |b::r,hh,[],is',n,x,hd,_=>by cases hd
 |b::r,hh,i::is,[],n,x,_,hl=>by simp at hl
 |b::r,hh,i::is,i'::is',n,x,hd,hl=>by obtain⟨_,h3⟩:=gK hd;have ih:=jn r hh is is' (n+16) x.2 h3 (by simpa using hl);simp only[cZ,cG,List.map_append];rw[ih,Gq,List.cons_append]
theorem lN:∀(bs:List BK) (hh:Heap) (is is':List Nat) (n:Nat) (x:zw bs),dD bs hh is=some x→is'.length=bs.length→(cZ bs hh is is' n x).filterMap (·.2.1)=dE bs hh is
 |[],hh,is,is',n,x,_,hl=>by cases is'<;>cases is<;>simp[cZ,dE]
 |b::r,hh,[],is',n,x,hd,_=>by cases hd
 |b::r,hh,i::is,[],n,x,_,hl=>by simp at hl
 |b::r,hh,i::is,i'::is',n,x,hd,hl=>by obtain⟨h1,h3⟩:=gK hd;have ih:=lN r hh is is' (n+16) x.2 h3 (by simpa using hl);simp only[cZ,dE];rw[List.filterMap_append,ih,KC b h1]
theorem uM{hd:Hp}{hh:Heap}:∀(eg:List CK) (n:Nat) (cs:List AV) (x:sW eg),dn eg hh cs=some x→(∀s∈g8 eg cs,hd s=hh.get s)→∀e∈eU eg n cs x,xR Z ψ hd w h' ψ' e
 |[],n,cs,x,_,_,e,he=>by simp[eU]at he
 |.val k::r,n,cs,x,X9,hk,e,he=>by
  obtain⟨_,h2⟩:=rz X9;have e0:g8 (.val k::r) cs=g8 r (cs.drop k.sz):=by cases cs<;>rfl
  rw[e0]at hk;exact uM r (n+1) _ x.2 h2 hk e he
 |.own ok::r,n,cs,x,X9,hk,e,he=>by
  obtain⟨c,cs',rfl,h1,h2⟩:=nM X9;simp only[eU,List.headD_cons,List.tail_cons]at he;simp only[g8]at hk;rcases abn.1 he with rfl|he
  ·rcases nN h1 with⟨rfl,h3⟩|⟨id,rfl,h3⟩
   ·exact h3
   ·show hd id=some (.own ok x.1);rw[hk id (List.mem_append_left _ (by simp[rl])),h3]
  ·exact uM r (n+1) cs' x.2 h2 (fun s hs=>hk s (abo _ hs)) e he
theorem NF{hd:Hp}{hh:Heap}(g:Good Z ψ hh.get w B0 O)(hz:∀b,Z b→Z' b)(b:BK){i i' n:Nat}{x:b.T}(X9:sB b hh i=some x) (hf:∀id g,AV.bY id∈C5 b hh i→hh.get id≠none→ob (ψ id)=some g→Z' g) (hk:∀s∈lB b hh i,hd s=hh.get s) (kc:∀e∈fb b hh i i' n x,h' e.1≠none→ψ' e.1=kW ψ e.2.1) :
  ∀e∈fb b hh i i' n x,xR Z' ψ hd w h' ψ' e:=by
 intro e he
 cases b with
 |box ty c =>
  obtain⟨cs,h1,h2⟩:=uL X9;simp only[C5,lB,h1]at hf hk;have abQ:∀e∈eU c n cs x,h' e.1≠none→ψ' e.1=kW ψ e.2.1:=fun e he=>kc e (by simp only[fb];rw[rC h1];exact aa5 _ he);simp only[fb]at he;rcases abn.1 he with rfl|he
  ·refine⟨⟨cs,by rw[hk i List.mem_cons_self,h1]⟩,fun gg vs h4 h5=>?_⟩;obtain⟨gg',jo,h6,h7,h8,_⟩:=g.box i ty cs h1;rw[h6]at h4
   cases h4
   rw[h5]at h7
   cases h7
   exact uK g hz c n cs x _ h2 hf abQ h8
  ·rw[rC h1]at he;exact uM c n cs x h2 (fun s hs=>hk s (aa5 _ hs)) e he
 |own ok =>have h1:=G7 X9;simp only[fb,List.mem_singleton]at he;subst he;show hd i=some (.own ok x);rw[hk i (by simp[lB]),h1]
theorem nO{hd:Hp}{hh:Heap}(g:Good Z ψ hh.get w B0 O)(hz:∀b,Z b→Z' b):∀(bs:List BK) (is is':List Nat) (n:Nat) (x:zw bs),dD bs hh is=some x →(∀id b,AV.bY id∈iq bs hh is→hh.get id≠none→ob (ψ id)=some b→Z' b)→(∀s∈dE bs hh is,hd s=hh.get s)→(∀e∈cZ bs hh is is' n x,h' e.1≠none→ψ' e.1=kW ψ e.2.1) → ∀e∈cZ bs hh is is' n x,xR Z' ψ hd w h' ψ' e
 |[],is,is',n,x,_,_,_,_,e,he=>by simp[cZ]at he
 |b::r,[],is',n,x,X9,_,_,_,e,he=>by cases X9
 |b::r,i::is,[],n,x,_,_,_,_,e,he=>by simp[cZ]at he
 |b::r,i::is,i'::is',n,x,X9,hf,hk,kc,e,he=>by
  obtain⟨h1,h3⟩:=gK X9;simp only[iq,dE]at hf hk;simp only[cZ]at he kc;rcases abH.1 he with he|he
  ·exact NF g hz b h1 (fun id g bV=>hf id g (abt _ bV)) (fun s hs=>hk s (abt _ hs)) (fun e he=>kc e (abt _ he)) e he
  ·exact nO g hz r is is' (n+16) x.2 h3 (fun id b bV=>hf id b (abo _ bV)) (fun s hs=>hk s (abo _ hs)) (fun e he=>kc e (abo _ he)) e he
theorem uN{kept:List Nat}{mv:List AV}(hk:zF kept mv=true):cI kept=true∧∀(hh:Heap) s,s∈kept→(di hh mv).get s=hh.get s:=by unfold zF at hk;rw[Bool.and_eq_true]at hk;exact⟨hk.1,fun hh s hs=>rq _ _ _ (uG (acQ.1 hk.2 s hs))⟩
theorem zR{hh:Heap}{mv:List AV}{kept:List Nat}(g:Good Z ψ hh.get w B0 O)(hk:zF kept mv=true){L:List Bh}(hn:cI (L.map (·.1))=true)(hs:L.filterMap (·.2.1)=kept) (nL:∀e∈L,xR (sS Z ψ hh.get mv) ψ (di hh mv).get w (eO L).get (fZ ψ L) e):Good (sS Z ψ hh.get mv) (fZ ψ L) (eO L).get w B0 O :=(jK g mv).rename hn (by rw[hs];exact(uN hk).1) nL
theorem Co{L:List Bh}(hn:cI (L.map (·.1))=true):∀e∈L,(eO L).get e.1≠none→fZ ψ L e.1=kW ψ e.2.1:=fun⟨i,s,o⟩ he _=>jU hn he
theorem oY(A B:List Bh):eO (A++B)=eO A++eO B:=by simp[eO]
theorem Cp{hh:Heap}{i s i':Nat}{v:Value}(hr:aD Z ψ hh.get w (.ref i s 0 0) v)(hi:hh.get i≠none)(kc:h' i'≠none→ψ' i'=ψ i):aD Z' ψ' h' w' (.ref i' 0 0 0) v:=by simp only[aD]at hr ⊢;obtain⟨a,rfl,ha⟩:=hr;refine⟨a,rfl,fun hn=>?_⟩;rw[kc hn,ha hi];simp
theorem rD{v:AV}{i:Nat}(h:GW v=some i):∃s,v=.ref i s 0 0:=by
 unfold GW at h
 split at h
 ·cases h;exact⟨_,rfl⟩
 ·cases h
theorem ki{hh:Heap}:∀(bs:List BK) (is:List Nat) (x:zw bs),dD bs hh is=some x→is.length=bs.length∧∀i∈is,hh.get i≠none
 |[],[],_,_=>⟨rfl,fun i hi=>by cases hi⟩
 |[],_::_,_,h=>by cases h
 |_::_,[],_,h=>by cases h
 |b::r,i::is,x,h=>by
  obtain⟨h1,h3⟩:=gK h;obtain⟨h4,h5⟩:=ki r is x.2 h3;refine⟨by simp[h4],fun j hj=>?_⟩;rcases abn.1 hj with rfl|hj
  ·cases b with
   |box ty c=>obtain⟨cs,h1,_⟩:=uL h1;rw[h1];simp
   |own ok=>rw[G7 h1];simp
  ·exact h5 j hj
theorem lO{hh:Heap}:∀(bs:List BK) (is is':List Nat) (n:Nat) (x:zw bs),is.length=bs.length→∀p∈is.zip is',∃o,(p.2,some p.1,o)∈cZ bs hh is is' n x
 |[],is,is',n,x,hl,p,hp=>by
  cases is with
  |nil=>simp at hp
  |cons a r=>simp at hl
 |b::r,[],is',n,x,hl,p,hp=>by simp at hp
 |b::r,i::is,[],n,x,hl,p,hp=>by simp at hp
 |b::r,i::is,i'::is',n,x,hl,p,hp=>by
  simp only[List.zip_cons_cons]at hp;simp only[cZ];rcases abn.1 hp with rfl|hp
  ·cases b with
   |box ty c=>exact⟨_,abt _ (by simp only[fb];exact abu)⟩
   |own ok=>exact⟨_,abt _ (by simp only[fb];exact abu)⟩
  ·obtain⟨o,ho⟩:=lO r is is' (n+16) x.2 (by simpa using hl) p hp;exact⟨o,abo _ ho⟩
theorem PC{hd:Hp}{hh:Heap}{ok:OK}{c:AV}{xs:ok.T}(ho:fk hh ok c=some xs)(hk:∀s∈rl c,hd s=hh.get s){n:Nat}:xR Z ψ hd w h' ψ' (n,(rl c).head?,.own ok xs):=by
 rcases nN ho with⟨rfl,h3⟩|⟨id,rfl,h3⟩
 ·exact h3
 ·show hd id=some (.own ok xs);rw[hk id (by simp[rl]),h3]
end Go.Vs
namespace Go.Vs
variable {P:Program} {Z Z':Nat→Prop} {ψ ψ':Nat→Value} {h h':Hp} {w w':World} {B0:Nat} {O:Nat→Prop} {N:Nat→Prop}
def iy:Hp:=fun _=>none
def Nb:Nat→Value:=fun _=>undef
def G8(g:aX)(x:Kg (mw g.ps)):List AV:=(bf g.ps [] 0 x).map (·.2)
def aef(P:Program)(f:FuncId)(g:aX)(x:g.A)(y:g.B):Prop :=∀(Z:Nat→Prop) (w:World) (lP:List Value),(∀b,Z b→b<w.heap.size)→ax Z Nb iy w (G8 g x.1) lP → Calls P (f%1000) lP.toArray w fun e w'=>∃v Z' ψ',e=.returned v∧(∀b,Z b→Z' b)∧(∀b,Z' b→Z b∨w.heap.size≤b)∧dF Nb iy w w' ∧ Good Z' ψ' (aq g.rs 3000 y.1).get w' w.heap.size (fun _=>False)∧aD Z' ψ' (aq g.rs 3000 y.1).get w' (gu (bh g.rs [] 2000 3000 y.1)) v
theorem Bi{p:PK}{ps:List PK}{vs:List AV}(hi:dg (p::ps) vs=some []):∃a r,vs=a::r∧dg ps r=some []∧(p≠.ref∧p≠.own)∧(∀f n,p=.Gi f n→a=.fn f [])∧(∀n,p=.agg n→a=.agg []):=by
 cases vs with
 |nil=>cases p<;>simp[dg]at hi
 |cons a r =>
  cases p with
  |val k=>exact⟨a,r,rfl,by simpa only[dg] using hi,by simp,by simp,by simp⟩
  |ref =>
   simp only[dg]at hi
   split at hi<;>simp at hi
  |own =>
   cases a<;>simp only[dg]at hi<;>first|(cases hi;done)|skip
   split at hi<;>simp at hi
  |Gi f n =>
   cases a<;>simp only[dg]at hi<;>first|(cases hi;done)|skip
   rename_i f' cap
   split at hi
   ·rename_i hc;obtain⟨rfl,vv⟩:=hc
    split at hi
    ·rename_i a1 b1 h1 h2;simp only[Option.some.injEq,List.append_eq_nil_iff]at hi;obtain⟨rfl,rfl⟩:=hi;have abJ:cap=[]:=by
      cases cap with
      |nil=>rfl
      |cons c cs=>simp only[kQ]at h1;split at h1<;>simp at h1
     subst abJ;exact⟨_,r,rfl,h2,by simp,by rintro f n ⟨⟩;rfl,by simp⟩
    ·cases hi
   ·cases hi
  |agg n =>
   cases a<;>simp only[dg]at hi<;>first|(cases hi;done)|skip
   rename_i cs
   split at hi
   ·split at hi
    ·rename_i a1 b1 h1 h2;simp only[Option.some.injEq,List.append_eq_nil_iff]at hi;obtain⟨rfl,rfl⟩:=hi;have Rm:cs=[]:=by
      cases cs with
      |nil=>rfl
      |cons c cs=>cases c<;>simp only[rm]at h1<;>first|(cases h1;done)|(split at h1<;>simp at h1)
     subst Rm;exact⟨_,r,rfl,h2,by simp,by simp,fun _ _=>rfl⟩
    ·cases hi
   ·cases hi
theorem Bj{k:K}{ps:List PK}{hh:Heap}{a:AV}{r:List AV}{x:k.T×Kg (mw ps)}(hv:fU (.val k::ps) hh (a::r)=some x):ic k hh a=some x.1∧fU ps hh r=some x.2:=by
 have e:fU (.val k::ps) hh (a::r)=(match ic k hh a,fU ps hh r with
  |some x,some y=>some ((x,y):k.T×Kg (mw ps))
  |_,_=>none):=rfl
 rw[e]at hv;clear e;generalize ic k hh a=o1 at hv ⊢;generalize fU ps hh r=o2 at hv ⊢
 cases o1 with
 |none=>cases hv
 |some x1 =>
  cases o2 with
  |none=>cases hv
  |some y1 =>have:=abK hv;subst this;exact⟨rfl,rfl⟩
theorem DG{hh:Heap}(g:Good Z ψ hh.get w B0 O)(hz:∀b,Z b→Z' b)(ps:List PK):∀(s:Nat) (vs:List AV) (us:List Value) (x:Kg (mw ps)),(∀v∈vs,∀id b,AV.bY id∈v.cells→hh.get id≠none→ob (ψ id)=some b→Z' b) → dg ps vs=some []→fU ps hh vs=some x→ax Z ψ hh.get w vs us→ax Z' Nb iy w ((bf ps [] s x).map (·.2)) us:=by
 induction ps with
 |nil =>
  intro s vs us x _ hi hv hr
  cases vs with
  |nil=>simpa only[bf,List.map_nil,ax] using hr
  |cons a r=>simp[dg]at hi
 |cons p ps ih =>
  intro s vs us x hb hi hv hr;obtain⟨a,r,rfl,wC,YE,abR,abS⟩:=Bi hi;simp only[ax]at hr;obtain⟨u,j7,rfl,h3,h4⟩:=hr
  cases p with
  |val k =>obtain⟨h1,h2⟩:=Bj hv;simp only[bf,List.map_cons,ax];exact⟨u,j7,rfl,uH (Z':=Z') (ψ':=Nb) (h':=iy) g hz (hb a abu) h1 h3,ih (s+1) r j7 x.2 (fun v hv=>hb v (aa5 _ hv)) wC h2 h4⟩
  |ref=>exact absurd rfl YE.1
  |own=>exact absurd rfl YE.2
  |Gi f n =>have ha:=abR f n rfl;subst ha;have h2:fU ps hh r=some x:=hv;simp only[bf,List.map_cons,ax,List.take_nil,List.map_nil,List.drop_nil];simp only[aD,ax]at h3 ⊢;exact⟨u,j7,rfl,h3,ih (s+1) r j7 x (fun v hv=>hb v (aa5 _ hv)) wC h2 h4⟩
  |agg n =>have ha:=abS n rfl;subst ha;have h2:fU ps hh r=some x:=hv;simp only[bf,List.map_cons,ax,List.take_nil,List.map_nil,List.drop_nil];simp only[aD,ax]at h3 ⊢;exact⟨u,j7,rfl,h3,ih (s+1) r j7 x (fun v hv=>hb v (aa5 _ hv)) wC h2 h4⟩
theorem Good.aeg(g:Good Z ψ h w B0 O)(k:dF Nb iy w w')(hz:∀b,Z b→Z' b)(Dc:∀b,Z' b→Z b∨w.heap.size≤b)(ajX:∀b,Z' b→b<w'.heap.size) (hold:∀id,¬N id→h' id=h id∧ψ' id=ψ id) (bD:∀id ty cs,h id=some (.box ty cs)→aJ (fun i=>¬N i) cs) (TX:∀id ty cs,N id→h' id=some (.box ty cs)→False) (qq:∀id ok xs,N id→h' id=some (.own ok xs)→kM Z' w' ok (ψ' id) xs) (De:∀id b,N id→h' id≠none→ob (ψ' id)=some b→w.heap.size≤b∧¬Z' b) (Nr:∀id oP b,N id→N oP→h' id≠none→h' oP≠none→ob (ψ' id)=some b→ob (ψ' oP)=some b→id=oP) (hB:B0≤w.heap.size) :
  Next Z ψ h w B0 O N Z' ψ' h' w':=by
 have dv:∀b,b<w.heap.size→w'.heap[b]? = w.heap[b]? := fun b hb=>k.block b hb (fun⟨id,h1,_⟩=>h1 rfl);have sm:cW Z w w':=fun b hb=>dv b (g.kT b hb);have vu:∀id,h' id≠none→(h id≠none∧ψ' id=ψ id)∨N id:=fun id bV=>by
  by_cases hn:N id
  ·exact .inr hn
  ·obtain⟨e1,e2⟩:=hold id hn;exact .inl ⟨by rwa [e1]at bV,e2⟩
 have A6:∀id b,¬N id→h' id≠none→ob (ψ' id)=some b→Own ψ h b:=fun id b hn h1 h2=>by obtain⟨e1,e2⟩:=hold id hn;exact⟨id,by rwa [e1]at h1,by rwa [e2]at h2⟩
 have kk:dF ψ h w w':=⟨k.os,k.tape,k.output,k.size,fun b hb _=>dv b hb⟩;refine⟨hz,fun b hb=>(Dc b hb).imp (fun h=>h) .inr,kk,vu,⟨fun id ty cs hb=>?_,fun id ok xs hb=>?_,fun id b h1 h2=>?_,fun id oP b h1 h2 h3 h4=>?_,ajX⟩⟩
 ·by_cases hn:N id
  ·exact(TX id ty cs hn hb).elim
  ·obtain⟨e1,e2⟩:=hold id hn;rw[e1]at hb;obtain⟨gg,vs,h1,h2,h3,h4⟩:=g.box id ty cs hb;exact⟨gg,vs,by rw[e2,h1],(dv gg (abv.1 h2).1).trans h2,h3.move hz sm (fun i hp bV=>(vu i bV).resolve_right hp) (bD id ty cs hb),h4⟩
 ·by_cases hn:N id
  ·exact qq id ok xs hn hb
  ·obtain⟨e1,e2⟩:=hold id hn;rw[e1]at hb;rw[e2];exact(g.row id ok xs hb).kept hz sm (fun gg Rh=>dv gg (g.ck ⟨id,by rw[hb];simp,Rh⟩))
 ·by_cases hn:N id
  ·obtain⟨h3,h4⟩:=De id b hn h1 h2;exact⟨h4,.inl (by omega)⟩
  ·obtain⟨e1,e2⟩:=hold id hn;rw[e1]at h1;rw[e2]at h2;have h3:=g.live id b h1 h2;refine⟨fun hzb=>?_,h3.2⟩;rcases Dc b hzb with h4|h4
   ·exact h3.1 h4
   ·have:=g.ck ⟨id,h1,h2⟩;omega
 ·by_cases hn:N id<;>by_cases Ns:N oP
  ·exact Nr id oP b hn Ns h1 h2 h3 h4
  ·have:=(De id b hn h1 h3).1;have:=g.ck (A6 oP b Ns h2 h4);omega
  ·have:=(De oP b Ns h2 h4).1;have:=g.ck (A6 id b hn h1 h3);omega
  ·obtain⟨e1,e2⟩:=hold id hn;obtain⟨e3,e4⟩:=hold oP Ns;rw[e1]at h1;rw[e2]at h3;rw[e3]at h2;rw[e4]at h4;exact g.apart id oP b h1 h2 h3 h4
theorem bT{r:RK}{rs:List RK}(h:(r::rs).all RK.plain=true):rs.all RK.plain=true:=by simp only[List.all_cons,Bool.and_eq_true]at h;exact h.2
theorem Ry{c:List CK}{rs:List RK}(h:(RK.agg c::rs).all RK.plain=true):c.length≤16:=by simp only[List.all_cons,Bool.and_eq_true,RK.plain,decide_eq_true_eq]at h;exact h.1
theorem nP:∀(c:List CK) (a:Nat) (x:sW c) (i:Nat),i<a→(bq c a x).get i=none
 |[],_,_,_,_=>rfl
 |.val _::r,a,x,i,h=>by simp only[bq];exact nP r (a+1) x.2 i (by omega)
 |.own ok::r,a,x,i,h=>by simp only[bq,Heap.get];rw[if_neg (by omega)];exact nP r (a+1) x.2 i (by omega)
theorem wM:∀(c:List CK) (a:Nat) (x:sW c) (i:Nat),a+c.length≤i→(bq c a x).get i=none
 |[],_,_,_,_=>rfl
 |.val _::r,a,x,i,h=>by simp only[List.length_cons]at h;simp only[bq];exact wM r (a+1) x.2 i (by omega)
 |.own ok::r,a,x,i,h=>by simp only[List.length_cons]at h;simp only[bq,Heap.get];rw[if_neg (by omega)];exact wM r (a+1) x.2 i (by omega)
theorem wN:∀(c:List CK) (a b:Nat) (x:sW c) (j:Nat),(bq c a x).get (a+j)=(bq c b x).get (b+j)
 |[],_,_,_,_=>rfl
 |.val _::r,a,b,x,0=>by simp only[bq];rw[nP _ _ _ _ (by omega),nP _ _ _ _ (by omega)]
 |.own ok::r,a,b,x,0=>by simp[bq,Heap.get]
 |.val _::r,a,b,x,j+1=>by simp only[bq];rw[show a+(j+1)=a+1+j by omega,show b+(j+1)=b+1+j by omega];exact wN r (a+1) (b+1) x.2 j
 |.own ok::r,a,b,x,j+1=>by simp only[bq,Heap.get];rw[if_neg (by omega),if_neg (by omega),show a+(j+1)=a+1+j by omega,show b+(j+1)=b+1+j by omega];exact wN r (a+1) (b+1) x.2 j
theorem pT:∀(c:List CK) (a:Nat) (x:sW c) (i:Nat) (ty:TypeId) (cs:List AV),(bq c a x).get i≠some (.box ty cs)
 |[],_,_,_,_,_=>by simp[bq,Heap.get]
 |.val _::r,a,x,i,ty,cs=>by simp only[bq];exact pT r (a+1) x.2 i ty cs
 |.own ok::r,a,x,i,ty,cs=>by
  simp only[bq,Heap.get]
  split
  ·simp
  ·exact pT r (a+1) x.2 i ty cs
theorem tx:∀(rs:List RK) (a:Nat) (y:nE rs) (i:Nat),rs.all RK.plain=true→i<a→(aq rs a y).get i=none
 |[],a,y,i,_,h=>rfl
 |.val k::r,a,y,i,hp,h=>by simp only[aq];exact tx r (a+1) y.2 i (bT hp) (by omega)
 |.own ok::r,a,y,i,hp,h=>by simp only[aq,Heap.get];rw[if_neg (by omega)];exact tx r (a+1) y.2 i (bT hp) (by omega)
 |.fY _ _::r,a,y,i,hp,h=>by simp only[aq];exact tx r (a+1) y.2 i (bT hp) (by omega)
 |.agg c::r,a,y,i,hp,h=>by have h1:(bq c a y.1).get i=none:=nP c a y.1 i h;have h2:=tx r (a+1) y.2 i (bT hp) (by omega);show Heap.get (bq c a y.1++aq r (a+1) y.2) i=none;rw[Heap.get_append,h1,h2]
theorem KD:∀(rs:List RK) (a:Nat) (y:nE rs) (i:Nat),rs.all RK.plain=true→a+rs.length+16≤i→(aq rs a y).get i=none
 |[],a,y,i,_,h=>rfl
 |.val k::r,a,y,i,hp,h=>by simp only[List.length_cons]at h;simp only[aq];exact KD r (a+1) y.2 i (bT hp) (by omega)
 |.own ok::r,a,y,i,hp,h=>by simp only[List.length_cons]at h;simp only[aq,Heap.get];rw[if_neg (by omega)];exact KD r (a+1) y.2 i (bT hp) (by omega)
 |.fY _ _::r,a,y,i,hp,h=>by simp only[List.length_cons]at h;simp only[aq];exact KD r (a+1) y.2 i (bT hp) (by omega)
 |.agg c::r,a,y,i,hp,h=>by simp only[List.length_cons]at h;have hc:=Ry hp;have h1:(bq c a y.1).get i=none:=wM c a y.1 i (by omega);have h2:=KD r (a+1) y.2 i (bT hp) (by omega);show Heap.get (bq c a y.1++aq r (a+1) y.2) i=none;rw[Heap.get_append,h1,h2]
theorem KE:∀(rs:List RK) (a b:Nat) (y:nE rs) (j:Nat),rs.all RK.plain=true→(aq rs a y).get (a+j)=(aq rs b y).get (b+j)
 |[],_,_,_,_,_=>rfl
 |.val k::r,a,b,y,0,hp=>by simp only[aq];rw[tx _ _ _ _ (bT hp) (by omega),tx _ _ _ _ (bT hp) (by omega)]
 |.fY _ _::r,a,b,y,0,hp=>by simp only[aq];rw[tx _ _ _ _ (bT hp) (by omega),tx _ _ _ _ (bT hp) (by omega)]
 |.own ok::r,a,b,y,0,hp=>by simp[aq,Heap.get]
 |.val k::r,a,b,y,j+1,hp=>by simp only[aq];rw[show a+(j+1)=a+1+j by omega,show b+(j+1)=b+1+j by omega];exact KE r (a+1) (b+1) y.2 j (bT hp)
 |.fY _ _::r,a,b,y,j+1,hp=>by simp only[aq];rw[show a+(j+1)=a+1+j by omega,show b+(j+1)=b+1+j by omega];exact KE r (a+1) (b+1) y.2 j (bT hp)
 |.own ok::r,a,b,y,j+1,hp=>by simp only[aq,Heap.get];rw[if_neg (by omega),if_neg (by omega),show a+(j+1)=a+1+j by omega,show b+(j+1)=b+1+j by omega];exact KE r (a+1) (b+1) y.2 j (bT hp)
 |.agg c::r,a,b,y,j,hp=>by
  have h1:(bq c a y.1).get (a+j)=(bq c b y.1).get (b+j):=wN c a b y.1 j;have h2:(aq r (a+1) y.2).get (a+j)=(aq r (b+1) y.2).get (b+j):=by
   cases j with
   |zero=>rw[tx _ _ _ _ (bT hp) (by omega),tx _ _ _ _ (bT hp) (by omega)]
   |succ j =>rw[show a+(j+1)=a+1+j by omega,show b+(j+1)=b+1+j by omega];exact KE r (a+1) (b+1) y.2 j (bT hp)
  show Heap.get (bq c a y.1++aq r (a+1) y.2) (a+j)=Heap.get (bq c b y.1++aq r (b+1) y.2) (b+j);rw[Heap.get_append,Heap.get_append,h1,h2]
theorem xS:∀(rs:List RK) (a:Nat) (y:nE rs) (i:Nat) (ty:TypeId) (cs:List AV),rs.all RK.plain=true→(aq rs a y).get i≠some (.box ty cs)
 |[],_,_,_,_,_,_=>by simp[aq,Heap.get]
 |.val k::r,a,y,i,ty,cs,hp=>by simp only[aq];exact xS r (a+1) y.2 i ty cs (bT hp)
 |.fY _ _::r,a,y,i,ty,cs,hp=>by simp only[aq];exact xS r (a+1) y.2 i ty cs (bT hp)
 |.own ok::r,a,y,i,ty,cs,hp=>by
  simp only[aq,Heap.get]
  split
  ·simp
  ·exact xS r (a+1) y.2 i ty cs (bT hp)
 |.agg c::r,a,y,i,ty,cs,hp=>by
  have h1:(bq c a y.1).get i≠some (.box ty cs):=pT c a y.1 i ty cs;show Heap.get (bq c a y.1++aq r (a+1) y.2) i≠some (.box ty cs);rw[Heap.get_append]
  split
  ·rename_i o ho;rw[ho]at h1;exact h1
  ·exact xS r (a+1) y.2 i ty cs (bT hp)
theorem nQ(p:Nat→Prop):∀(k:K) (x:k.T),aJ p (enc k x)
 |.int _,_=>by simp only[enc,aJ,aS];exact⟨trivial,trivial⟩
 |.bool,_=>by simp only[enc,aJ,aS];exact⟨trivial,trivial⟩
 |.str,_=>by simp only[enc,aJ,aS];exact⟨trivial,trivial⟩
 |.sl _,_=>by simp only[enc,aJ,aS];exact⟨trivial,trivial⟩
 |.mp _ _,_=>by simp only[enc,aJ,aS];exact⟨trivial,trivial⟩
 |.pair a b,x=>by
  simp only[enc];have h1:=nQ p a x.1;have h2:=nQ p b x.2
  revert h1
  generalize enc a x.1=l
  induction l with
  |nil=>intro _;exact h2
  |cons c r ih=>intro h;simp only[List.cons_append,aJ]at h ⊢;exact⟨h.1,ih h.2⟩
 |.one k,x=>by simp only[enc];exact nQ p k x
theorem qv(p:Nat→Prop):∀(k:K) (x:k.T),aS p (cM k x)
 |.int _,_=>by simp only[cM,aS]
 |.bool,_=>by simp only[cM,aS]
 |.str,_=>by simp only[cM,aS]
 |.sl _,_=>by simp only[cM,aS]
 |.mp _ _,_=>by simp only[cM,aS]
 |.pair a b,x=>by simp only[cM,aS];exact nQ p (.pair a b) x
 |.one k,x=>by simp only[cM,aS];exact nQ p (.one k) x
theorem Ud{k:K}{x:k.T}{v:Value}(hr:aD Z ψ h w (cM k x) v):aD Z ψ' h' w (cM k x) v :=hr.move (p:=fun _=>False) (fun _ h=>h) (cW.refl _ _) (fun _ hp _=>hp.elim) (qv _ k x)
theorem YF(r:RK)(rs:List RK)(b:Nat)(y:nE (r::rs))(i:Nat)(hi:(aq rs (b+1) y.2).get i≠none):(aq (r::rs) b y).get i≠none:=by
 cases r with
 |val k=>exact hi
 |fY _ _=>exact hi
 |own ok=>simp only[aq,Heap.get];split<;>simp_all
 |agg c =>
  show Heap.get (bq c b y.1++aq rs (b+1) y.2) i≠none;rw[Heap.get_append]
  split
  ·simp
  ·exact hi
theorem NG(c:List CK):∀{H:Hp} {a b:Nat} {x:sW c} {vs:List Value},(∀j,(bq c b x).get (b+j)≠none→h' (b+j)≠none→H (a+j)≠none∧ψ' (b+j)=ψ (a+j)) → ax Z ψ H w (aL c a x) vs→ax Z ψ' h' w (aL c b x) vs:=by
 induction c with
 |nil=>intro H a b x vs _ hr;simpa only[aL,ax] using hr
 |cons k c ih =>
  intro H a b x vs hH hr
  cases k with
  |val k =>have uE:ax Z ψ H w (enc k x.1++aL c (a+1) x.2) vs:=hr;obtain⟨us,ws,rfl,h1,h2⟩:=uE.split;show ax Z ψ' h' w (enc k x.1++aL c (b+1) x.2) (us++ws);refine(h1.move (p:=fun _=>False) (fun _ h=>h) (cW.refl _ _) (fun _ hp _=>hp.elim) (nQ _ k x.1)).append (ih (fun j hj bp=>?_) h2);have:=hH (j+1);rw[show b+(j+1)=b+1+j by omega,show a+(j+1)=a+1+j by omega]at this;exact this hj bp
  |own ok =>
   have uE:ax Z ψ H w (.bY a::aL c (a+1) x.2) vs:=hr;simp only[ax]at uE;obtain⟨v,us,rfl,h1,h2⟩:=uE;show ax Z ψ' h' w (.bY b::aL c (b+1) x.2) (v::us);simp only[ax];refine⟨v,us,rfl,?_,ih (fun j hj bp=>?_) h2⟩
   ·simp only[aD]at h1 ⊢;refine⟨h1.1,fun bp=>?_⟩;obtain⟨h3,h4⟩:=hH 0 (by simp[bq,Heap.get]) bp;rw[Nat.add_zero,Nat.add_zero]at h4;rw[h4];exact h1.2 h3
   ·have:=hH (j+1);rw[show b+(j+1)=b+1+j by omega,show a+(j+1)=a+1+j by omega]at this;refine this ?_ bp;have e:(bq (.own ok::c) b x).get (b+1+j)=(bq c (b+1) x.2).get (b+1+j):=by simp only[bq,Heap.get];rw[if_neg (by omega)]
    rw[e];exact hj
theorem Ue(rs:List RK):∀{H:Hp} {n m a b:Nat} {y:nE rs} {vs:List Value},rs.all RK.plain=true→(∀j,(aq rs b y).get (b+j)≠none→h' (b+j)≠none→H (a+j)≠none∧ψ' (b+j)=ψ (a+j)) → ax Z ψ H w (bh rs [] n a y) vs→ax Z ψ' h' w (bh rs [] m b y) vs:=by
 induction rs with
 |nil=>intro H n m a b y vs _ _ hr;simpa only[bh,ax] using hr
 |cons r rs ih =>
  intro H n m a b y vs hp hH hr;have hpa:=hp;simp only[List.all_cons,Bool.and_eq_true]at hp;have hH':∀j,(aq rs (b+1) y.2).get (b+1+j)≠none→h' (b+1+j)≠none→H (a+1+j)≠none∧ψ' (b+1+j)=ψ (a+1+j):=fun j hj bp=>by have:=hH (j+1);rw[show b+(j+1)=b+1+j by omega,show a+(j+1)=a+1+j by omega]at this;exact this (YF _ _ _ _ _ hj) bp
  cases r with
  |val k =>simp only[bh,ax]at hr ⊢;obtain⟨v,us,rfl,h1,h2⟩:=hr;exact⟨v,us,rfl,Ud h1,ih hp.2 hH' h2⟩
  |own ok =>simp only[bh,ax]at hr ⊢;obtain⟨v,us,rfl,h1,h2⟩:=hr;refine⟨v,us,rfl,?_,ih hp.2 hH' h2⟩;simp only[aD]at h1 ⊢;refine⟨h1.1,fun bp=>?_⟩;obtain⟨h3,h4⟩:=hH 0 (by simp[aq,Heap.get]) bp;rw[Nat.add_zero,Nat.add_zero]at h4;rw[h4];exact h1.2 h3
  |fY b c=>simp[RK.plain]at hp
  |agg c =>
   simp only[bh,ax]at hr ⊢;obtain⟨v,us,rfl,h1,h2⟩:=hr;refine⟨v,us,rfl,?_,ih hp.2 hH' h2⟩;simp only[aD]at h1 ⊢;obtain⟨ws,rfl,h3⟩:=h1;refine⟨ws,rfl,NG c (fun j hj bp=>hH j ?_ bp) h3⟩;show Heap.get (bq c b y.1++aq rs (b+1) y.2) (b+j)≠none;rw[Heap.get_append]
   split
   ·simp
   ·rename_i Bk;exact absurd Bk hj
theorem wO{aaz aaA:Nat→Value}{aeh aei:Hp}{aej aek:Nat→Prop}{l l':List AV}{V:Value}(hl:l.length=l'.length)(hm:∀vs,ax aej aaz aeh w l vs→ax aek aaA aei w l' vs)(hr:aD aej aaz aeh w (gu l) V):aD aek aaA aei w (gu l') V:=by
 match l,l',hl with
 |[a],[a'],_ =>
  simp only[gu]at hr ⊢;have:=hm [V] (by simp only[ax];exact⟨V,[],rfl,hr,rfl⟩);simp only[ax]at this;obtain⟨v,us,e,h1,_⟩:=this
  cases e;exact h1
 |[],[],_ =>simp only[gu,aD]at hr ⊢;obtain⟨us,rfl,h1⟩:=hr;exact⟨us,rfl,hm _ h1⟩
 |a::b::r,a'::b'::r',_ =>simp only[gu,aD]at hr ⊢;obtain⟨us,rfl,h1⟩:=hr;exact⟨us,rfl,hm _ h1⟩
theorem lD(rs:List RK):∀(ids:List Nat) (n m:Nat) (y:nE rs),(bh rs ids n m y).length=rs.length:=by
 induction rs with
 |nil=>intros;rfl
 |cons r rs ih=>intro ids n m y;cases r<;>simp[bh,ih]
theorem Cq:∀(k:K) (x:k.T) (r:List AV),dec k (enc k x++r)=some (x,r)
 |.int _,x,r=>by simp only[enc,List.cons_append,List.nil_append,dec,Is,if_true];rfl
 |.bool,x,r=>by simp only[enc,List.cons_append,List.nil_append,dec,Cg];rfl
 |.str,x,r=>by simp only[enc,List.cons_append,List.nil_append,dec,It];rfl
 |.sl k,x,r=>by simp only[enc,List.cons_append,List.nil_append,dec,Pq];rfl
 |.mp kk vk,x,r=>by simp only[enc,List.cons_append,List.nil_append,dec,Pr];rfl
 |.pair a b,x,r=>by simp only[enc,dec,List.append_assoc];rw[Cq a x.1 (enc b x.2++r)];simp only[];rw[Cq b x.2 r];rfl
 |.one k,x,r=>by simp only[enc,dec];exact Cq k x r
theorem wR(k:K)(x:k.T):ep k (enc k x)=some x:=by unfold ep;have:=Cq k x [];rw[List.append_nil]at this;rw[this]
theorem wS:∀(k:K) (x:k.T),(cM k x).cells=enc k x
 |.int _,_=>rfl
 |.bool,_=>rfl
 |.str,_=>rfl
 |.sl _,_=>rfl
 |.mp _ _,_=>rfl
 |.pair a b,x=>rfl
 |.one k,x=>rfl
theorem PD:∀(k:K) (x:k.T),cM k x≠.no
 |.int _,_=>by simp[cM]
 |.bool,_=>by simp[cM]
 |.str,_=>by simp[cM]
 |.sl _,_=>by simp[cM]
 |.mp _ _,_=>by simp[cM]
 |.pair a b,x=>by simp[cM]
 |.one k,x=>by simp[cM]
theorem DH:∀(k:K) (x:k.T),(cM k x).isAgg=k.isAgg
 |.int _,_=>rfl
 |.bool,_=>rfl
 |.str,_=>rfl
 |.sl _,_=>rfl
 |.mp _ _,_=>rfl
 |.pair a b,x=>rfl
 |.one k,x=>rfl
theorem Rz{k:K}{x:k.T}{v:Value}(hr:aD Z ψ h w (cM k x) v):aQ Z w k x v.cells.toList:=by have h1:=hr.cells (PD k x);rw[wS]at h1;exact eR (wR k x) h1
theorem NH{k:K}{x:k.T}{v:Value}(hr:aD Z ψ h w (cM k x) v):(k.isAgg=true→∃vs,v=.agg vs)∧(k.isAgg=false→v.cells=#[v]) :=⟨fun h=>T6 (by rw[DH];exact h) hr,fun h=>G4 (by rw[DH];exact h) (PD k x) hr⟩
theorem Uf(rs:List RK):∀{H:Hp} {n m a b:Nat} {y:nE rs} {vs:List Value},rs.all RK.flat=true→rs.all RK.plain=true→ax Z ψ H w (bh rs [] n a y) vs→ax Z' ψ' h' w' (bh rs [] m b y) vs:=by
 induction rs with
 |nil=>intro H n m a b y vs _ _ hr;simpa only[bh,ax] using hr
 |cons r rs ih =>
  intro H n m a b y vs hf hp hr;simp only[List.all_cons,Bool.and_eq_true]at hp hf
  cases r with
  |val k =>simp only[bh,ax]at hr ⊢;obtain⟨v,us,rfl,h1,h2⟩:=hr;have hk:k.flat=true:=hf.1;obtain⟨h3,h4⟩:=NH h1;exact⟨v,us,rfl,nI ((Rz h1).flat hk) h3 h4,ih hf.2 hp.2 h2⟩
  |own ok=>simp[RK.flat]at hf
  |fY b c=>simp[RK.plain]at hp
  |agg c=>simp[RK.flat]at hf
theorem RA(rs:List RK):∀(a:Nat) (y:nE rs),rs.all RK.flat=true→rs.all RK.plain=true→aq rs a y=[]:=by
 induction rs with
 |nil=>intros;rfl
 |cons r rs ih =>
  intro a y hf hp;simp only[List.all_cons,Bool.and_eq_true]at hp hf
  cases r with
  |val k=>simp only[aq];exact ih _ _ hf.2 hp.2
  |own ok=>simp[RK.flat]at hf
  |fY b c=>simp[RK.plain]at hp
  |agg c=>simp[RK.flat]at hf
theorem xT:∀(ps:List PK) (vs:List AV),dg ps vs=some []→∀v∈vs,∀id,AV.bY id∈v.cells→AV.bY id∈dW ps vs
 |[],vs,hi,v,hv,id,bV=>by
  cases vs with
  |nil=>cases hv
  |cons a r=>simp[dg]at hi
 |p::ps,vs,hi,v,hv,id,bV=>by
  obtain⟨a,r,rfl,wC,YE,abR,abS⟩:=Bi hi;rcases abn.1 hv with rfl|hv
  ·cases p with
   |val k=>simp only[dW];exact abt _ bV
   |ref=>exact absurd rfl YE.1
   |own=>exact absurd rfl YE.2
   |Gi f n=>rw[abR f n rfl]at bV;simp[AV.cells]at bV
   |agg n=>rw[abS n rfl]at bV;simp[AV.cells]at bV
  ·have:=xT ps r wC v hv id bV
   cases p with
   |val k=>simp only[dW];exact abo _ this
   |ref=>exact absurd rfl YE.1
   |own=>exact absurd rfl YE.2
   |Gi f n=>simpa only[dW] using this
   |agg n=>simpa only[dW] using this
theorem DI(f:FuncId)(vs:List AV):wz f vs%1000=f%1000:=by
 induction vs with
 |nil=>rfl
 |cons v r ih =>
  cases v with
  |fn g cap=>exact Nat.add_mul_mod_self_left f 1000 _
  |_=>simp only[wz];exact ih
theorem zT{Sg:FuncId→Option aX}(f:FuncId)(vs:List AV):keyOf Sg f vs%1000=f%1000:=by
 unfold keyOf
 split
 ·exact(Nat.add_mul_mod_self_right (wz f vs) 500 1000).trans (DI f vs)
 ·exact DI f vs
theorem Next.imp{N':Nat→Prop}(n:Next Z ψ h w B0 O N Z' ψ' h' w')(hi:∀i,N i→N' i):Next Z ψ h w B0 O N' Z' ψ' h' w' :=⟨n.g9,n.fS,n.keep,fun id bV=>(n.ids id bV).imp (fun h=>h) (hi id),n.fq⟩
theorem zU{rs:List RK}{y:nE rs}(hp:rs.all RK.plain=true){id nb:Nat}(g:Good Z ψ h w B0 O)(hB:B0≤w.heap.size) (bD:∀i ty cs,h i=some (.box ty cs)→aJ (fun i=>¬N i) cs) (hN:∀j,j<rs.length+16→N (id+j)) (k:dF Nb iy w w') (hz:∀b,Z b→Z' b) (Dc:∀b,Z' b→Z b∨w.heap.size≤b) (gc:Good Z' ψ' (aq rs 3000 y).get w' w.heap.size (fun _=>False)) {v:Value} (hr:aD Z' ψ' (aq rs 3000 y).get w' (gu (bh rs [] 2000 3000 y)) v) :
  ∃wT,Next Z ψ h w B0 O N Z' wT (fun i=>match (aq rs id y).get i with|some o=>some o|none=>h i) w' ∧
   aD Z' wT (fun i=>match (aq rs id y).get i with|some o=>some o|none=>h i) w' (gu (bh rs [] nb id y)) v:=by
 classical
 let H:Hp:=fun i=>match (aq rs id y).get i with|some o=>some o|none=>h i
 let NN:Nat→Prop:=fun i=>(aq rs id y).get i≠none
 let wT:Nat→Value:=fun i=>if NN i then ψ' (3000+(i-id)) else ψ i
 have hNN:∀i,NN i→∃j,j<rs.length+16∧i=id+j:=fun i hi=>by have h1:¬i<id:=fun aK=>hi (tx rs id y i hp aK);have h2:¬id+rs.length+16≤i:=fun hge=>hi (KD rs id y i hp hge);exact⟨i-id,by omega,by omega⟩
 have Bl:∀i,NN i→(aq rs 3000 y).get (3000+(i-id))=(aq rs id y).get i:=fun i hi=>by obtain⟨j,_,rfl⟩:=hNN i hi;rw[show id+j-id=j by omega];exact KE rs 3000 id y j hp
 have hH:∀i,NN i→H i=(aq rs 3000 y).get (3000+(i-id)):=fun i hi=>by
  rw[Bl i hi];show(match (aq rs id y).get i with|some o=>some o|none=>h i)=_
  cases e:(aq rs id y).get i with
  |none=>exact absurd e hi
  |some o=>rfl
 have kc:∀i,NN i→wT i=ψ' (3000+(i-id)):=fun i hi=>if_pos hi;have ael:∀i,NN i→N i:=fun i hi=>by obtain⟨j,hj,rfl⟩:=hNN i hi;exact hN j hj
 have n:=Good.aeg (N:=NN) (ψ':=wT) (h':=H) g k hz Dc gc.kT (fun i hi=>by
   have e:(aq rs id y).get i=none:=Classical.not_not.1 hi;refine⟨?_,if_neg hi⟩;show(match (aq rs id y).get i with|some o=>some o|none=>h i)=h i;rw[e])
  (fun i ty cs hb=>(bD i ty cs hb).imp (fun i hi hni=>hi (ael i hni)))
  (fun i ty cs hi hb=>by rw[hH i hi]at hb;exact xS _ _ _ _ _ _ hp hb)
  (fun i ok xs hi hb=>by rw[hH i hi]at hb;rw[kc i hi];exact gc.row _ _ _ hb)
  (fun i b hi h1 h2=>by rw[hH i hi]at h1;rw[kc i hi]at h2;obtain⟨h3,h4⟩:=gc.live _ b h1 h2;exact⟨h4.resolve_right (fun h=>h),h3⟩)
  (fun i i' b hi wC h1 h2 h3 h4=>by rw[hH i hi]at h1;rw[hH i' wC]at h2;rw[kc i hi]at h3;rw[kc i' wC]at h4;have:=gc.apart _ _ b h1 h2 h3 h4;obtain⟨j,_,rfl⟩:=hNN i hi;obtain⟨j',_,rfl⟩:=hNN i' wC;omega) hB
 refine⟨wT,n.imp ael,?_⟩;refine wO (by rw[lD,lD]) (fun vs wD=>?_) hr;refine Ue (h':=H) (ψ':=wT) rs (n:=2000) (a:=3000) hp (fun j hn bp=>?_) wD
 replace hn:NN (id+j):=hn
 have e1:=hH _ hn;have e2:=kc _ hn;rw[show id+j-id=j by omega]at e1 e2;exact⟨by rw[←e1];exact bp,e2⟩
def kj(P:Program)(f:FuncId):Prop:=∃fn,P.funcs[f]? = some fn∧(fn.name== "runtime.NumGoroutine")=false∧fn.body.isSome=true
theorem kl{f:FuncId}(hc:kj P f)(args:Array Value):(callFunc f args).run P w=.ok (.enter f args) w:=by obtain⟨fn,h1,h2,h3⟩:=hc;obtain⟨c,hc⟩:=abM.1 h3;simp[callFunc,h1,hc,show ¬fn.name= "runtime.NumGoroutine" by simpa using h2]
def aaC(P:Program)(ρC:Operand→Value)(o:Oper)(Z:Nat→Prop)(ψ:Nat→Value)(h:Hp)(w:World)(B0:Nat)(O N:Nat→Prop)(e:bZ):Prop :=∃f args,(execOp ρC o).run P w=.ok (.enter f args) w∧Calls P f args w fun en w'=>∃V Z' ψ',en=.returned V∧Next Z ψ h w B0 O N Z' ψ' (e.hp h) w'∧aD Z' ψ' (e.hp h) w' e.v V
def de:(rs:List RK)→List AV→Nat→nE rs→List Bh
 |[],_,_,_=>[]
 |.own ok::r,vs,m,x=>(m,(rl (vs.headD .no)).head?,.own ok x.1)::de r vs.tail (m+1) x.2
 |.val _::r,vs,m,x=>de r vs.tail (m+1) x.2
 |.fY _ _::r,vs,m,x=>de r vs.tail (m+1) x.2
 |.agg c::r,vs,m,x=>eU c m (vs.headD .no).cells x.1++de r vs.tail (m+1) x.2
theorem iI:∀(rs:List RK) (vs:List AV) (m:Nat) (x:nE rs),eO (de rs vs m x)=aq rs m x
 |[],_,_,_=>rfl
 |.own ok::r,vs,m,x=>by simp only[de,aq];rw[←iI r vs.tail (m+1) x.2];rfl
 |.val _::r,vs,m,x=>iI r vs.tail (m+1) x.2
 |.fY _ _::r,vs,m,x=>iI r vs.tail (m+1) x.2
 |.agg c::r,vs,m,x=>by have e1:eO (eU c m (vs.headD .no).cells x.1)=bq c m x.1:=oX c m _ x.1;have e2:=iI r vs.tail (m+1) x.2;simp only[de,aq];rw[oY,e2];exact congrArg (·++_) e1
theorem gX:∀(rs:List RK) (vs:List AV) (m:Nat) (x:nE rs),(de rs vs m x).map (·.1)=bK rs m
 |[],_,_,_=>rfl
 |.own ok::r,vs,m,x=>by simp only[de,bK,List.map_cons];rw[gX r vs.tail (m+1) x.2]
 |.val _::r,vs,m,x=>gX r vs.tail (m+1) x.2
 |.fY _ _::r,vs,m,x=>gX r vs.tail (m+1) x.2
 |.agg c::r,vs,m,x=>by have e1:(eU c m (vs.headD .no).cells x.1).map (·.1)=cO c m:=mO c m _ x.1;have e2:=gX r vs.tail (m+1) x.2;simp only[de,bK,List.map_append];rw[e2];exact congrArg (·++_) e1
theorem rE{bs:List BK}{k:K}{r:List RK}{hh:Heap}{ids:List Nat}{vs:List AV}{x:nE (.val k::r)}(hd:b6 bs (.val k::r) hh ids vs=some x):∃v jo,vs=v::jo∧ic k hh v=some x.1∧b6 bs r hh ids jo=some x.2:=by
 cases vs with
 |nil=>cases hd
 |cons v vs =>
  have e:b6 bs (.val k::r) hh ids (v::vs)=(match ic k hh v,b6 bs r hh ids vs with
   |some x,some y=>some ((x,y):k.T×nE r)
   |_,_=>none):=rfl
  rw[e]at hd;clear e;refine⟨v,vs,rfl,?_⟩;generalize ic k hh v=o1 at hd ⊢;generalize b6 bs r hh ids vs=o2 at hd ⊢
  cases o1 with
  |none=>cases hd
  |some x1 =>
   cases o2 with
   |none=>cases hd
   |some y1=>have:=abK hd;subst this;exact⟨rfl,rfl⟩
theorem rF{bs:List BK}{ok:OK}{r:List RK}{hh:Heap}{ids:List Nat}{vs:List AV}{x:nE (.own ok::r)}(hd:b6 bs (.own ok::r) hh ids vs=some x):∃v jo,vs=v::jo∧fk hh ok v=some x.1∧b6 bs r hh ids jo=some x.2:=by
 cases vs with
 |nil=>cases hd
 |cons v vs =>
  have e:b6 bs (.own ok::r) hh ids (v::vs)=(match fk hh ok v,b6 bs r hh ids vs with
   |some x,some y=>some ((x,y):ok.T×nE r)
   |_,_=>none):=rfl
  rw[e]at hd;clear e;refine⟨v,vs,rfl,?_⟩;generalize fk hh ok v=o1 at hd ⊢;generalize b6 bs r hh ids vs=o2 at hd ⊢
  cases o1 with
  |none=>cases hd
  |some x1 =>
   cases o2 with
   |none=>cases hd
   |some y1=>have:=abK hd;subst this;exact⟨rfl,rfl⟩
theorem oZ{bs:List BK}{b:Nat}{alts:List (Nat×Nat×Nat)}{r:List RK}{hh:Heap}{ids:List Nat}{vs:List AV}{x:nE (.fY b alts::r)}(hd:b6 bs (.fY b alts::r) hh ids vs=some x):∃v jo,vs=v::jo∧pI bs hh ids b alts v=some x.1∧b6 bs r hh ids jo=some x.2:=by
 cases vs with
 |nil=>cases hd
 |cons v vs =>
  have e:b6 bs (.fY b alts::r) hh ids (v::vs)=(match pI bs hh ids b alts v,b6 bs r hh ids vs with
   |some x,some y=>some ((x,y):Option (Fin alts.length×Nat)×nE r)
   |_,_=>none):=rfl
  rw[e]at hd;clear e;refine⟨v,vs,rfl,?_⟩;generalize pI bs hh ids b alts v=o1 at hd ⊢;generalize b6 bs r hh ids vs=o2 at hd ⊢
  cases o1 with
  |none=>cases hd
  |some x1 =>
   cases o2 with
   |none=>cases hd
   |some y1=>have:=abK hd;subst this;exact⟨rfl,rfl⟩
theorem rG{bs:List BK}{c:List CK}{r:List RK}{hh:Heap}{ids:List Nat}{vs:List AV}{x:nE (.agg c::r)}(hd:b6 bs (.agg c::r) hh ids vs=some x):∃cs jo,vs=.agg cs::jo∧dn c hh cs=some x.1∧b6 bs r hh ids jo=some x.2:=by
 cases vs with
 |nil=>cases hd
 |cons v vs =>
  have e:b6 bs (.agg c::r) hh ids (v::vs)=(match C6 c hh v,b6 bs r hh ids vs with
   |some x,some y=>some ((x,y):sW c×nE r)
   |_,_=>none):=rfl
  rw[e]at hd;clear e;have key:C6 c hh v=some x.1∧b6 bs r hh ids vs=some x.2:=by
   generalize C6 c hh v=o1 at hd ⊢;generalize b6 bs r hh ids vs=o2 at hd ⊢
   cases o1 with
   |none=>cases hd
   |some x1 =>
    cases o2 with
    |none=>cases hd
    |some y1=>have:=abK hd;subst this;exact⟨rfl,rfl⟩
  obtain⟨h1,h2⟩:=key;unfold C6 at h1
  split at h1
  ·exact⟨_,vs,rfl,h1,h2⟩
  ·cases h1
theorem jq{bs:List BK}{hh:Heap}{ids:List Nat}:∀(rs:List RK) (vs:List AV) (x:nE rs),b6 bs rs hh ids vs=some x→vs.length=rs.length
 |[],[],_,_=>rfl
 |[],_::_,_,h=>by cases h
 |.val k::r,vs,x,h=>by obtain⟨v,jo,rfl,_,h2⟩:=rE h;simp[jq r jo x.2 h2]
 |.own ok::r,vs,x,h=>by obtain⟨v,jo,rfl,_,h2⟩:=rF h;simp[jq r jo x.2 h2]
 |.fY _ _::r,vs,x,h=>by obtain⟨v,jo,rfl,_,h2⟩:=oZ h;simp[jq r jo x.2 h2]
 |.agg _::r,vs,x,h=>by obtain⟨v,jo,rfl,_,h2⟩:=rG h;simp[jq r jo x.2 h2]
theorem jV{bs:List BK}{hh:Heap}{ids:List Nat}:∀(rs:List RK) (vs:List AV) (m:Nat) (x:nE rs),b6 bs rs hh ids vs=some x→(de rs vs m x).filterMap (·.2.1)=eZ rs vs
 |[],vs,_,_,_=>by cases vs<;>rfl
 |.own ok::r,vs,m,x,h=>by obtain⟨v,jo,rfl,_,h2⟩:=rF h;simp only[de,eZ,List.headD_cons,List.tail_cons];rw[fe,jV r jo (m+1) x.2 h2];simp only[];rw[zQ]
 |.val k::r,vs,m,x,h=>by obtain⟨v,jo,rfl,_,h2⟩:=rE h;simp only[de,eZ,List.tail_cons];exact jV r jo (m+1) x.2 h2
 |.fY _ _::r,vs,m,x,h=>by obtain⟨v,jo,rfl,_,h2⟩:=oZ h;simp only[de,eZ,List.tail_cons];exact jV r jo (m+1) x.2 h2
 |.agg c::r,vs,m,x,h=>by obtain⟨cs,jo,rfl,h1,h2⟩:=rG h;simp only[de,eZ,List.headD_cons,List.tail_cons,AV.cells];have e1:(eU c m cs x.1).filterMap (·.2.1)=g8 c cs:=rB c m hh cs x.1 h1;rw[List.filterMap_append,jV r jo (m+1) x.2 h2];exact congrArg (·++_) e1
theorem kY{hd:Hp}{bs:List BK}{hh:Heap}{ids:List Nat}:∀(rs:List RK) (vs:List AV) (m:Nat) (x:nE rs),b6 bs rs hh ids vs=some x→(∀s∈eZ rs vs,hd s=hh.get s)→∀e∈de rs vs m x,xR Z ψ hd w h' ψ' e
 |[],_,_,_,_,_,e,he=>by simp[de]at he
 |.own ok::r,vs,m,x,h,hk,e,he=>by
  obtain⟨v,jo,rfl,h1,h2⟩:=rF h;simp only[de,eZ,List.headD_cons,List.tail_cons]at he hk;rcases abn.1 he with rfl|he
  ·exact PC h1 fun s hs=>hk s (abt _ hs)
  ·exact kY r jo (m+1) x.2 h2 (fun s hs=>hk s (abo _ hs)) e he
 |.val k::r,vs,m,x,h,hk,e,he=>by obtain⟨v,jo,rfl,h1,h2⟩:=rE h;exact kY r jo (m+1) x.2 h2 hk e he
 |.fY _ _::r,vs,m,x,h,hk,e,he=>by obtain⟨v,jo,rfl,h1,h2⟩:=oZ h;exact kY r jo (m+1) x.2 h2 hk e he
 |.agg c::r,vs,m,x,h,hk,e,he=>by
  obtain⟨cs,jo,rfl,h1,h2⟩:=rG h;simp only[de,eZ,List.headD_cons,List.tail_cons,AV.cells]at he hk;rcases abH.1 he with he|he
  ·exact uM c m cs x.1 h1 (fun s hs=>hk s (abt _ hs)) e he
  ·exact kY r jo (m+1) x.2 h2 (fun s hs=>hk s (abo _ hs)) e he
theorem zX{hh:Heap}{id:Nat}:∀(eg:List CK) (c n:Nat) (cs:List AV) (x:sW eg),dn eg hh cs=some x→ig eg c=true→cs[oT eg c]? = some (.bY id)→hh.get id≠none∧∃o,(n+c,some id,o)∈eU eg n cs x
 |[],c,n,cs,x,_,h,_=>by simp[ig]at h
 |.val k::r,0,n,cs,x,_,h,_=>by simp[ig]at h
 |.val k::r,c+1,n,cs,x,hd,h,hc=>by obtain⟨_,h2⟩:=rz hd;obtain⟨h3,o,h4⟩:=zX r c (n+1) (cs.drop k.sz) x.2 h2 (by simpa[ig] using h) (by rw[List.getElem?_drop];simpa[oT] using hc);exact⟨h3,o,by rw[show n+(c+1)=n+1+c by omega];exact h4⟩
 |.own ok::r,0,n,cs,x,hd,h,hc=>by
  obtain⟨c0,cs',rfl,h1,h2⟩:=nM hd;simp only[oT,List.getElem?_cons_zero,Option.some.injEq]at hc;subst hc;rcases nN h1 with⟨h3,_⟩|⟨oP,h3,h4⟩
  ·cases h3
  ·cases h3
   exact⟨by rw[h4];simp,_,by simp only[eU,List.headD_cons,rl,List.head?_cons];exact abu⟩
 |.own ok::r,c+1,n,cs,x,hd,h,hc=>by obtain⟨c0,cs',rfl,h1,h2⟩:=nM hd;obtain⟨h3,o,h4⟩:=zX r c (n+1) cs' x.2 h2 (by simpa[ig] using h) (by simp only[oT]at hc;rw[Nat.add_comm]at hc;simpa using hc);exact⟨h3,o,by rw[show n+(c+1)=n+1+c by omega];simp only[eU,List.tail_cons];exact aa5 _ h4⟩
theorem DJ{hh:Heap}{id c:Nat}:∀(bs:List BK) (b n:Nat) (is is':List Nat) (x:zw bs) (bk:BK) (bi:Nat) (ty:TypeId) (cs:List AV),dD bs hh is=some x→is'.length=bs.length→bs[b]? = some bk→is[b]? = some bi→hh.get bi=some (.box ty cs) → ig bk.eg c=true→cs[oT bk.eg c]? = some (.bY id)→hh.get id≠none∧∃o,(n+16*b+c,some id,o)∈cZ bs hh is is' n x
 |[],b,n,is,is',x,bk,bi,ty,cs,_,_,h,_,_,_,_=>by simp at h
 |b0::r,b,n,[],is',x,bk,bi,ty,cs,hd,_,_,_,_,_,_=>by cases hd
 |b0::r,b,n,i::is,[],x,bk,bi,ty,cs,_,hl,_,_,_,_,_=>by simp at hl
 |b0::r,0,n,i::is,i'::is',x,bk,bi,ty,cs,hd,hl,h1,h2,h3,h4,h5=>by
  obtain⟨g0,g3⟩:=gK hd;simp only[List.getElem?_cons_zero,Option.some.injEq]at h1 h2;subst h1;subst h2
  cases b0 with
  |own ok=>simp[BK.eg,ig]at h4
  |box ty0 c0 =>
   obtain⟨cs',g1,g2⟩:=uL g0;rw[g1]at h3
   cases h3
   obtain⟨h6,o,h7⟩:=zX c0 c n cs x.1 g2 h4 h5;refine⟨h6,o,?_⟩;simp only[cZ,fb];rw[rC g1];exact abt _ (aa5 _ (by simpa using h7))
 |b0::r,b+1,n,i::is,i'::is',x,bk,bi,ty,cs,hd,hl,h1,h2,h3,h4,h5=>by obtain⟨_,g3⟩:=gK hd;obtain⟨h6,o,h7⟩:=DJ r b (n+16) is is' x.2 bk bi ty cs g3 (by simpa using hl) (by simpa using h1) (by simpa using h2) h3 h4 h5;refine⟨h6,o,?_⟩;rw[show n+16*(b+1)+c=n+16+16*b+c by omega];simp only[cZ];exact abo _ h7
theorem DK{c:List CK}{cs:List AV}{id s off:Nat}{a:Nat×Nat×Nat}(h:A3 c cs id s off a=true):cs[oT c a.1]? = some (.bY id)∧s=a.2.1∧off=a.2.2∧ig c a.1=true:=by
 simp only[A3,Bool.and_eq_true,decide_eq_true_eq]at h;obtain⟨h1,h2,h3,h4⟩:=h;refine⟨?_,h2,h3,h4⟩;unfold TS at h1
 split at h1
 ·rename_i e;rw[e];simp only[beq_iff_eq]at h1;rw[h1]
 ·cases h1
theorem RB{bs:List BK}{hh:Heap}{ids:List Nat}{b:Nat}{alts:List (Nat×Nat×Nat)}{v:AV}{x:Option (Fin alts.length×Nat)}(hd:pI bs hh ids b alts v=some x):(v=.mL∧x=none) ∨ ∃id i a bi bk ty cs,v=.ref id (alts.get a).2.1 i (alts.get a).2.2∧x=some (a,i)∧ids[b]? = some bi∧bs[b]? = some bk∧hh.get bi=some (.box ty cs)∧cs[oT bk.eg (alts.get a).1]? = some (.bY id)∧ig bk.eg (alts.get a).1=true:=by
 unfold pI at hd
 split at hd
 ·cases hd;exact .inl ⟨rfl,rfl⟩
 ·rename_i id s i off
  split at hd
  ·rename_i bi bk h1 h2
   split at hd
   ·rename_i ty cs h3
    split at hd
    ·rename_i a h4
     cases hd
     have h4':A3 bk.eg cs id s off (alts.get a)=true:=by simpa using adH (p:=fun a=>A3 bk.eg cs id s off (alts.get a)) h4
     obtain⟨h5,rfl,rfl,h6⟩:=DK h4';exact .inr ⟨id,i,a,bi,bk,ty,cs,rfl,rfl,h1,h2,h3,h5,h6⟩
    ·cases hd
   ·cases hd
  ·cases hd
 ·cases hd
theorem uO{bs:List BK}{hh:Heap}{ids is' ids2:List Nat}{nb:Nat}{yb:zw bs}(g:Good Z ψ hh.get w B0 O)(hz:∀b,Z b→Z' b)(hb:dD bs hh ids=some yb)(hl:is'.length=bs.length) (Ug:∀e∈cZ bs hh ids is' nb yb,h' e.1≠none→ψ' e.1=kW ψ e.2.1):∀(rs:List RK) (vs:List AV) (m:Nat) (x:nE rs) (us:List Value),b6 bs rs hh ids vs=some x →(∀id b,AV.bY id∈ir rs vs→hh.get id≠none→ob (ψ id)=some b→Z' b)→(∀e∈de rs vs m x,h' e.1≠none→ψ' e.1=kW ψ e.2.1)→ax Z ψ hh.get w vs us→ax Z' ψ' h' w (bh rs ids2 nb m x) us
 |[],vs,m,x,us,hd,_,_,hr=>by have:=jq [] vs x hd;have hv:vs=[]:=abU this;subst hv;simpa only[bh,ax] using hr
 |.val k::r,vs,m,x,us,hd,hf,kc,hr=>by obtain⟨v,jo,rfl,h1,h2⟩:=rE hd;simp only[ax]at hr;obtain⟨u,j7,rfl,h3,h4⟩:=hr;simp only[bh,ax];simp only[ir]at hf;exact⟨u,j7,rfl,uH g hz (fun id b bV=>hf id b (abt _ bV)) h1 h3,uO g hz hb hl Ug r jo (m+1) x.2 j7 h2 (fun id b bV=>hf id b (abo _ bV)) kc h4⟩
 |.own ok::r,vs,m,x,us,hd,hf,kc,hr=>by obtain⟨v,jo,rfl,h1,h2⟩:=rF hd;simp only[ax]at hr;obtain⟨u,j7,rfl,h3,h4⟩:=hr;simp only[bh,ax];simp only[de,List.headD_cons,List.tail_cons]at kc;exact⟨u,j7,rfl,IJ h1 h3 (fun hn=>kc _ abu hn),uO g hz hb hl Ug r jo (m+1) x.2 j7 h2 hf (fun e he=>kc e (aa5 _ he)) h4⟩
 |.fY b alts::r,vs,m,x,us,hd,hf,kc,hr=>by
  obtain⟨v,jo,rfl,h1,h2⟩:=oZ hd;simp only[ax]at hr;obtain⟨u,j7,rfl,h3,h4⟩:=hr;simp only[bh,ax];refine⟨u,j7,rfl,?_,uO g hz hb hl Ug r jo (m+1) x.2 j7 h2 hf kc h4⟩;rcases RB h1 with⟨rfl,h5⟩|⟨id,i,al,bi,bk,ty,cs,rfl,h5,h6,h7,h8,h9,oI⟩
  ·have:x.1=none:=h5;rw[this];simpa only[xu,aD] using h3
  ·have:x.1=some (al,i):=h5;rw[this];obtain⟨B2,o,M9⟩:=DJ bs b nb ids is' yb bk bi ty cs hb hl h7 h6 h8 oI h9;simp only[xu,aD]at h3 ⊢;obtain⟨ad,Ya,h14⟩:=h3;refine⟨ad,Ya,fun hn=>?_⟩;rw[Ug _ M9 hn,h14 B2];rfl
 |.agg c::r,vs,m,x,us,hd,hf,kc,hr=>by obtain⟨cs,jo,rfl,h1,h2⟩:=rG hd;simp only[ax]at hr;obtain⟨u,j7,rfl,h3,h4⟩:=hr;simp only[bh,ax];simp only[ir,AV.cells]at hf;simp only[de,List.headD_cons,List.tail_cons,AV.cells]at kc;refine⟨u,j7,rfl,?_,uO g hz hb hl Ug r jo (m+1) x.2 j7 h2 (fun id b bV=>hf id b (abo _ bV)) (fun e he=>kc e (abo _ he)) h4⟩;simp only[aD]at h3 ⊢;obtain⟨ws,rfl,h5⟩:=h3;exact⟨ws,rfl,uK g hz c m cs x.1 _ h1 (fun id b bV=>hf id b (abt _ bV)) (fun e he=>kc e (abt _ he)) h5⟩
end Go.Vs
