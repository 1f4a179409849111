/- The value semantics is sound -/
import Derived.Test.YtpkfpbpbkabkdaaGreatEngineA
import Derived.Laws.StructEq
import Derived.Laws.Slices
import Derived.Laws.Strings
import Derived.MapKept
import Derived.Lib.AppendStr
import Derived.Laws.BytesString
set_option linter.unusedSimpArgs false
set_option linter.unusedVariables false
namespace Go.Vs
variable {P:Program} {Z Z':Nat→Prop} {ψ ψ':Nat→Value} {h h':Hp} {w w':World} {B0:Nat} {O:Nat→Prop} {N:Nat→Prop}
def bq.hp(h:Hp):bq→Hp
 |.val _=>h
 |.new _ os=>fun i=>match Heap.get os i with
  |some o=>some o
  |none=>h i
 |.wr _ h'=>h'.get
theorem gj(id:Nat)(o:Ob)(h:Hp):(fun i=>match Heap.get [(id,o)] i with|some o=>some o|none=>h i)=dO h id (some o):=by
 funext i;simp only[Heap.get,dO];by_cases e:i=id
 ·subst e;simp
 ·rw[if_neg (fun x=>e x.symm),if_neg e]
theorem kg(hh:Heap)(id:Nat)(o:Ob):(hh.set id o).get=dO hh.get id (some o):=by
 funext i;by_cases e:i=id
 ·subst e;rw[Heap.uZ,aU]
 ·rw[Heap.AD e,cU _ _ e]
theorem sd(hh:Heap)(id:Nat):(hh.del id).get=dO hh.get id none:=by
 funext i;by_cases e:i=id
 ·subst e;rw[Heap.gD,aU]
 ·rw[Heap.iJ e,cU _ _ e]
theorem AQ(hh:Heap)(id:Nat)(o:Ob):Heap.get ((id,o)::hh)=dO hh.get id (some o):=by
 funext i;simp only[Heap.get,dO];by_cases e:i=id
 ·subst e;simp
 ·rw[if_neg (fun x=>e x.symm),if_neg e]
def gT(P:Program)(ρC:Operand→Value)(o:Oper)(Z:Nat→Prop)(ψ:Nat→Value)(h:Hp)(w:World)(B0:Nat)(O N:Nat→Prop)(e:bq):Prop :=∃V w' Z' ψ',((execOp ρC o).run P w=.ok (.value V) w'∨((execOp ρC o).run P w=.ok .skip w'∧V=undef))∧Next Z ψ h w B0 O N Z' ψ' (e.hp h) w'∧au Z' ψ' (e.hp h) w' e.v V
theorem gT.val{ρC:Operand→Value}{o:Oper}{x:AV}(g:Good Z ψ h w B0 O){V:Value}(hr:(execOp ρC o).run P w=.ok (.value V) w)(hx:au Z ψ h w x V):gT P ρC o Z ψ h w B0 O N (.val x) :=⟨V,w,Z,ψ,.inl hr,Next.refl g,hx⟩
theorem PT{ty:TypeId}{k:K}{xs:List k.T}{id n:Nat}{x:k.T}(g:Good Z ψ h w B0 O)(hg:h id=some (.own (.row ty k) xs))(hx:xs[n]? = some x) :
  ∃gg us,TX (ψ id)=gg∧aB Z w k x us∧∀(j:Nat) u,us[j]? = some u→w.cell? ⟨gg,n*k.sz+j,none⟩=some u:=by
 obtain⟨vs,ho,hv⟩:=g.row id (.row ty k) xs hg;have hn:n<xs.length:=(abr.1 hx).1;obtain⟨hl,e⟩:=ho;rcases e with⟨h0,_⟩|⟨gg,cap,cur,e1,_,e3,_,_,_,e7⟩
 ·omega
 ·refine⟨gg,_,by rw[e1];rfl,hv n x hx,fun j u hu=>?_⟩;rw[List.getElem?_take]at hu
  split at hu
  ·rw[List.getElem?_drop,←e7,List.getElem?_take]at hu
   split at hu
   ·simp only[World.cell?,e3];simpa using hu
   ·cases hu
  ·cases hu
theorem ub{hh:Heap}(g:Good Z ψ h w B0 O)(ba:∀id o,hh.get id=some o→h id=some o){t:TypeId}{a:AV}{v:Value}{e:bq}(hv:au Z ψ h w a v)(he:lS P hh t a some=some e) :
  ∃x V,e=.val x∧(Instr.loadAt t v).run P w=.ok V w∧au Z ψ h w x V:=by
 unfold lS at he
 split at he
 ·rename_i id s i off;simp only[au]at hv;obtain⟨a,rfl,ha⟩:=hv
  split at he
  ·rename_i ty cs hg;have wH:=ba _ _ hg;have GZ:=ha (by rw[wH];simp);obtain⟨gg,vs,e1,e2,e3,e4⟩:=g.box id ty cs wH
   split at he
   ·rename_i hi;subst hi
    split at he
    ·rename_i x hx
     cases he
     rw[e1]at GZ;simp only[TX,Nat.zero_mul,Nat.zero_add]at GZ;subst GZ;obtain⟨V,h1,h2⟩:=jT (a:=⟨gg,off,none⟩) (e3.drop off) (fun j u hu=>by rw[cw];simp only[World.cell?,e2];rw[List.getElem?_drop]at hu;simpa using hu) hx;exact⟨x,V,rfl,h1,h2⟩
    ·cases he
   ·cases he
  ·rename_i ty kk xs hg;have wH:=ba _ _ hg;have GZ:=ha (by rw[wH];simp)
   split at he
   ·rename_i hs;subst hs;obtain⟨x,hx,he⟩:=ac6.1 he
    split at he
    ·rename_i y hy
     cases he
     obtain⟨gg,us,h1,h2,h3⟩:=PT g wH hx;rw[h1]at GZ;subst GZ;obtain⟨V,h4,h5⟩:=jT (a:=⟨gg,i*kk.sz+off,none⟩) ((iD (ψ:=ψ) (h:=h) h2).drop off) (fun j u hu=>by rw[cw,Nat.add_assoc];exact h3 _ _ (by rw[List.getElem?_drop]at hu;exact hu)) hy;exact⟨y,V,rfl,h4,h5⟩
    ·cases he
   ·cases he
  ·cases he
 ·rename_i kk x off
  split at he
  ·rename_i y hy
   cases he
   simp only[au]at hv;obtain⟨a,us,rfl,_,h2,h3⟩:=hv;obtain⟨V,h4,h5⟩:=jT ((iD (ψ:=ψ) (h:=h) h2).drop off) (fun j u hu=>h3 j u (by rw[List.getElem?_drop]at hu;exact hu)) hy;exact⟨y,V,rfl,h4,h5⟩
  ·cases he
 ·cases he
theorem fF{t e:TypeId}(he:qP P t=some e):P.underlying t=some (.slice e):=by
 unfold qP at he
 split at he
 ·cases he;assumption
 ·cases he
theorem nO{t e:TypeId}(ht:P.underlying t=some (.slice e)){i:TypeInfo}(hi:P.info? e=some i)(a:Addr)(n c:Nat)(k:IntKind)(j:Int)(h0:0≤j)(h1:j<n) :
  (Instr.indexAt t (.slice (some a) n c) (.int k j)).run P w=.ok (.pointer (some (a.add (j.toNat*P.cellsOf e)))) w:=by
 simp[Instr.indexAt,asIntOf,run_underlying ht,h0,h1,dn hi]
theorem Np{α:Type}{xs:List α}{i:Int}{x:α}(hx:bU xs i=some x):0≤i∧i<xs.length∧xs[i.toNat]? = some x:=by
 unfold bU at hx
 split at hx
 ·rename_i h0;have:=(abr.1 hx).1;exact⟨h0,by omega,hx⟩
 ·cases hx
theorem qo{hh:Heap}(g:Good Z ψ h w B0 O)(ba:∀id o,hh.get id=some o→h id=some o){t:TypeId}{x i:AV}{v u:Value}{e:bq}(hv:au Z ψ h w x v)(hu:au Z ψ h w i u)(he:dm P hh t x i some=some e) :
  ∃y V,e=.val y∧(Instr.indexAt t v u).run P w=.ok V w∧au Z ψ h w y V:=by
 unfold dm at he
 split at he
 ·cases he
 ·rename_i et het;have ht:=fF het
  ·skip
   split at he
   ·rename_i ex LK xs ik n;simp only[au]at hv hu;subst hu
    split at he
    ·rename_i hs;obtain⟨y,hy,he⟩:=ac6.1 he
     cases he
     obtain⟨h0,h1,h2⟩:=Np hy;obtain⟨hk,_⟩:=hv;simp only[aB]at hk;obtain⟨v',zn,A,c,rfl,_,_,wJ⟩:=hk
     cases zn
     obtain⟨a,us,rfl,hz,hr,hc⟩:=wJ _ _ h2;have hi:∃i,P.info? et=some i:=by
      cases hi:P.info? et with
      |some i=>exact⟨i,rfl⟩
      |none=>exfalso;have:=LK.gh;simp[Program.cellsOf,hi]at hs;omega
     obtain⟨inf,hi⟩:=hi;refine⟨_,_,rfl,nO ht hi a xs.length c ik n h0 h1,?_⟩;simp only[au];refine⟨_,us,rfl,by rw[eY];exact hz,hr,fun j u hu=>?_⟩;rw[uY,hs];exact hc j u (by simpa using hu)
    ·cases he
   ·rename_i id ik n
    split at he
    ·rename_i ty LK xs hg;have wH:=ba _ _ hg
     split at he
     ·rename_i hs
      cases AP:(decide (0≤n)&&decide (n<(xs.length:Int))) with
      |false=>rw[AP]at he;cases he
      |true =>
       rw[AP]at he
       cases he
       simp only[Bool.and_eq_true,decide_eq_true_eq]at AP;simp only[au]at hv hu;subst hu;have hvv:=hv.2 (by rw[wH];simp);obtain⟨vs,⟨_,e⟩,_⟩:=g.row id (.row ty LK) xs wH;rcases e with⟨h0,_⟩|⟨gg,cap,cur,e1,_,e3,_⟩
       ·omega
       ·have hi:∃i,P.info? et=some i:=by
         cases hi:P.info? et with
         |some i=>exact⟨i,rfl⟩
         |none=>exfalso;have:=LK.gh;simp[Program.cellsOf,hi]at hs;omega
        obtain⟨inf,hi⟩:=hi;rw[hvv,e1];refine⟨_,_,rfl,nO ht hi _ xs.length cap ik n AP.1 AP.2,?_⟩;simp only[au];refine⟨_,rfl,fun _=>?_⟩;rw[e1,hs,cw];simp[TX]
     ·cases he
    ·cases he
   ·cases he
theorem tC{t:TypeId}(h:P.cellsOf t≠0):∃i,P.info? t=some i:=by
 cases hi:P.info? t with
 |some i=>exact⟨i,rfl⟩
 |none=>exact absurd (by simp[Program.cellsOf,hi]) h
theorem tD{t:TypeId}{f n:Nat}{ft:TypeId}(hf:gZ P t f=some (n,ft))(hc:P.cellsOf ft≠0)(a:Addr) :
  (Instr.fieldAt t (.pointer (some a)) f).run P w=.ok (.pointer (some (a.add n))) w:=by
 unfold gZ at hf
 split at hf
 ·rename_i fs ht;obtain⟨fd,hfd,he⟩:=ac7.1 hf
  cases he
  obtain⟨i,hi⟩:=tC hc;have hs:=dn (P:=P) (w:=w) hi;simp only[Instr.fieldAt,Sem.run_bind,run_underlying ht,Result.andThen_ok,hfd,Instr.sureAddr,Sem.run_pure,fieldPlace,hs];rw[if_neg hc];rfl
 ·cases hf
theorem tE{t:TypeId}{f n:Nat}{ft:TypeId}(hf:gZ P t f=some (n,ft))(hc:P.cellsOf ft≠0){id s i off:Nat}{v:Value}(hv:au Z ψ h w (.ref id s i off) v) :
  ∃V,(Instr.fieldAt t v f).run P w=.ok V w∧au Z ψ h w (.ref id s i (off+n)) V:=by
 simp only[au]at hv ⊢;obtain⟨a,rfl,ha⟩:=hv;refine⟨_,tD hf hc a,_,rfl,fun br=>?_⟩;rw[ha br,cw,Nat.add_assoc]
theorem vg{t:TypeId}{f n:Nat}{ft:TypeId}(hf:gZ P t f=some (n,ft))(hc:P.cellsOf ft≠0){k:K}{x:k.T}{off:Nat}{v:Value}(hv:au Z ψ h w (.fp k x off) v) :
  ∃V,(Instr.fieldAt t v f).run P w=.ok V w∧au Z ψ h w (.fp k x (off+n)) V:=by
 simp only[au]at hv ⊢;obtain⟨a,us,rfl,hz,hr,D3⟩:=hv;refine⟨_,tD hf hc a,_,us,rfl,by rw[eY];exact hz,hr,fun j u hu=>?_⟩;rw[uY];exact D3 (n+j) u (by rw[←Nat.add_assoc];exact hu)
theorem G8{t ft:TypeId}{f n:Nat}(hf:gZ P t f=some (n,ft)){cs:List AV}{x:AV}{v:Value}(hv:au Z ψ h w (.agg cs) v)(hx:dV P ft (cs.drop n)=some x) :
  ∃V,(Instr.field t v f).run P w=.ok V w∧au Z ψ h w x V:=by
 simp only[au]at hv;obtain⟨vs,rfl,hl⟩:=hv;have hd:=hl.drop n;have hlen:=hd.length;unfold gZ at hf
 split at hf
 ·rename_i fs ht;obtain⟨fd,hfd,he⟩:=ac7.1 hf
  cases he
  unfold dV at hx
  split at hx
  ·rename_i hb
   split at hx
   ·rename_i hle
    cases hx
    obtain⟨i,hi⟩:=yi hb;refine⟨.agg (vs.extract fd.offset (fd.offset+P.cellsOf fd.type)),?_,?_⟩
    ·simp[Instr.field,run_underlying ht,hfd,asAgg,part,gi hb,dn hi]
    ·simp only[au];refine⟨_,rfl,?_⟩;rw[Array.toList_extract,List.extract_eq_take_drop,Nat.add_sub_cancel_left];exact hd.take _
   ·cases hx
  ·rename_i hb
   split at hx
   ·rename_i c r hcr
    cases hx
    rw[hcr]at hd;simp only[an]at hd;obtain⟨u,us,hu,h1,_⟩:=hd;refine⟨u,?_,h1⟩;have hg:vs[fd.offset]? = some u:=by
     have:(vs.toList.drop fd.offset)[0]? = some u:=by rw[hu];rfl
     rw[List.getElem?_drop]at this;simpa using this
    simp[Instr.field,run_underlying ht,hfd,asAgg,part,gi hb,hg]
   ·cases hx
  ·cases hx
 ·cases hf
theorem Nq{hh:Heap}(g:Good Z ψ h w B0 O)(ba:∀id o,hh.get id=some o→h id=some o){x:AV}{v:Value}{e:bq}(hv:au Z ψ h w x v)(he:DZ hh x some=some e) :
  ∃n:Nat,e=.val (.int .i64 (n:Int))∧((∃s,x=.str s∧v=.string s∧n=s.size)∨∃A c,v=.slice A n c):=by
 unfold DZ at he
 split at he
 ·rename_i s hs
  cases he
  have hx:x=.str s:=by
   cases x with
   |bC id=>simp only[cG]at hs;split at hs<;>cases hs
   |str s'=>simp only[cG]at hs;exact hs
   |_=>simp only[cG]at hs<;>cases hs
  subst hx;simp only[au]at hv;exact⟨_,rfl,.inl ⟨s,rfl,hv,rfl⟩⟩
 ·rename_i ex k xs hs
  cases he
  have PU:=D2 (Z':=fun b=>Z b∨Own ψ h b) (g.sub ba) (fun b hb=>.inl hb) (fun id b _ aW hb=>.inr (by obtain⟨o,ho⟩:=acf.1 aW;exact⟨id,by rw[ba id o ho];simp,hb⟩)) (hv.nM ba);rw[hs]at PU;simp only[au,aB]at PU;obtain⟨⟨v',zn,A,c,rfl,_⟩,_⟩:=PU
  cases zn
  exact⟨_,rfl,.inr ⟨A,c,rfl⟩⟩
 ·rename_i hs
  cases he
  have hx:x=.fm:=by
   cases x with
   |bC id=>simp only[cG]at hs;split at hs<;>cases hs
   |fm=>rfl
   |_=>simp only[cG]at hs<;>cases hs
  subst hx;simp only[au]at hv;exact⟨0,rfl,.inr ⟨_,_,hv⟩⟩
 ·cases he
def dY(Z:Nat→Prop)(ψ:Nat→Value)(h:Hp)(w:World):Option AV→Option Value→Prop
 |none,none=>True
 |some a,some v=>au Z ψ h w a v
 |_,_=>False
theorem cc(k:IntKind)(i:Int)(y:Nat)(code:BoundsCode)(h0:0≤i)(h1:i≤y):(Instr.sliceBound (.int k i) y code).run P w=.ok i.toNat w:=by simp[Instr.sliceBound,asIntOf,h0,h1]
theorem uc{b:Bool}{n c:Nat}(hc:n≤c){lo hi mx:Option AV}{LO u7 mx':Option Value}{l u:Int}(h1:dY Z ψ h w lo LO)(h2:dY Z ψ h w hi u7)(h3:dY Z ψ h w mx mx') (hb:nY n lo hi=some (l,u)) (ho:aH n l u=true) (hm:mx=none∨(mx=some (.int .i64 u)∧hi≠none)) :
  (Instr.sliceBounds b n c LO u7 mx').run P w=.ok (l.toNat,u.toNat,if mx=none then c else u.toNat) w:=by
 simp only[aH,Bool.and_eq_true,decide_eq_true_eq]at ho;obtain⟨h4,h5,h6⟩:=ho;have huc:u≤(c:Int):=by omega
 unfold nY at hb;rcases hm with rfl|⟨rfl,aW⟩
 ·cases mx' with
  |some _=>exact h3.elim
  |none =>
   split at hb
   all_goals first|(cases hb;done)|skip
   ·cases hb
    cases LO with
    |some _=>exact h1.elim
    |none =>
     cases u7 with
     |some _=>exact h2.elim
     |none=>simp[Instr.sliceBounds]
   ·cases hb
    cases LO with
    |none=>exact h1.elim
    |some v =>
     simp only[dY,au]at h1;subst h1
     cases u7 with
     |some _=>exact h2.elim
     |none=>simp[Instr.sliceBounds,cc .i64 l n _ h4 h5]
   ·cases hb
    cases LO with
    |some _=>exact h1.elim
    |none =>
     cases u7 with
     |none=>exact h2.elim
     |some v =>
      simp only[dY,au]at h2;subst h2
      cases b<;>simp[Instr.sliceBounds,cc .i64 u c _ (by omega) huc]
   ·cases hb
    cases LO with
    |none=>exact h1.elim
    |some v =>
     simp only[dY,au]at h1;subst h1
     cases u7 with
     |none=>exact h2.elim
     |some v =>
      simp only[dY,au]at h2;subst h2;have hx:l≤((u.toNat:Nat):Int):=by omega
      cases b<;>simp[Instr.sliceBounds,cc .i64 u c _ (by omega) huc,cc .i64 l u.toNat _ h4 hx]
 ·cases mx' with
  |none=>exact h3.elim
  |some m =>
   simp only[dY,au]at h3;subst h3;have huu:u≤((u.toNat:Nat):Int):=by omega
   have hx:l≤((u.toNat:Nat):Int):=by omega
   split at hb
   all_goals first|(cases hb;done)|skip
   ·exact absurd rfl aW
   ·exact absurd rfl aW
   ·cases hb
    cases LO with
    |some _=>exact h1.elim
    |none =>
     cases u7 with
     |none=>exact h2.elim
     |some v =>
      simp only[dY,au]at h2;subst h2
      cases b<;>simp[Instr.sliceBounds,cc .i64 u c _ (by omega) huc,cc .i64 u u.toNat _ (by omega) huu]
   ·cases hb
    cases LO with
    |none=>exact h1.elim
    |some v =>
     simp only[dY,au]at h1;subst h1
     cases u7 with
     |none=>exact h2.elim
     |some v =>
      simp only[dY,au]at h2;subst h2
      cases b<;>simp[Instr.sliceBounds,cc .i64 u c _ (by omega) huc,cc .i64 u u.toNat _ (by omega) huu,cc .i64 l u.toNat _ h4 hx]
theorem AR{t e:TypeId}(ht:P.underlying t=some (.slice e)){kk:K}(gE:P.cellsOf e=kk.sz){xs:List kk.T}{v:Value}(hr:aB Z w (.sl kk) xs [v]){lo hi mx:Option AV}{LO u7 mx':Option Value}{l u:Int} (h1:dY Z' ψ h w lo LO) (h2:dY Z' ψ h w hi u7) (h3:dY Z' ψ h w mx mx') (hb:nY xs.length lo hi=some (l,u)) (ho:aH xs.length l u=true) (hm:mx=none∨(mx=some (.int .i64 u)∧hi≠none)) :
  ∃V,(Instr.sliceAt t v LO u7 mx').run P w=.ok V w∧aB Z w (.sl kk) (cut xs l u) [V]∧(mx≠none→∃A c,V=.slice A c c):=by
 simp only[aB]at hr;obtain⟨v',zn,A,c,rfl,hl,hn,wJ⟩:=hr
 cases zn
 have cJ:=uc (P:=P) (w:=w) (b:=true) hl h1 h2 h3 hb ho hm;simp only[aH,Bool.and_eq_true,decide_eq_true_eq]at ho;obtain⟨h4,h5,h6⟩:=ho;obtain⟨i,hi⟩:=tC (P:=P) (t:=e) (by have:=kk.gh;omega);generalize Pr:(if mx=none then c else u.toNat)=m at cJ;have Xu:u.toNat≤m:=by
  rcases hm with rfl|⟨rfl,_⟩
  ·simp at Pr;omega
  ·simp at Pr;omega
 have hmc:m≤c:=by
  rcases hm with rfl|⟨rfl,_⟩
  ·simp at Pr;omega
  ·simp at Pr;omega
 have rh:(cut xs l u).length=u.toNat-l.toNat:=by unfold cut;rw[List.length_drop,List.length_take];omega
 refine⟨.slice (if m=l.toNat then A else A.map (·.add (l.toNat*P.cellsOf e))) (u.toNat-l.toNat) (m-l.toNat),?_,?_,?_⟩
 ·simp[Instr.sliceAt,Instr.slice,run_underlying ht,cJ,dn hi]
 ·simp only[aB];refine⟨_,rfl,_,_,by rw[rh],by rw[rh];omega,fun hA=>?_,fun j x hx=>?_⟩
  ·split at hA
   ·have:=hn hA;omega
   ·cases A with
    |none=>have:=hn rfl;omega
    |some a=>cases hA
  ·have hj:j<u.toNat-l.toNat:=by rw[←rh];exact(abr.1 hx).1
   have T6:xs[l.toNat+j]? = some x:=by unfold cut at hx;rw[List.getElem?_drop,List.getElem?_take,if_pos (by omega)]at hx;exact hx
   obtain⟨a,us,rfl,hz,hr,hc⟩:=wJ _ _ T6;refine⟨a.add (l.toNat*P.cellsOf e),us,by rw[if_neg (by omega)];rfl,by rw[eY];exact hz,hr,fun q y hy=>?_⟩;rw[uY,gE];have:=hc q y hy;rw[Nat.add_mul]at this;rw[←Nat.add_assoc];exact this
 ·intro aW;rcases hm with rfl|⟨rfl,_⟩
  ·exact absurd rfl aW
  ·simp at Pr;exact⟨_,_,by rw[←Pr]⟩
theorem G9{hh:Heap}(g:Good Z ψ h w B0 O)(_:∀id o,hh.get id=some o→h id=some o){t e:TypeId}(ht:P.underlying t=some (.slice e)){x:AV}{v:Value}{lo hi mx:Option AV}{LO u7 mx':Option Value}{ef:bq} (hv:au Z ψ h w x v) (h1:dY Z ψ h w lo LO) (h2:dY Z ψ h w hi u7) (h3:dY Z ψ h w mx mx') (lZ:∀y hw,ef=.wr y hw→hh.get=h) (he:o9 hh (P.cellsOf e) x lo hi mx some=some ef) (T7:(P.info? e).isSome=true) :
  ∃V Z',(Instr.sliceAt t v LO u7 mx').run P w=.ok V w∧Next Z ψ h w B0 O N Z' ψ (ef.hp h) w∧au Z' ψ (ef.hp h) w ef.v V:=by
 unfold o9 at he
 split at he
 ·
  simp only[au]at hv;subst hv
  split at he
  ·rename_i l u hb
   cases ho:aH 0 l u with
   |false=>rw[ho]at he;cases he
   |true =>
    rw[ho]at he
    cases he
    have cJ:=uc (P:=P) (w:=w) (b:=true) (acn 0) h1 h2 h3 hb ho (.inl rfl);simp only[aH,Bool.and_eq_true,decide_eq_true_eq]at ho;have hl0:l.toNat=0:=by omega
    have hu0:u.toNat=0:=by omega
    obtain⟨i,hi⟩:=acv.1 T7;refine⟨.slice none 0 0,Z,?_,Next.refl g,by simp only[bq.v,au]⟩;rw[hl0,hu0]at cJ;simp[Instr.sliceAt,Instr.slice,run_underlying ht,cJ,dn hi]
  ·cases he
 ·
  rename_i ex kk xs;simp only[au]at hv
  split at he
  ·rename_i gE
   split at he
   ·rename_i l u hb
    split at he
    ·cases ho:aH xs.length l u with
     |false=>rw[ho]at he;cases he
     |true =>
      rw[ho]at he
      cases he
      obtain⟨V,h4,h5,_⟩:=AR (P:=P) ht gE hv.1 h1 h2 h3 hb ho (.inl rfl);exact⟨V,Z,h4,Next.refl g,by simp only[bq.v,bq.hp,au];exact⟨h5,by simp⟩⟩
    ·rename_i m
     cases ho:(aH xs.length l u&&(hi.isSome&&decide (m=u))) with
     |false=>rw[ho]at he;cases he
     |true =>
      rw[ho]at he
      cases he
      simp only[Bool.and_eq_true,decide_eq_true_eq]at ho;obtain⟨ho,hhi,rfl⟩:=ho;obtain⟨V,h4,h5,h6⟩:=AR (P:=P) ht gE hv.1 h1 h2 h3 hb ho (.inr ⟨rfl,by intro e;rw[e]at hhi;cases hhi⟩);exact⟨V,Z,h4,Next.refl g,by simp only[bq.v,bq.hp,au];exact⟨h5,fun _=>h6 (by simp)⟩⟩
    ·cases he
   ·cases he
  ·cases he
 ·cases he
def l6(P:Program)(t:TypeId)(k:K):Prop :=∀(Z:Nat→Prop) (w:World) (x y:k.T) (xs ys:Array Value),aB Z w k x xs.toList→aB Z w k y ys.toList →(Op.equal t (.agg xs) (.agg ys)).run P w=.ok (rQ k x y) w∧(∀(op:BinOp) (a b:Operand),(eqGuard op t a b (.agg xs) (.agg ys)).run P w=.ok () w)∧∀e:Bool,(Instr.checkKey e 10000 t (.agg xs)).run P w=.ok () w
theorem wX(op:BinOp)(t:TypeId)(a b:Operand)(k k':IntKind)(x y:Int):(eqGuard op t a b (.int k x) (.int k' y)).run P w=.ok () w:=by cases op<;>simp[eqGuard]
theorem Nr(op:BinOp)(t:TypeId)(a b:Operand)(x y:ByteArray):(eqGuard op t a b (.string x) (.string y)).run P w=.ok () w:=by cases op<;>simp[eqGuard]
theorem J1(op:BinOp)(t:TypeId)(a b:Operand)(x y:Bool):(eqGuard op t a b (.bool x) (.bool y)).run P w=.ok () w:=by cases op<;>simp[eqGuard]
theorem D6(op:BinOp)(t:TypeId)(a b:Operand)(x y:Option Addr):(eqGuard op t a b (.pointer x) (.pointer y)).run P w=.ok () w:=by cases op<;>simp[eqGuard]
def bO:AV→Value
 |.bool b=>.bool b
 |.int k n=>.int k n
 |.str s=>.string s
 |_=>undef
theorem jU(k:IntKind)(n:Int):au Z ψ h w (.int k n) (bO (.int k n)):=by simp only[au,bO]
theorem dZ(b:Bool):au Z ψ h w (.bool b) (bO (.bool b)):=by simp only[au,bO]
theorem kh{t e:TypeId}(ht:P.underlying t=some (.pointer e))(a:Option Addr):(Op.equal t (.pointer a) (.pointer none)).run P w=.ok a.isNone w:=by
 have key:∀d,(Op.equalIn (d+1) t (.pointer a) (.pointer none)).run P w=.ok a.isNone w:=fun d=>by cases a<;>simp[Op.equalIn,run_underlying ht]
 exact key 9999
theorem PV{op:BinOp}{t:TypeId}{k:IntKind}{a b:Int}{v:AV}(hv:Xi op k a b=some v):∃V,(binOp op t (.int k a) (.int k b)).run P w=.ok V w∧au Z ψ h w v V:=by
 cases op<;>simp only[Xi]at hv<;>cases hv<;>first
  |(refine⟨bO (.int _ _),?_,jU _ _⟩;simp[binOp,Op.intArith,Op.intCmp,bO];done)
  |(refine⟨bO (.bool _),?_,dZ _⟩;simp[binOp,Op.intArith,Op.intCmp,bO];done)
  |(refine⟨bO (.int _ _),?_,jU _ _⟩;simp only[binOp,bO,ne_eq,not_true_eq_false,if_false];rfl)
theorem Ns{Eqs:TypeId→Option K}(C2:∀t k,Eqs t=some k→l6 P t k){op:BinOp}{t:TypeId}{xo yo:Operand}{x y:AV}{u v:Value}{e:bq}(hu:au Z ψ h w x u)(hv:au Z ψ h w y v)(he:yd P Eqs op t x y some=some e) :
  ∃r V,e=.val r∧((do eqGuard op t xo yo u v;binOp op t u v:Sem Value)).run P w=.ok V w∧au Z ψ h w r V:=by
 unfold yd at he
 split at he
 ·rename_i k a k' b;simp only[au]at hu hv;subst hu;subst hv
  split at he
  ·cases hb:decide (b<0) with
   |true=>rw[hb]at he;cases he
   |false =>
    rw[hb]at he;cases he;have Xv:¬b<0:=by simpa using hb
    exact⟨_,bO (.int _ _),rfl,by simp[wX,binOp,Op.shift,Xv,bO,Zx],jU _ _⟩
  ·cases hb:decide (b<0) with
   |true=>rw[hb]at he;cases he
   |false =>
    rw[hb]at he;cases he;have Xv:¬b<0:=by simpa using hb
    exact⟨_,bO (.int _ _),rfl,by simp[wX,binOp,Op.shift,Xv,bO,gQ],jU _ _⟩
  split at he
  ·rename_i hk;subst hk;simp only[Sem.run_bind,wX,Result.andThen_ok]
   split at he
   ·cases hb:(b==0) with
    |true=>rw[hb]at he;cases he
    |false =>
     rw[hb]at he;cases he;have Xv:b≠0:=by simpa using hb
     exact⟨_,bO (.int _ _),rfl,by simp[binOp,Op.intDiv,Xv,bO],jU _ _⟩
   ·cases hb:(b==0) with
    |true=>rw[hb]at he;cases he
    |false =>
     rw[hb]at he;cases he;have Xv:b≠0:=by simpa using hb
     exact⟨_,bO (.int _ _),rfl,by simp[binOp,Op.intDiv,Xv,bO],jU _ _⟩
   ·split at he
    ·rename_i v hv
     cases he
     obtain⟨V,h1,h2⟩:=PV (P:=P) (t:=t) (w:=w) (Z:=Z) (ψ:=ψ) (h:=h) hv;exact⟨_,V,rfl,h1,h2⟩
    ·cases he
  ·cases he
 ·rename_i a b;simp only[au]at hu hv;subst hu;subst hv;simp only[Sem.run_bind,Nr,Result.andThen_ok]
  cases op<;>simp only[Zy]at he<;>first|(cases he;done)|(cases he;exact⟨_,bO (.bool _),rfl,by simp[binOp,Op.stringOp,←beq_toListBytes,bO],dZ _⟩)
 ·rename_i a b;simp only[au]at hu hv;subst hu;subst hv;simp only[Sem.run_bind,J1,Result.andThen_ok];have key:(P.underlying t).map Fi=some true→P.underlying t=some .bool:=fun hm=>by
   obtain⟨d,hd,he⟩:=ac7.1 hm
   cases d<;>simp[Fi]at he
   exact hd
  split at he
  ·rename_i hm
   cases he
   exact⟨_,bO (.bool _),rfl,by simp[binOp,Op.equal,Op.maxDepth,run_equalIn_bool' (P:=P) w 9999 t a b (key hm),bO],dZ _⟩
  ·rename_i hm
   cases he
   exact⟨_,bO (.bool _),rfl,by simp[binOp,Op.equal,Op.maxDepth,run_equalIn_bool' (P:=P) w 9999 t a b (key hm),bO],dZ _⟩
  ·cases he
 ·rename_i a b
  split at he
  ·cases he
  ·rename_i k hk;simp only[au]at hu hv;obtain⟨xs,rfl,hx⟩:=hu;obtain⟨ys,rfl,hy⟩:=hv
   split at he
   ·rename_i x y hdx hdy
    cases he
    obtain⟨h1,h2,_⟩:=C2 t k hk Z w x y xs ys (dC hdx hx) (dC hdy hy);exact⟨_,bO (.bool _),rfl,by simp only[Sem.run_bind,h2,Result.andThen_ok,binOp,h1,Sem.run_pure,bO],dZ _⟩
   ·rename_i x y hdx hdy
    cases he
    obtain⟨h1,h2,_⟩:=C2 t k hk Z w x y xs ys (dC hdx hx) (dC hdy hy);exact⟨_,bO (.bool _),rfl,by simp only[Sem.run_bind,h2,Result.andThen_ok,binOp,h1,Sem.run_pure,bO],dZ _⟩
   ·cases he
 ·simp only[au]at hu hv;subst hu;subst hv;have key:(P.underlying t).map wS=some true→∃e,P.underlying t=some (.pointer e):=fun hm=>by
   obtain⟨d,hd,he⟩:=ac7.1 hm
   cases d<;>simp[wS]at he
   exact⟨_,hd⟩
  simp only[Sem.run_bind,D6,Result.andThen_ok]
  split at he
  ·rename_i hm
   cases he
   obtain⟨et,ht⟩:=key hm;exact⟨_,bO (.bool _),rfl,by simp only[binOp,Sem.run_bind,kh ht,Result.andThen_ok,Sem.run_pure,bO,Option.isNone_none,Option.isNone_some,Bool.not_true,Bool.not_false],dZ _⟩
  ·rename_i hm
   cases he
   obtain⟨et,ht⟩:=key hm;exact⟨_,bO (.bool _),rfl,by simp only[binOp,Sem.run_bind,kh ht,Result.andThen_ok,Sem.run_pure,bO,Option.isNone_none,Option.isNone_some,Bool.not_true,Bool.not_false],dZ _⟩
  ·cases he
 ·simp only[au]at hu hv;obtain⟨a,rfl,_⟩:=hu;subst hv;have key:(P.underlying t).map wS=some true→∃e,P.underlying t=some (.pointer e):=fun hm=>by
   obtain⟨d,hd,he⟩:=ac7.1 hm
   cases d<;>simp[wS]at he
   exact⟨_,hd⟩
  simp only[Sem.run_bind,D6,Result.andThen_ok]
  split at he
  ·rename_i hm
   cases he
   obtain⟨et,ht⟩:=key hm;exact⟨_,bO (.bool _),rfl,by simp only[binOp,Sem.run_bind,kh ht,Result.andThen_ok,Sem.run_pure,bO,Option.isNone_none,Option.isNone_some,Bool.not_true,Bool.not_false],dZ _⟩
  ·rename_i hm
   cases he
   obtain⟨et,ht⟩:=key hm;exact⟨_,bO (.bool _),rfl,by simp only[binOp,Sem.run_bind,kh ht,Result.andThen_ok,Sem.run_pure,bO,Option.isNone_none,Option.isNone_some,Bool.not_true,Bool.not_false],dZ _⟩
  ·cases he
 ·cases he
theorem Nt{a:AV}{v:Value}(hp:wP a=true)(hr:au Z ψ h w a v):v.oneCell'=true:=by
 cases a with
 |no=>cases hp
 |agg cs=>cases hp
 |nF cs=>cases hp
 |bool b=>simp only[au]at hr;subst hr;rfl
 |int k n=>simp only[au]at hr;subst hr;rfl
 |str s=>simp only[au]at hr;subst hr;rfl
 |lq=>simp only[au]at hr;subst hr;rfl
 |fm=>simp only[au]at hr;subst hr;rfl
 |ref id s i off=>simp only[au]at hr;obtain⟨a,rfl,_⟩:=hr;rfl
 |fp k x off=>simp only[au]at hr;obtain⟨a,us,rfl,_⟩:=hr;rfl
 |sl ex k xs=>simp only[au,aB]at hr;obtain⟨⟨v',hv,A,c,rfl,_⟩,_⟩:=hr;cases hv;rfl
 |bC id=>simp only[au]at hr;exact hr.1.2
 |mp kk vk es=>simp only[au,aB]at hr;obtain⟨A,hv,_⟩:=hr;cases hv;rfl
 |fn f cap=>simp only[au]at hr;obtain⟨vs,rfl,_⟩:=hr;rfl
theorem ud:∀{cs:List AV} {vs:List Value},cs.all wP=true→an Z ψ h w cs vs→∀u∈vs,u.oneCell'=true
 |[],_,_,hr,u,hu=>by simp only[an]at hr;subst hr;simp at hu
 |c::r,_,hp,hr,u,hu=>by
  simp only[List.all_cons,Bool.and_eq_true]at hp;simp only[an]at hr;obtain⟨v,us,rfl,h1,h2⟩:=hr;rcases abw.1 hu with rfl|hu
  ·exact Nt hp.1 h1
  ·exact ud hp.2 h2 u hu
theorem Hc{a:AV}(hp:a.cells.all wP=true):a≠.no:=by rintro rfl;simp[AV.cells,wP]at hp
theorem sf{id:Nat}:∀{cs:List AV},JP id cs=true→AV.bC id∉cs
 |[],_=>by simp
 |c::r,hn=>by
  intro hm
  cases c with
  |bC i =>
   simp only[JP,Bool.and_eq_true,Bool.not_eq_true',beq_eq_false_iff_ne]at hn;rcases abw.1 hm with e|hm
   ·cases e;exact hn.1 rfl
   ·exact sf hn.2 hm
  |_ =>
   simp only[JP]at hn;rcases abw.1 hm with e|hm
   ·cases e
   ·exact sf hn hm
theorem yn{hh:Heap}(g:Good Z ψ hh.get w B0 O){t:TypeId}{a x:AV}{u v:Value}{e:bq}(hu:au Z ψ hh.get w a u)(hv:au Z ψ hh.get w x v)(he:rS P hh t a x some=some e) :
  ∃hw w' Z',e=.wr .no hw∧(Instr.storeAt t u v).run P w=.ok () w'∧Next Z ψ hh.get w B0 O N Z' ψ hw.get w':=by
 unfold rS at he
 split at he
 ·rename_i hc;obtain⟨hlen,T8,pC⟩:=hc;obtain⟨inf,T8⟩:=acv.1 T8;have Pp:=hv.cells (Hc pC);have Fs:=ud pC Pp;have rh:=Pp.length;simp only[Array.length_toList]at rh
  split at he
  ·rename_i id s i off;simp only[au]at hu;obtain⟨a,rfl,ha⟩:=hu
   split at he
   ·rename_i ty cs hg
    split at he
    ·rename_i hc;obtain⟨rfl,ZF⟩:=hc
     cases he
     have GZ:=ha (by rw[hg];simp);obtain⟨w',h1,h2⟩:=AI (P:=P) (N:=N) g hg T8 Pp Fs (by omega) ZF (a:=a) (by rw[GZ];simp);exact⟨_,w',Z,rfl,h1,by rw[kg];exact h2⟩
    ·cases he
   ·rename_i ty kk xs hg;obtain⟨y,hx,Ty⟩:=ac6.1 he;clear he
    split at Ty
    ·rename_i hc;obtain⟨rfl,ZF,qG⟩:=hc
     split at Ty
     ·rename_i z hz
      cases Ty
      have GZ:=ha (by rw[hg];simp);have br:=sf qG;have gd:=iK g x.cells;have hgd:(cC hh x.cells).get id=some (.own (.row ty kk) xs):=by rw[pw _ _ _ br];exact hg
      have Xw:=oi (Z':=qM Z ψ hh.get x.cells) g (fun b hb=>.inl hb) (fun i b hm aW hb=>.inr ⟨i,hm,aW,hb⟩) Pp;obtain⟨w',h1,h2⟩:=AJ (P:=P) (N:=N) gd hgd T8 hx (y:=z) (off:=off) (V:=v) (by omega) (by omega) (a:=a) GZ (fun us Hd=>by
       have h3:=(iD (ψ:=ψ) (h:=hh.get) Hd);have h4:=dC hz (Xw.dQ off h3)
       rwa [r9 _ _ _ (by rw[Array.length_toList,Hd.len];omega),Array.length_toList]at h4) Fs
      refine⟨_,w',qM Z ψ hh.get x.cells,rfl,h1,?_⟩;rw[show((stored hh x.cells).2.set id (.own (.row ty kk) (xs.set i z))).get=dO (cC hh x.cells).get id (some (.own (.row ty kk) (xs.set i z))) from kg _ _ _];exact h2.drop (fun b hb=>.inl hb) (fun b hb=>hb.imp (fun h=>h) (fun⟨i,_,h5,h6⟩=>⟨i,h5,h6⟩)) (dW _ _)
     ·cases Ty
    ·cases Ty
   ·cases he
  ·cases he
 ·cases he
theorem PW{a:AV}{v:Value}(ha:a.isAgg=true)(hr:au Z ψ h w a v):∃vs,v=.agg vs:=by
 cases a<;>simp[AV.isAgg]at ha
 simp only[au]at hr;obtain⟨vs,rfl,_⟩:=hr;exact⟨vs,rfl⟩
theorem D7{a:AV}{v:Value}(ha:a.isAgg=false)(qG:a≠.no)(hr:au Z ψ h w a v):v.cells=#[v]:=by
 cases a with
 |no=>exact absurd rfl qG
 |agg cs=>simp[AV.isAgg]at ha
 |bool b=>simp only[au]at hr;subst hr;rfl
 |int k n=>simp only[au]at hr;subst hr;rfl
 |str s=>simp only[au]at hr;subst hr;rfl
 |lq=>simp only[au]at hr;subst hr;rfl
 |fm=>simp only[au]at hr;subst hr;rfl
 |ref id s i off=>simp only[au]at hr;obtain⟨a,rfl,_⟩:=hr;rfl
 |fp k x off=>simp only[au]at hr;obtain⟨a,us,rfl,_⟩:=hr;rfl
 |sl ex k xs=>simp only[au,aB]at hr;obtain⟨⟨v',hv,A,c,rfl,_⟩,_⟩:=hr;cases hv;rfl
 |bC id=>simp only[au]at hr;exact hr.1.1
 |mp kk vk es=>simp only[au,aB]at hr;obtain⟨A,hv,_⟩:=hr;cases hv;rfl
 |fn f cap=>simp only[au]at hr;obtain⟨vs,rfl,_⟩:=hr;rfl
 |nF cs=>simp only[au]at hr;obtain⟨vs,rfl,_⟩:=hr;rfl
theorem ue{hh:Heap}{k:K}{a:AV}{x:k.T}{v:Value}(g:Good Z ψ hh.get w B0 O)(hz:∀b,Z b→Z' b)(hb:∀id b,AV.bC id∈a.cells→hh.get id≠none→ob (ψ id)=some b→Z' b) (hx:fR k hh a=some x) (hr:au Z ψ hh.get w a v):aB Z' w k x v.cells.toList∧(k.isAgg=true→∃vs,v=.agg vs)∧(k.isAgg=false→v.cells=#[v]):=by
 unfold fR at hx
 split at hx
 ·rename_i VV;have qG:=D5 hx;have hv:=oi g hz hb (hr.cells qG);exact⟨dC hx hv,fun h=>PW (by rw[←VV];exact h) hr,fun h=>D7 (by rw[←VV];exact h) qG hr⟩
 ·cases hx
theorem si{hh:Heap}{k:K}{a:AV}{x:k.T}{v:Value}(g:Good Z ψ hh.get w B0 O)(hz:∀b,Z b→Z' b)(hb:∀id b,AV.bC id∈a.cells→hh.get id≠none→ob (ψ id)=some b→Z' b) (hx:fR k hh a=some x) (hr:au Z ψ hh.get w a v):au Z' ψ' h' w (b5 k x) v:=by obtain⟨h1,h2,h3⟩:=ue g hz hb hx hr;exact lX h1 h2 h3
theorem aB.flat:∀{k:K} {x:k.T} {vs:List Value},k.flat=true→aB Z w k x vs→aB Z' w' k x vs
 |.int _,_,_,_,h=>h
 |.bool,_,_,_,h=>h
 |.str,_,_,_,h=>h
 |.sl k,_,_,hf,_=>by simp[K.flat]at hf
 |.pair a b,x,_,hf,h=>by simp only[K.flat,Bool.and_eq_true]at hf;simp only[aB]at h ⊢;obtain⟨us,ws,rfl,h1,h2⟩:=h;exact⟨us,ws,rfl,aB.flat hf.1 h1,aB.flat hf.2 h2⟩
 |.one k,x,_,hf,h=>by simp only[aB]at h ⊢;exact aB.flat (k:=k) (by simpa only[K.flat] using hf) h
theorem zJ:∀(k:K) (x y:k.T),k.flat=true→(rQ k x y=true↔x=y)
 |.int _,x,y,_=>by simp only[rQ];exact beq_iff_eq (α:=Int)
 |.bool,x,y,_=>by simp only[rQ];exact beq_iff_eq (α:=Bool)
 |.str,x,y,_=>by simp only[rQ];exact MapKept.bytes_beq x y
 |.sl _,_,_,hf=>by simp[K.flat]at hf
 |.mp _ _,_,_,hf=>by simp[K.flat]at hf
 |.fn _,_,_,hf=>by simp[K.flat]at hf
 |.pair a b,x,y,hf=>by simp only[K.flat,Bool.and_eq_true]at hf;simp only[rQ,Bool.and_eq_true];rw[zJ a _ _ hf.1,zJ b _ _ hf.2];exact⟨fun h=>Prod.ext h.1 h.2,fun h=>⟨congrArg Prod.fst h,congrArg Prod.snd h⟩⟩
 |.one k,x,y,hf=>by simp only[rQ];exact zJ k x y (by simpa only[K.flat] using hf)
theorem pG:∀{k:K} {x:k.T} {us vs:List Value},k.flat=true→aB Z w k x us→aB Z' w' k x vs→us=vs
 |.int _,_,_,_,_,h1,h2=>by simp only[aB]at h1 h2;rw[h1,h2]
 |.bool,_,_,_,_,h1,h2=>by simp only[aB]at h1 h2;rw[h1,h2]
 |.str,_,_,_,_,h1,h2=>by simp only[aB]at h1 h2;rw[h1,h2]
 |.sl _,_,_,_,hf,_,_=>by simp[K.flat]at hf
 |.mp _ _,_,_,_,hf,_,_=>by simp[K.flat]at hf
 |.fn _,_,_,_,hf,_,_=>by simp[K.flat]at hf
 |.pair a b,x,_,_,hf,h1,h2=>by simp only[K.flat,Bool.and_eq_true]at hf;simp only[aB]at h1 h2;obtain⟨a1,a2,rfl,h3,h4⟩:=h1;obtain⟨b1,b2,rfl,h5,h6⟩:=h2;rw[pG hf.1 h3 h5,pG hf.2 h4 h6]
 |.one k,x,_,_,hf,h1,h2=>by simp only[aB]at h1 h2;exact pG (k:=k) (by simpa only[K.flat] using hf) h1 h2
theorem sj:∀{k:K} {x:k.T} {us:List Value},k.flat=true→aB Z w k x us→∀u∈us,∀n,Instr.sameBits n u u=true
 |.int _,x,_,_,h1,u,hu,n=>by simp only[aB]at h1;subst h1;simp only[List.mem_singleton]at hu;subst hu;cases n<;>simp[Instr.sameBits]<;>exact beq_self_eq_true (α:=Int) x
 |.bool,x,_,_,h1,u,hu,n=>by simp only[aB]at h1;subst h1;simp only[List.mem_singleton]at hu;subst hu;cases n<;>simp[Instr.sameBits]<;>exact beq_self_eq_true (α:=Bool) x
 |.str,x,_,_,h1,u,hu,n=>by simp only[aB]at h1;subst h1;simp only[List.mem_singleton]at hu;subst hu;cases n<;>simp[Instr.sameBits]<;>exact(MapKept.bytes_beq x x).2 rfl
 |.sl _,_,_,hf,_,_,_,_=>by simp[K.flat]at hf
 |.mp _ _,_,_,hf,_,_,_,_=>by simp[K.flat]at hf
 |.fn _,_,_,hf,_,_,_,_=>by simp[K.flat]at hf
 |.pair a b,x,_,hf,h1,u,hu,n=>by
  simp only[K.flat,Bool.and_eq_true]at hf;simp only[aB]at h1;obtain⟨a1,a2,rfl,h3,h4⟩:=h1;rcases ab0.1 hu with hu|hu
  ·exact sj hf.1 h3 u hu n
  ·exact sj hf.2 h4 u hu n
 |.one k,x,_,hf,h1,u,hu,n=>by simp only[aB]at h1;exact sj (k:=k) (by simpa only[K.flat] using hf) h1 u hu n
def JD(b:Bool)(v:Value):Prop:=(b=true→∃vs,v=.agg vs)∧(b=false→v.cells=#[v])
theorem Nu{b:Bool}{u v:Value}(h1:JD b u)(h2:JD b v)(h:u.cells.toList=v.cells.toList):u=v:=by
 cases b with
 |true =>
  obtain⟨a,rfl⟩:=h1.1 rfl;obtain⟨c,rfl⟩:=h2.1 rfl;have:a=c:=by simpa[Value.cells] using h
  rw[this]
 |false =>rw[h1.2 rfl,h2.2 rfl]at h;simpa using h
theorem PX{k:K}{x:k.T}{u:Value}(hf:k.flat=true)(hr:aB Z w k x u.cells.toList)(hs:JD k.isAgg u):Instr.sameBits 10000 u u=true:=by
 have hb:=sj hf hr
 cases hk:k.isAgg with
 |false=>exact hb u (by rw[hs.2 hk];simp) _
 |true =>obtain⟨a,rfl⟩:=hs.1 hk;show Instr.sameBits (9999+1) (.agg a) (.agg a)=true;simp only[Instr.sameBits,beq_self_eq_true,Bool.true_and,List.all_eq_true];intro p hp;obtain⟨i,hi,he⟩:=aeb.1 hp;simp only[List.getElem_zip]at he;subst he;exact hb _ (acC (l:=(Value.agg a).cells.toList) (by simpa[Value.cells] using hi)) _
def Keys(Z:Nat→Prop)(w:World)(k:K)(ys:List k.T)(l:List MapEntry):Prop:=ys.length=l.length∧∀(i:Nat) y e,ys[i]? = some y→l[i]? = some e→aB Z w k y e.key.cells.toList∧JD k.isAgg e.key
theorem Keys.tail{k:K}{y:k.T}{ys:List k.T}{e:MapEntry}{l:List MapEntry}(h:Keys Z w k (y::ys) (e::l)):Keys Z w k ys l:=⟨by simpa using h.1,fun i a b h1 h2=>h.2 (i+1) a b (by simpa using h1) (by simpa using h2)⟩
theorem He{k:K}{x:k.T}{d:TypeDesc}{kv:Value}(hs:∀y Tz,aB Z w k y Tz.cells.toList→JD k.isAgg Tz→Instr.sameNow d kv Tz=some (rQ k x y)):∀(l:List MapEntry) (ys:List k.T) (i:Nat),Keys Z w k ys l → Instr.findNow d kv l i=some ((ys.findIdx? (rQ k x)).map fun j=>(i+j,((l[j]?).map (·.val)).getD undef))
 |[],ys,i,h=>by have:ys=[]:=ace (by simpa using h.1);subst this;rfl
 |e::l,[],i,h=>by have:=h.1;simp at this
 |e::l,y::ys,i,h=>by
  obtain⟨h1,h2⟩:=h.2 0 y e rfl rfl;have ih:=He hs l ys (i+1) h.tail;simp only[Instr.findNow,hs y _ h1 h2,List.findIdx?_cons]
  cases rQ k x y with
  |true=>simp
  |false =>
   simp only[ih,Bool.false_eq_true,if_false]
   cases ys.findIdx? (rQ k x) with
   |none=>rfl
   |some j=>simp;omega
theorem yp{k:K}{x:k.T}{t:TypeId}{kv:Value}(hs:∀y Tz,aB Z w k y Tz.cells.toList→JD k.isAgg Tz→(Op.equal t kv Tz).run P w=.ok (rQ k x y) w):∀(l:List MapEntry) (ys:List k.T) (i:Nat),Keys Z w k ys l →(Instr.findAsking t kv l i).run P w=.ok ((ys.findIdx? (rQ k x)).map fun j=>(i+j,((l[j]?).map (·.val)).getD undef)) w
 |[],ys,i,h=>by have:ys=[]:=ace (by simpa using h.1);subst this;rfl
 |e::l,[],i,h=>by have:=h.1;simp at this
 |e::l,y::ys,i,h=>by
  obtain⟨h1,h2⟩:=h.2 0 y e rfl rfl;have ih:=yp hs l ys (i+1) h.tail;simp only[Instr.findAsking,Sem.run_bind,hs y _ h1 h2,Result.andThen_ok,List.findIdx?_cons]
  cases rQ k x y with
  |true=>simp
  |false =>
   simp only[ih,Bool.false_eq_true,if_false]
   cases ys.findIdx? (rQ k x) with
   |none=>rfl
   |some j=>simp;omega
structure PY(P:Program)(t:TypeId)(k:K):Prop where
 flat:k.flat=true
 check:∀(Z:Nat→Prop) (w:World) (x:k.T) (kv:Value) (e:Bool),aB Z w k x kv.cells.toList→JD k.isAgg kv→(Instr.checkKey e 10000 t kv).run P w=.ok () w
 find:∀(Z:Nat→Prop) (w:World) (x:k.T) (kv:Value) (l:List MapEntry) (ys:List k.T),aB Z w k x kv.cells.toList→JD k.isAgg kv→Keys Z w k ys l →
  (Instr.findKey t kv l).run P w=.ok ((ys.findIdx? (rQ k x)).map fun j=>(j,((l[j]?).map (·.val)).getD undef)) w
theorem pH{t:TypeId}{k:K}{d:TypeDesc}(hf:k.flat=true)(hk:k.isAgg=false)(hd:P.underlying t=some d)(hc:∀(Z:Nat→Prop) (w:World) (x:k.T) (kv:Value),aB Z w k x [kv]→MapKept.IsKey d kv) (hs:∀(Z:Nat→Prop) (w:World) (x y:k.T) (u v:Value),aB Z w k x [u]→aB Z w k y [v]→Instr.sameNow d u v=some (rQ k x y)):PY P t k:=by
 have one:∀{Z:Nat→Prop} {w:World} {x:k.T} {kv:Value},aB Z w k x kv.cells.toList→JD k.isAgg kv→aB Z w k x [kv]:=fun {Z w x kv} h1 h2=>by rw[h2.2 hk]at h1;exact h1
 refine⟨hf,fun Z w x kv e h1 h2=>MapKept.run_checkKey hd (hc Z w x kv (one h1 h2)) e 9999,fun Z w x kv l ys h1 h2 h3=>?_⟩;have:=He (Z:=Z) (w:=w) (x:=x) (d:=d) (kv:=kv) (fun y Tz h4 h5=>hs Z w x y kv Tz (one h1 h2) (one h4 h5)) l ys 0 h3;simp only[Nat.zero_add]at this;exact MapKept.run_findKey hd this
theorem Hf(d:TypeDesc)(a:Array Value)(v:Value):Instr.sameNow d (.agg a) v=none:=by cases d<;>cases v<;>rfl
theorem wY{Eqs:TypeId→Option K}(C2:∀t k,Eqs t=some k→l6 P t k){t:TypeId}{k:K}(hk:LM P Eqs t k=true):PY P t k:=by
 unfold LM at hk;rw[Bool.and_eq_true]at hk;obtain⟨hf,hk⟩:=hk
 split at hk
 ·rename_i ik Y5 hd;simp only[decide_eq_true_eq]at hk;subst hk;exact pH hf rfl hd (fun Z w x kv hr=>by simp only[aB]at hr;cases hr;simp[MapKept.IsKey]) (fun Z w x y u v h1 h2=>by simp only[aB]at h1 h2;cases h1;cases h2;simp[Instr.sameNow,rQ])
 ·rename_i hd;exact pH hf rfl hd (fun Z w x kv hr=>by simp only[aB]at hr;cases hr;simp[MapKept.IsKey]) (fun Z w x y u v h1 h2=>by simp only[aB]at h1 h2;cases h1;cases h2;simp[Instr.sameNow,rQ])
 ·rename_i hd;exact pH hf rfl hd (fun Z w x kv hr=>by simp only[aB]at hr;cases hr;simp[MapKept.IsKey]) (fun Z w x y u v h1 h2=>by simp only[aB]at h1 h2;cases h1;cases h2;simp[Instr.sameNow,rQ])
 ·simp only[Bool.and_eq_true,decide_eq_true_eq]at hk;obtain⟨VV,hk⟩:=hk;have fact:=C2 _ _ hk;have agg:∀{b:Bool} {u:Value},b=true→JD b u→∃a,u=.agg a:=fun hb h=>h.1 hb;refine⟨hf,fun Z w x kv e h1 h2=>?_,fun Z w x kv l ys h1 h2 h3=>?_⟩
  ·obtain⟨a,rfl⟩:=agg VV h2;exact(fact Z w x x a a h1 h1).2.2 e
  ·obtain⟨a,rfl⟩:=agg VV h2;have h4:=yp (P:=P) (t:=t) (Z:=Z) (w:=w) (x:=x) (kv:=.agg a) (fun y Tz h4 h5=>by obtain⟨b,rfl⟩:=agg VV h5;exact(fact Z w x y a b h1 h4).1) l ys 0 h3;simp only[Nat.zero_add]at h4
   cases l with
   |nil =>
    have:ys=[]:=ace (by simpa using h3.1);subst this
    cases hu:P.underlying t with
    |none =>have hc:=(fact Z w x x a a h1 h1).2.2 true;exfalso;unfold Instr.checkKey at hc;simp[underlying,hu]at hc
    |some d=>simp[Instr.findKey,run_underlying hu,Instr.findNow]
   |cons e l =>
    cases hu:P.underlying t with
    |none =>have hc:=(fact Z w x x a a h1 h1).2.2 true;exfalso;unfold Instr.checkKey at hc;simp[underlying,hu]at hc
    |some d=>simp only[Instr.findKey,Sem.run_bind,run_underlying hu,Result.andThen_ok,Instr.findNow,Hf];exact h4
section
variable {kk vk:K} {es:List (kk.T×vk.T)} {l:List MapEntry}
abbrev kx(Z:Nat→Prop)(w:World)(kk vk:K)(es:List (kk.T×vk.T))(l:List MapEntry):Prop:=Fl (aB Z w kk) (aB Z w vk) kk.isAgg vk.isAgg es l
theorem kx.keys(h:kx Z w kk vk es l):Keys Z w kk (es.map (·.1)) l :=⟨by rw[List.length_map];exact h.1,fun i y e h1 h2=>by rw[List.getElem?_map]at h1;obtain⟨x,h3,rfl⟩:=ac7.1 h1;exact(h.2 i x e h3 h2).1⟩
theorem AS{x:kk.T}:(es.map (·.1)).findIdx? (rQ kk x)=qQ kk x es:=by unfold qQ;rw[List.findIdx?_map];rfl
theorem Ft{x:kk.T}{i:Nat}(h:qQ kk x es=some i):i<es.length:=by unfold qQ at h;exact(ad5.1 h).1
theorem T9{x:kk.T}{i:Nat}(h:qQ kk x es=some i):∃e,es[i]? = some e∧rQ kk x e.1=true:=by unfold qQ at h;obtain⟨h1,h2,_⟩:=ad5.1 h;exact⟨_,abv h1,h2⟩
def PZ(Z:Nat→Prop)(w:World)(kk vk:K)(x:kk.T×vk.T)(e:MapEntry):Prop:=(aB Z w kk x.1 e.key.cells.toList∧JD kk.isAgg e.key)∧aB Z w vk x.2 e.val.cells.toList∧JD vk.isAgg e.val
theorem kx.set(h:kx Z w kk vk es l)(i:Nat){x:kk.T×vk.T}{f:MapEntry→MapEntry}(ho:∀e,l[i]? = some e→PZ Z w kk vk x (f e)):kx Z w kk vk (es.set i x) (l.modify i f):=by
 refine⟨by simp[h.1],fun j y e h1 h2=>?_⟩;rw[List.getElem?_modify]at h2;obtain⟨e0,h3,h4⟩:=ac7.1 h2;by_cases AT:i=j
 ·subst AT;rw[if_pos rfl]at h4;have aF:i<es.length:=by rw[h.1];exact(abr.1 h3).1
  rw[List.getElem?_set_self aF]at h1
  cases h1
  subst h4;exact ho e0 h3
 ·rw[if_neg AT]at h4;rw[List.getElem?_set_ne AT]at h1;subst h4;exact h.2 j y e0 h1 h3
theorem kx.push(h:kx Z w kk vk es l){x:kk.T×vk.T}{e:MapEntry}(ho:PZ Z w kk vk x e):kx Z w kk vk (es++[x]) (l++[e]):=by
 refine⟨by simp[h.1],fun j y e' h1 h2=>?_⟩;by_cases hj:j<es.length
 ·rw[List.getElem?_append_left hj]at h1;rw[List.getElem?_append_left (by rw[←h.1];exact hj)]at h2;exact h.2 j y e' h1 h2
 ·rw[List.getElem?_append_right (by omega)]at h1;rw[List.getElem?_append_right (by have:=h.1;omega),←h.1]at h2;by_cases h0:j-es.length=0
  ·rw[h0]at h1 h2;cases h1;cases h2;exact ho
  ·rw[List.getElem?_eq_none (by simp;omega)]at h1;cases h1
theorem kx.erase(h:kx Z w kk vk es l)(i:Nat):kx Z w kk vk (es.eraseIdx i) (l.eraseIdx i):=by
 refine⟨by rw[List.length_eraseIdx,List.length_eraseIdx,h.1],fun j y e h1 h2=>?_⟩;rw[List.getElem?_eraseIdx]at h1 h2
 split at h1
 ·rename_i hj;rw[if_pos hj]at h2;exact h.2 j y e h1 h2
 ·rename_i hj;rw[if_neg hj]at h2;exact h.2 (j+1) y e h1 h2
theorem kx.mono(h:kx Z w kk vk es l)(hz:∀b,Z b→Z' b)(hs:cj Z w w'):kx Z' w' kk vk es l:=Fl.imp (fun _ _ h=>h.mono hz hs) (fun _ _ h=>h.mono hz hs) h
end
theorem uf{Eqs:TypeId→Option K}{t:TypeId}{kk vk:K}(h:mapOf P Eqs t=some (kk,vk)):∃a b,P.underlying t=some (.map a b)∧LM P Eqs a kk=true∧GS P b vk=true:=by
 unfold mapOf at h
 split at h
 ·rename_i a b hu
  split at h
  ·split at h
   ·rename_i hc
    cases h
    rw[Bool.and_eq_true]at hc;exact⟨a,b,hu,hc.1,hc.2⟩
   ·cases h
  ·cases h
 ·cases h
theorem AU{b:TypeId}{vk:K}(h:GS P b vk=true):∃z,(zeroValue b).run P w=.ok z w∧aB Z w vk (lR vk) z.cells.toList∧JD vk.isAgg z:=by
 unfold GS at h
 split at h
 ·rename_i i hi
  split at h
  ·rename_i z hz;refine⟨z,ri hi hz,?_⟩;unfold PC at h
   split at h
   ·simp only[decide_eq_true_eq]at h;obtain⟨rfl,rfl⟩:=h;exact⟨by simp only[aB];rfl,fun h=>(by cases h),fun _=>rfl⟩
   ·rename_i b;simp only[Bool.not_eq_true']at h;subst h;exact⟨by simp only[aB];rfl,fun h=>(by cases h),fun _=>rfl⟩
   ·simp only[decide_eq_true_eq]at h;subst h;exact⟨by simp only[aB];rfl,fun h=>(by cases h),fun _=>rfl⟩
   ·simp only[decide_eq_true_eq]at h;obtain⟨rfl,rfl,rfl⟩:=h;exact⟨by simp only[aB];exact⟨_,rfl,none,0,rfl,acn _,fun _=>rfl,fun i x hx=>by simp[lR]at hx⟩,fun h=>(by cases h),fun _=>rfl⟩
   ·cases h
  ·cases h
 ·cases h
theorem LP{hh:Heap}(g:Good Z ψ h w B0 O)(ba:∀id o,hh.get id=some o→h id=some o){m:AV}{u:Value}{kk vk:K}{es:List (kk.T×vk.T)}(hm:au Z ψ h w m u)(hv:cG hh m=.mp kk vk es) :
  ∃A,u=.map A∧((A=none∧es=[])∨∃r bQ clock,A=some r∧w.heap[r]? = some (.map bQ clock)∧kx Z w kk vk es bQ.toList):=by
 cases m with
 |mp LK TT P0 =>
  simp only[cG]at hv
  cases hv
  simp only[au,aB]at hm;obtain⟨A,h1,h2⟩:=hm
  cases h1
  refine⟨A,rfl,h2.imp (fun h=>h) fun⟨m,bQ,clock,h3,_,h4,h5⟩=>⟨m,bQ,clock,h3,h4,h5⟩⟩
 |bC id =>
  simp only[cG]at hv
  split at hv
  ·cases hv
  ·rename_i LK TT P0 hg
   cases hv
   have wH:=ba _ _ hg;simp only[au]at hm;have:=hm.2 (by rw[wH];simp);subst this;obtain⟨r,bQ,clock,h1,h2,h3,_⟩:=g.row id (.map kk vk) es wH;exact⟨some r,h1,.inr ⟨r,bQ,clock,rfl,h2,h3⟩⟩
  ·cases hv
 |_=>simp only[cG]at hv;cases hv
theorem J2{hh:Heap}(g:Good Z ψ h w B0 O)(ba:∀id o,hh.get id=some o→h id=some o){k:K}(hf:k.flat=true){a:AV}{x:k.T}{v:Value}(hx:fR k hh a=some x)(hr:au Z ψ h w a v):aB Z w k x v.cells.toList∧JD k.isAgg v:=by obtain⟨h1,h2,h3⟩:=ue (Z':=fun b=>b<w.heap.size) (g.sub ba) (fun b hb=>g.jO b hb) (fun id b _ h1 h2=>(g.sub ba).bF ⟨id,h1,h2⟩) hx (hr.less (fun _ h=>h) (cj.refl _ _) (fun id br=>by obtain⟨o,ho⟩:=acf.1 br;exact⟨by rw[ba id o ho];simp,rfl⟩));exact⟨h1.flat hf,h2,h3⟩
theorem Fu{Eqs:TypeId→Option K}(C2:∀t k,Eqs t=some k→l6 P t k){hh:Heap}(g:Good Z ψ h w B0 O)(ba:∀id o,hh.get id=some o→h id=some o){t:TypeId}{m i:AV}{u v:Value}{ok:Bool}{e:bq} (hm:au Z ψ h w m u) (hi:au Z ψ h w i v) (he:n8 P Eqs hh t m i ok some=some e):∃y V,e=.val y∧(Instr.lookup t u v ok).run P w=.ok V w∧au Z ψ h w y V:=by
 unfold n8 at he
 split at he
 ·rename_i ka va kk vk es Ua hv
  split at he
  ·rename_i hc;obtain⟨rfl,rfl⟩:=hc
   split at he
   ·rename_i x hx
    cases he
    obtain⟨a,b,hu,hk,hz⟩:=uf Ua;have K:=wY C2 hk;obtain⟨GK,mY⟩:=J2 g ba K.flat hx hi;obtain⟨z,ve,zG,JC⟩:=AU (Z:=Z) (w:=w) hz;have fin:∀(l:List MapEntry),kx Z w kk vk es l→∃V,((∃j,(Instr.findKey a v l).run P w=.ok (some (j,V)) w∧(fW kk x es).isSome=true)∨((Instr.findKey a v l).run P w=.ok none w∧(zeroValue b).run P w=.ok V w∧(fW kk x es).isSome=false)) ∧ aB Z w vk ((fW kk x es).getD (lR vk)) V.cells.toList∧JD vk.isAgg V:=by
     intro l hE;have hf:=K.find Z w x v l (es.map (·.1)) GK mY hE.keys;rw[AS]at hf
     cases D8:qQ kk x es with
     |none =>rw[D8]at hf;exact⟨z,.inr ⟨hf,ve,by simp[fW,D8]⟩,by simpa[fW,D8] using zG,JC⟩
     |some j =>
      rw[D8]at hf;have hj:=Ft D8;have h1:es[j]? = some es[j]:=abv hj;have JE:j<l.length:=by rw[←hE.1];exact hj
      have h2:l[j]? = some l[j]:=abv JE;obtain⟨_,h3,h4⟩:=hE.2 j _ _ h1 h2;refine⟨l[j].val,.inl ⟨j,?_,by simp[fW,D8,h1]⟩,by simpa[fW,D8,h1] using h3,h4⟩;rw[hf];simp only[Option.map_some,h2,Option.getD_some]
    have out:∀V:Value,aB Z w vk ((fW kk x es).getD (lR vk)) V.cells.toList→JD vk.isAgg V→au Z ψ h w (cond ok (AV.nF [b5 vk ((fW kk x es).getD (lR vk)),.bool (fW kk x es).isSome]) (b5 vk ((fW kk x es).getD (lR vk)))) (if ok then .tuple #[V,.bool (fW kk x es).isSome] else V):=by
     intro V h1 h2;have h3:au Z ψ h w (b5 vk ((fW kk x es).getD (lR vk))) V:=lX h1 h2.1 h2.2
     cases ok with
     |false=>exact h3
     |true=>simp only[cond_true,if_true,au,an];exact⟨_,rfl,V,[.bool (fW kk x es).isSome],by simp,h3,_,[],rfl,rfl,rfl⟩
    obtain⟨A,rfl,hA⟩:=LP g ba hm hv;rcases hA with⟨rfl,rfl⟩|⟨r,bQ,clock,rfl,h3,h4⟩
    ·obtain⟨V,h5,h6,h7⟩:=fin [] ⟨rfl,fun i x e h=>by simp at h⟩;refine⟨_,_,rfl,?_,out V h6 h7⟩;simp only[Instr.lookup,Sem.run_bind,run_underlying hu,Result.andThen_ok,Sem.run_pure,K.check Z w x v _ GK mY];rcases h5 with⟨j,h8,h9⟩|⟨h8,h9,lY⟩
     ·simp[h8,h9]
     ·simp[h8,h9,lY]
    ·obtain⟨V,h5,h6,h7⟩:=fin bQ.toList h4;refine⟨_,_,rfl,?_,out V h6 h7⟩;simp only[Instr.lookup,Sem.run_bind,run_underlying hu,Result.andThen_ok,Sem.run_pure,MapKept.run_getObj_map h3,K.check Z w x v _ GK mY];rcases h5 with⟨j,h8,h9⟩|⟨h8,h9,lY⟩
     ·simp[h8,h9]
     ·simp[h8,h9,lY]
   ·cases he
  ·cases he
 ·cases he
end Go.Vs
namespace Go.Vs
variable {P:Program} {Z Z':Nat→Prop} {ψ ψ':Nat→Value} {h h':Hp} {w w':World} {B0:Nat} {O:Nat→Prop} {N:Nat→Prop}
theorem wZ{r b:Nat}(o:Obj)(aW:r≠b):(w.heap.setIfInBounds r o)[b]? = w.heap[b]? := by rw[Array.getElem?_setIfInBounds];simp[aW]
theorem cE.aeD{r:Nat}(ho:Own ψ h r)(o:Obj):cE ψ h w { w with heap:=w.heap.setIfInBounds r o } :=⟨rfl,rfl,rfl,by simp,fun b _ hb=>wZ o (fun e=>hb (e▸ho))⟩
theorem so{hp:Hp}(g:Good Z ψ hp w B0 O){id:Nat}(br:hp id≠none){r:Nat}(hr:ob (ψ id)=some r)(aF:r<w.heap.size)(o:Obj){ok:OK}{x:ok.T} (hx:∀w':World,w'.heap=w.heap.setIfInBounds r o→cj Z w w'→jr Z w' ok (ψ id) x) :
  Next Z ψ hp w B0 O N Z ψ (dO hp id (some (.own ok x))) { w with heap:=w.heap.setIfInBounds r o }:=by
 have ho:Own ψ hp r:=⟨id,br,hr⟩;have kk:=cE.aeD (w:=w) ho o;refine g.write id br kk (fun b hb _=>wZ o (fun e=>hb (by rw[hr,e]))) _ (fun _ _ he=>by cases he) (fun TU x' he=>?_)
 cases he
 exact hx _ rfl (kk.same g)
theorem yq{l:List MapEntry}{i:Nat}{f:MapEntry→MapEntry}(hf:∀e,(f e).born=e.born):(l.modify i f).map (·.born)=l.map (·.born):=by
 apply adQ;intro j;simp only[List.getElem?_map,List.getElem?_modify]
 cases l[j]? with
 |none=>rfl
 |some e=>simp only[Option.map_some];split<;>simp[hf]
theorem w4{l:List MapEntry}:l.Pairwise (fun a b=>a.born≠b.born)↔(l.map (·.born)).Pairwise (·≠·):=by rw[List.pairwise_map]
theorem vh{Eqs:TypeId→Option K}(C2:∀t k,Eqs t=some k→l6 P t k){hh:Heap}(g:Good Z ψ hh.get w B0 O){t:TypeId}{m i v:AV}{u1 u2 u3:Value}{e:bq} (hm:au Z ψ hh.get w m u1) (hi:au Z ψ hh.get w i u2) (hv:au Z ψ hh.get w v u3) (he:iR P Eqs hh t m i v some=some e) :
  ∃hw w' Z',e=.wr (.nF []) hw∧(Instr.mapUpdate t u1 u2 u3).run P w=.ok () w'∧Next Z ψ hh.get w B0 O N Z' ψ hw.get w':=by
 unfold iR at he
 split at he
 ·rename_i ka va id Ua
  split at he
  ·rename_i kk vk es hg
   split at he
   ·rename_i hc;obtain⟨rfl,rfl⟩:=hc
    split at he
    ·rename_i x y hx hy qG
     cases he
     obtain⟨a,b,hu,hk,_⟩:=uf Ua;have K:=wY C2 hk;obtain⟨GK,mY⟩:=J2 g (fun _ _ h=>h) K.flat hx hi;simp only[au]at hm;have TA:=hm.2 (by rw[hg];simp);obtain⟨r,bQ,clock,h1,h2,h3,h4,h5⟩:=g.row id (.map kk vk) es hg;rw[h1]at TA;subst TA;have br:AV.bC id∉v.cells:=fun hc=>by have:=acH.1 qG _ hc;simp at this
     have gd:=iK g v.cells;have hgd:(cC hh v.cells).get id=some (.own (.map kk vk) es):=by rw[pw _ _ _ br];exact hg
     obtain⟨vj,yj,hv3⟩:=ue (Z':=qM Z ψ hh.get v.cells) g (fun b hb=>.inl hb) (fun id b h1 h2 h3=>.inr ⟨id,h1,h2,h3⟩) hy hv;have ZG:aB (qM Z ψ hh.get v.cells) w kk x u2.cells.toList:=GK.flat K.flat;have aF:=(abX.1 h2).1;have la:ob (ψ id)=some r:=by rw[h1];rfl
     have hE:kx (qM Z ψ hh.get v.cells) w kk vk es bQ.toList:=kx.mono h3 (fun b hb=>.inl hb) (cj.refl _ _);have hf:=K.find Z w x u2 bQ.toList (es.map (·.1)) GK mY (kx.keys h3);rw[AS]at hf;have fin:∀(o:Obj) (P0:List (kk.T×vk.T)) (mZ:Array MapEntry) (AW:Nat),o=.map mZ AW→kx (qM Z ψ hh.get v.cells) w kk vk P0 mZ.toList→(mZ.toList.map (·.born)).Pairwise (·≠·)→(∀e∈mZ.toList,e.born<AW) → Next Z ψ hh.get w B0 O N (qM Z ψ hh.get v.cells) ψ ((cC hh v.cells).set id (.own (.map kk vk) P0)).get { w with heap:=w.heap.setIfInBounds r o }:=by rintro o P0 mZ AW rfl h6 h7 h8;rw[kg];have n:=so (N:=N) gd (by rw[hgd];simp) la aF (.map mZ AW) (ok:=.map kk vk) (x:=P0) (fun w' JF sm=>⟨r,mZ,AW,h1,by rw[JF];simp[aF],kx.mono h6 (fun _ h=>h) sm,w4.2 h7,h8⟩);exact n.drop (fun b hb=>.inl hb) (fun b hb=>hb.imp (fun h=>h) (fun⟨i,_,h5,h6⟩=>⟨i,h5,h6⟩)) (dW _ _)
     cases D8:qQ kk x es with
     |none =>
      rw[D8]at hf;refine⟨_,{ w with heap:=w.heap.setIfInBounds r (.map (bQ.push { key:=u2,val:=u3,born:=clock }) (clock+1)) },qM Z ψ hh.get v.cells,rfl,?_,?_⟩
      rotate_left
      ·rw[show jn kk x y es=es++[(x,y)] by simp[jn,D8]];refine fin _ _ (bQ.push { key:=u2,val:=u3,born:=clock }) (clock+1) rfl ?_ ?_ ?_
       ·rw[Array.toList_push];exact hE.push ⟨⟨ZG,mY⟩,vj,yj,hv3⟩
       ·rw[Array.toList_push,List.map_append,List.pairwise_append];refine⟨w4.1 h4,by simp,fun a ha b hb=>?_⟩;simp only[List.map_cons,List.map_nil,List.mem_singleton]at hb;obtain⟨e,he,rfl⟩:=acx.1 ha;have:=h5 e he;omega
       ·intro e he;rw[Array.toList_push]at he;rcases ab0.1 he with he|he
        ·have:=h5 e he;omega
        ·simp only[List.mem_singleton]at he;subst he;exact Nat.lt_succ_self _
      ·simp only[Instr.mapUpdate,Sem.run_bind,run_underlying hu,Result.andThen_ok,MapKept.run_getObj_map h2,K.check Z w x u2 _ GK mY,hf,Option.map_none,MapKept.run_setObj_map _ h2]
     |some j =>
      rw[D8]at hf;have hj:=Ft D8;obtain⟨e0,VW,heq⟩:=T9 D8;have JE:j<bQ.toList.length:=by rw[←h3.1];exact hj
      have hl:bQ.toList[j]? = some bQ.toList[j]:=abv JE;have Ps:bQ[j]? = some bQ.toList[j]:=by rw[←hl];simp
      obtain⟨⟨ZH,aeE⟩,_⟩:=h3.2 j _ _ VW hl;have tw:bQ.toList[j].key=u2:=by refine Nu aeE mY ?_;rw[←(zJ kk x e0.1 K.flat).1 heq]at ZH;exact pG K.flat ZH GK
      have VX:(Instr.keyThatStays u2 u2).run P w=.ok u2 w:=by simp[Instr.keyThatStays,PX K.flat GK mY]
      refine⟨_,{ w with heap:=w.heap.setIfInBounds r (.map (bQ.modify j fun e=>{ e with key:=u2,val:=u3 }) clock) },qM Z ψ hh.get v.cells,rfl,?_,?_⟩
      rotate_left
      ·rw[show jn kk x y es=es.set j (x,y) by simp[jn,D8]];refine fin _ _ (bQ.modify j fun e=>{ e with key:=u2,val:=u3 }) clock rfl ?_ ?_ ?_
       ·rw[Array.toList_modify];exact hE.set j (fun e he=>⟨⟨ZG,mY⟩,vj,yj,hv3⟩)
       ·rw[Array.toList_modify,yq (f:=fun e:MapEntry=>{ e with key:=u2,val:=u3 }) (fun _=>rfl)];exact w4.1 h4
       ·intro e he;have:e.born∈(bQ.modify j fun e=>{ e with key:=u2,val:=u3 }).toList.map (·.born):=acx.2 ⟨e,he,rfl⟩;rw[Array.toList_modify,yq (f:=fun e:MapEntry=>{ e with key:=u2,val:=u3 }) (fun _=>rfl)]at this;obtain⟨e',JB,h6⟩:=acx.1 this;rw[←h6];exact h5 e' JB
      ·simp only[Instr.mapUpdate,Sem.run_bind,run_underlying hu,Result.andThen_ok,MapKept.run_getObj_map h2,K.check Z w x u2 _ GK mY,hf,Option.map_some,Ps,Option.getD_some,tw,VX,MapKept.run_setObj_map _ h2]
    ·cases he
   ·cases he
  ·cases he
 ·cases he
theorem vl{Eqs:TypeId→Option K}(C2:∀t k,Eqs t=some k→l6 P t k){hh:Heap}(g:Good Z ψ hh.get w B0 O){t ty:TypeId}{ts:List TypeId}{m i:AV}{u1 u2:Value}{e:bq} (hm:au Z ψ hh.get w m u1) (hi:au Z ψ hh.get w i u2) (he:oa P Eqs hh t m i some=some e) :
  ∃hw w',e=.wr (.nF []) hw∧(Builtin.delete_ (t::ts).toArray ty #[u1,u2]).run P w=.ok (.tuple #[]) w'∧Next Z ψ hh.get w B0 O N Z ψ hw.get w':=by
 unfold oa at he
 split at he
 ·rename_i ka va id Ua
  split at he
  ·rename_i kk vk es hg
   split at he
   ·rename_i hc;obtain⟨rfl,rfl⟩:=hc
    split at he
    ·rename_i x hx
     cases he
     obtain⟨a,b,hu,hk,_⟩:=uf Ua;have K:=wY C2 hk;obtain⟨GK,mY⟩:=J2 g (fun _ _ h=>h) K.flat hx hi;simp only[au]at hm;have TA:=hm.2 (by rw[hg];simp);obtain⟨r,bQ,clock,h1,h2,h3,h4,h5⟩:=g.row id (.map kk vk) es hg;rw[h1]at TA;subst TA;have aF:=(abX.1 h2).1;have la:ob (ψ id)=some r:=by rw[h1];rfl
     have hf:=K.find Z w x u2 bQ.toList (es.map (·.1)) GK mY (kx.keys h3);rw[AS]at hf;have fin:∀(o:Obj) (P0:List (kk.T×vk.T)) (mZ:Array MapEntry),o=.map mZ clock→kx Z w kk vk P0 mZ.toList→mZ.toList.Sublist bQ.toList → Next Z ψ hh.get w B0 O N Z ψ (hh.set id (.own (.map kk vk) P0)).get { w with heap:=w.heap.setIfInBounds r o }:=by rintro o P0 mZ rfl h6 h7;rw[kg];exact so (N:=N) g (by rw[hg];simp) la aF (.map mZ clock) (ok:=.map kk vk) (x:=P0) (fun w' JF sm=>⟨r,mZ,clock,h1,by rw[JF];simp[aF],kx.mono h6 (fun _ h=>h) sm,h4.sublist h7,fun e he=>h5 e (h7.subset he)⟩)
     cases D8:qQ kk x es with
     |none =>
      rw[D8]at hf;refine⟨_,{ w with heap:=w.heap.setIfInBounds r (.map bQ clock) },rfl,?_,?_⟩
      rotate_left
      ·rw[show Fh kk x es=es by simp[Fh,D8]];exact fin _ _ bQ rfl h3 (List.Sublist.refl _)
      ·simp[Builtin.delete_,run_underlying hu,MapKept.run_getObj_map h2,K.check Z w x u2 _ GK mY,hf,MapKept.run_setObj_map _ h2]
     |some j =>
      rw[D8]at hf;have hj:=Ft D8;refine⟨_,{ w with heap:=w.heap.setIfInBounds r (.map (bQ.eraseIdxIfInBounds j) clock) },rfl,?_,?_⟩
      rotate_left
      ·rw[show Fh kk x es=es.eraseIdx j by simp[Fh,D8]];refine fin _ _ (bQ.eraseIdxIfInBounds j) rfl ?_ ?_
       ·rw[Array.toList_eraseIdxIfInBounds];exact kx.erase h3 j
       ·rw[Array.toList_eraseIdxIfInBounds];exact List.eraseIdx_sublist _ _
      ·simp[Builtin.delete_,run_underlying hu,MapKept.run_getObj_map h2,K.check Z w x u2 _ GK mY,hf,MapKept.run_setObj_map _ h2]
    ·cases he
   ·cases he
  ·cases he
 ·cases he
theorem J3{hh:Heap}(g:Good Z ψ h w B0 O)(ba:∀id o,hh.get id=some o→h id=some o){t ty:TypeId}{x:AV}{u:Value}{e:bq}(ht:JQ P t=true)(hx:au Z ψ h w x u)(he:wR hh x some=some e) :
  ∃n:Nat,e=.val (.int .i64 (n:Int))∧(Builtin.len_ #[t] ty #[u]).run P w=.ok (.int .i64 (n:Int)) w:=by
 unfold wR at he
 split at he
 ·rename_i kk vk es hv
  cases he
  have hu:∃a b,P.underlying t=some (.map a b):=by
   unfold JQ at ht
   split at ht
   ·exact⟨_,_,by assumption⟩
   ·cases ht
  obtain⟨a,b,hu⟩:=hu;obtain⟨A,rfl,hA⟩:=LP g ba hx hv;rcases hA with⟨rfl,rfl⟩|⟨r,bQ,clock,rfl,h3,h4⟩
  ·exact⟨0,rfl,by simp[Builtin.len_,run_underlying hu,goInt]⟩
  ·refine⟨es.length,rfl,?_⟩;have:bQ.size=es.length:=by rw[h4.1];simp
   simp[Builtin.len_,run_underlying hu,MapKept.run_getObj_map h3,goInt,this]
 ·cases he
theorem AX(g:Good Z ψ h w B0 O)(hB:B0≤w.heap.size)(id:Nat)(hN:N id){ok:OK}{x:ok.T}{v:Value}(o:Obj)(ho:jr Z (w.alloc o) ok v x)(hb:ob v=some w.heap.size) (aX:∀i ty cs,h i=some (.box ty cs)→av (fun i=>i≠id) cs):Next Z ψ h w B0 O N Z (dO ψ id v) (dO h id (some (.own ok x))) (w.alloc o) :=G1 g hB id hN (cE.alloc _ _ _ _) (fun b hb=>heap_alloc_old w _ (g.bF hb)) ho (fun b zK=>by rw[hb]at zK;cases zK;exact acn _) aX
theorem Dc{Eqs:TypeId→Option K}(g:Good Z ψ h w B0 O)(hB:B0≤w.heap.size){id:Nat}(hN:N id){t:TypeId}{e:bq}(aX:∀i ty cs,h i=some (.box ty cs)→av (fun i=>i≠id) cs)(he:lF P Eqs id t some=some e) :
  ∃v w' ψ',(Instr.makeMap t none).run P w=.ok v w'∧Next Z ψ h w B0 O N Z ψ' (e.hp h) w'∧au Z ψ' (e.hp h) w' e.v v:=by
 unfold lF at he
 split at he
 ·rename_i kk vk Ua
  cases he
  refine⟨.map (some w.heap.size),w.alloc (.map #[] 0),dO ψ id (.map (some w.heap.size)),rfl,?_,?_⟩
  ·simp only[bq.hp];rw[gj];exact AX g hB id hN (ok:=.map kk vk) (x:=[]) _ ⟨w.heap.size,#[],0,rfl,heap_alloc_new _ _,⟨rfl,fun i x e h=>by simp at h⟩,by simp,by simp⟩ rfl aX
  ·simp only[bq.v,bq.hp,au];exact⟨⟨rfl,rfl⟩,fun _=>(aU _ _ _).symm⟩
 ·cases he
theorem Fv(g:Good Z ψ h w B0 O)(hB:B0≤w.heap.size){id:Nat}(hN:N id){t:TypeId}{x:AV}{u:Value}{e:bq}(hx:au Z ψ h w x u)(aX:∀i ty cs,h i=some (.box ty cs)→av (fun i=>i≠id) cs)(he:oc P id t x some=some e) :
  ∃v w' ψ',(Instr.range t u).run P w=.ok v w'∧Next Z ψ h w B0 O N Z ψ' (e.hp h) w'∧au Z ψ' (e.hp h) w' e.v v:=by
 unfold oc at he
 split at he
 ·rename_i sv hu
  cases he
  simp only[au]at hx;subst hx;refine⟨.pointer (some ⟨w.heap.size,0,none⟩),w.alloc (.stringIter sv 0),dO ψ id (.pointer (some ⟨w.heap.size,0,none⟩)),?_,?_,?_⟩
  ·simp only[Instr.range,Sem.run_bind,run_underlying hu,Result.andThen_ok,Sem.run_pure];rfl
  ·simp only[bq.hp];rw[gj];exact AX g hB id hN (ok:=.nX) (x:=(sv,0)) _ ⟨w.heap.size,rfl,heap_alloc_new _ _⟩ rfl aX
  ·simp only[bq.v,bq.hp,au];exact⟨⟨rfl,rfl⟩,fun _=>(aU _ _ _).symm⟩
 ·cases he
theorem gk{r:Nat}{o:Obj}(hb:w.heap[r]? = some o)(hc:∀c e f,o≠.cells c e f):(getObj r).run P w=.ok o w:=by cases o<;>first|(exact absurd rfl (hc _ _ _))|simp[getObj,Sem.run,hb]
theorem AY{r:Nat}{o o':Obj}(hb:w.heap[r]? = some o)(hc:∀c e f,o≠.cells c e f):(setObj r o').run P w=.ok () { w with heap:=w.heap.setIfInBounds r o' }:=by cases o<;>first|(exact absurd rfl (hc _ _ _))|simp[setObj,Sem.run,hb]
theorem Hg{hh:Heap}(g:Good Z ψ h w B0 O)(ba:∀id o,hh.get id=some o→h id=some o){ty:TypeId}{x:AV}{u:Value}{e:bq}(hx:au Z ψ h w x u)(lZ:∀v hw,e=.wr v hw→hh.get=h)(he:rT hh x some=some e) :
  ∃v w',(Instr.next u true ty).run P w=.ok v w'∧Next Z ψ h w B0 O N Z ψ (e.hp h) w'∧au Z ψ (e.hp h) w' e.v v:=by
 unfold rT at he
 split at he
 ·rename_i id
  split at he
  ·rename_i x hg;have wH:=ba _ _ hg;simp only[au]at hx;have hu:=hx.2 (by rw[wH];simp);obtain⟨r,h1,h2⟩:=g.row id .nX x wH;rw[h1]at hu;subst hu
   cases hc:decide (x.2<x.1.size) with
   |true =>
    rw[hc]at he;cases he;have heq:=lZ _ _ rfl;simp only[decide_eq_true_eq]at hc;have aF:=(abX.1 h2).1;refine⟨.tuple #[.bool true,goInt x.2,.int .i32 (Utf8.decode x.1 x.2).1],{ w with heap:=w.heap.setIfInBounds r (.stringIter x.1 (x.2+(Utf8.decode x.1 x.2).2)) },?_,?_,?_⟩
    ·simp only[Instr.next,Sem.run_bind,gk h2 (by simp),Result.andThen_ok,hc,if_true,AY h2 (by simp),Sem.run_pure]
    ·simp only[bq.hp];rw[kg,heq];exact so (N:=N) g (by rw[wH];simp) (by rw[h1];rfl) aF _ (ok:=.nX) (x:=(x.1,x.2+Ar x.1 x.2)) (fun w' JF _=>⟨r,h1,by rw[JF];simp[aF,Ar]⟩)
    ·simp only[bq.v,au,an];exact⟨_,rfl,_,_,rfl,rfl,_,_,rfl,rfl,_,_,rfl,rfl,rfl⟩
   |false =>
    rw[hc]at he;cases he;simp only[decide_eq_false_iff_not]at hc;refine⟨.tuple #[.bool false],w,?_,Next.refl g,?_⟩
    ·simp only[Instr.next,Sem.run_bind,gk h2 (by simp),Result.andThen_ok,hc,if_false,Sem.run_pure]
    ·simp only[bq.v,au,an];exact⟨_,rfl,_,_,rfl,rfl,rfl⟩
  ·cases he
 ·cases he
theorem find_born{l:List MapEntry}(h:l.Pairwise (fun a b=>a.born≠b.born)){e:MapEntry}(he:e∈l):l.find? (fun x=>x.born==e.born)=some e:=by
 induction l with
 |nil=>cases he
 |cons a r ih =>
  obtain⟨h1,h2⟩:=List.pairwise_cons.1 h;rw[List.find?_cons];rcases abw.1 he with rfl|he
  ·simp
  ·have:(a.born==e.born)=false:=by simpa using h1 e he
   rw[this];exact ih h2 he
theorem Hh{hh:Heap}(g:Good Z ψ h w B0 O)(ba:∀id o,hh.get id=some o→h id=some o){x:AV}{u:Value}{e:bq}(hx:au Z ψ h w x u)(he:rU hh x some=some e) :
  ∃y v,e=.val y∧(Instr.entry u).run P w=.ok v w∧au Z ψ h w y v:=by
 unfold rU at he
 split at he
 ·rename_i id
  split at he
  ·rename_i kk vk c rest hg
   cases he
   have wH:=ba _ _ hg;simp only[au]at hx;have hu:=hx.2 (by rw[wH];simp);obtain⟨r,m,since,seen,bQ,clock,h1,h2,h3,h4,h5,h6,h7,h8,h9⟩:=g.row id (.iter kk vk) (some c,rest) wH;rw[h1]at hu;subst hu;obtain⟨en,lY,zj,JG⟩:=h9;obtain⟨⟨k1,k2,k3⟩,v1,v2,v3⟩:=JG.2 0 c en rfl rfl;refine⟨_,.tuple #[en.key,en.val],rfl,?_,?_⟩
   ·have hf:bQ.find? (·.born==en.born)=some en:=by
     have:=find_born h5 lY
     rwa [←Array.find?_toList]
    simp only[Instr.entry,Sem.run_bind,gk h2 (by simp),Result.andThen_ok,zj,Sem.run_pure,gk h4 (by simp),hf];simp
   ·simp only[au,an];exact⟨_,rfl,_,_,rfl,lX k1 k2 k3,_,_,rfl,lX v1 v2 v3,rfl⟩
  ·cases he
 ·cases he
theorem g8(w:World)(dT sT ty elem:TypeId)(sz g o Xx aeF:Nat)(a:Addr)(Xy aeG:Nat)(cur:Array Value)(t:TypeId)(cs:List Value) (hu:P.underlying dT=some (.slice elem)) (hs:(P.info? elem).map (·.size)=some sz) (hg:w.heap[g]? = some (.cells cur t (0,0))) (hn:cs.length=Nat.min Xy Xx*sz) (wW:∀(j:Nat) v,cs[j]? = some v→w.cell? (a.add j)=some v) (Nv:o+cs.length≤cur.size) (h1:∀v∈cs,v.oneCell'=true) :
  (Builtin.copy_ #[dT,sT] ty #[.slice (some ⟨g,o,none⟩) Xx aeF,.slice (some a) Xy aeG]).run P w = .ok (goInt (Nat.min Xy Xx)) (w.setRow g (cur.toList.take o++cs++cur.toList.drop (o+cs.length)).toArray):=by
 have hl:=run_loadCells_list (P:=P) w a cs wW;have u6:=run_storeCells_at P g o t cs 0 cur w hg (by simpa using Nv) h1
 cases hq:P.info? elem with
 |none=>simp[hq]at hs
 |some i =>
  have hi:i.size=sz:=by simpa[hq] using hs
  simp only[Nat.add_zero]at u6;simp[Builtin.copy_,run_underlying hu,Builtin.lenOf,Builtin.firstCells,sizeOf,typeInfo,hq,hi,←hn,hl,u6]
theorem D9{e:TypeId}(h:Nj P e=true):P.underlying e=some (.int .u8):=by
 unfold Nj at h
 split at h
 ·assumption
 ·cases h
theorem Ub{ns:List Int}{vs:List Value}(h:ku Z w (.int .u8) ns vs)(hl:vs.length=ns.length):vs=ns.map (Value.int .u8):=by
 apply adQ;intro i;by_cases hi:i<ns.length
 ·have h1:=h i ns[i] (abv hi);have h1:(vs.drop (i*1)).take 1=[Value.int .u8 ns[i]]:=h1;have h2:=congrArg (·[0]?) h1;simp only[Nat.mul_one,List.getElem?_take,List.getElem?_drop,Nat.add_zero,Nat.zero_lt_one,if_true]at h2;rw[h2,List.getElem?_map,List.getElem?_eq_getElem hi];rfl
 ·rw[List.getElem?_eq_none (by omega),List.getElem?_eq_none (by simp;omega)]
theorem Uc(ns:List Int):ku Z w (.int .u8) ns (ns.map (Value.int .u8)):=fun i x hx=>by
 show((ns.map (Value.int .u8)).drop (i*1)).take 1=[Value.int .u8 x];obtain⟨hi,rfl⟩:=abr.1 hx;have:i<(ns.map (Value.int .u8)).length:=by rw[List.length_map];exact hi
 rw[Nat.mul_one,List.drop_eq_getElem_cons this];simp;rfl
theorem Ud{hh:Heap}(g:Good Z ψ h w B0 O)(ba:∀id o,hh.get id=some o→h id=some o){src dst e:TypeId}(hs:P.underlying src=some (.slice e))(he:Nj P e=true)(hd:P.underlying dst=some .string) {x:AV} {u:Value} {ns:List Int} (hx:rowOf hh x (.int .u8)=some ns) (hr:au Z ψ h w x u):(convert src dst u).run P w=.ok (.string (strOf ns)) w:=by
 obtain⟨news,⟨h1,_,hu⟩,hv⟩:=vc (g.sub ba) hx (hr.nM ba);have JB:=D9 he;have h1:news.length=ns.length*1:=h1;rw[Nat.mul_one]at h1;have hn:=Ub hv h1;rcases hu with⟨rfl,h0⟩|⟨a,c,rfl,h2⟩
 ·have:ns=[]:=ace h0;subst this;rw[run_convert_bytes_string w src dst e none 0 0 hs JB hd];rfl
 ·rw[run_convert_bytes_string w src dst e _ _ _ hs JB hd];refine run_bytesToString w a ns.length c ns ?_;have:=run_loadCells_list (P:=P) w a news h2;rw[h1,hn]at this;exact this
theorem bytesOf_length(s:ByteArray):(bytesOf s).length=s.size:=by unfold bytesOf;rw[List.length_map,Array.length_toList];rfl
theorem AZ(s:ByteArray):Lib.strCells s=(bytesOf s).map (Value.int .u8):=by simp[Lib.strCells,bytesOf,Function.comp_def]
theorem Nw(g:Good Z ψ h w B0 O)(hB:B0≤w.heap.size){src dst e:TypeId}(hs:P.underlying src=some .string)(hd:P.underlying dst=some (.slice e))(he:Nj P e=true)(s:ByteArray) :
  ∃V w' Z',(convert src dst (.string s)).run P w=.ok V w'∧Next Z ψ h w B0 O N Z' ψ h w'∧au Z' ψ h w' (.sl false (.int .u8) (bytesOf s)) V:=by
 have JB:=D9 he
 let cells:Array Value:=s.data.map (fun b=>Value.int .u8 (b.toNat:Int))++Array.replicate (grownCap w s.size 0 e-s.size) (.int .u8 0)
 let w1:=w.drew.alloc (.cells cells e)
 have hg1:w1.heap[w.heap.size]? = some (.cells cells e (0,0)):=heap_alloc_new w.drew _;have hsh:w1.shape? w.heap.size=some (e,cells.size):=by simp[World.shape?,hg1]
 let w2:=w1.freeze ⟨w.heap.size,cells.size,none⟩ 1
 have cJ:(convert src dst (.string s)).run P w=.ok (.slice (some ⟨w.heap.size,0,none⟩) s.size (grownCap w s.size 0 e)) w2:=by
  have e1:(newRow e cells).run P w.drew=.ok ⟨w.heap.size,0,none⟩ w1:=by simp[newRow,w1]
  have e2:(markStringish ⟨w.heap.size,0,none⟩).run P w1=.ok () w2:=by simp[markStringish,hsh,w2]
  simp only[convert,Sem.run_bind,run_underlying hs,run_underlying hd,run_underlying JB,Result.andThen_ok,Conv.stringToBytes,run_choose_drew];have e0:(Question.appendCap s.size 0 e).forced=false:=by simp[Question.forced]
  simp only[e0,Bool.false_eq_true,if_false,Result.andThen_ok];show((newRow e cells).run P w.drew).andThen _=_;rw[e1];simp only[Result.andThen_ok,e2];rfl
 have gE:w2.heap.size=w.heap.size+1:=by simp[w2,World.freeze,w1,World.alloc]
 have hold:∀b,b<w.heap.size→w2.heap[b]? = w.heap[b]? := fun b hb=>by
  have h1:w1.heap[b]? = w.heap[b]? := heap_alloc_old w.drew _ hb;have h2:w2.heap[b]? = w1.heap[b]? := by simp only[w2,World.freeze,if_neg (show ¬(1=0) by decide),Array.getElem?_modify];rw[if_neg (by omega)]
  rw[h2,h1]
 have vf:∃f,w2.heap[w.heap.size]? = some (.cells cells e f):=by simp only[w2,World.freeze,if_neg (show ¬(1=0) by decide),Array.getElem?_modify,if_true,hg1,Option.map_some];exact⟨_,rfl⟩
 have kk:cE ψ h w w2:=⟨rfl,rfl,rfl,by omega,fun b hb _=>hold b hb⟩;have m:Next Z ψ h w B0 O (fun _=>False) Z ψ h w2:=g.more kk (fun b hb=>hold b (g.bF hb)) (fun _ _=>⟨rfl,rfl⟩) (fun i ty cs hb=>by
  have e:(fun _:Nat=>¬False)=fun _=>True:=by funext i;simp
  rw[e];exact av.top cs) (fun _ _ _ h=>h.elim) (fun _ _ _ h=>h.elim) (fun _ _ h=>h.elim) (fun _ _ _ h=>h.elim) hB
 have hz:∀b,Z b→Z b∨b=w.heap.size:=fun b h=>.inl h;refine⟨_,w2,fun b=>Z b∨b=w.heap.size,cJ,⟨hz,fun b hb=>hb.imp (fun h=>h) fun h=>.inr (by omega),m.keep,fun i hi=>.inl ((m.ids i hi).resolve_right (fun h=>h)),⟨fun i ty cs hb=>?_,fun i ok x hb=>?_,fun i b h1 h2=>?_,m.da.apart,fun b hb=>?_⟩⟩,?_⟩
 ·obtain⟨gg,vs,f1,f2,f3,f4⟩:=m.da.box i ty cs hb;exact⟨gg,vs,f1,f2,an.less hz (cj.refl _ _) (fun _ h=>⟨h,rfl⟩) f3,f4⟩
 ·exact(m.da.row i ok x hb).kept hz (cj.refl _ _) (fun _ _=>rfl)
 ·obtain⟨k1,k2⟩:=m.da.live i b h1 h2;refine⟨fun hb=>hb.elim k1 fun hb=>?_,k2⟩;have:=g.bF ⟨i,h1,h2⟩;omega
 ·rcases hb with hb|hb
  ·exact m.da.jO b hb
  ·omega
 ·simp only[au];obtain⟨f,hf⟩:=vf;have TB:=grownCap_ge w s.size 0 e;refine⟨⟨_,rfl,some ⟨w.heap.size,0,none⟩,grownCap w s.size 0 e,congrArg (fun n=>Value.slice _ n _) (bytesOf_length s).symm,(show List.length (α:=Int) (bytesOf s)≤_ by rw[bytesOf_length];exact TB),fun h=>(by cases h),fun i x hx=>?_⟩,fun h=>(by cases h)⟩;refine⟨_,[.int .u8 x],rfl,.inr rfl,rfl,fun j u hu=>?_⟩
  cases j with
  |succ j=>simp at hu
  |zero =>
   simp only[List.getElem?_cons_zero,Option.some.injEq]at hu;subst hu;rw[cw];simp only[World.cell?,hf];have T6:(bytesOf s)[i]? = some x:=hx;obtain⟨hi,rfl⟩:=abr.1 T6;have hi2:i<s.data.size:=by rw[bytesOf_length]at hi;exact hi
   show cells[0+(i*1+0)]? = _;simp only[Nat.zero_add,Nat.mul_one,Nat.add_zero,cells];rw[Array.getElem?_append_left (by simpa using hi2)];simp[bytesOf,Array.getElem?_eq_getElem hi2]
theorem Nx{e:TypeId}(h:Xl P e=true):∃i,P.info? e=some i∧i.zero=some (.int .u8 0)∧i.size=1∧i.bytes=1:=by
 unfold Xl at h
 split at h
 ·rename_i i hi;simp only[Bool.and_eq_true,decide_eq_true_eq]at h;obtain⟨⟨h1,h2⟩,h3⟩:=h
  split at h3
  ·rename_i n hz;simp only[decide_eq_true_eq]at h3;subst h3;exact⟨i,hi,hz,h1,h2⟩
  ·cases h3
 ·cases h
theorem Dd{hh:Heap}(g:Good Z ψ h w B0 O)(hB:B0≤w.heap.size)(ba:∀id o,hh.get id=some o→h id=some o){id:Nat}(hN:N id){t t' ty:TypeId}{s:AV}{u:Value}{b:ByteArray}{e:bq} (ht':P.underlying t'=some .string) (hs:au Z ψ h w s u) (A1:aD (fun i=>¬N i) s) (GL:∀i ty cs,h i=some (.box ty cs)→av (fun i=>i≠id) cs) (lZ:∀v hw,e=.wr v hw→hh.get=h) (he:lE P hh id t s b some=some e) :
  ∃V w' ψ',(Builtin.append_ #[t,t'] ty #[u,.string b]).run P w=.ok V w'∧Next Z ψ h w B0 O N Z ψ' (e.hp h) w'∧au Z ψ' (e.hp h) w' e.v V:=by
 unfold lE at he
 split at he
 rotate_left
 ·cases he
 rename_i et cQ het
 split at he
 rotate_left
 ·cases he
 rename_i hu8;obtain⟨i,hi,hz,gE,hby⟩:=Nx hu8
 split at he
 rotate_left
 ·cases he
 rename_i e' k' xs hg
 split at he
 rotate_left
 ·cases he
 rename_i hc;obtain⟨rfl,rfl⟩:=hc
 cases nN:(!xs.isEmpty&&bJ xs.length b.size) with
 |false=>rw[nN]at he;cases he
 |true =>
  rw[nN]at he;cases he;simp only[Bool.and_eq_true,bJ,decide_eq_true_eq,Bool.not_eq_true',List.isEmpty_eq_false_iff]at nN;obtain⟨aW,Nv⟩:=nN;have Da:=List.length_pos_iff.2 aW;have heq:=lZ _ _ rfl;have wH:=ba _ _ hg;simp only[au]at hs;have hu:=hs.2 (by rw[wH];simp);subst hu;simp only[aD]at A1;have ht:=fF het;obtain⟨vs,T4,T2⟩:=g.row cQ (.row e' (.int .u8)) xs wH;have hold:h cQ≠none:=by rw[wH];simp
  unfold eE at Nv;rcases T4.2 with⟨h0,_⟩|⟨gg,cap,cur,hv,PQ,h4,h5,h6,h7,h8⟩
  ·omega
  have ot:w.ownsRow 0 e' 1 (ψ cQ) xs.length vs:=⟨T4.1,.inr ⟨gg,cap,cur,hv,adO _,h4,h5,h6,h7,h8⟩⟩;obtain⟨V,w',cJ,k1,k2,k3⟩:=Lib.run_append_own_string (P:=P) w 0 t t' ty e' i ht ht' hi hz gE hby _ _ vs ot b (by simp only[maxLen];omega) (by omega) (adO _);have la:ob (ψ cQ)=some gg:=by rw[hv];simp only[ob];rw[if_neg (by omega)]
  have Y6:w.grownBy w' (ob (ψ cQ)):=by rw[la];rw[hv]at k2;exact k2
  have GK:dx w' e' 1 V (xs.length+b.size) (vs++Lib.strCells b):=dx.of k1;have vf:ob V=ob (ψ cQ)∨∀c,ob V=some c→w.heap.size≤c:=by
   by_cases db:xs.length+b.size≤cap
   ·have hr:=Lib.run_append_room_string (P:=P) w t t' ty e' i ht ht' hi gE gg xs.length cap cur h4 b db (by have:cur.size=cap*1:=h7;omega);rw[hv]at cJ
    cases cJ.symm.trans hr
    left;rw[la];simp only[ob];rw[if_neg (by omega)]
   ·have ug:vs.length=xs.length*1:=T4.1;have hr:=Lib.run_append_grow_string (P:=P) w t t' ty e' i (.int .u8 0) ht ht' hi hz ⟨gg,0,none⟩ xs.length cap vs (by rw[gE];exact ug) (ot.cells (g:=gg) (by rw[hv];rfl)) b (by omega) (by omega) (by rw[hby];exact growslice_fits (by omega) (by omega));rw[hv]at cJ
    cases cJ.symm.trans hr
    right;intro c hc;simp only[ob]at hc;split at hc<;>cases hc;exact acn _
  have kk:cE ψ h w w':=cE.grown Y6 (fun b e=>⟨cQ,hold,e⟩);have sm:=kk.same g;have mR:jr Z w' (.row e' (.int .u8)) V (qR xs b):=⟨vs++Lib.strCells b,by
   have e9:List.length (α:=Int) (qR xs b)=List.length (α:=Int) xs+b.size:=(List.length_append (as:=(show List Int from xs)) (bs:=bytesOf b)).trans (by rw[bytesOf_length]);show dx w' e' 1 V (List.length (α:=Int) (qR xs b)) _;rw[e9];exact GK,by
   rw[AZ];exact(T2.append (Uc (bytesOf b)) T4.1).AK sm⟩
  refine⟨V,w',dO ψ id V,cJ,?_,?_⟩
  ·simp only[bq.hp];rw[kg,sd,heq];exact mX g hB id cQ hN wH (fun e=>A1 (by rw[e];exact hN)) Y6 (ok:=.row e' (.int .u8)) mR vf GL
  ·simp only[bq.v,bq.hp,au];exact⟨GK.one,fun _=>(aU _ _ _).symm⟩
theorem Hi(g:Good Z ψ h w B0 O)(hB:B0≤w.heap.size){id:Nat}(hN:N id){t:TypeId}{l c:AV}{u v:Value}{e:bq}(hl:au Z ψ h w l u)(hc:au Z ψ h w c v) (GL:∀i ty cs,h i=some (.box ty cs)→av (fun i=>i≠id) cs) (he:rR P id t l c some=some e) :
  ∃V w' ψ',(Instr.makeSlice t u v).run P w=.ok V w'∧Next Z ψ h w B0 O N Z ψ' (e.hp h) w'∧au Z ψ' (e.hp h) w' e.v V:=by
 unfold rR at he
 split at he
 rotate_left
 ·cases he
 rename_i et n m het
 split at he
 rotate_left
 ·cases he
 rename_i kk hk
 split at he
 rotate_left
 ·cases he
 rename_i ki;simp only[Bool.and_eq_true]at ki;obtain⟨ki,hz⟩:=ki
 cases P1:(decide (0≤n)&&(decide (n≤(eE:Int))&&decide (m=n))) with
 |false=>rw[P1]at he;cases he
 |true =>
  rw[P1]at he;cases he;simp only[Bool.and_eq_true,decide_eq_true_eq]at P1;obtain⟨h0,h1,rfl⟩:=P1;simp only[au]at hl hc;subst hl;subst hc;obtain⟨q,rfl⟩:∃q:Nat,m=(q:Int):=⟨m.toNat,by omega⟩;have hq:q≤eE:=by omega
  obtain⟨i,z,wJ⟩:=b7 ki;obtain⟨z',ve,zG,_⟩:=AU (Z:=Z) (w:=w) hz;have Xr:z'=z:=by have:=ri (P:=P) (w:=w) wJ.info wJ.zero;rw[this]at ve;cases ve;rfl
  subst Xr;have hb:=wJ.bytes;unfold eE at hq;have hby:i.bytes*q≤281474976710656:=acB (aeh hb hq) (by decide);have ht:=fF het;obtain⟨w',cJ,k1,k2⟩:=run_make_full (P:=P) w 0 t et i z' kk.sz ht wJ.info wJ.zero wJ.size .i64 .i64 q hby (by simp only[maxLen];omega) (adO _);have kk2:cE ψ h w w':=cE.grown k2 (fun b e=>by cases e);have hv:ku Z w' kk (List.replicate q (lR kk)) (madeCells z'.cells (q*kk.sz)).toList:=fun i x hx=>by
   obtain⟨hi,rfl⟩:=abr.1 hx;rw[List.length_replicate]at hi;rw[List.getElem_replicate];have LQ:=wJ.u9;refine aB.oo ?_ (zG.mono (fun _ h=>h) (kk2.same g));have hmul:i*kk.sz+kk.sz≤q*kk.sz:=by rw[←Nat.succ_mul];exact acs _ hi
   have Da:=kk.gh;apply adQ;intro j;rw[List.getElem?_take,List.getElem?_drop];by_cases hj:j<kk.sz
   ·rw[if_pos hj];have aF:i*kk.sz+j<q*kk.sz:=by omega
    simp only[madeCells,Array.getElem?_toList,Array.getElem?_map,Array.getElem?_range,aF,if_true,Option.map_some];rw[LQ,show(i*kk.sz+j)%kk.sz=j by rw[Nat.add_comm,Nat.add_mul_mod_self_right,Nat.mod_eq_of_lt hj],getElem!_pos z'.cells j (by omega),Array.getElem?_eq_getElem (by omega)]
   ·rw[if_neg hj,List.getElem?_eq_none (by simp;omega)]
  refine⟨_,w',dO ψ id (.slice (some ⟨w.heap.size,0,none⟩) q q),cJ,?_,?_⟩
  ·simp only[bq.hp];rw[gj];refine oq g hB id et hN kk2 (fun b hb=>k2.block b (g.bF hb) (by simp)) (vs:=(madeCells z'.cells (q*kk.sz)).toList) (by rw[Int.toNat_natCast,List.length_replicate];exact dx.of k1) (by rw[Int.toNat_natCast];exact hv) (fun b hb=>?_) GL;simp only[ob]at hb;split at hb<;>cases hb;exact acn _
  ·simp only[bq.v,bq.hp,au];exact⟨(dx.of k1).one,fun _=>(aU _ _ _).symm⟩
theorem A2{hh:Heap}(g:Good Z ψ hh.get w B0 O){t t' ty:TypeId}{d s:AV}{u v:Value}{e:bq}(hd:au Z ψ hh.get w d u)(hs:au Z ψ hh.get w s v)(he:wO P hh t d s some=some e) :
  ∃n hw w',e=.wr (.int .i64 n) hw∧(Builtin.copy_ #[t,t'] ty #[u,v]).run P w=.ok (.int .i64 n) w'∧Next Z ψ hh.get w B0 O N Z ψ hw.get w':=by
 unfold wO at he
 split at he
 rotate_left
 ·cases he
 rename_i et id het
 split at he
 rotate_left
 ·cases he
 rename_i e' k xs hg
 split at he
 rotate_left
 ·cases he
 rename_i ys J4
 split at he
 rotate_left
 ·cases he
 rename_i hc;obtain⟨rfl,ki⟩:=hc
 cases aW:xs.isEmpty with
 |true=>rw[aW]at he;cases he
 |false =>
  rw[aW]at he;cases he;obtain⟨i,z,wJ⟩:=b7 ki;have ht:=fF het;have Da:=List.length_pos_iff.2 (List.isEmpty_eq_false_iff.1 aW);have gE:=k.gh;simp only[au]at hd;have hu:=hd.2 (by rw[hg];simp);subst hu;obtain⟨vs,ho,hv⟩:=g.row id (.row e' k) xs hg;obtain⟨hvl,ZI⟩:=ho;rcases ZI with⟨h0,_⟩|⟨gg,cap,cur,e1,e2,e3,e4,e5,e6,e7⟩
  ·omega
  have br:hh.get id≠none:=by rw[hg];simp
  have la:ob (ψ id)=some gg:=by rw[e1];simp only[ob];rw[if_neg (by omega)]
  obtain⟨news,⟨n1,n2,n3⟩,nv⟩:=vc g J4 hs;have PQ:xs.length*k.sz≤cap*k.sz:=acs _ e4;have rh:cur.toList.length=cap*k.sz:=by rw[Array.length_toList];exact e6
  rcases n3 with⟨rfl,n0⟩|⟨a,c,rfl,n4⟩
  ·have:ys=[]:=ace n0;subst this;have hr:=run_copy_nil (P:=P) w t t' ty e' ⟨gg,0,none⟩ xs.length cap ht (by simp[wJ.info]);refine⟨0,_,w,rfl,by rw[e1];exact hr,?_⟩;have e9:(hh.set id (.own (.row e' k) xs)).get=hh.get:=by
    funext j;by_cases hj:j=id
    ·subst hj;rw[Heap.uZ,hg]
    ·rw[Heap.AD hj]
   have e8:mV ([]:List k.T) xs=xs:=by simp[mV]
   rw[e8,e9];exact Next.refl g
  ·let m:=Nat.min ys.length xs.length
   have hmy:m≤ys.length:=Nat.min_le_left _ _;have hmx:m≤xs.length:=Nat.min_le_right _ _;have ajw:m*k.sz≤ys.length*k.sz:=acs _ hmy;have ajx:m*k.sz≤xs.length*k.sz:=acs _ hmx
   let cs:=news.take (m*k.sz)
   have Fq:cs.length=m*k.sz:=by simp only[cs,List.length_take];omega
   have hr:=g8 (P:=P) w t t' ty e' k.sz gg 0 xs.length cap a ys.length c cur e' cs ht (by simp[wJ.info,wJ.size]) e3 Fq (fun j q hq=>n4 j q (by
    simp only[cs,List.getElem?_take]at hq
    split at hq
    ·exact hq
    ·cases hq)) (by rw[Fq,e6];omega) (fun q hq=>n2 q (ad2 hq))
   have aeJ:((m:Nat):Int)=min (ys.length:Int) (xs.length:Int):=by show((min ys.length (List.length (α:=k.T) xs):Nat):Int)=min (ys.length:Int) ((List.length (α:=k.T) xs:Nat):Int);omega
   have T0:mV ys xs=ys.take m++xs.drop m:=by
    unfold mV;rcases Nat.le_total ys.length xs.length with h1|h1
    ·have:m=ys.length:=Nat.min_eq_left h1;rw[this,List.take_of_length_le h1,List.take_of_length_le (Nat.le_refl _)]
    ·have:m=xs.length:=Nat.min_eq_right h1;rw[this,List.drop_eq_nil_of_le h1,List.drop_eq_nil_of_le (Nat.le_refl _)]
   have hlen:(ys.take m++xs.drop m).length=xs.length:=by rw[List.length_append,List.length_take,List.length_drop];omega
   refine⟨_,_,_,rfl,by rw[e1,←aeJ];exact hr,?_⟩;have ot:Own ψ hh.get gg:=⟨id,br,la⟩;have hk:=cE.setRow (w:=w) ot ((cur.toList.take 0++cs++cur.toList.drop (0+cs.length)).toArray);have sm:=hk.same g;rw[kg];refine g.write id br hk (fun b hb _=>setRow_other _ (fun e=>hb (by rw[la,e]))) _ (fun _ _ he=>by cases he) (fun TU x' he=>?_)
   cases he
   let fV:=cur.toList.take 0++cs++cur.toList.drop (0+cs.length)
   have Db:fV.length=cap*k.sz:=by simp only[fV,List.length_append,List.length_take,List.length_drop,rh,Fq];omega
   have js:fV.take (xs.length*k.sz)=cs++vs.drop (m*k.sz):=by simp only[fV,List.take_zero,List.nil_append,Nat.zero_add];rw[List.take_append,List.take_of_length_le (by omega),Fq,←e7,List.drop_take]
   rw[T0];refine⟨fV.take (xs.length*k.sz),⟨by rw[List.length_take,Db,hlen];omega,.inr ⟨gg,cap,fV.toArray,by rw[hlen];exact e1,e2,setRow_heap w gg cur _ e' _ e3,by rw[hlen];exact e4,e5,by simpa using Db,by rw[hlen]⟩⟩,?_⟩;rw[js];refine ku.AK (ku.append (fun i x hx=>?_) (fun i x hx=>?_) (by rw[Fq,List.length_take,Nat.min_eq_left hmy])) sm
   ·obtain⟨hi,ZJ⟩:=abr.1 hx;rw[List.length_take]at hi;have him:i<m:=by omega
    have h9:i*k.sz+k.sz≤m*k.sz:=by rw[←Nat.succ_mul];exact acs _ him
    rw[List.getElem?_take,if_pos him]at hx;refine aB.oo ?_ (nv i x hx);simp only[cs];rw[List.drop_take,List.take_take,Nat.min_eq_left (by omega)]
   ·rw[List.getElem?_drop]at hx;refine aB.oo ?_ (hv _ x hx);rw[List.drop_drop,Nat.add_mul]
mutual
theorem aD.imp{p q:Nat→Prop}(zo:∀i,p i→q i):∀{a:AV},aD p a→aD q a
 |.no,_=>by simp only[aD]
 |.bool b,_=>by simp only[aD]
 |.int k n,_=>by simp only[aD]
 |.str s,_=>by simp only[aD]
 |.lq,_=>by simp only[aD]
 |.fm,_=>by simp only[aD]
 |.ref id s i off,h=>by simp only[aD]at h ⊢;exact zo _ h
 |.fp k x off,_=>by simp only[aD]
 |.sl ex k xs,_=>by simp only[aD]
 |.mp kk vk es,_=>by simp only[aD]
 |.bC id,h=>by simp only[aD]at h ⊢;exact zo _ h
 |.fn f cap,h=>by simp only[aD]at h ⊢;exact av.imp zo h
 |.agg cs,h=>by simp only[aD]at h ⊢;exact av.imp zo h
 |.nF cs,h=>by simp only[aD]at h ⊢;exact av.imp zo h
theorem av.imp{p q:Nat→Prop}(zo:∀i,p i→q i):∀{a:List AV},av p a→av q a
 |[],_=>by simp only[av]
 |a::r,h=>by simp only[av]at h ⊢;exact⟨aD.imp zo h.1,av.imp zo h.2⟩
end
theorem aD.cells{p:Nat→Prop}{a:AV}(h:aD p a):av p a.cells:=by
 cases a with
 |agg cs=>simpa only[AV.cells,aD] using h
 |_=>simp only[AV.cells,av];exact⟨h,trivial⟩
theorem A3:∀{cs:List AV},GU cs=true→∀id,AV.bC id∉cs
 |[],_,id=>by simp
 |c::r,hn,id=>by
  intro hm
  cases c with
  |bC i=>simp[GU]at hn
  |_ =>
   simp only[GU]at hn;rcases abw.1 hm with e|hm
   ·cases e
   ·exact A3 hn id hm
theorem rj:∀{vs:List AV},qT vs=true→∀v∈vs,∀id,AV.bC id∉v.cells
 |[],_,v,hv=>by simp at hv
 |a::r,hn,v,hv=>by
  simp only[qT,Bool.and_eq_true]at hn;rcases abw.1 hv with rfl|hv
  ·exact A3 hn.1
  ·exact rj hn.2 v hv
def vm(o:Oper):Bool :=match o.op with
 |.call { callee:=.value _,.. }=>true
 |_=>false
theorem J5{s:List (Nat×AV)}{ρC:Operand→Value}{x:Option Operand}(hx:∀y,x=some y→au Z ψ h w (ρ s y) (ρC y)):dY Z ψ h w (x.map (ρ s)) (x.map ρC):=by
 cases x with
 |none=>trivial
 |some y=>exact hx y rfl
theorem A4{s:List (Nat×AV)}{ρC:Operand→Value}:∀(ps:List (Nat×Operand)),(∀p∈ps,au Z ψ h w (ρ s p.2) (ρC p.2))→(∀p∈ps,ρ s p.2≠.no)→tB Z ψ h w (ps.map fun p=>(p.1,ρ s p.2)) (ps.map fun p=>(p.1,ρC p.2))
 |[],_,_=>trivial
 |p::r,h1,h2=>⟨rfl,h2 p (by simp),h1 p (by simp),A4 r (fun q hq=>h1 q (abq _ hq)) (fun q hq=>h2 q (abq _ hq))⟩
theorem Ea{k:K}{hh:Heap}:∀{ps:List (Nat×AV)} {i:Nat} {xs:List k.T},qX k hh i ps=some xs→∀p∈ps,p.2≠.no
 |[],_,_,_,p,hp=>by simp at hp
 |(j,v)::r,i,xs,hl,p,hp=>by
  simp only[qX]at hl
  split at hl
  ·split at hl
   ·rename_i x ys h1 h2;rcases abw.1 hp with rfl|hp
    ·exact D5 h1
    ·exact Ea h2 p hp
   ·cases hl
  ·cases hl
theorem Xz{α:Type}{l:List α}(h:l.length=0+1+1):∃x y,l=[x,y]:=by
 cases l with
 |nil=>simp at h
 |cons a r=>cases r with
  |nil=>simp at h
  |cons b s=>cases s with
   |nil=>exact⟨a,b,rfl⟩
   |cons c q=>simp at h
theorem J6{a:AV}(h:VR a=true):a≠.no:=by rintro rfl;cases h
section
variable {Eqs:TypeId→Option K} {Sg:FuncId→Option aO} {F:(f:FuncId)→(g:aO)→g.A→Option g.B}
theorem Fw{hh:Heap}{ρC:Operand→Value}{o:Oper}(g:Good Z ψ h w B0 O)(hB:B0≤w.heap.size)(ba:∀id o,hh.get id=some o→h id=some o){id:Nat}(hN:N id){t:TypeId}{s x:AV}{u v:Value}{e:bq} (hs:au Z ψ h w s u) (hx:au Z ψ h w x v) (A1:aD (fun i=>¬N i) s) (aX:∀i ty cs,h i=some (.box ty cs)→av (fun i=>¬N i) cs) (lZ:∀v hw,e=.wr v hw→hh.get=h) (he:n6 P hh id t s x some=some e) (cJ:∀V w',(Builtin.append_ #[t,t] o.type #[u,v]).run P w=.ok V w'→(execOp ρC o).run P w=.ok (.value V) w'):gT P ρC o Z ψ h w B0 O N e:=by
 have GL:∀i ty cs,h i=some (.box ty cs)→av (fun i=>i≠id) cs:=fun i ty cs hb=>(aX i ty cs hb).imp (fun j hj e=>hj (by rw[e];exact hN));unfold n6 at he
 split at he
 ·cases he
 ·rename_i et het;have ht:=fF het
  split at he
  ·cases he
  ·rename_i kk Ue
   split at he
   ·rename_i ys J4 ki;obtain⟨inf,z,wJ⟩:=b7 ki
    split at he
    ·
     cases hc:bJ 0 ys.length with
     |false=>rw[hc]at he;cases he
     |true =>rw[hc]at he;cases he;simp only[bJ,decide_eq_true_eq]at hc;simp only[au]at hs;subst hs;obtain⟨V,w',h1,h2,h3⟩:=qn (P:=P) (ty:=o.type) g ba hB hN ht wJ J4 hx (by omega) GL;refine⟨V,w',Z,_,.inl (cJ V w' h1),by simp only[bq.hp];rw[gj];exact h2,?_⟩;simp only[bq.v,bq.hp,au];exact⟨h3,fun _=>(aU _ _ _).symm⟩
    ·
     rename_i cQ
     split at he
     ·rename_i e' k' xs hg
      split at he
      ·rename_i hc;obtain⟨rfl,rfl⟩:=hc
       cases nN:bJ xs.length ys.length with
       |false=>rw[nN]at he;cases he
       |true =>rw[nN]at he;cases he;simp only[bJ,decide_eq_true_eq]at nN;have heq:=lZ _ _ rfl;have wH:=ba _ _ hg;simp only[au]at hs;have hu:=hs.2 (by rw[wH];simp);subst hu;simp only[aD]at A1;obtain⟨V,w',h1,h2,h3⟩:=zk (P:=P) (ty:=o.type) g ba hB hN (fun e=>A1 (by rw[e];exact hN)) ht wJ wH J4 hx nN GL;refine⟨V,w',Z,_,.inl (cJ V w' h1),by simp only[bq.hp];rw[kg,sd,heq];exact h2,?_⟩;simp only[bq.v,bq.hp,au];exact⟨h3,fun _=>(aU _ _ _).symm⟩
      ·cases he
     ·cases he
    ·
     rename_i ex k' xs
     split at he
     ·rename_i hc;subst hc
      cases nN:(ex&&((!ys.isEmpty || xs.isEmpty)&&bJ xs.length ys.length)) with
      |false=>rw[nN]at he;cases he
      |true =>rw[nN]at he;cases he;simp only[Bool.and_eq_true,Bool.or_eq_true,bJ,decide_eq_true_eq,Bool.not_eq_true',List.isEmpty_eq_false_iff,List.isEmpty_iff]at nN;obtain⟨rfl,aW,Nv⟩:=nN;obtain⟨V,w',h1,h2,h3⟩:=AL (P:=P) (ty:=o.type) g ba hB hN ht wJ hs J4 hx (aW.imp List.length_pos_iff.2 (fun h=>h)) Nv GL;refine⟨V,w',Z,_,.inl (cJ V w' h1),by simp only[bq.hp];rw[gj];exact h2,?_⟩;simp only[bq.v,bq.hp,au];exact⟨h3,fun _=>(aU _ _ _).symm⟩
     ·cases he
    ·cases he
   ·cases he
theorem A5{ρC:Operand→Value}{o:Oper}(g:Good Z ψ h w B0 O)(hB:B0≤w.heap.size){id:Nat}(hN:N id){t:TypeId}{vs:List AV}{us:Array Value}{e:bq}(hr:an Z ψ h w vs us.toList)(h1:∀u∈us.toList,u.oneCell'=true) (hm:av (fun i=>¬N i) vs) (aX:∀i ty cs,h i=some (.box ty cs)→av (fun i=>¬N i) cs) (he:wU id t vs some=some e) (cJ:(execOp ρC o).run P w=.ok (.value (.pointer (some ⟨w.heap.size,0,none⟩))) (w.alloc (.cells us t))):gT P ρC o Z ψ h w B0 O N e:=by
 unfold wU at he
 cases he
 have aW:∀i,¬N i→i≠id:=fun j hj e=>hj (by rw[e];exact hN);have n:=AH (N:=N) g hB id t hN hr h1 (fun i ty cs hb=>(aX i ty cs hb).imp aW) (hm.imp aW);refine⟨_,_,Z,_,.inl cJ,by simp only[bq.hp];rw[gj];exact n,?_⟩;simp only[bq.v,bq.hp,au];exact⟨_,rfl,fun _=>by rw[aU];simp[TX]⟩
theorem Ny{hh:Heap}{ρC:Operand→Value}{s:List (Nat×AV)}{o:Oper}(g:Good Z ψ h w B0 O)(hB:B0≤w.heap.size)(ba:∀id o,hh.get id=some o→h id=some o){id:Nat}(hN:N id){t:TypeId}{n:Nat}{ps:Array (Nat×Operand)}{e:bq} (m0:∀p∈ps.toList,au Z ψ h w (ρ s p.2) (ρC p.2)) (aX:∀i ty cs,h i=some (.box ty cs)→av (fun i=>¬N i) cs) (kY:Bool) {e0:bq} (Uf:e=if kY then TW e0 else e0) (lZ:∀v hw,e=.wr v hw→hh.get=h) (he:uU P hh id t n (ps.toList.map fun p=>(p.1,ρ s p.2)) some=some e0)
  (cJ:∀V w',(Instr.buildSlice t n (ps.map fun p=>(p.1,ρC p.2))).run P w=.ok V w'→(execOp ρC o).run P w=.ok (.value V) w'):gT P ρC o Z ψ h w B0 O N e:=by
 have GL:∀i ty cs,h i=some (.box ty cs)→av (fun i=>i≠id) cs:=fun i ty cs hb=>(aX i ty cs hb).imp (fun j hj e=>hj (by rw[e];exact hN));unfold uU at he
 split at he
 ·cases he
 ·rename_i et het;have ht:=fF het
  split at he
  ·cases he
  ·rename_i k hk
   split at he
   ·cases he
   ·cases he
   ·rename_i xs mR ki;obtain⟨inf,z,wJ⟩:=b7 ki;have J7:=A4 (Z:=Z) (ψ:=ψ) (h:=h) (w:=w) ps.toList m0 (fun p hp=>Ea mR (p.1,ρ s p.2) (acx.2 ⟨p,hp,rfl⟩));have LR:tB Z ψ hh.get w (ps.toList.map fun p=>(p.1,ρ s p.2)) (ps.map fun p=>(p.1,ρC p.2)).toList:=by rw[Array.toList_map];exact J7.nM ba
    split at he
    ·rename_i hc;obtain⟨rfl,hn⟩:=hc
     cases qG:qT ((ps.toList.map fun p=>(p.1,ρ s p.2)).map (·.2)) with
     |true =>
      rw[qG]at he;cases he;have aeK:=rj qG;obtain⟨V,w',h1,h2,h3⟩:=G6 (P:=P) (N:=N) g (g.sub ba) (fun _ h=>h) hB hN ht wJ (fun p hp i b hm=>absurd hm (aeK p.2 (acx.2 ⟨p,hp,rfl⟩) i)) LR mR hn GL
      cases kY with
      |false =>have Uf:e=.new (.bC id) [(id,.own (.row et k) xs)]:=Uf;subst Uf;refine⟨V,w',Z,_,.inl (cJ V w' h1),by simp only[bq.hp];rw[gj];exact h2,?_⟩;simp only[bq.v,bq.hp,au];exact⟨h3.1,fun _=>(aU _ _ _).symm⟩
      |true =>
       have Uf:e=.new (.sl true k xs) []:=Uf;subst Uf;obtain⟨m1,m2⟩:=PS g hB h2 h3.2.1 h3.2.2.1 h3.2.2.2;have e1:(bq.new (.sl true k xs) []).hp h=h:=by funext i;simp[bq.hp,Heap.get]
       refine⟨V,w',_,_,.inl (cJ V w' h1),by rw[e1];exact m1,?_⟩;rw[e1];exact m2
     |false =>
      rw[qG]at he;cases he;have Uf:e=.wr (.bC id) ((id,.own (.row et k) xs)::cC hh ((ps.toList.map fun p=>(p.1,ρ s p.2)).flatMap (·.2.cells))):=by rw[Uf];cases kY<;>rfl
      subst Uf;have heq:=lZ _ _ rfl;subst heq
      let cs:=(ps.toList.map fun p=>(p.1,ρ s p.2)).flatMap (·.2.cells)
      have gd:=iK g cs;obtain⟨V,w',h1,h2,h3⟩:=G6 (P:=P) (N:=N) gd g (fun b hb=>.inl hb) hB hN ht wJ (fun p hp i b hm aW hb=>.inr ⟨i,List.mem_flatMap.2 ⟨p,hp,hm⟩,aW,hb⟩) LR mR hn (fun i ty cs' hb=>GL i ty cs' (dW _ _ _ _ hb));refine⟨V,w',qM Z ψ hh.get cs,dO ψ id V,.inl (cJ V w' h1),?_,?_⟩
      ·simp only[bq.hp];rw[AQ];exact h2.drop (fun b hb=>.inl hb) (fun b hb=>hb.imp (fun h=>h) (fun⟨i,_,h5,h6⟩=>⟨i,h5,h6⟩)) (dW _ _)
      ·simp only[bq.v,bq.hp,au];exact⟨h3.1,fun _=>(aU _ _ _).symm⟩
    ·cases he
theorem Nz{kY:Bool}{h:Heap}{id:Nat}{t:TypeId}{n:Nat}{ps:List (Nat×AV)}{e:bq}(he:wV P kY h id t n ps some=some e):∃e0,uU P h id t n ps some=some e0∧e=if kY then TW e0 else e0:=by
 unfold wV uU at he;unfold uU
 split at he
 ·cases he
 split at he
 ·cases he
 split at he
 ·cases he
 ·cases he
 split at he
 ·rename_i hc;rw[if_pos hc]
  cases qG:qT (ps.map (·.2)) with
  |true=>rw[qG]at he;exact⟨_,rfl,(ab5 he).symm⟩
  |false=>rw[qG]at he;exact⟨_,rfl,(ab5 he).symm⟩
 ·cases he
theorem A6(p:Nat→Prop)(v:Value):aD p (wL v):=by
 cases v with
 |pointer a=>simp only[wL];split<;>simp only[aD]
 |slice a n c=>simp only[wL];split<;>simp only[aD]
 |func fn first cap =>
  cases fn with
  |func f=>simp only[wL];split<;>simp only[aD,av]
  |_=>simp only[wL,aD]
 |_=>simp only[wL,aD]
theorem w5(p:Nat→Prop):∀vs:List Value,av p (vs.map wL)
 |[]=>by simp[av]
 |v::r=>by simp only[List.map_cons,av];exact⟨A6 p v,w5 p r⟩
theorem NA(p:Nat→Prop)(v:Value):av p (tX v).cells:=by
 cases v with
 |agg cs=>simp only[tX,AV.cells];exact w5 p _
 |_=>simp only[tX];rw[D4];simp only[av];exact⟨A6 p _,trivial⟩
theorem P2(C2:∀t k,Eqs t=some k→l6 P t k){hh:Heap}{ρC:Operand→Value}{s:List (Nat×AV)}{o:Oper}(g:Good Z ψ h w B0 O)(hB:B0≤w.heap.size)(ba:∀id o,hh.get id=some o→h id=some o){id:Nat}(hN:makes o.op=true→N id){e:bq} (m0:∀x∈o.op.operands,au Z ψ h w (ρ s x) (ρC x)) (hm:∀x∈o.op.operands,aD (fun i=>¬N i) (ρ s x)) (aX:∀i ty cs,h i=some (.box ty cs)→av (fun i=>¬N i) cs) (lZ:∀v hw,e=.wr v hw→hh.get=h) (JH:vm o=false) (he:cI P Eqs Sg F id hh s o some=some e):gT P ρC o Z ψ h w B0 O N e:=by
 obtain⟨dst,op,type,pos,after,guard⟩:=o;have two:∀{a b:Operand},(∀x∈(#[a,b]:Array Operand),au Z ψ h w (ρ s x) (ρC x))→au Z ψ h w (ρ s a) (ρC a)∧au Z ψ h w (ρ s b) (ρC b):=fun hx=>⟨hx _ (by simp),hx _ (by simp)⟩
 cases op<;>simp only[cI]at he<;>simp only[Op.operands]at m0 hm<;>first|(cases he;done)|skip
 case move x=>cases he;exact gT.val g (V:=ρC x) (by simp[execOp]) (m0 x (by simp))
 case assign x=>cases he;exact gT.val g (V:=ρC x) (by simp[execOp]) (m0 x (by simp))
 case pick c a b =>
  have h1:=m0 c (by simp);have h2:=m0 a (by simp);have h3:=m0 b (by simp)
  split at he
  ·rename_i t ht
   cases he
   rw[ht]at h1;simp only[au]at h1;refine gT.val g (V:=if t then ρC a else ρC b) (by simp[execOp,h1,asBool]) ?_;unfold VP
   split
   ·rename_i p q hp hq;rw[hp]at h2;rw[hq]at h3;simp only[au]at h2 h3 ⊢
    cases t<;>simp[h2,h3]
   ·cases t
    ·exact h3
    ·exact h2
  ·cases he
 case alloc t =>
  split at he
  ·rename_i z hz;obtain⟨i,zv,hi,Xr,rfl,h1⟩:=pz hz;exact A5 (us:=zv.cells) g hB (hN rfl) (AO zv) h1 (NA _ zv) aX he (by simp[execOp,Instr.alloc,ri hi Xr,newVar,newRow,newObj,Sem.run])
  ·cases he
 case box t x =>
  have h1:=m0 x (by simp)
  split at he
  ·rename_i hp;have hc:=h1.cells (Hc hp);exact A5 (us:=(ρC x).cells) g hB (hN rfl) hc (ud hp hc) (hm x (by simp)).cells aX he (by simp[execOp,Instr.box,newVar,newRow,newObj,Sem.run])
  ·cases he
 case build t ps =>
  unfold rW at he
  split at he
  ·rename_i z fs hz hf
   split at he
   ·rename_i cs ZK fq
    cases he
    simp only[Bool.and_eq_true]at fq;obtain⟨fq,hnn⟩:=fq;have ZL:fs.toList.all (fun f=>(P.info? f.type).isSome)=true:=fq;have XA:∀p∈ps.toList,au Z ψ h w (ρ s p.2) (ρC p.2):=fun p hp=>m0 p.2 (by simp;exact⟨p.1,by simpa using hp⟩);have J7:=A4 (Z:=Z) (ψ:=ψ) (h:=h) (w:=w) ps.toList XA (fun p hp=>J6 (acH.1 hnn (p.1,ρ s p.2) (acx.2 ⟨p,hp,rfl⟩)));obtain⟨V,h1,h2⟩:=No (P:=P) (qs:=ps.map fun p=>(p.1,ρC p.2)) hz hf ZL (by rw[Array.toList_map];exact J7) ZK;exact gT.val g (V:=V) (by simp only[execOp,Sem.run_bind];rw[h1];simp) h2
   ·cases he
  ·cases he
 case buildSlice t n ps =>
  have XA:∀p∈ps.toList,au Z ψ h w (ρ s p.2) (ρC p.2):=fun p hp=>m0 p.2 (by simp;exact⟨p.1,by simpa using hp⟩);obtain⟨e0,h0,h1⟩:=Nz he;exact Ny g hB ba (hN rfl) XA aX (VS Sg t _) h1 lZ h0 (fun V w' h1=>by simp only[execOp,Sem.run_bind];rw[h1];simp)
 case load t a =>
  obtain⟨x,V,rfl,h1,h2⟩:=ub g ba (m0 a (by simp)) he;exact gT.val g (V:=V) (by simp[execOp,h1]) h2
 case store t a v =>
  obtain⟨h1,h2⟩:=two m0;have hw:∃hw,e=.wr .no hw:=by obtain⟨hw,_,_,h3,_⟩:=yn (P:=P) (N:=N) (g.sub ba) (h1.nM ba) (h2.nM ba) he;exact⟨hw,h3⟩
  obtain⟨hw,rfl⟩:=hw;have heq:=lZ _ _ rfl;subst heq;obtain⟨JF,w',Z',h3,h4,h5⟩:=yn (P:=P) (N:=N) g h1 h2 he
  cases h3
  exact⟨undef,w',Z',ψ,.inr ⟨by simp[execOp,h4],rfl⟩,h5,by simp only[bq.v,au]⟩
 case nilCheck x =>
  have h1:=m0 x (by simp)
  split at he
  ·rename_i id s i off hx
   cases he
   rw[hx]at h1;have h2:=h1;simp only[au]at h1;obtain⟨a,ha,_⟩:=h1;exact gT.val g (V:=ρC x) (by simp[execOp,ha]) h2
  ·rename_i k y off hx
   cases he
   rw[hx]at h1;have h2:=h1;simp only[au]at h1;obtain⟨a,us,ha,_⟩:=h1;exact gT.val g (V:=ρC x) (by simp[execOp,ha]) h2
  ·rename_i f cap hx
   cases he
   rw[hx]at h1;have h2:=h1;simp only[au]at h1;obtain⟨vs,ha,_⟩:=h1;exact gT.val g (V:=ρC x) (by simp[execOp,ha]) h2
  ·cases he
 case binOp op t x y yt =>
  obtain⟨h1,h2⟩:=two m0;obtain⟨r,V,rfl,h3,h4⟩:=Ns C2 (xo:=x) (yo:=y) h1 h2 he;exact gT.val g (V:=V) (by simp only[execOp,Sem.run_bind]at h3 ⊢;rw[h3];simp) h4
 case unOp op t x =>
  have h1:=m0 x (by simp)
  cases op<;>simp only at he<;>first|(cases he;done)|skip
  split at he
  ·rename_i b hx
   cases he
   rw[hx]at h1;simp only[au]at h1;exact gT.val g (V:=.bool (!b)) (by simp[execOp,h1,Op.unary]) (by simp only[au])
  ·cases he
 case convert src dst x =>
  have h1:=m0 x (by simp);unfold Ay at he
  split at he
  ·rename_i k1 k2 k3 n hs hd hx
   cases he
   rw[hx]at h1;simp only[au]at h1;exact gT.val g (V:=.int k2 (k2.wrap n)) (by simp[execOp,h1,convert,run_underlying hs,run_underlying hd,Conv.intToInt]) (by simp only[au])
  ·rename_i sv hs hd hx
   cases he
   rw[hx]at h1;have h2:=h1;simp only[au]at h1;exact gT.val g (V:=ρC x) (by simp[execOp,h1,convert,run_underlying hs,run_underlying hd]) h2
  ·rename_i e sv hs hd hx
   split at he
   ·rename_i hu
    cases he
    rw[hx]at h1;simp only[au]at h1;obtain⟨V,w',Z',h2,h3,h4⟩:=Nw (P:=P) (N:=N) g hB hs hd hu sv;have e1:(bq.new (.sl false (.int .u8) (bytesOf sv)) []).hp h=h:=by funext i;simp[bq.hp,Heap.get]
    refine⟨V,w',Z',ψ,.inl (by simp only[execOp,h1,Sem.run_bind,h2,Result.andThen_ok,Sem.run_pure]),by rw[e1];exact h3,?_⟩;rw[e1];exact h4
   ·cases he
  ·rename_i _ e hs hd
   split at he
   ·rename_i hu
    split at he
    ·rename_i xs hx
     cases he
     exact gT.val g (V:=.string (strOf xs)) (by simp only[execOp,Sem.run_bind,Ud g ba hs hu hd hx h1,Result.andThen_ok,Sem.run_pure]) (by simp only[au])
    ·cases he
   ·cases he
  ·cases he
 case makeSlice t l c =>
  have h1:=m0 l (by simp);have h2:=m0 c (by simp);have GL:∀i ty cs,h i=some (.box ty cs)→av (fun i=>i≠id) cs:=fun i ty cs hb=>(aX i ty cs hb).imp (fun j hj e=>hj (by rw[e];exact hN rfl));obtain⟨V,w',ψ',h3,h4,h5⟩:=Hi g hB (hN rfl) h1 h2 GL he;exact⟨V,w',Z,ψ',.inl (by simp only[execOp,Sem.run_bind,h3,Result.andThen_ok,Sem.run_pure]),h4,h5⟩
 case makeFunc fn first cap =>
  cases fn<;>simp only at he<;>first|(cases he;done)|skip
  rename_i f
  split at he
  ·rename_i hf
   cases he
   have h0:first=#[]:=adU hf
   subst h0;have hl:∀l:List Operand,(∀x∈l,au Z ψ h w (ρ s x) (ρC x))→an Z ψ h w (l.map (ρ s)) (l.map ρC):=by
    intro l
    induction l with
    |nil=>intro _;simp[an]
    |cons a r ih=>intro ha;simp only[List.map_cons,an];exact⟨_,_,rfl,ha a (by simp),ih (fun x hx=>ha x (abq _ hx))⟩
   exact gT.val g (V:=.func (.func f) #[] (cap.map ρC)) (by simp[execOp,Instr.makeFunc]) (by simp only[au];exact⟨_,rfl,by rw[Array.toList_map];exact hl _ (fun x hx=>m0 x (by simp;simpa using hx))⟩)
  ·cases he
 case slice t x lo hi mx =>
  have h1:=m0 x (by simp);have h2:dY Z ψ h w (lo.map (ρ s)) (lo.map ρC):=J5 (fun y hy=>m0 y (by subst hy;simp));have h3:dY Z ψ h w (hi.map (ρ s)) (hi.map ρC):=J5 (fun y hy=>m0 y (by subst hy;simp));have h4:dY Z ψ h w (mx.map (ρ s)) (mx.map ρC):=J5 (fun y hy=>m0 y (by subst hy;simp))
  split at he
  ·rename_i ht;unfold wQ at he
   split at he
   ·rename_i sv hx hmx
    split at he
    ·rename_i l u hb
     cases ho:aH sv.size l u with
     |false=>rw[ho]at he;cases he
     |true =>
      rw[ho]at he;cases he;rw[hx]at h1;simp only[au]at h1;have hm0:mx=none:=by cases mx with
       |none=>rfl
       |some m=>simp at hmx
      subst hm0;have cJ:=uc (P:=P) (w:=w) (b:=false) (acn sv.size) h2 h3 (mx:=none) (mx':=none) trivial hb ho (.inl rfl);exact gT.val g (V:=.string (Xk sv l u)) (by simp[execOp,Instr.sliceAt,Instr.slice,run_underlying ht,h1,cJ,Xk]) (by simp only[au])
    ·cases he
   ·cases he
  ·rename_i et ht
   split at he
   ·rename_i T7;obtain⟨V,Z',h5,h6,h7⟩:=G9 (P:=P) (N:=N) g ba ht h1 h2 h3 h4 lZ he T7;exact⟨V,w,Z',ψ,.inl (by simp[execOp,h5]),h6,h7⟩
   ·cases he
  ·cases he
 case fieldAddr t x f =>
  have h1:=m0 x (by simp)
  split at he
  ·rename_i n ft id sz i off hf hx
   split at he
   ·cases he
   ·rename_i hc
    cases he
    rw[hx]at h1;obtain⟨V,h2,h3⟩:=tE (P:=P) hf hc h1;exact gT.val g (V:=V) (by simp[execOp,h2]) h3
  ·rename_i n ft k y off hf hx
   split at he
   ·cases he
   ·rename_i hc
    cases he
    rw[hx]at h1;obtain⟨V,h2,h3⟩:=vg (P:=P) hf hc h1;exact gT.val g (V:=V) (by simp[execOp,h2]) h3
  ·cases he
 case field t x f =>
  have h1:=m0 x (by simp)
  split at he
  ·rename_i n ft cs hf hx
   split at he
   ·rename_i v hv
    cases he
    rw[hx]at h1;obtain⟨V,h2,h3⟩:=G8 (P:=P) hf h1 hv;exact gT.val g (V:=V) (by simp[execOp,h2]) h3
   ·cases he
  ·cases he
 case indexAddr t x i =>
  obtain⟨h1,h2⟩:=two m0;obtain⟨y,V,rfl,h3,h4⟩:=qo g ba h1 h2 he;exact gT.val g (V:=V) (by simp[execOp,h3]) h4
 case index t x i =>
  obtain⟨h1,h2⟩:=two m0
  split at he
  ·rename_i sv ik n ht hx hi;obtain⟨c,hc,Ty⟩:=ac6.1 he
   cases Ty
   rw[hx]at h1;rw[hi]at h2;simp only[au]at h1 h2;exact gT.val g (V:=.int .u8 (c.toNat:Int)) (by simp[execOp,Instr.index,asIntOf,run_underlying ht,h1,h2,hc]) (by simp only[au])
  ·cases he
 case extract t i =>
  have h1:=m0 t (by simp)
  split at he
  ·rename_i vs hx
   split at he
   ·rename_i v hv
    cases he
    rw[hx]at h1;simp only[au]at h1;obtain⟨us,hu,hl⟩:=h1;obtain⟨u,h2,h3⟩:=hl.get i hv;exact gT.val g (V:=u) (by simp[execOp,Instr.extract,hu,show us[i]? = some u by simpa using h2]) h3
   ·cases he
  ·cases he
 case makeMap t r =>
  cases r with
  |some r=>cases he
  |none =>simp only at he;have GL:∀i ty cs,h i=some (.box ty cs)→av (fun i=>i≠id) cs:=fun i ty cs hb=>(aX i ty cs hb).imp (fun j hj e=>hj (by rw[e];exact hN rfl));obtain⟨V,w',ψ',h1,h2,h3⟩:=Dc g hB (hN rfl) GL he;exact⟨V,w',Z,ψ',.inl (by simp[execOp,h1]),h2,h3⟩
 case lookup t m i ok =>
  obtain⟨h1,h2⟩:=two m0;obtain⟨y,V,rfl,h3,h4⟩:=Fu C2 g ba h1 h2 he;exact gT.val g (V:=V) (by simp[execOp,h3]) h4
 case mapUpdate t m i v =>
  have h1:=m0 m (by simp);have h2:=m0 i (by simp);have h3:=m0 v (by simp);have hw:∃hw,e=.wr (.nF []) hw:=by obtain⟨hw,_,_,h4,_⟩:=vh (N:=N) C2 (g.sub ba) (h1.nM ba) (h2.nM ba) (h3.nM ba) he;exact⟨hw,h4⟩
  obtain⟨hw,rfl⟩:=hw;have heq:=lZ _ _ rfl;subst heq;obtain⟨JF,w',Z',h4,h5,h6⟩:=vh (N:=N) C2 g h1 h2 h3 he
  cases h4
  exact⟨undef,w',Z',ψ,.inr ⟨by simp[execOp,h5],rfl⟩,h6,by simp only[bq.v,au,an];exact⟨#[],rfl,rfl⟩⟩
 case range t x =>
  have GL:∀i ty cs,h i=some (.box ty cs)→av (fun i=>i≠id) cs:=fun i ty cs hb=>(aX i ty cs hb).imp (fun j hj e=>hj (by rw[e];exact hN rfl));obtain⟨V,w',ψ',h1,h2,h3⟩:=Fv g hB (hN rfl) (m0 x (by simp)) GL he;exact⟨V,w',Z,ψ',.inl (by simp[execOp,h1]),h2,h3⟩
 case next x b =>
  cases b with
  |false=>cases he
  |true =>obtain⟨V,w',h1,h2,h3⟩:=Hg (P:=P) (N:=N) (ty:=type) g ba (m0 x (by simp)) lZ he;exact⟨V,w',Z,ψ,.inl (by simp[execOp,h1]),h2,h3⟩
 case entry x =>
  obtain⟨y,V,rfl,h1,h2⟩:=Hh (P:=P) g ba (m0 x (by simp)) he;exact gT.val g (V:=V) (by simp[execOp,h1]) h2
 case call c =>
  obtain⟨callee,args,argTypes⟩:=c
  cases callee with
  |value f=>simp[vm]at JH
  |invoke r m=>simp only at he;cases he
  |builtin b =>
   have iS:∀x∈args.toList,au Z ψ h w (ρ s x) (ρC x):=fun x hx=>m0 x (by simp only[Call.operands];exact Array.mem_append.2 (.inr (by simpa using hx)));have J8:∀x∈args.toList,aD (fun i=>¬N i) (ρ s x):=fun x hx=>hm x (by simp only[Call.operands];exact Array.mem_append.2 (.inr (by simpa using hx)));obtain⟨args⟩:=args;obtain⟨argTypes⟩:=argTypes;simp only at he iS J8
   cases b<;>simp only at he<;>first|(cases he;done)|skip
   case append =>
    split at he
    ·rename_i l1 l2 x y t t'
     split at he
     ·rename_i htt;subst htt;exact Fw g hB ba (hN rfl) (iS x (by simp)) (iS y (by simp)) (J8 x (by simp)) aX lZ he (fun V w' h1=>by simp only[execOp,resolve,invoke,builtin,Sem.run_bind,Sem.run_pure,Result.andThen_ok,List.map_toArray,List.map_cons,List.map_nil,h1])
     ·split at he
      ·rename_i b hb hy;have h2:=iS y (by simp);rw[hy]at h2;simp only[au]at h2;have GL:∀i ty cs,h i=some (.box ty cs)→av (fun i=>i≠id) cs:=fun i ty cs hb=>(aX i ty cs hb).imp (fun j hj e=>hj (by rw[e];exact hN rfl));obtain⟨V,w',ψ',h3,h4,h5⟩:=Dd (ty:=type) (t:=t) (t':=t') g hB ba (hN rfl) hb (iS x (by simp)) (J8 x (by simp)) GL lZ he;exact⟨V,w',Z,ψ',.inl (by simp only[execOp,resolve,invoke,builtin,Sem.run_bind,Sem.run_pure,Result.andThen_ok,List.map_toArray,List.map_cons,List.map_nil,h2,h3]),h4,h5⟩
      ·cases he
    ·cases he
   case copy =>
    split at he
    ·rename_i l1 l2 x y t t';have h1:=iS x (by simp);have h2:=iS y (by simp);have hw:∃n hw,e=.wr (.int .i64 n) hw:=by obtain⟨n,hw,_,h4,_⟩:=A2 (N:=N) (t':=t') (ty:=type) (g.sub ba) (h1.nM ba) (h2.nM ba) he;exact⟨n,hw,h4⟩
     obtain⟨n,hw,rfl⟩:=hw;have heq:=lZ _ _ rfl;subst heq;obtain⟨n',JF,w',h4,h5,h6⟩:=A2 (N:=N) (t':=t') (ty:=type) g h1 h2 he
     cases h4
     exact⟨.int .i64 n,w',Z,ψ,.inl (by simp only[execOp,resolve,invoke,builtin,Sem.run_bind,Sem.run_pure,Result.andThen_ok,List.map_toArray,List.map_cons,List.map_nil,h5]),h6,by simp only[bq.v,au]⟩
    ·cases he
   case delete =>
    split at he
    ·rename_i l1 l2 m x t ts;have h1:=iS m (by simp);have h2:=iS x (by simp);have hw:∃hw,e=.wr (.nF []) hw:=by obtain⟨hw,_,h4,_⟩:=vl (N:=N) (ty:=type) (ts:=ts) C2 (g.sub ba) (h1.nM ba) (h2.nM ba) he;exact⟨hw,h4⟩
     obtain⟨hw,rfl⟩:=hw;have heq:=lZ _ _ rfl;subst heq;obtain⟨JF,w',h4,h5,h6⟩:=vl (N:=N) (ty:=type) (ts:=ts) C2 g h1 h2 he
     cases h4
     exact⟨.tuple #[],w',Z,ψ,.inl (by simp only[execOp,resolve,invoke,builtin,Sem.run_bind,Sem.run_pure,Result.andThen_ok,List.map_toArray,List.map_cons,List.map_nil,h5]),h6,by simp only[bq.v,au,an];exact⟨#[],rfl,rfl⟩⟩
    ·cases he
   case len =>
    split at he
    ·rename_i l1 l2 x t
     split at he
     ·rename_i htm;obtain⟨n,rfl,h1⟩:=J3 (P:=P) (ty:=type) g ba htm (iS x (by simp)) he;exact gT.val g (V:=.int .i64 (n:Int)) (by simp only[execOp,resolve,invoke,builtin,Sem.run_bind,Sem.run_pure,Result.andThen_ok,List.map_toArray,List.map_cons,List.map_nil,h1]) (by simp only[au])
     split at he
     ·rename_i aF;obtain⟨n,rfl,h1⟩:=Nq g ba (iS x (by simp)) he;refine gT.val g (V:=.int .i64 (n:Int)) ?_ (by simp only[au]);rcases h1 with⟨sv,h2,h3,rfl⟩|⟨A,c,h3⟩
      ·unfold Xm at aF;rw[h2]at aF
       split at aF
       ·rename_i hu _;simp[execOp,resolve,invoke,builtin,Builtin.len_,run_underlying hu,h3,goInt]
       ·cases aF
       ·rename_i h9;exact(h9 _ rfl).elim
       ·cases aF
      ·have hu:∃e,P.underlying t=some (.slice e):=by
        have h4:=iS x (by simp);rw[h3]at h4;unfold Xm at aF
        split at aF
        ·rename_i sv _ hxx;rw[hxx]at h4;simp only[au]at h4;cases h4
        ·cases aF
        ·rename_i e _ hu _;exact⟨_,hu⟩
        ·cases aF
       obtain⟨e,hu⟩:=hu;simp[execOp,resolve,invoke,builtin,Builtin.len_,run_underlying hu,h3,goInt]
     ·cases he
    ·cases he
   all_goals
    unfold Nk at he
    split at he
    ·rename_i k a k' b Ug;have hl:=congrArg List.length Ug;simp only[List.length_map,List.length_cons,List.length_nil]at hl;obtain⟨x,y,rfl⟩:=Xz hl;simp only[List.map_cons,List.map_nil,List.cons.injEq,and_true]at Ug;have h1:=iS x (by simp);have h2:=iS y (by simp);rw[Ug.1]at h1;rw[Ug.2]at h2;simp only[au]at h1 h2
     split at he
     ·rename_i hk;subst hk
      cases he
      refine gT.val g (V:=bO (.int _ _)) ?_ (jU _ _)
      first
       |(simp[execOp,resolve,invoke,builtin,Builtin.max_,Builtin.max2,h1,h2,bO];simp only[Int.max_def];split<;>split<;>omega)
       |(simp[execOp,resolve,invoke,builtin,Builtin.min_,Builtin.min2,h1,h2,bO];simp only[Int.min_def];split<;>split<;>omega)
     ·cases he
    ·cases he
end
end Go.Vs
namespace Go.Vs
variable {P:Program} {Z Z' Zf:Nat→Prop} {ψ ψ':Nat→Value} {h h':Hp} {w w':World} {B0:Nat} {O:Nat→Prop} {N:Nat→Prop}
abbrev yr:=Nat×Option Nat×Ob
def dy(L:List yr):Heap:=L.map fun e=>(e.1,e.2.2)
def jV(ψ:Nat→Value):Option Nat→Value
 |some s=>ψ s
 |none=>.slice none 0 0
def eJ(ψ:Nat→Value):List yr→Nat→Value
 |[],_=>undef
 |(i,s,_)::r,n=>if i=n then jV ψ s else eJ ψ r n
theorem ou{L:List yr}{i:Nat}{o:Ob}(hg:(dy L).get i=some o):∃s,(i,s,o)∈L:=by
 induction L with
 |nil=>simp[dy,Heap.get]at hg
 |cons e r ih =>
  obtain⟨j,s,o'⟩:=e;simp only[dy,List.map_cons,Heap.get]at hg
  split at hg
  ·rename_i e;subst e;cases hg;exact⟨s,abZ⟩
  ·obtain⟨s',hs⟩:=ih hg;exact⟨s',abq _ hs⟩
theorem nc{i:Nat}{r:List Nat}(h:b6 (i::r)=true):i∉r∧b6 r=true:=by simp only[b6,Bool.and_eq_true,Bool.not_eq_true']at h;exact⟨fun hm=>by rw[List.contains_iff_mem.2 hm]at h;simp at h,h.2⟩
theorem iU{L:List yr}(hn:b6 (L.map (·.1))=true){i:Nat}{s:Option Nat}{o:Ob}(hm:(i,s,o)∈L):eJ ψ L i=jV ψ s:=by
 induction L with
 |nil=>cases hm
 |cons e r ih =>
  obtain⟨j,s',o'⟩:=e;obtain⟨h1,h2⟩:=nc hn;simp only[eJ];rcases abw.1 hm with he|hm
  ·cases he;simp
  ·rw[if_neg,ih h2 hm];rintro rfl;exact h1 (acx.2 ⟨_,hm,rfl⟩)
theorem Uh{L:List yr}(hs:b6 (L.filterMap (·.2.1))=true){i j s:Nat}{o o':Ob}(h1:(i,some s,o)∈L)(h2:(j,some s,o')∈L):i=j∧o=o':=by
 induction L with
 |nil=>cases h1
 |cons e r ih =>
  obtain⟨k,s',o''⟩:=e;have mem:∀{k:Nat} {o:Ob},(k,some s,o)∈r→s∈r.filterMap (·.2.1):=fun h=>aeg.2 ⟨_,h,rfl⟩;rw[List.filterMap_cons]at hs
  cases s' with
  |none =>simp only[]at hs;exact ih hs ((abw.1 h1).resolve_left (by simp)) ((abw.1 h2).resolve_left (by simp))
  |some s' =>
   simp only[]at hs;obtain⟨h3,h4⟩:=nc hs;rcases abw.1 h1 with e1|m1<;>rcases abw.1 h2 with e2|m2
   ·cases e1;cases e2;exact⟨rfl,rfl⟩
   ·cases e1;exact absurd (mem m2) h3
   ·cases e2;exact absurd (mem m1) h3
   ·exact ih h4 m1 m2
def Hj:(ok:OK)→ok.T→Prop
 |.row _ _,xs=>xs=[]
 |_,_=>False
theorem Hj.owns:∀{ok:OK} {xs:ok.T},Hj ok xs→jr Z w ok (.slice none 0 0) xs
 |.row ty k,xs,h=>by have h:xs=[]:=h;subst h;exact⟨[],⟨by simp,.inl ⟨rfl,none,rfl⟩⟩,fun i x hx=>by simp at hx⟩
 |.map _ _,_,h=>h.elim
 |.iter _ _,_,h=>h.elim
 |.nX,_,h=>h.elim
def vn(Z:Nat→Prop)(ψ:Nat→Value)(h:Hp)(w:World)(h':Hp)(ψ':Nat→Value):yr→Prop
 |(_,some s,.own ok xs)=>h s=some (.own ok xs)
 |(_,none,.own ok xs)=>Hj ok xs
 |(_,some s,.box ty cs')=>(∃cs,h s=some (.box ty cs))∧∀gg vs,ψ s=.pointer (some ⟨gg,0,none⟩)→w.heap[gg]? = some (.cells vs ty (0,0))→an Z ψ' h' w cs' vs.toList
 |(_,none,.box _ _)=>False
theorem Good.rename(g:Good Z ψ h w B0 O){L:List yr}(hn:b6 (L.map (·.1))=true)(hs:b6 (L.filterMap (·.2.1))=true)(ki:∀e∈L,vn Z ψ h w (dy L).get (eJ ψ L) e) :
  Good Z (eJ ψ L) (dy L).get w B0 O:=by
 have src:∀id b,(dy L).get id≠none→ob (eJ ψ L id)=some b→∃s o,(id,some s,o)∈L∧h s≠none∧ob (ψ s)=some b:=fun id b h1 h2=>by
  obtain⟨o,ho⟩:=acf.1 h1;obtain⟨s,hm⟩:=ou ho;rw[iU hn hm]at h2
  cases s with
  |none=>simp[jV,ob]at h2
  |some s =>
   have h3:=ki _ hm;refine⟨s,o,hm,?_,h2⟩
   cases o with
   |box ty cs=>obtain⟨⟨cs0,h4⟩,_⟩:=h3;rw[h4];simp
   |own ok xs=>rw[show h s=some (.own ok xs) from h3];simp
 refine⟨fun id ty cs hb=>?_,fun id ok xs hb=>?_,fun id b h1 h2=>?_,fun id mP b h1 h2 h3 h4=>?_,g.jO⟩
 ·obtain⟨s,hm⟩:=ou hb;have h3:=ki _ hm;rw[iU hn hm]
  cases s with
  |none=>exact h3.elim
  |some s =>obtain⟨⟨cs0,h4⟩,h5⟩:=h3;obtain⟨gg,vs,h6,h7,h8,h9⟩:=g.box s ty cs0 h4;exact⟨gg,vs,h6,h7,h5 gg vs h6 h7,h9⟩
 ·obtain⟨s,hm⟩:=ou hb;have h3:=ki _ hm;rw[iU hn hm]
  cases s with
  |none=>exact Hj.owns h3
  |some s=>exact g.row s ok xs h3
 ·obtain⟨s,o,hm,h3,h4⟩:=src id b h1 h2;exact g.live s b h3 h4
 ·obtain⟨s,o,hm,h5,h6⟩:=src id b h1 h3;obtain⟨s',o',Ui,h5',h6'⟩:=src mP b h2 h4;have:=g.apart s s' b h5 h5' h6 h6';subst this;exact(Uh hs hm Ui).1
def zL(hh:Heap)(i:Nat):List AV:=match hh.get i with
 |some (.box _ cs)=>cs
 |_=>[]
def dE:(de:List CK)→Nat→List AV→qO de→List yr
 |[],_,_,_=>[]
 |.val k::r,n,cs,x=>dE r (n+1) (cs.drop k.sz) x.2
 |.own ok::r,n,cs,x=>(n,(pf (cs.headD .no)).head?,.own ok x.1)::dE r (n+1) cs.tail x.2
def dI:(b:BK)→Heap→Nat→Nat→Nat→b.T→List yr
 |.box ty c,hh,i,i',n,x=>(i',some i,.box ty (az c n x))::dE c n (zL hh i) x
 |.own ok,_,i,i',_,x=>[(i',some i,.own ok x)]
def cv:(bs:List BK)→Heap→List Nat→List Nat→Nat→wM bs→List yr
 |b::r,hh,i::is,i'::is',n,x=>dI b hh i i' n x.1++cv r hh is is' (n+16) x.2
 |_,_,_,_,_,_=>[]
theorem ng:∀(de:List CK) (n:Nat) (cs:List AV) (x:qO de),dy (dE de n cs x)=aS de n x
 |[],_,_,_=>rfl
 |.val k::r,n,cs,x=>ng r (n+1) _ x.2
 |.own ok::r,n,cs,x=>by simp only[dE,aS,dy,List.map_cons];rw[←ng r (n+1) cs.tail x.2];rfl
theorem lu:∀(de:List CK) (n:Nat) (cs:List AV) (x:qO de),(dE de n cs x).map (·.1)=b8 de n
 |[],_,_,_=>rfl
 |.val k::r,n,cs,x=>lu r (n+1) _ x.2
 |.own ok::r,n,cs,x=>by simp only[dE,b8,List.map_cons];rw[lu r (n+1) cs.tail x.2]
theorem w6(c:AV):(pf c).head?.toList=pf c:=by cases c<;>rfl
theorem dJ{α β:Type}(f:α→Option β)(a:α)(l:List α):(a::l).filterMap f=(f a).toList++l.filterMap f:=by rw[List.filterMap_cons];cases f a<;>rfl
theorem pI{k:K}{r:List CK}{hh:Heap}{cs:List AV}{x:qO (.val k::r)}(hd:cH (.val k::r) hh cs=some x):dg k ((cs.take k.sz).map (cG hh))=some x.1∧cH r hh (cs.drop k.sz)=some x.2:=by
 have e:cH (.val k::r) hh cs=(match dg k ((cs.take k.sz).map (cG hh)),cH r hh (cs.drop k.sz) with
  |some x,some y=>some ((x,y):k.T×qO r)
  |_,_=>none):=by cases cs<;>rfl
 rw[e]at hd;clear e;generalize dg k ((cs.take k.sz).map (cG hh))=o1 at hd ⊢;generalize cH r hh (cs.drop k.sz)=o2 at hd ⊢
 cases o1 with
 |none=>cases hd
 |some x1 =>
  cases o2 with
  |none=>cases hd
  |some y1=>have:=ab5 hd;subst this;exact⟨rfl,rfl⟩
theorem l8{ok:OK}{r:List CK}{hh:Heap}{cs:List AV}{x:qO (.own ok::r)}(hd:cH (.own ok::r) hh cs=some x):∃c cs',cs=c::cs'∧dN hh ok c=some x.1∧cH r hh cs'=some x.2:=by
 cases cs with
 |nil=>cases hd
 |cons c cs =>
  refine⟨c,cs,rfl,?_⟩;have e:cH (.own ok::r) hh (c::cs)=(match dN hh ok c,cH r hh cs with
   |some x,some y=>some ((x,y):ok.T×qO r)
   |_,_=>none):=rfl
  rw[e]at hd;clear e;generalize dN hh ok c=o1 at hd ⊢;generalize cH r hh cs=o2 at hd ⊢
  cases o1 with
  |none=>cases hd
  |some x1 =>
   cases o2 with
   |none=>cases hd
   |some y1=>have:=ab5 hd;subst this;exact⟨rfl,rfl⟩
theorem pJ:∀(de:List CK) (n:Nat) (hh:Heap) (cs:List AV) (x:qO de),cH de hh cs=some x→(dE de n cs x).filterMap (·.2.1)=fM de cs
 |[],_,_,cs,_,_=>by cases cs<;>rfl
 |.val k::r,n,hh,cs,x,hd=>by
  obtain⟨_,h2⟩:=pI hd;have e:fM (.val k::r) cs=fM r (cs.drop k.sz):=by cases cs<;>rfl
  rw[e];exact pJ r (n+1) hh _ x.2 h2
 |.own ok::r,n,hh,cs,x,hd=>by obtain⟨c,cs',rfl,_,h2⟩:=l8 hd;simp only[dE,fM];rw[dJ];simp only[List.headD_cons,List.tail_cons];rw[w6,pJ r (n+1) hh cs' x.2 h2]
theorem l9{hh:Heap}{ok:OK}{c:AV}{xs:ok.T}(ho:dN hh ok c=some xs):(c=.fm∧Hj ok xs)∨∃id,c=.bC id∧hh.get id=some (.own ok xs):=by
 unfold dN at ho
 split at ho
 ·cases ok with
  |row _ _=>cases ho;exact .inl ⟨rfl,rfl⟩
  |_=>cases ho
 ·rename_i id
  split at ho
  ·rename_i zg k' ZC hg
   split at ho
   ·rename_i e;subst e
    cases ho
    exact .inr ⟨id,rfl,hg⟩
   ·cases ho
  ·cases ho
 ·cases ho
theorem Fx{hh:Heap}{ok:OK}{c:AV}{xs:ok.T}{v:Value}(ho:dN hh ok c=some xs)(hr:au Z ψ hh.get w c v){n:Nat}(jm:h' n≠none→ψ' n=jV ψ (pf c).head?):au Z' ψ' h' w' (.bC n) v:=by
 rcases l9 ho with⟨rfl,_⟩|⟨id,rfl,hg⟩
 ·simp only[au]at hr ⊢;subst hr;exact⟨⟨rfl,rfl⟩,fun hn=>(jm hn).symm⟩
 ·simp only[au]at hr ⊢;refine⟨hr.1,fun hn=>?_⟩;rw[jm hn];exact hr.2 (by rw[hg];simp)
theorem sq{hh:Heap}(g:Good Z ψ hh.get w B0 O)(hz:∀b,Z b→Z' b):∀(de:List CK) (n:Nat) (cs:List AV) (x:qO de) (vs:List Value),cH de hh cs=some x →(∀id b,AV.bC id∈ql de cs→hh.get id≠none→ob (ψ id)=some b→Z' b)→(∀e∈dE de n cs x,h' e.1≠none→ψ' e.1=jV ψ e.2.1) → an Z ψ hh.get w cs vs→an Z' ψ' h' w (az de n x) vs
 |[],n,cs,x,vs,hd,_,_,hr=>by
  cases cs with
  |nil=>simpa only[az,an] using hr
  |cons c cs=>cases hd
 |.val k::r,n,cs,x,vs,hd,hf,jm,hr=>by
  obtain⟨h1,h2⟩:=pI hd;have e:ql (.val k::r) cs=cs.take k.sz++ql r (cs.drop k.sz):=by cases cs<;>rfl
  rw[e]at hf;have r8:an Z ψ hh.get w (cs.take k.sz++cs.drop k.sz) vs:=by rw[List.take_append_drop];exact hr
  obtain⟨us,ws,rfl,h3,h4⟩:=an.split r8;simp only[az];have h5:=oi (Z':=Z') g hz (fun id b br=>hf id b (abK _ br)) h3;exact an.append (iD (dC h1 h5)) (sq g hz r (n+1) (cs.drop k.sz) x.2 ws h2 (fun id b br=>hf id b (abx _ br)) jm h4)
 |.own ok::r,n,cs,x,vs,hd,hf,jm,hr=>by obtain⟨c,cs',rfl,h1,h2⟩:=l8 hd;simp only[an]at hr;obtain⟨v,us,rfl,h3,h4⟩:=hr;simp only[az,an];refine⟨v,us,rfl,Fx h1 h3 (fun hn=>jm (n,_,_) (by simp only[dE];exact abZ) hn),?_⟩;exact sq g hz r (n+1) cs' x.2 us h2 hf (fun e he=>jm e (by simp only[dE];exact abq _ he)) h4
theorem fa{b:BK}{r:List BK}{hh:Heap}{i:Nat}{is:List Nat}{x:wM (b::r)}(hd:cS (b::r) hh (i::is)=some x):qm b hh i=some x.1∧cS r hh is=some x.2:=by
 have e:cS (b::r) hh (i::is)=(match qm b hh i,cS r hh is with
   |some x,some y=>some ((x,y):b.T×wM r)
   |_,_=>none):=rfl
 rw[e]at hd;clear e;generalize qm b hh i=o1 at hd ⊢;generalize cS r hh is=o2 at hd ⊢
 cases o1 with
 |none=>cases hd
 |some x1 =>
  cases o2 with
  |none=>cases hd
  |some y1=>have:=ab5 hd;subst this;exact⟨rfl,rfl⟩
theorem sr{ty:TypeId}{c:List CK}{hh:Heap}{i:Nat}{x:qO c}(hd:qm (.box ty c) hh i=some x):∃cs,hh.get i=some (.box ty cs)∧cH c hh cs=some x:=by
 simp only[qm]at hd
 cases hb:As hh i ty with
 |none=>rw[hb]at hd;cases hd
 |some cs =>
  rw[hb]at hd;refine⟨cs,?_,hd⟩;unfold As at hb
  split at hb
  ·rename_i zg cs' hg
   split at hb
   ·rename_i e;cases hb;rw[hg,e]
   ·cases hb
  ·cases hb
theorem jW{hh:Heap}{ok:OK}{i:Nat}{x:ok.T}(h:dN hh ok (.bC i)=some x):hh.get i=some (.own ok x):=by
 rcases l9 h with⟨h,_⟩|⟨id,h,hg⟩
 ·cases h
 ·cases h;exact hg
theorem Eb{ok:OK}{hh:Heap}{i:Nat}{x:ok.T}(hd:qm (.own ok) hh i=some x):hh.get i=some (.own ok x):=jW hd
theorem pK{hh:Heap}{i:Nat}{ty:TypeId}{cs:List AV}(hg:hh.get i=some (.box ty cs)):zL hh i=cs:=by unfold zL;rw[hg]
theorem Fy(b:BK){hh:Heap}{i i' n:Nat}(x:b.T):dy (dI b hh i i' n x)=jo b i' n x:=by
 cases b with
 |box ty c=>simp only[dI,jo];rw[←ng c n (zL hh i) x];simp[dy]
 |own ok=>simp[dI,jo,dy]
theorem De(b:BK){hh:Heap}{i i' n:Nat}(x:b.T):(dI b hh i i' n x).map (·.1)=i'::b8 b.de n:=by
 cases b with
 |box ty c=>simp only[dI,List.map_cons,BK.de];rw[lu]
 |own ok=>simp[dI,BK.de,b8]
theorem Hk(b:BK){hh:Heap}{i i' n:Nat}{x:b.T}(hd:qm b hh i=some x):(dI b hh i i' n x).filterMap (·.2.1)=kf b hh i:=by
 cases b with
 |box ty c =>obtain⟨cs,h1,h2⟩:=sr hd;simp only[dI,kf];rw[dJ,pK h1,pJ c n hh cs x h2,h1];rfl
 |own ok=>simp[dI,kf]
theorem jt:∀(bs:List BK) (hh:Heap) (is is':List Nat) (n:Nat) (x:wM bs),cS bs hh is=some x→is'.length=bs.length→dy (cv bs hh is is' n x)=bm bs is' n x
 |[],hh,is,is',n,x,_,hl=>by cases is'<;>simp[cv,bm,dy]
 |b::r,hh,[],is',n,x,hd,_=>by cases hd
 |b::r,hh,i::is,[],n,x,_,hl=>by simp at hl
 |b::r,hh,i::is,i'::is',n,x,hd,hl=>by obtain⟨_,h3⟩:=fa hd;have ih:=jt r hh is is' (n+16) x.2 h3 (by simpa using hl);simp only[cv,bm];rw[←ih,←Fy b (hh:=hh) (i:=i) x.1];simp[dy]
theorem g9:∀(bs:List BK) (hh:Heap) (is is':List Nat) (n:Nat) (x:wM bs),cS bs hh is=some x→is'.length=bs.length→(cv bs hh is is' n x).map (·.1)=bW bs is' n
 |[],hh,is,is',n,x,_,hl=>by cases is'<;>simp[cv,bW]
 |b::r,hh,[],is',n,x,hd,_=>by cases hd
 |b::r,hh,i::is,[],n,x,_,hl=>by simp at hl
 |b::r,hh,i::is,i'::is',n,x,hd,hl=>by obtain⟨_,h3⟩:=fa hd;have ih:=g9 r hh is is' (n+16) x.2 h3 (by simpa using hl);simp only[cv,bW,List.map_append];rw[ih,De,List.cons_append]
theorem ky:∀(bs:List BK) (hh:Heap) (is is':List Nat) (n:Nat) (x:wM bs),cS bs hh is=some x→is'.length=bs.length→(cv bs hh is is' n x).filterMap (·.2.1)=cT bs hh is
 |[],hh,is,is',n,x,_,hl=>by cases is'<;>cases is<;>simp[cv,cT]
 |b::r,hh,[],is',n,x,hd,_=>by cases hd
 |b::r,hh,i::is,[],n,x,_,hl=>by simp at hl
 |b::r,hh,i::is,i'::is',n,x,hd,hl=>by obtain⟨h1,h3⟩:=fa hd;have ih:=ky r hh is is' (n+16) x.2 h3 (by simpa using hl);simp only[cv,cT];rw[List.filterMap_append,ih,Hk b h1]
theorem ss{hd:Hp}{hh:Heap}:∀(de:List CK) (n:Nat) (cs:List AV) (x:qO de),cH de hh cs=some x→(∀s∈fM de cs,hd s=hh.get s)→∀e∈dE de n cs x,vn Z ψ hd w h' ψ' e
 |[],n,cs,x,_,_,e,he=>by simp[dE]at he
 |.val k::r,n,cs,x,TC,hk,e,he=>by
  obtain⟨_,h2⟩:=pI TC;have e0:fM (.val k::r) cs=fM r (cs.drop k.sz):=by cases cs<;>rfl
  rw[e0]at hk;exact ss r (n+1) _ x.2 h2 hk e he
 |.own ok::r,n,cs,x,TC,hk,e,he=>by
  obtain⟨c,cs',rfl,h1,h2⟩:=l8 TC;simp only[dE,List.headD_cons,List.tail_cons]at he;simp only[fM]at hk;rcases abw.1 he with rfl|he
  ·rcases l9 h1 with⟨rfl,h3⟩|⟨id,rfl,h3⟩
   ·exact h3
   ·show hd id=some (.own ok x.1);rw[hk id (List.mem_append_left _ (by simp[pf])),h3]
  ·exact ss r (n+1) cs' x.2 h2 (fun s hs=>hk s (abx _ hs)) e he
theorem J9{hd:Hp}{hh:Heap}(g:Good Z ψ hh.get w B0 O)(hz:∀b,Z b→Z' b)(b:BK){i i' n:Nat}{x:b.T}(TC:qm b hh i=some x) (hf:∀id g,AV.bC id∈Au b hh i→hh.get id≠none→ob (ψ id)=some g→Z' g) (hk:∀s∈kf b hh i,hd s=hh.get s) (jm:∀e∈dI b hh i i' n x,h' e.1≠none→ψ' e.1=jV ψ e.2.1) :
  ∀e∈dI b hh i i' n x,vn Z' ψ hd w h' ψ' e:=by
 intro e he
 cases b with
 |box ty c =>
  obtain⟨cs,h1,h2⟩:=sr TC;simp only[Au,kf,h1]at hf hk;have XB:∀e∈dE c n cs x,h' e.1≠none→ψ' e.1=jV ψ e.2.1:=fun e he=>jm e (by simp only[dI];rw[pK h1];exact abq _ he);simp only[dI]at he;rcases abw.1 he with rfl|he
  ·refine⟨⟨cs,by rw[hk i List.mem_cons_self,h1]⟩,fun gg vs h4 h5=>?_⟩;obtain⟨gg',hM,h6,h7,h8,_⟩:=g.box i ty cs h1;rw[h6]at h4
   cases h4
   rw[h5]at h7
   cases h7
   exact sq g hz c n cs x _ h2 hf XB h8
  ·rw[pK h1]at he;exact ss c n cs x h2 (fun s hs=>hk s (abq _ hs)) e he
 |own ok =>have h1:=Eb TC;simp only[dI,List.mem_singleton]at he;subst he;show hd i=some (.own ok x);rw[hk i (by simp[kf]),h1]
theorem ma{hd:Hp}{hh:Heap}(g:Good Z ψ hh.get w B0 O)(hz:∀b,Z b→Z' b):∀(bs:List BK) (is is':List Nat) (n:Nat) (x:wM bs),cS bs hh is=some x →(∀id b,AV.bC id∈fX bs hh is→hh.get id≠none→ob (ψ id)=some b→Z' b)→(∀s∈cT bs hh is,hd s=hh.get s)→(∀e∈cv bs hh is is' n x,h' e.1≠none→ψ' e.1=jV ψ e.2.1) → ∀e∈cv bs hh is is' n x,vn Z' ψ hd w h' ψ' e
 |[],is,is',n,x,_,_,_,_,e,he=>by simp[cv]at he
 |b::r,[],is',n,x,TC,_,_,_,e,he=>by cases TC
 |b::r,i::is,[],n,x,_,_,_,_,e,he=>by simp[cv]at he
 |b::r,i::is,i'::is',n,x,TC,hf,hk,jm,e,he=>by
  obtain⟨h1,h3⟩:=fa TC;simp only[fX,cT]at hf hk;simp only[cv]at he jm;rcases ab0.1 he with he|he
  ·exact J9 g hz b h1 (fun id g br=>hf id g (abK _ br)) (fun s hs=>hk s (abK _ hs)) (fun e he=>jm e (abK _ he)) e he
  ·exact ma g hz r is is' (n+16) x.2 h3 (fun id b br=>hf id b (abx _ br)) (fun s hs=>hk s (abx _ hs)) (fun e he=>jm e (abx _ he)) e he
theorem su{kept:List Nat}{kY:List AV}(hk:wT kept kY=true):b6 kept=true∧∀(hh:Heap) s,s∈kept→(cC hh kY).get s=hh.get s:=by unfold wT at hk;rw[Bool.and_eq_true]at hk;exact⟨hk.1,fun hh s hs=>pw _ _ _ (sf (acH.1 hk.2 s hs))⟩
theorem w7{hh:Heap}{kY:List AV}{kept:List Nat}(g:Good Z ψ hh.get w B0 O)(hk:wT kept kY=true){L:List yr}(hn:b6 (L.map (·.1))=true)(hs:L.filterMap (·.2.1)=kept) (ki:∀e∈L,vn (qM Z ψ hh.get kY) ψ (cC hh kY).get w (dy L).get (eJ ψ L) e):Good (qM Z ψ hh.get kY) (eJ ψ L) (dy L).get w B0 O :=(iK g kY).rename hn (by rw[hs];exact(su hk).1) ki
theorem zM{L:List yr}(hn:b6 (L.map (·.1))=true):∀e∈L,(dy L).get e.1≠none→eJ ψ L e.1=jV ψ e.2.1:=fun⟨i,s,o⟩ he _=>iU hn he
theorem nh(A B:List yr):dy (A++B)=dy A++dy B:=by simp[dy]
theorem zN{hh:Heap}{i s i':Nat}{v:Value}(hr:au Z ψ hh.get w (.ref i s 0 0) v)(hi:hh.get i≠none)(jm:h' i'≠none→ψ' i'=ψ i):au Z' ψ' h' w' (.ref i' 0 0 0) v:=by simp only[au]at hr ⊢;obtain⟨a,rfl,ha⟩:=hr;refine⟨a,rfl,fun hn=>?_⟩;rw[jm hn,ha hi];simp
theorem pM{v:AV}{i:Nat}(h:D0 v=some i):∃s,v=.ref i s 0 0:=by
 unfold D0 at h
 split at h
 ·cases h;exact⟨_,rfl⟩
 ·cases h
theorem ju{hh:Heap}:∀(bs:List BK) (is:List Nat) (x:wM bs),cS bs hh is=some x→is.length=bs.length∧∀i∈is,hh.get i≠none
 |[],[],_,_=>⟨rfl,fun i hi=>by cases hi⟩
 |[],_::_,_,h=>by cases h
 |_::_,[],_,h=>by cases h
 |b::r,i::is,x,h=>by
  obtain⟨h1,h3⟩:=fa h;obtain⟨h4,h5⟩:=ju r is x.2 h3;refine⟨by simp[h4],fun j hj=>?_⟩;rcases abw.1 hj with rfl|hj
  ·cases b with
   |box ty c=>obtain⟨cs,h1,_⟩:=sr h1;rw[h1];simp
   |own ok=>rw[Eb h1];simp
  ·exact h5 j hj
theorem kz{hh:Heap}:∀(bs:List BK) (is is':List Nat) (n:Nat) (x:wM bs),is.length=bs.length→∀p∈is.zip is',∃o,(p.2,some p.1,o)∈cv bs hh is is' n x
 |[],is,is',n,x,hl,p,hp=>by
  cases is with
  |nil=>simp at hp
  |cons a r=>simp at hl
 |b::r,[],is',n,x,hl,p,hp=>by simp at hp
 |b::r,i::is,[],n,x,hl,p,hp=>by simp at hp
 |b::r,i::is,i'::is',n,x,hl,p,hp=>by
  simp only[List.zip_cons_cons]at hp;simp only[cv];rcases abw.1 hp with rfl|hp
  ·cases b with
   |box ty c=>exact⟨_,abK _ (by simp only[dI];exact abZ)⟩
   |own ok=>exact⟨_,abK _ (by simp only[dI];exact abZ)⟩
  ·obtain⟨o,ho⟩:=kz r is is' (n+16) x.2 (by simpa using hl) p hp;exact⟨o,abx _ ho⟩
theorem LS{hd:Hp}{hh:Heap}{ok:OK}{c:AV}{xs:ok.T}(ho:dN hh ok c=some xs)(hk:∀s∈pf c,hd s=hh.get s){n:Nat}:vn Z ψ hd w h' ψ' (n,(pf c).head?,.own ok xs):=by
 rcases l9 ho with⟨rfl,h3⟩|⟨id,rfl,h3⟩
 ·exact h3
 ·show hd id=some (.own ok xs);rw[hk id (by simp[pf]),h3]
end Go.Vs
namespace Go.Vs
variable {P:Program} {Z Z':Nat→Prop} {ψ ψ':Nat→Value} {h h':Hp} {w w':World} {B0:Nat} {O:Nat→Prop} {N:Nat→Prop}
def gm:Hp:=fun _=>none
def JI:Nat→Value:=fun _=>undef
def Ec(g:aO)(x:GR (k0 g.ps)):List AV:=(aN g.ps [] 0 x).map (·.2)
def ZM(P:Program)(f:FuncId)(g:aO)(x:g.A)(y:g.B):Prop :=∀(Z:Nat→Prop) (w:World) (kA:List Value),(∀b,Z b→b<w.heap.size)→an Z JI gm w (Ec g x.1) kA → Calls P (f%1000) kA.toArray w fun e w'=>∃v Z' ψ',e=.returned v∧(∀b,Z b→Z' b)∧(∀b,Z' b→Z b∨w.heap.size≤b)∧cE JI gm w w' ∧ Good Z' ψ' (ah g.rs 3000 y.1).get w' w.heap.size (fun _=>False)∧au Z' ψ' (ah g.rs 3000 y.1).get w' (eU (aP g.rs [] 2000 3000 y.1)) v
theorem yu{p:PK}{ps:List PK}{vs:List AV}(hi:cy (p::ps) vs=some []):∃a r,vs=a::r∧cy ps r=some []∧(p≠.ref∧p≠.own)∧(∀f n,p=.tg f n→a=.fn f [])∧(∀n,p=.agg n→a=.agg []):=by
 cases vs with
 |nil=>cases p<;>simp[cy]at hi
 |cons a r =>
  cases p with
  |val k=>exact⟨a,r,rfl,by simpa only[cy] using hi,by simp,by simp,by simp⟩
  |ref =>
   simp only[cy]at hi
   split at hi<;>simp at hi
  |own =>
   cases a<;>simp only[cy]at hi<;>first|(cases hi;done)|skip
   split at hi<;>simp at hi
  |tg f n =>
   cases a<;>simp only[cy]at hi<;>first|(cases hi;done)|skip
   rename_i f' cap
   split at hi
   ·rename_i hc;obtain⟨rfl,rh⟩:=hc
    split at hi
    ·rename_i a1 b1 h1 h2;simp only[Option.some.injEq,List.append_eq_nil_iff]at hi;obtain⟨rfl,rfl⟩:=hi;have PQ:cap=[]:=by
      cases cap with
      |nil=>rfl
      |cons c cs=>simp only[jQ]at h1;split at h1<;>simp at h1
     subst PQ;exact⟨_,r,rfl,h2,by simp,by rintro f n ⟨⟩;rfl,by simp⟩
    ·cases hi
   ·cases hi
  |agg n =>
   cases a<;>simp only[cy]at hi<;>first|(cases hi;done)|skip
   rename_i cs
   split at hi
   ·split at hi
    ·rename_i a1 b1 h1 h2;simp only[Option.some.injEq,List.append_eq_nil_iff]at hi;obtain⟨rfl,rfl⟩:=hi;have Fq:cs=[]:=by
      cases cs with
      |nil=>rfl
      |cons c cs=>cases c<;>simp only[pj]at h1<;>first|(cases h1;done)|(split at h1<;>simp at h1)
     subst Fq;exact⟨_,r,rfl,h2,by simp,by simp,fun _ _=>rfl⟩
    ·cases hi
   ·cases hi
theorem yv{k:K}{ps:List PK}{hh:Heap}{a:AV}{r:List AV}{x:k.T×GR (k0 ps)}(hv:eF (.val k::ps) hh (a::r)=some x):fR k hh a=some x.1∧eF ps hh r=some x.2:=by
 have e:eF (.val k::ps) hh (a::r)=(match fR k hh a,eF ps hh r with
  |some x,some y=>some ((x,y):k.T×GR (k0 ps))
  |_,_=>none):=rfl
 rw[e]at hv;clear e;generalize fR k hh a=o1 at hv ⊢;generalize eF ps hh r=o2 at hv ⊢
 cases o1 with
 |none=>cases hv
 |some x1 =>
  cases o2 with
  |none=>cases hv
  |some y1 =>have:=ab5 hv;subst this;exact⟨rfl,rfl⟩
theorem A7{hh:Heap}(g:Good Z ψ hh.get w B0 O)(hz:∀b,Z b→Z' b)(ps:List PK):∀(s:Nat) (vs:List AV) (us:List Value) (x:GR (k0 ps)),(∀v∈vs,∀id b,AV.bC id∈v.cells→hh.get id≠none→ob (ψ id)=some b→Z' b) → cy ps vs=some []→eF ps hh vs=some x→an Z ψ hh.get w vs us→an Z' JI gm w ((aN ps [] s x).map (·.2)) us:=by
 induction ps with
 |nil =>
  intro s vs us x _ hi hv hr
  cases vs with
  |nil=>simpa only[aN,List.map_nil,an] using hr
  |cons a r=>simp[cy]at hi
 |cons p ps ih =>
  intro s vs us x hb hi hv hr;obtain⟨a,r,rfl,u7,Uj,XC,XD⟩:=yu hi;simp only[an]at hr;obtain⟨u,iI,rfl,h3,h4⟩:=hr
  cases p with
  |val k =>obtain⟨h1,h2⟩:=yv hv;simp only[aN,List.map_cons,an];exact⟨u,iI,rfl,si (Z':=Z') (ψ':=JI) (h':=gm) g hz (hb a abZ) h1 h3,ih (s+1) r iI x.2 (fun v hv=>hb v (abq _ hv)) u7 h2 h4⟩
  |ref=>exact absurd rfl Uj.1
  |own=>exact absurd rfl Uj.2
  |tg f n =>have ha:=XC f n rfl;subst ha;have h2:eF ps hh r=some x:=hv;simp only[aN,List.map_cons,an,List.take_nil,List.map_nil,List.drop_nil];simp only[au,an]at h3 ⊢;exact⟨u,iI,rfl,h3,ih (s+1) r iI x (fun v hv=>hb v (abq _ hv)) u7 h2 h4⟩
  |agg n =>have ha:=XD n rfl;subst ha;have h2:eF ps hh r=some x:=hv;simp only[aN,List.map_cons,an,List.take_nil,List.map_nil,List.drop_nil];simp only[au,an]at h3 ⊢;exact⟨u,iI,rfl,h3,ih (s+1) r iI x (fun v hv=>hb v (abq _ hv)) u7 h2 h4⟩
theorem Good.ZN(g:Good Z ψ h w B0 O)(k:cE JI gm w w')(hz:∀b,Z b→Z' b)(AE:∀b,Z' b→Z b∨w.heap.size≤b)(aeO:∀b,Z' b→b<w'.heap.size) (hold:∀id,¬N id→h' id=h id∧ψ' id=ψ id) (aX:∀id ty cs,h id=some (.box ty cs)→av (fun i=>¬N i) cs) (PL:∀id ty cs,N id→h' id=some (.box ty cs)→False) (mR:∀id ok xs,N id→h' id=some (.own ok xs)→jr Z' w' ok (ψ' id) xs) (AG:∀id b,N id→h' id≠none→ob (ψ' id)=some b→w.heap.size≤b∧¬Z' b) (JX:∀id mP b,N id→N mP→h' id≠none→h' mP≠none→ob (ψ' id)=some b→ob (ψ' mP)=some b→id=mP) (hB:B0≤w.heap.size) :
  Next Z ψ h w B0 O N Z' ψ' h' w':=by
 have cQ:∀b,b<w.heap.size→w'.heap[b]? = w.heap[b]? := fun b hb=>k.block b hb (fun⟨id,h1,_⟩=>h1 rfl);have sm:cj Z w w':=fun b hb=>cQ b (g.jO b hb);have ti:∀id,h' id≠none→(h id≠none∧ψ' id=ψ id)∨N id:=fun id br=>by
  by_cases hn:N id
  ·exact .inr hn
  ·obtain⟨e1,e2⟩:=hold id hn;exact .inl ⟨by rwa [e1]at br,e2⟩
 have yh:∀id b,¬N id→h' id≠none→ob (ψ' id)=some b→Own ψ h b:=fun id b hn h1 h2=>by obtain⟨e1,e2⟩:=hold id hn;exact⟨id,by rwa [e1]at h1,by rwa [e2]at h2⟩
 have kk:cE ψ h w w':=⟨k.os,k.tape,k.output,k.size,fun b hb _=>cQ b hb⟩;refine⟨hz,fun b hb=>(AE b hb).imp (fun h=>h) .inr,kk,ti,⟨fun id ty cs hb=>?_,fun id ok xs hb=>?_,fun id b h1 h2=>?_,fun id mP b h1 h2 h3 h4=>?_,aeO⟩⟩
 ·by_cases hn:N id
  ·exact(PL id ty cs hn hb).elim
  ·obtain⟨e1,e2⟩:=hold id hn;rw[e1]at hb;obtain⟨gg,vs,h1,h2,h3,h4⟩:=g.box id ty cs hb;exact⟨gg,vs,by rw[e2,h1],(cQ gg (abX.1 h2).1).trans h2,h3.move hz sm (fun i hp br=>(ti i br).resolve_right hp) (aX id ty cs hb),h4⟩
 ·by_cases hn:N id
  ·exact mR id ok xs hn hb
  ·obtain⟨e1,e2⟩:=hold id hn;rw[e1]at hb;rw[e2];exact(g.row id ok xs hb).kept hz sm (fun gg Nm=>cQ gg (g.bF ⟨id,by rw[hb];simp,Nm⟩))
 ·by_cases hn:N id
  ·obtain⟨h3,h4⟩:=AG id b hn h1 h2;exact⟨h4,.inl (by omega)⟩
  ·obtain⟨e1,e2⟩:=hold id hn;rw[e1]at h1;rw[e2]at h2;have h3:=g.live id b h1 h2;refine⟨fun ZB=>?_,h3.2⟩;rcases AE b ZB with h4|h4
   ·exact h3.1 h4
   ·have:=g.bF ⟨id,h1,h2⟩;omega
 ·by_cases hn:N id<;>by_cases JY:N mP
  ·exact JX id mP b hn JY h1 h2 h3 h4
  ·have:=(AG id b hn h1 h3).1;have:=g.bF (yh mP b JY h2 h4);omega
  ·have:=(AG mP b JY h2 h4).1;have:=g.bF (yh id b hn h1 h3);omega
  ·obtain⟨e1,e2⟩:=hold id hn;obtain⟨e3,e4⟩:=hold mP JY;rw[e1]at h1;rw[e2]at h3;rw[e3]at h2;rw[e4]at h4;exact g.apart id mP b h1 h2 h3 h4
theorem bA{r:RK}{rs:List RK}(h:(r::rs).all RK.plain=true):rs.all RK.plain=true:=by simp only[List.all_cons,Bool.and_eq_true]at h;exact h.2
theorem NB{c:List CK}{rs:List RK}(h:(RK.agg c::rs).all RK.plain=true):c.length≤16:=by simp only[List.all_cons,Bool.and_eq_true,RK.plain,decide_eq_true_eq]at h;exact h.1
theorem mb:∀(c:List CK) (a:Nat) (x:qO c) (i:Nat),i<a→(aS c a x).get i=none
 |[],_,_,_,_=>rfl
 |.val _::r,a,x,i,h=>by simp only[aS];exact mb r (a+1) x.2 i (by omega)
 |.own ok::r,a,x,i,h=>by simp only[aS,Heap.get];rw[if_neg (by omega)];exact mb r (a+1) x.2 i (by omega)
theorem uh:∀(c:List CK) (a:Nat) (x:qO c) (i:Nat),a+c.length≤i→(aS c a x).get i=none
 |[],_,_,_,_=>rfl
 |.val _::r,a,x,i,h=>by simp only[List.length_cons]at h;simp only[aS];exact uh r (a+1) x.2 i (by omega)
 |.own ok::r,a,x,i,h=>by simp only[List.length_cons]at h;simp only[aS,Heap.get];rw[if_neg (by omega)];exact uh r (a+1) x.2 i (by omega)
theorem uj:∀(c:List CK) (a b:Nat) (x:qO c) (j:Nat),(aS c a x).get (a+j)=(aS c b x).get (b+j)
 |[],_,_,_,_=>rfl
 |.val _::r,a,b,x,0=>by simp only[aS];rw[mb _ _ _ _ (by omega),mb _ _ _ _ (by omega)]
 |.own ok::r,a,b,x,0=>by simp[aS,Heap.get]
 |.val _::r,a,b,x,j+1=>by simp only[aS];rw[show a+(j+1)=a+1+j by omega,show b+(j+1)=b+1+j by omega];exact uj r (a+1) (b+1) x.2 j
 |.own ok::r,a,b,x,j+1=>by simp only[aS,Heap.get];rw[if_neg (by omega),if_neg (by omega),show a+(j+1)=a+1+j by omega,show b+(j+1)=b+1+j by omega];exact uj r (a+1) (b+1) x.2 j
theorem nP:∀(c:List CK) (a:Nat) (x:qO c) (i:Nat) (ty:TypeId) (cs:List AV),(aS c a x).get i≠some (.box ty cs)
 |[],_,_,_,_,_=>by simp[aS,Heap.get]
 |.val _::r,a,x,i,ty,cs=>by simp only[aS];exact nP r (a+1) x.2 i ty cs
 |.own ok::r,a,x,i,ty,cs=>by
  simp only[aS,Heap.get]
  split
  ·simp
  ·exact nP r (a+1) x.2 i ty cs
theorem rk:∀(rs:List RK) (a:Nat) (y:lQ rs) (i:Nat),rs.all RK.plain=true→i<a→(ah rs a y).get i=none
 |[],a,y,i,_,h=>rfl
 |.val k::r,a,y,i,hp,h=>by simp only[ah];exact rk r (a+1) y.2 i (bA hp) (by omega)
 |.own ok::r,a,y,i,hp,h=>by simp only[ah,Heap.get];rw[if_neg (by omega)];exact rk r (a+1) y.2 i (bA hp) (by omega)
 |.eI _ _::r,a,y,i,hp,h=>by simp only[ah];exact rk r (a+1) y.2 i (bA hp) (by omega)
 |.agg c::r,a,y,i,hp,h=>by have h1:(aS c a y.1).get i=none:=mb c a y.1 i h;have h2:=rk r (a+1) y.2 i (bA hp) (by omega);show Heap.get (aS c a y.1++ah r (a+1) y.2) i=none;rw[Heap.get_append,h1,h2]
theorem Hl:∀(rs:List RK) (a:Nat) (y:lQ rs) (i:Nat),rs.all RK.plain=true→a+rs.length+16≤i→(ah rs a y).get i=none
 |[],a,y,i,_,h=>rfl
 |.val k::r,a,y,i,hp,h=>by simp only[List.length_cons]at h;simp only[ah];exact Hl r (a+1) y.2 i (bA hp) (by omega)
 |.own ok::r,a,y,i,hp,h=>by simp only[List.length_cons]at h;simp only[ah,Heap.get];rw[if_neg (by omega)];exact Hl r (a+1) y.2 i (bA hp) (by omega)
 |.eI _ _::r,a,y,i,hp,h=>by simp only[List.length_cons]at h;simp only[ah];exact Hl r (a+1) y.2 i (bA hp) (by omega)
 |.agg c::r,a,y,i,hp,h=>by simp only[List.length_cons]at h;have hc:=NB hp;have h1:(aS c a y.1).get i=none:=uh c a y.1 i (by omega);have h2:=Hl r (a+1) y.2 i (bA hp) (by omega);show Heap.get (aS c a y.1++ah r (a+1) y.2) i=none;rw[Heap.get_append,h1,h2]
theorem Hm:∀(rs:List RK) (a b:Nat) (y:lQ rs) (j:Nat),rs.all RK.plain=true→(ah rs a y).get (a+j)=(ah rs b y).get (b+j)
 |[],_,_,_,_,_=>rfl
 |.val k::r,a,b,y,0,hp=>by simp only[ah];rw[rk _ _ _ _ (bA hp) (by omega),rk _ _ _ _ (bA hp) (by omega)]
 |.eI _ _::r,a,b,y,0,hp=>by simp only[ah];rw[rk _ _ _ _ (bA hp) (by omega),rk _ _ _ _ (bA hp) (by omega)]
 |.own ok::r,a,b,y,0,hp=>by simp[ah,Heap.get]
 |.val k::r,a,b,y,j+1,hp=>by simp only[ah];rw[show a+(j+1)=a+1+j by omega,show b+(j+1)=b+1+j by omega];exact Hm r (a+1) (b+1) y.2 j (bA hp)
 |.eI _ _::r,a,b,y,j+1,hp=>by simp only[ah];rw[show a+(j+1)=a+1+j by omega,show b+(j+1)=b+1+j by omega];exact Hm r (a+1) (b+1) y.2 j (bA hp)
 |.own ok::r,a,b,y,j+1,hp=>by simp only[ah,Heap.get];rw[if_neg (by omega),if_neg (by omega),show a+(j+1)=a+1+j by omega,show b+(j+1)=b+1+j by omega];exact Hm r (a+1) (b+1) y.2 j (bA hp)
 |.agg c::r,a,b,y,j,hp=>by
  have h1:(aS c a y.1).get (a+j)=(aS c b y.1).get (b+j):=uj c a b y.1 j;have h2:(ah r (a+1) y.2).get (a+j)=(ah r (b+1) y.2).get (b+j):=by
   cases j with
   |zero=>rw[rk _ _ _ _ (bA hp) (by omega),rk _ _ _ _ (bA hp) (by omega)]
   |succ j =>rw[show a+(j+1)=a+1+j by omega,show b+(j+1)=b+1+j by omega];exact Hm r (a+1) (b+1) y.2 j (bA hp)
  show Heap.get (aS c a y.1++ah r (a+1) y.2) (a+j)=Heap.get (aS c b y.1++ah r (b+1) y.2) (b+j);rw[Heap.get_append,Heap.get_append,h1,h2]
theorem sw:∀(rs:List RK) (a:Nat) (y:lQ rs) (i:Nat) (ty:TypeId) (cs:List AV),rs.all RK.plain=true→(ah rs a y).get i≠some (.box ty cs)
 |[],_,_,_,_,_,_=>by simp[ah,Heap.get]
 |.val k::r,a,y,i,ty,cs,hp=>by simp only[ah];exact sw r (a+1) y.2 i ty cs (bA hp)
 |.eI _ _::r,a,y,i,ty,cs,hp=>by simp only[ah];exact sw r (a+1) y.2 i ty cs (bA hp)
 |.own ok::r,a,y,i,ty,cs,hp=>by
  simp only[ah,Heap.get]
  split
  ·simp
  ·exact sw r (a+1) y.2 i ty cs (bA hp)
 |.agg c::r,a,y,i,ty,cs,hp=>by
  have h1:(aS c a y.1).get i≠some (.box ty cs):=nP c a y.1 i ty cs;show Heap.get (aS c a y.1++ah r (a+1) y.2) i≠some (.box ty cs);rw[Heap.get_append]
  split
  ·rename_i o ho;rw[ho]at h1;exact h1
  ·exact sw r (a+1) y.2 i ty cs (bA hp)
theorem me(p:Nat→Prop):∀(k:K) (x:k.T),av p (enc k x)
 |.int _,_=>by simp only[enc,av,aD];exact⟨trivial,trivial⟩
 |.bool,_=>by simp only[enc,av,aD];exact⟨trivial,trivial⟩
 |.str,_=>by simp only[enc,av,aD];exact⟨trivial,trivial⟩
 |.sl _,_=>by simp only[enc,av,aD];exact⟨trivial,trivial⟩
 |.mp _ _,_=>by simp only[enc,av,aD];exact⟨trivial,trivial⟩
 |.fn _,_=>by simp only[enc,av,aD];exact⟨trivial,trivial⟩
 |.pair a b,x=>by
  simp only[enc];have h1:=me p a x.1;have h2:=me p b x.2
  revert h1
  generalize enc a x.1=l
  induction l with
  |nil=>intro _;exact h2
  |cons c r ih=>intro h;simp only[List.cons_append,av]at h ⊢;exact⟨h.1,ih h.2⟩
 |.one k,x=>by simp only[enc];exact me p k x
theorem ov(p:Nat→Prop):∀(k:K) (x:k.T),aD p (b5 k x)
 |.int _,_=>by simp only[b5,aD]
 |.bool,_=>by simp only[b5,aD]
 |.str,_=>by simp only[b5,aD]
 |.sl _,_=>by simp only[b5,aD]
 |.mp _ _,_=>by simp only[b5,aD]
 |.fn _,_=>by simp only[b5,aD,av]
 |.pair a b,x=>by simp only[b5,aD];exact me p (.pair a b) x
 |.one k,x=>by simp only[b5,aD];exact me p (.one k) x
theorem P3{k:K}{x:k.T}{v:Value}(hr:au Z ψ h w (b5 k x) v):au Z ψ' h' w (b5 k x) v :=hr.move (p:=fun _=>False) (fun _ h=>h) (cj.refl _ _) (fun _ hp _=>hp.elim) (ov _ k x)
theorem Uk(r:RK)(rs:List RK)(b:Nat)(y:lQ (r::rs))(i:Nat)(hi:(ah rs (b+1) y.2).get i≠none):(ah (r::rs) b y).get i≠none:=by
 cases r with
 |val k=>exact hi
 |eI _ _=>exact hi
 |own ok=>simp only[ah,Heap.get];split<;>simp_all
 |agg c =>
  show Heap.get (aS c b y.1++ah rs (b+1) y.2) i≠none;rw[Heap.get_append]
  split
  ·simp
  ·exact hi
theorem Ka(c:List CK):∀{H:Hp} {a b:Nat} {x:qO c} {vs:List Value},(∀j,(aS c b x).get (b+j)≠none→h' (b+j)≠none→H (a+j)≠none∧ψ' (b+j)=ψ (a+j)) → an Z ψ H w (az c a x) vs→an Z ψ' h' w (az c b x) vs:=by
 induction c with
 |nil=>intro H a b x vs _ hr;simpa only[az,an] using hr
 |cons k c ih =>
  intro H a b x vs hH hr
  cases k with
  |val k =>have r8:an Z ψ H w (enc k x.1++az c (a+1) x.2) vs:=hr;obtain⟨us,ws,rfl,h1,h2⟩:=r8.split;show an Z ψ' h' w (enc k x.1++az c (b+1) x.2) (us++ws);refine(h1.move (p:=fun _=>False) (fun _ h=>h) (cj.refl _ _) (fun _ hp _=>hp.elim) (me _ k x.1)).append (ih (fun j hj aW=>?_) h2);have:=hH (j+1);rw[show b+(j+1)=b+1+j by omega,show a+(j+1)=a+1+j by omega]at this;exact this hj aW
  |own ok =>
   have r8:an Z ψ H w (.bC a::az c (a+1) x.2) vs:=hr;simp only[an]at r8;obtain⟨v,us,rfl,h1,h2⟩:=r8;show an Z ψ' h' w (.bC b::az c (b+1) x.2) (v::us);simp only[an];refine⟨v,us,rfl,?_,ih (fun j hj aW=>?_) h2⟩
   ·simp only[au]at h1 ⊢;refine⟨h1.1,fun aW=>?_⟩;obtain⟨h3,h4⟩:=hH 0 (by simp[aS,Heap.get]) aW;rw[Nat.add_zero,Nat.add_zero]at h4;rw[h4];exact h1.2 h3
   ·have:=hH (j+1);rw[show b+(j+1)=b+1+j by omega,show a+(j+1)=a+1+j by omega]at this;refine this ?_ aW;have e:(aS (.own ok::c) b x).get (b+1+j)=(aS c (b+1) x.2).get (b+1+j):=by simp only[aS,Heap.get];rw[if_neg (by omega)]
    rw[e];exact hj
theorem P4(rs:List RK):∀{H:Hp} {n m a b:Nat} {y:lQ rs} {vs:List Value},rs.all RK.plain=true→(∀j,(ah rs b y).get (b+j)≠none→h' (b+j)≠none→H (a+j)≠none∧ψ' (b+j)=ψ (a+j)) → an Z ψ H w (aP rs [] n a y) vs→an Z ψ' h' w (aP rs [] m b y) vs:=by
 induction rs with
 |nil=>intro H n m a b y vs _ _ hr;simpa only[aP,an] using hr
 |cons r rs ih =>
  intro H n m a b y vs hp hH hr;have hpa:=hp;simp only[List.all_cons,Bool.and_eq_true]at hp;have XE:∀j,(ah rs (b+1) y.2).get (b+1+j)≠none→h' (b+1+j)≠none→H (a+1+j)≠none∧ψ' (b+1+j)=ψ (a+1+j):=fun j hj aW=>by have:=hH (j+1);rw[show b+(j+1)=b+1+j by omega,show a+(j+1)=a+1+j by omega]at this;exact this (Uk _ _ _ _ _ hj) aW
  cases r with
  |val k =>simp only[aP,an]at hr ⊢;obtain⟨v,us,rfl,h1,h2⟩:=hr;exact⟨v,us,rfl,P3 h1,ih hp.2 XE h2⟩
  |own ok =>simp only[aP,an]at hr ⊢;obtain⟨v,us,rfl,h1,h2⟩:=hr;refine⟨v,us,rfl,?_,ih hp.2 XE h2⟩;simp only[au]at h1 ⊢;refine⟨h1.1,fun aW=>?_⟩;obtain⟨h3,h4⟩:=hH 0 (by simp[ah,Heap.get]) aW;rw[Nat.add_zero,Nat.add_zero]at h4;rw[h4];exact h1.2 h3
  |eI b c=>simp[RK.plain]at hp
  |agg c =>
   simp only[aP,an]at hr ⊢;obtain⟨v,us,rfl,h1,h2⟩:=hr;refine⟨v,us,rfl,?_,ih hp.2 XE h2⟩;simp only[au]at h1 ⊢;obtain⟨ws,rfl,h3⟩:=h1;refine⟨ws,rfl,Ka c (fun j hj aW=>hH j ?_ aW) h3⟩;show Heap.get (aS c b y.1++ah rs (b+1) y.2) (b+j)≠none;rw[Heap.get_append]
   split
   ·simp
   ·rename_i yw;exact absurd yw hj
theorem uk{VY VZ:Nat→Value}{ZO ZP:Hp}{ZQ ZR:Nat→Prop}{l l':List AV}{V:Value}(hl:l.length=l'.length)(hm:∀vs,an ZQ VY ZO w l vs→an ZR VZ ZP w l' vs)(hr:au ZQ VY ZO w (eU l) V):au ZR VZ ZP w (eU l') V:=by
 match l,l',hl with
 |[a],[a'],_ =>
  simp only[eU]at hr ⊢;have:=hm [V] (by simp only[an];exact⟨V,[],rfl,hr,rfl⟩);simp only[an]at this;obtain⟨v,us,e,h1,_⟩:=this
  cases e;exact h1
 |[],[],_ =>simp only[eU,au]at hr ⊢;obtain⟨us,rfl,h1⟩:=hr;exact⟨us,rfl,hm _ h1⟩
 |a::b::r,a'::b'::r',_ =>simp only[eU,au]at hr ⊢;obtain⟨us,rfl,h1⟩:=hr;exact⟨us,rfl,hm _ h1⟩
theorem kj(rs:List RK):∀(ids:List Nat) (n m:Nat) (y:lQ rs),(aP rs ids n m y).length=rs.length:=by
 induction rs with
 |nil=>intros;rfl
 |cons r rs ih=>intro ids n m y;cases r<;>simp[aP,ih]
theorem zO:∀(k:K) (x:k.T) (r:List AV),dec k (enc k x++r)=some (x,r)
 |.int _,x,r=>by simp only[enc,List.cons_append,List.nil_append,dec,Ff,if_true];rfl
 |.bool,x,r=>by simp only[enc,List.cons_append,List.nil_append,dec,zx];rfl
 |.str,x,r=>by simp only[enc,List.cons_append,List.nil_append,dec,Fg];rfl
 |.sl k,x,r=>by simp only[enc,List.cons_append,List.nil_append,dec,LI];rfl
 |.mp kk vk,x,r=>by simp only[enc,List.cons_append,List.nil_append,dec,LJ];rfl
 |.fn _,x,r=>by simp only[enc,List.cons_append,List.nil_append,dec,LL,if_true];rfl
 |.pair a b,x,r=>by simp only[enc,dec,List.append_assoc];rw[zO a x.1 (enc b x.2++r)];simp only[];rw[zO b x.2 r];rfl
 |.one k,x,r=>by simp only[enc,dec];exact zO k x r
theorem um(k:K)(x:k.T):dg k (enc k x)=some x:=by unfold dg;have:=zO k x [];rw[List.append_nil]at this;rw[this]
theorem uo:∀(k:K) (x:k.T),(b5 k x).cells=enc k x
 |.int _,_=>rfl
 |.bool,_=>rfl
 |.str,_=>rfl
 |.sl _,_=>rfl
 |.mp _ _,_=>rfl
 |.fn _,_=>rfl
 |.pair a b,x=>rfl
 |.one k,x=>rfl
theorem LU:∀(k:K) (x:k.T),b5 k x≠.no
 |.int _,_=>by simp[b5]
 |.bool,_=>by simp[b5]
 |.str,_=>by simp[b5]
 |.sl _,_=>by simp[b5]
 |.mp _ _,_=>by simp[b5]
 |.fn _,_=>by simp[b5]
 |.pair a b,x=>by simp[b5]
 |.one k,x=>by simp[b5]
theorem A8:∀(k:K) (x:k.T),(b5 k x).isAgg=k.isAgg
 |.int _,_=>rfl
 |.bool,_=>rfl
 |.str,_=>rfl
 |.sl _,_=>rfl
 |.mp _ _,_=>rfl
 |.fn _,_=>rfl
 |.pair a b,x=>rfl
 |.one k,x=>rfl
theorem NC{k:K}{x:k.T}{v:Value}(hr:au Z ψ h w (b5 k x) v):aB Z w k x v.cells.toList:=by have h1:=hr.cells (LU k x);rw[uo]at h1;exact dC (um k x) h1
theorem Kb{k:K}{x:k.T}{v:Value}(hr:au Z ψ h w (b5 k x) v):(k.isAgg=true→∃vs,v=.agg vs)∧(k.isAgg=false→v.cells=#[v]) :=⟨fun h=>PW (by rw[A8];exact h) hr,fun h=>D7 (by rw[A8];exact h) (LU k x) hr⟩
theorem P5(rs:List RK):∀{H:Hp} {n a:Nat} {y:lQ rs} {vs:List Value},rs.all RK.flat=true→rs.all RK.plain=true→an Z ψ H w (aP rs [] n a y) vs→an Z' ψ H w (aP rs [] n a y) vs:=by
 induction rs with
 |nil=>intro H n a y vs _ _ hr;simpa only[aP,an] using hr
 |cons r rs ih =>
  intro H n a y vs hf hp hr;simp only[List.all_cons,Bool.and_eq_true]at hp hf
  cases r with
  |val k =>simp only[aP,an]at hr ⊢;obtain⟨v,us,rfl,h1,h2⟩:=hr;have hk:k.flat=true:=hf.1;obtain⟨h3,h4⟩:=Kb h1;exact⟨v,us,rfl,lX ((NC h1).flat hk) h3 h4,ih hf.2 hp.2 h2⟩
  |own ok =>simp only[aP,an]at hr ⊢;obtain⟨v,us,rfl,h1,h2⟩:=hr;exact⟨v,us,rfl,by simpa only[au] using h1,ih hf.2 hp.2 h2⟩
  |eI b c=>simp[RK.plain]at hp
  |agg c=>simp[RK.flat]at hf
theorem w9:∀(rs:List RK) (a:Nat) (y:lQ rs) (i:Nat) (ok:OK) (x:ok.T),rs.all RK.flat=true→rs.all RK.plain=true→(ah rs a y).get i=some (.own ok x)→∃ty k,k.flat=true∧ok=.row ty k
 |[],_,_,_,_,_,_,_,hg=>by simp[ah,Heap.get]at hg
 |.val k::r,a,y,i,ok,x,hf,hp,hg=>by simp only[List.all_cons,Bool.and_eq_true]at hp hf;exact w9 r _ _ _ _ x hf.2 hp.2 hg
 |.own TU::r,a,y,i,ok,x,hf,hp,hg=>by
  simp only[List.all_cons,Bool.and_eq_true]at hp hf;simp only[ah,Heap.get]at hg
  split at hg
  ·cases hg
   cases TU with
   |row ty k=>exact⟨ty,k,hf.1,rfl⟩
   |_=>simp[RK.flat]at hf
  ·exact w9 r _ _ _ _ x hf.2 hp.2 hg
 |.eI _ _::r,a,y,i,ok,x,hf,hp,hg=>by simp[RK.plain]at hp
 |.agg c::r,a,y,i,ok,x,hf,hp,hg=>by simp[RK.flat]at hf
theorem vo:∀(ps:List PK) (vs:List AV),cy ps vs=some []→∀v∈vs,∀id,AV.bC id∈v.cells→AV.bC id∈c9 ps vs
 |[],vs,hi,v,hv,id,br=>by
  cases vs with
  |nil=>cases hv
  |cons a r=>simp[cy]at hi
 |p::ps,vs,hi,v,hv,id,br=>by
  obtain⟨a,r,rfl,u7,Uj,XC,XD⟩:=yu hi;rcases abw.1 hv with rfl|hv
  ·cases p with
   |val k=>simp only[c9];exact abK _ br
   |ref=>exact absurd rfl Uj.1
   |own=>exact absurd rfl Uj.2
   |tg f n=>rw[XC f n rfl]at br;simp[AV.cells]at br
   |agg n=>rw[XD n rfl]at br;simp[AV.cells]at br
  ·have:=vo ps r u7 v hv id br
   cases p with
   |val k=>simp only[c9];exact abx _ this
   |ref=>exact absurd rfl Uj.1
   |own=>exact absurd rfl Uj.2
   |tg f n=>simpa only[c9] using this
   |agg n=>simpa only[c9] using this
theorem A9(hh:Heap)(vs:List AV):∀f:FuncId,lT hh f vs%1000=f%1000:=by
 induction vs with
 |nil=>intro f;rfl
 |cons v r ih =>
  intro f
  cases v with
  |fn g cap=>simp only[lT];split<;>exact Nat.add_mul_mod_self_left f 1000 _
  |ref i _ _ _ =>
   simp only[lT]
   split
   ·exact(ih _).trans (Nat.add_mul_mod_self_left f 1000 _)
   ·exact ih f
  |_=>simp only[lT];exact ih f
theorem xa{Sg:FuncId→Option aO}(hh:Heap)(f:FuncId)(vs:List AV):keyOf Sg hh f vs%1000=f%1000:=by
 unfold keyOf
 split
 ·exact(Nat.add_mul_mod_self_right (lT hh f vs) 500 1000).trans (A9 hh vs f)
 ·exact A9 hh vs f
theorem Next.imp{N':Nat→Prop}(n:Next Z ψ h w B0 O N Z' ψ' h' w')(hi:∀i,N i→N' i):Next Z ψ h w B0 O N' Z' ψ' h' w' :=⟨n.fN,n.eC,n.keep,fun id br=>(n.ids id br).imp (fun h=>h) (hi id),n.da⟩
theorem xc{rs:List RK}{y:lQ rs}(hp:rs.all RK.plain=true){id nb:Nat}(g:Good Z ψ h w B0 O)(hB:B0≤w.heap.size) (aX:∀i ty cs,h i=some (.box ty cs)→av (fun i=>¬N i) cs) (hN:∀j,j<rs.length+16→N (id+j)) (k:cE JI gm w w') (hz:∀b,Z b→Z' b) (AE:∀b,Z' b→Z b∨w.heap.size≤b) (gc:Good Z' ψ' (ah rs 3000 y).get w' w.heap.size (fun _=>False)) {v:Value} (hr:au Z' ψ' (ah rs 3000 y).get w' (eU (aP rs [] 2000 3000 y)) v) :
  ∃uq,Next Z ψ h w B0 O N Z' uq (fun i=>match (ah rs id y).get i with|some o=>some o|none=>h i) w' ∧
   au Z' uq (fun i=>match (ah rs id y).get i with|some o=>some o|none=>h i) w' (eU (aP rs [] nb id y)) v:=by
 classical
 let H:Hp:=fun i=>match (ah rs id y).get i with|some o=>some o|none=>h i
 let NN:Nat→Prop:=fun i=>(ah rs id y).get i≠none
 let uq:Nat→Value:=fun i=>if NN i then ψ' (3000+(i-id)) else ψ i
 have hNN:∀i,NN i→∃j,j<rs.length+16∧i=id+j:=fun i hi=>by have h1:¬i<id:=fun aF=>hi (rk rs id y i hp aF);have h2:¬id+rs.length+16≤i:=fun TB=>hi (Hl rs id y i hp TB);exact⟨i-id,by omega,by omega⟩
 have yx:∀i,NN i→(ah rs 3000 y).get (3000+(i-id))=(ah rs id y).get i:=fun i hi=>by obtain⟨j,_,rfl⟩:=hNN i hi;rw[show id+j-id=j by omega];exact Hm rs 3000 id y j hp
 have hH:∀i,NN i→H i=(ah rs 3000 y).get (3000+(i-id)):=fun i hi=>by
  rw[yx i hi];show(match (ah rs id y).get i with|some o=>some o|none=>h i)=_
  cases e:(ah rs id y).get i with
  |none=>exact absurd e hi
  |some o=>rfl
 have jm:∀i,NN i→uq i=ψ' (3000+(i-id)):=fun i hi=>if_pos hi;have ZS:∀i,NN i→N i:=fun i hi=>by obtain⟨j,hj,rfl⟩:=hNN i hi;exact hN j hj
 have n:=Good.ZN (N:=NN) (ψ':=uq) (h':=H) g k hz AE gc.jO (fun i hi=>by
   have e:(ah rs id y).get i=none:=Classical.not_not.1 hi;refine⟨?_,if_neg hi⟩;show(match (ah rs id y).get i with|some o=>some o|none=>h i)=h i;rw[e])
  (fun i ty cs hb=>(aX i ty cs hb).imp (fun i hi hni=>hi (ZS i hni)))
  (fun i ty cs hi hb=>by rw[hH i hi]at hb;exact sw _ _ _ _ _ _ hp hb)
  (fun i ok xs hi hb=>by rw[hH i hi]at hb;rw[jm i hi];exact gc.row _ _ _ hb)
  (fun i b hi h1 h2=>by rw[hH i hi]at h1;rw[jm i hi]at h2;obtain⟨h3,h4⟩:=gc.live _ b h1 h2;exact⟨h4.resolve_right (fun h=>h),h3⟩)
  (fun i i' b hi u7 h1 h2 h3 h4=>by rw[hH i hi]at h1;rw[hH i' u7]at h2;rw[jm i hi]at h3;rw[jm i' u7]at h4;have:=gc.apart _ _ b h1 h2 h3 h4;obtain⟨j,_,rfl⟩:=hNN i hi;obtain⟨j',_,rfl⟩:=hNN i' u7;omega) hB
 refine⟨uq,n.imp ZS,?_⟩;refine uk (by rw[kj,kj]) (fun vs qN=>?_) hr;refine P4 (h':=H) (ψ':=uq) rs (n:=2000) (a:=3000) hp (fun j hn aW=>?_) qN
 replace hn:NN (id+j):=hn
 have e1:=hH _ hn;have e2:=jm _ hn;rw[show id+j-id=j by omega]at e1 e2;exact⟨by rw[←e1];exact aW,e2⟩
def jv(P:Program)(f:FuncId):Prop:=∃fn,P.funcs[f]? = some fn∧(fn.name== "runtime.NumGoroutine")=false∧fn.body.isSome=true
theorem jw{f:FuncId}(hc:jv P f)(args:Array Value):(callFunc f args).run P w=.ok (.enter f args) w:=by obtain⟨fn,h1,h2,h3⟩:=hc;obtain⟨c,hc⟩:=acv.1 h3;simp[callFunc,h1,hc,show ¬fn.name= "runtime.NumGoroutine" by simpa using h2]
def V5(P:Program)(ρC:Operand→Value)(o:Oper)(Z:Nat→Prop)(ψ:Nat→Value)(h:Hp)(w:World)(B0:Nat)(O N:Nat→Prop)(e:bq):Prop :=∃f args,(execOp ρC o).run P w=.ok (.enter f args) w∧Calls P f args w fun en w'=>∃V Z' ψ',en=.returned V∧Next Z ψ h w B0 O N Z' ψ' (e.hp h) w'∧au Z' ψ' (e.hp h) w' e.v V
def cx:(rs:List RK)→List AV→Nat→lQ rs→List yr
 |[],_,_,_=>[]
 |.own ok::r,vs,m,x=>(m,(pf (vs.headD .no)).head?,.own ok x.1)::cx r vs.tail (m+1) x.2
 |.val _::r,vs,m,x=>cx r vs.tail (m+1) x.2
 |.eI _ _::r,vs,m,x=>cx r vs.tail (m+1) x.2
 |.agg c::r,vs,m,x=>dE c m (vs.headD .no).cells x.1++cx r vs.tail (m+1) x.2
theorem gF:∀(rs:List RK) (vs:List AV) (m:Nat) (x:lQ rs),dy (cx rs vs m x)=ah rs m x
 |[],_,_,_=>rfl
 |.own ok::r,vs,m,x=>by simp only[cx,ah];rw[←gF r vs.tail (m+1) x.2];rfl
 |.val _::r,vs,m,x=>gF r vs.tail (m+1) x.2
 |.eI _ _::r,vs,m,x=>gF r vs.tail (m+1) x.2
 |.agg c::r,vs,m,x=>by have e1:dy (dE c m (vs.headD .no).cells x.1)=aS c m x.1:=ng c m _ x.1;have e2:=gF r vs.tail (m+1) x.2;simp only[cx,ah];rw[nh,e2];exact congrArg (·++_) e1
theorem fG:∀(rs:List RK) (vs:List AV) (m:Nat) (x:lQ rs),(cx rs vs m x).map (·.1)=bp rs m
 |[],_,_,_=>rfl
 |.own ok::r,vs,m,x=>by simp only[cx,bp,List.map_cons];rw[fG r vs.tail (m+1) x.2]
 |.val _::r,vs,m,x=>fG r vs.tail (m+1) x.2
 |.eI _ _::r,vs,m,x=>fG r vs.tail (m+1) x.2
 |.agg c::r,vs,m,x=>by have e1:(dE c m (vs.headD .no).cells x.1).map (·.1)=b8 c m:=lu c m _ x.1;have e2:=fG r vs.tail (m+1) x.2;simp only[cx,bp,List.map_append];rw[e2];exact congrArg (·++_) e1
theorem pN{bs:List BK}{k:K}{r:List RK}{hh:Heap}{ids:List Nat}{vs:List AV}{x:lQ (.val k::r)}(hd:bG bs (.val k::r) hh ids vs=some x):∃v hM,vs=v::hM∧fR k hh v=some x.1∧bG bs r hh ids hM=some x.2:=by
 cases vs with
 |nil=>cases hd
 |cons v vs =>
  have e:bG bs (.val k::r) hh ids (v::vs)=(match fR k hh v,bG bs r hh ids vs with
   |some x,some y=>some ((x,y):k.T×lQ r)
   |_,_=>none):=rfl
  rw[e]at hd;clear e;refine⟨v,vs,rfl,?_⟩;generalize fR k hh v=o1 at hd ⊢;generalize bG bs r hh ids vs=o2 at hd ⊢
  cases o1 with
  |none=>cases hd
  |some x1 =>
   cases o2 with
   |none=>cases hd
   |some y1=>have:=ab5 hd;subst this;exact⟨rfl,rfl⟩
theorem pO{bs:List BK}{ok:OK}{r:List RK}{hh:Heap}{ids:List Nat}{vs:List AV}{x:lQ (.own ok::r)}(hd:bG bs (.own ok::r) hh ids vs=some x):∃v hM,vs=v::hM∧dN hh ok v=some x.1∧bG bs r hh ids hM=some x.2:=by
 cases vs with
 |nil=>cases hd
 |cons v vs =>
  have e:bG bs (.own ok::r) hh ids (v::vs)=(match dN hh ok v,bG bs r hh ids vs with
   |some x,some y=>some ((x,y):ok.T×lQ r)
   |_,_=>none):=rfl
  rw[e]at hd;clear e;refine⟨v,vs,rfl,?_⟩;generalize dN hh ok v=o1 at hd ⊢;generalize bG bs r hh ids vs=o2 at hd ⊢
  cases o1 with
  |none=>cases hd
  |some x1 =>
   cases o2 with
   |none=>cases hd
   |some y1=>have:=ab5 hd;subst this;exact⟨rfl,rfl⟩
theorem ni{bs:List BK}{b:Nat}{alts:List (Nat×Nat×Nat)}{r:List RK}{hh:Heap}{ids:List Nat}{vs:List AV}{x:lQ (.eI b alts::r)}(hd:bG bs (.eI b alts::r) hh ids vs=some x):∃v hM,vs=v::hM∧nG bs hh ids b alts v=some x.1∧bG bs r hh ids hM=some x.2:=by
 cases vs with
 |nil=>cases hd
 |cons v vs =>
  have e:bG bs (.eI b alts::r) hh ids (v::vs)=(match nG bs hh ids b alts v,bG bs r hh ids vs with
   |some x,some y=>some ((x,y):Option (Fin alts.length×Nat)×lQ r)
   |_,_=>none):=rfl
  rw[e]at hd;clear e;refine⟨v,vs,rfl,?_⟩;generalize nG bs hh ids b alts v=o1 at hd ⊢;generalize bG bs r hh ids vs=o2 at hd ⊢
  cases o1 with
  |none=>cases hd
  |some x1 =>
   cases o2 with
   |none=>cases hd
   |some y1=>have:=ab5 hd;subst this;exact⟨rfl,rfl⟩
theorem pP{bs:List BK}{c:List CK}{r:List RK}{hh:Heap}{ids:List Nat}{vs:List AV}{x:lQ (.agg c::r)}(hd:bG bs (.agg c::r) hh ids vs=some x):∃cs hM,vs=.agg cs::hM∧cH c hh cs=some x.1∧bG bs r hh ids hM=some x.2:=by
 cases vs with
 |nil=>cases hd
 |cons v vs =>
  have e:bG bs (.agg c::r) hh ids (v::vs)=(match Av c hh v,bG bs r hh ids vs with
   |some x,some y=>some ((x,y):qO c×lQ r)
   |_,_=>none):=rfl
  rw[e]at hd;clear e;have key:Av c hh v=some x.1∧bG bs r hh ids vs=some x.2:=by
   generalize Av c hh v=o1 at hd ⊢;generalize bG bs r hh ids vs=o2 at hd ⊢
   cases o1 with
   |none=>cases hd
   |some x1 =>
    cases o2 with
    |none=>cases hd
    |some y1=>have:=ab5 hd;subst this;exact⟨rfl,rfl⟩
  obtain⟨h1,h2⟩:=key;unfold Av at h1
  split at h1
  ·exact⟨_,vs,rfl,h1,h2⟩
  ·cases h1
theorem hP{bs:List BK}{hh:Heap}{ids:List Nat}:∀(rs:List RK) (vs:List AV) (x:lQ rs),bG bs rs hh ids vs=some x→vs.length=rs.length
 |[],[],_,_=>rfl
 |[],_::_,_,h=>by cases h
 |.val k::r,vs,x,h=>by obtain⟨v,hM,rfl,_,h2⟩:=pN h;simp[hP r hM x.2 h2]
 |.own ok::r,vs,x,h=>by obtain⟨v,hM,rfl,_,h2⟩:=pO h;simp[hP r hM x.2 h2]
 |.eI _ _::r,vs,x,h=>by obtain⟨v,hM,rfl,_,h2⟩:=ni h;simp[hP r hM x.2 h2]
 |.agg _::r,vs,x,h=>by obtain⟨v,hM,rfl,_,h2⟩:=pP h;simp[hP r hM x.2 h2]
theorem iV{bs:List BK}{hh:Heap}{ids:List Nat}:∀(rs:List RK) (vs:List AV) (m:Nat) (x:lQ rs),bG bs rs hh ids vs=some x→(cx rs vs m x).filterMap (·.2.1)=dH rs vs
 |[],vs,_,_,_=>by cases vs<;>rfl
 |.own ok::r,vs,m,x,h=>by obtain⟨v,hM,rfl,_,h2⟩:=pO h;simp only[cx,dH,List.headD_cons,List.tail_cons];rw[dJ,iV r hM (m+1) x.2 h2];simp only[];rw[w6]
 |.val k::r,vs,m,x,h=>by obtain⟨v,hM,rfl,_,h2⟩:=pN h;simp only[cx,dH,List.tail_cons];exact iV r hM (m+1) x.2 h2
 |.eI _ _::r,vs,m,x,h=>by obtain⟨v,hM,rfl,_,h2⟩:=ni h;simp only[cx,dH,List.tail_cons];exact iV r hM (m+1) x.2 h2
 |.agg c::r,vs,m,x,h=>by obtain⟨cs,hM,rfl,h1,h2⟩:=pP h;simp only[cx,dH,List.headD_cons,List.tail_cons,AV.cells];have e1:(dE c m cs x.1).filterMap (·.2.1)=fM c cs:=pJ c m hh cs x.1 h1;rw[List.filterMap_append,iV r hM (m+1) x.2 h2];exact congrArg (·++_) e1
theorem jX{hd:Hp}{bs:List BK}{hh:Heap}{ids:List Nat}:∀(rs:List RK) (vs:List AV) (m:Nat) (x:lQ rs),bG bs rs hh ids vs=some x→(∀s∈dH rs vs,hd s=hh.get s)→∀e∈cx rs vs m x,vn Z ψ hd w h' ψ' e
 |[],_,_,_,_,_,e,he=>by simp[cx]at he
 |.own ok::r,vs,m,x,h,hk,e,he=>by
  obtain⟨v,hM,rfl,h1,h2⟩:=pO h;simp only[cx,dH,List.headD_cons,List.tail_cons]at he hk;rcases abw.1 he with rfl|he
  ·exact LS h1 fun s hs=>hk s (abK _ hs)
  ·exact jX r hM (m+1) x.2 h2 (fun s hs=>hk s (abx _ hs)) e he
 |.val k::r,vs,m,x,h,hk,e,he=>by obtain⟨v,hM,rfl,h1,h2⟩:=pN h;exact jX r hM (m+1) x.2 h2 hk e he
 |.eI _ _::r,vs,m,x,h,hk,e,he=>by obtain⟨v,hM,rfl,h1,h2⟩:=ni h;exact jX r hM (m+1) x.2 h2 hk e he
 |.agg c::r,vs,m,x,h,hk,e,he=>by
  obtain⟨cs,hM,rfl,h1,h2⟩:=pP h;simp only[cx,dH,List.headD_cons,List.tail_cons,AV.cells]at he hk;rcases ab0.1 he with he|he
  ·exact ss c m cs x.1 h1 (fun s hs=>hk s (abK _ hs)) e he
  ·exact jX r hM (m+1) x.2 h2 (fun s hs=>hk s (abx _ hs)) e he
theorem xd{hh:Heap}{id:Nat}:∀(de:List CK) (c n:Nat) (cs:List AV) (x:qO de),cH de hh cs=some x→fS de c=true→cs[mW de c]? = some (.bC id)→hh.get id≠none∧∃o,(n+c,some id,o)∈dE de n cs x
 |[],c,n,cs,x,_,h,_=>by simp[fS]at h
 |.val k::r,0,n,cs,x,_,h,_=>by simp[fS]at h
 |.val k::r,c+1,n,cs,x,hd,h,hc=>by obtain⟨_,h2⟩:=pI hd;obtain⟨h3,o,h4⟩:=xd r c (n+1) (cs.drop k.sz) x.2 h2 (by simpa[fS] using h) (by rw[List.getElem?_drop];simpa[mW] using hc);exact⟨h3,o,by rw[show n+(c+1)=n+1+c by omega];exact h4⟩
 |.own ok::r,0,n,cs,x,hd,h,hc=>by
  obtain⟨c0,cs',rfl,h1,h2⟩:=l8 hd;simp only[mW,List.getElem?_cons_zero,Option.some.injEq]at hc;subst hc;rcases l9 h1 with⟨h3,_⟩|⟨mP,h3,h4⟩
  ·cases h3
  ·cases h3
   exact⟨by rw[h4];simp,_,by simp only[dE,List.headD_cons,pf,List.head?_cons];exact abZ⟩
 |.own ok::r,c+1,n,cs,x,hd,h,hc=>by obtain⟨c0,cs',rfl,h1,h2⟩:=l8 hd;obtain⟨h3,o,h4⟩:=xd r c (n+1) cs' x.2 h2 (by simpa[fS] using h) (by simp only[mW]at hc;rw[Nat.add_comm]at hc;simpa using hc);exact⟨h3,o,by rw[show n+(c+1)=n+1+c by omega];simp only[dE,List.tail_cons];exact abq _ h4⟩
theorem Ba{hh:Heap}{id c:Nat}:∀(bs:List BK) (b n:Nat) (is is':List Nat) (x:wM bs) (bk:BK) (bi:Nat) (ty:TypeId) (cs:List AV),cS bs hh is=some x→is'.length=bs.length→bs[b]? = some bk→is[b]? = some bi→hh.get bi=some (.box ty cs) → fS bk.de c=true→cs[mW bk.de c]? = some (.bC id)→hh.get id≠none∧∃o,(n+16*b+c,some id,o)∈cv bs hh is is' n x
 |[],b,n,is,is',x,bk,bi,ty,cs,_,_,h,_,_,_,_=>by simp at h
 |b0::r,b,n,[],is',x,bk,bi,ty,cs,hd,_,_,_,_,_,_=>by cases hd
 |b0::r,b,n,i::is,[],x,bk,bi,ty,cs,_,hl,_,_,_,_,_=>by simp at hl
 |b0::r,0,n,i::is,i'::is',x,bk,bi,ty,cs,hd,hl,h1,h2,h3,h4,h5=>by
  obtain⟨g0,g3⟩:=fa hd;simp only[List.getElem?_cons_zero,Option.some.injEq]at h1 h2;subst h1;subst h2
  cases b0 with
  |own ok=>simp[BK.de,fS]at h4
  |box ty0 c0 =>
   obtain⟨cs',g1,g2⟩:=sr g0;rw[g1]at h3
   cases h3
   obtain⟨h6,o,h7⟩:=xd c0 c n cs x.1 g2 h4 h5;refine⟨h6,o,?_⟩;simp only[cv,dI];rw[pK g1];exact abK _ (abq _ (by simpa using h7))
 |b0::r,b+1,n,i::is,i'::is',x,bk,bi,ty,cs,hd,hl,h1,h2,h3,h4,h5=>by obtain⟨_,g3⟩:=fa hd;obtain⟨h6,o,h7⟩:=Ba r b (n+16) is is' x.2 bk bi ty cs g3 (by simpa using hl) (by simpa using h1) (by simpa using h2) h3 h4 h5;refine⟨h6,o,?_⟩;rw[show n+16*(b+1)+c=n+16+16*b+c by omega];simp only[cv];exact abx _ h7
theorem Bb{c:List CK}{cs:List AV}{id s off:Nat}{a:Nat×Nat×Nat}(h:ye c cs id s off a=true):cs[mW c a.1]? = some (.bC id)∧s=a.2.1∧off=a.2.2∧fS c a.1=true:=by
 simp only[ye,Bool.and_eq_true,decide_eq_true_eq]at h;obtain⟨h1,h2,h3,h4⟩:=h;refine⟨?_,h2,h3,h4⟩;unfold PD at h1
 split at h1
 ·rename_i e;rw[e];simp only[beq_iff_eq]at h1;rw[h1]
 ·cases h1
theorem ND{bs:List BK}{hh:Heap}{ids:List Nat}{b:Nat}{alts:List (Nat×Nat×Nat)}{v:AV}{x:Option (Fin alts.length×Nat)}(hd:nG bs hh ids b alts v=some x):(v=.lq∧x=none) ∨ ∃id i a bi bk ty cs,v=.ref id (alts.get a).2.1 i (alts.get a).2.2∧x=some (a,i)∧ids[b]? = some bi∧bs[b]? = some bk∧hh.get bi=some (.box ty cs)∧cs[mW bk.de (alts.get a).1]? = some (.bC id)∧fS bk.de (alts.get a).1=true:=by
 unfold nG at hd
 split at hd
 ·cases hd;exact .inl ⟨rfl,rfl⟩
 ·rename_i id s i off
  split at hd
  ·rename_i bi bk h1 h2
   split at hd
   ·rename_i ty cs h3
    split at hd
    ·rename_i a h4
     cases hd
     have h4':ye bk.de cs id s off (alts.get a)=true:=by simpa using adP (p:=fun a=>ye bk.de cs id s off (alts.get a)) h4
     obtain⟨h5,rfl,rfl,h6⟩:=Bb h4';exact .inr ⟨id,i,a,bi,bk,ty,cs,rfl,rfl,h1,h2,h3,h5,h6⟩
    ·cases hd
   ·cases hd
  ·cases hd
 ·cases hd
theorem sx{bs:List BK}{hh:Heap}{ids is' ids2:List Nat}{nb:Nat}{yb:wM bs}(g:Good Z ψ hh.get w B0 O)(hz:∀b,Z b→Z' b)(hb:cS bs hh ids=some yb)(hl:is'.length=bs.length) (P6:∀e∈cv bs hh ids is' nb yb,h' e.1≠none→ψ' e.1=jV ψ e.2.1):∀(rs:List RK) (vs:List AV) (m:Nat) (x:lQ rs) (us:List Value),bG bs rs hh ids vs=some x →(∀id b,AV.bC id∈fY rs vs→hh.get id≠none→ob (ψ id)=some b→Z' b)→(∀e∈cx rs vs m x,h' e.1≠none→ψ' e.1=jV ψ e.2.1)→an Z ψ hh.get w vs us→an Z' ψ' h' w (aP rs ids2 nb m x) us
 |[],vs,m,x,us,hd,_,_,hr=>by have:=hP [] vs x hd;have hv:vs=[]:=ace this;subst hv;simpa only[aP,an] using hr
 |.val k::r,vs,m,x,us,hd,hf,jm,hr=>by obtain⟨v,hM,rfl,h1,h2⟩:=pN hd;simp only[an]at hr;obtain⟨u,iI,rfl,h3,h4⟩:=hr;simp only[aP,an];simp only[fY]at hf;exact⟨u,iI,rfl,si g hz (fun id b br=>hf id b (abK _ br)) h1 h3,sx g hz hb hl P6 r hM (m+1) x.2 iI h2 (fun id b br=>hf id b (abx _ br)) jm h4⟩
 |.own ok::r,vs,m,x,us,hd,hf,jm,hr=>by obtain⟨v,hM,rfl,h1,h2⟩:=pO hd;simp only[an]at hr;obtain⟨u,iI,rfl,h3,h4⟩:=hr;simp only[aP,an];simp only[cx,List.headD_cons,List.tail_cons]at jm;exact⟨u,iI,rfl,Fx h1 h3 (fun hn=>jm _ abZ hn),sx g hz hb hl P6 r hM (m+1) x.2 iI h2 hf (fun e he=>jm e (abq _ he)) h4⟩
 |.eI b alts::r,vs,m,x,us,hd,hf,jm,hr=>by
  obtain⟨v,hM,rfl,h1,h2⟩:=ni hd;simp only[an]at hr;obtain⟨u,iI,rfl,h3,h4⟩:=hr;simp only[aP,an];refine⟨u,iI,rfl,?_,sx g hz hb hl P6 r hM (m+1) x.2 iI h2 hf jm h4⟩;rcases ND h1 with⟨rfl,h5⟩|⟨id,i,al,bi,bk,ty,cs,rfl,h5,h6,h7,h8,h9,lY⟩
  ·have:x.1=none:=h5;rw[this];simpa only[uR,au] using h3
  ·have:x.1=some (al,i):=h5;rw[this];obtain⟨zj,o,JG⟩:=Ba bs b nb ids is' yb bk bi ty cs hb hl h7 h6 h8 lY h9;simp only[uR,au]at h3 ⊢;obtain⟨ad,TD,V6⟩:=h3;refine⟨ad,TD,fun hn=>?_⟩;rw[P6 _ JG hn,V6 zj];rfl
 |.agg c::r,vs,m,x,us,hd,hf,jm,hr=>by obtain⟨cs,hM,rfl,h1,h2⟩:=pP hd;simp only[an]at hr;obtain⟨u,iI,rfl,h3,h4⟩:=hr;simp only[aP,an];simp only[fY,AV.cells]at hf;simp only[cx,List.headD_cons,List.tail_cons,AV.cells]at jm;refine⟨u,iI,rfl,?_,sx g hz hb hl P6 r hM (m+1) x.2 iI h2 (fun id b br=>hf id b (abx _ br)) (fun e he=>jm e (abx _ he)) h4⟩;simp only[au]at h3 ⊢;obtain⟨ws,rfl,h5⟩:=h3;exact⟨ws,rfl,sq g hz c m cs x.1 _ h1 (fun id b br=>hf id b (abK _ br)) (fun e he=>jm e (abK _ he)) h5⟩
end Go.Vs
