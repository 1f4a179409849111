/- The value semantics is sound -/
import Derived.Test.YtpkfpbpbkabkdaaGreatEngineA
import Derived.Laws.StructEq
import Derived.Laws.Slices
import Derived.Laws.Strings
import Derived.MapKept
set_option linter.unusedSimpArgs false
set_option linter.unusedVariables false
namespace Go.Vs
variable {P:Program} {Z Z':Nat→Prop} {ψ ψ':Nat→Value} {h h':Hp} {w w':World} {B0:Nat} {O:Nat→Prop} {N:Nat→Prop}
def bE.hp(h:Hp):bE→Hp
 |.val _=>h
 |.new _ os=>fun i=>match Heap.get os i with
  |some o=>some o
  |none=>h i
 |.wr _ h'=>h'.get
theorem hZ(id:Nat)(o:Ob)(h:Hp):(fun i=>match Heap.get [(id,o)] i with|some o=>some o|none=>h i)=dA h id (some o):=by
 funext i;simp only[Heap.get,dA];by_cases e:i=id
 ·subst e;simp
 ·rw[if_neg (fun x=>e x.symm),if_neg e]
theorem mh(hh:Heap)(id:Nat)(o:Ob):(hh.set id o).get=dA hh.get id (some o):=by
 funext i;by_cases e:i=id
 ·subst e;rw[Heap.Ek,bg]
 ·rw[Heap.I6 e,cX _ _ e]
theorem uf(hh:Heap)(id:Nat):(hh.del id).get=dA hh.get id none:=by
 funext i;by_cases e:i=id
 ·subst e;rw[Heap.gh,bg]
 ·rw[Heap.hP e,cX _ _ e]
theorem zR(hh:Heap)(id:Nat)(o:Ob):Heap.get ((id,o)::hh)=dA hh.get id (some o):=by
 funext i;simp only[Heap.get,dA];by_cases e:i=id
 ·subst e;simp
 ·rw[if_neg (fun x=>e x.symm),if_neg e]
def gI(P:Program)(ρC:Operand→Value)(o:Oper)(Z:Nat→Prop)(ψ:Nat→Value)(h:Hp)(w:World)(B0:Nat)(O N:Nat→Prop)(e:bE):Prop :=∃V w' Z' ψ',((execOp ρC o).run P w=.ok (.value V) w'∨((execOp ρC o).run P w=.ok .skip w'∧V=undef))∧Next Z ψ h w B0 O N Z' ψ' (e.hp h) w'∧av Z' ψ' (e.hp h) w' e.v V
theorem gI.val{ρC:Operand→Value}{o:Oper}{x:AV}(g:Good Z ψ h w B0 O){V:Value}(hr:(execOp ρC o).run P w=.ok (.value V) w)(hx:av Z ψ h w x V):gI P ρC o Z ψ h w B0 O N (.val x) :=⟨V,w,Z,ψ,.inl hr,Next.refl g,hx⟩
theorem Ox{ty:TypeId}{k:K}{xs:List k.T}{id n:Nat}{x:k.T}(g:Good Z ψ h w B0 O)(hg:h id=some (.own (.row ty k) xs))(hx:xs[n]? = some x) :
  ∃gg us,SV (ψ id)=gg∧aD Z w k x us∧∀(j:Nat) u,us[j]? = some u→w.cell? ⟨gg,n*k.sz+j,none⟩=some u:=by
 obtain⟨vs,ho,hv⟩:=g.row id (.row ty k) xs hg;have hn:n<xs.length:=(ack.1 hx).1;obtain⟨hl,e⟩:=ho;rcases e with⟨h0,_⟩|⟨gg,cap,cur,e1,_,e3,_,_,_,e7⟩
 ·omega
 ·refine⟨gg,_,by rw[e1];rfl,hv n x hx,fun j u hu=>?_⟩;rw[List.getElem?_take]at hu
  split at hu
  ·rw[List.getElem?_drop,←e7,List.getElem?_take]at hu
   split at hu
   ·simp only[World.cell?,e3];simpa using hu
   ·cases hu
  ·cases hu
theorem s5{hh:Heap}(g:Good Z ψ h w B0 O)(bu:∀id o,hh.get id=some o→h id=some o){t:TypeId}{a:AV}{v:Value}{e:bE}(hv:av Z ψ h w a v)(he:ll P hh t a some=some e) :
  ∃x V,e=.val x∧(Instr.loadAt t v).run P w=.ok V w∧av Z ψ h w x V:=by
 unfold ll at he
 split at he
 ·rename_i id s i off;simp only[av]at hv;obtain⟨a,rfl,ha⟩:=hv
  split at he
  ·rename_i ty cs hg;have zT:=bu _ _ hg;have FY:=ha (by rw[zT];simp);obtain⟨gg,vs,e1,e2,e3,e4⟩:=g.box id ty cs zT
   split at he
   ·rename_i hi;subst hi
    split at he
    ·rename_i x hx
     cases he
     rw[e1]at FY;simp only[SV,Nat.zero_mul,Nat.zero_add]at FY;subst FY;obtain⟨V,h1,h2⟩:=jv (a:=⟨gg,off,none⟩) (e3.drop off) (fun j u hu=>by rw[cG];simp only[World.cell?,e2];rw[List.getElem?_drop]at hu;simpa using hu) hx;exact⟨x,V,rfl,h1,h2⟩
    ·cases he
   ·cases he
  ·rename_i ty kk xs hg;have zT:=bu _ _ hg;have FY:=ha (by rw[zT];simp)
   split at he
   ·rename_i hs;subst hs;obtain⟨x,hx,he⟩:=adp.1 he
    split at he
    ·rename_i y hy
     cases he
     obtain⟨gg,us,h1,h2,h3⟩:=Ox g zT hx;rw[h1]at FY;subst FY;obtain⟨V,h4,h5⟩:=jv (a:=⟨gg,i*kk.sz+off,none⟩) ((fH (ψ:=ψ) (h:=h) h2).drop off) (fun j u hu=>by rw[cG,Nat.add_assoc];exact h3 _ _ (by rw[List.getElem?_drop]at hu;exact hu)) hy;exact⟨y,V,rfl,h4,h5⟩
    ·cases he
   ·cases he
  ·cases he
 ·rename_i kk x off
  split at he
  ·rename_i y hy
   cases he
   simp only[av]at hv;obtain⟨a,us,rfl,_,h2,h3⟩:=hv;obtain⟨V,h4,h5⟩:=jv ((fH (ψ:=ψ) (h:=h) h2).drop off) (fun j u hu=>h3 j u (by rw[List.getElem?_drop]at hu;exact hu)) hy;exact⟨y,V,rfl,h4,h5⟩
  ·cases he
 ·cases he
theorem mP{t e:TypeId}(he:w7 P t=some e):P.underlying t=some (.slice e):=by
 unfold w7 at he
 split at he
 ·cases he;assumption
 ·cases he
theorem mQ{t e:TypeId}(ht:P.underlying t=some (.slice e)){i:TypeInfo}(hi:P.info? e=some i)(a:Addr)(n c:Nat)(k:IntKind)(j:Int)(h0:0≤j)(h1:j<n) :
  (Instr.indexAt t (.slice (some a) n c) (.int k j)).run P w=.ok (.pointer (some (a.add (j.toNat*P.cellsOf e)))) w:=by
 simp[Instr.indexAt,asIntOf,run_underlying ht,h0,h1,du hi]
theorem Mc{α:Type}{xs:List α}{i:Int}{x:α}(hx:aT xs i=some x):0≤i∧i<xs.length∧xs[i.toNat]? = some x:=by
 unfold aT at hx
 split at hx
 ·rename_i h0;have:=(ack.1 hx).1;exact⟨h0,by omega,hx⟩
 ·cases hx
theorem pn{hh:Heap}(g:Good Z ψ h w B0 O)(bu:∀id o,hh.get id=some o→h id=some o){t:TypeId}{x i:AV}{v u:Value}{e:bE}(hv:av Z ψ h w x v)(hu:av Z ψ h w i u)(he:dt P hh t x i some=some e) :
  ∃y V,e=.val y∧(Instr.indexAt t v u).run P w=.ok V w∧av Z ψ h w y V:=by
 unfold dt at he
 split at he
 ·cases he
 ·rename_i et het;have ht:=mP het
  ·skip
   split at he
   ·rename_i ex KK xs ik n;simp only[av]at hv hu;subst hu
    split at he
    ·rename_i hs;obtain⟨y,hy,he⟩:=adp.1 he
     cases he
     obtain⟨h0,h1,h2⟩:=Mc hy;obtain⟨hk,_⟩:=hv;simp only[aD]at hk;obtain⟨v',zU,A,c,rfl,_,_,IL⟩:=hk
     cases zU
     obtain⟨a,us,rfl,hz,hr,hc⟩:=IL _ _ h2;have hi:∃i,P.info? et=some i:=by
      cases hi:P.info? et with
      |some i=>exact⟨i,rfl⟩
      |none=>exfalso;have:=KK.hM;simp[Program.cellsOf,hi]at hs;omega
     obtain⟨inf,hi⟩:=hi;refine⟨_,_,rfl,mQ ht hi a xs.length c ik n h0 h1,?_⟩;simp only[av];refine⟨_,us,rfl,by rw[eT];exact hz,hr,fun j u hu=>?_⟩;rw[tV,hs];exact hc j u (by simpa using hu)
    ·cases he
   ·rename_i id ik n
    split at he
    ·rename_i ty KK xs hg;have zT:=bu _ _ hg
     split at he
     ·rename_i hs
      cases zQ:(decide (0≤n)&&decide (n<(xs.length:Int))) with
      |false=>rw[zQ]at he;cases he
      |true =>
       rw[zQ]at he
       cases he
       simp only[Bool.and_eq_true,decide_eq_true_eq]at zQ;simp only[av]at hv hu;subst hu;have hvv:=hv.2 (by rw[zT];simp);obtain⟨vs,⟨_,e⟩,_⟩:=g.row id (.row ty KK) xs zT;rcases e with⟨h0,_⟩|⟨gg,cap,cur,e1,_,e3,_⟩
       ·omega
       ·have hi:∃i,P.info? et=some i:=by
         cases hi:P.info? et with
         |some i=>exact⟨i,rfl⟩
         |none=>exfalso;have:=KK.hM;simp[Program.cellsOf,hi]at hs;omega
        obtain⟨inf,hi⟩:=hi;rw[hvv,e1];refine⟨_,_,rfl,mQ ht hi _ xs.length cap ik n zQ.1 zQ.2,?_⟩;simp only[av];refine⟨_,rfl,fun _=>?_⟩;rw[e1,hs,cG];simp[SV]
     ·cases he
    ·cases he
   ·cases he
theorem sj{t:TypeId}(h:P.cellsOf t≠0):∃i,P.info? t=some i:=by
 cases hi:P.info? t with
 |some i=>exact⟨i,rfl⟩
 |none=>exact absurd (by simp[Program.cellsOf,hi]) h
theorem so{t:TypeId}{f n:Nat}{ft:TypeId}(hf:gG P t f=some (n,ft))(hc:P.cellsOf ft≠0)(a:Addr) :
  (Instr.fieldAt t (.pointer (some a)) f).run P w=.ok (.pointer (some (a.add n))) w:=by
 unfold gG at hf
 split at hf
 ·rename_i fs ht;obtain⟨fd,hfd,he⟩:=ads.1 hf
  cases he
  obtain⟨i,hi⟩:=sj hc;have hs:=du (P:=P) (w:=w) hi;simp only[Instr.fieldAt,Sem.run_bind,run_underlying ht,Result.andThen_ok,hfd,Instr.sureAddr,Sem.run_pure,fieldPlace,hs];rw[if_neg hc];rfl
 ·cases hf
theorem sq{t:TypeId}{f n:Nat}{ft:TypeId}(hf:gG P t f=some (n,ft))(hc:P.cellsOf ft≠0){id s i off:Nat}{v:Value}(hv:av Z ψ h w (.ref id s i off) v) :
  ∃V,(Instr.fieldAt t v f).run P w=.ok V w∧av Z ψ h w (.ref id s i (off+n)) V:=by
 simp only[av]at hv ⊢;obtain⟨a,rfl,ha⟩:=hv;refine⟨_,so hf hc a,_,rfl,fun bL=>?_⟩;rw[ha bL,cG,Nat.add_assoc]
theorem uh{t:TypeId}{f n:Nat}{ft:TypeId}(hf:gG P t f=some (n,ft))(hc:P.cellsOf ft≠0){k:K}{x:k.T}{off:Nat}{v:Value}(hv:av Z ψ h w (.fp k x off) v) :
  ∃V,(Instr.fieldAt t v f).run P w=.ok V w∧av Z ψ h w (.fp k x (off+n)) V:=by
 simp only[av]at hv ⊢;obtain⟨a,us,rfl,hz,hr,C1⟩:=hv;refine⟨_,so hf hc a,_,us,rfl,by rw[eT];exact hz,hr,fun j u hu=>?_⟩;rw[tV];exact C1 (n+j) u (by rw[←Nat.add_assoc];exact hu)
theorem F9{t ft:TypeId}{f n:Nat}(hf:gG P t f=some (n,ft)){cs:List AV}{x:AV}{v:Value}(hv:av Z ψ h w (.agg cs) v)(hx:dO P ft (cs.drop n)=some x) :
  ∃V,(Instr.field t v f).run P w=.ok V w∧av Z ψ h w x V:=by
 simp only[av]at hv;obtain⟨vs,rfl,hl⟩:=hv;have hd:=hl.drop n;have hlen:=hd.length;unfold gG at hf
 split at hf
 ·rename_i fs ht;obtain⟨fd,hfd,he⟩:=ads.1 hf
  cases he
  unfold dO at hx
  split at hx
  ·rename_i hb
   split at hx
   ·rename_i hle
    cases hx
    obtain⟨i,hi⟩:=xf hb;refine⟨.agg (vs.extract fd.offset (fd.offset+P.cellsOf fd.type)),?_,?_⟩
    ·simp[Instr.field,run_underlying ht,hfd,asAgg,part,fP hb,du hi]
    ·simp only[av];refine⟨_,rfl,?_⟩;rw[Array.toList_extract,List.extract_eq_take_drop,Nat.add_sub_cancel_left];exact hd.take _
   ·cases hx
  ·rename_i hb
   split at hx
   ·rename_i c r hcr
    cases hx
    rw[hcr]at hd;simp only[ak]at hd;obtain⟨u,us,hu,h1,_⟩:=hd;refine⟨u,?_,h1⟩;have hg:vs[fd.offset]? = some u:=by
     have:(vs.toList.drop fd.offset)[0]? = some u:=by rw[hu];rfl
     rw[List.getElem?_drop]at this;simpa using this
    simp[Instr.field,run_underlying ht,hfd,asAgg,part,fP hb,hg]
   ·cases hx
  ·cases hx
 ·cases hf
theorem Md{hh:Heap}(g:Good Z ψ h w B0 O)(bu:∀id o,hh.get id=some o→h id=some o){x:AV}{v:Value}{e:bE}(hv:av Z ψ h w x v)(he:CX hh x some=some e) :
  ∃n:Nat,e=.val (.int .i64 (n:Int))∧((∃s,x=.str s∧v=.string s∧n=s.size)∨∃A c,v=.slice A n c):=by
 unfold CX at he
 split at he
 ·rename_i s hs
  cases he
  have hx:x=.str s:=by
   cases x with
   |bF id=>simp only[cE]at hs;split at hs<;>cases hs
   |str s'=>simp only[cE]at hs;exact hs
   |_=>simp only[cE]at hs<;>cases hs
  subst hx;simp only[av]at hv;exact⟨_,rfl,.inl ⟨s,rfl,hv,rfl⟩⟩
 ·rename_i ex k xs hs
  cases he
  have Oy:=C0 (Z':=fun b=>Z b∨Own ψ h b) (g.sub bu) (fun b hb=>.inl hb) (fun id b _ bq hb=>.inr (by obtain⟨o,ho⟩:=ade.1 bq;exact⟨id,by rw[bu id o ho];simp,hb⟩)) (hv.pM bu);rw[hs]at Oy;simp only[av,aD]at Oy;obtain⟨⟨v',zU,A,c,rfl,_⟩,_⟩:=Oy
  cases zU
  exact⟨_,rfl,.inr ⟨A,c,rfl⟩⟩
 ·rename_i hs
  cases he
  have hx:x=.fK:=by
   cases x with
   |bF id=>simp only[cE]at hs;split at hs<;>cases hs
   |fK=>rfl
   |_=>simp only[cE]at hs<;>cases hs
  subst hx;simp only[av]at hv;exact⟨0,rfl,.inr ⟨_,_,hv⟩⟩
 ·cases he
def dU(Z:Nat→Prop)(ψ:Nat→Value)(h:Hp)(w:World):Option AV→Option Value→Prop
 |none,none=>True
 |some a,some v=>av Z ψ h w a v
 |_,_=>False
theorem cf(k:IntKind)(i:Int)(y:Nat)(code:BoundsCode)(h0:0≤i)(h1:i≤y):(Instr.sliceBound (.int k i) y code).run P w=.ok i.toNat w:=by simp[Instr.sliceBound,asIntOf,h0,h1]
theorem s6{b:Bool}{n c:Nat}(hc:n≤c){lo hi mx:Option AV}{KP sX mx':Option Value}{l u:Int}(h1:dU Z ψ h w lo KP)(h2:dU Z ψ h w hi sX)(h3:dU Z ψ h w mx mx') (hb:ng n lo hi=some (l,u)) (ho:aH n l u=true) (hm:mx=none∨(mx=some (.int .i64 u)∧hi≠none)) :
  (Instr.sliceBounds b n c KP sX mx').run P w=.ok (l.toNat,u.toNat,if mx=none then c else u.toNat) w:=by
 simp only[aH,Bool.and_eq_true,decide_eq_true_eq]at ho;obtain⟨h4,h5,h6⟩:=ho;have huc:u≤(c:Int):=by omega
 unfold ng at hb;rcases hm with rfl|⟨rfl,bq⟩
 ·cases mx' with
  |some _=>exact h3.elim
  |none =>
   split at hb
   all_goals first|(cases hb;done)|skip
   ·cases hb
    cases KP with
    |some _=>exact h1.elim
    |none =>
     cases sX with
     |some _=>exact h2.elim
     |none=>simp[Instr.sliceBounds]
   ·cases hb
    cases KP with
    |none=>exact h1.elim
    |some v =>
     simp only[dU,av]at h1;subst h1
     cases sX with
     |some _=>exact h2.elim
     |none=>simp[Instr.sliceBounds,cf .i64 l n _ h4 h5]
   ·cases hb
    cases KP with
    |some _=>exact h1.elim
    |none =>
     cases sX with
     |none=>exact h2.elim
     |some v =>
      simp only[dU,av]at h2;subst h2
      cases b<;>simp[Instr.sliceBounds,cf .i64 u c _ (by omega) huc]
   ·cases hb
    cases KP with
    |none=>exact h1.elim
    |some v =>
     simp only[dU,av]at h1;subst h1
     cases sX with
     |none=>exact h2.elim
     |some v =>
      simp only[dU,av]at h2;subst h2;have hx:l≤((u.toNat:Nat):Int):=by omega
      cases b<;>simp[Instr.sliceBounds,cf .i64 u c _ (by omega) huc,cf .i64 l u.toNat _ h4 hx]
 ·cases mx' with
  |none=>exact h3.elim
  |some m =>
   simp only[dU,av]at h3;subst h3;have huu:u≤((u.toNat:Nat):Int):=by omega
   have hx:l≤((u.toNat:Nat):Int):=by omega
   split at hb
   all_goals first|(cases hb;done)|skip
   ·exact absurd rfl bq
   ·exact absurd rfl bq
   ·cases hb
    cases KP with
    |some _=>exact h1.elim
    |none =>
     cases sX with
     |none=>exact h2.elim
     |some v =>
      simp only[dU,av]at h2;subst h2
      cases b<;>simp[Instr.sliceBounds,cf .i64 u c _ (by omega) huc,cf .i64 u u.toNat _ (by omega) huu]
   ·cases hb
    cases KP with
    |none=>exact h1.elim
    |some v =>
     simp only[dU,av]at h1;subst h1
     cases sX with
     |none=>exact h2.elim
     |some v =>
      simp only[dU,av]at h2;subst h2
      cases b<;>simp[Instr.sliceBounds,cf .i64 u c _ (by omega) huc,cf .i64 u u.toNat _ (by omega) huu,cf .i64 l u.toNat _ h4 hx]
theorem zX{t e:TypeId}(ht:P.underlying t=some (.slice e)){kk:K}(iF:P.cellsOf e=kk.sz){xs:List kk.T}{v:Value}(hr:aD Z w (.sl kk) xs [v]){lo hi mx:Option AV}{KP sX mx':Option Value}{l u:Int} (h1:dU Z' ψ h w lo KP) (h2:dU Z' ψ h w hi sX) (h3:dU Z' ψ h w mx mx') (hb:ng xs.length lo hi=some (l,u)) (ho:aH xs.length l u=true) (hm:mx=none∨(mx=some (.int .i64 u)∧hi≠none)) :
  ∃V,(Instr.sliceAt t v KP sX mx').run P w=.ok V w∧aD Z w (.sl kk) (cut xs l u) [V]∧(mx≠none→∃A c,V=.slice A c c):=by
 simp only[aD]at hr;obtain⟨v',zU,A,c,rfl,hl,hn,IL⟩:=hr
 cases zU
 have dn:=s6 (P:=P) (w:=w) (b:=true) hl h1 h2 h3 hb ho hm;simp only[aH,Bool.and_eq_true,decide_eq_true_eq]at ho;obtain⟨h4,h5,h6⟩:=ho;obtain⟨i,hi⟩:=sj (P:=P) (t:=e) (by have:=kk.hM;omega);generalize N2:(if mx=none then c else u.toNat)=m at dn;have hmu:u.toNat≤m:=by
  rcases hm with rfl|⟨rfl,_⟩
  ·simp at N2;omega
  ·simp at N2;omega
 have hmc:m≤c:=by
  rcases hm with rfl|⟨rfl,_⟩
  ·simp at N2;omega
  ·simp at N2;omega
 have rU:(cut xs l u).length=u.toNat-l.toNat:=by unfold cut;rw[List.length_drop,List.length_take];omega
 refine⟨.slice (if m=l.toNat then A else A.map (·.add (l.toNat*P.cellsOf e))) (u.toNat-l.toNat) (m-l.toNat),?_,?_,?_⟩
 ·simp[Instr.sliceAt,Instr.slice,run_underlying ht,dn,du hi]
 ·simp only[aD];refine⟨_,rfl,_,_,by rw[rU],by rw[rU];omega,fun hA=>?_,fun j x hx=>?_⟩
  ·split at hA
   ·have:=hn hA;omega
   ·cases A with
    |none=>have:=hn rfl;omega
    |some a=>cases hA
  ·have hj:j<u.toNat-l.toNat:=by rw[←rU];exact(ack.1 hx).1
   have YQ:xs[l.toNat+j]? = some x:=by unfold cut at hx;rw[List.getElem?_drop,List.getElem?_take,if_pos (by omega)]at hx;exact hx
   obtain⟨a,us,rfl,hz,hr,hc⟩:=IL _ _ YQ;refine⟨a.add (l.toNat*P.cellsOf e),us,by rw[if_neg (by omega)];rfl,by rw[eT];exact hz,hr,fun q y hy=>?_⟩;rw[tV,iF];have:=hc q y hy;rw[Nat.add_mul]at this;rw[←Nat.add_assoc];exact this
 ·intro bq;rcases hm with rfl|⟨rfl,_⟩
  ·exact absurd rfl bq
  ·simp at N2;exact⟨_,_,by rw[←N2]⟩
theorem Ga{hh:Heap}(g:Good Z ψ h w B0 O)(_:∀id o,hh.get id=some o→h id=some o){t e:TypeId}(ht:P.underlying t=some (.slice e)){x:AV}{v:Value}{lo hi mx:Option AV}{KP sX mx':Option Value}{ef:bE} (hv:av Z ψ h w x v) (h1:dU Z ψ h w lo KP) (h2:dU Z ψ h w hi sX) (h3:dU Z ψ h w mx mx') (me:∀y hw,ef=.wr y hw→hh.get=h) (he:od hh (P.cellsOf e) x lo hi mx some=some ef) (Wq:(P.info? e).isSome=true) :
  ∃V Z',(Instr.sliceAt t v KP sX mx').run P w=.ok V w∧Next Z ψ h w B0 O N Z' ψ (ef.hp h) w∧av Z' ψ (ef.hp h) w ef.v V:=by
 unfold od at he
 split at he
 ·
  simp only[av]at hv;subst hv
  split at he
  ·rename_i l u hb
   cases ho:aH 0 l u with
   |false=>rw[ho]at he;cases he
   |true =>
    rw[ho]at he
    cases he
    have dn:=s6 (P:=P) (w:=w) (b:=true) (adg 0) h1 h2 h3 hb ho (.inl rfl);simp only[aH,Bool.and_eq_true,decide_eq_true_eq]at ho;have hl0:l.toNat=0:=by omega
    have hu0:u.toNat=0:=by omega
    obtain⟨i,hi⟩:=adi.1 Wq;refine⟨.slice none 0 0,Z,?_,Next.refl g,by simp only[bE.v,av]⟩;rw[hl0,hu0]at dn;simp[Instr.sliceAt,Instr.slice,run_underlying ht,dn,du hi]
  ·cases he
 ·
  rename_i ex kk xs;simp only[av]at hv
  split at he
  ·rename_i iF
   split at he
   ·rename_i l u hb
    split at he
    ·cases ho:aH xs.length l u with
     |false=>rw[ho]at he;cases he
     |true =>
      rw[ho]at he
      cases he
      obtain⟨V,h4,h5,_⟩:=zX (P:=P) ht iF hv.1 h1 h2 h3 hb ho (.inl rfl);exact⟨V,Z,h4,Next.refl g,by simp only[bE.v,bE.hp,av];exact⟨h5,by simp⟩⟩
    ·rename_i m
     cases ho:(aH xs.length l u&&(hi.isSome&&decide (m=u))) with
     |false=>rw[ho]at he;cases he
     |true =>
      rw[ho]at he
      cases he
      simp only[Bool.and_eq_true,decide_eq_true_eq]at ho;obtain⟨ho,hhi,rfl⟩:=ho;obtain⟨V,h4,h5,h6⟩:=zX (P:=P) ht iF hv.1 h1 h2 h3 hb ho (.inr ⟨rfl,by intro e;rw[e]at hhi;cases hhi⟩);exact⟨V,Z,h4,Next.refl g,by simp only[bE.v,bE.hp,av];exact⟨h5,fun _=>h6 (by simp)⟩⟩
    ·cases he
   ·cases he
  ·cases he
 ·cases he
def lr(P:Program)(t:TypeId)(k:K):Prop :=∀(Z:Nat→Prop) (w:World) (x y:k.T) (xs ys:Array Value),aD Z w k x xs.toList→aD Z w k y ys.toList →(Op.equal t (.agg xs) (.agg ys)).run P w=.ok (qT k x y) w∧(∀(op:BinOp) (a b:Operand),(eqGuard op t a b (.agg xs) (.agg ys)).run P w=.ok () w)∧∀e:Bool,(Instr.checkKey e 10000 t (.agg xs)).run P w=.ok () w
theorem vR(op:BinOp)(t:TypeId)(a b:Operand)(k k':IntKind)(x y:Int):(eqGuard op t a b (.int k x) (.int k' y)).run P w=.ok () w:=by cases op<;>simp[eqGuard]
theorem Me(op:BinOp)(t:TypeId)(a b:Operand)(x y:ByteArray):(eqGuard op t a b (.string x) (.string y)).run P w=.ok () w:=by cases op<;>simp[eqGuard]
theorem Jc(op:BinOp)(t:TypeId)(a b:Operand)(x y:Bool):(eqGuard op t a b (.bool x) (.bool y)).run P w=.ok () w:=by cases op<;>simp[eqGuard]
theorem C4(op:BinOp)(t:TypeId)(a b:Operand)(x y:Option Addr):(eqGuard op t a b (.pointer x) (.pointer y)).run P w=.ok () w:=by cases op<;>simp[eqGuard]
def bR:AV→Value
 |.bool b=>.bool b
 |.int k n=>.int k n
 |.str s=>.string s
 |_=>undef
theorem jw(k:IntKind)(n:Int):av Z ψ h w (.int k n) (bR (.int k n)):=by simp only[av,bR]
theorem dV(b:Bool):av Z ψ h w (.bool b) (bR (.bool b)):=by simp only[av,bR]
theorem jN{t e:TypeId}(ht:P.underlying t=some (.pointer e))(a:Option Addr):(Op.equal t (.pointer a) (.pointer none)).run P w=.ok a.isNone w:=by
 have key:∀d,(Op.equalIn (d+1) t (.pointer a) (.pointer none)).run P w=.ok a.isNone w:=fun d=>by cases a<;>simp[Op.equalIn,run_underlying ht]
 exact key 9999
theorem Oz{op:BinOp}{t:TypeId}{k:IntKind}{a b:Int}{v:AV}(hv:Wc op k a b=some v):∃V,(binOp op t (.int k a) (.int k b)).run P w=.ok V w∧av Z ψ h w v V:=by
 cases op<;>simp only[Wc]at hv<;>cases hv<;>first
  |(refine⟨bR (.int _ _),?_,jw _ _⟩;simp[binOp,Op.intArith,Op.intCmp,bR];done)
  |(refine⟨bR (.bool _),?_,dV _⟩;simp[binOp,Op.intArith,Op.intCmp,bR];done)
  |(refine⟨bR (.int _ _),?_,jw _ _⟩;simp only[binOp,bR,ne_eq,not_true_eq_false,if_false];rfl)
theorem Mf{Eqs:TypeId→Option K}(Cn:∀t k,Eqs t=some k→lr P t k){op:BinOp}{t:TypeId}{xo yo:Operand}{x y:AV}{u v:Value}{e:bE}(hu:av Z ψ h w x u)(hv:av Z ψ h w y v)(he:w8 P Eqs op t x y some=some e) :
  ∃r V,e=.val r∧((do eqGuard op t xo yo u v;binOp op t u v:Sem Value)).run P w=.ok V w∧av Z ψ h w r V:=by
 unfold w8 at he
 split at he
 ·rename_i k a k' b;simp only[av]at hu hv;subst hu;subst hv
  split at he
  ·cases hb:decide (b<0) with
   |true=>rw[hb]at he;cases he
   |false =>
    rw[hb]at he;cases he;have Wr:¬b<0:=by simpa using hb
    exact⟨_,bR (.int _ _),rfl,by simp[vR,binOp,Op.shift,Wr,bR,YG],jw _ _⟩
  ·cases hb:decide (b<0) with
   |true=>rw[hb]at he;cases he
   |false =>
    rw[hb]at he;cases he;have Wr:¬b<0:=by simpa using hb
    exact⟨_,bR (.int _ _),rfl,by simp[vR,binOp,Op.shift,Wr,bR,kJ],jw _ _⟩
  split at he
  ·rename_i hk;subst hk;simp only[Sem.run_bind,vR,Result.andThen_ok]
   split at he
   ·cases hb:(b==0) with
    |true=>rw[hb]at he;cases he
    |false =>
     rw[hb]at he;cases he;have Wr:b≠0:=by simpa using hb
     exact⟨_,bR (.int _ _),rfl,by simp[binOp,Op.intDiv,Wr,bR],jw _ _⟩
   ·cases hb:(b==0) with
    |true=>rw[hb]at he;cases he
    |false =>
     rw[hb]at he;cases he;have Wr:b≠0:=by simpa using hb
     exact⟨_,bR (.int _ _),rfl,by simp[binOp,Op.intDiv,Wr,bR],jw _ _⟩
   ·split at he
    ·rename_i v hv
     cases he
     obtain⟨V,h1,h2⟩:=Oz (P:=P) (t:=t) (w:=w) (Z:=Z) (ψ:=ψ) (h:=h) hv;exact⟨_,V,rfl,h1,h2⟩
    ·cases he
  ·cases he
 ·rename_i a b;simp only[av]at hu hv;subst hu;subst hv;simp only[Sem.run_bind,Me,Result.andThen_ok]
  cases op<;>simp only[YH]at he<;>first|(cases he;done)|(cases he;exact⟨_,bR (.bool _),rfl,by simp[binOp,Op.stringOp,←beq_toListBytes,bR],dV _⟩)
 ·rename_i a b;simp only[av]at hu hv;subst hu;subst hv;simp only[Sem.run_bind,Jc,Result.andThen_ok];have key:(P.underlying t).map Eh=some true→P.underlying t=some .bool:=fun hm=>by
   obtain⟨d,hd,he⟩:=ads.1 hm
   cases d<;>simp[Eh]at he
   exact hd
  split at he
  ·rename_i hm
   cases he
   exact⟨_,bR (.bool _),rfl,by simp[binOp,Op.equal,Op.maxDepth,run_equalIn_bool' (P:=P) w 9999 t a b (key hm),bR],dV _⟩
  ·rename_i hm
   cases he
   exact⟨_,bR (.bool _),rfl,by simp[binOp,Op.equal,Op.maxDepth,run_equalIn_bool' (P:=P) w 9999 t a b (key hm),bR],dV _⟩
  ·cases he
 ·rename_i a b
  split at he
  ·cases he
  ·rename_i k hk;simp only[av]at hu hv;obtain⟨xs,rfl,hx⟩:=hu;obtain⟨ys,rfl,hy⟩:=hv
   split at he
   ·rename_i x y hdx hdy
    cases he
    obtain⟨h1,h2,_⟩:=Cn t k hk Z w x y xs ys (c9 hdx hx) (c9 hdy hy);exact⟨_,bR (.bool _),rfl,by simp only[Sem.run_bind,h2,Result.andThen_ok,binOp,h1,Sem.run_pure,bR],dV _⟩
   ·rename_i x y hdx hdy
    cases he
    obtain⟨h1,h2,_⟩:=Cn t k hk Z w x y xs ys (c9 hdx hx) (c9 hdy hy);exact⟨_,bR (.bool _),rfl,by simp only[Sem.run_bind,h2,Result.andThen_ok,binOp,h1,Sem.run_pure,bR],dV _⟩
   ·cases he
 ·simp only[av]at hu hv;subst hu;subst hv;have key:(P.underlying t).map vL=some true→∃e,P.underlying t=some (.pointer e):=fun hm=>by
   obtain⟨d,hd,he⟩:=ads.1 hm
   cases d<;>simp[vL]at he
   exact⟨_,hd⟩
  simp only[Sem.run_bind,C4,Result.andThen_ok]
  split at he
  ·rename_i hm
   cases he
   obtain⟨et,ht⟩:=key hm;exact⟨_,bR (.bool _),rfl,by simp only[binOp,Sem.run_bind,jN ht,Result.andThen_ok,Sem.run_pure,bR,Option.isNone_none,Option.isNone_some,Bool.not_true,Bool.not_false],dV _⟩
  ·rename_i hm
   cases he
   obtain⟨et,ht⟩:=key hm;exact⟨_,bR (.bool _),rfl,by simp only[binOp,Sem.run_bind,jN ht,Result.andThen_ok,Sem.run_pure,bR,Option.isNone_none,Option.isNone_some,Bool.not_true,Bool.not_false],dV _⟩
  ·cases he
 ·simp only[av]at hu hv;obtain⟨a,rfl,_⟩:=hu;subst hv;have key:(P.underlying t).map vL=some true→∃e,P.underlying t=some (.pointer e):=fun hm=>by
   obtain⟨d,hd,he⟩:=ads.1 hm
   cases d<;>simp[vL]at he
   exact⟨_,hd⟩
  simp only[Sem.run_bind,C4,Result.andThen_ok]
  split at he
  ·rename_i hm
   cases he
   obtain⟨et,ht⟩:=key hm;exact⟨_,bR (.bool _),rfl,by simp only[binOp,Sem.run_bind,jN ht,Result.andThen_ok,Sem.run_pure,bR,Option.isNone_none,Option.isNone_some,Bool.not_true,Bool.not_false],dV _⟩
  ·rename_i hm
   cases he
   obtain⟨et,ht⟩:=key hm;exact⟨_,bR (.bool _),rfl,by simp only[binOp,Sem.run_bind,jN ht,Result.andThen_ok,Sem.run_pure,bR,Option.isNone_none,Option.isNone_some,Bool.not_true,Bool.not_false],dV _⟩
  ·cases he
 ·cases he
theorem Mg{a:AV}{v:Value}(hp:vI a=true)(hr:av Z ψ h w a v):v.oneCell'=true:=by
 cases a with
 |no=>cases hp
 |agg cs=>cases hp
 |mG cs=>cases hp
 |bool b=>simp only[av]at hr;subst hr;rfl
 |int k n=>simp only[av]at hr;subst hr;rfl
 |str s=>simp only[av]at hr;subst hr;rfl
 |kI=>simp only[av]at hr;subst hr;rfl
 |fK=>simp only[av]at hr;subst hr;rfl
 |ref id s i off=>simp only[av]at hr;obtain⟨a,rfl,_⟩:=hr;rfl
 |fp k x off=>simp only[av]at hr;obtain⟨a,us,rfl,_⟩:=hr;rfl
 |sl ex k xs=>simp only[av,aD]at hr;obtain⟨⟨v',hv,A,c,rfl,_⟩,_⟩:=hr;cases hv;rfl
 |bF id=>simp only[av]at hr;exact hr.1.2
 |mp kk vk es=>simp only[av,aD]at hr;obtain⟨A,hv,_⟩:=hr;cases hv;rfl
 |fn f cap=>simp only[av]at hr;obtain⟨vs,rfl,_⟩:=hr;rfl
theorem s8:∀{cs:List AV} {vs:List Value},cs.all vI=true→ak Z ψ h w cs vs→∀u∈vs,u.oneCell'=true
 |[],_,_,hr,u,hu=>by simp only[ak]at hr;subst hr;simp at hu
 |c::r,_,hp,hr,u,hu=>by
  simp only[List.all_cons,Bool.and_eq_true]at hp;simp only[ak]at hr;obtain⟨v,us,rfl,h1,h2⟩:=hr;rcases acn.1 hu with rfl|hu
  ·exact Mg hp.1 h1
  ·exact s8 hp.2 h2 u hu
theorem Gb{a:AV}(hp:a.cells.all vI=true):a≠.no:=by rintro rfl;simp[AV.cells,vI]at hp
theorem q9{id:Nat}:∀{cs:List AV},IZ id cs=true→AV.bF id∉cs
 |[],_=>by simp
 |c::r,hn=>by
  intro hm
  cases c with
  |bF i =>
   simp only[IZ,Bool.and_eq_true,Bool.not_eq_true',beq_eq_false_iff_ne]at hn;rcases acn.1 hm with e|hm
   ·cases e;exact hn.1 rfl
   ·exact q9 hn.2 hm
  |_ =>
   simp only[IZ]at hn;rcases acn.1 hm with e|hm
   ·cases e
   ·exact q9 hn hm
theorem xm{hh:Heap}(g:Good Z ψ hh.get w B0 O){t:TypeId}{a x:AV}{u v:Value}{e:bE}(hu:av Z ψ hh.get w a u)(hv:av Z ψ hh.get w x v)(he:qU P hh t a x some=some e) :
  ∃hw w' Z',e=.wr .no hw∧(Instr.storeAt t u v).run P w=.ok () w'∧Next Z ψ hh.get w B0 O N Z' ψ hw.get w':=by
 unfold qU at he
 split at he
 ·rename_i hc;obtain⟨hlen,S6,qm⟩:=hc;obtain⟨inf,S6⟩:=adi.1 S6;have N0:=hv.cells (Gb qm);have Eo:=s8 qm N0;have rU:=N0.length;simp only[Array.length_toList]at rU
  split at he
  ·rename_i id s i off;simp only[av]at hu;obtain⟨a,rfl,ha⟩:=hu
   split at he
   ·rename_i ty cs hg
    split at he
    ·rename_i hc;obtain⟨rfl,YR⟩:=hc
     cases he
     have FY:=ha (by rw[hg];simp);obtain⟨w',h1,h2⟩:=zK (P:=P) (N:=N) g hg S6 N0 Eo (by omega) YR (a:=a) (by rw[FY];simp);exact⟨_,w',Z,rfl,h1,by rw[mh];exact h2⟩
    ·cases he
   ·rename_i ty kk xs hg;obtain⟨y,hx,Sw⟩:=adp.1 he;clear he
    split at Sw
    ·rename_i hc;obtain⟨rfl,YR,ql⟩:=hc
     split at Sw
     ·rename_i z hz
      cases Sw
      have FY:=ha (by rw[hg];simp);have bL:=q9 ql;have gd:=hY g x.cells;have hgd:(cy hh x.cells).get id=some (.own (.row ty kk) xs):=by rw[oq _ _ _ bL];exact hg
      have Ws:=nq (Z':=pT Z ψ hh.get x.cells) g (fun b hb=>.inl hb) (fun i b hm bq hb=>.inr ⟨i,hm,bq,hb⟩) N0;obtain⟨w',h1,h2⟩:=zM (P:=P) (N:=N) gd hgd S6 hx (y:=z) (off:=off) (V:=v) (by omega) (by omega) (a:=a) FY (fun us S7=>by
       have h3:=(fH (ψ:=ψ) (h:=hh.get) S7);have h4:=c9 hz (Ws.dM off h3)
       rwa [q8 _ _ _ (by rw[Array.length_toList,S7.len];omega),Array.length_toList]at h4) Eo
      refine⟨_,w',pT Z ψ hh.get x.cells,rfl,h1,?_⟩;rw[show((stored hh x.cells).2.set id (.own (.row ty kk) (xs.set i z))).get=dA (cy hh x.cells).get id (some (.own (.row ty kk) (xs.set i z))) from mh _ _ _];exact h2.drop (fun b hb=>.inl hb) (fun b hb=>hb.imp (fun h=>h) (fun⟨i,_,h5,h6⟩=>⟨i,h5,h6⟩)) (dP _ _)
     ·cases Sw
    ·cases Sw
   ·cases he
  ·cases he
 ·cases he
theorem OE{a:AV}{v:Value}(ha:a.isAgg=true)(hr:av Z ψ h w a v):∃vs,v=.agg vs:=by
 cases a<;>simp[AV.isAgg]at ha
 simp only[av]at hr;obtain⟨vs,rfl,_⟩:=hr;exact⟨vs,rfl⟩
theorem C5{a:AV}{v:Value}(ha:a.isAgg=false)(ql:a≠.no)(hr:av Z ψ h w a v):v.cells=#[v]:=by
 cases a with
 |no=>exact absurd rfl ql
 |agg cs=>simp[AV.isAgg]at ha
 |bool b=>simp only[av]at hr;subst hr;rfl
 |int k n=>simp only[av]at hr;subst hr;rfl
 |str s=>simp only[av]at hr;subst hr;rfl
 |kI=>simp only[av]at hr;subst hr;rfl
 |fK=>simp only[av]at hr;subst hr;rfl
 |ref id s i off=>simp only[av]at hr;obtain⟨a,rfl,_⟩:=hr;rfl
 |fp k x off=>simp only[av]at hr;obtain⟨a,us,rfl,_⟩:=hr;rfl
 |sl ex k xs=>simp only[av,aD]at hr;obtain⟨⟨v',hv,A,c,rfl,_⟩,_⟩:=hr;cases hv;rfl
 |bF id=>simp only[av]at hr;exact hr.1.1
 |mp kk vk es=>simp only[av,aD]at hr;obtain⟨A,hv,_⟩:=hr;cases hv;rfl
 |fn f cap=>simp only[av]at hr;obtain⟨vs,rfl,_⟩:=hr;rfl
 |mG cs=>simp only[av]at hr;obtain⟨vs,rfl,_⟩:=hr;rfl
theorem ta{hh:Heap}{k:K}{a:AV}{x:k.T}{v:Value}(g:Good Z ψ hh.get w B0 O)(hz:∀b,Z b→Z' b)(hb:∀id b,AV.bF id∈a.cells→hh.get id≠none→ob (ψ id)=some b→Z' b) (hx:fF k hh a=some x) (hr:av Z ψ hh.get w a v):aD Z' w k x v.cells.toList∧(k.isAgg=true→∃vs,v=.agg vs)∧(k.isAgg=false→v.cells=#[v]):=by
 unfold fF at hx
 split at hx
 ·rename_i UX;have ql:=C3 hx;have hv:=nq g hz hb (hr.cells ql);exact⟨c9 hx hv,fun h=>OE (by rw[←UX];exact h) hr,fun h=>C5 (by rw[←UX];exact h) ql hr⟩
 ·cases hx
theorem rf{hh:Heap}{k:K}{a:AV}{x:k.T}{v:Value}(g:Good Z ψ hh.get w B0 O)(hz:∀b,Z b→Z' b)(hb:∀id b,AV.bF id∈a.cells→hh.get id≠none→ob (ψ id)=some b→Z' b) (hx:fF k hh a=some x) (hr:av Z ψ hh.get w a v):av Z' ψ' h' w (cc k x) v:=by obtain⟨h1,h2,h3⟩:=ta g hz hb hx hr;exact lq h1 h2 h3
theorem aD.flat:∀{k:K} {x:k.T} {vs:List Value},k.flat=true→aD Z w k x vs→aD Z' w' k x vs
 |.int _,_,_,_,h=>h
 |.bool,_,_,_,h=>h
 |.str,_,_,_,h=>h
 |.sl k,_,_,hf,_=>by simp[K.flat]at hf
 |.pair a b,x,_,hf,h=>by simp only[K.flat,Bool.and_eq_true]at hf;simp only[aD]at h ⊢;obtain⟨us,ws,rfl,h1,h2⟩:=h;exact⟨us,ws,rfl,aD.flat hf.1 h1,aD.flat hf.2 h2⟩
 |.one k,x,_,hf,h=>by simp only[aD]at h ⊢;exact aD.flat (k:=k) (by simpa only[K.flat] using hf) h
theorem yG:∀(k:K) (x y:k.T),k.flat=true→(qT k x y=true↔x=y)
 |.int _,x,y,_=>by simp only[qT];exact beq_iff_eq (α:=Int)
 |.bool,x,y,_=>by simp only[qT];exact beq_iff_eq (α:=Bool)
 |.str,x,y,_=>by simp only[qT];exact MapKept.bytes_beq x y
 |.sl _,_,_,hf=>by simp[K.flat]at hf
 |.mp _ _,_,_,hf=>by simp[K.flat]at hf
 |.pair a b,x,y,hf=>by simp only[K.flat,Bool.and_eq_true]at hf;simp only[qT,Bool.and_eq_true];rw[yG a _ _ hf.1,yG b _ _ hf.2];exact⟨fun h=>Prod.ext h.1 h.2,fun h=>⟨congrArg Prod.fst h,congrArg Prod.snd h⟩⟩
 |.one k,x,y,hf=>by simp only[qT];exact yG k x y (by simpa only[K.flat] using hf)
theorem ov:∀{k:K} {x:k.T} {us vs:List Value},k.flat=true→aD Z w k x us→aD Z' w' k x vs→us=vs
 |.int _,_,_,_,_,h1,h2=>by simp only[aD]at h1 h2;rw[h1,h2]
 |.bool,_,_,_,_,h1,h2=>by simp only[aD]at h1 h2;rw[h1,h2]
 |.str,_,_,_,_,h1,h2=>by simp only[aD]at h1 h2;rw[h1,h2]
 |.sl _,_,_,_,hf,_,_=>by simp[K.flat]at hf
 |.mp _ _,_,_,_,hf,_,_=>by simp[K.flat]at hf
 |.pair a b,x,_,_,hf,h1,h2=>by simp only[K.flat,Bool.and_eq_true]at hf;simp only[aD]at h1 h2;obtain⟨a1,a2,rfl,h3,h4⟩:=h1;obtain⟨b1,b2,rfl,h5,h6⟩:=h2;rw[ov hf.1 h3 h5,ov hf.2 h4 h6]
 |.one k,x,_,_,hf,h1,h2=>by simp only[aD]at h1 h2;exact ov (k:=k) (by simpa only[K.flat] using hf) h1 h2
theorem rh:∀{k:K} {x:k.T} {us:List Value},k.flat=true→aD Z w k x us→∀u∈us,∀n,Instr.sameBits n u u=true
 |.int _,x,_,_,h1,u,hu,n=>by simp only[aD]at h1;subst h1;simp only[List.mem_singleton]at hu;subst hu;cases n<;>simp[Instr.sameBits]<;>exact beq_self_eq_true (α:=Int) x
 |.bool,x,_,_,h1,u,hu,n=>by simp only[aD]at h1;subst h1;simp only[List.mem_singleton]at hu;subst hu;cases n<;>simp[Instr.sameBits]<;>exact beq_self_eq_true (α:=Bool) x
 |.str,x,_,_,h1,u,hu,n=>by simp only[aD]at h1;subst h1;simp only[List.mem_singleton]at hu;subst hu;cases n<;>simp[Instr.sameBits]<;>exact(MapKept.bytes_beq x x).2 rfl
 |.sl _,_,_,hf,_,_,_,_=>by simp[K.flat]at hf
 |.mp _ _,_,_,hf,_,_,_,_=>by simp[K.flat]at hf
 |.pair a b,x,_,hf,h1,u,hu,n=>by
  simp only[K.flat,Bool.and_eq_true]at hf;simp only[aD]at h1;obtain⟨a1,a2,rfl,h3,h4⟩:=h1;rcases adb.1 hu with hu|hu
  ·exact rh hf.1 h3 u hu n
  ·exact rh hf.2 h4 u hu n
 |.one k,x,_,hf,h1,u,hu,n=>by simp only[aD]at h1;exact rh (k:=k) (by simpa only[K.flat] using hf) h1 u hu n
def IM(b:Bool)(v:Value):Prop:=(b=true→∃vs,v=.agg vs)∧(b=false→v.cells=#[v])
theorem Mh{b:Bool}{u v:Value}(h1:IM b u)(h2:IM b v)(h:u.cells.toList=v.cells.toList):u=v:=by
 cases b with
 |true =>
  obtain⟨a,rfl⟩:=h1.1 rfl;obtain⟨c,rfl⟩:=h2.1 rfl;have:a=c:=by simpa[Value.cells] using h
  rw[this]
 |false =>rw[h1.2 rfl,h2.2 rfl]at h;simpa using h
theorem OF{k:K}{x:k.T}{u:Value}(hf:k.flat=true)(hr:aD Z w k x u.cells.toList)(hs:IM k.isAgg u):Instr.sameBits 10000 u u=true:=by
 have hb:=rh hf hr
 cases hk:k.isAgg with
 |false=>exact hb u (by rw[hs.2 hk];simp) _
 |true =>obtain⟨a,rfl⟩:=hs.1 hk;show Instr.sameBits (9999+1) (.agg a) (.agg a)=true;simp only[Instr.sameBits,beq_self_eq_true,Bool.true_and,List.all_eq_true];intro p hp;obtain⟨i,hi,he⟩:=List.mem_iff_getElem.1 hp;simp only[List.getElem_zip]at he;subst he;exact hb _ (adr (l:=(Value.agg a).cells.toList) (by simpa[Value.cells] using hi)) _
def Keys(Z:Nat→Prop)(w:World)(k:K)(ys:List k.T)(l:List MapEntry):Prop:=ys.length=l.length∧∀(i:Nat) y e,ys[i]? = some y→l[i]? = some e→aD Z w k y e.key.cells.toList∧IM k.isAgg e.key
theorem Keys.tail{k:K}{y:k.T}{ys:List k.T}{e:MapEntry}{l:List MapEntry}(h:Keys Z w k (y::ys) (e::l)):Keys Z w k ys l:=⟨by simpa using h.1,fun i a b h1 h2=>h.2 (i+1) a b (by simpa using h1) (by simpa using h2)⟩
theorem Gc{k:K}{x:k.T}{d:TypeDesc}{kv:Value}(hs:∀y Sx,aD Z w k y Sx.cells.toList→IM k.isAgg Sx→Instr.sameNow d kv Sx=some (qT k x y)):∀(l:List MapEntry) (ys:List k.T) (i:Nat),Keys Z w k ys l → Instr.findNow d kv l i=some ((ys.findIdx? (qT k x)).map fun j=>(i+j,((l[j]?).map (·.val)).getD undef))
 |[],ys,i,h=>by have:ys=[]:=adh (by simpa using h.1);subst this;rfl
 |e::l,[],i,h=>by have:=h.1;simp at this
 |e::l,y::ys,i,h=>by
  obtain⟨h1,h2⟩:=h.2 0 y e rfl rfl;have ih:=Gc hs l ys (i+1) h.tail;simp only[Instr.findNow,hs y _ h1 h2,List.findIdx?_cons]
  cases qT k x y with
  |true=>simp
  |false =>
   simp only[ih,Bool.false_eq_true,if_false]
   cases ys.findIdx? (qT k x) with
   |none=>rfl
   |some j=>simp;omega
theorem xn{k:K}{x:k.T}{t:TypeId}{kv:Value}(hs:∀y Sx,aD Z w k y Sx.cells.toList→IM k.isAgg Sx→(Op.equal t kv Sx).run P w=.ok (qT k x y) w):∀(l:List MapEntry) (ys:List k.T) (i:Nat),Keys Z w k ys l →(Instr.findAsking t kv l i).run P w=.ok ((ys.findIdx? (qT k x)).map fun j=>(i+j,((l[j]?).map (·.val)).getD undef)) w
 |[],ys,i,h=>by have:ys=[]:=adh (by simpa using h.1);subst this;rfl
 |e::l,[],i,h=>by have:=h.1;simp at this
 |e::l,y::ys,i,h=>by
  obtain⟨h1,h2⟩:=h.2 0 y e rfl rfl;have ih:=xn hs l ys (i+1) h.tail;simp only[Instr.findAsking,Sem.run_bind,hs y _ h1 h2,Result.andThen_ok,List.findIdx?_cons]
  cases qT k x y with
  |true=>simp
  |false =>
   simp only[ih,Bool.false_eq_true,if_false]
   cases ys.findIdx? (qT k x) with
   |none=>rfl
   |some j=>simp;omega
structure OG(P:Program)(t:TypeId)(k:K):Prop where
 flat:k.flat=true
 check:∀(Z:Nat→Prop) (w:World) (x:k.T) (kv:Value) (e:Bool),aD Z w k x kv.cells.toList→IM k.isAgg kv→(Instr.checkKey e 10000 t kv).run P w=.ok () w
 find:∀(Z:Nat→Prop) (w:World) (x:k.T) (kv:Value) (l:List MapEntry) (ys:List k.T),aD Z w k x kv.cells.toList→IM k.isAgg kv→Keys Z w k ys l →
  (Instr.findKey t kv l).run P w=.ok ((ys.findIdx? (qT k x)).map fun j=>(j,((l[j]?).map (·.val)).getD undef)) w
theorem ow{t:TypeId}{k:K}{d:TypeDesc}(hf:k.flat=true)(hk:k.isAgg=false)(hd:P.underlying t=some d)(hc:∀(Z:Nat→Prop) (w:World) (x:k.T) (kv:Value),aD Z w k x [kv]→MapKept.IsKey d kv) (hs:∀(Z:Nat→Prop) (w:World) (x y:k.T) (u v:Value),aD Z w k x [u]→aD Z w k y [v]→Instr.sameNow d u v=some (qT k x y)):OG P t k:=by
 have one:∀{Z:Nat→Prop} {w:World} {x:k.T} {kv:Value},aD Z w k x kv.cells.toList→IM k.isAgg kv→aD Z w k x [kv]:=fun {Z w x kv} h1 h2=>by rw[h2.2 hk]at h1;exact h1
 refine⟨hf,fun Z w x kv e h1 h2=>MapKept.run_checkKey hd (hc Z w x kv (one h1 h2)) e 9999,fun Z w x kv l ys h1 h2 h3=>?_⟩;have:=Gc (Z:=Z) (w:=w) (x:=x) (d:=d) (kv:=kv) (fun y Sx h4 h5=>hs Z w x y kv Sx (one h1 h2) (one h4 h5)) l ys 0 h3;simp only[Nat.zero_add]at this;exact MapKept.run_findKey hd this
theorem Gd(d:TypeDesc)(a:Array Value)(v:Value):Instr.sameNow d (.agg a) v=none:=by cases d<;>cases v<;>rfl
theorem vS{Eqs:TypeId→Option K}(Cn:∀t k,Eqs t=some k→lr P t k){t:TypeId}{k:K}(hk:KN P Eqs t k=true):OG P t k:=by
 unfold KN at hk;rw[Bool.and_eq_true]at hk;obtain⟨hf,hk⟩:=hk
 split at hk
 ·rename_i ik Ye hd;simp only[decide_eq_true_eq]at hk;subst hk;exact ow hf rfl hd (fun Z w x kv hr=>by simp only[aD]at hr;cases hr;simp[MapKept.IsKey]) (fun Z w x y u v h1 h2=>by simp only[aD]at h1 h2;cases h1;cases h2;simp[Instr.sameNow,qT])
 ·rename_i hd;exact ow hf rfl hd (fun Z w x kv hr=>by simp only[aD]at hr;cases hr;simp[MapKept.IsKey]) (fun Z w x y u v h1 h2=>by simp only[aD]at h1 h2;cases h1;cases h2;simp[Instr.sameNow,qT])
 ·rename_i hd;exact ow hf rfl hd (fun Z w x kv hr=>by simp only[aD]at hr;cases hr;simp[MapKept.IsKey]) (fun Z w x y u v h1 h2=>by simp only[aD]at h1 h2;cases h1;cases h2;simp[Instr.sameNow,qT])
 ·simp only[Bool.and_eq_true,decide_eq_true_eq]at hk;obtain⟨UX,hk⟩:=hk;have fact:=Cn _ _ hk;have agg:∀{b:Bool} {u:Value},b=true→IM b u→∃a,u=.agg a:=fun hb h=>h.1 hb;refine⟨hf,fun Z w x kv e h1 h2=>?_,fun Z w x kv l ys h1 h2 h3=>?_⟩
  ·obtain⟨a,rfl⟩:=agg UX h2;exact(fact Z w x x a a h1 h1).2.2 e
  ·obtain⟨a,rfl⟩:=agg UX h2;have h4:=xn (P:=P) (t:=t) (Z:=Z) (w:=w) (x:=x) (kv:=.agg a) (fun y Sx h4 h5=>by obtain⟨b,rfl⟩:=agg UX h5;exact(fact Z w x y a b h1 h4).1) l ys 0 h3;simp only[Nat.zero_add]at h4
   cases l with
   |nil =>
    have:ys=[]:=adh (by simpa using h3.1);subst this
    cases hu:P.underlying t with
    |none =>have hc:=(fact Z w x x a a h1 h1).2.2 true;exfalso;unfold Instr.checkKey at hc;simp[underlying,hu]at hc
    |some d=>simp[Instr.findKey,run_underlying hu,Instr.findNow]
   |cons e l =>
    cases hu:P.underlying t with
    |none =>have hc:=(fact Z w x x a a h1 h1).2.2 true;exfalso;unfold Instr.checkKey at hc;simp[underlying,hu]at hc
    |some d=>simp only[Instr.findKey,Sem.run_bind,run_underlying hu,Result.andThen_ok,Instr.findNow,Gd];exact h4
section
variable {kk vk:K} {es:List (kk.T×vk.T)} {l:List MapEntry}
abbrev jV(Z:Nat→Prop)(w:World)(kk vk:K)(es:List (kk.T×vk.T))(l:List MapEntry):Prop:=Ej (aD Z w kk) (aD Z w vk) kk.isAgg vk.isAgg es l
theorem jV.keys(h:jV Z w kk vk es l):Keys Z w kk (es.map (·.1)) l :=⟨by rw[List.length_map];exact h.1,fun i y e h1 h2=>by rw[List.getElem?_map]at h1;obtain⟨x,h3,rfl⟩:=ads.1 h1;exact(h.2 i x e h3 h2).1⟩
theorem zY{x:kk.T}:(es.map (·.1)).findIdx? (qT kk x)=sR kk x es:=by unfold sR;rw[List.findIdx?_map];rfl
theorem Ep{x:kk.T}{i:Nat}(h:sR kk x es=some i):i<es.length:=by unfold sR at h;exact(List.findIdx?_eq_some_iff_getElem.1 h).1
theorem S8{x:kk.T}{i:Nat}(h:sR kk x es=some i):∃e,es[i]? = some e∧qT kk x e.1=true:=by unfold sR at h;obtain⟨h1,h2,_⟩:=List.findIdx?_eq_some_iff_getElem.1 h;exact⟨_,aci h1,h2⟩
def OH(Z:Nat→Prop)(w:World)(kk vk:K)(x:kk.T×vk.T)(e:MapEntry):Prop:=(aD Z w kk x.1 e.key.cells.toList∧IM kk.isAgg e.key)∧aD Z w vk x.2 e.val.cells.toList∧IM vk.isAgg e.val
theorem jV.set(h:jV Z w kk vk es l)(i:Nat){x:kk.T×vk.T}{f:MapEntry→MapEntry}(ho:∀e,l[i]? = some e→OH Z w kk vk x (f e)):jV Z w kk vk (es.set i x) (l.modify i f):=by
 refine⟨by simp[h.1],fun j y e h1 h2=>?_⟩;rw[List.getElem?_modify]at h2;obtain⟨e0,h3,h4⟩:=ads.1 h2;by_cases zZ:i=j
 ·subst zZ;rw[if_pos rfl]at h4;have aF:i<es.length:=by rw[h.1];exact(ack.1 h3).1
  rw[List.getElem?_set_self aF]at h1
  cases h1
  subst h4;exact ho e0 h3
 ·rw[if_neg zZ]at h4;rw[List.getElem?_set_ne zZ]at h1;subst h4;exact h.2 j y e0 h1 h3
theorem jV.push(h:jV Z w kk vk es l){x:kk.T×vk.T}{e:MapEntry}(ho:OH Z w kk vk x e):jV Z w kk vk (es++[x]) (l++[e]):=by
 refine⟨by simp[h.1],fun j y e' h1 h2=>?_⟩;by_cases hj:j<es.length
 ·rw[List.getElem?_append_left hj]at h1;rw[List.getElem?_append_left (by rw[←h.1];exact hj)]at h2;exact h.2 j y e' h1 h2
 ·rw[List.getElem?_append_right (by omega)]at h1;rw[List.getElem?_append_right (by have:=h.1;omega),←h.1]at h2;by_cases h0:j-es.length=0
  ·rw[h0]at h1 h2;cases h1;cases h2;exact ho
  ·rw[List.getElem?_eq_none (by simp;omega)]at h1;cases h1
theorem jV.erase(h:jV Z w kk vk es l)(i:Nat):jV Z w kk vk (es.eraseIdx i) (l.eraseIdx i):=by
 refine⟨by rw[List.length_eraseIdx,List.length_eraseIdx,h.1],fun j y e h1 h2=>?_⟩;rw[List.getElem?_eraseIdx]at h1 h2
 split at h1
 ·rename_i hj;rw[if_pos hj]at h2;exact h.2 j y e h1 h2
 ·rename_i hj;rw[if_neg hj]at h2;exact h.2 (j+1) y e h1 h2
theorem jV.mono(h:jV Z w kk vk es l)(hz:∀b,Z b→Z' b)(hs:cp Z w w'):jV Z' w' kk vk es l:=Ej.imp (fun _ _ h=>h.mono hz hs) (fun _ _ h=>h.mono hz hs) h
end
theorem tc{Eqs:TypeId→Option K}{t:TypeId}{kk vk:K}(h:mapOf P Eqs t=some (kk,vk)):∃a b,P.underlying t=some (.map a b)∧KN P Eqs a kk=true∧KM P b vk=true:=by
 unfold mapOf at h
 split at h
 ·rename_i a b hu
  split at h
  ·split at h
   ·rename_i hc
    cases h
    rw[Bool.and_eq_true]at hc;exact⟨a,b,hu,hc.1,hc.2⟩
   ·cases h
  ·cases h
 ·cases h
theorem Jd{b:TypeId}{vk:K}(h:KM P b vk=true):∃z,(zeroValue b).run P w=.ok z w∧aD Z w vk (kC vk) z.cells.toList∧IM vk.isAgg z:=by
 unfold KM at h
 split at h
 ·rename_i i hi
  split at h
  ·rename_i z hz;refine⟨z,uc hi hz,?_⟩;unfold Oe at h
   split at h
   ·simp only[decide_eq_true_eq]at h;obtain⟨rfl,rfl⟩:=h;exact⟨by simp only[aD];rfl,fun h=>(by cases h),fun _=>rfl⟩
   ·rename_i b;simp only[Bool.not_eq_true']at h;subst h;exact⟨by simp only[aD];rfl,fun h=>(by cases h),fun _=>rfl⟩
   ·simp only[decide_eq_true_eq]at h;subst h;exact⟨by simp only[aD];rfl,fun h=>(by cases h),fun _=>rfl⟩
   ·simp only[decide_eq_true_eq]at h;obtain⟨rfl,rfl,rfl⟩:=h;exact⟨by simp only[aD];exact⟨_,rfl,none,0,rfl,adg _,fun _=>rfl,fun i x hx=>by simp[kC]at hx⟩,fun h=>(by cases h),fun _=>rfl⟩
   ·cases h
  ·cases h
 ·cases h
theorem KQ{hh:Heap}(g:Good Z ψ h w B0 O)(bu:∀id o,hh.get id=some o→h id=some o){m:AV}{u:Value}{kk vk:K}{es:List (kk.T×vk.T)}(hm:av Z ψ h w m u)(hv:cE hh m=.mp kk vk es) :
  ∃A,u=.map A∧((A=none∧es=[])∨∃r bU clock,A=some r∧w.heap[r]? = some (.map bU clock)∧jV Z w kk vk es bU.toList):=by
 cases m with
 |mp KK SR OJ =>
  simp only[cE]at hv
  cases hv
  simp only[av,aD]at hm;obtain⟨A,h1,h2⟩:=hm
  cases h1
  refine⟨A,rfl,h2.imp (fun h=>h) fun⟨m,bU,clock,h3,_,h4,h5⟩=>⟨m,bU,clock,h3,h4,h5⟩⟩
 |bF id =>
  simp only[cE]at hv
  split at hv
  ·cases hv
  ·rename_i KK SR OJ hg
   cases hv
   have zT:=bu _ _ hg;simp only[av]at hm;have:=hm.2 (by rw[zT];simp);subst this;obtain⟨r,bU,clock,h1,h2,h3,_⟩:=g.row id (.map kk vk) es zT;exact⟨some r,h1,.inr ⟨r,bU,clock,rfl,h2,h3⟩⟩
  ·cases hv
 |_=>simp only[cE]at hv;cases hv
theorem Je{hh:Heap}(g:Good Z ψ h w B0 O)(bu:∀id o,hh.get id=some o→h id=some o){k:K}(hf:k.flat=true){a:AV}{x:k.T}{v:Value}(hx:fF k hh a=some x)(hr:av Z ψ h w a v):aD Z w k x v.cells.toList∧IM k.isAgg v:=by obtain⟨h1,h2,h3⟩:=ta (Z':=fun b=>b<w.heap.size) (g.sub bu) (fun b hb=>g.ju b hb) (fun id b _ h1 h2=>(g.sub bu).bM ⟨id,h1,h2⟩) hx (hr.less (fun _ h=>h) (cp.refl _ _) (fun id bL=>by obtain⟨o,ho⟩:=ade.1 bL;exact⟨by rw[bu id o ho];simp,rfl⟩));exact⟨h1.flat hf,h2,h3⟩
theorem Er{Eqs:TypeId→Option K}(Cn:∀t k,Eqs t=some k→lr P t k){hh:Heap}(g:Good Z ψ h w B0 O)(bu:∀id o,hh.get id=some o→h id=some o){t:TypeId}{m i:AV}{u v:Value}{ok:Bool}{e:bE} (hm:av Z ψ h w m u) (hi:av Z ψ h w i v) (he:ni P Eqs hh t m i ok some=some e):∃y V,e=.val y∧(Instr.lookup t u v ok).run P w=.ok V w∧av Z ψ h w y V:=by
 unfold ni at he
 split at he
 ·rename_i ka va kk vk es Yg hv
  split at he
  ·rename_i hc;obtain⟨rfl,rfl⟩:=hc
   split at he
   ·rename_i x hx
    cases he
    obtain⟨a,b,hu,hk,hz⟩:=tc Yg;have K:=vS Cn hk;obtain⟨Jf,mY⟩:=Je g bu K.flat hx hi;obtain⟨z,xl,Cm,IK⟩:=Jd (Z:=Z) (w:=w) hz;have fin:∀(l:List MapEntry),jV Z w kk vk es l→∃V,((∃j,(Instr.findKey a v l).run P w=.ok (some (j,V)) w∧(iJ kk x es).isSome=true)∨((Instr.findKey a v l).run P w=.ok none w∧(zeroValue b).run P w=.ok V w∧(iJ kk x es).isSome=false)) ∧ aD Z w vk ((iJ kk x es).getD (kC vk)) V.cells.toList∧IM vk.isAgg V:=by
     intro l hE;have hf:=K.find Z w x v l (es.map (·.1)) Jf mY hE.keys;rw[zY]at hf
     cases C6:sR kk x es with
     |none =>rw[C6]at hf;exact⟨z,.inr ⟨hf,xl,by simp[iJ,C6]⟩,by simpa[iJ,C6] using Cm,IK⟩
     |some j =>
      rw[C6]at hf;have hj:=Ep C6;have h1:es[j]? = some es[j]:=aci hj;have IN:j<l.length:=by rw[←hE.1];exact hj
      have h2:l[j]? = some l[j]:=aci IN;obtain⟨_,h3,h4⟩:=hE.2 j _ _ h1 h2;refine⟨l[j].val,.inl ⟨j,?_,by simp[iJ,C6,h1]⟩,by simpa[iJ,C6,h1] using h3,h4⟩;rw[hf];simp only[Option.map_some,h2,Option.getD_some]
    have out:∀V:Value,aD Z w vk ((iJ kk x es).getD (kC vk)) V.cells.toList→IM vk.isAgg V→av Z ψ h w (cond ok (AV.mG [cc vk ((iJ kk x es).getD (kC vk)),.bool (iJ kk x es).isSome]) (cc vk ((iJ kk x es).getD (kC vk)))) (if ok then .tuple #[V,.bool (iJ kk x es).isSome] else V):=by
     intro V h1 h2;have h3:av Z ψ h w (cc vk ((iJ kk x es).getD (kC vk))) V:=lq h1 h2.1 h2.2
     cases ok with
     |false=>exact h3
     |true=>simp only[cond_true,if_true,av,ak];exact⟨_,rfl,V,[.bool (iJ kk x es).isSome],by simp,h3,_,[],rfl,rfl,rfl⟩
    obtain⟨A,rfl,hA⟩:=KQ g bu hm hv;rcases hA with⟨rfl,rfl⟩|⟨r,bU,clock,rfl,h3,h4⟩
    ·obtain⟨V,h5,h6,h7⟩:=fin [] ⟨rfl,fun i x e h=>by simp at h⟩;refine⟨_,_,rfl,?_,out V h6 h7⟩;simp only[Instr.lookup,Sem.run_bind,run_underlying hu,Result.andThen_ok,Sem.run_pure,K.check Z w x v _ Jf mY];rcases h5 with⟨j,h8,h9⟩|⟨h8,h9,mL⟩
     ·simp[h8,h9]
     ·simp[h8,h9,mL]
    ·obtain⟨V,h5,h6,h7⟩:=fin bU.toList h4;refine⟨_,_,rfl,?_,out V h6 h7⟩;simp only[Instr.lookup,Sem.run_bind,run_underlying hu,Result.andThen_ok,Sem.run_pure,MapKept.run_getObj_map h3,K.check Z w x v _ Jf mY];rcases h5 with⟨j,h8,h9⟩|⟨h8,h9,mL⟩
     ·simp[h8,h9]
     ·simp[h8,h9,mL]
   ·cases he
  ·cases he
 ·cases he
end Go.Vs
namespace Go.Vs
variable {P:Program} {Z Z':Nat→Prop} {ψ ψ':Nat→Value} {h h':Hp} {w w':World} {B0:Nat} {O:Nat→Prop} {N:Nat→Prop}
theorem vT{r b:Nat}(o:Obj)(bq:r≠b):(w.heap.setIfInBounds r o)[b]? = w.heap[b]? := by rw[Array.getElem?_setIfInBounds];simp[bq]
theorem cV.aeb{r:Nat}(ho:Own ψ h r)(o:Obj):cV ψ h w { w with heap:=w.heap.setIfInBounds r o } :=⟨rfl,rfl,rfl,by simp,fun b _ hb=>vT o (fun e=>hb (e▸ho))⟩
theorem ri{hp:Hp}(g:Good Z ψ hp w B0 O){id:Nat}(bL:hp id≠none){r:Nat}(hr:ob (ψ id)=some r)(aF:r<w.heap.size)(o:Obj){ok:OK}{x:ok.T} (hx:∀w':World,w'.heap=w.heap.setIfInBounds r o→cp Z w w'→jm Z w' ok (ψ id) x) :
  Next Z ψ hp w B0 O N Z ψ (dA hp id (some (.own ok x))) { w with heap:=w.heap.setIfInBounds r o }:=by
 have ho:Own ψ hp r:=⟨id,bL,hr⟩;have kk:=cV.aeb (w:=w) ho o;refine g.write id bL kk (fun b hb _=>vT o (fun e=>hb (by rw[hr,e]))) _ (fun _ _ he=>by cases he) (fun Yf x' he=>?_)
 cases he
 exact hx _ rfl (kk.same g)
theorem xp{l:List MapEntry}{i:Nat}{f:MapEntry→MapEntry}(hf:∀e,(f e).born=e.born):(l.modify i f).map (·.born)=l.map (·.born):=by
 apply adK;intro j;simp only[List.getElem?_map,List.getElem?_modify]
 cases l[j]? with
 |none=>rfl
 |some e=>simp only[Option.map_some];split<;>simp[hf]
theorem vU{l:List MapEntry}:l.Pairwise (fun a b=>a.born≠b.born)↔(l.map (·.born)).Pairwise (·≠·):=by rw[List.pairwise_map]
theorem ui{Eqs:TypeId→Option K}(Cn:∀t k,Eqs t=some k→lr P t k){hh:Heap}(g:Good Z ψ hh.get w B0 O){t:TypeId}{m i v:AV}{u1 u2 u3:Value}{e:bE} (hm:av Z ψ hh.get w m u1) (hi:av Z ψ hh.get w i u2) (hv:av Z ψ hh.get w v u3) (he:im P Eqs hh t m i v some=some e) :
  ∃hw w' Z',e=.wr (.mG []) hw∧(Instr.mapUpdate t u1 u2 u3).run P w=.ok () w'∧Next Z ψ hh.get w B0 O N Z' ψ hw.get w':=by
 unfold im at he
 split at he
 ·rename_i ka va id Yg
  split at he
  ·rename_i kk vk es hg
   split at he
   ·rename_i hc;obtain⟨rfl,rfl⟩:=hc
    split at he
    ·rename_i x y hx hy ql
     cases he
     obtain⟨a,b,hu,hk,_⟩:=tc Yg;have K:=vS Cn hk;obtain⟨Jf,mY⟩:=Je g (fun _ _ h=>h) K.flat hx hi;simp only[av]at hm;have Wt:=hm.2 (by rw[hg];simp);obtain⟨r,bU,clock,h1,h2,h3,h4,h5⟩:=g.row id (.map kk vk) es hg;rw[h1]at Wt;subst Wt;have bL:AV.bF id∉v.cells:=fun hc=>by have:=ado.1 ql _ hc;simp at this
     have gd:=hY g v.cells;have hgd:(cy hh v.cells).get id=some (.own (.map kk vk) es):=by rw[oq _ _ _ bL];exact hg
     obtain⟨uj,xg,hv3⟩:=ta (Z':=pT Z ψ hh.get v.cells) g (fun b hb=>.inl hb) (fun id b h1 h2 h3=>.inr ⟨id,h1,h2,h3⟩) hy hv;have YS:aD (pT Z ψ hh.get v.cells) w kk x u2.cells.toList:=Jf.flat K.flat;have aF:=(acV.1 h2).1;have mb:ob (ψ id)=some r:=by rw[h1];rfl
     have hE:jV (pT Z ψ hh.get v.cells) w kk vk es bU.toList:=jV.mono h3 (fun b hb=>.inl hb) (cp.refl _ _);have hf:=K.find Z w x u2 bU.toList (es.map (·.1)) Jf mY (jV.keys h3);rw[zY]at hf;have fin:∀(o:Obj) (OJ:List (kk.T×vk.T)) (mi:Array MapEntry) (z5:Nat),o=.map mi z5→jV (pT Z ψ hh.get v.cells) w kk vk OJ mi.toList→(mi.toList.map (·.born)).Pairwise (·≠·)→(∀e∈mi.toList,e.born<z5) → Next Z ψ hh.get w B0 O N (pT Z ψ hh.get v.cells) ψ ((cy hh v.cells).set id (.own (.map kk vk) OJ)).get { w with heap:=w.heap.setIfInBounds r o }:=by rintro o OJ mi z5 rfl h6 h7 h8;rw[mh];have n:=ri (N:=N) gd (by rw[hgd];simp) mb aF (.map mi z5) (ok:=.map kk vk) (x:=OJ) (fun w' Jg sm=>⟨r,mi,z5,h1,by rw[Jg];simp[aF],jV.mono h6 (fun _ h=>h) sm,vU.2 h7,h8⟩);exact n.drop (fun b hb=>.inl hb) (fun b hb=>hb.imp (fun h=>h) (fun⟨i,_,h5,h6⟩=>⟨i,h5,h6⟩)) (dP _ _)
     cases C6:sR kk x es with
     |none =>
      rw[C6]at hf;refine⟨_,{ w with heap:=w.heap.setIfInBounds r (.map (bU.push { key:=u2,val:=u3,born:=clock }) (clock+1)) },pT Z ψ hh.get v.cells,rfl,?_,?_⟩
      rotate_left
      ·rw[show l8 kk x y es=es++[(x,y)] by simp[l8,C6]];refine fin _ _ (bU.push { key:=u2,val:=u3,born:=clock }) (clock+1) rfl ?_ ?_ ?_
       ·rw[Array.toList_push];exact hE.push ⟨⟨YS,mY⟩,uj,xg,hv3⟩
       ·rw[Array.toList_push,List.map_append,List.pairwise_append];refine⟨vU.1 h4,by simp,fun a ha b hb=>?_⟩;simp only[List.map_cons,List.map_nil,List.mem_singleton]at hb;obtain⟨e,he,rfl⟩:=adq.1 ha;have:=h5 e he;omega
       ·intro e he;rw[Array.toList_push]at he;rcases adb.1 he with he|he
        ·have:=h5 e he;omega
        ·simp only[List.mem_singleton]at he;subst he;exact Nat.lt_succ_self _
      ·simp only[Instr.mapUpdate,Sem.run_bind,run_underlying hu,Result.andThen_ok,MapKept.run_getObj_map h2,K.check Z w x u2 _ Jf mY,hf,Option.map_none,MapKept.run_setObj_map _ h2]
     |some j =>
      rw[C6]at hf;have hj:=Ep C6;obtain⟨e0,UY,heq⟩:=S8 C6;have IN:j<bU.toList.length:=by rw[←h3.1];exact hj
      have hl:bU.toList[j]? = some bU.toList[j]:=aci IN;have N3:bU[j]? = some bU.toList[j]:=by rw[←hl];simp
      obtain⟨⟨YT,aec⟩,_⟩:=h3.2 j _ _ UY hl;have r9:bU.toList[j].key=u2:=by refine Mh aec mY ?_;rw[←(yG kk x e0.1 K.flat).1 heq]at YT;exact ov K.flat YT Jf
      have UZ:(Instr.keyThatStays u2 u2).run P w=.ok u2 w:=by simp[Instr.keyThatStays,OF K.flat Jf mY]
      refine⟨_,{ w with heap:=w.heap.setIfInBounds r (.map (bU.modify j fun e=>{ e with key:=u2,val:=u3 }) clock) },pT Z ψ hh.get v.cells,rfl,?_,?_⟩
      rotate_left
      ·rw[show l8 kk x y es=es.set j (x,y) by simp[l8,C6]];refine fin _ _ (bU.modify j fun e=>{ e with key:=u2,val:=u3 }) clock rfl ?_ ?_ ?_
       ·rw[Array.toList_modify];exact hE.set j (fun e he=>⟨⟨YS,mY⟩,uj,xg,hv3⟩)
       ·rw[Array.toList_modify,xp (f:=fun e:MapEntry=>{ e with key:=u2,val:=u3 }) (fun _=>rfl)];exact vU.1 h4
       ·intro e he;have:e.born∈(bU.modify j fun e=>{ e with key:=u2,val:=u3 }).toList.map (·.born):=adq.2 ⟨e,he,rfl⟩;rw[Array.toList_modify,xp (f:=fun e:MapEntry=>{ e with key:=u2,val:=u3 }) (fun _=>rfl)]at this;obtain⟨e',Wm,h6⟩:=adq.1 this;rw[←h6];exact h5 e' Wm
      ·simp only[Instr.mapUpdate,Sem.run_bind,run_underlying hu,Result.andThen_ok,MapKept.run_getObj_map h2,K.check Z w x u2 _ Jf mY,hf,Option.map_some,N3,Option.getD_some,r9,UZ,MapKept.run_setObj_map _ h2]
    ·cases he
   ·cases he
  ·cases he
 ·cases he
theorem uk{Eqs:TypeId→Option K}(Cn:∀t k,Eqs t=some k→lr P t k){hh:Heap}(g:Good Z ψ hh.get w B0 O){t ty:TypeId}{ts:List TypeId}{m i:AV}{u1 u2:Value}{e:bE} (hm:av Z ψ hh.get w m u1) (hi:av Z ψ hh.get w i u2) (he:nj P Eqs hh t m i some=some e) :
  ∃hw w',e=.wr (.mG []) hw∧(Builtin.delete_ (t::ts).toArray ty #[u1,u2]).run P w=.ok (.tuple #[]) w'∧Next Z ψ hh.get w B0 O N Z ψ hw.get w':=by
 unfold nj at he
 split at he
 ·rename_i ka va id Yg
  split at he
  ·rename_i kk vk es hg
   split at he
   ·rename_i hc;obtain⟨rfl,rfl⟩:=hc
    split at he
    ·rename_i x hx
     cases he
     obtain⟨a,b,hu,hk,_⟩:=tc Yg;have K:=vS Cn hk;obtain⟨Jf,mY⟩:=Je g (fun _ _ h=>h) K.flat hx hi;simp only[av]at hm;have Wt:=hm.2 (by rw[hg];simp);obtain⟨r,bU,clock,h1,h2,h3,h4,h5⟩:=g.row id (.map kk vk) es hg;rw[h1]at Wt;subst Wt;have aF:=(acV.1 h2).1;have mb:ob (ψ id)=some r:=by rw[h1];rfl
     have hf:=K.find Z w x u2 bU.toList (es.map (·.1)) Jf mY (jV.keys h3);rw[zY]at hf;have fin:∀(o:Obj) (OJ:List (kk.T×vk.T)) (mi:Array MapEntry),o=.map mi clock→jV Z w kk vk OJ mi.toList→mi.toList.Sublist bU.toList → Next Z ψ hh.get w B0 O N Z ψ (hh.set id (.own (.map kk vk) OJ)).get { w with heap:=w.heap.setIfInBounds r o }:=by rintro o OJ mi rfl h6 h7;rw[mh];exact ri (N:=N) g (by rw[hg];simp) mb aF (.map mi clock) (ok:=.map kk vk) (x:=OJ) (fun w' Jg sm=>⟨r,mi,clock,h1,by rw[Jg];simp[aF],jV.mono h6 (fun _ h=>h) sm,h4.sublist h7,fun e he=>h5 e (h7.subset he)⟩)
     cases C6:sR kk x es with
     |none =>
      rw[C6]at hf;refine⟨_,{ w with heap:=w.heap.setIfInBounds r (.map bU clock) },rfl,?_,?_⟩
      rotate_left
      ·rw[show Od kk x es=es by simp[Od,C6]];exact fin _ _ bU rfl h3 (List.Sublist.refl _)
      ·simp[Builtin.delete_,run_underlying hu,MapKept.run_getObj_map h2,K.check Z w x u2 _ Jf mY,hf,MapKept.run_setObj_map _ h2]
     |some j =>
      rw[C6]at hf;have hj:=Ep C6;refine⟨_,{ w with heap:=w.heap.setIfInBounds r (.map (bU.eraseIdxIfInBounds j) clock) },rfl,?_,?_⟩
      rotate_left
      ·rw[show Od kk x es=es.eraseIdx j by simp[Od,C6]];refine fin _ _ (bU.eraseIdxIfInBounds j) rfl ?_ ?_
       ·rw[Array.toList_eraseIdxIfInBounds];exact jV.erase h3 j
       ·rw[Array.toList_eraseIdxIfInBounds];exact List.eraseIdx_sublist _ _
      ·simp[Builtin.delete_,run_underlying hu,MapKept.run_getObj_map h2,K.check Z w x u2 _ Jf mY,hf,MapKept.run_setObj_map _ h2]
    ·cases he
   ·cases he
  ·cases he
 ·cases he
theorem Jh{hh:Heap}(g:Good Z ψ h w B0 O)(bu:∀id o,hh.get id=some o→h id=some o){t ty:TypeId}{x:AV}{u:Value}{e:bE}(ht:I0 P t=true)(hx:av Z ψ h w x u)(he:vK hh x some=some e) :
  ∃n:Nat,e=.val (.int .i64 (n:Int))∧(Builtin.len_ #[t] ty #[u]).run P w=.ok (.int .i64 (n:Int)) w:=by
 unfold vK at he
 split at he
 ·rename_i kk vk es hv
  cases he
  have hu:∃a b,P.underlying t=some (.map a b):=by
   unfold I0 at ht
   split at ht
   ·exact⟨_,_,by assumption⟩
   ·cases ht
  obtain⟨a,b,hu⟩:=hu;obtain⟨A,rfl,hA⟩:=KQ g bu hx hv;rcases hA with⟨rfl,rfl⟩|⟨r,bU,clock,rfl,h3,h4⟩
  ·exact⟨0,rfl,by simp[Builtin.len_,run_underlying hu,goInt]⟩
  ·refine⟨es.length,rfl,?_⟩;have:bU.size=es.length:=by rw[h4.1];simp
   simp[Builtin.len_,run_underlying hu,MapKept.run_getObj_map h3,goInt,this]
 ·cases he
theorem z6(g:Good Z ψ h w B0 O)(hB:B0≤w.heap.size)(id:Nat)(hN:N id){ok:OK}{x:ok.T}{v:Value}(o:Obj)(ho:jm Z (w.alloc o) ok v x)(hb:ob v=some w.heap.size) (bf:∀i ty cs,h i=some (.box ty cs)→ax (fun i=>i≠id) cs):Next Z ψ h w B0 O N Z (dA ψ id v) (dA h id (some (.own ok x))) (w.alloc o) :=F2 g hB id hN (cV.alloc _ _ _ _) (fun b hb=>heap_alloc_old w _ (g.bM hb)) ho (fun b Cx=>by rw[hb]at Cx;cases Cx;exact adg _) bf
theorem Cz{Eqs:TypeId→Option K}(g:Good Z ψ h w B0 O)(hB:B0≤w.heap.size){id:Nat}(hN:N id){t:TypeId}{e:bE}(bf:∀i ty cs,h i=some (.box ty cs)→ax (fun i=>i≠id) cs)(he:kW P Eqs id t some=some e) :
  ∃v w' ψ',(Instr.makeMap t none).run P w=.ok v w'∧Next Z ψ h w B0 O N Z ψ' (e.hp h) w'∧av Z ψ' (e.hp h) w' e.v v:=by
 unfold kW at he
 split at he
 ·rename_i kk vk Yg
  cases he
  refine⟨.map (some w.heap.size),w.alloc (.map #[] 0),dA ψ id (.map (some w.heap.size)),rfl,?_,?_⟩
  ·simp only[bE.hp];rw[hZ];exact z6 g hB id hN (ok:=.map kk vk) (x:=[]) _ ⟨w.heap.size,#[],0,rfl,heap_alloc_new _ _,⟨rfl,fun i x e h=>by simp at h⟩,by simp,by simp⟩ rfl bf
  ·simp only[bE.v,bE.hp,av];exact⟨⟨rfl,rfl⟩,fun _=>(bg _ _ _).symm⟩
 ·cases he
theorem Es(g:Good Z ψ h w B0 O)(hB:B0≤w.heap.size){id:Nat}(hN:N id){t:TypeId}{x:AV}{u:Value}{e:bE}(hx:av Z ψ h w x u)(bf:∀i ty cs,h i=some (.box ty cs)→ax (fun i=>i≠id) cs)(he:nk P id t x some=some e) :
  ∃v w' ψ',(Instr.range t u).run P w=.ok v w'∧Next Z ψ h w B0 O N Z ψ' (e.hp h) w'∧av Z ψ' (e.hp h) w' e.v v:=by
 unfold nk at he
 split at he
 ·rename_i sv hu
  cases he
  simp only[av]at hx;subst hx;refine⟨.pointer (some ⟨w.heap.size,0,none⟩),w.alloc (.stringIter sv 0),dA ψ id (.pointer (some ⟨w.heap.size,0,none⟩)),?_,?_,?_⟩
  ·simp only[Instr.range,Sem.run_bind,run_underlying hu,Result.andThen_ok,Sem.run_pure];rfl
  ·simp only[bE.hp];rw[hZ];exact z6 g hB id hN (ok:=.nc) (x:=(sv,0)) _ ⟨w.heap.size,rfl,heap_alloc_new _ _⟩ rfl bf
  ·simp only[bE.v,bE.hp,av];exact⟨⟨rfl,rfl⟩,fun _=>(bg _ _ _).symm⟩
 ·cases he
theorem fQ{r:Nat}{o:Obj}(hb:w.heap[r]? = some o)(hc:∀c e f,o≠.cells c e f):(getObj r).run P w=.ok o w:=by cases o<;>first|(exact absurd rfl (hc _ _ _))|simp[getObj,Sem.run,hb]
theorem z7{r:Nat}{o o':Obj}(hb:w.heap[r]? = some o)(hc:∀c e f,o≠.cells c e f):(setObj r o').run P w=.ok () { w with heap:=w.heap.setIfInBounds r o' }:=by cases o<;>first|(exact absurd rfl (hc _ _ _))|simp[setObj,Sem.run,hb]
theorem Ge{hh:Heap}(g:Good Z ψ h w B0 O)(bu:∀id o,hh.get id=some o→h id=some o){ty:TypeId}{x:AV}{u:Value}{e:bE}(hx:av Z ψ h w x u)(me:∀v hw,e=.wr v hw→hh.get=h)(he:qV hh x some=some e) :
  ∃v w',(Instr.next u true ty).run P w=.ok v w'∧Next Z ψ h w B0 O N Z ψ (e.hp h) w'∧av Z ψ (e.hp h) w' e.v v:=by
 unfold qV at he
 split at he
 ·rename_i id
  split at he
  ·rename_i x hg;have zT:=bu _ _ hg;simp only[av]at hx;have hu:=hx.2 (by rw[zT];simp);obtain⟨r,h1,h2⟩:=g.row id .nc x zT;rw[h1]at hu;subst hu
   cases hc:decide (x.2<x.1.size) with
   |true =>
    rw[hc]at he;cases he;have heq:=me _ _ rfl;simp only[decide_eq_true_eq]at hc;have aF:=(acV.1 h2).1;refine⟨.tuple #[.bool true,goInt x.2,.int .i32 (Utf8.decode x.1 x.2).1],{ w with heap:=w.heap.setIfInBounds r (.stringIter x.1 (x.2+(Utf8.decode x.1 x.2).2)) },?_,?_,?_⟩
    ·simp only[Instr.next,Sem.run_bind,fQ h2 (by simp),Result.andThen_ok,hc,if_true,z7 h2 (by simp),Sem.run_pure]
    ·simp only[bE.hp];rw[mh,heq];exact ri (N:=N) g (by rw[zT];simp) (by rw[h1];rfl) aF _ (ok:=.nc) (x:=(x.1,x.2+zt x.1 x.2)) (fun w' Jg _=>⟨r,h1,by rw[Jg];simp[aF,zt]⟩)
    ·simp only[bE.v,av,ak];exact⟨_,rfl,_,_,rfl,rfl,_,_,rfl,rfl,_,_,rfl,rfl,rfl⟩
   |false =>
    rw[hc]at he;cases he;simp only[decide_eq_false_iff_not]at hc;refine⟨.tuple #[.bool false],w,?_,Next.refl g,?_⟩
    ·simp only[Instr.next,Sem.run_bind,fQ h2 (by simp),Result.andThen_ok,hc,if_false,Sem.run_pure]
    ·simp only[bE.v,av,ak];exact⟨_,rfl,_,_,rfl,rfl,rfl⟩
  ·cases he
 ·cases he
theorem find_born{l:List MapEntry}(h:l.Pairwise (fun a b=>a.born≠b.born)){e:MapEntry}(he:e∈l):l.find? (fun x=>x.born==e.born)=some e:=by
 induction l with
 |nil=>cases he
 |cons a r ih =>
  obtain⟨h1,h2⟩:=List.pairwise_cons.1 h;rw[List.find?_cons];rcases acn.1 he with rfl|he
  ·simp
  ·have:(a.born==e.born)=false:=by simpa using h1 e he
   rw[this];exact ih h2 he
theorem Gf{hh:Heap}(g:Good Z ψ h w B0 O)(bu:∀id o,hh.get id=some o→h id=some o){x:AV}{u:Value}{e:bE}(hx:av Z ψ h w x u)(he:qW hh x some=some e) :
  ∃y v,e=.val y∧(Instr.entry u).run P w=.ok v w∧av Z ψ h w y v:=by
 unfold qW at he
 split at he
 ·rename_i id
  split at he
  ·rename_i kk vk c rest hg
   cases he
   have zT:=bu _ _ hg;simp only[av]at hx;have hu:=hx.2 (by rw[zT];simp);obtain⟨r,m,since,seen,bU,clock,h1,h2,h3,h4,h5,h6,h7,h8,h9⟩:=g.row id (.iter kk vk) (some c,rest) zT;rw[h1]at hu;subst hu;obtain⟨en,mL,yi,IP⟩:=h9;obtain⟨⟨k1,k2,k3⟩,v1,v2,v3⟩:=IP.2 0 c en rfl rfl;refine⟨_,.tuple #[en.key,en.val],rfl,?_,?_⟩
   ·have hf:bU.find? (·.born==en.born)=some en:=by
     have:=find_born h5 mL
     rwa [←Array.find?_toList]
    simp only[Instr.entry,Sem.run_bind,fQ h2 (by simp),Result.andThen_ok,yi,Sem.run_pure,fQ h4 (by simp),hf];simp
   ·simp only[av,ak];exact⟨_,rfl,_,_,rfl,lq k1 k2 k3,_,_,rfl,lq v1 v2 v3,rfl⟩
  ·cases he
 ·cases he
mutual
theorem aE.imp{p q:Nat→Prop}(z8:∀i,p i→q i):∀{a:AV},aE p a→aE q a
 |.no,_=>by simp only[aE]
 |.bool b,_=>by simp only[aE]
 |.int k n,_=>by simp only[aE]
 |.str s,_=>by simp only[aE]
 |.kI,_=>by simp only[aE]
 |.fK,_=>by simp only[aE]
 |.ref id s i off,h=>by simp only[aE]at h ⊢;exact z8 _ h
 |.fp k x off,_=>by simp only[aE]
 |.sl ex k xs,_=>by simp only[aE]
 |.mp kk vk es,_=>by simp only[aE]
 |.bF id,h=>by simp only[aE]at h ⊢;exact z8 _ h
 |.fn f cap,h=>by simp only[aE]at h ⊢;exact ax.imp z8 h
 |.agg cs,h=>by simp only[aE]at h ⊢;exact ax.imp z8 h
 |.mG cs,h=>by simp only[aE]at h ⊢;exact ax.imp z8 h
theorem ax.imp{p q:Nat→Prop}(z8:∀i,p i→q i):∀{a:List AV},ax p a→ax q a
 |[],_=>by simp only[ax]
 |a::r,h=>by simp only[ax]at h ⊢;exact⟨aE.imp z8 h.1,ax.imp z8 h.2⟩
end
theorem aE.cells{p:Nat→Prop}{a:AV}(h:aE p a):ax p a.cells:=by
 cases a with
 |agg cs=>simpa only[AV.cells,aE] using h
 |_=>simp only[AV.cells,ax];exact⟨h,trivial⟩
theorem Aa:∀{cs:List AV},FR cs=true→∀id,AV.bF id∉cs
 |[],_,id=>by simp
 |c::r,hn,id=>by
  intro hm
  cases c with
  |bF i=>simp[FR]at hn
  |_ =>
   simp only[FR]at hn;rcases acn.1 hm with e|hm
   ·cases e
   ·exact Aa hn id hm
theorem qn:∀{vs:List AV},pX vs=true→∀v∈vs,∀id,AV.bF id∉v.cells
 |[],_,v,hv=>by simp at hv
 |a::r,hn,v,hv=>by
  simp only[pX,Bool.and_eq_true]at hn;rcases acn.1 hv with rfl|hv
  ·exact Aa hn.1
  ·exact qn hn.2 v hv
def um(o:Oper):Bool :=match o.op with
 |.call { callee:=.value _,.. }=>true
 |_=>false
theorem Ji{s:List (Nat×AV)}{ρC:Operand→Value}{x:Option Operand}(hx:∀y,x=some y→av Z ψ h w (ρ s y) (ρC y)):dU Z ψ h w (x.map (ρ s)) (x.map ρC):=by
 cases x with
 |none=>trivial
 |some y=>exact hx y rfl
theorem Ab{s:List (Nat×AV)}{ρC:Operand→Value}:∀(ps:List (Nat×Operand)),(∀p∈ps,av Z ψ h w (ρ s p.2) (ρC p.2))→(∀p∈ps,ρ s p.2≠.no)→si Z ψ h w (ps.map fun p=>(p.1,ρ s p.2)) (ps.map fun p=>(p.1,ρC p.2))
 |[],_,_=>trivial
 |p::r,h1,h2=>⟨rfl,h2 p (by simp),h1 p (by simp),Ab r (fun q hq=>h1 q (acm _ hq)) (fun q hq=>h2 q (acm _ hq))⟩
theorem C7{k:K}{hh:Heap}:∀{ps:List (Nat×AV)} {i:Nat} {xs:List k.T},p7 k hh i ps=some xs→∀p∈ps,p.2≠.no
 |[],_,_,_,p,hp=>by simp at hp
 |(j,v)::r,i,xs,hl,p,hp=>by
  simp only[p7]at hl
  split at hl
  ·split at hl
   ·rename_i x ys h1 h2;rcases acn.1 hp with rfl|hp
    ·exact C3 h1
    ·exact C7 h2 p hp
   ·cases hl
  ·cases hl
theorem Wu{α:Type}{l:List α}(h:l.length=0+1+1):∃x y,l=[x,y]:=by
 cases l with
 |nil=>simp at h
 |cons a r=>cases r with
  |nil=>simp at h
  |cons b s=>cases s with
   |nil=>exact⟨a,b,rfl⟩
   |cons c q=>simp at h
theorem Jj{a:AV}(h:US a=true):a≠.no:=by rintro rfl;cases h
section
variable {Eqs:TypeId→Option K} {Sg:FuncId→Option aL} {F:(f:FuncId)→(g:aL)→g.A→Option g.B}
theorem Et{hh:Heap}{ρC:Operand→Value}{o:Oper}(g:Good Z ψ h w B0 O)(hB:B0≤w.heap.size)(bu:∀id o,hh.get id=some o→h id=some o){id:Nat}(hN:N id){t:TypeId}{s x:AV}{u v:Value}{e:bE} (hs:av Z ψ h w s u) (hx:av Z ψ h w x v) (Co:aE (fun i=>¬N i) s) (bf:∀i ty cs,h i=some (.box ty cs)→ax (fun i=>¬N i) cs) (me:∀v hw,e=.wr v hw→hh.get=h) (he:nh P hh id t s x some=some e) (dn:∀V w',(Builtin.append_ #[t,t] o.type #[u,v]).run P w=.ok V w'→(execOp ρC o).run P w=.ok (.value V) w'):gI P ρC o Z ψ h w B0 O N e:=by
 have Sy:∀i ty cs,h i=some (.box ty cs)→ax (fun i=>i≠id) cs:=fun i ty cs hb=>(bf i ty cs hb).imp (fun j hj e=>hj (by rw[e];exact hN));unfold nh at he
 split at he
 ·cases he
 ·rename_i et het;have ht:=mP het
  split at he
  ·cases he
  ·rename_i kk Ta
   split at he
   ·rename_i ys Mi lu;obtain⟨inf,z,IL⟩:=ct lu
    split at he
    ·
     cases hc:aK 0 ys.length with
     |false=>rw[hc]at he;cases he
     |true =>rw[hc]at he;cases he;simp only[aK,decide_eq_true_eq]at hc;simp only[av]at hs;subst hs;obtain⟨V,w',h1,h2,h3⟩:=pj (P:=P) (ty:=o.type) g bu hB hN ht IL Mi hx (by omega) Sy;refine⟨V,w',Z,_,.inl (dn V w' h1),by simp only[bE.hp];rw[hZ];exact h2,?_⟩;simp only[bE.v,bE.hp,av];exact⟨h3,fun _=>(bg _ _ _).symm⟩
    ·
     rename_i cK
     split at he
     ·rename_i e' k' xs hg
      split at he
      ·rename_i hc;obtain⟨rfl,rfl⟩:=hc
       cases oa:aK xs.length ys.length with
       |false=>rw[oa]at he;cases he
       |true =>rw[oa]at he;cases he;simp only[aK,decide_eq_true_eq]at oa;have heq:=me _ _ rfl;have zT:=bu _ _ hg;simp only[av]at hs;have hu:=hs.2 (by rw[zT];simp);subst hu;simp only[aE]at Co;obtain⟨V,w',h1,h2,h3⟩:=yj (P:=P) (ty:=o.type) g bu hB hN (fun e=>Co (by rw[e];exact hN)) ht IL zT Mi hx oa Sy;refine⟨V,w',Z,_,.inl (dn V w' h1),by simp only[bE.hp];rw[mh,uf,heq];exact h2,?_⟩;simp only[bE.v,bE.hp,av];exact⟨h3,fun _=>(bg _ _ _).symm⟩
      ·cases he
     ·cases he
    ·
     rename_i ex k' xs
     split at he
     ·rename_i hc;subst hc
      cases oa:(ex&&((!ys.isEmpty || xs.isEmpty)&&aK xs.length ys.length)) with
      |false=>rw[oa]at he;cases he
      |true =>rw[oa]at he;cases he;simp only[Bool.and_eq_true,Bool.or_eq_true,aK,decide_eq_true_eq,Bool.not_eq_true',List.isEmpty_eq_false_iff,List.isEmpty_iff]at oa;obtain⟨rfl,bq,Tb⟩:=oa;obtain⟨V,w',h1,h2,h3⟩:=zN (P:=P) (ty:=o.type) g bu hB hN ht IL hs Mi hx (bq.imp List.length_pos_iff.2 (fun h=>h)) Tb Sy;refine⟨V,w',Z,_,.inl (dn V w' h1),by simp only[bE.hp];rw[hZ];exact h2,?_⟩;simp only[bE.v,bE.hp,av];exact⟨h3,fun _=>(bg _ _ _).symm⟩
     ·cases he
    ·cases he
   ·cases he
theorem Ac{ρC:Operand→Value}{o:Oper}(g:Good Z ψ h w B0 O)(hB:B0≤w.heap.size){id:Nat}(hN:N id){t:TypeId}{vs:List AV}{us:Array Value}{e:bE}(hr:ak Z ψ h w vs us.toList)(h1:∀u∈us.toList,u.oneCell'=true) (hm:ax (fun i=>¬N i) vs) (bf:∀i ty cs,h i=some (.box ty cs)→ax (fun i=>¬N i) cs) (he:vN id t vs some=some e) (dn:(execOp ρC o).run P w=.ok (.value (.pointer (some ⟨w.heap.size,0,none⟩))) (w.alloc (.cells us t))):gI P ρC o Z ψ h w B0 O N e:=by
 unfold vN at he
 cases he
 have bq:∀i,¬N i→i≠id:=fun j hj e=>hj (by rw[e];exact hN);have n:=qi (N:=N) g hB id t hN hr h1 (fun i ty cs hb=>(bf i ty cs hb).imp bq) (hm.imp bq);refine⟨_,_,Z,_,.inl dn,by simp only[bE.hp];rw[hZ];exact n,?_⟩;simp only[bE.v,bE.hp,av];exact⟨_,rfl,fun _=>by rw[bg];simp[SV]⟩
theorem Mj{hh:Heap}{ρC:Operand→Value}{s:List (Nat×AV)}{o:Oper}(g:Good Z ψ h w B0 O)(hB:B0≤w.heap.size)(bu:∀id o,hh.get id=some o→h id=some o){id:Nat}(hN:N id){t:TypeId}{n:Nat}{ps:Array (Nat×Operand)}{e:bE} (mZ:∀p∈ps.toList,av Z ψ h w (ρ s p.2) (ρC p.2)) (bf:∀i ty cs,h i=some (.box ty cs)→ax (fun i=>¬N i) cs) (km:Bool) {e0:bE} (Td:e=if km then SU e0 else e0) (me:∀v hw,e=.wr v hw→hh.get=h) (he:tR P hh id t n (ps.toList.map fun p=>(p.1,ρ s p.2)) some=some e0)
  (dn:∀V w',(Instr.buildSlice t n (ps.map fun p=>(p.1,ρC p.2))).run P w=.ok V w'→(execOp ρC o).run P w=.ok (.value V) w'):gI P ρC o Z ψ h w B0 O N e:=by
 have Sy:∀i ty cs,h i=some (.box ty cs)→ax (fun i=>i≠id) cs:=fun i ty cs hb=>(bf i ty cs hb).imp (fun j hj e=>hj (by rw[e];exact hN));unfold tR at he
 split at he
 ·cases he
 ·rename_i et het;have ht:=mP het
  split at he
  ·cases he
  ·rename_i k hk
   split at he
   ·cases he
   ·cases he
   ·rename_i xs nr lu;obtain⟨inf,z,IL⟩:=ct lu;have Jk:=Ab (Z:=Z) (ψ:=ψ) (h:=h) (w:=w) ps.toList mZ (fun p hp=>C7 nr (p.1,ρ s p.2) (adq.2 ⟨p,hp,rfl⟩));have KR:si Z ψ hh.get w (ps.toList.map fun p=>(p.1,ρ s p.2)) (ps.map fun p=>(p.1,ρC p.2)).toList:=by rw[Array.toList_map];exact Jk.pM bu
    split at he
    ·rename_i hc;obtain⟨rfl,hn⟩:=hc
     cases ql:pX ((ps.toList.map fun p=>(p.1,ρ s p.2)).map (·.2)) with
     |true =>
      rw[ql]at he;cases he;have aed:=qn ql;obtain⟨V,w',h1,h2,h3⟩:=F7 (P:=P) (N:=N) g (g.sub bu) (fun _ h=>h) hB hN ht IL (fun p hp i b hm=>absurd hm (aed p.2 (adq.2 ⟨p,hp,rfl⟩) i)) KR nr hn Sy
      cases km with
      |false =>have Td:e=.new (.bF id) [(id,.own (.row et k) xs)]:=Td;subst Td;refine⟨V,w',Z,_,.inl (dn V w' h1),by simp only[bE.hp];rw[hZ];exact h2,?_⟩;simp only[bE.v,bE.hp,av];exact⟨h3.1,fun _=>(bg _ _ _).symm⟩
      |true =>
       have Td:e=.new (.sl true k xs) []:=Td;subst Td;obtain⟨m1,m2⟩:=Ow g hB h2 h3.2.1 h3.2.2.1 h3.2.2.2;have e1:(bE.new (.sl true k xs) []).hp h=h:=by funext i;simp[bE.hp,Heap.get]
       refine⟨V,w',_,_,.inl (dn V w' h1),by rw[e1];exact m1,?_⟩;rw[e1];exact m2
     |false =>
      rw[ql]at he;cases he;have Td:e=.wr (.bF id) ((id,.own (.row et k) xs)::cy hh ((ps.toList.map fun p=>(p.1,ρ s p.2)).flatMap (·.2.cells))):=by rw[Td];cases km<;>rfl
      subst Td;have heq:=me _ _ rfl;subst heq
      let cs:=(ps.toList.map fun p=>(p.1,ρ s p.2)).flatMap (·.2.cells)
      have gd:=hY g cs;obtain⟨V,w',h1,h2,h3⟩:=F7 (P:=P) (N:=N) gd g (fun b hb=>.inl hb) hB hN ht IL (fun p hp i b hm bq hb=>.inr ⟨i,List.mem_flatMap.2 ⟨p,hp,hm⟩,bq,hb⟩) KR nr hn (fun i ty cs' hb=>Sy i ty cs' (dP _ _ _ _ hb));refine⟨V,w',pT Z ψ hh.get cs,dA ψ id V,.inl (dn V w' h1),?_,?_⟩
      ·simp only[bE.hp];rw[zR];exact h2.drop (fun b hb=>.inl hb) (fun b hb=>hb.imp (fun h=>h) (fun⟨i,_,h5,h6⟩=>⟨i,h5,h6⟩)) (dP _ _)
      ·simp only[bE.v,bE.hp,av];exact⟨h3.1,fun _=>(bg _ _ _).symm⟩
    ·cases he
theorem Mk{km:Bool}{h:Heap}{id:Nat}{t:TypeId}{n:Nat}{ps:List (Nat×AV)}{e:bE}(he:vO P km h id t n ps some=some e):∃e0,tR P h id t n ps some=some e0∧e=if km then SU e0 else e0:=by
 unfold vO tR at he;unfold tR
 split at he
 ·cases he
 split at he
 ·cases he
 split at he
 ·cases he
 ·cases he
 split at he
 ·rename_i hc;rw[if_pos hc]
  cases ql:pX (ps.map (·.2)) with
  |true=>rw[ql]at he;exact⟨_,rfl,(ada he).symm⟩
  |false=>rw[ql]at he;exact⟨_,rfl,(ada he).symm⟩
 ·cases he
theorem Ad(p:Nat→Prop)(v:Value):aE p (vG v):=by
 cases v with
 |pointer a=>simp only[vG];split<;>simp only[aE]
 |slice a n c=>simp only[vG];split<;>simp only[aE]
 |func fn first cap =>
  cases fn with
  |func f=>simp only[vG];split<;>simp only[aE,ax]
  |_=>simp only[vG,aE]
 |_=>simp only[vG,aE]
theorem vV(p:Nat→Prop):∀vs:List Value,ax p (vs.map vG)
 |[]=>by simp[ax]
 |v::r=>by simp only[List.map_cons,ax];exact⟨Ad p v,vV p r⟩
theorem Ml(p:Nat→Prop)(v:Value):ax p (sQ v).cells:=by
 cases v with
 |agg cs=>simp only[sQ,AV.cells];exact vV p _
 |_=>simp only[sQ];rw[C2];simp only[ax];exact⟨Ad p _,trivial⟩
theorem OL(Cn:∀t k,Eqs t=some k→lr P t k){hh:Heap}{ρC:Operand→Value}{s:List (Nat×AV)}{o:Oper}(g:Good Z ψ h w B0 O)(hB:B0≤w.heap.size)(bu:∀id o,hh.get id=some o→h id=some o){id:Nat}(hN:makes o.op=true→N id){e:bE} (mZ:∀x∈o.op.operands,av Z ψ h w (ρ s x) (ρC x)) (hm:∀x∈o.op.operands,aE (fun i=>¬N i) (ρ s x)) (bf:∀i ty cs,h i=some (.box ty cs)→ax (fun i=>¬N i) cs) (me:∀v hw,e=.wr v hw→hh.get=h) (IQ:um o=false) (he:cM P Eqs Sg F id hh s o some=some e):gI P ρC o Z ψ h w B0 O N e:=by
 obtain⟨dst,op,type,pos,after,guard⟩:=o;have two:∀{a b:Operand},(∀x∈(#[a,b]:Array Operand),av Z ψ h w (ρ s x) (ρC x))→av Z ψ h w (ρ s a) (ρC a)∧av Z ψ h w (ρ s b) (ρC b):=fun hx=>⟨hx _ (by simp),hx _ (by simp)⟩
 cases op<;>simp only[cM]at he<;>simp only[Op.operands]at mZ hm<;>first|(cases he;done)|skip
 case move x=>cases he;exact gI.val g (V:=ρC x) (by simp[execOp]) (mZ x (by simp))
 case assign x=>cases he;exact gI.val g (V:=ρC x) (by simp[execOp]) (mZ x (by simp))
 case pick c a b =>
  have h1:=mZ c (by simp);have h2:=mZ a (by simp);have h3:=mZ b (by simp)
  split at he
  ·rename_i t ht
   cases he
   rw[ht]at h1;simp only[av]at h1;refine gI.val g (V:=if t then ρC a else ρC b) (by simp[execOp,h1,asBool]) ?_;unfold UR
   split
   ·rename_i p q hp hq;rw[hp]at h2;rw[hq]at h3;simp only[av]at h2 h3 ⊢
    cases t<;>simp[h2,h3]
   ·cases t
    ·exact h3
    ·exact h2
  ·cases he
 case alloc t =>
  split at he
  ·rename_i z hz;obtain⟨i,zv,hi,YP,rfl,h1⟩:=ou hz;exact Ac (us:=zv.cells) g hB (hN rfl) (zP zv) h1 (Ml _ zv) bf he (by simp[execOp,Instr.alloc,uc hi YP,newVar,newRow,newObj,Sem.run])
  ·cases he
 case box t x =>
  have h1:=mZ x (by simp)
  split at he
  ·rename_i hp;have hc:=h1.cells (Gb hp);exact Ac (us:=(ρC x).cells) g hB (hN rfl) hc (s8 hp hc) (hm x (by simp)).cells bf he (by simp[execOp,Instr.box,newVar,newRow,newObj,Sem.run])
  ·cases he
 case build t ps =>
  unfold qX at he
  split at he
  ·rename_i z fs hz hf
   split at he
   ·rename_i cs YU fe
    cases he
    simp only[Bool.and_eq_true]at fe;obtain⟨fe,hnn⟩:=fe;have YV:fs.toList.all (fun f=>(P.info? f.type).isSome)=true:=fe;have Wv:∀p∈ps.toList,av Z ψ h w (ρ s p.2) (ρC p.2):=fun p hp=>mZ p.2 (by simp;exact⟨p.1,by simpa using hp⟩);have Jk:=Ab (Z:=Z) (ψ:=ψ) (h:=h) (w:=w) ps.toList Wv (fun p hp=>Jj (ado.1 hnn (p.1,ρ s p.2) (adq.2 ⟨p,hp,rfl⟩)));obtain⟨V,h1,h2⟩:=Ma (P:=P) (qs:=ps.map fun p=>(p.1,ρC p.2)) hz hf YV (by rw[Array.toList_map];exact Jk) YU;exact gI.val g (V:=V) (by simp only[execOp,Sem.run_bind];rw[h1];simp) h2
   ·cases he
  ·cases he
 case buildSlice t n ps =>
  have Wv:∀p∈ps.toList,av Z ψ h w (ρ s p.2) (ρC p.2):=fun p hp=>mZ p.2 (by simp;exact⟨p.1,by simpa using hp⟩);obtain⟨e0,h0,h1⟩:=Mk he;exact Mj g hB bu (hN rfl) Wv bf (UT Sg t _) h1 me h0 (fun V w' h1=>by simp only[execOp,Sem.run_bind];rw[h1];simp)
 case load t a =>
  obtain⟨x,V,rfl,h1,h2⟩:=s5 g bu (mZ a (by simp)) he;exact gI.val g (V:=V) (by simp[execOp,h1]) h2
 case store t a v =>
  obtain⟨h1,h2⟩:=two mZ;have hw:∃hw,e=.wr .no hw:=by obtain⟨hw,_,_,h3,_⟩:=xm (P:=P) (N:=N) (g.sub bu) (h1.pM bu) (h2.pM bu) he;exact⟨hw,h3⟩
  obtain⟨hw,rfl⟩:=hw;have heq:=me _ _ rfl;subst heq;obtain⟨Jg,w',Z',h3,h4,h5⟩:=xm (P:=P) (N:=N) g h1 h2 he
  cases h3
  exact⟨undef,w',Z',ψ,.inr ⟨by simp[execOp,h4],rfl⟩,h5,by simp only[bE.v,av]⟩
 case nilCheck x =>
  have h1:=mZ x (by simp)
  split at he
  ·rename_i id s i off hx
   cases he
   rw[hx]at h1;have h2:=h1;simp only[av]at h1;obtain⟨a,ha,_⟩:=h1;exact gI.val g (V:=ρC x) (by simp[execOp,ha]) h2
  ·rename_i k y off hx
   cases he
   rw[hx]at h1;have h2:=h1;simp only[av]at h1;obtain⟨a,us,ha,_⟩:=h1;exact gI.val g (V:=ρC x) (by simp[execOp,ha]) h2
  ·rename_i f cap hx
   cases he
   rw[hx]at h1;have h2:=h1;simp only[av]at h1;obtain⟨vs,ha,_⟩:=h1;exact gI.val g (V:=ρC x) (by simp[execOp,ha]) h2
  ·cases he
 case binOp op t x y yt =>
  obtain⟨h1,h2⟩:=two mZ;obtain⟨r,V,rfl,h3,h4⟩:=Mf Cn (xo:=x) (yo:=y) h1 h2 he;exact gI.val g (V:=V) (by simp only[execOp,Sem.run_bind]at h3 ⊢;rw[h3];simp) h4
 case unOp op t x =>
  have h1:=mZ x (by simp)
  cases op<;>simp only at he<;>first|(cases he;done)|skip
  split at he
  ·rename_i b hx
   cases he
   rw[hx]at h1;simp only[av]at h1;exact gI.val g (V:=.bool (!b)) (by simp[execOp,h1,Op.unary]) (by simp only[av])
  ·cases he
 case convert src dst x =>
  have h1:=mZ x (by simp);unfold zz at he
  split at he
  ·rename_i k1 k2 k3 n hs hd hx
   cases he
   rw[hx]at h1;simp only[av]at h1;exact gI.val g (V:=.int k2 (k2.wrap n)) (by simp[execOp,h1,convert,run_underlying hs,run_underlying hd,Conv.intToInt]) (by simp only[av])
  ·rename_i sv hs hd hx
   cases he
   rw[hx]at h1;have h2:=h1;simp only[av]at h1;exact gI.val g (V:=ρC x) (by simp[execOp,h1,convert,run_underlying hs,run_underlying hd]) h2
  ·cases he
 case makeFunc fn first cap =>
  cases fn<;>simp only at he<;>first|(cases he;done)|skip
  rename_i f
  split at he
  ·rename_i hf
   cases he
   have h0:first=#[]:=adH hf
   subst h0;have hl:∀l:List Operand,(∀x∈l,av Z ψ h w (ρ s x) (ρC x))→ak Z ψ h w (l.map (ρ s)) (l.map ρC):=by
    intro l
    induction l with
    |nil=>intro _;simp[ak]
    |cons a r ih=>intro ha;simp only[List.map_cons,ak];exact⟨_,_,rfl,ha a (by simp),ih (fun x hx=>ha x (acm _ hx))⟩
   exact gI.val g (V:=.func (.func f) #[] (cap.map ρC)) (by simp[execOp,Instr.makeFunc]) (by simp only[av];exact⟨_,rfl,by rw[Array.toList_map];exact hl _ (fun x hx=>mZ x (by simp;simpa using hx))⟩)
  ·cases he
 case slice t x lo hi mx =>
  have h1:=mZ x (by simp);have h2:dU Z ψ h w (lo.map (ρ s)) (lo.map ρC):=Ji (fun y hy=>mZ y (by subst hy;simp));have h3:dU Z ψ h w (hi.map (ρ s)) (hi.map ρC):=Ji (fun y hy=>mZ y (by subst hy;simp));have h4:dU Z ψ h w (mx.map (ρ s)) (mx.map ρC):=Ji (fun y hy=>mZ y (by subst hy;simp))
  split at he
  ·rename_i ht;unfold vJ at he
   split at he
   ·rename_i sv hx hmx
    split at he
    ·rename_i l u hb
     cases ho:aH sv.size l u with
     |false=>rw[ho]at he;cases he
     |true =>
      rw[ho]at he;cases he;rw[hx]at h1;simp only[av]at h1;have hm0:mx=none:=by cases mx with
       |none=>rfl
       |some m=>simp at hmx
      subst hm0;have dn:=s6 (P:=P) (w:=w) (b:=false) (adg sv.size) h2 h3 (mx:=none) (mx':=none) trivial hb ho (.inl rfl);exact gI.val g (V:=.string (We sv l u)) (by simp[execOp,Instr.sliceAt,Instr.slice,run_underlying ht,h1,dn,We]) (by simp only[av])
    ·cases he
   ·cases he
  ·rename_i et ht
   split at he
   ·rename_i Wq;obtain⟨V,Z',h5,h6,h7⟩:=Ga (P:=P) (N:=N) g bu ht h1 h2 h3 h4 me he Wq;exact⟨V,w,Z',ψ,.inl (by simp[execOp,h5]),h6,h7⟩
   ·cases he
  ·cases he
 case fieldAddr t x f =>
  have h1:=mZ x (by simp)
  split at he
  ·rename_i n ft id sz i off hf hx
   split at he
   ·cases he
   ·rename_i hc
    cases he
    rw[hx]at h1;obtain⟨V,h2,h3⟩:=sq (P:=P) hf hc h1;exact gI.val g (V:=V) (by simp[execOp,h2]) h3
  ·rename_i n ft k y off hf hx
   split at he
   ·cases he
   ·rename_i hc
    cases he
    rw[hx]at h1;obtain⟨V,h2,h3⟩:=uh (P:=P) hf hc h1;exact gI.val g (V:=V) (by simp[execOp,h2]) h3
  ·cases he
 case field t x f =>
  have h1:=mZ x (by simp)
  split at he
  ·rename_i n ft cs hf hx
   split at he
   ·rename_i v hv
    cases he
    rw[hx]at h1;obtain⟨V,h2,h3⟩:=F9 (P:=P) hf h1 hv;exact gI.val g (V:=V) (by simp[execOp,h2]) h3
   ·cases he
  ·cases he
 case indexAddr t x i =>
  obtain⟨h1,h2⟩:=two mZ;obtain⟨y,V,rfl,h3,h4⟩:=pn g bu h1 h2 he;exact gI.val g (V:=V) (by simp[execOp,h3]) h4
 case index t x i =>
  obtain⟨h1,h2⟩:=two mZ
  split at he
  ·rename_i sv ik n ht hx hi;obtain⟨c,hc,Sw⟩:=adp.1 he
   cases Sw
   rw[hx]at h1;rw[hi]at h2;simp only[av]at h1 h2;exact gI.val g (V:=.int .u8 (c.toNat:Int)) (by simp[execOp,Instr.index,asIntOf,run_underlying ht,h1,h2,hc]) (by simp only[av])
  ·cases he
 case extract t i =>
  have h1:=mZ t (by simp)
  split at he
  ·rename_i vs hx
   split at he
   ·rename_i v hv
    cases he
    rw[hx]at h1;simp only[av]at h1;obtain⟨us,hu,hl⟩:=h1;obtain⟨u,h2,h3⟩:=hl.get i hv;exact gI.val g (V:=u) (by simp[execOp,Instr.extract,hu,show us[i]? = some u by simpa using h2]) h3
   ·cases he
  ·cases he
 case makeMap t r =>
  cases r with
  |some r=>cases he
  |none =>simp only at he;have Sy:∀i ty cs,h i=some (.box ty cs)→ax (fun i=>i≠id) cs:=fun i ty cs hb=>(bf i ty cs hb).imp (fun j hj e=>hj (by rw[e];exact hN rfl));obtain⟨V,w',ψ',h1,h2,h3⟩:=Cz g hB (hN rfl) Sy he;exact⟨V,w',Z,ψ',.inl (by simp[execOp,h1]),h2,h3⟩
 case lookup t m i ok =>
  obtain⟨h1,h2⟩:=two mZ;obtain⟨y,V,rfl,h3,h4⟩:=Er Cn g bu h1 h2 he;exact gI.val g (V:=V) (by simp[execOp,h3]) h4
 case mapUpdate t m i v =>
  have h1:=mZ m (by simp);have h2:=mZ i (by simp);have h3:=mZ v (by simp);have hw:∃hw,e=.wr (.mG []) hw:=by obtain⟨hw,_,_,h4,_⟩:=ui (N:=N) Cn (g.sub bu) (h1.pM bu) (h2.pM bu) (h3.pM bu) he;exact⟨hw,h4⟩
  obtain⟨hw,rfl⟩:=hw;have heq:=me _ _ rfl;subst heq;obtain⟨Jg,w',Z',h4,h5,h6⟩:=ui (N:=N) Cn g h1 h2 h3 he
  cases h4
  exact⟨undef,w',Z',ψ,.inr ⟨by simp[execOp,h5],rfl⟩,h6,by simp only[bE.v,av,ak];exact⟨#[],rfl,rfl⟩⟩
 case range t x =>
  have Sy:∀i ty cs,h i=some (.box ty cs)→ax (fun i=>i≠id) cs:=fun i ty cs hb=>(bf i ty cs hb).imp (fun j hj e=>hj (by rw[e];exact hN rfl));obtain⟨V,w',ψ',h1,h2,h3⟩:=Es g hB (hN rfl) (mZ x (by simp)) Sy he;exact⟨V,w',Z,ψ',.inl (by simp[execOp,h1]),h2,h3⟩
 case next x b =>
  cases b with
  |false=>cases he
  |true =>obtain⟨V,w',h1,h2,h3⟩:=Ge (P:=P) (N:=N) (ty:=type) g bu (mZ x (by simp)) me he;exact⟨V,w',Z,ψ,.inl (by simp[execOp,h1]),h2,h3⟩
 case entry x =>
  obtain⟨y,V,rfl,h1,h2⟩:=Gf (P:=P) g bu (mZ x (by simp)) he;exact gI.val g (V:=V) (by simp[execOp,h1]) h2
 case call c =>
  obtain⟨callee,args,argTypes⟩:=c
  cases callee with
  |value f=>simp[um]at IQ
  |invoke r m=>simp only at he;cases he
  |builtin b =>
   have kE:∀x∈args.toList,av Z ψ h w (ρ s x) (ρC x):=fun x hx=>mZ x (by simp only[Call.operands];exact Array.mem_append.2 (.inr (by simpa using hx)));have OM:∀x∈args.toList,aE (fun i=>¬N i) (ρ s x):=fun x hx=>hm x (by simp only[Call.operands];exact Array.mem_append.2 (.inr (by simpa using hx)));obtain⟨args⟩:=args;obtain⟨argTypes⟩:=argTypes;simp only at he kE OM
   cases b<;>simp only at he<;>first|(cases he;done)|skip
   case append =>
    split at he
    ·rename_i l1 l2 x y t t'
     split at he
     ·rename_i htt;subst htt;exact Et g hB bu (hN rfl) (kE x (by simp)) (kE y (by simp)) (OM x (by simp)) bf me he (fun V w' h1=>by simp only[execOp,resolve,invoke,builtin,Sem.run_bind,Sem.run_pure,Result.andThen_ok,List.map_toArray,List.map_cons,List.map_nil,h1])
     ·cases he
    ·cases he
   case delete =>
    split at he
    ·rename_i l1 l2 m x t ts;have h1:=kE m (by simp);have h2:=kE x (by simp);have hw:∃hw,e=.wr (.mG []) hw:=by obtain⟨hw,_,h4,_⟩:=uk (N:=N) (ty:=type) (ts:=ts) Cn (g.sub bu) (h1.pM bu) (h2.pM bu) he;exact⟨hw,h4⟩
     obtain⟨hw,rfl⟩:=hw;have heq:=me _ _ rfl;subst heq;obtain⟨Jg,w',h4,h5,h6⟩:=uk (N:=N) (ty:=type) (ts:=ts) Cn g h1 h2 he
     cases h4
     exact⟨.tuple #[],w',Z,ψ,.inl (by simp only[execOp,resolve,invoke,builtin,Sem.run_bind,Sem.run_pure,Result.andThen_ok,List.map_toArray,List.map_cons,List.map_nil,h5]),h6,by simp only[bE.v,av,ak];exact⟨#[],rfl,rfl⟩⟩
    ·cases he
   case len =>
    split at he
    ·rename_i l1 l2 x t
     split at he
     ·rename_i htm;obtain⟨n,rfl,h1⟩:=Jh (P:=P) (ty:=type) g bu htm (kE x (by simp)) he;exact gI.val g (V:=.int .i64 (n:Int)) (by simp only[execOp,resolve,invoke,builtin,Sem.run_bind,Sem.run_pure,Result.andThen_ok,List.map_toArray,List.map_cons,List.map_nil,h1]) (by simp only[av])
     split at he
     ·rename_i aF;obtain⟨n,rfl,h1⟩:=Md g bu (kE x (by simp)) he;refine gI.val g (V:=.int .i64 (n:Int)) ?_ (by simp only[av]);rcases h1 with⟨sv,h2,h3,rfl⟩|⟨A,c,h3⟩
      ·unfold Wg at aF;rw[h2]at aF
       split at aF
       ·rename_i hu _;simp[execOp,resolve,invoke,builtin,Builtin.len_,run_underlying hu,h3,goInt]
       ·cases aF
       ·rename_i h9;exact(h9 _ rfl).elim
       ·cases aF
      ·have hu:∃e,P.underlying t=some (.slice e):=by
        have h4:=kE x (by simp);rw[h3]at h4;unfold Wg at aF
        split at aF
        ·rename_i sv _ hxx;rw[hxx]at h4;simp only[av]at h4;cases h4
        ·cases aF
        ·rename_i e _ hu _;exact⟨_,hu⟩
        ·cases aF
       obtain⟨e,hu⟩:=hu;simp[execOp,resolve,invoke,builtin,Builtin.len_,run_underlying hu,h3,goInt]
     ·cases he
    ·cases he
   all_goals
    unfold L6 at he
    split at he
    ·rename_i k a k' b Te;have hl:=congrArg List.length Te;simp only[List.length_map,List.length_cons,List.length_nil]at hl;obtain⟨x,y,rfl⟩:=Wu hl;simp only[List.map_cons,List.map_nil,List.cons.injEq,and_true]at Te;have h1:=kE x (by simp);have h2:=kE y (by simp);rw[Te.1]at h1;rw[Te.2]at h2;simp only[av]at h1 h2
     split at he
     ·rename_i hk;subst hk
      cases he
      refine gI.val g (V:=bR (.int _ _)) ?_ (jw _ _)
      first
       |(simp[execOp,resolve,invoke,builtin,Builtin.max_,Builtin.max2,h1,h2,bR];simp only[Int.max_def];split<;>split<;>omega)
       |(simp[execOp,resolve,invoke,builtin,Builtin.min_,Builtin.min2,h1,h2,bR];simp only[Int.min_def];split<;>split<;>omega)
     ·cases he
    ·cases he
end
end Go.Vs
namespace Go.Vs
variable {P:Program} {Z Z' Zf:Nat→Prop} {ψ ψ':Nat→Value} {h h':Hp} {w w':World} {B0:Nat} {O:Nat→Prop} {N:Nat→Prop}
abbrev xq:=Nat×Option Nat×Ob
def dx(L:List xq):Heap:=L.map fun e=>(e.1,e.2.2)
def jx(ψ:Nat→Value):Option Nat→Value
 |some s=>ψ s
 |none=>.slice none 0 0
def eC(ψ:Nat→Value):List xq→Nat→Value
 |[],_=>undef
 |(i,s,_)::r,n=>if i=n then jx ψ s else eC ψ r n
theorem nt{L:List xq}{i:Nat}{o:Ob}(hg:(dx L).get i=some o):∃s,(i,s,o)∈L:=by
 induction L with
 |nil=>simp[dx,Heap.get]at hg
 |cons e r ih =>
  obtain⟨j,s,o'⟩:=e;simp only[dx,List.map_cons,Heap.get]at hg
  split at hg
  ·rename_i e;subst e;cases hg;exact⟨s,ac9⟩
  ·obtain⟨s',hs⟩:=ih hg;exact⟨s',acm _ hs⟩
theorem mj{i:Nat}{r:List Nat}(h:b6 (i::r)=true):i∉r∧b6 r=true:=by simp only[b6,Bool.and_eq_true,Bool.not_eq_true']at h;exact⟨fun hm=>by rw[List.contains_iff_mem.2 hm]at h;simp at h,h.2⟩
theorem ir{L:List xq}(hn:b6 (L.map (·.1))=true){i:Nat}{s:Option Nat}{o:Ob}(hm:(i,s,o)∈L):eC ψ L i=jx ψ s:=by
 induction L with
 |nil=>cases hm
 |cons e r ih =>
  obtain⟨j,s',o'⟩:=e;obtain⟨h1,h2⟩:=mj hn;simp only[eC];rcases acn.1 hm with he|hm
  ·cases he;simp
  ·rw[if_neg,ih h2 hm];rintro rfl;exact h1 (adq.2 ⟨_,hm,rfl⟩)
theorem Tf{L:List xq}(hs:b6 (L.filterMap (·.2.1))=true){i j s:Nat}{o o':Ob}(h1:(i,some s,o)∈L)(h2:(j,some s,o')∈L):i=j∧o=o':=by
 induction L with
 |nil=>cases h1
 |cons e r ih =>
  obtain⟨k,s',o''⟩:=e;have mem:∀{k:Nat} {o:Ob},(k,some s,o)∈r→s∈r.filterMap (·.2.1):=fun h=>ad7.2 ⟨_,h,rfl⟩;rw[List.filterMap_cons]at hs
  cases s' with
  |none =>simp only[]at hs;exact ih hs ((acn.1 h1).resolve_left (by simp)) ((acn.1 h2).resolve_left (by simp))
  |some s' =>
   simp only[]at hs;obtain⟨h3,h4⟩:=mj hs;rcases acn.1 h1 with e1|m1<;>rcases acn.1 h2 with e2|m2
   ·cases e1;cases e2;exact⟨rfl,rfl⟩
   ·cases e1;exact absurd (mem m2) h3
   ·cases e2;exact absurd (mem m1) h3
   ·exact ih h4 m1 m2
def Gg:(ok:OK)→ok.T→Prop
 |.row _ _,xs=>xs=[]
 |_,_=>False
theorem Gg.owns:∀{ok:OK} {xs:ok.T},Gg ok xs→jm Z w ok (.slice none 0 0) xs
 |.row ty k,xs,h=>by have h:xs=[]:=h;subst h;exact⟨[],⟨by simp,.inl ⟨rfl,none,rfl⟩⟩,fun i x hx=>by simp at hx⟩
 |.map _ _,_,h=>h.elim
 |.iter _ _,_,h=>h.elim
 |.nc,_,h=>h.elim
def uo(Z:Nat→Prop)(ψ:Nat→Value)(h:Hp)(w:World)(h':Hp)(ψ':Nat→Value):xq→Prop
 |(_,some s,.own ok xs)=>h s=some (.own ok xs)
 |(_,none,.own ok xs)=>Gg ok xs
 |(_,some s,.box ty cs')=>(∃cs,h s=some (.box ty cs))∧∀gg vs,ψ s=.pointer (some ⟨gg,0,none⟩)→w.heap[gg]? = some (.cells vs ty (0,0))→ak Z ψ' h' w cs' vs.toList
 |(_,none,.box _ _)=>False
theorem Good.rename(g:Good Z ψ h w B0 O){L:List xq}(hn:b6 (L.map (·.1))=true)(hs:b6 (L.filterMap (·.2.1))=true)(lu:∀e∈L,uo Z ψ h w (dx L).get (eC ψ L) e) :
  Good Z (eC ψ L) (dx L).get w B0 O:=by
 have src:∀id b,(dx L).get id≠none→ob (eC ψ L id)=some b→∃s o,(id,some s,o)∈L∧h s≠none∧ob (ψ s)=some b:=fun id b h1 h2=>by
  obtain⟨o,ho⟩:=ade.1 h1;obtain⟨s,hm⟩:=nt ho;rw[ir hn hm]at h2
  cases s with
  |none=>simp[jx,ob]at h2
  |some s =>
   have h3:=lu _ hm;refine⟨s,o,hm,?_,h2⟩
   cases o with
   |box ty cs=>obtain⟨⟨cs0,h4⟩,_⟩:=h3;rw[h4];simp
   |own ok xs=>rw[show h s=some (.own ok xs) from h3];simp
 refine⟨fun id ty cs hb=>?_,fun id ok xs hb=>?_,fun id b h1 h2=>?_,fun id l9 b h1 h2 h3 h4=>?_,g.ju⟩
 ·obtain⟨s,hm⟩:=nt hb;have h3:=lu _ hm;rw[ir hn hm]
  cases s with
  |none=>exact h3.elim
  |some s =>obtain⟨⟨cs0,h4⟩,h5⟩:=h3;obtain⟨gg,vs,h6,h7,h8,h9⟩:=g.box s ty cs0 h4;exact⟨gg,vs,h6,h7,h5 gg vs h6 h7,h9⟩
 ·obtain⟨s,hm⟩:=nt hb;have h3:=lu _ hm;rw[ir hn hm]
  cases s with
  |none=>exact Gg.owns h3
  |some s=>exact g.row s ok xs h3
 ·obtain⟨s,o,hm,h3,h4⟩:=src id b h1 h2;exact g.live s b h3 h4
 ·obtain⟨s,o,hm,h5,h6⟩:=src id b h1 h3;obtain⟨s',o',Tg,h5',h6'⟩:=src l9 b h2 h4;have:=g.apart s s' b h5 h5' h6 h6';subst this;exact(Tf hs hm Tg).1
def yH(hh:Heap)(i:Nat):List AV:=match hh.get i with
 |some (.box _ cs)=>cs
 |_=>[]
def dD:(di:List CK)→Nat→List AV→pV di→List xq
 |[],_,_,_=>[]
 |.val k::r,n,cs,x=>dD r (n+1) (cs.drop k.sz) x.2
 |.own ok::r,n,cs,x=>(n,(oi (cs.headD .no)).head?,.own ok x.1)::dD r (n+1) cs.tail x.2
def dI:(b:BK)→Heap→Nat→Nat→Nat→b.T→List xq
 |.box ty c,hh,i,i',n,x=>(i',some i,.box ty (aA c n x))::dD c n (yH hh i) x
 |.own ok,_,i,i',_,x=>[(i',some i,.own ok x)]
def cr:(bs:List BK)→Heap→List Nat→List Nat→Nat→vH bs→List xq
 |b::r,hh,i::is,i'::is',n,x=>dI b hh i i' n x.1++cr r hh is is' (n+16) x.2
 |_,_,_,_,_,_=>[]
theorem ml:∀(di:List CK) (n:Nat) (cs:List AV) (x:pV di),dx (dD di n cs x)=aU di n x
 |[],_,_,_=>rfl
 |.val k::r,n,cs,x=>ml r (n+1) _ x.2
 |.own ok::r,n,cs,x=>by simp only[dD,aU,dx,List.map_cons];rw[←ml r (n+1) cs.tail x.2];rfl
theorem kL:∀(di:List CK) (n:Nat) (cs:List AV) (x:pV di),(dD di n cs x).map (·.1)=cd di n
 |[],_,_,_=>rfl
 |.val k::r,n,cs,x=>kL r (n+1) _ x.2
 |.own ok::r,n,cs,x=>by simp only[dD,cd,List.map_cons];rw[kL r (n+1) cs.tail x.2]
theorem vW(c:AV):(oi c).head?.toList=oi c:=by cases c<;>rfl
theorem dJ{α β:Type}(f:α→Option β)(a:α)(l:List α):(a::l).filterMap f=(f a).toList++l.filterMap f:=by rw[List.filterMap_cons];cases f a<;>rfl
theorem ox{k:K}{r:List CK}{hh:Heap}{cs:List AV}{x:pV (.val k::r)}(hd:cF (.val k::r) hh cs=some x):c8 k ((cs.take k.sz).map (cE hh))=some x.1∧cF r hh (cs.drop k.sz)=some x.2:=by
 have e:cF (.val k::r) hh cs=(match c8 k ((cs.take k.sz).map (cE hh)),cF r hh (cs.drop k.sz) with
  |some x,some y=>some ((x,y):k.T×pV r)
  |_,_=>none):=by cases cs<;>rfl
 rw[e]at hd;clear e;generalize c8 k ((cs.take k.sz).map (cE hh))=o1 at hd ⊢;generalize cF r hh (cs.drop k.sz)=o2 at hd ⊢
 cases o1 with
 |none=>cases hd
 |some x1 =>
  cases o2 with
  |none=>cases hd
  |some y1=>have:=ada hd;subst this;exact⟨rfl,rfl⟩
theorem lx{ok:OK}{r:List CK}{hh:Heap}{cs:List AV}{x:pV (.own ok::r)}(hd:cF (.own ok::r) hh cs=some x):∃c cs',cs=c::cs'∧dL hh ok c=some x.1∧cF r hh cs'=some x.2:=by
 cases cs with
 |nil=>cases hd
 |cons c cs =>
  refine⟨c,cs,rfl,?_⟩;have e:cF (.own ok::r) hh (c::cs)=(match dL hh ok c,cF r hh cs with
   |some x,some y=>some ((x,y):ok.T×pV r)
   |_,_=>none):=rfl
  rw[e]at hd;clear e;generalize dL hh ok c=o1 at hd ⊢;generalize cF r hh cs=o2 at hd ⊢
  cases o1 with
  |none=>cases hd
  |some x1 =>
   cases o2 with
   |none=>cases hd
   |some y1=>have:=ada hd;subst this;exact⟨rfl,rfl⟩
theorem oy:∀(di:List CK) (n:Nat) (hh:Heap) (cs:List AV) (x:pV di),cF di hh cs=some x→(dD di n cs x).filterMap (·.2.1)=fB di cs
 |[],_,_,cs,_,_=>by cases cs<;>rfl
 |.val k::r,n,hh,cs,x,hd=>by
  obtain⟨_,h2⟩:=ox hd;have e:fB (.val k::r) cs=fB r (cs.drop k.sz):=by cases cs<;>rfl
  rw[e];exact oy r (n+1) hh _ x.2 h2
 |.own ok::r,n,hh,cs,x,hd=>by obtain⟨c,cs',rfl,_,h2⟩:=lx hd;simp only[dD,fB];rw[dJ];simp only[List.headD_cons,List.tail_cons];rw[vW,oy r (n+1) hh cs' x.2 h2]
theorem ly{hh:Heap}{ok:OK}{c:AV}{xs:ok.T}(ho:dL hh ok c=some xs):(c=.fK∧Gg ok xs)∨∃id,c=.bF id∧hh.get id=some (.own ok xs):=by
 unfold dL at ho
 split at ho
 ·cases ok with
  |row _ _=>cases ho;exact .inl ⟨rfl,rfl⟩
  |_=>cases ho
 ·rename_i id
  split at ho
  ·rename_i yf k' YM hg
   split at ho
   ·rename_i e;subst e
    cases ho
    exact .inr ⟨id,rfl,hg⟩
   ·cases ho
  ·cases ho
 ·cases ho
theorem Eu{hh:Heap}{ok:OK}{c:AV}{xs:ok.T}{v:Value}(ho:dL hh ok c=some xs)(hr:av Z ψ hh.get w c v){n:Nat}(iI:h' n≠none→ψ' n=jx ψ (oi c).head?):av Z' ψ' h' w' (.bF n) v:=by
 rcases ly ho with⟨rfl,_⟩|⟨id,rfl,hg⟩
 ·simp only[av]at hr ⊢;subst hr;exact⟨⟨rfl,rfl⟩,fun hn=>(iI hn).symm⟩
 ·simp only[av]at hr ⊢;refine⟨hr.1,fun hn=>?_⟩;rw[iI hn];exact hr.2 (by rw[hg];simp)
theorem rj{hh:Heap}(g:Good Z ψ hh.get w B0 O)(hz:∀b,Z b→Z' b):∀(di:List CK) (n:Nat) (cs:List AV) (x:pV di) (vs:List Value),cF di hh cs=some x →(∀id b,AV.bF id∈o9 di cs→hh.get id≠none→ob (ψ id)=some b→Z' b)→(∀e∈dD di n cs x,h' e.1≠none→ψ' e.1=jx ψ e.2.1) → ak Z ψ hh.get w cs vs→ak Z' ψ' h' w (aA di n x) vs
 |[],n,cs,x,vs,hd,_,_,hr=>by
  cases cs with
  |nil=>simpa only[aA,ak] using hr
  |cons c cs=>cases hd
 |.val k::r,n,cs,x,vs,hd,hf,iI,hr=>by
  obtain⟨h1,h2⟩:=ox hd;have e:o9 (.val k::r) cs=cs.take k.sz++o9 r (cs.drop k.sz):=by cases cs<;>rfl
  rw[e]at hf;have q7:ak Z ψ hh.get w (cs.take k.sz++cs.drop k.sz) vs:=by rw[List.take_append_drop];exact hr
  obtain⟨us,ws,rfl,h3,h4⟩:=ak.split q7;simp only[aA];have h5:=nq (Z':=Z') g hz (fun id b bL=>hf id b (acr _ bL)) h3;exact ak.append (fH (c9 h1 h5)) (rj g hz r (n+1) (cs.drop k.sz) x.2 ws h2 (fun id b bL=>hf id b (acW _ bL)) iI h4)
 |.own ok::r,n,cs,x,vs,hd,hf,iI,hr=>by obtain⟨c,cs',rfl,h1,h2⟩:=lx hd;simp only[ak]at hr;obtain⟨v,us,rfl,h3,h4⟩:=hr;simp only[aA,ak];refine⟨v,us,rfl,Eu h1 h3 (fun hn=>iI (n,_,_) (by simp only[dD];exact ac9) hn),?_⟩;exact rj g hz r (n+1) cs' x.2 us h2 hf (fun e he=>iI e (by simp only[dD];exact acm _ he)) h4
theorem eV{b:BK}{r:List BK}{hh:Heap}{i:Nat}{is:List Nat}{x:vH (b::r)}(hd:cT (b::r) hh (i::is)=some x):pe b hh i=some x.1∧cT r hh is=some x.2:=by
 have e:cT (b::r) hh (i::is)=(match pe b hh i,cT r hh is with
   |some x,some y=>some ((x,y):b.T×vH r)
   |_,_=>none):=rfl
 rw[e]at hd;clear e;generalize pe b hh i=o1 at hd ⊢;generalize cT r hh is=o2 at hd ⊢
 cases o1 with
 |none=>cases hd
 |some x1 =>
  cases o2 with
  |none=>cases hd
  |some y1=>have:=ada hd;subst this;exact⟨rfl,rfl⟩
theorem rk{ty:TypeId}{c:List CK}{hh:Heap}{i:Nat}{x:pV c}(hd:pe (.box ty c) hh i=some x):∃cs,hh.get i=some (.box ty cs)∧cF c hh cs=some x:=by
 simp only[pe]at hd
 cases hb:tP hh i ty with
 |none=>rw[hb]at hd;cases hd
 |some cs =>
  rw[hb]at hd;refine⟨cs,?_,hd⟩;unfold tP at hb
  split at hb
  ·rename_i yf cs' hg
   split at hb
   ·rename_i e;cases hb;rw[hg,e]
   ·cases hb
  ·cases hb
theorem jy{hh:Heap}{ok:OK}{i:Nat}{x:ok.T}(h:dL hh ok (.bF i)=some x):hh.get i=some (.own ok x):=by
 rcases ly h with⟨h,_⟩|⟨id,h,hg⟩
 ·cases h
 ·cases h;exact hg
theorem C8{ok:OK}{hh:Heap}{i:Nat}{x:ok.T}(hd:pe (.own ok) hh i=some x):hh.get i=some (.own ok x):=jy hd
theorem oz{hh:Heap}{i:Nat}{ty:TypeId}{cs:List AV}(hg:hh.get i=some (.box ty cs)):yH hh i=cs:=by unfold yH;rw[hg]
theorem Ev(b:BK){hh:Heap}{i i' n:Nat}(x:b.T):dx (dI b hh i i' n x)=iK b i' n x:=by
 cases b with
 |box ty c=>simp only[dI,iK];rw[←ml c n (yH hh i) x];simp[dx]
 |own ok=>simp[dI,iK,dx]
theorem CA(b:BK){hh:Heap}{i i' n:Nat}(x:b.T):(dI b hh i i' n x).map (·.1)=i'::cd b.di n:=by
 cases b with
 |box ty c=>simp only[dI,List.map_cons,BK.di];rw[kL]
 |own ok=>simp[dI,BK.di,cd]
theorem Gh(b:BK){hh:Heap}{i i' n:Nat}{x:b.T}(hd:pe b hh i=some x):(dI b hh i i' n x).filterMap (·.2.1)=jM b hh i:=by
 cases b with
 |box ty c =>obtain⟨cs,h1,h2⟩:=rk hd;simp only[dI,jM];rw[dJ,oz h1,oy c n hh cs x h2,h1];rfl
 |own ok=>simp[dI,jM]
theorem iO:∀(bs:List BK) (hh:Heap) (is is':List Nat) (n:Nat) (x:vH bs),cT bs hh is=some x→is'.length=bs.length→dx (cr bs hh is is' n x)=bw bs is' n x
 |[],hh,is,is',n,x,_,hl=>by cases is'<;>simp[cr,bw,dx]
 |b::r,hh,[],is',n,x,hd,_=>by cases hd
 |b::r,hh,i::is,[],n,x,_,hl=>by simp at hl
 |b::r,hh,i::is,i'::is',n,x,hd,hl=>by obtain⟨_,h3⟩:=eV hd;have ih:=iO r hh is is' (n+16) x.2 h3 (by simpa using hl);simp only[cr,bw];rw[←ih,←Ev b (hh:=hh) (i:=i) x.1];simp[dx]
theorem gK:∀(bs:List BK) (hh:Heap) (is is':List Nat) (n:Nat) (x:vH bs),cT bs hh is=some x→is'.length=bs.length→(cr bs hh is is' n x).map (·.1)=bX bs is' n
 |[],hh,is,is',n,x,_,hl=>by cases is'<;>simp[cr,bX]
 |b::r,hh,[],is',n,x,hd,_=>by cases hd
 |b::r,hh,i::is,[],n,x,_,hl=>by simp at hl
 |b::r,hh,i::is,i'::is',n,x,hd,hl=>by obtain⟨_,h3⟩:=eV hd;have ih:=gK r hh is is' (n+16) x.2 h3 (by simpa using hl);simp only[cr,bX,List.map_append];rw[ih,CA,List.cons_append]
theorem jW:∀(bs:List BK) (hh:Heap) (is is':List Nat) (n:Nat) (x:vH bs),cT bs hh is=some x→is'.length=bs.length→(cr bs hh is is' n x).filterMap (·.2.1)=cU bs hh is
 |[],hh,is,is',n,x,_,hl=>by cases is'<;>cases is<;>simp[cr,cU]
 |b::r,hh,[],is',n,x,hd,_=>by cases hd
 |b::r,hh,i::is,[],n,x,_,hl=>by simp at hl
 |b::r,hh,i::is,i'::is',n,x,hd,hl=>by obtain⟨h1,h3⟩:=eV hd;have ih:=jW r hh is is' (n+16) x.2 h3 (by simpa using hl);simp only[cr,cU];rw[List.filterMap_append,ih,Gh b h1]
theorem rl{hd:Hp}{hh:Heap}:∀(di:List CK) (n:Nat) (cs:List AV) (x:pV di),cF di hh cs=some x→(∀s∈fB di cs,hd s=hh.get s)→∀e∈dD di n cs x,uo Z ψ hd w h' ψ' e
 |[],n,cs,x,_,_,e,he=>by simp[dD]at he
 |.val k::r,n,cs,x,Sz,hk,e,he=>by
  obtain⟨_,h2⟩:=ox Sz;have e0:fB (.val k::r) cs=fB r (cs.drop k.sz):=by cases cs<;>rfl
  rw[e0]at hk;exact rl r (n+1) _ x.2 h2 hk e he
 |.own ok::r,n,cs,x,Sz,hk,e,he=>by
  obtain⟨c,cs',rfl,h1,h2⟩:=lx Sz;simp only[dD,List.headD_cons,List.tail_cons]at he;simp only[fB]at hk;rcases acn.1 he with rfl|he
  ·rcases ly h1 with⟨rfl,h3⟩|⟨id,rfl,h3⟩
   ·exact h3
   ·show hd id=some (.own ok x.1);rw[hk id (List.mem_append_left _ (by simp[oi])),h3]
  ·exact rl r (n+1) cs' x.2 h2 (fun s hs=>hk s (acW _ hs)) e he
theorem Jl{hd:Hp}{hh:Heap}(g:Good Z ψ hh.get w B0 O)(hz:∀b,Z b→Z' b)(b:BK){i i' n:Nat}{x:b.T}(Sz:pe b hh i=some x) (hf:∀id g,AV.bF id∈zu b hh i→hh.get id≠none→ob (ψ id)=some g→Z' g) (hk:∀s∈jM b hh i,hd s=hh.get s) (iI:∀e∈dI b hh i i' n x,h' e.1≠none→ψ' e.1=jx ψ e.2.1) :
  ∀e∈dI b hh i i' n x,uo Z' ψ hd w h' ψ' e:=by
 intro e he
 cases b with
 |box ty c =>
  obtain⟨cs,h1,h2⟩:=rk Sz;simp only[zu,jM,h1]at hf hk;have Ww:∀e∈dD c n cs x,h' e.1≠none→ψ' e.1=jx ψ e.2.1:=fun e he=>iI e (by simp only[dI];rw[oz h1];exact acm _ he);simp only[dI]at he;rcases acn.1 he with rfl|he
  ·refine⟨⟨cs,by rw[hk i List.mem_cons_self,h1]⟩,fun gg vs h4 h5=>?_⟩;obtain⟨gg',gL,h6,h7,h8,_⟩:=g.box i ty cs h1;rw[h6]at h4
   cases h4
   rw[h5]at h7
   cases h7
   exact rj g hz c n cs x _ h2 hf Ww h8
  ·rw[oz h1]at he;exact rl c n cs x h2 (fun s hs=>hk s (acm _ hs)) e he
 |own ok =>have h1:=C8 Sz;simp only[dI,List.mem_singleton]at he;subst he;show hd i=some (.own ok x);rw[hk i (by simp[jM]),h1]
theorem lz{hd:Hp}{hh:Heap}(g:Good Z ψ hh.get w B0 O)(hz:∀b,Z b→Z' b):∀(bs:List BK) (is is':List Nat) (n:Nat) (x:vH bs),cT bs hh is=some x →(∀id b,AV.bF id∈fM bs hh is→hh.get id≠none→ob (ψ id)=some b→Z' b)→(∀s∈cU bs hh is,hd s=hh.get s)→(∀e∈cr bs hh is is' n x,h' e.1≠none→ψ' e.1=jx ψ e.2.1) → ∀e∈cr bs hh is is' n x,uo Z' ψ hd w h' ψ' e
 |[],is,is',n,x,_,_,_,_,e,he=>by simp[cr]at he
 |b::r,[],is',n,x,Sz,_,_,_,e,he=>by cases Sz
 |b::r,i::is,[],n,x,_,_,_,_,e,he=>by simp[cr]at he
 |b::r,i::is,i'::is',n,x,Sz,hf,hk,iI,e,he=>by
  obtain⟨h1,h3⟩:=eV Sz;simp only[fM,cU]at hf hk;simp only[cr]at he iI;rcases adb.1 he with he|he
  ·exact Jl g hz b h1 (fun id g bL=>hf id g (acr _ bL)) (fun s hs=>hk s (acr _ hs)) (fun e he=>iI e (acr _ he)) e he
  ·exact lz g hz r is is' (n+16) x.2 h3 (fun id b bL=>hf id b (acW _ bL)) (fun s hs=>hk s (acW _ hs)) (fun e he=>iI e (acW _ he)) e he
theorem rm{kept:List Nat}{km:List AV}(hk:vM kept km=true):b6 kept=true∧∀(hh:Heap) s,s∈kept→(cy hh km).get s=hh.get s:=by unfold vM at hk;rw[Bool.and_eq_true]at hk;exact⟨hk.1,fun hh s hs=>oq _ _ _ (q9 (ado.1 hk.2 s hs))⟩
theorem vX{hh:Heap}{km:List AV}{kept:List Nat}(g:Good Z ψ hh.get w B0 O)(hk:vM kept km=true){L:List xq}(hn:b6 (L.map (·.1))=true)(hs:L.filterMap (·.2.1)=kept) (lu:∀e∈L,uo (pT Z ψ hh.get km) ψ (cy hh km).get w (dx L).get (eC ψ L) e):Good (pT Z ψ hh.get km) (eC ψ L) (dx L).get w B0 O :=(hY g km).rename hn (by rw[hs];exact(rm hk).1) lu
theorem yI{L:List xq}(hn:b6 (L.map (·.1))=true):∀e∈L,(dx L).get e.1≠none→eC ψ L e.1=jx ψ e.2.1:=fun⟨i,s,o⟩ he _=>ir hn he
theorem mn(A B:List xq):dx (A++B)=dx A++dx B:=by simp[dx]
theorem yJ{hh:Heap}{i s i':Nat}{v:Value}(hr:av Z ψ hh.get w (.ref i s 0 0) v)(hi:hh.get i≠none)(iI:h' i'≠none→ψ' i'=ψ i):av Z' ψ' h' w' (.ref i' 0 0 0) v:=by simp only[av]at hr ⊢;obtain⟨a,rfl,ha⟩:=hr;refine⟨a,rfl,fun hn=>?_⟩;rw[iI hn,ha hi];simp
theorem oC{v:AV}{i:Nat}(h:CY v=some i):∃s,v=.ref i s 0 0:=by
 unfold CY at h
 split at h
 ·cases h;exact⟨_,rfl⟩
 ·cases h
theorem iP{hh:Heap}:∀(bs:List BK) (is:List Nat) (x:vH bs),cT bs hh is=some x→is.length=bs.length∧∀i∈is,hh.get i≠none
 |[],[],_,_=>⟨rfl,fun i hi=>by cases hi⟩
 |[],_::_,_,h=>by cases h
 |_::_,[],_,h=>by cases h
 |b::r,i::is,x,h=>by
  obtain⟨h1,h3⟩:=eV h;obtain⟨h4,h5⟩:=iP r is x.2 h3;refine⟨by simp[h4],fun j hj=>?_⟩;rcases acn.1 hj with rfl|hj
  ·cases b with
   |box ty c=>obtain⟨cs,h1,_⟩:=rk h1;rw[h1];simp
   |own ok=>rw[C8 h1];simp
  ·exact h5 j hj
theorem jX{hh:Heap}:∀(bs:List BK) (is is':List Nat) (n:Nat) (x:vH bs),is.length=bs.length→∀p∈is.zip is',∃o,(p.2,some p.1,o)∈cr bs hh is is' n x
 |[],is,is',n,x,hl,p,hp=>by
  cases is with
  |nil=>simp at hp
  |cons a r=>simp at hl
 |b::r,[],is',n,x,hl,p,hp=>by simp at hp
 |b::r,i::is,[],n,x,hl,p,hp=>by simp at hp
 |b::r,i::is,i'::is',n,x,hl,p,hp=>by
  simp only[List.zip_cons_cons]at hp;simp only[cr];rcases acn.1 hp with rfl|hp
  ·cases b with
   |box ty c=>exact⟨_,acr _ (by simp only[dI];exact ac9)⟩
   |own ok=>exact⟨_,acr _ (by simp only[dI];exact ac9)⟩
  ·obtain⟨o,ho⟩:=jX r is is' (n+16) x.2 (by simpa using hl) p hp;exact⟨o,acW _ ho⟩
theorem KS{hd:Hp}{hh:Heap}{ok:OK}{c:AV}{xs:ok.T}(ho:dL hh ok c=some xs)(hk:∀s∈oi c,hd s=hh.get s){n:Nat}:uo Z ψ hd w h' ψ' (n,(oi c).head?,.own ok xs):=by
 rcases ly ho with⟨rfl,h3⟩|⟨id,rfl,h3⟩
 ·exact h3
 ·show hd id=some (.own ok xs);rw[hk id (by simp[oi]),h3]
end Go.Vs
namespace Go.Vs
variable {P:Program} {Z Z':Nat→Prop} {ψ ψ':Nat→Value} {h h':Hp} {w w':World} {B0:Nat} {O:Nat→Prop} {N:Nat→Prop}
def fR:Hp:=fun _=>none
def IS:Nat→Value:=fun _=>undef
def C9(g:aL)(x:FQ (kr g.ps)):List AV:=(aO g.ps [] 0 x).map (·.2)
def YW(P:Program)(f:FuncId)(g:aL)(x:g.A)(y:g.B):Prop :=∀(Z:Nat→Prop) (w:World) (jY:List Value),(∀b,Z b→b<w.heap.size)→ak Z IS fR w (C9 g x.1) jY → Calls P (f%1000) jY.toArray w fun e w'=>∃v Z' ψ',e=.returned v∧(∀b,Z b→Z' b)∧(∀b,Z' b→Z b∨w.heap.size≤b)∧cV IS fR w w' ∧ Good Z' ψ' (ai g.rs 3000 y.1).get w' w.heap.size (fun _=>False)∧av Z' ψ' (ai g.rs 3000 y.1).get w' (eO (aP g.rs [] 2000 3000 y.1)) v
theorem xt{p:PK}{ps:List PK}{vs:List AV}(hi:cw (p::ps) vs=some []):∃a r,vs=a::r∧cw ps r=some []∧(p≠.ref∧p≠.own)∧(∀f n,p=.FH f n→a=.fn f [])∧(∀n,p=.agg n→a=.agg []):=by
 cases vs with
 |nil=>cases p<;>simp[cw]at hi
 |cons a r =>
  cases p with
  |val k=>exact⟨a,r,rfl,by simpa only[cw] using hi,by simp,by simp,by simp⟩
  |ref =>
   simp only[cw]at hi
   split at hi<;>simp at hi
  |own =>
   cases a<;>simp only[cw]at hi<;>first|(cases hi;done)|skip
   split at hi<;>simp at hi
  |FH f n =>
   cases a<;>simp only[cw]at hi<;>first|(cases hi;done)|skip
   rename_i f' cap
   split at hi
   ·rename_i hc;obtain⟨rfl,rU⟩:=hc
    split at hi
    ·rename_i a1 b1 h1 h2;simp only[Option.some.injEq,List.append_eq_nil_iff]at hi;obtain⟨rfl,rfl⟩:=hi;have Wl:cap=[]:=by
      cases cap with
      |nil=>rfl
      |cons c cs=>simp only[jr]at h1;split at h1<;>simp at h1
     subst Wl;exact⟨_,r,rfl,h2,by simp,by rintro f n ⟨⟩;rfl,by simp⟩
    ·cases hi
   ·cases hi
  |agg n =>
   cases a<;>simp only[cw]at hi<;>first|(cases hi;done)|skip
   rename_i cs
   split at hi
   ·split at hi
    ·rename_i a1 b1 h1 h2;simp only[Option.some.injEq,List.append_eq_nil_iff]at hi;obtain⟨rfl,rfl⟩:=hi;have Mb:cs=[]:=by
      cases cs with
      |nil=>rfl
      |cons c cs=>cases c<;>simp only[om]at h1<;>first|(cases h1;done)|(split at h1<;>simp at h1)
     subst Mb;exact⟨_,r,rfl,h2,by simp,by simp,fun _ _=>rfl⟩
    ·cases hi
   ·cases hi
theorem xu{k:K}{ps:List PK}{hh:Heap}{a:AV}{r:List AV}{x:k.T×FQ (kr ps)}(hv:ed (.val k::ps) hh (a::r)=some x):fF k hh a=some x.1∧ed ps hh r=some x.2:=by
 have e:ed (.val k::ps) hh (a::r)=(match fF k hh a,ed ps hh r with
  |some x,some y=>some ((x,y):k.T×FQ (kr ps))
  |_,_=>none):=rfl
 rw[e]at hv;clear e;generalize fF k hh a=o1 at hv ⊢;generalize ed ps hh r=o2 at hv ⊢
 cases o1 with
 |none=>cases hv
 |some x1 =>
  cases o2 with
  |none=>cases hv
  |some y1 =>have:=ada hv;subst this;exact⟨rfl,rfl⟩
theorem Ae{hh:Heap}(g:Good Z ψ hh.get w B0 O)(hz:∀b,Z b→Z' b)(ps:List PK):∀(s:Nat) (vs:List AV) (us:List Value) (x:FQ (kr ps)),(∀v∈vs,∀id b,AV.bF id∈v.cells→hh.get id≠none→ob (ψ id)=some b→Z' b) → cw ps vs=some []→ed ps hh vs=some x→ak Z ψ hh.get w vs us→ak Z' IS fR w ((aO ps [] s x).map (·.2)) us:=by
 induction ps with
 |nil =>
  intro s vs us x _ hi hv hr
  cases vs with
  |nil=>simpa only[aO,List.map_nil,ak] using hr
  |cons a r=>simp[cw]at hi
 |cons p ps ih =>
  intro s vs us x hb hi hv hr;obtain⟨a,r,rfl,sX,Th,Wx,Wy⟩:=xt hi;simp only[ak]at hr;obtain⟨u,iq,rfl,h3,h4⟩:=hr
  cases p with
  |val k =>obtain⟨h1,h2⟩:=xu hv;simp only[aO,List.map_cons,ak];exact⟨u,iq,rfl,rf (Z':=Z') (ψ':=IS) (h':=fR) g hz (hb a ac9) h1 h3,ih (s+1) r iq x.2 (fun v hv=>hb v (acm _ hv)) sX h2 h4⟩
  |ref=>exact absurd rfl Th.1
  |own=>exact absurd rfl Th.2
  |FH f n =>have ha:=Wx f n rfl;subst ha;have h2:ed ps hh r=some x:=hv;simp only[aO,List.map_cons,ak,List.take_nil,List.map_nil,List.drop_nil];simp only[av,ak]at h3 ⊢;exact⟨u,iq,rfl,h3,ih (s+1) r iq x (fun v hv=>hb v (acm _ hv)) sX h2 h4⟩
  |agg n =>have ha:=Wy n rfl;subst ha;have h2:ed ps hh r=some x:=hv;simp only[aO,List.map_cons,ak,List.take_nil,List.map_nil,List.drop_nil];simp only[av,ak]at h3 ⊢;exact⟨u,iq,rfl,h3,ih (s+1) r iq x (fun v hv=>hb v (acm _ hv)) sX h2 h4⟩
theorem Good.YX(g:Good Z ψ h w B0 O)(k:cV IS fR w w')(hz:∀b,Z b→Z' b)(NY:∀b,Z' b→Z b∨w.heap.size≤b)(aeh:∀b,Z' b→b<w'.heap.size) (hold:∀id,¬N id→h' id=h id∧ψ' id=ψ id) (bf:∀id ty cs,h id=some (.box ty cs)→ax (fun i=>¬N i) cs) (On:∀id ty cs,N id→h' id=some (.box ty cs)→False) (nr:∀id ok xs,N id→h' id=some (.own ok xs)→jm Z' w' ok (ψ' id) xs) (zJ:∀id b,N id→h' id≠none→ob (ψ' id)=some b→w.heap.size≤b∧¬Z' b) (I8:∀id l9 b,N id→N l9→h' id≠none→h' l9≠none→ob (ψ' id)=some b→ob (ψ' l9)=some b→id=l9) (hB:B0≤w.heap.size) :
  Next Z ψ h w B0 O N Z' ψ' h' w':=by
 have cK:∀b,b<w.heap.size→w'.heap[b]? = w.heap[b]? := fun b hb=>k.block b hb (fun⟨id,h1,_⟩=>h1 rfl);have sm:cp Z w w':=fun b hb=>cK b (g.ju b hb);have rT:∀id,h' id≠none→(h id≠none∧ψ' id=ψ id)∨N id:=fun id bL=>by
  by_cases hn:N id
  ·exact .inr hn
  ·obtain⟨e1,e2⟩:=hold id hn;exact .inl ⟨by rwa [e1]at bL,e2⟩
 have xe:∀id b,¬N id→h' id≠none→ob (ψ' id)=some b→Own ψ h b:=fun id b hn h1 h2=>by obtain⟨e1,e2⟩:=hold id hn;exact⟨id,by rwa [e1]at h1,by rwa [e2]at h2⟩
 have kk:cV ψ h w w':=⟨k.os,k.tape,k.output,k.size,fun b hb _=>cK b hb⟩;refine⟨hz,fun b hb=>(NY b hb).imp (fun h=>h) .inr,kk,rT,⟨fun id ty cs hb=>?_,fun id ok xs hb=>?_,fun id b h1 h2=>?_,fun id l9 b h1 h2 h3 h4=>?_,aeh⟩⟩
 ·by_cases hn:N id
  ·exact(On id ty cs hn hb).elim
  ·obtain⟨e1,e2⟩:=hold id hn;rw[e1]at hb;obtain⟨gg,vs,h1,h2,h3,h4⟩:=g.box id ty cs hb;exact⟨gg,vs,by rw[e2,h1],(cK gg (acV.1 h2).1).trans h2,h3.move hz sm (fun i hp bL=>(rT i bL).resolve_right hp) (bf id ty cs hb),h4⟩
 ·by_cases hn:N id
  ·exact nr id ok xs hn hb
  ·obtain⟨e1,e2⟩:=hold id hn;rw[e1]at hb;rw[e2];exact(g.row id ok xs hb).kept hz sm (fun gg L8=>cK gg (g.bM ⟨id,by rw[hb];simp,L8⟩))
 ·by_cases hn:N id
  ·obtain⟨h3,h4⟩:=zJ id b hn h1 h2;exact⟨h4,.inl (by omega)⟩
  ·obtain⟨e1,e2⟩:=hold id hn;rw[e1]at h1;rw[e2]at h2;have h3:=g.live id b h1 h2;refine⟨fun YK=>?_,h3.2⟩;rcases NY b YK with h4|h4
   ·exact h3.1 h4
   ·have:=g.bM ⟨id,h1,h2⟩;omega
 ·by_cases hn:N id<;>by_cases I9:N l9
  ·exact I8 id l9 b hn I9 h1 h2 h3 h4
  ·have:=(zJ id b hn h1 h3).1;have:=g.bM (xe l9 b I9 h2 h4);omega
  ·have:=(zJ l9 b I9 h2 h4).1;have:=g.bM (xe id b hn h1 h3);omega
  ·obtain⟨e1,e2⟩:=hold id hn;obtain⟨e3,e4⟩:=hold l9 I9;rw[e1]at h1;rw[e2]at h3;rw[e3]at h2;rw[e4]at h4;exact g.apart id l9 b h1 h2 h3 h4
theorem bC{r:RK}{rs:List RK}(h:(r::rs).all RK.plain=true):rs.all RK.plain=true:=by simp only[List.all_cons,Bool.and_eq_true]at h;exact h.2
theorem Mm{c:List CK}{rs:List RK}(h:(RK.agg c::rs).all RK.plain=true):c.length≤16:=by simp only[List.all_cons,Bool.and_eq_true,RK.plain,decide_eq_true_eq]at h;exact h.1
theorem lA:∀(c:List CK) (a:Nat) (x:pV c) (i:Nat),i<a→(aU c a x).get i=none
 |[],_,_,_,_=>rfl
 |.val _::r,a,x,i,h=>by simp only[aU];exact lA r (a+1) x.2 i (by omega)
 |.own ok::r,a,x,i,h=>by simp only[aU,Heap.get];rw[if_neg (by omega)];exact lA r (a+1) x.2 i (by omega)
theorem td:∀(c:List CK) (a:Nat) (x:pV c) (i:Nat),a+c.length≤i→(aU c a x).get i=none
 |[],_,_,_,_=>rfl
 |.val _::r,a,x,i,h=>by simp only[List.length_cons]at h;simp only[aU];exact td r (a+1) x.2 i (by omega)
 |.own ok::r,a,x,i,h=>by simp only[List.length_cons]at h;simp only[aU,Heap.get];rw[if_neg (by omega)];exact td r (a+1) x.2 i (by omega)
theorem te:∀(c:List CK) (a b:Nat) (x:pV c) (j:Nat),(aU c a x).get (a+j)=(aU c b x).get (b+j)
 |[],_,_,_,_=>rfl
 |.val _::r,a,b,x,0=>by simp only[aU];rw[lA _ _ _ _ (by omega),lA _ _ _ _ (by omega)]
 |.own ok::r,a,b,x,0=>by simp[aU,Heap.get]
 |.val _::r,a,b,x,j+1=>by simp only[aU];rw[show a+(j+1)=a+1+j by omega,show b+(j+1)=b+1+j by omega];exact te r (a+1) (b+1) x.2 j
 |.own ok::r,a,b,x,j+1=>by simp only[aU,Heap.get];rw[if_neg (by omega),if_neg (by omega),show a+(j+1)=a+1+j by omega,show b+(j+1)=b+1+j by omega];exact te r (a+1) (b+1) x.2 j
theorem mR:∀(c:List CK) (a:Nat) (x:pV c) (i:Nat) (ty:TypeId) (cs:List AV),(aU c a x).get i≠some (.box ty cs)
 |[],_,_,_,_,_=>by simp[aU,Heap.get]
 |.val _::r,a,x,i,ty,cs=>by simp only[aU];exact mR r (a+1) x.2 i ty cs
 |.own ok::r,a,x,i,ty,cs=>by
  simp only[aU,Heap.get]
  split
  ·simp
  ·exact mR r (a+1) x.2 i ty cs
theorem qo:∀(rs:List RK) (a:Nat) (y:lk rs) (i:Nat),rs.all RK.plain=true→i<a→(ai rs a y).get i=none
 |[],a,y,i,_,h=>rfl
 |.val k::r,a,y,i,hp,h=>by simp only[ai];exact qo r (a+1) y.2 i (bC hp) (by omega)
 |.own ok::r,a,y,i,hp,h=>by simp only[ai,Heap.get];rw[if_neg (by omega)];exact qo r (a+1) y.2 i (bC hp) (by omega)
 |.eu _ _::r,a,y,i,hp,h=>by simp only[ai];exact qo r (a+1) y.2 i (bC hp) (by omega)
 |.agg c::r,a,y,i,hp,h=>by have h1:(aU c a y.1).get i=none:=lA c a y.1 i h;have h2:=qo r (a+1) y.2 i (bC hp) (by omega);show Heap.get (aU c a y.1++ai r (a+1) y.2) i=none;rw[Heap.get_append,h1,h2]
theorem Gi:∀(rs:List RK) (a:Nat) (y:lk rs) (i:Nat),rs.all RK.plain=true→a+rs.length+16≤i→(ai rs a y).get i=none
 |[],a,y,i,_,h=>rfl
 |.val k::r,a,y,i,hp,h=>by simp only[List.length_cons]at h;simp only[ai];exact Gi r (a+1) y.2 i (bC hp) (by omega)
 |.own ok::r,a,y,i,hp,h=>by simp only[List.length_cons]at h;simp only[ai,Heap.get];rw[if_neg (by omega)];exact Gi r (a+1) y.2 i (bC hp) (by omega)
 |.eu _ _::r,a,y,i,hp,h=>by simp only[List.length_cons]at h;simp only[ai];exact Gi r (a+1) y.2 i (bC hp) (by omega)
 |.agg c::r,a,y,i,hp,h=>by simp only[List.length_cons]at h;have hc:=Mm hp;have h1:(aU c a y.1).get i=none:=td c a y.1 i (by omega);have h2:=Gi r (a+1) y.2 i (bC hp) (by omega);show Heap.get (aU c a y.1++ai r (a+1) y.2) i=none;rw[Heap.get_append,h1,h2]
theorem Gj:∀(rs:List RK) (a b:Nat) (y:lk rs) (j:Nat),rs.all RK.plain=true→(ai rs a y).get (a+j)=(ai rs b y).get (b+j)
 |[],_,_,_,_,_=>rfl
 |.val k::r,a,b,y,0,hp=>by simp only[ai];rw[qo _ _ _ _ (bC hp) (by omega),qo _ _ _ _ (bC hp) (by omega)]
 |.eu _ _::r,a,b,y,0,hp=>by simp only[ai];rw[qo _ _ _ _ (bC hp) (by omega),qo _ _ _ _ (bC hp) (by omega)]
 |.own ok::r,a,b,y,0,hp=>by simp[ai,Heap.get]
 |.val k::r,a,b,y,j+1,hp=>by simp only[ai];rw[show a+(j+1)=a+1+j by omega,show b+(j+1)=b+1+j by omega];exact Gj r (a+1) (b+1) y.2 j (bC hp)
 |.eu _ _::r,a,b,y,j+1,hp=>by simp only[ai];rw[show a+(j+1)=a+1+j by omega,show b+(j+1)=b+1+j by omega];exact Gj r (a+1) (b+1) y.2 j (bC hp)
 |.own ok::r,a,b,y,j+1,hp=>by simp only[ai,Heap.get];rw[if_neg (by omega),if_neg (by omega),show a+(j+1)=a+1+j by omega,show b+(j+1)=b+1+j by omega];exact Gj r (a+1) (b+1) y.2 j (bC hp)
 |.agg c::r,a,b,y,j,hp=>by
  have h1:(aU c a y.1).get (a+j)=(aU c b y.1).get (b+j):=te c a b y.1 j;have h2:(ai r (a+1) y.2).get (a+j)=(ai r (b+1) y.2).get (b+j):=by
   cases j with
   |zero=>rw[qo _ _ _ _ (bC hp) (by omega),qo _ _ _ _ (bC hp) (by omega)]
   |succ j =>rw[show a+(j+1)=a+1+j by omega,show b+(j+1)=b+1+j by omega];exact Gj r (a+1) (b+1) y.2 j (bC hp)
  show Heap.get (aU c a y.1++ai r (a+1) y.2) (a+j)=Heap.get (aU c b y.1++ai r (b+1) y.2) (b+j);rw[Heap.get_append,Heap.get_append,h1,h2]
theorem uq:∀(rs:List RK) (a:Nat) (y:lk rs) (i:Nat) (ty:TypeId) (cs:List AV),rs.all RK.plain=true→(ai rs a y).get i≠some (.box ty cs)
 |[],_,_,_,_,_,_=>by simp[ai,Heap.get]
 |.val k::r,a,y,i,ty,cs,hp=>by simp only[ai];exact uq r (a+1) y.2 i ty cs (bC hp)
 |.eu _ _::r,a,y,i,ty,cs,hp=>by simp only[ai];exact uq r (a+1) y.2 i ty cs (bC hp)
 |.own ok::r,a,y,i,ty,cs,hp=>by
  simp only[ai,Heap.get]
  split
  ·simp
  ·exact uq r (a+1) y.2 i ty cs (bC hp)
 |.agg c::r,a,y,i,ty,cs,hp=>by
  have h1:(aU c a y.1).get i≠some (.box ty cs):=mR c a y.1 i ty cs;show Heap.get (aU c a y.1++ai r (a+1) y.2) i≠some (.box ty cs);rw[Heap.get_append]
  split
  ·rename_i o ho;rw[ho]at h1;exact h1
  ·exact uq r (a+1) y.2 i ty cs (bC hp)
theorem lB(p:Nat→Prop):∀(k:K) (x:k.T),ax p (enc k x)
 |.int _,_=>by simp only[enc,ax,aE];exact⟨trivial,trivial⟩
 |.bool,_=>by simp only[enc,ax,aE];exact⟨trivial,trivial⟩
 |.str,_=>by simp only[enc,ax,aE];exact⟨trivial,trivial⟩
 |.sl _,_=>by simp only[enc,ax,aE];exact⟨trivial,trivial⟩
 |.mp _ _,_=>by simp only[enc,ax,aE];exact⟨trivial,trivial⟩
 |.pair a b,x=>by
  simp only[enc];have h1:=lB p a x.1;have h2:=lB p b x.2
  revert h1
  generalize enc a x.1=l
  induction l with
  |nil=>intro _;exact h2
  |cons c r ih=>intro h;simp only[List.cons_append,ax]at h ⊢;exact⟨h.1,ih h.2⟩
 |.one k,x=>by simp only[enc];exact lB p k x
theorem nu(p:Nat→Prop):∀(k:K) (x:k.T),aE p (cc k x)
 |.int _,_=>by simp only[cc,aE]
 |.bool,_=>by simp only[cc,aE]
 |.str,_=>by simp only[cc,aE]
 |.sl _,_=>by simp only[cc,aE]
 |.mp _ _,_=>by simp only[cc,aE]
 |.pair a b,x=>by simp only[cc,aE];exact lB p (.pair a b) x
 |.one k,x=>by simp only[cc,aE];exact lB p (.one k) x
theorem ON{k:K}{x:k.T}{v:Value}(hr:av Z ψ h w (cc k x) v):av Z ψ' h' w (cc k x) v :=hr.move (p:=fun _=>False) (fun _ h=>h) (cp.refl _ _) (fun _ hp _=>hp.elim) (nu _ k x)
theorem Ti(r:RK)(rs:List RK)(b:Nat)(y:lk (r::rs))(i:Nat)(hi:(ai rs (b+1) y.2).get i≠none):(ai (r::rs) b y).get i≠none:=by
 cases r with
 |val k=>exact hi
 |eu _ _=>exact hi
 |own ok=>simp only[ai,Heap.get];split<;>simp_all
 |agg c =>
  show Heap.get (aU c b y.1++ai rs (b+1) y.2) i≠none;rw[Heap.get_append]
  split
  ·simp
  ·exact hi
theorem Jm(c:List CK):∀{H:Hp} {a b:Nat} {x:pV c} {vs:List Value},(∀j,(aU c b x).get (b+j)≠none→h' (b+j)≠none→H (a+j)≠none∧ψ' (b+j)=ψ (a+j)) → ak Z ψ H w (aA c a x) vs→ak Z ψ' h' w (aA c b x) vs:=by
 induction c with
 |nil=>intro H a b x vs _ hr;simpa only[aA,ak] using hr
 |cons k c ih =>
  intro H a b x vs hH hr
  cases k with
  |val k =>have q7:ak Z ψ H w (enc k x.1++aA c (a+1) x.2) vs:=hr;obtain⟨us,ws,rfl,h1,h2⟩:=q7.split;show ak Z ψ' h' w (enc k x.1++aA c (b+1) x.2) (us++ws);refine(h1.move (p:=fun _=>False) (fun _ h=>h) (cp.refl _ _) (fun _ hp _=>hp.elim) (lB _ k x.1)).append (ih (fun j hj bq=>?_) h2);have:=hH (j+1);rw[show b+(j+1)=b+1+j by omega,show a+(j+1)=a+1+j by omega]at this;exact this hj bq
  |own ok =>
   have q7:ak Z ψ H w (.bF a::aA c (a+1) x.2) vs:=hr;simp only[ak]at q7;obtain⟨v,us,rfl,h1,h2⟩:=q7;show ak Z ψ' h' w (.bF b::aA c (b+1) x.2) (v::us);simp only[ak];refine⟨v,us,rfl,?_,ih (fun j hj bq=>?_) h2⟩
   ·simp only[av]at h1 ⊢;refine⟨h1.1,fun bq=>?_⟩;obtain⟨h3,h4⟩:=hH 0 (by simp[aU,Heap.get]) bq;rw[Nat.add_zero,Nat.add_zero]at h4;rw[h4];exact h1.2 h3
   ·have:=hH (j+1);rw[show b+(j+1)=b+1+j by omega,show a+(j+1)=a+1+j by omega]at this;refine this ?_ bq;have e:(aU (.own ok::c) b x).get (b+1+j)=(aU c (b+1) x.2).get (b+1+j):=by simp only[aU,Heap.get];rw[if_neg (by omega)]
    rw[e];exact hj
theorem OO(rs:List RK):∀{H:Hp} {n m a b:Nat} {y:lk rs} {vs:List Value},rs.all RK.plain=true→(∀j,(ai rs b y).get (b+j)≠none→h' (b+j)≠none→H (a+j)≠none∧ψ' (b+j)=ψ (a+j)) → ak Z ψ H w (aP rs [] n a y) vs→ak Z ψ' h' w (aP rs [] m b y) vs:=by
 induction rs with
 |nil=>intro H n m a b y vs _ _ hr;simpa only[aP,ak] using hr
 |cons r rs ih =>
  intro H n m a b y vs hp hH hr;have hpa:=hp;simp only[List.all_cons,Bool.and_eq_true]at hp;have Wz:∀j,(ai rs (b+1) y.2).get (b+1+j)≠none→h' (b+1+j)≠none→H (a+1+j)≠none∧ψ' (b+1+j)=ψ (a+1+j):=fun j hj bq=>by have:=hH (j+1);rw[show b+(j+1)=b+1+j by omega,show a+(j+1)=a+1+j by omega]at this;exact this (Ti _ _ _ _ _ hj) bq
  cases r with
  |val k =>simp only[aP,ak]at hr ⊢;obtain⟨v,us,rfl,h1,h2⟩:=hr;exact⟨v,us,rfl,ON h1,ih hp.2 Wz h2⟩
  |own ok =>simp only[aP,ak]at hr ⊢;obtain⟨v,us,rfl,h1,h2⟩:=hr;refine⟨v,us,rfl,?_,ih hp.2 Wz h2⟩;simp only[av]at h1 ⊢;refine⟨h1.1,fun bq=>?_⟩;obtain⟨h3,h4⟩:=hH 0 (by simp[ai,Heap.get]) bq;rw[Nat.add_zero,Nat.add_zero]at h4;rw[h4];exact h1.2 h3
  |eu b c=>simp[RK.plain]at hp
  |agg c =>
   simp only[aP,ak]at hr ⊢;obtain⟨v,us,rfl,h1,h2⟩:=hr;refine⟨v,us,rfl,?_,ih hp.2 Wz h2⟩;simp only[av]at h1 ⊢;obtain⟨ws,rfl,h3⟩:=h1;refine⟨ws,rfl,Jm c (fun j hj bq=>hH j ?_ bq) h3⟩;show Heap.get (aU c b y.1++ai rs (b+1) y.2) (b+j)≠none;rw[Heap.get_append]
   split
   ·simp
   ·rename_i xw;exact absurd xw hj
theorem tf{U3 U4:Nat→Value}{YY YZ:Hp}{Y0 Y1:Nat→Prop}{l l':List AV}{V:Value}(hl:l.length=l'.length)(hm:∀vs,ak Y0 U3 YY w l vs→ak Y1 U4 YZ w l' vs)(hr:av Y0 U3 YY w (eO l) V):av Y1 U4 YZ w (eO l') V:=by
 match l,l',hl with
 |[a],[a'],_ =>
  simp only[eO]at hr ⊢;have:=hm [V] (by simp only[ak];exact⟨V,[],rfl,hr,rfl⟩);simp only[ak]at this;obtain⟨v,us,e,h1,_⟩:=this
  cases e;exact h1
 |[],[],_ =>simp only[eO,av]at hr ⊢;obtain⟨us,rfl,h1⟩:=hr;exact⟨us,rfl,hm _ h1⟩
 |a::b::r,a'::b'::r',_ =>simp only[eO,av]at hr ⊢;obtain⟨us,rfl,h1⟩:=hr;exact⟨us,rfl,hm _ h1⟩
theorem jO(rs:List RK):∀(ids:List Nat) (n m:Nat) (y:lk rs),(aP rs ids n m y).length=rs.length:=by
 induction rs with
 |nil=>intros;rfl
 |cons r rs ih=>intro ids n m y;cases r<;>simp[aP,ih]
theorem yK:∀(k:K) (x:k.T) (r:List AV),dec k (enc k x++r)=some (x,r)
 |.int _,x,r=>by simp only[enc,List.cons_append,List.nil_append,dec,Ee,if_true];rfl
 |.bool,x,r=>by simp only[enc,List.cons_append,List.nil_append,dec,yy];rfl
 |.str,x,r=>by simp only[enc,List.cons_append,List.nil_append,dec,Ef];rfl
 |.sl k,x,r=>by simp only[enc,List.cons_append,List.nil_append,dec,KI];rfl
 |.mp kk vk,x,r=>by simp only[enc,List.cons_append,List.nil_append,dec,KJ];rfl
 |.pair a b,x,r=>by simp only[enc,dec,List.append_assoc];rw[yK a x.1 (enc b x.2++r)];simp only[];rw[yK b x.2 r];rfl
 |.one k,x,r=>by simp only[enc,dec];exact yK k x r
theorem tg(k:K)(x:k.T):c8 k (enc k x)=some x:=by unfold c8;have:=yK k x [];rw[List.append_nil]at this;rw[this]
theorem th:∀(k:K) (x:k.T),(cc k x).cells=enc k x
 |.int _,_=>rfl
 |.bool,_=>rfl
 |.str,_=>rfl
 |.sl _,_=>rfl
 |.mp _ _,_=>rfl
 |.pair a b,x=>rfl
 |.one k,x=>rfl
theorem KT:∀(k:K) (x:k.T),cc k x≠.no
 |.int _,_=>by simp[cc]
 |.bool,_=>by simp[cc]
 |.str,_=>by simp[cc]
 |.sl _,_=>by simp[cc]
 |.mp _ _,_=>by simp[cc]
 |.pair a b,x=>by simp[cc]
 |.one k,x=>by simp[cc]
theorem Af:∀(k:K) (x:k.T),(cc k x).isAgg=k.isAgg
 |.int _,_=>rfl
 |.bool,_=>rfl
 |.str,_=>rfl
 |.sl _,_=>rfl
 |.mp _ _,_=>rfl
 |.pair a b,x=>rfl
 |.one k,x=>rfl
theorem Mn{k:K}{x:k.T}{v:Value}(hr:av Z ψ h w (cc k x) v):aD Z w k x v.cells.toList:=by have h1:=hr.cells (KT k x);rw[th]at h1;exact c9 (tg k x) h1
theorem Jn{k:K}{x:k.T}{v:Value}(hr:av Z ψ h w (cc k x) v):(k.isAgg=true→∃vs,v=.agg vs)∧(k.isAgg=false→v.cells=#[v]) :=⟨fun h=>OE (by rw[Af];exact h) hr,fun h=>C5 (by rw[Af];exact h) (KT k x) hr⟩
theorem OP(rs:List RK):∀{H:Hp} {n m a b:Nat} {y:lk rs} {vs:List Value},rs.all RK.flat=true→rs.all RK.plain=true→ak Z ψ H w (aP rs [] n a y) vs→ak Z' ψ' h' w' (aP rs [] m b y) vs:=by
 induction rs with
 |nil=>intro H n m a b y vs _ _ hr;simpa only[aP,ak] using hr
 |cons r rs ih =>
  intro H n m a b y vs hf hp hr;simp only[List.all_cons,Bool.and_eq_true]at hp hf
  cases r with
  |val k =>simp only[aP,ak]at hr ⊢;obtain⟨v,us,rfl,h1,h2⟩:=hr;have hk:k.flat=true:=hf.1;obtain⟨h3,h4⟩:=Jn h1;exact⟨v,us,rfl,lq ((Mn h1).flat hk) h3 h4,ih hf.2 hp.2 h2⟩
  |own ok=>simp[RK.flat]at hf
  |eu b c=>simp[RK.plain]at hp
  |agg c=>simp[RK.flat]at hf
theorem Mo(rs:List RK):∀(a:Nat) (y:lk rs),rs.all RK.flat=true→rs.all RK.plain=true→ai rs a y=[]:=by
 induction rs with
 |nil=>intros;rfl
 |cons r rs ih =>
  intro a y hf hp;simp only[List.all_cons,Bool.and_eq_true]at hp hf
  cases r with
  |val k=>simp only[ai];exact ih _ _ hf.2 hp.2
  |own ok=>simp[RK.flat]at hf
  |eu b c=>simp[RK.plain]at hp
  |agg c=>simp[RK.flat]at hf
theorem uu:∀(ps:List PK) (vs:List AV),cw ps vs=some []→∀v∈vs,∀id,AV.bF id∈v.cells→AV.bF id∈dg ps vs
 |[],vs,hi,v,hv,id,bL=>by
  cases vs with
  |nil=>cases hv
  |cons a r=>simp[cw]at hi
 |p::ps,vs,hi,v,hv,id,bL=>by
  obtain⟨a,r,rfl,sX,Th,Wx,Wy⟩:=xt hi;rcases acn.1 hv with rfl|hv
  ·cases p with
   |val k=>simp only[dg];exact acr _ bL
   |ref=>exact absurd rfl Th.1
   |own=>exact absurd rfl Th.2
   |FH f n=>rw[Wx f n rfl]at bL;simp[AV.cells]at bL
   |agg n=>rw[Wy n rfl]at bL;simp[AV.cells]at bL
  ·have:=uu ps r sX v hv id bL
   cases p with
   |val k=>simp only[dg];exact acW _ this
   |ref=>exact absurd rfl Th.1
   |own=>exact absurd rfl Th.2
   |FH f n=>simpa only[dg] using this
   |agg n=>simpa only[dg] using this
theorem Ag(f:FuncId)(vs:List AV):sS f vs%1000=f%1000:=by
 induction vs with
 |nil=>rfl
 |cons v r ih =>
  cases v with
  |fn g cap=>exact Nat.add_mul_mod_self_left f 1000 _
  |_=>simp only[sS];exact ih
theorem vY{Sg:FuncId→Option aL}(f:FuncId)(vs:List AV):keyOf Sg f vs%1000=f%1000:=by
 unfold keyOf
 split
 ·exact(Nat.add_mul_mod_self_right (sS f vs) 500 1000).trans (Ag f vs)
 ·exact Ag f vs
theorem Next.imp{N':Nat→Prop}(n:Next Z ψ h w B0 O N Z' ψ' h' w')(hi:∀i,N i→N' i):Next Z ψ h w B0 O N' Z' ψ' h' w' :=⟨n.fC,n.dY,n.keep,fun id bL=>(n.ids id bL).imp (fun h=>h) (hi id),n.dB⟩
theorem vZ{rs:List RK}{y:lk rs}(hp:rs.all RK.plain=true){id nb:Nat}(g:Good Z ψ h w B0 O)(hB:B0≤w.heap.size) (bf:∀i ty cs,h i=some (.box ty cs)→ax (fun i=>¬N i) cs) (hN:∀j,j<rs.length+16→N (id+j)) (k:cV IS fR w w') (hz:∀b,Z b→Z' b) (NY:∀b,Z' b→Z b∨w.heap.size≤b) (gc:Good Z' ψ' (ai rs 3000 y).get w' w.heap.size (fun _=>False)) {v:Value} (hr:av Z' ψ' (ai rs 3000 y).get w' (eO (aP rs [] 2000 3000 y)) v) :
  ∃ti,Next Z ψ h w B0 O N Z' ti (fun i=>match (ai rs id y).get i with|some o=>some o|none=>h i) w' ∧
   av Z' ti (fun i=>match (ai rs id y).get i with|some o=>some o|none=>h i) w' (eO (aP rs [] nb id y)) v:=by
 classical
 let H:Hp:=fun i=>match (ai rs id y).get i with|some o=>some o|none=>h i
 let NN:Nat→Prop:=fun i=>(ai rs id y).get i≠none
 let ti:Nat→Value:=fun i=>if NN i then ψ' (3000+(i-id)) else ψ i
 have hNN:∀i,NN i→∃j,j<rs.length+16∧i=id+j:=fun i hi=>by have h1:¬i<id:=fun aF=>hi (qo rs id y i hp aF);have h2:¬id+rs.length+16≤i:=fun U5=>hi (Gi rs id y i hp U5);exact⟨i-id,by omega,by omega⟩
 have xx:∀i,NN i→(ai rs 3000 y).get (3000+(i-id))=(ai rs id y).get i:=fun i hi=>by obtain⟨j,_,rfl⟩:=hNN i hi;rw[show id+j-id=j by omega];exact Gj rs 3000 id y j hp
 have hH:∀i,NN i→H i=(ai rs 3000 y).get (3000+(i-id)):=fun i hi=>by
  rw[xx i hi];show(match (ai rs id y).get i with|some o=>some o|none=>h i)=_
  cases e:(ai rs id y).get i with
  |none=>exact absurd e hi
  |some o=>rfl
 have iI:∀i,NN i→ti i=ψ' (3000+(i-id)):=fun i hi=>if_pos hi;have Y2:∀i,NN i→N i:=fun i hi=>by obtain⟨j,hj,rfl⟩:=hNN i hi;exact hN j hj
 have n:=Good.YX (N:=NN) (ψ':=ti) (h':=H) g k hz NY gc.ju (fun i hi=>by
   have e:(ai rs id y).get i=none:=Classical.not_not.1 hi;refine⟨?_,if_neg hi⟩;show(match (ai rs id y).get i with|some o=>some o|none=>h i)=h i;rw[e])
  (fun i ty cs hb=>(bf i ty cs hb).imp (fun i hi hni=>hi (Y2 i hni)))
  (fun i ty cs hi hb=>by rw[hH i hi]at hb;exact uq _ _ _ _ _ _ hp hb)
  (fun i ok xs hi hb=>by rw[hH i hi]at hb;rw[iI i hi];exact gc.row _ _ _ hb)
  (fun i b hi h1 h2=>by rw[hH i hi]at h1;rw[iI i hi]at h2;obtain⟨h3,h4⟩:=gc.live _ b h1 h2;exact⟨h4.resolve_right (fun h=>h),h3⟩)
  (fun i i' b hi sX h1 h2 h3 h4=>by rw[hH i hi]at h1;rw[hH i' sX]at h2;rw[iI i hi]at h3;rw[iI i' sX]at h4;have:=gc.apart _ _ b h1 h2 h3 h4;obtain⟨j,_,rfl⟩:=hNN i hi;obtain⟨j',_,rfl⟩:=hNN i' sX;omega) hB
 refine⟨ti,n.imp Y2,?_⟩;refine tf (by rw[jO,jO]) (fun vs ns=>?_) hr;refine OO (h':=H) (ψ':=ti) rs (n:=2000) (a:=3000) hp (fun j hn bq=>?_) ns
 replace hn:NN (id+j):=hn
 have e1:=hH _ hn;have e2:=iI _ hn;rw[show id+j-id=j by omega]at e1 e2;exact⟨by rw[←e1];exact bq,e2⟩
def iQ(P:Program)(f:FuncId):Prop:=∃fn,P.funcs[f]? = some fn∧(fn.name== "runtime.NumGoroutine")=false∧fn.body.isSome=true
theorem iR{f:FuncId}(hc:iQ P f)(args:Array Value):(callFunc f args).run P w=.ok (.enter f args) w:=by obtain⟨fn,h1,h2,h3⟩:=hc;obtain⟨c,hc⟩:=adi.1 h3;simp[callFunc,h1,hc,show ¬fn.name= "runtime.NumGoroutine" by simpa using h2]
def U6(P:Program)(ρC:Operand→Value)(o:Oper)(Z:Nat→Prop)(ψ:Nat→Value)(h:Hp)(w:World)(B0:Nat)(O N:Nat→Prop)(e:bE):Prop :=∃f args,(execOp ρC o).run P w=.ok (.enter f args) w∧Calls P f args w fun en w'=>∃V Z' ψ',en=.returned V∧Next Z ψ h w B0 O N Z' ψ' (e.hp h) w'∧av Z' ψ' (e.hp h) w' e.v V
def cv:(rs:List RK)→List AV→Nat→lk rs→List xq
 |[],_,_,_=>[]
 |.own ok::r,vs,m,x=>(m,(oi (vs.headD .no)).head?,.own ok x.1)::cv r vs.tail (m+1) x.2
 |.val _::r,vs,m,x=>cv r vs.tail (m+1) x.2
 |.eu _ _::r,vs,m,x=>cv r vs.tail (m+1) x.2
 |.agg c::r,vs,m,x=>dD c m (vs.headD .no).cells x.1++cv r vs.tail (m+1) x.2
theorem gi:∀(rs:List RK) (vs:List AV) (m:Nat) (x:lk rs),dx (cv rs vs m x)=ai rs m x
 |[],_,_,_=>rfl
 |.own ok::r,vs,m,x=>by simp only[cv,ai];rw[←gi r vs.tail (m+1) x.2];rfl
 |.val _::r,vs,m,x=>gi r vs.tail (m+1) x.2
 |.eu _ _::r,vs,m,x=>gi r vs.tail (m+1) x.2
 |.agg c::r,vs,m,x=>by have e1:dx (dD c m (vs.headD .no).cells x.1)=aU c m x.1:=ml c m _ x.1;have e2:=gi r vs.tail (m+1) x.2;simp only[cv,ai];rw[mn,e2];exact congrArg (·++_) e1
theorem fm:∀(rs:List RK) (vs:List AV) (m:Nat) (x:lk rs),(cv rs vs m x).map (·.1)=bz rs m
 |[],_,_,_=>rfl
 |.own ok::r,vs,m,x=>by simp only[cv,bz,List.map_cons];rw[fm r vs.tail (m+1) x.2]
 |.val _::r,vs,m,x=>fm r vs.tail (m+1) x.2
 |.eu _ _::r,vs,m,x=>fm r vs.tail (m+1) x.2
 |.agg c::r,vs,m,x=>by have e1:(dD c m (vs.headD .no).cells x.1).map (·.1)=cd c m:=kL c m _ x.1;have e2:=fm r vs.tail (m+1) x.2;simp only[cv,bz,List.map_append];rw[e2];exact congrArg (·++_) e1
theorem oD{bs:List BK}{k:K}{r:List RK}{hh:Heap}{ids:List Nat}{vs:List AV}{x:lk (.val k::r)}(hd:bG bs (.val k::r) hh ids vs=some x):∃v gL,vs=v::gL∧fF k hh v=some x.1∧bG bs r hh ids gL=some x.2:=by
 cases vs with
 |nil=>cases hd
 |cons v vs =>
  have e:bG bs (.val k::r) hh ids (v::vs)=(match fF k hh v,bG bs r hh ids vs with
   |some x,some y=>some ((x,y):k.T×lk r)
   |_,_=>none):=rfl
  rw[e]at hd;clear e;refine⟨v,vs,rfl,?_⟩;generalize fF k hh v=o1 at hd ⊢;generalize bG bs r hh ids vs=o2 at hd ⊢
  cases o1 with
  |none=>cases hd
  |some x1 =>
   cases o2 with
   |none=>cases hd
   |some y1=>have:=ada hd;subst this;exact⟨rfl,rfl⟩
theorem oE{bs:List BK}{ok:OK}{r:List RK}{hh:Heap}{ids:List Nat}{vs:List AV}{x:lk (.own ok::r)}(hd:bG bs (.own ok::r) hh ids vs=some x):∃v gL,vs=v::gL∧dL hh ok v=some x.1∧bG bs r hh ids gL=some x.2:=by
 cases vs with
 |nil=>cases hd
 |cons v vs =>
  have e:bG bs (.own ok::r) hh ids (v::vs)=(match dL hh ok v,bG bs r hh ids vs with
   |some x,some y=>some ((x,y):ok.T×lk r)
   |_,_=>none):=rfl
  rw[e]at hd;clear e;refine⟨v,vs,rfl,?_⟩;generalize dL hh ok v=o1 at hd ⊢;generalize bG bs r hh ids vs=o2 at hd ⊢
  cases o1 with
  |none=>cases hd
  |some x1 =>
   cases o2 with
   |none=>cases hd
   |some y1=>have:=ada hd;subst this;exact⟨rfl,rfl⟩
theorem mo{bs:List BK}{b:Nat}{alts:List (Nat×Nat×Nat)}{r:List RK}{hh:Heap}{ids:List Nat}{vs:List AV}{x:lk (.eu b alts::r)}(hd:bG bs (.eu b alts::r) hh ids vs=some x):∃v gL,vs=v::gL∧mH bs hh ids b alts v=some x.1∧bG bs r hh ids gL=some x.2:=by
 cases vs with
 |nil=>cases hd
 |cons v vs =>
  have e:bG bs (.eu b alts::r) hh ids (v::vs)=(match mH bs hh ids b alts v,bG bs r hh ids vs with
   |some x,some y=>some ((x,y):Option (Fin alts.length×Nat)×lk r)
   |_,_=>none):=rfl
  rw[e]at hd;clear e;refine⟨v,vs,rfl,?_⟩;generalize mH bs hh ids b alts v=o1 at hd ⊢;generalize bG bs r hh ids vs=o2 at hd ⊢
  cases o1 with
  |none=>cases hd
  |some x1 =>
   cases o2 with
   |none=>cases hd
   |some y1=>have:=ada hd;subst this;exact⟨rfl,rfl⟩
theorem oF{bs:List BK}{c:List CK}{r:List RK}{hh:Heap}{ids:List Nat}{vs:List AV}{x:lk (.agg c::r)}(hd:bG bs (.agg c::r) hh ids vs=some x):∃cs gL,vs=.agg cs::gL∧cF c hh cs=some x.1∧bG bs r hh ids gL=some x.2:=by
 cases vs with
 |nil=>cases hd
 |cons v vs =>
  have e:bG bs (.agg c::r) hh ids (v::vs)=(match zw c hh v,bG bs r hh ids vs with
   |some x,some y=>some ((x,y):pV c×lk r)
   |_,_=>none):=rfl
  rw[e]at hd;clear e;have key:zw c hh v=some x.1∧bG bs r hh ids vs=some x.2:=by
   generalize zw c hh v=o1 at hd ⊢;generalize bG bs r hh ids vs=o2 at hd ⊢
   cases o1 with
   |none=>cases hd
   |some x1 =>
    cases o2 with
    |none=>cases hd
    |some y1=>have:=ada hd;subst this;exact⟨rfl,rfl⟩
  obtain⟨h1,h2⟩:=key;unfold zw at h1
  split at h1
  ·exact⟨_,vs,rfl,h1,h2⟩
  ·cases h1
theorem gM{bs:List BK}{hh:Heap}{ids:List Nat}:∀(rs:List RK) (vs:List AV) (x:lk rs),bG bs rs hh ids vs=some x→vs.length=rs.length
 |[],[],_,_=>rfl
 |[],_::_,_,h=>by cases h
 |.val k::r,vs,x,h=>by obtain⟨v,gL,rfl,_,h2⟩:=oD h;simp[gM r gL x.2 h2]
 |.own ok::r,vs,x,h=>by obtain⟨v,gL,rfl,_,h2⟩:=oE h;simp[gM r gL x.2 h2]
 |.eu _ _::r,vs,x,h=>by obtain⟨v,gL,rfl,_,h2⟩:=mo h;simp[gM r gL x.2 h2]
 |.agg _::r,vs,x,h=>by obtain⟨v,gL,rfl,_,h2⟩:=oF h;simp[gM r gL x.2 h2]
theorem iu{bs:List BK}{hh:Heap}{ids:List Nat}:∀(rs:List RK) (vs:List AV) (m:Nat) (x:lk rs),bG bs rs hh ids vs=some x→(cv rs vs m x).filterMap (·.2.1)=dH rs vs
 |[],vs,_,_,_=>by cases vs<;>rfl
 |.own ok::r,vs,m,x,h=>by obtain⟨v,gL,rfl,_,h2⟩:=oE h;simp only[cv,dH,List.headD_cons,List.tail_cons];rw[dJ,iu r gL (m+1) x.2 h2];simp only[];rw[vW]
 |.val k::r,vs,m,x,h=>by obtain⟨v,gL,rfl,_,h2⟩:=oD h;simp only[cv,dH,List.tail_cons];exact iu r gL (m+1) x.2 h2
 |.eu _ _::r,vs,m,x,h=>by obtain⟨v,gL,rfl,_,h2⟩:=mo h;simp only[cv,dH,List.tail_cons];exact iu r gL (m+1) x.2 h2
 |.agg c::r,vs,m,x,h=>by obtain⟨cs,gL,rfl,h1,h2⟩:=oF h;simp only[cv,dH,List.headD_cons,List.tail_cons,AV.cells];have e1:(dD c m cs x.1).filterMap (·.2.1)=fB c cs:=oy c m hh cs x.1 h1;rw[List.filterMap_append,iu r gL (m+1) x.2 h2];exact congrArg (·++_) e1
theorem jz{hd:Hp}{bs:List BK}{hh:Heap}{ids:List Nat}:∀(rs:List RK) (vs:List AV) (m:Nat) (x:lk rs),bG bs rs hh ids vs=some x→(∀s∈dH rs vs,hd s=hh.get s)→∀e∈cv rs vs m x,uo Z ψ hd w h' ψ' e
 |[],_,_,_,_,_,e,he=>by simp[cv]at he
 |.own ok::r,vs,m,x,h,hk,e,he=>by
  obtain⟨v,gL,rfl,h1,h2⟩:=oE h;simp only[cv,dH,List.headD_cons,List.tail_cons]at he hk;rcases acn.1 he with rfl|he
  ·exact KS h1 fun s hs=>hk s (acr _ hs)
  ·exact jz r gL (m+1) x.2 h2 (fun s hs=>hk s (acW _ hs)) e he
 |.val k::r,vs,m,x,h,hk,e,he=>by obtain⟨v,gL,rfl,h1,h2⟩:=oD h;exact jz r gL (m+1) x.2 h2 hk e he
 |.eu _ _::r,vs,m,x,h,hk,e,he=>by obtain⟨v,gL,rfl,h1,h2⟩:=mo h;exact jz r gL (m+1) x.2 h2 hk e he
 |.agg c::r,vs,m,x,h,hk,e,he=>by
  obtain⟨cs,gL,rfl,h1,h2⟩:=oF h;simp only[cv,dH,List.headD_cons,List.tail_cons,AV.cells]at he hk;rcases adb.1 he with he|he
  ·exact rl c m cs x.1 h1 (fun s hs=>hk s (acr _ hs)) e he
  ·exact jz r gL (m+1) x.2 h2 (fun s hs=>hk s (acW _ hs)) e he
theorem v5{hh:Heap}{id:Nat}:∀(di:List CK) (c n:Nat) (cs:List AV) (x:pV di),cF di hh cs=some x→fG di c=true→cs[mg di c]? = some (.bF id)→hh.get id≠none∧∃o,(n+c,some id,o)∈dD di n cs x
 |[],c,n,cs,x,_,h,_=>by simp[fG]at h
 |.val k::r,0,n,cs,x,_,h,_=>by simp[fG]at h
 |.val k::r,c+1,n,cs,x,hd,h,hc=>by obtain⟨_,h2⟩:=ox hd;obtain⟨h3,o,h4⟩:=v5 r c (n+1) (cs.drop k.sz) x.2 h2 (by simpa[fG] using h) (by rw[List.getElem?_drop];simpa[mg] using hc);exact⟨h3,o,by rw[show n+(c+1)=n+1+c by omega];exact h4⟩
 |.own ok::r,0,n,cs,x,hd,h,hc=>by
  obtain⟨c0,cs',rfl,h1,h2⟩:=lx hd;simp only[mg,List.getElem?_cons_zero,Option.some.injEq]at hc;subst hc;rcases ly h1 with⟨h3,_⟩|⟨l9,h3,h4⟩
  ·cases h3
  ·cases h3
   exact⟨by rw[h4];simp,_,by simp only[dD,List.headD_cons,oi,List.head?_cons];exact ac9⟩
 |.own ok::r,c+1,n,cs,x,hd,h,hc=>by obtain⟨c0,cs',rfl,h1,h2⟩:=lx hd;obtain⟨h3,o,h4⟩:=v5 r c (n+1) cs' x.2 h2 (by simpa[fG] using h) (by simp only[mg]at hc;rw[Nat.add_comm]at hc;simpa using hc);exact⟨h3,o,by rw[show n+(c+1)=n+1+c by omega];simp only[dD,List.tail_cons];exact acm _ h4⟩
theorem Ah{hh:Heap}{id c:Nat}:∀(bs:List BK) (b n:Nat) (is is':List Nat) (x:vH bs) (bk:BK) (bi:Nat) (ty:TypeId) (cs:List AV),cT bs hh is=some x→is'.length=bs.length→bs[b]? = some bk→is[b]? = some bi→hh.get bi=some (.box ty cs) → fG bk.di c=true→cs[mg bk.di c]? = some (.bF id)→hh.get id≠none∧∃o,(n+16*b+c,some id,o)∈cr bs hh is is' n x
 |[],b,n,is,is',x,bk,bi,ty,cs,_,_,h,_,_,_,_=>by simp at h
 |b0::r,b,n,[],is',x,bk,bi,ty,cs,hd,_,_,_,_,_,_=>by cases hd
 |b0::r,b,n,i::is,[],x,bk,bi,ty,cs,_,hl,_,_,_,_,_=>by simp at hl
 |b0::r,0,n,i::is,i'::is',x,bk,bi,ty,cs,hd,hl,h1,h2,h3,h4,h5=>by
  obtain⟨g0,g3⟩:=eV hd;simp only[List.getElem?_cons_zero,Option.some.injEq]at h1 h2;subst h1;subst h2
  cases b0 with
  |own ok=>simp[BK.di,fG]at h4
  |box ty0 c0 =>
   obtain⟨cs',g1,g2⟩:=rk g0;rw[g1]at h3
   cases h3
   obtain⟨h6,o,h7⟩:=v5 c0 c n cs x.1 g2 h4 h5;refine⟨h6,o,?_⟩;simp only[cr,dI];rw[oz g1];exact acr _ (acm _ (by simpa using h7))
 |b0::r,b+1,n,i::is,i'::is',x,bk,bi,ty,cs,hd,hl,h1,h2,h3,h4,h5=>by obtain⟨_,g3⟩:=eV hd;obtain⟨h6,o,h7⟩:=Ah r b (n+16) is is' x.2 bk bi ty cs g3 (by simpa using hl) (by simpa using h1) (by simpa using h2) h3 h4 h5;refine⟨h6,o,?_⟩;rw[show n+16*(b+1)+c=n+16+16*b+c by omega];simp only[cr];exact acW _ h7
theorem Ai{c:List CK}{cs:List AV}{id s off:Nat}{a:Nat×Nat×Nat}(h:w9 c cs id s off a=true):cs[mg c a.1]? = some (.bF id)∧s=a.2.1∧off=a.2.2∧fG c a.1=true:=by
 simp only[w9,Bool.and_eq_true,decide_eq_true_eq]at h;obtain⟨h1,h2,h3,h4⟩:=h;refine⟨?_,h2,h3,h4⟩;unfold Og at h1
 split at h1
 ·rename_i e;rw[e];simp only[beq_iff_eq]at h1;rw[h1]
 ·cases h1
theorem Mp{bs:List BK}{hh:Heap}{ids:List Nat}{b:Nat}{alts:List (Nat×Nat×Nat)}{v:AV}{x:Option (Fin alts.length×Nat)}(hd:mH bs hh ids b alts v=some x):(v=.kI∧x=none) ∨ ∃id i a bi bk ty cs,v=.ref id (alts.get a).2.1 i (alts.get a).2.2∧x=some (a,i)∧ids[b]? = some bi∧bs[b]? = some bk∧hh.get bi=some (.box ty cs)∧cs[mg bk.di (alts.get a).1]? = some (.bF id)∧fG bk.di (alts.get a).1=true:=by
 unfold mH at hd
 split at hd
 ·cases hd;exact .inl ⟨rfl,rfl⟩
 ·rename_i id s i off
  split at hd
  ·rename_i bi bk h1 h2
   split at hd
   ·rename_i ty cs h3
    split at hd
    ·rename_i a h4
     cases hd
     have h4':w9 bk.di cs id s off (alts.get a)=true:=by simpa using adC (p:=fun a=>w9 bk.di cs id s off (alts.get a)) h4
     obtain⟨h5,rfl,rfl,h6⟩:=Ai h4';exact .inr ⟨id,i,a,bi,bk,ty,cs,rfl,rfl,h1,h2,h3,h5,h6⟩
    ·cases hd
   ·cases hd
  ·cases hd
 ·cases hd
theorem rp{bs:List BK}{hh:Heap}{ids is' ids2:List Nat}{nb:Nat}{yb:vH bs}(g:Good Z ψ hh.get w B0 O)(hz:∀b,Z b→Z' b)(hb:cT bs hh ids=some yb)(hl:is'.length=bs.length) (OQ:∀e∈cr bs hh ids is' nb yb,h' e.1≠none→ψ' e.1=jx ψ e.2.1):∀(rs:List RK) (vs:List AV) (m:Nat) (x:lk rs) (us:List Value),bG bs rs hh ids vs=some x →(∀id b,AV.bF id∈fN rs vs→hh.get id≠none→ob (ψ id)=some b→Z' b)→(∀e∈cv rs vs m x,h' e.1≠none→ψ' e.1=jx ψ e.2.1)→ak Z ψ hh.get w vs us→ak Z' ψ' h' w (aP rs ids2 nb m x) us
 |[],vs,m,x,us,hd,_,_,hr=>by have:=gM [] vs x hd;have hv:vs=[]:=adh this;subst hv;simpa only[aP,ak] using hr
 |.val k::r,vs,m,x,us,hd,hf,iI,hr=>by obtain⟨v,gL,rfl,h1,h2⟩:=oD hd;simp only[ak]at hr;obtain⟨u,iq,rfl,h3,h4⟩:=hr;simp only[aP,ak];simp only[fN]at hf;exact⟨u,iq,rfl,rf g hz (fun id b bL=>hf id b (acr _ bL)) h1 h3,rp g hz hb hl OQ r gL (m+1) x.2 iq h2 (fun id b bL=>hf id b (acW _ bL)) iI h4⟩
 |.own ok::r,vs,m,x,us,hd,hf,iI,hr=>by obtain⟨v,gL,rfl,h1,h2⟩:=oE hd;simp only[ak]at hr;obtain⟨u,iq,rfl,h3,h4⟩:=hr;simp only[aP,ak];simp only[cv,List.headD_cons,List.tail_cons]at iI;exact⟨u,iq,rfl,Eu h1 h3 (fun hn=>iI _ ac9 hn),rp g hz hb hl OQ r gL (m+1) x.2 iq h2 hf (fun e he=>iI e (acm _ he)) h4⟩
 |.eu b alts::r,vs,m,x,us,hd,hf,iI,hr=>by
  obtain⟨v,gL,rfl,h1,h2⟩:=mo hd;simp only[ak]at hr;obtain⟨u,iq,rfl,h3,h4⟩:=hr;simp only[aP,ak];refine⟨u,iq,rfl,?_,rp g hz hb hl OQ r gL (m+1) x.2 iq h2 hf iI h4⟩;rcases Mp h1 with⟨rfl,h5⟩|⟨id,i,al,bi,bk,ty,cs,rfl,h5,h6,h7,h8,h9,mL⟩
  ·have:x.1=none:=h5;rw[this];simpa only[tQ,av] using h3
  ·have:x.1=some (al,i):=h5;rw[this];obtain⟨yi,o,IP⟩:=Ah bs b nb ids is' yb bk bi ty cs hb hl h7 h6 h8 mL h9;simp only[tQ,av]at h3 ⊢;obtain⟨ad,SA,U7⟩:=h3;refine⟨ad,SA,fun hn=>?_⟩;rw[OQ _ IP hn,U7 yi];rfl
 |.agg c::r,vs,m,x,us,hd,hf,iI,hr=>by obtain⟨cs,gL,rfl,h1,h2⟩:=oF hd;simp only[ak]at hr;obtain⟨u,iq,rfl,h3,h4⟩:=hr;simp only[aP,ak];simp only[fN,AV.cells]at hf;simp only[cv,List.headD_cons,List.tail_cons,AV.cells]at iI;refine⟨u,iq,rfl,?_,rp g hz hb hl OQ r gL (m+1) x.2 iq h2 (fun id b bL=>hf id b (acW _ bL)) (fun e he=>iI e (acW _ he)) h4⟩;simp only[av]at h3 ⊢;obtain⟨ws,rfl,h5⟩:=h3;exact⟨ws,rfl,rj g hz c m cs x.1 _ h1 (fun id b bL=>hf id b (acr _ bL)) (fun e he=>iI e (acr _ he)) h5⟩
end Go.Vs
