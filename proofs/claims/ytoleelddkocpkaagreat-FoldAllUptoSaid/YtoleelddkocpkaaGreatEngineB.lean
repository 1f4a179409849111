/- The value semantics is sound -/
import Derived.Test.YtoleelddkocpkaaGreatEngineA
import Derived.Laws.StructEq
import Derived.Laws.Slices
import Derived.Laws.Strings
import Derived.MapKept
import Derived.Lib.AppendStr
import Derived.Laws.BytesString
set_option linter.unusedSimpArgs false
set_option linter.unusedVariables false
namespace Go.Vs
variable {P:Program} {Z Z':Nat→Prop} {ψ ψ':Nat→Value} {h h':Hp} {w w':World} {B0:Nat} {O:Nat→Prop} {N:Nat→Prop}
def bF.hp(h:Hp):bF→Hp
 |.val _=>h
 |.new _ os=>fun i=>match Heap.get os i with
  |some o=>some o
  |none=>h i
 |.wr _ h'=>h'.get
theorem gH(id:Nat)(o:Ob)(h:Hp):(fun i=>match Heap.get [(id,o)] i with|some o=>some o|none=>h i)=dW h id (some o):=by
 funext i;simp only[Heap.get,dW]
 grind
theorem kK(hh:Heap)(id:Nat)(o:Ob):(hh.set id o).get=dW hh.get id (some o):=by
 grind [id,Heap.wD,bp,Heap.Ce,dq]
theorem tB(hh:Heap)(id:Nat):(hh.del id).get=dW hh.get id none:=by
 grind [id,Heap.gQ,bp,Heap.jh,dq]
theorem Cr(hh:Heap)(id:Nat)(o:Ob):Heap.get ((id,o)::hh)=dW hh.get id (some o):=by
 funext i;simp only[Heap.get,dW]
 grind
def hZ(P:Program)(ρC:Operand→Value)(o:Oper)(Z:Nat→Prop)(ψ:Nat→Value)(h:Hp)(w:World)(B0:Nat)(O N:Nat→Prop)(e:bF):Prop :=∃V w' Z' ψ',((execOp ρC o).run P w=.ok (.value V) w'∨((execOp ρC o).run P w=.ok .skip w'∧V=undef))∧Next Z ψ h w B0 O N Z' ψ' (e.hp h) w'∧aC Z' ψ' (e.hp h) w' e.v V
theorem hZ.val{ρC:Operand→Value}{o:Oper}{x:AV}(g:Good Z ψ h w B0 O){V:Value}(hr:(execOp ρC o).run P w=.ok (.value V) w)(hx:aC Z ψ h w x V):hZ P ρC o Z ψ h w B0 O N (.val x) :=⟨V,w,Z,ψ,.inl hr,Next.refl g,hx⟩
theorem SU{ty:TypeId}{k:K}{xs:List k.T}{id n:Nat}{x:k.T}(g:Good Z ψ h w B0 O)(hg:h id=some (.own (.row ty k) xs))(hx:xs[n]? = some x) :
  ∃gg us,XT (ψ id)=gg∧aL Z w k x us∧∀(j:Nat) u,us[j]? = some u→w.cell? ⟨gg,n*k.sz+j,none⟩=some u:=by
 obtain⟨vs,ho,hv⟩:=g.row id (.row ty k) xs hg;have hn:n<xs.length:=(abJ.1 hx).1;obtain⟨hl,e⟩:=ho;rcases e with⟨h0,_⟩|⟨gg,cap,cur,e1,_,e3,_,_,_,e7⟩
 ·omega
 ·refine⟨gg,_,by rw[e1];rfl,hv n x hx,fun j u hu=>?_⟩;rw[List.getElem?_take]at hu
  split at hu
  ·rw[List.getElem?_drop,←e7,List.getElem?_take]at hu
   split at hu
   ·simp only[World.cell?,e3];simpa using hu
   ·cases hu
  ·cases hu
theorem vC{hh:Heap}(g:Good Z ψ h w B0 O)(bz:∀id o,hh.get id=some o→h id=some o){t:TypeId}{a:AV}{v:Value}{e:bF}(hv:aC Z ψ h w a v)(he:mq P hh t a some=some e) :
  ∃x V,e=.val x∧(Instr.loadAt t v).run P w=.ok V w∧aC Z ψ h w x V:=by
 unfold mq at he
 split at he
 ·rename_i id s i off;simp only[aC]at hv;obtain⟨a,rfl,ha⟩:=hv
  split at he
  ·rename_i ty cs hg;have ym:=bz _ _ hg;have JJ:=ha (by rw[ym];simp);obtain⟨gg,vs,e1,e2,e3,e4⟩:=g.box id ty cs ym
   split at he
   ·rename_i hi;subst hi
    split at he
    ·rename_i x hx
     cases he
     rw[e1]at JJ;simp only[XT,Nat.zero_mul,Nat.zero_add]at JJ;subst JJ;obtain⟨V,h1,h2⟩:=kh (a:=⟨gg,off,none⟩) (e3.drop off) (fun j u hu=>by rw[cF];simp only[World.cell?,e2];rw[List.getElem?_drop]at hu;simpa using hu) hx;exact⟨x,V,rfl,h1,h2⟩
    ·cases he
   ·cases he
  ·rename_i ty kk xs hg;have ym:=bz _ _ hg;have JJ:=ha (by rw[ym];simp)
   split at he
   ·rename_i hs;subst hs;obtain⟨x,hx,he⟩:=ac2.1 he
    split at he
    ·rename_i y hy
     cases he
     obtain⟨gg,us,h1,h2,h3⟩:=SU g ym hx;rw[h1]at JJ;subst JJ;obtain⟨V,h4,h5⟩:=kh (a:=⟨gg,i*kk.sz+off,none⟩) ((iV (ψ:=ψ) (h:=h) h2).drop off) (fun j u hu=>by rw[cF,Nat.add_assoc];exact h3 _ _ (by rw[List.getElem?_drop]at hu;exact hu)) hy;exact⟨y,V,rfl,h4,h5⟩
    ·cases he
   ·cases he
  ·cases he
 ·rename_i kk x off
  split at he
  ·rename_i y hy
   cases he
   simp only[aC]at hv;obtain⟨a,us,rfl,_,h2,h3⟩:=hv;obtain⟨V,h4,h5⟩:=kh ((iV (ψ:=ψ) (h:=h) h2).drop off) (fun j u hu=>h3 j u (by rw[List.getElem?_drop]at hu;exact hu)) hy;exact⟨y,V,rfl,h4,h5⟩
  ·cases he
 ·cases he
theorem fV{t e:TypeId}(he:rM P t=some e):P.underlying t=some (.slice e):=by
 grind [rM]
theorem oi{t e:TypeId}(ht:P.underlying t=some (.slice e)){i:TypeInfo}(hi:P.info? e=some i)(a:Addr)(n c:Nat)(k:IntKind)(j:Int)(h0:0≤j)(h1:j<n) :
  (Instr.indexAt t (.slice (some a) n c) (.int k j)).run P w=.ok (.pointer (some (a.add (j.toNat*P.cellsOf e)))) w:=by
 simp[Instr.indexAt,asIntOf,run_underlying ht,h0,h1,dD hi]
theorem Qk{α:Type}{xs:List α}{i:Int}{x:α}(hx:aR xs i=some x):0≤i∧i<xs.length∧xs[i.toNat]? = some x:=by
 grind [aR,List.getElem?_eq_some_iff]
theorem rf{hh:Heap}(g:Good Z ψ h w B0 O)(bz:∀id o,hh.get id=some o→h id=some o){t:TypeId}{x i:AV}{v u:Value}{e:bF}(hv:aC Z ψ h w x v)(hu:aC Z ψ h w i u)(he:dC P hh t x i some=some e) :
  ∃y V,e=.val y∧(Instr.indexAt t v u).run P w=.ok V w∧aC Z ψ h w y V:=by
 unfold dC at he
 split at he
 ·cases he
 ·rename_i et het;have ht:=fV het
  ·skip
   split at he
   ·rename_i ex N3 xs ik n;simp only[aC]at hv hu;subst hu
    split at he
    ·rename_i hs;obtain⟨y,hy,he⟩:=ac2.1 he
     cases he
     obtain⟨h0,h1,h2⟩:=Qk hy;obtain⟨hk,_⟩:=hv;simp only[aL]at hk;obtain⟨v',Bv,A,c,rfl,_,_,yn⟩:=hk
     cases Bv
     obtain⟨a,us,rfl,hz,hr,hc⟩:=yn _ _ h2;have hi:∃i,P.info? et=some i:=by
      cases hi:P.info? et with
      |some i=>exact⟨i,rfl⟩
      |none=>exfalso;have:=N3.gF;simp[Program.cellsOf,hi]at hs;omega
     obtain⟨inf,hi⟩:=hi;refine⟨_,_,rfl,oi ht hi a xs.length c ik n h0 h1,?_⟩;simp only[aC];refine⟨_,us,rfl,by rw[fD];exact hz,hr,fun j u hu=>?_⟩;rw[wC,hs];exact hc j u (by simpa using hu)
    ·cases he
   ·rename_i id ik n
    split at he
    ·rename_i ty N3 xs hg;have ym:=bz _ _ hg
     split at he
     ·rename_i hs
      cases Cp:(decide (0≤n)&&decide (n<(xs.length:Int))) with
      |false=>rw[Cp]at he;cases he
      |true =>
       rw[Cp]at he
       cases he
       simp only[Bool.and_eq_true,decide_eq_true_eq]at Cp;simp only[aC]at hv hu;subst hu;have hvv:=hv.2 (by rw[ym];simp);obtain⟨vs,⟨_,e⟩,_⟩:=g.row id (.row ty N3) xs ym;rcases e with⟨h0,_⟩|⟨gg,cap,cur,e1,_,e3,_⟩
       ·omega
       ·have hi:∃i,P.info? et=some i:=by
         cases hi:P.info? et with
         |some i=>exact⟨i,rfl⟩
         |none=>exfalso;have:=N3.gF;simp[Program.cellsOf,hi]at hs;omega
        obtain⟨inf,hi⟩:=hi;rw[hvv,e1];refine⟨_,_,rfl,oi ht hi _ xs.length cap ik n Cp.1 Cp.2,?_⟩;simp only[aC];refine⟨_,rfl,fun _=>?_⟩;rw[e1,hs,cF];simp[XT]
     ·cases he
    ·cases he
   ·cases he
theorem uW{t:TypeId}(h:P.cellsOf t≠0):∃i,P.info? t=some i:=by
 cases hi:P.info? t with
 |some i=>simp_all
 |none=>grind [absurd,Program.cellsOf]
theorem uX{t:TypeId}{f n:Nat}{ft:TypeId}(hf:il P t f=some (n,ft))(hc:P.cellsOf ft≠0)(a:Addr) :
  (Instr.fieldAt t (.pointer (some a)) f).run P w=.ok (.pointer (some (a.add n))) w:=by
 unfold il at hf
 split at hf
 ·rename_i fs ht;obtain⟨fd,hfd,he⟩:=ac1.1 hf
  cases he
  obtain⟨i,hi⟩:=uW hc;simp_all [dD,Instr.fieldAt,Sem.run_bind,run_underlying,Result.andThen_ok,Instr.sureAddr,Sem.run_pure,fieldPlace,if_neg]
 ·cases hf
theorem uY{t:TypeId}{f n:Nat}{ft:TypeId}(hf:il P t f=some (n,ft))(hc:P.cellsOf ft≠0){id s i off:Nat}{v:Value}(hv:aC Z ψ h w (.ref id s i off) v) :
  ∃V,(Instr.fieldAt t v f).run P w=.ok V w∧aC Z ψ h w (.ref id s i (off+n)) V:=by
 simp only[aC]at hv ⊢;obtain⟨a,rfl,ha⟩:=hv;refine⟨_,uX hf hc a,_,rfl,fun bM=>?_⟩;rw[ha bM,cF,Nat.add_assoc]
theorem wL{t:TypeId}{f n:Nat}{ft:TypeId}(hf:il P t f=some (n,ft))(hc:P.cellsOf ft≠0){k:K}{x:k.T}{off:Nat}{v:Value}(hv:aC Z ψ h w (.fp k x off) v) :
  ∃V,(Instr.fieldAt t v f).run P w=.ok V w∧aC Z ψ h w (.fp k x (off+n)) V:=by
 simp only[aC]at hv ⊢;obtain⟨a,us,rfl,hz,hr,ZB⟩:=hv;refine⟨_,uX hf hc a,_,us,rfl,by grind [fD],hr,fun j u hu=>?_⟩
 grind [wC,Nat.add_assoc]
theorem JQ{t ft:TypeId}{f n:Nat}(hf:il P t f=some (n,ft)){cs:List AV}{x:AV}{v:Value}(hv:aC Z ψ h w (.agg cs) v)(hx:dY P ft (cs.drop n)=some x) :
  ∃V,(Instr.field t v f).run P w=.ok V w∧aC Z ψ h w x V:=by
 simp only[aC]at hv;obtain⟨vs,rfl,hl⟩:=hv;have hd:=hl.drop n;have hlen:=hd.length;unfold il at hf
 split at hf
 ·rename_i fs ht;obtain⟨fd,hfd,he⟩:=ac1.1 hf
  cases he
  unfold dY at hx
  split at hx
  ·rename_i hb
   split at hx
   ·rename_i hle
    cases hx
    obtain⟨i,hi⟩:=Ad hb;refine⟨.agg (vs.extract fd.offset (fd.offset+P.cellsOf fd.type)),?_,?_⟩
    ·simp_all [Instr.field,run_underlying,asAgg,part,gG,dD]
    ·simp only[aC];refine⟨_,rfl,?_⟩;rw[Array.toList_extract,List.extract_eq_take_drop,Nat.add_sub_cancel_left];exact hd.take _
   ·cases hx
  ·rename_i hb
   split at hx
   ·rename_i c r hcr
    cases hx
    rw[hcr]at hd;simp only[ax]at hd;obtain⟨u,us,hu,h1,_⟩:=hd;refine⟨u,?_,h1⟩;have hg:vs[fd.offset]? = some u:=by
     have:(vs.toList.drop fd.offset)[0]? = some u:=by rw[hu];rfl
     grind
    simp_all [Instr.field,run_underlying,asAgg,part,gG]
   ·cases hx
  ·cases hx
 ·cases hf
theorem Ql{hh:Heap}(g:Good Z ψ h w B0 O)(bz:∀id o,hh.get id=some o→h id=some o){x:AV}{v:Value}{e:bF}(hv:aC Z ψ h w x v)(he:F9 hh x some=some e) :
  ∃n:Nat,e=.val (.int .i64 (n:Int))∧((∃s,x=.str s∧v=.string s∧n=s.size)∨∃A c,v=.slice A n c):=by
 unfold F9 at he
 split at he
 ·rename_i s hs
  cases he
  have hx:x=.str s:=by
   cases x with
   |bL id=>simp only[cX]at hs;split at hs<;>cases hs
   |str s'=>simp only[cX]at hs;exact hs
   |_=>simp only[cX]at hs<;>cases hs
  subst hx;simp only[aC]at hv;exact⟨_,rfl,.inl ⟨s,rfl,hv,rfl⟩⟩
 ·rename_i ex k xs hs
  cases he
  have SV:=Gc (Z':=fun b=>Z b∨Own ψ h b) (g.sub bz) (fun b hb=>.inl hb) (fun id b _ bw hb=>.inr (by obtain⟨o,ho⟩:=acb.1 bw;exact⟨id,by rw[bz id o ho];simp,hb⟩)) (hv.og bz);rw[hs]at SV;simp only[aC,aL]at SV;obtain⟨⟨v',Bv,A,c,rfl,_⟩,_⟩:=SV
  cases Bv
  exact⟨_,rfl,.inr ⟨A,c,rfl⟩⟩
 ·rename_i hs
  cases he
  have hx:x=.fO:=by
   cases x with
   |bL id=>simp only[cX]at hs;split at hs<;>cases hs
   |fO=>rfl
   |_=>simp only[cX]at hs<;>cases hs
  subst hx;simp only[aC]at hv;exact⟨0,rfl,.inr ⟨_,_,hv⟩⟩
 ·cases he
def eF(Z:Nat→Prop)(ψ:Nat→Value)(h:Hp)(w:World):Option AV→Option Value→Prop
 |none,none=>True
 |some a,some v=>aC Z ψ h w a v
 |_,_=>False
theorem cq(k:IntKind)(i:Int)(y:Nat)(code:BoundsCode)(h0:0≤i)(h1:i≤y):(Instr.sliceBound (.int k i) y code).run P w=.ok i.toNat w:=by simp[Instr.sliceBound,asIntOf,h0,h1]
theorem vD{b:Bool}{n c:Nat}(hc:n≤c){lo hi mx:Option AV}{N9 yl mx':Option Value}{l u:Int}(h1:eF Z ψ h w lo N9)(h2:eF Z ψ h w hi yl)(h3:eF Z ψ h w mx mx') (hb:oI n lo hi=some (l,u)) (ho:bg n l u=true) (hm:mx=none∨(mx=some (.int .i64 u)∧hi≠none)) :
  (Instr.sliceBounds b n c N9 yl mx').run P w=.ok (l.toNat,u.toNat,if mx=none then c else u.toNat) w:=by
 simp only[bg,Bool.and_eq_true,decide_eq_true_eq]at ho;obtain⟨h4,h5,h6⟩:=ho;have huc:u≤(c:Int):=by omega
 unfold oI at hb;rcases hm with rfl|⟨rfl,bw⟩
 ·cases mx' with
  |some _=>exact h3.elim
  |none =>
   split at hb
   all_goals first|(cases hb;done)|skip
   ·cases hb
    cases N9 with
    |some _=>exact h1.elim
    |none =>
     cases yl with
     |some _=>exact h2.elim
     |none=>simp[Instr.sliceBounds]
   ·cases hb
    cases N9 with
    |none=>exact h1.elim
    |some v =>
     simp only[eF,aC]at h1;subst h1
     cases yl with
     |some _=>exact h2.elim
     |none=>simp[Instr.sliceBounds,cq .i64 l n _ h4 h5]
   ·cases hb
    cases N9 with
    |some _=>exact h1.elim
    |none =>
     cases yl with
     |none=>exact h2.elim
     |some v =>
      simp only[eF,aC]at h2;subst h2
      cases b<;>simp[Instr.sliceBounds,cq .i64 u c _ (by omega) huc]
   ·cases hb
    cases N9 with
    |none=>exact h1.elim
    |some v =>
     simp only[eF,aC]at h1;subst h1
     cases yl with
     |none=>exact h2.elim
     |some v =>
      simp only[eF,aC]at h2;subst h2;have hx:l≤((u.toNat:Nat):Int):=by omega
      cases b<;>simp[Instr.sliceBounds,cq .i64 u c _ (by omega) huc,cq .i64 l u.toNat _ h4 hx]
 ·cases mx' with
  |none=>exact h3.elim
  |some m =>
   simp only[eF,aC]at h3;subst h3;have huu:u≤((u.toNat:Nat):Int):=by omega
   have hx:l≤((u.toNat:Nat):Int):=by omega
   split at hb
   all_goals first|(cases hb;done)|skip
   ·exact absurd rfl bw
   ·exact absurd rfl bw
   ·cases hb
    cases N9 with
    |some _=>exact h1.elim
    |none =>
     cases yl with
     |none=>exact h2.elim
     |some v =>
      simp only[eF,aC]at h2;subst h2
      cases b<;>simp[Instr.sliceBounds,cq .i64 u c _ (by omega) huc,cq .i64 u u.toNat _ (by omega) huu]
   ·cases hb
    cases N9 with
    |none=>exact h1.elim
    |some v =>
     simp only[eF,aC]at h1;subst h1
     cases yl with
     |none=>exact h2.elim
     |some v =>
      simp only[eF,aC]at h2;subst h2
      cases b<;>simp[Instr.sliceBounds,cq .i64 u c _ (by omega) huc,cq .i64 u u.toNat _ (by omega) huu,cq .i64 l u.toNat _ h4 hx]
theorem Cs{t e:TypeId}(ht:P.underlying t=some (.slice e)){kk:K}(ij:P.cellsOf e=kk.sz){xs:List kk.T}{v:Value}(hr:aL Z w (.sl kk) xs [v]){lo hi mx:Option AV}{N9 yl mx':Option Value}{l u:Int} (h1:eF Z' ψ h w lo N9) (h2:eF Z' ψ h w hi yl) (h3:eF Z' ψ h w mx mx') (hb:oI xs.length lo hi=some (l,u)) (ho:bg xs.length l u=true) (hm:mx=none∨(mx=some (.int .i64 u)∧hi≠none)) :
  ∃V,(Instr.sliceAt t v N9 yl mx').run P w=.ok V w∧aL Z w (.sl kk) (cut xs l u) [V]∧(mx≠none→∃A c,V=.slice A c c):=by
 simp only[aL]at hr;obtain⟨v',Bv,A,c,rfl,hl,hn,yn⟩:=hr
 cases Bv
 have de:=vD (P:=P) (w:=w) (b:=true) hl h1 h2 h3 hb ho hm;simp only[bg,Bool.and_eq_true,decide_eq_true_eq]at ho;obtain⟨h4,h5,h6⟩:=ho;obtain⟨i,hi⟩:=uW (P:=P) (t:=e) (by have:=kk.gF;omega);generalize hmm:(if mx=none then c else u.toNat)=m at de;have hmu:u.toNat≤m:=by
  grind
 have hmc:m≤c:=by
  grind
 have uR:(cut xs l u).length=u.toNat-l.toNat:=by
  grind [cut,List.length_drop,List.length_take]
 refine⟨.slice (if m=l.toNat then A else A.map (·.add (l.toNat*P.cellsOf e))) (u.toNat-l.toNat) (m-l.toNat),?_,?_,?_⟩
 ·simp[Instr.sliceAt,Instr.slice,run_underlying ht,de,dD hi]
 ·simp only[aL];refine⟨_,rfl,_,_,by rw[uR],by omega,fun hA=>?_,fun j x hx=>?_⟩
  ·split at hA
   ·omega
   simp_all
  ·have hj:j<u.toNat-l.toNat:=by grind
   have XZ:xs[l.toNat+j]? = some x:=by
    unfold cut at hx
    grind
   obtain⟨a,us,rfl,hz,hr,hc⟩:=yn _ _ XZ;refine⟨a.add (l.toNat*P.cellsOf e),us,by grind,by grind [fD],hr,fun q y hy=>?_⟩;simp_all [wC,Nat.add_mul,Nat.add_assoc]
 ·intro bw;simp_all
theorem JR{hh:Heap}(g:Good Z ψ h w B0 O)(_:∀id o,hh.get id=some o→h id=some o){t e:TypeId}(ht:P.underlying t=some (.slice e)){x:AV}{v:Value}{lo hi mx:Option AV}{N9 yl mx':Option Value}{ef:bF} (hv:aC Z ψ h w x v) (h1:eF Z ψ h w lo N9) (h2:eF Z ψ h w hi yl) (h3:eF Z ψ h w mx mx') (nq:∀y hw,ef=.wr y hw→hh.get=h) (he:p6 hh (P.cellsOf e) x lo hi mx some=some ef) (hse:(P.info? e).isSome=true) :
  ∃V Z',(Instr.sliceAt t v N9 yl mx').run P w=.ok V w∧Next Z ψ h w B0 O N Z' ψ (ef.hp h) w∧aC Z' ψ (ef.hp h) w ef.v V:=by
 unfold p6 at he
 split at he
 ·
  simp only[aC]at hv;subst hv
  split at he
  ·rename_i l u hb
   cases ho:bg 0 l u with
   |false=>simp_all
   |true =>
    rw[ho]at he
    cases he
    have de:=vD (P:=P) (w:=w) (b:=true) (acW 0) h1 h2 h3 hb ho (.inl rfl);simp only[bg,Bool.and_eq_true,decide_eq_true_eq]at ho;have hl0:l.toNat=0:=by omega
    have hu0:u.toNat=0:=by omega
    obtain⟨i,hi⟩:=acV.1 hse;refine⟨.slice none 0 0,Z,?_,Next.refl g,by rfl⟩;rw[hl0,hu0]at de;simp[Instr.sliceAt,Instr.slice,run_underlying ht,de,dD hi]
  ·cases he
 ·
  rename_i ex kk xs;simp only[aC]at hv
  split at he
  ·rename_i ij
   split at he
   ·rename_i l u hb
    split at he
    ·cases ho:bg xs.length l u with
     |false=>simp_all
     |true =>
      rw[ho]at he
      cases he
      obtain⟨V,h4,h5,_⟩:=Cs (P:=P) ht ij hv.1 h1 h2 h3 hb ho (.inl rfl);exact⟨V,Z,h4,Next.refl g,by grind [bF.v,bF.hp,aC]⟩
    ·rename_i m
     cases ho:(bg xs.length l u&&(hi.isSome&&decide (m=u))) with
     |false=>simp_all
     |true =>
      rw[ho]at he
      cases he
      simp only[Bool.and_eq_true,decide_eq_true_eq]at ho;obtain⟨ho,hhi,rfl⟩:=ho;obtain⟨V,h4,h5,h6⟩:=Cs (P:=P) ht ij hv.1 h1 h2 h3 hb ho (.inr ⟨rfl,by grind⟩);exact⟨V,Z,h4,Next.refl g,by grind [bF.v,bF.hp,aC]⟩
    ·cases he
   ·cases he
  ·cases he
 ·cases he
def mA(P:Program)(t:TypeId)(k:K):Prop :=∀(Z:Nat→Prop) (w:World) (x y:k.T) (xs ys:Array Value),aL Z w k x xs.toList→aL Z w k y ys.toList →(Op.equal t (.agg xs) (.agg ys)).run P w=.ok (tc k x y) w∧(∀(op:BinOp) (a b:Operand),(eqGuard op t a b (.agg xs) (.agg ys)).run P w=.ok () w)∧∀e:Bool,(Instr.checkKey e 10000 t (.agg xs)).run P w=.ok () w
theorem yE(op:BinOp)(t:TypeId)(a b:Operand)(k k':IntKind)(x y:Int):(eqGuard op t a b (.int k x) (.int k' y)).run P w=.ok () w:=by simp_all [eqGuard]
theorem Qm(op:BinOp)(t:TypeId)(a b:Operand)(x y:ByteArray):(eqGuard op t a b (.string x) (.string y)).run P w=.ok () w:=by simp_all [eqGuard]
theorem My(op:BinOp)(t:TypeId)(a b:Operand)(x y:Bool):(eqGuard op t a b (.bool x) (.bool y)).run P w=.ok () w:=by simp_all [eqGuard]
theorem Gh(op:BinOp)(t:TypeId)(a b:Operand)(x y:Option Addr):(eqGuard op t a b (.pointer x) (.pointer y)).run P w=.ok () w:=by simp_all [eqGuard]
def b5:AV→Value
 |.bool b=>.bool b
 |.int k n=>.int k n
 |.str s=>.string s
 |_=>undef
theorem ki(k:IntKind)(n:Int):aC Z ψ h w (.int k n) (b5 (.int k n)):=by rfl
theorem eI(b:Bool):aC Z ψ h w (.bool b) (b5 (.bool b)):=by rfl
theorem kL{t e:TypeId}(ht:P.underlying t=some (.pointer e))(a:Option Addr):(Op.equal t (.pointer a) (.pointer none)).run P w=.ok a.isNone w:=by
 have key:∀d,(Op.equalIn (d+1) t (.pointer a) (.pointer none)).run P w=.ok a.isNone w:=fun d=>by cases a<;>simp[Op.equalIn,run_underlying ht]
 exact key 9999
theorem SW{op:BinOp}{t:TypeId}{k:IntKind}{a b:Int}{v:AV}(hv:aa1 op k a b=some v):∃V,(binOp op t (.int k a) (.int k b)).run P w=.ok V w∧aC Z ψ h w v V:=by
 cases op<;>simp only[aa1]at hv<;>cases hv<;>first
  |(refine⟨b5 (.int _ _),?_,ki _ _⟩;simp[binOp,Op.intArith,Op.intCmp,b5];done)
  |(refine⟨b5 (.bool _),?_,eI _⟩;simp[binOp,Op.intArith,Op.intCmp,b5];done)
  |(refine⟨b5 (.int _ _),?_,ki _ _⟩;simp only[binOp,b5,ne_eq,not_true_eq_false,if_false];rfl)
theorem Qn{Eqs:TypeId→Option K}(EZ:∀t k,Eqs t=some k→mA P t k){op:BinOp}{t:TypeId}{xo yo:Operand}{x y:AV}{u v:Value}{e:bF}(hu:aC Z ψ h w x u)(hv:aC Z ψ h w y v)(he:Aa P Eqs op t x y some=some e) :
  ∃r V,e=.val r∧((do eqGuard op t xo yo u v;binOp op t u v:Sem Value)).run P w=.ok V w∧aC Z ψ h w r V:=by
 unfold Aa at he
 split at he
 ·rename_i k a k' b;simp only[aC]at hu hv;subst hu;subst hv
  split at he
  ·cases hb:decide (b<0) with
   |true=>rw[hb]at he;cases he
   |false =>
    rw[hb]at he;cases he;have hb':¬b<0:=by simpa using hb
    exact⟨_,b5 (.int _ _),rfl,by simp[yE,binOp,Op.shift,hb',b5,adr],ki _ _⟩
  ·cases hb:decide (b<0) with
   |true=>rw[hb]at he;cases he
   |false =>
    rw[hb]at he;cases he;have hb':¬b<0:=by simpa using hb
    exact⟨_,b5 (.int _ _),rfl,by simp[yE,binOp,Op.shift,hb',b5,gy],ki _ _⟩
  split at he
  ·rename_i hk;subst hk;simp only[Sem.run_bind,yE,Result.andThen_ok]
   split at he
   ·cases hb:(b==0) with
    |true=>rw[hb]at he;cases he
    |false =>
     rw[hb]at he;cases he;have hb':b≠0:=by simpa using hb
     exact⟨_,b5 (.int _ _),rfl,by simp[binOp,Op.intDiv,hb',b5],ki _ _⟩
   ·cases hb:(b==0) with
    |true=>rw[hb]at he;cases he
    |false =>
     rw[hb]at he;cases he;have hb':b≠0:=by simpa using hb
     exact⟨_,b5 (.int _ _),rfl,by simp[binOp,Op.intDiv,hb',b5],ki _ _⟩
   ·split at he
    ·rename_i v hv
     cases he
     obtain⟨V,h1,h2⟩:=SW (P:=P) (t:=t) (w:=w) (Z:=Z) (ψ:=ψ) (h:=h) hv;exact⟨_,V,rfl,h1,h2⟩
    ·cases he
  ·cases he
 ·rename_i a b;simp only[aC]at hu hv;subst hu;subst hv;simp only[Sem.run_bind,Qm,Result.andThen_ok]
  cases op<;>simp only[ads]at he<;>first|(cases he;done)|(cases he;exact⟨_,b5 (.bool _),rfl,by simp[binOp,Op.stringOp,←beq_toListBytes,b5],eI _⟩)
 ·rename_i a b;simp only[aC]at hu hv;subst hu;subst hv;simp only[Sem.run_bind,My,Result.andThen_ok];have key:(P.underlying t).map HL=some true→P.underlying t=some .bool:=fun hm=>by
   obtain⟨d,hd,he⟩:=ac1.1 hm
   cases d<;>simp[HL]at he
   exact hd
  split at he
  ·rename_i hm
   cases he
   exact⟨_,b5 (.bool _),rfl,by simp[binOp,Op.equal,Op.maxDepth,run_equalIn_bool' (P:=P) w 9999 t a b (key hm),b5],eI _⟩
  ·rename_i hm
   cases he
   exact⟨_,b5 (.bool _),rfl,by simp[binOp,Op.equal,Op.maxDepth,run_equalIn_bool' (P:=P) w 9999 t a b (key hm),b5],eI _⟩
  ·cases he
 ·rename_i a b
  split at he
  ·cases he
  ·rename_i k hk;simp only[aC]at hu hv;obtain⟨xs,rfl,hx⟩:=hu;obtain⟨ys,rfl,hy⟩:=hv
   split at he
   ·rename_i x y hdx hdy
    cases he
    obtain⟨h1,h2,_⟩:=EZ t k hk Z w x y xs ys (dN hdx hx) (dN hdy hy);exact⟨_,b5 (.bool _),rfl,by simp only[Sem.run_bind,h2,Result.andThen_ok,binOp,h1,Sem.run_pure,b5],eI _⟩
   ·rename_i x y hdx hdy
    cases he
    obtain⟨h1,h2,_⟩:=EZ t k hk Z w x y xs ys (dN hdx hx) (dN hdy hy);exact⟨_,b5 (.bool _),rfl,by simp only[Sem.run_bind,h2,Result.andThen_ok,binOp,h1,Sem.run_pure,b5],eI _⟩
   ·cases he
 ·simp only[aC]at hu hv;subst hu;subst hv;have key:(P.underlying t).map yx=some true→∃e,P.underlying t=some (.pointer e):=fun hm=>by
   obtain⟨d,hd,he⟩:=ac1.1 hm
   cases d<;>simp[yx]at he
   exact⟨_,hd⟩
  simp only[Sem.run_bind,Gh,Result.andThen_ok]
  split at he
  ·rename_i hm
   cases he
   obtain⟨et,ht⟩:=key hm;exact⟨_,b5 (.bool _),rfl,by simp only[binOp,Sem.run_bind,kL ht,Result.andThen_ok,Sem.run_pure,b5,Option.isNone_none,Option.isNone_some,Bool.not_true,Bool.not_false],eI _⟩
  ·rename_i hm
   cases he
   obtain⟨et,ht⟩:=key hm;exact⟨_,b5 (.bool _),rfl,by simp only[binOp,Sem.run_bind,kL ht,Result.andThen_ok,Sem.run_pure,b5,Option.isNone_none,Option.isNone_some,Bool.not_true,Bool.not_false],eI _⟩
  ·cases he
 ·simp only[aC]at hu hv;obtain⟨a,rfl,_⟩:=hu;subst hv;have key:(P.underlying t).map yx=some true→∃e,P.underlying t=some (.pointer e):=fun hm=>by
   obtain⟨d,hd,he⟩:=ac1.1 hm
   cases d<;>simp[yx]at he
   exact⟨_,hd⟩
  simp only[Sem.run_bind,Gh,Result.andThen_ok]
  split at he
  ·rename_i hm
   cases he
   obtain⟨et,ht⟩:=key hm;exact⟨_,b5 (.bool _),rfl,by simp only[binOp,Sem.run_bind,kL ht,Result.andThen_ok,Sem.run_pure,b5,Option.isNone_none,Option.isNone_some,Bool.not_true,Bool.not_false],eI _⟩
  ·rename_i hm
   cases he
   obtain⟨et,ht⟩:=key hm;exact⟨_,b5 (.bool _),rfl,by simp only[binOp,Sem.run_bind,kL ht,Result.andThen_ok,Sem.run_pure,b5,Option.isNone_none,Option.isNone_some,Bool.not_true,Bool.not_false],eI _⟩
  ·cases he
 ·cases he
theorem Qo{a:AV}{v:Value}(hp:yu a=true)(hr:aC Z ψ h w a v):v.oneCell'=true:=by
 cases a with
 |no=>cases hp
 |agg cs=>cases hp
 |n8 cs=>cases hp
 |bool b=>simp only[aC]at hr;subst hr;rfl
 |int k n=>simp only[aC]at hr;subst hr;rfl
 |str s=>simp only[aC]at hr;subst hr;rfl
 |lQ=>simp only[aC]at hr;subst hr;rfl
 |fO=>simp only[aC]at hr;subst hr;rfl
 |ref id s i off=>simp only[aC]at hr;obtain⟨a,rfl,_⟩:=hr;rfl
 |fp k x off=>simp only[aC]at hr;obtain⟨a,us,rfl,_⟩:=hr;rfl
 |sl ex k xs=>simp only[aC,aL]at hr;obtain⟨⟨v',hv,A,c,rfl,_⟩,_⟩:=hr;cases hv;rfl
 |bL id=>grind [aC]
 |mp kk vk es=>simp only[aC,aL]at hr;obtain⟨A,hv,_⟩:=hr;cases hv;rfl
 |fn f cap=>simp only[aC]at hr;obtain⟨vs,rfl,_⟩:=hr;rfl
theorem vE:∀{cs:List AV} {vs:List Value},cs.all yu=true→ax Z ψ h w cs vs→∀u∈vs,u.oneCell'=true
 |[],_,_,hr,u,hu=>by simp only[ax]at hr;subst hr;simp at hu
 |c::r,_,hp,hr,u,hu=>by
  simp only[List.all_cons,Bool.and_eq_true]at hp;simp only[ax]at hr;obtain⟨v,us,rfl,h1,h2⟩:=hr;rcases abL.1 hu with rfl|hu
  ·exact Qo hp.1 h1
  ·exact vE hp.2 h2 u hu
theorem JS{a:AV}(hp:a.cells.all yu=true):a≠.no:=by rintro rfl;simp[AV.cells,yu]at hp
theorem tC{id:Nat}:∀{cs:List AV},Ml id cs=true→AV.bL id∉cs
 |[],_=>by simp
 |c::r,hn=>by
  intro hm
  cases c with
  |bL i =>
   simp only[Ml,Bool.and_eq_true,Bool.not_eq_true',beq_eq_false_iff_ne]at hn;rcases abL.1 hm with e|hm
   ·cases e;exact hn.1 rfl
   ·exact tC hn.2 hm
  |_ =>
   simp only[Ml]at hn;rcases abL.1 hm with e|hm
   ·cases e
   ·exact tC hn hm
theorem Aj{hh:Heap}(g:Good Z ψ hh.get w B0 O){t:TypeId}{a x:AV}{u v:Value}{e:bF}(hu:aC Z ψ hh.get w a u)(hv:aC Z ψ hh.get w x v)(he:tf P hh t a x some=some e) :
  ∃hw w' Z',e=.wr .no hw∧(Instr.storeAt t u v).run P w=.ok () w'∧Next Z ψ hh.get w B0 O N Z' ψ hw.get w':=by
 unfold tf at he
 split at he
 ·rename_i hc;obtain⟨hlen,X0,qg⟩:=hc;obtain⟨inf,X0⟩:=acV.1 X0;have Sn:=hv.cells (JS qg);have HR:=vE qg Sn;have uR:=Sn.length;simp only[Array.length_toList]at uR
  split at he
  ·rename_i id s i off;simp only[aC]at hu;obtain⟨a,rfl,ha⟩:=hu
   split at he
   ·rename_i ty cs hg
    split at he
    ·rename_i hc;obtain⟨rfl,adA⟩:=hc
     cases he
     have JJ:=ha (by rw[hg];simp);obtain⟨w',h1,h2⟩:=Ci (P:=P) (N:=N) g hg X0 Sn HR (by omega) adA (a:=a) (by rw[JJ];simp);exact⟨_,w',Z,rfl,h1,by grind [kK]⟩
    ·cases he
   ·rename_i ty kk xs hg;obtain⟨y,hx,Xt⟩:=ac2.1 he;clear he
    split at Xt
    ·rename_i hc;obtain⟨rfl,adA,vB⟩:=hc
     split at Xt
     ·rename_i z hz
      cases Xt
      have JJ:=ha (by rw[hg];simp);have bM:=tC vB;have gd:=ji g x.cells;have hgd:(cO hh x.cells).get id=some (.own (.row ty kk) xs):=by grind [qe]
      have abd:=oR (Z':=rJ Z ψ hh.get x.cells) g (fun b hb=>.inl hb) (fun i b hm bw hb=>.inr ⟨i,hm,bw,hb⟩) Sn;obtain⟨w',h1,h2⟩:=Cj (P:=P) (N:=N) gd hgd X0 hx (y:=z) (off:=off) (V:=v) (by omega) (by omega) (a:=a) JJ (fun us Mb=>by
       have h3:=(iV (ψ:=ψ) (h:=hh.get) Mb);have h4:=dN hz (abd.dX off h3)
       rwa [tx _ _ _ (by rw[Array.length_toList,Mb.len];omega),Array.length_toList]at h4) HR
      refine⟨_,w',rJ Z ψ hh.get x.cells,rfl,h1,?_⟩;rw[show((stored hh x.cells).2.set id (.own (.row ty kk) (xs.set i z))).get=dW (cO hh x.cells).get id (some (.own (.row ty kk) (xs.set i z))) from kK _ _ _];exact h2.drop (fun b hb=>.inl hb) (fun b hb=>hb.imp (fun h=>h) (fun⟨i,_,h5,h6⟩=>⟨i,h5,h6⟩)) (dZ _ _)
     ·cases Xt
    ·cases Xt
   ·cases he
  ·cases he
 ·cases he
theorem SX{a:AV}{v:Value}(ha:a.isAgg=true)(hr:aC Z ψ h w a v):∃vs,v=.agg vs:=by
 cases a<;>simp[AV.isAgg]at ha
 simp only[aC]at hr
 grind
theorem Gi{a:AV}{v:Value}(ha:a.isAgg=false)(vB:a≠.no)(hr:aC Z ψ h w a v):v.cells=#[v]:=by
 cases a with
 |no=>simp_all
 |agg cs=>simp[AV.isAgg]at ha
 |bool b=>simp only[aC]at hr;subst hr;rfl
 |int k n=>simp only[aC]at hr;subst hr;rfl
 |str s=>simp only[aC]at hr;subst hr;rfl
 |lQ=>simp only[aC]at hr;subst hr;rfl
 |fO=>simp only[aC]at hr;subst hr;rfl
 |ref id s i off=>simp only[aC]at hr;obtain⟨a,rfl,_⟩:=hr;rfl
 |fp k x off=>simp only[aC]at hr;obtain⟨a,us,rfl,_⟩:=hr;rfl
 |sl ex k xs=>simp only[aC,aL]at hr;obtain⟨⟨v',hv,A,c,rfl,_⟩,_⟩:=hr;cases hv;rfl
 |bL id=>grind [aC]
 |mp kk vk es=>simp only[aC,aL]at hr;obtain⟨A,hv,_⟩:=hr;cases hv;rfl
 |fn f cap=>simp only[aC]at hr;obtain⟨vs,rfl,_⟩:=hr;rfl
 |n8 cs=>simp only[aC]at hr;obtain⟨vs,rfl,_⟩:=hr;rfl
theorem vF{hh:Heap}{k:K}{a:AV}{x:k.T}{v:Value}(g:Good Z ψ hh.get w B0 O)(hz:∀b,Z b→Z' b)(hb:∀id b,AV.bL id∈a.cells→hh.get id≠none→ob (ψ id)=some b→Z' b) (hx:gY k hh a=some x) (hr:aC Z ψ hh.get w a v):aL Z' w k x v.cells.toList∧(k.isAgg=true→∃vs,v=.agg vs)∧(k.isAgg=false→v.cells=#[v]):=by
 unfold gY at hx
 split at hx
 ·rename_i hag;have vB:=Gg hx;have hv:=oR g hz hb (hr.cells vB)
  grind [dN,SX,Gi]
 ·cases hx
theorem tD{hh:Heap}{k:K}{a:AV}{x:k.T}{v:Value}(g:Good Z ψ hh.get w B0 O)(hz:∀b,Z b→Z' b)(hb:∀id b,AV.bL id∈a.cells→hh.get id≠none→ob (ψ id)=some b→Z' b) (hx:gY k hh a=some x) (hr:aC Z ψ hh.get w a v):aC Z' ψ' h' w (cj k x) v:=by
 grind [vF,mz]
theorem aL.flat:∀{k:K} {x:k.T} {vs:List Value},k.flat=true→aL Z w k x vs→aL Z' w' k x vs
 |.int _,_,_,_,h=>h
 |.bool,_,_,_,h=>h
 |.str,_,_,_,h=>h
 |.sl k,_,_,hf,_=>by simp[K.flat]at hf
 |.pair a b,x,_,hf,h=>by simp only[K.flat,Bool.and_eq_true]at hf;simp only[aL]at h ⊢;obtain⟨us,ws,rfl,h1,h2⟩:=h;exact⟨us,ws,rfl,aL.flat hf.1 h1,aL.flat hf.2 h2⟩
 |.one k,x,_,hf,h=>by simp only[aL]at h ⊢;exact aL.flat (k:=k) (by simpa only[K.flat] using hf) h
theorem Bw:∀(k:K) (x y:k.T),k.flat=true→(tc k x y=true↔x=y)
 |.int _,x,y,_=>by simp only[tc];exact beq_iff_eq (α:=Int)
 |.bool,x,y,_=>by simp only[tc];exact beq_iff_eq (α:=Bool)
 |.str,x,y,_=>by simp only[tc];exact MapKept.bytes_beq x y
 |.sl _,_,_,hf=>by simp[K.flat]at hf
 |.mp _ _,_,_,hf=>by simp[K.flat]at hf
 |.fn _,_,_,hf=>by simp[K.flat]at hf
 |.pair a b,x,y,hf=>by simp only[K.flat,Bool.and_eq_true]at hf;simp only[tc,Bool.and_eq_true];rw[Bw a _ _ hf.1,Bw b _ _ hf.2];exact⟨fun h=>Prod.ext h.1 h.2,fun h=>⟨congrArg Prod.fst h,congrArg Prod.snd h⟩⟩
 |.one k,x,y,hf=>by simp only[tc];exact Bw k x y (by simpa only[K.flat] using hf)
theorem qh:∀{k:K} {x:k.T} {us vs:List Value},k.flat=true→aL Z w k x us→aL Z' w' k x vs→us=vs
 |.int _,_,_,_,_,h1,h2=>by simp only[aL]at h1 h2;rw[h1,h2]
 |.bool,_,_,_,_,h1,h2=>by simp only[aL]at h1 h2;rw[h1,h2]
 |.str,_,_,_,_,h1,h2=>by simp only[aL]at h1 h2;rw[h1,h2]
 |.sl _,_,_,_,hf,_,_=>by simp[K.flat]at hf
 |.mp _ _,_,_,_,hf,_,_=>by simp[K.flat]at hf
 |.fn _,_,_,_,hf,_,_=>by simp[K.flat]at hf
 |.pair a b,x,_,_,hf,h1,h2=>by simp only[K.flat,Bool.and_eq_true]at hf;simp only[aL]at h1 h2;obtain⟨a1,a2,rfl,h3,h4⟩:=h1;obtain⟨b1,b2,rfl,h5,h6⟩:=h2;rw[qh hf.1 h3 h5,qh hf.2 h4 h6]
 |.one k,x,_,_,hf,h1,h2=>by simp only[aL]at h1 h2;exact qh (k:=k) (by simpa only[K.flat] using hf) h1 h2
theorem tE:∀{k:K} {x:k.T} {us:List Value},k.flat=true→aL Z w k x us→∀u∈us,∀n,Instr.sameBits n u u=true
 |.int _,x,_,_,h1,u,hu,n=>by simp only[aL]at h1;subst h1;simp only[List.mem_singleton]at hu;subst hu;cases n<;>simp[Instr.sameBits]<;>exact beq_self_eq_true (α:=Int) x
 |.bool,x,_,_,h1,u,hu,n=>by simp only[aL]at h1;subst h1;simp only[List.mem_singleton]at hu;subst hu;cases n<;>simp[Instr.sameBits]<;>exact beq_self_eq_true (α:=Bool) x
 |.str,x,_,_,h1,u,hu,n=>by simp only[aL]at h1;subst h1;simp only[List.mem_singleton]at hu;subst hu;cases n<;>simp[Instr.sameBits]<;>exact(MapKept.bytes_beq x x).2 rfl
 |.sl _,_,_,hf,_,_,_,_=>by simp[K.flat]at hf
 |.mp _ _,_,_,hf,_,_,_,_=>by simp[K.flat]at hf
 |.fn _,_,_,hf,_,_,_,_=>by simp[K.flat]at hf
 |.pair a b,x,_,hf,h1,u,hu,n=>by
  simp only[K.flat,Bool.and_eq_true]at hf;simp only[aL]at h1;obtain⟨a1,a2,rfl,h3,h4⟩:=h1;rcases acS.1 hu with hu|hu
  ·exact tE hf.1 h3 u hu n
  ·exact tE hf.2 h4 u hu n
 |.one k,x,_,hf,h1,u,hu,n=>by simp only[aL]at h1;exact tE (k:=k) (by simpa only[K.flat] using hf) h1 u hu n
def Mc(b:Bool)(v:Value):Prop:=(b=true→∃vs,v=.agg vs)∧(b=false→v.cells=#[v])
theorem Qp{b:Bool}{u v:Value}(h1:Mc b u)(h2:Mc b v)(h:u.cells.toList=v.cells.toList):u=v:=by
 cases b with
 |true =>obtain⟨a,rfl⟩:=h1.1 rfl;obtain⟨c,rfl⟩:=h2.1 rfl;simp_all [Value.cells]
 |false =>rw[h1.2 rfl,h2.2 rfl]at h;simpa using h
theorem SY{k:K}{x:k.T}{u:Value}(hf:k.flat=true)(hr:aL Z w k x u.cells.toList)(hs:Mc k.isAgg u):Instr.sameBits 10000 u u=true:=by
 have hb:=tE hf hr
 cases hk:k.isAgg with
 |false=>exact hb u (by rw[hs.2 hk];simp) _
 |true =>obtain⟨a,rfl⟩:=hs.1 hk;show Instr.sameBits (9999+1) (.agg a) (.agg a)=true;simp only[Instr.sameBits,beq_self_eq_true,Bool.true_and,List.all_eq_true];intro p hp;obtain⟨i,hi,he⟩:=List.mem_iff_getElem.1 hp;simp only[List.getElem_zip]at he;subst he;exact hb _ (acv (l:=(Value.agg a).cells.toList) (by simpa[Value.cells] using hi)) _
def Keys(Z:Nat→Prop)(w:World)(k:K)(ys:List k.T)(l:List MapEntry):Prop:=ys.length=l.length∧∀(i:Nat) y e,ys[i]? = some y→l[i]? = some e→aL Z w k y e.key.cells.toList∧Mc k.isAgg e.key
theorem Keys.tail{k:K}{y:k.T}{ys:List k.T}{e:MapEntry}{l:List MapEntry}(h:Keys Z w k (y::ys) (e::l)):Keys Z w k ys l:=⟨by simpa using h.1,fun i a b h1 h2=>h.2 (i+1) a b (by simpa using h1) (by simpa using h2)⟩
theorem JU{k:K}{x:k.T}{d:TypeDesc}{kv:Value}(hs:∀y Xu,aL Z w k y Xu.cells.toList→Mc k.isAgg Xu→Instr.sameNow d kv Xu=some (tc k x y)):∀(l:List MapEntry) (ys:List k.T) (i:Nat),Keys Z w k ys l → Instr.findNow d kv l i=some ((ys.findIdx? (tc k x)).map fun j=>(i+j,((l[j]?).map (·.val)).getD undef))
 |[],ys,i,h=>by have:ys=[]:=ack (by simpa using h.1);subst this;rfl
 |e::l,[],i,h=>by have:=h.1;simp at this
 |e::l,y::ys,i,h=>by
  obtain⟨h1,h2⟩:=h.2 0 y e rfl rfl;have ih:=JU hs l ys (i+1) h.tail;simp only[Instr.findNow,hs y _ h1 h2,List.findIdx?_cons]
  cases tc k x y with
  |true=>simp
  |false =>
   simp only[ih,Bool.false_eq_true,if_false]
   cases ys.findIdx? (tc k x) with
   |none=>rfl
   |some j=>simp;omega
theorem Ak{k:K}{x:k.T}{t:TypeId}{kv:Value}(hs:∀y Xu,aL Z w k y Xu.cells.toList→Mc k.isAgg Xu→(Op.equal t kv Xu).run P w=.ok (tc k x y) w):∀(l:List MapEntry) (ys:List k.T) (i:Nat),Keys Z w k ys l →(Instr.findAsking t kv l i).run P w=.ok ((ys.findIdx? (tc k x)).map fun j=>(i+j,((l[j]?).map (·.val)).getD undef)) w
 |[],ys,i,h=>by have:ys=[]:=ack (by simpa using h.1);subst this;rfl
 |e::l,[],i,h=>by have:=h.1;simp at this
 |e::l,y::ys,i,h=>by
  obtain⟨h1,h2⟩:=h.2 0 y e rfl rfl;have ih:=Ak hs l ys (i+1) h.tail;simp only[Instr.findAsking,Sem.run_bind,hs y _ h1 h2,Result.andThen_ok,List.findIdx?_cons]
  cases tc k x y with
  |true=>simp
  |false =>
   simp only[ih,Bool.false_eq_true,if_false]
   cases ys.findIdx? (tc k x) with
   |none=>rfl
   |some j=>simp;omega
structure SZ(P:Program)(t:TypeId)(k:K):Prop where
 flat:k.flat=true
 check:∀(Z:Nat→Prop) (w:World) (x:k.T) (kv:Value) (e:Bool),aL Z w k x kv.cells.toList→Mc k.isAgg kv→(Instr.checkKey e 10000 t kv).run P w=.ok () w
 find:∀(Z:Nat→Prop) (w:World) (x:k.T) (kv:Value) (l:List MapEntry) (ys:List k.T),aL Z w k x kv.cells.toList→Mc k.isAgg kv→Keys Z w k ys l →
  (Instr.findKey t kv l).run P w=.ok ((ys.findIdx? (tc k x)).map fun j=>(j,((l[j]?).map (·.val)).getD undef)) w
theorem qi{t:TypeId}{k:K}{d:TypeDesc}(hf:k.flat=true)(hk:k.isAgg=false)(hd:P.underlying t=some d)(hc:∀(Z:Nat→Prop) (w:World) (x:k.T) (kv:Value),aL Z w k x [kv]→MapKept.IsKey d kv) (hs:∀(Z:Nat→Prop) (w:World) (x y:k.T) (u v:Value),aL Z w k x [u]→aL Z w k y [v]→Instr.sameNow d u v=some (tc k x y)):SZ P t k:=by
 have one:∀{Z:Nat→Prop} {w:World} {x:k.T} {kv:Value},aL Z w k x kv.cells.toList→Mc k.isAgg kv→aL Z w k x [kv]:=fun {Z w x kv} h1 h2=>by rw[h2.2 hk]at h1;exact h1
 refine⟨hf,fun Z w x kv e h1 h2=>MapKept.run_checkKey hd (hc Z w x kv (one h1 h2)) e 9999,fun Z w x kv l ys h1 h2 h3=>?_⟩;have:=JU (Z:=Z) (w:=w) (x:=x) (d:=d) (kv:=kv) (fun y Xu h4 h5=>hs Z w x y kv Xu (one h1 h2) (one h4 h5)) l ys 0 h3;simp_all [Nat.zero_add,MapKept.run_findKey]
theorem JV(d:TypeDesc)(a:Array Value)(v:Value):Instr.sameNow d (.agg a) v=none:=by cases d<;>cases v<;>rfl
theorem yF{Eqs:TypeId→Option K}(EZ:∀t k,Eqs t=some k→mA P t k){t:TypeId}{k:K}(hk:N5 P Eqs t k=true):SZ P t k:=by
 unfold N5 at hk;rw[Bool.and_eq_true]at hk;obtain⟨hf,hk⟩:=hk
 split at hk
 ·rename_i ik ik' hd;simp only[decide_eq_true_eq]at hk;subst hk;exact qi hf rfl hd (fun Z w x kv hr=>by grind [aL,MapKept.IsKey]) (fun Z w x y u v h1 h2=>by grind [aL,Instr.sameNow,tc])
 ·rename_i hd;exact qi hf rfl hd (fun Z w x kv hr=>by grind [aL,MapKept.IsKey]) (fun Z w x y u v h1 h2=>by grind [aL,Instr.sameNow,tc])
 ·rename_i hd;exact qi hf rfl hd (fun Z w x kv hr=>by grind [aL,MapKept.IsKey]) (fun Z w x y u v h1 h2=>by grind [aL,Instr.sameNow,tc])
 ·simp only[Bool.and_eq_true,decide_eq_true_eq]at hk;obtain⟨hag,hk⟩:=hk;have fact:=EZ _ _ hk;have agg:∀{b:Bool} {u:Value},b=true→Mc b u→∃a,u=.agg a:=fun hb h=>h.1 hb;refine⟨hf,fun Z w x kv e h1 h2=>?_,fun Z w x kv l ys h1 h2 h3=>?_⟩
  ·obtain⟨a,rfl⟩:=agg hag h2;exact(fact Z w x x a a h1 h1).2.2 e
  ·obtain⟨a,rfl⟩:=agg hag h2;have h4:=Ak (P:=P) (t:=t) (Z:=Z) (w:=w) (x:=x) (kv:=.agg a) (fun y Xu h4 h5=>by obtain⟨b,rfl⟩:=agg hag h5;exact(fact Z w x y a b h1 h4).1) l ys 0 h3;simp only[Nat.zero_add]at h4
   cases l with
   |nil =>
    have:ys=[]:=ack (by simpa using h3.1);subst this
    cases hu:P.underlying t with
    |none =>have hc:=(fact Z w x x a a h1 h1).2.2 true;exfalso;unfold Instr.checkKey at hc;simp[underlying,hu]at hc
    |some d=>simp[Instr.findKey,run_underlying hu,Instr.findNow]
   |cons e l =>
    cases hu:P.underlying t with
    |none =>have hc:=(fact Z w x x a a h1 h1).2.2 true;exfalso;unfold Instr.checkKey at hc;simp[underlying,hu]at hc
    |some d=>simp_all [Instr.findKey,Sem.run_bind,run_underlying,Result.andThen_ok,Instr.findNow,JV]
section
variable {kk vk:K} {es:List (kk.T×vk.T)} {l:List MapEntry}
abbrev kS(Z:Nat→Prop)(w:World)(kk vk:K)(es:List (kk.T×vk.T))(l:List MapEntry):Prop:=HO (aL Z w kk) (aL Z w vk) kk.isAgg vk.isAgg es l
theorem kS.keys(h:kS Z w kk vk es l):Keys Z w kk (es.map (·.1)) l :=⟨by rw[List.length_map];exact h.1,fun i y e h1 h2=>by rw[List.getElem?_map]at h1;obtain⟨x,h3,rfl⟩:=ac1.1 h1;exact(h.2 i x e h3 h2).1⟩
theorem Ct{x:kk.T}:(es.map (·.1)).findIdx? (tc kk x)=rN kk x es:=by unfold rN;rw[List.findIdx?_map];rfl
theorem HS{x:kk.T}{i:Nat}(h:rN kk x es=some i):i<es.length:=by
 grind [rN,List.findIdx?_eq_some_iff_getElem]
theorem X1{x:kk.T}{i:Nat}(h:rN kk x es=some i):∃e,es[i]? = some e∧tc kk x e.1=true:=by
 grind [rN,List.findIdx?_eq_some_iff_getElem,List.getElem?_eq_getElem]
def S4(Z:Nat→Prop)(w:World)(kk vk:K)(x:kk.T×vk.T)(e:MapEntry):Prop:=(aL Z w kk x.1 e.key.cells.toList∧Mc kk.isAgg e.key)∧aL Z w vk x.2 e.val.cells.toList∧Mc vk.isAgg e.val
theorem kS.set(h:kS Z w kk vk es l)(i:Nat){x:kk.T×vk.T}{f:MapEntry→MapEntry}(ho:∀e,l[i]? = some e→S4 Z w kk vk x (f e)):kS Z w kk vk (es.set i x) (l.modify i f):=by
 refine⟨by simp[h.1],fun j y e h1 h2=>?_⟩;rw[List.getElem?_modify]at h2;obtain⟨e0,h3,h4⟩:=ac1.1 h2;by_cases E9:i=j
 ·subst E9;rw[if_pos rfl]at h4;have aH:i<es.length:=by grind
  rw[List.getElem?_set_self aH]at h1
  cases h1
  subst h4;exact ho e0 h3
 ·rw[if_neg E9]at h4;rw[List.getElem?_set_ne E9]at h1;subst h4;exact h.2 j y e0 h1 h3
theorem kS.push(h:kS Z w kk vk es l){x:kk.T×vk.T}{e:MapEntry}(ho:S4 Z w kk vk x e):kS Z w kk vk (es++[x]) (l++[e]):=by
 refine⟨by simp[h.1],fun j y e' h1 h2=>?_⟩;by_cases hj:j<es.length
 ·rw[List.getElem?_append_left hj]at h1;rw[List.getElem?_append_left (by rw[←h.1];exact hj)]at h2;exact h.2 j y e' h1 h2
 ·rw[List.getElem?_append_right (by omega)]at h1;rw[List.getElem?_append_right (by have:=h.1;omega),←h.1]at h2;by_cases h0:j-es.length=0
  ·rw[h0]at h1 h2;cases h1;cases h2;exact ho
  simp_all
theorem kS.erase(h:kS Z w kk vk es l)(i:Nat):kS Z w kk vk (es.eraseIdx i) (l.eraseIdx i):=by
 refine⟨by rw[List.length_eraseIdx,List.length_eraseIdx,h.1],fun j y e h1 h2=>?_⟩;rw[List.getElem?_eraseIdx]at h1 h2
 split at h1
 ·rename_i hj;rw[if_pos hj]at h2;exact h.2 j y e h1 h2
 ·rename_i hj;rw[if_neg hj]at h2;exact h.2 (j+1) y e h1 h2
theorem kS.mono(h:kS Z w kk vk es l)(hz:∀b,Z b→Z' b)(hs:cw Z w w'):kS Z' w' kk vk es l:=HO.imp (fun _ _ h=>h.mono hz hs) (fun _ _ h=>h.mono hz hs) h
end
theorem vG{Eqs:TypeId→Option K}{t:TypeId}{kk vk:K}(h:mapOf P Eqs t=some (kk,vk)):∃a b,P.underlying t=some (.map a b)∧N5 P Eqs a kk=true∧JD P b vk=true:=by
 unfold mapOf at h
 grind
theorem Cu{b:TypeId}{vk:K}(h:JD P b vk=true):∃z,(zeroValue b).run P w=.ok z w∧aL Z w vk (mo vk) z.cells.toList∧Mc vk.isAgg z:=by
 unfold JD at h
 split at h
 ·rename_i i hi
  split at h
  ·rename_i z hz;refine⟨z,sd hi hz,?_⟩;unfold SD at h
   split at h
   ·simp only[decide_eq_true_eq]at h;obtain⟨rfl,rfl⟩:=h;exact⟨by rfl,fun h=>(by cases h),fun _=>rfl⟩
   ·rename_i b;simp only[Bool.not_eq_true']at h;subst h;exact⟨by rfl,fun h=>(by cases h),fun _=>rfl⟩
   ·simp only[decide_eq_true_eq]at h;subst h;exact⟨by rfl,fun h=>(by cases h),fun _=>rfl⟩
   ·simp only[decide_eq_true_eq]at h;obtain⟨rfl,rfl,rfl⟩:=h;exact⟨by simp only[aL];exact⟨_,rfl,none,0,rfl,acW _,fun _=>rfl,fun i x hx=>by simp[mo]at hx⟩,fun h=>(by cases h),fun _=>rfl⟩
   ·cases h
  ·cases h
 ·cases h
theorem Oa{hh:Heap}(g:Good Z ψ h w B0 O)(bz:∀id o,hh.get id=some o→h id=some o){m:AV}{u:Value}{kk vk:K}{es:List (kk.T×vk.T)}(hm:aC Z ψ h w m u)(hv:cX hh m=.mp kk vk es) :
  ∃A,u=.map A∧((A=none∧es=[])∨∃r b8 clock,A=some r∧w.heap[r]? = some (.map b8 clock)∧kS Z w kk vk es b8.toList):=by
 cases m with
 |mp N3 XP S5 =>
  simp only[cX]at hv
  cases hv
  simp only[aC,aL]at hm
  grind
 |bL id =>
  simp only[cX]at hv
  split at hv
  ·cases hv
  ·rename_i N3 XP S5 hg
   cases hv
   have ym:=bz _ _ hg;simp only[aC]at hm;have:=hm.2 (by rw[ym];simp);subst this;obtain⟨r,b8,clock,h1,h2,h3,_⟩:=g.row id (.map kk vk) es ym;simp_all
  ·cases hv
 |_=>grind [cX]
theorem Mz{hh:Heap}(g:Good Z ψ h w B0 O)(bz:∀id o,hh.get id=some o→h id=some o){k:K}(hf:k.flat=true){a:AV}{x:k.T}{v:Value}(hx:gY k hh a=some x)(hr:aC Z ψ h w a v):aL Z w k x v.cells.toList∧Mc k.isAgg v:=by obtain⟨h1,h2,h3⟩:=vF (Z':=fun b=>b<w.heap.size) (g.sub bz) (fun b hb=>g.kg b hb) (fun id b _ h1 h2=>(g.sub bz).bP ⟨id,h1,h2⟩) hx (hr.less (fun _ h=>h) (cw.refl _ _) (fun id bM=>by obtain⟨o,ho⟩:=acb.1 bM;simp_all));exact⟨h1.flat hf,h2,h3⟩
theorem HT{Eqs:TypeId→Option K}(EZ:∀t k,Eqs t=some k→mA P t k){hh:Heap}(g:Good Z ψ h w B0 O)(bz:∀id o,hh.get id=some o→h id=some o){t:TypeId}{m i:AV}{u v:Value}{ok:Bool}{e:bF} (hm:aC Z ψ h w m u) (hi:aC Z ψ h w i v) (he:oK P Eqs hh t m i ok some=some e):∃y V,e=.val y∧(Instr.lookup t u v ok).run P w=.ok V w∧aC Z ψ h w y V:=by
 unfold oK at he
 split at he
 ·rename_i ka va kk vk es hmo hv
  split at he
  ·rename_i hc;obtain⟨rfl,rfl⟩:=hc
   split at he
   ·rename_i x hx
    cases he
    obtain⟨a,b,hu,hk,hz⟩:=vG hmo;have K:=yF EZ hk;obtain⟨Ju,oW⟩:=Mz g bz K.flat hx hi;obtain⟨z,Ai,EY,Qi⟩:=Cu (Z:=Z) (w:=w) hz;have fin:∀(l:List MapEntry),kS Z w kk vk es l→∃V,((∃j,(Instr.findKey a v l).run P w=.ok (some (j,V)) w∧(fz kk x es).isSome=true)∨((Instr.findKey a v l).run P w=.ok none w∧(zeroValue b).run P w=.ok V w∧(fz kk x es).isSome=false)) ∧ aL Z w vk ((fz kk x es).getD (mo vk)) V.cells.toList∧Mc vk.isAgg V:=by
     intro l hE;have hf:=K.find Z w x v l (es.map (·.1)) Ju oW hE.keys;rw[Ct]at hf
     cases Gj:rN kk x es with
     |none =>rw[Gj]at hf;exact⟨z,.inr ⟨hf,Ai,by simp[fz,Gj]⟩,by simpa[fz,Gj] using EY,Qi⟩
     |some j =>
      rw[Gj]at hf;have hj:=HS Gj;have h1:es[j]? = some es[j]:=aby hj;have Qq:j<l.length:=by rw[←hE.1];exact hj
      have h2:l[j]? = some l[j]:=aby Qq;obtain⟨_,h3,h4⟩:=hE.2 j _ _ h1 h2;refine⟨l[j].val,.inl ⟨j,?_,by simp[fz,Gj,h1]⟩,by simpa[fz,Gj,h1] using h3,h4⟩;rw[hf];simp only[Option.map_some,h2,Option.getD_some]
    have out:∀V:Value,aL Z w vk ((fz kk x es).getD (mo vk)) V.cells.toList→Mc vk.isAgg V→aC Z ψ h w (cond ok (AV.n8 [cj vk ((fz kk x es).getD (mo vk)),.bool (fz kk x es).isSome]) (cj vk ((fz kk x es).getD (mo vk)))) (if ok then .tuple #[V,.bool (fz kk x es).isSome] else V):=by
     intro V h1 h2;have h3:aC Z ψ h w (cj vk ((fz kk x es).getD (mo vk))) V:=mz h1 h2.1 h2.2
     cases ok with
     |false=>exact h3
     |true=>simp only[cond_true,if_true,aC,ax];exact⟨_,rfl,V,[.bool (fz kk x es).isSome],by simp,h3,_,[],rfl,rfl,rfl⟩
    obtain⟨A,rfl,hA⟩:=Oa g bz hm hv;rcases hA with⟨rfl,rfl⟩|⟨r,b8,clock,rfl,h3,h4⟩
    ·obtain⟨V,h5,h6,h7⟩:=fin [] ⟨rfl,fun i x e h=>by simp at h⟩;refine⟨_,_,rfl,?_,out V h6 h7⟩;simp only[Instr.lookup,Sem.run_bind,run_underlying hu,Result.andThen_ok,Sem.run_pure,K.check Z w x v _ Ju oW];rcases h5 with⟨j,h8,h9⟩|⟨h8,h9,pY⟩
     ·simp[h8,h9]
     ·simp[h8,h9,pY]
    ·obtain⟨V,h5,h6,h7⟩:=fin b8.toList h4;refine⟨_,_,rfl,?_,out V h6 h7⟩;simp only[Instr.lookup,Sem.run_bind,run_underlying hu,Result.andThen_ok,Sem.run_pure,MapKept.run_getObj_map h3,K.check Z w x v _ Ju oW];rcases h5 with⟨j,h8,h9⟩|⟨h8,h9,pY⟩
     ·simp[h8,h9]
     ·simp[h8,h9,pY]
   ·cases he
  ·cases he
 ·cases he
end Go.Vs
namespace Go.Vs
variable {P:Program} {Z Z':Nat→Prop} {ψ ψ':Nat→Value} {h h':Hp} {w w':World} {B0:Nat} {O:Nat→Prop} {N:Nat→Prop}
theorem yG{r b:Nat}(o:Obj)(bw:r≠b):(w.heap.setIfInBounds r o)[b]? = w.heap[b]? := by simp_all
theorem cP.ai9{r:Nat}(ho:Own ψ h r)(o:Obj):cP ψ h w { w with heap:=w.heap.setIfInBounds r o } :=⟨rfl,rfl,rfl,by simp,fun b _ hb=>yG o (fun e=>hb (e▸ho))⟩
theorem tF{hp:Hp}(g:Good Z ψ hp w B0 O){id:Nat}(bM:hp id≠none){r:Nat}(hr:ob (ψ id)=some r)(aH:r<w.heap.size)(o:Obj){ok:OK}{x:ok.T} (hx:∀w':World,w'.heap=w.heap.setIfInBounds r o→cw Z w w'→jH Z w' ok (ψ id) x) :
  Next Z ψ hp w B0 O N Z ψ (dW hp id (some (.own ok x))) { w with heap:=w.heap.setIfInBounds r o }:=by
 have ho:Own ψ hp r:=⟨id,bM,hr⟩;have kk:=cP.ai9 (w:=w) ho o;refine g.write id bM kk (fun b hb _=>yG o (fun e=>hb (by rw[hr,e]))) _ (fun _ _ he=>by cases he) (fun XQ x' he=>?_)
 cases he
 exact hx _ rfl (kk.same g)
theorem Al{l:List MapEntry}{i:Nat}{f:MapEntry→MapEntry}(hf:∀e,(f e).born=e.born):(l.modify i f).map (·.born)=l.map (·.born):=by
 apply adf
 grind
theorem yH{l:List MapEntry}:l.Pairwise (fun a b=>a.born≠b.born)↔(l.map (·.born)).Pairwise (·≠·):=by grind
theorem wM{Eqs:TypeId→Option K}(EZ:∀t k,Eqs t=some k→mA P t k){hh:Heap}(g:Good Z ψ hh.get w B0 O){t:TypeId}{m i v:AV}{u1 u2 u3:Value}{e:bF} (hm:aC Z ψ hh.get w m u1) (hi:aC Z ψ hh.get w i u2) (hv:aC Z ψ hh.get w v u3) (he:js P Eqs hh t m i v some=some e) :
  ∃hw w' Z',e=.wr (.n8 []) hw∧(Instr.mapUpdate t u1 u2 u3).run P w=.ok () w'∧Next Z ψ hh.get w B0 O N Z' ψ hw.get w':=by
 unfold js at he
 split at he
 ·rename_i ka va id hmo
  split at he
  ·rename_i kk vk es hg
   split at he
   ·rename_i hc;obtain⟨rfl,rfl⟩:=hc
    split at he
    ·rename_i x y hx hy vB
     cases he
     obtain⟨a,b,hu,hk,_⟩:=vG hmo;have K:=yF EZ hk;obtain⟨Ju,oW⟩:=Mz g (fun _ _ h=>h) K.flat hx hi;simp only[aC]at hm;have Xv:=hm.2 (by rw[hg];simp);obtain⟨r,b8,clock,h1,h2,h3,h4,h5⟩:=g.row id (.map kk vk) es hg;rw[h1]at Xv;subst Xv;have bM:AV.bL id∉v.cells:=fun hc=>by have:=ac3.1 vB _ hc;simp at this
     have gd:=ji g v.cells;have hgd:(cO hh v.cells).get id=some (.own (.map kk vk) es):=by rw[qe _ _ _ bM];exact hg
     obtain⟨yI,Bu,hv3⟩:=vF (Z':=rJ Z ψ hh.get v.cells) g (fun b hb=>.inl hb) (fun id b h1 h2 h3=>.inr ⟨id,h1,h2,h3⟩) hy hv;have adB:aL (rJ Z ψ hh.get v.cells) w kk x u2.cells.toList:=Ju.flat K.flat;have aH:=(ab3.1 h2).1;have oz:ob (ψ id)=some r:=by rw[h1];rfl
     have hE:kS (rJ Z ψ hh.get v.cells) w kk vk es b8.toList:=kS.mono h3 (fun b hb=>.inl hb) (cw.refl _ _);have hf:=K.find Z w x u2 b8.toList (es.map (·.1)) Ju oW (kS.keys h3);rw[Ct]at hf;have fin:∀(o:Obj) (S5:List (kk.T×vk.T)) (nF:Array MapEntry) (Cv:Nat),o=.map nF Cv→kS (rJ Z ψ hh.get v.cells) w kk vk S5 nF.toList→(nF.toList.map (·.born)).Pairwise (·≠·)→(∀e∈nF.toList,e.born<Cv) → Next Z ψ hh.get w B0 O N (rJ Z ψ hh.get v.cells) ψ ((cO hh v.cells).set id (.own (.map kk vk) S5)).get { w with heap:=w.heap.setIfInBounds r o }:=by rintro o S5 nF Cv rfl h6 h7 h8;rw[kK];have n:=tF (N:=N) gd (by rw[hgd];simp) oz aH (.map nF Cv) (ok:=.map kk vk) (x:=S5) (fun w' Md sm=>⟨r,nF,Cv,h1,by rw[Md];simp[aH],kS.mono h6 (fun _ h=>h) sm,yH.2 h7,h8⟩);exact n.drop (fun b hb=>.inl hb) (fun b hb=>hb.imp (fun h=>h) (fun⟨i,_,h5,h6⟩=>⟨i,h5,h6⟩)) (dZ _ _)
     cases Gj:rN kk x es with
     |none =>
      rw[Gj]at hf;refine⟨_,{ w with heap:=w.heap.setIfInBounds r (.map (b8.push { key:=u2,val:=u3,born:=clock }) (clock+1)) },rJ Z ψ hh.get v.cells,rfl,?_,?_⟩
      rotate_left
      ·rw[show jF kk x y es=es++[(x,y)] by simp[jF,Gj]];refine fin _ _ (b8.push { key:=u2,val:=u3,born:=clock }) (clock+1) rfl ?_ ?_ ?_
       ·rw[Array.toList_push];exact hE.push ⟨⟨adB,oW⟩,yI,Bu,hv3⟩
       ·rw[Array.toList_push,List.map_append,List.pairwise_append];refine⟨yH.1 h4,by simp,fun a ha b hb=>?_⟩;simp only[List.map_cons,List.map_nil,List.mem_singleton]at hb;obtain⟨e,he,rfl⟩:=acU.1 ha;have:=h5 e he;omega
       ·intro e he;rw[Array.toList_push]at he;rcases acS.1 he with he|he
        ·have:=h5 e he;omega
        ·simp only[List.mem_singleton]at he;subst he;exact Nat.lt_succ_self _
      ·simp only[Instr.mapUpdate,Sem.run_bind,run_underlying hu,Result.andThen_ok,MapKept.run_getObj_map h2,K.check Z w x u2 _ Ju oW,hf,Option.map_none,MapKept.run_setObj_map _ h2]
     |some j =>
      rw[Gj]at hf;have hj:=HS Gj;obtain⟨e0,ZD,heq⟩:=X1 Gj;have Qq:j<b8.toList.length:=by rw[←h3.1];exact hj
      have hl:b8.toList[j]? = some b8.toList[j]:=aby Qq;have So:b8[j]? = some b8.toList[j]:=by rw[←hl];simp
      obtain⟨⟨adC,aja⟩,_⟩:=h3.2 j _ _ ZD hl;have uP:b8.toList[j].key=u2:=by refine Qp aja oW ?_;rw[←(Bw kk x e0.1 K.flat).1 heq]at adC;exact qh K.flat adC Ju
      have ZE:(Instr.keyThatStays u2 u2).run P w=.ok u2 w:=by simp[Instr.keyThatStays,SY K.flat Ju oW]
      refine⟨_,{ w with heap:=w.heap.setIfInBounds r (.map (b8.modify j fun e=>{ e with key:=u2,val:=u3 }) clock) },rJ Z ψ hh.get v.cells,rfl,?_,?_⟩
      rotate_left
      ·rw[show jF kk x y es=es.set j (x,y) by simp[jF,Gj]];refine fin _ _ (b8.modify j fun e=>{ e with key:=u2,val:=u3 }) clock rfl ?_ ?_ ?_
       ·rw[Array.toList_modify];exact hE.set j (fun e he=>⟨⟨adB,oW⟩,yI,Bu,hv3⟩)
       ·rw[Array.toList_modify,Al (f:=fun e:MapEntry=>{ e with key:=u2,val:=u3 }) (fun _=>rfl)];exact yH.1 h4
       ·intro e he;have:e.born∈(b8.modify j fun e=>{ e with key:=u2,val:=u3 }).toList.map (·.born):=acU.2 ⟨e,he,rfl⟩;rw[Array.toList_modify,Al (f:=fun e:MapEntry=>{ e with key:=u2,val:=u3 }) (fun _=>rfl)]at this;obtain⟨e',N7,h6⟩:=acU.1 this;rw[←h6];exact h5 e' N7
      ·simp only[Instr.mapUpdate,Sem.run_bind,run_underlying hu,Result.andThen_ok,MapKept.run_getObj_map h2,K.check Z w x u2 _ Ju oW,hf,Option.map_some,So,Option.getD_some,uP,ZE,MapKept.run_setObj_map _ h2]
    ·cases he
   ·cases he
  ·cases he
 ·cases he
theorem wN{Eqs:TypeId→Option K}(EZ:∀t k,Eqs t=some k→mA P t k){hh:Heap}(g:Good Z ψ hh.get w B0 O){t ty:TypeId}{ts:List TypeId}{m i:AV}{u1 u2:Value}{e:bF} (hm:aC Z ψ hh.get w m u1) (hi:aC Z ψ hh.get w i u2) (he:oL P Eqs hh t m i some=some e) :
  ∃hw w',e=.wr (.n8 []) hw∧(Builtin.delete_ (t::ts).toArray ty #[u1,u2]).run P w=.ok (.tuple #[]) w'∧Next Z ψ hh.get w B0 O N Z ψ hw.get w':=by
 unfold oL at he
 split at he
 ·rename_i ka va id hmo
  split at he
  ·rename_i kk vk es hg
   split at he
   ·rename_i hc;obtain⟨rfl,rfl⟩:=hc
    split at he
    ·rename_i x hx
     cases he
     obtain⟨a,b,hu,hk,_⟩:=vG hmo;have K:=yF EZ hk;obtain⟨Ju,oW⟩:=Mz g (fun _ _ h=>h) K.flat hx hi;simp only[aC]at hm;have Xv:=hm.2 (by rw[hg];simp);obtain⟨r,b8,clock,h1,h2,h3,h4,h5⟩:=g.row id (.map kk vk) es hg;rw[h1]at Xv;subst Xv;have aH:=(ab3.1 h2).1;have oz:ob (ψ id)=some r:=by rw[h1];rfl
     have hf:=K.find Z w x u2 b8.toList (es.map (·.1)) Ju oW (kS.keys h3);rw[Ct]at hf;have fin:∀(o:Obj) (S5:List (kk.T×vk.T)) (nF:Array MapEntry),o=.map nF clock→kS Z w kk vk S5 nF.toList→nF.toList.Sublist b8.toList → Next Z ψ hh.get w B0 O N Z ψ (hh.set id (.own (.map kk vk) S5)).get { w with heap:=w.heap.setIfInBounds r o }:=by rintro o S5 nF rfl h6 h7;rw[kK];exact tF (N:=N) g (by rw[hg];simp) oz aH (.map nF clock) (ok:=.map kk vk) (x:=S5) (fun w' Md sm=>⟨r,nF,clock,h1,by rw[Md];simp[aH],kS.mono h6 (fun _ h=>h) sm,h4.sublist h7,fun e he=>h5 e (h7.subset he)⟩)
     cases Gj:rN kk x es with
     |none =>
      rw[Gj]at hf;refine⟨_,{ w with heap:=w.heap.setIfInBounds r (.map b8 clock) },rfl,?_,?_⟩
      rotate_left
      ·rw[show HK kk x es=es by simp[HK,Gj]];exact fin _ _ b8 rfl h3 (List.Sublist.refl _)
      ·simp[Builtin.delete_,run_underlying hu,MapKept.run_getObj_map h2,K.check Z w x u2 _ Ju oW,hf,MapKept.run_setObj_map _ h2]
     |some j =>
      rw[Gj]at hf;have hj:=HS Gj;refine⟨_,{ w with heap:=w.heap.setIfInBounds r (.map (b8.eraseIdxIfInBounds j) clock) },rfl,?_,?_⟩
      rotate_left
      ·rw[show HK kk x es=es.eraseIdx j by simp[HK,Gj]];refine fin _ _ (b8.eraseIdxIfInBounds j) rfl ?_ ?_
       ·rw[Array.toList_eraseIdxIfInBounds];exact kS.erase h3 j
       ·rw[Array.toList_eraseIdxIfInBounds];exact List.eraseIdx_sublist _ _
      ·simp[Builtin.delete_,run_underlying hu,MapKept.run_getObj_map h2,K.check Z w x u2 _ Ju oW,hf,MapKept.run_setObj_map _ h2]
    ·cases he
   ·cases he
  ·cases he
 ·cases he
theorem MA{hh:Heap}(g:Good Z ψ h w B0 O)(bz:∀id o,hh.get id=some o→h id=some o){t ty:TypeId}{x:AV}{u:Value}{e:bF}(ht:Mm P t=true)(hx:aC Z ψ h w x u)(he:yw hh x some=some e) :
  ∃n:Nat,e=.val (.int .i64 (n:Int))∧(Builtin.len_ #[t] ty #[u]).run P w=.ok (.int .i64 (n:Int)) w:=by
 unfold yw at he
 split at he
 ·rename_i kk vk es hv
  cases he
  have hu:∃a b,P.underlying t=some (.map a b):=by
   grind [Mm]
  obtain⟨a,b,hu⟩:=hu;obtain⟨A,rfl,hA⟩:=Oa g bz hx hv;rcases hA with⟨rfl,rfl⟩|⟨r,b8,clock,rfl,h3,h4⟩
  ·exact⟨0,rfl,by simp[Builtin.len_,run_underlying hu,goInt]⟩
  ·refine⟨es.length,rfl,?_⟩;have:b8.size=es.length:=by rw[h4.1];simp
   simp[Builtin.len_,run_underlying hu,MapKept.run_getObj_map h3,goInt,this]
 ·cases he
theorem Cw(g:Good Z ψ h w B0 O)(hB:B0≤w.heap.size)(id:Nat)(hN:N id){ok:OK}{x:ok.T}{v:Value}(o:Obj)(ho:jH Z (w.alloc o) ok v x)(hb:ob v=some w.heap.size) (bu:∀i ty cs,h i=some (.box ty cs)→aD (fun i=>i≠id) cs):Next Z ψ h w B0 O N Z (dW ψ id v) (dW h id (some (.own ok x))) (w.alloc o) :=JK g hB id hN (cP.alloc _ _ _ _) (fun b hb=>heap_alloc_old w _ (g.bP hb)) ho (fun b Bx=>by simp_all) bu
theorem Fa{Eqs:TypeId→Option K}(g:Good Z ψ h w B0 O)(hB:B0≤w.heap.size){id:Nat}(hN:N id){t:TypeId}{e:bF}(bu:∀i ty cs,h i=some (.box ty cs)→aD (fun i=>i≠id) cs)(he:l8 P Eqs id t some=some e) :
  ∃v w' ψ',(Instr.makeMap t none).run P w=.ok v w'∧Next Z ψ h w B0 O N Z ψ' (e.hp h) w'∧aC Z ψ' (e.hp h) w' e.v v:=by
 unfold l8 at he
 split at he
 ·rename_i kk vk hmo
  cases he
  refine⟨.map (some w.heap.size),w.alloc (.map #[] 0),dW ψ id (.map (some w.heap.size)),rfl,?_,?_⟩
  ·simp only[bF.hp];rw[gH];exact Cw g hB id hN (ok:=.map kk vk) (x:=[]) _ ⟨w.heap.size,#[],0,rfl,heap_alloc_new _ _,⟨rfl,fun i x e h=>by simp at h⟩,by simp,by simp⟩ rfl bu
  ·simp only[bF.v,bF.hp,aC];exact⟨⟨rfl,rfl⟩,fun _=>(bp _ _ _).symm⟩
 ·cases he
theorem HU(g:Good Z ψ h w B0 O)(hB:B0≤w.heap.size){id:Nat}(hN:N id){t:TypeId}{x:AV}{u:Value}{e:bF}(hx:aC Z ψ h w x u)(bu:∀i ty cs,h i=some (.box ty cs)→aD (fun i=>i≠id) cs)(he:oM P id t x some=some e) :
  ∃v w' ψ',(Instr.range t u).run P w=.ok v w'∧Next Z ψ h w B0 O N Z ψ' (e.hp h) w'∧aC Z ψ' (e.hp h) w' e.v v:=by
 unfold oM at he
 split at he
 ·rename_i sv hu
  cases he
  simp only[aC]at hx;subst hx;refine⟨.pointer (some ⟨w.heap.size,0,none⟩),w.alloc (.stringIter sv 0),dW ψ id (.pointer (some ⟨w.heap.size,0,none⟩)),?_,?_,?_⟩
  ·simp_all [Instr.range,Sem.run_bind,run_underlying,Result.andThen_ok,Sem.run_pure]
  ·simp only[bF.hp];rw[gH];exact Cw g hB id hN (ok:=.oH) (x:=(sv,0)) _ ⟨w.heap.size,rfl,heap_alloc_new _ _⟩ rfl bu
  ·simp only[bF.v,bF.hp,aC];exact⟨⟨rfl,rfl⟩,fun _=>(bp _ _ _).symm⟩
 ·cases he
theorem gI{r:Nat}{o:Obj}(hb:w.heap[r]? = some o)(hc:∀c e f,o≠.cells c e f):(getObj r).run P w=.ok o w:=by cases o<;>first|(exact absurd rfl (hc _ _ _))|simp[getObj,Sem.run,hb]
theorem Cx{r:Nat}{o o':Obj}(hb:w.heap[r]? = some o)(hc:∀c e f,o≠.cells c e f):(setObj r o').run P w=.ok () { w with heap:=w.heap.setIfInBounds r o' }:=by cases o<;>first|(exact absurd rfl (hc _ _ _))|simp[setObj,Sem.run,hb]
theorem JW{hh:Heap}(g:Good Z ψ h w B0 O)(bz:∀id o,hh.get id=some o→h id=some o){ty:TypeId}{x:AV}{u:Value}{e:bF}(hx:aC Z ψ h w x u)(nq:∀v hw,e=.wr v hw→hh.get=h)(he:tg hh x some=some e) :
  ∃v w',(Instr.next u true ty).run P w=.ok v w'∧Next Z ψ h w B0 O N Z ψ (e.hp h) w'∧aC Z ψ (e.hp h) w' e.v v:=by
 unfold tg at he
 split at he
 ·rename_i id
  split at he
  ·rename_i x hg;have ym:=bz _ _ hg;simp only[aC]at hx;have hu:=hx.2 (by rw[ym];simp);obtain⟨r,h1,h2⟩:=g.row id .oH x ym;rw[h1]at hu;subst hu
   cases hc:decide (x.2<x.1.size) with
   |true =>
    rw[hc]at he;cases he;have heq:=nq _ _ rfl;simp only[decide_eq_true_eq]at hc;have aH:=(ab3.1 h2).1;refine⟨.tuple #[.bool true,goInt x.2,.int .i32 (Utf8.decode x.1 x.2).1],{ w with heap:=w.heap.setIfInBounds r (.stringIter x.1 (x.2+(Utf8.decode x.1 x.2).2)) },?_,?_,?_⟩
    ·simp only[Instr.next,Sem.run_bind,gI h2 (by simp),Result.andThen_ok,hc,if_true,Cx h2 (by simp),Sem.run_pure]
    ·simp only[bF.hp];rw[kK,heq];exact tF (N:=N) g (by rw[ym];simp) (by rw[h1];rfl) aH _ (ok:=.oH) (x:=(x.1,x.2+B4 x.1 x.2)) (fun w' Md _=>⟨r,h1,by rw[Md];simp[aH,B4]⟩)
    ·simp only[bF.v,aC,ax];exact⟨_,rfl,_,_,rfl,rfl,_,_,rfl,rfl,_,_,rfl,rfl,rfl⟩
   |false =>
    rw[hc]at he;cases he;simp only[decide_eq_false_iff_not]at hc;refine⟨.tuple #[.bool false],w,?_,Next.refl g,?_⟩
    ·simp only[Instr.next,Sem.run_bind,gI h2 (by simp),Result.andThen_ok,hc,if_false,Sem.run_pure]
    ·simp only[bF.v,aC,ax];exact⟨_,rfl,_,_,rfl,rfl,rfl⟩
  ·cases he
 ·cases he
theorem find_born{l:List MapEntry}(h:l.Pairwise (fun a b=>a.born≠b.born)){e:MapEntry}(he:e∈l):l.find? (fun x=>x.born==e.born)=some e:=by
 induction l with
 |nil=>cases he
 |cons a r ih =>
  obtain⟨h1,h2⟩:=List.pairwise_cons.1 h
  grind
theorem JX{hh:Heap}(g:Good Z ψ h w B0 O)(bz:∀id o,hh.get id=some o→h id=some o){x:AV}{u:Value}{e:bF}(hx:aC Z ψ h w x u)(he:ti hh x some=some e) :
  ∃y v,e=.val y∧(Instr.entry u).run P w=.ok v w∧aC Z ψ h w y v:=by
 unfold ti at he
 split at he
 ·rename_i id
  split at he
  ·rename_i kk vk c rest hg
   cases he
   have ym:=bz _ _ hg;simp only[aC]at hx;have hu:=hx.2 (by rw[ym];simp);obtain⟨r,m,since,seen,b8,clock,h1,h2,h3,h4,h5,h6,h7,h8,h9⟩:=g.row id (.iter kk vk) (some c,rest) ym;rw[h1]at hu;subst hu;obtain⟨en,pY,E6,S6⟩:=h9;obtain⟨⟨k1,k2,k3⟩,v1,v2,v3⟩:=S6.2 0 c en rfl rfl;refine⟨_,.tuple #[en.key,en.val],rfl,?_,?_⟩
   ·have hf:b8.find? (·.born==en.born)=some en:=by have:=find_born h5 pY;simp_all
    simp only[Instr.entry,Sem.run_bind,gI h2 (by simp),Result.andThen_ok,E6,Sem.run_pure,gI h4 (by simp),hf];simp
   ·simp only[aC,ax];exact⟨_,rfl,_,_,rfl,mz k1 k2 k3,_,_,rfl,mz v1 v2 v3,rfl⟩
  ·cases he
 ·cases he
theorem ir(w:World)(dT sT ty elem:TypeId)(sz g o abe ajb:Nat)(a:Addr)(abf ajc:Nat)(cur:Array Value)(t:TypeId)(cs:List Value) (hu:P.underlying dT=some (.slice elem)) (hs:(P.info? elem).map (·.size)=some sz) (hg:w.heap[g]? = some (.cells cur t (0,0))) (hn:cs.length=Nat.min abf abe*sz) (yD:∀(j:Nat) v,cs[j]? = some v→w.cell? (a.add j)=some v) (Qr:o+cs.length≤cur.size) (h1:∀v∈cs,v.oneCell'=true) :
  (Builtin.copy_ #[dT,sT] ty #[.slice (some ⟨g,o,none⟩) abe ajb,.slice (some a) abf ajc]).run P w = .ok (goInt (Nat.min abf abe)) (w.setRow g (cur.toList.take o++cs++cur.toList.drop (o+cs.length)).toArray):=by
 have hl:=run_loadCells_list (P:=P) w a cs yD;have Ae:=run_storeCells_at P g o t cs 0 cur w hg (by simpa using Qr) h1
 cases hq:P.info? elem with
 |none=>simp[hq]at hs
 |some i =>
  have hi:i.size=sz:=by simpa[hq] using hs
  simp only[Nat.add_zero]at Ae;simp[Builtin.copy_,run_underlying hu,Builtin.lenOf,Builtin.firstCells,sizeOf,typeInfo,hq,hi,←hn,hl,Ae]
theorem Gk{e:TypeId}(h:Qc P e=true):P.underlying e=some (.int .u8):=by
 unfold Qc at h
 split at h
 ·assumption
 ·cases h
theorem X2{ns:List Int}{vs:List Value}(h:kR Z w (.int .u8) ns vs)(hl:vs.length=ns.length):vs=ns.map (Value.int .u8):=by
 apply adf;intro i;by_cases hi:i<ns.length
 ·have h1:=h i ns[i] (aby hi);have h1:(vs.drop (i*1)).take 1=[Value.int .u8 ns[i]]:=h1;have h2:=congrArg (·[0]?) h1;simp only[Nat.mul_one,List.getElem?_take,List.getElem?_drop,Nat.add_zero,Nat.zero_lt_one,if_true]at h2;rw[h2,List.getElem?_map,List.getElem?_eq_getElem hi];rfl
 ·rw[List.getElem?_eq_none (by omega),List.getElem?_eq_none (by simp;omega)]
theorem X3(ns:List Int):kR Z w (.int .u8) ns (ns.map (Value.int .u8)):=fun i x hx=>by
 show((ns.map (Value.int .u8)).drop (i*1)).take 1=[Value.int .u8 x];obtain⟨hi,rfl⟩:=abJ.1 hx;have:i<(ns.map (Value.int .u8)).length:=by rw[List.length_map];exact hi
 rw[Nat.mul_one,List.drop_eq_getElem_cons this];simp;rfl
theorem X4{hh:Heap}(g:Good Z ψ h w B0 O)(bz:∀id o,hh.get id=some o→h id=some o){src dst e:TypeId}(hs:P.underlying src=some (.slice e))(he:Qc P e=true)(hd:P.underlying dst=some .string) {x:AV} {u:Value} {ns:List Int} (hx:rowOf hh x (.int .u8)=some ns) (hr:aC Z ψ h w x u):(convert src dst u).run P w=.ok (.string (strOf ns)) w:=by
 obtain⟨news,⟨h1,_,hu⟩,hv⟩:=wJ (g.sub bz) hx (hr.og bz);have N7:=Gk he;have h1:news.length=ns.length*1:=h1;rw[Nat.mul_one]at h1;have hn:=X2 hv h1;rcases hu with⟨rfl,h0⟩|⟨a,c,rfl,h2⟩
 ·have:ns=[]:=ack h0;subst this;rw[run_convert_bytes_string w src dst e none 0 0 hs N7 hd];rfl
 ·rw[run_convert_bytes_string w src dst e _ _ _ hs N7 hd];refine run_bytesToString w a ns.length c ns ?_;have:=run_loadCells_list (P:=P) w a news h2;rw[h1,hn]at this;exact this
theorem bytesOf_length(s:ByteArray):(bytesOf s).length=s.size:=by unfold bytesOf;rw[List.length_map,Array.length_toList];rfl
theorem Cz(s:ByteArray):Lib.strCells s=(bytesOf s).map (Value.int .u8):=by simp[Lib.strCells,bytesOf,Function.comp_def]
theorem Qs(g:Good Z ψ h w B0 O)(hB:B0≤w.heap.size){src dst e:TypeId}(hs:P.underlying src=some .string)(hd:P.underlying dst=some (.slice e))(he:Qc P e=true)(s:ByteArray) :
  ∃V w' Z',(convert src dst (.string s)).run P w=.ok V w'∧Next Z ψ h w B0 O N Z' ψ h w'∧aC Z' ψ h w' (.sl false (.int .u8) (bytesOf s)) V:=by
 have N7:=Gk he
 let cells:Array Value:=s.data.map (fun b=>Value.int .u8 (b.toNat:Int))++Array.replicate (grownCap w s.size 0 e-s.size) (.int .u8 0)
 let w1:=w.drew.alloc (.cells cells e)
 have hg1:w1.heap[w.heap.size]? = some (.cells cells e (0,0)):=heap_alloc_new w.drew _;have hsh:w1.shape? w.heap.size=some (e,cells.size):=by simp[World.shape?,hg1]
 let w2:=w1.freeze ⟨w.heap.size,cells.size,none⟩ 1
 have de:(convert src dst (.string s)).run P w=.ok (.slice (some ⟨w.heap.size,0,none⟩) s.size (grownCap w s.size 0 e)) w2:=by
  have e1:(newRow e cells).run P w.drew=.ok ⟨w.heap.size,0,none⟩ w1:=by simp[newRow,w1]
  have e2:(markStringish ⟨w.heap.size,0,none⟩).run P w1=.ok () w2:=by simp[markStringish,hsh,w2]
  simp only[convert,Sem.run_bind,run_underlying hs,run_underlying hd,run_underlying N7,Result.andThen_ok,Conv.stringToBytes,run_choose_drew];have e0:(Question.appendCap s.size 0 e).forced=false:=by simp[Question.forced]
  simp only[e0,Bool.false_eq_true,if_false,Result.andThen_ok];show((newRow e cells).run P w.drew).andThen _=_;rw[e1];simp only[Result.andThen_ok,e2];rfl
 have ij:w2.heap.size=w.heap.size+1:=by simp[w2,World.freeze,w1,World.alloc]
 have hold:∀b,b<w.heap.size→w2.heap[b]? = w.heap[b]? := fun b hb=>by
  have h1:w1.heap[b]? = w.heap[b]? := heap_alloc_old w.drew _ hb;have h2:w2.heap[b]? = w1.heap[b]? := by simp only[w2,World.freeze,if_neg (show ¬(1=0) by decide),Array.getElem?_modify];rw[if_neg (by omega)]
  rw[h2,h1]
 have Cq:∃f,w2.heap[w.heap.size]? = some (.cells cells e f):=by simp only[w2,World.freeze,if_neg (show ¬(1=0) by decide),Array.getElem?_modify,if_true,hg1,Option.map_some];exact⟨_,rfl⟩
 have kk:cP ψ h w w2:=⟨rfl,rfl,rfl,by omega,fun b hb _=>hold b hb⟩;have m:Next Z ψ h w B0 O (fun _=>False) Z ψ h w2:=g.more kk (fun b hb=>hold b (g.bP hb)) (fun _ _=>⟨rfl,rfl⟩) (fun i ty cs hb=>by
  have e:(fun _:Nat=>¬False)=fun _=>True:=by funext i;simp
  rw[e];exact aD.top cs) (fun _ _ _ h=>h.elim) (fun _ _ _ h=>h.elim) (fun _ _ h=>h.elim) (fun _ _ _ h=>h.elim) hB
 have hz:∀b,Z b→Z b∨b=w.heap.size:=fun b h=>.inl h;refine⟨_,w2,fun b=>Z b∨b=w.heap.size,de,⟨hz,fun b hb=>hb.imp (fun h=>h) fun h=>.inr (by omega),m.keep,fun i hi=>.inl ((m.ids i hi).resolve_right (fun h=>h)),⟨fun i ty cs hb=>?_,fun i ok x hb=>?_,fun i b h1 h2=>?_,m.dv.apart,fun b hb=>?_⟩⟩,?_⟩
 ·obtain⟨gg,vs,f1,f2,f3,f4⟩:=m.dv.box i ty cs hb;exact⟨gg,vs,f1,f2,ax.less hz (cw.refl _ _) (fun _ h=>⟨h,rfl⟩) f3,f4⟩
 ·exact(m.dv.row i ok x hb).kept hz (cw.refl _ _) (fun _ _=>rfl)
 ·obtain⟨k1,k2⟩:=m.dv.live i b h1 h2;refine⟨fun hb=>hb.elim k1 fun hb=>?_,k2⟩;have:=g.bP ⟨i,h1,h2⟩;omega
 ·rcases hb with hb|hb
  ·exact m.dv.kg b hb
  ·omega
 ·simp only[aC];obtain⟨f,hf⟩:=Cq;have Qt:=grownCap_ge w s.size 0 e;refine⟨⟨_,rfl,some ⟨w.heap.size,0,none⟩,grownCap w s.size 0 e,congrArg (fun n=>Value.slice _ n _) (bytesOf_length s).symm,(show List.length (α:=Int) (bytesOf s)≤_ by rw[bytesOf_length];exact Qt),fun h=>(by cases h),fun i x hx=>?_⟩,fun h=>(by cases h)⟩;refine⟨_,[.int .u8 x],rfl,.inr rfl,rfl,fun j u hu=>?_⟩
  cases j with
  |succ j=>simp at hu
  |zero =>
   simp only[List.getElem?_cons_zero,Option.some.injEq]at hu;subst hu;rw[cF];simp only[World.cell?,hf];have XZ:(bytesOf s)[i]? = some x:=hx;obtain⟨hi,rfl⟩:=abJ.1 XZ;have hi2:i<s.data.size:=by rw[bytesOf_length]at hi;exact hi
   show cells[0+(i*1+0)]? = _;simp only[Nat.zero_add,Nat.mul_one,Nat.add_zero,cells];rw[Array.getElem?_append_left (by simpa using hi2)];simp[bytesOf,Array.getElem?_eq_getElem hi2]
theorem Qu{e:TypeId}(h:aa3 P e=true):∃i,P.info? e=some i∧i.zero=some (.int .u8 0)∧i.size=1∧i.bytes=1:=by
 unfold aa3 at h
 split at h
 ·rename_i i hi;simp only[Bool.and_eq_true,decide_eq_true_eq]at h;obtain⟨⟨h1,h2⟩,h3⟩:=h
  split at h3
  ·rename_i n hz;simp only[decide_eq_true_eq]at h3;subst h3;exact⟨i,hi,hz,h1,h2⟩
  ·cases h3
 ·cases h
theorem Fb{hh:Heap}(g:Good Z ψ h w B0 O)(hB:B0≤w.heap.size)(bz:∀id o,hh.get id=some o→h id=some o){id:Nat}(hN:N id){t t' ty:TypeId}{s:AV}{u:Value}{b:ByteArray}{e:bF} (ht':P.underlying t'=some .string) (hs:aC Z ψ h w s u) (CA:aM (fun i=>¬N i) s) (Jv:∀i ty cs,h i=some (.box ty cs)→aD (fun i=>i≠id) cs) (nq:∀v hw,e=.wr v hw→hh.get=h) (he:l6 P hh id t s b some=some e) :
  ∃V w' ψ',(Builtin.append_ #[t,t'] ty #[u,.string b]).run P w=.ok V w'∧Next Z ψ h w B0 O N Z ψ' (e.hp h) w'∧aC Z ψ' (e.hp h) w' e.v V:=by
 unfold l6 at he
 split at he
 rotate_left
 ·cases he
 rename_i et cH het
 split at he
 rotate_left
 ·cases he
 rename_i hu8;obtain⟨i,hi,hz,ij,hby⟩:=Qu hu8
 split at he
 rotate_left
 ·cases he
 rename_i e' k' xs hg
 split at he
 rotate_left
 ·cases he
 rename_i hc;obtain⟨rfl,rfl⟩:=hc
 cases oV:(!xs.isEmpty&&aK xs.length b.size) with
 |false=>rw[oV]at he;cases he
 |true =>
  rw[oV]at he;cases he;simp only[Bool.and_eq_true,aK,decide_eq_true_eq,Bool.not_eq_true',List.isEmpty_eq_false_iff]at oV;obtain⟨bw,Qr⟩:=oV;have E7:=List.length_pos_iff.2 bw;have heq:=nq _ _ rfl;have ym:=bz _ _ hg;simp only[aC]at hs;have hu:=hs.2 (by rw[ym];simp);subst hu;simp only[aM]at CA;have ht:=fV het;obtain⟨vs,XY,ZC⟩:=g.row cH (.row e' (.int .u8)) xs ym;have hold:h cH≠none:=by rw[ym];simp
  unfold eY at Qr;rcases XY.2 with⟨h0,_⟩|⟨gg,cap,cur,hv,SQ,h4,h5,h6,h7,h8⟩
  ·omega
  have rD:w.ownsRow 0 e' 1 (ψ cH) xs.length vs:=⟨XY.1,.inr ⟨gg,cap,cur,hv,adb _,h4,h5,h6,h7,h8⟩⟩;obtain⟨V,w',de,k1,k2,k3⟩:=Lib.run_append_own_string (P:=P) w 0 t t' ty e' i ht ht' hi hz ij hby _ _ vs rD b (by simp only[maxLen];omega) (by omega) (adb _);have oz:ob (ψ cH)=some gg:=by rw[hv];simp only[ob];rw[if_neg (by omega)]
  have hgr:w.grownBy w' (ob (ψ cH)):=by rw[oz];rw[hv]at k2;exact k2
  have Ju:dL w' e' 1 V (xs.length+b.size) (vs++Lib.strCells b):=dL.of k1;have Cq:ob V=ob (ψ cH)∨∀c,ob V=some c→w.heap.size≤c:=by
   by_cases dE:xs.length+b.size≤cap
   ·have hr:=Lib.run_append_room_string (P:=P) w t t' ty e' i ht ht' hi ij gg xs.length cap cur h4 b dE (by have:cur.size=cap*1:=h7;omega);rw[hv]at de
    cases de.symm.trans hr
    left;rw[oz];simp only[ob];rw[if_neg (by omega)]
   ·have Am:vs.length=xs.length*1:=XY.1;have hr:=Lib.run_append_grow_string (P:=P) w t t' ty e' i (.int .u8 0) ht ht' hi hz ⟨gg,0,none⟩ xs.length cap vs (by rw[ij];exact Am) (rD.cells (g:=gg) (by rw[hv];rfl)) b (by omega) (by omega) (by rw[hby];exact growslice_fits (by omega) (by omega));rw[hv]at de
    cases de.symm.trans hr
    right;intro c hc;simp only[ob]at hc;split at hc<;>cases hc;exact acW _
  have kk:cP ψ h w w':=cP.grown hgr (fun b e=>⟨cH,hold,e⟩);have sm:=kk.same g;have oS:jH Z w' (.row e' (.int .u8)) V (rO xs b):=⟨vs++Lib.strCells b,by
   have e9:List.length (α:=Int) (rO xs b)=List.length (α:=Int) xs+b.size:=(List.length_append (as:=(show List Int from xs)) (bs:=bytesOf b)).trans (by rw[bytesOf_length]);show dL w' e' 1 V (List.length (α:=Int) (rO xs b)) _;rw[e9];exact Ju,by
   rw[Cz];exact(ZC.append (X3 (bytesOf b)) XY.1).Ck sm⟩
  refine⟨V,w',dW ψ id V,de,?_,?_⟩
  ·simp only[bF.hp];rw[kK,tB,heq];exact nE g hB id cH hN ym (fun e=>CA (by rw[e];exact hN)) hgr (ok:=.row e' (.int .u8)) oS Cq Jv
  ·simp only[bF.v,bF.hp,aC];exact⟨Ju.one,fun _=>(bp _ _ _).symm⟩
theorem JY(g:Good Z ψ h w B0 O)(hB:B0≤w.heap.size){id:Nat}(hN:N id){t:TypeId}{l c:AV}{u v:Value}{e:bF}(hl:aC Z ψ h w l u)(hc:aC Z ψ h w c v) (Jv:∀i ty cs,h i=some (.box ty cs)→aD (fun i=>i≠id) cs) (he:td P id t l c some=some e) :
  ∃V w' ψ',(Instr.makeSlice t u v).run P w=.ok V w'∧Next Z ψ h w B0 O N Z ψ' (e.hp h) w'∧aC Z ψ' (e.hp h) w' e.v V:=by
 unfold td at he
 split at he
 rotate_left
 ·cases he
 rename_i et n m het
 split at he
 rotate_left
 ·cases he
 rename_i kk hk
 split at he
 rotate_left
 ·cases he
 rename_i kM;simp only[Bool.and_eq_true]at kM;obtain⟨kM,hz⟩:=kM
 cases S7:(decide (0≤n)&&(decide (n≤(eY:Int))&&decide (m=n))) with
 |false=>rw[S7]at he;cases he
 |true =>
  rw[S7]at he;cases he;simp only[Bool.and_eq_true,decide_eq_true_eq]at S7;obtain⟨h0,h1,rfl⟩:=S7;simp only[aC]at hl hc;subst hl;subst hc;obtain⟨q,rfl⟩:∃q:Nat,m=(q:Int):=⟨m.toNat,by omega⟩;have hq:q≤eY:=by omega
  obtain⟨i,z,yn⟩:=cm kM;obtain⟨z',Ai,EY,_⟩:=Cu (Z:=Z) (w:=w) hz;have hzz:z'=z:=by have:=sd (P:=P) (w:=w) yn.info yn.zero;rw[this]at Ai;cases Ai;rfl
  subst hzz;have hb:=yn.bytes;unfold eY at hq;have hby:i.bytes*q≤281474976710656:=acY (ad4 hb hq) (by decide);have ht:=fV het;obtain⟨w',de,k1,k2⟩:=run_make_full (P:=P) w 0 t et i z' kk.sz ht yn.info yn.zero yn.size .i64 .i64 q hby (by simp only[maxLen];omega) (adb _);have kk2:cP ψ h w w':=cP.grown k2 (fun b e=>by cases e);have hv:kR Z w' kk (List.replicate q (mo kk)) (madeCells z'.cells (q*kk.sz)).toList:=fun i x hx=>by
   obtain⟨hi,rfl⟩:=abJ.1 hx;rw[List.length_replicate]at hi;rw[List.getElem_replicate];have Qv:=yn.wH;refine aL.oT ?_ (EY.mono (fun _ h=>h) (kk2.same g));have hmul:i*kk.sz+kk.sz≤q*kk.sz:=by rw[←Nat.succ_mul];exact acT _ hi
   have E7:=kk.gF;apply adf;intro j;rw[List.getElem?_take,List.getElem?_drop];by_cases hj:j<kk.sz
   ·rw[if_pos hj];have aH:i*kk.sz+j<q*kk.sz:=by omega
    simp only[madeCells,Array.getElem?_toList,Array.getElem?_map,Array.getElem?_range,aH,if_true,Option.map_some];rw[Qv,show(i*kk.sz+j)%kk.sz=j by rw[Nat.add_comm,Nat.add_mul_mod_self_right,Nat.mod_eq_of_lt hj],getElem!_pos z'.cells j (by omega),Array.getElem?_eq_getElem (by omega)]
   ·rw[if_neg hj,List.getElem?_eq_none (by simp;omega)]
  refine⟨_,w',dW ψ id (.slice (some ⟨w.heap.size,0,none⟩) q q),de,?_,?_⟩
  ·simp only[bF.hp];rw[gH];refine oU g hB id et hN kk2 (fun b hb=>k2.block b (g.bP hb) (by simp)) (vs:=(madeCells z'.cells (q*kk.sz)).toList) (by rw[Int.toNat_natCast,List.length_replicate];exact dL.of k1) (by rw[Int.toNat_natCast];exact hv) (fun b hb=>?_) Jv;simp only[ob]at hb;split at hb<;>cases hb;exact acW _
  ·simp only[bF.v,bF.hp,aC];exact⟨(dL.of k1).one,fun _=>(bp _ _ _).symm⟩
theorem CB{hh:Heap}(g:Good Z ψ hh.get w B0 O){t t' ty:TypeId}{d s:AV}{u v:Value}{e:bF}(hd:aC Z ψ hh.get w d u)(hs:aC Z ψ hh.get w s v)(he:yr P hh t d s some=some e) :
  ∃n hw w',e=.wr (.int .i64 n) hw∧(Builtin.copy_ #[t,t'] ty #[u,v]).run P w=.ok (.int .i64 n) w'∧Next Z ψ hh.get w B0 O N Z ψ hw.get w':=by
 unfold yr at he
 split at he
 rotate_left
 ·cases he
 rename_i et id het
 split at he
 rotate_left
 ·cases he
 rename_i e' k xs hg
 split at he
 rotate_left
 ·cases he
 rename_i ys Qw
 split at he
 rotate_left
 ·cases he
 rename_i hc;obtain⟨rfl,kM⟩:=hc
 cases bw:xs.isEmpty with
 |true=>rw[bw]at he;cases he
 |false =>
  rw[bw]at he;cases he;obtain⟨i,z,yn⟩:=cm kM;have ht:=fV het;have E7:=List.length_pos_iff.2 (List.isEmpty_eq_false_iff.1 bw);have ij:=k.gF;simp only[aC]at hd;have hu:=hd.2 (by rw[hg];simp);subst hu;obtain⟨vs,ho,hv⟩:=g.row id (.row e' k) xs hg;obtain⟨hvl,adD⟩:=ho;rcases adD with⟨h0,_⟩|⟨gg,cap,cur,e1,e2,e3,e4,e5,e6,e7⟩
  ·omega
  have bM:hh.get id≠none:=by rw[hg];simp
  have oz:ob (ψ id)=some gg:=by rw[e1];simp only[ob];rw[if_neg (by omega)]
  obtain⟨news,⟨n1,n2,n3⟩,nv⟩:=wJ g Qw hs;have SQ:xs.length*k.sz≤cap*k.sz:=acT _ e4;have uR:cur.toList.length=cap*k.sz:=by rw[Array.length_toList];exact e6
  rcases n3 with⟨rfl,n0⟩|⟨a,c,rfl,n4⟩
  ·have:ys=[]:=ack n0;subst this;have hr:=run_copy_nil (P:=P) w t t' ty e' ⟨gg,0,none⟩ xs.length cap ht (by simp[yn.info]);refine⟨0,_,w,rfl,by rw[e1];exact hr,?_⟩;have e9:(hh.set id (.own (.row e' k) xs)).get=hh.get:=by
    funext j;by_cases hj:j=id
    ·subst hj;rw[Heap.wD,hg]
    ·rw[Heap.Ce hj]
   have e8:nw ([]:List k.T) xs=xs:=by simp[nw]
   rw[e8,e9];exact Next.refl g
  ·let m:=Nat.min ys.length xs.length
   have hmy:m≤ys.length:=Nat.min_le_left _ _;have hmx:m≤xs.length:=Nat.min_le_right _ _;have aph:m*k.sz≤ys.length*k.sz:=acT _ hmy;have api:m*k.sz≤xs.length*k.sz:=acT _ hmx
   let cs:=news.take (m*k.sz)
   have Mx:cs.length=m*k.sz:=by simp only[cs,List.length_take];omega
   have hr:=ir (P:=P) w t t' ty e' k.sz gg 0 xs.length cap a ys.length c cur e' cs ht (by simp[yn.info,yn.size]) e3 Mx (fun j q hq=>n4 j q (by
    simp only[cs,List.getElem?_take]at hq
    split at hq
    ·exact hq
    ·cases hq)) (by rw[Mx,e6];omega) (fun q hq=>n2 q (adY hq))
   have ajh:((m:Nat):Int)=min (ys.length:Int) (xs.length:Int):=by show((min ys.length (List.length (α:=k.T) xs):Nat):Int)=min (ys.length:Int) ((List.length (α:=k.T) xs:Nat):Int);omega
   have XW:nw ys xs=ys.take m++xs.drop m:=by
    unfold nw;rcases Nat.le_total ys.length xs.length with h1|h1
    ·have:m=ys.length:=Nat.min_eq_left h1;rw[this,List.take_of_length_le h1,List.take_of_length_le (Nat.le_refl _)]
    ·have:m=xs.length:=Nat.min_eq_right h1;rw[this,List.drop_eq_nil_of_le h1,List.drop_eq_nil_of_le (Nat.le_refl _)]
   have hlen:(ys.take m++xs.drop m).length=xs.length:=by rw[List.length_append,List.length_take,List.length_drop];omega
   refine⟨_,_,_,rfl,by rw[e1,←ajh];exact hr,?_⟩;have rD:Own ψ hh.get gg:=⟨id,bM,oz⟩;have hk:=cP.setRow (w:=w) rD ((cur.toList.take 0++cs++cur.toList.drop (0+cs.length)).toArray);have sm:=hk.same g;rw[kK];refine g.write id bM hk (fun b hb _=>setRow_other _ (fun e=>hb (by rw[oz,e]))) _ (fun _ _ he=>by cases he) (fun XQ x' he=>?_)
   cases he
   let gx:=cur.toList.take 0++cs++cur.toList.drop (0+cs.length)
   have E8:gx.length=cap*k.sz:=by simp only[gx,List.length_append,List.length_take,List.length_drop,uR,Mx];omega
   have jk:gx.take (xs.length*k.sz)=cs++vs.drop (m*k.sz):=by simp only[gx,List.take_zero,List.nil_append,Nat.zero_add];rw[List.take_append,List.take_of_length_le (by omega),Mx,←e7,List.drop_take]
   rw[XW];refine⟨gx.take (xs.length*k.sz),⟨by rw[List.length_take,E8,hlen];omega,.inr ⟨gg,cap,gx.toArray,by rw[hlen];exact e1,e2,setRow_heap w gg cur _ e' _ e3,by rw[hlen];exact e4,e5,by simpa using E8,by rw[hlen]⟩⟩,?_⟩;rw[jk];refine kR.Ck (kR.append (fun i x hx=>?_) (fun i x hx=>?_) (by rw[Mx,List.length_take,Nat.min_eq_left hmy])) sm
   ·obtain⟨hi,hx2⟩:=abJ.1 hx;rw[List.length_take]at hi;have him:i<m:=by omega
    have h9:i*k.sz+k.sz≤m*k.sz:=by rw[←Nat.succ_mul];exact acT _ him
    rw[List.getElem?_take,if_pos him]at hx;refine aL.oT ?_ (nv i x hx);simp only[cs];rw[List.drop_take,List.take_take,Nat.min_eq_left (by omega)]
   ·rw[List.getElem?_drop]at hx;refine aL.oT ?_ (hv _ x hx);rw[List.drop_drop,Nat.add_mul]
mutual
theorem aM.imp{p q:Nat→Prop}(HV:∀i,p i→q i):∀{a:AV},aM p a→aM q a
 |.no,_=>by simp only[aM]
 |.bool b,_=>by simp only[aM]
 |.int k n,_=>by simp only[aM]
 |.str s,_=>by simp only[aM]
 |.lQ,_=>by simp only[aM]
 |.fO,_=>by simp only[aM]
 |.ref id s i off,h=>by simp only[aM]at h ⊢;exact HV _ h
 |.fp k x off,_=>by simp only[aM]
 |.sl ex k xs,_=>by simp only[aM]
 |.mp kk vk es,_=>by simp only[aM]
 |.bL id,h=>by simp only[aM]at h ⊢;exact HV _ h
 |.fn f cap,h=>by simp only[aM]at h ⊢;exact aD.imp HV h
 |.agg cs,h=>by simp only[aM]at h ⊢;exact aD.imp HV h
 |.n8 cs,h=>by simp only[aM]at h ⊢;exact aD.imp HV h
theorem aD.imp{p q:Nat→Prop}(HV:∀i,p i→q i):∀{a:List AV},aD p a→aD q a
 |[],_=>by simp only[aD]
 |a::r,h=>by simp only[aD]at h ⊢;exact⟨aM.imp HV h.1,aD.imp HV h.2⟩
end
theorem aM.cells{p:Nat→Prop}{a:AV}(h:aM p a):aD p a.cells:=by
 cases a with
 |agg cs=>grind [AV.cells,aM]
 |_=>simp_all [AV.cells,aD,trivial]
theorem CC:∀{cs:List AV},JF cs=true→∀id,AV.bL id∉cs
 |[],_,id=>by simp
 |c::r,hn,id=>by
  intro hm
  cases c with
  |bL i=>simp[JF]at hn
  |_ =>
   simp only[JF]at hn;rcases abL.1 hm with e|hm
   ·cases e
   ·exact CC hn id hm
theorem sf:∀{vs:List AV},vu vs=true→∀v∈vs,∀id,AV.bL id∉v.cells
 |[],_,v,hv=>by simp at hv
 |a::r,hn,v,hv=>by
  simp only[vu,Bool.and_eq_true]at hn;rcases abL.1 hv with rfl|hv
  ·exact CC hn.1
  ·exact sf hn.2 v hv
def wO(o:Oper):Bool :=match o.op with
 |.call { callee:=.value _,.. }=>true
 |_=>false
theorem MB{s:List (Nat×AV)}{ρC:Operand→Value}{x:Option Operand}(hx:∀y,x=some y→aC Z ψ h w (ρ s y) (ρC y)):eF Z ψ h w (x.map (ρ s)) (x.map ρC):=by
 cases x with
 |none=>trivial
 |some y=>exact hx y rfl
theorem CD{s:List (Nat×AV)}{ρC:Operand→Value}:∀(ps:List (Nat×Operand)),(∀p∈ps,aC Z ψ h w (ρ s p.2) (ρC p.2))→(∀p∈ps,ρ s p.2≠.no)→uV Z ψ h w (ps.map fun p=>(p.1,ρ s p.2)) (ps.map fun p=>(p.1,ρC p.2))
 |[],_,_=>trivial
 |p::r,h1,h2=>⟨rfl,h2 p (by simp),h1 p (by simp),CD r (fun q hq=>h1 q (abC _ hq)) (fun q hq=>h2 q (abC _ hq))⟩
theorem Gl{k:K}{hh:Heap}:∀{ps:List (Nat×AV)} {i:Nat} {xs:List k.T},rU k hh i ps=some xs→∀p∈ps,p.2≠.no
 |[],_,_,_,p,hp=>by simp at hp
 |(j,v)::r,i,xs,hl,p,hp=>by
  simp only[rU]at hl
  split at hl
  ·split at hl
   ·rename_i x ys h1 h2;rcases abL.1 hp with rfl|hp
    ·exact Gg h1
    ·exact Gl h2 p hp
   ·cases hl
  ·cases hl
theorem abg{α:Type}{l:List α}(h:l.length=0+1+1):∃x y,l=[x,y]:=by
 cases l with
 |nil=>simp at h
 |cons a r=>cases r with
  |nil=>simp at h
  |cons b s=>simp_all
theorem MC{a:AV}(h:Zy a=true):a≠.no:=by rintro rfl;cases h
section
variable {Eqs:TypeId→Option K} {Sg:FuncId→Option aP} {F:(f:FuncId)→(g:aP)→g.A→Option g.B}
theorem HW{hh:Heap}{ρC:Operand→Value}{o:Oper}(g:Good Z ψ h w B0 O)(hB:B0≤w.heap.size)(bz:∀id o,hh.get id=some o→h id=some o){id:Nat}(hN:N id){t:TypeId}{s x:AV}{u v:Value}{e:bF} (hs:aC Z ψ h w s u) (hx:aC Z ψ h w x v) (CA:aM (fun i=>¬N i) s) (bu:∀i ty cs,h i=some (.box ty cs)→aD (fun i=>¬N i) cs) (nq:∀v hw,e=.wr v hw→hh.get=h) (he:oJ P hh id t s x some=some e) (de:∀V w',(Builtin.append_ #[t,t] o.type #[u,v]).run P w=.ok V w'→(execOp ρC o).run P w=.ok (.value V) w'):hZ P ρC o Z ψ h w B0 O N e:=by
 have Jv:∀i ty cs,h i=some (.box ty cs)→aD (fun i=>i≠id) cs:=fun i ty cs hb=>(bu i ty cs hb).imp (fun j hj e=>hj (by simp_all));unfold oJ at he
 split at he
 ·cases he
 ·rename_i et het;have ht:=fV het
  split at he
  ·cases he
  ·rename_i kk X5
   split at he
   ·rename_i ys Qw kM;obtain⟨inf,z,yn⟩:=cm kM
    split at he
    ·
     cases hc:aK 0 ys.length with
     |false=>simp_all
     |true =>
      rw[hc]at he;cases he;simp only[aK,decide_eq_true_eq]at hc;simp only[aC]at hs;subst hs;obtain⟨V,w',h1,h2,h3⟩:=q9 (P:=P) (ty:=o.type) g bz hB hN ht yn Qw hx (by omega) Jv;refine⟨V,w',Z,_,.inl (de V w' h1),by simp only[bF.hp];rw[gH];exact h2,?_⟩
      grind [bF.v,bF.hp,aC,bp]
    ·
     rename_i cH
     split at he
     ·rename_i e' k' xs hg
      split at he
      ·rename_i hc;obtain⟨rfl,rfl⟩:=hc
       cases oV:aK xs.length ys.length with
       |false=>simp_all
       |true =>
        rw[oV]at he;cases he;simp only[aK,decide_eq_true_eq]at oV;have heq:=nq _ _ rfl;have ym:=bz _ _ hg;simp only[aC]at hs;have hu:=hs.2 (by rw[ym];simp);subst hu;simp only[aM]at CA;obtain⟨V,w',h1,h2,h3⟩:=A6 (P:=P) (ty:=o.type) g bz hB hN (fun e=>CA (by simp_all)) ht yn ym Qw hx oV Jv;refine⟨V,w',Z,_,.inl (de V w' h1),by simp only[bF.hp];rw[kK,tB,heq];exact h2,?_⟩
        grind [bF.v,bF.hp,aC,bp]
      ·cases he
     ·cases he
    ·
     rename_i ex k' xs
     split at he
     ·rename_i hc;subst hc
      cases oV:(ex&&((!ys.isEmpty || xs.isEmpty)&&aK xs.length ys.length)) with
      |false=>simp_all
      |true =>
       rw[oV]at he;cases he;simp only[Bool.and_eq_true,Bool.or_eq_true,aK,decide_eq_true_eq,Bool.not_eq_true',List.isEmpty_eq_false_iff,List.isEmpty_iff]at oV;obtain⟨rfl,bw,Qr⟩:=oV;obtain⟨V,w',h1,h2,h3⟩:=Cm (P:=P) (ty:=o.type) g bz hB hN ht yn hs Qw hx (bw.imp List.length_pos_iff.2 (fun h=>h)) Qr Jv;refine⟨V,w',Z,_,.inl (de V w' h1),by simp only[bF.hp];rw[gH];exact h2,?_⟩
       grind [bF.v,bF.hp,aC,bp]
     ·cases he
    ·cases he
   ·cases he
theorem CE{ρC:Operand→Value}{o:Oper}(g:Good Z ψ h w B0 O)(hB:B0≤w.heap.size){id:Nat}(hN:N id){t:TypeId}{vs:List AV}{us:Array Value}{e:bF}(hr:ax Z ψ h w vs us.toList)(h1:∀u∈us.toList,u.oneCell'=true) (hm:aD (fun i=>¬N i) vs) (bu:∀i ty cs,h i=some (.box ty cs)→aD (fun i=>¬N i) cs) (he:yz id t vs some=some e) (de:(execOp ρC o).run P w=.ok (.value (.pointer (some ⟨w.heap.size,0,none⟩))) (w.alloc (.cells us t))):hZ P ρC o Z ψ h w B0 O N e:=by
 unfold yz at he
 cases he
 have bw:∀i,¬N i→i≠id:=fun j hj e=>hj (by rw[e];exact hN);have n:=Ch (N:=N) g hB id t hN hr h1 (fun i ty cs hb=>(bu i ty cs hb).imp bw) (hm.imp bw);refine⟨_,_,Z,_,.inl de,by simp only[bF.hp];rw[gH];exact n,?_⟩;simp only[bF.v,bF.hp,aC];exact⟨_,rfl,fun _=>by rw[bp];simp[XT]⟩
theorem Qx{hh:Heap}{ρC:Operand→Value}{s:List (Nat×AV)}{o:Oper}(g:Good Z ψ h w B0 O)(hB:B0≤w.heap.size)(bz:∀id o,hh.get id=some o→h id=some o){id:Nat}(hN:N id){t:TypeId}{n:Nat}{ps:Array (Nat×Operand)}{e:bF} (nG:∀p∈ps.toList,aC Z ψ h w (ρ s p.2) (ρC p.2)) (bu:∀i ty cs,h i=some (.box ty cs)→aD (fun i=>¬N i) cs) (lC:Bool) {e0:bF} (X6:e=if lC then XS e0 else e0) (nq:∀v hw,e=.wr v hw→hh.get=h) (he:wy P hh id t n (ps.toList.map fun p=>(p.1,ρ s p.2)) some=some e0)
  (de:∀V w',(Instr.buildSlice t n (ps.map fun p=>(p.1,ρC p.2))).run P w=.ok V w'→(execOp ρC o).run P w=.ok (.value V) w'):hZ P ρC o Z ψ h w B0 O N e:=by
 have Jv:∀i ty cs,h i=some (.box ty cs)→aD (fun i=>i≠id) cs:=fun i ty cs hb=>(bu i ty cs hb).imp (fun j hj e=>hj (by simp_all));unfold wy at he
 split at he
 ·cases he
 ·rename_i et het;have ht:=fV het
  split at he
  ·cases he
  ·rename_i k hk
   split at he
   ·cases he
   ·cases he
   ·rename_i xs oS kM;obtain⟨inf,z,yn⟩:=cm kM;have MD:=CD (Z:=Z) (ψ:=ψ) (h:=h) (w:=w) ps.toList nG (fun p hp=>Gl oS (p.1,ρ s p.2) (acU.2 ⟨p,hp,rfl⟩));have Oc:uV Z ψ hh.get w (ps.toList.map fun p=>(p.1,ρ s p.2)) (ps.map fun p=>(p.1,ρC p.2)).toList:=by rw[Array.toList_map];exact MD.og bz
    split at he
    ·rename_i hc;obtain⟨rfl,hn⟩:=hc
     cases vB:vu ((ps.toList.map fun p=>(p.1,ρ s p.2)).map (·.2)) with
     |true =>
      rw[vB]at he;cases he;have aji:=sf vB;obtain⟨V,w',h1,h2,h3⟩:=JP (P:=P) (N:=N) g (g.sub bz) (fun _ h=>h) hB hN ht yn (fun p hp i b hm=>absurd hm (aji p.2 (acU.2 ⟨p,hp,rfl⟩) i)) Oc oS hn Jv
      cases lC with
      |false =>
       have X6:e=.new (.bL id) [(id,.own (.row et k) xs)]:=X6;subst X6;refine⟨V,w',Z,_,.inl (de V w' h1),by simp only[bF.hp];rw[gH];exact h2,?_⟩
       grind [bF.v,bF.hp,aC,bp]
      |true =>
       have X6:e=.new (.sl true k xs) []:=X6;subst X6;obtain⟨m1,m2⟩:=SS g hB h2 h3.2.1 h3.2.2.1 h3.2.2.2;have e1:(bF.new (.sl true k xs) []).hp h=h:=by rfl
       refine⟨V,w',_,_,.inl (de V w' h1),by rw[e1];exact m1,?_⟩;rw[e1];exact m2
     |false =>
      rw[vB]at he;cases he;have X6:e=.wr (.bL id) ((id,.own (.row et k) xs)::cO hh ((ps.toList.map fun p=>(p.1,ρ s p.2)).flatMap (·.2.cells))):=by rw[X6];cases lC<;>rfl
      subst X6;have heq:=nq _ _ rfl;subst heq
      let cs:=(ps.toList.map fun p=>(p.1,ρ s p.2)).flatMap (·.2.cells)
      have gd:=ji g cs;obtain⟨V,w',h1,h2,h3⟩:=JP (P:=P) (N:=N) gd g (fun b hb=>.inl hb) hB hN ht yn (fun p hp i b hm bw hb=>.inr ⟨i,List.mem_flatMap.2 ⟨p,hp,hm⟩,bw,hb⟩) Oc oS hn (fun i ty cs' hb=>Jv i ty cs' (dZ _ _ _ _ hb));refine⟨V,w',rJ Z ψ hh.get cs,dW ψ id V,.inl (de V w' h1),?_,?_⟩
      ·simp only[bF.hp];rw[Cr];exact h2.drop (fun b hb=>.inl hb) (fun b hb=>hb.imp (fun h=>h) (fun⟨i,_,h5,h6⟩=>⟨i,h5,h6⟩)) (dZ _ _)
      grind [bF.v,bF.hp,aC,bp]
    ·cases he
theorem Qy{lC:Bool}{h:Heap}{id:Nat}{t:TypeId}{n:Nat}{ps:List (Nat×AV)}{e:bF}(he:yC P lC h id t n ps some=some e):∃e0,wy P h id t n ps some=some e0∧e=if lC then XS e0 else e0:=by
 unfold yC wy at he;unfold wy
 split at he
 ·cases he
 split at he
 ·cases he
 grind
theorem CF(p:Nat→Prop)(v:Value):aM p (yp v):=by
 cases v with
 |pointer a=>grind [yp,aM]
 |slice a n c=>grind [yp,aM]
 |func fn first cap =>
  cases fn with
  |func f=>grind [yp,aM,aD]
  |_=>simp only[yp,aM]
 |_=>simp only[yp,aM]
theorem yJ(p:Nat→Prop):∀vs:List Value,aD p (vs.map yp)
 |[]=>by simp[aD]
 |v::r=>by simp only[List.map_cons,aD];exact⟨CF p v,yJ p r⟩
theorem Qz(p:Nat→Prop)(v:Value):aD p (vt v).cells:=by
 cases v with
 |agg cs=>grind [vt,AV.cells,yJ]
 |_=>simp_all [vt,Gf,aD,CF,trivial]
theorem S8(EZ:∀t k,Eqs t=some k→mA P t k){hh:Heap}{ρC:Operand→Value}{s:List (Nat×AV)}{o:Oper}(g:Good Z ψ h w B0 O)(hB:B0≤w.heap.size)(bz:∀id o,hh.get id=some o→h id=some o){id:Nat}(hN:makes o.op=true→N id){e:bF} (nG:∀x∈o.op.operands,aC Z ψ h w (ρ s x) (ρC x)) (hm:∀x∈o.op.operands,aM (fun i=>¬N i) (ρ s x)) (bu:∀i ty cs,h i=some (.box ty cs)→aD (fun i=>¬N i) cs) (nq:∀v hw,e=.wr v hw→hh.get=h) (Me:wO o=false) (he:cY P Eqs Sg F id hh s o some=some e):hZ P ρC o Z ψ h w B0 O N e:=by
 obtain⟨dst,op,type,pos,after,guard⟩:=o;have two:∀{a b:Operand},(∀x∈(#[a,b]:Array Operand),aC Z ψ h w (ρ s x) (ρC x))→aC Z ψ h w (ρ s a) (ρC a)∧aC Z ψ h w (ρ s b) (ρC b):=fun hx=>⟨hx _ (by simp),hx _ (by simp)⟩
 cases op<;>simp only[cY]at he<;>simp only[Op.operands]at nG hm<;>first|(cases he;done)|skip
 case move x=>cases he;exact hZ.val g (V:=ρC x) (by simp[execOp]) (nG x (by simp))
 case assign x=>cases he;exact hZ.val g (V:=ρC x) (by simp[execOp]) (nG x (by simp))
 case pick c a b =>
  have h1:=nG c (by simp);have h2:=nG a (by simp);have h3:=nG b (by simp)
  split at he
  ·rename_i t ht
   cases he
   rw[ht]at h1;simp only[aC]at h1;refine hZ.val g (V:=if t then ρC a else ρC b) (by simp[execOp,h1,asBool]) ?_;unfold Zw
   split
   ·rename_i p q hp hq;rw[hp]at h2;rw[hq]at h3;simp only[aC]at h2 h3 ⊢
    cases t<;>simp[h2,h3]
   ·cases t
    ·exact h3
    ·exact h2
  ·cases he
 case alloc t =>
  split at he
  ·rename_i z hz;obtain⟨i,zv,hi,hzz,rfl,h1⟩:=qf hz;exact CE (us:=zv.cells) g hB (hN rfl) (Co zv) h1 (Qz _ zv) bu he (by simp[execOp,Instr.alloc,sd hi hzz,newVar,newRow,newObj,Sem.run])
  ·cases he
 case box t x =>
  have h1:=nG x (by simp)
  split at he
  ·rename_i hp;have hc:=h1.cells (JS hp);exact CE (us:=(ρC x).cells) g hB (hN rfl) hc (vE hp hc) (hm x (by simp)).cells bu he (by simp[execOp,Instr.box,newVar,newRow,newObj,Sem.run])
  ·cases he
 case build t ps =>
  unfold tj at he
  split at he
  ·rename_i z fs hz hf
   split at he
   ·rename_i cs adF iq
    cases he
    simp only[Bool.and_eq_true]at iq;obtain⟨iq,hnn⟩:=iq;have adG:fs.toList.all (fun f=>(P.info? f.type).isSome)=true:=iq;have abh:∀p∈ps.toList,aC Z ψ h w (ρ s p.2) (ρC p.2):=fun p hp=>nG p.2 (by simp;exact⟨p.1,by simpa using hp⟩);have MD:=CD (Z:=Z) (ψ:=ψ) (h:=h) (w:=w) ps.toList abh (fun p hp=>MC (ac3.1 hnn (p.1,ρ s p.2) (acU.2 ⟨p,hp,rfl⟩)));obtain⟨V,h1,h2⟩:=Qj (P:=P) (qs:=ps.map fun p=>(p.1,ρC p.2)) hz hf adG (by rw[Array.toList_map];exact MD) adF;exact hZ.val g (V:=V) (by simp only[execOp,Sem.run_bind];rw[h1];simp) h2
   ·cases he
  ·cases he
 case buildSlice t n ps =>
  have abh:∀p∈ps.toList,aC Z ψ h w (ρ s p.2) (ρC p.2):=fun p hp=>nG p.2 (by simp;exact⟨p.1,by simpa using hp⟩);obtain⟨e0,h0,h1⟩:=Qy he;exact Qx g hB bz (hN rfl) abh bu (Zz Sg t _) h1 nq h0 (fun V w' h1=>by simp only[execOp,Sem.run_bind];rw[h1];simp)
 case load t a =>
  obtain⟨x,V,rfl,h1,h2⟩:=vC g bz (nG a (by simp)) he;exact hZ.val g (V:=V) (by simp[execOp,h1]) h2
 case store t a v =>
  obtain⟨h1,h2⟩:=two nG;have hw:∃hw,e=.wr .no hw:=by obtain⟨hw,_,_,h3,_⟩:=Aj (P:=P) (N:=N) (g.sub bz) (h1.og bz) (h2.og bz) he;exact⟨hw,h3⟩
  obtain⟨hw,rfl⟩:=hw;have heq:=nq _ _ rfl;subst heq;obtain⟨Md,w',Z',h3,h4,h5⟩:=Aj (P:=P) (N:=N) g h1 h2 he
  cases h3
  exact⟨undef,w',Z',ψ,.inr ⟨by simp[execOp,h4],rfl⟩,h5,by simp only[bF.v,aC]⟩
 case nilCheck x =>
  have h1:=nG x (by simp)
  split at he
  ·rename_i id s i off hx
   cases he
   rw[hx]at h1;have h2:=h1;simp only[aC]at h1;obtain⟨a,ha,_⟩:=h1;exact hZ.val g (V:=ρC x) (by simp[execOp,ha]) h2
  ·rename_i k y off hx
   cases he
   rw[hx]at h1;have h2:=h1;simp only[aC]at h1;obtain⟨a,us,ha,_⟩:=h1;exact hZ.val g (V:=ρC x) (by simp[execOp,ha]) h2
  ·rename_i f cap hx
   cases he
   rw[hx]at h1;have h2:=h1;simp only[aC]at h1;obtain⟨vs,ha,_⟩:=h1;exact hZ.val g (V:=ρC x) (by simp[execOp,ha]) h2
  ·cases he
 case binOp op t x y yt =>
  obtain⟨h1,h2⟩:=two nG;obtain⟨r,V,rfl,h3,h4⟩:=Qn EZ (xo:=x) (yo:=y) h1 h2 he;exact hZ.val g (V:=V) (by simp only[execOp,Sem.run_bind]at h3 ⊢;rw[h3];simp) h4
 case unOp op t x =>
  have h1:=nG x (by simp)
  cases op<;>simp only at he<;>first|(cases he;done)|skip
  split at he
  ·rename_i b hx
   cases he
   rw[hx]at h1;simp only[aC]at h1;exact hZ.val g (V:=.bool (!b)) (by simp[execOp,h1,Op.unary]) (by simp only[aC])
  ·cases he
 case convert src dst x =>
  have h1:=nG x (by simp);unfold Ca at he
  split at he
  ·rename_i k1 k2 k3 n hs hd hx
   cases he
   rw[hx]at h1;simp only[aC]at h1;exact hZ.val g (V:=.int k2 (k2.wrap n)) (by simp[execOp,h1,convert,run_underlying hs,run_underlying hd,Conv.intToInt]) (by simp only[aC])
  ·rename_i sv hs hd hx
   cases he
   rw[hx]at h1;have h2:=h1;simp only[aC]at h1;exact hZ.val g (V:=ρC x) (by simp[execOp,h1,convert,run_underlying hs,run_underlying hd]) h2
  ·rename_i e sv hs hd hx
   split at he
   ·rename_i hu
    cases he
    rw[hx]at h1;simp only[aC]at h1;obtain⟨V,w',Z',h2,h3,h4⟩:=Qs (P:=P) (N:=N) g hB hs hd hu sv;have e1:(bF.new (.sl false (.int .u8) (bytesOf sv)) []).hp h=h:=by funext i;simp[bF.hp,Heap.get]
    refine⟨V,w',Z',ψ,.inl (by simp only[execOp,h1,Sem.run_bind,h2,Result.andThen_ok,Sem.run_pure]),by rw[e1];exact h3,?_⟩;rw[e1];exact h4
   ·cases he
  ·rename_i _ e hs hd
   split at he
   ·rename_i hu
    split at he
    ·rename_i xs hx
     cases he
     exact hZ.val g (V:=.string (strOf xs)) (by simp only[execOp,Sem.run_bind,X4 g bz hs hu hd hx h1,Result.andThen_ok,Sem.run_pure]) (by simp only[aC])
    ·cases he
   ·cases he
  ·cases he
 case makeSlice t l c =>
  have h1:=nG l (by simp);have h2:=nG c (by simp);have Jv:∀i ty cs,h i=some (.box ty cs)→aD (fun i=>i≠id) cs:=fun i ty cs hb=>(bu i ty cs hb).imp (fun j hj e=>hj (by rw[e];exact hN rfl));obtain⟨V,w',ψ',h3,h4,h5⟩:=JY g hB (hN rfl) h1 h2 Jv he;exact⟨V,w',Z,ψ',.inl (by simp only[execOp,Sem.run_bind,h3,Result.andThen_ok,Sem.run_pure]),h4,h5⟩
 case makeFunc fn first cap =>
  cases fn<;>simp only at he<;>first|(cases he;done)|skip
  rename_i f
  split at he
  ·rename_i hf
   cases he
   have h0:first=#[]:=adw hf
   subst h0;have hl:∀l:List Operand,(∀x∈l,aC Z ψ h w (ρ s x) (ρC x))→ax Z ψ h w (l.map (ρ s)) (l.map ρC):=by
    intro l
    induction l with
    |nil=>intro _;simp[ax]
    |cons a r ih=>intro ha;simp only[List.map_cons,ax];exact⟨_,_,rfl,ha a (by simp),ih (fun x hx=>ha x (abC _ hx))⟩
   exact hZ.val g (V:=.func (.func f) #[] (cap.map ρC)) (by simp[execOp,Instr.makeFunc]) (by simp only[aC];exact⟨_,rfl,by rw[Array.toList_map];exact hl _ (fun x hx=>nG x (by simp;simpa using hx))⟩)
  ·cases he
 case slice t x lo hi mx =>
  have h1:=nG x (by simp);have h2:eF Z ψ h w (lo.map (ρ s)) (lo.map ρC):=MB (fun y hy=>nG y (by subst hy;simp));have h3:eF Z ψ h w (hi.map (ρ s)) (hi.map ρC):=MB (fun y hy=>nG y (by subst hy;simp));have h4:eF Z ψ h w (mx.map (ρ s)) (mx.map ρC):=MB (fun y hy=>nG y (by subst hy;simp))
  split at he
  ·rename_i ht;unfold yv at he
   split at he
   ·rename_i sv hx hmx
    split at he
    ·rename_i l u hb
     cases ho:bg sv.size l u with
     |false=>rw[ho]at he;cases he
     |true =>
      rw[ho]at he;cases he;rw[hx]at h1;simp only[aC]at h1;have hm0:mx=none:=by cases mx with
       |none=>rfl
       |some m=>simp at hmx
      subst hm0;have de:=vD (P:=P) (w:=w) (b:=false) (acW sv.size) h2 h3 (mx:=none) (mx':=none) trivial hb ho (.inl rfl);exact hZ.val g (V:=.string (aa2 sv l u)) (by simp[execOp,Instr.sliceAt,Instr.slice,run_underlying ht,h1,de,aa2]) (by simp only[aC])
    ·cases he
   ·cases he
  ·rename_i et ht
   split at he
   ·rename_i hse;obtain⟨V,Z',h5,h6,h7⟩:=JR (P:=P) (N:=N) g bz ht h1 h2 h3 h4 nq he hse;exact⟨V,w,Z',ψ,.inl (by simp[execOp,h5]),h6,h7⟩
   ·cases he
  ·cases he
 case fieldAddr t x f =>
  have h1:=nG x (by simp)
  split at he
  ·rename_i n ft id sz i off hf hx
   split at he
   ·cases he
   ·rename_i hc
    cases he
    rw[hx]at h1;obtain⟨V,h2,h3⟩:=uY (P:=P) hf hc h1;exact hZ.val g (V:=V) (by simp[execOp,h2]) h3
  ·rename_i n ft k y off hf hx
   split at he
   ·cases he
   ·rename_i hc
    cases he
    rw[hx]at h1;obtain⟨V,h2,h3⟩:=wL (P:=P) hf hc h1;exact hZ.val g (V:=V) (by simp[execOp,h2]) h3
  ·cases he
 case field t x f =>
  have h1:=nG x (by simp)
  split at he
  ·rename_i n ft cs hf hx
   split at he
   ·rename_i v hv
    cases he
    rw[hx]at h1;obtain⟨V,h2,h3⟩:=JQ (P:=P) hf h1 hv;exact hZ.val g (V:=V) (by simp[execOp,h2]) h3
   ·cases he
  ·cases he
 case indexAddr t x i =>
  obtain⟨h1,h2⟩:=two nG;obtain⟨y,V,rfl,h3,h4⟩:=rf g bz h1 h2 he;exact hZ.val g (V:=V) (by simp[execOp,h3]) h4
 case index t x i =>
  obtain⟨h1,h2⟩:=two nG
  split at he
  ·rename_i sv ik n ht hx hi;obtain⟨c,hc,Xt⟩:=ac2.1 he
   cases Xt
   rw[hx]at h1;rw[hi]at h2;simp only[aC]at h1 h2;exact hZ.val g (V:=.int .u8 (c.toNat:Int)) (by simp[execOp,Instr.index,asIntOf,run_underlying ht,h1,h2,hc]) (by simp only[aC])
  ·cases he
 case extract t i =>
  have h1:=nG t (by simp)
  split at he
  ·rename_i vs hx
   split at he
   ·rename_i v hv
    cases he
    rw[hx]at h1;simp only[aC]at h1;obtain⟨us,hu,hl⟩:=h1;obtain⟨u,h2,h3⟩:=hl.get i hv;exact hZ.val g (V:=u) (by simp[execOp,Instr.extract,hu,show us[i]? = some u by simpa using h2]) h3
   ·cases he
  ·cases he
 case makeMap t r =>
  cases r with
  |some r=>cases he
  |none =>simp only at he;have Jv:∀i ty cs,h i=some (.box ty cs)→aD (fun i=>i≠id) cs:=fun i ty cs hb=>(bu i ty cs hb).imp (fun j hj e=>hj (by rw[e];exact hN rfl));obtain⟨V,w',ψ',h1,h2,h3⟩:=Fa g hB (hN rfl) Jv he;exact⟨V,w',Z,ψ',.inl (by simp[execOp,h1]),h2,h3⟩
 case lookup t m i ok =>
  obtain⟨h1,h2⟩:=two nG;obtain⟨y,V,rfl,h3,h4⟩:=HT EZ g bz h1 h2 he;exact hZ.val g (V:=V) (by simp[execOp,h3]) h4
 case mapUpdate t m i v =>
  have h1:=nG m (by simp);have h2:=nG i (by simp);have h3:=nG v (by simp);have hw:∃hw,e=.wr (.n8 []) hw:=by obtain⟨hw,_,_,h4,_⟩:=wM (N:=N) EZ (g.sub bz) (h1.og bz) (h2.og bz) (h3.og bz) he;exact⟨hw,h4⟩
  obtain⟨hw,rfl⟩:=hw;have heq:=nq _ _ rfl;subst heq;obtain⟨Md,w',Z',h4,h5,h6⟩:=wM (N:=N) EZ g h1 h2 h3 he
  cases h4
  exact⟨undef,w',Z',ψ,.inr ⟨by simp[execOp,h5],rfl⟩,h6,by simp only[bF.v,aC,ax];exact⟨#[],rfl,rfl⟩⟩
 case range t x =>
  have Jv:∀i ty cs,h i=some (.box ty cs)→aD (fun i=>i≠id) cs:=fun i ty cs hb=>(bu i ty cs hb).imp (fun j hj e=>hj (by rw[e];exact hN rfl));obtain⟨V,w',ψ',h1,h2,h3⟩:=HU g hB (hN rfl) (nG x (by simp)) Jv he;exact⟨V,w',Z,ψ',.inl (by simp[execOp,h1]),h2,h3⟩
 case next x b =>
  cases b with
  |false=>cases he
  |true =>obtain⟨V,w',h1,h2,h3⟩:=JW (P:=P) (N:=N) (ty:=type) g bz (nG x (by simp)) nq he;exact⟨V,w',Z,ψ,.inl (by simp[execOp,h1]),h2,h3⟩
 case entry x =>
  obtain⟨y,V,rfl,h1,h2⟩:=JX (P:=P) g bz (nG x (by simp)) he;exact hZ.val g (V:=V) (by simp[execOp,h1]) h2
 case call c =>
  obtain⟨callee,args,argTypes⟩:=c
  cases callee with
  |value f=>simp[wO]at Me
  |invoke r m=>simp only at he;cases he
  |builtin b =>
   have ju:∀x∈args.toList,aC Z ψ h w (ρ s x) (ρC x):=fun x hx=>nG x (by simp only[Call.operands];exact Array.mem_append.2 (.inr (by simpa using hx)));have ME:∀x∈args.toList,aM (fun i=>¬N i) (ρ s x):=fun x hx=>hm x (by simp only[Call.operands];exact Array.mem_append.2 (.inr (by simpa using hx)));obtain⟨args⟩:=args;obtain⟨argTypes⟩:=argTypes;simp only at he ju ME
   cases b<;>simp only at he<;>first|(cases he;done)|skip
   case append =>
    split at he
    ·rename_i l1 l2 x y t t'
     split at he
     ·rename_i htt;subst htt;exact HW g hB bz (hN rfl) (ju x (by simp)) (ju y (by simp)) (ME x (by simp)) bu nq he (fun V w' h1=>by simp only[execOp,resolve,invoke,builtin,Sem.run_bind,Sem.run_pure,Result.andThen_ok,List.map_toArray,List.map_cons,List.map_nil,h1])
     ·split at he
      ·rename_i b hb hy;have h2:=ju y (by simp);rw[hy]at h2;simp only[aC]at h2;have Jv:∀i ty cs,h i=some (.box ty cs)→aD (fun i=>i≠id) cs:=fun i ty cs hb=>(bu i ty cs hb).imp (fun j hj e=>hj (by rw[e];exact hN rfl));obtain⟨V,w',ψ',h3,h4,h5⟩:=Fb (ty:=type) (t:=t) (t':=t') g hB bz (hN rfl) hb (ju x (by simp)) (ME x (by simp)) Jv nq he;exact⟨V,w',Z,ψ',.inl (by simp only[execOp,resolve,invoke,builtin,Sem.run_bind,Sem.run_pure,Result.andThen_ok,List.map_toArray,List.map_cons,List.map_nil,h2,h3]),h4,h5⟩
      ·cases he
    ·cases he
   case copy =>
    split at he
    ·rename_i l1 l2 x y t t';have h1:=ju x (by simp);have h2:=ju y (by simp);have hw:∃n hw,e=.wr (.int .i64 n) hw:=by obtain⟨n,hw,_,h4,_⟩:=CB (N:=N) (t':=t') (ty:=type) (g.sub bz) (h1.og bz) (h2.og bz) he;exact⟨n,hw,h4⟩
     obtain⟨n,hw,rfl⟩:=hw;have heq:=nq _ _ rfl;subst heq;obtain⟨n',Md,w',h4,h5,h6⟩:=CB (N:=N) (t':=t') (ty:=type) g h1 h2 he
     cases h4
     exact⟨.int .i64 n,w',Z,ψ,.inl (by simp only[execOp,resolve,invoke,builtin,Sem.run_bind,Sem.run_pure,Result.andThen_ok,List.map_toArray,List.map_cons,List.map_nil,h5]),h6,by simp only[bF.v,aC]⟩
    ·cases he
   case delete =>
    split at he
    ·rename_i l1 l2 m x t ts;have h1:=ju m (by simp);have h2:=ju x (by simp);have hw:∃hw,e=.wr (.n8 []) hw:=by obtain⟨hw,_,h4,_⟩:=wN (N:=N) (ty:=type) (ts:=ts) EZ (g.sub bz) (h1.og bz) (h2.og bz) he;exact⟨hw,h4⟩
     obtain⟨hw,rfl⟩:=hw;have heq:=nq _ _ rfl;subst heq;obtain⟨Md,w',h4,h5,h6⟩:=wN (N:=N) (ty:=type) (ts:=ts) EZ g h1 h2 he
     cases h4
     exact⟨.tuple #[],w',Z,ψ,.inl (by simp only[execOp,resolve,invoke,builtin,Sem.run_bind,Sem.run_pure,Result.andThen_ok,List.map_toArray,List.map_cons,List.map_nil,h5]),h6,by simp only[bF.v,aC,ax];exact⟨#[],rfl,rfl⟩⟩
    ·cases he
   case len =>
    split at he
    ·rename_i l1 l2 x t
     split at he
     ·rename_i htm;obtain⟨n,rfl,h1⟩:=MA (P:=P) (ty:=type) g bz htm (ju x (by simp)) he;exact hZ.val g (V:=.int .i64 (n:Int)) (by simp only[execOp,resolve,invoke,builtin,Sem.run_bind,Sem.run_pure,Result.andThen_ok,List.map_toArray,List.map_cons,List.map_nil,h1]) (by simp only[aC])
     split at he
     ·rename_i aH;obtain⟨n,rfl,h1⟩:=Ql g bz (ju x (by simp)) he;refine hZ.val g (V:=.int .i64 (n:Int)) ?_ (by simp only[aC]);rcases h1 with⟨sv,h2,h3,rfl⟩|⟨A,c,h3⟩
      ·unfold aa4 at aH;rw[h2]at aH
       split at aH
       ·rename_i hu _;simp[execOp,resolve,invoke,builtin,Builtin.len_,run_underlying hu,h3,goInt]
       ·cases aH
       ·rename_i h9;exact(h9 _ rfl).elim
       ·cases aH
      ·have hu:∃e,P.underlying t=some (.slice e):=by
        have h4:=ju x (by simp);rw[h3]at h4;unfold aa4 at aH
        split at aH
        ·rename_i sv _ hxx;rw[hxx]at h4;simp only[aC]at h4;cases h4
        ·cases aH
        ·rename_i e _ hu _;exact⟨_,hu⟩
        ·cases aH
       obtain⟨e,hu⟩:=hu;simp[execOp,resolve,invoke,builtin,Builtin.len_,run_underlying hu,h3,goInt]
     ·cases he
    ·cases he
   all_goals
    unfold Qd at he
    split at he
    ·rename_i k a k' b hxy;have hl:=congrArg List.length hxy;simp only[List.length_map,List.length_cons,List.length_nil]at hl;obtain⟨x,y,rfl⟩:=abg hl;simp only[List.map_cons,List.map_nil,List.cons.injEq,and_true]at hxy;have h1:=ju x (by simp);have h2:=ju y (by simp);rw[hxy.1]at h1;rw[hxy.2]at h2;simp only[aC]at h1 h2
     split at he
     ·rename_i hk;subst hk
      cases he
      refine hZ.val g (V:=b5 (.int _ _)) ?_ (ki _ _)
      first
       |(simp[execOp,resolve,invoke,builtin,Builtin.max_,Builtin.max2,h1,h2,b5];simp only[Int.max_def];split<;>split<;>omega)
       |(simp[execOp,resolve,invoke,builtin,Builtin.min_,Builtin.min2,h1,h2,b5];simp only[Int.min_def];split<;>split<;>omega)
     ·cases he
    ·cases he
end
end Go.Vs
namespace Go.Vs
variable {P:Program} {Z Z' Zf:Nat→Prop} {ψ ψ':Nat→Value} {h h':Hp} {w w':World} {B0:Nat} {O:Nat→Prop} {N:Nat→Prop}
abbrev Ao:=Nat×Option Nat×Ob
def dP(L:List Ao):Heap:=L.map fun e=>(e.1,e.2.2)
def kj(ψ:Nat→Value):Option Nat→Value
 |some s=>ψ s
 |none=>.slice none 0 0
def eZ(ψ:Nat→Value):List Ao→Nat→Value
 |[],_=>undef
 |(i,s,_)::r,n=>if i=n then kj ψ s else eZ ψ r n
theorem oX{L:List Ao}{i:Nat}{o:Ob}(hg:(dP L).get i=some o):∃s,(i,s,o)∈L:=by
 induction L with
 |nil=>simp[dP,Heap.get]at hg
 |cons e r ih =>
  obtain⟨j,s,o'⟩:=e;simp only[dP,List.map_cons,Heap.get]at hg
  split at hg
  ·rename_i e;subst e;cases hg;exact⟨s,aco⟩
  ·obtain⟨s',hs⟩:=ih hg;exact⟨s',abC _ hs⟩
theorem nH{i:Nat}{r:List Nat}(h:ck (i::r)=true):i∉r∧ck r=true:=by simp_all [ck,Bool.and_eq_true,Bool.not_eq_true',List.contains_iff_mem]
theorem jv{L:List Ao}(hn:ck (L.map (·.1))=true){i:Nat}{s:Option Nat}{o:Ob}(hm:(i,s,o)∈L):eZ ψ L i=kj ψ s:=by
 induction L with
 |nil=>cases hm
 |cons e r ih =>
  obtain⟨j,s',o'⟩:=e;obtain⟨h1,h2⟩:=nH hn;simp only[eZ]
  grind
theorem X7{L:List Ao}(hs:ck (L.filterMap (·.2.1))=true){i j s:Nat}{o o':Ob}(h1:(i,some s,o)∈L)(h2:(j,some s,o')∈L):i=j∧o=o':=by
 induction L with
 |nil=>cases h1
 |cons e r ih =>
  obtain⟨k,s',o''⟩:=e;have mem:∀{k:Nat} {o:Ob},(k,some s,o)∈r→s∈r.filterMap (·.2.1):=fun h=>ad3.2 ⟨_,h,rfl⟩;rw[List.filterMap_cons]at hs
  cases s' with
  |none =>simp_all
  |some s' =>
   simp only[]at hs;obtain⟨h3,h4⟩:=nH hs
   grind
def JZ:(ok:OK)→ok.T→Prop
 |.row _ _,xs=>xs=[]
 |_,_=>False
theorem JZ.owns:∀{ok:OK} {xs:ok.T},JZ ok xs→jH Z w ok (.slice none 0 0) xs
 |.row ty k,xs,h=>by have h:xs=[]:=h;subst h;exact⟨[],⟨by simp,.inl ⟨rfl,none,rfl⟩⟩,fun i x hx=>by simp at hx⟩
 |.map _ _,_,h=>h.elim
 |.iter _ _,_,h=>h.elim
 |.oH,_,h=>h.elim
def wP(Z:Nat→Prop)(ψ:Nat→Value)(h:Hp)(w:World)(h':Hp)(ψ':Nat→Value):Ao→Prop
 |(_,some s,.own ok xs)=>h s=some (.own ok xs)
 |(_,none,.own ok xs)=>JZ ok xs
 |(_,some s,.box ty cs')=>(∃cs,h s=some (.box ty cs))∧∀gg vs,ψ s=.pointer (some ⟨gg,0,none⟩)→w.heap[gg]? = some (.cells vs ty (0,0))→ax Z ψ' h' w cs' vs.toList
 |(_,none,.box _ _)=>False
theorem Good.rename(g:Good Z ψ h w B0 O){L:List Ao}(hn:ck (L.map (·.1))=true)(hs:ck (L.filterMap (·.2.1))=true)(kM:∀e∈L,wP Z ψ h w (dP L).get (eZ ψ L) e) :
  Good Z (eZ ψ L) (dP L).get w B0 O:=by
 have src:∀id b,(dP L).get id≠none→ob (eZ ψ L id)=some b→∃s o,(id,some s,o)∈L∧h s≠none∧ob (ψ s)=some b:=fun id b h1 h2=>by
  obtain⟨o,ho⟩:=acb.1 h1;obtain⟨s,hm⟩:=oX ho;rw[jv hn hm]at h2
  cases s with
  |none=>simp[kj,ob]at h2
  |some s =>
   have h3:=kM _ hm;refine⟨s,o,hm,?_,h2⟩
   cases o with
   |box ty cs=>obtain⟨⟨cs0,h4⟩,_⟩:=h3;rw[h4];simp
   |own ok xs=>rw[show h s=some (.own ok xs) from h3];simp
 refine⟨fun id ty cs hb=>?_,fun id ok xs hb=>?_,fun id b h1 h2=>?_,fun id oO b h1 h2 h3 h4=>?_,g.kg⟩
 ·obtain⟨s,hm⟩:=oX hb;have h3:=kM _ hm;rw[jv hn hm]
  cases s with
  |none=>exact h3.elim
  |some s =>obtain⟨⟨cs0,h4⟩,h5⟩:=h3;obtain⟨gg,vs,h6,h7,h8,h9⟩:=g.box s ty cs0 h4;exact⟨gg,vs,h6,h7,h5 gg vs h6 h7,h9⟩
 ·obtain⟨s,hm⟩:=oX hb;have h3:=kM _ hm;rw[jv hn hm]
  cases s with
  |none=>exact JZ.owns h3
  |some s=>exact g.row s ok xs h3
 ·obtain⟨s,o,hm,h3,h4⟩:=src id b h1 h2;exact g.live s b h3 h4
 ·obtain⟨s,o,hm,h5,h6⟩:=src id b h1 h3;obtain⟨s',o',ZF,h5',h6'⟩:=src oO b h2 h4;have:=g.apart s s' b h5 h5' h6 h6'
  grind [X7]
def By(hh:Heap)(i:Nat):List AV:=match hh.get i with
 |some (.box _ cs)=>cs
 |_=>[]
def dQ:(dK:List CK)→Nat→List AV→rL dK→List Ao
 |[],_,_,_=>[]
 |.val k::r,n,cs,x=>dQ r (n+1) (cs.drop k.sz) x.2
 |.own ok::r,n,cs,x=>(n,(qa (cs.headD .no)).head?,.own ok x.1)::dQ r (n+1) cs.tail x.2
def eT:(b:BK)→Heap→Nat→Nat→Nat→b.T→List Ao
 |.box ty c,hh,i,i',n,x=>(i',some i,.box ty (aI c n x))::dQ c n (By hh i) x
 |.own ok,_,i,i',_,x=>[(i',some i,.own ok x)]
def cC:(bs:List BK)→Heap→List Nat→List Nat→Nat→z8 bs→List Ao
 |b::r,hh,i::is,i'::is',n,x=>eT b hh i i' n x.1++cC r hh is is' (n+16) x.2
 |_,_,_,_,_,_=>[]
theorem nI:∀(dK:List CK) (n:Nat) (cs:List AV) (x:rL dK),dP (dQ dK n cs x)=ba dK n x
 |[],_,_,_=>rfl
 |.val k::r,n,cs,x=>nI r (n+1) _ x.2
 |.own ok::r,n,cs,x=>by simp only[dQ,ba,dP,List.map_cons];rw[←nI r (n+1) cs.tail x.2];rfl
theorem lS:∀(dK:List CK) (n:Nat) (cs:List AV) (x:rL dK),(dQ dK n cs x).map (·.1)=cy dK n
 |[],_,_,_=>rfl
 |.val k::r,n,cs,x=>lS r (n+1) _ x.2
 |.own ok::r,n,cs,x=>by simp only[dQ,cy,List.map_cons];rw[lS r (n+1) cs.tail x.2]
theorem yK(c:AV):(qa c).head?.toList=qa c:=by cases c<;>rfl
theorem dU{α β:Type}(f:α→Option β)(a:α)(l:List α):(a::l).filterMap f=(f a).toList++l.filterMap f:=by
 grind
theorem qj{k:K}{r:List CK}{hh:Heap}{cs:List AV}{x:rL (.val k::r)}(hd:cS (.val k::r) hh cs=some x):dz k ((cs.take k.sz).map (cX hh))=some x.1∧cS r hh (cs.drop k.sz)=some x.2:=by
 have e:cS (.val k::r) hh cs=(match dz k ((cs.take k.sz).map (cX hh)),cS r hh (cs.drop k.sz) with
  |some x,some y=>some ((x,y):k.T×rL r)
  |_,_=>none):=by rfl
 rw[e]at hd;clear e;generalize dz k ((cs.take k.sz).map (cX hh))=o1 at hd ⊢;generalize cS r hh (cs.drop k.sz)=o2 at hd ⊢
 cases o1 with
 |none=>cases hd
 |some x1 =>
  cases o2 with
  |none=>cases hd
  |some y1=>have:=ac0 hd;subst this;exact⟨rfl,rfl⟩
theorem mB{ok:OK}{r:List CK}{hh:Heap}{cs:List AV}{x:rL (.own ok::r)}(hd:cS (.own ok::r) hh cs=some x):∃c cs',cs=c::cs'∧ep hh ok c=some x.1∧cS r hh cs'=some x.2:=by
 cases cs with
 |nil=>cases hd
 |cons c cs =>
  refine⟨c,cs,rfl,?_⟩;have e:cS (.own ok::r) hh (c::cs)=(match ep hh ok c,cS r hh cs with
   |some x,some y=>some ((x,y):ok.T×rL r)
   |_,_=>none):=rfl
  rw[e]at hd;clear e;generalize ep hh ok c=o1 at hd ⊢;generalize cS r hh cs=o2 at hd ⊢
  cases o1 with
  |none=>cases hd
  |some x1 =>
   cases o2 with
   |none=>cases hd
   |some y1=>have:=ac0 hd;subst this;exact⟨rfl,rfl⟩
theorem qk:∀(dK:List CK) (n:Nat) (hh:Heap) (cs:List AV) (x:rL dK),cS dK hh cs=some x→(dQ dK n cs x).filterMap (·.2.1)=gj dK cs
 |[],_,_,cs,_,_=>by cases cs<;>rfl
 |.val k::r,n,hh,cs,x,hd=>by
  obtain⟨_,h2⟩:=qj hd;have e:gj (.val k::r) cs=gj r (cs.drop k.sz):=by cases cs<;>rfl
  rw[e];exact qk r (n+1) hh _ x.2 h2
 |.own ok::r,n,hh,cs,x,hd=>by obtain⟨c,cs',rfl,_,h2⟩:=mB hd;simp only[dQ,gj];rw[dU];simp only[List.headD_cons,List.tail_cons];rw[yK,qk r (n+1) hh cs' x.2 h2]
theorem mC{hh:Heap}{ok:OK}{c:AV}{xs:ok.T}(ho:ep hh ok c=some xs):(c=.fO∧JZ ok xs)∨∃id,c=.bL id∧hh.get id=some (.own ok xs):=by
 unfold ep at ho
 split at ho
 ·cases ok with
  |row _ _=>cases ho;exact .inl ⟨rfl,rfl⟩
  |_=>cases ho
 ·grind
 ·cases ho
theorem HX{hh:Heap}{ok:OK}{c:AV}{xs:ok.T}{v:Value}(ho:ep hh ok c=some xs)(hr:aC Z ψ hh.get w c v){n:Nat}(j4:h' n≠none→ψ' n=kj ψ (qa c).head?):aC Z' ψ' h' w' (.bL n) v:=by
 rcases mC ho with⟨rfl,_⟩|⟨id,rfl,hg⟩
 ·simp only[aC]at hr ⊢;subst hr;exact⟨⟨rfl,rfl⟩,fun hn=>(j4 hn).symm⟩
 ·simp only[aC]at hr ⊢;refine⟨hr.1,fun hn=>?_⟩;rw[j4 hn];exact hr.2 (by rw[hg];simp)
theorem tG{hh:Heap}(g:Good Z ψ hh.get w B0 O)(hz:∀b,Z b→Z' b):∀(dK:List CK) (n:Nat) (cs:List AV) (x:rL dK) (vs:List Value),cS dK hh cs=some x →(∀id b,AV.bL id∈q8 dK cs→hh.get id≠none→ob (ψ id)=some b→Z' b)→(∀e∈dQ dK n cs x,h' e.1≠none→ψ' e.1=kj ψ e.2.1) → ax Z ψ hh.get w cs vs→ax Z' ψ' h' w (aI dK n x) vs
 |[],n,cs,x,vs,hd,_,_,hr=>by
  cases cs with
  |nil=>simpa only[aI,ax] using hr
  |cons c cs=>cases hd
 |.val k::r,n,cs,x,vs,hd,hf,j4,hr=>by
  obtain⟨h1,h2⟩:=qj hd;have e:q8 (.val k::r) cs=cs.take k.sz++q8 r (cs.drop k.sz):=by cases cs<;>rfl
  rw[e]at hf;have tw:ax Z ψ hh.get w (cs.take k.sz++cs.drop k.sz) vs:=by rw[List.take_append_drop];exact hr
  obtain⟨us,ws,rfl,h3,h4⟩:=ax.split tw;simp only[aI];have h5:=oR (Z':=Z') g hz (fun id b bM=>hf id b (ab1 _ bM)) h3;exact ax.append (iV (dN h1 h5)) (tG g hz r (n+1) (cs.drop k.sz) x.2 ws h2 (fun id b bM=>hf id b (abV _ bM)) j4 h4)
 |.own ok::r,n,cs,x,vs,hd,hf,j4,hr=>by obtain⟨c,cs',rfl,h1,h2⟩:=mB hd;simp only[ax]at hr;obtain⟨v,us,rfl,h3,h4⟩:=hr;simp only[aI,ax];refine⟨v,us,rfl,HX h1 h3 (fun hn=>j4 (n,_,_) (by simp only[dQ];exact aco) hn),?_⟩;exact tG g hz r (n+1) cs' x.2 us h2 hf (fun e he=>j4 e (by simp only[dQ];exact abC _ he)) h4
theorem fF{b:BK}{r:List BK}{hh:Heap}{i:Nat}{is:List Nat}{x:z8 (b::r)}(hd:dn (b::r) hh (i::is)=some x):rP b hh i=some x.1∧dn r hh is=some x.2:=by
 have e:dn (b::r) hh (i::is)=(match rP b hh i,dn r hh is with
   |some x,some y=>some ((x,y):b.T×z8 r)
   |_,_=>none):=rfl
 grind
theorem tH{ty:TypeId}{c:List CK}{hh:Heap}{i:Nat}{x:rL c}(hd:rP (.box ty c) hh i=some x):∃cs,hh.get i=some (.box ty cs)∧cS c hh cs=some x:=by
 grind [rP,JE]
theorem kl{hh:Heap}{ok:OK}{i:Nat}{x:ok.T}(h:ep hh ok (.bL i)=some x):hh.get i=some (.own ok x):=by
 rcases mC h with⟨h,_⟩|⟨id,h,hg⟩
 ·cases h
 simp_all
theorem Gm{ok:OK}{hh:Heap}{i:Nat}{x:ok.T}(hd:rP (.own ok) hh i=some x):hh.get i=some (.own ok x):=kl hd
theorem ql{hh:Heap}{i:Nat}{ty:TypeId}{cs:List AV}(hg:hh.get i=some (.box ty cs)):By hh i=cs:=by grind [By]
theorem HY(b:BK){hh:Heap}{i i' n:Nat}(x:b.T):dP (eT b hh i i' n x)=kc b i' n x:=by
 cases b with
 |box ty c=>grind [eT,kc,nI,By,dP]
 |own ok=>rfl
theorem Fc(b:BK){hh:Heap}{i i' n:Nat}(x:b.T):(eT b hh i i' n x).map (·.1)=i'::cy b.dK n:=by
 cases b with
 |box ty c=>simp only[eT,List.map_cons,BK.dK];rw[lS]
 |own ok=>simp[eT,BK.dK,cy]
theorem J0(b:BK){hh:Heap}{i i' n:Nat}{x:b.T}(hd:rP b hh i=some x):(eT b hh i i' n x).filterMap (·.2.1)=nC b hh i:=by
 cases b with
 |box ty c =>
  grind [tH,eT,nC,dU,ql,qk]
 |own ok=>rfl
theorem jI:∀(bs:List BK) (hh:Heap) (is is':List Nat) (n:Nat) (x:z8 bs),dn bs hh is=some x→is'.length=bs.length→dP (cC bs hh is is' n x)=bG bs is' n x
 |[],hh,is,is',n,x,_,hl=>by cases is'<;>simp[cC,bG,dP]
 |b::r,hh,[],is',n,x,hd,_=>by cases hd
 |b::r,hh,i::is,[],n,x,_,hl=>by simp at hl
 |b::r,hh,i::is,i'::is',n,x,hd,hl=>by obtain⟨_,h3⟩:=fF hd;have ih:=jI r hh is is' (n+16) x.2 h3 (by simpa using hl);simp only[cC,bG];rw[←ih,←HY b (hh:=hh) (i:=i) x.1];simp[dP]
theorem iu:∀(bs:List BK) (hh:Heap) (is is':List Nat) (n:Nat) (x:z8 bs),dn bs hh is=some x→is'.length=bs.length→(cC bs hh is is' n x).map (·.1)=b7 bs is' n
 |[],hh,is,is',n,x,_,hl=>by cases is'<;>simp[cC,b7]
 |b::r,hh,[],is',n,x,hd,_=>by cases hd
 |b::r,hh,i::is,[],n,x,_,hl=>by simp at hl
 |b::r,hh,i::is,i'::is',n,x,hd,hl=>by obtain⟨_,h3⟩:=fF hd;have ih:=iu r hh is is' (n+16) x.2 h3 (by simpa using hl);simp only[cC,b7,List.map_append];rw[ih,Fc,List.cons_append]
theorem kT:∀(bs:List BK) (hh:Heap) (is is':List Nat) (n:Nat) (x:z8 bs),dn bs hh is=some x→is'.length=bs.length→(cC bs hh is is' n x).filterMap (·.2.1)=dd bs hh is
 |[],hh,is,is',n,x,_,hl=>by cases is'<;>cases is<;>simp[cC,dd]
 |b::r,hh,[],is',n,x,hd,_=>by cases hd
 |b::r,hh,i::is,[],n,x,_,hl=>by simp at hl
 |b::r,hh,i::is,i'::is',n,x,hd,hl=>by obtain⟨h1,h3⟩:=fF hd;have ih:=kT r hh is is' (n+16) x.2 h3 (by simpa using hl);simp only[cC,dd];rw[List.filterMap_append,ih,J0 b h1]
theorem tI{hd:Hp}{hh:Heap}:∀(dK:List CK) (n:Nat) (cs:List AV) (x:rL dK),cS dK hh cs=some x→(∀s∈gj dK cs,hd s=hh.get s)→∀e∈dQ dK n cs x,wP Z ψ hd w h' ψ' e
 |[],n,cs,x,_,_,e,he=>by simp[dQ]at he
 |.val k::r,n,cs,x,Xw,hk,e,he=>by
  obtain⟨_,h2⟩:=qj Xw;have e0:gj (.val k::r) cs=gj r (cs.drop k.sz):=by cases cs<;>rfl
  rw[e0]at hk;exact tI r (n+1) _ x.2 h2 hk e he
 |.own ok::r,n,cs,x,Xw,hk,e,he=>by
  obtain⟨c,cs',rfl,h1,h2⟩:=mB Xw;simp only[dQ,List.headD_cons,List.tail_cons]at he;simp only[gj]at hk;rcases abL.1 he with rfl|he
  ·rcases mC h1 with⟨rfl,h3⟩|⟨id,rfl,h3⟩
   ·exact h3
   ·show hd id=some (.own ok x.1);rw[hk id (List.mem_append_left _ (by simp[qa])),h3]
  ·exact tI r (n+1) cs' x.2 h2 (fun s hs=>hk s (abV _ hs)) e he
theorem MF{hd:Hp}{hh:Heap}(g:Good Z ψ hh.get w B0 O)(hz:∀b,Z b→Z' b)(b:BK){i i' n:Nat}{x:b.T}(Xw:rP b hh i=some x) (hf:∀id g,AV.bL id∈B5 b hh i→hh.get id≠none→ob (ψ id)=some g→Z' g) (hk:∀s∈nC b hh i,hd s=hh.get s) (j4:∀e∈eT b hh i i' n x,h' e.1≠none→ψ' e.1=kj ψ e.2.1) :
  ∀e∈eT b hh i i' n x,wP Z' ψ hd w h' ψ' e:=by
 intro e he
 cases b with
 |box ty c =>
  obtain⟨cs,h1,h2⟩:=tH Xw;simp only[B5,nC,h1]at hf hk;have adH:∀e∈dQ c n cs x,h' e.1≠none→ψ' e.1=kj ψ e.2.1:=fun e he=>j4 e (by grind [eT,ql,List.mem_cons_of_mem]);simp only[eT]at he;rcases abL.1 he with rfl|he
  ·refine⟨⟨cs,by simp_all⟩,fun gg vs h4 h5=>?_⟩;obtain⟨gg',iW,h6,h7,h8,_⟩:=g.box i ty cs h1
   grind [tG]
  grind [ql,tI,List.mem_cons_of_mem]
 |own ok =>
  have h1:=Gm Xw;simp only[eT,List.mem_singleton]at he;subst he;show hd i=some (.own ok x)
  grind [nC]
theorem mD{hd:Hp}{hh:Heap}(g:Good Z ψ hh.get w B0 O)(hz:∀b,Z b→Z' b):∀(bs:List BK) (is is':List Nat) (n:Nat) (x:z8 bs),dn bs hh is=some x →(∀id b,AV.bL id∈gD bs hh is→hh.get id≠none→ob (ψ id)=some b→Z' b)→(∀s∈dd bs hh is,hd s=hh.get s)→(∀e∈cC bs hh is is' n x,h' e.1≠none→ψ' e.1=kj ψ e.2.1) → ∀e∈cC bs hh is is' n x,wP Z' ψ hd w h' ψ' e
 |[],is,is',n,x,_,_,_,_,e,he=>by simp[cC]at he
 |b::r,[],is',n,x,Xw,_,_,_,e,he=>by cases Xw
 |b::r,i::is,[],n,x,_,_,_,_,e,he=>by simp[cC]at he
 |b::r,i::is,i'::is',n,x,Xw,hf,hk,j4,e,he=>by
  obtain⟨h1,h3⟩:=fF Xw;simp only[gD,dd]at hf hk;simp only[cC]at he j4;rcases acS.1 he with he|he
  ·exact MF g hz b h1 (fun id g bM=>hf id g (ab1 _ bM)) (fun s hs=>hk s (ab1 _ hs)) (fun e he=>j4 e (ab1 _ he)) e he
  ·exact mD g hz r is is' (n+16) x.2 h3 (fun id b bM=>hf id b (abV _ bM)) (fun s hs=>hk s (abV _ hs)) (fun e he=>j4 e (abV _ he)) e he
theorem tJ{kept:List Nat}{lC:List AV}(hk:yy kept lC=true):ck kept=true∧∀(hh:Heap) s,s∈kept→(cO hh lC).get s=hh.get s:=by
 unfold yy at hk;rw[Bool.and_eq_true]at hk
 grind [qe,tC,List.all_eq_true]
theorem yL{hh:Heap}{lC:List AV}{kept:List Nat}(g:Good Z ψ hh.get w B0 O)(hk:yy kept lC=true){L:List Ao}(hn:ck (L.map (·.1))=true)(hs:L.filterMap (·.2.1)=kept) (kM:∀e∈L,wP (rJ Z ψ hh.get lC) ψ (cO hh lC).get w (dP L).get (eZ ψ L) e):Good (rJ Z ψ hh.get lC) (eZ ψ L) (dP L).get w B0 O :=(ji g lC).rename hn (by grind [tJ]) kM
theorem Bz{L:List Ao}(hn:ck (L.map (·.1))=true):∀e∈L,(dP L).get e.1≠none→eZ ψ L e.1=kj ψ e.2.1:=fun⟨i,s,o⟩ he _=>jv hn he
theorem nJ(A B:List Ao):dP (A++B)=dP A++dP B:=by simp[dP]
theorem BA{hh:Heap}{i s i':Nat}{v:Value}(hr:aC Z ψ hh.get w (.ref i s 0 0) v)(hi:hh.get i≠none)(j4:h' i'≠none→ψ' i'=ψ i):aC Z' ψ' h' w' (.ref i' 0 0 0) v:=by simp only[aC]at hr ⊢;obtain⟨a,rfl,ha⟩:=hr;refine⟨a,rfl,fun hn=>?_⟩;rw[j4 hn,ha hi];simp
theorem qm{v:AV}{i:Nat}(h:Ga v=some i):∃s,v=.ref i s 0 0:=by
 unfold Ga at h
 grind
theorem jJ{hh:Heap}:∀(bs:List BK) (is:List Nat) (x:z8 bs),dn bs hh is=some x→is.length=bs.length∧∀i∈is,hh.get i≠none
 |[],[],_,_=>⟨rfl,fun i hi=>by cases hi⟩
 |[],_::_,_,h=>by cases h
 |_::_,[],_,h=>by cases h
 |b::r,i::is,x,h=>by
  obtain⟨h1,h3⟩:=fF h;obtain⟨h4,h5⟩:=jJ r is x.2 h3;refine⟨by simp[h4],fun j hj=>?_⟩;rcases abL.1 hj with rfl|hj
  ·cases b with
   |box ty c=>grind [tH]
   |own ok=>rw[Gm h1];simp
  simp_all
theorem kU{hh:Heap}:∀(bs:List BK) (is is':List Nat) (n:Nat) (x:z8 bs),is.length=bs.length→∀p∈is.zip is',∃o,(p.2,some p.1,o)∈cC bs hh is is' n x
 |[],is,is',n,x,hl,p,hp=>by simp_all
 |b::r,[],is',n,x,hl,p,hp=>by simp at hp
 |b::r,i::is,[],n,x,hl,p,hp=>by simp at hp
 |b::r,i::is,i'::is',n,x,hl,p,hp=>by
  simp only[List.zip_cons_cons]at hp;simp only[cC];rcases abL.1 hp with rfl|hp
  ·cases b with
   |box ty c=>grind [List.mem_append_left,eT,List.mem_cons_self]
   |own ok=>grind [List.mem_append_left,eT,List.mem_cons_self]
  ·obtain⟨o,ho⟩:=kU r is is' (n+16) x.2 (by simpa using hl) p hp;exact⟨o,abV _ ho⟩
theorem Od{hd:Hp}{hh:Heap}{ok:OK}{c:AV}{xs:ok.T}(ho:ep hh ok c=some xs)(hk:∀s∈qa c,hd s=hh.get s){n:Nat}:wP Z ψ hd w h' ψ' (n,(qa c).head?,.own ok xs):=by
 rcases mC ho with⟨rfl,h3⟩|⟨id,rfl,h3⟩
 ·exact h3
 ·show hd id=some (.own ok xs)
  grind [id,qa]
end Go.Vs
namespace Go.Vs
variable {P:Program} {Z Z':Nat→Prop} {ψ ψ':Nat→Value} {h h':Hp} {w w':World} {B0:Nat} {O:Nat→Prop} {N:Nat→Prop}
def gK:Hp:=fun _=>none
def Mf:Nat→Value:=fun _=>undef
def Gn(g:aP)(x:JC (lF g.ps)):List AV:=(aX g.ps [] 0 x).map (·.2)
def adI(P:Program)(f:FuncId)(g:aP)(x:g.A)(y:g.B):Prop :=∀(Z:Nat→Prop) (w:World) (kV:List Value),(∀b,Z b→b<w.heap.size)→ax Z Mf gK w (Gn g x.1) kV → Calls P (f%1000) kV.toArray w fun e w'=>∃v Z' ψ',e=.returned v∧(∀b,Z b→Z' b)∧(∀b,Z' b→Z b∨w.heap.size≤b)∧cP Mf gK w w' ∧ Good Z' ψ' (au g.rs 3000 y.1).get w' w.heap.size (fun _=>False)∧aC Z' ψ' (au g.rs 3000 y.1).get w' (fk (aZ g.rs [] 2000 3000 y.1)) v
theorem Ap{p:PK}{ps:List PK}{vs:List AV}(hi:cK (p::ps) vs=some []):∃a r,vs=a::r∧cK ps r=some []∧(p≠.ref∧p≠.own)∧(∀f n,p=.uF f n→a=.fn f [])∧(∀n,p=.agg n→a=.agg []):=by
 cases vs with
 |nil=>cases p<;>simp[cK]at hi
 |cons a r =>
  cases p with
  |val k=>exact⟨a,r,rfl,by simpa only[cK] using hi,by simp,by simp,by simp⟩
  |ref =>
   simp only[cK]at hi
   split at hi<;>simp at hi
  |own =>
   cases a<;>simp only[cK]at hi<;>first|(cases hi;done)|skip
   split at hi<;>simp at hi
  |uF f n =>
   cases a<;>simp only[cK]at hi<;>first|(cases hi;done)|skip
   rename_i f' cap
   split at hi
   ·rename_i hc;obtain⟨rfl,uR⟩:=hc
    split at hi
    ·rename_i a1 b1 h1 h2;simp only[Option.some.injEq,List.append_eq_nil_iff]at hi;obtain⟨rfl,rfl⟩:=hi;have SQ:cap=[]:=by
      cases cap with
      |nil=>rfl
      |cons c cs=>simp only[kd]at h1;split at h1<;>simp at h1
     subst SQ;exact⟨_,r,rfl,h2,by simp,by rintro f n ⟨⟩;rfl,by simp⟩
    ·cases hi
   ·cases hi
  |agg n =>
   cases a<;>simp only[cK]at hi<;>first|(cases hi;done)|skip
   rename_i cs
   split at hi
   ·split at hi
    ·rename_i a1 b1 h1 h2;simp only[Option.some.injEq,List.append_eq_nil_iff]at hi;obtain⟨rfl,rfl⟩:=hi;have Mx:cs=[]:=by
      cases cs with
      |nil=>rfl
      |cons c cs=>cases c<;>simp only[qb]at h1<;>first|(cases h1;done)|(split at h1<;>simp at h1)
     subst Mx;exact⟨_,r,rfl,h2,by simp,by simp,fun _ _=>rfl⟩
    ·cases hi
   ·cases hi
theorem Aq{k:K}{ps:List PK}{hh:Heap}{a:AV}{r:List AV}{x:k.T×JC (lF ps)}(hv:fB (.val k::ps) hh (a::r)=some x):gY k hh a=some x.1∧fB ps hh r=some x.2:=by
 have e:fB (.val k::ps) hh (a::r)=(match gY k hh a,fB ps hh r with
  |some x,some y=>some ((x,y):k.T×JC (lF ps))
  |_,_=>none):=rfl
 grind
theorem CG{hh:Heap}(g:Good Z ψ hh.get w B0 O)(hz:∀b,Z b→Z' b)(ps:List PK):∀(s:Nat) (vs:List AV) (us:List Value) (x:JC (lF ps)),(∀v∈vs,∀id b,AV.bL id∈v.cells→hh.get id≠none→ob (ψ id)=some b→Z' b) → cK ps vs=some []→fB ps hh vs=some x→ax Z ψ hh.get w vs us→ax Z' Mf gK w ((aX ps [] s x).map (·.2)) us:=by
 induction ps with
 |nil =>
  intro s vs us x _ hi hv hr
  cases vs with
  |nil=>simpa only[aX,List.map_nil,ax] using hr
  |cons a r=>simp[cK]at hi
 |cons p ps ih =>
  intro s vs us x hb hi hv hr;obtain⟨a,r,rfl,yl,X8,abi,abj⟩:=Ap hi;simp only[ax]at hr;obtain⟨u,jt,rfl,h3,h4⟩:=hr
  cases p with
  |val k =>obtain⟨h1,h2⟩:=Aq hv;simp only[aX,List.map_cons,ax];exact⟨u,jt,rfl,tD (Z':=Z') (ψ':=Mf) (h':=gK) g hz (hb a aco) h1 h3,ih (s+1) r jt x.2 (fun v hv=>hb v (abC _ hv)) yl h2 h4⟩
  |ref=>exact absurd rfl X8.1
  |own=>exact absurd rfl X8.2
  |uF f n =>have ha:=abi f n rfl;subst ha;have h2:fB ps hh r=some x:=hv;simp only[aX,List.map_cons,ax,List.take_nil,List.map_nil,List.drop_nil];simp only[aC,ax]at h3 ⊢;exact⟨u,jt,rfl,h3,ih (s+1) r jt x (fun v hv=>hb v (abC _ hv)) yl h2 h4⟩
  |agg n =>have ha:=abj n rfl;subst ha;have h2:fB ps hh r=some x:=hv;simp only[aX,List.map_cons,ax,List.take_nil,List.map_nil,List.drop_nil];simp only[aC,ax]at h3 ⊢;exact⟨u,jt,rfl,h3,ih (s+1) r jt x (fun v hv=>hb v (abC _ hv)) yl h2 h4⟩
theorem Good.adJ(g:Good Z ψ h w B0 O)(k:cP Mf gK w w')(hz:∀b,Z b→Z' b)(Cf:∀b,Z' b→Z b∨w.heap.size≤b)(ajl:∀b,Z' b→b<w'.heap.size) (hold:∀id,¬N id→h' id=h id∧ψ' id=ψ id) (bu:∀id ty cs,h id=some (.box ty cs)→aD (fun i=>¬N i) cs) (aa6:∀id ty cs,N id→h' id=some (.box ty cs)→False) (oS:∀id ok xs,N id→h' id=some (.own ok xs)→jH Z' w' ok (ψ' id) xs) (Gd:∀id b,N id→h' id≠none→ob (ψ' id)=some b→w.heap.size≤b∧¬Z' b) (aa7:∀id oO b,N id→N oO→h' id≠none→h' oO≠none→ob (ψ' id)=some b→ob (ψ' oO)=some b→id=oO) (hB:B0≤w.heap.size) :
  Next Z ψ h w B0 O N Z' ψ' h' w':=by
 have cH:∀b,b<w.heap.size→w'.heap[b]? = w.heap[b]? := fun b hb=>k.block b hb (fun⟨id,h1,_⟩=>h1 rfl);have sm:cw Z w w':=fun b hb=>cH b (g.kg b hb);have rB:∀id,h' id≠none→(h id≠none∧ψ' id=ψ id)∨N id:=fun id bM=>by
  grind
 have Ge:∀id b,¬N id→h' id≠none→ob (ψ' id)=some b→Own ψ h b:=fun id b hn h1 h2=>by obtain⟨e1,e2⟩:=hold id hn;exact⟨id,by rwa [e1]at h1,by rwa [e2]at h2⟩
 have kk:cP ψ h w w':=⟨k.os,k.tape,k.output,k.size,fun b hb _=>cH b hb⟩;refine⟨hz,fun b hb=>(Cf b hb).imp (fun h=>h) .inr,kk,rB,⟨fun id ty cs hb=>?_,fun id ok xs hb=>?_,fun id b h1 h2=>?_,fun id oO b h1 h2 h3 h4=>?_,ajl⟩⟩
 ·by_cases hn:N id
  ·simp_all
  ·obtain⟨e1,e2⟩:=hold id hn;rw[e1]at hb;obtain⟨gg,vs,h1,h2,h3,h4⟩:=g.box id ty cs hb;exact⟨gg,vs,by rw[e2,h1],(cH gg (ab3.1 h2).1).trans h2,h3.move hz sm (fun i hp bM=>(rB i bM).resolve_right hp) (bu id ty cs hb),h4⟩
 ·by_cases hn:N id
  ·simp_all
  ·obtain⟨e1,e2⟩:=hold id hn;rw[e1]at hb;rw[e2];exact(g.row id ok xs hb).kept hz sm (fun gg Qf=>cH gg (g.bP ⟨id,by rw[hb];simp,Qf⟩))
 ·by_cases hn:N id
  ·grind
  ·obtain⟨e1,e2⟩:=hold id hn;rw[e1]at h1;rw[e2]at h2;have h3:=g.live id b h1 h2;refine⟨fun hzb=>?_,h3.2⟩;rcases Cf b hzb with h4|h4
   ·exact h3.1 h4
   ·have:=g.bP ⟨id,h1,h2⟩;omega
 ·by_cases hn:N id<;>by_cases Qg:N oO
  ·grind
  ·have:=(Gd id b hn h1 h3).1;have:=g.bP (Ge oO b Qg h2 h4);omega
  ·have:=(Gd oO b Qg h2 h4).1;have:=g.bP (Ge id b hn h1 h3);omega
  ·obtain⟨e1,e2⟩:=hold id hn;obtain⟨e3,e4⟩:=hold oO Qg;rw[e1]at h1;rw[e2]at h3;rw[e3]at h2;rw[e4]at h4;exact g.apart id oO b h1 h2 h3 h4
theorem bK{r:RK}{rs:List RK}(h:(r::rs).all RK.plain=true):rs.all RK.plain=true:=by simp_all
theorem QA{c:List CK}{rs:List RK}(h:(RK.agg c::rs).all RK.plain=true):c.length≤16:=by simp_all [List.all_cons,Bool.and_eq_true,RK.plain,decide_eq_true_eq]
theorem qn:∀(c:List CK) (a:Nat) (x:rL c) (i:Nat),i<a→(ba c a x).get i=none
 |[],_,_,_,_=>rfl
 |.val _::r,a,x,i,h=>by simp only[ba];exact qn r (a+1) x.2 i (by omega)
 |.own ok::r,a,x,i,h=>by simp only[ba,Heap.get];rw[if_neg (by omega)];exact qn r (a+1) x.2 i (by omega)
theorem vH:∀(c:List CK) (a:Nat) (x:rL c) (i:Nat),a+c.length≤i→(ba c a x).get i=none
 |[],_,_,_,_=>rfl
 |.val _::r,a,x,i,h=>by simp only[List.length_cons]at h;simp only[ba];exact vH r (a+1) x.2 i (by omega)
 |.own ok::r,a,x,i,h=>by simp only[List.length_cons]at h;simp only[ba,Heap.get];rw[if_neg (by omega)];exact vH r (a+1) x.2 i (by omega)
theorem vI:∀(c:List CK) (a b:Nat) (x:rL c) (j:Nat),(ba c a x).get (a+j)=(ba c b x).get (b+j)
 |[],_,_,_,_=>rfl
 |.val _::r,a,b,x,0=>by grind [ba,qn]
 |.own ok::r,a,b,x,0=>by simp[ba,Heap.get]
 |.val _::r,a,b,x,j+1=>by simp only[ba];rw[show a+(j+1)=a+1+j by omega,show b+(j+1)=b+1+j by omega];exact vI r (a+1) (b+1) x.2 j
 |.own ok::r,a,b,x,j+1=>by simp only[ba,Heap.get];rw[if_neg (by omega),if_neg (by omega),show a+(j+1)=a+1+j by omega,show b+(j+1)=b+1+j by omega];exact vI r (a+1) (b+1) x.2 j
theorem oo:∀(c:List CK) (a:Nat) (x:rL c) (i:Nat) (ty:TypeId) (cs:List AV),(ba c a x).get i≠some (.box ty cs)
 |[],_,_,_,_,_=>by simp[ba,Heap.get]
 |.val _::r,a,x,i,ty,cs=>by simp only[ba];exact oo r (a+1) x.2 i ty cs
 |.own ok::r,a,x,i,ty,cs=>by
  simp only[ba,Heap.get]
  split
  ·simp
  ·exact oo r (a+1) x.2 i ty cs
theorem si:∀(rs:List RK) (a:Nat) (y:mn rs) (i:Nat),rs.all RK.plain=true→i<a→(au rs a y).get i=none
 |[],a,y,i,_,h=>rfl
 |.val k::r,a,y,i,hp,h=>by simp only[au];exact si r (a+1) y.2 i (bK hp) (by omega)
 |.own ok::r,a,y,i,hp,h=>by simp only[au,Heap.get];rw[if_neg (by omega)];exact si r (a+1) y.2 i (bK hp) (by omega)
 |.eX _ _::r,a,y,i,hp,h=>by simp only[au];exact si r (a+1) y.2 i (bK hp) (by omega)
 |.agg c::r,a,y,i,hp,h=>by have h1:(ba c a y.1).get i=none:=qn c a y.1 i h;have h2:=si r (a+1) y.2 i (bK hp) (by omega);show Heap.get (ba c a y.1++au r (a+1) y.2) i=none;rw[Heap.get_append,h1,h2]
theorem J1:∀(rs:List RK) (a:Nat) (y:mn rs) (i:Nat),rs.all RK.plain=true→a+rs.length+16≤i→(au rs a y).get i=none
 |[],a,y,i,_,h=>rfl
 |.val k::r,a,y,i,hp,h=>by simp only[List.length_cons]at h;simp only[au];exact J1 r (a+1) y.2 i (bK hp) (by omega)
 |.own ok::r,a,y,i,hp,h=>by simp only[List.length_cons]at h;simp only[au,Heap.get];rw[if_neg (by omega)];exact J1 r (a+1) y.2 i (bK hp) (by omega)
 |.eX _ _::r,a,y,i,hp,h=>by simp only[List.length_cons]at h;simp only[au];exact J1 r (a+1) y.2 i (bK hp) (by omega)
 |.agg c::r,a,y,i,hp,h=>by simp only[List.length_cons]at h;have hc:=QA hp;have h1:(ba c a y.1).get i=none:=vH c a y.1 i (by omega);have h2:=J1 r (a+1) y.2 i (bK hp) (by omega);show Heap.get (ba c a y.1++au r (a+1) y.2) i=none;rw[Heap.get_append,h1,h2]
theorem J2:∀(rs:List RK) (a b:Nat) (y:mn rs) (j:Nat),rs.all RK.plain=true→(au rs a y).get (a+j)=(au rs b y).get (b+j)
 |[],_,_,_,_,_=>rfl
 |.val k::r,a,b,y,0,hp=>by simp only[au];rw[si _ _ _ _ (bK hp) (by omega),si _ _ _ _ (bK hp) (by omega)]
 |.eX _ _::r,a,b,y,0,hp=>by simp only[au];rw[si _ _ _ _ (bK hp) (by omega),si _ _ _ _ (bK hp) (by omega)]
 |.own ok::r,a,b,y,0,hp=>by simp[au,Heap.get]
 |.val k::r,a,b,y,j+1,hp=>by simp only[au];rw[show a+(j+1)=a+1+j by omega,show b+(j+1)=b+1+j by omega];exact J2 r (a+1) (b+1) y.2 j (bK hp)
 |.eX _ _::r,a,b,y,j+1,hp=>by simp only[au];rw[show a+(j+1)=a+1+j by omega,show b+(j+1)=b+1+j by omega];exact J2 r (a+1) (b+1) y.2 j (bK hp)
 |.own ok::r,a,b,y,j+1,hp=>by simp only[au,Heap.get];rw[if_neg (by omega),if_neg (by omega),show a+(j+1)=a+1+j by omega,show b+(j+1)=b+1+j by omega];exact J2 r (a+1) (b+1) y.2 j (bK hp)
 |.agg c::r,a,b,y,j,hp=>by
  have h1:(ba c a y.1).get (a+j)=(ba c b y.1).get (b+j):=vI c a b y.1 j;have h2:(au r (a+1) y.2).get (a+j)=(au r (b+1) y.2).get (b+j):=by
   cases j with
   |zero=>rw[si _ _ _ _ (bK hp) (by omega),si _ _ _ _ (bK hp) (by omega)]
   |succ j =>rw[show a+(j+1)=a+1+j by omega,show b+(j+1)=b+1+j by omega];exact J2 r (a+1) (b+1) y.2 j (bK hp)
  show Heap.get (ba c a y.1++au r (a+1) y.2) (a+j)=Heap.get (ba c b y.1++au r (b+1) y.2) (b+j);rw[Heap.get_append,Heap.get_append,h1,h2]
theorem tK:∀(rs:List RK) (a:Nat) (y:mn rs) (i:Nat) (ty:TypeId) (cs:List AV),rs.all RK.plain=true→(au rs a y).get i≠some (.box ty cs)
 |[],_,_,_,_,_,_=>by simp[au,Heap.get]
 |.val k::r,a,y,i,ty,cs,hp=>by simp only[au];exact tK r (a+1) y.2 i ty cs (bK hp)
 |.eX _ _::r,a,y,i,ty,cs,hp=>by simp only[au];exact tK r (a+1) y.2 i ty cs (bK hp)
 |.own ok::r,a,y,i,ty,cs,hp=>by
  simp only[au,Heap.get]
  split
  ·simp
  ·exact tK r (a+1) y.2 i ty cs (bK hp)
 |.agg c::r,a,y,i,ty,cs,hp=>by
  have h1:(ba c a y.1).get i≠some (.box ty cs):=oo c a y.1 i ty cs;show Heap.get (ba c a y.1++au r (a+1) y.2) i≠some (.box ty cs);rw[Heap.get_append]
  split
  ·rename_i o ho;rw[ho]at h1;exact h1
  ·exact tK r (a+1) y.2 i ty cs (bK hp)
theorem mE(p:Nat→Prop):∀(k:K) (x:k.T),aD p (enc k x)
 |.int _,_=>by simp only[enc,aD,aM];exact⟨trivial,trivial⟩
 |.bool,_=>by simp only[enc,aD,aM];exact⟨trivial,trivial⟩
 |.str,_=>by simp only[enc,aD,aM];exact⟨trivial,trivial⟩
 |.sl _,_=>by simp only[enc,aD,aM];exact⟨trivial,trivial⟩
 |.mp _ _,_=>by simp only[enc,aD,aM];exact⟨trivial,trivial⟩
 |.fn _,_=>by simp only[enc,aD,aM];exact⟨trivial,trivial⟩
 |.pair a b,x=>by
  simp only[enc];have h1:=mE p a x.1;have h2:=mE p b x.2
  revert h1
  generalize enc a x.1=l
  induction l with
  |nil=>intro _;exact h2
  |cons c r ih=>intro h;simp only[List.cons_append,aD]at h ⊢;exact⟨h.1,ih h.2⟩
 |.one k,x=>by simp only[enc];exact mE p k x
theorem oY(p:Nat→Prop):∀(k:K) (x:k.T),aM p (cj k x)
 |.int _,_=>by simp only[cj,aM]
 |.bool,_=>by simp only[cj,aM]
 |.str,_=>by simp only[cj,aM]
 |.sl _,_=>by simp only[cj,aM]
 |.mp _ _,_=>by simp only[cj,aM]
 |.fn _,_=>by simp only[cj,aM,aD]
 |.pair a b,x=>by simp only[cj,aM];exact mE p (.pair a b) x
 |.one k,x=>by simp only[cj,aM];exact mE p (.one k) x
theorem Ta{k:K}{x:k.T}{v:Value}(hr:aC Z ψ h w (cj k x) v):aC Z ψ' h' w (cj k x) v :=hr.move (p:=fun _=>False) (fun _ h=>h) (cw.refl _ _) (fun _ hp _=>hp.elim) (oY _ k x)
theorem X9(r:RK)(rs:List RK)(b:Nat)(y:mn (r::rs))(i:Nat)(hi:(au rs (b+1) y.2).get i≠none):(au (r::rs) b y).get i≠none:=by
 cases r with
 |val k=>exact hi
 |eX _ _=>exact hi
 |own ok=>grind [au,Heap.get]
 |agg c =>
  grind [Heap.get,ba,au,Heap.get_append]
theorem MG(c:List CK):∀{H:Hp} {a b:Nat} {x:rL c} {vs:List Value},(∀j,(ba c b x).get (b+j)≠none→h' (b+j)≠none→H (a+j)≠none∧ψ' (b+j)=ψ (a+j)) → ax Z ψ H w (aI c a x) vs→ax Z ψ' h' w (aI c b x) vs:=by
 induction c with
 |nil=>grind [aI,ax]
 |cons k c ih =>
  intro H a b x vs hH hr
  cases k with
  |val k =>have tw:ax Z ψ H w (enc k x.1++aI c (a+1) x.2) vs:=hr;obtain⟨us,ws,rfl,h1,h2⟩:=tw.split;show ax Z ψ' h' w (enc k x.1++aI c (b+1) x.2) (us++ws);refine(h1.move (p:=fun _=>False) (fun _ h=>h) (cw.refl _ _) (fun _ hp _=>hp.elim) (mE _ k x.1)).append (ih (fun j hj bw=>?_) h2);have:=hH (j+1);rw[show b+(j+1)=b+1+j by omega,show a+(j+1)=a+1+j by omega]at this;exact this hj bw
  |own ok =>
   have tw:ax Z ψ H w (.bL a::aI c (a+1) x.2) vs:=hr;simp only[ax]at tw;obtain⟨v,us,rfl,h1,h2⟩:=tw;show ax Z ψ' h' w (.bL b::aI c (b+1) x.2) (v::us);simp only[ax];refine⟨v,us,rfl,?_,ih (fun j hj bw=>?_) h2⟩
   ·simp only[aC]at h1 ⊢;refine⟨h1.1,fun bw=>?_⟩;obtain⟨h3,h4⟩:=hH 0 (by simp[ba,Heap.get]) bw;simp_all
   ·have:=hH (j+1);rw[show b+(j+1)=b+1+j by omega,show a+(j+1)=a+1+j by omega]at this;refine this ?_ bw;have e:(ba (.own ok::c) b x).get (b+1+j)=(ba c (b+1) x.2).get (b+1+j):=by simp only[ba,Heap.get];grind
    simp_all
theorem Tb(rs:List RK):∀{H:Hp} {n m a b:Nat} {y:mn rs} {vs:List Value},rs.all RK.plain=true→(∀j,(au rs b y).get (b+j)≠none→h' (b+j)≠none→H (a+j)≠none∧ψ' (b+j)=ψ (a+j)) → ax Z ψ H w (aZ rs [] n a y) vs→ax Z ψ' h' w (aZ rs [] m b y) vs:=by
 induction rs with
 |nil=>grind [aZ,ax]
 |cons r rs ih =>
  intro H n m a b y vs hp hH hr;have hpa:=hp;simp only[List.all_cons,Bool.and_eq_true]at hp;have hH':∀j,(au rs (b+1) y.2).get (b+1+j)≠none→h' (b+1+j)≠none→H (a+1+j)≠none∧ψ' (b+1+j)=ψ (a+1+j):=fun j hj bw=>by
   have:=hH (j+1)
   grind [X9]
  cases r with
  |val k =>simp only[aZ,ax]at hr ⊢;obtain⟨v,us,rfl,h1,h2⟩:=hr;exact⟨v,us,rfl,Ta h1,ih hp.2 hH' h2⟩
  |own ok =>simp only[aZ,ax]at hr ⊢;obtain⟨v,us,rfl,h1,h2⟩:=hr;refine⟨v,us,rfl,?_,ih hp.2 hH' h2⟩;simp only[aC]at h1 ⊢;refine⟨h1.1,fun bw=>?_⟩;obtain⟨h3,h4⟩:=hH 0 (by simp[au,Heap.get]) bw;simp_all
  |eX b c=>simp[RK.plain]at hp
  |agg c =>
   simp only[aZ,ax]at hr ⊢;obtain⟨v,us,rfl,h1,h2⟩:=hr;refine⟨v,us,rfl,?_,ih hp.2 hH' h2⟩;simp only[aC]at h1 ⊢;obtain⟨ws,rfl,h3⟩:=h1;refine⟨ws,rfl,MG c (fun j hj bw=>hH j ?_ bw) h3⟩
   grind [Heap.get,ba,au,Heap.get_append,absurd]
theorem vJ{ZG ZH:Nat→Value}{adK adL:Hp}{adM adN:Nat→Prop}{l l':List AV}{V:Value}(hl:l.length=l'.length)(hm:∀vs,ax adM ZG adK w l vs→ax adN ZH adL w l' vs)(hr:aC adM ZG adK w (fk l) V):aC adN ZH adL w (fk l') V:=by
 match l,l',hl with
 |[a],[a'],_ =>
  simp only[fk]at hr ⊢;have:=hm [V] (by simp only[ax];exact⟨V,[],rfl,hr,rfl⟩);simp only[ax]at this;obtain⟨v,us,e,h1,_⟩:=this
  cases e;exact h1
 |[],[],_ =>simp only[fk,aC]at hr ⊢;obtain⟨us,rfl,h1⟩:=hr;exact⟨us,rfl,hm _ h1⟩
 |a::b::r,a'::b'::r',_ =>simp only[fk,aC]at hr ⊢;obtain⟨us,rfl,h1⟩:=hr;exact⟨us,rfl,hm _ h1⟩
theorem oq(rs:List RK):∀(ids:List Nat) (n m:Nat) (y:mn rs),(aZ rs ids n m y).length=rs.length:=by
 induction rs with
 |nil=>intros;rfl
 |cons r rs ih=>intro ids n m y;cases r<;>simp[aZ,ih]
theorem BB:∀(k:K) (x:k.T) (r:List AV),dec k (enc k x++r)=some (x,r)
 |.int _,x,r=>by simp only[enc,List.cons_append,List.nil_append,dec,HI,if_true];rfl
 |.bool,x,r=>by simp only[enc,List.cons_append,List.nil_append,dec,Bn];rfl
 |.str,x,r=>by simp only[enc,List.cons_append,List.nil_append,dec,HJ];rfl
 |.sl k,x,r=>by simp only[enc,List.cons_append,List.nil_append,dec,N1];rfl
 |.mp kk vk,x,r=>by simp only[enc,List.cons_append,List.nil_append,dec,N2];rfl
 |.fn _,x,r=>by simp only[enc,List.cons_append,List.nil_append,dec,N4,if_true];rfl
 |.pair a b,x,r=>by simp only[enc,dec,List.append_assoc];rw[BB a x.1 (enc b x.2++r)];simp only[];rw[BB b x.2 r];rfl
 |.one k,x,r=>by simp only[enc,dec];exact BB k x r
theorem vK(k:K)(x:k.T):dz k (enc k x)=some x:=by unfold dz;have:=BB k x [];simp_all
theorem vL:∀(k:K) (x:k.T),(cj k x).cells=enc k x
 |.int _,_=>rfl
 |.bool,_=>rfl
 |.str,_=>rfl
 |.sl _,_=>rfl
 |.mp _ _,_=>rfl
 |.fn _,_=>rfl
 |.pair a b,x=>rfl
 |.one k,x=>rfl
theorem Oe:∀(k:K) (x:k.T),cj k x≠.no
 |.int _,_=>by simp[cj]
 |.bool,_=>by simp[cj]
 |.str,_=>by simp[cj]
 |.sl _,_=>by simp[cj]
 |.mp _ _,_=>by simp[cj]
 |.fn _,_=>by simp[cj]
 |.pair a b,x=>by simp[cj]
 |.one k,x=>by simp[cj]
theorem CH:∀(k:K) (x:k.T),(cj k x).isAgg=k.isAgg
 |.int _,_=>rfl
 |.bool,_=>rfl
 |.str,_=>rfl
 |.sl _,_=>rfl
 |.mp _ _,_=>rfl
 |.fn _,_=>rfl
 |.pair a b,x=>rfl
 |.one k,x=>rfl
theorem QB{k:K}{x:k.T}{v:Value}(hr:aC Z ψ h w (cj k x) v):aL Z w k x v.cells.toList:=by
 have h1:=hr.cells (Oe k x)
 grind [vL,dN,vK]
theorem MH{k:K}{x:k.T}{v:Value}(hr:aC Z ψ h w (cj k x) v):(k.isAgg=true→∃vs,v=.agg vs)∧(k.isAgg=false→v.cells=#[v]) :=⟨fun h=>SX (by rw[CH];exact h) hr,fun h=>Gi (by rw[CH];exact h) (Oe k x) hr⟩
theorem Td(rs:List RK):∀{H:Hp} {n a:Nat} {y:mn rs} {vs:List Value},rs.all RK.flat=true→rs.all RK.plain=true→ax Z ψ H w (aZ rs [] n a y) vs→ax Z' ψ H w (aZ rs [] n a y) vs:=by
 induction rs with
 |nil=>intro H n a y vs _ _ hr;simpa only[aZ,ax] using hr
 |cons r rs ih =>
  intro H n a y vs hf hp hr;simp only[List.all_cons,Bool.and_eq_true]at hp hf
  cases r with
  |val k =>simp only[aZ,ax]at hr ⊢;obtain⟨v,us,rfl,h1,h2⟩:=hr;have hk:k.flat=true:=hf.1;obtain⟨h3,h4⟩:=MH h1;exact⟨v,us,rfl,mz ((QB h1).flat hk) h3 h4,ih hf.2 hp.2 h2⟩
  |own ok =>simp only[aZ,ax]at hr ⊢;obtain⟨v,us,rfl,h1,h2⟩:=hr;exact⟨v,us,rfl,by simpa only[aC] using h1,ih hf.2 hp.2 h2⟩
  |eX b c=>simp[RK.plain]at hp
  |agg c=>simp[RK.flat]at hf
theorem yM:∀(rs:List RK) (a:Nat) (y:mn rs) (i:Nat) (ok:OK) (x:ok.T),rs.all RK.flat=true→rs.all RK.plain=true→(au rs a y).get i=some (.own ok x)→∃ty k,k.flat=true∧ok=.row ty k
 |[],_,_,_,_,_,_,_,hg=>by simp[au,Heap.get]at hg
 |.val k::r,a,y,i,ok,x,hf,hp,hg=>by simp only[List.all_cons,Bool.and_eq_true]at hp hf;exact yM r _ _ _ _ x hf.2 hp.2 hg
 |.own XQ::r,a,y,i,ok,x,hf,hp,hg=>by
  simp only[List.all_cons,Bool.and_eq_true]at hp hf;simp only[au,Heap.get]at hg
  split at hg
  ·cases hg
   cases XQ with
   |row ty k=>exact⟨ty,k,hf.1,rfl⟩
   |_=>simp[RK.flat]at hf
  ·exact yM r _ _ _ _ x hf.2 hp.2 hg
 |.eX _ _::r,a,y,i,ok,x,hf,hp,hg=>by simp[RK.plain]at hp
 |.agg c::r,a,y,i,ok,x,hf,hp,hg=>by simp[RK.flat]at hf
theorem wQ:∀(ps:List PK) (vs:List AV),cK ps vs=some []→∀v∈vs,∀id,AV.bL id∈v.cells→AV.bL id∈du ps vs
 |[],vs,hi,v,hv,id,bM=>by
  cases vs with
  |nil=>cases hv
  |cons a r=>simp[cK]at hi
 |p::ps,vs,hi,v,hv,id,bM=>by
  obtain⟨a,r,rfl,yl,X8,abi,abj⟩:=Ap hi;rcases abL.1 hv with rfl|hv
  ·cases p with
   |val k=>simp only[du];exact ab1 _ bM
   |ref=>exact absurd rfl X8.1
   |own=>exact absurd rfl X8.2
   |uF f n=>rw[abi f n rfl]at bM;simp[AV.cells]at bM
   |agg n=>rw[abj n rfl]at bM;simp[AV.cells]at bM
  ·have:=wQ ps r yl v hv id bM
   cases p with
   |val k=>simp only[du];exact abV _ this
   |ref=>exact absurd rfl X8.1
   |own=>exact absurd rfl X8.2
   |uF f n=>simpa only[du] using this
   |agg n=>simpa only[du] using this
theorem CI(hh:Heap)(vs:List AV):∀f:FuncId,mr hh f vs%1000=f%1000:=by
 induction vs with
 |nil=>intro f;rfl
 |cons v r ih =>
  intro f
  cases v with
  |fn g cap=>simp only[mr];split<;>exact Nat.add_mul_mod_self_left f 1000 _
  |ref i _ _ _ =>
   simp only[mr]
   split
   ·exact(ih _).trans (Nat.add_mul_mod_self_left f 1000 _)
   ·exact ih f
  |_=>simp only[mr];exact ih f
theorem yN{Sg:FuncId→Option aP}(hh:Heap)(f:FuncId)(vs:List AV):keyOf Sg hh f vs%1000=f%1000:=by
 unfold keyOf
 split
 ·exact(Nat.add_mul_mod_self_right (mr hh f vs) 500 1000).trans (CI hh vs f)
 ·exact CI hh vs f
theorem Next.imp{N':Nat→Prop}(n:Next Z ψ h w B0 O N Z' ψ' h' w')(hi:∀i,N i→N' i):Next Z ψ h w B0 O N' Z' ψ' h' w' :=⟨n.gk,n.eP,n.keep,fun id bM=>(n.ids id bM).imp (fun h=>h) (hi id),n.dv⟩
theorem yO{rs:List RK}{y:mn rs}(hp:rs.all RK.plain=true){id nb:Nat}(g:Good Z ψ h w B0 O)(hB:B0≤w.heap.size) (bu:∀i ty cs,h i=some (.box ty cs)→aD (fun i=>¬N i) cs) (hN:∀j,j<rs.length+16→N (id+j)) (k:cP Mf gK w w') (hz:∀b,Z b→Z' b) (Cf:∀b,Z' b→Z b∨w.heap.size≤b) (gc:Good Z' ψ' (au rs 3000 y).get w' w.heap.size (fun _=>False)) {v:Value} (hr:aC Z' ψ' (au rs 3000 y).get w' (fk (aZ rs [] 2000 3000 y)) v) :
  ∃wR,Next Z ψ h w B0 O N Z' wR (fun i=>match (au rs id y).get i with|some o=>some o|none=>h i) w' ∧
   aC Z' wR (fun i=>match (au rs id y).get i with|some o=>some o|none=>h i) w' (fk (aZ rs [] nb id y)) v:=by
 classical
 let H:Hp:=fun i=>match (au rs id y).get i with|some o=>some o|none=>h i
 let NN:Nat→Prop:=fun i=>(au rs id y).get i≠none
 let wR:Nat→Value:=fun i=>if NN i then ψ' (3000+(i-id)) else ψ i
 have hNN:∀i,NN i→∃j,j<rs.length+16∧i=id+j:=fun i hi=>by have h1:¬i<id:=fun aH=>hi (si rs id y i hp aH);have h2:¬id+rs.length+16≤i:=fun Qt=>hi (J1 rs id y i hp Qt);exact⟨i-id,by omega,by omega⟩
 have A7:∀i,NN i→(au rs 3000 y).get (3000+(i-id))=(au rs id y).get i:=fun i hi=>by
  obtain⟨j,_,rfl⟩:=hNN i hi
  grind [id,J2]
 have hH:∀i,NN i→H i=(au rs 3000 y).get (3000+(i-id)):=fun i hi=>by
  grind
 have j4:∀i,NN i→wR i=ψ' (3000+(i-id)):=fun i hi=>if_pos hi;have adO:∀i,NN i→N i:=fun i hi=>by grind
 have n:=Good.adJ (N:=NN) (ψ':=wR) (h':=H) g k hz Cf gc.kg (fun i hi=>by
   grind)
  (fun i ty cs hb=>(bu i ty cs hb).imp (fun i hi hni=>hi (adO i hni)))
  (fun i ty cs hi hb=>by grind [tK])
  (fun i ok xs hi hb=>by rw[hH i hi]at hb;rw[j4 i hi];exact gc.row _ _ _ hb)
  (fun i b hi h1 h2=>by rw[hH i hi]at h1;rw[j4 i hi]at h2;obtain⟨h3,h4⟩:=gc.live _ b h1 h2;simp_all)
  (fun i i' b hi yl h1 h2 h3 h4=>by
   rw[hH i hi]at h1;rw[hH i' yl]at h2;rw[j4 i hi]at h3;rw[j4 i' yl]at h4;have:=gc.apart _ _ b h1 h2 h3 h4
   grind) hB
 refine⟨wR,n.imp adO,?_⟩
 grind [vJ,oq,Tb,id]
def jK(P:Program)(f:FuncId):Prop:=∃fn,P.funcs[f]? = some fn∧(fn.name== "runtime.NumGoroutine")=false∧fn.body.isSome=true
theorem lT{f:FuncId}(hc:jK P f)(args:Array Value):(callFunc f args).run P w=.ok (.enter f args) w:=by obtain⟨fn,h1,h2,h3⟩:=hc;obtain⟨c,hc⟩:=acV.1 h3;simp_all [callFunc]
def ZI(P:Program)(ρC:Operand→Value)(o:Oper)(Z:Nat→Prop)(ψ:Nat→Value)(h:Hp)(w:World)(B0:Nat)(O N:Nat→Prop)(e:bF):Prop :=∃f args,(execOp ρC o).run P w=.ok (.enter f args) w∧Calls P f args w fun en w'=>∃V Z' ψ',en=.returned V∧Next Z ψ h w B0 O N Z' ψ' (e.hp h) w'∧aC Z' ψ' (e.hp h) w' e.v V
def cJ:(rs:List RK)→List AV→Nat→mn rs→List Ao
 |[],_,_,_=>[]
 |.own ok::r,vs,m,x=>(m,(qa (vs.headD .no)).head?,.own ok x.1)::cJ r vs.tail (m+1) x.2
 |.val _::r,vs,m,x=>cJ r vs.tail (m+1) x.2
 |.eX _ _::r,vs,m,x=>cJ r vs.tail (m+1) x.2
 |.agg c::r,vs,m,x=>dQ c m (vs.headD .no).cells x.1++cJ r vs.tail (m+1) x.2
theorem gR:∀(rs:List RK) (vs:List AV) (m:Nat) (x:mn rs),dP (cJ rs vs m x)=au rs m x
 |[],_,_,_=>rfl
 |.own ok::r,vs,m,x=>by simp only[cJ,au];rw[←gR r vs.tail (m+1) x.2];rfl
 |.val _::r,vs,m,x=>gR r vs.tail (m+1) x.2
 |.eX _ _::r,vs,m,x=>gR r vs.tail (m+1) x.2
 |.agg c::r,vs,m,x=>by have e1:dP (dQ c m (vs.headD .no).cells x.1)=ba c m x.1:=nI c m _ x.1;have e2:=gR r vs.tail (m+1) x.2;simp only[cJ,au];rw[nJ,e2];exact congrArg (·++_) e1
theorem fW:∀(rs:List RK) (vs:List AV) (m:Nat) (x:mn rs),(cJ rs vs m x).map (·.1)=bE rs m
 |[],_,_,_=>rfl
 |.own ok::r,vs,m,x=>by simp only[cJ,bE,List.map_cons];rw[fW r vs.tail (m+1) x.2]
 |.val _::r,vs,m,x=>fW r vs.tail (m+1) x.2
 |.eX _ _::r,vs,m,x=>fW r vs.tail (m+1) x.2
 |.agg c::r,vs,m,x=>by have e1:(dQ c m (vs.headD .no).cells x.1).map (·.1)=cy c m:=lS c m _ x.1;have e2:=fW r vs.tail (m+1) x.2;simp only[cJ,bE,List.map_append];rw[e2];exact congrArg (·++_) e1
theorem qo{bs:List BK}{k:K}{r:List RK}{hh:Heap}{ids:List Nat}{vs:List AV}{x:mn (.val k::r)}(hd:bN bs (.val k::r) hh ids vs=some x):∃v iW,vs=v::iW∧gY k hh v=some x.1∧bN bs r hh ids iW=some x.2:=by
 cases vs with
 |nil=>cases hd
 |cons v vs =>
  have e:bN bs (.val k::r) hh ids (v::vs)=(match gY k hh v,bN bs r hh ids vs with
   |some x,some y=>some ((x,y):k.T×mn r)
   |_,_=>none):=rfl
  rw[e]at hd;clear e;refine⟨v,vs,rfl,?_⟩;generalize gY k hh v=o1 at hd ⊢;generalize bN bs r hh ids vs=o2 at hd ⊢
  cases o1 with
  |none=>cases hd
  |some x1 =>
   cases o2 with
   |none=>cases hd
   |some y1=>have:=ac0 hd;subst this;exact⟨rfl,rfl⟩
theorem qp{bs:List BK}{ok:OK}{r:List RK}{hh:Heap}{ids:List Nat}{vs:List AV}{x:mn (.own ok::r)}(hd:bN bs (.own ok::r) hh ids vs=some x):∃v iW,vs=v::iW∧ep hh ok v=some x.1∧bN bs r hh ids iW=some x.2:=by
 cases vs with
 |nil=>cases hd
 |cons v vs =>
  have e:bN bs (.own ok::r) hh ids (v::vs)=(match ep hh ok v,bN bs r hh ids vs with
   |some x,some y=>some ((x,y):ok.T×mn r)
   |_,_=>none):=rfl
  rw[e]at hd;clear e;refine⟨v,vs,rfl,?_⟩;generalize ep hh ok v=o1 at hd ⊢;generalize bN bs r hh ids vs=o2 at hd ⊢
  cases o1 with
  |none=>cases hd
  |some x1 =>
   cases o2 with
   |none=>cases hd
   |some y1=>have:=ac0 hd;subst this;exact⟨rfl,rfl⟩
theorem nK{bs:List BK}{b:Nat}{alts:List (Nat×Nat×Nat)}{r:List RK}{hh:Heap}{ids:List Nat}{vs:List AV}{x:mn (.eX b alts::r)}(hd:bN bs (.eX b alts::r) hh ids vs=some x):∃v iW,vs=v::iW∧oa bs hh ids b alts v=some x.1∧bN bs r hh ids iW=some x.2:=by
 cases vs with
 |nil=>cases hd
 |cons v vs =>
  have e:bN bs (.eX b alts::r) hh ids (v::vs)=(match oa bs hh ids b alts v,bN bs r hh ids vs with
   |some x,some y=>some ((x,y):Option (Fin alts.length×Nat)×mn r)
   |_,_=>none):=rfl
  rw[e]at hd;clear e;refine⟨v,vs,rfl,?_⟩;generalize oa bs hh ids b alts v=o1 at hd ⊢;generalize bN bs r hh ids vs=o2 at hd ⊢
  cases o1 with
  |none=>cases hd
  |some x1 =>
   cases o2 with
   |none=>cases hd
   |some y1=>have:=ac0 hd;subst this;exact⟨rfl,rfl⟩
theorem qq{bs:List BK}{c:List CK}{r:List RK}{hh:Heap}{ids:List Nat}{vs:List AV}{x:mn (.agg c::r)}(hd:bN bs (.agg c::r) hh ids vs=some x):∃cs iW,vs=.agg cs::iW∧cS c hh cs=some x.1∧bN bs r hh ids iW=some x.2:=by
 cases vs with
 |nil=>cases hd
 |cons v vs =>
  have e:bN bs (.agg c::r) hh ids (v::vs)=(match B7 c hh v,bN bs r hh ids vs with
   |some x,some y=>some ((x,y):rL c×mn r)
   |_,_=>none):=rfl
  rw[e]at hd;clear e;have key:B7 c hh v=some x.1∧bN bs r hh ids vs=some x.2:=by
   generalize B7 c hh v=o1 at hd ⊢;generalize bN bs r hh ids vs=o2 at hd ⊢
   cases o1 with
   |none=>cases hd
   |some x1 =>
    cases o2 with
    |none=>cases hd
    |some y1=>have:=ac0 hd;subst this;exact⟨rfl,rfl⟩
  obtain⟨h1,h2⟩:=key;unfold B7 at h1
  grind
theorem iv{bs:List BK}{hh:Heap}{ids:List Nat}:∀(rs:List RK) (vs:List AV) (x:mn rs),bN bs rs hh ids vs=some x→vs.length=rs.length
 |[],[],_,_=>rfl
 |[],_::_,_,h=>by cases h
 |.val k::r,vs,x,h=>by obtain⟨v,iW,rfl,_,h2⟩:=qo h;simp[iv r iW x.2 h2]
 |.own ok::r,vs,x,h=>by obtain⟨v,iW,rfl,_,h2⟩:=qp h;simp[iv r iW x.2 h2]
 |.eX _ _::r,vs,x,h=>by obtain⟨v,iW,rfl,_,h2⟩:=nK h;simp[iv r iW x.2 h2]
 |.agg _::r,vs,x,h=>by obtain⟨v,iW,rfl,_,h2⟩:=qq h;simp[iv r iW x.2 h2]
theorem jw{bs:List BK}{hh:Heap}{ids:List Nat}:∀(rs:List RK) (vs:List AV) (m:Nat) (x:mn rs),bN bs rs hh ids vs=some x→(cJ rs vs m x).filterMap (·.2.1)=dS rs vs
 |[],vs,_,_,_=>by cases vs<;>rfl
 |.own ok::r,vs,m,x,h=>by obtain⟨v,iW,rfl,_,h2⟩:=qp h;simp only[cJ,dS,List.headD_cons,List.tail_cons];rw[dU,jw r iW (m+1) x.2 h2];simp only[];rw[yK]
 |.val k::r,vs,m,x,h=>by obtain⟨v,iW,rfl,_,h2⟩:=qo h;simp only[cJ,dS,List.tail_cons];exact jw r iW (m+1) x.2 h2
 |.eX _ _::r,vs,m,x,h=>by obtain⟨v,iW,rfl,_,h2⟩:=nK h;simp only[cJ,dS,List.tail_cons];exact jw r iW (m+1) x.2 h2
 |.agg c::r,vs,m,x,h=>by obtain⟨cs,iW,rfl,h1,h2⟩:=qq h;simp only[cJ,dS,List.headD_cons,List.tail_cons,AV.cells];have e1:(dQ c m cs x.1).filterMap (·.2.1)=gj c cs:=qk c m hh cs x.1 h1;rw[List.filterMap_append,jw r iW (m+1) x.2 h2];exact congrArg (·++_) e1
theorem km{hd:Hp}{bs:List BK}{hh:Heap}{ids:List Nat}:∀(rs:List RK) (vs:List AV) (m:Nat) (x:mn rs),bN bs rs hh ids vs=some x→(∀s∈dS rs vs,hd s=hh.get s)→∀e∈cJ rs vs m x,wP Z ψ hd w h' ψ' e
 |[],_,_,_,_,_,e,he=>by simp[cJ]at he
 |.own ok::r,vs,m,x,h,hk,e,he=>by
  obtain⟨v,iW,rfl,h1,h2⟩:=qp h;simp only[cJ,dS,List.headD_cons,List.tail_cons]at he hk;rcases abL.1 he with rfl|he
  ·exact Od h1 fun s hs=>hk s (ab1 _ hs)
  ·exact km r iW (m+1) x.2 h2 (fun s hs=>hk s (abV _ hs)) e he
 |.val k::r,vs,m,x,h,hk,e,he=>by obtain⟨v,iW,rfl,h1,h2⟩:=qo h;exact km r iW (m+1) x.2 h2 hk e he
 |.eX _ _::r,vs,m,x,h,hk,e,he=>by obtain⟨v,iW,rfl,h1,h2⟩:=nK h;exact km r iW (m+1) x.2 h2 hk e he
 |.agg c::r,vs,m,x,h,hk,e,he=>by
  obtain⟨cs,iW,rfl,h1,h2⟩:=qq h;simp only[cJ,dS,List.headD_cons,List.tail_cons,AV.cells]at he hk;rcases acS.1 he with he|he
  ·exact tI c m cs x.1 h1 (fun s hs=>hk s (ab1 _ hs)) e he
  ·exact km r iW (m+1) x.2 h2 (fun s hs=>hk s (abV _ hs)) e he
theorem yP{hh:Heap}{id:Nat}:∀(dK:List CK) (c n:Nat) (cs:List AV) (x:rL dK),cS dK hh cs=some x→gq dK c=true→cs[nD dK c]? = some (.bL id)→hh.get id≠none∧∃o,(n+c,some id,o)∈dQ dK n cs x
 |[],c,n,cs,x,_,h,_=>by simp[gq]at h
 |.val k::r,0,n,cs,x,_,h,_=>by simp[gq]at h
 |.val k::r,c+1,n,cs,x,hd,h,hc=>by obtain⟨_,h2⟩:=qj hd;obtain⟨h3,o,h4⟩:=yP r c (n+1) (cs.drop k.sz) x.2 h2 (by grind [gq]) (by rw[List.getElem?_drop];simpa[nD] using hc);exact⟨h3,o,by rw[show n+(c+1)=n+1+c by omega];exact h4⟩
 |.own ok::r,0,n,cs,x,hd,h,hc=>by
  obtain⟨c0,cs',rfl,h1,h2⟩:=mB hd;simp only[nD,List.getElem?_cons_zero,Option.some.injEq]at hc;subst hc;rcases mC h1 with⟨h3,_⟩|⟨oO,h3,h4⟩
  ·cases h3
  grind [dQ,List.headD_cons,qa,List.head?_cons,List.mem_cons_self]
 |.own ok::r,c+1,n,cs,x,hd,h,hc=>by
  obtain⟨c0,cs',rfl,h1,h2⟩:=mB hd;obtain⟨h3,o,h4⟩:=yP r c (n+1) cs' x.2 h2 (by grind [gq]) (by simp only[nD]at hc;rw[Nat.add_comm]at hc;simpa using hc)
  grind [dQ,List.tail_cons,List.mem_cons_of_mem]
theorem CJ{hh:Heap}{id c:Nat}:∀(bs:List BK) (b n:Nat) (is is':List Nat) (x:z8 bs) (bk:BK) (bi:Nat) (ty:TypeId) (cs:List AV),dn bs hh is=some x→is'.length=bs.length→bs[b]? = some bk→is[b]? = some bi→hh.get bi=some (.box ty cs) → gq bk.dK c=true→cs[nD bk.dK c]? = some (.bL id)→hh.get id≠none∧∃o,(n+16*b+c,some id,o)∈cC bs hh is is' n x
 |[],b,n,is,is',x,bk,bi,ty,cs,_,_,h,_,_,_,_=>by simp at h
 |b0::r,b,n,[],is',x,bk,bi,ty,cs,hd,_,_,_,_,_,_=>by cases hd
 |b0::r,b,n,i::is,[],x,bk,bi,ty,cs,_,hl,_,_,_,_,_=>by simp at hl
 |b0::r,0,n,i::is,i'::is',x,bk,bi,ty,cs,hd,hl,h1,h2,h3,h4,h5=>by
  obtain⟨g0,g3⟩:=fF hd;simp only[List.getElem?_cons_zero,Option.some.injEq]at h1 h2;subst h1;subst h2
  cases b0 with
  |own ok=>simp[BK.dK,gq]at h4
  |box ty0 c0 =>
   obtain⟨cs',g1,g2⟩:=tH g0;rw[g1]at h3
   cases h3
   obtain⟨h6,o,h7⟩:=yP c0 c n cs x.1 g2 h4 h5
   grind [cC,eT,ql,List.mem_append_left,List.mem_cons_of_mem]
 |b0::r,b+1,n,i::is,i'::is',x,bk,bi,ty,cs,hd,hl,h1,h2,h3,h4,h5=>by
  obtain⟨_,g3⟩:=fF hd;obtain⟨h6,o,h7⟩:=CJ r b (n+16) is is' x.2 bk bi ty cs g3 (by simpa using hl) (by simpa using h1) (by simpa using h2) h3 h4 h5
  grind [cC,List.mem_append_right]
theorem CL{c:List CK}{cs:List AV}{id s off:Nat}{a:Nat×Nat×Nat}(h:B6 c cs id s off a=true):cs[nD c a.1]? = some (.bL id)∧s=a.2.1∧off=a.2.2∧gq c a.1=true:=by
 simp only[B6,Bool.and_eq_true,decide_eq_true_eq]at h;obtain⟨h1,h2,h3,h4⟩:=h;refine⟨?_,h2,h3,h4⟩;unfold SF at h1
 grind
theorem QC{bs:List BK}{hh:Heap}{ids:List Nat}{b:Nat}{alts:List (Nat×Nat×Nat)}{v:AV}{x:Option (Fin alts.length×Nat)}(hd:oa bs hh ids b alts v=some x):(v=.lQ∧x=none) ∨ ∃id i a bi bk ty cs,v=.ref id (alts.get a).2.1 i (alts.get a).2.2∧x=some (a,i)∧ids[b]? = some bi∧bs[b]? = some bk∧hh.get bi=some (.box ty cs)∧cs[nD bk.dK (alts.get a).1]? = some (.bL id)∧gq bk.dK (alts.get a).1=true:=by
 unfold oa at hd
 split at hd
 ·simp_all
 ·rename_i id s i off
  split at hd
  ·rename_i bi bk h1 h2
   split at hd
   ·rename_i ty cs h3
    split at hd
    ·rename_i a h4
     cases hd
     have h4':B6 bk.dK cs id s off (alts.get a)=true:=by grind
     obtain⟨h5,rfl,rfl,h6⟩:=CL h4';exact .inr ⟨id,i,a,bi,bk,ty,cs,rfl,rfl,h1,h2,h3,h5,h6⟩
    ·cases hd
   ·cases hd
  ·cases hd
 ·cases hd
theorem tL{bs:List BK}{hh:Heap}{ids is' ids2:List Nat}{nb:Nat}{yb:z8 bs}(g:Good Z ψ hh.get w B0 O)(hz:∀b,Z b→Z' b)(hb:dn bs hh ids=some yb)(hl:is'.length=bs.length) (Te:∀e∈cC bs hh ids is' nb yb,h' e.1≠none→ψ' e.1=kj ψ e.2.1):∀(rs:List RK) (vs:List AV) (m:Nat) (x:mn rs) (us:List Value),bN bs rs hh ids vs=some x →(∀id b,AV.bL id∈gE rs vs→hh.get id≠none→ob (ψ id)=some b→Z' b)→(∀e∈cJ rs vs m x,h' e.1≠none→ψ' e.1=kj ψ e.2.1)→ax Z ψ hh.get w vs us→ax Z' ψ' h' w (aZ rs ids2 nb m x) us
 |[],vs,m,x,us,hd,_,_,hr=>by
  have:=iv [] vs x hd
  grind [List.eq_nil_of_length_eq_zero,aZ,ax]
 |.val k::r,vs,m,x,us,hd,hf,j4,hr=>by obtain⟨v,iW,rfl,h1,h2⟩:=qo hd;simp only[ax]at hr;obtain⟨u,jt,rfl,h3,h4⟩:=hr;simp only[aZ,ax];simp only[gE]at hf;exact⟨u,jt,rfl,tD g hz (fun id b bM=>hf id b (ab1 _ bM)) h1 h3,tL g hz hb hl Te r iW (m+1) x.2 jt h2 (fun id b bM=>hf id b (abV _ bM)) j4 h4⟩
 |.own ok::r,vs,m,x,us,hd,hf,j4,hr=>by obtain⟨v,iW,rfl,h1,h2⟩:=qp hd;simp only[ax]at hr;obtain⟨u,jt,rfl,h3,h4⟩:=hr;simp only[aZ,ax];simp only[cJ,List.headD_cons,List.tail_cons]at j4;exact⟨u,jt,rfl,HX h1 h3 (fun hn=>j4 _ aco hn),tL g hz hb hl Te r iW (m+1) x.2 jt h2 hf (fun e he=>j4 e (abC _ he)) h4⟩
 |.eX b alts::r,vs,m,x,us,hd,hf,j4,hr=>by
  obtain⟨v,iW,rfl,h1,h2⟩:=nK hd;simp only[ax]at hr;obtain⟨u,jt,rfl,h3,h4⟩:=hr;simp only[aZ,ax];refine⟨u,jt,rfl,?_,tL g hz hb hl Te r iW (m+1) x.2 jt h2 hf j4 h4⟩;rcases QC h1 with⟨rfl,h5⟩|⟨id,i,al,bi,bk,ty,cs,rfl,h5,h6,h7,h8,h9,pY⟩
  ·grind [wx,aC]
  ·have:x.1=some (al,i):=h5;rw[this];obtain⟨E6,o,S6⟩:=CJ bs b nb ids is' yb bk bi ty cs hb hl h7 h6 h8 pY h9;simp only[wx,aC]at h3 ⊢;obtain⟨ad,Xx,ZJ⟩:=h3;refine⟨ad,Xx,fun hn=>?_⟩;rw[Te _ S6 hn,ZJ E6];rfl
 |.agg c::r,vs,m,x,us,hd,hf,j4,hr=>by obtain⟨cs,iW,rfl,h1,h2⟩:=qq hd;simp only[ax]at hr;obtain⟨u,jt,rfl,h3,h4⟩:=hr;simp only[aZ,ax];simp only[gE,AV.cells]at hf;simp only[cJ,List.headD_cons,List.tail_cons,AV.cells]at j4;refine⟨u,jt,rfl,?_,tL g hz hb hl Te r iW (m+1) x.2 jt h2 (fun id b bM=>hf id b (abV _ bM)) (fun e he=>j4 e (abV _ he)) h4⟩;simp only[aC]at h3 ⊢;obtain⟨ws,rfl,h5⟩:=h3;exact⟨ws,rfl,tG g hz c m cs x.1 _ h1 (fun id b bM=>hf id b (ab1 _ bM)) (fun e he=>j4 e (ab1 _ he)) h5⟩
end Go.Vs
