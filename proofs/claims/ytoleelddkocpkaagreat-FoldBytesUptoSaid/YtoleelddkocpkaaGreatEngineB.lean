/- The value semantics is sound -/
import Derived.Test.YtoleelddkocpkaaGreatEngineA
import Derived.Laws.StructEq
import Derived.Laws.Slices
import Derived.Laws.Strings
import Derived.MapKept
import Derived.Lib.AppendStr
import Derived.Laws.BytesString
set_option linter.unusedSimpArgs false
set_option linter.unusedVariables false
namespace Go.Vs
variable {P:Program} {Z Z':Nat→Prop} {ψ ψ':Nat→Value} {h h':Hp} {w w':World} {B0:Nat} {O:Nat→Prop} {N:Nat→Prop}
def bD.hp(h:Hp):bD→Hp
 |.val _=>h
 |.new _ os=>fun i=>match Heap.get os i with
  |some o=>some o
  |none=>h i
 |.wr _ h'=>h'.get
theorem gy(id:Nat)(o:Ob)(h:Hp):(fun i=>match Heap.get [(id,o)] i with|some o=>some o|none=>h i)=dS h id (some o):=by
 funext i;simp only[Heap.get,dS]
 grind
theorem kE(hh:Heap)(id:Nat)(o:Ob):(hh.set id o).get=dS hh.get id (some o):=by
 grind [id,Heap.vR,ba,Heap.Bv,di]
theorem sV(hh:Heap)(id:Nat):(hh.del id).get=dS hh.get id none:=by
 grind [id,Heap.gI,ba,Heap.iS,di]
theorem BI(hh:Heap)(id:Nat)(o:Ob):Heap.get ((id,o)::hh)=dS hh.get id (some o):=by
 funext i;simp only[Heap.get,dS]
 grind
def gX(P:Program)(ρC:Operand→Value)(o:Oper)(Z:Nat→Prop)(ψ:Nat→Value)(h:Hp)(w:World)(B0:Nat)(O N:Nat→Prop)(e:bD):Prop :=∃V w' Z' ψ',((execOp ρC o).run P w=.ok (.value V) w'∨((execOp ρC o).run P w=.ok .skip w'∧V=undef))∧Next Z ψ h w B0 O N Z' ψ' (e.hp h) w'∧az Z' ψ' (e.hp h) w' e.v V
theorem gX.val{ρC:Operand→Value}{o:Oper}{x:AV}(g:Good Z ψ h w B0 O){V:Value}(hr:(execOp ρC o).run P w=.ok (.value V) w)(hx:az Z ψ h w x V):gX P ρC o Z ψ h w B0 O N (.val x) :=⟨V,w,Z,ψ,.inl hr,Next.refl g,hx⟩
theorem RU{ty:TypeId}{k:K}{xs:List k.T}{id n:Nat}{x:k.T}(g:Good Z ψ h w B0 O)(hg:h id=some (.own (.row ty k) xs))(hx:xs[n]? = some x) :
  ∃gg us,WH (ψ id)=gg∧aH Z w k x us∧∀(j:Nat) u,us[j]? = some u→w.cell? ⟨gg,n*k.sz+j,none⟩=some u:=by
 obtain⟨vs,ho,hv⟩:=g.row id (.row ty k) xs hg;have hn:n<xs.length:=(aby.1 hx).1;obtain⟨hl,e⟩:=ho;rcases e with⟨h0,_⟩|⟨gg,cap,cur,e1,_,e3,_,_,_,e7⟩
 ·omega
 ·refine⟨gg,_,by rw[e1];rfl,hv n x hx,fun j u hu=>?_⟩;rw[List.getElem?_take]at hu
  split at hu
  ·rw[List.getElem?_drop,←e7,List.getElem?_take]at hu
   split at hu
   ·simp only[World.cell?,e3];simpa using hu
   ·cases hu
  ·cases hu
theorem uZ{hh:Heap}(g:Good Z ψ h w B0 O)(bz:∀id o,hh.get id=some o→h id=some o){t:TypeId}{a:AV}{v:Value}{e:bD}(hv:az Z ψ h w a v)(he:mf P hh t a some=some e) :
  ∃x V,e=.val x∧(Instr.loadAt t v).run P w=.ok V w∧az Z ψ h w x V:=by
 unfold mf at he
 split at he
 ·rename_i id s i off;simp only[az]at hv;obtain⟨a,rfl,ha⟩:=hv
  split at he
  ·rename_i ty cs hg;have xz:=bz _ _ hg;have IN:=ha (by rw[xz];simp);obtain⟨gg,vs,e1,e2,e3,e4⟩:=g.box id ty cs xz
   split at he
   ·rename_i hi;subst hi
    split at he
    ·rename_i x hx
     cases he
     rw[e1]at IN;simp only[WH,Nat.zero_mul,Nat.zero_add]at IN;subst IN;obtain⟨V,h1,h2⟩:=j8 (a:=⟨gg,off,none⟩) (e3.drop off) (fun j u hu=>by rw[cy];simp only[World.cell?,e2];rw[List.getElem?_drop]at hu;simpa using hu) hx;exact⟨x,V,rfl,h1,h2⟩
    ·cases he
   ·cases he
  ·rename_i ty kk xs hg;have xz:=bz _ _ hg;have IN:=ha (by rw[xz];simp)
   split at he
   ·rename_i hs;subst hs;obtain⟨x,hx,he⟩:=ab6.1 he
    split at he
    ·rename_i y hy
     cases he
     obtain⟨gg,us,h1,h2,h3⟩:=RU g xz hx;rw[h1]at IN;subst IN;obtain⟨V,h4,h5⟩:=j8 (a:=⟨gg,i*kk.sz+off,none⟩) ((iG (ψ:=ψ) (h:=h) h2).drop off) (fun j u hu=>by rw[cy,Nat.add_assoc];exact h3 _ _ (by rw[List.getElem?_drop]at hu;exact hu)) hy;exact⟨y,V,rfl,h4,h5⟩
    ·cases he
   ·cases he
  ·cases he
 ·rename_i kk x off
  split at he
  ·rename_i y hy
   cases he
   simp only[az]at hv;obtain⟨a,us,rfl,_,h2,h3⟩:=hv;obtain⟨V,h4,h5⟩:=j8 ((iG (ψ:=ψ) (h:=h) h2).drop off) (fun j u hu=>h3 j u (by rw[List.getElem?_drop]at hu;exact hu)) hy;exact⟨y,V,rfl,h4,h5⟩
  ·cases he
 ·cases he
theorem fP{t e:TypeId}(he:rp P t=some e):P.underlying t=some (.slice e):=by
 grind [rp]
theorem nR{t e:TypeId}(ht:P.underlying t=some (.slice e)){i:TypeInfo}(hi:P.info? e=some i)(a:Addr)(n c:Nat)(k:IntKind)(j:Int)(h0:0≤j)(h1:j<n) :
  (Instr.indexAt t (.slice (some a) n c) (.int k j)).run P w=.ok (.pointer (some (a.add (j.toNat*P.cellsOf e)))) w:=by
 simp[Instr.indexAt,asIntOf,run_underlying ht,h0,h1,dx hi]
theorem Pk{α:Type}{xs:List α}{i:Int}{x:α}(hx:aW xs i=some x):0≤i∧i<xs.length∧xs[i.toNat]? = some x:=by
 grind [aW,List.getElem?_eq_some_iff]
theorem qL{hh:Heap}(g:Good Z ψ h w B0 O)(bz:∀id o,hh.get id=some o→h id=some o){t:TypeId}{x i:AV}{v u:Value}{e:bD}(hv:az Z ψ h w x v)(hu:az Z ψ h w i u)(he:dw P hh t x i some=some e) :
  ∃y V,e=.val y∧(Instr.indexAt t v u).run P w=.ok V w∧az Z ψ h w y V:=by
 unfold dw at he
 split at he
 ·cases he
 ·rename_i et het;have ht:=fP het
  ·skip
   split at he
   ·rename_i ex Ni xs ik n;simp only[az]at hv hu;subst hu
    split at he
    ·rename_i hs;obtain⟨y,hy,he⟩:=ab6.1 he
     cases he
     obtain⟨h0,h1,h2⟩:=Pk hy;obtain⟨hk,_⟩:=hv;simp only[aH]at hk;obtain⟨v',AK,A,c,rfl,_,_,xC⟩:=hk
     cases AK
     obtain⟨a,us,rfl,hz,hr,hc⟩:=xC _ _ h2;have hi:∃i,P.info? et=some i:=by
      cases hi:P.info? et with
      |some i=>exact⟨i,rfl⟩
      |none=>exfalso;have:=Ni.gu;simp[Program.cellsOf,hi]at hs;omega
     obtain⟨inf,hi⟩:=hi;refine⟨_,_,rfl,nR ht hi a xs.length c ik n h0 h1,?_⟩;simp only[az];refine⟨_,us,rfl,by rw[fz];exact hz,hr,fun j u hu=>?_⟩;rw[vQ,hs];exact hc j u (by simpa using hu)
    ·cases he
   ·rename_i id ik n
    split at he
    ·rename_i ty Ni xs hg;have xz:=bz _ _ hg
     split at he
     ·rename_i hs
      cases BG:(decide (0≤n)&&decide (n<(xs.length:Int))) with
      |false=>rw[BG]at he;cases he
      |true =>
       rw[BG]at he
       cases he
       simp only[Bool.and_eq_true,decide_eq_true_eq]at BG;simp only[az]at hv hu;subst hu;have hvv:=hv.2 (by rw[xz];simp);obtain⟨vs,⟨_,e⟩,_⟩:=g.row id (.row ty Ni) xs xz;rcases e with⟨h0,_⟩|⟨gg,cap,cur,e1,_,e3,_⟩
       ·omega
       ·have hi:∃i,P.info? et=some i:=by
         cases hi:P.info? et with
         |some i=>exact⟨i,rfl⟩
         |none=>exfalso;have:=Ni.gu;simp[Program.cellsOf,hi]at hs;omega
        obtain⟨inf,hi⟩:=hi;rw[hvv,e1];refine⟨_,_,rfl,nR ht hi _ xs.length cap ik n BG.1 BG.2,?_⟩;simp only[az];refine⟨_,rfl,fun _=>?_⟩;rw[e1,hs,cy];simp[WH]
     ·cases he
    ·cases he
   ·cases he
theorem uk{t:TypeId}(h:P.cellsOf t≠0):∃i,P.info? t=some i:=by
 cases hi:P.info? t with
 |some i=>simp_all
 |none=>grind [absurd,Program.cellsOf]
theorem um{t:TypeId}{f n:Nat}{ft:TypeId}(hf:g8 P t f=some (n,ft))(hc:P.cellsOf ft≠0)(a:Addr) :
  (Instr.fieldAt t (.pointer (some a)) f).run P w=.ok (.pointer (some (a.add n))) w:=by
 unfold g8 at hf
 split at hf
 ·rename_i fs ht;obtain⟨fd,hfd,he⟩:=ab5.1 hf
  cases he
  obtain⟨i,hi⟩:=uk hc;simp_all [dx,Instr.fieldAt,Sem.run_bind,run_underlying,Result.andThen_ok,Instr.sureAddr,Sem.run_pure,fieldPlace,if_neg]
 ·cases hf
theorem uo{t:TypeId}{f n:Nat}{ft:TypeId}(hf:g8 P t f=some (n,ft))(hc:P.cellsOf ft≠0){id s i off:Nat}{v:Value}(hv:az Z ψ h w (.ref id s i off) v) :
  ∃V,(Instr.fieldAt t v f).run P w=.ok V w∧az Z ψ h w (.ref id s i (off+n)) V:=by
 simp only[az]at hv ⊢;obtain⟨a,rfl,ha⟩:=hv;refine⟨_,um hf hc a,_,rfl,fun bL=>?_⟩;rw[ha bL,cy,Nat.add_assoc]
theorem vZ{t:TypeId}{f n:Nat}{ft:TypeId}(hf:g8 P t f=some (n,ft))(hc:P.cellsOf ft≠0){k:K}{x:k.T}{off:Nat}{v:Value}(hv:az Z ψ h w (.fp k x off) v) :
  ∃V,(Instr.fieldAt t v f).run P w=.ok V w∧az Z ψ h w (.fp k x (off+n)) V:=by
 simp only[az]at hv ⊢;obtain⟨a,us,rfl,hz,hr,YC⟩:=hv;refine⟨_,um hf hc a,_,us,rfl,by grind [fz],hr,fun j u hu=>?_⟩
 grind [vQ,Nat.add_assoc]
theorem IV{t ft:TypeId}{f n:Nat}(hf:g8 P t f=some (n,ft)){cs:List AV}{x:AV}{v:Value}(hv:az Z ψ h w (.agg cs) v)(hx:dV P ft (cs.drop n)=some x) :
  ∃V,(Instr.field t v f).run P w=.ok V w∧az Z ψ h w x V:=by
 simp only[az]at hv;obtain⟨vs,rfl,hl⟩:=hv;have hd:=hl.drop n;have hlen:=hd.length;unfold g8 at hf
 split at hf
 ·rename_i fs ht;obtain⟨fd,hfd,he⟩:=ab5.1 hf
  cases he
  unfold dV at hx
  split at hx
  ·rename_i hb
   split at hx
   ·rename_i hle
    cases hx
    obtain⟨i,hi⟩:=zo hb;refine⟨.agg (vs.extract fd.offset (fd.offset+P.cellsOf fd.type)),?_,?_⟩
    ·simp_all [Instr.field,run_underlying,asAgg,part,gx,dx]
    ·simp only[az];refine⟨_,rfl,?_⟩;rw[Array.toList_extract,List.extract_eq_take_drop,Nat.add_sub_cancel_left];exact hd.take _
   ·cases hx
  ·rename_i hb
   split at hx
   ·rename_i c r hcr
    cases hx
    rw[hcr]at hd;simp only[ar]at hd;obtain⟨u,us,hu,h1,_⟩:=hd;refine⟨u,?_,h1⟩;have hg:vs[fd.offset]? = some u:=by
     have:(vs.toList.drop fd.offset)[0]? = some u:=by rw[hu];rfl
     grind
    simp_all [Instr.field,run_underlying,asAgg,part,gx]
   ·cases hx
  ·cases hx
 ·cases hf
theorem Pn{hh:Heap}(g:Good Z ψ h w B0 O)(bz:∀id o,hh.get id=some o→h id=some o){x:AV}{v:Value}{e:bD}(hv:az Z ψ h w x v)(he:Fh hh x some=some e) :
  ∃n:Nat,e=.val (.int .i64 (n:Int))∧((∃s,x=.str s∧v=.string s∧n=s.size)∨∃A c,v=.slice A n c):=by
 unfold Fh at he
 split at he
 ·rename_i s hs
  cases he
  have hx:x=.str s:=by
   cases x with
   |bI id=>simp only[cV]at hs;split at hs<;>cases hs
   |str s'=>simp only[cV]at hs;exact hs
   |_=>simp only[cV]at hs<;>cases hs
  subst hx;simp only[az]at hv;exact⟨_,rfl,.inl ⟨s,rfl,hv,rfl⟩⟩
 ·rename_i ex k xs hs
  cases he
  have RV:=Fk (Z':=fun b=>Z b∨Own ψ h b) (g.sub bz) (fun b hb=>.inl hb) (fun id b _ bw hb=>.inr (by obtain⟨o,ho⟩:=abQ.1 bw;exact⟨id,by rw[bz id o ho];simp,hb⟩)) (hv.nQ bz);rw[hs]at RV;simp only[az,aH]at RV;obtain⟨⟨v',AK,A,c,rfl,_⟩,_⟩:=RV
  cases AK
  exact⟨_,rfl,.inr ⟨A,c,rfl⟩⟩
 ·rename_i hs
  cases he
  have hx:x=.fK:=by
   cases x with
   |bI id=>simp only[cV]at hs;split at hs<;>cases hs
   |fK=>rfl
   |_=>simp only[cV]at hs<;>cases hs
  subst hx;simp only[az]at hv;exact⟨0,rfl,.inr ⟨_,_,hv⟩⟩
 ·cases he
def eC(Z:Nat→Prop)(ψ:Nat→Value)(h:Hp)(w:World):Option AV→Option Value→Prop
 |none,none=>True
 |some a,some v=>az Z ψ h w a v
 |_,_=>False
theorem cg(k:IntKind)(i:Int)(y:Nat)(code:BoundsCode)(h0:0≤i)(h1:i≤y):(Instr.sliceBound (.int k i) y code).run P w=.ok i.toNat w:=by simp[Instr.sliceBound,asIntOf,h0,h1]
theorem u4{b:Bool}{n c:Nat}(hc:n≤c){lo hi mx:Option AV}{Np xy mx':Option Value}{l u:Int}(h1:eC Z ψ h w lo Np)(h2:eC Z ψ h w hi xy)(h3:eC Z ψ h w mx mx') (hb:oi n lo hi=some (l,u)) (ho:bp n l u=true) (hm:mx=none∨(mx=some (.int .i64 u)∧hi≠none)) :
  (Instr.sliceBounds b n c Np xy mx').run P w=.ok (l.toNat,u.toNat,if mx=none then c else u.toNat) w:=by
 simp only[bp,Bool.and_eq_true,decide_eq_true_eq]at ho;obtain⟨h4,h5,h6⟩:=ho;have huc:u≤(c:Int):=by omega
 unfold oi at hb;rcases hm with rfl|⟨rfl,bw⟩
 ·cases mx' with
  |some _=>exact h3.elim
  |none =>
   split at hb
   all_goals first|(cases hb;done)|skip
   ·cases hb
    cases Np with
    |some _=>exact h1.elim
    |none =>
     cases xy with
     |some _=>exact h2.elim
     |none=>simp[Instr.sliceBounds]
   ·cases hb
    cases Np with
    |none=>exact h1.elim
    |some v =>
     simp only[eC,az]at h1;subst h1
     cases xy with
     |some _=>exact h2.elim
     |none=>simp[Instr.sliceBounds,cg .i64 l n _ h4 h5]
   ·cases hb
    cases Np with
    |some _=>exact h1.elim
    |none =>
     cases xy with
     |none=>exact h2.elim
     |some v =>
      simp only[eC,az]at h2;subst h2
      cases b<;>simp[Instr.sliceBounds,cg .i64 u c _ (by omega) huc]
   ·cases hb
    cases Np with
    |none=>exact h1.elim
    |some v =>
     simp only[eC,az]at h1;subst h1
     cases xy with
     |none=>exact h2.elim
     |some v =>
      simp only[eC,az]at h2;subst h2;have hx:l≤((u.toNat:Nat):Int):=by omega
      cases b<;>simp[Instr.sliceBounds,cg .i64 u c _ (by omega) huc,cg .i64 l u.toNat _ h4 hx]
 ·cases mx' with
  |none=>exact h3.elim
  |some m =>
   simp only[eC,az]at h3;subst h3;have huu:u≤((u.toNat:Nat):Int):=by omega
   have hx:l≤((u.toNat:Nat):Int):=by omega
   split at hb
   all_goals first|(cases hb;done)|skip
   ·exact absurd rfl bw
   ·exact absurd rfl bw
   ·cases hb
    cases Np with
    |some _=>exact h1.elim
    |none =>
     cases xy with
     |none=>exact h2.elim
     |some v =>
      simp only[eC,az]at h2;subst h2
      cases b<;>simp[Instr.sliceBounds,cg .i64 u c _ (by omega) huc,cg .i64 u u.toNat _ (by omega) huu]
   ·cases hb
    cases Np with
    |none=>exact h1.elim
    |some v =>
     simp only[eC,az]at h1;subst h1
     cases xy with
     |none=>exact h2.elim
     |some v =>
      simp only[eC,az]at h2;subst h2
      cases b<;>simp[Instr.sliceBounds,cg .i64 u c _ (by omega) huc,cg .i64 u u.toNat _ (by omega) huu,cg .i64 l u.toNat _ h4 hx]
theorem BJ{t e:TypeId}(ht:P.underlying t=some (.slice e)){kk:K}(iH:P.cellsOf e=kk.sz){xs:List kk.T}{v:Value}(hr:aH Z w (.sl kk) xs [v]){lo hi mx:Option AV}{Np xy mx':Option Value}{l u:Int} (h1:eC Z' ψ h w lo Np) (h2:eC Z' ψ h w hi xy) (h3:eC Z' ψ h w mx mx') (hb:oi xs.length lo hi=some (l,u)) (ho:bp xs.length l u=true) (hm:mx=none∨(mx=some (.int .i64 u)∧hi≠none)) :
  ∃V,(Instr.sliceAt t v Np xy mx').run P w=.ok V w∧aH Z w (.sl kk) (cut xs l u) [V]∧(mx≠none→∃A c,V=.slice A c c):=by
 simp only[aH]at hr;obtain⟨v',AK,A,c,rfl,hl,hn,xC⟩:=hr
 cases AK
 have c9:=u4 (P:=P) (w:=w) (b:=true) hl h1 h2 h3 hb ho hm;simp only[bp,Bool.and_eq_true,decide_eq_true_eq]at ho;obtain⟨h4,h5,h6⟩:=ho;obtain⟨i,hi⟩:=uk (P:=P) (t:=e) (by have:=kk.gu;omega);generalize hmm:(if mx=none then c else u.toNat)=m at c9;have hmu:u.toNat≤m:=by
  grind
 have hmc:m≤c:=by
  grind
 have uW:(cut xs l u).length=u.toNat-l.toNat:=by
  grind [cut,List.length_drop,List.length_take]
 refine⟨.slice (if m=l.toNat then A else A.map (·.add (l.toNat*P.cellsOf e))) (u.toNat-l.toNat) (m-l.toNat),?_,?_,?_⟩
 ·simp[Instr.sliceAt,Instr.slice,run_underlying ht,c9,dx hi]
 ·simp only[aH];refine⟨_,rfl,_,_,by rw[uW],by omega,fun hA=>?_,fun j x hx=>?_⟩
  ·split at hA
   ·omega
   simp_all
  ·have hj:j<u.toNat-l.toNat:=by grind
   have WN:xs[l.toNat+j]? = some x:=by
    unfold cut at hx
    grind
   obtain⟨a,us,rfl,hz,hr,hc⟩:=xC _ _ WN;refine⟨a.add (l.toNat*P.cellsOf e),us,by grind,by grind [fz],hr,fun q y hy=>?_⟩;simp_all [vQ,Nat.add_mul,Nat.add_assoc]
 ·intro bw;simp_all
theorem IW{hh:Heap}(g:Good Z ψ h w B0 O)(_:∀id o,hh.get id=some o→h id=some o){t e:TypeId}(ht:P.underlying t=some (.slice e)){x:AV}{v:Value}{lo hi mx:Option AV}{Np xy mx':Option Value}{ef:bD} (hv:az Z ψ h w x v) (h1:eC Z ψ h w lo Np) (h2:eC Z ψ h w hi xy) (h3:eC Z ψ h w mx mx') (mX:∀y hw,ef=.wr y hw→hh.get=h) (he:pM hh (P.cellsOf e) x lo hi mx some=some ef) (hse:(P.info? e).isSome=true) :
  ∃V Z',(Instr.sliceAt t v Np xy mx').run P w=.ok V w∧Next Z ψ h w B0 O N Z' ψ (ef.hp h) w∧az Z' ψ (ef.hp h) w ef.v V:=by
 unfold pM at he
 split at he
 ·
  simp only[az]at hv;subst hv
  split at he
  ·rename_i l u hb
   cases ho:bp 0 l u with
   |false=>simp_all
   |true =>
    rw[ho]at he
    cases he
    have c9:=u4 (P:=P) (w:=w) (b:=true) (abX 0) h1 h2 h3 hb ho (.inl rfl);simp only[bp,Bool.and_eq_true,decide_eq_true_eq]at ho;have hl0:l.toNat=0:=by omega
    have hu0:u.toNat=0:=by omega
    obtain⟨i,hi⟩:=abY.1 hse;refine⟨.slice none 0 0,Z,?_,Next.refl g,by rfl⟩;rw[hl0,hu0]at c9;simp[Instr.sliceAt,Instr.slice,run_underlying ht,c9,dx hi]
  ·cases he
 ·
  rename_i ex kk xs;simp only[az]at hv
  split at he
  ·rename_i iH
   split at he
   ·rename_i l u hb
    split at he
    ·cases ho:bp xs.length l u with
     |false=>simp_all
     |true =>
      rw[ho]at he
      cases he
      obtain⟨V,h4,h5,_⟩:=BJ (P:=P) ht iH hv.1 h1 h2 h3 hb ho (.inl rfl);exact⟨V,Z,h4,Next.refl g,by grind [bD.v,bD.hp,az]⟩
    ·rename_i m
     cases ho:(bp xs.length l u&&(hi.isSome&&decide (m=u))) with
     |false=>simp_all
     |true =>
      rw[ho]at he
      cases he
      simp only[Bool.and_eq_true,decide_eq_true_eq]at ho;obtain⟨ho,hhi,rfl⟩:=ho;obtain⟨V,h4,h5,h6⟩:=BJ (P:=P) ht iH hv.1 h1 h2 h3 hb ho (.inr ⟨rfl,by grind⟩);exact⟨V,Z,h4,Next.refl g,by grind [bD.v,bD.hp,az]⟩
    ·cases he
   ·cases he
  ·cases he
 ·cases he
def mn(P:Program)(t:TypeId)(k:K):Prop :=∀(Z:Nat→Prop) (w:World) (x y:k.T) (xs ys:Array Value),aH Z w k x xs.toList→aH Z w k y ys.toList →(Op.equal t (.agg xs) (.agg ys)).run P w=.ok (sH k x y) w∧(∀(op:BinOp) (a b:Operand),(eqGuard op t a b (.agg xs) (.agg ys)).run P w=.ok () w)∧∀e:Bool,(Instr.checkKey e 10000 t (.agg xs)).run P w=.ok () w
theorem xU(op:BinOp)(t:TypeId)(a b:Operand)(k k':IntKind)(x y:Int):(eqGuard op t a b (.int k x) (.int k' y)).run P w=.ok () w:=by simp_all [eqGuard]
theorem Po(op:BinOp)(t:TypeId)(a b:Operand)(x y:ByteArray):(eqGuard op t a b (.string x) (.string y)).run P w=.ok () w:=by simp_all [eqGuard]
theorem LI(op:BinOp)(t:TypeId)(a b:Operand)(x y:Bool):(eqGuard op t a b (.bool x) (.bool y)).run P w=.ok () w:=by simp_all [eqGuard]
theorem Fs(op:BinOp)(t:TypeId)(a b:Operand)(x y:Option Addr):(eqGuard op t a b (.pointer x) (.pointer y)).run P w=.ok () w:=by simp_all [eqGuard]
def bX:AV→Value
 |.bool b=>.bool b
 |.int k n=>.int k n
 |.str s=>.string s
 |_=>undef
theorem j9(k:IntKind)(n:Int):az Z ψ h w (.int k n) (bX (.int k n)):=by rfl
theorem eE(b:Bool):az Z ψ h w (.bool b) (bX (.bool b)):=by rfl
theorem kF{t e:TypeId}(ht:P.underlying t=some (.pointer e))(a:Option Addr):(Op.equal t (.pointer a) (.pointer none)).run P w=.ok a.isNone w:=by
 have key:∀d,(Op.equalIn (d+1) t (.pointer a) (.pointer none)).run P w=.ok a.isNone w:=fun d=>by cases a<;>simp[Op.equalIn,run_underlying ht]
 exact key 9999
theorem RW{op:BinOp}{t:TypeId}{k:IntKind}{a b:Int}{v:AV}(hv:ZS op k a b=some v):∃V,(binOp op t (.int k a) (.int k b)).run P w=.ok V w∧az Z ψ h w v V:=by
 cases op<;>simp only[ZS]at hv<;>cases hv<;>first
  |(refine⟨bX (.int _ _),?_,j9 _ _⟩;simp[binOp,Op.intArith,Op.intCmp,bX];done)
  |(refine⟨bX (.bool _),?_,eE _⟩;simp[binOp,Op.intArith,Op.intCmp,bX];done)
  |(refine⟨bX (.int _ _),?_,j9 _ _⟩;simp only[binOp,bX,ne_eq,not_true_eq_false,if_false];rfl)
theorem Pp{Eqs:TypeId→Option K}(Ef:∀t k,Eqs t=some k→mn P t k){op:BinOp}{t:TypeId}{xo yo:Operand}{x y:AV}{u v:Value}{e:bD}(hu:az Z ψ h w x u)(hv:az Z ψ h w y v)(he:zk P Eqs op t x y some=some e) :
  ∃r V,e=.val r∧((do eqGuard op t xo yo u v;binOp op t u v:Sem Value)).run P w=.ok V w∧az Z ψ h w r V:=by
 unfold zk at he
 split at he
 ·rename_i k a k' b;simp only[az]at hu hv;subst hu;subst hv
  split at he
  ·cases hb:decide (b<0) with
   |true=>rw[hb]at he;cases he
   |false =>
    rw[hb]at he;cases he;have hb':¬b<0:=by simpa using hb
    exact⟨_,bX (.int _ _),rfl,by simp[xU,binOp,Op.shift,hb',bX,aci],j9 _ _⟩
  ·cases hb:decide (b<0) with
   |true=>rw[hb]at he;cases he
   |false =>
    rw[hb]at he;cases he;have hb':¬b<0:=by simpa using hb
    exact⟨_,bX (.int _ _),rfl,by simp[xU,binOp,Op.shift,hb',bX,g9],j9 _ _⟩
  split at he
  ·rename_i hk;subst hk;simp only[Sem.run_bind,xU,Result.andThen_ok]
   split at he
   ·cases hb:(b==0) with
    |true=>rw[hb]at he;cases he
    |false =>
     rw[hb]at he;cases he;have hb':b≠0:=by simpa using hb
     exact⟨_,bX (.int _ _),rfl,by simp[binOp,Op.intDiv,hb',bX],j9 _ _⟩
   ·cases hb:(b==0) with
    |true=>rw[hb]at he;cases he
    |false =>
     rw[hb]at he;cases he;have hb':b≠0:=by simpa using hb
     exact⟨_,bX (.int _ _),rfl,by simp[binOp,Op.intDiv,hb',bX],j9 _ _⟩
   ·split at he
    ·rename_i v hv
     cases he
     obtain⟨V,h1,h2⟩:=RW (P:=P) (t:=t) (w:=w) (Z:=Z) (ψ:=ψ) (h:=h) hv;exact⟨_,V,rfl,h1,h2⟩
    ·cases he
  ·cases he
 ·rename_i a b;simp only[az]at hu hv;subst hu;subst hv;simp only[Sem.run_bind,Po,Result.andThen_ok]
  cases op<;>simp only[acj]at he<;>first|(cases he;done)|(cases he;exact⟨_,bX (.bool _),rfl,by simp[binOp,Op.stringOp,←beq_toListBytes,bX],eE _⟩)
 ·rename_i a b;simp only[az]at hu hv;subst hu;subst hv;simp only[Sem.run_bind,LI,Result.andThen_ok];have key:(P.underlying t).map GR=some true→P.underlying t=some .bool:=fun hm=>by
   obtain⟨d,hd,he⟩:=ab5.1 hm
   cases d<;>simp[GR]at he
   exact hd
  split at he
  ·rename_i hm
   cases he
   exact⟨_,bX (.bool _),rfl,by simp[binOp,Op.equal,Op.maxDepth,run_equalIn_bool' (P:=P) w 9999 t a b (key hm),bX],eE _⟩
  ·rename_i hm
   cases he
   exact⟨_,bX (.bool _),rfl,by simp[binOp,Op.equal,Op.maxDepth,run_equalIn_bool' (P:=P) w 9999 t a b (key hm),bX],eE _⟩
  ·cases he
 ·rename_i a b
  split at he
  ·cases he
  ·rename_i k hk;simp only[az]at hu hv;obtain⟨xs,rfl,hx⟩:=hu;obtain⟨ys,rfl,hy⟩:=hv
   split at he
   ·rename_i x y hdx hdy
    cases he
    obtain⟨h1,h2,_⟩:=Ef t k hk Z w x y xs ys (dK hdx hx) (dK hdy hy);exact⟨_,bX (.bool _),rfl,by simp only[Sem.run_bind,h2,Result.andThen_ok,binOp,h1,Sem.run_pure,bX],eE _⟩
   ·rename_i x y hdx hdy
    cases he
    obtain⟨h1,h2,_⟩:=Ef t k hk Z w x y xs ys (dK hdx hx) (dK hdy hy);exact⟨_,bX (.bool _),rfl,by simp only[Sem.run_bind,h2,Result.andThen_ok,binOp,h1,Sem.run_pure,bX],eE _⟩
   ·cases he
 ·simp only[az]at hu hv;subst hu;subst hv;have key:(P.underlying t).map xN=some true→∃e,P.underlying t=some (.pointer e):=fun hm=>by
   obtain⟨d,hd,he⟩:=ab5.1 hm
   cases d<;>simp[xN]at he
   exact⟨_,hd⟩
  simp only[Sem.run_bind,Fs,Result.andThen_ok]
  split at he
  ·rename_i hm
   cases he
   obtain⟨et,ht⟩:=key hm;exact⟨_,bX (.bool _),rfl,by simp only[binOp,Sem.run_bind,kF ht,Result.andThen_ok,Sem.run_pure,bX,Option.isNone_none,Option.isNone_some,Bool.not_true,Bool.not_false],eE _⟩
  ·rename_i hm
   cases he
   obtain⟨et,ht⟩:=key hm;exact⟨_,bX (.bool _),rfl,by simp only[binOp,Sem.run_bind,kF ht,Result.andThen_ok,Sem.run_pure,bX,Option.isNone_none,Option.isNone_some,Bool.not_true,Bool.not_false],eE _⟩
  ·cases he
 ·simp only[az]at hu hv;obtain⟨a,rfl,_⟩:=hu;subst hv;have key:(P.underlying t).map xN=some true→∃e,P.underlying t=some (.pointer e):=fun hm=>by
   obtain⟨d,hd,he⟩:=ab5.1 hm
   cases d<;>simp[xN]at he
   exact⟨_,hd⟩
  simp only[Sem.run_bind,Fs,Result.andThen_ok]
  split at he
  ·rename_i hm
   cases he
   obtain⟨et,ht⟩:=key hm;exact⟨_,bX (.bool _),rfl,by simp only[binOp,Sem.run_bind,kF ht,Result.andThen_ok,Sem.run_pure,bX,Option.isNone_none,Option.isNone_some,Bool.not_true,Bool.not_false],eE _⟩
  ·rename_i hm
   cases he
   obtain⟨et,ht⟩:=key hm;exact⟨_,bX (.bool _),rfl,by simp only[binOp,Sem.run_bind,kF ht,Result.andThen_ok,Sem.run_pure,bX,Option.isNone_none,Option.isNone_some,Bool.not_true,Bool.not_false],eE _⟩
  ·cases he
 ·cases he
theorem Pq{a:AV}{v:Value}(hp:xK a=true)(hr:az Z ψ h w a v):v.oneCell'=true:=by
 cases a with
 |no=>cases hp
 |agg cs=>cases hp
 |nM cs=>cases hp
 |bool b=>simp only[az]at hr;subst hr;rfl
 |int k n=>simp only[az]at hr;subst hr;rfl
 |str s=>simp only[az]at hr;subst hr;rfl
 |lH=>simp only[az]at hr;subst hr;rfl
 |fK=>simp only[az]at hr;subst hr;rfl
 |ref id s i off=>simp only[az]at hr;obtain⟨a,rfl,_⟩:=hr;rfl
 |fp k x off=>simp only[az]at hr;obtain⟨a,us,rfl,_⟩:=hr;rfl
 |sl ex k xs=>simp only[az,aH]at hr;obtain⟨⟨v',hv,A,c,rfl,_⟩,_⟩:=hr;cases hv;rfl
 |bI id=>grind [az]
 |mp kk vk es=>simp only[az,aH]at hr;obtain⟨A,hv,_⟩:=hr;cases hv;rfl
 |fn f cap=>simp only[az]at hr;obtain⟨vs,rfl,_⟩:=hr;rfl
theorem u5:∀{cs:List AV} {vs:List Value},cs.all xK=true→ar Z ψ h w cs vs→∀u∈vs,u.oneCell'=true
 |[],_,_,hr,u,hu=>by simp only[ar]at hr;subst hr;simp at hu
 |c::r,_,hp,hr,u,hu=>by
  simp only[List.all_cons,Bool.and_eq_true]at hp;simp only[ar]at hr;obtain⟨v,us,rfl,h1,h2⟩:=hr;rcases abM.1 hu with rfl|hu
  ·exact Pq hp.1 h1
  ·exact u5 hp.2 h2 u hu
theorem IX{a:AV}(hp:a.cells.all xK=true):a≠.no:=by rintro rfl;simp[AV.cells,xK]at hp
theorem sW{id:Nat}:∀{cs:List AV},Lv id cs=true→AV.bI id∉cs
 |[],_=>by simp
 |c::r,hn=>by
  intro hm
  cases c with
  |bI i =>
   simp only[Lv,Bool.and_eq_true,Bool.not_eq_true',beq_eq_false_iff_ne]at hn;rcases abM.1 hm with e|hm
   ·cases e;exact hn.1 rfl
   ·exact sW hn.2 hm
  |_ =>
   simp only[Lv]at hn;rcases abM.1 hm with e|hm
   ·cases e
   ·exact sW hn hm
theorem zu{hh:Heap}(g:Good Z ψ hh.get w B0 O){t:TypeId}{a x:AV}{u v:Value}{e:bD}(hu:az Z ψ hh.get w a u)(hv:az Z ψ hh.get w x v)(he:sJ P hh t a x some=some e) :
  ∃hw w' Z',e=.wr .no hw∧(Instr.storeAt t u v).run P w=.ok () w'∧Next Z ψ hh.get w B0 O N Z' ψ hw.get w':=by
 unfold sJ at he
 split at he
 ·rename_i hc;obtain⟨hlen,WO,pU⟩:=hc;obtain⟨inf,WO⟩:=abY.1 WO;have Ru:=hv.cells (IX pU);have GZ:=u5 pU Ru;have uW:=Ru.length;simp only[Array.length_toList]at uW
  split at he
  ·rename_i id s i off;simp only[az]at hu;obtain⟨a,rfl,ha⟩:=hu
   split at he
   ·rename_i ty cs hg
    split at he
    ·rename_i hc;obtain⟨rfl,acs⟩:=hc
     cases he
     have IN:=ha (by rw[hg];simp);obtain⟨w',h1,h2⟩:=Bz (P:=P) (N:=N) g hg WO Ru GZ (by omega) acs (a:=a) (by rw[IN];simp);exact⟨_,w',Z,rfl,h1,by grind [kE]⟩
    ·cases he
   ·rename_i ty kk xs hg;obtain⟨y,hx,Wh⟩:=ab6.1 he;clear he
    split at Wh
    ·rename_i hc;obtain⟨rfl,acs,uY⟩:=hc
     split at Wh
     ·rename_i z hz
      cases Wh
      have IN:=ha (by rw[hg];simp);have bL:=sW uY;have gd:=iU g x.cells;have hgd:(cM hh x.cells).get id=some (.own (.row ty kk) xs):=by grind [pS]
      have aae:=oy (Z':=rk Z ψ hh.get x.cells) g (fun b hb=>.inl hb) (fun i b hm bw hb=>.inr ⟨i,hm,bw,hb⟩) Ru;obtain⟨w',h1,h2⟩:=BA (P:=P) (N:=N) gd hgd WO hx (y:=z) (off:=off) (V:=v) (by omega) (by omega) (a:=a) IN (fun us Ll=>by
       have h3:=(iG (ψ:=ψ) (h:=hh.get) Ll);have h4:=dK hz (aae.dU off h3)
       rwa [sR _ _ _ (by rw[Array.length_toList,Ll.len];omega),Array.length_toList]at h4) GZ
      refine⟨_,w',rk Z ψ hh.get x.cells,rfl,h1,?_⟩;rw[show((stored hh x.cells).2.set id (.own (.row ty kk) (xs.set i z))).get=dS (cM hh x.cells).get id (some (.own (.row ty kk) (xs.set i z))) from kE _ _ _];exact h2.drop (fun b hb=>.inl hb) (fun b hb=>hb.imp (fun h=>h) (fun⟨i,_,h5,h6⟩=>⟨i,h5,h6⟩)) (dW _ _)
     ·cases Wh
    ·cases Wh
   ·cases he
  ·cases he
 ·cases he
theorem RX{a:AV}{v:Value}(ha:a.isAgg=true)(hr:az Z ψ h w a v):∃vs,v=.agg vs:=by
 cases a<;>simp[AV.isAgg]at ha
 simp only[az]at hr
 grind
theorem Ft{a:AV}{v:Value}(ha:a.isAgg=false)(uY:a≠.no)(hr:az Z ψ h w a v):v.cells=#[v]:=by
 cases a with
 |no=>simp_all
 |agg cs=>simp[AV.isAgg]at ha
 |bool b=>simp only[az]at hr;subst hr;rfl
 |int k n=>simp only[az]at hr;subst hr;rfl
 |str s=>simp only[az]at hr;subst hr;rfl
 |lH=>simp only[az]at hr;subst hr;rfl
 |fK=>simp only[az]at hr;subst hr;rfl
 |ref id s i off=>simp only[az]at hr;obtain⟨a,rfl,_⟩:=hr;rfl
 |fp k x off=>simp only[az]at hr;obtain⟨a,us,rfl,_⟩:=hr;rfl
 |sl ex k xs=>simp only[az,aH]at hr;obtain⟨⟨v',hv,A,c,rfl,_⟩,_⟩:=hr;cases hv;rfl
 |bI id=>grind [az]
 |mp kk vk es=>simp only[az,aH]at hr;obtain⟨A,hv,_⟩:=hr;cases hv;rfl
 |fn f cap=>simp only[az]at hr;obtain⟨vs,rfl,_⟩:=hr;rfl
 |nM cs=>simp only[az]at hr;obtain⟨vs,rfl,_⟩:=hr;rfl
theorem u6{hh:Heap}{k:K}{a:AV}{x:k.T}{v:Value}(g:Good Z ψ hh.get w B0 O)(hz:∀b,Z b→Z' b)(hb:∀id b,AV.bI id∈a.cells→hh.get id≠none→ob (ψ id)=some b→Z' b) (hx:gP k hh a=some x) (hr:az Z ψ hh.get w a v):aH Z' w k x v.cells.toList∧(k.isAgg=true→∃vs,v=.agg vs)∧(k.isAgg=false→v.cells=#[v]):=by
 unfold gP at hx
 split at hx
 ·rename_i hag;have uY:=Fq hx;have hv:=oy g hz hb (hr.cells uY)
  grind [dK,RX,Ft]
 ·cases hx
theorem sX{hh:Heap}{k:K}{a:AV}{x:k.T}{v:Value}(g:Good Z ψ hh.get w B0 O)(hz:∀b,Z b→Z' b)(hb:∀id b,AV.bI id∈a.cells→hh.get id≠none→ob (ψ id)=some b→Z' b) (hx:gP k hh a=some x) (hr:az Z ψ hh.get w a v):az Z' ψ' h' w (b7 k x) v:=by
 grind [u6,ml]
theorem aH.flat:∀{k:K} {x:k.T} {vs:List Value},k.flat=true→aH Z w k x vs→aH Z' w' k x vs
 |.int _,_,_,_,h=>h
 |.bool,_,_,_,h=>h
 |.str,_,_,_,h=>h
 |.sl k,_,_,hf,_=>by simp[K.flat]at hf
 |.pair a b,x,_,hf,h=>by simp only[K.flat,Bool.and_eq_true]at hf;simp only[aH]at h ⊢;obtain⟨us,ws,rfl,h1,h2⟩:=h;exact⟨us,ws,rfl,aH.flat hf.1 h1,aH.flat hf.2 h2⟩
 |.one k,x,_,hf,h=>by simp only[aH]at h ⊢;exact aH.flat (k:=k) (by simpa only[K.flat] using hf) h
theorem AL:∀(k:K) (x y:k.T),k.flat=true→(sH k x y=true↔x=y)
 |.int _,x,y,_=>by simp only[sH];exact beq_iff_eq (α:=Int)
 |.bool,x,y,_=>by simp only[sH];exact beq_iff_eq (α:=Bool)
 |.str,x,y,_=>by simp only[sH];exact MapKept.bytes_beq x y
 |.sl _,_,_,hf=>by simp[K.flat]at hf
 |.mp _ _,_,_,hf=>by simp[K.flat]at hf
 |.fn _,_,_,hf=>by simp[K.flat]at hf
 |.pair a b,x,y,hf=>by simp only[K.flat,Bool.and_eq_true]at hf;simp only[sH,Bool.and_eq_true];rw[AL a _ _ hf.1,AL b _ _ hf.2];exact⟨fun h=>Prod.ext h.1 h.2,fun h=>⟨congrArg Prod.fst h,congrArg Prod.snd h⟩⟩
 |.one k,x,y,hf=>by simp only[sH];exact AL k x y (by simpa only[K.flat] using hf)
theorem pV:∀{k:K} {x:k.T} {us vs:List Value},k.flat=true→aH Z w k x us→aH Z' w' k x vs→us=vs
 |.int _,_,_,_,_,h1,h2=>by simp only[aH]at h1 h2;rw[h1,h2]
 |.bool,_,_,_,_,h1,h2=>by simp only[aH]at h1 h2;rw[h1,h2]
 |.str,_,_,_,_,h1,h2=>by simp only[aH]at h1 h2;rw[h1,h2]
 |.sl _,_,_,_,hf,_,_=>by simp[K.flat]at hf
 |.mp _ _,_,_,_,hf,_,_=>by simp[K.flat]at hf
 |.fn _,_,_,_,hf,_,_=>by simp[K.flat]at hf
 |.pair a b,x,_,_,hf,h1,h2=>by simp only[K.flat,Bool.and_eq_true]at hf;simp only[aH]at h1 h2;obtain⟨a1,a2,rfl,h3,h4⟩:=h1;obtain⟨b1,b2,rfl,h5,h6⟩:=h2;rw[pV hf.1 h3 h5,pV hf.2 h4 h6]
 |.one k,x,_,_,hf,h1,h2=>by simp only[aH]at h1 h2;exact pV (k:=k) (by simpa only[K.flat] using hf) h1 h2
theorem sY:∀{k:K} {x:k.T} {us:List Value},k.flat=true→aH Z w k x us→∀u∈us,∀n,Instr.sameBits n u u=true
 |.int _,x,_,_,h1,u,hu,n=>by simp only[aH]at h1;subst h1;simp only[List.mem_singleton]at hu;subst hu;cases n<;>simp[Instr.sameBits]<;>exact beq_self_eq_true (α:=Int) x
 |.bool,x,_,_,h1,u,hu,n=>by simp only[aH]at h1;subst h1;simp only[List.mem_singleton]at hu;subst hu;cases n<;>simp[Instr.sameBits]<;>exact beq_self_eq_true (α:=Bool) x
 |.str,x,_,_,h1,u,hu,n=>by simp only[aH]at h1;subst h1;simp only[List.mem_singleton]at hu;subst hu;cases n<;>simp[Instr.sameBits]<;>exact(MapKept.bytes_beq x x).2 rfl
 |.sl _,_,_,hf,_,_,_,_=>by simp[K.flat]at hf
 |.mp _ _,_,_,hf,_,_,_,_=>by simp[K.flat]at hf
 |.fn _,_,_,hf,_,_,_,_=>by simp[K.flat]at hf
 |.pair a b,x,_,hf,h1,u,hu,n=>by
  simp only[K.flat,Bool.and_eq_true]at hf;simp only[aH]at h1;obtain⟨a1,a2,rfl,h3,h4⟩:=h1;rcases abU.1 hu with hu|hu
  ·exact sY hf.1 h3 u hu n
  ·exact sY hf.2 h4 u hu n
 |.one k,x,_,hf,h1,u,hu,n=>by simp only[aH]at h1;exact sY (k:=k) (by simpa only[K.flat] using hf) h1 u hu n
def Lm(b:Bool)(v:Value):Prop:=(b=true→∃vs,v=.agg vs)∧(b=false→v.cells=#[v])
theorem Pr{b:Bool}{u v:Value}(h1:Lm b u)(h2:Lm b v)(h:u.cells.toList=v.cells.toList):u=v:=by
 cases b with
 |true =>obtain⟨a,rfl⟩:=h1.1 rfl;obtain⟨c,rfl⟩:=h2.1 rfl;simp_all [Value.cells]
 |false =>rw[h1.2 rfl,h2.2 rfl]at h;simpa using h
theorem RY{k:K}{x:k.T}{u:Value}(hf:k.flat=true)(hr:aH Z w k x u.cells.toList)(hs:Lm k.isAgg u):Instr.sameBits 10000 u u=true:=by
 have hb:=sY hf hr
 cases hk:k.isAgg with
 |false=>exact hb u (by rw[hs.2 hk];simp) _
 |true =>obtain⟨a,rfl⟩:=hs.1 hk;show Instr.sameBits (9999+1) (.agg a) (.agg a)=true;simp only[Instr.sameBits,beq_self_eq_true,Bool.true_and,List.all_eq_true];intro p hp;obtain⟨i,hi,he⟩:=List.mem_iff_getElem.1 hp;simp only[List.getElem_zip]at he;subst he;exact hb _ (ab4 (l:=(Value.agg a).cells.toList) (by simpa[Value.cells] using hi)) _
def Keys(Z:Nat→Prop)(w:World)(k:K)(ys:List k.T)(l:List MapEntry):Prop:=ys.length=l.length∧∀(i:Nat) y e,ys[i]? = some y→l[i]? = some e→aH Z w k y e.key.cells.toList∧Lm k.isAgg e.key
theorem Keys.tail{k:K}{y:k.T}{ys:List k.T}{e:MapEntry}{l:List MapEntry}(h:Keys Z w k (y::ys) (e::l)):Keys Z w k ys l:=⟨by simpa using h.1,fun i a b h1 h2=>h.2 (i+1) a b (by simpa using h1) (by simpa using h2)⟩
theorem IY{k:K}{x:k.T}{d:TypeDesc}{kv:Value}(hs:∀y Wi,aH Z w k y Wi.cells.toList→Lm k.isAgg Wi→Instr.sameNow d kv Wi=some (sH k x y)):∀(l:List MapEntry) (ys:List k.T) (i:Nat),Keys Z w k ys l → Instr.findNow d kv l i=some ((ys.findIdx? (sH k x)).map fun j=>(i+j,((l[j]?).map (·.val)).getD undef))
 |[],ys,i,h=>by have:ys=[]:=abS (by simpa using h.1);subst this;rfl
 |e::l,[],i,h=>by have:=h.1;simp at this
 |e::l,y::ys,i,h=>by
  obtain⟨h1,h2⟩:=h.2 0 y e rfl rfl;have ih:=IY hs l ys (i+1) h.tail;simp only[Instr.findNow,hs y _ h1 h2,List.findIdx?_cons]
  cases sH k x y with
  |true=>simp
  |false =>
   simp only[ih,Bool.false_eq_true,if_false]
   cases ys.findIdx? (sH k x) with
   |none=>rfl
   |some j=>simp;omega
theorem zw{k:K}{x:k.T}{t:TypeId}{kv:Value}(hs:∀y Wi,aH Z w k y Wi.cells.toList→Lm k.isAgg Wi→(Op.equal t kv Wi).run P w=.ok (sH k x y) w):∀(l:List MapEntry) (ys:List k.T) (i:Nat),Keys Z w k ys l →(Instr.findAsking t kv l i).run P w=.ok ((ys.findIdx? (sH k x)).map fun j=>(i+j,((l[j]?).map (·.val)).getD undef)) w
 |[],ys,i,h=>by have:ys=[]:=abS (by simpa using h.1);subst this;rfl
 |e::l,[],i,h=>by have:=h.1;simp at this
 |e::l,y::ys,i,h=>by
  obtain⟨h1,h2⟩:=h.2 0 y e rfl rfl;have ih:=zw hs l ys (i+1) h.tail;simp only[Instr.findAsking,Sem.run_bind,hs y _ h1 h2,Result.andThen_ok,List.findIdx?_cons]
  cases sH k x y with
  |true=>simp
  |false =>
   simp only[ih,Bool.false_eq_true,if_false]
   cases ys.findIdx? (sH k x) with
   |none=>rfl
   |some j=>simp;omega
structure RZ(P:Program)(t:TypeId)(k:K):Prop where
 flat:k.flat=true
 check:∀(Z:Nat→Prop) (w:World) (x:k.T) (kv:Value) (e:Bool),aH Z w k x kv.cells.toList→Lm k.isAgg kv→(Instr.checkKey e 10000 t kv).run P w=.ok () w
 find:∀(Z:Nat→Prop) (w:World) (x:k.T) (kv:Value) (l:List MapEntry) (ys:List k.T),aH Z w k x kv.cells.toList→Lm k.isAgg kv→Keys Z w k ys l →
  (Instr.findKey t kv l).run P w=.ok ((ys.findIdx? (sH k x)).map fun j=>(j,((l[j]?).map (·.val)).getD undef)) w
theorem pW{t:TypeId}{k:K}{d:TypeDesc}(hf:k.flat=true)(hk:k.isAgg=false)(hd:P.underlying t=some d)(hc:∀(Z:Nat→Prop) (w:World) (x:k.T) (kv:Value),aH Z w k x [kv]→MapKept.IsKey d kv) (hs:∀(Z:Nat→Prop) (w:World) (x y:k.T) (u v:Value),aH Z w k x [u]→aH Z w k y [v]→Instr.sameNow d u v=some (sH k x y)):RZ P t k:=by
 have one:∀{Z:Nat→Prop} {w:World} {x:k.T} {kv:Value},aH Z w k x kv.cells.toList→Lm k.isAgg kv→aH Z w k x [kv]:=fun {Z w x kv} h1 h2=>by rw[h2.2 hk]at h1;exact h1
 refine⟨hf,fun Z w x kv e h1 h2=>MapKept.run_checkKey hd (hc Z w x kv (one h1 h2)) e 9999,fun Z w x kv l ys h1 h2 h3=>?_⟩;have:=IY (Z:=Z) (w:=w) (x:=x) (d:=d) (kv:=kv) (fun y Wi h4 h5=>hs Z w x y kv Wi (one h1 h2) (one h4 h5)) l ys 0 h3;simp_all [Nat.zero_add,MapKept.run_findKey]
theorem IZ(d:TypeDesc)(a:Array Value)(v:Value):Instr.sameNow d (.agg a) v=none:=by cases d<;>cases v<;>rfl
theorem xV{Eqs:TypeId→Option K}(Ef:∀t k,Eqs t=some k→mn P t k){t:TypeId}{k:K}(hk:Nk P Eqs t k=true):RZ P t k:=by
 unfold Nk at hk;rw[Bool.and_eq_true]at hk;obtain⟨hf,hk⟩:=hk
 split at hk
 ·rename_i ik ik' hd;simp only[decide_eq_true_eq]at hk;subst hk;exact pW hf rfl hd (fun Z w x kv hr=>by grind [aH,MapKept.IsKey]) (fun Z w x y u v h1 h2=>by grind [aH,Instr.sameNow,sH])
 ·rename_i hd;exact pW hf rfl hd (fun Z w x kv hr=>by grind [aH,MapKept.IsKey]) (fun Z w x y u v h1 h2=>by grind [aH,Instr.sameNow,sH])
 ·rename_i hd;exact pW hf rfl hd (fun Z w x kv hr=>by grind [aH,MapKept.IsKey]) (fun Z w x y u v h1 h2=>by grind [aH,Instr.sameNow,sH])
 ·simp only[Bool.and_eq_true,decide_eq_true_eq]at hk;obtain⟨hag,hk⟩:=hk;have fact:=Ef _ _ hk;have agg:∀{b:Bool} {u:Value},b=true→Lm b u→∃a,u=.agg a:=fun hb h=>h.1 hb;refine⟨hf,fun Z w x kv e h1 h2=>?_,fun Z w x kv l ys h1 h2 h3=>?_⟩
  ·obtain⟨a,rfl⟩:=agg hag h2;exact(fact Z w x x a a h1 h1).2.2 e
  ·obtain⟨a,rfl⟩:=agg hag h2;have h4:=zw (P:=P) (t:=t) (Z:=Z) (w:=w) (x:=x) (kv:=.agg a) (fun y Wi h4 h5=>by obtain⟨b,rfl⟩:=agg hag h5;exact(fact Z w x y a b h1 h4).1) l ys 0 h3;simp only[Nat.zero_add]at h4
   cases l with
   |nil =>
    have:ys=[]:=abS (by simpa using h3.1);subst this
    cases hu:P.underlying t with
    |none =>have hc:=(fact Z w x x a a h1 h1).2.2 true;exfalso;unfold Instr.checkKey at hc;simp[underlying,hu]at hc
    |some d=>simp[Instr.findKey,run_underlying hu,Instr.findNow]
   |cons e l =>
    cases hu:P.underlying t with
    |none =>have hc:=(fact Z w x x a a h1 h1).2.2 true;exfalso;unfold Instr.checkKey at hc;simp[underlying,hu]at hc
    |some d=>simp_all [Instr.findKey,Sem.run_bind,run_underlying,Result.andThen_ok,Instr.findNow,IZ]
section
variable {kk vk:K} {es:List (kk.T×vk.T)} {l:List MapEntry}
abbrev kM(Z:Nat→Prop)(w:World)(kk vk:K)(es:List (kk.T×vk.T))(l:List MapEntry):Prop:=GW (aH Z w kk) (aH Z w vk) kk.isAgg vk.isAgg es l
theorem kM.keys(h:kM Z w kk vk es l):Keys Z w kk (es.map (·.1)) l :=⟨by rw[List.length_map];exact h.1,fun i y e h1 h2=>by rw[List.getElem?_map]at h1;obtain⟨x,h3,rfl⟩:=ab5.1 h1;exact(h.2 i x e h3 h2).1⟩
theorem BL{x:kk.T}:(es.map (·.1)).findIdx? (sH kk x)=rq kk x es:=by unfold rq;rw[List.findIdx?_map];rfl
theorem G1{x:kk.T}{i:Nat}(h:rq kk x es=some i):i<es.length:=by
 grind [rq,List.findIdx?_eq_some_iff_getElem]
theorem WQ{x:kk.T}{i:Nat}(h:rq kk x es=some i):∃e,es[i]? = some e∧sH kk x e.1=true:=by
 grind [rq,List.findIdx?_eq_some_iff_getElem,List.getElem?_eq_getElem]
def R1(Z:Nat→Prop)(w:World)(kk vk:K)(x:kk.T×vk.T)(e:MapEntry):Prop:=(aH Z w kk x.1 e.key.cells.toList∧Lm kk.isAgg e.key)∧aH Z w vk x.2 e.val.cells.toList∧Lm vk.isAgg e.val
theorem kM.set(h:kM Z w kk vk es l)(i:Nat){x:kk.T×vk.T}{f:MapEntry→MapEntry}(ho:∀e,l[i]? = some e→R1 Z w kk vk x (f e)):kM Z w kk vk (es.set i x) (l.modify i f):=by
 refine⟨by simp[h.1],fun j y e h1 h2=>?_⟩;rw[List.getElem?_modify]at h2;obtain⟨e0,h3,h4⟩:=ab5.1 h2;by_cases Fu:i=j
 ·subst Fu;rw[if_pos rfl]at h4;have aK:i<es.length:=by grind
  rw[List.getElem?_set_self aK]at h1
  cases h1
  subst h4;exact ho e0 h3
 ·rw[if_neg Fu]at h4;rw[List.getElem?_set_ne Fu]at h1;subst h4;exact h.2 j y e0 h1 h3
theorem kM.push(h:kM Z w kk vk es l){x:kk.T×vk.T}{e:MapEntry}(ho:R1 Z w kk vk x e):kM Z w kk vk (es++[x]) (l++[e]):=by
 refine⟨by simp[h.1],fun j y e' h1 h2=>?_⟩;by_cases hj:j<es.length
 ·rw[List.getElem?_append_left hj]at h1;rw[List.getElem?_append_left (by rw[←h.1];exact hj)]at h2;exact h.2 j y e' h1 h2
 ·rw[List.getElem?_append_right (by omega)]at h1;rw[List.getElem?_append_right (by have:=h.1;omega),←h.1]at h2;by_cases h0:j-es.length=0
  ·rw[h0]at h1 h2;cases h1;cases h2;exact ho
  simp_all
theorem kM.erase(h:kM Z w kk vk es l)(i:Nat):kM Z w kk vk (es.eraseIdx i) (l.eraseIdx i):=by
 refine⟨by rw[List.length_eraseIdx,List.length_eraseIdx,h.1],fun j y e h1 h2=>?_⟩;rw[List.getElem?_eraseIdx]at h1 h2
 split at h1
 ·rename_i hj;rw[if_pos hj]at h2;exact h.2 j y e h1 h2
 ·rename_i hj;rw[if_neg hj]at h2;exact h.2 (j+1) y e h1 h2
theorem kM.mono(h:kM Z w kk vk es l)(hz:∀b,Z b→Z' b)(hs:cm Z w w'):kM Z' w' kk vk es l:=GW.imp (fun _ _ h=>h.mono hz hs) (fun _ _ h=>h.mono hz hs) h
end
theorem u7{Eqs:TypeId→Option K}{t:TypeId}{kk vk:K}(h:mapOf P Eqs t=some (kk,vk)):∃a b,P.underlying t=some (.map a b)∧Nk P Eqs a kk=true∧IH P b vk=true:=by
 unfold mapOf at h
 grind
theorem BM{b:TypeId}{vk:K}(h:IH P b vk=true):∃z,(zeroValue b).run P w=.ok z w∧aH Z w vk (me vk) z.cells.toList∧Lm vk.isAgg z:=by
 unfold IH at h
 split at h
 ·rename_i i hi
  split at h
  ·rename_i z hz;refine⟨z,rJ hi hz,?_⟩;unfold RG at h
   split at h
   ·simp only[decide_eq_true_eq]at h;obtain⟨rfl,rfl⟩:=h;exact⟨by rfl,fun h=>(by cases h),fun _=>rfl⟩
   ·rename_i b;simp only[Bool.not_eq_true']at h;subst h;exact⟨by rfl,fun h=>(by cases h),fun _=>rfl⟩
   ·simp only[decide_eq_true_eq]at h;subst h;exact⟨by rfl,fun h=>(by cases h),fun _=>rfl⟩
   ·simp only[decide_eq_true_eq]at h;obtain⟨rfl,rfl,rfl⟩:=h;exact⟨by simp only[aH];exact⟨_,rfl,none,0,rfl,abX _,fun _=>rfl,fun i x hx=>by simp[me]at hx⟩,fun h=>(by cases h),fun _=>rfl⟩
   ·cases h
  ·cases h
 ·cases h
theorem Nq{hh:Heap}(g:Good Z ψ h w B0 O)(bz:∀id o,hh.get id=some o→h id=some o){m:AV}{u:Value}{kk vk:K}{es:List (kk.T×vk.T)}(hm:az Z ψ h w m u)(hv:cV hh m=.mp kk vk es) :
  ∃A,u=.map A∧((A=none∧es=[])∨∃r b5 clock,A=some r∧w.heap[r]? = some (.map b5 clock)∧kM Z w kk vk es b5.toList):=by
 cases m with
 |mp Ni WC R4 =>
  simp only[cV]at hv
  cases hv
  simp only[az,aH]at hm
  grind
 |bI id =>
  simp only[cV]at hv
  split at hv
  ·cases hv
  ·rename_i Ni WC R4 hg
   cases hv
   have xz:=bz _ _ hg;simp only[az]at hm;have:=hm.2 (by rw[xz];simp);subst this;obtain⟨r,b5,clock,h1,h2,h3,_⟩:=g.row id (.map kk vk) es xz;simp_all
  ·cases hv
 |_=>grind [cV]
theorem LJ{hh:Heap}(g:Good Z ψ h w B0 O)(bz:∀id o,hh.get id=some o→h id=some o){k:K}(hf:k.flat=true){a:AV}{x:k.T}{v:Value}(hx:gP k hh a=some x)(hr:az Z ψ h w a v):aH Z w k x v.cells.toList∧Lm k.isAgg v:=by obtain⟨h1,h2,h3⟩:=u6 (Z':=fun b=>b<w.heap.size) (g.sub bz) (fun b hb=>g.j7 b hb) (fun id b _ h1 h2=>(g.sub bz).bO ⟨id,h1,h2⟩) hx (hr.less (fun _ h=>h) (cm.refl _ _) (fun id bL=>by obtain⟨o,ho⟩:=abQ.1 bL;simp_all));exact⟨h1.flat hf,h2,h3⟩
theorem G2{Eqs:TypeId→Option K}(Ef:∀t k,Eqs t=some k→mn P t k){hh:Heap}(g:Good Z ψ h w B0 O)(bz:∀id o,hh.get id=some o→h id=some o){t:TypeId}{m i:AV}{u v:Value}{ok:Bool}{e:bD} (hm:az Z ψ h w m u) (hi:az Z ψ h w i v) (he:oq P Eqs hh t m i ok some=some e):∃y V,e=.val y∧(Instr.lookup t u v ok).run P w=.ok V w∧az Z ψ h w y V:=by
 unfold oq at he
 split at he
 ·rename_i ka va kk vk es hmo hv
  split at he
  ·rename_i hc;obtain⟨rfl,rfl⟩:=hc
   split at he
   ·rename_i x hx
    cases he
    obtain⟨a,b,hu,hk,hz⟩:=u7 hmo;have K:=xV Ef hk;obtain⟨Ix,oF⟩:=LJ g bz K.flat hx hi;obtain⟨z,zt,Ee,Ph⟩:=BM (Z:=Z) (w:=w) hz;have fin:∀(l:List MapEntry),kM Z w kk vk es l→∃V,((∃j,(Instr.findKey a v l).run P w=.ok (some (j,V)) w∧(fm kk x es).isSome=true)∨((Instr.findKey a v l).run P w=.ok none w∧(zeroValue b).run P w=.ok V w∧(fm kk x es).isSome=false)) ∧ aH Z w vk ((fm kk x es).getD (me vk)) V.cells.toList∧Lm vk.isAgg V:=by
     intro l hE;have hf:=K.find Z w x v l (es.map (·.1)) Ix oF hE.keys;rw[BL]at hf
     cases Fv:rq kk x es with
     |none =>rw[Fv]at hf;exact⟨z,.inr ⟨hf,zt,by simp[fm,Fv]⟩,by simpa[fm,Fv] using Ee,Ph⟩
     |some j =>
      rw[Fv]at hf;have hj:=G1 Fv;have h1:es[j]? = some es[j]:=abk hj;have Ps:j<l.length:=by rw[←hE.1];exact hj
      have h2:l[j]? = some l[j]:=abk Ps;obtain⟨_,h3,h4⟩:=hE.2 j _ _ h1 h2;refine⟨l[j].val,.inl ⟨j,?_,by simp[fm,Fv,h1]⟩,by simpa[fm,Fv,h1] using h3,h4⟩;rw[hf];simp only[Option.map_some,h2,Option.getD_some]
    have out:∀V:Value,aH Z w vk ((fm kk x es).getD (me vk)) V.cells.toList→Lm vk.isAgg V→az Z ψ h w (cond ok (AV.nM [b7 vk ((fm kk x es).getD (me vk)),.bool (fm kk x es).isSome]) (b7 vk ((fm kk x es).getD (me vk)))) (if ok then .tuple #[V,.bool (fm kk x es).isSome] else V):=by
     intro V h1 h2;have h3:az Z ψ h w (b7 vk ((fm kk x es).getD (me vk))) V:=ml h1 h2.1 h2.2
     cases ok with
     |false=>exact h3
     |true=>simp only[cond_true,if_true,az,ar];exact⟨_,rfl,V,[.bool (fm kk x es).isSome],by simp,h3,_,[],rfl,rfl,rfl⟩
    obtain⟨A,rfl,hA⟩:=Nq g bz hm hv;rcases hA with⟨rfl,rfl⟩|⟨r,b5,clock,rfl,h3,h4⟩
    ·obtain⟨V,h5,h6,h7⟩:=fin [] ⟨rfl,fun i x e h=>by simp at h⟩;refine⟨_,_,rfl,?_,out V h6 h7⟩;simp only[Instr.lookup,Sem.run_bind,run_underlying hu,Result.andThen_ok,Sem.run_pure,K.check Z w x v _ Ix oF];rcases h5 with⟨j,h8,h9⟩|⟨h8,h9,pI⟩
     ·simp[h8,h9]
     ·simp[h8,h9,pI]
    ·obtain⟨V,h5,h6,h7⟩:=fin b5.toList h4;refine⟨_,_,rfl,?_,out V h6 h7⟩;simp only[Instr.lookup,Sem.run_bind,run_underlying hu,Result.andThen_ok,Sem.run_pure,MapKept.run_getObj_map h3,K.check Z w x v _ Ix oF];rcases h5 with⟨j,h8,h9⟩|⟨h8,h9,pI⟩
     ·simp[h8,h9]
     ·simp[h8,h9,pI]
   ·cases he
  ·cases he
 ·cases he
end Go.Vs
namespace Go.Vs
variable {P:Program} {Z Z':Nat→Prop} {ψ ψ':Nat→Value} {h h':Hp} {w w':World} {B0:Nat} {O:Nat→Prop} {N:Nat→Prop}
theorem xW{r b:Nat}(o:Obj)(bw:r≠b):(w.heap.setIfInBounds r o)[b]? = w.heap[b]? := by simp_all
theorem cO.ahC{r:Nat}(ho:Own ψ h r)(o:Obj):cO ψ h w { w with heap:=w.heap.setIfInBounds r o } :=⟨rfl,rfl,rfl,by simp,fun b _ hb=>xW o (fun e=>hb (e▸ho))⟩
theorem sZ{hp:Hp}(g:Good Z ψ hp w B0 O){id:Nat}(bL:hp id≠none){r:Nat}(hr:ob (ψ id)=some r)(aK:r<w.heap.size)(o:Obj){ok:OK}{x:ok.T} (hx:∀w':World,w'.heap=w.heap.setIfInBounds r o→cm Z w w'→jz Z w' ok (ψ id) x) :
  Next Z ψ hp w B0 O N Z ψ (dS hp id (some (.own ok x))) { w with heap:=w.heap.setIfInBounds r o }:=by
 have ho:Own ψ hp r:=⟨id,bL,hr⟩;have kk:=cO.ahC (w:=w) ho o;refine g.write id bL kk (fun b hb _=>xW o (fun e=>hb (by rw[hr,e]))) _ (fun _ _ he=>by cases he) (fun WD x' he=>?_)
 cases he
 exact hx _ rfl (kk.same g)
theorem zx{l:List MapEntry}{i:Nat}{f:MapEntry→MapEntry}(hf:∀e,(f e).born=e.born):(l.modify i f).map (·.born)=l.map (·.born):=by
 apply acm
 grind
theorem xX{l:List MapEntry}:l.Pairwise (fun a b=>a.born≠b.born)↔(l.map (·.born)).Pairwise (·≠·):=by grind
theorem v5{Eqs:TypeId→Option K}(Ef:∀t k,Eqs t=some k→mn P t k){hh:Heap}(g:Good Z ψ hh.get w B0 O){t:TypeId}{m i v:AV}{u1 u2 u3:Value}{e:bD} (hm:az Z ψ hh.get w m u1) (hi:az Z ψ hh.get w i u2) (hv:az Z ψ hh.get w v u3) (he:jg P Eqs hh t m i v some=some e) :
  ∃hw w' Z',e=.wr (.nM []) hw∧(Instr.mapUpdate t u1 u2 u3).run P w=.ok () w'∧Next Z ψ hh.get w B0 O N Z' ψ hw.get w':=by
 unfold jg at he
 split at he
 ·rename_i ka va id hmo
  split at he
  ·rename_i kk vk es hg
   split at he
   ·rename_i hc;obtain⟨rfl,rfl⟩:=hc
    split at he
    ·rename_i x y hx hy uY
     cases he
     obtain⟨a,b,hu,hk,_⟩:=u7 hmo;have K:=xV Ef hk;obtain⟨Ix,oF⟩:=LJ g (fun _ _ h=>h) K.flat hx hi;simp only[az]at hm;have Wj:=hm.2 (by rw[hg];simp);obtain⟨r,b5,clock,h1,h2,h3,h4,h5⟩:=g.row id (.map kk vk) es hg;rw[h1]at Wj;subst Wj;have bL:AV.bI id∉v.cells:=fun hc=>by have:=ab7.1 uY _ hc;simp at this
     have gd:=iU g v.cells;have hgd:(cM hh v.cells).get id=some (.own (.map kk vk) es):=by rw[pS _ _ _ bL];exact hg
     obtain⟨xY,AJ,hv3⟩:=u6 (Z':=rk Z ψ hh.get v.cells) g (fun b hb=>.inl hb) (fun id b h1 h2 h3=>.inr ⟨id,h1,h2,h3⟩) hy hv;have acu:aH (rk Z ψ hh.get v.cells) w kk x u2.cells.toList:=Ix.flat K.flat;have aK:=(abP.1 h2).1;have oa:ob (ψ id)=some r:=by rw[h1];rfl
     have hE:kM (rk Z ψ hh.get v.cells) w kk vk es b5.toList:=kM.mono h3 (fun b hb=>.inl hb) (cm.refl _ _);have hf:=K.find Z w x u2 b5.toList (es.map (·.1)) Ix oF (kM.keys h3);rw[BL]at hf;have fin:∀(o:Obj) (R4:List (kk.T×vk.T)) (nm:Array MapEntry) (BN:Nat),o=.map nm BN→kM (rk Z ψ hh.get v.cells) w kk vk R4 nm.toList→(nm.toList.map (·.born)).Pairwise (·≠·)→(∀e∈nm.toList,e.born<BN) → Next Z ψ hh.get w B0 O N (rk Z ψ hh.get v.cells) ψ ((cM hh v.cells).set id (.own (.map kk vk) R4)).get { w with heap:=w.heap.setIfInBounds r o }:=by rintro o R4 nm BN rfl h6 h7 h8;rw[kE];have n:=sZ (N:=N) gd (by rw[hgd];simp) oa aK (.map nm BN) (ok:=.map kk vk) (x:=R4) (fun w' Ln sm=>⟨r,nm,BN,h1,by rw[Ln];simp[aK],kM.mono h6 (fun _ h=>h) sm,xX.2 h7,h8⟩);exact n.drop (fun b hb=>.inl hb) (fun b hb=>hb.imp (fun h=>h) (fun⟨i,_,h5,h6⟩=>⟨i,h5,h6⟩)) (dW _ _)
     cases Fv:rq kk x es with
     |none =>
      rw[Fv]at hf;refine⟨_,{ w with heap:=w.heap.setIfInBounds r (.map (b5.push { key:=u2,val:=u3,born:=clock }) (clock+1)) },rk Z ψ hh.get v.cells,rfl,?_,?_⟩
      rotate_left
      ·rw[show jx kk x y es=es++[(x,y)] by simp[jx,Fv]];refine fin _ _ (b5.push { key:=u2,val:=u3,born:=clock }) (clock+1) rfl ?_ ?_ ?_
       ·rw[Array.toList_push];exact hE.push ⟨⟨acu,oF⟩,xY,AJ,hv3⟩
       ·rw[Array.toList_push,List.map_append,List.pairwise_append];refine⟨xX.1 h4,by simp,fun a ha b hb=>?_⟩;simp only[List.map_cons,List.map_nil,List.mem_singleton]at hb;obtain⟨e,he,rfl⟩:=abW.1 ha;have:=h5 e he;omega
       ·intro e he;rw[Array.toList_push]at he;rcases abU.1 he with he|he
        ·have:=h5 e he;omega
        ·simp only[List.mem_singleton]at he;subst he;exact Nat.lt_succ_self _
      ·simp only[Instr.mapUpdate,Sem.run_bind,run_underlying hu,Result.andThen_ok,MapKept.run_getObj_map h2,K.check Z w x u2 _ Ix oF,hf,Option.map_none,MapKept.run_setObj_map _ h2]
     |some j =>
      rw[Fv]at hf;have hj:=G1 Fv;obtain⟨e0,YE,heq⟩:=WQ Fv;have Ps:j<b5.toList.length:=by rw[←h3.1];exact hj
      have hl:b5.toList[j]? = some b5.toList[j]:=abk Ps;have Rv:b5[j]? = some b5.toList[j]:=by rw[←hl];simp
      obtain⟨⟨acv,ahD⟩,_⟩:=h3.2 j _ _ YE hl;have uf:b5.toList[j].key=u2:=by refine Pr ahD oF ?_;rw[←(AL kk x e0.1 K.flat).1 heq]at acv;exact pV K.flat acv Ix
      have YF:(Instr.keyThatStays u2 u2).run P w=.ok u2 w:=by simp[Instr.keyThatStays,RY K.flat Ix oF]
      refine⟨_,{ w with heap:=w.heap.setIfInBounds r (.map (b5.modify j fun e=>{ e with key:=u2,val:=u3 }) clock) },rk Z ψ hh.get v.cells,rfl,?_,?_⟩
      rotate_left
      ·rw[show jx kk x y es=es.set j (x,y) by simp[jx,Fv]];refine fin _ _ (b5.modify j fun e=>{ e with key:=u2,val:=u3 }) clock rfl ?_ ?_ ?_
       ·rw[Array.toList_modify];exact hE.set j (fun e he=>⟨⟨acu,oF⟩,xY,AJ,hv3⟩)
       ·rw[Array.toList_modify,zx (f:=fun e:MapEntry=>{ e with key:=u2,val:=u3 }) (fun _=>rfl)];exact xX.1 h4
       ·intro e he;have:e.born∈(b5.modify j fun e=>{ e with key:=u2,val:=u3 }).toList.map (·.born):=abW.2 ⟨e,he,rfl⟩;rw[Array.toList_modify,zx (f:=fun e:MapEntry=>{ e with key:=u2,val:=u3 }) (fun _=>rfl)]at this;obtain⟨e',Nm,h6⟩:=abW.1 this;rw[←h6];exact h5 e' Nm
      ·simp only[Instr.mapUpdate,Sem.run_bind,run_underlying hu,Result.andThen_ok,MapKept.run_getObj_map h2,K.check Z w x u2 _ Ix oF,hf,Option.map_some,Rv,Option.getD_some,uf,YF,MapKept.run_setObj_map _ h2]
    ·cases he
   ·cases he
  ·cases he
 ·cases he
theorem v7{Eqs:TypeId→Option K}(Ef:∀t k,Eqs t=some k→mn P t k){hh:Heap}(g:Good Z ψ hh.get w B0 O){t ty:TypeId}{ts:List TypeId}{m i:AV}{u1 u2:Value}{e:bD} (hm:az Z ψ hh.get w m u1) (hi:az Z ψ hh.get w i u2) (he:ot P Eqs hh t m i some=some e) :
  ∃hw w',e=.wr (.nM []) hw∧(Builtin.delete_ (t::ts).toArray ty #[u1,u2]).run P w=.ok (.tuple #[]) w'∧Next Z ψ hh.get w B0 O N Z ψ hw.get w':=by
 unfold ot at he
 split at he
 ·rename_i ka va id hmo
  split at he
  ·rename_i kk vk es hg
   split at he
   ·rename_i hc;obtain⟨rfl,rfl⟩:=hc
    split at he
    ·rename_i x hx
     cases he
     obtain⟨a,b,hu,hk,_⟩:=u7 hmo;have K:=xV Ef hk;obtain⟨Ix,oF⟩:=LJ g (fun _ _ h=>h) K.flat hx hi;simp only[az]at hm;have Wj:=hm.2 (by rw[hg];simp);obtain⟨r,b5,clock,h1,h2,h3,h4,h5⟩:=g.row id (.map kk vk) es hg;rw[h1]at Wj;subst Wj;have aK:=(abP.1 h2).1;have oa:ob (ψ id)=some r:=by rw[h1];rfl
     have hf:=K.find Z w x u2 b5.toList (es.map (·.1)) Ix oF (kM.keys h3);rw[BL]at hf;have fin:∀(o:Obj) (R4:List (kk.T×vk.T)) (nm:Array MapEntry),o=.map nm clock→kM Z w kk vk R4 nm.toList→nm.toList.Sublist b5.toList → Next Z ψ hh.get w B0 O N Z ψ (hh.set id (.own (.map kk vk) R4)).get { w with heap:=w.heap.setIfInBounds r o }:=by rintro o R4 nm rfl h6 h7;rw[kE];exact sZ (N:=N) g (by rw[hg];simp) oa aK (.map nm clock) (ok:=.map kk vk) (x:=R4) (fun w' Ln sm=>⟨r,nm,clock,h1,by rw[Ln];simp[aK],kM.mono h6 (fun _ h=>h) sm,h4.sublist h7,fun e he=>h5 e (h7.subset he)⟩)
     cases Fv:rq kk x es with
     |none =>
      rw[Fv]at hf;refine⟨_,{ w with heap:=w.heap.setIfInBounds r (.map b5 clock) },rfl,?_,?_⟩
      rotate_left
      ·rw[show GQ kk x es=es by simp[GQ,Fv]];exact fin _ _ b5 rfl h3 (List.Sublist.refl _)
      ·simp[Builtin.delete_,run_underlying hu,MapKept.run_getObj_map h2,K.check Z w x u2 _ Ix oF,hf,MapKept.run_setObj_map _ h2]
     |some j =>
      rw[Fv]at hf;have hj:=G1 Fv;refine⟨_,{ w with heap:=w.heap.setIfInBounds r (.map (b5.eraseIdxIfInBounds j) clock) },rfl,?_,?_⟩
      rotate_left
      ·rw[show GQ kk x es=es.eraseIdx j by simp[GQ,Fv]];refine fin _ _ (b5.eraseIdxIfInBounds j) rfl ?_ ?_
       ·rw[Array.toList_eraseIdxIfInBounds];exact kM.erase h3 j
       ·rw[Array.toList_eraseIdxIfInBounds];exact List.eraseIdx_sublist _ _
      ·simp[Builtin.delete_,run_underlying hu,MapKept.run_getObj_map h2,K.check Z w x u2 _ Ix oF,hf,MapKept.run_setObj_map _ h2]
    ·cases he
   ·cases he
  ·cases he
 ·cases he
theorem LK{hh:Heap}(g:Good Z ψ h w B0 O)(bz:∀id o,hh.get id=some o→h id=some o){t ty:TypeId}{x:AV}{u:Value}{e:bD}(ht:Lw P t=true)(hx:az Z ψ h w x u)(he:xM hh x some=some e) :
  ∃n:Nat,e=.val (.int .i64 (n:Int))∧(Builtin.len_ #[t] ty #[u]).run P w=.ok (.int .i64 (n:Int)) w:=by
 unfold xM at he
 split at he
 ·rename_i kk vk es hv
  cases he
  have hu:∃a b,P.underlying t=some (.map a b):=by
   grind [Lw]
  obtain⟨a,b,hu⟩:=hu;obtain⟨A,rfl,hA⟩:=Nq g bz hx hv;rcases hA with⟨rfl,rfl⟩|⟨r,b5,clock,rfl,h3,h4⟩
  ·exact⟨0,rfl,by simp[Builtin.len_,run_underlying hu,goInt]⟩
  ·refine⟨es.length,rfl,?_⟩;have:b5.size=es.length:=by rw[h4.1];simp
   simp[Builtin.len_,run_underlying hu,MapKept.run_getObj_map h3,goInt,this]
 ·cases he
theorem BO(g:Good Z ψ h w B0 O)(hB:B0≤w.heap.size)(id:Nat)(hN:N id){ok:OK}{x:ok.T}{v:Value}(o:Obj)(ho:jz Z (w.alloc o) ok v x)(hb:ob v=some w.heap.size) (bm:∀i ty cs,h i=some (.box ty cs)→aA (fun i=>i≠id) cs):Next Z ψ h w B0 O N Z (dS ψ id v) (dS h id (some (.own ok x))) (w.alloc o) :=IP g hB id hN (cO.alloc _ _ _ _) (fun b hb=>heap_alloc_old w _ (g.bO hb)) ho (fun b Eo=>by simp_all) bm
theorem Ep{Eqs:TypeId→Option K}(g:Good Z ψ h w B0 O)(hB:B0≤w.heap.size){id:Nat}(hN:N id){t:TypeId}{e:bD}(bm:∀i ty cs,h i=some (.box ty cs)→aA (fun i=>i≠id) cs)(he:lU P Eqs id t some=some e) :
  ∃v w' ψ',(Instr.makeMap t none).run P w=.ok v w'∧Next Z ψ h w B0 O N Z ψ' (e.hp h) w'∧az Z ψ' (e.hp h) w' e.v v:=by
 unfold lU at he
 split at he
 ·rename_i kk vk hmo
  cases he
  refine⟨.map (some w.heap.size),w.alloc (.map #[] 0),dS ψ id (.map (some w.heap.size)),rfl,?_,?_⟩
  ·simp only[bD.hp];rw[gy];exact BO g hB id hN (ok:=.map kk vk) (x:=[]) _ ⟨w.heap.size,#[],0,rfl,heap_alloc_new _ _,⟨rfl,fun i x e h=>by simp at h⟩,by simp,by simp⟩ rfl bm
  ·simp only[bD.v,bD.hp,az];exact⟨⟨rfl,rfl⟩,fun _=>(ba _ _ _).symm⟩
 ·cases he
theorem G3(g:Good Z ψ h w B0 O)(hB:B0≤w.heap.size){id:Nat}(hN:N id){t:TypeId}{x:AV}{u:Value}{e:bD}(hx:az Z ψ h w x u)(bm:∀i ty cs,h i=some (.box ty cs)→aA (fun i=>i≠id) cs)(he:ou P id t x some=some e) :
  ∃v w' ψ',(Instr.range t u).run P w=.ok v w'∧Next Z ψ h w B0 O N Z ψ' (e.hp h) w'∧az Z ψ' (e.hp h) w' e.v v:=by
 unfold ou at he
 split at he
 ·rename_i sv hu
  cases he
  simp only[az]at hx;subst hx;refine⟨.pointer (some ⟨w.heap.size,0,none⟩),w.alloc (.stringIter sv 0),dS ψ id (.pointer (some ⟨w.heap.size,0,none⟩)),?_,?_,?_⟩
  ·simp_all [Instr.range,Sem.run_bind,run_underlying,Result.andThen_ok,Sem.run_pure]
  ·simp only[bD.hp];rw[gy];exact BO g hB id hN (ok:=.og) (x:=(sv,0)) _ ⟨w.heap.size,rfl,heap_alloc_new _ _⟩ rfl bm
  ·simp only[bD.v,bD.hp,az];exact⟨⟨rfl,rfl⟩,fun _=>(ba _ _ _).symm⟩
 ·cases he
theorem gD{r:Nat}{o:Obj}(hb:w.heap[r]? = some o)(hc:∀c e f,o≠.cells c e f):(getObj r).run P w=.ok o w:=by cases o<;>first|(exact absurd rfl (hc _ _ _))|simp[getObj,Sem.run,hb]
theorem BP{r:Nat}{o o':Obj}(hb:w.heap[r]? = some o)(hc:∀c e f,o≠.cells c e f):(setObj r o').run P w=.ok () { w with heap:=w.heap.setIfInBounds r o' }:=by cases o<;>first|(exact absurd rfl (hc _ _ _))|simp[setObj,Sem.run,hb]
theorem I0{hh:Heap}(g:Good Z ψ h w B0 O)(bz:∀id o,hh.get id=some o→h id=some o){ty:TypeId}{x:AV}{u:Value}{e:bD}(hx:az Z ψ h w x u)(mX:∀v hw,e=.wr v hw→hh.get=h)(he:sK hh x some=some e) :
  ∃v w',(Instr.next u true ty).run P w=.ok v w'∧Next Z ψ h w B0 O N Z ψ (e.hp h) w'∧az Z ψ (e.hp h) w' e.v v:=by
 unfold sK at he
 split at he
 ·rename_i id
  split at he
  ·rename_i x hg;have xz:=bz _ _ hg;simp only[az]at hx;have hu:=hx.2 (by rw[xz];simp);obtain⟨r,h1,h2⟩:=g.row id .og x xz;rw[h1]at hu;subst hu
   cases hc:decide (x.2<x.1.size) with
   |true =>
    rw[hc]at he;cases he;have heq:=mX _ _ rfl;simp only[decide_eq_true_eq]at hc;have aK:=(abP.1 h2).1;refine⟨.tuple #[.bool true,goInt x.2,.int .i32 (Utf8.decode x.1 x.2).1],{ w with heap:=w.heap.setIfInBounds r (.stringIter x.1 (x.2+(Utf8.decode x.1 x.2).2)) },?_,?_,?_⟩
    ·simp only[Instr.next,Sem.run_bind,gD h2 (by simp),Result.andThen_ok,hc,if_true,BP h2 (by simp),Sem.run_pure]
    ·simp only[bD.hp];rw[kE,heq];exact sZ (N:=N) g (by rw[xz];simp) (by rw[h1];rfl) aK _ (ok:=.og) (x:=(x.1,x.2+Bj x.1 x.2)) (fun w' Ln _=>⟨r,h1,by rw[Ln];simp[aK,Bj]⟩)
    ·simp only[bD.v,az,ar];exact⟨_,rfl,_,_,rfl,rfl,_,_,rfl,rfl,_,_,rfl,rfl,rfl⟩
   |false =>
    rw[hc]at he;cases he;simp only[decide_eq_false_iff_not]at hc;refine⟨.tuple #[.bool false],w,?_,Next.refl g,?_⟩
    ·simp only[Instr.next,Sem.run_bind,gD h2 (by simp),Result.andThen_ok,hc,if_false,Sem.run_pure]
    ·simp only[bD.v,az,ar];exact⟨_,rfl,_,_,rfl,rfl,rfl⟩
  ·cases he
 ·cases he
theorem find_born{l:List MapEntry}(h:l.Pairwise (fun a b=>a.born≠b.born)){e:MapEntry}(he:e∈l):l.find? (fun x=>x.born==e.born)=some e:=by
 induction l with
 |nil=>cases he
 |cons a r ih =>
  obtain⟨h1,h2⟩:=List.pairwise_cons.1 h
  grind
theorem I2{hh:Heap}(g:Good Z ψ h w B0 O)(bz:∀id o,hh.get id=some o→h id=some o){x:AV}{u:Value}{e:bD}(hx:az Z ψ h w x u)(he:sL hh x some=some e) :
  ∃y v,e=.val y∧(Instr.entry u).run P w=.ok v w∧az Z ψ h w y v:=by
 unfold sL at he
 split at he
 ·rename_i id
  split at he
  ·rename_i kk vk c rest hg
   cases he
   have xz:=bz _ _ hg;simp only[az]at hx;have hu:=hx.2 (by rw[xz];simp);obtain⟨r,m,since,seen,b5,clock,h1,h2,h3,h4,h5,h6,h7,h8,h9⟩:=g.row id (.iter kk vk) (some c,rest) xz;rw[h1]at hu;subst hu;obtain⟨en,pI,El,R5⟩:=h9;obtain⟨⟨k1,k2,k3⟩,v1,v2,v3⟩:=R5.2 0 c en rfl rfl;refine⟨_,.tuple #[en.key,en.val],rfl,?_,?_⟩
   ·have hf:b5.find? (·.born==en.born)=some en:=by have:=find_born h5 pI;simp_all
    simp only[Instr.entry,Sem.run_bind,gD h2 (by simp),Result.andThen_ok,El,Sem.run_pure,gD h4 (by simp),hf];simp
   ·simp only[az,ar];exact⟨_,rfl,_,_,rfl,ml k1 k2 k3,_,_,rfl,ml v1 v2 v3,rfl⟩
  ·cases he
 ·cases he
theorem hP(w:World)(dT sT ty elem:TypeId)(sz g o aaf ahE:Nat)(a:Addr)(aag ahF:Nat)(cur:Array Value)(t:TypeId)(cs:List Value) (hu:P.underlying dT=some (.slice elem)) (hs:(P.info? elem).map (·.size)=some sz) (hg:w.heap[g]? = some (.cells cur t (0,0))) (hn:cs.length=Nat.min aag aaf*sz) (xT:∀(j:Nat) v,cs[j]? = some v→w.cell? (a.add j)=some v) (Pu:o+cs.length≤cur.size) (h1:∀v∈cs,v.oneCell'=true) :
  (Builtin.copy_ #[dT,sT] ty #[.slice (some ⟨g,o,none⟩) aaf ahE,.slice (some a) aag ahF]).run P w = .ok (goInt (Nat.min aag aaf)) (w.setRow g (cur.toList.take o++cs++cur.toList.drop (o+cs.length)).toArray):=by
 have hl:=run_loadCells_list (P:=P) w a cs xT;have zp:=run_storeCells_at P g o t cs 0 cur w hg (by simpa using Pu) h1
 cases hq:P.info? elem with
 |none=>simp[hq]at hs
 |some i =>
  have hi:i.size=sz:=by simpa[hq] using hs
  simp only[Nat.add_zero]at zp;simp[Builtin.copy_,run_underlying hu,Builtin.lenOf,Builtin.firstCells,sizeOf,typeInfo,hq,hi,←hn,hl,zp]
theorem Fw{e:TypeId}(h:Pb P e=true):P.underlying e=some (.int .u8):=by
 unfold Pb at h
 split at h
 ·assumption
 ·cases h
theorem WR{ns:List Int}{vs:List Value}(h:kL Z w (.int .u8) ns vs)(hl:vs.length=ns.length):vs=ns.map (Value.int .u8):=by
 apply acm;intro i;by_cases hi:i<ns.length
 ·have h1:=h i ns[i] (abk hi);have h1:(vs.drop (i*1)).take 1=[Value.int .u8 ns[i]]:=h1;have h2:=congrArg (·[0]?) h1;simp only[Nat.mul_one,List.getElem?_take,List.getElem?_drop,Nat.add_zero,Nat.zero_lt_one,if_true]at h2;rw[h2,List.getElem?_map,List.getElem?_eq_getElem hi];rfl
 ·rw[List.getElem?_eq_none (by omega),List.getElem?_eq_none (by simp;omega)]
theorem WS(ns:List Int):kL Z w (.int .u8) ns (ns.map (Value.int .u8)):=fun i x hx=>by
 show((ns.map (Value.int .u8)).drop (i*1)).take 1=[Value.int .u8 x];obtain⟨hi,rfl⟩:=aby.1 hx;have:i<(ns.map (Value.int .u8)).length:=by rw[List.length_map];exact hi
 rw[Nat.mul_one,List.drop_eq_getElem_cons this];simp;rfl
theorem WT{hh:Heap}(g:Good Z ψ h w B0 O)(bz:∀id o,hh.get id=some o→h id=some o){src dst e:TypeId}(hs:P.underlying src=some (.slice e))(he:Pb P e=true)(hd:P.underlying dst=some .string) {x:AV} {u:Value} {ns:List Int} (hx:rowOf hh x (.int .u8)=some ns) (hr:az Z ψ h w x u):(convert src dst u).run P w=.ok (.string (strOf ns)) w:=by
 obtain⟨news,⟨h1,_,hu⟩,hv⟩:=vX (g.sub bz) hx (hr.nQ bz);have Nm:=Fw he;have h1:news.length=ns.length*1:=h1;rw[Nat.mul_one]at h1;have hn:=WR hv h1;rcases hu with⟨rfl,h0⟩|⟨a,c,rfl,h2⟩
 ·have:ns=[]:=abS h0;subst this;rw[run_convert_bytes_string w src dst e none 0 0 hs Nm hd];rfl
 ·rw[run_convert_bytes_string w src dst e _ _ _ hs Nm hd];refine run_bytesToString w a ns.length c ns ?_;have:=run_loadCells_list (P:=P) w a news h2;rw[h1,hn]at this;exact this
theorem bytesOf_length(s:ByteArray):(bytesOf s).length=s.size:=by unfold bytesOf;rw[List.length_map,Array.length_toList];rfl
theorem BQ(s:ByteArray):Lib.strCells s=(bytesOf s).map (Value.int .u8):=by simp[Lib.strCells,bytesOf,Function.comp_def]
theorem Pv(g:Good Z ψ h w B0 O)(hB:B0≤w.heap.size){src dst e:TypeId}(hs:P.underlying src=some .string)(hd:P.underlying dst=some (.slice e))(he:Pb P e=true)(s:ByteArray) :
  ∃V w' Z',(convert src dst (.string s)).run P w=.ok V w'∧Next Z ψ h w B0 O N Z' ψ h w'∧az Z' ψ h w' (.sl false (.int .u8) (bytesOf s)) V:=by
 have Nm:=Fw he
 let cells:Array Value:=s.data.map (fun b=>Value.int .u8 (b.toNat:Int))++Array.replicate (grownCap w s.size 0 e-s.size) (.int .u8 0)
 let w1:=w.drew.alloc (.cells cells e)
 have hg1:w1.heap[w.heap.size]? = some (.cells cells e (0,0)):=heap_alloc_new w.drew _;have hsh:w1.shape? w.heap.size=some (e,cells.size):=by simp[World.shape?,hg1]
 let w2:=w1.freeze ⟨w.heap.size,cells.size,none⟩ 1
 have c9:(convert src dst (.string s)).run P w=.ok (.slice (some ⟨w.heap.size,0,none⟩) s.size (grownCap w s.size 0 e)) w2:=by
  have e1:(newRow e cells).run P w.drew=.ok ⟨w.heap.size,0,none⟩ w1:=by simp[newRow,w1]
  have e2:(markStringish ⟨w.heap.size,0,none⟩).run P w1=.ok () w2:=by simp[markStringish,hsh,w2]
  simp only[convert,Sem.run_bind,run_underlying hs,run_underlying hd,run_underlying Nm,Result.andThen_ok,Conv.stringToBytes,run_choose_drew];have e0:(Question.appendCap s.size 0 e).forced=false:=by simp[Question.forced]
  simp only[e0,Bool.false_eq_true,if_false,Result.andThen_ok];show((newRow e cells).run P w.drew).andThen _=_;rw[e1];simp only[Result.andThen_ok,e2];rfl
 have iH:w2.heap.size=w.heap.size+1:=by simp[w2,World.freeze,w1,World.alloc]
 have hold:∀b,b<w.heap.size→w2.heap[b]? = w.heap[b]? := fun b hb=>by
  have h1:w1.heap[b]? = w.heap[b]? := heap_alloc_old w.drew _ hb;have h2:w2.heap[b]? = w1.heap[b]? := by simp only[w2,World.freeze,if_neg (show ¬(1=0) by decide),Array.getElem?_modify];rw[if_neg (by omega)]
  rw[h2,h1]
 have BH:∃f,w2.heap[w.heap.size]? = some (.cells cells e f):=by simp only[w2,World.freeze,if_neg (show ¬(1=0) by decide),Array.getElem?_modify,if_true,hg1,Option.map_some];exact⟨_,rfl⟩
 have kk:cO ψ h w w2:=⟨rfl,rfl,rfl,by omega,fun b hb _=>hold b hb⟩;have m:Next Z ψ h w B0 O (fun _=>False) Z ψ h w2:=g.more kk (fun b hb=>hold b (g.bO hb)) (fun _ _=>⟨rfl,rfl⟩) (fun i ty cs hb=>by
  have e:(fun _:Nat=>¬False)=fun _=>True:=by funext i;simp
  rw[e];exact aA.top cs) (fun _ _ _ h=>h.elim) (fun _ _ _ h=>h.elim) (fun _ _ h=>h.elim) (fun _ _ _ h=>h.elim) hB
 have hz:∀b,Z b→Z b∨b=w.heap.size:=fun b h=>.inl h;refine⟨_,w2,fun b=>Z b∨b=w.heap.size,c9,⟨hz,fun b hb=>hb.imp (fun h=>h) fun h=>.inr (by omega),m.keep,fun i hi=>.inl ((m.ids i hi).resolve_right (fun h=>h)),⟨fun i ty cs hb=>?_,fun i ok x hb=>?_,fun i b h1 h2=>?_,m.dn.apart,fun b hb=>?_⟩⟩,?_⟩
 ·obtain⟨gg,vs,f1,f2,f3,f4⟩:=m.dn.box i ty cs hb;exact⟨gg,vs,f1,f2,ar.less hz (cm.refl _ _) (fun _ h=>⟨h,rfl⟩) f3,f4⟩
 ·exact(m.dn.row i ok x hb).kept hz (cm.refl _ _) (fun _ _=>rfl)
 ·obtain⟨k1,k2⟩:=m.dn.live i b h1 h2;refine⟨fun hb=>hb.elim k1 fun hb=>?_,k2⟩;have:=g.bO ⟨i,h1,h2⟩;omega
 ·rcases hb with hb|hb
  ·exact m.dn.j7 b hb
  ·omega
 ·simp only[az];obtain⟨f,hf⟩:=BH;have Wl:=grownCap_ge w s.size 0 e;refine⟨⟨_,rfl,some ⟨w.heap.size,0,none⟩,grownCap w s.size 0 e,congrArg (fun n=>Value.slice _ n _) (bytesOf_length s).symm,(show List.length (α:=Int) (bytesOf s)≤_ by rw[bytesOf_length];exact Wl),fun h=>(by cases h),fun i x hx=>?_⟩,fun h=>(by cases h)⟩;refine⟨_,[.int .u8 x],rfl,.inr rfl,rfl,fun j u hu=>?_⟩
  cases j with
  |succ j=>simp at hu
  |zero =>
   simp only[List.getElem?_cons_zero,Option.some.injEq]at hu;subst hu;rw[cy];simp only[World.cell?,hf];have WN:(bytesOf s)[i]? = some x:=hx;obtain⟨hi,rfl⟩:=aby.1 WN;have hi2:i<s.data.size:=by rw[bytesOf_length]at hi;exact hi
   show cells[0+(i*1+0)]? = _;simp only[Nat.zero_add,Nat.mul_one,Nat.add_zero,cells];rw[Array.getElem?_append_left (by simpa using hi2)];simp[bytesOf,Array.getElem?_eq_getElem hi2]
theorem Pw{e:TypeId}(h:ZU P e=true):∃i,P.info? e=some i∧i.zero=some (.int .u8 0)∧i.size=1∧i.bytes=1:=by
 unfold ZU at h
 split at h
 ·rename_i i hi;simp only[Bool.and_eq_true,decide_eq_true_eq]at h;obtain⟨⟨h1,h2⟩,h3⟩:=h
  split at h3
  ·rename_i n hz;simp only[decide_eq_true_eq]at h3;subst h3;exact⟨i,hi,hz,h1,h2⟩
  ·cases h3
 ·cases h
theorem Er{hh:Heap}(g:Good Z ψ h w B0 O)(hB:B0≤w.heap.size)(bz:∀id o,hh.get id=some o→h id=some o){id:Nat}(hN:N id){t t' ty:TypeId}{s:AV}{u:Value}{b:ByteArray}{e:bD} (ht':P.underlying t'=some .string) (hs:az Z ψ h w s u) (BR:aI (fun i=>¬N i) s) (Iy:∀i ty cs,h i=some (.box ty cs)→aA (fun i=>i≠id) cs) (mX:∀v hw,e=.wr v hw→hh.get=h) (he:lT P hh id t s b some=some e) :
  ∃V w' ψ',(Builtin.append_ #[t,t'] ty #[u,.string b]).run P w=.ok V w'∧Next Z ψ h w B0 O N Z ψ' (e.hp h) w'∧az Z ψ' (e.hp h) w' e.v V:=by
 unfold lT at he
 split at he
 rotate_left
 ·cases he
 rename_i et cC het
 split at he
 rotate_left
 ·cases he
 rename_i hu8;obtain⟨i,hi,hz,iH,hby⟩:=Pw hu8
 split at he
 rotate_left
 ·cases he
 rename_i e' k' xs hg
 split at he
 rotate_left
 ·cases he
 rename_i hc;obtain⟨rfl,rfl⟩:=hc
 cases oE:(!xs.isEmpty&&aL xs.length b.size) with
 |false=>rw[oE]at he;cases he
 |true =>
  rw[oE]at he;cases he;simp only[Bool.and_eq_true,aL,decide_eq_true_eq,Bool.not_eq_true',List.isEmpty_eq_false_iff]at oE;obtain⟨bw,Pu⟩:=oE;have Em:=List.length_pos_iff.2 bw;have heq:=mX _ _ rfl;have xz:=bz _ _ hg;simp only[az]at hs;have hu:=hs.2 (by rw[xz];simp);subst hu;simp only[aI]at BR;have ht:=fP het;obtain⟨vs,WM,YD⟩:=g.row cC (.row e' (.int .u8)) xs xz;have hold:h cC≠none:=by rw[xz];simp
  unfold eW at Pu;rcases WM.2 with⟨h0,_⟩|⟨gg,cap,cur,hv,RR,h4,h5,h6,h7,h8⟩
  ·omega
  have q8:w.ownsRow 0 e' 1 (ψ cC) xs.length vs:=⟨WM.1,.inr ⟨gg,cap,cur,hv,acg _,h4,h5,h6,h7,h8⟩⟩;obtain⟨V,w',c9,k1,k2,k3⟩:=Lib.run_append_own_string (P:=P) w 0 t t' ty e' i ht ht' hi hz iH hby _ _ vs q8 b (by simp only[maxLen];omega) (by omega) (acg _);have oa:ob (ψ cC)=some gg:=by rw[hv];simp only[ob];rw[if_neg (by omega)]
  have hgr:w.grownBy w' (ob (ψ cC)):=by rw[oa];rw[hv]at k2;exact k2
  have Ix:dI w' e' 1 V (xs.length+b.size) (vs++Lib.strCells b):=dI.of k1;have BH:ob V=ob (ψ cC)∨∀c,ob V=some c→w.heap.size≤c:=by
   by_cases dy:xs.length+b.size≤cap
   ·have hr:=Lib.run_append_room_string (P:=P) w t t' ty e' i ht ht' hi iH gg xs.length cap cur h4 b dy (by have:cur.size=cap*1:=h7;omega);rw[hv]at c9
    cases c9.symm.trans hr
    left;rw[oa];simp only[ob];rw[if_neg (by omega)]
   ·have zy:vs.length=xs.length*1:=WM.1;have hr:=Lib.run_append_grow_string (P:=P) w t t' ty e' i (.int .u8 0) ht ht' hi hz ⟨gg,0,none⟩ xs.length cap vs (by rw[iH];exact zy) (q8.cells (g:=gg) (by rw[hv];rfl)) b (by omega) (by omega) (by rw[hby];exact growslice_fits (by omega) (by omega));rw[hv]at c9
    cases c9.symm.trans hr
    right;intro c hc;simp only[ob]at hc;split at hc<;>cases hc;exact abX _
  have kk:cO ψ h w w':=cO.grown hgr (fun b e=>⟨cC,hold,e⟩);have sm:=kk.same g;have oz:jz Z w' (.row e' (.int .u8)) V (rr xs b):=⟨vs++Lib.strCells b,by
   have e9:List.length (α:=Int) (rr xs b)=List.length (α:=Int) xs+b.size:=(List.length_append (as:=(show List Int from xs)) (bs:=bytesOf b)).trans (by rw[bytesOf_length]);show dI w' e' 1 V (List.length (α:=Int) (rr xs b)) _;rw[e9];exact Ix,by
   rw[BQ];exact(YD.append (WS (bytesOf b)) WM.1).BB sm⟩
  refine⟨V,w',dS ψ id V,c9,?_,?_⟩
  ·simp only[bD.hp];rw[kE,sV,heq];exact nk g hB id cC hN xz (fun e=>BR (by rw[e];exact hN)) hgr (ok:=.row e' (.int .u8)) oz BH Iy
  ·simp only[bD.v,bD.hp,az];exact⟨Ix.one,fun _=>(ba _ _ _).symm⟩
theorem I3(g:Good Z ψ h w B0 O)(hB:B0≤w.heap.size){id:Nat}(hN:N id){t:TypeId}{l c:AV}{u v:Value}{e:bD}(hl:az Z ψ h w l u)(hc:az Z ψ h w c v) (Iy:∀i ty cs,h i=some (.box ty cs)→aA (fun i=>i≠id) cs) (he:sI P id t l c some=some e) :
  ∃V w' ψ',(Instr.makeSlice t u v).run P w=.ok V w'∧Next Z ψ h w B0 O N Z ψ' (e.hp h) w'∧az Z ψ' (e.hp h) w' e.v V:=by
 unfold sI at he
 split at he
 rotate_left
 ·cases he
 rename_i et n m het
 split at he
 rotate_left
 ·cases he
 rename_i kk hk
 split at he
 rotate_left
 ·cases he
 rename_i kG;simp only[Bool.and_eq_true]at kG;obtain⟨kG,hz⟩:=kG
 cases R6:(decide (0≤n)&&(decide (n≤(eW:Int))&&decide (m=n))) with
 |false=>rw[R6]at he;cases he
 |true =>
  rw[R6]at he;cases he;simp only[Bool.and_eq_true,decide_eq_true_eq]at R6;obtain⟨h0,h1,rfl⟩:=R6;simp only[az]at hl hc;subst hl;subst hc;obtain⟨q,rfl⟩:∃q:Nat,m=(q:Int):=⟨m.toNat,by omega⟩;have hq:q≤eW:=by omega
  obtain⟨i,z,xC⟩:=cd kG;obtain⟨z',zt,Ee,_⟩:=BM (Z:=Z) (w:=w) hz;have hzz:z'=z:=by have:=rJ (P:=P) (w:=w) xC.info xC.zero;rw[this]at zt;cases zt;rfl
  subst hzz;have hb:=xC.bytes;unfold eW at hq;have hby:i.bytes*q≤281474976710656:=ab0 (aeg hb hq) (by decide);have ht:=fP het;obtain⟨w',c9,k1,k2⟩:=run_make_full (P:=P) w 0 t et i z' kk.sz ht xC.info xC.zero xC.size .i64 .i64 q hby (by simp only[maxLen];omega) (acg _);have kk2:cO ψ h w w':=cO.grown k2 (fun b e=>by cases e);have hv:kL Z w' kk (List.replicate q (me kk)) (madeCells z'.cells (q*kk.sz)).toList:=fun i x hx=>by
   obtain⟨hi,rfl⟩:=aby.1 hx;rw[List.length_replicate]at hi;rw[List.getElem_replicate];have Px:=xC.vW;refine aH.oC ?_ (Ee.mono (fun _ h=>h) (kk2.same g));have hmul:i*kk.sz+kk.sz≤q*kk.sz:=by rw[←Nat.succ_mul];exact abV _ hi
   have Em:=kk.gu;apply acm;intro j;rw[List.getElem?_take,List.getElem?_drop];by_cases hj:j<kk.sz
   ·rw[if_pos hj];have aK:i*kk.sz+j<q*kk.sz:=by omega
    simp only[madeCells,Array.getElem?_toList,Array.getElem?_map,Array.getElem?_range,aK,if_true,Option.map_some];rw[Px,show(i*kk.sz+j)%kk.sz=j by rw[Nat.add_comm,Nat.add_mul_mod_self_right,Nat.mod_eq_of_lt hj],getElem!_pos z'.cells j (by omega),Array.getElem?_eq_getElem (by omega)]
   ·rw[if_neg hj,List.getElem?_eq_none (by simp;omega)]
  refine⟨_,w',dS ψ id (.slice (some ⟨w.heap.size,0,none⟩) q q),c9,?_,?_⟩
  ·simp only[bD.hp];rw[gy];refine oD g hB id et hN kk2 (fun b hb=>k2.block b (g.bO hb) (by simp)) (vs:=(madeCells z'.cells (q*kk.sz)).toList) (by rw[Int.toNat_natCast,List.length_replicate];exact dI.of k1) (by rw[Int.toNat_natCast];exact hv) (fun b hb=>?_) Iy;simp only[ob]at hb;split at hb<;>cases hb;exact abX _
  ·simp only[bD.v,bD.hp,az];exact⟨(dI.of k1).one,fun _=>(ba _ _ _).symm⟩
theorem BS{hh:Heap}(g:Good Z ψ hh.get w B0 O){t t' ty:TypeId}{d s:AV}{u v:Value}{e:bD}(hd:az Z ψ hh.get w d u)(hs:az Z ψ hh.get w s v)(he:xJ P hh t d s some=some e) :
  ∃n hw w',e=.wr (.int .i64 n) hw∧(Builtin.copy_ #[t,t'] ty #[u,v]).run P w=.ok (.int .i64 n) w'∧Next Z ψ hh.get w B0 O N Z ψ hw.get w':=by
 unfold xJ at he
 split at he
 rotate_left
 ·cases he
 rename_i et id het
 split at he
 rotate_left
 ·cases he
 rename_i e' k xs hg
 split at he
 rotate_left
 ·cases he
 rename_i ys Py
 split at he
 rotate_left
 ·cases he
 rename_i hc;obtain⟨rfl,kG⟩:=hc
 cases bw:xs.isEmpty with
 |true=>rw[bw]at he;cases he
 |false =>
  rw[bw]at he;cases he;obtain⟨i,z,xC⟩:=cd kG;have ht:=fP het;have Em:=List.length_pos_iff.2 (List.isEmpty_eq_false_iff.1 bw);have iH:=k.gu;simp only[az]at hd;have hu:=hd.2 (by rw[hg];simp);subst hu;obtain⟨vs,ho,hv⟩:=g.row id (.row e' k) xs hg;obtain⟨hvl,acw⟩:=ho;rcases acw with⟨h0,_⟩|⟨gg,cap,cur,e1,e2,e3,e4,e5,e6,e7⟩
  ·omega
  have bL:hh.get id≠none:=by rw[hg];simp
  have oa:ob (ψ id)=some gg:=by rw[e1];simp only[ob];rw[if_neg (by omega)]
  obtain⟨news,⟨n1,n2,n3⟩,nv⟩:=vX g Py hs;have RR:xs.length*k.sz≤cap*k.sz:=abV _ e4;have uW:cur.toList.length=cap*k.sz:=by rw[Array.length_toList];exact e6
  rcases n3 with⟨rfl,n0⟩|⟨a,c,rfl,n4⟩
  ·have:ys=[]:=abS n0;subst this;have hr:=run_copy_nil (P:=P) w t t' ty e' ⟨gg,0,none⟩ xs.length cap ht (by simp[xC.info]);refine⟨0,_,w,rfl,by rw[e1];exact hr,?_⟩;have e9:(hh.set id (.own (.row e' k) xs)).get=hh.get:=by
    funext j;by_cases hj:j=id
    ·subst hj;rw[Heap.vR,hg]
    ·rw[Heap.Bv hj]
   have e8:nh ([]:List k.T) xs=xs:=by simp[nh]
   rw[e8,e9];exact Next.refl g
  ·let m:=Nat.min ys.length xs.length
   have hmy:m≤ys.length:=Nat.min_le_left _ _;have hmx:m≤xs.length:=Nat.min_le_right _ _;have anC:m*k.sz≤ys.length*k.sz:=abV _ hmy;have anD:m*k.sz≤xs.length*k.sz:=abV _ hmx
   let cs:=news.take (m*k.sz)
   have LH:cs.length=m*k.sz:=by simp only[cs,List.length_take];omega
   have hr:=hP (P:=P) w t t' ty e' k.sz gg 0 xs.length cap a ys.length c cur e' cs ht (by simp[xC.info,xC.size]) e3 LH (fun j q hq=>n4 j q (by
    simp only[cs,List.getElem?_take]at hq
    split at hq
    ·exact hq
    ·cases hq)) (by rw[LH,e6];omega) (fun q hq=>n2 q (ad9 hq))
   have ahK:((m:Nat):Int)=min (ys.length:Int) (xs.length:Int):=by show((min ys.length (List.length (α:=k.T) xs):Nat):Int)=min (ys.length:Int) ((List.length (α:=k.T) xs:Nat):Int);omega
   have WK:nh ys xs=ys.take m++xs.drop m:=by
    unfold nh;rcases Nat.le_total ys.length xs.length with h1|h1
    ·have:m=ys.length:=Nat.min_eq_left h1;rw[this,List.take_of_length_le h1,List.take_of_length_le (Nat.le_refl _)]
    ·have:m=xs.length:=Nat.min_eq_right h1;rw[this,List.drop_eq_nil_of_le h1,List.drop_eq_nil_of_le (Nat.le_refl _)]
   have hlen:(ys.take m++xs.drop m).length=xs.length:=by rw[List.length_append,List.length_take,List.length_drop];omega
   refine⟨_,_,_,rfl,by rw[e1,←ahK];exact hr,?_⟩;have q8:Own ψ hh.get gg:=⟨id,bL,oa⟩;have hk:=cO.setRow (w:=w) q8 ((cur.toList.take 0++cs++cur.toList.drop (0+cs.length)).toArray);have sm:=hk.same g;rw[kE];refine g.write id bL hk (fun b hb _=>setRow_other _ (fun e=>hb (by rw[oa,e]))) _ (fun _ _ he=>by cases he) (fun WD x' he=>?_)
   cases he
   let gk:=cur.toList.take 0++cs++cur.toList.drop (0+cs.length)
   have En:gk.length=cap*k.sz:=by simp only[gk,List.length_append,List.length_take,List.length_drop,uW,LH];omega
   have iV:gk.take (xs.length*k.sz)=cs++vs.drop (m*k.sz):=by simp only[gk,List.take_zero,List.nil_append,Nat.zero_add];rw[List.take_append,List.take_of_length_le (by omega),LH,←e7,List.drop_take]
   rw[WK];refine⟨gk.take (xs.length*k.sz),⟨by rw[List.length_take,En,hlen];omega,.inr ⟨gg,cap,gk.toArray,by rw[hlen];exact e1,e2,setRow_heap w gg cur _ e' _ e3,by rw[hlen];exact e4,e5,by simpa using En,by rw[hlen]⟩⟩,?_⟩;rw[iV];refine kL.BB (kL.append (fun i x hx=>?_) (fun i x hx=>?_) (by rw[LH,List.length_take,Nat.min_eq_left hmy])) sm
   ·obtain⟨hi,hx2⟩:=aby.1 hx;rw[List.length_take]at hi;have him:i<m:=by omega
    have h9:i*k.sz+k.sz≤m*k.sz:=by rw[←Nat.succ_mul];exact abV _ him
    rw[List.getElem?_take,if_pos him]at hx;refine aH.oC ?_ (nv i x hx);simp only[cs];rw[List.drop_take,List.take_take,Nat.min_eq_left (by omega)]
   ·rw[List.getElem?_drop]at hx;refine aH.oC ?_ (hv _ x hx);rw[List.drop_drop,Nat.add_mul]
mutual
theorem aI.imp{p q:Nat→Prop}(G4:∀i,p i→q i):∀{a:AV},aI p a→aI q a
 |.no,_=>by simp only[aI]
 |.bool b,_=>by simp only[aI]
 |.int k n,_=>by simp only[aI]
 |.str s,_=>by simp only[aI]
 |.lH,_=>by simp only[aI]
 |.fK,_=>by simp only[aI]
 |.ref id s i off,h=>by simp only[aI]at h ⊢;exact G4 _ h
 |.fp k x off,_=>by simp only[aI]
 |.sl ex k xs,_=>by simp only[aI]
 |.mp kk vk es,_=>by simp only[aI]
 |.bI id,h=>by simp only[aI]at h ⊢;exact G4 _ h
 |.fn f cap,h=>by simp only[aI]at h ⊢;exact aA.imp G4 h
 |.agg cs,h=>by simp only[aI]at h ⊢;exact aA.imp G4 h
 |.nM cs,h=>by simp only[aI]at h ⊢;exact aA.imp G4 h
theorem aA.imp{p q:Nat→Prop}(G4:∀i,p i→q i):∀{a:List AV},aA p a→aA q a
 |[],_=>by simp only[aA]
 |a::r,h=>by simp only[aA]at h ⊢;exact⟨aI.imp G4 h.1,aA.imp G4 h.2⟩
end
theorem aI.cells{p:Nat→Prop}{a:AV}(h:aI p a):aA p a.cells:=by
 cases a with
 |agg cs=>grind [AV.cells,aI]
 |_=>simp_all [AV.cells,aA,trivial]
theorem BT:∀{cs:List AV},IJ cs=true→∀id,AV.bI id∉cs
 |[],_,id=>by simp
 |c::r,hn,id=>by
  intro hm
  cases c with
  |bI i=>simp[IJ]at hn
  |_ =>
   simp only[IJ]at hn;rcases abM.1 hm with e|hm
   ·cases e
   ·exact BT hn id hm
theorem rK:∀{vs:List AV},uQ vs=true→∀v∈vs,∀id,AV.bI id∉v.cells
 |[],_,v,hv=>by simp at hv
 |a::r,hn,v,hv=>by
  simp only[uQ,Bool.and_eq_true]at hn;rcases abM.1 hv with rfl|hv
  ·exact BT hn.1
  ·exact rK hn.2 v hv
def wc(o:Oper):Bool :=match o.op with
 |.call { callee:=.value _,.. }=>true
 |_=>false
theorem LL{s:List (Nat×AV)}{ρC:Operand→Value}{x:Option Operand}(hx:∀y,x=some y→az Z ψ h w (ρ s y) (ρC y)):eC Z ψ h w (x.map (ρ s)) (x.map ρC):=by
 cases x with
 |none=>trivial
 |some y=>exact hx y rfl
theorem BU{s:List (Nat×AV)}{ρC:Operand→Value}:∀(ps:List (Nat×Operand)),(∀p∈ps,az Z ψ h w (ρ s p.2) (ρC p.2))→(∀p∈ps,ρ s p.2≠.no)→uj Z ψ h w (ps.map fun p=>(p.1,ρ s p.2)) (ps.map fun p=>(p.1,ρC p.2))
 |[],_,_=>trivial
 |p::r,h1,h2=>⟨rfl,h2 p (by simp),h1 p (by simp),BU r (fun q hq=>h1 q (abq _ hq)) (fun q hq=>h2 q (abq _ hq))⟩
theorem Fx{k:K}{hh:Heap}:∀{ps:List (Nat×AV)} {i:Nat} {xs:List k.T},rC k hh i ps=some xs→∀p∈ps,p.2≠.no
 |[],_,_,_,p,hp=>by simp at hp
 |(j,v)::r,i,xs,hl,p,hp=>by
  simp only[rC]at hl
  split at hl
  ·split at hl
   ·rename_i x ys h1 h2;rcases abM.1 hp with rfl|hp
    ·exact Fq h1
    ·exact Fx h2 p hp
   ·cases hl
  ·cases hl
theorem aah{α:Type}{l:List α}(h:l.length=0+1+1):∃x y,l=[x,y]:=by
 cases l with
 |nil=>simp at h
 |cons a r=>cases r with
  |nil=>simp at h
  |cons b s=>simp_all
theorem LM{a:AV}(h:Yz a=true):a≠.no:=by rintro rfl;cases h
section
variable {Eqs:TypeId→Option K} {Sg:FuncId→Option aO} {F:(f:FuncId)→(g:aO)→g.A→Option g.B}
theorem G5{hh:Heap}{ρC:Operand→Value}{o:Oper}(g:Good Z ψ h w B0 O)(hB:B0≤w.heap.size)(bz:∀id o,hh.get id=some o→h id=some o){id:Nat}(hN:N id){t:TypeId}{s x:AV}{u v:Value}{e:bD} (hs:az Z ψ h w s u) (hx:az Z ψ h w x v) (BR:aI (fun i=>¬N i) s) (bm:∀i ty cs,h i=some (.box ty cs)→aA (fun i=>¬N i) cs) (mX:∀v hw,e=.wr v hw→hh.get=h) (he:oo P hh id t s x some=some e) (c9:∀V w',(Builtin.append_ #[t,t] o.type #[u,v]).run P w=.ok V w'→(execOp ρC o).run P w=.ok (.value V) w'):gX P ρC o Z ψ h w B0 O N e:=by
 have Iy:∀i ty cs,h i=some (.box ty cs)→aA (fun i=>i≠id) cs:=fun i ty cs hb=>(bm i ty cs hb).imp (fun j hj e=>hj (by simp_all));unfold oo at he
 split at he
 ·cases he
 ·rename_i et het;have ht:=fP het
  split at he
  ·cases he
  ·rename_i kk WU
   split at he
   ·rename_i ys Py kG;obtain⟨inf,z,xC⟩:=cd kG
    split at he
    ·
     cases hc:aL 0 ys.length with
     |false=>simp_all
     |true =>
      rw[hc]at he;cases he;simp only[aL,decide_eq_true_eq]at hc;simp only[az]at hs;subst hs;obtain⟨V,w',h1,h2,h3⟩:=qK (P:=P) (ty:=o.type) g bz hB hN ht xC Py hx (by omega) Iy;refine⟨V,w',Z,_,.inl (c9 V w' h1),by simp only[bD.hp];rw[gy];exact h2,?_⟩
      grind [bD.v,bD.hp,az,ba]
    ·
     rename_i cC
     split at he
     ·rename_i e' k' xs hg
      split at he
      ·rename_i hc;obtain⟨rfl,rfl⟩:=hc
       cases oE:aL xs.length ys.length with
       |false=>simp_all
       |true =>
        rw[oE]at he;cases he;simp only[aL,decide_eq_true_eq]at oE;have heq:=mX _ _ rfl;have xz:=bz _ _ hg;simp only[az]at hs;have hu:=hs.2 (by rw[xz];simp);subst hu;simp only[aI]at BR;obtain⟨V,w',h1,h2,h3⟩:=Ap (P:=P) (ty:=o.type) g bz hB hN (fun e=>BR (by simp_all)) ht xC xz Py hx oE Iy;refine⟨V,w',Z,_,.inl (c9 V w' h1),by simp only[bD.hp];rw[kE,sV,heq];exact h2,?_⟩
        grind [bD.v,bD.hp,az,ba]
      ·cases he
     ·cases he
    ·
     rename_i ex k' xs
     split at he
     ·rename_i hc;subst hc
      cases oE:(ex&&((!ys.isEmpty || xs.isEmpty)&&aL xs.length ys.length)) with
      |false=>simp_all
      |true =>
       rw[oE]at he;cases he;simp only[Bool.and_eq_true,Bool.or_eq_true,aL,decide_eq_true_eq,Bool.not_eq_true',List.isEmpty_eq_false_iff,List.isEmpty_iff]at oE;obtain⟨rfl,bw,Pu⟩:=oE;obtain⟨V,w',h1,h2,h3⟩:=BD (P:=P) (ty:=o.type) g bz hB hN ht xC hs Py hx (bw.imp List.length_pos_iff.2 (fun h=>h)) Pu Iy;refine⟨V,w',Z,_,.inl (c9 V w' h1),by simp only[bD.hp];rw[gy];exact h2,?_⟩
       grind [bD.v,bD.hp,az,ba]
     ·cases he
    ·cases he
   ·cases he
theorem BV{ρC:Operand→Value}{o:Oper}(g:Good Z ψ h w B0 O)(hB:B0≤w.heap.size){id:Nat}(hN:N id){t:TypeId}{vs:List AV}{us:Array Value}{e:bD}(hr:ar Z ψ h w vs us.toList)(h1:∀u∈us.toList,u.oneCell'=true) (hm:aA (fun i=>¬N i) vs) (bm:∀i ty cs,h i=some (.box ty cs)→aA (fun i=>¬N i) cs) (he:xQ id t vs some=some e) (c9:(execOp ρC o).run P w=.ok (.value (.pointer (some ⟨w.heap.size,0,none⟩))) (w.alloc (.cells us t))):gX P ρC o Z ψ h w B0 O N e:=by
 unfold xQ at he
 cases he
 have bw:∀i,¬N i→i≠id:=fun j hj e=>hj (by rw[e];exact hN);have n:=By (N:=N) g hB id t hN hr h1 (fun i ty cs hb=>(bm i ty cs hb).imp bw) (hm.imp bw);refine⟨_,_,Z,_,.inl c9,by simp only[bD.hp];rw[gy];exact n,?_⟩;simp only[bD.v,bD.hp,az];exact⟨_,rfl,fun _=>by rw[ba];simp[WH]⟩
theorem Pz{hh:Heap}{ρC:Operand→Value}{s:List (Nat×AV)}{o:Oper}(g:Good Z ψ h w B0 O)(hB:B0≤w.heap.size)(bz:∀id o,hh.get id=some o→h id=some o){id:Nat}(hN:N id){t:TypeId}{n:Nat}{ps:Array (Nat×Operand)}{e:bD} (np:∀p∈ps.toList,az Z ψ h w (ρ s p.2) (ρC p.2)) (bm:∀i ty cs,h i=some (.box ty cs)→aA (fun i=>¬N i) cs) (lr:Bool) {e0:bD} (WV:e=if lr then WG e0 else e0) (mX:∀v hw,e=.wr v hw→hh.get=h) (he:vM P hh id t n (ps.toList.map fun p=>(p.1,ρ s p.2)) some=some e0)
  (c9:∀V w',(Instr.buildSlice t n (ps.map fun p=>(p.1,ρC p.2))).run P w=.ok V w'→(execOp ρC o).run P w=.ok (.value V) w'):gX P ρC o Z ψ h w B0 O N e:=by
 have Iy:∀i ty cs,h i=some (.box ty cs)→aA (fun i=>i≠id) cs:=fun i ty cs hb=>(bm i ty cs hb).imp (fun j hj e=>hj (by simp_all));unfold vM at he
 split at he
 ·cases he
 ·rename_i et het;have ht:=fP het
  split at he
  ·cases he
  ·rename_i k hk
   split at he
   ·cases he
   ·cases he
   ·rename_i xs oz kG;obtain⟨inf,z,xC⟩:=cd kG;have LN:=BU (Z:=Z) (ψ:=ψ) (h:=h) (w:=w) ps.toList np (fun p hp=>Fx oz (p.1,ρ s p.2) (abW.2 ⟨p,hp,rfl⟩));have Nr:uj Z ψ hh.get w (ps.toList.map fun p=>(p.1,ρ s p.2)) (ps.map fun p=>(p.1,ρC p.2)).toList:=by rw[Array.toList_map];exact LN.nQ bz
    split at he
    ·rename_i hc;obtain⟨rfl,hn⟩:=hc
     cases uY:uQ ((ps.toList.map fun p=>(p.1,ρ s p.2)).map (·.2)) with
     |true =>
      rw[uY]at he;cases he;have ahL:=rK uY;obtain⟨V,w',h1,h2,h3⟩:=IU (P:=P) (N:=N) g (g.sub bz) (fun _ h=>h) hB hN ht xC (fun p hp i b hm=>absurd hm (ahL p.2 (abW.2 ⟨p,hp,rfl⟩) i)) Nr oz hn Iy
      cases lr with
      |false =>
       have WV:e=.new (.bI id) [(id,.own (.row et k) xs)]:=WV;subst WV;refine⟨V,w',Z,_,.inl (c9 V w' h1),by simp only[bD.hp];rw[gy];exact h2,?_⟩
       grind [bD.v,bD.hp,az,ba]
      |true =>
       have WV:e=.new (.sl true k xs) []:=WV;subst WV;obtain⟨m1,m2⟩:=RT g hB h2 h3.2.1 h3.2.2.1 h3.2.2.2;have e1:(bD.new (.sl true k xs) []).hp h=h:=by rfl
       refine⟨V,w',_,_,.inl (c9 V w' h1),by rw[e1];exact m1,?_⟩;rw[e1];exact m2
     |false =>
      rw[uY]at he;cases he;have WV:e=.wr (.bI id) ((id,.own (.row et k) xs)::cM hh ((ps.toList.map fun p=>(p.1,ρ s p.2)).flatMap (·.2.cells))):=by rw[WV];cases lr<;>rfl
      subst WV;have heq:=mX _ _ rfl;subst heq
      let cs:=(ps.toList.map fun p=>(p.1,ρ s p.2)).flatMap (·.2.cells)
      have gd:=iU g cs;obtain⟨V,w',h1,h2,h3⟩:=IU (P:=P) (N:=N) gd g (fun b hb=>.inl hb) hB hN ht xC (fun p hp i b hm bw hb=>.inr ⟨i,List.mem_flatMap.2 ⟨p,hp,hm⟩,bw,hb⟩) Nr oz hn (fun i ty cs' hb=>Iy i ty cs' (dW _ _ _ _ hb));refine⟨V,w',rk Z ψ hh.get cs,dS ψ id V,.inl (c9 V w' h1),?_,?_⟩
      ·simp only[bD.hp];rw[BI];exact h2.drop (fun b hb=>.inl hb) (fun b hb=>hb.imp (fun h=>h) (fun⟨i,_,h5,h6⟩=>⟨i,h5,h6⟩)) (dW _ _)
      grind [bD.v,bD.hp,az,ba]
    ·cases he
theorem PA{lr:Bool}{h:Heap}{id:Nat}{t:TypeId}{n:Nat}{ps:List (Nat×AV)}{e:bD}(he:xR P lr h id t n ps some=some e):∃e0,vM P h id t n ps some=some e0∧e=if lr then WG e0 else e0:=by
 unfold xR vM at he;unfold vM
 split at he
 ·cases he
 split at he
 ·cases he
 grind
theorem BW(p:Nat→Prop)(v:Value):aI p (xH v):=by
 cases v with
 |pointer a=>grind [xH,aI]
 |slice a n c=>grind [xH,aI]
 |func fn first cap =>
  cases fn with
  |func f=>grind [xH,aI,aA]
  |_=>simp only[xH,aI]
 |_=>simp only[xH,aI]
theorem xZ(p:Nat→Prop):∀vs:List Value,aA p (vs.map xH)
 |[]=>by simp[aA]
 |v::r=>by simp only[List.map_cons,aA];exact⟨BW p v,xZ p r⟩
theorem PB(p:Nat→Prop)(v:Value):aA p (uO v).cells:=by
 cases v with
 |agg cs=>grind [uO,AV.cells,xZ]
 |_=>simp_all [uO,Fp,aA,BW,trivial]
theorem R7(Ef:∀t k,Eqs t=some k→mn P t k){hh:Heap}{ρC:Operand→Value}{s:List (Nat×AV)}{o:Oper}(g:Good Z ψ h w B0 O)(hB:B0≤w.heap.size)(bz:∀id o,hh.get id=some o→h id=some o){id:Nat}(hN:makes o.op=true→N id){e:bD} (np:∀x∈o.op.operands,az Z ψ h w (ρ s x) (ρC x)) (hm:∀x∈o.op.operands,aI (fun i=>¬N i) (ρ s x)) (bm:∀i ty cs,h i=some (.box ty cs)→aA (fun i=>¬N i) cs) (mX:∀v hw,e=.wr v hw→hh.get=h) (Lo:wc o=false) (he:cW P Eqs Sg F id hh s o some=some e):gX P ρC o Z ψ h w B0 O N e:=by
 obtain⟨dst,op,type,pos,after,guard⟩:=o;have two:∀{a b:Operand},(∀x∈(#[a,b]:Array Operand),az Z ψ h w (ρ s x) (ρC x))→az Z ψ h w (ρ s a) (ρC a)∧az Z ψ h w (ρ s b) (ρC b):=fun hx=>⟨hx _ (by simp),hx _ (by simp)⟩
 cases op<;>simp only[cW]at he<;>simp only[Op.operands]at np hm<;>first|(cases he;done)|skip
 case move x=>cases he;exact gX.val g (V:=ρC x) (by simp[execOp]) (np x (by simp))
 case assign x=>cases he;exact gX.val g (V:=ρC x) (by simp[execOp]) (np x (by simp))
 case pick c a b =>
  have h1:=np c (by simp);have h2:=np a (by simp);have h3:=np b (by simp)
  split at he
  ·rename_i t ht
   cases he
   rw[ht]at h1;simp only[az]at h1;refine gX.val g (V:=if t then ρC a else ρC b) (by simp[execOp,h1,asBool]) ?_;unfold Yx
   split
   ·rename_i p q hp hq;rw[hp]at h2;rw[hq]at h3;simp only[az]at h2 h3 ⊢
    cases t<;>simp[h2,h3]
   ·cases t
    ·exact h3
    ·exact h2
  ·cases he
 case alloc t =>
  split at he
  ·rename_i z hz;obtain⟨i,zv,hi,hzz,rfl,h1⟩:=pT hz;exact BV (us:=zv.cells) g hB (hN rfl) (BF zv) h1 (PB _ zv) bm he (by simp[execOp,Instr.alloc,rJ hi hzz,newVar,newRow,newObj,Sem.run])
  ·cases he
 case box t x =>
  have h1:=np x (by simp)
  split at he
  ·rename_i hp;have hc:=h1.cells (IX hp);exact BV (us:=(ρC x).cells) g hB (hN rfl) hc (u5 hp hc) (hm x (by simp)).cells bm he (by simp[execOp,Instr.box,newVar,newRow,newObj,Sem.run])
  ·cases he
 case build t ps =>
  unfold sM at he
  split at he
  ·rename_i z fs hz hf
   split at he
   ·rename_i cs acy jA
    cases he
    simp only[Bool.and_eq_true]at jA;obtain⟨jA,hnn⟩:=jA;have acz:fs.toList.all (fun f=>(P.info? f.type).isSome)=true:=jA;have aai:∀p∈ps.toList,az Z ψ h w (ρ s p.2) (ρC p.2):=fun p hp=>np p.2 (by simp;exact⟨p.1,by simpa using hp⟩);have LN:=BU (Z:=Z) (ψ:=ψ) (h:=h) (w:=w) ps.toList aai (fun p hp=>LM (ab7.1 hnn (p.1,ρ s p.2) (abW.2 ⟨p,hp,rfl⟩)));obtain⟨V,h1,h2⟩:=Pj (P:=P) (qs:=ps.map fun p=>(p.1,ρC p.2)) hz hf acz (by rw[Array.toList_map];exact LN) acy;exact gX.val g (V:=V) (by simp only[execOp,Sem.run_bind];rw[h1];simp) h2
   ·cases he
  ·cases he
 case buildSlice t n ps =>
  have aai:∀p∈ps.toList,az Z ψ h w (ρ s p.2) (ρC p.2):=fun p hp=>np p.2 (by simp;exact⟨p.1,by simpa using hp⟩);obtain⟨e0,h0,h1⟩:=PA he;exact Pz g hB bz (hN rfl) aai bm (YA Sg t _) h1 mX h0 (fun V w' h1=>by simp only[execOp,Sem.run_bind];rw[h1];simp)
 case load t a =>
  obtain⟨x,V,rfl,h1,h2⟩:=uZ g bz (np a (by simp)) he;exact gX.val g (V:=V) (by simp[execOp,h1]) h2
 case store t a v =>
  obtain⟨h1,h2⟩:=two np;have hw:∃hw,e=.wr .no hw:=by obtain⟨hw,_,_,h3,_⟩:=zu (P:=P) (N:=N) (g.sub bz) (h1.nQ bz) (h2.nQ bz) he;exact⟨hw,h3⟩
  obtain⟨hw,rfl⟩:=hw;have heq:=mX _ _ rfl;subst heq;obtain⟨Ln,w',Z',h3,h4,h5⟩:=zu (P:=P) (N:=N) g h1 h2 he
  cases h3
  exact⟨undef,w',Z',ψ,.inr ⟨by simp[execOp,h4],rfl⟩,h5,by simp only[bD.v,az]⟩
 case nilCheck x =>
  have h1:=np x (by simp)
  split at he
  ·rename_i id s i off hx
   cases he
   rw[hx]at h1;have h2:=h1;simp only[az]at h1;obtain⟨a,ha,_⟩:=h1;exact gX.val g (V:=ρC x) (by simp[execOp,ha]) h2
  ·rename_i k y off hx
   cases he
   rw[hx]at h1;have h2:=h1;simp only[az]at h1;obtain⟨a,us,ha,_⟩:=h1;exact gX.val g (V:=ρC x) (by simp[execOp,ha]) h2
  ·rename_i f cap hx
   cases he
   rw[hx]at h1;have h2:=h1;simp only[az]at h1;obtain⟨vs,ha,_⟩:=h1;exact gX.val g (V:=ρC x) (by simp[execOp,ha]) h2
  ·cases he
 case binOp op t x y yt =>
  obtain⟨h1,h2⟩:=two np;obtain⟨r,V,rfl,h3,h4⟩:=Pp Ef (xo:=x) (yo:=y) h1 h2 he;exact gX.val g (V:=V) (by simp only[execOp,Sem.run_bind]at h3 ⊢;rw[h3];simp) h4
 case unOp op t x =>
  have h1:=np x (by simp)
  cases op<;>simp only at he<;>first|(cases he;done)|skip
  split at he
  ·rename_i b hx
   cases he
   rw[hx]at h1;simp only[az]at h1;exact gX.val g (V:=.bool (!b)) (by simp[execOp,h1,Op.unary]) (by simp only[az])
  ·cases he
 case convert src dst x =>
  have h1:=np x (by simp);unfold Bp at he
  split at he
  ·rename_i k1 k2 k3 n hs hd hx
   cases he
   rw[hx]at h1;simp only[az]at h1;exact gX.val g (V:=.int k2 (k2.wrap n)) (by simp[execOp,h1,convert,run_underlying hs,run_underlying hd,Conv.intToInt]) (by simp only[az])
  ·rename_i sv hs hd hx
   cases he
   rw[hx]at h1;have h2:=h1;simp only[az]at h1;exact gX.val g (V:=ρC x) (by simp[execOp,h1,convert,run_underlying hs,run_underlying hd]) h2
  ·rename_i e sv hs hd hx
   split at he
   ·rename_i hu
    cases he
    rw[hx]at h1;simp only[az]at h1;obtain⟨V,w',Z',h2,h3,h4⟩:=Pv (P:=P) (N:=N) g hB hs hd hu sv;have e1:(bD.new (.sl false (.int .u8) (bytesOf sv)) []).hp h=h:=by funext i;simp[bD.hp,Heap.get]
    refine⟨V,w',Z',ψ,.inl (by simp only[execOp,h1,Sem.run_bind,h2,Result.andThen_ok,Sem.run_pure]),by rw[e1];exact h3,?_⟩;rw[e1];exact h4
   ·cases he
  ·rename_i _ e hs hd
   split at he
   ·rename_i hu
    split at he
    ·rename_i xs hx
     cases he
     exact gX.val g (V:=.string (strOf xs)) (by simp only[execOp,Sem.run_bind,WT g bz hs hu hd hx h1,Result.andThen_ok,Sem.run_pure]) (by simp only[az])
    ·cases he
   ·cases he
  ·cases he
 case makeSlice t l c =>
  have h1:=np l (by simp);have h2:=np c (by simp);have Iy:∀i ty cs,h i=some (.box ty cs)→aA (fun i=>i≠id) cs:=fun i ty cs hb=>(bm i ty cs hb).imp (fun j hj e=>hj (by rw[e];exact hN rfl));obtain⟨V,w',ψ',h3,h4,h5⟩:=I3 g hB (hN rfl) h1 h2 Iy he;exact⟨V,w',Z,ψ',.inl (by simp only[execOp,Sem.run_bind,h3,Result.andThen_ok,Sem.run_pure]),h4,h5⟩
 case makeFunc fn first cap =>
  cases fn<;>simp only at he<;>first|(cases he;done)|skip
  rename_i f
  split at he
  ·rename_i hf
   cases he
   have h0:first=#[]:=ac2 hf
   subst h0;have hl:∀l:List Operand,(∀x∈l,az Z ψ h w (ρ s x) (ρC x))→ar Z ψ h w (l.map (ρ s)) (l.map ρC):=by
    intro l
    induction l with
    |nil=>intro _;simp[ar]
    |cons a r ih=>intro ha;simp only[List.map_cons,ar];exact⟨_,_,rfl,ha a (by simp),ih (fun x hx=>ha x (abq _ hx))⟩
   exact gX.val g (V:=.func (.func f) #[] (cap.map ρC)) (by simp[execOp,Instr.makeFunc]) (by simp only[az];exact⟨_,rfl,by rw[Array.toList_map];exact hl _ (fun x hx=>np x (by simp;simpa using hx))⟩)
  ·cases he
 case slice t x lo hi mx =>
  have h1:=np x (by simp);have h2:eC Z ψ h w (lo.map (ρ s)) (lo.map ρC):=LL (fun y hy=>np y (by subst hy;simp));have h3:eC Z ψ h w (hi.map (ρ s)) (hi.map ρC):=LL (fun y hy=>np y (by subst hy;simp));have h4:eC Z ψ h w (mx.map (ρ s)) (mx.map ρC):=LL (fun y hy=>np y (by subst hy;simp))
  split at he
  ·rename_i ht;unfold xL at he
   split at he
   ·rename_i sv hx hmx
    split at he
    ·rename_i l u hb
     cases ho:bp sv.size l u with
     |false=>rw[ho]at he;cases he
     |true =>
      rw[ho]at he;cases he;rw[hx]at h1;simp only[az]at h1;have hm0:mx=none:=by cases mx with
       |none=>rfl
       |some m=>simp at hmx
      subst hm0;have c9:=u4 (P:=P) (w:=w) (b:=false) (abX sv.size) h2 h3 (mx:=none) (mx':=none) trivial hb ho (.inl rfl);exact gX.val g (V:=.string (ZT sv l u)) (by simp[execOp,Instr.sliceAt,Instr.slice,run_underlying ht,h1,c9,ZT]) (by simp only[az])
    ·cases he
   ·cases he
  ·rename_i et ht
   split at he
   ·rename_i hse;obtain⟨V,Z',h5,h6,h7⟩:=IW (P:=P) (N:=N) g bz ht h1 h2 h3 h4 mX he hse;exact⟨V,w,Z',ψ,.inl (by simp[execOp,h5]),h6,h7⟩
   ·cases he
  ·cases he
 case fieldAddr t x f =>
  have h1:=np x (by simp)
  split at he
  ·rename_i n ft id sz i off hf hx
   split at he
   ·cases he
   ·rename_i hc
    cases he
    rw[hx]at h1;obtain⟨V,h2,h3⟩:=uo (P:=P) hf hc h1;exact gX.val g (V:=V) (by simp[execOp,h2]) h3
  ·rename_i n ft k y off hf hx
   split at he
   ·cases he
   ·rename_i hc
    cases he
    rw[hx]at h1;obtain⟨V,h2,h3⟩:=vZ (P:=P) hf hc h1;exact gX.val g (V:=V) (by simp[execOp,h2]) h3
  ·cases he
 case field t x f =>
  have h1:=np x (by simp)
  split at he
  ·rename_i n ft cs hf hx
   split at he
   ·rename_i v hv
    cases he
    rw[hx]at h1;obtain⟨V,h2,h3⟩:=IV (P:=P) hf h1 hv;exact gX.val g (V:=V) (by simp[execOp,h2]) h3
   ·cases he
  ·cases he
 case indexAddr t x i =>
  obtain⟨h1,h2⟩:=two np;obtain⟨y,V,rfl,h3,h4⟩:=qL g bz h1 h2 he;exact gX.val g (V:=V) (by simp[execOp,h3]) h4
 case index t x i =>
  obtain⟨h1,h2⟩:=two np
  split at he
  ·rename_i sv ik n ht hx hi;obtain⟨c,hc,Wh⟩:=ab6.1 he
   cases Wh
   rw[hx]at h1;rw[hi]at h2;simp only[az]at h1 h2;exact gX.val g (V:=.int .u8 (c.toNat:Int)) (by simp[execOp,Instr.index,asIntOf,run_underlying ht,h1,h2,hc]) (by simp only[az])
  ·cases he
 case extract t i =>
  have h1:=np t (by simp)
  split at he
  ·rename_i vs hx
   split at he
   ·rename_i v hv
    cases he
    rw[hx]at h1;simp only[az]at h1;obtain⟨us,hu,hl⟩:=h1;obtain⟨u,h2,h3⟩:=hl.get i hv;exact gX.val g (V:=u) (by simp[execOp,Instr.extract,hu,show us[i]? = some u by simpa using h2]) h3
   ·cases he
  ·cases he
 case makeMap t r =>
  cases r with
  |some r=>cases he
  |none =>simp only at he;have Iy:∀i ty cs,h i=some (.box ty cs)→aA (fun i=>i≠id) cs:=fun i ty cs hb=>(bm i ty cs hb).imp (fun j hj e=>hj (by rw[e];exact hN rfl));obtain⟨V,w',ψ',h1,h2,h3⟩:=Ep g hB (hN rfl) Iy he;exact⟨V,w',Z,ψ',.inl (by simp[execOp,h1]),h2,h3⟩
 case lookup t m i ok =>
  obtain⟨h1,h2⟩:=two np;obtain⟨y,V,rfl,h3,h4⟩:=G2 Ef g bz h1 h2 he;exact gX.val g (V:=V) (by simp[execOp,h3]) h4
 case mapUpdate t m i v =>
  have h1:=np m (by simp);have h2:=np i (by simp);have h3:=np v (by simp);have hw:∃hw,e=.wr (.nM []) hw:=by obtain⟨hw,_,_,h4,_⟩:=v5 (N:=N) Ef (g.sub bz) (h1.nQ bz) (h2.nQ bz) (h3.nQ bz) he;exact⟨hw,h4⟩
  obtain⟨hw,rfl⟩:=hw;have heq:=mX _ _ rfl;subst heq;obtain⟨Ln,w',Z',h4,h5,h6⟩:=v5 (N:=N) Ef g h1 h2 h3 he
  cases h4
  exact⟨undef,w',Z',ψ,.inr ⟨by simp[execOp,h5],rfl⟩,h6,by simp only[bD.v,az,ar];exact⟨#[],rfl,rfl⟩⟩
 case range t x =>
  have Iy:∀i ty cs,h i=some (.box ty cs)→aA (fun i=>i≠id) cs:=fun i ty cs hb=>(bm i ty cs hb).imp (fun j hj e=>hj (by rw[e];exact hN rfl));obtain⟨V,w',ψ',h1,h2,h3⟩:=G3 g hB (hN rfl) (np x (by simp)) Iy he;exact⟨V,w',Z,ψ',.inl (by simp[execOp,h1]),h2,h3⟩
 case next x b =>
  cases b with
  |false=>cases he
  |true =>obtain⟨V,w',h1,h2,h3⟩:=I0 (P:=P) (N:=N) (ty:=type) g bz (np x (by simp)) mX he;exact⟨V,w',Z,ψ,.inl (by simp[execOp,h1]),h2,h3⟩
 case entry x =>
  obtain⟨y,V,rfl,h1,h2⟩:=I2 (P:=P) g bz (np x (by simp)) he;exact gX.val g (V:=V) (by simp[execOp,h1]) h2
 case call c =>
  obtain⟨callee,args,argTypes⟩:=c
  cases callee with
  |value f=>simp[wc]at Lo
  |invoke r m=>simp only at he;cases he
  |builtin b =>
   have ji:∀x∈args.toList,az Z ψ h w (ρ s x) (ρC x):=fun x hx=>np x (by simp only[Call.operands];exact Array.mem_append.2 (.inr (by simpa using hx)));have LO:∀x∈args.toList,aI (fun i=>¬N i) (ρ s x):=fun x hx=>hm x (by simp only[Call.operands];exact Array.mem_append.2 (.inr (by simpa using hx)));obtain⟨args⟩:=args;obtain⟨argTypes⟩:=argTypes;simp only at he ji LO
   cases b<;>simp only at he<;>first|(cases he;done)|skip
   case append =>
    split at he
    ·rename_i l1 l2 x y t t'
     split at he
     ·rename_i htt;subst htt;exact G5 g hB bz (hN rfl) (ji x (by simp)) (ji y (by simp)) (LO x (by simp)) bm mX he (fun V w' h1=>by simp only[execOp,resolve,invoke,builtin,Sem.run_bind,Sem.run_pure,Result.andThen_ok,List.map_toArray,List.map_cons,List.map_nil,h1])
     ·split at he
      ·rename_i b hb hy;have h2:=ji y (by simp);rw[hy]at h2;simp only[az]at h2;have Iy:∀i ty cs,h i=some (.box ty cs)→aA (fun i=>i≠id) cs:=fun i ty cs hb=>(bm i ty cs hb).imp (fun j hj e=>hj (by rw[e];exact hN rfl));obtain⟨V,w',ψ',h3,h4,h5⟩:=Er (ty:=type) (t:=t) (t':=t') g hB bz (hN rfl) hb (ji x (by simp)) (LO x (by simp)) Iy mX he;exact⟨V,w',Z,ψ',.inl (by simp only[execOp,resolve,invoke,builtin,Sem.run_bind,Sem.run_pure,Result.andThen_ok,List.map_toArray,List.map_cons,List.map_nil,h2,h3]),h4,h5⟩
      ·cases he
    ·cases he
   case copy =>
    split at he
    ·rename_i l1 l2 x y t t';have h1:=ji x (by simp);have h2:=ji y (by simp);have hw:∃n hw,e=.wr (.int .i64 n) hw:=by obtain⟨n,hw,_,h4,_⟩:=BS (N:=N) (t':=t') (ty:=type) (g.sub bz) (h1.nQ bz) (h2.nQ bz) he;exact⟨n,hw,h4⟩
     obtain⟨n,hw,rfl⟩:=hw;have heq:=mX _ _ rfl;subst heq;obtain⟨n',Ln,w',h4,h5,h6⟩:=BS (N:=N) (t':=t') (ty:=type) g h1 h2 he
     cases h4
     exact⟨.int .i64 n,w',Z,ψ,.inl (by simp only[execOp,resolve,invoke,builtin,Sem.run_bind,Sem.run_pure,Result.andThen_ok,List.map_toArray,List.map_cons,List.map_nil,h5]),h6,by simp only[bD.v,az]⟩
    ·cases he
   case delete =>
    split at he
    ·rename_i l1 l2 m x t ts;have h1:=ji m (by simp);have h2:=ji x (by simp);have hw:∃hw,e=.wr (.nM []) hw:=by obtain⟨hw,_,h4,_⟩:=v7 (N:=N) (ty:=type) (ts:=ts) Ef (g.sub bz) (h1.nQ bz) (h2.nQ bz) he;exact⟨hw,h4⟩
     obtain⟨hw,rfl⟩:=hw;have heq:=mX _ _ rfl;subst heq;obtain⟨Ln,w',h4,h5,h6⟩:=v7 (N:=N) (ty:=type) (ts:=ts) Ef g h1 h2 he
     cases h4
     exact⟨.tuple #[],w',Z,ψ,.inl (by simp only[execOp,resolve,invoke,builtin,Sem.run_bind,Sem.run_pure,Result.andThen_ok,List.map_toArray,List.map_cons,List.map_nil,h5]),h6,by simp only[bD.v,az,ar];exact⟨#[],rfl,rfl⟩⟩
    ·cases he
   case len =>
    split at he
    ·rename_i l1 l2 x t
     split at he
     ·rename_i htm;obtain⟨n,rfl,h1⟩:=LK (P:=P) (ty:=type) g bz htm (ji x (by simp)) he;exact gX.val g (V:=.int .i64 (n:Int)) (by simp only[execOp,resolve,invoke,builtin,Sem.run_bind,Sem.run_pure,Result.andThen_ok,List.map_toArray,List.map_cons,List.map_nil,h1]) (by simp only[az])
     split at he
     ·rename_i aK;obtain⟨n,rfl,h1⟩:=Pn g bz (ji x (by simp)) he;refine gX.val g (V:=.int .i64 (n:Int)) ?_ (by simp only[az]);rcases h1 with⟨sv,h2,h3,rfl⟩|⟨A,c,h3⟩
      ·unfold ZV at aK;rw[h2]at aK
       split at aK
       ·rename_i hu _;simp[execOp,resolve,invoke,builtin,Builtin.len_,run_underlying hu,h3,goInt]
       ·cases aK
       ·rename_i h9;exact(h9 _ rfl).elim
       ·cases aK
      ·have hu:∃e,P.underlying t=some (.slice e):=by
        have h4:=ji x (by simp);rw[h3]at h4;unfold ZV at aK
        split at aK
        ·rename_i sv _ hxx;rw[hxx]at h4;simp only[az]at h4;cases h4
        ·cases aK
        ·rename_i e _ hu _;exact⟨_,hu⟩
        ·cases aK
       obtain⟨e,hu⟩:=hu;simp[execOp,resolve,invoke,builtin,Builtin.len_,run_underlying hu,h3,goInt]
     ·cases he
    ·cases he
   all_goals
    unfold Pc at he
    split at he
    ·rename_i k a k' b hxy;have hl:=congrArg List.length hxy;simp only[List.length_map,List.length_cons,List.length_nil]at hl;obtain⟨x,y,rfl⟩:=aah hl;simp only[List.map_cons,List.map_nil,List.cons.injEq,and_true]at hxy;have h1:=ji x (by simp);have h2:=ji y (by simp);rw[hxy.1]at h1;rw[hxy.2]at h2;simp only[az]at h1 h2
     split at he
     ·rename_i hk;subst hk
      cases he
      refine gX.val g (V:=bX (.int _ _)) ?_ (j9 _ _)
      first
       |(simp[execOp,resolve,invoke,builtin,Builtin.max_,Builtin.max2,h1,h2,bX];simp only[Int.max_def];split<;>split<;>omega)
       |(simp[execOp,resolve,invoke,builtin,Builtin.min_,Builtin.min2,h1,h2,bX];simp only[Int.min_def];split<;>split<;>omega)
     ·cases he
    ·cases he
end
end Go.Vs
namespace Go.Vs
variable {P:Program} {Z Z' Zf:Nat→Prop} {ψ ψ':Nat→Value} {h h':Hp} {w w':World} {B0:Nat} {O:Nat→Prop} {N:Nat→Prop}
abbrev zz:=Nat×Option Nat×Ob
def dM(L:List zz):Heap:=L.map fun e=>(e.1,e.2.2)
def kb(ψ:Nat→Value):Option Nat→Value
 |some s=>ψ s
 |none=>.slice none 0 0
def eX(ψ:Nat→Value):List zz→Nat→Value
 |[],_=>undef
 |(i,s,_)::r,n=>if i=n then kb ψ s else eX ψ r n
theorem oG{L:List zz}{i:Nat}{o:Ob}(hg:(dM L).get i=some o):∃s,(i,s,o)∈L:=by
 induction L with
 |nil=>simp[dM,Heap.get]at hg
 |cons e r ih =>
  obtain⟨j,s,o'⟩:=e;simp only[dM,List.map_cons,Heap.get]at hg
  split at hg
  ·rename_i e;subst e;cases hg;exact⟨s,abT⟩
  ·obtain⟨s',hs⟩:=ih hg;exact⟨s',abq _ hs⟩
theorem nq{i:Nat}{r:List Nat}(h:cc (i::r)=true):i∉r∧cc r=true:=by simp_all [cc,Bool.and_eq_true,Bool.not_eq_true',List.contains_iff_mem]
theorem jk{L:List zz}(hn:cc (L.map (·.1))=true){i:Nat}{s:Option Nat}{o:Ob}(hm:(i,s,o)∈L):eX ψ L i=kb ψ s:=by
 induction L with
 |nil=>cases hm
 |cons e r ih =>
  obtain⟨j,s',o'⟩:=e;obtain⟨h1,h2⟩:=nq hn;simp only[eX]
  grind
theorem WW{L:List zz}(hs:cc (L.filterMap (·.2.1))=true){i j s:Nat}{o o':Ob}(h1:(i,some s,o)∈L)(h2:(j,some s,o')∈L):i=j∧o=o':=by
 induction L with
 |nil=>cases h1
 |cons e r ih =>
  obtain⟨k,s',o''⟩:=e;have mem:∀{k:Nat} {o:Ob},(k,some s,o)∈r→s∈r.filterMap (·.2.1):=fun h=>aef.2 ⟨_,h,rfl⟩;rw[List.filterMap_cons]at hs
  cases s' with
  |none =>simp_all
  |some s' =>
   simp only[]at hs;obtain⟨h3,h4⟩:=nq hs
   grind
def I4:(ok:OK)→ok.T→Prop
 |.row _ _,xs=>xs=[]
 |_,_=>False
theorem I4.owns:∀{ok:OK} {xs:ok.T},I4 ok xs→jz Z w ok (.slice none 0 0) xs
 |.row ty k,xs,h=>by have h:xs=[]:=h;subst h;exact⟨[],⟨by simp,.inl ⟨rfl,none,rfl⟩⟩,fun i x hx=>by simp at hx⟩
 |.map _ _,_,h=>h.elim
 |.iter _ _,_,h=>h.elim
 |.og,_,h=>h.elim
def we(Z:Nat→Prop)(ψ:Nat→Value)(h:Hp)(w:World)(h':Hp)(ψ':Nat→Value):zz→Prop
 |(_,some s,.own ok xs)=>h s=some (.own ok xs)
 |(_,none,.own ok xs)=>I4 ok xs
 |(_,some s,.box ty cs')=>(∃cs,h s=some (.box ty cs))∧∀gg vs,ψ s=.pointer (some ⟨gg,0,none⟩)→w.heap[gg]? = some (.cells vs ty (0,0))→ar Z ψ' h' w cs' vs.toList
 |(_,none,.box _ _)=>False
theorem Good.rename(g:Good Z ψ h w B0 O){L:List zz}(hn:cc (L.map (·.1))=true)(hs:cc (L.filterMap (·.2.1))=true)(kG:∀e∈L,we Z ψ h w (dM L).get (eX ψ L) e) :
  Good Z (eX ψ L) (dM L).get w B0 O:=by
 have src:∀id b,(dM L).get id≠none→ob (eX ψ L id)=some b→∃s o,(id,some s,o)∈L∧h s≠none∧ob (ψ s)=some b:=fun id b h1 h2=>by
  obtain⟨o,ho⟩:=abQ.1 h1;obtain⟨s,hm⟩:=oG ho;rw[jk hn hm]at h2
  cases s with
  |none=>simp[kb,ob]at h2
  |some s =>
   have h3:=kG _ hm;refine⟨s,o,hm,?_,h2⟩
   cases o with
   |box ty cs=>obtain⟨⟨cs0,h4⟩,_⟩:=h3;rw[h4];simp
   |own ok xs=>rw[show h s=some (.own ok xs) from h3];simp
 refine⟨fun id ty cs hb=>?_,fun id ok xs hb=>?_,fun id b h1 h2=>?_,fun id ov b h1 h2 h3 h4=>?_,g.j7⟩
 ·obtain⟨s,hm⟩:=oG hb;have h3:=kG _ hm;rw[jk hn hm]
  cases s with
  |none=>exact h3.elim
  |some s =>obtain⟨⟨cs0,h4⟩,h5⟩:=h3;obtain⟨gg,vs,h6,h7,h8,h9⟩:=g.box s ty cs0 h4;exact⟨gg,vs,h6,h7,h5 gg vs h6 h7,h9⟩
 ·obtain⟨s,hm⟩:=oG hb;have h3:=kG _ hm;rw[jk hn hm]
  cases s with
  |none=>exact I4.owns h3
  |some s=>exact g.row s ok xs h3
 ·obtain⟨s,o,hm,h3,h4⟩:=src id b h1 h2;exact g.live s b h3 h4
 ·obtain⟨s,o,hm,h5,h6⟩:=src id b h1 h3;obtain⟨s',o',YG,h5',h6'⟩:=src ov b h2 h4;have:=g.apart s s' b h5 h5' h6 h6'
  grind [WW]
def AM(hh:Heap)(i:Nat):List AV:=match hh.get i with
 |some (.box _ cs)=>cs
 |_=>[]
def dN:(dH:List CK)→Nat→List AV→rm dH→List zz
 |[],_,_,_=>[]
 |.val k::r,n,cs,x=>dN r (n+1) (cs.drop k.sz) x.2
 |.own ok::r,n,cs,x=>(n,(pO (cs.headD .no)).head?,.own ok x.1)::dN r (n+1) cs.tail x.2
def eQ:(b:BK)→Heap→Nat→Nat→Nat→b.T→List zz
 |.box ty c,hh,i,i',n,x=>(i',some i,.box ty (aE c n x))::dN c n (AM hh i) x
 |.own ok,_,i,i',_,x=>[(i',some i,.own ok x)]
def cw:(bs:List BK)→Heap→List Nat→List Nat→Nat→zj bs→List zz
 |b::r,hh,i::is,i'::is',n,x=>eQ b hh i i' n x.1++cw r hh is is' (n+16) x.2
 |_,_,_,_,_,_=>[]
theorem nr:∀(dH:List CK) (n:Nat) (cs:List AV) (x:rm dH),dM (dN dH n cs x)=aX dH n x
 |[],_,_,_=>rfl
 |.val k::r,n,cs,x=>nr r (n+1) _ x.2
 |.own ok::r,n,cs,x=>by simp only[dN,aX,dM,List.map_cons];rw[←nr r (n+1) cs.tail x.2];rfl
theorem lK:∀(dH:List CK) (n:Nat) (cs:List AV) (x:rm dH),(dN dH n cs x).map (·.1)=cr dH n
 |[],_,_,_=>rfl
 |.val k::r,n,cs,x=>lK r (n+1) _ x.2
 |.own ok::r,n,cs,x=>by simp only[dN,cr,List.map_cons];rw[lK r (n+1) cs.tail x.2]
theorem ya(c:AV):(pO c).head?.toList=pO c:=by cases c<;>rfl
theorem dQ{α β:Type}(f:α→Option β)(a:α)(l:List α):(a::l).filterMap f=(f a).toList++l.filterMap f:=by
 grind
theorem pX{k:K}{r:List CK}{hh:Heap}{cs:List AV}{x:rm (.val k::r)}(hd:cQ (.val k::r) hh cs=some x):dr k ((cs.take k.sz).map (cV hh))=some x.1∧cQ r hh (cs.drop k.sz)=some x.2:=by
 have e:cQ (.val k::r) hh cs=(match dr k ((cs.take k.sz).map (cV hh)),cQ r hh (cs.drop k.sz) with
  |some x,some y=>some ((x,y):k.T×rm r)
  |_,_=>none):=by rfl
 rw[e]at hd;clear e;generalize dr k ((cs.take k.sz).map (cV hh))=o1 at hd ⊢;generalize cQ r hh (cs.drop k.sz)=o2 at hd ⊢
 cases o1 with
 |none=>cases hd
 |some x1 =>
  cases o2 with
  |none=>cases hd
  |some y1=>have:=ab2 hd;subst this;exact⟨rfl,rfl⟩
theorem mo{ok:OK}{r:List CK}{hh:Heap}{cs:List AV}{x:rm (.own ok::r)}(hd:cQ (.own ok::r) hh cs=some x):∃c cs',cs=c::cs'∧dZ hh ok c=some x.1∧cQ r hh cs'=some x.2:=by
 cases cs with
 |nil=>cases hd
 |cons c cs =>
  refine⟨c,cs,rfl,?_⟩;have e:cQ (.own ok::r) hh (c::cs)=(match dZ hh ok c,cQ r hh cs with
   |some x,some y=>some ((x,y):ok.T×rm r)
   |_,_=>none):=rfl
  rw[e]at hd;clear e;generalize dZ hh ok c=o1 at hd ⊢;generalize cQ r hh cs=o2 at hd ⊢
  cases o1 with
  |none=>cases hd
  |some x1 =>
   cases o2 with
   |none=>cases hd
   |some y1=>have:=ab2 hd;subst this;exact⟨rfl,rfl⟩
theorem pY:∀(dH:List CK) (n:Nat) (hh:Heap) (cs:List AV) (x:rm dH),cQ dH hh cs=some x→(dN dH n cs x).filterMap (·.2.1)=fW dH cs
 |[],_,_,cs,_,_=>by cases cs<;>rfl
 |.val k::r,n,hh,cs,x,hd=>by
  obtain⟨_,h2⟩:=pX hd;have e:fW (.val k::r) cs=fW r (cs.drop k.sz):=by cases cs<;>rfl
  rw[e];exact pY r (n+1) hh _ x.2 h2
 |.own ok::r,n,hh,cs,x,hd=>by obtain⟨c,cs',rfl,_,h2⟩:=mo hd;simp only[dN,fW];rw[dQ];simp only[List.headD_cons,List.tail_cons];rw[ya,pY r (n+1) hh cs' x.2 h2]
theorem mq{hh:Heap}{ok:OK}{c:AV}{xs:ok.T}(ho:dZ hh ok c=some xs):(c=.fK∧I4 ok xs)∨∃id,c=.bI id∧hh.get id=some (.own ok xs):=by
 unfold dZ at ho
 split at ho
 ·cases ok with
  |row _ _=>cases ho;exact .inl ⟨rfl,rfl⟩
  |_=>cases ho
 ·grind
 ·cases ho
theorem G6{hh:Heap}{ok:OK}{c:AV}{xs:ok.T}{v:Value}(ho:dZ hh ok c=some xs)(hr:az Z ψ hh.get w c v){n:Nat}(jV:h' n≠none→ψ' n=kb ψ (pO c).head?):az Z' ψ' h' w' (.bI n) v:=by
 rcases mq ho with⟨rfl,_⟩|⟨id,rfl,hg⟩
 ·simp only[az]at hr ⊢;subst hr;exact⟨⟨rfl,rfl⟩,fun hn=>(jV hn).symm⟩
 ·simp only[az]at hr ⊢;refine⟨hr.1,fun hn=>?_⟩;rw[jV hn];exact hr.2 (by rw[hg];simp)
theorem s5{hh:Heap}(g:Good Z ψ hh.get w B0 O)(hz:∀b,Z b→Z' b):∀(dH:List CK) (n:Nat) (cs:List AV) (x:rm dH) (vs:List Value),cQ dH hh cs=some x →(∀id b,AV.bI id∈qJ dH cs→hh.get id≠none→ob (ψ id)=some b→Z' b)→(∀e∈dN dH n cs x,h' e.1≠none→ψ' e.1=kb ψ e.2.1) → ar Z ψ hh.get w cs vs→ar Z' ψ' h' w (aE dH n x) vs
 |[],n,cs,x,vs,hd,_,_,hr=>by
  cases cs with
  |nil=>simpa only[aE,ar] using hr
  |cons c cs=>cases hd
 |.val k::r,n,cs,x,vs,hd,hf,jV,hr=>by
  obtain⟨h1,h2⟩:=pX hd;have e:qJ (.val k::r) cs=cs.take k.sz++qJ r (cs.drop k.sz):=by cases cs<;>rfl
  rw[e]at hf;have sQ:ar Z ψ hh.get w (cs.take k.sz++cs.drop k.sz) vs:=by rw[List.take_append_drop];exact hr
  obtain⟨us,ws,rfl,h3,h4⟩:=ar.split sQ;simp only[aE];have h5:=oy (Z':=Z') g hz (fun id b bL=>hf id b (abO _ bL)) h3;exact ar.append (iG (dK h1 h5)) (s5 g hz r (n+1) (cs.drop k.sz) x.2 ws h2 (fun id b bL=>hf id b (abN _ bL)) jV h4)
 |.own ok::r,n,cs,x,vs,hd,hf,jV,hr=>by obtain⟨c,cs',rfl,h1,h2⟩:=mo hd;simp only[ar]at hr;obtain⟨v,us,rfl,h3,h4⟩:=hr;simp only[aE,ar];refine⟨v,us,rfl,G6 h1 h3 (fun hn=>jV (n,_,_) (by simp only[dN];exact abT) hn),?_⟩;exact s5 g hz r (n+1) cs' x.2 us h2 hf (fun e he=>jV e (by simp only[dN];exact abq _ he)) h4
theorem fC{b:BK}{r:List BK}{hh:Heap}{i:Nat}{is:List Nat}{x:zj (b::r)}(hd:dh (b::r) hh (i::is)=some x):ru b hh i=some x.1∧dh r hh is=some x.2:=by
 have e:dh (b::r) hh (i::is)=(match ru b hh i,dh r hh is with
   |some x,some y=>some ((x,y):b.T×zj r)
   |_,_=>none):=rfl
 grind
theorem s6{ty:TypeId}{c:List CK}{hh:Heap}{i:Nat}{x:rm c}(hd:ru (.box ty c) hh i=some x):∃cs,hh.get i=some (.box ty cs)∧cQ c hh cs=some x:=by
 grind [ru,II]
theorem kc{hh:Heap}{ok:OK}{i:Nat}{x:ok.T}(h:dZ hh ok (.bI i)=some x):hh.get i=some (.own ok x):=by
 rcases mq h with⟨h,_⟩|⟨id,h,hg⟩
 ·cases h
 simp_all
theorem Fy{ok:OK}{hh:Heap}{i:Nat}{x:ok.T}(hd:ru (.own ok) hh i=some x):hh.get i=some (.own ok x):=kc hd
theorem pZ{hh:Heap}{i:Nat}{ty:TypeId}{cs:List AV}(hg:hh.get i=some (.box ty cs)):AM hh i=cs:=by grind [AM]
theorem G7(b:BK){hh:Heap}{i i' n:Nat}(x:b.T):dM (eQ b hh i i' n x)=j0 b i' n x:=by
 cases b with
 |box ty c=>grind [eQ,j0,nr,AM,dM]
 |own ok=>rfl
theorem Es(b:BK){hh:Heap}{i i' n:Nat}(x:b.T):(eQ b hh i i' n x).map (·.1)=i'::cr b.dH n:=by
 cases b with
 |box ty c=>simp only[eQ,List.map_cons,BK.dH];rw[lK]
 |own ok=>simp[eQ,BK.dH,cr]
theorem I5(b:BK){hh:Heap}{i i' n:Nat}{x:b.T}(hd:ru b hh i=some x):(eQ b hh i i' n x).filterMap (·.2.1)=ni b hh i:=by
 cases b with
 |box ty c =>
  grind [s6,eQ,ni,dQ,pZ,pY]
 |own ok=>rfl
theorem jB:∀(bs:List BK) (hh:Heap) (is is':List Nat) (n:Nat) (x:zj bs),dh bs hh is=some x→is'.length=bs.length→dM (cw bs hh is is' n x)=bE bs is' n x
 |[],hh,is,is',n,x,_,hl=>by cases is'<;>simp[cw,bE,dM]
 |b::r,hh,[],is',n,x,hd,_=>by cases hd
 |b::r,hh,i::is,[],n,x,_,hl=>by simp at hl
 |b::r,hh,i::is,i'::is',n,x,hd,hl=>by obtain⟨_,h3⟩:=fC hd;have ih:=jB r hh is is' (n+16) x.2 h3 (by simpa using hl);simp only[cw,bE];rw[←ih,←G7 b (hh:=hh) (i:=i) x.1];simp[dM]
theorem hY:∀(bs:List BK) (hh:Heap) (is is':List Nat) (n:Nat) (x:zj bs),dh bs hh is=some x→is'.length=bs.length→(cw bs hh is is' n x).map (·.1)=bZ bs is' n
 |[],hh,is,is',n,x,_,hl=>by cases is'<;>simp[cw,bZ]
 |b::r,hh,[],is',n,x,hd,_=>by cases hd
 |b::r,hh,i::is,[],n,x,_,hl=>by simp at hl
 |b::r,hh,i::is,i'::is',n,x,hd,hl=>by obtain⟨_,h3⟩:=fC hd;have ih:=hY r hh is is' (n+16) x.2 h3 (by simpa using hl);simp only[cw,bZ,List.map_append];rw[ih,Es,List.cons_append]
theorem kN:∀(bs:List BK) (hh:Heap) (is is':List Nat) (n:Nat) (x:zj bs),dh bs hh is=some x→is'.length=bs.length→(cw bs hh is is' n x).filterMap (·.2.1)=c8 bs hh is
 |[],hh,is,is',n,x,_,hl=>by cases is'<;>cases is<;>simp[cw,c8]
 |b::r,hh,[],is',n,x,hd,_=>by cases hd
 |b::r,hh,i::is,[],n,x,_,hl=>by simp at hl
 |b::r,hh,i::is,i'::is',n,x,hd,hl=>by obtain⟨h1,h3⟩:=fC hd;have ih:=kN r hh is is' (n+16) x.2 h3 (by simpa using hl);simp only[cw,c8];rw[List.filterMap_append,ih,I5 b h1]
theorem s8{hd:Hp}{hh:Heap}:∀(dH:List CK) (n:Nat) (cs:List AV) (x:rm dH),cQ dH hh cs=some x→(∀s∈fW dH cs,hd s=hh.get s)→∀e∈dN dH n cs x,we Z ψ hd w h' ψ' e
 |[],n,cs,x,_,_,e,he=>by simp[dN]at he
 |.val k::r,n,cs,x,Wm,hk,e,he=>by
  obtain⟨_,h2⟩:=pX Wm;have e0:fW (.val k::r) cs=fW r (cs.drop k.sz):=by cases cs<;>rfl
  rw[e0]at hk;exact s8 r (n+1) _ x.2 h2 hk e he
 |.own ok::r,n,cs,x,Wm,hk,e,he=>by
  obtain⟨c,cs',rfl,h1,h2⟩:=mo Wm;simp only[dN,List.headD_cons,List.tail_cons]at he;simp only[fW]at hk;rcases abM.1 he with rfl|he
  ·rcases mq h1 with⟨rfl,h3⟩|⟨id,rfl,h3⟩
   ·exact h3
   ·show hd id=some (.own ok x.1);rw[hk id (List.mem_append_left _ (by simp[pO])),h3]
  ·exact s8 r (n+1) cs' x.2 h2 (fun s hs=>hk s (abN _ hs)) e he
theorem LP{hd:Hp}{hh:Heap}(g:Good Z ψ hh.get w B0 O)(hz:∀b,Z b→Z' b)(b:BK){i i' n:Nat}{x:b.T}(Wm:ru b hh i=some x) (hf:∀id g,AV.bI id∈Bk b hh i→hh.get id≠none→ob (ψ id)=some g→Z' g) (hk:∀s∈ni b hh i,hd s=hh.get s) (jV:∀e∈eQ b hh i i' n x,h' e.1≠none→ψ' e.1=kb ψ e.2.1) :
  ∀e∈eQ b hh i i' n x,we Z' ψ hd w h' ψ' e:=by
 intro e he
 cases b with
 |box ty c =>
  obtain⟨cs,h1,h2⟩:=s6 Wm;simp only[Bk,ni,h1]at hf hk;have acA:∀e∈dN c n cs x,h' e.1≠none→ψ' e.1=kb ψ e.2.1:=fun e he=>jV e (by grind [eQ,pZ,List.mem_cons_of_mem]);simp only[eQ]at he;rcases abM.1 he with rfl|he
  ·refine⟨⟨cs,by simp_all⟩,fun gg vs h4 h5=>?_⟩;obtain⟨gg',iI,h6,h7,h8,_⟩:=g.box i ty cs h1
   grind [s5]
  grind [pZ,s8,List.mem_cons_of_mem]
 |own ok =>
  have h1:=Fy Wm;simp only[eQ,List.mem_singleton]at he;subst he;show hd i=some (.own ok x)
  grind [ni]
theorem mr{hd:Hp}{hh:Heap}(g:Good Z ψ hh.get w B0 O)(hz:∀b,Z b→Z' b):∀(bs:List BK) (is is':List Nat) (n:Nat) (x:zj bs),dh bs hh is=some x →(∀id b,AV.bI id∈gq bs hh is→hh.get id≠none→ob (ψ id)=some b→Z' b)→(∀s∈c8 bs hh is,hd s=hh.get s)→(∀e∈cw bs hh is is' n x,h' e.1≠none→ψ' e.1=kb ψ e.2.1) → ∀e∈cw bs hh is is' n x,we Z' ψ hd w h' ψ' e
 |[],is,is',n,x,_,_,_,_,e,he=>by simp[cw]at he
 |b::r,[],is',n,x,Wm,_,_,_,e,he=>by cases Wm
 |b::r,i::is,[],n,x,_,_,_,_,e,he=>by simp[cw]at he
 |b::r,i::is,i'::is',n,x,Wm,hf,hk,jV,e,he=>by
  obtain⟨h1,h3⟩:=fC Wm;simp only[gq,c8]at hf hk;simp only[cw]at he jV;rcases abU.1 he with he|he
  ·exact LP g hz b h1 (fun id g bL=>hf id g (abO _ bL)) (fun s hs=>hk s (abO _ hs)) (fun e he=>jV e (abO _ he)) e he
  ·exact mr g hz r is is' (n+16) x.2 h3 (fun id b bL=>hf id b (abN _ bL)) (fun s hs=>hk s (abN _ hs)) (fun e he=>jV e (abN _ he)) e he
theorem ta{kept:List Nat}{lr:List AV}(hk:xO kept lr=true):cc kept=true∧∀(hh:Heap) s,s∈kept→(cM hh lr).get s=hh.get s:=by
 unfold xO at hk;rw[Bool.and_eq_true]at hk
 grind [pS,sW,List.all_eq_true]
theorem yc{hh:Heap}{lr:List AV}{kept:List Nat}(g:Good Z ψ hh.get w B0 O)(hk:xO kept lr=true){L:List zz}(hn:cc (L.map (·.1))=true)(hs:L.filterMap (·.2.1)=kept) (kG:∀e∈L,we (rk Z ψ hh.get lr) ψ (cM hh lr).get w (dM L).get (eX ψ L) e):Good (rk Z ψ hh.get lr) (eX ψ L) (dM L).get w B0 O :=(iU g lr).rename hn (by grind [ta]) kG
theorem AO{L:List zz}(hn:cc (L.map (·.1))=true):∀e∈L,(dM L).get e.1≠none→eX ψ L e.1=kb ψ e.2.1:=fun⟨i,s,o⟩ he _=>jk hn he
theorem nt(A B:List zz):dM (A++B)=dM A++dM B:=by simp[dM]
theorem AP{hh:Heap}{i s i':Nat}{v:Value}(hr:az Z ψ hh.get w (.ref i s 0 0) v)(hi:hh.get i≠none)(jV:h' i'≠none→ψ' i'=ψ i):az Z' ψ' h' w' (.ref i' 0 0 0) v:=by simp only[az]at hr ⊢;obtain⟨a,rfl,ha⟩:=hr;refine⟨a,rfl,fun hn=>?_⟩;rw[jV hn,ha hi];simp
theorem p4{v:AV}{i:Nat}(h:Fi v=some i):∃s,v=.ref i s 0 0:=by
 unfold Fi at h
 grind
theorem jC{hh:Heap}:∀(bs:List BK) (is:List Nat) (x:zj bs),dh bs hh is=some x→is.length=bs.length∧∀i∈is,hh.get i≠none
 |[],[],_,_=>⟨rfl,fun i hi=>by cases hi⟩
 |[],_::_,_,h=>by cases h
 |_::_,[],_,h=>by cases h
 |b::r,i::is,x,h=>by
  obtain⟨h1,h3⟩:=fC h;obtain⟨h4,h5⟩:=jC r is x.2 h3;refine⟨by simp[h4],fun j hj=>?_⟩;rcases abM.1 hj with rfl|hj
  ·cases b with
   |box ty c=>grind [s6]
   |own ok=>rw[Fy h1];simp
  simp_all
theorem kO{hh:Heap}:∀(bs:List BK) (is is':List Nat) (n:Nat) (x:zj bs),is.length=bs.length→∀p∈is.zip is',∃o,(p.2,some p.1,o)∈cw bs hh is is' n x
 |[],is,is',n,x,hl,p,hp=>by simp_all
 |b::r,[],is',n,x,hl,p,hp=>by simp at hp
 |b::r,i::is,[],n,x,hl,p,hp=>by simp at hp
 |b::r,i::is,i'::is',n,x,hl,p,hp=>by
  simp only[List.zip_cons_cons]at hp;simp only[cw];rcases abM.1 hp with rfl|hp
  ·cases b with
   |box ty c=>grind [List.mem_append_left,eQ,List.mem_cons_self]
   |own ok=>grind [List.mem_append_left,eQ,List.mem_cons_self]
  ·obtain⟨o,ho⟩:=kO r is is' (n+16) x.2 (by simpa using hl) p hp;exact⟨o,abN _ ho⟩
theorem Ns{hd:Hp}{hh:Heap}{ok:OK}{c:AV}{xs:ok.T}(ho:dZ hh ok c=some xs)(hk:∀s∈pO c,hd s=hh.get s){n:Nat}:we Z ψ hd w h' ψ' (n,(pO c).head?,.own ok xs):=by
 rcases mq ho with⟨rfl,h3⟩|⟨id,rfl,h3⟩
 ·exact h3
 ·show hd id=some (.own ok xs)
  grind [id,pO]
end Go.Vs
namespace Go.Vs
variable {P:Program} {Z Z':Nat→Prop} {ψ ψ':Nat→Value} {h h':Hp} {w w':World} {B0:Nat} {O:Nat→Prop} {N:Nat→Prop}
def gE:Hp:=fun _=>none
def Lq:Nat→Value:=fun _=>undef
def Fz(g:aO)(x:IG (ly g.ps)):List AV:=(aT g.ps [] 0 x).map (·.2)
def acB(P:Program)(f:FuncId)(g:aO)(x:g.A)(y:g.B):Prop :=∀(Z:Nat→Prop) (w:World) (kP:List Value),(∀b,Z b→b<w.heap.size)→ar Z Lq gE w (Fz g x.1) kP → Calls P (f%1000) kP.toArray w fun e w'=>∃v Z' ψ',e=.returned v∧(∀b,Z b→Z' b)∧(∀b,Z' b→Z b∨w.heap.size≤b)∧cO Lq gE w w' ∧ Good Z' ψ' (aq g.rs 3000 y.1).get w' w.heap.size (fun _=>False)∧az Z' ψ' (aq g.rs 3000 y.1).get w' (fg (aU g.rs [] 2000 3000 y.1)) v
theorem zB{p:PK}{ps:List PK}{vs:List AV}(hi:cH (p::ps) vs=some []):∃a r,vs=a::r∧cH ps r=some []∧(p≠.ref∧p≠.own)∧(∀f n,p=.uP f n→a=.fn f [])∧(∀n,p=.agg n→a=.agg []):=by
 cases vs with
 |nil=>cases p<;>simp[cH]at hi
 |cons a r =>
  cases p with
  |val k=>exact⟨a,r,rfl,by simpa only[cH] using hi,by simp,by simp,by simp⟩
  |ref =>
   simp only[cH]at hi
   split at hi<;>simp at hi
  |own =>
   cases a<;>simp only[cH]at hi<;>first|(cases hi;done)|skip
   split at hi<;>simp at hi
  |uP f n =>
   cases a<;>simp only[cH]at hi<;>first|(cases hi;done)|skip
   rename_i f' cap
   split at hi
   ·rename_i hc;obtain⟨rfl,uW⟩:=hc
    split at hi
    ·rename_i a1 b1 h1 h2;simp only[Option.some.injEq,List.append_eq_nil_iff]at hi;obtain⟨rfl,rfl⟩:=hi;have RR:cap=[]:=by
      cases cap with
      |nil=>rfl
      |cons c cs=>simp only[j4]at h1;split at h1<;>simp at h1
     subst RR;exact⟨_,r,rfl,h2,by simp,by rintro f n ⟨⟩;rfl,by simp⟩
    ·cases hi
   ·cases hi
  |agg n =>
   cases a<;>simp only[cH]at hi<;>first|(cases hi;done)|skip
   rename_i cs
   split at hi
   ·split at hi
    ·rename_i a1 b1 h1 h2;simp only[Option.some.injEq,List.append_eq_nil_iff]at hi;obtain⟨rfl,rfl⟩:=hi;have LH:cs=[]:=by
      cases cs with
      |nil=>rfl
      |cons c cs=>cases c<;>simp only[pP]at h1<;>first|(cases h1;done)|(split at h1<;>simp at h1)
     subst LH;exact⟨_,r,rfl,h2,by simp,by simp,fun _ _=>rfl⟩
    ·cases hi
   ·cases hi
theorem zF{k:K}{ps:List PK}{hh:Heap}{a:AV}{r:List AV}{x:k.T×IG (ly ps)}(hv:fq (.val k::ps) hh (a::r)=some x):gP k hh a=some x.1∧fq ps hh r=some x.2:=by
 have e:fq (.val k::ps) hh (a::r)=(match gP k hh a,fq ps hh r with
  |some x,some y=>some ((x,y):k.T×IG (ly ps))
  |_,_=>none):=rfl
 grind
theorem BX{hh:Heap}(g:Good Z ψ hh.get w B0 O)(hz:∀b,Z b→Z' b)(ps:List PK):∀(s:Nat) (vs:List AV) (us:List Value) (x:IG (ly ps)),(∀v∈vs,∀id b,AV.bI id∈v.cells→hh.get id≠none→ob (ψ id)=some b→Z' b) → cH ps vs=some []→fq ps hh vs=some x→ar Z ψ hh.get w vs us→ar Z' Lq gE w ((aT ps [] s x).map (·.2)) us:=by
 induction ps with
 |nil =>
  intro s vs us x _ hi hv hr
  cases vs with
  |nil=>simpa only[aT,List.map_nil,ar] using hr
  |cons a r=>simp[cH]at hi
 |cons p ps ih =>
  intro s vs us x hb hi hv hr;obtain⟨a,r,rfl,xy,WX,aaj,aak⟩:=zB hi;simp only[ar]at hr;obtain⟨u,jh,rfl,h3,h4⟩:=hr
  cases p with
  |val k =>obtain⟨h1,h2⟩:=zF hv;simp only[aT,List.map_cons,ar];exact⟨u,jh,rfl,sX (Z':=Z') (ψ':=Lq) (h':=gE) g hz (hb a abT) h1 h3,ih (s+1) r jh x.2 (fun v hv=>hb v (abq _ hv)) xy h2 h4⟩
  |ref=>exact absurd rfl WX.1
  |own=>exact absurd rfl WX.2
  |uP f n =>have ha:=aaj f n rfl;subst ha;have h2:fq ps hh r=some x:=hv;simp only[aT,List.map_cons,ar,List.take_nil,List.map_nil,List.drop_nil];simp only[az,ar]at h3 ⊢;exact⟨u,jh,rfl,h3,ih (s+1) r jh x (fun v hv=>hb v (abq _ hv)) xy h2 h4⟩
  |agg n =>have ha:=aak n rfl;subst ha;have h2:fq ps hh r=some x:=hv;simp only[aT,List.map_cons,ar,List.take_nil,List.map_nil,List.drop_nil];simp only[az,ar]at h3 ⊢;exact⟨u,jh,rfl,h3,ih (s+1) r jh x (fun v hv=>hb v (abq _ hv)) xy h2 h4⟩
theorem Good.acC(g:Good Z ψ h w B0 O)(k:cO Lq gE w w')(hz:∀b,Z b→Z' b)(Bw:∀b,Z' b→Z b∨w.heap.size≤b)(ahO:∀b,Z' b→b<w'.heap.size) (hold:∀id,¬N id→h' id=h id∧ψ' id=ψ id) (bm:∀id ty cs,h id=some (.box ty cs)→aA (fun i=>¬N i) cs) (ZX:∀id ty cs,N id→h' id=some (.box ty cs)→False) (oz:∀id ok xs,N id→h' id=some (.own ok xs)→jz Z' w' ok (ψ' id) xs) (Fl:∀id b,N id→h' id≠none→ob (ψ' id)=some b→w.heap.size≤b∧¬Z' b) (ZY:∀id ov b,N id→N ov→h' id≠none→h' ov≠none→ob (ψ' id)=some b→ob (ψ' ov)=some b→id=ov) (hB:B0≤w.heap.size) :
  Next Z ψ h w B0 O N Z' ψ' h' w':=by
 have cC:∀b,b<w.heap.size→w'.heap[b]? = w.heap[b]? := fun b hb=>k.block b hb (fun⟨id,h1,_⟩=>h1 rfl);have sm:cm Z w w':=fun b hb=>cC b (g.j7 b hb);have xS:∀id,h' id≠none→(h id≠none∧ψ' id=ψ id)∨N id:=fun id bL=>by
  grind
 have Fm:∀id b,¬N id→h' id≠none→ob (ψ' id)=some b→Own ψ h b:=fun id b hn h1 h2=>by obtain⟨e1,e2⟩:=hold id hn;exact⟨id,by rwa [e1]at h1,by rwa [e2]at h2⟩
 have kk:cO ψ h w w':=⟨k.os,k.tape,k.output,k.size,fun b hb _=>cC b hb⟩;refine⟨hz,fun b hb=>(Bw b hb).imp (fun h=>h) .inr,kk,xS,⟨fun id ty cs hb=>?_,fun id ok xs hb=>?_,fun id b h1 h2=>?_,fun id ov b h1 h2 h3 h4=>?_,ahO⟩⟩
 ·by_cases hn:N id
  ·simp_all
  ·obtain⟨e1,e2⟩:=hold id hn;rw[e1]at hb;obtain⟨gg,vs,h1,h2,h3,h4⟩:=g.box id ty cs hb;exact⟨gg,vs,by rw[e2,h1],(cC gg (abP.1 h2).1).trans h2,h3.move hz sm (fun i hp bL=>(xS i bL).resolve_right hp) (bm id ty cs hb),h4⟩
 ·by_cases hn:N id
  ·simp_all
  ·obtain⟨e1,e2⟩:=hold id hn;rw[e1]at hb;rw[e2];exact(g.row id ok xs hb).kept hz sm (fun gg Pe=>cC gg (g.bO ⟨id,by rw[hb];simp,Pe⟩))
 ·by_cases hn:N id
  ·grind
  ·obtain⟨e1,e2⟩:=hold id hn;rw[e1]at h1;rw[e2]at h2;have h3:=g.live id b h1 h2;refine⟨fun hzb=>?_,h3.2⟩;rcases Bw b hzb with h4|h4
   ·exact h3.1 h4
   ·have:=g.bO ⟨id,h1,h2⟩;omega
 ·by_cases hn:N id<;>by_cases Pf:N ov
  ·grind
  ·have:=(Fl id b hn h1 h3).1;have:=g.bO (Fm ov b Pf h2 h4);omega
  ·have:=(Fl ov b Pf h2 h4).1;have:=g.bO (Fm id b hn h1 h3);omega
  ·obtain⟨e1,e2⟩:=hold id hn;obtain⟨e3,e4⟩:=hold ov Pf;rw[e1]at h1;rw[e2]at h3;rw[e3]at h2;rw[e4]at h4;exact g.apart id ov b h1 h2 h3 h4
theorem bH{r:RK}{rs:List RK}(h:(r::rs).all RK.plain=true):rs.all RK.plain=true:=by simp_all
theorem PC{c:List CK}{rs:List RK}(h:(RK.agg c::rs).all RK.plain=true):c.length≤16:=by simp_all [List.all_cons,Bool.and_eq_true,RK.plain,decide_eq_true_eq]
theorem p6:∀(c:List CK) (a:Nat) (x:rm c) (i:Nat),i<a→(aX c a x).get i=none
 |[],_,_,_,_=>rfl
 |.val _::r,a,x,i,h=>by simp only[aX];exact p6 r (a+1) x.2 i (by omega)
 |.own ok::r,a,x,i,h=>by simp only[aX,Heap.get];rw[if_neg (by omega)];exact p6 r (a+1) x.2 i (by omega)
theorem u9:∀(c:List CK) (a:Nat) (x:rm c) (i:Nat),a+c.length≤i→(aX c a x).get i=none
 |[],_,_,_,_=>rfl
 |.val _::r,a,x,i,h=>by simp only[List.length_cons]at h;simp only[aX];exact u9 r (a+1) x.2 i (by omega)
 |.own ok::r,a,x,i,h=>by simp only[List.length_cons]at h;simp only[aX,Heap.get];rw[if_neg (by omega)];exact u9 r (a+1) x.2 i (by omega)
theorem vc:∀(c:List CK) (a b:Nat) (x:rm c) (j:Nat),(aX c a x).get (a+j)=(aX c b x).get (b+j)
 |[],_,_,_,_=>rfl
 |.val _::r,a,b,x,0=>by grind [aX,p6]
 |.own ok::r,a,b,x,0=>by simp[aX,Heap.get]
 |.val _::r,a,b,x,j+1=>by simp only[aX];rw[show a+(j+1)=a+1+j by omega,show b+(j+1)=b+1+j by omega];exact vc r (a+1) (b+1) x.2 j
 |.own ok::r,a,b,x,j+1=>by simp only[aX,Heap.get];rw[if_neg (by omega),if_neg (by omega),show a+(j+1)=a+1+j by omega,show b+(j+1)=b+1+j by omega];exact vc r (a+1) (b+1) x.2 j
theorem nS:∀(c:List CK) (a:Nat) (x:rm c) (i:Nat) (ty:TypeId) (cs:List AV),(aX c a x).get i≠some (.box ty cs)
 |[],_,_,_,_,_=>by simp[aX,Heap.get]
 |.val _::r,a,x,i,ty,cs=>by simp only[aX];exact nS r (a+1) x.2 i ty cs
 |.own ok::r,a,x,i,ty,cs=>by
  simp only[aX,Heap.get]
  split
  ·simp
  ·exact nS r (a+1) x.2 i ty cs
theorem rL:∀(rs:List RK) (a:Nat) (y:mb rs) (i:Nat),rs.all RK.plain=true→i<a→(aq rs a y).get i=none
 |[],a,y,i,_,h=>rfl
 |.val k::r,a,y,i,hp,h=>by simp only[aq];exact rL r (a+1) y.2 i (bH hp) (by omega)
 |.own ok::r,a,y,i,hp,h=>by simp only[aq,Heap.get];rw[if_neg (by omega)];exact rL r (a+1) y.2 i (bH hp) (by omega)
 |.eV _ _::r,a,y,i,hp,h=>by simp only[aq];exact rL r (a+1) y.2 i (bH hp) (by omega)
 |.agg c::r,a,y,i,hp,h=>by have h1:(aX c a y.1).get i=none:=p6 c a y.1 i h;have h2:=rL r (a+1) y.2 i (bH hp) (by omega);show Heap.get (aX c a y.1++aq r (a+1) y.2) i=none;rw[Heap.get_append,h1,h2]
theorem I6:∀(rs:List RK) (a:Nat) (y:mb rs) (i:Nat),rs.all RK.plain=true→a+rs.length+16≤i→(aq rs a y).get i=none
 |[],a,y,i,_,h=>rfl
 |.val k::r,a,y,i,hp,h=>by simp only[List.length_cons]at h;simp only[aq];exact I6 r (a+1) y.2 i (bH hp) (by omega)
 |.own ok::r,a,y,i,hp,h=>by simp only[List.length_cons]at h;simp only[aq,Heap.get];rw[if_neg (by omega)];exact I6 r (a+1) y.2 i (bH hp) (by omega)
 |.eV _ _::r,a,y,i,hp,h=>by simp only[List.length_cons]at h;simp only[aq];exact I6 r (a+1) y.2 i (bH hp) (by omega)
 |.agg c::r,a,y,i,hp,h=>by simp only[List.length_cons]at h;have hc:=PC hp;have h1:(aX c a y.1).get i=none:=u9 c a y.1 i (by omega);have h2:=I6 r (a+1) y.2 i (bH hp) (by omega);show Heap.get (aX c a y.1++aq r (a+1) y.2) i=none;rw[Heap.get_append,h1,h2]
theorem I7:∀(rs:List RK) (a b:Nat) (y:mb rs) (j:Nat),rs.all RK.plain=true→(aq rs a y).get (a+j)=(aq rs b y).get (b+j)
 |[],_,_,_,_,_=>rfl
 |.val k::r,a,b,y,0,hp=>by simp only[aq];rw[rL _ _ _ _ (bH hp) (by omega),rL _ _ _ _ (bH hp) (by omega)]
 |.eV _ _::r,a,b,y,0,hp=>by simp only[aq];rw[rL _ _ _ _ (bH hp) (by omega),rL _ _ _ _ (bH hp) (by omega)]
 |.own ok::r,a,b,y,0,hp=>by simp[aq,Heap.get]
 |.val k::r,a,b,y,j+1,hp=>by simp only[aq];rw[show a+(j+1)=a+1+j by omega,show b+(j+1)=b+1+j by omega];exact I7 r (a+1) (b+1) y.2 j (bH hp)
 |.eV _ _::r,a,b,y,j+1,hp=>by simp only[aq];rw[show a+(j+1)=a+1+j by omega,show b+(j+1)=b+1+j by omega];exact I7 r (a+1) (b+1) y.2 j (bH hp)
 |.own ok::r,a,b,y,j+1,hp=>by simp only[aq,Heap.get];rw[if_neg (by omega),if_neg (by omega),show a+(j+1)=a+1+j by omega,show b+(j+1)=b+1+j by omega];exact I7 r (a+1) (b+1) y.2 j (bH hp)
 |.agg c::r,a,b,y,j,hp=>by
  have h1:(aX c a y.1).get (a+j)=(aX c b y.1).get (b+j):=vc c a b y.1 j;have h2:(aq r (a+1) y.2).get (a+j)=(aq r (b+1) y.2).get (b+j):=by
   cases j with
   |zero=>rw[rL _ _ _ _ (bH hp) (by omega),rL _ _ _ _ (bH hp) (by omega)]
   |succ j =>rw[show a+(j+1)=a+1+j by omega,show b+(j+1)=b+1+j by omega];exact I7 r (a+1) (b+1) y.2 j (bH hp)
  show Heap.get (aX c a y.1++aq r (a+1) y.2) (a+j)=Heap.get (aX c b y.1++aq r (b+1) y.2) (b+j);rw[Heap.get_append,Heap.get_append,h1,h2]
theorem tc:∀(rs:List RK) (a:Nat) (y:mb rs) (i:Nat) (ty:TypeId) (cs:List AV),rs.all RK.plain=true→(aq rs a y).get i≠some (.box ty cs)
 |[],_,_,_,_,_,_=>by simp[aq,Heap.get]
 |.val k::r,a,y,i,ty,cs,hp=>by simp only[aq];exact tc r (a+1) y.2 i ty cs (bH hp)
 |.eV _ _::r,a,y,i,ty,cs,hp=>by simp only[aq];exact tc r (a+1) y.2 i ty cs (bH hp)
 |.own ok::r,a,y,i,ty,cs,hp=>by
  simp only[aq,Heap.get]
  split
  ·simp
  ·exact tc r (a+1) y.2 i ty cs (bH hp)
 |.agg c::r,a,y,i,ty,cs,hp=>by
  have h1:(aX c a y.1).get i≠some (.box ty cs):=nS c a y.1 i ty cs;show Heap.get (aX c a y.1++aq r (a+1) y.2) i≠some (.box ty cs);rw[Heap.get_append]
  split
  ·rename_i o ho;rw[ho]at h1;exact h1
  ·exact tc r (a+1) y.2 i ty cs (bH hp)
theorem mu(p:Nat→Prop):∀(k:K) (x:k.T),aA p (enc k x)
 |.int _,_=>by simp only[enc,aA,aI];exact⟨trivial,trivial⟩
 |.bool,_=>by simp only[enc,aA,aI];exact⟨trivial,trivial⟩
 |.str,_=>by simp only[enc,aA,aI];exact⟨trivial,trivial⟩
 |.sl _,_=>by simp only[enc,aA,aI];exact⟨trivial,trivial⟩
 |.mp _ _,_=>by simp only[enc,aA,aI];exact⟨trivial,trivial⟩
 |.fn _,_=>by simp only[enc,aA,aI];exact⟨trivial,trivial⟩
 |.pair a b,x=>by
  simp only[enc];have h1:=mu p a x.1;have h2:=mu p b x.2
  revert h1
  generalize enc a x.1=l
  induction l with
  |nil=>intro _;exact h2
  |cons c r ih=>intro h;simp only[List.cons_append,aA]at h ⊢;exact⟨h.1,ih h.2⟩
 |.one k,x=>by simp only[enc];exact mu p k x
theorem oH(p:Nat→Prop):∀(k:K) (x:k.T),aI p (b7 k x)
 |.int _,_=>by simp only[b7,aI]
 |.bool,_=>by simp only[b7,aI]
 |.str,_=>by simp only[b7,aI]
 |.sl _,_=>by simp only[b7,aI]
 |.mp _ _,_=>by simp only[b7,aI]
 |.fn _,_=>by simp only[b7,aI,aA]
 |.pair a b,x=>by simp only[b7,aI];exact mu p (.pair a b) x
 |.one k,x=>by simp only[b7,aI];exact mu p (.one k) x
theorem R8{k:K}{x:k.T}{v:Value}(hr:az Z ψ h w (b7 k x) v):az Z ψ' h' w (b7 k x) v :=hr.move (p:=fun _=>False) (fun _ h=>h) (cm.refl _ _) (fun _ hp _=>hp.elim) (oH _ k x)
theorem WY(r:RK)(rs:List RK)(b:Nat)(y:mb (r::rs))(i:Nat)(hi:(aq rs (b+1) y.2).get i≠none):(aq (r::rs) b y).get i≠none:=by
 cases r with
 |val k=>exact hi
 |eV _ _=>exact hi
 |own ok=>grind [aq,Heap.get]
 |agg c =>
  grind [Heap.get,aX,aq,Heap.get_append]
theorem LQ(c:List CK):∀{H:Hp} {a b:Nat} {x:rm c} {vs:List Value},(∀j,(aX c b x).get (b+j)≠none→h' (b+j)≠none→H (a+j)≠none∧ψ' (b+j)=ψ (a+j)) → ar Z ψ H w (aE c a x) vs→ar Z ψ' h' w (aE c b x) vs:=by
 induction c with
 |nil=>grind [aE,ar]
 |cons k c ih =>
  intro H a b x vs hH hr
  cases k with
  |val k =>have sQ:ar Z ψ H w (enc k x.1++aE c (a+1) x.2) vs:=hr;obtain⟨us,ws,rfl,h1,h2⟩:=sQ.split;show ar Z ψ' h' w (enc k x.1++aE c (b+1) x.2) (us++ws);refine(h1.move (p:=fun _=>False) (fun _ h=>h) (cm.refl _ _) (fun _ hp _=>hp.elim) (mu _ k x.1)).append (ih (fun j hj bw=>?_) h2);have:=hH (j+1);rw[show b+(j+1)=b+1+j by omega,show a+(j+1)=a+1+j by omega]at this;exact this hj bw
  |own ok =>
   have sQ:ar Z ψ H w (.bI a::aE c (a+1) x.2) vs:=hr;simp only[ar]at sQ;obtain⟨v,us,rfl,h1,h2⟩:=sQ;show ar Z ψ' h' w (.bI b::aE c (b+1) x.2) (v::us);simp only[ar];refine⟨v,us,rfl,?_,ih (fun j hj bw=>?_) h2⟩
   ·simp only[az]at h1 ⊢;refine⟨h1.1,fun bw=>?_⟩;obtain⟨h3,h4⟩:=hH 0 (by simp[aX,Heap.get]) bw;simp_all
   ·have:=hH (j+1);rw[show b+(j+1)=b+1+j by omega,show a+(j+1)=a+1+j by omega]at this;refine this ?_ bw;have e:(aX (.own ok::c) b x).get (b+1+j)=(aX c (b+1) x.2).get (b+1+j):=by simp only[aX,Heap.get];grind
    simp_all
theorem R9(rs:List RK):∀{H:Hp} {n m a b:Nat} {y:mb rs} {vs:List Value},rs.all RK.plain=true→(∀j,(aq rs b y).get (b+j)≠none→h' (b+j)≠none→H (a+j)≠none∧ψ' (b+j)=ψ (a+j)) → ar Z ψ H w (aU rs [] n a y) vs→ar Z ψ' h' w (aU rs [] m b y) vs:=by
 induction rs with
 |nil=>grind [aU,ar]
 |cons r rs ih =>
  intro H n m a b y vs hp hH hr;have hpa:=hp;simp only[List.all_cons,Bool.and_eq_true]at hp;have hH':∀j,(aq rs (b+1) y.2).get (b+1+j)≠none→h' (b+1+j)≠none→H (a+1+j)≠none∧ψ' (b+1+j)=ψ (a+1+j):=fun j hj bw=>by
   have:=hH (j+1)
   grind [WY]
  cases r with
  |val k =>simp only[aU,ar]at hr ⊢;obtain⟨v,us,rfl,h1,h2⟩:=hr;exact⟨v,us,rfl,R8 h1,ih hp.2 hH' h2⟩
  |own ok =>simp only[aU,ar]at hr ⊢;obtain⟨v,us,rfl,h1,h2⟩:=hr;refine⟨v,us,rfl,?_,ih hp.2 hH' h2⟩;simp only[az]at h1 ⊢;refine⟨h1.1,fun bw=>?_⟩;obtain⟨h3,h4⟩:=hH 0 (by simp[aq,Heap.get]) bw;simp_all
  |eV b c=>simp[RK.plain]at hp
  |agg c =>
   simp only[aU,ar]at hr ⊢;obtain⟨v,us,rfl,h1,h2⟩:=hr;refine⟨v,us,rfl,?_,ih hp.2 hH' h2⟩;simp only[az]at h1 ⊢;obtain⟨ws,rfl,h3⟩:=h1;refine⟨ws,rfl,LQ c (fun j hj bw=>hH j ?_ bw) h3⟩
   grind [Heap.get,aX,aq,Heap.get_append,absurd]
theorem vd{YH YI:Nat→Value}{acD acE:Hp}{acF acG:Nat→Prop}{l l':List AV}{V:Value}(hl:l.length=l'.length)(hm:∀vs,ar acF YH acD w l vs→ar acG YI acE w l' vs)(hr:az acF YH acD w (fg l) V):az acG YI acE w (fg l') V:=by
 match l,l',hl with
 |[a],[a'],_ =>
  simp only[fg]at hr ⊢;have:=hm [V] (by simp only[ar];exact⟨V,[],rfl,hr,rfl⟩);simp only[ar]at this;obtain⟨v,us,e,h1,_⟩:=this
  cases e;exact h1
 |[],[],_ =>simp only[fg,az]at hr ⊢;obtain⟨us,rfl,h1⟩:=hr;exact⟨us,rfl,hm _ h1⟩
 |a::b::r,a'::b'::r',_ =>simp only[fg,az]at hr ⊢;obtain⟨us,rfl,h1⟩:=hr;exact⟨us,rfl,hm _ h1⟩
theorem nT(rs:List RK):∀(ids:List Nat) (n m:Nat) (y:mb rs),(aU rs ids n m y).length=rs.length:=by
 induction rs with
 |nil=>intros;rfl
 |cons r rs ih=>intro ids n m y;cases r<;>simp[aU,ih]
theorem AQ:∀(k:K) (x:k.T) (r:List AV),dec k (enc k x++r)=some (x,r)
 |.int _,x,r=>by simp only[enc,List.cons_append,List.nil_append,dec,GN,if_true];rfl
 |.bool,x,r=>by simp only[enc,List.cons_append,List.nil_append,dec,AE];rfl
 |.str,x,r=>by simp only[enc,List.cons_append,List.nil_append,dec,GO];rfl
 |.sl k,x,r=>by simp only[enc,List.cons_append,List.nil_append,dec,Ng];rfl
 |.mp kk vk,x,r=>by simp only[enc,List.cons_append,List.nil_append,dec,Nh];rfl
 |.fn _,x,r=>by simp only[enc,List.cons_append,List.nil_append,dec,Nj,if_true];rfl
 |.pair a b,x,r=>by simp only[enc,dec,List.append_assoc];rw[AQ a x.1 (enc b x.2++r)];simp only[];rw[AQ b x.2 r];rfl
 |.one k,x,r=>by simp only[enc,dec];exact AQ k x r
theorem ve(k:K)(x:k.T):dr k (enc k x)=some x:=by unfold dr;have:=AQ k x [];simp_all
theorem vf:∀(k:K) (x:k.T),(b7 k x).cells=enc k x
 |.int _,_=>rfl
 |.bool,_=>rfl
 |.str,_=>rfl
 |.sl _,_=>rfl
 |.mp _ _,_=>rfl
 |.fn _,_=>rfl
 |.pair a b,x=>rfl
 |.one k,x=>rfl
theorem Nt:∀(k:K) (x:k.T),b7 k x≠.no
 |.int _,_=>by simp[b7]
 |.bool,_=>by simp[b7]
 |.str,_=>by simp[b7]
 |.sl _,_=>by simp[b7]
 |.mp _ _,_=>by simp[b7]
 |.fn _,_=>by simp[b7]
 |.pair a b,x=>by simp[b7]
 |.one k,x=>by simp[b7]
theorem BY:∀(k:K) (x:k.T),(b7 k x).isAgg=k.isAgg
 |.int _,_=>rfl
 |.bool,_=>rfl
 |.str,_=>rfl
 |.sl _,_=>rfl
 |.mp _ _,_=>rfl
 |.fn _,_=>rfl
 |.pair a b,x=>rfl
 |.one k,x=>rfl
theorem PD{k:K}{x:k.T}{v:Value}(hr:az Z ψ h w (b7 k x) v):aH Z w k x v.cells.toList:=by
 have h1:=hr.cells (Nt k x)
 grind [vf,dK,ve]
theorem LR{k:K}{x:k.T}{v:Value}(hr:az Z ψ h w (b7 k x) v):(k.isAgg=true→∃vs,v=.agg vs)∧(k.isAgg=false→v.cells=#[v]) :=⟨fun h=>RX (by rw[BY];exact h) hr,fun h=>Ft (by rw[BY];exact h) (Nt k x) hr⟩
theorem Sa(rs:List RK):∀{H:Hp} {n a:Nat} {y:mb rs} {vs:List Value},rs.all RK.flat=true→rs.all RK.plain=true→ar Z ψ H w (aU rs [] n a y) vs→ar Z' ψ H w (aU rs [] n a y) vs:=by
 induction rs with
 |nil=>intro H n a y vs _ _ hr;simpa only[aU,ar] using hr
 |cons r rs ih =>
  intro H n a y vs hf hp hr;simp only[List.all_cons,Bool.and_eq_true]at hp hf
  cases r with
  |val k =>simp only[aU,ar]at hr ⊢;obtain⟨v,us,rfl,h1,h2⟩:=hr;have hk:k.flat=true:=hf.1;obtain⟨h3,h4⟩:=LR h1;exact⟨v,us,rfl,ml ((PD h1).flat hk) h3 h4,ih hf.2 hp.2 h2⟩
  |own ok =>simp only[aU,ar]at hr ⊢;obtain⟨v,us,rfl,h1,h2⟩:=hr;exact⟨v,us,rfl,by simpa only[az] using h1,ih hf.2 hp.2 h2⟩
  |eV b c=>simp[RK.plain]at hp
  |agg c=>simp[RK.flat]at hf
theorem yd:∀(rs:List RK) (a:Nat) (y:mb rs) (i:Nat) (ok:OK) (x:ok.T),rs.all RK.flat=true→rs.all RK.plain=true→(aq rs a y).get i=some (.own ok x)→∃ty k,k.flat=true∧ok=.row ty k
 |[],_,_,_,_,_,_,_,hg=>by simp[aq,Heap.get]at hg
 |.val k::r,a,y,i,ok,x,hf,hp,hg=>by simp only[List.all_cons,Bool.and_eq_true]at hp hf;exact yd r _ _ _ _ x hf.2 hp.2 hg
 |.own WD::r,a,y,i,ok,x,hf,hp,hg=>by
  simp only[List.all_cons,Bool.and_eq_true]at hp hf;simp only[aq,Heap.get]at hg
  split at hg
  ·cases hg
   cases WD with
   |row ty k=>exact⟨ty,k,hf.1,rfl⟩
   |_=>simp[RK.flat]at hf
  ·exact yd r _ _ _ _ x hf.2 hp.2 hg
 |.eV _ _::r,a,y,i,ok,x,hf,hp,hg=>by simp[RK.plain]at hp
 |.agg c::r,a,y,i,ok,x,hf,hp,hg=>by simp[RK.flat]at hf
theorem wg:∀(ps:List PK) (vs:List AV),cH ps vs=some []→∀v∈vs,∀id,AV.bI id∈v.cells→AV.bI id∈dm ps vs
 |[],vs,hi,v,hv,id,bL=>by
  cases vs with
  |nil=>cases hv
  |cons a r=>simp[cH]at hi
 |p::ps,vs,hi,v,hv,id,bL=>by
  obtain⟨a,r,rfl,xy,WX,aaj,aak⟩:=zB hi;rcases abM.1 hv with rfl|hv
  ·cases p with
   |val k=>simp only[dm];exact abO _ bL
   |ref=>exact absurd rfl WX.1
   |own=>exact absurd rfl WX.2
   |uP f n=>rw[aaj f n rfl]at bL;simp[AV.cells]at bL
   |agg n=>rw[aak n rfl]at bL;simp[AV.cells]at bL
  ·have:=wg ps r xy v hv id bL
   cases p with
   |val k=>simp only[dm];exact abN _ this
   |ref=>exact absurd rfl WX.1
   |own=>exact absurd rfl WX.2
   |uP f n=>simpa only[dm] using this
   |agg n=>simpa only[dm] using this
theorem BZ(hh:Heap)(vs:List AV):∀f:FuncId,mg hh f vs%1000=f%1000:=by
 induction vs with
 |nil=>intro f;rfl
 |cons v r ih =>
  intro f
  cases v with
  |fn g cap=>simp only[mg];split<;>exact Nat.add_mul_mod_self_left f 1000 _
  |ref i _ _ _ =>
   simp only[mg]
   split
   ·exact(ih _).trans (Nat.add_mul_mod_self_left f 1000 _)
   ·exact ih f
  |_=>simp only[mg];exact ih f
theorem ye{Sg:FuncId→Option aO}(hh:Heap)(f:FuncId)(vs:List AV):keyOf Sg hh f vs%1000=f%1000:=by
 unfold keyOf
 split
 ·exact(Nat.add_mul_mod_self_right (mg hh f vs) 500 1000).trans (BZ hh vs f)
 ·exact BZ hh vs f
theorem Next.imp{N':Nat→Prop}(n:Next Z ψ h w B0 O N Z' ψ' h' w')(hi:∀i,N i→N' i):Next Z ψ h w B0 O N' Z' ψ' h' w' :=⟨n.fX,n.eO,n.keep,fun id bL=>(n.ids id bL).imp (fun h=>h) (hi id),n.dn⟩
theorem yf{rs:List RK}{y:mb rs}(hp:rs.all RK.plain=true){id nb:Nat}(g:Good Z ψ h w B0 O)(hB:B0≤w.heap.size) (bm:∀i ty cs,h i=some (.box ty cs)→aA (fun i=>¬N i) cs) (hN:∀j,j<rs.length+16→N (id+j)) (k:cO Lq gE w w') (hz:∀b,Z b→Z' b) (Bw:∀b,Z' b→Z b∨w.heap.size≤b) (gc:Good Z' ψ' (aq rs 3000 y).get w' w.heap.size (fun _=>False)) {v:Value} (hr:az Z' ψ' (aq rs 3000 y).get w' (fg (aU rs [] 2000 3000 y)) v) :
  ∃wh,Next Z ψ h w B0 O N Z' wh (fun i=>match (aq rs id y).get i with|some o=>some o|none=>h i) w' ∧
   az Z' wh (fun i=>match (aq rs id y).get i with|some o=>some o|none=>h i) w' (fg (aU rs [] nb id y)) v:=by
 classical
 let H:Hp:=fun i=>match (aq rs id y).get i with|some o=>some o|none=>h i
 let NN:Nat→Prop:=fun i=>(aq rs id y).get i≠none
 let wh:Nat→Value:=fun i=>if NN i then ψ' (3000+(i-id)) else ψ i
 have hNN:∀i,NN i→∃j,j<rs.length+16∧i=id+j:=fun i hi=>by have h1:¬i<id:=fun aK=>hi (rL rs id y i hp aK);have h2:¬id+rs.length+16≤i:=fun Wl=>hi (I6 rs id y i hp Wl);exact⟨i-id,by omega,by omega⟩
 have Ar:∀i,NN i→(aq rs 3000 y).get (3000+(i-id))=(aq rs id y).get i:=fun i hi=>by
  obtain⟨j,_,rfl⟩:=hNN i hi
  grind [id,I7]
 have hH:∀i,NN i→H i=(aq rs 3000 y).get (3000+(i-id)):=fun i hi=>by
  grind
 have jV:∀i,NN i→wh i=ψ' (3000+(i-id)):=fun i hi=>if_pos hi;have acH:∀i,NN i→N i:=fun i hi=>by grind
 have n:=Good.acC (N:=NN) (ψ':=wh) (h':=H) g k hz Bw gc.j7 (fun i hi=>by
   grind)
  (fun i ty cs hb=>(bm i ty cs hb).imp (fun i hi hni=>hi (acH i hni)))
  (fun i ty cs hi hb=>by grind [tc])
  (fun i ok xs hi hb=>by rw[hH i hi]at hb;rw[jV i hi];exact gc.row _ _ _ hb)
  (fun i b hi h1 h2=>by rw[hH i hi]at h1;rw[jV i hi]at h2;obtain⟨h3,h4⟩:=gc.live _ b h1 h2;simp_all)
  (fun i i' b hi xy h1 h2 h3 h4=>by
   rw[hH i hi]at h1;rw[hH i' xy]at h2;rw[jV i hi]at h3;rw[jV i' xy]at h4;have:=gc.apart _ _ b h1 h2 h3 h4
   grind) hB
 refine⟨wh,n.imp acH,?_⟩
 grind [vd,nT,R9,id]
def jD(P:Program)(f:FuncId):Prop:=∃fn,P.funcs[f]? = some fn∧(fn.name== "runtime.NumGoroutine")=false∧fn.body.isSome=true
theorem lL{f:FuncId}(hc:jD P f)(args:Array Value):(callFunc f args).run P w=.ok (.enter f args) w:=by obtain⟨fn,h1,h2,h3⟩:=hc;obtain⟨c,hc⟩:=abY.1 h3;simp_all [callFunc]
def YJ(P:Program)(ρC:Operand→Value)(o:Oper)(Z:Nat→Prop)(ψ:Nat→Value)(h:Hp)(w:World)(B0:Nat)(O N:Nat→Prop)(e:bD):Prop :=∃f args,(execOp ρC o).run P w=.ok (.enter f args) w∧Calls P f args w fun en w'=>∃V Z' ψ',en=.returned V∧Next Z ψ h w B0 O N Z' ψ' (e.hp h) w'∧az Z' ψ' (e.hp h) w' e.v V
def cG:(rs:List RK)→List AV→Nat→mb rs→List zz
 |[],_,_,_=>[]
 |.own ok::r,vs,m,x=>(m,(pO (vs.headD .no)).head?,.own ok x.1)::cG r vs.tail (m+1) x.2
 |.val _::r,vs,m,x=>cG r vs.tail (m+1) x.2
 |.eV _ _::r,vs,m,x=>cG r vs.tail (m+1) x.2
 |.agg c::r,vs,m,x=>dN c m (vs.headD .no).cells x.1++cG r vs.tail (m+1) x.2
theorem gK:∀(rs:List RK) (vs:List AV) (m:Nat) (x:mb rs),dM (cG rs vs m x)=aq rs m x
 |[],_,_,_=>rfl
 |.own ok::r,vs,m,x=>by simp only[cG,aq];rw[←gK r vs.tail (m+1) x.2];rfl
 |.val _::r,vs,m,x=>gK r vs.tail (m+1) x.2
 |.eV _ _::r,vs,m,x=>gK r vs.tail (m+1) x.2
 |.agg c::r,vs,m,x=>by have e1:dM (dN c m (vs.headD .no).cells x.1)=aX c m x.1:=nr c m _ x.1;have e2:=gK r vs.tail (m+1) x.2;simp only[cG,aq];rw[nt,e2];exact congrArg (·++_) e1
theorem fQ:∀(rs:List RK) (vs:List AV) (m:Nat) (x:mb rs),(cG rs vs m x).map (·.1)=bC rs m
 |[],_,_,_=>rfl
 |.own ok::r,vs,m,x=>by simp only[cG,bC,List.map_cons];rw[fQ r vs.tail (m+1) x.2]
 |.val _::r,vs,m,x=>fQ r vs.tail (m+1) x.2
 |.eV _ _::r,vs,m,x=>fQ r vs.tail (m+1) x.2
 |.agg c::r,vs,m,x=>by have e1:(dN c m (vs.headD .no).cells x.1).map (·.1)=cr c m:=lK c m _ x.1;have e2:=fQ r vs.tail (m+1) x.2;simp only[cG,bC,List.map_append];rw[e2];exact congrArg (·++_) e1
theorem p7{bs:List BK}{k:K}{r:List RK}{hh:Heap}{ids:List Nat}{vs:List AV}{x:mb (.val k::r)}(hd:bM bs (.val k::r) hh ids vs=some x):∃v iI,vs=v::iI∧gP k hh v=some x.1∧bM bs r hh ids iI=some x.2:=by
 cases vs with
 |nil=>cases hd
 |cons v vs =>
  have e:bM bs (.val k::r) hh ids (v::vs)=(match gP k hh v,bM bs r hh ids vs with
   |some x,some y=>some ((x,y):k.T×mb r)
   |_,_=>none):=rfl
  rw[e]at hd;clear e;refine⟨v,vs,rfl,?_⟩;generalize gP k hh v=o1 at hd ⊢;generalize bM bs r hh ids vs=o2 at hd ⊢
  cases o1 with
  |none=>cases hd
  |some x1 =>
   cases o2 with
   |none=>cases hd
   |some y1=>have:=ab2 hd;subst this;exact⟨rfl,rfl⟩
theorem qa{bs:List BK}{ok:OK}{r:List RK}{hh:Heap}{ids:List Nat}{vs:List AV}{x:mb (.own ok::r)}(hd:bM bs (.own ok::r) hh ids vs=some x):∃v iI,vs=v::iI∧dZ hh ok v=some x.1∧bM bs r hh ids iI=some x.2:=by
 cases vs with
 |nil=>cases hd
 |cons v vs =>
  have e:bM bs (.own ok::r) hh ids (v::vs)=(match dZ hh ok v,bM bs r hh ids vs with
   |some x,some y=>some ((x,y):ok.T×mb r)
   |_,_=>none):=rfl
  rw[e]at hd;clear e;refine⟨v,vs,rfl,?_⟩;generalize dZ hh ok v=o1 at hd ⊢;generalize bM bs r hh ids vs=o2 at hd ⊢
  cases o1 with
  |none=>cases hd
  |some x1 =>
   cases o2 with
   |none=>cases hd
   |some y1=>have:=ab2 hd;subst this;exact⟨rfl,rfl⟩
theorem nu{bs:List BK}{b:Nat}{alts:List (Nat×Nat×Nat)}{r:List RK}{hh:Heap}{ids:List Nat}{vs:List AV}{x:mb (.eV b alts::r)}(hd:bM bs (.eV b alts::r) hh ids vs=some x):∃v iI,vs=v::iI∧nN bs hh ids b alts v=some x.1∧bM bs r hh ids iI=some x.2:=by
 cases vs with
 |nil=>cases hd
 |cons v vs =>
  have e:bM bs (.eV b alts::r) hh ids (v::vs)=(match nN bs hh ids b alts v,bM bs r hh ids vs with
   |some x,some y=>some ((x,y):Option (Fin alts.length×Nat)×mb r)
   |_,_=>none):=rfl
  rw[e]at hd;clear e;refine⟨v,vs,rfl,?_⟩;generalize nN bs hh ids b alts v=o1 at hd ⊢;generalize bM bs r hh ids vs=o2 at hd ⊢
  cases o1 with
  |none=>cases hd
  |some x1 =>
   cases o2 with
   |none=>cases hd
   |some y1=>have:=ab2 hd;subst this;exact⟨rfl,rfl⟩
theorem qb{bs:List BK}{c:List CK}{r:List RK}{hh:Heap}{ids:List Nat}{vs:List AV}{x:mb (.agg c::r)}(hd:bM bs (.agg c::r) hh ids vs=some x):∃cs iI,vs=.agg cs::iI∧cQ c hh cs=some x.1∧bM bs r hh ids iI=some x.2:=by
 cases vs with
 |nil=>cases hd
 |cons v vs =>
  have e:bM bs (.agg c::r) hh ids (v::vs)=(match Bm c hh v,bM bs r hh ids vs with
   |some x,some y=>some ((x,y):rm c×mb r)
   |_,_=>none):=rfl
  rw[e]at hd;clear e;have key:Bm c hh v=some x.1∧bM bs r hh ids vs=some x.2:=by
   generalize Bm c hh v=o1 at hd ⊢;generalize bM bs r hh ids vs=o2 at hd ⊢
   cases o1 with
   |none=>cases hd
   |some x1 =>
    cases o2 with
    |none=>cases hd
    |some y1=>have:=ab2 hd;subst this;exact⟨rfl,rfl⟩
  obtain⟨h1,h2⟩:=key;unfold Bm at h1
  grind
theorem hZ{bs:List BK}{hh:Heap}{ids:List Nat}:∀(rs:List RK) (vs:List AV) (x:mb rs),bM bs rs hh ids vs=some x→vs.length=rs.length
 |[],[],_,_=>rfl
 |[],_::_,_,h=>by cases h
 |.val k::r,vs,x,h=>by obtain⟨v,iI,rfl,_,h2⟩:=p7 h;simp[hZ r iI x.2 h2]
 |.own ok::r,vs,x,h=>by obtain⟨v,iI,rfl,_,h2⟩:=qa h;simp[hZ r iI x.2 h2]
 |.eV _ _::r,vs,x,h=>by obtain⟨v,iI,rfl,_,h2⟩:=nu h;simp[hZ r iI x.2 h2]
 |.agg _::r,vs,x,h=>by obtain⟨v,iI,rfl,_,h2⟩:=qb h;simp[hZ r iI x.2 h2]
theorem jl{bs:List BK}{hh:Heap}{ids:List Nat}:∀(rs:List RK) (vs:List AV) (m:Nat) (x:mb rs),bM bs rs hh ids vs=some x→(cG rs vs m x).filterMap (·.2.1)=dP rs vs
 |[],vs,_,_,_=>by cases vs<;>rfl
 |.own ok::r,vs,m,x,h=>by obtain⟨v,iI,rfl,_,h2⟩:=qa h;simp only[cG,dP,List.headD_cons,List.tail_cons];rw[dQ,jl r iI (m+1) x.2 h2];simp only[];rw[ya]
 |.val k::r,vs,m,x,h=>by obtain⟨v,iI,rfl,_,h2⟩:=p7 h;simp only[cG,dP,List.tail_cons];exact jl r iI (m+1) x.2 h2
 |.eV _ _::r,vs,m,x,h=>by obtain⟨v,iI,rfl,_,h2⟩:=nu h;simp only[cG,dP,List.tail_cons];exact jl r iI (m+1) x.2 h2
 |.agg c::r,vs,m,x,h=>by obtain⟨cs,iI,rfl,h1,h2⟩:=qb h;simp only[cG,dP,List.headD_cons,List.tail_cons,AV.cells];have e1:(dN c m cs x.1).filterMap (·.2.1)=fW c cs:=pY c m hh cs x.1 h1;rw[List.filterMap_append,jl r iI (m+1) x.2 h2];exact congrArg (·++_) e1
theorem kd{hd:Hp}{bs:List BK}{hh:Heap}{ids:List Nat}:∀(rs:List RK) (vs:List AV) (m:Nat) (x:mb rs),bM bs rs hh ids vs=some x→(∀s∈dP rs vs,hd s=hh.get s)→∀e∈cG rs vs m x,we Z ψ hd w h' ψ' e
 |[],_,_,_,_,_,e,he=>by simp[cG]at he
 |.own ok::r,vs,m,x,h,hk,e,he=>by
  obtain⟨v,iI,rfl,h1,h2⟩:=qa h;simp only[cG,dP,List.headD_cons,List.tail_cons]at he hk;rcases abM.1 he with rfl|he
  ·exact Ns h1 fun s hs=>hk s (abO _ hs)
  ·exact kd r iI (m+1) x.2 h2 (fun s hs=>hk s (abN _ hs)) e he
 |.val k::r,vs,m,x,h,hk,e,he=>by obtain⟨v,iI,rfl,h1,h2⟩:=p7 h;exact kd r iI (m+1) x.2 h2 hk e he
 |.eV _ _::r,vs,m,x,h,hk,e,he=>by obtain⟨v,iI,rfl,h1,h2⟩:=nu h;exact kd r iI (m+1) x.2 h2 hk e he
 |.agg c::r,vs,m,x,h,hk,e,he=>by
  obtain⟨cs,iI,rfl,h1,h2⟩:=qb h;simp only[cG,dP,List.headD_cons,List.tail_cons,AV.cells]at he hk;rcases abU.1 he with he|he
  ·exact s8 c m cs x.1 h1 (fun s hs=>hk s (abO _ hs)) e he
  ·exact kd r iI (m+1) x.2 h2 (fun s hs=>hk s (abN _ hs)) e he
theorem yg{hh:Heap}{id:Nat}:∀(dH:List CK) (c n:Nat) (cs:List AV) (x:rm dH),cQ dH hh cs=some x→gi dH c=true→cs[nj dH c]? = some (.bI id)→hh.get id≠none∧∃o,(n+c,some id,o)∈dN dH n cs x
 |[],c,n,cs,x,_,h,_=>by simp[gi]at h
 |.val k::r,0,n,cs,x,_,h,_=>by simp[gi]at h
 |.val k::r,c+1,n,cs,x,hd,h,hc=>by obtain⟨_,h2⟩:=pX hd;obtain⟨h3,o,h4⟩:=yg r c (n+1) (cs.drop k.sz) x.2 h2 (by grind [gi]) (by rw[List.getElem?_drop];simpa[nj] using hc);exact⟨h3,o,by rw[show n+(c+1)=n+1+c by omega];exact h4⟩
 |.own ok::r,0,n,cs,x,hd,h,hc=>by
  obtain⟨c0,cs',rfl,h1,h2⟩:=mo hd;simp only[nj,List.getElem?_cons_zero,Option.some.injEq]at hc;subst hc;rcases mq h1 with⟨h3,_⟩|⟨ov,h3,h4⟩
  ·cases h3
  grind [dN,List.headD_cons,pO,List.head?_cons,List.mem_cons_self]
 |.own ok::r,c+1,n,cs,x,hd,h,hc=>by
  obtain⟨c0,cs',rfl,h1,h2⟩:=mo hd;obtain⟨h3,o,h4⟩:=yg r c (n+1) cs' x.2 h2 (by grind [gi]) (by simp only[nj]at hc;rw[Nat.add_comm]at hc;simpa using hc)
  grind [dN,List.tail_cons,List.mem_cons_of_mem]
theorem B2{hh:Heap}{id c:Nat}:∀(bs:List BK) (b n:Nat) (is is':List Nat) (x:zj bs) (bk:BK) (bi:Nat) (ty:TypeId) (cs:List AV),dh bs hh is=some x→is'.length=bs.length→bs[b]? = some bk→is[b]? = some bi→hh.get bi=some (.box ty cs) → gi bk.dH c=true→cs[nj bk.dH c]? = some (.bI id)→hh.get id≠none∧∃o,(n+16*b+c,some id,o)∈cw bs hh is is' n x
 |[],b,n,is,is',x,bk,bi,ty,cs,_,_,h,_,_,_,_=>by simp at h
 |b0::r,b,n,[],is',x,bk,bi,ty,cs,hd,_,_,_,_,_,_=>by cases hd
 |b0::r,b,n,i::is,[],x,bk,bi,ty,cs,_,hl,_,_,_,_,_=>by simp at hl
 |b0::r,0,n,i::is,i'::is',x,bk,bi,ty,cs,hd,hl,h1,h2,h3,h4,h5=>by
  obtain⟨g0,g3⟩:=fC hd;simp only[List.getElem?_cons_zero,Option.some.injEq]at h1 h2;subst h1;subst h2
  cases b0 with
  |own ok=>simp[BK.dH,gi]at h4
  |box ty0 c0 =>
   obtain⟨cs',g1,g2⟩:=s6 g0;rw[g1]at h3
   cases h3
   obtain⟨h6,o,h7⟩:=yg c0 c n cs x.1 g2 h4 h5
   grind [cw,eQ,pZ,List.mem_append_left,List.mem_cons_of_mem]
 |b0::r,b+1,n,i::is,i'::is',x,bk,bi,ty,cs,hd,hl,h1,h2,h3,h4,h5=>by
  obtain⟨_,g3⟩:=fC hd;obtain⟨h6,o,h7⟩:=B2 r b (n+16) is is' x.2 bk bi ty cs g3 (by simpa using hl) (by simpa using h1) (by simpa using h2) h3 h4 h5
  grind [cw,List.mem_append_right]
theorem B3{c:List CK}{cs:List AV}{id s off:Nat}{a:Nat×Nat×Nat}(h:Bl c cs id s off a=true):cs[nj c a.1]? = some (.bI id)∧s=a.2.1∧off=a.2.2∧gi c a.1=true:=by
 simp only[Bl,Bool.and_eq_true,decide_eq_true_eq]at h;obtain⟨h1,h2,h3,h4⟩:=h;refine⟨?_,h2,h3,h4⟩;unfold RH at h1
 grind
theorem PE{bs:List BK}{hh:Heap}{ids:List Nat}{b:Nat}{alts:List (Nat×Nat×Nat)}{v:AV}{x:Option (Fin alts.length×Nat)}(hd:nN bs hh ids b alts v=some x):(v=.lH∧x=none) ∨ ∃id i a bi bk ty cs,v=.ref id (alts.get a).2.1 i (alts.get a).2.2∧x=some (a,i)∧ids[b]? = some bi∧bs[b]? = some bk∧hh.get bi=some (.box ty cs)∧cs[nj bk.dH (alts.get a).1]? = some (.bI id)∧gi bk.dH (alts.get a).1=true:=by
 unfold nN at hd
 split at hd
 ·simp_all
 ·rename_i id s i off
  split at hd
  ·rename_i bi bk h1 h2
   split at hd
   ·rename_i ty cs h3
    split at hd
    ·rename_i a h4
     cases hd
     have h4':Bl bk.dH cs id s off (alts.get a)=true:=by grind
     obtain⟨h5,rfl,rfl,h6⟩:=B3 h4';exact .inr ⟨id,i,a,bi,bk,ty,cs,rfl,rfl,h1,h2,h3,h5,h6⟩
    ·cases hd
   ·cases hd
  ·cases hd
 ·cases hd
theorem td{bs:List BK}{hh:Heap}{ids is' ids2:List Nat}{nb:Nat}{yb:zj bs}(g:Good Z ψ hh.get w B0 O)(hz:∀b,Z b→Z' b)(hb:dh bs hh ids=some yb)(hl:is'.length=bs.length) (Sb:∀e∈cw bs hh ids is' nb yb,h' e.1≠none→ψ' e.1=kb ψ e.2.1):∀(rs:List RK) (vs:List AV) (m:Nat) (x:mb rs) (us:List Value),bM bs rs hh ids vs=some x →(∀id b,AV.bI id∈gr rs vs→hh.get id≠none→ob (ψ id)=some b→Z' b)→(∀e∈cG rs vs m x,h' e.1≠none→ψ' e.1=kb ψ e.2.1)→ar Z ψ hh.get w vs us→ar Z' ψ' h' w (aU rs ids2 nb m x) us
 |[],vs,m,x,us,hd,_,_,hr=>by
  have:=hZ [] vs x hd
  grind [List.eq_nil_of_length_eq_zero,aU,ar]
 |.val k::r,vs,m,x,us,hd,hf,jV,hr=>by obtain⟨v,iI,rfl,h1,h2⟩:=p7 hd;simp only[ar]at hr;obtain⟨u,jh,rfl,h3,h4⟩:=hr;simp only[aU,ar];simp only[gr]at hf;exact⟨u,jh,rfl,sX g hz (fun id b bL=>hf id b (abO _ bL)) h1 h3,td g hz hb hl Sb r iI (m+1) x.2 jh h2 (fun id b bL=>hf id b (abN _ bL)) jV h4⟩
 |.own ok::r,vs,m,x,us,hd,hf,jV,hr=>by obtain⟨v,iI,rfl,h1,h2⟩:=qa hd;simp only[ar]at hr;obtain⟨u,jh,rfl,h3,h4⟩:=hr;simp only[aU,ar];simp only[cG,List.headD_cons,List.tail_cons]at jV;exact⟨u,jh,rfl,G6 h1 h3 (fun hn=>jV _ abT hn),td g hz hb hl Sb r iI (m+1) x.2 jh h2 hf (fun e he=>jV e (abq _ he)) h4⟩
 |.eV b alts::r,vs,m,x,us,hd,hf,jV,hr=>by
  obtain⟨v,iI,rfl,h1,h2⟩:=nu hd;simp only[ar]at hr;obtain⟨u,jh,rfl,h3,h4⟩:=hr;simp only[aU,ar];refine⟨u,jh,rfl,?_,td g hz hb hl Sb r iI (m+1) x.2 jh h2 hf jV h4⟩;rcases PE h1 with⟨rfl,h5⟩|⟨id,i,al,bi,bk,ty,cs,rfl,h5,h6,h7,h8,h9,pI⟩
  ·grind [vL,az]
  ·have:x.1=some (al,i):=h5;rw[this];obtain⟨El,o,R5⟩:=B2 bs b nb ids is' yb bk bi ty cs hb hl h7 h6 h8 pI h9;simp only[vL,az]at h3 ⊢;obtain⟨ad,Wn,YK⟩:=h3;refine⟨ad,Wn,fun hn=>?_⟩;rw[Sb _ R5 hn,YK El];rfl
 |.agg c::r,vs,m,x,us,hd,hf,jV,hr=>by obtain⟨cs,iI,rfl,h1,h2⟩:=qb hd;simp only[ar]at hr;obtain⟨u,jh,rfl,h3,h4⟩:=hr;simp only[aU,ar];simp only[gr,AV.cells]at hf;simp only[cG,List.headD_cons,List.tail_cons,AV.cells]at jV;refine⟨u,jh,rfl,?_,td g hz hb hl Sb r iI (m+1) x.2 jh h2 (fun id b bL=>hf id b (abN _ bL)) (fun e he=>jV e (abN _ he)) h4⟩;simp only[az]at h3 ⊢;obtain⟨ws,rfl,h5⟩:=h3;exact⟨ws,rfl,s5 g hz c m cs x.1 _ h1 (fun id b bL=>hf id b (abO _ bL)) (fun e he=>jV e (abO _ he)) h5⟩
end Go.Vs
