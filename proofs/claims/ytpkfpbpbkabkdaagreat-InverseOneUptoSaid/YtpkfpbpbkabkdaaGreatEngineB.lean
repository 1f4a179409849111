/- The value semantics is sound -/
import Derived.Test.YtpkfpbpbkabkdaaGreatEngineA
import Derived.Laws.StructEq
import Derived.Laws.Slices
import Derived.Laws.Strings
import Derived.MapKept
namespace Go.Vs
variable {P:Program} {Z Z':Nat→Prop} {ψ ψ':Nat→Value} {h h':Hp} {w w':World} {B0:Nat} {O:Nat→Prop} {N:Nat→Prop}
def bL.hp(h:Hp):bL→Hp
 |.val _=>h
 |.new _ os=>fun i=>match Heap.get os i with
  |some o=>some o
  |none=>h i
 |.wr _ h'=>h'.get
theorem iB(id:Nat)(o:Ob)(h:Hp):(fun i=>match Heap.get [(id,o)] i with|some o=>some o|none=>h i)=eu h id (some o):=by
 funext i;simp only[Heap.get,eu];by_cases e:i=id
 ·subst e;simp
 ·rw[if_neg (fun x=>e x.symm),if_neg e]
theorem mQ(hh:Heap)(id:Nat)(o:Ob):(hh.set id o).get=eu hh.get id (some o):=by
 funext i;by_cases e:i=id
 ·subst e;rw[Heap.Fm,bA]
 ·rw[Heap.Kc e,di _ _ e]
theorem uY(hh:Heap)(id:Nat):(hh.del id).get=eu hh.get id none:=by
 funext i;by_cases e:i=id
 ·subst e;rw[Heap.gH,bA]
 ·rw[Heap.iz e,di _ _ e]
theorem AW(hh:Heap)(id:Nat)(o:Ob):Heap.get ((id,o)::hh)=eu hh.get id (some o):=by
 funext i;simp only[Heap.get,eu];by_cases e:i=id
 ·subst e;simp
 ·rw[if_neg (fun x=>e x.symm),if_neg e]
def g6(P:Program)(ρC:Operand→Value)(o:Oper)(Z:Nat→Prop)(ψ:Nat→Value)(h:Hp)(w:World)(B0:Nat)(O N:Nat→Prop)(e:bL):Prop :=∃V w' Z' ψ',((execOp ρC o).run P w=.ok (.value V) w'∨((execOp ρC o).run P w=.ok .skip w'∧V=undef))∧Next Z ψ h w B0 O N Z' ψ' (e.hp h) w'∧aC Z' ψ' (e.hp h) w' e.v V
theorem g6.val{ρC:Operand→Value}{o:Oper}{x:AV}(g:Good Z ψ h w B0 O){V:Value}(hr:(execOp ρC o).run P w=.ok (.value V) w)(hx:aC Z ψ h w x V):g6 P ρC o Z ψ h w B0 O N (.val x) :=⟨V,w,Z,ψ,.inl hr,Next.refl g,hx⟩
theorem P6{ty:TypeId}{k:K}{xs:List k.T}{id n:Nat}{x:k.T}(g:Good Z ψ h w B0 O)(hg:h id=some (.own (.row ty k) xs))(hx:xs[n]? = some x) :
  ∃gg us,Uz (ψ id)=gg∧aL Z w k x us∧∀(j:Nat) u,us[j]? = some u→w.cell? ⟨gg,n*k.sz+j,none⟩=some u:=by
 obtain⟨vs,ho,hv⟩:=g.row id (.row ty k) xs hg;have hn:n<xs.length:=(aci.1 hx).1;obtain⟨hl,e⟩:=ho;rcases e with⟨h0,_⟩|⟨gg,cap,cur,e1,_,e3,_,_,_,e7⟩
 ·omega
 ·refine⟨gg,_,by rw[e1];rfl,hv n x hx,fun j u hu=>?_⟩;rw[List.getElem?_take]at hu
  split at hu
  ·rw[List.getElem?_drop,←e7,List.getElem?_take]at hu
   split at hu
   ·simp only[World.cell?,e3];simpa using hu
   ·cases hu
  ·cases hu
theorem tQ{hh:Heap}(g:Good Z ψ h w B0 O)(bE:∀id o,hh.get id=some o→h id=some o){t:TypeId}{a:AV}{v:Value}{e:bL}(hv:aC Z ψ h w a v)(he:lM P hh t a some=some e) :
  ∃x V,e=.val x∧(Instr.loadAt t v).run P w=.ok V w∧aC Z ψ h w x V:=by
 unfold lM at he
 split at he
 ·rename_i id s i off;simp only[aC]at hv;obtain⟨a,rfl,ha⟩:=hv
  split at he
  ·rename_i ty cs hg;have AX:=bE _ _ hg;have He:=ha (by rw[AX];simp);obtain⟨gg,vs,e1,e2,e3,e4⟩:=g.box id ty cs AX
   split at he
   ·rename_i hi;subst hi
    split at he
    ·rename_i x hx
     cases he
     rw[e1]at He;simp only[Uz,Nat.zero_mul,Nat.zero_add]at He;subst He;obtain⟨V,h1,h2⟩:=jP (a:=⟨gg,off,none⟩) (e3.drop off) (fun j u hu=>by rw[cS];simp only[World.cell?,e2];rw[List.getElem?_drop]at hu;simpa using hu) hx;exact⟨x,V,rfl,h1,h2⟩
    ·cases he
   ·cases he
  ·rename_i ty kk xs hg;have AX:=bE _ _ hg;have He:=ha (by rw[AX];simp)
   split at he
   ·rename_i hs;subst hs;obtain⟨x,hx,he⟩:=adG.1 he
    split at he
    ·rename_i y hy
     cases he
     obtain⟨gg,us,h1,h2,h3⟩:=P6 g AX hx;rw[h1]at He;subst He;obtain⟨V,h4,h5⟩:=jP (a:=⟨gg,i*kk.sz+off,none⟩) ((iq (ψ:=ψ) (h:=h) h2).drop off) (fun j u hu=>by rw[cS,Nat.add_assoc];exact h3 _ _ (by rw[List.getElem?_drop]at hu;exact hu)) hy;exact⟨y,V,rfl,h4,h5⟩
    ·cases he
   ·cases he
  ·cases he
 ·rename_i kk x off
  split at he
  ·rename_i y hy
   cases he
   simp only[aC]at hv;obtain⟨a,us,rfl,_,h2,h3⟩:=hv;obtain⟨V,h4,h5⟩:=jP ((iq (ψ:=ψ) (h:=h) h2).drop off) (fun j u hu=>h3 j u (by rw[List.getElem?_drop]at hu;exact hu)) hy;exact⟨y,V,rfl,h4,h5⟩
  ·cases he
 ·cases he
theorem nK{t e:TypeId}(he:yi P t=some e):P.underlying t=some (.slice e):=by
 unfold yi at he
 split at he
 ·cases he;assumption
 ·cases he
theorem nL{t e:TypeId}(ht:P.underlying t=some (.slice e)){i:TypeInfo}(hi:P.info? e=some i)(a:Addr)(n c:Nat)(k:IntKind)(j:Int)(h0:0≤j)(h1:j<n) :
  (Instr.indexAt t (.slice (some a) n c) (.int k j)).run P w=.ok (.pointer (some (a.add (j.toNat*P.cellsOf e)))) w:=by
 simp[Instr.indexAt,asIntOf,run_underlying ht,h0,h1,dD hi]
theorem Nw{α:Type}{xs:List α}{i:Int}{x:α}(hx:aT xs i=some x):0≤i∧i<xs.length∧xs[i.toNat]? = some x:=by
 unfold aT at hx
 split at hx
 ·rename_i h0;have:=(aci.1 hx).1;exact⟨h0,by omega,hx⟩
 ·cases hx
theorem qo{hh:Heap}(g:Good Z ψ h w B0 O)(bE:∀id o,hh.get id=some o→h id=some o){t:TypeId}{x i:AV}{v u:Value}{e:bL}(hv:aC Z ψ h w x v)(hu:aC Z ψ h w i u)(he:dC P hh t x i some=some e) :
  ∃y V,e=.val y∧(Instr.indexAt t v u).run P w=.ok V w∧aC Z ψ h w y V:=by
 unfold dC at he
 split at he
 ·cases he
 ·rename_i et het;have ht:=nK het
  ·skip
   split at he
   ·rename_i ex LZ xs ik n;simp only[aC]at hv hu;subst hu
    split at he
    ·rename_i hs;obtain⟨y,hy,he⟩:=adG.1 he
     cases he
     obtain⟨h0,h1,h2⟩:=Nw hy;obtain⟨hk,_⟩:=hv;simp only[aL]at hk;obtain⟨v',AY,A,c,rfl,_,_,JU⟩:=hk
     cases AY
     obtain⟨a,us,rfl,hz,hr,hc⟩:=JU _ _ h2;have hi:∃i,P.info? et=some i:=by
      cases hi:P.info? et with
      |some i=>exact⟨i,rfl⟩
      |none=>exfalso;have:=LZ.iy;simp[Program.cellsOf,hi]at hs;omega
     obtain⟨inf,hi⟩:=hi;refine⟨_,_,rfl,nL ht hi a xs.length c ik n h0 h1,?_⟩;simp only[aC];refine⟨_,us,rfl,by rw[fm];exact hz,hr,fun j u hu=>?_⟩;rw[uR,hs];exact hc j u (by simpa using hu)
    ·cases he
   ·rename_i id ik n
    split at he
    ·rename_i ty LZ xs hg;have AX:=bE _ _ hg
     split at he
     ·rename_i hs
      cases AU:(decide (0≤n)&&decide (n<(xs.length:Int))) with
      |false=>rw[AU]at he;cases he
      |true =>
       rw[AU]at he
       cases he
       simp only[Bool.and_eq_true,decide_eq_true_eq]at AU;simp only[aC]at hv hu;subst hu;have hvv:=hv.2 (by rw[AX];simp);obtain⟨vs,⟨_,e⟩,_⟩:=g.row id (.row ty LZ) xs AX;rcases e with⟨h0,_⟩|⟨gg,cap,cur,e1,_,e3,_⟩
       ·omega
       ·have hi:∃i,P.info? et=some i:=by
         cases hi:P.info? et with
         |some i=>exact⟨i,rfl⟩
         |none=>exfalso;have:=LZ.iy;simp[Program.cellsOf,hi]at hs;omega
        obtain⟨inf,hi⟩:=hi;rw[hvv,e1];refine⟨_,_,rfl,nL ht hi _ xs.length cap ik n AU.1 AU.2,?_⟩;simp only[aC];refine⟨_,rfl,fun _=>?_⟩;rw[e1,hs,cS];simp[Uz]
     ·cases he
    ·cases he
   ·cases he
theorem s6{t:TypeId}(h:P.cellsOf t≠0):∃i,P.info? t=some i:=by
 cases hi:P.info? t with
 |some i=>exact⟨i,rfl⟩
 |none=>exact absurd (by simp[Program.cellsOf,hi]) h
theorem s8{t:TypeId}{f n:Nat}{ft:TypeId}(hf:gX P t f=some (n,ft))(hc:P.cellsOf ft≠0)(a:Addr) :
  (Instr.fieldAt t (.pointer (some a)) f).run P w=.ok (.pointer (some (a.add n))) w:=by
 unfold gX at hf
 split at hf
 ·rename_i fs ht;obtain⟨fd,hfd,he⟩:=aee.1 hf
  cases he
  obtain⟨i,hi⟩:=s6 hc;have hs:=dD (P:=P) (w:=w) hi;simp only[Instr.fieldAt,Sem.run_bind,run_underlying ht,Result.andThen_ok,hfd,Instr.sureAddr,Sem.run_pure,fieldPlace,hs];rw[if_neg hc];rfl
 ·cases hf
theorem ta{t:TypeId}{f n:Nat}{ft:TypeId}(hf:gX P t f=some (n,ft))(hc:P.cellsOf ft≠0){id s i off:Nat}{v:Value}(hv:aC Z ψ h w (.ref id s i off) v) :
  ∃V,(Instr.fieldAt t v f).run P w=.ok V w∧aC Z ψ h w (.ref id s i (off+n)) V:=by
 simp only[aC]at hv ⊢;obtain⟨a,rfl,ha⟩:=hv;refine⟨_,s8 hf hc a,_,rfl,fun bS=>?_⟩;rw[ha bS,cS,Nat.add_assoc]
theorem uZ{t:TypeId}{f n:Nat}{ft:TypeId}(hf:gX P t f=some (n,ft))(hc:P.cellsOf ft≠0){k:K}{x:k.T}{off:Nat}{v:Value}(hv:aC Z ψ h w (.fp k x off) v) :
  ∃V,(Instr.fieldAt t v f).run P w=.ok V w∧aC Z ψ h w (.fp k x (off+n)) V:=by
 simp only[aC]at hv ⊢;obtain⟨a,us,rfl,hz,hr,D1⟩:=hv;refine⟨_,s8 hf hc a,_,us,rfl,by rw[fm];exact hz,hr,fun j u hu=>?_⟩;rw[uR];exact D1 (n+j) u (by rw[←Nat.add_assoc];exact hu)
theorem Ho{t ft:TypeId}{f n:Nat}(hf:gX P t f=some (n,ft)){cs:List AV}{x:AV}{v:Value}(hv:aC Z ψ h w (.agg cs) v)(hx:eg P ft (cs.drop n)=some x) :
  ∃V,(Instr.field t v f).run P w=.ok V w∧aC Z ψ h w x V:=by
 simp only[aC]at hv;obtain⟨vs,rfl,hl⟩:=hv;have hd:=hl.drop n;have hlen:=hd.length;unfold gX at hf
 split at hf
 ·rename_i fs ht;obtain⟨fd,hfd,he⟩:=aee.1 hf
  cases he
  unfold eg at hx
  split at hx
  ·rename_i hb
   split at hx
   ·rename_i hle
    cases hx
    obtain⟨i,hi⟩:=yp hb;refine⟨.agg (vs.extract fd.offset (fd.offset+P.cellsOf fd.type)),?_,?_⟩
    ·simp[Instr.field,run_underlying ht,hfd,asAgg,part,gk hb,dD hi]
    ·simp only[aC];refine⟨_,rfl,?_⟩;rw[Array.toList_extract,List.extract_eq_take_drop,Nat.add_sub_cancel_left];exact hd.take _
   ·cases hx
  ·rename_i hb
   split at hx
   ·rename_i c r hcr
    cases hx
    rw[hcr]at hd;simp only[aq]at hd;obtain⟨u,us,hu,h1,_⟩:=hd;refine⟨u,?_,h1⟩;have hg:vs[fd.offset]? = some u:=by
     have:(vs.toList.drop fd.offset)[0]? = some u:=by rw[hu];rfl
     rw[List.getElem?_drop]at this;simpa using this
    simp[Instr.field,run_underlying ht,hfd,asAgg,part,gk hb,hg]
   ·cases hx
  ·cases hx
 ·cases hf
theorem Nx{hh:Heap}(g:Good Z ψ h w B0 O)(bE:∀id o,hh.get id=some o→h id=some o){x:AV}{v:Value}{e:bL}(hv:aC Z ψ h w x v)(he:DW hh x some=some e) :
  ∃n:Nat,e=.val (.int .i64 (n:Int))∧((∃s,x=.str s∧v=.string s∧n=s.size)∨∃A c,v=.slice A n c):=by
 unfold DW at he
 split at he
 ·rename_i s hs
  cases he
  have hx:x=.str s:=by
   cases x with
   |bK id=>simp only[cP]at hs;split at hs<;>cases hs
   |str s'=>simp only[cP]at hs;exact hs
   |_=>simp only[cP]at hs<;>cases hs
  subst hx;simp only[aC]at hv;exact⟨_,rfl,.inl ⟨s,rfl,hv,rfl⟩⟩
 ·rename_i ex k xs hs
  cases he
  have P7:=D0 (Z':=fun b=>Z b∨Own ψ h b) (g.sub bE) (fun b hb=>.inl hb) (fun id b _ bw hb=>.inr (by obtain⟨o,ho⟩:=ac9.1 bw;exact⟨id,by rw[bE id o ho];simp,hb⟩)) (hv.qx bE);rw[hs]at P7;simp only[aC,aL]at P7;obtain⟨⟨v',AY,A,c,rfl,_⟩,_⟩:=P7
  cases AY
  exact⟨_,rfl,.inr ⟨A,c,rfl⟩⟩
 ·rename_i hs
  cases he
  have hx:x=.fZ:=by
   cases x with
   |bK id=>simp only[cP]at hs;split at hs<;>cases hs
   |fZ=>rfl
   |_=>simp only[cP]at hs<;>cases hs
  subst hx;simp only[aC]at hv;exact⟨0,rfl,.inr ⟨_,_,hv⟩⟩
 ·cases he
def eI(Z:Nat→Prop)(ψ:Nat→Value)(h:Hp)(w:World):Option AV→Option Value→Prop
 |none,none=>True
 |some a,some v=>aC Z ψ h w a v
 |_,_=>False
theorem cr(k:IntKind)(i:Int)(y:Nat)(code:BoundsCode)(h0:0≤i)(h1:i≤y):(Instr.sliceBound (.int k i) y code).run P w=.ok i.toNat w:=by simp[Instr.sliceBound,asIntOf,h0,h1]
theorem tR{b:Bool}{n c:Nat}(hc:n≤c){lo hi mx:Option AV}{L6 tL mx':Option Value}{l u:Int}(h1:eI Z ψ h w lo L6)(h2:eI Z ψ h w hi tL)(h3:eI Z ψ h w mx mx') (hb:nY n lo hi=some (l,u)) (ho:bp n l u=true) (hm:mx=none∨(mx=some (.int .i64 u)∧hi≠none)) :
  (Instr.sliceBounds b n c L6 tL mx').run P w=.ok (l.toNat,u.toNat,if mx=none then c else u.toNat) w:=by
 simp only[bp,Bool.and_eq_true,decide_eq_true_eq]at ho;obtain⟨h4,h5,h6⟩:=ho;have huc:u≤(c:Int):=by omega
 unfold nY at hb;rcases hm with rfl|⟨rfl,bw⟩
 ·cases mx' with
  |some _=>exact h3.elim
  |none =>
   split at hb
   all_goals first|(cases hb;done)|skip
   ·cases hb
    cases L6 with
    |some _=>exact h1.elim
    |none =>
     cases tL with
     |some _=>exact h2.elim
     |none=>simp[Instr.sliceBounds]
   ·cases hb
    cases L6 with
    |none=>exact h1.elim
    |some v =>
     simp only[eI,aC]at h1;subst h1
     cases tL with
     |some _=>exact h2.elim
     |none=>simp[Instr.sliceBounds,cr .i64 l n _ h4 h5]
   ·cases hb
    cases L6 with
    |some _=>exact h1.elim
    |none =>
     cases tL with
     |none=>exact h2.elim
     |some v =>
      simp only[eI,aC]at h2;subst h2
      cases b<;>simp[Instr.sliceBounds,cr .i64 u c _ (by omega) huc]
   ·cases hb
    cases L6 with
    |none=>exact h1.elim
    |some v =>
     simp only[eI,aC]at h1;subst h1
     cases tL with
     |none=>exact h2.elim
     |some v =>
      simp only[eI,aC]at h2;subst h2;have hx:l≤((u.toNat:Nat):Int):=by omega
      cases b<;>simp[Instr.sliceBounds,cr .i64 u c _ (by omega) huc,cr .i64 l u.toNat _ h4 hx]
 ·cases mx' with
  |none=>exact h3.elim
  |some m =>
   simp only[eI,aC]at h3;subst h3;have huu:u≤((u.toNat:Nat):Int):=by omega
   have hx:l≤((u.toNat:Nat):Int):=by omega
   split at hb
   all_goals first|(cases hb;done)|skip
   ·exact absurd rfl bw
   ·exact absurd rfl bw
   ·cases hb
    cases L6 with
    |some _=>exact h1.elim
    |none =>
     cases tL with
     |none=>exact h2.elim
     |some v =>
      simp only[eI,aC]at h2;subst h2
      cases b<;>simp[Instr.sliceBounds,cr .i64 u c _ (by omega) huc,cr .i64 u u.toNat _ (by omega) huu]
   ·cases hb
    cases L6 with
    |none=>exact h1.elim
    |some v =>
     simp only[eI,aC]at h1;subst h1
     cases tL with
     |none=>exact h2.elim
     |some v =>
      simp only[eI,aC]at h2;subst h2
      cases b<;>simp[Instr.sliceBounds,cr .i64 u c _ (by omega) huc,cr .i64 u u.toNat _ (by omega) huu,cr .i64 l u.toNat _ h4 hx]
theorem AZ{t e:TypeId}(ht:P.underlying t=some (.slice e)){kk:K}(iZ:P.cellsOf e=kk.sz){xs:List kk.T}{v:Value}(hr:aL Z w (.sl kk) xs [v]){lo hi mx:Option AV}{L6 tL mx':Option Value}{l u:Int} (h1:eI Z' ψ h w lo L6) (h2:eI Z' ψ h w hi tL) (h3:eI Z' ψ h w mx mx') (hb:nY xs.length lo hi=some (l,u)) (ho:bp xs.length l u=true) (hm:mx=none∨(mx=some (.int .i64 u)∧hi≠none)) :
  ∃V,(Instr.sliceAt t v L6 tL mx').run P w=.ok V w∧aL Z w (.sl kk) (cut xs l u) [V]∧(mx≠none→∃A c,V=.slice A c c):=by
 simp only[aL]at hr;obtain⟨v',AY,A,c,rfl,hl,hn,JU⟩:=hr
 cases AY
 have dz:=tR (P:=P) (w:=w) (b:=true) hl h1 h2 h3 hb ho hm;simp only[bp,Bool.and_eq_true,decide_eq_true_eq]at ho;obtain⟨h4,h5,h6⟩:=ho;obtain⟨i,hi⟩:=s6 (P:=P) (t:=e) (by have:=kk.iy;omega);generalize PA:(if mx=none then c else u.toNat)=m at dz;have hmu:u.toNat≤m:=by
  rcases hm with rfl|⟨rfl,_⟩
  ·simp at PA;omega
  ·simp at PA;omega
 have hmc:m≤c:=by
  rcases hm with rfl|⟨rfl,_⟩
  ·simp at PA;omega
  ·simp at PA;omega
 have tM:(cut xs l u).length=u.toNat-l.toNat:=by unfold cut;rw[List.length_drop,List.length_take];omega
 refine⟨.slice (if m=l.toNat then A else A.map (·.add (l.toNat*P.cellsOf e))) (u.toNat-l.toNat) (m-l.toNat),?_,?_,?_⟩
 ·simp[Instr.sliceAt,Instr.slice,run_underlying ht,dz,dD hi]
 ·simp only[aL];refine⟨_,rfl,_,_,by rw[tM],by rw[tM];omega,fun hA=>?_,fun j x hx=>?_⟩
  ·split at hA
   ·have:=hn hA;omega
   ·cases A with
    |none=>have:=hn rfl;omega
    |some a=>cases hA
  ·have hj:j<u.toNat-l.toNat:=by rw[←tM];exact(aci.1 hx).1
   have hx':xs[l.toNat+j]? = some x:=by unfold cut at hx;rw[List.getElem?_drop,List.getElem?_take,if_pos (by omega)]at hx;exact hx
   obtain⟨a,us,rfl,hz,hr,hc⟩:=JU _ _ hx';refine⟨a.add (l.toNat*P.cellsOf e),us,by rw[if_neg (by omega)];rfl,by rw[fm];exact hz,hr,fun q y hy=>?_⟩;rw[uR,iZ];have:=hc q y hy;rw[Nat.add_mul]at this;rw[←Nat.add_assoc];exact this
 ·intro bw;rcases hm with rfl|⟨rfl,_⟩
  ·exact absurd rfl bw
  ·simp at PA;exact⟨_,_,by rw[←PA]⟩
theorem Hq{hh:Heap}(g:Good Z ψ h w B0 O)(_:∀id o,hh.get id=some o→h id=some o){t e:TypeId}(ht:P.underlying t=some (.slice e)){x:AV}{v:Value}{lo hi mx:Option AV}{L6 tL mx':Option Value}{ef:bL} (hv:aC Z ψ h w x v) (h1:eI Z ψ h w lo L6) (h2:eI Z ψ h w hi tL) (h3:eI Z ψ h w mx mx') (nS:∀y hw,ef=.wr y hw→hh.get=h) (he:o5 hh (P.cellsOf e) x lo hi mx some=some ef) (X0:(P.info? e).isSome=true) :
  ∃V Z',(Instr.sliceAt t v L6 tL mx').run P w=.ok V w∧Next Z ψ h w B0 O N Z' ψ (ef.hp h) w∧aC Z' ψ (ef.hp h) w ef.v V:=by
 unfold o5 at he
 split at he
 ·
  simp only[aC]at hv;subst hv
  split at he
  ·rename_i l u hb
   cases ho:bp 0 l u with
   |false=>rw[ho]at he;cases he
   |true =>
    rw[ho]at he
    cases he
    have dz:=tR (P:=P) (w:=w) (b:=true) (adj 0) h1 h2 h3 hb ho (.inl rfl);simp only[bp,Bool.and_eq_true,decide_eq_true_eq]at ho;have hl0:l.toNat=0:=by omega
    have hu0:u.toNat=0:=by omega
    obtain⟨i,hi⟩:=adq.1 X0;refine⟨.slice none 0 0,Z,?_,Next.refl g,by simp only[bL.v,aC]⟩;rw[hl0,hu0]at dz;simp[Instr.sliceAt,Instr.slice,run_underlying ht,dz,dD hi]
  ·cases he
 ·
  rename_i ex kk xs;simp only[aC]at hv
  split at he
  ·rename_i iZ
   split at he
   ·rename_i l u hb
    split at he
    ·cases ho:bp xs.length l u with
     |false=>rw[ho]at he;cases he
     |true =>
      rw[ho]at he
      cases he
      obtain⟨V,h4,h5,_⟩:=AZ (P:=P) ht iZ hv.1 h1 h2 h3 hb ho (.inl rfl);exact⟨V,Z,h4,Next.refl g,by simp only[bL.v,bL.hp,aC];exact⟨h5,by simp⟩⟩
    ·rename_i m
     cases ho:(bp xs.length l u&&(hi.isSome&&decide (m=u))) with
     |false=>rw[ho]at he;cases he
     |true =>
      rw[ho]at he
      cases he
      simp only[Bool.and_eq_true,decide_eq_true_eq]at ho;obtain⟨ho,hhi,rfl⟩:=ho;obtain⟨V,h4,h5,h6⟩:=AZ (P:=P) ht iZ hv.1 h1 h2 h3 hb ho (.inr ⟨rfl,by intro e;rw[e]at hhi;cases hhi⟩);exact⟨V,Z,h4,Next.refl g,by simp only[bL.v,bL.hp,aC];exact⟨h5,fun _=>h6 (by simp)⟩⟩
    ·cases he
   ·cases he
  ·cases he
 ·cases he
set_option linter.unusedSimpArgs false
set_option linter.unusedVariables false
def lQ(P:Program)(t:TypeId)(k:K):Prop :=∀(Z:Nat→Prop) (w:World) (x y:k.T) (xs ys:Array Value),aL Z w k x xs.toList→aL Z w k y ys.toList →(Op.equal t (.agg xs) (.agg ys)).run P w=.ok (rK k x y) w∧(∀(op:BinOp) (a b:Operand),(eqGuard op t a b (.agg xs) (.agg ys)).run P w=.ok () w)∧∀e:Bool,(Instr.checkKey e 10000 t (.agg xs)).run P w=.ok () w
theorem wR(op:BinOp)(t:TypeId)(a b:Operand)(k k':IntKind)(x y:Int):(eqGuard op t a b (.int k x) (.int k' y)).run P w=.ok () w:=by cases op<;>simp[eqGuard]
theorem Ny(op:BinOp)(t:TypeId)(a b:Operand)(x y:ByteArray):(eqGuard op t a b (.string x) (.string y)).run P w=.ok () w:=by cases op<;>simp[eqGuard]
theorem Kj(op:BinOp)(t:TypeId)(a b:Operand)(x y:Bool):(eqGuard op t a b (.bool x) (.bool y)).run P w=.ok () w:=by cases op<;>simp[eqGuard]
theorem D4(op:BinOp)(t:TypeId)(a b:Operand)(x y:Option Addr):(eqGuard op t a b (.pointer x) (.pointer y)).run P w=.ok () w:=by cases op<;>simp[eqGuard]
def bY:AV→Value
 |.bool b=>.bool b
 |.int k n=>.int k n
 |.str s=>.string s
 |_=>undef
theorem jQ(k:IntKind)(n:Int):aC Z ψ h w (.int k n) (bY (.int k n)):=by simp only[aC,bY]
theorem eJ(b:Bool):aC Z ψ h w (.bool b) (bY (.bool b)):=by simp only[aC,bY]
theorem kb{t e:TypeId}(ht:P.underlying t=some (.pointer e))(a:Option Addr):(Op.equal t (.pointer a) (.pointer none)).run P w=.ok a.isNone w:=by
 have key:∀d,(Op.equalIn (d+1) t (.pointer a) (.pointer none)).run P w=.ok a.isNone w:=fun d=>by cases a<;>simp[Op.equalIn,run_underlying ht]
 exact key 9999
theorem P8{op:BinOp}{t:TypeId}{k:IntKind}{a b:Int}{v:AV}(hv:XP op k a b=some v):∃V,(binOp op t (.int k a) (.int k b)).run P w=.ok V w∧aC Z ψ h w v V:=by
 cases op<;>simp only[XP]at hv<;>cases hv<;>first
  |(refine⟨bY (.int _ _),?_,jQ _ _⟩;simp[binOp,Op.intArith,Op.intCmp,bY];done)
  |(refine⟨bY (.bool _),?_,eJ _⟩;simp[binOp,Op.intArith,Op.intCmp,bY];done)
  |(refine⟨bY (.int _ _),?_,jQ _ _⟩;simp only[binOp,bY,ne_eq,not_true_eq_false,if_false];rfl)
theorem Nz{Eqs:TypeId→Option K}(Dl:∀t k,Eqs t=some k→lQ P t k){op:BinOp}{t:TypeId}{xo yo:Operand}{x y:AV}{u v:Value}{e:bL}(hu:aC Z ψ h w x u)(hv:aC Z ψ h w y v)(he:yj P Eqs op t x y some=some e) :
  ∃r V,e=.val r∧((do eqGuard op t xo yo u v;binOp op t u v:Sem Value)).run P w=.ok V w∧aC Z ψ h w r V:=by
 unfold yj at he
 split at he
 ·rename_i k a k' b;simp only[aC]at hu hv;subst hu;subst hv
  split at he
  ·cases hb:decide (b<0) with
   |true=>rw[hb]at he;cases he
   |false =>
    rw[hb]at he;cases he;have X1:¬b<0:=by simpa using hb
    exact⟨_,bY (.int _ _),rfl,by simp[wR,binOp,Op.shift,X1,bY,G8],jQ _ _⟩
  ·cases hb:decide (b<0) with
   |true=>rw[hb]at he;cases he
   |false =>
    rw[hb]at he;cases he;have X1:¬b<0:=by simpa using hb
    exact⟨_,bY (.int _ _),rfl,by simp[wR,binOp,Op.shift,X1,bY,lf],jQ _ _⟩
  split at he
  ·rename_i hk;subst hk;simp only[Sem.run_bind,wR,Result.andThen_ok]
   split at he
   ·cases hb:(b==0) with
    |true=>rw[hb]at he;cases he
    |false =>
     rw[hb]at he;cases he;have X1:b≠0:=by simpa using hb
     exact⟨_,bY (.int _ _),rfl,by simp[binOp,Op.intDiv,X1,bY],jQ _ _⟩
   ·cases hb:(b==0) with
    |true=>rw[hb]at he;cases he
    |false =>
     rw[hb]at he;cases he;have X1:b≠0:=by simpa using hb
     exact⟨_,bY (.int _ _),rfl,by simp[binOp,Op.intDiv,X1,bY],jQ _ _⟩
   ·split at he
    ·rename_i v hv
     cases he
     obtain⟨V,h1,h2⟩:=P8 (P:=P) (t:=t) (w:=w) (Z:=Z) (ψ:=ψ) (h:=h) hv;exact⟨_,V,rfl,h1,h2⟩
    ·cases he
  ·cases he
 ·rename_i a b;simp only[aC]at hu hv;subst hu;subst hv;simp only[Sem.run_bind,Ny,Result.andThen_ok]
  cases op<;>simp only[aag]at he<;>first|(cases he;done)|(cases he;exact⟨_,bY (.bool _),rfl,by simp[binOp,Op.stringOp,←beq_toListBytes,bY],eJ _⟩)
 ·rename_i a b;simp only[aC]at hu hv;subst hu;subst hv;simp only[Sem.run_bind,Kj,Result.andThen_ok];have key:(P.underlying t).map Fi=some true→P.underlying t=some .bool:=fun hm=>by
   obtain⟨d,hd,he⟩:=aee.1 hm
   cases d<;>simp[Fi]at he
   exact hd
  split at he
  ·rename_i hm
   cases he
   exact⟨_,bY (.bool _),rfl,by simp[binOp,Op.equal,Op.maxDepth,run_equalIn_bool' (P:=P) w 9999 t a b (key hm),bY],eJ _⟩
  ·rename_i hm
   cases he
   exact⟨_,bY (.bool _),rfl,by simp[binOp,Op.equal,Op.maxDepth,run_equalIn_bool' (P:=P) w 9999 t a b (key hm),bY],eJ _⟩
  ·cases he
 ·rename_i a b
  split at he
  ·cases he
  ·rename_i k hk;simp only[aC]at hu hv;obtain⟨xs,rfl,hx⟩:=hu;obtain⟨ys,rfl,hy⟩:=hv
   split at he
   ·rename_i x y hdx hdy
    cases he
    obtain⟨h1,h2,_⟩:=Dl t k hk Z w x y xs ys (dM hdx hx) (dM hdy hy);exact⟨_,bY (.bool _),rfl,by simp only[Sem.run_bind,h2,Result.andThen_ok,binOp,h1,Sem.run_pure,bY],eJ _⟩
   ·rename_i x y hdx hdy
    cases he
    obtain⟨h1,h2,_⟩:=Dl t k hk Z w x y xs ys (dM hdx hx) (dM hdy hy);exact⟨_,bY (.bool _),rfl,by simp only[Sem.run_bind,h2,Result.andThen_ok,binOp,h1,Sem.run_pure,bY],eJ _⟩
   ·cases he
 ·simp only[aC]at hu hv;subst hu;subst hv;have key:(P.underlying t).map wM=some true→∃e,P.underlying t=some (.pointer e):=fun hm=>by
   obtain⟨d,hd,he⟩:=aee.1 hm
   cases d<;>simp[wM]at he
   exact⟨_,hd⟩
  simp only[Sem.run_bind,D4,Result.andThen_ok]
  split at he
  ·rename_i hm
   cases he
   obtain⟨et,ht⟩:=key hm;exact⟨_,bY (.bool _),rfl,by simp only[binOp,Sem.run_bind,kb ht,Result.andThen_ok,Sem.run_pure,bY,Option.isNone_none,Option.isNone_some,Bool.not_true,Bool.not_false],eJ _⟩
  ·rename_i hm
   cases he
   obtain⟨et,ht⟩:=key hm;exact⟨_,bY (.bool _),rfl,by simp only[binOp,Sem.run_bind,kb ht,Result.andThen_ok,Sem.run_pure,bY,Option.isNone_none,Option.isNone_some,Bool.not_true,Bool.not_false],eJ _⟩
  ·cases he
 ·simp only[aC]at hu hv;obtain⟨a,rfl,_⟩:=hu;subst hv;have key:(P.underlying t).map wM=some true→∃e,P.underlying t=some (.pointer e):=fun hm=>by
   obtain⟨d,hd,he⟩:=aee.1 hm
   cases d<;>simp[wM]at he
   exact⟨_,hd⟩
  simp only[Sem.run_bind,D4,Result.andThen_ok]
  split at he
  ·rename_i hm
   cases he
   obtain⟨et,ht⟩:=key hm;exact⟨_,bY (.bool _),rfl,by simp only[binOp,Sem.run_bind,kb ht,Result.andThen_ok,Sem.run_pure,bY,Option.isNone_none,Option.isNone_some,Bool.not_true,Bool.not_false],eJ _⟩
  ·rename_i hm
   cases he
   obtain⟨et,ht⟩:=key hm;exact⟨_,bY (.bool _),rfl,by simp only[binOp,Sem.run_bind,kb ht,Result.andThen_ok,Sem.run_pure,bY,Option.isNone_none,Option.isNone_some,Bool.not_true,Bool.not_false],eJ _⟩
  ·cases he
 ·cases he
theorem NA{a:AV}{v:Value}(hp:wJ a=true)(hr:aC Z ψ h w a v):v.oneCell'=true:=by
 cases a with
 |no=>cases hp
 |agg cs=>cases hp
 |ns cs=>cases hp
 |bool b=>simp only[aC]at hr;subst hr;rfl
 |int k n=>simp only[aC]at hr;subst hr;rfl
 |str s=>simp only[aC]at hr;subst hr;rfl
 |la=>simp only[aC]at hr;subst hr;rfl
 |fZ=>simp only[aC]at hr;subst hr;rfl
 |ref id s i off=>simp only[aC]at hr;obtain⟨a,rfl,_⟩:=hr;rfl
 |fp k x off=>simp only[aC]at hr;obtain⟨a,us,rfl,_⟩:=hr;rfl
 |sl ex k xs=>simp only[aC,aL]at hr;obtain⟨⟨v',hv,A,c,rfl,_⟩,_⟩:=hr;cases hv;rfl
 |bK id=>simp only[aC]at hr;exact hr.1.2
 |mp kk vk es=>simp only[aC,aL]at hr;obtain⟨A,hv,_⟩:=hr;cases hv;rfl
 |fn f cap=>simp only[aC]at hr;obtain⟨vs,rfl,_⟩:=hr;rfl
theorem tS:∀{cs:List AV} {vs:List Value},cs.all wJ=true→aq Z ψ h w cs vs→∀u∈vs,u.oneCell'=true
 |[],_,_,hr,u,hu=>by simp only[aq]at hr;subst hr;simp at hu
 |c::r,_,hp,hr,u,hu=>by
  simp only[List.all_cons,Bool.and_eq_true]at hp;simp only[aq]at hr;obtain⟨v,us,rfl,h1,h2⟩:=hr;rcases acp.1 hu with rfl|hu
  ·exact NA hp.1 h1
  ·exact tS hp.2 h2 u hu
theorem Hr{a:AV}(hp:a.cells.all wJ=true):a≠.no:=by rintro rfl;simp[AV.cells,wJ]at hp
theorem rT{id:Nat}:∀{cs:List AV},J6 id cs=true→AV.bK id∉cs
 |[],_=>by simp
 |c::r,hn=>by
  intro hm
  cases c with
  |bK i =>
   simp only[J6,Bool.and_eq_true,Bool.not_eq_true',beq_eq_false_iff_ne]at hn;rcases acp.1 hm with e|hm
   ·cases e;exact hn.1 rfl
   ·exact rT hn.2 hm
  |_ =>
   simp only[J6]at hn;rcases acp.1 hm with e|hm
   ·cases e
   ·exact rT hn hm
theorem yx{hh:Heap}(g:Good Z ψ hh.get w B0 O){t:TypeId}{a x:AV}{u v:Value}{e:bL}(hu:aC Z ψ hh.get w a u)(hv:aC Z ψ hh.get w x v)(he:rL P hh t a x some=some e) :
  ∃hw w' Z',e=.wr .no hw∧(Instr.storeAt t u v).run P w=.ok () w'∧Next Z ψ hh.get w B0 O N Z' ψ hw.get w':=by
 unfold rL at he
 split at he
 ·rename_i hc;obtain⟨hlen,UG,qV⟩:=hc;obtain⟨inf,UG⟩:=adq.1 UG;have Py:=hv.cells (Hr qV);have Fs:=tS qV Py;have tM:=Py.length;simp only[Array.length_toList]at tM
  split at he
  ·rename_i id s i off;simp only[aC]at hu;obtain⟨a,rfl,ha⟩:=hu
   split at he
   ·rename_i ty cs hg
    split at he
    ·rename_i hc;obtain⟨rfl,aaq⟩:=hc
     cases he
     have He:=ha (by rw[hg];simp);obtain⟨w',h1,h2⟩:=AO (P:=P) (N:=N) g hg UG Py Fs (by omega) aaq (a:=a) (by rw[He];simp);exact⟨_,w',Z,rfl,h1,by rw[mQ];exact h2⟩
    ·cases he
   ·rename_i ty kk xs hg;obtain⟨y,hx,Ud⟩:=adG.1 he;clear he
    split at Ud
    ·rename_i hc;obtain⟨rfl,aaq,qU⟩:=hc
     split at Ud
     ·rename_i z hz
      cases Ud
      have He:=ha (by rw[hg];simp);have bS:=rT qU;have gd:=iA g x.cells;have hgd:(cM hh x.cells).get id=some (.own (.row ty kk) xs):=by rw[pf _ _ _ bS];exact hg
      have X2:=og (Z':=qB Z ψ hh.get x.cells) g (fun b hb=>.inl hb) (fun i b hm bw hb=>.inr ⟨i,hm,bw,hb⟩) Py;obtain⟨w',h1,h2⟩:=AQ (P:=P) (N:=N) gd hgd UG hx (y:=z) (off:=off) (V:=v) (by omega) (by omega) (a:=a) He (fun us UH=>by
       have h3:=(iq (ψ:=ψ) (h:=hh.get) UH);have h4:=dM hz (X2.dY off h3)
       rwa [rS _ _ _ (by rw[Array.length_toList,UH.len];omega),Array.length_toList]at h4) Fs
      refine⟨_,w',qB Z ψ hh.get x.cells,rfl,h1,?_⟩;rw[show((stored hh x.cells).2.set id (.own (.row ty kk) (xs.set i z))).get=eu (cM hh x.cells).get id (some (.own (.row ty kk) (xs.set i z))) from mQ _ _ _];exact h2.drop (fun b hb=>.inl hb) (fun b hb=>hb.imp (fun h=>h) (fun⟨i,_,h5,h6⟩=>⟨i,h5,h6⟩)) (ep _ _)
     ·cases Ud
    ·cases Ud
   ·cases he
  ·cases he
 ·cases he
theorem P9{a:AV}{v:Value}(ha:a.isAgg=true)(hr:aC Z ψ h w a v):∃vs,v=.agg vs:=by
 cases a<;>simp[AV.isAgg]at ha
 simp only[aC]at hr;obtain⟨vs,rfl,_⟩:=hr;exact⟨vs,rfl⟩
theorem D5{a:AV}{v:Value}(ha:a.isAgg=false)(qU:a≠.no)(hr:aC Z ψ h w a v):v.cells=#[v]:=by
 cases a with
 |no=>exact absurd rfl qU
 |agg cs=>simp[AV.isAgg]at ha
 |bool b=>simp only[aC]at hr;subst hr;rfl
 |int k n=>simp only[aC]at hr;subst hr;rfl
 |str s=>simp only[aC]at hr;subst hr;rfl
 |la=>simp only[aC]at hr;subst hr;rfl
 |fZ=>simp only[aC]at hr;subst hr;rfl
 |ref id s i off=>simp only[aC]at hr;obtain⟨a,rfl,_⟩:=hr;rfl
 |fp k x off=>simp only[aC]at hr;obtain⟨a,us,rfl,_⟩:=hr;rfl
 |sl ex k xs=>simp only[aC,aL]at hr;obtain⟨⟨v',hv,A,c,rfl,_⟩,_⟩:=hr;cases hv;rfl
 |bK id=>simp only[aC]at hr;exact hr.1.1
 |mp kk vk es=>simp only[aC,aL]at hr;obtain⟨A,hv,_⟩:=hr;cases hv;rfl
 |fn f cap=>simp only[aC]at hr;obtain⟨vs,rfl,_⟩:=hr;rfl
 |ns cs=>simp only[aC]at hr;obtain⟨vs,rfl,_⟩:=hr;rfl
theorem tT{hh:Heap}{k:K}{a:AV}{x:k.T}{v:Value}(g:Good Z ψ hh.get w B0 O)(hz:∀b,Z b→Z' b)(hb:∀id b,AV.bK id∈a.cells→hh.get id≠none→ob (ψ id)=some b→Z' b) (hx:fX k hh a=some x) (hr:aC Z ψ hh.get w a v):aL Z' w k x v.cells.toList∧(k.isAgg=true→∃vs,v=.agg vs)∧(k.isAgg=false→v.cells=#[v]):=by
 unfold fX at hx
 split at hx
 ·rename_i WA;have qU:=D3 hx;have hv:=og g hz hb (hr.cells qU);exact⟨dM hx hv,fun h=>P9 (by rw[←WA];exact h) hr,fun h=>D5 (by rw[←WA];exact h) qU hr⟩
 ·cases hx
theorem rU{hh:Heap}{k:K}{a:AV}{x:k.T}{v:Value}(g:Good Z ψ hh.get w B0 O)(hz:∀b,Z b→Z' b)(hb:∀id b,AV.bK id∈a.cells→hh.get id≠none→ob (ψ id)=some b→Z' b) (hx:fX k hh a=some x) (hr:aC Z ψ hh.get w a v):aC Z' ψ' h' w (cp k x) v:=by obtain⟨h1,h2,h3⟩:=tT g hz hb hx hr;exact lO h1 h2 h3
theorem aL.flat:∀{k:K} {x:k.T} {vs:List Value},k.flat=true→aL Z w k x vs→aL Z' w' k x vs
 |.int _,_,_,_,h=>h
 |.bool,_,_,_,h=>h
 |.str,_,_,_,h=>h
 |.sl k,_,_,hf,_=>by simp[K.flat]at hf
 |.pair a b,x,_,hf,h=>by simp only[K.flat,Bool.and_eq_true]at hf;simp only[aL]at h ⊢;obtain⟨us,ws,rfl,h1,h2⟩:=h;exact⟨us,ws,rfl,aL.flat hf.1 h1,aL.flat hf.2 h2⟩
 |.one k,x,_,hf,h=>by simp only[aL]at h ⊢;exact aL.flat (k:=k) (by simpa only[K.flat] using hf) h
theorem zP:∀(k:K) (x y:k.T),k.flat=true→(rK k x y=true↔x=y)
 |.int _,x,y,_=>by simp only[rK];exact beq_iff_eq (α:=Int)
 |.bool,x,y,_=>by simp only[rK];exact beq_iff_eq (α:=Bool)
 |.str,x,y,_=>by simp only[rK];exact MapKept.bytes_beq x y
 |.sl _,_,_,hf=>by simp[K.flat]at hf
 |.mp _ _,_,_,hf=>by simp[K.flat]at hf
 |.pair a b,x,y,hf=>by simp only[K.flat,Bool.and_eq_true]at hf;simp only[rK,Bool.and_eq_true];rw[zP a _ _ hf.1,zP b _ _ hf.2];exact⟨fun h=>Prod.ext h.1 h.2,fun h=>⟨congrArg Prod.fst h,congrArg Prod.snd h⟩⟩
 |.one k,x,y,hf=>by simp only[rK];exact zP k x y (by simpa only[K.flat] using hf)
theorem pn:∀{k:K} {x:k.T} {us vs:List Value},k.flat=true→aL Z w k x us→aL Z' w' k x vs→us=vs
 |.int _,_,_,_,_,h1,h2=>by simp only[aL]at h1 h2;rw[h1,h2]
 |.bool,_,_,_,_,h1,h2=>by simp only[aL]at h1 h2;rw[h1,h2]
 |.str,_,_,_,_,h1,h2=>by simp only[aL]at h1 h2;rw[h1,h2]
 |.sl _,_,_,_,hf,_,_=>by simp[K.flat]at hf
 |.mp _ _,_,_,_,hf,_,_=>by simp[K.flat]at hf
 |.pair a b,x,_,_,hf,h1,h2=>by simp only[K.flat,Bool.and_eq_true]at hf;simp only[aL]at h1 h2;obtain⟨a1,a2,rfl,h3,h4⟩:=h1;obtain⟨b1,b2,rfl,h5,h6⟩:=h2;rw[pn hf.1 h3 h5,pn hf.2 h4 h6]
 |.one k,x,_,_,hf,h1,h2=>by simp only[aL]at h1 h2;exact pn (k:=k) (by simpa only[K.flat] using hf) h1 h2
theorem rW:∀{k:K} {x:k.T} {us:List Value},k.flat=true→aL Z w k x us→∀u∈us,∀n,Instr.sameBits n u u=true
 |.int _,x,_,_,h1,u,hu,n=>by simp only[aL]at h1;subst h1;simp only[List.mem_singleton]at hu;subst hu;cases n<;>simp[Instr.sameBits]<;>exact beq_self_eq_true (α:=Int) x
 |.bool,x,_,_,h1,u,hu,n=>by simp only[aL]at h1;subst h1;simp only[List.mem_singleton]at hu;subst hu;cases n<;>simp[Instr.sameBits]<;>exact beq_self_eq_true (α:=Bool) x
 |.str,x,_,_,h1,u,hu,n=>by simp only[aL]at h1;subst h1;simp only[List.mem_singleton]at hu;subst hu;cases n<;>simp[Instr.sameBits]<;>exact(MapKept.bytes_beq x x).2 rfl
 |.sl _,_,_,hf,_,_,_,_=>by simp[K.flat]at hf
 |.mp _ _,_,_,hf,_,_,_,_=>by simp[K.flat]at hf
 |.pair a b,x,_,hf,h1,u,hu,n=>by
  simp only[K.flat,Bool.and_eq_true]at hf;simp only[aL]at h1;obtain⟨a1,a2,rfl,h3,h4⟩:=h1;rcases ac8.1 hu with hu|hu
  ·exact rW hf.1 h3 u hu n
  ·exact rW hf.2 h4 u hu n
 |.one k,x,_,hf,h1,u,hu,n=>by simp only[aL]at h1;exact rW (k:=k) (by simpa only[K.flat] using hf) h1 u hu n
def JV(b:Bool)(v:Value):Prop:=(b=true→∃vs,v=.agg vs)∧(b=false→v.cells=#[v])
theorem NB{b:Bool}{u v:Value}(h1:JV b u)(h2:JV b v)(h:u.cells.toList=v.cells.toList):u=v:=by
 cases b with
 |true =>
  obtain⟨a,rfl⟩:=h1.1 rfl;obtain⟨c,rfl⟩:=h2.1 rfl;have:a=c:=by simpa[Value.cells] using h
  rw[this]
 |false =>rw[h1.2 rfl,h2.2 rfl]at h;simpa using h
theorem Qa{k:K}{x:k.T}{u:Value}(hf:k.flat=true)(hr:aL Z w k x u.cells.toList)(hs:JV k.isAgg u):Instr.sameBits 10000 u u=true:=by
 have hb:=rW hf hr
 cases hk:k.isAgg with
 |false=>exact hb u (by rw[hs.2 hk];simp) _
 |true =>obtain⟨a,rfl⟩:=hs.1 hk;show Instr.sameBits (9999+1) (.agg a) (.agg a)=true;simp only[Instr.sameBits,beq_self_eq_true,Bool.true_and,List.all_eq_true];intro p hp;obtain⟨i,hi,he⟩:=List.mem_iff_getElem.1 hp;simp only[List.getElem_zip]at he;subst he;exact hb _ (adv (l:=(Value.agg a).cells.toList) (by simpa[Value.cells] using hi)) _
def Keys(Z:Nat→Prop)(w:World)(k:K)(ys:List k.T)(l:List MapEntry):Prop:=ys.length=l.length∧∀(i:Nat) y e,ys[i]? = some y→l[i]? = some e→aL Z w k y e.key.cells.toList∧JV k.isAgg e.key
theorem Keys.tail{k:K}{y:k.T}{ys:List k.T}{e:MapEntry}{l:List MapEntry}(h:Keys Z w k (y::ys) (e::l)):Keys Z w k ys l:=⟨by simpa using h.1,fun i a b h1 h2=>h.2 (i+1) a b (by simpa using h1) (by simpa using h2)⟩
theorem Hs{k:K}{x:k.T}{d:TypeDesc}{kv:Value}(hs:∀y Ue,aL Z w k y Ue.cells.toList→JV k.isAgg Ue→Instr.sameNow d kv Ue=some (rK k x y)):∀(l:List MapEntry) (ys:List k.T) (i:Nat),Keys Z w k ys l → Instr.findNow d kv l i=some ((ys.findIdx? (rK k x)).map fun j=>(i+j,((l[j]?).map (·.val)).getD undef))
 |[],ys,i,h=>by have:ys=[]:=adx (by simpa using h.1);subst this;rfl
 |e::l,[],i,h=>by have:=h.1;simp at this
 |e::l,y::ys,i,h=>by
  obtain⟨h1,h2⟩:=h.2 0 y e rfl rfl;have ih:=Hs hs l ys (i+1) h.tail;simp only[Instr.findNow,hs y _ h1 h2,List.findIdx?_cons]
  cases rK k x y with
  |true=>simp
  |false =>
   simp only[ih,Bool.false_eq_true,if_false]
   cases ys.findIdx? (rK k x) with
   |none=>rfl
   |some j=>simp;omega
theorem yy{k:K}{x:k.T}{t:TypeId}{kv:Value}(hs:∀y Ue,aL Z w k y Ue.cells.toList→JV k.isAgg Ue→(Op.equal t kv Ue).run P w=.ok (rK k x y) w):∀(l:List MapEntry) (ys:List k.T) (i:Nat),Keys Z w k ys l →(Instr.findAsking t kv l i).run P w=.ok ((ys.findIdx? (rK k x)).map fun j=>(i+j,((l[j]?).map (·.val)).getD undef)) w
 |[],ys,i,h=>by have:ys=[]:=adx (by simpa using h.1);subst this;rfl
 |e::l,[],i,h=>by have:=h.1;simp at this
 |e::l,y::ys,i,h=>by
  obtain⟨h1,h2⟩:=h.2 0 y e rfl rfl;have ih:=yy hs l ys (i+1) h.tail;simp only[Instr.findAsking,Sem.run_bind,hs y _ h1 h2,Result.andThen_ok,List.findIdx?_cons]
  cases rK k x y with
  |true=>simp
  |false =>
   simp only[ih,Bool.false_eq_true,if_false]
   cases ys.findIdx? (rK k x) with
   |none=>rfl
   |some j=>simp;omega
structure Qb(P:Program)(t:TypeId)(k:K):Prop where
 flat:k.flat=true
 check:∀(Z:Nat→Prop) (w:World) (x:k.T) (kv:Value) (e:Bool),aL Z w k x kv.cells.toList→JV k.isAgg kv→(Instr.checkKey e 10000 t kv).run P w=.ok () w
 find:∀(Z:Nat→Prop) (w:World) (x:k.T) (kv:Value) (l:List MapEntry) (ys:List k.T),aL Z w k x kv.cells.toList→JV k.isAgg kv→Keys Z w k ys l →
  (Instr.findKey t kv l).run P w=.ok ((ys.findIdx? (rK k x)).map fun j=>(j,((l[j]?).map (·.val)).getD undef)) w
theorem po{t:TypeId}{k:K}{d:TypeDesc}(hf:k.flat=true)(hk:k.isAgg=false)(hd:P.underlying t=some d)(hc:∀(Z:Nat→Prop) (w:World) (x:k.T) (kv:Value),aL Z w k x [kv]→MapKept.IsKey d kv) (hs:∀(Z:Nat→Prop) (w:World) (x y:k.T) (u v:Value),aL Z w k x [u]→aL Z w k y [v]→Instr.sameNow d u v=some (rK k x y)):Qb P t k:=by
 have one:∀{Z:Nat→Prop} {w:World} {x:k.T} {kv:Value},aL Z w k x kv.cells.toList→JV k.isAgg kv→aL Z w k x [kv]:=fun {Z w x kv} h1 h2=>by rw[h2.2 hk]at h1;exact h1
 refine⟨hf,fun Z w x kv e h1 h2=>MapKept.run_checkKey hd (hc Z w x kv (one h1 h2)) e 9999,fun Z w x kv l ys h1 h2 h3=>?_⟩;have:=Hs (Z:=Z) (w:=w) (x:=x) (d:=d) (kv:=kv) (fun y Ue h4 h5=>hs Z w x y kv Ue (one h1 h2) (one h4 h5)) l ys 0 h3;simp only[Nat.zero_add]at this;exact MapKept.run_findKey hd this
theorem Ht(d:TypeDesc)(a:Array Value)(v:Value):Instr.sameNow d (.agg a) v=none:=by cases d<;>cases v<;>rfl
theorem wS{Eqs:TypeId→Option K}(Dl:∀t k,Eqs t=some k→lQ P t k){t:TypeId}{k:K}(hk:L3 P Eqs t k=true):Qb P t k:=by
 unfold L3 at hk;rw[Bool.and_eq_true]at hk;obtain⟨hf,hk⟩:=hk
 split at hk
 ·rename_i ik ZE hd;simp only[decide_eq_true_eq]at hk;subst hk;exact po hf rfl hd (fun Z w x kv hr=>by simp only[aL]at hr;cases hr;simp[MapKept.IsKey]) (fun Z w x y u v h1 h2=>by simp only[aL]at h1 h2;cases h1;cases h2;simp[Instr.sameNow,rK])
 ·rename_i hd;exact po hf rfl hd (fun Z w x kv hr=>by simp only[aL]at hr;cases hr;simp[MapKept.IsKey]) (fun Z w x y u v h1 h2=>by simp only[aL]at h1 h2;cases h1;cases h2;simp[Instr.sameNow,rK])
 ·rename_i hd;exact po hf rfl hd (fun Z w x kv hr=>by simp only[aL]at hr;cases hr;simp[MapKept.IsKey]) (fun Z w x y u v h1 h2=>by simp only[aL]at h1 h2;cases h1;cases h2;simp[Instr.sameNow,rK])
 ·simp only[Bool.and_eq_true,decide_eq_true_eq]at hk;obtain⟨WA,hk⟩:=hk;have fact:=Dl _ _ hk;have agg:∀{b:Bool} {u:Value},b=true→JV b u→∃a,u=.agg a:=fun hb h=>h.1 hb;refine⟨hf,fun Z w x kv e h1 h2=>?_,fun Z w x kv l ys h1 h2 h3=>?_⟩
  ·obtain⟨a,rfl⟩:=agg WA h2;exact(fact Z w x x a a h1 h1).2.2 e
  ·obtain⟨a,rfl⟩:=agg WA h2;have h4:=yy (P:=P) (t:=t) (Z:=Z) (w:=w) (x:=x) (kv:=.agg a) (fun y Ue h4 h5=>by obtain⟨b,rfl⟩:=agg WA h5;exact(fact Z w x y a b h1 h4).1) l ys 0 h3;simp only[Nat.zero_add]at h4
   cases l with
   |nil =>
    have:ys=[]:=adx (by simpa using h3.1);subst this
    cases hu:P.underlying t with
    |none =>have hc:=(fact Z w x x a a h1 h1).2.2 true;exfalso;unfold Instr.checkKey at hc;simp[underlying,hu]at hc
    |some d=>simp[Instr.findKey,run_underlying hu,Instr.findNow]
   |cons e l =>
    cases hu:P.underlying t with
    |none =>have hc:=(fact Z w x x a a h1 h1).2.2 true;exfalso;unfold Instr.checkKey at hc;simp[underlying,hu]at hc
    |some d=>simp only[Instr.findKey,Sem.run_bind,run_underlying hu,Result.andThen_ok,Instr.findNow,Ht];exact h4
section
variable {kk vk:K} {es:List (kk.T×vk.T)} {l:List MapEntry}
abbrev kj(Z:Nat→Prop)(w:World)(kk vk:K)(es:List (kk.T×vk.T))(l:List MapEntry):Prop:=Fl (aL Z w kk) (aL Z w vk) kk.isAgg vk.isAgg es l
theorem kj.keys(h:kj Z w kk vk es l):Keys Z w kk (es.map (·.1)) l :=⟨by rw[List.length_map];exact h.1,fun i y e h1 h2=>by rw[List.getElem?_map]at h1;obtain⟨x,h3,rfl⟩:=aee.1 h1;exact(h.2 i x e h3 h2).1⟩
theorem A1{x:kk.T}:(es.map (·.1)).findIdx? (rK kk x)=tH kk x es:=by unfold tH;rw[List.findIdx?_map];rfl
theorem Ft{x:kk.T}{i:Nat}(h:tH kk x es=some i):i<es.length:=by unfold tH at h;exact(List.findIdx?_eq_some_iff_getElem.1 h).1
theorem UI{x:kk.T}{i:Nat}(h:tH kk x es=some i):∃e,es[i]? = some e∧rK kk x e.1=true:=by unfold tH at h;obtain⟨h1,h2,_⟩:=List.findIdx?_eq_some_iff_getElem.1 h;exact⟨_,aaY h1,h2⟩
def Qc(Z:Nat→Prop)(w:World)(kk vk:K)(x:kk.T×vk.T)(e:MapEntry):Prop:=(aL Z w kk x.1 e.key.cells.toList∧JV kk.isAgg e.key)∧aL Z w vk x.2 e.val.cells.toList∧JV vk.isAgg e.val
theorem kj.set(h:kj Z w kk vk es l)(i:Nat){x:kk.T×vk.T}{f:MapEntry→MapEntry}(ho:∀e,l[i]? = some e→Qc Z w kk vk x (f e)):kj Z w kk vk (es.set i x) (l.modify i f):=by
 refine⟨by simp[h.1],fun j y e h1 h2=>?_⟩;rw[List.getElem?_modify]at h2;obtain⟨e0,h3,h4⟩:=aee.1 h2;by_cases zQ:i=j
 ·subst zQ;rw[if_pos rfl]at h4;have aF:i<es.length:=by rw[h.1];exact(aci.1 h3).1
  rw[List.getElem?_set_self aF]at h1
  cases h1
  subst h4;exact ho e0 h3
 ·rw[if_neg zQ]at h4;rw[List.getElem?_set_ne zQ]at h1;subst h4;exact h.2 j y e0 h1 h3
theorem kj.push(h:kj Z w kk vk es l){x:kk.T×vk.T}{e:MapEntry}(ho:Qc Z w kk vk x e):kj Z w kk vk (es++[x]) (l++[e]):=by
 refine⟨by simp[h.1],fun j y e' h1 h2=>?_⟩;by_cases hj:j<es.length
 ·rw[List.getElem?_append_left hj]at h1;rw[List.getElem?_append_left (by rw[←h.1];exact hj)]at h2;exact h.2 j y e' h1 h2
 ·rw[List.getElem?_append_right (by omega)]at h1;rw[List.getElem?_append_right (by have:=h.1;omega),←h.1]at h2;by_cases h0:j-es.length=0
  ·rw[h0]at h1 h2;cases h1;cases h2;exact ho
  ·rw[List.getElem?_eq_none (by simp;omega)]at h1;cases h1
theorem kj.erase(h:kj Z w kk vk es l)(i:Nat):kj Z w kk vk (es.eraseIdx i) (l.eraseIdx i):=by
 refine⟨by rw[List.length_eraseIdx,List.length_eraseIdx,h.1],fun j y e h1 h2=>?_⟩;rw[List.getElem?_eraseIdx]at h1 h2
 split at h1
 ·rename_i hj;rw[if_pos hj]at h2;exact h.2 j y e h1 h2
 ·rename_i hj;rw[if_neg hj]at h2;exact h.2 (j+1) y e h1 h2
theorem kj.mono(h:kj Z w kk vk es l)(hz:∀b,Z b→Z' b)(hs:cy Z w w'):kj Z' w' kk vk es l:=Fl.imp (fun _ _ h=>h.mono hz hs) (fun _ _ h=>h.mono hz hs) h
end
theorem tU{Eqs:TypeId→Option K}{t:TypeId}{kk vk:K}(h:mapOf P Eqs t=some (kk,vk)):∃a b,P.underlying t=some (.map a b)∧L3 P Eqs a kk=true∧L0 P b vk=true:=by
 unfold mapOf at h
 split at h
 ·rename_i a b hu
  split at h
  ·split at h
   ·rename_i hc
    cases h
    rw[Bool.and_eq_true]at hc;exact⟨a,b,hu,hc.1,hc.2⟩
   ·cases h
  ·cases h
 ·cases h
theorem Kk{b:TypeId}{vk:K}(h:L0 P b vk=true):∃z,(zeroValue b).run P w=.ok z w∧aL Z w vk (nX vk) z.cells.toList∧JV vk.isAgg z:=by
 unfold L0 at h
 split at h
 ·rename_i i hi
  split at h
  ·rename_i z hz;refine⟨z,uX hi hz,?_⟩;unfold PT at h
   split at h
   ·simp only[decide_eq_true_eq]at h;obtain⟨rfl,rfl⟩:=h;exact⟨by simp only[aL];rfl,fun h=>(by cases h),fun _=>rfl⟩
   ·rename_i b;simp only[Bool.not_eq_true']at h;subst h;exact⟨by simp only[aL];rfl,fun h=>(by cases h),fun _=>rfl⟩
   ·simp only[decide_eq_true_eq]at h;subst h;exact⟨by simp only[aL];rfl,fun h=>(by cases h),fun _=>rfl⟩
   ·simp only[decide_eq_true_eq]at h;obtain⟨rfl,rfl,rfl⟩:=h;exact⟨by simp only[aL];exact⟨_,rfl,none,0,rfl,adj _,fun _=>rfl,fun i x hx=>by simp[nX]at hx⟩,fun h=>(by cases h),fun _=>rfl⟩
   ·cases h
  ·cases h
 ·cases h
theorem L7{hh:Heap}(g:Good Z ψ h w B0 O)(bE:∀id o,hh.get id=some o→h id=some o){m:AV}{u:Value}{kk vk:K}{es:List (kk.T×vk.T)}(hm:aC Z ψ h w m u)(hv:cP hh m=.mp kk vk es) :
  ∃A,u=.map A∧((A=none∧es=[])∨∃r b5 clock,A=some r∧w.heap[r]? = some (.map b5 clock)∧kj Z w kk vk es b5.toList):=by
 cases m with
 |mp LZ Uw Qd =>
  simp only[cP]at hv
  cases hv
  simp only[aC,aL]at hm;obtain⟨A,h1,h2⟩:=hm
  cases h1
  refine⟨A,rfl,h2.imp (fun h=>h) fun⟨m,b5,clock,h3,_,h4,h5⟩=>⟨m,b5,clock,h3,h4,h5⟩⟩
 |bK id =>
  simp only[cP]at hv
  split at hv
  ·cases hv
  ·rename_i LZ Uw Qd hg
   cases hv
   have AX:=bE _ _ hg;simp only[aC]at hm;have:=hm.2 (by rw[AX];simp);subst this;obtain⟨r,b5,clock,h1,h2,h3,_⟩:=g.row id (.map kk vk) es AX;exact⟨some r,h1,.inr ⟨r,b5,clock,rfl,h2,h3⟩⟩
  ·cases hv
 |_=>simp only[cP]at hv;cases hv
theorem Kl{hh:Heap}(g:Good Z ψ h w B0 O)(bE:∀id o,hh.get id=some o→h id=some o){k:K}(hf:k.flat=true){a:AV}{x:k.T}{v:Value}(hx:fX k hh a=some x)(hr:aC Z ψ h w a v):aL Z w k x v.cells.toList∧JV k.isAgg v:=by obtain⟨h1,h2,h3⟩:=tT (Z':=fun b=>b<w.heap.size) (g.sub bE) (fun b hb=>g.jO b hb) (fun id b _ h1 h2=>(g.sub bE).bT ⟨id,h1,h2⟩) hx (hr.less (fun _ h=>h) (cy.refl _ _) (fun id bS=>by obtain⟨o,ho⟩:=ac9.1 bS;exact⟨by rw[bE id o ho];simp,rfl⟩));exact⟨h1.flat hf,h2,h3⟩
theorem Fu{Eqs:TypeId→Option K}(Dl:∀t k,Eqs t=some k→lQ P t k){hh:Heap}(g:Good Z ψ h w B0 O)(bE:∀id o,hh.get id=some o→h id=some o){t:TypeId}{m i:AV}{u v:Value}{ok:Bool}{e:bL} (hm:aC Z ψ h w m u) (hi:aC Z ψ h w i v) (he:n8 P Eqs hh t m i ok some=some e):∃y V,e=.val y∧(Instr.lookup t u v ok).run P w=.ok V w∧aC Z ψ h w y V:=by
 unfold n8 at he
 split at he
 ·rename_i ka va kk vk es ZG hv
  split at he
  ·rename_i hc;obtain⟨rfl,rfl⟩:=hc
   split at he
   ·rename_i x hx
    cases he
    obtain⟨a,b,hu,hk,hz⟩:=tU ZG;have K:=wS Dl hk;obtain⟨Km,oZ⟩:=Kl g bE K.flat hx hi;obtain⟨z,yw,Dk,JS⟩:=Kk (Z:=Z) (w:=w) hz;have fin:∀(l:List MapEntry),kj Z w kk vk es l→∃V,((∃j,(Instr.findKey a v l).run P w=.ok (some (j,V)) w∧(jg kk x es).isSome=true)∨((Instr.findKey a v l).run P w=.ok none w∧(zeroValue b).run P w=.ok V w∧(jg kk x es).isSome=false)) ∧ aL Z w vk ((jg kk x es).getD (nX vk)) V.cells.toList∧JV vk.isAgg V:=by
     intro l hE;have hf:=K.find Z w x v l (es.map (·.1)) Km oZ hE.keys;rw[A1]at hf
     cases D6:tH kk x es with
     |none =>rw[D6]at hf;exact⟨z,.inr ⟨hf,yw,by simp[jg,D6]⟩,by simpa[jg,D6] using Dk,JS⟩
     |some j =>
      rw[D6]at hf;have hj:=Ft D6;have h1:es[j]? = some es[j]:=aaY hj;have JW:j<l.length:=by rw[←hE.1];exact hj
      have h2:l[j]? = some l[j]:=aaY JW;obtain⟨_,h3,h4⟩:=hE.2 j _ _ h1 h2;refine⟨l[j].val,.inl ⟨j,?_,by simp[jg,D6,h1]⟩,by simpa[jg,D6,h1] using h3,h4⟩;rw[hf];simp only[Option.map_some,h2,Option.getD_some]
    have out:∀V:Value,aL Z w vk ((jg kk x es).getD (nX vk)) V.cells.toList→JV vk.isAgg V→aC Z ψ h w (cond ok (AV.ns [cp vk ((jg kk x es).getD (nX vk)),.bool (jg kk x es).isSome]) (cp vk ((jg kk x es).getD (nX vk)))) (if ok then .tuple #[V,.bool (jg kk x es).isSome] else V):=by
     intro V h1 h2;have h3:aC Z ψ h w (cp vk ((jg kk x es).getD (nX vk))) V:=lO h1 h2.1 h2.2
     cases ok with
     |false=>exact h3
     |true=>simp only[cond_true,if_true,aC,aq];exact⟨_,rfl,V,[.bool (jg kk x es).isSome],by simp,h3,_,[],rfl,rfl,rfl⟩
    obtain⟨A,rfl,hA⟩:=L7 g bE hm hv;rcases hA with⟨rfl,rfl⟩|⟨r,b5,clock,rfl,h3,h4⟩
    ·obtain⟨V,h5,h6,h7⟩:=fin [] ⟨rfl,fun i x e h=>by simp at h⟩;refine⟨_,_,rfl,?_,out V h6 h7⟩;simp only[Instr.lookup,Sem.run_bind,run_underlying hu,Result.andThen_ok,Sem.run_pure,K.check Z w x v _ Km oZ];rcases h5 with⟨j,h8,h9⟩|⟨h8,h9,nF⟩
     ·simp[h8,h9]
     ·simp[h8,h9,nF]
    ·obtain⟨V,h5,h6,h7⟩:=fin b5.toList h4;refine⟨_,_,rfl,?_,out V h6 h7⟩;simp only[Instr.lookup,Sem.run_bind,run_underlying hu,Result.andThen_ok,Sem.run_pure,MapKept.run_getObj_map h3,K.check Z w x v _ Km oZ];rcases h5 with⟨j,h8,h9⟩|⟨h8,h9,nF⟩
     ·simp[h8,h9]
     ·simp[h8,h9,nF]
   ·cases he
  ·cases he
 ·cases he
end Go.Vs
namespace Go.Vs
variable {P:Program} {Z Z':Nat→Prop} {ψ ψ':Nat→Value} {h h':Hp} {w w':World} {B0:Nat} {O:Nat→Prop} {N:Nat→Prop}
theorem wT{r b:Nat}(o:Obj)(bw:r≠b):(w.heap.setIfInBounds r o)[b]? = w.heap[b]? := by rw[Array.getElem?_setIfInBounds];simp[bw]
theorem dg.afx{r:Nat}(ho:Own ψ h r)(o:Obj):dg ψ h w { w with heap:=w.heap.setIfInBounds r o } :=⟨rfl,rfl,rfl,by simp,fun b _ hb=>wT o (fun e=>hb (e▸ho))⟩
theorem rX{hp:Hp}(g:Good Z ψ hp w B0 O){id:Nat}(bS:hp id≠none){r:Nat}(hr:ob (ψ id)=some r)(aF:r<w.heap.size)(o:Obj){ok:OK}{x:ok.T} (hx:∀w':World,w'.heap=w.heap.setIfInBounds r o→cy Z w w'→jH Z w' ok (ψ id) x) :
  Next Z ψ hp w B0 O N Z ψ (eu hp id (some (.own ok x))) { w with heap:=w.heap.setIfInBounds r o }:=by
 have ho:Own ψ hp r:=⟨id,bS,hr⟩;have kk:=dg.afx (w:=w) ho o;refine g.write id bS kk (fun b hb _=>wT o (fun e=>hb (by rw[hr,e]))) _ (fun _ _ he=>by cases he) (fun ZF x' he=>?_)
 cases he
 exact hx _ rfl (kk.same g)
theorem yz{l:List MapEntry}{i:Nat}{f:MapEntry→MapEntry}(hf:∀e,(f e).born=e.born):(l.modify i f).map (·.born)=l.map (·.born):=by
 apply aeN;intro j;simp only[List.getElem?_map,List.getElem?_modify]
 cases l[j]? with
 |none=>rfl
 |some e=>simp only[Option.map_some];split<;>simp[hf]
theorem wU{l:List MapEntry}:l.Pairwise (fun a b=>a.born≠b.born)↔(l.map (·.born)).Pairwise (·≠·):=by rw[List.pairwise_map]
theorem u4{Eqs:TypeId→Option K}(Dl:∀t k,Eqs t=some k→lQ P t k){hh:Heap}(g:Good Z ψ hh.get w B0 O){t:TypeId}{m i v:AV}{u1 u2 u3:Value}{e:bL} (hm:aC Z ψ hh.get w m u1) (hi:aC Z ψ hh.get w i u2) (hv:aC Z ψ hh.get w v u3) (he:iK P Eqs hh t m i v some=some e) :
  ∃hw w' Z',e=.wr (.ns []) hw∧(Instr.mapUpdate t u1 u2 u3).run P w=.ok () w'∧Next Z ψ hh.get w B0 O N Z' ψ hw.get w':=by
 unfold iK at he
 split at he
 ·rename_i ka va id ZG
  split at he
  ·rename_i kk vk es hg
   split at he
   ·rename_i hc;obtain⟨rfl,rfl⟩:=hc
    split at he
    ·rename_i x y hx hy qU
     cases he
     obtain⟨a,b,hu,hk,_⟩:=tU ZG;have K:=wS Dl hk;obtain⟨Km,oZ⟩:=Kl g (fun _ _ h=>h) K.flat hx hi;simp only[aC]at hm;have X3:=hm.2 (by rw[hg];simp);obtain⟨r,b5,clock,h1,h2,h3,h4,h5⟩:=g.row id (.map kk vk) es hg;rw[h1]at X3;subst X3;have bS:AV.bK id∉v.cells:=fun hc=>by have:=adK.1 qU _ hc;simp at this
     have gd:=iA g v.cells;have hgd:(cM hh v.cells).get id=some (.own (.map kk vk) es):=by rw[pf _ _ _ bS];exact hg
     obtain⟨tc,yq,hv3⟩:=tT (Z':=qB Z ψ hh.get v.cells) g (fun b hb=>.inl hb) (fun id b h1 h2 h3=>.inr ⟨id,h1,h2,h3⟩) hy hv;have aar:aL (qB Z ψ hh.get v.cells) w kk x u2.cells.toList:=Km.flat K.flat;have aF:=(acr.1 h2).1;have mE:ob (ψ id)=some r:=by rw[h1];rfl
     have hE:kj (qB Z ψ hh.get v.cells) w kk vk es b5.toList:=kj.mono h3 (fun b hb=>.inl hb) (cy.refl _ _);have hf:=K.find Z w x u2 b5.toList (es.map (·.1)) Km oZ (kj.keys h3);rw[A1]at hf;have fin:∀(o:Obj) (Qd:List (kk.T×vk.T)) (mR:Array MapEntry) (A2:Nat),o=.map mR A2→kj (qB Z ψ hh.get v.cells) w kk vk Qd mR.toList→(mR.toList.map (·.born)).Pairwise (·≠·)→(∀e∈mR.toList,e.born<A2) → Next Z ψ hh.get w B0 O N (qB Z ψ hh.get v.cells) ψ ((cM hh v.cells).set id (.own (.map kk vk) Qd)).get { w with heap:=w.heap.setIfInBounds r o }:=by rintro o Qd mR A2 rfl h6 h7 h8;rw[mQ];have n:=rX (N:=N) gd (by rw[hgd];simp) mE aF (.map mR A2) (ok:=.map kk vk) (x:=Qd) (fun w' Kn sm=>⟨r,mR,A2,h1,by rw[Kn];simp[aF],kj.mono h6 (fun _ h=>h) sm,wU.2 h7,h8⟩);exact n.drop (fun b hb=>.inl hb) (fun b hb=>hb.imp (fun h=>h) (fun⟨i,_,h5,h6⟩=>⟨i,h5,h6⟩)) (ep _ _)
     cases D6:tH kk x es with
     |none =>
      rw[D6]at hf;refine⟨_,{ w with heap:=w.heap.setIfInBounds r (.map (b5.push { key:=u2,val:=u3,born:=clock }) (clock+1)) },qB Z ψ hh.get v.cells,rfl,?_,?_⟩
      rotate_left
      ·rw[show mI kk x y es=es++[(x,y)] by simp[mI,D6]];refine fin _ _ (b5.push { key:=u2,val:=u3,born:=clock }) (clock+1) rfl ?_ ?_ ?_
       ·rw[Array.toList_push];exact hE.push ⟨⟨aar,oZ⟩,tc,yq,hv3⟩
       ·rw[Array.toList_push,List.map_append,List.pairwise_append];refine⟨wU.1 h4,by simp,fun a ha b hb=>?_⟩;simp only[List.map_cons,List.map_nil,List.mem_singleton]at hb;obtain⟨e,he,rfl⟩:=adE.1 ha;have:=h5 e he;omega
       ·intro e he;rw[Array.toList_push]at he;rcases ac8.1 he with he|he
        ·have:=h5 e he;omega
        ·simp only[List.mem_singleton]at he;subst he;exact Nat.lt_succ_self _
      ·simp only[Instr.mapUpdate,Sem.run_bind,run_underlying hu,Result.andThen_ok,MapKept.run_getObj_map h2,K.check Z w x u2 _ Km oZ,hf,Option.map_none,MapKept.run_setObj_map _ h2]
     |some j =>
      rw[D6]at hf;have hj:=Ft D6;obtain⟨e0,WB,heq⟩:=UI D6;have JW:j<b5.toList.length:=by rw[←h3.1];exact hj
      have hl:b5.toList[j]? = some b5.toList[j]:=aaY JW;have Uf:b5[j]? = some b5.toList[j]:=by rw[←hl];simp
      obtain⟨⟨aas,afy⟩,_⟩:=h3.2 j _ _ WB hl;have sX:b5.toList[j].key=u2:=by refine NB afy oZ ?_;rw[←(zP kk x e0.1 K.flat).1 heq]at aas;exact pn K.flat aas Km
      have WC:(Instr.keyThatStays u2 u2).run P w=.ok u2 w:=by simp[Instr.keyThatStays,Qa K.flat Km oZ]
      refine⟨_,{ w with heap:=w.heap.setIfInBounds r (.map (b5.modify j fun e=>{ e with key:=u2,val:=u3 }) clock) },qB Z ψ hh.get v.cells,rfl,?_,?_⟩
      rotate_left
      ·rw[show mI kk x y es=es.set j (x,y) by simp[mI,D6]];refine fin _ _ (b5.modify j fun e=>{ e with key:=u2,val:=u3 }) clock rfl ?_ ?_ ?_
       ·rw[Array.toList_modify];exact hE.set j (fun e he=>⟨⟨aar,oZ⟩,tc,yq,hv3⟩)
       ·rw[Array.toList_modify,yz (f:=fun e:MapEntry=>{ e with key:=u2,val:=u3 }) (fun _=>rfl)];exact wU.1 h4
       ·intro e he;have:e.born∈(b5.modify j fun e=>{ e with key:=u2,val:=u3 }).toList.map (·.born):=adE.2 ⟨e,he,rfl⟩;rw[Array.toList_modify,yz (f:=fun e:MapEntry=>{ e with key:=u2,val:=u3 }) (fun _=>rfl)]at this;obtain⟨e',XW,h6⟩:=adE.1 this;rw[←h6];exact h5 e' XW
      ·simp only[Instr.mapUpdate,Sem.run_bind,run_underlying hu,Result.andThen_ok,MapKept.run_getObj_map h2,K.check Z w x u2 _ Km oZ,hf,Option.map_some,Uf,Option.getD_some,sX,WC,MapKept.run_setObj_map _ h2]
    ·cases he
   ·cases he
  ·cases he
 ·cases he
theorem u5{Eqs:TypeId→Option K}(Dl:∀t k,Eqs t=some k→lQ P t k){hh:Heap}(g:Good Z ψ hh.get w B0 O){t ty:TypeId}{ts:List TypeId}{m i:AV}{u1 u2:Value}{e:bL} (hm:aC Z ψ hh.get w m u1) (hi:aC Z ψ hh.get w i u2) (he:oa P Eqs hh t m i some=some e) :
  ∃hw w',e=.wr (.ns []) hw∧(Builtin.delete_ (t::ts).toArray ty #[u1,u2]).run P w=.ok (.tuple #[]) w'∧Next Z ψ hh.get w B0 O N Z ψ hw.get w':=by
 unfold oa at he
 split at he
 ·rename_i ka va id ZG
  split at he
  ·rename_i kk vk es hg
   split at he
   ·rename_i hc;obtain⟨rfl,rfl⟩:=hc
    split at he
    ·rename_i x hx
     cases he
     obtain⟨a,b,hu,hk,_⟩:=tU ZG;have K:=wS Dl hk;obtain⟨Km,oZ⟩:=Kl g (fun _ _ h=>h) K.flat hx hi;simp only[aC]at hm;have X3:=hm.2 (by rw[hg];simp);obtain⟨r,b5,clock,h1,h2,h3,h4,h5⟩:=g.row id (.map kk vk) es hg;rw[h1]at X3;subst X3;have aF:=(acr.1 h2).1;have mE:ob (ψ id)=some r:=by rw[h1];rfl
     have hf:=K.find Z w x u2 b5.toList (es.map (·.1)) Km oZ (kj.keys h3);rw[A1]at hf;have fin:∀(o:Obj) (Qd:List (kk.T×vk.T)) (mR:Array MapEntry),o=.map mR clock→kj Z w kk vk Qd mR.toList→mR.toList.Sublist b5.toList → Next Z ψ hh.get w B0 O N Z ψ (hh.set id (.own (.map kk vk) Qd)).get { w with heap:=w.heap.setIfInBounds r o }:=by rintro o Qd mR rfl h6 h7;rw[mQ];exact rX (N:=N) g (by rw[hg];simp) mE aF (.map mR clock) (ok:=.map kk vk) (x:=Qd) (fun w' Kn sm=>⟨r,mR,clock,h1,by rw[Kn];simp[aF],kj.mono h6 (fun _ h=>h) sm,h4.sublist h7,fun e he=>h5 e (h7.subset he)⟩)
     cases D6:tH kk x es with
     |none =>
      rw[D6]at hf;refine⟨_,{ w with heap:=w.heap.setIfInBounds r (.map b5 clock) },rfl,?_,?_⟩
      rotate_left
      ·rw[show PS kk x es=es by simp[PS,D6]];exact fin _ _ b5 rfl h3 (List.Sublist.refl _)
      ·simp[Builtin.delete_,run_underlying hu,MapKept.run_getObj_map h2,K.check Z w x u2 _ Km oZ,hf,MapKept.run_setObj_map _ h2]
     |some j =>
      rw[D6]at hf;have hj:=Ft D6;refine⟨_,{ w with heap:=w.heap.setIfInBounds r (.map (b5.eraseIdxIfInBounds j) clock) },rfl,?_,?_⟩
      rotate_left
      ·rw[show PS kk x es=es.eraseIdx j by simp[PS,D6]];refine fin _ _ (b5.eraseIdxIfInBounds j) rfl ?_ ?_
       ·rw[Array.toList_eraseIdxIfInBounds];exact kj.erase h3 j
       ·rw[Array.toList_eraseIdxIfInBounds];exact List.eraseIdx_sublist _ _
      ·simp[Builtin.delete_,run_underlying hu,MapKept.run_getObj_map h2,K.check Z w x u2 _ Km oZ,hf,MapKept.run_setObj_map _ h2]
    ·cases he
   ·cases he
  ·cases he
 ·cases he
theorem Ko{hh:Heap}(g:Good Z ψ h w B0 O)(bE:∀id o,hh.get id=some o→h id=some o){t ty:TypeId}{x:AV}{u:Value}{e:bL}(ht:J7 P t=true)(hx:aC Z ψ h w x u)(he:wL hh x some=some e) :
  ∃n:Nat,e=.val (.int .i64 (n:Int))∧(Builtin.len_ #[t] ty #[u]).run P w=.ok (.int .i64 (n:Int)) w:=by
 unfold wL at he
 split at he
 ·rename_i kk vk es hv
  cases he
  have hu:∃a b,P.underlying t=some (.map a b):=by
   unfold J7 at ht
   split at ht
   ·exact⟨_,_,by assumption⟩
   ·cases ht
  obtain⟨a,b,hu⟩:=hu;obtain⟨A,rfl,hA⟩:=L7 g bE hx hv;rcases hA with⟨rfl,rfl⟩|⟨r,b5,clock,rfl,h3,h4⟩
  ·exact⟨0,rfl,by simp[Builtin.len_,run_underlying hu,goInt]⟩
  ·refine⟨es.length,rfl,?_⟩;have:b5.size=es.length:=by rw[h4.1];simp
   simp[Builtin.len_,run_underlying hu,MapKept.run_getObj_map h3,goInt,this]
 ·cases he
theorem A3(g:Good Z ψ h w B0 O)(hB:B0≤w.heap.size)(id:Nat)(hN:N id){ok:OK}{x:ok.T}{v:Value}(o:Obj)(ho:jH Z (w.alloc o) ok v x)(hb:ob v=some w.heap.size) (bz:∀i ty cs,h i=some (.box ty cs)→aG (fun i=>i≠id) cs):Next Z ψ h w B0 O N Z (eu ψ id v) (eu h id (some (.own ok x))) (w.alloc o) :=Hg g hB id hN (dg.alloc _ _ _ _) (fun b hb=>heap_alloc_old w _ (g.bT hb)) ho (fun b zR=>by rw[hb]at zR;cases zR;exact adj _) bz
theorem Dy{Eqs:TypeId→Option K}(g:Good Z ψ h w B0 O)(hB:B0≤w.heap.size){id:Nat}(hN:N id){t:TypeId}{e:bL}(bz:∀i ty cs,h i=some (.box ty cs)→aG (fun i=>i≠id) cs)(he:lx P Eqs id t some=some e) :
  ∃v w' ψ',(Instr.makeMap t none).run P w=.ok v w'∧Next Z ψ h w B0 O N Z ψ' (e.hp h) w'∧aC Z ψ' (e.hp h) w' e.v v:=by
 unfold lx at he
 split at he
 ·rename_i kk vk ZG
  cases he
  refine⟨.map (some w.heap.size),w.alloc (.map #[] 0),eu ψ id (.map (some w.heap.size)),rfl,?_,?_⟩
  ·simp only[bL.hp];rw[iB];exact A3 g hB id hN (ok:=.map kk vk) (x:=[]) _ ⟨w.heap.size,#[],0,rfl,heap_alloc_new _ _,⟨rfl,fun i x e h=>by simp at h⟩,by simp,by simp⟩ rfl bz
  ·simp only[bL.v,bL.hp,aC];exact⟨⟨rfl,rfl⟩,fun _=>(bA _ _ _).symm⟩
 ·cases he
theorem Fv(g:Good Z ψ h w B0 O)(hB:B0≤w.heap.size){id:Nat}(hN:N id){t:TypeId}{x:AV}{u:Value}{e:bL}(hx:aC Z ψ h w x u)(bz:∀i ty cs,h i=some (.box ty cs)→aG (fun i=>i≠id) cs)(he:oc P id t x some=some e) :
  ∃v w' ψ',(Instr.range t u).run P w=.ok v w'∧Next Z ψ h w B0 O N Z ψ' (e.hp h) w'∧aC Z ψ' (e.hp h) w' e.v v:=by
 unfold oc at he
 split at he
 ·rename_i sv hu
  cases he
  simp only[aC]at hx;subst hx;refine⟨.pointer (some ⟨w.heap.size,0,none⟩),w.alloc (.stringIter sv 0),eu ψ id (.pointer (some ⟨w.heap.size,0,none⟩)),?_,?_,?_⟩
  ·simp only[Instr.range,Sem.run_bind,run_underlying hu,Result.andThen_ok,Sem.run_pure];rfl
  ·simp only[bL.hp];rw[iB];exact A3 g hB id hN (ok:=.nW) (x:=(sv,0)) _ ⟨w.heap.size,rfl,heap_alloc_new _ _⟩ rfl bz
  ·simp only[bL.v,bL.hp,aC];exact⟨⟨rfl,rfl⟩,fun _=>(bA _ _ _).symm⟩
 ·cases he
theorem gm{r:Nat}{o:Obj}(hb:w.heap[r]? = some o)(hc:∀c e f,o≠.cells c e f):(getObj r).run P w=.ok o w:=by cases o<;>first|(exact absurd rfl (hc _ _ _))|simp[getObj,Sem.run,hb]
theorem A4{r:Nat}{o o':Obj}(hb:w.heap[r]? = some o)(hc:∀c e f,o≠.cells c e f):(setObj r o').run P w=.ok () { w with heap:=w.heap.setIfInBounds r o' }:=by cases o<;>first|(exact absurd rfl (hc _ _ _))|simp[setObj,Sem.run,hb]
theorem Hu{hh:Heap}(g:Good Z ψ h w B0 O)(bE:∀id o,hh.get id=some o→h id=some o){ty:TypeId}{x:AV}{u:Value}{e:bL}(hx:aC Z ψ h w x u)(nS:∀v hw,e=.wr v hw→hh.get=h)(he:rM hh x some=some e) :
  ∃v w',(Instr.next u true ty).run P w=.ok v w'∧Next Z ψ h w B0 O N Z ψ (e.hp h) w'∧aC Z ψ (e.hp h) w' e.v v:=by
 unfold rM at he
 split at he
 ·rename_i id
  split at he
  ·rename_i x hg;have AX:=bE _ _ hg;simp only[aC]at hx;have hu:=hx.2 (by rw[AX];simp);obtain⟨r,h1,h2⟩:=g.row id .nW x AX;rw[h1]at hu;subst hu
   cases hc:decide (x.2<x.1.size) with
   |true =>
    rw[hc]at he;cases he;have heq:=nS _ _ rfl;simp only[decide_eq_true_eq]at hc;have aF:=(acr.1 h2).1;refine⟨.tuple #[.bool true,goInt x.2,.int .i32 (Utf8.decode x.1 x.2).1],{ w with heap:=w.heap.setIfInBounds r (.stringIter x.1 (x.2+(Utf8.decode x.1 x.2).2)) },?_,?_,?_⟩
    ·simp only[Instr.next,Sem.run_bind,gm h2 (by simp),Result.andThen_ok,hc,if_true,A4 h2 (by simp),Sem.run_pure]
    ·simp only[bL.hp];rw[mQ,heq];exact rX (N:=N) g (by rw[AX];simp) (by rw[h1];rfl) aF _ (ok:=.nW) (x:=(x.1,x.2+AB x.1 x.2)) (fun w' Kn _=>⟨r,h1,by rw[Kn];simp[aF,AB]⟩)
    ·simp only[bL.v,aC,aq];exact⟨_,rfl,_,_,rfl,rfl,_,_,rfl,rfl,_,_,rfl,rfl,rfl⟩
   |false =>
    rw[hc]at he;cases he;simp only[decide_eq_false_iff_not]at hc;refine⟨.tuple #[.bool false],w,?_,Next.refl g,?_⟩
    ·simp only[Instr.next,Sem.run_bind,gm h2 (by simp),Result.andThen_ok,hc,if_false,Sem.run_pure]
    ·simp only[bL.v,aC,aq];exact⟨_,rfl,_,_,rfl,rfl,rfl⟩
  ·cases he
 ·cases he
theorem find_born{l:List MapEntry}(h:l.Pairwise (fun a b=>a.born≠b.born)){e:MapEntry}(he:e∈l):l.find? (fun x=>x.born==e.born)=some e:=by
 induction l with
 |nil=>cases he
 |cons a r ih =>
  obtain⟨h1,h2⟩:=List.pairwise_cons.1 h;rw[List.find?_cons];rcases acp.1 he with rfl|he
  ·simp
  ·have:(a.born==e.born)=false:=by simpa using h1 e he
   rw[this];exact ih h2 he
theorem Hv{hh:Heap}(g:Good Z ψ h w B0 O)(bE:∀id o,hh.get id=some o→h id=some o){x:AV}{u:Value}{e:bL}(hx:aC Z ψ h w x u)(he:rN hh x some=some e) :
  ∃y v,e=.val y∧(Instr.entry u).run P w=.ok v w∧aC Z ψ h w y v:=by
 unfold rN at he
 split at he
 ·rename_i id
  split at he
  ·rename_i kk vk c rest hg
   cases he
   have AX:=bE _ _ hg;simp only[aC]at hx;have hu:=hx.2 (by rw[AX];simp);obtain⟨r,m,since,seen,b5,clock,h1,h2,h3,h4,h5,h6,h7,h8,h9⟩:=g.row id (.iter kk vk) (some c,rest) AX;rw[h1]at hu;subst hu;obtain⟨en,nF,zq,JX⟩:=h9;obtain⟨⟨k1,k2,k3⟩,v1,v2,v3⟩:=JX.2 0 c en rfl rfl;refine⟨_,.tuple #[en.key,en.val],rfl,?_,?_⟩
   ·have hf:b5.find? (·.born==en.born)=some en:=by
     have:=find_born h5 nF
     rwa [←Array.find?_toList]
    simp only[Instr.entry,Sem.run_bind,gm h2 (by simp),Result.andThen_ok,zq,Sem.run_pure,gm h4 (by simp),hf];simp
   ·simp only[aC,aq];exact⟨_,rfl,_,_,rfl,lO k1 k2 k3,_,_,rfl,lO v1 v2 v3,rfl⟩
  ·cases he
 ·cases he
mutual
theorem aM.imp{p q:Nat→Prop}(A5:∀i,p i→q i):∀{a:AV},aM p a→aM q a
 |.no,_=>by simp only[aM]
 |.bool b,_=>by simp only[aM]
 |.int k n,_=>by simp only[aM]
 |.str s,_=>by simp only[aM]
 |.la,_=>by simp only[aM]
 |.fZ,_=>by simp only[aM]
 |.ref id s i off,h=>by simp only[aM]at h ⊢;exact A5 _ h
 |.fp k x off,_=>by simp only[aM]
 |.sl ex k xs,_=>by simp only[aM]
 |.mp kk vk es,_=>by simp only[aM]
 |.bK id,h=>by simp only[aM]at h ⊢;exact A5 _ h
 |.fn f cap,h=>by simp only[aM]at h ⊢;exact aG.imp A5 h
 |.agg cs,h=>by simp only[aM]at h ⊢;exact aG.imp A5 h
 |.ns cs,h=>by simp only[aM]at h ⊢;exact aG.imp A5 h
theorem aG.imp{p q:Nat→Prop}(A5:∀i,p i→q i):∀{a:List AV},aG p a→aG q a
 |[],_=>by simp only[aG]
 |a::r,h=>by simp only[aG]at h ⊢;exact⟨aM.imp A5 h.1,aG.imp A5 h.2⟩
end
theorem aM.cells{p:Nat→Prop}{a:AV}(h:aM p a):aG p a.cells:=by
 cases a with
 |agg cs=>simpa only[AV.cells,aM] using h
 |_=>simp only[AV.cells,aG];exact⟨h,trivial⟩
theorem A6:∀{cs:List AV},G9 cs=true→∀id,AV.bK id∉cs
 |[],_,id=>by simp
 |c::r,hn,id=>by
  intro hm
  cases c with
  |bK i=>simp[G9]at hn
  |_ =>
   simp only[G9]at hn;rcases acp.1 hm with e|hm
   ·cases e
   ·exact A6 hn id hm
theorem qW:∀{vs:List AV},qF vs=true→∀v∈vs,∀id,AV.bK id∉v.cells
 |[],_,v,hv=>by simp at hv
 |a::r,hn,v,hv=>by
  simp only[qF,Bool.and_eq_true]at hn;rcases acp.1 hv with rfl|hv
  ·exact A6 hn.1
  ·exact qW hn.2 v hv
def u6(o:Oper):Bool :=match o.op with
 |.call { callee:=.value _,.. }=>true
 |_=>false
theorem Kp{s:List (Nat×AV)}{ρC:Operand→Value}{x:Option Operand}(hx:∀y,x=some y→aC Z ψ h w (ρ s y) (ρC y)):eI Z ψ h w (x.map (ρ s)) (x.map ρC):=by
 cases x with
 |none=>trivial
 |some y=>exact hx y rfl
theorem A7{s:List (Nat×AV)}{ρC:Operand→Value}:∀(ps:List (Nat×Operand)),(∀p∈ps,aC Z ψ h w (ρ s p.2) (ρC p.2))→(∀p∈ps,ρ s p.2≠.no)→s5 Z ψ h w (ps.map fun p=>(p.1,ρ s p.2)) (ps.map fun p=>(p.1,ρC p.2))
 |[],_,_=>trivial
 |p::r,h1,h2=>⟨rfl,h2 p (by simp),h1 p (by simp),A7 r (fun q hq=>h1 q (acm _ hq)) (fun q hq=>h2 q (acm _ hq))⟩
theorem D7{k:K}{hh:Heap}:∀{ps:List (Nat×AV)} {i:Nat} {xs:List k.T},qK k hh i ps=some xs→∀p∈ps,p.2≠.no
 |[],_,_,_,p,hp=>by simp at hp
 |(j,v)::r,i,xs,hl,p,hp=>by
  simp only[qK]at hl
  split at hl
  ·split at hl
   ·rename_i x ys h1 h2;rcases acp.1 hp with rfl|hp
    ·exact D3 h1
    ·exact D7 h2 p hp
   ·cases hl
  ·cases hl
theorem X4{α:Type}{l:List α}(h:l.length=0+1+1):∃x y,l=[x,y]:=by
 cases l with
 |nil=>simp at h
 |cons a r=>cases r with
  |nil=>simp at h
  |cons b s=>cases s with
   |nil=>exact⟨a,b,rfl⟩
   |cons c q=>simp at h
theorem Kq{a:AV}(h:Ww a=true):a≠.no:=by rintro rfl;cases h
section
variable {Eqs:TypeId→Option K} {Sg:FuncId→Option aS} {F:(f:FuncId)→(g:aS)→g.A→Option g.B}
theorem Fw{hh:Heap}{ρC:Operand→Value}{o:Oper}(g:Good Z ψ h w B0 O)(hB:B0≤w.heap.size)(bE:∀id o,hh.get id=some o→h id=some o){id:Nat}(hN:N id){t:TypeId}{s x:AV}{u v:Value}{e:bL} (hs:aC Z ψ h w s u) (hx:aC Z ψ h w x v) (Fx:aM (fun i=>¬N i) s) (bz:∀i ty cs,h i=some (.box ty cs)→aG (fun i=>¬N i) cs) (nS:∀v hw,e=.wr v hw→hh.get=h) (he:n6 P hh id t s x some=some e) (dz:∀V w',(Builtin.append_ #[t,t] o.type #[u,v]).run P w=.ok V w'→(execOp ρC o).run P w=.ok (.value V) w'):g6 P ρC o Z ψ h w B0 O N e:=by
 have Ug:∀i ty cs,h i=some (.box ty cs)→aG (fun i=>i≠id) cs:=fun i ty cs hb=>(bz i ty cs hb).imp (fun j hj e=>hj (by rw[e];exact hN));unfold n6 at he
 split at he
 ·cases he
 ·rename_i et het;have ht:=nK het
  split at he
  ·cases he
  ·rename_i kk UJ
   split at he
   ·rename_i ys NC mF;obtain⟨inf,z,JU⟩:=cv mF
    split at he
    ·
     cases hc:aN 0 ys.length with
     |false=>rw[hc]at he;cases he
     |true =>rw[hc]at he;cases he;simp only[aN,decide_eq_true_eq]at hc;simp only[aC]at hs;subst hs;obtain⟨V,w',h1,h2,h3⟩:=qn (P:=P) (ty:=o.type) g bE hB hN ht JU NC hx (by omega) Ug;refine⟨V,w',Z,_,.inl (dz V w' h1),by simp only[bL.hp];rw[iB];exact h2,?_⟩;simp only[bL.v,bL.hp,aC];exact⟨h3,fun _=>(bA _ _ _).symm⟩
    ·
     rename_i cV
     split at he
     ·rename_i e' k' xs hg
      split at he
      ·rename_i hc;obtain⟨rfl,rfl⟩:=hc
       cases oY:aN xs.length ys.length with
       |false=>rw[oY]at he;cases he
       |true =>rw[oY]at he;cases he;simp only[aN,decide_eq_true_eq]at oY;have heq:=nS _ _ rfl;have AX:=bE _ _ hg;simp only[aC]at hs;have hu:=hs.2 (by rw[AX];simp);subst hu;simp only[aM]at Fx;obtain⟨V,w',h1,h2,h3⟩:=zr (P:=P) (ty:=o.type) g bE hB hN (fun e=>Fx (by rw[e];exact hN)) ht JU AX NC hx oY Ug;refine⟨V,w',Z,_,.inl (dz V w' h1),by simp only[bL.hp];rw[mQ,uY,heq];exact h2,?_⟩;simp only[bL.v,bL.hp,aC];exact⟨h3,fun _=>(bA _ _ _).symm⟩
      ·cases he
     ·cases he
    ·
     rename_i ex k' xs
     split at he
     ·rename_i hc;subst hc
      cases oY:(ex&&((!ys.isEmpty || xs.isEmpty)&&aN xs.length ys.length)) with
      |false=>rw[oY]at he;cases he
      |true =>rw[oY]at he;cases he;simp only[Bool.and_eq_true,Bool.or_eq_true,aN,decide_eq_true_eq,Bool.not_eq_true',List.isEmpty_eq_false_iff,List.isEmpty_iff]at oY;obtain⟨rfl,bw,UK⟩:=oY;obtain⟨V,w',h1,h2,h3⟩:=AR (P:=P) (ty:=o.type) g bE hB hN ht JU hs NC hx (bw.imp List.length_pos_iff.2 (fun h=>h)) UK Ug;refine⟨V,w',Z,_,.inl (dz V w' h1),by simp only[bL.hp];rw[iB];exact h2,?_⟩;simp only[bL.v,bL.hp,aC];exact⟨h3,fun _=>(bA _ _ _).symm⟩
     ·cases he
    ·cases he
   ·cases he
theorem A8{ρC:Operand→Value}{o:Oper}(g:Good Z ψ h w B0 O)(hB:B0≤w.heap.size){id:Nat}(hN:N id){t:TypeId}{vs:List AV}{us:Array Value}{e:bL}(hr:aq Z ψ h w vs us.toList)(h1:∀u∈us.toList,u.oneCell'=true) (hm:aG (fun i=>¬N i) vs) (bz:∀i ty cs,h i=some (.box ty cs)→aG (fun i=>¬N i) cs) (he:wO id t vs some=some e) (dz:(execOp ρC o).run P w=.ok (.value (.pointer (some ⟨w.heap.size,0,none⟩))) (w.alloc (.cells us t))):g6 P ρC o Z ψ h w B0 O N e:=by
 unfold wO at he
 cases he
 have bw:∀i,¬N i→i≠id:=fun j hj e=>hj (by rw[e];exact hN);have n:=AM (N:=N) g hB id t hN hr h1 (fun i ty cs hb=>(bz i ty cs hb).imp bw) (hm.imp bw);refine⟨_,_,Z,_,.inl dz,by simp only[bL.hp];rw[iB];exact n,?_⟩;simp only[bL.v,bL.hp,aC];exact⟨_,rfl,fun _=>by rw[bA];simp[Uz]⟩
theorem ND{hh:Heap}{ρC:Operand→Value}{s:List (Nat×AV)}{o:Oper}(g:Good Z ψ h w B0 O)(hB:B0≤w.heap.size)(bE:∀id o,hh.get id=some o→h id=some o){id:Nat}(hN:N id){t:TypeId}{n:Nat}{ps:Array (Nat×Operand)}{e:bL} (nT:∀p∈ps.toList,aC Z ψ h w (ρ s p.2) (ρC p.2)) (bz:∀i ty cs,h i=some (.box ty cs)→aG (fun i=>¬N i) cs) (kO:Bool) {e0:bL} (UL:e=if kO then Uy e0 else e0) (nS:∀v hw,e=.wr v hw→hh.get=h) (he:uL P hh id t n (ps.toList.map fun p=>(p.1,ρ s p.2)) some=some e0)
  (dz:∀V w',(Instr.buildSlice t n (ps.map fun p=>(p.1,ρC p.2))).run P w=.ok V w'→(execOp ρC o).run P w=.ok (.value V) w'):g6 P ρC o Z ψ h w B0 O N e:=by
 have Ug:∀i ty cs,h i=some (.box ty cs)→aG (fun i=>i≠id) cs:=fun i ty cs hb=>(bz i ty cs hb).imp (fun j hj e=>hj (by rw[e];exact hN));unfold uL at he
 split at he
 ·cases he
 ·rename_i et het;have ht:=nK het
  split at he
  ·cases he
  ·rename_i k hk
   split at he
   ·cases he
   ·cases he
   ·rename_i xs oi mF;obtain⟨inf,z,JU⟩:=cv mF;have Kr:=A7 (Z:=Z) (ψ:=ψ) (h:=h) (w:=w) ps.toList nT (fun p hp=>D7 oi (p.1,ρ s p.2) (adE.2 ⟨p,hp,rfl⟩));have L8:s5 Z ψ hh.get w (ps.toList.map fun p=>(p.1,ρ s p.2)) (ps.map fun p=>(p.1,ρC p.2)).toList:=by rw[Array.toList_map];exact Kr.qx bE
    split at he
    ·rename_i hc;obtain⟨rfl,hn⟩:=hc
     cases qU:qF ((ps.toList.map fun p=>(p.1,ρ s p.2)).map (·.2)) with
     |true =>
      rw[qU]at he;cases he;have afz:=qW qU;obtain⟨V,w',h1,h2,h3⟩:=Hl (P:=P) (N:=N) g (g.sub bE) (fun _ h=>h) hB hN ht JU (fun p hp i b hm=>absurd hm (afz p.2 (adE.2 ⟨p,hp,rfl⟩) i)) L8 oi hn Ug
      cases kO with
      |false =>have UL:e=.new (.bK id) [(id,.own (.row et k) xs)]:=UL;subst UL;refine⟨V,w',Z,_,.inl (dz V w' h1),by simp only[bL.hp];rw[iB];exact h2,?_⟩;simp only[bL.v,bL.hp,aC];exact⟨h3.1,fun _=>(bA _ _ _).symm⟩
      |true =>
       have UL:e=.new (.sl true k xs) []:=UL;subst UL;obtain⟨m1,m2⟩:=P5 g hB h2 h3.2.1 h3.2.2.1 h3.2.2.2;have e1:(bL.new (.sl true k xs) []).hp h=h:=by funext i;simp[bL.hp,Heap.get]
       refine⟨V,w',_,_,.inl (dz V w' h1),by rw[e1];exact m1,?_⟩;rw[e1];exact m2
     |false =>
      rw[qU]at he;cases he;have UL:e=.wr (.bK id) ((id,.own (.row et k) xs)::cM hh ((ps.toList.map fun p=>(p.1,ρ s p.2)).flatMap (·.2.cells))):=by rw[UL];cases kO<;>rfl
      subst UL;have heq:=nS _ _ rfl;subst heq
      let cs:=(ps.toList.map fun p=>(p.1,ρ s p.2)).flatMap (·.2.cells)
      have gd:=iA g cs;obtain⟨V,w',h1,h2,h3⟩:=Hl (P:=P) (N:=N) gd g (fun b hb=>.inl hb) hB hN ht JU (fun p hp i b hm bw hb=>.inr ⟨i,List.mem_flatMap.2 ⟨p,hp,hm⟩,bw,hb⟩) L8 oi hn (fun i ty cs' hb=>Ug i ty cs' (ep _ _ _ _ hb));refine⟨V,w',qB Z ψ hh.get cs,eu ψ id V,.inl (dz V w' h1),?_,?_⟩
      ·simp only[bL.hp];rw[AW];exact h2.drop (fun b hb=>.inl hb) (fun b hb=>hb.imp (fun h=>h) (fun⟨i,_,h5,h6⟩=>⟨i,h5,h6⟩)) (ep _ _)
      ·simp only[bL.v,bL.hp,aC];exact⟨h3.1,fun _=>(bA _ _ _).symm⟩
    ·cases he
theorem NF{kO:Bool}{h:Heap}{id:Nat}{t:TypeId}{n:Nat}{ps:List (Nat×AV)}{e:bL}(he:wP P kO h id t n ps some=some e):∃e0,uL P h id t n ps some=some e0∧e=if kO then Uy e0 else e0:=by
 unfold wP uL at he;unfold uL
 split at he
 ·cases he
 split at he
 ·cases he
 split at he
 ·cases he
 ·cases he
 split at he
 ·rename_i hc;rw[if_pos hc]
  cases qU:qF (ps.map (·.2)) with
  |true=>rw[qU]at he;exact⟨_,rfl,(ac5 he).symm⟩
  |false=>rw[qU]at he;exact⟨_,rfl,(ac5 he).symm⟩
 ·cases he
theorem A9(p:Nat→Prop)(v:Value):aM p (wG v):=by
 cases v with
 |pointer a=>simp only[wG];split<;>simp only[aM]
 |slice a n c=>simp only[wG];split<;>simp only[aM]
 |func fn first cap =>
  cases fn with
  |func f=>simp only[wG];split<;>simp only[aM,aG]
  |_=>simp only[wG,aM]
 |_=>simp only[wG,aM]
theorem wV(p:Nat→Prop):∀vs:List Value,aG p (vs.map wG)
 |[]=>by simp[aG]
 |v::r=>by simp only[List.map_cons,aG];exact⟨A9 p v,wV p r⟩
theorem NG(p:Nat→Prop)(v:Value):aG p (tG v).cells:=by
 cases v with
 |agg cs=>simp only[tG,AV.cells];exact wV p _
 |_=>simp only[tG];rw[D2];simp only[aG];exact⟨A9 p _,trivial⟩
theorem Qe(Dl:∀t k,Eqs t=some k→lQ P t k){hh:Heap}{ρC:Operand→Value}{s:List (Nat×AV)}{o:Oper}(g:Good Z ψ h w B0 O)(hB:B0≤w.heap.size)(bE:∀id o,hh.get id=some o→h id=some o){id:Nat}(hN:makes o.op=true→N id){e:bL} (nT:∀x∈o.op.operands,aC Z ψ h w (ρ s x) (ρC x)) (hm:∀x∈o.op.operands,aM (fun i=>¬N i) (ρ s x)) (bz:∀i ty cs,h i=some (.box ty cs)→aG (fun i=>¬N i) cs) (nS:∀v hw,e=.wr v hw→hh.get=h) (JY:u6 o=false) (he:cY P Eqs Sg F id hh s o some=some e):g6 P ρC o Z ψ h w B0 O N e:=by
 obtain⟨dst,op,type,pos,after,guard⟩:=o;have two:∀{a b:Operand},(∀x∈(#[a,b]:Array Operand),aC Z ψ h w (ρ s x) (ρC x))→aC Z ψ h w (ρ s a) (ρC a)∧aC Z ψ h w (ρ s b) (ρC b):=fun hx=>⟨hx _ (by simp),hx _ (by simp)⟩
 cases op<;>simp only[cY]at he<;>simp only[Op.operands]at nT hm<;>first|(cases he;done)|skip
 case move x=>cases he;exact g6.val g (V:=ρC x) (by simp[execOp]) (nT x (by simp))
 case assign x=>cases he;exact g6.val g (V:=ρC x) (by simp[execOp]) (nT x (by simp))
 case pick c a b =>
  have h1:=nT c (by simp);have h2:=nT a (by simp);have h3:=nT b (by simp)
  split at he
  ·rename_i t ht
   cases he
   rw[ht]at h1;simp only[aC]at h1;refine g6.val g (V:=if t then ρC a else ρC b) (by simp[execOp,h1,asBool]) ?_;unfold Wv
   split
   ·rename_i p q hp hq;rw[hp]at h2;rw[hq]at h3;simp only[aC]at h2 h3 ⊢
    cases t<;>simp[h2,h3]
   ·cases t
    ·exact h3
    ·exact h2
  ·cases he
 case alloc t =>
  split at he
  ·rename_i z hz;obtain⟨i,zv,hi,hzz,rfl,h1⟩:=pj hz;exact A8 (us:=zv.cells) g hB (hN rfl) (AT zv) h1 (NG _ zv) bz he (by simp[execOp,Instr.alloc,uX hi hzz,newVar,newRow,newObj,Sem.run])
  ·cases he
 case box t x =>
  have h1:=nT x (by simp)
  split at he
  ·rename_i hp;have hc:=h1.cells (Hr hp);exact A8 (us:=(ρC x).cells) g hB (hN rfl) hc (tS hp hc) (hm x (by simp)).cells bz he (by simp[execOp,Instr.box,newVar,newRow,newObj,Sem.run])
  ·cases he
 case build t ps =>
  unfold rO at he
  split at he
  ·rename_i z fs hz hf
   split at he
   ·rename_i cs aat eY
    cases he
    simp only[Bool.and_eq_true]at eY;obtain⟨eY,hnn⟩:=eY;have aau:fs.toList.all (fun f=>(P.info? f.type).isSome)=true:=eY;have X5:∀p∈ps.toList,aC Z ψ h w (ρ s p.2) (ρC p.2):=fun p hp=>nT p.2 (by simp;exact⟨p.1,by simpa using hp⟩);have Kr:=A7 (Z:=Z) (ψ:=ψ) (h:=h) (w:=w) ps.toList X5 (fun p hp=>Kq (adK.1 hnn (p.1,ρ s p.2) (adE.2 ⟨p,hp,rfl⟩)));obtain⟨V,h1,h2⟩:=Nu (P:=P) (qs:=ps.map fun p=>(p.1,ρC p.2)) hz hf aau (by rw[Array.toList_map];exact Kr) aat;exact g6.val g (V:=V) (by simp only[execOp,Sem.run_bind];rw[h1];simp) h2
   ·cases he
  ·cases he
 case buildSlice t n ps =>
  have X5:∀p∈ps.toList,aC Z ψ h w (ρ s p.2) (ρC p.2):=fun p hp=>nT p.2 (by simp;exact⟨p.1,by simpa using hp⟩);obtain⟨e0,h0,h1⟩:=NF he;exact ND g hB bE (hN rfl) X5 bz (Wx Sg t _) h1 nS h0 (fun V w' h1=>by simp only[execOp,Sem.run_bind];rw[h1];simp)
 case load t a =>
  obtain⟨x,V,rfl,h1,h2⟩:=tQ g bE (nT a (by simp)) he;exact g6.val g (V:=V) (by simp[execOp,h1]) h2
 case store t a v =>
  obtain⟨h1,h2⟩:=two nT;have hw:∃hw,e=.wr .no hw:=by obtain⟨hw,_,_,h3,_⟩:=yx (P:=P) (N:=N) (g.sub bE) (h1.qx bE) (h2.qx bE) he;exact⟨hw,h3⟩
  obtain⟨hw,rfl⟩:=hw;have heq:=nS _ _ rfl;subst heq;obtain⟨Kn,w',Z',h3,h4,h5⟩:=yx (P:=P) (N:=N) g h1 h2 he
  cases h3
  exact⟨undef,w',Z',ψ,.inr ⟨by simp[execOp,h4],rfl⟩,h5,by simp only[bL.v,aC]⟩
 case nilCheck x =>
  have h1:=nT x (by simp)
  split at he
  ·rename_i id s i off hx
   cases he
   rw[hx]at h1;have h2:=h1;simp only[aC]at h1;obtain⟨a,ha,_⟩:=h1;exact g6.val g (V:=ρC x) (by simp[execOp,ha]) h2
  ·rename_i k y off hx
   cases he
   rw[hx]at h1;have h2:=h1;simp only[aC]at h1;obtain⟨a,us,ha,_⟩:=h1;exact g6.val g (V:=ρC x) (by simp[execOp,ha]) h2
  ·rename_i f cap hx
   cases he
   rw[hx]at h1;have h2:=h1;simp only[aC]at h1;obtain⟨vs,ha,_⟩:=h1;exact g6.val g (V:=ρC x) (by simp[execOp,ha]) h2
  ·cases he
 case binOp op t x y yt =>
  obtain⟨h1,h2⟩:=two nT;obtain⟨r,V,rfl,h3,h4⟩:=Nz Dl (xo:=x) (yo:=y) h1 h2 he;exact g6.val g (V:=V) (by simp only[execOp,Sem.run_bind]at h3 ⊢;rw[h3];simp) h4
 case unOp op t x =>
  have h1:=nT x (by simp)
  cases op<;>simp only at he<;>first|(cases he;done)|skip
  split at he
  ·rename_i b hx
   cases he
   rw[hx]at h1;simp only[aC]at h1;exact g6.val g (V:=.bool (!b)) (by simp[execOp,h1,Op.unary]) (by simp only[aC])
  ·cases he
 case convert src dst x =>
  have h1:=nT x (by simp);unfold AG at he
  split at he
  ·rename_i k1 k2 k3 n hs hd hx
   cases he
   rw[hx]at h1;simp only[aC]at h1;exact g6.val g (V:=.int k2 (k2.wrap n)) (by simp[execOp,h1,convert,run_underlying hs,run_underlying hd,Conv.intToInt]) (by simp only[aC])
  ·rename_i sv hs hd hx
   cases he
   rw[hx]at h1;have h2:=h1;simp only[aC]at h1;exact g6.val g (V:=ρC x) (by simp[execOp,h1,convert,run_underlying hs,run_underlying hd]) h2
  ·cases he
 case makeFunc fn first cap =>
  cases fn<;>simp only at he<;>first|(cases he;done)|skip
  rename_i f
  split at he
  ·rename_i hf
   cases he
   have h0:first=#[]:=aeJ hf
   subst h0;have hl:∀l:List Operand,(∀x∈l,aC Z ψ h w (ρ s x) (ρC x))→aq Z ψ h w (l.map (ρ s)) (l.map ρC):=by
    intro l
    induction l with
    |nil=>intro _;simp[aq]
    |cons a r ih=>intro ha;simp only[List.map_cons,aq];exact⟨_,_,rfl,ha a (by simp),ih (fun x hx=>ha x (acm _ hx))⟩
   exact g6.val g (V:=.func (.func f) #[] (cap.map ρC)) (by simp[execOp,Instr.makeFunc]) (by simp only[aC];exact⟨_,rfl,by rw[Array.toList_map];exact hl _ (fun x hx=>nT x (by simp;simpa using hx))⟩)
  ·cases he
 case slice t x lo hi mx =>
  have h1:=nT x (by simp);have h2:eI Z ψ h w (lo.map (ρ s)) (lo.map ρC):=Kp (fun y hy=>nT y (by subst hy;simp));have h3:eI Z ψ h w (hi.map (ρ s)) (hi.map ρC):=Kp (fun y hy=>nT y (by subst hy;simp));have h4:eI Z ψ h w (mx.map (ρ s)) (mx.map ρC):=Kp (fun y hy=>nT y (by subst hy;simp))
  split at he
  ·rename_i ht;unfold wK at he
   split at he
   ·rename_i sv hx hmx
    split at he
    ·rename_i l u hb
     cases ho:bp sv.size l u with
     |false=>rw[ho]at he;cases he
     |true =>
      rw[ho]at he;cases he;rw[hx]at h1;simp only[aC]at h1;have hm0:mx=none:=by cases mx with
       |none=>rfl
       |some m=>simp at hmx
      subst hm0;have dz:=tR (P:=P) (w:=w) (b:=false) (adj sv.size) h2 h3 (mx:=none) (mx':=none) trivial hb ho (.inl rfl);exact g6.val g (V:=.string (XQ sv l u)) (by simp[execOp,Instr.sliceAt,Instr.slice,run_underlying ht,h1,dz,XQ]) (by simp only[aC])
    ·cases he
   ·cases he
  ·rename_i et ht
   split at he
   ·rename_i X0;obtain⟨V,Z',h5,h6,h7⟩:=Hq (P:=P) (N:=N) g bE ht h1 h2 h3 h4 nS he X0;exact⟨V,w,Z',ψ,.inl (by simp[execOp,h5]),h6,h7⟩
   ·cases he
  ·cases he
 case fieldAddr t x f =>
  have h1:=nT x (by simp)
  split at he
  ·rename_i n ft id sz i off hf hx
   split at he
   ·cases he
   ·rename_i hc
    cases he
    rw[hx]at h1;obtain⟨V,h2,h3⟩:=ta (P:=P) hf hc h1;exact g6.val g (V:=V) (by simp[execOp,h2]) h3
  ·rename_i n ft k y off hf hx
   split at he
   ·cases he
   ·rename_i hc
    cases he
    rw[hx]at h1;obtain⟨V,h2,h3⟩:=uZ (P:=P) hf hc h1;exact g6.val g (V:=V) (by simp[execOp,h2]) h3
  ·cases he
 case field t x f =>
  have h1:=nT x (by simp)
  split at he
  ·rename_i n ft cs hf hx
   split at he
   ·rename_i v hv
    cases he
    rw[hx]at h1;obtain⟨V,h2,h3⟩:=Ho (P:=P) hf h1 hv;exact g6.val g (V:=V) (by simp[execOp,h2]) h3
   ·cases he
  ·cases he
 case indexAddr t x i =>
  obtain⟨h1,h2⟩:=two nT;obtain⟨y,V,rfl,h3,h4⟩:=qo g bE h1 h2 he;exact g6.val g (V:=V) (by simp[execOp,h3]) h4
 case index t x i =>
  obtain⟨h1,h2⟩:=two nT
  split at he
  ·rename_i sv ik n ht hx hi;obtain⟨c,hc,Ud⟩:=adG.1 he
   cases Ud
   rw[hx]at h1;rw[hi]at h2;simp only[aC]at h1 h2;exact g6.val g (V:=.int .u8 (c.toNat:Int)) (by simp[execOp,Instr.index,asIntOf,run_underlying ht,h1,h2,hc]) (by simp only[aC])
  ·cases he
 case extract t i =>
  have h1:=nT t (by simp)
  split at he
  ·rename_i vs hx
   split at he
   ·rename_i v hv
    cases he
    rw[hx]at h1;simp only[aC]at h1;obtain⟨us,hu,hl⟩:=h1;obtain⟨u,h2,h3⟩:=hl.get i hv;exact g6.val g (V:=u) (by simp[execOp,Instr.extract,hu,show us[i]? = some u by simpa using h2]) h3
   ·cases he
  ·cases he
 case makeMap t r =>
  cases r with
  |some r=>cases he
  |none =>simp only at he;have Ug:∀i ty cs,h i=some (.box ty cs)→aG (fun i=>i≠id) cs:=fun i ty cs hb=>(bz i ty cs hb).imp (fun j hj e=>hj (by rw[e];exact hN rfl));obtain⟨V,w',ψ',h1,h2,h3⟩:=Dy g hB (hN rfl) Ug he;exact⟨V,w',Z,ψ',.inl (by simp[execOp,h1]),h2,h3⟩
 case lookup t m i ok =>
  obtain⟨h1,h2⟩:=two nT;obtain⟨y,V,rfl,h3,h4⟩:=Fu Dl g bE h1 h2 he;exact g6.val g (V:=V) (by simp[execOp,h3]) h4
 case mapUpdate t m i v =>
  have h1:=nT m (by simp);have h2:=nT i (by simp);have h3:=nT v (by simp);have hw:∃hw,e=.wr (.ns []) hw:=by obtain⟨hw,_,_,h4,_⟩:=u4 (N:=N) Dl (g.sub bE) (h1.qx bE) (h2.qx bE) (h3.qx bE) he;exact⟨hw,h4⟩
  obtain⟨hw,rfl⟩:=hw;have heq:=nS _ _ rfl;subst heq;obtain⟨Kn,w',Z',h4,h5,h6⟩:=u4 (N:=N) Dl g h1 h2 h3 he
  cases h4
  exact⟨undef,w',Z',ψ,.inr ⟨by simp[execOp,h5],rfl⟩,h6,by simp only[bL.v,aC,aq];exact⟨#[],rfl,rfl⟩⟩
 case range t x =>
  have Ug:∀i ty cs,h i=some (.box ty cs)→aG (fun i=>i≠id) cs:=fun i ty cs hb=>(bz i ty cs hb).imp (fun j hj e=>hj (by rw[e];exact hN rfl));obtain⟨V,w',ψ',h1,h2,h3⟩:=Fv g hB (hN rfl) (nT x (by simp)) Ug he;exact⟨V,w',Z,ψ',.inl (by simp[execOp,h1]),h2,h3⟩
 case next x b =>
  cases b with
  |false=>cases he
  |true =>obtain⟨V,w',h1,h2,h3⟩:=Hu (P:=P) (N:=N) (ty:=type) g bE (nT x (by simp)) nS he;exact⟨V,w',Z,ψ,.inl (by simp[execOp,h1]),h2,h3⟩
 case entry x =>
  obtain⟨y,V,rfl,h1,h2⟩:=Hv (P:=P) g bE (nT x (by simp)) he;exact g6.val g (V:=V) (by simp[execOp,h1]) h2
 case call c =>
  obtain⟨callee,args,argTypes⟩:=c
  cases callee with
  |value f=>simp[u6]at JY
  |invoke r m=>simp only at he;cases he
  |builtin b =>
   have kY:∀x∈args.toList,aC Z ψ h w (ρ s x) (ρC x):=fun x hx=>nT x (by simp only[Call.operands];exact Array.mem_append.2 (.inr (by simpa using hx)));have Qf:∀x∈args.toList,aM (fun i=>¬N i) (ρ s x):=fun x hx=>hm x (by simp only[Call.operands];exact Array.mem_append.2 (.inr (by simpa using hx)));obtain⟨args⟩:=args;obtain⟨argTypes⟩:=argTypes;simp only at he kY Qf
   cases b<;>simp only at he<;>first|(cases he;done)|skip
   case append =>
    split at he
    ·rename_i l1 l2 x y t t'
     split at he
     ·rename_i htt;subst htt;exact Fw g hB bE (hN rfl) (kY x (by simp)) (kY y (by simp)) (Qf x (by simp)) bz nS he (fun V w' h1=>by simp only[execOp,resolve,invoke,builtin,Sem.run_bind,Sem.run_pure,Result.andThen_ok,List.map_toArray,List.map_cons,List.map_nil,h1])
     ·cases he
    ·cases he
   case delete =>
    split at he
    ·rename_i l1 l2 m x t ts;have h1:=kY m (by simp);have h2:=kY x (by simp);have hw:∃hw,e=.wr (.ns []) hw:=by obtain⟨hw,_,h4,_⟩:=u5 (N:=N) (ty:=type) (ts:=ts) Dl (g.sub bE) (h1.qx bE) (h2.qx bE) he;exact⟨hw,h4⟩
     obtain⟨hw,rfl⟩:=hw;have heq:=nS _ _ rfl;subst heq;obtain⟨Kn,w',h4,h5,h6⟩:=u5 (N:=N) (ty:=type) (ts:=ts) Dl g h1 h2 he
     cases h4
     exact⟨.tuple #[],w',Z,ψ,.inl (by simp only[execOp,resolve,invoke,builtin,Sem.run_bind,Sem.run_pure,Result.andThen_ok,List.map_toArray,List.map_cons,List.map_nil,h5]),h6,by simp only[bL.v,aC,aq];exact⟨#[],rfl,rfl⟩⟩
    ·cases he
   case len =>
    split at he
    ·rename_i l1 l2 x t
     split at he
     ·rename_i htm;obtain⟨n,rfl,h1⟩:=Ko (P:=P) (ty:=type) g bE htm (kY x (by simp)) he;exact g6.val g (V:=.int .i64 (n:Int)) (by simp only[execOp,resolve,invoke,builtin,Sem.run_bind,Sem.run_pure,Result.andThen_ok,List.map_toArray,List.map_cons,List.map_nil,h1]) (by simp only[aC])
     split at he
     ·rename_i aF;obtain⟨n,rfl,h1⟩:=Nx g bE (kY x (by simp)) he;refine g6.val g (V:=.int .i64 (n:Int)) ?_ (by simp only[aC]);rcases h1 with⟨sv,h2,h3,rfl⟩|⟨A,c,h3⟩
      ·unfold XR at aF;rw[h2]at aF
       split at aF
       ·rename_i hu _;simp[execOp,resolve,invoke,builtin,Builtin.len_,run_underlying hu,h3,goInt]
       ·cases aF
       ·rename_i h9;exact(h9 _ rfl).elim
       ·cases aF
      ·have hu:∃e,P.underlying t=some (.slice e):=by
        have h4:=kY x (by simp);rw[h3]at h4;unfold XR at aF
        split at aF
        ·rename_i sv _ hxx;rw[hxx]at h4;simp only[aC]at h4;cases h4
        ·cases aF
        ·rename_i e _ hu _;exact⟨_,hu⟩
        ·cases aF
       obtain⟨e,hu⟩:=hu;simp[execOp,resolve,invoke,builtin,Builtin.len_,run_underlying hu,h3,goInt]
     ·cases he
    ·cases he
   all_goals
    unfold Nq at he
    split at he
    ·rename_i k a k' b UM;have hl:=congrArg List.length UM;simp only[List.length_map,List.length_cons,List.length_nil]at hl;obtain⟨x,y,rfl⟩:=X4 hl;simp only[List.map_cons,List.map_nil,List.cons.injEq,and_true]at UM;have h1:=kY x (by simp);have h2:=kY y (by simp);rw[UM.1]at h1;rw[UM.2]at h2;simp only[aC]at h1 h2
     split at he
     ·rename_i hk;subst hk
      cases he
      refine g6.val g (V:=bY (.int _ _)) ?_ (jQ _ _)
      first
       |(simp[execOp,resolve,invoke,builtin,Builtin.max_,Builtin.max2,h1,h2,bY];simp only[Int.max_def];split<;>split<;>omega)
       |(simp[execOp,resolve,invoke,builtin,Builtin.min_,Builtin.min2,h1,h2,bY];simp only[Int.min_def];split<;>split<;>omega)
     ·cases he
    ·cases he
end
end Go.Vs
namespace Go.Vs
variable {P:Program} {Z Z' Zf:Nat→Prop} {ψ ψ':Nat→Value} {h h':Hp} {w w':World} {B0:Nat} {O:Nat→Prop} {N:Nat→Prop}
abbrev yC:=Nat×Option Nat×Ob
def dH(L:List yC):Heap:=L.map fun e=>(e.1,e.2.2)
def jR(ψ:Nat→Value):Option Nat→Value
 |some s=>ψ s
 |none=>.slice none 0 0
def eZ(ψ:Nat→Value):List yC→Nat→Value
 |[],_=>undef
 |(i,s,_)::r,n=>if i=n then jR ψ s else eZ ψ r n
theorem om{L:List yC}{i:Nat}{o:Ob}(hg:(dH L).get i=some o):∃s,(i,s,o)∈L:=by
 induction L with
 |nil=>simp[dH,Heap.get]at hg
 |cons e r ih =>
  obtain⟨j,s,o'⟩:=e;simp only[dH,List.map_cons,Heap.get]at hg
  split at hg
  ·rename_i e;subst e;cases hg;exact⟨s,ac4⟩
  ·obtain⟨s',hs⟩:=ih hg;exact⟨s',acm _ hs⟩
theorem mS{i:Nat}{r:List Nat}(h:cj (i::r)=true):i∉r∧cj r=true:=by simp only[cj,Bool.and_eq_true,Bool.not_eq_true']at h;exact⟨fun hm=>by rw[List.contains_iff_mem.2 hm]at h;simp at h,h.2⟩
theorem iL{L:List yC}(hn:cj (L.map (·.1))=true){i:Nat}{s:Option Nat}{o:Ob}(hm:(i,s,o)∈L):eZ ψ L i=jR ψ s:=by
 induction L with
 |nil=>cases hm
 |cons e r ih =>
  obtain⟨j,s',o'⟩:=e;obtain⟨h1,h2⟩:=mS hn;simp only[eZ];rcases acp.1 hm with he|hm
  ·cases he;simp
  ·rw[if_neg,ih h2 hm];rintro rfl;exact h1 (adE.2 ⟨_,hm,rfl⟩)
theorem UN{L:List yC}(hs:cj (L.filterMap (·.2.1))=true){i j s:Nat}{o o':Ob}(h1:(i,some s,o)∈L)(h2:(j,some s,o')∈L):i=j∧o=o':=by
 induction L with
 |nil=>cases h1
 |cons e r ih =>
  obtain⟨k,s',o''⟩:=e;have mem:∀{k:Nat} {o:Ob},(k,some s,o)∈r→s∈r.filterMap (·.2.1):=fun h=>ae2.2 ⟨_,h,rfl⟩;rw[List.filterMap_cons]at hs
  cases s' with
  |none =>simp only[]at hs;exact ih hs ((acp.1 h1).resolve_left (by simp)) ((acp.1 h2).resolve_left (by simp))
  |some s' =>
   simp only[]at hs;obtain⟨h3,h4⟩:=mS hs;rcases acp.1 h1 with e1|m1<;>rcases acp.1 h2 with e2|m2
   ·cases e1;cases e2;exact⟨rfl,rfl⟩
   ·cases e1;exact absurd (mem m2) h3
   ·cases e2;exact absurd (mem m1) h3
   ·exact ih h4 m1 m2
def Hw:(ok:OK)→ok.T→Prop
 |.row _ _,xs=>xs=[]
 |_,_=>False
theorem Hw.owns:∀{ok:OK} {xs:ok.T},Hw ok xs→jH Z w ok (.slice none 0 0) xs
 |.row ty k,xs,h=>by have h:xs=[]:=h;subst h;exact⟨[],⟨by simp,.inl ⟨rfl,none,rfl⟩⟩,fun i x hx=>by simp at hx⟩
 |.map _ _,_,h=>h.elim
 |.iter _ _,_,h=>h.elim
 |.nW,_,h=>h.elim
def u7(Z:Nat→Prop)(ψ:Nat→Value)(h:Hp)(w:World)(h':Hp)(ψ':Nat→Value):yC→Prop
 |(_,some s,.own ok xs)=>h s=some (.own ok xs)
 |(_,none,.own ok xs)=>Hw ok xs
 |(_,some s,.box ty cs')=>(∃cs,h s=some (.box ty cs))∧∀gg vs,ψ s=.pointer (some ⟨gg,0,none⟩)→w.heap[gg]? = some (.cells vs ty (0,0))→aq Z ψ' h' w cs' vs.toList
 |(_,none,.box _ _)=>False
theorem Good.rename(g:Good Z ψ h w B0 O){L:List yC}(hn:cj (L.map (·.1))=true)(hs:cj (L.filterMap (·.2.1))=true)(mF:∀e∈L,u7 Z ψ h w (dH L).get (eZ ψ L) e) :
  Good Z (eZ ψ L) (dH L).get w B0 O:=by
 have src:∀id b,(dH L).get id≠none→ob (eZ ψ L id)=some b→∃s o,(id,some s,o)∈L∧h s≠none∧ob (ψ s)=some b:=fun id b h1 h2=>by
  obtain⟨o,ho⟩:=ac9.1 h1;obtain⟨s,hm⟩:=om ho;rw[iL hn hm]at h2
  cases s with
  |none=>simp[jR,ob]at h2
  |some s =>
   have h3:=mF _ hm;refine⟨s,o,hm,?_,h2⟩
   cases o with
   |box ty cs=>obtain⟨⟨cs0,h4⟩,_⟩:=h3;rw[h4];simp
   |own ok xs=>rw[show h s=some (.own ok xs) from h3];simp
 refine⟨fun id ty cs hb=>?_,fun id ok xs hb=>?_,fun id b h1 h2=>?_,fun id mJ b h1 h2 h3 h4=>?_,g.jO⟩
 ·obtain⟨s,hm⟩:=om hb;have h3:=mF _ hm;rw[iL hn hm]
  cases s with
  |none=>exact h3.elim
  |some s =>obtain⟨⟨cs0,h4⟩,h5⟩:=h3;obtain⟨gg,vs,h6,h7,h8,h9⟩:=g.box s ty cs0 h4;exact⟨gg,vs,h6,h7,h5 gg vs h6 h7,h9⟩
 ·obtain⟨s,hm⟩:=om hb;have h3:=mF _ hm;rw[iL hn hm]
  cases s with
  |none=>exact Hw.owns h3
  |some s=>exact g.row s ok xs h3
 ·obtain⟨s,o,hm,h3,h4⟩:=src id b h1 h2;exact g.live s b h3 h4
 ·obtain⟨s,o,hm,h5,h6⟩:=src id b h1 h3;obtain⟨s',o',UO,h5',h6'⟩:=src mJ b h2 h4;have:=g.apart s s' b h5 h5' h6 h6';subst this;exact(UN hs hm UO).1
def zT(hh:Heap)(i:Nat):List AV:=match hh.get i with
 |some (.box _ cs)=>cs
 |_=>[]
def dO:(dx:List CK)→Nat→List AV→qD dx→List yC
 |[],_,_,_=>[]
 |.val k::r,n,cs,x=>dO r (n+1) (cs.drop k.sz) x.2
 |.own ok::r,n,cs,x=>(n,(o8 (cs.headD .no)).head?,.own ok x.1)::dO r (n+1) cs.tail x.2
def dU:(b:BK)→Heap→Nat→Nat→Nat→b.T→List yC
 |.box ty c,hh,i,i',n,x=>(i',some i,.box ty (aI c n x))::dO c n (zT hh i) x
 |.own ok,_,i,i',_,x=>[(i',some i,.own ok x)]
def cE:(bs:List BK)→Heap→List Nat→List Nat→Nat→wH bs→List yC
 |b::r,hh,i::is,i'::is',n,x=>dU b hh i i' n x.1++cE r hh is is' (n+16) x.2
 |_,_,_,_,_,_=>[]
theorem mT:∀(dx:List CK) (n:Nat) (cs:List AV) (x:qD dx),dH (dO dx n cs x)=bm dx n x
 |[],_,_,_=>rfl
 |.val k::r,n,cs,x=>mT r (n+1) _ x.2
 |.own ok::r,n,cs,x=>by simp only[dO,bm,dH,List.map_cons];rw[←mT r (n+1) cs.tail x.2];rfl
theorem lh:∀(dx:List CK) (n:Nat) (cs:List AV) (x:qD dx),(dO dx n cs x).map (·.1)=cq dx n
 |[],_,_,_=>rfl
 |.val k::r,n,cs,x=>lh r (n+1) _ x.2
 |.own ok::r,n,cs,x=>by simp only[dO,cq,List.map_cons];rw[lh r (n+1) cs.tail x.2]
theorem wW(c:AV):(o8 c).head?.toList=o8 c:=by cases c<;>rfl
theorem dV{α β:Type}(f:α→Option β)(a:α)(l:List α):(a::l).filterMap f=(f a).toList++l.filterMap f:=by rw[List.filterMap_cons];cases f a<;>rfl
theorem pq{k:K}{r:List CK}{hh:Heap}{cs:List AV}{x:qD (.val k::r)}(hd:cQ (.val k::r) hh cs=some x):dL k ((cs.take k.sz).map (cP hh))=some x.1∧cQ r hh (cs.drop k.sz)=some x.2:=by
 have e:cQ (.val k::r) hh cs=(match dL k ((cs.take k.sz).map (cP hh)),cQ r hh (cs.drop k.sz) with
  |some x,some y=>some ((x,y):k.T×qD r)
  |_,_=>none):=by cases cs<;>rfl
 rw[e]at hd;clear e;generalize dL k ((cs.take k.sz).map (cP hh))=o1 at hd ⊢;generalize cQ r hh (cs.drop k.sz)=o2 at hd ⊢
 cases o1 with
 |none=>cases hd
 |some x1 =>
  cases o2 with
  |none=>cases hd
  |some y1=>have:=ac5 hd;subst this;exact⟨rfl,rfl⟩
theorem lR{ok:OK}{r:List CK}{hh:Heap}{cs:List AV}{x:qD (.own ok::r)}(hd:cQ (.own ok::r) hh cs=some x):∃c cs',cs=c::cs'∧dX hh ok c=some x.1∧cQ r hh cs'=some x.2:=by
 cases cs with
 |nil=>cases hd
 |cons c cs =>
  refine⟨c,cs,rfl,?_⟩;have e:cQ (.own ok::r) hh (c::cs)=(match dX hh ok c,cQ r hh cs with
   |some x,some y=>some ((x,y):ok.T×qD r)
   |_,_=>none):=rfl
  rw[e]at hd;clear e;generalize dX hh ok c=o1 at hd ⊢;generalize cQ r hh cs=o2 at hd ⊢
  cases o1 with
  |none=>cases hd
  |some x1 =>
   cases o2 with
   |none=>cases hd
   |some y1=>have:=ac5 hd;subst this;exact⟨rfl,rfl⟩
theorem pw:∀(dx:List CK) (n:Nat) (hh:Heap) (cs:List AV) (x:qD dx),cQ dx hh cs=some x→(dO dx n cs x).filterMap (·.2.1)=fT dx cs
 |[],_,_,cs,_,_=>by cases cs<;>rfl
 |.val k::r,n,hh,cs,x,hd=>by
  obtain⟨_,h2⟩:=pq hd;have e:fT (.val k::r) cs=fT r (cs.drop k.sz):=by cases cs<;>rfl
  rw[e];exact pw r (n+1) hh _ x.2 h2
 |.own ok::r,n,hh,cs,x,hd=>by obtain⟨c,cs',rfl,_,h2⟩:=lR hd;simp only[dO,fT];rw[dV];simp only[List.headD_cons,List.tail_cons];rw[wW,pw r (n+1) hh cs' x.2 h2]
theorem lS{hh:Heap}{ok:OK}{c:AV}{xs:ok.T}(ho:dX hh ok c=some xs):(c=.fZ∧Hw ok xs)∨∃id,c=.bK id∧hh.get id=some (.own ok xs):=by
 unfold dX at ho
 split at ho
 ·cases ok with
  |row _ _=>cases ho;exact .inl ⟨rfl,rfl⟩
  |_=>cases ho
 ·rename_i id
  split at ho
  ·rename_i zn k' xs' hg
   split at ho
   ·rename_i e;subst e
    cases ho
    exact .inr ⟨id,rfl,hg⟩
   ·cases ho
  ·cases ho
 ·cases ho
theorem Fy{hh:Heap}{ok:OK}{c:AV}{xs:ok.T}{v:Value}(ho:dX hh ok c=some xs)(hr:aC Z ψ hh.get w c v){n:Nat}(jf:h' n≠none→ψ' n=jR ψ (o8 c).head?):aC Z' ψ' h' w' (.bK n) v:=by
 rcases lS ho with⟨rfl,_⟩|⟨id,rfl,hg⟩
 ·simp only[aC]at hr ⊢;subst hr;exact⟨⟨rfl,rfl⟩,fun hn=>(jf hn).symm⟩
 ·simp only[aC]at hr ⊢;refine⟨hr.1,fun hn=>?_⟩;rw[jf hn];exact hr.2 (by rw[hg];simp)
theorem rY{hh:Heap}(g:Good Z ψ hh.get w B0 O)(hz:∀b,Z b→Z' b):∀(dx:List CK) (n:Nat) (cs:List AV) (x:qD dx) (vs:List Value),cQ dx hh cs=some x →(∀id b,AV.bK id∈ql dx cs→hh.get id≠none→ob (ψ id)=some b→Z' b)→(∀e∈dO dx n cs x,h' e.1≠none→ψ' e.1=jR ψ e.2.1) → aq Z ψ hh.get w cs vs→aq Z' ψ' h' w (aI dx n x) vs
 |[],n,cs,x,vs,hd,_,_,hr=>by
  cases cs with
  |nil=>simpa only[aI,aq] using hr
  |cons c cs=>cases hd
 |.val k::r,n,cs,x,vs,hd,hf,jf,hr=>by
  obtain⟨h1,h2⟩:=pq hd;have e:ql (.val k::r) cs=cs.take k.sz++ql r (cs.drop k.sz):=by cases cs<;>rfl
  rw[e]at hf;have rR:aq Z ψ hh.get w (cs.take k.sz++cs.drop k.sz) vs:=by rw[List.take_append_drop];exact hr
  obtain⟨us,ws,rfl,h3,h4⟩:=aq.split rR;simp only[aI];have h5:=og (Z':=Z') g hz (fun id b bS=>hf id b (acq _ bS)) h3;exact aq.append (iq (dM h1 h5)) (rY g hz r (n+1) (cs.drop k.sz) x.2 ws h2 (fun id b bS=>hf id b (ac2 _ bS)) jf h4)
 |.own ok::r,n,cs,x,vs,hd,hf,jf,hr=>by obtain⟨c,cs',rfl,h1,h2⟩:=lR hd;simp only[aq]at hr;obtain⟨v,us,rfl,h3,h4⟩:=hr;simp only[aI,aq];refine⟨v,us,rfl,Fy h1 h3 (fun hn=>jf (n,_,_) (by simp only[dO];exact ac4) hn),?_⟩;exact rY g hz r (n+1) cs' x.2 us h2 hf (fun e he=>jf e (by simp only[dO];exact acm _ he)) h4
theorem fz{b:BK}{r:List BK}{hh:Heap}{i:Nat}{is:List Nat}{x:wH (b::r)}(hd:dd (b::r) hh (i::is)=some x):qm b hh i=some x.1∧dd r hh is=some x.2:=by
 have e:dd (b::r) hh (i::is)=(match qm b hh i,dd r hh is with
   |some x,some y=>some ((x,y):b.T×wH r)
   |_,_=>none):=rfl
 rw[e]at hd;clear e;generalize qm b hh i=o1 at hd ⊢;generalize dd r hh is=o2 at hd ⊢
 cases o1 with
 |none=>cases hd
 |some x1 =>
  cases o2 with
  |none=>cases hd
  |some y1=>have:=ac5 hd;subst this;exact⟨rfl,rfl⟩
theorem rZ{ty:TypeId}{c:List CK}{hh:Heap}{i:Nat}{x:qD c}(hd:qm (.box ty c) hh i=some x):∃cs,hh.get i=some (.box ty cs)∧cQ c hh cs=some x:=by
 simp only[qm]at hd
 cases hb:DX hh i ty with
 |none=>rw[hb]at hd;cases hd
 |some cs =>
  rw[hb]at hd;refine⟨cs,?_,hd⟩;unfold DX at hb
  split at hb
  ·rename_i zn cs' hg
   split at hb
   ·rename_i e;cases hb;rw[hg,e]
   ·cases hb
  ·cases hb
theorem jS{hh:Heap}{ok:OK}{i:Nat}{x:ok.T}(h:dX hh ok (.bK i)=some x):hh.get i=some (.own ok x):=by
 rcases lS h with⟨h,_⟩|⟨id,h,hg⟩
 ·cases h
 ·cases h;exact hg
theorem D8{ok:OK}{hh:Heap}{i:Nat}{x:ok.T}(hd:qm (.own ok) hh i=some x):hh.get i=some (.own ok x):=jS hd
theorem py{hh:Heap}{i:Nat}{ty:TypeId}{cs:List AV}(hg:hh.get i=some (.box ty cs)):zT hh i=cs:=by unfold zT;rw[hg]
theorem Fz(b:BK){hh:Heap}{i i' n:Nat}(x:b.T):dH (dU b hh i i' n x)=jh b i' n x:=by
 cases b with
 |box ty c=>simp only[dU,jh];rw[←mT c n (zT hh i) x];simp[dH]
 |own ok=>simp[dU,jh,dH]
theorem Dz(b:BK){hh:Heap}{i i' n:Nat}(x:b.T):(dU b hh i i' n x).map (·.1)=i'::cq b.dx n:=by
 cases b with
 |box ty c=>simp only[dU,List.map_cons,BK.dx];rw[lh]
 |own ok=>simp[dU,BK.dx,cq]
theorem Hy(b:BK){hh:Heap}{i i' n:Nat}{x:b.T}(hd:qm b hh i=some x):(dU b hh i i' n x).filterMap (·.2.1)=j9 b hh i:=by
 cases b with
 |box ty c =>obtain⟨cs,h1,h2⟩:=rZ hd;simp only[dU,j9];rw[dV,py h1,pw c n hh cs x h2,h1];rfl
 |own ok=>simp[dU,j9]
theorem jm:∀(bs:List BK) (hh:Heap) (is is':List Nat) (n:Nat) (x:wH bs),dd bs hh is=some x→is'.length=bs.length→dH (cE bs hh is is' n x)=bC bs is' n x
 |[],hh,is,is',n,x,_,hl=>by cases is'<;>simp[cE,bC,dH]
 |b::r,hh,[],is',n,x,hd,_=>by cases hd
 |b::r,hh,i::is,[],n,x,_,hl=>by simp at hl
 |b::r,hh,i::is,i'::is',n,x,hd,hl=>by obtain⟨_,h3⟩:=fz hd;have ih:=jm r hh is is' (n+16) x.2 h3 (by simpa using hl);simp only[cE,bC];rw[←ih,←Fz b (hh:=hh) (i:=i) x.1];simp[dH]
theorem g8:∀(bs:List BK) (hh:Heap) (is is':List Nat) (n:Nat) (x:wH bs),dd bs hh is=some x→is'.length=bs.length→(cE bs hh is is' n x).map (·.1)=cc bs is' n
 |[],hh,is,is',n,x,_,hl=>by cases is'<;>simp[cE,cc]
 |b::r,hh,[],is',n,x,hd,_=>by cases hd
 |b::r,hh,i::is,[],n,x,_,hl=>by simp at hl
 |b::r,hh,i::is,i'::is',n,x,hd,hl=>by obtain⟨_,h3⟩:=fz hd;have ih:=g8 r hh is is' (n+16) x.2 h3 (by simpa using hl);simp only[cE,cc,List.map_append];rw[ih,Dz,List.cons_append]
theorem kl:∀(bs:List BK) (hh:Heap) (is is':List Nat) (n:Nat) (x:wH bs),dd bs hh is=some x→is'.length=bs.length→(cE bs hh is is' n x).filterMap (·.2.1)=de bs hh is
 |[],hh,is,is',n,x,_,hl=>by cases is'<;>cases is<;>simp[cE,de]
 |b::r,hh,[],is',n,x,hd,_=>by cases hd
 |b::r,hh,i::is,[],n,x,_,hl=>by simp at hl
 |b::r,hh,i::is,i'::is',n,x,hd,hl=>by obtain⟨h1,h3⟩:=fz hd;have ih:=kl r hh is is' (n+16) x.2 h3 (by simpa using hl);simp only[cE,de];rw[List.filterMap_append,ih,Hy b h1]
theorem r8{hd:Hp}{hh:Heap}:∀(dx:List CK) (n:Nat) (cs:List AV) (x:qD dx),cQ dx hh cs=some x→(∀s∈fT dx cs,hd s=hh.get s)→∀e∈dO dx n cs x,u7 Z ψ hd w h' ψ' e
 |[],n,cs,x,_,_,e,he=>by simp[dO]at he
 |.val k::r,n,cs,x,Uh,hk,e,he=>by
  obtain⟨_,h2⟩:=pq Uh;have e0:fT (.val k::r) cs=fT r (cs.drop k.sz):=by cases cs<;>rfl
  rw[e0]at hk;exact r8 r (n+1) _ x.2 h2 hk e he
 |.own ok::r,n,cs,x,Uh,hk,e,he=>by
  obtain⟨c,cs',rfl,h1,h2⟩:=lR Uh;simp only[dO,List.headD_cons,List.tail_cons]at he;simp only[fT]at hk;rcases acp.1 he with rfl|he
  ·rcases lS h1 with⟨rfl,h3⟩|⟨id,rfl,h3⟩
   ·exact h3
   ·show hd id=some (.own ok x.1);rw[hk id (List.mem_append_left _ (by simp[o8])),h3]
  ·exact r8 r (n+1) cs' x.2 h2 (fun s hs=>hk s (ac2 _ hs)) e he
theorem Ks{hd:Hp}{hh:Heap}(g:Good Z ψ hh.get w B0 O)(hz:∀b,Z b→Z' b)(b:BK){i i' n:Nat}{x:b.T}(Uh:qm b hh i=some x) (hf:∀id g,AV.bK id∈AD b hh i→hh.get id≠none→ob (ψ id)=some g→Z' g) (hk:∀s∈j9 b hh i,hd s=hh.get s) (jf:∀e∈dU b hh i i' n x,h' e.1≠none→ψ' e.1=jR ψ e.2.1) :
  ∀e∈dU b hh i i' n x,u7 Z' ψ hd w h' ψ' e:=by
 intro e he
 cases b with
 |box ty c =>
  obtain⟨cs,h1,h2⟩:=rZ Uh;simp only[AD,j9,h1]at hf hk;have X6:∀e∈dO c n cs x,h' e.1≠none→ψ' e.1=jR ψ e.2.1:=fun e he=>jf e (by simp only[dU];rw[py h1];exact acm _ he);simp only[dU]at he;rcases acp.1 he with rfl|he
  ·refine⟨⟨cs,by rw[hk i List.mem_cons_self,h1]⟩,fun gg vs h4 h5=>?_⟩;obtain⟨gg',g9,h6,h7,h8,_⟩:=g.box i ty cs h1;rw[h6]at h4
   cases h4
   rw[h5]at h7
   cases h7
   exact rY g hz c n cs x _ h2 hf X6 h8
  ·rw[py h1]at he;exact r8 c n cs x h2 (fun s hs=>hk s (acm _ hs)) e he
 |own ok =>have h1:=D8 Uh;simp only[dU,List.mem_singleton]at he;subst he;show hd i=some (.own ok x);rw[hk i (by simp[j9]),h1]
theorem lT{hd:Hp}{hh:Heap}(g:Good Z ψ hh.get w B0 O)(hz:∀b,Z b→Z' b):∀(bs:List BK) (is is':List Nat) (n:Nat) (x:wH bs),dd bs hh is=some x →(∀id b,AV.bK id∈gh bs hh is→hh.get id≠none→ob (ψ id)=some b→Z' b)→(∀s∈de bs hh is,hd s=hh.get s)→(∀e∈cE bs hh is is' n x,h' e.1≠none→ψ' e.1=jR ψ e.2.1) → ∀e∈cE bs hh is is' n x,u7 Z' ψ hd w h' ψ' e
 |[],is,is',n,x,_,_,_,_,e,he=>by simp[cE]at he
 |b::r,[],is',n,x,Uh,_,_,_,e,he=>by cases Uh
 |b::r,i::is,[],n,x,_,_,_,_,e,he=>by simp[cE]at he
 |b::r,i::is,i'::is',n,x,Uh,hf,hk,jf,e,he=>by
  obtain⟨h1,h3⟩:=fz Uh;simp only[gh,de]at hf hk;simp only[cE]at he jf;rcases ac8.1 he with he|he
  ·exact Ks g hz b h1 (fun id g bS=>hf id g (acq _ bS)) (fun s hs=>hk s (acq _ hs)) (fun e he=>jf e (acq _ he)) e he
  ·exact lT g hz r is is' (n+16) x.2 h3 (fun id b bS=>hf id b (ac2 _ bS)) (fun s hs=>hk s (ac2 _ hs)) (fun e he=>jf e (ac2 _ he)) e he
theorem r9{kept:List Nat}{kO:List AV}(hk:wN kept kO=true):cj kept=true∧∀(hh:Heap) s,s∈kept→(cM hh kO).get s=hh.get s:=by unfold wN at hk;rw[Bool.and_eq_true]at hk;exact⟨hk.1,fun hh s hs=>pf _ _ _ (rT (adK.1 hk.2 s hs))⟩
theorem wX{hh:Heap}{kO:List AV}{kept:List Nat}(g:Good Z ψ hh.get w B0 O)(hk:wN kept kO=true){L:List yC}(hn:cj (L.map (·.1))=true)(hs:L.filterMap (·.2.1)=kept) (mF:∀e∈L,u7 (qB Z ψ hh.get kO) ψ (cM hh kO).get w (dH L).get (eZ ψ L) e):Good (qB Z ψ hh.get kO) (eZ ψ L) (dH L).get w B0 O :=(iA g kO).rename hn (by rw[hs];exact(r9 hk).1) mF
theorem zU{L:List yC}(hn:cj (L.map (·.1))=true):∀e∈L,(dH L).get e.1≠none→eZ ψ L e.1=jR ψ e.2.1:=fun⟨i,s,o⟩ he _=>iL hn he
theorem mU(A B:List yC):dH (A++B)=dH A++dH B:=by simp[dH]
theorem zX{hh:Heap}{i s i':Nat}{v:Value}(hr:aC Z ψ hh.get w (.ref i s 0 0) v)(hi:hh.get i≠none)(jf:h' i'≠none→ψ' i'=ψ i):aC Z' ψ' h' w' (.ref i' 0 0 0) v:=by simp only[aC]at hr ⊢;obtain⟨a,rfl,ha⟩:=hr;refine⟨a,rfl,fun hn=>?_⟩;rw[jf hn,ha hi];simp
theorem pz{v:AV}{i:Nat}(h:DY v=some i):∃s,v=.ref i s 0 0:=by
 unfold DY at h
 split at h
 ·cases h;exact⟨_,rfl⟩
 ·cases h
theorem jn{hh:Heap}:∀(bs:List BK) (is:List Nat) (x:wH bs),dd bs hh is=some x→is.length=bs.length∧∀i∈is,hh.get i≠none
 |[],[],_,_=>⟨rfl,fun i hi=>by cases hi⟩
 |[],_::_,_,h=>by cases h
 |_::_,[],_,h=>by cases h
 |b::r,i::is,x,h=>by
  obtain⟨h1,h3⟩:=fz h;obtain⟨h4,h5⟩:=jn r is x.2 h3;refine⟨by simp[h4],fun j hj=>?_⟩;rcases acp.1 hj with rfl|hj
  ·cases b with
   |box ty c=>obtain⟨cs,h1,_⟩:=rZ h1;rw[h1];simp
   |own ok=>rw[D8 h1];simp
  ·exact h5 j hj
theorem km{hh:Heap}:∀(bs:List BK) (is is':List Nat) (n:Nat) (x:wH bs),is.length=bs.length→∀p∈is.zip is',∃o,(p.2,some p.1,o)∈cE bs hh is is' n x
 |[],is,is',n,x,hl,p,hp=>by
  cases is with
  |nil=>simp at hp
  |cons a r=>simp at hl
 |b::r,[],is',n,x,hl,p,hp=>by simp at hp
 |b::r,i::is,[],n,x,hl,p,hp=>by simp at hp
 |b::r,i::is,i'::is',n,x,hl,p,hp=>by
  simp only[List.zip_cons_cons]at hp;simp only[cE];rcases acp.1 hp with rfl|hp
  ·cases b with
   |box ty c=>exact⟨_,acq _ (by simp only[dU];exact ac4)⟩
   |own ok=>exact⟨_,acq _ (by simp only[dU];exact ac4)⟩
  ·obtain⟨o,ho⟩:=km r is is' (n+16) x.2 (by simpa using hl) p hp;exact⟨o,ac2 _ ho⟩
theorem L9{hd:Hp}{hh:Heap}{ok:OK}{c:AV}{xs:ok.T}(ho:dX hh ok c=some xs)(hk:∀s∈o8 c,hd s=hh.get s){n:Nat}:u7 Z ψ hd w h' ψ' (n,(o8 c).head?,.own ok xs):=by
 rcases lS ho with⟨rfl,h3⟩|⟨id,rfl,h3⟩
 ·exact h3
 ·show hd id=some (.own ok xs);rw[hk id (by simp[o8]),h3]
end Go.Vs
namespace Go.Vs
variable {P:Program} {Z Z':Nat→Prop} {ψ ψ':Nat→Value} {h h':Hp} {w w':World} {B0:Nat} {O:Nat→Prop} {N:Nat→Prop}
def gq:Hp:=fun _=>none
def JZ:Nat→Value:=fun _=>undef
def D9(g:aS)(x:G7 (kQ g.ps)):List AV:=(aZ g.ps [] 0 x).map (·.2)
def aav(P:Program)(f:FuncId)(g:aS)(x:g.A)(y:g.B):Prop :=∀(Z:Nat→Prop) (w:World) (kq:List Value),(∀b,Z b→b<w.heap.size)→aq Z JZ gq w (D9 g x.1) kq → Calls P (f%1000) kq.toArray w fun e w'=>∃v Z' ψ',e=.returned v∧(∀b,Z b→Z' b)∧(∀b,Z' b→Z b∨w.heap.size≤b)∧dg JZ gq w w' ∧ Good Z' ψ' (ak g.rs 3000 y.1).get w' w.heap.size (fun _=>False)∧aC Z' ψ' (ak g.rs 3000 y.1).get w' (fh (bf g.rs [] 2000 3000 y.1)) v
theorem yD{p:PK}{ps:List PK}{vs:List AV}(hi:cI (p::ps) vs=some []):∃a r,vs=a::r∧cI ps r=some []∧(p≠.ref∧p≠.own)∧(∀f n,p=.G1 f n→a=.fn f [])∧(∀n,p=.agg n→a=.agg []):=by
 cases vs with
 |nil=>cases p<;>simp[cI]at hi
 |cons a r =>
  cases p with
  |val k=>exact⟨a,r,rfl,by simpa only[cI] using hi,by simp,by simp,by simp⟩
  |ref =>
   simp only[cI]at hi
   split at hi<;>simp at hi
  |own =>
   cases a<;>simp only[cI]at hi<;>first|(cases hi;done)|skip
   split at hi<;>simp at hi
  |G1 f n =>
   cases a<;>simp only[cI]at hi<;>first|(cases hi;done)|skip
   rename_i f' cap
   split at hi
   ·rename_i hc;obtain⟨rfl,tM⟩:=hc
    split at hi
    ·rename_i a1 b1 h1 h2;simp only[Option.some.injEq,List.append_eq_nil_iff]at hi;obtain⟨rfl,rfl⟩:=hi;have XV:cap=[]:=by
      cases cap with
      |nil=>rfl
      |cons c cs=>simp only[jL]at h1;split at h1<;>simp at h1
     subst XV;exact⟨_,r,rfl,h2,by simp,by rintro f n ⟨⟩;rfl,by simp⟩
    ·cases hi
   ·cases hi
  |agg n =>
   cases a<;>simp only[cI]at hi<;>first|(cases hi;done)|skip
   rename_i cs
   split at hi
   ·split at hi
    ·rename_i a1 b1 h1 h2;simp only[Option.some.injEq,List.append_eq_nil_iff]at hi;obtain⟨rfl,rfl⟩:=hi;have Nv:cs=[]:=by
      cases cs with
      |nil=>rfl
      |cons c cs=>cases c<;>simp only[o9]at h1<;>first|(cases h1;done)|(split at h1<;>simp at h1)
     subst Nv;exact⟨_,r,rfl,h2,by simp,by simp,fun _ _=>rfl⟩
    ·cases hi
   ·cases hi
theorem yE{k:K}{ps:List PK}{hh:Heap}{a:AV}{r:List AV}{x:k.T×G7 (kQ ps)}(hv:eT (.val k::ps) hh (a::r)=some x):fX k hh a=some x.1∧eT ps hh r=some x.2:=by
 have e:eT (.val k::ps) hh (a::r)=(match fX k hh a,eT ps hh r with
  |some x,some y=>some ((x,y):k.T×G7 (kQ ps))
  |_,_=>none):=rfl
 rw[e]at hv;clear e;generalize fX k hh a=o1 at hv ⊢;generalize eT ps hh r=o2 at hv ⊢
 cases o1 with
 |none=>cases hv
 |some x1 =>
  cases o2 with
  |none=>cases hv
  |some y1 =>have:=ac5 hv;subst this;exact⟨rfl,rfl⟩
theorem Ba{hh:Heap}(g:Good Z ψ hh.get w B0 O)(hz:∀b,Z b→Z' b)(ps:List PK):∀(s:Nat) (vs:List AV) (us:List Value) (x:G7 (kQ ps)),(∀v∈vs,∀id b,AV.bK id∈v.cells→hh.get id≠none→ob (ψ id)=some b→Z' b) → cI ps vs=some []→eT ps hh vs=some x→aq Z ψ hh.get w vs us→aq Z' JZ gq w ((aZ ps [] s x).map (·.2)) us:=by
 induction ps with
 |nil =>
  intro s vs us x _ hi hv hr
  cases vs with
  |nil=>simpa only[aZ,List.map_nil,aq] using hr
  |cons a r=>simp[cI]at hi
 |cons p ps ih =>
  intro s vs us x hb hi hv hr;obtain⟨a,r,rfl,tL,UP,X7,X8⟩:=yD hi;simp only[aq]at hr;obtain⟨u,iY,rfl,h3,h4⟩:=hr
  cases p with
  |val k =>obtain⟨h1,h2⟩:=yE hv;simp only[aZ,List.map_cons,aq];exact⟨u,iY,rfl,rU (Z':=Z') (ψ':=JZ) (h':=gq) g hz (hb a ac4) h1 h3,ih (s+1) r iY x.2 (fun v hv=>hb v (acm _ hv)) tL h2 h4⟩
  |ref=>exact absurd rfl UP.1
  |own=>exact absurd rfl UP.2
  |G1 f n =>have ha:=X7 f n rfl;subst ha;have h2:eT ps hh r=some x:=hv;simp only[aZ,List.map_cons,aq,List.take_nil,List.map_nil,List.drop_nil];simp only[aC,aq]at h3 ⊢;exact⟨u,iY,rfl,h3,ih (s+1) r iY x (fun v hv=>hb v (acm _ hv)) tL h2 h4⟩
  |agg n =>have ha:=X8 n rfl;subst ha;have h2:eT ps hh r=some x:=hv;simp only[aZ,List.map_cons,aq,List.take_nil,List.map_nil,List.drop_nil];simp only[aC,aq]at h3 ⊢;exact⟨u,iY,rfl,h3,ih (s+1) r iY x (fun v hv=>hb v (acm _ hv)) tL h2 h4⟩
theorem Good.aaw(g:Good Z ψ h w B0 O)(k:dg JZ gq w w')(hz:∀b,Z b→Z' b)(Pw:∀b,Z' b→Z b∨w.heap.size≤b)(afD:∀b,Z' b→b<w'.heap.size) (hold:∀id,¬N id→h' id=h id∧ψ' id=ψ id) (bz:∀id ty cs,h id=some (.box ty cs)→aG (fun i=>¬N i) cs) (PZ:∀id ty cs,N id→h' id=some (.box ty cs)→False) (oi:∀id ok xs,N id→h' id=some (.own ok xs)→jH Z' w' ok (ψ' id) xs) (AL:∀id b,N id→h' id≠none→ob (ψ' id)=some b→w.heap.size≤b∧¬Z' b) (Ke:∀id mJ b,N id→N mJ→h' id≠none→h' mJ≠none→ob (ψ' id)=some b→ob (ψ' mJ)=some b→id=mJ) (hB:B0≤w.heap.size) :
  Next Z ψ h w B0 O N Z' ψ' h' w':=by
 have cV:∀b,b<w.heap.size→w'.heap[b]? = w.heap[b]? := fun b hb=>k.block b hb (fun⟨id,h1,_⟩=>h1 rfl);have sm:cy Z w w':=fun b hb=>cV b (g.jO b hb);have nG:∀id,h' id≠none→(h id≠none∧ψ' id=ψ id)∨N id:=fun id bS=>by
  by_cases hn:N id
  ·exact .inr hn
  ·obtain⟨e1,e2⟩:=hold id hn;exact .inl ⟨by rwa [e1]at bS,e2⟩
 have yn:∀id b,¬N id→h' id≠none→ob (ψ' id)=some b→Own ψ h b:=fun id b hn h1 h2=>by obtain⟨e1,e2⟩:=hold id hn;exact⟨id,by rwa [e1]at h1,by rwa [e2]at h2⟩
 have kk:dg ψ h w w':=⟨k.os,k.tape,k.output,k.size,fun b hb _=>cV b hb⟩;refine⟨hz,fun b hb=>(Pw b hb).imp (fun h=>h) .inr,kk,nG,⟨fun id ty cs hb=>?_,fun id ok xs hb=>?_,fun id b h1 h2=>?_,fun id mJ b h1 h2 h3 h4=>?_,afD⟩⟩
 ·by_cases hn:N id
  ·exact(PZ id ty cs hn hb).elim
  ·obtain⟨e1,e2⟩:=hold id hn;rw[e1]at hb;obtain⟨gg,vs,h1,h2,h3,h4⟩:=g.box id ty cs hb;exact⟨gg,vs,by rw[e2,h1],(cV gg (acr.1 h2).1).trans h2,h3.move hz sm (fun i hp bS=>(nG i bS).resolve_right hp) (bz id ty cs hb),h4⟩
 ·by_cases hn:N id
  ·exact oi id ok xs hn hb
  ·obtain⟨e1,e2⟩:=hold id hn;rw[e1]at hb;rw[e2];exact(g.row id ok xs hb).kept hz sm (fun gg Ns=>cV gg (g.bT ⟨id,by rw[hb];simp,Ns⟩))
 ·by_cases hn:N id
  ·obtain⟨h3,h4⟩:=AL id b hn h1 h2;exact⟨h4,.inl (by omega)⟩
  ·obtain⟨e1,e2⟩:=hold id hn;rw[e1]at h1;rw[e2]at h2;have h3:=g.live id b h1 h2;refine⟨fun hzb=>?_,h3.2⟩;rcases Pw b hzb with h4|h4
   ·exact h3.1 h4
   ·have:=g.bT ⟨id,h1,h2⟩;omega
 ·by_cases hn:N id<;>by_cases Kf:N mJ
  ·exact Ke id mJ b hn Kf h1 h2 h3 h4
  ·have:=(AL id b hn h1 h3).1;have:=g.bT (yn mJ b Kf h2 h4);omega
  ·have:=(AL mJ b Kf h2 h4).1;have:=g.bT (yn id b hn h1 h3);omega
  ·obtain⟨e1,e2⟩:=hold id hn;obtain⟨e3,e4⟩:=hold mJ Kf;rw[e1]at h1;rw[e2]at h3;rw[e3]at h2;rw[e4]at h4;exact g.apart id mJ b h1 h2 h3 h4
theorem bI{r:RK}{rs:List RK}(h:(r::rs).all RK.plain=true):rs.all RK.plain=true:=by simp only[List.all_cons,Bool.and_eq_true]at h;exact h.2
theorem NH{c:List CK}{rs:List RK}(h:(RK.agg c::rs).all RK.plain=true):c.length≤16:=by simp only[List.all_cons,Bool.and_eq_true,RK.plain,decide_eq_true_eq]at h;exact h.1
theorem lU:∀(c:List CK) (a:Nat) (x:qD c) (i:Nat),i<a→(bm c a x).get i=none
 |[],_,_,_,_=>rfl
 |.val _::r,a,x,i,h=>by simp only[bm];exact lU r (a+1) x.2 i (by omega)
 |.own ok::r,a,x,i,h=>by simp only[bm,Heap.get];rw[if_neg (by omega)];exact lU r (a+1) x.2 i (by omega)
theorem tV:∀(c:List CK) (a:Nat) (x:qD c) (i:Nat),a+c.length≤i→(bm c a x).get i=none
 |[],_,_,_,_=>rfl
 |.val _::r,a,x,i,h=>by simp only[List.length_cons]at h;simp only[bm];exact tV r (a+1) x.2 i (by omega)
 |.own ok::r,a,x,i,h=>by simp only[List.length_cons]at h;simp only[bm,Heap.get];rw[if_neg (by omega)];exact tV r (a+1) x.2 i (by omega)
theorem tW:∀(c:List CK) (a b:Nat) (x:qD c) (j:Nat),(bm c a x).get (a+j)=(bm c b x).get (b+j)
 |[],_,_,_,_=>rfl
 |.val _::r,a,b,x,0=>by simp only[bm];rw[lU _ _ _ _ (by omega),lU _ _ _ _ (by omega)]
 |.own ok::r,a,b,x,0=>by simp[bm,Heap.get]
 |.val _::r,a,b,x,j+1=>by simp only[bm];rw[show a+(j+1)=a+1+j by omega,show b+(j+1)=b+1+j by omega];exact tW r (a+1) (b+1) x.2 j
 |.own ok::r,a,b,x,j+1=>by simp only[bm,Heap.get];rw[if_neg (by omega),if_neg (by omega),show a+(j+1)=a+1+j by omega,show b+(j+1)=b+1+j by omega];exact tW r (a+1) (b+1) x.2 j
theorem nM:∀(c:List CK) (a:Nat) (x:qD c) (i:Nat) (ty:TypeId) (cs:List AV),(bm c a x).get i≠some (.box ty cs)
 |[],_,_,_,_,_=>by simp[bm,Heap.get]
 |.val _::r,a,x,i,ty,cs=>by simp only[bm];exact nM r (a+1) x.2 i ty cs
 |.own ok::r,a,x,i,ty,cs=>by
  simp only[bm,Heap.get]
  split
  ·simp
  ·exact nM r (a+1) x.2 i ty cs
theorem qX:∀(rs:List RK) (a:Nat) (y:lL rs) (i:Nat),rs.all RK.plain=true→i<a→(ak rs a y).get i=none
 |[],a,y,i,_,h=>rfl
 |.val k::r,a,y,i,hp,h=>by simp only[ak];exact qX r (a+1) y.2 i (bI hp) (by omega)
 |.own ok::r,a,y,i,hp,h=>by simp only[ak,Heap.get];rw[if_neg (by omega)];exact qX r (a+1) y.2 i (bI hp) (by omega)
 |.eX _ _::r,a,y,i,hp,h=>by simp only[ak];exact qX r (a+1) y.2 i (bI hp) (by omega)
 |.agg c::r,a,y,i,hp,h=>by have h1:(bm c a y.1).get i=none:=lU c a y.1 i h;have h2:=qX r (a+1) y.2 i (bI hp) (by omega);show Heap.get (bm c a y.1++ak r (a+1) y.2) i=none;rw[Heap.get_append,h1,h2]
theorem Hz:∀(rs:List RK) (a:Nat) (y:lL rs) (i:Nat),rs.all RK.plain=true→a+rs.length+16≤i→(ak rs a y).get i=none
 |[],a,y,i,_,h=>rfl
 |.val k::r,a,y,i,hp,h=>by simp only[List.length_cons]at h;simp only[ak];exact Hz r (a+1) y.2 i (bI hp) (by omega)
 |.own ok::r,a,y,i,hp,h=>by simp only[List.length_cons]at h;simp only[ak,Heap.get];rw[if_neg (by omega)];exact Hz r (a+1) y.2 i (bI hp) (by omega)
 |.eX _ _::r,a,y,i,hp,h=>by simp only[List.length_cons]at h;simp only[ak];exact Hz r (a+1) y.2 i (bI hp) (by omega)
 |.agg c::r,a,y,i,hp,h=>by simp only[List.length_cons]at h;have hc:=NH hp;have h1:(bm c a y.1).get i=none:=tV c a y.1 i (by omega);have h2:=Hz r (a+1) y.2 i (bI hp) (by omega);show Heap.get (bm c a y.1++ak r (a+1) y.2) i=none;rw[Heap.get_append,h1,h2]
theorem HA:∀(rs:List RK) (a b:Nat) (y:lL rs) (j:Nat),rs.all RK.plain=true→(ak rs a y).get (a+j)=(ak rs b y).get (b+j)
 |[],_,_,_,_,_=>rfl
 |.val k::r,a,b,y,0,hp=>by simp only[ak];rw[qX _ _ _ _ (bI hp) (by omega),qX _ _ _ _ (bI hp) (by omega)]
 |.eX _ _::r,a,b,y,0,hp=>by simp only[ak];rw[qX _ _ _ _ (bI hp) (by omega),qX _ _ _ _ (bI hp) (by omega)]
 |.own ok::r,a,b,y,0,hp=>by simp[ak,Heap.get]
 |.val k::r,a,b,y,j+1,hp=>by simp only[ak];rw[show a+(j+1)=a+1+j by omega,show b+(j+1)=b+1+j by omega];exact HA r (a+1) (b+1) y.2 j (bI hp)
 |.eX _ _::r,a,b,y,j+1,hp=>by simp only[ak];rw[show a+(j+1)=a+1+j by omega,show b+(j+1)=b+1+j by omega];exact HA r (a+1) (b+1) y.2 j (bI hp)
 |.own ok::r,a,b,y,j+1,hp=>by simp only[ak,Heap.get];rw[if_neg (by omega),if_neg (by omega),show a+(j+1)=a+1+j by omega,show b+(j+1)=b+1+j by omega];exact HA r (a+1) (b+1) y.2 j (bI hp)
 |.agg c::r,a,b,y,j,hp=>by
  have h1:(bm c a y.1).get (a+j)=(bm c b y.1).get (b+j):=tW c a b y.1 j;have h2:(ak r (a+1) y.2).get (a+j)=(ak r (b+1) y.2).get (b+j):=by
   cases j with
   |zero=>rw[qX _ _ _ _ (bI hp) (by omega),qX _ _ _ _ (bI hp) (by omega)]
   |succ j =>rw[show a+(j+1)=a+1+j by omega,show b+(j+1)=b+1+j by omega];exact HA r (a+1) (b+1) y.2 j (bI hp)
  show Heap.get (bm c a y.1++ak r (a+1) y.2) (a+j)=Heap.get (bm c b y.1++ak r (b+1) y.2) (b+j);rw[Heap.get_append,Heap.get_append,h1,h2]
theorem u9:∀(rs:List RK) (a:Nat) (y:lL rs) (i:Nat) (ty:TypeId) (cs:List AV),rs.all RK.plain=true→(ak rs a y).get i≠some (.box ty cs)
 |[],_,_,_,_,_,_=>by simp[ak,Heap.get]
 |.val k::r,a,y,i,ty,cs,hp=>by simp only[ak];exact u9 r (a+1) y.2 i ty cs (bI hp)
 |.eX _ _::r,a,y,i,ty,cs,hp=>by simp only[ak];exact u9 r (a+1) y.2 i ty cs (bI hp)
 |.own ok::r,a,y,i,ty,cs,hp=>by
  simp only[ak,Heap.get]
  split
  ·simp
  ·exact u9 r (a+1) y.2 i ty cs (bI hp)
 |.agg c::r,a,y,i,ty,cs,hp=>by
  have h1:(bm c a y.1).get i≠some (.box ty cs):=nM c a y.1 i ty cs;show Heap.get (bm c a y.1++ak r (a+1) y.2) i≠some (.box ty cs);rw[Heap.get_append]
  split
  ·rename_i o ho;rw[ho]at h1;exact h1
  ·exact u9 r (a+1) y.2 i ty cs (bI hp)
theorem lV(p:Nat→Prop):∀(k:K) (x:k.T),aG p (enc k x)
 |.int _,_=>by simp only[enc,aG,aM];exact⟨trivial,trivial⟩
 |.bool,_=>by simp only[enc,aG,aM];exact⟨trivial,trivial⟩
 |.str,_=>by simp only[enc,aG,aM];exact⟨trivial,trivial⟩
 |.sl _,_=>by simp only[enc,aG,aM];exact⟨trivial,trivial⟩
 |.mp _ _,_=>by simp only[enc,aG,aM];exact⟨trivial,trivial⟩
 |.pair a b,x=>by
  simp only[enc];have h1:=lV p a x.1;have h2:=lV p b x.2
  revert h1
  generalize enc a x.1=l
  induction l with
  |nil=>intro _;exact h2
  |cons c r ih=>intro h;simp only[List.cons_append,aG]at h ⊢;exact⟨h.1,ih h.2⟩
 |.one k,x=>by simp only[enc];exact lV p k x
theorem oo(p:Nat→Prop):∀(k:K) (x:k.T),aM p (cp k x)
 |.int _,_=>by simp only[cp,aM]
 |.bool,_=>by simp only[cp,aM]
 |.str,_=>by simp only[cp,aM]
 |.sl _,_=>by simp only[cp,aM]
 |.mp _ _,_=>by simp only[cp,aM]
 |.pair a b,x=>by simp only[cp,aM];exact lV p (.pair a b) x
 |.one k,x=>by simp only[cp,aM];exact lV p (.one k) x
theorem Qg{k:K}{x:k.T}{v:Value}(hr:aC Z ψ h w (cp k x) v):aC Z ψ' h' w (cp k x) v :=hr.move (p:=fun _=>False) (fun _ h=>h) (cy.refl _ _) (fun _ hp _=>hp.elim) (oo _ k x)
theorem UQ(r:RK)(rs:List RK)(b:Nat)(y:lL (r::rs))(i:Nat)(hi:(ak rs (b+1) y.2).get i≠none):(ak (r::rs) b y).get i≠none:=by
 cases r with
 |val k=>exact hi
 |eX _ _=>exact hi
 |own ok=>simp only[ak,Heap.get];split<;>simp_all
 |agg c =>
  show Heap.get (bm c b y.1++ak rs (b+1) y.2) i≠none;rw[Heap.get_append]
  split
  ·simp
  ·exact hi
theorem Kt(c:List CK):∀{H:Hp} {a b:Nat} {x:qD c} {vs:List Value},(∀j,(bm c b x).get (b+j)≠none→h' (b+j)≠none→H (a+j)≠none∧ψ' (b+j)=ψ (a+j)) → aq Z ψ H w (aI c a x) vs→aq Z ψ' h' w (aI c b x) vs:=by
 induction c with
 |nil=>intro H a b x vs _ hr;simpa only[aI,aq] using hr
 |cons k c ih =>
  intro H a b x vs hH hr
  cases k with
  |val k =>have rR:aq Z ψ H w (enc k x.1++aI c (a+1) x.2) vs:=hr;obtain⟨us,ws,rfl,h1,h2⟩:=rR.split;show aq Z ψ' h' w (enc k x.1++aI c (b+1) x.2) (us++ws);refine(h1.move (p:=fun _=>False) (fun _ h=>h) (cy.refl _ _) (fun _ hp _=>hp.elim) (lV _ k x.1)).append (ih (fun j hj bw=>?_) h2);have:=hH (j+1);rw[show b+(j+1)=b+1+j by omega,show a+(j+1)=a+1+j by omega]at this;exact this hj bw
  |own ok =>
   have rR:aq Z ψ H w (.bK a::aI c (a+1) x.2) vs:=hr;simp only[aq]at rR;obtain⟨v,us,rfl,h1,h2⟩:=rR;show aq Z ψ' h' w (.bK b::aI c (b+1) x.2) (v::us);simp only[aq];refine⟨v,us,rfl,?_,ih (fun j hj bw=>?_) h2⟩
   ·simp only[aC]at h1 ⊢;refine⟨h1.1,fun bw=>?_⟩;obtain⟨h3,h4⟩:=hH 0 (by simp[bm,Heap.get]) bw;rw[Nat.add_zero,Nat.add_zero]at h4;rw[h4];exact h1.2 h3
   ·have:=hH (j+1);rw[show b+(j+1)=b+1+j by omega,show a+(j+1)=a+1+j by omega]at this;refine this ?_ bw;have e:(bm (.own ok::c) b x).get (b+1+j)=(bm c (b+1) x.2).get (b+1+j):=by simp only[bm,Heap.get];rw[if_neg (by omega)]
    rw[e];exact hj
theorem Qh(rs:List RK):∀{H:Hp} {n m a b:Nat} {y:lL rs} {vs:List Value},rs.all RK.plain=true→(∀j,(ak rs b y).get (b+j)≠none→h' (b+j)≠none→H (a+j)≠none∧ψ' (b+j)=ψ (a+j)) → aq Z ψ H w (bf rs [] n a y) vs→aq Z ψ' h' w (bf rs [] m b y) vs:=by
 induction rs with
 |nil=>intro H n m a b y vs _ _ hr;simpa only[bf,aq] using hr
 |cons r rs ih =>
  intro H n m a b y vs hp hH hr;have hpa:=hp;simp only[List.all_cons,Bool.and_eq_true]at hp;have X9:∀j,(ak rs (b+1) y.2).get (b+1+j)≠none→h' (b+1+j)≠none→H (a+1+j)≠none∧ψ' (b+1+j)=ψ (a+1+j):=fun j hj bw=>by have:=hH (j+1);rw[show b+(j+1)=b+1+j by omega,show a+(j+1)=a+1+j by omega]at this;exact this (UQ _ _ _ _ _ hj) bw
  cases r with
  |val k =>simp only[bf,aq]at hr ⊢;obtain⟨v,us,rfl,h1,h2⟩:=hr;exact⟨v,us,rfl,Qg h1,ih hp.2 X9 h2⟩
  |own ok =>simp only[bf,aq]at hr ⊢;obtain⟨v,us,rfl,h1,h2⟩:=hr;refine⟨v,us,rfl,?_,ih hp.2 X9 h2⟩;simp only[aC]at h1 ⊢;refine⟨h1.1,fun bw=>?_⟩;obtain⟨h3,h4⟩:=hH 0 (by simp[ak,Heap.get]) bw;rw[Nat.add_zero,Nat.add_zero]at h4;rw[h4];exact h1.2 h3
  |eX b c=>simp[RK.plain]at hp
  |agg c =>
   simp only[bf,aq]at hr ⊢;obtain⟨v,us,rfl,h1,h2⟩:=hr;refine⟨v,us,rfl,?_,ih hp.2 X9 h2⟩;simp only[aC]at h1 ⊢;obtain⟨ws,rfl,h3⟩:=h1;refine⟨ws,rfl,Kt c (fun j hj bw=>hH j ?_ bw) h3⟩;show Heap.get (bm c b y.1++ak rs (b+1) y.2) (b+j)≠none;rw[Heap.get_append]
   split
   ·simp
   ·rename_i yF;exact absurd yF hj
theorem tX{WD WE:Nat→Value}{aax aay:Hp}{aaz aaA:Nat→Prop}{l l':List AV}{V:Value}(hl:l.length=l'.length)(hm:∀vs,aq aaz WD aax w l vs→aq aaA WE aay w l' vs)(hr:aC aaz WD aax w (fh l) V):aC aaA WE aay w (fh l') V:=by
 match l,l',hl with
 |[a],[a'],_ =>
  simp only[fh]at hr ⊢;have:=hm [V] (by simp only[aq];exact⟨V,[],rfl,hr,rfl⟩);simp only[aq]at this;obtain⟨v,us,e,h1,_⟩:=this
  cases e;exact h1
 |[],[],_ =>simp only[fh,aC]at hr ⊢;obtain⟨us,rfl,h1⟩:=hr;exact⟨us,rfl,hm _ h1⟩
 |a::b::r,a'::b'::r',_ =>simp only[fh,aC]at hr ⊢;obtain⟨us,rfl,h1⟩:=hr;exact⟨us,rfl,hm _ h1⟩
theorem kc(rs:List RK):∀(ids:List Nat) (n m:Nat) (y:lL rs),(bf rs ids n m y).length=rs.length:=by
 induction rs with
 |nil=>intros;rfl
 |cons r rs ih=>intro ids n m y;cases r<;>simp[bf,ih]
theorem zY:∀(k:K) (x:k.T) (r:List AV),dec k (enc k x++r)=some (x,r)
 |.int _,x,r=>by simp only[enc,List.cons_append,List.nil_append,dec,Ff,if_true];rfl
 |.bool,x,r=>by simp only[enc,List.cons_append,List.nil_append,dec,zL];rfl
 |.str,x,r=>by simp only[enc,List.cons_append,List.nil_append,dec,Fg];rfl
 |.sl k,x,r=>by simp only[enc,List.cons_append,List.nil_append,dec,LW];rfl
 |.mp kk vk,x,r=>by simp only[enc,List.cons_append,List.nil_append,dec,LY];rfl
 |.pair a b,x,r=>by simp only[enc,dec,List.append_assoc];rw[zY a x.1 (enc b x.2++r)];simp only[];rw[zY b x.2 r];rfl
 |.one k,x,r=>by simp only[enc,dec];exact zY k x r
theorem tY(k:K)(x:k.T):dL k (enc k x)=some x:=by unfold dL;have:=zY k x [];rw[List.append_nil]at this;rw[this]
theorem tZ:∀(k:K) (x:k.T),(cp k x).cells=enc k x
 |.int _,_=>rfl
 |.bool,_=>rfl
 |.str,_=>rfl
 |.sl _,_=>rfl
 |.mp _ _,_=>rfl
 |.pair a b,x=>rfl
 |.one k,x=>rfl
theorem Ma:∀(k:K) (x:k.T),cp k x≠.no
 |.int _,_=>by simp[cp]
 |.bool,_=>by simp[cp]
 |.str,_=>by simp[cp]
 |.sl _,_=>by simp[cp]
 |.mp _ _,_=>by simp[cp]
 |.pair a b,x=>by simp[cp]
 |.one k,x=>by simp[cp]
theorem Bb:∀(k:K) (x:k.T),(cp k x).isAgg=k.isAgg
 |.int _,_=>rfl
 |.bool,_=>rfl
 |.str,_=>rfl
 |.sl _,_=>rfl
 |.mp _ _,_=>rfl
 |.pair a b,x=>rfl
 |.one k,x=>rfl
theorem NI{k:K}{x:k.T}{v:Value}(hr:aC Z ψ h w (cp k x) v):aL Z w k x v.cells.toList:=by have h1:=hr.cells (Ma k x);rw[tZ]at h1;exact dM (tY k x) h1
theorem Ku{k:K}{x:k.T}{v:Value}(hr:aC Z ψ h w (cp k x) v):(k.isAgg=true→∃vs,v=.agg vs)∧(k.isAgg=false→v.cells=#[v]) :=⟨fun h=>P9 (by rw[Bb];exact h) hr,fun h=>D5 (by rw[Bb];exact h) (Ma k x) hr⟩
theorem Qi(rs:List RK):∀{H:Hp} {n m a b:Nat} {y:lL rs} {vs:List Value},rs.all RK.flat=true→rs.all RK.plain=true→aq Z ψ H w (bf rs [] n a y) vs→aq Z' ψ' h' w' (bf rs [] m b y) vs:=by
 induction rs with
 |nil=>intro H n m a b y vs _ _ hr;simpa only[bf,aq] using hr
 |cons r rs ih =>
  intro H n m a b y vs hf hp hr;simp only[List.all_cons,Bool.and_eq_true]at hp hf
  cases r with
  |val k =>simp only[bf,aq]at hr ⊢;obtain⟨v,us,rfl,h1,h2⟩:=hr;have hk:k.flat=true:=hf.1;obtain⟨h3,h4⟩:=Ku h1;exact⟨v,us,rfl,lO ((NI h1).flat hk) h3 h4,ih hf.2 hp.2 h2⟩
  |own ok=>simp[RK.flat]at hf
  |eX b c=>simp[RK.plain]at hp
  |agg c=>simp[RK.flat]at hf
theorem NJ(rs:List RK):∀(a:Nat) (y:lL rs),rs.all RK.flat=true→rs.all RK.plain=true→ak rs a y=[]:=by
 induction rs with
 |nil=>intros;rfl
 |cons r rs ih =>
  intro a y hf hp;simp only[List.all_cons,Bool.and_eq_true]at hp hf
  cases r with
  |val k=>simp only[ak];exact ih _ _ hf.2 hp.2
  |own ok=>simp[RK.flat]at hf
  |eX b c=>simp[RK.plain]at hp
  |agg c=>simp[RK.flat]at hf
theorem vc:∀(ps:List PK) (vs:List AV),cI ps vs=some []→∀v∈vs,∀id,AV.bK id∈v.cells→AV.bK id∈dw ps vs
 |[],vs,hi,v,hv,id,bS=>by
  cases vs with
  |nil=>cases hv
  |cons a r=>simp[cI]at hi
 |p::ps,vs,hi,v,hv,id,bS=>by
  obtain⟨a,r,rfl,tL,UP,X7,X8⟩:=yD hi;rcases acp.1 hv with rfl|hv
  ·cases p with
   |val k=>simp only[dw];exact acq _ bS
   |ref=>exact absurd rfl UP.1
   |own=>exact absurd rfl UP.2
   |G1 f n=>rw[X7 f n rfl]at bS;simp[AV.cells]at bS
   |agg n=>rw[X8 n rfl]at bS;simp[AV.cells]at bS
  ·have:=vc ps r tL v hv id bS
   cases p with
   |val k=>simp only[dw];exact ac2 _ this
   |ref=>exact absurd rfl UP.1
   |own=>exact absurd rfl UP.2
   |G1 f n=>simpa only[dw] using this
   |agg n=>simpa only[dw] using this
theorem Bc(f:FuncId)(vs:List AV):tI f vs%1000=f%1000:=by
 induction vs with
 |nil=>rfl
 |cons v r ih =>
  cases v with
  |fn g cap=>exact Nat.add_mul_mod_self_left f 1000 _
  |_=>simp only[tI];exact ih
theorem wY{Sg:FuncId→Option aS}(f:FuncId)(vs:List AV):keyOf Sg f vs%1000=f%1000:=by
 unfold keyOf
 split
 ·exact(Nat.add_mul_mod_self_right (tI f vs) 500 1000).trans (Bc f vs)
 ·exact Bc f vs
theorem Next.imp{N':Nat→Prop}(n:Next Z ψ h w B0 O N Z' ψ' h' w')(hi:∀i,N i→N' i):Next Z ψ h w B0 O N' Z' ψ' h' w' :=⟨n.fU,n.eQ,n.keep,fun id bS=>(n.ids id bS).imp (fun h=>h) (hi id),n.dZ⟩
theorem wZ{rs:List RK}{y:lL rs}(hp:rs.all RK.plain=true){id nb:Nat}(g:Good Z ψ h w B0 O)(hB:B0≤w.heap.size) (bz:∀i ty cs,h i=some (.box ty cs)→aG (fun i=>¬N i) cs) (hN:∀j,j<rs.length+16→N (id+j)) (k:dg JZ gq w w') (hz:∀b,Z b→Z' b) (Pw:∀b,Z' b→Z b∨w.heap.size≤b) (gc:Good Z' ψ' (ak rs 3000 y).get w' w.heap.size (fun _=>False)) {v:Value} (hr:aC Z' ψ' (ak rs 3000 y).get w' (fh (bf rs [] 2000 3000 y)) v) :
  ∃ua,Next Z ψ h w B0 O N Z' ua (fun i=>match (ak rs id y).get i with|some o=>some o|none=>h i) w' ∧
   aC Z' ua (fun i=>match (ak rs id y).get i with|some o=>some o|none=>h i) w' (fh (bf rs [] nb id y)) v:=by
 classical
 let H:Hp:=fun i=>match (ak rs id y).get i with|some o=>some o|none=>h i
 let NN:Nat→Prop:=fun i=>(ak rs id y).get i≠none
 let ua:Nat→Value:=fun i=>if NN i then ψ' (3000+(i-id)) else ψ i
 have hNN:∀i,NN i→∃j,j<rs.length+16∧i=id+j:=fun i hi=>by have h1:¬i<id:=fun aF=>hi (qX rs id y i hp aF);have h2:¬id+rs.length+16≤i:=fun WG=>hi (Hz rs id y i hp WG);exact⟨i-id,by omega,by omega⟩
 have yG:∀i,NN i→(ak rs 3000 y).get (3000+(i-id))=(ak rs id y).get i:=fun i hi=>by obtain⟨j,_,rfl⟩:=hNN i hi;rw[show id+j-id=j by omega];exact HA rs 3000 id y j hp
 have hH:∀i,NN i→H i=(ak rs 3000 y).get (3000+(i-id)):=fun i hi=>by
  rw[yG i hi];show(match (ak rs id y).get i with|some o=>some o|none=>h i)=_
  cases e:(ak rs id y).get i with
  |none=>exact absurd e hi
  |some o=>rfl
 have jf:∀i,NN i→ua i=ψ' (3000+(i-id)):=fun i hi=>if_pos hi;have aaB:∀i,NN i→N i:=fun i hi=>by obtain⟨j,hj,rfl⟩:=hNN i hi;exact hN j hj
 have n:=Good.aaw (N:=NN) (ψ':=ua) (h':=H) g k hz Pw gc.jO (fun i hi=>by
   have e:(ak rs id y).get i=none:=Classical.not_not.1 hi;refine⟨?_,if_neg hi⟩;show(match (ak rs id y).get i with|some o=>some o|none=>h i)=h i;rw[e])
  (fun i ty cs hb=>(bz i ty cs hb).imp (fun i hi hni=>hi (aaB i hni)))
  (fun i ty cs hi hb=>by rw[hH i hi]at hb;exact u9 _ _ _ _ _ _ hp hb)
  (fun i ok xs hi hb=>by rw[hH i hi]at hb;rw[jf i hi];exact gc.row _ _ _ hb)
  (fun i b hi h1 h2=>by rw[hH i hi]at h1;rw[jf i hi]at h2;obtain⟨h3,h4⟩:=gc.live _ b h1 h2;exact⟨h4.resolve_right (fun h=>h),h3⟩)
  (fun i i' b hi tL h1 h2 h3 h4=>by rw[hH i hi]at h1;rw[hH i' tL]at h2;rw[jf i hi]at h3;rw[jf i' tL]at h4;have:=gc.apart _ _ b h1 h2 h3 h4;obtain⟨j,_,rfl⟩:=hNN i hi;obtain⟨j',_,rfl⟩:=hNN i' tL;omega) hB
 refine⟨ua,n.imp aaB,?_⟩;refine tX (by rw[kc,kc]) (fun vs tN=>?_) hr;refine Qh (h':=H) (ψ':=ua) rs (n:=2000) (a:=3000) hp (fun j hn bw=>?_) tN
 replace hn:NN (id+j):=hn
 have e1:=hH _ hn;have e2:=jf _ hn;rw[show id+j-id=j by omega]at e1 e2;exact⟨by rw[←e1];exact bw,e2⟩
def jo(P:Program)(f:FuncId):Prop:=∃fn,P.funcs[f]? = some fn∧(fn.name== "runtime.NumGoroutine")=false∧fn.body.isSome=true
theorem jq{f:FuncId}(hc:jo P f)(args:Array Value):(callFunc f args).run P w=.ok (.enter f args) w:=by obtain⟨fn,h1,h2,h3⟩:=hc;obtain⟨c,hc⟩:=adq.1 h3;simp[callFunc,h1,hc,show ¬fn.name= "runtime.NumGoroutine" by simpa using h2]
def WH(P:Program)(ρC:Operand→Value)(o:Oper)(Z:Nat→Prop)(ψ:Nat→Value)(h:Hp)(w:World)(B0:Nat)(O N:Nat→Prop)(e:bL):Prop :=∃f args,(execOp ρC o).run P w=.ok (.enter f args) w∧Calls P f args w fun en w'=>∃V Z' ψ',en=.returned V∧Next Z ψ h w B0 O N Z' ψ' (e.hp h) w'∧aC Z' ψ' (e.hp h) w' e.v V
def cH:(rs:List RK)→List AV→Nat→lL rs→List yC
 |[],_,_,_=>[]
 |.own ok::r,vs,m,x=>(m,(o8 (vs.headD .no)).head?,.own ok x.1)::cH r vs.tail (m+1) x.2
 |.val _::r,vs,m,x=>cH r vs.tail (m+1) x.2
 |.eX _ _::r,vs,m,x=>cH r vs.tail (m+1) x.2
 |.agg c::r,vs,m,x=>dO c m (vs.headD .no).cells x.1++cH r vs.tail (m+1) x.2
theorem gI:∀(rs:List RK) (vs:List AV) (m:Nat) (x:lL rs),dH (cH rs vs m x)=ak rs m x
 |[],_,_,_=>rfl
 |.own ok::r,vs,m,x=>by simp only[cH,ak];rw[←gI r vs.tail (m+1) x.2];rfl
 |.val _::r,vs,m,x=>gI r vs.tail (m+1) x.2
 |.eX _ _::r,vs,m,x=>gI r vs.tail (m+1) x.2
 |.agg c::r,vs,m,x=>by have e1:dH (dO c m (vs.headD .no).cells x.1)=bm c m x.1:=mT c m _ x.1;have e2:=gI r vs.tail (m+1) x.2;simp only[cH,ak];rw[mU,e2];exact congrArg (·++_) e1
theorem fO:∀(rs:List RK) (vs:List AV) (m:Nat) (x:lL rs),(cH rs vs m x).map (·.1)=bD rs m
 |[],_,_,_=>rfl
 |.own ok::r,vs,m,x=>by simp only[cH,bD,List.map_cons];rw[fO r vs.tail (m+1) x.2]
 |.val _::r,vs,m,x=>fO r vs.tail (m+1) x.2
 |.eX _ _::r,vs,m,x=>fO r vs.tail (m+1) x.2
 |.agg c::r,vs,m,x=>by have e1:(dO c m (vs.headD .no).cells x.1).map (·.1)=cq c m:=lh c m _ x.1;have e2:=fO r vs.tail (m+1) x.2;simp only[cH,bD,List.map_append];rw[e2];exact congrArg (·++_) e1
theorem pC{bs:List BK}{k:K}{r:List RK}{hh:Heap}{ids:List Nat}{vs:List AV}{x:lL (.val k::r)}(hd:bM bs (.val k::r) hh ids vs=some x):∃v g9,vs=v::g9∧fX k hh v=some x.1∧bM bs r hh ids g9=some x.2:=by
 cases vs with
 |nil=>cases hd
 |cons v vs =>
  have e:bM bs (.val k::r) hh ids (v::vs)=(match fX k hh v,bM bs r hh ids vs with
   |some x,some y=>some ((x,y):k.T×lL r)
   |_,_=>none):=rfl
  rw[e]at hd;clear e;refine⟨v,vs,rfl,?_⟩;generalize fX k hh v=o1 at hd ⊢;generalize bM bs r hh ids vs=o2 at hd ⊢
  cases o1 with
  |none=>cases hd
  |some x1 =>
   cases o2 with
   |none=>cases hd
   |some y1=>have:=ac5 hd;subst this;exact⟨rfl,rfl⟩
theorem pG{bs:List BK}{ok:OK}{r:List RK}{hh:Heap}{ids:List Nat}{vs:List AV}{x:lL (.own ok::r)}(hd:bM bs (.own ok::r) hh ids vs=some x):∃v g9,vs=v::g9∧dX hh ok v=some x.1∧bM bs r hh ids g9=some x.2:=by
 cases vs with
 |nil=>cases hd
 |cons v vs =>
  have e:bM bs (.own ok::r) hh ids (v::vs)=(match dX hh ok v,bM bs r hh ids vs with
   |some x,some y=>some ((x,y):ok.T×lL r)
   |_,_=>none):=rfl
  rw[e]at hd;clear e;refine⟨v,vs,rfl,?_⟩;generalize dX hh ok v=o1 at hd ⊢;generalize bM bs r hh ids vs=o2 at hd ⊢
  cases o1 with
  |none=>cases hd
  |some x1 =>
   cases o2 with
   |none=>cases hd
   |some y1=>have:=ac5 hd;subst this;exact⟨rfl,rfl⟩
theorem mV{bs:List BK}{b:Nat}{alts:List (Nat×Nat×Nat)}{r:List RK}{hh:Heap}{ids:List Nat}{vs:List AV}{x:lL (.eX b alts::r)}(hd:bM bs (.eX b alts::r) hh ids vs=some x):∃v g9,vs=v::g9∧nt bs hh ids b alts v=some x.1∧bM bs r hh ids g9=some x.2:=by
 cases vs with
 |nil=>cases hd
 |cons v vs =>
  have e:bM bs (.eX b alts::r) hh ids (v::vs)=(match nt bs hh ids b alts v,bM bs r hh ids vs with
   |some x,some y=>some ((x,y):Option (Fin alts.length×Nat)×lL r)
   |_,_=>none):=rfl
  rw[e]at hd;clear e;refine⟨v,vs,rfl,?_⟩;generalize nt bs hh ids b alts v=o1 at hd ⊢;generalize bM bs r hh ids vs=o2 at hd ⊢
  cases o1 with
  |none=>cases hd
  |some x1 =>
   cases o2 with
   |none=>cases hd
   |some y1=>have:=ac5 hd;subst this;exact⟨rfl,rfl⟩
theorem pH{bs:List BK}{c:List CK}{r:List RK}{hh:Heap}{ids:List Nat}{vs:List AV}{x:lL (.agg c::r)}(hd:bM bs (.agg c::r) hh ids vs=some x):∃cs g9,vs=.agg cs::g9∧cQ c hh cs=some x.1∧bM bs r hh ids g9=some x.2:=by
 cases vs with
 |nil=>cases hd
 |cons v vs =>
  have e:bM bs (.agg c::r) hh ids (v::vs)=(match AE c hh v,bM bs r hh ids vs with
   |some x,some y=>some ((x,y):qD c×lL r)
   |_,_=>none):=rfl
  rw[e]at hd;clear e;have key:AE c hh v=some x.1∧bM bs r hh ids vs=some x.2:=by
   generalize AE c hh v=o1 at hd ⊢;generalize bM bs r hh ids vs=o2 at hd ⊢
   cases o1 with
   |none=>cases hd
   |some x1 =>
    cases o2 with
    |none=>cases hd
    |some y1=>have:=ac5 hd;subst this;exact⟨rfl,rfl⟩
  obtain⟨h1,h2⟩:=key;unfold AE at h1
  split at h1
  ·exact⟨_,vs,rfl,h1,h2⟩
  ·cases h1
theorem hM{bs:List BK}{hh:Heap}{ids:List Nat}:∀(rs:List RK) (vs:List AV) (x:lL rs),bM bs rs hh ids vs=some x→vs.length=rs.length
 |[],[],_,_=>rfl
 |[],_::_,_,h=>by cases h
 |.val k::r,vs,x,h=>by obtain⟨v,g9,rfl,_,h2⟩:=pC h;simp[hM r g9 x.2 h2]
 |.own ok::r,vs,x,h=>by obtain⟨v,g9,rfl,_,h2⟩:=pG h;simp[hM r g9 x.2 h2]
 |.eX _ _::r,vs,x,h=>by obtain⟨v,g9,rfl,_,h2⟩:=mV h;simp[hM r g9 x.2 h2]
 |.agg _::r,vs,x,h=>by obtain⟨v,g9,rfl,_,h2⟩:=pH h;simp[hM r g9 x.2 h2]
theorem iM{bs:List BK}{hh:Heap}{ids:List Nat}:∀(rs:List RK) (vs:List AV) (m:Nat) (x:lL rs),bM bs rs hh ids vs=some x→(cH rs vs m x).filterMap (·.2.1)=dS rs vs
 |[],vs,_,_,_=>by cases vs<;>rfl
 |.own ok::r,vs,m,x,h=>by obtain⟨v,g9,rfl,_,h2⟩:=pG h;simp only[cH,dS,List.headD_cons,List.tail_cons];rw[dV,iM r g9 (m+1) x.2 h2];simp only[];rw[wW]
 |.val k::r,vs,m,x,h=>by obtain⟨v,g9,rfl,_,h2⟩:=pC h;simp only[cH,dS,List.tail_cons];exact iM r g9 (m+1) x.2 h2
 |.eX _ _::r,vs,m,x,h=>by obtain⟨v,g9,rfl,_,h2⟩:=mV h;simp only[cH,dS,List.tail_cons];exact iM r g9 (m+1) x.2 h2
 |.agg c::r,vs,m,x,h=>by obtain⟨cs,g9,rfl,h1,h2⟩:=pH h;simp only[cH,dS,List.headD_cons,List.tail_cons,AV.cells];have e1:(dO c m cs x.1).filterMap (·.2.1)=fT c cs:=pw c m hh cs x.1 h1;rw[List.filterMap_append,iM r g9 (m+1) x.2 h2];exact congrArg (·++_) e1
theorem jT{hd:Hp}{bs:List BK}{hh:Heap}{ids:List Nat}:∀(rs:List RK) (vs:List AV) (m:Nat) (x:lL rs),bM bs rs hh ids vs=some x→(∀s∈dS rs vs,hd s=hh.get s)→∀e∈cH rs vs m x,u7 Z ψ hd w h' ψ' e
 |[],_,_,_,_,_,e,he=>by simp[cH]at he
 |.own ok::r,vs,m,x,h,hk,e,he=>by
  obtain⟨v,g9,rfl,h1,h2⟩:=pG h;simp only[cH,dS,List.headD_cons,List.tail_cons]at he hk;rcases acp.1 he with rfl|he
  ·exact L9 h1 fun s hs=>hk s (acq _ hs)
  ·exact jT r g9 (m+1) x.2 h2 (fun s hs=>hk s (ac2 _ hs)) e he
 |.val k::r,vs,m,x,h,hk,e,he=>by obtain⟨v,g9,rfl,h1,h2⟩:=pC h;exact jT r g9 (m+1) x.2 h2 hk e he
 |.eX _ _::r,vs,m,x,h,hk,e,he=>by obtain⟨v,g9,rfl,h1,h2⟩:=mV h;exact jT r g9 (m+1) x.2 h2 hk e he
 |.agg c::r,vs,m,x,h,hk,e,he=>by
  obtain⟨cs,g9,rfl,h1,h2⟩:=pH h;simp only[cH,dS,List.headD_cons,List.tail_cons,AV.cells]at he hk;rcases ac8.1 he with he|he
  ·exact r8 c m cs x.1 h1 (fun s hs=>hk s (acq _ hs)) e he
  ·exact jT r g9 (m+1) x.2 h2 (fun s hs=>hk s (ac2 _ hs)) e he
theorem w4{hh:Heap}{id:Nat}:∀(dx:List CK) (c n:Nat) (cs:List AV) (x:qD dx),cQ dx hh cs=some x→fY dx c=true→cs[mP dx c]? = some (.bK id)→hh.get id≠none∧∃o,(n+c,some id,o)∈dO dx n cs x
 |[],c,n,cs,x,_,h,_=>by simp[fY]at h
 |.val k::r,0,n,cs,x,_,h,_=>by simp[fY]at h
 |.val k::r,c+1,n,cs,x,hd,h,hc=>by obtain⟨_,h2⟩:=pq hd;obtain⟨h3,o,h4⟩:=w4 r c (n+1) (cs.drop k.sz) x.2 h2 (by simpa[fY] using h) (by rw[List.getElem?_drop];simpa[mP] using hc);exact⟨h3,o,by rw[show n+(c+1)=n+1+c by omega];exact h4⟩
 |.own ok::r,0,n,cs,x,hd,h,hc=>by
  obtain⟨c0,cs',rfl,h1,h2⟩:=lR hd;simp only[mP,List.getElem?_cons_zero,Option.some.injEq]at hc;subst hc;rcases lS h1 with⟨h3,_⟩|⟨mJ,h3,h4⟩
  ·cases h3
  ·cases h3
   exact⟨by rw[h4];simp,_,by simp only[dO,List.headD_cons,o8,List.head?_cons];exact ac4⟩
 |.own ok::r,c+1,n,cs,x,hd,h,hc=>by obtain⟨c0,cs',rfl,h1,h2⟩:=lR hd;obtain⟨h3,o,h4⟩:=w4 r c (n+1) cs' x.2 h2 (by simpa[fY] using h) (by simp only[mP]at hc;rw[Nat.add_comm]at hc;simpa using hc);exact⟨h3,o,by rw[show n+(c+1)=n+1+c by omega];simp only[dO,List.tail_cons];exact acm _ h4⟩
theorem Be{hh:Heap}{id c:Nat}:∀(bs:List BK) (b n:Nat) (is is':List Nat) (x:wH bs) (bk:BK) (bi:Nat) (ty:TypeId) (cs:List AV),dd bs hh is=some x→is'.length=bs.length→bs[b]? = some bk→is[b]? = some bi→hh.get bi=some (.box ty cs) → fY bk.dx c=true→cs[mP bk.dx c]? = some (.bK id)→hh.get id≠none∧∃o,(n+16*b+c,some id,o)∈cE bs hh is is' n x
 |[],b,n,is,is',x,bk,bi,ty,cs,_,_,h,_,_,_,_=>by simp at h
 |b0::r,b,n,[],is',x,bk,bi,ty,cs,hd,_,_,_,_,_,_=>by cases hd
 |b0::r,b,n,i::is,[],x,bk,bi,ty,cs,_,hl,_,_,_,_,_=>by simp at hl
 |b0::r,0,n,i::is,i'::is',x,bk,bi,ty,cs,hd,hl,h1,h2,h3,h4,h5=>by
  obtain⟨g0,g3⟩:=fz hd;simp only[List.getElem?_cons_zero,Option.some.injEq]at h1 h2;subst h1;subst h2
  cases b0 with
  |own ok=>simp[BK.dx,fY]at h4
  |box ty0 c0 =>
   obtain⟨cs',g1,g2⟩:=rZ g0;rw[g1]at h3
   cases h3
   obtain⟨h6,o,h7⟩:=w4 c0 c n cs x.1 g2 h4 h5;refine⟨h6,o,?_⟩;simp only[cE,dU];rw[py g1];exact acq _ (acm _ (by simpa using h7))
 |b0::r,b+1,n,i::is,i'::is',x,bk,bi,ty,cs,hd,hl,h1,h2,h3,h4,h5=>by obtain⟨_,g3⟩:=fz hd;obtain⟨h6,o,h7⟩:=Be r b (n+16) is is' x.2 bk bi ty cs g3 (by simpa using hl) (by simpa using h1) (by simpa using h2) h3 h4 h5;refine⟨h6,o,?_⟩;rw[show n+16*(b+1)+c=n+16+16*b+c by omega];simp only[cE];exact ac2 _ h7
theorem Bf{c:List CK}{cs:List AV}{id s off:Nat}{a:Nat×Nat×Nat}(h:yk c cs id s off a=true):cs[mP c a.1]? = some (.bK id)∧s=a.2.1∧off=a.2.2∧fY c a.1=true:=by
 simp only[yk,Bool.and_eq_true,decide_eq_true_eq]at h;obtain⟨h1,h2,h3,h4⟩:=h;refine⟨?_,h2,h3,h4⟩;unfold PU at h1
 split at h1
 ·rename_i e;rw[e];simp only[beq_iff_eq]at h1;rw[h1]
 ·cases h1
theorem NK{bs:List BK}{hh:Heap}{ids:List Nat}{b:Nat}{alts:List (Nat×Nat×Nat)}{v:AV}{x:Option (Fin alts.length×Nat)}(hd:nt bs hh ids b alts v=some x):(v=.la∧x=none) ∨ ∃id i a bi bk ty cs,v=.ref id (alts.get a).2.1 i (alts.get a).2.2∧x=some (a,i)∧ids[b]? = some bi∧bs[b]? = some bk∧hh.get bi=some (.box ty cs)∧cs[mP bk.dx (alts.get a).1]? = some (.bK id)∧fY bk.dx (alts.get a).1=true:=by
 unfold nt at hd
 split at hd
 ·cases hd;exact .inl ⟨rfl,rfl⟩
 ·rename_i id s i off
  split at hd
  ·rename_i bi bk h1 h2
   split at hd
   ·rename_i ty cs h3
    split at hd
    ·rename_i a h4
     cases hd
     have h4':yk bk.dx cs id s off (alts.get a)=true:=by simpa using aeE (p:=fun a=>yk bk.dx cs id s off (alts.get a)) h4
     obtain⟨h5,rfl,rfl,h6⟩:=Bf h4';exact .inr ⟨id,i,a,bi,bk,ty,cs,rfl,rfl,h1,h2,h3,h5,h6⟩
    ·cases hd
   ·cases hd
  ·cases hd
 ·cases hd
theorem sd{bs:List BK}{hh:Heap}{ids is' ids2:List Nat}{nb:Nat}{yb:wH bs}(g:Good Z ψ hh.get w B0 O)(hz:∀b,Z b→Z' b)(hb:dd bs hh ids=some yb)(hl:is'.length=bs.length) (Qj:∀e∈cE bs hh ids is' nb yb,h' e.1≠none→ψ' e.1=jR ψ e.2.1):∀(rs:List RK) (vs:List AV) (m:Nat) (x:lL rs) (us:List Value),bM bs rs hh ids vs=some x →(∀id b,AV.bK id∈gi rs vs→hh.get id≠none→ob (ψ id)=some b→Z' b)→(∀e∈cH rs vs m x,h' e.1≠none→ψ' e.1=jR ψ e.2.1)→aq Z ψ hh.get w vs us→aq Z' ψ' h' w (bf rs ids2 nb m x) us
 |[],vs,m,x,us,hd,_,_,hr=>by have:=hM [] vs x hd;have hv:vs=[]:=adx this;subst hv;simpa only[bf,aq] using hr
 |.val k::r,vs,m,x,us,hd,hf,jf,hr=>by obtain⟨v,g9,rfl,h1,h2⟩:=pC hd;simp only[aq]at hr;obtain⟨u,iY,rfl,h3,h4⟩:=hr;simp only[bf,aq];simp only[gi]at hf;exact⟨u,iY,rfl,rU g hz (fun id b bS=>hf id b (acq _ bS)) h1 h3,sd g hz hb hl Qj r g9 (m+1) x.2 iY h2 (fun id b bS=>hf id b (ac2 _ bS)) jf h4⟩
 |.own ok::r,vs,m,x,us,hd,hf,jf,hr=>by obtain⟨v,g9,rfl,h1,h2⟩:=pG hd;simp only[aq]at hr;obtain⟨u,iY,rfl,h3,h4⟩:=hr;simp only[bf,aq];simp only[cH,List.headD_cons,List.tail_cons]at jf;exact⟨u,iY,rfl,Fy h1 h3 (fun hn=>jf _ ac4 hn),sd g hz hb hl Qj r g9 (m+1) x.2 iY h2 hf (fun e he=>jf e (acm _ he)) h4⟩
 |.eX b alts::r,vs,m,x,us,hd,hf,jf,hr=>by
  obtain⟨v,g9,rfl,h1,h2⟩:=mV hd;simp only[aq]at hr;obtain⟨u,iY,rfl,h3,h4⟩:=hr;simp only[bf,aq];refine⟨u,iY,rfl,?_,sd g hz hb hl Qj r g9 (m+1) x.2 iY h2 hf jf h4⟩;rcases NK h1 with⟨rfl,h5⟩|⟨id,i,al,bi,bk,ty,cs,rfl,h5,h6,h7,h8,h9,nF⟩
  ·have:x.1=none:=h5;rw[this];simpa only[uK,aC] using h3
  ·have:x.1=some (al,i):=h5;rw[this];obtain⟨zq,o,JX⟩:=Be bs b nb ids is' yb bk bi ty cs hb hl h7 h6 h8 nF h9;simp only[uK,aC]at h3 ⊢;obtain⟨ad,Ui,WI⟩:=h3;refine⟨ad,Ui,fun hn=>?_⟩;rw[Qj _ JX hn,WI zq];rfl
 |.agg c::r,vs,m,x,us,hd,hf,jf,hr=>by obtain⟨cs,g9,rfl,h1,h2⟩:=pH hd;simp only[aq]at hr;obtain⟨u,iY,rfl,h3,h4⟩:=hr;simp only[bf,aq];simp only[gi,AV.cells]at hf;simp only[cH,List.headD_cons,List.tail_cons,AV.cells]at jf;refine⟨u,iY,rfl,?_,sd g hz hb hl Qj r g9 (m+1) x.2 iY h2 (fun id b bS=>hf id b (ac2 _ bS)) (fun e he=>jf e (ac2 _ he)) h4⟩;simp only[aC]at h3 ⊢;obtain⟨ws,rfl,h5⟩:=h3;exact⟨ws,rfl,rY g hz c m cs x.1 _ h1 (fun id b bS=>hf id b (acq _ bS)) (fun e he=>jf e (acq _ he)) h5⟩
end Go.Vs
