/- The value semantics is sound -/
import Derived.Test.YtoleelddkocpkaaGreatEngineA
import Derived.Laws.StructEq
import Derived.Laws.Slices
import Derived.Laws.Strings
import Derived.MapKept
import Derived.Lib.AppendStr
import Derived.Laws.BytesString
set_option linter.unusedSimpArgs false
set_option linter.unusedVariables false
namespace Go.Vs
variable {P:Program} {Z Z':Nat→Prop} {ψ ψ':Nat→Value} {h h':Hp} {w w':World} {B0:Nat} {O:Nat→Prop} {N:Nat→Prop}
def bD.hp(h:Hp):bD→Hp
 |.val _=>h
 |.new _ os=>fun i=>match Heap.get os i with
  |some o=>some o
  |none=>h i
 |.wr _ h'=>h'.get
theorem iy(id:Nat)(o:Ob)(h:Hp):(fun i=>match Heap.get [(id,o)] i with|some o=>some o|none=>h i)=eI h id (some o):=by
 funext i;simp only[Heap.get,eI]
 grind
theorem lu(hh:Heap)(id:Nat)(o:Ob):(hh.set id o).get=eI hh.get id (some o):=by
 grind [id,Heap.yf,bg,Heap.DH,dO]
theorem uW(hh:Heap)(id:Nat):(hh.del id).get=eI hh.get id none:=by
 grind [id,Heap.iI,bg,Heap.jE,dO]
theorem DR(hh:Heap)(id:Nat)(o:Ob):Heap.get ((id,o)::hh)=eI hh.get id (some o):=by
 funext i;simp only[Heap.get,eI]
 grind
def iW(P:Program)(ρC:Operand→Value)(o:Oper)(Z:Nat→Prop)(ψ:Nat→Value)(h:Hp)(w:World)(B0:Nat)(O N:Nat→Prop)(e:bD):Prop :=∃V w' Z' ψ',((execOp ρC o).run P w=.ok (.value V) w'∨((execOp ρC o).run P w=.ok .skip w'∧V=undef))∧Next Z ψ h w B0 O N Z' ψ' (e.hp h) w'∧aD Z' ψ' (e.hp h) w' e.v V
theorem iW.val{ρC:Operand→Value}{o:Oper}{x:AV}(g:Good Z ψ h w B0 O){V:Value}(hr:(execOp ρC o).run P w=.ok (.value V) w)(hx:aD Z ψ h w x V):iW P ρC o Z ψ h w B0 O N (.val x) :=⟨V,w,Z,ψ,.inl hr,Next.refl g,hx⟩
theorem Uq{ty:TypeId}{k:K}{xs:List k.T}{id n:Nat}{x:k.T}(g:Good Z ψ h w B0 O)(hg:h id=some (.own (.row ty k) xs))(hx:xs[n]? = some x) :
  ∃gg us,Y5 (ψ id)=gg∧aL Z w k x us∧∀(j:Nat) u,us[j]? = some u→w.cell? ⟨gg,n*k.sz+j,none⟩=some u:=by
 obtain⟨vs,ho,hv⟩:=g.row id (.row ty k) xs hg;have hn:n<xs.length:=(abp.1 hx).1;obtain⟨hl,e⟩:=ho;rcases e with⟨h0,_⟩|⟨gg,cap,cur,e1,_,e3,_,_,_,e7⟩
 ·omega
 ·refine⟨gg,_,by rw[e1];rfl,hv n x hx,fun j u hu=>?_⟩;rw[List.getElem?_take]at hu
  split at hu
  ·rw[List.getElem?_drop,←e7,List.getElem?_take]at hu
   split at hu
   ·simp only[World.cell?,e3];simpa using hu
   ·cases hu
  ·cases hu
theorem xg{hh:Heap}(g:Good Z ψ h w B0 O)(br:∀id o,hh.get id=some o→h id=some o){t:TypeId}{a:AV}{v:Value}{e:bD}(hv:aD Z ψ h w a v)(he:nq P hh t a some=some e) :
  ∃x V,e=.val x∧(Instr.loadAt t v).run P w=.ok V w∧aD Z ψ h w x V:=by
 unfold nq at he
 split at he
 ·rename_i id s i off;simp only[aD]at hv;obtain⟨a,rfl,ha⟩:=hv
  split at he
  ·rename_i ty cs hg;have q7:=br _ _ hg;have KX:=ha (by rw[q7];simp);obtain⟨gg,vs,e1,e2,e3,e4⟩:=g.box id ty cs q7
   split at he
   ·rename_i hi;subst hi
    split at he
    ·rename_i x hx
     cases he
     rw[e1]at KX;simp only[Y5,Nat.zero_mul,Nat.zero_add]at KX;subst KX;obtain⟨V,h1,h2⟩:=kP (a:=⟨gg,off,none⟩) (e3.drop off) (fun j u hu=>by rw[cF];simp only[World.cell?,e2];rw[List.getElem?_drop]at hu;simpa using hu) hx;exact⟨x,V,rfl,h1,h2⟩
    ·cases he
   ·cases he
  ·rename_i ty kk xs hg;have q7:=br _ _ hg;have KX:=ha (by rw[q7];simp)
   split at he
   ·rename_i hs;subst hs;obtain⟨x,hx,he⟩:=acY.1 he
    split at he
    ·rename_i y hy
     cases he
     obtain⟨gg,us,h1,h2,h3⟩:=Uq g q7 hx;rw[h1]at KX;subst KX;obtain⟨V,h4,h5⟩:=kP (a:=⟨gg,i*kk.sz+off,none⟩) ((iH (ψ:=ψ) (h:=h) h2).drop off) (fun j u hu=>by rw[cF,Nat.add_assoc];exact h3 _ _ (by rw[List.getElem?_drop]at hu;exact hu)) hy;exact⟨y,V,rfl,h4,h5⟩
    ·cases he
   ·cases he
  ·cases he
 ·rename_i kk x off
  split at he
  ·rename_i y hy
   cases he
   simp only[aD]at hv;obtain⟨a,us,rfl,_,h2,h3⟩:=hv;obtain⟨V,h4,h5⟩:=kP ((iH (ψ:=ψ) (h:=h) h2).drop off) (fun j u hu=>h3 j u (by rw[List.getElem?_drop]at hu;exact hu)) hy;exact⟨y,V,rfl,h4,h5⟩
  ·cases he
 ·cases he
theorem gI{t e:TypeId}(he:tp P t=some e):P.underlying t=some (.slice e):=by
 grind [tp]
theorem pK{t e:TypeId}(ht:P.underlying t=some (.slice e)){i:TypeInfo}(hi:P.info? e=some i)(a:Addr)(n c:Nat)(k:IntKind)(j:Int)(h0:0≤j)(h1:j<n) :
  (Instr.indexAt t (.slice (some a) n c) (.int k j)).run P w=.ok (.pointer (some (a.add (j.toNat*P.cellsOf e)))) w:=by
 simp[Instr.indexAt,asIntOf,run_underlying ht,h0,h1,dB hi]
theorem GF{t e:TypeId}{m:Nat}(ht:P.underlying t=some (.array m e)){i:TypeInfo}(hi:P.info? e=some i)(a:Addr)(k:IntKind)(j:Int)(h0:0≤j)(h1:j<m) :
  (Instr.indexAt t (.pointer (some a)) (.int k j)).run P w=.ok (.pointer (some (a.add (j.toNat*P.cellsOf e)))) w:=by
 simp[Instr.indexAt,asIntOf,run_underlying ht,h0,h1,dB hi,Instr.sureAddr]
theorem RV{α:Type}{xs:List α}{i:Int}{x:α}(hx:aP xs i=some x):0≤i∧i<xs.length∧xs[i.toNat]? = some x:=by
 grind [aP,List.getElem?_eq_some_iff]
theorem DS{t:TypeId}{x i:AV}{v u:Value}{e:bD}(hv:aD Z ψ h w x v)(hu:aD Z ψ h w i u)(he:jy P t x i some=some e) :
  ∃y V,e=.val y∧(Instr.indexAt t v u).run P w=.ok V w∧aD Z ψ h w y V:=by
 unfold jy at he
 split at he
 ·rename_i m et id s j off ik n ha;have ht:P.underlying t=some (.array m et):=by
   unfold ae9 at ha
   split at ha
   ·cases ha;assumption
   ·cases ha
  split at he
  ·cases he
  ·rename_i hs
   cases qi:(decide (0≤n)&&decide (n<(m:Int))) with
   |false=>rw[qi]at he;cases he
   |true =>
    rw[qi]at he
    cases he
    simp only[Bool.and_eq_true,decide_eq_true_eq]at qi;simp only[aD]at hv hu;subst hu;obtain⟨a,rfl,hva⟩:=hv;have hi:∃i,P.info? et=some i:=by
     cases hi:P.info? et with
     |some i=>exact⟨i,rfl⟩
     |none=>exfalso;simp[Program.cellsOf,hi]at hs
    obtain⟨inf,hi⟩:=hi;refine⟨_,_,rfl,GF ht hi a ik n qi.1 qi.2,?_⟩;simp only[aD];refine⟨_,rfl,fun bM=>?_⟩;rw[hva bM,cF,Nat.add_assoc]
 ·cases he
theorem sK{hh:Heap}(g:Good Z ψ h w B0 O)(br:∀id o,hh.get id=some o→h id=some o){t:TypeId}{x i:AV}{v u:Value}{e:bD}(hv:aD Z ψ h w x v)(hu:aD Z ψ h w i u)(he:dZ P hh t x i some=some e) :
  ∃y V,e=.val y∧(Instr.indexAt t v u).run P w=.ok V w∧aD Z ψ h w y V:=by
 unfold dZ at he
 split at he
 ·exact DS hv hu he
 ·rename_i et het;have ht:=gI het
  ·skip
   split at he
   ·rename_i ex PW xs ik n;simp only[aD]at hv hu;subst hu
    split at he
    ·rename_i hs;obtain⟨y,hy,he⟩:=acY.1 he
     cases he
     obtain⟨h0,h1,h2⟩:=RV hy;obtain⟨hk,_⟩:=hv;simp only[aL]at hk;obtain⟨v',CR,A,c,rfl,_,_,uX⟩:=hk
     cases CR
     obtain⟨a,us,rfl,hz,hr,hc⟩:=uX _ _ h2;have hi:∃i,P.info? et=some i:=by
      cases hi:P.info? et with
      |some i=>exact⟨i,rfl⟩
      |none=>exfalso;have:=PW.iv;simp[Program.cellsOf,hi]at hs;omega
     obtain⟨inf,hi⟩:=hi;refine⟨_,_,rfl,pK ht hi a xs.length c ik n h0 h1,?_⟩;simp only[aD];refine⟨_,us,rfl,by rw[fV];exact hz,hr,fun j u hu=>?_⟩;rw[ye,hs];exact hc j u (by simpa using hu)
    ·cases he
   ·rename_i id ik n
    split at he
    ·rename_i ty PW xs hg;have q7:=br _ _ hg
     split at he
     ·rename_i hs
      cases qi:(decide (0≤n)&&decide (n<(xs.length:Int))) with
      |false=>rw[qi]at he;cases he
      |true =>
       rw[qi]at he
       cases he
       simp only[Bool.and_eq_true,decide_eq_true_eq]at qi;simp only[aD]at hv hu;subst hu;have hvv:=hv.2 (by rw[q7];simp);obtain⟨vs,⟨_,e⟩,_⟩:=g.row id (.row ty PW) xs q7;rcases e with⟨h0,_⟩|⟨gg,cap,cur,e1,_,e3,_⟩
       ·omega
       ·have hi:∃i,P.info? et=some i:=by
         cases hi:P.info? et with
         |some i=>exact⟨i,rfl⟩
         |none=>exfalso;have:=PW.iv;simp[Program.cellsOf,hi]at hs;omega
        obtain⟨inf,hi⟩:=hi;rw[hvv,e1];refine⟨_,_,rfl,pK ht hi _ xs.length cap ik n qi.1 qi.2,?_⟩;simp only[aD];refine⟨_,rfl,fun _=>?_⟩;rw[e1,hs,cF];simp[Y5]
     ·cases he
    ·cases he
   ·cases he
theorem wm{t:TypeId}(h:P.cellsOf t≠0):∃i,P.info? t=some i:=by
 cases hi:P.info? t with
 |some i=>simp_all
 |none=>grind [absurd,Program.cellsOf]
theorem wo{t:TypeId}{f n:Nat}{ft:TypeId}(hf:iZ P t f=some (n,ft))(hc:P.cellsOf ft≠0)(a:Addr) :
  (Instr.fieldAt t (.pointer (some a)) f).run P w=.ok (.pointer (some (a.add n))) w:=by
 unfold iZ at hf
 split at hf
 ·rename_i fs ht;obtain⟨fd,hfd,he⟩:=acX.1 hf
  cases he
  obtain⟨i,hi⟩:=wm hc;simp_all [dB,Instr.fieldAt,Sem.run_bind,run_underlying,Result.andThen_ok,Instr.sureAddr,Sem.run_pure,fieldPlace,if_neg]
 ·cases hf
theorem wq{t:TypeId}{f n:Nat}{ft:TypeId}(hf:iZ P t f=some (n,ft))(hc:P.cellsOf ft≠0){id s i off:Nat}{v:Value}(hv:aD Z ψ h w (.ref id s i off) v) :
  ∃V,(Instr.fieldAt t v f).run P w=.ok V w∧aD Z ψ h w (.ref id s i (off+n)) V:=by
 simp only[aD]at hv ⊢;obtain⟨a,rfl,ha⟩:=hv;refine⟨_,wo hf hc a,_,rfl,fun bM=>?_⟩;rw[ha bM,cF,Nat.add_assoc]
theorem ym{t:TypeId}{f n:Nat}{ft:TypeId}(hf:iZ P t f=some (n,ft))(hc:P.cellsOf ft≠0){k:K}{x:k.T}{off:Nat}{v:Value}(hv:aD Z ψ h w (.fp k x off) v) :
  ∃V,(Instr.fieldAt t v f).run P w=.ok V w∧aD Z ψ h w (.fp k x (off+n)) V:=by
 simp only[aD]at hv ⊢;obtain⟨a,us,rfl,hz,hr,aaZ⟩:=hv;refine⟨_,wo hf hc a,_,us,rfl,by grind [fV],hr,fun j u hu=>?_⟩
 grind [ye,Nat.add_assoc]
theorem K3{t ft:TypeId}{f n:Nat}(hf:iZ P t f=some (n,ft)){cs:List AV}{x:AV}{v:Value}(hv:aD Z ψ h w (.agg cs) v)(hx:eW P ft (cs.drop n)=some x) :
  ∃V,(Instr.field t v f).run P w=.ok V w∧aD Z ψ h w x V:=by
 simp only[aD]at hv;obtain⟨vs,rfl,hl⟩:=hv;have hd:=hl.drop n;have hlen:=hd.length;unfold iZ at hf
 split at hf
 ·rename_i fs ht;obtain⟨fd,hfd,he⟩:=acX.1 hf
  cases he
  unfold eW at hx
  split at hx
  ·rename_i hb
   split at hx
   ·rename_i hle
    cases hx
    obtain⟨i,hi⟩:=BG hb;refine⟨.agg (vs.extract fd.offset (fd.offset+P.cellsOf fd.type)),?_,?_⟩
    ·simp_all [Instr.field,run_underlying,asAgg,part,iw,dB]
    ·simp only[aD];refine⟨_,rfl,?_⟩;rw[Array.toList_extract,List.extract_eq_take_drop,Nat.add_sub_cancel_left];exact hd.take _
   ·cases hx
  ·rename_i hb
   split at hx
   ·rename_i c r hcr
    cases hx
    rw[hcr]at hd;simp only[az]at hd;obtain⟨u,us,hu,h1,_⟩:=hd;refine⟨u,?_,h1⟩;have hg:vs[fd.offset]? = some u:=by
     have:(vs.toList.drop fd.offset)[0]? = some u:=by rw[hu];rfl
     grind
    simp_all [Instr.field,run_underlying,asAgg,part,iw]
   ·cases hx
  ·cases hx
 ·cases hf
theorem RW{hh:Heap}(g:Good Z ψ h w B0 O)(br:∀id o,hh.get id=some o→h id=some o){x:AV}{v:Value}{e:bD}(hv:aD Z ψ h w x v)(he:Hs hh x some=some e) :
  ∃n:Nat,e=.val (.int .i64 (n:Int))∧((∃s,x=.str s∧v=.string s∧n=s.size)∨∃A c,v=.slice A n c):=by
 unfold Hs at he
 split at he
 ·rename_i s hs
  cases he
  have hx:x=.str s:=by
   cases x with
   |bO id=>simp only[dp]at hs;split at hs<;>cases hs
   |str s'=>simp only[dp]at hs;exact hs
   |_=>simp only[dp]at hs<;>cases hs
  subst hx;simp only[aD]at hv;exact⟨_,rfl,.inl ⟨s,rfl,hv,rfl⟩⟩
 ·rename_i ex k xs hs
  cases he
  have Ur:=Hv (Z':=fun b=>Z b∨Own ψ h b) (g.sub br) (fun b hb=>.inl hb) (fun id b _ bA hb=>.inr (by obtain⟨o,ho⟩:=abP.1 bA;exact⟨id,by rw[br id o ho];simp,hb⟩)) (hv.pJ br);rw[hs]at Ur;simp only[aD,aL]at Ur;obtain⟨⟨v',CR,A,c,rfl,_⟩,_⟩:=Ur
  cases CR
  exact⟨_,rfl,.inr ⟨A,c,rfl⟩⟩
 ·rename_i hs
  cases he
  have hx:x=.gq:=by
   cases x with
   |bO id=>simp only[dp]at hs;split at hs<;>cases hs
   |gq=>rfl
   |_=>simp only[dp]at hs<;>cases hs
  subst hx;simp only[aD]at hv;exact⟨0,rfl,.inr ⟨_,_,hv⟩⟩
 ·cases he
def fh(Z:Nat→Prop)(ψ:Nat→Value)(h:Hp)(w:World):Option AV→Option Value→Prop
 |none,none=>True
 |some a,some v=>aD Z ψ h w a v
 |_,_=>False
theorem cC(k:IntKind)(i:Int)(y:Nat)(code:BoundsCode)(h0:0≤i)(h1:i≤y):(Instr.sliceBound (.int k i) y code).run P w=.ok i.toNat w:=by simp[Instr.sliceBound,asIntOf,h0,h1]
theorem xh{b:Bool}{n c:Nat}(hc:n≤c){lo hi mx:Option AV}{P2 xe mx':Option Value}{l u:Int}(h1:fh Z ψ h w lo P2)(h2:fh Z ψ h w hi xe)(h3:fh Z ψ h w mx mx') (hb:pY n lo hi=some (l,u)) (ho:aq n l u=true) (hm:mx=none∨(mx=some (.int .i64 u)∧hi≠none)) :
  (Instr.sliceBounds b n c P2 xe mx').run P w=.ok (l.toNat,u.toNat,if mx=none then c else u.toNat) w:=by
 simp only[aq,Bool.and_eq_true,decide_eq_true_eq]at ho;obtain⟨h4,h5,h6⟩:=ho;have huc:u≤(c:Int):=by omega
 unfold pY at hb;rcases hm with rfl|⟨rfl,bA⟩
 ·cases mx' with
  |some _=>exact h3.elim
  |none =>
   split at hb
   all_goals first|(cases hb;done)|skip
   ·cases hb
    cases P2 with
    |some _=>exact h1.elim
    |none =>
     cases xe with
     |some _=>exact h2.elim
     |none=>simp[Instr.sliceBounds]
   ·cases hb
    cases P2 with
    |none=>exact h1.elim
    |some v =>
     simp only[fh,aD]at h1;subst h1
     cases xe with
     |some _=>exact h2.elim
     |none=>simp[Instr.sliceBounds,cC .i64 l n _ h4 h5]
   ·cases hb
    cases P2 with
    |some _=>exact h1.elim
    |none =>
     cases xe with
     |none=>exact h2.elim
     |some v =>
      simp only[fh,aD]at h2;subst h2
      cases b<;>simp[Instr.sliceBounds,cC .i64 u c _ (by omega) huc]
   ·cases hb
    cases P2 with
    |none=>exact h1.elim
    |some v =>
     simp only[fh,aD]at h1;subst h1
     cases xe with
     |none=>exact h2.elim
     |some v =>
      simp only[fh,aD]at h2;subst h2;have hx:l≤((u.toNat:Nat):Int):=by omega
      cases b<;>simp[Instr.sliceBounds,cC .i64 u c _ (by omega) huc,cC .i64 l u.toNat _ h4 hx]
 ·cases mx' with
  |none=>exact h3.elim
  |some m =>
   simp only[fh,aD]at h3;subst h3;have huu:u≤((u.toNat:Nat):Int):=by omega
   have hx:l≤((u.toNat:Nat):Int):=by omega
   split at hb
   all_goals first|(cases hb;done)|skip
   ·exact absurd rfl bA
   ·exact absurd rfl bA
   ·cases hb
    cases P2 with
    |some _=>exact h1.elim
    |none =>
     cases xe with
     |none=>exact h2.elim
     |some v =>
      simp only[fh,aD]at h2;subst h2
      cases b<;>simp[Instr.sliceBounds,cC .i64 u c _ (by omega) huc,cC .i64 u u.toNat _ (by omega) huu]
   ·cases hb
    cases P2 with
    |none=>exact h1.elim
    |some v =>
     simp only[fh,aD]at h1;subst h1
     cases xe with
     |none=>exact h2.elim
     |some v =>
      simp only[fh,aD]at h2;subst h2
      cases b<;>simp[Instr.sliceBounds,cC .i64 u c _ (by omega) huc,cC .i64 u u.toNat _ (by omega) huu,cC .i64 l u.toNat _ h4 hx]
theorem DT{t e:TypeId}(ht:P.underlying t=some (.slice e)){kk:K}(iY:P.cellsOf e=kk.sz){xs:List kk.T}{v:Value}(hr:aL Z w (.sl kk) xs [v]){lo hi mx:Option AV}{P2 xe mx':Option Value}{l u:Int} (h1:fh Z' ψ h w lo P2) (h2:fh Z' ψ h w hi xe) (h3:fh Z' ψ h w mx mx') (hb:pY xs.length lo hi=some (l,u)) (ho:aq xs.length l u=true) (hm:mx=none∨(mx=some (.int .i64 u)∧hi≠none)) :
  ∃V,(Instr.sliceAt t v P2 xe mx').run P w=.ok V w∧aL Z w (.sl kk) (cut xs l u) [V]∧(mx≠none→∃A c,V=.slice A c c):=by
 simp only[aL]at hr;obtain⟨v',CR,A,c,rfl,hl,hn,uX⟩:=hr
 cases CR
 have dC:=xh (P:=P) (w:=w) (b:=true) hl h1 h2 h3 hb ho hm;simp only[aq,Bool.and_eq_true,decide_eq_true_eq]at ho;obtain⟨h4,h5,h6⟩:=ho;obtain⟨i,hi⟩:=wm (P:=P) (t:=e) (by have:=kk.iv;omega);generalize hmm:(if mx=none then c else u.toNat)=m at dC;have hmu:u.toNat≤m:=by
  grind
 have hmc:m≤c:=by
  grind
 have wh:(cut xs l u).length=u.toNat-l.toNat:=by
  grind [cut,List.length_drop,List.length_take]
 refine⟨.slice (if m=l.toNat then A else A.map (·.add (l.toNat*P.cellsOf e))) (u.toNat-l.toNat) (m-l.toNat),?_,?_,?_⟩
 ·simp[Instr.sliceAt,Instr.slice,run_underlying ht,dC,dB hi]
 ·simp only[aL];refine⟨_,rfl,_,_,by rw[wh],by omega,fun hA=>?_,fun j x hx=>?_⟩
  ·split at hA
   ·omega
   simp_all
  ·have hj:j<u.toNat-l.toNat:=by grind
   have Us:xs[l.toNat+j]? = some x:=by
    unfold cut at hx
    grind
   obtain⟨a,us,rfl,hz,hr,hc⟩:=uX _ _ Us;refine⟨a.add (l.toNat*P.cellsOf e),us,by grind,by grind [fV],hr,fun q y hy=>?_⟩;simp_all [ye,Nat.add_mul,Nat.add_assoc]
 ·intro bA;simp_all
theorem K4{hh:Heap}(g:Good Z ψ h w B0 O)(_:∀id o,hh.get id=some o→h id=some o){t e:TypeId}(ht:P.underlying t=some (.slice e)){x:AV}{v:Value}{lo hi mx:Option AV}{P2 xe mx':Option Value}{ef:bD} (hv:aD Z ψ h w x v) (h1:fh Z ψ h w lo P2) (h2:fh Z ψ h w hi xe) (h3:fh Z ψ h w mx mx') (nD:∀y hw,ef=.wr y hw→hh.get=h) (he:rf hh (P.cellsOf e) x lo hi mx some=some ef) (N3:(P.info? e).isSome=true) :
  ∃V Z',(Instr.sliceAt t v P2 xe mx').run P w=.ok V w∧Next Z ψ h w B0 O N Z' ψ (ef.hp h) w∧aD Z' ψ (ef.hp h) w ef.v V:=by
 unfold rf at he
 split at he
 ·
  simp only[aD]at hv;subst hv
  split at he
  ·rename_i l u hb
   cases ho:aq 0 l u with
   |false=>simp_all
   |true =>
    rw[ho]at he
    cases he
    have dC:=xh (P:=P) (w:=w) (b:=true) (abX 0) h1 h2 h3 hb ho (.inl rfl);simp only[aq,Bool.and_eq_true,decide_eq_true_eq]at ho;have hl0:l.toNat=0:=by omega
    have hu0:u.toNat=0:=by omega
    obtain⟨i,hi⟩:=acK.1 N3;refine⟨.slice none 0 0,Z,?_,Next.refl g,by rfl⟩;rw[hl0,hu0]at dC;simp[Instr.sliceAt,Instr.slice,run_underlying ht,dC,dB hi]
  ·cases he
 ·
  rename_i ex kk xs;simp only[aD]at hv
  split at he
  ·rename_i iY
   split at he
   ·rename_i l u hb
    split at he
    ·cases ho:aq xs.length l u with
     |false=>simp_all
     |true =>
      rw[ho]at he
      cases he
      obtain⟨V,h4,h5,_⟩:=DT (P:=P) ht iY hv.1 h1 h2 h3 hb ho (.inl rfl);exact⟨V,Z,h4,Next.refl g,by grind [bD.v,bD.hp,aD]⟩
    ·rename_i m
     cases ho:(aq xs.length l u&&(hi.isSome&&decide (m=u))) with
     |false=>simp_all
     |true =>
      rw[ho]at he
      cases he
      simp only[Bool.and_eq_true,decide_eq_true_eq]at ho;obtain⟨ho,hhi,rfl⟩:=ho;obtain⟨V,h4,h5,h6⟩:=DT (P:=P) ht iY hv.1 h1 h2 h3 hb ho (.inr ⟨rfl,by grind⟩);exact⟨V,Z,h4,Next.refl g,by grind [bD.v,bD.hp,aD]⟩
    ·cases he
   ·cases he
  ·cases he
 ·cases he
def nE(P:Program)(t:TypeId)(k:K):Prop :=∀(Z:Nat→Prop) (w:World) (x y:k.T) (xs ys:Array Value),aL Z w k x xs.toList→aL Z w k y ys.toList →(Op.equal t (.agg xs) (.agg ys)).run P w=.ok (uJ k x y) w∧(∀(op:BinOp) (a b:Operand),(eqGuard op t a b (.agg xs) (.agg ys)).run P w=.ok () w)∧∀e:Bool,(Instr.checkKey e 10000 t (.agg xs)).run P w=.ok () w
theorem As(op:BinOp)(t:TypeId)(a b:Operand)(k k':IntKind)(x y:Int):(eqGuard op t a b (.int k x) (.int k' y)).run P w=.ok () w:=by simp_all [eqGuard]
theorem RX(op:BinOp)(t:TypeId)(a b:Operand)(x y:ByteArray):(eqGuard op t a b (.string x) (.string y)).run P w=.ok () w:=by simp_all [eqGuard]
theorem N4(op:BinOp)(t:TypeId)(a b:Operand)(x y:Bool):(eqGuard op t a b (.bool x) (.bool y)).run P w=.ok () w:=by simp_all [eqGuard]
theorem HB(op:BinOp)(t:TypeId)(a b:Operand)(x y:Option Addr):(eqGuard op t a b (.pointer x) (.pointer y)).run P w=.ok () w:=by simp_all [eqGuard]
def ck:AV→Value
 |.bool b=>.bool b
 |.int k n=>.int k n
 |.str s=>.string s
 |_=>undef
theorem kQ(k:IntKind)(n:Int):aD Z ψ h w (.int k n) (ck (.int k n)):=by rfl
theorem fi(b:Bool):aD Z ψ h w (.bool b) (ck (.bool b)):=by rfl
theorem lx{t e:TypeId}(ht:P.underlying t=some (.pointer e))(a:Option Addr):(Op.equal t (.pointer a) (.pointer none)).run P w=.ok a.isNone w:=by
 have key:∀d,(Op.equalIn (d+1) t (.pointer a) (.pointer none)).run P w=.ok a.isNone w:=fun d=>by cases a<;>simp[Op.equalIn,run_underlying ht]
 exact key 9999
theorem Ut{op:BinOp}{t:TypeId}{k:IntKind}{a b:Int}{v:AV}(hv:acu op k a b=some v):∃V,(binOp op t (.int k a) (.int k b)).run P w=.ok V w∧aD Z ψ h w v V:=by
 cases op<;>simp only[acu]at hv<;>cases hv<;>first
  |(refine⟨ck (.int _ _),?_,kQ _ _⟩;simp[binOp,Op.intArith,Op.intCmp,ck];done)
  |(refine⟨ck (.bool _),?_,fi _⟩;simp[binOp,Op.intArith,Op.intCmp,ck];done)
  |(refine⟨ck (.int _ _),?_,kQ _ _⟩;simp only[binOp,ck,ne_eq,not_true_eq_false,if_false];rfl)
theorem RY{Eqs:TypeId→Option K}(Gt:∀t k,Eqs t=some k→nE P t k){op:BinOp}{t:TypeId}{xo yo:Operand}{x y:AV}{u v:Value}{e:bD}(hu:aD Z ψ h w x u)(hv:aD Z ψ h w y v)(he:BD P Eqs op t x y some=some e) :
  ∃r V,e=.val r∧((do eqGuard op t xo yo u v;binOp op t u v:Sem Value)).run P w=.ok V w∧aD Z ψ h w r V:=by
 unfold BD at he
 split at he
 ·rename_i k a k' b;simp only[aD]at hu hv;subst hu;subst hv
  split at he
  ·cases hb:decide (b<0) with
   |true=>rw[hb]at he;cases he
   |false =>
    rw[hb]at he;cases he;have hb':¬b<0:=by simpa using hb
    exact⟨_,ck (.int _ _),rfl,by simp[As,binOp,Op.shift,hb',ck,Cs],kQ _ _⟩
  ·cases hb:decide (b<0) with
   |true=>rw[hb]at he;cases he
   |false =>
    rw[hb]at he;cases he;have hb':¬b<0:=by simpa using hb
    exact⟨_,ck (.int _ _),rfl,by simp[As,binOp,Op.shift,hb',ck,iq],kQ _ _⟩
  split at he
  ·rename_i hk;subst hk;simp only[Sem.run_bind,As,Result.andThen_ok]
   split at he
   ·cases hb:(b==0) with
    |true=>rw[hb]at he;cases he
    |false =>
     rw[hb]at he;cases he;have hb':b≠0:=by simpa using hb
     exact⟨_,ck (.int _ _),rfl,by simp[binOp,Op.intDiv,hb',ck],kQ _ _⟩
   ·cases hb:(b==0) with
    |true=>rw[hb]at he;cases he
    |false =>
     rw[hb]at he;cases he;have hb':b≠0:=by simpa using hb
     exact⟨_,ck (.int _ _),rfl,by simp[binOp,Op.intDiv,hb',ck],kQ _ _⟩
   ·split at he
    ·rename_i v hv
     cases he
     obtain⟨V,h1,h2⟩:=Ut (P:=P) (t:=t) (w:=w) (Z:=Z) (ψ:=ψ) (h:=h) hv;exact⟨_,V,rfl,h1,h2⟩
    ·cases he
  ·cases he
 ·rename_i a b;simp only[aD]at hu hv;subst hu;subst hv;simp only[Sem.run_bind,RX,Result.andThen_ok]
  cases op<;>simp only[ae8]at he<;>first|(cases he;done)|(cases he;exact⟨_,ck (.bool _),rfl,by simp[binOp,Op.stringOp,←beq_toListBytes,ck],fi _⟩)
 ·rename_i a b;simp only[aD]at hu hv;subst hu;subst hv;simp only[Sem.run_bind,N4,Result.andThen_ok];have key:(P.underlying t).map Jb=some true→P.underlying t=some .bool:=fun hm=>by
   obtain⟨d,hd,he⟩:=acX.1 hm
   cases d<;>simp[Jb]at he
   exact hd
  split at he
  ·rename_i hm
   cases he
   exact⟨_,ck (.bool _),rfl,by simp[binOp,Op.equal,Op.maxDepth,run_equalIn_bool' (P:=P) w 9999 t a b (key hm),ck],fi _⟩
  ·rename_i hm
   cases he
   exact⟨_,ck (.bool _),rfl,by simp[binOp,Op.equal,Op.maxDepth,run_equalIn_bool' (P:=P) w 9999 t a b (key hm),ck],fi _⟩
  ·cases he
 ·rename_i a b
  split at he
  ·cases he
  ·rename_i k hk;simp only[aD]at hu hv;obtain⟨xs,rfl,hx⟩:=hu;obtain⟨ys,rfl,hy⟩:=hv
   split at he
   ·rename_i x y hdx hdy
    cases he
    obtain⟨h1,h2,_⟩:=Gt t k hk Z w x y xs ys (dN hdx hx) (dN hdy hy);exact⟨_,ck (.bool _),rfl,by simp only[Sem.run_bind,h2,Result.andThen_ok,binOp,h1,Sem.run_pure,ck],fi _⟩
   ·rename_i x y hdx hdy
    cases he
    obtain⟨h1,h2,_⟩:=Gt t k hk Z w x y xs ys (dN hdx hx) (dN hdy hy);exact⟨_,ck (.bool _),rfl,by simp only[Sem.run_bind,h2,Result.andThen_ok,binOp,h1,Sem.run_pure,ck],fi _⟩
   ·cases he
 ·simp only[aD]at hu hv;subst hu;subst hv;have key:(P.underlying t).map Am=some true→∃e,P.underlying t=some (.pointer e):=fun hm=>by
   obtain⟨d,hd,he⟩:=acX.1 hm
   cases d<;>simp[Am]at he
   exact⟨_,hd⟩
  simp only[Sem.run_bind,HB,Result.andThen_ok]
  split at he
  ·rename_i hm
   cases he
   obtain⟨et,ht⟩:=key hm;exact⟨_,ck (.bool _),rfl,by simp only[binOp,Sem.run_bind,lx ht,Result.andThen_ok,Sem.run_pure,ck,Option.isNone_none,Option.isNone_some,Bool.not_true,Bool.not_false],fi _⟩
  ·rename_i hm
   cases he
   obtain⟨et,ht⟩:=key hm;exact⟨_,ck (.bool _),rfl,by simp only[binOp,Sem.run_bind,lx ht,Result.andThen_ok,Sem.run_pure,ck,Option.isNone_none,Option.isNone_some,Bool.not_true,Bool.not_false],fi _⟩
  ·cases he
 ·simp only[aD]at hu hv;obtain⟨a,rfl,_⟩:=hu;subst hv;have key:(P.underlying t).map Am=some true→∃e,P.underlying t=some (.pointer e):=fun hm=>by
   obtain⟨d,hd,he⟩:=acX.1 hm
   cases d<;>simp[Am]at he
   exact⟨_,hd⟩
  simp only[Sem.run_bind,HB,Result.andThen_ok]
  split at he
  ·rename_i hm
   cases he
   obtain⟨et,ht⟩:=key hm;exact⟨_,ck (.bool _),rfl,by simp only[binOp,Sem.run_bind,lx ht,Result.andThen_ok,Sem.run_pure,ck,Option.isNone_none,Option.isNone_some,Bool.not_true,Bool.not_false],fi _⟩
  ·rename_i hm
   cases he
   obtain⟨et,ht⟩:=key hm;exact⟨_,ck (.bool _),rfl,by simp only[binOp,Sem.run_bind,lx ht,Result.andThen_ok,Sem.run_pure,ck,Option.isNone_none,Option.isNone_some,Bool.not_true,Bool.not_false],fi _⟩
  ·cases he
 ·cases he
theorem RZ{a:AV}{v:Value}(hp:Aj a=true)(hr:aD Z ψ h w a v):v.oneCell'=true:=by
 cases a with
 |no=>cases hp
 |agg cs=>cases hp
 |pC cs=>cases hp
 |bool b=>simp only[aD]at hr;subst hr;rfl
 |int k n=>simp only[aD]at hr;subst hr;rfl
 |str s=>simp only[aD]at hr;subst hr;rfl
 |mA=>simp only[aD]at hr;subst hr;rfl
 |gq=>simp only[aD]at hr;subst hr;rfl
 |ref id s i off=>simp only[aD]at hr;obtain⟨a,rfl,_⟩:=hr;rfl
 |fp k x off=>simp only[aD]at hr;obtain⟨a,us,rfl,_⟩:=hr;rfl
 |sl ex k xs=>simp only[aD,aL]at hr;obtain⟨⟨v',hv,A,c,rfl,_⟩,_⟩:=hr;cases hv;rfl
 |bO id=>grind [aD]
 |mp kk vk es=>simp only[aD,aL]at hr;obtain⟨A,hv,_⟩:=hr;cases hv;rfl
 |fn f cap=>simp only[aD]at hr;obtain⟨vs,rfl,_⟩:=hr;rfl
theorem xi:∀{cs:List AV} {vs:List Value},cs.all Aj=true→az Z ψ h w cs vs→∀u∈vs,u.oneCell'=true
 |[],_,_,hr,u,hu=>by simp only[az]at hr;subst hr;simp at hu
 |c::r,_,hp,hr,u,hu=>by
  simp only[List.all_cons,Bool.and_eq_true]at hp;simp only[az]at hr;obtain⟨v,us,rfl,h1,h2⟩:=hr;rcases abq.1 hu with rfl|hu
  ·exact RZ hp.1 h1
  ·exact xi hp.2 h2 u hu
theorem K5{a:AV}(hp:a.cells.all Aj=true):a≠.no:=by rintro rfl;simp[AV.cells,Aj]at hp
theorem uY{id:Nat}:∀{cs:List AV},NR id cs=true→AV.bO id∉cs
 |[],_=>by simp
 |c::r,hn=>by
  intro hm
  cases c with
  |bO i =>
   simp only[NR,Bool.and_eq_true,Bool.not_eq_true',beq_eq_false_iff_ne]at hn;rcases abq.1 hm with e|hm
   ·cases e;exact hn.1 rfl
   ·exact uY hn.2 hm
  |_ =>
   simp only[NR]at hn;rcases abq.1 hm with e|hm
   ·cases e
   ·exact uY hn hm
theorem BM{hh:Heap}(g:Good Z ψ hh.get w B0 O){t:TypeId}{a x:AV}{u v:Value}{e:bD}(hu:aD Z ψ hh.get w a u)(hv:aD Z ψ hh.get w x v)(he:uL P hh t a x some=some e) :
  ∃hw w' Z',e=.wr .no hw∧(Instr.storeAt t u v).run P w=.ok () w'∧Next Z ψ hh.get w B0 O N Z' ψ hw.get w':=by
 unfold uL at he
 split at he
 ·rename_i hc;obtain⟨hlen,Za,rr⟩:=hc;obtain⟨inf,Za⟩:=acK.1 Za;have T1:=hv.cells (K5 rr);have Jh:=xi rr T1;have wh:=T1.length;simp only[Array.length_toList]at wh
  split at he
  ·rename_i id s i off;simp only[aD]at hu;obtain⟨a,rfl,ha⟩:=hu
   split at he
   ·rename_i ty cs hg
    split at he
    ·rename_i hc;obtain⟨rfl,afh⟩:=hc
     cases he
     have KX:=ha (by rw[hg];simp);obtain⟨w',h1,h2⟩:=DK (P:=P) (N:=N) g hg Za T1 Jh (by omega) afh (a:=a) (by rw[KX];simp);exact⟨_,w',Z,rfl,h1,by grind [lu]⟩
    ·cases he
   ·rename_i ty kk xs hg;obtain⟨y,hx,YE⟩:=acY.1 he;clear he
    split at YE
    ·rename_i hc;obtain⟨rfl,afh,ta⟩:=hc
     split at YE
     ·rename_i z hz
      cases YE
      have KX:=ha (by rw[hg];simp);have bM:=uY ta;have gd:=jF g x.cells;have hgd:(de hh x.cells).get id=some (.own (.row ty kk) xs):=by grind [rm]
      have acH:=qe (Z':=tj Z ψ hh.get x.cells) g (fun b hb=>.inl hb) (fun i b hm bA hb=>.inr ⟨i,hm,bA,hb⟩) T1;obtain⟨w',h1,h2⟩:=DL (P:=P) (N:=N) gd hgd Za hx (y:=z) (off:=off) (V:=v) (by omega) (by omega) (a:=a) KX (fun us hus=>by
       have h3:=(iH (ψ:=ψ) (h:=hh.get) hus);have h4:=dN hz (acH.eU off h3)
       rwa [uV _ _ _ (by rw[Array.length_toList,hus.len];omega),Array.length_toList]at h4) Jh
      refine⟨_,w',tj Z ψ hh.get x.cells,rfl,h1,?_⟩;rw[show((stored hh x.cells).2.set id (.own (.row ty kk) (xs.set i z))).get=eI (de hh x.cells).get id (some (.own (.row ty kk) (xs.set i z))) from lu _ _ _];exact h2.drop (fun b hb=>.inl hb) (fun b hb=>hb.imp (fun h=>h) (fun⟨i,_,h5,h6⟩=>⟨i,h5,h6⟩)) (eX _ _)
     ·cases YE
    ·cases YE
   ·cases he
  ·cases he
 ·cases he
theorem Uu{a:AV}{v:Value}(ha:a.isAgg=true)(hr:aD Z ψ h w a v):∃vs,v=.agg vs:=by
 cases a<;>simp[AV.isAgg]at ha
 simp only[aD]at hr
 grind
theorem HC{a:AV}{v:Value}(ha:a.isAgg=false)(ta:a≠.no)(hr:aD Z ψ h w a v):v.cells=#[v]:=by
 cases a with
 |no=>simp_all
 |agg cs=>simp[AV.isAgg]at ha
 |bool b=>simp only[aD]at hr;subst hr;rfl
 |int k n=>simp only[aD]at hr;subst hr;rfl
 |str s=>simp only[aD]at hr;subst hr;rfl
 |mA=>simp only[aD]at hr;subst hr;rfl
 |gq=>simp only[aD]at hr;subst hr;rfl
 |ref id s i off=>simp only[aD]at hr;obtain⟨a,rfl,_⟩:=hr;rfl
 |fp k x off=>simp only[aD]at hr;obtain⟨a,us,rfl,_⟩:=hr;rfl
 |sl ex k xs=>simp only[aD,aL]at hr;obtain⟨⟨v',hv,A,c,rfl,_⟩,_⟩:=hr;cases hv;rfl
 |bO id=>grind [aD]
 |mp kk vk es=>simp only[aD,aL]at hr;obtain⟨A,hv,_⟩:=hr;cases hv;rfl
 |fn f cap=>simp only[aD]at hr;obtain⟨vs,rfl,_⟩:=hr;rfl
 |pC cs=>simp only[aD]at hr;obtain⟨vs,rfl,_⟩:=hr;rfl
theorem xj{hh:Heap}{k:K}{a:AV}{x:k.T}{v:Value}(g:Good Z ψ hh.get w B0 O)(hz:∀b,Z b→Z' b)(hb:∀id b,AV.bO id∈a.cells→hh.get id≠none→ob (ψ id)=some b→Z' b) (hx:iQ k hh a=some x) (hr:aD Z ψ hh.get w a v):aL Z' w k x v.cells.toList∧(k.isAgg=true→∃vs,v=.agg vs)∧(k.isAgg=false→v.cells=#[v]):=by
 unfold iQ at hx
 split at hx
 ·rename_i hag;have ta:=HA hx;have hv:=qe g hz hb (hr.cells ta)
  grind [dN,Uu,HC]
 ·cases hx
theorem uZ{hh:Heap}{k:K}{a:AV}{x:k.T}{v:Value}(g:Good Z ψ hh.get w B0 O)(hz:∀b,Z b→Z' b)(hb:∀id b,AV.bO id∈a.cells→hh.get id≠none→ob (ψ id)=some b→Z' b) (hx:iQ k hh a=some x) (hr:aD Z ψ hh.get w a v):aD Z' ψ' h' w (cp k x) v:=by
 grind [xj,nC]
theorem aL.flat:∀{k:K} {x:k.T} {vs:List Value},k.flat=true→aL Z w k x vs→aL Z' w' k x vs
 |.int _,_,_,_,h=>h
 |.bool,_,_,_,h=>h
 |.str,_,_,_,h=>h
 |.sl k,_,_,hf,_=>by simp[K.flat]at hf
 |.pair a b,x,_,hf,h=>by simp only[K.flat,Bool.and_eq_true]at hf;simp only[aL]at h ⊢;obtain⟨us,ws,rfl,h1,h2⟩:=h;exact⟨us,ws,rfl,aL.flat hf.1 h1,aL.flat hf.2 h2⟩
 |.one k,x,_,hf,h=>by simp only[aL]at h ⊢;exact aL.flat (k:=k) (by simpa only[K.flat] using hf) h
theorem CS:∀(k:K) (x y:k.T),k.flat=true→(uJ k x y=true↔x=y)
 |.int _,x,y,_=>by simp only[uJ];exact beq_iff_eq (α:=Int)
 |.bool,x,y,_=>by simp only[uJ];exact beq_iff_eq (α:=Bool)
 |.str,x,y,_=>by simp only[uJ];exact MapKept.bytes_beq x y
 |.sl _,_,_,hf=>by simp[K.flat]at hf
 |.mp _ _,_,_,hf=>by simp[K.flat]at hf
 |.fn _,_,_,hf=>by simp[K.flat]at hf
 |.pair a b,x,y,hf=>by simp only[K.flat,Bool.and_eq_true]at hf;simp only[uJ,Bool.and_eq_true];rw[CS a _ _ hf.1,CS b _ _ hf.2];exact⟨fun h=>Prod.ext h.1 h.2,fun h=>⟨congrArg Prod.fst h,congrArg Prod.snd h⟩⟩
 |.one k,x,y,hf=>by simp only[uJ];exact CS k x y (by simpa only[K.flat] using hf)
theorem ru:∀{k:K} {x:k.T} {us vs:List Value},k.flat=true→aL Z w k x us→aL Z' w' k x vs→us=vs
 |.int _,_,_,_,_,h1,h2=>by simp only[aL]at h1 h2;rw[h1,h2]
 |.bool,_,_,_,_,h1,h2=>by simp only[aL]at h1 h2;rw[h1,h2]
 |.str,_,_,_,_,h1,h2=>by simp only[aL]at h1 h2;rw[h1,h2]
 |.sl _,_,_,_,hf,_,_=>by simp[K.flat]at hf
 |.mp _ _,_,_,_,hf,_,_=>by simp[K.flat]at hf
 |.fn _,_,_,_,hf,_,_=>by simp[K.flat]at hf
 |.pair a b,x,_,_,hf,h1,h2=>by simp only[K.flat,Bool.and_eq_true]at hf;simp only[aL]at h1 h2;obtain⟨a1,a2,rfl,h3,h4⟩:=h1;obtain⟨b1,b2,rfl,h5,h6⟩:=h2;rw[ru hf.1 h3 h5,ru hf.2 h4 h6]
 |.one k,x,_,_,hf,h1,h2=>by simp only[aL]at h1 h2;exact ru (k:=k) (by simpa only[K.flat] using hf) h1 h2
theorem u5:∀{k:K} {x:k.T} {us:List Value},k.flat=true→aL Z w k x us→∀u∈us,∀n,Instr.sameBits n u u=true
 |.int _,x,_,_,h1,u,hu,n=>by simp only[aL]at h1;subst h1;simp only[List.mem_singleton]at hu;subst hu;cases n<;>simp[Instr.sameBits]<;>exact beq_self_eq_true (α:=Int) x
 |.bool,x,_,_,h1,u,hu,n=>by simp only[aL]at h1;subst h1;simp only[List.mem_singleton]at hu;subst hu;cases n<;>simp[Instr.sameBits]<;>exact beq_self_eq_true (α:=Bool) x
 |.str,x,_,_,h1,u,hu,n=>by simp only[aL]at h1;subst h1;simp only[List.mem_singleton]at hu;subst hu;cases n<;>simp[Instr.sameBits]<;>exact(MapKept.bytes_beq x x).2 rfl
 |.sl _,_,_,hf,_,_,_,_=>by simp[K.flat]at hf
 |.mp _ _,_,_,hf,_,_,_,_=>by simp[K.flat]at hf
 |.fn _,_,_,hf,_,_,_,_=>by simp[K.flat]at hf
 |.pair a b,x,_,hf,h1,u,hu,n=>by
  simp only[K.flat,Bool.and_eq_true]at hf;simp only[aL]at h1;obtain⟨a1,a2,rfl,h3,h4⟩:=h1;rcases abY.1 hu with hu|hu
  ·exact u5 hf.1 h3 u hu n
  ·exact u5 hf.2 h4 u hu n
 |.one k,x,_,hf,h1,u,hu,n=>by simp only[aL]at h1;exact u5 (k:=k) (by simpa only[K.flat] using hf) h1 u hu n
def NF(b:Bool)(v:Value):Prop:=(b=true→∃vs,v=.agg vs)∧(b=false→v.cells=#[v])
theorem R1{b:Bool}{u v:Value}(h1:NF b u)(h2:NF b v)(h:u.cells.toList=v.cells.toList):u=v:=by
 cases b with
 |true =>obtain⟨a,rfl⟩:=h1.1 rfl;obtain⟨c,rfl⟩:=h2.1 rfl;simp_all [Value.cells]
 |false =>rw[h1.2 rfl,h2.2 rfl]at h;simpa using h
theorem Uv{k:K}{x:k.T}{u:Value}(hf:k.flat=true)(hr:aL Z w k x u.cells.toList)(hs:NF k.isAgg u):Instr.sameBits 10000 u u=true:=by
 have hb:=u5 hf hr
 cases hk:k.isAgg with
 |false=>exact hb u (by rw[hs.2 hk];simp) _
 |true =>obtain⟨a,rfl⟩:=hs.1 hk;show Instr.sameBits (9999+1) (.agg a) (.agg a)=true;simp only[Instr.sameBits,beq_self_eq_true,Bool.true_and,List.all_eq_true];intro p hp;obtain⟨i,hi,he⟩:=List.mem_iff_getElem.1 hp;simp only[List.getElem_zip]at he;subst he;exact hb _ (acG (l:=(Value.agg a).cells.toList) (by simpa[Value.cells] using hi)) _
def Keys(Z:Nat→Prop)(w:World)(k:K)(ys:List k.T)(l:List MapEntry):Prop:=ys.length=l.length∧∀(i:Nat) y e,ys[i]? = some y→l[i]? = some e→aL Z w k y e.key.cells.toList∧NF k.isAgg e.key
theorem Keys.tail{k:K}{y:k.T}{ys:List k.T}{e:MapEntry}{l:List MapEntry}(h:Keys Z w k (y::ys) (e::l)):Keys Z w k ys l:=⟨by simpa using h.1,fun i a b h1 h2=>h.2 (i+1) a b (by simpa using h1) (by simpa using h2)⟩
theorem K6{k:K}{x:k.T}{d:TypeDesc}{kv:Value}(hs:∀y YF,aL Z w k y YF.cells.toList→NF k.isAgg YF→Instr.sameNow d kv YF=some (uJ k x y)):∀(l:List MapEntry) (ys:List k.T) (i:Nat),Keys Z w k ys l → Instr.findNow d kv l i=some ((ys.findIdx? (uJ k x)).map fun j=>(i+j,((l[j]?).map (·.val)).getD undef))
 |[],ys,i,h=>by have:ys=[]:=abD (by simpa using h.1);subst this;rfl
 |e::l,[],i,h=>by have:=h.1;simp at this
 |e::l,y::ys,i,h=>by
  obtain⟨h1,h2⟩:=h.2 0 y e rfl rfl;have ih:=K6 hs l ys (i+1) h.tail;simp only[Instr.findNow,hs y _ h1 h2,List.findIdx?_cons]
  cases uJ k x y with
  |true=>simp
  |false =>
   simp only[ih,Bool.false_eq_true,if_false]
   cases ys.findIdx? (uJ k x) with
   |none=>rfl
   |some j=>simp;omega
theorem BN{k:K}{x:k.T}{t:TypeId}{kv:Value}(hs:∀y YF,aL Z w k y YF.cells.toList→NF k.isAgg YF→(Op.equal t kv YF).run P w=.ok (uJ k x y) w):∀(l:List MapEntry) (ys:List k.T) (i:Nat),Keys Z w k ys l →(Instr.findAsking t kv l i).run P w=.ok ((ys.findIdx? (uJ k x)).map fun j=>(i+j,((l[j]?).map (·.val)).getD undef)) w
 |[],ys,i,h=>by have:ys=[]:=abD (by simpa using h.1);subst this;rfl
 |e::l,[],i,h=>by have:=h.1;simp at this
 |e::l,y::ys,i,h=>by
  obtain⟨h1,h2⟩:=h.2 0 y e rfl rfl;have ih:=BN hs l ys (i+1) h.tail;simp only[Instr.findAsking,Sem.run_bind,hs y _ h1 h2,Result.andThen_ok,List.findIdx?_cons]
  cases uJ k x y with
  |true=>simp
  |false =>
   simp only[ih,Bool.false_eq_true,if_false]
   cases ys.findIdx? (uJ k x) with
   |none=>rfl
   |some j=>simp;omega
structure Uw(P:Program)(t:TypeId)(k:K):Prop where
 flat:k.flat=true
 check:∀(Z:Nat→Prop) (w:World) (x:k.T) (kv:Value) (e:Bool),aL Z w k x kv.cells.toList→NF k.isAgg kv→(Instr.checkKey e 10000 t kv).run P w=.ok () w
 find:∀(Z:Nat→Prop) (w:World) (x:k.T) (kv:Value) (l:List MapEntry) (ys:List k.T),aL Z w k x kv.cells.toList→NF k.isAgg kv→Keys Z w k ys l →
  (Instr.findKey t kv l).run P w=.ok ((ys.findIdx? (uJ k x)).map fun j=>(j,((l[j]?).map (·.val)).getD undef)) w
theorem rv{t:TypeId}{k:K}{d:TypeDesc}(hf:k.flat=true)(hk:k.isAgg=false)(hd:P.underlying t=some d)(hc:∀(Z:Nat→Prop) (w:World) (x:k.T) (kv:Value),aL Z w k x [kv]→MapKept.IsKey d kv) (hs:∀(Z:Nat→Prop) (w:World) (x y:k.T) (u v:Value),aL Z w k x [u]→aL Z w k y [v]→Instr.sameNow d u v=some (uJ k x y)):Uw P t k:=by
 have one:∀{Z:Nat→Prop} {w:World} {x:k.T} {kv:Value},aL Z w k x kv.cells.toList→NF k.isAgg kv→aL Z w k x [kv]:=fun {Z w x kv} h1 h2=>by rw[h2.2 hk]at h1;exact h1
 refine⟨hf,fun Z w x kv e h1 h2=>MapKept.run_checkKey hd (hc Z w x kv (one h1 h2)) e 9999,fun Z w x kv l ys h1 h2 h3=>?_⟩;have:=K6 (Z:=Z) (w:=w) (x:=x) (d:=d) (kv:=kv) (fun y YF h4 h5=>hs Z w x y kv YF (one h1 h2) (one h4 h5)) l ys 0 h3;simp_all [Nat.zero_add,MapKept.run_findKey]
theorem K7(d:TypeDesc)(a:Array Value)(v:Value):Instr.sameNow d (.agg a) v=none:=by cases d<;>cases v<;>rfl
theorem Au{Eqs:TypeId→Option K}(Gt:∀t k,Eqs t=some k→nE P t k){t:TypeId}{k:K}(hk:PY P Eqs t k=true):Uw P t k:=by
 unfold PY at hk;rw[Bool.and_eq_true]at hk;obtain⟨hf,hk⟩:=hk
 split at hk
 ·rename_i ik ik' hd;simp only[decide_eq_true_eq]at hk;subst hk;exact rv hf rfl hd (fun Z w x kv hr=>by grind [aL,MapKept.IsKey]) (fun Z w x y u v h1 h2=>by grind [aL,Instr.sameNow,uJ])
 ·rename_i hd;exact rv hf rfl hd (fun Z w x kv hr=>by grind [aL,MapKept.IsKey]) (fun Z w x y u v h1 h2=>by grind [aL,Instr.sameNow,uJ])
 ·rename_i hd;exact rv hf rfl hd (fun Z w x kv hr=>by grind [aL,MapKept.IsKey]) (fun Z w x y u v h1 h2=>by grind [aL,Instr.sameNow,uJ])
 ·simp only[Bool.and_eq_true,decide_eq_true_eq]at hk;obtain⟨hag,hk⟩:=hk;have fact:=Gt _ _ hk;have agg:∀{b:Bool} {u:Value},b=true→NF b u→∃a,u=.agg a:=fun hb h=>h.1 hb;refine⟨hf,fun Z w x kv e h1 h2=>?_,fun Z w x kv l ys h1 h2 h3=>?_⟩
  ·obtain⟨a,rfl⟩:=agg hag h2;exact(fact Z w x x a a h1 h1).2.2 e
  ·obtain⟨a,rfl⟩:=agg hag h2;have h4:=BN (P:=P) (t:=t) (Z:=Z) (w:=w) (x:=x) (kv:=.agg a) (fun y YF h4 h5=>by obtain⟨b,rfl⟩:=agg hag h5;exact(fact Z w x y a b h1 h4).1) l ys 0 h3;simp only[Nat.zero_add]at h4
   cases l with
   |nil =>
    have:ys=[]:=abD (by simpa using h3.1);subst this
    cases hu:P.underlying t with
    |none =>have hc:=(fact Z w x x a a h1 h1).2.2 true;exfalso;unfold Instr.checkKey at hc;simp[underlying,hu]at hc
    |some d=>simp[Instr.findKey,run_underlying hu,Instr.findNow]
   |cons e l =>
    cases hu:P.underlying t with
    |none =>have hc:=(fact Z w x x a a h1 h1).2.2 true;exfalso;unfold Instr.checkKey at hc;simp[underlying,hu]at hc
    |some d=>simp_all [Instr.findKey,Sem.run_bind,run_underlying,Result.andThen_ok,Instr.findNow,K7]
section
variable {kk vk:K} {es:List (kk.T×vk.T)} {l:List MapEntry}
abbrev lF(Z:Nat→Prop)(w:World)(kk vk:K)(es:List (kk.T×vk.T))(l:List MapEntry):Prop:=Je (aL Z w kk) (aL Z w vk) kk.isAgg vk.isAgg es l
theorem lF.keys(h:lF Z w kk vk es l):Keys Z w kk (es.map (·.1)) l :=⟨by rw[List.length_map];exact h.1,fun i y e h1 h2=>by rw[List.getElem?_map]at h1;obtain⟨x,h3,rfl⟩:=acX.1 h1;exact(h.2 i x e h3 h2).1⟩
theorem DU{x:kk.T}:(es.map (·.1)).findIdx? (uJ kk x)=sZ kk x es:=by unfold sZ;rw[List.findIdx?_map];rfl
theorem Ji{x:kk.T}{i:Nat}(h:sZ kk x es=some i):i<es.length:=by
 grind [sZ,List.findIdx?_eq_some_iff_getElem]
theorem Zb{x:kk.T}{i:Nat}(h:sZ kk x es=some i):∃e,es[i]? = some e∧uJ kk x e.1=true:=by
 grind [sZ,List.findIdx?_eq_some_iff_getElem,List.getElem?_eq_getElem]
def Ux(Z:Nat→Prop)(w:World)(kk vk:K)(x:kk.T×vk.T)(e:MapEntry):Prop:=(aL Z w kk x.1 e.key.cells.toList∧NF kk.isAgg e.key)∧aL Z w vk x.2 e.val.cells.toList∧NF vk.isAgg e.val
theorem lF.set(h:lF Z w kk vk es l)(i:Nat){x:kk.T×vk.T}{f:MapEntry→MapEntry}(ho:∀e,l[i]? = some e→Ux Z w kk vk x (f e)):lF Z w kk vk (es.set i x) (l.modify i f):=by
 refine⟨by simp[h.1],fun j y e h1 h2=>?_⟩;rw[List.getElem?_modify]at h2;obtain⟨e0,h3,h4⟩:=acX.1 h2;by_cases GG:i=j
 ·subst GG;rw[if_pos rfl]at h4;have aG:i<es.length:=by grind
  rw[List.getElem?_set_self aG]at h1
  cases h1
  subst h4;exact ho e0 h3
 ·rw[if_neg GG]at h4;rw[List.getElem?_set_ne GG]at h1;subst h4;exact h.2 j y e0 h1 h3
theorem lF.push(h:lF Z w kk vk es l){x:kk.T×vk.T}{e:MapEntry}(ho:Ux Z w kk vk x e):lF Z w kk vk (es++[x]) (l++[e]):=by
 refine⟨by simp[h.1],fun j y e' h1 h2=>?_⟩;by_cases hj:j<es.length
 ·rw[List.getElem?_append_left hj]at h1;rw[List.getElem?_append_left (by rw[←h.1];exact hj)]at h2;exact h.2 j y e' h1 h2
 ·rw[List.getElem?_append_right (by omega)]at h1;rw[List.getElem?_append_right (by have:=h.1;omega),←h.1]at h2;by_cases h0:j-es.length=0
  ·rw[h0]at h1 h2;cases h1;cases h2;exact ho
  simp_all
theorem lF.erase(h:lF Z w kk vk es l)(i:Nat):lF Z w kk vk (es.eraseIdx i) (l.eraseIdx i):=by
 refine⟨by rw[List.length_eraseIdx,List.length_eraseIdx,h.1],fun j y e h1 h2=>?_⟩;rw[List.getElem?_eraseIdx]at h1 h2
 split at h1
 ·rename_i hj;rw[if_pos hj]at h2;exact h.2 j y e h1 h2
 ·rename_i hj;rw[if_neg hj]at h2;exact h.2 (j+1) y e h1 h2
theorem lF.mono(h:lF Z w kk vk es l)(hz:∀b,Z b→Z' b)(hs:cG Z w w'):lF Z' w' kk vk es l:=Je.imp (fun _ _ h=>h.mono hz hs) (fun _ _ h=>h.mono hz hs) h
end
theorem xk{Eqs:TypeId→Option K}{t:TypeId}{kk vk:K}(h:mapOf P Eqs t=some (kk,vk)):∃a b,P.underlying t=some (.map a b)∧PY P Eqs a kk=true∧KS P b vk=true:=by
 unfold mapOf at h
 grind
theorem DV{b:TypeId}{vk:K}(h:KS P b vk=true):∃z,(zeroValue b).run P w=.ok z w∧aL Z w vk (kC vk) z.cells.toList∧NF vk.isAgg z:=by
 unfold KS at h
 split at h
 ·rename_i i hi
  split at h
  ·rename_i z hz;refine⟨z,tM hi hz,?_⟩;unfold Uc at h
   split at h
   ·simp only[decide_eq_true_eq]at h;obtain⟨rfl,rfl⟩:=h;exact⟨by rfl,fun h=>(by cases h),fun _=>rfl⟩
   ·rename_i b;simp only[Bool.not_eq_true']at h;subst h;exact⟨by rfl,fun h=>(by cases h),fun _=>rfl⟩
   ·simp only[decide_eq_true_eq]at h;subst h;exact⟨by rfl,fun h=>(by cases h),fun _=>rfl⟩
   ·simp only[decide_eq_true_eq]at h;obtain⟨rfl,rfl,rfl⟩:=h;exact⟨by simp only[aL];exact⟨_,rfl,none,0,rfl,abX _,fun _=>rfl,fun i x hx=>by simp[kC]at hx⟩,fun h=>(by cases h),fun _=>rfl⟩
   ·cases h
  ·cases h
 ·cases h
theorem P3{hh:Heap}(g:Good Z ψ h w B0 O)(br:∀id o,hh.get id=some o→h id=some o){m:AV}{u:Value}{kk vk:K}{es:List (kk.T×vk.T)}(hm:aD Z ψ h w m u)(hv:dp hh m=.mp kk vk es) :
  ∃A,u=.map A∧((A=none∧es=[])∨∃r cr clock,A=some r∧w.heap[r]? = some (.map cr clock)∧lF Z w kk vk es cr.toList):=by
 cases m with
 |mp PW Y1 Uy =>
  simp only[dp]at hv
  cases hv
  simp only[aD,aL]at hm
  grind
 |bO id =>
  simp only[dp]at hv
  split at hv
  ·cases hv
  ·rename_i PW Y1 Uy hg
   cases hv
   have q7:=br _ _ hg;simp only[aD]at hm;have:=hm.2 (by rw[q7];simp);subst this;obtain⟨r,cr,clock,h1,h2,h3,_⟩:=g.row id (.map kk vk) es q7;simp_all
  ·cases hv
 |_=>grind [dp]
theorem N5{hh:Heap}(g:Good Z ψ h w B0 O)(br:∀id o,hh.get id=some o→h id=some o){k:K}(hf:k.flat=true){a:AV}{x:k.T}{v:Value}(hx:iQ k hh a=some x)(hr:aD Z ψ h w a v):aL Z w k x v.cells.toList∧NF k.isAgg v:=by obtain⟨h1,h2,h3⟩:=xj (Z':=fun b=>b<w.heap.size) (g.sub br) (fun b hb=>g.kO b hb) (fun id b _ h1 h2=>(g.sub br).bT ⟨id,h1,h2⟩) hx (hr.less (fun _ h=>h) (cG.refl _ _) (fun id bM=>by obtain⟨o,ho⟩:=abP.1 bM;simp_all));exact⟨h1.flat hf,h2,h3⟩
theorem Jj{Eqs:TypeId→Option K}(Gt:∀t k,Eqs t=some k→nE P t k){hh:Heap}(g:Good Z ψ h w B0 O)(br:∀id o,hh.get id=some o→h id=some o){t:TypeId}{m i:AV}{u v:Value}{ok:Bool}{e:bD} (hm:aD Z ψ h w m u) (hi:aD Z ψ h w i v) (he:p6 P Eqs hh t m i ok some=some e):∃y V,e=.val y∧(Instr.lookup t u v ok).run P w=.ok V w∧aD Z ψ h w y V:=by
 unfold p6 at he
 split at he
 ·rename_i ka va kk vk es hmo hv
  split at he
  ·rename_i hc;obtain⟨rfl,rfl⟩:=hc
   split at he
   ·rename_i x hx
    cases he
    obtain⟨a,b,hu,hk,hz⟩:=xk hmo;have K:=Au Gt hk;obtain⟨HD,sL⟩:=N5 g br K.flat hx hi;obtain⟨z,Ae,CQ,P0⟩:=DV (Z:=Z) (w:=w) hz;have fin:∀(l:List MapEntry),lF Z w kk vk es l→∃V,((∃j,(Instr.findKey a v l).run P w=.ok (some (j,V)) w∧(fG kk x es).isSome=true)∨((Instr.findKey a v l).run P w=.ok none w∧(zeroValue b).run P w=.ok V w∧(fG kk x es).isSome=false)) ∧ aL Z w vk ((fG kk x es).getD (kC vk)) V.cells.toList∧NF vk.isAgg V:=by
     intro l hE;have hf:=K.find Z w x v l (es.map (·.1)) HD sL hE.keys;rw[DU]at hf
     cases HE:sZ kk x es with
     |none =>rw[HE]at hf;exact⟨z,.inr ⟨hf,Ae,by simp[fG,HE]⟩,by simpa[fG,HE] using CQ,P0⟩
     |some j =>
      rw[HE]at hf;have hj:=Ji HE;have h1:es[j]? = some es[j]:=abf hj;have GH:j<l.length:=by rw[←hE.1];exact hj
      have h2:l[j]? = some l[j]:=abf GH;obtain⟨_,h3,h4⟩:=hE.2 j _ _ h1 h2;refine⟨l[j].val,.inl ⟨j,?_,by simp[fG,HE,h1]⟩,by simpa[fG,HE,h1] using h3,h4⟩;rw[hf];simp only[Option.map_some,h2,Option.getD_some]
    have out:∀V:Value,aL Z w vk ((fG kk x es).getD (kC vk)) V.cells.toList→NF vk.isAgg V→aD Z ψ h w (cond ok (AV.pC [cp vk ((fG kk x es).getD (kC vk)),.bool (fG kk x es).isSome]) (cp vk ((fG kk x es).getD (kC vk)))) (if ok then .tuple #[V,.bool (fG kk x es).isSome] else V):=by
     intro V h1 h2;have h3:aD Z ψ h w (cp vk ((fG kk x es).getD (kC vk))) V:=nC h1 h2.1 h2.2
     cases ok with
     |false=>exact h3
     |true=>simp only[cond_true,if_true,aD,az];exact⟨_,rfl,V,[.bool (fG kk x es).isSome],by simp,h3,_,[],rfl,rfl,rfl⟩
    obtain⟨A,rfl,hA⟩:=P3 g br hm hv;rcases hA with⟨rfl,rfl⟩|⟨r,cr,clock,rfl,h3,h4⟩
    ·obtain⟨V,h5,h6,h7⟩:=fin [] ⟨rfl,fun i x e h=>by simp at h⟩;refine⟨_,_,rfl,?_,out V h6 h7⟩;simp only[Instr.lookup,Sem.run_bind,run_underlying hu,Result.andThen_ok,Sem.run_pure,K.check Z w x v _ HD sL];rcases h5 with⟨j,h8,h9⟩|⟨h8,h9,q6⟩
     ·simp[h8,h9]
     ·simp[h8,h9,q6]
    ·obtain⟨V,h5,h6,h7⟩:=fin cr.toList h4;refine⟨_,_,rfl,?_,out V h6 h7⟩;simp only[Instr.lookup,Sem.run_bind,run_underlying hu,Result.andThen_ok,Sem.run_pure,MapKept.run_getObj_map h3,K.check Z w x v _ HD sL];rcases h5 with⟨j,h8,h9⟩|⟨h8,h9,q6⟩
     ·simp[h8,h9]
     ·simp[h8,h9,q6]
   ·cases he
  ·cases he
 ·cases he
end Go.Vs
namespace Go.Vs
variable {P:Program} {Z Z':Nat→Prop} {ψ ψ':Nat→Value} {h h':Hp} {w w':World} {B0:Nat} {O:Nat→Prop} {N:Nat→Prop}
theorem Av{r b:Nat}(o:Obj)(bA:r≠b):(w.heap.setIfInBounds r o)[b]? = w.heap[b]? := by simp_all
theorem dg.aku{r:Nat}(ho:Own ψ h r)(o:Obj):dg ψ h w { w with heap:=w.heap.setIfInBounds r o } :=⟨rfl,rfl,rfl,by simp,fun b _ hb=>Av o (fun e=>hb (e▸ho))⟩
theorem u6{hp:Hp}(g:Good Z ψ hp w B0 O){id:Nat}(bM:hp id≠none){r:Nat}(hr:ob (ψ id)=some r)(aG:r<w.heap.size)(o:Obj){ok:OK}{x:ok.T} (hx:∀w':World,w'.heap=w.heap.setIfInBounds r o→cG Z w w'→j6 Z w' ok (ψ id) x) :
  Next Z ψ hp w B0 O N Z ψ (eI hp id (some (.own ok x))) { w with heap:=w.heap.setIfInBounds r o }:=by
 have ho:Own ψ hp r:=⟨id,bM,hr⟩;have kk:=dg.aku (w:=w) ho o;refine g.write id bM kk (fun b hb _=>Av o (fun e=>hb (by rw[hr,e]))) _ (fun _ _ he=>by cases he) (fun Y2 x' he=>?_)
 cases he
 exact hx _ rfl (kk.same g)
theorem BO{l:List MapEntry}{i:Nat}{f:MapEntry→MapEntry}(hf:∀e,(f e).born=e.born):(l.modify i f).map (·.born)=l.map (·.born):=by
 apply adO
 grind
theorem Aw{l:List MapEntry}:l.Pairwise (fun a b=>a.born≠b.born)↔(l.map (·.born)).Pairwise (·≠·):=by grind
theorem yn{Eqs:TypeId→Option K}(Gt:∀t k,Eqs t=some k→nE P t k){hh:Heap}(g:Good Z ψ hh.get w B0 O){t:TypeId}{m i v:AV}{u1 u2 u3:Value}{e:bD} (hm:aD Z ψ hh.get w m u1) (hi:aD Z ψ hh.get w i u2) (hv:aD Z ψ hh.get w v u3) (he:jP P Eqs hh t m i v some=some e) :
  ∃hw w' Z',e=.wr (.pC []) hw∧(Instr.mapUpdate t u1 u2 u3).run P w=.ok () w'∧Next Z ψ hh.get w B0 O N Z' ψ hw.get w':=by
 unfold jP at he
 split at he
 ·rename_i ka va id hmo
  split at he
  ·rename_i kk vk es hg
   split at he
   ·rename_i hc;obtain⟨rfl,rfl⟩:=hc
    split at he
    ·rename_i x y hx hy ta
     cases he
     obtain⟨a,b,hu,hk,_⟩:=xk hmo;have K:=Au Gt hk;obtain⟨HD,sL⟩:=N5 g (fun _ _ h=>h) K.flat hx hi;simp only[aD]at hm;have YG:=hm.2 (by rw[hg];simp);obtain⟨r,cr,clock,h1,h2,h3,h4,h5⟩:=g.row id (.map kk vk) es hg;rw[h1]at YG;subst YG;have bM:AV.bO id∉v.cells:=fun hc=>by have:=ac2.1 ta _ hc;simp at this
     have gd:=jF g v.cells;have hgd:(de hh v.cells).get id=some (.own (.map kk vk) es):=by rw[rm _ _ _ bM];exact hg
     obtain⟨Ax,CP,hv3⟩:=xj (Z':=tj Z ψ hh.get v.cells) g (fun b hb=>.inl hb) (fun id b h1 h2 h3=>.inr ⟨id,h1,h2,h3⟩) hy hv;have afi:aL (tj Z ψ hh.get v.cells) w kk x u2.cells.toList:=HD.flat K.flat;have aG:=(abB.1 h2).1;have pT:ob (ψ id)=some r:=by rw[h1];rfl
     have hE:lF (tj Z ψ hh.get v.cells) w kk vk es cr.toList:=lF.mono h3 (fun b hb=>.inl hb) (cG.refl _ _);have hf:=K.find Z w x u2 cr.toList (es.map (·.1)) HD sL (lF.keys h3);rw[DU]at hf;have fin:∀(o:Obj) (Uy:List (kk.T×vk.T)) (oK:Array MapEntry) (DW:Nat),o=.map oK DW→lF (tj Z ψ hh.get v.cells) w kk vk Uy oK.toList→(oK.toList.map (·.born)).Pairwise (·≠·)→(∀e∈oK.toList,e.born<DW) → Next Z ψ hh.get w B0 O N (tj Z ψ hh.get v.cells) ψ ((de hh v.cells).set id (.own (.map kk vk) Uy)).get { w with heap:=w.heap.setIfInBounds r o }:=by rintro o Uy oK DW rfl h6 h7 h8;rw[lu];have n:=u6 (N:=N) gd (by rw[hgd];simp) pT aG (.map oK DW) (ok:=.map kk vk) (x:=Uy) (fun w' NG sm=>⟨r,oK,DW,h1,by rw[NG];simp[aG],lF.mono h6 (fun _ h=>h) sm,Aw.2 h7,h8⟩);exact n.drop (fun b hb=>.inl hb) (fun b hb=>hb.imp (fun h=>h) (fun⟨i,_,h5,h6⟩=>⟨i,h5,h6⟩)) (eX _ _)
     cases HE:sZ kk x es with
     |none =>
      rw[HE]at hf;refine⟨_,{ w with heap:=w.heap.setIfInBounds r (.map (cr.push { key:=u2,val:=u3,born:=clock }) (clock+1)) },tj Z ψ hh.get v.cells,rfl,?_,?_⟩
      rotate_left
      ·rw[show j4 kk x y es=es++[(x,y)] by simp[j4,HE]];refine fin _ _ (cr.push { key:=u2,val:=u3,born:=clock }) (clock+1) rfl ?_ ?_ ?_
       ·rw[Array.toList_push];exact hE.push ⟨⟨afi,sL⟩,Ax,CP,hv3⟩
       ·rw[Array.toList_push,List.map_append,List.pairwise_append];refine⟨Aw.1 h4,by simp,fun a ha b hb=>?_⟩;simp only[List.map_cons,List.map_nil,List.mem_singleton]at hb;obtain⟨e,he,rfl⟩:=acE.1 ha;have:=h5 e he;omega
       ·intro e he;rw[Array.toList_push]at he;rcases abY.1 he with he|he
        ·have:=h5 e he;omega
        ·simp only[List.mem_singleton]at he;subst he;exact Nat.lt_succ_self _
      ·simp only[Instr.mapUpdate,Sem.run_bind,run_underlying hu,Result.andThen_ok,MapKept.run_getObj_map h2,K.check Z w x u2 _ HD sL,hf,Option.map_none,MapKept.run_setObj_map _ h2]
     |some j =>
      rw[HE]at hf;have hj:=Ji HE;obtain⟨e0,he0,heq⟩:=Zb HE;have GH:j<cr.toList.length:=by rw[←h3.1];exact hj
      have hl:cr.toList[j]? = some cr.toList[j]:=abf GH;have T2:cr[j]? = some cr.toList[j]:=by rw[←hl];simp
      obtain⟨⟨afj,akv⟩,_⟩:=h3.2 j _ _ he0 hl;have we:cr.toList[j].key=u2:=by refine R1 akv sL ?_;rw[←(CS kk x e0.1 K.flat).1 heq]at afj;exact ru K.flat afj HD
      have aa3:(Instr.keyThatStays u2 u2).run P w=.ok u2 w:=by simp[Instr.keyThatStays,Uv K.flat HD sL]
      refine⟨_,{ w with heap:=w.heap.setIfInBounds r (.map (cr.modify j fun e=>{ e with key:=u2,val:=u3 }) clock) },tj Z ψ hh.get v.cells,rfl,?_,?_⟩
      rotate_left
      ·rw[show j4 kk x y es=es.set j (x,y) by simp[j4,HE]];refine fin _ _ (cr.modify j fun e=>{ e with key:=u2,val:=u3 }) clock rfl ?_ ?_ ?_
       ·rw[Array.toList_modify];exact hE.set j (fun e he=>⟨⟨afi,sL⟩,Ax,CP,hv3⟩)
       ·rw[Array.toList_modify,BO (f:=fun e:MapEntry=>{ e with key:=u2,val:=u3 }) (fun _=>rfl)];exact Aw.1 h4
       ·intro e he;have:e.born∈(cr.modify j fun e=>{ e with key:=u2,val:=u3 }).toList.map (·.born):=acE.2 ⟨e,he,rfl⟩;rw[Array.toList_modify,BO (f:=fun e:MapEntry=>{ e with key:=u2,val:=u3 }) (fun _=>rfl)]at this;obtain⟨e',NC,h6⟩:=acE.1 this;rw[←h6];exact h5 e' NC
      ·simp only[Instr.mapUpdate,Sem.run_bind,run_underlying hu,Result.andThen_ok,MapKept.run_getObj_map h2,K.check Z w x u2 _ HD sL,hf,Option.map_some,T2,Option.getD_some,we,aa3,MapKept.run_setObj_map _ h2]
    ·cases he
   ·cases he
  ·cases he
 ·cases he
theorem yp{Eqs:TypeId→Option K}(Gt:∀t k,Eqs t=some k→nE P t k){hh:Heap}(g:Good Z ψ hh.get w B0 O){t ty:TypeId}{ts:List TypeId}{m i:AV}{u1 u2:Value}{e:bD} (hm:aD Z ψ hh.get w m u1) (hi:aD Z ψ hh.get w i u2) (he:p7 P Eqs hh t m i some=some e) :
  ∃hw w',e=.wr (.pC []) hw∧(Builtin.delete_ (t::ts).toArray ty #[u1,u2]).run P w=.ok (.tuple #[]) w'∧Next Z ψ hh.get w B0 O N Z ψ hw.get w':=by
 unfold p7 at he
 split at he
 ·rename_i ka va id hmo
  split at he
  ·rename_i kk vk es hg
   split at he
   ·rename_i hc;obtain⟨rfl,rfl⟩:=hc
    split at he
    ·rename_i x hx
     cases he
     obtain⟨a,b,hu,hk,_⟩:=xk hmo;have K:=Au Gt hk;obtain⟨HD,sL⟩:=N5 g (fun _ _ h=>h) K.flat hx hi;simp only[aD]at hm;have YG:=hm.2 (by rw[hg];simp);obtain⟨r,cr,clock,h1,h2,h3,h4,h5⟩:=g.row id (.map kk vk) es hg;rw[h1]at YG;subst YG;have aG:=(abB.1 h2).1;have pT:ob (ψ id)=some r:=by rw[h1];rfl
     have hf:=K.find Z w x u2 cr.toList (es.map (·.1)) HD sL (lF.keys h3);rw[DU]at hf;have fin:∀(o:Obj) (Uy:List (kk.T×vk.T)) (oK:Array MapEntry),o=.map oK clock→lF Z w kk vk Uy oK.toList→oK.toList.Sublist cr.toList → Next Z ψ hh.get w B0 O N Z ψ (hh.set id (.own (.map kk vk) Uy)).get { w with heap:=w.heap.setIfInBounds r o }:=by rintro o Uy oK rfl h6 h7;rw[lu];exact u6 (N:=N) g (by rw[hg];simp) pT aG (.map oK clock) (ok:=.map kk vk) (x:=Uy) (fun w' NG sm=>⟨r,oK,clock,h1,by rw[NG];simp[aG],lF.mono h6 (fun _ h=>h) sm,h4.sublist h7,fun e he=>h5 e (h7.subset he)⟩)
     cases HE:sZ kk x es with
     |none =>
      rw[HE]at hf;refine⟨_,{ w with heap:=w.heap.setIfInBounds r (.map cr clock) },rfl,?_,?_⟩
      rotate_left
      ·rw[show Gz kk x es=es by simp[Gz,HE]];exact fin _ _ cr rfl h3 (List.Sublist.refl _)
      ·simp[Builtin.delete_,run_underlying hu,MapKept.run_getObj_map h2,K.check Z w x u2 _ HD sL,hf,MapKept.run_setObj_map _ h2]
     |some j =>
      rw[HE]at hf;have hj:=Ji HE;refine⟨_,{ w with heap:=w.heap.setIfInBounds r (.map (cr.eraseIdxIfInBounds j) clock) },rfl,?_,?_⟩
      rotate_left
      ·rw[show Gz kk x es=es.eraseIdx j by simp[Gz,HE]];refine fin _ _ (cr.eraseIdxIfInBounds j) rfl ?_ ?_
       ·rw[Array.toList_eraseIdxIfInBounds];exact lF.erase h3 j
       ·rw[Array.toList_eraseIdxIfInBounds];exact List.eraseIdx_sublist _ _
      ·simp[Builtin.delete_,run_underlying hu,MapKept.run_getObj_map h2,K.check Z w x u2 _ HD sL,hf,MapKept.run_setObj_map _ h2]
    ·cases he
   ·cases he
  ·cases he
 ·cases he
theorem N6{hh:Heap}(g:Good Z ψ h w B0 O)(br:∀id o,hh.get id=some o→h id=some o){t ty:TypeId}{x:AV}{u:Value}{e:bD}(ht:NS P t=true)(hx:aD Z ψ h w x u)(he:Al hh x some=some e) :
  ∃n:Nat,e=.val (.int .i64 (n:Int))∧(Builtin.len_ #[t] ty #[u]).run P w=.ok (.int .i64 (n:Int)) w:=by
 unfold Al at he
 split at he
 ·rename_i kk vk es hv
  cases he
  have hu:∃a b,P.underlying t=some (.map a b):=by
   grind [NS]
  obtain⟨a,b,hu⟩:=hu;obtain⟨A,rfl,hA⟩:=P3 g br hx hv;rcases hA with⟨rfl,rfl⟩|⟨r,cr,clock,rfl,h3,h4⟩
  ·exact⟨0,rfl,by simp[Builtin.len_,run_underlying hu,goInt]⟩
  ·refine⟨es.length,rfl,?_⟩;have:cr.size=es.length:=by rw[h4.1];simp
   simp[Builtin.len_,run_underlying hu,MapKept.run_getObj_map h3,goInt,this]
 ·cases he
theorem DX(g:Good Z ψ h w B0 O)(hB:B0≤w.heap.size)(id:Nat)(hN:N id){ok:OK}{x:ok.T}{v:Value}(o:Obj)(ho:j6 Z (w.alloc o) ok v x)(hb:ob v=some w.heap.size) (bm:∀i ty cs,h i=some (.box ty cs)→aF (fun i=>i≠id) cs):Next Z ψ h w B0 O N Z (eI ψ id v) (eI h id (some (.own ok x))) (w.alloc o) :=KY g hB id hN (dg.alloc _ _ _ _) (fun b hb=>heap_alloc_old w _ (g.bT hb)) ho (fun b KI=>by simp_all) bm
theorem GI{Eqs:TypeId→Option K}(g:Good Z ψ h w B0 O)(hB:B0≤w.heap.size){id:Nat}(hN:N id){t:TypeId}{e:bD}(bm:∀i ty cs,h i=some (.box ty cs)→aF (fun i=>i≠id) cs)(he:mU P Eqs id t some=some e) :
  ∃v w' ψ',(Instr.makeMap t none).run P w=.ok v w'∧Next Z ψ h w B0 O N Z ψ' (e.hp h) w'∧aD Z ψ' (e.hp h) w' e.v v:=by
 unfold mU at he
 split at he
 ·rename_i kk vk hmo
  cases he
  refine⟨.map (some w.heap.size),w.alloc (.map #[] 0),eI ψ id (.map (some w.heap.size)),rfl,?_,?_⟩
  ·simp only[bD.hp];rw[iy];exact DX g hB id hN (ok:=.map kk vk) (x:=[]) _ ⟨w.heap.size,#[],0,rfl,heap_alloc_new _ _,⟨rfl,fun i x e h=>by simp at h⟩,by simp,by simp⟩ rfl bm
  ·simp only[bD.v,bD.hp,aD];exact⟨⟨rfl,rfl⟩,fun _=>(bg _ _ _).symm⟩
 ·cases he
theorem Jk(g:Good Z ψ h w B0 O)(hB:B0≤w.heap.size){id:Nat}(hN:N id){t:TypeId}{x:AV}{u:Value}{e:bD}(hx:aD Z ψ h w x u)(bm:∀i ty cs,h i=some (.box ty cs)→aF (fun i=>i≠id) cs)(he:qa P id t x some=some e) :
  ∃v w' ψ',(Instr.range t u).run P w=.ok v w'∧Next Z ψ h w B0 O N Z ψ' (e.hp h) w'∧aD Z ψ' (e.hp h) w' e.v v:=by
 unfold qa at he
 split at he
 ·rename_i sv hu
  cases he
  simp only[aD]at hx;subst hx;refine⟨.pointer (some ⟨w.heap.size,0,none⟩),w.alloc (.stringIter sv 0),eI ψ id (.pointer (some ⟨w.heap.size,0,none⟩)),?_,?_,?_⟩
  ·simp_all [Instr.range,Sem.run_bind,run_underlying,Result.andThen_ok,Sem.run_pure]
  ·simp only[bD.hp];rw[iy];exact DX g hB id hN (ok:=.pX) (x:=(sv,0)) _ ⟨w.heap.size,rfl,heap_alloc_new _ _⟩ rfl bm
  ·simp only[bD.v,bD.hp,aD];exact⟨⟨rfl,rfl⟩,fun _=>(bg _ _ _).symm⟩
 ·cases he
theorem iz{r:Nat}{o:Obj}(hb:w.heap[r]? = some o)(hc:∀c e f,o≠.cells c e f):(getObj r).run P w=.ok o w:=by cases o<;>first|(exact absurd rfl (hc _ _ _))|simp[getObj,Sem.run,hb]
theorem DY{r:Nat}{o o':Obj}(hb:w.heap[r]? = some o)(hc:∀c e f,o≠.cells c e f):(setObj r o').run P w=.ok () { w with heap:=w.heap.setIfInBounds r o' }:=by cases o<;>first|(exact absurd rfl (hc _ _ _))|simp[setObj,Sem.run,hb]
theorem K8{hh:Heap}(g:Good Z ψ h w B0 O)(br:∀id o,hh.get id=some o→h id=some o){ty:TypeId}{x:AV}{u:Value}{e:bD}(hx:aD Z ψ h w x u)(nD:∀v hw,e=.wr v hw→hh.get=h)(he:uM hh x some=some e) :
  ∃v w',(Instr.next u true ty).run P w=.ok v w'∧Next Z ψ h w B0 O N Z ψ (e.hp h) w'∧aD Z ψ (e.hp h) w' e.v v:=by
 unfold uM at he
 split at he
 ·rename_i id
  split at he
  ·rename_i x hg;have q7:=br _ _ hg;simp only[aD]at hx;have hu:=hx.2 (by rw[q7];simp);obtain⟨r,h1,h2⟩:=g.row id .pX x q7;rw[h1]at hu;subst hu
   cases hc:decide (x.2<x.1.size) with
   |true =>
    rw[hc]at he;cases he;have heq:=nD _ _ rfl;simp only[decide_eq_true_eq]at hc;have aG:=(abB.1 h2).1;refine⟨.tuple #[.bool true,goInt x.2,.int .i32 (Utf8.decode x.1 x.2).1],{ w with heap:=w.heap.setIfInBounds r (.stringIter x.1 (x.2+(Utf8.decode x.1 x.2).2)) },?_,?_,?_⟩
    ·simp only[Instr.next,Sem.run_bind,iz h2 (by simp),Result.andThen_ok,hc,if_true,DY h2 (by simp),Sem.run_pure]
    ·simp only[bD.hp];rw[lu,heq];exact u6 (N:=N) g (by rw[q7];simp) (by rw[h1];rfl) aG _ (ok:=.pX) (x:=(x.1,x.2+Du x.1 x.2)) (fun w' NG _=>⟨r,h1,by rw[NG];simp[aG,Du]⟩)
    ·simp only[bD.v,aD,az];exact⟨_,rfl,_,_,rfl,rfl,_,_,rfl,rfl,_,_,rfl,rfl,rfl⟩
   |false =>
    rw[hc]at he;cases he;simp only[decide_eq_false_iff_not]at hc;refine⟨.tuple #[.bool false],w,?_,Next.refl g,?_⟩
    ·simp only[Instr.next,Sem.run_bind,iz h2 (by simp),Result.andThen_ok,hc,if_false,Sem.run_pure]
    ·simp only[bD.v,aD,az];exact⟨_,rfl,_,_,rfl,rfl,rfl⟩
  ·cases he
 ·cases he
theorem find_born{l:List MapEntry}(h:l.Pairwise (fun a b=>a.born≠b.born)){e:MapEntry}(he:e∈l):l.find? (fun x=>x.born==e.born)=some e:=by
 induction l with
 |nil=>cases he
 |cons a r ih =>
  obtain⟨h1,h2⟩:=List.pairwise_cons.1 h
  grind
theorem K9{hh:Heap}(g:Good Z ψ h w B0 O)(br:∀id o,hh.get id=some o→h id=some o){x:AV}{u:Value}{e:bD}(hx:aD Z ψ h w x u)(he:uN hh x some=some e) :
  ∃y v,e=.val y∧(Instr.entry u).run P w=.ok v w∧aD Z ψ h w y v:=by
 unfold uN at he
 split at he
 ·rename_i id
  split at he
  ·rename_i kk vk c rest hg
   cases he
   have q7:=br _ _ hg;simp only[aD]at hx;have hu:=hx.2 (by rw[q7];simp);obtain⟨r,m,since,seen,cr,clock,h1,h2,h3,h4,h5,h6,h7,h8,h9⟩:=g.row id (.iter kk vk) (some c,rest) q7;rw[h1]at hu;subst hu;obtain⟨en,q6,GB,Uz⟩:=h9;obtain⟨⟨k1,k2,k3⟩,v1,v2,v3⟩:=Uz.2 0 c en rfl rfl;refine⟨_,.tuple #[en.key,en.val],rfl,?_,?_⟩
   ·have hf:cr.find? (·.born==en.born)=some en:=by have:=find_born h5 q6;simp_all
    simp only[Instr.entry,Sem.run_bind,iz h2 (by simp),Result.andThen_ok,GB,Sem.run_pure,iz h4 (by simp),hf];simp
   ·simp only[aD,az];exact⟨_,rfl,_,_,rfl,nC k1 k2 k3,_,_,rfl,nC v1 v2 v3,rfl⟩
  ·cases he
 ·cases he
theorem jf(w:World)(dT sT ty elem:TypeId)(sz g o acI akw:Nat)(a:Addr)(acJ akx:Nat)(cur:Array Value)(t:TypeId)(cs:List Value) (hu:P.underlying dT=some (.slice elem)) (hs:(P.info? elem).map (·.size)=some sz) (hg:w.heap[g]? = some (.cells cur t (0,0))) (hn:cs.length=Nat.min acJ acI*sz) (Ar:∀(j:Nat) v,cs[j]? = some v→w.cell? (a.add j)=some v) (R4:o+cs.length≤cur.size) (h1:∀v∈cs,v.oneCell'=true) :
  (Builtin.copy_ #[dT,sT] ty #[.slice (some ⟨g,o,none⟩) acI akw,.slice (some a) acJ akx]).run P w = .ok (goInt (Nat.min acJ acI)) (w.setRow g (cur.toList.take o++cs++cur.toList.drop (o+cs.length)).toArray):=by
 have hl:=run_loadCells_list (P:=P) w a cs Ar;have BH:=run_storeCells_at P g o t cs 0 cur w hg (by simpa using R4) h1
 cases hq:P.info? elem with
 |none=>simp[hq]at hs
 |some i =>
  have hi:i.size=sz:=by simpa[hq] using hs
  simp only[Nat.add_zero]at BH;simp[Builtin.copy_,run_underlying hu,Builtin.lenOf,Builtin.firstCells,sizeOf,typeInfo,hq,hi,←hn,hl,BH]
theorem HF{e:TypeId}(h:RO P e=true):P.underlying e=some (.int .u8):=by
 unfold RO at h
 split at h
 ·assumption
 ·cases h
theorem Zd{ns:List Int}{vs:List Value}(h:lE Z w (.int .u8) ns vs)(hl:vs.length=ns.length):vs=ns.map (Value.int .u8):=by
 apply adO;intro i;by_cases hi:i<ns.length
 ·have h1:=h i ns[i] (abf hi);have h1:(vs.drop (i*1)).take 1=[Value.int .u8 ns[i]]:=h1;have h2:=congrArg (·[0]?) h1;simp only[Nat.mul_one,List.getElem?_take,List.getElem?_drop,Nat.add_zero,Nat.zero_lt_one,if_true]at h2;rw[h2,List.getElem?_map,List.getElem?_eq_getElem hi];rfl
 ·rw[List.getElem?_eq_none (by omega),List.getElem?_eq_none (by simp;omega)]
theorem Ze(ns:List Int):lE Z w (.int .u8) ns (ns.map (Value.int .u8)):=fun i x hx=>by
 show((ns.map (Value.int .u8)).drop (i*1)).take 1=[Value.int .u8 x];obtain⟨hi,rfl⟩:=abp.1 hx;have:i<(ns.map (Value.int .u8)).length:=by rw[List.length_map];exact hi
 rw[Nat.mul_one,List.drop_eq_getElem_cons this];simp;rfl
theorem Zg{hh:Heap}(g:Good Z ψ h w B0 O)(br:∀id o,hh.get id=some o→h id=some o){src dst e:TypeId}(hs:P.underlying src=some (.slice e))(he:RO P e=true)(hd:P.underlying dst=some .string) {x:AV} {u:Value} {ns:List Int} (hx:rowOf hh x (.int .u8)=some ns) (hr:aD Z ψ h w x u):(convert src dst u).run P w=.ok (.string (strOf ns)) w:=by
 obtain⟨news,⟨h1,_,hu⟩,hv⟩:=yk (g.sub br) hx (hr.pJ br);have NC:=HF he;have h1:news.length=ns.length*1:=h1;rw[Nat.mul_one]at h1;have hn:=Zd hv h1;rcases hu with⟨rfl,h0⟩|⟨a,c,rfl,h2⟩
 ·have:ns=[]:=abD h0;subst this;rw[run_convert_bytes_string w src dst e none 0 0 hs NC hd];rfl
 ·rw[run_convert_bytes_string w src dst e _ _ _ hs NC hd];refine run_bytesToString w a ns.length c ns ?_;have:=run_loadCells_list (P:=P) w a news h2;rw[h1,hn]at this;exact this
theorem bytesOf_length(s:ByteArray):(bytesOf s).length=s.size:=by unfold bytesOf;rw[List.length_map,Array.length_toList];rfl
theorem DZ(s:ByteArray):Lib.strCells s=(bytesOf s).map (Value.int .u8):=by simp[Lib.strCells,bytesOf,Function.comp_def]
theorem R5(g:Good Z ψ h w B0 O)(hB:B0≤w.heap.size){src dst e:TypeId}(hs:P.underlying src=some .string)(hd:P.underlying dst=some (.slice e))(he:RO P e=true)(s:ByteArray) :
  ∃V w' Z',(convert src dst (.string s)).run P w=.ok V w'∧Next Z ψ h w B0 O N Z' ψ h w'∧aD Z' ψ h w' (.sl false (.int .u8) (bytesOf s)) V:=by
 have NC:=HF he
 let cells:Array Value:=s.data.map (fun b=>Value.int .u8 (b.toNat:Int))++Array.replicate (grownCap w s.size 0 e-s.size) (.int .u8 0)
 let w1:=w.drew.alloc (.cells cells e)
 have hg1:w1.heap[w.heap.size]? = some (.cells cells e (0,0)):=heap_alloc_new w.drew _;have hsh:w1.shape? w.heap.size=some (e,cells.size):=by simp[World.shape?,hg1]
 let w2:=w1.freeze ⟨w.heap.size,cells.size,none⟩ 1
 have dC:(convert src dst (.string s)).run P w=.ok (.slice (some ⟨w.heap.size,0,none⟩) s.size (grownCap w s.size 0 e)) w2:=by
  have e1:(newRow e cells).run P w.drew=.ok ⟨w.heap.size,0,none⟩ w1:=by simp[newRow,w1]
  have e2:(markStringish ⟨w.heap.size,0,none⟩).run P w1=.ok () w2:=by simp[markStringish,hsh,w2]
  simp only[convert,Sem.run_bind,run_underlying hs,run_underlying hd,run_underlying NC,Result.andThen_ok,Conv.stringToBytes,run_choose_drew];have e0:(Question.appendCap s.size 0 e).forced=false:=by simp[Question.forced]
  simp only[e0,Bool.false_eq_true,if_false,Result.andThen_ok];show((newRow e cells).run P w.drew).andThen _=_;rw[e1];simp only[Result.andThen_ok,e2];rfl
 have iY:w2.heap.size=w.heap.size+1:=by simp[w2,World.freeze,w1,World.alloc]
 have hold:∀b,b<w.heap.size→w2.heap[b]? = w.heap[b]? := fun b hb=>by
  have h1:w1.heap[b]? = w.heap[b]? := heap_alloc_old w.drew _ hb;have h2:w2.heap[b]? = w1.heap[b]? := by simp only[w2,World.freeze,if_neg (show ¬(1=0) by decide),Array.getElem?_modify];rw[if_neg (by omega)]
  rw[h2,h1]
 have DQ:∃f,w2.heap[w.heap.size]? = some (.cells cells e f):=by simp only[w2,World.freeze,if_neg (show ¬(1=0) by decide),Array.getElem?_modify,if_true,hg1,Option.map_some];exact⟨_,rfl⟩
 have kk:dg ψ h w w2:=⟨rfl,rfl,rfl,by omega,fun b hb _=>hold b hb⟩;have m:Next Z ψ h w B0 O (fun _=>False) Z ψ h w2:=g.more kk (fun b hb=>hold b (g.bT hb)) (fun _ _=>⟨rfl,rfl⟩) (fun i ty cs hb=>by
  have e:(fun _:Nat=>¬False)=fun _=>True:=by funext i;simp
  rw[e];exact aF.top cs) (fun _ _ _ h=>h.elim) (fun _ _ _ h=>h.elim) (fun _ _ h=>h.elim) (fun _ _ _ h=>h.elim) hB
 have hz:∀b,Z b→Z b∨b=w.heap.size:=fun b h=>.inl h;refine⟨_,w2,fun b=>Z b∨b=w.heap.size,dC,⟨hz,fun b hb=>hb.imp (fun h=>h) fun h=>.inr (by omega),m.keep,fun i hi=>.inl ((m.ids i hi).resolve_right (fun h=>h)),⟨fun i ty cs hb=>?_,fun i ok x hb=>?_,fun i b h1 h2=>?_,m.du.apart,fun b hb=>?_⟩⟩,?_⟩
 ·obtain⟨gg,vs,f1,f2,f3,f4⟩:=m.du.box i ty cs hb;exact⟨gg,vs,f1,f2,az.less hz (cG.refl _ _) (fun _ h=>⟨h,rfl⟩) f3,f4⟩
 ·exact(m.du.row i ok x hb).kept hz (cG.refl _ _) (fun _ _=>rfl)
 ·obtain⟨k1,k2⟩:=m.du.live i b h1 h2;refine⟨fun hb=>hb.elim k1 fun hb=>?_,k2⟩;have:=g.bT ⟨i,h1,h2⟩;omega
 ·rcases hb with hb|hb
  ·exact m.du.kO b hb
  ·omega
 ·simp only[aD];obtain⟨f,hf⟩:=DQ;have Jl:=grownCap_ge w s.size 0 e;refine⟨⟨_,rfl,some ⟨w.heap.size,0,none⟩,grownCap w s.size 0 e,congrArg (fun n=>Value.slice _ n _) (bytesOf_length s).symm,(show List.length (α:=Int) (bytesOf s)≤_ by rw[bytesOf_length];exact Jl),fun h=>(by cases h),fun i x hx=>?_⟩,fun h=>(by cases h)⟩;refine⟨_,[.int .u8 x],rfl,.inr rfl,rfl,fun j u hu=>?_⟩
  cases j with
  |succ j=>simp at hu
  |zero =>
   simp only[List.getElem?_cons_zero,Option.some.injEq]at hu;subst hu;rw[cF];simp only[World.cell?,hf];have Us:(bytesOf s)[i]? = some x:=hx;obtain⟨hi,rfl⟩:=abp.1 Us;have hi2:i<s.data.size:=by rw[bytesOf_length]at hi;exact hi
   show cells[0+(i*1+0)]? = _;simp only[Nat.zero_add,Nat.mul_one,Nat.add_zero,cells];rw[Array.getElem?_append_left (by simpa using hi2)];simp[bytesOf,Array.getElem?_eq_getElem hi2]
theorem R6{e:TypeId}(h:acw P e=true):∃i,P.info? e=some i∧i.zero=some (.int .u8 0)∧i.size=1∧i.bytes=1:=by
 unfold acw at h
 split at h
 ·rename_i i hi;simp only[Bool.and_eq_true,decide_eq_true_eq]at h;obtain⟨⟨h1,h2⟩,h3⟩:=h
  split at h3
  ·rename_i n hz;simp only[decide_eq_true_eq]at h3;subst h3;exact⟨i,hi,hz,h1,h2⟩
  ·cases h3
 ·cases h
theorem GJ{hh:Heap}(g:Good Z ψ h w B0 O)(hB:B0≤w.heap.size)(br:∀id o,hh.get id=some o→h id=some o){id:Nat}(hN:N id){t t' ty:TypeId}{s:AV}{u:Value}{b:ByteArray}{e:bD} (ht':P.underlying t'=some .string) (hs:aD Z ψ h w s u) (Cw:aM (fun i=>¬N i) s) (KJ:∀i ty cs,h i=some (.box ty cs)→aF (fun i=>i≠id) cs) (nD:∀v hw,e=.wr v hw→hh.get=h) (he:mT P hh id t s b some=some e) :
  ∃V w' ψ',(Builtin.append_ #[t,t'] ty #[u,.string b]).run P w=.ok V w'∧Next Z ψ h w B0 O N Z ψ' (e.hp h) w'∧aD Z ψ' (e.hp h) w' e.v V:=by
 unfold mT at he
 split at he
 rotate_left
 ·cases he
 rename_i et dJ het
 split at he
 rotate_left
 ·cases he
 rename_i hu8;obtain⟨i,hi,hz,iY,hby⟩:=R6 hu8
 split at he
 rotate_left
 ·cases he
 rename_i e' k' xs hg
 split at he
 rotate_left
 ·cases he
 rename_i hc;obtain⟨rfl,rfl⟩:=hc
 cases rp:(!xs.isEmpty&&aR xs.length b.size) with
 |false=>rw[rp]at he;cases he
 |true =>
  rw[rp]at he;cases he;simp only[Bool.and_eq_true,aR,decide_eq_true_eq,Bool.not_eq_true',List.isEmpty_eq_false_iff]at rp;obtain⟨bA,R4⟩:=rp;have GC:=List.length_pos_iff.2 bA;have heq:=nD _ _ rfl;have q7:=br _ _ hg;simp only[aD]at hs;have hu:=hs.2 (by rw[q7];simp);subst hu;simp only[aM]at Cw;have ht:=gI het;obtain⟨vs,Y9,hv0⟩:=g.row dJ (.row e' (.int .u8)) xs q7;have hold:h dJ≠none:=by rw[q7];simp
  unfold fH at R4;rcases Y9.2 with⟨h0,_⟩|⟨gg,cap,cur,hv,Um,h4,h5,h6,h7,h8⟩
  ·omega
  have s8:w.ownsRow 0 e' 1 (ψ dJ) xs.length vs:=⟨Y9.1,.inr ⟨gg,cap,cur,hv,ac6 _,h4,h5,h6,h7,h8⟩⟩;obtain⟨V,w',dC,k1,k2,k3⟩:=Lib.run_append_own_string (P:=P) w 0 t t' ty e' i ht ht' hi hz iY hby _ _ vs s8 b (by simp only[maxLen];omega) (by omega) (ac6 _);have pT:ob (ψ dJ)=some gg:=by rw[hv];simp only[ob];rw[if_neg (by omega)]
  have hgr:w.grownBy w' (ob (ψ dJ)):=by rw[pT];rw[hv]at k2;exact k2
  have HD:eE w' e' 1 V (xs.length+b.size) (vs++Lib.strCells b):=eE.of k1;have DQ:ob V=ob (ψ dJ)∨∀c,ob V=some c→w.heap.size≤c:=by
   by_cases ep:xs.length+b.size≤cap
   ·have hr:=Lib.run_append_room_string (P:=P) w t t' ty e' i ht ht' hi iY gg xs.length cap cur h4 b ep (by have:cur.size=cap*1:=h7;omega);rw[hv]at dC
    cases dC.symm.trans hr
    left;rw[pT];simp only[ob];rw[if_neg (by omega)]
   ·have vR:vs.length=xs.length*1:=Y9.1;have hr:=Lib.run_append_grow_string (P:=P) w t t' ty e' i (.int .u8 0) ht ht' hi hz ⟨gg,0,none⟩ xs.length cap vs (by rw[iY];exact vR) (s8.cells (g:=gg) (by rw[hv];rfl)) b (by omega) (by omega) (by rw[hby];exact growslice_fits (by omega) (by omega));rw[hv]at dC
    cases dC.symm.trans hr
    right;intro c hc;simp only[ob]at hc;split at hc<;>cases hc;exact abX _
  have kk:dg ψ h w w':=dg.grown hgr (fun b e=>⟨dJ,hold,e⟩);have sm:=kk.same g;have qf:j6 Z w' (.row e' (.int .u8)) V (tu xs b):=⟨vs++Lib.strCells b,by
   have e9:List.length (α:=Int) (tu xs b)=List.length (α:=Int) xs+b.size:=(List.length_append (as:=(show List Int from xs)) (bs:=bytesOf b)).trans (by rw[bytesOf_length]);show eE w' e' 1 V (List.length (α:=Int) (tu xs b)) _;rw[e9];exact HD,by
   rw[DZ];exact(hv0.append (Ze (bytesOf b)) Y9.1).DM sm⟩
  refine⟨V,w',eI ψ id V,dC,?_,?_⟩
  ·simp only[bD.hp];rw[lu,uW,heq];exact oJ g hB id dJ hN q7 (fun e=>Cw (by rw[e];exact hN)) hgr (ok:=.row e' (.int .u8)) qf DQ KJ
  ·simp only[bD.v,bD.hp,aD];exact⟨HD.one,fun _=>(bg _ _ _).symm⟩
theorem La(g:Good Z ψ h w B0 O)(hB:B0≤w.heap.size){id:Nat}(hN:N id){t:TypeId}{l c:AV}{u v:Value}{e:bD}(hl:aD Z ψ h w l u)(hc:aD Z ψ h w c v) (KJ:∀i ty cs,h i=some (.box ty cs)→aF (fun i=>i≠id) cs) (he:uK P id t l c some=some e) :
  ∃V w' ψ',(Instr.makeSlice t u v).run P w=.ok V w'∧Next Z ψ h w B0 O N Z ψ' (e.hp h) w'∧aD Z ψ' (e.hp h) w' e.v V:=by
 unfold uK at he
 split at he
 rotate_left
 ·cases he
 rename_i et n m het
 split at he
 rotate_left
 ·cases he
 rename_i kk hk
 split at he
 rotate_left
 ·cases he
 rename_i ly;simp only[Bool.and_eq_true]at ly;obtain⟨ly,hz⟩:=ly
 cases UA:(decide (0≤n)&&(decide (n≤(fH:Int))&&decide (m=n))) with
 |false=>rw[UA]at he;cases he
 |true =>
  rw[UA]at he;cases he;simp only[Bool.and_eq_true,decide_eq_true_eq]at UA;obtain⟨h0,h1,rfl⟩:=UA;simp only[aD]at hl hc;subst hl;subst hc;obtain⟨q,rfl⟩:∃q:Nat,m=(q:Int):=⟨m.toNat,by omega⟩;have hq:q≤fH:=by omega
  obtain⟨i,z,uX⟩:=cx ly;obtain⟨z',Ae,CQ,_⟩:=DV (Z:=Z) (w:=w) hz;have hzz:z'=z:=by have:=tM (P:=P) (w:=w) uX.info uX.zero;rw[this]at Ae;cases Ae;rfl
  subst hzz;have hb:=uX.bytes;unfold fH at hq;have hby:i.bytes*q≤281474976710656:=acR (aeU hb hq) (by decide);have ht:=gI het;obtain⟨w',dC,k1,k2⟩:=run_make_full (P:=P) w 0 t et i z' kk.sz ht uX.info uX.zero uX.size .i64 .i64 q hby (by simp only[maxLen];omega) (ac6 _);have kk2:dg ψ h w w':=dg.grown k2 (fun b e=>by cases e);have hv:lE Z w' kk (List.replicate q (kC kk)) (madeCells z'.cells (q*kk.sz)).toList:=fun i x hx=>by
   obtain⟨hi,rfl⟩:=abp.1 hx;rw[List.length_replicate]at hi;rw[List.getElem_replicate];have R7:=uX.yj;refine aL.qg ?_ (CQ.mono (fun _ h=>h) (kk2.same g));have hmul:i*kk.sz+kk.sz≤q*kk.sz:=by rw[←Nat.succ_mul];exact ab0 _ hi
   have GC:=kk.iv;apply adO;intro j;rw[List.getElem?_take,List.getElem?_drop];by_cases hj:j<kk.sz
   ·rw[if_pos hj];have aG:i*kk.sz+j<q*kk.sz:=by omega
    simp only[madeCells,Array.getElem?_toList,Array.getElem?_map,Array.getElem?_range,aG,if_true,Option.map_some];rw[R7,show(i*kk.sz+j)%kk.sz=j by rw[Nat.add_comm,Nat.add_mul_mod_self_right,Nat.mod_eq_of_lt hj],getElem!_pos z'.cells j (by omega),Array.getElem?_eq_getElem (by omega)]
   ·rw[if_neg hj,List.getElem?_eq_none (by simp;omega)]
  refine⟨_,w',eI ψ id (.slice (some ⟨w.heap.size,0,none⟩) q q),dC,?_,?_⟩
  ·simp only[bD.hp];rw[iy];refine qh g hB id et hN kk2 (fun b hb=>k2.block b (g.bT hb) (by simp)) (vs:=(madeCells z'.cells (q*kk.sz)).toList) (by rw[Int.toNat_natCast,List.length_replicate];exact eE.of k1) (by rw[Int.toNat_natCast];exact hv) (fun b hb=>?_) KJ;simp only[ob]at hb;split at hb<;>cases hb;exact abX _
  ·simp only[bD.v,bD.hp,aD];exact⟨(eE.of k1).one,fun _=>(bg _ _ _).symm⟩
theorem D0{hh:Heap}(g:Good Z ψ hh.get w B0 O){t t' ty:TypeId}{d s:AV}{u v:Value}{e:bD}(hd:aD Z ψ hh.get w d u)(hs:aD Z ψ hh.get w s v)(he:Ai P hh t d s some=some e) :
  ∃n hw w',e=.wr (.int .i64 n) hw∧(Builtin.copy_ #[t,t'] ty #[u,v]).run P w=.ok (.int .i64 n) w'∧Next Z ψ hh.get w B0 O N Z ψ hw.get w':=by
 unfold Ai at he
 split at he
 rotate_left
 ·cases he
 rename_i et id het
 split at he
 rotate_left
 ·cases he
 rename_i e' k xs hg
 split at he
 rotate_left
 ·cases he
 rename_i ys R8
 split at he
 rotate_left
 ·cases he
 rename_i hc;obtain⟨rfl,ly⟩:=hc
 cases bA:xs.isEmpty with
 |true=>rw[bA]at he;cases he
 |false =>
  rw[bA]at he;cases he;obtain⟨i,z,uX⟩:=cx ly;have ht:=gI het;have GC:=List.length_pos_iff.2 (List.isEmpty_eq_false_iff.1 bA);have iY:=k.iv;simp only[aD]at hd;have hu:=hd.2 (by rw[hg];simp);subst hu;obtain⟨vs,ho,hv⟩:=g.row id (.row e' k) xs hg;obtain⟨hvl,afk⟩:=ho;rcases afk with⟨h0,_⟩|⟨gg,cap,cur,e1,e2,e3,e4,e5,e6,e7⟩
  ·omega
  have bM:hh.get id≠none:=by rw[hg];simp
  have pT:ob (ψ id)=some gg:=by rw[e1];simp only[ob];rw[if_neg (by omega)]
  obtain⟨news,⟨n1,n2,n3⟩,nv⟩:=yk g R8 hs;have Um:xs.length*k.sz≤cap*k.sz:=ab0 _ e4;have wh:cur.toList.length=cap*k.sz:=by rw[Array.length_toList];exact e6
  rcases n3 with⟨rfl,n0⟩|⟨a,c,rfl,n4⟩
  ·have:ys=[]:=abD n0;subst this;have hr:=run_copy_nil (P:=P) w t t' ty e' ⟨gg,0,none⟩ xs.length cap ht (by simp[uX.info]);refine⟨0,_,w,rfl,by rw[e1];exact hr,?_⟩;have e9:(hh.set id (.own (.row e' k) xs)).get=hh.get:=by
    funext j;by_cases hj:j=id
    ·subst hj;rw[Heap.yf,hg]
    ·rw[Heap.DH hj]
   have e8:oG ([]:List k.T) xs=xs:=by simp[oG]
   rw[e8,e9];exact Next.refl g
  ·let m:=Nat.min ys.length xs.length
   have hmy:m≤ys.length:=Nat.min_le_left _ _;have hmx:m≤xs.length:=Nat.min_le_right _ _;have aqc:m*k.sz≤ys.length*k.sz:=ab0 _ hmy;have aqd:m*k.sz≤xs.length*k.sz:=ab0 _ hmx
   let cs:=news.take (m*k.sz)
   have N2:cs.length=m*k.sz:=by simp only[cs,List.length_take];omega
   have hr:=jf (P:=P) w t t' ty e' k.sz gg 0 xs.length cap a ys.length c cur e' cs ht (by simp[uX.info,uX.size]) e3 N2 (fun j q hq=>n4 j q (by
    simp only[cs,List.getElem?_take]at hq
    split at hq
    ·exact hq
    ·cases hq)) (by rw[N2,e6];omega) (fun q hq=>n2 q (aeB hq))
   have akA:((m:Nat):Int)=min (ys.length:Int) (xs.length:Int):=by show((min ys.length (List.length (α:=k.T) xs):Nat):Int)=min (ys.length:Int) ((List.length (α:=k.T) xs:Nat):Int);omega
   have Y7:oG ys xs=ys.take m++xs.drop m:=by
    unfold oG;rcases Nat.le_total ys.length xs.length with h1|h1
    ·have:m=ys.length:=Nat.min_eq_left h1;rw[this,List.take_of_length_le h1,List.take_of_length_le (Nat.le_refl _)]
    ·have:m=xs.length:=Nat.min_eq_right h1;rw[this,List.drop_eq_nil_of_le h1,List.drop_eq_nil_of_le (Nat.le_refl _)]
   have hlen:(ys.take m++xs.drop m).length=xs.length:=by rw[List.length_append,List.length_take,List.length_drop];omega
   refine⟨_,_,_,rfl,by rw[e1,←akA];exact hr,?_⟩;have s8:Own ψ hh.get gg:=⟨id,bM,pT⟩;have hk:=dg.setRow (w:=w) s8 ((cur.toList.take 0++cs++cur.toList.drop (0+cs.length)).toArray);have sm:=hk.same g;rw[lu];refine g.write id bM hk (fun b hb _=>setRow_other _ (fun e=>hb (by rw[pT,e]))) _ (fun _ _ he=>by cases he) (fun Y2 x' he=>?_)
   cases he
   let il:=cur.toList.take 0++cs++cur.toList.drop (0+cs.length)
   have GD:il.length=cap*k.sz:=by simp only[il,List.length_append,List.length_take,List.length_drop,wh,N2];omega
   have j7:il.take (xs.length*k.sz)=cs++vs.drop (m*k.sz):=by simp only[il,List.take_zero,List.nil_append,Nat.zero_add];rw[List.take_append,List.take_of_length_le (by omega),N2,←e7,List.drop_take]
   rw[Y7];refine⟨il.take (xs.length*k.sz),⟨by rw[List.length_take,GD,hlen];omega,.inr ⟨gg,cap,il.toArray,by rw[hlen];exact e1,e2,setRow_heap w gg cur _ e' _ e3,by rw[hlen];exact e4,e5,by simpa using GD,by rw[hlen]⟩⟩,?_⟩;rw[j7];refine lE.DM (lE.append (fun i x hx=>?_) (fun i x hx=>?_) (by rw[N2,List.length_take,Nat.min_eq_left hmy])) sm
   ·obtain⟨hi,hx2⟩:=abp.1 hx;rw[List.length_take]at hi;have him:i<m:=by omega
    have h9:i*k.sz+k.sz≤m*k.sz:=by rw[←Nat.succ_mul];exact ab0 _ him
    rw[List.getElem?_take,if_pos him]at hx;refine aL.qg ?_ (nv i x hx);simp only[cs];rw[List.drop_take,List.take_take,Nat.min_eq_left (by omega)]
   ·rw[List.getElem?_drop]at hx;refine aL.qg ?_ (hv _ x hx);rw[List.drop_drop,Nat.add_mul]
mutual
theorem aM.imp{p q:Nat→Prop}(Lb:∀i,p i→q i):∀{a:AV},aM p a→aM q a
 |.no,_=>by simp only[aM]
 |.bool b,_=>by simp only[aM]
 |.int k n,_=>by simp only[aM]
 |.str s,_=>by simp only[aM]
 |.mA,_=>by simp only[aM]
 |.gq,_=>by simp only[aM]
 |.ref id s i off,h=>by simp only[aM]at h ⊢;exact Lb _ h
 |.fp k x off,_=>by simp only[aM]
 |.sl ex k xs,_=>by simp only[aM]
 |.mp kk vk es,_=>by simp only[aM]
 |.bO id,h=>by simp only[aM]at h ⊢;exact Lb _ h
 |.fn f cap,h=>by simp only[aM]at h ⊢;exact aF.imp Lb h
 |.agg cs,h=>by simp only[aM]at h ⊢;exact aF.imp Lb h
 |.pC cs,h=>by simp only[aM]at h ⊢;exact aF.imp Lb h
theorem aF.imp{p q:Nat→Prop}(Lb:∀i,p i→q i):∀{a:List AV},aF p a→aF q a
 |[],_=>by simp only[aF]
 |a::r,h=>by simp only[aF]at h ⊢;exact⟨aM.imp Lb h.1,aF.imp Lb h.2⟩
end
theorem aM.cells{p:Nat→Prop}{a:AV}(h:aM p a):aF p a.cells:=by
 cases a with
 |agg cs=>grind [AV.cells,aM]
 |_=>simp_all [AV.cells,aF,trivial]
theorem D1:∀{cs:List AV},KT cs=true→∀id,AV.bO id∉cs
 |[],_,id=>by simp
 |c::r,hn,id=>by
  intro hm
  cases c with
  |bO i=>simp[KT]at hn
  |_ =>
   simp only[KT]at hn;rcases abq.1 hm with e|hm
   ·cases e
   ·exact D1 hn id hm
theorem tN:∀{vs:List AV},w7 vs=true→∀v∈vs,∀id,AV.bO id∉v.cells
 |[],_,v,hv=>by simp at hv
 |a::r,hn,v,hv=>by
  simp only[w7,Bool.and_eq_true]at hn;rcases abq.1 hv with rfl|hv
  ·exact D1 hn.1
  ·exact tN hn.2 v hv
def yq(o:Oper):Bool :=match o.op with
 |.call { callee:=.value _,.. }=>true
 |_=>false
theorem N7{s:List (Nat×AV)}{ρC:Operand→Value}{x:Option Operand}(hx:∀y,x=some y→aD Z ψ h w (ρ s y) (ρC y)):fh Z ψ h w (x.map (ρ s)) (x.map ρC):=by
 cases x with
 |none=>trivial
 |some y=>exact hx y rfl
theorem D2{s:List (Nat×AV)}{ρC:Operand→Value}:∀(ps:List (Nat×Operand)),(∀p∈ps,aD Z ψ h w (ρ s p.2) (ρC p.2))→(∀p∈ps,ρ s p.2≠.no)→wj Z ψ h w (ps.map fun p=>(p.1,ρ s p.2)) (ps.map fun p=>(p.1,ρC p.2))
 |[],_,_=>trivial
 |p::r,h1,h2=>⟨rfl,h2 p (by simp),h1 p (by simp),D2 r (fun q hq=>h1 q (abg _ hq)) (fun q hq=>h2 q (abg _ hq))⟩
theorem HH{k:K}{hh:Heap}:∀{ps:List (Nat×AV)} {i:Nat} {xs:List k.T},tD k hh i ps=some xs→∀p∈ps,p.2≠.no
 |[],_,_,_,p,hp=>by simp at hp
 |(j,v)::r,i,xs,hl,p,hp=>by
  simp only[tD]at hl
  split at hl
  ·split at hl
   ·rename_i x ys h1 h2;rcases abq.1 hp with rfl|hp
    ·exact HA h1
    ·exact HH h2 p hp
   ·cases hl
  ·cases hl
theorem acL{α:Type}{l:List α}(h:l.length=0+1+1):∃x y,l=[x,y]:=by
 cases l with
 |nil=>simp at h
 |cons a r=>cases r with
  |nil=>simp at h
  |cons b s=>simp_all
theorem N8{a:AV}(h:aaW a=true):a≠.no:=by rintro rfl;cases h
section
variable {Eqs:TypeId→Option K} {Sg:FuncId→Option aO} {F:(f:FuncId)→(g:aO)→g.A→Option g.B}
theorem Jm{hh:Heap}{ρC:Operand→Value}{o:Oper}(g:Good Z ψ h w B0 O)(hB:B0≤w.heap.size)(br:∀id o,hh.get id=some o→h id=some o){id:Nat}(hN:N id){t:TypeId}{s x:AV}{u v:Value}{e:bD} (hs:aD Z ψ h w s u) (hx:aD Z ψ h w x v) (Cw:aM (fun i=>¬N i) s) (bm:∀i ty cs,h i=some (.box ty cs)→aF (fun i=>¬N i) cs) (nD:∀v hw,e=.wr v hw→hh.get=h) (he:pZ P hh id t s x some=some e) (dC:∀V w',(Builtin.append_ #[t,t] o.type #[u,v]).run P w=.ok V w'→(execOp ρC o).run P w=.ok (.value V) w'):iW P ρC o Z ψ h w B0 O N e:=by
 have KJ:∀i ty cs,h i=some (.box ty cs)→aF (fun i=>i≠id) cs:=fun i ty cs hb=>(bm i ty cs hb).imp (fun j hj e=>hj (by simp_all));unfold pZ at he
 split at he
 ·cases he
 ·rename_i et het;have ht:=gI het
  split at he
  ·cases he
  ·rename_i kk Zh
   split at he
   ·rename_i ys R8 ly;obtain⟨inf,z,uX⟩:=cx ly
    split at he
    ·
     cases hc:aR 0 ys.length with
     |false=>simp_all
     |true =>
      rw[hc]at he;cases he;simp only[aR,decide_eq_true_eq]at hc;simp only[aD]at hs;subst hs;obtain⟨V,w',h1,h2,h3⟩:=sJ (P:=P) (ty:=o.type) g br hB hN ht uX R8 hx (by omega) KJ;refine⟨V,w',Z,_,.inl (dC V w' h1),by simp only[bD.hp];rw[iy];exact h2,?_⟩
      grind [bD.v,bD.hp,aD,bg]
    ·
     rename_i dJ
     split at he
     ·rename_i e' k' xs hg
      split at he
      ·rename_i hc;obtain⟨rfl,rfl⟩:=hc
       cases rp:aR xs.length ys.length with
       |false=>simp_all
       |true =>
        rw[rp]at he;cases he;simp only[aR,decide_eq_true_eq]at rp;have heq:=nD _ _ rfl;have q7:=br _ _ hg;simp only[aD]at hs;have hu:=hs.2 (by rw[q7];simp);subst hu;simp only[aM]at Cw;obtain⟨V,w',h1,h2,h3⟩:=Cv (P:=P) (ty:=o.type) g br hB hN (fun e=>Cw (by simp_all)) ht uX q7 R8 hx rp KJ;refine⟨V,w',Z,_,.inl (dC V w' h1),by simp only[bD.hp];rw[lu,uW,heq];exact h2,?_⟩
        grind [bD.v,bD.hp,aD,bg]
      ·cases he
     ·cases he
    ·
     rename_i ex k' xs
     split at he
     ·rename_i hc;subst hc
      cases rp:(ex&&((!ys.isEmpty || xs.isEmpty)&&aR xs.length ys.length)) with
      |false=>simp_all
      |true =>
       rw[rp]at he;cases he;simp only[Bool.and_eq_true,Bool.or_eq_true,aR,decide_eq_true_eq,Bool.not_eq_true',List.isEmpty_eq_false_iff,List.isEmpty_iff]at rp;obtain⟨rfl,bA,R4⟩:=rp;obtain⟨V,w',h1,h2,h3⟩:=DN (P:=P) (ty:=o.type) g br hB hN ht uX hs R8 hx (bA.imp List.length_pos_iff.2 (fun h=>h)) R4 KJ;refine⟨V,w',Z,_,.inl (dC V w' h1),by simp only[bD.hp];rw[iy];exact h2,?_⟩
       grind [bD.v,bD.hp,aD,bg]
     ·cases he
    ·cases he
   ·cases he
theorem D3{ρC:Operand→Value}{o:Oper}(g:Good Z ψ h w B0 O)(hB:B0≤w.heap.size){id:Nat}(hN:N id){t:TypeId}{vs:List AV}{us:Array Value}{e:bD}(hr:az Z ψ h w vs us.toList)(h1:∀u∈us.toList,u.oneCell'=true) (hm:aF (fun i=>¬N i) vs) (bm:∀i ty cs,h i=some (.box ty cs)→aF (fun i=>¬N i) cs) (he:Ap id t vs some=some e) (dC:(execOp ρC o).run P w=.ok (.value (.pointer (some ⟨w.heap.size,0,none⟩))) (w.alloc (.cells us t))):iW P ρC o Z ψ h w B0 O N e:=by
 unfold Ap at he
 cases he
 have bA:∀i,¬N i→i≠id:=fun j hj e=>hj (by rw[e];exact hN);have n:=yi (N:=N) g hB id t hN hr h1 (fun i ty cs hb=>(bm i ty cs hb).imp bA) (hm.imp bA);refine⟨_,_,Z,_,.inl dC,by simp only[bD.hp];rw[iy];exact n,?_⟩;simp only[bD.v,bD.hp,aD];exact⟨_,rfl,fun _=>by rw[bg];simp[Y5]⟩
theorem R9{hh:Heap}{ρC:Operand→Value}{s:List (Nat×AV)}{o:Oper}(g:Good Z ψ h w B0 O)(hB:B0≤w.heap.size)(br:∀id o,hh.get id=some o→h id=some o){id:Nat}(hN:N id){t:TypeId}{n:Nat}{ps:Array (Nat×Operand)}{e:bD} (oL:∀p∈ps.toList,aD Z ψ h w (ρ s p.2) (ρC p.2)) (bm:∀i ty cs,h i=some (.box ty cs)→aF (fun i=>¬N i) cs) (mh:Bool) {e0:bD} (Zi:e=if mh then Y4 e0 else e0) (nD:∀v hw,e=.wr v hw→hh.get=h) (he:xY P hh id t n (ps.toList.map fun p=>(p.1,ρ s p.2)) some=some e0)
  (dC:∀V w',(Instr.buildSlice t n (ps.map fun p=>(p.1,ρC p.2))).run P w=.ok V w'→(execOp ρC o).run P w=.ok (.value V) w'):iW P ρC o Z ψ h w B0 O N e:=by
 have KJ:∀i ty cs,h i=some (.box ty cs)→aF (fun i=>i≠id) cs:=fun i ty cs hb=>(bm i ty cs hb).imp (fun j hj e=>hj (by simp_all));unfold xY at he
 split at he
 ·cases he
 ·rename_i et het;have ht:=gI het
  split at he
  ·cases he
  ·rename_i k hk
   split at he
   ·cases he
   ·cases he
   ·rename_i xs qf ly;obtain⟨inf,z,uX⟩:=cx ly;have N9:=D2 (Z:=Z) (ψ:=ψ) (h:=h) (w:=w) ps.toList oL (fun p hp=>HH qf (p.1,ρ s p.2) (acE.2 ⟨p,hp,rfl⟩));have P4:wj Z ψ hh.get w (ps.toList.map fun p=>(p.1,ρ s p.2)) (ps.map fun p=>(p.1,ρC p.2)).toList:=by rw[Array.toList_map];exact N9.pJ br
    split at he
    ·rename_i hc;obtain⟨rfl,hn⟩:=hc
     cases ta:w7 ((ps.toList.map fun p=>(p.1,ρ s p.2)).map (·.2)) with
     |true =>
      rw[ta]at he;cases he;have akB:=tN ta;obtain⟨V,w',h1,h2,h3⟩:=K2 (P:=P) (N:=N) g (g.sub br) (fun _ h=>h) hB hN ht uX (fun p hp i b hm=>absurd hm (akB p.2 (acE.2 ⟨p,hp,rfl⟩) i)) P4 qf hn KJ
      cases mh with
      |false =>
       have Zi:e=.new (.bO id) [(id,.own (.row et k) xs)]:=Zi;subst Zi;refine⟨V,w',Z,_,.inl (dC V w' h1),by simp only[bD.hp];rw[iy];exact h2,?_⟩
       grind [bD.v,bD.hp,aD,bg]
      |true =>
       have Zi:e=.new (.sl true k xs) []:=Zi;subst Zi;obtain⟨m1,m2⟩:=Up g hB h2 h3.2.1 h3.2.2.1 h3.2.2.2;have e1:(bD.new (.sl true k xs) []).hp h=h:=by rfl
       refine⟨V,w',_,_,.inl (dC V w' h1),by rw[e1];exact m1,?_⟩;rw[e1];exact m2
     |false =>
      rw[ta]at he;cases he;have Zi:e=.wr (.bO id) ((id,.own (.row et k) xs)::de hh ((ps.toList.map fun p=>(p.1,ρ s p.2)).flatMap (·.2.cells))):=by rw[Zi];cases mh<;>rfl
      subst Zi;have heq:=nD _ _ rfl;subst heq
      let cs:=(ps.toList.map fun p=>(p.1,ρ s p.2)).flatMap (·.2.cells)
      have gd:=jF g cs;obtain⟨V,w',h1,h2,h3⟩:=K2 (P:=P) (N:=N) gd g (fun b hb=>.inl hb) hB hN ht uX (fun p hp i b hm bA hb=>.inr ⟨i,List.mem_flatMap.2 ⟨p,hp,hm⟩,bA,hb⟩) P4 qf hn (fun i ty cs' hb=>KJ i ty cs' (eX _ _ _ _ hb));refine⟨V,w',tj Z ψ hh.get cs,eI ψ id V,.inl (dC V w' h1),?_,?_⟩
      ·simp only[bD.hp];rw[DR];exact h2.drop (fun b hb=>.inl hb) (fun b hb=>hb.imp (fun h=>h) (fun⟨i,_,h5,h6⟩=>⟨i,h5,h6⟩)) (eX _ _)
      grind [bD.v,bD.hp,aD,bg]
    ·cases he
theorem Sa{mh:Bool}{h:Heap}{id:Nat}{t:TypeId}{n:Nat}{ps:List (Nat×AV)}{e:bD}(he:Aq P mh h id t n ps some=some e):∃e0,xY P h id t n ps some=some e0∧e=if mh then Y4 e0 else e0:=by
 unfold Aq xY at he;unfold xY
 split at he
 ·cases he
 split at he
 ·cases he
 grind
theorem D4(p:Nat→Prop)(v:Value):aM p (Ag v):=by
 cases v with
 |pointer a=>grind [Ag,aM]
 |slice a n c=>grind [Ag,aM]
 |func fn first cap =>
  cases fn with
  |func f=>grind [Ag,aM,aF]
  |_=>simp only[Ag,aM]
 |_=>simp only[Ag,aM]
theorem Ay(p:Nat→Prop):∀vs:List Value,aF p (vs.map Ag)
 |[]=>by simp[aF]
 |v::r=>by simp only[List.map_cons,aF];exact⟨D4 p v,Ay p r⟩
theorem Sb(p:Nat→Prop)(v:Value):aF p (w6 v).cells:=by
 cases v with
 |agg cs=>grind [w6,AV.cells,Ay]
 |_=>simp_all [w6,Hz,aF,D4,trivial]
theorem UB(Gt:∀t k,Eqs t=some k→nE P t k){hh:Heap}{ρC:Operand→Value}{s:List (Nat×AV)}{o:Oper}(g:Good Z ψ h w B0 O)(hB:B0≤w.heap.size)(br:∀id o,hh.get id=some o→h id=some o){id:Nat}(hN:makes o.op=true→N id){e:bD} (oL:∀x∈o.op.operands,aD Z ψ h w (ρ s x) (ρC x)) (hm:∀x∈o.op.operands,aM (fun i=>¬N i) (ρ s x)) (bm:∀i ty cs,h i=some (.box ty cs)→aF (fun i=>¬N i) cs) (nD:∀v hw,e=.wr v hw→hh.get=h) (NH:yq o=false) (he:dq P Eqs Sg F id hh s o some=some e):iW P ρC o Z ψ h w B0 O N e:=by
 obtain⟨dst,op,type,pos,after,guard⟩:=o;have two:∀{a b:Operand},(∀x∈(#[a,b]:Array Operand),aD Z ψ h w (ρ s x) (ρC x))→aD Z ψ h w (ρ s a) (ρC a)∧aD Z ψ h w (ρ s b) (ρC b):=fun hx=>⟨hx _ (by simp),hx _ (by simp)⟩
 cases op<;>simp only[dq]at he<;>simp only[Op.operands]at oL hm<;>first|(cases he;done)|skip
 case move x=>cases he;exact iW.val g (V:=ρC x) (by simp[execOp]) (oL x (by simp))
 case assign x=>cases he;exact iW.val g (V:=ρC x) (by simp[execOp]) (oL x (by simp))
 case pick c a b =>
  have h1:=oL c (by simp);have h2:=oL a (by simp);have h3:=oL b (by simp)
  split at he
  ·rename_i t ht
   cases he
   rw[ht]at h1;simp only[aD]at h1;refine iW.val g (V:=if t then ρC a else ρC b) (by simp[execOp,h1,asBool]) ?_;unfold aaU
   split
   ·rename_i p q hp hq;rw[hp]at h2;rw[hq]at h3;simp only[aD]at h2 h3 ⊢
    cases t<;>simp[h2,h3]
   ·cases t
    ·exact h3
    ·exact h2
  ·cases he
 case alloc t =>
  split at he
  ·rename_i z hz;obtain⟨i,zv,hi,hzz,rfl,h1⟩:=rq hz;exact D3 (us:=zv.cells) g hB (hN rfl) (DP zv) h1 (Sb _ zv) bm he (by simp[execOp,Instr.alloc,tM hi hzz,newVar,newRow,newObj,Sem.run])
  ·cases he
 case box t x =>
  have h1:=oL x (by simp)
  split at he
  ·rename_i hp;have hc:=h1.cells (K5 hp);exact D3 (us:=(ρC x).cells) g hB (hN rfl) hc (xi hp hc) (hm x (by simp)).cells bm he (by simp[execOp,Instr.box,newVar,newRow,newObj,Sem.run])
  ·cases he
 case build t ps =>
  unfold uO at he
  split at he
  ·rename_i z fs hz hf
   split at he
   ·rename_i cs afm je
    cases he
    simp only[Bool.and_eq_true]at je;obtain⟨je,hnn⟩:=je;have afn:fs.toList.all (fun f=>(P.info? f.type).isSome)=true:=je;have acM:∀p∈ps.toList,aD Z ψ h w (ρ s p.2) (ρC p.2):=fun p hp=>oL p.2 (by simp;exact⟨p.1,by simpa using hp⟩);have N9:=D2 (Z:=Z) (ψ:=ψ) (h:=h) (w:=w) ps.toList acM (fun p hp=>N8 (ac2.1 hnn (p.1,ρ s p.2) (acE.2 ⟨p,hp,rfl⟩)));obtain⟨V,h1,h2⟩:=RU (P:=P) (qs:=ps.map fun p=>(p.1,ρC p.2)) hz hf afn (by rw[Array.toList_map];exact N9) afm;exact iW.val g (V:=V) (by simp only[execOp,Sem.run_bind];rw[h1];simp) h2
   ·cases he
  ·cases he
 case buildSlice t n ps =>
  have acM:∀p∈ps.toList,aD Z ψ h w (ρ s p.2) (ρC p.2):=fun p hp=>oL p.2 (by simp;exact⟨p.1,by simpa using hp⟩);obtain⟨e0,h0,h1⟩:=Sa he;exact R9 g hB br (hN rfl) acM bm (aaX Sg t _) h1 nD h0 (fun V w' h1=>by simp only[execOp,Sem.run_bind];rw[h1];simp)
 case load t a =>
  obtain⟨x,V,rfl,h1,h2⟩:=xg g br (oL a (by simp)) he;exact iW.val g (V:=V) (by simp[execOp,h1]) h2
 case store t a v =>
  obtain⟨h1,h2⟩:=two oL;have hw:∃hw,e=.wr .no hw:=by obtain⟨hw,_,_,h3,_⟩:=BM (P:=P) (N:=N) (g.sub br) (h1.pJ br) (h2.pJ br) he;exact⟨hw,h3⟩
  obtain⟨hw,rfl⟩:=hw;have heq:=nD _ _ rfl;subst heq;obtain⟨NG,w',Z',h3,h4,h5⟩:=BM (P:=P) (N:=N) g h1 h2 he
  cases h3
  exact⟨undef,w',Z',ψ,.inr ⟨by simp[execOp,h4],rfl⟩,h5,by simp only[bD.v,aD]⟩
 case nilCheck x =>
  have h1:=oL x (by simp)
  split at he
  ·rename_i id s i off hx
   cases he
   rw[hx]at h1;have h2:=h1;simp only[aD]at h1;obtain⟨a,ha,_⟩:=h1;exact iW.val g (V:=ρC x) (by simp[execOp,ha]) h2
  ·rename_i k y off hx
   cases he
   rw[hx]at h1;have h2:=h1;simp only[aD]at h1;obtain⟨a,us,ha,_⟩:=h1;exact iW.val g (V:=ρC x) (by simp[execOp,ha]) h2
  ·rename_i f cap hx
   cases he
   rw[hx]at h1;have h2:=h1;simp only[aD]at h1;obtain⟨vs,ha,_⟩:=h1;exact iW.val g (V:=ρC x) (by simp[execOp,ha]) h2
  ·cases he
 case binOp op t x y yt =>
  obtain⟨h1,h2⟩:=two oL;obtain⟨r,V,rfl,h3,h4⟩:=RY Gt (xo:=x) (yo:=y) h1 h2 he;exact iW.val g (V:=V) (by simp only[execOp,Sem.run_bind]at h3 ⊢;rw[h3];simp) h4
 case unOp op t x =>
  have h1:=oL x (by simp)
  cases op<;>simp only at he<;>first|(cases he;done)|skip
  split at he
  ·rename_i b hx
   cases he
   rw[hx]at h1;simp only[aD]at h1;exact iW.val g (V:=.bool (!b)) (by simp[execOp,h1,Op.unary]) (by simp only[aD])
  ·cases he
 case convert src dst x =>
  have h1:=oL x (by simp);unfold DD at he
  split at he
  ·rename_i k1 k2 k3 n hs hd hx
   cases he
   rw[hx]at h1;simp only[aD]at h1;exact iW.val g (V:=.int k2 (k2.wrap n)) (by simp[execOp,h1,convert,run_underlying hs,run_underlying hd,Conv.intToInt]) (by simp only[aD])
  ·rename_i sv hs hd hx
   cases he
   rw[hx]at h1;have h2:=h1;simp only[aD]at h1;exact iW.val g (V:=ρC x) (by simp[execOp,h1,convert,run_underlying hs,run_underlying hd]) h2
  ·rename_i e sv hs hd hx
   split at he
   ·rename_i hu
    cases he
    rw[hx]at h1;simp only[aD]at h1;obtain⟨V,w',Z',h2,h3,h4⟩:=R5 (P:=P) (N:=N) g hB hs hd hu sv;have e1:(bD.new (.sl false (.int .u8) (bytesOf sv)) []).hp h=h:=by funext i;simp[bD.hp,Heap.get]
    refine⟨V,w',Z',ψ,.inl (by simp only[execOp,h1,Sem.run_bind,h2,Result.andThen_ok,Sem.run_pure]),by rw[e1];exact h3,?_⟩;rw[e1];exact h4
   ·cases he
  ·rename_i _ e hs hd
   split at he
   ·rename_i hu
    split at he
    ·rename_i xs hx
     cases he
     exact iW.val g (V:=.string (strOf xs)) (by simp only[execOp,Sem.run_bind,Zg g br hs hu hd hx h1,Result.andThen_ok,Sem.run_pure]) (by simp only[aD])
    ·cases he
   ·cases he
  ·cases he
 case makeSlice t l c =>
  have h1:=oL l (by simp);have h2:=oL c (by simp);have KJ:∀i ty cs,h i=some (.box ty cs)→aF (fun i=>i≠id) cs:=fun i ty cs hb=>(bm i ty cs hb).imp (fun j hj e=>hj (by rw[e];exact hN rfl));obtain⟨V,w',ψ',h3,h4,h5⟩:=La g hB (hN rfl) h1 h2 KJ he;exact⟨V,w',Z,ψ',.inl (by simp only[execOp,Sem.run_bind,h3,Result.andThen_ok,Sem.run_pure]),h4,h5⟩
 case makeFunc fn first cap =>
  cases fn<;>simp only at he<;>first|(cases he;done)|skip
  rename_i f
  split at he
  ·rename_i hf
   cases he
   have h0:first=#[]:=aeN hf
   subst h0;have hl:∀l:List Operand,(∀x∈l,aD Z ψ h w (ρ s x) (ρC x))→az Z ψ h w (l.map (ρ s)) (l.map ρC):=by
    intro l
    induction l with
    |nil=>intro _;simp[az]
    |cons a r ih=>intro ha;simp only[List.map_cons,az];exact⟨_,_,rfl,ha a (by simp),ih (fun x hx=>ha x (abg _ hx))⟩
   exact iW.val g (V:=.func (.func f) #[] (cap.map ρC)) (by simp[execOp,Instr.makeFunc]) (by simp only[aD];exact⟨_,rfl,by rw[Array.toList_map];exact hl _ (fun x hx=>oL x (by simp;simpa using hx))⟩)
  ·cases he
 case slice t x lo hi mx =>
  have h1:=oL x (by simp);have h2:fh Z ψ h w (lo.map (ρ s)) (lo.map ρC):=N7 (fun y hy=>oL y (by subst hy;simp));have h3:fh Z ψ h w (hi.map (ρ s)) (hi.map ρC):=N7 (fun y hy=>oL y (by subst hy;simp));have h4:fh Z ψ h w (mx.map (ρ s)) (mx.map ρC):=N7 (fun y hy=>oL y (by subst hy;simp))
  split at he
  ·rename_i ht;unfold Ak at he
   split at he
   ·rename_i sv hx hmx
    split at he
    ·rename_i l u hb
     cases ho:aq sv.size l u with
     |false=>rw[ho]at he;cases he
     |true =>
      rw[ho]at he;cases he;rw[hx]at h1;simp only[aD]at h1;have Un:mx=none:=by cases mx with
       |none=>rfl
       |some m=>simp at hmx
      subst Un;have dC:=xh (P:=P) (w:=w) (b:=false) (abX sv.size) h2 h3 (mx:=none) (mx':=none) trivial hb ho (.inl rfl);exact iW.val g (V:=.string (acv sv l u)) (by simp[execOp,Instr.sliceAt,Instr.slice,run_underlying ht,h1,dC,acv]) (by simp only[aD])
    ·cases he
   ·cases he
  ·rename_i et ht
   split at he
   ·rename_i N3;obtain⟨V,Z',h5,h6,h7⟩:=K4 (P:=P) (N:=N) g br ht h1 h2 h3 h4 nD he N3;exact⟨V,w,Z',ψ,.inl (by simp[execOp,h5]),h6,h7⟩
   ·cases he
  ·cases he
 case fieldAddr t x f =>
  have h1:=oL x (by simp)
  split at he
  ·rename_i n ft id sz i off hf hx
   split at he
   ·cases he
   ·rename_i hc
    cases he
    rw[hx]at h1;obtain⟨V,h2,h3⟩:=wq (P:=P) hf hc h1;exact iW.val g (V:=V) (by simp[execOp,h2]) h3
  ·rename_i n ft k y off hf hx
   split at he
   ·cases he
   ·rename_i hc
    cases he
    rw[hx]at h1;obtain⟨V,h2,h3⟩:=ym (P:=P) hf hc h1;exact iW.val g (V:=V) (by simp[execOp,h2]) h3
  ·cases he
 case field t x f =>
  have h1:=oL x (by simp)
  split at he
  ·rename_i n ft cs hf hx
   split at he
   ·rename_i v hv
    cases he
    rw[hx]at h1;obtain⟨V,h2,h3⟩:=K3 (P:=P) hf h1 hv;exact iW.val g (V:=V) (by simp[execOp,h2]) h3
   ·cases he
  ·cases he
 case indexAddr t x i =>
  obtain⟨h1,h2⟩:=two oL;obtain⟨y,V,rfl,h3,h4⟩:=sK g br h1 h2 he;exact iW.val g (V:=V) (by simp[execOp,h3]) h4
 case index t x i =>
  obtain⟨h1,h2⟩:=two oL
  split at he
  ·rename_i sv ik n ht hx hi;obtain⟨c,hc,YE⟩:=acY.1 he
   cases YE
   rw[hx]at h1;rw[hi]at h2;simp only[aD]at h1 h2;exact iW.val g (V:=.int .u8 (c.toNat:Int)) (by simp[execOp,Instr.index,asIntOf,run_underlying ht,h1,h2,hc]) (by simp only[aD])
  ·cases he
 case extract t i =>
  have h1:=oL t (by simp)
  split at he
  ·rename_i vs hx
   split at he
   ·rename_i v hv
    cases he
    rw[hx]at h1;simp only[aD]at h1;obtain⟨us,hu,hl⟩:=h1;obtain⟨u,h2,h3⟩:=hl.get i hv;exact iW.val g (V:=u) (by simp[execOp,Instr.extract,hu,show us[i]? = some u by simpa using h2]) h3
   ·cases he
  ·cases he
 case makeMap t r =>
  cases r with
  |some r=>cases he
  |none =>simp only at he;have KJ:∀i ty cs,h i=some (.box ty cs)→aF (fun i=>i≠id) cs:=fun i ty cs hb=>(bm i ty cs hb).imp (fun j hj e=>hj (by rw[e];exact hN rfl));obtain⟨V,w',ψ',h1,h2,h3⟩:=GI g hB (hN rfl) KJ he;exact⟨V,w',Z,ψ',.inl (by simp[execOp,h1]),h2,h3⟩
 case lookup t m i ok =>
  obtain⟨h1,h2⟩:=two oL;obtain⟨y,V,rfl,h3,h4⟩:=Jj Gt g br h1 h2 he;exact iW.val g (V:=V) (by simp[execOp,h3]) h4
 case mapUpdate t m i v =>
  have h1:=oL m (by simp);have h2:=oL i (by simp);have h3:=oL v (by simp);have hw:∃hw,e=.wr (.pC []) hw:=by obtain⟨hw,_,_,h4,_⟩:=yn (N:=N) Gt (g.sub br) (h1.pJ br) (h2.pJ br) (h3.pJ br) he;exact⟨hw,h4⟩
  obtain⟨hw,rfl⟩:=hw;have heq:=nD _ _ rfl;subst heq;obtain⟨NG,w',Z',h4,h5,h6⟩:=yn (N:=N) Gt g h1 h2 h3 he
  cases h4
  exact⟨undef,w',Z',ψ,.inr ⟨by simp[execOp,h5],rfl⟩,h6,by simp only[bD.v,aD,az];exact⟨#[],rfl,rfl⟩⟩
 case range t x =>
  have KJ:∀i ty cs,h i=some (.box ty cs)→aF (fun i=>i≠id) cs:=fun i ty cs hb=>(bm i ty cs hb).imp (fun j hj e=>hj (by rw[e];exact hN rfl));obtain⟨V,w',ψ',h1,h2,h3⟩:=Jk g hB (hN rfl) (oL x (by simp)) KJ he;exact⟨V,w',Z,ψ',.inl (by simp[execOp,h1]),h2,h3⟩
 case next x b =>
  cases b with
  |false=>cases he
  |true =>obtain⟨V,w',h1,h2,h3⟩:=K8 (P:=P) (N:=N) (ty:=type) g br (oL x (by simp)) nD he;exact⟨V,w',Z,ψ,.inl (by simp[execOp,h1]),h2,h3⟩
 case entry x =>
  obtain⟨y,V,rfl,h1,h2⟩:=K9 (P:=P) g br (oL x (by simp)) he;exact iW.val g (V:=V) (by simp[execOp,h1]) h2
 case call c =>
  obtain⟨callee,args,argTypes⟩:=c
  cases callee with
  |value f=>simp[yq]at NH
  |invoke r m=>simp only at he;cases he
  |builtin b =>
   have jQ:∀x∈args.toList,aD Z ψ h w (ρ s x) (ρC x):=fun x hx=>oL x (by simp only[Call.operands];exact Array.mem_append.2 (.inr (by simpa using hx)));have Oa:∀x∈args.toList,aM (fun i=>¬N i) (ρ s x):=fun x hx=>hm x (by simp only[Call.operands];exact Array.mem_append.2 (.inr (by simpa using hx)));obtain⟨args⟩:=args;obtain⟨argTypes⟩:=argTypes;simp only at he jQ Oa
   cases b<;>simp only at he<;>first|(cases he;done)|skip
   case append =>
    split at he
    ·rename_i l1 l2 x y t t'
     split at he
     ·rename_i htt;subst htt;exact Jm g hB br (hN rfl) (jQ x (by simp)) (jQ y (by simp)) (Oa x (by simp)) bm nD he (fun V w' h1=>by simp only[execOp,resolve,invoke,builtin,Sem.run_bind,Sem.run_pure,Result.andThen_ok,List.map_toArray,List.map_cons,List.map_nil,h1])
     ·split at he
      ·rename_i b hb hy;have h2:=jQ y (by simp);rw[hy]at h2;simp only[aD]at h2;have KJ:∀i ty cs,h i=some (.box ty cs)→aF (fun i=>i≠id) cs:=fun i ty cs hb=>(bm i ty cs hb).imp (fun j hj e=>hj (by rw[e];exact hN rfl));obtain⟨V,w',ψ',h3,h4,h5⟩:=GJ (ty:=type) (t:=t) (t':=t') g hB br (hN rfl) hb (jQ x (by simp)) (Oa x (by simp)) KJ nD he;exact⟨V,w',Z,ψ',.inl (by simp only[execOp,resolve,invoke,builtin,Sem.run_bind,Sem.run_pure,Result.andThen_ok,List.map_toArray,List.map_cons,List.map_nil,h2,h3]),h4,h5⟩
      ·cases he
    ·cases he
   case copy =>
    split at he
    ·rename_i l1 l2 x y t t';have h1:=jQ x (by simp);have h2:=jQ y (by simp);have hw:∃n hw,e=.wr (.int .i64 n) hw:=by obtain⟨n,hw,_,h4,_⟩:=D0 (N:=N) (t':=t') (ty:=type) (g.sub br) (h1.pJ br) (h2.pJ br) he;exact⟨n,hw,h4⟩
     obtain⟨n,hw,rfl⟩:=hw;have heq:=nD _ _ rfl;subst heq;obtain⟨n',NG,w',h4,h5,h6⟩:=D0 (N:=N) (t':=t') (ty:=type) g h1 h2 he
     cases h4
     exact⟨.int .i64 n,w',Z,ψ,.inl (by simp only[execOp,resolve,invoke,builtin,Sem.run_bind,Sem.run_pure,Result.andThen_ok,List.map_toArray,List.map_cons,List.map_nil,h5]),h6,by simp only[bD.v,aD]⟩
    ·cases he
   case delete =>
    split at he
    ·rename_i l1 l2 m x t ts;have h1:=jQ m (by simp);have h2:=jQ x (by simp);have hw:∃hw,e=.wr (.pC []) hw:=by obtain⟨hw,_,h4,_⟩:=yp (N:=N) (ty:=type) (ts:=ts) Gt (g.sub br) (h1.pJ br) (h2.pJ br) he;exact⟨hw,h4⟩
     obtain⟨hw,rfl⟩:=hw;have heq:=nD _ _ rfl;subst heq;obtain⟨NG,w',h4,h5,h6⟩:=yp (N:=N) (ty:=type) (ts:=ts) Gt g h1 h2 he
     cases h4
     exact⟨.tuple #[],w',Z,ψ,.inl (by simp only[execOp,resolve,invoke,builtin,Sem.run_bind,Sem.run_pure,Result.andThen_ok,List.map_toArray,List.map_cons,List.map_nil,h5]),h6,by simp only[bD.v,aD,az];exact⟨#[],rfl,rfl⟩⟩
    ·cases he
   case len =>
    split at he
    ·rename_i l1 l2 x t
     split at he
     ·rename_i htm;obtain⟨n,rfl,h1⟩:=N6 (P:=P) (ty:=type) g br htm (jQ x (by simp)) he;exact iW.val g (V:=.int .i64 (n:Int)) (by simp only[execOp,resolve,invoke,builtin,Sem.run_bind,Sem.run_pure,Result.andThen_ok,List.map_toArray,List.map_cons,List.map_nil,h1]) (by simp only[aD])
     split at he
     ·rename_i aG;obtain⟨n,rfl,h1⟩:=RW g br (jQ x (by simp)) he;refine iW.val g (V:=.int .i64 (n:Int)) ?_ (by simp only[aD]);rcases h1 with⟨sv,h2,h3,rfl⟩|⟨A,c,h3⟩
      ·unfold acx at aG;rw[h2]at aG
       split at aG
       ·rename_i hu _;simp[execOp,resolve,invoke,builtin,Builtin.len_,run_underlying hu,h3,goInt]
       ·cases aG
       ·rename_i h9;exact(h9 _ rfl).elim
       ·cases aG
      ·have hu:∃e,P.underlying t=some (.slice e):=by
        have h4:=jQ x (by simp);rw[h3]at h4;unfold acx at aG
        split at aG
        ·rename_i sv _ hxx;rw[hxx]at h4;simp only[aD]at h4;cases h4
        ·cases aG
        ·rename_i e _ hu _;exact⟨_,hu⟩
        ·cases aG
       obtain⟨e,hu⟩:=hu;simp[execOp,resolve,invoke,builtin,Builtin.len_,run_underlying hu,h3,goInt]
     ·cases he
    ·cases he
   all_goals
    unfold RP at he
    split at he
    ·rename_i k a k' b hxy;have hl:=congrArg List.length hxy;simp only[List.length_map,List.length_cons,List.length_nil]at hl;obtain⟨x,y,rfl⟩:=acL hl;simp only[List.map_cons,List.map_nil,List.cons.injEq,and_true]at hxy;have h1:=jQ x (by simp);have h2:=jQ y (by simp);rw[hxy.1]at h1;rw[hxy.2]at h2;simp only[aD]at h1 h2
     split at he
     ·rename_i hk;subst hk
      cases he
      refine iW.val g (V:=ck (.int _ _)) ?_ (kQ _ _)
      first
       |(simp[execOp,resolve,invoke,builtin,Builtin.max_,Builtin.max2,h1,h2,ck];simp only[Int.max_def];split<;>split<;>omega)
       |(simp[execOp,resolve,invoke,builtin,Builtin.min_,Builtin.min2,h1,h2,ck];simp only[Int.min_def];split<;>split<;>omega)
     ·cases he
    ·cases he
end
end Go.Vs
namespace Go.Vs
variable {P:Program} {Z Z' Zf:Nat→Prop} {ψ ψ':Nat→Value} {h h':Hp} {w w':World} {B0:Nat} {O:Nat→Prop} {N:Nat→Prop}
abbrev BP:=Nat×Option Nat×Ob
def eL(L:List BP):Heap:=L.map fun e=>(e.1,e.2.2)
def kR(ψ:Nat→Value):Option Nat→Value
 |some s=>ψ s
 |none=>.slice none 0 0
def fJ(ψ:Nat→Value):List BP→Nat→Value
 |[],_=>undef
 |(i,s,_)::r,n=>if i=n then kR ψ s else fJ ψ r n
theorem qj{L:List BP}{i:Nat}{o:Ob}(hg:(eL L).get i=some o):∃s,(i,s,o)∈L:=by
 induction L with
 |nil=>simp[eL,Heap.get]at hg
 |cons e r ih =>
  obtain⟨j,s,o'⟩:=e;simp only[eL,List.map_cons,Heap.get]at hg
  split at hg
  ·rename_i e;subst e;cases hg;exact⟨s,acD⟩
  ·obtain⟨s',hs⟩:=ih hg;exact⟨s',abg _ hs⟩
theorem oM{i:Nat}{r:List Nat}(h:cw (i::r)=true):i∉r∧cw r=true:=by simp_all [cw,Bool.and_eq_true,Bool.not_eq_true',List.contains_iff_mem]
theorem jR{L:List BP}(hn:cw (L.map (·.1))=true){i:Nat}{s:Option Nat}{o:Ob}(hm:(i,s,o)∈L):fJ ψ L i=kR ψ s:=by
 induction L with
 |nil=>cases hm
 |cons e r ih =>
  obtain⟨j,s',o'⟩:=e;obtain⟨h1,h2⟩:=oM hn;simp only[fJ]
  grind
theorem Zj{L:List BP}(hs:cw (L.filterMap (·.2.1))=true){i j s:Nat}{o o':Ob}(h1:(i,some s,o)∈L)(h2:(j,some s,o')∈L):i=j∧o=o':=by
 induction L with
 |nil=>cases h1
 |cons e r ih =>
  obtain⟨k,s',o''⟩:=e;have mem:∀{k:Nat} {o:Ob},(k,some s,o)∈r→s∈r.filterMap (·.2.1):=fun h=>aeT.2 ⟨_,h,rfl⟩;rw[List.filterMap_cons]at hs
  cases s' with
  |none =>simp_all
  |some s' =>
   simp only[]at hs;obtain⟨h3,h4⟩:=oM hs
   grind
def Lc:(ok:OK)→ok.T→Prop
 |.row _ _,xs=>xs=[]
 |_,_=>False
theorem Lc.owns:∀{ok:OK} {xs:ok.T},Lc ok xs→j6 Z w ok (.slice none 0 0) xs
 |.row ty k,xs,h=>by have h:xs=[]:=h;subst h;exact⟨[],⟨by simp,.inl ⟨rfl,none,rfl⟩⟩,fun i x hx=>by simp at hx⟩
 |.map _ _,_,h=>h.elim
 |.iter _ _,_,h=>h.elim
 |.pX,_,h=>h.elim
def yu(Z:Nat→Prop)(ψ:Nat→Value)(h:Hp)(w:World)(h':Hp)(ψ':Nat→Value):BP→Prop
 |(_,some s,.own ok xs)=>h s=some (.own ok xs)
 |(_,none,.own ok xs)=>Lc ok xs
 |(_,some s,.box ty cs')=>(∃cs,h s=some (.box ty cs))∧∀gg vs,ψ s=.pointer (some ⟨gg,0,none⟩)→w.heap[gg]? = some (.cells vs ty (0,0))→az Z ψ' h' w cs' vs.toList
 |(_,none,.box _ _)=>False
theorem Good.rename(g:Good Z ψ h w B0 O){L:List BP}(hn:cw (L.map (·.1))=true)(hs:cw (L.filterMap (·.2.1))=true)(ly:∀e∈L,yu Z ψ h w (eL L).get (fJ ψ L) e) :
  Good Z (fJ ψ L) (eL L).get w B0 O:=by
 have src:∀id b,(eL L).get id≠none→ob (fJ ψ L id)=some b→∃s o,(id,some s,o)∈L∧h s≠none∧ob (ψ s)=some b:=fun id b h1 h2=>by
  obtain⟨o,ho⟩:=abP.1 h1;obtain⟨s,hm⟩:=qj ho;rw[jR hn hm]at h2
  cases s with
  |none=>simp[kR,ob]at h2
  |some s =>
   have h3:=ly _ hm;refine⟨s,o,hm,?_,h2⟩
   cases o with
   |box ty cs=>obtain⟨⟨cs0,h4⟩,_⟩:=h3;rw[h4];simp
   |own ok xs=>rw[show h s=some (.own ok xs) from h3];simp
 refine⟨fun id ty cs hb=>?_,fun id ok xs hb=>?_,fun id b h1 h2=>?_,fun id qb b h1 h2 h3 h4=>?_,g.kO⟩
 ·obtain⟨s,hm⟩:=qj hb;have h3:=ly _ hm;rw[jR hn hm]
  cases s with
  |none=>exact h3.elim
  |some s =>obtain⟨⟨cs0,h4⟩,h5⟩:=h3;obtain⟨gg,vs,h6,h7,h8,h9⟩:=g.box s ty cs0 h4;exact⟨gg,vs,h6,h7,h5 gg vs h6 h7,h9⟩
 ·obtain⟨s,hm⟩:=qj hb;have h3:=ly _ hm;rw[jR hn hm]
  cases s with
  |none=>exact Lc.owns h3
  |some s=>exact g.row s ok xs h3
 ·obtain⟨s,o,hm,h3,h4⟩:=src id b h1 h2;exact g.live s b h3 h4
 ·obtain⟨s,o,hm,h5,h6⟩:=src id b h1 h3;obtain⟨s',o',UC,h5',h6'⟩:=src qb b h2 h4;have:=g.apart s s' b h5 h5' h6 h6'
  grind [Zj]
def CT(hh:Heap)(i:Nat):List AV:=match hh.get i with
 |some (.box _ cs)=>cs
 |_=>[]
def eO:(eC:List CK)→Nat→List AV→tn eC→List BP
 |[],_,_,_=>[]
 |.val k::r,n,cs,x=>eO r (n+1) (cs.drop k.sz) x.2
 |.own ok::r,n,cs,x=>(n,(ri (cs.headD .no)).head?,.own ok x.1)::eO r (n+1) cs.tail x.2
def fC:(b:BK)→Heap→Nat→Nat→Nat→b.T→List BP
 |.box ty c,hh,i,i',n,x=>(i',some i,.box ty (aK c n x))::eO c n (CT hh i) x
 |.own ok,_,i,i',_,x=>[(i',some i,.own ok x)]
def cV:(bs:List BK)→Heap→List Nat→List Nat→Nat→BC bs→List BP
 |b::r,hh,i::is,i'::is',n,x=>fC b hh i i' n x.1++cV r hh is is' (n+16) x.2
 |_,_,_,_,_,_=>[]
theorem oO:∀(eC:List CK) (n:Nat) (cs:List AV) (x:tn eC),eL (eO eC n cs x)=bf eC n x
 |[],_,_,_=>rfl
 |.val k::r,n,cs,x=>oO r (n+1) _ x.2
 |.own ok::r,n,cs,x=>by simp only[eO,bf,eL,List.map_cons];rw[←oO r (n+1) cs.tail x.2];rfl
theorem mD:∀(eC:List CK) (n:Nat) (cs:List AV) (x:tn eC),(eO eC n cs x).map (·.1)=cM eC n
 |[],_,_,_=>rfl
 |.val k::r,n,cs,x=>mD r (n+1) _ x.2
 |.own ok::r,n,cs,x=>by simp only[eO,cM,List.map_cons];rw[mD r (n+1) cs.tail x.2]
theorem Az(c:AV):(ri c).head?.toList=ri c:=by cases c<;>rfl
theorem eQ{α β:Type}(f:α→Option β)(a:α)(l:List α):(a::l).filterMap f=(f a).toList++l.filterMap f:=by
 grind
theorem ry{k:K}{r:List CK}{hh:Heap}{cs:List AV}{x:tn (.val k::r)}(hd:dk (.val k::r) hh cs=some x):dM k ((cs.take k.sz).map (dp hh))=some x.1∧dk r hh (cs.drop k.sz)=some x.2:=by
 have e:dk (.val k::r) hh cs=(match dM k ((cs.take k.sz).map (dp hh)),dk r hh (cs.drop k.sz) with
  |some x,some y=>some ((x,y):k.T×tn r)
  |_,_=>none):=by rfl
 rw[e]at hd;clear e;generalize dM k ((cs.take k.sz).map (dp hh))=o1 at hd ⊢;generalize dk r hh (cs.drop k.sz)=o2 at hd ⊢
 cases o1 with
 |none=>cases hd
 |some x1 =>
  cases o2 with
  |none=>cases hd
  |some y1=>have:=acP hd;subst this;exact⟨rfl,rfl⟩
theorem nF{ok:OK}{r:List CK}{hh:Heap}{cs:List AV}{x:tn (.own ok::r)}(hd:dk (.own ok::r) hh cs=some x):∃c cs',cs=c::cs'∧fa hh ok c=some x.1∧dk r hh cs'=some x.2:=by
 cases cs with
 |nil=>cases hd
 |cons c cs =>
  refine⟨c,cs,rfl,?_⟩;have e:dk (.own ok::r) hh (c::cs)=(match fa hh ok c,dk r hh cs with
   |some x,some y=>some ((x,y):ok.T×tn r)
   |_,_=>none):=rfl
  rw[e]at hd;clear e;generalize fa hh ok c=o1 at hd ⊢;generalize dk r hh cs=o2 at hd ⊢
  cases o1 with
  |none=>cases hd
  |some x1 =>
   cases o2 with
   |none=>cases hd
   |some y1=>have:=acP hd;subst this;exact⟨rfl,rfl⟩
theorem rz:∀(eC:List CK) (n:Nat) (hh:Heap) (cs:List AV) (x:tn eC),dk eC hh cs=some x→(eO eC n cs x).filterMap (·.2.1)=g8 eC cs
 |[],_,_,cs,_,_=>by cases cs<;>rfl
 |.val k::r,n,hh,cs,x,hd=>by
  obtain⟨_,h2⟩:=ry hd;have e:g8 (.val k::r) cs=g8 r (cs.drop k.sz):=by cases cs<;>rfl
  rw[e];exact rz r (n+1) hh _ x.2 h2
 |.own ok::r,n,hh,cs,x,hd=>by obtain⟨c,cs',rfl,_,h2⟩:=nF hd;simp only[eO,g8];rw[eQ];simp only[List.headD_cons,List.tail_cons];rw[Az,rz r (n+1) hh cs' x.2 h2]
theorem nG{hh:Heap}{ok:OK}{c:AV}{xs:ok.T}(ho:fa hh ok c=some xs):(c=.gq∧Lc ok xs)∨∃id,c=.bO id∧hh.get id=some (.own ok xs):=by
 unfold fa at ho
 split at ho
 ·cases ok with
  |row _ _=>cases ho;exact .inl ⟨rfl,rfl⟩
  |_=>cases ho
 ·grind
 ·cases ho
theorem Jn{hh:Heap}{ok:OK}{c:AV}{xs:ok.T}{v:Value}(ho:fa hh ok c=some xs)(hr:aD Z ψ hh.get w c v){n:Nat}(kz:h' n≠none→ψ' n=kR ψ (ri c).head?):aD Z' ψ' h' w' (.bO n) v:=by
 rcases nG ho with⟨rfl,_⟩|⟨id,rfl,hg⟩
 ·simp only[aD]at hr ⊢;subst hr;exact⟨⟨rfl,rfl⟩,fun hn=>(kz hn).symm⟩
 ·simp only[aD]at hr ⊢;refine⟨hr.1,fun hn=>?_⟩;rw[kz hn];exact hr.2 (by rw[hg];simp)
theorem u7{hh:Heap}(g:Good Z ψ hh.get w B0 O)(hz:∀b,Z b→Z' b):∀(eC:List CK) (n:Nat) (cs:List AV) (x:tn eC) (vs:List Value),dk eC hh cs=some x →(∀id b,AV.bO id∈sI eC cs→hh.get id≠none→ob (ψ id)=some b→Z' b)→(∀e∈eO eC n cs x,h' e.1≠none→ψ' e.1=kR ψ e.2.1) → az Z ψ hh.get w cs vs→az Z' ψ' h' w (aK eC n x) vs
 |[],n,cs,x,vs,hd,_,_,hr=>by
  cases cs with
  |nil=>simpa only[aK,az] using hr
  |cons c cs=>cases hd
 |.val k::r,n,cs,x,vs,hd,hf,kz,hr=>by
  obtain⟨h1,h2⟩:=ry hd;have e:sI (.val k::r) cs=cs.take k.sz++sI r (cs.drop k.sz):=by cases cs<;>rfl
  rw[e]at hf;have uU:az Z ψ hh.get w (cs.take k.sz++cs.drop k.sz) vs:=by rw[List.take_append_drop];exact hr
  obtain⟨us,ws,rfl,h3,h4⟩:=az.split uU;simp only[aK];have h5:=qe (Z':=Z') g hz (fun id b bM=>hf id b (abr _ bM)) h3;exact az.append (iH (dN h1 h5)) (u7 g hz r (n+1) (cs.drop k.sz) x.2 ws h2 (fun id b bM=>hf id b (abw _ bM)) kz h4)
 |.own ok::r,n,cs,x,vs,hd,hf,kz,hr=>by obtain⟨c,cs',rfl,h1,h2⟩:=nF hd;simp only[az]at hr;obtain⟨v,us,rfl,h3,h4⟩:=hr;simp only[aK,az];refine⟨v,us,rfl,Jn h1 h3 (fun hn=>kz (n,_,_) (by simp only[eO];exact acD) hn),?_⟩;exact u7 g hz r (n+1) cs' x.2 us h2 hf (fun e he=>kz e (by simp only[eO];exact abg _ he)) h4
theorem fX{b:BK}{r:List BK}{hh:Heap}{i:Nat}{is:List Nat}{x:BC (b::r)}(hd:dK (b::r) hh (i::is)=some x):tw b hh i=some x.1∧dK r hh is=some x.2:=by
 have e:dK (b::r) hh (i::is)=(match tw b hh i,dK r hh is with
   |some x,some y=>some ((x,y):b.T×BC r)
   |_,_=>none):=rfl
 grind
theorem u9{ty:TypeId}{c:List CK}{hh:Heap}{i:Nat}{x:tn c}(hd:tw (.box ty c) hh i=some x):∃cs,hh.get i=some (.box ty cs)∧dk c hh cs=some x:=by
 grind [tw,Dv]
theorem kS{hh:Heap}{ok:OK}{i:Nat}{x:ok.T}(h:fa hh ok (.bO i)=some x):hh.get i=some (.own ok x):=by
 rcases nG h with⟨h,_⟩|⟨id,h,hg⟩
 ·cases h
 simp_all
theorem HI{ok:OK}{hh:Heap}{i:Nat}{x:ok.T}(hd:tw (.own ok) hh i=some x):hh.get i=some (.own ok x):=kS hd
theorem rB{hh:Heap}{i:Nat}{ty:TypeId}{cs:List AV}(hg:hh.get i=some (.box ty cs)):CT hh i=cs:=by grind [CT]
theorem Jo(b:BK){hh:Heap}{i i' n:Nat}(x:b.T):eL (fC b hh i i' n x)=kK b i' n x:=by
 cases b with
 |box ty c=>grind [fC,kK,oO,CT,eL]
 |own ok=>rfl
theorem GK(b:BK){hh:Heap}{i i' n:Nat}(x:b.T):(fC b hh i i' n x).map (·.1)=i'::cM b.eC n:=by
 cases b with
 |box ty c=>simp only[fC,List.map_cons,BK.eC];rw[mD]
 |own ok=>simp[fC,BK.eC,cM]
theorem Ld(b:BK){hh:Heap}{i i' n:Nat}{x:b.T}(hd:tw b hh i=some x):(fC b hh i i' n x).filterMap (·.2.1)=oH b hh i:=by
 cases b with
 |box ty c =>
  grind [u9,fC,oH,eQ,rB,rz]
 |own ok=>rfl
theorem j8:∀(bs:List BK) (hh:Heap) (is is':List Nat) (n:Nat) (x:BC bs),dK bs hh is=some x→is'.length=bs.length→eL (cV bs hh is is' n x)=bE bs is' n x
 |[],hh,is,is',n,x,_,hl=>by cases is'<;>simp[cV,bE,eL]
 |b::r,hh,[],is',n,x,hd,_=>by cases hd
 |b::r,hh,i::is,[],n,x,_,hl=>by simp at hl
 |b::r,hh,i::is,i'::is',n,x,hd,hl=>by obtain⟨_,h3⟩:=fX hd;have ih:=j8 r hh is is' (n+16) x.2 h3 (by simpa using hl);simp only[cV,bE];rw[←ih,←Jo b (hh:=hh) (i:=i) x.1];simp[eL]
theorem jg:∀(bs:List BK) (hh:Heap) (is is':List Nat) (n:Nat) (x:BC bs),dK bs hh is=some x→is'.length=bs.length→(cV bs hh is is' n x).map (·.1)=cq bs is' n
 |[],hh,is,is',n,x,_,hl=>by cases is'<;>simp[cV,cq]
 |b::r,hh,[],is',n,x,hd,_=>by cases hd
 |b::r,hh,i::is,[],n,x,_,hl=>by simp at hl
 |b::r,hh,i::is,i'::is',n,x,hd,hl=>by obtain⟨_,h3⟩:=fX hd;have ih:=jg r hh is is' (n+16) x.2 h3 (by simpa using hl);simp only[cV,cq,List.map_append];rw[ih,GK,List.cons_append]
theorem lG:∀(bs:List BK) (hh:Heap) (is is':List Nat) (n:Nat) (x:BC bs),dK bs hh is=some x→is'.length=bs.length→(cV bs hh is is' n x).filterMap (·.2.1)=dz bs hh is
 |[],hh,is,is',n,x,_,hl=>by cases is'<;>cases is<;>simp[cV,dz]
 |b::r,hh,[],is',n,x,hd,_=>by cases hd
 |b::r,hh,i::is,[],n,x,_,hl=>by simp at hl
 |b::r,hh,i::is,i'::is',n,x,hd,hl=>by obtain⟨h1,h3⟩:=fX hd;have ih:=lG r hh is is' (n+16) x.2 h3 (by simpa using hl);simp only[cV,dz];rw[List.filterMap_append,ih,Ld b h1]
theorem vc{hd:Hp}{hh:Heap}:∀(eC:List CK) (n:Nat) (cs:List AV) (x:tn eC),dk eC hh cs=some x→(∀s∈g8 eC cs,hd s=hh.get s)→∀e∈eO eC n cs x,yu Z ψ hd w h' ψ' e
 |[],n,cs,x,_,_,e,he=>by simp[eO]at he
 |.val k::r,n,cs,x,YH,hk,e,he=>by
  obtain⟨_,h2⟩:=ry YH;have e0:g8 (.val k::r) cs=g8 r (cs.drop k.sz):=by cases cs<;>rfl
  rw[e0]at hk;exact vc r (n+1) _ x.2 h2 hk e he
 |.own ok::r,n,cs,x,YH,hk,e,he=>by
  obtain⟨c,cs',rfl,h1,h2⟩:=nF YH;simp only[eO,List.headD_cons,List.tail_cons]at he;simp only[g8]at hk;rcases abq.1 he with rfl|he
  ·rcases nG h1 with⟨rfl,h3⟩|⟨id,rfl,h3⟩
   ·exact h3
   ·show hd id=some (.own ok x.1);rw[hk id (List.mem_append_left _ (by simp[ri])),h3]
  ·exact vc r (n+1) cs' x.2 h2 (fun s hs=>hk s (abw _ hs)) e he
theorem Oc{hd:Hp}{hh:Heap}(g:Good Z ψ hh.get w B0 O)(hz:∀b,Z b→Z' b)(b:BK){i i' n:Nat}{x:b.T}(YH:tw b hh i=some x) (hf:∀id g,AV.bO id∈Dx b hh i→hh.get id≠none→ob (ψ id)=some g→Z' g) (hk:∀s∈oH b hh i,hd s=hh.get s) (kz:∀e∈fC b hh i i' n x,h' e.1≠none→ψ' e.1=kR ψ e.2.1) :
  ∀e∈fC b hh i i' n x,yu Z' ψ hd w h' ψ' e:=by
 intro e he
 cases b with
 |box ty c =>
  obtain⟨cs,h1,h2⟩:=u9 YH;simp only[Dx,oH,h1]at hf hk;have afo:∀e∈eO c n cs x,h' e.1≠none→ψ' e.1=kR ψ e.2.1:=fun e he=>kz e (by grind [fC,rB,List.mem_cons_of_mem]);simp only[fC]at he;rcases abq.1 he with rfl|he
  ·refine⟨⟨cs,by simp_all⟩,fun gg vs h4 h5=>?_⟩;obtain⟨gg',jt,h6,h7,h8,_⟩:=g.box i ty cs h1
   grind [u7]
  grind [rB,vc,List.mem_cons_of_mem]
 |own ok =>
  have h1:=HI YH;simp only[fC,List.mem_singleton]at he;subst he;show hd i=some (.own ok x)
  grind [oH]
theorem nH{hd:Hp}{hh:Heap}(g:Good Z ψ hh.get w B0 O)(hz:∀b,Z b→Z' b):∀(bs:List BK) (is is':List Nat) (n:Nat) (x:BC bs),dK bs hh is=some x →(∀id b,AV.bO id∈ir bs hh is→hh.get id≠none→ob (ψ id)=some b→Z' b)→(∀s∈dz bs hh is,hd s=hh.get s)→(∀e∈cV bs hh is is' n x,h' e.1≠none→ψ' e.1=kR ψ e.2.1) → ∀e∈cV bs hh is is' n x,yu Z' ψ hd w h' ψ' e
 |[],is,is',n,x,_,_,_,_,e,he=>by simp[cV]at he
 |b::r,[],is',n,x,YH,_,_,_,e,he=>by cases YH
 |b::r,i::is,[],n,x,_,_,_,_,e,he=>by simp[cV]at he
 |b::r,i::is,i'::is',n,x,YH,hf,hk,kz,e,he=>by
  obtain⟨h1,h3⟩:=fX YH;simp only[ir,dz]at hf hk;simp only[cV]at he kz;rcases abY.1 he with he|he
  ·exact Oc g hz b h1 (fun id g bM=>hf id g (abr _ bM)) (fun s hs=>hk s (abr _ hs)) (fun e he=>kz e (abr _ he)) e he
  ·exact nH g hz r is is' (n+16) x.2 h3 (fun id b bM=>hf id b (abw _ bM)) (fun s hs=>hk s (abw _ hs)) (fun e he=>kz e (abw _ he)) e he
theorem vd{kept:List Nat}{mh:List AV}(hk:Ao kept mh=true):cw kept=true∧∀(hh:Heap) s,s∈kept→(de hh mh).get s=hh.get s:=by
 unfold Ao at hk;rw[Bool.and_eq_true]at hk
 grind [rm,uY,List.all_eq_true]
theorem AA{hh:Heap}{mh:List AV}{kept:List Nat}(g:Good Z ψ hh.get w B0 O)(hk:Ao kept mh=true){L:List BP}(hn:cw (L.map (·.1))=true)(hs:L.filterMap (·.2.1)=kept) (ly:∀e∈L,yu (tj Z ψ hh.get mh) ψ (de hh mh).get w (eL L).get (fJ ψ L) e):Good (tj Z ψ hh.get mh) (fJ ψ L) (eL L).get w B0 O :=(jF g mh).rename hn (by grind [vd]) ly
theorem CU{L:List BP}(hn:cw (L.map (·.1))=true):∀e∈L,(eL L).get e.1≠none→fJ ψ L e.1=kR ψ e.2.1:=fun⟨i,s,o⟩ he _=>jR hn he
theorem oP(A B:List BP):eL (A++B)=eL A++eL B:=by simp[eL]
theorem CV{hh:Heap}{i s i':Nat}{v:Value}(hr:aD Z ψ hh.get w (.ref i s 0 0) v)(hi:hh.get i≠none)(kz:h' i'≠none→ψ' i'=ψ i):aD Z' ψ' h' w' (.ref i' 0 0 0) v:=by simp only[aD]at hr ⊢;obtain⟨a,rfl,ha⟩:=hr;refine⟨a,rfl,fun hn=>?_⟩;rw[kz hn,ha hi];simp
theorem rC{v:AV}{i:Nat}(h:Ht v=some i):∃s,v=.ref i s 0 0:=by
 unfold Ht at h
 grind
theorem j9{hh:Heap}:∀(bs:List BK) (is:List Nat) (x:BC bs),dK bs hh is=some x→is.length=bs.length∧∀i∈is,hh.get i≠none
 |[],[],_,_=>⟨rfl,fun i hi=>by cases hi⟩
 |[],_::_,_,h=>by cases h
 |_::_,[],_,h=>by cases h
 |b::r,i::is,x,h=>by
  obtain⟨h1,h3⟩:=fX h;obtain⟨h4,h5⟩:=j9 r is x.2 h3;refine⟨by simp[h4],fun j hj=>?_⟩;rcases abq.1 hj with rfl|hj
  ·cases b with
   |box ty c=>grind [u9]
   |own ok=>rw[HI h1];simp
  simp_all
theorem lH{hh:Heap}:∀(bs:List BK) (is is':List Nat) (n:Nat) (x:BC bs),is.length=bs.length→∀p∈is.zip is',∃o,(p.2,some p.1,o)∈cV bs hh is is' n x
 |[],is,is',n,x,hl,p,hp=>by simp_all
 |b::r,[],is',n,x,hl,p,hp=>by simp at hp
 |b::r,i::is,[],n,x,hl,p,hp=>by simp at hp
 |b::r,i::is,i'::is',n,x,hl,p,hp=>by
  simp only[List.zip_cons_cons]at hp;simp only[cV];rcases abq.1 hp with rfl|hp
  ·cases b with
   |box ty c=>grind [List.mem_append_left,fC,List.mem_cons_self]
   |own ok=>grind [List.mem_append_left,fC,List.mem_cons_self]
  ·obtain⟨o,ho⟩:=lH r is is' (n+16) x.2 (by simpa using hl) p hp;exact⟨o,abw _ ho⟩
theorem P5{hd:Hp}{hh:Heap}{ok:OK}{c:AV}{xs:ok.T}(ho:fa hh ok c=some xs)(hk:∀s∈ri c,hd s=hh.get s){n:Nat}:yu Z ψ hd w h' ψ' (n,(ri c).head?,.own ok xs):=by
 rcases nG ho with⟨rfl,h3⟩|⟨id,rfl,h3⟩
 ·exact h3
 ·show hd id=some (.own ok xs)
  grind [id,ri]
end Go.Vs
namespace Go.Vs
variable {P:Program} {Z Z':Nat→Prop} {ψ ψ':Nat→Value} {h h':Hp} {w w':World} {B0:Nat} {O:Nat→Prop} {N:Nat→Prop}
def iA:Hp:=fun _=>none
def NI:Nat→Value:=fun _=>undef
def HJ(g:aO)(x:KR (mj g.ps)):List AV:=(aX g.ps [] 0 x).map (·.2)
def afp(P:Program)(f:FuncId)(g:aO)(x:g.A)(y:g.B):Prop :=∀(Z:Nat→Prop) (w:World) (lJ:List Value),(∀b,Z b→b<w.heap.size)→az Z NI iA w (HJ g x.1) lJ → Calls P (f%1000) lJ.toArray w fun e w'=>∃v Z' ψ',e=.returned v∧(∀b,Z b→Z' b)∧(∀b,Z' b→Z b∨w.heap.size≤b)∧dg NI iA w w' ∧ Good Z' ψ' (ax g.rs 3000 y.1).get w' w.heap.size (fun _=>False)∧aD Z' ψ' (ax g.rs 3000 y.1).get w' (fP (aY g.rs [] 2000 3000 y.1)) v
theorem BQ{p:PK}{ps:List PK}{vs:List AV}(hi:da (p::ps) vs=some []):∃a r,vs=a::r∧da ps r=some []∧(p≠.ref∧p≠.own)∧(∀f n,p=.xT f n→a=.fn f [])∧(∀n,p=.agg n→a=.agg []):=by
 cases vs with
 |nil=>cases p<;>simp[da]at hi
 |cons a r =>
  cases p with
  |val k=>exact⟨a,r,rfl,by simpa only[da] using hi,by simp,by simp,by simp⟩
  |ref =>
   simp only[da]at hi
   split at hi<;>simp at hi
  |own =>
   cases a<;>simp only[da]at hi<;>first|(cases hi;done)|skip
   split at hi<;>simp at hi
  |xT f n =>
   cases a<;>simp only[da]at hi<;>first|(cases hi;done)|skip
   rename_i f' cap
   split at hi
   ·rename_i hc;obtain⟨rfl,wh⟩:=hc
    split at hi
    ·rename_i a1 b1 h1 h2;simp only[Option.some.injEq,List.append_eq_nil_iff]at hi;obtain⟨rfl,rfl⟩:=hi;have Um:cap=[]:=by
      cases cap with
      |nil=>rfl
      |cons c cs=>simp only[kL]at h1;split at h1<;>simp at h1
     subst Um;exact⟨_,r,rfl,h2,by simp,by rintro f n ⟨⟩;rfl,by simp⟩
    ·cases hi
   ·cases hi
  |agg n =>
   cases a<;>simp only[da]at hi<;>first|(cases hi;done)|skip
   rename_i cs
   split at hi
   ·split at hi
    ·rename_i a1 b1 h1 h2;simp only[Option.some.injEq,List.append_eq_nil_iff]at hi;obtain⟨rfl,rfl⟩:=hi;have N2:cs=[]:=by
      cases cs with
      |nil=>rfl
      |cons c cs=>cases c<;>simp only[rj]at h1<;>first|(cases h1;done)|(split at h1<;>simp at h1)
     subst N2;exact⟨_,r,rfl,h2,by simp,by simp,fun _ _=>rfl⟩
    ·cases hi
   ·cases hi
theorem BR{k:K}{ps:List PK}{hh:Heap}{a:AV}{r:List AV}{x:k.T×KR (mj ps)}(hv:fT (.val k::ps) hh (a::r)=some x):iQ k hh a=some x.1∧fT ps hh r=some x.2:=by
 have e:fT (.val k::ps) hh (a::r)=(match iQ k hh a,fT ps hh r with
  |some x,some y=>some ((x,y):k.T×KR (mj ps))
  |_,_=>none):=rfl
 grind
theorem D5{hh:Heap}(g:Good Z ψ hh.get w B0 O)(hz:∀b,Z b→Z' b)(ps:List PK):∀(s:Nat) (vs:List AV) (us:List Value) (x:KR (mj ps)),(∀v∈vs,∀id b,AV.bO id∈v.cells→hh.get id≠none→ob (ψ id)=some b→Z' b) → da ps vs=some []→fT ps hh vs=some x→az Z ψ hh.get w vs us→az Z' NI iA w ((aX ps [] s x).map (·.2)) us:=by
 induction ps with
 |nil =>
  intro s vs us x _ hi hv hr
  cases vs with
  |nil=>simpa only[aX,List.map_nil,az] using hr
  |cons a r=>simp[da]at hi
 |cons p ps ih =>
  intro s vs us x hb hi hv hr;obtain⟨a,r,rfl,xe,Zk,acN,acO⟩:=BQ hi;simp only[az]at hr;obtain⟨u,jD,rfl,h3,h4⟩:=hr
  cases p with
  |val k =>obtain⟨h1,h2⟩:=BR hv;simp only[aX,List.map_cons,az];exact⟨u,jD,rfl,uZ (Z':=Z') (ψ':=NI) (h':=iA) g hz (hb a acD) h1 h3,ih (s+1) r jD x.2 (fun v hv=>hb v (abg _ hv)) xe h2 h4⟩
  |ref=>exact absurd rfl Zk.1
  |own=>exact absurd rfl Zk.2
  |xT f n =>have ha:=acN f n rfl;subst ha;have h2:fT ps hh r=some x:=hv;simp only[aX,List.map_cons,az,List.take_nil,List.map_nil,List.drop_nil];simp only[aD,az]at h3 ⊢;exact⟨u,jD,rfl,h3,ih (s+1) r jD x (fun v hv=>hb v (abg _ hv)) xe h2 h4⟩
  |agg n =>have ha:=acO n rfl;subst ha;have h2:fT ps hh r=some x:=hv;simp only[aX,List.map_cons,az,List.take_nil,List.map_nil,List.drop_nil];simp only[aD,az]at h3 ⊢;exact⟨u,jD,rfl,h3,ih (s+1) r jD x (fun v hv=>hb v (abg _ hv)) xe h2 h4⟩
theorem Good.afq(g:Good Z ψ h w B0 O)(k:dg NI iA w w')(hz:∀b,Z b→Z' b)(DI:∀b,Z' b→Z b∨w.heap.size≤b)(akE:∀b,Z' b→b<w'.heap.size) (hold:∀id,¬N id→h' id=h id∧ψ' id=ψ id) (bm:∀id ty cs,h id=some (.box ty cs)→aF (fun i=>¬N i) cs) (acz:∀id ty cs,N id→h' id=some (.box ty cs)→False) (qf:∀id ok xs,N id→h' id=some (.own ok xs)→j6 Z' w' ok (ψ' id) xs) (Hw:∀id b,N id→h' id≠none→ob (ψ' id)=some b→w.heap.size≤b∧¬Z' b) (acA:∀id qb b,N id→N qb→h' id≠none→h' qb≠none→ob (ψ' id)=some b→ob (ψ' qb)=some b→id=qb) (hB:B0≤w.heap.size) :
  Next Z ψ h w B0 O N Z' ψ' h' w':=by
 have dJ:∀b,b<w.heap.size→w'.heap[b]? = w.heap[b]? := fun b hb=>k.block b hb (fun⟨id,h1,_⟩=>h1 rfl);have sm:cG Z w w':=fun b hb=>dJ b (g.kO b hb);have s5:∀id,h' id≠none→(h id≠none∧ψ' id=ψ id)∨N id:=fun id bM=>by
  grind
 have Hy:∀id b,¬N id→h' id≠none→ob (ψ' id)=some b→Own ψ h b:=fun id b hn h1 h2=>by obtain⟨e1,e2⟩:=hold id hn;exact⟨id,by rwa [e1]at h1,by rwa [e2]at h2⟩
 have kk:dg ψ h w w':=⟨k.os,k.tape,k.output,k.size,fun b hb _=>dJ b hb⟩;refine⟨hz,fun b hb=>(DI b hb).imp (fun h=>h) .inr,kk,s5,⟨fun id ty cs hb=>?_,fun id ok xs hb=>?_,fun id b h1 h2=>?_,fun id qb b h1 h2 h3 h4=>?_,akE⟩⟩
 ·by_cases hn:N id
  ·simp_all
  ·obtain⟨e1,e2⟩:=hold id hn;rw[e1]at hb;obtain⟨gg,vs,h1,h2,h3,h4⟩:=g.box id ty cs hb;exact⟨gg,vs,by rw[e2,h1],(dJ gg (abB.1 h2).1).trans h2,h3.move hz sm (fun i hp bM=>(s5 i bM).resolve_right hp) (bm id ty cs hb),h4⟩
 ·by_cases hn:N id
  ·simp_all
  ·obtain⟨e1,e2⟩:=hold id hn;rw[e1]at hb;rw[e2];exact(g.row id ok xs hb).kept hz sm (fun gg RR=>dJ gg (g.bT ⟨id,by rw[hb];simp,RR⟩))
 ·by_cases hn:N id
  ·grind
  ·obtain⟨e1,e2⟩:=hold id hn;rw[e1]at h1;rw[e2]at h2;have h3:=g.live id b h1 h2;refine⟨fun hzb=>?_,h3.2⟩;rcases DI b hzb with h4|h4
   ·exact h3.1 h4
   ·have:=g.bT ⟨id,h1,h2⟩;omega
 ·by_cases hn:N id<;>by_cases RS:N qb
  ·grind
  ·have:=(Hw id b hn h1 h3).1;have:=g.bT (Hy qb b RS h2 h4);omega
  ·have:=(Hw qb b RS h2 h4).1;have:=g.bT (Hy id b hn h1 h3);omega
  ·obtain⟨e1,e2⟩:=hold id hn;obtain⟨e3,e4⟩:=hold qb RS;rw[e1]at h1;rw[e2]at h3;rw[e3]at h2;rw[e4]at h4;exact g.apart id qb b h1 h2 h3 h4
theorem bL{r:RK}{rs:List RK}(h:(r::rs).all RK.plain=true):rs.all RK.plain=true:=by simp_all
theorem Sc{c:List CK}{rs:List RK}(h:(RK.agg c::rs).all RK.plain=true):c.length≤16:=by simp_all [List.all_cons,Bool.and_eq_true,RK.plain,decide_eq_true_eq]
theorem rD:∀(c:List CK) (a:Nat) (x:tn c) (i:Nat),i<a→(bf c a x).get i=none
 |[],_,_,_,_=>rfl
 |.val _::r,a,x,i,h=>by simp only[bf];exact rD r (a+1) x.2 i (by omega)
 |.own ok::r,a,x,i,h=>by simp only[bf,Heap.get];rw[if_neg (by omega)];exact rD r (a+1) x.2 i (by omega)
theorem xl:∀(c:List CK) (a:Nat) (x:tn c) (i:Nat),a+c.length≤i→(bf c a x).get i=none
 |[],_,_,_,_=>rfl
 |.val _::r,a,x,i,h=>by simp only[List.length_cons]at h;simp only[bf];exact xl r (a+1) x.2 i (by omega)
 |.own ok::r,a,x,i,h=>by simp only[List.length_cons]at h;simp only[bf,Heap.get];rw[if_neg (by omega)];exact xl r (a+1) x.2 i (by omega)
theorem xm:∀(c:List CK) (a b:Nat) (x:tn c) (j:Nat),(bf c a x).get (a+j)=(bf c b x).get (b+j)
 |[],_,_,_,_=>rfl
 |.val _::r,a,b,x,0=>by grind [bf,rD]
 |.own ok::r,a,b,x,0=>by simp[bf,Heap.get]
 |.val _::r,a,b,x,j+1=>by simp only[bf];rw[show a+(j+1)=a+1+j by omega,show b+(j+1)=b+1+j by omega];exact xm r (a+1) (b+1) x.2 j
 |.own ok::r,a,b,x,j+1=>by simp only[bf,Heap.get];rw[if_neg (by omega),if_neg (by omega),show a+(j+1)=a+1+j by omega,show b+(j+1)=b+1+j by omega];exact xm r (a+1) (b+1) x.2 j
theorem pM:∀(c:List CK) (a:Nat) (x:tn c) (i:Nat) (ty:TypeId) (cs:List AV),(bf c a x).get i≠some (.box ty cs)
 |[],_,_,_,_,_=>by simp[bf,Heap.get]
 |.val _::r,a,x,i,ty,cs=>by simp only[bf];exact pM r (a+1) x.2 i ty cs
 |.own ok::r,a,x,i,ty,cs=>by
  simp only[bf,Heap.get]
  split
  ·simp
  ·exact pM r (a+1) x.2 i ty cs
theorem tO:∀(rs:List RK) (a:Nat) (y:np rs) (i:Nat),rs.all RK.plain=true→i<a→(ax rs a y).get i=none
 |[],a,y,i,_,h=>rfl
 |.val k::r,a,y,i,hp,h=>by simp only[ax];exact tO r (a+1) y.2 i (bL hp) (by omega)
 |.own ok::r,a,y,i,hp,h=>by simp only[ax,Heap.get];rw[if_neg (by omega)];exact tO r (a+1) y.2 i (bL hp) (by omega)
 |.fF _ _::r,a,y,i,hp,h=>by simp only[ax];exact tO r (a+1) y.2 i (bL hp) (by omega)
 |.agg c::r,a,y,i,hp,h=>by have h1:(bf c a y.1).get i=none:=rD c a y.1 i h;have h2:=tO r (a+1) y.2 i (bL hp) (by omega);show Heap.get (bf c a y.1++ax r (a+1) y.2) i=none;rw[Heap.get_append,h1,h2]
theorem Le:∀(rs:List RK) (a:Nat) (y:np rs) (i:Nat),rs.all RK.plain=true→a+rs.length+16≤i→(ax rs a y).get i=none
 |[],a,y,i,_,h=>rfl
 |.val k::r,a,y,i,hp,h=>by simp only[List.length_cons]at h;simp only[ax];exact Le r (a+1) y.2 i (bL hp) (by omega)
 |.own ok::r,a,y,i,hp,h=>by simp only[List.length_cons]at h;simp only[ax,Heap.get];rw[if_neg (by omega)];exact Le r (a+1) y.2 i (bL hp) (by omega)
 |.fF _ _::r,a,y,i,hp,h=>by simp only[List.length_cons]at h;simp only[ax];exact Le r (a+1) y.2 i (bL hp) (by omega)
 |.agg c::r,a,y,i,hp,h=>by simp only[List.length_cons]at h;have hc:=Sc hp;have h1:(bf c a y.1).get i=none:=xl c a y.1 i (by omega);have h2:=Le r (a+1) y.2 i (bL hp) (by omega);show Heap.get (bf c a y.1++ax r (a+1) y.2) i=none;rw[Heap.get_append,h1,h2]
theorem Lf:∀(rs:List RK) (a b:Nat) (y:np rs) (j:Nat),rs.all RK.plain=true→(ax rs a y).get (a+j)=(ax rs b y).get (b+j)
 |[],_,_,_,_,_=>rfl
 |.val k::r,a,b,y,0,hp=>by simp only[ax];rw[tO _ _ _ _ (bL hp) (by omega),tO _ _ _ _ (bL hp) (by omega)]
 |.fF _ _::r,a,b,y,0,hp=>by simp only[ax];rw[tO _ _ _ _ (bL hp) (by omega),tO _ _ _ _ (bL hp) (by omega)]
 |.own ok::r,a,b,y,0,hp=>by simp[ax,Heap.get]
 |.val k::r,a,b,y,j+1,hp=>by simp only[ax];rw[show a+(j+1)=a+1+j by omega,show b+(j+1)=b+1+j by omega];exact Lf r (a+1) (b+1) y.2 j (bL hp)
 |.fF _ _::r,a,b,y,j+1,hp=>by simp only[ax];rw[show a+(j+1)=a+1+j by omega,show b+(j+1)=b+1+j by omega];exact Lf r (a+1) (b+1) y.2 j (bL hp)
 |.own ok::r,a,b,y,j+1,hp=>by simp only[ax,Heap.get];rw[if_neg (by omega),if_neg (by omega),show a+(j+1)=a+1+j by omega,show b+(j+1)=b+1+j by omega];exact Lf r (a+1) (b+1) y.2 j (bL hp)
 |.agg c::r,a,b,y,j,hp=>by
  have h1:(bf c a y.1).get (a+j)=(bf c b y.1).get (b+j):=xm c a b y.1 j;have h2:(ax r (a+1) y.2).get (a+j)=(ax r (b+1) y.2).get (b+j):=by
   cases j with
   |zero=>rw[tO _ _ _ _ (bL hp) (by omega),tO _ _ _ _ (bL hp) (by omega)]
   |succ j =>rw[show a+(j+1)=a+1+j by omega,show b+(j+1)=b+1+j by omega];exact Lf r (a+1) (b+1) y.2 j (bL hp)
  show Heap.get (bf c a y.1++ax r (a+1) y.2) (a+j)=Heap.get (bf c b y.1++ax r (b+1) y.2) (b+j);rw[Heap.get_append,Heap.get_append,h1,h2]
theorem ve:∀(rs:List RK) (a:Nat) (y:np rs) (i:Nat) (ty:TypeId) (cs:List AV),rs.all RK.plain=true→(ax rs a y).get i≠some (.box ty cs)
 |[],_,_,_,_,_,_=>by simp[ax,Heap.get]
 |.val k::r,a,y,i,ty,cs,hp=>by simp only[ax];exact ve r (a+1) y.2 i ty cs (bL hp)
 |.fF _ _::r,a,y,i,ty,cs,hp=>by simp only[ax];exact ve r (a+1) y.2 i ty cs (bL hp)
 |.own ok::r,a,y,i,ty,cs,hp=>by
  simp only[ax,Heap.get]
  split
  ·simp
  ·exact ve r (a+1) y.2 i ty cs (bL hp)
 |.agg c::r,a,y,i,ty,cs,hp=>by
  have h1:(bf c a y.1).get i≠some (.box ty cs):=pM c a y.1 i ty cs;show Heap.get (bf c a y.1++ax r (a+1) y.2) i≠some (.box ty cs);rw[Heap.get_append]
  split
  ·rename_i o ho;rw[ho]at h1;exact h1
  ·exact ve r (a+1) y.2 i ty cs (bL hp)
theorem nI(p:Nat→Prop):∀(k:K) (x:k.T),aF p (enc k x)
 |.int _,_=>by simp only[enc,aF,aM];exact⟨trivial,trivial⟩
 |.bool,_=>by simp only[enc,aF,aM];exact⟨trivial,trivial⟩
 |.str,_=>by simp only[enc,aF,aM];exact⟨trivial,trivial⟩
 |.sl _,_=>by simp only[enc,aF,aM];exact⟨trivial,trivial⟩
 |.mp _ _,_=>by simp only[enc,aF,aM];exact⟨trivial,trivial⟩
 |.fn _,_=>by simp only[enc,aF,aM];exact⟨trivial,trivial⟩
 |.pair a b,x=>by
  simp only[enc];have h1:=nI p a x.1;have h2:=nI p b x.2
  revert h1
  generalize enc a x.1=l
  induction l with
  |nil=>intro _;exact h2
  |cons c r ih=>intro h;simp only[List.cons_append,aF]at h ⊢;exact⟨h.1,ih h.2⟩
 |.one k,x=>by simp only[enc];exact nI p k x
theorem qk(p:Nat→Prop):∀(k:K) (x:k.T),aM p (cp k x)
 |.int _,_=>by simp only[cp,aM]
 |.bool,_=>by simp only[cp,aM]
 |.str,_=>by simp only[cp,aM]
 |.sl _,_=>by simp only[cp,aM]
 |.mp _ _,_=>by simp only[cp,aM]
 |.fn _,_=>by simp only[cp,aM,aF]
 |.pair a b,x=>by simp only[cp,aM];exact nI p (.pair a b) x
 |.one k,x=>by simp only[cp,aM];exact nI p (.one k) x
theorem UD{k:K}{x:k.T}{v:Value}(hr:aD Z ψ h w (cp k x) v):aD Z ψ' h' w (cp k x) v :=hr.move (p:=fun _=>False) (fun _ h=>h) (cG.refl _ _) (fun _ hp _=>hp.elim) (qk _ k x)
theorem Zl(r:RK)(rs:List RK)(b:Nat)(y:np (r::rs))(i:Nat)(hi:(ax rs (b+1) y.2).get i≠none):(ax (r::rs) b y).get i≠none:=by
 cases r with
 |val k=>exact hi
 |fF _ _=>exact hi
 |own ok=>grind [ax,Heap.get]
 |agg c =>
  grind [Heap.get,bf,ax,Heap.get_append]
theorem Od(c:List CK):∀{H:Hp} {a b:Nat} {x:tn c} {vs:List Value},(∀j,(bf c b x).get (b+j)≠none→h' (b+j)≠none→H (a+j)≠none∧ψ' (b+j)=ψ (a+j)) → az Z ψ H w (aK c a x) vs→az Z ψ' h' w (aK c b x) vs:=by
 induction c with
 |nil=>grind [aK,az]
 |cons k c ih =>
  intro H a b x vs hH hr
  cases k with
  |val k =>have uU:az Z ψ H w (enc k x.1++aK c (a+1) x.2) vs:=hr;obtain⟨us,ws,rfl,h1,h2⟩:=uU.split;show az Z ψ' h' w (enc k x.1++aK c (b+1) x.2) (us++ws);refine(h1.move (p:=fun _=>False) (fun _ h=>h) (cG.refl _ _) (fun _ hp _=>hp.elim) (nI _ k x.1)).append (ih (fun j hj bA=>?_) h2);have:=hH (j+1);rw[show b+(j+1)=b+1+j by omega,show a+(j+1)=a+1+j by omega]at this;exact this hj bA
  |own ok =>
   have uU:az Z ψ H w (.bO a::aK c (a+1) x.2) vs:=hr;simp only[az]at uU;obtain⟨v,us,rfl,h1,h2⟩:=uU;show az Z ψ' h' w (.bO b::aK c (b+1) x.2) (v::us);simp only[az];refine⟨v,us,rfl,?_,ih (fun j hj bA=>?_) h2⟩
   ·simp only[aD]at h1 ⊢;refine⟨h1.1,fun bA=>?_⟩;obtain⟨h3,h4⟩:=hH 0 (by simp[bf,Heap.get]) bA;simp_all
   ·have:=hH (j+1);rw[show b+(j+1)=b+1+j by omega,show a+(j+1)=a+1+j by omega]at this;refine this ?_ bA;have e:(bf (.own ok::c) b x).get (b+1+j)=(bf c (b+1) x.2).get (b+1+j):=by simp only[bf,Heap.get];grind
    simp_all
theorem UE(rs:List RK):∀{H:Hp} {n m a b:Nat} {y:np rs} {vs:List Value},rs.all RK.plain=true→(∀j,(ax rs b y).get (b+j)≠none→h' (b+j)≠none→H (a+j)≠none∧ψ' (b+j)=ψ (a+j)) → az Z ψ H w (aY rs [] n a y) vs→az Z ψ' h' w (aY rs [] m b y) vs:=by
 induction rs with
 |nil=>grind [aY,az]
 |cons r rs ih =>
  intro H n m a b y vs hp hH hr;have hpa:=hp;simp only[List.all_cons,Bool.and_eq_true]at hp;have hH':∀j,(ax rs (b+1) y.2).get (b+1+j)≠none→h' (b+1+j)≠none→H (a+1+j)≠none∧ψ' (b+1+j)=ψ (a+1+j):=fun j hj bA=>by
   have:=hH (j+1)
   grind [Zl]
  cases r with
  |val k =>simp only[aY,az]at hr ⊢;obtain⟨v,us,rfl,h1,h2⟩:=hr;exact⟨v,us,rfl,UD h1,ih hp.2 hH' h2⟩
  |own ok =>simp only[aY,az]at hr ⊢;obtain⟨v,us,rfl,h1,h2⟩:=hr;refine⟨v,us,rfl,?_,ih hp.2 hH' h2⟩;simp only[aD]at h1 ⊢;refine⟨h1.1,fun bA=>?_⟩;obtain⟨h3,h4⟩:=hH 0 (by simp[ax,Heap.get]) bA;simp_all
  |fF b c=>simp[RK.plain]at hp
  |agg c =>
   simp only[aY,az]at hr ⊢;obtain⟨v,us,rfl,h1,h2⟩:=hr;refine⟨v,us,rfl,?_,ih hp.2 hH' h2⟩;simp only[aD]at h1 ⊢;obtain⟨ws,rfl,h3⟩:=h1;refine⟨ws,rfl,Od c (fun j hj bA=>hH j ?_ bA) h3⟩
   grind [Heap.get,bf,ax,Heap.get_append,absurd]
theorem xn{aa4 aa5:Nat→Value}{afr afs:Hp}{aft afu:Nat→Prop}{l l':List AV}{V:Value}(hl:l.length=l'.length)(hm:∀vs,az aft aa4 afr w l vs→az afu aa5 afs w l' vs)(hr:aD aft aa4 afr w (fP l) V):aD afu aa5 afs w (fP l') V:=by
 match l,l',hl with
 |[a],[a'],_ =>
  simp only[fP]at hr ⊢;have:=hm [V] (by simp only[az];exact⟨V,[],rfl,hr,rfl⟩);simp only[az]at this;obtain⟨v,us,e,h1,_⟩:=this
  cases e;exact h1
 |[],[],_ =>simp only[fP,aD]at hr ⊢;obtain⟨us,rfl,h1⟩:=hr;exact⟨us,rfl,hm _ h1⟩
 |a::b::r,a'::b'::r',_ =>simp only[fP,aD]at hr ⊢;obtain⟨us,rfl,h1⟩:=hr;exact⟨us,rfl,hm _ h1⟩
theorem pN(rs:List RK):∀(ids:List Nat) (n m:Nat) (y:np rs),(aY rs ids n m y).length=rs.length:=by
 induction rs with
 |nil=>intros;rfl
 |cons r rs ih=>intro ids n m y;cases r<;>simp[aY,ih]
theorem CW:∀(k:K) (x:k.T) (r:List AV),dec k (enc k x++r)=some (x,r)
 |.int _,x,r=>by simp only[enc,List.cons_append,List.nil_append,dec,I9,if_true];rfl
 |.bool,x,r=>by simp only[enc,List.cons_append,List.nil_append,dec,CJ];rfl
 |.str,x,r=>by simp only[enc,List.cons_append,List.nil_append,dec,Ja];rfl
 |.sl k,x,r=>by simp only[enc,List.cons_append,List.nil_append,dec,PU];rfl
 |.mp kk vk,x,r=>by simp only[enc,List.cons_append,List.nil_append,dec,PV];rfl
 |.fn _,x,r=>by simp only[enc,List.cons_append,List.nil_append,dec,PX,if_true];rfl
 |.pair a b,x,r=>by simp only[enc,dec,List.append_assoc];rw[CW a x.1 (enc b x.2++r)];simp only[];rw[CW b x.2 r];rfl
 |.one k,x,r=>by simp only[enc,dec];exact CW k x r
theorem xp(k:K)(x:k.T):dM k (enc k x)=some x:=by unfold dM;have:=CW k x [];simp_all
theorem xq:∀(k:K) (x:k.T),(cp k x).cells=enc k x
 |.int _,_=>rfl
 |.bool,_=>rfl
 |.str,_=>rfl
 |.sl _,_=>rfl
 |.mp _ _,_=>rfl
 |.fn _,_=>rfl
 |.pair a b,x=>rfl
 |.one k,x=>rfl
theorem P6:∀(k:K) (x:k.T),cp k x≠.no
 |.int _,_=>by simp[cp]
 |.bool,_=>by simp[cp]
 |.str,_=>by simp[cp]
 |.sl _,_=>by simp[cp]
 |.mp _ _,_=>by simp[cp]
 |.fn _,_=>by simp[cp]
 |.pair a b,x=>by simp[cp]
 |.one k,x=>by simp[cp]
theorem D6:∀(k:K) (x:k.T),(cp k x).isAgg=k.isAgg
 |.int _,_=>rfl
 |.bool,_=>rfl
 |.str,_=>rfl
 |.sl _,_=>rfl
 |.mp _ _,_=>rfl
 |.fn _,_=>rfl
 |.pair a b,x=>rfl
 |.one k,x=>rfl
theorem Sd{k:K}{x:k.T}{v:Value}(hr:aD Z ψ h w (cp k x) v):aL Z w k x v.cells.toList:=by
 have h1:=hr.cells (P6 k x)
 grind [xq,dN,xp]
theorem Oe{k:K}{x:k.T}{v:Value}(hr:aD Z ψ h w (cp k x) v):(k.isAgg=true→∃vs,v=.agg vs)∧(k.isAgg=false→v.cells=#[v]) :=⟨fun h=>Uu (by rw[D6];exact h) hr,fun h=>HC (by rw[D6];exact h) (P6 k x) hr⟩
theorem UF(rs:List RK):∀{H:Hp} {n a:Nat} {y:np rs} {vs:List Value},rs.all RK.flat=true→rs.all RK.plain=true→az Z ψ H w (aY rs [] n a y) vs→az Z' ψ H w (aY rs [] n a y) vs:=by
 induction rs with
 |nil=>intro H n a y vs _ _ hr;simpa only[aY,az] using hr
 |cons r rs ih =>
  intro H n a y vs hf hp hr;simp only[List.all_cons,Bool.and_eq_true]at hp hf
  cases r with
  |val k =>simp only[aY,az]at hr ⊢;obtain⟨v,us,rfl,h1,h2⟩:=hr;have hk:k.flat=true:=hf.1;obtain⟨h3,h4⟩:=Oe h1;exact⟨v,us,rfl,nC ((Sd h1).flat hk) h3 h4,ih hf.2 hp.2 h2⟩
  |own ok =>simp only[aY,az]at hr ⊢;obtain⟨v,us,rfl,h1,h2⟩:=hr;exact⟨v,us,rfl,by simpa only[aD] using h1,ih hf.2 hp.2 h2⟩
  |fF b c=>simp[RK.plain]at hp
  |agg c=>simp[RK.flat]at hf
theorem AB:∀(rs:List RK) (a:Nat) (y:np rs) (i:Nat) (ok:OK) (x:ok.T),rs.all RK.flat=true→rs.all RK.plain=true→(ax rs a y).get i=some (.own ok x)→∃ty k,k.flat=true∧ok=.row ty k
 |[],_,_,_,_,_,_,_,hg=>by simp[ax,Heap.get]at hg
 |.val k::r,a,y,i,ok,x,hf,hp,hg=>by simp only[List.all_cons,Bool.and_eq_true]at hp hf;exact AB r _ _ _ _ x hf.2 hp.2 hg
 |.own Y2::r,a,y,i,ok,x,hf,hp,hg=>by
  simp only[List.all_cons,Bool.and_eq_true]at hp hf;simp only[ax,Heap.get]at hg
  split at hg
  ·cases hg
   cases Y2 with
   |row ty k=>exact⟨ty,k,hf.1,rfl⟩
   |_=>simp[RK.flat]at hf
  ·exact AB r _ _ _ _ x hf.2 hp.2 hg
 |.fF _ _::r,a,y,i,ok,x,hf,hp,hg=>by simp[RK.plain]at hp
 |.agg c::r,a,y,i,ok,x,hf,hp,hg=>by simp[RK.flat]at hf
theorem yv:∀(ps:List PK) (vs:List AV),da ps vs=some []→∀v∈vs,∀id,AV.bO id∈v.cells→AV.bO id∈dU ps vs
 |[],vs,hi,v,hv,id,bM=>by
  cases vs with
  |nil=>cases hv
  |cons a r=>simp[da]at hi
 |p::ps,vs,hi,v,hv,id,bM=>by
  obtain⟨a,r,rfl,xe,Zk,acN,acO⟩:=BQ hi;rcases abq.1 hv with rfl|hv
  ·cases p with
   |val k=>simp only[dU];exact abr _ bM
   |ref=>exact absurd rfl Zk.1
   |own=>exact absurd rfl Zk.2
   |xT f n=>rw[acN f n rfl]at bM;simp[AV.cells]at bM
   |agg n=>rw[acO n rfl]at bM;simp[AV.cells]at bM
  ·have:=yv ps r xe v hv id bM
   cases p with
   |val k=>simp only[dU];exact abw _ this
   |ref=>exact absurd rfl Zk.1
   |own=>exact absurd rfl Zk.2
   |xT f n=>simpa only[dU] using this
   |agg n=>simpa only[dU] using this
theorem D7(hh:Heap)(vs:List AV):∀f:FuncId,nr hh f vs%1000=f%1000:=by
 induction vs with
 |nil=>intro f;rfl
 |cons v r ih =>
  intro f
  cases v with
  |fn g cap=>simp only[nr];split<;>exact Nat.add_mul_mod_self_left f 1000 _
  |ref i _ _ _ =>
   simp only[nr]
   split
   ·exact(ih _).trans (Nat.add_mul_mod_self_left f 1000 _)
   ·exact ih f
  |_=>simp only[nr];exact ih f
theorem AD{Sg:FuncId→Option aO}(hh:Heap)(f:FuncId)(vs:List AV):keyOf Sg hh f vs%1000=f%1000:=by
 unfold keyOf
 split
 ·exact(Nat.add_mul_mod_self_right (nr hh f vs) 500 1000).trans (D7 hh vs f)
 ·exact D7 hh vs f
theorem Next.imp{N':Nat→Prop}(n:Next Z ψ h w B0 O N Z' ψ' h' w')(hi:∀i,N i→N' i):Next Z ψ h w B0 O N' Z' ψ' h' w' :=⟨n.g9,n.fq,n.keep,fun id bM=>(n.ids id bM).imp (fun h=>h) (hi id),n.du⟩
theorem AE{rs:List RK}{y:np rs}(hp:rs.all RK.plain=true){id nb:Nat}(g:Good Z ψ h w B0 O)(hB:B0≤w.heap.size) (bm:∀i ty cs,h i=some (.box ty cs)→aF (fun i=>¬N i) cs) (hN:∀j,j<rs.length+16→N (id+j)) (k:dg NI iA w w') (hz:∀b,Z b→Z' b) (DI:∀b,Z' b→Z b∨w.heap.size≤b) (gc:Good Z' ψ' (ax rs 3000 y).get w' w.heap.size (fun _=>False)) {v:Value} (hr:aD Z' ψ' (ax rs 3000 y).get w' (fP (aY rs [] 2000 3000 y)) v) :
  ∃yw,Next Z ψ h w B0 O N Z' yw (fun i=>match (ax rs id y).get i with|some o=>some o|none=>h i) w' ∧
   aD Z' yw (fun i=>match (ax rs id y).get i with|some o=>some o|none=>h i) w' (fP (aY rs [] nb id y)) v:=by
 classical
 let H:Hp:=fun i=>match (ax rs id y).get i with|some o=>some o|none=>h i
 let NN:Nat→Prop:=fun i=>(ax rs id y).get i≠none
 let yw:Nat→Value:=fun i=>if NN i then ψ' (3000+(i-id)) else ψ i
 have hNN:∀i,NN i→∃j,j<rs.length+16∧i=id+j:=fun i hi=>by have h1:¬i<id:=fun aG=>hi (tO rs id y i hp aG);have h2:¬id+rs.length+16≤i:=fun Jl=>hi (Le rs id y i hp Jl);exact⟨i-id,by omega,by omega⟩
 have Cx:∀i,NN i→(ax rs 3000 y).get (3000+(i-id))=(ax rs id y).get i:=fun i hi=>by
  obtain⟨j,_,rfl⟩:=hNN i hi
  grind [id,Lf]
 have hH:∀i,NN i→H i=(ax rs 3000 y).get (3000+(i-id)):=fun i hi=>by
  grind
 have kz:∀i,NN i→yw i=ψ' (3000+(i-id)):=fun i hi=>if_pos hi;have afv:∀i,NN i→N i:=fun i hi=>by grind
 have n:=Good.afq (N:=NN) (ψ':=yw) (h':=H) g k hz DI gc.kO (fun i hi=>by
   grind)
  (fun i ty cs hb=>(bm i ty cs hb).imp (fun i hi hni=>hi (afv i hni)))
  (fun i ty cs hi hb=>by grind [ve])
  (fun i ok xs hi hb=>by rw[hH i hi]at hb;rw[kz i hi];exact gc.row _ _ _ hb)
  (fun i b hi h1 h2=>by rw[hH i hi]at h1;rw[kz i hi]at h2;obtain⟨h3,h4⟩:=gc.live _ b h1 h2;simp_all)
  (fun i i' b hi xe h1 h2 h3 h4=>by
   rw[hH i hi]at h1;rw[hH i' xe]at h2;rw[kz i hi]at h3;rw[kz i' xe]at h4;have:=gc.apart _ _ b h1 h2 h3 h4
   grind) hB
 refine⟨yw,n.imp afv,?_⟩
 grind [xn,pN,UE,id]
def kb(P:Program)(f:FuncId):Prop:=∃fn,P.funcs[f]? = some fn∧(fn.name== "runtime.NumGoroutine")=false∧fn.body.isSome=true
theorem mE{f:FuncId}(hc:kb P f)(args:Array Value):(callFunc f args).run P w=.ok (.enter f args) w:=by obtain⟨fn,h1,h2,h3⟩:=hc;obtain⟨c,hc⟩:=acK.1 h3;simp_all [callFunc]
def aa6(P:Program)(ρC:Operand→Value)(o:Oper)(Z:Nat→Prop)(ψ:Nat→Value)(h:Hp)(w:World)(B0:Nat)(O N:Nat→Prop)(e:bD):Prop :=∃f args,(execOp ρC o).run P w=.ok (.enter f args) w∧Calls P f args w fun en w'=>∃V Z' ψ',en=.returned V∧Next Z ψ h w B0 O N Z' ψ' (e.hp h) w'∧aD Z' ψ' (e.hp h) w' e.v V
def c9:(rs:List RK)→List AV→Nat→np rs→List BP
 |[],_,_,_=>[]
 |.own ok::r,vs,m,x=>(m,(ri (vs.headD .no)).head?,.own ok x.1)::c9 r vs.tail (m+1) x.2
 |.val _::r,vs,m,x=>c9 r vs.tail (m+1) x.2
 |.fF _ _::r,vs,m,x=>c9 r vs.tail (m+1) x.2
 |.agg c::r,vs,m,x=>eO c m (vs.headD .no).cells x.1++c9 r vs.tail (m+1) x.2
theorem iJ:∀(rs:List RK) (vs:List AV) (m:Nat) (x:np rs),eL (c9 rs vs m x)=ax rs m x
 |[],_,_,_=>rfl
 |.own ok::r,vs,m,x=>by simp only[c9,ax];rw[←iJ r vs.tail (m+1) x.2];rfl
 |.val _::r,vs,m,x=>iJ r vs.tail (m+1) x.2
 |.fF _ _::r,vs,m,x=>iJ r vs.tail (m+1) x.2
 |.agg c::r,vs,m,x=>by have e1:eL (eO c m (vs.headD .no).cells x.1)=bf c m x.1:=oO c m _ x.1;have e2:=iJ r vs.tail (m+1) x.2;simp only[c9,ax];rw[oP,e2];exact congrArg (·++_) e1
theorem gK:∀(rs:List RK) (vs:List AV) (m:Nat) (x:np rs),(c9 rs vs m x).map (·.1)=bC rs m
 |[],_,_,_=>rfl
 |.own ok::r,vs,m,x=>by simp only[c9,bC,List.map_cons];rw[gK r vs.tail (m+1) x.2]
 |.val _::r,vs,m,x=>gK r vs.tail (m+1) x.2
 |.fF _ _::r,vs,m,x=>gK r vs.tail (m+1) x.2
 |.agg c::r,vs,m,x=>by have e1:(eO c m (vs.headD .no).cells x.1).map (·.1)=cM c m:=mD c m _ x.1;have e2:=gK r vs.tail (m+1) x.2;simp only[c9,bC,List.map_append];rw[e2];exact congrArg (·++_) e1
theorem rE{bs:List BK}{k:K}{r:List RK}{hh:Heap}{ids:List Nat}{vs:List AV}{x:np (.val k::r)}(hd:bR bs (.val k::r) hh ids vs=some x):∃v jt,vs=v::jt∧iQ k hh v=some x.1∧bR bs r hh ids jt=some x.2:=by
 cases vs with
 |nil=>cases hd
 |cons v vs =>
  have e:bR bs (.val k::r) hh ids (v::vs)=(match iQ k hh v,bR bs r hh ids vs with
   |some x,some y=>some ((x,y):k.T×np r)
   |_,_=>none):=rfl
  rw[e]at hd;clear e;refine⟨v,vs,rfl,?_⟩;generalize iQ k hh v=o1 at hd ⊢;generalize bR bs r hh ids vs=o2 at hd ⊢
  cases o1 with
  |none=>cases hd
  |some x1 =>
   cases o2 with
   |none=>cases hd
   |some y1=>have:=acP hd;subst this;exact⟨rfl,rfl⟩
theorem rF{bs:List BK}{ok:OK}{r:List RK}{hh:Heap}{ids:List Nat}{vs:List AV}{x:np (.own ok::r)}(hd:bR bs (.own ok::r) hh ids vs=some x):∃v jt,vs=v::jt∧fa hh ok v=some x.1∧bR bs r hh ids jt=some x.2:=by
 cases vs with
 |nil=>cases hd
 |cons v vs =>
  have e:bR bs (.own ok::r) hh ids (v::vs)=(match fa hh ok v,bR bs r hh ids vs with
   |some x,some y=>some ((x,y):ok.T×np r)
   |_,_=>none):=rfl
  rw[e]at hd;clear e;refine⟨v,vs,rfl,?_⟩;generalize fa hh ok v=o1 at hd ⊢;generalize bR bs r hh ids vs=o2 at hd ⊢
  cases o1 with
  |none=>cases hd
  |some x1 =>
   cases o2 with
   |none=>cases hd
   |some y1=>have:=acP hd;subst this;exact⟨rfl,rfl⟩
theorem oQ{bs:List BK}{b:Nat}{alts:List (Nat×Nat×Nat)}{r:List RK}{hh:Heap}{ids:List Nat}{vs:List AV}{x:np (.fF b alts::r)}(hd:bR bs (.fF b alts::r) hh ids vs=some x):∃v jt,vs=v::jt∧pG bs hh ids b alts v=some x.1∧bR bs r hh ids jt=some x.2:=by
 cases vs with
 |nil=>cases hd
 |cons v vs =>
  have e:bR bs (.fF b alts::r) hh ids (v::vs)=(match pG bs hh ids b alts v,bR bs r hh ids vs with
   |some x,some y=>some ((x,y):Option (Fin alts.length×Nat)×np r)
   |_,_=>none):=rfl
  rw[e]at hd;clear e;refine⟨v,vs,rfl,?_⟩;generalize pG bs hh ids b alts v=o1 at hd ⊢;generalize bR bs r hh ids vs=o2 at hd ⊢
  cases o1 with
  |none=>cases hd
  |some x1 =>
   cases o2 with
   |none=>cases hd
   |some y1=>have:=acP hd;subst this;exact⟨rfl,rfl⟩
theorem rG{bs:List BK}{c:List CK}{r:List RK}{hh:Heap}{ids:List Nat}{vs:List AV}{x:np (.agg c::r)}(hd:bR bs (.agg c::r) hh ids vs=some x):∃cs jt,vs=.agg cs::jt∧dk c hh cs=some x.1∧bR bs r hh ids jt=some x.2:=by
 cases vs with
 |nil=>cases hd
 |cons v vs =>
  have e:bR bs (.agg c::r) hh ids (v::vs)=(match DA c hh v,bR bs r hh ids vs with
   |some x,some y=>some ((x,y):tn c×np r)
   |_,_=>none):=rfl
  rw[e]at hd;clear e;have key:DA c hh v=some x.1∧bR bs r hh ids vs=some x.2:=by
   generalize DA c hh v=o1 at hd ⊢;generalize bR bs r hh ids vs=o2 at hd ⊢
   cases o1 with
   |none=>cases hd
   |some x1 =>
    cases o2 with
    |none=>cases hd
    |some y1=>have:=acP hd;subst this;exact⟨rfl,rfl⟩
  obtain⟨h1,h2⟩:=key;unfold DA at h1
  grind
theorem jh{bs:List BK}{hh:Heap}{ids:List Nat}:∀(rs:List RK) (vs:List AV) (x:np rs),bR bs rs hh ids vs=some x→vs.length=rs.length
 |[],[],_,_=>rfl
 |[],_::_,_,h=>by cases h
 |.val k::r,vs,x,h=>by obtain⟨v,jt,rfl,_,h2⟩:=rE h;simp[jh r jt x.2 h2]
 |.own ok::r,vs,x,h=>by obtain⟨v,jt,rfl,_,h2⟩:=rF h;simp[jh r jt x.2 h2]
 |.fF _ _::r,vs,x,h=>by obtain⟨v,jt,rfl,_,h2⟩:=oQ h;simp[jh r jt x.2 h2]
 |.agg _::r,vs,x,h=>by obtain⟨v,jt,rfl,_,h2⟩:=rG h;simp[jh r jt x.2 h2]
theorem jS{bs:List BK}{hh:Heap}{ids:List Nat}:∀(rs:List RK) (vs:List AV) (m:Nat) (x:np rs),bR bs rs hh ids vs=some x→(c9 rs vs m x).filterMap (·.2.1)=eP rs vs
 |[],vs,_,_,_=>by cases vs<;>rfl
 |.own ok::r,vs,m,x,h=>by obtain⟨v,jt,rfl,_,h2⟩:=rF h;simp only[c9,eP,List.headD_cons,List.tail_cons];rw[eQ,jS r jt (m+1) x.2 h2];simp only[];rw[Az]
 |.val k::r,vs,m,x,h=>by obtain⟨v,jt,rfl,_,h2⟩:=rE h;simp only[c9,eP,List.tail_cons];exact jS r jt (m+1) x.2 h2
 |.fF _ _::r,vs,m,x,h=>by obtain⟨v,jt,rfl,_,h2⟩:=oQ h;simp only[c9,eP,List.tail_cons];exact jS r jt (m+1) x.2 h2
 |.agg c::r,vs,m,x,h=>by obtain⟨cs,jt,rfl,h1,h2⟩:=rG h;simp only[c9,eP,List.headD_cons,List.tail_cons,AV.cells];have e1:(eO c m cs x.1).filterMap (·.2.1)=g8 c cs:=rz c m hh cs x.1 h1;rw[List.filterMap_append,jS r jt (m+1) x.2 h2];exact congrArg (·++_) e1
theorem kT{hd:Hp}{bs:List BK}{hh:Heap}{ids:List Nat}:∀(rs:List RK) (vs:List AV) (m:Nat) (x:np rs),bR bs rs hh ids vs=some x→(∀s∈eP rs vs,hd s=hh.get s)→∀e∈c9 rs vs m x,yu Z ψ hd w h' ψ' e
 |[],_,_,_,_,_,e,he=>by simp[c9]at he
 |.own ok::r,vs,m,x,h,hk,e,he=>by
  obtain⟨v,jt,rfl,h1,h2⟩:=rF h;simp only[c9,eP,List.headD_cons,List.tail_cons]at he hk;rcases abq.1 he with rfl|he
  ·exact P5 h1 fun s hs=>hk s (abr _ hs)
  ·exact kT r jt (m+1) x.2 h2 (fun s hs=>hk s (abw _ hs)) e he
 |.val k::r,vs,m,x,h,hk,e,he=>by obtain⟨v,jt,rfl,h1,h2⟩:=rE h;exact kT r jt (m+1) x.2 h2 hk e he
 |.fF _ _::r,vs,m,x,h,hk,e,he=>by obtain⟨v,jt,rfl,h1,h2⟩:=oQ h;exact kT r jt (m+1) x.2 h2 hk e he
 |.agg c::r,vs,m,x,h,hk,e,he=>by
  obtain⟨cs,jt,rfl,h1,h2⟩:=rG h;simp only[c9,eP,List.headD_cons,List.tail_cons,AV.cells]at he hk;rcases abY.1 he with he|he
  ·exact vc c m cs x.1 h1 (fun s hs=>hk s (abr _ hs)) e he
  ·exact kT r jt (m+1) x.2 h2 (fun s hs=>hk s (abw _ hs)) e he
theorem AF{hh:Heap}{id:Nat}:∀(eC:List CK) (c n:Nat) (cs:List AV) (x:tn eC),dk eC hh cs=some x→ic eC c=true→cs[oI eC c]? = some (.bO id)→hh.get id≠none∧∃o,(n+c,some id,o)∈eO eC n cs x
 |[],c,n,cs,x,_,h,_=>by simp[ic]at h
 |.val k::r,0,n,cs,x,_,h,_=>by simp[ic]at h
 |.val k::r,c+1,n,cs,x,hd,h,hc=>by obtain⟨_,h2⟩:=ry hd;obtain⟨h3,o,h4⟩:=AF r c (n+1) (cs.drop k.sz) x.2 h2 (by grind [ic]) (by rw[List.getElem?_drop];simpa[oI] using hc);exact⟨h3,o,by rw[show n+(c+1)=n+1+c by omega];exact h4⟩
 |.own ok::r,0,n,cs,x,hd,h,hc=>by
  obtain⟨c0,cs',rfl,h1,h2⟩:=nF hd;simp only[oI,List.getElem?_cons_zero,Option.some.injEq]at hc;subst hc;rcases nG h1 with⟨h3,_⟩|⟨qb,h3,h4⟩
  ·cases h3
  grind [eO,List.headD_cons,ri,List.head?_cons,List.mem_cons_self]
 |.own ok::r,c+1,n,cs,x,hd,h,hc=>by
  obtain⟨c0,cs',rfl,h1,h2⟩:=nF hd;obtain⟨h3,o,h4⟩:=AF r c (n+1) cs' x.2 h2 (by grind [ic]) (by simp only[oI]at hc;rw[Nat.add_comm]at hc;simpa using hc)
  grind [eO,List.tail_cons,List.mem_cons_of_mem]
theorem D8{hh:Heap}{id c:Nat}:∀(bs:List BK) (b n:Nat) (is is':List Nat) (x:BC bs) (bk:BK) (bi:Nat) (ty:TypeId) (cs:List AV),dK bs hh is=some x→is'.length=bs.length→bs[b]? = some bk→is[b]? = some bi→hh.get bi=some (.box ty cs) → ic bk.eC c=true→cs[oI bk.eC c]? = some (.bO id)→hh.get id≠none∧∃o,(n+16*b+c,some id,o)∈cV bs hh is is' n x
 |[],b,n,is,is',x,bk,bi,ty,cs,_,_,h,_,_,_,_=>by simp at h
 |b0::r,b,n,[],is',x,bk,bi,ty,cs,hd,_,_,_,_,_,_=>by cases hd
 |b0::r,b,n,i::is,[],x,bk,bi,ty,cs,_,hl,_,_,_,_,_=>by simp at hl
 |b0::r,0,n,i::is,i'::is',x,bk,bi,ty,cs,hd,hl,h1,h2,h3,h4,h5=>by
  obtain⟨g0,g3⟩:=fX hd;simp only[List.getElem?_cons_zero,Option.some.injEq]at h1 h2;subst h1;subst h2
  cases b0 with
  |own ok=>simp[BK.eC,ic]at h4
  |box ty0 c0 =>
   obtain⟨cs',g1,g2⟩:=u9 g0;rw[g1]at h3
   cases h3
   obtain⟨h6,o,h7⟩:=AF c0 c n cs x.1 g2 h4 h5
   grind [cV,fC,rB,List.mem_append_left,List.mem_cons_of_mem]
 |b0::r,b+1,n,i::is,i'::is',x,bk,bi,ty,cs,hd,hl,h1,h2,h3,h4,h5=>by
  obtain⟨_,g3⟩:=fX hd;obtain⟨h6,o,h7⟩:=D8 r b (n+16) is is' x.2 bk bi ty cs g3 (by simpa using hl) (by simpa using h1) (by simpa using h2) h3 h4 h5
  grind [cV,List.mem_append_right]
theorem D9{c:List CK}{cs:List AV}{id s off:Nat}{a:Nat×Nat×Nat}(h:Dy c cs id s off a=true):cs[oI c a.1]? = some (.bO id)∧s=a.2.1∧off=a.2.2∧ic c a.1=true:=by
 simp only[Dy,Bool.and_eq_true,decide_eq_true_eq]at h;obtain⟨h1,h2,h3,h4⟩:=h;refine⟨?_,h2,h3,h4⟩;unfold Ud at h1
 grind
theorem Se{bs:List BK}{hh:Heap}{ids:List Nat}{b:Nat}{alts:List (Nat×Nat×Nat)}{v:AV}{x:Option (Fin alts.length×Nat)}(hd:pG bs hh ids b alts v=some x):(v=.mA∧x=none) ∨ ∃id i a bi bk ty cs,v=.ref id (alts.get a).2.1 i (alts.get a).2.2∧x=some (a,i)∧ids[b]? = some bi∧bs[b]? = some bk∧hh.get bi=some (.box ty cs)∧cs[oI bk.eC (alts.get a).1]? = some (.bO id)∧ic bk.eC (alts.get a).1=true:=by
 unfold pG at hd
 split at hd
 ·simp_all
 ·rename_i id s i off
  split at hd
  ·rename_i bi bk h1 h2
   split at hd
   ·rename_i ty cs h3
    split at hd
    ·rename_i a h4
     cases hd
     have h4':Dy bk.eC cs id s off (alts.get a)=true:=by grind
     obtain⟨h5,rfl,rfl,h6⟩:=D9 h4';exact .inr ⟨id,i,a,bi,bk,ty,cs,rfl,rfl,h1,h2,h3,h5,h6⟩
    ·cases hd
   ·cases hd
  ·cases hd
 ·cases hd
theorem vf{bs:List BK}{hh:Heap}{ids is' ids2:List Nat}{nb:Nat}{yb:BC bs}(g:Good Z ψ hh.get w B0 O)(hz:∀b,Z b→Z' b)(hb:dK bs hh ids=some yb)(hl:is'.length=bs.length) (UG:∀e∈cV bs hh ids is' nb yb,h' e.1≠none→ψ' e.1=kR ψ e.2.1):∀(rs:List RK) (vs:List AV) (m:Nat) (x:np rs) (us:List Value),bR bs rs hh ids vs=some x →(∀id b,AV.bO id∈iu rs vs→hh.get id≠none→ob (ψ id)=some b→Z' b)→(∀e∈c9 rs vs m x,h' e.1≠none→ψ' e.1=kR ψ e.2.1)→az Z ψ hh.get w vs us→az Z' ψ' h' w (aY rs ids2 nb m x) us
 |[],vs,m,x,us,hd,_,_,hr=>by
  have:=jh [] vs x hd
  grind [List.eq_nil_of_length_eq_zero,aY,az]
 |.val k::r,vs,m,x,us,hd,hf,kz,hr=>by obtain⟨v,jt,rfl,h1,h2⟩:=rE hd;simp only[az]at hr;obtain⟨u,jD,rfl,h3,h4⟩:=hr;simp only[aY,az];simp only[iu]at hf;exact⟨u,jD,rfl,uZ g hz (fun id b bM=>hf id b (abr _ bM)) h1 h3,vf g hz hb hl UG r jt (m+1) x.2 jD h2 (fun id b bM=>hf id b (abw _ bM)) kz h4⟩
 |.own ok::r,vs,m,x,us,hd,hf,kz,hr=>by obtain⟨v,jt,rfl,h1,h2⟩:=rF hd;simp only[az]at hr;obtain⟨u,jD,rfl,h3,h4⟩:=hr;simp only[aY,az];simp only[c9,List.headD_cons,List.tail_cons]at kz;exact⟨u,jD,rfl,Jn h1 h3 (fun hn=>kz _ acD hn),vf g hz hb hl UG r jt (m+1) x.2 jD h2 hf (fun e he=>kz e (abg _ he)) h4⟩
 |.fF b alts::r,vs,m,x,us,hd,hf,kz,hr=>by
  obtain⟨v,jt,rfl,h1,h2⟩:=oQ hd;simp only[az]at hr;obtain⟨u,jD,rfl,h3,h4⟩:=hr;simp only[aY,az];refine⟨u,jD,rfl,?_,vf g hz hb hl UG r jt (m+1) x.2 jD h2 hf kz h4⟩;rcases Se h1 with⟨rfl,h5⟩|⟨id,i,al,bi,bk,ty,cs,rfl,h5,h6,h7,h8,h9,q6⟩
  ·grind [xX,aD]
  ·have:x.1=some (al,i):=h5;rw[this];obtain⟨GB,o,Uz⟩:=D8 bs b nb ids is' yb bk bi ty cs hb hl h7 h6 h8 q6 h9;simp only[xX,aD]at h3 ⊢;obtain⟨ad,YI,h14⟩:=h3;refine⟨ad,YI,fun hn=>?_⟩;rw[UG _ Uz hn,h14 GB];rfl
 |.agg c::r,vs,m,x,us,hd,hf,kz,hr=>by obtain⟨cs,jt,rfl,h1,h2⟩:=rG hd;simp only[az]at hr;obtain⟨u,jD,rfl,h3,h4⟩:=hr;simp only[aY,az];simp only[iu,AV.cells]at hf;simp only[c9,List.headD_cons,List.tail_cons,AV.cells]at kz;refine⟨u,jD,rfl,?_,vf g hz hb hl UG r jt (m+1) x.2 jD h2 (fun id b bM=>hf id b (abw _ bM)) (fun e he=>kz e (abw _ he)) h4⟩;simp only[aD]at h3 ⊢;obtain⟨ws,rfl,h5⟩:=h3;exact⟨ws,rfl,u7 g hz c m cs x.1 _ h1 (fun id b bM=>hf id b (abr _ bM)) (fun e he=>kz e (abr _ he)) h5⟩
end Go.Vs
